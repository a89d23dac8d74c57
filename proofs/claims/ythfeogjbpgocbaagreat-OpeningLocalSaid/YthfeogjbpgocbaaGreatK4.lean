/-
  Our own small machine for Go code by value, held against the model: part 4. No program in sight.
-/
import Derived.Test.YthfeogjbpgocbaaGreatK3
import Derived.ChangeArms
import Derived.DataReads
import Derived.Deep.Slices
import Derived.ProofKit
import Derived.RowKit3
import Derived.Below
import Derived.Carry
import Derived.Laws.IdiomArrays
open Option renaming map_eq_some_iff → an, bind_eq_some_iff → bu
open List renaming findIdx?_eq_some_iff_getElem → du, getElem_mem → av, getElem?_eq_getElem → ae, getElem?_eq_some_iff → ai, mem_cons_self → bB, flatten_cons → cw, getElem?_append_left → al, getElem?_append_right → bj, mem_cons_of_mem → bO, take_append_drop → cY, append_nil → c6, take_of_length_le → bA, length_drop → cD, mem_map → cJ, getElem?_map → cE, mem_of_getElem? → aD, getElem?_of_mem → cq, mem_cons → cF, getElem?_set_ne → ag, append_assoc → cQ, take_append_of_le_length → cL, length_map → cC, getElem?_set_self → ax, getElem?_take → bL, getElem?_drop → aM, nil_append → df
open Nat renaming add_mul → cm, mul_le_mul_right → cA, le_refl → aw, le_max_left → bw, le_max_right → ba, le_trans → bk, lt_of_lt_of_le → cr, zero_add → cI
open Bool renaming and_eq_true → am
open Option.some renaming injEq → ab, inj → c7
set_option linter.unusedVariables false
set_option linter.unusedSimpArgs false
set_option linter.unusedSectionVars false
section
namespace Km
open Go
def Kf(tab:Nat→Option AFunc)(f:Nat)(args:List V)(r:V):Prop:=∀ H,∃ J,Ev tab (.fn f) args H r (H++J)
section
variable{tab:Nat→Option AFunc}{f:Nat}{args:List V}{r:V}
theorem Kf.pure{x:FC}(h:Kf tab f args (.c (.f x))):Pure tab f args (.c (.f x)):=by
 obtain⟨J,h⟩:=h []
 exact⟨_,_,h,by simp⟩
theorem Kf.eq{x:FC}(h:Kf tab f args (.c (.f x))):Pure tab f args=Eq (.c (.f x)):=
 funext fun r=>propext ⟨fun k=>h.pure.det k,fun e=>e▸h.pure⟩
theorem Pure.eq{r:V}(h:Pure tab f args r):Pure tab f args=Eq r:=funext fun _=>propext ⟨fun k=>h.det k,fun e=>e▸h⟩
noncomputable def junk (tab:Nat→Option AFunc) (f:Nat) (args:List V) (H:Heap):Heap:=Classical.epsilon fun J=>∃ r,Ev tab (.fn f) args H r (H++J)
theorem Kf.ev(h:Kf tab f args r)(H:Heap):Ev tab (.fn f) args H=E2 r (H++junk tab f args H):=by
 have hj:∃ J,∃ r,Ev tab (.fn f) args H r (H++J):=by obtain⟨J,hJ⟩:=h H;exact⟨J,r,hJ⟩
 have hs:∃ r,Ev tab (.fn f) args H r (H++junk tab f args H):=Classical.epsilon_spec hj
 obtain⟨J,hJ⟩:=h H
 obtain⟨r',hr⟩:=hs
 obtain⟨rfl,e⟩:=hJ.det hr
 funext x H'
 exact propext ⟨fun k=>hr.det k,fun⟨e1,e2⟩=>e1▸e2▸hr⟩
theorem Ev.eq{c:Callee}{H H':Heap}(h:Ev tab c args H r H'):Ev tab c args H=E2 r H':=funext fun _=>funext fun _=>propext ⟨fun k=>h.det k,fun⟨e1,e2⟩=>e1▸e2▸h⟩
def ayL(res:List ARes)(r:V)(H:Heap)(s:St):Prop:=s.defs=[]∧results s.regs s.heap res=some r∧∃ J,s.heap=H++J
theorem jO{ps:List P}{res:List ARes}{body:ah}(ht:tab f=some ⟨ps,res,body⟩)(hl:args.length=ps.length)
  (h:∀(H:Heap) (Q:Option ah→St→Prop),(∀ j s,ayL res r H s→Q j s)→WP tab f none [.code body] ⟨cO ps args .e,[],H⟩ Q):Kf tab f args r:=by
 intro H
 have h':=h H (fun _ s=>ayL res r H s) fun _ _ h=>h
 obtain⟨n,m,d,j,s,h1,hd,h2,J,h3⟩:=h'
 exact⟨J,DW ht hl ⟨n,m,d,j,s,h1,0,0,s.heap,by rw [hd];rfl,by rw [h2],h3⟩⟩
@[simp] theorem aLv {t:T} {H H':Heap} {x:ARes}:ayL [x] r H ⟨t,[],H'⟩↔resOne t H' x=some r∧∃ J,H'=H++J:=by
 simp only [ayL,results,true_and,bf]
 cases resOne t H' x<;>simp
theorem gI{m d:Nat}{x:FC}(h:(CF tab m d (.fn f) args []).map (·.1)=some (.c (.f x))):Pure tab f args (.c (.f x)):=by
 rw [an]at h
 obtain⟨⟨r,H'⟩,h1,h2⟩:=h
 exact⟨r,H',⟨m,d,h1⟩,by rw [show r=.c (.f x) from h2];simp⟩
theorem jA{m d:Nat}{x:V}(h:((CF tab m d (.fn f) args []).bind fun p=>exV deep p.2 p.1)=some x):Pure tab f args x:=by
 rw [bu]at h
 obtain⟨⟨r,H'⟩,h1,h2⟩:=h
 exact⟨r,H',⟨m,d,h1⟩,h2⟩
theorem Cj{b:Bool}(h:∃ m d H',gB tab lZ m d (.fn f) [] []=some (.c (.f (.bool b)),H')):Pure tab f [] (vb b):=by
 obtain⟨m,d,H',h⟩:=h
 exact⟨_,H',⟨m,d,h⟩,by simp⟩
theorem iL{S:V→Prop}{ps:List P}{res:List ARes}{body:ah}(ht:tab f=some ⟨ps,res,body⟩)(hl:args.length=ps.length)
  (h:∀ Q:Option ah→St→Prop,(∀ j s r,S r→wR res r s→Q j s)→WP tab f none [.code body] ⟨cO ps args .e,[],[]⟩ Q):∃ r,S r∧Pure tab f args r:=by
 have h':=h (fun _ s=>∃ r,S r∧wR res r s) fun _ _ r h1 h2=>⟨r,h1,h2⟩
 obtain⟨n,m,d,j,s,h1,r,hr,hd,r0,h2,h3⟩:=h'
 exact⟨r,hr,r0,s.heap,DW ht hl ⟨n,m,d,j,s,h1,0,0,s.heap,by rw [hd];rfl,h2,rfl⟩,h3⟩
variable{fn i:Nat}{ro:Option Nat}{k:List cu}{ds:List eP}{Q:Option ah→St→Prop}
def axO(a x:Nat):ah:=.region [⟨D x,.bin .add (R a) (.k (.c (.f (.int .i64 1)))),none⟩,⟨D a,.mov (R x),none⟩] []
def Fh(i a b c x:Nat)(body:ah):ah:=.seq (.region [⟨D c,.bin .lss (R a) (R b),none⟩] []) (.seq (.cond (R c) .skip (.exit i)) (.seq body (axO a x)))
def Qp(i a b c x:Nat)(body:ah):ah:=.block i (.loop (Fh i a b c x body))
theorem kS{a b c x:Nat}{body:ah}{t:T}{H:Heap}(N:Nat)(I:Nat→T→Heap→Prop)(hN:N≤9223372036854775807)(hab:a≠b)(hxb:x≠b)
  (ha:t.g a=vi 0) (hb:t.g b=vi N) (h0:I 0 t H)
  (step:∀ j t H,j<N→I j t H→t.g a=vi j→t.g b=vi N →
   (∀ t' H',I (j+1) ((t'.s x (vi (j+1:Nat))).s a (vi (j+1:Nat))) H'→t'.g a=vi j→t'.g b=vi N →
    WP tab fn ro (.code (axO a x)::.inLoop (Fh i a b c x body)::.inBlock i::k) ⟨t',ds,H'⟩ Q) →
   WP tab fn ro (.code body::.code (axO a x)::.inLoop (Fh i a b c x body)::.inBlock i::k) ⟨t.s c (vb true),ds,H⟩ Q)
  (done:∀ t H,I N t H→t.g a=vi N→t.g b=vi N→WP tab fn ro k ⟨t.s c (vb false),ds,H⟩ Q) :
  WP tab fn ro (.code (Qp i a b c x body)::k) ⟨t,ds,H⟩ Q:=by
 have hro:∀ ops:List aU,ops.all (·.op.fO)=true→ro=none∨ops.all (·.op.fO)=true:=fun _ h=>.inr h
 refine aH ?_
 refine bF (fun n s=>∃ j t H,s=⟨t,ds,H⟩∧j≤N∧n=N-j∧I j t H∧t.g a=vi j∧t.g b=vi N) N ⟨0,t,H,rfl,by omega,by omega,h0,ha,hb⟩ ?_
 rintro n s ⟨j,t,H,rfl,hj,rfl,hI,ha,hb⟩ ih
 refine ak ?_
 refine aj (hro _ rfl) ?_
 simp [ha,hb]
 by_cases hlt:j<N
 ·rw [decide_eq_true hlt]
  refine ak ?_
  refine aA (by simp) ?_
  refine aF ?_
  refine ak ?_
  refine step j t H hlt hI ha hb fun t' H' hI' ha' hb'=>?_
  refine aj (hro _ rfl) ?_
  simp [ha']
  rw [wrap64 (by omega) (by omega)]
  refine ih (N-(j+1)) _ (by omega) ⟨j+1,_,H',rfl,by omega,rfl,by simpa using hI',by simp,?_⟩
  simp [hab,hxb,hb']
 ·have:j=N:=by omega
  subst this
  rw [decide_eq_false hlt]
  refine ak ?_
  refine ay (by simp) ?_
  refine aZ (k':=k) (by simp [exitTo]) ?_
  exact done t H hI ha hb
def DJ(a x y:Nat):ah:=.region [⟨D x,.mov (R a),none⟩,⟨D y,.bin .add (R x) (.k (.c (.f (.int .i64 1)))),none⟩,⟨D a,.mov (R y),none⟩] []
def Fg(i a c x y:Nat)(hd:List aU)(body:ah):ah:=.seq (.seq (.region hd []) (.cond (R c) .skip (.exit i))) (.seq body (DJ a x y))
def ajF(i a c x y:Nat)(hd:List aU)(body:ah):ah:=.block i (.loop (Fg i a c x y hd body))
theorem ku{a c x y:Nat}{hd:List aU}{body:ah}{t:T}{H:Heap}(N:Nat)(I:Nat→T→Heap→Prop)(hN:N≤9223372036854775807)(hxy:hd.all (·.op.fO)=true)
  (ha:t.g a=vi 0) (h0:I 0 t H)
  (head:∀ j t H (L:St→Prop),j≤N→I j t H→t.g a=vi j→(∀ t',I j t' H→t'.g a=vi j→t'.g c=vb (decide ((j:Int)<(N:Int)))→L ⟨t',ds,H⟩)→OPS tab hd ⟨t,ds,H⟩ L)
  (step:∀ j t H,j<N→I j t H→t.g a=vi j →
   (∀ t' H',I (j+1) (((t'.s x (vi j)).s y (vi (j+1:Nat))).s a (vi (j+1:Nat))) H'→t'.g a=vi j →
    WP tab fn ro (.code (DJ a x y)::.inLoop (Fg i a c x y hd body)::.inBlock i::k) ⟨t',ds,H'⟩ Q) →
   WP tab fn ro (.code body::.code (DJ a x y)::.inLoop (Fg i a c x y hd body)::.inBlock i::k) ⟨t,ds,H⟩ Q)
  (done:∀ t H,I N t H→t.g a=vi N→WP tab fn ro k ⟨t,ds,H⟩ Q) :
  WP tab fn ro (.code (ajF i a c x y hd body)::k) ⟨t,ds,H⟩ Q:=by
 have hro:∀ ops:List aU,ops.all (·.op.fO)=true→ro=none∨ops.all (·.op.fO)=true:=fun _ h=>.inr h
 refine aH ?_
 refine bF (fun n s=>∃ j t H,s=⟨t,ds,H⟩∧j≤N∧n=N-j∧I j t H∧t.g a=vi j) N ⟨0,t,H,rfl,by omega,by omega,h0,ha⟩ ?_
 rintro n s ⟨j,t,H,rfl,hj,rfl,hI,ha⟩ ih
 refine ak ?_
 refine ak ?_
 refine aj (hro _ hxy) ?_
 refine head j t H _ hj hI ha fun t' hI ha hc=>?_
 by_cases hlt:j<N
 ·rw [decide_eq_true (by omega)]at hc
  refine aA hc ?_
  refine aF ?_
  refine ak ?_
  refine step j t' H hlt hI ha fun t' H' hI' ha'=>?_
  refine aj (hro _ rfl) ?_
  simp [ha']
  rw [wrap64 (by omega) (by omega)]
  exact ih (N-(j+1)) _ (by omega) ⟨j+1,_,H',rfl,by omega,rfl,by simpa using hI',by simp⟩
 ·have:j=N:=by omega
  subst this
  rw [decide_eq_false (by omega)]at hc
  refine ay hc ?_
  refine aZ (k':=k) (by simp [exitTo]) ?_
  exact done t' H hI ha
end
end Km
end
section
namespace Km
open Go
def oZ{α:Type}(l:List α)(p:α→Bool):Int:=match l.findIdx? p with | some j=>j | none=>-1
theorem SS{α:Type}(l:List α)(p:α→Bool):decide (0≤oZ l p)=l.any p:=by
 unfold oZ
 cases h:l.findIdx? p with
 | none=>
  rw [List.findIdx?_eq_none_iff]at h
  have:l.any p=false:=by rw [List.any_eq_false];intro x hx;simp [h x hx]
  simp [this]
 | some j=>
  rw [du]at h
  obtain⟨hj,hp,_⟩:=h
  have:l.any p=true:=by rw [List.any_eq_true];exact⟨l[j],av hj,hp⟩
  simp [this]
theorem SV{α:Type}{l:List α}{p:α→Bool}{j:Nat}(hj:j<l.length)(hp:p l[j]=true)(hn:∀(i:Nat) (hi:i<j),p (l[i]'(by omega))=false):oZ l p=j:=by
 have:l.findIdx? p=some j:=by
  rw [du]
  exact⟨hj,hp,fun i hi=>by simp [hn i hi]⟩
 simp [oZ,this]
theorem SQ{α:Type}{l:List α}{p:α→Bool}(hn:∀(i:Nat) (hi:i<l.length),p l[i]=false):oZ l p = -1:=by
 have:l.findIdx? p=none:=by
  rw [List.findIdx?_eq_none_iff]
  intro x hx
  obtain⟨i,hi,rfl⟩:=List.getElem_of_mem hx
  exact hn i hi
 simp [oZ,this]
def ints(l:List Int):List (List FC):=l.map fun n=>[fi n]
@[simp] theorem aKV (l:List Int):(ints l).length=l.length:=by simp [ints]
theorem Gh{j:Nat}{l:List Int}(hj:j<l.length){H:Heap}:ldV H none (.c (.f (.fp (ints l).flatten j)))=some (vi l[j]):=by
 have:=Gg (H:=H) (ae hj)
 simpa [ints]using this
variable{tab:Nat→Option AFunc}
def axP(t:List aU):ah:=.block 1 (.seq (.region [⟨D 10,.mov (R 8),none⟩,⟨D 5,.mov (R 10),none⟩] []) (.seq
 (.region t []) (.cond (R 16) (.seq (.region [⟨D 17,.mov (R 5),none⟩,⟨D 4,.mov (R 17),none⟩] []) .ret) .skip)))
def aK7(t:List aU):AFunc:=⟨[P.nat 0,P.nat 1],[.tmp (P.nat 4)],.seq (.region [⟨D 4,.mov (.k (.c (.f (.int .i64 0)))),none⟩] [])
 (.seq (.seq (.region [⟨D 6,.mov (R 0),none⟩,⟨D 7,.len (R 6),none⟩,⟨D 8,.mov (.k (.c (.f (.int .i64 0)))),none⟩] []) (Qp 0 8 7 9 18 (axP t)))
 (.seq (.region [⟨D 4,.mov (.k (.c (.f (.int .i64 (-1))))),none⟩] []) .ret))⟩
def aBO(sz:Nat)(ld:Option Nat):List aU:=[⟨D 11,.mov (R 1),none⟩,⟨D 12,.mov (R 0),none⟩,⟨D 13,.mov (R 5),none⟩,⟨D 14,.aC sz none (R 12) (R 13),none⟩,⟨D 15,.load ld (R 14),none⟩,⟨D 16,.bH (R 11) [(R 15)] true,none⟩]
theorem aF8{f:Nat}{test:List aU}(ht:tab f=some (aK7 test)){x y:V}{α:Type}{l:List α}{p:α→Bool}(hl:l.length≤9223372036854775807)
  (hx:∃ c,x=.c c∧∀ H,bJ H c=some l.length)
  (aLb:∀(j:Nat) (hj:j<l.length) (t:T) (H:Heap) (L:St→Prop),t.g 0=x→t.g 1=y→t.g 5=vi j →
   (∀ t' J,t'.g 0=x→t'.g 1=y→t'.g 5=vi j→t'.g 7=t.g 7→t'.g 8=t.g 8→t'.g 16=vb (p l[j])→L ⟨t',[],H++J⟩)→OPS tab test ⟨t,[],H⟩ L) :
  Kf tab f [x,y] (vi (oZ l p)):=by
 obtain⟨c,rfl,hc⟩:=hx
 refine jO ht rfl fun H Q hQ=>?_
 refine ak ?_
 refine aj (.inl rfl) ?_
 simp
 refine ak ?_
 refine ak ?_
 refine aj (.inl rfl) ?_
 simp [hc]
 refine kS l.length (fun j t H'=>t.g 0=.c c∧t.g 1=y∧(∃ J,H'=H++J)∧∀(i:Nat) (hi:i<l.length),i<j→p l[i]=false) hl (by decide) (by decide) (by simp) (by simp) (by simp) ?_ ?_
 ·rintro j t _ hj ⟨h0,h1,⟨J,rfl⟩,h2⟩ ha hb next
  refine aH ?_
  refine ak ?_
  refine aj (.inl rfl) ?_
  simp [ha]
  refine ak ?_
  refine aj (.inl rfl) ?_
  refine aLb j hj _ _ _ (by simp [h0]) (by simp [h1]) (by simp) fun t' J' g0 g1 g5 g7 g8 g16=>?_
  cases hv:p l[j]with
  | true=>
   refine aA (by simp [g16,hv]) ?_
   refine ak ?_
   refine aj (.inl rfl) ?_
   simp [g5]
   refine aO (hQ _ _ ?_)
   have:=SV hj hv (fun i hi=>h2 i (by omega) hi)
   simp [this]
  | false=>
   refine ay (by simp [g16,hv]) ?_
   refine aF (aI (next _ _ ?_ (by simp [g8,ha]) (by simp [g7,hb])))
   refine⟨by simp [g0],by simp [g1],⟨J++J',by simp⟩,fun i hi hij=>?_⟩
   by_cases e:i=j
   ·subst e;exact hv
   ·exact h2 i hi (by omega)
 ·rintro t _ ⟨h0,h1,⟨J,rfl⟩,h2⟩ ha hb
  refine ak ?_
  refine aj (.inl rfl) ?_
  simp
  refine aO (hQ _ _ ?_)
  have:=SQ (l:=l) (p:=p) (fun i hi=>h2 i hi hi)
  simp [this]
theorem xM{f sz:Nat}{ld:Option Nat}(ht:tab f=some (aK7 (aBO sz ld))){α:Type}(l:List α)(enc:α→List FC)(val:α→V)(p:α→Bool)(g:Tg)(k:Nat)(caps:List FC)
  (hl:l.length≤9223372036854775807) (hload:∀(j:Nat) (hj:j<l.length) (H:Heap),ldV H ld (.c (.f (.fp (l.map enc).flatten (j*sz))))=some (val l[j]))
  (hp:∀ x ∈ l,Kf tab k (val x::caps.map fun c=>.c (.f c)) (vb (p x))) :
  Kf tab f [.c (.f (sl g (l.map enc))),.c (.f (.fn k caps))] (vi (oZ l p)):=by
 refine aF8 ht hl ⟨_,rfl,fun H=>by simp⟩ ?_
 intro j hj t H L h0 h1 h5 hL
 have he:=(hp l[j] (av hj)).ev H
 have hi:=iD (H:=H) (g:=g) (rows:=l.map enc) (sz:=sz) (k:=.i64) (i:=(j:Int)) (by omega) (by simpa using hj)
 simp [aBO,h0,h1,h5,hi,hload j hj,he]
 exact hL _ _ (by simp [h0]) (by simp [h1]) (by simp [h5]) (by simp) (by simp) (by simp)
def Tj(f:Nat):AFunc:=⟨[P.nat 0,P.nat 1],[.tmp (P.nat 4)],.seq (.region [⟨D 4,.mov (.k (.c (.f (.bool false)))),none⟩] []) (.seq
 (.region [⟨D 5,.mov (R 0),none⟩,⟨D 6,.mov (R 1),none⟩,⟨D 7,.call f [(R 5),(R 6)] false,none⟩,⟨D 8,.bin .geq (R 7) (.k (.c (.f (.int .i64 0)))),none⟩,⟨D 4,.mov (R 8),none⟩] []) .ret)⟩
theorem qJ{f k:Nat}(ht:tab f=some (Tj k)){a b:FC}{α:Type}{l:List α}{p:α→Bool}(h:Kf tab k [.c (.f a),.c (.f b)] (vi (oZ l p))) :
  Kf tab f [.c (.f a),.c (.f b)] (vb (l.any p)):=by
 refine jO ht rfl fun H Q hQ=>?_
 refine ak ?_
 refine aj (.inl rfl) ?_
 simp
 refine ak ?_
 refine aj (.inl rfl) ?_
 have he:=h.eq
 simp [he]
 refine aO (hQ _ _ ?_)
 simp [SS]
end Km
end
section
namespace Km
open Go
theorem aN{H:Heap}{b:Nat}{x:Blk}(h:H[b]?=some x):b<H.length:=(ai.1 h).1
theorem mX{α β:Type}{g:α→Option β}:∀ {xs xs':List α} {ys ys':List β},bf g xs=some ys→bf g xs'=some ys'→bf g (xs++xs')=some (ys++ys')
 | [],xs',ys,ys',h,h'=>by simp [bf]at h;subst h;simpa using h'
 | x::xs,xs',ys,ys',h,h'=>by
  simp only [bf,List.cons_append]at h ⊢
  cases hx:g x with
  | none=>simp [hx]at h
  | some y=>
   cases hxs:bf g xs with
   | none=>simp [hx,hxs]at h
   | some zs=>simp [hx,hxs]at h;subst h;simp [mX hxs h']
variable{z:Bool}{H H':Heap}{sz bytes:Nat}{v y:V}{g:Tg}{rows:List (List FC)}{row:List FC}{cs:List C}
theorem D8{b fl c:Nat}(h:H[b]?=some (.box cs fl))(hc:cs.length=sz):gY H sz (.c (.sl b 0 1 c 0 sz))=some (1,cs):=by
 simp [gY,bJ,dX,h,hc]
 rw [←hc,List.take_length]
end Km
end
section
namespace Km
open Go
def Ig(P:Program):List Field→Nat→Nat→Bool
 | [],o,n=>o == n
 | f::fs,o,n=>f.offset == o&&Ig P fs (o+P.cellsOf f.type) n
def jf(P:Program):Nat→TypeId→Bool
 | 0,_=>false
 | n+1,t=>match P.underlying t with
  | some .bool=>P.cellsOf t == 1
  | some (.int _)=>P.cellsOf t == 1
  | some .string=>P.cellsOf t == 1
  | some (.slice e)=>P.cellsOf t == 1&&P.cellsOf e != 0&&jf P n e
  | some (.struct fs)=>Ig P fs.toList 0 (P.cellsOf t)&&fs.toList.all fun f=>jf P n f.type
  | some (.array k e)=>P.cellsOf t == k*P.cellsOf e&&jf P n e
  | _=>false
def D9(S:TypeId→List FC→Prop):List TypeId→List FC→Prop
 | [],xs=>xs=[]
 | t::ts,xs=>∃ p q,xs=p++q∧S t p∧D9 S ts q
def Shp(P:Program):Nat→TypeId→List FC→Prop
 | 0,_,_=>False
 | n+1,t,xs=>match P.underlying t with
  | some .bool=>∃ b,xs=[.bool b]
  | some (.int k)=>∃ m,xs=[.int k m]∧(Lit.int k m).wf=true
  | some .string=>∃ s,xs=[.str s]∧s.size≤maxLen
  | some (.slice e)=>∃ g rows,xs=[sl g rows]∧Grid (P.cellsOf e) rows∧rows.length≤maxLen∧∀ r ∈ rows,Shp P n e r
  | some (.struct fs)=>D9 (Shp P n) (fs.toList.map (·.type)) xs
  | some (.array k e)=>∃ rows,xs=rows.flatten∧rows.length=k∧Grid (P.cellsOf e) rows∧∀ r ∈ rows,Shp P n e r
  | _=>False
theorem flat_get{α:Type}{sz:Nat}:∀ {rows:List (List α)} {j k:Nat} {row:List α},(∀ r ∈ rows,r.length=sz)→rows[j]?=some row→k<sz→rows.flatten[j*sz+k]?=row[k]?
 | [],j,k,row,_,hj,_=>by simp at hj
 | r::rows,0,k,row,hg,hj,hk=>by
  simp at hj;subst hj
  have:=hg r bB
  rw [cw,al (by omega)]
  simp
 | r::rows,j+1,k,row,hg,hj,hk=>by
  have hr:=hg r bB
  rw [cw,bj (by rw [hr,cm];omega)]
  have e:(j+1)*sz+k-r.length=j*sz+k:=by rw [hr,cm];omega
  rw [e]
  exact flat_get (rows:=rows) (fun x hx=>hg x (bO _ hx)) (by simpa using hj) hk
theorem Jw{α:Type}{sz:Nat}:∀ {rows:List (List α)},(∀ r ∈ rows,r.length=sz)→rows.flatten.length=rows.length*sz
 | [],_=>by simp
 | r::rows,h=>by
  have:=Jw (rows:=rows) fun x hx=>h x (bO _ hx)
  simp only [cw,List.length_append,List.length_cons,this,h r bB,cm,Nat.one_mul]
  omega
def Ll(w:World):Nat→Nat→Prop:=fun c _=>c<w.heap.size
theorem cell_lt{w:World}{a:Addr}{v:Value}(h:w.cell? a=some v):a.block<w.heap.size∧a.spot=none:=by
 unfold World.cell? at h
 split at h
 ·rename_i hb
  split at h
  ·simp at h
  ·rename_i hs
   refine⟨?_,by simpa using hs⟩
   exact(Array.getElem?_eq_some_iff.1 hb).1
 ·simp at h
theorem A2.flatten{α β:Type}{R:α→β→Prop}{xss:List (List α)}{yss:List (List β)}(hl:xss.length=yss.length)
  (h:∀(i:Nat) xs ys,xss[i]?=some xs→yss[i]?=some ys→A2 R xs ys):A2 R xss.flatten yss.flatten:=by
 induction xss generalizing yss with
 | nil=>cases yss with
  | nil=>exact A2.nil
  | cons y ys=>simp at hl
 | cons x xs ih=>cases yss with
  | nil=>simp at hl
  | cons y ys=>
   rw [cw,cw]
   exact(h 0 x y rfl rfl).append (ih (by simpa using hl) fun i a b ha hb=>h (i+1) a b (by simpa using ha) (by simpa using hb))
section
variable{H:Type}{enc:TypeId × Value→H}{P:Program}{w:World}{base:Nat}{spare:Nat→Bool}{held:Bool}{σ:Nat→FuncId}
def aNe(σ:Nat→FuncId)(P:Program)(w:World)(n:Nat)(t:TypeId)(cs:List Value):Prop:=∃ xs,A2 (FCR σ (Ll w) w) xs cs∧Shp P n t xs
theorem yS{n:Nat}(ih:∀ {t:TypeId} {fuel:Nat} {cs:List Value} {x:DataW H × List MemPlace},jf P n t=true→DataW.trod enc P w base spare held fuel t cs=some x→aNe σ P w n t cs∧cs.length=P.cellsOf t)
  {fuel:Nat}:∀(fs:List Field) (o N:Nat) (cs:List Value),Ig P fs o N=true→(fs.all fun f=>jf P n f.type)=true→cs.length=N →
   (∀ f ∈ fs,∃ x,DataW.trod enc P w base spare held fuel f.type ((cs.drop f.offset).take (P.cellsOf f.type))=some x) →
   ∃ xs,A2 (FCR σ (Ll w) w) xs (cs.drop o)∧D9 (Shp P n) (fs.map (·.type)) xs
 | [],o,N,cs,ht,_,hl,_=>by
  simp [Ig]at ht
  exact⟨[],by rw [List.drop_of_length_le (by omega)];exact A2.nil,rfl⟩
 | f::fs,o,N,cs,ht,hs,hl,hx=>by
  simp only [Ig,am,beq_iff_eq]at ht
  simp only [List.all_cons,am]at hs
  obtain⟨x,hx0⟩:=hx f bB
  rw [ht.1]at hx0
  obtain⟨⟨p,hp,sp⟩,hlen⟩:=ih hs.1 hx0
  obtain⟨q,hq,sq⟩:=yS ih fs (o+P.cellsOf f.type) N cs ht.2 hs.2 hl fun g hg=>hx g (bO _ hg)
  refine⟨p++q,?_,p,q,rfl,sp,sq⟩
  have:cs.drop o=(cs.drop o).take (P.cellsOf f.type)++cs.drop (o+P.cellsOf f.type):=by
   rw [←List.drop_drop,cY]
  rw [this]
  exact hp.append hq
theorem ajY(c o n k:Nat):((⟨c,o,none⟩:Addr).add n).add k=⟨c,o+(n+k),none⟩:=by
 unfold Addr.add
 by_cases h1:n=0<;>by_cases h2:k=0<;>simp [h1,h2]
 omega
theorem ahA{t e:TypeId}{k n:Nat}{cs:List Value}{x:DataW H × List MemPlace}(ht:P.underlying t=some (.array k e))(h:DataW.trod enc P w base spare held (n+1) t cs=some x) :
  cs.length=P.cellsOf t∧∀ i,i<k→∃ y,DataW.trod enc P w base spare held n e ((cs.drop (i*P.cellsOf e)).take (P.cellsOf e))=some y:=by
 unfold DataW.trod at h
 rw [ht]at h
 simp only [Option.ite_none_right_eq_some,an]at h
 obtain⟨hl,xs,hp,hd⟩:=h
 refine⟨hl,fun i hi=>?_⟩
 have:=mapM_some_get hp i i (by simp [hi])
 have hlen:xs.length=k:=by simpa using mapM_some_length hp
 rw [ae (by omega)]at this
 exact⟨_,this⟩
theorem DZ{α:Type}{sz:Nat}:∀ {k:Nat} {cs:List α},cs.length=k*sz→cs=((List.range k).map fun i=>(cs.drop (i*sz)).take sz).flatten
 | 0,cs,h=>by simp at h;simp [h]
 | k+1,cs,h=>by
  have h':(cs.take (k*sz)).length=k*sz:=by rw [List.length_take,h,cm];omega
  have ih:=DZ h'
  rw [List.range_succ,List.map_append,List.flatten_append]
  have e:((List.range k).map fun i=>(cs.drop (i*sz)).take sz)=(List.range k).map fun i=>((cs.take (k*sz)).drop (i*sz)).take sz:=by
   refine List.map_congr_left fun i hi=>?_
   have hi':i<k:=by simpa using hi
   have:(i+1)*sz≤k*sz:=cA _ hi'
   rw [cm]at this
   rw [List.drop_take,List.take_take,Nat.min_eq_left (by omega)]
  rw [e,←ih]
  simp only [List.map_cons,List.map_nil,cw,List.flatten_nil,c6]
  have:(cs.drop (k*sz)).take sz=cs.drop (k*sz):=bA (by rw [cD,h,cm];omega)
  rw [this,cY]
theorem aP9{n:Nat}:∀ {t:TypeId} {fuel:Nat} {cs:List Value} {x:DataW H × List MemPlace},jf P n t=true→DataW.trod enc P w base spare held fuel t cs=some x →
  aNe σ P w n t cs∧cs.length=P.cellsOf t:=by
 induction n with
 | zero=>intro t fuel cs x hs;simp [jf]at hs
 | succ n ih=>
  intro t fuel cs x hs h
  simp only [jf]at hs
  split at hs
  ·rename_i ht
   obtain⟨b,rfl,_⟩:=DataW.trod_bool ht h
   exact⟨⟨[.bool b],.cons (.bool b) .nil,by simp only [Shp,ht];exact⟨b,rfl⟩⟩,by simp at hs;simp [hs]⟩
  ·rename_i k ht
   obtain⟨m,rfl,_,hw⟩:=DataW.trod_int ht h
   exact⟨⟨[.int k m],.cons (.int k m) .nil,by simp only [Shp,ht];exact⟨m,rfl,hw⟩⟩,by simp at hs;simp [hs]⟩
  ·rename_i ht
   obtain⟨s,rfl,_,hw⟩:=DataW.trod_string ht h
   exact⟨⟨[.str s],.cons (.str s) .nil,by simp only [Shp,ht];exact⟨s,rfl,hw⟩⟩,by simp at hs;simp [hs]⟩
  ·rename_i e ht
   simp only [am,beq_iff_eq,bne_iff_ne]at hs
   obtain⟨⟨h1,hsz⟩,he⟩:=hs
   rcases DataW.trod_slice ht h with⟨rfl,_⟩ | ⟨a,len,cap,elems,rest,m,_,rfl,_,hb,hl,hm,hlen,hel,_,_⟩
   ·exact⟨⟨[sl .nil []],.cons .aB .nil,by simp only [Shp,ht];exact⟨.nil,[],rfl,fun r hr=>by simp at hr,by simp,fun r hr=>by simp at hr⟩⟩,by simpa using h1.symm⟩
   ·refine⟨?_,by simpa using h1.symm⟩
    have each:∀ i,i<len→∃ p:List Value × List FC,w.cells? base (a.add (i*P.cellsOf e)) (P.cellsOf e)=some p.1∧A2 (FCR σ (Ll w) w) p.2 p.1∧Shp P n e p.2:=by
     intro i hi
     have:=hel i hi
     rw [ae (by omega)]at this
     obtain⟨cs',h1,h2⟩:=bu.1 this
     obtain⟨⟨xs,ha,hs⟩,_⟩:=ih he h2
     exact⟨(cs',xs),h1,ha,hs⟩
    obtain⟨p,hp⟩:=Go.Deep.choose_lt each
    by_cases h0:len=0
    ·subst h0
     refine⟨[sl .fs []],.cons (.fs0 a cap) .nil,?_⟩
     simp only [Shp,ht]
     exact⟨.fs,[],rfl,fun r hr=>by simp at hr,by simp,fun r hr=>by simp at hr⟩
    have hspot:a.spot=none:=by
     have:=hp 0 (by omega)
     obtain⟨_,hl0,hc0⟩:=World.cells?_some this.1
     have:=hc0 0 (by omega)
     rw [ae (by omega)]at this
     have:=(cell_lt this).2
     simpa [Addr.add]using this
    obtain⟨c,o,sp⟩:=a
    simp only at hspot
    subst hspot
    let vss:=(List.range len).map fun i=>(p i).1
    let rows:=(List.range len).map fun i=>(p i).2
    have hv:∀ v ∈ vss,v.length=P.cellsOf e:=by
     intro v hv
     obtain⟨i,hi,rfl⟩:=cJ.1 hv
     exact(World.cells?_some (hp i (by simpa using hi)).1).2.1
    have hg:Grid (P.cellsOf e) rows:=by
     intro r hr
     obtain⟨i,hi,rfl⟩:=cJ.1 hr
     obtain⟨h1,h2,_⟩:=hp i (by simpa using hi)
     rw [h2.len,(World.cells?_some h1).2.1]
    have hA:A2 (FCR σ (Ll w) w) rows.flatten vss.flatten:=by
     refine A2.flatten (by simp [rows,vss]) fun i xs ys hx hy=>?_
     simp only [rows,vss,cE,an]at hx hy
     obtain⟨i1,e1,rfl⟩:=hx
     obtain⟨i2,e2,rfl⟩:=hy
     rw [e1]at e2
     cases e2
     have:=aD e1
     exact(hp i1 (by simpa using this)).2.1
    have hcell:∀ i u,vss.flatten[i]?=some u→w.cell? ⟨c,o+i,none⟩=some u:=by
     intro i u hu
     have hi:i<vss.flatten.length:=(ai.1 hu).1
     rw [Jw hv]at hi
     have hvl:vss.length=len:=by simp [vss]
     rw [hvl]at hi
     have hq:i / P.cellsOf e<len:=Nat.div_lt_of_lt_mul (by rw [Nat.mul_comm];exact hi)
     have hk:i % P.cellsOf e<P.cellsOf e:=Nat.mod_lt _ (by omega)
     have hi':i=i / P.cellsOf e*P.cellsOf e+i % P.cellsOf e:=by rw [Nat.mul_comm];exact(Nat.div_add_mod _ _).symm
     have hrow:vss[i / P.cellsOf e]?=some (p (i / P.cellsOf e)).1:=by simp [vss,hq]
     rw [hi',flat_get hv hrow hk]at hu
     obtain⟨_,_,hc⟩:=World.cells?_some (hp _ hq).1
     have:=hc _ hk
     rw [hu]at this
     rw [←this,ajY,←hi']
    refine⟨[sl .fs rows],.cons ?_ .nil,?_⟩
    ·have hne:rows≠[]:=by simp [rows];omega
     have hrl:rows.length=len:=by simp [rows]
     have:sl Tg.fs rows=.fs rows.flatten len:=by
      cases hr:rows with
      | nil=>exact absurd hr hne
      | cons r rs=>simp only [sl,List.isEmpty_cons,Bool.false_eq_true,if_false];rw [←hr,hrl]
     rw [this]
     refine .fs rows.flatten len c o cap vss.flatten hl hA.len.symm (fun i hi=>?_) hcell fun i x u hx hu=>hA.2 i x u hx hu
     have hi':i<vss.flatten.length:=by rw [←hA.len];exact hi
     exact(cell_lt (hcell i _ (ae hi'))).1
    ·simp only [Shp,ht]
     have hrl:rows.length=len:=by simp [rows]
     refine⟨.fs,rows,rfl,hg,by omega,fun r hr=>?_⟩
     obtain⟨i,hi,rfl⟩:=cJ.1 hr
     exact(hp i (by simpa using hi)).2.2
  ·rename_i fs ht
   simp only [am]at hs
   obtain⟨xs,m,_,_,hl,_,hx⟩:=DataW.trod_struct ht h
   refine⟨?_,hl⟩
   obtain⟨ys,h1,h2⟩:=yS (n:=n) (fuel:=m) ih fs.toList 0 _ cs hs.1 hs.2 hl fun f hf=>by
    obtain⟨i,hi⟩:=cq hf
    rw [Array.getElem?_toList]at hi
    have:=hx i f hi
    rw [this]
    have hlt:i<fs.size:=(Array.getElem?_eq_some_iff.1 hi).1
    exact⟨_,ae (by omega)⟩
   exact⟨ys,by simpa using h1,by simp only [Shp,ht];exact h2⟩
  ·rename_i k e ht
   simp only [am,beq_iff_eq]at hs
   obtain⟨hct,he⟩:=hs
   cases fuel with
   | zero=>simp [DataW.trod]at h
   | succ m=>
   obtain⟨hl,hx⟩:=ahA ht h
   refine⟨?_,hl⟩
   have each:∀ i,i<k→∃ q:List FC,A2 (FCR σ (Ll w) w) q ((cs.drop (i*P.cellsOf e)).take (P.cellsOf e))∧Shp P n e q:=by
    intro i hi
    obtain⟨y,hy⟩:=hx i hi
    obtain⟨⟨q,a,b⟩,_⟩:=ih he hy
    exact⟨q,a,b⟩
   obtain⟨q,hq⟩:=Go.Deep.choose_lt each
   let rows:=(List.range k).map q
   have hcs:cs=((List.range k).map fun i=>(cs.drop (i*P.cellsOf e)).take (P.cellsOf e)).flatten:=DZ (by rw [hl,hct])
   refine⟨rows.flatten,?_,?_⟩
   ·rw [hcs]
    refine A2.flatten (by simp [rows]) fun i xs ys hx hy=>?_
    simp only [rows,cE,an]at hx hy
    obtain⟨i1,e1,rfl⟩:=hx
    obtain⟨i2,e2,rfl⟩:=hy
    rw [e1]at e2
    cases e2
    have:=aD e1
    exact(hq i1 (by simpa using this)).1
   ·simp only [Shp,ht]
    refine⟨rows,rfl,by simp [rows],fun r hr=>?_,fun r hr=>?_⟩
    ·obtain⟨i,hi,rfl⟩:=cJ.1 hr
     have hi':i<k:=by simpa using hi
     rw [(hq i hi').1.len,List.length_take,cD,hl,hct]
     have:(i+1)*P.cellsOf e≤k*P.cellsOf e:=cA _ hi'
     rw [cm]at this
     omega
    ·obtain⟨i,hi,rfl⟩:=cJ.1 hr
     exact(hq i (by simpa using hi)).2
  ·simp at hs
end
section
variable{P:Program}{n:Nat}{t e:TypeId}{xs:List FC}
theorem ahQ(ht:P.underlying t=some .bool)(h:Shp P (n+1) t xs):∃ b,xs=[.bool b]:=by simpa only [Shp,ht]using h
theorem mQ{k:IntKind}(ht:P.underlying t=some (.int k))(h:Shp P (n+1) t xs):∃ m,xs=[.int k m]∧(Lit.int k m).wf=true:=by simpa only [Shp,ht]using h
theorem xw(ht:P.underlying t=some (.slice e))(h:Shp P (n+1) t xs):∃ g rows,xs=[sl g rows]∧Grid (P.cellsOf e) rows∧rows.length≤maxLen∧∀ r ∈ rows,Shp P n e r:=by simpa only [Shp,ht]using h
theorem sO{fs:Array Field}{ts:List TypeId}(ht:P.underlying t=some (.struct fs))(hts:fs.toList.map (·.type)=ts)(h:Shp P (n+1) t xs):D9 (Shp P n) ts xs:=by
 subst hts;simpa only [Shp,ht]using h
theorem Py{k:Nat}(ht:P.underlying t=some (.array k e))(h:Shp P (n+1) t xs):∃ rows,xs=rows.flatten∧rows.length=k∧Grid (P.cellsOf e) rows∧∀ r ∈ rows,Shp P n e r:=by simpa only [Shp,ht]using h
theorem fQ{S:TypeId→List FC→Prop}{ts:List TypeId}(h:D9 S (t::ts) xs):∃ p q,xs=p++q∧S t p∧D9 S ts q:=h
theorem uT{α:Type}{enc:α→List FC}{p:α→Prop}:∀ {rows:List (List FC)},(∀ r ∈ rows,∃ x,r=enc x∧p x)→∃ l:List α,rows=l.map enc∧∀ x ∈ l,p x
 | [],_=>⟨[],rfl,by simp⟩
 | r::rows,h=>by
  obtain⟨x,rfl,hx⟩:=h r bB
  obtain⟨l,rfl,hl⟩:=uT fun r hr=>h r (bO _ hr)
  exact⟨x::l,rfl,fun y hy=>by
   rcases cF.1 hy with rfl | hy
   ·exact hx
   ·exact hl y hy⟩
end
end Km
end
section
namespace Km
open Go Go.ChangeShapes Go.WideShapes Go.ChangeAt Go.RowKit
def BZ(P:Program)(t:TypeId)(a:V):Prop:=(∃ xs,a=.a (xs.map .f)∧Shp P 40 t xs∧(∃ d,P.underlying t=some d∧((∃ fs,d=.struct fs)∨∃ n e,d=.array n e))) ∨
 (∃ x,a=.c (.f x)∧Shp P 40 t [x])
def zF(P:Program):List TypeId→List V→Prop
 | [],as=>as=[]
 | t::ts,as=>∃ a bs,as=a::bs∧BZ P t a∧zF P ts bs
section
variable{H:Type}{enc:TypeId × Value→H}{P:Program}{W W':World}
theorem CB{f:Func}{s:ChangeSpec}{apart fresh handsOn again:Bool}{args:Array Value}{v:Value}{ds gs:List (DataW H)}{before pa pv:List MemPlace}
  (hW:DataW.Whole enc P f.params.toList s.vars apart W args.toList ds gs before)
  (hres:∀(b:Nat) (sp:Nat→Bool) (hd:Bool),DataW.TrodAll enc P W' b sp hd f.resultTypes.toList (v.resultList f.resultTypes.size) (s.fn H (ds++gs)).results [])
  (hargs:∀ sp:Nat→Bool,(∀ p ∈ before,sp p.block=true)→DataW.TrodAll enc P W' 0 sp true f.params.toList args.toList (s.fn H (ds++gs)).args pa)
  (hvars:∀ sp:Nat→Bool,(∀ p ∈ before,sp p.block=true)→DataW.TrodVars enc P W' sp s.vars (s.fn H (ds++gs)).vars pv)
  (hps:before=pa++pv) (hb:Below W.heap.size W W')
  (hok:∀(j:Nat) (t:TypeId) (r:Value),f.resultTypes[j]?=some t→(v.resultList f.resultTypes.size)[j]?=some r→Value.okWide P W' .any 0 t r) :
  s.post enc P f apart fresh handsOn again W args v W':=by
 have hlt:∀ p ∈ before,p.block<W.heap.size:=fun p hp=>hW.lt p hp
 have hold:∀ p ∈ before,(fun b=>decide (b<W.heap.size)) p.block=true:=fun p hp=>by simpa using hlt p hp
 refine⟨ds,gs,before,[],pa,pv,hW,hres _ _ _,hargs _ hold,hvars _ hold,World.keptBut_mono (fun p hp=>⟨hp,?_⟩) (hb.frame (· ∈ before)),fun _=>?_⟩
 ·rw [hps,List.mem_append]at hp
  exact Or.inr hp
 ·obtain⟨_,_,_,_,_,hz,hn⟩:=hW
  refine⟨hok,_,_,([]++pa)++pv,⟨[]++pa,pv,trodAll_append (hargs _ (fun _ _=>rfl)) (hres _ _ _),hvars _ (fun _ _=>rfl),rfl,?_,?_⟩,?_⟩
  ·intro b off hp
   have hp':MemPlace.cell b off ∈ before:=by rw [hps];simpa using hp
   rw [hb.frozen (p:=⟨b,off,none⟩) (hlt _ hp')]
   exact hz b off hp'
  ·intro ha
   have:=hn ha
   rw [hps]at this
   simpa using this
  ·intro p hp _
   rw [hps]
   simpa using hp
theorem rW(hl:laidOutB P=true){sp:Nat→Bool}(hb:Below W.heap.size W W'):∀ {ts:List TypeId} {vs:List Value} {ds:List (DataW H)} {ps:List MemPlace},
  (ts.all fun t=>P.readableRec t&&decide (t<P.types.size))=true→DataW.TrodAll enc P W 0 (fun _=>true) true ts vs ds ps→(∀ p ∈ ps,p.block<W.heap.size)→(∀ p ∈ ps,sp p.block=true) →
  DataW.TrodAll enc P W' 0 sp true ts vs ds ps
 | [],[],[],ps,_,h,_,_=>h
 | t::ts,v::vs,d::ds,ps,hr,⟨p,q,h1,h2,e⟩,hlt,hs=>by
  subst e
  simp only [List.all_cons,am,decide_eq_true_eq]at hr
  exact⟨p,q,WideElems.Trod_stays hl hr.1.1 hr.1.2 h1 (fun x hx=>hb.same (hlt x (List.mem_append_left _ hx))) (fun x hx=>hs x (List.mem_append_left _ hx)),
   rW hl hb hr.2 h2 (fun x hx=>hlt x (List.mem_append_right _ hx)) (fun x hx=>hs x (List.mem_append_right _ hx)),rfl⟩
 | [],_::_,_,_,_,h,_,_=>by cases h
 | [],[],_::_,_,_,h,_,_=>by cases h
 | _::_,[],_,_,_,h,_,_=>by cases h
 | _::_,_::_,[],_,_,h,_,_=>by cases h
variable{σ:Nat→FuncId}
def X0(W:World):Wd:=⟨fun _=>none,Ll W,[],W,W.heap.size⟩
theorem ahz{xs:List FC}{cs:Array Value}(h:A2 (FCR σ (Ll W) W) xs cs.toList):VR σ (X0 W) (.a (xs.map .f)) (.agg cs):=
 ⟨cs.toList,by simp,A2.map (g:=C.f) (h.weak fun _ _ h=>h)⟩
theorem ajS{t:TypeId}{v:Value}{d:DataW H}{ps:List MemPlace}{base:Nat}{spare:Nat→Bool}{held:Bool}{b0:Nat}(hs:jf P 40 t=true)(hval:Value.okWide P W .any b0 t v)
  (hd:DataW.Trod enc P W base spare held t v d ps):∃ a,VR σ (X0 W) a v∧BZ P t a:=by
 obtain⟨fuel,hf⟩:=hd
 obtain⟨⟨xs,hA,hS⟩,hl⟩:=aP9 (σ:=σ) hs hf
 have scalar:v.cells.toList=[v]→∃ a,VR σ (X0 W) a v∧BZ P t a:=by
  intro hv
  rw [hv]at hA
  match xs,hA.len with
  | [x],_=>exact⟨.c (.f x),hA.of_cons.1,.inr ⟨x,rfl,hS⟩⟩
 unfold jf at hs
 unfold Value.okWide at hval
 split at hval
 ·rename_i fs ht
  obtain⟨cs,rfl,_,_⟩:=hval
  exact⟨_,ahz hA,.inl ⟨xs,rfl,hS,_,ht,.inl ⟨_,rfl⟩⟩⟩
 ·rename_i n e ht
  obtain⟨cs,rfl,_,_⟩:=hval
  exact⟨_,ahz hA,.inl ⟨xs,rfl,hS,_,ht,.inr ⟨_,_,rfl⟩⟩⟩
 ·rename_i h1 h2
  refine scalar ?_
  split at hs
  ·rename_i ht
   obtain⟨b,hb,_⟩:=DataW.trod_bool ht hf
   simp only [Cell.okWide,ht,Cell.ok]at hval
   cases v<;>simp_all [Value.cells]
  ·rename_i ht
   obtain⟨b,hb,_⟩:=DataW.trod_int ht hf
   simp only [Cell.okWide,ht,Cell.ok]at hval
   cases v<;>simp_all [Value.cells]
  ·rename_i ht
   obtain⟨b,hb,_⟩:=DataW.trod_string ht hf
   simp only [Cell.okWide,ht,Cell.ok]at hval
   cases v<;>simp_all [Value.cells]
  ·rename_i ht
   simp only [Cell.okWide,ht,Cell.ok]at hval
   cases v<;>simp_all [Value.cells]
  ·rename_i fs ht;exact absurd ht (h1 fs)
  ·rename_i n e ht;exact absurd ht (h2 n e)
  ·simp at hs
theorem D7{base:Nat}{spare:Nat→Bool}{held:Bool}{b0:Nat}:∀ {ts:List TypeId} {vs:List Value} {ds:List (DataW H)} {ps:List MemPlace},(ts.all fun t=>jf P 40 t)=true →
  (∀(j:Nat) t v,ts[j]?=some t→vs[j]?=some v→Value.okWide P W .any b0 t v)→DataW.TrodAll enc P W base spare held ts vs ds ps →
  ∃ as,A2 (VR σ (X0 W)) as vs∧zF P ts as
 | [],[],[],_,_,_,_=>⟨[],A2.nil,rfl⟩
 | t::ts,v::vs,d::ds,ps,hs,hval,⟨p,q,h1,h2,_⟩=>by
  simp only [List.all_cons,am]at hs
  obtain⟨a,ha,sa⟩:=ajS (σ:=σ) hs.1 (hval 0 t v rfl rfl) h1
  obtain⟨bs,hb,sb⟩:=D7 hs.2 (fun j t v h h'=>hval (j+1) t v (by simpa using h) (by simpa using h')) h2
  exact⟨a::bs,.cons ha hb,a,bs,rfl,sa,sb⟩
 | [],_::_,_,_,_,_,h=>by cases h
 | [],[],_::_,_,_,_,h=>by cases h
 | _::_,[],_,_,_,_,h=>by cases h
 | _::_,_::_,[],_,_,_,h=>by cases h
theorem ayj{n:Nat}{H:Heap}{v:V}{b:Bool}(h:exV (n+1) H v=some (.c (.f (.bool b)))):v=.c (.f (.bool b)):=by
 cases v with
 | top=>simp [exV,dw]at h
 | a xs=>simp [exV,dw]at h
 | t xs=>simp [exV]at h
 | c x=>
  simp only [exV,dw,an]at h
  obtain⟨y,hy,h⟩:=h
  cases h
  cases x with
  | f x=>simpa [exC]using hy
  | ptr b o e=>simp only [exC]at hy;split at hy<;>simp at hy
  | sl b o l c e s=>
   simp only [exC]at hy
   split at hy
   ·split at hy<;>simp at hy
   ·split at hy<;>simp at hy
   ·split at hy<;>simp at hy
   ·split at hy<;>simp at hy
   ·simp at hy
  | cl f caps=>simp [exC]at hy
  | _=>simp [exC]at hy
variable{tab:Nat→Option AFunc}
theorem KU(hE:Env P σ tab lZ){f:Nat}{args:List V}{us:List Value}(h:Pure tab f args (vb true))(W:World)(ha:A2 (VR σ (X0 W)) args us) :
  Calls P (σ f) us.toArray W fun e w'=>e=.returned (.bool true)∧Below W.heap.size W w':=by
 obtain⟨r,H',⟨m,d,h⟩,hr⟩:=h
 have hr:=ayj (n:=63) hr
 subst hr
 intro cs
 let X:=X0 W
 have hS:SR P σ X:=⟨fun b L h=>by simp [X,X0]at h,fun b b' L L' h=>by simp [X,X0]at h,fun c i h=>h⟩
 obtain⟨fr,X',u,h1,⟨l1,l2,l3,l4,fn,l5,l6⟩,h3,h4,h5,h6,h7⟩:=(ajI hE m d).fn f args [] _ H' h X us .normal cs rfl hS (aw _) ha (.inl rfl)
 have hu:=VR.bool h5
 subst hu
 exact⟨.returned (.bool true),X'.w,fr,⟨rfl,⟨h6.os,h6.tape,h6.output,h6.size,fun k hk=>h6.frame k hk (fun b L h=>by simp [X,X0]at h)⟩⟩,h1,l4,l1,l2,l3,fn,by rw [l4];exact l5,l6⟩
theorem ajd(hE:Env P σ tab lZ){s:ChangeSpec}{f:Func}{fi:Nat}{tb:TypeId}(hvars:s.vars=[])(hlaid:laidOutB P=true){ts:List TypeId}(hts:f.params.toList=ts)
  (hfn:∀ ds:List (DataW H),ds.length=ts.length→s.fn H ds=⟨[.lit (.bool true)],ds,[]⟩)
  (hres:f.resultTypes=#[tb]) (htb:P.underlying tb=some .bool) (hread:(ts.all fun t=>P.readableRec t&&decide (t<P.types.size))=true) (axQ:(ts.all fun t=>jf P 40 t)=true)
  (hkm:∀ as,zF P ts as→Pure tab fi as (vb true)) {apart fresh handsOn again:Bool} {base:Nat} {args:Array Value} {ds gs:List (DataW H)} {before:List MemPlace}
  (hval:∀(j:Nat) t v,f.params[j]?=some t→args[j]?=some v→Value.okWide P W .any base t v) (hW:DataW.Whole enc P f.params.toList s.vars apart W args.toList ds gs before) :
  Calls P (σ fi) args W fun e W'=>∃ v,e=.returned v∧s.post enc P f apart fresh handsOn again W args v W':=by
 have hW':=hW
 obtain⟨p,q,hA,hV,hb,hfz,hnd⟩:=hW
 rw [hts]at hA
 rw [hvars]at hV
 obtain⟨rfl,rfl⟩:=trodVars_none hV
 simp only [c6]at hb
 subst hb
 obtain⟨as,h1,h2⟩:=D7 (σ:=σ) (b0:=base) axQ (fun j t v h h'=>hval j t v (by rw [←Array.getElem?_toList,hts];exact h) (by rw [←Array.getElem?_toList];exact h')) hA
 have hlen:ds.length=ts.length:=by
  have:∀ {ts:List TypeId} {vs:List Value} {ds:List (DataW H)} {ps:List MemPlace},DataW.TrodAll enc P W 0 (fun _=>true) true ts vs ds ps→ds.length=ts.length:=by
   intro ts
   induction ts with
   | nil=>intro vs ds ps h;cases vs<;>cases ds<;>first | rfl | cases h
   | cons t ts ih=>intro vs ds ps h;cases vs<;>cases ds<;>first | (obtain⟨_,_,_,h,_⟩:=h;simp [ih h]) | cases h
  exact this hA
 have hfn':=hfn ds hlen
 have hc:=KU hE (hkm as h2) W h1
 rw [Array.toArray_toList]at hc
 refine hc.mono fun e W' h=>?_
 obtain⟨he,hg⟩:=h
 subst he
 refine⟨_,rfl,CB (pa:=before) (pv:=[]) hW' (fun b sp hd=>?_) (fun sp hsp=>?_) (fun sp _=>?_) (by simp) hg ?_⟩
 ·rw [c6,hfn',hres]
  exact trodAll_mk1 (shut_bool htb _)
 ·rw [c6,hfn',hts]
  exact rW hlaid hg hread hA (fun p hp=>hW'.lt p hp) hsp
 ·rw [c6,hfn',hvars]
  exact rfl
 ·exact ok_one hres rfl (okWide_bool_mk htb _)
end
end Km
end
section
namespace Km
open Go
section
variable{tab:Nat→Option AFunc}{f:Nat}{args:List V}{r:V}{fn:Nat}{k:List cu}{t:T}{ds:List eP}{H H':Heap}{Q:Option ah→St→Prop}
theorem xI{x:Arg}{ps:List P}{as bd:ah}{g:Nat}{ar:List V}(hf:bV (x.ev t) [.c (.yl (H.length+1))]=some (.fn g,ar))
  (he:Ev tab (.fn g) ar (H++[.dfr true,.lp fn t ps as bd .ready none H.length]) r H')
  (h:WP tab fn none (.kV (H.length+1)::k) ⟨t,.coll H.length::ds,H'⟩ Q):WP tab fn none (.code (.gK x ps as bd)::k) ⟨t,ds,H⟩ Q:=by
 obtain⟨m,d,he⟩:=he
 obtain⟨n,m',d',j,s',h1,h2⟩:=h
 refine⟨n+1,max m m',max d d',j,s',?_,h2⟩
 have e1:=ny (tab:=tab) (bw m m') (bw d d') _ _ _ _ he
 have e2:=zW (ba m m') (ba d d') (aw n) h1
 simp only [run,hf,e1,e2]
 simp
theorem Jk{ro:Option Nat}{b f' d:Nat}{tm:T}{ps:List P}{as bd:ah}{st:jK}(hb:H[b]?=some (.lp f' tm ps as bd st none d))(hst:st≠.busy)
  (h:WP tab fn ro k ⟨t,ds,H.set b (.lp f' tm ps as bd .exhausted none d)⟩ Q):WP tab fn ro (.kV b::k) ⟨t,ds,H⟩ Q:=by
 refine pV h fun m d n=>?_
 simp only [run,hb,if_neg hst]
theorem vV{ro:Option Nat}{b f' d:Nat}{tm:T}{ps:List P}{as bd:ah}{st:jK}(hb:H[b]?=some (.lp f' tm ps as bd st (some .ret) d))(hst:st≠.busy)
  (h:WP tab fn ro (.code .ret::k) ⟨t,ds,H.set b (.lp f' tm ps as bd .exhausted (some .ret) d)⟩ Q):WP tab fn ro (.kV b::k) ⟨t,ds,H⟩ Q:=by
 refine pV h fun m d n=>?_
 simp only [run,hb,if_neg hst]
theorem Gi{b f' d:Nat}{tm:T}{ps:List P}{as bd:ah}{pd:Option ah}(hb:H[b]?=some (.lp f' tm ps as bd .ready pd d))
  (h:WP tab fn (some b) k ⟨t,ds,H.set b (.lp f' tm ps as bd .busy pd d)⟩ Q):WP tab fn (some b) (.qN::k) ⟨t,ds,H⟩ Q:=by
 refine pV h fun m d n=>?_
 simp only [run,hb]
@[simp] theorem aIz {b:Nat} {as:List V}:bV (.c (.yl b)) as=some (.yield b,as):=rfl
def aNf(b:Nat)(r:V)(H':Heap)(j:Option ah)(s:St):Prop:=s.defs=[]∧∃ f' tm ps as bd st pd d,s.heap[b]?=some (.lp f' tm ps as bd st pd d)∧r=.c (.f (.bool j.isNone)) ∧
 H'=s.heap.set b (.lp f' tm ps as bd (if j.isNone then .ready else .done) j d)
theorem aju{b f' d:Nat}{tm:T}{ps:List P}{as bd:ah}{st:jK}{pd:Option ah}(hb:H[b]?=some (.lp f' tm ps as bd st pd d))(hl:args.length=ps.length)
  (h:WP tab f' (some b) [.code as,.qN,.code bd] ⟨cO ps args tm,[],H⟩ (aNf b r H')):Ev tab (.yield b) args H r H':=by
 obtain⟨n,m,d',j,s,h1,hd,f2,tm2,ps2,as2,bd2,st2,pd2,d2,h2,rfl,rfl⟩:=h
 refine⟨max m n,d'+1,?_⟩
 have e1:run (CF tab (max m n) d') f' (max m n) (some b) [.code as,.qN,.code bd] ⟨cO ps args tm,[],H⟩=some (j,s):=zW (bw m n) (aw d') (ba m n) h1
 simp only [CF]at e1 ⊢
 simp only [gB,hb,hl,if_true,e1,hd,List.isEmpty_nil,h2]
 rfl
theorem qH{C:V→Heap→Prop}{b f' d:Nat}{tm:T}{ps:List P}{as bd:ah}{st:jK}{pd:Option ah}(hb:H[b]?=some (.lp f' tm ps as bd st pd d))(hl:args.length=ps.length)
  (h:∀ Q:Option ah→St→Prop,(∀ j s f2 tm2 ps2 as2 bd2 st2 pd2 d2,s.defs=[]→s.heap[b]?=some (.lp f2 tm2 ps2 as2 bd2 st2 pd2 d2) →
   C (.c (.f (.bool j.isNone))) (s.heap.set b (.lp f2 tm2 ps2 as2 bd2 (if j.isNone then .ready else .done) j d2))→Q j s)→WP tab f' (some b) [.code as,.qN,.code bd] ⟨cO ps args tm,[],H⟩ Q):∃ r H',Ev tab (.yield b) args H r H'∧C r H':=by
 have h':=h (fun j s=>∃ r H',C r H'∧aNf b r H' j s) fun j s f2 tm2 ps2 as2 bd2 st2 pd2 d2 h1 h2 h3=>⟨_,_,h3,h1,f2,tm2,ps2,as2,bd2,st2,pd2,d2,h2,rfl,rfl⟩
 obtain⟨n,m,d',j,s,h1,r,H',h2,h3⟩:=h'
 exact⟨r,H',aju hb hl ⟨n,m,d',j,s,h1,h3⟩,h2⟩
def aIi(res:List ARes)(r:V)(s:St):Prop:=∃ b,s.defs=[.coll b]∧s.heap[b]?=some (.dfr true)∧∃ r0,results s.regs (s.heap.set b (.dfr false)) res=some r0∧exV deep (s.heap.set b (.dfr false)) r0=some r
theorem IQ{S:V→Prop}{ps:List P}{res:List ARes}{body:ah}(ht:tab f=some ⟨ps,res,body⟩)(hl:args.length=ps.length)
  (h:∀ Q:Option ah→St→Prop,(∀ j s r,S r→wR res r s∨aIi res r s→Q j s)→WP tab f none [.code body] ⟨cO ps args .e,[],[]⟩ Q):∃ r,S r∧Pure tab f args r:=by
 have h':=h (fun _ s=>∃ r,S r∧(wR res r s∨aIi res r s)) fun _ _ r h1 h2=>⟨r,h1,h2⟩
 obtain⟨n,m,d,j,s,h1,r,hr,⟨hd,r0,h2,h3⟩ | ⟨b,hd,hb,r0,h2,h3⟩⟩:=h'
 ·exact⟨r,hr,r0,s.heap,DW ht hl ⟨n,m,d,j,s,h1,0,0,s.heap,by rw [hd];rfl,h2,rfl⟩,h3⟩
 ·exact⟨r,hr,r0,s.heap.set b (.dfr false),DW ht hl ⟨n,m,d,j,s,h1,0,0,_,by rw [hd];simp only [fG,hb],h2,rfl⟩,h3⟩
theorem gu{C:V→Heap→Prop}{ps:List P}{res:List ARes}{body:ah}(ht:tab f=some ⟨ps,res,body⟩)(hl:args.length=ps.length)
  (h:∀ Q:Option ah→St→Prop,(∀ j s r,s.defs=[]→results s.regs s.heap res=some r→C r s.heap→Q j s)→WP tab f none [.code body] ⟨cO ps args .e,[],H⟩ Q):∃ r H',Ev tab (.fn f) args H r H'∧C r H':=by
 have h':=h (fun _ s=>s.defs=[]∧∃ r,results s.regs s.heap res=some r∧C r s.heap) fun _ _ r h1 h2 h3=>⟨h1,r,h2,h3⟩
 obtain⟨n,m,d,j,s,h1,hd,r,h2,h3⟩:=h'
 exact⟨r,s.heap,DW ht hl ⟨n,m,d,j,s,h1,0,0,s.heap,by rw [hd];rfl,h2,rfl⟩,h3⟩
end
end Km
end
section
namespace Km
open Go
theorem yH{c:dn}:∀(a b:List aU) (s:St),iI c (a++b) s=(iI c a s).bind (iI c b)
 | [],b,s=>rfl
 | o::a,b,s=>by
  simp only [List.cons_append,iI]
  cases iT c s o with
  | none=>rfl
  | some s'=>exact yH a b s'
theorem zH{c:dn}:∀(os:List aU) (s:St) {s':St},iI c os s=some s'→∃ ss,eU c os s=some ss∧ss.getLast?=some s'∧∀ i,i≤os.length→iI c (os.take i) s=ss[i]?
 | [],s,s',h=>by
  simp only [iI,ab]at h
  subst h
  refine⟨[s],rfl,rfl,fun i hi=>?_⟩
  have:i=0:=by simpa using hi
  subst this
  rfl
 | o::os,s,s',h=>by
  simp only [iI]at h
  cases hs:iT c s o with
  | none=>simp [hs]at h
  | some s1=>
   simp only [hs]at h
   obtain⟨ss,h1,h2,h3⟩:=zH os s1 h
   refine⟨s::ss,by simp only [eU,hs,h1],by rw [List.getLast?_cons,h2];rfl,fun i hi=>?_⟩
   cases i with
   | zero=>rfl
   | succ i=>
    simp only [List.take_succ_cons,iI,hs,List.getElem?_cons_succ]
    exact h3 i (by simpa using hi)
def sH(o:aU)(si sj:St):Prop:=wanted si.regs o.g=some false∨∃ v H1 v' H2,xOp si.regs si.heap o.op=some (v,H1)∧xOp si.regs sj.heap o.op=some (v',H2)∧v.beq v'=true
section
variable{tab:Nat→Option AFunc}{fn:Nat}{ro:Option Nat}{k:List cu}{s:St}{Q:Option ah→St→Prop}
def aBR(tab:Nat→Option AFunc)(ops:List aU)(s:St)(c:Nat × Nat):Prop:=c.2≤ops.length∧∃ o,ops[c.1]?=some o ∧
 ((c.1≤c.2∧OPS tab (ops.take c.1) s fun si=>OPS tab ((ops.drop c.1).take (c.2-c.1)) si fun sj=>sH o si sj) ∨
 (c.2≤c.1∧OPS tab (ops.take c.2) s fun sj=>OPS tab ((ops.drop c.2).take (c.1-c.2)) sj fun si=>sH o si sj))
theorem ahR{ops:List aU}{c:Nat × Nat}(h:aBR tab ops s c):∃ m d o si sj,c.2≤ops.length∧ops[c.1]?=some o∧iI (CF tab m d) (ops.take c.1) s=some si∧iI (CF tab m d) (ops.take c.2) s=some sj∧sH o si sj:=by
 have two:∀(a b:Nat) (K:St→St→Prop),a≤b→OPS tab (ops.take a) s (fun sa=>OPS tab ((ops.drop a).take (b-a)) sa fun sb=>K sa sb) →
   ∃ m d sa sb,iI (CF tab m d) (ops.take a) s=some sa∧iI (CF tab m d) (ops.take b) s=some sb∧K sa sb:=by
  intro a b K hab h
  obtain⟨m,d,sa,h1,h2⟩:=lI _ _ h
  obtain⟨m',d',sb,h3,h4⟩:=lI _ _ h2
  have e1:=eu (ny (tab:=tab) (bw m m') (bw d d')) _ _ h1
  have e3:=eu (ny (tab:=tab) (ba m m') (ba d d')) _ _ h3
  refine⟨max m m',max d d',sa,sb,e1,?_,h4⟩
  have:ops.take b=ops.take a++(ops.drop a).take (b-a):=by
   have hb:b=a+(b-a):=by omega
   conv=>lhs;rw [hb,List.take_add]
  rw [this,yH,e1]
  exact e3
 obtain⟨hj,o,ho,⟨hij,h⟩ | ⟨hji,h⟩⟩:=h
 ·obtain⟨m,d,si,sj,h1,h2,h3⟩:=two _ _ (fun si sj=>sH o si sj) hij h
  exact⟨m,d,o,si,sj,hj,ho,h1,h2,h3⟩
 ·obtain⟨m,d,sj,si,h1,h2,h3⟩:=two _ _ (fun sj si=>sH o si sj) hji h
  exact⟨m,d,o,si,sj,hj,ho,h2,h1,h3⟩
theorem oQ{ops:List aU}{chk:List (Nat × Nat)}(hr:ro=none∨ops.all (·.op.fO)=true)(h:OPS tab ops s fun s'=>WP tab fn ro k s' Q)(hk:∀ c ∈ chk,aBR tab ops s c) :
  WP tab fn ro (.code (.region ops chk)::k) s Q:=by
 obtain⟨m,d,s',h1,n,m',d',j,s2,h2,h3⟩:=lI ops s h
 have hall:∃ M D,∀ c ∈ chk,∃ o si sj,c.2≤ops.length∧ops[c.1]?=some o∧iI (CF tab M D) (ops.take c.1) s=some si∧iI (CF tab M D) (ops.take c.2) s=some sj∧sH o si sj:=by
  clear h1 h2 h
  induction chk with
  | nil=>exact⟨0,0,fun c hc=>by cases hc⟩
  | cons c cs ih=>
   obtain⟨M,D,ih⟩:=ih fun c hc=>hk c (bO _ hc)
   obtain⟨m1,d1,o,si,sj,a1,a2,a3,a4,a5⟩:=ahR (hk c bB)
   refine⟨max M m1,max D d1,fun c' hc'=>?_⟩
   rcases cF.1 hc' with rfl | hc'
   ·have l:=ny (tab:=tab) (ba M m1) (ba D d1)
    exact⟨o,si,sj,a1,a2,eu l _ _ a3,eu l _ _ a4,a5⟩
   ·obtain⟨o,si,sj,a1,a2,a3,a4,a5⟩:=ih c' hc'
    have l:=ny (tab:=tab) (bw M m1) (bw D d1)
    exact⟨o,si,sj,a1,a2,eu l _ _ a3,eu l _ _ a4,a5⟩
 obtain⟨M,D,hall⟩:=hall
 obtain⟨MM,hm1,hm2,hm3⟩:∃ x,m≤x∧m'≤x∧M≤x:=⟨max (max m m') M,by omega,by omega,by omega⟩
 obtain⟨DD,hd1,hd2,hd3⟩:∃ x,d≤x∧d'≤x∧D≤x:=⟨max (max d d') D,by omega,by omega,by omega⟩
 refine⟨n+1,MM,DD,j,s2,?_,h3⟩
 have e1:=eu (ny (tab:=tab) hm1 hd1) ops _ h1
 have e2:=zW hm2 hd2 (aw n) h2
 have hro:(ro.isSome&&!ops.all (·.op.fO))=false:=by
  rcases hr with rfl | hr
  ·rfl
  ·rw [hr];simp
 obtain⟨ss,f1,f2,f3⟩:=zH ops s e1
 have hx:jd (CF tab MM DD) ops chk s=some s':=by
  cases chk with
  | nil=>simpa only [jd]using e1
  | cons x xs=>
   simp only [jd,f1]
   rw [if_pos,f2]
   rw [List.all_eq_true]
   intro c hc
   obtain⟨o,si,sj,a1,a2,a3,a4,a5⟩:=hall c hc
   have l:=ny (tab:=tab) hm3 hd3
   have hi:c.1≤ops.length:=by
    have:=(ai.1 a2).1
    omega
   have b3:=eu l _ _ a3
   have b4:=eu l _ _ a4
   rw [f3 _ hi]at b3
   rw [f3 _ a1]at b4
   simp only [sameAt,a2,b3,b4]
   rcases a5 with hw | ⟨v,H1,v',H2,g1,g2,g3⟩
   ·rw [hw]
   ·split
    ·rfl
    ·simp only [g1,g2,g3]
 simp only [run,hro,hx,e2]
 simp
end
end Km
end
section
namespace Km
open Go
theorem Gs{n:Nat}:∀(l:List C) (H:Heap),(∀ x ∈ l,∃ y,x=.f y)→l.foldl (fun H x=>mkC n x H) H=H
 | [],_,_=>rfl
 | x::l,H,h=>by
  obtain⟨y,rfl⟩:=h x bB
  simp only [List.foldl_cons,Qa]
  exact Gs l H fun x hx=>h x (bO _ hx)
end Km
end
section
namespace Km
open Go
end Km
end
section
namespace Km
open Go
def RB(H:Heap)(b sz ep:Nat)(rows:List (List FC)):Prop:=H[b]?=some (.opn sz (rows.flatten.map .f) 0 ep .loc)
def Fm(b:Nat)(H H':Heap):Prop:=H.length≤H'.length∧∀ b':Nat,b'≠b→b'<H.length→H'[b']?=H[b']?
theorem Fm.refl{b:Nat}(H:Heap):Fm b H H:=⟨aw _,fun _ _ _=>rfl⟩
theorem Fm.trans{b:Nat}{H H' H'':Heap}(h:Fm b H H')(h':Fm b H' H''):Fm b H H'':=
 ⟨bk h.1 h'.1,fun b' e l=>(h'.2 b' e (cr l h.1)).trans (h.2 b' e l)⟩
theorem Fm.push{b:Nat}(H J:Heap):Fm b H (H++J):=⟨by simp,fun b' _ l=>al l⟩
theorem Fm.set{b:Nat}(H:Heap)(x:Blk):Fm b H (H.set b x):=⟨by simp,fun b' e _=>ag (Ne.symm e)⟩
theorem Fm.get{b:Nat}{H H':Heap}(h:Fm b H H'){b':Nat}{x:Blk}(hb:H[b']?=some x)(e:b'≠b):H'[b']?=some x:=by rw [h.2 b' e (aN hb)];exact hb
theorem Iu{sz:Nat}{row:List FC}(hr:row.length=sz):∀ {rows:List (List FC)} {j:Nat},Grid sz rows→j<rows.length →
  rows.flatten.take (j*sz)++row++rows.flatten.drop (j*sz+sz)=(rows.set j row).flatten
 | [],_,_,hj=>by simp at hj
 | r::rows,0,hg,_=>by
  have:=hg r bB
  subst this
  simp
 | r::rows,j+1,hg,hj=>by
  have hr0:=hg r bB
  have ih:=Iu hr (rows:=rows) (j:=j) (fun x hx=>hg x (bO _ hx)) (by simpa using hj)
  simp only [cw,List.set_cons_succ]
  rw [←ih]
  have e1:(j+1)*sz=r.length+j*sz:=by rw [hr0,cm];omega
  have e2:(j+1)*sz+sz=r.length+(j*sz+sz):=by omega
  rw [e2,e1,List.take_append,List.drop_append]
  simp [bA,cQ]
section
variable{H:Heap}{b sz ep j:Nat}{rows:List (List FC)}{row:List FC}
theorem RB.lt(h:RB H b sz ep rows):b<H.length:=aN h
theorem RB.push(h:RB H b sz ep rows)(J:Heap):RB (H++J) b sz ep rows:=by
 unfold RB at *;rw [al (aN h)];exact h
theorem RB.len(h:RB H b sz ep rows){o l c:Nat}:bJ H (.sl b o l c ep sz)=some l:=by
 unfold RB at h;simp [bJ,h]
theorem RB.idx(h:RB H b sz ep rows){n c:Nat}{k:IntKind}{i:Int}(h0:0≤i)(hi:i<n){o:Nat}:aV H sz none (.c (.sl b o n c ep sz)) (.c (.f (.int k i)))=some (.c (.ptr b (o+i.toNat*sz) ep)):=by
 unfold RB at h
 simp only [aV,jm,h0,hi,if_true,h,and_self]
theorem RB.ldr(h:RB H b sz ep rows)(hg:Grid sz rows)(hj:rows[j]?=some row):ldV H (some sz) (.c (.ptr b (j*sz) ep))=some (.a (row.map .f)):=by
 unfold RB at h
 have hlen:row.length=sz:=hg row (aD hj)
 have:=AZ (k:=0) hg hj (by omega)
 simp only [aG,h,if_true]
 rw [←List.map_drop]
 rw [Nat.add_zero]at this
 rw [this]
 have h1:(row.map C.f++((rows.drop (j+1)).flatten.map C.f)).take sz=row.map C.f:=by
  rw [cL (by simp [hlen]),bA (by simp [hlen])]
 simp [hlen]
theorem RB.str(h:RB H b sz ep rows)(hg:Grid sz rows)(hj:j<rows.length)(hr:row.length=sz) :
  ∃ H',stC H (.ptr b (j*sz) ep) (row.map .f)=some H'∧RB H' b sz ep (rows.set j row)∧Fm b H H'∧H'.length=H.length:=by
 have hl:=kH hg
 have hjl:(j+1)*sz≤rows.length*sz:=cA _ hj
 have hin:j*sz+sz≤rows.flatten.length:=by rw [hl];rw [cm]at hjl;omega
 unfold RB at h ⊢
 refine⟨H.set b (.opn sz ((rows.set j row).flatten.map .f) 0 ep .loc),?_,?_,Fm.set _ _,by simp⟩
 ·simp only [bI,h,Nat.zero_le,true_and,cC,hr,hin,if_true]
  rw [←Iu hr hg hj]
  simp [over,hr]
 ·exact ax (aN h)
end
theorem res_one{t:T}{H:Heap}{x:ARes}{r:V}(h:resOne t H x=some r):Km.results t H [x]=some r:=by
 simp [Km.results,bf,h]
@[simp] theorem aNp {t:T} {H:Heap} (sz:Nat) (zs:List FC) (x:Arg):xOp t H (.clear sz zs x)=(Bh H sz zs (x.ev t)).map (.t [],·):=rfl
@[simp] theorem aNC {a b:Int}:Jf false [vi a,vi b]=some (vi (max a b)):=by
 have:(if a<b then b else a)=max a b:=by split<;>omega
 simp only [Jf,Au,Jg]
 simp [this,V.int]
@[simp] theorem aNB {a b:Int}:Jf true [vi a,vi b]=some (vi (min a b)):=by
 have:(if b<a then b else a)=min a b:=by split<;>omega
 simp only [Jf,Au,Jg]
 simp [this,V.int]
end Km
end
section
namespace Km
open Go
def swp(l:List (List FC))(i j:Nat):List (List FC):=(l.set i (l.getD j [])).set j (l.getD i [])
def Seg(a b:Nat)(l l':List (List FC)):Prop:=l'.Perm l∧l'.take a=l.take a∧l'.drop b=l.drop b
theorem Seg.refl(a b:Nat)(l:List (List FC)):Seg a b l l:=⟨.refl _,rfl,rfl⟩
theorem Seg.trans{a b:Nat}{l l' l'':List (List FC)}(h:Seg a b l l')(h':Seg a b l' l''):Seg a b l l'':=⟨h'.1.trans h.1,h'.2.1.trans h.2.1,h'.2.2.trans h.2.2⟩
theorem Seg.len{a b:Nat}{l l':List (List FC)}(h:Seg a b l l'):l'.length=l.length:=h.1.length_eq
theorem Seg.lt{a b:Nat}{l l':List (List FC)}(h:Seg a b l l'){i:Nat}(hi:i<a):l'[i]?=l[i]?:=by
 have:=congrArg (·[i]?) h.2.1
 simpa [bL,hi]using this
theorem Seg.ge{a b:Nat}{l l':List (List FC)}(h:Seg a b l l'){i:Nat}(hi:b≤i):l'[i]?=l[i]?:=by
 have:=congrArg (·[i-b]?) h.2.2
 simpa [aM,show b+(i-b)=i by omega]using this
theorem Seg.mono{a b a' b':Nat}{l l':List (List FC)}(h:Seg a b l l')(ha:a'≤a)(hb:b≤b'):Seg a' b' l l':=by
 refine⟨h.1,?_,?_⟩
 ·have:=congrArg (·.take a') h.2.1
  simpa [List.take_take,Nat.min_eq_left ha]using this
 ·have:=congrArg (·.drop (b'-b)) h.2.2
  simpa [List.drop_drop,show b+(b'-b)=b' by omega]using this
theorem EW(l:List (List FC))(i j:Nat):(swp l i j).length=l.length:=by simp [swp]
theorem swp_get{l:List (List FC)}{i j:Nat}(hi:i<l.length)(hj:j<l.length)(k:Nat):(swp l i j)[k]?=if k=j then l[i]? else if k=i then l[j]? else l[k]?:=by
 have e1:l.getD i []=l[i]:=by simp [List.getD,ae hi]
 have e2:l.getD j []=l[j]:=by simp [List.getD,ae hj]
 simp only [swp,e1,e2,List.getElem?_set]
 by_cases h1:j=k
 ·subst h1;simp [ae hi,hj]
 ·by_cases h2:i=k
  ·subst h2;simp [h1,Ne.symm h1,ae hj,hi]
  ·simp [h1,h2,Ne.symm h1,Ne.symm h2]
theorem gZ{a b:Nat}{l:List (List FC)}{i j:Nat}(hi:a≤i)(hib:i<b)(hj:a≤j)(hjb:j<b)(hb:b≤l.length):Seg a b l (swp l i j):=by
 have hil:i<l.length:=by omega
 have hjl:j<l.length:=by omega
 refine⟨?_,?_,?_⟩
 ·have e1:l.getD i []=l[i]:=by simp [List.getD,ae hil]
  have e2:l.getD j []=l[j]:=by simp [List.getD,ae hjl]
  simp only [swp,e1,e2]
  exact List.set_set_perm hil hjl
 ·apply List.ext_getElem?
  intro k
  simp only [bL]
  split
  ·rw [swp_get hil hjl,if_neg (by omega),if_neg (by omega)]
  ·rfl
 ·apply List.ext_getElem?
  intro k
  simp only [aM]
  rw [swp_get hil hjl,if_neg (by omega),if_neg (by omega)]
section
variable{H:Heap}{b sz ep:Nat}{rows:List (List FC)}
theorem RB.swap(h:RB H b sz ep rows)(hg:Grid sz rows){i j:Nat}(hi:i<rows.length)(hj:j<rows.length) :
  ∃ H1 H2,stC H (.ptr b (i*sz) ep) (rows[j].map .f)=some H1∧RB H1 b sz ep (rows.set i rows[j])∧stC H1 (.ptr b (j*sz) ep) (rows[i].map .f)=some H2∧RB H2 b sz ep (swp rows i j)∧Fm b H H2:=by
 have gi:rows[i].length=sz:=hg _ (av hi)
 have gj:rows[j].length=sz:=hg _ (av hj)
 obtain⟨H1,s1,r1,f1,-⟩:=h.str hg hi gj
 have hg1:Grid sz (rows.set i rows[j]):=fun r hr=>by
  rcases List.mem_or_eq_of_mem_set hr with h | rfl
  ·exact hg r h
  ·exact gj
 obtain⟨H2,s2,r2,f2,-⟩:=r1.str hg1 (j:=j) (by simpa using hj) gi
 refine⟨H1,H2,s1,r1,s2,?_,f1.trans f2⟩
 have e1:rows.getD i []=rows[i]:=by simp [List.getD,ae hi]
 have e2:rows.getD j []=rows[j]:=by simp [List.getD,ae hj]
 simp only [swp,e1,e2]
 exact r2
theorem Seg.grid{a b:Nat}{l l':List (List FC)}(h:Seg a b l l')(hg:Grid sz l):Grid sz l':=fun r hr=>hg r (h.1.mem_iff.1 hr)
end
structure Cmp(W:List FC→Prop)(c:List FC→List FC→Int):Prop where
 asym:∀ {x y},W x→W y→c x y<0→¬ c y x<0
 trans:∀ {x y z},W x→W y→W z→¬ c y x<0→¬ c z y<0→¬ c z x<0
def Up(c:List FC→List FC→Int)(a b:Nat)(l:List (List FC)):Prop:=∀ i j x y,a≤i→i<j→j<b→l[i]?=some x→l[j]?=some y→¬ c y x<0
end Km
end
section
namespace Km
open Go
theorem D5{l:List (List FC)}{a m b:Nat}(h1:a≤m)(h2:m≤b)(h3:b≤l.length):∃ X U V Y,l=X++(U++(V++Y))∧X.length=a∧U.length=m-a∧V.length=b-m:=by
 refine⟨l.take a,(l.drop a).take (m-a),(l.drop m).take (b-m),l.drop b,?_,by simp;omega,by simp;omega,by simp;omega⟩
 have e2:(l.drop m).take (b-m)++l.drop b=l.drop m:=by
  have:=cY (b-m) (l.drop m)
  rwa [List.drop_drop,show m+(b-m)=b by omega]at this
 have e1:(l.drop a).take (m-a)++l.drop m=l.drop a:=by
  have:=cY (m-a) (l.drop a)
  rwa [List.drop_drop,show a+(m-a)=m by omega]at this
 rw [e2,e1,cY]
theorem Seg.mem{a b:Nat}{l l':List (List FC)}(h:Seg a b l l')(hab:a≤b)(hb:b≤l.length){i:Nat}{x:List FC}(h1:a≤i)(h2:i<b)(hx:l'[i]?=some x):∃ j,a≤j∧j<b∧l[j]?=some x:=by
 obtain⟨X,U,V,Y,e,lX,lU,lV⟩:=D5 (aw a) hab hb
 have hl:=h.len
 obtain⟨X',U',V',Y',e',lX',lU',lV'⟩:=D5 (l:=l') (aw a) hab (by omega)
 obtain rfl:U=[]:=List.length_eq_zero_iff.1 (by omega)
 obtain rfl:U'=[]:=List.length_eq_zero_iff.1 (by omega)
 obtain⟨hp,ht,hd⟩:=h
 subst e;subst e'
 have eX:X'=X:=by
  simpa [cL (show a≤X.length by omega),cL (show a≤X'.length by omega),bA (show X.length≤a by omega),bA (show X'.length≤a by omega)]using ht
 have eY:Y'=Y:=by
  have q:∀ {A B C:List (List FC)},A.length=a→B.length=b-a→(A++([]++(B++C))).drop b=C:=by
   intro A B C hA hB
   rw [df,←cQ,List.drop_append_of_le_length (by simp;omega),List.drop_of_length_le (by simp;omega),df]
  rwa [q lX' lV',q lX lV]at hd
 subst eX;subst eY
 have hp:V'.Perm V:=by
  have:=(List.perm_append_left_iff X').1 hp
  simp only [df]at this
  exact(List.perm_append_right_iff Y').1 this
 rw [df,bj (by omega),al (by omega)]at hx
 obtain⟨j,hj⟩:=cq (hp.mem_iff.1 (aD hx))
 have hjl:=(ai.1 hj).1
 refine⟨a+j,by omega,by omega,?_⟩
 rw [df,bj (by omega),al (by omega)]
 rw [←hj];congr 1;omega
section
variable{W:List FC→Prop}{c:List FC→List FC→Int}
theorem Up.mono{a b a' b':Nat}{l:List (List FC)}(h:Up c a b l)(ha:a≤a')(hb:b'≤b):Up c a' b' l:=
 fun i j x y h1 h2 h3 hx hy=>h i j x y (by omega) h2 (by omega) hx hy
theorem Up.one{a b:Nat}{l:List (List FC)}(h:b≤a+1):Up c a b l:=fun i j x y h1 h2 h3=>by omega
theorem Up.of{a b:Nat}{l l':List (List FC)}(h:Up c a b l)(he:∀ k,a≤k→k<b→l'[k]?=l[k]?):Up c a b l':=fun i j x y h1 h2 h3 hx hy=>
 h i j x y h1 h2 h3 (by rw [←he i h1 (by omega)];exact hx) (by rw [←he j (by omega) h3];exact hy)
def LeI(c:List FC→List FC→Int)(l:List (List FC))(i j:Nat):Prop:=∀ x y,l[i]?=some x→l[j]?=some y→¬ c y x<0
theorem LeI.trans{l:List (List FC)}{i j k:Nat}(hc:Cmp W c)(hW:∀ r ∈ l,W r)(h:LeI c l i j)(h':LeI c l j k)(hj:j<l.length):LeI c l i k:=fun x y hx hy=>by
 have hz:=ae hj
 exact hc.trans (hW _ (aD hx)) (hW _ (av hj)) (hW _ (aD hy)) (h _ _ hx hz) (h' _ _ hz hy)
end
end Km
end
section
namespace Km
open Go
def dO:C→Option Nat
 | .sl b _ _ _ _ _=>some b
 | _=>none
def LR(H:Heap)(c:C)(sz:Nat)(rows:List (List FC)):Prop:=(rows=[]∧(c=.f .aB∨c=.f .es))∨(rows≠[]∧∃ b ep,c=.sl b 0 rows.length 0 ep sz∧RB H b sz ep rows)
def Kb(H H':Heap)(c:C):Prop:=H.length≤H'.length∧∀(i:Nat) y,H[i]?=some y→dO c≠some i→H'[i]?=some y
section
variable{H H':Heap}{c:C}{sz:Nat}{rows:List (List FC)}
theorem LR.nil(H:Heap)(sz:Nat):LR H (.f .aB) sz []:=.inl ⟨rfl,.inl rfl⟩
theorem LR.keep(h:LR H c sz rows)(hk:∀ i y,H[i]?=some y→dO c=some i→H'[i]?=some y):LR H' c sz rows:=by
 rcases h with h | ⟨h,b,ep,rfl,h2⟩
 ·exact .inl h
 ·exact .inr ⟨h,b,ep,rfl,hk b _ h2 rfl⟩
theorem LR.push(h:LR H c sz rows)(J:Heap):LR (H++J) c sz rows:=h.keep fun i y hy _=>by rw [al (aN hy)];exact hy
theorem LR.lt(h:LR H c sz rows){i:Nat}(hi:dO c=some i):i<H.length:=by
 rcases h with⟨_,rfl | rfl⟩ | ⟨h,b,ep,rfl,h2⟩
 ·cases hi
 ·cases hi
 ·cases hi;exact h2.lt
theorem LR.dF(h:LR H c sz rows){i:Nat}{cs:List C}{fl:Nat}(hx:H[i]?=some (.box cs fl)):dO c≠some i:=by
 rcases h with⟨_,rfl | rfl⟩ | ⟨h,b,ep,rfl,h2⟩
 ·simp [dO]
 ·simp [dO]
 ·intro e
  cases e
  unfold RB at h2
  rw [h2]at hx;cases hx
theorem LR.set(h:LR H c sz rows){i:Nat}(hi:dO c≠some i)(x:Blk):LR (H.set i x) c sz rows:=h.keep fun j y hy hj=>by
 have:i≠j:=by rintro rfl;exact hi hj
 rw [ag this];exact hy
theorem LR.len(h:LR H c sz rows):bJ H c=some rows.length:=by
 rcases h with⟨rfl,rfl | rfl⟩ | ⟨h,b,ep,rfl,h2⟩
 ·rfl
 ·rfl
 ·exact h2.len
theorem LR.ex(h:LR H c sz rows)(hg:Grid sz rows)(n:Nat):∃ g,exC (n+1) H c=some (sl g rows):=by
 rcases h with⟨rfl,rfl | rfl⟩ | ⟨h,b,ep,rfl,h2⟩
 ·exact⟨.nil,rfl⟩
 ·exact⟨.es,rfl⟩
 ·refine⟨.fs,?_⟩
  have hl:rows.length*sz=rows.flatten.length:=(kH hg).symm
  unfold RB at h2
  simp only [DV,h2]
  rw [if_pos ⟨trivial,trivial,by rw [cC,cI,hl];exact aw _⟩,List.drop_zero,bA (by rw [cC];omega),xH]
  cases rows with
  | nil=>exact absurd rfl h
  | cons x l=>simp [sl]
theorem ahM{g g':Tg}{rows:List (List FC)}(h:rows≠[]):sl g rows=sl g' rows:=by
 cases rows with
 | nil=>exact absurd rfl h
 | cons x l=>rfl
theorem LR.exU(h:LR H c sz rows)(hg:Grid sz rows):∃ g,∀(H':Heap) (n:Nat),(∀ i y,H[i]?=some y→dO c=some i→H'[i]?=some y)→exC (n+1) H' c=some (sl g rows):=by
 by_cases hr:rows=[]
 ·rcases h with⟨rfl,rfl | rfl⟩ | ⟨h,_⟩
  ·exact⟨.nil,fun _ _ _=>rfl⟩
  ·exact⟨.es,fun _ _ _=>rfl⟩
  ·exact absurd hr h
 ·refine⟨.fs,fun H' n hk=>?_⟩
  obtain⟨g,e⟩:=(h.keep hk).ex hg n
  rw [e,ahM hr]
theorem LR.app(h:LR H c sz rows)(hg:Grid sz rows)(hsz:sz≠0){row:List FC}(hr:row.length=sz){bytes:Nat}(hroom:dh (rows.length+1) bytes=true){b1 fl1:Nat}(hb1:H[b1]?=some (.box (row.map .f) fl1)) :
  ∃ c' H',dI H sz bytes (.c c) (.c (.sl b1 0 1 1 0 sz))=some (.c c',H')∧LR H' c' sz (rows++[row])∧Kb H H' c∧(dO c'=dO c∨dO c'=some H.length):=by
 have hadd:gY H sz (.c (.sl b1 0 1 1 0 sz))=some (1,row.map .f):=D8 hb1 (by simp [hr])
 rcases h with⟨rfl,he⟩ | ⟨hne,b,ep,rfl,h2⟩
 ·have hroom:dh 1 bytes=true:=by simpa using hroom
  refine⟨.sl H.length 0 1 0 0 sz,H++[.opn sz (row.map .f) 0 0 .loc],?_,.inr ⟨by simp,H.length,0,rfl,?_⟩,⟨by simp,fun i y hy _=>by rw [al (aN hy)];exact hy⟩,.inr rfl⟩
  ·rcases he with rfl | rfl<;>simp [dI,hadd,hroom,hsz]
  ·simp [RB]
 ·have hlen:rows.length*sz=rows.flatten.length:=(kH hg).symm
  unfold RB at h2
  refine⟨.sl b 0 (rows.length+1) 0 (ep+1) sz,H.set b (.opn sz (rows.flatten.map .f++row.map .f) 0 (ep+1) .loc),?_,.inr ⟨by simp,b,ep+1,by simp,?_⟩,⟨by simp,fun i y hy hn=>?_⟩,.inl rfl⟩
  ·simp only [dI,hadd,hsz,if_false,h2,and_self,if_true]
   simp only [Nat.add_one_ne_zero,if_false]
   rw [if_pos ⟨trivial,by rw [cC];exact hlen,by simp⟩,hroom]
   simp
  ·unfold RB
   rw [ax (aN h2)]
   simp
  ·have:b≠i:=by rintro rfl;exact hn rfl
   rw [ag this];exact hy
theorem Kb.refl(H:Heap)(c:C):Kb H H c:=⟨aw _,fun _ _ h _=>h⟩
theorem Kb.push(H J:Heap)(c:C):Kb H (H++J) c:=⟨by simp,fun i y hy _=>by rw [al (aN hy)];exact hy⟩
theorem Kb.aKk{b o l cp ep s:Nat}(h:Fm b H H'):Kb H H' (.sl b o l cp ep s):=⟨h.1,fun i y hy hn=>by
 have:i≠b:=by rintro rfl;exact hn rfl
 exact h.get hy this⟩
end
end Km
end
section
namespace Km
open Go
section
variable{H:Heap}{b sz ep j k n:Nat}{rows:List (List FC)}{row:List FC}
theorem RB.ldc{x:FC}(h:RB H b sz ep rows)(hg:Grid sz rows)(hj:rows[j]?=some row)(hk:row[k]?=some x):ldV H none (.c (.ptr b (j*sz+k) ep))=some (.c (.f x)):=by
 unfold RB at h
 have hlen:row.length=sz:=hg row (aD hj)
 have hkl:=(ai.1 hk).1
 have:=flat_get hg hj (by omega:k<sz)
 simp only [aG,h,if_true]
 rw [List.map_drop.symm]
 have e:(rows.flatten.drop (j*sz+k))[0]?=some x:=by rw [aM,Nat.add_zero,this,hk]
 cases hd:rows.flatten.drop (j*sz+k)with
 | nil=>rw [hd]at e;simp at e
 | cons y ys=>rw [hd]at e;simp at e;simp [aQ,e]
end
section
variable{tab:Nat→Option AFunc}{F sz bytes:Nat}{zs:List FC}{H:Heap}{g:Tg}{rows:List (List FC)}
end
end Km
end
section
namespace Km
open Go
end Km
end
section
set_option linter.unusedVariables false
namespace Km
open Go
structure Srt where
 pdq:Nat
 ins:Nat
 heap:Nat
 sift:Nat
 brk:Nat
 piv:Nat
 rev:Nat
 part:Nat
 peq:Nat
 pins:Nat
 CP:Nat
 med:Nat
 ord:Nat
 npt:Nat
 nxt:Nat
 len:Nat
 aPq:Nat
 aPr:Nat
 rot:Nat
 swr:Nat
def aJM(σ:Srt)(sz:Nat):ah:=.region [⟨D 10,.mov (.k (.c (.f (.bool true)))),none⟩] []
def aJK(σ:Srt)(sz:Nat):ah:=.region [⟨D 11,.mov (.k (.c (.f (.bool true)))),none⟩] []
def aJG(σ:Srt)(sz:Nat):ah:=.region [⟨D 21,.mov (R 2),none⟩,⟨D 22,.mov (R 1),none⟩,⟨D 23,.bin .sub (R 21) (R 22),none⟩,⟨D 12,.mov (R 23),none⟩] []
def aE6(σ:Srt)(sz:Nat):ah:=.region [⟨D 24,.mov (R 12),none⟩,⟨D 25,.bin .leq (R 24) (.k (.c (.f (.int .i64 12)))),none⟩] []
def aE3(σ:Srt)(sz:Nat):ah:=.region [⟨D 26,.mov (R 0),none⟩,⟨D 27,.mov (R 1),none⟩,⟨D 28,.mov (R 2),none⟩,⟨D 29,.mov (R 4),none⟩,⟨D 30,.call σ.ins [(R 26),(R 27),(R 28),(R 29)] true,none⟩] []
def aE4(σ:Srt)(sz:Nat):ah:=.seq (aE3 σ sz) .ret
def aE5(σ:Srt)(sz:Nat):ah:=.cond (R 25) (aE4 σ sz) .skip
def aE7(σ:Srt)(sz:Nat):ah:=.seq (aE6 σ sz) (aE5 σ sz)
def aE0(σ:Srt)(sz:Nat):ah:=.region [⟨D 31,.mov (R 3),none⟩,⟨D 32,.bin .eql (R 31) (.k (.c (.f (.int .i64 0)))),none⟩] []
def aEX(σ:Srt)(sz:Nat):ah:=.region [⟨D 33,.mov (R 0),none⟩,⟨D 34,.mov (R 1),none⟩,⟨D 35,.mov (R 2),none⟩,⟨D 36,.mov (R 4),none⟩,⟨D 37,.call σ.heap [(R 33),(R 34),(R 35),(R 36)] true,none⟩] []
def aEY(σ:Srt)(sz:Nat):ah:=.seq (aEX σ sz) .ret
def aEZ(σ:Srt)(sz:Nat):ah:=.cond (R 32) (aEY σ sz) .skip
def aE1(σ:Srt)(sz:Nat):ah:=.seq (aE0 σ sz) (aEZ σ sz)
def aEU(σ:Srt)(sz:Nat):ah:=.region [⟨D 38,.mov (R 10),none⟩,⟨D 39,.un .not (R 38),none⟩] []
def aER(σ:Srt)(sz:Nat):ah:=.region [⟨D 40,.mov (R 0),none⟩,⟨D 41,.mov (R 1),none⟩,⟨D 42,.mov (R 2),none⟩,⟨D 43,.mov (R 4),none⟩,⟨D 44,.call σ.brk [(R 40),(R 41),(R 42),(R 43)] true,none⟩] []
def aEQ(σ:Srt)(sz:Nat):ah:=.region [⟨D 45,.mov (R 3),none⟩,⟨D 46,.bin .sub (R 45) (.k (.c (.f (.int .i64 1)))),none⟩,⟨D 3,.mov (R 46),none⟩] []
def aES(σ:Srt)(sz:Nat):ah:=.seq (aER σ sz) (aEQ σ sz)
def aET(σ:Srt)(sz:Nat):ah:=.cond (R 39) (aES σ sz) .skip
def aEV(σ:Srt)(sz:Nat):ah:=.seq (aEU σ sz) (aET σ sz)
def aEP(σ:Srt)(sz:Nat):ah:=.region [⟨D 48,.mov (R 0),none⟩,⟨D 49,.mov (R 1),none⟩,⟨D 50,.mov (R 2),none⟩,⟨D 51,.mov (R 4),none⟩,⟨D 52,.call σ.piv [(R 48),(R 49),(R 50),(R 51)] true,none⟩,⟨D 47,.mov (R 52),none⟩,⟨D 53,.extract (R 47) 0,none⟩,⟨D 54,.extract (R 47) 1,none⟩,⟨D 13,.mov (R 53),none⟩,⟨D 14,.mov (R 54),none⟩] []
def aEM(σ:Srt)(sz:Nat):ah:=.region [⟨D 55,.mov (R 14),none⟩,⟨D 56,.bin .eql (R 55) (.k (.c (.f (.int .i64 2)))),none⟩] []
def aEJ(σ:Srt)(sz:Nat):ah:=.region [⟨D 57,.mov (R 0),none⟩,⟨D 58,.mov (R 1),none⟩,⟨D 59,.mov (R 2),none⟩,⟨D 60,.mov (R 4),none⟩,⟨D 61,.call σ.rev [(R 57),(R 58),(R 59),(R 60)] true,none⟩] []
def aEH(σ:Srt)(sz:Nat):ah:=.region [⟨D 62,.mov (R 2),none⟩,⟨D 63,.bin .sub (R 62) (.k (.c (.f (.int .i64 1)))),none⟩,⟨D 64,.mov (R 13),none⟩,⟨D 65,.mov (R 1),none⟩,⟨D 66,.bin .sub (R 64) (R 65),none⟩,⟨D 67,.bin .sub (R 63) (R 66),none⟩,⟨D 13,.mov (R 67),none⟩] []
def aEG(σ:Srt)(sz:Nat):ah:=.region [⟨D 14,.mov (.k (.c (.f (.int .i64 1)))),none⟩] []
def aEI(σ:Srt)(sz:Nat):ah:=.seq (aEH σ sz) (aEG σ sz)
def aEK(σ:Srt)(sz:Nat):ah:=.seq (aEJ σ sz) (aEI σ sz)
def aEL(σ:Srt)(sz:Nat):ah:=.cond (R 56) (aEK σ sz) .skip
def aEN(σ:Srt)(sz:Nat):ah:=.seq (aEM σ sz) (aEL σ sz)
def aEE(σ:Srt)(sz:Nat):ah:=.region [⟨D 68,.mov (R 10),none⟩,⟨D 69,.mov (R 68),none⟩,⟨D 70,.mov (R 11),G 69 true⟩,⟨D 71,.pick (R 69) (R 70) (.k (.c (.f (.bool false)))),none⟩,⟨D 72,.mov (R 71),none⟩,⟨D 73,.mov (R 14),G 72 true⟩,⟨D 74,.bin .eql (R 73) (.k (.c (.f (.int .i64 1)))),G 72 true⟩,⟨D 75,.pick (R 72) (R 74) (.k (.c (.f (.bool false)))),none⟩] []
def aEB(σ:Srt)(sz:Nat):ah:=.region [⟨D 76,.mov (R 0),none⟩,⟨D 77,.mov (R 1),none⟩,⟨D 78,.mov (R 2),none⟩,⟨D 79,.mov (R 4),none⟩,⟨D 80,.call σ.pins [(R 76),(R 77),(R 78),(R 79)] true,none⟩] []
def aEA(σ:Srt)(sz:Nat):ah:=.cond (R 80) .ret .skip
def aEC(σ:Srt)(sz:Nat):ah:=.seq (aEB σ sz) (aEA σ sz)
def aED(σ:Srt)(sz:Nat):ah:=.cond (R 75) (aEC σ sz) .skip
def aEF(σ:Srt)(sz:Nat):ah:=.seq (aEE σ sz) (aED σ sz)
def aEy(σ:Srt)(sz:Nat):ah:=.region [⟨D 81,.mov (R 1),none⟩,⟨D 82,.bin .gtr (R 81) (.k (.c (.f (.int .i64 0)))),none⟩,⟨D 83,.mov (R 82),none⟩,⟨D 84,.mov (R 4),G 83 true⟩,⟨D 85,.mov (R 0),G 83 true⟩,⟨D 86,.mov (R 1),G 83 true⟩,⟨D 87,.bin .sub (R 86) (.k (.c (.f (.int .i64 1)))),G 83 true⟩,⟨D 88,.aC sz none (R 85) (R 87),G 83 true⟩,⟨D 89,.load (some sz) (R 88),G 83 true⟩,⟨D 90,.mov (R 0),G 83 true⟩,⟨D 91,.mov (R 13),G 83 true⟩,⟨D 92,.aC sz none (R 90) (R 91),G 83 true⟩,⟨D 93,.load (some sz) (R 92),G 83 true⟩,⟨D 94,.bH (R 84) [(R 89),(R 93)] true,G 83 true⟩,⟨D 95,.bin .lss (R 94) (.k (.c (.f (.int .i64 0)))),G 83 true⟩,⟨D 96,.un .not (R 95),G 83 true⟩,⟨D 97,.pick (R 83) (R 96) (.k (.c (.f (.bool false)))),none⟩] []
def aEv(σ:Srt)(sz:Nat):ah:=.region [⟨D 98,.mov (R 0),none⟩,⟨D 99,.mov (R 1),none⟩,⟨D 100,.mov (R 2),none⟩,⟨D 101,.mov (R 13),none⟩,⟨D 102,.mov (R 4),none⟩,⟨D 103,.call σ.peq [(R 98),(R 99),(R 100),(R 101),(R 102)] true,none⟩,⟨D 15,.mov (R 103),none⟩] []
def aEt(σ:Srt)(sz:Nat):ah:=.region [⟨D 104,.mov (R 15),none⟩,⟨D 1,.mov (R 104),none⟩] []
def aEu(σ:Srt)(sz:Nat):ah:=.seq (aEt σ sz) (.exit 1)
def aEw(σ:Srt)(sz:Nat):ah:=.seq (aEv σ sz) (aEu σ sz)
def aEx(σ:Srt)(sz:Nat):ah:=.cond (R 97) (aEw σ sz) .skip
def aEz(σ:Srt)(sz:Nat):ah:=.seq (aEy σ sz) (aEx σ sz)
def aEs(σ:Srt)(sz:Nat):ah:=.region [⟨D 106,.mov (R 0),none⟩,⟨D 107,.mov (R 1),none⟩,⟨D 108,.mov (R 2),none⟩,⟨D 109,.mov (R 13),none⟩,⟨D 110,.mov (R 4),none⟩,⟨D 111,.call σ.part [(R 106),(R 107),(R 108),(R 109),(R 110)] true,none⟩,⟨D 105,.mov (R 111),none⟩,⟨D 112,.extract (R 105) 0,none⟩,⟨D 113,.extract (R 105) 1,none⟩,⟨D 16,.mov (R 112),none⟩,⟨D 17,.mov (R 113),none⟩] []
def aEq(σ:Srt)(sz:Nat):ah:=.region [⟨D 114,.mov (R 17),none⟩,⟨D 11,.mov (R 114),none⟩] []
def aEo(σ:Srt)(sz:Nat):ah:=.region [⟨D 115,.mov (R 16),none⟩,⟨D 116,.mov (R 1),none⟩,⟨D 117,.bin .sub (R 115) (R 116),none⟩,⟨D 118,.mov (R 2),none⟩,⟨D 119,.mov (R 16),none⟩,⟨D 120,.bin .sub (R 118) (R 119),none⟩,⟨D 18,.mov (R 117),none⟩,⟨D 19,.mov (R 120),none⟩] []
def aEm(σ:Srt)(sz:Nat):ah:=.region [⟨D 121,.mov (R 12),none⟩,⟨D 122,.bin .quo (R 121) (.k (.c (.f (.int .i64 8)))),none⟩,⟨D 20,.mov (R 122),none⟩] []
def aEk(σ:Srt)(sz:Nat):ah:=.region [⟨D 123,.mov (R 18),none⟩,⟨D 124,.mov (R 19),none⟩,⟨D 125,.bin .lss (R 123) (R 124),none⟩] []
def aEh(σ:Srt)(sz:Nat):ah:=.region [⟨D 126,.mov (R 18),none⟩,⟨D 127,.mov (R 20),none⟩,⟨D 128,.bin .geq (R 126) (R 127),none⟩,⟨D 10,.mov (R 128),none⟩] []
def aEf(σ:Srt)(sz:Nat):ah:=.region [⟨D 129,.mov (R 0),none⟩,⟨D 130,.mov (R 1),none⟩,⟨D 131,.mov (R 16),none⟩,⟨D 132,.mov (R 3),none⟩,⟨D 133,.mov (R 4),none⟩,⟨D 134,.call σ.pdq [(R 129),(R 130),(R 131),(R 132),(R 133)] true,none⟩] []
def aEe(σ:Srt)(sz:Nat):ah:=.region [⟨D 135,.mov (R 16),none⟩,⟨D 136,.bin .add (R 135) (.k (.c (.f (.int .i64 1)))),none⟩,⟨D 1,.mov (R 136),none⟩] []
def aEg(σ:Srt)(sz:Nat):ah:=.seq (aEf σ sz) (aEe σ sz)
def aEi(σ:Srt)(sz:Nat):ah:=.seq (aEh σ sz) (aEg σ sz)
def aEc(σ:Srt)(sz:Nat):ah:=.region [⟨D 137,.mov (R 19),none⟩,⟨D 138,.mov (R 20),none⟩,⟨D 139,.bin .geq (R 137) (R 138),none⟩,⟨D 10,.mov (R 139),none⟩] []
def aEa(σ:Srt)(sz:Nat):ah:=.region [⟨D 140,.mov (R 0),none⟩,⟨D 141,.mov (R 16),none⟩,⟨D 142,.bin .add (R 141) (.k (.c (.f (.int .i64 1)))),none⟩,⟨D 143,.mov (R 2),none⟩,⟨D 144,.mov (R 3),none⟩,⟨D 145,.mov (R 4),none⟩,⟨D 146,.call σ.pdq [(R 140),(R 142),(R 143),(R 144),(R 145)] true,none⟩] []
def aD9(σ:Srt)(sz:Nat):ah:=.region [⟨D 147,.mov (R 16),none⟩,⟨D 2,.mov (R 147),none⟩] []
def aEb(σ:Srt)(sz:Nat):ah:=.seq (aEa σ sz) (aD9 σ sz)
def aEd(σ:Srt)(sz:Nat):ah:=.seq (aEc σ sz) (aEb σ sz)
def aEj(σ:Srt)(sz:Nat):ah:=.cond (R 125) (aEi σ sz) (aEd σ sz)
def aEl(σ:Srt)(sz:Nat):ah:=.seq (aEk σ sz) (aEj σ sz)
def aEn(σ:Srt)(sz:Nat):ah:=.seq (aEm σ sz) (aEl σ sz)
def aEp(σ:Srt)(sz:Nat):ah:=.seq (aEo σ sz) (aEn σ sz)
def aEr(σ:Srt)(sz:Nat):ah:=.seq (aEq σ sz) (aEp σ sz)
def aiu(σ:Srt)(sz:Nat):ah:=.seq (aEs σ sz) (aEr σ sz)
def aiv(σ:Srt)(sz:Nat):ah:=.seq (aEz σ sz) (aiu σ sz)
def aiw(σ:Srt)(sz:Nat):ah:=.seq (aEF σ sz) (aiv σ sz)
def aEO(σ:Srt)(sz:Nat):ah:=.seq (aEN σ sz) (aiw σ sz)
def aix(σ:Srt)(sz:Nat):ah:=.seq (aEP σ sz) (aEO σ sz)
def aEW(σ:Srt)(sz:Nat):ah:=.seq (aEV σ sz) (aix σ sz)
def aE2(σ:Srt)(sz:Nat):ah:=.seq (aE1 σ sz) (aEW σ sz)
def aJF(σ:Srt)(sz:Nat):ah:=.seq (aE7 σ sz) (aE2 σ sz)
def aJH(σ:Srt)(sz:Nat):ah:=.seq (aJG σ sz) (aJF σ sz)
def Dn(σ:Srt)(sz:Nat):ah:=.block 1 (aJH σ sz)
def aJI(σ:Srt)(sz:Nat):ah:=.loop (Dn σ sz)
def aJJ(σ:Srt)(sz:Nat):ah:=.block 0 (aJI σ sz)
def aJL(σ:Srt)(sz:Nat):ah:=.seq (aJK σ sz) (aJJ σ sz)
def aJN(σ:Srt)(sz:Nat):ah:=.seq (aJM σ sz) (aJL σ sz)
def ait(σ:Srt)(sz:Nat):AFunc:=⟨[P.nat 0,P.nat 1,P.nat 2,P.nat 3,P.nat 4],[],(aJN σ sz)⟩
def aK4(σ:Srt)(sz:Nat):ah:=.region [⟨D 10,.mov (R 1),none⟩,⟨D 11,.bin .add (R 10) (.k (.c (.f (.int .i64 1)))),none⟩,⟨D 8,.mov (R 11),none⟩] []
def aKZ(σ:Srt)(sz:Nat):ah:=.region [⟨D 12,.mov (R 8),none⟩,⟨D 13,.mov (R 2),none⟩,⟨D 14,.bin .lss (R 12) (R 13),none⟩] []
def aKY(σ:Srt)(sz:Nat):ah:=.cond (R 14) .skip (.exit 0)
def aK1(σ:Srt)(sz:Nat):ah:=.seq (aKZ σ sz) (aKY σ sz)
def aF5(σ:Srt)(sz:Nat):ah:=.region [⟨D 17,.mov (R 8),none⟩,⟨D 9,.mov (R 17),none⟩] []
def aF0(σ:Srt)(sz:Nat):ah:=.region [⟨D 18,.mov (R 9),none⟩,⟨D 19,.mov (R 1),none⟩,⟨D 20,.bin .gtr (R 18) (R 19),none⟩,⟨D 21,.mov (R 20),none⟩,⟨D 22,.mov (R 3),G 21 true⟩,⟨D 23,.mov (R 0),G 21 true⟩,⟨D 24,.mov (R 9),G 21 true⟩,⟨D 25,.aC sz none (R 23) (R 24),G 21 true⟩,⟨D 26,.load (some sz) (R 25),G 21 true⟩,⟨D 27,.mov (R 0),G 21 true⟩,⟨D 28,.mov (R 9),G 21 true⟩,⟨D 29,.bin .sub (R 28) (.k (.c (.f (.int .i64 1)))),G 21 true⟩,⟨D 30,.aC sz none (R 27) (R 29),G 21 true⟩,⟨D 31,.load (some sz) (R 30),G 21 true⟩,⟨D 32,.bH (R 22) [(R 26),(R 31)] true,G 21 true⟩,⟨D 33,.bin .lss (R 32) (.k (.c (.f (.int .i64 0)))),G 21 true⟩,⟨D 34,.pick (R 21) (R 33) (.k (.c (.f (.bool false)))),none⟩] []
def aFZ(σ:Srt)(sz:Nat):ah:=.cond (R 34) .skip (.exit 2)
def aF1(σ:Srt)(sz:Nat):ah:=.seq (aF0 σ sz) (aFZ σ sz)
def aFW(σ:Srt)(sz:Nat):ah:=.region [⟨D 37,.mov (R 0),none⟩,⟨D 38,.mov (R 9),none⟩,⟨D 39,.mov (R 0),none⟩,⟨D 40,.mov (R 9),none⟩,⟨D 41,.bin .sub (R 40) (.k (.c (.f (.int .i64 1)))),none⟩,⟨D 42,.mov (R 0),none⟩,⟨D 43,.mov (R 9),none⟩,⟨D 44,.bin .sub (R 43) (.k (.c (.f (.int .i64 1)))),none⟩,⟨D 45,.aC sz none (R 42) (R 44),none⟩,⟨D 46,.load (some sz) (R 45),none⟩,⟨D 47,.mov (R 0),none⟩,⟨D 48,.mov (R 9),none⟩,⟨D 49,.aC sz none (R 47) (R 48),none⟩,⟨D 50,.load (some sz) (R 49),none⟩,⟨D 51,.aC sz none (R 37) (R 38),none⟩,⟨none,.store sz (R 51) (R 46),none⟩,⟨D 52,.aC sz none (R 39) (R 41),none⟩,⟨none,.store sz (R 52) (R 50),none⟩] []
def aFX(σ:Srt)(sz:Nat):ah:=.block 3 (aFW σ sz)
def aFV(σ:Srt)(sz:Nat):ah:=.region [⟨D 35,.mov (R 9),none⟩,⟨D 36,.bin .sub (R 35) (.k (.c (.f (.int .i64 1)))),none⟩,⟨D 9,.mov (R 36),none⟩] []
def aFY(σ:Srt)(sz:Nat):ah:=.seq (aFX σ sz) (aFV σ sz)
def aF2(σ:Srt)(sz:Nat):ah:=.seq (aF1 σ sz) (aFY σ sz)
def aF3(σ:Srt)(sz:Nat):ah:=.loop (aF2 σ sz)
def aF4(σ:Srt)(sz:Nat):ah:=.block 2 (aF3 σ sz)
def aF6(σ:Srt)(sz:Nat):ah:=.seq (aF5 σ sz) (aF4 σ sz)
def aKW(σ:Srt)(sz:Nat):ah:=.block 1 (aF6 σ sz)
def Gl(σ:Srt)(sz:Nat):ah:=.region [⟨D 15,.mov (R 8),none⟩,⟨D 16,.bin .add (R 15) (.k (.c (.f (.int .i64 1)))),none⟩,⟨D 8,.mov (R 16),none⟩] []
def aKX(σ:Srt)(sz:Nat):ah:=.seq (aKW σ sz) (Gl σ sz)
def Qj(σ:Srt)(sz:Nat):ah:=.seq (aK1 σ sz) (aKX σ sz)
def aK2(σ:Srt)(sz:Nat):ah:=.loop (Qj σ sz)
def aK3(σ:Srt)(sz:Nat):ah:=.block 0 (aK2 σ sz)
def aK5(σ:Srt)(sz:Nat):ah:=.seq (aK4 σ sz) (aK3 σ sz)
def Jm(σ:Srt)(sz:Nat):AFunc:=⟨[P.nat 0,P.nat 1,P.nat 2,P.nat 3],[],(aK5 σ sz)⟩
def aGt(σ:Srt)(sz:Nat):ah:=.region [⟨D 13,.mov (R 1),none⟩,⟨D 8,.mov (R 13),none⟩] []
def aGr(σ:Srt)(sz:Nat):ah:=.region [⟨D 9,.mov (.k (.c (.f (.int .i64 0)))),none⟩] []
def aGp(σ:Srt)(sz:Nat):ah:=.region [⟨D 14,.mov (R 2),none⟩,⟨D 15,.mov (R 1),none⟩,⟨D 16,.bin .sub (R 14) (R 15),none⟩,⟨D 10,.mov (R 16),none⟩] []
def aGm(σ:Srt)(sz:Nat):ah:=.region [⟨D 17,.mov (R 10),none⟩,⟨D 18,.bin .sub (R 17) (.k (.c (.f (.int .i64 1)))),none⟩,⟨D 19,.bin .quo (R 18) (.k (.c (.f (.int .i64 2)))),none⟩,⟨D 11,.mov (R 19),none⟩] []
def ayb(σ:Srt)(sz:Nat):ah:=.region [⟨D 20,.mov (R 11),none⟩,⟨D 21,.bin .geq (R 20) (.k (.c (.f (.int .i64 0)))),none⟩] []
def aya(σ:Srt)(sz:Nat):ah:=.cond (R 21) .skip (.exit 0)
def ayc(σ:Srt)(sz:Nat):ah:=.seq (ayb σ sz) (aya σ sz)
def ax7(σ:Srt)(sz:Nat):ah:=.region [⟨D 24,.mov (R 0),none⟩,⟨D 25,.mov (R 11),none⟩,⟨D 26,.mov (R 10),none⟩,⟨D 27,.mov (R 8),none⟩,⟨D 28,.mov (R 3),none⟩,⟨D 29,.call σ.sift [(R 24),(R 25),(R 26),(R 27),(R 28)] true,none⟩] []
def ax8(σ:Srt)(sz:Nat):ah:=.block 1 (ax7 σ sz)
def ax6(σ:Srt)(sz:Nat):ah:=.region [⟨D 22,.mov (R 11),none⟩,⟨D 23,.bin .sub (R 22) (.k (.c (.f (.int .i64 1)))),none⟩,⟨D 11,.mov (R 23),none⟩] []
def ax9(σ:Srt)(sz:Nat):ah:=.seq (ax8 σ sz) (ax6 σ sz)
def ayd(σ:Srt)(sz:Nat):ah:=.seq (ayc σ sz) (ax9 σ sz)
def aye(σ:Srt)(sz:Nat):ah:=.loop (ayd σ sz)
def aGl(σ:Srt)(sz:Nat):ah:=.block 0 (aye σ sz)
def aGn(σ:Srt)(sz:Nat):ah:=.seq (aGm σ sz) (aGl σ sz)
def ax5(σ:Srt)(sz:Nat):ah:=.region [⟨D 30,.mov (R 10),none⟩,⟨D 31,.bin .sub (R 30) (.k (.c (.f (.int .i64 1)))),none⟩,⟨D 12,.mov (R 31),none⟩] []
def ax0(σ:Srt)(sz:Nat):ah:=.region [⟨D 32,.mov (R 12),none⟩,⟨D 33,.bin .geq (R 32) (.k (.c (.f (.int .i64 0)))),none⟩] []
def axZ(σ:Srt)(sz:Nat):ah:=.cond (R 33) .skip (.exit 2)
def ax1(σ:Srt)(sz:Nat):ah:=.seq (ax0 σ sz) (axZ σ sz)
def axV(σ:Srt)(sz:Nat):ah:=.region [⟨D 36,.mov (R 0),none⟩,⟨D 37,.mov (R 8),none⟩,⟨D 38,.mov (R 0),none⟩,⟨D 39,.mov (R 8),none⟩,⟨D 40,.mov (R 12),none⟩,⟨D 41,.bin .add (R 39) (R 40),none⟩,⟨D 42,.mov (R 0),none⟩,⟨D 43,.mov (R 8),none⟩,⟨D 44,.mov (R 12),none⟩,⟨D 45,.bin .add (R 43) (R 44),none⟩,⟨D 46,.aC sz none (R 42) (R 45),none⟩,⟨D 47,.load (some sz) (R 46),none⟩,⟨D 48,.mov (R 0),none⟩,⟨D 49,.mov (R 8),none⟩,⟨D 50,.aC sz none (R 48) (R 49),none⟩,⟨D 51,.load (some sz) (R 50),none⟩,⟨D 52,.aC sz none (R 36) (R 37),none⟩,⟨none,.store sz (R 52) (R 47),none⟩,⟨D 53,.aC sz none (R 38) (R 41),none⟩,⟨none,.store sz (R 53) (R 51),none⟩] []
def axU(σ:Srt)(sz:Nat):ah:=.region [⟨D 54,.mov (R 0),none⟩,⟨D 55,.mov (R 9),none⟩,⟨D 56,.mov (R 12),none⟩,⟨D 57,.mov (R 8),none⟩,⟨D 58,.mov (R 3),none⟩,⟨D 59,.call σ.sift [(R 54),(R 55),(R 56),(R 57),(R 58)] true,none⟩] []
def axW(σ:Srt)(sz:Nat):ah:=.seq (axV σ sz) (axU σ sz)
def axX(σ:Srt)(sz:Nat):ah:=.block 3 (axW σ sz)
def axT(σ:Srt)(sz:Nat):ah:=.region [⟨D 34,.mov (R 12),none⟩,⟨D 35,.bin .sub (R 34) (.k (.c (.f (.int .i64 1)))),none⟩,⟨D 12,.mov (R 35),none⟩] []
def axY(σ:Srt)(sz:Nat):ah:=.seq (axX σ sz) (axT σ sz)
def ax2(σ:Srt)(sz:Nat):ah:=.seq (ax1 σ sz) (axY σ sz)
def ax3(σ:Srt)(sz:Nat):ah:=.loop (ax2 σ sz)
def ax4(σ:Srt)(sz:Nat):ah:=.block 2 (ax3 σ sz)
def Ql(σ:Srt)(sz:Nat):ah:=.seq (ax5 σ sz) (ax4 σ sz)
def aGo(σ:Srt)(sz:Nat):ah:=.seq (aGn σ sz) (Ql σ sz)
def aGq(σ:Srt)(sz:Nat):ah:=.seq (aGp σ sz) (aGo σ sz)
def aGs(σ:Srt)(sz:Nat):ah:=.seq (aGr σ sz) (aGq σ sz)
def aGu(σ:Srt)(sz:Nat):ah:=.seq (aGt σ sz) (aGs σ sz)
def MC(σ:Srt)(sz:Nat):AFunc:=⟨[P.nat 0,P.nat 1,P.nat 2,P.nat 3],[],(aGu σ sz)⟩
def aCc(σ:Srt)(sz:Nat):ah:=.region [⟨D 12,.mov (R 1),none⟩,⟨D 10,.mov (R 12),none⟩] []
def aB8(σ:Srt)(sz:Nat):ah:=.region [⟨D 13,.mov (R 10),none⟩,⟨D 14,.bin .mul (.k (.c (.f (.int .i64 2)))) (R 13),none⟩,⟨D 15,.bin .add (R 14) (.k (.c (.f (.int .i64 1)))),none⟩,⟨D 11,.mov (R 15),none⟩] []
def aB5(σ:Srt)(sz:Nat):ah:=.region [⟨D 16,.mov (R 11),none⟩,⟨D 17,.mov (R 2),none⟩,⟨D 18,.bin .geq (R 16) (R 17),none⟩] []
def auu(σ:Srt)(sz:Nat):ah:=.cond (R 18) (.exit 0) .skip
def aB6(σ:Srt)(sz:Nat):ah:=.seq (aB5 σ sz) (auu σ sz)
def aur(σ:Srt)(sz:Nat):ah:=.region [⟨D 19,.mov (R 11),none⟩,⟨D 20,.bin .add (R 19) (.k (.c (.f (.int .i64 1)))),none⟩,⟨D 21,.mov (R 2),none⟩,⟨D 22,.bin .lss (R 20) (R 21),none⟩,⟨D 23,.mov (R 22),none⟩,⟨D 24,.mov (R 4),G 23 true⟩,⟨D 25,.mov (R 0),G 23 true⟩,⟨D 26,.mov (R 3),G 23 true⟩,⟨D 27,.mov (R 11),G 23 true⟩,⟨D 28,.bin .add (R 26) (R 27),G 23 true⟩,⟨D 29,.aC sz none (R 25) (R 28),G 23 true⟩,⟨D 30,.load (some sz) (R 29),G 23 true⟩,⟨D 31,.mov (R 0),G 23 true⟩,⟨D 32,.mov (R 3),G 23 true⟩,⟨D 33,.mov (R 11),G 23 true⟩,⟨D 34,.bin .add (R 32) (R 33),G 23 true⟩,⟨D 35,.bin .add (R 34) (.k (.c (.f (.int .i64 1)))),G 23 true⟩,⟨D 36,.aC sz none (R 31) (R 35),G 23 true⟩,⟨D 37,.load (some sz) (R 36),G 23 true⟩,⟨D 38,.bH (R 24) [(R 30),(R 37)] true,G 23 true⟩,⟨D 39,.bin .lss (R 38) (.k (.c (.f (.int .i64 0)))),G 23 true⟩,⟨D 40,.pick (R 23) (R 39) (.k (.c (.f (.bool false)))),none⟩] []
def aup(σ:Srt)(sz:Nat):ah:=.region [⟨D 41,.mov (R 11),none⟩,⟨D 42,.bin .add (R 41) (.k (.c (.f (.int .i64 1)))),none⟩,⟨D 11,.mov (R 42),none⟩] []
def auq(σ:Srt)(sz:Nat):ah:=.cond (R 40) (aup σ sz) .skip
def aus(σ:Srt)(sz:Nat):ah:=.seq (aur σ sz) (auq σ sz)
def aun(σ:Srt)(sz:Nat):ah:=.region [⟨D 43,.mov (R 4),none⟩,⟨D 44,.mov (R 0),none⟩,⟨D 45,.mov (R 3),none⟩,⟨D 46,.mov (R 10),none⟩,⟨D 47,.bin .add (R 45) (R 46),none⟩,⟨D 48,.aC sz none (R 44) (R 47),none⟩,⟨D 49,.load (some sz) (R 48),none⟩,⟨D 50,.mov (R 0),none⟩,⟨D 51,.mov (R 3),none⟩,⟨D 52,.mov (R 11),none⟩,⟨D 53,.bin .add (R 51) (R 52),none⟩,⟨D 54,.aC sz none (R 50) (R 53),none⟩,⟨D 55,.load (some sz) (R 54),none⟩,⟨D 56,.bH (R 43) [(R 49),(R 55)] true,none⟩,⟨D 57,.bin .lss (R 56) (.k (.c (.f (.int .i64 0)))),none⟩,⟨D 58,.un .not (R 57),none⟩] []
def aum(σ:Srt)(sz:Nat):ah:=.cond (R 58) .ret .skip
def auo(σ:Srt)(sz:Nat):ah:=.seq (aun σ sz) (aum σ sz)
def auk(σ:Srt)(sz:Nat):ah:=.region [⟨D 59,.mov (R 0),none⟩,⟨D 60,.mov (R 3),none⟩,⟨D 61,.mov (R 10),none⟩,⟨D 62,.bin .add (R 60) (R 61),none⟩,⟨D 63,.mov (R 0),none⟩,⟨D 64,.mov (R 3),none⟩,⟨D 65,.mov (R 11),none⟩,⟨D 66,.bin .add (R 64) (R 65),none⟩,⟨D 67,.mov (R 0),none⟩,⟨D 68,.mov (R 3),none⟩,⟨D 69,.mov (R 11),none⟩,⟨D 70,.bin .add (R 68) (R 69),none⟩,⟨D 71,.aC sz none (R 67) (R 70),none⟩,⟨D 72,.load (some sz) (R 71),none⟩,⟨D 73,.mov (R 0),none⟩,⟨D 74,.mov (R 3),none⟩,⟨D 75,.mov (R 10),none⟩,⟨D 76,.bin .add (R 74) (R 75),none⟩,⟨D 77,.aC sz none (R 73) (R 76),none⟩,⟨D 78,.load (some sz) (R 77),none⟩,⟨D 79,.aC sz none (R 59) (R 62),none⟩,⟨none,.store sz (R 79) (R 72),none⟩,⟨D 80,.aC sz none (R 63) (R 66),none⟩,⟨none,.store sz (R 80) (R 78),none⟩] []
def auj(σ:Srt)(sz:Nat):ah:=.region [⟨D 81,.mov (R 11),none⟩,⟨D 10,.mov (R 81),none⟩] []
def aul(σ:Srt)(sz:Nat):ah:=.seq (auk σ sz) (auj σ sz)
def Pv(σ:Srt)(sz:Nat):ah:=.seq (auo σ sz) (aul σ sz)
def aut(σ:Srt)(sz:Nat):ah:=.seq (aus σ sz) (Pv σ sz)
def aB7(σ:Srt)(sz:Nat):ah:=.seq (aB6 σ sz) (aut σ sz)
def aB9(σ:Srt)(sz:Nat):ah:=.seq (aB8 σ sz) (aB7 σ sz)
def ahO(σ:Srt)(sz:Nat):ah:=.block 1 (aB9 σ sz)
def aCa(σ:Srt)(sz:Nat):ah:=.loop (ahO σ sz)
def aCb(σ:Srt)(sz:Nat):ah:=.block 0 (aCa σ sz)
def aCd(σ:Srt)(sz:Nat):ah:=.seq (aCc σ sz) (aCb σ sz)
def Fa(σ:Srt)(sz:Nat):AFunc:=⟨[P.nat 0,P.nat 1,P.nat 2,P.nat 3,P.nat 4],[],(aCd σ sz)⟩
def aLX(σ:Srt)(sz:Nat):ah:=.region [⟨D 13,.mov (R 2),none⟩,⟨D 14,.mov (R 1),none⟩,⟨D 15,.bin .sub (R 13) (R 14),none⟩,⟨D 8,.mov (R 15),none⟩] []
def aLV(σ:Srt)(sz:Nat):ah:=.region [⟨D 16,.mov (R 8),none⟩,⟨D 17,.bin .geq (R 16) (.k (.c (.f (.int .i64 8)))),none⟩] []
def aLS(σ:Srt)(sz:Nat):ah:=.region [⟨D 18,.mov (R 8),none⟩,⟨D 19,.cvi .u64 (R 18),none⟩,⟨D 9,.alloc [(.int .u64 0)],none⟩,⟨none,.store 1 (R 9) (R 19),none⟩] []
def aLQ(σ:Srt)(sz:Nat):ah:=.region [⟨D 20,.mov (R 8),none⟩,⟨D 21,.call σ.npt [(R 20)] false,none⟩,⟨D 10,.mov (R 21),none⟩] []
def aHb(σ:Srt)(sz:Nat):ah:=.region [⟨D 22,.mov (R 1),none⟩,⟨D 23,.mov (R 8),none⟩,⟨D 24,.bin .quo (R 23) (.k (.c (.f (.int .i64 4)))),none⟩,⟨D 25,.bin .mul (R 24) (.k (.c (.f (.int .i64 2)))),none⟩,⟨D 26,.bin .add (R 22) (R 25),none⟩,⟨D 27,.bin .sub (R 26) (.k (.c (.f (.int .i64 1)))),none⟩,⟨D 11,.mov (R 27),none⟩] []
def aG7(σ:Srt)(sz:Nat):ah:=.region [⟨D 28,.mov (R 11),none⟩,⟨D 29,.mov (R 1),none⟩,⟨D 30,.mov (R 8),none⟩,⟨D 31,.bin .quo (R 30) (.k (.c (.f (.int .i64 4)))),none⟩,⟨D 32,.bin .mul (R 31) (.k (.c (.f (.int .i64 2)))),none⟩,⟨D 33,.bin .add (R 29) (R 32),none⟩,⟨D 34,.bin .add (R 33) (.k (.c (.f (.int .i64 1)))),none⟩,⟨D 35,.bin .leq (R 28) (R 34),none⟩] []
def aG6(σ:Srt)(sz:Nat):ah:=.cond (R 35) .skip (.exit 0)
def aG8(σ:Srt)(sz:Nat):ah:=.seq (aG7 σ sz) (aG6 σ sz)
def aG2(σ:Srt)(sz:Nat):ah:=.region [⟨D 38,.call σ.nxt [(R 9)] true,none⟩,⟨D 39,.mov (R 10),none⟩,⟨D 40,.bin .sub (R 39) (.k (.c (.f (.int .u64 1)))),none⟩,⟨D 41,.bin .and (R 38) (R 40),none⟩,⟨D 42,.cvi .i64 (R 41),none⟩,⟨D 12,.mov (R 42),none⟩] []
def aGZ(σ:Srt)(sz:Nat):ah:=.region [⟨D 43,.mov (R 12),none⟩,⟨D 44,.mov (R 8),none⟩,⟨D 45,.bin .geq (R 43) (R 44),none⟩] []
def aGX(σ:Srt)(sz:Nat):ah:=.region [⟨D 46,.mov (R 12),none⟩,⟨D 47,.mov (R 8),none⟩,⟨D 48,.bin .sub (R 46) (R 47),none⟩,⟨D 12,.mov (R 48),none⟩] []
def aGY(σ:Srt)(sz:Nat):ah:=.cond (R 45) (aGX σ sz) .skip
def aG0(σ:Srt)(sz:Nat):ah:=.seq (aGZ σ sz) (aGY σ sz)
def ajO(σ:Srt)(sz:Nat):ah:=.region [⟨D 49,.mov (R 0),none⟩,⟨D 50,.mov (R 11),none⟩,⟨D 51,.mov (R 0),none⟩,⟨D 52,.mov (R 1),none⟩,⟨D 53,.mov (R 12),none⟩,⟨D 54,.bin .add (R 52) (R 53),none⟩,⟨D 55,.mov (R 0),none⟩,⟨D 56,.mov (R 1),none⟩,⟨D 57,.mov (R 12),none⟩,⟨D 58,.bin .add (R 56) (R 57),none⟩,⟨D 59,.aC sz none (R 55) (R 58),none⟩,⟨D 60,.load (some sz) (R 59),none⟩,⟨D 61,.mov (R 0),none⟩,⟨D 62,.mov (R 11),none⟩,⟨D 63,.aC sz none (R 61) (R 62),none⟩,⟨D 64,.load (some sz) (R 63),none⟩,⟨D 65,.aC sz none (R 49) (R 50),none⟩,⟨none,.store sz (R 65) (R 60),none⟩,⟨D 66,.aC sz none (R 51) (R 54),none⟩,⟨none,.store sz (R 66) (R 64),none⟩] []
def aG1(σ:Srt)(sz:Nat):ah:=.seq (aG0 σ sz) (ajO σ sz)
def aG3(σ:Srt)(sz:Nat):ah:=.seq (aG2 σ sz) (aG1 σ sz)
def aG4(σ:Srt)(sz:Nat):ah:=.block 1 (aG3 σ sz)
def ajN(σ:Srt)(sz:Nat):ah:=.region [⟨D 36,.mov (R 11),none⟩,⟨D 37,.bin .add (R 36) (.k (.c (.f (.int .i64 1)))),none⟩,⟨D 11,.mov (R 37),none⟩] []
def aG5(σ:Srt)(sz:Nat):ah:=.seq (aG4 σ sz) (ajN σ sz)
def ajP(σ:Srt)(sz:Nat):ah:=.seq (aG8 σ sz) (aG5 σ sz)
def aG9(σ:Srt)(sz:Nat):ah:=.loop (ajP σ sz)
def aHa(σ:Srt)(sz:Nat):ah:=.block 0 (aG9 σ sz)
def aLP(σ:Srt)(sz:Nat):ah:=.seq (aHb σ sz) (aHa σ sz)
def aLR(σ:Srt)(sz:Nat):ah:=.seq (aLQ σ sz) (aLP σ sz)
def aLT(σ:Srt)(sz:Nat):ah:=.seq (aLS σ sz) (aLR σ sz)
def aLU(σ:Srt)(sz:Nat):ah:=.cond (R 17) (aLT σ sz) .skip
def aLW(σ:Srt)(sz:Nat):ah:=.seq (aLV σ sz) (aLU σ sz)
def aLY(σ:Srt)(sz:Nat):ah:=.seq (aLX σ sz) (aLW σ sz)
def ajM(σ:Srt)(sz:Nat):AFunc:=⟨[P.nat 0,P.nat 1,P.nat 2,P.nat 3],[],(aLY σ sz)⟩
def aJt(σ:Srt)(sz:Nat):ah:=.region [⟨D 8,.mov (.k (.c (.f (.int .i64 0)))),none⟩,⟨D 9,.mov (.k (.c (.f (.int .i64 0)))),none⟩] []
def aJr(σ:Srt)(sz:Nat):ah:=.region [⟨D 15,.mov (R 2),none⟩,⟨D 16,.mov (R 1),none⟩,⟨D 17,.bin .sub (R 15) (R 16),none⟩,⟨D 10,.mov (R 17),none⟩] []
def aJp(σ:Srt)(sz:Nat):ah:=.region [⟨D 11,.alloc [(.int .i64 0)],none⟩] []
def aJn(σ:Srt)(sz:Nat):ah:=.region [⟨D 18,.mov (R 1),none⟩,⟨D 19,.mov (R 10),none⟩,⟨D 20,.bin .quo (R 19) (.k (.c (.f (.int .i64 4)))),none⟩,⟨D 21,.bin .mul (R 20) (.k (.c (.f (.int .i64 1)))),none⟩,⟨D 22,.bin .add (R 18) (R 21),none⟩,⟨D 12,.mov (R 22),none⟩] []
def aJl(σ:Srt)(sz:Nat):ah:=.region [⟨D 23,.mov (R 1),none⟩,⟨D 24,.mov (R 10),none⟩,⟨D 25,.bin .quo (R 24) (.k (.c (.f (.int .i64 4)))),none⟩,⟨D 26,.bin .mul (R 25) (.k (.c (.f (.int .i64 2)))),none⟩,⟨D 27,.bin .add (R 23) (R 26),none⟩,⟨D 13,.mov (R 27),none⟩] []
def aDt(σ:Srt)(sz:Nat):ah:=.region [⟨D 28,.mov (R 1),none⟩,⟨D 29,.mov (R 10),none⟩,⟨D 30,.bin .quo (R 29) (.k (.c (.f (.int .i64 4)))),none⟩,⟨D 31,.bin .mul (R 30) (.k (.c (.f (.int .i64 3)))),none⟩,⟨D 32,.bin .add (R 28) (R 31),none⟩,⟨D 14,.mov (R 32),none⟩] []
def aDq(σ:Srt)(sz:Nat):ah:=.region [⟨D 33,.mov (R 10),none⟩,⟨D 34,.bin .geq (R 33) (.k (.c (.f (.int .i64 8)))),none⟩] []
def aDm(σ:Srt)(sz:Nat):ah:=.region [⟨D 35,.mov (R 10),none⟩,⟨D 36,.bin .geq (R 35) (.k (.c (.f (.int .i64 50)))),none⟩] []
def aDj(σ:Srt)(sz:Nat):ah:=.region [⟨D 37,.mov (R 0),none⟩,⟨D 38,.mov (R 12),none⟩,⟨D 39,.mov (R 3),none⟩,⟨D 40,.call σ.CP [(R 37),(R 38),(R 11),(R 39)] true,none⟩,⟨D 12,.mov (R 40),none⟩] []
def aDh(σ:Srt)(sz:Nat):ah:=.region [⟨D 41,.mov (R 0),none⟩,⟨D 42,.mov (R 13),none⟩,⟨D 43,.mov (R 3),none⟩,⟨D 44,.call σ.CP [(R 41),(R 42),(R 11),(R 43)] true,none⟩,⟨D 13,.mov (R 44),none⟩] []
def aDg(σ:Srt)(sz:Nat):ah:=.region [⟨D 45,.mov (R 0),none⟩,⟨D 46,.mov (R 14),none⟩,⟨D 47,.mov (R 3),none⟩,⟨D 48,.call σ.CP [(R 45),(R 46),(R 11),(R 47)] true,none⟩,⟨D 14,.mov (R 48),none⟩] []
def aDi(σ:Srt)(sz:Nat):ah:=.seq (aDh σ sz) (aDg σ sz)
def aDk(σ:Srt)(sz:Nat):ah:=.seq (aDj σ sz) (aDi σ sz)
def aDl(σ:Srt)(sz:Nat):ah:=.cond (R 36) (aDk σ sz) .skip
def aDn(σ:Srt)(sz:Nat):ah:=.seq (aDm σ sz) (aDl σ sz)
def aik(σ:Srt)(sz:Nat):ah:=.region [⟨D 49,.mov (R 0),none⟩,⟨D 50,.mov (R 12),none⟩,⟨D 51,.mov (R 13),none⟩,⟨D 52,.mov (R 14),none⟩,⟨D 53,.mov (R 3),none⟩,⟨D 54,.call σ.med [(R 49),(R 50),(R 51),(R 52),(R 11),(R 53)] true,none⟩,⟨D 13,.mov (R 54),none⟩] []
def aDo(σ:Srt)(sz:Nat):ah:=.seq (aDn σ sz) (aik σ sz)
def aDp(σ:Srt)(sz:Nat):ah:=.cond (R 34) (aDo σ sz) .skip
def aDr(σ:Srt)(sz:Nat):ah:=.seq (aDq σ sz) (aDp σ sz)
def aDf(σ:Srt)(sz:Nat):ah:=.region [⟨D 55,.load none (R 11),none⟩] []
def aDc(σ:Srt)(sz:Nat):ah:=.region [⟨D 58,.bin .eql (R 55) (.k (.c (.f (.int .i64 0)))),none⟩,⟨D 57,.mov (R 58),none⟩] []
def aC9(σ:Srt)(sz:Nat):ah:=.region [⟨D 59,.mov (R 13),none⟩,⟨D 8,.mov (R 59),none⟩,⟨D 9,.mov (.k (.c (.f (.int .i64 1)))),none⟩] []
def aDa(σ:Srt)(sz:Nat):ah:=.seq (aC9 σ sz) .ret
def aC7(σ:Srt)(sz:Nat):ah:=.region [⟨D 61,.bin .eql (R 55) (.k (.c (.f (.int .i64 12)))),none⟩,⟨D 60,.mov (R 61),none⟩] []
def aC4(σ:Srt)(sz:Nat):ah:=.region [⟨D 62,.mov (R 13),none⟩,⟨D 8,.mov (R 62),none⟩,⟨D 9,.mov (.k (.c (.f (.int .i64 2)))),none⟩] []
def aC5(σ:Srt)(sz:Nat):ah:=.seq (aC4 σ sz) .ret
def aC2(σ:Srt)(sz:Nat):ah:=.region [⟨D 56,.mov (R 13),none⟩,⟨D 8,.mov (R 56),none⟩,⟨D 9,.mov (.k (.c (.f (.int .i64 0)))),none⟩] []
def aC3(σ:Srt)(sz:Nat):ah:=.seq (aC2 σ sz) .ret
def aC6(σ:Srt)(sz:Nat):ah:=.cond (R 60) (aC5 σ sz) (aC3 σ sz)
def aC8(σ:Srt)(sz:Nat):ah:=.seq (aC7 σ sz) (aC6 σ sz)
def aDb(σ:Srt)(sz:Nat):ah:=.cond (R 57) (aDa σ sz) (aC8 σ sz)
def aDd(σ:Srt)(sz:Nat):ah:=.seq (aDc σ sz) (aDb σ sz)
def aDe(σ:Srt)(sz:Nat):ah:=.block 0 (aDd σ sz)
def KW(σ:Srt)(sz:Nat):ah:=.seq (aDf σ sz) (aDe σ sz)
def aDs(σ:Srt)(sz:Nat):ah:=.seq (aDr σ sz) (KW σ sz)
def aDu(σ:Srt)(sz:Nat):ah:=.seq (aDt σ sz) (aDs σ sz)
def aJm(σ:Srt)(sz:Nat):ah:=.seq (aJl σ sz) (aDu σ sz)
def aJo(σ:Srt)(sz:Nat):ah:=.seq (aJn σ sz) (aJm σ sz)
def aJq(σ:Srt)(sz:Nat):ah:=.seq (aJp σ sz) (aJo σ sz)
def aJs(σ:Srt)(sz:Nat):ah:=.seq (aJr σ sz) (aJq σ sz)
def aJu(σ:Srt)(sz:Nat):ah:=.seq (aJt σ sz) (aJs σ sz)
def aij(σ:Srt)(sz:Nat):AFunc:=⟨[P.nat 0,P.nat 1,P.nat 2,P.nat 3],[.tmp (P.nat 8),.tmp (P.nat 9)],(aJu σ sz)⟩
def aI7(σ:Srt)(sz:Nat):ah:=.region [⟨D 10,.mov (R 1),none⟩,⟨D 8,.mov (R 10),none⟩] []
def aI5(σ:Srt)(sz:Nat):ah:=.region [⟨D 11,.mov (R 2),none⟩,⟨D 12,.bin .sub (R 11) (.k (.c (.f (.int .i64 1)))),none⟩,⟨D 9,.mov (R 12),none⟩] []
def aI0(σ:Srt)(sz:Nat):ah:=.region [⟨D 13,.mov (R 8),none⟩,⟨D 14,.mov (R 9),none⟩,⟨D 15,.bin .lss (R 13) (R 14),none⟩] []
def aIZ(σ:Srt)(sz:Nat):ah:=.cond (R 15) .skip (.exit 0)
def aI1(σ:Srt)(sz:Nat):ah:=.seq (aI0 σ sz) (aIZ σ sz)
def aCl(σ:Srt)(sz:Nat):ah:=.region [⟨D 16,.mov (R 0),none⟩,⟨D 17,.mov (R 8),none⟩,⟨D 18,.mov (R 0),none⟩,⟨D 19,.mov (R 9),none⟩,⟨D 20,.mov (R 0),none⟩,⟨D 21,.mov (R 9),none⟩,⟨D 22,.aC sz none (R 20) (R 21),none⟩,⟨D 23,.load (some sz) (R 22),none⟩,⟨D 24,.mov (R 0),none⟩,⟨D 25,.mov (R 8),none⟩,⟨D 26,.aC sz none (R 24) (R 25),none⟩,⟨D 27,.load (some sz) (R 26),none⟩,⟨D 28,.aC sz none (R 16) (R 17),none⟩,⟨none,.store sz (R 28) (R 23),none⟩,⟨D 29,.aC sz none (R 18) (R 19),none⟩,⟨none,.store sz (R 29) (R 27),none⟩] []
def aCj(σ:Srt)(sz:Nat):ah:=.region [⟨D 30,.mov (R 8),none⟩,⟨D 31,.bin .add (R 30) (.k (.c (.f (.int .i64 1)))),none⟩,⟨D 8,.mov (R 31),none⟩] []
def aCi(σ:Srt)(sz:Nat):ah:=.region [⟨D 32,.mov (R 9),none⟩,⟨D 33,.bin .sub (R 32) (.k (.c (.f (.int .i64 1)))),none⟩,⟨D 9,.mov (R 33),none⟩] []
def aCk(σ:Srt)(sz:Nat):ah:=.seq (aCj σ sz) (aCi σ sz)
def aCm(σ:Srt)(sz:Nat):ah:=.seq (aCl σ sz) (aCk σ sz)
def aCn(σ:Srt)(sz:Nat):ah:=.block 1 (aCm σ sz)
def aI2(σ:Srt)(sz:Nat):ah:=.seq (aI1 σ sz) (aCn σ sz)
def aI3(σ:Srt)(sz:Nat):ah:=.loop (aI2 σ sz)
def aI4(σ:Srt)(sz:Nat):ah:=.block 0 (aI3 σ sz)
def aI6(σ:Srt)(sz:Nat):ah:=.seq (aI5 σ sz) (aI4 σ sz)
def aI8(σ:Srt)(sz:Nat):ah:=.seq (aI7 σ sz) (aI6 σ sz)
def ahW(σ:Srt)(sz:Nat):AFunc:=⟨[P.nat 0,P.nat 1,P.nat 2,P.nat 3],[],(aI8 σ sz)⟩
def aFg(σ:Srt)(sz:Nat):ah:=.region [⟨D 10,.mov (.k (.c (.f (.int .i64 0)))),none⟩,⟨D 11,.mov (.k (.c (.f (.bool false)))),none⟩] []
def aFe(σ:Srt)(sz:Nat):ah:=.region [⟨D 14,.mov (R 0),none⟩,⟨D 15,.mov (R 1),none⟩,⟨D 16,.mov (R 0),none⟩,⟨D 17,.mov (R 3),none⟩,⟨D 18,.mov (R 0),none⟩,⟨D 19,.mov (R 3),none⟩,⟨D 20,.aC sz none (R 18) (R 19),none⟩,⟨D 21,.load (some sz) (R 20),none⟩,⟨D 22,.mov (R 0),none⟩,⟨D 23,.mov (R 1),none⟩,⟨D 24,.aC sz none (R 22) (R 23),none⟩,⟨D 25,.load (some sz) (R 24),none⟩,⟨D 26,.aC sz none (R 14) (R 15),none⟩,⟨none,.store sz (R 26) (R 21),none⟩,⟨D 27,.aC sz none (R 16) (R 17),none⟩,⟨none,.store sz (R 27) (R 25),none⟩] []
def aFc(σ:Srt)(sz:Nat):ah:=.region [⟨D 28,.mov (R 1),none⟩,⟨D 29,.bin .add (R 28) (.k (.c (.f (.int .i64 1)))),none⟩,⟨D 30,.mov (R 2),none⟩,⟨D 31,.bin .sub (R 30) (.k (.c (.f (.int .i64 1)))),none⟩,⟨D 12,.mov (R 29),none⟩,⟨D 13,.mov (R 31),none⟩] []
def awT(σ:Srt)(sz:Nat):ah:=.region [⟨D 32,.mov (R 12),none⟩,⟨D 33,.mov (R 13),none⟩,⟨D 34,.bin .leq (R 32) (R 33),none⟩,⟨D 35,.mov (R 34),none⟩,⟨D 36,.mov (R 4),G 35 true⟩,⟨D 37,.mov (R 0),G 35 true⟩,⟨D 38,.mov (R 12),G 35 true⟩,⟨D 39,.aC sz none (R 37) (R 38),G 35 true⟩,⟨D 40,.load (some sz) (R 39),G 35 true⟩,⟨D 41,.mov (R 0),G 35 true⟩,⟨D 42,.mov (R 1),G 35 true⟩,⟨D 43,.aC sz none (R 41) (R 42),G 35 true⟩,⟨D 44,.load (some sz) (R 43),G 35 true⟩,⟨D 45,.bH (R 36) [(R 40),(R 44)] true,G 35 true⟩,⟨D 46,.bin .lss (R 45) (.k (.c (.f (.int .i64 0)))),G 35 true⟩,⟨D 47,.pick (R 35) (R 46) (.k (.c (.f (.bool false)))),none⟩] []
def awS(σ:Srt)(sz:Nat):ah:=.cond (R 47) .skip (.exit 0)
def awU(σ:Srt)(sz:Nat):ah:=.seq (awT σ sz) (awS σ sz)
def awQ(σ:Srt)(sz:Nat):ah:=.region [⟨D 48,.mov (R 12),none⟩,⟨D 49,.bin .add (R 48) (.k (.c (.f (.int .i64 1)))),none⟩,⟨D 12,.mov (R 49),none⟩] []
def awR(σ:Srt)(sz:Nat):ah:=.block 1 (awQ σ sz)
def aE9(σ:Srt)(sz:Nat):ah:=.seq (awU σ sz) (awR σ sz)
def aFa(σ:Srt)(sz:Nat):ah:=.loop (aE9 σ sz)
def aiC(σ:Srt)(sz:Nat):ah:=.block 0 (aFa σ sz)
def awL(σ:Srt)(sz:Nat):ah:=.region [⟨D 50,.mov (R 12),none⟩,⟨D 51,.mov (R 13),none⟩,⟨D 52,.bin .leq (R 50) (R 51),none⟩,⟨D 53,.mov (R 52),none⟩,⟨D 54,.mov (R 4),G 53 true⟩,⟨D 55,.mov (R 0),G 53 true⟩,⟨D 56,.mov (R 13),G 53 true⟩,⟨D 57,.aC sz none (R 55) (R 56),G 53 true⟩,⟨D 58,.load (some sz) (R 57),G 53 true⟩,⟨D 59,.mov (R 0),G 53 true⟩,⟨D 60,.mov (R 1),G 53 true⟩,⟨D 61,.aC sz none (R 59) (R 60),G 53 true⟩,⟨D 62,.load (some sz) (R 61),G 53 true⟩,⟨D 63,.bH (R 54) [(R 58),(R 62)] true,G 53 true⟩,⟨D 64,.bin .lss (R 63) (.k (.c (.f (.int .i64 0)))),G 53 true⟩,⟨D 65,.un .not (R 64),G 53 true⟩,⟨D 66,.pick (R 53) (R 65) (.k (.c (.f (.bool false)))),none⟩] []
def awK(σ:Srt)(sz:Nat):ah:=.cond (R 66) .skip (.exit 2)
def awM(σ:Srt)(sz:Nat):ah:=.seq (awL σ sz) (awK σ sz)
def awI(σ:Srt)(sz:Nat):ah:=.region [⟨D 67,.mov (R 13),none⟩,⟨D 68,.bin .sub (R 67) (.k (.c (.f (.int .i64 1)))),none⟩,⟨D 13,.mov (R 68),none⟩] []
def awJ(σ:Srt)(sz:Nat):ah:=.block 3 (awI σ sz)
def awN(σ:Srt)(sz:Nat):ah:=.seq (awM σ sz) (awJ σ sz)
def awO(σ:Srt)(sz:Nat):ah:=.loop (awN σ sz)
def P5(σ:Srt)(sz:Nat):ah:=.block 2 (awO σ sz)
def awF(σ:Srt)(sz:Nat):ah:=.region [⟨D 69,.mov (R 12),none⟩,⟨D 70,.mov (R 13),none⟩,⟨D 71,.bin .gtr (R 69) (R 70),none⟩] []
def awC(σ:Srt)(sz:Nat):ah:=.region [⟨D 72,.mov (R 0),none⟩,⟨D 73,.mov (R 13),none⟩,⟨D 74,.mov (R 0),none⟩,⟨D 75,.mov (R 1),none⟩,⟨D 76,.mov (R 0),none⟩,⟨D 77,.mov (R 1),none⟩,⟨D 78,.aC sz none (R 76) (R 77),none⟩,⟨D 79,.load (some sz) (R 78),none⟩,⟨D 80,.mov (R 0),none⟩,⟨D 81,.mov (R 13),none⟩,⟨D 82,.aC sz none (R 80) (R 81),none⟩,⟨D 83,.load (some sz) (R 82),none⟩,⟨D 84,.aC sz none (R 72) (R 73),none⟩,⟨none,.store sz (R 84) (R 79),none⟩,⟨D 85,.aC sz none (R 74) (R 75),none⟩,⟨none,.store sz (R 85) (R 83),none⟩] []
def awy(σ:Srt)(sz:Nat):ah:=.region [⟨D 86,.mov (R 13),none⟩,⟨D 10,.mov (R 86),none⟩,⟨D 11,.mov (.k (.c (.f (.bool true)))),none⟩] []
def awz(σ:Srt)(sz:Nat):ah:=.seq (awy σ sz) .ret
def awD(σ:Srt)(sz:Nat):ah:=.seq (awC σ sz) (awz σ sz)
def awE(σ:Srt)(sz:Nat):ah:=.cond (R 71) (awD σ sz) .skip
def awG(σ:Srt)(sz:Nat):ah:=.seq (awF σ sz) (awE σ sz)
def aww(σ:Srt)(sz:Nat):ah:=.region [⟨D 87,.mov (R 0),none⟩,⟨D 88,.mov (R 12),none⟩,⟨D 89,.mov (R 0),none⟩,⟨D 90,.mov (R 13),none⟩,⟨D 91,.mov (R 0),none⟩,⟨D 92,.mov (R 13),none⟩,⟨D 93,.aC sz none (R 91) (R 92),none⟩,⟨D 94,.load (some sz) (R 93),none⟩,⟨D 95,.mov (R 0),none⟩,⟨D 96,.mov (R 12),none⟩,⟨D 97,.aC sz none (R 95) (R 96),none⟩,⟨D 98,.load (some sz) (R 97),none⟩,⟨D 99,.aC sz none (R 87) (R 88),none⟩,⟨none,.store sz (R 99) (R 94),none⟩,⟨D 100,.aC sz none (R 89) (R 90),none⟩,⟨none,.store sz (R 100) (R 98),none⟩] []
def awu(σ:Srt)(sz:Nat):ah:=.region [⟨D 101,.mov (R 12),none⟩,⟨D 102,.bin .add (R 101) (.k (.c (.f (.int .i64 1)))),none⟩,⟨D 12,.mov (R 102),none⟩] []
def awr(σ:Srt)(sz:Nat):ah:=.region [⟨D 103,.mov (R 13),none⟩,⟨D 104,.bin .sub (R 103) (.k (.c (.f (.int .i64 1)))),none⟩,⟨D 13,.mov (R 104),none⟩] []
def awi(σ:Srt)(sz:Nat):ah:=.region [⟨D 105,.mov (R 12),none⟩,⟨D 106,.mov (R 13),none⟩,⟨D 107,.bin .leq (R 105) (R 106),none⟩,⟨D 108,.mov (R 107),none⟩,⟨D 109,.mov (R 4),G 108 true⟩,⟨D 110,.mov (R 0),G 108 true⟩,⟨D 111,.mov (R 12),G 108 true⟩,⟨D 112,.aC sz none (R 110) (R 111),G 108 true⟩,⟨D 113,.load (some sz) (R 112),G 108 true⟩,⟨D 114,.mov (R 0),G 108 true⟩,⟨D 115,.mov (R 1),G 108 true⟩,⟨D 116,.aC sz none (R 114) (R 115),G 108 true⟩,⟨D 117,.load (some sz) (R 116),G 108 true⟩,⟨D 118,.bH (R 109) [(R 113),(R 117)] true,G 108 true⟩,⟨D 119,.bin .lss (R 118) (.k (.c (.f (.int .i64 0)))),G 108 true⟩,⟨D 120,.pick (R 108) (R 119) (.k (.c (.f (.bool false)))),none⟩] []
def awh(σ:Srt)(sz:Nat):ah:=.cond (R 120) .skip (.exit 6)
def awj(σ:Srt)(sz:Nat):ah:=.seq (awi σ sz) (awh σ sz)
def awf(σ:Srt)(sz:Nat):ah:=.region [⟨D 121,.mov (R 12),none⟩,⟨D 122,.bin .add (R 121) (.k (.c (.f (.int .i64 1)))),none⟩,⟨D 12,.mov (R 122),none⟩] []
def awg(σ:Srt)(sz:Nat):ah:=.block 7 (awf σ sz)
def awk(σ:Srt)(sz:Nat):ah:=.seq (awj σ sz) (awg σ sz)
def awl(σ:Srt)(sz:Nat):ah:=.loop (awk σ sz)
def PZ(σ:Srt)(sz:Nat):ah:=.block 6 (awl σ sz)
def av8(σ:Srt)(sz:Nat):ah:=.region [⟨D 123,.mov (R 12),none⟩,⟨D 124,.mov (R 13),none⟩,⟨D 125,.bin .leq (R 123) (R 124),none⟩,⟨D 126,.mov (R 125),none⟩,⟨D 127,.mov (R 4),G 126 true⟩,⟨D 128,.mov (R 0),G 126 true⟩,⟨D 129,.mov (R 13),G 126 true⟩,⟨D 130,.aC sz none (R 128) (R 129),G 126 true⟩,⟨D 131,.load (some sz) (R 130),G 126 true⟩,⟨D 132,.mov (R 0),G 126 true⟩,⟨D 133,.mov (R 1),G 126 true⟩,⟨D 134,.aC sz none (R 132) (R 133),G 126 true⟩,⟨D 135,.load (some sz) (R 134),G 126 true⟩,⟨D 136,.bH (R 127) [(R 131),(R 135)] true,G 126 true⟩,⟨D 137,.bin .lss (R 136) (.k (.c (.f (.int .i64 0)))),G 126 true⟩,⟨D 138,.un .not (R 137),G 126 true⟩,⟨D 139,.pick (R 126) (R 138) (.k (.c (.f (.bool false)))),none⟩] []
def av7(σ:Srt)(sz:Nat):ah:=.cond (R 139) .skip (.exit 8)
def av9(σ:Srt)(sz:Nat):ah:=.seq (av8 σ sz) (av7 σ sz)
def av5(σ:Srt)(sz:Nat):ah:=.region [⟨D 140,.mov (R 13),none⟩,⟨D 141,.bin .sub (R 140) (.k (.c (.f (.int .i64 1)))),none⟩,⟨D 13,.mov (R 141),none⟩] []
def av6(σ:Srt)(sz:Nat):ah:=.block 9 (av5 σ sz)
def awc(σ:Srt)(sz:Nat):ah:=.seq (av9 σ sz) (av6 σ sz)
def awd(σ:Srt)(sz:Nat):ah:=.loop (awc σ sz)
def PY(σ:Srt)(sz:Nat):ah:=.block 8 (awd σ sz)
def av2(σ:Srt)(sz:Nat):ah:=.region [⟨D 142,.mov (R 12),none⟩,⟨D 143,.mov (R 13),none⟩,⟨D 144,.bin .gtr (R 142) (R 143),none⟩] []
def av1(σ:Srt)(sz:Nat):ah:=.cond (R 144) (.exit 4) .skip
def av3(σ:Srt)(sz:Nat):ah:=.seq (av2 σ sz) (av1 σ sz)
def avY(σ:Srt)(sz:Nat):ah:=.region [⟨D 145,.mov (R 0),none⟩,⟨D 146,.mov (R 12),none⟩,⟨D 147,.mov (R 0),none⟩,⟨D 148,.mov (R 13),none⟩,⟨D 149,.mov (R 0),none⟩,⟨D 150,.mov (R 13),none⟩,⟨D 151,.aC sz none (R 149) (R 150),none⟩,⟨D 152,.load (some sz) (R 151),none⟩,⟨D 153,.mov (R 0),none⟩,⟨D 154,.mov (R 12),none⟩,⟨D 155,.aC sz none (R 153) (R 154),none⟩,⟨D 156,.load (some sz) (R 155),none⟩,⟨D 157,.aC sz none (R 145) (R 146),none⟩,⟨none,.store sz (R 157) (R 152),none⟩,⟨D 158,.aC sz none (R 147) (R 148),none⟩,⟨none,.store sz (R 158) (R 156),none⟩] []
def avW(σ:Srt)(sz:Nat):ah:=.region [⟨D 159,.mov (R 12),none⟩,⟨D 160,.bin .add (R 159) (.k (.c (.f (.int .i64 1)))),none⟩,⟨D 12,.mov (R 160),none⟩] []
def avV(σ:Srt)(sz:Nat):ah:=.region [⟨D 161,.mov (R 13),none⟩,⟨D 162,.bin .sub (R 161) (.k (.c (.f (.int .i64 1)))),none⟩,⟨D 13,.mov (R 162),none⟩] []
def avX(σ:Srt)(sz:Nat):ah:=.seq (avW σ sz) (avV σ sz)
def avZ(σ:Srt)(sz:Nat):ah:=.seq (avY σ sz) (avX σ sz)
def av4(σ:Srt)(sz:Nat):ah:=.seq (av3 σ sz) (avZ σ sz)
def awe(σ:Srt)(sz:Nat):ah:=.seq (PY σ sz) (av4 σ sz)
def awm(σ:Srt)(sz:Nat):ah:=.seq (PZ σ sz) (awe σ sz)
def awn(σ:Srt)(sz:Nat):ah:=.block 5 (awm σ sz)
def awo(σ:Srt)(sz:Nat):ah:=.loop (awn σ sz)
def awp(σ:Srt)(sz:Nat):ah:=.block 4 (awo σ sz)
def avU(σ:Srt)(sz:Nat):ah:=.region [⟨D 163,.mov (R 0),none⟩,⟨D 164,.mov (R 13),none⟩,⟨D 165,.mov (R 0),none⟩,⟨D 166,.mov (R 1),none⟩,⟨D 167,.mov (R 0),none⟩,⟨D 168,.mov (R 1),none⟩,⟨D 169,.aC sz none (R 167) (R 168),none⟩,⟨D 170,.load (some sz) (R 169),none⟩,⟨D 171,.mov (R 0),none⟩,⟨D 172,.mov (R 13),none⟩,⟨D 173,.aC sz none (R 171) (R 172),none⟩,⟨D 174,.load (some sz) (R 173),none⟩,⟨D 175,.aC sz none (R 163) (R 164),none⟩,⟨none,.store sz (R 175) (R 170),none⟩,⟨D 176,.aC sz none (R 165) (R 166),none⟩,⟨none,.store sz (R 176) (R 174),none⟩] []
def avS(σ:Srt)(sz:Nat):ah:=.region [⟨D 177,.mov (R 13),none⟩,⟨D 10,.mov (R 177),none⟩,⟨D 11,.mov (.k (.c (.f (.bool false)))),none⟩] []
def avT(σ:Srt)(sz:Nat):ah:=.seq (avS σ sz) .ret
def PX(σ:Srt)(sz:Nat):ah:=.seq (avU σ sz) (avT σ sz)
def awq(σ:Srt)(sz:Nat):ah:=.seq (awp σ sz) (PX σ sz)
def awt(σ:Srt)(sz:Nat):ah:=.seq (awr σ sz) (awq σ sz)
def awv(σ:Srt)(sz:Nat):ah:=.seq (awu σ sz) (awt σ sz)
def awx(σ:Srt)(sz:Nat):ah:=.seq (aww σ sz) (awv σ sz)
def awH(σ:Srt)(sz:Nat):ah:=.seq (awG σ sz) (awx σ sz)
def awP(σ:Srt)(sz:Nat):ah:=.seq (P5 σ sz) (awH σ sz)
def aFb(σ:Srt)(sz:Nat):ah:=.seq (aiC σ sz) (awP σ sz)
def aFd(σ:Srt)(sz:Nat):ah:=.seq (aFc σ sz) (aFb σ sz)
def aFf(σ:Srt)(sz:Nat):ah:=.seq (aFe σ sz) (aFd σ sz)
def aFh(σ:Srt)(sz:Nat):ah:=.seq (aFg σ sz) (aFf σ sz)
def Lc(σ:Srt)(sz:Nat):AFunc:=⟨[P.nat 0,P.nat 1,P.nat 2,P.nat 3,P.nat 4],[.tmp (P.nat 10),.tmp (P.nat 11)],(aFh σ sz)⟩
def aJD(σ:Srt)(sz:Nat):ah:=.region [⟨D 10,.mov (.k (.c (.f (.int .i64 0)))),none⟩] []
def aJB(σ:Srt)(sz:Nat):ah:=.region [⟨D 13,.mov (R 0),none⟩,⟨D 14,.mov (R 1),none⟩,⟨D 15,.mov (R 0),none⟩,⟨D 16,.mov (R 3),none⟩,⟨D 17,.mov (R 0),none⟩,⟨D 18,.mov (R 3),none⟩,⟨D 19,.aC sz none (R 17) (R 18),none⟩,⟨D 20,.load (some sz) (R 19),none⟩,⟨D 21,.mov (R 0),none⟩,⟨D 22,.mov (R 1),none⟩,⟨D 23,.aC sz none (R 21) (R 22),none⟩,⟨D 24,.load (some sz) (R 23),none⟩,⟨D 25,.aC sz none (R 13) (R 14),none⟩,⟨none,.store sz (R 25) (R 20),none⟩,⟨D 26,.aC sz none (R 15) (R 16),none⟩,⟨none,.store sz (R 26) (R 24),none⟩] []
def aJz(σ:Srt)(sz:Nat):ah:=.region [⟨D 27,.mov (R 1),none⟩,⟨D 28,.bin .add (R 27) (.k (.c (.f (.int .i64 1)))),none⟩,⟨D 29,.mov (R 2),none⟩,⟨D 30,.bin .sub (R 29) (.k (.c (.f (.int .i64 1)))),none⟩,⟨D 11,.mov (R 28),none⟩,⟨D 12,.mov (R 30),none⟩] []
def aD3(σ:Srt)(sz:Nat):ah:=.region [⟨D 31,.mov (R 11),none⟩,⟨D 32,.mov (R 12),none⟩,⟨D 33,.bin .leq (R 31) (R 32),none⟩,⟨D 34,.mov (R 33),none⟩,⟨D 35,.mov (R 4),G 34 true⟩,⟨D 36,.mov (R 0),G 34 true⟩,⟨D 37,.mov (R 1),G 34 true⟩,⟨D 38,.aC sz none (R 36) (R 37),G 34 true⟩,⟨D 39,.load (some sz) (R 38),G 34 true⟩,⟨D 40,.mov (R 0),G 34 true⟩,⟨D 41,.mov (R 11),G 34 true⟩,⟨D 42,.aC sz none (R 40) (R 41),G 34 true⟩,⟨D 43,.load (some sz) (R 42),G 34 true⟩,⟨D 44,.bH (R 35) [(R 39),(R 43)] true,G 34 true⟩,⟨D 45,.bin .lss (R 44) (.k (.c (.f (.int .i64 0)))),G 34 true⟩,⟨D 46,.un .not (R 45),G 34 true⟩,⟨D 47,.pick (R 34) (R 46) (.k (.c (.f (.bool false)))),none⟩] []
def aD2(σ:Srt)(sz:Nat):ah:=.cond (R 47) .skip (.exit 2)
def aD4(σ:Srt)(sz:Nat):ah:=.seq (aD3 σ sz) (aD2 σ sz)
def aD0(σ:Srt)(sz:Nat):ah:=.region [⟨D 48,.mov (R 11),none⟩,⟨D 49,.bin .add (R 48) (.k (.c (.f (.int .i64 1)))),none⟩,⟨D 11,.mov (R 49),none⟩] []
def aD1(σ:Srt)(sz:Nat):ah:=.block 3 (aD0 σ sz)
def aD5(σ:Srt)(sz:Nat):ah:=.seq (aD4 σ sz) (aD1 σ sz)
def aD6(σ:Srt)(sz:Nat):ah:=.loop (aD5 σ sz)
def air(σ:Srt)(sz:Nat):ah:=.block 2 (aD6 σ sz)
def aDV(σ:Srt)(sz:Nat):ah:=.region [⟨D 50,.mov (R 11),none⟩,⟨D 51,.mov (R 12),none⟩,⟨D 52,.bin .leq (R 50) (R 51),none⟩,⟨D 53,.mov (R 52),none⟩,⟨D 54,.mov (R 4),G 53 true⟩,⟨D 55,.mov (R 0),G 53 true⟩,⟨D 56,.mov (R 1),G 53 true⟩,⟨D 57,.aC sz none (R 55) (R 56),G 53 true⟩,⟨D 58,.load (some sz) (R 57),G 53 true⟩,⟨D 59,.mov (R 0),G 53 true⟩,⟨D 60,.mov (R 12),G 53 true⟩,⟨D 61,.aC sz none (R 59) (R 60),G 53 true⟩,⟨D 62,.load (some sz) (R 61),G 53 true⟩,⟨D 63,.bH (R 54) [(R 58),(R 62)] true,G 53 true⟩,⟨D 64,.bin .lss (R 63) (.k (.c (.f (.int .i64 0)))),G 53 true⟩,⟨D 65,.pick (R 53) (R 64) (.k (.c (.f (.bool false)))),none⟩] []
def aDU(σ:Srt)(sz:Nat):ah:=.cond (R 65) .skip (.exit 4)
def aDW(σ:Srt)(sz:Nat):ah:=.seq (aDV σ sz) (aDU σ sz)
def aDS(σ:Srt)(sz:Nat):ah:=.region [⟨D 66,.mov (R 12),none⟩,⟨D 67,.bin .sub (R 66) (.k (.c (.f (.int .i64 1)))),none⟩,⟨D 12,.mov (R 67),none⟩] []
def aDT(σ:Srt)(sz:Nat):ah:=.block 5 (aDS σ sz)
def aDX(σ:Srt)(sz:Nat):ah:=.seq (aDW σ sz) (aDT σ sz)
def aDY(σ:Srt)(sz:Nat):ah:=.loop (aDX σ sz)
def aiq(σ:Srt)(sz:Nat):ah:=.block 4 (aDY σ sz)
def aDP(σ:Srt)(sz:Nat):ah:=.region [⟨D 68,.mov (R 11),none⟩,⟨D 69,.mov (R 12),none⟩,⟨D 70,.bin .gtr (R 68) (R 69),none⟩] []
def aDO(σ:Srt)(sz:Nat):ah:=.cond (R 70) (.exit 0) .skip
def aDQ(σ:Srt)(sz:Nat):ah:=.seq (aDP σ sz) (aDO σ sz)
def aDM(σ:Srt)(sz:Nat):ah:=.region [⟨D 71,.mov (R 0),none⟩,⟨D 72,.mov (R 11),none⟩,⟨D 73,.mov (R 0),none⟩,⟨D 74,.mov (R 12),none⟩,⟨D 75,.mov (R 0),none⟩,⟨D 76,.mov (R 12),none⟩,⟨D 77,.aC sz none (R 75) (R 76),none⟩,⟨D 78,.load (some sz) (R 77),none⟩,⟨D 79,.mov (R 0),none⟩,⟨D 80,.mov (R 11),none⟩,⟨D 81,.aC sz none (R 79) (R 80),none⟩,⟨D 82,.load (some sz) (R 81),none⟩,⟨D 83,.aC sz none (R 71) (R 72),none⟩,⟨none,.store sz (R 83) (R 78),none⟩,⟨D 84,.aC sz none (R 73) (R 74),none⟩,⟨none,.store sz (R 84) (R 82),none⟩] []
def aDK(σ:Srt)(sz:Nat):ah:=.region [⟨D 85,.mov (R 11),none⟩,⟨D 86,.bin .add (R 85) (.k (.c (.f (.int .i64 1)))),none⟩,⟨D 11,.mov (R 86),none⟩] []
def aDJ(σ:Srt)(sz:Nat):ah:=.region [⟨D 87,.mov (R 12),none⟩,⟨D 88,.bin .sub (R 87) (.k (.c (.f (.int .i64 1)))),none⟩,⟨D 12,.mov (R 88),none⟩] []
def aDL(σ:Srt)(sz:Nat):ah:=.seq (aDK σ sz) (aDJ σ sz)
def aDN(σ:Srt)(sz:Nat):ah:=.seq (aDM σ sz) (aDL σ sz)
def aDR(σ:Srt)(sz:Nat):ah:=.seq (aDQ σ sz) (aDN σ sz)
def aDZ(σ:Srt)(sz:Nat):ah:=.seq (aiq σ sz) (aDR σ sz)
def aD7(σ:Srt)(sz:Nat):ah:=.seq (air σ sz) (aDZ σ sz)
def aJv(σ:Srt)(sz:Nat):ah:=.block 1 (aD7 σ sz)
def aJw(σ:Srt)(sz:Nat):ah:=.loop (aJv σ sz)
def aJx(σ:Srt)(sz:Nat):ah:=.block 0 (aJw σ sz)
def aDI(σ:Srt)(sz:Nat):ah:=.region [⟨D 89,.mov (R 11),none⟩,⟨D 10,.mov (R 89),none⟩] []
def aip(σ:Srt)(sz:Nat):ah:=.seq (aDI σ sz) .ret
def aJy(σ:Srt)(sz:Nat):ah:=.seq (aJx σ sz) (aip σ sz)
def aJA(σ:Srt)(sz:Nat):ah:=.seq (aJz σ sz) (aJy σ sz)
def aJC(σ:Srt)(sz:Nat):ah:=.seq (aJB σ sz) (aJA σ sz)
def aJE(σ:Srt)(sz:Nat):ah:=.seq (aJD σ sz) (aJC σ sz)
def aio(σ:Srt)(sz:Nat):AFunc:=⟨[P.nat 0,P.nat 1,P.nat 2,P.nat 3,P.nat 4],[.tmp (P.nat 10)],(aJE σ sz)⟩
def aDC(σ:Srt)(sz:Nat):ah:=.region [⟨D 8,.mov (.k (.c (.f (.bool false)))),none⟩] []
def aDA(σ:Srt)(sz:Nat):ah:=.region [⟨D 13,.mov (R 1),none⟩,⟨D 14,.bin .add (R 13) (.k (.c (.f (.int .i64 1)))),none⟩,⟨D 9,.mov (R 14),none⟩] []
def aDx(σ:Srt)(sz:Nat):ah:=.region [⟨D 10,.mov (.k (.c (.f (.int .i64 0)))),none⟩] []
def avN(σ:Srt)(sz:Nat):ah:=.region [⟨D 15,.mov (R 10),none⟩,⟨D 16,.bin .lss (R 15) (.k (.c (.f (.int .i64 5)))),none⟩] []
def avM(σ:Srt)(sz:Nat):ah:=.cond (R 16) .skip (.exit 0)
def avO(σ:Srt)(sz:Nat):ah:=.seq (avN σ sz) (avM σ sz)
def avF(σ:Srt)(sz:Nat):ah:=.region [⟨D 19,.mov (R 9),none⟩,⟨D 20,.mov (R 2),none⟩,⟨D 21,.bin .lss (R 19) (R 20),none⟩,⟨D 22,.mov (R 21),none⟩,⟨D 23,.mov (R 3),G 22 true⟩,⟨D 24,.mov (R 0),G 22 true⟩,⟨D 25,.mov (R 9),G 22 true⟩,⟨D 26,.aC sz none (R 24) (R 25),G 22 true⟩,⟨D 27,.load (some sz) (R 26),G 22 true⟩,⟨D 28,.mov (R 0),G 22 true⟩,⟨D 29,.mov (R 9),G 22 true⟩,⟨D 30,.bin .sub (R 29) (.k (.c (.f (.int .i64 1)))),G 22 true⟩,⟨D 31,.aC sz none (R 28) (R 30),G 22 true⟩,⟨D 32,.load (some sz) (R 31),G 22 true⟩,⟨D 33,.bH (R 23) [(R 27),(R 32)] true,G 22 true⟩,⟨D 34,.bin .lss (R 33) (.k (.c (.f (.int .i64 0)))),G 22 true⟩,⟨D 35,.un .not (R 34),G 22 true⟩,⟨D 36,.pick (R 22) (R 35) (.k (.c (.f (.bool false)))),none⟩] []
def avE(σ:Srt)(sz:Nat):ah:=.cond (R 36) .skip (.exit 2)
def avG(σ:Srt)(sz:Nat):ah:=.seq (avF σ sz) (avE σ sz)
def avC(σ:Srt)(sz:Nat):ah:=.region [⟨D 37,.mov (R 9),none⟩,⟨D 38,.bin .add (R 37) (.k (.c (.f (.int .i64 1)))),none⟩,⟨D 9,.mov (R 38),none⟩] []
def avD(σ:Srt)(sz:Nat):ah:=.block 3 (avC σ sz)
def avH(σ:Srt)(sz:Nat):ah:=.seq (avG σ sz) (avD σ sz)
def avI(σ:Srt)(sz:Nat):ah:=.loop (avH σ sz)
def PV(σ:Srt)(sz:Nat):ah:=.block 2 (avI σ sz)
def avy(σ:Srt)(sz:Nat):ah:=.region [⟨D 39,.mov (R 9),none⟩,⟨D 40,.mov (R 2),none⟩,⟨D 41,.bin .eql (R 39) (R 40),none⟩] []
def avv(σ:Srt)(sz:Nat):ah:=.region [⟨D 8,.mov (.k (.c (.f (.bool true)))),none⟩] []
def avw(σ:Srt)(sz:Nat):ah:=.seq (avv σ sz) .ret
def avx(σ:Srt)(sz:Nat):ah:=.cond (R 41) (avw σ sz) .skip
def avz(σ:Srt)(sz:Nat):ah:=.seq (avy σ sz) (avx σ sz)
def avs(σ:Srt)(sz:Nat):ah:=.region [⟨D 42,.mov (R 2),none⟩,⟨D 43,.mov (R 1),none⟩,⟨D 44,.bin .sub (R 42) (R 43),none⟩,⟨D 45,.bin .lss (R 44) (.k (.c (.f (.int .i64 50)))),none⟩] []
def avp(σ:Srt)(sz:Nat):ah:=.region [⟨D 8,.mov (.k (.c (.f (.bool false)))),none⟩] []
def avq(σ:Srt)(sz:Nat):ah:=.seq (avp σ sz) .ret
def avr(σ:Srt)(sz:Nat):ah:=.cond (R 45) (avq σ sz) .skip
def avt(σ:Srt)(sz:Nat):ah:=.seq (avs σ sz) (avr σ sz)
def avn(σ:Srt)(sz:Nat):ah:=.region [⟨D 46,.mov (R 0),none⟩,⟨D 47,.mov (R 9),none⟩,⟨D 48,.mov (R 0),none⟩,⟨D 49,.mov (R 9),none⟩,⟨D 50,.bin .sub (R 49) (.k (.c (.f (.int .i64 1)))),none⟩,⟨D 51,.mov (R 0),none⟩,⟨D 52,.mov (R 9),none⟩,⟨D 53,.bin .sub (R 52) (.k (.c (.f (.int .i64 1)))),none⟩,⟨D 54,.aC sz none (R 51) (R 53),none⟩,⟨D 55,.load (some sz) (R 54),none⟩,⟨D 56,.mov (R 0),none⟩,⟨D 57,.mov (R 9),none⟩,⟨D 58,.aC sz none (R 56) (R 57),none⟩,⟨D 59,.load (some sz) (R 58),none⟩,⟨D 60,.aC sz none (R 46) (R 47),none⟩,⟨none,.store sz (R 60) (R 55),none⟩,⟨D 61,.aC sz none (R 48) (R 50),none⟩,⟨none,.store sz (R 61) (R 59),none⟩] []
def avk(σ:Srt)(sz:Nat):ah:=.region [⟨D 62,.mov (R 9),none⟩,⟨D 63,.mov (R 1),none⟩,⟨D 64,.bin .sub (R 62) (R 63),none⟩,⟨D 65,.bin .geq (R 64) (.k (.c (.f (.int .i64 2)))),none⟩] []
def avh(σ:Srt)(sz:Nat):ah:=.region [⟨D 66,.mov (R 9),none⟩,⟨D 67,.bin .sub (R 66) (.k (.c (.f (.int .i64 1)))),none⟩,⟨D 11,.mov (R 67),none⟩] []
def avd(σ:Srt)(sz:Nat):ah:=.region [⟨D 68,.mov (R 11),none⟩,⟨D 69,.bin .geq (R 68) (.k (.c (.f (.int .i64 1)))),none⟩] []
def avc(σ:Srt)(sz:Nat):ah:=.cond (R 69) .skip (.exit 4)
def ave(σ:Srt)(sz:Nat):ah:=.seq (avd σ sz) (avc σ sz)
def au7(σ:Srt)(sz:Nat):ah:=.region [⟨D 72,.mov (R 3),none⟩,⟨D 73,.mov (R 0),none⟩,⟨D 74,.mov (R 11),none⟩,⟨D 75,.aC sz none (R 73) (R 74),none⟩,⟨D 76,.load (some sz) (R 75),none⟩,⟨D 77,.mov (R 0),none⟩,⟨D 78,.mov (R 11),none⟩,⟨D 79,.bin .sub (R 78) (.k (.c (.f (.int .i64 1)))),none⟩,⟨D 80,.aC sz none (R 77) (R 79),none⟩,⟨D 81,.load (some sz) (R 80),none⟩,⟨D 82,.bH (R 72) [(R 76),(R 81)] true,none⟩,⟨D 83,.bin .lss (R 82) (.k (.c (.f (.int .i64 0)))),none⟩,⟨D 84,.un .not (R 83),none⟩] []
def au6(σ:Srt)(sz:Nat):ah:=.cond (R 84) (.exit 4) .skip
def au8(σ:Srt)(sz:Nat):ah:=.seq (au7 σ sz) (au6 σ sz)
def au5(σ:Srt)(sz:Nat):ah:=.region [⟨D 85,.mov (R 0),none⟩,⟨D 86,.mov (R 11),none⟩,⟨D 87,.mov (R 0),none⟩,⟨D 88,.mov (R 11),none⟩,⟨D 89,.bin .sub (R 88) (.k (.c (.f (.int .i64 1)))),none⟩,⟨D 90,.mov (R 0),none⟩,⟨D 91,.mov (R 11),none⟩,⟨D 92,.bin .sub (R 91) (.k (.c (.f (.int .i64 1)))),none⟩,⟨D 93,.aC sz none (R 90) (R 92),none⟩,⟨D 94,.load (some sz) (R 93),none⟩,⟨D 95,.mov (R 0),none⟩,⟨D 96,.mov (R 11),none⟩,⟨D 97,.aC sz none (R 95) (R 96),none⟩,⟨D 98,.load (some sz) (R 97),none⟩,⟨D 99,.aC sz none (R 85) (R 86),none⟩,⟨none,.store sz (R 99) (R 94),none⟩,⟨D 100,.aC sz none (R 87) (R 89),none⟩,⟨none,.store sz (R 100) (R 98),none⟩] []
def au9(σ:Srt)(sz:Nat):ah:=.seq (au8 σ sz) (au5 σ sz)
def ava(σ:Srt)(sz:Nat):ah:=.block 5 (au9 σ sz)
def au4(σ:Srt)(sz:Nat):ah:=.region [⟨D 70,.mov (R 11),none⟩,⟨D 71,.bin .sub (R 70) (.k (.c (.f (.int .i64 1)))),none⟩,⟨D 11,.mov (R 71),none⟩] []
def avb(σ:Srt)(sz:Nat):ah:=.seq (ava σ sz) (au4 σ sz)
def avf(σ:Srt)(sz:Nat):ah:=.seq (ave σ sz) (avb σ sz)
def avg(σ:Srt)(sz:Nat):ah:=.loop (avf σ sz)
def PU(σ:Srt)(sz:Nat):ah:=.block 4 (avg σ sz)
def avi(σ:Srt)(sz:Nat):ah:=.seq (avh σ sz) (PU σ sz)
def avj(σ:Srt)(sz:Nat):ah:=.cond (R 65) (avi σ sz) .skip
def avl(σ:Srt)(sz:Nat):ah:=.seq (avk σ sz) (avj σ sz)
def au3(σ:Srt)(sz:Nat):ah:=.region [⟨D 101,.mov (R 2),none⟩,⟨D 102,.mov (R 9),none⟩,⟨D 103,.bin .sub (R 101) (R 102),none⟩,⟨D 104,.bin .geq (R 103) (.k (.c (.f (.int .i64 2)))),none⟩] []
def au0(σ:Srt)(sz:Nat):ah:=.region [⟨D 105,.mov (R 9),none⟩,⟨D 106,.bin .add (R 105) (.k (.c (.f (.int .i64 1)))),none⟩,⟨D 12,.mov (R 106),none⟩] []
def auW(σ:Srt)(sz:Nat):ah:=.region [⟨D 107,.mov (R 12),none⟩,⟨D 108,.mov (R 2),none⟩,⟨D 109,.bin .lss (R 107) (R 108),none⟩] []
def auV(σ:Srt)(sz:Nat):ah:=.cond (R 109) .skip (.exit 6)
def auX(σ:Srt)(sz:Nat):ah:=.seq (auW σ sz) (auV σ sz)
def auQ(σ:Srt)(sz:Nat):ah:=.region [⟨D 112,.mov (R 3),none⟩,⟨D 113,.mov (R 0),none⟩,⟨D 114,.mov (R 12),none⟩,⟨D 115,.aC sz none (R 113) (R 114),none⟩,⟨D 116,.load (some sz) (R 115),none⟩,⟨D 117,.mov (R 0),none⟩,⟨D 118,.mov (R 12),none⟩,⟨D 119,.bin .sub (R 118) (.k (.c (.f (.int .i64 1)))),none⟩,⟨D 120,.aC sz none (R 117) (R 119),none⟩,⟨D 121,.load (some sz) (R 120),none⟩,⟨D 122,.bH (R 112) [(R 116),(R 121)] true,none⟩,⟨D 123,.bin .lss (R 122) (.k (.c (.f (.int .i64 0)))),none⟩,⟨D 124,.un .not (R 123),none⟩] []
def auP(σ:Srt)(sz:Nat):ah:=.cond (R 124) (.exit 6) .skip
def auR(σ:Srt)(sz:Nat):ah:=.seq (auQ σ sz) (auP σ sz)
def auO(σ:Srt)(sz:Nat):ah:=.region [⟨D 125,.mov (R 0),none⟩,⟨D 126,.mov (R 12),none⟩,⟨D 127,.mov (R 0),none⟩,⟨D 128,.mov (R 12),none⟩,⟨D 129,.bin .sub (R 128) (.k (.c (.f (.int .i64 1)))),none⟩,⟨D 130,.mov (R 0),none⟩,⟨D 131,.mov (R 12),none⟩,⟨D 132,.bin .sub (R 131) (.k (.c (.f (.int .i64 1)))),none⟩,⟨D 133,.aC sz none (R 130) (R 132),none⟩,⟨D 134,.load (some sz) (R 133),none⟩,⟨D 135,.mov (R 0),none⟩,⟨D 136,.mov (R 12),none⟩,⟨D 137,.aC sz none (R 135) (R 136),none⟩,⟨D 138,.load (some sz) (R 137),none⟩,⟨D 139,.aC sz none (R 125) (R 126),none⟩,⟨none,.store sz (R 139) (R 134),none⟩,⟨D 140,.aC sz none (R 127) (R 129),none⟩,⟨none,.store sz (R 140) (R 138),none⟩] []
def auS(σ:Srt)(sz:Nat):ah:=.seq (auR σ sz) (auO σ sz)
def auT(σ:Srt)(sz:Nat):ah:=.block 7 (auS σ sz)
def auN(σ:Srt)(sz:Nat):ah:=.region [⟨D 110,.mov (R 12),none⟩,⟨D 111,.bin .add (R 110) (.k (.c (.f (.int .i64 1)))),none⟩,⟨D 12,.mov (R 111),none⟩] []
def auU(σ:Srt)(sz:Nat):ah:=.seq (auT σ sz) (auN σ sz)
def auY(σ:Srt)(sz:Nat):ah:=.seq (auX σ sz) (auU σ sz)
def auZ(σ:Srt)(sz:Nat):ah:=.loop (auY σ sz)
def PO(σ:Srt)(sz:Nat):ah:=.block 6 (auZ σ sz)
def au1(σ:Srt)(sz:Nat):ah:=.seq (au0 σ sz) (PO σ sz)
def au2(σ:Srt)(sz:Nat):ah:=.cond (R 104) (au1 σ sz) .skip
def PS(σ:Srt)(sz:Nat):ah:=.seq (au3 σ sz) (au2 σ sz)
def avm(σ:Srt)(sz:Nat):ah:=.seq (avl σ sz) (PS σ sz)
def avo(σ:Srt)(sz:Nat):ah:=.seq (avn σ sz) (avm σ sz)
def avu(σ:Srt)(sz:Nat):ah:=.seq (avt σ sz) (avo σ sz)
def avA(σ:Srt)(sz:Nat):ah:=.seq (avz σ sz) (avu σ sz)
def avJ(σ:Srt)(sz:Nat):ah:=.seq (PV σ sz) (avA σ sz)
def avK(σ:Srt)(sz:Nat):ah:=.block 1 (avJ σ sz)
def Fz(σ:Srt)(sz:Nat):ah:=.region [⟨D 17,.mov (R 10),none⟩,⟨D 18,.bin .add (R 17) (.k (.c (.f (.int .i64 1)))),none⟩,⟨D 10,.mov (R 18),none⟩] []
def avL(σ:Srt)(sz:Nat):ah:=.seq (avK σ sz) (Fz σ sz)
def KZ(σ:Srt)(sz:Nat):ah:=.seq (avO σ sz) (avL σ sz)
def aDv(σ:Srt)(sz:Nat):ah:=.loop (KZ σ sz)
def aDw(σ:Srt)(sz:Nat):ah:=.block 0 (aDv σ sz)
def aDy(σ:Srt)(sz:Nat):ah:=.seq (aDx σ sz) (aDw σ sz)
def auM(σ:Srt)(sz:Nat):ah:=.region [⟨D 8,.mov (.k (.c (.f (.bool false)))),none⟩] []
def zq(σ:Srt)(sz:Nat):ah:=.seq (auM σ sz) .ret
def aDz(σ:Srt)(sz:Nat):ah:=.seq (aDy σ sz) (zq σ sz)
def aDB(σ:Srt)(sz:Nat):ah:=.seq (aDA σ sz) (aDz σ sz)
def aDD(σ:Srt)(sz:Nat):ah:=.seq (aDC σ sz) (aDB σ sz)
def KY(σ:Srt)(sz:Nat):AFunc:=⟨[P.nat 0,P.nat 1,P.nat 2,P.nat 3],[.tmp (P.nat 8)],(aDD σ sz)⟩
def aFL(σ:Srt)(sz:Nat):ah:=.region [⟨D 8,.mov (.k (.c (.f (.int .i64 0)))),none⟩] []
def aFJ(σ:Srt)(sz:Nat):ah:=.region [⟨D 9,.mov (R 0),none⟩,⟨D 10,.mov (R 1),none⟩,⟨D 11,.bin .sub (R 10) (.k (.c (.f (.int .i64 1)))),none⟩,⟨D 12,.mov (R 1),none⟩,⟨D 13,.mov (R 1),none⟩,⟨D 14,.bin .add (R 13) (.k (.c (.f (.int .i64 1)))),none⟩,⟨D 15,.mov (R 2),none⟩,⟨D 16,.mov (R 3),none⟩,⟨D 17,.call σ.med [(R 9),(R 11),(R 12),(R 14),(R 15),(R 16)] true,none⟩,⟨D 8,.mov (R 17),none⟩] []
def aFK(σ:Srt)(sz:Nat):ah:=.seq (aFJ σ sz) .ret
def aFM(σ:Srt)(sz:Nat):ah:=.seq (aFL σ sz) (aFK σ sz)
def FY(σ:Srt)(sz:Nat):AFunc:=⟨[P.nat 0,P.nat 1,P.nat 2,P.nat 3],[.tmp (P.nat 8)],(aFM σ sz)⟩
def aKI(σ:Srt)(sz:Nat):ah:=.region [⟨D 12,.mov (.k (.c (.f (.int .i64 0)))),none⟩] []
def aKG(σ:Srt)(sz:Nat):ah:=.region [⟨D 14,.mov (R 0),none⟩,⟨D 15,.mov (R 1),none⟩,⟨D 16,.mov (R 2),none⟩,⟨D 17,.mov (R 4),none⟩,⟨D 18,.mov (R 5),none⟩,⟨D 19,.call σ.ord [(R 14),(R 15),(R 16),(R 17),(R 18)] true,none⟩,⟨D 13,.mov (R 19),none⟩,⟨D 20,.extract (R 13) 0,none⟩,⟨D 21,.extract (R 13) 1,none⟩,⟨D 1,.mov (R 20),none⟩,⟨D 2,.mov (R 21),none⟩] []
def aKE(σ:Srt)(sz:Nat):ah:=.region [⟨D 23,.mov (R 0),none⟩,⟨D 24,.mov (R 2),none⟩,⟨D 25,.mov (R 3),none⟩,⟨D 26,.mov (R 4),none⟩,⟨D 27,.mov (R 5),none⟩,⟨D 28,.call σ.ord [(R 23),(R 24),(R 25),(R 26),(R 27)] true,none⟩,⟨D 22,.mov (R 28),none⟩,⟨D 29,.extract (R 22) 0,none⟩,⟨D 30,.extract (R 22) 1,none⟩,⟨D 2,.mov (R 29),none⟩,⟨D 3,.mov (R 30),none⟩] []
def aKC(σ:Srt)(sz:Nat):ah:=.region [⟨D 32,.mov (R 0),none⟩,⟨D 33,.mov (R 1),none⟩,⟨D 34,.mov (R 2),none⟩,⟨D 35,.mov (R 4),none⟩,⟨D 36,.mov (R 5),none⟩,⟨D 37,.call σ.ord [(R 32),(R 33),(R 34),(R 35),(R 36)] true,none⟩,⟨D 31,.mov (R 37),none⟩,⟨D 38,.extract (R 31) 0,none⟩,⟨D 39,.extract (R 31) 1,none⟩,⟨D 1,.mov (R 38),none⟩,⟨D 2,.mov (R 39),none⟩] []
def aKA(σ:Srt)(sz:Nat):ah:=.region [⟨D 40,.mov (R 2),none⟩,⟨D 12,.mov (R 40),none⟩] []
def aKB(σ:Srt)(sz:Nat):ah:=.seq (aKA σ sz) .ret
def aKD(σ:Srt)(sz:Nat):ah:=.seq (aKC σ sz) (aKB σ sz)
def aKF(σ:Srt)(sz:Nat):ah:=.seq (aKE σ sz) (aKD σ sz)
def aKH(σ:Srt)(sz:Nat):ah:=.seq (aKG σ sz) (aKF σ sz)
def aKJ(σ:Srt)(sz:Nat):ah:=.seq (aKI σ sz) (aKH σ sz)
def Jd(σ:Srt)(sz:Nat):AFunc:=⟨[P.nat 0,P.nat 1,P.nat 2,P.nat 3,P.nat 4,P.nat 5],[.tmp (P.nat 12)],(aKJ σ sz)⟩
def aJ8(σ:Srt)(sz:Nat):ah:=.region [⟨D 10,.mov (.k (.c (.f (.int .i64 0)))),none⟩,⟨D 11,.mov (.k (.c (.f (.int .i64 0)))),none⟩] []
def aJ5(σ:Srt)(sz:Nat):ah:=.region [⟨D 12,.mov (R 4),none⟩,⟨D 13,.mov (R 0),none⟩,⟨D 14,.mov (R 2),none⟩,⟨D 15,.aC sz none (R 13) (R 14),none⟩,⟨D 16,.load (some sz) (R 15),none⟩,⟨D 17,.mov (R 0),none⟩,⟨D 18,.mov (R 1),none⟩,⟨D 19,.aC sz none (R 17) (R 18),none⟩,⟨D 20,.load (some sz) (R 19),none⟩,⟨D 21,.bH (R 12) [(R 16),(R 20)] true,none⟩,⟨D 22,.bin .lss (R 21) (.k (.c (.f (.int .i64 0)))),none⟩] []
def aJ2(σ:Srt)(sz:Nat):ah:=.region [⟨D 23,.mov (R 3),none⟩,⟨D 24,.bD (R 23),none⟩,⟨D 25,.load none (R 24),none⟩,⟨D 26,.bin .add (R 25) (.k (.c (.f (.int .i64 1)))),none⟩,⟨D 27,.bD (R 23),none⟩,⟨none,.store 1 (R 27) (R 26),none⟩] []
def aJ0(σ:Srt)(sz:Nat):ah:=.region [⟨D 28,.mov (R 2),none⟩,⟨D 29,.mov (R 1),none⟩,⟨D 10,.mov (R 28),none⟩,⟨D 11,.mov (R 29),none⟩] []
def aJ1(σ:Srt)(sz:Nat):ah:=.seq (aJ0 σ sz) .ret
def aJ3(σ:Srt)(sz:Nat):ah:=.seq (aJ2 σ sz) (aJ1 σ sz)
def aJ4(σ:Srt)(sz:Nat):ah:=.cond (R 22) (aJ3 σ sz) .skip
def aJ6(σ:Srt)(sz:Nat):ah:=.seq (aJ5 σ sz) (aJ4 σ sz)
def aFs(σ:Srt)(sz:Nat):ah:=.region [⟨D 30,.mov (R 1),none⟩,⟨D 31,.mov (R 2),none⟩,⟨D 10,.mov (R 30),none⟩,⟨D 11,.mov (R 31),none⟩] []
def aFt(σ:Srt)(sz:Nat):ah:=.seq (aFs σ sz) .ret
def aJ7(σ:Srt)(sz:Nat):ah:=.seq (aJ6 σ sz) (aFt σ sz)
def aJ9(σ:Srt)(sz:Nat):ah:=.seq (aJ8 σ sz) (aJ7 σ sz)
def Dq(σ:Srt)(sz:Nat):AFunc:=⟨[P.nat 0,P.nat 1,P.nat 2,P.nat 3,P.nat 4],[.tmp (P.nat 10),.tmp (P.nat 11)],(aJ9 σ sz)⟩
def aKx(σ:Srt)(sz:Nat):ah:=.region [⟨D 2,.mov (.k (.c (.f (.int .u64 0)))),none⟩] []
def aKv(σ:Srt)(sz:Nat):ah:=.region [⟨D 3,.mov (R 0),none⟩,⟨D 4,.cvi .u64 (R 3),none⟩,⟨D 5,.call σ.len [(R 4)] false,none⟩,⟨D 6,.bin .shl (.k (.c (.f (.int .u64 1)))) (R 5),none⟩,⟨D 2,.mov (R 6),none⟩] []
def aKw(σ:Srt)(sz:Nat):ah:=.seq (aKv σ sz) .ret
def aKy(σ:Srt)(sz:Nat):ah:=.seq (aKx σ sz) (aKw σ sz)
def P8(σ:Srt)(sz:Nat):AFunc:=⟨[P.nat 0],[.tmp (P.nat 2)],(aKy σ sz)⟩
def aKt(σ:Srt)(sz:Nat):ah:=.region [⟨D 2,.mov (.k (.c (.f (.int .u64 0)))),none⟩] []
def aKr(σ:Srt)(sz:Nat):ah:=.region [⟨D 3,.mov (R 0),none⟩,⟨D 4,.bD (R 3),none⟩,⟨D 5,.load none (R 4),none⟩,⟨D 6,.mov (R 0),none⟩,⟨D 7,.bD (R 6),none⟩,⟨D 8,.load none (R 7),none⟩,⟨D 9,.bin .shl (R 8) (.k (.c (.f (.int .u64 13)))),none⟩,⟨D 10,.bin .xor (R 5) (R 9),none⟩,⟨D 11,.bD (R 3),none⟩,⟨none,.store 1 (R 11) (R 10),none⟩] []
def aKp(σ:Srt)(sz:Nat):ah:=.region [⟨D 12,.mov (R 0),none⟩,⟨D 13,.bD (R 12),none⟩,⟨D 14,.load none (R 13),none⟩,⟨D 15,.mov (R 0),none⟩,⟨D 16,.bD (R 15),none⟩,⟨D 17,.load none (R 16),none⟩,⟨D 18,.bin .shr (R 17) (.k (.c (.f (.int .u64 7)))),none⟩,⟨D 19,.bin .xor (R 14) (R 18),none⟩,⟨D 20,.bD (R 12),none⟩,⟨none,.store 1 (R 20) (R 19),none⟩] []
def aKn(σ:Srt)(sz:Nat):ah:=.region [⟨D 21,.mov (R 0),none⟩,⟨D 22,.bD (R 21),none⟩,⟨D 23,.load none (R 22),none⟩,⟨D 24,.mov (R 0),none⟩,⟨D 25,.bD (R 24),none⟩,⟨D 26,.load none (R 25),none⟩,⟨D 27,.bin .shl (R 26) (.k (.c (.f (.int .u64 17)))),none⟩,⟨D 28,.bin .xor (R 23) (R 27),none⟩,⟨D 29,.bD (R 21),none⟩,⟨none,.store 1 (R 29) (R 28),none⟩] []
def aKl(σ:Srt)(sz:Nat):ah:=.region [⟨D 30,.mov (R 0),none⟩,⟨D 31,.bD (R 30),none⟩,⟨D 32,.load none (R 31),none⟩,⟨D 2,.mov (R 32),none⟩] []
def aKm(σ:Srt)(sz:Nat):ah:=.seq (aKl σ sz) .ret
def aKo(σ:Srt)(sz:Nat):ah:=.seq (aKn σ sz) (aKm σ sz)
def aKq(σ:Srt)(sz:Nat):ah:=.seq (aKp σ sz) (aKo σ sz)
def aKs(σ:Srt)(sz:Nat):ah:=.seq (aKr σ sz) (aKq σ sz)
def aKu(σ:Srt)(sz:Nat):ah:=.seq (aKt σ sz) (aKs σ sz)
def P7(σ:Srt)(sz:Nat):AFunc:=⟨[P.nat 0],[.tmp (P.nat 2)],(aKu σ sz)⟩
end Km
end
section
namespace Km
open Go
def Cv(tab:Nat→Option AFunc)(cv:V)(W:List FC→Prop)(c:List FC→List FC→Int):Prop:=
 ∀ x y,W x→W y→∀ H,∃ F ar J,bV cv [.a (x.map .f),.a (y.map .f)]=some (.fn F,ar)∧Ev tab (.fn F) ar H (vi (c x y)) (H++J)
section
variable{W:List FC→Prop}{c:List FC→List FC→Int}{l:List (List FC)}
theorem LeI.of_lt{i j:Nat}(hc:Cmp W c)(hW:∀ r ∈ l,W r){x y:List FC}(hx:l[i]?=some x)(hy:l[j]?=some y)(h:c x y<0):LeI c l i j:=fun x' y' h1 h2=>by
 rw [hx]at h1;rw [hy]at h2;cases h1;cases h2
 exact hc.asym (hW _ (aD hx)) (hW _ (aD hy)) h
theorem LeI.of_le{i j:Nat}{x y:List FC}(hx:l[i]?=some x)(hy:l[j]?=some y)(h:¬ c y x<0):LeI c l i j:=fun x' y' h1 h2=>by
 rw [hx]at h1;rw [hy]at h2;cases h1;cases h2;exact h
theorem LeI.get{l':List (List FC)}{i j i' j':Nat}(h:LeI c l i j)(h1:l'[i']?=l[i]?)(h2:l'[j']?=l[j]?):LeI c l' i' j':=fun x y hx hy=>h x y (by rw [←h1];exact hx) (by rw [←h2];exact hy)
def Ins(c:List FC→List FC→Int)(a i j:Nat)(l:List (List FC)):Prop:=∀ p q,a≤p→p<q→q≤i→q≠j→LeI c l p q
theorem Ins.start{a i:Nat}(h:Up c a i l):Ins c a i i l:=fun p q h1 h2 h3 h4=>fun x y=>h p q x y h1 h2 (by omega)
theorem Ins.step{a i j:Nat}(hc:Cmp W c)(hW:∀ r ∈ l,W r)(h:Ins c a i (j+1) l)(ha:a≤j)(hj:j+1≤i)(hi:i<l.length){x y:List FC}(hx:l[j+1]?=some x)(hy:l[j]?=some y)(hlt:c x y<0):Ins c a i j (swp l (j+1) j):=by
 intro p q h1 h2 h3 h4
 have g:∀ k,(swp l (j+1) j)[k]?=if k=j then l[j+1]? else if k=j+1 then l[j]? else l[k]?:=fun k=>swp_get (by omega) (by omega) k
 by_cases q1:q=j+1
 ·subst q1
  by_cases p1:p=j
  ·subst p1
   exact(LeI.of_lt hc hW hx hy hlt).get (by rw [g,if_pos rfl]) (by rw [g,if_neg (by omega),if_pos rfl])
  ·exact(h p j h1 (by omega) (by omega) (by omega)).get (by rw [g,if_neg (by omega),if_neg (by omega)]) (by rw [g,if_neg (by omega),if_pos rfl])
 ·have gq:(swp l (j+1) j)[q]?=l[q]?:=by rw [g,if_neg h4,if_neg q1]
  by_cases p1:p=j
  ·subst p1
   exact(h (p+1) q (by omega) (by omega) h3 q1).get (by rw [g,if_pos rfl]) gq
  by_cases p2:p=j+1
  ·subst p2
   exact(h j q ha (by omega) h3 q1).get (by rw [g,if_neg (by omega),if_pos rfl]) gq
  ·exact(h p q h1 h2 h3 q1).get (by rw [g,if_neg p1,if_neg p2]) gq
theorem Ins.front{a i:Nat}(h:Ins c a i a l):Up c a (i+1) l:=fun p q x y h1 h2 h3=>h p q h1 h2 (by omega) (by omega) x y
theorem Ins.stop{a i j:Nat}(hc:Cmp W c)(hW:∀ r ∈ l,W r)(h:Ins c a i (j+1) l)(ha:a≤j)(hj:j+1≤i)(hi:i<l.length)(hle:LeI c l j (j+1)):Up c a (i+1) l:=by
 intro p q x y h1 h2 h3
 by_cases q1:q=j+1
 ·subst q1
  by_cases p1:p=j
  ·subst p1;exact hle x y
  ·exact((h p j h1 (by omega) (by omega) (by omega)).trans hc hW hle (by omega)) x y
 ·exact h p q h1 h2 (by omega) q1 x y
end
section
variable{tab:Nat→Option AFunc}{σ:Srt}{sz:Nat}{H:Heap}{b ep:Nat}{rows:List (List FC)}{cv:V}{W:List FC→Prop}{c:List FC→List FC→Int}
theorem RB.at(h:RB H b sz ep rows){i:Nat}(hi:i<rows.length):aV H sz none (.c (.sl b 0 rows.length 0 ep sz)) (vi i)=some (.c (.ptr b (i*sz) ep)):=by
 have:=h.idx (n:=rows.length) (c:=0) (k:=.i64) (o:=0) (i:=(i:Int)) (by omega) (by omega)
 rwa [Int.toNat_natCast,cI]at this
theorem RB.ldi(h:RB H b sz ep rows)(hg:Grid sz rows){i:Nat}(hi:i<rows.length):ldV H (some sz) (.c (.ptr b (i*sz) ep))=some (.a (rows[i].map .f)):=h.ldr hg (ae hi)
theorem aFU(hT:tab σ.ins=some (Jm σ sz))(hcv:Cv tab cv W c)(hc:Cmp W c){n a e:Nat}(hn:rows.length=n)(hl:n≤1000000000)(hrb:RB H b sz ep rows)(hg:Grid sz rows)(hW:∀ r ∈ rows,W r)(hae:a≤e)(hen:e≤n) :
  ∃ r H',Ev tab (.fn σ.ins) [.c (.sl b 0 n 0 ep sz),vi a,vi e,cv] H r H'∧(r=.t []∧Fm b H H'∧∃ l',RB H' b sz ep l'∧Seg a e rows l'∧Up c a e l'):=by
 refine gu hT rfl fun Q hQ=>?_
 refine ak (aj (.inl rfl) ?_)
 simp [wrap64 (n:=(a:Int)+1) (by omega) (by omega)]
 refine aH ?_
 refine bF (fun m s=>∃(i:Nat) (t:T) (H1:Heap) (l:List (List FC)),s=⟨t,[],H1⟩∧m=n+1-i∧a+1≤i∧(i≤e∨i=a+1)∧t.g 0=.c (.sl b 0 n 0 ep sz)∧t.g 1=vi a∧t.g 2=vi e∧t.g 3=cv∧t.g 8=vi i ∧
  Fm b H H1∧RB H1 b sz ep l∧Seg a e rows l∧Up c a i l) _
  ⟨a+1,_,H,rows,rfl,rfl,by omega,.inr rfl,by simp,by simp,by simp,by simp,by simp,Fm.refl H,hrb,Seg.refl _ _ _,Up.one (by omega)⟩ ?_
 rintro m s ⟨i,t,H1,l,rfl,rfl,hi1,hi,g0,g1,g2,g3,g8,hfr,hrb,hseg,hup⟩ ih
 have hlen:=hseg.len
 refine ak ?_
 refine ak (aj (.inl rfl) ?_)
 simp [g8,g2]
 by_cases hlt:i<e
 case neg=>
  refine ay (by simp [hlt]) ?_
  refine aZ (k':=[]) rfl ?_
  exact kR (hQ _ _ _ rfl rfl ⟨rfl,hfr,l,hrb,hseg,hup.mono (aw _) (by omega)⟩)
 refine aA (by simp [hlt]) (aF ?_)
 refine ak ?_
 refine aH ?_
 refine ak (aj (.inl rfl) ?_)
 simp [g8]
 refine aH ?_
 refine bF (fun m s=>∃(j:Nat) (t:T) (H2:Heap) (l2:List (List FC)),s=⟨t,[],H2⟩∧j=m∧a≤j∧j≤i∧t.g 0=.c (.sl b 0 n 0 ep sz)∧t.g 1=vi a∧t.g 2=vi e∧t.g 3=cv∧t.g 8=vi i∧t.g 9=vi j ∧
  Fm b H H2∧RB H2 b sz ep l2∧Seg a e rows l2∧Ins c a i j l2) i
  ⟨i,_,H1,l,rfl,rfl,by omega,by omega,by simp [g0],by simp [g1],by simp [g2],by simp [g3],by simp [g8],by simp,hfr,hrb,hseg,Ins.start hup⟩ ?_
 rintro m s ⟨j,t,H2,l2,rfl,rfl,hja,hji,g0,g1,g2,g3,g8,g9,hfr,hrb,hseg,hins⟩ ih2
 have hlen:=hseg.len
 have hg2:=hseg.grid hg
 have hW2:∀ r ∈ l2,W r:=fun r hr=>hW r (hseg.1.mem_iff.1 hr)
 have stop:Up c a (i+1) l2→∀ t:T,t.g 0=.c (.sl b 0 n 0 ep sz)→t.g 1=vi a→t.g 2=vi e→t.g 3=cv→t.g 8=vi i→∀ H3,Fm b H H3→RB H3 b sz ep l2 →
   WP tab σ.ins none [.inBlock 1,.code (Gl σ sz),.inLoop (Qj σ sz),.inBlock 0] ⟨t,[],H3⟩ Q:=by
  intro hp t g0 g1 g2 g3 g8 H3 hfr hrb
  refine aI (aj (.inl rfl) ?_)
  simp [g8,wrap64 (n:=(i:Int)+1) (by omega) (by omega)]
  exact ih (n+1-(i+1)) _ (by omega) ⟨i+1,_,H3,l2,rfl,rfl,by omega,.inl (by omega),by simp [g0],by simp [g1],by simp [g2],by simp [g3],by simp,hfr,hrb,hseg,hp⟩
 refine ak ?_
 refine ak (aj (.inl rfl) ?_)
 by_cases hj:j=a
 ·subst hj
  simp [g9,g1]
  refine ay (by simp) ?_
  refine aZ (k':=[.inBlock 1,.code (Gl σ sz),.inLoop (Qj σ sz),.inBlock 0]) rfl ?_
  exact stop hins.front _ (by simp [g0]) (by simp [g1]) (by simp [g2]) (by simp [g3]) (by simp [g8]) _ hfr hrb
 obtain⟨k,rfl⟩:∃ k,j=k+1:=⟨j-1,by omega⟩
 have k1:k+1<l2.length:=by omega
 have c1:((k+1:Nat):Int)=(k:Int)+1:=by omega
 have i1:=hrb.at k1
 have i0:=hrb.at (show k<l2.length by omega)
 have l1:=hrb.ldi hg2 k1
 have l0:=hrb.ldi hg2 (show k<l2.length by omega)
 rw [hlen,hn]at i1 i0
 rw [c1]at i1 g9
 obtain⟨F,ar,J,fD,hev⟩:=hcv l2[k+1] l2[k] (hW2 _ (av _)) (hW2 _ (av _)) H2
 have he:=hev.eq
 have gt:(a:Int)<(k:Int)+1:=by omega
 simp [g9,g0,g1,g3,gt,i1,i0,l1,l0,fD,he,-aG,wrap64 (n:=(k:Int)) (by omega) (by omega)]
 by_cases hlt2:c l2[k+1] l2[k]<0
 case neg=>
  refine ay (by simp [hlt2]) ?_
  refine aZ (k':=[.inBlock 1,.code (Gl σ sz),.inLoop (Qj σ sz),.inBlock 0]) rfl ?_
  exact stop (hins.stop hc hW2 (by omega) hji (by omega) (LeI.of_le (ae (by omega)) (ae k1) hlt2)) _ (by simp [g0]) (by simp [g1]) (by simp [g2]) (by simp [g3]) (by simp [g8]) _ (hfr.trans (Fm.push _ _)) (hrb.push _)
 refine aA (by simp [hlt2]) (aF ?_)
 have w1:l2[k+1].length=sz:=hg2 _ (av _)
 have w0:l2[k].length=sz:=hg2 _ (av _)
 have SH:=hrb.push J
 obtain⟨HJ,hHJ⟩:∃ HJ,HJ=H2++J:=⟨_,rfl⟩
 rw [←hHJ]at SH ⊢
 have aPY:Fm b H HJ:=by rw [hHJ];exact hfr.trans (Fm.push _ _)
 have i1:=SH.at k1
 have i0:=SH.at (show k<l2.length by omega)
 have l1:=SH.ldi hg2 k1
 have l0:=SH.ldi hg2 (show k<l2.length by omega)
 obtain⟨H3,H4,s1,r1,s2,r2,f2⟩:=SH.swap hg2 k1 (show k<l2.length by omega)
 have i2:=r1.at (show k<(l2.set (k+1) l2[k]).length by simp;omega)
 rw [List.length_set]at i2
 rw [hlen,hn]at i1 i0 i2
 rw [c1]at i1
 refine ak ?_
 refine aH ?_
 refine aj (.inl rfl) ?_
 simp [g9,g0,i1,i0,i2,l1,l0,s1,s2,w1,w0,-aG,-bI,wrap64 (n:=(k:Int)) (by omega) (by omega)]
 refine aI ?_
 refine aj (.inl rfl) ?_
 simp [g9,wrap64 (n:=(k:Int)) (by omega) (by omega)]
 exact ih2 k _ (by omega) ⟨k,_,H4,swp l2 (k+1) k,rfl,rfl,by omega,by omega,by simp [g0],by simp [g1],by simp [g2],by simp [g3],by simp [g8],by simp,aPY.trans f2,r2,
  hseg.trans (gZ (by omega) (by omega) (by omega) (by omega) (by omega)),hins.step hc hW2 (by omega) hji (by omega) (ae k1) (ae (by omega)) hlt2⟩
end
end Km
end
section
namespace Km
open Go
section
variable{tab:Nat→Option AFunc}{σ:Srt}{sz:Nat}{H:Heap}{b ep:Nat}{rows:List (List FC)}{cv:V}{W:List FC→Prop}{c:List FC→List FC→Int}
theorem RB.swp(h:RB H b sz ep rows)(hg:Grid sz rows){n i j:Nat}(hn:rows.length=n)(hi:i<n)(hj:j<n):∃(x y:List FC) (H1 H2:Heap),rows[i]?=some x∧rows[j]?=some y ∧
  aV H sz none (.c (.sl b 0 n 0 ep sz)) (vi i)=some (.c (.ptr b (i*sz) ep))∧aV H sz none (.c (.sl b 0 n 0 ep sz)) (vi j)=some (.c (.ptr b (j*sz) ep)) ∧
  ldV H (some sz) (.c (.ptr b (i*sz) ep))=some (.a (x.map .f))∧ldV H (some sz) (.c (.ptr b (j*sz) ep))=some (.a (y.map .f))∧x.length=sz∧y.length=sz ∧
  stC H (.ptr b (i*sz) ep) (y.map .f)=some H1∧aV H1 sz none (.c (.sl b 0 n 0 ep sz)) (vi j)=some (.c (.ptr b (j*sz) ep))∧stC H1 (.ptr b (j*sz) ep) (x.map .f)=some H2∧RB H2 b sz ep (swp rows i j)∧Fm b H H2:=by
 subst hn
 obtain⟨H1,H2,s1,r1,s2,r2,f2⟩:=h.swap hg hi hj
 have i2:=r1.at (show j<(rows.set i rows[j]).length by simpa using hj)
 rw [List.length_set]at i2
 exact⟨rows[i],rows[j],H1,H2,ae hi,ae hj,h.at hi,h.at hj,h.ldi hg hi,h.ldi hg hj,hg _ (av _),hg _ (av _),s1,i2,s2,r2,f2⟩
theorem RB.ask(h:RB H b sz ep rows)(hg:Grid sz rows)(hcv:Cv tab cv W c)(hW:∀ r ∈ rows,W r){n i j:Nat}(hn:rows.length=n)(hi:i<n)(hj:j<n):∃(x y:List FC) (F:Nat) (ar:List V) (J:Heap),rows[i]?=some x∧rows[j]?=some y ∧
  aV H sz none (.c (.sl b 0 n 0 ep sz)) (vi i)=some (.c (.ptr b (i*sz) ep))∧aV H sz none (.c (.sl b 0 n 0 ep sz)) (vi j)=some (.c (.ptr b (j*sz) ep)) ∧
  ldV H (some sz) (.c (.ptr b (i*sz) ep))=some (.a (x.map .f))∧ldV H (some sz) (.c (.ptr b (j*sz) ep))=some (.a (y.map .f)) ∧
  bV cv [.a (x.map .f),.a (y.map .f)]=some (.fn F,ar)∧Ev tab (.fn F) ar H=E2 (vi (c x y)) (H++J)∧W x∧W y:=by
 subst hn
 obtain⟨F,ar,J,h1,h2⟩:=hcv rows[i] rows[j] (hW _ (av _)) (hW _ (av _)) H
 exact⟨rows[i],rows[j],F,ar,J,ae hi,ae hj,h.at hi,h.at hj,h.ldi hg hi,h.ldi hg hj,h1,h2.eq,hW _ (av _),hW _ (av _)⟩
theorem aCh(hT:tab σ.rev=some (ahW σ sz)){n a e:Nat}(hn:rows.length=n)(hl:n≤1000000000)(hrb:RB H b sz ep rows)(hg:Grid sz rows)(hae:a<e)(hen:e≤n) :
  ∃ r H',Ev tab (.fn σ.rev) [.c (.sl b 0 n 0 ep sz),vi a,vi e,cv] H r H'∧(r=.t []∧Fm b H H'∧∃ l',RB H' b sz ep l'∧Seg a e rows l'):=by
 refine gu hT rfl fun Q hQ=>?_
 obtain⟨d,rfl⟩:∃ d,e=d+1:=⟨e-1,by omega⟩
 refine ak (aj (.inl rfl) ?_)
 simp
 refine ak (aj (.inl rfl) ?_)
 simp [wrap64 (n:=(d:Int)) (by omega) (by omega)]
 refine aH ?_
 refine bF (fun m s=>∃(i j:Nat) (t:T) (H1:Heap) (l:List (List FC)),s=⟨t,[],H1⟩∧m=n+1-i∧a≤i∧j≤d∧i≤j+1∧t.g 0=.c (.sl b 0 n 0 ep sz)∧t.g 8=vi i∧t.g 9=vi j ∧
  Fm b H H1∧RB H1 b sz ep l∧Seg a (d+1) rows l) _
  ⟨a,d,_,H,rows,rfl,rfl,by omega,by omega,by omega,by simp,by simp,by simp,Fm.refl H,hrb,Seg.refl _ _ _⟩ ?_
 rintro m s ⟨i,j,t,H1,l,rfl,rfl,hi1,hj1,hij,g0,g8,g9,hfr,hrb,hseg⟩ ih
 have hlen:=hseg.len
 refine ak ?_
 refine ak (aj (.inl rfl) ?_)
 simp [g8,g9]
 by_cases hlt:i<j
 case neg=>
  refine ay (by simp [hlt]) ?_
  refine aZ (k':=[]) rfl ?_
  exact kR (hQ _ _ _ rfl rfl ⟨rfl,hfr,l,hrb,hseg⟩)
 refine aA (by simp [hlt]) (aF ?_)
 obtain⟨x,y,H2,H3,-,-,i1,j1,l1,l2,w1,w2,s1,j2,s2,r2,f2⟩:=hrb.swp (hseg.grid hg) (hlen.trans hn) (i:=i) (j:=j) (by omega) (by omega)
 refine aH ?_
 refine ak (aj (.inl rfl) ?_)
 simp [g0,g8,g9,i1,j1,l1,l2,w1,w2,s1,j2,s2,-aG,-bI]
 refine ak (aj (.inl rfl) ?_)
 simp [g8,wrap64 (n:=(i:Int)+1) (by omega) (by omega)]
 refine aj (.inl rfl) ?_
 simp [g9,wrap64 (n:=(j:Int)-1) (by omega) (by omega)]
 refine aI ?_
 refine ih (n+1-(i+1)) _ (by omega) ⟨i+1,j-1,_,H3,swp l i j,rfl,rfl,by omega,by omega,by omega,by simp [g0],by simp,by simp;omega,hfr.trans f2,r2,hseg.trans (gZ (by omega) (by omega) (by omega) (by omega) (by omega))⟩
def NB(H:Heap)(p:Nat):Prop:=∃ k:Int,H[p]?=some (.box [.f (fi k)] 0)
theorem NB.push{p:Nat}(h:NB H p)(J:Heap):NB (H++J) p:=by
 obtain⟨k,h⟩:=h
 exact⟨k,by rw [al (aN h)];exact h⟩
theorem aFr(hT:tab σ.ord=some (Dq σ sz))(hcv:Cv tab cv W c){n p i j:Nat}(hn:rows.length=n)(hrb:RB H b sz ep rows)(hg:Grid sz rows)(hW:∀ r ∈ rows,W r)(hi:i<n)(hj:j<n)(hp:NB H p)(hpb:p≠b) :
  ∃ r H',Ev tab (.fn σ.ord) [.c (.sl b 0 n 0 ep sz),vi i,vi j,.c (.ptr p 0 0),cv] H r H'∧((r=.t [vi i,vi j]∨r=.t [vi j,vi i])∧Fm p H H'∧NB H' p):=by
 refine gu hT rfl fun Q hQ=>?_
 obtain⟨x,y,F,ar,J,-,-,i1,j1,l1,l2,fD,he,-,-⟩:=hrb.ask hg hcv hW hn hj hi
 obtain⟨k,hp'⟩:=hp.push J
 have hpl:=aN hp'
 refine ak (aj (.inl rfl) ?_)
 simp
 refine ak ?_
 refine ak (aj (.inl rfl) ?_)
 simp [i1,j1,l1,l2,fD,he,-aG]
 by_cases hlt:c x y<0
 ·refine aA (by simp [hlt]) (ak (aj (.inl rfl) ?_))
  simp [hp']
  refine ak (aj (.inl rfl) ?_)
  simp
  refine aO (hQ _ _ (.t [vi j,vi i]) rfl (by simp [Km.results,bf]) ⟨.inr rfl,?_,?_⟩)
  ·exact(Fm.push _ _).trans (Fm.set _ _)
  ·exact⟨_,ax hpl⟩
 ·refine ay (by simp [hlt]) (aF (ak (aj (.inl rfl) ?_)))
  simp
  exact aO (hQ _ _ (.t [vi i,vi j]) rfl (by simp [Km.results,bf]) ⟨.inl rfl,Fm.push _ _,hp.push J⟩)
theorem aiY(hT:tab σ.med=some (Jd σ sz))(hO:tab σ.ord=some (Dq σ sz))(hcv:Cv tab cv W c){n p i j k:Nat}(hn:rows.length=n)(hrb:RB H b sz ep rows)(hg:Grid sz rows)(hW:∀ r ∈ rows,W r)(hi:i<n)(hj:j<n)(hk:k<n)(hp:NB H p)(hpb:p≠b) :
  ∃ r H',Ev tab (.fn σ.med) [.c (.sl b 0 n 0 ep sz),vi i,vi j,vi k,.c (.ptr p 0 0),cv] H r H'∧((∃ q:Nat,r=vi q∧(q=i∨q=j∨q=k))∧Fm p H H'∧NB H' p):=by
 have key:∀ {H:Heap} {i j:Nat},RB H b sz ep rows→NB H p→i<n→j<n→∃(x y:Nat) (H':Heap),Ev tab (.fn σ.ord) [.c (.sl b 0 n 0 ep sz),vi i,vi j,.c (.ptr p 0 0),cv] H=E2 (.t [vi x,vi y]) H'∧(x=i∧y=j∨x=j∧y=i)∧Fm p H H'∧NB H' p:=by
  intro H i j hrb hp hi hj
  obtain⟨r,H',he,hr,hf,hb⟩:=aFr hO hcv hn hrb hg hW hi hj hp hpb
  rcases hr with rfl | rfl
  ·exact⟨i,j,H',he.eq,.inl ⟨rfl,rfl⟩,hf,hb⟩
  ·exact⟨j,i,H',he.eq,.inr ⟨rfl,rfl⟩,hf,hb⟩
 obtain⟨x1,y1,H1,e1,o1,f1,b1⟩:=key hrb hp hi hj
 have r1:RB H1 b sz ep rows:=f1.get hrb (Ne.symm hpb)
 obtain⟨x2,y2,H2,e2,o2,f2,b2⟩:=key r1 b1 (show y1<n by omega) hk
 have r2:RB H2 b sz ep rows:=f2.get r1 (Ne.symm hpb)
 obtain⟨x3,y3,H3,e3,o3,f3,b3⟩:=key r2 b2 (show x1<n by omega) (show x2<n by omega)
 refine gu hT rfl fun Q hQ=>?_
 refine ak (aj (.inl rfl) ?_)
 simp
 refine ak (aj (.inl rfl) ?_)
 simp [e1]
 refine ak (aj (.inl rfl) ?_)
 simp [e2]
 refine ak (aj (.inl rfl) ?_)
 simp [e3]
 refine ak (aj (.inl rfl) ?_)
 simp
 refine aO (hQ _ _ (vi y3) rfl (by simp [Km.results,bf]) ⟨⟨y3,rfl,by omega⟩,f1.trans (f2.trans f3),b3⟩)
theorem FX(hT:tab σ.CP=some (FY σ sz))(hM:tab σ.med=some (Jd σ sz))(hO:tab σ.ord=some (Dq σ sz))(hcv:Cv tab cv W c){n p i:Nat}(hn:rows.length=n)(hl:n≤1000000000)(hrb:RB H b sz ep rows)(hg:Grid sz rows)(hW:∀ r ∈ rows,W r)(h0:0<i)(hi:i+1<n)(hp:NB H p)(hpb:p≠b) :
  ∃ r H',Ev tab (.fn σ.CP) [.c (.sl b 0 n 0 ep sz),vi i,.c (.ptr p 0 0),cv] H r H'∧((∃ q:Nat,r=vi q∧i≤q+1∧q≤i+1)∧Fm p H H'∧NB H' p):=by
 obtain⟨d,rfl⟩:∃ d,i=d+1:=⟨i-1,by omega⟩
 obtain⟨r,H',he,⟨q,rfl,hq⟩,hf,hb⟩:=aiY (i:=d) (j:=d+1) (k:=d+1+1) hM hO hcv hn hrb hg hW (by omega) (by omega) hi hp hpb
 refine gu hT rfl fun Q hQ=>?_
 have he:=he.eq
 simp at he
 refine ak (aj (.inl rfl) ?_)
 simp
 refine ak (aj (.inl rfl) ?_)
 simp [wrap64 (n:=(d:Int)) (by omega) (by omega),wrap64 (n:=(d:Int)+1+1) (by omega) (by omega),he]
 exact aO (hQ _ _ (vi q) rfl (by simp [Km.results,bf]) ⟨⟨q,rfl,by omega,by omega⟩,hf,hb⟩)
def Kp(H H':Heap):Prop:=H.length≤H'.length∧∀ b':Nat,b'<H.length→H'[b']?=H[b']?
theorem Kp.fm{b:Nat}{H H':Heap}(h:Kp H H'):Fm b H H':=⟨h.1,fun b' _ l=>h.2 b' l⟩
theorem Kp.push(H J:Heap):Kp H (H++J):=⟨by simp,fun b' l=>al l⟩
theorem Kp.next{H H' H'':Heap}{p:Nat}(h:Kp H H')(hp:H.length≤p)(h':Fm p H' H''):Kp H H'':=⟨bk h.1 h'.1,fun b' l=>(h'.2 b' (by omega) (cr l h.1)).trans (h.2 b' l)⟩
theorem Kp.rb{H H':Heap}{b sz ep:Nat}{rows:List (List FC)}(h:Kp H H')(hb:RB H b sz ep rows):RB H' b sz ep rows:=by
 unfold RB at *
 rw [h.2 b (aN hb)];exact hb
theorem auK{a b:Nat}(hb:0<b)(ha:a≤9223372036854775807):bM .quo (vi a) (vi b)=some (vi ((a / b:Nat):Int)):=by
 have h1:(a / b:Nat)≤a:=Nat.div_le_self a b
 obtain⟨q,hq⟩:∃ q,q=a / b:=⟨_,rfl⟩
 have h2:((a:Int) / b)=(q:Int):=by rw [hq];simp
 have h3:q≤a:=by rw [hq];exact h1
 rw [←hq,GU (by omega),Int.tdiv_eq_ediv_of_nonneg (by omega),h2,wrap64 (by omega) (by omega)]
theorem aC1(hT:tab σ.piv=some (aij σ sz))(hA:tab σ.CP=some (FY σ sz))(hM:tab σ.med=some (Jd σ sz))(hO:tab σ.ord=some (Dq σ sz))(hcv:Cv tab cv W c){n a e:Nat}(hn:rows.length=n)(hl:n≤1000000000)(hrb:RB H b sz ep rows)(hg:Grid sz rows)(hW:∀ r ∈ rows,W r)(hae:a+8≤e)(hen:e≤n) :
  ∃ r H',Ev tab (.fn σ.piv) [.c (.sl b 0 n 0 ep sz),vi a,vi e,cv] H r H'∧((∃(q:Nat) (h:Int),r=.t [vi q,vi h]∧a≤q∧q<e)∧Kp H H'):=by
 obtain⟨L,rfl⟩:∃ L,e=a+L:=⟨e-a,by omega⟩
 obtain⟨d,hd⟩:∃ d,d=L / 4:=⟨_,rfl⟩
 have hq:bM .quo (vi (L:Int)) (vi 4)=some (vi (d:Int)):=by
  have:=auK (a:=L) (b:=4) (by omega) (by omega)
  rw [hd];exact this
 have hbl:=hrb.lt
 have hw:IntKind.i64.wrap ((a:Int)+L-a)=L:=by rw [wrap64 (by omega) (by omega)];omega
 refine gu hT rfl fun Q hQ=>?_
 have fin:∀(t:T) (H2:Heap) (q:Nat),t.g 11=.c (.ptr H.length 0 0)→t.g 13=vi q→a≤q→q<a+L→NB H2 H.length→Kp H H2→WP tab σ.piv none [.code (KW σ sz)] ⟨t,[],H2⟩ Q:=by
  intro t H2 q g11 g13 h1 h2 ⟨k,hk⟩ hkp
  refine ak (aj (.inl rfl) ?_)
  simp [g11,hk]
  refine aH ?_
  refine ak (aj (.inl rfl) ?_)
  simp
  by_cases k1:k=0
  ·refine aA (by simp [k1]) (ak (aj (.inl rfl) ?_))
   simp [g13]
   exact aO (hQ _ _ (.t [vi q,vi 1]) rfl (by simp [Km.results,bf]) ⟨⟨q,1,rfl,h1,h2⟩,hkp⟩)
  refine ay (by simp [k1]) ?_
  refine ak (aj (.inl rfl) ?_)
  simp
  by_cases k2:k=12
  ·refine aA (by simp [k2]) (ak (aj (.inl rfl) ?_))
   simp [g13]
   exact aO (hQ _ _ (.t [vi q,vi 2]) rfl (by simp [Km.results,bf]) ⟨⟨q,2,rfl,h1,h2⟩,hkp⟩)
  refine ay (by simp [k2]) ?_
  refine ak (aj (.inl rfl) ?_)
  simp [g13]
  exact aO (hQ _ _ (.t [vi q,vi 0]) rfl (by simp [Km.results,bf]) ⟨⟨q,0,rfl,h1,h2⟩,hkp⟩)
 have mid:∀(t:T) (H2:Heap) (i j k:Nat),t.g 0=.c (.sl b 0 n 0 ep sz)→t.g 3=cv→t.g 11=.c (.ptr H.length 0 0)→t.g 12=vi i→t.g 13=vi j→t.g 14=vi k→a≤i→i<a+L→a≤j→j<a+L→a≤k→k<a+L→NB H2 H.length→Kp H H2 →
   WP tab σ.piv none [.code (aik σ sz),.code (KW σ sz)] ⟨t,[],H2⟩ Q:=by
  intro t H2 i j k g0 g3 g11 g12 g13 g14 i1 i2 j1 j2 k1 k2 hnb hkp
  obtain⟨r,H3,he,⟨q,rfl,hq⟩,hf,hb3⟩:=aiY (p:=H.length) (i:=i) (j:=j) (k:=k) hM hO hcv hn (hkp.rb hrb) hg hW (by omega) (by omega) (by omega) hnb (by omega)
  have he:=he.eq
  refine aj (.inl rfl) ?_
  simp [g0,g3,g11,g12,g13,g14,he]
  exact fin _ H3 q (by simp [g11]) (by simp) (by omega) (by omega) hb3 (hkp.next (aw _) hf)
 refine ak (aj (.inl rfl) ?_)
 simp
 refine ak (aj (.inl rfl) ?_)
 simp [hw]
 refine ak (aj (.inl rfl) ?_)
 simp
 refine ak (aj (.inl rfl) ?_)
 simp [hq,wrap64 (n:=(d:Int)) (by omega) (by omega),wrap64 (n:=(a:Int)+d) (by omega) (by omega)]
 refine ak (aj (.inl rfl) ?_)
 simp [hq,wrap64 (n:=(d:Int)*2) (by omega) (by omega),wrap64 (n:=(a:Int)+d*2) (by omega) (by omega)]
 refine ak (aj (.inl rfl) ?_)
 simp [hq,wrap64 (n:=(d:Int)*3) (by omega) (by omega),wrap64 (n:=(a:Int)+d*3) (by omega) (by omega)]
 refine ak ?_
 refine ak (aj (.inl rfl) ?_)
 simp
 refine aA (by simp;omega) ?_
 refine ak ?_
 refine ak (aj (.inl rfl) ?_)
 simp
 have hnb:NB (H++[.box [.f (fi 0)] 0]) H.length:=⟨0,by simp⟩
 have hkp:Kp H (H++[.box [.f (fi 0)] 0]):=Kp.push _ _
 by_cases h50:50≤L
 case neg=>
  refine ay (by simp;omega) (aF ?_)
  exact mid _ _ (a+d) (a+d*2) (a+d*3) (by simp) (by simp) (by simp) (by simp) (by simp) (by simp) (by omega) (by omega) (by omega) (by omega) (by omega) (by omega) hnb hkp
 refine aA (by simp;omega) ?_
 obtain⟨r1,H1,e1,⟨q1,rfl,hq1⟩,f1,b1⟩:=FX (p:=H.length) (i:=a+d) hA hM hO hcv hn hl (hkp.rb hrb) hg hW (by omega) (by omega) hnb (by omega)
 have kp1:=hkp.next (aw _) f1
 obtain⟨r2,H2,e2,⟨q2,rfl,hq2⟩,f2,b2⟩:=FX (p:=H.length) (i:=a+d*2) hA hM hO hcv hn hl (kp1.rb hrb) hg hW (by omega) (by omega) b1 (by omega)
 have kp2:=kp1.next (aw _) f2
 obtain⟨r3,H3,e3,⟨q3,rfl,hq3⟩,f3,b3⟩:=FX (p:=H.length) (i:=a+d*3) hA hM hO hcv hn hl (kp2.rb hrb) hg hW (by omega) (by omega) b2 (by omega)
 have kp3:=kp2.next (aw _) f3
 have e1:=e1.eq
 have e2:=e2.eq
 have e3:=e3.eq
 simp at e1 e2 e3
 refine ak (aj (.inl rfl) ?_)
 simp [e1]
 refine ak (aj (.inl rfl) ?_)
 simp [e2]
 refine aj (.inl rfl) ?_
 simp [e3]
 exact mid _ _ q1 q2 q3 (by simp) (by simp) (by simp) (by simp) (by simp) (by simp) (by omega) (by omega) (by omega) (by omega) (by omega) (by omega) b3 kp3
end
end Km
end
section
namespace Km
open Go
section
variable{tab:Nat→Option AFunc}{σ:Srt}{sz:Nat}{cv:V}{W:List FC→Prop}{c:List FC→List FC→Int}
theorem aiz{n a e i j ep b:Nat}{rows:List (List FC)}{p:List FC}{H0:Heap}{k:List cu}{Q:Option ah→St→Prop}(hcv:Cv tab cv W c)(hn:rows.length=n)(hl:n≤1000000000)(hg:Grid sz rows)(hW:∀ r ∈ rows,W r)
  {t:T} {H:Heap} (hai:a<i) (hij:i≤j+1) (hje:j<e) (hen:e≤n) (hp:rows[a]?=some p)
  (g0:t.g 0=.c (.sl b 0 n 0 ep sz)) (g1:t.g 1=vi a) (g4:t.g 4=cv) (gi:t.g 12=vi i) (gj:t.g 13=vi j) (hfr:Fm b H0 H) (hrb:RB H b sz ep rows)
  (next:∀(t:T) (H:Heap) (i':Nat),(i≤i'∧i'≤j+1)→(∀(q:Nat) x,i≤q→q<i'→rows[q]?=some x→c x p<0)→(j<i'∨∀ x,rows[i']?=some x→¬ c x p<0) →
   t.g 0=.c (.sl b 0 n 0 ep sz)→t.g 1=vi a→t.g 4=cv→t.g 12=vi i'→t.g 13=vi j→Fm b H0 H→RB H b sz ep rows→WP tab σ.part none k ⟨t,[],H⟩ Q) :
  WP tab σ.part none (.code (aiC σ sz)::k) ⟨t,[],H⟩ Q:=by
 refine aH ?_
 refine bF (fun m s=>∃(q:Nat) (t:T) (H1:Heap),s=⟨t,[],H1⟩∧(q+m=j+1∧i≤q)∧(∀(r:Nat) x,i≤r→r<q→rows[r]?=some x→c x p<0) ∧
   t.g 0=.c (.sl b 0 n 0 ep sz)∧t.g 1=vi a∧t.g 4=cv∧t.g 12=vi q∧t.g 13=vi j∧Fm b H0 H1∧RB H1 b sz ep rows) (j+1-i)
  ⟨i,_,H,rfl,by omega,fun r x h1 h2=>by omega,g0,g1,g4,gi,gj,hfr,hrb⟩ ?_
 rintro m s ⟨q,t,H1,rfl,hm,fH,g0,g1,g4,gi,gj,hfr,hrb⟩ ih
 refine ak ?_
 refine ak (aj (.inl rfl) ?_)
 by_cases hlt:q≤j
 case neg=>
  simp [gi,gj,hlt]
  refine ay (by simp) ?_
  refine aZ (k':=k) rfl ?_
  exact next _ _ q (by omega) fH (.inl (by omega)) (by simp [g0]) (by simp [g1]) (by simp [g4]) (by simp [gi]) (by simp [gj]) hfr hrb
 obtain⟨x,y,F,ar,J,hx,hy,i1,j1,l1,l2,fD,he,-,-⟩:=hrb.ask hg hcv hW hn (i:=q) (j:=a) (by omega) (by omega)
 simp [gi,gj,hlt,g0,g1,g4,i1,j1,l1,l2,fD,he,-aG]
 have ep:p=y:=by rw [hp]at hy;exact c7 hy
 subst ep
 by_cases hc:c x p<0
 case neg=>
  refine ay (by simp [hc]) ?_
  refine aZ (k':=k) rfl ?_
  refine next _ _ q (by omega) fH (.inr fun z hz=>?_) (by simp [g0]) (by simp [g1]) (by simp [g4]) (by simp [gi]) (by simp [gj]) (hfr.trans (Fm.push _ _)) (hrb.push _)
  rw [hx]at hz;cases hz;exact hc
 refine aA (by simp [hc]) (aF ?_)
 refine aH (aj (.inl rfl) ?_)
 simp [gi,gj,wrap64 (n:=(q:Int)+1) (by omega) (by omega)]
 refine aI (ih (m-1) _ (by omega) ⟨q+1,_,_,rfl,by omega,fun r z h1 h2 hz=>?_,by simp [g0],by simp [g1],by simp [g4],by simp,by simp [gj],hfr.trans (Fm.push _ _),hrb.push _⟩)
 by_cases hr:r=q
 ·subst hr;rw [hx]at hz;cases hz;exact hc
 ·exact fH r z (by omega) (by omega) hz
theorem aiB{n a e i j ep b:Nat}{rows:List (List FC)}{p:List FC}{H0:Heap}{k:List cu}{Q:Option ah→St→Prop}(hcv:Cv tab cv W c)(hn:rows.length=n)(hl:n≤1000000000)(hg:Grid sz rows)(hW:∀ r ∈ rows,W r)
  {t:T} {H:Heap} (hai:a<i) (hij:i≤j+1) (hje:j<e) (hen:e≤n) (hp:rows[a]?=some p)
  (g0:t.g 0=.c (.sl b 0 n 0 ep sz)) (g1:t.g 1=vi a) (g4:t.g 4=cv) (gi:t.g 12=vi i) (gj:t.g 13=vi j) (hfr:Fm b H0 H) (hrb:RB H b sz ep rows)
  (next:∀(t:T) (H:Heap) (j':Nat),(j'≤j∧i≤j'+1)→(∀(q:Nat) x,j'<q→q≤j→rows[q]?=some x→¬ c x p<0)→(j'<i∨∀ x,rows[j']?=some x→¬ ¬ c x p<0) →
   t.g 0=.c (.sl b 0 n 0 ep sz)→t.g 1=vi a→t.g 4=cv→t.g 12=vi i→t.g 13=vi j'→Fm b H0 H→RB H b sz ep rows→WP tab σ.part none k ⟨t,[],H⟩ Q) :
  WP tab σ.part none (.code (P5 σ sz)::k) ⟨t,[],H⟩ Q:=by
 refine aH ?_
 refine bF (fun m s=>∃(q:Nat) (t:T) (H1:Heap),s=⟨t,[],H1⟩∧(q+1=i+m∧q≤j)∧(∀(r:Nat) x,q<r→r≤j→rows[r]?=some x→¬ c x p<0) ∧
   t.g 0=.c (.sl b 0 n 0 ep sz)∧t.g 1=vi a∧t.g 4=cv∧t.g 12=vi i∧t.g 13=vi q∧Fm b H0 H1∧RB H1 b sz ep rows) (j+1-i)
  ⟨j,_,H,rfl,by omega,fun r x h1 h2=>by omega,g0,g1,g4,gi,gj,hfr,hrb⟩ ?_
 rintro m s ⟨q,t,H1,rfl,hm,fH,g0,g1,g4,gi,gj,hfr,hrb⟩ ih
 refine ak ?_
 refine ak (aj (.inl rfl) ?_)
 by_cases hlt:i≤q
 case neg=>
  simp [gi,gj,hlt]
  refine ay (by simp) ?_
  refine aZ (k':=k) rfl ?_
  exact next _ _ q (by omega) fH (.inl (by omega)) (by simp [g0]) (by simp [g1]) (by simp [g4]) (by simp [gi]) (by simp [gj]) hfr hrb
 obtain⟨x,y,F,ar,J,hx,hy,i1,j1,l1,l2,fD,he,-,-⟩:=hrb.ask hg hcv hW hn (i:=q) (j:=a) (by omega) (by omega)
 simp [gi,gj,hlt,g0,g1,g4,i1,j1,l1,l2,fD,he,-aG]
 have ep:p=y:=by rw [hp]at hy;exact c7 hy
 subst ep
 by_cases hc:c x p<0
 case pos=>
  refine ay (by simp [hc]) ?_
  refine aZ (k':=k) rfl ?_
  refine next _ _ q (by omega) fH (.inr fun z hz=>?_) (by simp [g0]) (by simp [g1]) (by simp [g4]) (by simp [gi]) (by simp [gj]) (hfr.trans (Fm.push _ _)) (hrb.push _)
  rw [hx]at hz;cases hz;exact fun h=>h hc
 refine aA (by simp [hc]) (aF ?_)
 refine aH (aj (.inl rfl) ?_)
 simp [gi,gj,wrap64 (n:=(q:Int)-1) (by omega) (by omega)]
 refine aI (ih (m-1) _ (by omega) ⟨q-1,_,_,rfl,by omega,fun r z h1 h2 hz=>?_,by simp [g0],by simp [g1],by simp [g4],by simp [gi],by simp;omega,hfr.trans (Fm.push _ _),hrb.push _⟩)
 by_cases hr:r=q
 ·subst hr;rw [hx]at hz;cases hz;exact hc
 ·exact fH r z (by omega) (by omega) hz
theorem aiy{n a e i j ep b:Nat}{rows:List (List FC)}{p:List FC}{H0:Heap}{k:List cu}{Q:Option ah→St→Prop}(hcv:Cv tab cv W c)(hn:rows.length=n)(hl:n≤1000000000)(hg:Grid sz rows)(hW:∀ r ∈ rows,W r)
  {t:T} {H:Heap} (hai:a<i) (hij:i≤j+1) (hje:j<e) (hen:e≤n) (hp:rows[a]?=some p)
  (g0:t.g 0=.c (.sl b 0 n 0 ep sz)) (g1:t.g 1=vi a) (g4:t.g 4=cv) (gi:t.g 12=vi i) (gj:t.g 13=vi j) (hfr:Fm b H0 H) (hrb:RB H b sz ep rows)
  (next:∀(t:T) (H:Heap) (i':Nat),(i≤i'∧i'≤j+1)→(∀(q:Nat) x,i≤q→q<i'→rows[q]?=some x→c x p<0)→(j<i'∨∀ x,rows[i']?=some x→¬ c x p<0) →
   t.g 0=.c (.sl b 0 n 0 ep sz)→t.g 1=vi a→t.g 4=cv→t.g 12=vi i'→t.g 13=vi j→Fm b H0 H→RB H b sz ep rows→WP tab σ.part none k ⟨t,[],H⟩ Q) :
  WP tab σ.part none (.code (PZ σ sz)::k) ⟨t,[],H⟩ Q:=by
 refine aH ?_
 refine bF (fun m s=>∃(q:Nat) (t:T) (H1:Heap),s=⟨t,[],H1⟩∧(q+m=j+1∧i≤q)∧(∀(r:Nat) x,i≤r→r<q→rows[r]?=some x→c x p<0) ∧
   t.g 0=.c (.sl b 0 n 0 ep sz)∧t.g 1=vi a∧t.g 4=cv∧t.g 12=vi q∧t.g 13=vi j∧Fm b H0 H1∧RB H1 b sz ep rows) (j+1-i)
  ⟨i,_,H,rfl,by omega,fun r x h1 h2=>by omega,g0,g1,g4,gi,gj,hfr,hrb⟩ ?_
 rintro m s ⟨q,t,H1,rfl,hm,fH,g0,g1,g4,gi,gj,hfr,hrb⟩ ih
 refine ak ?_
 refine ak (aj (.inl rfl) ?_)
 by_cases hlt:q≤j
 case neg=>
  simp [gi,gj,hlt]
  refine ay (by simp) ?_
  refine aZ (k':=k) rfl ?_
  exact next _ _ q (by omega) fH (.inl (by omega)) (by simp [g0]) (by simp [g1]) (by simp [g4]) (by simp [gi]) (by simp [gj]) hfr hrb
 obtain⟨x,y,F,ar,J,hx,hy,i1,j1,l1,l2,fD,he,-,-⟩:=hrb.ask hg hcv hW hn (i:=q) (j:=a) (by omega) (by omega)
 simp [gi,gj,hlt,g0,g1,g4,i1,j1,l1,l2,fD,he,-aG]
 have ep:p=y:=by rw [hp]at hy;exact c7 hy
 subst ep
 by_cases hc:c x p<0
 case neg=>
  refine ay (by simp [hc]) ?_
  refine aZ (k':=k) rfl ?_
  refine next _ _ q (by omega) fH (.inr fun z hz=>?_) (by simp [g0]) (by simp [g1]) (by simp [g4]) (by simp [gi]) (by simp [gj]) (hfr.trans (Fm.push _ _)) (hrb.push _)
  rw [hx]at hz;cases hz;exact hc
 refine aA (by simp [hc]) (aF ?_)
 refine aH (aj (.inl rfl) ?_)
 simp [gi,gj,wrap64 (n:=(q:Int)+1) (by omega) (by omega)]
 refine aI (ih (m-1) _ (by omega) ⟨q+1,_,_,rfl,by omega,fun r z h1 h2 hz=>?_,by simp [g0],by simp [g1],by simp [g4],by simp,by simp [gj],hfr.trans (Fm.push _ _),hrb.push _⟩)
 by_cases hr:r=q
 ·subst hr;rw [hx]at hz;cases hz;exact hc
 ·exact fH r z (by omega) (by omega) hz
theorem aiA{n a e i j ep b:Nat}{rows:List (List FC)}{p:List FC}{H0:Heap}{k:List cu}{Q:Option ah→St→Prop}(hcv:Cv tab cv W c)(hn:rows.length=n)(hl:n≤1000000000)(hg:Grid sz rows)(hW:∀ r ∈ rows,W r)
  {t:T} {H:Heap} (hai:a<i) (hij:i≤j+1) (hje:j<e) (hen:e≤n) (hp:rows[a]?=some p)
  (g0:t.g 0=.c (.sl b 0 n 0 ep sz)) (g1:t.g 1=vi a) (g4:t.g 4=cv) (gi:t.g 12=vi i) (gj:t.g 13=vi j) (hfr:Fm b H0 H) (hrb:RB H b sz ep rows)
  (next:∀(t:T) (H:Heap) (j':Nat),(j'≤j∧i≤j'+1)→(∀(q:Nat) x,j'<q→q≤j→rows[q]?=some x→¬ c x p<0)→(j'<i∨∀ x,rows[j']?=some x→¬ ¬ c x p<0) →
   t.g 0=.c (.sl b 0 n 0 ep sz)→t.g 1=vi a→t.g 4=cv→t.g 12=vi i→t.g 13=vi j'→Fm b H0 H→RB H b sz ep rows→WP tab σ.part none k ⟨t,[],H⟩ Q) :
  WP tab σ.part none (.code (PY σ sz)::k) ⟨t,[],H⟩ Q:=by
 refine aH ?_
 refine bF (fun m s=>∃(q:Nat) (t:T) (H1:Heap),s=⟨t,[],H1⟩∧(q+1=i+m∧q≤j)∧(∀(r:Nat) x,q<r→r≤j→rows[r]?=some x→¬ c x p<0) ∧
   t.g 0=.c (.sl b 0 n 0 ep sz)∧t.g 1=vi a∧t.g 4=cv∧t.g 12=vi i∧t.g 13=vi q∧Fm b H0 H1∧RB H1 b sz ep rows) (j+1-i)
  ⟨j,_,H,rfl,by omega,fun r x h1 h2=>by omega,g0,g1,g4,gi,gj,hfr,hrb⟩ ?_
 rintro m s ⟨q,t,H1,rfl,hm,fH,g0,g1,g4,gi,gj,hfr,hrb⟩ ih
 refine ak ?_
 refine ak (aj (.inl rfl) ?_)
 by_cases hlt:i≤q
 case neg=>
  simp [gi,gj,hlt]
  refine ay (by simp) ?_
  refine aZ (k':=k) rfl ?_
  exact next _ _ q (by omega) fH (.inl (by omega)) (by simp [g0]) (by simp [g1]) (by simp [g4]) (by simp [gi]) (by simp [gj]) hfr hrb
 obtain⟨x,y,F,ar,J,hx,hy,i1,j1,l1,l2,fD,he,-,-⟩:=hrb.ask hg hcv hW hn (i:=q) (j:=a) (by omega) (by omega)
 simp [gi,gj,hlt,g0,g1,g4,i1,j1,l1,l2,fD,he,-aG]
 have ep:p=y:=by rw [hp]at hy;exact c7 hy
 subst ep
 by_cases hc:c x p<0
 case pos=>
  refine ay (by simp [hc]) ?_
  refine aZ (k':=k) rfl ?_
  refine next _ _ q (by omega) fH (.inr fun z hz=>?_) (by simp [g0]) (by simp [g1]) (by simp [g4]) (by simp [gi]) (by simp [gj]) (hfr.trans (Fm.push _ _)) (hrb.push _)
  rw [hx]at hz;cases hz;exact fun h=>h hc
 refine aA (by simp [hc]) (aF ?_)
 refine aH (aj (.inl rfl) ?_)
 simp [gi,gj,wrap64 (n:=(q:Int)-1) (by omega) (by omega)]
 refine aI (ih (m-1) _ (by omega) ⟨q-1,_,_,rfl,by omega,fun r z h1 h2 hz=>?_,by simp [g0],by simp [g1],by simp [g4],by simp [gi],by simp;omega,hfr.trans (Fm.push _ _),hrb.push _⟩)
 by_cases hr:r=q
 ·subst hr;rw [hx]at hz;cases hz;exact hc
 ·exact fH r z (by omega) (by omega) hz
theorem aDF{n a e i j ep b:Nat}{rows:List (List FC)}{p:List FC}{H0:Heap}{k:List cu}{Q:Option ah→St→Prop}(hcv:Cv tab cv W c)(hn:rows.length=n)(hl:n≤1000000000)(hg:Grid sz rows)(hW:∀ r ∈ rows,W r)
  {t:T} {H:Heap} (hai:a<i) (hij:i≤j+1) (hje:j<e) (hen:e≤n) (hp:rows[a]?=some p)
  (g0:t.g 0=.c (.sl b 0 n 0 ep sz)) (g1:t.g 1=vi a) (g4:t.g 4=cv) (gi:t.g 11=vi i) (gj:t.g 12=vi j) (hfr:Fm b H0 H) (hrb:RB H b sz ep rows)
  (next:∀(t:T) (H:Heap) (i':Nat),(i≤i'∧i'≤j+1)→(∀(q:Nat) x,i≤q→q<i'→rows[q]?=some x→¬ c p x<0)→(j<i'∨∀ x,rows[i']?=some x→¬ ¬ c p x<0) →
   t.g 0=.c (.sl b 0 n 0 ep sz)→t.g 1=vi a→t.g 4=cv→t.g 11=vi i'→t.g 12=vi j→Fm b H0 H→RB H b sz ep rows→WP tab σ.peq none k ⟨t,[],H⟩ Q) :
  WP tab σ.peq none (.code (air σ sz)::k) ⟨t,[],H⟩ Q:=by
 refine aH ?_
 refine bF (fun m s=>∃(q:Nat) (t:T) (H1:Heap),s=⟨t,[],H1⟩∧(q+m=j+1∧i≤q)∧(∀(r:Nat) x,i≤r→r<q→rows[r]?=some x→¬ c p x<0) ∧
   t.g 0=.c (.sl b 0 n 0 ep sz)∧t.g 1=vi a∧t.g 4=cv∧t.g 11=vi q∧t.g 12=vi j∧Fm b H0 H1∧RB H1 b sz ep rows) (j+1-i)
  ⟨i,_,H,rfl,by omega,fun r x h1 h2=>by omega,g0,g1,g4,gi,gj,hfr,hrb⟩ ?_
 rintro m s ⟨q,t,H1,rfl,hm,fH,g0,g1,g4,gi,gj,hfr,hrb⟩ ih
 refine ak ?_
 refine ak (aj (.inl rfl) ?_)
 by_cases hlt:q≤j
 case neg=>
  simp [gi,gj,hlt]
  refine ay (by simp) ?_
  refine aZ (k':=k) rfl ?_
  exact next _ _ q (by omega) fH (.inl (by omega)) (by simp [g0]) (by simp [g1]) (by simp [g4]) (by simp [gi]) (by simp [gj]) hfr hrb
 obtain⟨x,y,F,ar,J,hx,hy,i1,j1,l1,l2,fD,he,-,-⟩:=hrb.ask hg hcv hW hn (i:=a) (j:=q) (by omega) (by omega)
 simp [gi,gj,hlt,g0,g1,g4,i1,j1,l1,l2,fD,he,-aG]
 have ep:p=x:=by rw [hp]at hx;exact c7 hx
 subst ep
 by_cases hc:c p y<0
 case pos=>
  refine ay (by simp [hc]) ?_
  refine aZ (k':=k) rfl ?_
  refine next _ _ q (by omega) fH (.inr fun z hz=>?_) (by simp [g0]) (by simp [g1]) (by simp [g4]) (by simp [gi]) (by simp [gj]) (hfr.trans (Fm.push _ _)) (hrb.push _)
  rw [hy]at hz;cases hz;exact fun h=>h hc
 refine aA (by simp [hc]) (aF ?_)
 refine aH (aj (.inl rfl) ?_)
 simp [gi,gj,wrap64 (n:=(q:Int)+1) (by omega) (by omega)]
 refine aI (ih (m-1) _ (by omega) ⟨q+1,_,_,rfl,by omega,fun r z h1 h2 hz=>?_,by simp [g0],by simp [g1],by simp [g4],by simp,by simp [gj],hfr.trans (Fm.push _ _),hrb.push _⟩)
 by_cases hr:r=q
 ·subst hr;rw [hy]at hz;cases hz;exact hc
 ·exact fH r z (by omega) (by omega) hz
theorem aDH{n a e i j ep b:Nat}{rows:List (List FC)}{p:List FC}{H0:Heap}{k:List cu}{Q:Option ah→St→Prop}(hcv:Cv tab cv W c)(hn:rows.length=n)(hl:n≤1000000000)(hg:Grid sz rows)(hW:∀ r ∈ rows,W r)
  {t:T} {H:Heap} (hai:a<i) (hij:i≤j+1) (hje:j<e) (hen:e≤n) (hp:rows[a]?=some p)
  (g0:t.g 0=.c (.sl b 0 n 0 ep sz)) (g1:t.g 1=vi a) (g4:t.g 4=cv) (gi:t.g 11=vi i) (gj:t.g 12=vi j) (hfr:Fm b H0 H) (hrb:RB H b sz ep rows)
  (next:∀(t:T) (H:Heap) (j':Nat),(j'≤j∧i≤j'+1)→(∀(q:Nat) x,j'<q→q≤j→rows[q]?=some x→c p x<0)→(j'<i∨∀ x,rows[j']?=some x→¬ c p x<0) →
   t.g 0=.c (.sl b 0 n 0 ep sz)→t.g 1=vi a→t.g 4=cv→t.g 11=vi i→t.g 12=vi j'→Fm b H0 H→RB H b sz ep rows→WP tab σ.peq none k ⟨t,[],H⟩ Q) :
  WP tab σ.peq none (.code (aiq σ sz)::k) ⟨t,[],H⟩ Q:=by
 refine aH ?_
 refine bF (fun m s=>∃(q:Nat) (t:T) (H1:Heap),s=⟨t,[],H1⟩∧(q+1=i+m∧q≤j)∧(∀(r:Nat) x,q<r→r≤j→rows[r]?=some x→c p x<0) ∧
   t.g 0=.c (.sl b 0 n 0 ep sz)∧t.g 1=vi a∧t.g 4=cv∧t.g 11=vi i∧t.g 12=vi q∧Fm b H0 H1∧RB H1 b sz ep rows) (j+1-i)
  ⟨j,_,H,rfl,by omega,fun r x h1 h2=>by omega,g0,g1,g4,gi,gj,hfr,hrb⟩ ?_
 rintro m s ⟨q,t,H1,rfl,hm,fH,g0,g1,g4,gi,gj,hfr,hrb⟩ ih
 refine ak ?_
 refine ak (aj (.inl rfl) ?_)
 by_cases hlt:i≤q
 case neg=>
  simp [gi,gj,hlt]
  refine ay (by simp) ?_
  refine aZ (k':=k) rfl ?_
  exact next _ _ q (by omega) fH (.inl (by omega)) (by simp [g0]) (by simp [g1]) (by simp [g4]) (by simp [gi]) (by simp [gj]) hfr hrb
 obtain⟨x,y,F,ar,J,hx,hy,i1,j1,l1,l2,fD,he,-,-⟩:=hrb.ask hg hcv hW hn (i:=a) (j:=q) (by omega) (by omega)
 simp [gi,gj,hlt,g0,g1,g4,i1,j1,l1,l2,fD,he,-aG]
 have ep:p=x:=by rw [hp]at hx;exact c7 hx
 subst ep
 by_cases hc:c p y<0
 case neg=>
  refine ay (by simp [hc]) ?_
  refine aZ (k':=k) rfl ?_
  refine next _ _ q (by omega) fH (.inr fun z hz=>?_) (by simp [g0]) (by simp [g1]) (by simp [g4]) (by simp [gi]) (by simp [gj]) (hfr.trans (Fm.push _ _)) (hrb.push _)
  rw [hy]at hz;cases hz;exact hc
 refine aA (by simp [hc]) (aF ?_)
 refine aH (aj (.inl rfl) ?_)
 simp [gi,gj,wrap64 (n:=(q:Int)-1) (by omega) (by omega)]
 refine aI (ih (m-1) _ (by omega) ⟨q-1,_,_,rfl,by omega,fun r z h1 h2 hz=>?_,by simp [g0],by simp [g1],by simp [g4],by simp [gi],by simp;omega,hfr.trans (Fm.push _ _),hrb.push _⟩)
 by_cases hr:r=q
 ·subst hr;rw [hy]at hz;cases hz;exact hc
 ·exact fH r z (by omega) (by omega) hz
def CV(c:List FC→List FC→Int)(a i j e:Nat)(p:List FC)(l:List (List FC)):Prop:=
 l[a]?=some p∧(∀(k:Nat) x,a<k→k<i→l[k]?=some x→c x p<0)∧(∀(k:Nat) x,j<k→k<e→l[k]?=some x→¬ c x p<0)
def o8(c:List FC→List FC→Int)(a e m:Nat)(l:List (List FC)):Prop:=
 ∃ p,l[m]?=some p∧(∀(k:Nat) x,a≤k→k<m→l[k]?=some x→c x p<0)∧(∀(k:Nat) x,m<k→k<e→l[k]?=some x→¬ c x p<0)
theorem CV.swap{a i j e:Nat}{p:List FC}{l:List (List FC)}(h:CV c a i j e p l)(hai:a<i)(hij:i<j)(hjl:j<l.length)(hi:∀ x,l[i]?=some x→¬ c x p<0)(hj:∀ x,l[j]?=some x→c x p<0):CV c a (i+1) (j-1) e p (swp l i j):=by
 obtain⟨h0,h1,h2⟩:=h
 have g:∀ k,(swp l i j)[k]?=if k=j then l[i]? else if k=i then l[j]? else l[k]?:=fun k=>swp_get (by omega) hjl k
 refine⟨?_,fun k x k1 k2 hx=>?_,fun k x k1 k2 hx=>?_⟩
 ·rw [g,if_neg (by omega),if_neg (by omega)];exact h0
 ·rw [g,if_neg (by omega)]at hx
  by_cases e:k=i
  ·rw [if_pos e]at hx;exact hj x hx
  ·rw [if_neg e]at hx;exact h1 k x k1 (by omega) hx
 ·rw [g]at hx
  by_cases e:k=j
  ·rw [if_pos e]at hx;exact hi x hx
  ·rw [if_neg e,if_neg (by omega)]at hx;exact h2 k x (by omega) k2 hx
theorem CV.done{a i j e:Nat}{p:List FC}{l:List (List FC)}(h:CV c a i j e p l)(hai:a≤j)(hij:i=j+1)(hjl:j<l.length):o8 c a e j (swp l j a):=by
 obtain⟨h0,h1,h2⟩:=h
 have g:∀ k,(swp l j a)[k]?=if k=a then l[j]? else if k=j then l[a]? else l[k]?:=fun k=>swp_get hjl (by omega) k
 refine⟨p,?_,fun k x k1 k2 hx=>?_,fun k x k1 k2 hx=>?_⟩
 ·rw [g]
  by_cases e:j=a
  ·rw [if_pos e,e];exact h0
  ·rw [if_neg e,if_pos rfl];exact h0
 ·rw [g]at hx
  by_cases e:k=a
  ·rw [if_pos e]at hx;exact h1 j x (by omega) (by omega) hx
  ·rw [if_neg e,if_neg (by omega)]at hx;exact h1 k x (by omega) (by omega) hx
 ·rw [g,if_neg (by omega),if_neg (by omega)]at hx
  exact h2 k x k1 k2 hx
theorem avR{H:Heap}{rows:List (List FC)}{n a e v b ep:Nat}(hT:tab σ.part=some (Lc σ sz))(hcv:Cv tab cv W c)(hn:rows.length=n)(hl:n≤1000000000)(hrb:RB H b sz ep rows)(hg:Grid sz rows)(hW:∀ r ∈ rows,W r)(hae:a<e)(hen:e≤n)(hav:a≤v)(hve:v<e) :
  ∃ r H',Ev tab (.fn σ.part) [.c (.sl b 0 n 0 ep sz),vi a,vi e,vi v,cv] H r H'∧((∃(m:Nat) (w:Bool),r=.t [vi m,vb w]∧a≤m∧m<e∧Fm b H H'∧∃ l',RB H' b sz ep l'∧Seg a e rows l'∧o8 c a e m l')):=by
 refine gu hT rfl fun Q hQ=>?_
 obtain⟨d,rfl⟩:∃ d,e=d+1:=⟨e-1,by omega⟩
 obtain⟨x,p,H1,H2,hx,hp,i1,j1,l1,l2,w1,w2,s1,j2,s2,r2,f2⟩:=hrb.swp hg hn (i:=a) (j:=v) (by omega) (by omega)
 have sg1:Seg a (d+1) rows (swp rows a v):=gZ (by omega) (by omega) (by omega) (by omega) (by omega)
 have pi1:CV c a (a+1) d (d+1) p (swp rows a v):=by
  refine⟨?_,fun k x k1 k2=>by omega,fun k x k1 k2=>by omega⟩
  rw [swp_get (by omega) (by omega)]
  by_cases e:a=v
  ·rw [if_pos e,e];exact hp
  ·rw [if_neg e,if_pos rfl];exact hp
 refine ak (aj (.inl rfl) ?_)
 simp
 refine ak (aj (.inl rfl) ?_)
 simp [i1,j1,l1,l2,w1,w2,s1,j2,s2,-aG,-bI]
 refine ak (aj (.inl rfl) ?_)
 simp [wrap64 (n:=(a:Int)+1) (by omega) (by omega),wrap64 (n:=(d:Int)) (by omega) (by omega)]
 refine ak ?_
 have Ii:∀(w:Bool) (t:T) (H3:Heap) (l:List (List FC)) (i j:Nat),a≤j→j<d+1→i=j+1→CV c a i j (d+1) p l→Seg a (d+1) rows l→Fm b H H3→RB H3 b sz ep l →
   ∃(x y:List FC) (H4 H5:Heap),aV H3 sz none (.c (.sl b 0 n 0 ep sz)) (vi j)=some (.c (.ptr b (j*sz) ep))∧aV H3 sz none (.c (.sl b 0 n 0 ep sz)) (vi a)=some (.c (.ptr b (a*sz) ep)) ∧
    ldV H3 (some sz) (.c (.ptr b (j*sz) ep))=some (.a (x.map .f))∧ldV H3 (some sz) (.c (.ptr b (a*sz) ep))=some (.a (y.map .f))∧x.length=sz∧y.length=sz ∧
    stC H3 (.ptr b (j*sz) ep) (y.map .f)=some H4∧aV H4 sz none (.c (.sl b 0 n 0 ep sz)) (vi a)=some (.c (.ptr b (a*sz) ep))∧stC H4 (.ptr b (a*sz) ep) (x.map .f)=some H5 ∧
    (a≤j∧j<d+1∧Fm b H H5∧∃ l',RB H5 b sz ep l'∧Seg a (d+1) rows l'∧o8 c a (d+1) j l'):=by
  intro w t H3 l i j h1 h2 h3 hpi hsg hfr hrb
  have hlen:=hsg.len
  obtain⟨x,y,H4,H5,-,-,i1,j1,l1,l2,w1,w2,s1,j2,s2,r2,f2⟩:=hrb.swp (hsg.grid hg) (hlen.trans hn) (i:=j) (j:=a) (by omega) (by omega)
  exact⟨x,y,H4,H5,i1,j1,l1,l2,w1,w2,s1,j2,s2,h1,h2,hfr.trans f2,_,r2,hsg.trans (gZ (by omega) (by omega) (by omega) (by omega) (by omega)),hpi.done h1 h3 (by omega)⟩
 have grid:∀ {l},Seg a (d+1) rows l→Grid sz l:=fun h=>h.grid hg
 have wall:∀ {l},Seg a (d+1) rows l→∀ r ∈ l,W r:=fun h r hr=>hW r (h.1.mem_iff.1 hr)
 refine aiz hcv (sg1.len.trans hn) hl (grid sg1) (wall sg1) (i:=a+1) (j:=d) (e:=d+1) (H0:=H) (by omega) (by omega) (by omega) hen pi1.1 (by simp) (by simp) (by simp) (by simp) (by simp) f2 r2 ?_
 intro t H3 i' hi1 fH hstop g0 g1 g4 gi gj hfr hrb
 refine ak ?_
 refine aiB hcv (sg1.len.trans hn) hl (grid sg1) (wall sg1) (i:=i') (j:=d) (e:=d+1) (H0:=H) (by omega) (by omega) (by omega) hen pi1.1 g0 g1 g4 gi gj hfr hrb ?_
 intro t H4 j' hj1 AQ AP g0 g1 g4 gi gj hfr hrb
 have pi2:CV c a i' j' (d+1) p (swp rows a v):=⟨pi1.1,fun k x k1 k2 hx=>fH k x (by omega) k2 hx,fun k x k1 k2 hx=>AQ k x k1 (by omega) hx⟩
 refine ak ?_
 refine ak (aj (.inl rfl) ?_)
 simp [gi,gj]
 by_cases hgt:j'<i'
 ·obtain⟨x,y,H5,H6,i1,j1,l1,l2,w1,w2,s1,j2,s2,hend⟩:=Ii true t H4 _ i' j' (by omega) (by omega) (by omega) pi2 sg1 hfr hrb
  refine aA (by simp [hgt]) (ak (aj (.inl rfl) ?_))
  simp [g0,g1,gj,i1,j1,l1,l2,w1,w2,s1,j2,s2,-aG,-bI]
  refine ak (aj (.inl rfl) ?_)
  simp [gj]
  exact aO (hQ _ _ (.t [vi j',vb true]) rfl (by simp [Km.results,bf]) ⟨j',true,rfl,hend⟩)
 refine ay (by simp [hgt]) (aF ?_)
 have ni:∀ x,(swp rows a v)[i']?=some x→¬ c x p<0:=by
  rcases hstop with h | h
  ·omega
  ·exact h
 have nj:∀ x,(swp rows a v)[j']?=some x→c x p<0:=by
  rcases AP with h | h
  ·omega
  ·exact fun x hx=>Classical.not_not.1 (h x hx)
 have hne:i'≠j':=by
  rintro rfl
  have hx:=ae (l:=swp rows a v) (i:=i') (by rw [EW];omega)
  exact ni _ hx (nj _ hx)
 obtain⟨x5,y5,H5,H6,-,-,i1,j1,l1,l2,w1,w2,s1,j2,s2,r5,f5⟩:=hrb.swp (grid sg1) (sg1.len.trans hn) (i:=i') (j:=j') (by omega) (by omega)
 refine ak (aj (.inl rfl) ?_)
 simp [g0,gi,gj,i1,j1,l1,l2,w1,w2,s1,j2,s2,-aG,-bI]
 refine ak (aj (.inl rfl) ?_)
 simp [gi,wrap64 (n:=(i':Int)+1) (by omega) (by omega)]
 refine ak (aj (.inl rfl) ?_)
 simp [gj,wrap64 (n:=(j':Int)-1) (by omega) (by omega)]
 refine ak ?_
 refine aH ?_
 refine bF (fun m s=>∃(i j:Nat) (t:T) (H1:Heap) (l:List (List FC)),s=⟨t,[],H1⟩∧m=j+1-i∧a<i∧i≤j+1∧j<d+1∧t.g 0=.c (.sl b 0 n 0 ep sz)∧t.g 1=vi a∧t.g 4=cv∧t.g 12=vi i∧t.g 13=vi j ∧
   Fm b H H1∧RB H1 b sz ep l∧Seg a (d+1) rows l∧CV c a i j (d+1) p l) _
  ⟨i'+1,j'-1,_,H6,_,rfl,rfl,by omega,by omega,by omega,by simp [g0],by simp [g1],by simp [g4],by simp,by simp;omega,hfr.trans f5,r5,
   sg1.trans (gZ (by omega) (by omega) (by omega) (by omega) (by rw [EW];omega)),pi2.swap (by omega) (by omega) (by rw [EW];omega) ni nj⟩ ?_
 rintro m s ⟨i,j,t,H1,l,rfl,rfl,hai,hij,hjd,g0,g1,g4,gi,gj,hfr,hrb,hsg,hpi⟩ ih
 have hlen:=hsg.len
 refine aH ?_
 refine ak ?_
 refine aiy hcv (hlen.trans hn) hl (grid hsg) (wall hsg) (i:=i) (j:=j) (e:=d+1) (H0:=H) hai hij hjd hen hpi.1 g0 g1 g4 gi gj hfr hrb ?_
 intro t H3 i' hi1 fH hstop g0 g1 g4 gi gj hfr hrb
 refine ak ?_
 refine aiA hcv (hlen.trans hn) hl (grid hsg) (wall hsg) (i:=i') (j:=j) (e:=d+1) (H0:=H) (by omega) (by omega) (by omega) hen hpi.1 g0 g1 g4 gi gj hfr hrb ?_
 intro t H4 j' hj1 AQ AP g0 g1 g4 gi gj hfr hrb
 have pi2:CV c a i' j' (d+1) p l:=⟨hpi.1,fun k x k1 k2 hx=>by
   by_cases hk:k<i
   ·exact hpi.2.1 k x k1 hk hx
   ·exact fH k x (by omega) k2 hx,fun k x k1 k2 hx=>by
   by_cases hk:j<k
   ·exact hpi.2.2 k x hk k2 hx
   ·exact AQ k x k1 (by omega) hx⟩
 refine ak ?_
 refine ak (aj (.inl rfl) ?_)
 simp [gi,gj]
 by_cases hgt:j'<i'
 ·obtain⟨x,y,H5,H6,i1,j1,l1,l2,w1,w2,s1,j2,s2,hend⟩:=Ii false t H4 _ i' j' (by omega) (by omega) (by omega) pi2 hsg hfr hrb
  refine aA (by simp [hgt]) ?_
  refine aZ (k':=[.code (PX σ sz)]) rfl ?_
  refine ak (aj (.inl rfl) ?_)
  simp [g0,g1,gj,i1,j1,l1,l2,w1,w2,s1,j2,s2,-aG,-bI]
  refine ak (aj (.inl rfl) ?_)
  simp [gj]
  exact aO (hQ _ _ (.t [vi j',vb false]) rfl (by simp [Km.results,bf]) ⟨j',false,rfl,hend⟩)
 refine ay (by simp [hgt]) (aF ?_)
 have ni:∀ x,l[i']?=some x→¬ c x p<0:=by
  rcases hstop with h | h
  ·omega
  ·exact h
 have nj:∀ x,l[j']?=some x→c x p<0:=by
  rcases AP with h | h
  ·omega
  ·exact fun x hx=>Classical.not_not.1 (h x hx)
 have hne:i'≠j':=by
  rintro rfl
  have hx:=ae (l:=l) (i:=i') (by omega)
  exact ni _ hx (nj _ hx)
 obtain⟨x5,y5,H5,H6,-,-,i1,j1,l1,l2,w1,w2,s1,j2,s2,r5,f5⟩:=hrb.swp (grid hsg) (hlen.trans hn) (i:=i') (j:=j') (by omega) (by omega)
 refine ak (aj (.inl rfl) ?_)
 simp [g0,gi,gj,i1,j1,l1,l2,w1,w2,s1,j2,s2,-aG,-bI]
 refine ak (aj (.inl rfl) ?_)
 simp [gi,wrap64 (n:=(i':Int)+1) (by omega) (by omega)]
 refine aj (.inl rfl) ?_
 simp [gj,wrap64 (n:=(j':Int)-1) (by omega) (by omega)]
 exact aI (ih _ _ (by omega) ⟨i'+1,j'-1,_,H6,_,rfl,rfl,by omega,by omega,by omega,by simp [g0],by simp [g1],by simp [g4],by simp,by simp;omega,hfr.trans f5,r5,
   hsg.trans (gZ (by omega) (by omega) (by omega) (by omega) (by omega)),pi2.swap (by omega) (by omega) (by omega) ni nj⟩)
end
end Km
end
section
namespace Km
open Go
section
variable{tab:Nat→Option AFunc}{σ:Srt}{sz:Nat}{cv:V}{W:List FC→Prop}{c:List FC→List FC→Int}
def TF(c:List FC→List FC→Int)(a i j e:Nat)(p:List FC)(l:List (List FC)):Prop:=
 l[a]?=some p∧(∀(k:Nat) x,a<k→k<i→l[k]?=some x→¬ c p x<0)∧(∀(k:Nat) x,j<k→k<e→l[k]?=some x→c p x<0)
theorem TF.swap{a i j e:Nat}{p:List FC}{l:List (List FC)}(h:TF c a i j e p l)(hai:a<i)(hij:i<j)(hjl:j<l.length)(hi:∀ x,l[i]?=some x→c p x<0)(hj:∀ x,l[j]?=some x→¬ c p x<0):TF c a (i+1) (j-1) e p (swp l i j):=by
 obtain⟨h0,h1,h2⟩:=h
 have g:∀ k,(swp l i j)[k]?=if k=j then l[i]? else if k=i then l[j]? else l[k]?:=fun k=>swp_get (by omega) hjl k
 refine⟨?_,fun k x k1 k2 hx=>?_,fun k x k1 k2 hx=>?_⟩
 ·rw [g,if_neg (by omega),if_neg (by omega)];exact h0
 ·rw [g,if_neg (by omega)]at hx
  by_cases e:k=i
  ·rw [if_pos e]at hx;exact hj x hx
  ·rw [if_neg e]at hx;exact h1 k x k1 (by omega) hx
 ·rw [g]at hx
  by_cases e:k=j
  ·rw [if_pos e]at hx;exact hi x hx
  ·rw [if_neg e,if_neg (by omega)]at hx;exact h2 k x (by omega) k2 hx
theorem aDG{H:Heap}{rows:List (List FC)}{n a e v b ep:Nat}{p:List FC}(hT:tab σ.peq=some (aio σ sz))(hcv:Cv tab cv W c)(hcm:Cmp W c)(hn:rows.length=n)(hl:n≤1000000000)(hrb:RB H b sz ep rows)(hg:Grid sz rows)(hW:∀ r ∈ rows,W r)(hae:a<e)(hen:e≤n)(hav:a≤v)(hve:v<e)(hpv:rows[v]?=some p) :
  ∃ r H',Ev tab (.fn σ.peq) [.c (.sl b 0 n 0 ep sz),vi a,vi e,vi v,cv] H r H'∧((∃(m:Nat),r=vi m∧a<m∧m≤e∧Fm b H H'∧∃ l',RB H' b sz ep l'∧Seg a e rows l'∧(∀(k:Nat) x,a≤k→k<m→l'[k]?=some x→¬ c p x<0)∧(∀(k:Nat) x,m≤k→k<e→l'[k]?=some x→c p x<0))):=by
 refine gu hT rfl fun Q hQ=>?_
 obtain⟨d,rfl⟩:∃ d,e=d+1:=⟨e-1,by omega⟩
 obtain⟨x,p',H1,H2,hx,hp',i1,j1,l1,l2,w1,w2,s1,j2,s2,r2,f2⟩:=hrb.swp hg hn (i:=a) (j:=v) (by omega) (by omega)
 obtain rfl:p=p':=by rw [hpv]at hp';exact c7 hp'
 have hself:¬ c p p<0:=fun h=>hcm.asym (hW _ (aD hpv)) (hW _ (aD hpv)) h h
 have sg1:Seg a (d+1) rows (swp rows a v):=gZ (by omega) (by omega) (by omega) (by omega) (by omega)
 have pi1:TF c a (a+1) d (d+1) p (swp rows a v):=by
  refine⟨?_,fun k x k1 k2=>by omega,fun k x k1 k2=>by omega⟩
  rw [swp_get (by omega) (by omega)]
  by_cases e:a=v
  ·rw [if_pos e,e];exact hpv
  ·rw [if_neg e,if_pos rfl];exact hpv
 refine ak (aj (.inl rfl) ?_)
 simp
 refine ak (aj (.inl rfl) ?_)
 simp [i1,j1,l1,l2,w1,w2,s1,j2,s2,-aG,-bI]
 refine ak (aj (.inl rfl) ?_)
 simp [wrap64 (n:=(a:Int)+1) (by omega) (by omega),wrap64 (n:=(d:Int)) (by omega) (by omega)]
 refine ak ?_
 have grid:∀ {l},Seg a (d+1) rows l→Grid sz l:=fun h=>h.grid hg
 have wall:∀ {l},Seg a (d+1) rows l→∀ r ∈ l,W r:=fun h r hr=>hW r (h.1.mem_iff.1 hr)
 refine aH ?_
 refine bF (fun m s=>∃(i j:Nat) (t:T) (H1:Heap) (l:List (List FC)),s=⟨t,[],H1⟩∧m=j+1-i∧a<i∧i≤j+1∧j<d+1∧t.g 0=.c (.sl b 0 n 0 ep sz)∧t.g 1=vi a∧t.g 4=cv∧t.g 11=vi i∧t.g 12=vi j ∧
   Fm b H H1∧RB H1 b sz ep l∧Seg a (d+1) rows l∧TF c a i j (d+1) p l) _
  ⟨a+1,d,_,H2,_,rfl,rfl,by omega,by omega,by omega,by simp,by simp,by simp,by simp,by simp,f2,r2,sg1,pi1⟩ ?_
 rintro m s ⟨i,j,t,H1,l,rfl,rfl,hai,hij,hjd,g0,g1,g4,gi,gj,hfr,hrb,hsg,hpi⟩ ih
 have hlen:=hsg.len
 refine aH ?_
 refine ak ?_
 refine aDF hcv (hlen.trans hn) hl (grid hsg) (wall hsg) (i:=i) (j:=j) (e:=d+1) (H0:=H) hai hij hjd hen hpi.1 g0 g1 g4 gi gj hfr hrb ?_
 intro t H3 i' hi1 fH hstop g0 g1 g4 gi gj hfr hrb
 refine ak ?_
 refine aDH hcv (hlen.trans hn) hl (grid hsg) (wall hsg) (i:=i') (j:=j) (e:=d+1) (H0:=H) (by omega) (by omega) (by omega) hen hpi.1 g0 g1 g4 gi gj hfr hrb ?_
 intro t H4 j' hj1 AQ AP g0 g1 g4 gi gj hfr hrb
 have pi2:TF c a i' j' (d+1) p l:=⟨hpi.1,fun k x k1 k2 hx=>by
   by_cases hk:k<i
   ·exact hpi.2.1 k x k1 hk hx
   ·exact fH k x (by omega) k2 hx,fun k x k1 k2 hx=>by
   by_cases hk:j<k
   ·exact hpi.2.2 k x hk k2 hx
   ·exact AQ k x k1 (by omega) hx⟩
 refine ak ?_
 refine ak (aj (.inl rfl) ?_)
 simp [gi,gj]
 by_cases hgt:j'<i'
 ·refine aA (by simp [hgt]) ?_
  refine aZ (k':=[.code (aip σ sz)]) rfl ?_
  refine ak (aj (.inl rfl) ?_)
  simp [gi]
  refine aO (hQ _ _ (vi i') rfl (by simp [Km.results,bf]) ⟨i',rfl,by omega,by omega,hfr,l,hrb,hsg,fun q z k1 k2 hz=>?_,fun q z k1 k2 hz=>pi2.2.2 q z (by omega) k2 hz⟩)
  by_cases e:q=a
  ·rw [e,pi2.1]at hz;cases hz;exact hself
  ·exact pi2.2.1 q z (by omega) k2 hz
 refine ay (by simp [hgt]) (aF ?_)
 have ni:∀ x,l[i']?=some x→c p x<0:=by
  rcases hstop with h | h
  ·omega
  ·exact fun x hx=>Classical.not_not.1 (h x hx)
 have nj:∀ x,l[j']?=some x→¬ c p x<0:=by
  rcases AP with h | h
  ·omega
  ·exact h
 have hne:i'≠j':=by
  rintro rfl
  have hx:=ae (l:=l) (i:=i') (by omega)
  exact nj _ hx (ni _ hx)
 obtain⟨x5,y5,H5,H6,-,-,i1,j1,l1,l2,w1,w2,s1,j2,s2,r5,f5⟩:=hrb.swp (grid hsg) (hlen.trans hn) (i:=i') (j:=j') (by omega) (by omega)
 refine ak (aj (.inl rfl) ?_)
 simp [g0,gi,gj,i1,j1,l1,l2,w1,w2,s1,j2,s2,-aG,-bI]
 refine ak (aj (.inl rfl) ?_)
 simp [gi,wrap64 (n:=(i':Int)+1) (by omega) (by omega)]
 refine aj (.inl rfl) ?_
 simp [gj,wrap64 (n:=(j':Int)-1) (by omega) (by omega)]
 exact aI (ih _ _ (by omega) ⟨i'+1,j'-1,_,H6,_,rfl,rfl,by omega,by omega,by omega,by simp [g0],by simp [g1],by simp [g4],by simp,by simp;omega,hfr.trans f5,r5,
   hsg.trans (gZ (by omega) (by omega) (by omega) (by omega) (by omega)),pi2.swap (by omega) (by omega) (by omega) ni nj⟩)
end
end Km
end
section
namespace Km
open Go
section
variable{tab:Nat→Option AFunc}{σ:Srt}{sz:Nat}{cv:V}{W:List FC→Prop}{c:List FC→List FC→Int}
def Low(c:List FC→List FC→Int)(a e:Nat)(l:List (List FC)):Prop:=∀ k,0<a→a≤k→k<e→LeI c l (a-1) k
theorem Low.seg{a e a' e':Nat}{l l':List (List FC)}(h:Low c a e l)(hs:Seg a' e' l l')(h1:a≤a')(h2:e'≤e)(he:a'≤e')(hl:e'≤l.length):Low c a e l':=by
 intro k h0 k1 k2 x y hx hy
 rw [hs.lt (by omega)]at hx
 by_cases c1:k<a'
 ·rw [hs.lt c1]at hy
  exact h k h0 k1 k2 x y hx hy
 by_cases c2:e'≤k
 ·rw [hs.ge c2]at hy
  exact h k h0 k1 k2 x y hx hy
 obtain⟨j,j1,j2,hj⟩:=hs.mem he hl (by omega) (by omega) hy
 exact h j h0 (by omega) (by omega) x y hx hj
theorem Low.mono{a e e':Nat}{l:List (List FC)}(h:Low c a e l)(he:e'≤e):Low c a e' l:=fun k h0 k1 k2=>h k h0 k1 (by omega)
theorem Q9{n a e i ep b:Nat}{rows:List (List FC)}{H0:Heap}{g10:V}{k:List cu}{Q:Option ah→St→Prop}(hcv:Cv tab cv W c)(hc:Cmp W c)(hn:rows.length=n)(hl:n≤1000000000)(hg:Grid sz rows)(hW:∀ r ∈ rows,W r)
  {t:T} {H:Heap} (hai:a<i) (hie:i≤e) (hen:e≤n) (hup:Up c a i rows)
  (g0:t.g 0=.c (.sl b 0 n 0 ep sz)) (g1:t.g 1=vi a) (g2:t.g 2=vi e) (g3:t.g 3=cv) (gi:t.g 9=vi i) (gj:t.g 10=g10) (hfr:Fm b H0 H) (hrb:RB H b sz ep rows)
  (next:∀(t:T) (H:Heap) (i':Nat),(i≤i'∧i'≤e)→Up c a i' rows→(i'=e∨∀ x y,rows[i']?=some x→rows[i'-1]?=some y→c x y<0) →
   t.g 0=.c (.sl b 0 n 0 ep sz)→t.g 1=vi a→t.g 2=vi e→t.g 3=cv→t.g 9=vi i'→t.g 10=g10→Fm b H0 H→RB H b sz ep rows→WP tab σ.pins none k ⟨t,[],H⟩ Q) :
  WP tab σ.pins none (.code (PV σ sz)::k) ⟨t,[],H⟩ Q:=by
 refine aH ?_
 refine bF (fun m s=>∃(q:Nat) (t:T) (H1:Heap),s=⟨t,[],H1⟩∧(q+m=e∧i≤q)∧Up c a q rows ∧
   t.g 0=.c (.sl b 0 n 0 ep sz)∧t.g 1=vi a∧t.g 2=vi e∧t.g 3=cv∧t.g 9=vi q∧t.g 10=g10∧Fm b H0 H1∧RB H1 b sz ep rows) (e-i)
  ⟨i,_,H,rfl,by omega,hup,g0,g1,g2,g3,gi,gj,hfr,hrb⟩ ?_
 rintro m s ⟨q,t,H1,rfl,hm,hup,g0,g1,g2,g3,gi,gj,hfr,hrb⟩ ih
 refine ak ?_
 refine ak (aj (.inl rfl) ?_)
 by_cases hlt:q<e
 case neg=>
  simp [gi,g2,hlt]
  refine ay (by simp) ?_
  refine aZ (k':=k) rfl ?_
  exact next _ _ q (by omega) hup (.inl (by omega)) (by simp [g0]) (by simp [g1]) (by simp [g2]) (by simp [g3]) (by simp [gi]) (by simp [gj]) hfr hrb
 obtain⟨d,rfl⟩:∃ d,q=d+1:=⟨q-1,by omega⟩
 obtain⟨x,y,F,ar,J,hx,hy,i1,j1,l1,l2,fD,he,-,-⟩:=hrb.ask hg hcv hW hn (i:=d+1) (j:=d) (by omega) (by omega)
 have c1:((d+1:Nat):Int)=(d:Int)+1:=by omega
 have hlt':(d:Int)+1<(e:Int):=by omega
 rw [c1]at i1 gi
 simp [gi,g2,hlt',g0,g3,i1,j1,l1,l2,fD,he,-aG,wrap64 (n:=(d:Int)) (by omega) (by omega)]
 by_cases hc2:c x y<0
 case pos=>
  refine ay (by simp [hc2]) ?_
  refine aZ (k':=k) rfl ?_
  refine next _ _ (d+1) (by omega) hup (.inr fun z w hz hw=>?_) (by simp [g0]) (by simp [g1]) (by simp [g2]) (by simp [g3]) (by simp [gi]) (by simp [gj]) (hfr.trans (Fm.push _ _)) (hrb.push _)
  rw [hx]at hz;cases hz
  rw [show d+1-1=d by omega,hy]at hw;cases hw;exact hc2
 refine aA (by simp [hc2]) (aF ?_)
 refine aH (aj (.inl rfl) ?_)
 simp [gi,wrap64 (n:=(d:Int)+1+1) (by omega) (by omega)]
 refine aI (ih (m-1) _ (by omega) ⟨d+1+1,_,_,rfl,by omega,?_,by simp [g0],by simp [g1],by simp [g2],by simp [g3],by simp,by simp [gj],hfr.trans (Fm.push _ _),hrb.push _⟩)
 exact(Ins.start hup).stop hc hW (by omega) (aw _) (by omega) (LeI.of_le hy hx hc2)
theorem Rf{n a e i j ep b:Nat}{rows:List (List FC)}{H0:Heap}{g10:V}{k:List cu}{Q:Option ah→St→Prop}(hcv:Cv tab cv W c)(hc:Cmp W c)(hn:rows.length=n)(hl:n≤1000000000)(hg:Grid sz rows)(hW:∀ r ∈ rows,W r)
  {t:T} {H:Heap} (haj:a≤j) (hji:j=i) (hie:i<e) (hen:e≤n) (hlow:Low c a e rows) (hins:Ins c a i j rows)
  (g0:t.g 0=.c (.sl b 0 n 0 ep sz)) (g1:t.g 1=vi a) (g2:t.g 2=vi e) (g3:t.g 3=cv) (g9:t.g 9=vi (i+1:Nat)) (gc:t.g 10=g10) (gj:t.g 11=vi j) (hfr:Fm b H0 H) (hrb:RB H b sz ep rows)
  (next:∀(t:T) (H:Heap) (l:List (List FC)),Seg a e rows l→Up c a (i+1) l →
   t.g 0=.c (.sl b 0 n 0 ep sz)→t.g 1=vi a→t.g 2=vi e→t.g 3=cv→t.g 9=vi (i+1:Nat)→t.g 10=g10→Fm b H0 H→RB H b sz ep l→WP tab σ.pins none k ⟨t,[],H⟩ Q) :
  WP tab σ.pins none (.code (PU σ sz)::k) ⟨t,[],H⟩ Q:=by
 refine aH ?_
 refine bF (fun m s=>∃(j:Nat) (t:T) (H1:Heap) (l:List (List FC)),s=⟨t,[],H1⟩∧j=m∧a≤j∧j≤i∧t.g 0=.c (.sl b 0 n 0 ep sz)∧t.g 1=vi a∧t.g 2=vi e∧t.g 3=cv∧t.g 9=vi (i+1:Nat)∧t.g 10=g10∧t.g 11=vi j ∧
   Fm b H0 H1∧RB H1 b sz ep l∧Seg a e rows l∧Ins c a i j l) j
  ⟨j,_,H,rows,rfl,rfl,haj,by omega,g0,g1,g2,g3,g9,gc,gj,hfr,hrb,Seg.refl _ _ _,hins⟩ ?_
 rintro m s ⟨j,t,H1,l,rfl,rfl,haj,hji,g0,g1,g2,g3,g9,gc,gj,hfr,hrb,hseg,hins⟩ ih
 have hlen:=hseg.len
 have hg2:=hseg.grid hg
 have hW2:∀ r ∈ l,W r:=fun r hr=>hW r (hseg.1.mem_iff.1 hr)
 have hlow2:Low c a e l:=hlow.seg hseg (aw _) (aw _) (by omega) (by omega)
 refine ak ?_
 refine ak (aj (.inl rfl) ?_)
 by_cases hj0:j=0
 ·subst hj0
  obtain rfl:a=0:=by omega
  simp [gj]
  refine ay (by simp) ?_
  refine aZ (k':=k) rfl ?_
  exact next _ _ l hseg hins.front (by simp [g0]) (by simp [g1]) (by simp [g2]) (by simp [g3]) (by simp [g9]) (by simp [gc]) hfr hrb
 obtain⟨d,rfl⟩:∃ d,j=d+1:=⟨j-1,by omega⟩
 obtain⟨x,y,F,ar,J,hx,hy,i1,j1,l1,l2,fD,he,-,-⟩:=hrb.ask hg2 hcv hW2 (hlen.trans hn) (i:=d+1) (j:=d) (by omega) (by omega)
 have c1:((d+1:Nat):Int)=(d:Int)+1:=by omega
 have hge:(1:Int)≤(d:Int)+1:=by omega
 rw [c1]at i1 gj
 simp [gj,hge]
 refine aA (by simp) (aF ?_)
 refine ak ?_
 refine aH ?_
 refine ak ?_
 refine ak (aj (.inl rfl) ?_)
 simp [gj,g0,g3,i1,j1,l1,l2,fD,he,-aG,wrap64 (n:=(d:Int)) (by omega) (by omega)]
 by_cases hc2:c x y<0
 case neg=>
  refine aA (by simp [hc2]) ?_
  refine aZ (k':=k) rfl ?_
  refine next _ _ l hseg ?_ (by simp [g0]) (by simp [g1]) (by simp [g2]) (by simp [g3]) (by simp [g9]) (by simp [gc]) (hfr.trans (Fm.push _ _)) (hrb.push _)
  by_cases ha:d+1=a
  ·subst ha;exact hins.front
  ·exact hins.stop hc hW2 (by omega) hji (by omega) (LeI.of_le hy hx hc2)
 have had:a≤d:=by
  rcases Nat.lt_or_ge d a with h | h
  ·obtain rfl:a=d+1:=by omega
   exact absurd hc2 (hlow2 (d+1) (by omega) (aw _) (by omega) y x (by simpa using hy) hx)
  ·exact h
 refine ay (by simp [hc2]) (aF ?_)
 obtain⟨x5,y5,H5,H6,-,-,i5,j5,l5,l6,w5,w6,s5,j6,s6,r6,f6⟩:=(hrb.push J).swp hg2 (hlen.trans hn) (i:=d+1) (j:=d) (by omega) (by omega)
 rw [c1]at i5
 refine aj (.inl rfl) ?_
 simp [g0,gj,i5,j5,l5,l6,w5,w6,s5,j6,s6,-aG,-bI,wrap64 (n:=(d:Int)) (by omega) (by omega)]
 refine aI ?_
 refine aj (.inl rfl) ?_
 simp [gj,wrap64 (n:=(d:Int)) (by omega) (by omega)]
 exact ih d _ (by omega) ⟨d,_,H6,swp l (d+1) d,rfl,rfl,had,by omega,by simp [g0],by simp [g1],by simp [g2],by simp [g3],by simp [g9],by simp [gc],by simp,(hfr.trans (Fm.push _ _)).trans f6,r6,
  hseg.trans (gZ (by omega) (by omega) (by omega) (by omega) (by omega)),hins.step hc hW2 (by omega) hji (by omega) hx hy hc2⟩
theorem KX{n a e i ep b:Nat}{rows:List (List FC)}{H0:Heap}{g10:V}{k:List cu}{Q:Option ah→St→Prop}(hcv:Cv tab cv W c)(hn:rows.length=n)(hl:n≤1000000000)(hg:Grid sz rows)(hW:∀ r ∈ rows,W r)
  {t:T} {H:Heap} (hie:i<e) (hen:e≤n)
  (g0:t.g 0=.c (.sl b 0 n 0 ep sz)) (g1:t.g 1=vi a) (g2:t.g 2=vi e) (g3:t.g 3=cv) (g9:t.g 9=vi i) (gc:t.g 10=g10) (gj:t.g 12=vi (i+1:Nat)) (hfr:Fm b H0 H) (hrb:RB H b sz ep rows)
  (next:∀(t:T) (H:Heap) (l:List (List FC)),Seg i e rows l →
   t.g 0=.c (.sl b 0 n 0 ep sz)→t.g 1=vi a→t.g 2=vi e→t.g 3=cv→t.g 9=vi i→t.g 10=g10→Fm b H0 H→RB H b sz ep l→WP tab σ.pins none k ⟨t,[],H⟩ Q) :
  WP tab σ.pins none (.code (PO σ sz)::k) ⟨t,[],H⟩ Q:=by
 refine aH ?_
 refine bF (fun m s=>∃(d:Nat) (t:T) (H1:Heap) (l:List (List FC)),s=⟨t,[],H1⟩∧d+1+m=e∧i≤d∧t.g 0=.c (.sl b 0 n 0 ep sz)∧t.g 1=vi a∧t.g 2=vi e∧t.g 3=cv∧t.g 9=vi i∧t.g 10=g10∧t.g 12=vi (d+1:Nat) ∧
   Fm b H0 H1∧RB H1 b sz ep l∧Seg i e rows l) (e-(i+1))
  ⟨i,_,H,rows,rfl,by omega,aw _,g0,g1,g2,g3,g9,gc,gj,hfr,hrb,Seg.refl _ _ _⟩ ?_
 rintro m s ⟨d,t,H1,l,rfl,hm,hid,g0,g1,g2,g3,g9,gc,gj,hfr,hrb,hseg⟩ ih
 have hlen:=hseg.len
 have hg2:=hseg.grid hg
 have hW2:∀ r ∈ l,W r:=fun r hr=>hW r (hseg.1.mem_iff.1 hr)
 have c1:((d+1:Nat):Int)=(d:Int)+1:=by omega
 rw [c1]at gj
 refine ak ?_
 refine ak (aj (.inl rfl) ?_)
 by_cases hlt:d+1<e
 case neg=>
  have hlt':¬ ((d:Int)+1<(e:Int)):=by omega
  simp [gj,g2,hlt']
  refine ay (by simp) ?_
  refine aZ (k':=k) rfl ?_
  exact next _ _ l hseg (by simp [g0]) (by simp [g1]) (by simp [g2]) (by simp [g3]) (by simp [g9]) (by simp [gc]) hfr hrb
 have hlt':(d:Int)+1<(e:Int):=by omega
 simp [gj,g2,hlt']
 refine aA (by simp) (aF ?_)
 obtain⟨x,y,F,ar,J,hx,hy,i1,j1,l1,l2,fD,he,-,-⟩:=hrb.ask hg2 hcv hW2 (hlen.trans hn) (i:=d+1) (j:=d) (by omega) (by omega)
 rw [c1]at i1
 refine ak ?_
 refine aH ?_
 refine ak ?_
 refine ak (aj (.inl rfl) ?_)
 simp [gj,g0,g3,i1,j1,l1,l2,fD,he,-aG,wrap64 (n:=(d:Int)) (by omega) (by omega)]
 by_cases hc2:c x y<0
 case neg=>
  refine aA (by simp [hc2]) ?_
  refine aZ (k':=k) rfl ?_
  exact next _ _ l hseg (by simp [g0]) (by simp [g1]) (by simp [g2]) (by simp [g3]) (by simp [g9]) (by simp [gc]) (hfr.trans (Fm.push _ _)) (hrb.push _)
 refine ay (by simp [hc2]) (aF ?_)
 obtain⟨x5,y5,H5,H6,-,-,i5,j5,l5,l6,w5,w6,s5,j6,s6,r6,f6⟩:=(hrb.push J).swp hg2 (hlen.trans hn) (i:=d+1) (j:=d) (by omega) (by omega)
 rw [c1]at i5
 refine aj (.inl rfl) ?_
 simp [g0,gj,i5,j5,l5,l6,w5,w6,s5,j6,s6,-aG,-bI,wrap64 (n:=(d:Int)) (by omega) (by omega)]
 refine aI ?_
 refine aj (.inl rfl) ?_
 simp [gj,wrap64 (n:=(d:Int)+1+1) (by omega) (by omega)]
 exact ih (m-1) _ (by omega) ⟨d+1,_,H6,swp l (d+1) d,rfl,by omega,by omega,by simp [g0],by simp [g1],by simp [g2],by simp [g3],by simp [g9],by simp [gc],by simp,(hfr.trans (Fm.push _ _)).trans f6,r6,
  hseg.trans (gZ (by omega) (by omega) (by omega) (by omega) (by omega))⟩
theorem auL{H:Heap}{rows:List (List FC)}{n a e b ep:Nat}(hT:tab σ.pins=some (KY σ sz))(hcv:Cv tab cv W c)(hc:Cmp W c)(hn:rows.length=n)(hl:n≤1000000000)(hrb:RB H b sz ep rows)(hg:Grid sz rows)(hW:∀ r ∈ rows,W r)(hae:a<e)(hen:e≤n)(hlow:Low c a e rows) :
  ∃ r H',Ev tab (.fn σ.pins) [.c (.sl b 0 n 0 ep sz),vi a,vi e,cv] H r H'∧((∃ w:Bool,r=vb w∧Fm b H H'∧∃ l',RB H' b sz ep l'∧Seg a e rows l'∧(w=true→Up c a e l'))):=by
 refine gu hT rfl fun Q hQ=>?_
 refine ak (aj (.inl rfl) ?_)
 simp
 refine ak (aj (.inl rfl) ?_)
 simp [wrap64 (n:=(a:Int)+1) (by omega) (by omega)]
 refine ak ?_
 refine ak (aj (.inl rfl) ?_)
 simp
 refine aH ?_
 refine bF (fun m s=>∃(i g:Nat) (t:T) (H1:Heap) (l:List (List FC)),s=⟨t,[],H1⟩∧g+m=5∧a<i∧i≤e∧t.g 0=.c (.sl b 0 n 0 ep sz)∧t.g 1=vi a∧t.g 2=vi e∧t.g 3=cv∧t.g 9=vi i∧t.g 10=vi g ∧
   Fm b H H1∧RB H1 b sz ep l∧Seg a e rows l∧Up c a i l) 5
  ⟨a+1,0,_,H,rows,rfl,rfl,by omega,by omega,by simp,by simp,by simp,by simp,by simp,by simp,Fm.refl H,hrb,Seg.refl _ _ _,Up.one (by omega)⟩ ?_
 rintro m s ⟨i,g,t,H1,l,rfl,hm,hai,hie,g0,g1,g2,g3,g9,gc,hfr,hrb,hseg,hup⟩ ih
 refine ak ?_
 refine ak (aj (.inl rfl) ?_)
 simp [gc]
 by_cases h5:g<5
 case neg=>
  have h5':¬ ((g:Int)<5):=by omega
  refine ay (by simp [h5']) ?_
  refine aZ (k':=[.code (zq σ sz)]) rfl ?_
  refine ak (aj (.inl rfl) ?_)
  simp
  exact aO (hQ _ _ (vb false) rfl (by simp [Km.results,bf]) ⟨false,rfl,hfr,l,hrb,hseg,fun h=>nomatch h⟩)
 have h5':(g:Int)<5:=by omega
 refine aA (by simp [h5']) (aF ?_)
 refine ak ?_
 refine aH ?_
 refine ak ?_
 have hlen:=hseg.len
 have grid:∀ {l},Seg a e rows l→Grid sz l:=fun h=>h.grid hg
 have wall:∀ {l},Seg a e rows l→∀ r ∈ l,W r:=fun h r hr=>hW r (h.1.mem_iff.1 hr)
 refine Q9 hcv hc (hlen.trans hn) hl (grid hseg) (wall hseg) (H0:=H) hai hie hen hup (by simp [g0]) (by simp [g1]) (by simp [g2]) (by simp [g3]) (by simp [g9]) (by simp [gc];rfl) hfr hrb ?_
 intro t H2 i' hi hup hstop g0 g1 g2 g3 g9 gc hfr hrb
 refine ak ?_
 refine ak (aj (.inl rfl) ?_)
 simp [g9,g2]
 by_cases aLi:i'=e
 ·subst aLi
  refine aA (by simp) ?_
  refine ak (aj (.inl rfl) ?_)
  simp
  exact aO (hQ _ _ (vb true) rfl (by simp [Km.results,bf]) ⟨true,rfl,hfr,l,hrb,hseg,fun _=>hup⟩)
 refine ay (by simp [aLi]) (aF ?_)
 refine ak ?_
 refine ak (aj (.inl rfl) ?_)
 simp [g1,g2,wrap64 (n:=(e:Int)-a) (by omega) (by omega)]
 by_cases h50:(e:Int)-a<50
 ·refine aA (by simp;omega) ?_
  refine ak (aj (.inl rfl) ?_)
  simp
  exact aO (hQ _ _ (vb false) rfl (by simp [Km.results,bf]) ⟨false,rfl,hfr,l,hrb,hseg,fun h=>nomatch h⟩)
 refine ay (by simp;omega) (aF ?_)
 obtain⟨d,rfl⟩:∃ d,i'=d+1:=⟨i'-1,by omega⟩
 have c1:((d+1:Nat):Int)=(d:Int)+1:=by omega
 obtain⟨x5,y5,H5,H6,hx5,hy5,i5,j5,l5,l6,w5,w6,s5,j6,s6,r6,f6⟩:=hrb.swp (grid hseg) (hlen.trans hn) (i:=d+1) (j:=d) (by omega) (by omega)
 have aSQ:c x5 y5<0:=by
  rcases hstop with h | h
  ·omega
  ·exact h x5 y5 hx5 (by simpa using hy5)
 have sg1:Seg a e rows (swp l (d+1) d):=hseg.trans (gZ (by omega) (by omega) (by omega) (by omega) (by omega))
 rw [c1]at i5 g9
 refine ak (aj (.inl rfl) ?_)
 simp [g0,g9,i5,j5,l5,l6,w5,w6,s5,j6,s6,-aG,-bI,wrap64 (n:=(d:Int)) (by omega) (by omega)]
 have fin:∀(t:T) (H3:Heap) (l3:List (List FC)),t.g 0=.c (.sl b 0 n 0 ep sz)→t.g 1=vi a→t.g 2=vi e→t.g 3=cv→t.g 9=vi (d+1:Nat)→t.g 10=vi g→Fm b H H3→RB H3 b sz ep l3→Seg a e rows l3→Up c a (d+1) l3 →
   WP tab σ.pins none [.inBlock 1,.code (Fz σ sz),.inLoop (KZ σ sz),.inBlock 0,.code (zq σ sz)] ⟨t,[],H3⟩ Q:=by
  intro t H3 l3 g0 g1 g2 g3 g9 gc hfr hrb hseg hup
  refine aI (aj (.inl rfl) ?_)
  simp [gc,wrap64 (n:=(g:Int)+1) (by omega) (by omega)]
  exact ih (m-1) _ (by omega) ⟨d+1,g+1,_,H3,l3,rfl,by omega,by omega,by omega,by simp [g0],by simp [g1],by simp [g2],by simp [g3],by simp [g9],by simp,hfr,hrb,hseg,hup⟩
 have right:∀(t:T) (H3:Heap) (l3:List (List FC)),t.g 0=.c (.sl b 0 n 0 ep sz)→t.g 1=vi a→t.g 2=vi e→t.g 3=cv→t.g 9=vi (d+1:Nat)→t.g 10=vi g→Fm b H H3→RB H3 b sz ep l3→Seg a e rows l3→Up c a (d+1) l3 →
   WP tab σ.pins none [.code (PS σ sz),.inBlock 1,.code (Fz σ sz),.inLoop (KZ σ sz),.inBlock 0,.code (zq σ sz)] ⟨t,[],H3⟩ Q:=by
  intro t H3 l3 g0 g1 g2 g3 g9 gc hfr hrb hseg hup
  have hlen:=hseg.len
  rw [c1]at g9
  refine ak ?_
  refine aj (.inl rfl) ?_
  simp [g9,g2,wrap64 (n:=(e:Int)-((d:Int)+1)) (by omega) (by omega)]
  by_cases h2:(2:Int)≤(e:Int)-((d:Int)+1)
  case neg=>
   refine ay (by simp;omega) (aF ?_)
   exact fin _ H3 l3 (by simp [g0]) (by simp [g1]) (by simp [g2]) (by simp [g3]) (by simp [g9]) (by simp [gc]) hfr hrb hseg hup
  refine aA (by simp;omega) ?_
  refine ak (aj (.inl rfl) ?_)
  simp [g9,wrap64 (n:=(d:Int)+1+1) (by omega) (by omega)]
  refine KX hcv (hlen.trans hn) hl (grid hseg) (wall hseg) (H0:=H) (a:=a) (i:=d+1) (e:=e) (g10:=vi g) (by omega) hen (by simp [g0]) (by simp [g1]) (by simp [g2]) (by simp [g3]) (by simp [g9]) (by simp [gc]) (by simp) hfr hrb ?_
  intro t H4 l4 sg4 g0 g1 g2 g3 g9 gc hfr hrb
  exact fin t H4 l4 g0 g1 g2 g3 g9 gc hfr hrb (hseg.trans (sg4.mono (by omega) (aw _))) (hup.of fun k _ hk=>sg4.lt hk)
 refine ak ?_
 refine ak (aj (.inl rfl) ?_)
 simp [g9,g1,wrap64 (n:=(d:Int)+1-a) (by omega) (by omega)]
 by_cases h2:(2:Int)≤(d:Int)+1-a
 case neg=>
  refine ay (by simp;omega) (aF ?_)
  exact right _ H6 _ (by simp [g0]) (by simp [g1]) (by simp [g2]) (by simp [g3]) (by simp [g9]) (by simp [gc]) (hfr.trans f6) r6 sg1 (Up.one (by omega))
 refine aA (by simp;omega) ?_
 refine ak (aj (.inl rfl) ?_)
 simp [g9,wrap64 (n:=(d:Int)) (by omega) (by omega)]
 have hl1:=sg1.len
 refine Rf hcv hc (hl1.trans hn) hl (grid sg1) (wall sg1) (H0:=H) (a:=a) (i:=d) (j:=d) (e:=e) (g10:=vi g) (by omega) rfl (by omega) hen (hlow.seg sg1 (aw _) (aw _) (by omega) (by omega)) ?_ (by simp [g0]) (by simp [g1]) (by simp [g2]) (by simp [g3]) (by simp [g9]) (by simp [gc]) (by simp) (hfr.trans f6) r6 ?_
 ·intro p q h1 h2 h3 h4
  have g:∀ k,k<d→(swp l (d+1) d)[k]?=l[k]?:=fun k hk=>by rw [swp_get (by omega) (by omega),if_neg (by omega),if_neg (by omega)]
  exact LeI.get (fun x y=>hup p q x y h1 h2 (by omega)) (g p (by omega)) (g q (by omega))
 intro t H4 l4 sg4 up4 g0 g1 g2 g3 g9 gc hfr hrb
 exact right t H4 l4 g0 g1 g2 g3 g9 gc hfr hrb (sg1.trans sg4) up4
end
end Km
end
