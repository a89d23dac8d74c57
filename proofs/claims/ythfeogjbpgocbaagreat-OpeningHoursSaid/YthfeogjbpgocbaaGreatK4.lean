/-
  Our own small machine for Go code by value, held against the model: part 4. No program in sight.
-/
import Derived.Test.YthfeogjbpgocbaaGreatK3
import Derived.ChangeArms
import Derived.DataReads
import Derived.Deep.Slices
import Derived.ProofKit
import Derived.RowKit3
import Derived.Below
import Derived.Carry
import Derived.Laws.IdiomArrays
open Option renaming map_eq_some_iff → an, bind_eq_some_iff → bN
open List renaming findIdx?_eq_some_iff_getElem → d7, getElem_mem → av, getElem?_eq_getElem → ae, getElem?_eq_some_iff → al, cons_append → de, length_cons → cP, mem_cons_self → aR, flatten_cons → cw, set_cons_succ → d5, mem_cons_of_mem → bh, getElem?_append_left → ai, getElem?_append_right → bE, take_append_drop → cX, append_nil → c5, take_of_length_le → bA, length_drop → cK, mem_map → cq, getElem?_map → cQ, mem_of_getElem? → aD, getElem?_of_mem → cE, mem_cons → cL, mem_append_left → cU, getElem?_set_ne → ag, append_assoc → cY, take_append_of_le_length → cC, length_map → ba, getElem?_set_self → ax, getElem?_take → bX, getElem?_drop → bk, length_eq_zero_iff → cA, nil_append → dx
open Nat renaming add_mul → b5, mul_le_mul_right → cF, le_refl → aw, le_max_left → bO, le_max_right → bw, le_trans → bz, lt_of_lt_of_le → cG, zero_add → cH
open Bool renaming and_eq_true → am
open Option.some renaming injEq → ab, inj → dk
set_option linter.unusedVariables false
set_option linter.unusedSimpArgs false
set_option linter.unusedSectionVars false
section
namespace Km
open Go
def Kf(tab:Nat→Option AFunc)(f:Nat)(args:List V)(r:V):Prop:=∀ H,∃ J,Ev tab (.fn f) args H r (H++J)
section
variable{tab:Nat→Option AFunc}{f:Nat}{args:List V}{r:V}
theorem Kf.pure{x:FC}(h:Kf tab f args (.c (.f x))):Pure tab f args (.c (.f x)):=by
 obtain⟨J,h⟩:=h []
 exact⟨_,_,h,by simp⟩
theorem Kf.eq{x:FC}(h:Kf tab f args (.c (.f x))):Pure tab f args=Eq (.c (.f x)):=
 funext fun r=>propext ⟨fun k=>h.pure.det k,fun e=>e▸h.pure⟩
theorem Pure.eq{r:V}(h:Pure tab f args r):Pure tab f args=Eq r:=funext fun _=>propext ⟨fun k=>h.det k,fun e=>e▸h⟩
noncomputable def junk (tab:Nat→Option AFunc) (f:Nat) (args:List V) (H:Heap):Heap:=Classical.epsilon fun J=>∃ r,Ev tab (.fn f) args H r (H++J)
theorem Kf.ev(h:Kf tab f args r)(H:Heap):Ev tab (.fn f) args H=E2 r (H++junk tab f args H):=by
 have hj:∃ J,∃ r,Ev tab (.fn f) args H r (H++J):=by obtain⟨J,hJ⟩:=h H;exact⟨J,r,hJ⟩
 have hs:∃ r,Ev tab (.fn f) args H r (H++junk tab f args H):=Classical.epsilon_spec hj
 obtain⟨J,hJ⟩:=h H
 obtain⟨r',hr⟩:=hs
 obtain⟨rfl,e⟩:=hJ.det hr
 funext x H'
 exact propext ⟨fun k=>hr.det k,fun⟨e1,e2⟩=>e1▸e2▸hr⟩
theorem Ev.eq{c:Callee}{H H':Heap}(h:Ev tab c args H r H'):Ev tab c args H=E2 r H':=funext fun _=>funext fun _=>propext ⟨fun k=>h.det k,fun⟨e1,e2⟩=>e1▸e2▸h⟩
def aBv(res:List l9)(r:V)(H:Heap)(s:St):Prop:=s.defs=[]∧results s.regs s.heap res=some r∧∃ J,s.heap=H++J
theorem jk{ps:List P}{res:List l9}{body:ah}(ht:tab f=some ⟨ps,res,body⟩)(hl:args.length=ps.length)
  (h:∀(H:Heap) (Q:Option ah→St→Prop),(∀ j s,aBv res r H s→Q j s)→WP tab f none [.code body] ⟨dK ps args .e,[],H⟩ Q):Kf tab f args r:=by
 intro H
 have h':=h H (fun _ s=>aBv res r H s) fun _ _ h=>h
 obtain⟨n,m,d,j,s,h1,hd,h2,J,h3⟩:=h'
 exact⟨J,EJ ht hl ⟨n,m,d,j,s,h1,0,0,s.heap,by rw [hd];rfl,by rw [h2],h3⟩⟩
@[simp] theorem aO6 {t:T} {H H':Heap} {x:l9}:aBv [x] r H ⟨t,[],H'⟩↔dH t H' x=some r∧∃ J,H'=H++J:=by
 simp only [aBv,results,true_and,bC]
 cases dH t H' x<;>simp
theorem gZ{m d:Nat}{x:FC}(h:(CF tab m d (.fn f) args []).map (·.1)=some (.c (.f x))):Pure tab f args (.c (.f x)):=by
 rw [an]at h
 obtain⟨⟨r,H'⟩,h1,h2⟩:=h
 exact⟨r,H',⟨m,d,h1⟩,by rw [show r=.c (.f x) from h2];simp⟩
theorem lN{m d:Nat}{x:V}(h:((CF tab m d (.fn f) args []).bind fun p=>exV deep p.2 p.1)=some x):Pure tab f args x:=by
 rw [bN]at h
 obtain⟨⟨r,H'⟩,h1,h2⟩:=h
 exact⟨r,H',⟨m,d,h1⟩,h2⟩
theorem DJ{b:Bool}(h:∃ m d H',gX tab mW m d (.fn f) [] []=some (.c (.f (.bool b)),H')):Pure tab f [] (vb b):=by
 obtain⟨m,d,H',h⟩:=h
 exact⟨_,H',⟨m,d,h⟩,by simp⟩
theorem iG{S:V→Prop}{ps:List P}{res:List l9}{body:ah}(ht:tab f=some ⟨ps,res,body⟩)(hl:args.length=ps.length)
  (h:∀ Q:Option ah→St→Prop,(∀ j s r,S r→xO res r s→Q j s)→WP tab f none [.code body] ⟨dK ps args .e,[],[]⟩ Q):∃ r,S r∧Pure tab f args r:=by
 have h':=h (fun _ s=>∃ r,S r∧xO res r s) fun _ _ r h1 h2=>⟨r,h1,h2⟩
 obtain⟨n,m,d,j,s,h1,r,hr,hd,r0,h2,h3⟩:=h'
 exact⟨r,hr,r0,s.heap,EJ ht hl ⟨n,m,d,j,s,h1,0,0,s.heap,by rw [hd];rfl,h2,rfl⟩,h3⟩
variable{fn i:Nat}{ro:Option Nat}{k:List dJ}{ds:List fG}{Q:Option ah→St→Prop}
def aAt(a x:Nat):ah:=.region [⟨D x,.bin .add (R a) (.k (.c (.f (.int .i64 1)))),none⟩,⟨D a,.mov (R x),none⟩] []
def Gy(i a b c x:Nat)(body:ah):ah:=.seq (.region [⟨D c,.bin .lss (R a) (R b),none⟩] []) (.seq (.cond (R c) .skip (.exit i)) (.seq body (aAt a x)))
def Tz(i a b c x:Nat)(body:ah):ah:=.block i (.loop (Gy i a b c x body))
theorem iQ{a b c x:Nat}{body:ah}{t:T}{H:Heap}(N:Nat)(I:Nat→T→Heap→Prop)(hN:N≤9223372036854775807)(hab:a≠b)(hxb:x≠b)
  (ha:t.g a=vi 0) (hb:t.g b=vi N) (h0:I 0 t H)
  (step:∀ j t H,j<N→I j t H→t.g a=vi j→t.g b=vi N →
   (∀ t' H',I (j+1) ((t'.s x (vi (j+1:Nat))).s a (vi (j+1:Nat))) H'→t'.g a=vi j→t'.g b=vi N →
    WP tab fn ro (.code (aAt a x)::.inLoop (Gy i a b c x body)::.inBlock i::k) ⟨t',ds,H'⟩ Q) →
   WP tab fn ro (.code body::.code (aAt a x)::.inLoop (Gy i a b c x body)::.inBlock i::k) ⟨t.s c (vb true),ds,H⟩ Q)
  (done:∀ t H,I N t H→t.g a=vi N→t.g b=vi N→WP tab fn ro k ⟨t.s c (vb false),ds,H⟩ Q) :
  WP tab fn ro (.code (Tz i a b c x body)::k) ⟨t,ds,H⟩ Q:=by
 have hro:∀ ops:List aU,ops.all (·.op.gG)=true→ro=none∨ops.all (·.op.gG)=true:=fun _ h=>.inr h
 refine aN ?_
 refine bI (fun n s=>∃ j t H,s=⟨t,ds,H⟩∧j≤N∧n=N-j∧I j t H∧t.g a=vi j∧t.g b=vi N) N ⟨0,t,H,rfl,by omega,by omega,h0,ha,hb⟩ ?_
 rintro n s ⟨j,t,H,rfl,hj,rfl,hI,ha,hb⟩ ih
 refine ak ?_
 refine aj (hro _ rfl) ?_
 simp [ha,hb]
 by_cases hlt:j<N
 ·rw [decide_eq_true hlt]
  refine ak ?_
  refine aB (by simp) ?_
  refine aC ?_
  refine ak ?_
  refine step j t H hlt hI ha hb fun t' H' hI' ha' hb'=>?_
  refine aj (hro _ rfl) ?_
  simp [ha']
  rw [wrap64 (by omega) (by omega)]
  refine ih (N-(j+1)) _ (by omega) ⟨j+1,_,H',rfl,by omega,rfl,by simpa using hI',by simp,?_⟩
  simp [hab,hxb,hb']
 ·have:j=N:=by omega
  subst this
  rw [decide_eq_false hlt]
  refine ak ?_
  refine ay (by simp) ?_
  refine bf (k':=k) (by simp [exitTo]) ?_
  exact done t H hI ha hb
def BX(a x y:Nat):ah:=.region [⟨D x,.mov (R a),none⟩,⟨D y,.bin .add (R x) (.k (.c (.f (.int .i64 1)))),none⟩,⟨D a,.mov (R y),none⟩] []
def Gx(i a c x y:Nat)(hd:List aU)(body:ah):ah:=.seq (.seq (.region hd []) (.cond (R c) .skip (.exit i))) (.seq body (BX a x y))
def akX(i a c x y:Nat)(hd:List aU)(body:ah):ah:=.block i (.loop (Gx i a c x y hd body))
theorem jV{a c x y:Nat}{hd:List aU}{body:ah}{t:T}{H:Heap}(N:Nat)(I:Nat→T→Heap→Prop)(hN:N≤9223372036854775807)(hxy:hd.all (·.op.gG)=true)
  (ha:t.g a=vi 0) (h0:I 0 t H)
  (head:∀ j t H (L:St→Prop),j≤N→I j t H→t.g a=vi j→(∀ t',I j t' H→t'.g a=vi j→t'.g c=vb (decide ((j:Int)<(N:Int)))→L ⟨t',ds,H⟩)→OPS tab hd ⟨t,ds,H⟩ L)
  (step:∀ j t H,j<N→I j t H→t.g a=vi j →
   (∀ t' H',I (j+1) (((t'.s x (vi j)).s y (vi (j+1:Nat))).s a (vi (j+1:Nat))) H'→t'.g a=vi j →
    WP tab fn ro (.code (BX a x y)::.inLoop (Gx i a c x y hd body)::.inBlock i::k) ⟨t',ds,H'⟩ Q) →
   WP tab fn ro (.code body::.code (BX a x y)::.inLoop (Gx i a c x y hd body)::.inBlock i::k) ⟨t,ds,H⟩ Q)
  (done:∀ t H,I N t H→t.g a=vi N→WP tab fn ro k ⟨t,ds,H⟩ Q) :
  WP tab fn ro (.code (akX i a c x y hd body)::k) ⟨t,ds,H⟩ Q:=by
 have hro:∀ ops:List aU,ops.all (·.op.gG)=true→ro=none∨ops.all (·.op.gG)=true:=fun _ h=>.inr h
 refine aN ?_
 refine bI (fun n s=>∃ j t H,s=⟨t,ds,H⟩∧j≤N∧n=N-j∧I j t H∧t.g a=vi j) N ⟨0,t,H,rfl,by omega,by omega,h0,ha⟩ ?_
 rintro n s ⟨j,t,H,rfl,hj,rfl,hI,ha⟩ ih
 refine ak ?_
 refine ak ?_
 refine aj (hro _ hxy) ?_
 refine head j t H _ hj hI ha fun t' hI ha hc=>?_
 by_cases hlt:j<N
 ·rw [decide_eq_true (by omega)]at hc
  refine aB hc ?_
  refine aC ?_
  refine ak ?_
  refine step j t' H hlt hI ha fun t' H' hI' ha'=>?_
  refine aj (hro _ rfl) ?_
  simp [ha']
  rw [wrap64 (by omega) (by omega)]
  exact ih (N-(j+1)) _ (by omega) ⟨j+1,_,H',rfl,by omega,rfl,by simpa using hI',by simp⟩
 ·have:j=N:=by omega
  subst this
  rw [decide_eq_false (by omega)]at hc
  refine ay hc ?_
  refine bf (k':=k) (by simp [exitTo]) ?_
  exact done t' H hI ha
end
end Km
end
section
namespace Km
open Go
def pY{α:Type}(l:List α)(p:α→Bool):Int:=match l.findIdx? p with | some j=>j | none=>-1
theorem Vr{α:Type}(l:List α)(p:α→Bool):decide (0≤pY l p)=l.any p:=by
 unfold pY
 cases h:l.findIdx? p with
 | none=>
  rw [List.findIdx?_eq_none_iff]at h
  have:l.any p=false:=by rw [List.any_eq_false];intro x hx;simp [h x hx]
  simp [this]
 | some j=>
  rw [d7]at h
  obtain⟨hj,hp,_⟩:=h
  have:l.any p=true:=by rw [List.any_eq_true];exact⟨l[j],av hj,hp⟩
  simp [this]
theorem Vs{α:Type}{l:List α}{p:α→Bool}{j:Nat}(hj:j<l.length)(hp:p l[j]=true)(hn:∀(i:Nat) (hi:i<j),p (l[i]'(by omega))=false):pY l p=j:=by
 have:l.findIdx? p=some j:=by
  rw [d7]
  exact⟨hj,hp,fun i hi=>by simp [hn i hi]⟩
 simp [pY,this]
theorem Vq{α:Type}{l:List α}{p:α→Bool}(hn:∀(i:Nat) (hi:i<l.length),p l[i]=false):pY l p = -1:=by
 have:l.findIdx? p=none:=by
  rw [List.findIdx?_eq_none_iff]
  intro x hx
  obtain⟨i,hi,rfl⟩:=List.getElem_of_mem hx
  exact hn i hi
 simp [pY,this]
def ints(l:List Int):List (List FC):=l.map fun n=>[fi n]
@[simp] theorem aOs (l:List Int):(ints l).length=l.length:=by simp [ints]
theorem Hq{j:Nat}{l:List Int}(hj:j<l.length){H:Heap}:ldV H none (.c (.f (.fp (ints l).flatten j)))=some (vi l[j]):=by
 have:=Tc (H:=H) (ae hj)
 simpa [ints]using this
variable{tab:Nat→Option AFunc}
def aAu(t:List aU):ah:=.block 1 (.seq (.region [⟨D 10,.mov (R 8),none⟩,⟨D 5,.mov (R 10),none⟩] []) (.seq
 (.region t []) (.cond (R 16) (.seq (.region [⟨D 17,.mov (R 5),none⟩,⟨D 4,.mov (R 17),none⟩] []) .ret) .skip)))
def aOE(t:List aU):AFunc:=⟨[P.nat 0,P.nat 1],[.tmp (P.nat 4)],.seq (.region [⟨D 4,.mov (.k (.c (.f (.int .i64 0)))),none⟩] [])
 (.seq (.seq (.region [⟨D 6,.mov (R 0),none⟩,⟨D 7,.len (R 6),none⟩,⟨D 8,.mov (.k (.c (.f (.int .i64 0)))),none⟩] []) (Tz 0 8 7 9 18 (aAu t)))
 (.seq (.region [⟨D 4,.mov (.k (.c (.f (.int .i64 (-1))))),none⟩] []) .ret))⟩
def aES(sz:Nat)(ld:Option Nat):List aU:=[⟨D 11,.mov (R 1),none⟩,⟨D 12,.mov (R 0),none⟩,⟨D 13,.mov (R 5),none⟩,⟨D 14,.aF sz none (R 12) (R 13),none⟩,⟨D 15,.load ld (R 14),none⟩,⟨D 16,.bQ (R 11) [(R 15)] true,none⟩]
theorem aJf{f:Nat}{test:List aU}(ht:tab f=some (aOE test)){x y:V}{α:Type}{l:List α}{p:α→Bool}(hl:l.length≤9223372036854775807)
  (hx:∃ c,x=.c c∧∀ H,bK H c=some l.length)
  (aOI:∀(j:Nat) (hj:j<l.length) (t:T) (H:Heap) (L:St→Prop),t.g 0=x→t.g 1=y→t.g 5=vi j →
   (∀ t' J,t'.g 0=x→t'.g 1=y→t'.g 5=vi j→t'.g 7=t.g 7→t'.g 8=t.g 8→t'.g 16=vb (p l[j])→L ⟨t',[],H++J⟩)→OPS tab test ⟨t,[],H⟩ L) :
  Kf tab f [x,y] (vi (pY l p)):=by
 obtain⟨c,rfl,hc⟩:=hx
 refine jk ht rfl fun H Q hQ=>?_
 refine ak ?_
 refine aj (.inl rfl) ?_
 simp
 refine ak ?_
 refine ak ?_
 refine aj (.inl rfl) ?_
 simp [hc]
 refine iQ l.length (fun j t H'=>t.g 0=.c c∧t.g 1=y∧(∃ J,H'=H++J)∧∀(i:Nat) (hi:i<l.length),i<j→p l[i]=false) hl (by decide) (by decide) (by simp) (by simp) (by simp) ?_ ?_
 ·rintro j t _ hj ⟨h0,h1,⟨J,rfl⟩,h2⟩ ha hb next
  refine aN ?_
  refine ak ?_
  refine aj (.inl rfl) ?_
  simp [ha]
  refine ak ?_
  refine aj (.inl rfl) ?_
  refine aOI j hj _ _ _ (by simp [h0]) (by simp [h1]) (by simp) fun t' J' g0 g1 g5 g7 g8 g16=>?_
  cases hv:p l[j]with
  | true=>
   refine aB (by simp [g16,hv]) ?_
   refine ak ?_
   refine aj (.inl rfl) ?_
   simp [g5]
   refine aO (hQ _ _ ?_)
   have:=Vs hj hv (fun i hi=>h2 i (by omega) hi)
   simp [this]
  | false=>
   refine ay (by simp [g16,hv]) ?_
   refine aC (aJ (next _ _ ?_ (by simp [g8,ha]) (by simp [g7,hb])))
   refine⟨by simp [g0],by simp [g1],⟨J++J',by simp⟩,fun i hi hij=>?_⟩
   by_cases e:i=j
   ·subst e;exact hv
   ·exact h2 i hi (by omega)
 ·rintro t _ ⟨h0,h1,⟨J,rfl⟩,h2⟩ ha hb
  refine ak ?_
  refine aj (.inl rfl) ?_
  simp
  refine aO (hQ _ _ ?_)
  have:=Vq (l:=l) (p:=p) (fun i hi=>h2 i hi hi)
  simp [this]
theorem oP{f sz:Nat}{ld:Option Nat}(ht:tab f=some (aOE (aES sz ld))){α:Type}(l:List α)(enc:α→List FC)(val:α→V)(p:α→Bool)(g:Tg)(k:Nat)(caps:List FC)
  (hl:l.length≤9223372036854775807) (hload:∀(j:Nat) (hj:j<l.length) (H:Heap),ldV H ld (.c (.f (.fp (l.map enc).flatten (j*sz))))=some (val l[j]))
  (hp:∀ x ∈ l,Kf tab k (val x::caps.map fun c=>.c (.f c)) (vb (p x))) :
  Kf tab f [.c (.f (sl g (l.map enc))),.c (.f (.fn k caps))] (vi (pY l p)):=by
 refine aJf ht hl ⟨_,rfl,fun H=>by simp⟩ ?_
 intro j hj t H L h0 h1 h5 hL
 have he:=(hp l[j] (av hj)).ev H
 have hi:=gu (H:=H) (g:=g) (rows:=l.map enc) (sz:=sz) (k:=.i64) (i:=(j:Int)) (by omega) (by simpa using hj)
 simp [aES,h0,h1,h5,hi,hload j hj,he]
 exact hL _ _ (by simp [h0]) (by simp [h1]) (by simp [h5]) (by simp) (by simp) (by simp)
def VE(f:Nat):AFunc:=⟨[P.nat 0,P.nat 1],[.tmp (P.nat 4)],.seq (.region [⟨D 4,.mov (.k (.c (.f (.bool false)))),none⟩] []) (.seq
 (.region [⟨D 5,.mov (R 0),none⟩,⟨D 6,.mov (R 1),none⟩,⟨D 7,.call f [(R 5),(R 6)] false,none⟩,⟨D 8,.bin .geq (R 7) (.k (.c (.f (.int .i64 0)))),none⟩,⟨D 4,.mov (R 8),none⟩] []) .ret)⟩
theorem kY{f k:Nat}(ht:tab f=some (VE k)){a b:FC}{α:Type}{l:List α}{p:α→Bool}(h:Kf tab k [.c (.f a),.c (.f b)] (vi (pY l p))) :
  Kf tab f [.c (.f a),.c (.f b)] (vb (l.any p)):=by
 refine jk ht rfl fun H Q hQ=>?_
 refine ak ?_
 refine aj (.inl rfl) ?_
 simp
 refine ak ?_
 refine aj (.inl rfl) ?_
 have he:=h.eq
 simp [he]
 refine aO (hQ _ _ ?_)
 simp [Vr]
end Km
end
section
namespace Km
open Go
theorem aH{H:Heap}{b:Nat}{x:Blk}(h:H[b]?=some x):b<H.length:=(al.1 h).1
theorem nN{α β:Type}{g:α→Option β}:∀ {xs xs':List α} {ys ys':List β},bC g xs=some ys→bC g xs'=some ys'→bC g (xs++xs')=some (ys++ys')
 | [],xs',ys,ys',h,h'=>by simp [bC]at h;subst h;simpa using h'
 | x::xs,xs',ys,ys',h,h'=>by
  simp only [bC,de]at h ⊢
  cases hx:g x with
  | none=>simp [hx]at h
  | some y=>
   cases hxs:bC g xs with
   | none=>simp [hx,hxs]at h
   | some zs=>simp [hx,hxs]at h;subst h;simp [nN hxs h']
variable{z:Bool}{H H':Heap}{sz bytes:Nat}{v y:V}{g:Tg}{rows:List (List FC)}{row:List FC}{cs:List C}
theorem ajR{α:Type}{cs:List α}{o:Nat}{c:α}(h:o<cs.length):over cs o [c]=cs.set o c:=by
 simp only [over,cP,List.length_nil]
 rw [List.set_eq_take_append_cons_drop,if_pos h]
 simp
theorem zI{sz:Nat}:∀ {rows:List (List FC)} {j k:Nat} {x:FC} {row:List FC},Grid sz rows→rows[j]?=some row→k<sz→rows.flatten.set (j*sz+k) x=(rows.set j (row.set k x)).flatten
 | [],_,_,_,_,_,hj,_=>by simp at hj
 | r::rows,0,k,x,row,hg,hj,hk=>by
  simp at hj;subst hj
  have:=hg r aR
  simp only [List.set_cons_zero,cw]
  rw [List.set_append_left _ _ (by omega)]
  simp
 | r::rows,j+1,k,x,row,hg,hj,hk=>by
  have hr:=hg r aR
  simp only [d5,cw]
  rw [List.set_append_right _ _ (by rw [hr,b5];omega)]
  have e:(j+1)*sz+k-r.length=j*sz+k:=by rw [hr,b5];omega
  rw [e,zI (fun y hy=>hg y (bh _ hy)) (by simpa using hj) hk]
theorem yR{b fl c:Nat}(h:H[b]?=some (.box cs fl))(hc:cs.length=sz):gy H sz (.c (.sl b 0 1 c 0 sz))=some (1,cs):=by
 simp [gy,bK,dZ,h,hc]
 rw [←hc,List.take_length]
end Km
end
section
namespace Km
open Go
def Jg(P:Program):List Field→Nat→Nat→Bool
 | [],o,n=>o == n
 | f::fs,o,n=>f.offset == o&&Jg P fs (o+P.cellsOf f.type) n
def jF(P:Program):Nat→TypeId→Bool
 | 0,_=>false
 | n+1,t=>match P.underlying t with
  | some .bool=>P.cellsOf t == 1
  | some (.int _)=>P.cellsOf t == 1
  | some .string=>P.cellsOf t == 1
  | some (.slice e)=>P.cellsOf t == 1&&P.cellsOf e != 0&&jF P n e
  | some (.struct fs)=>Jg P fs.toList 0 (P.cellsOf t)&&fs.toList.all fun f=>jF P n f.type
  | some (.array k e)=>P.cellsOf t == k*P.cellsOf e&&jF P n e
  | _=>false
def EU(S:TypeId→List FC→Prop):List TypeId→List FC→Prop
 | [],xs=>xs=[]
 | t::ts,xs=>∃ p q,xs=p++q∧S t p∧EU S ts q
def Shp(P:Program):Nat→TypeId→List FC→Prop
 | 0,_,_=>False
 | n+1,t,xs=>match P.underlying t with
  | some .bool=>∃ b,xs=[.bool b]
  | some (.int k)=>∃ m,xs=[.int k m]∧(Lit.int k m).wf=true
  | some .string=>∃ s,xs=[.str s]∧s.size≤maxLen
  | some (.slice e)=>∃ g rows,xs=[sl g rows]∧Grid (P.cellsOf e) rows∧rows.length≤maxLen∧∀ r ∈ rows,Shp P n e r
  | some (.struct fs)=>EU (Shp P n) (fs.toList.map (·.type)) xs
  | some (.array k e)=>∃ rows,xs=rows.flatten∧rows.length=k∧Grid (P.cellsOf e) rows∧∀ r ∈ rows,Shp P n e r
  | _=>False
theorem flat_get{α:Type}{sz:Nat}:∀ {rows:List (List α)} {j k:Nat} {row:List α},(∀ r ∈ rows,r.length=sz)→rows[j]?=some row→k<sz→rows.flatten[j*sz+k]?=row[k]?
 | [],j,k,row,_,hj,_=>by simp at hj
 | r::rows,0,k,row,hg,hj,hk=>by
  simp at hj;subst hj
  have:=hg r aR
  rw [cw,ai (by omega)]
  simp
 | r::rows,j+1,k,row,hg,hj,hk=>by
  have hr:=hg r aR
  rw [cw,bE (by rw [hr,b5];omega)]
  have e:(j+1)*sz+k-r.length=j*sz+k:=by rw [hr,b5];omega
  rw [e]
  exact flat_get (rows:=rows) (fun x hx=>hg x (bh _ hx)) (by simpa using hj) hk
theorem KG{α:Type}{sz:Nat}:∀ {rows:List (List α)},(∀ r ∈ rows,r.length=sz)→rows.flatten.length=rows.length*sz
 | [],_=>by simp
 | r::rows,h=>by
  have:=KG (rows:=rows) fun x hx=>h x (bh _ hx)
  simp only [cw,List.length_append,cP,this,h r aR,b5,Nat.one_mul]
  omega
def Np(w:World):Nat→Nat→Prop:=fun c _=>c<w.heap.size
theorem cell_lt{w:World}{a:Addr}{v:Value}(h:w.cell? a=some v):a.block<w.heap.size∧a.spot=none:=by
 unfold World.cell? at h
 split at h
 ·rename_i hb
  split at h
  ·simp at h
  ·rename_i hs
   refine⟨?_,by simpa using hs⟩
   exact(Array.getElem?_eq_some_iff.1 hb).1
 ·simp at h
theorem A2.flatten{α β:Type}{R:α→β→Prop}{xss:List (List α)}{yss:List (List β)}(hl:xss.length=yss.length)
  (h:∀(i:Nat) xs ys,xss[i]?=some xs→yss[i]?=some ys→A2 R xs ys):A2 R xss.flatten yss.flatten:=by
 induction xss generalizing yss with
 | nil=>cases yss with
  | nil=>exact A2.nil
  | cons y ys=>simp at hl
 | cons x xs ih=>cases yss with
  | nil=>simp at hl
  | cons y ys=>
   rw [cw,cw]
   exact(h 0 x y rfl rfl).append (ih (by simpa using hl) fun i a b ha hb=>h (i+1) a b (by simpa using ha) (by simpa using hb))
section
variable{H:Type}{enc:TypeId × Value→H}{P:Program}{w:World}{base:Nat}{spare:Nat→Bool}{held:Bool}{σ:Nat→FuncId}
def aQT(σ:Nat→FuncId)(P:Program)(w:World)(n:Nat)(t:TypeId)(cs:List Value):Prop:=∃ xs,A2 (FCR σ (Np w) w) xs cs∧Shp P n t xs
theorem zH{n:Nat}(ih:∀ {t:TypeId} {fuel:Nat} {cs:List Value} {x:DataW H × List MemPlace},jF P n t=true→DataW.trod enc P w base spare held fuel t cs=some x→aQT σ P w n t cs∧cs.length=P.cellsOf t)
  {fuel:Nat}:∀(fs:List Field) (o N:Nat) (cs:List Value),Jg P fs o N=true→(fs.all fun f=>jF P n f.type)=true→cs.length=N →
   (∀ f ∈ fs,∃ x,DataW.trod enc P w base spare held fuel f.type ((cs.drop f.offset).take (P.cellsOf f.type))=some x) →
   ∃ xs,A2 (FCR σ (Np w) w) xs (cs.drop o)∧EU (Shp P n) (fs.map (·.type)) xs
 | [],o,N,cs,ht,_,hl,_=>by
  simp [Jg]at ht
  exact⟨[],by rw [List.drop_of_length_le (by omega)];exact A2.nil,rfl⟩
 | f::fs,o,N,cs,ht,hs,hl,hx=>by
  simp only [Jg,am,beq_iff_eq]at ht
  simp only [List.all_cons,am]at hs
  obtain⟨x,hx0⟩:=hx f aR
  rw [ht.1]at hx0
  obtain⟨⟨p,hp,sp⟩,hlen⟩:=ih hs.1 hx0
  obtain⟨q,hq,sq⟩:=zH ih fs (o+P.cellsOf f.type) N cs ht.2 hs.2 hl fun g hg=>hx g (bh _ hg)
  refine⟨p++q,?_,p,q,rfl,sp,sq⟩
  have:cs.drop o=(cs.drop o).take (P.cellsOf f.type)++cs.drop (o+P.cellsOf f.type):=by
   rw [←List.drop_drop,cX]
  rw [this]
  exact hp.append hq
theorem alg(c o n k:Nat):((⟨c,o,none⟩:Addr).add n).add k=⟨c,o+(n+k),none⟩:=by
 unfold Addr.add
 by_cases h1:n=0<;>by_cases h2:k=0<;>simp [h1,h2]
 omega
theorem aiK{t e:TypeId}{k n:Nat}{cs:List Value}{x:DataW H × List MemPlace}(ht:P.underlying t=some (.array k e))(h:DataW.trod enc P w base spare held (n+1) t cs=some x) :
  cs.length=P.cellsOf t∧∀ i,i<k→∃ y,DataW.trod enc P w base spare held n e ((cs.drop (i*P.cellsOf e)).take (P.cellsOf e))=some y:=by
 unfold DataW.trod at h
 rw [ht]at h
 simp only [Option.ite_none_right_eq_some,an]at h
 obtain⟨hl,xs,hp,hd⟩:=h
 refine⟨hl,fun i hi=>?_⟩
 have:=mapM_some_get hp i i (by simp [hi])
 have hlen:xs.length=k:=by simpa using mapM_some_length hp
 rw [ae (by omega)]at this
 exact⟨_,this⟩
theorem EM{α:Type}{sz:Nat}:∀ {k:Nat} {cs:List α},cs.length=k*sz→cs=((List.range k).map fun i=>(cs.drop (i*sz)).take sz).flatten
 | 0,cs,h=>by simp at h;simp [h]
 | k+1,cs,h=>by
  have h':(cs.take (k*sz)).length=k*sz:=by rw [List.length_take,h,b5];omega
  have ih:=EM h'
  rw [List.range_succ,List.map_append,List.flatten_append]
  have e:((List.range k).map fun i=>(cs.drop (i*sz)).take sz)=(List.range k).map fun i=>((cs.take (k*sz)).drop (i*sz)).take sz:=by
   refine List.map_congr_left fun i hi=>?_
   have hi':i<k:=by simpa using hi
   have:(i+1)*sz≤k*sz:=cF _ hi'
   rw [b5]at this
   rw [List.drop_take,List.take_take,Nat.min_eq_left (by omega)]
  rw [e,←ih]
  simp only [List.map_cons,List.map_nil,cw,List.flatten_nil,c5]
  have:(cs.drop (k*sz)).take sz=cs.drop (k*sz):=bA (by rw [cK,h,b5];omega)
  rw [this,cX]
theorem aT3{n:Nat}:∀ {t:TypeId} {fuel:Nat} {cs:List Value} {x:DataW H × List MemPlace},jF P n t=true→DataW.trod enc P w base spare held fuel t cs=some x →
  aQT σ P w n t cs∧cs.length=P.cellsOf t:=by
 induction n with
 | zero=>intro t fuel cs x hs;simp [jF]at hs
 | succ n ih=>
  intro t fuel cs x hs h
  simp only [jF]at hs
  split at hs
  ·rename_i ht
   obtain⟨b,rfl,_⟩:=DataW.trod_bool ht h
   exact⟨⟨[.bool b],.cons (.bool b) .nil,by simp only [Shp,ht];exact⟨b,rfl⟩⟩,by simp at hs;simp [hs]⟩
  ·rename_i k ht
   obtain⟨m,rfl,_,hw⟩:=DataW.trod_int ht h
   exact⟨⟨[.int k m],.cons (.int k m) .nil,by simp only [Shp,ht];exact⟨m,rfl,hw⟩⟩,by simp at hs;simp [hs]⟩
  ·rename_i ht
   obtain⟨s,rfl,_,hw⟩:=DataW.trod_string ht h
   exact⟨⟨[.str s],.cons (.str s) .nil,by simp only [Shp,ht];exact⟨s,rfl,hw⟩⟩,by simp at hs;simp [hs]⟩
  ·rename_i e ht
   simp only [am,beq_iff_eq,bne_iff_ne]at hs
   obtain⟨⟨h1,hsz⟩,he⟩:=hs
   rcases DataW.trod_slice ht h with⟨rfl,_⟩ | ⟨a,len,cap,elems,rest,m,_,rfl,_,hb,hl,hm,hlen,hel,_,_⟩
   ·exact⟨⟨[sl .nil []],.cons .aA .nil,by simp only [Shp,ht];exact⟨.nil,[],rfl,fun r hr=>by simp at hr,by simp,fun r hr=>by simp at hr⟩⟩,by simpa using h1.symm⟩
   ·refine⟨?_,by simpa using h1.symm⟩
    have each:∀ i,i<len→∃ p:List Value × List FC,w.cells? base (a.add (i*P.cellsOf e)) (P.cellsOf e)=some p.1∧A2 (FCR σ (Np w) w) p.2 p.1∧Shp P n e p.2:=by
     intro i hi
     have:=hel i hi
     rw [ae (by omega)]at this
     obtain⟨cs',h1,h2⟩:=bN.1 this
     obtain⟨⟨xs,ha,hs⟩,_⟩:=ih he h2
     exact⟨(cs',xs),h1,ha,hs⟩
    obtain⟨p,hp⟩:=Go.Deep.choose_lt each
    by_cases h0:len=0
    ·subst h0
     refine⟨[sl .fs []],.cons (.fs0 a cap) .nil,?_⟩
     simp only [Shp,ht]
     exact⟨.fs,[],rfl,fun r hr=>by simp at hr,by simp,fun r hr=>by simp at hr⟩
    have hspot:a.spot=none:=by
     have:=hp 0 (by omega)
     obtain⟨_,hl0,hc0⟩:=World.cells?_some this.1
     have:=hc0 0 (by omega)
     rw [ae (by omega)]at this
     have:=(cell_lt this).2
     simpa [Addr.add]using this
    obtain⟨c,o,sp⟩:=a
    simp only at hspot
    subst hspot
    let vss:=(List.range len).map fun i=>(p i).1
    let rows:=(List.range len).map fun i=>(p i).2
    have hv:∀ v ∈ vss,v.length=P.cellsOf e:=by
     intro v hv
     obtain⟨i,hi,rfl⟩:=cq.1 hv
     exact(World.cells?_some (hp i (by simpa using hi)).1).2.1
    have hg:Grid (P.cellsOf e) rows:=by
     intro r hr
     obtain⟨i,hi,rfl⟩:=cq.1 hr
     obtain⟨h1,h2,_⟩:=hp i (by simpa using hi)
     rw [h2.len,(World.cells?_some h1).2.1]
    have hA:A2 (FCR σ (Np w) w) rows.flatten vss.flatten:=by
     refine A2.flatten (by simp [rows,vss]) fun i xs ys hx hy=>?_
     simp only [rows,vss,cQ,an]at hx hy
     obtain⟨i1,e1,rfl⟩:=hx
     obtain⟨i2,e2,rfl⟩:=hy
     rw [e1]at e2
     cases e2
     have:=aD e1
     exact(hp i1 (by simpa using this)).2.1
    have hcell:∀ i u,vss.flatten[i]?=some u→w.cell? ⟨c,o+i,none⟩=some u:=by
     intro i u hu
     have hi:i<vss.flatten.length:=(al.1 hu).1
     rw [KG hv]at hi
     have hvl:vss.length=len:=by simp [vss]
     rw [hvl]at hi
     have hq:i / P.cellsOf e<len:=Nat.div_lt_of_lt_mul (by rw [Nat.mul_comm];exact hi)
     have hk:i % P.cellsOf e<P.cellsOf e:=Nat.mod_lt _ (by omega)
     have hi':i=i / P.cellsOf e*P.cellsOf e+i % P.cellsOf e:=by rw [Nat.mul_comm];exact(Nat.div_add_mod _ _).symm
     have hrow:vss[i / P.cellsOf e]?=some (p (i / P.cellsOf e)).1:=by simp [vss,hq]
     rw [hi',flat_get hv hrow hk]at hu
     obtain⟨_,_,hc⟩:=World.cells?_some (hp _ hq).1
     have:=hc _ hk
     rw [hu]at this
     rw [←this,alg,←hi']
    refine⟨[sl .fs rows],.cons ?_ .nil,?_⟩
    ·have hne:rows≠[]:=by simp [rows];omega
     have hrl:rows.length=len:=by simp [rows]
     have:sl Tg.fs rows=.fs rows.flatten len:=by
      cases hr:rows with
      | nil=>exact absurd hr hne
      | cons r rs=>simp only [sl,List.isEmpty_cons,Bool.false_eq_true,if_false];rw [←hr,hrl]
     rw [this]
     refine .fs rows.flatten len c o cap vss.flatten hl hA.len.symm (fun i hi=>?_) hcell fun i x u hx hu=>hA.2 i x u hx hu
     have hi':i<vss.flatten.length:=by rw [←hA.len];exact hi
     exact(cell_lt (hcell i _ (ae hi'))).1
    ·simp only [Shp,ht]
     have hrl:rows.length=len:=by simp [rows]
     refine⟨.fs,rows,rfl,hg,by omega,fun r hr=>?_⟩
     obtain⟨i,hi,rfl⟩:=cq.1 hr
     exact(hp i (by simpa using hi)).2.2
  ·rename_i fs ht
   simp only [am]at hs
   obtain⟨xs,m,_,_,hl,_,hx⟩:=DataW.trod_struct ht h
   refine⟨?_,hl⟩
   obtain⟨ys,h1,h2⟩:=zH (n:=n) (fuel:=m) ih fs.toList 0 _ cs hs.1 hs.2 hl fun f hf=>by
    obtain⟨i,hi⟩:=cE hf
    rw [Array.getElem?_toList]at hi
    have:=hx i f hi
    rw [this]
    have hlt:i<fs.size:=(Array.getElem?_eq_some_iff.1 hi).1
    exact⟨_,ae (by omega)⟩
   exact⟨ys,by simpa using h1,by simp only [Shp,ht];exact h2⟩
  ·rename_i k e ht
   simp only [am,beq_iff_eq]at hs
   obtain⟨hct,he⟩:=hs
   cases fuel with
   | zero=>simp [DataW.trod]at h
   | succ m=>
   obtain⟨hl,hx⟩:=aiK ht h
   refine⟨?_,hl⟩
   have each:∀ i,i<k→∃ q:List FC,A2 (FCR σ (Np w) w) q ((cs.drop (i*P.cellsOf e)).take (P.cellsOf e))∧Shp P n e q:=by
    intro i hi
    obtain⟨y,hy⟩:=hx i hi
    obtain⟨⟨q,a,b⟩,_⟩:=ih he hy
    exact⟨q,a,b⟩
   obtain⟨q,hq⟩:=Go.Deep.choose_lt each
   let rows:=(List.range k).map q
   have hcs:cs=((List.range k).map fun i=>(cs.drop (i*P.cellsOf e)).take (P.cellsOf e)).flatten:=EM (by rw [hl,hct])
   refine⟨rows.flatten,?_,?_⟩
   ·rw [hcs]
    refine A2.flatten (by simp [rows]) fun i xs ys hx hy=>?_
    simp only [rows,cQ,an]at hx hy
    obtain⟨i1,e1,rfl⟩:=hx
    obtain⟨i2,e2,rfl⟩:=hy
    rw [e1]at e2
    cases e2
    have:=aD e1
    exact(hq i1 (by simpa using this)).1
   ·simp only [Shp,ht]
    refine⟨rows,rfl,by simp [rows],fun r hr=>?_,fun r hr=>?_⟩
    ·obtain⟨i,hi,rfl⟩:=cq.1 hr
     have hi':i<k:=by simpa using hi
     rw [(hq i hi').1.len,List.length_take,cK,hl,hct]
     have:(i+1)*P.cellsOf e≤k*P.cellsOf e:=cF _ hi'
     rw [b5]at this
     omega
    ·obtain⟨i,hi,rfl⟩:=cq.1 hr
     exact(hq i (by simpa using hi)).2
  ·simp at hs
end
section
variable{P:Program}{n:Nat}{t e:TypeId}{xs:List FC}
theorem ai2(ht:P.underlying t=some .bool)(h:Shp P (n+1) t xs):∃ b,xs=[.bool b]:=by simpa only [Shp,ht]using h
theorem nK{k:IntKind}(ht:P.underlying t=some (.int k))(h:Shp P (n+1) t xs):∃ m,xs=[.int k m]∧(Lit.int k m).wf=true:=by simpa only [Shp,ht]using h
theorem yj(ht:P.underlying t=some (.slice e))(h:Shp P (n+1) t xs):∃ g rows,xs=[sl g rows]∧Grid (P.cellsOf e) rows∧rows.length≤maxLen∧∀ r ∈ rows,Shp P n e r:=by simpa only [Shp,ht]using h
theorem tZ{fs:Array Field}{ts:List TypeId}(ht:P.underlying t=some (.struct fs))(hts:fs.toList.map (·.type)=ts)(h:Shp P (n+1) t xs):EU (Shp P n) ts xs:=by
 subst hts;simpa only [Shp,ht]using h
theorem Rz{k:Nat}(ht:P.underlying t=some (.array k e))(h:Shp P (n+1) t xs):∃ rows,xs=rows.flatten∧rows.length=k∧Grid (P.cellsOf e) rows∧∀ r ∈ rows,Shp P n e r:=by simpa only [Shp,ht]using h
theorem gK{S:TypeId→List FC→Prop}{ts:List TypeId}(h:EU S (t::ts) xs):∃ p q,xs=p++q∧S t p∧EU S ts q:=h
theorem vT{α:Type}{enc:α→List FC}{p:α→Prop}:∀ {rows:List (List FC)},(∀ r ∈ rows,∃ x,r=enc x∧p x)→∃ l:List α,rows=l.map enc∧∀ x ∈ l,p x
 | [],_=>⟨[],rfl,by simp⟩
 | r::rows,h=>by
  obtain⟨x,rfl,hx⟩:=h r aR
  obtain⟨l,rfl,hl⟩:=vT fun r hr=>h r (bh _ hr)
  exact⟨x::l,rfl,fun y hy=>by
   rcases cL.1 hy with rfl | hy
   ·exact hx
   ·exact hl y hy⟩
end
end Km
end
section
namespace Km
open Go Go.ChangeShapes Go.WideShapes Go.ChangeAt Go.RowKit
def Dz(P:Program)(t:TypeId)(a:V):Prop:=(∃ xs,a=.a (xs.map .f)∧Shp P 40 t xs∧(∃ d,P.underlying t=some d∧((∃ fs,d=.struct fs)∨∃ n e,d=.array n e))) ∨
 (∃ x,a=.c (.f x)∧Shp P 40 t [x])
def Am(P:Program):List TypeId→List V→Prop
 | [],as=>as=[]
 | t::ts,as=>∃ a bs,as=a::bs∧Dz P t a∧Am P ts bs
section
variable{H:Type}{enc:TypeId × Value→H}{P:Program}{W W':World}
theorem DL{f:Func}{s:ChangeSpec}{apart fresh handsOn again:Bool}{args:Array Value}{v:Value}{ds gs:List (DataW H)}{before pa pv:List MemPlace}
  (hW:DataW.Whole enc P f.params.toList s.vars apart W args.toList ds gs before)
  (hres:∀(b:Nat) (sp:Nat→Bool) (hd:Bool),DataW.TrodAll enc P W' b sp hd f.resultTypes.toList (v.resultList f.resultTypes.size) (s.fn H (ds++gs)).results [])
  (hargs:∀ sp:Nat→Bool,(∀ p ∈ before,sp p.block=true)→DataW.TrodAll enc P W' 0 sp true f.params.toList args.toList (s.fn H (ds++gs)).args pa)
  (hvars:∀ sp:Nat→Bool,(∀ p ∈ before,sp p.block=true)→DataW.TrodVars enc P W' sp s.vars (s.fn H (ds++gs)).vars pv)
  (hps:before=pa++pv) (hb:Below W.heap.size W W')
  (hok:∀(j:Nat) (t:TypeId) (r:Value),f.resultTypes[j]?=some t→(v.resultList f.resultTypes.size)[j]?=some r→Value.okWide P W' .any 0 t r) :
  s.post enc P f apart fresh handsOn again W args v W':=by
 have hlt:∀ p ∈ before,p.block<W.heap.size:=fun p hp=>hW.lt p hp
 have hold:∀ p ∈ before,(fun b=>decide (b<W.heap.size)) p.block=true:=fun p hp=>by simpa using hlt p hp
 refine⟨ds,gs,before,[],pa,pv,hW,hres _ _ _,hargs _ hold,hvars _ hold,World.keptBut_mono (fun p hp=>⟨hp,?_⟩) (hb.frame (· ∈ before)),fun _=>?_⟩
 ·rw [hps,List.mem_append]at hp
  exact Or.inr hp
 ·obtain⟨_,_,_,_,_,hz,hn⟩:=hW
  refine⟨hok,_,_,([]++pa)++pv,⟨[]++pa,pv,trodAll_append (hargs _ (fun _ _=>rfl)) (hres _ _ _),hvars _ (fun _ _=>rfl),rfl,?_,?_⟩,?_⟩
  ·intro b off hp
   have hp':MemPlace.cell b off ∈ before:=by rw [hps];simpa using hp
   rw [hb.frozen (p:=⟨b,off,none⟩) (hlt _ hp')]
   exact hz b off hp'
  ·intro ha
   have:=hn ha
   rw [hps]at this
   simpa using this
  ·intro p hp _
   rw [hps]
   simpa using hp
theorem sV(hl:laidOutB P=true){sp:Nat→Bool}(hb:Below W.heap.size W W'):∀ {ts:List TypeId} {vs:List Value} {ds:List (DataW H)} {ps:List MemPlace},
  (ts.all fun t=>P.readableRec t&&decide (t<P.types.size))=true→DataW.TrodAll enc P W 0 (fun _=>true) true ts vs ds ps→(∀ p ∈ ps,p.block<W.heap.size)→(∀ p ∈ ps,sp p.block=true) →
  DataW.TrodAll enc P W' 0 sp true ts vs ds ps
 | [],[],[],ps,_,h,_,_=>h
 | t::ts,v::vs,d::ds,ps,hr,⟨p,q,h1,h2,e⟩,hlt,hs=>by
  subst e
  simp only [List.all_cons,am,decide_eq_true_eq]at hr
  exact⟨p,q,WideElems.Trod_stays hl hr.1.1 hr.1.2 h1 (fun x hx=>hb.same (hlt x (cU _ hx))) (fun x hx=>hs x (cU _ hx)),
   sV hl hb hr.2 h2 (fun x hx=>hlt x (List.mem_append_right _ hx)) (fun x hx=>hs x (List.mem_append_right _ hx)),rfl⟩
 | [],_::_,_,_,_,h,_,_=>by cases h
 | [],[],_::_,_,_,h,_,_=>by cases h
 | _::_,[],_,_,_,h,_,_=>by cases h
 | _::_,_::_,[],_,_,h,_,_=>by cases h
variable{σ:Nat→FuncId}
def X0(W:World):Wd:=⟨fun _=>none,Np W,[],W,W.heap.size⟩
theorem aiI{xs:List FC}{cs:Array Value}(h:A2 (FCR σ (Np W) W) xs cs.toList):VR σ (X0 W) (.a (xs.map .f)) (.agg cs):=
 ⟨cs.toList,by simp,A2.map (g:=C.f) (h.weak fun _ _ h=>h)⟩
theorem ala{t:TypeId}{v:Value}{d:DataW H}{ps:List MemPlace}{base:Nat}{spare:Nat→Bool}{held:Bool}{b0:Nat}(hs:jF P 40 t=true)(hval:Value.okWide P W .any b0 t v)
  (hd:DataW.Trod enc P W base spare held t v d ps):∃ a,VR σ (X0 W) a v∧Dz P t a:=by
 obtain⟨fuel,hf⟩:=hd
 obtain⟨⟨xs,hA,hS⟩,hl⟩:=aT3 (σ:=σ) hs hf
 have scalar:v.cells.toList=[v]→∃ a,VR σ (X0 W) a v∧Dz P t a:=by
  intro hv
  rw [hv]at hA
  match xs,hA.len with
  | [x],_=>exact⟨.c (.f x),hA.of_cons.1,.inr ⟨x,rfl,hS⟩⟩
 unfold jF at hs
 unfold Value.okWide at hval
 split at hval
 ·rename_i fs ht
  obtain⟨cs,rfl,_,_⟩:=hval
  exact⟨_,aiI hA,.inl ⟨xs,rfl,hS,_,ht,.inl ⟨_,rfl⟩⟩⟩
 ·rename_i n e ht
  obtain⟨cs,rfl,_,_⟩:=hval
  exact⟨_,aiI hA,.inl ⟨xs,rfl,hS,_,ht,.inr ⟨_,_,rfl⟩⟩⟩
 ·rename_i h1 h2
  refine scalar ?_
  split at hs
  ·rename_i ht
   obtain⟨b,hb,_⟩:=DataW.trod_bool ht hf
   simp only [Cell.okWide,ht,Cell.ok]at hval
   cases v<;>simp_all [Value.cells]
  ·rename_i ht
   obtain⟨b,hb,_⟩:=DataW.trod_int ht hf
   simp only [Cell.okWide,ht,Cell.ok]at hval
   cases v<;>simp_all [Value.cells]
  ·rename_i ht
   obtain⟨b,hb,_⟩:=DataW.trod_string ht hf
   simp only [Cell.okWide,ht,Cell.ok]at hval
   cases v<;>simp_all [Value.cells]
  ·rename_i ht
   simp only [Cell.okWide,ht,Cell.ok]at hval
   cases v<;>simp_all [Value.cells]
  ·rename_i fs ht;exact absurd ht (h1 fs)
  ·rename_i n e ht;exact absurd ht (h2 n e)
  ·simp at hs
theorem ES{base:Nat}{spare:Nat→Bool}{held:Bool}{b0:Nat}:∀ {ts:List TypeId} {vs:List Value} {ds:List (DataW H)} {ps:List MemPlace},(ts.all fun t=>jF P 40 t)=true →
  (∀(j:Nat) t v,ts[j]?=some t→vs[j]?=some v→Value.okWide P W .any b0 t v)→DataW.TrodAll enc P W base spare held ts vs ds ps →
  ∃ as,A2 (VR σ (X0 W)) as vs∧Am P ts as
 | [],[],[],_,_,_,_=>⟨[],A2.nil,rfl⟩
 | t::ts,v::vs,d::ds,ps,hs,hval,⟨p,q,h1,h2,_⟩=>by
  simp only [List.all_cons,am]at hs
  obtain⟨a,ha,sa⟩:=ala (σ:=σ) hs.1 (hval 0 t v rfl rfl) h1
  obtain⟨bs,hb,sb⟩:=ES hs.2 (fun j t v h h'=>hval (j+1) t v (by simpa using h) (by simpa using h')) h2
  exact⟨a::bs,.cons ha hb,a,bs,rfl,sa,sb⟩
 | [],_::_,_,_,_,_,h=>by cases h
 | [],[],_::_,_,_,_,h=>by cases h
 | _::_,[],_,_,_,_,h=>by cases h
 | _::_,_::_,[],_,_,_,h=>by cases h
theorem aA0{n:Nat}{H:Heap}{v:V}{b:Bool}(h:exV (n+1) H v=some (.c (.f (.bool b)))):v=.c (.f (.bool b)):=by
 cases v with
 | top=>simp [exV,dM]at h
 | a xs=>simp [exV,dM]at h
 | t xs=>simp [exV]at h
 | c x=>
  simp only [exV,dM,an]at h
  obtain⟨y,hy,h⟩:=h
  cases h
  cases x with
  | f x=>simpa [exC]using hy
  | ptr b o e=>simp only [exC]at hy;split at hy<;>simp at hy
  | sl b o l c e s=>
   simp only [exC]at hy
   split at hy
   ·split at hy<;>simp at hy
   ·split at hy<;>simp at hy
   ·split at hy<;>simp at hy
   ·split at hy<;>simp at hy
   ·simp at hy
  | cl f caps=>simp [exC]at hy
  | _=>simp [exC]at hy
variable{tab:Nat→Option AFunc}
theorem MZ(hE:Env P σ tab mW){f:Nat}{args:List V}{us:List Value}(h:Pure tab f args (vb true))(W:World)(ha:A2 (VR σ (X0 W)) args us) :
  Calls P (σ f) us.toArray W fun e w'=>e=.returned (.bool true)∧Below W.heap.size W w':=by
 obtain⟨r,H',⟨m,d,h⟩,hr⟩:=h
 have hr:=aA0 (n:=63) hr
 subst hr
 intro cs
 let X:=X0 W
 have hS:SR P σ X:=⟨fun b L h=>by simp [X,X0]at h,fun b b' L L' h=>by simp [X,X0]at h,fun c i h=>h⟩
 obtain⟨fr,X',u,h1,⟨l1,l2,l3,l4,fn,l5,l6⟩,h3,h4,h5,h6,h7⟩:=(ak0 hE m d).fn f args [] _ H' h X us .normal cs rfl hS (aw _) ha (.inl rfl)
 have hu:=VR.bool h5
 subst hu
 exact⟨.returned (.bool true),X'.w,fr,⟨rfl,⟨h6.os,h6.tape,h6.output,h6.size,fun k hk=>h6.frame k hk (fun b L h=>by simp [X,X0]at h)⟩⟩,h1,l4,l1,l2,l3,fn,by rw [l4];exact l5,l6⟩
theorem akp(hE:Env P σ tab mW){s:ChangeSpec}{f:Func}{fi:Nat}{tb:TypeId}(hvars:s.vars=[])(hlaid:laidOutB P=true){ts:List TypeId}(hts:f.params.toList=ts)
  (hfn:∀ ds:List (DataW H),ds.length=ts.length→s.fn H ds=⟨[.lit (.bool true)],ds,[]⟩)
  (hres:f.resultTypes=#[tb]) (htb:P.underlying tb=some .bool) (hread:(ts.all fun t=>P.readableRec t&&decide (t<P.types.size))=true) (aAv:(ts.all fun t=>jF P 40 t)=true)
  (hkm:∀ as,Am P ts as→Pure tab fi as (vb true)) {apart fresh handsOn again:Bool} {base:Nat} {args:Array Value} {ds gs:List (DataW H)} {before:List MemPlace}
  (hval:∀(j:Nat) t v,f.params[j]?=some t→args[j]?=some v→Value.okWide P W .any base t v) (hW:DataW.Whole enc P f.params.toList s.vars apart W args.toList ds gs before) :
  Calls P (σ fi) args W fun e W'=>∃ v,e=.returned v∧s.post enc P f apart fresh handsOn again W args v W':=by
 have hW':=hW
 obtain⟨p,q,hA,hV,hb,hfz,hnd⟩:=hW
 rw [hts]at hA
 rw [hvars]at hV
 obtain⟨rfl,rfl⟩:=trodVars_none hV
 simp only [c5]at hb
 subst hb
 obtain⟨as,h1,h2⟩:=ES (σ:=σ) (b0:=base) aAv (fun j t v h h'=>hval j t v (by rw [←Array.getElem?_toList,hts];exact h) (by rw [←Array.getElem?_toList];exact h')) hA
 have hlen:ds.length=ts.length:=by
  have:∀ {ts:List TypeId} {vs:List Value} {ds:List (DataW H)} {ps:List MemPlace},DataW.TrodAll enc P W 0 (fun _=>true) true ts vs ds ps→ds.length=ts.length:=by
   intro ts
   induction ts with
   | nil=>intro vs ds ps h;cases vs<;>cases ds<;>first | rfl | cases h
   | cons t ts ih=>intro vs ds ps h;cases vs<;>cases ds<;>first | (obtain⟨_,_,_,h,_⟩:=h;simp [ih h]) | cases h
  exact this hA
 have hfn':=hfn ds hlen
 have hc:=MZ hE (hkm as h2) W h1
 rw [Array.toArray_toList]at hc
 refine hc.mono fun e W' h=>?_
 obtain⟨he,hg⟩:=h
 subst he
 refine⟨_,rfl,DL (pa:=before) (pv:=[]) hW' (fun b sp hd=>?_) (fun sp hsp=>?_) (fun sp _=>?_) (by simp) hg ?_⟩
 ·rw [c5,hfn',hres]
  exact trodAll_mk1 (shut_bool htb _)
 ·rw [c5,hfn',hts]
  exact sV hlaid hg hread hA (fun p hp=>hW'.lt p hp) hsp
 ·rw [c5,hfn',hvars]
  exact rfl
 ·exact ok_one hres rfl (okWide_bool_mk htb _)
end
end Km
end
section
namespace Km
open Go
section
variable{tab:Nat→Option AFunc}{f:Nat}{args:List V}{r:V}{fn:Nat}{k:List dJ}{t:T}{ds:List fG}{H H':Heap}{Q:Option ah→St→Prop}
theorem yC{x:Arg}{ps:List P}{as bd:ah}{g:Nat}{ar:List V}(hf:dw (x.ev t) [.c (.yl (H.length+1))]=some (.fn g,ar))
  (he:Ev tab (.fn g) ar (H++[.dfr true,.lp fn t ps as bd .ready none H.length]) r H')
  (h:WP tab fn none (.lI (H.length+1)::k) ⟨t,.coll H.length::ds,H'⟩ Q):WP tab fn none (.code (.ig x ps as bd)::k) ⟨t,ds,H⟩ Q:=by
 obtain⟨m,d,he⟩:=he
 obtain⟨n,m',d',j,s',h1,h2⟩:=h
 refine⟨n+1,max m m',max d d',j,s',?_,h2⟩
 have e1:=nR (tab:=tab) (bO m m') (bO d d') _ _ _ _ he
 have e2:=A8 (bw m m') (bw d d') (aw n) h1
 simp only [run,hf,e1,e2]
 simp
theorem Ko{ro:Option Nat}{b f' d:Nat}{tm:T}{ps:List P}{as bd:ah}{st:kD}(hb:H[b]?=some (.lp f' tm ps as bd st none d))(hst:st≠.busy)
  (h:WP tab fn ro k ⟨t,ds,H.set b (.lp f' tm ps as bd .exhausted none d)⟩ Q):WP tab fn ro (.lI b::k) ⟨t,ds,H⟩ Q:=by
 refine qP h fun m d n=>?_
 simp only [run,hb,if_neg hst]
theorem wU{ro:Option Nat}{b f' d:Nat}{tm:T}{ps:List P}{as bd:ah}{st:kD}(hb:H[b]?=some (.lp f' tm ps as bd st (some .ret) d))(hst:st≠.busy)
  (h:WP tab fn ro (.code .ret::k) ⟨t,ds,H.set b (.lp f' tm ps as bd .exhausted (some .ret) d)⟩ Q):WP tab fn ro (.lI b::k) ⟨t,ds,H⟩ Q:=by
 refine qP h fun m d n=>?_
 simp only [run,hb,if_neg hst]
theorem Hr{b f' d:Nat}{tm:T}{ps:List P}{as bd:ah}{pd:Option ah}(hb:H[b]?=some (.lp f' tm ps as bd .ready pd d))
  (h:WP tab fn (some b) k ⟨t,ds,H.set b (.lp f' tm ps as bd .busy pd d)⟩ Q):WP tab fn (some b) (.rE::k) ⟨t,ds,H⟩ Q:=by
 refine qP h fun m d n=>?_
 simp only [run,hb]
@[simp] theorem aL2 {b:Nat} {as:List V}:dw (.c (.yl b)) as=some (.yield b,as):=rfl
def aQU(b:Nat)(r:V)(H':Heap)(j:Option ah)(s:St):Prop:=s.defs=[]∧∃ f' tm ps as bd st pd d,s.heap[b]?=some (.lp f' tm ps as bd st pd d)∧r=.c (.f (.bool j.isNone)) ∧
 H'=s.heap.set b (.lp f' tm ps as bd (if j.isNone then .ready else .done) j d)
theorem akL{b f' d:Nat}{tm:T}{ps:List P}{as bd:ah}{st:kD}{pd:Option ah}(hb:H[b]?=some (.lp f' tm ps as bd st pd d))(hl:args.length=ps.length)
  (h:WP tab f' (some b) [.code as,.rE,.code bd] ⟨dK ps args tm,[],H⟩ (aQU b r H')):Ev tab (.yield b) args H r H':=by
 obtain⟨n,m,d',j,s,h1,hd,f2,tm2,ps2,as2,bd2,st2,pd2,d2,h2,rfl,rfl⟩:=h
 refine⟨max m n,d'+1,?_⟩
 have e1:run (CF tab (max m n) d') f' (max m n) (some b) [.code as,.rE,.code bd] ⟨dK ps args tm,[],H⟩=some (j,s):=A8 (bO m n) (aw d') (bw m n) h1
 simp only [CF]at e1 ⊢
 simp only [gX,hb,hl,if_true,e1,hd,List.isEmpty_nil,h2]
 rfl
theorem qX{C:V→Heap→Prop}{b f' d:Nat}{tm:T}{ps:List P}{as bd:ah}{st:kD}{pd:Option ah}(hb:H[b]?=some (.lp f' tm ps as bd st pd d))(hl:args.length=ps.length)
  (h:∀ Q:Option ah→St→Prop,(∀ j s f2 tm2 ps2 as2 bd2 st2 pd2 d2,s.defs=[]→s.heap[b]?=some (.lp f2 tm2 ps2 as2 bd2 st2 pd2 d2) →
   C (.c (.f (.bool j.isNone))) (s.heap.set b (.lp f2 tm2 ps2 as2 bd2 (if j.isNone then .ready else .done) j d2))→Q j s)→WP tab f' (some b) [.code as,.rE,.code bd] ⟨dK ps args tm,[],H⟩ Q):∃ r H',Ev tab (.yield b) args H r H'∧C r H':=by
 have h':=h (fun j s=>∃ r H',C r H'∧aQU b r H' j s) fun j s f2 tm2 ps2 as2 bd2 st2 pd2 d2 h1 h2 h3=>⟨_,_,h3,h1,f2,tm2,ps2,as2,bd2,st2,pd2,d2,h2,rfl,rfl⟩
 obtain⟨n,m,d',j,s,h1,r,H',h2,h3⟩:=h'
 exact⟨r,H',akL hb hl ⟨n,m,d',j,s,h1,h3⟩,h2⟩
def aLM(res:List l9)(r:V)(s:St):Prop:=∃ b,s.defs=[.coll b]∧s.heap[b]?=some (.dfr true)∧∃ r0,results s.regs (s.heap.set b (.dfr false)) res=some r0∧exV deep (s.heap.set b (.dfr false)) r0=some r
theorem JG{S:V→Prop}{ps:List P}{res:List l9}{body:ah}(ht:tab f=some ⟨ps,res,body⟩)(hl:args.length=ps.length)
  (h:∀ Q:Option ah→St→Prop,(∀ j s r,S r→xO res r s∨aLM res r s→Q j s)→WP tab f none [.code body] ⟨dK ps args .e,[],[]⟩ Q):∃ r,S r∧Pure tab f args r:=by
 have h':=h (fun _ s=>∃ r,S r∧(xO res r s∨aLM res r s)) fun _ _ r h1 h2=>⟨r,h1,h2⟩
 obtain⟨n,m,d,j,s,h1,r,hr,⟨hd,r0,h2,h3⟩ | ⟨b,hd,hb,r0,h2,h3⟩⟩:=h'
 ·exact⟨r,hr,r0,s.heap,EJ ht hl ⟨n,m,d,j,s,h1,0,0,s.heap,by rw [hd];rfl,h2,rfl⟩,h3⟩
 ·exact⟨r,hr,r0,s.heap.set b (.dfr false),EJ ht hl ⟨n,m,d,j,s,h1,0,0,_,by rw [hd];simp only [fU,hb],h2,rfl⟩,h3⟩
theorem iR{C:V→Heap→Prop}{ps:List P}{res:List l9}{body:ah}(ht:tab f=some ⟨ps,res,body⟩)(hl:args.length=ps.length)
  (h:∀ Q:Option ah→St→Prop,(∀ j s r,s.defs=[]→results s.regs s.heap res=some r→C r s.heap→Q j s)→WP tab f none [.code body] ⟨dK ps args .e,[],H⟩ Q):∃ r H',Ev tab (.fn f) args H r H'∧C r H':=by
 have h':=h (fun _ s=>s.defs=[]∧∃ r,results s.regs s.heap res=some r∧C r s.heap) fun _ _ r h1 h2 h3=>⟨h1,r,h2,h3⟩
 obtain⟨n,m,d,j,s,h1,hd,r,h2,h3⟩:=h'
 exact⟨r,s.heap,EJ ht hl ⟨n,m,d,j,s,h1,0,0,s.heap,by rw [hd];rfl,h2,rfl⟩,h3⟩
end
end Km
end
section
namespace Km
open Go
theorem zn{c:dL}:∀(a b:List aU) (s:St),iW c (a++b) s=(iW c a s).bind (iW c b)
 | [],b,s=>rfl
 | o::a,b,s=>by
  simp only [de,iW]
  cases ji c s o with
  | none=>rfl
  | some s'=>exact zn a b s'
theorem Aq{c:dL}:∀(os:List aU) (s:St) {s':St},iW c os s=some s'→∃ ss,fH c os s=some ss∧ss.getLast?=some s'∧∀ i,i≤os.length→iW c (os.take i) s=ss[i]?
 | [],s,s',h=>by
  simp only [iW,ab]at h
  subst h
  refine⟨[s],rfl,rfl,fun i hi=>?_⟩
  have:i=0:=by simpa using hi
  subst this
  rfl
 | o::os,s,s',h=>by
  simp only [iW]at h
  cases hs:ji c s o with
  | none=>simp [hs]at h
  | some s1=>
   simp only [hs]at h
   obtain⟨ss,h1,h2,h3⟩:=Aq os s1 h
   refine⟨s::ss,by simp only [fH,hs,h1],by rw [List.getLast?_cons,h2];rfl,fun i hi=>?_⟩
   cases i with
   | zero=>rfl
   | succ i=>
    simp only [List.take_succ_cons,iW,hs,List.getElem?_cons_succ]
    exact h3 i (by simpa using hi)
def rF(o:aU)(si sj:St):Prop:=wanted si.regs o.g=some false∨∃ v H1 v' H2,xOp si.regs si.heap o.op=some (v,H1)∧xOp si.regs sj.heap o.op=some (v',H2)∧v.beq v'=true
section
variable{tab:Nat→Option AFunc}{fn:Nat}{ro:Option Nat}{k:List dJ}{s:St}{Q:Option ah→St→Prop}
def aEV(tab:Nat→Option AFunc)(ops:List aU)(s:St)(c:Nat × Nat):Prop:=c.2≤ops.length∧∃ o,ops[c.1]?=some o ∧
 ((c.1≤c.2∧OPS tab (ops.take c.1) s fun si=>OPS tab ((ops.drop c.1).take (c.2-c.1)) si fun sj=>rF o si sj) ∨
 (c.2≤c.1∧OPS tab (ops.take c.2) s fun sj=>OPS tab ((ops.drop c.2).take (c.1-c.2)) sj fun si=>rF o si sj))
theorem ai3{ops:List aU}{c:Nat × Nat}(h:aEV tab ops s c):∃ m d o si sj,c.2≤ops.length∧ops[c.1]?=some o∧iW (CF tab m d) (ops.take c.1) s=some si∧iW (CF tab m d) (ops.take c.2) s=some sj∧rF o si sj:=by
 have two:∀(a b:Nat) (K:St→St→Prop),a≤b→OPS tab (ops.take a) s (fun sa=>OPS tab ((ops.drop a).take (b-a)) sa fun sb=>K sa sb) →
   ∃ m d sa sb,iW (CF tab m d) (ops.take a) s=some sa∧iW (CF tab m d) (ops.take b) s=some sb∧K sa sb:=by
  intro a b K hab h
  obtain⟨m,d,sa,h1,h2⟩:=mD _ _ h
  obtain⟨m',d',sb,h3,h4⟩:=mD _ _ h2
  have e1:=fD (nR (tab:=tab) (bO m m') (bO d d')) _ _ h1
  have e3:=fD (nR (tab:=tab) (bw m m') (bw d d')) _ _ h3
  refine⟨max m m',max d d',sa,sb,e1,?_,h4⟩
  have:ops.take b=ops.take a++(ops.drop a).take (b-a):=by
   have hb:b=a+(b-a):=by omega
   conv=>lhs;rw [hb,List.take_add]
  rw [this,zn,e1]
  exact e3
 obtain⟨hj,o,ho,⟨hij,h⟩ | ⟨hji,h⟩⟩:=h
 ·obtain⟨m,d,si,sj,h1,h2,h3⟩:=two _ _ (fun si sj=>rF o si sj) hij h
  exact⟨m,d,o,si,sj,hj,ho,h1,h2,h3⟩
 ·obtain⟨m,d,sj,si,h1,h2,h3⟩:=two _ _ (fun sj si=>rF o si sj) hji h
  exact⟨m,d,o,si,sj,hj,ho,h2,h1,h3⟩
theorem mY{ops:List aU}{chk:List (Nat × Nat)}(hr:ro=none∨ops.all (·.op.gG)=true)(h:OPS tab ops s fun s'=>WP tab fn ro k s' Q)(hk:∀ c ∈ chk,aEV tab ops s c) :
  WP tab fn ro (.code (.region ops chk)::k) s Q:=by
 obtain⟨m,d,s',h1,n,m',d',j,s2,h2,h3⟩:=mD ops s h
 have hall:∃ M D,∀ c ∈ chk,∃ o si sj,c.2≤ops.length∧ops[c.1]?=some o∧iW (CF tab M D) (ops.take c.1) s=some si∧iW (CF tab M D) (ops.take c.2) s=some sj∧rF o si sj:=by
  clear h1 h2 h
  induction chk with
  | nil=>exact⟨0,0,fun c hc=>by cases hc⟩
  | cons c cs ih=>
   obtain⟨M,D,ih⟩:=ih fun c hc=>hk c (bh _ hc)
   obtain⟨m1,d1,o,si,sj,a1,a2,a3,a4,a5⟩:=ai3 (hk c aR)
   refine⟨max M m1,max D d1,fun c' hc'=>?_⟩
   rcases cL.1 hc' with rfl | hc'
   ·have l:=nR (tab:=tab) (bw M m1) (bw D d1)
    exact⟨o,si,sj,a1,a2,fD l _ _ a3,fD l _ _ a4,a5⟩
   ·obtain⟨o,si,sj,a1,a2,a3,a4,a5⟩:=ih c' hc'
    have l:=nR (tab:=tab) (bO M m1) (bO D d1)
    exact⟨o,si,sj,a1,a2,fD l _ _ a3,fD l _ _ a4,a5⟩
 obtain⟨M,D,hall⟩:=hall
 obtain⟨MM,hm1,hm2,hm3⟩:∃ x,m≤x∧m'≤x∧M≤x:=⟨max (max m m') M,by omega,by omega,by omega⟩
 obtain⟨DD,hd1,hd2,hd3⟩:∃ x,d≤x∧d'≤x∧D≤x:=⟨max (max d d') D,by omega,by omega,by omega⟩
 refine⟨n+1,MM,DD,j,s2,?_,h3⟩
 have e1:=fD (nR (tab:=tab) hm1 hd1) ops _ h1
 have e2:=A8 hm2 hd2 (aw n) h2
 have hro:(ro.isSome&&!ops.all (·.op.gG))=false:=by
  rcases hr with rfl | hr
  ·rfl
  ·rw [hr];simp
 obtain⟨ss,f1,f2,f3⟩:=Aq ops s e1
 have hx:jE (CF tab MM DD) ops chk s=some s':=by
  cases chk with
  | nil=>simpa only [jE]using e1
  | cons x xs=>
   simp only [jE,f1]
   rw [if_pos,f2]
   rw [List.all_eq_true]
   intro c hc
   obtain⟨o,si,sj,a1,a2,a3,a4,a5⟩:=hall c hc
   have l:=nR (tab:=tab) hm3 hd3
   have hi:c.1≤ops.length:=by
    have:=(al.1 a2).1
    omega
   have b3:=fD l _ _ a3
   have b4:=fD l _ _ a4
   rw [f3 _ hi]at b3
   rw [f3 _ a1]at b4
   simp only [sameAt,a2,b3,b4]
   rcases a5 with hw | ⟨v,H1,v',H2,g1,g2,g3⟩
   ·rw [hw]
   ·split
    ·rfl
    ·simp only [g1,g2,g3]
 simp only [run,hro,hx,e2]
 simp
end
end Km
end
section
namespace Km
open Go
theorem H8{n:Nat}:∀(l:List C) (H:Heap),(∀ x ∈ l,∃ y,x=.f y)→l.foldl (fun H x=>mkC n x H) H=H
 | [],_,_=>rfl
 | x::l,H,h=>by
  obtain⟨y,rfl⟩:=h x aR
  simp only [List.foldl_cons,SS]
  exact H8 l H fun x hx=>h x (bh _ hx)
end Km
end
section
namespace Km
open Go
end Km
end
section
namespace Km
open Go
def RB(H:Heap)(b sz ep:Nat)(rows:List (List FC)):Prop:=H[b]?=some (.opn sz (rows.flatten.map .f) 0 ep .loc)
def Fm(b:Nat)(H H':Heap):Prop:=H.length≤H'.length∧∀ b':Nat,b'≠b→b'<H.length→H'[b']?=H[b']?
theorem Fm.refl{b:Nat}(H:Heap):Fm b H H:=⟨aw _,fun _ _ _=>rfl⟩
theorem Fm.trans{b:Nat}{H H' H'':Heap}(h:Fm b H H')(h':Fm b H' H''):Fm b H H'':=
 ⟨bz h.1 h'.1,fun b' e l=>(h'.2 b' e (cG l h.1)).trans (h.2 b' e l)⟩
theorem Fm.push{b:Nat}(H J:Heap):Fm b H (H++J):=⟨by simp,fun b' _ l=>ai l⟩
theorem Fm.set{b:Nat}(H:Heap)(x:Blk):Fm b H (H.set b x):=⟨by simp,fun b' e _=>ag (Ne.symm e)⟩
theorem Fm.get{b:Nat}{H H':Heap}(h:Fm b H H'){b':Nat}{x:Blk}(hb:H[b']?=some x)(e:b'≠b):H'[b']?=some x:=by rw [h.2 b' e (aH hb)];exact hb
theorem Jr{sz:Nat}{row:List FC}(hr:row.length=sz):∀ {rows:List (List FC)} {j:Nat},Grid sz rows→j<rows.length →
  rows.flatten.take (j*sz)++row++rows.flatten.drop (j*sz+sz)=(rows.set j row).flatten
 | [],_,_,hj=>by simp at hj
 | r::rows,0,hg,_=>by
  have:=hg r aR
  subst this
  simp
 | r::rows,j+1,hg,hj=>by
  have hr0:=hg r aR
  have ih:=Jr hr (rows:=rows) (j:=j) (fun x hx=>hg x (bh _ hx)) (by simpa using hj)
  simp only [cw,d5]
  rw [←ih]
  have e1:(j+1)*sz=r.length+j*sz:=by rw [hr0,b5];omega
  have e2:(j+1)*sz+sz=r.length+(j*sz+sz):=by omega
  rw [e2,e1,List.take_append,List.drop_append]
  simp [bA,cY]
section
variable{H:Heap}{b sz ep j:Nat}{rows:List (List FC)}{row:List FC}
theorem RB.lt(h:RB H b sz ep rows):b<H.length:=aH h
theorem RB.push(h:RB H b sz ep rows)(J:Heap):RB (H++J) b sz ep rows:=by
 unfold RB at *;rw [ai (aH h)];exact h
theorem RB.len(h:RB H b sz ep rows){o l c:Nat}:bK H (.sl b o l c ep sz)=some l:=by
 unfold RB at h;simp [bK,h]
theorem RB.idx(h:RB H b sz ep rows){n c:Nat}{k:IntKind}{i:Int}(h0:0≤i)(hi:i<n){o:Nat}:aV H sz none (.c (.sl b o n c ep sz)) (.c (.f (.int k i)))=some (.c (.ptr b (o+i.toNat*sz) ep)):=by
 unfold RB at h
 simp only [aV,jo,h0,hi,if_true,h,and_self]
theorem RB.ldr(h:RB H b sz ep rows)(hg:Grid sz rows)(hj:rows[j]?=some row):ldV H (some sz) (.c (.ptr b (j*sz) ep))=some (.a (row.map .f)):=by
 unfold RB at h
 have hlen:row.length=sz:=hg row (aD hj)
 have:=xB (k:=0) hg hj (by omega)
 simp only [aG,h,if_true]
 rw [←List.map_drop]
 rw [Nat.add_zero]at this
 rw [this]
 have h1:(row.map C.f++((rows.drop (j+1)).flatten.map C.f)).take sz=row.map C.f:=by
  rw [cC (by simp [hlen]),bA (by simp [hlen])]
 simp [hlen]
theorem RB.str(h:RB H b sz ep rows)(hg:Grid sz rows)(hj:j<rows.length)(hr:row.length=sz) :
  ∃ H',stC H (.ptr b (j*sz) ep) (row.map .f)=some H'∧RB H' b sz ep (rows.set j row)∧Fm b H H'∧H'.length=H.length:=by
 have hl:=fB hg
 have hjl:(j+1)*sz≤rows.length*sz:=cF _ hj
 have hin:j*sz+sz≤rows.flatten.length:=by rw [hl];rw [b5]at hjl;omega
 unfold RB at h ⊢
 refine⟨H.set b (.opn sz ((rows.set j row).flatten.map .f) 0 ep .loc),?_,?_,Fm.set _ _,by simp⟩
 ·simp only [bJ,h,Nat.zero_le,true_and,ba,hr,hin,if_true]
  rw [←Jr hr hg hj]
  simp [over,hr]
 ·exact ax (aH h)
end
theorem bnd_nat{k n:Nat}(h:k≤n):bnd (vi k) n=some k:=by
 have:(0:Int)≤k∧(k:Int)≤n:=by omega
 simp [bnd,jo,this]
theorem res_one{t:T}{H:Heap}{x:l9}{r:V}(h:dH t H x=some r):Km.results t H [x]=some r:=by
 simp [Km.results,bC,h]
@[simp] theorem aQ4 {t:T} {H:Heap} (sz:Nat) (zs:List FC) (x:Arg):xOp t H (.clear sz zs x)=(CP H sz zs (x.ev t)).map (.t [],·):=rfl
@[simp] theorem aRh {a b:Int}:JY false [vi a,vi b]=some (vi (max a b)):=by
 have:(if a<b then b else a)=max a b:=by split<;>omega
 simp only [JY,BK,JZ]
 simp [this,V.int]
@[simp] theorem aRg {a b:Int}:JY true [vi a,vi b]=some (vi (min a b)):=by
 have:(if b<a then b else a)=min a b:=by split<;>omega
 simp only [JY,BK,JZ]
 simp [this,V.int]
end Km
end
section
namespace Km
open Go
def swp(l:List (List FC))(i j:Nat):List (List FC):=(l.set i (l.getD j [])).set j (l.getD i [])
def Seg(a b:Nat)(l l':List (List FC)):Prop:=l'.Perm l∧l'.take a=l.take a∧l'.drop b=l.drop b
theorem Seg.refl(a b:Nat)(l:List (List FC)):Seg a b l l:=⟨.refl _,rfl,rfl⟩
theorem Seg.trans{a b:Nat}{l l' l'':List (List FC)}(h:Seg a b l l')(h':Seg a b l' l''):Seg a b l l'':=⟨h'.1.trans h.1,h'.2.1.trans h.2.1,h'.2.2.trans h.2.2⟩
theorem Seg.len{a b:Nat}{l l':List (List FC)}(h:Seg a b l l'):l'.length=l.length:=h.1.length_eq
theorem Seg.lt{a b:Nat}{l l':List (List FC)}(h:Seg a b l l'){i:Nat}(hi:i<a):l'[i]?=l[i]?:=by
 have:=congrArg (·[i]?) h.2.1
 simpa [bX,hi]using this
theorem Seg.ge{a b:Nat}{l l':List (List FC)}(h:Seg a b l l'){i:Nat}(hi:b≤i):l'[i]?=l[i]?:=by
 have:=congrArg (·[i-b]?) h.2.2
 simpa [bk,show b+(i-b)=i by omega]using this
theorem Seg.mono{a b a' b':Nat}{l l':List (List FC)}(h:Seg a b l l')(ha:a'≤a)(hb:b≤b'):Seg a' b' l l':=by
 refine⟨h.1,?_,?_⟩
 ·have:=congrArg (·.take a') h.2.1
  simpa [List.take_take,Nat.min_eq_left ha]using this
 ·have:=congrArg (·.drop (b'-b)) h.2.2
  simpa [List.drop_drop,show b+(b'-b)=b' by omega]using this
theorem Gj(l:List (List FC))(i j:Nat):(swp l i j).length=l.length:=by simp [swp]
theorem swp_get{l:List (List FC)}{i j:Nat}(hi:i<l.length)(hj:j<l.length)(k:Nat):(swp l i j)[k]?=if k=j then l[i]? else if k=i then l[j]? else l[k]?:=by
 have e1:l.getD i []=l[i]:=by simp [List.getD,ae hi]
 have e2:l.getD j []=l[j]:=by simp [List.getD,ae hj]
 simp only [swp,e1,e2,List.getElem?_set]
 by_cases h1:j=k
 ·subst h1;simp [ae hi,hj]
 ·by_cases h2:i=k
  ·subst h2;simp [h1,Ne.symm h1,ae hj,hi]
  ·simp [h1,h2,Ne.symm h1,Ne.symm h2]
theorem iF{a b:Nat}{l:List (List FC)}{i j:Nat}(hi:a≤i)(hib:i<b)(hj:a≤j)(hjb:j<b)(hb:b≤l.length):Seg a b l (swp l i j):=by
 have hil:i<l.length:=by omega
 have hjl:j<l.length:=by omega
 refine⟨?_,?_,?_⟩
 ·have e1:l.getD i []=l[i]:=by simp [List.getD,ae hil]
  have e2:l.getD j []=l[j]:=by simp [List.getD,ae hjl]
  simp only [swp,e1,e2]
  exact List.set_set_perm hil hjl
 ·apply List.ext_getElem?
  intro k
  simp only [bX]
  split
  ·rw [swp_get hil hjl,if_neg (by omega),if_neg (by omega)]
  ·rfl
 ·apply List.ext_getElem?
  intro k
  simp only [bk]
  rw [swp_get hil hjl,if_neg (by omega),if_neg (by omega)]
section
variable{H:Heap}{b sz ep:Nat}{rows:List (List FC)}
theorem RB.swap(h:RB H b sz ep rows)(hg:Grid sz rows){i j:Nat}(hi:i<rows.length)(hj:j<rows.length) :
  ∃ H1 H2,stC H (.ptr b (i*sz) ep) (rows[j].map .f)=some H1∧RB H1 b sz ep (rows.set i rows[j])∧stC H1 (.ptr b (j*sz) ep) (rows[i].map .f)=some H2∧RB H2 b sz ep (swp rows i j)∧Fm b H H2:=by
 have gi:rows[i].length=sz:=hg _ (av hi)
 have gj:rows[j].length=sz:=hg _ (av hj)
 obtain⟨H1,s1,r1,f1,-⟩:=h.str hg hi gj
 have hg1:Grid sz (rows.set i rows[j]):=fun r hr=>by
  rcases List.mem_or_eq_of_mem_set hr with h | rfl
  ·exact hg r h
  ·exact gj
 obtain⟨H2,s2,r2,f2,-⟩:=r1.str hg1 (j:=j) (by simpa using hj) gi
 refine⟨H1,H2,s1,r1,s2,?_,f1.trans f2⟩
 have e1:rows.getD i []=rows[i]:=by simp [List.getD,ae hi]
 have e2:rows.getD j []=rows[j]:=by simp [List.getD,ae hj]
 simp only [swp,e1,e2]
 exact r2
theorem Seg.grid{a b:Nat}{l l':List (List FC)}(h:Seg a b l l')(hg:Grid sz l):Grid sz l':=fun r hr=>hg r (h.1.mem_iff.1 hr)
end
structure Cmp(W:List FC→Prop)(c:List FC→List FC→Int):Prop where
 asym:∀ {x y},W x→W y→c x y<0→¬ c y x<0
 trans:∀ {x y z},W x→W y→W z→¬ c y x<0→¬ c z y<0→¬ c z x<0
def Up(c:List FC→List FC→Int)(a b:Nat)(l:List (List FC)):Prop:=∀ i j x y,a≤i→i<j→j<b→l[i]?=some x→l[j]?=some y→¬ c y x<0
end Km
end
section
namespace Km
open Go
theorem EN{l:List (List FC)}{a m b:Nat}(h1:a≤m)(h2:m≤b)(h3:b≤l.length):∃ X U V Y,l=X++(U++(V++Y))∧X.length=a∧U.length=m-a∧V.length=b-m:=by
 refine⟨l.take a,(l.drop a).take (m-a),(l.drop m).take (b-m),l.drop b,?_,by simp;omega,by simp;omega,by simp;omega⟩
 have e2:(l.drop m).take (b-m)++l.drop b=l.drop m:=by
  have:=cX (b-m) (l.drop m)
  rwa [List.drop_drop,show m+(b-m)=b by omega]at this
 have e1:(l.drop a).take (m-a)++l.drop m=l.drop a:=by
  have:=cX (m-a) (l.drop a)
  rwa [List.drop_drop,show a+(m-a)=m by omega]at this
 rw [e2,e1,cX]
theorem Seg.mem{a b:Nat}{l l':List (List FC)}(h:Seg a b l l')(hab:a≤b)(hb:b≤l.length){i:Nat}{x:List FC}(h1:a≤i)(h2:i<b)(hx:l'[i]?=some x):∃ j,a≤j∧j<b∧l[j]?=some x:=by
 obtain⟨X,U,V,Y,e,lX,lU,lV⟩:=EN (aw a) hab hb
 have hl:=h.len
 obtain⟨X',U',V',Y',e',lX',lU',lV'⟩:=EN (l:=l') (aw a) hab (by omega)
 obtain rfl:U=[]:=cA.1 (by omega)
 obtain rfl:U'=[]:=cA.1 (by omega)
 obtain⟨hp,ht,hd⟩:=h
 subst e;subst e'
 have eX:X'=X:=by
  simpa [cC (show a≤X.length by omega),cC (show a≤X'.length by omega),bA (show X.length≤a by omega),bA (show X'.length≤a by omega)]using ht
 have eY:Y'=Y:=by
  have q:∀ {A B C:List (List FC)},A.length=a→B.length=b-a→(A++([]++(B++C))).drop b=C:=by
   intro A B C hA hB
   rw [dx,←cY,List.drop_append_of_le_length (by simp;omega),List.drop_of_length_le (by simp;omega),dx]
  rwa [q lX' lV',q lX lV]at hd
 subst eX;subst eY
 have hp:V'.Perm V:=by
  have:=(List.perm_append_left_iff X').1 hp
  simp only [dx]at this
  exact(List.perm_append_right_iff Y').1 this
 rw [dx,bE (by omega),ai (by omega)]at hx
 obtain⟨j,hj⟩:=cE (hp.mem_iff.1 (aD hx))
 have hjl:=(al.1 hj).1
 refine⟨a+j,by omega,by omega,?_⟩
 rw [dx,bE (by omega),ai (by omega)]
 rw [←hj];congr 1;omega
section
variable{W:List FC→Prop}{c:List FC→List FC→Int}
theorem Up.mono{a b a' b':Nat}{l:List (List FC)}(h:Up c a b l)(ha:a≤a')(hb:b'≤b):Up c a' b' l:=
 fun i j x y h1 h2 h3 hx hy=>h i j x y (by omega) h2 (by omega) hx hy
theorem Up.one{a b:Nat}{l:List (List FC)}(h:b≤a+1):Up c a b l:=fun i j x y h1 h2 h3=>by omega
theorem Up.of{a b:Nat}{l l':List (List FC)}(h:Up c a b l)(he:∀ k,a≤k→k<b→l'[k]?=l[k]?):Up c a b l':=fun i j x y h1 h2 h3 hx hy=>
 h i j x y h1 h2 h3 (by rw [←he i h1 (by omega)];exact hx) (by rw [←he j (by omega) h3];exact hy)
def LeI(c:List FC→List FC→Int)(l:List (List FC))(i j:Nat):Prop:=∀ x y,l[i]?=some x→l[j]?=some y→¬ c y x<0
theorem LeI.trans{l:List (List FC)}{i j k:Nat}(hc:Cmp W c)(hW:∀ r ∈ l,W r)(h:LeI c l i j)(h':LeI c l j k)(hj:j<l.length):LeI c l i k:=fun x y hx hy=>by
 have hz:=ae hj
 exact hc.trans (hW _ (aD hx)) (hW _ (av hj)) (hW _ (aD hy)) (h _ _ hx hz) (h' _ _ hz hy)
end
end Km
end
section
namespace Km
open Go
def dn:C→Option Nat
 | .sl b _ _ _ _ _=>some b
 | _=>none
def LR(H:Heap)(c:C)(sz:Nat)(rows:List (List FC)):Prop:=(rows=[]∧(c=.f .aA∨c=.f .es))∨(rows≠[]∧∃ b ep,c=.sl b 0 rows.length 0 ep sz∧RB H b sz ep rows)
def Kb(H H':Heap)(c:C):Prop:=H.length≤H'.length∧∀(i:Nat) y,H[i]?=some y→dn c≠some i→H'[i]?=some y
section
variable{H H':Heap}{c:C}{sz:Nat}{rows:List (List FC)}
theorem LR.nil(H:Heap)(sz:Nat):LR H (.f .aA) sz []:=.inl ⟨rfl,.inl rfl⟩
theorem LR.keep(h:LR H c sz rows)(hk:∀ i y,H[i]?=some y→dn c=some i→H'[i]?=some y):LR H' c sz rows:=by
 rcases h with h | ⟨h,b,ep,rfl,h2⟩
 ·exact .inl h
 ·exact .inr ⟨h,b,ep,rfl,hk b _ h2 rfl⟩
theorem LR.push(h:LR H c sz rows)(J:Heap):LR (H++J) c sz rows:=h.keep fun i y hy _=>by rw [ai (aH hy)];exact hy
theorem LR.lt(h:LR H c sz rows){i:Nat}(hi:dn c=some i):i<H.length:=by
 rcases h with⟨_,rfl | rfl⟩ | ⟨h,b,ep,rfl,h2⟩
 ·cases hi
 ·cases hi
 ·cases hi;exact h2.lt
theorem LR.dN(h:LR H c sz rows){i:Nat}{cs:List C}{fl:Nat}(hx:H[i]?=some (.box cs fl)):dn c≠some i:=by
 rcases h with⟨_,rfl | rfl⟩ | ⟨h,b,ep,rfl,h2⟩
 ·simp [dn]
 ·simp [dn]
 ·intro e
  cases e
  unfold RB at h2
  rw [h2]at hx;cases hx
theorem LR.set(h:LR H c sz rows){i:Nat}(hi:dn c≠some i)(x:Blk):LR (H.set i x) c sz rows:=h.keep fun j y hy hj=>by
 have:i≠j:=by rintro rfl;exact hi hj
 rw [ag this];exact hy
theorem LR.len(h:LR H c sz rows):bK H c=some rows.length:=by
 rcases h with⟨rfl,rfl | rfl⟩ | ⟨h,b,ep,rfl,h2⟩
 ·rfl
 ·rfl
 ·exact h2.len
theorem LR.ex(h:LR H c sz rows)(hg:Grid sz rows)(n:Nat):∃ g,exC (n+1) H c=some (sl g rows):=by
 rcases h with⟨rfl,rfl | rfl⟩ | ⟨h,b,ep,rfl,h2⟩
 ·exact⟨.nil,rfl⟩
 ·exact⟨.es,rfl⟩
 ·refine⟨.fs,?_⟩
  have hl:rows.length*sz=rows.flatten.length:=(fB hg).symm
  unfold RB at h2
  simp only [Ce,h2]
  rw [if_pos ⟨trivial,trivial,by rw [ba,cH,hl];exact aw _⟩,List.drop_zero,bA (by rw [ba];omega),uY]
  cases rows with
  | nil=>exact absurd rfl h
  | cons x l=>simp [sl]
theorem aiY{g g':Tg}{rows:List (List FC)}(h:rows≠[]):sl g rows=sl g' rows:=by
 cases rows with
 | nil=>exact absurd rfl h
 | cons x l=>rfl
theorem LR.exU(h:LR H c sz rows)(hg:Grid sz rows):∃ g,∀(H':Heap) (n:Nat),(∀ i y,H[i]?=some y→dn c=some i→H'[i]?=some y)→exC (n+1) H' c=some (sl g rows):=by
 by_cases hr:rows=[]
 ·rcases h with⟨rfl,rfl | rfl⟩ | ⟨h,_⟩
  ·exact⟨.nil,fun _ _ _=>rfl⟩
  ·exact⟨.es,fun _ _ _=>rfl⟩
  ·exact absurd hr h
 ·refine⟨.fs,fun H' n hk=>?_⟩
  obtain⟨g,e⟩:=(h.keep hk).ex hg n
  rw [e,aiY hr]
theorem LR.app(h:LR H c sz rows)(hg:Grid sz rows)(hsz:sz≠0){row:List FC}(hr:row.length=sz){bytes:Nat}(hroom:bZ (rows.length+1) bytes=true){b1 fl1:Nat}(hb1:H[b1]?=some (.box (row.map .f) fl1)) :
  ∃ c' H',dD H sz bytes (.c c) (.c (.sl b1 0 1 1 0 sz))=some (.c c',H')∧LR H' c' sz (rows++[row])∧Kb H H' c∧(dn c'=dn c∨dn c'=some H.length):=by
 have hadd:gy H sz (.c (.sl b1 0 1 1 0 sz))=some (1,row.map .f):=yR hb1 (by simp [hr])
 rcases h with⟨rfl,he⟩ | ⟨hne,b,ep,rfl,h2⟩
 ·have hroom:bZ 1 bytes=true:=by simpa using hroom
  refine⟨.sl H.length 0 1 0 0 sz,H++[.opn sz (row.map .f) 0 0 .loc],?_,.inr ⟨by simp,H.length,0,rfl,?_⟩,⟨by simp,fun i y hy _=>by rw [ai (aH hy)];exact hy⟩,.inr rfl⟩
  ·rcases he with rfl | rfl<;>simp [dD,hadd,hroom,hsz]
  ·simp [RB]
 ·have hlen:rows.length*sz=rows.flatten.length:=(fB hg).symm
  unfold RB at h2
  refine⟨.sl b 0 (rows.length+1) 0 (ep+1) sz,H.set b (.opn sz (rows.flatten.map .f++row.map .f) 0 (ep+1) .loc),?_,.inr ⟨by simp,b,ep+1,by simp,?_⟩,⟨by simp,fun i y hy hn=>?_⟩,.inl rfl⟩
  ·simp only [dD,hadd,hsz,if_false,h2,and_self,if_true]
   simp only [Nat.add_one_ne_zero,if_false]
   rw [if_pos ⟨trivial,by rw [ba];exact hlen,by simp⟩,hroom]
   simp
  ·unfold RB
   rw [ax (aH h2)]
   simp
  ·have:b≠i:=by rintro rfl;exact hn rfl
   rw [ag this];exact hy
theorem Kb.push(H J:Heap)(c:C):Kb H (H++J) c:=⟨by simp,fun i y hy _=>by rw [ai (aH hy)];exact hy⟩
end
end Km
end
section
namespace Km
open Go
section
variable{H:Heap}{b sz ep j k n:Nat}{rows:List (List FC)}{row:List FC}
theorem RB.ldc{x:FC}(h:RB H b sz ep rows)(hg:Grid sz rows)(hj:rows[j]?=some row)(hk:row[k]?=some x):ldV H none (.c (.ptr b (j*sz+k) ep))=some (.c (.f x)):=by
 unfold RB at h
 have hlen:row.length=sz:=hg row (aD hj)
 have hkl:=(al.1 hk).1
 have:=flat_get hg hj (by omega:k<sz)
 simp only [aG,h,if_true]
 rw [List.map_drop.symm]
 have e:(rows.flatten.drop (j*sz+k))[0]?=some x:=by rw [bk,Nat.add_zero,this,hk]
 cases hd:rows.flatten.drop (j*sz+k)with
 | nil=>rw [hd]at e;simp at e
 | cons y ys=>rw [hd]at e;simp at e;simp [aQ,e]
end
section
variable{tab:Nat→Option AFunc}{F sz bytes:Nat}{zs:List FC}{H:Heap}{g:Tg}{rows:List (List FC)}
end
end Km
end
section
namespace Km
open Go
end Km
end
section
set_option linter.unusedVariables false
namespace Km
open Go
structure Srt where
 pdq:Nat
 ins:Nat
 heap:Nat
 sift:Nat
 brk:Nat
 piv:Nat
 rev:Nat
 part:Nat
 peq:Nat
 pins:Nat
 BM:Nat
 med:Nat
 ord:Nat
 npt:Nat
 nxt:Nat
 len:Nat
 aMn:Nat
 aMo:Nat
 rot:Nat
 swr:Nat
def aNj(σ:Srt)(sz:Nat):ah:=.region [⟨D 10,.mov (.k (.c (.f (.bool true)))),none⟩] []
def aNh(σ:Srt)(sz:Nat):ah:=.region [⟨D 11,.mov (.k (.c (.f (.bool true)))),none⟩] []
def aNd(σ:Srt)(sz:Nat):ah:=.region [⟨D 21,.mov (R 2),none⟩,⟨D 22,.mov (R 1),none⟩,⟨D 23,.bin .sub (R 21) (R 22),none⟩,⟨D 12,.mov (R 23),none⟩] []
def aIc(σ:Srt)(sz:Nat):ah:=.region [⟨D 24,.mov (R 12),none⟩,⟨D 25,.bin .leq (R 24) (.k (.c (.f (.int .i64 12)))),none⟩] []
def aH9(σ:Srt)(sz:Nat):ah:=.region [⟨D 26,.mov (R 0),none⟩,⟨D 27,.mov (R 1),none⟩,⟨D 28,.mov (R 2),none⟩,⟨D 29,.mov (R 4),none⟩,⟨D 30,.call σ.ins [(R 26),(R 27),(R 28),(R 29)] true,none⟩] []
def aIa(σ:Srt)(sz:Nat):ah:=.seq (aH9 σ sz) .ret
def aIb(σ:Srt)(sz:Nat):ah:=.cond (R 25) (aIa σ sz) .skip
def aId(σ:Srt)(sz:Nat):ah:=.seq (aIc σ sz) (aIb σ sz)
def aH6(σ:Srt)(sz:Nat):ah:=.region [⟨D 31,.mov (R 3),none⟩,⟨D 32,.bin .eql (R 31) (.k (.c (.f (.int .i64 0)))),none⟩] []
def aH3(σ:Srt)(sz:Nat):ah:=.region [⟨D 33,.mov (R 0),none⟩,⟨D 34,.mov (R 1),none⟩,⟨D 35,.mov (R 2),none⟩,⟨D 36,.mov (R 4),none⟩,⟨D 37,.call σ.heap [(R 33),(R 34),(R 35),(R 36)] true,none⟩] []
def aH4(σ:Srt)(sz:Nat):ah:=.seq (aH3 σ sz) .ret
def aH5(σ:Srt)(sz:Nat):ah:=.cond (R 32) (aH4 σ sz) .skip
def aH7(σ:Srt)(sz:Nat):ah:=.seq (aH6 σ sz) (aH5 σ sz)
def aH0(σ:Srt)(sz:Nat):ah:=.region [⟨D 38,.mov (R 10),none⟩,⟨D 39,.un .not (R 38),none⟩] []
def aHX(σ:Srt)(sz:Nat):ah:=.region [⟨D 40,.mov (R 0),none⟩,⟨D 41,.mov (R 1),none⟩,⟨D 42,.mov (R 2),none⟩,⟨D 43,.mov (R 4),none⟩,⟨D 44,.call σ.brk [(R 40),(R 41),(R 42),(R 43)] true,none⟩] []
def aHW(σ:Srt)(sz:Nat):ah:=.region [⟨D 45,.mov (R 3),none⟩,⟨D 46,.bin .sub (R 45) (.k (.c (.f (.int .i64 1)))),none⟩,⟨D 3,.mov (R 46),none⟩] []
def aHY(σ:Srt)(sz:Nat):ah:=.seq (aHX σ sz) (aHW σ sz)
def aHZ(σ:Srt)(sz:Nat):ah:=.cond (R 39) (aHY σ sz) .skip
def aH1(σ:Srt)(sz:Nat):ah:=.seq (aH0 σ sz) (aHZ σ sz)
def aHV(σ:Srt)(sz:Nat):ah:=.region [⟨D 48,.mov (R 0),none⟩,⟨D 49,.mov (R 1),none⟩,⟨D 50,.mov (R 2),none⟩,⟨D 51,.mov (R 4),none⟩,⟨D 52,.call σ.piv [(R 48),(R 49),(R 50),(R 51)] true,none⟩,⟨D 47,.mov (R 52),none⟩,⟨D 53,.extract (R 47) 0,none⟩,⟨D 54,.extract (R 47) 1,none⟩,⟨D 13,.mov (R 53),none⟩,⟨D 14,.mov (R 54),none⟩] []
def aHS(σ:Srt)(sz:Nat):ah:=.region [⟨D 55,.mov (R 14),none⟩,⟨D 56,.bin .eql (R 55) (.k (.c (.f (.int .i64 2)))),none⟩] []
def aHP(σ:Srt)(sz:Nat):ah:=.region [⟨D 57,.mov (R 0),none⟩,⟨D 58,.mov (R 1),none⟩,⟨D 59,.mov (R 2),none⟩,⟨D 60,.mov (R 4),none⟩,⟨D 61,.call σ.rev [(R 57),(R 58),(R 59),(R 60)] true,none⟩] []
def aHN(σ:Srt)(sz:Nat):ah:=.region [⟨D 62,.mov (R 2),none⟩,⟨D 63,.bin .sub (R 62) (.k (.c (.f (.int .i64 1)))),none⟩,⟨D 64,.mov (R 13),none⟩,⟨D 65,.mov (R 1),none⟩,⟨D 66,.bin .sub (R 64) (R 65),none⟩,⟨D 67,.bin .sub (R 63) (R 66),none⟩,⟨D 13,.mov (R 67),none⟩] []
def aHM(σ:Srt)(sz:Nat):ah:=.region [⟨D 14,.mov (.k (.c (.f (.int .i64 1)))),none⟩] []
def aHO(σ:Srt)(sz:Nat):ah:=.seq (aHN σ sz) (aHM σ sz)
def aHQ(σ:Srt)(sz:Nat):ah:=.seq (aHP σ sz) (aHO σ sz)
def aHR(σ:Srt)(sz:Nat):ah:=.cond (R 56) (aHQ σ sz) .skip
def aHT(σ:Srt)(sz:Nat):ah:=.seq (aHS σ sz) (aHR σ sz)
def aHK(σ:Srt)(sz:Nat):ah:=.region [⟨D 68,.mov (R 10),none⟩,⟨D 69,.mov (R 68),none⟩,⟨D 70,.mov (R 11),G 69 true⟩,⟨D 71,.pick (R 69) (R 70) (.k (.c (.f (.bool false)))),none⟩,⟨D 72,.mov (R 71),none⟩,⟨D 73,.mov (R 14),G 72 true⟩,⟨D 74,.bin .eql (R 73) (.k (.c (.f (.int .i64 1)))),G 72 true⟩,⟨D 75,.pick (R 72) (R 74) (.k (.c (.f (.bool false)))),none⟩] []
def aHH(σ:Srt)(sz:Nat):ah:=.region [⟨D 76,.mov (R 0),none⟩,⟨D 77,.mov (R 1),none⟩,⟨D 78,.mov (R 2),none⟩,⟨D 79,.mov (R 4),none⟩,⟨D 80,.call σ.pins [(R 76),(R 77),(R 78),(R 79)] true,none⟩] []
def aHG(σ:Srt)(sz:Nat):ah:=.cond (R 80) .ret .skip
def aHI(σ:Srt)(sz:Nat):ah:=.seq (aHH σ sz) (aHG σ sz)
def aHJ(σ:Srt)(sz:Nat):ah:=.cond (R 75) (aHI σ sz) .skip
def aHL(σ:Srt)(sz:Nat):ah:=.seq (aHK σ sz) (aHJ σ sz)
def aHE(σ:Srt)(sz:Nat):ah:=.region [⟨D 81,.mov (R 1),none⟩,⟨D 82,.bin .gtr (R 81) (.k (.c (.f (.int .i64 0)))),none⟩,⟨D 83,.mov (R 82),none⟩,⟨D 84,.mov (R 4),G 83 true⟩,⟨D 85,.mov (R 0),G 83 true⟩,⟨D 86,.mov (R 1),G 83 true⟩,⟨D 87,.bin .sub (R 86) (.k (.c (.f (.int .i64 1)))),G 83 true⟩,⟨D 88,.aF sz none (R 85) (R 87),G 83 true⟩,⟨D 89,.load (some sz) (R 88),G 83 true⟩,⟨D 90,.mov (R 0),G 83 true⟩,⟨D 91,.mov (R 13),G 83 true⟩,⟨D 92,.aF sz none (R 90) (R 91),G 83 true⟩,⟨D 93,.load (some sz) (R 92),G 83 true⟩,⟨D 94,.bQ (R 84) [(R 89),(R 93)] true,G 83 true⟩,⟨D 95,.bin .lss (R 94) (.k (.c (.f (.int .i64 0)))),G 83 true⟩,⟨D 96,.un .not (R 95),G 83 true⟩,⟨D 97,.pick (R 83) (R 96) (.k (.c (.f (.bool false)))),none⟩] []
def aHB(σ:Srt)(sz:Nat):ah:=.region [⟨D 98,.mov (R 0),none⟩,⟨D 99,.mov (R 1),none⟩,⟨D 100,.mov (R 2),none⟩,⟨D 101,.mov (R 13),none⟩,⟨D 102,.mov (R 4),none⟩,⟨D 103,.call σ.peq [(R 98),(R 99),(R 100),(R 101),(R 102)] true,none⟩,⟨D 15,.mov (R 103),none⟩] []
def aHz(σ:Srt)(sz:Nat):ah:=.region [⟨D 104,.mov (R 15),none⟩,⟨D 1,.mov (R 104),none⟩] []
def aHA(σ:Srt)(sz:Nat):ah:=.seq (aHz σ sz) (.exit 1)
def aHC(σ:Srt)(sz:Nat):ah:=.seq (aHB σ sz) (aHA σ sz)
def aHD(σ:Srt)(sz:Nat):ah:=.cond (R 97) (aHC σ sz) .skip
def aHF(σ:Srt)(sz:Nat):ah:=.seq (aHE σ sz) (aHD σ sz)
def aHy(σ:Srt)(sz:Nat):ah:=.region [⟨D 106,.mov (R 0),none⟩,⟨D 107,.mov (R 1),none⟩,⟨D 108,.mov (R 2),none⟩,⟨D 109,.mov (R 13),none⟩,⟨D 110,.mov (R 4),none⟩,⟨D 111,.call σ.part [(R 106),(R 107),(R 108),(R 109),(R 110)] true,none⟩,⟨D 105,.mov (R 111),none⟩,⟨D 112,.extract (R 105) 0,none⟩,⟨D 113,.extract (R 105) 1,none⟩,⟨D 16,.mov (R 112),none⟩,⟨D 17,.mov (R 113),none⟩] []
def aHw(σ:Srt)(sz:Nat):ah:=.region [⟨D 114,.mov (R 17),none⟩,⟨D 11,.mov (R 114),none⟩] []
def aHu(σ:Srt)(sz:Nat):ah:=.region [⟨D 115,.mov (R 16),none⟩,⟨D 116,.mov (R 1),none⟩,⟨D 117,.bin .sub (R 115) (R 116),none⟩,⟨D 118,.mov (R 2),none⟩,⟨D 119,.mov (R 16),none⟩,⟨D 120,.bin .sub (R 118) (R 119),none⟩,⟨D 18,.mov (R 117),none⟩,⟨D 19,.mov (R 120),none⟩] []
def aHs(σ:Srt)(sz:Nat):ah:=.region [⟨D 121,.mov (R 12),none⟩,⟨D 122,.bin .quo (R 121) (.k (.c (.f (.int .i64 8)))),none⟩,⟨D 20,.mov (R 122),none⟩] []
def aHq(σ:Srt)(sz:Nat):ah:=.region [⟨D 123,.mov (R 18),none⟩,⟨D 124,.mov (R 19),none⟩,⟨D 125,.bin .lss (R 123) (R 124),none⟩] []
def aHn(σ:Srt)(sz:Nat):ah:=.region [⟨D 126,.mov (R 18),none⟩,⟨D 127,.mov (R 20),none⟩,⟨D 128,.bin .geq (R 126) (R 127),none⟩,⟨D 10,.mov (R 128),none⟩] []
def aHl(σ:Srt)(sz:Nat):ah:=.region [⟨D 129,.mov (R 0),none⟩,⟨D 130,.mov (R 1),none⟩,⟨D 131,.mov (R 16),none⟩,⟨D 132,.mov (R 3),none⟩,⟨D 133,.mov (R 4),none⟩,⟨D 134,.call σ.pdq [(R 129),(R 130),(R 131),(R 132),(R 133)] true,none⟩] []
def aHk(σ:Srt)(sz:Nat):ah:=.region [⟨D 135,.mov (R 16),none⟩,⟨D 136,.bin .add (R 135) (.k (.c (.f (.int .i64 1)))),none⟩,⟨D 1,.mov (R 136),none⟩] []
def aHm(σ:Srt)(sz:Nat):ah:=.seq (aHl σ sz) (aHk σ sz)
def aHo(σ:Srt)(sz:Nat):ah:=.seq (aHn σ sz) (aHm σ sz)
def aHi(σ:Srt)(sz:Nat):ah:=.region [⟨D 137,.mov (R 19),none⟩,⟨D 138,.mov (R 20),none⟩,⟨D 139,.bin .geq (R 137) (R 138),none⟩,⟨D 10,.mov (R 139),none⟩] []
def aHg(σ:Srt)(sz:Nat):ah:=.region [⟨D 140,.mov (R 0),none⟩,⟨D 141,.mov (R 16),none⟩,⟨D 142,.bin .add (R 141) (.k (.c (.f (.int .i64 1)))),none⟩,⟨D 143,.mov (R 2),none⟩,⟨D 144,.mov (R 3),none⟩,⟨D 145,.mov (R 4),none⟩,⟨D 146,.call σ.pdq [(R 140),(R 142),(R 143),(R 144),(R 145)] true,none⟩] []
def aHf(σ:Srt)(sz:Nat):ah:=.region [⟨D 147,.mov (R 16),none⟩,⟨D 2,.mov (R 147),none⟩] []
def aHh(σ:Srt)(sz:Nat):ah:=.seq (aHg σ sz) (aHf σ sz)
def aHj(σ:Srt)(sz:Nat):ah:=.seq (aHi σ sz) (aHh σ sz)
def aHp(σ:Srt)(sz:Nat):ah:=.cond (R 125) (aHo σ sz) (aHj σ sz)
def aHr(σ:Srt)(sz:Nat):ah:=.seq (aHq σ sz) (aHp σ sz)
def aHt(σ:Srt)(sz:Nat):ah:=.seq (aHs σ sz) (aHr σ sz)
def aHv(σ:Srt)(sz:Nat):ah:=.seq (aHu σ sz) (aHt σ sz)
def aHx(σ:Srt)(sz:Nat):ah:=.seq (aHw σ sz) (aHv σ sz)
def ajz(σ:Srt)(sz:Nat):ah:=.seq (aHy σ sz) (aHx σ sz)
def ajA(σ:Srt)(sz:Nat):ah:=.seq (aHF σ sz) (ajz σ sz)
def ajB(σ:Srt)(sz:Nat):ah:=.seq (aHL σ sz) (ajA σ sz)
def aHU(σ:Srt)(sz:Nat):ah:=.seq (aHT σ sz) (ajB σ sz)
def ajC(σ:Srt)(sz:Nat):ah:=.seq (aHV σ sz) (aHU σ sz)
def aH2(σ:Srt)(sz:Nat):ah:=.seq (aH1 σ sz) (ajC σ sz)
def aH8(σ:Srt)(sz:Nat):ah:=.seq (aH7 σ sz) (aH2 σ sz)
def aNc(σ:Srt)(sz:Nat):ah:=.seq (aId σ sz) (aH8 σ sz)
def aNe(σ:Srt)(sz:Nat):ah:=.seq (aNd σ sz) (aNc σ sz)
def Ei(σ:Srt)(sz:Nat):ah:=.block 1 (aNe σ sz)
def aNf(σ:Srt)(sz:Nat):ah:=.loop (Ei σ sz)
def aNg(σ:Srt)(sz:Nat):ah:=.block 0 (aNf σ sz)
def aNi(σ:Srt)(sz:Nat):ah:=.seq (aNh σ sz) (aNg σ sz)
def aNk(σ:Srt)(sz:Nat):ah:=.seq (aNj σ sz) (aNi σ sz)
def Sr(σ:Srt)(sz:Nat):AFunc:=⟨[P.nat 0,P.nat 1,P.nat 2,P.nat 3,P.nat 4],[],(aNk σ sz)⟩
def aOB(σ:Srt)(sz:Nat):ah:=.region [⟨D 10,.mov (R 1),none⟩,⟨D 11,.bin .add (R 10) (.k (.c (.f (.int .i64 1)))),none⟩,⟨D 8,.mov (R 11),none⟩] []
def aOx(σ:Srt)(sz:Nat):ah:=.region [⟨D 12,.mov (R 8),none⟩,⟨D 13,.mov (R 2),none⟩,⟨D 14,.bin .lss (R 12) (R 13),none⟩] []
def aOw(σ:Srt)(sz:Nat):ah:=.cond (R 14) .skip (.exit 0)
def aOy(σ:Srt)(sz:Nat):ah:=.seq (aOx σ sz) (aOw σ sz)
def aJc(σ:Srt)(sz:Nat):ah:=.region [⟨D 17,.mov (R 8),none⟩,⟨D 9,.mov (R 17),none⟩] []
def aI7(σ:Srt)(sz:Nat):ah:=.region [⟨D 18,.mov (R 9),none⟩,⟨D 19,.mov (R 1),none⟩,⟨D 20,.bin .gtr (R 18) (R 19),none⟩,⟨D 21,.mov (R 20),none⟩,⟨D 22,.mov (R 3),G 21 true⟩,⟨D 23,.mov (R 0),G 21 true⟩,⟨D 24,.mov (R 9),G 21 true⟩,⟨D 25,.aF sz none (R 23) (R 24),G 21 true⟩,⟨D 26,.load (some sz) (R 25),G 21 true⟩,⟨D 27,.mov (R 0),G 21 true⟩,⟨D 28,.mov (R 9),G 21 true⟩,⟨D 29,.bin .sub (R 28) (.k (.c (.f (.int .i64 1)))),G 21 true⟩,⟨D 30,.aF sz none (R 27) (R 29),G 21 true⟩,⟨D 31,.load (some sz) (R 30),G 21 true⟩,⟨D 32,.bQ (R 22) [(R 26),(R 31)] true,G 21 true⟩,⟨D 33,.bin .lss (R 32) (.k (.c (.f (.int .i64 0)))),G 21 true⟩,⟨D 34,.pick (R 21) (R 33) (.k (.c (.f (.bool false)))),none⟩] []
def aI6(σ:Srt)(sz:Nat):ah:=.cond (R 34) .skip (.exit 2)
def aI8(σ:Srt)(sz:Nat):ah:=.seq (aI7 σ sz) (aI6 σ sz)
def aI3(σ:Srt)(sz:Nat):ah:=.region [⟨D 37,.mov (R 0),none⟩,⟨D 38,.mov (R 9),none⟩,⟨D 39,.mov (R 0),none⟩,⟨D 40,.mov (R 9),none⟩,⟨D 41,.bin .sub (R 40) (.k (.c (.f (.int .i64 1)))),none⟩,⟨D 42,.mov (R 0),none⟩,⟨D 43,.mov (R 9),none⟩,⟨D 44,.bin .sub (R 43) (.k (.c (.f (.int .i64 1)))),none⟩,⟨D 45,.aF sz none (R 42) (R 44),none⟩,⟨D 46,.load (some sz) (R 45),none⟩,⟨D 47,.mov (R 0),none⟩,⟨D 48,.mov (R 9),none⟩,⟨D 49,.aF sz none (R 47) (R 48),none⟩,⟨D 50,.load (some sz) (R 49),none⟩,⟨D 51,.aF sz none (R 37) (R 38),none⟩,⟨none,.store sz (R 51) (R 46),none⟩,⟨D 52,.aF sz none (R 39) (R 41),none⟩,⟨none,.store sz (R 52) (R 50),none⟩] []
def aI4(σ:Srt)(sz:Nat):ah:=.block 3 (aI3 σ sz)
def aI2(σ:Srt)(sz:Nat):ah:=.region [⟨D 35,.mov (R 9),none⟩,⟨D 36,.bin .sub (R 35) (.k (.c (.f (.int .i64 1)))),none⟩,⟨D 9,.mov (R 36),none⟩] []
def aI5(σ:Srt)(sz:Nat):ah:=.seq (aI4 σ sz) (aI2 σ sz)
def aI9(σ:Srt)(sz:Nat):ah:=.seq (aI8 σ sz) (aI5 σ sz)
def aJa(σ:Srt)(sz:Nat):ah:=.loop (aI9 σ sz)
def aJb(σ:Srt)(sz:Nat):ah:=.block 2 (aJa σ sz)
def aJd(σ:Srt)(sz:Nat):ah:=.seq (aJc σ sz) (aJb σ sz)
def aOu(σ:Srt)(sz:Nat):ah:=.block 1 (aJd σ sz)
def Ht(σ:Srt)(sz:Nat):ah:=.region [⟨D 15,.mov (R 8),none⟩,⟨D 16,.bin .add (R 15) (.k (.c (.f (.int .i64 1)))),none⟩,⟨D 8,.mov (R 16),none⟩] []
def aOv(σ:Srt)(sz:Nat):ah:=.seq (aOu σ sz) (Ht σ sz)
def Tj(σ:Srt)(sz:Nat):ah:=.seq (aOy σ sz) (aOv σ sz)
def aOz(σ:Srt)(sz:Nat):ah:=.loop (Tj σ sz)
def aOA(σ:Srt)(sz:Nat):ah:=.block 0 (aOz σ sz)
def aOC(σ:Srt)(sz:Nat):ah:=.seq (aOB σ sz) (aOA σ sz)
def EC(σ:Srt)(sz:Nat):AFunc:=⟨[P.nat 0,P.nat 1,P.nat 2,P.nat 3],[],(aOC σ sz)⟩
def aJz(σ:Srt)(sz:Nat):ah:=.region [⟨D 13,.mov (R 1),none⟩,⟨D 8,.mov (R 13),none⟩] []
def aJx(σ:Srt)(sz:Nat):ah:=.region [⟨D 9,.mov (.k (.c (.f (.int .i64 0)))),none⟩] []
def aJv(σ:Srt)(sz:Nat):ah:=.region [⟨D 14,.mov (R 2),none⟩,⟨D 15,.mov (R 1),none⟩,⟨D 16,.bin .sub (R 14) (R 15),none⟩,⟨D 10,.mov (R 16),none⟩] []
def aJs(σ:Srt)(sz:Nat):ah:=.region [⟨D 17,.mov (R 10),none⟩,⟨D 18,.bin .sub (R 17) (.k (.c (.f (.int .i64 1)))),none⟩,⟨D 19,.bin .quo (R 18) (.k (.c (.f (.int .i64 2)))),none⟩,⟨D 11,.mov (R 19),none⟩] []
def aAQ(σ:Srt)(sz:Nat):ah:=.region [⟨D 20,.mov (R 11),none⟩,⟨D 21,.bin .geq (R 20) (.k (.c (.f (.int .i64 0)))),none⟩] []
def aAP(σ:Srt)(sz:Nat):ah:=.cond (R 21) .skip (.exit 0)
def aAR(σ:Srt)(sz:Nat):ah:=.seq (aAQ σ sz) (aAP σ sz)
def aAM(σ:Srt)(sz:Nat):ah:=.region [⟨D 24,.mov (R 0),none⟩,⟨D 25,.mov (R 11),none⟩,⟨D 26,.mov (R 10),none⟩,⟨D 27,.mov (R 8),none⟩,⟨D 28,.mov (R 3),none⟩,⟨D 29,.call σ.sift [(R 24),(R 25),(R 26),(R 27),(R 28)] true,none⟩] []
def aAN(σ:Srt)(sz:Nat):ah:=.block 1 (aAM σ sz)
def aAL(σ:Srt)(sz:Nat):ah:=.region [⟨D 22,.mov (R 11),none⟩,⟨D 23,.bin .sub (R 22) (.k (.c (.f (.int .i64 1)))),none⟩,⟨D 11,.mov (R 23),none⟩] []
def aAO(σ:Srt)(sz:Nat):ah:=.seq (aAN σ sz) (aAL σ sz)
def aAS(σ:Srt)(sz:Nat):ah:=.seq (aAR σ sz) (aAO σ sz)
def aAT(σ:Srt)(sz:Nat):ah:=.loop (aAS σ sz)
def aJr(σ:Srt)(sz:Nat):ah:=.block 0 (aAT σ sz)
def aJt(σ:Srt)(sz:Nat):ah:=.seq (aJs σ sz) (aJr σ sz)
def aAK(σ:Srt)(sz:Nat):ah:=.region [⟨D 30,.mov (R 10),none⟩,⟨D 31,.bin .sub (R 30) (.k (.c (.f (.int .i64 1)))),none⟩,⟨D 12,.mov (R 31),none⟩] []
def aAF(σ:Srt)(sz:Nat):ah:=.region [⟨D 32,.mov (R 12),none⟩,⟨D 33,.bin .geq (R 32) (.k (.c (.f (.int .i64 0)))),none⟩] []
def aAE(σ:Srt)(sz:Nat):ah:=.cond (R 33) .skip (.exit 2)
def aAG(σ:Srt)(sz:Nat):ah:=.seq (aAF σ sz) (aAE σ sz)
def aAA(σ:Srt)(sz:Nat):ah:=.region [⟨D 36,.mov (R 0),none⟩,⟨D 37,.mov (R 8),none⟩,⟨D 38,.mov (R 0),none⟩,⟨D 39,.mov (R 8),none⟩,⟨D 40,.mov (R 12),none⟩,⟨D 41,.bin .add (R 39) (R 40),none⟩,⟨D 42,.mov (R 0),none⟩,⟨D 43,.mov (R 8),none⟩,⟨D 44,.mov (R 12),none⟩,⟨D 45,.bin .add (R 43) (R 44),none⟩,⟨D 46,.aF sz none (R 42) (R 45),none⟩,⟨D 47,.load (some sz) (R 46),none⟩,⟨D 48,.mov (R 0),none⟩,⟨D 49,.mov (R 8),none⟩,⟨D 50,.aF sz none (R 48) (R 49),none⟩,⟨D 51,.load (some sz) (R 50),none⟩,⟨D 52,.aF sz none (R 36) (R 37),none⟩,⟨none,.store sz (R 52) (R 47),none⟩,⟨D 53,.aF sz none (R 38) (R 41),none⟩,⟨none,.store sz (R 53) (R 51),none⟩] []
def aAz(σ:Srt)(sz:Nat):ah:=.region [⟨D 54,.mov (R 0),none⟩,⟨D 55,.mov (R 9),none⟩,⟨D 56,.mov (R 12),none⟩,⟨D 57,.mov (R 8),none⟩,⟨D 58,.mov (R 3),none⟩,⟨D 59,.call σ.sift [(R 54),(R 55),(R 56),(R 57),(R 58)] true,none⟩] []
def aAB(σ:Srt)(sz:Nat):ah:=.seq (aAA σ sz) (aAz σ sz)
def aAC(σ:Srt)(sz:Nat):ah:=.block 3 (aAB σ sz)
def aAy(σ:Srt)(sz:Nat):ah:=.region [⟨D 34,.mov (R 12),none⟩,⟨D 35,.bin .sub (R 34) (.k (.c (.f (.int .i64 1)))),none⟩,⟨D 12,.mov (R 35),none⟩] []
def aAD(σ:Srt)(sz:Nat):ah:=.seq (aAC σ sz) (aAy σ sz)
def aAH(σ:Srt)(sz:Nat):ah:=.seq (aAG σ sz) (aAD σ sz)
def aAI(σ:Srt)(sz:Nat):ah:=.loop (aAH σ sz)
def aAJ(σ:Srt)(sz:Nat):ah:=.block 2 (aAI σ sz)
def Tn(σ:Srt)(sz:Nat):ah:=.seq (aAK σ sz) (aAJ σ sz)
def aJu(σ:Srt)(sz:Nat):ah:=.seq (aJt σ sz) (Tn σ sz)
def aJw(σ:Srt)(sz:Nat):ah:=.seq (aJv σ sz) (aJu σ sz)
def aJy(σ:Srt)(sz:Nat):ah:=.seq (aJx σ sz) (aJw σ sz)
def aJA(σ:Srt)(sz:Nat):ah:=.seq (aJz σ sz) (aJy σ sz)
def Hw(σ:Srt)(sz:Nat):AFunc:=⟨[P.nat 0,P.nat 1,P.nat 2,P.nat 3],[],(aJA σ sz)⟩
def aFg(σ:Srt)(sz:Nat):ah:=.region [⟨D 12,.mov (R 1),none⟩,⟨D 10,.mov (R 12),none⟩] []
def aFc(σ:Srt)(sz:Nat):ah:=.region [⟨D 13,.mov (R 10),none⟩,⟨D 14,.bin .mul (.k (.c (.f (.int .i64 2)))) (R 13),none⟩,⟨D 15,.bin .add (R 14) (.k (.c (.f (.int .i64 1)))),none⟩,⟨D 11,.mov (R 15),none⟩] []
def aE9(σ:Srt)(sz:Nat):ah:=.region [⟨D 16,.mov (R 11),none⟩,⟨D 17,.mov (R 2),none⟩,⟨D 18,.bin .geq (R 16) (R 17),none⟩] []
def axf(σ:Srt)(sz:Nat):ah:=.cond (R 18) (.exit 0) .skip
def aFa(σ:Srt)(sz:Nat):ah:=.seq (aE9 σ sz) (axf σ sz)
def axc(σ:Srt)(sz:Nat):ah:=.region [⟨D 19,.mov (R 11),none⟩,⟨D 20,.bin .add (R 19) (.k (.c (.f (.int .i64 1)))),none⟩,⟨D 21,.mov (R 2),none⟩,⟨D 22,.bin .lss (R 20) (R 21),none⟩,⟨D 23,.mov (R 22),none⟩,⟨D 24,.mov (R 4),G 23 true⟩,⟨D 25,.mov (R 0),G 23 true⟩,⟨D 26,.mov (R 3),G 23 true⟩,⟨D 27,.mov (R 11),G 23 true⟩,⟨D 28,.bin .add (R 26) (R 27),G 23 true⟩,⟨D 29,.aF sz none (R 25) (R 28),G 23 true⟩,⟨D 30,.load (some sz) (R 29),G 23 true⟩,⟨D 31,.mov (R 0),G 23 true⟩,⟨D 32,.mov (R 3),G 23 true⟩,⟨D 33,.mov (R 11),G 23 true⟩,⟨D 34,.bin .add (R 32) (R 33),G 23 true⟩,⟨D 35,.bin .add (R 34) (.k (.c (.f (.int .i64 1)))),G 23 true⟩,⟨D 36,.aF sz none (R 31) (R 35),G 23 true⟩,⟨D 37,.load (some sz) (R 36),G 23 true⟩,⟨D 38,.bQ (R 24) [(R 30),(R 37)] true,G 23 true⟩,⟨D 39,.bin .lss (R 38) (.k (.c (.f (.int .i64 0)))),G 23 true⟩,⟨D 40,.pick (R 23) (R 39) (.k (.c (.f (.bool false)))),none⟩] []
def axa(σ:Srt)(sz:Nat):ah:=.region [⟨D 41,.mov (R 11),none⟩,⟨D 42,.bin .add (R 41) (.k (.c (.f (.int .i64 1)))),none⟩,⟨D 11,.mov (R 42),none⟩] []
def axb(σ:Srt)(sz:Nat):ah:=.cond (R 40) (axa σ sz) .skip
def axd(σ:Srt)(sz:Nat):ah:=.seq (axc σ sz) (axb σ sz)
def aw8(σ:Srt)(sz:Nat):ah:=.region [⟨D 43,.mov (R 4),none⟩,⟨D 44,.mov (R 0),none⟩,⟨D 45,.mov (R 3),none⟩,⟨D 46,.mov (R 10),none⟩,⟨D 47,.bin .add (R 45) (R 46),none⟩,⟨D 48,.aF sz none (R 44) (R 47),none⟩,⟨D 49,.load (some sz) (R 48),none⟩,⟨D 50,.mov (R 0),none⟩,⟨D 51,.mov (R 3),none⟩,⟨D 52,.mov (R 11),none⟩,⟨D 53,.bin .add (R 51) (R 52),none⟩,⟨D 54,.aF sz none (R 50) (R 53),none⟩,⟨D 55,.load (some sz) (R 54),none⟩,⟨D 56,.bQ (R 43) [(R 49),(R 55)] true,none⟩,⟨D 57,.bin .lss (R 56) (.k (.c (.f (.int .i64 0)))),none⟩,⟨D 58,.un .not (R 57),none⟩] []
def aw7(σ:Srt)(sz:Nat):ah:=.cond (R 58) .ret .skip
def aw9(σ:Srt)(sz:Nat):ah:=.seq (aw8 σ sz) (aw7 σ sz)
def aw5(σ:Srt)(sz:Nat):ah:=.region [⟨D 59,.mov (R 0),none⟩,⟨D 60,.mov (R 3),none⟩,⟨D 61,.mov (R 10),none⟩,⟨D 62,.bin .add (R 60) (R 61),none⟩,⟨D 63,.mov (R 0),none⟩,⟨D 64,.mov (R 3),none⟩,⟨D 65,.mov (R 11),none⟩,⟨D 66,.bin .add (R 64) (R 65),none⟩,⟨D 67,.mov (R 0),none⟩,⟨D 68,.mov (R 3),none⟩,⟨D 69,.mov (R 11),none⟩,⟨D 70,.bin .add (R 68) (R 69),none⟩,⟨D 71,.aF sz none (R 67) (R 70),none⟩,⟨D 72,.load (some sz) (R 71),none⟩,⟨D 73,.mov (R 0),none⟩,⟨D 74,.mov (R 3),none⟩,⟨D 75,.mov (R 10),none⟩,⟨D 76,.bin .add (R 74) (R 75),none⟩,⟨D 77,.aF sz none (R 73) (R 76),none⟩,⟨D 78,.load (some sz) (R 77),none⟩,⟨D 79,.aF sz none (R 59) (R 62),none⟩,⟨none,.store sz (R 79) (R 72),none⟩,⟨D 80,.aF sz none (R 63) (R 66),none⟩,⟨none,.store sz (R 80) (R 78),none⟩] []
def aw4(σ:Srt)(sz:Nat):ah:=.region [⟨D 81,.mov (R 11),none⟩,⟨D 10,.mov (R 81),none⟩] []
def aw6(σ:Srt)(sz:Nat):ah:=.seq (aw5 σ sz) (aw4 σ sz)
def Rx(σ:Srt)(sz:Nat):ah:=.seq (aw9 σ sz) (aw6 σ sz)
def axe(σ:Srt)(sz:Nat):ah:=.seq (axd σ sz) (Rx σ sz)
def aFb(σ:Srt)(sz:Nat):ah:=.seq (aFa σ sz) (axe σ sz)
def aFd(σ:Srt)(sz:Nat):ah:=.seq (aFc σ sz) (aFb σ sz)
def ai0(σ:Srt)(sz:Nat):ah:=.block 1 (aFd σ sz)
def aFe(σ:Srt)(sz:Nat):ah:=.loop (ai0 σ sz)
def aFf(σ:Srt)(sz:Nat):ah:=.block 0 (aFe σ sz)
def aFh(σ:Srt)(sz:Nat):ah:=.seq (aFg σ sz) (aFf σ sz)
def AY(σ:Srt)(sz:Nat):AFunc:=⟨[P.nat 0,P.nat 1,P.nat 2,P.nat 3,P.nat 4],[],(aFh σ sz)⟩
def aPz(σ:Srt)(sz:Nat):ah:=.region [⟨D 13,.mov (R 2),none⟩,⟨D 14,.mov (R 1),none⟩,⟨D 15,.bin .sub (R 13) (R 14),none⟩,⟨D 8,.mov (R 15),none⟩] []
def aPx(σ:Srt)(sz:Nat):ah:=.region [⟨D 16,.mov (R 8),none⟩,⟨D 17,.bin .geq (R 16) (.k (.c (.f (.int .i64 8)))),none⟩] []
def aPu(σ:Srt)(sz:Nat):ah:=.region [⟨D 18,.mov (R 8),none⟩,⟨D 19,.cvi .u64 (R 18),none⟩,⟨D 9,.alloc [(.int .u64 0)],none⟩,⟨none,.store 1 (R 9) (R 19),none⟩] []
def aPs(σ:Srt)(sz:Nat):ah:=.region [⟨D 20,.mov (R 8),none⟩,⟨D 21,.call σ.npt [(R 20)] false,none⟩,⟨D 10,.mov (R 21),none⟩] []
def aKk(σ:Srt)(sz:Nat):ah:=.region [⟨D 22,.mov (R 1),none⟩,⟨D 23,.mov (R 8),none⟩,⟨D 24,.bin .quo (R 23) (.k (.c (.f (.int .i64 4)))),none⟩,⟨D 25,.bin .mul (R 24) (.k (.c (.f (.int .i64 2)))),none⟩,⟨D 26,.bin .add (R 22) (R 25),none⟩,⟨D 27,.bin .sub (R 26) (.k (.c (.f (.int .i64 1)))),none⟩,⟨D 11,.mov (R 27),none⟩] []
def aKg(σ:Srt)(sz:Nat):ah:=.region [⟨D 28,.mov (R 11),none⟩,⟨D 29,.mov (R 1),none⟩,⟨D 30,.mov (R 8),none⟩,⟨D 31,.bin .quo (R 30) (.k (.c (.f (.int .i64 4)))),none⟩,⟨D 32,.bin .mul (R 31) (.k (.c (.f (.int .i64 2)))),none⟩,⟨D 33,.bin .add (R 29) (R 32),none⟩,⟨D 34,.bin .add (R 33) (.k (.c (.f (.int .i64 1)))),none⟩,⟨D 35,.bin .leq (R 28) (R 34),none⟩] []
def aKf(σ:Srt)(sz:Nat):ah:=.cond (R 35) .skip (.exit 0)
def aKh(σ:Srt)(sz:Nat):ah:=.seq (aKg σ sz) (aKf σ sz)
def aKb(σ:Srt)(sz:Nat):ah:=.region [⟨D 38,.call σ.nxt [(R 9)] true,none⟩,⟨D 39,.mov (R 10),none⟩,⟨D 40,.bin .sub (R 39) (.k (.c (.f (.int .u64 1)))),none⟩,⟨D 41,.bin .and (R 38) (R 40),none⟩,⟨D 42,.cvi .i64 (R 41),none⟩,⟨D 12,.mov (R 42),none⟩] []
def aJ8(σ:Srt)(sz:Nat):ah:=.region [⟨D 43,.mov (R 12),none⟩,⟨D 44,.mov (R 8),none⟩,⟨D 45,.bin .geq (R 43) (R 44),none⟩] []
def aJ6(σ:Srt)(sz:Nat):ah:=.region [⟨D 46,.mov (R 12),none⟩,⟨D 47,.mov (R 8),none⟩,⟨D 48,.bin .sub (R 46) (R 47),none⟩,⟨D 12,.mov (R 48),none⟩] []
def aJ7(σ:Srt)(sz:Nat):ah:=.cond (R 45) (aJ6 σ sz) .skip
def aJ9(σ:Srt)(sz:Nat):ah:=.seq (aJ8 σ sz) (aJ7 σ sz)
def ak5(σ:Srt)(sz:Nat):ah:=.region [⟨D 49,.mov (R 0),none⟩,⟨D 50,.mov (R 11),none⟩,⟨D 51,.mov (R 0),none⟩,⟨D 52,.mov (R 1),none⟩,⟨D 53,.mov (R 12),none⟩,⟨D 54,.bin .add (R 52) (R 53),none⟩,⟨D 55,.mov (R 0),none⟩,⟨D 56,.mov (R 1),none⟩,⟨D 57,.mov (R 12),none⟩,⟨D 58,.bin .add (R 56) (R 57),none⟩,⟨D 59,.aF sz none (R 55) (R 58),none⟩,⟨D 60,.load (some sz) (R 59),none⟩,⟨D 61,.mov (R 0),none⟩,⟨D 62,.mov (R 11),none⟩,⟨D 63,.aF sz none (R 61) (R 62),none⟩,⟨D 64,.load (some sz) (R 63),none⟩,⟨D 65,.aF sz none (R 49) (R 50),none⟩,⟨none,.store sz (R 65) (R 60),none⟩,⟨D 66,.aF sz none (R 51) (R 54),none⟩,⟨none,.store sz (R 66) (R 64),none⟩] []
def aKa(σ:Srt)(sz:Nat):ah:=.seq (aJ9 σ sz) (ak5 σ sz)
def aKc(σ:Srt)(sz:Nat):ah:=.seq (aKb σ sz) (aKa σ sz)
def aKd(σ:Srt)(sz:Nat):ah:=.block 1 (aKc σ sz)
def ak4(σ:Srt)(sz:Nat):ah:=.region [⟨D 36,.mov (R 11),none⟩,⟨D 37,.bin .add (R 36) (.k (.c (.f (.int .i64 1)))),none⟩,⟨D 11,.mov (R 37),none⟩] []
def aKe(σ:Srt)(sz:Nat):ah:=.seq (aKd σ sz) (ak4 σ sz)
def ak6(σ:Srt)(sz:Nat):ah:=.seq (aKh σ sz) (aKe σ sz)
def aKi(σ:Srt)(sz:Nat):ah:=.loop (ak6 σ sz)
def aKj(σ:Srt)(sz:Nat):ah:=.block 0 (aKi σ sz)
def aPr(σ:Srt)(sz:Nat):ah:=.seq (aKk σ sz) (aKj σ sz)
def aPt(σ:Srt)(sz:Nat):ah:=.seq (aPs σ sz) (aPr σ sz)
def aPv(σ:Srt)(sz:Nat):ah:=.seq (aPu σ sz) (aPt σ sz)
def aPw(σ:Srt)(sz:Nat):ah:=.cond (R 17) (aPv σ sz) .skip
def aPy(σ:Srt)(sz:Nat):ah:=.seq (aPx σ sz) (aPw σ sz)
def aPA(σ:Srt)(sz:Nat):ah:=.seq (aPz σ sz) (aPy σ sz)
def TM(σ:Srt)(sz:Nat):AFunc:=⟨[P.nat 0,P.nat 1,P.nat 2,P.nat 3],[],(aPA σ sz)⟩
def aM0(σ:Srt)(sz:Nat):ah:=.region [⟨D 8,.mov (.k (.c (.f (.int .i64 0)))),none⟩,⟨D 9,.mov (.k (.c (.f (.int .i64 0)))),none⟩] []
def aMY(σ:Srt)(sz:Nat):ah:=.region [⟨D 15,.mov (R 2),none⟩,⟨D 16,.mov (R 1),none⟩,⟨D 17,.bin .sub (R 15) (R 16),none⟩,⟨D 10,.mov (R 17),none⟩] []
def aMW(σ:Srt)(sz:Nat):ah:=.region [⟨D 11,.alloc [(.int .i64 0)],none⟩] []
def aMU(σ:Srt)(sz:Nat):ah:=.region [⟨D 18,.mov (R 1),none⟩,⟨D 19,.mov (R 10),none⟩,⟨D 20,.bin .quo (R 19) (.k (.c (.f (.int .i64 4)))),none⟩,⟨D 21,.bin .mul (R 20) (.k (.c (.f (.int .i64 1)))),none⟩,⟨D 22,.bin .add (R 18) (R 21),none⟩,⟨D 12,.mov (R 22),none⟩] []
def aMS(σ:Srt)(sz:Nat):ah:=.region [⟨D 23,.mov (R 1),none⟩,⟨D 24,.mov (R 10),none⟩,⟨D 25,.bin .quo (R 24) (.k (.c (.f (.int .i64 4)))),none⟩,⟨D 26,.bin .mul (R 25) (.k (.c (.f (.int .i64 2)))),none⟩,⟨D 27,.bin .add (R 23) (R 26),none⟩,⟨D 13,.mov (R 27),none⟩] []
def aGz(σ:Srt)(sz:Nat):ah:=.region [⟨D 28,.mov (R 1),none⟩,⟨D 29,.mov (R 10),none⟩,⟨D 30,.bin .quo (R 29) (.k (.c (.f (.int .i64 4)))),none⟩,⟨D 31,.bin .mul (R 30) (.k (.c (.f (.int .i64 3)))),none⟩,⟨D 32,.bin .add (R 28) (R 31),none⟩,⟨D 14,.mov (R 32),none⟩] []
def aGw(σ:Srt)(sz:Nat):ah:=.region [⟨D 33,.mov (R 10),none⟩,⟨D 34,.bin .geq (R 33) (.k (.c (.f (.int .i64 8)))),none⟩] []
def aGs(σ:Srt)(sz:Nat):ah:=.region [⟨D 35,.mov (R 10),none⟩,⟨D 36,.bin .geq (R 35) (.k (.c (.f (.int .i64 50)))),none⟩] []
def aGp(σ:Srt)(sz:Nat):ah:=.region [⟨D 37,.mov (R 0),none⟩,⟨D 38,.mov (R 12),none⟩,⟨D 39,.mov (R 3),none⟩,⟨D 40,.call σ.BM [(R 37),(R 38),(R 11),(R 39)] true,none⟩,⟨D 12,.mov (R 40),none⟩] []
def aGn(σ:Srt)(sz:Nat):ah:=.region [⟨D 41,.mov (R 0),none⟩,⟨D 42,.mov (R 13),none⟩,⟨D 43,.mov (R 3),none⟩,⟨D 44,.call σ.BM [(R 41),(R 42),(R 11),(R 43)] true,none⟩,⟨D 13,.mov (R 44),none⟩] []
def aGm(σ:Srt)(sz:Nat):ah:=.region [⟨D 45,.mov (R 0),none⟩,⟨D 46,.mov (R 14),none⟩,⟨D 47,.mov (R 3),none⟩,⟨D 48,.call σ.BM [(R 45),(R 46),(R 11),(R 47)] true,none⟩,⟨D 14,.mov (R 48),none⟩] []
def aGo(σ:Srt)(sz:Nat):ah:=.seq (aGn σ sz) (aGm σ sz)
def aGq(σ:Srt)(sz:Nat):ah:=.seq (aGp σ sz) (aGo σ sz)
def aGr(σ:Srt)(sz:Nat):ah:=.cond (R 36) (aGq σ sz) .skip
def aGt(σ:Srt)(sz:Nat):ah:=.seq (aGs σ sz) (aGr σ sz)
def ajt(σ:Srt)(sz:Nat):ah:=.region [⟨D 49,.mov (R 0),none⟩,⟨D 50,.mov (R 12),none⟩,⟨D 51,.mov (R 13),none⟩,⟨D 52,.mov (R 14),none⟩,⟨D 53,.mov (R 3),none⟩,⟨D 54,.call σ.med [(R 49),(R 50),(R 51),(R 52),(R 11),(R 53)] true,none⟩,⟨D 13,.mov (R 54),none⟩] []
def aGu(σ:Srt)(sz:Nat):ah:=.seq (aGt σ sz) (ajt σ sz)
def aGv(σ:Srt)(sz:Nat):ah:=.cond (R 34) (aGu σ sz) .skip
def aGx(σ:Srt)(sz:Nat):ah:=.seq (aGw σ sz) (aGv σ sz)
def aGl(σ:Srt)(sz:Nat):ah:=.region [⟨D 55,.load none (R 11),none⟩] []
def aGi(σ:Srt)(sz:Nat):ah:=.region [⟨D 58,.bin .eql (R 55) (.k (.c (.f (.int .i64 0)))),none⟩,⟨D 57,.mov (R 58),none⟩] []
def aGf(σ:Srt)(sz:Nat):ah:=.region [⟨D 59,.mov (R 13),none⟩,⟨D 8,.mov (R 59),none⟩,⟨D 9,.mov (.k (.c (.f (.int .i64 1)))),none⟩] []
def aGg(σ:Srt)(sz:Nat):ah:=.seq (aGf σ sz) .ret
def aGd(σ:Srt)(sz:Nat):ah:=.region [⟨D 61,.bin .eql (R 55) (.k (.c (.f (.int .i64 12)))),none⟩,⟨D 60,.mov (R 61),none⟩] []
def aGa(σ:Srt)(sz:Nat):ah:=.region [⟨D 62,.mov (R 13),none⟩,⟨D 8,.mov (R 62),none⟩,⟨D 9,.mov (.k (.c (.f (.int .i64 2)))),none⟩] []
def aGb(σ:Srt)(sz:Nat):ah:=.seq (aGa σ sz) .ret
def aF8(σ:Srt)(sz:Nat):ah:=.region [⟨D 56,.mov (R 13),none⟩,⟨D 8,.mov (R 56),none⟩,⟨D 9,.mov (.k (.c (.f (.int .i64 0)))),none⟩] []
def aF9(σ:Srt)(sz:Nat):ah:=.seq (aF8 σ sz) .ret
def aGc(σ:Srt)(sz:Nat):ah:=.cond (R 60) (aGb σ sz) (aF9 σ sz)
def aGe(σ:Srt)(sz:Nat):ah:=.seq (aGd σ sz) (aGc σ sz)
def aGh(σ:Srt)(sz:Nat):ah:=.cond (R 57) (aGg σ sz) (aGe σ sz)
def aGj(σ:Srt)(sz:Nat):ah:=.seq (aGi σ sz) (aGh σ sz)
def aGk(σ:Srt)(sz:Nat):ah:=.block 0 (aGj σ sz)
def Na(σ:Srt)(sz:Nat):ah:=.seq (aGl σ sz) (aGk σ sz)
def aGy(σ:Srt)(sz:Nat):ah:=.seq (aGx σ sz) (Na σ sz)
def aGA(σ:Srt)(sz:Nat):ah:=.seq (aGz σ sz) (aGy σ sz)
def aMT(σ:Srt)(sz:Nat):ah:=.seq (aMS σ sz) (aGA σ sz)
def aMV(σ:Srt)(sz:Nat):ah:=.seq (aMU σ sz) (aMT σ sz)
def aMX(σ:Srt)(sz:Nat):ah:=.seq (aMW σ sz) (aMV σ sz)
def aMZ(σ:Srt)(sz:Nat):ah:=.seq (aMY σ sz) (aMX σ sz)
def aM1(σ:Srt)(sz:Nat):ah:=.seq (aM0 σ sz) (aMZ σ sz)
def RV(σ:Srt)(sz:Nat):AFunc:=⟨[P.nat 0,P.nat 1,P.nat 2,P.nat 3],[.tmp (P.nat 8),.tmp (P.nat 9)],(aM1 σ sz)⟩
def aME(σ:Srt)(sz:Nat):ah:=.region [⟨D 10,.mov (R 1),none⟩,⟨D 8,.mov (R 10),none⟩] []
def aMC(σ:Srt)(sz:Nat):ah:=.region [⟨D 11,.mov (R 2),none⟩,⟨D 12,.bin .sub (R 11) (.k (.c (.f (.int .i64 1)))),none⟩,⟨D 9,.mov (R 12),none⟩] []
def aMx(σ:Srt)(sz:Nat):ah:=.region [⟨D 13,.mov (R 8),none⟩,⟨D 14,.mov (R 9),none⟩,⟨D 15,.bin .lss (R 13) (R 14),none⟩] []
def aMw(σ:Srt)(sz:Nat):ah:=.cond (R 15) .skip (.exit 0)
def aMy(σ:Srt)(sz:Nat):ah:=.seq (aMx σ sz) (aMw σ sz)
def aFr(σ:Srt)(sz:Nat):ah:=.region [⟨D 16,.mov (R 0),none⟩,⟨D 17,.mov (R 8),none⟩,⟨D 18,.mov (R 0),none⟩,⟨D 19,.mov (R 9),none⟩,⟨D 20,.mov (R 0),none⟩,⟨D 21,.mov (R 9),none⟩,⟨D 22,.aF sz none (R 20) (R 21),none⟩,⟨D 23,.load (some sz) (R 22),none⟩,⟨D 24,.mov (R 0),none⟩,⟨D 25,.mov (R 8),none⟩,⟨D 26,.aF sz none (R 24) (R 25),none⟩,⟨D 27,.load (some sz) (R 26),none⟩,⟨D 28,.aF sz none (R 16) (R 17),none⟩,⟨none,.store sz (R 28) (R 23),none⟩,⟨D 29,.aF sz none (R 18) (R 19),none⟩,⟨none,.store sz (R 29) (R 27),none⟩] []
def aFp(σ:Srt)(sz:Nat):ah:=.region [⟨D 30,.mov (R 8),none⟩,⟨D 31,.bin .add (R 30) (.k (.c (.f (.int .i64 1)))),none⟩,⟨D 8,.mov (R 31),none⟩] []
def aFo(σ:Srt)(sz:Nat):ah:=.region [⟨D 32,.mov (R 9),none⟩,⟨D 33,.bin .sub (R 32) (.k (.c (.f (.int .i64 1)))),none⟩,⟨D 9,.mov (R 33),none⟩] []
def aFq(σ:Srt)(sz:Nat):ah:=.seq (aFp σ sz) (aFo σ sz)
def aFs(σ:Srt)(sz:Nat):ah:=.seq (aFr σ sz) (aFq σ sz)
def aFt(σ:Srt)(sz:Nat):ah:=.block 1 (aFs σ sz)
def aMz(σ:Srt)(sz:Nat):ah:=.seq (aMy σ sz) (aFt σ sz)
def aMA(σ:Srt)(sz:Nat):ah:=.loop (aMz σ sz)
def aMB(σ:Srt)(sz:Nat):ah:=.block 0 (aMA σ sz)
def aMD(σ:Srt)(sz:Nat):ah:=.seq (aMC σ sz) (aMB σ sz)
def aMF(σ:Srt)(sz:Nat):ah:=.seq (aME σ sz) (aMD σ sz)
def RQ(σ:Srt)(sz:Nat):AFunc:=⟨[P.nat 0,P.nat 1,P.nat 2,P.nat 3],[],(aMF σ sz)⟩
def aIm(σ:Srt)(sz:Nat):ah:=.region [⟨D 10,.mov (.k (.c (.f (.int .i64 0)))),none⟩,⟨D 11,.mov (.k (.c (.f (.bool false)))),none⟩] []
def aIk(σ:Srt)(sz:Nat):ah:=.region [⟨D 14,.mov (R 0),none⟩,⟨D 15,.mov (R 1),none⟩,⟨D 16,.mov (R 0),none⟩,⟨D 17,.mov (R 3),none⟩,⟨D 18,.mov (R 0),none⟩,⟨D 19,.mov (R 3),none⟩,⟨D 20,.aF sz none (R 18) (R 19),none⟩,⟨D 21,.load (some sz) (R 20),none⟩,⟨D 22,.mov (R 0),none⟩,⟨D 23,.mov (R 1),none⟩,⟨D 24,.aF sz none (R 22) (R 23),none⟩,⟨D 25,.load (some sz) (R 24),none⟩,⟨D 26,.aF sz none (R 14) (R 15),none⟩,⟨none,.store sz (R 26) (R 21),none⟩,⟨D 27,.aF sz none (R 16) (R 17),none⟩,⟨none,.store sz (R 27) (R 25),none⟩] []
def aIi(σ:Srt)(sz:Nat):ah:=.region [⟨D 28,.mov (R 1),none⟩,⟨D 29,.bin .add (R 28) (.k (.c (.f (.int .i64 1)))),none⟩,⟨D 30,.mov (R 2),none⟩,⟨D 31,.bin .sub (R 30) (.k (.c (.f (.int .i64 1)))),none⟩,⟨D 12,.mov (R 29),none⟩,⟨D 13,.mov (R 31),none⟩] []
def azA(σ:Srt)(sz:Nat):ah:=.region [⟨D 32,.mov (R 12),none⟩,⟨D 33,.mov (R 13),none⟩,⟨D 34,.bin .leq (R 32) (R 33),none⟩,⟨D 35,.mov (R 34),none⟩,⟨D 36,.mov (R 4),G 35 true⟩,⟨D 37,.mov (R 0),G 35 true⟩,⟨D 38,.mov (R 12),G 35 true⟩,⟨D 39,.aF sz none (R 37) (R 38),G 35 true⟩,⟨D 40,.load (some sz) (R 39),G 35 true⟩,⟨D 41,.mov (R 0),G 35 true⟩,⟨D 42,.mov (R 1),G 35 true⟩,⟨D 43,.aF sz none (R 41) (R 42),G 35 true⟩,⟨D 44,.load (some sz) (R 43),G 35 true⟩,⟨D 45,.bQ (R 36) [(R 40),(R 44)] true,G 35 true⟩,⟨D 46,.bin .lss (R 45) (.k (.c (.f (.int .i64 0)))),G 35 true⟩,⟨D 47,.pick (R 35) (R 46) (.k (.c (.f (.bool false)))),none⟩] []
def azz(σ:Srt)(sz:Nat):ah:=.cond (R 47) .skip (.exit 0)
def azB(σ:Srt)(sz:Nat):ah:=.seq (azA σ sz) (azz σ sz)
def azx(σ:Srt)(sz:Nat):ah:=.region [⟨D 48,.mov (R 12),none⟩,⟨D 49,.bin .add (R 48) (.k (.c (.f (.int .i64 1)))),none⟩,⟨D 12,.mov (R 49),none⟩] []
def azy(σ:Srt)(sz:Nat):ah:=.block 1 (azx σ sz)
def aIf(σ:Srt)(sz:Nat):ah:=.seq (azB σ sz) (azy σ sz)
def aIg(σ:Srt)(sz:Nat):ah:=.loop (aIf σ sz)
def ajH(σ:Srt)(sz:Nat):ah:=.block 0 (aIg σ sz)
def azs(σ:Srt)(sz:Nat):ah:=.region [⟨D 50,.mov (R 12),none⟩,⟨D 51,.mov (R 13),none⟩,⟨D 52,.bin .leq (R 50) (R 51),none⟩,⟨D 53,.mov (R 52),none⟩,⟨D 54,.mov (R 4),G 53 true⟩,⟨D 55,.mov (R 0),G 53 true⟩,⟨D 56,.mov (R 13),G 53 true⟩,⟨D 57,.aF sz none (R 55) (R 56),G 53 true⟩,⟨D 58,.load (some sz) (R 57),G 53 true⟩,⟨D 59,.mov (R 0),G 53 true⟩,⟨D 60,.mov (R 1),G 53 true⟩,⟨D 61,.aF sz none (R 59) (R 60),G 53 true⟩,⟨D 62,.load (some sz) (R 61),G 53 true⟩,⟨D 63,.bQ (R 54) [(R 58),(R 62)] true,G 53 true⟩,⟨D 64,.bin .lss (R 63) (.k (.c (.f (.int .i64 0)))),G 53 true⟩,⟨D 65,.un .not (R 64),G 53 true⟩,⟨D 66,.pick (R 53) (R 65) (.k (.c (.f (.bool false)))),none⟩] []
def azr(σ:Srt)(sz:Nat):ah:=.cond (R 66) .skip (.exit 2)
def azt(σ:Srt)(sz:Nat):ah:=.seq (azs σ sz) (azr σ sz)
def azp(σ:Srt)(sz:Nat):ah:=.region [⟨D 67,.mov (R 13),none⟩,⟨D 68,.bin .sub (R 67) (.k (.c (.f (.int .i64 1)))),none⟩,⟨D 13,.mov (R 68),none⟩] []
def azq(σ:Srt)(sz:Nat):ah:=.block 3 (azp σ sz)
def azu(σ:Srt)(sz:Nat):ah:=.seq (azt σ sz) (azq σ sz)
def azv(σ:Srt)(sz:Nat):ah:=.loop (azu σ sz)
def SB(σ:Srt)(sz:Nat):ah:=.block 2 (azv σ sz)
def azm(σ:Srt)(sz:Nat):ah:=.region [⟨D 69,.mov (R 12),none⟩,⟨D 70,.mov (R 13),none⟩,⟨D 71,.bin .gtr (R 69) (R 70),none⟩] []
def azj(σ:Srt)(sz:Nat):ah:=.region [⟨D 72,.mov (R 0),none⟩,⟨D 73,.mov (R 13),none⟩,⟨D 74,.mov (R 0),none⟩,⟨D 75,.mov (R 1),none⟩,⟨D 76,.mov (R 0),none⟩,⟨D 77,.mov (R 1),none⟩,⟨D 78,.aF sz none (R 76) (R 77),none⟩,⟨D 79,.load (some sz) (R 78),none⟩,⟨D 80,.mov (R 0),none⟩,⟨D 81,.mov (R 13),none⟩,⟨D 82,.aF sz none (R 80) (R 81),none⟩,⟨D 83,.load (some sz) (R 82),none⟩,⟨D 84,.aF sz none (R 72) (R 73),none⟩,⟨none,.store sz (R 84) (R 79),none⟩,⟨D 85,.aF sz none (R 74) (R 75),none⟩,⟨none,.store sz (R 85) (R 83),none⟩] []
def azh(σ:Srt)(sz:Nat):ah:=.region [⟨D 86,.mov (R 13),none⟩,⟨D 10,.mov (R 86),none⟩,⟨D 11,.mov (.k (.c (.f (.bool true)))),none⟩] []
def azi(σ:Srt)(sz:Nat):ah:=.seq (azh σ sz) .ret
def azk(σ:Srt)(sz:Nat):ah:=.seq (azj σ sz) (azi σ sz)
def azl(σ:Srt)(sz:Nat):ah:=.cond (R 71) (azk σ sz) .skip
def azn(σ:Srt)(sz:Nat):ah:=.seq (azm σ sz) (azl σ sz)
def azf(σ:Srt)(sz:Nat):ah:=.region [⟨D 87,.mov (R 0),none⟩,⟨D 88,.mov (R 12),none⟩,⟨D 89,.mov (R 0),none⟩,⟨D 90,.mov (R 13),none⟩,⟨D 91,.mov (R 0),none⟩,⟨D 92,.mov (R 13),none⟩,⟨D 93,.aF sz none (R 91) (R 92),none⟩,⟨D 94,.load (some sz) (R 93),none⟩,⟨D 95,.mov (R 0),none⟩,⟨D 96,.mov (R 12),none⟩,⟨D 97,.aF sz none (R 95) (R 96),none⟩,⟨D 98,.load (some sz) (R 97),none⟩,⟨D 99,.aF sz none (R 87) (R 88),none⟩,⟨none,.store sz (R 99) (R 94),none⟩,⟨D 100,.aF sz none (R 89) (R 90),none⟩,⟨none,.store sz (R 100) (R 98),none⟩] []
def azd(σ:Srt)(sz:Nat):ah:=.region [⟨D 101,.mov (R 12),none⟩,⟨D 102,.bin .add (R 101) (.k (.c (.f (.int .i64 1)))),none⟩,⟨D 12,.mov (R 102),none⟩] []
def azb(σ:Srt)(sz:Nat):ah:=.region [⟨D 103,.mov (R 13),none⟩,⟨D 104,.bin .sub (R 103) (.k (.c (.f (.int .i64 1)))),none⟩,⟨D 13,.mov (R 104),none⟩] []
def ay2(σ:Srt)(sz:Nat):ah:=.region [⟨D 105,.mov (R 12),none⟩,⟨D 106,.mov (R 13),none⟩,⟨D 107,.bin .leq (R 105) (R 106),none⟩,⟨D 108,.mov (R 107),none⟩,⟨D 109,.mov (R 4),G 108 true⟩,⟨D 110,.mov (R 0),G 108 true⟩,⟨D 111,.mov (R 12),G 108 true⟩,⟨D 112,.aF sz none (R 110) (R 111),G 108 true⟩,⟨D 113,.load (some sz) (R 112),G 108 true⟩,⟨D 114,.mov (R 0),G 108 true⟩,⟨D 115,.mov (R 1),G 108 true⟩,⟨D 116,.aF sz none (R 114) (R 115),G 108 true⟩,⟨D 117,.load (some sz) (R 116),G 108 true⟩,⟨D 118,.bQ (R 109) [(R 113),(R 117)] true,G 108 true⟩,⟨D 119,.bin .lss (R 118) (.k (.c (.f (.int .i64 0)))),G 108 true⟩,⟨D 120,.pick (R 108) (R 119) (.k (.c (.f (.bool false)))),none⟩] []
def ay1(σ:Srt)(sz:Nat):ah:=.cond (R 120) .skip (.exit 6)
def ay3(σ:Srt)(sz:Nat):ah:=.seq (ay2 σ sz) (ay1 σ sz)
def ayZ(σ:Srt)(sz:Nat):ah:=.region [⟨D 121,.mov (R 12),none⟩,⟨D 122,.bin .add (R 121) (.k (.c (.f (.int .i64 1)))),none⟩,⟨D 12,.mov (R 122),none⟩] []
def ay0(σ:Srt)(sz:Nat):ah:=.block 7 (ayZ σ sz)
def ay4(σ:Srt)(sz:Nat):ah:=.seq (ay3 σ sz) (ay0 σ sz)
def ay5(σ:Srt)(sz:Nat):ah:=.loop (ay4 σ sz)
def SA(σ:Srt)(sz:Nat):ah:=.block 6 (ay5 σ sz)
def ayU(σ:Srt)(sz:Nat):ah:=.region [⟨D 123,.mov (R 12),none⟩,⟨D 124,.mov (R 13),none⟩,⟨D 125,.bin .leq (R 123) (R 124),none⟩,⟨D 126,.mov (R 125),none⟩,⟨D 127,.mov (R 4),G 126 true⟩,⟨D 128,.mov (R 0),G 126 true⟩,⟨D 129,.mov (R 13),G 126 true⟩,⟨D 130,.aF sz none (R 128) (R 129),G 126 true⟩,⟨D 131,.load (some sz) (R 130),G 126 true⟩,⟨D 132,.mov (R 0),G 126 true⟩,⟨D 133,.mov (R 1),G 126 true⟩,⟨D 134,.aF sz none (R 132) (R 133),G 126 true⟩,⟨D 135,.load (some sz) (R 134),G 126 true⟩,⟨D 136,.bQ (R 127) [(R 131),(R 135)] true,G 126 true⟩,⟨D 137,.bin .lss (R 136) (.k (.c (.f (.int .i64 0)))),G 126 true⟩,⟨D 138,.un .not (R 137),G 126 true⟩,⟨D 139,.pick (R 126) (R 138) (.k (.c (.f (.bool false)))),none⟩] []
def ayT(σ:Srt)(sz:Nat):ah:=.cond (R 139) .skip (.exit 8)
def ayV(σ:Srt)(sz:Nat):ah:=.seq (ayU σ sz) (ayT σ sz)
def ayR(σ:Srt)(sz:Nat):ah:=.region [⟨D 140,.mov (R 13),none⟩,⟨D 141,.bin .sub (R 140) (.k (.c (.f (.int .i64 1)))),none⟩,⟨D 13,.mov (R 141),none⟩] []
def ayS(σ:Srt)(sz:Nat):ah:=.block 9 (ayR σ sz)
def ayW(σ:Srt)(sz:Nat):ah:=.seq (ayV σ sz) (ayS σ sz)
def ayX(σ:Srt)(sz:Nat):ah:=.loop (ayW σ sz)
def Sz(σ:Srt)(sz:Nat):ah:=.block 8 (ayX σ sz)
def ayO(σ:Srt)(sz:Nat):ah:=.region [⟨D 142,.mov (R 12),none⟩,⟨D 143,.mov (R 13),none⟩,⟨D 144,.bin .gtr (R 142) (R 143),none⟩] []
def ayN(σ:Srt)(sz:Nat):ah:=.cond (R 144) (.exit 4) .skip
def ayP(σ:Srt)(sz:Nat):ah:=.seq (ayO σ sz) (ayN σ sz)
def ayL(σ:Srt)(sz:Nat):ah:=.region [⟨D 145,.mov (R 0),none⟩,⟨D 146,.mov (R 12),none⟩,⟨D 147,.mov (R 0),none⟩,⟨D 148,.mov (R 13),none⟩,⟨D 149,.mov (R 0),none⟩,⟨D 150,.mov (R 13),none⟩,⟨D 151,.aF sz none (R 149) (R 150),none⟩,⟨D 152,.load (some sz) (R 151),none⟩,⟨D 153,.mov (R 0),none⟩,⟨D 154,.mov (R 12),none⟩,⟨D 155,.aF sz none (R 153) (R 154),none⟩,⟨D 156,.load (some sz) (R 155),none⟩,⟨D 157,.aF sz none (R 145) (R 146),none⟩,⟨none,.store sz (R 157) (R 152),none⟩,⟨D 158,.aF sz none (R 147) (R 148),none⟩,⟨none,.store sz (R 158) (R 156),none⟩] []
def ayJ(σ:Srt)(sz:Nat):ah:=.region [⟨D 159,.mov (R 12),none⟩,⟨D 160,.bin .add (R 159) (.k (.c (.f (.int .i64 1)))),none⟩,⟨D 12,.mov (R 160),none⟩] []
def ayI(σ:Srt)(sz:Nat):ah:=.region [⟨D 161,.mov (R 13),none⟩,⟨D 162,.bin .sub (R 161) (.k (.c (.f (.int .i64 1)))),none⟩,⟨D 13,.mov (R 162),none⟩] []
def ayK(σ:Srt)(sz:Nat):ah:=.seq (ayJ σ sz) (ayI σ sz)
def ayM(σ:Srt)(sz:Nat):ah:=.seq (ayL σ sz) (ayK σ sz)
def ayQ(σ:Srt)(sz:Nat):ah:=.seq (ayP σ sz) (ayM σ sz)
def ayY(σ:Srt)(sz:Nat):ah:=.seq (Sz σ sz) (ayQ σ sz)
def ay6(σ:Srt)(sz:Nat):ah:=.seq (SA σ sz) (ayY σ sz)
def ay7(σ:Srt)(sz:Nat):ah:=.block 5 (ay6 σ sz)
def ay8(σ:Srt)(sz:Nat):ah:=.loop (ay7 σ sz)
def ay9(σ:Srt)(sz:Nat):ah:=.block 4 (ay8 σ sz)
def ayH(σ:Srt)(sz:Nat):ah:=.region [⟨D 163,.mov (R 0),none⟩,⟨D 164,.mov (R 13),none⟩,⟨D 165,.mov (R 0),none⟩,⟨D 166,.mov (R 1),none⟩,⟨D 167,.mov (R 0),none⟩,⟨D 168,.mov (R 1),none⟩,⟨D 169,.aF sz none (R 167) (R 168),none⟩,⟨D 170,.load (some sz) (R 169),none⟩,⟨D 171,.mov (R 0),none⟩,⟨D 172,.mov (R 13),none⟩,⟨D 173,.aF sz none (R 171) (R 172),none⟩,⟨D 174,.load (some sz) (R 173),none⟩,⟨D 175,.aF sz none (R 163) (R 164),none⟩,⟨none,.store sz (R 175) (R 170),none⟩,⟨D 176,.aF sz none (R 165) (R 166),none⟩,⟨none,.store sz (R 176) (R 174),none⟩] []
def ayF(σ:Srt)(sz:Nat):ah:=.region [⟨D 177,.mov (R 13),none⟩,⟨D 10,.mov (R 177),none⟩,⟨D 11,.mov (.k (.c (.f (.bool false)))),none⟩] []
def ayG(σ:Srt)(sz:Nat):ah:=.seq (ayF σ sz) .ret
def Sv(σ:Srt)(sz:Nat):ah:=.seq (ayH σ sz) (ayG σ sz)
def aza(σ:Srt)(sz:Nat):ah:=.seq (ay9 σ sz) (Sv σ sz)
def azc(σ:Srt)(sz:Nat):ah:=.seq (azb σ sz) (aza σ sz)
def aze(σ:Srt)(sz:Nat):ah:=.seq (azd σ sz) (azc σ sz)
def azg(σ:Srt)(sz:Nat):ah:=.seq (azf σ sz) (aze σ sz)
def azo(σ:Srt)(sz:Nat):ah:=.seq (azn σ sz) (azg σ sz)
def azw(σ:Srt)(sz:Nat):ah:=.seq (SB σ sz) (azo σ sz)
def aIh(σ:Srt)(sz:Nat):ah:=.seq (ajH σ sz) (azw σ sz)
def aIj(σ:Srt)(sz:Nat):ah:=.seq (aIi σ sz) (aIh σ sz)
def aIl(σ:Srt)(sz:Nat):ah:=.seq (aIk σ sz) (aIj σ sz)
def aIn(σ:Srt)(sz:Nat):ah:=.seq (aIm σ sz) (aIl σ sz)
def GU(σ:Srt)(sz:Nat):AFunc:=⟨[P.nat 0,P.nat 1,P.nat 2,P.nat 3,P.nat 4],[.tmp (P.nat 10),.tmp (P.nat 11)],(aIn σ sz)⟩
def aNa(σ:Srt)(sz:Nat):ah:=.region [⟨D 10,.mov (.k (.c (.f (.int .i64 0)))),none⟩] []
def aM8(σ:Srt)(sz:Nat):ah:=.region [⟨D 13,.mov (R 0),none⟩,⟨D 14,.mov (R 1),none⟩,⟨D 15,.mov (R 0),none⟩,⟨D 16,.mov (R 3),none⟩,⟨D 17,.mov (R 0),none⟩,⟨D 18,.mov (R 3),none⟩,⟨D 19,.aF sz none (R 17) (R 18),none⟩,⟨D 20,.load (some sz) (R 19),none⟩,⟨D 21,.mov (R 0),none⟩,⟨D 22,.mov (R 1),none⟩,⟨D 23,.aF sz none (R 21) (R 22),none⟩,⟨D 24,.load (some sz) (R 23),none⟩,⟨D 25,.aF sz none (R 13) (R 14),none⟩,⟨none,.store sz (R 25) (R 20),none⟩,⟨D 26,.aF sz none (R 15) (R 16),none⟩,⟨none,.store sz (R 26) (R 24),none⟩] []
def aM6(σ:Srt)(sz:Nat):ah:=.region [⟨D 27,.mov (R 1),none⟩,⟨D 28,.bin .add (R 27) (.k (.c (.f (.int .i64 1)))),none⟩,⟨D 29,.mov (R 2),none⟩,⟨D 30,.bin .sub (R 29) (.k (.c (.f (.int .i64 1)))),none⟩,⟨D 11,.mov (R 28),none⟩,⟨D 12,.mov (R 30),none⟩] []
def aG9(σ:Srt)(sz:Nat):ah:=.region [⟨D 31,.mov (R 11),none⟩,⟨D 32,.mov (R 12),none⟩,⟨D 33,.bin .leq (R 31) (R 32),none⟩,⟨D 34,.mov (R 33),none⟩,⟨D 35,.mov (R 4),G 34 true⟩,⟨D 36,.mov (R 0),G 34 true⟩,⟨D 37,.mov (R 1),G 34 true⟩,⟨D 38,.aF sz none (R 36) (R 37),G 34 true⟩,⟨D 39,.load (some sz) (R 38),G 34 true⟩,⟨D 40,.mov (R 0),G 34 true⟩,⟨D 41,.mov (R 11),G 34 true⟩,⟨D 42,.aF sz none (R 40) (R 41),G 34 true⟩,⟨D 43,.load (some sz) (R 42),G 34 true⟩,⟨D 44,.bQ (R 35) [(R 39),(R 43)] true,G 34 true⟩,⟨D 45,.bin .lss (R 44) (.k (.c (.f (.int .i64 0)))),G 34 true⟩,⟨D 46,.un .not (R 45),G 34 true⟩,⟨D 47,.pick (R 34) (R 46) (.k (.c (.f (.bool false)))),none⟩] []
def aG8(σ:Srt)(sz:Nat):ah:=.cond (R 47) .skip (.exit 2)
def aHa(σ:Srt)(sz:Nat):ah:=.seq (aG9 σ sz) (aG8 σ sz)
def aG6(σ:Srt)(sz:Nat):ah:=.region [⟨D 48,.mov (R 11),none⟩,⟨D 49,.bin .add (R 48) (.k (.c (.f (.int .i64 1)))),none⟩,⟨D 11,.mov (R 49),none⟩] []
def aG7(σ:Srt)(sz:Nat):ah:=.block 3 (aG6 σ sz)
def aHb(σ:Srt)(sz:Nat):ah:=.seq (aHa σ sz) (aG7 σ sz)
def aHc(σ:Srt)(sz:Nat):ah:=.loop (aHb σ sz)
def ajy(σ:Srt)(sz:Nat):ah:=.block 2 (aHc σ sz)
def aG1(σ:Srt)(sz:Nat):ah:=.region [⟨D 50,.mov (R 11),none⟩,⟨D 51,.mov (R 12),none⟩,⟨D 52,.bin .leq (R 50) (R 51),none⟩,⟨D 53,.mov (R 52),none⟩,⟨D 54,.mov (R 4),G 53 true⟩,⟨D 55,.mov (R 0),G 53 true⟩,⟨D 56,.mov (R 1),G 53 true⟩,⟨D 57,.aF sz none (R 55) (R 56),G 53 true⟩,⟨D 58,.load (some sz) (R 57),G 53 true⟩,⟨D 59,.mov (R 0),G 53 true⟩,⟨D 60,.mov (R 12),G 53 true⟩,⟨D 61,.aF sz none (R 59) (R 60),G 53 true⟩,⟨D 62,.load (some sz) (R 61),G 53 true⟩,⟨D 63,.bQ (R 54) [(R 58),(R 62)] true,G 53 true⟩,⟨D 64,.bin .lss (R 63) (.k (.c (.f (.int .i64 0)))),G 53 true⟩,⟨D 65,.pick (R 53) (R 64) (.k (.c (.f (.bool false)))),none⟩] []
def aG0(σ:Srt)(sz:Nat):ah:=.cond (R 65) .skip (.exit 4)
def aG2(σ:Srt)(sz:Nat):ah:=.seq (aG1 σ sz) (aG0 σ sz)
def aGY(σ:Srt)(sz:Nat):ah:=.region [⟨D 66,.mov (R 12),none⟩,⟨D 67,.bin .sub (R 66) (.k (.c (.f (.int .i64 1)))),none⟩,⟨D 12,.mov (R 67),none⟩] []
def aGZ(σ:Srt)(sz:Nat):ah:=.block 5 (aGY σ sz)
def aG3(σ:Srt)(sz:Nat):ah:=.seq (aG2 σ sz) (aGZ σ sz)
def aG4(σ:Srt)(sz:Nat):ah:=.loop (aG3 σ sz)
def ajx(σ:Srt)(sz:Nat):ah:=.block 4 (aG4 σ sz)
def aGV(σ:Srt)(sz:Nat):ah:=.region [⟨D 68,.mov (R 11),none⟩,⟨D 69,.mov (R 12),none⟩,⟨D 70,.bin .gtr (R 68) (R 69),none⟩] []
def aGU(σ:Srt)(sz:Nat):ah:=.cond (R 70) (.exit 0) .skip
def aGW(σ:Srt)(sz:Nat):ah:=.seq (aGV σ sz) (aGU σ sz)
def aGS(σ:Srt)(sz:Nat):ah:=.region [⟨D 71,.mov (R 0),none⟩,⟨D 72,.mov (R 11),none⟩,⟨D 73,.mov (R 0),none⟩,⟨D 74,.mov (R 12),none⟩,⟨D 75,.mov (R 0),none⟩,⟨D 76,.mov (R 12),none⟩,⟨D 77,.aF sz none (R 75) (R 76),none⟩,⟨D 78,.load (some sz) (R 77),none⟩,⟨D 79,.mov (R 0),none⟩,⟨D 80,.mov (R 11),none⟩,⟨D 81,.aF sz none (R 79) (R 80),none⟩,⟨D 82,.load (some sz) (R 81),none⟩,⟨D 83,.aF sz none (R 71) (R 72),none⟩,⟨none,.store sz (R 83) (R 78),none⟩,⟨D 84,.aF sz none (R 73) (R 74),none⟩,⟨none,.store sz (R 84) (R 82),none⟩] []
def aGQ(σ:Srt)(sz:Nat):ah:=.region [⟨D 85,.mov (R 11),none⟩,⟨D 86,.bin .add (R 85) (.k (.c (.f (.int .i64 1)))),none⟩,⟨D 11,.mov (R 86),none⟩] []
def aGP(σ:Srt)(sz:Nat):ah:=.region [⟨D 87,.mov (R 12),none⟩,⟨D 88,.bin .sub (R 87) (.k (.c (.f (.int .i64 1)))),none⟩,⟨D 12,.mov (R 88),none⟩] []
def aGR(σ:Srt)(sz:Nat):ah:=.seq (aGQ σ sz) (aGP σ sz)
def aGT(σ:Srt)(sz:Nat):ah:=.seq (aGS σ sz) (aGR σ sz)
def aGX(σ:Srt)(sz:Nat):ah:=.seq (aGW σ sz) (aGT σ sz)
def aG5(σ:Srt)(sz:Nat):ah:=.seq (ajx σ sz) (aGX σ sz)
def aHd(σ:Srt)(sz:Nat):ah:=.seq (ajy σ sz) (aG5 σ sz)
def aM2(σ:Srt)(sz:Nat):ah:=.block 1 (aHd σ sz)
def aM3(σ:Srt)(sz:Nat):ah:=.loop (aM2 σ sz)
def aM4(σ:Srt)(sz:Nat):ah:=.block 0 (aM3 σ sz)
def aGO(σ:Srt)(sz:Nat):ah:=.region [⟨D 89,.mov (R 11),none⟩,⟨D 10,.mov (R 89),none⟩] []
def ajw(σ:Srt)(sz:Nat):ah:=.seq (aGO σ sz) .ret
def aM5(σ:Srt)(sz:Nat):ah:=.seq (aM4 σ sz) (ajw σ sz)
def aM7(σ:Srt)(sz:Nat):ah:=.seq (aM6 σ sz) (aM5 σ sz)
def aM9(σ:Srt)(sz:Nat):ah:=.seq (aM8 σ sz) (aM7 σ sz)
def aNb(σ:Srt)(sz:Nat):ah:=.seq (aNa σ sz) (aM9 σ sz)
def Sl(σ:Srt)(sz:Nat):AFunc:=⟨[P.nat 0,P.nat 1,P.nat 2,P.nat 3,P.nat 4],[.tmp (P.nat 10)],(aNb σ sz)⟩
def aGI(σ:Srt)(sz:Nat):ah:=.region [⟨D 8,.mov (.k (.c (.f (.bool false)))),none⟩] []
def aGG(σ:Srt)(sz:Nat):ah:=.region [⟨D 13,.mov (R 1),none⟩,⟨D 14,.bin .add (R 13) (.k (.c (.f (.int .i64 1)))),none⟩,⟨D 9,.mov (R 14),none⟩] []
def aGD(σ:Srt)(sz:Nat):ah:=.region [⟨D 10,.mov (.k (.c (.f (.int .i64 0)))),none⟩] []
def ayz(σ:Srt)(sz:Nat):ah:=.region [⟨D 15,.mov (R 10),none⟩,⟨D 16,.bin .lss (R 15) (.k (.c (.f (.int .i64 5)))),none⟩] []
def ayy(σ:Srt)(sz:Nat):ah:=.cond (R 16) .skip (.exit 0)
def ayA(σ:Srt)(sz:Nat):ah:=.seq (ayz σ sz) (ayy σ sz)
def ayr(σ:Srt)(sz:Nat):ah:=.region [⟨D 19,.mov (R 9),none⟩,⟨D 20,.mov (R 2),none⟩,⟨D 21,.bin .lss (R 19) (R 20),none⟩,⟨D 22,.mov (R 21),none⟩,⟨D 23,.mov (R 3),G 22 true⟩,⟨D 24,.mov (R 0),G 22 true⟩,⟨D 25,.mov (R 9),G 22 true⟩,⟨D 26,.aF sz none (R 24) (R 25),G 22 true⟩,⟨D 27,.load (some sz) (R 26),G 22 true⟩,⟨D 28,.mov (R 0),G 22 true⟩,⟨D 29,.mov (R 9),G 22 true⟩,⟨D 30,.bin .sub (R 29) (.k (.c (.f (.int .i64 1)))),G 22 true⟩,⟨D 31,.aF sz none (R 28) (R 30),G 22 true⟩,⟨D 32,.load (some sz) (R 31),G 22 true⟩,⟨D 33,.bQ (R 23) [(R 27),(R 32)] true,G 22 true⟩,⟨D 34,.bin .lss (R 33) (.k (.c (.f (.int .i64 0)))),G 22 true⟩,⟨D 35,.un .not (R 34),G 22 true⟩,⟨D 36,.pick (R 22) (R 35) (.k (.c (.f (.bool false)))),none⟩] []
def ayq(σ:Srt)(sz:Nat):ah:=.cond (R 36) .skip (.exit 2)
def ays(σ:Srt)(sz:Nat):ah:=.seq (ayr σ sz) (ayq σ sz)
def ayo(σ:Srt)(sz:Nat):ah:=.region [⟨D 37,.mov (R 9),none⟩,⟨D 38,.bin .add (R 37) (.k (.c (.f (.int .i64 1)))),none⟩,⟨D 9,.mov (R 38),none⟩] []
def ayp(σ:Srt)(sz:Nat):ah:=.block 3 (ayo σ sz)
def ayt(σ:Srt)(sz:Nat):ah:=.seq (ays σ sz) (ayp σ sz)
def ayu(σ:Srt)(sz:Nat):ah:=.loop (ayt σ sz)
def Si(σ:Srt)(sz:Nat):ah:=.block 2 (ayu σ sz)
def ayl(σ:Srt)(sz:Nat):ah:=.region [⟨D 39,.mov (R 9),none⟩,⟨D 40,.mov (R 2),none⟩,⟨D 41,.bin .eql (R 39) (R 40),none⟩] []
def ayi(σ:Srt)(sz:Nat):ah:=.region [⟨D 8,.mov (.k (.c (.f (.bool true)))),none⟩] []
def ayj(σ:Srt)(sz:Nat):ah:=.seq (ayi σ sz) .ret
def ayk(σ:Srt)(sz:Nat):ah:=.cond (R 41) (ayj σ sz) .skip
def aym(σ:Srt)(sz:Nat):ah:=.seq (ayl σ sz) (ayk σ sz)
def ayf(σ:Srt)(sz:Nat):ah:=.region [⟨D 42,.mov (R 2),none⟩,⟨D 43,.mov (R 1),none⟩,⟨D 44,.bin .sub (R 42) (R 43),none⟩,⟨D 45,.bin .lss (R 44) (.k (.c (.f (.int .i64 50)))),none⟩] []
def ayc(σ:Srt)(sz:Nat):ah:=.region [⟨D 8,.mov (.k (.c (.f (.bool false)))),none⟩] []
def ayd(σ:Srt)(sz:Nat):ah:=.seq (ayc σ sz) .ret
def aye(σ:Srt)(sz:Nat):ah:=.cond (R 45) (ayd σ sz) .skip
def ayg(σ:Srt)(sz:Nat):ah:=.seq (ayf σ sz) (aye σ sz)
def aya(σ:Srt)(sz:Nat):ah:=.region [⟨D 46,.mov (R 0),none⟩,⟨D 47,.mov (R 9),none⟩,⟨D 48,.mov (R 0),none⟩,⟨D 49,.mov (R 9),none⟩,⟨D 50,.bin .sub (R 49) (.k (.c (.f (.int .i64 1)))),none⟩,⟨D 51,.mov (R 0),none⟩,⟨D 52,.mov (R 9),none⟩,⟨D 53,.bin .sub (R 52) (.k (.c (.f (.int .i64 1)))),none⟩,⟨D 54,.aF sz none (R 51) (R 53),none⟩,⟨D 55,.load (some sz) (R 54),none⟩,⟨D 56,.mov (R 0),none⟩,⟨D 57,.mov (R 9),none⟩,⟨D 58,.aF sz none (R 56) (R 57),none⟩,⟨D 59,.load (some sz) (R 58),none⟩,⟨D 60,.aF sz none (R 46) (R 47),none⟩,⟨none,.store sz (R 60) (R 55),none⟩,⟨D 61,.aF sz none (R 48) (R 50),none⟩,⟨none,.store sz (R 61) (R 59),none⟩] []
def ax7(σ:Srt)(sz:Nat):ah:=.region [⟨D 62,.mov (R 9),none⟩,⟨D 63,.mov (R 1),none⟩,⟨D 64,.bin .sub (R 62) (R 63),none⟩,⟨D 65,.bin .geq (R 64) (.k (.c (.f (.int .i64 2)))),none⟩] []
def ax4(σ:Srt)(sz:Nat):ah:=.region [⟨D 66,.mov (R 9),none⟩,⟨D 67,.bin .sub (R 66) (.k (.c (.f (.int .i64 1)))),none⟩,⟨D 11,.mov (R 67),none⟩] []
def ax0(σ:Srt)(sz:Nat):ah:=.region [⟨D 68,.mov (R 11),none⟩,⟨D 69,.bin .geq (R 68) (.k (.c (.f (.int .i64 1)))),none⟩] []
def axZ(σ:Srt)(sz:Nat):ah:=.cond (R 69) .skip (.exit 4)
def ax1(σ:Srt)(sz:Nat):ah:=.seq (ax0 σ sz) (axZ σ sz)
def axU(σ:Srt)(sz:Nat):ah:=.region [⟨D 72,.mov (R 3),none⟩,⟨D 73,.mov (R 0),none⟩,⟨D 74,.mov (R 11),none⟩,⟨D 75,.aF sz none (R 73) (R 74),none⟩,⟨D 76,.load (some sz) (R 75),none⟩,⟨D 77,.mov (R 0),none⟩,⟨D 78,.mov (R 11),none⟩,⟨D 79,.bin .sub (R 78) (.k (.c (.f (.int .i64 1)))),none⟩,⟨D 80,.aF sz none (R 77) (R 79),none⟩,⟨D 81,.load (some sz) (R 80),none⟩,⟨D 82,.bQ (R 72) [(R 76),(R 81)] true,none⟩,⟨D 83,.bin .lss (R 82) (.k (.c (.f (.int .i64 0)))),none⟩,⟨D 84,.un .not (R 83),none⟩] []
def axT(σ:Srt)(sz:Nat):ah:=.cond (R 84) (.exit 4) .skip
def axV(σ:Srt)(sz:Nat):ah:=.seq (axU σ sz) (axT σ sz)
def axS(σ:Srt)(sz:Nat):ah:=.region [⟨D 85,.mov (R 0),none⟩,⟨D 86,.mov (R 11),none⟩,⟨D 87,.mov (R 0),none⟩,⟨D 88,.mov (R 11),none⟩,⟨D 89,.bin .sub (R 88) (.k (.c (.f (.int .i64 1)))),none⟩,⟨D 90,.mov (R 0),none⟩,⟨D 91,.mov (R 11),none⟩,⟨D 92,.bin .sub (R 91) (.k (.c (.f (.int .i64 1)))),none⟩,⟨D 93,.aF sz none (R 90) (R 92),none⟩,⟨D 94,.load (some sz) (R 93),none⟩,⟨D 95,.mov (R 0),none⟩,⟨D 96,.mov (R 11),none⟩,⟨D 97,.aF sz none (R 95) (R 96),none⟩,⟨D 98,.load (some sz) (R 97),none⟩,⟨D 99,.aF sz none (R 85) (R 86),none⟩,⟨none,.store sz (R 99) (R 94),none⟩,⟨D 100,.aF sz none (R 87) (R 89),none⟩,⟨none,.store sz (R 100) (R 98),none⟩] []
def axW(σ:Srt)(sz:Nat):ah:=.seq (axV σ sz) (axS σ sz)
def axX(σ:Srt)(sz:Nat):ah:=.block 5 (axW σ sz)
def axR(σ:Srt)(sz:Nat):ah:=.region [⟨D 70,.mov (R 11),none⟩,⟨D 71,.bin .sub (R 70) (.k (.c (.f (.int .i64 1)))),none⟩,⟨D 11,.mov (R 71),none⟩] []
def axY(σ:Srt)(sz:Nat):ah:=.seq (axX σ sz) (axR σ sz)
def ax2(σ:Srt)(sz:Nat):ah:=.seq (ax1 σ sz) (axY σ sz)
def ax3(σ:Srt)(sz:Nat):ah:=.loop (ax2 σ sz)
def RZ(σ:Srt)(sz:Nat):ah:=.block 4 (ax3 σ sz)
def ax5(σ:Srt)(sz:Nat):ah:=.seq (ax4 σ sz) (RZ σ sz)
def ax6(σ:Srt)(sz:Nat):ah:=.cond (R 65) (ax5 σ sz) .skip
def ax8(σ:Srt)(sz:Nat):ah:=.seq (ax7 σ sz) (ax6 σ sz)
def axQ(σ:Srt)(sz:Nat):ah:=.region [⟨D 101,.mov (R 2),none⟩,⟨D 102,.mov (R 9),none⟩,⟨D 103,.bin .sub (R 101) (R 102),none⟩,⟨D 104,.bin .geq (R 103) (.k (.c (.f (.int .i64 2)))),none⟩] []
def axN(σ:Srt)(sz:Nat):ah:=.region [⟨D 105,.mov (R 9),none⟩,⟨D 106,.bin .add (R 105) (.k (.c (.f (.int .i64 1)))),none⟩,⟨D 12,.mov (R 106),none⟩] []
def axJ(σ:Srt)(sz:Nat):ah:=.region [⟨D 107,.mov (R 12),none⟩,⟨D 108,.mov (R 2),none⟩,⟨D 109,.bin .lss (R 107) (R 108),none⟩] []
def axI(σ:Srt)(sz:Nat):ah:=.cond (R 109) .skip (.exit 6)
def axK(σ:Srt)(sz:Nat):ah:=.seq (axJ σ sz) (axI σ sz)
def axD(σ:Srt)(sz:Nat):ah:=.region [⟨D 112,.mov (R 3),none⟩,⟨D 113,.mov (R 0),none⟩,⟨D 114,.mov (R 12),none⟩,⟨D 115,.aF sz none (R 113) (R 114),none⟩,⟨D 116,.load (some sz) (R 115),none⟩,⟨D 117,.mov (R 0),none⟩,⟨D 118,.mov (R 12),none⟩,⟨D 119,.bin .sub (R 118) (.k (.c (.f (.int .i64 1)))),none⟩,⟨D 120,.aF sz none (R 117) (R 119),none⟩,⟨D 121,.load (some sz) (R 120),none⟩,⟨D 122,.bQ (R 112) [(R 116),(R 121)] true,none⟩,⟨D 123,.bin .lss (R 122) (.k (.c (.f (.int .i64 0)))),none⟩,⟨D 124,.un .not (R 123),none⟩] []
def axC(σ:Srt)(sz:Nat):ah:=.cond (R 124) (.exit 6) .skip
def axE(σ:Srt)(sz:Nat):ah:=.seq (axD σ sz) (axC σ sz)
def axB(σ:Srt)(sz:Nat):ah:=.region [⟨D 125,.mov (R 0),none⟩,⟨D 126,.mov (R 12),none⟩,⟨D 127,.mov (R 0),none⟩,⟨D 128,.mov (R 12),none⟩,⟨D 129,.bin .sub (R 128) (.k (.c (.f (.int .i64 1)))),none⟩,⟨D 130,.mov (R 0),none⟩,⟨D 131,.mov (R 12),none⟩,⟨D 132,.bin .sub (R 131) (.k (.c (.f (.int .i64 1)))),none⟩,⟨D 133,.aF sz none (R 130) (R 132),none⟩,⟨D 134,.load (some sz) (R 133),none⟩,⟨D 135,.mov (R 0),none⟩,⟨D 136,.mov (R 12),none⟩,⟨D 137,.aF sz none (R 135) (R 136),none⟩,⟨D 138,.load (some sz) (R 137),none⟩,⟨D 139,.aF sz none (R 125) (R 126),none⟩,⟨none,.store sz (R 139) (R 134),none⟩,⟨D 140,.aF sz none (R 127) (R 129),none⟩,⟨none,.store sz (R 140) (R 138),none⟩] []
def axF(σ:Srt)(sz:Nat):ah:=.seq (axE σ sz) (axB σ sz)
def axG(σ:Srt)(sz:Nat):ah:=.block 7 (axF σ sz)
def axA(σ:Srt)(sz:Nat):ah:=.region [⟨D 110,.mov (R 12),none⟩,⟨D 111,.bin .add (R 110) (.k (.c (.f (.int .i64 1)))),none⟩,⟨D 12,.mov (R 111),none⟩] []
def axH(σ:Srt)(sz:Nat):ah:=.seq (axG σ sz) (axA σ sz)
def axL(σ:Srt)(sz:Nat):ah:=.seq (axK σ sz) (axH σ sz)
def axM(σ:Srt)(sz:Nat):ah:=.loop (axL σ sz)
def RX(σ:Srt)(sz:Nat):ah:=.block 6 (axM σ sz)
def axO(σ:Srt)(sz:Nat):ah:=.seq (axN σ sz) (RX σ sz)
def axP(σ:Srt)(sz:Nat):ah:=.cond (R 104) (axO σ sz) .skip
def RY(σ:Srt)(sz:Nat):ah:=.seq (axQ σ sz) (axP σ sz)
def ax9(σ:Srt)(sz:Nat):ah:=.seq (ax8 σ sz) (RY σ sz)
def ayb(σ:Srt)(sz:Nat):ah:=.seq (aya σ sz) (ax9 σ sz)
def ayh(σ:Srt)(sz:Nat):ah:=.seq (ayg σ sz) (ayb σ sz)
def ayn(σ:Srt)(sz:Nat):ah:=.seq (aym σ sz) (ayh σ sz)
def ayv(σ:Srt)(sz:Nat):ah:=.seq (Si σ sz) (ayn σ sz)
def ayw(σ:Srt)(sz:Nat):ah:=.block 1 (ayv σ sz)
def GL(σ:Srt)(sz:Nat):ah:=.region [⟨D 17,.mov (R 10),none⟩,⟨D 18,.bin .add (R 17) (.k (.c (.f (.int .i64 1)))),none⟩,⟨D 10,.mov (R 18),none⟩] []
def ayx(σ:Srt)(sz:Nat):ah:=.seq (ayw σ sz) (GL σ sz)
def Nc(σ:Srt)(sz:Nat):ah:=.seq (ayA σ sz) (ayx σ sz)
def aGB(σ:Srt)(sz:Nat):ah:=.loop (Nc σ sz)
def aGC(σ:Srt)(sz:Nat):ah:=.block 0 (aGB σ sz)
def aGE(σ:Srt)(sz:Nat):ah:=.seq (aGD σ sz) (aGC σ sz)
def axz(σ:Srt)(sz:Nat):ah:=.region [⟨D 8,.mov (.k (.c (.f (.bool false)))),none⟩] []
def Ac(σ:Srt)(sz:Nat):ah:=.seq (axz σ sz) .ret
def aGF(σ:Srt)(sz:Nat):ah:=.seq (aGE σ sz) (Ac σ sz)
def aGH(σ:Srt)(sz:Nat):ah:=.seq (aGG σ sz) (aGF σ sz)
def aGJ(σ:Srt)(sz:Nat):ah:=.seq (aGI σ sz) (aGH σ sz)
def GK(σ:Srt)(sz:Nat):AFunc:=⟨[P.nat 0,P.nat 1,P.nat 2,P.nat 3],[.tmp (P.nat 8)],(aGJ σ sz)⟩
def aIR(σ:Srt)(sz:Nat):ah:=.region [⟨D 8,.mov (.k (.c (.f (.int .i64 0)))),none⟩] []
def aIP(σ:Srt)(sz:Nat):ah:=.region [⟨D 9,.mov (R 0),none⟩,⟨D 10,.mov (R 1),none⟩,⟨D 11,.bin .sub (R 10) (.k (.c (.f (.int .i64 1)))),none⟩,⟨D 12,.mov (R 1),none⟩,⟨D 13,.mov (R 1),none⟩,⟨D 14,.bin .add (R 13) (.k (.c (.f (.int .i64 1)))),none⟩,⟨D 15,.mov (R 2),none⟩,⟨D 16,.mov (R 3),none⟩,⟨D 17,.call σ.med [(R 9),(R 11),(R 12),(R 14),(R 15),(R 16)] true,none⟩,⟨D 8,.mov (R 17),none⟩] []
def aIQ(σ:Srt)(sz:Nat):ah:=.seq (aIP σ sz) .ret
def aIS(σ:Srt)(sz:Nat):ah:=.seq (aIR σ sz) (aIQ σ sz)
def BL(σ:Srt)(sz:Nat):AFunc:=⟨[P.nat 0,P.nat 1,P.nat 2,P.nat 3],[.tmp (P.nat 8)],(aIS σ sz)⟩
def aOf(σ:Srt)(sz:Nat):ah:=.region [⟨D 12,.mov (.k (.c (.f (.int .i64 0)))),none⟩] []
def aOd(σ:Srt)(sz:Nat):ah:=.region [⟨D 14,.mov (R 0),none⟩,⟨D 15,.mov (R 1),none⟩,⟨D 16,.mov (R 2),none⟩,⟨D 17,.mov (R 4),none⟩,⟨D 18,.mov (R 5),none⟩,⟨D 19,.call σ.ord [(R 14),(R 15),(R 16),(R 17),(R 18)] true,none⟩,⟨D 13,.mov (R 19),none⟩,⟨D 20,.extract (R 13) 0,none⟩,⟨D 21,.extract (R 13) 1,none⟩,⟨D 1,.mov (R 20),none⟩,⟨D 2,.mov (R 21),none⟩] []
def aOb(σ:Srt)(sz:Nat):ah:=.region [⟨D 23,.mov (R 0),none⟩,⟨D 24,.mov (R 2),none⟩,⟨D 25,.mov (R 3),none⟩,⟨D 26,.mov (R 4),none⟩,⟨D 27,.mov (R 5),none⟩,⟨D 28,.call σ.ord [(R 23),(R 24),(R 25),(R 26),(R 27)] true,none⟩,⟨D 22,.mov (R 28),none⟩,⟨D 29,.extract (R 22) 0,none⟩,⟨D 30,.extract (R 22) 1,none⟩,⟨D 2,.mov (R 29),none⟩,⟨D 3,.mov (R 30),none⟩] []
def aN9(σ:Srt)(sz:Nat):ah:=.region [⟨D 32,.mov (R 0),none⟩,⟨D 33,.mov (R 1),none⟩,⟨D 34,.mov (R 2),none⟩,⟨D 35,.mov (R 4),none⟩,⟨D 36,.mov (R 5),none⟩,⟨D 37,.call σ.ord [(R 32),(R 33),(R 34),(R 35),(R 36)] true,none⟩,⟨D 31,.mov (R 37),none⟩,⟨D 38,.extract (R 31) 0,none⟩,⟨D 39,.extract (R 31) 1,none⟩,⟨D 1,.mov (R 38),none⟩,⟨D 2,.mov (R 39),none⟩] []
def aN7(σ:Srt)(sz:Nat):ah:=.region [⟨D 40,.mov (R 2),none⟩,⟨D 12,.mov (R 40),none⟩] []
def aN8(σ:Srt)(sz:Nat):ah:=.seq (aN7 σ sz) .ret
def aOa(σ:Srt)(sz:Nat):ah:=.seq (aN9 σ sz) (aN8 σ sz)
def aOc(σ:Srt)(sz:Nat):ah:=.seq (aOb σ sz) (aOa σ sz)
def aOe(σ:Srt)(sz:Nat):ah:=.seq (aOd σ sz) (aOc σ sz)
def aOg(σ:Srt)(sz:Nat):ah:=.seq (aOf σ sz) (aOe σ sz)
def Et(σ:Srt)(sz:Nat):AFunc:=⟨[P.nat 0,P.nat 1,P.nat 2,P.nat 3,P.nat 4,P.nat 5],[.tmp (P.nat 12)],(aOg σ sz)⟩
def aNF(σ:Srt)(sz:Nat):ah:=.region [⟨D 10,.mov (.k (.c (.f (.int .i64 0)))),none⟩,⟨D 11,.mov (.k (.c (.f (.int .i64 0)))),none⟩] []
def aNC(σ:Srt)(sz:Nat):ah:=.region [⟨D 12,.mov (R 4),none⟩,⟨D 13,.mov (R 0),none⟩,⟨D 14,.mov (R 2),none⟩,⟨D 15,.aF sz none (R 13) (R 14),none⟩,⟨D 16,.load (some sz) (R 15),none⟩,⟨D 17,.mov (R 0),none⟩,⟨D 18,.mov (R 1),none⟩,⟨D 19,.aF sz none (R 17) (R 18),none⟩,⟨D 20,.load (some sz) (R 19),none⟩,⟨D 21,.bQ (R 12) [(R 16),(R 20)] true,none⟩,⟨D 22,.bin .lss (R 21) (.k (.c (.f (.int .i64 0)))),none⟩] []
def aNz(σ:Srt)(sz:Nat):ah:=.region [⟨D 23,.mov (R 3),none⟩,⟨D 24,.bF (R 23),none⟩,⟨D 25,.load none (R 24),none⟩,⟨D 26,.bin .add (R 25) (.k (.c (.f (.int .i64 1)))),none⟩,⟨D 27,.bF (R 23),none⟩,⟨none,.store 1 (R 27) (R 26),none⟩] []
def aNx(σ:Srt)(sz:Nat):ah:=.region [⟨D 28,.mov (R 2),none⟩,⟨D 29,.mov (R 1),none⟩,⟨D 10,.mov (R 28),none⟩,⟨D 11,.mov (R 29),none⟩] []
def aNy(σ:Srt)(sz:Nat):ah:=.seq (aNx σ sz) .ret
def aNA(σ:Srt)(sz:Nat):ah:=.seq (aNz σ sz) (aNy σ sz)
def aNB(σ:Srt)(sz:Nat):ah:=.cond (R 22) (aNA σ sz) .skip
def aND(σ:Srt)(sz:Nat):ah:=.seq (aNC σ sz) (aNB σ sz)
def aIx(σ:Srt)(sz:Nat):ah:=.region [⟨D 30,.mov (R 1),none⟩,⟨D 31,.mov (R 2),none⟩,⟨D 10,.mov (R 30),none⟩,⟨D 11,.mov (R 31),none⟩] []
def aIy(σ:Srt)(sz:Nat):ah:=.seq (aIx σ sz) .ret
def aNE(σ:Srt)(sz:Nat):ah:=.seq (aND σ sz) (aIy σ sz)
def aNG(σ:Srt)(sz:Nat):ah:=.seq (aNF σ sz) (aNE σ sz)
def Bv(σ:Srt)(sz:Nat):AFunc:=⟨[P.nat 0,P.nat 1,P.nat 2,P.nat 3,P.nat 4],[.tmp (P.nat 10),.tmp (P.nat 11)],(aNG σ sz)⟩
def aN4(σ:Srt)(sz:Nat):ah:=.region [⟨D 2,.mov (.k (.c (.f (.int .u64 0)))),none⟩] []
def aN2(σ:Srt)(sz:Nat):ah:=.region [⟨D 3,.mov (R 0),none⟩,⟨D 4,.cvi .u64 (R 3),none⟩,⟨D 5,.call σ.len [(R 4)] false,none⟩,⟨D 6,.bin .shl (.k (.c (.f (.int .u64 1)))) (R 5),none⟩,⟨D 2,.mov (R 6),none⟩] []
def aN3(σ:Srt)(sz:Nat):ah:=.seq (aN2 σ sz) .ret
def aN5(σ:Srt)(sz:Nat):ah:=.seq (aN4 σ sz) (aN3 σ sz)
def SK(σ:Srt)(sz:Nat):AFunc:=⟨[P.nat 0],[.tmp (P.nat 2)],(aN5 σ sz)⟩
def aN0(σ:Srt)(sz:Nat):ah:=.region [⟨D 2,.mov (.k (.c (.f (.int .u64 0)))),none⟩] []
def aNY(σ:Srt)(sz:Nat):ah:=.region [⟨D 3,.mov (R 0),none⟩,⟨D 4,.bF (R 3),none⟩,⟨D 5,.load none (R 4),none⟩,⟨D 6,.mov (R 0),none⟩,⟨D 7,.bF (R 6),none⟩,⟨D 8,.load none (R 7),none⟩,⟨D 9,.bin .shl (R 8) (.k (.c (.f (.int .u64 13)))),none⟩,⟨D 10,.bin .xor (R 5) (R 9),none⟩,⟨D 11,.bF (R 3),none⟩,⟨none,.store 1 (R 11) (R 10),none⟩] []
def aNW(σ:Srt)(sz:Nat):ah:=.region [⟨D 12,.mov (R 0),none⟩,⟨D 13,.bF (R 12),none⟩,⟨D 14,.load none (R 13),none⟩,⟨D 15,.mov (R 0),none⟩,⟨D 16,.bF (R 15),none⟩,⟨D 17,.load none (R 16),none⟩,⟨D 18,.bin .shr (R 17) (.k (.c (.f (.int .u64 7)))),none⟩,⟨D 19,.bin .xor (R 14) (R 18),none⟩,⟨D 20,.bF (R 12),none⟩,⟨none,.store 1 (R 20) (R 19),none⟩] []
def aNU(σ:Srt)(sz:Nat):ah:=.region [⟨D 21,.mov (R 0),none⟩,⟨D 22,.bF (R 21),none⟩,⟨D 23,.load none (R 22),none⟩,⟨D 24,.mov (R 0),none⟩,⟨D 25,.bF (R 24),none⟩,⟨D 26,.load none (R 25),none⟩,⟨D 27,.bin .shl (R 26) (.k (.c (.f (.int .u64 17)))),none⟩,⟨D 28,.bin .xor (R 23) (R 27),none⟩,⟨D 29,.bF (R 21),none⟩,⟨none,.store 1 (R 29) (R 28),none⟩] []
def aNS(σ:Srt)(sz:Nat):ah:=.region [⟨D 30,.mov (R 0),none⟩,⟨D 31,.bF (R 30),none⟩,⟨D 32,.load none (R 31),none⟩,⟨D 2,.mov (R 32),none⟩] []
def aNT(σ:Srt)(sz:Nat):ah:=.seq (aNS σ sz) .ret
def aNV(σ:Srt)(sz:Nat):ah:=.seq (aNU σ sz) (aNT σ sz)
def aNX(σ:Srt)(sz:Nat):ah:=.seq (aNW σ sz) (aNV σ sz)
def aNZ(σ:Srt)(sz:Nat):ah:=.seq (aNY σ sz) (aNX σ sz)
def aN1(σ:Srt)(sz:Nat):ah:=.seq (aN0 σ sz) (aNZ σ sz)
def SH(σ:Srt)(sz:Nat):AFunc:=⟨[P.nat 0],[.tmp (P.nat 2)],(aN1 σ sz)⟩
end Km
end
section
namespace Km
open Go
def Cv(tab:Nat→Option AFunc)(cv:V)(W:List FC→Prop)(c:List FC→List FC→Int):Prop:=
 ∀ x y,W x→W y→∀ H,∃ F ar J,dw cv [.a (x.map .f),.a (y.map .f)]=some (.fn F,ar)∧Ev tab (.fn F) ar H (vi (c x y)) (H++J)
section
variable{W:List FC→Prop}{c:List FC→List FC→Int}{l:List (List FC)}
theorem LeI.of_lt{i j:Nat}(hc:Cmp W c)(hW:∀ r ∈ l,W r){x y:List FC}(hx:l[i]?=some x)(hy:l[j]?=some y)(h:c x y<0):LeI c l i j:=fun x' y' h1 h2=>by
 rw [hx]at h1;rw [hy]at h2;cases h1;cases h2
 exact hc.asym (hW _ (aD hx)) (hW _ (aD hy)) h
theorem LeI.of_le{i j:Nat}{x y:List FC}(hx:l[i]?=some x)(hy:l[j]?=some y)(h:¬ c y x<0):LeI c l i j:=fun x' y' h1 h2=>by
 rw [hx]at h1;rw [hy]at h2;cases h1;cases h2;exact h
theorem LeI.get{l':List (List FC)}{i j i' j':Nat}(h:LeI c l i j)(h1:l'[i']?=l[i]?)(h2:l'[j']?=l[j]?):LeI c l' i' j':=fun x y hx hy=>h x y (by rw [←h1];exact hx) (by rw [←h2];exact hy)
def Ins(c:List FC→List FC→Int)(a i j:Nat)(l:List (List FC)):Prop:=∀ p q,a≤p→p<q→q≤i→q≠j→LeI c l p q
theorem Ins.start{a i:Nat}(h:Up c a i l):Ins c a i i l:=fun p q h1 h2 h3 h4=>fun x y=>h p q x y h1 h2 (by omega)
theorem Ins.step{a i j:Nat}(hc:Cmp W c)(hW:∀ r ∈ l,W r)(h:Ins c a i (j+1) l)(ha:a≤j)(hj:j+1≤i)(hi:i<l.length){x y:List FC}(hx:l[j+1]?=some x)(hy:l[j]?=some y)(hlt:c x y<0):Ins c a i j (swp l (j+1) j):=by
 intro p q h1 h2 h3 h4
 have g:∀ k,(swp l (j+1) j)[k]?=if k=j then l[j+1]? else if k=j+1 then l[j]? else l[k]?:=fun k=>swp_get (by omega) (by omega) k
 by_cases q1:q=j+1
 ·subst q1
  by_cases p1:p=j
  ·subst p1
   exact(LeI.of_lt hc hW hx hy hlt).get (by rw [g,if_pos rfl]) (by rw [g,if_neg (by omega),if_pos rfl])
  ·exact(h p j h1 (by omega) (by omega) (by omega)).get (by rw [g,if_neg (by omega),if_neg (by omega)]) (by rw [g,if_neg (by omega),if_pos rfl])
 ·have gq:(swp l (j+1) j)[q]?=l[q]?:=by rw [g,if_neg h4,if_neg q1]
  by_cases p1:p=j
  ·subst p1
   exact(h (p+1) q (by omega) (by omega) h3 q1).get (by rw [g,if_pos rfl]) gq
  by_cases p2:p=j+1
  ·subst p2
   exact(h j q ha (by omega) h3 q1).get (by rw [g,if_neg (by omega),if_pos rfl]) gq
  ·exact(h p q h1 h2 h3 q1).get (by rw [g,if_neg p1,if_neg p2]) gq
theorem Ins.front{a i:Nat}(h:Ins c a i a l):Up c a (i+1) l:=fun p q x y h1 h2 h3=>h p q h1 h2 (by omega) (by omega) x y
theorem Ins.stop{a i j:Nat}(hc:Cmp W c)(hW:∀ r ∈ l,W r)(h:Ins c a i (j+1) l)(ha:a≤j)(hj:j+1≤i)(hi:i<l.length)(hle:LeI c l j (j+1)):Up c a (i+1) l:=by
 intro p q x y h1 h2 h3
 by_cases q1:q=j+1
 ·subst q1
  by_cases p1:p=j
  ·subst p1;exact hle x y
  ·exact((h p j h1 (by omega) (by omega) (by omega)).trans hc hW hle (by omega)) x y
 ·exact h p q h1 h2 (by omega) q1 x y
end
section
variable{tab:Nat→Option AFunc}{σ:Srt}{sz:Nat}{H:Heap}{b ep:Nat}{rows:List (List FC)}{cv:V}{W:List FC→Prop}{c:List FC→List FC→Int}
theorem RB.at(h:RB H b sz ep rows){i:Nat}(hi:i<rows.length):aV H sz none (.c (.sl b 0 rows.length 0 ep sz)) (vi i)=some (.c (.ptr b (i*sz) ep)):=by
 have:=h.idx (n:=rows.length) (c:=0) (k:=.i64) (o:=0) (i:=(i:Int)) (by omega) (by omega)
 rwa [Int.toNat_natCast,cH]at this
theorem RB.ldi(h:RB H b sz ep rows)(hg:Grid sz rows){i:Nat}(hi:i<rows.length):ldV H (some sz) (.c (.ptr b (i*sz) ep))=some (.a (rows[i].map .f)):=h.ldr hg (ae hi)
theorem aI1(hT:tab σ.ins=some (EC σ sz))(hcv:Cv tab cv W c)(hc:Cmp W c){n a e:Nat}(hn:rows.length=n)(hl:n≤1000000000)(hrb:RB H b sz ep rows)(hg:Grid sz rows)(hW:∀ r ∈ rows,W r)(hae:a≤e)(hen:e≤n) :
  ∃ r H',Ev tab (.fn σ.ins) [.c (.sl b 0 n 0 ep sz),vi a,vi e,cv] H r H'∧(r=.t []∧Fm b H H'∧∃ l',RB H' b sz ep l'∧Seg a e rows l'∧Up c a e l'):=by
 refine iR hT rfl fun Q hQ=>?_
 refine ak (aj (.inl rfl) ?_)
 simp [wrap64 (n:=(a:Int)+1) (by omega) (by omega)]
 refine aN ?_
 refine bI (fun m s=>∃(i:Nat) (t:T) (H1:Heap) (l:List (List FC)),s=⟨t,[],H1⟩∧m=n+1-i∧a+1≤i∧(i≤e∨i=a+1)∧t.g 0=.c (.sl b 0 n 0 ep sz)∧t.g 1=vi a∧t.g 2=vi e∧t.g 3=cv∧t.g 8=vi i ∧
  Fm b H H1∧RB H1 b sz ep l∧Seg a e rows l∧Up c a i l) _
  ⟨a+1,_,H,rows,rfl,rfl,by omega,.inr rfl,by simp,by simp,by simp,by simp,by simp,Fm.refl H,hrb,Seg.refl _ _ _,Up.one (by omega)⟩ ?_
 rintro m s ⟨i,t,H1,l,rfl,rfl,hi1,hi,g0,g1,g2,g3,g8,hfr,hrb,hseg,hup⟩ ih
 have hlen:=hseg.len
 refine ak ?_
 refine ak (aj (.inl rfl) ?_)
 simp [g8,g2]
 by_cases hlt:i<e
 case neg=>
  refine ay (by simp [hlt]) ?_
  refine bf (k':=[]) rfl ?_
  exact pU (hQ _ _ _ rfl rfl ⟨rfl,hfr,l,hrb,hseg,hup.mono (aw _) (by omega)⟩)
 refine aB (by simp [hlt]) (aC ?_)
 refine ak ?_
 refine aN ?_
 refine ak (aj (.inl rfl) ?_)
 simp [g8]
 refine aN ?_
 refine bI (fun m s=>∃(j:Nat) (t:T) (H2:Heap) (l2:List (List FC)),s=⟨t,[],H2⟩∧j=m∧a≤j∧j≤i∧t.g 0=.c (.sl b 0 n 0 ep sz)∧t.g 1=vi a∧t.g 2=vi e∧t.g 3=cv∧t.g 8=vi i∧t.g 9=vi j ∧
  Fm b H H2∧RB H2 b sz ep l2∧Seg a e rows l2∧Ins c a i j l2) i
  ⟨i,_,H1,l,rfl,rfl,by omega,by omega,by simp [g0],by simp [g1],by simp [g2],by simp [g3],by simp [g8],by simp,hfr,hrb,hseg,Ins.start hup⟩ ?_
 rintro m s ⟨j,t,H2,l2,rfl,rfl,hja,hji,g0,g1,g2,g3,g8,g9,hfr,hrb,hseg,hins⟩ ih2
 have hlen:=hseg.len
 have hg2:=hseg.grid hg
 have hW2:∀ r ∈ l2,W r:=fun r hr=>hW r (hseg.1.mem_iff.1 hr)
 have stop:Up c a (i+1) l2→∀ t:T,t.g 0=.c (.sl b 0 n 0 ep sz)→t.g 1=vi a→t.g 2=vi e→t.g 3=cv→t.g 8=vi i→∀ H3,Fm b H H3→RB H3 b sz ep l2 →
   WP tab σ.ins none [.inBlock 1,.code (Ht σ sz),.inLoop (Tj σ sz),.inBlock 0] ⟨t,[],H3⟩ Q:=by
  intro hp t g0 g1 g2 g3 g8 H3 hfr hrb
  refine aJ (aj (.inl rfl) ?_)
  simp [g8,wrap64 (n:=(i:Int)+1) (by omega) (by omega)]
  exact ih (n+1-(i+1)) _ (by omega) ⟨i+1,_,H3,l2,rfl,rfl,by omega,.inl (by omega),by simp [g0],by simp [g1],by simp [g2],by simp [g3],by simp,hfr,hrb,hseg,hp⟩
 refine ak ?_
 refine ak (aj (.inl rfl) ?_)
 by_cases hj:j=a
 ·subst hj
  simp [g9,g1]
  refine ay (by simp) ?_
  refine bf (k':=[.inBlock 1,.code (Ht σ sz),.inLoop (Tj σ sz),.inBlock 0]) rfl ?_
  exact stop hins.front _ (by simp [g0]) (by simp [g1]) (by simp [g2]) (by simp [g3]) (by simp [g8]) _ hfr hrb
 obtain⟨k,rfl⟩:∃ k,j=k+1:=⟨j-1,by omega⟩
 have k1:k+1<l2.length:=by omega
 have c1:((k+1:Nat):Int)=(k:Int)+1:=by omega
 have i1:=hrb.at k1
 have i0:=hrb.at (show k<l2.length by omega)
 have l1:=hrb.ldi hg2 k1
 have l0:=hrb.ldi hg2 (show k<l2.length by omega)
 rw [hlen,hn]at i1 i0
 rw [c1]at i1 g9
 obtain⟨F,ar,J,fM,hev⟩:=hcv l2[k+1] l2[k] (hW2 _ (av _)) (hW2 _ (av _)) H2
 have he:=hev.eq
 have gt:(a:Int)<(k:Int)+1:=by omega
 simp [g9,g0,g1,g3,gt,i1,i0,l1,l0,fM,he,-aG,wrap64 (n:=(k:Int)) (by omega) (by omega)]
 by_cases hlt2:c l2[k+1] l2[k]<0
 case neg=>
  refine ay (by simp [hlt2]) ?_
  refine bf (k':=[.inBlock 1,.code (Ht σ sz),.inLoop (Tj σ sz),.inBlock 0]) rfl ?_
  exact stop (hins.stop hc hW2 (by omega) hji (by omega) (LeI.of_le (ae (by omega)) (ae k1) hlt2)) _ (by simp [g0]) (by simp [g1]) (by simp [g2]) (by simp [g3]) (by simp [g8]) _ (hfr.trans (Fm.push _ _)) (hrb.push _)
 refine aB (by simp [hlt2]) (aC ?_)
 have w1:l2[k+1].length=sz:=hg2 _ (av _)
 have w0:l2[k].length=sz:=hg2 _ (av _)
 have Vl:=hrb.push J
 obtain⟨HJ,hHJ⟩:∃ HJ,HJ=H2++J:=⟨_,rfl⟩
 rw [←hHJ]at Vl ⊢
 have aTP:Fm b H HJ:=by rw [hHJ];exact hfr.trans (Fm.push _ _)
 have i1:=Vl.at k1
 have i0:=Vl.at (show k<l2.length by omega)
 have l1:=Vl.ldi hg2 k1
 have l0:=Vl.ldi hg2 (show k<l2.length by omega)
 obtain⟨H3,H4,s1,r1,s2,r2,f2⟩:=Vl.swap hg2 k1 (show k<l2.length by omega)
 have i2:=r1.at (show k<(l2.set (k+1) l2[k]).length by simp;omega)
 rw [List.length_set]at i2
 rw [hlen,hn]at i1 i0 i2
 rw [c1]at i1
 refine ak ?_
 refine aN ?_
 refine aj (.inl rfl) ?_
 simp [g9,g0,i1,i0,i2,l1,l0,s1,s2,w1,w0,-aG,-bJ,wrap64 (n:=(k:Int)) (by omega) (by omega)]
 refine aJ ?_
 refine aj (.inl rfl) ?_
 simp [g9,wrap64 (n:=(k:Int)) (by omega) (by omega)]
 exact ih2 k _ (by omega) ⟨k,_,H4,swp l2 (k+1) k,rfl,rfl,by omega,by omega,by simp [g0],by simp [g1],by simp [g2],by simp [g3],by simp [g8],by simp,aTP.trans f2,r2,
  hseg.trans (iF (by omega) (by omega) (by omega) (by omega) (by omega)),hins.step hc hW2 (by omega) hji (by omega) (ae k1) (ae (by omega)) hlt2⟩
end
end Km
end
section
namespace Km
open Go
section
variable{tab:Nat→Option AFunc}{σ:Srt}{sz:Nat}{H:Heap}{b ep:Nat}{rows:List (List FC)}{cv:V}{W:List FC→Prop}{c:List FC→List FC→Int}
theorem RB.swp(h:RB H b sz ep rows)(hg:Grid sz rows){n i j:Nat}(hn:rows.length=n)(hi:i<n)(hj:j<n):∃(x y:List FC) (H1 H2:Heap),rows[i]?=some x∧rows[j]?=some y ∧
  aV H sz none (.c (.sl b 0 n 0 ep sz)) (vi i)=some (.c (.ptr b (i*sz) ep))∧aV H sz none (.c (.sl b 0 n 0 ep sz)) (vi j)=some (.c (.ptr b (j*sz) ep)) ∧
  ldV H (some sz) (.c (.ptr b (i*sz) ep))=some (.a (x.map .f))∧ldV H (some sz) (.c (.ptr b (j*sz) ep))=some (.a (y.map .f))∧x.length=sz∧y.length=sz ∧
  stC H (.ptr b (i*sz) ep) (y.map .f)=some H1∧aV H1 sz none (.c (.sl b 0 n 0 ep sz)) (vi j)=some (.c (.ptr b (j*sz) ep))∧stC H1 (.ptr b (j*sz) ep) (x.map .f)=some H2∧RB H2 b sz ep (swp rows i j)∧Fm b H H2:=by
 subst hn
 obtain⟨H1,H2,s1,r1,s2,r2,f2⟩:=h.swap hg hi hj
 have i2:=r1.at (show j<(rows.set i rows[j]).length by simpa using hj)
 rw [List.length_set]at i2
 exact⟨rows[i],rows[j],H1,H2,ae hi,ae hj,h.at hi,h.at hj,h.ldi hg hi,h.ldi hg hj,hg _ (av _),hg _ (av _),s1,i2,s2,r2,f2⟩
theorem RB.ask(h:RB H b sz ep rows)(hg:Grid sz rows)(hcv:Cv tab cv W c)(hW:∀ r ∈ rows,W r){n i j:Nat}(hn:rows.length=n)(hi:i<n)(hj:j<n):∃(x y:List FC) (F:Nat) (ar:List V) (J:Heap),rows[i]?=some x∧rows[j]?=some y ∧
  aV H sz none (.c (.sl b 0 n 0 ep sz)) (vi i)=some (.c (.ptr b (i*sz) ep))∧aV H sz none (.c (.sl b 0 n 0 ep sz)) (vi j)=some (.c (.ptr b (j*sz) ep)) ∧
  ldV H (some sz) (.c (.ptr b (i*sz) ep))=some (.a (x.map .f))∧ldV H (some sz) (.c (.ptr b (j*sz) ep))=some (.a (y.map .f)) ∧
  dw cv [.a (x.map .f),.a (y.map .f)]=some (.fn F,ar)∧Ev tab (.fn F) ar H=E2 (vi (c x y)) (H++J)∧W x∧W y:=by
 subst hn
 obtain⟨F,ar,J,h1,h2⟩:=hcv rows[i] rows[j] (hW _ (av _)) (hW _ (av _)) H
 exact⟨rows[i],rows[j],F,ar,J,ae hi,ae hj,h.at hi,h.at hj,h.ldi hg hi,h.ldi hg hj,h1,h2.eq,hW _ (av _),hW _ (av _)⟩
theorem aFm(hT:tab σ.rev=some (RQ σ sz)){n a e:Nat}(hn:rows.length=n)(hl:n≤1000000000)(hrb:RB H b sz ep rows)(hg:Grid sz rows)(hae:a<e)(hen:e≤n) :
  ∃ r H',Ev tab (.fn σ.rev) [.c (.sl b 0 n 0 ep sz),vi a,vi e,cv] H r H'∧(r=.t []∧Fm b H H'∧∃ l',RB H' b sz ep l'∧Seg a e rows l'):=by
 refine iR hT rfl fun Q hQ=>?_
 obtain⟨d,rfl⟩:∃ d,e=d+1:=⟨e-1,by omega⟩
 refine ak (aj (.inl rfl) ?_)
 simp
 refine ak (aj (.inl rfl) ?_)
 simp [wrap64 (n:=(d:Int)) (by omega) (by omega)]
 refine aN ?_
 refine bI (fun m s=>∃(i j:Nat) (t:T) (H1:Heap) (l:List (List FC)),s=⟨t,[],H1⟩∧m=n+1-i∧a≤i∧j≤d∧i≤j+1∧t.g 0=.c (.sl b 0 n 0 ep sz)∧t.g 8=vi i∧t.g 9=vi j ∧
  Fm b H H1∧RB H1 b sz ep l∧Seg a (d+1) rows l) _
  ⟨a,d,_,H,rows,rfl,rfl,by omega,by omega,by omega,by simp,by simp,by simp,Fm.refl H,hrb,Seg.refl _ _ _⟩ ?_
 rintro m s ⟨i,j,t,H1,l,rfl,rfl,hi1,hj1,hij,g0,g8,g9,hfr,hrb,hseg⟩ ih
 have hlen:=hseg.len
 refine ak ?_
 refine ak (aj (.inl rfl) ?_)
 simp [g8,g9]
 by_cases hlt:i<j
 case neg=>
  refine ay (by simp [hlt]) ?_
  refine bf (k':=[]) rfl ?_
  exact pU (hQ _ _ _ rfl rfl ⟨rfl,hfr,l,hrb,hseg⟩)
 refine aB (by simp [hlt]) (aC ?_)
 obtain⟨x,y,H2,H3,-,-,i1,j1,l1,l2,w1,w2,s1,j2,s2,r2,f2⟩:=hrb.swp (hseg.grid hg) (hlen.trans hn) (i:=i) (j:=j) (by omega) (by omega)
 refine aN ?_
 refine ak (aj (.inl rfl) ?_)
 simp [g0,g8,g9,i1,j1,l1,l2,w1,w2,s1,j2,s2,-aG,-bJ]
 refine ak (aj (.inl rfl) ?_)
 simp [g8,wrap64 (n:=(i:Int)+1) (by omega) (by omega)]
 refine aj (.inl rfl) ?_
 simp [g9,wrap64 (n:=(j:Int)-1) (by omega) (by omega)]
 refine aJ ?_
 refine ih (n+1-(i+1)) _ (by omega) ⟨i+1,j-1,_,H3,swp l i j,rfl,rfl,by omega,by omega,by omega,by simp [g0],by simp,by simp;omega,hfr.trans f2,r2,hseg.trans (iF (by omega) (by omega) (by omega) (by omega) (by omega))⟩
def NB(H:Heap)(p:Nat):Prop:=∃ k:Int,H[p]?=some (.box [.f (fi k)] 0)
theorem NB.push{p:Nat}(h:NB H p)(J:Heap):NB (H++J) p:=by
 obtain⟨k,h⟩:=h
 exact⟨k,by rw [ai (aH h)];exact h⟩
theorem aIw(hT:tab σ.ord=some (Bv σ sz))(hcv:Cv tab cv W c){n p i j:Nat}(hn:rows.length=n)(hrb:RB H b sz ep rows)(hg:Grid sz rows)(hW:∀ r ∈ rows,W r)(hi:i<n)(hj:j<n)(hp:NB H p)(hpb:p≠b) :
  ∃ r H',Ev tab (.fn σ.ord) [.c (.sl b 0 n 0 ep sz),vi i,vi j,.c (.ptr p 0 0),cv] H r H'∧((r=.t [vi i,vi j]∨r=.t [vi j,vi i])∧Fm p H H'∧NB H' p):=by
 refine iR hT rfl fun Q hQ=>?_
 obtain⟨x,y,F,ar,J,-,-,i1,j1,l1,l2,fM,he,-,-⟩:=hrb.ask hg hcv hW hn hj hi
 obtain⟨k,hp'⟩:=hp.push J
 have hpl:=aH hp'
 refine ak (aj (.inl rfl) ?_)
 simp
 refine ak ?_
 refine ak (aj (.inl rfl) ?_)
 simp [i1,j1,l1,l2,fM,he,-aG]
 by_cases hlt:c x y<0
 ·refine aB (by simp [hlt]) (ak (aj (.inl rfl) ?_))
  simp [hp']
  refine ak (aj (.inl rfl) ?_)
  simp
  refine aO (hQ _ _ (.t [vi j,vi i]) rfl (by simp [Km.results,bC]) ⟨.inr rfl,?_,?_⟩)
  ·exact(Fm.push _ _).trans (Fm.set _ _)
  ·exact⟨_,ax hpl⟩
 ·refine ay (by simp [hlt]) (aC (ak (aj (.inl rfl) ?_)))
  simp
  exact aO (hQ _ _ (.t [vi i,vi j]) rfl (by simp [Km.results,bC]) ⟨.inl rfl,Fm.push _ _,hp.push J⟩)
theorem akb(hT:tab σ.med=some (Et σ sz))(hO:tab σ.ord=some (Bv σ sz))(hcv:Cv tab cv W c){n p i j k:Nat}(hn:rows.length=n)(hrb:RB H b sz ep rows)(hg:Grid sz rows)(hW:∀ r ∈ rows,W r)(hi:i<n)(hj:j<n)(hk:k<n)(hp:NB H p)(hpb:p≠b) :
  ∃ r H',Ev tab (.fn σ.med) [.c (.sl b 0 n 0 ep sz),vi i,vi j,vi k,.c (.ptr p 0 0),cv] H r H'∧((∃ q:Nat,r=vi q∧(q=i∨q=j∨q=k))∧Fm p H H'∧NB H' p):=by
 have key:∀ {H:Heap} {i j:Nat},RB H b sz ep rows→NB H p→i<n→j<n→∃(x y:Nat) (H':Heap),Ev tab (.fn σ.ord) [.c (.sl b 0 n 0 ep sz),vi i,vi j,.c (.ptr p 0 0),cv] H=E2 (.t [vi x,vi y]) H'∧(x=i∧y=j∨x=j∧y=i)∧Fm p H H'∧NB H' p:=by
  intro H i j hrb hp hi hj
  obtain⟨r,H',he,hr,hf,hb⟩:=aIw hO hcv hn hrb hg hW hi hj hp hpb
  rcases hr with rfl | rfl
  ·exact⟨i,j,H',he.eq,.inl ⟨rfl,rfl⟩,hf,hb⟩
  ·exact⟨j,i,H',he.eq,.inr ⟨rfl,rfl⟩,hf,hb⟩
 obtain⟨x1,y1,H1,e1,o1,f1,b1⟩:=key hrb hp hi hj
 have r1:RB H1 b sz ep rows:=f1.get hrb (Ne.symm hpb)
 obtain⟨x2,y2,H2,e2,o2,f2,b2⟩:=key r1 b1 (show y1<n by omega) hk
 have r2:RB H2 b sz ep rows:=f2.get r1 (Ne.symm hpb)
 obtain⟨x3,y3,H3,e3,o3,f3,b3⟩:=key r2 b2 (show x1<n by omega) (show x2<n by omega)
 refine iR hT rfl fun Q hQ=>?_
 refine ak (aj (.inl rfl) ?_)
 simp
 refine ak (aj (.inl rfl) ?_)
 simp [e1]
 refine ak (aj (.inl rfl) ?_)
 simp [e2]
 refine ak (aj (.inl rfl) ?_)
 simp [e3]
 refine ak (aj (.inl rfl) ?_)
 simp
 refine aO (hQ _ _ (vi y3) rfl (by simp [Km.results,bC]) ⟨⟨y3,rfl,by omega⟩,f1.trans (f2.trans f3),b3⟩)
theorem G8(hT:tab σ.BM=some (BL σ sz))(hM:tab σ.med=some (Et σ sz))(hO:tab σ.ord=some (Bv σ sz))(hcv:Cv tab cv W c){n p i:Nat}(hn:rows.length=n)(hl:n≤1000000000)(hrb:RB H b sz ep rows)(hg:Grid sz rows)(hW:∀ r ∈ rows,W r)(h0:0<i)(hi:i+1<n)(hp:NB H p)(hpb:p≠b) :
  ∃ r H',Ev tab (.fn σ.BM) [.c (.sl b 0 n 0 ep sz),vi i,.c (.ptr p 0 0),cv] H r H'∧((∃ q:Nat,r=vi q∧i≤q+1∧q≤i+1)∧Fm p H H'∧NB H' p):=by
 obtain⟨d,rfl⟩:∃ d,i=d+1:=⟨i-1,by omega⟩
 obtain⟨r,H',he,⟨q,rfl,hq⟩,hf,hb⟩:=akb (i:=d) (j:=d+1) (k:=d+1+1) hM hO hcv hn hrb hg hW (by omega) (by omega) hi hp hpb
 refine iR hT rfl fun Q hQ=>?_
 have he:=he.eq
 simp at he
 refine ak (aj (.inl rfl) ?_)
 simp
 refine ak (aj (.inl rfl) ?_)
 simp [wrap64 (n:=(d:Int)) (by omega) (by omega),wrap64 (n:=(d:Int)+1+1) (by omega) (by omega),he]
 exact aO (hQ _ _ (vi q) rfl (by simp [Km.results,bC]) ⟨⟨q,rfl,by omega,by omega⟩,hf,hb⟩)
def Kp(H H':Heap):Prop:=H.length≤H'.length∧∀ b':Nat,b'<H.length→H'[b']?=H[b']?
theorem Kp.fm{b:Nat}{H H':Heap}(h:Kp H H'):Fm b H H':=⟨h.1,fun b' _ l=>h.2 b' l⟩
theorem Kp.push(H J:Heap):Kp H (H++J):=⟨by simp,fun b' l=>ai l⟩
theorem Kp.next{H H' H'':Heap}{p:Nat}(h:Kp H H')(hp:H.length≤p)(h':Fm p H' H''):Kp H H'':=⟨bz h.1 h'.1,fun b' l=>(h'.2 b' (by omega) (cG l h.1)).trans (h.2 b' l)⟩
theorem Kp.rb{H H':Heap}{b sz ep:Nat}{rows:List (List FC)}(h:Kp H H')(hb:RB H b sz ep rows):RB H' b sz ep rows:=by
 unfold RB at *
 rw [h.2 b (aH hb)];exact hb
theorem axx{a b:Nat}(hb:0<b)(ha:a≤9223372036854775807):bT .quo (vi a) (vi b)=some (vi ((a / b:Nat):Int)):=by
 have h1:(a / b:Nat)≤a:=Nat.div_le_self a b
 obtain⟨q,hq⟩:∃ q,q=a / b:=⟨_,rfl⟩
 have h2:((a:Int) / b)=(q:Int):=by rw [hq];simp
 have h3:q≤a:=by rw [hq];exact h1
 rw [←hq,Ir (by omega),Int.tdiv_eq_ediv_of_nonneg (by omega),h2,wrap64 (by omega) (by omega)]
theorem aF7(hT:tab σ.piv=some (RV σ sz))(hA:tab σ.BM=some (BL σ sz))(hM:tab σ.med=some (Et σ sz))(hO:tab σ.ord=some (Bv σ sz))(hcv:Cv tab cv W c){n a e:Nat}(hn:rows.length=n)(hl:n≤1000000000)(hrb:RB H b sz ep rows)(hg:Grid sz rows)(hW:∀ r ∈ rows,W r)(hae:a+8≤e)(hen:e≤n) :
  ∃ r H',Ev tab (.fn σ.piv) [.c (.sl b 0 n 0 ep sz),vi a,vi e,cv] H r H'∧((∃(q:Nat) (h:Int),r=.t [vi q,vi h]∧a≤q∧q<e)∧Kp H H'):=by
 obtain⟨L,rfl⟩:∃ L,e=a+L:=⟨e-a,by omega⟩
 obtain⟨d,hd⟩:∃ d,d=L / 4:=⟨_,rfl⟩
 have hq:bT .quo (vi (L:Int)) (vi 4)=some (vi (d:Int)):=by
  have:=axx (a:=L) (b:=4) (by omega) (by omega)
  rw [hd];exact this
 have hbl:=hrb.lt
 have hw:IntKind.i64.wrap ((a:Int)+L-a)=L:=by rw [wrap64 (by omega) (by omega)];omega
 refine iR hT rfl fun Q hQ=>?_
 have fin:∀(t:T) (H2:Heap) (q:Nat),t.g 11=.c (.ptr H.length 0 0)→t.g 13=vi q→a≤q→q<a+L→NB H2 H.length→Kp H H2→WP tab σ.piv none [.code (Na σ sz)] ⟨t,[],H2⟩ Q:=by
  intro t H2 q g11 g13 h1 h2 ⟨k,hk⟩ hkp
  refine ak (aj (.inl rfl) ?_)
  simp [g11,hk]
  refine aN ?_
  refine ak (aj (.inl rfl) ?_)
  simp
  by_cases k1:k=0
  ·refine aB (by simp [k1]) (ak (aj (.inl rfl) ?_))
   simp [g13]
   exact aO (hQ _ _ (.t [vi q,vi 1]) rfl (by simp [Km.results,bC]) ⟨⟨q,1,rfl,h1,h2⟩,hkp⟩)
  refine ay (by simp [k1]) ?_
  refine ak (aj (.inl rfl) ?_)
  simp
  by_cases k2:k=12
  ·refine aB (by simp [k2]) (ak (aj (.inl rfl) ?_))
   simp [g13]
   exact aO (hQ _ _ (.t [vi q,vi 2]) rfl (by simp [Km.results,bC]) ⟨⟨q,2,rfl,h1,h2⟩,hkp⟩)
  refine ay (by simp [k2]) ?_
  refine ak (aj (.inl rfl) ?_)
  simp [g13]
  exact aO (hQ _ _ (.t [vi q,vi 0]) rfl (by simp [Km.results,bC]) ⟨⟨q,0,rfl,h1,h2⟩,hkp⟩)
 have mid:∀(t:T) (H2:Heap) (i j k:Nat),t.g 0=.c (.sl b 0 n 0 ep sz)→t.g 3=cv→t.g 11=.c (.ptr H.length 0 0)→t.g 12=vi i→t.g 13=vi j→t.g 14=vi k→a≤i→i<a+L→a≤j→j<a+L→a≤k→k<a+L→NB H2 H.length→Kp H H2 →
   WP tab σ.piv none [.code (ajt σ sz),.code (Na σ sz)] ⟨t,[],H2⟩ Q:=by
  intro t H2 i j k g0 g3 g11 g12 g13 g14 i1 i2 j1 j2 k1 k2 hnb hkp
  obtain⟨r,H3,he,⟨q,rfl,hq⟩,hf,hb3⟩:=akb (p:=H.length) (i:=i) (j:=j) (k:=k) hM hO hcv hn (hkp.rb hrb) hg hW (by omega) (by omega) (by omega) hnb (by omega)
  have he:=he.eq
  refine aj (.inl rfl) ?_
  simp [g0,g3,g11,g12,g13,g14,he]
  exact fin _ H3 q (by simp [g11]) (by simp) (by omega) (by omega) hb3 (hkp.next (aw _) hf)
 refine ak (aj (.inl rfl) ?_)
 simp
 refine ak (aj (.inl rfl) ?_)
 simp [hw]
 refine ak (aj (.inl rfl) ?_)
 simp
 refine ak (aj (.inl rfl) ?_)
 simp [hq,wrap64 (n:=(d:Int)) (by omega) (by omega),wrap64 (n:=(a:Int)+d) (by omega) (by omega)]
 refine ak (aj (.inl rfl) ?_)
 simp [hq,wrap64 (n:=(d:Int)*2) (by omega) (by omega),wrap64 (n:=(a:Int)+d*2) (by omega) (by omega)]
 refine ak (aj (.inl rfl) ?_)
 simp [hq,wrap64 (n:=(d:Int)*3) (by omega) (by omega),wrap64 (n:=(a:Int)+d*3) (by omega) (by omega)]
 refine ak ?_
 refine ak (aj (.inl rfl) ?_)
 simp
 refine aB (by simp;omega) ?_
 refine ak ?_
 refine ak (aj (.inl rfl) ?_)
 simp
 have hnb:NB (H++[.box [.f (fi 0)] 0]) H.length:=⟨0,by simp⟩
 have hkp:Kp H (H++[.box [.f (fi 0)] 0]):=Kp.push _ _
 by_cases h50:50≤L
 case neg=>
  refine ay (by simp;omega) (aC ?_)
  exact mid _ _ (a+d) (a+d*2) (a+d*3) (by simp) (by simp) (by simp) (by simp) (by simp) (by simp) (by omega) (by omega) (by omega) (by omega) (by omega) (by omega) hnb hkp
 refine aB (by simp;omega) ?_
 obtain⟨r1,H1,e1,⟨q1,rfl,hq1⟩,f1,b1⟩:=G8 (p:=H.length) (i:=a+d) hA hM hO hcv hn hl (hkp.rb hrb) hg hW (by omega) (by omega) hnb (by omega)
 have kp1:=hkp.next (aw _) f1
 obtain⟨r2,H2,e2,⟨q2,rfl,hq2⟩,f2,b2⟩:=G8 (p:=H.length) (i:=a+d*2) hA hM hO hcv hn hl (kp1.rb hrb) hg hW (by omega) (by omega) b1 (by omega)
 have kp2:=kp1.next (aw _) f2
 obtain⟨r3,H3,e3,⟨q3,rfl,hq3⟩,f3,b3⟩:=G8 (p:=H.length) (i:=a+d*3) hA hM hO hcv hn hl (kp2.rb hrb) hg hW (by omega) (by omega) b2 (by omega)
 have kp3:=kp2.next (aw _) f3
 have e1:=e1.eq
 have e2:=e2.eq
 have e3:=e3.eq
 simp at e1 e2 e3
 refine ak (aj (.inl rfl) ?_)
 simp [e1]
 refine ak (aj (.inl rfl) ?_)
 simp [e2]
 refine aj (.inl rfl) ?_
 simp [e3]
 exact mid _ _ q1 q2 q3 (by simp) (by simp) (by simp) (by simp) (by simp) (by simp) (by omega) (by omega) (by omega) (by omega) (by omega) (by omega) b3 kp3
end
end Km
end
section
namespace Km
open Go
section
variable{tab:Nat→Option AFunc}{σ:Srt}{sz:Nat}{cv:V}{W:List FC→Prop}{c:List FC→List FC→Int}
theorem ajE{n a e i j ep b:Nat}{rows:List (List FC)}{p:List FC}{H0:Heap}{k:List dJ}{Q:Option ah→St→Prop}(hcv:Cv tab cv W c)(hn:rows.length=n)(hl:n≤1000000000)(hg:Grid sz rows)(hW:∀ r ∈ rows,W r)
  {t:T} {H:Heap} (hai:a<i) (hij:i≤j+1) (hje:j<e) (hen:e≤n) (hp:rows[a]?=some p)
  (g0:t.g 0=.c (.sl b 0 n 0 ep sz)) (g1:t.g 1=vi a) (g4:t.g 4=cv) (gi:t.g 12=vi i) (gj:t.g 13=vi j) (hfr:Fm b H0 H) (hrb:RB H b sz ep rows)
  (next:∀(t:T) (H:Heap) (i':Nat),(i≤i'∧i'≤j+1)→(∀(q:Nat) x,i≤q→q<i'→rows[q]?=some x→c x p<0)→(j<i'∨∀ x,rows[i']?=some x→¬ c x p<0) →
   t.g 0=.c (.sl b 0 n 0 ep sz)→t.g 1=vi a→t.g 4=cv→t.g 12=vi i'→t.g 13=vi j→Fm b H0 H→RB H b sz ep rows→WP tab σ.part none k ⟨t,[],H⟩ Q) :
  WP tab σ.part none (.code (ajH σ sz)::k) ⟨t,[],H⟩ Q:=by
 refine aN ?_
 refine bI (fun m s=>∃(q:Nat) (t:T) (H1:Heap),s=⟨t,[],H1⟩∧(q+m=j+1∧i≤q)∧(∀(r:Nat) x,i≤r→r<q→rows[r]?=some x→c x p<0) ∧
   t.g 0=.c (.sl b 0 n 0 ep sz)∧t.g 1=vi a∧t.g 4=cv∧t.g 12=vi q∧t.g 13=vi j∧Fm b H0 H1∧RB H1 b sz ep rows) (j+1-i)
  ⟨i,_,H,rfl,by omega,fun r x h1 h2=>by omega,g0,g1,g4,gi,gj,hfr,hrb⟩ ?_
 rintro m s ⟨q,t,H1,rfl,hm,fV,g0,g1,g4,gi,gj,hfr,hrb⟩ ih
 refine ak ?_
 refine ak (aj (.inl rfl) ?_)
 by_cases hlt:q≤j
 case neg=>
  simp [gi,gj,hlt]
  refine ay (by simp) ?_
  refine bf (k':=k) rfl ?_
  exact next _ _ q (by omega) fV (.inl (by omega)) (by simp [g0]) (by simp [g1]) (by simp [g4]) (by simp [gi]) (by simp [gj]) hfr hrb
 obtain⟨x,y,F,ar,J,hx,hy,i1,j1,l1,l2,fM,he,-,-⟩:=hrb.ask hg hcv hW hn (i:=q) (j:=a) (by omega) (by omega)
 simp [gi,gj,hlt,g0,g1,g4,i1,j1,l1,l2,fM,he,-aG]
 have ep:p=y:=by rw [hp]at hy;exact dk hy
 subst ep
 by_cases hc:c x p<0
 case neg=>
  refine ay (by simp [hc]) ?_
  refine bf (k':=k) rfl ?_
  refine next _ _ q (by omega) fV (.inr fun z hz=>?_) (by simp [g0]) (by simp [g1]) (by simp [g4]) (by simp [gi]) (by simp [gj]) (hfr.trans (Fm.push _ _)) (hrb.push _)
  rw [hx]at hz;cases hz;exact hc
 refine aB (by simp [hc]) (aC ?_)
 refine aN (aj (.inl rfl) ?_)
 simp [gi,gj,wrap64 (n:=(q:Int)+1) (by omega) (by omega)]
 refine aJ (ih (m-1) _ (by omega) ⟨q+1,_,_,rfl,by omega,fun r z h1 h2 hz=>?_,by simp [g0],by simp [g1],by simp [g4],by simp,by simp [gj],hfr.trans (Fm.push _ _),hrb.push _⟩)
 by_cases hr:r=q
 ·subst hr;rw [hx]at hz;cases hz;exact hc
 ·exact fV r z (by omega) (by omega) hz
theorem ajG{n a e i j ep b:Nat}{rows:List (List FC)}{p:List FC}{H0:Heap}{k:List dJ}{Q:Option ah→St→Prop}(hcv:Cv tab cv W c)(hn:rows.length=n)(hl:n≤1000000000)(hg:Grid sz rows)(hW:∀ r ∈ rows,W r)
  {t:T} {H:Heap} (hai:a<i) (hij:i≤j+1) (hje:j<e) (hen:e≤n) (hp:rows[a]?=some p)
  (g0:t.g 0=.c (.sl b 0 n 0 ep sz)) (g1:t.g 1=vi a) (g4:t.g 4=cv) (gi:t.g 12=vi i) (gj:t.g 13=vi j) (hfr:Fm b H0 H) (hrb:RB H b sz ep rows)
  (next:∀(t:T) (H:Heap) (j':Nat),(j'≤j∧i≤j'+1)→(∀(q:Nat) x,j'<q→q≤j→rows[q]?=some x→¬ c x p<0)→(j'<i∨∀ x,rows[j']?=some x→¬ ¬ c x p<0) →
   t.g 0=.c (.sl b 0 n 0 ep sz)→t.g 1=vi a→t.g 4=cv→t.g 12=vi i→t.g 13=vi j'→Fm b H0 H→RB H b sz ep rows→WP tab σ.part none k ⟨t,[],H⟩ Q) :
  WP tab σ.part none (.code (SB σ sz)::k) ⟨t,[],H⟩ Q:=by
 refine aN ?_
 refine bI (fun m s=>∃(q:Nat) (t:T) (H1:Heap),s=⟨t,[],H1⟩∧(q+1=i+m∧q≤j)∧(∀(r:Nat) x,q<r→r≤j→rows[r]?=some x→¬ c x p<0) ∧
   t.g 0=.c (.sl b 0 n 0 ep sz)∧t.g 1=vi a∧t.g 4=cv∧t.g 12=vi i∧t.g 13=vi q∧Fm b H0 H1∧RB H1 b sz ep rows) (j+1-i)
  ⟨j,_,H,rfl,by omega,fun r x h1 h2=>by omega,g0,g1,g4,gi,gj,hfr,hrb⟩ ?_
 rintro m s ⟨q,t,H1,rfl,hm,fV,g0,g1,g4,gi,gj,hfr,hrb⟩ ih
 refine ak ?_
 refine ak (aj (.inl rfl) ?_)
 by_cases hlt:i≤q
 case neg=>
  simp [gi,gj,hlt]
  refine ay (by simp) ?_
  refine bf (k':=k) rfl ?_
  exact next _ _ q (by omega) fV (.inl (by omega)) (by simp [g0]) (by simp [g1]) (by simp [g4]) (by simp [gi]) (by simp [gj]) hfr hrb
 obtain⟨x,y,F,ar,J,hx,hy,i1,j1,l1,l2,fM,he,-,-⟩:=hrb.ask hg hcv hW hn (i:=q) (j:=a) (by omega) (by omega)
 simp [gi,gj,hlt,g0,g1,g4,i1,j1,l1,l2,fM,he,-aG]
 have ep:p=y:=by rw [hp]at hy;exact dk hy
 subst ep
 by_cases hc:c x p<0
 case pos=>
  refine ay (by simp [hc]) ?_
  refine bf (k':=k) rfl ?_
  refine next _ _ q (by omega) fV (.inr fun z hz=>?_) (by simp [g0]) (by simp [g1]) (by simp [g4]) (by simp [gi]) (by simp [gj]) (hfr.trans (Fm.push _ _)) (hrb.push _)
  rw [hx]at hz;cases hz;exact fun h=>h hc
 refine aB (by simp [hc]) (aC ?_)
 refine aN (aj (.inl rfl) ?_)
 simp [gi,gj,wrap64 (n:=(q:Int)-1) (by omega) (by omega)]
 refine aJ (ih (m-1) _ (by omega) ⟨q-1,_,_,rfl,by omega,fun r z h1 h2 hz=>?_,by simp [g0],by simp [g1],by simp [g4],by simp [gi],by simp;omega,hfr.trans (Fm.push _ _),hrb.push _⟩)
 by_cases hr:r=q
 ·subst hr;rw [hx]at hz;cases hz;exact hc
 ·exact fV r z (by omega) (by omega) hz
theorem ajD{n a e i j ep b:Nat}{rows:List (List FC)}{p:List FC}{H0:Heap}{k:List dJ}{Q:Option ah→St→Prop}(hcv:Cv tab cv W c)(hn:rows.length=n)(hl:n≤1000000000)(hg:Grid sz rows)(hW:∀ r ∈ rows,W r)
  {t:T} {H:Heap} (hai:a<i) (hij:i≤j+1) (hje:j<e) (hen:e≤n) (hp:rows[a]?=some p)
  (g0:t.g 0=.c (.sl b 0 n 0 ep sz)) (g1:t.g 1=vi a) (g4:t.g 4=cv) (gi:t.g 12=vi i) (gj:t.g 13=vi j) (hfr:Fm b H0 H) (hrb:RB H b sz ep rows)
  (next:∀(t:T) (H:Heap) (i':Nat),(i≤i'∧i'≤j+1)→(∀(q:Nat) x,i≤q→q<i'→rows[q]?=some x→c x p<0)→(j<i'∨∀ x,rows[i']?=some x→¬ c x p<0) →
   t.g 0=.c (.sl b 0 n 0 ep sz)→t.g 1=vi a→t.g 4=cv→t.g 12=vi i'→t.g 13=vi j→Fm b H0 H→RB H b sz ep rows→WP tab σ.part none k ⟨t,[],H⟩ Q) :
  WP tab σ.part none (.code (SA σ sz)::k) ⟨t,[],H⟩ Q:=by
 refine aN ?_
 refine bI (fun m s=>∃(q:Nat) (t:T) (H1:Heap),s=⟨t,[],H1⟩∧(q+m=j+1∧i≤q)∧(∀(r:Nat) x,i≤r→r<q→rows[r]?=some x→c x p<0) ∧
   t.g 0=.c (.sl b 0 n 0 ep sz)∧t.g 1=vi a∧t.g 4=cv∧t.g 12=vi q∧t.g 13=vi j∧Fm b H0 H1∧RB H1 b sz ep rows) (j+1-i)
  ⟨i,_,H,rfl,by omega,fun r x h1 h2=>by omega,g0,g1,g4,gi,gj,hfr,hrb⟩ ?_
 rintro m s ⟨q,t,H1,rfl,hm,fV,g0,g1,g4,gi,gj,hfr,hrb⟩ ih
 refine ak ?_
 refine ak (aj (.inl rfl) ?_)
 by_cases hlt:q≤j
 case neg=>
  simp [gi,gj,hlt]
  refine ay (by simp) ?_
  refine bf (k':=k) rfl ?_
  exact next _ _ q (by omega) fV (.inl (by omega)) (by simp [g0]) (by simp [g1]) (by simp [g4]) (by simp [gi]) (by simp [gj]) hfr hrb
 obtain⟨x,y,F,ar,J,hx,hy,i1,j1,l1,l2,fM,he,-,-⟩:=hrb.ask hg hcv hW hn (i:=q) (j:=a) (by omega) (by omega)
 simp [gi,gj,hlt,g0,g1,g4,i1,j1,l1,l2,fM,he,-aG]
 have ep:p=y:=by rw [hp]at hy;exact dk hy
 subst ep
 by_cases hc:c x p<0
 case neg=>
  refine ay (by simp [hc]) ?_
  refine bf (k':=k) rfl ?_
  refine next _ _ q (by omega) fV (.inr fun z hz=>?_) (by simp [g0]) (by simp [g1]) (by simp [g4]) (by simp [gi]) (by simp [gj]) (hfr.trans (Fm.push _ _)) (hrb.push _)
  rw [hx]at hz;cases hz;exact hc
 refine aB (by simp [hc]) (aC ?_)
 refine aN (aj (.inl rfl) ?_)
 simp [gi,gj,wrap64 (n:=(q:Int)+1) (by omega) (by omega)]
 refine aJ (ih (m-1) _ (by omega) ⟨q+1,_,_,rfl,by omega,fun r z h1 h2 hz=>?_,by simp [g0],by simp [g1],by simp [g4],by simp,by simp [gj],hfr.trans (Fm.push _ _),hrb.push _⟩)
 by_cases hr:r=q
 ·subst hr;rw [hx]at hz;cases hz;exact hc
 ·exact fV r z (by omega) (by omega) hz
theorem ajF{n a e i j ep b:Nat}{rows:List (List FC)}{p:List FC}{H0:Heap}{k:List dJ}{Q:Option ah→St→Prop}(hcv:Cv tab cv W c)(hn:rows.length=n)(hl:n≤1000000000)(hg:Grid sz rows)(hW:∀ r ∈ rows,W r)
  {t:T} {H:Heap} (hai:a<i) (hij:i≤j+1) (hje:j<e) (hen:e≤n) (hp:rows[a]?=some p)
  (g0:t.g 0=.c (.sl b 0 n 0 ep sz)) (g1:t.g 1=vi a) (g4:t.g 4=cv) (gi:t.g 12=vi i) (gj:t.g 13=vi j) (hfr:Fm b H0 H) (hrb:RB H b sz ep rows)
  (next:∀(t:T) (H:Heap) (j':Nat),(j'≤j∧i≤j'+1)→(∀(q:Nat) x,j'<q→q≤j→rows[q]?=some x→¬ c x p<0)→(j'<i∨∀ x,rows[j']?=some x→¬ ¬ c x p<0) →
   t.g 0=.c (.sl b 0 n 0 ep sz)→t.g 1=vi a→t.g 4=cv→t.g 12=vi i→t.g 13=vi j'→Fm b H0 H→RB H b sz ep rows→WP tab σ.part none k ⟨t,[],H⟩ Q) :
  WP tab σ.part none (.code (Sz σ sz)::k) ⟨t,[],H⟩ Q:=by
 refine aN ?_
 refine bI (fun m s=>∃(q:Nat) (t:T) (H1:Heap),s=⟨t,[],H1⟩∧(q+1=i+m∧q≤j)∧(∀(r:Nat) x,q<r→r≤j→rows[r]?=some x→¬ c x p<0) ∧
   t.g 0=.c (.sl b 0 n 0 ep sz)∧t.g 1=vi a∧t.g 4=cv∧t.g 12=vi i∧t.g 13=vi q∧Fm b H0 H1∧RB H1 b sz ep rows) (j+1-i)
  ⟨j,_,H,rfl,by omega,fun r x h1 h2=>by omega,g0,g1,g4,gi,gj,hfr,hrb⟩ ?_
 rintro m s ⟨q,t,H1,rfl,hm,fV,g0,g1,g4,gi,gj,hfr,hrb⟩ ih
 refine ak ?_
 refine ak (aj (.inl rfl) ?_)
 by_cases hlt:i≤q
 case neg=>
  simp [gi,gj,hlt]
  refine ay (by simp) ?_
  refine bf (k':=k) rfl ?_
  exact next _ _ q (by omega) fV (.inl (by omega)) (by simp [g0]) (by simp [g1]) (by simp [g4]) (by simp [gi]) (by simp [gj]) hfr hrb
 obtain⟨x,y,F,ar,J,hx,hy,i1,j1,l1,l2,fM,he,-,-⟩:=hrb.ask hg hcv hW hn (i:=q) (j:=a) (by omega) (by omega)
 simp [gi,gj,hlt,g0,g1,g4,i1,j1,l1,l2,fM,he,-aG]
 have ep:p=y:=by rw [hp]at hy;exact dk hy
 subst ep
 by_cases hc:c x p<0
 case pos=>
  refine ay (by simp [hc]) ?_
  refine bf (k':=k) rfl ?_
  refine next _ _ q (by omega) fV (.inr fun z hz=>?_) (by simp [g0]) (by simp [g1]) (by simp [g4]) (by simp [gi]) (by simp [gj]) (hfr.trans (Fm.push _ _)) (hrb.push _)
  rw [hx]at hz;cases hz;exact fun h=>h hc
 refine aB (by simp [hc]) (aC ?_)
 refine aN (aj (.inl rfl) ?_)
 simp [gi,gj,wrap64 (n:=(q:Int)-1) (by omega) (by omega)]
 refine aJ (ih (m-1) _ (by omega) ⟨q-1,_,_,rfl,by omega,fun r z h1 h2 hz=>?_,by simp [g0],by simp [g1],by simp [g4],by simp [gi],by simp;omega,hfr.trans (Fm.push _ _),hrb.push _⟩)
 by_cases hr:r=q
 ·subst hr;rw [hx]at hz;cases hz;exact hc
 ·exact fV r z (by omega) (by omega) hz
theorem aGL{n a e i j ep b:Nat}{rows:List (List FC)}{p:List FC}{H0:Heap}{k:List dJ}{Q:Option ah→St→Prop}(hcv:Cv tab cv W c)(hn:rows.length=n)(hl:n≤1000000000)(hg:Grid sz rows)(hW:∀ r ∈ rows,W r)
  {t:T} {H:Heap} (hai:a<i) (hij:i≤j+1) (hje:j<e) (hen:e≤n) (hp:rows[a]?=some p)
  (g0:t.g 0=.c (.sl b 0 n 0 ep sz)) (g1:t.g 1=vi a) (g4:t.g 4=cv) (gi:t.g 11=vi i) (gj:t.g 12=vi j) (hfr:Fm b H0 H) (hrb:RB H b sz ep rows)
  (next:∀(t:T) (H:Heap) (i':Nat),(i≤i'∧i'≤j+1)→(∀(q:Nat) x,i≤q→q<i'→rows[q]?=some x→¬ c p x<0)→(j<i'∨∀ x,rows[i']?=some x→¬ ¬ c p x<0) →
   t.g 0=.c (.sl b 0 n 0 ep sz)→t.g 1=vi a→t.g 4=cv→t.g 11=vi i'→t.g 12=vi j→Fm b H0 H→RB H b sz ep rows→WP tab σ.peq none k ⟨t,[],H⟩ Q) :
  WP tab σ.peq none (.code (ajy σ sz)::k) ⟨t,[],H⟩ Q:=by
 refine aN ?_
 refine bI (fun m s=>∃(q:Nat) (t:T) (H1:Heap),s=⟨t,[],H1⟩∧(q+m=j+1∧i≤q)∧(∀(r:Nat) x,i≤r→r<q→rows[r]?=some x→¬ c p x<0) ∧
   t.g 0=.c (.sl b 0 n 0 ep sz)∧t.g 1=vi a∧t.g 4=cv∧t.g 11=vi q∧t.g 12=vi j∧Fm b H0 H1∧RB H1 b sz ep rows) (j+1-i)
  ⟨i,_,H,rfl,by omega,fun r x h1 h2=>by omega,g0,g1,g4,gi,gj,hfr,hrb⟩ ?_
 rintro m s ⟨q,t,H1,rfl,hm,fV,g0,g1,g4,gi,gj,hfr,hrb⟩ ih
 refine ak ?_
 refine ak (aj (.inl rfl) ?_)
 by_cases hlt:q≤j
 case neg=>
  simp [gi,gj,hlt]
  refine ay (by simp) ?_
  refine bf (k':=k) rfl ?_
  exact next _ _ q (by omega) fV (.inl (by omega)) (by simp [g0]) (by simp [g1]) (by simp [g4]) (by simp [gi]) (by simp [gj]) hfr hrb
 obtain⟨x,y,F,ar,J,hx,hy,i1,j1,l1,l2,fM,he,-,-⟩:=hrb.ask hg hcv hW hn (i:=a) (j:=q) (by omega) (by omega)
 simp [gi,gj,hlt,g0,g1,g4,i1,j1,l1,l2,fM,he,-aG]
 have ep:p=x:=by rw [hp]at hx;exact dk hx
 subst ep
 by_cases hc:c p y<0
 case pos=>
  refine ay (by simp [hc]) ?_
  refine bf (k':=k) rfl ?_
  refine next _ _ q (by omega) fV (.inr fun z hz=>?_) (by simp [g0]) (by simp [g1]) (by simp [g4]) (by simp [gi]) (by simp [gj]) (hfr.trans (Fm.push _ _)) (hrb.push _)
  rw [hy]at hz;cases hz;exact fun h=>h hc
 refine aB (by simp [hc]) (aC ?_)
 refine aN (aj (.inl rfl) ?_)
 simp [gi,gj,wrap64 (n:=(q:Int)+1) (by omega) (by omega)]
 refine aJ (ih (m-1) _ (by omega) ⟨q+1,_,_,rfl,by omega,fun r z h1 h2 hz=>?_,by simp [g0],by simp [g1],by simp [g4],by simp,by simp [gj],hfr.trans (Fm.push _ _),hrb.push _⟩)
 by_cases hr:r=q
 ·subst hr;rw [hy]at hz;cases hz;exact hc
 ·exact fV r z (by omega) (by omega) hz
theorem aGN{n a e i j ep b:Nat}{rows:List (List FC)}{p:List FC}{H0:Heap}{k:List dJ}{Q:Option ah→St→Prop}(hcv:Cv tab cv W c)(hn:rows.length=n)(hl:n≤1000000000)(hg:Grid sz rows)(hW:∀ r ∈ rows,W r)
  {t:T} {H:Heap} (hai:a<i) (hij:i≤j+1) (hje:j<e) (hen:e≤n) (hp:rows[a]?=some p)
  (g0:t.g 0=.c (.sl b 0 n 0 ep sz)) (g1:t.g 1=vi a) (g4:t.g 4=cv) (gi:t.g 11=vi i) (gj:t.g 12=vi j) (hfr:Fm b H0 H) (hrb:RB H b sz ep rows)
  (next:∀(t:T) (H:Heap) (j':Nat),(j'≤j∧i≤j'+1)→(∀(q:Nat) x,j'<q→q≤j→rows[q]?=some x→c p x<0)→(j'<i∨∀ x,rows[j']?=some x→¬ c p x<0) →
   t.g 0=.c (.sl b 0 n 0 ep sz)→t.g 1=vi a→t.g 4=cv→t.g 11=vi i→t.g 12=vi j'→Fm b H0 H→RB H b sz ep rows→WP tab σ.peq none k ⟨t,[],H⟩ Q) :
  WP tab σ.peq none (.code (ajx σ sz)::k) ⟨t,[],H⟩ Q:=by
 refine aN ?_
 refine bI (fun m s=>∃(q:Nat) (t:T) (H1:Heap),s=⟨t,[],H1⟩∧(q+1=i+m∧q≤j)∧(∀(r:Nat) x,q<r→r≤j→rows[r]?=some x→c p x<0) ∧
   t.g 0=.c (.sl b 0 n 0 ep sz)∧t.g 1=vi a∧t.g 4=cv∧t.g 11=vi i∧t.g 12=vi q∧Fm b H0 H1∧RB H1 b sz ep rows) (j+1-i)
  ⟨j,_,H,rfl,by omega,fun r x h1 h2=>by omega,g0,g1,g4,gi,gj,hfr,hrb⟩ ?_
 rintro m s ⟨q,t,H1,rfl,hm,fV,g0,g1,g4,gi,gj,hfr,hrb⟩ ih
 refine ak ?_
 refine ak (aj (.inl rfl) ?_)
 by_cases hlt:i≤q
 case neg=>
  simp [gi,gj,hlt]
  refine ay (by simp) ?_
  refine bf (k':=k) rfl ?_
  exact next _ _ q (by omega) fV (.inl (by omega)) (by simp [g0]) (by simp [g1]) (by simp [g4]) (by simp [gi]) (by simp [gj]) hfr hrb
 obtain⟨x,y,F,ar,J,hx,hy,i1,j1,l1,l2,fM,he,-,-⟩:=hrb.ask hg hcv hW hn (i:=a) (j:=q) (by omega) (by omega)
 simp [gi,gj,hlt,g0,g1,g4,i1,j1,l1,l2,fM,he,-aG]
 have ep:p=x:=by rw [hp]at hx;exact dk hx
 subst ep
 by_cases hc:c p y<0
 case neg=>
  refine ay (by simp [hc]) ?_
  refine bf (k':=k) rfl ?_
  refine next _ _ q (by omega) fV (.inr fun z hz=>?_) (by simp [g0]) (by simp [g1]) (by simp [g4]) (by simp [gi]) (by simp [gj]) (hfr.trans (Fm.push _ _)) (hrb.push _)
  rw [hy]at hz;cases hz;exact hc
 refine aB (by simp [hc]) (aC ?_)
 refine aN (aj (.inl rfl) ?_)
 simp [gi,gj,wrap64 (n:=(q:Int)-1) (by omega) (by omega)]
 refine aJ (ih (m-1) _ (by omega) ⟨q-1,_,_,rfl,by omega,fun r z h1 h2 hz=>?_,by simp [g0],by simp [g1],by simp [g4],by simp [gi],by simp;omega,hfr.trans (Fm.push _ _),hrb.push _⟩)
 by_cases hr:r=q
 ·subst hr;rw [hy]at hz;cases hz;exact hc
 ·exact fV r z (by omega) (by omega) hz
def DX(c:List FC→List FC→Int)(a i j e:Nat)(p:List FC)(l:List (List FC)):Prop:=
 l[a]?=some p∧(∀(k:Nat) x,a<k→k<i→l[k]?=some x→c x p<0)∧(∀(k:Nat) x,j<k→k<e→l[k]?=some x→¬ c x p<0)
def qg(c:List FC→List FC→Int)(a e m:Nat)(l:List (List FC)):Prop:=
 ∃ p,l[m]?=some p∧(∀(k:Nat) x,a≤k→k<m→l[k]?=some x→c x p<0)∧(∀(k:Nat) x,m<k→k<e→l[k]?=some x→¬ c x p<0)
theorem DX.swap{a i j e:Nat}{p:List FC}{l:List (List FC)}(h:DX c a i j e p l)(hai:a<i)(hij:i<j)(hjl:j<l.length)(hi:∀ x,l[i]?=some x→¬ c x p<0)(hj:∀ x,l[j]?=some x→c x p<0):DX c a (i+1) (j-1) e p (swp l i j):=by
 obtain⟨h0,h1,h2⟩:=h
 have g:∀ k,(swp l i j)[k]?=if k=j then l[i]? else if k=i then l[j]? else l[k]?:=fun k=>swp_get (by omega) hjl k
 refine⟨?_,fun k x k1 k2 hx=>?_,fun k x k1 k2 hx=>?_⟩
 ·rw [g,if_neg (by omega),if_neg (by omega)];exact h0
 ·rw [g,if_neg (by omega)]at hx
  by_cases e:k=i
  ·rw [if_pos e]at hx;exact hj x hx
  ·rw [if_neg e]at hx;exact h1 k x k1 (by omega) hx
 ·rw [g]at hx
  by_cases e:k=j
  ·rw [if_pos e]at hx;exact hi x hx
  ·rw [if_neg e,if_neg (by omega)]at hx;exact h2 k x (by omega) k2 hx
theorem DX.done{a i j e:Nat}{p:List FC}{l:List (List FC)}(h:DX c a i j e p l)(hai:a≤j)(hij:i=j+1)(hjl:j<l.length):qg c a e j (swp l j a):=by
 obtain⟨h0,h1,h2⟩:=h
 have g:∀ k,(swp l j a)[k]?=if k=a then l[j]? else if k=j then l[a]? else l[k]?:=fun k=>swp_get hjl (by omega) k
 refine⟨p,?_,fun k x k1 k2 hx=>?_,fun k x k1 k2 hx=>?_⟩
 ·rw [g]
  by_cases e:j=a
  ·rw [if_pos e,e];exact h0
  ·rw [if_neg e,if_pos rfl];exact h0
 ·rw [g]at hx
  by_cases e:k=a
  ·rw [if_pos e]at hx;exact h1 j x (by omega) (by omega) hx
  ·rw [if_neg e,if_neg (by omega)]at hx;exact h1 k x (by omega) (by omega) hx
 ·rw [g,if_neg (by omega),if_neg (by omega)]at hx
  exact h2 k x k1 k2 hx
theorem ayE{H:Heap}{rows:List (List FC)}{n a e v b ep:Nat}(hT:tab σ.part=some (GU σ sz))(hcv:Cv tab cv W c)(hn:rows.length=n)(hl:n≤1000000000)(hrb:RB H b sz ep rows)(hg:Grid sz rows)(hW:∀ r ∈ rows,W r)(hae:a<e)(hen:e≤n)(hav:a≤v)(hve:v<e) :
  ∃ r H',Ev tab (.fn σ.part) [.c (.sl b 0 n 0 ep sz),vi a,vi e,vi v,cv] H r H'∧((∃(m:Nat) (w:Bool),r=.t [vi m,vb w]∧a≤m∧m<e∧Fm b H H'∧∃ l',RB H' b sz ep l'∧Seg a e rows l'∧qg c a e m l')):=by
 refine iR hT rfl fun Q hQ=>?_
 obtain⟨d,rfl⟩:∃ d,e=d+1:=⟨e-1,by omega⟩
 obtain⟨x,p,H1,H2,hx,hp,i1,j1,l1,l2,w1,w2,s1,j2,s2,r2,f2⟩:=hrb.swp hg hn (i:=a) (j:=v) (by omega) (by omega)
 have sg1:Seg a (d+1) rows (swp rows a v):=iF (by omega) (by omega) (by omega) (by omega) (by omega)
 have pi1:DX c a (a+1) d (d+1) p (swp rows a v):=by
  refine⟨?_,fun k x k1 k2=>by omega,fun k x k1 k2=>by omega⟩
  rw [swp_get (by omega) (by omega)]
  by_cases e:a=v
  ·rw [if_pos e,e];exact hp
  ·rw [if_neg e,if_pos rfl];exact hp
 refine ak (aj (.inl rfl) ?_)
 simp
 refine ak (aj (.inl rfl) ?_)
 simp [i1,j1,l1,l2,w1,w2,s1,j2,s2,-aG,-bJ]
 refine ak (aj (.inl rfl) ?_)
 simp [wrap64 (n:=(a:Int)+1) (by omega) (by omega),wrap64 (n:=(d:Int)) (by omega) (by omega)]
 refine ak ?_
 have Ji:∀(w:Bool) (t:T) (H3:Heap) (l:List (List FC)) (i j:Nat),a≤j→j<d+1→i=j+1→DX c a i j (d+1) p l→Seg a (d+1) rows l→Fm b H H3→RB H3 b sz ep l →
   ∃(x y:List FC) (H4 H5:Heap),aV H3 sz none (.c (.sl b 0 n 0 ep sz)) (vi j)=some (.c (.ptr b (j*sz) ep))∧aV H3 sz none (.c (.sl b 0 n 0 ep sz)) (vi a)=some (.c (.ptr b (a*sz) ep)) ∧
    ldV H3 (some sz) (.c (.ptr b (j*sz) ep))=some (.a (x.map .f))∧ldV H3 (some sz) (.c (.ptr b (a*sz) ep))=some (.a (y.map .f))∧x.length=sz∧y.length=sz ∧
    stC H3 (.ptr b (j*sz) ep) (y.map .f)=some H4∧aV H4 sz none (.c (.sl b 0 n 0 ep sz)) (vi a)=some (.c (.ptr b (a*sz) ep))∧stC H4 (.ptr b (a*sz) ep) (x.map .f)=some H5 ∧
    (a≤j∧j<d+1∧Fm b H H5∧∃ l',RB H5 b sz ep l'∧Seg a (d+1) rows l'∧qg c a (d+1) j l'):=by
  intro w t H3 l i j h1 h2 h3 hpi hsg hfr hrb
  have hlen:=hsg.len
  obtain⟨x,y,H4,H5,-,-,i1,j1,l1,l2,w1,w2,s1,j2,s2,r2,f2⟩:=hrb.swp (hsg.grid hg) (hlen.trans hn) (i:=j) (j:=a) (by omega) (by omega)
  exact⟨x,y,H4,H5,i1,j1,l1,l2,w1,w2,s1,j2,s2,h1,h2,hfr.trans f2,_,r2,hsg.trans (iF (by omega) (by omega) (by omega) (by omega) (by omega)),hpi.done h1 h3 (by omega)⟩
 have grid:∀ {l},Seg a (d+1) rows l→Grid sz l:=fun h=>h.grid hg
 have wall:∀ {l},Seg a (d+1) rows l→∀ r ∈ l,W r:=fun h r hr=>hW r (h.1.mem_iff.1 hr)
 refine ajE hcv (sg1.len.trans hn) hl (grid sg1) (wall sg1) (i:=a+1) (j:=d) (e:=d+1) (H0:=H) (by omega) (by omega) (by omega) hen pi1.1 (by simp) (by simp) (by simp) (by simp) (by simp) f2 r2 ?_
 intro t H3 i' hi1 fV hstop g0 g1 g4 gi gj hfr hrb
 refine ak ?_
 refine ajG hcv (sg1.len.trans hn) hl (grid sg1) (wall sg1) (i:=i') (j:=d) (e:=d+1) (H0:=H) (by omega) (by omega) (by omega) hen pi1.1 g0 g1 g4 gi gj hfr hrb ?_
 intro t H4 j' hj1 Cb BZ g0 g1 g4 gi gj hfr hrb
 have pi2:DX c a i' j' (d+1) p (swp rows a v):=⟨pi1.1,fun k x k1 k2 hx=>fV k x (by omega) k2 hx,fun k x k1 k2 hx=>Cb k x k1 (by omega) hx⟩
 refine ak ?_
 refine ak (aj (.inl rfl) ?_)
 simp [gi,gj]
 by_cases hgt:j'<i'
 ·obtain⟨x,y,H5,H6,i1,j1,l1,l2,w1,w2,s1,j2,s2,hend⟩:=Ji true t H4 _ i' j' (by omega) (by omega) (by omega) pi2 sg1 hfr hrb
  refine aB (by simp [hgt]) (ak (aj (.inl rfl) ?_))
  simp [g0,g1,gj,i1,j1,l1,l2,w1,w2,s1,j2,s2,-aG,-bJ]
  refine ak (aj (.inl rfl) ?_)
  simp [gj]
  exact aO (hQ _ _ (.t [vi j',vb true]) rfl (by simp [Km.results,bC]) ⟨j',true,rfl,hend⟩)
 refine ay (by simp [hgt]) (aC ?_)
 have ni:∀ x,(swp rows a v)[i']?=some x→¬ c x p<0:=by
  rcases hstop with h | h
  ·omega
  ·exact h
 have nj:∀ x,(swp rows a v)[j']?=some x→c x p<0:=by
  rcases BZ with h | h
  ·omega
  ·exact fun x hx=>Classical.not_not.1 (h x hx)
 have hne:i'≠j':=by
  rintro rfl
  have hx:=ae (l:=swp rows a v) (i:=i') (by rw [Gj];omega)
  exact ni _ hx (nj _ hx)
 obtain⟨x5,y5,H5,H6,-,-,i1,j1,l1,l2,w1,w2,s1,j2,s2,r5,f5⟩:=hrb.swp (grid sg1) (sg1.len.trans hn) (i:=i') (j:=j') (by omega) (by omega)
 refine ak (aj (.inl rfl) ?_)
 simp [g0,gi,gj,i1,j1,l1,l2,w1,w2,s1,j2,s2,-aG,-bJ]
 refine ak (aj (.inl rfl) ?_)
 simp [gi,wrap64 (n:=(i':Int)+1) (by omega) (by omega)]
 refine ak (aj (.inl rfl) ?_)
 simp [gj,wrap64 (n:=(j':Int)-1) (by omega) (by omega)]
 refine ak ?_
 refine aN ?_
 refine bI (fun m s=>∃(i j:Nat) (t:T) (H1:Heap) (l:List (List FC)),s=⟨t,[],H1⟩∧m=j+1-i∧a<i∧i≤j+1∧j<d+1∧t.g 0=.c (.sl b 0 n 0 ep sz)∧t.g 1=vi a∧t.g 4=cv∧t.g 12=vi i∧t.g 13=vi j ∧
   Fm b H H1∧RB H1 b sz ep l∧Seg a (d+1) rows l∧DX c a i j (d+1) p l) _
  ⟨i'+1,j'-1,_,H6,_,rfl,rfl,by omega,by omega,by omega,by simp [g0],by simp [g1],by simp [g4],by simp,by simp;omega,hfr.trans f5,r5,
   sg1.trans (iF (by omega) (by omega) (by omega) (by omega) (by rw [Gj];omega)),pi2.swap (by omega) (by omega) (by rw [Gj];omega) ni nj⟩ ?_
 rintro m s ⟨i,j,t,H1,l,rfl,rfl,hai,hij,hjd,g0,g1,g4,gi,gj,hfr,hrb,hsg,hpi⟩ ih
 have hlen:=hsg.len
 refine aN ?_
 refine ak ?_
 refine ajD hcv (hlen.trans hn) hl (grid hsg) (wall hsg) (i:=i) (j:=j) (e:=d+1) (H0:=H) hai hij hjd hen hpi.1 g0 g1 g4 gi gj hfr hrb ?_
 intro t H3 i' hi1 fV hstop g0 g1 g4 gi gj hfr hrb
 refine ak ?_
 refine ajF hcv (hlen.trans hn) hl (grid hsg) (wall hsg) (i:=i') (j:=j) (e:=d+1) (H0:=H) (by omega) (by omega) (by omega) hen hpi.1 g0 g1 g4 gi gj hfr hrb ?_
 intro t H4 j' hj1 Cb BZ g0 g1 g4 gi gj hfr hrb
 have pi2:DX c a i' j' (d+1) p l:=⟨hpi.1,fun k x k1 k2 hx=>by
   by_cases hk:k<i
   ·exact hpi.2.1 k x k1 hk hx
   ·exact fV k x (by omega) k2 hx,fun k x k1 k2 hx=>by
   by_cases hk:j<k
   ·exact hpi.2.2 k x hk k2 hx
   ·exact Cb k x k1 (by omega) hx⟩
 refine ak ?_
 refine ak (aj (.inl rfl) ?_)
 simp [gi,gj]
 by_cases hgt:j'<i'
 ·obtain⟨x,y,H5,H6,i1,j1,l1,l2,w1,w2,s1,j2,s2,hend⟩:=Ji false t H4 _ i' j' (by omega) (by omega) (by omega) pi2 hsg hfr hrb
  refine aB (by simp [hgt]) ?_
  refine bf (k':=[.code (Sv σ sz)]) rfl ?_
  refine ak (aj (.inl rfl) ?_)
  simp [g0,g1,gj,i1,j1,l1,l2,w1,w2,s1,j2,s2,-aG,-bJ]
  refine ak (aj (.inl rfl) ?_)
  simp [gj]
  exact aO (hQ _ _ (.t [vi j',vb false]) rfl (by simp [Km.results,bC]) ⟨j',false,rfl,hend⟩)
 refine ay (by simp [hgt]) (aC ?_)
 have ni:∀ x,l[i']?=some x→¬ c x p<0:=by
  rcases hstop with h | h
  ·omega
  ·exact h
 have nj:∀ x,l[j']?=some x→c x p<0:=by
  rcases BZ with h | h
  ·omega
  ·exact fun x hx=>Classical.not_not.1 (h x hx)
 have hne:i'≠j':=by
  rintro rfl
  have hx:=ae (l:=l) (i:=i') (by omega)
  exact ni _ hx (nj _ hx)
 obtain⟨x5,y5,H5,H6,-,-,i1,j1,l1,l2,w1,w2,s1,j2,s2,r5,f5⟩:=hrb.swp (grid hsg) (hlen.trans hn) (i:=i') (j:=j') (by omega) (by omega)
 refine ak (aj (.inl rfl) ?_)
 simp [g0,gi,gj,i1,j1,l1,l2,w1,w2,s1,j2,s2,-aG,-bJ]
 refine ak (aj (.inl rfl) ?_)
 simp [gi,wrap64 (n:=(i':Int)+1) (by omega) (by omega)]
 refine aj (.inl rfl) ?_
 simp [gj,wrap64 (n:=(j':Int)-1) (by omega) (by omega)]
 exact aJ (ih _ _ (by omega) ⟨i'+1,j'-1,_,H6,_,rfl,rfl,by omega,by omega,by omega,by simp [g0],by simp [g1],by simp [g4],by simp,by simp;omega,hfr.trans f5,r5,
   hsg.trans (iF (by omega) (by omega) (by omega) (by omega) (by omega)),pi2.swap (by omega) (by omega) (by omega) ni nj⟩)
end
end Km
end
section
namespace Km
open Go
section
variable{tab:Nat→Option AFunc}{σ:Srt}{sz:Nat}{cv:V}{W:List FC→Prop}{c:List FC→List FC→Int}
def VT(c:List FC→List FC→Int)(a i j e:Nat)(p:List FC)(l:List (List FC)):Prop:=
 l[a]?=some p∧(∀(k:Nat) x,a<k→k<i→l[k]?=some x→¬ c p x<0)∧(∀(k:Nat) x,j<k→k<e→l[k]?=some x→c p x<0)
theorem VT.swap{a i j e:Nat}{p:List FC}{l:List (List FC)}(h:VT c a i j e p l)(hai:a<i)(hij:i<j)(hjl:j<l.length)(hi:∀ x,l[i]?=some x→c p x<0)(hj:∀ x,l[j]?=some x→¬ c p x<0):VT c a (i+1) (j-1) e p (swp l i j):=by
 obtain⟨h0,h1,h2⟩:=h
 have g:∀ k,(swp l i j)[k]?=if k=j then l[i]? else if k=i then l[j]? else l[k]?:=fun k=>swp_get (by omega) hjl k
 refine⟨?_,fun k x k1 k2 hx=>?_,fun k x k1 k2 hx=>?_⟩
 ·rw [g,if_neg (by omega),if_neg (by omega)];exact h0
 ·rw [g,if_neg (by omega)]at hx
  by_cases e:k=i
  ·rw [if_pos e]at hx;exact hj x hx
  ·rw [if_neg e]at hx;exact h1 k x k1 (by omega) hx
 ·rw [g]at hx
  by_cases e:k=j
  ·rw [if_pos e]at hx;exact hi x hx
  ·rw [if_neg e,if_neg (by omega)]at hx;exact h2 k x (by omega) k2 hx
theorem aGM{H:Heap}{rows:List (List FC)}{n a e v b ep:Nat}{p:List FC}(hT:tab σ.peq=some (Sl σ sz))(hcv:Cv tab cv W c)(hcm:Cmp W c)(hn:rows.length=n)(hl:n≤1000000000)(hrb:RB H b sz ep rows)(hg:Grid sz rows)(hW:∀ r ∈ rows,W r)(hae:a<e)(hen:e≤n)(hav:a≤v)(hve:v<e)(hpv:rows[v]?=some p) :
  ∃ r H',Ev tab (.fn σ.peq) [.c (.sl b 0 n 0 ep sz),vi a,vi e,vi v,cv] H r H'∧((∃(m:Nat),r=vi m∧a<m∧m≤e∧Fm b H H'∧∃ l',RB H' b sz ep l'∧Seg a e rows l'∧(∀(k:Nat) x,a≤k→k<m→l'[k]?=some x→¬ c p x<0)∧(∀(k:Nat) x,m≤k→k<e→l'[k]?=some x→c p x<0))):=by
 refine iR hT rfl fun Q hQ=>?_
 obtain⟨d,rfl⟩:∃ d,e=d+1:=⟨e-1,by omega⟩
 obtain⟨x,p',H1,H2,hx,hp',i1,j1,l1,l2,w1,w2,s1,j2,s2,r2,f2⟩:=hrb.swp hg hn (i:=a) (j:=v) (by omega) (by omega)
 obtain rfl:p=p':=by rw [hpv]at hp';exact dk hp'
 have hself:¬ c p p<0:=fun h=>hcm.asym (hW _ (aD hpv)) (hW _ (aD hpv)) h h
 have sg1:Seg a (d+1) rows (swp rows a v):=iF (by omega) (by omega) (by omega) (by omega) (by omega)
 have pi1:VT c a (a+1) d (d+1) p (swp rows a v):=by
  refine⟨?_,fun k x k1 k2=>by omega,fun k x k1 k2=>by omega⟩
  rw [swp_get (by omega) (by omega)]
  by_cases e:a=v
  ·rw [if_pos e,e];exact hpv
  ·rw [if_neg e,if_pos rfl];exact hpv
 refine ak (aj (.inl rfl) ?_)
 simp
 refine ak (aj (.inl rfl) ?_)
 simp [i1,j1,l1,l2,w1,w2,s1,j2,s2,-aG,-bJ]
 refine ak (aj (.inl rfl) ?_)
 simp [wrap64 (n:=(a:Int)+1) (by omega) (by omega),wrap64 (n:=(d:Int)) (by omega) (by omega)]
 refine ak ?_
 have grid:∀ {l},Seg a (d+1) rows l→Grid sz l:=fun h=>h.grid hg
 have wall:∀ {l},Seg a (d+1) rows l→∀ r ∈ l,W r:=fun h r hr=>hW r (h.1.mem_iff.1 hr)
 refine aN ?_
 refine bI (fun m s=>∃(i j:Nat) (t:T) (H1:Heap) (l:List (List FC)),s=⟨t,[],H1⟩∧m=j+1-i∧a<i∧i≤j+1∧j<d+1∧t.g 0=.c (.sl b 0 n 0 ep sz)∧t.g 1=vi a∧t.g 4=cv∧t.g 11=vi i∧t.g 12=vi j ∧
   Fm b H H1∧RB H1 b sz ep l∧Seg a (d+1) rows l∧VT c a i j (d+1) p l) _
  ⟨a+1,d,_,H2,_,rfl,rfl,by omega,by omega,by omega,by simp,by simp,by simp,by simp,by simp,f2,r2,sg1,pi1⟩ ?_
 rintro m s ⟨i,j,t,H1,l,rfl,rfl,hai,hij,hjd,g0,g1,g4,gi,gj,hfr,hrb,hsg,hpi⟩ ih
 have hlen:=hsg.len
 refine aN ?_
 refine ak ?_
 refine aGL hcv (hlen.trans hn) hl (grid hsg) (wall hsg) (i:=i) (j:=j) (e:=d+1) (H0:=H) hai hij hjd hen hpi.1 g0 g1 g4 gi gj hfr hrb ?_
 intro t H3 i' hi1 fV hstop g0 g1 g4 gi gj hfr hrb
 refine ak ?_
 refine aGN hcv (hlen.trans hn) hl (grid hsg) (wall hsg) (i:=i') (j:=j) (e:=d+1) (H0:=H) (by omega) (by omega) (by omega) hen hpi.1 g0 g1 g4 gi gj hfr hrb ?_
 intro t H4 j' hj1 Cb BZ g0 g1 g4 gi gj hfr hrb
 have pi2:VT c a i' j' (d+1) p l:=⟨hpi.1,fun k x k1 k2 hx=>by
   by_cases hk:k<i
   ·exact hpi.2.1 k x k1 hk hx
   ·exact fV k x (by omega) k2 hx,fun k x k1 k2 hx=>by
   by_cases hk:j<k
   ·exact hpi.2.2 k x hk k2 hx
   ·exact Cb k x k1 (by omega) hx⟩
 refine ak ?_
 refine ak (aj (.inl rfl) ?_)
 simp [gi,gj]
 by_cases hgt:j'<i'
 ·refine aB (by simp [hgt]) ?_
  refine bf (k':=[.code (ajw σ sz)]) rfl ?_
  refine ak (aj (.inl rfl) ?_)
  simp [gi]
  refine aO (hQ _ _ (vi i') rfl (by simp [Km.results,bC]) ⟨i',rfl,by omega,by omega,hfr,l,hrb,hsg,fun q z k1 k2 hz=>?_,fun q z k1 k2 hz=>pi2.2.2 q z (by omega) k2 hz⟩)
  by_cases e:q=a
  ·rw [e,pi2.1]at hz;cases hz;exact hself
  ·exact pi2.2.1 q z (by omega) k2 hz
 refine ay (by simp [hgt]) (aC ?_)
 have ni:∀ x,l[i']?=some x→c p x<0:=by
  rcases hstop with h | h
  ·omega
  ·exact fun x hx=>Classical.not_not.1 (h x hx)
 have nj:∀ x,l[j']?=some x→¬ c p x<0:=by
  rcases BZ with h | h
  ·omega
  ·exact h
 have hne:i'≠j':=by
  rintro rfl
  have hx:=ae (l:=l) (i:=i') (by omega)
  exact nj _ hx (ni _ hx)
 obtain⟨x5,y5,H5,H6,-,-,i1,j1,l1,l2,w1,w2,s1,j2,s2,r5,f5⟩:=hrb.swp (grid hsg) (hlen.trans hn) (i:=i') (j:=j') (by omega) (by omega)
 refine ak (aj (.inl rfl) ?_)
 simp [g0,gi,gj,i1,j1,l1,l2,w1,w2,s1,j2,s2,-aG,-bJ]
 refine ak (aj (.inl rfl) ?_)
 simp [gi,wrap64 (n:=(i':Int)+1) (by omega) (by omega)]
 refine aj (.inl rfl) ?_
 simp [gj,wrap64 (n:=(j':Int)-1) (by omega) (by omega)]
 exact aJ (ih _ _ (by omega) ⟨i'+1,j'-1,_,H6,_,rfl,rfl,by omega,by omega,by omega,by simp [g0],by simp [g1],by simp [g4],by simp,by simp;omega,hfr.trans f5,r5,
   hsg.trans (iF (by omega) (by omega) (by omega) (by omega) (by omega)),pi2.swap (by omega) (by omega) (by omega) ni nj⟩)
end
end Km
end
