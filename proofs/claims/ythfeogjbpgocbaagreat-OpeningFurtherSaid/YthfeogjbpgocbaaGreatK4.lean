/-
  Our own small machine for Go code by value, held against the model: part 4. No program in sight.
-/
import Derived.Test.YthfeogjbpgocbaaGreatK3
import Derived.ChangeArms
import Derived.DataReads
import Derived.Deep.Slices
import Derived.ProofKit
import Derived.RowKit3
import Derived.Below
import Derived.Carry
import Derived.Laws.IdiomArrays
open Option renaming map_eq_some_iff → an, bind_eq_some_iff → bE
open List renaming findIdx?_eq_some_iff_getElem → d9, getElem_mem → av, getElem?_eq_getElem → ae, getElem?_eq_some_iff → al, cons_append → cT, length_cons → cN, mem_cons_self → aE, flatten_cons → b8, set_cons_succ → d7, mem_cons_of_mem → a8, getElem?_append_left → ai, getElem?_append_right → bB, take_append_drop → cY, append_nil → c7, take_of_length_le → bA, length_drop → cJ, mem_map → b7, getElem?_map → cP, mem_of_getElem? → aD, getElem?_of_mem → cE, mem_cons → co, mem_append_left → cU, getElem?_set_ne → ag, append_assoc → c6, take_append_of_le_length → cw, length_map → a9, getElem?_set_self → ax, getElem?_take → bR, getElem?_drop → bh, length_eq_zero_iff → cn, nil_append → cV
open Nat renaming add_mul → bS, mul_le_mul_right → cF, le_refl → aw, le_max_left → bL, le_max_right → bp, le_trans → bz, lt_of_lt_of_le → cG, zero_add → cH
open Bool renaming and_eq_true → am
open Option.some renaming injEq → ab, inj → dm
set_option linter.unusedVariables false
set_option linter.unusedSimpArgs false
set_option linter.unusedSectionVars false
section
namespace Km
open Go
def Kf(tab:Nat→Option AFunc)(f:Nat)(args:List V)(r:V):Prop:=∀ H,∃ J,Ev tab (.fn f) args H r (H++J)
section
variable{tab:Nat→Option AFunc}{f:Nat}{args:List V}{r:V}
theorem Kf.pure{x:FC}(h:Kf tab f args (.c (.f x))):Pure tab f args (.c (.f x)):=by
 obtain⟨J,h⟩:=h []
 exact⟨_,_,h,by simp⟩
theorem Kf.eq{x:FC}(h:Kf tab f args (.c (.f x))):Pure tab f args=Eq (.c (.f x)):=
 funext fun r=>propext ⟨fun k=>h.pure.det k,fun e=>e▸h.pure⟩
theorem Pure.eq{r:V}(h:Pure tab f args r):Pure tab f args=Eq r:=funext fun _=>propext ⟨fun k=>h.det k,fun e=>e▸h⟩
noncomputable def junk (tab:Nat→Option AFunc) (f:Nat) (args:List V) (H:Heap):Heap:=Classical.epsilon fun J=>∃ r,Ev tab (.fn f) args H r (H++J)
theorem Kf.ev(h:Kf tab f args r)(H:Heap):Ev tab (.fn f) args H=E2 r (H++junk tab f args H):=by
 have hj:∃ J,∃ r,Ev tab (.fn f) args H r (H++J):=by obtain⟨J,hJ⟩:=h H;exact⟨J,r,hJ⟩
 have hs:∃ r,Ev tab (.fn f) args H r (H++junk tab f args H):=Classical.epsilon_spec hj
 obtain⟨J,hJ⟩:=h H
 obtain⟨r',hr⟩:=hs
 obtain⟨rfl,e⟩:=hJ.det hr
 funext x H'
 exact propext ⟨fun k=>hr.det k,fun⟨e1,e2⟩=>e1▸e2▸hr⟩
theorem Ev.eq{c:Callee}{H H':Heap}(h:Ev tab c args H r H'):Ev tab c args H=E2 r H':=funext fun _=>funext fun _=>propext ⟨fun k=>h.det k,fun⟨e1,e2⟩=>e1▸e2▸h⟩
def aAZ(res:List mF)(r:V)(H:Heap)(s:St):Prop:=s.defs=[]∧results s.regs s.heap res=some r∧∃ J,s.heap=H++J
theorem jA{ps:List P}{res:List mF}{body:ah}(ht:tab f=some ⟨ps,res,body⟩)(hl:args.length=ps.length)
  (h:∀(H:Heap) (Q:Option ah→St→Prop),(∀ j s,aAZ res r H s→Q j s)→WP tab f none [.code body] ⟨dJ ps args .e,[],H⟩ Q):Kf tab f args r:=by
 intro H
 have h':=h H (fun _ s=>aAZ res r H s) fun _ _ h=>h
 obtain⟨n,m,d,j,s,h1,hd,h2,J,h3⟩:=h'
 exact⟨J,EK ht hl ⟨n,m,d,j,s,h1,0,0,s.heap,by rw [hd];rfl,by rw [h2],h3⟩⟩
@[simp] theorem aOC {t:T} {H H':Heap} {x:mF}:aAZ [x] r H ⟨t,[],H'⟩↔dG t H' x=some r∧∃ J,H'=H++J:=by
 simp only [aAZ,results,true_and,bC]
 cases dG t H' x<;>simp
theorem iw{m d:Nat}{x:FC}(h:(CF tab m d (.fn f) args []).map (·.1)=some (.c (.f x))):Pure tab f args (.c (.f x)):=by
 rw [an]at h
 obtain⟨⟨r,H'⟩,h1,h2⟩:=h
 exact⟨r,H',⟨m,d,h1⟩,by rw [show r=.c (.f x) from h2];simp⟩
theorem lS{m d:Nat}{x:V}(h:((CF tab m d (.fn f) args []).bind fun p=>exV deep p.2 p.1)=some x):Pure tab f args x:=by
 rw [bE]at h
 obtain⟨⟨r,H'⟩,h1,h2⟩:=h
 exact⟨r,H',⟨m,d,h1⟩,h2⟩
theorem Dz{b:Bool}(h:∃ m d H',gZ tab mZ m d (.fn f) [] []=some (.c (.f (.bool b)),H')):Pure tab f [] (vb b):=by
 obtain⟨m,d,H',h⟩:=h
 exact⟨_,H',⟨m,d,h⟩,by simp⟩
theorem iM{S:V→Prop}{ps:List P}{res:List mF}{body:ah}(ht:tab f=some ⟨ps,res,body⟩)(hl:args.length=ps.length)
  (h:∀ Q:Option ah→St→Prop,(∀ j s r,S r→xP res r s→Q j s)→WP tab f none [.code body] ⟨dJ ps args .e,[],[]⟩ Q):∃ r,S r∧Pure tab f args r:=by
 have h':=h (fun _ s=>∃ r,S r∧xP res r s) fun _ _ r h1 h2=>⟨r,h1,h2⟩
 obtain⟨n,m,d,j,s,h1,r,hr,hd,r0,h2,h3⟩:=h'
 exact⟨r,hr,r0,s.heap,EK ht hl ⟨n,m,d,j,s,h1,0,0,s.heap,by rw [hd];rfl,h2,rfl⟩,h3⟩
variable{fn i:Nat}{ro:Option Nat}{k:List dI}{ds:List fF}{Q:Option ah→St→Prop}
def azX(a x:Nat):ah:=.region [⟨D x,.bin .add (R a) (.k (.c (.f (.int .i64 1)))),none⟩,⟨D a,.mov (R x),none⟩] []
def Gw(i a b c x:Nat)(body:ah):ah:=.seq (.region [⟨D c,.bin .lss (R a) (R b),none⟩] []) (.seq (.cond (R c) .skip (.exit i)) (.seq body (azX a x)))
def Tj(i a b c x:Nat)(body:ah):ah:=.block i (.loop (Gw i a b c x body))
theorem jo{a b c x:Nat}{body:ah}{t:T}{H:Heap}(N:Nat)(I:Nat→T→Heap→Prop)(hN:N≤9223372036854775807)(hab:a≠b)(hxb:x≠b)
  (ha:t.g a=vi 0) (hb:t.g b=vi N) (h0:I 0 t H)
  (step:∀ j t H,j<N→I j t H→t.g a=vi j→t.g b=vi N →
   (∀ t' H',I (j+1) ((t'.s x (vi (j+1:Nat))).s a (vi (j+1:Nat))) H'→t'.g a=vi j→t'.g b=vi N →
    WP tab fn ro (.code (azX a x)::.inLoop (Gw i a b c x body)::.inBlock i::k) ⟨t',ds,H'⟩ Q) →
   WP tab fn ro (.code body::.code (azX a x)::.inLoop (Gw i a b c x body)::.inBlock i::k) ⟨t.s c (vb true),ds,H⟩ Q)
  (done:∀ t H,I N t H→t.g a=vi N→t.g b=vi N→WP tab fn ro k ⟨t.s c (vb false),ds,H⟩ Q) :
  WP tab fn ro (.code (Tj i a b c x body)::k) ⟨t,ds,H⟩ Q:=by
 have hro:∀ ops:List aV,ops.all (·.op.gG)=true→ro=none∨ops.all (·.op.gG)=true:=fun _ h=>.inr h
 refine aN ?_
 refine bK (fun n s=>∃ j t H,s=⟨t,ds,H⟩∧j≤N∧n=N-j∧I j t H∧t.g a=vi j∧t.g b=vi N) N ⟨0,t,H,rfl,by omega,by omega,h0,ha,hb⟩ ?_
 rintro n s ⟨j,t,H,rfl,hj,rfl,hI,ha,hb⟩ ih
 refine ak ?_
 refine aj (hro _ rfl) ?_
 simp [ha,hb]
 by_cases hlt:j<N
 ·rw [decide_eq_true hlt]
  refine ak ?_
  refine aB (by simp) ?_
  refine aG ?_
  refine ak ?_
  refine step j t H hlt hI ha hb fun t' H' hI' ha' hb'=>?_
  refine aj (hro _ rfl) ?_
  simp [ha']
  rw [wrap64 (by omega) (by omega)]
  refine ih (N-(j+1)) _ (by omega) ⟨j+1,_,H',rfl,by omega,rfl,by simpa using hI',by simp,?_⟩
  simp [hab,hxb,hb']
 ·have:j=N:=by omega
  subst this
  rw [decide_eq_false hlt]
  refine ak ?_
  refine ay (by simp) ?_
  refine bf (k':=k) (by simp [exitTo]) ?_
  exact done t H hI ha hb
def ED(a x y:Nat):ah:=.region [⟨D x,.mov (R a),none⟩,⟨D y,.bin .add (R x) (.k (.c (.f (.int .i64 1)))),none⟩,⟨D a,.mov (R y),none⟩] []
def Gv(i a c x y:Nat)(hd:List aV)(body:ah):ah:=.seq (.seq (.region hd []) (.cond (R c) .skip (.exit i))) (.seq body (ED a x y))
def akV(i a c x y:Nat)(hd:List aV)(body:ah):ah:=.block i (.loop (Gv i a c x y hd body))
theorem kS{a c x y:Nat}{hd:List aV}{body:ah}{t:T}{H:Heap}(N:Nat)(I:Nat→T→Heap→Prop)(hN:N≤9223372036854775807)(hxy:hd.all (·.op.gG)=true)
  (ha:t.g a=vi 0) (h0:I 0 t H)
  (head:∀ j t H (L:St→Prop),j≤N→I j t H→t.g a=vi j→(∀ t',I j t' H→t'.g a=vi j→t'.g c=vb (decide ((j:Int)<(N:Int)))→L ⟨t',ds,H⟩)→OPS tab hd ⟨t,ds,H⟩ L)
  (step:∀ j t H,j<N→I j t H→t.g a=vi j →
   (∀ t' H',I (j+1) (((t'.s x (vi j)).s y (vi (j+1:Nat))).s a (vi (j+1:Nat))) H'→t'.g a=vi j →
    WP tab fn ro (.code (ED a x y)::.inLoop (Gv i a c x y hd body)::.inBlock i::k) ⟨t',ds,H'⟩ Q) →
   WP tab fn ro (.code body::.code (ED a x y)::.inLoop (Gv i a c x y hd body)::.inBlock i::k) ⟨t,ds,H⟩ Q)
  (done:∀ t H,I N t H→t.g a=vi N→WP tab fn ro k ⟨t,ds,H⟩ Q) :
  WP tab fn ro (.code (akV i a c x y hd body)::k) ⟨t,ds,H⟩ Q:=by
 have hro:∀ ops:List aV,ops.all (·.op.gG)=true→ro=none∨ops.all (·.op.gG)=true:=fun _ h=>.inr h
 refine aN ?_
 refine bK (fun n s=>∃ j t H,s=⟨t,ds,H⟩∧j≤N∧n=N-j∧I j t H∧t.g a=vi j) N ⟨0,t,H,rfl,by omega,by omega,h0,ha⟩ ?_
 rintro n s ⟨j,t,H,rfl,hj,rfl,hI,ha⟩ ih
 refine ak ?_
 refine ak ?_
 refine aj (hro _ hxy) ?_
 refine head j t H _ hj hI ha fun t' hI ha hc=>?_
 by_cases hlt:j<N
 ·rw [decide_eq_true (by omega)]at hc
  refine aB hc ?_
  refine aG ?_
  refine ak ?_
  refine step j t' H hlt hI ha fun t' H' hI' ha'=>?_
  refine aj (hro _ rfl) ?_
  simp [ha']
  rw [wrap64 (by omega) (by omega)]
  exact ih (N-(j+1)) _ (by omega) ⟨j+1,_,H',rfl,by omega,rfl,by simpa using hI',by simp⟩
 ·have:j=N:=by omega
  subst this
  rw [decide_eq_false (by omega)]at hc
  refine ay hc ?_
  refine bf (k':=k) (by simp [exitTo]) ?_
  exact done t' H hI ha
end
end Km
end
section
namespace Km
open Go
def qg{α:Type}(l:List α)(p:α→Bool):Int:=match l.findIdx? p with | some j=>j | none=>-1
theorem Vo{α:Type}(l:List α)(p:α→Bool):decide (0≤qg l p)=l.any p:=by
 unfold qg
 cases h:l.findIdx? p with
 | none=>
  rw [List.findIdx?_eq_none_iff]at h
  have:l.any p=false:=by rw [List.any_eq_false];intro x hx;simp [h x hx]
  simp [this]
 | some j=>
  rw [d9]at h
  obtain⟨hj,hp,_⟩:=h
  have:l.any p=true:=by rw [List.any_eq_true];exact⟨l[j],av hj,hp⟩
  simp [this]
theorem Vp{α:Type}{l:List α}{p:α→Bool}{j:Nat}(hj:j<l.length)(hp:p l[j]=true)(hn:∀(i:Nat) (hi:i<j),p (l[i]'(by omega))=false):qg l p=j:=by
 have:l.findIdx? p=some j:=by
  rw [d9]
  exact⟨hj,hp,fun i hi=>by simp [hn i hi]⟩
 simp [qg,this]
theorem Vm{α:Type}{l:List α}{p:α→Bool}(hn:∀(i:Nat) (hi:i<l.length),p l[i]=false):qg l p = -1:=by
 have:l.findIdx? p=none:=by
  rw [List.findIdx?_eq_none_iff]
  intro x hx
  obtain⟨i,hi,rfl⟩:=List.getElem_of_mem hx
  exact hn i hi
 simp [qg,this]
def ints(l:List Int):List (List FC):=l.map fun n=>[fi n]
@[simp] theorem aNU (l:List Int):(ints l).length=l.length:=by simp [ints]
theorem Hg{j:Nat}{l:List Int}(hj:j<l.length){H:Heap}:ldV H none (.c (.f (.fp (ints l).flatten j)))=some (vi l[j]):=by
 have:=SQ (H:=H) (ae hj)
 simpa [ints]using this
variable{tab:Nat→Option AFunc}
def azY(t:List aV):ah:=.block 1 (.seq (.region [⟨D 10,.mov (R 8),none⟩,⟨D 5,.mov (R 10),none⟩] []) (.seq
 (.region t []) (.cond (R 16) (.seq (.region [⟨D 17,.mov (R 5),none⟩,⟨D 4,.mov (R 17),none⟩] []) .ret) .skip)))
def aN5(t:List aV):AFunc:=⟨[P.nat 0,P.nat 1],[.tmp (P.nat 4)],.seq (.region [⟨D 4,.mov (.k (.c (.f (.int .i64 0)))),none⟩] [])
 (.seq (.seq (.region [⟨D 6,.mov (R 0),none⟩,⟨D 7,.len (R 6),none⟩,⟨D 8,.mov (.k (.c (.f (.int .i64 0)))),none⟩] []) (Tj 0 8 7 9 18 (azY t)))
 (.seq (.region [⟨D 4,.mov (.k (.c (.f (.int .i64 (-1))))),none⟩] []) .ret))⟩
def aEj(sz:Nat)(ld:Option Nat):List aV:=[⟨D 11,.mov (R 1),none⟩,⟨D 12,.mov (R 0),none⟩,⟨D 13,.mov (R 5),none⟩,⟨D 14,.aC sz none (R 12) (R 13),none⟩,⟨D 15,.load ld (R 14),none⟩,⟨D 16,.bQ (R 11) [(R 15)] true,none⟩]
theorem aIE{f:Nat}{test:List aV}(ht:tab f=some (aN5 test)){x y:V}{α:Type}{l:List α}{p:α→Bool}(hl:l.length≤9223372036854775807)
  (hx:∃ c,x=.c c∧∀ H,bM H c=some l.length)
  (aN9:∀(j:Nat) (hj:j<l.length) (t:T) (H:Heap) (L:St→Prop),t.g 0=x→t.g 1=y→t.g 5=vi j →
   (∀ t' J,t'.g 0=x→t'.g 1=y→t'.g 5=vi j→t'.g 7=t.g 7→t'.g 8=t.g 8→t'.g 16=vb (p l[j])→L ⟨t',[],H++J⟩)→OPS tab test ⟨t,[],H⟩ L) :
  Kf tab f [x,y] (vi (qg l p)):=by
 obtain⟨c,rfl,hc⟩:=hx
 refine jA ht rfl fun H Q hQ=>?_
 refine ak ?_
 refine aj (.inl rfl) ?_
 simp
 refine ak ?_
 refine ak ?_
 refine aj (.inl rfl) ?_
 simp [hc]
 refine jo l.length (fun j t H'=>t.g 0=.c c∧t.g 1=y∧(∃ J,H'=H++J)∧∀(i:Nat) (hi:i<l.length),i<j→p l[i]=false) hl (by decide) (by decide) (by simp) (by simp) (by simp) ?_ ?_
 ·rintro j t _ hj ⟨h0,h1,⟨J,rfl⟩,h2⟩ ha hb next
  refine aN ?_
  refine ak ?_
  refine aj (.inl rfl) ?_
  simp [ha]
  refine ak ?_
  refine aj (.inl rfl) ?_
  refine aN9 j hj _ _ _ (by simp [h0]) (by simp [h1]) (by simp) fun t' J' g0 g1 g5 g7 g8 g16=>?_
  cases hv:p l[j]with
  | true=>
   refine aB (by simp [g16,hv]) ?_
   refine ak ?_
   refine aj (.inl rfl) ?_
   simp [g5]
   refine aP (hQ _ _ ?_)
   have:=Vp hj hv (fun i hi=>h2 i (by omega) hi)
   simp [this]
  | false=>
   refine ay (by simp [g16,hv]) ?_
   refine aG (aK (next _ _ ?_ (by simp [g8,ha]) (by simp [g7,hb])))
   refine⟨by simp [g0],by simp [g1],⟨J++J',by simp⟩,fun i hi hij=>?_⟩
   by_cases e:i=j
   ·subst e;exact hv
   ·exact h2 i hi (by omega)
 ·rintro t _ ⟨h0,h1,⟨J,rfl⟩,h2⟩ ha hb
  refine ak ?_
  refine aj (.inl rfl) ?_
  simp
  refine aP (hQ _ _ ?_)
  have:=Vm (l:=l) (p:=p) (fun i hi=>h2 i hi hi)
  simp [this]
theorem uf{f sz:Nat}{ld:Option Nat}(ht:tab f=some (aN5 (aEj sz ld))){α:Type}(l:List α)(enc:α→List FC)(val:α→V)(p:α→Bool)(g:Tg)(k:Nat)(caps:List FC)
  (hl:l.length≤9223372036854775807) (hload:∀(j:Nat) (hj:j<l.length) (H:Heap),ldV H ld (.c (.f (.fp (l.map enc).flatten (j*sz))))=some (val l[j]))
  (hp:∀ x ∈ l,Kf tab k (val x::caps.map fun c=>.c (.f c)) (vb (p x))) :
  Kf tab f [.c (.f (sl g (l.map enc))),.c (.f (.fn k caps))] (vi (qg l p)):=by
 refine aIE ht hl ⟨_,rfl,fun H=>by simp⟩ ?_
 intro j hj t H L h0 h1 h5 hL
 have he:=(hp l[j] (av hj)).ev H
 have hi:=gX (H:=H) (g:=g) (rows:=l.map enc) (sz:=sz) (k:=.i64) (i:=(j:Int)) (by omega) (by simpa using hj)
 simp [aEj,h0,h1,h5,hi,hload j hj,he]
 exact hL _ _ (by simp [h0]) (by simp [h1]) (by simp [h5]) (by simp) (by simp) (by simp)
def VA(f:Nat):AFunc:=⟨[P.nat 0,P.nat 1],[.tmp (P.nat 4)],.seq (.region [⟨D 4,.mov (.k (.c (.f (.bool false)))),none⟩] []) (.seq
 (.region [⟨D 5,.mov (R 0),none⟩,⟨D 6,.mov (R 1),none⟩,⟨D 7,.call f [(R 5),(R 6)] false,none⟩,⟨D 8,.bin .geq (R 7) (.k (.c (.f (.int .i64 0)))),none⟩,⟨D 4,.mov (R 8),none⟩] []) .ret)⟩
theorem nT{f k:Nat}(ht:tab f=some (VA k)){a b:FC}{α:Type}{l:List α}{p:α→Bool}(h:Kf tab k [.c (.f a),.c (.f b)] (vi (qg l p))) :
  Kf tab f [.c (.f a),.c (.f b)] (vb (l.any p)):=by
 refine jA ht rfl fun H Q hQ=>?_
 refine ak ?_
 refine aj (.inl rfl) ?_
 simp
 refine ak ?_
 refine aj (.inl rfl) ?_
 have he:=h.eq
 simp [he]
 refine aP (hQ _ _ ?_)
 simp [Vo]
end Km
end
section
namespace Km
open Go
theorem aF{H:Heap}{b:Nat}{x:Blk}(h:H[b]?=some x):b<H.length:=(al.1 h).1
theorem nP{α β:Type}{g:α→Option β}:∀ {xs xs':List α} {ys ys':List β},bC g xs=some ys→bC g xs'=some ys'→bC g (xs++xs')=some (ys++ys')
 | [],xs',ys,ys',h,h'=>by simp [bC]at h;subst h;simpa using h'
 | x::xs,xs',ys,ys',h,h'=>by
  simp only [bC,cT]at h ⊢
  cases hx:g x with
  | none=>simp [hx]at h
  | some y=>
   cases hxs:bC g xs with
   | none=>simp [hx,hxs]at h
   | some zs=>simp [hx,hxs]at h;subst h;simp [nP hxs h']
variable{z:Bool}{H H':Heap}{sz bytes:Nat}{v y:V}{g:Tg}{rows:List (List FC)}{row:List FC}{cs:List C}
theorem ajR{α:Type}{cs:List α}{o:Nat}{c:α}(h:o<cs.length):over cs o [c]=cs.set o c:=by
 simp only [over,cN,List.length_nil]
 rw [List.set_eq_take_append_cons_drop,if_pos h]
 simp
theorem zI{sz:Nat}:∀ {rows:List (List FC)} {j k:Nat} {x:FC} {row:List FC},Grid sz rows→rows[j]?=some row→k<sz→rows.flatten.set (j*sz+k) x=(rows.set j (row.set k x)).flatten
 | [],_,_,_,_,_,hj,_=>by simp at hj
 | r::rows,0,k,x,row,hg,hj,hk=>by
  simp at hj;subst hj
  have:=hg r aE
  simp only [List.set_cons_zero,b8]
  rw [List.set_append_left _ _ (by omega)]
  simp
 | r::rows,j+1,k,x,row,hg,hj,hk=>by
  have hr:=hg r aE
  simp only [d7,b8]
  rw [List.set_append_right _ _ (by rw [hr,bS];omega)]
  have e:(j+1)*sz+k-r.length=j*sz+k:=by rw [hr,bS];omega
  rw [e,zI (fun y hy=>hg y (a8 _ hy)) (by simpa using hj) hk]
theorem yS{b fl c:Nat}(h:H[b]?=some (.box cs fl))(hc:cs.length=sz):fE H sz (.c (.sl b 0 1 c 0 sz))=some (1,cs):=by
 simp [fE,bM,dO,h,hc]
 rw [←hc,List.take_length]
end Km
end
section
namespace Km
open Go
def Jf(P:Program):List Field→Nat→Nat→Bool
 | [],o,n=>o == n
 | f::fs,o,n=>f.offset == o&&Jf P fs (o+P.cellsOf f.type) n
def jE(P:Program):Nat→TypeId→Bool
 | 0,_=>false
 | n+1,t=>match P.underlying t with
  | some .bool=>P.cellsOf t == 1
  | some (.int _)=>P.cellsOf t == 1
  | some .string=>P.cellsOf t == 1
  | some (.slice e)=>P.cellsOf t == 1&&P.cellsOf e != 0&&jE P n e
  | some (.struct fs)=>Jf P fs.toList 0 (P.cellsOf t)&&fs.toList.all fun f=>jE P n f.type
  | some (.array k e)=>P.cellsOf t == k*P.cellsOf e&&jE P n e
  | _=>false
def EU(S:TypeId→List FC→Prop):List TypeId→List FC→Prop
 | [],xs=>xs=[]
 | t::ts,xs=>∃ p q,xs=p++q∧S t p∧EU S ts q
def Shp(P:Program):Nat→TypeId→List FC→Prop
 | 0,_,_=>False
 | n+1,t,xs=>match P.underlying t with
  | some .bool=>∃ b,xs=[.bool b]
  | some (.int k)=>∃ m,xs=[.int k m]∧(Lit.int k m).wf=true
  | some .string=>∃ s,xs=[.str s]∧s.size≤maxLen
  | some (.slice e)=>∃ g rows,xs=[sl g rows]∧Grid (P.cellsOf e) rows∧rows.length≤maxLen∧∀ r ∈ rows,Shp P n e r
  | some (.struct fs)=>EU (Shp P n) (fs.toList.map (·.type)) xs
  | some (.array k e)=>∃ rows,xs=rows.flatten∧rows.length=k∧Grid (P.cellsOf e) rows∧∀ r ∈ rows,Shp P n e r
  | _=>False
theorem flat_get{α:Type}{sz:Nat}:∀ {rows:List (List α)} {j k:Nat} {row:List α},(∀ r ∈ rows,r.length=sz)→rows[j]?=some row→k<sz→rows.flatten[j*sz+k]?=row[k]?
 | [],j,k,row,_,hj,_=>by simp at hj
 | r::rows,0,k,row,hg,hj,hk=>by
  simp at hj;subst hj
  have:=hg r aE
  rw [b8,ai (by omega)]
  simp
 | r::rows,j+1,k,row,hg,hj,hk=>by
  have hr:=hg r aE
  rw [b8,bB (by rw [hr,bS];omega)]
  have e:(j+1)*sz+k-r.length=j*sz+k:=by rw [hr,bS];omega
  rw [e]
  exact flat_get (rows:=rows) (fun x hx=>hg x (a8 _ hx)) (by simpa using hj) hk
theorem KL{α:Type}{sz:Nat}:∀ {rows:List (List α)},(∀ r ∈ rows,r.length=sz)→rows.flatten.length=rows.length*sz
 | [],_=>by simp
 | r::rows,h=>by
  have:=KL (rows:=rows) fun x hx=>h x (a8 _ hx)
  simp only [b8,List.length_append,cN,this,h r aE,bS,Nat.one_mul]
  omega
def Nl(w:World):Nat→Nat→Prop:=fun c _=>c<w.heap.size
theorem cell_lt{w:World}{a:Addr}{v:Value}(h:w.cell? a=some v):a.block<w.heap.size∧a.spot=none:=by
 unfold World.cell? at h
 split at h
 ·rename_i hb
  split at h
  ·simp at h
  ·rename_i hs
   refine⟨?_,by simpa using hs⟩
   exact(Array.getElem?_eq_some_iff.1 hb).1
 ·simp at h
theorem A2.flatten{α β:Type}{R:α→β→Prop}{xss:List (List α)}{yss:List (List β)}(hl:xss.length=yss.length)
  (h:∀(i:Nat) xs ys,xss[i]?=some xs→yss[i]?=some ys→A2 R xs ys):A2 R xss.flatten yss.flatten:=by
 induction xss generalizing yss with
 | nil=>cases yss with
  | nil=>exact A2.nil
  | cons y ys=>simp at hl
 | cons x xs ih=>cases yss with
  | nil=>simp at hl
  | cons y ys=>
   rw [b8,b8]
   exact(h 0 x y rfl rfl).append (ih (by simpa using hl) fun i a b ha hb=>h (i+1) a b (by simpa using ha) (by simpa using hb))
section
variable{H:Type}{enc:TypeId × Value→H}{P:Program}{w:World}{base:Nat}{spare:Nat→Bool}{held:Bool}{σ:Nat→FuncId}
def aQl(σ:Nat→FuncId)(P:Program)(w:World)(n:Nat)(t:TypeId)(cs:List Value):Prop:=∃ xs,A2 (FCR σ (Nl w) w) xs cs∧Shp P n t xs
theorem zH{n:Nat}(ih:∀ {t:TypeId} {fuel:Nat} {cs:List Value} {x:DataW H × List MemPlace},jE P n t=true→DataW.trod enc P w base spare held fuel t cs=some x→aQl σ P w n t cs∧cs.length=P.cellsOf t)
  {fuel:Nat}:∀(fs:List Field) (o N:Nat) (cs:List Value),Jf P fs o N=true→(fs.all fun f=>jE P n f.type)=true→cs.length=N →
   (∀ f ∈ fs,∃ x,DataW.trod enc P w base spare held fuel f.type ((cs.drop f.offset).take (P.cellsOf f.type))=some x) →
   ∃ xs,A2 (FCR σ (Nl w) w) xs (cs.drop o)∧EU (Shp P n) (fs.map (·.type)) xs
 | [],o,N,cs,ht,_,hl,_=>by
  simp [Jf]at ht
  exact⟨[],by rw [List.drop_of_length_le (by omega)];exact A2.nil,rfl⟩
 | f::fs,o,N,cs,ht,hs,hl,hx=>by
  simp only [Jf,am,beq_iff_eq]at ht
  simp only [List.all_cons,am]at hs
  obtain⟨x,hx0⟩:=hx f aE
  rw [ht.1]at hx0
  obtain⟨⟨p,hp,sp⟩,hlen⟩:=ih hs.1 hx0
  obtain⟨q,hq,sq⟩:=zH ih fs (o+P.cellsOf f.type) N cs ht.2 hs.2 hl fun g hg=>hx g (a8 _ hg)
  refine⟨p++q,?_,p,q,rfl,sp,sq⟩
  have:cs.drop o=(cs.drop o).take (P.cellsOf f.type)++cs.drop (o+P.cellsOf f.type):=by
   rw [←List.drop_drop,cY]
  rw [this]
  exact hp.append hq
theorem alf(c o n k:Nat):((⟨c,o,none⟩:Addr).add n).add k=⟨c,o+(n+k),none⟩:=by
 unfold Addr.add
 by_cases h1:n=0<;>by_cases h2:k=0<;>simp [h1,h2]
 omega
theorem aiJ{t e:TypeId}{k n:Nat}{cs:List Value}{x:DataW H × List MemPlace}(ht:P.underlying t=some (.array k e))(h:DataW.trod enc P w base spare held (n+1) t cs=some x) :
  cs.length=P.cellsOf t∧∀ i,i<k→∃ y,DataW.trod enc P w base spare held n e ((cs.drop (i*P.cellsOf e)).take (P.cellsOf e))=some y:=by
 unfold DataW.trod at h
 rw [ht]at h
 simp only [Option.ite_none_right_eq_some,an]at h
 obtain⟨hl,xs,hp,hd⟩:=h
 refine⟨hl,fun i hi=>?_⟩
 have:=mapM_some_get hp i i (by simp [hi])
 have hlen:xs.length=k:=by simpa using mapM_some_length hp
 rw [ae (by omega)]at this
 exact⟨_,this⟩
theorem EN{α:Type}{sz:Nat}:∀ {k:Nat} {cs:List α},cs.length=k*sz→cs=((List.range k).map fun i=>(cs.drop (i*sz)).take sz).flatten
 | 0,cs,h=>by simp at h;simp [h]
 | k+1,cs,h=>by
  have h':(cs.take (k*sz)).length=k*sz:=by rw [List.length_take,h,bS];omega
  have ih:=EN h'
  rw [List.range_succ,List.map_append,List.flatten_append]
  have e:((List.range k).map fun i=>(cs.drop (i*sz)).take sz)=(List.range k).map fun i=>((cs.take (k*sz)).drop (i*sz)).take sz:=by
   refine List.map_congr_left fun i hi=>?_
   have hi':i<k:=by simpa using hi
   have:(i+1)*sz≤k*sz:=cF _ hi'
   rw [bS]at this
   rw [List.drop_take,List.take_take,Nat.min_eq_left (by omega)]
  rw [e,←ih]
  simp only [List.map_cons,List.map_nil,b8,List.flatten_nil,c7]
  have:(cs.drop (k*sz)).take sz=cs.drop (k*sz):=bA (by rw [cJ,h,bS];omega)
  rw [this,cY]
theorem aTt{n:Nat}:∀ {t:TypeId} {fuel:Nat} {cs:List Value} {x:DataW H × List MemPlace},jE P n t=true→DataW.trod enc P w base spare held fuel t cs=some x →
  aQl σ P w n t cs∧cs.length=P.cellsOf t:=by
 induction n with
 | zero=>intro t fuel cs x hs;simp [jE]at hs
 | succ n ih=>
  intro t fuel cs x hs h
  simp only [jE]at hs
  split at hs
  ·rename_i ht
   obtain⟨b,rfl,_⟩:=DataW.trod_bool ht h
   exact⟨⟨[.bool b],.cons (.bool b) .nil,by simp only [Shp,ht];exact⟨b,rfl⟩⟩,by simp at hs;simp [hs]⟩
  ·rename_i k ht
   obtain⟨m,rfl,_,hw⟩:=DataW.trod_int ht h
   exact⟨⟨[.int k m],.cons (.int k m) .nil,by simp only [Shp,ht];exact⟨m,rfl,hw⟩⟩,by simp at hs;simp [hs]⟩
  ·rename_i ht
   obtain⟨s,rfl,_,hw⟩:=DataW.trod_string ht h
   exact⟨⟨[.str s],.cons (.str s) .nil,by simp only [Shp,ht];exact⟨s,rfl,hw⟩⟩,by simp at hs;simp [hs]⟩
  ·rename_i e ht
   simp only [am,beq_iff_eq,bne_iff_ne]at hs
   obtain⟨⟨h1,hsz⟩,he⟩:=hs
   rcases DataW.trod_slice ht h with⟨rfl,_⟩ | ⟨a,len,cap,elems,rest,m,_,rfl,_,hb,hl,hm,hlen,hel,_,_⟩
   ·exact⟨⟨[sl .nil []],.cons .aA .nil,by simp only [Shp,ht];exact⟨.nil,[],rfl,fun r hr=>by simp at hr,by simp,fun r hr=>by simp at hr⟩⟩,by simpa using h1.symm⟩
   ·refine⟨?_,by simpa using h1.symm⟩
    have each:∀ i,i<len→∃ p:List Value × List FC,w.cells? base (a.add (i*P.cellsOf e)) (P.cellsOf e)=some p.1∧A2 (FCR σ (Nl w) w) p.2 p.1∧Shp P n e p.2:=by
     intro i hi
     have:=hel i hi
     rw [ae (by omega)]at this
     obtain⟨cs',h1,h2⟩:=bE.1 this
     obtain⟨⟨xs,ha,hs⟩,_⟩:=ih he h2
     exact⟨(cs',xs),h1,ha,hs⟩
    obtain⟨p,hp⟩:=Go.Deep.choose_lt each
    by_cases h0:len=0
    ·subst h0
     refine⟨[sl .fs []],.cons (.fs0 a cap) .nil,?_⟩
     simp only [Shp,ht]
     exact⟨.fs,[],rfl,fun r hr=>by simp at hr,by simp,fun r hr=>by simp at hr⟩
    have hspot:a.spot=none:=by
     have:=hp 0 (by omega)
     obtain⟨_,hl0,hc0⟩:=World.cells?_some this.1
     have:=hc0 0 (by omega)
     rw [ae (by omega)]at this
     have:=(cell_lt this).2
     simpa [Addr.add]using this
    obtain⟨c,o,sp⟩:=a
    simp only at hspot
    subst hspot
    let vss:=(List.range len).map fun i=>(p i).1
    let rows:=(List.range len).map fun i=>(p i).2
    have hv:∀ v ∈ vss,v.length=P.cellsOf e:=by
     intro v hv
     obtain⟨i,hi,rfl⟩:=b7.1 hv
     exact(World.cells?_some (hp i (by simpa using hi)).1).2.1
    have hg:Grid (P.cellsOf e) rows:=by
     intro r hr
     obtain⟨i,hi,rfl⟩:=b7.1 hr
     obtain⟨h1,h2,_⟩:=hp i (by simpa using hi)
     rw [h2.len,(World.cells?_some h1).2.1]
    have hA:A2 (FCR σ (Nl w) w) rows.flatten vss.flatten:=by
     refine A2.flatten (by simp [rows,vss]) fun i xs ys hx hy=>?_
     simp only [rows,vss,cP,an]at hx hy
     obtain⟨i1,e1,rfl⟩:=hx
     obtain⟨i2,e2,rfl⟩:=hy
     rw [e1]at e2
     cases e2
     have:=aD e1
     exact(hp i1 (by simpa using this)).2.1
    have hcell:∀ i u,vss.flatten[i]?=some u→w.cell? ⟨c,o+i,none⟩=some u:=by
     intro i u hu
     have hi:i<vss.flatten.length:=(al.1 hu).1
     rw [KL hv]at hi
     have hvl:vss.length=len:=by simp [vss]
     rw [hvl]at hi
     have hq:i / P.cellsOf e<len:=Nat.div_lt_of_lt_mul (by rw [Nat.mul_comm];exact hi)
     have hk:i % P.cellsOf e<P.cellsOf e:=Nat.mod_lt _ (by omega)
     have hi':i=i / P.cellsOf e*P.cellsOf e+i % P.cellsOf e:=by rw [Nat.mul_comm];exact(Nat.div_add_mod _ _).symm
     have hrow:vss[i / P.cellsOf e]?=some (p (i / P.cellsOf e)).1:=by simp [vss,hq]
     rw [hi',flat_get hv hrow hk]at hu
     obtain⟨_,_,hc⟩:=World.cells?_some (hp _ hq).1
     have:=hc _ hk
     rw [hu]at this
     rw [←this,alf,←hi']
    refine⟨[sl .fs rows],.cons ?_ .nil,?_⟩
    ·have hne:rows≠[]:=by simp [rows];omega
     have hrl:rows.length=len:=by simp [rows]
     have:sl Tg.fs rows=.fs rows.flatten len:=by
      cases hr:rows with
      | nil=>exact absurd hr hne
      | cons r rs=>simp only [sl,List.isEmpty_cons,Bool.false_eq_true,if_false];rw [←hr,hrl]
     rw [this]
     refine .fs rows.flatten len c o cap vss.flatten hl hA.len.symm (fun i hi=>?_) hcell fun i x u hx hu=>hA.2 i x u hx hu
     have hi':i<vss.flatten.length:=by rw [←hA.len];exact hi
     exact(cell_lt (hcell i _ (ae hi'))).1
    ·simp only [Shp,ht]
     have hrl:rows.length=len:=by simp [rows]
     refine⟨.fs,rows,rfl,hg,by omega,fun r hr=>?_⟩
     obtain⟨i,hi,rfl⟩:=b7.1 hr
     exact(hp i (by simpa using hi)).2.2
  ·rename_i fs ht
   simp only [am]at hs
   obtain⟨xs,m,_,_,hl,_,hx⟩:=DataW.trod_struct ht h
   refine⟨?_,hl⟩
   obtain⟨ys,h1,h2⟩:=zH (n:=n) (fuel:=m) ih fs.toList 0 _ cs hs.1 hs.2 hl fun f hf=>by
    obtain⟨i,hi⟩:=cE hf
    rw [Array.getElem?_toList]at hi
    have:=hx i f hi
    rw [this]
    have hlt:i<fs.size:=(Array.getElem?_eq_some_iff.1 hi).1
    exact⟨_,ae (by omega)⟩
   exact⟨ys,by simpa using h1,by simp only [Shp,ht];exact h2⟩
  ·rename_i k e ht
   simp only [am,beq_iff_eq]at hs
   obtain⟨hct,he⟩:=hs
   cases fuel with
   | zero=>simp [DataW.trod]at h
   | succ m=>
   obtain⟨hl,hx⟩:=aiJ ht h
   refine⟨?_,hl⟩
   have each:∀ i,i<k→∃ q:List FC,A2 (FCR σ (Nl w) w) q ((cs.drop (i*P.cellsOf e)).take (P.cellsOf e))∧Shp P n e q:=by
    intro i hi
    obtain⟨y,hy⟩:=hx i hi
    obtain⟨⟨q,a,b⟩,_⟩:=ih he hy
    exact⟨q,a,b⟩
   obtain⟨q,hq⟩:=Go.Deep.choose_lt each
   let rows:=(List.range k).map q
   have hcs:cs=((List.range k).map fun i=>(cs.drop (i*P.cellsOf e)).take (P.cellsOf e)).flatten:=EN (by rw [hl,hct])
   refine⟨rows.flatten,?_,?_⟩
   ·rw [hcs]
    refine A2.flatten (by simp [rows]) fun i xs ys hx hy=>?_
    simp only [rows,cP,an]at hx hy
    obtain⟨i1,e1,rfl⟩:=hx
    obtain⟨i2,e2,rfl⟩:=hy
    rw [e1]at e2
    cases e2
    have:=aD e1
    exact(hq i1 (by simpa using this)).1
   ·simp only [Shp,ht]
    refine⟨rows,rfl,by simp [rows],fun r hr=>?_,fun r hr=>?_⟩
    ·obtain⟨i,hi,rfl⟩:=b7.1 hr
     have hi':i<k:=by simpa using hi
     rw [(hq i hi').1.len,List.length_take,cJ,hl,hct]
     have:(i+1)*P.cellsOf e≤k*P.cellsOf e:=cF _ hi'
     rw [bS]at this
     omega
    ·obtain⟨i,hi,rfl⟩:=b7.1 hr
     exact(hq i (by simpa using hi)).2
  ·simp at hs
end
section
variable{P:Program}{n:Nat}{t e:TypeId}{xs:List FC}
theorem ai1(ht:P.underlying t=some .bool)(h:Shp P (n+1) t xs):∃ b,xs=[.bool b]:=by simpa only [Shp,ht]using h
theorem nN{k:IntKind}(ht:P.underlying t=some (.int k))(h:Shp P (n+1) t xs):∃ m,xs=[.int k m]∧(Lit.int k m).wf=true:=by simpa only [Shp,ht]using h
theorem yw(ht:P.underlying t=some (.slice e))(h:Shp P (n+1) t xs):∃ g rows,xs=[sl g rows]∧Grid (P.cellsOf e) rows∧rows.length≤maxLen∧∀ r ∈ rows,Shp P n e r:=by simpa only [Shp,ht]using h
theorem vF{fs:Array Field}{ts:List TypeId}(ht:P.underlying t=some (.struct fs))(hts:fs.toList.map (·.type)=ts)(h:Shp P (n+1) t xs):EU (Shp P n) ts xs:=by
 subst hts;simpa only [Shp,ht]using h
theorem Gs{k:Nat}(ht:P.underlying t=some (.array k e))(h:Shp P (n+1) t xs):∃ rows,xs=rows.flatten∧rows.length=k∧Grid (P.cellsOf e) rows∧∀ r ∈ rows,Shp P n e r:=by simpa only [Shp,ht]using h
theorem gQ{S:TypeId→List FC→Prop}{ts:List TypeId}(h:EU S (t::ts) xs):∃ p q,xs=p++q∧S t p∧EU S ts q:=h
theorem tV{α:Type}{enc:α→List FC}{p:α→Prop}:∀ {rows:List (List FC)},(∀ r ∈ rows,∃ x,r=enc x∧p x)→∃ l:List α,rows=l.map enc∧∀ x ∈ l,p x
 | [],_=>⟨[],rfl,by simp⟩
 | r::rows,h=>by
  obtain⟨x,rfl,hx⟩:=h r aE
  obtain⟨l,rfl,hl⟩:=tV fun r hr=>h r (a8 _ hr)
  exact⟨x::l,rfl,fun y hy=>by
   rcases co.1 hy with rfl | hy
   ·exact hx
   ·exact hl y hy⟩
end
end Km
end
section
namespace Km
open Go Go.ChangeShapes Go.WideShapes Go.ChangeAt Go.RowKit
def zn(P:Program)(t:TypeId)(a:V):Prop:=(∃ xs,a=.a (xs.map .f)∧Shp P 40 t xs∧(∃ d,P.underlying t=some d∧((∃ fs,d=.struct fs)∨∃ n e,d=.array n e))) ∨
 (∃ x,a=.c (.f x)∧Shp P 40 t [x])
def Ap(P:Program):List TypeId→List V→Prop
 | [],as=>as=[]
 | t::ts,as=>∃ a bs,as=a::bs∧zn P t a∧Ap P ts bs
section
variable{H:Type}{enc:TypeId × Value→H}{P:Program}{W W':World}
theorem DF{f:Func}{s:ChangeSpec}{apart fresh handsOn again:Bool}{args:Array Value}{v:Value}{ds gs:List (DataW H)}{before pa pv:List MemPlace}
  (hW:DataW.Whole enc P f.params.toList s.vars apart W args.toList ds gs before)
  (hres:∀(b:Nat) (sp:Nat→Bool) (hd:Bool),DataW.TrodAll enc P W' b sp hd f.resultTypes.toList (v.resultList f.resultTypes.size) (s.fn H (ds++gs)).results [])
  (hargs:∀ sp:Nat→Bool,(∀ p ∈ before,sp p.block=true)→DataW.TrodAll enc P W' 0 sp true f.params.toList args.toList (s.fn H (ds++gs)).args pa)
  (hvars:∀ sp:Nat→Bool,(∀ p ∈ before,sp p.block=true)→DataW.TrodVars enc P W' sp s.vars (s.fn H (ds++gs)).vars pv)
  (hps:before=pa++pv) (hb:Below W.heap.size W W')
  (hok:∀(j:Nat) (t:TypeId) (r:Value),f.resultTypes[j]?=some t→(v.resultList f.resultTypes.size)[j]?=some r→Value.okWide P W' .any 0 t r) :
  s.post enc P f apart fresh handsOn again W args v W':=by
 have hlt:∀ p ∈ before,p.block<W.heap.size:=fun p hp=>hW.lt p hp
 have hold:∀ p ∈ before,(fun b=>decide (b<W.heap.size)) p.block=true:=fun p hp=>by simpa using hlt p hp
 refine⟨ds,gs,before,[],pa,pv,hW,hres _ _ _,hargs _ hold,hvars _ hold,World.keptBut_mono (fun p hp=>⟨hp,?_⟩) (hb.frame (· ∈ before)),fun _=>?_⟩
 ·rw [hps,List.mem_append]at hp
  exact Or.inr hp
 ·obtain⟨_,_,_,_,_,hz,hn⟩:=hW
  refine⟨hok,_,_,([]++pa)++pv,⟨[]++pa,pv,trodAll_append (hargs _ (fun _ _=>rfl)) (hres _ _ _),hvars _ (fun _ _=>rfl),rfl,?_,?_⟩,?_⟩
  ·intro b off hp
   have hp':MemPlace.cell b off ∈ before:=by rw [hps];simpa using hp
   rw [hb.frozen (p:=⟨b,off,none⟩) (hlt _ hp')]
   exact hz b off hp'
  ·intro ha
   have:=hn ha
   rw [hps]at this
   simpa using this
  ·intro p hp _
   rw [hps]
   simpa using hp
theorem uQ(hl:laidOutB P=true){sp:Nat→Bool}(hb:Below W.heap.size W W'):∀ {ts:List TypeId} {vs:List Value} {ds:List (DataW H)} {ps:List MemPlace},
  (ts.all fun t=>P.readableRec t&&decide (t<P.types.size))=true→DataW.TrodAll enc P W 0 (fun _=>true) true ts vs ds ps→(∀ p ∈ ps,p.block<W.heap.size)→(∀ p ∈ ps,sp p.block=true) →
  DataW.TrodAll enc P W' 0 sp true ts vs ds ps
 | [],[],[],ps,_,h,_,_=>h
 | t::ts,v::vs,d::ds,ps,hr,⟨p,q,h1,h2,e⟩,hlt,hs=>by
  subst e
  simp only [List.all_cons,am,decide_eq_true_eq]at hr
  exact⟨p,q,WideElems.Trod_stays hl hr.1.1 hr.1.2 h1 (fun x hx=>hb.same (hlt x (cU _ hx))) (fun x hx=>hs x (cU _ hx)),
   uQ hl hb hr.2 h2 (fun x hx=>hlt x (List.mem_append_right _ hx)) (fun x hx=>hs x (List.mem_append_right _ hx)),rfl⟩
 | [],_::_,_,_,_,h,_,_=>by cases h
 | [],[],_::_,_,_,h,_,_=>by cases h
 | _::_,[],_,_,_,h,_,_=>by cases h
 | _::_,_::_,[],_,_,h,_,_=>by cases h
variable{σ:Nat→FuncId}
def X0(W:World):Wd:=⟨fun _=>none,Nl W,[],W,W.heap.size⟩
theorem aiI{xs:List FC}{cs:Array Value}(h:A2 (FCR σ (Nl W) W) xs cs.toList):VR σ (X0 W) (.a (xs.map .f)) (.agg cs):=
 ⟨cs.toList,by simp,A2.map (g:=C.f) (h.weak fun _ _ h=>h)⟩
theorem ak9{t:TypeId}{v:Value}{d:DataW H}{ps:List MemPlace}{base:Nat}{spare:Nat→Bool}{held:Bool}{b0:Nat}(hs:jE P 40 t=true)(hval:Value.okWide P W .any b0 t v)
  (hd:DataW.Trod enc P W base spare held t v d ps):∃ a,VR σ (X0 W) a v∧zn P t a:=by
 obtain⟨fuel,hf⟩:=hd
 obtain⟨⟨xs,hA,hS⟩,hl⟩:=aTt (σ:=σ) hs hf
 have scalar:v.cells.toList=[v]→∃ a,VR σ (X0 W) a v∧zn P t a:=by
  intro hv
  rw [hv]at hA
  match xs,hA.len with
  | [x],_=>exact⟨.c (.f x),hA.of_cons.1,.inr ⟨x,rfl,hS⟩⟩
 unfold jE at hs
 unfold Value.okWide at hval
 split at hval
 ·rename_i fs ht
  obtain⟨cs,rfl,_,_⟩:=hval
  exact⟨_,aiI hA,.inl ⟨xs,rfl,hS,_,ht,.inl ⟨_,rfl⟩⟩⟩
 ·rename_i n e ht
  obtain⟨cs,rfl,_,_⟩:=hval
  exact⟨_,aiI hA,.inl ⟨xs,rfl,hS,_,ht,.inr ⟨_,_,rfl⟩⟩⟩
 ·rename_i h1 h2
  refine scalar ?_
  split at hs
  ·rename_i ht
   obtain⟨b,hb,_⟩:=DataW.trod_bool ht hf
   simp only [Cell.okWide,ht,Cell.ok]at hval
   cases v<;>simp_all [Value.cells]
  ·rename_i ht
   obtain⟨b,hb,_⟩:=DataW.trod_int ht hf
   simp only [Cell.okWide,ht,Cell.ok]at hval
   cases v<;>simp_all [Value.cells]
  ·rename_i ht
   obtain⟨b,hb,_⟩:=DataW.trod_string ht hf
   simp only [Cell.okWide,ht,Cell.ok]at hval
   cases v<;>simp_all [Value.cells]
  ·rename_i ht
   simp only [Cell.okWide,ht,Cell.ok]at hval
   cases v<;>simp_all [Value.cells]
  ·rename_i fs ht;exact absurd ht (h1 fs)
  ·rename_i n e ht;exact absurd ht (h2 n e)
  ·simp at hs
theorem ET{base:Nat}{spare:Nat→Bool}{held:Bool}{b0:Nat}:∀ {ts:List TypeId} {vs:List Value} {ds:List (DataW H)} {ps:List MemPlace},(ts.all fun t=>jE P 40 t)=true →
  (∀(j:Nat) t v,ts[j]?=some t→vs[j]?=some v→Value.okWide P W .any b0 t v)→DataW.TrodAll enc P W base spare held ts vs ds ps →
  ∃ as,A2 (VR σ (X0 W)) as vs∧Ap P ts as
 | [],[],[],_,_,_,_=>⟨[],A2.nil,rfl⟩
 | t::ts,v::vs,d::ds,ps,hs,hval,⟨p,q,h1,h2,_⟩=>by
  simp only [List.all_cons,am]at hs
  obtain⟨a,ha,sa⟩:=ak9 (σ:=σ) hs.1 (hval 0 t v rfl rfl) h1
  obtain⟨bs,hb,sb⟩:=ET hs.2 (fun j t v h h'=>hval (j+1) t v (by simpa using h) (by simpa using h')) h2
  exact⟨a::bs,.cons ha hb,a,bs,rfl,sa,sb⟩
 | [],_::_,_,_,_,_,h=>by cases h
 | [],[],_::_,_,_,_,h=>by cases h
 | _::_,[],_,_,_,_,h=>by cases h
 | _::_,_::_,[],_,_,_,h=>by cases h
theorem aAu{n:Nat}{H:Heap}{v:V}{b:Bool}(h:exV (n+1) H v=some (.c (.f (.bool b)))):v=.c (.f (.bool b)):=by
 cases v with
 | top=>simp [exV,dN]at h
 | a xs=>simp [exV,dN]at h
 | t xs=>simp [exV]at h
 | c x=>
  simp only [exV,dN,an]at h
  obtain⟨y,hy,h⟩:=h
  cases h
  cases x with
  | f x=>simpa [exC]using hy
  | ptr b o e=>simp only [exC]at hy;split at hy<;>simp at hy
  | sl b o l c e s=>
   simp only [exC]at hy
   split at hy
   ·split at hy<;>simp at hy
   ·split at hy<;>simp at hy
   ·split at hy<;>simp at hy
   ·split at hy<;>simp at hy
   ·simp at hy
  | cl f caps=>simp [exC]at hy
  | _=>simp [exC]at hy
variable{tab:Nat→Option AFunc}
theorem MX(hE:Env P σ tab mZ){f:Nat}{args:List V}{us:List Value}(h:Pure tab f args (vb true))(W:World)(ha:A2 (VR σ (X0 W)) args us) :
  Calls P (σ f) us.toArray W fun e w'=>e=.returned (.bool true)∧Below W.heap.size W w':=by
 obtain⟨r,H',⟨m,d,h⟩,hr⟩:=h
 have hr:=aAu (n:=63) hr
 subst hr
 intro cs
 let X:=X0 W
 have hS:SR P σ X:=⟨fun b L h=>by simp [X,X0]at h,fun b b' L L' h=>by simp [X,X0]at h,fun c i h=>h⟩
 obtain⟨fr,X',u,h1,⟨l1,l2,l3,l4,fn,l5,l6⟩,h3,h4,h5,h6,h7⟩:=(akZ hE m d).fn f args [] _ H' h X us .normal cs rfl hS (aw _) ha (.inl rfl)
 have hu:=VR.bool h5
 subst hu
 exact⟨.returned (.bool true),X'.w,fr,⟨rfl,⟨h6.os,h6.tape,h6.output,h6.size,fun k hk=>h6.frame k hk (fun b L h=>by simp [X,X0]at h)⟩⟩,h1,l4,l1,l2,l3,fn,by rw [l4];exact l5,l6⟩
theorem akp(hE:Env P σ tab mZ){s:ChangeSpec}{f:Func}{fi:Nat}{tb:TypeId}(hvars:s.vars=[])(hlaid:laidOutB P=true){ts:List TypeId}(hts:f.params.toList=ts)
  (hfn:∀ ds:List (DataW H),ds.length=ts.length→s.fn H ds=⟨[.lit (.bool true)],ds,[]⟩)
  (hres:f.resultTypes=#[tb]) (htb:P.underlying tb=some .bool) (hread:(ts.all fun t=>P.readableRec t&&decide (t<P.types.size))=true) (azZ:(ts.all fun t=>jE P 40 t)=true)
  (hkm:∀ as,Ap P ts as→Pure tab fi as (vb true)) {apart fresh handsOn again:Bool} {base:Nat} {args:Array Value} {ds gs:List (DataW H)} {before:List MemPlace}
  (hval:∀(j:Nat) t v,f.params[j]?=some t→args[j]?=some v→Value.okWide P W .any base t v) (hW:DataW.Whole enc P f.params.toList s.vars apart W args.toList ds gs before) :
  Calls P (σ fi) args W fun e W'=>∃ v,e=.returned v∧s.post enc P f apart fresh handsOn again W args v W':=by
 have hW':=hW
 obtain⟨p,q,hA,hV,hb,hfz,hnd⟩:=hW
 rw [hts]at hA
 rw [hvars]at hV
 obtain⟨rfl,rfl⟩:=trodVars_none hV
 simp only [c7]at hb
 subst hb
 obtain⟨as,h1,h2⟩:=ET (σ:=σ) (b0:=base) azZ (fun j t v h h'=>hval j t v (by rw [←Array.getElem?_toList,hts];exact h) (by rw [←Array.getElem?_toList];exact h')) hA
 have hlen:ds.length=ts.length:=by
  have:∀ {ts:List TypeId} {vs:List Value} {ds:List (DataW H)} {ps:List MemPlace},DataW.TrodAll enc P W 0 (fun _=>true) true ts vs ds ps→ds.length=ts.length:=by
   intro ts
   induction ts with
   | nil=>intro vs ds ps h;cases vs<;>cases ds<;>first | rfl | cases h
   | cons t ts ih=>intro vs ds ps h;cases vs<;>cases ds<;>first | (obtain⟨_,_,_,h,_⟩:=h;simp [ih h]) | cases h
  exact this hA
 have hfn':=hfn ds hlen
 have hc:=MX hE (hkm as h2) W h1
 rw [Array.toArray_toList]at hc
 refine hc.mono fun e W' h=>?_
 obtain⟨he,hg⟩:=h
 subst he
 refine⟨_,rfl,DF (pa:=before) (pv:=[]) hW' (fun b sp hd=>?_) (fun sp hsp=>?_) (fun sp _=>?_) (by simp) hg ?_⟩
 ·rw [c7,hfn',hres]
  exact trodAll_mk1 (shut_bool htb _)
 ·rw [c7,hfn',hts]
  exact uQ hlaid hg hread hA (fun p hp=>hW'.lt p hp) hsp
 ·rw [c7,hfn',hvars]
  exact rfl
 ·exact ok_one hres rfl (okWide_bool_mk htb _)
end
end Km
end
section
namespace Km
open Go
section
variable{tab:Nat→Option AFunc}{f:Nat}{args:List V}{r:V}{fn:Nat}{k:List dI}{t:T}{ds:List fF}{H H':Heap}{Q:Option ah→St→Prop}
theorem yD{x:Arg}{ps:List P}{as bd:ah}{g:Nat}{ar:List V}(hf:dw (x.ev t) [.c (.yl (H.length+1))]=some (.fn g,ar))
  (he:Ev tab (.fn g) ar (H++[.dfr true,.lp fn t ps as bd .ready none H.length]) r H')
  (h:WP tab fn none (.lK (H.length+1)::k) ⟨t,.coll H.length::ds,H'⟩ Q):WP tab fn none (.code (.iC x ps as bd)::k) ⟨t,ds,H⟩ Q:=by
 obtain⟨m,d,he⟩:=he
 obtain⟨n,m',d',j,s',h1,h2⟩:=h
 refine⟨n+1,max m m',max d d',j,s',?_,h2⟩
 have e1:=nU (tab:=tab) (bL m m') (bL d d') _ _ _ _ he
 have e2:=Ba (bp m m') (bp d d') (aw n) h1
 simp only [run,hf,e1,e2]
 simp
theorem Kt{ro:Option Nat}{b f' d:Nat}{tm:T}{ps:List P}{as bd:ah}{st:kC}(hb:H[b]?=some (.lp f' tm ps as bd st none d))(hst:st≠.busy)
  (h:WP tab fn ro k ⟨t,ds,H.set b (.lp f' tm ps as bd .exhausted none d)⟩ Q):WP tab fn ro (.lK b::k) ⟨t,ds,H⟩ Q:=by
 refine rY h fun m d n=>?_
 simp only [run,hb,if_neg hst]
theorem wU{ro:Option Nat}{b f' d:Nat}{tm:T}{ps:List P}{as bd:ah}{st:kC}(hb:H[b]?=some (.lp f' tm ps as bd st (some .ret) d))(hst:st≠.busy)
  (h:WP tab fn ro (.code .ret::k) ⟨t,ds,H.set b (.lp f' tm ps as bd .exhausted (some .ret) d)⟩ Q):WP tab fn ro (.lK b::k) ⟨t,ds,H⟩ Q:=by
 refine rY h fun m d n=>?_
 simp only [run,hb,if_neg hst]
theorem Hl{b f' d:Nat}{tm:T}{ps:List P}{as bd:ah}{pd:Option ah}(hb:H[b]?=some (.lp f' tm ps as bd .ready pd d))
  (h:WP tab fn (some b) k ⟨t,ds,H.set b (.lp f' tm ps as bd .busy pd d)⟩ Q):WP tab fn (some b) (.sQ::k) ⟨t,ds,H⟩ Q:=by
 refine rY h fun m d n=>?_
 simp only [run,hb]
@[simp] theorem aLu {b:Nat} {as:List V}:dw (.c (.yl b)) as=some (.yield b,as):=rfl
def aQm(b:Nat)(r:V)(H':Heap)(j:Option ah)(s:St):Prop:=s.defs=[]∧∃ f' tm ps as bd st pd d,s.heap[b]?=some (.lp f' tm ps as bd st pd d)∧r=.c (.f (.bool j.isNone)) ∧
 H'=s.heap.set b (.lp f' tm ps as bd (if j.isNone then .ready else .done) j d)
theorem akJ{b f' d:Nat}{tm:T}{ps:List P}{as bd:ah}{st:kC}{pd:Option ah}(hb:H[b]?=some (.lp f' tm ps as bd st pd d))(hl:args.length=ps.length)
  (h:WP tab f' (some b) [.code as,.sQ,.code bd] ⟨dJ ps args tm,[],H⟩ (aQm b r H')):Ev tab (.yield b) args H r H':=by
 obtain⟨n,m,d',j,s,h1,hd,f2,tm2,ps2,as2,bd2,st2,pd2,d2,h2,rfl,rfl⟩:=h
 refine⟨max m n,d'+1,?_⟩
 have e1:run (CF tab (max m n) d') f' (max m n) (some b) [.code as,.sQ,.code bd] ⟨dJ ps args tm,[],H⟩=some (j,s):=Ba (bL m n) (aw d') (bp m n) h1
 simp only [CF]at e1 ⊢
 simp only [gZ,hb,hl,if_true,e1,hd,List.isEmpty_nil,h2]
 rfl
theorem sJ{C:V→Heap→Prop}{b f' d:Nat}{tm:T}{ps:List P}{as bd:ah}{st:kC}{pd:Option ah}(hb:H[b]?=some (.lp f' tm ps as bd st pd d))(hl:args.length=ps.length)
  (h:∀ Q:Option ah→St→Prop,(∀ j s f2 tm2 ps2 as2 bd2 st2 pd2 d2,s.defs=[]→s.heap[b]?=some (.lp f2 tm2 ps2 as2 bd2 st2 pd2 d2) →
   C (.c (.f (.bool j.isNone))) (s.heap.set b (.lp f2 tm2 ps2 as2 bd2 (if j.isNone then .ready else .done) j d2))→Q j s)→WP tab f' (some b) [.code as,.sQ,.code bd] ⟨dJ ps args tm,[],H⟩ Q):∃ r H',Ev tab (.yield b) args H r H'∧C r H':=by
 have h':=h (fun j s=>∃ r H',C r H'∧aQm b r H' j s) fun j s f2 tm2 ps2 as2 bd2 st2 pd2 d2 h1 h2 h3=>⟨_,_,h3,h1,f2,tm2,ps2,as2,bd2,st2,pd2,d2,h2,rfl,rfl⟩
 obtain⟨n,m,d',j,s,h1,r,H',h2,h3⟩:=h'
 exact⟨r,H',akJ hb hl ⟨n,m,d',j,s,h1,h3⟩,h2⟩
def aLe(res:List mF)(r:V)(s:St):Prop:=∃ b,s.defs=[.coll b]∧s.heap[b]?=some (.dfr true)∧∃ r0,results s.regs (s.heap.set b (.dfr false)) res=some r0∧exV deep (s.heap.set b (.dfr false)) r0=some r
theorem JF{S:V→Prop}{ps:List P}{res:List mF}{body:ah}(ht:tab f=some ⟨ps,res,body⟩)(hl:args.length=ps.length)
  (h:∀ Q:Option ah→St→Prop,(∀ j s r,S r→xP res r s∨aLe res r s→Q j s)→WP tab f none [.code body] ⟨dJ ps args .e,[],[]⟩ Q):∃ r,S r∧Pure tab f args r:=by
 have h':=h (fun _ s=>∃ r,S r∧(xP res r s∨aLe res r s)) fun _ _ r h1 h2=>⟨r,h1,h2⟩
 obtain⟨n,m,d,j,s,h1,r,hr,⟨hd,r0,h2,h3⟩ | ⟨b,hd,hb,r0,h2,h3⟩⟩:=h'
 ·exact⟨r,hr,r0,s.heap,EK ht hl ⟨n,m,d,j,s,h1,0,0,s.heap,by rw [hd];rfl,h2,rfl⟩,h3⟩
 ·exact⟨r,hr,r0,s.heap.set b (.dfr false),EK ht hl ⟨n,m,d,j,s,h1,0,0,_,by rw [hd];simp only [fQ,hb],h2,rfl⟩,h3⟩
theorem iT{C:V→Heap→Prop}{ps:List P}{res:List mF}{body:ah}(ht:tab f=some ⟨ps,res,body⟩)(hl:args.length=ps.length)
  (h:∀ Q:Option ah→St→Prop,(∀ j s r,s.defs=[]→results s.regs s.heap res=some r→C r s.heap→Q j s)→WP tab f none [.code body] ⟨dJ ps args .e,[],H⟩ Q):∃ r H',Ev tab (.fn f) args H r H'∧C r H':=by
 have h':=h (fun _ s=>s.defs=[]∧∃ r,results s.regs s.heap res=some r∧C r s.heap) fun _ _ r h1 h2 h3=>⟨h1,r,h2,h3⟩
 obtain⟨n,m,d,j,s,h1,hd,r,h2,h3⟩:=h'
 exact⟨r,s.heap,EK ht hl ⟨n,m,d,j,s,h1,0,0,s.heap,by rw [hd];rfl,h2,rfl⟩,h3⟩
end
end Km
end
section
namespace Km
open Go
theorem zo{c:dL}:∀(a b:List aV) (s:St),iY c (a++b) s=(iY c a s).bind (iY c b)
 | [],b,s=>rfl
 | o::a,b,s=>by
  simp only [cT,iY]
  cases jk c s o with
  | none=>rfl
  | some s'=>exact zo a b s'
theorem Ar{c:dL}:∀(os:List aV) (s:St) {s':St},iY c os s=some s'→∃ ss,fG c os s=some ss∧ss.getLast?=some s'∧∀ i,i≤os.length→iY c (os.take i) s=ss[i]?
 | [],s,s',h=>by
  simp only [iY,ab]at h
  subst h
  refine⟨[s],rfl,rfl,fun i hi=>?_⟩
  have:i=0:=by simpa using hi
  subst this
  rfl
 | o::os,s,s',h=>by
  simp only [iY]at h
  cases hs:jk c s o with
  | none=>simp [hs]at h
  | some s1=>
   simp only [hs]at h
   obtain⟨ss,h1,h2,h3⟩:=Ar os s1 h
   refine⟨s::ss,by simp only [fG,hs,h1],by rw [List.getLast?_cons,h2];rfl,fun i hi=>?_⟩
   cases i with
   | zero=>rfl
   | succ i=>
    simp only [List.take_succ_cons,iY,hs,List.getElem?_cons_succ]
    exact h3 i (by simpa using hi)
def sS(o:aV)(si sj:St):Prop:=wanted si.regs o.g=some false∨∃ v H1 v' H2,xOp si.regs si.heap o.op=some (v,H1)∧xOp si.regs sj.heap o.op=some (v',H2)∧v.beq v'=true
section
variable{tab:Nat→Option AFunc}{fn:Nat}{ro:Option Nat}{k:List dI}{s:St}{Q:Option ah→St→Prop}
def aEm(tab:Nat→Option AFunc)(ops:List aV)(s:St)(c:Nat × Nat):Prop:=c.2≤ops.length∧∃ o,ops[c.1]?=some o ∧
 ((c.1≤c.2∧OPS tab (ops.take c.1) s fun si=>OPS tab ((ops.drop c.1).take (c.2-c.1)) si fun sj=>sS o si sj) ∨
 (c.2≤c.1∧OPS tab (ops.take c.2) s fun sj=>OPS tab ((ops.drop c.2).take (c.1-c.2)) sj fun si=>sS o si sj))
theorem ai3{ops:List aV}{c:Nat × Nat}(h:aEm tab ops s c):∃ m d o si sj,c.2≤ops.length∧ops[c.1]?=some o∧iY (CF tab m d) (ops.take c.1) s=some si∧iY (CF tab m d) (ops.take c.2) s=some sj∧sS o si sj:=by
 have two:∀(a b:Nat) (K:St→St→Prop),a≤b→OPS tab (ops.take a) s (fun sa=>OPS tab ((ops.drop a).take (b-a)) sa fun sb=>K sa sb) →
   ∃ m d sa sb,iY (CF tab m d) (ops.take a) s=some sa∧iY (CF tab m d) (ops.take b) s=some sb∧K sa sb:=by
  intro a b K hab h
  obtain⟨m,d,sa,h1,h2⟩:=mJ _ _ h
  obtain⟨m',d',sb,h3,h4⟩:=mJ _ _ h2
  have e1:=fC (nU (tab:=tab) (bL m m') (bL d d')) _ _ h1
  have e3:=fC (nU (tab:=tab) (bp m m') (bp d d')) _ _ h3
  refine⟨max m m',max d d',sa,sb,e1,?_,h4⟩
  have:ops.take b=ops.take a++(ops.drop a).take (b-a):=by
   have hb:b=a+(b-a):=by omega
   conv=>lhs;rw [hb,List.take_add]
  rw [this,zo,e1]
  exact e3
 obtain⟨hj,o,ho,⟨hij,h⟩ | ⟨hji,h⟩⟩:=h
 ·obtain⟨m,d,si,sj,h1,h2,h3⟩:=two _ _ (fun si sj=>sS o si sj) hij h
  exact⟨m,d,o,si,sj,hj,ho,h1,h2,h3⟩
 ·obtain⟨m,d,sj,si,h1,h2,h3⟩:=two _ _ (fun sj si=>sS o si sj) hji h
  exact⟨m,d,o,si,sj,hj,ho,h2,h1,h3⟩
theorem ny{ops:List aV}{chk:List (Nat × Nat)}(hr:ro=none∨ops.all (·.op.gG)=true)(h:OPS tab ops s fun s'=>WP tab fn ro k s' Q)(hk:∀ c ∈ chk,aEm tab ops s c) :
  WP tab fn ro (.code (.region ops chk)::k) s Q:=by
 obtain⟨m,d,s',h1,n,m',d',j,s2,h2,h3⟩:=mJ ops s h
 have hall:∃ M D,∀ c ∈ chk,∃ o si sj,c.2≤ops.length∧ops[c.1]?=some o∧iY (CF tab M D) (ops.take c.1) s=some si∧iY (CF tab M D) (ops.take c.2) s=some sj∧sS o si sj:=by
  clear h1 h2 h
  induction chk with
  | nil=>exact⟨0,0,fun c hc=>by cases hc⟩
  | cons c cs ih=>
   obtain⟨M,D,ih⟩:=ih fun c hc=>hk c (a8 _ hc)
   obtain⟨m1,d1,o,si,sj,a1,a2,a3,a4,a5⟩:=ai3 (hk c aE)
   refine⟨max M m1,max D d1,fun c' hc'=>?_⟩
   rcases co.1 hc' with rfl | hc'
   ·have l:=nU (tab:=tab) (bp M m1) (bp D d1)
    exact⟨o,si,sj,a1,a2,fC l _ _ a3,fC l _ _ a4,a5⟩
   ·obtain⟨o,si,sj,a1,a2,a3,a4,a5⟩:=ih c' hc'
    have l:=nU (tab:=tab) (bL M m1) (bL D d1)
    exact⟨o,si,sj,a1,a2,fC l _ _ a3,fC l _ _ a4,a5⟩
 obtain⟨M,D,hall⟩:=hall
 obtain⟨MM,hm1,hm2,hm3⟩:∃ x,m≤x∧m'≤x∧M≤x:=⟨max (max m m') M,by omega,by omega,by omega⟩
 obtain⟨DD,hd1,hd2,hd3⟩:∃ x,d≤x∧d'≤x∧D≤x:=⟨max (max d d') D,by omega,by omega,by omega⟩
 refine⟨n+1,MM,DD,j,s2,?_,h3⟩
 have e1:=fC (nU (tab:=tab) hm1 hd1) ops _ h1
 have e2:=Ba hm2 hd2 (aw n) h2
 have hro:(ro.isSome&&!ops.all (·.op.gG))=false:=by
  rcases hr with rfl | hr
  ·rfl
  ·rw [hr];simp
 obtain⟨ss,f1,f2,f3⟩:=Ar ops s e1
 have hx:jD (CF tab MM DD) ops chk s=some s':=by
  cases chk with
  | nil=>simpa only [jD]using e1
  | cons x xs=>
   simp only [jD,f1]
   rw [if_pos,f2]
   rw [List.all_eq_true]
   intro c hc
   obtain⟨o,si,sj,a1,a2,a3,a4,a5⟩:=hall c hc
   have l:=nU (tab:=tab) hm3 hd3
   have hi:c.1≤ops.length:=by
    have:=(al.1 a2).1
    omega
   have b3:=fC l _ _ a3
   have b4:=fC l _ _ a4
   rw [f3 _ hi]at b3
   rw [f3 _ a1]at b4
   simp only [sameAt,a2,b3,b4]
   rcases a5 with hw | ⟨v,H1,v',H2,g1,g2,g3⟩
   ·rw [hw]
   ·split
    ·rfl
    ·simp only [g1,g2,g3]
 simp only [run,hro,hx,e2]
 simp
end
end Km
end
section
namespace Km
open Go
theorem HY{n:Nat}:∀(l:List C) (H:Heap),(∀ x ∈ l,∃ y,x=.f y)→l.foldl (fun H x=>mkC n x H) H=H
 | [],_,_=>rfl
 | x::l,H,h=>by
  obtain⟨y,rfl⟩:=h x aE
  simp only [List.foldl_cons,SE]
  exact HY l H fun x hx=>h x (a8 _ hx)
end Km
end
section
namespace Km
open Go
end Km
end
section
namespace Km
open Go
def RB(H:Heap)(b sz ep:Nat)(rows:List (List FC)):Prop:=H[b]?=some (.opn sz (rows.flatten.map .f) 0 ep .loc)
def Fm(b:Nat)(H H':Heap):Prop:=H.length≤H'.length∧∀ b':Nat,b'≠b→b'<H.length→H'[b']?=H[b']?
theorem Fm.refl{b:Nat}(H:Heap):Fm b H H:=⟨aw _,fun _ _ _=>rfl⟩
theorem Fm.trans{b:Nat}{H H' H'':Heap}(h:Fm b H H')(h':Fm b H' H''):Fm b H H'':=
 ⟨bz h.1 h'.1,fun b' e l=>(h'.2 b' e (cG l h.1)).trans (h.2 b' e l)⟩
theorem Fm.push{b:Nat}(H J:Heap):Fm b H (H++J):=⟨by simp,fun b' _ l=>ai l⟩
theorem Fm.set{b:Nat}(H:Heap)(x:Blk):Fm b H (H.set b x):=⟨by simp,fun b' e _=>ag (Ne.symm e)⟩
theorem Fm.get{b:Nat}{H H':Heap}(h:Fm b H H'){b':Nat}{x:Blk}(hb:H[b']?=some x)(e:b'≠b):H'[b']?=some x:=by rw [h.2 b' e (aF hb)];exact hb
theorem Jr{sz:Nat}{row:List FC}(hr:row.length=sz):∀ {rows:List (List FC)} {j:Nat},Grid sz rows→j<rows.length →
  rows.flatten.take (j*sz)++row++rows.flatten.drop (j*sz+sz)=(rows.set j row).flatten
 | [],_,_,hj=>by simp at hj
 | r::rows,0,hg,_=>by
  have:=hg r aE
  subst this
  simp
 | r::rows,j+1,hg,hj=>by
  have hr0:=hg r aE
  have ih:=Jr hr (rows:=rows) (j:=j) (fun x hx=>hg x (a8 _ hx)) (by simpa using hj)
  simp only [b8,d7]
  rw [←ih]
  have e1:(j+1)*sz=r.length+j*sz:=by rw [hr0,bS];omega
  have e2:(j+1)*sz+sz=r.length+(j*sz+sz):=by omega
  rw [e2,e1,List.take_append,List.drop_append]
  simp [bA,c6]
section
variable{H:Heap}{b sz ep j:Nat}{rows:List (List FC)}{row:List FC}
theorem RB.lt(h:RB H b sz ep rows):b<H.length:=aF h
theorem RB.push(h:RB H b sz ep rows)(J:Heap):RB (H++J) b sz ep rows:=by
 unfold RB at *;rw [ai (aF h)];exact h
theorem RB.len(h:RB H b sz ep rows){o l c:Nat}:bM H (.sl b o l c ep sz)=some l:=by
 unfold RB at h;simp [bM,h]
theorem RB.idx(h:RB H b sz ep rows){n c:Nat}{k:IntKind}{i:Int}(h0:0≤i)(hi:i<n){o:Nat}:aU H sz none (.c (.sl b o n c ep sz)) (.c (.f (.int k i)))=some (.c (.ptr b (o+i.toNat*sz) ep)):=by
 unfold RB at h
 simp only [aU,iK,h0,hi,if_true,h,and_self]
theorem RB.ldr(h:RB H b sz ep rows)(hg:Grid sz rows)(hj:rows[j]?=some row):ldV H (some sz) (.c (.ptr b (j*sz) ep))=some (.a (row.map .f)):=by
 unfold RB at h
 have hlen:row.length=sz:=hg row (aD hj)
 have:=xB (k:=0) hg hj (by omega)
 simp only [aH,h,if_true]
 rw [←List.map_drop]
 rw [Nat.add_zero]at this
 rw [this]
 have h1:(row.map C.f++((rows.drop (j+1)).flatten.map C.f)).take sz=row.map C.f:=by
  rw [cw (by simp [hlen]),bA (by simp [hlen])]
 simp [hlen]
theorem RB.str(h:RB H b sz ep rows)(hg:Grid sz rows)(hj:j<rows.length)(hr:row.length=sz) :
  ∃ H',stC H (.ptr b (j*sz) ep) (row.map .f)=some H'∧RB H' b sz ep (rows.set j row)∧Fm b H H'∧H'.length=H.length:=by
 have hl:=dM hg
 have hjl:(j+1)*sz≤rows.length*sz:=cF _ hj
 have hin:j*sz+sz≤rows.flatten.length:=by rw [hl];rw [bS]at hjl;omega
 unfold RB at h ⊢
 refine⟨H.set b (.opn sz ((rows.set j row).flatten.map .f) 0 ep .loc),?_,?_,Fm.set _ _,by simp⟩
 ·simp only [bI,h,Nat.zero_le,true_and,a9,hr,hin,if_true]
  rw [←Jr hr hg hj]
  simp [over,hr]
 ·exact ax (aF h)
end
theorem bnd_nat{k n:Nat}(h:k≤n):bnd (vi k) n=some k:=by
 have:(0:Int)≤k∧(k:Int)≤n:=by omega
 simp [bnd,iK,this]
theorem res_one{t:T}{H:Heap}{x:mF}{r:V}(h:dG t H x=some r):Km.results t H [x]=some r:=by
 simp [Km.results,bC,h]
@[simp] theorem aQw {t:T} {H:Heap} (sz:Nat) (zs:List FC) (x:Arg):xOp t H (.clear sz zs x)=(CJ H sz zs (x.ev t)).map (.t [],·):=rfl
@[simp] theorem aQJ {a b:Int}:JY false [vi a,vi b]=some (vi (max a b)):=by
 have:(if a<b then b else a)=max a b:=by split<;>omega
 simp only [JY,BK,JZ]
 simp [this,V.int]
@[simp] theorem aQI {a b:Int}:JY true [vi a,vi b]=some (vi (min a b)):=by
 have:(if b<a then b else a)=min a b:=by split<;>omega
 simp only [JY,BK,JZ]
 simp [this,V.int]
end Km
end
section
namespace Km
open Go
def swp(l:List (List FC))(i j:Nat):List (List FC):=(l.set i (l.getD j [])).set j (l.getD i [])
def Seg(a b:Nat)(l l':List (List FC)):Prop:=l'.Perm l∧l'.take a=l.take a∧l'.drop b=l.drop b
theorem Seg.refl(a b:Nat)(l:List (List FC)):Seg a b l l:=⟨.refl _,rfl,rfl⟩
theorem Seg.trans{a b:Nat}{l l' l'':List (List FC)}(h:Seg a b l l')(h':Seg a b l' l''):Seg a b l l'':=⟨h'.1.trans h.1,h'.2.1.trans h.2.1,h'.2.2.trans h.2.2⟩
theorem Seg.len{a b:Nat}{l l':List (List FC)}(h:Seg a b l l'):l'.length=l.length:=h.1.length_eq
theorem Seg.lt{a b:Nat}{l l':List (List FC)}(h:Seg a b l l'){i:Nat}(hi:i<a):l'[i]?=l[i]?:=by
 have:=congrArg (·[i]?) h.2.1
 simpa [bR,hi]using this
theorem Seg.ge{a b:Nat}{l l':List (List FC)}(h:Seg a b l l'){i:Nat}(hi:b≤i):l'[i]?=l[i]?:=by
 have:=congrArg (·[i-b]?) h.2.2
 simpa [bh,show b+(i-b)=i by omega]using this
theorem Seg.mono{a b a' b':Nat}{l l':List (List FC)}(h:Seg a b l l')(ha:a'≤a)(hb:b≤b'):Seg a' b' l l':=by
 refine⟨h.1,?_,?_⟩
 ·have:=congrArg (·.take a') h.2.1
  simpa [List.take_take,Nat.min_eq_left ha]using this
 ·have:=congrArg (·.drop (b'-b)) h.2.2
  simpa [List.drop_drop,show b+(b'-b)=b' by omega]using this
theorem Gh(l:List (List FC))(i j:Nat):(swp l i j).length=l.length:=by simp [swp]
theorem swp_get{l:List (List FC)}{i j:Nat}(hi:i<l.length)(hj:j<l.length)(k:Nat):(swp l i j)[k]?=if k=j then l[i]? else if k=i then l[j]? else l[k]?:=by
 have e1:l.getD i []=l[i]:=by simp [List.getD,ae hi]
 have e2:l.getD j []=l[j]:=by simp [List.getD,ae hj]
 simp only [swp,e1,e2,List.getElem?_set]
 by_cases h1:j=k
 ·subst h1;simp [ae hi,hj]
 ·by_cases h2:i=k
  ·subst h2;simp [h1,Ne.symm h1,ae hj,hi]
  ·simp [h1,h2,Ne.symm h1,Ne.symm h2]
theorem iL{a b:Nat}{l:List (List FC)}{i j:Nat}(hi:a≤i)(hib:i<b)(hj:a≤j)(hjb:j<b)(hb:b≤l.length):Seg a b l (swp l i j):=by
 have hil:i<l.length:=by omega
 have hjl:j<l.length:=by omega
 refine⟨?_,?_,?_⟩
 ·have e1:l.getD i []=l[i]:=by simp [List.getD,ae hil]
  have e2:l.getD j []=l[j]:=by simp [List.getD,ae hjl]
  simp only [swp,e1,e2]
  exact List.set_set_perm hil hjl
 ·apply List.ext_getElem?
  intro k
  simp only [bR]
  split
  ·rw [swp_get hil hjl,if_neg (by omega),if_neg (by omega)]
  ·rfl
 ·apply List.ext_getElem?
  intro k
  simp only [bh]
  rw [swp_get hil hjl,if_neg (by omega),if_neg (by omega)]
section
variable{H:Heap}{b sz ep:Nat}{rows:List (List FC)}
theorem RB.swap(h:RB H b sz ep rows)(hg:Grid sz rows){i j:Nat}(hi:i<rows.length)(hj:j<rows.length) :
  ∃ H1 H2,stC H (.ptr b (i*sz) ep) (rows[j].map .f)=some H1∧RB H1 b sz ep (rows.set i rows[j])∧stC H1 (.ptr b (j*sz) ep) (rows[i].map .f)=some H2∧RB H2 b sz ep (swp rows i j)∧Fm b H H2:=by
 have gi:rows[i].length=sz:=hg _ (av hi)
 have gj:rows[j].length=sz:=hg _ (av hj)
 obtain⟨H1,s1,r1,f1,-⟩:=h.str hg hi gj
 have hg1:Grid sz (rows.set i rows[j]):=fun r hr=>by
  rcases List.mem_or_eq_of_mem_set hr with h | rfl
  ·exact hg r h
  ·exact gj
 obtain⟨H2,s2,r2,f2,-⟩:=r1.str hg1 (j:=j) (by simpa using hj) gi
 refine⟨H1,H2,s1,r1,s2,?_,f1.trans f2⟩
 have e1:rows.getD i []=rows[i]:=by simp [List.getD,ae hi]
 have e2:rows.getD j []=rows[j]:=by simp [List.getD,ae hj]
 simp only [swp,e1,e2]
 exact r2
theorem Seg.grid{a b:Nat}{l l':List (List FC)}(h:Seg a b l l')(hg:Grid sz l):Grid sz l':=fun r hr=>hg r (h.1.mem_iff.1 hr)
end
structure Cmp(W:List FC→Prop)(c:List FC→List FC→Int):Prop where
 asym:∀ {x y},W x→W y→c x y<0→¬ c y x<0
 trans:∀ {x y z},W x→W y→W z→¬ c y x<0→¬ c z y<0→¬ c z x<0
def Up(c:List FC→List FC→Int)(a b:Nat)(l:List (List FC)):Prop:=∀ i j x y,a≤i→i<j→j<b→l[i]?=some x→l[j]?=some y→¬ c y x<0
end Km
end
section
namespace Km
open Go
theorem EO{l:List (List FC)}{a m b:Nat}(h1:a≤m)(h2:m≤b)(h3:b≤l.length):∃ X U V Y,l=X++(U++(V++Y))∧X.length=a∧U.length=m-a∧V.length=b-m:=by
 refine⟨l.take a,(l.drop a).take (m-a),(l.drop m).take (b-m),l.drop b,?_,by simp;omega,by simp;omega,by simp;omega⟩
 have e2:(l.drop m).take (b-m)++l.drop b=l.drop m:=by
  have:=cY (b-m) (l.drop m)
  rwa [List.drop_drop,show m+(b-m)=b by omega]at this
 have e1:(l.drop a).take (m-a)++l.drop m=l.drop a:=by
  have:=cY (m-a) (l.drop a)
  rwa [List.drop_drop,show a+(m-a)=m by omega]at this
 rw [e2,e1,cY]
theorem Seg.mem{a b:Nat}{l l':List (List FC)}(h:Seg a b l l')(hab:a≤b)(hb:b≤l.length){i:Nat}{x:List FC}(h1:a≤i)(h2:i<b)(hx:l'[i]?=some x):∃ j,a≤j∧j<b∧l[j]?=some x:=by
 obtain⟨X,U,V,Y,e,lX,lU,lV⟩:=EO (aw a) hab hb
 have hl:=h.len
 obtain⟨X',U',V',Y',e',lX',lU',lV'⟩:=EO (l:=l') (aw a) hab (by omega)
 obtain rfl:U=[]:=cn.1 (by omega)
 obtain rfl:U'=[]:=cn.1 (by omega)
 obtain⟨hp,ht,hd⟩:=h
 subst e;subst e'
 have eX:X'=X:=by
  simpa [cw (show a≤X.length by omega),cw (show a≤X'.length by omega),bA (show X.length≤a by omega),bA (show X'.length≤a by omega)]using ht
 have eY:Y'=Y:=by
  have q:∀ {A B C:List (List FC)},A.length=a→B.length=b-a→(A++([]++(B++C))).drop b=C:=by
   intro A B C hA hB
   rw [cV,←c6,List.drop_append_of_le_length (by simp;omega),List.drop_of_length_le (by simp;omega),cV]
  rwa [q lX' lV',q lX lV]at hd
 subst eX;subst eY
 have hp:V'.Perm V:=by
  have:=(List.perm_append_left_iff X').1 hp
  simp only [cV]at this
  exact(List.perm_append_right_iff Y').1 this
 rw [cV,bB (by omega),ai (by omega)]at hx
 obtain⟨j,hj⟩:=cE (hp.mem_iff.1 (aD hx))
 have hjl:=(al.1 hj).1
 refine⟨a+j,by omega,by omega,?_⟩
 rw [cV,bB (by omega),ai (by omega)]
 rw [←hj];congr 1;omega
section
variable{W:List FC→Prop}{c:List FC→List FC→Int}
theorem Up.mono{a b a' b':Nat}{l:List (List FC)}(h:Up c a b l)(ha:a≤a')(hb:b'≤b):Up c a' b' l:=
 fun i j x y h1 h2 h3 hx hy=>h i j x y (by omega) h2 (by omega) hx hy
theorem Up.one{a b:Nat}{l:List (List FC)}(h:b≤a+1):Up c a b l:=fun i j x y h1 h2 h3=>by omega
theorem Up.of{a b:Nat}{l l':List (List FC)}(h:Up c a b l)(he:∀ k,a≤k→k<b→l'[k]?=l[k]?):Up c a b l':=fun i j x y h1 h2 h3 hx hy=>
 h i j x y h1 h2 h3 (by rw [←he i h1 (by omega)];exact hx) (by rw [←he j (by omega) h3];exact hy)
def LeI(c:List FC→List FC→Int)(l:List (List FC))(i j:Nat):Prop:=∀ x y,l[i]?=some x→l[j]?=some y→¬ c y x<0
theorem LeI.trans{l:List (List FC)}{i j k:Nat}(hc:Cmp W c)(hW:∀ r ∈ l,W r)(h:LeI c l i j)(h':LeI c l j k)(hj:j<l.length):LeI c l i k:=fun x y hx hy=>by
 have hz:=ae hj
 exact hc.trans (hW _ (aD hx)) (hW _ (av hj)) (hW _ (aD hy)) (h _ _ hx hz) (h' _ _ hz hy)
end
end Km
end
section
namespace Km
open Go
def cO:C→Option Nat
 | .sl b _ _ _ _ _=>some b
 | _=>none
def LR(H:Heap)(c:C)(sz:Nat)(rows:List (List FC)):Prop:=(rows=[]∧(c=.f .aA∨c=.f .es))∨(rows≠[]∧∃ b ep,c=.sl b 0 rows.length 0 ep sz∧RB H b sz ep rows)
def Kb(H H':Heap)(c:C):Prop:=H.length≤H'.length∧∀(i:Nat) y,H[i]?=some y→cO c≠some i→H'[i]?=some y
section
variable{H H':Heap}{c:C}{sz:Nat}{rows:List (List FC)}
theorem LR.nil(H:Heap)(sz:Nat):LR H (.f .aA) sz []:=.inl ⟨rfl,.inl rfl⟩
theorem LR.keep(h:LR H c sz rows)(hk:∀ i y,H[i]?=some y→cO c=some i→H'[i]?=some y):LR H' c sz rows:=by
 rcases h with h | ⟨h,b,ep,rfl,h2⟩
 ·exact .inl h
 ·exact .inr ⟨h,b,ep,rfl,hk b _ h2 rfl⟩
theorem LR.push(h:LR H c sz rows)(J:Heap):LR (H++J) c sz rows:=h.keep fun i y hy _=>by rw [ai (aF hy)];exact hy
theorem LR.lt(h:LR H c sz rows){i:Nat}(hi:cO c=some i):i<H.length:=by
 rcases h with⟨_,rfl | rfl⟩ | ⟨h,b,ep,rfl,h2⟩
 ·cases hi
 ·cases hi
 ·cases hi;exact h2.lt
theorem LR.dK(h:LR H c sz rows){i:Nat}{cs:List C}{fl:Nat}(hx:H[i]?=some (.box cs fl)):cO c≠some i:=by
 rcases h with⟨_,rfl | rfl⟩ | ⟨h,b,ep,rfl,h2⟩
 ·simp [cO]
 ·simp [cO]
 ·intro e
  cases e
  unfold RB at h2
  rw [h2]at hx;cases hx
theorem LR.set(h:LR H c sz rows){i:Nat}(hi:cO c≠some i)(x:Blk):LR (H.set i x) c sz rows:=h.keep fun j y hy hj=>by
 have:i≠j:=by rintro rfl;exact hi hj
 rw [ag this];exact hy
theorem LR.len(h:LR H c sz rows):bM H c=some rows.length:=by
 rcases h with⟨rfl,rfl | rfl⟩ | ⟨h,b,ep,rfl,h2⟩
 ·rfl
 ·rfl
 ·exact h2.len
theorem LR.ex(h:LR H c sz rows)(hg:Grid sz rows)(n:Nat):∃ g,exC (n+1) H c=some (sl g rows):=by
 rcases h with⟨rfl,rfl | rfl⟩ | ⟨h,b,ep,rfl,h2⟩
 ·exact⟨.nil,rfl⟩
 ·exact⟨.es,rfl⟩
 ·refine⟨.fs,?_⟩
  have hl:rows.length*sz=rows.flatten.length:=(dM hg).symm
  unfold RB at h2
  simp only [zJ,h2]
  rw [if_pos ⟨trivial,trivial,by rw [a9,cH,hl];exact aw _⟩,List.drop_zero,bA (by rw [a9];omega),vM]
  cases rows with
  | nil=>exact absurd rfl h
  | cons x l=>simp [sl]
theorem aiX{g g':Tg}{rows:List (List FC)}(h:rows≠[]):sl g rows=sl g' rows:=by
 cases rows with
 | nil=>exact absurd rfl h
 | cons x l=>rfl
theorem LR.exU(h:LR H c sz rows)(hg:Grid sz rows):∃ g,∀(H':Heap) (n:Nat),(∀ i y,H[i]?=some y→cO c=some i→H'[i]?=some y)→exC (n+1) H' c=some (sl g rows):=by
 by_cases hr:rows=[]
 ·rcases h with⟨rfl,rfl | rfl⟩ | ⟨h,_⟩
  ·exact⟨.nil,fun _ _ _=>rfl⟩
  ·exact⟨.es,fun _ _ _=>rfl⟩
  ·exact absurd hr h
 ·refine⟨.fs,fun H' n hk=>?_⟩
  obtain⟨g,e⟩:=(h.keep hk).ex hg n
  rw [e,aiX hr]
theorem LR.app(h:LR H c sz rows)(hg:Grid sz rows)(hsz:sz≠0){row:List FC}(hr:row.length=sz){bytes:Nat}(hroom:bV (rows.length+1) bytes=true){b1 fl1:Nat}(hb1:H[b1]?=some (.box (row.map .f) fl1)) :
  ∃ c' H',bP H sz bytes (.c c) (.c (.sl b1 0 1 1 0 sz))=some (.c c',H')∧LR H' c' sz (rows++[row])∧Kb H H' c∧(cO c'=cO c∨cO c'=some H.length):=by
 have hadd:fE H sz (.c (.sl b1 0 1 1 0 sz))=some (1,row.map .f):=yS hb1 (by simp [hr])
 rcases h with⟨rfl,he⟩ | ⟨hne,b,ep,rfl,h2⟩
 ·have hroom:bV 1 bytes=true:=by simpa using hroom
  refine⟨.sl H.length 0 1 0 0 sz,H++[.opn sz (row.map .f) 0 0 .loc],?_,.inr ⟨by simp,H.length,0,rfl,?_⟩,⟨by simp,fun i y hy _=>by rw [ai (aF hy)];exact hy⟩,.inr rfl⟩
  ·rcases he with rfl | rfl<;>simp [bP,hadd,hroom,hsz]
  ·simp [RB]
 ·have hlen:rows.length*sz=rows.flatten.length:=(dM hg).symm
  unfold RB at h2
  refine⟨.sl b 0 (rows.length+1) 0 (ep+1) sz,H.set b (.opn sz (rows.flatten.map .f++row.map .f) 0 (ep+1) .loc),?_,.inr ⟨by simp,b,ep+1,by simp,?_⟩,⟨by simp,fun i y hy hn=>?_⟩,.inl rfl⟩
  ·simp only [bP,hadd,hsz,if_false,h2,and_self,if_true]
   simp only [Nat.add_one_ne_zero,if_false]
   rw [if_pos ⟨trivial,by rw [a9];exact hlen,by simp⟩,hroom]
   simp
  ·unfold RB
   rw [ax (aF h2)]
   simp
  ·have:b≠i:=by rintro rfl;exact hn rfl
   rw [ag this];exact hy
theorem Kb.refl(H:Heap)(c:C):Kb H H c:=⟨aw _,fun _ _ h _=>h⟩
theorem Kb.push(H J:Heap)(c:C):Kb H (H++J) c:=⟨by simp,fun i y hy _=>by rw [ai (aF hy)];exact hy⟩
end
end Km
end
section
namespace Km
open Go
section
variable{H:Heap}{b sz ep j k n:Nat}{rows:List (List FC)}{row:List FC}
theorem RB.ldc{x:FC}(h:RB H b sz ep rows)(hg:Grid sz rows)(hj:rows[j]?=some row)(hk:row[k]?=some x):ldV H none (.c (.ptr b (j*sz+k) ep))=some (.c (.f x)):=by
 unfold RB at h
 have hlen:row.length=sz:=hg row (aD hj)
 have hkl:=(al.1 hk).1
 have:=flat_get hg hj (by omega:k<sz)
 simp only [aH,h,if_true]
 rw [List.map_drop.symm]
 have e:(rows.flatten.drop (j*sz+k))[0]?=some x:=by rw [bh,Nat.add_zero,this,hk]
 cases hd:rows.flatten.drop (j*sz+k)with
 | nil=>rw [hd]at e;simp at e
 | cons y ys=>rw [hd]at e;simp at e;simp [aS,e]
end
section
variable{tab:Nat→Option AFunc}{F sz bytes:Nat}{zs:List FC}{H:Heap}{g:Tg}{rows:List (List FC)}
end
end Km
end
section
namespace Km
open Go
theorem Ls{H:Heap}{sz:Nat}{g:Tg}{rows:List (List FC)}(hg:Grid sz rows):fE H sz (.c (.f (sl g rows)))=some (rows.length,rows.flatten.map .f):=by
 have h1:=akW (H:=H) (g:=g) hg
 have h2:=akh (H:=H) g rows
 have e:∀ s,sl g rows≠.str s:=fun s=>by cases rows<;>cases g<;>simp [sl,Tg.fc]
 generalize sl g rows=x at *
 cases x<;>simp only [fE,h1,h2]
 exact absurd rfl (e _)
theorem LR.aTE{H:Heap}{c:C}{sz:Nat}{rows rows':List (List FC)}(h:LR H c sz rows)(hg:Grid sz rows)(hsz:sz≠0)(hg':Grid sz rows'){bytes:Nat}(hroom:bV (rows.length+rows'.length) bytes=true)(g:Tg) :
  ∃ c' H',bP H sz bytes (.c c) (.c (.f (sl g rows')))=some (.c c',H')∧LR H' c' sz (rows++rows')∧Kb H H' c∧(cO c'=cO c∨cO c'=some H.length):=by
 by_cases h0:rows'=[]
 ·subst h0
  refine⟨c,H,?_,by simpa using h,Kb.refl H c,.inl rfl⟩
  have ha:=Ls (H:=H) (g:=g) hg'
  rcases h with⟨rfl,rfl | rfl⟩ | ⟨hne,b,ep,rfl,h2⟩
  ·simp only [bP,ha,hsz,if_false];simp
  ·simp only [bP,ha,hsz,if_false];simp
  ·unfold RB at h2
   simp only [bP,ha,hsz,if_false,h2,and_self,if_true,List.length_nil]
 have hm:rows'.length≠0:=fun e=>h0 (cn.1 e)
 have hadd:=Ls (H:=H) (g:=g) hg'
 have hl':=dM hg'
 rcases h with⟨rfl,he⟩ | ⟨hne,b,ep,rfl,h2⟩
 ·have hroom:bV rows'.length bytes=true:=by simpa using hroom
  refine⟨.sl H.length 0 rows'.length 0 0 sz,H++[.opn sz (rows'.flatten.map .f) 0 0 .loc],?_,.inr ⟨by simpa using h0,H.length,0,by simp,?_⟩,Kb.push H _ c,.inr rfl⟩
  ·rcases he with rfl | rfl<;>simp [bP,hadd,hroom,hsz,hm]
  ·simp [RB]
 ·have hlen:rows.length*sz=rows.flatten.length:=(dM hg).symm
  unfold RB at h2
  refine⟨.sl b 0 (rows.length+rows'.length) 0 (ep+1) sz,H.set b (.opn sz (rows.flatten.map .f++rows'.flatten.map .f) 0 (ep+1) .loc),?_,.inr ⟨by simp [hne],b,ep+1,by simp,?_⟩,⟨by simp,fun i y hy hn=>?_⟩,.inl rfl⟩
  ·simp only [bP,hadd,hsz,if_false,h2,and_self,if_true,hm]
   rw [if_pos ⟨trivial,by rw [a9];exact hlen,by simp⟩,hroom]
   simp
  ·unfold RB
   rw [ax (aF h2)]
   simp
  ·have:b≠i:=by rintro rfl;exact hn rfl
   rw [ag this];exact hy
end Km
end
section
set_option linter.unusedVariables false
namespace Km
open Go
structure Srt where
 pdq:Nat
 ins:Nat
 heap:Nat
 sift:Nat
 brk:Nat
 piv:Nat
 rev:Nat
 part:Nat
 peq:Nat
 pins:Nat
 BM:Nat
 med:Nat
 ord:Nat
 npt:Nat
 nxt:Nat
 len:Nat
 aLP:Nat
 aLQ:Nat
 rot:Nat
 swr:Nat
def aMM(σ:Srt)(sz:Nat):ah:=.region [⟨D 10,.mov (.k (.c (.f (.bool true)))),none⟩] []
def aMK(σ:Srt)(sz:Nat):ah:=.region [⟨D 11,.mov (.k (.c (.f (.bool true)))),none⟩] []
def aMG(σ:Srt)(sz:Nat):ah:=.region [⟨D 21,.mov (R 2),none⟩,⟨D 22,.mov (R 1),none⟩,⟨D 23,.bin .sub (R 21) (R 22),none⟩,⟨D 12,.mov (R 23),none⟩] []
def aHD(σ:Srt)(sz:Nat):ah:=.region [⟨D 24,.mov (R 12),none⟩,⟨D 25,.bin .leq (R 24) (.k (.c (.f (.int .i64 12)))),none⟩] []
def aHA(σ:Srt)(sz:Nat):ah:=.region [⟨D 26,.mov (R 0),none⟩,⟨D 27,.mov (R 1),none⟩,⟨D 28,.mov (R 2),none⟩,⟨D 29,.mov (R 4),none⟩,⟨D 30,.call σ.ins [(R 26),(R 27),(R 28),(R 29)] true,none⟩] []
def aHB(σ:Srt)(sz:Nat):ah:=.seq (aHA σ sz) .ret
def aHC(σ:Srt)(sz:Nat):ah:=.cond (R 25) (aHB σ sz) .skip
def aHE(σ:Srt)(sz:Nat):ah:=.seq (aHD σ sz) (aHC σ sz)
def aHx(σ:Srt)(sz:Nat):ah:=.region [⟨D 31,.mov (R 3),none⟩,⟨D 32,.bin .eql (R 31) (.k (.c (.f (.int .i64 0)))),none⟩] []
def aHu(σ:Srt)(sz:Nat):ah:=.region [⟨D 33,.mov (R 0),none⟩,⟨D 34,.mov (R 1),none⟩,⟨D 35,.mov (R 2),none⟩,⟨D 36,.mov (R 4),none⟩,⟨D 37,.call σ.heap [(R 33),(R 34),(R 35),(R 36)] true,none⟩] []
def aHv(σ:Srt)(sz:Nat):ah:=.seq (aHu σ sz) .ret
def aHw(σ:Srt)(sz:Nat):ah:=.cond (R 32) (aHv σ sz) .skip
def aHy(σ:Srt)(sz:Nat):ah:=.seq (aHx σ sz) (aHw σ sz)
def aHr(σ:Srt)(sz:Nat):ah:=.region [⟨D 38,.mov (R 10),none⟩,⟨D 39,.un .not (R 38),none⟩] []
def aHo(σ:Srt)(sz:Nat):ah:=.region [⟨D 40,.mov (R 0),none⟩,⟨D 41,.mov (R 1),none⟩,⟨D 42,.mov (R 2),none⟩,⟨D 43,.mov (R 4),none⟩,⟨D 44,.call σ.brk [(R 40),(R 41),(R 42),(R 43)] true,none⟩] []
def aHn(σ:Srt)(sz:Nat):ah:=.region [⟨D 45,.mov (R 3),none⟩,⟨D 46,.bin .sub (R 45) (.k (.c (.f (.int .i64 1)))),none⟩,⟨D 3,.mov (R 46),none⟩] []
def aHp(σ:Srt)(sz:Nat):ah:=.seq (aHo σ sz) (aHn σ sz)
def aHq(σ:Srt)(sz:Nat):ah:=.cond (R 39) (aHp σ sz) .skip
def aHs(σ:Srt)(sz:Nat):ah:=.seq (aHr σ sz) (aHq σ sz)
def aHm(σ:Srt)(sz:Nat):ah:=.region [⟨D 48,.mov (R 0),none⟩,⟨D 49,.mov (R 1),none⟩,⟨D 50,.mov (R 2),none⟩,⟨D 51,.mov (R 4),none⟩,⟨D 52,.call σ.piv [(R 48),(R 49),(R 50),(R 51)] true,none⟩,⟨D 47,.mov (R 52),none⟩,⟨D 53,.extract (R 47) 0,none⟩,⟨D 54,.extract (R 47) 1,none⟩,⟨D 13,.mov (R 53),none⟩,⟨D 14,.mov (R 54),none⟩] []
def aHj(σ:Srt)(sz:Nat):ah:=.region [⟨D 55,.mov (R 14),none⟩,⟨D 56,.bin .eql (R 55) (.k (.c (.f (.int .i64 2)))),none⟩] []
def aHg(σ:Srt)(sz:Nat):ah:=.region [⟨D 57,.mov (R 0),none⟩,⟨D 58,.mov (R 1),none⟩,⟨D 59,.mov (R 2),none⟩,⟨D 60,.mov (R 4),none⟩,⟨D 61,.call σ.rev [(R 57),(R 58),(R 59),(R 60)] true,none⟩] []
def aHe(σ:Srt)(sz:Nat):ah:=.region [⟨D 62,.mov (R 2),none⟩,⟨D 63,.bin .sub (R 62) (.k (.c (.f (.int .i64 1)))),none⟩,⟨D 64,.mov (R 13),none⟩,⟨D 65,.mov (R 1),none⟩,⟨D 66,.bin .sub (R 64) (R 65),none⟩,⟨D 67,.bin .sub (R 63) (R 66),none⟩,⟨D 13,.mov (R 67),none⟩] []
def aHd(σ:Srt)(sz:Nat):ah:=.region [⟨D 14,.mov (.k (.c (.f (.int .i64 1)))),none⟩] []
def aHf(σ:Srt)(sz:Nat):ah:=.seq (aHe σ sz) (aHd σ sz)
def aHh(σ:Srt)(sz:Nat):ah:=.seq (aHg σ sz) (aHf σ sz)
def aHi(σ:Srt)(sz:Nat):ah:=.cond (R 56) (aHh σ sz) .skip
def aHk(σ:Srt)(sz:Nat):ah:=.seq (aHj σ sz) (aHi σ sz)
def aHb(σ:Srt)(sz:Nat):ah:=.region [⟨D 68,.mov (R 10),none⟩,⟨D 69,.mov (R 68),none⟩,⟨D 70,.mov (R 11),G 69 true⟩,⟨D 71,.pick (R 69) (R 70) (.k (.c (.f (.bool false)))),none⟩,⟨D 72,.mov (R 71),none⟩,⟨D 73,.mov (R 14),G 72 true⟩,⟨D 74,.bin .eql (R 73) (.k (.c (.f (.int .i64 1)))),G 72 true⟩,⟨D 75,.pick (R 72) (R 74) (.k (.c (.f (.bool false)))),none⟩] []
def aG8(σ:Srt)(sz:Nat):ah:=.region [⟨D 76,.mov (R 0),none⟩,⟨D 77,.mov (R 1),none⟩,⟨D 78,.mov (R 2),none⟩,⟨D 79,.mov (R 4),none⟩,⟨D 80,.call σ.pins [(R 76),(R 77),(R 78),(R 79)] true,none⟩] []
def aG7(σ:Srt)(sz:Nat):ah:=.cond (R 80) .ret .skip
def aG9(σ:Srt)(sz:Nat):ah:=.seq (aG8 σ sz) (aG7 σ sz)
def aHa(σ:Srt)(sz:Nat):ah:=.cond (R 75) (aG9 σ sz) .skip
def aHc(σ:Srt)(sz:Nat):ah:=.seq (aHb σ sz) (aHa σ sz)
def aG5(σ:Srt)(sz:Nat):ah:=.region [⟨D 81,.mov (R 1),none⟩,⟨D 82,.bin .gtr (R 81) (.k (.c (.f (.int .i64 0)))),none⟩,⟨D 83,.mov (R 82),none⟩,⟨D 84,.mov (R 4),G 83 true⟩,⟨D 85,.mov (R 0),G 83 true⟩,⟨D 86,.mov (R 1),G 83 true⟩,⟨D 87,.bin .sub (R 86) (.k (.c (.f (.int .i64 1)))),G 83 true⟩,⟨D 88,.aC sz none (R 85) (R 87),G 83 true⟩,⟨D 89,.load (some sz) (R 88),G 83 true⟩,⟨D 90,.mov (R 0),G 83 true⟩,⟨D 91,.mov (R 13),G 83 true⟩,⟨D 92,.aC sz none (R 90) (R 91),G 83 true⟩,⟨D 93,.load (some sz) (R 92),G 83 true⟩,⟨D 94,.bQ (R 84) [(R 89),(R 93)] true,G 83 true⟩,⟨D 95,.bin .lss (R 94) (.k (.c (.f (.int .i64 0)))),G 83 true⟩,⟨D 96,.un .not (R 95),G 83 true⟩,⟨D 97,.pick (R 83) (R 96) (.k (.c (.f (.bool false)))),none⟩] []
def aG2(σ:Srt)(sz:Nat):ah:=.region [⟨D 98,.mov (R 0),none⟩,⟨D 99,.mov (R 1),none⟩,⟨D 100,.mov (R 2),none⟩,⟨D 101,.mov (R 13),none⟩,⟨D 102,.mov (R 4),none⟩,⟨D 103,.call σ.peq [(R 98),(R 99),(R 100),(R 101),(R 102)] true,none⟩,⟨D 15,.mov (R 103),none⟩] []
def aG0(σ:Srt)(sz:Nat):ah:=.region [⟨D 104,.mov (R 15),none⟩,⟨D 1,.mov (R 104),none⟩] []
def aG1(σ:Srt)(sz:Nat):ah:=.seq (aG0 σ sz) (.exit 1)
def aG3(σ:Srt)(sz:Nat):ah:=.seq (aG2 σ sz) (aG1 σ sz)
def aG4(σ:Srt)(sz:Nat):ah:=.cond (R 97) (aG3 σ sz) .skip
def aG6(σ:Srt)(sz:Nat):ah:=.seq (aG5 σ sz) (aG4 σ sz)
def aGZ(σ:Srt)(sz:Nat):ah:=.region [⟨D 106,.mov (R 0),none⟩,⟨D 107,.mov (R 1),none⟩,⟨D 108,.mov (R 2),none⟩,⟨D 109,.mov (R 13),none⟩,⟨D 110,.mov (R 4),none⟩,⟨D 111,.call σ.part [(R 106),(R 107),(R 108),(R 109),(R 110)] true,none⟩,⟨D 105,.mov (R 111),none⟩,⟨D 112,.extract (R 105) 0,none⟩,⟨D 113,.extract (R 105) 1,none⟩,⟨D 16,.mov (R 112),none⟩,⟨D 17,.mov (R 113),none⟩] []
def aGX(σ:Srt)(sz:Nat):ah:=.region [⟨D 114,.mov (R 17),none⟩,⟨D 11,.mov (R 114),none⟩] []
def aGV(σ:Srt)(sz:Nat):ah:=.region [⟨D 115,.mov (R 16),none⟩,⟨D 116,.mov (R 1),none⟩,⟨D 117,.bin .sub (R 115) (R 116),none⟩,⟨D 118,.mov (R 2),none⟩,⟨D 119,.mov (R 16),none⟩,⟨D 120,.bin .sub (R 118) (R 119),none⟩,⟨D 18,.mov (R 117),none⟩,⟨D 19,.mov (R 120),none⟩] []
def aGT(σ:Srt)(sz:Nat):ah:=.region [⟨D 121,.mov (R 12),none⟩,⟨D 122,.bin .quo (R 121) (.k (.c (.f (.int .i64 8)))),none⟩,⟨D 20,.mov (R 122),none⟩] []
def aGR(σ:Srt)(sz:Nat):ah:=.region [⟨D 123,.mov (R 18),none⟩,⟨D 124,.mov (R 19),none⟩,⟨D 125,.bin .lss (R 123) (R 124),none⟩] []
def aGO(σ:Srt)(sz:Nat):ah:=.region [⟨D 126,.mov (R 18),none⟩,⟨D 127,.mov (R 20),none⟩,⟨D 128,.bin .geq (R 126) (R 127),none⟩,⟨D 10,.mov (R 128),none⟩] []
def aGM(σ:Srt)(sz:Nat):ah:=.region [⟨D 129,.mov (R 0),none⟩,⟨D 130,.mov (R 1),none⟩,⟨D 131,.mov (R 16),none⟩,⟨D 132,.mov (R 3),none⟩,⟨D 133,.mov (R 4),none⟩,⟨D 134,.call σ.pdq [(R 129),(R 130),(R 131),(R 132),(R 133)] true,none⟩] []
def aGL(σ:Srt)(sz:Nat):ah:=.region [⟨D 135,.mov (R 16),none⟩,⟨D 136,.bin .add (R 135) (.k (.c (.f (.int .i64 1)))),none⟩,⟨D 1,.mov (R 136),none⟩] []
def aGN(σ:Srt)(sz:Nat):ah:=.seq (aGM σ sz) (aGL σ sz)
def aGP(σ:Srt)(sz:Nat):ah:=.seq (aGO σ sz) (aGN σ sz)
def aGJ(σ:Srt)(sz:Nat):ah:=.region [⟨D 137,.mov (R 19),none⟩,⟨D 138,.mov (R 20),none⟩,⟨D 139,.bin .geq (R 137) (R 138),none⟩,⟨D 10,.mov (R 139),none⟩] []
def aGH(σ:Srt)(sz:Nat):ah:=.region [⟨D 140,.mov (R 0),none⟩,⟨D 141,.mov (R 16),none⟩,⟨D 142,.bin .add (R 141) (.k (.c (.f (.int .i64 1)))),none⟩,⟨D 143,.mov (R 2),none⟩,⟨D 144,.mov (R 3),none⟩,⟨D 145,.mov (R 4),none⟩,⟨D 146,.call σ.pdq [(R 140),(R 142),(R 143),(R 144),(R 145)] true,none⟩] []
def aGG(σ:Srt)(sz:Nat):ah:=.region [⟨D 147,.mov (R 16),none⟩,⟨D 2,.mov (R 147),none⟩] []
def aGI(σ:Srt)(sz:Nat):ah:=.seq (aGH σ sz) (aGG σ sz)
def aGK(σ:Srt)(sz:Nat):ah:=.seq (aGJ σ sz) (aGI σ sz)
def aGQ(σ:Srt)(sz:Nat):ah:=.cond (R 125) (aGP σ sz) (aGK σ sz)
def aGS(σ:Srt)(sz:Nat):ah:=.seq (aGR σ sz) (aGQ σ sz)
def aGU(σ:Srt)(sz:Nat):ah:=.seq (aGT σ sz) (aGS σ sz)
def aGW(σ:Srt)(sz:Nat):ah:=.seq (aGV σ sz) (aGU σ sz)
def aGY(σ:Srt)(sz:Nat):ah:=.seq (aGX σ sz) (aGW σ sz)
def ajz(σ:Srt)(sz:Nat):ah:=.seq (aGZ σ sz) (aGY σ sz)
def ajA(σ:Srt)(sz:Nat):ah:=.seq (aG6 σ sz) (ajz σ sz)
def ajB(σ:Srt)(sz:Nat):ah:=.seq (aHc σ sz) (ajA σ sz)
def aHl(σ:Srt)(sz:Nat):ah:=.seq (aHk σ sz) (ajB σ sz)
def ajC(σ:Srt)(sz:Nat):ah:=.seq (aHm σ sz) (aHl σ sz)
def aHt(σ:Srt)(sz:Nat):ah:=.seq (aHs σ sz) (ajC σ sz)
def aHz(σ:Srt)(sz:Nat):ah:=.seq (aHy σ sz) (aHt σ sz)
def aMF(σ:Srt)(sz:Nat):ah:=.seq (aHE σ sz) (aHz σ sz)
def aMH(σ:Srt)(sz:Nat):ah:=.seq (aMG σ sz) (aMF σ sz)
def Ef(σ:Srt)(sz:Nat):ah:=.block 1 (aMH σ sz)
def aMI(σ:Srt)(sz:Nat):ah:=.loop (Ef σ sz)
def aMJ(σ:Srt)(sz:Nat):ah:=.block 0 (aMI σ sz)
def aML(σ:Srt)(sz:Nat):ah:=.seq (aMK σ sz) (aMJ σ sz)
def aMN(σ:Srt)(sz:Nat):ah:=.seq (aMM σ sz) (aML σ sz)
def RV(σ:Srt)(sz:Nat):AFunc:=⟨[P.nat 0,P.nat 1,P.nat 2,P.nat 3,P.nat 4],[],(aMN σ sz)⟩
def aN2(σ:Srt)(sz:Nat):ah:=.region [⟨D 10,.mov (R 1),none⟩,⟨D 11,.bin .add (R 10) (.k (.c (.f (.int .i64 1)))),none⟩,⟨D 8,.mov (R 11),none⟩] []
def aNY(σ:Srt)(sz:Nat):ah:=.region [⟨D 12,.mov (R 8),none⟩,⟨D 13,.mov (R 2),none⟩,⟨D 14,.bin .lss (R 12) (R 13),none⟩] []
def aNX(σ:Srt)(sz:Nat):ah:=.cond (R 14) .skip (.exit 0)
def aNZ(σ:Srt)(sz:Nat):ah:=.seq (aNY σ sz) (aNX σ sz)
def aIB(σ:Srt)(sz:Nat):ah:=.region [⟨D 17,.mov (R 8),none⟩,⟨D 9,.mov (R 17),none⟩] []
def aIw(σ:Srt)(sz:Nat):ah:=.region [⟨D 18,.mov (R 9),none⟩,⟨D 19,.mov (R 1),none⟩,⟨D 20,.bin .gtr (R 18) (R 19),none⟩,⟨D 21,.mov (R 20),none⟩,⟨D 22,.mov (R 3),G 21 true⟩,⟨D 23,.mov (R 0),G 21 true⟩,⟨D 24,.mov (R 9),G 21 true⟩,⟨D 25,.aC sz none (R 23) (R 24),G 21 true⟩,⟨D 26,.load (some sz) (R 25),G 21 true⟩,⟨D 27,.mov (R 0),G 21 true⟩,⟨D 28,.mov (R 9),G 21 true⟩,⟨D 29,.bin .sub (R 28) (.k (.c (.f (.int .i64 1)))),G 21 true⟩,⟨D 30,.aC sz none (R 27) (R 29),G 21 true⟩,⟨D 31,.load (some sz) (R 30),G 21 true⟩,⟨D 32,.bQ (R 22) [(R 26),(R 31)] true,G 21 true⟩,⟨D 33,.bin .lss (R 32) (.k (.c (.f (.int .i64 0)))),G 21 true⟩,⟨D 34,.pick (R 21) (R 33) (.k (.c (.f (.bool false)))),none⟩] []
def aIv(σ:Srt)(sz:Nat):ah:=.cond (R 34) .skip (.exit 2)
def aIx(σ:Srt)(sz:Nat):ah:=.seq (aIw σ sz) (aIv σ sz)
def aIs(σ:Srt)(sz:Nat):ah:=.region [⟨D 37,.mov (R 0),none⟩,⟨D 38,.mov (R 9),none⟩,⟨D 39,.mov (R 0),none⟩,⟨D 40,.mov (R 9),none⟩,⟨D 41,.bin .sub (R 40) (.k (.c (.f (.int .i64 1)))),none⟩,⟨D 42,.mov (R 0),none⟩,⟨D 43,.mov (R 9),none⟩,⟨D 44,.bin .sub (R 43) (.k (.c (.f (.int .i64 1)))),none⟩,⟨D 45,.aC sz none (R 42) (R 44),none⟩,⟨D 46,.load (some sz) (R 45),none⟩,⟨D 47,.mov (R 0),none⟩,⟨D 48,.mov (R 9),none⟩,⟨D 49,.aC sz none (R 47) (R 48),none⟩,⟨D 50,.load (some sz) (R 49),none⟩,⟨D 51,.aC sz none (R 37) (R 38),none⟩,⟨none,.store sz (R 51) (R 46),none⟩,⟨D 52,.aC sz none (R 39) (R 41),none⟩,⟨none,.store sz (R 52) (R 50),none⟩] []
def aIt(σ:Srt)(sz:Nat):ah:=.block 3 (aIs σ sz)
def aIr(σ:Srt)(sz:Nat):ah:=.region [⟨D 35,.mov (R 9),none⟩,⟨D 36,.bin .sub (R 35) (.k (.c (.f (.int .i64 1)))),none⟩,⟨D 9,.mov (R 36),none⟩] []
def aIu(σ:Srt)(sz:Nat):ah:=.seq (aIt σ sz) (aIr σ sz)
def aIy(σ:Srt)(sz:Nat):ah:=.seq (aIx σ sz) (aIu σ sz)
def aIz(σ:Srt)(sz:Nat):ah:=.loop (aIy σ sz)
def aIA(σ:Srt)(sz:Nat):ah:=.block 2 (aIz σ sz)
def aIC(σ:Srt)(sz:Nat):ah:=.seq (aIB σ sz) (aIA σ sz)
def aNV(σ:Srt)(sz:Nat):ah:=.block 1 (aIC σ sz)
def Ho(σ:Srt)(sz:Nat):ah:=.region [⟨D 15,.mov (R 8),none⟩,⟨D 16,.bin .add (R 15) (.k (.c (.f (.int .i64 1)))),none⟩,⟨D 8,.mov (R 16),none⟩] []
def aNW(σ:Srt)(sz:Nat):ah:=.seq (aNV σ sz) (Ho σ sz)
def SY(σ:Srt)(sz:Nat):ah:=.seq (aNZ σ sz) (aNW σ sz)
def aN0(σ:Srt)(sz:Nat):ah:=.loop (SY σ sz)
def aN1(σ:Srt)(sz:Nat):ah:=.block 0 (aN0 σ sz)
def aN3(σ:Srt)(sz:Nat):ah:=.seq (aN2 σ sz) (aN1 σ sz)
def EC(σ:Srt)(sz:Nat):AFunc:=⟨[P.nat 0,P.nat 1,P.nat 2,P.nat 3],[],(aN3 σ sz)⟩
def aI1(σ:Srt)(sz:Nat):ah:=.region [⟨D 13,.mov (R 1),none⟩,⟨D 8,.mov (R 13),none⟩] []
def aIZ(σ:Srt)(sz:Nat):ah:=.region [⟨D 9,.mov (.k (.c (.f (.int .i64 0)))),none⟩] []
def aIX(σ:Srt)(sz:Nat):ah:=.region [⟨D 14,.mov (R 2),none⟩,⟨D 15,.mov (R 1),none⟩,⟨D 16,.bin .sub (R 14) (R 15),none⟩,⟨D 10,.mov (R 16),none⟩] []
def aIU(σ:Srt)(sz:Nat):ah:=.region [⟨D 17,.mov (R 10),none⟩,⟨D 18,.bin .sub (R 17) (.k (.c (.f (.int .i64 1)))),none⟩,⟨D 19,.bin .quo (R 18) (.k (.c (.f (.int .i64 2)))),none⟩,⟨D 11,.mov (R 19),none⟩] []
def aAk(σ:Srt)(sz:Nat):ah:=.region [⟨D 20,.mov (R 11),none⟩,⟨D 21,.bin .geq (R 20) (.k (.c (.f (.int .i64 0)))),none⟩] []
def aAj(σ:Srt)(sz:Nat):ah:=.cond (R 21) .skip (.exit 0)
def aAl(σ:Srt)(sz:Nat):ah:=.seq (aAk σ sz) (aAj σ sz)
def aAg(σ:Srt)(sz:Nat):ah:=.region [⟨D 24,.mov (R 0),none⟩,⟨D 25,.mov (R 11),none⟩,⟨D 26,.mov (R 10),none⟩,⟨D 27,.mov (R 8),none⟩,⟨D 28,.mov (R 3),none⟩,⟨D 29,.call σ.sift [(R 24),(R 25),(R 26),(R 27),(R 28)] true,none⟩] []
def aAh(σ:Srt)(sz:Nat):ah:=.block 1 (aAg σ sz)
def aAf(σ:Srt)(sz:Nat):ah:=.region [⟨D 22,.mov (R 11),none⟩,⟨D 23,.bin .sub (R 22) (.k (.c (.f (.int .i64 1)))),none⟩,⟨D 11,.mov (R 23),none⟩] []
def aAi(σ:Srt)(sz:Nat):ah:=.seq (aAh σ sz) (aAf σ sz)
def aAm(σ:Srt)(sz:Nat):ah:=.seq (aAl σ sz) (aAi σ sz)
def aAn(σ:Srt)(sz:Nat):ah:=.loop (aAm σ sz)
def aIT(σ:Srt)(sz:Nat):ah:=.block 0 (aAn σ sz)
def aIV(σ:Srt)(sz:Nat):ah:=.seq (aIU σ sz) (aIT σ sz)
def aAe(σ:Srt)(sz:Nat):ah:=.region [⟨D 30,.mov (R 10),none⟩,⟨D 31,.bin .sub (R 30) (.k (.c (.f (.int .i64 1)))),none⟩,⟨D 12,.mov (R 31),none⟩] []
def az9(σ:Srt)(sz:Nat):ah:=.region [⟨D 32,.mov (R 12),none⟩,⟨D 33,.bin .geq (R 32) (.k (.c (.f (.int .i64 0)))),none⟩] []
def az8(σ:Srt)(sz:Nat):ah:=.cond (R 33) .skip (.exit 2)
def aAa(σ:Srt)(sz:Nat):ah:=.seq (az9 σ sz) (az8 σ sz)
def az4(σ:Srt)(sz:Nat):ah:=.region [⟨D 36,.mov (R 0),none⟩,⟨D 37,.mov (R 8),none⟩,⟨D 38,.mov (R 0),none⟩,⟨D 39,.mov (R 8),none⟩,⟨D 40,.mov (R 12),none⟩,⟨D 41,.bin .add (R 39) (R 40),none⟩,⟨D 42,.mov (R 0),none⟩,⟨D 43,.mov (R 8),none⟩,⟨D 44,.mov (R 12),none⟩,⟨D 45,.bin .add (R 43) (R 44),none⟩,⟨D 46,.aC sz none (R 42) (R 45),none⟩,⟨D 47,.load (some sz) (R 46),none⟩,⟨D 48,.mov (R 0),none⟩,⟨D 49,.mov (R 8),none⟩,⟨D 50,.aC sz none (R 48) (R 49),none⟩,⟨D 51,.load (some sz) (R 50),none⟩,⟨D 52,.aC sz none (R 36) (R 37),none⟩,⟨none,.store sz (R 52) (R 47),none⟩,⟨D 53,.aC sz none (R 38) (R 41),none⟩,⟨none,.store sz (R 53) (R 51),none⟩] []
def az3(σ:Srt)(sz:Nat):ah:=.region [⟨D 54,.mov (R 0),none⟩,⟨D 55,.mov (R 9),none⟩,⟨D 56,.mov (R 12),none⟩,⟨D 57,.mov (R 8),none⟩,⟨D 58,.mov (R 3),none⟩,⟨D 59,.call σ.sift [(R 54),(R 55),(R 56),(R 57),(R 58)] true,none⟩] []
def az5(σ:Srt)(sz:Nat):ah:=.seq (az4 σ sz) (az3 σ sz)
def az6(σ:Srt)(sz:Nat):ah:=.block 3 (az5 σ sz)
def az2(σ:Srt)(sz:Nat):ah:=.region [⟨D 34,.mov (R 12),none⟩,⟨D 35,.bin .sub (R 34) (.k (.c (.f (.int .i64 1)))),none⟩,⟨D 12,.mov (R 35),none⟩] []
def az7(σ:Srt)(sz:Nat):ah:=.seq (az6 σ sz) (az2 σ sz)
def aAb(σ:Srt)(sz:Nat):ah:=.seq (aAa σ sz) (az7 σ sz)
def aAc(σ:Srt)(sz:Nat):ah:=.loop (aAb σ sz)
def aAd(σ:Srt)(sz:Nat):ah:=.block 2 (aAc σ sz)
def Tc(σ:Srt)(sz:Nat):ah:=.seq (aAe σ sz) (aAd σ sz)
def aIW(σ:Srt)(sz:Nat):ah:=.seq (aIV σ sz) (Tc σ sz)
def aIY(σ:Srt)(sz:Nat):ah:=.seq (aIX σ sz) (aIW σ sz)
def aI0(σ:Srt)(sz:Nat):ah:=.seq (aIZ σ sz) (aIY σ sz)
def aI2(σ:Srt)(sz:Nat):ah:=.seq (aI1 σ sz) (aI0 σ sz)
def Hr(σ:Srt)(sz:Nat):AFunc:=⟨[P.nat 0,P.nat 1,P.nat 2,P.nat 3],[],(aI2 σ sz)⟩
def aEH(σ:Srt)(sz:Nat):ah:=.region [⟨D 12,.mov (R 1),none⟩,⟨D 10,.mov (R 12),none⟩] []
def aED(σ:Srt)(sz:Nat):ah:=.region [⟨D 13,.mov (R 10),none⟩,⟨D 14,.bin .mul (.k (.c (.f (.int .i64 2)))) (R 13),none⟩,⟨D 15,.bin .add (R 14) (.k (.c (.f (.int .i64 1)))),none⟩,⟨D 11,.mov (R 15),none⟩] []
def aEA(σ:Srt)(sz:Nat):ah:=.region [⟨D 16,.mov (R 11),none⟩,⟨D 17,.mov (R 2),none⟩,⟨D 18,.bin .geq (R 16) (R 17),none⟩] []
def awH(σ:Srt)(sz:Nat):ah:=.cond (R 18) (.exit 0) .skip
def aEB(σ:Srt)(sz:Nat):ah:=.seq (aEA σ sz) (awH σ sz)
def awE(σ:Srt)(sz:Nat):ah:=.region [⟨D 19,.mov (R 11),none⟩,⟨D 20,.bin .add (R 19) (.k (.c (.f (.int .i64 1)))),none⟩,⟨D 21,.mov (R 2),none⟩,⟨D 22,.bin .lss (R 20) (R 21),none⟩,⟨D 23,.mov (R 22),none⟩,⟨D 24,.mov (R 4),G 23 true⟩,⟨D 25,.mov (R 0),G 23 true⟩,⟨D 26,.mov (R 3),G 23 true⟩,⟨D 27,.mov (R 11),G 23 true⟩,⟨D 28,.bin .add (R 26) (R 27),G 23 true⟩,⟨D 29,.aC sz none (R 25) (R 28),G 23 true⟩,⟨D 30,.load (some sz) (R 29),G 23 true⟩,⟨D 31,.mov (R 0),G 23 true⟩,⟨D 32,.mov (R 3),G 23 true⟩,⟨D 33,.mov (R 11),G 23 true⟩,⟨D 34,.bin .add (R 32) (R 33),G 23 true⟩,⟨D 35,.bin .add (R 34) (.k (.c (.f (.int .i64 1)))),G 23 true⟩,⟨D 36,.aC sz none (R 31) (R 35),G 23 true⟩,⟨D 37,.load (some sz) (R 36),G 23 true⟩,⟨D 38,.bQ (R 24) [(R 30),(R 37)] true,G 23 true⟩,⟨D 39,.bin .lss (R 38) (.k (.c (.f (.int .i64 0)))),G 23 true⟩,⟨D 40,.pick (R 23) (R 39) (.k (.c (.f (.bool false)))),none⟩] []
def awC(σ:Srt)(sz:Nat):ah:=.region [⟨D 41,.mov (R 11),none⟩,⟨D 42,.bin .add (R 41) (.k (.c (.f (.int .i64 1)))),none⟩,⟨D 11,.mov (R 42),none⟩] []
def awD(σ:Srt)(sz:Nat):ah:=.cond (R 40) (awC σ sz) .skip
def awF(σ:Srt)(sz:Nat):ah:=.seq (awE σ sz) (awD σ sz)
def awy(σ:Srt)(sz:Nat):ah:=.region [⟨D 43,.mov (R 4),none⟩,⟨D 44,.mov (R 0),none⟩,⟨D 45,.mov (R 3),none⟩,⟨D 46,.mov (R 10),none⟩,⟨D 47,.bin .add (R 45) (R 46),none⟩,⟨D 48,.aC sz none (R 44) (R 47),none⟩,⟨D 49,.load (some sz) (R 48),none⟩,⟨D 50,.mov (R 0),none⟩,⟨D 51,.mov (R 3),none⟩,⟨D 52,.mov (R 11),none⟩,⟨D 53,.bin .add (R 51) (R 52),none⟩,⟨D 54,.aC sz none (R 50) (R 53),none⟩,⟨D 55,.load (some sz) (R 54),none⟩,⟨D 56,.bQ (R 43) [(R 49),(R 55)] true,none⟩,⟨D 57,.bin .lss (R 56) (.k (.c (.f (.int .i64 0)))),none⟩,⟨D 58,.un .not (R 57),none⟩] []
def awx(σ:Srt)(sz:Nat):ah:=.cond (R 58) .ret .skip
def awz(σ:Srt)(sz:Nat):ah:=.seq (awy σ sz) (awx σ sz)
def awv(σ:Srt)(sz:Nat):ah:=.region [⟨D 59,.mov (R 0),none⟩,⟨D 60,.mov (R 3),none⟩,⟨D 61,.mov (R 10),none⟩,⟨D 62,.bin .add (R 60) (R 61),none⟩,⟨D 63,.mov (R 0),none⟩,⟨D 64,.mov (R 3),none⟩,⟨D 65,.mov (R 11),none⟩,⟨D 66,.bin .add (R 64) (R 65),none⟩,⟨D 67,.mov (R 0),none⟩,⟨D 68,.mov (R 3),none⟩,⟨D 69,.mov (R 11),none⟩,⟨D 70,.bin .add (R 68) (R 69),none⟩,⟨D 71,.aC sz none (R 67) (R 70),none⟩,⟨D 72,.load (some sz) (R 71),none⟩,⟨D 73,.mov (R 0),none⟩,⟨D 74,.mov (R 3),none⟩,⟨D 75,.mov (R 10),none⟩,⟨D 76,.bin .add (R 74) (R 75),none⟩,⟨D 77,.aC sz none (R 73) (R 76),none⟩,⟨D 78,.load (some sz) (R 77),none⟩,⟨D 79,.aC sz none (R 59) (R 62),none⟩,⟨none,.store sz (R 79) (R 72),none⟩,⟨D 80,.aC sz none (R 63) (R 66),none⟩,⟨none,.store sz (R 80) (R 78),none⟩] []
def awu(σ:Srt)(sz:Nat):ah:=.region [⟨D 81,.mov (R 11),none⟩,⟨D 10,.mov (R 81),none⟩] []
def aww(σ:Srt)(sz:Nat):ah:=.seq (awv σ sz) (awu σ sz)
def Rq(σ:Srt)(sz:Nat):ah:=.seq (awz σ sz) (aww σ sz)
def awG(σ:Srt)(sz:Nat):ah:=.seq (awF σ sz) (Rq σ sz)
def aEC(σ:Srt)(sz:Nat):ah:=.seq (aEB σ sz) (awG σ sz)
def aEE(σ:Srt)(sz:Nat):ah:=.seq (aED σ sz) (aEC σ sz)
def aiZ(σ:Srt)(sz:Nat):ah:=.block 1 (aEE σ sz)
def aEF(σ:Srt)(sz:Nat):ah:=.loop (aiZ σ sz)
def aEG(σ:Srt)(sz:Nat):ah:=.block 0 (aEF σ sz)
def aEI(σ:Srt)(sz:Nat):ah:=.seq (aEH σ sz) (aEG σ sz)
def AZ(σ:Srt)(sz:Nat):AFunc:=⟨[P.nat 0,P.nat 1,P.nat 2,P.nat 3,P.nat 4],[],(aEI σ sz)⟩
def aO5(σ:Srt)(sz:Nat):ah:=.region [⟨D 13,.mov (R 2),none⟩,⟨D 14,.mov (R 1),none⟩,⟨D 15,.bin .sub (R 13) (R 14),none⟩,⟨D 8,.mov (R 15),none⟩] []
def aO3(σ:Srt)(sz:Nat):ah:=.region [⟨D 16,.mov (R 8),none⟩,⟨D 17,.bin .geq (R 16) (.k (.c (.f (.int .i64 8)))),none⟩] []
def aO0(σ:Srt)(sz:Nat):ah:=.region [⟨D 18,.mov (R 8),none⟩,⟨D 19,.cvi .u64 (R 18),none⟩,⟨D 9,.alloc [(.int .u64 0)],none⟩,⟨none,.store 1 (R 9) (R 19),none⟩] []
def aOY(σ:Srt)(sz:Nat):ah:=.region [⟨D 20,.mov (R 8),none⟩,⟨D 21,.call σ.npt [(R 20)] false,none⟩,⟨D 10,.mov (R 21),none⟩] []
def aJN(σ:Srt)(sz:Nat):ah:=.region [⟨D 22,.mov (R 1),none⟩,⟨D 23,.mov (R 8),none⟩,⟨D 24,.bin .quo (R 23) (.k (.c (.f (.int .i64 4)))),none⟩,⟨D 25,.bin .mul (R 24) (.k (.c (.f (.int .i64 2)))),none⟩,⟨D 26,.bin .add (R 22) (R 25),none⟩,⟨D 27,.bin .sub (R 26) (.k (.c (.f (.int .i64 1)))),none⟩,⟨D 11,.mov (R 27),none⟩] []
def aJJ(σ:Srt)(sz:Nat):ah:=.region [⟨D 28,.mov (R 11),none⟩,⟨D 29,.mov (R 1),none⟩,⟨D 30,.mov (R 8),none⟩,⟨D 31,.bin .quo (R 30) (.k (.c (.f (.int .i64 4)))),none⟩,⟨D 32,.bin .mul (R 31) (.k (.c (.f (.int .i64 2)))),none⟩,⟨D 33,.bin .add (R 29) (R 32),none⟩,⟨D 34,.bin .add (R 33) (.k (.c (.f (.int .i64 1)))),none⟩,⟨D 35,.bin .leq (R 28) (R 34),none⟩] []
def aJI(σ:Srt)(sz:Nat):ah:=.cond (R 35) .skip (.exit 0)
def aJK(σ:Srt)(sz:Nat):ah:=.seq (aJJ σ sz) (aJI σ sz)
def aJE(σ:Srt)(sz:Nat):ah:=.region [⟨D 38,.call σ.nxt [(R 9)] true,none⟩,⟨D 39,.mov (R 10),none⟩,⟨D 40,.bin .sub (R 39) (.k (.c (.f (.int .u64 1)))),none⟩,⟨D 41,.bin .and (R 38) (R 40),none⟩,⟨D 42,.cvi .i64 (R 41),none⟩,⟨D 12,.mov (R 42),none⟩] []
def aJB(σ:Srt)(sz:Nat):ah:=.region [⟨D 43,.mov (R 12),none⟩,⟨D 44,.mov (R 8),none⟩,⟨D 45,.bin .geq (R 43) (R 44),none⟩] []
def aJz(σ:Srt)(sz:Nat):ah:=.region [⟨D 46,.mov (R 12),none⟩,⟨D 47,.mov (R 8),none⟩,⟨D 48,.bin .sub (R 46) (R 47),none⟩,⟨D 12,.mov (R 48),none⟩] []
def aJA(σ:Srt)(sz:Nat):ah:=.cond (R 45) (aJz σ sz) .skip
def aJC(σ:Srt)(sz:Nat):ah:=.seq (aJB σ sz) (aJA σ sz)
def ak4(σ:Srt)(sz:Nat):ah:=.region [⟨D 49,.mov (R 0),none⟩,⟨D 50,.mov (R 11),none⟩,⟨D 51,.mov (R 0),none⟩,⟨D 52,.mov (R 1),none⟩,⟨D 53,.mov (R 12),none⟩,⟨D 54,.bin .add (R 52) (R 53),none⟩,⟨D 55,.mov (R 0),none⟩,⟨D 56,.mov (R 1),none⟩,⟨D 57,.mov (R 12),none⟩,⟨D 58,.bin .add (R 56) (R 57),none⟩,⟨D 59,.aC sz none (R 55) (R 58),none⟩,⟨D 60,.load (some sz) (R 59),none⟩,⟨D 61,.mov (R 0),none⟩,⟨D 62,.mov (R 11),none⟩,⟨D 63,.aC sz none (R 61) (R 62),none⟩,⟨D 64,.load (some sz) (R 63),none⟩,⟨D 65,.aC sz none (R 49) (R 50),none⟩,⟨none,.store sz (R 65) (R 60),none⟩,⟨D 66,.aC sz none (R 51) (R 54),none⟩,⟨none,.store sz (R 66) (R 64),none⟩] []
def aJD(σ:Srt)(sz:Nat):ah:=.seq (aJC σ sz) (ak4 σ sz)
def aJF(σ:Srt)(sz:Nat):ah:=.seq (aJE σ sz) (aJD σ sz)
def aJG(σ:Srt)(sz:Nat):ah:=.block 1 (aJF σ sz)
def ak3(σ:Srt)(sz:Nat):ah:=.region [⟨D 36,.mov (R 11),none⟩,⟨D 37,.bin .add (R 36) (.k (.c (.f (.int .i64 1)))),none⟩,⟨D 11,.mov (R 37),none⟩] []
def aJH(σ:Srt)(sz:Nat):ah:=.seq (aJG σ sz) (ak3 σ sz)
def ak5(σ:Srt)(sz:Nat):ah:=.seq (aJK σ sz) (aJH σ sz)
def aJL(σ:Srt)(sz:Nat):ah:=.loop (ak5 σ sz)
def aJM(σ:Srt)(sz:Nat):ah:=.block 0 (aJL σ sz)
def aOX(σ:Srt)(sz:Nat):ah:=.seq (aJN σ sz) (aJM σ sz)
def aOZ(σ:Srt)(sz:Nat):ah:=.seq (aOY σ sz) (aOX σ sz)
def aO1(σ:Srt)(sz:Nat):ah:=.seq (aO0 σ sz) (aOZ σ sz)
def aO2(σ:Srt)(sz:Nat):ah:=.cond (R 17) (aO1 σ sz) .skip
def aO4(σ:Srt)(sz:Nat):ah:=.seq (aO3 σ sz) (aO2 σ sz)
def aO6(σ:Srt)(sz:Nat):ah:=.seq (aO5 σ sz) (aO4 σ sz)
def TD(σ:Srt)(sz:Nat):AFunc:=⟨[P.nat 0,P.nat 1,P.nat 2,P.nat 3],[],(aO6 σ sz)⟩
def aMt(σ:Srt)(sz:Nat):ah:=.region [⟨D 8,.mov (.k (.c (.f (.int .i64 0)))),none⟩,⟨D 9,.mov (.k (.c (.f (.int .i64 0)))),none⟩] []
def aMr(σ:Srt)(sz:Nat):ah:=.region [⟨D 15,.mov (R 2),none⟩,⟨D 16,.mov (R 1),none⟩,⟨D 17,.bin .sub (R 15) (R 16),none⟩,⟨D 10,.mov (R 17),none⟩] []
def aMp(σ:Srt)(sz:Nat):ah:=.region [⟨D 11,.alloc [(.int .i64 0)],none⟩] []
def aMn(σ:Srt)(sz:Nat):ah:=.region [⟨D 18,.mov (R 1),none⟩,⟨D 19,.mov (R 10),none⟩,⟨D 20,.bin .quo (R 19) (.k (.c (.f (.int .i64 4)))),none⟩,⟨D 21,.bin .mul (R 20) (.k (.c (.f (.int .i64 1)))),none⟩,⟨D 22,.bin .add (R 18) (R 21),none⟩,⟨D 12,.mov (R 22),none⟩] []
def aMl(σ:Srt)(sz:Nat):ah:=.region [⟨D 23,.mov (R 1),none⟩,⟨D 24,.mov (R 10),none⟩,⟨D 25,.bin .quo (R 24) (.k (.c (.f (.int .i64 4)))),none⟩,⟨D 26,.bin .mul (R 25) (.k (.c (.f (.int .i64 2)))),none⟩,⟨D 27,.bin .add (R 23) (R 26),none⟩,⟨D 13,.mov (R 27),none⟩] []
def aF0(σ:Srt)(sz:Nat):ah:=.region [⟨D 28,.mov (R 1),none⟩,⟨D 29,.mov (R 10),none⟩,⟨D 30,.bin .quo (R 29) (.k (.c (.f (.int .i64 4)))),none⟩,⟨D 31,.bin .mul (R 30) (.k (.c (.f (.int .i64 3)))),none⟩,⟨D 32,.bin .add (R 28) (R 31),none⟩,⟨D 14,.mov (R 32),none⟩] []
def aFX(σ:Srt)(sz:Nat):ah:=.region [⟨D 33,.mov (R 10),none⟩,⟨D 34,.bin .geq (R 33) (.k (.c (.f (.int .i64 8)))),none⟩] []
def aFT(σ:Srt)(sz:Nat):ah:=.region [⟨D 35,.mov (R 10),none⟩,⟨D 36,.bin .geq (R 35) (.k (.c (.f (.int .i64 50)))),none⟩] []
def aFQ(σ:Srt)(sz:Nat):ah:=.region [⟨D 37,.mov (R 0),none⟩,⟨D 38,.mov (R 12),none⟩,⟨D 39,.mov (R 3),none⟩,⟨D 40,.call σ.BM [(R 37),(R 38),(R 11),(R 39)] true,none⟩,⟨D 12,.mov (R 40),none⟩] []
def aFO(σ:Srt)(sz:Nat):ah:=.region [⟨D 41,.mov (R 0),none⟩,⟨D 42,.mov (R 13),none⟩,⟨D 43,.mov (R 3),none⟩,⟨D 44,.call σ.BM [(R 41),(R 42),(R 11),(R 43)] true,none⟩,⟨D 13,.mov (R 44),none⟩] []
def aFN(σ:Srt)(sz:Nat):ah:=.region [⟨D 45,.mov (R 0),none⟩,⟨D 46,.mov (R 14),none⟩,⟨D 47,.mov (R 3),none⟩,⟨D 48,.call σ.BM [(R 45),(R 46),(R 11),(R 47)] true,none⟩,⟨D 14,.mov (R 48),none⟩] []
def aFP(σ:Srt)(sz:Nat):ah:=.seq (aFO σ sz) (aFN σ sz)
def aFR(σ:Srt)(sz:Nat):ah:=.seq (aFQ σ sz) (aFP σ sz)
def aFS(σ:Srt)(sz:Nat):ah:=.cond (R 36) (aFR σ sz) .skip
def aFU(σ:Srt)(sz:Nat):ah:=.seq (aFT σ sz) (aFS σ sz)
def ajt(σ:Srt)(sz:Nat):ah:=.region [⟨D 49,.mov (R 0),none⟩,⟨D 50,.mov (R 12),none⟩,⟨D 51,.mov (R 13),none⟩,⟨D 52,.mov (R 14),none⟩,⟨D 53,.mov (R 3),none⟩,⟨D 54,.call σ.med [(R 49),(R 50),(R 51),(R 52),(R 11),(R 53)] true,none⟩,⟨D 13,.mov (R 54),none⟩] []
def aFV(σ:Srt)(sz:Nat):ah:=.seq (aFU σ sz) (ajt σ sz)
def aFW(σ:Srt)(sz:Nat):ah:=.cond (R 34) (aFV σ sz) .skip
def aFY(σ:Srt)(sz:Nat):ah:=.seq (aFX σ sz) (aFW σ sz)
def aFM(σ:Srt)(sz:Nat):ah:=.region [⟨D 55,.load none (R 11),none⟩] []
def aFJ(σ:Srt)(sz:Nat):ah:=.region [⟨D 58,.bin .eql (R 55) (.k (.c (.f (.int .i64 0)))),none⟩,⟨D 57,.mov (R 58),none⟩] []
def aFG(σ:Srt)(sz:Nat):ah:=.region [⟨D 59,.mov (R 13),none⟩,⟨D 8,.mov (R 59),none⟩,⟨D 9,.mov (.k (.c (.f (.int .i64 1)))),none⟩] []
def aFH(σ:Srt)(sz:Nat):ah:=.seq (aFG σ sz) .ret
def aFE(σ:Srt)(sz:Nat):ah:=.region [⟨D 61,.bin .eql (R 55) (.k (.c (.f (.int .i64 12)))),none⟩,⟨D 60,.mov (R 61),none⟩] []
def aFB(σ:Srt)(sz:Nat):ah:=.region [⟨D 62,.mov (R 13),none⟩,⟨D 8,.mov (R 62),none⟩,⟨D 9,.mov (.k (.c (.f (.int .i64 2)))),none⟩] []
def aFC(σ:Srt)(sz:Nat):ah:=.seq (aFB σ sz) .ret
def aFz(σ:Srt)(sz:Nat):ah:=.region [⟨D 56,.mov (R 13),none⟩,⟨D 8,.mov (R 56),none⟩,⟨D 9,.mov (.k (.c (.f (.int .i64 0)))),none⟩] []
def aFA(σ:Srt)(sz:Nat):ah:=.seq (aFz σ sz) .ret
def aFD(σ:Srt)(sz:Nat):ah:=.cond (R 60) (aFC σ sz) (aFA σ sz)
def aFF(σ:Srt)(sz:Nat):ah:=.seq (aFE σ sz) (aFD σ sz)
def aFI(σ:Srt)(sz:Nat):ah:=.cond (R 57) (aFH σ sz) (aFF σ sz)
def aFK(σ:Srt)(sz:Nat):ah:=.seq (aFJ σ sz) (aFI σ sz)
def aFL(σ:Srt)(sz:Nat):ah:=.block 0 (aFK σ sz)
def MZ(σ:Srt)(sz:Nat):ah:=.seq (aFM σ sz) (aFL σ sz)
def aFZ(σ:Srt)(sz:Nat):ah:=.seq (aFY σ sz) (MZ σ sz)
def aF1(σ:Srt)(sz:Nat):ah:=.seq (aF0 σ sz) (aFZ σ sz)
def aMm(σ:Srt)(sz:Nat):ah:=.seq (aMl σ sz) (aF1 σ sz)
def aMo(σ:Srt)(sz:Nat):ah:=.seq (aMn σ sz) (aMm σ sz)
def aMq(σ:Srt)(sz:Nat):ah:=.seq (aMp σ sz) (aMo σ sz)
def aMs(σ:Srt)(sz:Nat):ah:=.seq (aMr σ sz) (aMq σ sz)
def aMu(σ:Srt)(sz:Nat):ah:=.seq (aMt σ sz) (aMs σ sz)
def RI(σ:Srt)(sz:Nat):AFunc:=⟨[P.nat 0,P.nat 1,P.nat 2,P.nat 3],[.tmp (P.nat 8),.tmp (P.nat 9)],(aMu σ sz)⟩
def aL7(σ:Srt)(sz:Nat):ah:=.region [⟨D 10,.mov (R 1),none⟩,⟨D 8,.mov (R 10),none⟩] []
def aL5(σ:Srt)(sz:Nat):ah:=.region [⟨D 11,.mov (R 2),none⟩,⟨D 12,.bin .sub (R 11) (.k (.c (.f (.int .i64 1)))),none⟩,⟨D 9,.mov (R 12),none⟩] []
def aL0(σ:Srt)(sz:Nat):ah:=.region [⟨D 13,.mov (R 8),none⟩,⟨D 14,.mov (R 9),none⟩,⟨D 15,.bin .lss (R 13) (R 14),none⟩] []
def aLZ(σ:Srt)(sz:Nat):ah:=.cond (R 15) .skip (.exit 0)
def aL1(σ:Srt)(sz:Nat):ah:=.seq (aL0 σ sz) (aLZ σ sz)
def aER(σ:Srt)(sz:Nat):ah:=.region [⟨D 16,.mov (R 0),none⟩,⟨D 17,.mov (R 8),none⟩,⟨D 18,.mov (R 0),none⟩,⟨D 19,.mov (R 9),none⟩,⟨D 20,.mov (R 0),none⟩,⟨D 21,.mov (R 9),none⟩,⟨D 22,.aC sz none (R 20) (R 21),none⟩,⟨D 23,.load (some sz) (R 22),none⟩,⟨D 24,.mov (R 0),none⟩,⟨D 25,.mov (R 8),none⟩,⟨D 26,.aC sz none (R 24) (R 25),none⟩,⟨D 27,.load (some sz) (R 26),none⟩,⟨D 28,.aC sz none (R 16) (R 17),none⟩,⟨none,.store sz (R 28) (R 23),none⟩,⟨D 29,.aC sz none (R 18) (R 19),none⟩,⟨none,.store sz (R 29) (R 27),none⟩] []
def aEP(σ:Srt)(sz:Nat):ah:=.region [⟨D 30,.mov (R 8),none⟩,⟨D 31,.bin .add (R 30) (.k (.c (.f (.int .i64 1)))),none⟩,⟨D 8,.mov (R 31),none⟩] []
def aEO(σ:Srt)(sz:Nat):ah:=.region [⟨D 32,.mov (R 9),none⟩,⟨D 33,.bin .sub (R 32) (.k (.c (.f (.int .i64 1)))),none⟩,⟨D 9,.mov (R 33),none⟩] []
def aEQ(σ:Srt)(sz:Nat):ah:=.seq (aEP σ sz) (aEO σ sz)
def aES(σ:Srt)(sz:Nat):ah:=.seq (aER σ sz) (aEQ σ sz)
def aET(σ:Srt)(sz:Nat):ah:=.block 1 (aES σ sz)
def aL2(σ:Srt)(sz:Nat):ah:=.seq (aL1 σ sz) (aET σ sz)
def aL3(σ:Srt)(sz:Nat):ah:=.loop (aL2 σ sz)
def aL4(σ:Srt)(sz:Nat):ah:=.block 0 (aL3 σ sz)
def aL6(σ:Srt)(sz:Nat):ah:=.seq (aL5 σ sz) (aL4 σ sz)
def aL8(σ:Srt)(sz:Nat):ah:=.seq (aL7 σ sz) (aL6 σ sz)
def RF(σ:Srt)(sz:Nat):AFunc:=⟨[P.nat 0,P.nat 1,P.nat 2,P.nat 3],[],(aL8 σ sz)⟩
def aHN(σ:Srt)(sz:Nat):ah:=.region [⟨D 10,.mov (.k (.c (.f (.int .i64 0)))),none⟩,⟨D 11,.mov (.k (.c (.f (.bool false)))),none⟩] []
def aHL(σ:Srt)(sz:Nat):ah:=.region [⟨D 14,.mov (R 0),none⟩,⟨D 15,.mov (R 1),none⟩,⟨D 16,.mov (R 0),none⟩,⟨D 17,.mov (R 3),none⟩,⟨D 18,.mov (R 0),none⟩,⟨D 19,.mov (R 3),none⟩,⟨D 20,.aC sz none (R 18) (R 19),none⟩,⟨D 21,.load (some sz) (R 20),none⟩,⟨D 22,.mov (R 0),none⟩,⟨D 23,.mov (R 1),none⟩,⟨D 24,.aC sz none (R 22) (R 23),none⟩,⟨D 25,.load (some sz) (R 24),none⟩,⟨D 26,.aC sz none (R 14) (R 15),none⟩,⟨none,.store sz (R 26) (R 21),none⟩,⟨D 27,.aC sz none (R 16) (R 17),none⟩,⟨none,.store sz (R 27) (R 25),none⟩] []
def aHJ(σ:Srt)(sz:Nat):ah:=.region [⟨D 28,.mov (R 1),none⟩,⟨D 29,.bin .add (R 28) (.k (.c (.f (.int .i64 1)))),none⟩,⟨D 30,.mov (R 2),none⟩,⟨D 31,.bin .sub (R 30) (.k (.c (.f (.int .i64 1)))),none⟩,⟨D 12,.mov (R 29),none⟩,⟨D 13,.mov (R 31),none⟩] []
def ay3(σ:Srt)(sz:Nat):ah:=.region [⟨D 32,.mov (R 12),none⟩,⟨D 33,.mov (R 13),none⟩,⟨D 34,.bin .leq (R 32) (R 33),none⟩,⟨D 35,.mov (R 34),none⟩,⟨D 36,.mov (R 4),G 35 true⟩,⟨D 37,.mov (R 0),G 35 true⟩,⟨D 38,.mov (R 12),G 35 true⟩,⟨D 39,.aC sz none (R 37) (R 38),G 35 true⟩,⟨D 40,.load (some sz) (R 39),G 35 true⟩,⟨D 41,.mov (R 0),G 35 true⟩,⟨D 42,.mov (R 1),G 35 true⟩,⟨D 43,.aC sz none (R 41) (R 42),G 35 true⟩,⟨D 44,.load (some sz) (R 43),G 35 true⟩,⟨D 45,.bQ (R 36) [(R 40),(R 44)] true,G 35 true⟩,⟨D 46,.bin .lss (R 45) (.k (.c (.f (.int .i64 0)))),G 35 true⟩,⟨D 47,.pick (R 35) (R 46) (.k (.c (.f (.bool false)))),none⟩] []
def ay2(σ:Srt)(sz:Nat):ah:=.cond (R 47) .skip (.exit 0)
def ay4(σ:Srt)(sz:Nat):ah:=.seq (ay3 σ sz) (ay2 σ sz)
def ay0(σ:Srt)(sz:Nat):ah:=.region [⟨D 48,.mov (R 12),none⟩,⟨D 49,.bin .add (R 48) (.k (.c (.f (.int .i64 1)))),none⟩,⟨D 12,.mov (R 49),none⟩] []
def ay1(σ:Srt)(sz:Nat):ah:=.block 1 (ay0 σ sz)
def aHG(σ:Srt)(sz:Nat):ah:=.seq (ay4 σ sz) (ay1 σ sz)
def aHH(σ:Srt)(sz:Nat):ah:=.loop (aHG σ sz)
def ajH(σ:Srt)(sz:Nat):ah:=.block 0 (aHH σ sz)
def ayV(σ:Srt)(sz:Nat):ah:=.region [⟨D 50,.mov (R 12),none⟩,⟨D 51,.mov (R 13),none⟩,⟨D 52,.bin .leq (R 50) (R 51),none⟩,⟨D 53,.mov (R 52),none⟩,⟨D 54,.mov (R 4),G 53 true⟩,⟨D 55,.mov (R 0),G 53 true⟩,⟨D 56,.mov (R 13),G 53 true⟩,⟨D 57,.aC sz none (R 55) (R 56),G 53 true⟩,⟨D 58,.load (some sz) (R 57),G 53 true⟩,⟨D 59,.mov (R 0),G 53 true⟩,⟨D 60,.mov (R 1),G 53 true⟩,⟨D 61,.aC sz none (R 59) (R 60),G 53 true⟩,⟨D 62,.load (some sz) (R 61),G 53 true⟩,⟨D 63,.bQ (R 54) [(R 58),(R 62)] true,G 53 true⟩,⟨D 64,.bin .lss (R 63) (.k (.c (.f (.int .i64 0)))),G 53 true⟩,⟨D 65,.un .not (R 64),G 53 true⟩,⟨D 66,.pick (R 53) (R 65) (.k (.c (.f (.bool false)))),none⟩] []
def ayU(σ:Srt)(sz:Nat):ah:=.cond (R 66) .skip (.exit 2)
def ayW(σ:Srt)(sz:Nat):ah:=.seq (ayV σ sz) (ayU σ sz)
def ayS(σ:Srt)(sz:Nat):ah:=.region [⟨D 67,.mov (R 13),none⟩,⟨D 68,.bin .sub (R 67) (.k (.c (.f (.int .i64 1)))),none⟩,⟨D 13,.mov (R 68),none⟩] []
def ayT(σ:Srt)(sz:Nat):ah:=.block 3 (ayS σ sz)
def ayX(σ:Srt)(sz:Nat):ah:=.seq (ayW σ sz) (ayT σ sz)
def ayY(σ:Srt)(sz:Nat):ah:=.loop (ayX σ sz)
def Si(σ:Srt)(sz:Nat):ah:=.block 2 (ayY σ sz)
def ayP(σ:Srt)(sz:Nat):ah:=.region [⟨D 69,.mov (R 12),none⟩,⟨D 70,.mov (R 13),none⟩,⟨D 71,.bin .gtr (R 69) (R 70),none⟩] []
def ayM(σ:Srt)(sz:Nat):ah:=.region [⟨D 72,.mov (R 0),none⟩,⟨D 73,.mov (R 13),none⟩,⟨D 74,.mov (R 0),none⟩,⟨D 75,.mov (R 1),none⟩,⟨D 76,.mov (R 0),none⟩,⟨D 77,.mov (R 1),none⟩,⟨D 78,.aC sz none (R 76) (R 77),none⟩,⟨D 79,.load (some sz) (R 78),none⟩,⟨D 80,.mov (R 0),none⟩,⟨D 81,.mov (R 13),none⟩,⟨D 82,.aC sz none (R 80) (R 81),none⟩,⟨D 83,.load (some sz) (R 82),none⟩,⟨D 84,.aC sz none (R 72) (R 73),none⟩,⟨none,.store sz (R 84) (R 79),none⟩,⟨D 85,.aC sz none (R 74) (R 75),none⟩,⟨none,.store sz (R 85) (R 83),none⟩] []
def ayK(σ:Srt)(sz:Nat):ah:=.region [⟨D 86,.mov (R 13),none⟩,⟨D 10,.mov (R 86),none⟩,⟨D 11,.mov (.k (.c (.f (.bool true)))),none⟩] []
def ayL(σ:Srt)(sz:Nat):ah:=.seq (ayK σ sz) .ret
def ayN(σ:Srt)(sz:Nat):ah:=.seq (ayM σ sz) (ayL σ sz)
def ayO(σ:Srt)(sz:Nat):ah:=.cond (R 71) (ayN σ sz) .skip
def ayQ(σ:Srt)(sz:Nat):ah:=.seq (ayP σ sz) (ayO σ sz)
def ayI(σ:Srt)(sz:Nat):ah:=.region [⟨D 87,.mov (R 0),none⟩,⟨D 88,.mov (R 12),none⟩,⟨D 89,.mov (R 0),none⟩,⟨D 90,.mov (R 13),none⟩,⟨D 91,.mov (R 0),none⟩,⟨D 92,.mov (R 13),none⟩,⟨D 93,.aC sz none (R 91) (R 92),none⟩,⟨D 94,.load (some sz) (R 93),none⟩,⟨D 95,.mov (R 0),none⟩,⟨D 96,.mov (R 12),none⟩,⟨D 97,.aC sz none (R 95) (R 96),none⟩,⟨D 98,.load (some sz) (R 97),none⟩,⟨D 99,.aC sz none (R 87) (R 88),none⟩,⟨none,.store sz (R 99) (R 94),none⟩,⟨D 100,.aC sz none (R 89) (R 90),none⟩,⟨none,.store sz (R 100) (R 98),none⟩] []
def ayG(σ:Srt)(sz:Nat):ah:=.region [⟨D 101,.mov (R 12),none⟩,⟨D 102,.bin .add (R 101) (.k (.c (.f (.int .i64 1)))),none⟩,⟨D 12,.mov (R 102),none⟩] []
def ayE(σ:Srt)(sz:Nat):ah:=.region [⟨D 103,.mov (R 13),none⟩,⟨D 104,.bin .sub (R 103) (.k (.c (.f (.int .i64 1)))),none⟩,⟨D 13,.mov (R 104),none⟩] []
def ayv(σ:Srt)(sz:Nat):ah:=.region [⟨D 105,.mov (R 12),none⟩,⟨D 106,.mov (R 13),none⟩,⟨D 107,.bin .leq (R 105) (R 106),none⟩,⟨D 108,.mov (R 107),none⟩,⟨D 109,.mov (R 4),G 108 true⟩,⟨D 110,.mov (R 0),G 108 true⟩,⟨D 111,.mov (R 12),G 108 true⟩,⟨D 112,.aC sz none (R 110) (R 111),G 108 true⟩,⟨D 113,.load (some sz) (R 112),G 108 true⟩,⟨D 114,.mov (R 0),G 108 true⟩,⟨D 115,.mov (R 1),G 108 true⟩,⟨D 116,.aC sz none (R 114) (R 115),G 108 true⟩,⟨D 117,.load (some sz) (R 116),G 108 true⟩,⟨D 118,.bQ (R 109) [(R 113),(R 117)] true,G 108 true⟩,⟨D 119,.bin .lss (R 118) (.k (.c (.f (.int .i64 0)))),G 108 true⟩,⟨D 120,.pick (R 108) (R 119) (.k (.c (.f (.bool false)))),none⟩] []
def ayu(σ:Srt)(sz:Nat):ah:=.cond (R 120) .skip (.exit 6)
def ayw(σ:Srt)(sz:Nat):ah:=.seq (ayv σ sz) (ayu σ sz)
def ays(σ:Srt)(sz:Nat):ah:=.region [⟨D 121,.mov (R 12),none⟩,⟨D 122,.bin .add (R 121) (.k (.c (.f (.int .i64 1)))),none⟩,⟨D 12,.mov (R 122),none⟩] []
def ayt(σ:Srt)(sz:Nat):ah:=.block 7 (ays σ sz)
def ayx(σ:Srt)(sz:Nat):ah:=.seq (ayw σ sz) (ayt σ sz)
def ayy(σ:Srt)(sz:Nat):ah:=.loop (ayx σ sz)
def RZ(σ:Srt)(sz:Nat):ah:=.block 6 (ayy σ sz)
def ayn(σ:Srt)(sz:Nat):ah:=.region [⟨D 123,.mov (R 12),none⟩,⟨D 124,.mov (R 13),none⟩,⟨D 125,.bin .leq (R 123) (R 124),none⟩,⟨D 126,.mov (R 125),none⟩,⟨D 127,.mov (R 4),G 126 true⟩,⟨D 128,.mov (R 0),G 126 true⟩,⟨D 129,.mov (R 13),G 126 true⟩,⟨D 130,.aC sz none (R 128) (R 129),G 126 true⟩,⟨D 131,.load (some sz) (R 130),G 126 true⟩,⟨D 132,.mov (R 0),G 126 true⟩,⟨D 133,.mov (R 1),G 126 true⟩,⟨D 134,.aC sz none (R 132) (R 133),G 126 true⟩,⟨D 135,.load (some sz) (R 134),G 126 true⟩,⟨D 136,.bQ (R 127) [(R 131),(R 135)] true,G 126 true⟩,⟨D 137,.bin .lss (R 136) (.k (.c (.f (.int .i64 0)))),G 126 true⟩,⟨D 138,.un .not (R 137),G 126 true⟩,⟨D 139,.pick (R 126) (R 138) (.k (.c (.f (.bool false)))),none⟩] []
def aym(σ:Srt)(sz:Nat):ah:=.cond (R 139) .skip (.exit 8)
def ayo(σ:Srt)(sz:Nat):ah:=.seq (ayn σ sz) (aym σ sz)
def ayk(σ:Srt)(sz:Nat):ah:=.region [⟨D 140,.mov (R 13),none⟩,⟨D 141,.bin .sub (R 140) (.k (.c (.f (.int .i64 1)))),none⟩,⟨D 13,.mov (R 141),none⟩] []
def ayl(σ:Srt)(sz:Nat):ah:=.block 9 (ayk σ sz)
def ayp(σ:Srt)(sz:Nat):ah:=.seq (ayo σ sz) (ayl σ sz)
def ayq(σ:Srt)(sz:Nat):ah:=.loop (ayp σ sz)
def RY(σ:Srt)(sz:Nat):ah:=.block 8 (ayq σ sz)
def ayh(σ:Srt)(sz:Nat):ah:=.region [⟨D 142,.mov (R 12),none⟩,⟨D 143,.mov (R 13),none⟩,⟨D 144,.bin .gtr (R 142) (R 143),none⟩] []
def ayg(σ:Srt)(sz:Nat):ah:=.cond (R 144) (.exit 4) .skip
def ayi(σ:Srt)(sz:Nat):ah:=.seq (ayh σ sz) (ayg σ sz)
def aye(σ:Srt)(sz:Nat):ah:=.region [⟨D 145,.mov (R 0),none⟩,⟨D 146,.mov (R 12),none⟩,⟨D 147,.mov (R 0),none⟩,⟨D 148,.mov (R 13),none⟩,⟨D 149,.mov (R 0),none⟩,⟨D 150,.mov (R 13),none⟩,⟨D 151,.aC sz none (R 149) (R 150),none⟩,⟨D 152,.load (some sz) (R 151),none⟩,⟨D 153,.mov (R 0),none⟩,⟨D 154,.mov (R 12),none⟩,⟨D 155,.aC sz none (R 153) (R 154),none⟩,⟨D 156,.load (some sz) (R 155),none⟩,⟨D 157,.aC sz none (R 145) (R 146),none⟩,⟨none,.store sz (R 157) (R 152),none⟩,⟨D 158,.aC sz none (R 147) (R 148),none⟩,⟨none,.store sz (R 158) (R 156),none⟩] []
def ayc(σ:Srt)(sz:Nat):ah:=.region [⟨D 159,.mov (R 12),none⟩,⟨D 160,.bin .add (R 159) (.k (.c (.f (.int .i64 1)))),none⟩,⟨D 12,.mov (R 160),none⟩] []
def ayb(σ:Srt)(sz:Nat):ah:=.region [⟨D 161,.mov (R 13),none⟩,⟨D 162,.bin .sub (R 161) (.k (.c (.f (.int .i64 1)))),none⟩,⟨D 13,.mov (R 162),none⟩] []
def ayd(σ:Srt)(sz:Nat):ah:=.seq (ayc σ sz) (ayb σ sz)
def ayf(σ:Srt)(sz:Nat):ah:=.seq (aye σ sz) (ayd σ sz)
def ayj(σ:Srt)(sz:Nat):ah:=.seq (ayi σ sz) (ayf σ sz)
def ayr(σ:Srt)(sz:Nat):ah:=.seq (RY σ sz) (ayj σ sz)
def ayz(σ:Srt)(sz:Nat):ah:=.seq (RZ σ sz) (ayr σ sz)
def ayA(σ:Srt)(sz:Nat):ah:=.block 5 (ayz σ sz)
def ayB(σ:Srt)(sz:Nat):ah:=.loop (ayA σ sz)
def ayC(σ:Srt)(sz:Nat):ah:=.block 4 (ayB σ sz)
def aya(σ:Srt)(sz:Nat):ah:=.region [⟨D 163,.mov (R 0),none⟩,⟨D 164,.mov (R 13),none⟩,⟨D 165,.mov (R 0),none⟩,⟨D 166,.mov (R 1),none⟩,⟨D 167,.mov (R 0),none⟩,⟨D 168,.mov (R 1),none⟩,⟨D 169,.aC sz none (R 167) (R 168),none⟩,⟨D 170,.load (some sz) (R 169),none⟩,⟨D 171,.mov (R 0),none⟩,⟨D 172,.mov (R 13),none⟩,⟨D 173,.aC sz none (R 171) (R 172),none⟩,⟨D 174,.load (some sz) (R 173),none⟩,⟨D 175,.aC sz none (R 163) (R 164),none⟩,⟨none,.store sz (R 175) (R 170),none⟩,⟨D 176,.aC sz none (R 165) (R 166),none⟩,⟨none,.store sz (R 176) (R 174),none⟩] []
def ax8(σ:Srt)(sz:Nat):ah:=.region [⟨D 177,.mov (R 13),none⟩,⟨D 10,.mov (R 177),none⟩,⟨D 11,.mov (.k (.c (.f (.bool false)))),none⟩] []
def ax9(σ:Srt)(sz:Nat):ah:=.seq (ax8 σ sz) .ret
def RX(σ:Srt)(sz:Nat):ah:=.seq (aya σ sz) (ax9 σ sz)
def ayD(σ:Srt)(sz:Nat):ah:=.seq (ayC σ sz) (RX σ sz)
def ayF(σ:Srt)(sz:Nat):ah:=.seq (ayE σ sz) (ayD σ sz)
def ayH(σ:Srt)(sz:Nat):ah:=.seq (ayG σ sz) (ayF σ sz)
def ayJ(σ:Srt)(sz:Nat):ah:=.seq (ayI σ sz) (ayH σ sz)
def ayR(σ:Srt)(sz:Nat):ah:=.seq (ayQ σ sz) (ayJ σ sz)
def ayZ(σ:Srt)(sz:Nat):ah:=.seq (Si σ sz) (ayR σ sz)
def aHI(σ:Srt)(sz:Nat):ah:=.seq (ajH σ sz) (ayZ σ sz)
def aHK(σ:Srt)(sz:Nat):ah:=.seq (aHJ σ sz) (aHI σ sz)
def aHM(σ:Srt)(sz:Nat):ah:=.seq (aHL σ sz) (aHK σ sz)
def aHO(σ:Srt)(sz:Nat):ah:=.seq (aHN σ sz) (aHM σ sz)
def GN(σ:Srt)(sz:Nat):AFunc:=⟨[P.nat 0,P.nat 1,P.nat 2,P.nat 3,P.nat 4],[.tmp (P.nat 10),.tmp (P.nat 11)],(aHO σ sz)⟩
def aMD(σ:Srt)(sz:Nat):ah:=.region [⟨D 10,.mov (.k (.c (.f (.int .i64 0)))),none⟩] []
def aMB(σ:Srt)(sz:Nat):ah:=.region [⟨D 13,.mov (R 0),none⟩,⟨D 14,.mov (R 1),none⟩,⟨D 15,.mov (R 0),none⟩,⟨D 16,.mov (R 3),none⟩,⟨D 17,.mov (R 0),none⟩,⟨D 18,.mov (R 3),none⟩,⟨D 19,.aC sz none (R 17) (R 18),none⟩,⟨D 20,.load (some sz) (R 19),none⟩,⟨D 21,.mov (R 0),none⟩,⟨D 22,.mov (R 1),none⟩,⟨D 23,.aC sz none (R 21) (R 22),none⟩,⟨D 24,.load (some sz) (R 23),none⟩,⟨D 25,.aC sz none (R 13) (R 14),none⟩,⟨none,.store sz (R 25) (R 20),none⟩,⟨D 26,.aC sz none (R 15) (R 16),none⟩,⟨none,.store sz (R 26) (R 24),none⟩] []
def aMz(σ:Srt)(sz:Nat):ah:=.region [⟨D 27,.mov (R 1),none⟩,⟨D 28,.bin .add (R 27) (.k (.c (.f (.int .i64 1)))),none⟩,⟨D 29,.mov (R 2),none⟩,⟨D 30,.bin .sub (R 29) (.k (.c (.f (.int .i64 1)))),none⟩,⟨D 11,.mov (R 28),none⟩,⟨D 12,.mov (R 30),none⟩] []
def aGA(σ:Srt)(sz:Nat):ah:=.region [⟨D 31,.mov (R 11),none⟩,⟨D 32,.mov (R 12),none⟩,⟨D 33,.bin .leq (R 31) (R 32),none⟩,⟨D 34,.mov (R 33),none⟩,⟨D 35,.mov (R 4),G 34 true⟩,⟨D 36,.mov (R 0),G 34 true⟩,⟨D 37,.mov (R 1),G 34 true⟩,⟨D 38,.aC sz none (R 36) (R 37),G 34 true⟩,⟨D 39,.load (some sz) (R 38),G 34 true⟩,⟨D 40,.mov (R 0),G 34 true⟩,⟨D 41,.mov (R 11),G 34 true⟩,⟨D 42,.aC sz none (R 40) (R 41),G 34 true⟩,⟨D 43,.load (some sz) (R 42),G 34 true⟩,⟨D 44,.bQ (R 35) [(R 39),(R 43)] true,G 34 true⟩,⟨D 45,.bin .lss (R 44) (.k (.c (.f (.int .i64 0)))),G 34 true⟩,⟨D 46,.un .not (R 45),G 34 true⟩,⟨D 47,.pick (R 34) (R 46) (.k (.c (.f (.bool false)))),none⟩] []
def aGz(σ:Srt)(sz:Nat):ah:=.cond (R 47) .skip (.exit 2)
def aGB(σ:Srt)(sz:Nat):ah:=.seq (aGA σ sz) (aGz σ sz)
def aGx(σ:Srt)(sz:Nat):ah:=.region [⟨D 48,.mov (R 11),none⟩,⟨D 49,.bin .add (R 48) (.k (.c (.f (.int .i64 1)))),none⟩,⟨D 11,.mov (R 49),none⟩] []
def aGy(σ:Srt)(sz:Nat):ah:=.block 3 (aGx σ sz)
def aGC(σ:Srt)(sz:Nat):ah:=.seq (aGB σ sz) (aGy σ sz)
def aGD(σ:Srt)(sz:Nat):ah:=.loop (aGC σ sz)
def ajy(σ:Srt)(sz:Nat):ah:=.block 2 (aGD σ sz)
def aGs(σ:Srt)(sz:Nat):ah:=.region [⟨D 50,.mov (R 11),none⟩,⟨D 51,.mov (R 12),none⟩,⟨D 52,.bin .leq (R 50) (R 51),none⟩,⟨D 53,.mov (R 52),none⟩,⟨D 54,.mov (R 4),G 53 true⟩,⟨D 55,.mov (R 0),G 53 true⟩,⟨D 56,.mov (R 1),G 53 true⟩,⟨D 57,.aC sz none (R 55) (R 56),G 53 true⟩,⟨D 58,.load (some sz) (R 57),G 53 true⟩,⟨D 59,.mov (R 0),G 53 true⟩,⟨D 60,.mov (R 12),G 53 true⟩,⟨D 61,.aC sz none (R 59) (R 60),G 53 true⟩,⟨D 62,.load (some sz) (R 61),G 53 true⟩,⟨D 63,.bQ (R 54) [(R 58),(R 62)] true,G 53 true⟩,⟨D 64,.bin .lss (R 63) (.k (.c (.f (.int .i64 0)))),G 53 true⟩,⟨D 65,.pick (R 53) (R 64) (.k (.c (.f (.bool false)))),none⟩] []
def aGr(σ:Srt)(sz:Nat):ah:=.cond (R 65) .skip (.exit 4)
def aGt(σ:Srt)(sz:Nat):ah:=.seq (aGs σ sz) (aGr σ sz)
def aGp(σ:Srt)(sz:Nat):ah:=.region [⟨D 66,.mov (R 12),none⟩,⟨D 67,.bin .sub (R 66) (.k (.c (.f (.int .i64 1)))),none⟩,⟨D 12,.mov (R 67),none⟩] []
def aGq(σ:Srt)(sz:Nat):ah:=.block 5 (aGp σ sz)
def aGu(σ:Srt)(sz:Nat):ah:=.seq (aGt σ sz) (aGq σ sz)
def aGv(σ:Srt)(sz:Nat):ah:=.loop (aGu σ sz)
def ajx(σ:Srt)(sz:Nat):ah:=.block 4 (aGv σ sz)
def aGm(σ:Srt)(sz:Nat):ah:=.region [⟨D 68,.mov (R 11),none⟩,⟨D 69,.mov (R 12),none⟩,⟨D 70,.bin .gtr (R 68) (R 69),none⟩] []
def aGl(σ:Srt)(sz:Nat):ah:=.cond (R 70) (.exit 0) .skip
def aGn(σ:Srt)(sz:Nat):ah:=.seq (aGm σ sz) (aGl σ sz)
def aGj(σ:Srt)(sz:Nat):ah:=.region [⟨D 71,.mov (R 0),none⟩,⟨D 72,.mov (R 11),none⟩,⟨D 73,.mov (R 0),none⟩,⟨D 74,.mov (R 12),none⟩,⟨D 75,.mov (R 0),none⟩,⟨D 76,.mov (R 12),none⟩,⟨D 77,.aC sz none (R 75) (R 76),none⟩,⟨D 78,.load (some sz) (R 77),none⟩,⟨D 79,.mov (R 0),none⟩,⟨D 80,.mov (R 11),none⟩,⟨D 81,.aC sz none (R 79) (R 80),none⟩,⟨D 82,.load (some sz) (R 81),none⟩,⟨D 83,.aC sz none (R 71) (R 72),none⟩,⟨none,.store sz (R 83) (R 78),none⟩,⟨D 84,.aC sz none (R 73) (R 74),none⟩,⟨none,.store sz (R 84) (R 82),none⟩] []
def aGh(σ:Srt)(sz:Nat):ah:=.region [⟨D 85,.mov (R 11),none⟩,⟨D 86,.bin .add (R 85) (.k (.c (.f (.int .i64 1)))),none⟩,⟨D 11,.mov (R 86),none⟩] []
def aGg(σ:Srt)(sz:Nat):ah:=.region [⟨D 87,.mov (R 12),none⟩,⟨D 88,.bin .sub (R 87) (.k (.c (.f (.int .i64 1)))),none⟩,⟨D 12,.mov (R 88),none⟩] []
def aGi(σ:Srt)(sz:Nat):ah:=.seq (aGh σ sz) (aGg σ sz)
def aGk(σ:Srt)(sz:Nat):ah:=.seq (aGj σ sz) (aGi σ sz)
def aGo(σ:Srt)(sz:Nat):ah:=.seq (aGn σ sz) (aGk σ sz)
def aGw(σ:Srt)(sz:Nat):ah:=.seq (ajx σ sz) (aGo σ sz)
def aGE(σ:Srt)(sz:Nat):ah:=.seq (ajy σ sz) (aGw σ sz)
def aMv(σ:Srt)(sz:Nat):ah:=.block 1 (aGE σ sz)
def aMw(σ:Srt)(sz:Nat):ah:=.loop (aMv σ sz)
def aMx(σ:Srt)(sz:Nat):ah:=.block 0 (aMw σ sz)
def aGf(σ:Srt)(sz:Nat):ah:=.region [⟨D 89,.mov (R 11),none⟩,⟨D 10,.mov (R 89),none⟩] []
def ajw(σ:Srt)(sz:Nat):ah:=.seq (aGf σ sz) .ret
def aMy(σ:Srt)(sz:Nat):ah:=.seq (aMx σ sz) (ajw σ sz)
def aMA(σ:Srt)(sz:Nat):ah:=.seq (aMz σ sz) (aMy σ sz)
def aMC(σ:Srt)(sz:Nat):ah:=.seq (aMB σ sz) (aMA σ sz)
def aME(σ:Srt)(sz:Nat):ah:=.seq (aMD σ sz) (aMC σ sz)
def RU(σ:Srt)(sz:Nat):AFunc:=⟨[P.nat 0,P.nat 1,P.nat 2,P.nat 3,P.nat 4],[.tmp (P.nat 10)],(aME σ sz)⟩
def aF9(σ:Srt)(sz:Nat):ah:=.region [⟨D 8,.mov (.k (.c (.f (.bool false)))),none⟩] []
def aF7(σ:Srt)(sz:Nat):ah:=.region [⟨D 13,.mov (R 1),none⟩,⟨D 14,.bin .add (R 13) (.k (.c (.f (.int .i64 1)))),none⟩,⟨D 9,.mov (R 14),none⟩] []
def aF4(σ:Srt)(sz:Nat):ah:=.region [⟨D 10,.mov (.k (.c (.f (.int .i64 0)))),none⟩] []
def ax3(σ:Srt)(sz:Nat):ah:=.region [⟨D 15,.mov (R 10),none⟩,⟨D 16,.bin .lss (R 15) (.k (.c (.f (.int .i64 5)))),none⟩] []
def ax2(σ:Srt)(sz:Nat):ah:=.cond (R 16) .skip (.exit 0)
def ax4(σ:Srt)(sz:Nat):ah:=.seq (ax3 σ sz) (ax2 σ sz)
def axV(σ:Srt)(sz:Nat):ah:=.region [⟨D 19,.mov (R 9),none⟩,⟨D 20,.mov (R 2),none⟩,⟨D 21,.bin .lss (R 19) (R 20),none⟩,⟨D 22,.mov (R 21),none⟩,⟨D 23,.mov (R 3),G 22 true⟩,⟨D 24,.mov (R 0),G 22 true⟩,⟨D 25,.mov (R 9),G 22 true⟩,⟨D 26,.aC sz none (R 24) (R 25),G 22 true⟩,⟨D 27,.load (some sz) (R 26),G 22 true⟩,⟨D 28,.mov (R 0),G 22 true⟩,⟨D 29,.mov (R 9),G 22 true⟩,⟨D 30,.bin .sub (R 29) (.k (.c (.f (.int .i64 1)))),G 22 true⟩,⟨D 31,.aC sz none (R 28) (R 30),G 22 true⟩,⟨D 32,.load (some sz) (R 31),G 22 true⟩,⟨D 33,.bQ (R 23) [(R 27),(R 32)] true,G 22 true⟩,⟨D 34,.bin .lss (R 33) (.k (.c (.f (.int .i64 0)))),G 22 true⟩,⟨D 35,.un .not (R 34),G 22 true⟩,⟨D 36,.pick (R 22) (R 35) (.k (.c (.f (.bool false)))),none⟩] []
def axU(σ:Srt)(sz:Nat):ah:=.cond (R 36) .skip (.exit 2)
def axW(σ:Srt)(sz:Nat):ah:=.seq (axV σ sz) (axU σ sz)
def axS(σ:Srt)(sz:Nat):ah:=.region [⟨D 37,.mov (R 9),none⟩,⟨D 38,.bin .add (R 37) (.k (.c (.f (.int .i64 1)))),none⟩,⟨D 9,.mov (R 38),none⟩] []
def axT(σ:Srt)(sz:Nat):ah:=.block 3 (axS σ sz)
def axX(σ:Srt)(sz:Nat):ah:=.seq (axW σ sz) (axT σ sz)
def axY(σ:Srt)(sz:Nat):ah:=.loop (axX σ sz)
def RQ(σ:Srt)(sz:Nat):ah:=.block 2 (axY σ sz)
def axP(σ:Srt)(sz:Nat):ah:=.region [⟨D 39,.mov (R 9),none⟩,⟨D 40,.mov (R 2),none⟩,⟨D 41,.bin .eql (R 39) (R 40),none⟩] []
def axM(σ:Srt)(sz:Nat):ah:=.region [⟨D 8,.mov (.k (.c (.f (.bool true)))),none⟩] []
def axN(σ:Srt)(sz:Nat):ah:=.seq (axM σ sz) .ret
def axO(σ:Srt)(sz:Nat):ah:=.cond (R 41) (axN σ sz) .skip
def axQ(σ:Srt)(sz:Nat):ah:=.seq (axP σ sz) (axO σ sz)
def axJ(σ:Srt)(sz:Nat):ah:=.region [⟨D 42,.mov (R 2),none⟩,⟨D 43,.mov (R 1),none⟩,⟨D 44,.bin .sub (R 42) (R 43),none⟩,⟨D 45,.bin .lss (R 44) (.k (.c (.f (.int .i64 50)))),none⟩] []
def axG(σ:Srt)(sz:Nat):ah:=.region [⟨D 8,.mov (.k (.c (.f (.bool false)))),none⟩] []
def axH(σ:Srt)(sz:Nat):ah:=.seq (axG σ sz) .ret
def axI(σ:Srt)(sz:Nat):ah:=.cond (R 45) (axH σ sz) .skip
def axK(σ:Srt)(sz:Nat):ah:=.seq (axJ σ sz) (axI σ sz)
def axE(σ:Srt)(sz:Nat):ah:=.region [⟨D 46,.mov (R 0),none⟩,⟨D 47,.mov (R 9),none⟩,⟨D 48,.mov (R 0),none⟩,⟨D 49,.mov (R 9),none⟩,⟨D 50,.bin .sub (R 49) (.k (.c (.f (.int .i64 1)))),none⟩,⟨D 51,.mov (R 0),none⟩,⟨D 52,.mov (R 9),none⟩,⟨D 53,.bin .sub (R 52) (.k (.c (.f (.int .i64 1)))),none⟩,⟨D 54,.aC sz none (R 51) (R 53),none⟩,⟨D 55,.load (some sz) (R 54),none⟩,⟨D 56,.mov (R 0),none⟩,⟨D 57,.mov (R 9),none⟩,⟨D 58,.aC sz none (R 56) (R 57),none⟩,⟨D 59,.load (some sz) (R 58),none⟩,⟨D 60,.aC sz none (R 46) (R 47),none⟩,⟨none,.store sz (R 60) (R 55),none⟩,⟨D 61,.aC sz none (R 48) (R 50),none⟩,⟨none,.store sz (R 61) (R 59),none⟩] []
def axB(σ:Srt)(sz:Nat):ah:=.region [⟨D 62,.mov (R 9),none⟩,⟨D 63,.mov (R 1),none⟩,⟨D 64,.bin .sub (R 62) (R 63),none⟩,⟨D 65,.bin .geq (R 64) (.k (.c (.f (.int .i64 2)))),none⟩] []
def axy(σ:Srt)(sz:Nat):ah:=.region [⟨D 66,.mov (R 9),none⟩,⟨D 67,.bin .sub (R 66) (.k (.c (.f (.int .i64 1)))),none⟩,⟨D 11,.mov (R 67),none⟩] []
def axu(σ:Srt)(sz:Nat):ah:=.region [⟨D 68,.mov (R 11),none⟩,⟨D 69,.bin .geq (R 68) (.k (.c (.f (.int .i64 1)))),none⟩] []
def axt(σ:Srt)(sz:Nat):ah:=.cond (R 69) .skip (.exit 4)
def axv(σ:Srt)(sz:Nat):ah:=.seq (axu σ sz) (axt σ sz)
def axn(σ:Srt)(sz:Nat):ah:=.region [⟨D 72,.mov (R 3),none⟩,⟨D 73,.mov (R 0),none⟩,⟨D 74,.mov (R 11),none⟩,⟨D 75,.aC sz none (R 73) (R 74),none⟩,⟨D 76,.load (some sz) (R 75),none⟩,⟨D 77,.mov (R 0),none⟩,⟨D 78,.mov (R 11),none⟩,⟨D 79,.bin .sub (R 78) (.k (.c (.f (.int .i64 1)))),none⟩,⟨D 80,.aC sz none (R 77) (R 79),none⟩,⟨D 81,.load (some sz) (R 80),none⟩,⟨D 82,.bQ (R 72) [(R 76),(R 81)] true,none⟩,⟨D 83,.bin .lss (R 82) (.k (.c (.f (.int .i64 0)))),none⟩,⟨D 84,.un .not (R 83),none⟩] []
def axl(σ:Srt)(sz:Nat):ah:=.cond (R 84) (.exit 4) .skip
def axo(σ:Srt)(sz:Nat):ah:=.seq (axn σ sz) (axl σ sz)
def axk(σ:Srt)(sz:Nat):ah:=.region [⟨D 85,.mov (R 0),none⟩,⟨D 86,.mov (R 11),none⟩,⟨D 87,.mov (R 0),none⟩,⟨D 88,.mov (R 11),none⟩,⟨D 89,.bin .sub (R 88) (.k (.c (.f (.int .i64 1)))),none⟩,⟨D 90,.mov (R 0),none⟩,⟨D 91,.mov (R 11),none⟩,⟨D 92,.bin .sub (R 91) (.k (.c (.f (.int .i64 1)))),none⟩,⟨D 93,.aC sz none (R 90) (R 92),none⟩,⟨D 94,.load (some sz) (R 93),none⟩,⟨D 95,.mov (R 0),none⟩,⟨D 96,.mov (R 11),none⟩,⟨D 97,.aC sz none (R 95) (R 96),none⟩,⟨D 98,.load (some sz) (R 97),none⟩,⟨D 99,.aC sz none (R 85) (R 86),none⟩,⟨none,.store sz (R 99) (R 94),none⟩,⟨D 100,.aC sz none (R 87) (R 89),none⟩,⟨none,.store sz (R 100) (R 98),none⟩] []
def axp(σ:Srt)(sz:Nat):ah:=.seq (axo σ sz) (axk σ sz)
def axq(σ:Srt)(sz:Nat):ah:=.block 5 (axp σ sz)
def axj(σ:Srt)(sz:Nat):ah:=.region [⟨D 70,.mov (R 11),none⟩,⟨D 71,.bin .sub (R 70) (.k (.c (.f (.int .i64 1)))),none⟩,⟨D 11,.mov (R 71),none⟩] []
def axr(σ:Srt)(sz:Nat):ah:=.seq (axq σ sz) (axj σ sz)
def axw(σ:Srt)(sz:Nat):ah:=.seq (axv σ sz) (axr σ sz)
def axx(σ:Srt)(sz:Nat):ah:=.loop (axw σ sz)
def RP(σ:Srt)(sz:Nat):ah:=.block 4 (axx σ sz)
def axz(σ:Srt)(sz:Nat):ah:=.seq (axy σ sz) (RP σ sz)
def axA(σ:Srt)(sz:Nat):ah:=.cond (R 65) (axz σ sz) .skip
def axC(σ:Srt)(sz:Nat):ah:=.seq (axB σ sz) (axA σ sz)
def axi(σ:Srt)(sz:Nat):ah:=.region [⟨D 101,.mov (R 2),none⟩,⟨D 102,.mov (R 9),none⟩,⟨D 103,.bin .sub (R 101) (R 102),none⟩,⟨D 104,.bin .geq (R 103) (.k (.c (.f (.int .i64 2)))),none⟩] []
def axf(σ:Srt)(sz:Nat):ah:=.region [⟨D 105,.mov (R 9),none⟩,⟨D 106,.bin .add (R 105) (.k (.c (.f (.int .i64 1)))),none⟩,⟨D 12,.mov (R 106),none⟩] []
def axb(σ:Srt)(sz:Nat):ah:=.region [⟨D 107,.mov (R 12),none⟩,⟨D 108,.mov (R 2),none⟩,⟨D 109,.bin .lss (R 107) (R 108),none⟩] []
def axa(σ:Srt)(sz:Nat):ah:=.cond (R 109) .skip (.exit 6)
def axc(σ:Srt)(sz:Nat):ah:=.seq (axb σ sz) (axa σ sz)
def aw5(σ:Srt)(sz:Nat):ah:=.region [⟨D 112,.mov (R 3),none⟩,⟨D 113,.mov (R 0),none⟩,⟨D 114,.mov (R 12),none⟩,⟨D 115,.aC sz none (R 113) (R 114),none⟩,⟨D 116,.load (some sz) (R 115),none⟩,⟨D 117,.mov (R 0),none⟩,⟨D 118,.mov (R 12),none⟩,⟨D 119,.bin .sub (R 118) (.k (.c (.f (.int .i64 1)))),none⟩,⟨D 120,.aC sz none (R 117) (R 119),none⟩,⟨D 121,.load (some sz) (R 120),none⟩,⟨D 122,.bQ (R 112) [(R 116),(R 121)] true,none⟩,⟨D 123,.bin .lss (R 122) (.k (.c (.f (.int .i64 0)))),none⟩,⟨D 124,.un .not (R 123),none⟩] []
def aw4(σ:Srt)(sz:Nat):ah:=.cond (R 124) (.exit 6) .skip
def aw6(σ:Srt)(sz:Nat):ah:=.seq (aw5 σ sz) (aw4 σ sz)
def aw3(σ:Srt)(sz:Nat):ah:=.region [⟨D 125,.mov (R 0),none⟩,⟨D 126,.mov (R 12),none⟩,⟨D 127,.mov (R 0),none⟩,⟨D 128,.mov (R 12),none⟩,⟨D 129,.bin .sub (R 128) (.k (.c (.f (.int .i64 1)))),none⟩,⟨D 130,.mov (R 0),none⟩,⟨D 131,.mov (R 12),none⟩,⟨D 132,.bin .sub (R 131) (.k (.c (.f (.int .i64 1)))),none⟩,⟨D 133,.aC sz none (R 130) (R 132),none⟩,⟨D 134,.load (some sz) (R 133),none⟩,⟨D 135,.mov (R 0),none⟩,⟨D 136,.mov (R 12),none⟩,⟨D 137,.aC sz none (R 135) (R 136),none⟩,⟨D 138,.load (some sz) (R 137),none⟩,⟨D 139,.aC sz none (R 125) (R 126),none⟩,⟨none,.store sz (R 139) (R 134),none⟩,⟨D 140,.aC sz none (R 127) (R 129),none⟩,⟨none,.store sz (R 140) (R 138),none⟩] []
def aw7(σ:Srt)(sz:Nat):ah:=.seq (aw6 σ sz) (aw3 σ sz)
def aw8(σ:Srt)(sz:Nat):ah:=.block 7 (aw7 σ sz)
def aw2(σ:Srt)(sz:Nat):ah:=.region [⟨D 110,.mov (R 12),none⟩,⟨D 111,.bin .add (R 110) (.k (.c (.f (.int .i64 1)))),none⟩,⟨D 12,.mov (R 111),none⟩] []
def aw9(σ:Srt)(sz:Nat):ah:=.seq (aw8 σ sz) (aw2 σ sz)
def axd(σ:Srt)(sz:Nat):ah:=.seq (axc σ sz) (aw9 σ sz)
def axe(σ:Srt)(sz:Nat):ah:=.loop (axd σ sz)
def RJ(σ:Srt)(sz:Nat):ah:=.block 6 (axe σ sz)
def axg(σ:Srt)(sz:Nat):ah:=.seq (axf σ sz) (RJ σ sz)
def axh(σ:Srt)(sz:Nat):ah:=.cond (R 104) (axg σ sz) .skip
def RN(σ:Srt)(sz:Nat):ah:=.seq (axi σ sz) (axh σ sz)
def axD(σ:Srt)(sz:Nat):ah:=.seq (axC σ sz) (RN σ sz)
def axF(σ:Srt)(sz:Nat):ah:=.seq (axE σ sz) (axD σ sz)
def axL(σ:Srt)(sz:Nat):ah:=.seq (axK σ sz) (axF σ sz)
def axR(σ:Srt)(sz:Nat):ah:=.seq (axQ σ sz) (axL σ sz)
def axZ(σ:Srt)(sz:Nat):ah:=.seq (RQ σ sz) (axR σ sz)
def ax0(σ:Srt)(sz:Nat):ah:=.block 1 (axZ σ sz)
def GI(σ:Srt)(sz:Nat):ah:=.region [⟨D 17,.mov (R 10),none⟩,⟨D 18,.bin .add (R 17) (.k (.c (.f (.int .i64 1)))),none⟩,⟨D 10,.mov (R 18),none⟩] []
def ax1(σ:Srt)(sz:Nat):ah:=.seq (ax0 σ sz) (GI σ sz)
def Nb(σ:Srt)(sz:Nat):ah:=.seq (ax4 σ sz) (ax1 σ sz)
def aF2(σ:Srt)(sz:Nat):ah:=.loop (Nb σ sz)
def aF3(σ:Srt)(sz:Nat):ah:=.block 0 (aF2 σ sz)
def aF5(σ:Srt)(sz:Nat):ah:=.seq (aF4 σ sz) (aF3 σ sz)
def aw1(σ:Srt)(sz:Nat):ah:=.region [⟨D 8,.mov (.k (.c (.f (.bool false)))),none⟩] []
def Ad(σ:Srt)(sz:Nat):ah:=.seq (aw1 σ sz) .ret
def aF6(σ:Srt)(sz:Nat):ah:=.seq (aF5 σ sz) (Ad σ sz)
def aF8(σ:Srt)(sz:Nat):ah:=.seq (aF7 σ sz) (aF6 σ sz)
def aGa(σ:Srt)(sz:Nat):ah:=.seq (aF9 σ sz) (aF8 σ sz)
def GH(σ:Srt)(sz:Nat):AFunc:=⟨[P.nat 0,P.nat 1,P.nat 2,P.nat 3],[.tmp (P.nat 8)],(aGa σ sz)⟩
def aIi(σ:Srt)(sz:Nat):ah:=.region [⟨D 8,.mov (.k (.c (.f (.int .i64 0)))),none⟩] []
def aIg(σ:Srt)(sz:Nat):ah:=.region [⟨D 9,.mov (R 0),none⟩,⟨D 10,.mov (R 1),none⟩,⟨D 11,.bin .sub (R 10) (.k (.c (.f (.int .i64 1)))),none⟩,⟨D 12,.mov (R 1),none⟩,⟨D 13,.mov (R 1),none⟩,⟨D 14,.bin .add (R 13) (.k (.c (.f (.int .i64 1)))),none⟩,⟨D 15,.mov (R 2),none⟩,⟨D 16,.mov (R 3),none⟩,⟨D 17,.call σ.med [(R 9),(R 11),(R 12),(R 14),(R 15),(R 16)] true,none⟩,⟨D 8,.mov (R 17),none⟩] []
def aIh(σ:Srt)(sz:Nat):ah:=.seq (aIg σ sz) .ret
def aIj(σ:Srt)(sz:Nat):ah:=.seq (aIi σ sz) (aIh σ sz)
def BL(σ:Srt)(sz:Nat):AFunc:=⟨[P.nat 0,P.nat 1,P.nat 2,P.nat 3],[.tmp (P.nat 8)],(aIj σ sz)⟩
def aNH(σ:Srt)(sz:Nat):ah:=.region [⟨D 12,.mov (.k (.c (.f (.int .i64 0)))),none⟩] []
def aNF(σ:Srt)(sz:Nat):ah:=.region [⟨D 14,.mov (R 0),none⟩,⟨D 15,.mov (R 1),none⟩,⟨D 16,.mov (R 2),none⟩,⟨D 17,.mov (R 4),none⟩,⟨D 18,.mov (R 5),none⟩,⟨D 19,.call σ.ord [(R 14),(R 15),(R 16),(R 17),(R 18)] true,none⟩,⟨D 13,.mov (R 19),none⟩,⟨D 20,.extract (R 13) 0,none⟩,⟨D 21,.extract (R 13) 1,none⟩,⟨D 1,.mov (R 20),none⟩,⟨D 2,.mov (R 21),none⟩] []
def aND(σ:Srt)(sz:Nat):ah:=.region [⟨D 23,.mov (R 0),none⟩,⟨D 24,.mov (R 2),none⟩,⟨D 25,.mov (R 3),none⟩,⟨D 26,.mov (R 4),none⟩,⟨D 27,.mov (R 5),none⟩,⟨D 28,.call σ.ord [(R 23),(R 24),(R 25),(R 26),(R 27)] true,none⟩,⟨D 22,.mov (R 28),none⟩,⟨D 29,.extract (R 22) 0,none⟩,⟨D 30,.extract (R 22) 1,none⟩,⟨D 2,.mov (R 29),none⟩,⟨D 3,.mov (R 30),none⟩] []
def aNB(σ:Srt)(sz:Nat):ah:=.region [⟨D 32,.mov (R 0),none⟩,⟨D 33,.mov (R 1),none⟩,⟨D 34,.mov (R 2),none⟩,⟨D 35,.mov (R 4),none⟩,⟨D 36,.mov (R 5),none⟩,⟨D 37,.call σ.ord [(R 32),(R 33),(R 34),(R 35),(R 36)] true,none⟩,⟨D 31,.mov (R 37),none⟩,⟨D 38,.extract (R 31) 0,none⟩,⟨D 39,.extract (R 31) 1,none⟩,⟨D 1,.mov (R 38),none⟩,⟨D 2,.mov (R 39),none⟩] []
def aNz(σ:Srt)(sz:Nat):ah:=.region [⟨D 40,.mov (R 2),none⟩,⟨D 12,.mov (R 40),none⟩] []
def aNA(σ:Srt)(sz:Nat):ah:=.seq (aNz σ sz) .ret
def aNC(σ:Srt)(sz:Nat):ah:=.seq (aNB σ sz) (aNA σ sz)
def aNE(σ:Srt)(sz:Nat):ah:=.seq (aND σ sz) (aNC σ sz)
def aNG(σ:Srt)(sz:Nat):ah:=.seq (aNF σ sz) (aNE σ sz)
def aNI(σ:Srt)(sz:Nat):ah:=.seq (aNH σ sz) (aNG σ sz)
def Es(σ:Srt)(sz:Nat):AFunc:=⟨[P.nat 0,P.nat 1,P.nat 2,P.nat 3,P.nat 4,P.nat 5],[.tmp (P.nat 12)],(aNI σ sz)⟩
def aM8(σ:Srt)(sz:Nat):ah:=.region [⟨D 10,.mov (.k (.c (.f (.int .i64 0)))),none⟩,⟨D 11,.mov (.k (.c (.f (.int .i64 0)))),none⟩] []
def aM5(σ:Srt)(sz:Nat):ah:=.region [⟨D 12,.mov (R 4),none⟩,⟨D 13,.mov (R 0),none⟩,⟨D 14,.mov (R 2),none⟩,⟨D 15,.aC sz none (R 13) (R 14),none⟩,⟨D 16,.load (some sz) (R 15),none⟩,⟨D 17,.mov (R 0),none⟩,⟨D 18,.mov (R 1),none⟩,⟨D 19,.aC sz none (R 17) (R 18),none⟩,⟨D 20,.load (some sz) (R 19),none⟩,⟨D 21,.bQ (R 12) [(R 16),(R 20)] true,none⟩,⟨D 22,.bin .lss (R 21) (.k (.c (.f (.int .i64 0)))),none⟩] []
def aM2(σ:Srt)(sz:Nat):ah:=.region [⟨D 23,.mov (R 3),none⟩,⟨D 24,.bF (R 23),none⟩,⟨D 25,.load none (R 24),none⟩,⟨D 26,.bin .add (R 25) (.k (.c (.f (.int .i64 1)))),none⟩,⟨D 27,.bF (R 23),none⟩,⟨none,.store 1 (R 27) (R 26),none⟩] []
def aM0(σ:Srt)(sz:Nat):ah:=.region [⟨D 28,.mov (R 2),none⟩,⟨D 29,.mov (R 1),none⟩,⟨D 10,.mov (R 28),none⟩,⟨D 11,.mov (R 29),none⟩] []
def aM1(σ:Srt)(sz:Nat):ah:=.seq (aM0 σ sz) .ret
def aM3(σ:Srt)(sz:Nat):ah:=.seq (aM2 σ sz) (aM1 σ sz)
def aM4(σ:Srt)(sz:Nat):ah:=.cond (R 22) (aM3 σ sz) .skip
def aM6(σ:Srt)(sz:Nat):ah:=.seq (aM5 σ sz) (aM4 σ sz)
def aHY(σ:Srt)(sz:Nat):ah:=.region [⟨D 30,.mov (R 1),none⟩,⟨D 31,.mov (R 2),none⟩,⟨D 10,.mov (R 30),none⟩,⟨D 11,.mov (R 31),none⟩] []
def aHZ(σ:Srt)(sz:Nat):ah:=.seq (aHY σ sz) .ret
def aM7(σ:Srt)(sz:Nat):ah:=.seq (aM6 σ sz) (aHZ σ sz)
def aM9(σ:Srt)(sz:Nat):ah:=.seq (aM8 σ sz) (aM7 σ sz)
def Bv(σ:Srt)(sz:Nat):AFunc:=⟨[P.nat 0,P.nat 1,P.nat 2,P.nat 3,P.nat 4],[.tmp (P.nat 10),.tmp (P.nat 11)],(aM9 σ sz)⟩
def aNw(σ:Srt)(sz:Nat):ah:=.region [⟨D 2,.mov (.k (.c (.f (.int .u64 0)))),none⟩] []
def aNu(σ:Srt)(sz:Nat):ah:=.region [⟨D 3,.mov (R 0),none⟩,⟨D 4,.cvi .u64 (R 3),none⟩,⟨D 5,.call σ.len [(R 4)] false,none⟩,⟨D 6,.bin .shl (.k (.c (.f (.int .u64 1)))) (R 5),none⟩,⟨D 2,.mov (R 6),none⟩] []
def aNv(σ:Srt)(sz:Nat):ah:=.seq (aNu σ sz) .ret
def aNx(σ:Srt)(sz:Nat):ah:=.seq (aNw σ sz) (aNv σ sz)
def Sz(σ:Srt)(sz:Nat):AFunc:=⟨[P.nat 0],[.tmp (P.nat 2)],(aNx σ sz)⟩
def aNs(σ:Srt)(sz:Nat):ah:=.region [⟨D 2,.mov (.k (.c (.f (.int .u64 0)))),none⟩] []
def aNq(σ:Srt)(sz:Nat):ah:=.region [⟨D 3,.mov (R 0),none⟩,⟨D 4,.bF (R 3),none⟩,⟨D 5,.load none (R 4),none⟩,⟨D 6,.mov (R 0),none⟩,⟨D 7,.bF (R 6),none⟩,⟨D 8,.load none (R 7),none⟩,⟨D 9,.bin .shl (R 8) (.k (.c (.f (.int .u64 13)))),none⟩,⟨D 10,.bin .xor (R 5) (R 9),none⟩,⟨D 11,.bF (R 3),none⟩,⟨none,.store 1 (R 11) (R 10),none⟩] []
def aNo(σ:Srt)(sz:Nat):ah:=.region [⟨D 12,.mov (R 0),none⟩,⟨D 13,.bF (R 12),none⟩,⟨D 14,.load none (R 13),none⟩,⟨D 15,.mov (R 0),none⟩,⟨D 16,.bF (R 15),none⟩,⟨D 17,.load none (R 16),none⟩,⟨D 18,.bin .shr (R 17) (.k (.c (.f (.int .u64 7)))),none⟩,⟨D 19,.bin .xor (R 14) (R 18),none⟩,⟨D 20,.bF (R 12),none⟩,⟨none,.store 1 (R 20) (R 19),none⟩] []
def aNm(σ:Srt)(sz:Nat):ah:=.region [⟨D 21,.mov (R 0),none⟩,⟨D 22,.bF (R 21),none⟩,⟨D 23,.load none (R 22),none⟩,⟨D 24,.mov (R 0),none⟩,⟨D 25,.bF (R 24),none⟩,⟨D 26,.load none (R 25),none⟩,⟨D 27,.bin .shl (R 26) (.k (.c (.f (.int .u64 17)))),none⟩,⟨D 28,.bin .xor (R 23) (R 27),none⟩,⟨D 29,.bF (R 21),none⟩,⟨none,.store 1 (R 29) (R 28),none⟩] []
def aNk(σ:Srt)(sz:Nat):ah:=.region [⟨D 30,.mov (R 0),none⟩,⟨D 31,.bF (R 30),none⟩,⟨D 32,.load none (R 31),none⟩,⟨D 2,.mov (R 32),none⟩] []
def aNl(σ:Srt)(sz:Nat):ah:=.seq (aNk σ sz) .ret
def aNn(σ:Srt)(sz:Nat):ah:=.seq (aNm σ sz) (aNl σ sz)
def aNp(σ:Srt)(sz:Nat):ah:=.seq (aNo σ sz) (aNn σ sz)
def aNr(σ:Srt)(sz:Nat):ah:=.seq (aNq σ sz) (aNp σ sz)
def aNt(σ:Srt)(sz:Nat):ah:=.seq (aNs σ sz) (aNr σ sz)
def Sv(σ:Srt)(sz:Nat):AFunc:=⟨[P.nat 0],[.tmp (P.nat 2)],(aNt σ sz)⟩
end Km
end
section
namespace Km
open Go
def Cv(tab:Nat→Option AFunc)(cv:V)(W:List FC→Prop)(c:List FC→List FC→Int):Prop:=
 ∀ x y,W x→W y→∀ H,∃ F ar J,dw cv [.a (x.map .f),.a (y.map .f)]=some (.fn F,ar)∧Ev tab (.fn F) ar H (vi (c x y)) (H++J)
section
variable{W:List FC→Prop}{c:List FC→List FC→Int}{l:List (List FC)}
theorem LeI.of_lt{i j:Nat}(hc:Cmp W c)(hW:∀ r ∈ l,W r){x y:List FC}(hx:l[i]?=some x)(hy:l[j]?=some y)(h:c x y<0):LeI c l i j:=fun x' y' h1 h2=>by
 rw [hx]at h1;rw [hy]at h2;cases h1;cases h2
 exact hc.asym (hW _ (aD hx)) (hW _ (aD hy)) h
theorem LeI.of_le{i j:Nat}{x y:List FC}(hx:l[i]?=some x)(hy:l[j]?=some y)(h:¬ c y x<0):LeI c l i j:=fun x' y' h1 h2=>by
 rw [hx]at h1;rw [hy]at h2;cases h1;cases h2;exact h
theorem LeI.get{l':List (List FC)}{i j i' j':Nat}(h:LeI c l i j)(h1:l'[i']?=l[i]?)(h2:l'[j']?=l[j]?):LeI c l' i' j':=fun x y hx hy=>h x y (by rw [←h1];exact hx) (by rw [←h2];exact hy)
def Ins(c:List FC→List FC→Int)(a i j:Nat)(l:List (List FC)):Prop:=∀ p q,a≤p→p<q→q≤i→q≠j→LeI c l p q
theorem Ins.start{a i:Nat}(h:Up c a i l):Ins c a i i l:=fun p q h1 h2 h3 h4=>fun x y=>h p q x y h1 h2 (by omega)
theorem Ins.step{a i j:Nat}(hc:Cmp W c)(hW:∀ r ∈ l,W r)(h:Ins c a i (j+1) l)(ha:a≤j)(hj:j+1≤i)(hi:i<l.length){x y:List FC}(hx:l[j+1]?=some x)(hy:l[j]?=some y)(hlt:c x y<0):Ins c a i j (swp l (j+1) j):=by
 intro p q h1 h2 h3 h4
 have g:∀ k,(swp l (j+1) j)[k]?=if k=j then l[j+1]? else if k=j+1 then l[j]? else l[k]?:=fun k=>swp_get (by omega) (by omega) k
 by_cases q1:q=j+1
 ·subst q1
  by_cases p1:p=j
  ·subst p1
   exact(LeI.of_lt hc hW hx hy hlt).get (by rw [g,if_pos rfl]) (by rw [g,if_neg (by omega),if_pos rfl])
  ·exact(h p j h1 (by omega) (by omega) (by omega)).get (by rw [g,if_neg (by omega),if_neg (by omega)]) (by rw [g,if_neg (by omega),if_pos rfl])
 ·have gq:(swp l (j+1) j)[q]?=l[q]?:=by rw [g,if_neg h4,if_neg q1]
  by_cases p1:p=j
  ·subst p1
   exact(h (p+1) q (by omega) (by omega) h3 q1).get (by rw [g,if_pos rfl]) gq
  by_cases p2:p=j+1
  ·subst p2
   exact(h j q ha (by omega) h3 q1).get (by rw [g,if_neg (by omega),if_pos rfl]) gq
  ·exact(h p q h1 h2 h3 q1).get (by rw [g,if_neg p1,if_neg p2]) gq
theorem Ins.front{a i:Nat}(h:Ins c a i a l):Up c a (i+1) l:=fun p q x y h1 h2 h3=>h p q h1 h2 (by omega) (by omega) x y
theorem Ins.stop{a i j:Nat}(hc:Cmp W c)(hW:∀ r ∈ l,W r)(h:Ins c a i (j+1) l)(ha:a≤j)(hj:j+1≤i)(hi:i<l.length)(hle:LeI c l j (j+1)):Up c a (i+1) l:=by
 intro p q x y h1 h2 h3
 by_cases q1:q=j+1
 ·subst q1
  by_cases p1:p=j
  ·subst p1;exact hle x y
  ·exact((h p j h1 (by omega) (by omega) (by omega)).trans hc hW hle (by omega)) x y
 ·exact h p q h1 h2 (by omega) q1 x y
end
section
variable{tab:Nat→Option AFunc}{σ:Srt}{sz:Nat}{H:Heap}{b ep:Nat}{rows:List (List FC)}{cv:V}{W:List FC→Prop}{c:List FC→List FC→Int}
theorem RB.at(h:RB H b sz ep rows){i:Nat}(hi:i<rows.length):aU H sz none (.c (.sl b 0 rows.length 0 ep sz)) (vi i)=some (.c (.ptr b (i*sz) ep)):=by
 have:=h.idx (n:=rows.length) (c:=0) (k:=.i64) (o:=0) (i:=(i:Int)) (by omega) (by omega)
 rwa [Int.toNat_natCast,cH]at this
theorem RB.ldi(h:RB H b sz ep rows)(hg:Grid sz rows){i:Nat}(hi:i<rows.length):ldV H (some sz) (.c (.ptr b (i*sz) ep))=some (.a (rows[i].map .f)):=h.ldr hg (ae hi)
theorem aIq(hT:tab σ.ins=some (EC σ sz))(hcv:Cv tab cv W c)(hc:Cmp W c){n a e:Nat}(hn:rows.length=n)(hl:n≤1000000000)(hrb:RB H b sz ep rows)(hg:Grid sz rows)(hW:∀ r ∈ rows,W r)(hae:a≤e)(hen:e≤n) :
  ∃ r H',Ev tab (.fn σ.ins) [.c (.sl b 0 n 0 ep sz),vi a,vi e,cv] H r H'∧(r=.t []∧Fm b H H'∧∃ l',RB H' b sz ep l'∧Seg a e rows l'∧Up c a e l'):=by
 refine iT hT rfl fun Q hQ=>?_
 refine ak (aj (.inl rfl) ?_)
 simp [wrap64 (n:=(a:Int)+1) (by omega) (by omega)]
 refine aN ?_
 refine bK (fun m s=>∃(i:Nat) (t:T) (H1:Heap) (l:List (List FC)),s=⟨t,[],H1⟩∧m=n+1-i∧a+1≤i∧(i≤e∨i=a+1)∧t.g 0=.c (.sl b 0 n 0 ep sz)∧t.g 1=vi a∧t.g 2=vi e∧t.g 3=cv∧t.g 8=vi i ∧
  Fm b H H1∧RB H1 b sz ep l∧Seg a e rows l∧Up c a i l) _
  ⟨a+1,_,H,rows,rfl,rfl,by omega,.inr rfl,by simp,by simp,by simp,by simp,by simp,Fm.refl H,hrb,Seg.refl _ _ _,Up.one (by omega)⟩ ?_
 rintro m s ⟨i,t,H1,l,rfl,rfl,hi1,hi,g0,g1,g2,g3,g8,hfr,hrb,hseg,hup⟩ ih
 have hlen:=hseg.len
 refine ak ?_
 refine ak (aj (.inl rfl) ?_)
 simp [g8,g2]
 by_cases hlt:i<e
 case neg=>
  refine ay (by simp [hlt]) ?_
  refine bf (k':=[]) rfl ?_
  exact pW (hQ _ _ _ rfl rfl ⟨rfl,hfr,l,hrb,hseg,hup.mono (aw _) (by omega)⟩)
 refine aB (by simp [hlt]) (aG ?_)
 refine ak ?_
 refine aN ?_
 refine ak (aj (.inl rfl) ?_)
 simp [g8]
 refine aN ?_
 refine bK (fun m s=>∃(j:Nat) (t:T) (H2:Heap) (l2:List (List FC)),s=⟨t,[],H2⟩∧j=m∧a≤j∧j≤i∧t.g 0=.c (.sl b 0 n 0 ep sz)∧t.g 1=vi a∧t.g 2=vi e∧t.g 3=cv∧t.g 8=vi i∧t.g 9=vi j ∧
  Fm b H H2∧RB H2 b sz ep l2∧Seg a e rows l2∧Ins c a i j l2) i
  ⟨i,_,H1,l,rfl,rfl,by omega,by omega,by simp [g0],by simp [g1],by simp [g2],by simp [g3],by simp [g8],by simp,hfr,hrb,hseg,Ins.start hup⟩ ?_
 rintro m s ⟨j,t,H2,l2,rfl,rfl,hja,hji,g0,g1,g2,g3,g8,g9,hfr,hrb,hseg,hins⟩ ih2
 have hlen:=hseg.len
 have hg2:=hseg.grid hg
 have hW2:∀ r ∈ l2,W r:=fun r hr=>hW r (hseg.1.mem_iff.1 hr)
 have stop:Up c a (i+1) l2→∀ t:T,t.g 0=.c (.sl b 0 n 0 ep sz)→t.g 1=vi a→t.g 2=vi e→t.g 3=cv→t.g 8=vi i→∀ H3,Fm b H H3→RB H3 b sz ep l2 →
   WP tab σ.ins none [.inBlock 1,.code (Ho σ sz),.inLoop (SY σ sz),.inBlock 0] ⟨t,[],H3⟩ Q:=by
  intro hp t g0 g1 g2 g3 g8 H3 hfr hrb
  refine aK (aj (.inl rfl) ?_)
  simp [g8,wrap64 (n:=(i:Int)+1) (by omega) (by omega)]
  exact ih (n+1-(i+1)) _ (by omega) ⟨i+1,_,H3,l2,rfl,rfl,by omega,.inl (by omega),by simp [g0],by simp [g1],by simp [g2],by simp [g3],by simp,hfr,hrb,hseg,hp⟩
 refine ak ?_
 refine ak (aj (.inl rfl) ?_)
 by_cases hj:j=a
 ·subst hj
  simp [g9,g1]
  refine ay (by simp) ?_
  refine bf (k':=[.inBlock 1,.code (Ho σ sz),.inLoop (SY σ sz),.inBlock 0]) rfl ?_
  exact stop hins.front _ (by simp [g0]) (by simp [g1]) (by simp [g2]) (by simp [g3]) (by simp [g8]) _ hfr hrb
 obtain⟨k,rfl⟩:∃ k,j=k+1:=⟨j-1,by omega⟩
 have k1:k+1<l2.length:=by omega
 have c1:((k+1:Nat):Int)=(k:Int)+1:=by omega
 have i1:=hrb.at k1
 have i0:=hrb.at (show k<l2.length by omega)
 have l1:=hrb.ldi hg2 k1
 have l0:=hrb.ldi hg2 (show k<l2.length by omega)
 rw [hlen,hn]at i1 i0
 rw [c1]at i1 g9
 obtain⟨F,ar,J,fK,hev⟩:=hcv l2[k+1] l2[k] (hW2 _ (av _)) (hW2 _ (av _)) H2
 have he:=hev.eq
 have gt:(a:Int)<(k:Int)+1:=by omega
 simp [g9,g0,g1,g3,gt,i1,i0,l1,l0,fK,he,-aH,wrap64 (n:=(k:Int)) (by omega) (by omega)]
 by_cases hlt2:c l2[k+1] l2[k]<0
 case neg=>
  refine ay (by simp [hlt2]) ?_
  refine bf (k':=[.inBlock 1,.code (Ho σ sz),.inLoop (SY σ sz),.inBlock 0]) rfl ?_
  exact stop (hins.stop hc hW2 (by omega) hji (by omega) (LeI.of_le (ae (by omega)) (ae k1) hlt2)) _ (by simp [g0]) (by simp [g1]) (by simp [g2]) (by simp [g3]) (by simp [g8]) _ (hfr.trans (Fm.push _ _)) (hrb.push _)
 refine aB (by simp [hlt2]) (aG ?_)
 have w1:l2[k+1].length=sz:=hg2 _ (av _)
 have w0:l2[k].length=sz:=hg2 _ (av _)
 have Vh:=hrb.push J
 obtain⟨HJ,hHJ⟩:∃ HJ,HJ=H2++J:=⟨_,rfl⟩
 rw [←hHJ]at Vh ⊢
 have aTe:Fm b H HJ:=by rw [hHJ];exact hfr.trans (Fm.push _ _)
 have i1:=Vh.at k1
 have i0:=Vh.at (show k<l2.length by omega)
 have l1:=Vh.ldi hg2 k1
 have l0:=Vh.ldi hg2 (show k<l2.length by omega)
 obtain⟨H3,H4,s1,r1,s2,r2,f2⟩:=Vh.swap hg2 k1 (show k<l2.length by omega)
 have i2:=r1.at (show k<(l2.set (k+1) l2[k]).length by simp;omega)
 rw [List.length_set]at i2
 rw [hlen,hn]at i1 i0 i2
 rw [c1]at i1
 refine ak ?_
 refine aN ?_
 refine aj (.inl rfl) ?_
 simp [g9,g0,i1,i0,i2,l1,l0,s1,s2,w1,w0,-aH,-bI,wrap64 (n:=(k:Int)) (by omega) (by omega)]
 refine aK ?_
 refine aj (.inl rfl) ?_
 simp [g9,wrap64 (n:=(k:Int)) (by omega) (by omega)]
 exact ih2 k _ (by omega) ⟨k,_,H4,swp l2 (k+1) k,rfl,rfl,by omega,by omega,by simp [g0],by simp [g1],by simp [g2],by simp [g3],by simp [g8],by simp,aTe.trans f2,r2,
  hseg.trans (iL (by omega) (by omega) (by omega) (by omega) (by omega)),hins.step hc hW2 (by omega) hji (by omega) (ae k1) (ae (by omega)) hlt2⟩
end
end Km
end
section
namespace Km
open Go
section
variable{tab:Nat→Option AFunc}{σ:Srt}{sz:Nat}{H:Heap}{b ep:Nat}{rows:List (List FC)}{cv:V}{W:List FC→Prop}{c:List FC→List FC→Int}
theorem RB.swp(h:RB H b sz ep rows)(hg:Grid sz rows){n i j:Nat}(hn:rows.length=n)(hi:i<n)(hj:j<n):∃(x y:List FC) (H1 H2:Heap),rows[i]?=some x∧rows[j]?=some y ∧
  aU H sz none (.c (.sl b 0 n 0 ep sz)) (vi i)=some (.c (.ptr b (i*sz) ep))∧aU H sz none (.c (.sl b 0 n 0 ep sz)) (vi j)=some (.c (.ptr b (j*sz) ep)) ∧
  ldV H (some sz) (.c (.ptr b (i*sz) ep))=some (.a (x.map .f))∧ldV H (some sz) (.c (.ptr b (j*sz) ep))=some (.a (y.map .f))∧x.length=sz∧y.length=sz ∧
  stC H (.ptr b (i*sz) ep) (y.map .f)=some H1∧aU H1 sz none (.c (.sl b 0 n 0 ep sz)) (vi j)=some (.c (.ptr b (j*sz) ep))∧stC H1 (.ptr b (j*sz) ep) (x.map .f)=some H2∧RB H2 b sz ep (swp rows i j)∧Fm b H H2:=by
 subst hn
 obtain⟨H1,H2,s1,r1,s2,r2,f2⟩:=h.swap hg hi hj
 have i2:=r1.at (show j<(rows.set i rows[j]).length by simpa using hj)
 rw [List.length_set]at i2
 exact⟨rows[i],rows[j],H1,H2,ae hi,ae hj,h.at hi,h.at hj,h.ldi hg hi,h.ldi hg hj,hg _ (av _),hg _ (av _),s1,i2,s2,r2,f2⟩
theorem RB.ask(h:RB H b sz ep rows)(hg:Grid sz rows)(hcv:Cv tab cv W c)(hW:∀ r ∈ rows,W r){n i j:Nat}(hn:rows.length=n)(hi:i<n)(hj:j<n):∃(x y:List FC) (F:Nat) (ar:List V) (J:Heap),rows[i]?=some x∧rows[j]?=some y ∧
  aU H sz none (.c (.sl b 0 n 0 ep sz)) (vi i)=some (.c (.ptr b (i*sz) ep))∧aU H sz none (.c (.sl b 0 n 0 ep sz)) (vi j)=some (.c (.ptr b (j*sz) ep)) ∧
  ldV H (some sz) (.c (.ptr b (i*sz) ep))=some (.a (x.map .f))∧ldV H (some sz) (.c (.ptr b (j*sz) ep))=some (.a (y.map .f)) ∧
  dw cv [.a (x.map .f),.a (y.map .f)]=some (.fn F,ar)∧Ev tab (.fn F) ar H=E2 (vi (c x y)) (H++J)∧W x∧W y:=by
 subst hn
 obtain⟨F,ar,J,h1,h2⟩:=hcv rows[i] rows[j] (hW _ (av _)) (hW _ (av _)) H
 exact⟨rows[i],rows[j],F,ar,J,ae hi,ae hj,h.at hi,h.at hj,h.ldi hg hi,h.ldi hg hj,h1,h2.eq,hW _ (av _),hW _ (av _)⟩
theorem aEN(hT:tab σ.rev=some (RF σ sz)){n a e:Nat}(hn:rows.length=n)(hl:n≤1000000000)(hrb:RB H b sz ep rows)(hg:Grid sz rows)(hae:a<e)(hen:e≤n) :
  ∃ r H',Ev tab (.fn σ.rev) [.c (.sl b 0 n 0 ep sz),vi a,vi e,cv] H r H'∧(r=.t []∧Fm b H H'∧∃ l',RB H' b sz ep l'∧Seg a e rows l'):=by
 refine iT hT rfl fun Q hQ=>?_
 obtain⟨d,rfl⟩:∃ d,e=d+1:=⟨e-1,by omega⟩
 refine ak (aj (.inl rfl) ?_)
 simp
 refine ak (aj (.inl rfl) ?_)
 simp [wrap64 (n:=(d:Int)) (by omega) (by omega)]
 refine aN ?_
 refine bK (fun m s=>∃(i j:Nat) (t:T) (H1:Heap) (l:List (List FC)),s=⟨t,[],H1⟩∧m=n+1-i∧a≤i∧j≤d∧i≤j+1∧t.g 0=.c (.sl b 0 n 0 ep sz)∧t.g 8=vi i∧t.g 9=vi j ∧
  Fm b H H1∧RB H1 b sz ep l∧Seg a (d+1) rows l) _
  ⟨a,d,_,H,rows,rfl,rfl,by omega,by omega,by omega,by simp,by simp,by simp,Fm.refl H,hrb,Seg.refl _ _ _⟩ ?_
 rintro m s ⟨i,j,t,H1,l,rfl,rfl,hi1,hj1,hij,g0,g8,g9,hfr,hrb,hseg⟩ ih
 have hlen:=hseg.len
 refine ak ?_
 refine ak (aj (.inl rfl) ?_)
 simp [g8,g9]
 by_cases hlt:i<j
 case neg=>
  refine ay (by simp [hlt]) ?_
  refine bf (k':=[]) rfl ?_
  exact pW (hQ _ _ _ rfl rfl ⟨rfl,hfr,l,hrb,hseg⟩)
 refine aB (by simp [hlt]) (aG ?_)
 obtain⟨x,y,H2,H3,-,-,i1,j1,l1,l2,w1,w2,s1,j2,s2,r2,f2⟩:=hrb.swp (hseg.grid hg) (hlen.trans hn) (i:=i) (j:=j) (by omega) (by omega)
 refine aN ?_
 refine ak (aj (.inl rfl) ?_)
 simp [g0,g8,g9,i1,j1,l1,l2,w1,w2,s1,j2,s2,-aH,-bI]
 refine ak (aj (.inl rfl) ?_)
 simp [g8,wrap64 (n:=(i:Int)+1) (by omega) (by omega)]
 refine aj (.inl rfl) ?_
 simp [g9,wrap64 (n:=(j:Int)-1) (by omega) (by omega)]
 refine aK ?_
 refine ih (n+1-(i+1)) _ (by omega) ⟨i+1,j-1,_,H3,swp l i j,rfl,rfl,by omega,by omega,by omega,by simp [g0],by simp,by simp;omega,hfr.trans f2,r2,hseg.trans (iL (by omega) (by omega) (by omega) (by omega) (by omega))⟩
def NB(H:Heap)(p:Nat):Prop:=∃ k:Int,H[p]?=some (.box [.f (fi k)] 0)
theorem NB.push{p:Nat}(h:NB H p)(J:Heap):NB (H++J) p:=by
 obtain⟨k,h⟩:=h
 exact⟨k,by rw [ai (aF h)];exact h⟩
theorem aHX(hT:tab σ.ord=some (Bv σ sz))(hcv:Cv tab cv W c){n p i j:Nat}(hn:rows.length=n)(hrb:RB H b sz ep rows)(hg:Grid sz rows)(hW:∀ r ∈ rows,W r)(hi:i<n)(hj:j<n)(hp:NB H p)(hpb:p≠b) :
  ∃ r H',Ev tab (.fn σ.ord) [.c (.sl b 0 n 0 ep sz),vi i,vi j,.c (.ptr p 0 0),cv] H r H'∧((r=.t [vi i,vi j]∨r=.t [vi j,vi i])∧Fm p H H'∧NB H' p):=by
 refine iT hT rfl fun Q hQ=>?_
 obtain⟨x,y,F,ar,J,-,-,i1,j1,l1,l2,fK,he,-,-⟩:=hrb.ask hg hcv hW hn hj hi
 obtain⟨k,hp'⟩:=hp.push J
 have hpl:=aF hp'
 refine ak (aj (.inl rfl) ?_)
 simp
 refine ak ?_
 refine ak (aj (.inl rfl) ?_)
 simp [i1,j1,l1,l2,fK,he,-aH]
 by_cases hlt:c x y<0
 ·refine aB (by simp [hlt]) (ak (aj (.inl rfl) ?_))
  simp [hp']
  refine ak (aj (.inl rfl) ?_)
  simp
  refine aP (hQ _ _ (.t [vi j,vi i]) rfl (by simp [Km.results,bC]) ⟨.inr rfl,?_,?_⟩)
  ·exact(Fm.push _ _).trans (Fm.set _ _)
  ·exact⟨_,ax hpl⟩
 ·refine ay (by simp [hlt]) (aG (ak (aj (.inl rfl) ?_)))
  simp
  exact aP (hQ _ _ (.t [vi i,vi j]) rfl (by simp [Km.results,bC]) ⟨.inl rfl,Fm.push _ _,hp.push J⟩)
theorem aj9(hT:tab σ.med=some (Es σ sz))(hO:tab σ.ord=some (Bv σ sz))(hcv:Cv tab cv W c){n p i j k:Nat}(hn:rows.length=n)(hrb:RB H b sz ep rows)(hg:Grid sz rows)(hW:∀ r ∈ rows,W r)(hi:i<n)(hj:j<n)(hk:k<n)(hp:NB H p)(hpb:p≠b) :
  ∃ r H',Ev tab (.fn σ.med) [.c (.sl b 0 n 0 ep sz),vi i,vi j,vi k,.c (.ptr p 0 0),cv] H r H'∧((∃ q:Nat,r=vi q∧(q=i∨q=j∨q=k))∧Fm p H H'∧NB H' p):=by
 have key:∀ {H:Heap} {i j:Nat},RB H b sz ep rows→NB H p→i<n→j<n→∃(x y:Nat) (H':Heap),Ev tab (.fn σ.ord) [.c (.sl b 0 n 0 ep sz),vi i,vi j,.c (.ptr p 0 0),cv] H=E2 (.t [vi x,vi y]) H'∧(x=i∧y=j∨x=j∧y=i)∧Fm p H H'∧NB H' p:=by
  intro H i j hrb hp hi hj
  obtain⟨r,H',he,hr,hf,hb⟩:=aHX hO hcv hn hrb hg hW hi hj hp hpb
  rcases hr with rfl | rfl
  ·exact⟨i,j,H',he.eq,.inl ⟨rfl,rfl⟩,hf,hb⟩
  ·exact⟨j,i,H',he.eq,.inr ⟨rfl,rfl⟩,hf,hb⟩
 obtain⟨x1,y1,H1,e1,o1,f1,b1⟩:=key hrb hp hi hj
 have r1:RB H1 b sz ep rows:=f1.get hrb (Ne.symm hpb)
 obtain⟨x2,y2,H2,e2,o2,f2,b2⟩:=key r1 b1 (show y1<n by omega) hk
 have r2:RB H2 b sz ep rows:=f2.get r1 (Ne.symm hpb)
 obtain⟨x3,y3,H3,e3,o3,f3,b3⟩:=key r2 b2 (show x1<n by omega) (show x2<n by omega)
 refine iT hT rfl fun Q hQ=>?_
 refine ak (aj (.inl rfl) ?_)
 simp
 refine ak (aj (.inl rfl) ?_)
 simp [e1]
 refine ak (aj (.inl rfl) ?_)
 simp [e2]
 refine ak (aj (.inl rfl) ?_)
 simp [e3]
 refine ak (aj (.inl rfl) ?_)
 simp
 refine aP (hQ _ _ (vi y3) rfl (by simp [Km.results,bC]) ⟨⟨y3,rfl,by omega⟩,f1.trans (f2.trans f3),b3⟩)
theorem G6(hT:tab σ.BM=some (BL σ sz))(hM:tab σ.med=some (Es σ sz))(hO:tab σ.ord=some (Bv σ sz))(hcv:Cv tab cv W c){n p i:Nat}(hn:rows.length=n)(hl:n≤1000000000)(hrb:RB H b sz ep rows)(hg:Grid sz rows)(hW:∀ r ∈ rows,W r)(h0:0<i)(hi:i+1<n)(hp:NB H p)(hpb:p≠b) :
  ∃ r H',Ev tab (.fn σ.BM) [.c (.sl b 0 n 0 ep sz),vi i,.c (.ptr p 0 0),cv] H r H'∧((∃ q:Nat,r=vi q∧i≤q+1∧q≤i+1)∧Fm p H H'∧NB H' p):=by
 obtain⟨d,rfl⟩:∃ d,i=d+1:=⟨i-1,by omega⟩
 obtain⟨r,H',he,⟨q,rfl,hq⟩,hf,hb⟩:=aj9 (i:=d) (j:=d+1) (k:=d+1+1) hM hO hcv hn hrb hg hW (by omega) (by omega) hi hp hpb
 refine iT hT rfl fun Q hQ=>?_
 have he:=he.eq
 simp at he
 refine ak (aj (.inl rfl) ?_)
 simp
 refine ak (aj (.inl rfl) ?_)
 simp [wrap64 (n:=(d:Int)) (by omega) (by omega),wrap64 (n:=(d:Int)+1+1) (by omega) (by omega),he]
 exact aP (hQ _ _ (vi q) rfl (by simp [Km.results,bC]) ⟨⟨q,rfl,by omega,by omega⟩,hf,hb⟩)
def Kp(H H':Heap):Prop:=H.length≤H'.length∧∀ b':Nat,b'<H.length→H'[b']?=H[b']?
theorem Kp.fm{b:Nat}{H H':Heap}(h:Kp H H'):Fm b H H':=⟨h.1,fun b' _ l=>h.2 b' l⟩
theorem Kp.push(H J:Heap):Kp H (H++J):=⟨by simp,fun b' l=>ai l⟩
theorem Kp.next{H H' H'':Heap}{p:Nat}(h:Kp H H')(hp:H.length≤p)(h':Fm p H' H''):Kp H H'':=⟨bz h.1 h'.1,fun b' l=>(h'.2 b' (by omega) (cG l h.1)).trans (h.2 b' l)⟩
theorem Kp.rb{H H':Heap}{b sz ep:Nat}{rows:List (List FC)}(h:Kp H H')(hb:RB H b sz ep rows):RB H' b sz ep rows:=by
 unfold RB at *
 rw [h.2 b (aF hb)];exact hb
theorem awZ{a b:Nat}(hb:0<b)(ha:a≤9223372036854775807):bU .quo (vi a) (vi b)=some (vi ((a / b:Nat):Int)):=by
 have h1:(a / b:Nat)≤a:=Nat.div_le_self a b
 obtain⟨q,hq⟩:∃ q,q=a / b:=⟨_,rfl⟩
 have h2:((a:Int) / b)=(q:Int):=by rw [hq];simp
 have h3:q≤a:=by rw [hq];exact h1
 rw [←hq,Iq (by omega),Int.tdiv_eq_ediv_of_nonneg (by omega),h2,wrap64 (by omega) (by omega)]
theorem aFy(hT:tab σ.piv=some (RI σ sz))(hA:tab σ.BM=some (BL σ sz))(hM:tab σ.med=some (Es σ sz))(hO:tab σ.ord=some (Bv σ sz))(hcv:Cv tab cv W c){n a e:Nat}(hn:rows.length=n)(hl:n≤1000000000)(hrb:RB H b sz ep rows)(hg:Grid sz rows)(hW:∀ r ∈ rows,W r)(hae:a+8≤e)(hen:e≤n) :
  ∃ r H',Ev tab (.fn σ.piv) [.c (.sl b 0 n 0 ep sz),vi a,vi e,cv] H r H'∧((∃(q:Nat) (h:Int),r=.t [vi q,vi h]∧a≤q∧q<e)∧Kp H H'):=by
 obtain⟨L,rfl⟩:∃ L,e=a+L:=⟨e-a,by omega⟩
 obtain⟨d,hd⟩:∃ d,d=L / 4:=⟨_,rfl⟩
 have hq:bU .quo (vi (L:Int)) (vi 4)=some (vi (d:Int)):=by
  have:=awZ (a:=L) (b:=4) (by omega) (by omega)
  rw [hd];exact this
 have hbl:=hrb.lt
 have hw:IntKind.i64.wrap ((a:Int)+L-a)=L:=by rw [wrap64 (by omega) (by omega)];omega
 refine iT hT rfl fun Q hQ=>?_
 have fin:∀(t:T) (H2:Heap) (q:Nat),t.g 11=.c (.ptr H.length 0 0)→t.g 13=vi q→a≤q→q<a+L→NB H2 H.length→Kp H H2→WP tab σ.piv none [.code (MZ σ sz)] ⟨t,[],H2⟩ Q:=by
  intro t H2 q g11 g13 h1 h2 ⟨k,hk⟩ hkp
  refine ak (aj (.inl rfl) ?_)
  simp [g11,hk]
  refine aN ?_
  refine ak (aj (.inl rfl) ?_)
  simp
  by_cases k1:k=0
  ·refine aB (by simp [k1]) (ak (aj (.inl rfl) ?_))
   simp [g13]
   exact aP (hQ _ _ (.t [vi q,vi 1]) rfl (by simp [Km.results,bC]) ⟨⟨q,1,rfl,h1,h2⟩,hkp⟩)
  refine ay (by simp [k1]) ?_
  refine ak (aj (.inl rfl) ?_)
  simp
  by_cases k2:k=12
  ·refine aB (by simp [k2]) (ak (aj (.inl rfl) ?_))
   simp [g13]
   exact aP (hQ _ _ (.t [vi q,vi 2]) rfl (by simp [Km.results,bC]) ⟨⟨q,2,rfl,h1,h2⟩,hkp⟩)
  refine ay (by simp [k2]) ?_
  refine ak (aj (.inl rfl) ?_)
  simp [g13]
  exact aP (hQ _ _ (.t [vi q,vi 0]) rfl (by simp [Km.results,bC]) ⟨⟨q,0,rfl,h1,h2⟩,hkp⟩)
 have mid:∀(t:T) (H2:Heap) (i j k:Nat),t.g 0=.c (.sl b 0 n 0 ep sz)→t.g 3=cv→t.g 11=.c (.ptr H.length 0 0)→t.g 12=vi i→t.g 13=vi j→t.g 14=vi k→a≤i→i<a+L→a≤j→j<a+L→a≤k→k<a+L→NB H2 H.length→Kp H H2 →
   WP tab σ.piv none [.code (ajt σ sz),.code (MZ σ sz)] ⟨t,[],H2⟩ Q:=by
  intro t H2 i j k g0 g3 g11 g12 g13 g14 i1 i2 j1 j2 k1 k2 hnb hkp
  obtain⟨r,H3,he,⟨q,rfl,hq⟩,hf,hb3⟩:=aj9 (p:=H.length) (i:=i) (j:=j) (k:=k) hM hO hcv hn (hkp.rb hrb) hg hW (by omega) (by omega) (by omega) hnb (by omega)
  have he:=he.eq
  refine aj (.inl rfl) ?_
  simp [g0,g3,g11,g12,g13,g14,he]
  exact fin _ H3 q (by simp [g11]) (by simp) (by omega) (by omega) hb3 (hkp.next (aw _) hf)
 refine ak (aj (.inl rfl) ?_)
 simp
 refine ak (aj (.inl rfl) ?_)
 simp [hw]
 refine ak (aj (.inl rfl) ?_)
 simp
 refine ak (aj (.inl rfl) ?_)
 simp [hq,wrap64 (n:=(d:Int)) (by omega) (by omega),wrap64 (n:=(a:Int)+d) (by omega) (by omega)]
 refine ak (aj (.inl rfl) ?_)
 simp [hq,wrap64 (n:=(d:Int)*2) (by omega) (by omega),wrap64 (n:=(a:Int)+d*2) (by omega) (by omega)]
 refine ak (aj (.inl rfl) ?_)
 simp [hq,wrap64 (n:=(d:Int)*3) (by omega) (by omega),wrap64 (n:=(a:Int)+d*3) (by omega) (by omega)]
 refine ak ?_
 refine ak (aj (.inl rfl) ?_)
 simp
 refine aB (by simp;omega) ?_
 refine ak ?_
 refine ak (aj (.inl rfl) ?_)
 simp
 have hnb:NB (H++[.box [.f (fi 0)] 0]) H.length:=⟨0,by simp⟩
 have hkp:Kp H (H++[.box [.f (fi 0)] 0]):=Kp.push _ _
 by_cases h50:50≤L
 case neg=>
  refine ay (by simp;omega) (aG ?_)
  exact mid _ _ (a+d) (a+d*2) (a+d*3) (by simp) (by simp) (by simp) (by simp) (by simp) (by simp) (by omega) (by omega) (by omega) (by omega) (by omega) (by omega) hnb hkp
 refine aB (by simp;omega) ?_
 obtain⟨r1,H1,e1,⟨q1,rfl,hq1⟩,f1,b1⟩:=G6 (p:=H.length) (i:=a+d) hA hM hO hcv hn hl (hkp.rb hrb) hg hW (by omega) (by omega) hnb (by omega)
 have kp1:=hkp.next (aw _) f1
 obtain⟨r2,H2,e2,⟨q2,rfl,hq2⟩,f2,b2⟩:=G6 (p:=H.length) (i:=a+d*2) hA hM hO hcv hn hl (kp1.rb hrb) hg hW (by omega) (by omega) b1 (by omega)
 have kp2:=kp1.next (aw _) f2
 obtain⟨r3,H3,e3,⟨q3,rfl,hq3⟩,f3,b3⟩:=G6 (p:=H.length) (i:=a+d*3) hA hM hO hcv hn hl (kp2.rb hrb) hg hW (by omega) (by omega) b2 (by omega)
 have kp3:=kp2.next (aw _) f3
 have e1:=e1.eq
 have e2:=e2.eq
 have e3:=e3.eq
 simp at e1 e2 e3
 refine ak (aj (.inl rfl) ?_)
 simp [e1]
 refine ak (aj (.inl rfl) ?_)
 simp [e2]
 refine aj (.inl rfl) ?_
 simp [e3]
 exact mid _ _ q1 q2 q3 (by simp) (by simp) (by simp) (by simp) (by simp) (by simp) (by omega) (by omega) (by omega) (by omega) (by omega) (by omega) b3 kp3
end
end Km
end
section
namespace Km
open Go
section
variable{tab:Nat→Option AFunc}{σ:Srt}{sz:Nat}{cv:V}{W:List FC→Prop}{c:List FC→List FC→Int}
theorem ajE{n a e i j ep b:Nat}{rows:List (List FC)}{p:List FC}{H0:Heap}{k:List dI}{Q:Option ah→St→Prop}(hcv:Cv tab cv W c)(hn:rows.length=n)(hl:n≤1000000000)(hg:Grid sz rows)(hW:∀ r ∈ rows,W r)
  {t:T} {H:Heap} (hai:a<i) (hij:i≤j+1) (hje:j<e) (hen:e≤n) (hp:rows[a]?=some p)
  (g0:t.g 0=.c (.sl b 0 n 0 ep sz)) (g1:t.g 1=vi a) (g4:t.g 4=cv) (gi:t.g 12=vi i) (gj:t.g 13=vi j) (hfr:Fm b H0 H) (hrb:RB H b sz ep rows)
  (next:∀(t:T) (H:Heap) (i':Nat),(i≤i'∧i'≤j+1)→(∀(q:Nat) x,i≤q→q<i'→rows[q]?=some x→c x p<0)→(j<i'∨∀ x,rows[i']?=some x→¬ c x p<0) →
   t.g 0=.c (.sl b 0 n 0 ep sz)→t.g 1=vi a→t.g 4=cv→t.g 12=vi i'→t.g 13=vi j→Fm b H0 H→RB H b sz ep rows→WP tab σ.part none k ⟨t,[],H⟩ Q) :
  WP tab σ.part none (.code (ajH σ sz)::k) ⟨t,[],H⟩ Q:=by
 refine aN ?_
 refine bK (fun m s=>∃(q:Nat) (t:T) (H1:Heap),s=⟨t,[],H1⟩∧(q+m=j+1∧i≤q)∧(∀(r:Nat) x,i≤r→r<q→rows[r]?=some x→c x p<0) ∧
   t.g 0=.c (.sl b 0 n 0 ep sz)∧t.g 1=vi a∧t.g 4=cv∧t.g 12=vi q∧t.g 13=vi j∧Fm b H0 H1∧RB H1 b sz ep rows) (j+1-i)
  ⟨i,_,H,rfl,by omega,fun r x h1 h2=>by omega,g0,g1,g4,gi,gj,hfr,hrb⟩ ?_
 rintro m s ⟨q,t,H1,rfl,hm,fU,g0,g1,g4,gi,gj,hfr,hrb⟩ ih
 refine ak ?_
 refine ak (aj (.inl rfl) ?_)
 by_cases hlt:q≤j
 case neg=>
  simp [gi,gj,hlt]
  refine ay (by simp) ?_
  refine bf (k':=k) rfl ?_
  exact next _ _ q (by omega) fU (.inl (by omega)) (by simp [g0]) (by simp [g1]) (by simp [g4]) (by simp [gi]) (by simp [gj]) hfr hrb
 obtain⟨x,y,F,ar,J,hx,hy,i1,j1,l1,l2,fK,he,-,-⟩:=hrb.ask hg hcv hW hn (i:=q) (j:=a) (by omega) (by omega)
 simp [gi,gj,hlt,g0,g1,g4,i1,j1,l1,l2,fK,he,-aH]
 have ep:p=y:=by rw [hp]at hy;exact dm hy
 subst ep
 by_cases hc:c x p<0
 case neg=>
  refine ay (by simp [hc]) ?_
  refine bf (k':=k) rfl ?_
  refine next _ _ q (by omega) fU (.inr fun z hz=>?_) (by simp [g0]) (by simp [g1]) (by simp [g4]) (by simp [gi]) (by simp [gj]) (hfr.trans (Fm.push _ _)) (hrb.push _)
  rw [hx]at hz;cases hz;exact hc
 refine aB (by simp [hc]) (aG ?_)
 refine aN (aj (.inl rfl) ?_)
 simp [gi,gj,wrap64 (n:=(q:Int)+1) (by omega) (by omega)]
 refine aK (ih (m-1) _ (by omega) ⟨q+1,_,_,rfl,by omega,fun r z h1 h2 hz=>?_,by simp [g0],by simp [g1],by simp [g4],by simp,by simp [gj],hfr.trans (Fm.push _ _),hrb.push _⟩)
 by_cases hr:r=q
 ·subst hr;rw [hx]at hz;cases hz;exact hc
 ·exact fU r z (by omega) (by omega) hz
theorem ajG{n a e i j ep b:Nat}{rows:List (List FC)}{p:List FC}{H0:Heap}{k:List dI}{Q:Option ah→St→Prop}(hcv:Cv tab cv W c)(hn:rows.length=n)(hl:n≤1000000000)(hg:Grid sz rows)(hW:∀ r ∈ rows,W r)
  {t:T} {H:Heap} (hai:a<i) (hij:i≤j+1) (hje:j<e) (hen:e≤n) (hp:rows[a]?=some p)
  (g0:t.g 0=.c (.sl b 0 n 0 ep sz)) (g1:t.g 1=vi a) (g4:t.g 4=cv) (gi:t.g 12=vi i) (gj:t.g 13=vi j) (hfr:Fm b H0 H) (hrb:RB H b sz ep rows)
  (next:∀(t:T) (H:Heap) (j':Nat),(j'≤j∧i≤j'+1)→(∀(q:Nat) x,j'<q→q≤j→rows[q]?=some x→¬ c x p<0)→(j'<i∨∀ x,rows[j']?=some x→¬ ¬ c x p<0) →
   t.g 0=.c (.sl b 0 n 0 ep sz)→t.g 1=vi a→t.g 4=cv→t.g 12=vi i→t.g 13=vi j'→Fm b H0 H→RB H b sz ep rows→WP tab σ.part none k ⟨t,[],H⟩ Q) :
  WP tab σ.part none (.code (Si σ sz)::k) ⟨t,[],H⟩ Q:=by
 refine aN ?_
 refine bK (fun m s=>∃(q:Nat) (t:T) (H1:Heap),s=⟨t,[],H1⟩∧(q+1=i+m∧q≤j)∧(∀(r:Nat) x,q<r→r≤j→rows[r]?=some x→¬ c x p<0) ∧
   t.g 0=.c (.sl b 0 n 0 ep sz)∧t.g 1=vi a∧t.g 4=cv∧t.g 12=vi i∧t.g 13=vi q∧Fm b H0 H1∧RB H1 b sz ep rows) (j+1-i)
  ⟨j,_,H,rfl,by omega,fun r x h1 h2=>by omega,g0,g1,g4,gi,gj,hfr,hrb⟩ ?_
 rintro m s ⟨q,t,H1,rfl,hm,fU,g0,g1,g4,gi,gj,hfr,hrb⟩ ih
 refine ak ?_
 refine ak (aj (.inl rfl) ?_)
 by_cases hlt:i≤q
 case neg=>
  simp [gi,gj,hlt]
  refine ay (by simp) ?_
  refine bf (k':=k) rfl ?_
  exact next _ _ q (by omega) fU (.inl (by omega)) (by simp [g0]) (by simp [g1]) (by simp [g4]) (by simp [gi]) (by simp [gj]) hfr hrb
 obtain⟨x,y,F,ar,J,hx,hy,i1,j1,l1,l2,fK,he,-,-⟩:=hrb.ask hg hcv hW hn (i:=q) (j:=a) (by omega) (by omega)
 simp [gi,gj,hlt,g0,g1,g4,i1,j1,l1,l2,fK,he,-aH]
 have ep:p=y:=by rw [hp]at hy;exact dm hy
 subst ep
 by_cases hc:c x p<0
 case pos=>
  refine ay (by simp [hc]) ?_
  refine bf (k':=k) rfl ?_
  refine next _ _ q (by omega) fU (.inr fun z hz=>?_) (by simp [g0]) (by simp [g1]) (by simp [g4]) (by simp [gi]) (by simp [gj]) (hfr.trans (Fm.push _ _)) (hrb.push _)
  rw [hx]at hz;cases hz;exact fun h=>h hc
 refine aB (by simp [hc]) (aG ?_)
 refine aN (aj (.inl rfl) ?_)
 simp [gi,gj,wrap64 (n:=(q:Int)-1) (by omega) (by omega)]
 refine aK (ih (m-1) _ (by omega) ⟨q-1,_,_,rfl,by omega,fun r z h1 h2 hz=>?_,by simp [g0],by simp [g1],by simp [g4],by simp [gi],by simp;omega,hfr.trans (Fm.push _ _),hrb.push _⟩)
 by_cases hr:r=q
 ·subst hr;rw [hx]at hz;cases hz;exact hc
 ·exact fU r z (by omega) (by omega) hz
theorem ajD{n a e i j ep b:Nat}{rows:List (List FC)}{p:List FC}{H0:Heap}{k:List dI}{Q:Option ah→St→Prop}(hcv:Cv tab cv W c)(hn:rows.length=n)(hl:n≤1000000000)(hg:Grid sz rows)(hW:∀ r ∈ rows,W r)
  {t:T} {H:Heap} (hai:a<i) (hij:i≤j+1) (hje:j<e) (hen:e≤n) (hp:rows[a]?=some p)
  (g0:t.g 0=.c (.sl b 0 n 0 ep sz)) (g1:t.g 1=vi a) (g4:t.g 4=cv) (gi:t.g 12=vi i) (gj:t.g 13=vi j) (hfr:Fm b H0 H) (hrb:RB H b sz ep rows)
  (next:∀(t:T) (H:Heap) (i':Nat),(i≤i'∧i'≤j+1)→(∀(q:Nat) x,i≤q→q<i'→rows[q]?=some x→c x p<0)→(j<i'∨∀ x,rows[i']?=some x→¬ c x p<0) →
   t.g 0=.c (.sl b 0 n 0 ep sz)→t.g 1=vi a→t.g 4=cv→t.g 12=vi i'→t.g 13=vi j→Fm b H0 H→RB H b sz ep rows→WP tab σ.part none k ⟨t,[],H⟩ Q) :
  WP tab σ.part none (.code (RZ σ sz)::k) ⟨t,[],H⟩ Q:=by
 refine aN ?_
 refine bK (fun m s=>∃(q:Nat) (t:T) (H1:Heap),s=⟨t,[],H1⟩∧(q+m=j+1∧i≤q)∧(∀(r:Nat) x,i≤r→r<q→rows[r]?=some x→c x p<0) ∧
   t.g 0=.c (.sl b 0 n 0 ep sz)∧t.g 1=vi a∧t.g 4=cv∧t.g 12=vi q∧t.g 13=vi j∧Fm b H0 H1∧RB H1 b sz ep rows) (j+1-i)
  ⟨i,_,H,rfl,by omega,fun r x h1 h2=>by omega,g0,g1,g4,gi,gj,hfr,hrb⟩ ?_
 rintro m s ⟨q,t,H1,rfl,hm,fU,g0,g1,g4,gi,gj,hfr,hrb⟩ ih
 refine ak ?_
 refine ak (aj (.inl rfl) ?_)
 by_cases hlt:q≤j
 case neg=>
  simp [gi,gj,hlt]
  refine ay (by simp) ?_
  refine bf (k':=k) rfl ?_
  exact next _ _ q (by omega) fU (.inl (by omega)) (by simp [g0]) (by simp [g1]) (by simp [g4]) (by simp [gi]) (by simp [gj]) hfr hrb
 obtain⟨x,y,F,ar,J,hx,hy,i1,j1,l1,l2,fK,he,-,-⟩:=hrb.ask hg hcv hW hn (i:=q) (j:=a) (by omega) (by omega)
 simp [gi,gj,hlt,g0,g1,g4,i1,j1,l1,l2,fK,he,-aH]
 have ep:p=y:=by rw [hp]at hy;exact dm hy
 subst ep
 by_cases hc:c x p<0
 case neg=>
  refine ay (by simp [hc]) ?_
  refine bf (k':=k) rfl ?_
  refine next _ _ q (by omega) fU (.inr fun z hz=>?_) (by simp [g0]) (by simp [g1]) (by simp [g4]) (by simp [gi]) (by simp [gj]) (hfr.trans (Fm.push _ _)) (hrb.push _)
  rw [hx]at hz;cases hz;exact hc
 refine aB (by simp [hc]) (aG ?_)
 refine aN (aj (.inl rfl) ?_)
 simp [gi,gj,wrap64 (n:=(q:Int)+1) (by omega) (by omega)]
 refine aK (ih (m-1) _ (by omega) ⟨q+1,_,_,rfl,by omega,fun r z h1 h2 hz=>?_,by simp [g0],by simp [g1],by simp [g4],by simp,by simp [gj],hfr.trans (Fm.push _ _),hrb.push _⟩)
 by_cases hr:r=q
 ·subst hr;rw [hx]at hz;cases hz;exact hc
 ·exact fU r z (by omega) (by omega) hz
theorem ajF{n a e i j ep b:Nat}{rows:List (List FC)}{p:List FC}{H0:Heap}{k:List dI}{Q:Option ah→St→Prop}(hcv:Cv tab cv W c)(hn:rows.length=n)(hl:n≤1000000000)(hg:Grid sz rows)(hW:∀ r ∈ rows,W r)
  {t:T} {H:Heap} (hai:a<i) (hij:i≤j+1) (hje:j<e) (hen:e≤n) (hp:rows[a]?=some p)
  (g0:t.g 0=.c (.sl b 0 n 0 ep sz)) (g1:t.g 1=vi a) (g4:t.g 4=cv) (gi:t.g 12=vi i) (gj:t.g 13=vi j) (hfr:Fm b H0 H) (hrb:RB H b sz ep rows)
  (next:∀(t:T) (H:Heap) (j':Nat),(j'≤j∧i≤j'+1)→(∀(q:Nat) x,j'<q→q≤j→rows[q]?=some x→¬ c x p<0)→(j'<i∨∀ x,rows[j']?=some x→¬ ¬ c x p<0) →
   t.g 0=.c (.sl b 0 n 0 ep sz)→t.g 1=vi a→t.g 4=cv→t.g 12=vi i→t.g 13=vi j'→Fm b H0 H→RB H b sz ep rows→WP tab σ.part none k ⟨t,[],H⟩ Q) :
  WP tab σ.part none (.code (RY σ sz)::k) ⟨t,[],H⟩ Q:=by
 refine aN ?_
 refine bK (fun m s=>∃(q:Nat) (t:T) (H1:Heap),s=⟨t,[],H1⟩∧(q+1=i+m∧q≤j)∧(∀(r:Nat) x,q<r→r≤j→rows[r]?=some x→¬ c x p<0) ∧
   t.g 0=.c (.sl b 0 n 0 ep sz)∧t.g 1=vi a∧t.g 4=cv∧t.g 12=vi i∧t.g 13=vi q∧Fm b H0 H1∧RB H1 b sz ep rows) (j+1-i)
  ⟨j,_,H,rfl,by omega,fun r x h1 h2=>by omega,g0,g1,g4,gi,gj,hfr,hrb⟩ ?_
 rintro m s ⟨q,t,H1,rfl,hm,fU,g0,g1,g4,gi,gj,hfr,hrb⟩ ih
 refine ak ?_
 refine ak (aj (.inl rfl) ?_)
 by_cases hlt:i≤q
 case neg=>
  simp [gi,gj,hlt]
  refine ay (by simp) ?_
  refine bf (k':=k) rfl ?_
  exact next _ _ q (by omega) fU (.inl (by omega)) (by simp [g0]) (by simp [g1]) (by simp [g4]) (by simp [gi]) (by simp [gj]) hfr hrb
 obtain⟨x,y,F,ar,J,hx,hy,i1,j1,l1,l2,fK,he,-,-⟩:=hrb.ask hg hcv hW hn (i:=q) (j:=a) (by omega) (by omega)
 simp [gi,gj,hlt,g0,g1,g4,i1,j1,l1,l2,fK,he,-aH]
 have ep:p=y:=by rw [hp]at hy;exact dm hy
 subst ep
 by_cases hc:c x p<0
 case pos=>
  refine ay (by simp [hc]) ?_
  refine bf (k':=k) rfl ?_
  refine next _ _ q (by omega) fU (.inr fun z hz=>?_) (by simp [g0]) (by simp [g1]) (by simp [g4]) (by simp [gi]) (by simp [gj]) (hfr.trans (Fm.push _ _)) (hrb.push _)
  rw [hx]at hz;cases hz;exact fun h=>h hc
 refine aB (by simp [hc]) (aG ?_)
 refine aN (aj (.inl rfl) ?_)
 simp [gi,gj,wrap64 (n:=(q:Int)-1) (by omega) (by omega)]
 refine aK (ih (m-1) _ (by omega) ⟨q-1,_,_,rfl,by omega,fun r z h1 h2 hz=>?_,by simp [g0],by simp [g1],by simp [g4],by simp [gi],by simp;omega,hfr.trans (Fm.push _ _),hrb.push _⟩)
 by_cases hr:r=q
 ·subst hr;rw [hx]at hz;cases hz;exact hc
 ·exact fU r z (by omega) (by omega) hz
theorem aGc{n a e i j ep b:Nat}{rows:List (List FC)}{p:List FC}{H0:Heap}{k:List dI}{Q:Option ah→St→Prop}(hcv:Cv tab cv W c)(hn:rows.length=n)(hl:n≤1000000000)(hg:Grid sz rows)(hW:∀ r ∈ rows,W r)
  {t:T} {H:Heap} (hai:a<i) (hij:i≤j+1) (hje:j<e) (hen:e≤n) (hp:rows[a]?=some p)
  (g0:t.g 0=.c (.sl b 0 n 0 ep sz)) (g1:t.g 1=vi a) (g4:t.g 4=cv) (gi:t.g 11=vi i) (gj:t.g 12=vi j) (hfr:Fm b H0 H) (hrb:RB H b sz ep rows)
  (next:∀(t:T) (H:Heap) (i':Nat),(i≤i'∧i'≤j+1)→(∀(q:Nat) x,i≤q→q<i'→rows[q]?=some x→¬ c p x<0)→(j<i'∨∀ x,rows[i']?=some x→¬ ¬ c p x<0) →
   t.g 0=.c (.sl b 0 n 0 ep sz)→t.g 1=vi a→t.g 4=cv→t.g 11=vi i'→t.g 12=vi j→Fm b H0 H→RB H b sz ep rows→WP tab σ.peq none k ⟨t,[],H⟩ Q) :
  WP tab σ.peq none (.code (ajy σ sz)::k) ⟨t,[],H⟩ Q:=by
 refine aN ?_
 refine bK (fun m s=>∃(q:Nat) (t:T) (H1:Heap),s=⟨t,[],H1⟩∧(q+m=j+1∧i≤q)∧(∀(r:Nat) x,i≤r→r<q→rows[r]?=some x→¬ c p x<0) ∧
   t.g 0=.c (.sl b 0 n 0 ep sz)∧t.g 1=vi a∧t.g 4=cv∧t.g 11=vi q∧t.g 12=vi j∧Fm b H0 H1∧RB H1 b sz ep rows) (j+1-i)
  ⟨i,_,H,rfl,by omega,fun r x h1 h2=>by omega,g0,g1,g4,gi,gj,hfr,hrb⟩ ?_
 rintro m s ⟨q,t,H1,rfl,hm,fU,g0,g1,g4,gi,gj,hfr,hrb⟩ ih
 refine ak ?_
 refine ak (aj (.inl rfl) ?_)
 by_cases hlt:q≤j
 case neg=>
  simp [gi,gj,hlt]
  refine ay (by simp) ?_
  refine bf (k':=k) rfl ?_
  exact next _ _ q (by omega) fU (.inl (by omega)) (by simp [g0]) (by simp [g1]) (by simp [g4]) (by simp [gi]) (by simp [gj]) hfr hrb
 obtain⟨x,y,F,ar,J,hx,hy,i1,j1,l1,l2,fK,he,-,-⟩:=hrb.ask hg hcv hW hn (i:=a) (j:=q) (by omega) (by omega)
 simp [gi,gj,hlt,g0,g1,g4,i1,j1,l1,l2,fK,he,-aH]
 have ep:p=x:=by rw [hp]at hx;exact dm hx
 subst ep
 by_cases hc:c p y<0
 case pos=>
  refine ay (by simp [hc]) ?_
  refine bf (k':=k) rfl ?_
  refine next _ _ q (by omega) fU (.inr fun z hz=>?_) (by simp [g0]) (by simp [g1]) (by simp [g4]) (by simp [gi]) (by simp [gj]) (hfr.trans (Fm.push _ _)) (hrb.push _)
  rw [hy]at hz;cases hz;exact fun h=>h hc
 refine aB (by simp [hc]) (aG ?_)
 refine aN (aj (.inl rfl) ?_)
 simp [gi,gj,wrap64 (n:=(q:Int)+1) (by omega) (by omega)]
 refine aK (ih (m-1) _ (by omega) ⟨q+1,_,_,rfl,by omega,fun r z h1 h2 hz=>?_,by simp [g0],by simp [g1],by simp [g4],by simp,by simp [gj],hfr.trans (Fm.push _ _),hrb.push _⟩)
 by_cases hr:r=q
 ·subst hr;rw [hy]at hz;cases hz;exact hc
 ·exact fU r z (by omega) (by omega) hz
theorem aGe{n a e i j ep b:Nat}{rows:List (List FC)}{p:List FC}{H0:Heap}{k:List dI}{Q:Option ah→St→Prop}(hcv:Cv tab cv W c)(hn:rows.length=n)(hl:n≤1000000000)(hg:Grid sz rows)(hW:∀ r ∈ rows,W r)
  {t:T} {H:Heap} (hai:a<i) (hij:i≤j+1) (hje:j<e) (hen:e≤n) (hp:rows[a]?=some p)
  (g0:t.g 0=.c (.sl b 0 n 0 ep sz)) (g1:t.g 1=vi a) (g4:t.g 4=cv) (gi:t.g 11=vi i) (gj:t.g 12=vi j) (hfr:Fm b H0 H) (hrb:RB H b sz ep rows)
  (next:∀(t:T) (H:Heap) (j':Nat),(j'≤j∧i≤j'+1)→(∀(q:Nat) x,j'<q→q≤j→rows[q]?=some x→c p x<0)→(j'<i∨∀ x,rows[j']?=some x→¬ c p x<0) →
   t.g 0=.c (.sl b 0 n 0 ep sz)→t.g 1=vi a→t.g 4=cv→t.g 11=vi i→t.g 12=vi j'→Fm b H0 H→RB H b sz ep rows→WP tab σ.peq none k ⟨t,[],H⟩ Q) :
  WP tab σ.peq none (.code (ajx σ sz)::k) ⟨t,[],H⟩ Q:=by
 refine aN ?_
 refine bK (fun m s=>∃(q:Nat) (t:T) (H1:Heap),s=⟨t,[],H1⟩∧(q+1=i+m∧q≤j)∧(∀(r:Nat) x,q<r→r≤j→rows[r]?=some x→c p x<0) ∧
   t.g 0=.c (.sl b 0 n 0 ep sz)∧t.g 1=vi a∧t.g 4=cv∧t.g 11=vi i∧t.g 12=vi q∧Fm b H0 H1∧RB H1 b sz ep rows) (j+1-i)
  ⟨j,_,H,rfl,by omega,fun r x h1 h2=>by omega,g0,g1,g4,gi,gj,hfr,hrb⟩ ?_
 rintro m s ⟨q,t,H1,rfl,hm,fU,g0,g1,g4,gi,gj,hfr,hrb⟩ ih
 refine ak ?_
 refine ak (aj (.inl rfl) ?_)
 by_cases hlt:i≤q
 case neg=>
  simp [gi,gj,hlt]
  refine ay (by simp) ?_
  refine bf (k':=k) rfl ?_
  exact next _ _ q (by omega) fU (.inl (by omega)) (by simp [g0]) (by simp [g1]) (by simp [g4]) (by simp [gi]) (by simp [gj]) hfr hrb
 obtain⟨x,y,F,ar,J,hx,hy,i1,j1,l1,l2,fK,he,-,-⟩:=hrb.ask hg hcv hW hn (i:=a) (j:=q) (by omega) (by omega)
 simp [gi,gj,hlt,g0,g1,g4,i1,j1,l1,l2,fK,he,-aH]
 have ep:p=x:=by rw [hp]at hx;exact dm hx
 subst ep
 by_cases hc:c p y<0
 case neg=>
  refine ay (by simp [hc]) ?_
  refine bf (k':=k) rfl ?_
  refine next _ _ q (by omega) fU (.inr fun z hz=>?_) (by simp [g0]) (by simp [g1]) (by simp [g4]) (by simp [gi]) (by simp [gj]) (hfr.trans (Fm.push _ _)) (hrb.push _)
  rw [hy]at hz;cases hz;exact hc
 refine aB (by simp [hc]) (aG ?_)
 refine aN (aj (.inl rfl) ?_)
 simp [gi,gj,wrap64 (n:=(q:Int)-1) (by omega) (by omega)]
 refine aK (ih (m-1) _ (by omega) ⟨q-1,_,_,rfl,by omega,fun r z h1 h2 hz=>?_,by simp [g0],by simp [g1],by simp [g4],by simp [gi],by simp;omega,hfr.trans (Fm.push _ _),hrb.push _⟩)
 by_cases hr:r=q
 ·subst hr;rw [hy]at hz;cases hz;exact hc
 ·exact fU r z (by omega) (by omega) hz
def DT(c:List FC→List FC→Int)(a i j e:Nat)(p:List FC)(l:List (List FC)):Prop:=
 l[a]?=some p∧(∀(k:Nat) x,a<k→k<i→l[k]?=some x→c x p<0)∧(∀(k:Nat) x,j<k→k<e→l[k]?=some x→¬ c x p<0)
def qj(c:List FC→List FC→Int)(a e m:Nat)(l:List (List FC)):Prop:=
 ∃ p,l[m]?=some p∧(∀(k:Nat) x,a≤k→k<m→l[k]?=some x→c x p<0)∧(∀(k:Nat) x,m<k→k<e→l[k]?=some x→¬ c x p<0)
theorem DT.swap{a i j e:Nat}{p:List FC}{l:List (List FC)}(h:DT c a i j e p l)(hai:a<i)(hij:i<j)(hjl:j<l.length)(hi:∀ x,l[i]?=some x→¬ c x p<0)(hj:∀ x,l[j]?=some x→c x p<0):DT c a (i+1) (j-1) e p (swp l i j):=by
 obtain⟨h0,h1,h2⟩:=h
 have g:∀ k,(swp l i j)[k]?=if k=j then l[i]? else if k=i then l[j]? else l[k]?:=fun k=>swp_get (by omega) hjl k
 refine⟨?_,fun k x k1 k2 hx=>?_,fun k x k1 k2 hx=>?_⟩
 ·rw [g,if_neg (by omega),if_neg (by omega)];exact h0
 ·rw [g,if_neg (by omega)]at hx
  by_cases e:k=i
  ·rw [if_pos e]at hx;exact hj x hx
  ·rw [if_neg e]at hx;exact h1 k x k1 (by omega) hx
 ·rw [g]at hx
  by_cases e:k=j
  ·rw [if_pos e]at hx;exact hi x hx
  ·rw [if_neg e,if_neg (by omega)]at hx;exact h2 k x (by omega) k2 hx
theorem DT.done{a i j e:Nat}{p:List FC}{l:List (List FC)}(h:DT c a i j e p l)(hai:a≤j)(hij:i=j+1)(hjl:j<l.length):qj c a e j (swp l j a):=by
 obtain⟨h0,h1,h2⟩:=h
 have g:∀ k,(swp l j a)[k]?=if k=a then l[j]? else if k=j then l[a]? else l[k]?:=fun k=>swp_get hjl (by omega) k
 refine⟨p,?_,fun k x k1 k2 hx=>?_,fun k x k1 k2 hx=>?_⟩
 ·rw [g]
  by_cases e:j=a
  ·rw [if_pos e,e];exact h0
  ·rw [if_neg e,if_pos rfl];exact h0
 ·rw [g]at hx
  by_cases e:k=a
  ·rw [if_pos e]at hx;exact h1 j x (by omega) (by omega) hx
  ·rw [if_neg e,if_neg (by omega)]at hx;exact h1 k x (by omega) (by omega) hx
 ·rw [g,if_neg (by omega),if_neg (by omega)]at hx
  exact h2 k x k1 k2 hx
theorem ax7{H:Heap}{rows:List (List FC)}{n a e v b ep:Nat}(hT:tab σ.part=some (GN σ sz))(hcv:Cv tab cv W c)(hn:rows.length=n)(hl:n≤1000000000)(hrb:RB H b sz ep rows)(hg:Grid sz rows)(hW:∀ r ∈ rows,W r)(hae:a<e)(hen:e≤n)(hav:a≤v)(hve:v<e) :
  ∃ r H',Ev tab (.fn σ.part) [.c (.sl b 0 n 0 ep sz),vi a,vi e,vi v,cv] H r H'∧((∃(m:Nat) (w:Bool),r=.t [vi m,vb w]∧a≤m∧m<e∧Fm b H H'∧∃ l',RB H' b sz ep l'∧Seg a e rows l'∧qj c a e m l')):=by
 refine iT hT rfl fun Q hQ=>?_
 obtain⟨d,rfl⟩:∃ d,e=d+1:=⟨e-1,by omega⟩
 obtain⟨x,p,H1,H2,hx,hp,i1,j1,l1,l2,w1,w2,s1,j2,s2,r2,f2⟩:=hrb.swp hg hn (i:=a) (j:=v) (by omega) (by omega)
 have sg1:Seg a (d+1) rows (swp rows a v):=iL (by omega) (by omega) (by omega) (by omega) (by omega)
 have pi1:DT c a (a+1) d (d+1) p (swp rows a v):=by
  refine⟨?_,fun k x k1 k2=>by omega,fun k x k1 k2=>by omega⟩
  rw [swp_get (by omega) (by omega)]
  by_cases e:a=v
  ·rw [if_pos e,e];exact hp
  ·rw [if_neg e,if_pos rfl];exact hp
 refine ak (aj (.inl rfl) ?_)
 simp
 refine ak (aj (.inl rfl) ?_)
 simp [i1,j1,l1,l2,w1,w2,s1,j2,s2,-aH,-bI]
 refine ak (aj (.inl rfl) ?_)
 simp [wrap64 (n:=(a:Int)+1) (by omega) (by omega),wrap64 (n:=(d:Int)) (by omega) (by omega)]
 refine ak ?_
 have Jh:∀(w:Bool) (t:T) (H3:Heap) (l:List (List FC)) (i j:Nat),a≤j→j<d+1→i=j+1→DT c a i j (d+1) p l→Seg a (d+1) rows l→Fm b H H3→RB H3 b sz ep l →
   ∃(x y:List FC) (H4 H5:Heap),aU H3 sz none (.c (.sl b 0 n 0 ep sz)) (vi j)=some (.c (.ptr b (j*sz) ep))∧aU H3 sz none (.c (.sl b 0 n 0 ep sz)) (vi a)=some (.c (.ptr b (a*sz) ep)) ∧
    ldV H3 (some sz) (.c (.ptr b (j*sz) ep))=some (.a (x.map .f))∧ldV H3 (some sz) (.c (.ptr b (a*sz) ep))=some (.a (y.map .f))∧x.length=sz∧y.length=sz ∧
    stC H3 (.ptr b (j*sz) ep) (y.map .f)=some H4∧aU H4 sz none (.c (.sl b 0 n 0 ep sz)) (vi a)=some (.c (.ptr b (a*sz) ep))∧stC H4 (.ptr b (a*sz) ep) (x.map .f)=some H5 ∧
    (a≤j∧j<d+1∧Fm b H H5∧∃ l',RB H5 b sz ep l'∧Seg a (d+1) rows l'∧qj c a (d+1) j l'):=by
  intro w t H3 l i j h1 h2 h3 hpi hsg hfr hrb
  have hlen:=hsg.len
  obtain⟨x,y,H4,H5,-,-,i1,j1,l1,l2,w1,w2,s1,j2,s2,r2,f2⟩:=hrb.swp (hsg.grid hg) (hlen.trans hn) (i:=j) (j:=a) (by omega) (by omega)
  exact⟨x,y,H4,H5,i1,j1,l1,l2,w1,w2,s1,j2,s2,h1,h2,hfr.trans f2,_,r2,hsg.trans (iL (by omega) (by omega) (by omega) (by omega) (by omega)),hpi.done h1 h3 (by omega)⟩
 have grid:∀ {l},Seg a (d+1) rows l→Grid sz l:=fun h=>h.grid hg
 have wall:∀ {l},Seg a (d+1) rows l→∀ r ∈ l,W r:=fun h r hr=>hW r (h.1.mem_iff.1 hr)
 refine ajE hcv (sg1.len.trans hn) hl (grid sg1) (wall sg1) (i:=a+1) (j:=d) (e:=d+1) (H0:=H) (by omega) (by omega) (by omega) hen pi1.1 (by simp) (by simp) (by simp) (by simp) (by simp) f2 r2 ?_
 intro t H3 i' hi1 fU hstop g0 g1 g4 gi gj hfr hrb
 refine ak ?_
 refine ajG hcv (sg1.len.trans hn) hl (grid sg1) (wall sg1) (i:=i') (j:=d) (e:=d+1) (H0:=H) (by omega) (by omega) (by omega) hen pi1.1 g0 g1 g4 gi gj hfr hrb ?_
 intro t H4 j' hj1 BX BU g0 g1 g4 gi gj hfr hrb
 have pi2:DT c a i' j' (d+1) p (swp rows a v):=⟨pi1.1,fun k x k1 k2 hx=>fU k x (by omega) k2 hx,fun k x k1 k2 hx=>BX k x k1 (by omega) hx⟩
 refine ak ?_
 refine ak (aj (.inl rfl) ?_)
 simp [gi,gj]
 by_cases hgt:j'<i'
 ·obtain⟨x,y,H5,H6,i1,j1,l1,l2,w1,w2,s1,j2,s2,hend⟩:=Jh true t H4 _ i' j' (by omega) (by omega) (by omega) pi2 sg1 hfr hrb
  refine aB (by simp [hgt]) (ak (aj (.inl rfl) ?_))
  simp [g0,g1,gj,i1,j1,l1,l2,w1,w2,s1,j2,s2,-aH,-bI]
  refine ak (aj (.inl rfl) ?_)
  simp [gj]
  exact aP (hQ _ _ (.t [vi j',vb true]) rfl (by simp [Km.results,bC]) ⟨j',true,rfl,hend⟩)
 refine ay (by simp [hgt]) (aG ?_)
 have ni:∀ x,(swp rows a v)[i']?=some x→¬ c x p<0:=by
  rcases hstop with h | h
  ·omega
  ·exact h
 have nj:∀ x,(swp rows a v)[j']?=some x→c x p<0:=by
  rcases BU with h | h
  ·omega
  ·exact fun x hx=>Classical.not_not.1 (h x hx)
 have hne:i'≠j':=by
  rintro rfl
  have hx:=ae (l:=swp rows a v) (i:=i') (by rw [Gh];omega)
  exact ni _ hx (nj _ hx)
 obtain⟨x5,y5,H5,H6,-,-,i1,j1,l1,l2,w1,w2,s1,j2,s2,r5,f5⟩:=hrb.swp (grid sg1) (sg1.len.trans hn) (i:=i') (j:=j') (by omega) (by omega)
 refine ak (aj (.inl rfl) ?_)
 simp [g0,gi,gj,i1,j1,l1,l2,w1,w2,s1,j2,s2,-aH,-bI]
 refine ak (aj (.inl rfl) ?_)
 simp [gi,wrap64 (n:=(i':Int)+1) (by omega) (by omega)]
 refine ak (aj (.inl rfl) ?_)
 simp [gj,wrap64 (n:=(j':Int)-1) (by omega) (by omega)]
 refine ak ?_
 refine aN ?_
 refine bK (fun m s=>∃(i j:Nat) (t:T) (H1:Heap) (l:List (List FC)),s=⟨t,[],H1⟩∧m=j+1-i∧a<i∧i≤j+1∧j<d+1∧t.g 0=.c (.sl b 0 n 0 ep sz)∧t.g 1=vi a∧t.g 4=cv∧t.g 12=vi i∧t.g 13=vi j ∧
   Fm b H H1∧RB H1 b sz ep l∧Seg a (d+1) rows l∧DT c a i j (d+1) p l) _
  ⟨i'+1,j'-1,_,H6,_,rfl,rfl,by omega,by omega,by omega,by simp [g0],by simp [g1],by simp [g4],by simp,by simp;omega,hfr.trans f5,r5,
   sg1.trans (iL (by omega) (by omega) (by omega) (by omega) (by rw [Gh];omega)),pi2.swap (by omega) (by omega) (by rw [Gh];omega) ni nj⟩ ?_
 rintro m s ⟨i,j,t,H1,l,rfl,rfl,hai,hij,hjd,g0,g1,g4,gi,gj,hfr,hrb,hsg,hpi⟩ ih
 have hlen:=hsg.len
 refine aN ?_
 refine ak ?_
 refine ajD hcv (hlen.trans hn) hl (grid hsg) (wall hsg) (i:=i) (j:=j) (e:=d+1) (H0:=H) hai hij hjd hen hpi.1 g0 g1 g4 gi gj hfr hrb ?_
 intro t H3 i' hi1 fU hstop g0 g1 g4 gi gj hfr hrb
 refine ak ?_
 refine ajF hcv (hlen.trans hn) hl (grid hsg) (wall hsg) (i:=i') (j:=j) (e:=d+1) (H0:=H) (by omega) (by omega) (by omega) hen hpi.1 g0 g1 g4 gi gj hfr hrb ?_
 intro t H4 j' hj1 BX BU g0 g1 g4 gi gj hfr hrb
 have pi2:DT c a i' j' (d+1) p l:=⟨hpi.1,fun k x k1 k2 hx=>by
   by_cases hk:k<i
   ·exact hpi.2.1 k x k1 hk hx
   ·exact fU k x (by omega) k2 hx,fun k x k1 k2 hx=>by
   by_cases hk:j<k
   ·exact hpi.2.2 k x hk k2 hx
   ·exact BX k x k1 (by omega) hx⟩
 refine ak ?_
 refine ak (aj (.inl rfl) ?_)
 simp [gi,gj]
 by_cases hgt:j'<i'
 ·obtain⟨x,y,H5,H6,i1,j1,l1,l2,w1,w2,s1,j2,s2,hend⟩:=Jh false t H4 _ i' j' (by omega) (by omega) (by omega) pi2 hsg hfr hrb
  refine aB (by simp [hgt]) ?_
  refine bf (k':=[.code (RX σ sz)]) rfl ?_
  refine ak (aj (.inl rfl) ?_)
  simp [g0,g1,gj,i1,j1,l1,l2,w1,w2,s1,j2,s2,-aH,-bI]
  refine ak (aj (.inl rfl) ?_)
  simp [gj]
  exact aP (hQ _ _ (.t [vi j',vb false]) rfl (by simp [Km.results,bC]) ⟨j',false,rfl,hend⟩)
 refine ay (by simp [hgt]) (aG ?_)
 have ni:∀ x,l[i']?=some x→¬ c x p<0:=by
  rcases hstop with h | h
  ·omega
  ·exact h
 have nj:∀ x,l[j']?=some x→c x p<0:=by
  rcases BU with h | h
  ·omega
  ·exact fun x hx=>Classical.not_not.1 (h x hx)
 have hne:i'≠j':=by
  rintro rfl
  have hx:=ae (l:=l) (i:=i') (by omega)
  exact ni _ hx (nj _ hx)
 obtain⟨x5,y5,H5,H6,-,-,i1,j1,l1,l2,w1,w2,s1,j2,s2,r5,f5⟩:=hrb.swp (grid hsg) (hlen.trans hn) (i:=i') (j:=j') (by omega) (by omega)
 refine ak (aj (.inl rfl) ?_)
 simp [g0,gi,gj,i1,j1,l1,l2,w1,w2,s1,j2,s2,-aH,-bI]
 refine ak (aj (.inl rfl) ?_)
 simp [gi,wrap64 (n:=(i':Int)+1) (by omega) (by omega)]
 refine aj (.inl rfl) ?_
 simp [gj,wrap64 (n:=(j':Int)-1) (by omega) (by omega)]
 exact aK (ih _ _ (by omega) ⟨i'+1,j'-1,_,H6,_,rfl,rfl,by omega,by omega,by omega,by simp [g0],by simp [g1],by simp [g4],by simp,by simp;omega,hfr.trans f5,r5,
   hsg.trans (iL (by omega) (by omega) (by omega) (by omega) (by omega)),pi2.swap (by omega) (by omega) (by omega) ni nj⟩)
end
end Km
end
section
namespace Km
open Go
section
variable{tab:Nat→Option AFunc}{σ:Srt}{sz:Nat}{cv:V}{W:List FC→Prop}{c:List FC→List FC→Int}
def VN(c:List FC→List FC→Int)(a i j e:Nat)(p:List FC)(l:List (List FC)):Prop:=
 l[a]?=some p∧(∀(k:Nat) x,a<k→k<i→l[k]?=some x→¬ c p x<0)∧(∀(k:Nat) x,j<k→k<e→l[k]?=some x→c p x<0)
theorem VN.swap{a i j e:Nat}{p:List FC}{l:List (List FC)}(h:VN c a i j e p l)(hai:a<i)(hij:i<j)(hjl:j<l.length)(hi:∀ x,l[i]?=some x→c p x<0)(hj:∀ x,l[j]?=some x→¬ c p x<0):VN c a (i+1) (j-1) e p (swp l i j):=by
 obtain⟨h0,h1,h2⟩:=h
 have g:∀ k,(swp l i j)[k]?=if k=j then l[i]? else if k=i then l[j]? else l[k]?:=fun k=>swp_get (by omega) hjl k
 refine⟨?_,fun k x k1 k2 hx=>?_,fun k x k1 k2 hx=>?_⟩
 ·rw [g,if_neg (by omega),if_neg (by omega)];exact h0
 ·rw [g,if_neg (by omega)]at hx
  by_cases e:k=i
  ·rw [if_pos e]at hx;exact hj x hx
  ·rw [if_neg e]at hx;exact h1 k x k1 (by omega) hx
 ·rw [g]at hx
  by_cases e:k=j
  ·rw [if_pos e]at hx;exact hi x hx
  ·rw [if_neg e,if_neg (by omega)]at hx;exact h2 k x (by omega) k2 hx
theorem aGd{H:Heap}{rows:List (List FC)}{n a e v b ep:Nat}{p:List FC}(hT:tab σ.peq=some (RU σ sz))(hcv:Cv tab cv W c)(hcm:Cmp W c)(hn:rows.length=n)(hl:n≤1000000000)(hrb:RB H b sz ep rows)(hg:Grid sz rows)(hW:∀ r ∈ rows,W r)(hae:a<e)(hen:e≤n)(hav:a≤v)(hve:v<e)(hpv:rows[v]?=some p) :
  ∃ r H',Ev tab (.fn σ.peq) [.c (.sl b 0 n 0 ep sz),vi a,vi e,vi v,cv] H r H'∧((∃(m:Nat),r=vi m∧a<m∧m≤e∧Fm b H H'∧∃ l',RB H' b sz ep l'∧Seg a e rows l'∧(∀(k:Nat) x,a≤k→k<m→l'[k]?=some x→¬ c p x<0)∧(∀(k:Nat) x,m≤k→k<e→l'[k]?=some x→c p x<0))):=by
 refine iT hT rfl fun Q hQ=>?_
 obtain⟨d,rfl⟩:∃ d,e=d+1:=⟨e-1,by omega⟩
 obtain⟨x,p',H1,H2,hx,hp',i1,j1,l1,l2,w1,w2,s1,j2,s2,r2,f2⟩:=hrb.swp hg hn (i:=a) (j:=v) (by omega) (by omega)
 obtain rfl:p=p':=by rw [hpv]at hp';exact dm hp'
 have hself:¬ c p p<0:=fun h=>hcm.asym (hW _ (aD hpv)) (hW _ (aD hpv)) h h
 have sg1:Seg a (d+1) rows (swp rows a v):=iL (by omega) (by omega) (by omega) (by omega) (by omega)
 have pi1:VN c a (a+1) d (d+1) p (swp rows a v):=by
  refine⟨?_,fun k x k1 k2=>by omega,fun k x k1 k2=>by omega⟩
  rw [swp_get (by omega) (by omega)]
  by_cases e:a=v
  ·rw [if_pos e,e];exact hpv
  ·rw [if_neg e,if_pos rfl];exact hpv
 refine ak (aj (.inl rfl) ?_)
 simp
 refine ak (aj (.inl rfl) ?_)
 simp [i1,j1,l1,l2,w1,w2,s1,j2,s2,-aH,-bI]
 refine ak (aj (.inl rfl) ?_)
 simp [wrap64 (n:=(a:Int)+1) (by omega) (by omega),wrap64 (n:=(d:Int)) (by omega) (by omega)]
 refine ak ?_
 have grid:∀ {l},Seg a (d+1) rows l→Grid sz l:=fun h=>h.grid hg
 have wall:∀ {l},Seg a (d+1) rows l→∀ r ∈ l,W r:=fun h r hr=>hW r (h.1.mem_iff.1 hr)
 refine aN ?_
 refine bK (fun m s=>∃(i j:Nat) (t:T) (H1:Heap) (l:List (List FC)),s=⟨t,[],H1⟩∧m=j+1-i∧a<i∧i≤j+1∧j<d+1∧t.g 0=.c (.sl b 0 n 0 ep sz)∧t.g 1=vi a∧t.g 4=cv∧t.g 11=vi i∧t.g 12=vi j ∧
   Fm b H H1∧RB H1 b sz ep l∧Seg a (d+1) rows l∧VN c a i j (d+1) p l) _
  ⟨a+1,d,_,H2,_,rfl,rfl,by omega,by omega,by omega,by simp,by simp,by simp,by simp,by simp,f2,r2,sg1,pi1⟩ ?_
 rintro m s ⟨i,j,t,H1,l,rfl,rfl,hai,hij,hjd,g0,g1,g4,gi,gj,hfr,hrb,hsg,hpi⟩ ih
 have hlen:=hsg.len
 refine aN ?_
 refine ak ?_
 refine aGc hcv (hlen.trans hn) hl (grid hsg) (wall hsg) (i:=i) (j:=j) (e:=d+1) (H0:=H) hai hij hjd hen hpi.1 g0 g1 g4 gi gj hfr hrb ?_
 intro t H3 i' hi1 fU hstop g0 g1 g4 gi gj hfr hrb
 refine ak ?_
 refine aGe hcv (hlen.trans hn) hl (grid hsg) (wall hsg) (i:=i') (j:=j) (e:=d+1) (H0:=H) (by omega) (by omega) (by omega) hen hpi.1 g0 g1 g4 gi gj hfr hrb ?_
 intro t H4 j' hj1 BX BU g0 g1 g4 gi gj hfr hrb
 have pi2:VN c a i' j' (d+1) p l:=⟨hpi.1,fun k x k1 k2 hx=>by
   by_cases hk:k<i
   ·exact hpi.2.1 k x k1 hk hx
   ·exact fU k x (by omega) k2 hx,fun k x k1 k2 hx=>by
   by_cases hk:j<k
   ·exact hpi.2.2 k x hk k2 hx
   ·exact BX k x k1 (by omega) hx⟩
 refine ak ?_
 refine ak (aj (.inl rfl) ?_)
 simp [gi,gj]
 by_cases hgt:j'<i'
 ·refine aB (by simp [hgt]) ?_
  refine bf (k':=[.code (ajw σ sz)]) rfl ?_
  refine ak (aj (.inl rfl) ?_)
  simp [gi]
  refine aP (hQ _ _ (vi i') rfl (by simp [Km.results,bC]) ⟨i',rfl,by omega,by omega,hfr,l,hrb,hsg,fun q z k1 k2 hz=>?_,fun q z k1 k2 hz=>pi2.2.2 q z (by omega) k2 hz⟩)
  by_cases e:q=a
  ·rw [e,pi2.1]at hz;cases hz;exact hself
  ·exact pi2.2.1 q z (by omega) k2 hz
 refine ay (by simp [hgt]) (aG ?_)
 have ni:∀ x,l[i']?=some x→c p x<0:=by
  rcases hstop with h | h
  ·omega
  ·exact fun x hx=>Classical.not_not.1 (h x hx)
 have nj:∀ x,l[j']?=some x→¬ c p x<0:=by
  rcases BU with h | h
  ·omega
  ·exact h
 have hne:i'≠j':=by
  rintro rfl
  have hx:=ae (l:=l) (i:=i') (by omega)
  exact nj _ hx (ni _ hx)
 obtain⟨x5,y5,H5,H6,-,-,i1,j1,l1,l2,w1,w2,s1,j2,s2,r5,f5⟩:=hrb.swp (grid hsg) (hlen.trans hn) (i:=i') (j:=j') (by omega) (by omega)
 refine ak (aj (.inl rfl) ?_)
 simp [g0,gi,gj,i1,j1,l1,l2,w1,w2,s1,j2,s2,-aH,-bI]
 refine ak (aj (.inl rfl) ?_)
 simp [gi,wrap64 (n:=(i':Int)+1) (by omega) (by omega)]
 refine aj (.inl rfl) ?_
 simp [gj,wrap64 (n:=(j':Int)-1) (by omega) (by omega)]
 exact aK (ih _ _ (by omega) ⟨i'+1,j'-1,_,H6,_,rfl,rfl,by omega,by omega,by omega,by simp [g0],by simp [g1],by simp [g4],by simp,by simp;omega,hfr.trans f5,r5,
   hsg.trans (iL (by omega) (by omega) (by omega) (by omega) (by omega)),pi2.swap (by omega) (by omega) (by omega) ni nj⟩)
end
end Km
end
