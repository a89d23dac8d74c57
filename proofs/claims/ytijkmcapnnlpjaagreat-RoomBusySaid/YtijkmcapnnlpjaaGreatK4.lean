/-
  Our own small machine for Go code by value, held against the model: part 4. No program in sight.
-/
import Derived.Test.YtijkmcapnnlpjaaGreatK3
import Derived.ChangeArms
import Derived.DataReads
import Derived.Deep.Slices
import Derived.ProofKit
import Derived.RowKit3
import Derived.Below
import Derived.Carry
import Derived.Laws.IdiomArrays
set_option linter.unusedVariables false
set_option linter.unusedSimpArgs false
set_option linter.unusedSectionVars false
section
namespace Km
open Go
def oz{α:Type}(l:List α)(p:α→Bool):Int:=match l.findIdx? p with | some j=>j | none=>-1
theorem Uu{α:Type}(l:List α)(p:α→Bool):decide (0≤oz l p)=l.any p:=by
 unfold oz
 cases h:l.findIdx? p with
 | none=>
  rw [List.findIdx?_eq_none_iff]at h
  have:l.any p=false:=by rw [List.any_eq_false];intro x hx;simp [h x hx]
  simp [this]
 | some j=>
  rw [List.findIdx?_eq_some_iff_getElem]at h
  obtain⟨hj,hp,_⟩:=h
  have:l.any p=true:=by rw [List.any_eq_true];exact⟨l[j],List.getElem_mem hj,hp⟩
  simp [this]
theorem Uw{α:Type}{l:List α}{p:α→Bool}{j:Nat}(hj:j<l.length)(hp:p l[j]=true)(hn:∀(i:Nat) (hi:i<j),p (l[i]'(by omega))=false):oz l p=j:=by
 have:l.findIdx? p=some j:=by
  rw [List.findIdx?_eq_some_iff_getElem]
  exact⟨hj,hp,fun i hi=>by simp [hn i hi]⟩
 simp [oz,this]
theorem Ut{α:Type}{l:List α}{p:α→Bool}(hn:∀(i:Nat) (hi:i<l.length),p l[i]=false):oz l p = -1:=by
 have:l.findIdx? p=none:=by
  rw [List.findIdx?_eq_none_iff]
  intro x hx
  obtain⟨i,hi,rfl⟩:=List.getElem_of_mem hx
  exact hn i hi
 simp [oz,this]
def ints(l:List Int):List (List FC):=l.map fun n=>[fi n]
@[simp] theorem JJ (l:List Int):(ints l).length=l.length:=by simp [ints]
theorem Uk(l:List Int):Grid 1 (ints l):=Grid.map fun _=>rfl
theorem ou{j:Nat}{l:List Int}(hj:j<l.length){H:Heap}:ldV H none (.c (.f (.fp (ints l).flatten j)))=some (vi l[j]):=by
 have:=as8 (H:=H) (List.getElem?_eq_getElem hj)
 simpa [ints]using this
variable{tab:Nat→Option AFunc}
def atf(t:List aV):ah:=.block 1 (.seq (.region [⟨D 10,.mov (R 8),none⟩,⟨D 5,.mov (R 10),none⟩] []) (.seq
 (.region t []) (.cond (R 16) (.seq (.region [⟨D 17,.mov (R 5),none⟩,⟨D 4,.mov (R 17),none⟩] []) .ret) .skip)))
def aKG(t:List aV):AFunc:=⟨[P.nat 0,P.nat 1],[.tmp (P.nat 4)],.seq (.region [⟨D 4,.mov (.k (.c (.f (.int .i64 0)))),none⟩] [])
 (.seq (.seq (.region [⟨D 6,.mov (R 0),none⟩,⟨D 7,.len (R 6),none⟩,⟨D 8,.mov (.k (.c (.f (.int .i64 0)))),none⟩] []) (QZ 0 8 7 9 18 (atf t)))
 (.seq (.region [⟨D 4,.mov (.k (.c (.f (.int .i64 (-1))))),none⟩] []) .ret))⟩
def aFU:List aV:=[⟨D 11,.mov (R 1),none⟩,⟨D 12,.mov (R 0),none⟩,⟨D 13,.mov (R 5),none⟩,⟨D 14,.aF 1 none (R 12) (R 13),none⟩,⟨D 15,.load none (R 14),none⟩,⟨D 16,.bin .eql (R 11) (R 15),none⟩]
def aFW(sz:Nat)(ld:Option Nat):List aV:=[⟨D 11,.mov (R 1),none⟩,⟨D 12,.mov (R 0),none⟩,⟨D 13,.mov (R 5),none⟩,⟨D 14,.aF sz none (R 12) (R 13),none⟩,⟨D 15,.load ld (R 14),none⟩,⟨D 16,.bU (R 11) [(R 15)] true,none⟩]
theorem YR{f:Nat}{test:List aV}(ht:tab f=some (aKG test)){x y:V}{α:Type}{l:List α}{p:α→Bool}(hl:l.length≤9223372036854775807)
  (hx:∃ c,x=.c c∧∀ H,cO H c=some l.length)
  (aQY:∀(j:Nat) (hj:j<l.length) (t:T) (H:Heap) (L:St→Prop),t.g 0=x→t.g 1=y→t.g 5=vi j →
   (∀ t' J,t'.g 0=x→t'.g 1=y→t'.g 5=vi j→t'.g 7=t.g 7→t'.g 8=t.g 8→t'.g 16=vb (p l[j])→L ⟨t',[],H++J⟩)→OPS tab test ⟨t,[],H⟩ L) :
  Kf tab f [x,y] (vi (oz l p)):=by
 obtain⟨c,rfl,hc⟩:=hx
 refine eG ht rfl fun H Q hQ=>?_
 refine ak ?_
 refine aj (.inl rfl) ?_
 simp
 refine ak ?_
 refine ak ?_
 refine aj (.inl rfl) ?_
 simp [hc]
 refine fA l.length (fun j t H'=>t.g 0=.c c∧t.g 1=y∧(∃ J,H'=H++J)∧∀(i:Nat) (hi:i<l.length),i<j→p l[i]=false) hl (by decide) (by decide) (by simp) (by simp) (by simp) ?_ ?_
 ·rintro j t _ hj ⟨h0,h1,⟨J,rfl⟩,h2⟩ ha hb next
  refine aP ?_
  refine ak ?_
  refine aj (.inl rfl) ?_
  simp [ha]
  refine ak ?_
  refine aj (.inl rfl) ?_
  refine aQY j hj _ _ _ (by simp [h0]) (by simp [h1]) (by simp) fun t' J' g0 g1 g5 g7 g8 g16=>?_
  cases hv:p l[j]with
  | true=>
   refine aC (by simp [g16,hv]) ?_
   refine ak ?_
   refine aj (.inl rfl) ?_
   simp [g5]
   refine aO (hQ _ _ ?_)
   have:=Uw hj hv (fun i hi=>h2 i (by omega) hi)
   simp [this]
  | false=>
   refine aA (by simp [g16,hv]) ?_
   refine aK (aN (next _ _ ?_ (by simp [g8,ha]) (by simp [g7,hb])))
   refine⟨by simp [g0],by simp [g1],⟨J++J',by simp⟩,fun i hi hij=>?_⟩
   by_cases e:i=j
   ·subst e;exact hv
   ·exact h2 i hi (by omega)
 ·rintro t _ ⟨h0,h1,⟨J,rfl⟩,h2⟩ ha hb
  refine ak ?_
  refine aj (.inl rfl) ?_
  simp
  refine aO (hQ _ _ ?_)
  have:=Ut (l:=l) (p:=p) (fun i hi=>h2 i hi hi)
  simp [this]
theorem G8{f:Nat}(ht:tab f=some (aKG aFU))(g:Tg)(l:List Int)(v:Int)(hl:l.length≤9223372036854775807) :
  Kf tab f [.c (.f (sl g (ints l))),vi v] (vi (oz l (· == v))):=by
 refine YR ht hl ⟨_,rfl,fun H=>by simp⟩ ?_
 intro j hj t H L h0 h1 h5 hL
 simp [aFU,h0,h1,h5,bQ,hj,ou]
 have:=hL ((((((t.s 11 (vi v)).s 12 (.c (.f (sl g (ints l))))).s 13 (vi j)).s 14 (.c (.f (.fp (ints l).flatten j)))).s 15 (vi l[j])).s 16 (vb (decide (v=l[j])))) [] (by simp [h0]) (by simp [h1]) (by simp [h5]) (by simp) (by simp) (by
  have hd:decide (v=l[j])=(l[j] == v):=by rw [Bool.eq_iff_iff];simp;exact eq_comm
  simp only [T.g_s,if_true,hd])
 simpa using this
theorem oO{f sz:Nat}{ld:Option Nat}(ht:tab f=some (aKG (aFW sz ld))){α:Type}(l:List α)(enc:α→List FC)(val:α→V)(p:α→Bool)(g:Tg)(k:Nat)(caps:List FC)
  (hl:l.length≤9223372036854775807) (hload:∀(j:Nat) (hj:j<l.length) (H:Heap),ldV H ld (.c (.f (.fp (l.map enc).flatten (j*sz))))=some (val l[j]))
  (hp:∀ x ∈ l,Kf tab k (val x::caps.map fun c=>.c (.f c)) (vb (p x))) :
  Kf tab f [.c (.f (sl g (l.map enc))),.c (.f (.fn k caps))] (vi (oz l p)):=by
 refine YR ht hl ⟨_,rfl,fun H=>by simp⟩ ?_
 intro j hj t H L h0 h1 h5 hL
 have he:=(hp l[j] (List.getElem_mem hj)).ev H
 have hi:=bQ (H:=H) (g:=g) (rows:=l.map enc) (sz:=sz) (k:=.i64) (i:=(j:Int)) (by omega) (by simpa using hj)
 simp [aFW,h0,h1,h5,hi,hload j hj,he]
 exact hL _ _ (by simp [h0]) (by simp [h1]) (by simp [h5]) (by simp) (by simp) (by simp)
def UF(f:Nat):AFunc:=⟨[P.nat 0,P.nat 1],[.tmp (P.nat 4)],.seq (.region [⟨D 4,.mov (.k (.c (.f (.bool false)))),none⟩] []) (.seq
 (.region [⟨D 5,.mov (R 0),none⟩,⟨D 6,.mov (R 1),none⟩,⟨D 7,.call f [(R 5),(R 6)] false,none⟩,⟨D 8,.bin .geq (R 7) (.k (.c (.f (.int .i64 0)))),none⟩,⟨D 4,.mov (R 8),none⟩] []) .ret)⟩
theorem jY{f k:Nat}(ht:tab f=some (UF k)){a b:FC}{α:Type}{l:List α}{p:α→Bool}(h:Kf tab k [.c (.f a),.c (.f b)] (vi (oz l p))) :
  Kf tab f [.c (.f a),.c (.f b)] (vb (l.any p)):=by
 refine eG ht rfl fun H Q hQ=>?_
 refine ak ?_
 refine aj (.inl rfl) ?_
 simp
 refine ak ?_
 refine aj (.inl rfl) ?_
 have he:=h.eq
 simp [he]
 refine aO (hQ _ _ ?_)
 simp [Uu]
end Km
end
section
namespace Km
open Go
theorem aJ{H:Heap}{b:Nat}{x:Blk}(h:H[b]?=some x):b<H.length:=(List.getElem?_eq_some_iff.1 h).1
theorem gQ{α β:Type}{g g':α→Option β}:∀ {xs:List α} {ys:List β},(∀ x y,x ∈ xs→g x=some y→g' x=some y)→bD g xs=some ys→bD g' xs=some ys
 | [],ys,_,h=>h
 | x::xs,ys,hi,h=>by
  simp only [bD]at h ⊢
  cases hx:g x with
  | none=>simp [hx]at h
  | some y=>
   cases hxs:bD g xs with
   | none=>simp [hx,hxs]at h
   | some zs=>
    simp only [hx,hxs]at h
    rw [hi x y List.mem_cons_self hx,gQ (fun x y hm=>hi x y (List.mem_cons_of_mem _ hm)) hxs]
    exact h
theorem vG{α β:Type}{g:α→Option β}:∀ {xs:List α} {ys:List β},bD g xs=some ys→ys.length=xs.length
 | [],ys,h=>by simp [bD]at h;subst h;rfl
 | x::xs,ys,h=>by
  simp only [bD]at h
  cases hx:g x with
  | none=>simp [hx]at h
  | some y=>
   cases hxs:bD g xs with
   | none=>simp [hx,hxs]at h
   | some zs=>simp [hx,hxs]at h;subst h;simp [vG hxs]
theorem yh{α β:Type}{g:α→Option β}:∀ {xs xs':List α} {ys ys':List β},bD g xs=some ys→bD g xs'=some ys'→bD g (xs++xs')=some (ys++ys')
 | [],xs',ys,ys',h,h'=>by simp [bD]at h;subst h;simpa using h'
 | x::xs,xs',ys,ys',h,h'=>by
  simp only [bD,List.cons_append]at h ⊢
  cases hx:g x with
  | none=>simp [hx]at h
  | some y=>
   cases hxs:bD g xs with
   | none=>simp [hx,hxs]at h
   | some zs=>simp [hx,hxs]at h;subst h;simp [yh hxs h']
def exB:Nat→Heap→C→Option FC
 | _,_,.f x=>some x
 | 0,_,_=>none
 | n+1,H,.ptr b off _=>match H[b]? with
  | some (.box cs _)=>(bD (exB n H) cs).map (.fp · off)
  | _=>none
 | n+1,H,.sl b o l _ _ sz=>match H[b]? with
  | some (.box cs _)=>if o+l*sz≤cs.length then(bD (exB n H) ((cs.drop o).take (l*sz))).map (.fs · l)else none
  | _=>none
 | _+1,_,_=>none
@[simp] theorem J3 {n:Nat} {H:Heap} {x:FC}:exB n H (.f x)=some x:=by cases n<;>rfl
theorem Cj{n b o l c ep sz:Nat}{H:Heap}:exB (n+1) H (.sl b o l c ep sz)=match H[b]? with
  | some (.box cs _)=>if o+l*sz≤cs.length then(bD (exB n H) ((cs.drop o).take (l*sz))).map (.fs · l)else none
  | _=>none:=rfl
@[simp] theorem BK {n:Nat} {H:Heap}:∀(xs:List FC),bD (exB n H) (xs.map .f)=some xs
 | []=>rfl
 | x::xs=>by simp only [List.map_cons,bD,J3,BK xs]
theorem sJ{H H':Heap}(hb:∀(b:Nat) cs fl,H[b]?=some (.box cs fl)→∃ fl',H'[b]?=some (.box cs fl')):∀(n:Nat) (x:C) (y:FC),exB n H x=some y→exB n H' x=some y
 | n,.f x,y,h=>by simpa using h
 | 0,.ptr _ _ _,_,h=>by simp [exB]at h
 | 0,.sl _ _ _ _ _ _,_,h=>by simp [exB]at h
 | n+1,.ptr b off e,y,h=>by
  simp only [exB]at h ⊢
  split at h
  ·rename_i cs fl hcs
   obtain⟨fl',h'⟩:=hb b cs fl hcs
   simp only [h']
   rw [Option.map_eq_some_iff]at h ⊢
   obtain⟨zs,h1,h2⟩:=h
   exact⟨zs,gQ (fun x y _=>sJ hb n x y) h1,h2⟩
  ·simp at h
 | n+1,.sl b o l c e sz,y,h=>by
  simp only [exB]at h ⊢
  split at h
  ·rename_i cs fl hcs
   obtain⟨fl',h'⟩:=hb b cs fl hcs
   simp only [h']
   split at h
   ·rename_i hl
    rw [if_pos hl]
    rw [Option.map_eq_some_iff]at h ⊢
    obtain⟨zs,h1,h2⟩:=h
    exact⟨zs,gQ (fun x y _=>sJ hb n x y) h1,h2⟩
   ·simp at h
  ·simp at h
 | 0,.cl _ _,_,h=>by simp [exB]at h
 | 0,.yl _,_,h=>by simp [exB]at h
 | 0,.mp _,_,h=>by simp [exB]at h
 | 0,.it _,_,h=>by simp [exB]at h
 | 0,.bm _ _,_,h=>by simp [exB]at h
 | 0,.mi _,_,h=>by simp [exB]at h
 | _+1,.cl _ _,_,h=>by simp [exB]at h
 | _+1,.yl _,_,h=>by simp [exB]at h
 | _+1,.mp _,_,h=>by simp [exB]at h
 | _+1,.it _,_,h=>by simp [exB]at h
 | _+1,.bm _ _,_,h=>by simp [exB]at h
 | _+1,.mi _,_,h=>by simp [exB]at h
theorem Hw{H:Heap}:∀(n:Nat) (x:C) (y:FC),exB n H x=some y→exC n H x=some y
 | n,.f x,y,h=>by simpa using h
 | 0,.ptr _ _ _,_,h=>by simp [exB]at h
 | 0,.sl _ _ _ _ _ _,_,h=>by simp [exB]at h
 | n+1,.ptr b off e,y,h=>by
  simp only [exB]at h
  simp only [exC]
  split at h
  ·rename_i cs fl hcs
   try simp only [hcs]
   rw [Option.map_eq_some_iff]at h ⊢
   obtain⟨zs,h1,h2⟩:=h
   exact⟨zs,gQ (fun x y _=>Hw n x y) h1,h2⟩
  ·simp at h
 | n+1,.sl b o l c e sz,y,h=>by
  simp only [exB]at h
  simp only [exC]
  split at h
  ·rename_i cs fl hcs
   try simp only [hcs]
   split at h
   ·rename_i hl
    rw [if_pos hl]
    rw [Option.map_eq_some_iff]at h ⊢
    obtain⟨zs,h1,h2⟩:=h
    exact⟨zs,gQ (fun x y _=>Hw n x y) h1,h2⟩
   ·simp at h
  ·simp at h
 | 0,.cl _ _,_,h=>by simp [exB]at h
 | 0,.yl _,_,h=>by simp [exB]at h
 | 0,.mp _,_,h=>by simp [exB]at h
 | 0,.it _,_,h=>by simp [exB]at h
 | 0,.bm _ _,_,h=>by simp [exB]at h
 | 0,.mi _,_,h=>by simp [exB]at h
 | _+1,.cl _ _,_,h=>by simp [exB]at h
 | _+1,.yl _,_,h=>by simp [exB]at h
 | _+1,.mp _,_,h=>by simp [exB]at h
 | _+1,.it _,_,h=>by simp [exB]at h
 | _+1,.bm _ _,_,h=>by simp [exB]at h
 | _+1,.mi _,_,h=>by simp [exB]at h
theorem Ou{H:Heap}:∀ {n m:Nat} {x:C} {y:FC},exB n H x=some y→n≤m→exB m H x=some y
 | n,m,.f x,y,h,_=>by simpa using h
 | 0,_,.ptr _ _ _,_,h,_=>by simp [exB]at h
 | 0,_,.sl _ _ _ _ _ _,_,h,_=>by simp [exB]at h
 | _+1,0,_,_,_,hm=>by omega
 | n+1,m+1,.ptr b off e,y,h,hm=>by
  simp only [exB]at h ⊢
  split at h
  ·rename_i cs fl hcs
   try simp only [hcs]
   rw [Option.map_eq_some_iff]at h ⊢
   obtain⟨zs,h1,h2⟩:=h
   exact⟨zs,gQ (fun x y _ hx=>Ou hx (by omega)) h1,h2⟩
  ·simp at h
 | n+1,m+1,.sl b o l c e sz,y,h,hm=>by
  simp only [exB]at h ⊢
  split at h
  ·rename_i cs fl hcs
   try simp only [hcs]
   split at h
   ·rename_i hl
    rw [if_pos hl]
    rw [Option.map_eq_some_iff]at h ⊢
    obtain⟨zs,h1,h2⟩:=h
    exact⟨zs,gQ (fun x y _ hx=>Ou hx (by omega)) h1,h2⟩
   ·simp at h
  ·simp at h
 | 0,_,.cl _ _,_,h,_=>by simp [exB]at h
 | 0,_,.yl _,_,h,_=>by simp [exB]at h
 | 0,_,.mp _,_,h,_=>by simp [exB]at h
 | 0,_,.it _,_,h,_=>by simp [exB]at h
 | 0,_,.bm _ _,_,h,_=>by simp [exB]at h
 | 0,_,.mi _,_,h,_=>by simp [exB]at h
 | _+1,_+1,.cl _ _,_,h,_=>by simp [exB]at h
 | _+1,_+1,.yl _,_,h,_=>by simp [exB]at h
 | _+1,_+1,.mp _,_,h,_=>by simp [exB]at h
 | _+1,_+1,.it _,_,h,_=>by simp [exB]at h
 | _+1,_+1,.bm _ _,_,h,_=>by simp [exB]at h
 | _+1,_+1,.mi _,_,h,_=>by simp [exB]at h
theorem aK3{H:Heap}{n m:Nat}{x:C}{y:FC}(h:exB n H x=some y)(hm:n≤m):exC m H x=some y:=Hw m x y (Ou h hm)
theorem Cm{H:Heap}(L:Heap){n:Nat}{x:C}{y:FC}(h:exB n H x=some y):exB n (H++L) x=some y:=
 sJ (fun b cs fl hb=>⟨fl,by rw [List.getElem?_append_left (aJ hb)];exact hb⟩) n x y h
def Tg.os:Tg→Os
 | .nil=>.nil
 | _=>.es
def LB(z:Bool)(H:Heap)(sz:Nat)(v:V)(g:Tg)(rows:List (List FC)):Prop:=
 (rows=[]∧v=.c (.f g.fc)∧g≠.fs) ∨
 ∃ b ep fl st cs,v=.c (.sl b 0 rows.length 0 ep sz)∧H[b]?=some (.opn sz cs fl ep st)∧bD (exB 60 H) cs=some rows.flatten∧fl≤cs.length∧(z=true→fl=0) ∧
  (rows=[]→st=g.os∧g≠.fs)∧(rows≠[]→st=.loc)
variable{z:Bool}{H H':Heap}{sz bytes:Nat}{v y:V}{g:Tg}{rows:List (List FC)}{row:List FC}{cs:List C}
theorem LB.push(h:LB z H sz v g rows)(L:Heap):LB z (H++L) sz v g rows:=by
 rcases h with h | ⟨b,ep,fl,st,cs,h1,h2,h3,h4⟩
 ·exact .inl h
 ·exact .inr ⟨b,ep,fl,st,cs,h1,by rw [List.getElem?_append_left (aJ h2)];exact h2,gQ (fun x y _=>Cm L) h3,h4⟩
theorem LB.es0:LB z H sz (.c (.f .es)) .es []:=.inl ⟨rfl,rfl,by decide⟩
theorem LB.app(h:LB z H sz v g rows)(hg:Grid sz rows)(hr:row.length=sz)(hsz:sz≠0)(hy:fE H sz y=some (1,cs))(hc:bD (exB 60 H) cs=some row)(hroom:bP (rows.length+1) bytes=true) :
  ∃ v' H',dh H sz bytes v y=some (v',H')∧LB z H' sz v' g (rows++[row])∧H.length≤H'.length∧(∀(b:Nat) cs fl,H[b]?=some (.box cs fl)→H'[b]?=some (.box cs fl)):=by
 rcases h with⟨rfl,rfl,hgs⟩ | ⟨b,ep,fl,st,ds,rfl,h2,h3,h3',hz,h4,h5⟩
 ·have hroom':bP 1 bytes=true:=by simpa using hroom
  refine⟨.c (.sl H.length 0 1 0 0 sz),H++[.opn sz cs 0 0 .loc],?_,?_,by simp,fun b cs fl hb=>by rw [List.getElem?_append_left (aJ hb)];exact hb⟩
  ·cases g with
   | nil=>simp [dh,hy,hsz,Tg.fc,hroom']
   | es=>simp [dh,hy,hsz,Tg.fc,hroom']
   | fs=>exact absurd rfl hgs
  ·exact .inr ⟨H.length,0,0,.loc,cs,by simp,by simp,by simpa using gQ (fun x y _=>Cm _) hc,by simp,fun _=>rfl,fun h=>by simp at h,fun _=>rfl⟩
 ·have hl:rows.length*sz=ds.length:=by rw [←vG h3,bK hg]
  have hH:∀(b':Nat) cs' fl',H[b']?=some (.box cs' fl')→∃ Om,(H.set b (.opn sz (ds++cs) fl (ep+1) .loc))[b']?=some (.box cs' Om):=by
   intro b' cs' fl' hb'
   have:b≠b':=by rintro rfl;rw [h2]at hb';cases hb'
   exact⟨fl',by rw [List.getElem?_set_ne this];exact hb'⟩
  refine⟨.c (.sl b 0 (rows.length+1) 0 (ep+1) sz),H.set b (.opn sz (ds++cs) fl (ep+1) .loc),?_,?_,by simp,?_⟩
  ·simp only [dh,hy,hsz,if_false,h2,and_self,if_true]
   simp only [Nat.add_one_ne_zero,if_false]
   rw [if_pos ⟨trivial,hl,by omega⟩,hroom]
   simp
  ·refine .inr ⟨b,ep+1,fl,.loc,ds++cs,by simp,?_,?_,?_,hz,fun h=>by simp at h,fun _=>rfl⟩
   ·rw [List.getElem?_set_self (aJ h2)]
   ·rw [List.flatten_append]
    simpa using yh (gQ (fun x y _=>sJ hH 60 x y) h3) (gQ (fun x y _=>sJ hH 60 x y) hc)
   ·simp only [List.length_append]
    omega
  ·intro b' cs' fl' hb'
   have:b≠b':=by rintro rfl;rw [h2]at hb';cases hb'
   rw [List.getElem?_set_ne this];exact hb'
theorem LB.len(h:LB z H sz v g rows):∃ c,v=.c c∧cO H c=some rows.length:=by
 rcases h with⟨rfl,rfl,hgs⟩ | ⟨b,ep,fl,st,ds,rfl,h2,h3,h3',hz,h4,h5⟩
 ·cases g<;>exact⟨_,rfl,rfl⟩
 ·exact⟨_,rfl,by simp [cO,h2]⟩
theorem LB.fz(h:LB z H sz v g rows)(hg:Grid sz rows):fU deep H v=some (.c (.f (sl g rows))):=by
 rcases h with⟨rfl,rfl,hgs⟩ | ⟨b,ep,fl,st,ds,rfl,h2,h3,h3',hz,h4,h5⟩
 ·simp [sl]
 ·have hl:rows.length*sz=ds.length:=by rw [←vG h3,bK hg]
  cases rows with
  | nil=>
   obtain⟨rfl,hgs⟩:=h4 rfl
   cases g with
   | nil=>simp [deep,oV,h2,Tg.os,sl,Tg.fc]
   | es=>simp [deep,oV,h2,Tg.os,sl,Tg.fc]
   | fs=>exact absurd rfl hgs
  | cons r rs=>
   have:=h5 (by simp)
   subst this
   have up:bD (exC 63 H) ds=some (r::rs).flatten:=gQ (fun x y _ hx=>aK3 hx (by decide)) h3
   simp only [aRv,deep,oV,h2]
   rw [if_pos ⟨trivial,trivial,by omega⟩,List.drop_zero,List.take_of_length_le (by omega),up]
   simp [sl]
theorem LB.fzV(h:LB z H sz v g rows)(hg:Grid sz rows):exV deep H v=some (.c (.f (sl g rows))):=by
 have:=h.fz hg
 obtain⟨c,rfl,_⟩:=h.len
 exact this
theorem JC{α β:Type}{g:α→Option β}{c:α}{y:β}(hc:g c=some y):∀ {xs:List α} {ys:List β} (i:Nat),bD g xs=some ys→bD g (xs.set i c)=some (ys.set i y)
 | [],ys,i,h=>by simp [bD]at h;subst h;simp [bD]
 | x::xs,ys,i,h=>by
  simp only [bD]at h
  cases hx:g x with
  | none=>simp [hx]at h
  | some w=>
   cases hxs:bD g xs with
   | none=>simp [hx,hxs]at h
   | some zs=>
    simp [hx,hxs]at h
    subst h
    cases i with
    | zero=>simp [bD,hc,hxs]
    | succ i=>simp only [List.set_cons_succ,bD,hx,JC hc i hxs]
theorem Jp{α:Type}{cs:List α}{o:Nat}{c:α}(h:o<cs.length):over cs o [c]=cs.set o c:=by
 simp only [over,List.length_cons,List.length_nil]
 rw [List.set_eq_take_append_cons_drop,if_pos h]
 simp
theorem rF{sz:Nat}:∀ {rows:List (List FC)} {j k:Nat} {x:FC} {row:List FC},Grid sz rows→rows[j]?=some row→k<sz→rows.flatten.set (j*sz+k) x=(rows.set j (row.set k x)).flatten
 | [],_,_,_,_,_,hj,_=>by simp at hj
 | r::rows,0,k,x,row,hg,hj,hk=>by
  simp at hj;subst hj
  have:=hg r List.mem_cons_self
  simp only [List.set_cons_zero,List.flatten_cons]
  rw [List.set_append_left _ _ (by omega)]
  simp
 | r::rows,j+1,k,x,row,hg,hj,hk=>by
  have hr:=hg r List.mem_cons_self
  simp only [List.set_cons_succ,List.flatten_cons]
  rw [List.set_append_right _ _ (by rw [hr,Nat.add_mul];omega)]
  have e:(j+1)*sz+k-r.length=j*sz+k:=by rw [hr,Nat.add_mul];omega
  rw [e,rF (fun y hy=>hg y (List.mem_cons_of_mem _ hy)) (by simpa using hj) hk]
theorem LB.st1(h:LB true H sz v g rows)(hg:Grid sz rows){j k:Nat}{c:C}{x:FC}(hj:rows[j]?=some row)(hk:k<sz)(hx:exB 60 H c=some x) :
  ∃ b ep H',bC H sz none v (vi j)=some (.c (.ptr b (j*sz) ep))∧stC H (.ptr b (j*sz+k) ep) [c]=some H'∧LB true H' sz v g (rows.set j (row.set k x))∧(∀(b:Nat) cs fl,H[b]?=some (.box cs fl)→H'[b]?=some (.box cs fl)):=by
 have hjl:j<rows.length:=(List.getElem?_eq_some_iff.1 hj).1
 rcases h with⟨rfl,rfl,hgs⟩ | ⟨b,ep,fl,st,ds,rfl,h2,h3,h3',hz,h4,h5⟩
 ·simp at hjl
 ·have hl:rows.length*sz=ds.length:=by rw [←vG h3,bK hg]
  have hne:rows≠[]:=by rintro rfl;simp at hjl
  have:=h5 hne
  subst this
  have hfl:=hz rfl
  subst hfl
  have hlt:j*sz+k<ds.length:=by
   have e1:(j+1)*sz≤rows.length*sz:=Nat.mul_le_mul_right sz hjl
   rw [hl,Nat.add_mul,Nat.one_mul]at e1
   omega
  have hH:∀(b':Nat) cs' fl',H[b']?=some (.box cs' fl')→∃ Om,(H.set b (.opn sz (ds.set (j*sz+k) c) 0 ep .loc))[b']?=some (.box cs' Om):=by
   intro b' cs' fl' hb'
   have:b≠b':=by rintro rfl;rw [h2]at hb';cases hb'
   exact⟨fl',by rw [List.getElem?_set_ne this];exact hb'⟩
  refine⟨b,ep,H.set b (.opn sz (ds.set (j*sz+k) c) 0 ep .loc),?_,?_,?_,fun b' cs' fl' hb'=>?_⟩
  ·simp [bC,jG,h2,hjl]
  ·rw [←Jp hlt]
   simp only [fG,h2]
   rw [if_pos ⟨trivial,Nat.zero_le _,by simp only [List.length_cons,List.length_nil];omega⟩]
  ·refine .inr ⟨b,ep,0,.loc,ds.set (j*sz+k) c,by simp,List.getElem?_set_self (aJ h2),?_,by simp,fun _=>rfl,fun h=>?_,fun _=>rfl⟩
   ·rw [←rF hg hj hk]
    exact gQ (fun x y _=>sJ hH 60 x y) (JC hx _ h3)
   ·exact absurd (by simpa using h) hne
  ·have:b≠b':=by rintro rfl;rw [h2]at hb';cases hb'
   rw [List.getElem?_set_ne this];exact hb'
theorem lq{b fl c:Nat}(h:H[b]?=some (.box cs fl))(hc:cs.length=sz):fE H sz (.c (.sl b 0 1 c 0 sz))=some (1,cs):=by
 simp [fE,cO,dP,h,hc]
 rw [←hc,List.take_length]
end Km
end
section
namespace Km
open Go
def IC(P:Program):List Field→Nat→Nat→Bool
 | [],o,n=>o == n
 | f::fs,o,n=>f.offset == o&&IC P fs (o+P.cellsOf f.type) n
def jP(P:Program):Nat→TypeId→Bool
 | 0,_=>false
 | n+1,t=>match P.underlying t with
  | some .bool=>P.cellsOf t == 1
  | some (.int _)=>P.cellsOf t == 1
  | some .string=>P.cellsOf t == 1
  | some (.slice e)=>P.cellsOf t == 1&&P.cellsOf e != 0&&jP P n e
  | some (.struct fs)=>IC P fs.toList 0 (P.cellsOf t)&&fs.toList.all fun f=>jP P n f.type
  | some (.array k e)=>P.cellsOf t == k*P.cellsOf e&&jP P n e
  | _=>false
def FI(S:TypeId→List FC→Prop):List TypeId→List FC→Prop
 | [],xs=>xs=[]
 | t::ts,xs=>∃ p q,xs=p++q∧S t p∧FI S ts q
def Shp(P:Program):Nat→TypeId→List FC→Prop
 | 0,_,_=>False
 | n+1,t,xs=>match P.underlying t with
  | some .bool=>∃ b,xs=[.bool b]
  | some (.int k)=>∃ m,xs=[.int k m]∧(Lit.int k m).wf=true
  | some .string=>∃ s,xs=[.str s]∧s.size≤maxLen
  | some (.slice e)=>∃ g rows,xs=[sl g rows]∧Grid (P.cellsOf e) rows∧rows.length≤maxLen∧∀ r ∈ rows,Shp P n e r
  | some (.struct fs)=>FI (Shp P n) (fs.toList.map (·.type)) xs
  | some (.array k e)=>∃ rows,xs=rows.flatten∧rows.length=k∧Grid (P.cellsOf e) rows∧∀ r ∈ rows,Shp P n e r
  | _=>False
theorem flat_get{α:Type}{sz:Nat}:∀ {rows:List (List α)} {j k:Nat} {row:List α},(∀ r ∈ rows,r.length=sz)→rows[j]?=some row→k<sz→rows.flatten[j*sz+k]?=row[k]?
 | [],j,k,row,_,hj,_=>by simp at hj
 | r::rows,0,k,row,hg,hj,hk=>by
  simp at hj;subst hj
  have:=hg r List.mem_cons_self
  rw [List.flatten_cons,List.getElem?_append_left (by omega)]
  simp
 | r::rows,j+1,k,row,hg,hj,hk=>by
  have hr:=hg r List.mem_cons_self
  rw [List.flatten_cons,List.getElem?_append_right (by rw [hr,Nat.add_mul];omega)]
  have e:(j+1)*sz+k-r.length=j*sz+k:=by rw [hr,Nat.add_mul];omega
  rw [e]
  exact flat_get (rows:=rows) (fun x hx=>hg x (List.mem_cons_of_mem _ hx)) (by simpa using hj) hk
theorem Cc{α:Type}{sz:Nat}:∀ {rows:List (List α)},(∀ r ∈ rows,r.length=sz)→rows.flatten.length=rows.length*sz
 | [],_=>by simp
 | r::rows,h=>by
  have:=Cc (rows:=rows) fun x hx=>h x (List.mem_cons_of_mem _ hx)
  simp only [List.flatten_cons,List.length_append,List.length_cons,this,h r List.mem_cons_self,Nat.add_mul,Nat.one_mul]
  omega
def ND(w:World):Nat→Nat→Prop:=fun c _=>c<w.heap.size
theorem cell_lt{w:World}{a:Addr}{v:Value}(h:w.cell? a=some v):a.block<w.heap.size∧a.spot=none:=by
 unfold World.cell? at h
 split at h
 ·rename_i hb
  split at h
  ·simp at h
  ·rename_i hs
   refine⟨?_,by simpa using hs⟩
   exact(Array.getElem?_eq_some_iff.1 hb).1
 ·simp at h
theorem A2.flatten{α β:Type}{R:α→β→Prop}{xss:List (List α)}{yss:List (List β)}(hl:xss.length=yss.length)
  (h:∀(i:Nat) xs ys,xss[i]?=some xs→yss[i]?=some ys→A2 R xs ys):A2 R xss.flatten yss.flatten:=by
 induction xss generalizing yss with
 | nil=>cases yss with
  | nil=>exact A2.nil
  | cons y ys=>simp at hl
 | cons x xs ih=>cases yss with
  | nil=>simp at hl
  | cons y ys=>
   rw [List.flatten_cons,List.flatten_cons]
   exact(h 0 x y rfl rfl).append (ih (by simpa using hl) fun i a b ha hb=>h (i+1) a b (by simpa using ha) (by simpa using hb))
section
variable{H:Type}{enc:TypeId × Value→H}{P:Program}{w:World}{base:Nat}{spare:Nat→Bool}{held:Bool}{σ:Nat→FuncId}
def aT3(σ:Nat→FuncId)(P:Program)(w:World)(n:Nat)(t:TypeId)(cs:List Value):Prop:=∃ xs,A2 (FCR σ (ND w) w) xs cs∧Shp P n t xs
theorem yA{n:Nat}(ih:∀ {t:TypeId} {fuel:Nat} {cs:List Value} {x:DataW H × List MemPlace},jP P n t=true→DataW.trod enc P w base spare held fuel t cs=some x→aT3 σ P w n t cs∧cs.length=P.cellsOf t)
  {fuel:Nat}:∀(fs:List Field) (o N:Nat) (cs:List Value),IC P fs o N=true→(fs.all fun f=>jP P n f.type)=true→cs.length=N →
   (∀ f ∈ fs,∃ x,DataW.trod enc P w base spare held fuel f.type ((cs.drop f.offset).take (P.cellsOf f.type))=some x) →
   ∃ xs,A2 (FCR σ (ND w) w) xs (cs.drop o)∧FI (Shp P n) (fs.map (·.type)) xs
 | [],o,N,cs,ht,_,hl,_=>by
  simp [IC]at ht
  exact⟨[],by rw [List.drop_of_length_le (by omega)];exact A2.nil,rfl⟩
 | f::fs,o,N,cs,ht,hs,hl,hx=>by
  simp only [IC,Bool.and_eq_true,beq_iff_eq]at ht
  simp only [List.all_cons,Bool.and_eq_true]at hs
  obtain⟨x,hx0⟩:=hx f List.mem_cons_self
  rw [ht.1]at hx0
  obtain⟨⟨p,hp,sp⟩,hlen⟩:=ih hs.1 hx0
  obtain⟨q,hq,sq⟩:=yA ih fs (o+P.cellsOf f.type) N cs ht.2 hs.2 hl fun g hg=>hx g (List.mem_cons_of_mem _ hg)
  refine⟨p++q,?_,p,q,rfl,sp,sq⟩
  have:cs.drop o=(cs.drop o).take (P.cellsOf f.type)++cs.drop (o+P.cellsOf f.type):=by
   rw [←List.drop_drop,List.take_append_drop]
  rw [this]
  exact hp.append hq
theorem ZN(c o n k:Nat):((⟨c,o,none⟩:Addr).add n).add k=⟨c,o+(n+k),none⟩:=by
 unfold Addr.add
 by_cases h1:n=0<;>by_cases h2:k=0<;>simp [h1,h2]
 omega
theorem WT{t e:TypeId}{k n:Nat}{cs:List Value}{x:DataW H × List MemPlace}(ht:P.underlying t=some (.array k e))(h:DataW.trod enc P w base spare held (n+1) t cs=some x) :
  cs.length=P.cellsOf t∧∀ i,i<k→∃ y,DataW.trod enc P w base spare held n e ((cs.drop (i*P.cellsOf e)).take (P.cellsOf e))=some y:=by
 unfold DataW.trod at h
 rw [ht]at h
 simp only [Option.ite_none_right_eq_some,Option.map_eq_some_iff]at h
 obtain⟨hl,xs,hp,hd⟩:=h
 refine⟨hl,fun i hi=>?_⟩
 have:=mapM_some_get hp i i (by simp [hi])
 have hlen:xs.length=k:=by simpa using mapM_some_length hp
 rw [List.getElem?_eq_getElem (by omega)]at this
 exact⟨_,this⟩
theorem Fv{α:Type}{sz:Nat}:∀ {k:Nat} {cs:List α},cs.length=k*sz→cs=((List.range k).map fun i=>(cs.drop (i*sz)).take sz).flatten
 | 0,cs,h=>by simp at h;simp [h]
 | k+1,cs,h=>by
  have h':(cs.take (k*sz)).length=k*sz:=by rw [List.length_take,h,Nat.add_mul];omega
  have ih:=Fv h'
  rw [List.range_succ,List.map_append,List.flatten_append]
  have e:((List.range k).map fun i=>(cs.drop (i*sz)).take sz)=(List.range k).map fun i=>((cs.take (k*sz)).drop (i*sz)).take sz:=by
   refine List.map_congr_left fun i hi=>?_
   have hi':i<k:=by simpa using hi
   have:(i+1)*sz≤k*sz:=Nat.mul_le_mul_right _ hi'
   rw [Nat.add_mul]at this
   rw [List.drop_take,List.take_take,Nat.min_eq_left (by omega)]
  rw [e,←ih]
  simp only [List.map_cons,List.map_nil,List.flatten_cons,List.flatten_nil,List.append_nil]
  have:(cs.drop (k*sz)).take sz=cs.drop (k*sz):=List.take_of_length_le (by rw [List.length_drop,h,Nat.add_mul];omega)
  rw [this,List.take_append_drop]
theorem aYJ{n:Nat}:∀ {t:TypeId} {fuel:Nat} {cs:List Value} {x:DataW H × List MemPlace},jP P n t=true→DataW.trod enc P w base spare held fuel t cs=some x →
  aT3 σ P w n t cs∧cs.length=P.cellsOf t:=by
 induction n with
 | zero=>intro t fuel cs x hs;simp [jP]at hs
 | succ n ih=>
  intro t fuel cs x hs h
  simp only [jP]at hs
  split at hs
  ·rename_i ht
   obtain⟨b,rfl,_⟩:=DataW.trod_bool ht h
   exact⟨⟨[.bool b],.cons (.bool b) .nil,by simp only [Shp,ht];exact⟨b,rfl⟩⟩,by simp at hs;simp [hs]⟩
  ·rename_i k ht
   obtain⟨m,rfl,_,hw⟩:=DataW.trod_int ht h
   exact⟨⟨[.int k m],.cons (.int k m) .nil,by simp only [Shp,ht];exact⟨m,rfl,hw⟩⟩,by simp at hs;simp [hs]⟩
  ·rename_i ht
   obtain⟨s,rfl,_,hw⟩:=DataW.trod_string ht h
   exact⟨⟨[.str s],.cons (.str s) .nil,by simp only [Shp,ht];exact⟨s,rfl,hw⟩⟩,by simp at hs;simp [hs]⟩
  ·rename_i e ht
   simp only [Bool.and_eq_true,beq_iff_eq,bne_iff_ne]at hs
   obtain⟨⟨h1,hsz⟩,he⟩:=hs
   rcases DataW.trod_slice ht h with⟨rfl,_⟩ | ⟨a,len,cap,elems,rest,m,_,rfl,_,hb,hl,hm,hlen,hel,_,_⟩
   ·exact⟨⟨[sl .nil []],.cons .ay .nil,by simp only [Shp,ht];exact⟨.nil,[],rfl,fun r hr=>by simp at hr,by simp,fun r hr=>by simp at hr⟩⟩,by simpa using h1.symm⟩
   ·refine⟨?_,by simpa using h1.symm⟩
    have each:∀ i,i<len→∃ p:List Value × List FC,w.cells? base (a.add (i*P.cellsOf e)) (P.cellsOf e)=some p.1∧A2 (FCR σ (ND w) w) p.2 p.1∧Shp P n e p.2:=by
     intro i hi
     have:=hel i hi
     rw [List.getElem?_eq_getElem (by omega)]at this
     obtain⟨cs',h1,h2⟩:=Option.bind_eq_some_iff.1 this
     obtain⟨⟨xs,ha,hs⟩,_⟩:=ih he h2
     exact⟨(cs',xs),h1,ha,hs⟩
    obtain⟨p,hp⟩:=Go.Deep.choose_lt each
    by_cases h0:len=0
    ·subst h0
     refine⟨[sl .fs []],.cons (.fs0 a cap) .nil,?_⟩
     simp only [Shp,ht]
     exact⟨.fs,[],rfl,fun r hr=>by simp at hr,by simp,fun r hr=>by simp at hr⟩
    have hspot:a.spot=none:=by
     have:=hp 0 (by omega)
     obtain⟨_,hl0,hc0⟩:=World.cells?_some this.1
     have:=hc0 0 (by omega)
     rw [List.getElem?_eq_getElem (by omega)]at this
     have:=(cell_lt this).2
     simpa [Addr.add]using this
    obtain⟨c,o,sp⟩:=a
    simp only at hspot
    subst hspot
    let vss:=(List.range len).map fun i=>(p i).1
    let rows:=(List.range len).map fun i=>(p i).2
    have hv:∀ v ∈ vss,v.length=P.cellsOf e:=by
     intro v hv
     obtain⟨i,hi,rfl⟩:=List.mem_map.1 hv
     exact(World.cells?_some (hp i (by simpa using hi)).1).2.1
    have hg:Grid (P.cellsOf e) rows:=by
     intro r hr
     obtain⟨i,hi,rfl⟩:=List.mem_map.1 hr
     obtain⟨h1,h2,_⟩:=hp i (by simpa using hi)
     rw [h2.len,(World.cells?_some h1).2.1]
    have hA:A2 (FCR σ (ND w) w) rows.flatten vss.flatten:=by
     refine A2.flatten (by simp [rows,vss]) fun i xs ys hx hy=>?_
     simp only [rows,vss,List.getElem?_map,Option.map_eq_some_iff]at hx hy
     obtain⟨i1,e1,rfl⟩:=hx
     obtain⟨i2,e2,rfl⟩:=hy
     rw [e1]at e2
     cases e2
     have:=List.mem_of_getElem? e1
     exact(hp i1 (by simpa using this)).2.1
    have hcell:∀ i u,vss.flatten[i]?=some u→w.cell? ⟨c,o+i,none⟩=some u:=by
     intro i u hu
     have hi:i<vss.flatten.length:=(List.getElem?_eq_some_iff.1 hu).1
     rw [Cc hv]at hi
     have hvl:vss.length=len:=by simp [vss]
     rw [hvl]at hi
     have hq:i / P.cellsOf e<len:=Nat.div_lt_of_lt_mul (by rw [Nat.mul_comm];exact hi)
     have hk:i % P.cellsOf e<P.cellsOf e:=Nat.mod_lt _ (by omega)
     have hi':i=i / P.cellsOf e*P.cellsOf e+i % P.cellsOf e:=by rw [Nat.mul_comm];exact(Nat.div_add_mod _ _).symm
     have hrow:vss[i / P.cellsOf e]?=some (p (i / P.cellsOf e)).1:=by simp [vss,hq]
     rw [hi',flat_get hv hrow hk]at hu
     obtain⟨_,_,hc⟩:=World.cells?_some (hp _ hq).1
     have:=hc _ hk
     rw [hu]at this
     rw [←this,ZN,←hi']
    refine⟨[sl .fs rows],.cons ?_ .nil,?_⟩
    ·have hne:rows≠[]:=by simp [rows];omega
     have hrl:rows.length=len:=by simp [rows]
     have:sl Tg.fs rows=.fs rows.flatten len:=by
      cases hr:rows with
      | nil=>exact absurd hr hne
      | cons r rs=>simp only [sl,List.isEmpty_cons,Bool.false_eq_true,if_false];rw [←hr,hrl]
     rw [this]
     refine .fs rows.flatten len c o cap vss.flatten hl hA.len.symm (fun i hi=>?_) hcell fun i x u hx hu=>hA.2 i x u hx hu
     have hi':i<vss.flatten.length:=by rw [←hA.len];exact hi
     exact(cell_lt (hcell i _ (List.getElem?_eq_getElem hi'))).1
    ·simp only [Shp,ht]
     have hrl:rows.length=len:=by simp [rows]
     refine⟨.fs,rows,rfl,hg,by omega,fun r hr=>?_⟩
     obtain⟨i,hi,rfl⟩:=List.mem_map.1 hr
     exact(hp i (by simpa using hi)).2.2
  ·rename_i fs ht
   simp only [Bool.and_eq_true]at hs
   obtain⟨xs,m,_,_,hl,_,hx⟩:=DataW.trod_struct ht h
   refine⟨?_,hl⟩
   obtain⟨ys,h1,h2⟩:=yA (n:=n) (fuel:=m) ih fs.toList 0 _ cs hs.1 hs.2 hl fun f hf=>by
    obtain⟨i,hi⟩:=List.getElem?_of_mem hf
    rw [Array.getElem?_toList]at hi
    have:=hx i f hi
    rw [this]
    have hlt:i<fs.size:=(Array.getElem?_eq_some_iff.1 hi).1
    exact⟨_,List.getElem?_eq_getElem (by omega)⟩
   exact⟨ys,by simpa using h1,by simp only [Shp,ht];exact h2⟩
  ·rename_i k e ht
   simp only [Bool.and_eq_true,beq_iff_eq]at hs
   obtain⟨hct,he⟩:=hs
   cases fuel with
   | zero=>simp [DataW.trod]at h
   | succ m=>
   obtain⟨hl,hx⟩:=WT ht h
   refine⟨?_,hl⟩
   have each:∀ i,i<k→∃ q:List FC,A2 (FCR σ (ND w) w) q ((cs.drop (i*P.cellsOf e)).take (P.cellsOf e))∧Shp P n e q:=by
    intro i hi
    obtain⟨y,hy⟩:=hx i hi
    obtain⟨⟨q,a,b⟩,_⟩:=ih he hy
    exact⟨q,a,b⟩
   obtain⟨q,hq⟩:=Go.Deep.choose_lt each
   let rows:=(List.range k).map q
   have hcs:cs=((List.range k).map fun i=>(cs.drop (i*P.cellsOf e)).take (P.cellsOf e)).flatten:=Fv (by rw [hl,hct])
   refine⟨rows.flatten,?_,?_⟩
   ·rw [hcs]
    refine A2.flatten (by simp [rows]) fun i xs ys hx hy=>?_
    simp only [rows,List.getElem?_map,Option.map_eq_some_iff]at hx hy
    obtain⟨i1,e1,rfl⟩:=hx
    obtain⟨i2,e2,rfl⟩:=hy
    rw [e1]at e2
    cases e2
    have:=List.mem_of_getElem? e1
    exact(hq i1 (by simpa using this)).1
   ·simp only [Shp,ht]
    refine⟨rows,rfl,by simp [rows],fun r hr=>?_,fun r hr=>?_⟩
    ·obtain⟨i,hi,rfl⟩:=List.mem_map.1 hr
     have hi':i<k:=by simpa using hi
     rw [(hq i hi').1.len,List.length_take,List.length_drop,hl,hct]
     have:(i+1)*P.cellsOf e≤k*P.cellsOf e:=Nat.mul_le_mul_right _ hi'
     rw [Nat.add_mul]at this
     omega
    ·obtain⟨i,hi,rfl⟩:=List.mem_map.1 hr
     exact(hq i (by simpa using hi)).2
  ·simp at hs
end
section
variable{P:Program}{n:Nat}{t e:TypeId}{xs:List FC}
theorem jQ{k:IntKind}(ht:P.underlying t=some (.int k))(h:Shp P (n+1) t xs):∃ m,xs=[.int k m]∧(Lit.int k m).wf=true:=by simpa only [Shp,ht]using h
theorem EK(ht:P.underlying t=some (.slice e))(h:Shp P (n+1) t xs):∃ g rows,xs=[sl g rows]∧Grid (P.cellsOf e) rows∧rows.length≤maxLen∧∀ r ∈ rows,Shp P n e r:=by simpa only [Shp,ht]using h
theorem MG{fs:Array Field}{ts:List TypeId}(ht:P.underlying t=some (.struct fs))(hts:fs.toList.map (·.type)=ts)(h:Shp P (n+1) t xs):FI (Shp P n) ts xs:=by
 subst hts;simpa only [Shp,ht]using h
theorem zh{k:Nat}(ht:P.underlying t=some (.array k e))(h:Shp P (n+1) t xs):∃ rows,xs=rows.flatten∧rows.length=k∧Grid (P.cellsOf e) rows∧∀ r ∈ rows,Shp P n e r:=by simpa only [Shp,ht]using h
theorem jJ{S:TypeId→List FC→Prop}{ts:List TypeId}(h:FI S (t::ts) xs):∃ p q,xs=p++q∧S t p∧FI S ts q:=h
theorem rY{α:Type}{enc:α→List FC}{p:α→Prop}:∀ {rows:List (List FC)},(∀ r ∈ rows,∃ x,r=enc x∧p x)→∃ l:List α,rows=l.map enc∧∀ x ∈ l,p x
 | [],_=>⟨[],rfl,by simp⟩
 | r::rows,h=>by
  obtain⟨x,rfl,hx⟩:=h r List.mem_cons_self
  obtain⟨l,rfl,hl⟩:=rY fun r hr=>h r (List.mem_cons_of_mem _ hr)
  exact⟨x::l,rfl,fun y hy=>by
   rcases List.mem_cons.1 hy with rfl | hy
   ·exact hx
   ·exact hl y hy⟩
end
end Km
end
section
namespace Km
open Go Go.ChangeShapes Go.WideShapes Go.ChangeAt Go.RowKit
def Ph(P:Program)(t:TypeId)(a:V):Prop:=(∃ xs,a=.a (xs.map .f)∧Shp P 40 t xs∧(∃ d,P.underlying t=some d∧((∃ fs,d=.struct fs)∨∃ n e,d=.array n e))) ∨
 (∃ x,a=.c (.f x)∧Shp P 40 t [x])
def zC(P:Program):List TypeId→List V→Prop
 | [],as=>as=[]
 | t::ts,as=>∃ a bs,as=a::bs∧Ph P t a∧zC P ts bs
section
variable{H:Type}{enc:TypeId × Value→H}{P:Program}{W W':World}
theorem Eb{f:Func}{s:ChangeSpec}{apart fresh handsOn again:Bool}{args:Array Value}{v:Value}{ds gs:List (DataW H)}{before pa pv:List MemPlace}
  (hW:DataW.Whole enc P f.params.toList s.vars apart W args.toList ds gs before)
  (hres:∀(b:Nat) (sp:Nat→Bool) (hd:Bool),DataW.TrodAll enc P W' b sp hd f.resultTypes.toList (v.resultList f.resultTypes.size) (s.fn H (ds++gs)).results [])
  (hargs:∀ sp:Nat→Bool,(∀ p ∈ before,sp p.block=true)→DataW.TrodAll enc P W' 0 sp true f.params.toList args.toList (s.fn H (ds++gs)).args pa)
  (hvars:∀ sp:Nat→Bool,(∀ p ∈ before,sp p.block=true)→DataW.TrodVars enc P W' sp s.vars (s.fn H (ds++gs)).vars pv)
  (hps:before=pa++pv) (hb:Below W.heap.size W W')
  (hok:∀(j:Nat) (t:TypeId) (r:Value),f.resultTypes[j]?=some t→(v.resultList f.resultTypes.size)[j]?=some r→Value.okWide P W' .any 0 t r) :
  s.post enc P f apart fresh handsOn again W args v W':=by
 have hlt:∀ p ∈ before,p.block<W.heap.size:=fun p hp=>hW.lt p hp
 have hold:∀ p ∈ before,(fun b=>decide (b<W.heap.size)) p.block=true:=fun p hp=>by simpa using hlt p hp
 refine⟨ds,gs,before,[],pa,pv,hW,hres _ _ _,hargs _ hold,hvars _ hold,World.keptBut_mono (fun p hp=>⟨hp,?_⟩) (hb.frame (· ∈ before)),fun _=>?_⟩
 ·rw [hps,List.mem_append]at hp
  exact Or.inr hp
 ·obtain⟨_,_,_,_,_,hz,hn⟩:=hW
  refine⟨hok,_,_,([]++pa)++pv,⟨[]++pa,pv,trodAll_append (hargs _ (fun _ _=>rfl)) (hres _ _ _),hvars _ (fun _ _=>rfl),rfl,?_,?_⟩,?_⟩
  ·intro b off hp
   have hp':MemPlace.cell b off ∈ before:=by rw [hps];simpa using hp
   rw [hb.frozen (p:=⟨b,off,none⟩) (hlt _ hp')]
   exact hz b off hp'
  ·intro ha
   have:=hn ha
   rw [hps]at this
   simpa using this
  ·intro p hp _
   rw [hps]
   simpa using hp
theorem sV(hl:laidOutB P=true){sp:Nat→Bool}(hb:Below W.heap.size W W'):∀ {ts:List TypeId} {vs:List Value} {ds:List (DataW H)} {ps:List MemPlace},
  (ts.all fun t=>P.readableRec t&&decide (t<P.types.size))=true→DataW.TrodAll enc P W 0 (fun _=>true) true ts vs ds ps→(∀ p ∈ ps,p.block<W.heap.size)→(∀ p ∈ ps,sp p.block=true) →
  DataW.TrodAll enc P W' 0 sp true ts vs ds ps
 | [],[],[],ps,_,h,_,_=>h
 | t::ts,v::vs,d::ds,ps,hr,⟨p,q,h1,h2,e⟩,hlt,hs=>by
  subst e
  simp only [List.all_cons,Bool.and_eq_true,decide_eq_true_eq]at hr
  exact⟨p,q,WideElems.Trod_stays hl hr.1.1 hr.1.2 h1 (fun x hx=>hb.same (hlt x (List.mem_append_left _ hx))) (fun x hx=>hs x (List.mem_append_left _ hx)),
   sV hl hb hr.2 h2 (fun x hx=>hlt x (List.mem_append_right _ hx)) (fun x hx=>hs x (List.mem_append_right _ hx)),rfl⟩
 | [],_::_,_,_,_,h,_,_=>by cases h
 | [],[],_::_,_,_,h,_,_=>by cases h
 | _::_,[],_,_,_,h,_,_=>by cases h
 | _::_,_::_,[],_,_,h,_,_=>by cases h
variable{σ:Nat→FuncId}
def X0(W:World):Wd:=⟨fun _=>none,ND W,[],W,W.heap.size⟩
theorem WQ{xs:List FC}{cs:Array Value}(h:A2 (FCR σ (ND W) W) xs cs.toList):VR σ (X0 W) (.a (xs.map .f)) (.agg cs):=
 ⟨cs.toList,by simp,A2.map (g:=C.f) (h.weak fun _ _ h=>h)⟩
theorem ZH{t:TypeId}{v:Value}{d:DataW H}{ps:List MemPlace}{base:Nat}{spare:Nat→Bool}{held:Bool}{b0:Nat}(hs:jP P 40 t=true)(hval:Value.okWide P W .any b0 t v)
  (hd:DataW.Trod enc P W base spare held t v d ps):∃ a,VR σ (X0 W) a v∧Ph P t a:=by
 obtain⟨fuel,hf⟩:=hd
 obtain⟨⟨xs,hA,hS⟩,hl⟩:=aYJ (σ:=σ) hs hf
 have scalar:v.cells.toList=[v]→∃ a,VR σ (X0 W) a v∧Ph P t a:=by
  intro hv
  rw [hv]at hA
  match xs,hA.len with
  | [x],_=>exact⟨.c (.f x),hA.of_cons.1,.inr ⟨x,rfl,hS⟩⟩
 unfold jP at hs
 unfold Value.okWide at hval
 split at hval
 ·rename_i fs ht
  obtain⟨cs,rfl,_,_⟩:=hval
  exact⟨_,WQ hA,.inl ⟨xs,rfl,hS,_,ht,.inl ⟨_,rfl⟩⟩⟩
 ·rename_i n e ht
  obtain⟨cs,rfl,_,_⟩:=hval
  exact⟨_,WQ hA,.inl ⟨xs,rfl,hS,_,ht,.inr ⟨_,_,rfl⟩⟩⟩
 ·rename_i h1 h2
  refine scalar ?_
  split at hs
  ·rename_i ht
   obtain⟨b,hb,_⟩:=DataW.trod_bool ht hf
   simp only [Cell.okWide,ht,Cell.ok]at hval
   cases v<;>simp_all [Value.cells]
  ·rename_i ht
   obtain⟨b,hb,_⟩:=DataW.trod_int ht hf
   simp only [Cell.okWide,ht,Cell.ok]at hval
   cases v<;>simp_all [Value.cells]
  ·rename_i ht
   obtain⟨b,hb,_⟩:=DataW.trod_string ht hf
   simp only [Cell.okWide,ht,Cell.ok]at hval
   cases v<;>simp_all [Value.cells]
  ·rename_i ht
   simp only [Cell.okWide,ht,Cell.ok]at hval
   cases v<;>simp_all [Value.cells]
  ·rename_i fs ht;exact absurd ht (h1 fs)
  ·rename_i n e ht;exact absurd ht (h2 n e)
  ·simp at hs
theorem FH{base:Nat}{spare:Nat→Bool}{held:Bool}{b0:Nat}:∀ {ts:List TypeId} {vs:List Value} {ds:List (DataW H)} {ps:List MemPlace},(ts.all fun t=>jP P 40 t)=true →
  (∀(j:Nat) t v,ts[j]?=some t→vs[j]?=some v→Value.okWide P W .any b0 t v)→DataW.TrodAll enc P W base spare held ts vs ds ps →
  ∃ as,A2 (VR σ (X0 W)) as vs∧zC P ts as
 | [],[],[],_,_,_,_=>⟨[],A2.nil,rfl⟩
 | t::ts,v::vs,d::ds,ps,hs,hval,⟨p,q,h1,h2,_⟩=>by
  simp only [List.all_cons,Bool.and_eq_true]at hs
  obtain⟨a,ha,sa⟩:=ZH (σ:=σ) hs.1 (hval 0 t v rfl rfl) h1
  obtain⟨bs,hb,sb⟩:=FH hs.2 (fun j t v h h'=>hval (j+1) t v (by simpa using h) (by simpa using h')) h2
  exact⟨a::bs,.cons ha hb,a,bs,rfl,sa,sb⟩
 | [],_::_,_,_,_,_,h=>by cases h
 | [],[],_::_,_,_,_,h=>by cases h
 | _::_,[],_,_,_,_,h=>by cases h
 | _::_,_::_,[],_,_,_,h=>by cases h
theorem atN{n:Nat}{H:Heap}{v:V}{b:Bool}(h:exV (n+1) H v=some (.c (.f (.bool b)))):v=.c (.f (.bool b)):=by
 cases v with
 | top=>simp [exV,fU]at h
 | a xs=>simp [exV,fU]at h
 | t xs=>simp [exV]at h
 | c x=>
  simp only [exV,fU,Option.map_eq_some_iff]at h
  obtain⟨y,hy,h⟩:=h
  cases h
  cases x with
  | f x=>simpa [exC]using hy
  | ptr b o e=>simp only [exC]at hy;split at hy<;>simp at hy
  | sl b o l c e s=>
   simp only [exC]at hy
   split at hy
   ·split at hy<;>simp at hy
   ·split at hy<;>simp at hy
   ·split at hy<;>simp at hy
   ·split at hy<;>simp at hy
   ·simp at hy
  | cl f caps=>simp [exC]at hy
  | _=>simp [exC]at hy
variable{tab:Nat→Option AFunc}
theorem Nj(hE:Env P σ tab nH){f:Nat}{args:List V}{us:List Value}(h:Pure tab f args (vb true))(W:World)(ha:A2 (VR σ (X0 W)) args us) :
  Calls P (σ f) us.toArray W fun e w'=>e=.returned (.bool true)∧Below W.heap.size W w':=by
 obtain⟨r,H',⟨m,d,h⟩,hr⟩:=h
 have hr:=atN (n:=63) hr
 subst hr
 intro cs
 let X:=X0 W
 have hS:SR P σ X:=⟨fun b L h=>by simp [X,X0]at h,fun b b' L L' h=>by simp [X,X0]at h,fun c i h=>h⟩
 obtain⟨fr,X',u,h1,⟨l1,l2,l3,l4,fn,l5,l6⟩,h3,h4,h5,h6,h7⟩:=(Zx hE m d).fn f args [] _ H' h X us .normal cs rfl hS (Nat.le_refl _) ha (.inl rfl)
 have hu:=VR.bool h5
 subst hu
 exact⟨.returned (.bool true),X'.w,fr,⟨rfl,⟨h6.os,h6.tape,h6.output,h6.size,fun k hk=>h6.frame k hk (fun b L h=>by simp [X,X0]at h)⟩⟩,h1,l4,l1,l2,l3,fn,by rw [l4];exact l5,l6⟩
theorem YJ(hE:Env P σ tab nH){s:ChangeSpec}{f:Func}{fi:Nat}{tb:TypeId}(hvars:s.vars=[])(hlaid:laidOutB P=true){ts:List TypeId}(hts:f.params.toList=ts)
  (hfn:∀ ds:List (DataW H),ds.length=ts.length→s.fn H ds=⟨[.lit (.bool true)],ds,[]⟩)
  (hres:f.resultTypes=#[tb]) (htb:P.underlying tb=some .bool) (hread:(ts.all fun t=>P.readableRec t&&decide (t<P.types.size))=true) (atg:(ts.all fun t=>jP P 40 t)=true)
  (hkm:∀ as,zC P ts as→Pure tab fi as (vb true)) {apart fresh handsOn again:Bool} {base:Nat} {args:Array Value} {ds gs:List (DataW H)} {before:List MemPlace}
  (hval:∀(j:Nat) t v,f.params[j]?=some t→args[j]?=some v→Value.okWide P W .any base t v) (hW:DataW.Whole enc P f.params.toList s.vars apart W args.toList ds gs before) :
  Calls P (σ fi) args W fun e W'=>∃ v,e=.returned v∧s.post enc P f apart fresh handsOn again W args v W':=by
 have hW':=hW
 obtain⟨p,q,hA,hV,hb,hfz,hnd⟩:=hW
 rw [hts]at hA
 rw [hvars]at hV
 obtain⟨rfl,rfl⟩:=trodVars_none hV
 simp only [List.append_nil]at hb
 subst hb
 obtain⟨as,h1,h2⟩:=FH (σ:=σ) (b0:=base) atg (fun j t v h h'=>hval j t v (by rw [←Array.getElem?_toList,hts];exact h) (by rw [←Array.getElem?_toList];exact h')) hA
 have hlen:ds.length=ts.length:=by
  have:∀ {ts:List TypeId} {vs:List Value} {ds:List (DataW H)} {ps:List MemPlace},DataW.TrodAll enc P W 0 (fun _=>true) true ts vs ds ps→ds.length=ts.length:=by
   intro ts
   induction ts with
   | nil=>intro vs ds ps h;cases vs<;>cases ds<;>first | rfl | cases h
   | cons t ts ih=>intro vs ds ps h;cases vs<;>cases ds<;>first | (obtain⟨_,_,_,h,_⟩:=h;simp [ih h]) | cases h
  exact this hA
 have hfn':=hfn ds hlen
 have hc:=Nj hE (hkm as h2) W h1
 rw [Array.toArray_toList]at hc
 refine hc.mono fun e W' h=>?_
 obtain⟨he,hg⟩:=h
 subst he
 refine⟨_,rfl,Eb (pa:=before) (pv:=[]) hW' (fun b sp hd=>?_) (fun sp hsp=>?_) (fun sp _=>?_) (by simp) hg ?_⟩
 ·rw [List.append_nil,hfn',hres]
  exact trodAll_mk1 (shut_bool htb _)
 ·rw [List.append_nil,hfn',hts]
  exact sV hlaid hg hread hA (fun p hp=>hW'.lt p hp) hsp
 ·rw [List.append_nil,hfn',hvars]
  exact rfl
 ·exact ok_one hres rfl (okWide_bool_mk htb _)
end
end Km
end
section
namespace Km
open Go
section
variable{tab:Nat→Option AFunc}{f:Nat}{args:List V}{r:V}{fn:Nat}{k:List dR}{t:T}{ds:List fV}{H H':Heap}{Q:Option ah→St→Prop}
theorem wY{x:Arg}{ps:List P}{as bd:ah}{g:Nat}{ar:List V}(hf:dB (x.ev t) [.c (.yl (H.length+1))]=some (.fn g,ar))
  (he:Ev tab (.fn g) ar (H++[.dfr true,.lp fn t ps as bd .ready none H.length]) r H')
  (h:WP tab fn none (.nK (H.length+1)::k) ⟨t,.coll H.length::ds,H'⟩ Q):WP tab fn none (.code (.gB x ps as bd)::k) ⟨t,ds,H⟩ Q:=by
 obtain⟨m,d,he⟩:=he
 obtain⟨n,m',d',j,s',h1,h2⟩:=h
 refine⟨n+1,max m m',max d d',j,s',?_,h2⟩
 have e1:=nV (tab:=tab) (Nat.le_max_left m m') (Nat.le_max_left d d') _ _ _ _ he
 have e2:=zW (Nat.le_max_right m m') (Nat.le_max_right d d') (Nat.le_refl n) h1
 simp only [run,hf,e1,e2]
 simp
theorem BQ{ro:Option Nat}{b f' d:Nat}{tm:T}{ps:List P}{as bd:ah}{st:iU}(hb:H[b]?=some (.lp f' tm ps as bd st none d))(hst:st≠.busy)
  (h:WP tab fn ro k ⟨t,ds,H.set b (.lp f' tm ps as bd .exhausted none d)⟩ Q):WP tab fn ro (.nK b::k) ⟨t,ds,H⟩ Q:=by
 refine qC h fun m d n=>?_
 simp only [run,hb,if_neg hst]
theorem GZ{b f' d:Nat}{tm:T}{ps:List P}{as bd:ah}{pd:Option ah}(hb:H[b]?=some (.lp f' tm ps as bd .ready pd d))
  (h:WP tab fn (some b) k ⟨t,ds,H.set b (.lp f' tm ps as bd .busy pd d)⟩ Q):WP tab fn (some b) (.rO::k) ⟨t,ds,H⟩ Q:=by
 refine qC h fun m d n=>?_
 simp only [run,hb]
@[simp] theorem aNK {b:Nat} {as:List V}:dB (.c (.yl b)) as=some (.yield b,as):=rfl
def aT4(b:Nat)(r:V)(H':Heap)(j:Option ah)(s:St):Prop:=s.defs=[]∧∃ f' tm ps as bd st pd d,s.heap[b]?=some (.lp f' tm ps as bd st pd d)∧r=.c (.f (.bool j.isNone)) ∧
 H'=s.heap.set b (.lp f' tm ps as bd (if j.isNone then .ready else .done) j d)
theorem Zd{b f' d:Nat}{tm:T}{ps:List P}{as bd:ah}{st:iU}{pd:Option ah}(hb:H[b]?=some (.lp f' tm ps as bd st pd d))(hl:args.length=ps.length)
  (h:WP tab f' (some b) [.code as,.rO,.code bd] ⟨dK ps args tm,[],H⟩ (aT4 b r H')):Ev tab (.yield b) args H r H':=by
 obtain⟨n,m,d',j,s,h1,hd,f2,tm2,ps2,as2,bd2,st2,pd2,d2,h2,rfl,rfl⟩:=h
 refine⟨max m n,d'+1,?_⟩
 have e1:run (CF tab (max m n) d') f' (max m n) (some b) [.code as,.rO,.code bd] ⟨dK ps args tm,[],H⟩=some (j,s):=zW (Nat.le_max_left m n) (Nat.le_refl d') (Nat.le_max_right m n) h1
 simp only [CF]at e1 ⊢
 simp only [iE,hb,hl,if_true,e1,hd,List.isEmpty_nil,h2]
 rfl
theorem rH{C:V→Heap→Prop}{b f' d:Nat}{tm:T}{ps:List P}{as bd:ah}{st:iU}{pd:Option ah}(hb:H[b]?=some (.lp f' tm ps as bd st pd d))(hl:args.length=ps.length)
  (h:∀ Q:Option ah→St→Prop,(∀ j s f2 tm2 ps2 as2 bd2 st2 pd2 d2,s.defs=[]→s.heap[b]?=some (.lp f2 tm2 ps2 as2 bd2 st2 pd2 d2) →
   C (.c (.f (.bool j.isNone))) (s.heap.set b (.lp f2 tm2 ps2 as2 bd2 (if j.isNone then .ready else .done) j d2))→Q j s)→WP tab f' (some b) [.code as,.rO,.code bd] ⟨dK ps args tm,[],H⟩ Q):∃ r H',Ev tab (.yield b) args H r H'∧C r H':=by
 have h':=h (fun j s=>∃ r H',C r H'∧aT4 b r H' j s) fun j s f2 tm2 ps2 as2 bd2 st2 pd2 d2 h1 h2 h3=>⟨_,_,h3,h1,f2,tm2,ps2,as2,bd2,st2,pd2,d2,h2,rfl,rfl⟩
 obtain⟨n,m,d',j,s,h1,r,H',h2,h3⟩:=h'
 exact⟨r,H',Zd hb hl ⟨n,m,d',j,s,h1,h3⟩,h2⟩
def aT5(res:List mW)(r:V)(s:St):Prop:=∃ b,s.defs=[.coll b]∧s.heap[b]?=some (.dfr true)∧∃ r0,results s.regs (s.heap.set b (.dfr false)) res=some r0∧exV deep (s.heap.set b (.dfr false)) r0=some r
theorem AY{S:V→Prop}{ps:List P}{res:List mW}{body:ah}(ht:tab f=some ⟨ps,res,body⟩)(hl:args.length=ps.length)
  (h:∀ Q:Option ah→St→Prop,(∀ j s r,S r→Es res r s∨aT5 res r s→Q j s)→WP tab f none [.code body] ⟨dK ps args .e,[],[]⟩ Q):∃ r,S r∧Pure tab f args r:=by
 have h':=h (fun _ s=>∃ r,S r∧(Es res r s∨aT5 res r s)) fun _ _ r h1 h2=>⟨r,h1,h2⟩
 obtain⟨n,m,d,j,s,h1,r,hr,⟨hd,r0,h2,h3⟩ | ⟨b,hd,hb,r0,h2,h3⟩⟩:=h'
 ·exact⟨r,hr,r0,s.heap,Fj ht hl ⟨n,m,d,j,s,h1,0,0,s.heap,by rw [hd];rfl,h2,rfl⟩,h3⟩
 ·exact⟨r,hr,r0,s.heap.set b (.dfr false),Fj ht hl ⟨n,m,d,j,s,h1,0,0,_,by rw [hd];simp only [gJ,hb],h2,rfl⟩,h3⟩
theorem gW{C:V→Heap→Prop}{ps:List P}{res:List mW}{body:ah}(ht:tab f=some ⟨ps,res,body⟩)(hl:args.length=ps.length)
  (h:∀ Q:Option ah→St→Prop,(∀ j s r,s.defs=[]→results s.regs s.heap res=some r→C r s.heap→Q j s)→WP tab f none [.code body] ⟨dK ps args .e,[],H⟩ Q):∃ r H',Ev tab (.fn f) args H r H'∧C r H':=by
 have h':=h (fun _ s=>s.defs=[]∧∃ r,results s.regs s.heap res=some r∧C r s.heap) fun _ _ r h1 h2 h3=>⟨h1,r,h2,h3⟩
 obtain⟨n,m,d,j,s,h1,hd,r,h2,h3⟩:=h'
 exact⟨r,s.heap,Fj ht hl ⟨n,m,d,j,s,h1,0,0,s.heap,by rw [hd];rfl,h2,rfl⟩,h3⟩
end
end Km
end
section
namespace Km
open Go
theorem xW{c:dO}:∀(a b:List aV) (s:St),jk c (a++b) s=(jk c a s).bind (jk c b)
 | [],b,s=>rfl
 | o::a,b,s=>by
  simp only [List.cons_append,jk]
  cases jD c s o with
  | none=>rfl
  | some s'=>exact xW a b s'
theorem zF{c:dO}:∀(os:List aV) (s:St) {s':St},jk c os s=some s'→∃ ss,fZ c os s=some ss∧ss.getLast?=some s'∧∀ i,i≤os.length→jk c (os.take i) s=ss[i]?
 | [],s,s',h=>by
  simp only [jk,Option.some.injEq]at h
  subst h
  refine⟨[s],rfl,rfl,fun i hi=>?_⟩
  have:i=0:=by simpa using hi
  subst this
  rfl
 | o::os,s,s',h=>by
  simp only [jk]at h
  cases hs:jD c s o with
  | none=>simp [hs]at h
  | some s1=>
   simp only [hs]at h
   obtain⟨ss,h1,h2,h3⟩:=zF os s1 h
   refine⟨s::ss,by simp only [fZ,hs,h1],by rw [List.getLast?_cons,h2];rfl,fun i hi=>?_⟩
   cases i with
   | zero=>rfl
   | succ i=>
    simp only [List.take_succ_cons,jk,hs,List.getElem?_cons_succ]
    exact h3 i (by simpa using hi)
def yE(o:aV)(si sj:St):Prop:=wanted si.regs o.g=some false∨∃ v H1 v' H2,xOp si.regs si.heap o.op=some (v,H1)∧xOp si.regs sj.heap o.op=some (v',H2)∧v.beq v'=true
section
variable{tab:Nat→Option AFunc}{fn:Nat}{ro:Option Nat}{k:List dR}{s:St}{Q:Option ah→St→Prop}
def aF6(tab:Nat→Option AFunc)(ops:List aV)(s:St)(c:Nat × Nat):Prop:=c.2≤ops.length∧∃ o,ops[c.1]?=some o ∧
 ((c.1≤c.2∧OPS tab (ops.take c.1) s fun si=>OPS tab ((ops.drop c.1).take (c.2-c.1)) si fun sj=>yE o si sj) ∨
 (c.2≤c.1∧OPS tab (ops.take c.2) s fun sj=>OPS tab ((ops.drop c.2).take (c.1-c.2)) sj fun si=>yE o si sj))
theorem Xi{ops:List aV}{c:Nat × Nat}(h:aF6 tab ops s c):∃ m d o si sj,c.2≤ops.length∧ops[c.1]?=some o∧jk (CF tab m d) (ops.take c.1) s=some si∧jk (CF tab m d) (ops.take c.2) s=some sj∧yE o si sj:=by
 have two:∀(a b:Nat) (K:St→St→Prop),a≤b→OPS tab (ops.take a) s (fun sa=>OPS tab ((ops.drop a).take (b-a)) sa fun sb=>K sa sb) →
   ∃ m d sa sb,jk (CF tab m d) (ops.take a) s=some sa∧jk (CF tab m d) (ops.take b) s=some sb∧K sa sb:=by
  intro a b K hab h
  obtain⟨m,d,sa,h1,h2⟩:=mZ _ _ h
  obtain⟨m',d',sb,h3,h4⟩:=mZ _ _ h2
  have e1:=fP (nV (tab:=tab) (Nat.le_max_left m m') (Nat.le_max_left d d')) _ _ h1
  have e3:=fP (nV (tab:=tab) (Nat.le_max_right m m') (Nat.le_max_right d d')) _ _ h3
  refine⟨max m m',max d d',sa,sb,e1,?_,h4⟩
  have:ops.take b=ops.take a++(ops.drop a).take (b-a):=by
   have hb:b=a+(b-a):=by omega
   conv=>lhs;rw [hb,List.take_add]
  rw [this,xW,e1]
  exact e3
 obtain⟨hj,o,ho,⟨hij,h⟩ | ⟨hji,h⟩⟩:=h
 ·obtain⟨m,d,si,sj,h1,h2,h3⟩:=two _ _ (fun si sj=>yE o si sj) hij h
  exact⟨m,d,o,si,sj,hj,ho,h1,h2,h3⟩
 ·obtain⟨m,d,sj,si,h1,h2,h3⟩:=two _ _ (fun sj si=>yE o si sj) hji h
  exact⟨m,d,o,si,sj,hj,ho,h2,h1,h3⟩
theorem N7{ops:List aV}{chk:List (Nat × Nat)}(hr:ro=none∨ops.all (·.op.gX)=true)(h:OPS tab ops s fun s'=>WP tab fn ro k s' Q)(hk:∀ c ∈ chk,aF6 tab ops s c) :
  WP tab fn ro (.code (.region ops chk)::k) s Q:=by
 obtain⟨m,d,s',h1,n,m',d',j,s2,h2,h3⟩:=mZ ops s h
 have hall:∃ M D,∀ c ∈ chk,∃ o si sj,c.2≤ops.length∧ops[c.1]?=some o∧jk (CF tab M D) (ops.take c.1) s=some si∧jk (CF tab M D) (ops.take c.2) s=some sj∧yE o si sj:=by
  clear h1 h2 h
  induction chk with
  | nil=>exact⟨0,0,fun c hc=>by cases hc⟩
  | cons c cs ih=>
   obtain⟨M,D,ih⟩:=ih fun c hc=>hk c (List.mem_cons_of_mem _ hc)
   obtain⟨m1,d1,o,si,sj,a1,a2,a3,a4,a5⟩:=Xi (hk c List.mem_cons_self)
   refine⟨max M m1,max D d1,fun c' hc'=>?_⟩
   rcases List.mem_cons.1 hc' with rfl | hc'
   ·have l:=nV (tab:=tab) (Nat.le_max_right M m1) (Nat.le_max_right D d1)
    exact⟨o,si,sj,a1,a2,fP l _ _ a3,fP l _ _ a4,a5⟩
   ·obtain⟨o,si,sj,a1,a2,a3,a4,a5⟩:=ih c' hc'
    have l:=nV (tab:=tab) (Nat.le_max_left M m1) (Nat.le_max_left D d1)
    exact⟨o,si,sj,a1,a2,fP l _ _ a3,fP l _ _ a4,a5⟩
 obtain⟨M,D,hall⟩:=hall
 obtain⟨MM,hm1,hm2,hm3⟩:∃ x,m≤x∧m'≤x∧M≤x:=⟨max (max m m') M,by omega,by omega,by omega⟩
 obtain⟨DD,hd1,hd2,hd3⟩:∃ x,d≤x∧d'≤x∧D≤x:=⟨max (max d d') D,by omega,by omega,by omega⟩
 refine⟨n+1,MM,DD,j,s2,?_,h3⟩
 have e1:=fP (nV (tab:=tab) hm1 hd1) ops _ h1
 have e2:=zW hm2 hd2 (Nat.le_refl n) h2
 have hro:(ro.isSome&&!ops.all (·.op.gX))=false:=by
  rcases hr with rfl | hr
  ·rfl
  ·rw [hr];simp
 obtain⟨ss,f1,f2,f3⟩:=zF ops s e1
 have hx:jO (CF tab MM DD) ops chk s=some s':=by
  cases chk with
  | nil=>simpa only [jO]using e1
  | cons x xs=>
   simp only [jO,f1]
   rw [if_pos,f2]
   rw [List.all_eq_true]
   intro c hc
   obtain⟨o,si,sj,a1,a2,a3,a4,a5⟩:=hall c hc
   have l:=nV (tab:=tab) hm3 hd3
   have hi:c.1≤ops.length:=by
    have:=(List.getElem?_eq_some_iff.1 a2).1
    omega
   have b3:=fP l _ _ a3
   have b4:=fP l _ _ a4
   rw [f3 _ hi]at b3
   rw [f3 _ a1]at b4
   simp only [sameAt,a2,b3,b4]
   rcases a5 with hw | ⟨v,H1,v',H2,g1,g2,g3⟩
   ·rw [hw]
   ·split
    ·rfl
    ·simp only [g1,g2,g3]
 simp only [run,hro,hx,e2]
 simp
end
end Km
end
section
namespace Km
open Go
def LBi(z:Bool)(H:Heap)(c:C)(l:List Int):Prop:=LB z H 1 (.c c) .nil (ints l)
theorem atQ{n:Nat}{H:Heap}{x:C}{m:Int}(h:exB n H x=some (fi m)):x=.f (fi m):=by
 cases x with
 | f y=>simpa using h
 | ptr b o e=>
  cases n with
  | zero=>simp [exB]at h
  | succ n=>
   simp only [exB]at h
   split at h
   ·rw [Option.map_eq_some_iff]at h;obtain⟨_,_,h⟩:=h;cases h
   ·cases h
 | sl b o l c e sz=>
  cases n with
  | zero=>simp [exB]at h
  | succ n=>
   simp only [exB]at h
   split at h
   ·split at h
    ·rw [Option.map_eq_some_iff]at h;obtain⟨_,_,h⟩:=h;cases h
    ·cases h
   ·cases h
 | _=>cases n<;>simp [exB]at h
theorem JD{n:Nat}{H:Heap}:∀ {cs:List C} {l:List Int},bD (exB n H) cs=some (l.map fi)→cs=l.map fun m=>.f (fi m)
 | [],[],_=>rfl
 | [],m::l,h=>by simp [bD]at h
 | x::cs,l,h=>by
  simp only [bD]at h
  cases hx:exB n H x with
  | none=>simp [hx]at h
  | some y=>
   cases hxs:bD (exB n H) cs with
   | none=>simp [hx,hxs]at h
   | some zs=>
    simp only [hx,hxs,Option.some.injEq]at h
    cases l with
    | nil=>cases h
    | cons m l=>
     simp only [List.map_cons,List.cons.injEq]at h
     obtain⟨rfl,rfl⟩:=h
     rw [atQ hx,JD hxs]
     rfl
theorem xk(l:List Int):(ints l).flatten=l.map fi:=by
 induction l with
 | nil=>rfl
 | cons m l ih=>simp only [ints,List.map_cons,List.flatten_cons]at ih ⊢;rw [ih];rfl
def LBj(z:Bool)(H:Heap)(c:C)(l:List Int):Prop:=
 (l=[]∧c=.f .ay)∨∃ b ep fl st,c=.sl b 0 l.length 0 ep 1∧H[b]?=some (.opn 1 (l.map fun m=>.f (fi m)) fl ep st)∧fl≤l.length∧(z=true→fl=0)∧(l=[]→st=.nil)∧(l≠[]→st=.loc)
theorem ru{l:List Int}:ints l=[]↔l=[]:=by cases l<;>simp [ints]
theorem LBi.j{z:Bool}{H:Heap}{c:C}{l:List Int}(h:LBi z H c l):LBj z H c l:=by
 rcases h with⟨h1,h2,_⟩ | ⟨b,ep,fl,st,cs,h1,h2,h3,h4,h5,h6,h7⟩
 ·refine .inl ⟨ru.1 h1,?_⟩
  cases h2;rfl
 ·rw [xk]at h3
  have hcs:=JD h3
  subst hcs
  simp only [V.c.injEq,JJ]at h1
  refine .inr ⟨b,ep,fl,st,h1,h2,by simpa using h4,h5,fun e=>(h6 (ru.2 e)).1,fun e=>h7 (fun h=>e (ru.1 h))⟩
theorem LBj.i{z:Bool}{H:Heap}{c:C}{l:List Int}(h:LBj z H c l):LBi z H c l:=by
 rcases h with⟨rfl,rfl⟩ | ⟨b,ep,fl,st,rfl,h2,h4,h5,h6,h7⟩
 ·exact .inl ⟨rfl,rfl,by decide⟩
 ·refine .inr ⟨b,ep,fl,st,_,by simp,h2,?_,by simpa using h4,h5,fun e=>⟨h6 (ru.1 e),by decide⟩,fun e=>h7 fun h=>e (ru.2 h)⟩
  rw [xk]
  have:=BK (n:=60) (H:=H) (l.map fi)
  rw [List.map_map]at this
  exact this
theorem LBj.set{z:Bool}{H:Heap}{c:C}{l:List Int}(h:LBj z H c l){b:Nat}{cs cs':List C}{fl fl':Nat}(hb:H[b]?=some (.box cs fl)):LBj z (H.set b (.box cs' fl')) c l:=by
 rcases h with h | ⟨b',ep,fl,st,h1,h2,h3⟩
 ·exact .inl h
 ·have:b≠b':=by rintro rfl;rw [hb]at h2;cases h2
  exact .inr ⟨b',ep,fl,st,h1,by rw [List.getElem?_set_ne this];exact h2,h3⟩
theorem LBj.push{z:Bool}{H:Heap}{c:C}{l:List Int}(h:LBj z H c l)(L:Heap):LBj z (H++L) c l:=by
 rcases h with h | ⟨b',ep,fl,st,h1,h2,h3⟩
 ·exact .inl h
 ·exact .inr ⟨b',ep,fl,st,h1,by rw [List.getElem?_append_left (aJ h2)];exact h2,h3⟩
theorem LBj.ex{z:Bool}{H:Heap}{c:C}{l:List Int}(h:LBj z H c l)(n:Nat):exC (n+1) H c=some (sl .nil (ints l)):=by
 rcases h with⟨rfl,rfl⟩ | ⟨b,ep,fl,st,rfl,h2,h4,h5,h6,h7⟩
 ·rfl
 ·cases l with
  | nil=>obtain rfl:=h6 rfl;simp [oV,h2,sl,ints,Tg.fc]
  | cons m l=>
   obtain rfl:=h7 (by simp)
   simp only [oV,h2]
   rw [if_pos ⟨trivial,trivial,by simp⟩,List.drop_zero,List.take_of_length_le (by simp)]
   have:=qX (n:=n) (H:=H) ((m::l).map fi)
   simp only [List.map_map]at this
   have e:(List.map (fun m=>C.f (fi m)) (m::l))=List.map (C.f ∘ fi) (m::l):=rfl
   rw [e,this]
   have hs:sl .nil (ints (m::l))=.fs (ints (m::l)).flatten (ints (m::l)).length:=rfl
   rw [hs,xk,JJ]
   rfl
theorem zx{n:Nat}:∀(l:List C) (H:Heap),(∀ x ∈ l,∃ y,x=.f y)→l.foldl (fun H x=>mkC n x H) H=H
 | [],_,_=>rfl
 | x::l,H,h=>by
  obtain⟨y,rfl⟩:=h x List.mem_cons_self
  simp only [List.foldl_cons,aFO]
  exact zx l H fun x hx=>h x (List.mem_cons_of_mem _ hx)
theorem LBj.mk{z:Bool}{H:Heap}{c:C}{l:List Int}(h:LBj z H c l)(n:Nat):LBj false (mkC (n+1) c H) c l∧∀(b:Nat) cs fl,H[b]?=some (.box cs fl)→(mkC (n+1) c H)[b]?=some (.box cs fl):=by
 rcases h with⟨rfl,rfl⟩ | ⟨b,ep,fl,st,rfl,h2,h4,h5,h6,h7⟩
 ·exact⟨.inl ⟨rfl,rfl⟩,fun b cs fl h=>h⟩
 ·have e:mkC (n+1) (.sl b 0 l.length 0 ep 1) H=H.set b (.opn 1 (l.map fun m=>.f (fi m)) (Nat.max fl l.length) ep st):=by
   simp only [Jy,h2]
   rw [zx]
   ·simp
   ·intro x hx
    have hx:=List.mem_of_mem_drop (List.mem_of_mem_take hx)
    obtain⟨m,_,rfl⟩:=List.mem_map.1 hx
    exact⟨_,rfl⟩
  rw [e]
  refine⟨.inr ⟨b,ep,_,st,rfl,List.getElem?_set_self (aJ h2),Nat.max_le.2 ⟨h4,Nat.le_refl _⟩,by simp,h6,h7⟩,fun b' cs fl' hb'=>?_⟩
  have:b≠b':=by rintro rfl;rw [h2]at hb';cases hb'
  rw [List.getElem?_set_ne this];exact hb'
end Km
end
section
namespace Km
open Go
end Km
end
section
namespace Km
open Go
def RB(H:Heap)(b sz ep:Nat)(rows:List (List FC)):Prop:=H[b]?=some (.opn sz (rows.flatten.map .f) 0 ep .loc)
def Fm(b:Nat)(H H':Heap):Prop:=H.length≤H'.length∧∀ b':Nat,b'≠b→b'<H.length→H'[b']?=H[b']?
theorem Fm.refl{b:Nat}(H:Heap):Fm b H H:=⟨Nat.le_refl _,fun _ _ _=>rfl⟩
theorem Fm.trans{b:Nat}{H H' H'':Heap}(h:Fm b H H')(h':Fm b H' H''):Fm b H H'':=
 ⟨Nat.le_trans h.1 h'.1,fun b' e l=>(h'.2 b' e (Nat.lt_of_lt_of_le l h.1)).trans (h.2 b' e l)⟩
theorem Fm.push{b:Nat}(H J:Heap):Fm b H (H++J):=⟨by simp,fun b' _ l=>List.getElem?_append_left l⟩
theorem Fm.set{b:Nat}(H:Heap)(x:Blk):Fm b H (H.set b x):=⟨by simp,fun b' e _=>List.getElem?_set_ne (Ne.symm e)⟩
theorem Fm.get{b:Nat}{H H':Heap}(h:Fm b H H'){b':Nat}{x:Blk}(hb:H[b']?=some x)(e:b'≠b):H'[b']?=some x:=by rw [h.2 b' e (aJ hb)];exact hb
theorem IV{sz:Nat}{row:List FC}(hr:row.length=sz):∀ {rows:List (List FC)} {j:Nat},Grid sz rows→j<rows.length →
  rows.flatten.take (j*sz)++row++rows.flatten.drop (j*sz+sz)=(rows.set j row).flatten
 | [],_,_,hj=>by simp at hj
 | r::rows,0,hg,_=>by
  have:=hg r List.mem_cons_self
  subst this
  simp
 | r::rows,j+1,hg,hj=>by
  have hr0:=hg r List.mem_cons_self
  have ih:=IV hr (rows:=rows) (j:=j) (fun x hx=>hg x (List.mem_cons_of_mem _ hx)) (by simpa using hj)
  simp only [List.flatten_cons,List.set_cons_succ]
  rw [←ih]
  have e1:(j+1)*sz=r.length+j*sz:=by rw [hr0,Nat.add_mul];omega
  have e2:(j+1)*sz+sz=r.length+(j*sz+sz):=by omega
  rw [e2,e1,List.take_append,List.drop_append]
  simp [List.take_of_length_le,List.append_assoc]
section
variable{H:Heap}{b sz ep j:Nat}{rows:List (List FC)}{row:List FC}
theorem RB.lt(h:RB H b sz ep rows):b<H.length:=aJ h
theorem RB.push(h:RB H b sz ep rows)(J:Heap):RB (H++J) b sz ep rows:=by
 unfold RB at *;rw [List.getElem?_append_left (aJ h)];exact h
theorem RB.len(h:RB H b sz ep rows){o l c:Nat}:cO H (.sl b o l c ep sz)=some l:=by
 unfold RB at h;simp [cO,h]
theorem RB.idx(h:RB H b sz ep rows){n c:Nat}{k:IntKind}{i:Int}(h0:0≤i)(hi:i<n){o:Nat}:bC H sz none (.c (.sl b o n c ep sz)) (.c (.f (.int k i)))=some (.c (.ptr b (o+i.toNat*sz) ep)):=by
 unfold RB at h
 simp only [bC,jG,h0,hi,if_true,h,and_self]
theorem RB.ldr(h:RB H b sz ep rows)(hg:Grid sz rows)(hj:rows[j]?=some row):ldV H (some sz) (.c (.ptr b (j*sz) ep))=some (.a (row.map .f)):=by
 unfold RB at h
 have hlen:row.length=sz:=hg row (List.mem_of_getElem? hj)
 have:=nM (k:=0) hg hj (by omega)
 simp only [bT,h,if_true]
 rw [←List.map_drop]
 rw [Nat.add_zero]at this
 rw [this]
 have h1:(row.map C.f++((rows.drop (j+1)).flatten.map C.f)).take sz=row.map C.f:=by
  rw [List.take_append_of_le_length (by simp [hlen]),List.take_of_length_le (by simp [hlen])]
 simp [hlen]
theorem RB.str(h:RB H b sz ep rows)(hg:Grid sz rows)(hj:j<rows.length)(hr:row.length=sz) :
  ∃ H',stC H (.ptr b (j*sz) ep) (row.map .f)=some H'∧RB H' b sz ep (rows.set j row)∧Fm b H H'∧H'.length=H.length:=by
 have hl:=bK hg
 have hjl:(j+1)*sz≤rows.length*sz:=Nat.mul_le_mul_right _ hj
 have hin:j*sz+sz≤rows.flatten.length:=by rw [hl];rw [Nat.add_mul]at hjl;omega
 unfold RB at h ⊢
 refine⟨H.set b (.opn sz ((rows.set j row).flatten.map .f) 0 ep .loc),?_,?_,Fm.set _ _,by simp⟩
 ·simp only [fG,h,Nat.zero_le,true_and,List.length_map,hr,hin,if_true]
  rw [←IV hr hg hj]
  simp [over,hr]
 ·exact List.getElem?_set_self (aJ h)
end
theorem bnd_nat{k n:Nat}(h:k≤n):bnd (vi k) n=some k:=by
 have:(0:Int)≤k∧(k:Int)≤n:=by omega
 simp [bnd,jG,this]
theorem RB.zS{H:Heap}{b sz ep n k:Nat}{rows:List (List FC)}(h:RB H b sz ep rows)(hk:k<n) :
  jc H sz (.c (.sl b 0 n 0 ep sz)) (some (vi k)) none none=some (.c (.sl b (k*sz) (n-k) 0 ep sz)):=by
 unfold RB at h
 have hb:cZ n n (some (vi k)) none none=some (k,n,n):=by simp [cZ,bnd_nat (Nat.le_of_lt hk)]
 simp [jc,h,hb]
 omega
theorem RB.Xf{H:Heap}{b sz ep n k:Nat}{rows:List (List FC)}(h:RB H b sz ep rows)(hk:k≤n)(h0:0<k) :
  jc H sz (.c (.sl b 0 n 0 ep sz)) none (some (vi k)) none=some (.c (.sl b 0 k 0 ep sz)):=by
 unfold RB at h
 have hb:cZ n n none (some (vi k)) none=some (0,k,n):=by simp [cZ,bnd_nat hk]
 simp [jc,h,hb]
 try omega
theorem RB.clr{H:Heap}{b sz ep n k:Nat}{rows:List (List FC)}{zs:List FC}(h:RB H b sz ep rows)(hg:Grid sz rows)(hn:rows.length=n)(hk:k<n)(hz:zs.length=sz) :
  ∃ H',uI H sz zs (.c (.sl b (k*sz) (n-k) 0 ep sz))=some H'∧RB H' b sz ep (rows.take k++List.replicate (n-k) zs)∧Fm b H H':=by
 have hl:=bK hg
 have hlen:=h.len (o:=k*sz) (l:=n-k) (c:=0)
 have hrl:(dQ (n-k) zs).length=(n-k)*sz:=by
  have:Grid sz (List.replicate (n-k) zs):=fun r hr=>by rw [List.eq_of_mem_replicate hr,hz]
  simpa [dQ]using bK this
 have hsum:k*sz+(n-k)*sz=rows.flatten.length:=by rw [hl,hn,←Nat.add_mul];congr 1;omega
 unfold RB at h ⊢
 refine⟨H.set b (.opn sz ((rows.take k++List.replicate (n-k) zs).flatten.map .f) 0 ep .loc),?_,List.getElem?_set_self (aJ h),Fm.set _ _⟩
 have hnk:n-k≠0:=by omega
 have e0:(rows.take k++List.replicate (n-k) zs).flatten.map C.f=over (rows.flatten.map .f) (k*sz) ((dQ (n-k) zs).map .f):=by
  rw [List.flatten_append,←EG k hg]
  simp only [over,List.length_map,hrl,List.map_append,List.map_take]
  rw [List.drop_eq_nil_of_le (by simp only [List.length_map];omega)]
  simp [dQ]
 simp only [uI,hlen]
 rw [e0]
 obtain⟨q,hq⟩:∃ q,n-k=q+1:=⟨n-k-1,by omega⟩
 rw [hq]
 simp only [hz,if_true,h,and_self,fG,Nat.zero_le,true_and,List.length_map]
 rw [←hq,hrl,if_pos (by omega)]
theorem res_one{t:T}{H:Heap}{x:mW}{r:V}(h:fH t H x=some r):Km.results t H [x]=some r:=by
 simp [Km.results,bD,h]
@[simp] theorem aUo {t:T} {H:Heap} (sz:Nat) (zs:List FC) (x:Arg):xOp t H (.clear sz zs x)=(uI H sz zs (x.ev t)).map (.t [],·):=rfl
@[simp] theorem aUC {a b:Int}:JA false [vi a,vi b]=some (vi (max a b)):=by
 have:(if a<b then b else a)=max a b:=by split<;>omega
 simp only [JA,BJ,JB]
 simp [this,V.int]
@[simp] theorem aUB {a b:Int}:JA true [vi a,vi b]=some (vi (min a b)):=by
 have:(if b<a then b else a)=min a b:=by split<;>omega
 simp only [JA,BJ,JB]
 simp [this,V.int]
end Km
end
section
namespace Km
open Go
def swp(l:List (List FC))(i j:Nat):List (List FC):=(l.set i (l.getD j [])).set j (l.getD i [])
def Seg(a b:Nat)(l l':List (List FC)):Prop:=l'.Perm l∧l'.take a=l.take a∧l'.drop b=l.drop b
theorem Seg.refl(a b:Nat)(l:List (List FC)):Seg a b l l:=⟨.refl _,rfl,rfl⟩
theorem Seg.trans{a b:Nat}{l l' l'':List (List FC)}(h:Seg a b l l')(h':Seg a b l' l''):Seg a b l l'':=⟨h'.1.trans h.1,h'.2.1.trans h.2.1,h'.2.2.trans h.2.2⟩
theorem Seg.len{a b:Nat}{l l':List (List FC)}(h:Seg a b l l'):l'.length=l.length:=h.1.length_eq
theorem Seg.lt{a b:Nat}{l l':List (List FC)}(h:Seg a b l l'){i:Nat}(hi:i<a):l'[i]?=l[i]?:=by
 have:=congrArg (·[i]?) h.2.1
 simpa [List.getElem?_take,hi]using this
theorem Seg.ge{a b:Nat}{l l':List (List FC)}(h:Seg a b l l'){i:Nat}(hi:b≤i):l'[i]?=l[i]?:=by
 have:=congrArg (·[i-b]?) h.2.2
 simpa [List.getElem?_drop,show b+(i-b)=i by omega]using this
theorem Seg.mono{a b a' b':Nat}{l l':List (List FC)}(h:Seg a b l l')(ha:a'≤a)(hb:b≤b'):Seg a' b' l l':=by
 refine⟨h.1,?_,?_⟩
 ·have:=congrArg (·.take a') h.2.1
  simpa [List.take_take,Nat.min_eq_left ha]using this
 ·have:=congrArg (·.drop (b'-b)) h.2.2
  simpa [List.drop_drop,show b+(b'-b)=b' by omega]using this
theorem F7(l:List (List FC))(i j:Nat):(swp l i j).length=l.length:=by simp [swp]
theorem swp_get{l:List (List FC)}{i j:Nat}(hi:i<l.length)(hj:j<l.length)(k:Nat):(swp l i j)[k]?=if k=j then l[i]? else if k=i then l[j]? else l[k]?:=by
 have e1:l.getD i []=l[i]:=by simp [List.getD,List.getElem?_eq_getElem hi]
 have e2:l.getD j []=l[j]:=by simp [List.getD,List.getElem?_eq_getElem hj]
 simp only [swp,e1,e2,List.getElem?_set]
 by_cases h1:j=k
 ·subst h1;simp [List.getElem?_eq_getElem hi,hj]
 ·by_cases h2:i=k
  ·subst h2;simp [h1,Ne.symm h1,List.getElem?_eq_getElem hj,hi]
  ·simp [h1,h2,Ne.symm h1,Ne.symm h2]
theorem iV{a b:Nat}{l:List (List FC)}{i j:Nat}(hi:a≤i)(hib:i<b)(hj:a≤j)(hjb:j<b)(hb:b≤l.length):Seg a b l (swp l i j):=by
 have hil:i<l.length:=by omega
 have hjl:j<l.length:=by omega
 refine⟨?_,?_,?_⟩
 ·have e1:l.getD i []=l[i]:=by simp [List.getD,List.getElem?_eq_getElem hil]
  have e2:l.getD j []=l[j]:=by simp [List.getD,List.getElem?_eq_getElem hjl]
  simp only [swp,e1,e2]
  exact List.set_set_perm hil hjl
 ·apply List.ext_getElem?
  intro k
  simp only [List.getElem?_take]
  split
  ·rw [swp_get hil hjl,if_neg (by omega),if_neg (by omega)]
  ·rfl
 ·apply List.ext_getElem?
  intro k
  simp only [List.getElem?_drop]
  rw [swp_get hil hjl,if_neg (by omega),if_neg (by omega)]
section
variable{H:Heap}{b sz ep:Nat}{rows:List (List FC)}
theorem RB.swap(h:RB H b sz ep rows)(hg:Grid sz rows){i j:Nat}(hi:i<rows.length)(hj:j<rows.length) :
  ∃ H1 H2,stC H (.ptr b (i*sz) ep) (rows[j].map .f)=some H1∧RB H1 b sz ep (rows.set i rows[j])∧stC H1 (.ptr b (j*sz) ep) (rows[i].map .f)=some H2∧RB H2 b sz ep (swp rows i j)∧Fm b H H2:=by
 have gi:rows[i].length=sz:=hg _ (List.getElem_mem hi)
 have gj:rows[j].length=sz:=hg _ (List.getElem_mem hj)
 obtain⟨H1,s1,r1,f1,-⟩:=h.str hg hi gj
 have hg1:Grid sz (rows.set i rows[j]):=fun r hr=>by
  rcases List.mem_or_eq_of_mem_set hr with h | rfl
  ·exact hg r h
  ·exact gj
 obtain⟨H2,s2,r2,f2,-⟩:=r1.str hg1 (j:=j) (by simpa using hj) gi
 refine⟨H1,H2,s1,r1,s2,?_,f1.trans f2⟩
 have e1:rows.getD i []=rows[i]:=by simp [List.getD,List.getElem?_eq_getElem hi]
 have e2:rows.getD j []=rows[j]:=by simp [List.getD,List.getElem?_eq_getElem hj]
 simp only [swp,e1,e2]
 exact r2
theorem Seg.grid{a b:Nat}{l l':List (List FC)}(h:Seg a b l l')(hg:Grid sz l):Grid sz l':=fun r hr=>hg r (h.1.mem_iff.1 hr)
end
structure Cmp(W:List FC→Prop)(c:List FC→List FC→Int):Prop where
 asym:∀ {x y},W x→W y→c x y<0→¬ c y x<0
 trans:∀ {x y z},W x→W y→W z→¬ c y x<0→¬ c z y<0→¬ c z x<0
def Up(c:List FC→List FC→Int)(a b:Nat)(l:List (List FC)):Prop:=∀ i j x y,a≤i→i<j→j<b→l[i]?=some x→l[j]?=some y→¬ c y x<0
end Km
end
section
namespace Km
open Go
theorem Fz{l:List (List FC)}{a m b:Nat}(h1:a≤m)(h2:m≤b)(h3:b≤l.length):∃ X U V Y,l=X++(U++(V++Y))∧X.length=a∧U.length=m-a∧V.length=b-m:=by
 refine⟨l.take a,(l.drop a).take (m-a),(l.drop m).take (b-m),l.drop b,?_,by simp;omega,by simp;omega,by simp;omega⟩
 have e2:(l.drop m).take (b-m)++l.drop b=l.drop m:=by
  have:=List.take_append_drop (b-m) (l.drop m)
  rwa [List.drop_drop,show m+(b-m)=b by omega]at this
 have e1:(l.drop a).take (m-a)++l.drop m=l.drop a:=by
  have:=List.take_append_drop (m-a) (l.drop a)
  rwa [List.drop_drop,show a+(m-a)=m by omega]at this
 rw [e2,e1,List.take_append_drop]
theorem Seg.mem{a b:Nat}{l l':List (List FC)}(h:Seg a b l l')(hab:a≤b)(hb:b≤l.length){i:Nat}{x:List FC}(h1:a≤i)(h2:i<b)(hx:l'[i]?=some x):∃ j,a≤j∧j<b∧l[j]?=some x:=by
 obtain⟨X,U,V,Y,e,lX,lU,lV⟩:=Fz (Nat.le_refl a) hab hb
 have hl:=h.len
 obtain⟨X',U',V',Y',e',lX',lU',lV'⟩:=Fz (l:=l') (Nat.le_refl a) hab (by omega)
 obtain rfl:U=[]:=List.length_eq_zero_iff.1 (by omega)
 obtain rfl:U'=[]:=List.length_eq_zero_iff.1 (by omega)
 obtain⟨hp,ht,hd⟩:=h
 subst e;subst e'
 have eX:X'=X:=by
  simpa [List.take_append_of_le_length (show a≤X.length by omega),List.take_append_of_le_length (show a≤X'.length by omega),List.take_of_length_le (show X.length≤a by omega),List.take_of_length_le (show X'.length≤a by omega)]using ht
 have eY:Y'=Y:=by
  have q:∀ {A B C:List (List FC)},A.length=a→B.length=b-a→(A++([]++(B++C))).drop b=C:=by
   intro A B C hA hB
   rw [List.nil_append,←List.append_assoc,List.drop_append_of_le_length (by simp;omega),List.drop_of_length_le (by simp;omega),List.nil_append]
  rwa [q lX' lV',q lX lV]at hd
 subst eX;subst eY
 have hp:V'.Perm V:=by
  have:=(List.perm_append_left_iff X').1 hp
  simp only [List.nil_append]at this
  exact(List.perm_append_right_iff Y').1 this
 rw [List.nil_append,List.getElem?_append_right (by omega),List.getElem?_append_left (by omega)]at hx
 obtain⟨j,hj⟩:=List.getElem?_of_mem (hp.mem_iff.1 (List.mem_of_getElem? hx))
 have hjl:=(List.getElem?_eq_some_iff.1 hj).1
 refine⟨a+j,by omega,by omega,?_⟩
 rw [List.nil_append,List.getElem?_append_right (by omega),List.getElem?_append_left (by omega)]
 rw [←hj];congr 1;omega
section
variable{W:List FC→Prop}{c:List FC→List FC→Int}
theorem Up.mono{a b a' b':Nat}{l:List (List FC)}(h:Up c a b l)(ha:a≤a')(hb:b'≤b):Up c a' b' l:=
 fun i j x y h1 h2 h3 hx hy=>h i j x y (by omega) h2 (by omega) hx hy
theorem Up.one{a b:Nat}{l:List (List FC)}(h:b≤a+1):Up c a b l:=fun i j x y h1 h2 h3=>by omega
theorem Up.of{a b:Nat}{l l':List (List FC)}(h:Up c a b l)(he:∀ k,a≤k→k<b→l'[k]?=l[k]?):Up c a b l':=fun i j x y h1 h2 h3 hx hy=>
 h i j x y h1 h2 h3 (by rw [←he i h1 (by omega)];exact hx) (by rw [←he j (by omega) h3];exact hy)
def LeI(c:List FC→List FC→Int)(l:List (List FC))(i j:Nat):Prop:=∀ x y,l[i]?=some x→l[j]?=some y→¬ c y x<0
theorem LeI.trans{l:List (List FC)}{i j k:Nat}(hc:Cmp W c)(hW:∀ r ∈ l,W r)(h:LeI c l i j)(h':LeI c l j k)(hj:j<l.length):LeI c l i k:=fun x y hx hy=>by
 have hz:=List.getElem?_eq_getElem hj
 exact hc.trans (hW _ (List.mem_of_getElem? hx)) (hW _ (List.getElem_mem hj)) (hW _ (List.mem_of_getElem? hy)) (h _ _ hx hz) (h' _ _ hz hy)
end
end Km
end
section
namespace Km
open Go
def dL:C→Option Nat
 | .sl b _ _ _ _ _=>some b
 | _=>none
def LR(H:Heap)(c:C)(sz:Nat)(rows:List (List FC)):Prop:=(rows=[]∧(c=.f .ay∨c=.f .es))∨(rows≠[]∧∃ b ep,c=.sl b 0 rows.length 0 ep sz∧RB H b sz ep rows)
def Kb(H H':Heap)(c:C):Prop:=H.length≤H'.length∧∀(i:Nat) y,H[i]?=some y→dL c≠some i→H'[i]?=some y
section
variable{H H':Heap}{c:C}{sz:Nat}{rows:List (List FC)}
theorem LR.nil(H:Heap)(sz:Nat):LR H (.f .ay) sz []:=.inl ⟨rfl,.inl rfl⟩
theorem LR.keep(h:LR H c sz rows)(hk:∀ i y,H[i]?=some y→dL c=some i→H'[i]?=some y):LR H' c sz rows:=by
 rcases h with h | ⟨h,b,ep,rfl,h2⟩
 ·exact .inl h
 ·exact .inr ⟨h,b,ep,rfl,hk b _ h2 rfl⟩
theorem LR.push(h:LR H c sz rows)(J:Heap):LR (H++J) c sz rows:=h.keep fun i y hy _=>by rw [List.getElem?_append_left (aJ hy)];exact hy
theorem LR.lt(h:LR H c sz rows){i:Nat}(hi:dL c=some i):i<H.length:=by
 rcases h with⟨_,rfl | rfl⟩ | ⟨h,b,ep,rfl,h2⟩
 ·cases hi
 ·cases hi
 ·cases hi;exact h2.lt
theorem LR.pY(h:LR H c sz rows){i:Nat}{cs:List C}{fl:Nat}(hx:H[i]?=some (.box cs fl)):dL c≠some i:=by
 rcases h with⟨_,rfl | rfl⟩ | ⟨h,b,ep,rfl,h2⟩
 ·simp [dL]
 ·simp [dL]
 ·intro e
  cases e
  unfold RB at h2
  rw [h2]at hx;cases hx
theorem LR.set(h:LR H c sz rows){i:Nat}(hi:dL c≠some i)(x:Blk):LR (H.set i x) c sz rows:=h.keep fun j y hy hj=>by
 have:i≠j:=by rintro rfl;exact hi hj
 rw [List.getElem?_set_ne this];exact hy
theorem LR.len(h:LR H c sz rows):cO H c=some rows.length:=by
 rcases h with⟨rfl,rfl | rfl⟩ | ⟨h,b,ep,rfl,h2⟩
 ·rfl
 ·rfl
 ·exact h2.len
theorem LR.ex(h:LR H c sz rows)(hg:Grid sz rows)(n:Nat):∃ g,exC (n+1) H c=some (sl g rows):=by
 rcases h with⟨rfl,rfl | rfl⟩ | ⟨h,b,ep,rfl,h2⟩
 ·exact⟨.nil,rfl⟩
 ·exact⟨.es,rfl⟩
 ·refine⟨.fs,?_⟩
  have hl:rows.length*sz=rows.flatten.length:=(bK hg).symm
  unfold RB at h2
  simp only [oV,h2]
  rw [if_pos ⟨trivial,trivial,by rw [List.length_map,Nat.zero_add,hl];exact Nat.le_refl _⟩,List.drop_zero,List.take_of_length_le (by rw [List.length_map];omega),qX]
  cases rows with
  | nil=>exact absurd rfl h
  | cons x l=>simp [sl]
theorem LR.app(h:LR H c sz rows)(hg:Grid sz rows)(hsz:sz≠0){row:List FC}(hr:row.length=sz){bytes:Nat}(hroom:bP (rows.length+1) bytes=true){b1 fl1:Nat}(hb1:H[b1]?=some (.box (row.map .f) fl1)) :
  ∃ c' H',dh H sz bytes (.c c) (.c (.sl b1 0 1 1 0 sz))=some (.c c',H')∧LR H' c' sz (rows++[row])∧Kb H H' c∧(dL c'=dL c∨dL c'=some H.length):=by
 have hadd:fE H sz (.c (.sl b1 0 1 1 0 sz))=some (1,row.map .f):=lq hb1 (by simp [hr])
 rcases h with⟨rfl,he⟩ | ⟨hne,b,ep,rfl,h2⟩
 ·have hroom:bP 1 bytes=true:=by simpa using hroom
  refine⟨.sl H.length 0 1 0 0 sz,H++[.opn sz (row.map .f) 0 0 .loc],?_,.inr ⟨by simp,H.length,0,rfl,?_⟩,⟨by simp,fun i y hy _=>by rw [List.getElem?_append_left (aJ hy)];exact hy⟩,.inr rfl⟩
  ·rcases he with rfl | rfl<;>simp [dh,hadd,hroom,hsz]
  ·simp [RB]
 ·have hlen:rows.length*sz=rows.flatten.length:=(bK hg).symm
  unfold RB at h2
  refine⟨.sl b 0 (rows.length+1) 0 (ep+1) sz,H.set b (.opn sz (rows.flatten.map .f++row.map .f) 0 (ep+1) .loc),?_,.inr ⟨by simp,b,ep+1,by simp,?_⟩,⟨by simp,fun i y hy hn=>?_⟩,.inl rfl⟩
  ·simp only [dh,hadd,hsz,if_false,h2,and_self,if_true]
   simp only [Nat.add_one_ne_zero,if_false]
   rw [if_pos ⟨trivial,by rw [List.length_map];exact hlen,by simp⟩,hroom]
   simp
  ·unfold RB
   rw [List.getElem?_set_self (aJ h2)]
   simp
  ·have:b≠i:=by rintro rfl;exact hn rfl
   rw [List.getElem?_set_ne this];exact hy
end
end Km
end
section
namespace Km
open Go
theorem Ce{α:Type}{sz:Nat}:∀ {rows:List (List α)} {j:Nat} {row:List α},(∀ r ∈ rows,r.length=sz)→rows[j]?=some row→(rows.flatten.drop (j*sz)).take sz=row
 | [],j,row,_,hj=>by simp at hj
 | r::rows,0,row,hg,hj=>by
  simp at hj;subst hj
  have:=hg r List.mem_cons_self
  subst this
  simp
 | r::rows,j+1,row,hg,hj=>by
  have hr:=hg r List.mem_cons_self
  have ih:=Ce (rows:=rows) (j:=j) (row:=row) (fun x hx=>hg x (List.mem_cons_of_mem _ hx)) (by simpa using hj)
  rw [List.flatten_cons,show(j+1)*sz=r.length+j*sz by rw [hr,Nat.add_mul];omega,←List.drop_drop,List.drop_left]
  exact ih
theorem Us{α:Type}{sz:Nat}:∀ {rows:List (List α)} {j k n:Nat} {row:List α},(∀ r ∈ rows,r.length=sz)→rows[j]?=some row→k+n≤sz→(rows.flatten.drop (j*sz+k)).take n=(row.drop k).take n:=by
 intro rows j k n row hg hj hk
 have hr:row.length=sz:=hg row (List.mem_of_getElem? hj)
 have h1:=Ce hg hj
 rw [←List.drop_drop,←h1,List.drop_take,List.take_take,Nat.min_eq_left (by omega)]
theorem Fg{α:Type}{sz:Nat}:∀ {rows:List (List α)} {j k:Nat} {row xs:List α},(∀ r ∈ rows,r.length=sz)→rows[j]?=some row→k+xs.length≤sz→over rows.flatten (j*sz+k) xs=(rows.set j (over row k xs)).flatten
 | [],j,k,row,xs,_,hj,_=>by simp at hj
 | r::rows,0,k,row,xs,hg,hj,hk=>by
  simp at hj;subst hj
  have:=hg r List.mem_cons_self
  simp only [over,List.flatten_cons,List.set_cons_zero,Nat.zero_mul,Nat.zero_add]
  rw [List.take_append_of_le_length (by omega),List.drop_append_of_le_length (by omega)]
  simp
 | r::rows,j+1,k,row,xs,hg,hj,hk=>by
  have hr:=hg r List.mem_cons_self
  have ih:=Fg (rows:=rows) (j:=j) (k:=k) (row:=row) (xs:=xs) (fun y hy=>hg y (List.mem_cons_of_mem _ hy)) (by simpa using hj) hk
  have e:(j+1)*sz+k=r.length+(j*sz+k):=by rw [hr,Nat.add_mul];omega
  simp only [over,List.flatten_cons,List.set_cons_succ]at ih ⊢
  rw [←ih,e,List.take_length_add_append,Nat.add_assoc,List.drop_length_add_append]
  simp
theorem Q5{α:Type}{sz:Nat}{rows:List (List α)}(hg:∀ r ∈ rows,r.length=sz){j:Nat}(hj:j<rows.length):j*sz+sz≤rows.flatten.length:=by
 rw [Cc hg]
 have:(j+1)*sz≤rows.length*sz:=Nat.mul_le_mul_right _ hj
 rw [Nat.add_mul]at this
 omega
section
variable{H:Heap}{b sz ep j k n:Nat}{rows:List (List FC)}{row:List FC}
theorem RB.ldp(h:RB H b sz ep rows)(hg:Grid sz rows)(hj:rows[j]?=some row)(hk:k+n≤sz):ldV H (some n) (.c (.ptr b (j*sz+k) ep))=some (.a (((row.drop k).take n).map .f)):=by
 unfold RB at h
 have hlen:row.length=sz:=hg row (List.mem_of_getElem? hj)
 have:=Us (n:=n) hg hj hk
 simp only [bT,h,if_true]
 have e:((row.drop k).take n).length=n:=by simp [hlen];omega
 have hlt:=Q5 hg (List.getElem?_eq_some_iff.1 hj).1
 rw [←List.map_drop]
 simp only [iK,List.length_map]
 rw [if_pos (by rw [List.length_drop];omega),←List.map_take,this]
theorem RB.ldc{x:FC}(h:RB H b sz ep rows)(hg:Grid sz rows)(hj:rows[j]?=some row)(hk:row[k]?=some x):ldV H none (.c (.ptr b (j*sz+k) ep))=some (.c (.f x)):=by
 unfold RB at h
 have hlen:row.length=sz:=hg row (List.mem_of_getElem? hj)
 have hkl:=(List.getElem?_eq_some_iff.1 hk).1
 have:=flat_get hg hj (by omega:k<sz)
 simp only [bT,h,if_true]
 rw [List.map_drop.symm]
 have e:(rows.flatten.drop (j*sz+k))[0]?=some x:=by rw [List.getElem?_drop,Nat.add_zero,this,hk]
 cases hd:rows.flatten.drop (j*sz+k)with
 | nil=>rw [hd]at e;simp at e
 | cons y ys=>rw [hd]at e;simp at e;simp [iK,e]
theorem RB.stp{xs:List FC}(h:RB H b sz ep rows)(hg:Grid sz rows)(hj:rows[j]?=some row)(hk:k+xs.length≤sz):∃ H',stC H (.ptr b (j*sz+k) ep) (xs.map .f)=some H'∧RB H' b sz ep (rows.set j (over row k xs))∧Fm b H H'∧H'.length=H.length:=by
 have hjl:=(List.getElem?_eq_some_iff.1 hj).1
 have hin:=Q5 hg hjl
 unfold RB at h ⊢
 refine⟨H.set b (.opn sz ((rows.set j (over row k xs)).flatten.map .f) 0 ep .loc),?_,List.getElem?_set_self (aJ h),Fm.set _ _,by simp⟩
 have e:over (rows.flatten.map C.f) (j*sz+k) (xs.map .f)=((rows.set j (over row k xs)).flatten).map .f:=by
  rw [←Fg hg hj hk]
  simp [over]
 simp only [fG,h,Nat.zero_le,true_and,List.length_map]
 rw [if_pos (by omega),e]
end
def aLa(sz:Nat)(zs:List FC)(bytes:Nat):AFunc:=⟨[P.nat 0],[.tmp (P.nat 2)],.seq (.region [⟨D 2,.mov (.k (.c (.f (.ay)))),none⟩] []) (.seq (.seq (.region [⟨D 3,.mov (R 0),none⟩,⟨D 4,.eq false .sl (R 3) (.k (.c (.f (.ay)))),none⟩] [])
 (.cond (R 4) (.seq (.region [⟨D 2,.mov (.k (.c (.f (.ay)))),none⟩] []) .ret) .skip)) (.seq (.region [⟨D 5,.aU sz zs 0 [],none⟩,⟨D 6,.mov (R 0),none⟩,⟨D 7,.append sz bytes (R 5) (R 6),none⟩,⟨D 2,.mov (R 7),none⟩] []) .ret))⟩
section
variable{tab:Nat→Option AFunc}{F sz bytes:Nat}{zs:List FC}{H:Heap}{g:Tg}{rows:List (List FC)}
theorem Fp{cs:List FC}{n:Nat}:eqV H .sl (.c (.f (.fs cs n))) (.c (.f .ay))=some false:=rfl
theorem atS:eqV H .sl (.c (.f .ay)) (.c (.f .ay))=some true:=rfl
theorem aRw:eqV H .sl (.c (.f .es)) (.c (.f .ay))=some false:=rfl
theorem J6(hT:tab F=some (aLa sz zs bytes))(hsz:sz≠0)(hg:Grid sz rows)(hroom:bP rows.length bytes=true) :
  ∃ r H',Ev tab (.fn F) [.c (.f (sl g rows))] H r H'∧∃ c J,r=.c c∧H'=H++J∧LR (H++J) c sz rows∧∀ i,dL c=some i→H.length≤i:=by
 refine gW (C:=fun r H'=>∃ c J,r=.c c∧H'=H++J∧LR (H++J) c sz rows∧∀ i,dL c=some i→H.length≤i) hT rfl fun Q hQ=>?_
 refine ak (aj (.inl rfl) ?_)
 simp
 refine ak ?_
 refine ak (aj (.inl rfl) ?_)
 cases rows with
 | nil=>
  cases g with
  | nil=>
   simp [sl,Tg.fc,atS]
   refine aC (by simp) ?_
   refine ak (aj (.inl rfl) ?_)
   simp
   exact aO (hQ _ _ (.c (.f .ay)) rfl (by simp [Km.results,bD]) ⟨_,[],rfl,by simp,.inl ⟨rfl,.inl rfl⟩,by simp [dL]⟩)
  | es=>
   simp [sl,Tg.fc,aRw]
   refine aA (by simp) (aK ?_)
   refine ak (aj (.inl rfl) ?_)
   simp [dh,fE,cO,dP,hsz]
   exact aO (hQ _ _ (.c (.f .es)) rfl (by simp [Km.results,bD]) ⟨_,[],rfl,by simp,.inl ⟨rfl,.inr rfl⟩,by simp [dL]⟩)
  | fs=>
   simp [sl,Tg.fc,Fp]
   refine aA (by simp) (aK ?_)
   refine ak (aj (.inl rfl) ?_)
   simp [dh,fE,cO,dP,hsz]
   exact aO (hQ _ _ (.c (.f .es)) rfl (by simp [Km.results,bD]) ⟨_,[],rfl,by simp,.inl ⟨rfl,.inr rfl⟩,by simp [dL]⟩)
 | cons x r=>
  have hadd:fE H sz (.c (.f (.fs (x::r).flatten (x::r).length)))=some ((x::r).length,(x::r).flatten.map .f):=by
   have h1:=Zu (H:=H) (g:=.fs) hg
   have h2:=aKo (H:=H) .fs (x::r)
   simp only [sl,List.isEmpty_cons,Bool.false_eq_true,if_false]at h1 h2
   simp only [fE,h1,h2]
  have hroom':bP (r.length+1) bytes=true:=by simpa using hroom
  simp only [sl,List.isEmpty_cons,Bool.false_eq_true,if_false]
  simp [Fp]
  refine aA (by simp) (aK ?_)
  refine ak (aj (.inl rfl) ?_)
  simp only [List.flatten_cons,List.length_cons]at hadd
  simp [dh,hadd,hsz,hroom']
  refine aO (hQ _ _ (.c (.sl H.length 0 (r.length+1) 0 0 sz)) rfl (by simp [Km.results,bD]) ⟨_,[.opn sz ((x::r).flatten.map .f) 0 0 .loc],rfl,by simp,.inr ⟨by simp,H.length,0,rfl,by simp [RB]⟩,by simp [dL]⟩)
end
end Km
end
section
set_option linter.unusedVariables false
namespace Km
open Go
structure Srt where
 pdq:Nat
 ins:Nat
 heap:Nat
 sift:Nat
 brk:Nat
 piv:Nat
 rev:Nat
 part:Nat
 peq:Nat
 pins:Nat
 BM:Nat
 med:Nat
 ord:Nat
 npt:Nat
 nxt:Nat
 len:Nat
 aNZ:Nat
 aN0:Nat
 rot:Nat
 swr:Nat
def aO2(σ:Srt)(sz:Nat):ah:=.region [⟨D 10,.mov (.k (.c (.f (.bool true)))),none⟩] []
def aO0(σ:Srt)(sz:Nat):ah:=.region [⟨D 11,.mov (.k (.c (.f (.bool true)))),none⟩] []
def aOW(σ:Srt)(sz:Nat):ah:=.region [⟨D 21,.mov (R 2),none⟩,⟨D 22,.mov (R 1),none⟩,⟨D 23,.bin .sub (R 21) (R 22),none⟩,⟨D 12,.mov (R 23),none⟩] []
def aJz(σ:Srt)(sz:Nat):ah:=.region [⟨D 24,.mov (R 12),none⟩,⟨D 25,.bin .leq (R 24) (.k (.c (.f (.int .i64 12)))),none⟩] []
def aJw(σ:Srt)(sz:Nat):ah:=.region [⟨D 26,.mov (R 0),none⟩,⟨D 27,.mov (R 1),none⟩,⟨D 28,.mov (R 2),none⟩,⟨D 29,.mov (R 4),none⟩,⟨D 30,.call σ.ins [(R 26),(R 27),(R 28),(R 29)] true,none⟩] []
def aJx(σ:Srt)(sz:Nat):ah:=.seq (aJw σ sz) .ret
def aJy(σ:Srt)(sz:Nat):ah:=.cond (R 25) (aJx σ sz) .skip
def aJA(σ:Srt)(sz:Nat):ah:=.seq (aJz σ sz) (aJy σ sz)
def aJt(σ:Srt)(sz:Nat):ah:=.region [⟨D 31,.mov (R 3),none⟩,⟨D 32,.bin .eql (R 31) (.k (.c (.f (.int .i64 0)))),none⟩] []
def aJq(σ:Srt)(sz:Nat):ah:=.region [⟨D 33,.mov (R 0),none⟩,⟨D 34,.mov (R 1),none⟩,⟨D 35,.mov (R 2),none⟩,⟨D 36,.mov (R 4),none⟩,⟨D 37,.call σ.heap [(R 33),(R 34),(R 35),(R 36)] true,none⟩] []
def aJr(σ:Srt)(sz:Nat):ah:=.seq (aJq σ sz) .ret
def aJs(σ:Srt)(sz:Nat):ah:=.cond (R 32) (aJr σ sz) .skip
def aJu(σ:Srt)(sz:Nat):ah:=.seq (aJt σ sz) (aJs σ sz)
def aJn(σ:Srt)(sz:Nat):ah:=.region [⟨D 38,.mov (R 10),none⟩,⟨D 39,.un .not (R 38),none⟩] []
def aJk(σ:Srt)(sz:Nat):ah:=.region [⟨D 40,.mov (R 0),none⟩,⟨D 41,.mov (R 1),none⟩,⟨D 42,.mov (R 2),none⟩,⟨D 43,.mov (R 4),none⟩,⟨D 44,.call σ.brk [(R 40),(R 41),(R 42),(R 43)] true,none⟩] []
def aJj(σ:Srt)(sz:Nat):ah:=.region [⟨D 45,.mov (R 3),none⟩,⟨D 46,.bin .sub (R 45) (.k (.c (.f (.int .i64 1)))),none⟩,⟨D 3,.mov (R 46),none⟩] []
def aJl(σ:Srt)(sz:Nat):ah:=.seq (aJk σ sz) (aJj σ sz)
def aJm(σ:Srt)(sz:Nat):ah:=.cond (R 39) (aJl σ sz) .skip
def aJo(σ:Srt)(sz:Nat):ah:=.seq (aJn σ sz) (aJm σ sz)
def aJi(σ:Srt)(sz:Nat):ah:=.region [⟨D 48,.mov (R 0),none⟩,⟨D 49,.mov (R 1),none⟩,⟨D 50,.mov (R 2),none⟩,⟨D 51,.mov (R 4),none⟩,⟨D 52,.call σ.piv [(R 48),(R 49),(R 50),(R 51)] true,none⟩,⟨D 47,.mov (R 52),none⟩,⟨D 53,.extract (R 47) 0,none⟩,⟨D 54,.extract (R 47) 1,none⟩,⟨D 13,.mov (R 53),none⟩,⟨D 14,.mov (R 54),none⟩] []
def aJf(σ:Srt)(sz:Nat):ah:=.region [⟨D 55,.mov (R 14),none⟩,⟨D 56,.bin .eql (R 55) (.k (.c (.f (.int .i64 2)))),none⟩] []
def aJc(σ:Srt)(sz:Nat):ah:=.region [⟨D 57,.mov (R 0),none⟩,⟨D 58,.mov (R 1),none⟩,⟨D 59,.mov (R 2),none⟩,⟨D 60,.mov (R 4),none⟩,⟨D 61,.call σ.rev [(R 57),(R 58),(R 59),(R 60)] true,none⟩] []
def aJa(σ:Srt)(sz:Nat):ah:=.region [⟨D 62,.mov (R 2),none⟩,⟨D 63,.bin .sub (R 62) (.k (.c (.f (.int .i64 1)))),none⟩,⟨D 64,.mov (R 13),none⟩,⟨D 65,.mov (R 1),none⟩,⟨D 66,.bin .sub (R 64) (R 65),none⟩,⟨D 67,.bin .sub (R 63) (R 66),none⟩,⟨D 13,.mov (R 67),none⟩] []
def aI9(σ:Srt)(sz:Nat):ah:=.region [⟨D 14,.mov (.k (.c (.f (.int .i64 1)))),none⟩] []
def aJb(σ:Srt)(sz:Nat):ah:=.seq (aJa σ sz) (aI9 σ sz)
def aJd(σ:Srt)(sz:Nat):ah:=.seq (aJc σ sz) (aJb σ sz)
def aJe(σ:Srt)(sz:Nat):ah:=.cond (R 56) (aJd σ sz) .skip
def aJg(σ:Srt)(sz:Nat):ah:=.seq (aJf σ sz) (aJe σ sz)
def aI7(σ:Srt)(sz:Nat):ah:=.region [⟨D 68,.mov (R 10),none⟩,⟨D 69,.mov (R 68),none⟩,⟨D 70,.mov (R 11),G 69 true⟩,⟨D 71,.pick (R 69) (R 70) (.k (.c (.f (.bool false)))),none⟩,⟨D 72,.mov (R 71),none⟩,⟨D 73,.mov (R 14),G 72 true⟩,⟨D 74,.bin .eql (R 73) (.k (.c (.f (.int .i64 1)))),G 72 true⟩,⟨D 75,.pick (R 72) (R 74) (.k (.c (.f (.bool false)))),none⟩] []
def aI4(σ:Srt)(sz:Nat):ah:=.region [⟨D 76,.mov (R 0),none⟩,⟨D 77,.mov (R 1),none⟩,⟨D 78,.mov (R 2),none⟩,⟨D 79,.mov (R 4),none⟩,⟨D 80,.call σ.pins [(R 76),(R 77),(R 78),(R 79)] true,none⟩] []
def aI3(σ:Srt)(sz:Nat):ah:=.cond (R 80) .ret .skip
def aI5(σ:Srt)(sz:Nat):ah:=.seq (aI4 σ sz) (aI3 σ sz)
def aI6(σ:Srt)(sz:Nat):ah:=.cond (R 75) (aI5 σ sz) .skip
def aI8(σ:Srt)(sz:Nat):ah:=.seq (aI7 σ sz) (aI6 σ sz)
def aI1(σ:Srt)(sz:Nat):ah:=.region [⟨D 81,.mov (R 1),none⟩,⟨D 82,.bin .gtr (R 81) (.k (.c (.f (.int .i64 0)))),none⟩,⟨D 83,.mov (R 82),none⟩,⟨D 84,.mov (R 4),G 83 true⟩,⟨D 85,.mov (R 0),G 83 true⟩,⟨D 86,.mov (R 1),G 83 true⟩,⟨D 87,.bin .sub (R 86) (.k (.c (.f (.int .i64 1)))),G 83 true⟩,⟨D 88,.aF sz none (R 85) (R 87),G 83 true⟩,⟨D 89,.load (some sz) (R 88),G 83 true⟩,⟨D 90,.mov (R 0),G 83 true⟩,⟨D 91,.mov (R 13),G 83 true⟩,⟨D 92,.aF sz none (R 90) (R 91),G 83 true⟩,⟨D 93,.load (some sz) (R 92),G 83 true⟩,⟨D 94,.bU (R 84) [(R 89),(R 93)] true,G 83 true⟩,⟨D 95,.bin .lss (R 94) (.k (.c (.f (.int .i64 0)))),G 83 true⟩,⟨D 96,.un .not (R 95),G 83 true⟩,⟨D 97,.pick (R 83) (R 96) (.k (.c (.f (.bool false)))),none⟩] []
def aIY(σ:Srt)(sz:Nat):ah:=.region [⟨D 98,.mov (R 0),none⟩,⟨D 99,.mov (R 1),none⟩,⟨D 100,.mov (R 2),none⟩,⟨D 101,.mov (R 13),none⟩,⟨D 102,.mov (R 4),none⟩,⟨D 103,.call σ.peq [(R 98),(R 99),(R 100),(R 101),(R 102)] true,none⟩,⟨D 15,.mov (R 103),none⟩] []
def aIW(σ:Srt)(sz:Nat):ah:=.region [⟨D 104,.mov (R 15),none⟩,⟨D 1,.mov (R 104),none⟩] []
def aIX(σ:Srt)(sz:Nat):ah:=.seq (aIW σ sz) (.exit 1)
def aIZ(σ:Srt)(sz:Nat):ah:=.seq (aIY σ sz) (aIX σ sz)
def aI0(σ:Srt)(sz:Nat):ah:=.cond (R 97) (aIZ σ sz) .skip
def aI2(σ:Srt)(sz:Nat):ah:=.seq (aI1 σ sz) (aI0 σ sz)
def aIV(σ:Srt)(sz:Nat):ah:=.region [⟨D 106,.mov (R 0),none⟩,⟨D 107,.mov (R 1),none⟩,⟨D 108,.mov (R 2),none⟩,⟨D 109,.mov (R 13),none⟩,⟨D 110,.mov (R 4),none⟩,⟨D 111,.call σ.part [(R 106),(R 107),(R 108),(R 109),(R 110)] true,none⟩,⟨D 105,.mov (R 111),none⟩,⟨D 112,.extract (R 105) 0,none⟩,⟨D 113,.extract (R 105) 1,none⟩,⟨D 16,.mov (R 112),none⟩,⟨D 17,.mov (R 113),none⟩] []
def aIT(σ:Srt)(sz:Nat):ah:=.region [⟨D 114,.mov (R 17),none⟩,⟨D 11,.mov (R 114),none⟩] []
def aIR(σ:Srt)(sz:Nat):ah:=.region [⟨D 115,.mov (R 16),none⟩,⟨D 116,.mov (R 1),none⟩,⟨D 117,.bin .sub (R 115) (R 116),none⟩,⟨D 118,.mov (R 2),none⟩,⟨D 119,.mov (R 16),none⟩,⟨D 120,.bin .sub (R 118) (R 119),none⟩,⟨D 18,.mov (R 117),none⟩,⟨D 19,.mov (R 120),none⟩] []
def aIP(σ:Srt)(sz:Nat):ah:=.region [⟨D 121,.mov (R 12),none⟩,⟨D 122,.bin .quo (R 121) (.k (.c (.f (.int .i64 8)))),none⟩,⟨D 20,.mov (R 122),none⟩] []
def aIN(σ:Srt)(sz:Nat):ah:=.region [⟨D 123,.mov (R 18),none⟩,⟨D 124,.mov (R 19),none⟩,⟨D 125,.bin .lss (R 123) (R 124),none⟩] []
def aIK(σ:Srt)(sz:Nat):ah:=.region [⟨D 126,.mov (R 18),none⟩,⟨D 127,.mov (R 20),none⟩,⟨D 128,.bin .geq (R 126) (R 127),none⟩,⟨D 10,.mov (R 128),none⟩] []
def aII(σ:Srt)(sz:Nat):ah:=.region [⟨D 129,.mov (R 0),none⟩,⟨D 130,.mov (R 1),none⟩,⟨D 131,.mov (R 16),none⟩,⟨D 132,.mov (R 3),none⟩,⟨D 133,.mov (R 4),none⟩,⟨D 134,.call σ.pdq [(R 129),(R 130),(R 131),(R 132),(R 133)] true,none⟩] []
def aIH(σ:Srt)(sz:Nat):ah:=.region [⟨D 135,.mov (R 16),none⟩,⟨D 136,.bin .add (R 135) (.k (.c (.f (.int .i64 1)))),none⟩,⟨D 1,.mov (R 136),none⟩] []
def aIJ(σ:Srt)(sz:Nat):ah:=.seq (aII σ sz) (aIH σ sz)
def aIL(σ:Srt)(sz:Nat):ah:=.seq (aIK σ sz) (aIJ σ sz)
def aIF(σ:Srt)(sz:Nat):ah:=.region [⟨D 137,.mov (R 19),none⟩,⟨D 138,.mov (R 20),none⟩,⟨D 139,.bin .geq (R 137) (R 138),none⟩,⟨D 10,.mov (R 139),none⟩] []
def aID(σ:Srt)(sz:Nat):ah:=.region [⟨D 140,.mov (R 0),none⟩,⟨D 141,.mov (R 16),none⟩,⟨D 142,.bin .add (R 141) (.k (.c (.f (.int .i64 1)))),none⟩,⟨D 143,.mov (R 2),none⟩,⟨D 144,.mov (R 3),none⟩,⟨D 145,.mov (R 4),none⟩,⟨D 146,.call σ.pdq [(R 140),(R 142),(R 143),(R 144),(R 145)] true,none⟩] []
def aIC(σ:Srt)(sz:Nat):ah:=.region [⟨D 147,.mov (R 16),none⟩,⟨D 2,.mov (R 147),none⟩] []
def aIE(σ:Srt)(sz:Nat):ah:=.seq (aID σ sz) (aIC σ sz)
def aIG(σ:Srt)(sz:Nat):ah:=.seq (aIF σ sz) (aIE σ sz)
def aIM(σ:Srt)(sz:Nat):ah:=.cond (R 125) (aIL σ sz) (aIG σ sz)
def aIO(σ:Srt)(sz:Nat):ah:=.seq (aIN σ sz) (aIM σ sz)
def aIQ(σ:Srt)(sz:Nat):ah:=.seq (aIP σ sz) (aIO σ sz)
def aIS(σ:Srt)(sz:Nat):ah:=.seq (aIR σ sz) (aIQ σ sz)
def aIU(σ:Srt)(sz:Nat):ah:=.seq (aIT σ sz) (aIS σ sz)
def XC(σ:Srt)(sz:Nat):ah:=.seq (aIV σ sz) (aIU σ sz)
def XD(σ:Srt)(sz:Nat):ah:=.seq (aI2 σ sz) (XC σ sz)
def XE(σ:Srt)(sz:Nat):ah:=.seq (aI8 σ sz) (XD σ sz)
def aJh(σ:Srt)(sz:Nat):ah:=.seq (aJg σ sz) (XE σ sz)
def XF(σ:Srt)(sz:Nat):ah:=.seq (aJi σ sz) (aJh σ sz)
def aJp(σ:Srt)(sz:Nat):ah:=.seq (aJo σ sz) (XF σ sz)
def aJv(σ:Srt)(sz:Nat):ah:=.seq (aJu σ sz) (aJp σ sz)
def aOV(σ:Srt)(sz:Nat):ah:=.seq (aJA σ sz) (aJv σ sz)
def aOX(σ:Srt)(sz:Nat):ah:=.seq (aOW σ sz) (aOV σ sz)
def EN(σ:Srt)(sz:Nat):ah:=.block 1 (aOX σ sz)
def aOY(σ:Srt)(sz:Nat):ah:=.loop (EN σ sz)
def aOZ(σ:Srt)(sz:Nat):ah:=.block 0 (aOY σ sz)
def aO1(σ:Srt)(sz:Nat):ah:=.seq (aO0 σ sz) (aOZ σ sz)
def aO3(σ:Srt)(sz:Nat):ah:=.seq (aO2 σ sz) (aO1 σ sz)
def Qx(σ:Srt)(sz:Nat):AFunc:=⟨[P.nat 0,P.nat 1,P.nat 2,P.nat 3,P.nat 4],[],(aO3 σ sz)⟩
def aQS(σ:Srt)(sz:Nat):ah:=.region [⟨D 10,.mov (R 1),none⟩,⟨D 11,.bin .add (R 10) (.k (.c (.f (.int .i64 1)))),none⟩,⟨D 8,.mov (R 11),none⟩] []
def aQO(σ:Srt)(sz:Nat):ah:=.region [⟨D 12,.mov (R 8),none⟩,⟨D 13,.mov (R 2),none⟩,⟨D 14,.bin .lss (R 12) (R 13),none⟩] []
def aQN(σ:Srt)(sz:Nat):ah:=.cond (R 14) .skip (.exit 0)
def aQP(σ:Srt)(sz:Nat):ah:=.seq (aQO σ sz) (aQN σ sz)
def aKD(σ:Srt)(sz:Nat):ah:=.region [⟨D 17,.mov (R 8),none⟩,⟨D 9,.mov (R 17),none⟩] []
def aKy(σ:Srt)(sz:Nat):ah:=.region [⟨D 18,.mov (R 9),none⟩,⟨D 19,.mov (R 1),none⟩,⟨D 20,.bin .gtr (R 18) (R 19),none⟩,⟨D 21,.mov (R 20),none⟩,⟨D 22,.mov (R 3),G 21 true⟩,⟨D 23,.mov (R 0),G 21 true⟩,⟨D 24,.mov (R 9),G 21 true⟩,⟨D 25,.aF sz none (R 23) (R 24),G 21 true⟩,⟨D 26,.load (some sz) (R 25),G 21 true⟩,⟨D 27,.mov (R 0),G 21 true⟩,⟨D 28,.mov (R 9),G 21 true⟩,⟨D 29,.bin .sub (R 28) (.k (.c (.f (.int .i64 1)))),G 21 true⟩,⟨D 30,.aF sz none (R 27) (R 29),G 21 true⟩,⟨D 31,.load (some sz) (R 30),G 21 true⟩,⟨D 32,.bU (R 22) [(R 26),(R 31)] true,G 21 true⟩,⟨D 33,.bin .lss (R 32) (.k (.c (.f (.int .i64 0)))),G 21 true⟩,⟨D 34,.pick (R 21) (R 33) (.k (.c (.f (.bool false)))),none⟩] []
def aKx(σ:Srt)(sz:Nat):ah:=.cond (R 34) .skip (.exit 2)
def aKz(σ:Srt)(sz:Nat):ah:=.seq (aKy σ sz) (aKx σ sz)
def aKu(σ:Srt)(sz:Nat):ah:=.region [⟨D 37,.mov (R 0),none⟩,⟨D 38,.mov (R 9),none⟩,⟨D 39,.mov (R 0),none⟩,⟨D 40,.mov (R 9),none⟩,⟨D 41,.bin .sub (R 40) (.k (.c (.f (.int .i64 1)))),none⟩,⟨D 42,.mov (R 0),none⟩,⟨D 43,.mov (R 9),none⟩,⟨D 44,.bin .sub (R 43) (.k (.c (.f (.int .i64 1)))),none⟩,⟨D 45,.aF sz none (R 42) (R 44),none⟩,⟨D 46,.load (some sz) (R 45),none⟩,⟨D 47,.mov (R 0),none⟩,⟨D 48,.mov (R 9),none⟩,⟨D 49,.aF sz none (R 47) (R 48),none⟩,⟨D 50,.load (some sz) (R 49),none⟩,⟨D 51,.aF sz none (R 37) (R 38),none⟩,⟨none,.store sz (R 51) (R 46),none⟩,⟨D 52,.aF sz none (R 39) (R 41),none⟩,⟨none,.store sz (R 52) (R 50),none⟩] []
def aKv(σ:Srt)(sz:Nat):ah:=.block 3 (aKu σ sz)
def aKt(σ:Srt)(sz:Nat):ah:=.region [⟨D 35,.mov (R 9),none⟩,⟨D 36,.bin .sub (R 35) (.k (.c (.f (.int .i64 1)))),none⟩,⟨D 9,.mov (R 36),none⟩] []
def aKw(σ:Srt)(sz:Nat):ah:=.seq (aKv σ sz) (aKt σ sz)
def aKA(σ:Srt)(sz:Nat):ah:=.seq (aKz σ sz) (aKw σ sz)
def aKB(σ:Srt)(sz:Nat):ah:=.loop (aKA σ sz)
def aKC(σ:Srt)(sz:Nat):ah:=.block 2 (aKB σ sz)
def aKE(σ:Srt)(sz:Nat):ah:=.seq (aKD σ sz) (aKC σ sz)
def aQL(σ:Srt)(sz:Nat):ah:=.block 1 (aKE σ sz)
def G7(σ:Srt)(sz:Nat):ah:=.region [⟨D 15,.mov (R 8),none⟩,⟨D 16,.bin .add (R 15) (.k (.c (.f (.int .i64 1)))),none⟩,⟨D 8,.mov (R 16),none⟩] []
def aQM(σ:Srt)(sz:Nat):ah:=.seq (aQL σ sz) (G7 σ sz)
def QT(σ:Srt)(sz:Nat):ah:=.seq (aQP σ sz) (aQM σ sz)
def aQQ(σ:Srt)(sz:Nat):ah:=.loop (QT σ sz)
def aQR(σ:Srt)(sz:Nat):ah:=.block 0 (aQQ σ sz)
def aQT(σ:Srt)(sz:Nat):ah:=.seq (aQS σ sz) (aQR σ sz)
def EZ(σ:Srt)(sz:Nat):AFunc:=⟨[P.nat 0,P.nat 1,P.nat 2,P.nat 3],[],(aQT σ sz)⟩
def aKX(σ:Srt)(sz:Nat):ah:=.region [⟨D 13,.mov (R 1),none⟩,⟨D 8,.mov (R 13),none⟩] []
def aKV(σ:Srt)(sz:Nat):ah:=.region [⟨D 9,.mov (.k (.c (.f (.int .i64 0)))),none⟩] []
def aKT(σ:Srt)(sz:Nat):ah:=.region [⟨D 14,.mov (R 2),none⟩,⟨D 15,.mov (R 1),none⟩,⟨D 16,.bin .sub (R 14) (R 15),none⟩,⟨D 10,.mov (R 16),none⟩] []
def aKQ(σ:Srt)(sz:Nat):ah:=.region [⟨D 17,.mov (R 10),none⟩,⟨D 18,.bin .sub (R 17) (.k (.c (.f (.int .i64 1)))),none⟩,⟨D 19,.bin .quo (R 18) (.k (.c (.f (.int .i64 2)))),none⟩,⟨D 11,.mov (R 19),none⟩] []
def atD(σ:Srt)(sz:Nat):ah:=.region [⟨D 20,.mov (R 11),none⟩,⟨D 21,.bin .geq (R 20) (.k (.c (.f (.int .i64 0)))),none⟩] []
def atC(σ:Srt)(sz:Nat):ah:=.cond (R 21) .skip (.exit 0)
def atE(σ:Srt)(sz:Nat):ah:=.seq (atD σ sz) (atC σ sz)
def atz(σ:Srt)(sz:Nat):ah:=.region [⟨D 24,.mov (R 0),none⟩,⟨D 25,.mov (R 11),none⟩,⟨D 26,.mov (R 10),none⟩,⟨D 27,.mov (R 8),none⟩,⟨D 28,.mov (R 3),none⟩,⟨D 29,.call σ.sift [(R 24),(R 25),(R 26),(R 27),(R 28)] true,none⟩] []
def atA(σ:Srt)(sz:Nat):ah:=.block 1 (atz σ sz)
def aty(σ:Srt)(sz:Nat):ah:=.region [⟨D 22,.mov (R 11),none⟩,⟨D 23,.bin .sub (R 22) (.k (.c (.f (.int .i64 1)))),none⟩,⟨D 11,.mov (R 23),none⟩] []
def atB(σ:Srt)(sz:Nat):ah:=.seq (atA σ sz) (aty σ sz)
def atF(σ:Srt)(sz:Nat):ah:=.seq (atE σ sz) (atB σ sz)
def atG(σ:Srt)(sz:Nat):ah:=.loop (atF σ sz)
def aKP(σ:Srt)(sz:Nat):ah:=.block 0 (atG σ sz)
def aKR(σ:Srt)(sz:Nat):ah:=.seq (aKQ σ sz) (aKP σ sz)
def atx(σ:Srt)(sz:Nat):ah:=.region [⟨D 30,.mov (R 10),none⟩,⟨D 31,.bin .sub (R 30) (.k (.c (.f (.int .i64 1)))),none⟩,⟨D 12,.mov (R 31),none⟩] []
def atr(σ:Srt)(sz:Nat):ah:=.region [⟨D 32,.mov (R 12),none⟩,⟨D 33,.bin .geq (R 32) (.k (.c (.f (.int .i64 0)))),none⟩] []
def atq(σ:Srt)(sz:Nat):ah:=.cond (R 33) .skip (.exit 2)
def att(σ:Srt)(sz:Nat):ah:=.seq (atr σ sz) (atq σ sz)
def atm(σ:Srt)(sz:Nat):ah:=.region [⟨D 36,.mov (R 0),none⟩,⟨D 37,.mov (R 8),none⟩,⟨D 38,.mov (R 0),none⟩,⟨D 39,.mov (R 8),none⟩,⟨D 40,.mov (R 12),none⟩,⟨D 41,.bin .add (R 39) (R 40),none⟩,⟨D 42,.mov (R 0),none⟩,⟨D 43,.mov (R 8),none⟩,⟨D 44,.mov (R 12),none⟩,⟨D 45,.bin .add (R 43) (R 44),none⟩,⟨D 46,.aF sz none (R 42) (R 45),none⟩,⟨D 47,.load (some sz) (R 46),none⟩,⟨D 48,.mov (R 0),none⟩,⟨D 49,.mov (R 8),none⟩,⟨D 50,.aF sz none (R 48) (R 49),none⟩,⟨D 51,.load (some sz) (R 50),none⟩,⟨D 52,.aF sz none (R 36) (R 37),none⟩,⟨none,.store sz (R 52) (R 47),none⟩,⟨D 53,.aF sz none (R 38) (R 41),none⟩,⟨none,.store sz (R 53) (R 51),none⟩] []
def atl(σ:Srt)(sz:Nat):ah:=.region [⟨D 54,.mov (R 0),none⟩,⟨D 55,.mov (R 9),none⟩,⟨D 56,.mov (R 12),none⟩,⟨D 57,.mov (R 8),none⟩,⟨D 58,.mov (R 3),none⟩,⟨D 59,.call σ.sift [(R 54),(R 55),(R 56),(R 57),(R 58)] true,none⟩] []
def atn(σ:Srt)(sz:Nat):ah:=.seq (atm σ sz) (atl σ sz)
def ato(σ:Srt)(sz:Nat):ah:=.block 3 (atn σ sz)
def atj(σ:Srt)(sz:Nat):ah:=.region [⟨D 34,.mov (R 12),none⟩,⟨D 35,.bin .sub (R 34) (.k (.c (.f (.int .i64 1)))),none⟩,⟨D 12,.mov (R 35),none⟩] []
def atp(σ:Srt)(sz:Nat):ah:=.seq (ato σ sz) (atj σ sz)
def atu(σ:Srt)(sz:Nat):ah:=.seq (att σ sz) (atp σ sz)
def atv(σ:Srt)(sz:Nat):ah:=.loop (atu σ sz)
def atw(σ:Srt)(sz:Nat):ah:=.block 2 (atv σ sz)
def QW(σ:Srt)(sz:Nat):ah:=.seq (atx σ sz) (atw σ sz)
def aKS(σ:Srt)(sz:Nat):ah:=.seq (aKR σ sz) (QW σ sz)
def aKU(σ:Srt)(sz:Nat):ah:=.seq (aKT σ sz) (aKS σ sz)
def aKW(σ:Srt)(sz:Nat):ah:=.seq (aKV σ sz) (aKU σ sz)
def aKY(σ:Srt)(sz:Nat):ah:=.seq (aKX σ sz) (aKW σ sz)
def Hf(σ:Srt)(sz:Nat):AFunc:=⟨[P.nat 0,P.nat 1,P.nat 2,P.nat 3],[],(aKY σ sz)⟩
def aGV(σ:Srt)(sz:Nat):ah:=.region [⟨D 12,.mov (R 1),none⟩,⟨D 10,.mov (R 12),none⟩] []
def aGR(σ:Srt)(sz:Nat):ah:=.region [⟨D 13,.mov (R 10),none⟩,⟨D 14,.bin .mul (.k (.c (.f (.int .i64 2)))) (R 13),none⟩,⟨D 15,.bin .add (R 14) (.k (.c (.f (.int .i64 1)))),none⟩,⟨D 11,.mov (R 15),none⟩] []
def aGO(σ:Srt)(sz:Nat):ah:=.region [⟨D 16,.mov (R 11),none⟩,⟨D 17,.mov (R 2),none⟩,⟨D 18,.bin .geq (R 16) (R 17),none⟩] []
def apU(σ:Srt)(sz:Nat):ah:=.cond (R 18) (.exit 0) .skip
def aGP(σ:Srt)(sz:Nat):ah:=.seq (aGO σ sz) (apU σ sz)
def apR(σ:Srt)(sz:Nat):ah:=.region [⟨D 19,.mov (R 11),none⟩,⟨D 20,.bin .add (R 19) (.k (.c (.f (.int .i64 1)))),none⟩,⟨D 21,.mov (R 2),none⟩,⟨D 22,.bin .lss (R 20) (R 21),none⟩,⟨D 23,.mov (R 22),none⟩,⟨D 24,.mov (R 4),G 23 true⟩,⟨D 25,.mov (R 0),G 23 true⟩,⟨D 26,.mov (R 3),G 23 true⟩,⟨D 27,.mov (R 11),G 23 true⟩,⟨D 28,.bin .add (R 26) (R 27),G 23 true⟩,⟨D 29,.aF sz none (R 25) (R 28),G 23 true⟩,⟨D 30,.load (some sz) (R 29),G 23 true⟩,⟨D 31,.mov (R 0),G 23 true⟩,⟨D 32,.mov (R 3),G 23 true⟩,⟨D 33,.mov (R 11),G 23 true⟩,⟨D 34,.bin .add (R 32) (R 33),G 23 true⟩,⟨D 35,.bin .add (R 34) (.k (.c (.f (.int .i64 1)))),G 23 true⟩,⟨D 36,.aF sz none (R 31) (R 35),G 23 true⟩,⟨D 37,.load (some sz) (R 36),G 23 true⟩,⟨D 38,.bU (R 24) [(R 30),(R 37)] true,G 23 true⟩,⟨D 39,.bin .lss (R 38) (.k (.c (.f (.int .i64 0)))),G 23 true⟩,⟨D 40,.pick (R 23) (R 39) (.k (.c (.f (.bool false)))),none⟩] []
def apP(σ:Srt)(sz:Nat):ah:=.region [⟨D 41,.mov (R 11),none⟩,⟨D 42,.bin .add (R 41) (.k (.c (.f (.int .i64 1)))),none⟩,⟨D 11,.mov (R 42),none⟩] []
def apQ(σ:Srt)(sz:Nat):ah:=.cond (R 40) (apP σ sz) .skip
def apS(σ:Srt)(sz:Nat):ah:=.seq (apR σ sz) (apQ σ sz)
def apN(σ:Srt)(sz:Nat):ah:=.region [⟨D 43,.mov (R 4),none⟩,⟨D 44,.mov (R 0),none⟩,⟨D 45,.mov (R 3),none⟩,⟨D 46,.mov (R 10),none⟩,⟨D 47,.bin .add (R 45) (R 46),none⟩,⟨D 48,.aF sz none (R 44) (R 47),none⟩,⟨D 49,.load (some sz) (R 48),none⟩,⟨D 50,.mov (R 0),none⟩,⟨D 51,.mov (R 3),none⟩,⟨D 52,.mov (R 11),none⟩,⟨D 53,.bin .add (R 51) (R 52),none⟩,⟨D 54,.aF sz none (R 50) (R 53),none⟩,⟨D 55,.load (some sz) (R 54),none⟩,⟨D 56,.bU (R 43) [(R 49),(R 55)] true,none⟩,⟨D 57,.bin .lss (R 56) (.k (.c (.f (.int .i64 0)))),none⟩,⟨D 58,.un .not (R 57),none⟩] []
def apM(σ:Srt)(sz:Nat):ah:=.cond (R 58) .ret .skip
def apO(σ:Srt)(sz:Nat):ah:=.seq (apN σ sz) (apM σ sz)
def apK(σ:Srt)(sz:Nat):ah:=.region [⟨D 59,.mov (R 0),none⟩,⟨D 60,.mov (R 3),none⟩,⟨D 61,.mov (R 10),none⟩,⟨D 62,.bin .add (R 60) (R 61),none⟩,⟨D 63,.mov (R 0),none⟩,⟨D 64,.mov (R 3),none⟩,⟨D 65,.mov (R 11),none⟩,⟨D 66,.bin .add (R 64) (R 65),none⟩,⟨D 67,.mov (R 0),none⟩,⟨D 68,.mov (R 3),none⟩,⟨D 69,.mov (R 11),none⟩,⟨D 70,.bin .add (R 68) (R 69),none⟩,⟨D 71,.aF sz none (R 67) (R 70),none⟩,⟨D 72,.load (some sz) (R 71),none⟩,⟨D 73,.mov (R 0),none⟩,⟨D 74,.mov (R 3),none⟩,⟨D 75,.mov (R 10),none⟩,⟨D 76,.bin .add (R 74) (R 75),none⟩,⟨D 77,.aF sz none (R 73) (R 76),none⟩,⟨D 78,.load (some sz) (R 77),none⟩,⟨D 79,.aF sz none (R 59) (R 62),none⟩,⟨none,.store sz (R 79) (R 72),none⟩,⟨D 80,.aF sz none (R 63) (R 66),none⟩,⟨none,.store sz (R 80) (R 78),none⟩] []
def apJ(σ:Srt)(sz:Nat):ah:=.region [⟨D 81,.mov (R 11),none⟩,⟨D 10,.mov (R 81),none⟩] []
def apL(σ:Srt)(sz:Nat):ah:=.seq (apK σ sz) (apJ σ sz)
def Qh(σ:Srt)(sz:Nat):ah:=.seq (apO σ sz) (apL σ sz)
def apT(σ:Srt)(sz:Nat):ah:=.seq (apS σ sz) (Qh σ sz)
def aGQ(σ:Srt)(sz:Nat):ah:=.seq (aGP σ sz) (apT σ sz)
def aGS(σ:Srt)(sz:Nat):ah:=.seq (aGR σ sz) (aGQ σ sz)
def Xh(σ:Srt)(sz:Nat):ah:=.block 1 (aGS σ sz)
def aGT(σ:Srt)(sz:Nat):ah:=.loop (Xh σ sz)
def aGU(σ:Srt)(sz:Nat):ah:=.block 0 (aGT σ sz)
def aGW(σ:Srt)(sz:Nat):ah:=.seq (aGV σ sz) (aGU σ sz)
def zT(σ:Srt)(sz:Nat):AFunc:=⟨[P.nat 0,P.nat 1,P.nat 2,P.nat 3,P.nat 4],[],(aGW σ sz)⟩
def aRM(σ:Srt)(sz:Nat):ah:=.region [⟨D 13,.mov (R 2),none⟩,⟨D 14,.mov (R 1),none⟩,⟨D 15,.bin .sub (R 13) (R 14),none⟩,⟨D 8,.mov (R 15),none⟩] []
def aRK(σ:Srt)(sz:Nat):ah:=.region [⟨D 16,.mov (R 8),none⟩,⟨D 17,.bin .geq (R 16) (.k (.c (.f (.int .i64 8)))),none⟩] []
def aRH(σ:Srt)(sz:Nat):ah:=.region [⟨D 18,.mov (R 8),none⟩,⟨D 19,.cvi .u64 (R 18),none⟩,⟨D 9,.alloc [(.int .u64 0)],none⟩,⟨none,.store 1 (R 9) (R 19),none⟩] []
def aRF(σ:Srt)(sz:Nat):ah:=.region [⟨D 20,.mov (R 8),none⟩,⟨D 21,.call σ.npt [(R 20)] false,none⟩,⟨D 10,.mov (R 21),none⟩] []
def aLu(σ:Srt)(sz:Nat):ah:=.region [⟨D 22,.mov (R 1),none⟩,⟨D 23,.mov (R 8),none⟩,⟨D 24,.bin .quo (R 23) (.k (.c (.f (.int .i64 4)))),none⟩,⟨D 25,.bin .mul (R 24) (.k (.c (.f (.int .i64 2)))),none⟩,⟨D 26,.bin .add (R 22) (R 25),none⟩,⟨D 27,.bin .sub (R 26) (.k (.c (.f (.int .i64 1)))),none⟩,⟨D 11,.mov (R 27),none⟩] []
def aLq(σ:Srt)(sz:Nat):ah:=.region [⟨D 28,.mov (R 11),none⟩,⟨D 29,.mov (R 1),none⟩,⟨D 30,.mov (R 8),none⟩,⟨D 31,.bin .quo (R 30) (.k (.c (.f (.int .i64 4)))),none⟩,⟨D 32,.bin .mul (R 31) (.k (.c (.f (.int .i64 2)))),none⟩,⟨D 33,.bin .add (R 29) (R 32),none⟩,⟨D 34,.bin .add (R 33) (.k (.c (.f (.int .i64 1)))),none⟩,⟨D 35,.bin .leq (R 28) (R 34),none⟩] []
def aLp(σ:Srt)(sz:Nat):ah:=.cond (R 35) .skip (.exit 0)
def aLr(σ:Srt)(sz:Nat):ah:=.seq (aLq σ sz) (aLp σ sz)
def aLl(σ:Srt)(sz:Nat):ah:=.region [⟨D 38,.call σ.nxt [(R 9)] true,none⟩,⟨D 39,.mov (R 10),none⟩,⟨D 40,.bin .sub (R 39) (.k (.c (.f (.int .u64 1)))),none⟩,⟨D 41,.bin .and (R 38) (R 40),none⟩,⟨D 42,.cvi .i64 (R 41),none⟩,⟨D 12,.mov (R 42),none⟩] []
def aLi(σ:Srt)(sz:Nat):ah:=.region [⟨D 43,.mov (R 12),none⟩,⟨D 44,.mov (R 8),none⟩,⟨D 45,.bin .geq (R 43) (R 44),none⟩] []
def aLg(σ:Srt)(sz:Nat):ah:=.region [⟨D 46,.mov (R 12),none⟩,⟨D 47,.mov (R 8),none⟩,⟨D 48,.bin .sub (R 46) (R 47),none⟩,⟨D 12,.mov (R 48),none⟩] []
def aLh(σ:Srt)(sz:Nat):ah:=.cond (R 45) (aLg σ sz) .skip
def aLj(σ:Srt)(sz:Nat):ah:=.seq (aLi σ sz) (aLh σ sz)
def ZC(σ:Srt)(sz:Nat):ah:=.region [⟨D 49,.mov (R 0),none⟩,⟨D 50,.mov (R 11),none⟩,⟨D 51,.mov (R 0),none⟩,⟨D 52,.mov (R 1),none⟩,⟨D 53,.mov (R 12),none⟩,⟨D 54,.bin .add (R 52) (R 53),none⟩,⟨D 55,.mov (R 0),none⟩,⟨D 56,.mov (R 1),none⟩,⟨D 57,.mov (R 12),none⟩,⟨D 58,.bin .add (R 56) (R 57),none⟩,⟨D 59,.aF sz none (R 55) (R 58),none⟩,⟨D 60,.load (some sz) (R 59),none⟩,⟨D 61,.mov (R 0),none⟩,⟨D 62,.mov (R 11),none⟩,⟨D 63,.aF sz none (R 61) (R 62),none⟩,⟨D 64,.load (some sz) (R 63),none⟩,⟨D 65,.aF sz none (R 49) (R 50),none⟩,⟨none,.store sz (R 65) (R 60),none⟩,⟨D 66,.aF sz none (R 51) (R 54),none⟩,⟨none,.store sz (R 66) (R 64),none⟩] []
def aLk(σ:Srt)(sz:Nat):ah:=.seq (aLj σ sz) (ZC σ sz)
def aLm(σ:Srt)(sz:Nat):ah:=.seq (aLl σ sz) (aLk σ sz)
def aLn(σ:Srt)(sz:Nat):ah:=.block 1 (aLm σ sz)
def ZB(σ:Srt)(sz:Nat):ah:=.region [⟨D 36,.mov (R 11),none⟩,⟨D 37,.bin .add (R 36) (.k (.c (.f (.int .i64 1)))),none⟩,⟨D 11,.mov (R 37),none⟩] []
def aLo(σ:Srt)(sz:Nat):ah:=.seq (aLn σ sz) (ZB σ sz)
def ZE(σ:Srt)(sz:Nat):ah:=.seq (aLr σ sz) (aLo σ sz)
def aLs(σ:Srt)(sz:Nat):ah:=.loop (ZE σ sz)
def aLt(σ:Srt)(sz:Nat):ah:=.block 0 (aLs σ sz)
def aRE(σ:Srt)(sz:Nat):ah:=.seq (aLu σ sz) (aLt σ sz)
def aRG(σ:Srt)(sz:Nat):ah:=.seq (aRF σ sz) (aRE σ sz)
def aRI(σ:Srt)(sz:Nat):ah:=.seq (aRH σ sz) (aRG σ sz)
def aRJ(σ:Srt)(sz:Nat):ah:=.cond (R 17) (aRI σ sz) .skip
def aRL(σ:Srt)(sz:Nat):ah:=.seq (aRK σ sz) (aRJ σ sz)
def aRN(σ:Srt)(sz:Nat):ah:=.seq (aRM σ sz) (aRL σ sz)
def Rk(σ:Srt)(sz:Nat):AFunc:=⟨[P.nat 0,P.nat 1,P.nat 2,P.nat 3],[],(aRN σ sz)⟩
def aOJ(σ:Srt)(sz:Nat):ah:=.region [⟨D 8,.mov (.k (.c (.f (.int .i64 0)))),none⟩,⟨D 9,.mov (.k (.c (.f (.int .i64 0)))),none⟩] []
def aOH(σ:Srt)(sz:Nat):ah:=.region [⟨D 15,.mov (R 2),none⟩,⟨D 16,.mov (R 1),none⟩,⟨D 17,.bin .sub (R 15) (R 16),none⟩,⟨D 10,.mov (R 17),none⟩] []
def aOF(σ:Srt)(sz:Nat):ah:=.region [⟨D 11,.alloc [(.int .i64 0)],none⟩] []
def aOD(σ:Srt)(sz:Nat):ah:=.region [⟨D 18,.mov (R 1),none⟩,⟨D 19,.mov (R 10),none⟩,⟨D 20,.bin .quo (R 19) (.k (.c (.f (.int .i64 4)))),none⟩,⟨D 21,.bin .mul (R 20) (.k (.c (.f (.int .i64 1)))),none⟩,⟨D 22,.bin .add (R 18) (R 21),none⟩,⟨D 12,.mov (R 22),none⟩] []
def aOB(σ:Srt)(sz:Nat):ah:=.region [⟨D 23,.mov (R 1),none⟩,⟨D 24,.mov (R 10),none⟩,⟨D 25,.bin .quo (R 24) (.k (.c (.f (.int .i64 4)))),none⟩,⟨D 26,.bin .mul (R 25) (.k (.c (.f (.int .i64 2)))),none⟩,⟨D 27,.bin .add (R 23) (R 26),none⟩,⟨D 13,.mov (R 27),none⟩] []
def aHW(σ:Srt)(sz:Nat):ah:=.region [⟨D 28,.mov (R 1),none⟩,⟨D 29,.mov (R 10),none⟩,⟨D 30,.bin .quo (R 29) (.k (.c (.f (.int .i64 4)))),none⟩,⟨D 31,.bin .mul (R 30) (.k (.c (.f (.int .i64 3)))),none⟩,⟨D 32,.bin .add (R 28) (R 31),none⟩,⟨D 14,.mov (R 32),none⟩] []
def aHT(σ:Srt)(sz:Nat):ah:=.region [⟨D 33,.mov (R 10),none⟩,⟨D 34,.bin .geq (R 33) (.k (.c (.f (.int .i64 8)))),none⟩] []
def aHP(σ:Srt)(sz:Nat):ah:=.region [⟨D 35,.mov (R 10),none⟩,⟨D 36,.bin .geq (R 35) (.k (.c (.f (.int .i64 50)))),none⟩] []
def aHM(σ:Srt)(sz:Nat):ah:=.region [⟨D 37,.mov (R 0),none⟩,⟨D 38,.mov (R 12),none⟩,⟨D 39,.mov (R 3),none⟩,⟨D 40,.call σ.BM [(R 37),(R 38),(R 11),(R 39)] true,none⟩,⟨D 12,.mov (R 40),none⟩] []
def aHK(σ:Srt)(sz:Nat):ah:=.region [⟨D 41,.mov (R 0),none⟩,⟨D 42,.mov (R 13),none⟩,⟨D 43,.mov (R 3),none⟩,⟨D 44,.call σ.BM [(R 41),(R 42),(R 11),(R 43)] true,none⟩,⟨D 13,.mov (R 44),none⟩] []
def aHJ(σ:Srt)(sz:Nat):ah:=.region [⟨D 45,.mov (R 0),none⟩,⟨D 46,.mov (R 14),none⟩,⟨D 47,.mov (R 3),none⟩,⟨D 48,.call σ.BM [(R 45),(R 46),(R 11),(R 47)] true,none⟩,⟨D 14,.mov (R 48),none⟩] []
def aHL(σ:Srt)(sz:Nat):ah:=.seq (aHK σ sz) (aHJ σ sz)
def aHN(σ:Srt)(sz:Nat):ah:=.seq (aHM σ sz) (aHL σ sz)
def aHO(σ:Srt)(sz:Nat):ah:=.cond (R 36) (aHN σ sz) .skip
def aHQ(σ:Srt)(sz:Nat):ah:=.seq (aHP σ sz) (aHO σ sz)
def Xw(σ:Srt)(sz:Nat):ah:=.region [⟨D 49,.mov (R 0),none⟩,⟨D 50,.mov (R 12),none⟩,⟨D 51,.mov (R 13),none⟩,⟨D 52,.mov (R 14),none⟩,⟨D 53,.mov (R 3),none⟩,⟨D 54,.call σ.med [(R 49),(R 50),(R 51),(R 52),(R 11),(R 53)] true,none⟩,⟨D 13,.mov (R 54),none⟩] []
def aHR(σ:Srt)(sz:Nat):ah:=.seq (aHQ σ sz) (Xw σ sz)
def aHS(σ:Srt)(sz:Nat):ah:=.cond (R 34) (aHR σ sz) .skip
def aHU(σ:Srt)(sz:Nat):ah:=.seq (aHT σ sz) (aHS σ sz)
def aHI(σ:Srt)(sz:Nat):ah:=.region [⟨D 55,.load none (R 11),none⟩] []
def aHF(σ:Srt)(sz:Nat):ah:=.region [⟨D 58,.bin .eql (R 55) (.k (.c (.f (.int .i64 0)))),none⟩,⟨D 57,.mov (R 58),none⟩] []
def aHC(σ:Srt)(sz:Nat):ah:=.region [⟨D 59,.mov (R 13),none⟩,⟨D 8,.mov (R 59),none⟩,⟨D 9,.mov (.k (.c (.f (.int .i64 1)))),none⟩] []
def aHD(σ:Srt)(sz:Nat):ah:=.seq (aHC σ sz) .ret
def aHA(σ:Srt)(sz:Nat):ah:=.region [⟨D 61,.bin .eql (R 55) (.k (.c (.f (.int .i64 12)))),none⟩,⟨D 60,.mov (R 61),none⟩] []
def aHx(σ:Srt)(sz:Nat):ah:=.region [⟨D 62,.mov (R 13),none⟩,⟨D 8,.mov (R 62),none⟩,⟨D 9,.mov (.k (.c (.f (.int .i64 2)))),none⟩] []
def aHy(σ:Srt)(sz:Nat):ah:=.seq (aHx σ sz) .ret
def aHv(σ:Srt)(sz:Nat):ah:=.region [⟨D 56,.mov (R 13),none⟩,⟨D 8,.mov (R 56),none⟩,⟨D 9,.mov (.k (.c (.f (.int .i64 0)))),none⟩] []
def aHw(σ:Srt)(sz:Nat):ah:=.seq (aHv σ sz) .ret
def aHz(σ:Srt)(sz:Nat):ah:=.cond (R 60) (aHy σ sz) (aHw σ sz)
def aHB(σ:Srt)(sz:Nat):ah:=.seq (aHA σ sz) (aHz σ sz)
def aHE(σ:Srt)(sz:Nat):ah:=.cond (R 57) (aHD σ sz) (aHB σ sz)
def aHG(σ:Srt)(sz:Nat):ah:=.seq (aHF σ sz) (aHE σ sz)
def aHH(σ:Srt)(sz:Nat):ah:=.block 0 (aHG σ sz)
def Nk(σ:Srt)(sz:Nat):ah:=.seq (aHI σ sz) (aHH σ sz)
def aHV(σ:Srt)(sz:Nat):ah:=.seq (aHU σ sz) (Nk σ sz)
def aHX(σ:Srt)(sz:Nat):ah:=.seq (aHW σ sz) (aHV σ sz)
def aOC(σ:Srt)(sz:Nat):ah:=.seq (aOB σ sz) (aHX σ sz)
def aOE(σ:Srt)(sz:Nat):ah:=.seq (aOD σ sz) (aOC σ sz)
def aOG(σ:Srt)(sz:Nat):ah:=.seq (aOF σ sz) (aOE σ sz)
def aOI(σ:Srt)(sz:Nat):ah:=.seq (aOH σ sz) (aOG σ sz)
def aOK(σ:Srt)(sz:Nat):ah:=.seq (aOJ σ sz) (aOI σ sz)
def Qn(σ:Srt)(sz:Nat):AFunc:=⟨[P.nat 0,P.nat 1,P.nat 2,P.nat 3],[.tmp (P.nat 8),.tmp (P.nat 9)],(aOK σ sz)⟩
def aOd(σ:Srt)(sz:Nat):ah:=.region [⟨D 10,.mov (R 1),none⟩,⟨D 8,.mov (R 10),none⟩] []
def aOb(σ:Srt)(sz:Nat):ah:=.region [⟨D 11,.mov (R 2),none⟩,⟨D 12,.bin .sub (R 11) (.k (.c (.f (.int .i64 1)))),none⟩,⟨D 9,.mov (R 12),none⟩] []
def aN6(σ:Srt)(sz:Nat):ah:=.region [⟨D 13,.mov (R 8),none⟩,⟨D 14,.mov (R 9),none⟩,⟨D 15,.bin .lss (R 13) (R 14),none⟩] []
def aN5(σ:Srt)(sz:Nat):ah:=.cond (R 15) .skip (.exit 0)
def aN7(σ:Srt)(sz:Nat):ah:=.seq (aN6 σ sz) (aN5 σ sz)
def aG4(σ:Srt)(sz:Nat):ah:=.region [⟨D 16,.mov (R 0),none⟩,⟨D 17,.mov (R 8),none⟩,⟨D 18,.mov (R 0),none⟩,⟨D 19,.mov (R 9),none⟩,⟨D 20,.mov (R 0),none⟩,⟨D 21,.mov (R 9),none⟩,⟨D 22,.aF sz none (R 20) (R 21),none⟩,⟨D 23,.load (some sz) (R 22),none⟩,⟨D 24,.mov (R 0),none⟩,⟨D 25,.mov (R 8),none⟩,⟨D 26,.aF sz none (R 24) (R 25),none⟩,⟨D 27,.load (some sz) (R 26),none⟩,⟨D 28,.aF sz none (R 16) (R 17),none⟩,⟨none,.store sz (R 28) (R 23),none⟩,⟨D 29,.aF sz none (R 18) (R 19),none⟩,⟨none,.store sz (R 29) (R 27),none⟩] []
def aG2(σ:Srt)(sz:Nat):ah:=.region [⟨D 30,.mov (R 8),none⟩,⟨D 31,.bin .add (R 30) (.k (.c (.f (.int .i64 1)))),none⟩,⟨D 8,.mov (R 31),none⟩] []
def aG1(σ:Srt)(sz:Nat):ah:=.region [⟨D 32,.mov (R 9),none⟩,⟨D 33,.bin .sub (R 32) (.k (.c (.f (.int .i64 1)))),none⟩,⟨D 9,.mov (R 33),none⟩] []
def aG3(σ:Srt)(sz:Nat):ah:=.seq (aG2 σ sz) (aG1 σ sz)
def aG5(σ:Srt)(sz:Nat):ah:=.seq (aG4 σ sz) (aG3 σ sz)
def aG6(σ:Srt)(sz:Nat):ah:=.block 1 (aG5 σ sz)
def aN8(σ:Srt)(sz:Nat):ah:=.seq (aN7 σ sz) (aG6 σ sz)
def aN9(σ:Srt)(sz:Nat):ah:=.loop (aN8 σ sz)
def aOa(σ:Srt)(sz:Nat):ah:=.block 0 (aN9 σ sz)
def aOc(σ:Srt)(sz:Nat):ah:=.seq (aOb σ sz) (aOa σ sz)
def aOe(σ:Srt)(sz:Nat):ah:=.seq (aOd σ sz) (aOc σ sz)
def Ql(σ:Srt)(sz:Nat):AFunc:=⟨[P.nat 0,P.nat 1,P.nat 2,P.nat 3],[],(aOe σ sz)⟩
def aJJ(σ:Srt)(sz:Nat):ah:=.region [⟨D 10,.mov (.k (.c (.f (.int .i64 0)))),none⟩,⟨D 11,.mov (.k (.c (.f (.bool false)))),none⟩] []
def aJH(σ:Srt)(sz:Nat):ah:=.region [⟨D 14,.mov (R 0),none⟩,⟨D 15,.mov (R 1),none⟩,⟨D 16,.mov (R 0),none⟩,⟨D 17,.mov (R 3),none⟩,⟨D 18,.mov (R 0),none⟩,⟨D 19,.mov (R 3),none⟩,⟨D 20,.aF sz none (R 18) (R 19),none⟩,⟨D 21,.load (some sz) (R 20),none⟩,⟨D 22,.mov (R 0),none⟩,⟨D 23,.mov (R 1),none⟩,⟨D 24,.aF sz none (R 22) (R 23),none⟩,⟨D 25,.load (some sz) (R 24),none⟩,⟨D 26,.aF sz none (R 14) (R 15),none⟩,⟨none,.store sz (R 26) (R 21),none⟩,⟨D 27,.aF sz none (R 16) (R 17),none⟩,⟨none,.store sz (R 27) (R 25),none⟩] []
def aJF(σ:Srt)(sz:Nat):ah:=.region [⟨D 28,.mov (R 1),none⟩,⟨D 29,.bin .add (R 28) (.k (.c (.f (.int .i64 1)))),none⟩,⟨D 30,.mov (R 2),none⟩,⟨D 31,.bin .sub (R 30) (.k (.c (.f (.int .i64 1)))),none⟩,⟨D 12,.mov (R 29),none⟩,⟨D 13,.mov (R 31),none⟩] []
def asy(σ:Srt)(sz:Nat):ah:=.region [⟨D 32,.mov (R 12),none⟩,⟨D 33,.mov (R 13),none⟩,⟨D 34,.bin .leq (R 32) (R 33),none⟩,⟨D 35,.mov (R 34),none⟩,⟨D 36,.mov (R 4),G 35 true⟩,⟨D 37,.mov (R 0),G 35 true⟩,⟨D 38,.mov (R 12),G 35 true⟩,⟨D 39,.aF sz none (R 37) (R 38),G 35 true⟩,⟨D 40,.load (some sz) (R 39),G 35 true⟩,⟨D 41,.mov (R 0),G 35 true⟩,⟨D 42,.mov (R 1),G 35 true⟩,⟨D 43,.aF sz none (R 41) (R 42),G 35 true⟩,⟨D 44,.load (some sz) (R 43),G 35 true⟩,⟨D 45,.bU (R 36) [(R 40),(R 44)] true,G 35 true⟩,⟨D 46,.bin .lss (R 45) (.k (.c (.f (.int .i64 0)))),G 35 true⟩,⟨D 47,.pick (R 35) (R 46) (.k (.c (.f (.bool false)))),none⟩] []
def asx(σ:Srt)(sz:Nat):ah:=.cond (R 47) .skip (.exit 0)
def asz(σ:Srt)(sz:Nat):ah:=.seq (asy σ sz) (asx σ sz)
def asv(σ:Srt)(sz:Nat):ah:=.region [⟨D 48,.mov (R 12),none⟩,⟨D 49,.bin .add (R 48) (.k (.c (.f (.int .i64 1)))),none⟩,⟨D 12,.mov (R 49),none⟩] []
def asw(σ:Srt)(sz:Nat):ah:=.block 1 (asv σ sz)
def aJC(σ:Srt)(sz:Nat):ah:=.seq (asz σ sz) (asw σ sz)
def aJD(σ:Srt)(sz:Nat):ah:=.loop (aJC σ sz)
def XK(σ:Srt)(sz:Nat):ah:=.block 0 (aJD σ sz)
def asn(σ:Srt)(sz:Nat):ah:=.region [⟨D 50,.mov (R 12),none⟩,⟨D 51,.mov (R 13),none⟩,⟨D 52,.bin .leq (R 50) (R 51),none⟩,⟨D 53,.mov (R 52),none⟩,⟨D 54,.mov (R 4),G 53 true⟩,⟨D 55,.mov (R 0),G 53 true⟩,⟨D 56,.mov (R 13),G 53 true⟩,⟨D 57,.aF sz none (R 55) (R 56),G 53 true⟩,⟨D 58,.load (some sz) (R 57),G 53 true⟩,⟨D 59,.mov (R 0),G 53 true⟩,⟨D 60,.mov (R 1),G 53 true⟩,⟨D 61,.aF sz none (R 59) (R 60),G 53 true⟩,⟨D 62,.load (some sz) (R 61),G 53 true⟩,⟨D 63,.bU (R 54) [(R 58),(R 62)] true,G 53 true⟩,⟨D 64,.bin .lss (R 63) (.k (.c (.f (.int .i64 0)))),G 53 true⟩,⟨D 65,.un .not (R 64),G 53 true⟩,⟨D 66,.pick (R 53) (R 65) (.k (.c (.f (.bool false)))),none⟩] []
def asl(σ:Srt)(sz:Nat):ah:=.cond (R 66) .skip (.exit 2)
def aso(σ:Srt)(sz:Nat):ah:=.seq (asn σ sz) (asl σ sz)
def asi(σ:Srt)(sz:Nat):ah:=.region [⟨D 67,.mov (R 13),none⟩,⟨D 68,.bin .sub (R 67) (.k (.c (.f (.int .i64 1)))),none⟩,⟨D 13,.mov (R 68),none⟩] []
def asj(σ:Srt)(sz:Nat):ah:=.block 3 (asi σ sz)
def asq(σ:Srt)(sz:Nat):ah:=.seq (aso σ sz) (asj σ sz)
def asr(σ:Srt)(sz:Nat):ah:=.loop (asq σ sz)
def QB(σ:Srt)(sz:Nat):ah:=.block 2 (asr σ sz)
def asf(σ:Srt)(sz:Nat):ah:=.region [⟨D 69,.mov (R 12),none⟩,⟨D 70,.mov (R 13),none⟩,⟨D 71,.bin .gtr (R 69) (R 70),none⟩] []
def asb(σ:Srt)(sz:Nat):ah:=.region [⟨D 72,.mov (R 0),none⟩,⟨D 73,.mov (R 13),none⟩,⟨D 74,.mov (R 0),none⟩,⟨D 75,.mov (R 1),none⟩,⟨D 76,.mov (R 0),none⟩,⟨D 77,.mov (R 1),none⟩,⟨D 78,.aF sz none (R 76) (R 77),none⟩,⟨D 79,.load (some sz) (R 78),none⟩,⟨D 80,.mov (R 0),none⟩,⟨D 81,.mov (R 13),none⟩,⟨D 82,.aF sz none (R 80) (R 81),none⟩,⟨D 83,.load (some sz) (R 82),none⟩,⟨D 84,.aF sz none (R 72) (R 73),none⟩,⟨none,.store sz (R 84) (R 79),none⟩,⟨D 85,.aF sz none (R 74) (R 75),none⟩,⟨none,.store sz (R 85) (R 83),none⟩] []
def ar9(σ:Srt)(sz:Nat):ah:=.region [⟨D 86,.mov (R 13),none⟩,⟨D 10,.mov (R 86),none⟩,⟨D 11,.mov (.k (.c (.f (.bool true)))),none⟩] []
def asa(σ:Srt)(sz:Nat):ah:=.seq (ar9 σ sz) .ret
def asc(σ:Srt)(sz:Nat):ah:=.seq (asb σ sz) (asa σ sz)
def ase(σ:Srt)(sz:Nat):ah:=.cond (R 71) (asc σ sz) .skip
def asg(σ:Srt)(sz:Nat):ah:=.seq (asf σ sz) (ase σ sz)
def ar7(σ:Srt)(sz:Nat):ah:=.region [⟨D 87,.mov (R 0),none⟩,⟨D 88,.mov (R 12),none⟩,⟨D 89,.mov (R 0),none⟩,⟨D 90,.mov (R 13),none⟩,⟨D 91,.mov (R 0),none⟩,⟨D 92,.mov (R 13),none⟩,⟨D 93,.aF sz none (R 91) (R 92),none⟩,⟨D 94,.load (some sz) (R 93),none⟩,⟨D 95,.mov (R 0),none⟩,⟨D 96,.mov (R 12),none⟩,⟨D 97,.aF sz none (R 95) (R 96),none⟩,⟨D 98,.load (some sz) (R 97),none⟩,⟨D 99,.aF sz none (R 87) (R 88),none⟩,⟨none,.store sz (R 99) (R 94),none⟩,⟨D 100,.aF sz none (R 89) (R 90),none⟩,⟨none,.store sz (R 100) (R 98),none⟩] []
def ar5(σ:Srt)(sz:Nat):ah:=.region [⟨D 101,.mov (R 12),none⟩,⟨D 102,.bin .add (R 101) (.k (.c (.f (.int .i64 1)))),none⟩,⟨D 12,.mov (R 102),none⟩] []
def ar2(σ:Srt)(sz:Nat):ah:=.region [⟨D 103,.mov (R 13),none⟩,⟨D 104,.bin .sub (R 103) (.k (.c (.f (.int .i64 1)))),none⟩,⟨D 13,.mov (R 104),none⟩] []
def arT(σ:Srt)(sz:Nat):ah:=.region [⟨D 105,.mov (R 12),none⟩,⟨D 106,.mov (R 13),none⟩,⟨D 107,.bin .leq (R 105) (R 106),none⟩,⟨D 108,.mov (R 107),none⟩,⟨D 109,.mov (R 4),G 108 true⟩,⟨D 110,.mov (R 0),G 108 true⟩,⟨D 111,.mov (R 12),G 108 true⟩,⟨D 112,.aF sz none (R 110) (R 111),G 108 true⟩,⟨D 113,.load (some sz) (R 112),G 108 true⟩,⟨D 114,.mov (R 0),G 108 true⟩,⟨D 115,.mov (R 1),G 108 true⟩,⟨D 116,.aF sz none (R 114) (R 115),G 108 true⟩,⟨D 117,.load (some sz) (R 116),G 108 true⟩,⟨D 118,.bU (R 109) [(R 113),(R 117)] true,G 108 true⟩,⟨D 119,.bin .lss (R 118) (.k (.c (.f (.int .i64 0)))),G 108 true⟩,⟨D 120,.pick (R 108) (R 119) (.k (.c (.f (.bool false)))),none⟩] []
def arS(σ:Srt)(sz:Nat):ah:=.cond (R 120) .skip (.exit 6)
def arU(σ:Srt)(sz:Nat):ah:=.seq (arT σ sz) (arS σ sz)
def arQ(σ:Srt)(sz:Nat):ah:=.region [⟨D 121,.mov (R 12),none⟩,⟨D 122,.bin .add (R 121) (.k (.c (.f (.int .i64 1)))),none⟩,⟨D 12,.mov (R 122),none⟩] []
def arR(σ:Srt)(sz:Nat):ah:=.block 7 (arQ σ sz)
def arV(σ:Srt)(sz:Nat):ah:=.seq (arU σ sz) (arR σ sz)
def arW(σ:Srt)(sz:Nat):ah:=.loop (arV σ sz)
def QA(σ:Srt)(sz:Nat):ah:=.block 6 (arW σ sz)
def arL(σ:Srt)(sz:Nat):ah:=.region [⟨D 123,.mov (R 12),none⟩,⟨D 124,.mov (R 13),none⟩,⟨D 125,.bin .leq (R 123) (R 124),none⟩,⟨D 126,.mov (R 125),none⟩,⟨D 127,.mov (R 4),G 126 true⟩,⟨D 128,.mov (R 0),G 126 true⟩,⟨D 129,.mov (R 13),G 126 true⟩,⟨D 130,.aF sz none (R 128) (R 129),G 126 true⟩,⟨D 131,.load (some sz) (R 130),G 126 true⟩,⟨D 132,.mov (R 0),G 126 true⟩,⟨D 133,.mov (R 1),G 126 true⟩,⟨D 134,.aF sz none (R 132) (R 133),G 126 true⟩,⟨D 135,.load (some sz) (R 134),G 126 true⟩,⟨D 136,.bU (R 127) [(R 131),(R 135)] true,G 126 true⟩,⟨D 137,.bin .lss (R 136) (.k (.c (.f (.int .i64 0)))),G 126 true⟩,⟨D 138,.un .not (R 137),G 126 true⟩,⟨D 139,.pick (R 126) (R 138) (.k (.c (.f (.bool false)))),none⟩] []
def arK(σ:Srt)(sz:Nat):ah:=.cond (R 139) .skip (.exit 8)
def arM(σ:Srt)(sz:Nat):ah:=.seq (arL σ sz) (arK σ sz)
def arI(σ:Srt)(sz:Nat):ah:=.region [⟨D 140,.mov (R 13),none⟩,⟨D 141,.bin .sub (R 140) (.k (.c (.f (.int .i64 1)))),none⟩,⟨D 13,.mov (R 141),none⟩] []
def arJ(σ:Srt)(sz:Nat):ah:=.block 9 (arI σ sz)
def arN(σ:Srt)(sz:Nat):ah:=.seq (arM σ sz) (arJ σ sz)
def arO(σ:Srt)(sz:Nat):ah:=.loop (arN σ sz)
def Qz(σ:Srt)(sz:Nat):ah:=.block 8 (arO σ sz)
def arF(σ:Srt)(sz:Nat):ah:=.region [⟨D 142,.mov (R 12),none⟩,⟨D 143,.mov (R 13),none⟩,⟨D 144,.bin .gtr (R 142) (R 143),none⟩] []
def arE(σ:Srt)(sz:Nat):ah:=.cond (R 144) (.exit 4) .skip
def arG(σ:Srt)(sz:Nat):ah:=.seq (arF σ sz) (arE σ sz)
def arC(σ:Srt)(sz:Nat):ah:=.region [⟨D 145,.mov (R 0),none⟩,⟨D 146,.mov (R 12),none⟩,⟨D 147,.mov (R 0),none⟩,⟨D 148,.mov (R 13),none⟩,⟨D 149,.mov (R 0),none⟩,⟨D 150,.mov (R 13),none⟩,⟨D 151,.aF sz none (R 149) (R 150),none⟩,⟨D 152,.load (some sz) (R 151),none⟩,⟨D 153,.mov (R 0),none⟩,⟨D 154,.mov (R 12),none⟩,⟨D 155,.aF sz none (R 153) (R 154),none⟩,⟨D 156,.load (some sz) (R 155),none⟩,⟨D 157,.aF sz none (R 145) (R 146),none⟩,⟨none,.store sz (R 157) (R 152),none⟩,⟨D 158,.aF sz none (R 147) (R 148),none⟩,⟨none,.store sz (R 158) (R 156),none⟩] []
def arA(σ:Srt)(sz:Nat):ah:=.region [⟨D 159,.mov (R 12),none⟩,⟨D 160,.bin .add (R 159) (.k (.c (.f (.int .i64 1)))),none⟩,⟨D 12,.mov (R 160),none⟩] []
def arz(σ:Srt)(sz:Nat):ah:=.region [⟨D 161,.mov (R 13),none⟩,⟨D 162,.bin .sub (R 161) (.k (.c (.f (.int .i64 1)))),none⟩,⟨D 13,.mov (R 162),none⟩] []
def arB(σ:Srt)(sz:Nat):ah:=.seq (arA σ sz) (arz σ sz)
def arD(σ:Srt)(sz:Nat):ah:=.seq (arC σ sz) (arB σ sz)
def arH(σ:Srt)(sz:Nat):ah:=.seq (arG σ sz) (arD σ sz)
def arP(σ:Srt)(sz:Nat):ah:=.seq (Qz σ sz) (arH σ sz)
def arX(σ:Srt)(sz:Nat):ah:=.seq (QA σ sz) (arP σ sz)
def arY(σ:Srt)(sz:Nat):ah:=.block 5 (arX σ sz)
def arZ(σ:Srt)(sz:Nat):ah:=.loop (arY σ sz)
def ar0(σ:Srt)(sz:Nat):ah:=.block 4 (arZ σ sz)
def arx(σ:Srt)(sz:Nat):ah:=.region [⟨D 163,.mov (R 0),none⟩,⟨D 164,.mov (R 13),none⟩,⟨D 165,.mov (R 0),none⟩,⟨D 166,.mov (R 1),none⟩,⟨D 167,.mov (R 0),none⟩,⟨D 168,.mov (R 1),none⟩,⟨D 169,.aF sz none (R 167) (R 168),none⟩,⟨D 170,.load (some sz) (R 169),none⟩,⟨D 171,.mov (R 0),none⟩,⟨D 172,.mov (R 13),none⟩,⟨D 173,.aF sz none (R 171) (R 172),none⟩,⟨D 174,.load (some sz) (R 173),none⟩,⟨D 175,.aF sz none (R 163) (R 164),none⟩,⟨none,.store sz (R 175) (R 170),none⟩,⟨D 176,.aF sz none (R 165) (R 166),none⟩,⟨none,.store sz (R 176) (R 174),none⟩] []
def arv(σ:Srt)(sz:Nat):ah:=.region [⟨D 177,.mov (R 13),none⟩,⟨D 10,.mov (R 177),none⟩,⟨D 11,.mov (.k (.c (.f (.bool false)))),none⟩] []
def arw(σ:Srt)(sz:Nat):ah:=.seq (arv σ sz) .ret
def Qy(σ:Srt)(sz:Nat):ah:=.seq (arx σ sz) (arw σ sz)
def ar1(σ:Srt)(sz:Nat):ah:=.seq (ar0 σ sz) (Qy σ sz)
def ar4(σ:Srt)(sz:Nat):ah:=.seq (ar2 σ sz) (ar1 σ sz)
def ar6(σ:Srt)(sz:Nat):ah:=.seq (ar5 σ sz) (ar4 σ sz)
def ar8(σ:Srt)(sz:Nat):ah:=.seq (ar7 σ sz) (ar6 σ sz)
def ash(σ:Srt)(sz:Nat):ah:=.seq (asg σ sz) (ar8 σ sz)
def asu(σ:Srt)(sz:Nat):ah:=.seq (QB σ sz) (ash σ sz)
def aJE(σ:Srt)(sz:Nat):ah:=.seq (XK σ sz) (asu σ sz)
def aJG(σ:Srt)(sz:Nat):ah:=.seq (aJF σ sz) (aJE σ sz)
def aJI(σ:Srt)(sz:Nat):ah:=.seq (aJH σ sz) (aJG σ sz)
def aJK(σ:Srt)(sz:Nat):ah:=.seq (aJJ σ sz) (aJI σ sz)
def GH(σ:Srt)(sz:Nat):AFunc:=⟨[P.nat 0,P.nat 1,P.nat 2,P.nat 3,P.nat 4],[.tmp (P.nat 10),.tmp (P.nat 11)],(aJK σ sz)⟩
def aOT(σ:Srt)(sz:Nat):ah:=.region [⟨D 10,.mov (.k (.c (.f (.int .i64 0)))),none⟩] []
def aOR(σ:Srt)(sz:Nat):ah:=.region [⟨D 13,.mov (R 0),none⟩,⟨D 14,.mov (R 1),none⟩,⟨D 15,.mov (R 0),none⟩,⟨D 16,.mov (R 3),none⟩,⟨D 17,.mov (R 0),none⟩,⟨D 18,.mov (R 3),none⟩,⟨D 19,.aF sz none (R 17) (R 18),none⟩,⟨D 20,.load (some sz) (R 19),none⟩,⟨D 21,.mov (R 0),none⟩,⟨D 22,.mov (R 1),none⟩,⟨D 23,.aF sz none (R 21) (R 22),none⟩,⟨D 24,.load (some sz) (R 23),none⟩,⟨D 25,.aF sz none (R 13) (R 14),none⟩,⟨none,.store sz (R 25) (R 20),none⟩,⟨D 26,.aF sz none (R 15) (R 16),none⟩,⟨none,.store sz (R 26) (R 24),none⟩] []
def aOP(σ:Srt)(sz:Nat):ah:=.region [⟨D 27,.mov (R 1),none⟩,⟨D 28,.bin .add (R 27) (.k (.c (.f (.int .i64 1)))),none⟩,⟨D 29,.mov (R 2),none⟩,⟨D 30,.bin .sub (R 29) (.k (.c (.f (.int .i64 1)))),none⟩,⟨D 11,.mov (R 28),none⟩,⟨D 12,.mov (R 30),none⟩] []
def aIx(σ:Srt)(sz:Nat):ah:=.region [⟨D 31,.mov (R 11),none⟩,⟨D 32,.mov (R 12),none⟩,⟨D 33,.bin .leq (R 31) (R 32),none⟩,⟨D 34,.mov (R 33),none⟩,⟨D 35,.mov (R 4),G 34 true⟩,⟨D 36,.mov (R 0),G 34 true⟩,⟨D 37,.mov (R 1),G 34 true⟩,⟨D 38,.aF sz none (R 36) (R 37),G 34 true⟩,⟨D 39,.load (some sz) (R 38),G 34 true⟩,⟨D 40,.mov (R 0),G 34 true⟩,⟨D 41,.mov (R 11),G 34 true⟩,⟨D 42,.aF sz none (R 40) (R 41),G 34 true⟩,⟨D 43,.load (some sz) (R 42),G 34 true⟩,⟨D 44,.bU (R 35) [(R 39),(R 43)] true,G 34 true⟩,⟨D 45,.bin .lss (R 44) (.k (.c (.f (.int .i64 0)))),G 34 true⟩,⟨D 46,.un .not (R 45),G 34 true⟩,⟨D 47,.pick (R 34) (R 46) (.k (.c (.f (.bool false)))),none⟩] []
def aIw(σ:Srt)(sz:Nat):ah:=.cond (R 47) .skip (.exit 2)
def aIy(σ:Srt)(sz:Nat):ah:=.seq (aIx σ sz) (aIw σ sz)
def aIu(σ:Srt)(sz:Nat):ah:=.region [⟨D 48,.mov (R 11),none⟩,⟨D 49,.bin .add (R 48) (.k (.c (.f (.int .i64 1)))),none⟩,⟨D 11,.mov (R 49),none⟩] []
def aIv(σ:Srt)(sz:Nat):ah:=.block 3 (aIu σ sz)
def aIz(σ:Srt)(sz:Nat):ah:=.seq (aIy σ sz) (aIv σ sz)
def aIA(σ:Srt)(sz:Nat):ah:=.loop (aIz σ sz)
def XA(σ:Srt)(sz:Nat):ah:=.block 2 (aIA σ sz)
def aIp(σ:Srt)(sz:Nat):ah:=.region [⟨D 50,.mov (R 11),none⟩,⟨D 51,.mov (R 12),none⟩,⟨D 52,.bin .leq (R 50) (R 51),none⟩,⟨D 53,.mov (R 52),none⟩,⟨D 54,.mov (R 4),G 53 true⟩,⟨D 55,.mov (R 0),G 53 true⟩,⟨D 56,.mov (R 1),G 53 true⟩,⟨D 57,.aF sz none (R 55) (R 56),G 53 true⟩,⟨D 58,.load (some sz) (R 57),G 53 true⟩,⟨D 59,.mov (R 0),G 53 true⟩,⟨D 60,.mov (R 12),G 53 true⟩,⟨D 61,.aF sz none (R 59) (R 60),G 53 true⟩,⟨D 62,.load (some sz) (R 61),G 53 true⟩,⟨D 63,.bU (R 54) [(R 58),(R 62)] true,G 53 true⟩,⟨D 64,.bin .lss (R 63) (.k (.c (.f (.int .i64 0)))),G 53 true⟩,⟨D 65,.pick (R 53) (R 64) (.k (.c (.f (.bool false)))),none⟩] []
def aIo(σ:Srt)(sz:Nat):ah:=.cond (R 65) .skip (.exit 4)
def aIq(σ:Srt)(sz:Nat):ah:=.seq (aIp σ sz) (aIo σ sz)
def aIm(σ:Srt)(sz:Nat):ah:=.region [⟨D 66,.mov (R 12),none⟩,⟨D 67,.bin .sub (R 66) (.k (.c (.f (.int .i64 1)))),none⟩,⟨D 12,.mov (R 67),none⟩] []
def aIn(σ:Srt)(sz:Nat):ah:=.block 5 (aIm σ sz)
def aIr(σ:Srt)(sz:Nat):ah:=.seq (aIq σ sz) (aIn σ sz)
def aIs(σ:Srt)(sz:Nat):ah:=.loop (aIr σ sz)
def Xz(σ:Srt)(sz:Nat):ah:=.block 4 (aIs σ sz)
def aIj(σ:Srt)(sz:Nat):ah:=.region [⟨D 68,.mov (R 11),none⟩,⟨D 69,.mov (R 12),none⟩,⟨D 70,.bin .gtr (R 68) (R 69),none⟩] []
def aIi(σ:Srt)(sz:Nat):ah:=.cond (R 70) (.exit 0) .skip
def aIk(σ:Srt)(sz:Nat):ah:=.seq (aIj σ sz) (aIi σ sz)
def aIg(σ:Srt)(sz:Nat):ah:=.region [⟨D 71,.mov (R 0),none⟩,⟨D 72,.mov (R 11),none⟩,⟨D 73,.mov (R 0),none⟩,⟨D 74,.mov (R 12),none⟩,⟨D 75,.mov (R 0),none⟩,⟨D 76,.mov (R 12),none⟩,⟨D 77,.aF sz none (R 75) (R 76),none⟩,⟨D 78,.load (some sz) (R 77),none⟩,⟨D 79,.mov (R 0),none⟩,⟨D 80,.mov (R 11),none⟩,⟨D 81,.aF sz none (R 79) (R 80),none⟩,⟨D 82,.load (some sz) (R 81),none⟩,⟨D 83,.aF sz none (R 71) (R 72),none⟩,⟨none,.store sz (R 83) (R 78),none⟩,⟨D 84,.aF sz none (R 73) (R 74),none⟩,⟨none,.store sz (R 84) (R 82),none⟩] []
def aIe(σ:Srt)(sz:Nat):ah:=.region [⟨D 85,.mov (R 11),none⟩,⟨D 86,.bin .add (R 85) (.k (.c (.f (.int .i64 1)))),none⟩,⟨D 11,.mov (R 86),none⟩] []
def aId(σ:Srt)(sz:Nat):ah:=.region [⟨D 87,.mov (R 12),none⟩,⟨D 88,.bin .sub (R 87) (.k (.c (.f (.int .i64 1)))),none⟩,⟨D 12,.mov (R 88),none⟩] []
def aIf(σ:Srt)(sz:Nat):ah:=.seq (aIe σ sz) (aId σ sz)
def aIh(σ:Srt)(sz:Nat):ah:=.seq (aIg σ sz) (aIf σ sz)
def aIl(σ:Srt)(sz:Nat):ah:=.seq (aIk σ sz) (aIh σ sz)
def aIt(σ:Srt)(sz:Nat):ah:=.seq (Xz σ sz) (aIl σ sz)
def aIB(σ:Srt)(sz:Nat):ah:=.seq (XA σ sz) (aIt σ sz)
def aOL(σ:Srt)(sz:Nat):ah:=.block 1 (aIB σ sz)
def aOM(σ:Srt)(sz:Nat):ah:=.loop (aOL σ sz)
def aON(σ:Srt)(sz:Nat):ah:=.block 0 (aOM σ sz)
def aIc(σ:Srt)(sz:Nat):ah:=.region [⟨D 89,.mov (R 11),none⟩,⟨D 10,.mov (R 89),none⟩] []
def Xy(σ:Srt)(sz:Nat):ah:=.seq (aIc σ sz) .ret
def aOO(σ:Srt)(sz:Nat):ah:=.seq (aON σ sz) (Xy σ sz)
def aOQ(σ:Srt)(sz:Nat):ah:=.seq (aOP σ sz) (aOO σ sz)
def aOS(σ:Srt)(sz:Nat):ah:=.seq (aOR σ sz) (aOQ σ sz)
def aOU(σ:Srt)(sz:Nat):ah:=.seq (aOT σ sz) (aOS σ sz)
def Qv(σ:Srt)(sz:Nat):AFunc:=⟨[P.nat 0,P.nat 1,P.nat 2,P.nat 3,P.nat 4],[.tmp (P.nat 10)],(aOU σ sz)⟩
def aH5(σ:Srt)(sz:Nat):ah:=.region [⟨D 8,.mov (.k (.c (.f (.bool false)))),none⟩] []
def aH3(σ:Srt)(sz:Nat):ah:=.region [⟨D 13,.mov (R 1),none⟩,⟨D 14,.bin .add (R 13) (.k (.c (.f (.int .i64 1)))),none⟩,⟨D 9,.mov (R 14),none⟩] []
def aH0(σ:Srt)(sz:Nat):ah:=.region [⟨D 10,.mov (.k (.c (.f (.int .i64 0)))),none⟩] []
def arq(σ:Srt)(sz:Nat):ah:=.region [⟨D 15,.mov (R 10),none⟩,⟨D 16,.bin .lss (R 15) (.k (.c (.f (.int .i64 5)))),none⟩] []
def arp(σ:Srt)(sz:Nat):ah:=.cond (R 16) .skip (.exit 0)
def ars(σ:Srt)(sz:Nat):ah:=.seq (arq σ sz) (arp σ sz)
def arh(σ:Srt)(sz:Nat):ah:=.region [⟨D 19,.mov (R 9),none⟩,⟨D 20,.mov (R 2),none⟩,⟨D 21,.bin .lss (R 19) (R 20),none⟩,⟨D 22,.mov (R 21),none⟩,⟨D 23,.mov (R 3),G 22 true⟩,⟨D 24,.mov (R 0),G 22 true⟩,⟨D 25,.mov (R 9),G 22 true⟩,⟨D 26,.aF sz none (R 24) (R 25),G 22 true⟩,⟨D 27,.load (some sz) (R 26),G 22 true⟩,⟨D 28,.mov (R 0),G 22 true⟩,⟨D 29,.mov (R 9),G 22 true⟩,⟨D 30,.bin .sub (R 29) (.k (.c (.f (.int .i64 1)))),G 22 true⟩,⟨D 31,.aF sz none (R 28) (R 30),G 22 true⟩,⟨D 32,.load (some sz) (R 31),G 22 true⟩,⟨D 33,.bU (R 23) [(R 27),(R 32)] true,G 22 true⟩,⟨D 34,.bin .lss (R 33) (.k (.c (.f (.int .i64 0)))),G 22 true⟩,⟨D 35,.un .not (R 34),G 22 true⟩,⟨D 36,.pick (R 22) (R 35) (.k (.c (.f (.bool false)))),none⟩] []
def arf(σ:Srt)(sz:Nat):ah:=.cond (R 36) .skip (.exit 2)
def ari(σ:Srt)(sz:Nat):ah:=.seq (arh σ sz) (arf σ sz)
def arb(σ:Srt)(sz:Nat):ah:=.region [⟨D 37,.mov (R 9),none⟩,⟨D 38,.bin .add (R 37) (.k (.c (.f (.int .i64 1)))),none⟩,⟨D 9,.mov (R 38),none⟩] []
def ard(σ:Srt)(sz:Nat):ah:=.block 3 (arb σ sz)
def arj(σ:Srt)(sz:Nat):ah:=.seq (ari σ sz) (ard σ sz)
def ark(σ:Srt)(sz:Nat):ah:=.loop (arj σ sz)
def Qr(σ:Srt)(sz:Nat):ah:=.block 2 (ark σ sz)
def aq8(σ:Srt)(sz:Nat):ah:=.region [⟨D 39,.mov (R 9),none⟩,⟨D 40,.mov (R 2),none⟩,⟨D 41,.bin .eql (R 39) (R 40),none⟩] []
def aq5(σ:Srt)(sz:Nat):ah:=.region [⟨D 8,.mov (.k (.c (.f (.bool true)))),none⟩] []
def aq6(σ:Srt)(sz:Nat):ah:=.seq (aq5 σ sz) .ret
def aq7(σ:Srt)(sz:Nat):ah:=.cond (R 41) (aq6 σ sz) .skip
def aq9(σ:Srt)(sz:Nat):ah:=.seq (aq8 σ sz) (aq7 σ sz)
def aq2(σ:Srt)(sz:Nat):ah:=.region [⟨D 42,.mov (R 2),none⟩,⟨D 43,.mov (R 1),none⟩,⟨D 44,.bin .sub (R 42) (R 43),none⟩,⟨D 45,.bin .lss (R 44) (.k (.c (.f (.int .i64 50)))),none⟩] []
def aqZ(σ:Srt)(sz:Nat):ah:=.region [⟨D 8,.mov (.k (.c (.f (.bool false)))),none⟩] []
def aq0(σ:Srt)(sz:Nat):ah:=.seq (aqZ σ sz) .ret
def aq1(σ:Srt)(sz:Nat):ah:=.cond (R 45) (aq0 σ sz) .skip
def aq3(σ:Srt)(sz:Nat):ah:=.seq (aq2 σ sz) (aq1 σ sz)
def aqX(σ:Srt)(sz:Nat):ah:=.region [⟨D 46,.mov (R 0),none⟩,⟨D 47,.mov (R 9),none⟩,⟨D 48,.mov (R 0),none⟩,⟨D 49,.mov (R 9),none⟩,⟨D 50,.bin .sub (R 49) (.k (.c (.f (.int .i64 1)))),none⟩,⟨D 51,.mov (R 0),none⟩,⟨D 52,.mov (R 9),none⟩,⟨D 53,.bin .sub (R 52) (.k (.c (.f (.int .i64 1)))),none⟩,⟨D 54,.aF sz none (R 51) (R 53),none⟩,⟨D 55,.load (some sz) (R 54),none⟩,⟨D 56,.mov (R 0),none⟩,⟨D 57,.mov (R 9),none⟩,⟨D 58,.aF sz none (R 56) (R 57),none⟩,⟨D 59,.load (some sz) (R 58),none⟩,⟨D 60,.aF sz none (R 46) (R 47),none⟩,⟨none,.store sz (R 60) (R 55),none⟩,⟨D 61,.aF sz none (R 48) (R 50),none⟩,⟨none,.store sz (R 61) (R 59),none⟩] []
def aqU(σ:Srt)(sz:Nat):ah:=.region [⟨D 62,.mov (R 9),none⟩,⟨D 63,.mov (R 1),none⟩,⟨D 64,.bin .sub (R 62) (R 63),none⟩,⟨D 65,.bin .geq (R 64) (.k (.c (.f (.int .i64 2)))),none⟩] []
def aqR(σ:Srt)(sz:Nat):ah:=.region [⟨D 66,.mov (R 9),none⟩,⟨D 67,.bin .sub (R 66) (.k (.c (.f (.int .i64 1)))),none⟩,⟨D 11,.mov (R 67),none⟩] []
def aqN(σ:Srt)(sz:Nat):ah:=.region [⟨D 68,.mov (R 11),none⟩,⟨D 69,.bin .geq (R 68) (.k (.c (.f (.int .i64 1)))),none⟩] []
def aqM(σ:Srt)(sz:Nat):ah:=.cond (R 69) .skip (.exit 4)
def aqO(σ:Srt)(sz:Nat):ah:=.seq (aqN σ sz) (aqM σ sz)
def aqH(σ:Srt)(sz:Nat):ah:=.region [⟨D 72,.mov (R 3),none⟩,⟨D 73,.mov (R 0),none⟩,⟨D 74,.mov (R 11),none⟩,⟨D 75,.aF sz none (R 73) (R 74),none⟩,⟨D 76,.load (some sz) (R 75),none⟩,⟨D 77,.mov (R 0),none⟩,⟨D 78,.mov (R 11),none⟩,⟨D 79,.bin .sub (R 78) (.k (.c (.f (.int .i64 1)))),none⟩,⟨D 80,.aF sz none (R 77) (R 79),none⟩,⟨D 81,.load (some sz) (R 80),none⟩,⟨D 82,.bU (R 72) [(R 76),(R 81)] true,none⟩,⟨D 83,.bin .lss (R 82) (.k (.c (.f (.int .i64 0)))),none⟩,⟨D 84,.un .not (R 83),none⟩] []
def aqG(σ:Srt)(sz:Nat):ah:=.cond (R 84) (.exit 4) .skip
def aqI(σ:Srt)(sz:Nat):ah:=.seq (aqH σ sz) (aqG σ sz)
def aqF(σ:Srt)(sz:Nat):ah:=.region [⟨D 85,.mov (R 0),none⟩,⟨D 86,.mov (R 11),none⟩,⟨D 87,.mov (R 0),none⟩,⟨D 88,.mov (R 11),none⟩,⟨D 89,.bin .sub (R 88) (.k (.c (.f (.int .i64 1)))),none⟩,⟨D 90,.mov (R 0),none⟩,⟨D 91,.mov (R 11),none⟩,⟨D 92,.bin .sub (R 91) (.k (.c (.f (.int .i64 1)))),none⟩,⟨D 93,.aF sz none (R 90) (R 92),none⟩,⟨D 94,.load (some sz) (R 93),none⟩,⟨D 95,.mov (R 0),none⟩,⟨D 96,.mov (R 11),none⟩,⟨D 97,.aF sz none (R 95) (R 96),none⟩,⟨D 98,.load (some sz) (R 97),none⟩,⟨D 99,.aF sz none (R 85) (R 86),none⟩,⟨none,.store sz (R 99) (R 94),none⟩,⟨D 100,.aF sz none (R 87) (R 89),none⟩,⟨none,.store sz (R 100) (R 98),none⟩] []
def aqJ(σ:Srt)(sz:Nat):ah:=.seq (aqI σ sz) (aqF σ sz)
def aqK(σ:Srt)(sz:Nat):ah:=.block 5 (aqJ σ sz)
def aqE(σ:Srt)(sz:Nat):ah:=.region [⟨D 70,.mov (R 11),none⟩,⟨D 71,.bin .sub (R 70) (.k (.c (.f (.int .i64 1)))),none⟩,⟨D 11,.mov (R 71),none⟩] []
def aqL(σ:Srt)(sz:Nat):ah:=.seq (aqK σ sz) (aqE σ sz)
def aqP(σ:Srt)(sz:Nat):ah:=.seq (aqO σ sz) (aqL σ sz)
def aqQ(σ:Srt)(sz:Nat):ah:=.loop (aqP σ sz)
def Qq(σ:Srt)(sz:Nat):ah:=.block 4 (aqQ σ sz)
def aqS(σ:Srt)(sz:Nat):ah:=.seq (aqR σ sz) (Qq σ sz)
def aqT(σ:Srt)(sz:Nat):ah:=.cond (R 65) (aqS σ sz) .skip
def aqV(σ:Srt)(sz:Nat):ah:=.seq (aqU σ sz) (aqT σ sz)
def aqD(σ:Srt)(sz:Nat):ah:=.region [⟨D 101,.mov (R 2),none⟩,⟨D 102,.mov (R 9),none⟩,⟨D 103,.bin .sub (R 101) (R 102),none⟩,⟨D 104,.bin .geq (R 103) (.k (.c (.f (.int .i64 2)))),none⟩] []
def aqA(σ:Srt)(sz:Nat):ah:=.region [⟨D 105,.mov (R 9),none⟩,⟨D 106,.bin .add (R 105) (.k (.c (.f (.int .i64 1)))),none⟩,⟨D 12,.mov (R 106),none⟩] []
def aqw(σ:Srt)(sz:Nat):ah:=.region [⟨D 107,.mov (R 12),none⟩,⟨D 108,.mov (R 2),none⟩,⟨D 109,.bin .lss (R 107) (R 108),none⟩] []
def aqv(σ:Srt)(sz:Nat):ah:=.cond (R 109) .skip (.exit 6)
def aqx(σ:Srt)(sz:Nat):ah:=.seq (aqw σ sz) (aqv σ sz)
def aqp(σ:Srt)(sz:Nat):ah:=.region [⟨D 112,.mov (R 3),none⟩,⟨D 113,.mov (R 0),none⟩,⟨D 114,.mov (R 12),none⟩,⟨D 115,.aF sz none (R 113) (R 114),none⟩,⟨D 116,.load (some sz) (R 115),none⟩,⟨D 117,.mov (R 0),none⟩,⟨D 118,.mov (R 12),none⟩,⟨D 119,.bin .sub (R 118) (.k (.c (.f (.int .i64 1)))),none⟩,⟨D 120,.aF sz none (R 117) (R 119),none⟩,⟨D 121,.load (some sz) (R 120),none⟩,⟨D 122,.bU (R 112) [(R 116),(R 121)] true,none⟩,⟨D 123,.bin .lss (R 122) (.k (.c (.f (.int .i64 0)))),none⟩,⟨D 124,.un .not (R 123),none⟩] []
def aqo(σ:Srt)(sz:Nat):ah:=.cond (R 124) (.exit 6) .skip
def aqr(σ:Srt)(sz:Nat):ah:=.seq (aqp σ sz) (aqo σ sz)
def aqn(σ:Srt)(sz:Nat):ah:=.region [⟨D 125,.mov (R 0),none⟩,⟨D 126,.mov (R 12),none⟩,⟨D 127,.mov (R 0),none⟩,⟨D 128,.mov (R 12),none⟩,⟨D 129,.bin .sub (R 128) (.k (.c (.f (.int .i64 1)))),none⟩,⟨D 130,.mov (R 0),none⟩,⟨D 131,.mov (R 12),none⟩,⟨D 132,.bin .sub (R 131) (.k (.c (.f (.int .i64 1)))),none⟩,⟨D 133,.aF sz none (R 130) (R 132),none⟩,⟨D 134,.load (some sz) (R 133),none⟩,⟨D 135,.mov (R 0),none⟩,⟨D 136,.mov (R 12),none⟩,⟨D 137,.aF sz none (R 135) (R 136),none⟩,⟨D 138,.load (some sz) (R 137),none⟩,⟨D 139,.aF sz none (R 125) (R 126),none⟩,⟨none,.store sz (R 139) (R 134),none⟩,⟨D 140,.aF sz none (R 127) (R 129),none⟩,⟨none,.store sz (R 140) (R 138),none⟩] []
def aqs(σ:Srt)(sz:Nat):ah:=.seq (aqr σ sz) (aqn σ sz)
def aqt(σ:Srt)(sz:Nat):ah:=.block 7 (aqs σ sz)
def aqm(σ:Srt)(sz:Nat):ah:=.region [⟨D 110,.mov (R 12),none⟩,⟨D 111,.bin .add (R 110) (.k (.c (.f (.int .i64 1)))),none⟩,⟨D 12,.mov (R 111),none⟩] []
def aqu(σ:Srt)(sz:Nat):ah:=.seq (aqt σ sz) (aqm σ sz)
def aqy(σ:Srt)(sz:Nat):ah:=.seq (aqx σ sz) (aqu σ sz)
def aqz(σ:Srt)(sz:Nat):ah:=.loop (aqy σ sz)
def Qo(σ:Srt)(sz:Nat):ah:=.block 6 (aqz σ sz)
def aqB(σ:Srt)(sz:Nat):ah:=.seq (aqA σ sz) (Qo σ sz)
def aqC(σ:Srt)(sz:Nat):ah:=.cond (R 104) (aqB σ sz) .skip
def Qp(σ:Srt)(sz:Nat):ah:=.seq (aqD σ sz) (aqC σ sz)
def aqW(σ:Srt)(sz:Nat):ah:=.seq (aqV σ sz) (Qp σ sz)
def aqY(σ:Srt)(sz:Nat):ah:=.seq (aqX σ sz) (aqW σ sz)
def aq4(σ:Srt)(sz:Nat):ah:=.seq (aq3 σ sz) (aqY σ sz)
def ara(σ:Srt)(sz:Nat):ah:=.seq (aq9 σ sz) (aq4 σ sz)
def arl(σ:Srt)(sz:Nat):ah:=.seq (Qr σ sz) (ara σ sz)
def arn(σ:Srt)(sz:Nat):ah:=.block 1 (arl σ sz)
def Gz(σ:Srt)(sz:Nat):ah:=.region [⟨D 17,.mov (R 10),none⟩,⟨D 18,.bin .add (R 17) (.k (.c (.f (.int .i64 1)))),none⟩,⟨D 10,.mov (R 18),none⟩] []
def aro(σ:Srt)(sz:Nat):ah:=.seq (arn σ sz) (Gz σ sz)
def Np(σ:Srt)(sz:Nat):ah:=.seq (ars σ sz) (aro σ sz)
def aHY(σ:Srt)(sz:Nat):ah:=.loop (Np σ sz)
def aHZ(σ:Srt)(sz:Nat):ah:=.block 0 (aHY σ sz)
def aH1(σ:Srt)(sz:Nat):ah:=.seq (aH0 σ sz) (aHZ σ sz)
def aql(σ:Srt)(sz:Nat):ah:=.region [⟨D 8,.mov (.k (.c (.f (.bool false)))),none⟩] []
def zl(σ:Srt)(sz:Nat):ah:=.seq (aql σ sz) .ret
def aH2(σ:Srt)(sz:Nat):ah:=.seq (aH1 σ sz) (zl σ sz)
def aH4(σ:Srt)(sz:Nat):ah:=.seq (aH3 σ sz) (aH2 σ sz)
def aH6(σ:Srt)(sz:Nat):ah:=.seq (aH5 σ sz) (aH4 σ sz)
def Gy(σ:Srt)(sz:Nat):AFunc:=⟨[P.nat 0,P.nat 1,P.nat 2,P.nat 3],[.tmp (P.nat 8)],(aH6 σ sz)⟩
def aKm(σ:Srt)(sz:Nat):ah:=.region [⟨D 8,.mov (.k (.c (.f (.int .i64 0)))),none⟩] []
def aKk(σ:Srt)(sz:Nat):ah:=.region [⟨D 9,.mov (R 0),none⟩,⟨D 10,.mov (R 1),none⟩,⟨D 11,.bin .sub (R 10) (.k (.c (.f (.int .i64 1)))),none⟩,⟨D 12,.mov (R 1),none⟩,⟨D 13,.mov (R 1),none⟩,⟨D 14,.bin .add (R 13) (.k (.c (.f (.int .i64 1)))),none⟩,⟨D 15,.mov (R 2),none⟩,⟨D 16,.mov (R 3),none⟩,⟨D 17,.call σ.med [(R 9),(R 11),(R 12),(R 14),(R 15),(R 16)] true,none⟩,⟨D 8,.mov (R 17),none⟩] []
def aKl(σ:Srt)(sz:Nat):ah:=.seq (aKk σ sz) .ret
def aKn(σ:Srt)(sz:Nat):ah:=.seq (aKm σ sz) (aKl σ sz)
def BL(σ:Srt)(sz:Nat):AFunc:=⟨[P.nat 0,P.nat 1,P.nat 2,P.nat 3],[.tmp (P.nat 8)],(aKn σ sz)⟩
def aQE(σ:Srt)(sz:Nat):ah:=.region [⟨D 12,.mov (.k (.c (.f (.int .i64 0)))),none⟩] []
def aQC(σ:Srt)(sz:Nat):ah:=.region [⟨D 14,.mov (R 0),none⟩,⟨D 15,.mov (R 1),none⟩,⟨D 16,.mov (R 2),none⟩,⟨D 17,.mov (R 4),none⟩,⟨D 18,.mov (R 5),none⟩,⟨D 19,.call σ.ord [(R 14),(R 15),(R 16),(R 17),(R 18)] true,none⟩,⟨D 13,.mov (R 19),none⟩,⟨D 20,.extract (R 13) 0,none⟩,⟨D 21,.extract (R 13) 1,none⟩,⟨D 1,.mov (R 20),none⟩,⟨D 2,.mov (R 21),none⟩] []
def aQA(σ:Srt)(sz:Nat):ah:=.region [⟨D 23,.mov (R 0),none⟩,⟨D 24,.mov (R 2),none⟩,⟨D 25,.mov (R 3),none⟩,⟨D 26,.mov (R 4),none⟩,⟨D 27,.mov (R 5),none⟩,⟨D 28,.call σ.ord [(R 23),(R 24),(R 25),(R 26),(R 27)] true,none⟩,⟨D 22,.mov (R 28),none⟩,⟨D 29,.extract (R 22) 0,none⟩,⟨D 30,.extract (R 22) 1,none⟩,⟨D 2,.mov (R 29),none⟩,⟨D 3,.mov (R 30),none⟩] []
def aQy(σ:Srt)(sz:Nat):ah:=.region [⟨D 32,.mov (R 0),none⟩,⟨D 33,.mov (R 1),none⟩,⟨D 34,.mov (R 2),none⟩,⟨D 35,.mov (R 4),none⟩,⟨D 36,.mov (R 5),none⟩,⟨D 37,.call σ.ord [(R 32),(R 33),(R 34),(R 35),(R 36)] true,none⟩,⟨D 31,.mov (R 37),none⟩,⟨D 38,.extract (R 31) 0,none⟩,⟨D 39,.extract (R 31) 1,none⟩,⟨D 1,.mov (R 38),none⟩,⟨D 2,.mov (R 39),none⟩] []
def aQw(σ:Srt)(sz:Nat):ah:=.region [⟨D 40,.mov (R 2),none⟩,⟨D 12,.mov (R 40),none⟩] []
def aQx(σ:Srt)(sz:Nat):ah:=.seq (aQw σ sz) .ret
def aQz(σ:Srt)(sz:Nat):ah:=.seq (aQy σ sz) (aQx σ sz)
def aQB(σ:Srt)(sz:Nat):ah:=.seq (aQA σ sz) (aQz σ sz)
def aQD(σ:Srt)(sz:Nat):ah:=.seq (aQC σ sz) (aQB σ sz)
def aQF(σ:Srt)(sz:Nat):ah:=.seq (aQE σ sz) (aQD σ sz)
def ET(σ:Srt)(sz:Nat):AFunc:=⟨[P.nat 0,P.nat 1,P.nat 2,P.nat 3,P.nat 4,P.nat 5],[.tmp (P.nat 12)],(aQF σ sz)⟩
def aP3(σ:Srt)(sz:Nat):ah:=.region [⟨D 10,.mov (.k (.c (.f (.int .i64 0)))),none⟩,⟨D 11,.mov (.k (.c (.f (.int .i64 0)))),none⟩] []
def aP0(σ:Srt)(sz:Nat):ah:=.region [⟨D 12,.mov (R 4),none⟩,⟨D 13,.mov (R 0),none⟩,⟨D 14,.mov (R 2),none⟩,⟨D 15,.aF sz none (R 13) (R 14),none⟩,⟨D 16,.load (some sz) (R 15),none⟩,⟨D 17,.mov (R 0),none⟩,⟨D 18,.mov (R 1),none⟩,⟨D 19,.aF sz none (R 17) (R 18),none⟩,⟨D 20,.load (some sz) (R 19),none⟩,⟨D 21,.bU (R 12) [(R 16),(R 20)] true,none⟩,⟨D 22,.bin .lss (R 21) (.k (.c (.f (.int .i64 0)))),none⟩] []
def aPX(σ:Srt)(sz:Nat):ah:=.region [⟨D 23,.mov (R 3),none⟩,⟨D 24,.bF (R 23),none⟩,⟨D 25,.load none (R 24),none⟩,⟨D 26,.bin .add (R 25) (.k (.c (.f (.int .i64 1)))),none⟩,⟨D 27,.bF (R 23),none⟩,⟨none,.store 1 (R 27) (R 26),none⟩] []
def aPV(σ:Srt)(sz:Nat):ah:=.region [⟨D 28,.mov (R 2),none⟩,⟨D 29,.mov (R 1),none⟩,⟨D 10,.mov (R 28),none⟩,⟨D 11,.mov (R 29),none⟩] []
def aPW(σ:Srt)(sz:Nat):ah:=.seq (aPV σ sz) .ret
def aPY(σ:Srt)(sz:Nat):ah:=.seq (aPX σ sz) (aPW σ sz)
def aPZ(σ:Srt)(sz:Nat):ah:=.cond (R 22) (aPY σ sz) .skip
def aP1(σ:Srt)(sz:Nat):ah:=.seq (aP0 σ sz) (aPZ σ sz)
def aJ4(σ:Srt)(sz:Nat):ah:=.region [⟨D 30,.mov (R 1),none⟩,⟨D 31,.mov (R 2),none⟩,⟨D 10,.mov (R 30),none⟩,⟨D 11,.mov (R 31),none⟩] []
def aJ5(σ:Srt)(sz:Nat):ah:=.seq (aJ4 σ sz) .ret
def aP2(σ:Srt)(sz:Nat):ah:=.seq (aP1 σ sz) (aJ5 σ sz)
def aP4(σ:Srt)(sz:Nat):ah:=.seq (aP3 σ sz) (aP2 σ sz)
def Bv(σ:Srt)(sz:Nat):AFunc:=⟨[P.nat 0,P.nat 1,P.nat 2,P.nat 3,P.nat 4],[.tmp (P.nat 10),.tmp (P.nat 11)],(aP4 σ sz)⟩
def aQr(σ:Srt)(sz:Nat):ah:=.region [⟨D 2,.mov (.k (.c (.f (.int .u64 0)))),none⟩] []
def aQp(σ:Srt)(sz:Nat):ah:=.region [⟨D 3,.mov (R 0),none⟩,⟨D 4,.cvi .u64 (R 3),none⟩,⟨D 5,.call σ.len [(R 4)] false,none⟩,⟨D 6,.bin .shl (.k (.c (.f (.int .u64 1)))) (R 5),none⟩,⟨D 2,.mov (R 6),none⟩] []
def aQq(σ:Srt)(sz:Nat):ah:=.seq (aQp σ sz) .ret
def aQs(σ:Srt)(sz:Nat):ah:=.seq (aQr σ sz) (aQq σ sz)
def QE(σ:Srt)(sz:Nat):AFunc:=⟨[P.nat 0],[.tmp (P.nat 2)],(aQs σ sz)⟩
def aQn(σ:Srt)(sz:Nat):ah:=.region [⟨D 2,.mov (.k (.c (.f (.int .u64 0)))),none⟩] []
def aQl(σ:Srt)(sz:Nat):ah:=.region [⟨D 3,.mov (R 0),none⟩,⟨D 4,.bF (R 3),none⟩,⟨D 5,.load none (R 4),none⟩,⟨D 6,.mov (R 0),none⟩,⟨D 7,.bF (R 6),none⟩,⟨D 8,.load none (R 7),none⟩,⟨D 9,.bin .shl (R 8) (.k (.c (.f (.int .u64 13)))),none⟩,⟨D 10,.bin .xor (R 5) (R 9),none⟩,⟨D 11,.bF (R 3),none⟩,⟨none,.store 1 (R 11) (R 10),none⟩] []
def aQj(σ:Srt)(sz:Nat):ah:=.region [⟨D 12,.mov (R 0),none⟩,⟨D 13,.bF (R 12),none⟩,⟨D 14,.load none (R 13),none⟩,⟨D 15,.mov (R 0),none⟩,⟨D 16,.bF (R 15),none⟩,⟨D 17,.load none (R 16),none⟩,⟨D 18,.bin .shr (R 17) (.k (.c (.f (.int .u64 7)))),none⟩,⟨D 19,.bin .xor (R 14) (R 18),none⟩,⟨D 20,.bF (R 12),none⟩,⟨none,.store 1 (R 20) (R 19),none⟩] []
def aQh(σ:Srt)(sz:Nat):ah:=.region [⟨D 21,.mov (R 0),none⟩,⟨D 22,.bF (R 21),none⟩,⟨D 23,.load none (R 22),none⟩,⟨D 24,.mov (R 0),none⟩,⟨D 25,.bF (R 24),none⟩,⟨D 26,.load none (R 25),none⟩,⟨D 27,.bin .shl (R 26) (.k (.c (.f (.int .u64 17)))),none⟩,⟨D 28,.bin .xor (R 23) (R 27),none⟩,⟨D 29,.bF (R 21),none⟩,⟨none,.store 1 (R 29) (R 28),none⟩] []
def aQf(σ:Srt)(sz:Nat):ah:=.region [⟨D 30,.mov (R 0),none⟩,⟨D 31,.bF (R 30),none⟩,⟨D 32,.load none (R 31),none⟩,⟨D 2,.mov (R 32),none⟩] []
def aQg(σ:Srt)(sz:Nat):ah:=.seq (aQf σ sz) .ret
def aQi(σ:Srt)(sz:Nat):ah:=.seq (aQh σ sz) (aQg σ sz)
def aQk(σ:Srt)(sz:Nat):ah:=.seq (aQj σ sz) (aQi σ sz)
def aQm(σ:Srt)(sz:Nat):ah:=.seq (aQl σ sz) (aQk σ sz)
def aQo(σ:Srt)(sz:Nat):ah:=.seq (aQn σ sz) (aQm σ sz)
def QD(σ:Srt)(sz:Nat):AFunc:=⟨[P.nat 0],[.tmp (P.nat 2)],(aQo σ sz)⟩
end Km
end
section
namespace Km
open Go
def Cv(tab:Nat→Option AFunc)(cv:V)(W:List FC→Prop)(c:List FC→List FC→Int):Prop:=
 ∀ x y,W x→W y→∀ H,∃ F ar J,dB cv [.a (x.map .f),.a (y.map .f)]=some (.fn F,ar)∧Ev tab (.fn F) ar H (vi (c x y)) (H++J)
section
variable{W:List FC→Prop}{c:List FC→List FC→Int}{l:List (List FC)}
theorem LeI.of_lt{i j:Nat}(hc:Cmp W c)(hW:∀ r ∈ l,W r){x y:List FC}(hx:l[i]?=some x)(hy:l[j]?=some y)(h:c x y<0):LeI c l i j:=fun x' y' h1 h2=>by
 rw [hx]at h1;rw [hy]at h2;cases h1;cases h2
 exact hc.asym (hW _ (List.mem_of_getElem? hx)) (hW _ (List.mem_of_getElem? hy)) h
theorem LeI.of_le{i j:Nat}{x y:List FC}(hx:l[i]?=some x)(hy:l[j]?=some y)(h:¬ c y x<0):LeI c l i j:=fun x' y' h1 h2=>by
 rw [hx]at h1;rw [hy]at h2;cases h1;cases h2;exact h
theorem LeI.get{l':List (List FC)}{i j i' j':Nat}(h:LeI c l i j)(h1:l'[i']?=l[i]?)(h2:l'[j']?=l[j]?):LeI c l' i' j':=fun x y hx hy=>h x y (by rw [←h1];exact hx) (by rw [←h2];exact hy)
def Ins(c:List FC→List FC→Int)(a i j:Nat)(l:List (List FC)):Prop:=∀ p q,a≤p→p<q→q≤i→q≠j→LeI c l p q
theorem Ins.start{a i:Nat}(h:Up c a i l):Ins c a i i l:=fun p q h1 h2 h3 h4=>fun x y=>h p q x y h1 h2 (by omega)
theorem Ins.step{a i j:Nat}(hc:Cmp W c)(hW:∀ r ∈ l,W r)(h:Ins c a i (j+1) l)(ha:a≤j)(hj:j+1≤i)(hi:i<l.length){x y:List FC}(hx:l[j+1]?=some x)(hy:l[j]?=some y)(hlt:c x y<0):Ins c a i j (swp l (j+1) j):=by
 intro p q h1 h2 h3 h4
 have g:∀ k,(swp l (j+1) j)[k]?=if k=j then l[j+1]? else if k=j+1 then l[j]? else l[k]?:=fun k=>swp_get (by omega) (by omega) k
 by_cases q1:q=j+1
 ·subst q1
  by_cases p1:p=j
  ·subst p1
   exact(LeI.of_lt hc hW hx hy hlt).get (by rw [g,if_pos rfl]) (by rw [g,if_neg (by omega),if_pos rfl])
  ·exact(h p j h1 (by omega) (by omega) (by omega)).get (by rw [g,if_neg (by omega),if_neg (by omega)]) (by rw [g,if_neg (by omega),if_pos rfl])
 ·have gq:(swp l (j+1) j)[q]?=l[q]?:=by rw [g,if_neg h4,if_neg q1]
  by_cases p1:p=j
  ·subst p1
   exact(h (p+1) q (by omega) (by omega) h3 q1).get (by rw [g,if_pos rfl]) gq
  by_cases p2:p=j+1
  ·subst p2
   exact(h j q ha (by omega) h3 q1).get (by rw [g,if_neg (by omega),if_pos rfl]) gq
  ·exact(h p q h1 h2 h3 q1).get (by rw [g,if_neg p1,if_neg p2]) gq
theorem Ins.front{a i:Nat}(h:Ins c a i a l):Up c a (i+1) l:=fun p q x y h1 h2 h3=>h p q h1 h2 (by omega) (by omega) x y
theorem Ins.stop{a i j:Nat}(hc:Cmp W c)(hW:∀ r ∈ l,W r)(h:Ins c a i (j+1) l)(ha:a≤j)(hj:j+1≤i)(hi:i<l.length)(hle:LeI c l j (j+1)):Up c a (i+1) l:=by
 intro p q x y h1 h2 h3
 by_cases q1:q=j+1
 ·subst q1
  by_cases p1:p=j
  ·subst p1;exact hle x y
  ·exact((h p j h1 (by omega) (by omega) (by omega)).trans hc hW hle (by omega)) x y
 ·exact h p q h1 h2 (by omega) q1 x y
end
section
variable{tab:Nat→Option AFunc}{σ:Srt}{sz:Nat}{H:Heap}{b ep:Nat}{rows:List (List FC)}{cv:V}{W:List FC→Prop}{c:List FC→List FC→Int}
theorem RB.at(h:RB H b sz ep rows){i:Nat}(hi:i<rows.length):bC H sz none (.c (.sl b 0 rows.length 0 ep sz)) (vi i)=some (.c (.ptr b (i*sz) ep)):=by
 have:=h.idx (n:=rows.length) (c:=0) (k:=.i64) (o:=0) (i:=(i:Int)) (by omega) (by omega)
 rwa [Int.toNat_natCast,Nat.zero_add]at this
theorem RB.ldi(h:RB H b sz ep rows)(hg:Grid sz rows){i:Nat}(hi:i<rows.length):ldV H (some sz) (.c (.ptr b (i*sz) ep))=some (.a (rows[i].map .f)):=h.ldr hg (List.getElem?_eq_getElem hi)
theorem aKs(hT:tab σ.ins=some (EZ σ sz))(hcv:Cv tab cv W c)(hc:Cmp W c){n a e:Nat}(hn:rows.length=n)(hl:n≤1000000000)(hrb:RB H b sz ep rows)(hg:Grid sz rows)(hW:∀ r ∈ rows,W r)(hae:a≤e)(hen:e≤n) :
  ∃ r H',Ev tab (.fn σ.ins) [.c (.sl b 0 n 0 ep sz),vi a,vi e,cv] H r H'∧(r=.t []∧Fm b H H'∧∃ l',RB H' b sz ep l'∧Seg a e rows l'∧Up c a e l'):=by
 refine gW hT rfl fun Q hQ=>?_
 refine ak (aj (.inl rfl) ?_)
 simp [wrap64 (n:=(a:Int)+1) (by omega) (by omega)]
 refine aP ?_
 refine dA (fun m s=>∃(i:Nat) (t:T) (H1:Heap) (l:List (List FC)),s=⟨t,[],H1⟩∧m=n+1-i∧a+1≤i∧(i≤e∨i=a+1)∧t.g 0=.c (.sl b 0 n 0 ep sz)∧t.g 1=vi a∧t.g 2=vi e∧t.g 3=cv∧t.g 8=vi i ∧
  Fm b H H1∧RB H1 b sz ep l∧Seg a e rows l∧Up c a i l) _
  ⟨a+1,_,H,rows,rfl,rfl,by omega,.inr rfl,by simp,by simp,by simp,by simp,by simp,Fm.refl H,hrb,Seg.refl _ _ _,Up.one (by omega)⟩ ?_
 rintro m s ⟨i,t,H1,l,rfl,rfl,hi1,hi,g0,g1,g2,g3,g8,hfr,hrb,hseg,hup⟩ ih
 have hlen:=hseg.len
 refine ak ?_
 refine ak (aj (.inl rfl) ?_)
 simp [g8,g2]
 by_cases hlt:i<e
 case neg=>
  refine aA (by simp [hlt]) ?_
  refine bM (k':=[]) rfl ?_
  exact jF (hQ _ _ _ rfl rfl ⟨rfl,hfr,l,hrb,hseg,hup.mono (Nat.le_refl _) (by omega)⟩)
 refine aC (by simp [hlt]) (aK ?_)
 refine ak ?_
 refine aP ?_
 refine ak (aj (.inl rfl) ?_)
 simp [g8]
 refine aP ?_
 refine dA (fun m s=>∃(j:Nat) (t:T) (H2:Heap) (l2:List (List FC)),s=⟨t,[],H2⟩∧j=m∧a≤j∧j≤i∧t.g 0=.c (.sl b 0 n 0 ep sz)∧t.g 1=vi a∧t.g 2=vi e∧t.g 3=cv∧t.g 8=vi i∧t.g 9=vi j ∧
  Fm b H H2∧RB H2 b sz ep l2∧Seg a e rows l2∧Ins c a i j l2) i
  ⟨i,_,H1,l,rfl,rfl,by omega,by omega,by simp [g0],by simp [g1],by simp [g2],by simp [g3],by simp [g8],by simp,hfr,hrb,hseg,Ins.start hup⟩ ?_
 rintro m s ⟨j,t,H2,l2,rfl,rfl,hja,hji,g0,g1,g2,g3,g8,g9,hfr,hrb,hseg,hins⟩ ih2
 have hlen:=hseg.len
 have hg2:=hseg.grid hg
 have hW2:∀ r ∈ l2,W r:=fun r hr=>hW r (hseg.1.mem_iff.1 hr)
 have stop:Up c a (i+1) l2→∀ t:T,t.g 0=.c (.sl b 0 n 0 ep sz)→t.g 1=vi a→t.g 2=vi e→t.g 3=cv→t.g 8=vi i→∀ H3,Fm b H H3→RB H3 b sz ep l2 →
   WP tab σ.ins none [.inBlock 1,.code (G7 σ sz),.inLoop (QT σ sz),.inBlock 0] ⟨t,[],H3⟩ Q:=by
  intro hp t g0 g1 g2 g3 g8 H3 hfr hrb
  refine aN (aj (.inl rfl) ?_)
  simp [g8,wrap64 (n:=(i:Int)+1) (by omega) (by omega)]
  exact ih (n+1-(i+1)) _ (by omega) ⟨i+1,_,H3,l2,rfl,rfl,by omega,.inl (by omega),by simp [g0],by simp [g1],by simp [g2],by simp [g3],by simp,hfr,hrb,hseg,hp⟩
 refine ak ?_
 refine ak (aj (.inl rfl) ?_)
 by_cases hj:j=a
 ·subst hj
  simp [g9,g1]
  refine aA (by simp) ?_
  refine bM (k':=[.inBlock 1,.code (G7 σ sz),.inLoop (QT σ sz),.inBlock 0]) rfl ?_
  exact stop hins.front _ (by simp [g0]) (by simp [g1]) (by simp [g2]) (by simp [g3]) (by simp [g8]) _ hfr hrb
 obtain⟨k,rfl⟩:∃ k,j=k+1:=⟨j-1,by omega⟩
 have k1:k+1<l2.length:=by omega
 have c1:((k+1:Nat):Int)=(k:Int)+1:=by omega
 have i1:=hrb.at k1
 have i0:=hrb.at (show k<l2.length by omega)
 have l1:=hrb.ldi hg2 k1
 have l0:=hrb.ldi hg2 (show k<l2.length by omega)
 rw [hlen,hn]at i1 i0
 rw [c1]at i1 g9
 obtain⟨F,ar,J,jH,hev⟩:=hcv l2[k+1] l2[k] (hW2 _ (List.getElem_mem _)) (hW2 _ (List.getElem_mem _)) H2
 have he:=hev.eq
 have gt:(a:Int)<(k:Int)+1:=by omega
 simp [g9,g0,g1,g3,gt,i1,i0,l1,l0,jH,he,-bT,wrap64 (n:=(k:Int)) (by omega) (by omega)]
 by_cases hlt2:c l2[k+1] l2[k]<0
 case neg=>
  refine aA (by simp [hlt2]) ?_
  refine bM (k':=[.inBlock 1,.code (G7 σ sz),.inLoop (QT σ sz),.inBlock 0]) rfl ?_
  exact stop (hins.stop hc hW2 (by omega) hji (by omega) (LeI.of_le (List.getElem?_eq_getElem (by omega)) (List.getElem?_eq_getElem k1) hlt2)) _ (by simp [g0]) (by simp [g1]) (by simp [g2]) (by simp [g3]) (by simp [g8]) _ (hfr.trans (Fm.push _ _)) (hrb.push _)
 refine aC (by simp [hlt2]) (aK ?_)
 have w1:l2[k+1].length=sz:=hg2 _ (List.getElem_mem _)
 have w0:l2[k].length=sz:=hg2 _ (List.getElem_mem _)
 have Un:=hrb.push J
 obtain⟨HJ,hHJ⟩:∃ HJ,HJ=H2++J:=⟨_,rfl⟩
 rw [←hHJ]at Un ⊢
 have aYw:Fm b H HJ:=by rw [hHJ];exact hfr.trans (Fm.push _ _)
 have i1:=Un.at k1
 have i0:=Un.at (show k<l2.length by omega)
 have l1:=Un.ldi hg2 k1
 have l0:=Un.ldi hg2 (show k<l2.length by omega)
 obtain⟨H3,H4,s1,r1,s2,r2,f2⟩:=Un.swap hg2 k1 (show k<l2.length by omega)
 have i2:=r1.at (show k<(l2.set (k+1) l2[k]).length by simp;omega)
 rw [List.length_set]at i2
 rw [hlen,hn]at i1 i0 i2
 rw [c1]at i1
 refine ak ?_
 refine aP ?_
 refine aj (.inl rfl) ?_
 simp [g9,g0,i1,i0,i2,l1,l0,s1,s2,w1,w0,-bT,-fG,wrap64 (n:=(k:Int)) (by omega) (by omega)]
 refine aN ?_
 refine aj (.inl rfl) ?_
 simp [g9,wrap64 (n:=(k:Int)) (by omega) (by omega)]
 exact ih2 k _ (by omega) ⟨k,_,H4,swp l2 (k+1) k,rfl,rfl,by omega,by omega,by simp [g0],by simp [g1],by simp [g2],by simp [g3],by simp [g8],by simp,aYw.trans f2,r2,
  hseg.trans (iV (by omega) (by omega) (by omega) (by omega) (by omega)),hins.step hc hW2 (by omega) hji (by omega) (List.getElem?_eq_getElem k1) (List.getElem?_eq_getElem (by omega)) hlt2⟩
end
end Km
end
section
namespace Km
open Go
section
variable{tab:Nat→Option AFunc}{σ:Srt}{sz:Nat}{H:Heap}{b ep:Nat}{rows:List (List FC)}{cv:V}{W:List FC→Prop}{c:List FC→List FC→Int}
theorem RB.swp(h:RB H b sz ep rows)(hg:Grid sz rows){n i j:Nat}(hn:rows.length=n)(hi:i<n)(hj:j<n):∃(x y:List FC) (H1 H2:Heap),rows[i]?=some x∧rows[j]?=some y ∧
  bC H sz none (.c (.sl b 0 n 0 ep sz)) (vi i)=some (.c (.ptr b (i*sz) ep))∧bC H sz none (.c (.sl b 0 n 0 ep sz)) (vi j)=some (.c (.ptr b (j*sz) ep)) ∧
  ldV H (some sz) (.c (.ptr b (i*sz) ep))=some (.a (x.map .f))∧ldV H (some sz) (.c (.ptr b (j*sz) ep))=some (.a (y.map .f))∧x.length=sz∧y.length=sz ∧
  stC H (.ptr b (i*sz) ep) (y.map .f)=some H1∧bC H1 sz none (.c (.sl b 0 n 0 ep sz)) (vi j)=some (.c (.ptr b (j*sz) ep))∧stC H1 (.ptr b (j*sz) ep) (x.map .f)=some H2∧RB H2 b sz ep (swp rows i j)∧Fm b H H2:=by
 subst hn
 obtain⟨H1,H2,s1,r1,s2,r2,f2⟩:=h.swap hg hi hj
 have i2:=r1.at (show j<(rows.set i rows[j]).length by simpa using hj)
 rw [List.length_set]at i2
 exact⟨rows[i],rows[j],H1,H2,List.getElem?_eq_getElem hi,List.getElem?_eq_getElem hj,h.at hi,h.at hj,h.ldi hg hi,h.ldi hg hj,hg _ (List.getElem_mem _),hg _ (List.getElem_mem _),s1,i2,s2,r2,f2⟩
theorem RB.ask(h:RB H b sz ep rows)(hg:Grid sz rows)(hcv:Cv tab cv W c)(hW:∀ r ∈ rows,W r){n i j:Nat}(hn:rows.length=n)(hi:i<n)(hj:j<n):∃(x y:List FC) (F:Nat) (ar:List V) (J:Heap),rows[i]?=some x∧rows[j]?=some y ∧
  bC H sz none (.c (.sl b 0 n 0 ep sz)) (vi i)=some (.c (.ptr b (i*sz) ep))∧bC H sz none (.c (.sl b 0 n 0 ep sz)) (vi j)=some (.c (.ptr b (j*sz) ep)) ∧
  ldV H (some sz) (.c (.ptr b (i*sz) ep))=some (.a (x.map .f))∧ldV H (some sz) (.c (.ptr b (j*sz) ep))=some (.a (y.map .f)) ∧
  dB cv [.a (x.map .f),.a (y.map .f)]=some (.fn F,ar)∧Ev tab (.fn F) ar H=E2 (vi (c x y)) (H++J)∧W x∧W y:=by
 subst hn
 obtain⟨F,ar,J,h1,h2⟩:=hcv rows[i] rows[j] (hW _ (List.getElem_mem _)) (hW _ (List.getElem_mem _)) H
 exact⟨rows[i],rows[j],F,ar,J,List.getElem?_eq_getElem hi,List.getElem?_eq_getElem hj,h.at hi,h.at hj,h.ldi hg hi,h.ldi hg hj,h1,h2.eq,hW _ (List.getElem_mem _),hW _ (List.getElem_mem _)⟩
theorem aG0(hT:tab σ.rev=some (Ql σ sz)){n a e:Nat}(hn:rows.length=n)(hl:n≤1000000000)(hrb:RB H b sz ep rows)(hg:Grid sz rows)(hae:a<e)(hen:e≤n) :
  ∃ r H',Ev tab (.fn σ.rev) [.c (.sl b 0 n 0 ep sz),vi a,vi e,cv] H r H'∧(r=.t []∧Fm b H H'∧∃ l',RB H' b sz ep l'∧Seg a e rows l'):=by
 refine gW hT rfl fun Q hQ=>?_
 obtain⟨d,rfl⟩:∃ d,e=d+1:=⟨e-1,by omega⟩
 refine ak (aj (.inl rfl) ?_)
 simp
 refine ak (aj (.inl rfl) ?_)
 simp [wrap64 (n:=(d:Int)) (by omega) (by omega)]
 refine aP ?_
 refine dA (fun m s=>∃(i j:Nat) (t:T) (H1:Heap) (l:List (List FC)),s=⟨t,[],H1⟩∧m=n+1-i∧a≤i∧j≤d∧i≤j+1∧t.g 0=.c (.sl b 0 n 0 ep sz)∧t.g 8=vi i∧t.g 9=vi j ∧
  Fm b H H1∧RB H1 b sz ep l∧Seg a (d+1) rows l) _
  ⟨a,d,_,H,rows,rfl,rfl,by omega,by omega,by omega,by simp,by simp,by simp,Fm.refl H,hrb,Seg.refl _ _ _⟩ ?_
 rintro m s ⟨i,j,t,H1,l,rfl,rfl,hi1,hj1,hij,g0,g8,g9,hfr,hrb,hseg⟩ ih
 have hlen:=hseg.len
 refine ak ?_
 refine ak (aj (.inl rfl) ?_)
 simp [g8,g9]
 by_cases hlt:i<j
 case neg=>
  refine aA (by simp [hlt]) ?_
  refine bM (k':=[]) rfl ?_
  exact jF (hQ _ _ _ rfl rfl ⟨rfl,hfr,l,hrb,hseg⟩)
 refine aC (by simp [hlt]) (aK ?_)
 obtain⟨x,y,H2,H3,-,-,i1,j1,l1,l2,w1,w2,s1,j2,s2,r2,f2⟩:=hrb.swp (hseg.grid hg) (hlen.trans hn) (i:=i) (j:=j) (by omega) (by omega)
 refine aP ?_
 refine ak (aj (.inl rfl) ?_)
 simp [g0,g8,g9,i1,j1,l1,l2,w1,w2,s1,j2,s2,-bT,-fG]
 refine ak (aj (.inl rfl) ?_)
 simp [g8,wrap64 (n:=(i:Int)+1) (by omega) (by omega)]
 refine aj (.inl rfl) ?_
 simp [g9,wrap64 (n:=(j:Int)-1) (by omega) (by omega)]
 refine aN ?_
 refine ih (n+1-(i+1)) _ (by omega) ⟨i+1,j-1,_,H3,swp l i j,rfl,rfl,by omega,by omega,by omega,by simp [g0],by simp,by simp;omega,hfr.trans f2,r2,hseg.trans (iV (by omega) (by omega) (by omega) (by omega) (by omega))⟩
def NB(H:Heap)(p:Nat):Prop:=∃ k:Int,H[p]?=some (.box [.f (fi k)] 0)
theorem NB.push{p:Nat}(h:NB H p)(J:Heap):NB (H++J) p:=by
 obtain⟨k,h⟩:=h
 exact⟨k,by rw [List.getElem?_append_left (aJ h)];exact h⟩
theorem aJ3(hT:tab σ.ord=some (Bv σ sz))(hcv:Cv tab cv W c){n p i j:Nat}(hn:rows.length=n)(hrb:RB H b sz ep rows)(hg:Grid sz rows)(hW:∀ r ∈ rows,W r)(hi:i<n)(hj:j<n)(hp:NB H p)(hpb:p≠b) :
  ∃ r H',Ev tab (.fn σ.ord) [.c (.sl b 0 n 0 ep sz),vi i,vi j,.c (.ptr p 0 0),cv] H r H'∧((r=.t [vi i,vi j]∨r=.t [vi j,vi i])∧Fm p H H'∧NB H' p):=by
 refine gW hT rfl fun Q hQ=>?_
 obtain⟨x,y,F,ar,J,-,-,i1,j1,l1,l2,jH,he,-,-⟩:=hrb.ask hg hcv hW hn hj hi
 obtain⟨k,hp'⟩:=hp.push J
 have hpl:=aJ hp'
 refine ak (aj (.inl rfl) ?_)
 simp
 refine ak ?_
 refine ak (aj (.inl rfl) ?_)
 simp [i1,j1,l1,l2,jH,he,-bT]
 by_cases hlt:c x y<0
 ·refine aC (by simp [hlt]) (ak (aj (.inl rfl) ?_))
  simp [hp']
  refine ak (aj (.inl rfl) ?_)
  simp
  refine aO (hQ _ _ (.t [vi j,vi i]) rfl (by simp [Km.results,bD]) ⟨.inr rfl,?_,?_⟩)
  ·exact(Fm.push _ _).trans (Fm.set _ _)
  ·exact⟨_,List.getElem?_set_self hpl⟩
 ·refine aA (by simp [hlt]) (aK (ak (aj (.inl rfl) ?_)))
  simp
  exact aO (hQ _ _ (.t [vi i,vi j]) rfl (by simp [Km.results,bD]) ⟨.inl rfl,Fm.push _ _,hp.push J⟩)
theorem Yy(hT:tab σ.med=some (ET σ sz))(hO:tab σ.ord=some (Bv σ sz))(hcv:Cv tab cv W c){n p i j k:Nat}(hn:rows.length=n)(hrb:RB H b sz ep rows)(hg:Grid sz rows)(hW:∀ r ∈ rows,W r)(hi:i<n)(hj:j<n)(hk:k<n)(hp:NB H p)(hpb:p≠b) :
  ∃ r H',Ev tab (.fn σ.med) [.c (.sl b 0 n 0 ep sz),vi i,vi j,vi k,.c (.ptr p 0 0),cv] H r H'∧((∃ q:Nat,r=vi q∧(q=i∨q=j∨q=k))∧Fm p H H'∧NB H' p):=by
 have key:∀ {H:Heap} {i j:Nat},RB H b sz ep rows→NB H p→i<n→j<n→∃(x y:Nat) (H':Heap),Ev tab (.fn σ.ord) [.c (.sl b 0 n 0 ep sz),vi i,vi j,.c (.ptr p 0 0),cv] H=E2 (.t [vi x,vi y]) H'∧(x=i∧y=j∨x=j∧y=i)∧Fm p H H'∧NB H' p:=by
  intro H i j hrb hp hi hj
  obtain⟨r,H',he,hr,hf,hb⟩:=aJ3 hO hcv hn hrb hg hW hi hj hp hpb
  rcases hr with rfl | rfl
  ·exact⟨i,j,H',he.eq,.inl ⟨rfl,rfl⟩,hf,hb⟩
  ·exact⟨j,i,H',he.eq,.inr ⟨rfl,rfl⟩,hf,hb⟩
 obtain⟨x1,y1,H1,e1,o1,f1,b1⟩:=key hrb hp hi hj
 have r1:RB H1 b sz ep rows:=f1.get hrb (Ne.symm hpb)
 obtain⟨x2,y2,H2,e2,o2,f2,b2⟩:=key r1 b1 (show y1<n by omega) hk
 have r2:RB H2 b sz ep rows:=f2.get r1 (Ne.symm hpb)
 obtain⟨x3,y3,H3,e3,o3,f3,b3⟩:=key r2 b2 (show x1<n by omega) (show x2<n by omega)
 refine gW hT rfl fun Q hQ=>?_
 refine ak (aj (.inl rfl) ?_)
 simp
 refine ak (aj (.inl rfl) ?_)
 simp [e1]
 refine ak (aj (.inl rfl) ?_)
 simp [e2]
 refine ak (aj (.inl rfl) ?_)
 simp [e3]
 refine ak (aj (.inl rfl) ?_)
 simp
 refine aO (hQ _ _ (vi y3) rfl (by simp [Km.results,bD]) ⟨⟨y3,rfl,by omega⟩,f1.trans (f2.trans f3),b3⟩)
theorem GU(hT:tab σ.BM=some (BL σ sz))(hM:tab σ.med=some (ET σ sz))(hO:tab σ.ord=some (Bv σ sz))(hcv:Cv tab cv W c){n p i:Nat}(hn:rows.length=n)(hl:n≤1000000000)(hrb:RB H b sz ep rows)(hg:Grid sz rows)(hW:∀ r ∈ rows,W r)(h0:0<i)(hi:i+1<n)(hp:NB H p)(hpb:p≠b) :
  ∃ r H',Ev tab (.fn σ.BM) [.c (.sl b 0 n 0 ep sz),vi i,.c (.ptr p 0 0),cv] H r H'∧((∃ q:Nat,r=vi q∧i≤q+1∧q≤i+1)∧Fm p H H'∧NB H' p):=by
 obtain⟨d,rfl⟩:∃ d,i=d+1:=⟨i-1,by omega⟩
 obtain⟨r,H',he,⟨q,rfl,hq⟩,hf,hb⟩:=Yy (i:=d) (j:=d+1) (k:=d+1+1) hM hO hcv hn hrb hg hW (by omega) (by omega) hi hp hpb
 refine gW hT rfl fun Q hQ=>?_
 have he:=he.eq
 simp at he
 refine ak (aj (.inl rfl) ?_)
 simp
 refine ak (aj (.inl rfl) ?_)
 simp [wrap64 (n:=(d:Int)) (by omega) (by omega),wrap64 (n:=(d:Int)+1+1) (by omega) (by omega),he]
 exact aO (hQ _ _ (vi q) rfl (by simp [Km.results,bD]) ⟨⟨q,rfl,by omega,by omega⟩,hf,hb⟩)
def Kp(H H':Heap):Prop:=H.length≤H'.length∧∀ b':Nat,b'<H.length→H'[b']?=H[b']?
theorem Kp.fm{b:Nat}{H H':Heap}(h:Kp H H'):Fm b H H':=⟨h.1,fun b' _ l=>h.2 b' l⟩
theorem Kp.push(H J:Heap):Kp H (H++J):=⟨by simp,fun b' l=>List.getElem?_append_left l⟩
theorem Kp.next{H H' H'':Heap}{p:Nat}(h:Kp H H')(hp:H.length≤p)(h':Fm p H' H''):Kp H H'':=⟨Nat.le_trans h.1 h'.1,fun b' l=>(h'.2 b' (by omega) (Nat.lt_of_lt_of_le l h.1)).trans (h.2 b' l)⟩
theorem Kp.rb{H H':Heap}{b sz ep:Nat}{rows:List (List FC)}(h:Kp H H')(hb:RB H b sz ep rows):RB H' b sz ep rows:=by
 unfold RB at *
 rw [h.2 b (aJ hb)];exact hb
theorem aqi{a b:Nat}(hb:0<b)(ha:a≤9223372036854775807):dN .quo (vi a) (vi b)=some (vi ((a / b:Nat):Int)):=by
 have h1:(a / b:Nat)≤a:=Nat.div_le_self a b
 obtain⟨q,hq⟩:∃ q,q=a / b:=⟨_,rfl⟩
 have h2:((a:Int) / b)=(q:Int):=by rw [hq];simp
 have h3:q≤a:=by rw [hq];exact h1
 rw [←hq,jA (by omega),Int.tdiv_eq_ediv_of_nonneg (by omega),h2,wrap64 (by omega) (by omega)]
theorem aHu(hT:tab σ.piv=some (Qn σ sz))(hA:tab σ.BM=some (BL σ sz))(hM:tab σ.med=some (ET σ sz))(hO:tab σ.ord=some (Bv σ sz))(hcv:Cv tab cv W c){n a e:Nat}(hn:rows.length=n)(hl:n≤1000000000)(hrb:RB H b sz ep rows)(hg:Grid sz rows)(hW:∀ r ∈ rows,W r)(hae:a+8≤e)(hen:e≤n) :
  ∃ r H',Ev tab (.fn σ.piv) [.c (.sl b 0 n 0 ep sz),vi a,vi e,cv] H r H'∧((∃(q:Nat) (h:Int),r=.t [vi q,vi h]∧a≤q∧q<e)∧Kp H H'):=by
 obtain⟨L,rfl⟩:∃ L,e=a+L:=⟨e-a,by omega⟩
 obtain⟨d,hd⟩:∃ d,d=L / 4:=⟨_,rfl⟩
 have hq:dN .quo (vi (L:Int)) (vi 4)=some (vi (d:Int)):=by
  have:=aqi (a:=L) (b:=4) (by omega) (by omega)
  rw [hd];exact this
 have hbl:=hrb.lt
 have hw:IntKind.i64.wrap ((a:Int)+L-a)=L:=by rw [wrap64 (by omega) (by omega)];omega
 refine gW hT rfl fun Q hQ=>?_
 have fin:∀(t:T) (H2:Heap) (q:Nat),t.g 11=.c (.ptr H.length 0 0)→t.g 13=vi q→a≤q→q<a+L→NB H2 H.length→Kp H H2→WP tab σ.piv none [.code (Nk σ sz)] ⟨t,[],H2⟩ Q:=by
  intro t H2 q g11 g13 h1 h2 ⟨k,hk⟩ hkp
  refine ak (aj (.inl rfl) ?_)
  simp [g11,hk]
  refine aP ?_
  refine ak (aj (.inl rfl) ?_)
  simp
  by_cases k1:k=0
  ·refine aC (by simp [k1]) (ak (aj (.inl rfl) ?_))
   simp [g13]
   exact aO (hQ _ _ (.t [vi q,vi 1]) rfl (by simp [Km.results,bD]) ⟨⟨q,1,rfl,h1,h2⟩,hkp⟩)
  refine aA (by simp [k1]) ?_
  refine ak (aj (.inl rfl) ?_)
  simp
  by_cases k2:k=12
  ·refine aC (by simp [k2]) (ak (aj (.inl rfl) ?_))
   simp [g13]
   exact aO (hQ _ _ (.t [vi q,vi 2]) rfl (by simp [Km.results,bD]) ⟨⟨q,2,rfl,h1,h2⟩,hkp⟩)
  refine aA (by simp [k2]) ?_
  refine ak (aj (.inl rfl) ?_)
  simp [g13]
  exact aO (hQ _ _ (.t [vi q,vi 0]) rfl (by simp [Km.results,bD]) ⟨⟨q,0,rfl,h1,h2⟩,hkp⟩)
 have mid:∀(t:T) (H2:Heap) (i j k:Nat),t.g 0=.c (.sl b 0 n 0 ep sz)→t.g 3=cv→t.g 11=.c (.ptr H.length 0 0)→t.g 12=vi i→t.g 13=vi j→t.g 14=vi k→a≤i→i<a+L→a≤j→j<a+L→a≤k→k<a+L→NB H2 H.length→Kp H H2 →
   WP tab σ.piv none [.code (Xw σ sz),.code (Nk σ sz)] ⟨t,[],H2⟩ Q:=by
  intro t H2 i j k g0 g3 g11 g12 g13 g14 i1 i2 j1 j2 k1 k2 hnb hkp
  obtain⟨r,H3,he,⟨q,rfl,hq⟩,hf,hb3⟩:=Yy (p:=H.length) (i:=i) (j:=j) (k:=k) hM hO hcv hn (hkp.rb hrb) hg hW (by omega) (by omega) (by omega) hnb (by omega)
  have he:=he.eq
  refine aj (.inl rfl) ?_
  simp [g0,g3,g11,g12,g13,g14,he]
  exact fin _ H3 q (by simp [g11]) (by simp) (by omega) (by omega) hb3 (hkp.next (Nat.le_refl _) hf)
 refine ak (aj (.inl rfl) ?_)
 simp
 refine ak (aj (.inl rfl) ?_)
 simp [hw]
 refine ak (aj (.inl rfl) ?_)
 simp
 refine ak (aj (.inl rfl) ?_)
 simp [hq,wrap64 (n:=(d:Int)) (by omega) (by omega),wrap64 (n:=(a:Int)+d) (by omega) (by omega)]
 refine ak (aj (.inl rfl) ?_)
 simp [hq,wrap64 (n:=(d:Int)*2) (by omega) (by omega),wrap64 (n:=(a:Int)+d*2) (by omega) (by omega)]
 refine ak (aj (.inl rfl) ?_)
 simp [hq,wrap64 (n:=(d:Int)*3) (by omega) (by omega),wrap64 (n:=(a:Int)+d*3) (by omega) (by omega)]
 refine ak ?_
 refine ak (aj (.inl rfl) ?_)
 simp
 refine aC (by simp;omega) ?_
 refine ak ?_
 refine ak (aj (.inl rfl) ?_)
 simp
 have hnb:NB (H++[.box [.f (fi 0)] 0]) H.length:=⟨0,by simp⟩
 have hkp:Kp H (H++[.box [.f (fi 0)] 0]):=Kp.push _ _
 by_cases h50:50≤L
 case neg=>
  refine aA (by simp;omega) (aK ?_)
  exact mid _ _ (a+d) (a+d*2) (a+d*3) (by simp) (by simp) (by simp) (by simp) (by simp) (by simp) (by omega) (by omega) (by omega) (by omega) (by omega) (by omega) hnb hkp
 refine aC (by simp;omega) ?_
 obtain⟨r1,H1,e1,⟨q1,rfl,hq1⟩,f1,b1⟩:=GU (p:=H.length) (i:=a+d) hA hM hO hcv hn hl (hkp.rb hrb) hg hW (by omega) (by omega) hnb (by omega)
 have kp1:=hkp.next (Nat.le_refl _) f1
 obtain⟨r2,H2,e2,⟨q2,rfl,hq2⟩,f2,b2⟩:=GU (p:=H.length) (i:=a+d*2) hA hM hO hcv hn hl (kp1.rb hrb) hg hW (by omega) (by omega) b1 (by omega)
 have kp2:=kp1.next (Nat.le_refl _) f2
 obtain⟨r3,H3,e3,⟨q3,rfl,hq3⟩,f3,b3⟩:=GU (p:=H.length) (i:=a+d*3) hA hM hO hcv hn hl (kp2.rb hrb) hg hW (by omega) (by omega) b2 (by omega)
 have kp3:=kp2.next (Nat.le_refl _) f3
 have e1:=e1.eq
 have e2:=e2.eq
 have e3:=e3.eq
 simp at e1 e2 e3
 refine ak (aj (.inl rfl) ?_)
 simp [e1]
 refine ak (aj (.inl rfl) ?_)
 simp [e2]
 refine aj (.inl rfl) ?_
 simp [e3]
 exact mid _ _ q1 q2 q3 (by simp) (by simp) (by simp) (by simp) (by simp) (by simp) (by omega) (by omega) (by omega) (by omega) (by omega) (by omega) b3 kp3
end
end Km
end
section
namespace Km
open Go
section
variable{tab:Nat→Option AFunc}{σ:Srt}{sz:Nat}{cv:V}{W:List FC→Prop}{c:List FC→List FC→Int}
theorem XH{n a e i j ep b:Nat}{rows:List (List FC)}{p:List FC}{H0:Heap}{k:List dR}{Q:Option ah→St→Prop}(hcv:Cv tab cv W c)(hn:rows.length=n)(hl:n≤1000000000)(hg:Grid sz rows)(hW:∀ r ∈ rows,W r)
  {t:T} {H:Heap} (hai:a<i) (hij:i≤j+1) (hje:j<e) (hen:e≤n) (hp:rows[a]?=some p)
  (g0:t.g 0=.c (.sl b 0 n 0 ep sz)) (g1:t.g 1=vi a) (g4:t.g 4=cv) (gi:t.g 12=vi i) (gj:t.g 13=vi j) (hfr:Fm b H0 H) (hrb:RB H b sz ep rows)
  (next:∀(t:T) (H:Heap) (i':Nat),(i≤i'∧i'≤j+1)→(∀(q:Nat) x,i≤q→q<i'→rows[q]?=some x→c x p<0)→(j<i'∨∀ x,rows[i']?=some x→¬ c x p<0) →
   t.g 0=.c (.sl b 0 n 0 ep sz)→t.g 1=vi a→t.g 4=cv→t.g 12=vi i'→t.g 13=vi j→Fm b H0 H→RB H b sz ep rows→WP tab σ.part none k ⟨t,[],H⟩ Q) :
  WP tab σ.part none (.code (XK σ sz)::k) ⟨t,[],H⟩ Q:=by
 refine aP ?_
 refine dA (fun m s=>∃(q:Nat) (t:T) (H1:Heap),s=⟨t,[],H1⟩∧(q+m=j+1∧i≤q)∧(∀(r:Nat) x,i≤r→r<q→rows[r]?=some x→c x p<0) ∧
   t.g 0=.c (.sl b 0 n 0 ep sz)∧t.g 1=vi a∧t.g 4=cv∧t.g 12=vi q∧t.g 13=vi j∧Fm b H0 H1∧RB H1 b sz ep rows) (j+1-i)
  ⟨i,_,H,rfl,by omega,fun r x h1 h2=>by omega,g0,g1,g4,gi,gj,hfr,hrb⟩ ?_
 rintro m s ⟨q,t,H1,rfl,hm,gU,g0,g1,g4,gi,gj,hfr,hrb⟩ ih
 refine ak ?_
 refine ak (aj (.inl rfl) ?_)
 by_cases hlt:q≤j
 case neg=>
  simp [gi,gj,hlt]
  refine aA (by simp) ?_
  refine bM (k':=k) rfl ?_
  exact next _ _ q (by omega) gU (.inl (by omega)) (by simp [g0]) (by simp [g1]) (by simp [g4]) (by simp [gi]) (by simp [gj]) hfr hrb
 obtain⟨x,y,F,ar,J,hx,hy,i1,j1,l1,l2,jH,he,-,-⟩:=hrb.ask hg hcv hW hn (i:=q) (j:=a) (by omega) (by omega)
 simp [gi,gj,hlt,g0,g1,g4,i1,j1,l1,l2,jH,he,-bT]
 have ep:p=y:=by rw [hp]at hy;exact Option.some.inj hy
 subst ep
 by_cases hc:c x p<0
 case neg=>
  refine aA (by simp [hc]) ?_
  refine bM (k':=k) rfl ?_
  refine next _ _ q (by omega) gU (.inr fun z hz=>?_) (by simp [g0]) (by simp [g1]) (by simp [g4]) (by simp [gi]) (by simp [gj]) (hfr.trans (Fm.push _ _)) (hrb.push _)
  rw [hx]at hz;cases hz;exact hc
 refine aC (by simp [hc]) (aK ?_)
 refine aP (aj (.inl rfl) ?_)
 simp [gi,gj,wrap64 (n:=(q:Int)+1) (by omega) (by omega)]
 refine aN (ih (m-1) _ (by omega) ⟨q+1,_,_,rfl,by omega,fun r z h1 h2 hz=>?_,by simp [g0],by simp [g1],by simp [g4],by simp,by simp [gj],hfr.trans (Fm.push _ _),hrb.push _⟩)
 by_cases hr:r=q
 ·subst hr;rw [hx]at hz;cases hz;exact hc
 ·exact gU r z (by omega) (by omega) hz
theorem XJ{n a e i j ep b:Nat}{rows:List (List FC)}{p:List FC}{H0:Heap}{k:List dR}{Q:Option ah→St→Prop}(hcv:Cv tab cv W c)(hn:rows.length=n)(hl:n≤1000000000)(hg:Grid sz rows)(hW:∀ r ∈ rows,W r)
  {t:T} {H:Heap} (hai:a<i) (hij:i≤j+1) (hje:j<e) (hen:e≤n) (hp:rows[a]?=some p)
  (g0:t.g 0=.c (.sl b 0 n 0 ep sz)) (g1:t.g 1=vi a) (g4:t.g 4=cv) (gi:t.g 12=vi i) (gj:t.g 13=vi j) (hfr:Fm b H0 H) (hrb:RB H b sz ep rows)
  (next:∀(t:T) (H:Heap) (j':Nat),(j'≤j∧i≤j'+1)→(∀(q:Nat) x,j'<q→q≤j→rows[q]?=some x→¬ c x p<0)→(j'<i∨∀ x,rows[j']?=some x→¬ ¬ c x p<0) →
   t.g 0=.c (.sl b 0 n 0 ep sz)→t.g 1=vi a→t.g 4=cv→t.g 12=vi i→t.g 13=vi j'→Fm b H0 H→RB H b sz ep rows→WP tab σ.part none k ⟨t,[],H⟩ Q) :
  WP tab σ.part none (.code (QB σ sz)::k) ⟨t,[],H⟩ Q:=by
 refine aP ?_
 refine dA (fun m s=>∃(q:Nat) (t:T) (H1:Heap),s=⟨t,[],H1⟩∧(q+1=i+m∧q≤j)∧(∀(r:Nat) x,q<r→r≤j→rows[r]?=some x→¬ c x p<0) ∧
   t.g 0=.c (.sl b 0 n 0 ep sz)∧t.g 1=vi a∧t.g 4=cv∧t.g 12=vi i∧t.g 13=vi q∧Fm b H0 H1∧RB H1 b sz ep rows) (j+1-i)
  ⟨j,_,H,rfl,by omega,fun r x h1 h2=>by omega,g0,g1,g4,gi,gj,hfr,hrb⟩ ?_
 rintro m s ⟨q,t,H1,rfl,hm,gU,g0,g1,g4,gi,gj,hfr,hrb⟩ ih
 refine ak ?_
 refine ak (aj (.inl rfl) ?_)
 by_cases hlt:i≤q
 case neg=>
  simp [gi,gj,hlt]
  refine aA (by simp) ?_
  refine bM (k':=k) rfl ?_
  exact next _ _ q (by omega) gU (.inl (by omega)) (by simp [g0]) (by simp [g1]) (by simp [g4]) (by simp [gi]) (by simp [gj]) hfr hrb
 obtain⟨x,y,F,ar,J,hx,hy,i1,j1,l1,l2,jH,he,-,-⟩:=hrb.ask hg hcv hW hn (i:=q) (j:=a) (by omega) (by omega)
 simp [gi,gj,hlt,g0,g1,g4,i1,j1,l1,l2,jH,he,-bT]
 have ep:p=y:=by rw [hp]at hy;exact Option.some.inj hy
 subst ep
 by_cases hc:c x p<0
 case pos=>
  refine aA (by simp [hc]) ?_
  refine bM (k':=k) rfl ?_
  refine next _ _ q (by omega) gU (.inr fun z hz=>?_) (by simp [g0]) (by simp [g1]) (by simp [g4]) (by simp [gi]) (by simp [gj]) (hfr.trans (Fm.push _ _)) (hrb.push _)
  rw [hx]at hz;cases hz;exact fun h=>h hc
 refine aC (by simp [hc]) (aK ?_)
 refine aP (aj (.inl rfl) ?_)
 simp [gi,gj,wrap64 (n:=(q:Int)-1) (by omega) (by omega)]
 refine aN (ih (m-1) _ (by omega) ⟨q-1,_,_,rfl,by omega,fun r z h1 h2 hz=>?_,by simp [g0],by simp [g1],by simp [g4],by simp [gi],by simp;omega,hfr.trans (Fm.push _ _),hrb.push _⟩)
 by_cases hr:r=q
 ·subst hr;rw [hx]at hz;cases hz;exact hc
 ·exact gU r z (by omega) (by omega) hz
theorem XG{n a e i j ep b:Nat}{rows:List (List FC)}{p:List FC}{H0:Heap}{k:List dR}{Q:Option ah→St→Prop}(hcv:Cv tab cv W c)(hn:rows.length=n)(hl:n≤1000000000)(hg:Grid sz rows)(hW:∀ r ∈ rows,W r)
  {t:T} {H:Heap} (hai:a<i) (hij:i≤j+1) (hje:j<e) (hen:e≤n) (hp:rows[a]?=some p)
  (g0:t.g 0=.c (.sl b 0 n 0 ep sz)) (g1:t.g 1=vi a) (g4:t.g 4=cv) (gi:t.g 12=vi i) (gj:t.g 13=vi j) (hfr:Fm b H0 H) (hrb:RB H b sz ep rows)
  (next:∀(t:T) (H:Heap) (i':Nat),(i≤i'∧i'≤j+1)→(∀(q:Nat) x,i≤q→q<i'→rows[q]?=some x→c x p<0)→(j<i'∨∀ x,rows[i']?=some x→¬ c x p<0) →
   t.g 0=.c (.sl b 0 n 0 ep sz)→t.g 1=vi a→t.g 4=cv→t.g 12=vi i'→t.g 13=vi j→Fm b H0 H→RB H b sz ep rows→WP tab σ.part none k ⟨t,[],H⟩ Q) :
  WP tab σ.part none (.code (QA σ sz)::k) ⟨t,[],H⟩ Q:=by
 refine aP ?_
 refine dA (fun m s=>∃(q:Nat) (t:T) (H1:Heap),s=⟨t,[],H1⟩∧(q+m=j+1∧i≤q)∧(∀(r:Nat) x,i≤r→r<q→rows[r]?=some x→c x p<0) ∧
   t.g 0=.c (.sl b 0 n 0 ep sz)∧t.g 1=vi a∧t.g 4=cv∧t.g 12=vi q∧t.g 13=vi j∧Fm b H0 H1∧RB H1 b sz ep rows) (j+1-i)
  ⟨i,_,H,rfl,by omega,fun r x h1 h2=>by omega,g0,g1,g4,gi,gj,hfr,hrb⟩ ?_
 rintro m s ⟨q,t,H1,rfl,hm,gU,g0,g1,g4,gi,gj,hfr,hrb⟩ ih
 refine ak ?_
 refine ak (aj (.inl rfl) ?_)
 by_cases hlt:q≤j
 case neg=>
  simp [gi,gj,hlt]
  refine aA (by simp) ?_
  refine bM (k':=k) rfl ?_
  exact next _ _ q (by omega) gU (.inl (by omega)) (by simp [g0]) (by simp [g1]) (by simp [g4]) (by simp [gi]) (by simp [gj]) hfr hrb
 obtain⟨x,y,F,ar,J,hx,hy,i1,j1,l1,l2,jH,he,-,-⟩:=hrb.ask hg hcv hW hn (i:=q) (j:=a) (by omega) (by omega)
 simp [gi,gj,hlt,g0,g1,g4,i1,j1,l1,l2,jH,he,-bT]
 have ep:p=y:=by rw [hp]at hy;exact Option.some.inj hy
 subst ep
 by_cases hc:c x p<0
 case neg=>
  refine aA (by simp [hc]) ?_
  refine bM (k':=k) rfl ?_
  refine next _ _ q (by omega) gU (.inr fun z hz=>?_) (by simp [g0]) (by simp [g1]) (by simp [g4]) (by simp [gi]) (by simp [gj]) (hfr.trans (Fm.push _ _)) (hrb.push _)
  rw [hx]at hz;cases hz;exact hc
 refine aC (by simp [hc]) (aK ?_)
 refine aP (aj (.inl rfl) ?_)
 simp [gi,gj,wrap64 (n:=(q:Int)+1) (by omega) (by omega)]
 refine aN (ih (m-1) _ (by omega) ⟨q+1,_,_,rfl,by omega,fun r z h1 h2 hz=>?_,by simp [g0],by simp [g1],by simp [g4],by simp,by simp [gj],hfr.trans (Fm.push _ _),hrb.push _⟩)
 by_cases hr:r=q
 ·subst hr;rw [hx]at hz;cases hz;exact hc
 ·exact gU r z (by omega) (by omega) hz
theorem XI{n a e i j ep b:Nat}{rows:List (List FC)}{p:List FC}{H0:Heap}{k:List dR}{Q:Option ah→St→Prop}(hcv:Cv tab cv W c)(hn:rows.length=n)(hl:n≤1000000000)(hg:Grid sz rows)(hW:∀ r ∈ rows,W r)
  {t:T} {H:Heap} (hai:a<i) (hij:i≤j+1) (hje:j<e) (hen:e≤n) (hp:rows[a]?=some p)
  (g0:t.g 0=.c (.sl b 0 n 0 ep sz)) (g1:t.g 1=vi a) (g4:t.g 4=cv) (gi:t.g 12=vi i) (gj:t.g 13=vi j) (hfr:Fm b H0 H) (hrb:RB H b sz ep rows)
  (next:∀(t:T) (H:Heap) (j':Nat),(j'≤j∧i≤j'+1)→(∀(q:Nat) x,j'<q→q≤j→rows[q]?=some x→¬ c x p<0)→(j'<i∨∀ x,rows[j']?=some x→¬ ¬ c x p<0) →
   t.g 0=.c (.sl b 0 n 0 ep sz)→t.g 1=vi a→t.g 4=cv→t.g 12=vi i→t.g 13=vi j'→Fm b H0 H→RB H b sz ep rows→WP tab σ.part none k ⟨t,[],H⟩ Q) :
  WP tab σ.part none (.code (Qz σ sz)::k) ⟨t,[],H⟩ Q:=by
 refine aP ?_
 refine dA (fun m s=>∃(q:Nat) (t:T) (H1:Heap),s=⟨t,[],H1⟩∧(q+1=i+m∧q≤j)∧(∀(r:Nat) x,q<r→r≤j→rows[r]?=some x→¬ c x p<0) ∧
   t.g 0=.c (.sl b 0 n 0 ep sz)∧t.g 1=vi a∧t.g 4=cv∧t.g 12=vi i∧t.g 13=vi q∧Fm b H0 H1∧RB H1 b sz ep rows) (j+1-i)
  ⟨j,_,H,rfl,by omega,fun r x h1 h2=>by omega,g0,g1,g4,gi,gj,hfr,hrb⟩ ?_
 rintro m s ⟨q,t,H1,rfl,hm,gU,g0,g1,g4,gi,gj,hfr,hrb⟩ ih
 refine ak ?_
 refine ak (aj (.inl rfl) ?_)
 by_cases hlt:i≤q
 case neg=>
  simp [gi,gj,hlt]
  refine aA (by simp) ?_
  refine bM (k':=k) rfl ?_
  exact next _ _ q (by omega) gU (.inl (by omega)) (by simp [g0]) (by simp [g1]) (by simp [g4]) (by simp [gi]) (by simp [gj]) hfr hrb
 obtain⟨x,y,F,ar,J,hx,hy,i1,j1,l1,l2,jH,he,-,-⟩:=hrb.ask hg hcv hW hn (i:=q) (j:=a) (by omega) (by omega)
 simp [gi,gj,hlt,g0,g1,g4,i1,j1,l1,l2,jH,he,-bT]
 have ep:p=y:=by rw [hp]at hy;exact Option.some.inj hy
 subst ep
 by_cases hc:c x p<0
 case pos=>
  refine aA (by simp [hc]) ?_
  refine bM (k':=k) rfl ?_
  refine next _ _ q (by omega) gU (.inr fun z hz=>?_) (by simp [g0]) (by simp [g1]) (by simp [g4]) (by simp [gi]) (by simp [gj]) (hfr.trans (Fm.push _ _)) (hrb.push _)
  rw [hx]at hz;cases hz;exact fun h=>h hc
 refine aC (by simp [hc]) (aK ?_)
 refine aP (aj (.inl rfl) ?_)
 simp [gi,gj,wrap64 (n:=(q:Int)-1) (by omega) (by omega)]
 refine aN (ih (m-1) _ (by omega) ⟨q-1,_,_,rfl,by omega,fun r z h1 h2 hz=>?_,by simp [g0],by simp [g1],by simp [g4],by simp [gi],by simp;omega,hfr.trans (Fm.push _ _),hrb.push _⟩)
 by_cases hr:r=q
 ·subst hr;rw [hx]at hz;cases hz;exact hc
 ·exact gU r z (by omega) (by omega) hz
theorem aH9{n a e i j ep b:Nat}{rows:List (List FC)}{p:List FC}{H0:Heap}{k:List dR}{Q:Option ah→St→Prop}(hcv:Cv tab cv W c)(hn:rows.length=n)(hl:n≤1000000000)(hg:Grid sz rows)(hW:∀ r ∈ rows,W r)
  {t:T} {H:Heap} (hai:a<i) (hij:i≤j+1) (hje:j<e) (hen:e≤n) (hp:rows[a]?=some p)
  (g0:t.g 0=.c (.sl b 0 n 0 ep sz)) (g1:t.g 1=vi a) (g4:t.g 4=cv) (gi:t.g 11=vi i) (gj:t.g 12=vi j) (hfr:Fm b H0 H) (hrb:RB H b sz ep rows)
  (next:∀(t:T) (H:Heap) (i':Nat),(i≤i'∧i'≤j+1)→(∀(q:Nat) x,i≤q→q<i'→rows[q]?=some x→¬ c p x<0)→(j<i'∨∀ x,rows[i']?=some x→¬ ¬ c p x<0) →
   t.g 0=.c (.sl b 0 n 0 ep sz)→t.g 1=vi a→t.g 4=cv→t.g 11=vi i'→t.g 12=vi j→Fm b H0 H→RB H b sz ep rows→WP tab σ.peq none k ⟨t,[],H⟩ Q) :
  WP tab σ.peq none (.code (XA σ sz)::k) ⟨t,[],H⟩ Q:=by
 refine aP ?_
 refine dA (fun m s=>∃(q:Nat) (t:T) (H1:Heap),s=⟨t,[],H1⟩∧(q+m=j+1∧i≤q)∧(∀(r:Nat) x,i≤r→r<q→rows[r]?=some x→¬ c p x<0) ∧
   t.g 0=.c (.sl b 0 n 0 ep sz)∧t.g 1=vi a∧t.g 4=cv∧t.g 11=vi q∧t.g 12=vi j∧Fm b H0 H1∧RB H1 b sz ep rows) (j+1-i)
  ⟨i,_,H,rfl,by omega,fun r x h1 h2=>by omega,g0,g1,g4,gi,gj,hfr,hrb⟩ ?_
 rintro m s ⟨q,t,H1,rfl,hm,gU,g0,g1,g4,gi,gj,hfr,hrb⟩ ih
 refine ak ?_
 refine ak (aj (.inl rfl) ?_)
 by_cases hlt:q≤j
 case neg=>
  simp [gi,gj,hlt]
  refine aA (by simp) ?_
  refine bM (k':=k) rfl ?_
  exact next _ _ q (by omega) gU (.inl (by omega)) (by simp [g0]) (by simp [g1]) (by simp [g4]) (by simp [gi]) (by simp [gj]) hfr hrb
 obtain⟨x,y,F,ar,J,hx,hy,i1,j1,l1,l2,jH,he,-,-⟩:=hrb.ask hg hcv hW hn (i:=a) (j:=q) (by omega) (by omega)
 simp [gi,gj,hlt,g0,g1,g4,i1,j1,l1,l2,jH,he,-bT]
 have ep:p=x:=by rw [hp]at hx;exact Option.some.inj hx
 subst ep
 by_cases hc:c p y<0
 case pos=>
  refine aA (by simp [hc]) ?_
  refine bM (k':=k) rfl ?_
  refine next _ _ q (by omega) gU (.inr fun z hz=>?_) (by simp [g0]) (by simp [g1]) (by simp [g4]) (by simp [gi]) (by simp [gj]) (hfr.trans (Fm.push _ _)) (hrb.push _)
  rw [hy]at hz;cases hz;exact fun h=>h hc
 refine aC (by simp [hc]) (aK ?_)
 refine aP (aj (.inl rfl) ?_)
 simp [gi,gj,wrap64 (n:=(q:Int)+1) (by omega) (by omega)]
 refine aN (ih (m-1) _ (by omega) ⟨q+1,_,_,rfl,by omega,fun r z h1 h2 hz=>?_,by simp [g0],by simp [g1],by simp [g4],by simp,by simp [gj],hfr.trans (Fm.push _ _),hrb.push _⟩)
 by_cases hr:r=q
 ·subst hr;rw [hy]at hz;cases hz;exact hc
 ·exact gU r z (by omega) (by omega) hz
theorem aIb{n a e i j ep b:Nat}{rows:List (List FC)}{p:List FC}{H0:Heap}{k:List dR}{Q:Option ah→St→Prop}(hcv:Cv tab cv W c)(hn:rows.length=n)(hl:n≤1000000000)(hg:Grid sz rows)(hW:∀ r ∈ rows,W r)
  {t:T} {H:Heap} (hai:a<i) (hij:i≤j+1) (hje:j<e) (hen:e≤n) (hp:rows[a]?=some p)
  (g0:t.g 0=.c (.sl b 0 n 0 ep sz)) (g1:t.g 1=vi a) (g4:t.g 4=cv) (gi:t.g 11=vi i) (gj:t.g 12=vi j) (hfr:Fm b H0 H) (hrb:RB H b sz ep rows)
  (next:∀(t:T) (H:Heap) (j':Nat),(j'≤j∧i≤j'+1)→(∀(q:Nat) x,j'<q→q≤j→rows[q]?=some x→c p x<0)→(j'<i∨∀ x,rows[j']?=some x→¬ c p x<0) →
   t.g 0=.c (.sl b 0 n 0 ep sz)→t.g 1=vi a→t.g 4=cv→t.g 11=vi i→t.g 12=vi j'→Fm b H0 H→RB H b sz ep rows→WP tab σ.peq none k ⟨t,[],H⟩ Q) :
  WP tab σ.peq none (.code (Xz σ sz)::k) ⟨t,[],H⟩ Q:=by
 refine aP ?_
 refine dA (fun m s=>∃(q:Nat) (t:T) (H1:Heap),s=⟨t,[],H1⟩∧(q+1=i+m∧q≤j)∧(∀(r:Nat) x,q<r→r≤j→rows[r]?=some x→c p x<0) ∧
   t.g 0=.c (.sl b 0 n 0 ep sz)∧t.g 1=vi a∧t.g 4=cv∧t.g 11=vi i∧t.g 12=vi q∧Fm b H0 H1∧RB H1 b sz ep rows) (j+1-i)
  ⟨j,_,H,rfl,by omega,fun r x h1 h2=>by omega,g0,g1,g4,gi,gj,hfr,hrb⟩ ?_
 rintro m s ⟨q,t,H1,rfl,hm,gU,g0,g1,g4,gi,gj,hfr,hrb⟩ ih
 refine ak ?_
 refine ak (aj (.inl rfl) ?_)
 by_cases hlt:i≤q
 case neg=>
  simp [gi,gj,hlt]
  refine aA (by simp) ?_
  refine bM (k':=k) rfl ?_
  exact next _ _ q (by omega) gU (.inl (by omega)) (by simp [g0]) (by simp [g1]) (by simp [g4]) (by simp [gi]) (by simp [gj]) hfr hrb
 obtain⟨x,y,F,ar,J,hx,hy,i1,j1,l1,l2,jH,he,-,-⟩:=hrb.ask hg hcv hW hn (i:=a) (j:=q) (by omega) (by omega)
 simp [gi,gj,hlt,g0,g1,g4,i1,j1,l1,l2,jH,he,-bT]
 have ep:p=x:=by rw [hp]at hx;exact Option.some.inj hx
 subst ep
 by_cases hc:c p y<0
 case neg=>
  refine aA (by simp [hc]) ?_
  refine bM (k':=k) rfl ?_
  refine next _ _ q (by omega) gU (.inr fun z hz=>?_) (by simp [g0]) (by simp [g1]) (by simp [g4]) (by simp [gi]) (by simp [gj]) (hfr.trans (Fm.push _ _)) (hrb.push _)
  rw [hy]at hz;cases hz;exact hc
 refine aC (by simp [hc]) (aK ?_)
 refine aP (aj (.inl rfl) ?_)
 simp [gi,gj,wrap64 (n:=(q:Int)-1) (by omega) (by omega)]
 refine aN (ih (m-1) _ (by omega) ⟨q-1,_,_,rfl,by omega,fun r z h1 h2 hz=>?_,by simp [g0],by simp [g1],by simp [g4],by simp [gi],by simp;omega,hfr.trans (Fm.push _ _),hrb.push _⟩)
 by_cases hr:r=q
 ·subst hr;rw [hy]at hz;cases hz;exact hc
 ·exact gU r z (by omega) (by omega) hz
def Ep(c:List FC→List FC→Int)(a i j e:Nat)(p:List FC)(l:List (List FC)):Prop:=
 l[a]?=some p∧(∀(k:Nat) x,a<k→k<i→l[k]?=some x→c x p<0)∧(∀(k:Nat) x,j<k→k<e→l[k]?=some x→¬ c x p<0)
def qp(c:List FC→List FC→Int)(a e m:Nat)(l:List (List FC)):Prop:=
 ∃ p,l[m]?=some p∧(∀(k:Nat) x,a≤k→k<m→l[k]?=some x→c x p<0)∧(∀(k:Nat) x,m<k→k<e→l[k]?=some x→¬ c x p<0)
theorem Ep.swap{a i j e:Nat}{p:List FC}{l:List (List FC)}(h:Ep c a i j e p l)(hai:a<i)(hij:i<j)(hjl:j<l.length)(hi:∀ x,l[i]?=some x→¬ c x p<0)(hj:∀ x,l[j]?=some x→c x p<0):Ep c a (i+1) (j-1) e p (swp l i j):=by
 obtain⟨h0,h1,h2⟩:=h
 have g:∀ k,(swp l i j)[k]?=if k=j then l[i]? else if k=i then l[j]? else l[k]?:=fun k=>swp_get (by omega) hjl k
 refine⟨?_,fun k x k1 k2 hx=>?_,fun k x k1 k2 hx=>?_⟩
 ·rw [g,if_neg (by omega),if_neg (by omega)];exact h0
 ·rw [g,if_neg (by omega)]at hx
  by_cases e:k=i
  ·rw [if_pos e]at hx;exact hj x hx
  ·rw [if_neg e]at hx;exact h1 k x k1 (by omega) hx
 ·rw [g]at hx
  by_cases e:k=j
  ·rw [if_pos e]at hx;exact hi x hx
  ·rw [if_neg e,if_neg (by omega)]at hx;exact h2 k x (by omega) k2 hx
theorem Ep.done{a i j e:Nat}{p:List FC}{l:List (List FC)}(h:Ep c a i j e p l)(hai:a≤j)(hij:i=j+1)(hjl:j<l.length):qp c a e j (swp l j a):=by
 obtain⟨h0,h1,h2⟩:=h
 have g:∀ k,(swp l j a)[k]?=if k=a then l[j]? else if k=j then l[a]? else l[k]?:=fun k=>swp_get hjl (by omega) k
 refine⟨p,?_,fun k x k1 k2 hx=>?_,fun k x k1 k2 hx=>?_⟩
 ·rw [g]
  by_cases e:j=a
  ·rw [if_pos e,e];exact h0
  ·rw [if_neg e,if_pos rfl];exact h0
 ·rw [g]at hx
  by_cases e:k=a
  ·rw [if_pos e]at hx;exact h1 j x (by omega) (by omega) hx
  ·rw [if_neg e,if_neg (by omega)]at hx;exact h1 k x (by omega) (by omega) hx
 ·rw [g,if_neg (by omega),if_neg (by omega)]at hx
  exact h2 k x k1 k2 hx
theorem aru{H:Heap}{rows:List (List FC)}{n a e v b ep:Nat}(hT:tab σ.part=some (GH σ sz))(hcv:Cv tab cv W c)(hn:rows.length=n)(hl:n≤1000000000)(hrb:RB H b sz ep rows)(hg:Grid sz rows)(hW:∀ r ∈ rows,W r)(hae:a<e)(hen:e≤n)(hav:a≤v)(hve:v<e) :
  ∃ r H',Ev tab (.fn σ.part) [.c (.sl b 0 n 0 ep sz),vi a,vi e,vi v,cv] H r H'∧((∃(m:Nat) (w:Bool),r=.t [vi m,vb w]∧a≤m∧m<e∧Fm b H H'∧∃ l',RB H' b sz ep l'∧Seg a e rows l'∧qp c a e m l')):=by
 refine gW hT rfl fun Q hQ=>?_
 obtain⟨d,rfl⟩:∃ d,e=d+1:=⟨e-1,by omega⟩
 obtain⟨x,p,H1,H2,hx,hp,i1,j1,l1,l2,w1,w2,s1,j2,s2,r2,f2⟩:=hrb.swp hg hn (i:=a) (j:=v) (by omega) (by omega)
 have sg1:Seg a (d+1) rows (swp rows a v):=iV (by omega) (by omega) (by omega) (by omega) (by omega)
 have pi1:Ep c a (a+1) d (d+1) p (swp rows a v):=by
  refine⟨?_,fun k x k1 k2=>by omega,fun k x k1 k2=>by omega⟩
  rw [swp_get (by omega) (by omega)]
  by_cases e:a=v
  ·rw [if_pos e,e];exact hp
  ·rw [if_neg e,if_pos rfl];exact hp
 refine ak (aj (.inl rfl) ?_)
 simp
 refine ak (aj (.inl rfl) ?_)
 simp [i1,j1,l1,l2,w1,w2,s1,j2,s2,-bT,-fG]
 refine ak (aj (.inl rfl) ?_)
 simp [wrap64 (n:=(a:Int)+1) (by omega) (by omega),wrap64 (n:=(d:Int)) (by omega) (by omega)]
 refine ak ?_
 have IG:∀(w:Bool) (t:T) (H3:Heap) (l:List (List FC)) (i j:Nat),a≤j→j<d+1→i=j+1→Ep c a i j (d+1) p l→Seg a (d+1) rows l→Fm b H H3→RB H3 b sz ep l →
   ∃(x y:List FC) (H4 H5:Heap),bC H3 sz none (.c (.sl b 0 n 0 ep sz)) (vi j)=some (.c (.ptr b (j*sz) ep))∧bC H3 sz none (.c (.sl b 0 n 0 ep sz)) (vi a)=some (.c (.ptr b (a*sz) ep)) ∧
    ldV H3 (some sz) (.c (.ptr b (j*sz) ep))=some (.a (x.map .f))∧ldV H3 (some sz) (.c (.ptr b (a*sz) ep))=some (.a (y.map .f))∧x.length=sz∧y.length=sz ∧
    stC H3 (.ptr b (j*sz) ep) (y.map .f)=some H4∧bC H4 sz none (.c (.sl b 0 n 0 ep sz)) (vi a)=some (.c (.ptr b (a*sz) ep))∧stC H4 (.ptr b (a*sz) ep) (x.map .f)=some H5 ∧
    (a≤j∧j<d+1∧Fm b H H5∧∃ l',RB H5 b sz ep l'∧Seg a (d+1) rows l'∧qp c a (d+1) j l'):=by
  intro w t H3 l i j h1 h2 h3 hpi hsg hfr hrb
  have hlen:=hsg.len
  obtain⟨x,y,H4,H5,-,-,i1,j1,l1,l2,w1,w2,s1,j2,s2,r2,f2⟩:=hrb.swp (hsg.grid hg) (hlen.trans hn) (i:=j) (j:=a) (by omega) (by omega)
  exact⟨x,y,H4,H5,i1,j1,l1,l2,w1,w2,s1,j2,s2,h1,h2,hfr.trans f2,_,r2,hsg.trans (iV (by omega) (by omega) (by omega) (by omega) (by omega)),hpi.done h1 h3 (by omega)⟩
 have grid:∀ {l},Seg a (d+1) rows l→Grid sz l:=fun h=>h.grid hg
 have wall:∀ {l},Seg a (d+1) rows l→∀ r ∈ l,W r:=fun h r hr=>hW r (h.1.mem_iff.1 hr)
 refine XH hcv (sg1.len.trans hn) hl (grid sg1) (wall sg1) (i:=a+1) (j:=d) (e:=d+1) (H0:=H) (by omega) (by omega) (by omega) hen pi1.1 (by simp) (by simp) (by simp) (by simp) (by simp) f2 r2 ?_
 intro t H3 i' hi1 gU hstop g0 g1 g4 gi gj hfr hrb
 refine ak ?_
 refine XJ hcv (sg1.len.trans hn) hl (grid sg1) (wall sg1) (i:=i') (j:=d) (e:=d+1) (H0:=H) (by omega) (by omega) (by omega) hen pi1.1 g0 g1 g4 gi gj hfr hrb ?_
 intro t H4 j' hj1 BZ BX g0 g1 g4 gi gj hfr hrb
 have pi2:Ep c a i' j' (d+1) p (swp rows a v):=⟨pi1.1,fun k x k1 k2 hx=>gU k x (by omega) k2 hx,fun k x k1 k2 hx=>BZ k x k1 (by omega) hx⟩
 refine ak ?_
 refine ak (aj (.inl rfl) ?_)
 simp [gi,gj]
 by_cases hgt:j'<i'
 ·obtain⟨x,y,H5,H6,i1,j1,l1,l2,w1,w2,s1,j2,s2,hend⟩:=IG true t H4 _ i' j' (by omega) (by omega) (by omega) pi2 sg1 hfr hrb
  refine aC (by simp [hgt]) (ak (aj (.inl rfl) ?_))
  simp [g0,g1,gj,i1,j1,l1,l2,w1,w2,s1,j2,s2,-bT,-fG]
  refine ak (aj (.inl rfl) ?_)
  simp [gj]
  exact aO (hQ _ _ (.t [vi j',vb true]) rfl (by simp [Km.results,bD]) ⟨j',true,rfl,hend⟩)
 refine aA (by simp [hgt]) (aK ?_)
 have ni:∀ x,(swp rows a v)[i']?=some x→¬ c x p<0:=by
  rcases hstop with h | h
  ·omega
  ·exact h
 have nj:∀ x,(swp rows a v)[j']?=some x→c x p<0:=by
  rcases BX with h | h
  ·omega
  ·exact fun x hx=>Classical.not_not.1 (h x hx)
 have hne:i'≠j':=by
  rintro rfl
  have hx:=List.getElem?_eq_getElem (l:=swp rows a v) (i:=i') (by rw [F7];omega)
  exact ni _ hx (nj _ hx)
 obtain⟨x5,y5,H5,H6,-,-,i1,j1,l1,l2,w1,w2,s1,j2,s2,r5,f5⟩:=hrb.swp (grid sg1) (sg1.len.trans hn) (i:=i') (j:=j') (by omega) (by omega)
 refine ak (aj (.inl rfl) ?_)
 simp [g0,gi,gj,i1,j1,l1,l2,w1,w2,s1,j2,s2,-bT,-fG]
 refine ak (aj (.inl rfl) ?_)
 simp [gi,wrap64 (n:=(i':Int)+1) (by omega) (by omega)]
 refine ak (aj (.inl rfl) ?_)
 simp [gj,wrap64 (n:=(j':Int)-1) (by omega) (by omega)]
 refine ak ?_
 refine aP ?_
 refine dA (fun m s=>∃(i j:Nat) (t:T) (H1:Heap) (l:List (List FC)),s=⟨t,[],H1⟩∧m=j+1-i∧a<i∧i≤j+1∧j<d+1∧t.g 0=.c (.sl b 0 n 0 ep sz)∧t.g 1=vi a∧t.g 4=cv∧t.g 12=vi i∧t.g 13=vi j ∧
   Fm b H H1∧RB H1 b sz ep l∧Seg a (d+1) rows l∧Ep c a i j (d+1) p l) _
  ⟨i'+1,j'-1,_,H6,_,rfl,rfl,by omega,by omega,by omega,by simp [g0],by simp [g1],by simp [g4],by simp,by simp;omega,hfr.trans f5,r5,
   sg1.trans (iV (by omega) (by omega) (by omega) (by omega) (by rw [F7];omega)),pi2.swap (by omega) (by omega) (by rw [F7];omega) ni nj⟩ ?_
 rintro m s ⟨i,j,t,H1,l,rfl,rfl,hai,hij,hjd,g0,g1,g4,gi,gj,hfr,hrb,hsg,hpi⟩ ih
 have hlen:=hsg.len
 refine aP ?_
 refine ak ?_
 refine XG hcv (hlen.trans hn) hl (grid hsg) (wall hsg) (i:=i) (j:=j) (e:=d+1) (H0:=H) hai hij hjd hen hpi.1 g0 g1 g4 gi gj hfr hrb ?_
 intro t H3 i' hi1 gU hstop g0 g1 g4 gi gj hfr hrb
 refine ak ?_
 refine XI hcv (hlen.trans hn) hl (grid hsg) (wall hsg) (i:=i') (j:=j) (e:=d+1) (H0:=H) (by omega) (by omega) (by omega) hen hpi.1 g0 g1 g4 gi gj hfr hrb ?_
 intro t H4 j' hj1 BZ BX g0 g1 g4 gi gj hfr hrb
 have pi2:Ep c a i' j' (d+1) p l:=⟨hpi.1,fun k x k1 k2 hx=>by
   by_cases hk:k<i
   ·exact hpi.2.1 k x k1 hk hx
   ·exact gU k x (by omega) k2 hx,fun k x k1 k2 hx=>by
   by_cases hk:j<k
   ·exact hpi.2.2 k x hk k2 hx
   ·exact BZ k x k1 (by omega) hx⟩
 refine ak ?_
 refine ak (aj (.inl rfl) ?_)
 simp [gi,gj]
 by_cases hgt:j'<i'
 ·obtain⟨x,y,H5,H6,i1,j1,l1,l2,w1,w2,s1,j2,s2,hend⟩:=IG false t H4 _ i' j' (by omega) (by omega) (by omega) pi2 hsg hfr hrb
  refine aC (by simp [hgt]) ?_
  refine bM (k':=[.code (Qy σ sz)]) rfl ?_
  refine ak (aj (.inl rfl) ?_)
  simp [g0,g1,gj,i1,j1,l1,l2,w1,w2,s1,j2,s2,-bT,-fG]
  refine ak (aj (.inl rfl) ?_)
  simp [gj]
  exact aO (hQ _ _ (.t [vi j',vb false]) rfl (by simp [Km.results,bD]) ⟨j',false,rfl,hend⟩)
 refine aA (by simp [hgt]) (aK ?_)
 have ni:∀ x,l[i']?=some x→¬ c x p<0:=by
  rcases hstop with h | h
  ·omega
  ·exact h
 have nj:∀ x,l[j']?=some x→c x p<0:=by
  rcases BX with h | h
  ·omega
  ·exact fun x hx=>Classical.not_not.1 (h x hx)
 have hne:i'≠j':=by
  rintro rfl
  have hx:=List.getElem?_eq_getElem (l:=l) (i:=i') (by omega)
  exact ni _ hx (nj _ hx)
 obtain⟨x5,y5,H5,H6,-,-,i1,j1,l1,l2,w1,w2,s1,j2,s2,r5,f5⟩:=hrb.swp (grid hsg) (hlen.trans hn) (i:=i') (j:=j') (by omega) (by omega)
 refine ak (aj (.inl rfl) ?_)
 simp [g0,gi,gj,i1,j1,l1,l2,w1,w2,s1,j2,s2,-bT,-fG]
 refine ak (aj (.inl rfl) ?_)
 simp [gi,wrap64 (n:=(i':Int)+1) (by omega) (by omega)]
 refine aj (.inl rfl) ?_
 simp [gj,wrap64 (n:=(j':Int)-1) (by omega) (by omega)]
 exact aN (ih _ _ (by omega) ⟨i'+1,j'-1,_,H6,_,rfl,rfl,by omega,by omega,by omega,by simp [g0],by simp [g1],by simp [g4],by simp,by simp;omega,hfr.trans f5,r5,
   hsg.trans (iV (by omega) (by omega) (by omega) (by omega) (by omega)),pi2.swap (by omega) (by omega) (by omega) ni nj⟩)
end
end Km
end
