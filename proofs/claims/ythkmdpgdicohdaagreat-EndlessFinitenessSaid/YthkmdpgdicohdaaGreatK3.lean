/-
  Our own small machine for Go code by value, held qR the model: part 3. No program in Co.
-/
import Derived.Test.YthkmdpgdicohdaaGreatK2
import Derived.Orders
import Derived.Test.YthkmdpgdicohdaaGreatK1
import Derived.ChangeArms
import Derived.DataReads
import Derived.Deep.Slices
import Derived.ProofKit
import Derived.RowKit3
import Derived.Below
import Derived.Carry
import Derived.Laws.IdiomArrays
open Option renaming some → aa,none → ab
open Bool renaming true → ae,false → ag
open Bool renaming and_eq_true → BY, not_eq_true' → akA, false_eq_true → ajo
open Option renaming map_some → ajK, bind_eq_some_iff → ajx, map_eq_some_iff → IN, bind_some → ajC
open List renaming all_eq_true → aji, eq_nil_of_length_eq_zero → ajk, mem_of_getElem? → ajg, getElem?_eq_getElem → By, getElem_mem → IT, getElem?_eq_some_iff → IS, getElem?_set_ne → sh, getElem?_append_right → aje, map_cons → ajd, length_cons → ajL, foldl_cons → akP, mem_cons_of_mem → ajb, flatten_cons → ajs, length_append → ai7, mem_cons_self → ajc, drop_append → akW, take_succ_cons → ak9, take_of_length_le → ajl, mem_map → ajj, drop_drop → akn, drop_eq_getElem_cons → ajh, length_map → ajf, length_drop → ajm, map_append → akp, take_append_of_le_length → ajG, map_take → akQ, drop_zero → aj4, getElem?_map → aj3, isEmpty_cons → alg, findIdx?_eq_some_iff_getElem → alh, getElem?_append_left → AT, getElem?_set_self → If, flatten_append → aki, drop_of_length_le → aku, take_append_drop → ajR, length_take → ajF, take_take → akU, append_nil → ajP, getElem?_of_mem → akc, mem_cons → ajB, mem_append_left → ajM, mem_append_right → akx, append_assoc → ajI, map_drop → ak0, getElem?_take → ajO, getElem?_drop → ajv, length_eq_zero_iff → ajW, nil_append → ajZ, length_nil → akC
open Nat renaming le_refl → ai8, zero_le → akh, le_max_left → ajN, le_max_right → ajD, add_mul → ajy, one_mul → akV, mul_le_mul_right → ajH, mul_comm → ak5
open Option.some renaming injEq → AI
open Prod.mk renaming injEq → OF
set_option linter.unusedVariables false
set_option linter.constructorNameAsVariable false
set_option linter.unusedSimpArgs false
set_option linter.unusedSectionVars false
set_option maxRecDepth 100000
namespace Km
section
open Go
variable{Q:Program}{σ:Nat→FuncId}{X:Wd}{call:dj}
variable{n:Nat}{ops:Array Oper}{aos:List aO}{iF:List (Nat × Nat)}{st:Nat→St}
def LD(b:Array Bool)(j:Nat):Prop:=b.getD j ag=ae
theorem Q0{b:Array Bool}{i:Nat}(hi:i<b.size):LD (b.setIfInBounds i ae)=fun j=>LD b j∨j=i:=by
 funext j;apply propext;unfold LD;by_cases h:i=j
 ·subst h;simp [hi]
 ·have:j≠i:=fun e=>h e.symm;simp [Array.getD_eq_getD_getElem?,Array.getElem?_setIfInBounds_ne h,this]
theorem Av{b:Array Bool}{i:Nat}(h:i ∈ Region.ready .any ops b):i<ops.size∧¬ LD b i∧∃ o,ops[i]?=aa o∧∀ e ∈ o.after.toList,Region.binds .any e=ae→LD b e.on:=by
 unfold Region.ready at h;simp only [List.mem_filter,List.mem_range,BY,akA]at h;obtain⟨l,d,j⟩:=h;refine⟨l,fun g=>?_,?_⟩
 ·unfold LD at g;simp only [Array.getD_eq_getD_getElem?]at d g;cases m:b[i]? with
  | none=>rw [m]at d;simp at d| some bb=>rw [m]at d g;simp at d g;rw [d]at g;simp at g
 ·have q:=Array.getElem?_eq_getElem l;rw [q]at j;simp only [ajK,Option.getD_some]at j;refine⟨ops[i],q,fun e u s=>?_⟩;rw [←Array.all_toList,aji]at j;have:=j e u;simpa [s,LD]using this
theorem S0(l:Ord ops.toList aos iF)(F:aos.length=ops.size){b:Array Bool}(B:b.size=ops.size){j:Nat}(z:j<ops.size)(y:¬ LD b j):Region.ready .any ops b≠[]:=by
 have key:∀ m,m<ops.size→¬ LD b m→∃ i,i ∈ Region.ready .any ops b:=by
  intro m;induction m using Nat.strongRecOn with
  | ind m E=>
   intro v g;have A:=Array.getElem?_eq_getElem v;by_cases d:∀ e ∈ ops[m].after.toList,Region.binds .any e=ae→LD b e.on
   ·refine⟨m,?_⟩;unfold Region.ready;simp only [List.mem_filter,List.mem_range,BY,akA,A,ajK,Option.getD_some];refine⟨v,?_,?_⟩
    ·unfold LD at g;have u:m<b.size:=by omega
     simp [u]at g ⊢;exact g
    ·rw [←Array.all_toList,aji];intro e s;by_cases q:Region.binds .any e=ae
     ·have:=d e s q;unfold LD at this;simp [this]
     ·simp [q]
   ·simp only [Classical.not_forall]at d;obtain⟨e,s,q,x⟩:=d;have:=l.back m ops[m] (by omega) (by simp [v]) e s q;exact E e.on this (by omega) x
 obtain⟨i,hi⟩:=key j z y;intro h;rw [h]at hi;simp at hi
theorem RF(hC:eV Q σ call)(R:iW Q σ call n ops aos iF st){b:Frame}{k:List Item}{cs:List Frame}(hk:iw b cs)(H:∀ y ∈ aos,gd y.op b) :
  ∀(X0:Wd) (fuel t:Nat) (d:Array Bool) (U:List Nat) (E:Nat) (X:Wd) (a:Act),d.size=ops.size→U.Nodup→(∀ j,j<ops.size→(¬ LD d j↔j ∈ U))→U.length≤fuel→Inv Q σ X0 n ops aos st (LD d) E X a →
  ∃ q z X' a',Steps Q (lone (b.atR a (.inRegion ops (Region.linearise.go .any ops fuel t d [])::k)) cs X.w) (lone (b.atR a' k) cs X'.w)∧Inv Q σ X0 n ops aos st q z X' a'∧(∀ j,j<ops.size→q j)∧a'.tmps.size=a.tmps.size:=by
 have u:aos.length=ops.size:=by have:=(eA R.acr).len;simpa using this.symm
 intro X0 fuel;induction fuel with
 | zero=>
  intro t d U E X a m B l F A;refine⟨LD d,E,X,a,?_,A,fun j s=>?_,rfl⟩
  ·simp only [Region.linearise.go,List.reverse_nil];exact .one stepR_region_end
  ·have g:U=[]:=ajk (by omega);refine Classical.byContradiction fun h=>?_;have:=(l j s).1 h;rw [g]at this;simp at this
 | succ fuel ih=>
  intro t d U E X a m B l F A;simp only [Region.linearise.go];change ∃ q z X' a',Steps Q (lone (b.atR a (.inRegion ops (match (Region.ready .any ops d)[t % (Region.ready .any ops d).length]? with
   | some i=>Region.linearise.go .any ops fuel (t / (Region.ready .any ops d).length) (d.setIfInBounds i ae) [i]
   | none=>[].reverse)::k)) cs X.w) _∧_
  cases hi:(Region.ready .any ops d)[t % (Region.ready .any ops d).length]? with
  | none=>
   have g:Region.ready .any ops d=[]:=by
    cases I:Region.ready .any ops d with
    | nil=>rfl
    | cons x xs=>
     rw [I]at hi;have a7:t % (x::xs).length<(x::xs).length:=Nat.mod_lt _ (by simp);rw [List.getElem?_eq_none_iff]at hi;omega
   refine⟨LD d,E,X,a,?_,A,fun j s=>?_,rfl⟩
   ·exact .one stepR_region_end
   ·exact Classical.byContradiction fun h=>S0 R.ord u m s h g
  | some i=>
   simp only [];rw [linearise_go_acc,List.reverse_singleton,List.singleton_append];obtain⟨r1,K,o,r3,r4⟩:=Av (ajg hi);have hy:=By (show i<aos.length by omega);have I:iV ops aos (LD d) i o aos[i]:=⟨r3,hy,K,r4⟩
   obtain⟨z,L,a1,O,J,S⟩:=R.ZV hC A I (b:=b) (rest:=Region.linearise.go .any ops fuel (t / (Region.ready .any ops d).length) (d.setIfInBounds i ae) []) (k:=k) (cs:=cs) hk (H _ (IT _));rw [←Q0 (by omega)]at J;have v:i ∈ U:=(l i r1).1 K;obtain⟨q,E2,M,N,k1,k2,k3,k5⟩:=ih (t / (Region.ready .any ops d).length) (d.setIfInBounds i ae) (U.erase i) z L a1 (by simpa using m) (B.erase i)
    (fun j s=>by
     rw [B.mem_erase_iff,←l j s,Q0 (by omega)];constructor
     ·intro h;exact⟨fun e=>h (.inr e),fun W=>h (.inl W)⟩
     ·rintro⟨Y,Z⟩ (h | h)
      ·exact Z h
      ·exact Y h)
    (by rw [List.length_erase_of_mem v];omega) J
   exact⟨q,E2,M,N,O.trans k1,k2,k3,k5.trans S⟩
theorem RG(hC:eV Q σ call)(u:Q.follows .mixedOrders=ae)(R:iW Q σ call n ops aos iF st){b:Frame}{k:List Item}{cs:List Frame}(hk:iw b cs)(M:∀ y ∈ aos,gd y.op b){X:Wd}{a:Act}(g:Fr Q σ n X (st 0) a)(id:Nat) :
  ∃ X' a',Steps Q (lone (b.atR a (.code (.region id ops ae)::k)) cs X.w) (lone (b.atR a' k) cs X'.w)∧Fr Q σ n X' (st aos.length) a'∧Ext X.H.length X X'∧a'.tmps.size=a.tmps.size:=by
 have a7:aos.length=ops.size:=by have:=(eA R.acr).len;simpa using this.symm
 let X0:Wd:={ X with w:={ X.w with drawn:=X.w.drawn+1 } }
 have A:Ext X.H.length X X0:=
  {B:=rfl,F:=fun _ _ h=>h,oc:=fun _ _ h=>.inl h,fw:=fun _ _ _=>rfl,bf:=fun b _ bO J=>⟨bO,J,by cases bO<;>simp [X0]⟩
   uF:=fun b L h=>.inl ⟨b,L,h,rfl⟩,size:=ai8 _,os:=rfl,tape:=rfl,output:=rfl,frame:=fun _ _ _=>rfl }
 have I:SR Q σ X0:=by
  refine⟨fun b L J=>?_,g.sr.inj,g.sr.fb⟩;obtain⟨q,s,bO,W,Y⟩:=g.sr.br b L J;exact⟨q,s,bO,W,BR.ext Q σ A rfl (fun _ h=>h) Y⟩
 obtain⟨p1,p2,p3,O⟩:=nT (aos:=aos) (i:=0) (by omega);obtain⟨q1,q2⟩:=R.cT _ p1 p2 O;have E:X0.H=(st 0).heap:=g.heap;rw [←E]at q1;obtain⟨k1,k2⟩:=SR.ahead I q1;have m:Ext X.H.length X { X0 with H:=(st (phase aos 0)).heap }:=A.trans k2;have d:∀ j,¬ LD (Array.replicate ops.size ag) j:=fun j h=>by
  unfold LD at h;simp only [Array.getD_eq_getD_getElem?,Array.getElem?_replicate]at h;split at h<;>simp at h
 have hI:Inv Q σ { X0 with H:=(st (phase aos 0)).heap } n ops aos st (LD (Array.replicate ops.size ag)) (phase aos 0) { X0 with H:=(st (phase aos 0)).heap } a:=by
  refine⟨fun j o h=>absurd h (d j),fun j h=>absurd h (d j),p2,p3,d _,fun j q s=>absurd q (O j (akh _) s),rfl,Ext.refl _ _,k1,g.b,by rw [q2];exact g.defs.ext' m,g.size,
   fun p=>⟨0,akh _,.inl (VR.ext' σ m (g.aB p)),fun j y _ _=>⟨fun h=>by omega,fun h=>absurd h (d j)⟩⟩,fun j y q _ W Y h5=>?_⟩
  show X.cd _=ab;have a8:=(R.cT j (akh _) (by omega) fun k q s=>O k q (by omega)).1.len;cases v:X.cd (st j).heap.length with
  | none=>rfl| some L=>have:=SR.lt g.sr v;rw [g.heap]at this;omega
 obtain⟨D',S,X',a',g1,l,U,g5⟩:=RF hC R hk M (k:=k) { X0 with H:=(st (phase aos 0)).heap } ops.size (X.w.tape X.w.drawn (.order b.fn id)) (Array.replicate ops.size ag) (List.range ops.size) (phase aos 0) { X0 with H:=(st (phase aos 0)).heap } a (by simp) List.nodup_range
  (fun j hj=>⟨fun _=>by simpa using hj,fun _=>d j⟩) (by simp) hI
 have Z:S=aos.length:=by
  rcases l.eW with h | ⟨z,N,_⟩
  ·exact h
  ·exact absurd (U S (by have:=(IS.1 N).1;omega)) l.eD
 subst Z;refine⟨X',a',.head stepR_region_draw ?_,⟨l.heap,l.sr,l.b,fun p=>?_,l.defs,l.size⟩,m.trans (l.ext.mono (m.len)),g5⟩
 ·simp only [Region.schedule,u,Bool.true_or,if_true];exact g1
 ·obtain⟨K,hK,x,hw⟩:=l.Te p;have x:VR σ X' ((st K).aB.get p) (a'.tmps.getD p.toNat undef):=by
   rcases x with x | ⟨z,zs,c,_,Z,N,_⟩
   ·exact x
   ·have:=(IS.1 N).1;omega
  rw [←R.lz aos.length hK (ai8 _) fun j y q s hy hd=>?_]
  ·exact x
  ·have:=(hw j y hy hd).2 (U j (by omega));omega
end
section
open Go
variable{Q:Program}{σ:Nat→FuncId}{X:Wd}{call:dj}
theorem xR{b:Type}{f:b→b→Bool}(d:∀ x y,f x y=ae→x=y):∀ {xs ys:List b},nE f xs ys=ae→xs=ys
 | [],[],_=>rfl
 | x::xs,y::ys,h=>by
  simp only [nE,BY]at h;rw [d x y h.1,xR d h.2]
 | [],_::_,h=>by simp [nE]at h
 | _::_,[],h=>by simp [nE]at h
theorem FC.beq_eq:∀(n:Nat) (a b:FC),FC.beq n a b=ae→a=b:=by
 intro n;induction n with
 | zero=>
  intro a b h;cases a<;>cases b<;>simp_all [FC.beq]
 | succ n d=>
  intro a b h;cases a<;>cases b<;>simp_all [FC.beq]
  all_goals exact xR d h.2
theorem C.beq_eq{a b:C}(h:a.beq b=ae):a=b:=by
 cases a<;>cases b<;>simp_all [C.beq];exact FC.beq_eq _ _ _ h
theorem V.beq_eq{a b:V}(h:a.beq b=ae):a=b:=by
 cases a<;>cases b<;>simp only [V.beq,ajo]at h
 ·rw [C.beq_eq h]
 ·rename_i xs ys;simp only [BY,beq_iff_eq,aji]at h
  congr 1
  refine List.ext_getElem h.1 fun i h1 h2=>C.beq_eq (h.2 (xs[i],ys[i]) ?_);exact ajg (i:=i) (by rw [List.getElem?_zip_eq_some];exact⟨By h1,By h2⟩)
theorem vr:∀ {aos:List aO} {s b:St},ff call aos s=aa b→∃ ss:List St,ec call aos s=aa ss∧ss.getLast?=aa b
 | [],s,b,h=>by simp only [ff,AI]at h;subst h;exact⟨[s],rfl,rfl⟩
 | o::os,s,b,h=>by
  simp only [ff]at h;split at h
  ·rename_i l g;obtain⟨ss,j,d⟩:=vr h;refine⟨s::ss,by simp [ec,g,j],?_⟩;cases ss with
   | nil=>simp at d| cons x xs=>simpa using d
  ·simp at h
theorem mD:∀ {aos:List aO} {s:St} {ss:List St},ec call aos s=aa ss→ss.length=aos.length+1∧ss[0]?=aa s ∧
  ∀ i y,aos[i]?=aa y→∃ u v,ss[i]?=aa u∧ss[i+1]?=aa v∧eT call u y=aa v
 | [],s,ss,h=>by
  simp only [ec,AI]at h;subst h;exact⟨rfl,rfl,fun i y h=>by simp at h⟩
 | o::os,s,ss,h=>by
  simp only [ec]at h;split at h
  ·rename_i q l;split at h
   ·rename_i x m;simp only [AI]at h;subst h;obtain⟨d,g,j⟩:=mD m;refine⟨by simp [d],rfl,fun i y b=>?_⟩;cases i with
    | zero=>
     simp only [List.getElem?_cons_zero,AI]at b;subst b;exact⟨s,q,rfl,by simpa using g,l⟩
    | succ i=>simpa using j i y (by simpa using b)
   ·simp at h
  ·simp at h
theorem td:∀ {aos:List aO} {s:St} {ss:List St} {b:St},ec call aos s=aa ss→ss.getLast?=aa b→ff call aos s=aa b
 | [],s,ss,b,h,d=>by simp only [ec,AI]at h;subst h;simpa [ff]using d
 | o::os,s,ss,b,h,d=>by
  simp only [ec]at h;split at h
  ·rename_i m l;split at h
   ·rename_i g j;simp only [AI]at h;subst h;have:=(mD j).1;simp only [ff,l];refine td j ?_;cases g with
    | nil=>simp at this| cons x xs=>simpa using d
   ·simp at h
  ·simp at h
theorem Iq(S:eV Q σ call)(z:Q.follows .mixedOrders=ae){n:Nat}{id:Nat}{ops:Array Oper}{g:Bool}{aos:List aO}{iF:List (Nat × Nat)}(W:bL Q σ n (.region id ops g) (.region aos iF)=ae)
  {b:Frame} {k:List Item} {cs:List Frame} (U:iw b cs) (A:∀ y ∈ aos,gd y.op b) {X:Wd} {a:Act} {s E:St} (K:Fr Q σ n X s a) (h:gn call aos iF s=aa E) :
  ∃ X' a',Steps Q (lone (b.atR a (.code (.region id ops g)::k)) cs X.w) (lone (b.atR a' k) cs X'.w)∧Fr Q σ n X' E a'∧Ext X.H.length X X'∧a'.tmps.size=a.tmps.size:=by
 simp only [bL,BY,Bool.or_eq_true,akA]at W;obtain⟨j,B⟩:=W;obtain⟨ss,O,J,h3⟩:∃ ss:List St,ec call aos s=aa ss∧ss.getLast?=aa E∧∀ c ∈ iF,sameAt aos ss c=ae:=by
  unfold gn at h;split at h
  ·obtain⟨ss,m,q⟩:=vr h;exact⟨ss,m,q,by simp⟩
  ·split at h
   ·rename_i ss L;split at h
    ·rename_i x;exact⟨ss,L,h,aji.1 x⟩
    ·simp at h
   ·simp at h
 cases g with
 | false=>
  obtain⟨X',a',m,q⟩:=Cu S U (k:=k) aos 0 X s E a K (by simpa using j) A (td O J);exact⟨X',a',.head stepR_region (by simpa using m),q⟩
 | true=>
  obtain⟨m,q,g3⟩:=mD O
  let st:Nat→St:=fun i=>ss.getD i s
  have d:∀ i u,ss[i]?=aa u→st i=u:=fun i u hu=>by simp [st,List.getD_eq_getElem?_getD,hu]
  have R:iW Q σ call n ops aos iF st:=by
   refine⟨j,Ii (B.resolve_left (by simp)),fun i y M=>?_,fun i e y hc M Y=>?_⟩
   ·obtain⟨u,v,F,H,I⟩:=g3 i y M;rw [d _ _ F,d _ _ H];exact I
   ·have l:=h3 _ hc;simp only [sameAt,M]at l;split at l
    ·rename_i o s1 s2 F H I;cases F;rw [d _ _ H]at Y ⊢;rw [d _ _ I];rw [Y]at l;simp only at l;split at l
     ·rename_i v x1 v' x2 Z N;rw [←V.beq_eq l]at N;exact⟨v,x1,x2,Z,N⟩
     ·simp at l
    ·simp at l
  have h0:st 0=s:=d 0 s q;have hN:st aos.length=E:=d _ _ (by rw [List.getLast?_eq_getElem?,m]at J;simpa using J);rw [←h0]at K;rw [←hN];exact RG S z R U A K id
end
section
open Go
variable{Q:Program}{σ:Nat→FuncId}{X:Wd}{call:dj}
def Aj(X:Wd)(b:Nat):Prop:=∃ f t p a c s q d,X.H[b]?=aa (.lp f t p a c s q d)
theorem Aj.ext{X X':Wd}(l:Ext X.H.length X X'){b:Nat}(h:Aj X b):Aj X' b∧∀ L,X.cd b=aa L→X'.cd b=aa L:=by
 obtain⟨f,t,p,a,c,s,q,d,hb⟩:=h;obtain⟨blk',g,j⟩:=l.bf b (IS.1 hb).1 _ hb;cases blk'<;>simp only at j;exact⟨⟨_,_,_,_,_,_,_,_,g⟩,j.2⟩
inductive gr(Q:Program)(σ:Nat→FuncId)(n:Nat)(X:Wd):cD→Item→Prop
 | code {a:av} {c:Code} (h:bL Q σ n c a=ae):gr Q σ n X (.code a) (.code c)
 | inBlock (id:Nat):gr Q σ n X (.inBlock id) (.inBlock id)
 | inLoop {a:av} {c:Code} (h:bL Q σ n c a=ae):gr Q σ n X (.inLoop a) (.inLoop c)
 | iO {b:Nat} {L:Loc} (h:X.cd b=aa L) (hl:Aj X b):gr Q σ n X (.iO b) (.endRangeFunc L.c)
 | ny:gr Q σ n X .ny .beginRound
 | inScope {a:av} {c:Code} (h:bL Q σ n c a=ae) (hs:jd a=ae):gr Q σ n X (.inScope a) (.inScope c)
theorem gr.ext{n:Nat}{X X':Wd}(b:Ext X.H.length X X'){x:cD}{y:Item}(h:gr Q σ n X x y):gr Q σ n X' x y:=by
 cases h with
 | code h=>exact .code h| inBlock id=>exact .inBlock id| inLoop h=>exact .inLoop h| iO h hl=>exact .iO ((hl.ext b).2 _ h) (hl.ext b).1| ny=>exact .ny| inScope h d=>exact .inScope h d
def RoR(X:Wd):Option Nat→Option Nat→Prop
 | none,ab=>True| some b,aa l=>∃ L,X.cd b=aa L∧L.c=l∧Aj X b| _,_=>False
theorem RoR.ext{X X':Wd}(d:Ext X.H.length X X'){ro b:Option Nat}(h:RoR X ro b):RoR X' ro b:=by
 cases ro<;>cases b<;>simp only [RoR]at h ⊢;obtain⟨L,h1,h2,h3⟩:=h;exact⟨L,(h3.ext d).2 _ h1,h2,(h3.ext d).1⟩
theorem ur{n:Nat}(id:Nat):∀(k:List cD) (b:List Item),A2 (gr Q σ n X) k b →
  match Km.exitTo id k with
  | some k'=>∃ d,Go.exitTo id b=aa d∧A2 (gr Q σ n X) k' d| none=>Go.exitTo id b=ab
 | [],b,h=>by
  have:b=[]:=ajk h.len.symm;subst this;rfl
 | x::k,[],h=>by have:=h.len;simp at this
 | x::k,y::b,h=>by
  obtain⟨q,j⟩:=h.of_cons;have m:=ur id k b j;cases q with
  | inBlock g=>
   simp only [Km.exitTo,Go.exitTo];by_cases l:(g == id)=ae
   ·simp only [l,if_true];exact⟨b,rfl,j⟩
   ·simp only [l,ajo,if_false];exact m
  | _=>exact m
theorem vQ{n:Nat}(l:Nat):∀(a:av) (c:Code),bL Q σ n c a=ae→jd a=ae →
  match Km.findLabel a l with
  | some r=>∃ r',Go.findLabel c l=aa r'∧bL Q σ n r' r=ae| none=>Go.findLabel c l=ab:=by
 intro a;induction a with
 | seq a b m q=>
  intro c h g;simp only [jd,BY]at g;cases c with
  | seq c d=>
   simp only [bL,BY]at h;have j:=m c h.1 g.1;simp only [Km.findLabel,Go.findLabel];cases u:Km.findLabel a l with
   | some r=>
    rw [u]at j;obtain⟨r',v,x⟩:=j;simp only [v];exact⟨_,rfl,by simp [bL,x,h.2]⟩
   | none=>
    rw [u]at j;simp only [j];exact q d h.2 g.2
  | _=>simp [bL]at h
 | label z=>
  intro c h _;cases c with
  | label y=>
   simp only [bL,beq_iff_eq]at h;subst h;simp only [Km.findLabel,Go.findLabel];by_cases s:(y == l)=ae
   ·simp only [s,if_true];exact⟨_,rfl,by simp [bL]⟩
   ·simp only [s,ajo,if_false]
  | _=>simp [bL]at h
 | bad=>intro c h g;simp [jd]at g| _=>intro c h _;cases c<;>simp_all [bL,Km.findLabel,Go.findLabel]
theorem uz{n:Nat}(l:Nat):∀(k:List cD) (b:List Item),A2 (gr Q σ n X) k b →
  match Km.gotoIn l k with
  | some k'=>∃ d,Go.gotoIn l b=aa d∧A2 (gr Q σ n X) k' d| none=>Go.gotoIn l b=ab
 | [],b,h=>by
  have:b=[]:=ajk h.len.symm;subst this;rfl
 | x::k,[],h=>by have:=h.len;simp at this
 | x::k,y::b,h=>by
  obtain⟨v,j⟩:=h.of_cons;have u:=uz l k b j;cases v with
  | inScope q s=>
   rename_i a c;have g:=vQ (Q:=Q) (σ:=σ) l a c q s;simp only [Km.gotoIn,Go.gotoIn];cases m:Km.findLabel a l with
   | some r=>
    rw [m]at g;obtain⟨r',z,A⟩:=g;simp only [z];exact⟨_,rfl,A2.cons (.code A) (A2.cons (.inScope q s) j)⟩
   | none=>
    rw [m]at g;simp only [g];exact u
  | _=>exact u
def abx:Option av→List Item→Prop
 | none,b=>b=[]| some .ret,b=>∃ k,b=.code .ret::k| some (.exit id),b=>∃ k,b=.code (.exit id)::k∧Go.exitTo id k=ab| _,_=>False
end
section
open Go
variable{Q:Program}{σ:Nat→FuncId}{X:Wd}{call:dj}
theorem oM{b:Nat}{L:Loc}(x:SR Q σ X)(v:X.cd b=aa L){f:Nat}{t:T}{ps:List P}{as bd:av}{q:dz}{g:Option av}{d:Nat}(y:X.H[b]?=aa (.lp f t ps as bd q g d)) :
  ∃(n:Nat) (us:Array Value) (m:Array Tmp) (as' j:Code) (pend':Option Code) (u:Loc),
   X.w.heap[L.c]?=aa (.loop { state:=q.of,pending:=pend',fn:=σ f,tmps:=us,params:=m,assign:=as',body:=j,defers:=u.c }) ∧
   n≤us.size∧RR σ X t us∧fo (fun p (q:P)=>q.toNat == p&&decide (p<n)) m.toList ps=ae∧bL Q σ n as' as=ae∧bL Q σ n j bd=ae∧uP Q σ n g pend'∧X.cd d=aa u∧∃ o,X.H[d]?=aa (.fg o):=by
 obtain⟨_,_,bO,l,s⟩:=x.br b L v;rw [y]at l;cases l;exact s
theorem wO(J:SR Q σ X){b:Nat}{L:Loc}(I:X.cd b=aa L){f:Nat}{t:T}{ps:List P}{as bd:av}{q q':dz}{y pend1:Option av}{d:Nat}(s:X.H[b]?=aa (.lp f t ps as bd q y d))
  {n:Nat} {us:Array Value} {j:Array Tmp} {as' g:Code} {pend':Option Code} {u:Loc}
  (O:n≤us.size) (S:RR σ X t us) (U:fo (fun p (q:P)=>q.toNat == p&&decide (p<n)) j.toList ps=ae) (W:bL Q σ n as' as=ae) (Y:bL Q σ n g bd=ae) (Z:uP Q σ n pend1 pend') (a:X.cd d=aa u) (z:∃ o,X.H[d]?=aa (.fg o)) :
  SR Q σ { X with H:=X.H.set b (.lp f t ps as bd q' pend1 d),w:=X.w.putObj L.c (.loop { state:=q'.of,pending:=pend',fn:=σ f,tmps:=us,params:=j,assign:=as',body:=g,defers:=u.c }) } ∧
  Ext X.H.length X { X with H:=X.H.set b (.lp f t ps as bd q' pend1 d),w:=X.w.putObj L.c (.loop { state:=q'.of,pending:=pend',fn:=σ f,tmps:=us,params:=j,assign:=as',body:=g,defers:=u.c }) }:=by
 obtain⟨m,r,k,M,N,i,K,v,_⟩:=oM J I s;have A:b<X.H.length:=(IS.1 s).1;refine SR.po (o':=.loop { state:=q'.of,pending:=pend',fn:=σ f,tmps:=us,params:=j,assign:=as',body:=g,defers:=u.c }) (blk':=.lp f t ps as bd q' pend1 d) J s I v (by simp) (by simp)
  (fun bO l=>⟨.lp f t ps as bd q' pend1 d,by simp [A],by rw [s]at l;cases l;exact⟨⟨rfl,rfl,rfl,rfl,rfl,rfl⟩,fun L h=>h⟩⟩)
  (fun X' F E _ x c=>?_)
 obtain⟨o,z⟩:=z;refine⟨n,us,j,as',g,pend',u,E,O,RR.ext' σ F S,U,W,Y,Z,by rw [x];exact a,o,?_⟩;have B:b≠d:=fun e=>by rw [e,z]at s;cases s
 rw [c,sh B];exact z
end
section
open Go
variable{Q:Program}{σ:Nat→FuncId}{call:dj}
structure Way(Q:Program)(σ:Nat→FuncId)(fn:Nat)(n:Nat)(b:Frame)(cs:List Frame)(ro:Option Nat)(todo:List cD)(items:List Item)(s:St)(X:Wd)(a:Act):Prop where
 fr:Fr Q σ n X s a
 items:A2 (gr Q σ n X) todo items
 ro:RoR X ro b.roundOf
 kind:iw b cs
 fn:b.fn=σ fn
theorem Way.ext{fn n:Nat}{b:Frame}{cs:List Frame}{ro:Option Nat}{g:List cD}{items:List Item}{s l:St}{X X':Wd}{a a':Act}(h:Way Q σ fn n b cs ro g items s X a){todo':List cD}{d:List Item}(j:Ext X.H.length X X')(m:Fr Q σ n X' l a')
  (hi:A2 (gr Q σ n X) todo' d):Way Q σ fn n b cs ro todo' d l X' a':=
 ⟨m,hi.ko fun _ _ h=>h.ext j,h.ro.ext j,h.kind,h.fn⟩
theorem Way.to{fn n:Nat}{b:Frame}{cs:List Frame}{ro:Option Nat}{g:List cD}{items:List Item}{s:St}{X:Wd}{a:Act}(h:Way Q σ fn n b cs ro g items s X a){todo':List cD}{d:List Item}
  (hi:A2 (gr Q σ n X) todo' d):Way Q σ fn n b cs ro todo' d s X a:=⟨h.fr,hi,h.ro,h.kind,h.fn⟩
def afs(Q:Program)(σ:Nat→FuncId)(call:dj)(fn m:Nat):Prop:=
 ∀(n:Nat) (b:Frame) (cs:List Frame) ro l g s X a j q,run call fn m ro l s=aa (j,q)→Way Q σ fn n b cs ro l g s X a →
  ∃ X' a' d,Steps Q (lone (b.atR a g) cs X.w) (lone (b.atR a' d) cs X'.w)∧Fr Q σ n X' q a'∧Ext X.H.length X X'∧a'.tmps.size=a.tmps.size∧abx j d
theorem tM{b:Frame}{a:Act}{k:List Item}{cs:List Frame}{w:World}{body:Code}:step Q (lone (b.atR a (.inScope body::k)) cs w)=.next (lone (b.atR a k) cs w):=
 step_lone_go (by simp [stepG,stepG.exec,Frame.atR])
theorem zz{b:Frame}{a:Act}{k:List Item}{cs:List Frame}{w:World}{body:Code}:step Q (lone (b.atR a (.code (.scope body)::k)) cs w)=.next (lone (b.atR a (.code body::.inScope body::k)) cs w):=
 step_lone_go (by simp [stepG,stepG.exec,Frame.atR])
theorem S6(hC:eV Q σ call)(i4:Q.follows .mixedOrders=ae)(fn:Nat):∀ m,afs Q σ call fn m:=by
 intro m;induction m with
 | zero=>intro n b cs ro d9 H s X a E s' h;simp [run]at h
 | succ m ih=>
  intro n b cs ro d9 H s X a E s' h z;have go:∀ {todo' j},run call fn m ro todo' s=aa (E,s')→A2 (gr Q σ n X) todo' j→step Q (lone (b.atR a H) cs X.w)=.next (lone (b.atR a j) cs X.w) →
    ∃ X' a' j,Steps Q (lone (b.atR a H) cs X.w) (lone (b.atR a' j) cs X'.w)∧Fr Q σ n X' s' a'∧Ext X.H.length X X'∧a'.tmps.size=a.tmps.size∧abx E j:=by
   intro todo' j hr hi S;obtain⟨X',a',it,g1,M⟩:=ih n b cs ro todo' j s X a E s' hr (z.to hi);exact⟨X',a',it,.head S g1,M⟩
  cases d9 with
  | nil=>
   have:H=[]:=ajk z.items.len.symm;subst this;simp only [run,AI,OF]at h;obtain⟨rfl,rfl⟩:=h;exact⟨X,a,[],Steps.refl _ _,z.fr,Ext.refl _ _,rfl,rfl⟩
  | cons x k=>
   cases H with
   | nil=>have:=z.items.len;simp at this
   | cons it K=>
    obtain⟨hx,A⟩:=z.items.of_cons;cases hx with
    | inBlock id=>exact go (by simpa [run]using h) A stepR_inBlock
    | inLoop B=>exact go (by simpa [run]using h) (A2.cons (.code B) (A2.cons (.inLoop B) A)) stepR_inLoop
    | inScope B hs=>exact go (by simpa [run]using h) A tM
    | iO hb hl=>
     rename_i bb L;simp only [run]at h;split at h
     ·rename_i f t ps as bd q c_ d I;split at h
      ·simp at h
      ·rename_i hq;rw [←z.fr.heap]at I;obtain⟨m0,us,Z,as',U,pend',Ld,a_,h2,h3,h4,h5,h6,W,h8,h9⟩:=oM z.fr.sr hb I;obtain⟨g1,M⟩:=wO z.fr.sr hb I (q':=.exhausted) h2 h3 h4 h5 h6 W h8 h9;have j9:(q.of)≠LoopState.busy:=by cases q<;>simp [dz.of]at hq ⊢
       have S:=stepR_endRangeFunc (P:=Q) (b:=b) (a:=a) (k:=K) (cs:=cs) (run_endLoop (P:=Q) a_ j9);have key:∀ {todo' j},run call fn m ro todo' { s with heap:=s.heap.set bb (.lp f t ps as bd .exhausted c_ d) }=aa (E,s')→A2 (gr Q σ n X) todo' j→j=(pend'.map Item.code).toList++K →
         ∃ X' a' j,Steps Q (lone (b.atR a (.endRangeFunc L.c::K)) cs X.w) (lone (b.atR a' j) cs X'.w)∧Fr Q σ n X' s' a'∧Ext X.H.length X X'∧a'.tmps.size=a.tmps.size∧abx E j:=by
        intro todo' j hr hi he;obtain⟨X',a',it,k1,k2,k3,k4,k5⟩:=ih n b cs ro todo' j _ _ a E s' hr (z.ext (a':=a) M ⟨by rw [←z.fr.heap],g1,by simpa [World.putObj]using z.fr.b,z.fr.aB.ext' σ M,z.fr.defs.ext' M,z.fr.size⟩ hi);rw [he]at k1;exact⟨X',a',it,.head S k1,k2,M.trans (k3.mono M.len),k4,k5⟩
       split at h
       ·cases pend' with
        | none=>exact key h A rfl| some c=>exact W.elim
       ·cases pend' with
        | none=>exact W.elim
        | some c=>
         have W:bL Q σ m0 c .ret=ae:=W;cases c<;>simp [bL]at W;exact key h (A2.cons (.code (by simp [bL])) A) rfl
       ·rename_i id;cases pend' with
        | none=>exact W.elim
        | some c=>
         have W:bL Q σ m0 c (.exit id)=ae:=W;cases c<;>simp [bL]at W;subst W;exact key h (A2.cons (.code (by simp [bL])) A) rfl
       ·simp at h
     ·simp at h
    | ny=>
     simp only [run]at h;split at h
     ·simp at h
     ·rename_i bb;split at h
      ·rename_i f t ps as bd c_ d I;have J:=z.ro;cases e_:b.roundOf with
       | none=>rw [e_]at J;exact J.elim
       | some l=>
        rw [e_]at J;obtain⟨L,hL,rfl,_⟩:=J;rw [←z.fr.heap]at I;obtain⟨m0,us,Z,as',U,pend',Ld,a_,h2,h3,h4,h5,h6,W,h8,h9⟩:=oM z.fr.sr hL I;obtain⟨g1,M⟩:=wO z.fr.sr hL I (q':=.busy) h2 h3 h4 h5 h6 W h8 h9;have S:=stepR_beginRound (P:=Q) (b:=b) (a:=a) (k:=K) (cs:=cs) e_ (run_beginRound (P:=Q) a_ rfl);obtain⟨X',a',it,k1,k2,k3,k4,k5⟩:=ih n b cs _ k K _ _ a E s' h (z.ext (a':=a) M ⟨by rw [←z.fr.heap],g1,by simpa [World.putObj]using z.fr.b,z.fr.aB.ext' σ M,z.fr.defs.ext' M,z.fr.size⟩ A);exact⟨X',a',it,.head S k1,k2,M.trans (k3.mono M.len),k4,k5⟩
      ·simp at h
    | code B=>
     rename_i ac c;cases ac with
     | bad=>simp [run]at h| skip=>cases c<;>simp [bL]at B;exact go (by simpa [run]using h) A stepR_skip
     | label l=>cases c<;>simp [bL]at B;exact go (by simpa [run]using h) A stepR_label
     | scope p=>
      cases c<;>simp [bL]at B;exact go (by simpa [run]using h) (A2.cons (.code B.1) (A2.cons (.inScope B.1 B.2) A)) zz
     | goto l=>
      cases c<;>simp [bL]at B;subst B;rename_i l';have O:=uz (Q:=Q) (σ:=σ) (n:=n) (X:=X) l' k K A;simp only [run]at h;split at h
      ·rename_i k' F;rw [F]at O;obtain⟨n8,he,a8⟩:=O;exact go h a8 (stepR_goto he)
      ·simp at h
     | ret=>
      cases c<;>simp [bL]at B;simp only [run,AI,OF]at h;obtain⟨rfl,rfl⟩:=h;exact⟨X,a,_,Steps.refl _ _,z.fr,Ext.refl _ _,rfl,K,rfl⟩
     | seq p q=>
      cases c<;>simp [bL]at B;exact go (by simpa [run]using h) (A2.cons (.code B.1) (A2.cons (.code B.2) A)) stepR_seq
     | block id p=>
      cases c<;>simp [bL]at B;obtain⟨rfl,B⟩:=B;exact go (by simpa [run]using h) (A2.cons (.code B) (A2.cons (.inBlock _) A)) stepR_block
     | loop p=>
      cases c<;>simp [bL]at B;exact go (by simpa [run]using h) (A2.cons (.code B) (A2.cons (.inLoop B) A)) stepR_loop
     | exit id=>
      cases c<;>simp [bL]at B;subst B;rename_i n6;have O:=ur (Q:=Q) (σ:=σ) (n:=n) (X:=X) n6 k K A;simp only [run]at h;split at h
      ·rename_i k' F;rw [F]at O;obtain⟨n8,he,a8⟩:=O;exact go h a8 (stepR_exit he)
      ·rename_i F;rw [F]at O;split at h
       ·simp only [AI,OF]at h;obtain⟨rfl,rfl⟩:=h;exact⟨X,a,_,Steps.refl _ _,z.fr,Ext.refl _ _,rfl,K,rfl,O⟩
       ·simp at h
     | cond x p q=>
      cases c<;>simp [bL]at B;simp only [run]at h;split at h
      ·rename_i v hv;have hx:=bN z.fr.aB B.1.1;rw [hv]at hx;have m_:cJ σ X.F X.w (.bool v) _:=hx;have he:∀ u,cJ σ X.F X.w (.bool v) u→u=.bool v:=fun u hu=>by cases hu;rfl
       refine go h ?_ (stepR_cond (he _ m_));cases v
       ·exact A2.cons (.code B.2) A
       ·exact A2.cons (.code B.1.2) A
      ·simp at h
     | region aos iF=>
      cases c with
      | region id ops n9=>
       simp only [run]at h;split at h
       ·simp at h
       ·rename_i J;split at h
        ·rename_i s1 h1;have j_:∀ y ∈ aos,gd y.op b:=by
          intro y hy;unfold gd;cases ro with
          | none=>
           refine .inl ?_;have:=z.ro;cases hb:b.roundOf with
           | none=>rfl| some l=>rw [hb]at this;exact this.elim
          | some r=>
           simp only [Option.isSome_some,Bool.true_and,akA,Bool.not_eq_false]at J;exact .inr (aji.1 J y hy)
         obtain⟨X1,a1,g1,M,g3,g4⟩:=Iq hC i4 B z.kind j_ (k:=K) z.fr h1;obtain⟨X',a',it,k1,k2,k3,k4,k5⟩:=ih n b cs ro k K s1 X1 a1 E s' h (z.ext g3 M A);exact⟨X',a',it,g1.trans k1,k2,g3.trans (k3.mono g3.len),k4.trans g4,k5⟩
        ·simp at h
      | _=>simp [bL]at B
     | gj f ps as bd=>
      cases c with
      | rangeFunc f' Z as' U=>
       simp only [bL,BY]at B;obtain⟨⟨⟨j3,j4⟩,j7⟩,j8⟩:=B;simp only [run]at h;split at h
       ·simp at h
       ·rename_i J;have k_:b.roundOf=ab:=by
         have:=z.ro;cases ro with
         | some r=>simp at J
         | none=>
          cases hb:b.roundOf with
          | none=>rfl| some l=>rw [hb]at this;exact this.elim
        split at h
        ·rename_i g args h_;split at h
         ·rename_i r2 H2 N;obtain⟨X1,w1,H1,S1,E1,r1,B1⟩:=SR.new z.fr.sr z.fr.b (.fg ae) (dR.alloc X.w (.deferred (aa []))) 0 (fun X' hx hw hF hH=>by
           show X'.w.heap[X.w.heap.size]?=_;rw [hw];exact(dR.alloc X.w (.deferred (aa []))).new)
          have i3:X1.H[X.H.length]?=aa (.fg ae):=by rw [H1];simp
          have b_:X.H.length<X1.H.length:=by rw [H1];simp
          have i6:X1.w.heap.size=X.w.heap.size+1:=by rw [w1];simp
          obtain⟨X2,w2,i7,S2,E2,f8,B2⟩:=SR.new S1 B1 (.lp fn s.aB ps as bd .ready ab s.heap.length)
           (dR.alloc X1.w (.loop { state:=.ready,pending:=ab,fn:=b.fn,tmps:=a.tmps,params:=Z,assign:=as',body:=U,defers:=X.w.heap.size })) 0 (fun X' hx hw hF hH=>by
            obtain⟨blk',d_,F⟩:=hx.bf X.H.length b_ _ i3;cases blk'<;>simp only at F;refine⟨n,a.tmps,Z,as',U,ab,⟨X.w.heap.size,0⟩,?_,z.fr.size,RR.ext' σ hx (RR.ext' σ E1 z.fr.aB),j4,j7,j8,trivial,?_,?_⟩
            ·show X'.w.heap[X1.w.heap.size]?=_;rw [hw,(dR.alloc X1.w (.loop { state:=.ready,pending:=ab,fn:=b.fn,tmps:=a.tmps,params:=Z,assign:=as',body:=U,defers:=X.w.heap.size })).new,z.fn];rfl
            ·rw [←z.fr.heap];exact F _ r1
            ·rw [←z.fr.heap];exact⟨_,d_⟩)
          have f7:Ext X.H.length X X2:=E1.trans (E2.mono E1.len);have f_:X2.H=s.heap++[.fg ae,.lp fn s.aB ps as bd .ready ab s.heap.length]:=by rw [i7,H1,←z.fr.heap];simp
          have i_:X1.H.length=s.heap.length+1:=by rw [H1,←z.fr.heap];simp
          have I:Aj X2 (s.heap.length+1):=⟨fn,s.aB,ps,as,bd,.ready,ab,s.heap.length,by rw [f_,aje (by omega)];simp⟩
          rw [i_,i6]at f8;have g_:A2 (VR σ X2) [.c (.yl (s.heap.length+1))] [.func (.yield (X.w.heap.size+1)) #[] #[]]:=A2.cons ⟨⟨X.w.heap.size+1,0⟩,f8,I,rfl⟩ A2.nil;obtain⟨fst,cap,l_,m9⟩:=nK h_ (VR.ext' σ f7 (bN z.fr.aB j3)) g_;rw [←f_]at N;have i9:=hC.enters _ _ _ _ N
          let a1:Act:={ a with defers:={ target:=.collected X.w.heap.size,args:=#[] }::a.defers }
          obtain⟨fr,X3,u,q1,⟨l1,l2,l3,l4,fn',l5,l6⟩,q3,q4,q5,q6,q7⟩:=hC.fn g args _ r2 H2 N X2 _ .normal (b.atR a1 (.inRangeFunc (X.w.heap.size+1)::K)::cs) rfl S2 B2 m9 (.inl rfl) (.inl rfl);have S:step Q (lone (b.atR a (.code (.rangeFunc f' Z as' U)::K)) cs X.w)=.next (lone (Frame.enter Q (σ g) (fst.toArray++#[.func (.yield (X.w.heap.size+1)) #[] #[]]++cap.toArray) .normal) (b.atR a1 (.inRangeFunc (X.w.heap.size+1)::K)::cs) X2.w):=by
           refine stepR_rangeFunc (P:=Q) (b:=b) (a:=a) (k:=K) (cs:=cs) (l:=X.w.heap.size+1) (mark:=[{ target:=.collected X.w.heap.size,args:=#[] }]) (w₁:=X2.w) (w₁':=X2.w) (d:={ target:=.fn (.func (σ g)) cap.toArray,args:=fst.toArray++#[.func (.yield (X.w.heap.size+1)) #[] #[]] }) ?_ ?_ ?_
           ·rw [k_,run_enterLoop_outer,w2,w1]
           ·simp only [resolve,l_,Deferred.ofValue,Sem.run_bind,Sem.run_pure,Result.andThen_ok];simp [Act.eval]
           ·exact eL i9
          have Y:Ext X.H.length X X3:=f7.trans (q6.mono f7.len);have a7:=step_leave_returned (P:=Q) (c:=b.atR a1 (.inRangeFunc (X.w.heap.size+1)::K)) (cs:=cs) (show fr.leaving Q X3.w (.returned u) from⟨l1,l2,l3,fn',by rw [l4];exact l5,l6⟩);rw [finish_atR_inRangeFunc]at a7;have c9:=I.ext q6;have i8:ru σ X3 (.er s.heap.length) { target:=.collected X.w.heap.size,args:=#[] }:=by
           obtain⟨blk',d_,F⟩:=(E2.trans (q6.mono E2.len)).bf X.H.length b_ _ i3;cases blk'<;>simp only at F;rw [←z.fr.heap];exact⟨⟨X.w.heap.size,0⟩,_,F _ r1,d_,rfl⟩
          obtain⟨X',a',it,k1,k2,k3,k4,k5⟩:=ih n b cs ro (.iO (s.heap.length+1)::k) (.endRangeFunc (X.w.heap.size+1)::K) _ X3 a1 E s' h
           ⟨⟨q3,q4,q7,RR.ext' σ Y z.fr.aB,A2.cons i8 (z.fr.defs.ext' Y),z.fr.size⟩,A2.cons (.iO (c9.2 _ f8) c9.1) (A.ko fun _ _ h=>h.ext Y),z.ro.ext Y,z.kind,z.fn⟩
          refine⟨X',a',it,.head S (Steps.trans ?_ (.head a7 k1)),k2,Y.trans (k3.mono Y.len),k4,k5⟩;simpa using q1
         ·simp at h
        ·simp at h
      | _=>simp [bL]at B
end
section
open Go
variable{Q:Program}{σ:Nat→FuncId}{X:Wd}{call:dj}
def Q3(Q:Program)(σ:Nat→FuncId)(nB:Nat→List V→an→Option (Option (V × an))):Prop:=
 ∀ f args H r H',nB f args H=aa (aa (r,H')) →
  (∀ as w,(callFunc (σ f) as).run Q w=.ok (.enter (σ f) as) w) ∧
  ∀(X:Wd) us b cs,X.H=H→SR Q σ X→X.B≤X.w.heap.size→A2 (VR σ X) args us→nR b cs→b=.normal∨f≠vY →
   ∃ fr X' u,Steps Q (lone (Frame.enter Q (σ f) us.toArray b) cs X.w) (lone fr cs X'.w)∧Leaves Q (σ f) b fr u X'.w∧fE Q σ X r H' X' u
structure Env(Q:Program)(σ:Nat→FuncId)(tab:Nat→Option aK)(nB:Nat→List V→an→Option (Option (V × an))):Prop where
 mix:Q.follows .mixedOrders=ae
 fn:∀ f af,tab f=aa af→∃ fn,Q.funcs[σ f]?=aa fn∧uO Q σ fn af=ae
 nB:Q3 Q σ nB
theorem nW:∀(ps:List P) (args:List V) (t:T) (s:Nat),ps.map P.toNat=List.range' s ps.length→args.length=ps.length→∀ q:P,
  (bV ps args t).get q=if s≤q.toNat then(args[q.toNat-s]?).getD (t.get q)else t.get q
 | [],args,t,s,_,b,q=>by
  have:args=[]:=ajk b;subst this;simp [bV]
 | p::ps,[],t,s,_,b,q=>by simp at b
 | p::ps,v::y,t,s,d,b,q=>by
  simp only [ajd,ajL,List.range'_succ,List.cons.injEq]at d;have x:=nW ps y (t.set p v) (s+1) d.2 (by simpa using b) q;simp only [bV,x];by_cases j:p=q
  ·subst j;rw [aR (by omega),T.oE];simp [d.1]
  ·have u:q.toNat≠s:=fun e=>j (P.toNat_inj (d.1.trans e.symm));simp only [T.oE,j,if_false];by_cases l:s≤q.toNat
   ·have g:s+1≤q.toNat:=by omega
    have m:q.toNat-s=(q.toNat-(s+1))+1:=by omega
    simp [g,l,m]
   ·have g:¬ (s+1≤q.toNat):=by omega
    simp [g,l]
theorem RR.bV:∀(ps:List P) (b:List Tmp) (args:List V) (us:List Value) (aB:T) (tmps:Array Value) (n:Nat),n≤tmps.size→RR σ X aB tmps→A2 (VR σ X) args us→args.length=ps.length →
  fo (fun p (q:P)=>q.toNat == p&&decide (p<n)) b ps=ae→RR σ X (Km.bV ps args aB) ((b.zip us).foldl (fun tmps (t,a)=>tmps.setIfInBounds t a) tmps)
 | [],b,args,us,aB,tmps,n,j,g,d,hl,h=>by
  have:args=[]:=ajk hl;subst this;have:us=[]:=ajk d.len.symm;subst this;simpa [Km.bV]using g
 | p::ps,[],args,us,aB,tmps,n,j,g,d,hl,h=>by simp [fo]at h
 | p::ps,m::b,[],us,aB,tmps,n,j,g,d,hl,h=>by simp at hl
 | p::ps,m::b,v::s,[],aB,tmps,n,j,g,d,hl,h=>by have:=d.len;simp at this
 | p::ps,m::b,v::s,u::us,aB,tmps,n,j,g,d,hl,h=>by
  simp only [fo,BY,beq_iff_eq,decide_eq_true_eq]at h;obtain⟨⟨h1,h2⟩,h3⟩:=h;obtain⟨l,d⟩:=d.of_cons;subst h1;refine RR.bV ps b s us _ _ n (by simpa using j) (RR.set σ g (by omega) l) d (by simpa using hl) h3
theorem qG:∀(l:List (Tmp × Value)) (tmps:Array Value),(l.foldl (fun tmps (t,a)=>tmps.setIfInBounds t a) tmps).size=tmps.size
 | [],_=>rfl| x::l,tmps=>by rw [akP,qG l];simp
theorem S5(fn:Nat):∀ m d s b j,run call fn m ab d s=aa (b,j)→b=ab∨b=aa .ret:=by
 intro m;induction m with
 | zero=>intro d s b j h;simp [run]at h
 | succ m g=>
  intro d s b j h;unfold run at h;split at h
  all_goals first
   | exact g _ _ _ _ h
   | (simp at h;done)
   | skip
  ·simp only [AI,OF]at h;exact .inl h.1.symm
  ·split at h
   ·split at h
    ·simp at h
    ·split at h
     ·exact g _ _ _ _ h
     ·exact g _ _ _ _ h
     ·exact g _ _ _ _ h
     ·simp at h
   ·simp at h
  ·split at h
   ·exact g _ _ _ _ h
   ·simp at h
  ·simp only [AI,OF]at h;exact .inr h.1.symm
  ·split at h
   ·exact g _ _ _ _ h
   ·simp at h
  ·split at h
   ·exact g _ _ _ _ h
   ·simp at h
  ·split at h
   ·simp at h
   ·split at h
    ·exact g _ _ _ _ h
    ·simp at h
  ·split at h
   ·simp at h
   ·simp only at h;split at h
    ·split at h
     ·exact g _ _ _ _ h
     ·simp at h
    ·simp at h
theorem qz{fn:Func}{af:aK}(h:uO Q σ fn af=ae):∃ c,fn.name≠ "runtime.NumGoroutine"∧fn.body=aa c∧bL Q σ fn.ntmps c af.body=ae ∧
  fo (tE Q fn.ntmps) fn.results.toList af.results=ae∧af.ps.map P.toNat=List.range af.ps.length:=by
 simp only [uO,BY,bne_iff_ne,ne_eq,decide_eq_true_eq]at h;obtain⟨⟨⟨h1,h2⟩,h3⟩,h4⟩:=h;cases hb:fn.body with
 | none=>rw [hb]at h2;simp at h2| some c=>rw [hb]at h2;exact⟨c,h1,rfl,h2,h3,h4⟩
theorem wG{f:FuncId}{fn:Func}{c:Code}(hf:Q.funcs[f]?=aa fn)(hn:fn.name≠ "runtime.NumGoroutine")(hb:fn.body=aa c)(as:Array Value)(w:World):(callFunc f as).run Q w=.ok (.enter f as) w:=by
 simp [callFunc,hf,hn,hb]
def iE(g:FuncId)(b:CallKind)(tmps:Array Value)(ds:List Deferred)(fr:Frame):Prop:=
 fr.mode=.returning∧fr.defers=ds∧fr.kind=b∧fr.fn=g∧fr.tmps=tmps
theorem step_collected{fr:Frame}{cs:List Frame}{w w':World}{b:Nat}{as:Array Value}{ds:List Deferred}(g:fr.mode=.returning)(d:fr.defers = { target:=.collected b,args:=as }::ds)
  (j:(Instr.takeDeferred b).run Q w=.ok [] w'):step Q (lone fr cs w)=.next (lone { fr with defers:=ds } cs w'):=
 step_lone_go (by simp [stepG,unwind,g,d,Sem.runT_eq,j])
theorem tN{fr:Frame}{cs:List Frame}{w:World}{f:FuncId}{cap as as':Array Value}{ds:List Deferred}(d:fr.mode=.returning)(b:fr.defers = { target:=.fn (.func f) cap,args:=as }::ds)
  (g:(invoke (.fn (.func f) cap) as).run Q w=.ok (.enter f as') w):step Q (lone fr cs w)=.next (lone (Frame.enter Q f as' .deferred) ({ fr with defers:=ds }::cs) w):=
 step_lone_go (by simp [stepG,unwind,d,b,callDeferred,Sem.runT_eq,g])
theorem nC{fr c:Frame}{cs:List Frame}{w:World}{v:Value}{f:FuncId}(h:Leaves Q f .deferred fr v w)(hc:c.mode=.returning) :
  step Q (lone fr (c::cs) w)=.next (lone c cs w):=by
 obtain⟨m,g,l,j,fn,b,d⟩:=h;rw [←j]at b;exact step_lone_go (by simp [stepG,unwind,doReturn,m,g,l,b,Sem.runT_eq,d,hc])
theorem iE.pop{g:FuncId}{kind:CallKind}{tmps:Array Value}{d:Deferred}{ds:List Deferred}{fr:Frame}(h:iE g kind tmps (d::ds) fr):iE g kind tmps ds { fr with defers:=ds }:=
 ⟨h.1,rfl,h.2.2.1,h.2.2.2.1,h.2.2.2.2⟩
theorem vO(F:eV Q σ call){g:FuncId}{x:CallKind}{tmps:Array Value}{cs:List Frame}:∀(ds:List eU) (X:Wd) (l:List Deferred) (fr:Frame) (H':an),
  dV call ds X.H=aa H'→SR Q σ X→X.B≤X.w.heap.size→fD σ X ds l→iE g x tmps l fr →
  ∃ fr' X',Steps Q (lone fr cs X.w) (lone fr' cs X'.w)∧iE g x tmps [] fr'∧X'.H=H'∧SR Q σ X'∧X'.B≤X'.w.heap.size∧Ext X.H.length X X'
 | [],X,l,fr,H',h,A,B,y,j=>by
  have:l=[]:=ajk y.len.symm;subst this;simp only [dV,AI]at h;exact⟨fr,X,Steps.refl _ _,j,h,A,B,Ext.refl _ _⟩
 | d::ds,X,[],fr,H',h,A,B,y,j=>by have:=y.len;simp at this
 | .er b::ds,X,m::l,fr,H',h,A,B,y,j=>by
  obtain⟨⟨L,o,h1,h2,rfl⟩,z⟩:=A2.of_cons y;simp only [dV]at h;split at h
  ·rename_i H;obtain⟨_,_,bO,E,J⟩:=A.br b L h1;rw [H]at E;cases E;have v:X.w.heap[L.c]?=aa (.deferred (aa [])):=J;obtain⟨g1,I⟩:=SR.po (o':=.deferred ab) (blk':=.fg ag) A H h1 v (by simp) (by simp)
    (fun bO s=>⟨.fg ag,by simp [(IS.1 H).1],by rw [H]at s;cases s;exact fun L h=>h⟩)
    (fun X' a_ N _ a7 hH=>N)
   obtain⟨fr',X',O,S,U,W,Y,Z⟩:=vO F ds _ l { fr with defers:=l } H' h g1 (by simpa using B) (fD.ext' I z) j.pop;exact⟨fr',X',.head (step_collected j.1 j.2.1 (run_takeDeferred v)) O,S,U,W,Y,I.trans (Z.mono I.len)⟩
  ·simp at h
 | .fn f args::ds,X,m::l,fr,H',h,A,B,y,j=>by
  obtain⟨⟨us,cap,rfl,hA⟩,z⟩:=A2.of_cons y;simp only [dV]at h;split at h
  ·simp at h
  rename_i M;split at h
  ·rename_i r H1 q;have K:=F.enters f args _ _ q;obtain⟨a8,X1,u,q1,q2,q3,q4,q5,q6,q7⟩:=F.fn f args _ r H1 q X _ .deferred ({ fr with defers:=l }::cs) rfl A B hA (.inr ⟨rfl,_,_,rfl,j.1⟩) (.inr M);rw [←q3]at h;obtain⟨fr',X',O,S,U,W,Y,Z⟩:=vO F ds X1 l { fr with defers:=l } H' h q4 q7 (fD.ext' q6 z) j.pop;refine⟨fr',X',.head (tN (as':=us++cap) j.1 j.2.1 (eL K)) (Steps.trans ?_ (.head (nC (c:={ fr with defers:=l }) q2 j.1) O)),S,U,W,Y,q6.trans (Z.mono q6.len)⟩;have e:(us.toList++cap.toList).toArray=us++cap:=by apply Array.ext';simp
   rw [e]at q1;exact q1
  ·simp at h
theorem adL(E:SR Q σ X){n:Nat}{aB:T}{tmps:Array Value}(m:RR σ X aB tmps){r:ResultVar}{a:gA}(g:tE Q n r a=ae){v:V}
  (h:cC aB X.H a=aa v):∃ u,(match r with | .tmp t=>pure (tmps.getD t undef) | .cell a t=>do loadVar t (←asAddr (tmps.getD a undef)):Sem Value).run Q X.w=.ok u X.w∧ig σ X v u:=by
 cases r with
 | tmp t=>
  cases a with
  | tmp p=>
   simp only [tE,BY,beq_iff_eq,decide_eq_true_eq]at g;have d:=m p;rw [g.1]at d;simp only [cC]at h;refine⟨_,rfl,?_⟩;split at h
   ·simp at h
   ·rename_i j;simp only [AI]at h;rw [h]at d;cases v with
    | t H=>exact absurd h (j H)| top=>trivial| c x=>exact d| a xs=>exact d
  | cell p k=>simp [tE]at g
 | cell t I=>
  cases a with
  | tmp p=>simp [tE]at g
  | cell p k=>
   simp only [tE,BY,beq_iff_eq,decide_eq_true_eq]at g;have d:=m p;rw [g.1.1]at d;simp only [cC]at h;cases q:aB.get p with
   | c x=>
    rw [q]at h d;simp only [aU,ajx]at h;obtain⟨cs,s,b⟩:=h;obtain⟨c,o,us,F,z,A⟩:=rE E d s;obtain⟨u,B,l⟩:=zA g.2 z A b;refine⟨u,by simp [F,asAddr,B],?_⟩;cases k with
    | none=>cases cs with
     | nil=>simp [aW]at b| cons y ys=>simp only [aW,AI]at b;subst b;exact l
    | some k=>
     simp only [aW]at b;split at b
     ·simp only [AI]at b;subst b;exact l
     ·simp at b
   | _=>rw [q]at h;simp [aU]at h
theorem AP(K:SR Q σ X){fn:Func}{m:List gA}(L:fo (tE Q fn.ntmps) fn.results.toList m=ae){aB:T}{tmps:Array Value}(J:RR σ X aB tmps){v:V}
  (h:Km.results aB X.H m=aa v):∃ u,(Go.results fn tmps).run Q X.w=.ok u X.w∧VR σ X v u:=by
 have key:∀(m:List gA) (qs:List ResultVar) (j:List V),fo (tE Q fn.ntmps) qs m=ae→aZ (cC aB X.H) m=aa j →
   ∃ us:List Value,(qs.mapM (fun r=>match r with | .tmp t=>pure (tmps.getD t undef) | .cell a t=>do loadVar t (←asAddr (tmps.getD a undef)):ResultVar→Sem Value)).run Q X.w=.ok us X.w∧A2 (ig σ X) j us:=by
  intro m;induction m with
  | nil=>
   intro qs j x l;cases qs with
   | nil=>simp only [aZ,AI]at l;subst l;exact⟨[],rfl,A2.nil⟩| cons q qs=>simp [fo]at x
  | cons a m M=>
   intro qs j x l;cases qs with
   | nil=>simp [fo]at x
   | cons q qs=>
    simp only [fo,BY]at x;simp only [aZ]at l;split at l
    ·simp at l
    ·rename_i A E;split at l
     ·simp at l
     ·rename_i B F;simp only [AI]at l;subst l;obtain⟨u,s,b⟩:=adL K J x.1 E;obtain⟨us,H,I⟩:=M qs B x.2 F;refine⟨u::us,?_,A2.cons b I⟩;rw [List.mapM_cons,Sem.run_bind,s];simp only [Result.andThen_ok,Sem.run_bind,H,Sem.run_pure]
 unfold Km.results at h;have y:∀ j,aZ (cC aB X.H) m=aa j→∃ us:List Value,(Go.results fn tmps).run Q X.w=.ok (if h:us.toArray.size=1 then us.toArray[0]else .tuple us.toArray) X.w∧A2 (ig σ X) j us:=by
  intro j g;obtain⟨us,s,b⟩:=key m fn.results.toList j L g;refine⟨us,?_,b⟩;unfold Go.results;rw [Array.mapM_eq_mapM_toList,Sem.run_bind,Sem.run_map];exact(congrArg (fun r:Result (List Value)=>(r.andThen fun a w'=>Result.ok a.toArray w').andThen fun a w'=>Sem.run Q (pure (if h:a.size=1 then a[0]else Value.tuple a)) w') s).trans rfl
 split at h
 ·rename_i A g;simp only [AI]at h;subst h;obtain⟨us,s,b⟩:=y _ g
  match us,b with
  | [u],b=>exact⟨u,s,VR.TF σ b.of_cons.1⟩| [],b=>have:=b.len;simp at this| _::_::_,b=>have:=b.len;simp at this
 ·rename_i j z g;simp only [AI]at h;subst h;obtain⟨us,s,b⟩:=y _ g;refine⟨.tuple us.toArray,?_,us,rfl,b⟩;rw [s,dif_neg];intro d
  match us,d with
  | [u],_=>
   match j,b with
   | [A],_=>exact z A rfl| [],b=>have:=b.len;simp at this| _::_::_,b=>have:=b.len;simp at this
  | [],d=>simp at d| _::_::_,d=>simp at d
 ·simp at h
end
section
open Go
variable{Q:Program}{σ:Nat→FuncId}{tab:Nat→Option aK}{nB:Nat→List V→an→Option (Option (V × an))}
theorem afV(o:Env Q σ tab nB){m:Nat}{call:dj}(n:eV Q σ call){f:Nat}{j:aK}(K:tab f=aa j){args:List V}(H:args.length=j.ps.length){y:Option av}{B:St}{X:Wd}
  (x:run call f m ab [.code j.body] ⟨bV j.ps args .e,[],X.H⟩=aa (y,B)) {H':an} (l:dV call B.defs B.heap=aa H') {r:V} (v:Km.results B.aB H' j.results=aa r)
  {us:List Value} {d:CallKind} {cs:List Frame} (hS:SR Q σ X) (hB:X.B≤X.w.heap.size) (i:A2 (VR σ X) args us) (hk:nR d cs) :
  ∃ fr X' u,Steps Q (lone (Frame.enter Q (σ f) us.toArray d) cs X.w) (lone fr cs X'.w)∧Leaves Q (σ f) d fr u X'.w∧fE Q σ X r H' X' u:=by
 obtain⟨fn,t,hm⟩:=o.fn f j K;obtain⟨c,O,z,A,U,S⟩:=qz hm
 let b:Frame:=Frame.enter Q (σ f) us.toArray d
 let q:Act:={ tmps:=us.toArray++Array.replicate (fn.ntmps-us.toArray.size) undef,defers:=[] }
 have hb:b=b.atR q [.code c]:=by
  simp [b,q,Frame.enter,Frame.atR,t,z]
 have W:fn.ntmps≤q.tmps.size:=by simp [q];omega
 have N:RR σ X (bV j.ps args .e) q.tmps:=by
  intro p;rw [nW j.ps args .e 0 (by rw [S,List.range_eq_range']) H p];simp only [akh,if_true,Nat.sub_zero];by_cases w:p.toNat<args.length
  ·have hx:=By w;have I:p.toNat<us.length:=i.len▸w;have hy:=By I;have hv:=i.2 _ _ _ hx hy;rw [hx];have:q.tmps.getD p.toNat undef=us[p.toNat]:=by
    simp [q,Array.getD_eq_getD_getElem?,Array.getElem?_append,I]
   rw [this];exact hv
  ·rw [List.getElem?_eq_none (by omega)];cases p<;>trivial
 have hF:Fr Q σ fn.ntmps X ⟨bV j.ps args .e,[],X.H⟩ q:=⟨rfl,hS,hB,N,A2.nil,W⟩
 have hW:Way Q σ f fn.ntmps b cs ab [.code j.body] [.code c] ⟨bV j.ps args .e,[],X.H⟩ X q:=⟨hF,A2.cons (.code A) A2.nil,trivial,hk,rfl⟩
 obtain⟨L,a1,g,s1,E,Y,_,Z⟩:=S6 n o.mix f m fn.ntmps b cs ab _ _ _ X q y B x hW;have J:∃ s,Steps Q (lone (b.atR a1 g) cs L.w) (lone s cs L.w)∧iE (σ f) d a1.tmps a1.defers s:=by
  rcases S5 f m _ _ _ _ x with rfl | rfl
  ·have:g=[]:=Z;subst this;exact⟨_,.one (stepR_end rfl),rfl,rfl,rfl,rfl,rfl⟩
  ·obtain⟨k,rfl⟩:=Z;exact⟨_,.one (stepR_ret rfl),rfl,rfl,rfl,rfl,rfl⟩
 obtain⟨s,s2,R1⟩:=J;rw [←E.heap]at l;obtain⟨M,X2,s3,F,a,e,h3,h⟩:=vO n (cs:=cs) B.defs L a1.defers s H' l E.sr E.b E.defs R1;rw [←a]at v;obtain⟨u,g1,g2⟩:=AP e U (RR.ext' σ h E.aB) v;refine⟨M,X2,u,?_,⟨F.1,F.2.1,F.2.2.1,F.2.2.2.1,fn,t,by rw [F.2.2.2.2];exact g1⟩,a,e,g2,Y.trans (h.mono Y.len),h3⟩;show Steps Q (lone b cs X.w) _;rw [hb];exact s1.trans (s2.trans s3)
theorem TA(hE:Env Q σ tab nB){m:Nat}{call:dj}(hC:eV Q σ call){b:Nat}{f:Nat}{tmps:T}{ps:List P}{as bd:av}{q:dz}{pd:Option av}{d:Nat}{X:Wd}(W:X.H[b]?=aa (.lp f tmps ps as bd q pd d))
  {args:List V} (U:args.length=ps.length) {g:Option av} {K:St} (Z:run call f m (aa b) [.code as,.ny,.code bd] ⟨bV ps args tmps,[],X.H⟩=aa (g,K)) (c_:K.defs.isEmpty=ae)
  {f':Nat} {v:T} {J:List P} {as' H:av} {q':dz} {pd':Option av} {d':Nat} (y:K.heap[b]?=aa (.lp f' v J as' H q' pd' d'))
  {us:List Value} {c:Frame} {cs:List Frame} {L:Loc} (hS:SR Q σ X) (hB:X.B≤X.w.heap.size) (hA:A2 (VR σ X) args us) (hL:X.cd b=aa L) :
  ∃ f tmps as bd X' u,(Instr.yield L.c us.toArray).run Q X.w=.ok (.round L.c f tmps as bd) X.w ∧
   Steps Q (lone (Frame.round L.c f tmps as bd .normal) (c::cs) X.w) (lone (c.finish u) cs X'.w)∧fE Q σ X (.bool g.isNone) (K.heap.set b (.lp f' v J as' H (if g.isNone then .ready else .done) g d')) X' u:=by
 obtain⟨n,ts,qs,z,A,e_,Ld,Y,h2,h3,h4,h5,h6,h7,h8,h9⟩:=oM hS hL W;have hq:=(eA h4).len;have d_:us.toArray.size=qs.size:=by
  have:=hA.len;simp only [Array.length_toList]at hq;simp;omega
 have hy:=run_yield (P:=Q) (args:=us.toArray) Y d_
 let F:Array Value:=(qs.zip us.toArray).foldl (fun tmps (t,a)=>tmps.setIfInBounds t a) ts
 have S:F=(qs.toList.zip us).foldl (fun tmps (t,a)=>tmps.setIfInBounds t a) ts:=by
  simp only [F];rw [←Array.foldl_toList];simp
 let N:Act:={ tmps:=F,defers:=[] }
 let B:Frame:=Frame.round L.c (σ f) F z A .normal
 have b_:B=B.atR N [.code z,.beginRound,.code A]:=by simp [B,N,Frame.round,Frame.atR]
 have c9:RR σ X (bV ps args tmps) F:=by
  rw [S];exact RR.bV ps qs.toList args us tmps ts n h2 h3 hA U h4
 have hn:n≤F.size:=by rw [S,qG];exact h2
 have hF:Fr Q σ n X ⟨bV ps args tmps,[],X.H⟩ N:=⟨rfl,hS,hB,c9,A2.nil,hn⟩
 have E:Aj X b:=⟨_,_,_,_,_,_,_,_,W⟩
 have hW:Way Q σ f n B (c::cs) (aa b) [.code as,.ny,.code bd] [.code z,.beginRound,.code A] ⟨bV ps args tmps,[],X.H⟩ X N:=
  ⟨hF,A2.cons (.code h5) (A2.cons .ny (A2.cons (.code h6) A2.nil)),⟨L,hL,rfl,E⟩,.inl rfl,rfl⟩
 obtain⟨X1,a1,x,s1,M,E1,_,J1⟩:=S6 hC hE.mix f m n B (c::cs) (aa b) _ _ _ X N g K Z hW;have O:=(E.ext E1).2 _ hL;rw [←M.heap]at y;obtain⟨n1,f8,f7,a8,a_,pend1,a7,s,k2,k3,k4,k5,k6,k7,k8,k9⟩:=oM M.sr O y;have I:∀(l:Option Code),uP Q σ n1 g l→l.isNone=g.isNone→step Q (lone (B.atR a1 x) (c::cs) X1.w)=.next (lone (c.finish (.bool l.isNone)) cs (X1.w.putObj L.c (.loop { state:=if l.isNone then .ready else .done,pending:=l,fn:=σ f',tmps:=f8,params:=f7,assign:=a8,body:=a_,defers:=a7.c }))) →
   ∃ f tmps as bd X' u,(Instr.yield L.c us.toArray).run Q X.w=.ok (.round L.c f tmps as bd) X.w ∧
   Steps Q (lone (Frame.round L.c f tmps as bd .normal) (c::cs) X.w) (lone (c.finish u) cs X'.w)∧fE Q σ X (.bool g.isNone) (K.heap.set b (.lp f' v J as' H (if g.isNone then .ready else .done) g d')) X' u:=by
  intro l hj hn d9;obtain⟨g1,g2⟩:=wO M.sr O y (q':=if g.isNone then .ready else .done) (pend1:=g) (pend':=l) k2 k3 k4 k5 k6 hj k8 k9;have hq:(if g.isNone then dz.ready else dz.done).of=(if l.isNone then LoopState.ready else LoopState.done):=by
   rw [hn];cases g<;>rfl
  rw [hq]at g1 g2;refine⟨σ f,F,z,A,_,.bool l.isNone,hy,?_,?_,g1,?_,E1.trans (g2.mono E1.len),?_⟩
  ·show Steps Q (lone B (c::cs) X.w) _;rw [b_];exact s1.trans (.one d9)
  ·rw [←M.heap]
  ·rw [hn];exact VR.sD _
  ·have:=M.b;simpa [World.putObj]using this
 cases g with
 | none=>
  have:x=[]:=J1;subst this;exact I ab trivial rfl (stepR_round_end rfl rfl (run_endRound (P:=Q) ab s))
 | some j=>
  cases j with
  | ret=>
   obtain⟨k,rfl⟩:=J1;exact I (aa .ret) (by simp [uP,bL]) rfl (stepR_round_ret rfl rfl (run_endRound (P:=Q) (aa .ret) s))
  | exit id=>
   obtain⟨k,rfl,hx⟩:=J1;exact I (aa (.exit id)) (by simp [uP,bL]) rfl (stepR_round_exit rfl rfl hx (run_endRound (P:=Q) (aa (.exit id)) s))
  | _=>exact J1.elim
theorem Rq(x:Env Q σ tab nB)(m:Nat):∀ d,eV Q σ (ew tab nB m d):=by
 intro d;induction d with
 | zero=>exact⟨fun f args H r h=>by simp [ew]at h,fun f args H r H' h=>by simp [ew]at h,fun b args H r H' h=>by simp [ew]at h⟩
 | succ d U=>
  refine⟨fun f args H r h=>?_,fun f args H r H' h X us B cs J I F E W K=>?_,fun b args H r H' h X us c cs L J I F E hL=>?_⟩
  ·simp only [ew]at h;split at h
   ·rename_i r' N;obtain⟨r0,H0⟩:=r;exact(x.nB f args H r0 H0 (by rw [N,h])).1
   ·split at h
    ·simp at h
    ·rename_i S l;obtain⟨fn,hf,hm⟩:=x.fn f S l;obtain⟨c,v,s,_⟩:=qz hm;exact wG hf v s
  ·simp only [ew]at h;split at h
   ·rename_i r' N;exact(x.nB f args H r H' (by rw [N,h])).2 X us B cs J I F E W K
   ·split at h
    ·simp at h
    ·rename_i S l;split at h
     ·rename_i g;split at h
      ·rename_i A s' j;split at h
       ·rename_i H1 u;simp only [IN,OF]at h;obtain⟨r1,z,rfl,rfl⟩:=h;subst J;exact afV x U l g j u z I F E W
       ·simp at h
      ·simp at h
     ·simp at h
  ·simp only [ew]at h;split at h
   ·rename_i f tmps ps as bd q pd d' M;split at h
    ·rename_i g;split at h
     ·rename_i A s' j;split at h
      ·rename_i hd;split at h
       ·rename_i f' O a7 as' Y q' pd' Z y;simp only [AI,OF]at h;obtain⟨rfl,rfl⟩:=h;subst J;exact TA x U M g j hd y I F E hL
       ·simp at h
      ·simp at h
     ·simp at h
    ·simp at h
   ·simp at h
end
section
set_option linter.unusedVariables false
open Go
def wT(f:Nat)(args:List V)(H:an):Option (Option (V × an)):=ab
end
section
open Go
def vI(c1 c2:dj):Prop:=∀ c args H r,c1 c args H=aa r→c2 c args H=aa r
section
variable{c1 c2:dj}(hc:vI c1 c2)
include hc
theorem tH{c:Nat}{args:List V}{H:an}{r:V × an}(h:eG c1 c args H=aa r):eG c2 c args H=aa r:=by
 unfold eG at h ⊢;split at h
 ·simp at h
 ·rename_i g d;split at h
  ·simp at h
  ·rename_i j H0 b;simp only [hc _ _ _ _ b];exact h
theorem wo{b:Bool}{c:Nat}{args:List V}{H:an}{r:V × an}(h:gi c1 b c args H=aa r):gi c2 b c args H=aa r:=by
 unfold gi at h ⊢;split at h
 ·rename_i d;simp only [d,if_true];exact hc _ _ _ _ h
 ·rename_i d;simp only [d];exact tH hc h
theorem vz{s:St}{op:cY}{r:V × St}(h:eu c1 s op=aa r):eu c2 s op=aa r:=by
 cases op with
 | call f args b=>
  simp only [eu,IN]at h ⊢;obtain⟨a,d,rfl⟩:=h;exact⟨a,wo hc d,rfl⟩
 | bT x args b=>
  simp only [eu]at h ⊢;split at h
  ·simp only [IN]at h ⊢;obtain⟨a,d,rfl⟩:=h;exact⟨a,hc _ _ _ _ d,rfl⟩
  ·simp at h
 | _=>exact h
theorem tr{s j:St}{o:aO}(h:eT c1 s o=aa j):eT c2 s o=aa j:=by
 unfold eT at h ⊢;cases g:wanted s.aB o.g with
 | none=>simp [g]at h
 | some b=>
  cases b with
  | false=>simpa [g]using h
  | true=>
   simp only [g]at h ⊢;cases d:eu c1 s o.op with
   | none=>simp [d]at h
   | some x=>
    obtain⟨v,l⟩:=x;rw [vz hc d];rw [d]at h;exact h
theorem dJ:∀(os:List aO) (s:St) {b:St},ff c1 os s=aa b→ff c2 os s=aa b
 | [],s,b,h=>h
 | o::os,s,b,h=>by
  simp only [ff]at h ⊢;split at h
  ·rename_i g d;simp only [tr hc d];exact dJ os g h
  ·simp at h
theorem py:∀(os:List aO) (s:St) {ss:List St},ec c1 os s=aa ss→ec c2 os s=aa ss
 | [],s,ss,h=>h
 | o::os,s,ss,h=>by
  simp only [ec]at h ⊢;split at h
  ·rename_i g b;simp only [tr hc b];split at h
   ·rename_i j d;simp only [py os g d];exact h
   ·simp at h
  ·simp at h
theorem wP{ops:List aO}{iF:List (Nat × Nat)}{s d:St}(h:gn c1 ops iF s=aa d):gn c2 ops iF s=aa d:=by
 unfold gn at h ⊢;split at h
 ·exact dJ hc _ _ h
 ·split at h
  ·rename_i ss b;simp only [py hc _ _ b];exact h
  ·simp at h
theorem pg{fn:Nat}:∀(n x:Nat) (ro:Option Nat) (j:List cD) (s:St) {r:Option av × St},n≤x →
  run c1 fn n ro j s=aa r→run c2 fn x ro j s=aa r
 | 0,_,_,_,_,_,_,h=>by simp [run]at h
 | n+1,0,_,_,_,_,E,_=>by omega
 | n+1,x+1,ro,j,s,r,E,h=>by
  have m:=fun ro j s r h=>pg (fn:=fn) n x ro j s (r:=r) (by omega) h
  match j,h with
  | [],h=>exact h| .inBlock _::k,h=>exact m _ _ _ _ h| .inLoop c::k,h=>exact m _ _ _ _ h
  | .iO b::k,h=>
   simp only [run]at h ⊢;split at h
   ·rename_i f tmps ps as bd st pending d z
    try simp only [z]
    split at h
    ·simp at h
    ·rename_i A
     try simp only [A,if_false]
     split at h
     ·exact m _ _ _ _ h
     ·exact m _ _ _ _ h
     ·exact m _ _ _ _ h
     ·simp at h
   ·simp at h
  | .ny::k,h=>
   simp only [run]at h ⊢;split at h
   ·simp at h
   ·rename_i b;split at h
    ·rename_i z
     try simp only [z]
     exact m _ _ _ _ h
    ·simp at h
  | .code .skip::k,h=>exact m _ _ _ _ h| .inScope _::k,h=>exact m _ _ _ _ h| .code (.label _)::k,h=>exact m _ _ _ _ h| .code (.scope a)::k,h=>exact m _ _ _ _ h
  | .code (.goto l)::k,h=>
   simp only [run]at h ⊢;split at h
   ·rename_i u;(try simp only [u]);exact m _ _ _ _ h
   ·simp at h
  | .code .bad::_,h=>simp [run]at h| .code .ret::_,h=>exact h
  | .code (.exit id)::k,h=>
   simp only [run]at h ⊢;split at h
   ·rename_i u;(try simp only [u]);exact m _ _ _ _ h
   ·rename_i u;(try simp only [u]);exact h
  | .code (.seq a b)::k,h=>exact m _ _ _ _ h| .code (.block id a)::k,h=>exact m _ _ _ _ h| .code (.loop a)::k,h=>exact m _ _ _ _ h
  | .code (.cond c a b)::k,h=>
   simp only [run]at h ⊢;split at h
   ·rename_i v F;(try simp only [F]);exact m _ _ _ _ h
   ·simp at h
  | .code (.region ops iF)::k,h=>
   simp only [run]at h ⊢;split at h
   ·simp at h
   ·rename_i q
    try simp only [q]
    split at h
    ·rename_i I y
     try simp only [wP hc y]
     exact m _ _ _ _ h
    ·simp at h
  | .code (.gj f ps as bd)::k,h=>
   simp only [run]at h ⊢;split at h
   ·simp at h
   ·rename_i q
    try simp only [q]
    split at h
    ·rename_i g args B
     try simp only [B]
     split at h
     ·rename_i v H y
      try simp only [hc _ _ _ _ y]
      exact m _ _ _ _ h
     ·simp at h
    ·simp at h
theorem iz:∀(ds:List eU) (H:an) {H':an},dV c1 ds H=aa H'→dV c2 ds H=aa H'
 | [],H,H',h=>h
 | .er b::ds,H,H',h=>by
  simp only [dV]at h ⊢;split at h
  ·rename_i l;exact iz ds _ h
  ·simp at h
 | .fn f args::ds,H,H',h=>by
  simp only [dV]at h ⊢;split at h
  ·simp at h
  rename_i d;rw [aR d];split at h
  ·rename_i v j g
   try simp only [hc _ _ _ _ g]
   exact iz ds _ h
  ·simp at h
end
variable{tab:Nat→Option aK}{nB:Nat→List V→an→Option (Option (V × an))}
theorem rD{m g:Nat}(u:m≤g):∀(d d':Nat),d≤d'→vI (ew tab nB m d) (ew tab nB g d')
 | 0,_,_,_,_,_,_,h=>by simp [ew]at h
 | d+1,0,B,_,_,_,_,_=>by omega
 | d+1,d'+1,B,c,args,H,r,h=>by
  have y:vI (ew tab nB m d) (ew tab nB g d'):=rD u d d' (by omega)
  match c,h with
  | .fn f,h=>
   simp only [ew]at h ⊢;split at h
   ·rename_i r' v;(try simp only [v]);exact h
   ·rename_i v
    try simp only [v]
    split at h
    ·simp at h
    ·rename_i F l
     try simp only [l]
     split at h
     ·rename_i q
      try simp only [q,if_true]
      split at h
      ·rename_i j s x
       try simp only [pg y m g _ _ _ u x]
       split at h
       ·rename_i E z
        try simp only [iz y _ _ z]
        exact h
       ·simp at h
      ·simp at h
     ·simp at h
  | .yield b,h=>
   simp only [ew]at h ⊢;split at h
   ·rename_i f tmps ps as bd I J K A
    try simp only [A]
    split at h
    ·rename_i q
     try simp only [q,if_true]
     split at h
     ·rename_i j s x
      try simp only [pg y m g _ _ _ u x]
      exact h
     ·simp at h
    ·simp at h
   ·simp at h
end
section
open Go
structure TB where
 get:Nat→Option aK
 wT:Nat→List V→an→Option (Option (V × an))
 ok:∀ f a,get f=aa a→∀ args H,wT f args H=ab
instance:CoeFun TB fun _=>Nat→Option aK:=⟨TB.get⟩
section
variable(tab:TB)
abbrev CF(m d:Nat):dj:=ew tab.get tab.wT m d
def Ev(c:Callee)(args:List V)(H:an)(r:V)(H':an):Prop:=∃ m d,CF tab m d c args H=aa (r,H')
def bR(f:Nat)(args:List V)(r:V):Prop:=∃ b H',Ev tab (.fn f) args [] b H'∧mR deep H' b=aa r
def WP(fn:Nat)(ro:Option Nat)(b:List cD)(s:St)(Q:Option av→St→Prop):Prop:=
 ∃ n m d j g,run (CF tab m d) fn n ro b s=aa (j,g)∧Q j g
def iq(s:St)(op:cY)(K:V→St→Prop):Prop:=
 match op with
 | .call f args h=>
  if h then ∃ r H',Ev tab (.fn f) (dm s.aB args) s.heap r H'∧K r { s with heap:=H' }
  else ∃ b r,aZ (dI deep s.heap) (dm s.aB args)=aa b∧bR tab f b r∧K r { s with heap:=(dm s.aB args).foldl (YH deep) s.heap }
 | .bT x args _=>∃ c as r H',bS (x.ev s.aB) (dm s.aB args)=aa (c,as)∧Ev tab c as s.heap r H'∧K r { s with heap:=H' }
 | .recover=>K (.c (.f .nP)) s| .defer x args=>∃ f as,bS (x.ev s.aB) (dm s.aB args)=aa (.fn f,as)∧K .top { s with defs:=.fn f as::s.defs }
 | op=>∃ v H',bC s.aB s.heap op=aa (v,H')∧K v { s with heap:=H' }
def pz:List aO→St→(St→Prop)→Prop
 | [],s,K=>K s
 | o::os,s,K=>match wanted s.aB o.g with
  | some ae=>iq tab s o.op fun v b=>pz os { b with aB:=hZ b.aB o.dst v } K
  | some ag=>pz os { s with aB:=hZ s.aB o.dst (.t []) } K
  | none=>False
variable{tab}
variable{c:Callee}{args:List V}{H H':an}{r:V}
theorem iX{m b d d':Nat}(j:m≤b)(g:d≤d'):vI (CF tab m d) (CF tab b d'):=rD j d d' g
theorem Ev.XO{l:V}{b:an}(h1:Ev tab c args H r H')(h2:Ev tab c args H l b):r=l∧H'=b:=by
 obtain⟨m,d,h1⟩:=h1;obtain⟨j,d',h2⟩:=h2;have q:=iX (tab:=tab) (ajN m j) (ajN d d') _ _ _ _ h1;have g:=iX (tab:=tab) (ajD m j) (ajD d d') _ _ _ _ h2;rw [q]at g;simpa using g
theorem bR.XO{f:Nat}{d:V}(h1:bR tab f args r)(h2:bR tab f args d):r=d:=by
 obtain⟨a,j,g,h1⟩:=h1;obtain⟨b,l,hb,h2⟩:=h2;obtain⟨rfl,rfl⟩:=g.XO hb;rw [h1]at h2;simpa using h2
theorem GN{s:St}{op:cY}{K:V→St→Prop}(h:iq tab s op K):∃ m d v u,eu (CF tab m d) s op=aa (v,u)∧K v u:=by
 cases op with
 | call f args b=>
  simp only [iq]at h;split at h
  ·rename_i q;obtain⟨r,H',⟨m,d,g⟩,l⟩:=h;exact⟨m,d,r,_,by simp [eu,gi,q,g],l⟩
  ·rename_i q;obtain⟨z,r,j,⟨A,H0,⟨m,d,g⟩,l⟩,y⟩:=h;exact⟨m,d,r,_,by simp [eu,gi,q,eG,j,g,l],y⟩
 | bT x args b=>
  obtain⟨c,as,r,H',j,⟨m,d,g⟩,l⟩:=h;exact⟨m,d,r,_,by simp [eu,j,g],l⟩
 | recover=>exact⟨0,0,_,_,rfl,h⟩
 | «defer» x args=>
  obtain⟨f,as,j,g⟩:=h;exact⟨0,0,.top,_,by simp [eu,j],g⟩
 | _=>
  obtain⟨v,H',j,g⟩:=h;exact⟨0,0,v,_,by simp [eu,j],g⟩
theorem iD:∀(os:List aO) (s:St) {K:St→Prop},pz tab os s K→∃ m d b,ff (CF tab m d) os s=aa b∧K b
 | [],s,K,h=>⟨0,0,s,rfl,h⟩
 | o::os,s,K,h=>by
  simp only [pz]at h;split at h
  ·rename_i q;obtain⟨m,d,v,A,y,z⟩:=GN h;obtain⟨g,d',b,j,l⟩:=iD os _ z;refine⟨max m g,max d d',b,?_,l⟩;have u:=vz (iX (tab:=tab) (ajN m g) (ajN d d')) y;have x:=dJ (iX (tab:=tab) (ajD m g) (ajD d d')) os _ j;simp only [ff,eT,q,u,x]
  ·rename_i q;obtain⟨g,d',b,j,l⟩:=iD os _ h;exact⟨g,d',b,by simp only [ff,eT,q,j],l⟩
  ·exact h.elim
variable{fn:Nat}{ro:Option Nat}{k:List cD}{s:St}{Q:Option av→St→Prop}{a b:av}
theorem gZ{b:List cD}{todo':List cD}{g:St}(h:WP tab fn ro todo' g Q)
  (u:∀ m d n,run (CF tab m d) fn (n+1) ro b s=run (CF tab m d) fn n ro todo' g):WP tab fn ro b s Q:=by
 obtain⟨n,m,d,j,v,l,q⟩:=h;exact⟨n+1,m,d,j,v,by rw [u,l],q⟩
theorem dh(h:Q ab s):WP tab fn ro [] s Q:=⟨1,0,0,ab,s,rfl,h⟩
theorem ax{i:Nat}(h:WP tab fn ro k s Q):WP tab fn ro (.inBlock i::k) s Q:=gZ h fun _ _ _=>rfl
theorem sk(h:WP tab fn ro k s Q):WP tab fn ro (.inScope a::k) s Q:=gZ h fun _ _ _=>rfl
theorem uJ(h:WP tab fn ro (.code a::.inLoop a::k) s Q):WP tab fn ro (.inLoop a::k) s Q:=gZ h fun _ _ _=>rfl
theorem aP(h:WP tab fn ro k s Q):WP tab fn ro (.code .skip::k) s Q:=gZ h fun _ _ _=>rfl
theorem oK{l:Nat}(h:WP tab fn ro k s Q):WP tab fn ro (.code (.label l)::k) s Q:=gZ h fun _ _ _=>rfl
theorem jU(h:WP tab fn ro (.code a::.inScope a::k) s Q):WP tab fn ro (.code (.scope a)::k) s Q:=gZ h fun _ _ _=>rfl
theorem aq(h:WP tab fn ro (.code a::.code b::k) s Q):WP tab fn ro (.code (.seq a b)::k) s Q:=gZ h fun _ _ _=>rfl
theorem az{i:Nat}(h:WP tab fn ro (.code a::.inBlock i::k) s Q):WP tab fn ro (.code (.block i a)::k) s Q:=gZ h fun _ _ _=>rfl
theorem aF(h:Q (aa .ret) s):WP tab fn ro (.code .ret::k) s Q:=⟨1,0,0,aa .ret,s,rfl,h⟩
theorem bw{i:Nat}{k':List cD}(b:exitTo i k=aa k')(h:WP tab fn ro k' s Q):WP tab fn ro (.code (.exit i)::k) s Q:=
 gZ h fun _ _ _=>by simp only [run,b]
theorem mh{i b:Nat}(d:exitTo i k=ab)(h:Q (aa (.exit i)) s):WP tab fn (aa b) (.code (.exit i)::k) s Q:=
 ⟨1,0,0,aa (.exit i),s,by simp [run,d],h⟩
theorem Yr{l:Nat}{k':List cD}(b:gotoIn l k=aa k')(h:WP tab fn ro k' s Q):WP tab fn ro (.code (.goto l)::k) s Q:=
 gZ h fun _ _ _=>by simp only [run,b]
theorem wa{c:Arg}{v:Bool}(hc:c.ev s.aB=.c (.f (.bool v)))(h:WP tab fn ro (.code (if v then a else b)::k) s Q) :
  WP tab fn ro (.code (.cond c a b)::k) s Q:=gZ h fun _ _ _=>by simp only [run,hc]
theorem aw{c:Arg}(hc:c.ev s.aB=.c (.f (.bool ae)))(h:WP tab fn ro (.code a::k) s Q) :
  WP tab fn ro (.code (.cond c a b)::k) s Q:=wa hc h
theorem aG{c:Arg}(hc:c.ev s.aB=.c (.f (.bool ag)))(h:WP tab fn ro (.code b::k) s Q) :
  WP tab fn ro (.code (.cond c a b)::k) s Q:=wa hc h
theorem sZ{m j d d' n g:Nat}{b:List cD}{x:Option av × St}(q:m≤j)(l:d≤d')(u:n≤g)
  (h:run (CF tab m d) fn n ro b s=aa x):run (CF tab j d') fn g ro b s=aa x:=
 pg (iX q l) n g ro b s u h
theorem au{ops:List aO}(b:ro=ab∨ops.all (·.op.eC)=ae)(h:pz tab ops s fun q=>WP tab fn ro k q Q) :
  WP tab fn ro (.code (.region ops [])::k) s Q:=by
 obtain⟨m,d,q,x,n,l,d',j,A,y,z⟩:=iD ops s h;refine⟨n+1,max m l,max d d',j,A,?_,z⟩;have u:=dJ (iX (tab:=tab) (ajN m l) (ajN d d')) ops _ x;have v:=sZ (ajD m l) (ajD d d') (ai8 n) y;have g:(ro.isSome&&!ops.all (·.op.eC))=ag:=by
  rcases b with rfl | b
  ·rfl
  ·rw [b];simp
 simp only [run,g,gn,u,v];simp
theorem bJ(I:Nat→St→Prop)(n:Nat)(j:I n s)
  (step:∀ n s,I n s→(∀ b d,b<n→I b d→WP tab fn ro (.inLoop a::k) d Q)→WP tab fn ro (.code a::.inLoop a::k) s Q) :
  WP tab fn ro (.code (.loop a)::k) s Q:=by
 have key:∀ n s,I n s→WP tab fn ro (.code a::.inLoop a::k) s Q:=by
  intro n;induction n using Nat.strongRecOn with
  | _ n q=>
   intro s m;exact step n s m fun b d l g=>uJ (q b l d g)
 exact gZ (key n s j) fun _ _ _=>rfl
def Fin(tab:TB)(g:aK)(r:V)(H':an)(s:St):Prop:=
 ∃ m d b,dV (CF tab m d) s.defs s.heap=aa b∧results s.aB b g.results=aa r∧b=H'
theorem qu{f:Nat}{b:aK}(z:tab f=aa b)(J:args.length=b.ps.length)
  (h:WP tab f ab [.code b.body] ⟨bV b.ps args .e,[],H⟩ fun _ s=>Fin tab b r H' s):Ev tab (.fn f) args H r H':=by
 obtain⟨n,m,d,j,s,B,A,d',L,F,I,rfl⟩:=h;obtain⟨M,q,u,v⟩:∃ M,m≤M∧A≤M∧n≤M:=⟨max (max m A) n,by omega,by omega,by omega⟩
 obtain⟨E,g,l⟩:∃ E,d≤E∧d'≤E:=⟨max d d',by omega,by omega⟩
 refine⟨M,E+1,?_⟩;have x:run (CF tab M E) f M ab [.code b.body] ⟨bV b.ps args .e,[],H⟩=aa (j,s):=sZ q g v B;have y:=iz (iX (tab:=tab) u l) _ _ F;have K:=tab.ok _ _ z args H;simp only [CF]at x y ⊢;simp only [ew,K,z,J,if_true,x,y,I,ajK]
def nu(b:List gA)(r:V)(s:St):Prop:=s.defs=[]∧∃ d,results s.aB s.heap b=aa d∧mR deep s.heap d=aa r
theorem bY{f:Nat}{ps:List P}{b:List gA}{body:av}(y:tab f=aa ⟨ps,b,body⟩)(x:args.length=ps.length)
  (h:∀ Q:Option av→St→Prop,(∀ j s,nu b r s→Q j s)→WP tab f ab [.code body] ⟨bV ps args .e,[],[]⟩ Q):bR tab f args r:=by
 have g:=h (fun _ s=>nu b r s) fun _ _ h=>h;obtain⟨n,m,d,j,s,l,v,z,q,u⟩:=g;exact⟨z,s.heap,qu y x ⟨n,m,d,j,s,l,0,0,s.heap,by rw [v];rfl,q,rfl⟩,u⟩
end
theorem ai{tab:TB}{fn:Nat}{ops:List aO}{b:av}{k:List cD}{s:St}{Q:Option av→St→Prop}(h:pz tab ops s fun d=>WP tab fn ab (.code b::k) d Q):WP tab fn ab (.code (.seq (.region ops []) b)::k) s Q:=aq (au (.inl rfl) h)
theorem a6{tab:TB}{fn:Nat}{ro:Option Nat}{a:av}{c:Arg}{k:List cD}{s:St}{Q:Option av→St→Prop}(hc:c.ev s.aB=.c (.f (.bool ag)))(h:WP tab fn ro k s Q):WP tab fn ro (.code (.cond c a .skip)::k) s Q:=aG hc (aP h)
end
section
open Go
def P.Ic:Nat→Nat→P
 | 0,_=>.h| k+1,n=>if n=0 then .h else if n % 2=1 then .o (Ic k ((n-1) / 2))else .i (Ic k ((n-2) / 2))
def P.nat(n:Nat):P:=P.Ic n n
theorem nO:∀(k n:Nat),n≤k→(P.Ic k n).toNat=n
 | 0,n,b=>by simp [P.Ic,P.toNat];omega
 | k+1,n,b=>by
  unfold P.Ic;split
  ·simp [P.toNat, *]
  ·split
   ·simp [P.toNat];rw [nO k _ (by omega)];omega
   ·simp [P.toNat];rw [nO k _ (by omega)];omega
theorem fP(n:Nat):(P.nat n).toNat=n:=nO n n (ai8 n)
theorem Sh{a b:Nat}(d:a≠b):P.nat a≠P.nat b:=fun e=>d (by rw [←fP a,←fP b,e])
theorem T.cS(v:V):∀(p:P) (t:T),(t.set p v).get p=v
 | .h,.e=>rfl| .h,.n _ _ _=>rfl| .o p,.e=>T.cS v p .e| .o p,.n l _ _=>T.cS v p l| .i p,.e=>T.cS v p .e| .i p,.n _ _ r=>T.cS v p r
theorem T.cr(v:V):∀(p q:P) (t:T),p≠q→(t.set p v).get q=t.get q
 | .h,.h,_,h=>absurd rfl h| .h,.o q,.e,_=>by cases q<;>rfl
 | .h,.i q,.e,_=>by cases q<;>rfl
 | .h,.o _,.n _ _ _,_=>rfl| .h,.i _,.n _ _ _,_=>rfl| .o _,.h,.e,_=>rfl| .o _,.h,.n _ _ _,_=>rfl| .i _,.h,.e,_=>rfl| .i _,.h,.n _ _ _,_=>rfl
 | .o p,.o q,.e,h=>by
  show(T.set .e p v).get q=_;rw [T.cr v p q .e (fun e=>h (by rw [e]))];cases q<;>rfl
 | .o p,.o q,.n l _ _,h=>T.cr v p q l (fun e=>h (by rw [e]))
 | .o p,.i q,.e,h=>by
  show T.get .e q=_;cases q<;>rfl
 | .o _,.i _,.n _ _ _,_=>rfl
 | .i p,.o q,.e,h=>by
  show T.get .e q=_;cases q<;>rfl
 | .i _,.o _,.n _ _ _,_=>rfl
 | .i p,.i q,.e,h=>by
  show(T.set .e p v).get q=_;rw [T.cr v p q .e (fun e=>h (by rw [e]))];cases q<;>rfl
 | .i p,.i q,.n _ _ r,h=>T.cr v p q r (fun e=>h (by rw [e]))
def T.g(t:T)(n:Nat):V:=t.get (P.nat n)
def T.s(t:T)(n:Nat)(v:V):T:=t.set (P.nat n) v
@[simp] theorem T.g_s (t:T) (n m:Nat) (v:V):(t.s n v).g m=if n=m then v else t.g m:=by
 unfold T.g T.s;split
 ·rename_i h;subst h;exact T.cS v _ t
 ·rename_i h;exact T.cr v _ _ t (Sh h)
def R(n:Nat):Arg:=.r (P.nat n)
def D(n:Nat):Option P:=aa (P.nat n)
def G(n:Nat)(w:Bool):Option (P × Bool):=aa (P.nat n,w)
abbrev vi(n:Int):V:=.c (.f (.int .i64 n))
abbrev vb(b:Bool):V:=.c (.f (.bool b))
abbrev fi(n:Int):FC:=.int .i64 n
@[simp] theorem ry (t:T) (n:Nat):(R n).ev t=t.g n:=rfl
@[simp] theorem ai1 (t:T) (v:V):(Arg.k v).ev t=v:=rfl
@[simp] theorem aij (t:T) (n:Nat) (v:V):hZ t (D n) v=t.s n v:=rfl
@[simp] theorem aer (t:T) (v:V):hZ t ab v=t:=rfl
@[simp] theorem X7 (t:T) (n:Nat):t.get (P.nat n)=t.g n:=rfl
@[simp] theorem aan (n:Nat) (ps:List P) (v:V) (b:List V) (t:T):bV (P.nat n::ps) (v::b) t=bV ps b (t.s n v):=rfl
@[simp] theorem adT (b:List V) (t:T):bV [] b t=t:=rfl
@[simp] theorem aar (t:T):wanted t ab=aa ae:=rfl
@[simp] theorem ag_ (t:T) (n:Nat) (w:Bool):wanted t (G n w)=match t.g n with
  | .c (.f (.bool b))=>aa (b == w)| .t []=>aa ag| _=>ab:=rfl
attribute [simp] dm
def KO(o:Option (V × an))(t:T)(ds:List eU)(K:V→St→Prop):Prop:=∃ p,o=aa p∧K p.1 ⟨t,ds,p.2⟩
@[simp] theorem ahk (v:V) (H:an) (t:T) (ds:List eU) (K:V→St→Prop):KO (aa (v,H)) t ds K↔K v ⟨t,ds,H⟩:=⟨fun⟨_,h,k⟩=>by cases h;exact k,fun k=>⟨_,rfl,k⟩⟩
def KP(P:V→Prop)(t:T)(ds:List eU)(H:an)(K:V→St→Prop):Prop:=∃ x,P x∧K x ⟨t,ds,H⟩
@[simp] theorem aiG (x:V) (t:T) (ds:List eU) (H:an) (K:V→St→Prop):KP (Eq x) t ds H K↔K x ⟨t,ds,H⟩:=⟨fun⟨_,h,k⟩=>by cases h;exact k,fun k=>⟨x,rfl,k⟩⟩
def E2(x:V)(H:an)(y:V)(H':an):Prop:=x=y∧H=H'
def KE(P:V→an→Prop)(t:T)(ds:List eU)(K:V→St→Prop):Prop:=∃ x H,P x H∧K x ⟨t,ds,H⟩
@[simp] theorem aiF (x:V) (H:an) (t:T) (ds:List eU) (K:V→St→Prop):KE (E2 x H) t ds K↔K x ⟨t,ds,H⟩:=⟨fun⟨_,_,⟨b,d⟩,k⟩=>by cases b;cases d;exact k,fun k=>⟨x,H,⟨rfl,rfl⟩,k⟩⟩
section
variable(tab:TB)
def KC(b:Option (List V))(f:Nat)(t:T)(ds:List eU)(H:an)(K:V→St→Prop):Prop:=∃ a,b=aa a∧KP (bR tab f a) t ds H K
def KD(c:Option (Callee × List V))(t:T)(ds:List eU)(H:an)(K:V→St→Prop):Prop:=∃ a,c=aa a∧KE (Ev tab a.1 a.2 H) t ds K
def KS(os:List aO)(L:St→Prop)(s:St):Prop:=pz tab os s L
def FS(s:St)(K:St→Prop):Prop:=K s
def KV(o:Option P)(os:List aO)(L:St→Prop)(v:V)(s:St):Prop:=FS ⟨hZ s.aB o v,s.defs,s.heap⟩ (KS tab os L)
def GRD(w:Option Bool)(op:cY)(o:Option P)(os:List aO)(L:St→Prop)(s:St):Prop:=
 match w with
 | some ae=>iq tab s op (KV tab o os L)| some ag=>FS ⟨hZ s.aB o (.t []),s.defs,s.heap⟩ (KS tab os L)| none=>False
end
section
variable{tab:TB}{t:T}{ds:List eU}{H:an}{K:V→St→Prop}{L:St→Prop}
@[simp] theorem ahi (a:List V) (f:Nat):KC tab (aa a) f t ds H K↔KP (bR tab f a) t ds H K:=⟨fun⟨_,h,k⟩=>by cases h;exact k,fun k=>⟨_,rfl,k⟩⟩
@[simp] theorem ahj (c:Callee) (a:List V):KD tab (aa (c,a)) t ds H K↔KE (Ev tab c a H) t ds K:=⟨fun⟨_,h,k⟩=>by cases h;exact k,fun k=>⟨_,rfl,k⟩⟩
@[simp] theorem aiC (s:St) (K:St→Prop):FS s K↔K s:=Iff.rfl
@[simp ↓] theorem aiH (os:List aO) (s:St):KS tab os L s↔pz tab os s L:=Iff.rfl
@[simp ↓] theorem aiI (o:Option P) (os:List aO) (v:V):KV tab o os L v ⟨t,ds,H⟩↔FS ⟨hZ t o v,ds,H⟩ (KS tab os L):=Iff.rfl
@[simp ↓] theorem aiE (op:cY) (o:Option P) (os:List aO) (s:St):GRD tab (aa ae) op o os L s↔iq tab s op (KV tab o os L):=Iff.rfl
@[simp ↓] theorem aiD (op:cY) (o:Option P) (os:List aO):GRD tab (aa ag) op o os L ⟨t,ds,H⟩↔FS ⟨hZ t o (.t []),ds,H⟩ (KS tab os L):=Iff.rfl
@[simp ↓] theorem ahl (s:St):pz tab [] s L↔L s:=Iff.rfl
@[simp ↓] theorem afq (o:Option P) (op:cY) (os:List aO):pz tab (⟨o,op,ab⟩::os) ⟨t,ds,H⟩ L↔iq tab ⟨t,ds,H⟩ op (KV tab o os L):=Iff.rfl
@[simp ↓] theorem ad9 (o:Option P) (op:cY) (n:Nat) (w:Bool) (os:List aO) :
  pz tab (⟨o,op,G n w⟩::os) ⟨t,ds,H⟩ L↔GRD tab (wanted t (G n w)) op o os L ⟨t,ds,H⟩:=by
 simp only [pz];rcases b:wanted t (G n w)with _ | _ | _<;>exact Iff.rfl
def cY.plain:cY→Bool
 | .call _ _ _ | .bT _ _ _ | .recover | .defer _ _=>ag| _=>ae
theorem bX{op:cY}(h:op.plain=ae):iq tab ⟨t,ds,H⟩ op K↔KO (bC t H op) t ds K:=by
 have:iq tab ⟨t,ds,H⟩ op K↔∃ v H',bC t H op=aa (v,H')∧K v ⟨t,ds,H'⟩:=by
  cases op<;>first | exact Iff.rfl | simp [cY.plain]at h
 rw [this];exact⟨fun⟨v,H',h,k⟩=>⟨(v,H'),h,k⟩,fun⟨p,h,k⟩=>⟨p.1,p.2,h,k⟩⟩
@[simp ↓] theorem ahL (x:Arg):iq tab ⟨t,ds,H⟩ (.cU x) K↔KO (bC t H (.cU x)) t ds K:=bX rfl
@[simp ↓] theorem agy (c a b:Arg):iq tab ⟨t,ds,H⟩ (.pick c a b) K↔KO (bC t H (.pick c a b)) t ds K:=bX rfl
@[simp ↓] theorem aeh (zs:List FC):iq tab ⟨t,ds,H⟩ (.alloc zs) K↔KO (bC t H (.alloc zs)) t ds K:=bX rfl
@[simp ↓] theorem ahH (x:Arg):iq tab ⟨t,ds,H⟩ (.box x) K↔KO (bC t H (.box x)) t ds K:=bX rfl
@[simp ↓] theorem aei (zs:List FC) (b:List (Nat × Nat × Arg)):iq tab ⟨t,ds,H⟩ (.build zs b) K↔KO (bC t H (.build zs b)) t ds K:=bX rfl
@[simp ↓] theorem acz (sz:Nat) (zs:List FC) (len:Nat) (b:List (Nat × Arg)):iq tab ⟨t,ds,H⟩ (.bQ sz zs len b) K↔KO (bC t H (.bQ sz zs len b)) t ds K:=bX rfl
@[simp ↓] theorem agv (n:Option Nat) (x:Arg):iq tab ⟨t,ds,H⟩ (.load n x) K↔KO (bC t H (.load n x)) t ds K:=bX rfl
@[simp ↓] theorem aeq (n:Nat) (x y:Arg):iq tab ⟨t,ds,H⟩ (.store n x y) K↔KO (bC t H (.store n x y)) t ds K:=bX rfl
@[simp ↓] theorem acD (x:Arg):iq tab ⟨t,ds,H⟩ (.dE x) K↔KO (bC t H (.dE x)) t ds K:=bX rfl
@[simp ↓] theorem ahG (op:BinOp) (x y:Arg):iq tab ⟨t,ds,H⟩ (.bin op x y) K↔KO (bC t H (.bin op x y)) t ds K:=bX rfl
@[simp ↓] theorem aih (neg:Bool) (k:II) (x y:Arg):iq tab ⟨t,ds,H⟩ (.eq neg k x y) K↔KO (bC t H (.eq neg k x y)) t ds K:=bX rfl
@[simp ↓] theorem aii (op:UnOp) (x:Arg):iq tab ⟨t,ds,H⟩ (.un op x) K↔KO (bC t H (.un op x)) t ds K:=bX rfl
@[simp ↓] theorem ahJ (k:IntKind) (x:Arg):iq tab ⟨t,ds,H⟩ (.jm k x) K↔KO (bC t H (.jm k x)) t ds K:=bX rfl
@[simp ↓] theorem agx (f:Nat) (b:List Arg):iq tab ⟨t,ds,H⟩ (.iQ f b) K↔KO (bC t H (.iQ f b)) t ds K:=bX rfl
@[simp ↓] theorem aeo:iq tab ⟨t,ds,H⟩ .jX K↔KO (bC t H .jX) t ds K:=bX rfl
@[simp ↓] theorem acC (d:CK) (b:FC) (m k:Arg):iq tab ⟨t,ds,H⟩ (.lookup d b m k) K↔KO (bC t H (.lookup d b m k)) t ds K:=bX rfl
@[simp ↓] theorem aen (b:CK) (m k v:Arg):iq tab ⟨t,ds,H⟩ (.lN b m k v) K↔KO (bC t H (.lN b m k v)) t ds K:=bX rfl
@[simp ↓] theorem aai (sz bytes:Nat) (zs:List FC) (l c:Arg):iq tab ⟨t,ds,H⟩ (.dD sz bytes zs l c) K↔KO (bC t H (.dD sz bytes zs l c)) t ds K:=bX rfl
@[simp ↓] theorem aep (sz:Nat) (x:Arg) (lo hi mx:Option Arg):iq tab ⟨t,ds,H⟩ (.slice sz x lo hi mx) K↔KO (bC t H (.slice sz x lo hi mx)) t ds K:=bX rfl
@[simp ↓] theorem acA (b:Nat) (x:Arg):iq tab ⟨t,ds,H⟩ (.bB b x) K↔KO (bC t H (.bB b x)) t ds K:=bX rfl
@[simp ↓] theorem aem (b:Nat) (n:Option Nat) (x:Arg):iq tab ⟨t,ds,H⟩ (.field b n x) K↔KO (bC t H (.field b n x)) t ds K:=bX rfl
@[simp ↓] theorem acB (sz:Nat) (b:Option Nat) (x i:Arg):iq tab ⟨t,ds,H⟩ (.bI sz b x i) K↔KO (bC t H (.bI sz b x i)) t ds K:=bX rfl
@[simp ↓] theorem aah (x:Arg) (i:Nat):iq tab ⟨t,ds,H⟩ (.extract x i) K↔KO (bC t H (.extract x i)) t ds K:=bX rfl
@[simp ↓] theorem ahK (x:Arg):iq tab ⟨t,ds,H⟩ (.len x) K↔KO (bC t H (.len x)) t ds K:=bX rfl
@[simp ↓] theorem ahI (x:Arg):iq tab ⟨t,ds,H⟩ (.cap x) K↔KO (bC t H (.cap x)) t ds K:=bX rfl
@[simp ↓] theorem acy (sz bytes:Nat) (x y:Arg):iq tab ⟨t,ds,H⟩ (.append sz bytes x y) K↔KO (bC t H (.append sz bytes x y)) t ds K:=bX rfl
@[simp ↓] theorem agw (lo:Bool) (xs:List Arg):iq tab ⟨t,ds,H⟩ (.fT lo xs) K↔KO (bC t H (.fT lo xs)) t ds K:=bX rfl
@[simp ↓] theorem agt (sz bytes:Nat) (zs:List FC) (x n:Arg):iq tab ⟨t,ds,H⟩ (.lU sz bytes zs x n) K↔KO (bC t H (.lU sz bytes zs x n)) t ds K:=bX rfl
@[simp ↓] theorem ael (sz:Nat) (zs:List FC) (x:Arg):iq tab ⟨t,ds,H⟩ (.clear sz zs x) K↔KO (bC t H (.clear sz zs x)) t ds K:=bX rfl
@[simp ↓] theorem agz (sz:Nat) (x hi mx:Arg):iq tab ⟨t,ds,H⟩ (.qP sz x hi mx) K↔KO (bC t H (.qP sz x hi mx)) t ds K:=bX rfl
@[simp ↓] theorem agu (f:Nat) (args:List Arg):iq tab ⟨t,ds,H⟩ (.call f args ag) K ↔
  KC tab (aZ (dI deep H) (dm t args)) f t ds ((dm t args).foldl (YH deep) H) K:=by
 simp only [iq,KC,KP];constructor
 ·intro h;rw [aR (by simp)]at h;obtain⟨b,r,d,g,j⟩:=h;exact⟨b,d,r,g,j⟩
 ·rintro⟨b,d,r,g,j⟩;rw [aR (by simp)];exact⟨b,r,d,g,j⟩
@[simp ↓] theorem aek (f:Nat) (args:List Arg):iq tab ⟨t,ds,H⟩ (.call f args ae) K↔KD tab (aa (.fn f,dm t args)) t ds H K:=by simp [iq,KD,KE]
@[simp ↓] theorem aej (x:Arg) (args:List Arg) (h:Bool):iq tab ⟨t,ds,H⟩ (.bT x args h) K↔KD tab (bS (x.ev t) (dm t args)) t ds H K:=by
 simp only [iq,KD,KE];constructor
 ·rintro⟨c,as,r,H',b,d,g⟩;exact⟨(c,as),b,r,H',d,g⟩
 ·rintro⟨⟨c,as⟩,b,r,H',d,g⟩;exact⟨c,as,r,H',b,d,g⟩
end
def zU:V→Option Bool
 | .c (.f (.bool b))=>aa b| _=>ab
@[simp] theorem ad' (b:Bool):zU (.c (.f (.bool b)))=aa b:=rfl
section
variable{t:T}{H:an}
@[simp] theorem aiV (x:Arg):bC t H (.cU x)=aa (x.ev t,H):=rfl
@[simp] theorem aiW (o:Os) (sz:Nat):bC t H (.pre o sz)=if o=.loc∨sz=0 then ab else aa (.c (.sl H.length 0 0 0 0 sz),H++[.cE sz [] 0 0 o]):=rfl
@[simp] theorem aiA (c x y:Arg):bC t H (.pick c x y)=(zU (c.ev t)).map fun b=>(if b then x.ev t else y.ev t,H):=by
 simp only [bC,zU];split
 ·rename_i b h;simp only [h];cases b<;>rfl
 ·rename_i h;split
  ·rename_i b d;exact absurd d (h b)
  ·rfl
@[simp] theorem ahS (zs:List FC):bC t H (.alloc zs)=aa (.c (.ptr H.length 0 0),H++[.box (zs.map .f) 0]):=rfl
@[simp] theorem aiR (x:Arg):bC t H (.box x)=(x.ev t).cells?.map fun xs=>(.c (.ptr H.length 0 0),H++[.box xs 0]):=by
 simp only [bC];cases (x.ev t).cells?<;>rfl
@[simp] theorem ahT (zs:List FC) (ps:List (Nat × Nat × Arg)):bC t H (.build zs ps)=(eZ t (zs.map .f) ps).map fun cs=>(.a cs,H):=rfl
@[simp] theorem ahc (sz:Nat) (zs:List FC) (n:Nat) (ps:List (Nat × Arg)):bC t H (.bQ sz zs n ps) =
  if n=0 then(if ps.isEmpty then aa (.c (.f .es),H)else ab)else
  (eZ t ((cB n zs).map .f) (ps.map fun p=>(p.1*sz,sz,p.2))).map fun cs=>(.c (.sl H.length 0 n n 0 sz),H++[.box cs 0]):=rfl
@[simp] theorem aiw (n:Option Nat) (x:Arg):bC t H (.load n x)=(aU H n (x.ev t)).map (·,H):=rfl
def wM(H:an)(n:Nat)(x y:V):Option an:=
 match x,y.cells? with
 | .c p,aa xs=>if xs.length=n then di H p xs else ab| _,_=>ab
@[simp] theorem ahZ (n:Nat) (x y:Arg):bC t H (.store n x y)=(wM H n (x.ev t) (y.ev t)).map (.top,·):=by
 simp only [bC,wM];cases x.ev t with
 | c p=>cases (y.ev t).cells? with
  | none=>rfl| some xs=>by_cases h:xs.length=n<;>simp [h]
 | _=>rfl
@[simp] theorem ag9 (n:Nat) (p:C) (y:V):wM H n (.c p) y=y.cells?.bind fun xs=>if xs.length=n then di H p xs else ab:=by
 simp only [wM];cases y.cells?<;>rfl
@[simp] theorem aiQ (op:BinOp) (x y:Arg):bC t H (.bin op x y)=(bM op (x.ev t) (y.ev t)).map (·,H):=rfl
@[simp] theorem ai5 (neg:Bool) (k:II) (x y:Arg):bC t H (.eq neg k x y)=(BF H k (x.ev t) (y.ev t)).map fun b=>(vb (if neg then !b else b),H):=rfl
@[simp] theorem ai6 (op:UnOp) (x:Arg):bC t H (.un op x)=(unV op (x.ev t)).map (·,H):=rfl
def abT(k:IntKind):V→Option V
 | .c (.f (.int _ n))=>aa (.c (.f (.int k (k.wrap n))))| _=>ab
@[simp] theorem ah_ (k j:IntKind) (n:Int):abT k (.c (.f (.int j n)))=aa (.c (.f (.int k (k.wrap n)))):=rfl
@[simp] theorem aiT (k:IntKind) (x:Arg):bC t H (.jm k x)=(abT k (x.ev t)).map (·,H):=by
 simp only [bC,abT];split
 ·rename_i h;simp only [h];rfl
 ·rename_i h;split
  ·rename_i b;exact absurd b (h _ _)
  ·rfl
@[simp] theorem aiz (f:Nat) (b:List Arg):bC t H (.iQ f b)=(aZ tA (dm t b)).map fun xs=>(.c (.cl f xs),H):=rfl
@[simp] theorem aiy (f:Nat) (b:List Arg):bC t H (.yW f b)=(aZ tA (dm t b)).map fun xs=>(.c (.bm f xs),H):=rfl
@[simp] theorem ahX (sz:Nat) (x:Arg) (lo hi mx:Option Arg):bC t H (.slice sz x lo hi mx)=(bG H sz (x.ev t) (lo.map (·.ev t)) (hi.map (·.ev t)) (mx.map (·.ev t))).map (·,H):=rfl
@[simp] theorem ahe (sz:Nat) (zs:List FC) (n:Nat) (ps:List (Nat × Arg)):bC t H (.ji sz zs n ps)=((eZ t ((cB n zs).map .f) (ps.map fun p=>(p.1*sz,sz,p.2))).bind fun cs=>if n=0 then ab else fcL cs).map fun b=>(.c (.f (.fs b n)),H):=rfl
@[simp] theorem aiB (sz:Nat) (x hi mx:Arg):bC t H (.qP sz x hi mx)=vp H sz (x.ev t) (hi.ev t) (mx.ev t):=rfl
@[simp] theorem ahW (n sz:Nat) (x:Arg) (lo hi mx:Option Arg):bC t H (.pj n sz x lo hi mx)=(mC H n sz (x.ev t) (lo.map (·.ev t)) (hi.map (·.ev t)) (mx.map (·.ev t))).map (·,H):=rfl
@[simp] theorem ahY (x:Arg) (lo hi:Option Arg):bC t H (.qH x lo hi)=(wJ (x.ev t) (lo.map (·.ev t)) (hi.map (·.ev t))).map (·,H):=rfl
@[simp] theorem ahd (o:Nat) (x:Arg):bC t H (.bB o x)=(mT o (x.ev t)).map (·,H):=rfl
@[simp] theorem ahV (o:Nat) (n:Option Nat) (x:Arg):bC t H (.field o n x)=(rS o n (x.ev t)).map (·,H):=rfl
@[simp] theorem ahf (sz:Nat) (b:Option Nat) (x i:Arg):bC t H (.bI sz b x i)=(bz H sz b (x.ev t) (i.ev t)).map (·,H):=rfl
@[simp] theorem aiu (x i:Arg):bC t H (.idxs x i)=(BN (x.ev t) (i.ev t)).map (·,H):=rfl
@[simp] theorem ait (len sz:Nat) (n:Option Nat) (x i:Arg):bC t H (.yF len sz n x i)=(BM len sz n (x.ev t) (i.ev t)).map (·,H):=rfl
def cOf:V→Option C
 | .c x=>aa x| _=>ab
@[simp] theorem aiJ (x:C):cOf (.c x)=aa x:=rfl
@[simp] theorem aiU (x:Arg):bC t H (.len x)=((cOf (x.ev t)).bind (bg H)).map fun n=>(vi (n:Nat),H):=by
 simp only [bC,cOf];cases x.ev t with
 | c y=>simp only [ajC];cases bg H y<;>rfl
 | _=>rfl
@[simp] theorem aiS (x:Arg):bC t H (.cap x)=((cOf (x.ev t)).bind (kh H)).map fun n=>(vi (n:Nat),H):=by
 simp only [bC,cOf];cases x.ev t with
 | c y=>simp only [ajC];cases kh H y<;>rfl
 | _=>rfl
def strOf:V→Option ByteArray
 | .c (.f (.str s))=>aa s| _=>ab
@[simp] theorem ahO (s:ByteArray):strOf (.c (.f (.str s)))=aa s:=rfl
@[simp] theorem aiv (n:Nat):bC t H (.oL n)=aa (vi (n:Nat),H):=rfl
@[simp] theorem ahb (sz bytes:Nat) (x y:Arg):bC t H (.append sz bytes x y)=bD H sz bytes (x.ev t) (y.ev t):=rfl
@[simp] theorem ais (sz:Nat) (x y:Arg):bC t H (.copy sz x y)=copyV H sz (x.ev t) (y.ev t):=rfl
@[simp] theorem aix (lo:Bool) (xs:List Arg):bC t H (.fT lo xs)=(wj lo (dm t xs)).map (·,H):=rfl
def tOf:V→Option (List V)
 | .t b=>aa b| _=>ab
@[simp] theorem aiO (b:List V):tOf (.t b)=aa b:=rfl
@[simp] theorem aet (x:Arg) (i:Nat):bC t H (.extract x i)=(tOf (x.ev t)).bind fun d=>d[i]?.map (·,H):=by
 simp only [bC,tOf];split
 ·rename_i h;simp only [h];rfl
 ·rename_i h;split
  ·rename_i b;exact absurd b (h _)
  ·rfl
def qV:V→Option V
 | .c (.ptr b o e)=>aa (.c (.ptr b o e))| .c (.f (.fp cs o))=>aa (.c (.f (.fp cs o)))| _=>ab
@[simp] theorem acu (b o e:Nat):qV (.c (.ptr b o e))=aa (.c (.ptr b o e)):=rfl
@[simp] theorem aeg (cs:List FC) (o:Nat):qV (.c (.f (.fp cs o)))=aa (.c (.f (.fp cs o))):=rfl
@[simp] theorem ahg (x:Arg):bC t H (.dE x)=(qV (x.ev t)).map (·,H):=by
 simp only [bC,qV];split
 ·rename_i h;simp only [h];rfl
 ·rename_i h;simp only [h];rfl
 ·rename_i b d;split
  ·rename_i h;exact absurd h (b _ _ _)
  ·rename_i h;exact absurd h (d _ _)
  ·rfl
@[simp] theorem aec (f:Nat) (b:List FC) (args:List V):bS (.c (.f (.fn f b))) args=aa (.fn f,args++b.map fun x=>.c (.f x)):=rfl
@[simp] theorem aeb (f:Nat) (b:List C) (args:List V):bS (.c (.cl f b)) args=aa (.fn f,args++b.map .c):=rfl
@[simp] theorem aea (f:Nat) (first:List C) (args:List V):bS (.c (.bm f first)) args=aa (.fn f,first.map .c++args):=rfl
end
section
variable{k:IntKind}{a b:Int}{H:an}
@[simp] theorem ahm:bM .add (.c (.f (.int k a))) (.c (.f (.int k b)))=aa (.c (.f (.int k (k.wrap (a+b))))):=by simp [bM,ky,V.int]
@[simp] theorem ahu:bM .sub (.c (.f (.int k a))) (.c (.f (.int k b)))=aa (.c (.f (.int k (k.wrap (a-b))))):=by simp [bM,ky,V.int]
@[simp] theorem ahs:bM .mul (.c (.f (.int k a))) (.c (.f (.int k b)))=aa (.c (.f (.int k (k.wrap (a*b))))):=by simp [bM,ky,V.int]
theorem oq(h:b≠0):bM .quo (.c (.f (.int k a))) (.c (.f (.int k b)))=aa (.c (.f (.int k (k.wrap (a.tdiv b))))):=by simp [bM,ky,V.int,h]
theorem gO(h:b≠0):bM .rem (.c (.f (.int k a))) (.c (.f (.int k b)))=aa (.c (.f (.int k (a.tmod b)))):=by simp [bM,ky,V.int,h]
@[simp] theorem ahn:bM .eql (.c (.f (.int k a))) (.c (.f (.int k b)))=aa (vb (decide (a=b))):=by simp [bM,ky,V.bool];rfl
@[simp] theorem aht:bM .neq (.c (.f (.int k a))) (.c (.f (.int k b)))=aa (vb (!decide (a=b))):=by simp [bM,ky,V.bool];rfl
@[simp] theorem ahr:bM .lss (.c (.f (.int k a))) (.c (.f (.int k b)))=aa (vb (decide (a<b))):=by simp [bM,ky,V.bool]
@[simp] theorem ahq:bM .leq (.c (.f (.int k a))) (.c (.f (.int k b)))=aa (vb (decide (a≤b))):=by simp [bM,ky,V.bool]
@[simp] theorem ahp:bM .gtr (.c (.f (.int k a))) (.c (.f (.int k b)))=aa (vb (decide (b<a))):=by simp [bM,ky,V.bool]
@[simp] theorem aho:bM .geq (.c (.f (.int k a))) (.c (.f (.int k b)))=aa (vb (decide (b≤a))):=by simp [bM,ky,V.bool]
@[simp] theorem afP {x y:Bool}:Hm .bool (.f (.bool x)) (.f (.bool y))=aa (x == y):=rfl
@[simp] theorem ahz:Hm .int (.f (.int k a)) (.f (.int k b))=aa (a == b):=by simp [Hm]
@[simp] theorem ahA {x y:ByteArray}:Hm .str (.f (.str x)) (.f (.str y))=aa (x == y):=rfl
@[simp] theorem ahy:qp [] [] []=aa ae:=rfl
@[simp] theorem afO {q:CK} {qs:List CK} {x y:C} {xs ys:List C}:qp (q::qs) (x::xs) (y::ys)=(Hm q x y).bind fun c=>(qp qs xs ys).map fun d=>c&&d:=by
 simp only [qp];cases Hm q x y<;>cases qp qs xs ys<;>rfl
@[simp] theorem afQ {x y:Bool}:BF H .bool (.c (.f (.bool x))) (.c (.f (.bool y)))=aa (x == y):=rfl
@[simp] theorem aic {b:List CK} {xs ys:List C}:BF H (.st b) (.a xs) (.a ys)=qp b xs ys:=rfl
@[simp] theorem air {x:Bool}:unV .not (.c (.f (.bool x)))=aa (vb (!x)):=rfl
@[simp] theorem ab3 {o c o' ep:Nat}:mT o (.c (.ptr c o' ep))=aa (.c (.ptr c (o'+o) ep)):=rfl
@[simp] theorem aee {o o':Nat} {cs:List FC}:mT o (.c (.f (.fp cs o')))=aa (.c (.f (.fp cs (o'+o)))):=rfl
@[simp] theorem ahx {x:C}:(V.c x).cells?=aa [x]:=rfl
@[simp] theorem ahw {xs:List C}:(V.a xs).cells?=aa xs:=rfl
@[simp] theorem aiX {n:Nat} {x:FC}:et n H (.f x)=aa x:=by cases n<;>rfl
@[simp] theorem afS {n:Nat} {x:C}:dI n H (.c x)=(et n H x).map fun y=>.c (.f y):=rfl
@[simp] theorem aiM {n f:Nat} {b:List C}:et (n+1) H (.cl f b)=(aZ (et n H) b).map (.fn f):=rfl
@[simp] theorem RO {n b o e:Nat}:et (n+1) H (.ptr b o e)=match H[b]? with
  | some (.box cs _)=>(aZ (et n H) cs).map (.fp · o)| _=>ab:=rfl
theorem jQ{n b o l c ep sz:Nat}:et (n+1) H (.sl b o l c ep sz)=match H[b]? with
  | some (.box cs _)=>if o+l*sz≤cs.length then(aZ (et n H) ((cs.drop o).take (l*sz))).map (.fs · l)else ab| some (.cE s cs _ e .loc)=>if ep=e∧sz=s∧o+l*sz≤cs.length then(aZ (et n H) ((cs.drop o).take (l*sz))).map (.fs · l)else ab| some (.cE s _ _ e .nil)=>if ep=e∧sz=s then aa .aA else ab| some (.cE s _ _ e .es)=>if ep=e∧sz=s then aa .es else ab| _=>ab:=rfl
theorem Ay{n b o e:Nat}:eK (n+1) (.ptr b o e) H=match H[b]? with
  | some (.box cs fl)=>cs.foldl (fun H x=>eK n x H) (H.set b (.box cs (Nat.max fl cs.length)))
  | _=>H:=rfl
theorem oT{n b o l c e sz:Nat}:eK (n+1) (.sl b o l c e sz) H=match H[b]? with
  | some (.box cs fl)=>((cs.drop o).take (l*sz)).foldl (fun H x=>eK n x H) (H.set b (.box cs (Nat.max fl (o+l*sz))))
  | some (.cE s cs fl e st)=>((cs.drop o).take (l*sz)).foldl (fun H x=>eK n x H) (H.set b (.cE s cs (Nat.max fl (o+l*sz)) e st))
  | _=>H:=rfl
theorem Sf{n f:Nat}{b:List C}:eK (n+1) (.cl f b) H=b.foldl (fun H x=>eK n x H) H:=rfl
@[simp] theorem ai3 {n:Nat} {x:C}:YH n H (.c x)=eK n x H:=rfl
@[simp] theorem aiL {n:Nat} {x:C}:mR n H (.c x)=(et n H x).map fun y=>.c (.f y):=rfl
theorem mo{n:Nat}:∀(xs:List FC),aZ (et n H) (xs.map .f)=aa xs
 | []=>rfl| x::xs=>by simp [aZ,mo xs]
@[simp] theorem aiK {n:Nat} {xs:List C}:dI n H (.a xs)=(aZ (et n H) xs).map fun ys=>.a (ys.map .f):=rfl
@[simp] theorem ahD {n:Nat} (xs:List FC):aZ (et n H) (xs.map .f)=aa xs:=mo xs
@[simp] theorem ai2 {n:Nat} {xs:List C}:YH n H (.a xs)=xs.foldl (fun H x=>eK n x H) H:=rfl
@[simp] theorem agf {n:Nat} {x:FC}:eK n (.f x) H=H:=by cases n<;>rfl
end
theorem wrap64{n:Int}(b:-9223372036854775808≤n)(d:n≤9223372036854775807):IntKind.wrap .i64 n=n:=by
 simp only [IntKind.wrap,IntKind.bits,IntKind.signed];simp;omega
theorem aM{n:Int}(b:-9223372036854775808≤n:=by omega)(d:n≤9223372036854775807:=by omega):IntKind.wrap .i64 n=n:=wrap64 b d
@[simp] theorem cast_eq (a b:Nat):((a:Int)=(b:Int))=(a=b):=propext Int.natCast_inj
@[simp] theorem af_ {b d:Type} (g:b→Option d):aZ g []=aa []:=rfl
@[simp] theorem aef {b d:Type} (g:b→Option d) (x:b) (xs:List b):aZ g (x::xs)=(g x).bind fun y=>(aZ g xs).map (y::·):=by
 simp only [aZ];cases g x<;>cases aZ g xs<;>simp
@[simp] theorem ahP (x:C) (xs:List C):aW ab (x::xs)=aa (.c x):=rfl
@[simp] theorem ahQ (n:Nat) (xs:List C):aW (aa n) xs=if n≤xs.length then aa (.a (xs.take n))else ab:=rfl
@[simp] theorem ay (H:an) (n:Option Nat) (b o ep:Nat):aU H n (.c (.ptr b o ep))=match H[b]? with
  | some (.box cs _)=>aW n (cs.drop o)| some (.cE _ cs _ e .loc)=>if ep=e then aW n (cs.drop o)else ab| _=>ab:=by
 simp only [aU,aC];split
 ·rename_i h;simp only [h];rfl
 ·rename_i h;simp only [h];split<;>rfl
 ·rename_i d g;split
  ·rename_i h;exact absurd h (d _ _)
  ·rename_i h;exact absurd h (g _ _ _ _)
  ·rfl
theorem BW(H:an)(n:Option Nat)(cs:List FC)(o:Nat):aU H n (.c (.f (.fp cs o)))=aW n ((cs.drop o).map .f):=rfl
@[simp] theorem bu (H:an) (b o ep:Nat) (xs:List C):di H (.ptr b o ep) xs=match H[b]? with
  | some (.box cs fl)=>if fl≤o∧o+xs.length≤cs.length then aa (H.set b (.box (over cs o xs) fl))else ab| some (.cE sz cs fl e .loc)=>if ep=e∧fl≤o∧o+xs.length≤cs.length then aa (H.set b (.cE sz (over cs o xs) fl e .loc))else ab| _=>ab:=rfl
attribute [simp] over cB
@[simp] theorem acM (t:T) (cs:List C):eZ t cs []=aa cs:=rfl
@[simp] theorem aak (t:T) (cs:List C) (o n:Nat) (x:Arg) (ps:List (Nat × Nat × Arg)):eZ t cs ((o,n,x)::ps)=(x.ev t).cells?.bind fun xs=>if xs.length=n∧o+xs.length≤cs.length then eZ t (over cs o xs) ps else ab:=by
 simp only [eZ];cases (x.ev t).cells?<;>rfl
@[simp] theorem ah9 (x:FC):tA (.c (.f x))=aa (.f x):=rfl
@[simp] theorem afF (b o e:Nat):tA (.c (.ptr b o e))=aa (.ptr b o e):=rfl
@[simp] theorem ahv (b o l c e s:Nat):tA (.c (.sl b o l c e s))=aa (.sl b o l c e s):=rfl
def ad2:V→Option V
 | .t _=>ab| v=>aa v
@[simp] theorem aiq (x:C):ad2 (.c x)=aa (.c x):=rfl
@[simp] theorem aip (x:List C):ad2 (.a x)=aa (.a x):=rfl
@[simp] theorem ahM (t:T) (H:an) (n:Nat):cC t H (.tmp (P.nat n))=ad2 (t.g n):=by
 simp only [cC,X7];cases t.g n<;>rfl
@[simp] theorem agX (t:T) (H:an) (n:Nat) (k:Option Nat):cC t H (.cell (P.nat n) k)=aU H k (t.g n):=rfl
@[simp] theorem ahB {t:T} {H:an} {x:gA} {r:V}:nu [x] r ⟨t,[],H⟩↔∃ b,cC t H x=aa b∧mR deep H b=aa r:=by
 simp only [nu,results,true_and,aZ];cases cC t H x<;>simp
@[simp] theorem ahC {t:T} {H:an} {x y:gA} {a b:V}:nu [x,y] (.t [a,b]) ⟨t,[],H⟩ ↔
  (∃ d,cC t H x=aa d∧dI deep H d=aa a)∧∃ d,cC t H y=aa d∧dI deep H d=aa b:=by
 simp only [nu,results,true_and,aZ];cases cC t H x with
 | none=>simp
 | some u=>cases cC t H y with
  | none=>simp| some w=>cases g:dI deep H u<;>cases j:dI deep H w<;>simp [mR,g,j]
inductive Tg where | nil | es | fs
 deriving DecidableEq
def Tg.fc:Tg→FC
 | .nil=>.aA| .es=>.es| .fs=>.fs [] 0
def sl(g:Tg)(rows:List (List FC)):FC:=if rows.isEmpty then g.fc else .fs rows.flatten rows.length
def bK(sz:Nat)(rows:List (List FC)):Prop:=∀ r ∈ rows,r.length=sz
theorem cG{sz:Nat}:∀ {rows:List (List FC)},bK sz rows→rows.flatten.length=rows.length*sz
 | [],_=>by simp
 | r::rows,h=>by
  have:=cG (rows:=rows) fun x b=>h x (ajb _ b);simp only [ajs,ai7,ajL,this,h r ajc,ajy,akV];omega
theorem mQ{sz:Nat}:∀ {rows:List (List FC)} (j:Nat),bK sz rows→rows.flatten.drop (j*sz)=(rows.drop j).flatten
 | rows,0,_=>by simp
 | [],j+1,_=>by simp
 | r::rows,j+1,h=>by
  have b:=h r ajc;have:=mQ (rows:=rows) j fun x d=>h x (ajb _ d);rw [ajs,List.drop_succ_cons,←this,ajy,akV,akW,b];simp [b,show j*sz+sz-sz=j*sz by omega]
theorem nq{sz:Nat}:∀ {rows:List (List FC)} (j:Nat),bK sz rows→rows.flatten.take (j*sz)=(rows.take j).flatten
 | rows,0,_=>by simp
 | [],j+1,_=>by simp
 | r::rows,j+1,h=>by
  have b:=h r ajc;have:=nq (rows:=rows) j fun x d=>h x (ajb _ d);rw [ajs,ak9,ajs,←this,ajy,akV,List.take_append,b];simp [b,show j*sz+sz-sz=j*sz by omega];rw [ajl (by omega)]
theorem bK.map{b:Type}{sz:Nat}{l:List b}{g:b→List FC}(h:∀ x,(g x).length=sz):bK sz (l.map g):=fun r d=>by
 obtain⟨x,_,rfl⟩:=ajj.1 d;exact h x
theorem rK{sz j k:Nat}{rows:List (List FC)}{row:List FC}(d:bK sz rows)(b:rows[j]?=aa row)(l:k≤sz) :
  rows.flatten.drop (j*sz+k)=row.drop k++(rows.drop (j+1)).flatten:=by
 have g:j<rows.length:=(IS.1 b).1;have m:row.length=sz:=d row (ajg b);rw [←akn,mQ j d,ajh g,ajs];have:rows[j]=row:=by simpa [By g]using b
 rw [this,akW,show k-row.length=0 by omega];simp
variable{H:an}
theorem mj{sz j k:Nat}{rows:List (List FC)}{row:List FC}{x:FC}(b:bK sz rows)(d:rows[j]?=aa row)(l:row[k]?=aa x) :
  aU H ab (.c (.f (.fp rows.flatten (j*sz+k))))=aa (.c (.f x)):=by
 have m:row.length=sz:=b row (ajg d);have g:k<row.length:=(IS.1 l).1;have e:=rK (k:=k) b d (by omega);simp only [aU,aC,ajC,e];rw [ajh g];have:row[k]=x:=by simpa [By g]using l
 simp [aW,this]
theorem Yx{sz j k n:Nat}{rows:List (List FC)}{row:List FC}(b:bK sz rows)(d:rows[j]?=aa row)(g:k+n≤sz) :
  aU H (aa n) (.c (.f (.fp rows.flatten (j*sz+k))))=aa (.a (((row.drop k).take n).map .f)):=by
 have l:row.length=sz:=b row (ajg d);have e:=rK (k:=k) b d (by omega);simp only [aU,aC,ajC,e];simp only [aW];rw [ba (by simp only [ajf,ai7,ajm];omega)];rw [akp,ajG (by simp only [ajf,ajm];omega),akQ]
theorem dr{sz j:Nat}{rows:List (List FC)}{row:List FC}(b:bK sz rows)(d:rows[j]?=aa row) :
  aU H (aa sz) (.c (.f (.fp rows.flatten (j*sz))))=aa (.a (row.map .f)):=by
 have g:row.length=sz:=b row (ajg d);have:=Yx (H:=H) (k:=0) (n:=sz) b d (by omega);simp only [Nat.add_zero,aj4]at this;rw [this,ajl (by omega)]
theorem fZ{sz j:Nat}{rows:List (List FC)}{row:List FC}{x:FC}(b:bK sz rows)(d:rows[j]?=aa row)(g:row[0]?=aa x) :
  aU H ab (.c (.f (.fp rows.flatten (j*sz))))=aa (.c (.f x)):=mj (k:=0) b d g
theorem Yw{j:Nat}{l:List Int}{x:Int}(b:l[j]?=aa x) :
  aU H ab (.c (.f (.fp (l.map fun n=>[fi n]).flatten (j*1))))=aa (vi x):=
 fZ (row:=[fi x]) (bK.map fun _=>rfl) (by rw [aj3,b];rfl) rfl
@[simp] theorem R3 (g:Tg) (rows:List (List FC)):bg H (.f (sl g rows))=aa rows.length:=by
 cases rows with
 | nil=>cases g<;>rfl
 | cons r rows=>rfl
theorem bH{g:Tg}{rows:List (List FC)}{sz:Nat}{k:IntKind}{i:Int}(d:0≤i)(b:i<rows.length) :
  bz H sz ab (.c (.f (sl g rows))) (.c (.f (.int k i)))=aa (.c (.f (.fp rows.flatten (i.toNat*sz)))):=by
 cases rows with
 | nil=>simp at b;omega
 | cons r rows=>
  simp only [ajL]at b;simp [bz,fS,sl,d];omega
theorem yk{g:Tg}{rows:List (List FC)}{sz:Nat}(b:bK sz rows):cH H sz (.f (sl g rows))=aa (rows.flatten.map .f):=by
 cases rows with
 | nil=>cases g<;>simp [sl,Tg.fc,cH]
 | cons r rows=>
  have:=cG b;simp only [sl,alg,ajo,if_false,cH,this,if_true]
end
section
open Go
def Kf(tab:TB)(f:Nat)(args:List V)(r:V):Prop:=∀ H,∃ J,Ev tab (.fn f) args H r (H++J)
section
variable{tab:TB}{f:Nat}{args:List V}{r:V}
theorem Kf.pure{x:FC}(h:Kf tab f args (.c (.f x))):bR tab f args (.c (.f x)):=by
 obtain⟨J,h⟩:=h [];exact⟨_,_,h,by simp⟩
theorem Kf.eq{x:FC}(h:Kf tab f args (.c (.f x))):bR tab f args=Eq (.c (.f x)):=
 funext fun r=>propext ⟨fun k=>h.pure.XO k,fun e=>e▸h.pure⟩
theorem bR.eq{r:V}(h:bR tab f args r):bR tab f args=Eq r:=funext fun _=>propext ⟨fun k=>h.XO k,fun e=>e▸h⟩
noncomputable def af2 (tab:TB) (f:Nat) (args:List V) (H:an):an:=Classical.epsilon fun J=>∃ r,Ev tab (.fn f) args H r (H++J)
theorem Kf.ev(h:Kf tab f args r)(H:an):Ev tab (.fn f) args H=E2 r (H++af2 tab f args H):=by
 have l:∃ J,∃ r,Ev tab (.fn f) args H r (H++J):=by obtain⟨J,b⟩:=h H;exact⟨J,r,b⟩
 have m:∃ r,Ev tab (.fn f) args H r (H++af2 tab f args H):=Classical.epsilon_spec l;obtain⟨J,b⟩:=h H;obtain⟨r',d⟩:=m;obtain⟨rfl,e⟩:=b.XO d;funext x H';exact propext ⟨fun k=>d.XO k,fun⟨g,j⟩=>g▸j▸d⟩
theorem Ev.eq{c:Callee}{H H':an}(h:Ev tab c args H r H'):Ev tab c args H=E2 r H':=funext fun _=>funext fun _=>propext ⟨fun k=>h.XO k,fun⟨b,d⟩=>b▸d▸h⟩
theorem Kf.adG{xs:List FC}(h:Kf tab f args (.a (xs.map .f))):bR tab f args (.a (xs.map .f)):=by
 obtain⟨J,h⟩:=h [];exact⟨_,_,h,by simp [mR]⟩
def Xw(b:List gA)(r:V)(H:an)(s:St):Prop:=s.defs=[]∧results s.aB s.heap b=aa r∧∃ J,s.heap=H++J
theorem dO{ps:List P}{b:List gA}{body:av}(y:tab f=aa ⟨ps,b,body⟩)(x:args.length=ps.length)
  (h:∀(H:an) (Q:Option av→St→Prop),(∀ j s,Xw b r H s→Q j s)→WP tab f ab [.code body] ⟨bV ps args .e,[],H⟩ Q):Kf tab f args r:=by
 intro H;have g:=h H (fun _ s=>Xw b r H s) fun _ _ h=>h;obtain⟨n,m,d,j,s,l,v,q,J,u⟩:=g;exact⟨J,qu y x ⟨n,m,d,j,s,l,0,0,s.heap,by rw [v];rfl,by rw [q],u⟩⟩
@[simp] theorem afU {t:T} {H H':an} {x:gA}:Xw [x] r H ⟨t,[],H'⟩↔cC t H' x=aa r∧∃ J,H'=H++J:=by
 simp only [Xw,results,true_and,aZ];cases cC t H' x<;>simp
theorem zo{m d:Nat}{x:FC}(h:(CF tab m d (.fn f) args []).map (·.1)=aa (.c (.f x))):bR tab f args (.c (.f x)):=by
 rw [IN]at h;obtain⟨⟨r,H'⟩,b,g⟩:=h;exact⟨r,H',⟨m,d,b⟩,by rw [show r=.c (.f x) from g];simp⟩
theorem pc{m d:Nat}{x:V}(h:((CF tab m d (.fn f) args []).bind fun p=>mR deep p.2 p.1)=aa x):bR tab f args x:=by
 rw [ajx]at h;obtain⟨⟨r,H'⟩,b,g⟩:=h;exact⟨r,H',⟨m,d,b⟩,g⟩
theorem ai4{tab:TB}{f:Nat}{args:List V}{x:V}(h:((CF tab 60 10 (.fn f) args []).bind fun p=>mR deep p.2 p.1)=aa x):bR tab f args=Eq x:=bR.eq (pc h)
theorem fu{S:V→Prop}{ps:List P}{b:List gA}{body:av}(z:tab f=aa ⟨ps,b,body⟩)(x:args.length=ps.length)
  (h:∀ Q:Option av→St→Prop,(∀ j s r,S r→nu b r s→Q j s)→WP tab f ab [.code body] ⟨bV ps args .e,[],[]⟩ Q):∃ r,S r∧bR tab f args r:=by
 have q:=h (fun _ s=>∃ r,S r∧nu b r s) fun _ _ r g l=>⟨r,g,l⟩
 obtain⟨n,m,d,j,s,g,r,y,v,A,l,u⟩:=q;exact⟨r,y,A,s.heap,qu z x ⟨n,m,d,j,s,g,0,0,s.heap,by rw [v];rfl,l,rfl⟩,u⟩
variable{fn i:Nat}{ro:Option Nat}{k:List cD}{ds:List eU}{Q:Option av→St→Prop}
def qN(a x:Nat):av:=.region [⟨D x,.bin .add (R a) (.k (.c (.f (.int .i64 1)))),ab⟩,⟨D a,.cU (R x),ab⟩] []
def ik(i a b c x:Nat)(body:av):av:=.seq (.region [⟨D c,.bin .lss (R a) (R b),ab⟩] []) (.seq (.cond (R c) .skip (.exit i)) (.seq body (qN a x)))
def vS(i a b c x:Nat)(body:av):av:=.block i (.loop (ik i a b c x body))
theorem bU{a b c x:Nat}{body:av}{t:T}{H:an}(N:Nat)(I:Nat→T→an→Prop)(J:N≤9223372036854775807)(y:a≠b)(A:x≠b)
  (g:t.g a=vi 0) (l:t.g b=vi N) (E:I 0 t H)
  (step:∀ j t H,j<N→I j t H→t.g a=vi j→t.g b=vi N →
   (∀ q H',I (j+1) ((q.s x (vi (j+1:Nat))).s a (vi (j+1:Nat))) H'→q.g a=vi j→q.g b=vi N →
    WP tab fn ro (.code (qN a x)::.inLoop (ik i a b c x body)::.inBlock i::k) ⟨q,ds,H'⟩ Q) →
   WP tab fn ro (.code body::.code (qN a x)::.inLoop (ik i a b c x body)::.inBlock i::k) ⟨t.s c (vb ae),ds,H⟩ Q)
  (done:∀ t H,I N t H→t.g a=vi N→t.g b=vi N→WP tab fn ro k ⟨t.s c (vb ag),ds,H⟩ Q) :
  WP tab fn ro (.code (vS i a b c x body)::k) ⟨t,ds,H⟩ Q:=by
 have m:∀ ops:List aO,ops.all (·.op.eC)=ae→ro=ab∨ops.all (·.op.eC)=ae:=fun _ h=>.inr h;refine az ?_;refine bJ (fun n s=>∃ j t H,s=⟨t,ds,H⟩∧j≤N∧n=N-j∧I j t H∧t.g a=vi j∧t.g b=vi N) N ⟨0,t,H,rfl,by omega,by omega,E,g,l⟩ ?_;rintro n s ⟨j,t,H,rfl,K,rfl,B,g,l⟩ F;apply aq;refine au (m _ rfl) ?_;simp [g,l];by_cases d:j<N
 ·rw [decide_eq_true d];apply aq;refine aw (by simp) ?_;refine aP ?_;apply aq;refine step j t H d B g l fun q H' u v z=>?_;refine au (m _ rfl) ?_;simp [v];rw [aM];refine F (N-(j+1)) _ (by omega) ⟨j+1,_,H',rfl,by omega,rfl,by simpa using u,by simp,?_⟩;simp [y,A,z]
 ·have:j=N:=by omega
  subst this;rw [decide_eq_false d];apply aq;refine aG (by simp) ?_;refine bw (k':=k) (by simp [exitTo]) ?_;exact done t H B g l
def se(a x y:Nat):av:=.region [⟨D x,.cU (R a),ab⟩,⟨D y,.bin .add (R x) (.k (.c (.f (.int .i64 1)))),ab⟩,⟨D a,.cU (R y),ab⟩] []
def qY(i a c x y:Nat)(b:List aO)(body:av):av:=.seq (.seq (.region b []) (.cond (R c) .skip (.exit i))) (.seq body (se a x y))
def Rs(i a c x y:Nat)(b:List aO)(body:av):av:=.block i (.loop (qY i a c x y b body))
theorem mY{a c x y:Nat}{g:List aO}{body:av}{t:T}{H:an}(N:Nat)(I:Nat→T→an→Prop)(J:N≤9223372036854775807)(A:g.all (·.op.eC)=ae)
  (d:t.g a=vi 0) (B:I 0 t H)
  (l:∀ j t H (L:St→Prop),j≤N→I j t H→t.g a=vi j→(∀ b,I j b H→b.g a=vi j→b.g c=vb (decide ((j:Int)<(N:Int)))→L ⟨b,ds,H⟩)→pz tab g ⟨t,ds,H⟩ L)
  (step:∀ j t H,j<N→I j t H→t.g a=vi j →
   (∀ b H',I (j+1) (((b.s x (vi j)).s y (vi (j+1:Nat))).s a (vi (j+1:Nat))) H'→b.g a=vi j →
    WP tab fn ro (.code (se a x y)::.inLoop (qY i a c x y g body)::.inBlock i::k) ⟨b,ds,H'⟩ Q) →
   WP tab fn ro (.code body::.code (se a x y)::.inLoop (qY i a c x y g body)::.inBlock i::k) ⟨t,ds,H⟩ Q)
  (done:∀ t H,I N t H→t.g a=vi N→WP tab fn ro k ⟨t,ds,H⟩ Q) :
  WP tab fn ro (.code (Rs i a c x y g body)::k) ⟨t,ds,H⟩ Q:=by
 have m:∀ ops:List aO,ops.all (·.op.eC)=ae→ro=ab∨ops.all (·.op.eC)=ae:=fun _ h=>.inr h;refine az ?_;refine bJ (fun n s=>∃ j t H,s=⟨t,ds,H⟩∧j≤N∧n=N-j∧I j t H∧t.g a=vi j) N ⟨0,t,H,rfl,by omega,by omega,B,d⟩ ?_;rintro n s ⟨j,t,H,rfl,E,rfl,q,d⟩ F;apply aq;apply aq;refine au (m _ A) ?_;refine l j t H _ E q d fun b q d hc=>?_;by_cases z:j<N
 ·rw [decide_eq_true (by omega)]at hc;refine aw hc ?_;refine aP ?_;apply aq;refine step j b H z q d fun b H' u v=>?_;refine au (m _ rfl) ?_;simp [v];rw [aM];exact F (N-(j+1)) _ (by omega) ⟨j+1,_,H',rfl,by omega,rfl,by simpa using u,by simp⟩
 ·have:j=N:=by omega
  subst this;rw [decide_eq_false (by omega)]at hc;refine aG hc ?_;refine bw (k':=k) (by simp [exitTo]) ?_;exact done b H q d
end
end
section
open Go
def kQ{b:Type}(l:List b)(p:b→Bool):Int:=match l.findIdx? p with | some j=>j | none=>-1
theorem Ht{b:Type}(l:List b)(p:b→Bool):decide (0≤kQ l p)=l.any p:=by
 unfold kQ;cases h:l.findIdx? p with
 | none=>
  rw [List.findIdx?_eq_none_iff]at h;have:l.any p=ag:=by rw [List.any_eq_false];intro x m;simp [h x m]
  simp [this]
 | some j=>
  rw [alh]at h;obtain⟨d,g,_⟩:=h;have:l.any p=ae:=by rw [List.any_eq_true];exact⟨l[j],IT d,g⟩
  simp [this]
theorem Hs{b:Type}{l:List b}{p:b→Bool}{j:Nat}(d:j<l.length)(m:p l[j]=ae)(g:∀(i:Nat) (hi:i<j),p (l[i]'(by omega))=ag):kQ l p=j:=by
 have:l.findIdx? p=aa j:=by
  rw [alh];exact⟨d,m,fun i hi=>by simp [g i hi]⟩
 simp [kQ,this]
theorem Hu{b:Type}{l:List b}{p:b→Bool}(d:∀(i:Nat) (hi:i<l.length),p l[i]=ag):kQ l p = -1:=by
 have:l.findIdx? p=ab:=by
  rw [List.findIdx?_eq_none_iff];intro x g;obtain⟨i,hi,rfl⟩:=List.getElem_of_mem g;exact d i hi
 simp [kQ,this]
def ints(l:List Int):List (List FC):=l.map fun n=>[fi n]
@[simp] theorem af0 (l:List Int):(ints l).length=l.length:=by simp [ints]
theorem dY{j:Nat}{l:List Int}(b:j<l.length){H:an}:aU H ab (.c (.f (.fp (ints l).flatten j)))=aa (vi l[j]):=by
 have:=Yw (H:=H) (By b);simpa [ints]using this
variable{tab:TB}
def Yl(t:List aO):av:=.block 1 (.seq (.region [⟨D 10,.cU (R 8),ab⟩,⟨D 5,.cU (R 10),ab⟩] []) (.seq
 (.region t []) (.cond (R 16) (.seq (.region [⟨D 17,.cU (R 5),ab⟩,⟨D 4,.cU (R 17),ab⟩] []) .ret) .skip)))
def afX(t:List aO):aK:=⟨[P.nat 0,P.nat 1],[.tmp (P.nat 4)],.seq (.region [⟨D 4,.cU (.k (.c (.f (.int .i64 0)))),ab⟩] [])
 (.seq (.seq (.region [⟨D 6,.cU (R 0),ab⟩,⟨D 7,.len (R 6),ab⟩,⟨D 8,.cU (.k (.c (.f (.int .i64 0)))),ab⟩] []) (vS 0 8 7 9 18 (Yl t)))
 (.seq (.region [⟨D 4,.cU (.k (.c (.f (.int .i64 (-1))))),ab⟩] []) .ret))⟩
def Z'(sz:Nat)(b:Option Nat):List aO:=[⟨D 11,.cU (R 1),ab⟩,⟨D 12,.cU (R 0),ab⟩,⟨D 13,.cU (R 5),ab⟩,⟨D 14,.bI sz ab (R 12) (R 13),ab⟩,⟨D 15,.load b (R 14),ab⟩,⟨D 16,.bT (R 11) [(R 15)] ae,ab⟩]
theorem acb{f:Nat}{d:List aO}(W:tab f=aa (afX d)){x y:V}{F:Type}{l:List F}{p:F→Bool}(U:l.length≤9223372036854775807)
  (X:∃ c,x=.c c∧∀ H,bg H c=aa l.length)
  (g:∀(j:Nat) (v:j<l.length) (t:T) (H:an) (L:St→Prop),t.g 0=x→t.g 1=y→t.g 5=vi j →
   (∀ b J,b.g 0=x→b.g 1=y→b.g 5=vi j→b.g 7=t.g 7→b.g 8=t.g 8→b.g 16=vb (p l[j])→L ⟨b,[],H++J⟩)→pz tab d ⟨t,[],H⟩ L) :
  Kf tab f [x,y] (vi (kQ l p)):=by
 obtain⟨c,rfl,hc⟩:=X;refine dO W rfl fun H Q B=>?_;apply aq;refine au (.inl rfl) ?_;simp;apply aq;apply aq;refine au (.inl rfl) ?_;simp [hc];refine bU l.length (fun j t H'=>t.g 0=.c c∧t.g 1=y∧(∃ J,H'=H++J)∧∀(i:Nat) (hi:i<l.length),i<j→p l[i]=ag) U (by decide) (by decide) (by simp) (by simp) (by simp) ?_ ?_
 ·rintro j t _ v ⟨z,A,⟨J,rfl⟩,q⟩ u E next
  refine az ?_;apply aq;refine au (.inl rfl) ?_;simp [u];apply aq;refine au (.inl rfl) ?_;refine g j v _ _ _ (by simp [z]) (by simp [A]) (by simp) fun b J' I K M N O m=>?_;cases s:p l[j]with
  | true=>
   refine aw (by simp [m,s]) ?_;apply aq;refine au (.inl rfl) ?_;simp [M];refine aF (B _ _ ?_);have:=Hs v s (fun i hi=>q i (by omega) hi);simp [this]
  | false=>
   refine aG (by simp [m,s]) ?_;refine aP (ax (next _ _ ?_ (by simp [O,u]) (by simp [N,E])));refine⟨by simp [I],by simp [K],⟨J++J',by simp⟩,fun i hi S=>?_⟩;by_cases e:i=j
   ·subst e;exact s
   ·exact q i hi (by omega)
 ·rintro t _ ⟨z,A,⟨J,rfl⟩,q⟩ u E;apply aq;refine au (.inl rfl) ?_;simp;refine aF (B _ _ ?_);have:=Hu (l:=l) (p:=p) (fun i hi=>q i hi hi);simp [this]
theorem jT{f sz:Nat}{y:Option Nat}(F:tab f=aa (afX (Z' sz y))){q:Type}(l:List q)(enc:q→List FC)(val:q→V)(p:q→Bool)(g:Tg)(k:Nat)(b:List FC)
  (B:l.length≤9223372036854775807) (d:∀(j:Nat) (m:j<l.length) (H:an),aU H y (.c (.f (.fp (l.map enc).flatten (j*sz))))=aa (val l[j]))
  (E:∀ x ∈ l,Kf tab k (val x::b.map fun c=>.c (.f c)) (vb (p x))) :
  Kf tab f [.c (.f (sl g (l.map enc))),.c (.f (.fn k b))] (vi (kQ l p)):=by
 refine acb F B ⟨_,rfl,fun H=>by simp⟩ ?_;intro j m t H L s u v z;have A:=(E l[j] (IT m)).ev H;have hi:=bH (H:=H) (g:=g) (rows:=l.map enc) (sz:=sz) (k:=.i64) (i:=(j:Int)) (by omega) (by simpa using m);simp [Z',s,u,v,hi,d j m,A];exact z _ _ (by simp [s]) (by simp [u]) (by simp [v]) (by simp) (by simp) (by simp)
def Hg(f:Nat):aK:=⟨[P.nat 0,P.nat 1],[.tmp (P.nat 4)],.seq (.region [⟨D 4,.cU (.k (.c (.f (.bool ag)))),ab⟩] []) (.seq
 (.region [⟨D 5,.cU (R 0),ab⟩,⟨D 6,.cU (R 1),ab⟩,⟨D 7,.call f [(R 5),(R 6)] ag,ab⟩,⟨D 8,.bin .geq (R 7) (.k (.c (.f (.int .i64 0)))),ab⟩,⟨D 4,.cU (R 8),ab⟩] []) .ret)⟩
theorem gU{f k:Nat}(m:tab f=aa (Hg k)){a b:FC}{d:Type}{l:List d}{p:d→Bool}(h:Kf tab k [.c (.f a),.c (.f b)] (vi (kQ l p))) :
  Kf tab f [.c (.f a),.c (.f b)] (vb (l.any p)):=by
 refine dO m rfl fun H Q g=>?_;apply aq;refine au (.inl rfl) ?_;simp;apply aq;refine au (.inl rfl) ?_;have j:=h.eq;simp [j];refine aF (g _ _ ?_);simp [Ht]
end
section
open Go
theorem aj{H:an}{b:Nat}{x:bZ}(h:H[b]?=aa x):b<H.length:=(IS.1 h).1
theorem eF{j l:Type}{g g':j→Option l}:∀ {xs:List j} {ys:List l},(∀ x y,x ∈ xs→g x=aa y→g' x=aa y)→aZ g xs=aa ys→aZ g' xs=aa ys
 | [],ys,_,h=>h
 | x::xs,ys,hi,h=>by
  simp only [aZ]at h ⊢;cases d:g x with
  | none=>simp [d]at h
  | some y=>
   cases b:aZ g xs with
   | none=>simp [d,b]at h
   | some zs=>
    simp only [d,b]at h;rw [hi x y ajc d,eF (fun x y m=>hi x y (ajb _ m)) b];exact h
theorem sy{j l:Type}{g:j→Option l}:∀ {xs:List j} {ys:List l},aZ g xs=aa ys→ys.length=xs.length
 | [],ys,h=>by simp [aZ]at h;subst h;rfl
 | x::xs,ys,h=>by
  simp only [aZ]at h;cases d:g x with
  | none=>simp [d]at h
  | some y=>
   cases b:aZ g xs with
   | none=>simp [d,b]at h| some zs=>simp [d,b]at h;subst h;simp [sy b]
theorem qA{q s:Type}{g:q→Option s}:∀ {xs b:List q} {ys d:List s},aZ g xs=aa ys→aZ g b=aa d→aZ g (xs++b)=aa (ys++d)
 | [],b,ys,d,h,l=>by simp [aZ]at h;subst h;simpa using l
 | x::xs,b,ys,d,h,l=>by
  simp only [aZ,List.cons_append]at h ⊢;cases m:g x with
  | none=>simp [m]at h
  | some y=>
   cases j:aZ g xs with
   | none=>simp [m,j]at h| some zs=>simp [m,j]at h;subst h;simp [qA j l]
def fL:Nat→an→C→Option FC
 | _,_,.f x=>aa x| 0,_,_=>ab
 | n+1,H,.ptr b d _=>match H[b]? with
  | some (.box cs _)=>(aZ (fL n H) cs).map (.fp · d)| _=>ab
 | n+1,H,.sl b o l _ _ sz=>match H[b]? with
  | some (.box cs _)=>if o+l*sz≤cs.length then(aZ (fL n H) ((cs.drop o).take (l*sz))).map (.fs · l)else ab| _=>ab
 | _+1,_,_=>ab
@[simp] theorem afT {n:Nat} {H:an} {x:FC}:fL n H (.f x)=aa x:=by cases n<;>rfl
@[simp] theorem yP {n:Nat} {H:an}:∀(xs:List FC),aZ (fL n H) (xs.map .f)=aa xs
 | []=>rfl| x::xs=>by simp only [ajd,aZ,afT,yP xs]
theorem oz{H H':an}(j:∀(b:Nat) cs fl,H[b]?=aa (.box cs fl)→∃ d,H'[b]?=aa (.box cs d)):∀(n:Nat) (x:C) (y:FC),fL n H x=aa y→fL n H' x=aa y
 | n,.f x,y,h=>by simpa using h
 | 0,.ptr _ _ _,_,h=>by simp [fL]at h
 | 0,.sl _ _ _ _ _ _,_,h=>by simp [fL]at h
 | n+1,.ptr b v e,y,h=>by
  simp only [fL]at h ⊢;split at h
  ·rename_i cs fl g;obtain⟨d,m⟩:=j b cs fl g;simp only [m];rw [IN]at h ⊢;obtain⟨zs,q,s⟩:=h;exact⟨zs,eF (fun x y _=>oz j n x y) q,s⟩
  ·simp at h
 | n+1,.sl b o l c e sz,y,h=>by
  simp only [fL]at h ⊢;split at h
  ·rename_i cs fl g;obtain⟨d,m⟩:=j b cs fl g;simp only [m];split at h
   ·rename_i u;rw [ba u];rw [IN]at h ⊢;obtain⟨zs,q,s⟩:=h;exact⟨zs,eF (fun x y _=>oz j n x y) q,s⟩
   ·simp at h
  ·simp at h
 | 0,.cl _ _,_,h=>by simp [fL]at h
 | 0,.yl _,_,h=>by simp [fL]at h
 | 0,.mp _,_,h=>by simp [fL]at h
 | 0,.it _,_,h=>by simp [fL]at h
 | 0,.bm _ _,_,h=>by simp [fL]at h
 | 0,.mi _,_,h=>by simp [fL]at h
 | _+1,.cl _ _,_,h=>by simp [fL]at h
 | _+1,.yl _,_,h=>by simp [fL]at h
 | _+1,.mp _,_,h=>by simp [fL]at h
 | _+1,.it _,_,h=>by simp [fL]at h
 | _+1,.bm _ _,_,h=>by simp [fL]at h
 | _+1,.mi _,_,h=>by simp [fL]at h
theorem vP{H:an}:∀(n:Nat) (x:C) (y:FC),fL n H x=aa y→et n H x=aa y
 | n,.f x,y,h=>by simpa using h
 | 0,.ptr _ _ _,_,h=>by simp [fL]at h
 | 0,.sl _ _ _ _ _ _,_,h=>by simp [fL]at h
 | n+1,.ptr b q e,y,h=>by
  simp only [fL]at h;simp only [et];split at h
  ·rename_i cs fl d
   try simp only [d]
   rw [IN]at h ⊢;obtain⟨zs,g,j⟩:=h;exact⟨zs,eF (fun x y _=>vP n x y) g,j⟩
  ·simp at h
 | n+1,.sl b o l c e sz,y,h=>by
  simp only [fL]at h;simp only [et];split at h
  ·rename_i cs fl d
   try simp only [d]
   split at h
   ·rename_i m;rw [ba m];rw [IN]at h ⊢;obtain⟨zs,g,j⟩:=h;exact⟨zs,eF (fun x y _=>vP n x y) g,j⟩
   ·simp at h
  ·simp at h
 | 0,.cl _ _,_,h=>by simp [fL]at h
 | 0,.yl _,_,h=>by simp [fL]at h
 | 0,.mp _,_,h=>by simp [fL]at h
 | 0,.it _,_,h=>by simp [fL]at h
 | 0,.bm _ _,_,h=>by simp [fL]at h
 | 0,.mi _,_,h=>by simp [fL]at h
 | _+1,.cl _ _,_,h=>by simp [fL]at h
 | _+1,.yl _,_,h=>by simp [fL]at h
 | _+1,.mp _,_,h=>by simp [fL]at h
 | _+1,.it _,_,h=>by simp [fL]at h
 | _+1,.bm _ _,_,h=>by simp [fL]at h
 | _+1,.mi _,_,h=>by simp [fL]at h
theorem z8{H:an}:∀ {n m:Nat} {x:C} {y:FC},fL n H x=aa y→n≤m→fL m H x=aa y
 | n,m,.f x,y,h,_=>by simpa using h
 | 0,_,.ptr _ _ _,_,h,_=>by simp [fL]at h
 | 0,_,.sl _ _ _ _ _ _,_,h,_=>by simp [fL]at h
 | _+1,0,_,_,_,s=>by omega
 | n+1,m+1,.ptr b v e,y,h,s=>by
  simp only [fL]at h ⊢;split at h
  ·rename_i cs fl d
   try simp only [d]
   rw [IN]at h ⊢;obtain⟨zs,g,j⟩:=h;exact⟨zs,eF (fun x y _ q=>z8 q (by omega)) g,j⟩
  ·simp at h
 | n+1,m+1,.sl b o l c e sz,y,h,s=>by
  simp only [fL]at h ⊢;split at h
  ·rename_i cs fl d
   try simp only [d]
   split at h
   ·rename_i u;rw [ba u];rw [IN]at h ⊢;obtain⟨zs,g,j⟩:=h;exact⟨zs,eF (fun x y _ q=>z8 q (by omega)) g,j⟩
   ·simp at h
  ·simp at h
 | 0,_,.cl _ _,_,h,_=>by simp [fL]at h
 | 0,_,.yl _,_,h,_=>by simp [fL]at h
 | 0,_,.mp _,_,h,_=>by simp [fL]at h
 | 0,_,.it _,_,h,_=>by simp [fL]at h
 | 0,_,.bm _ _,_,h,_=>by simp [fL]at h
 | 0,_,.mi _,_,h,_=>by simp [fL]at h
 | _+1,_+1,.cl _ _,_,h,_=>by simp [fL]at h
 | _+1,_+1,.yl _,_,h,_=>by simp [fL]at h
 | _+1,_+1,.mp _,_,h,_=>by simp [fL]at h
 | _+1,_+1,.it _,_,h,_=>by simp [fL]at h
 | _+1,_+1,.bm _ _,_,h,_=>by simp [fL]at h
 | _+1,_+1,.mi _,_,h,_=>by simp [fL]at h
theorem ab1{H:an}{n m:Nat}{x:C}{y:FC}(h:fL n H x=aa y)(b:n≤m):et m H x=aa y:=vP m x y (z8 h b)
theorem yy{H:an}(L:an){n:Nat}{x:C}{y:FC}(h:fL n H x=aa y):fL n (H++L) x=aa y:=
 oz (fun b cs fl d=>⟨fl,by rw [AT (aj d)];exact d⟩) n x y h
def Tg.os:Tg→Os
 | .nil=>.nil| _=>.es
def LB(z:Bool)(H:an)(sz:Nat)(v:V)(g:Tg)(rows:List (List FC)):Prop:=
 (rows=[]∧v=.c (.f g.fc)∧g≠.fs) ∨
 ∃ b ep fl st cs,v=.c (.sl b 0 rows.length 0 ep sz)∧H[b]?=aa (.cE sz cs fl ep st)∧aZ (fL 60 H) cs=aa rows.flatten∧fl≤cs.length∧(z=ae→fl=0) ∧
  (rows=[]→st=g.os∧g≠.fs)∧(rows≠[]→st=.loc)
variable{z:Bool}{H H':an}{sz bytes:Nat}{v y:V}{g:Tg}{rows:List (List FC)}{row:List FC}{cs:List C}
theorem LB.push(h:LB z H sz v g rows)(L:an):LB z (H++L) sz v g rows:=by
 rcases h with h | ⟨b,ep,fl,st,cs,h1,h2,h3,h4⟩
 ·exact .inl h
 ·exact .inr ⟨b,ep,fl,st,cs,h1,by rw [AT (aj h2)];exact h2,eF (fun x y _=>yy L) h3,h4⟩
theorem LB.es0:LB z H sz (.c (.f .es)) .es []:=.inl ⟨rfl,rfl,by decide⟩
theorem LB.app(h:LB z H sz v g rows)(hg:bK sz rows)(I:row.length=sz)(uD:sz≠0)(hy:de H sz y=aa (1,cs))(hc:aZ (fL 60 H) cs=aa row)(l:cO (rows.length+1) bytes=ae) :
  ∃ B H',bD H sz bytes v y=aa (B,H')∧LB z H' sz B g (rows++[row])∧H.length≤H'.length∧(∀(b:Nat) cs fl,H[b]?=aa (.box cs fl)→H'[b]?=aa (.box cs fl)):=by
 rcases h with⟨rfl,rfl,u⟩ | ⟨b,ep,fl,st,ds,rfl,h2,h3,E,F,h4,h5⟩
 ·have j:cO 1 bytes=ae:=by simpa using l
  refine⟨.c (.sl H.length 0 1 0 0 sz),H++[.cE sz cs 0 0 .loc],?_,?_,by simp,fun b cs fl hb=>by rw [AT (aj hb)];exact hb⟩
  ·cases g with
   | nil=>simp [bD,hy,uD,Tg.fc,j]| es=>simp [bD,hy,uD,Tg.fc,j]| fs=>exact absurd rfl u
  ·exact .inr ⟨H.length,0,0,.loc,cs,by simp,by simp,by simpa using eF (fun x y _=>yy _) hc,by simp,fun _=>rfl,fun h=>by simp at h,fun _=>rfl⟩
 ·have hl:rows.length*sz=ds.length:=by rw [←sy h3,cG hg]
  have A:∀(q:Nat) cs' m,H[q]?=aa (.box cs' m)→∃ s,(H.set b (.cE sz (ds++cs) fl (ep+1) .loc))[q]?=aa (.box cs' s):=by
   intro q cs' m d;have:b≠q:=by rintro rfl;rw [h2]at d;cases d
   exact⟨m,by rw [sh this];exact d⟩
  refine⟨.c (.sl b 0 (rows.length+1) 0 (ep+1) sz),H.set b (.cE sz (ds++cs) fl (ep+1) .loc),?_,?_,by simp,?_⟩
  ·simp only [bD,hy,uD,if_false,h2,and_self,if_true];simp only [Nat.add_one_ne_zero,if_false];rw [ba ⟨trivial,hl,by omega⟩,l];simp
  ·refine .inr ⟨b,ep+1,fl,.loc,ds++cs,by simp,?_,?_,?_,F,fun h=>by simp at h,fun _=>rfl⟩
   ·rw [If (aj h2)]
   ·rw [aki];simpa using qA (eF (fun x y _=>oz A 60 x y) h3) (eF (fun x y _=>oz A 60 x y) hc)
   ·simp only [ai7];omega
  ·intro q cs' m d;have:b≠q:=by rintro rfl;rw [h2]at d;cases d
   rw [sh this];exact d
theorem LB.len(h:LB z H sz v g rows):∃ c,v=.c c∧bg H c=aa rows.length:=by
 rcases h with⟨rfl,rfl,j⟩ | ⟨b,ep,fl,st,ds,rfl,h2,h3,d,l,h4,h5⟩
 ·cases g<;>exact⟨_,rfl,rfl⟩
 ·exact⟨_,rfl,by simp [bg,h2]⟩
theorem LB.fz(h:LB z H sz v g rows)(hg:bK sz rows):dI deep H v=aa (.c (.f (sl g rows))):=by
 rcases h with⟨rfl,rfl,d⟩ | ⟨b,ep,fl,st,ds,rfl,h2,h3,j,q,h4,h5⟩
 ·simp [sl]
 ·have hl:rows.length*sz=ds.length:=by rw [←sy h3,cG hg]
  cases rows with
  | nil=>
   obtain⟨rfl,d⟩:=h4 rfl;cases g with
   | nil=>simp [deep,jQ,h2,Tg.os,sl,Tg.fc]| es=>simp [deep,jQ,h2,Tg.os,sl,Tg.fc]| fs=>exact absurd rfl d
  | cons r m=>
   have:=h5 (by simp);subst this;have up:aZ (et 63 H) ds=aa (r::m).flatten:=eF (fun x y _ l=>ab1 l (by decide)) h3;simp only [afS,deep,jQ,h2];rw [ba ⟨trivial,trivial,by omega⟩,aj4,ajl (by omega),up];simp [sl]
theorem LB.fzV(h:LB z H sz v g rows)(hg:bK sz rows):mR deep H v=aa (.c (.f (sl g rows))):=by
 have:=h.fz hg;obtain⟨c,rfl,_⟩:=h.len;exact this
theorem pJ{b fl c:Nat}(h:H[b]?=aa (.box cs fl))(hc:cs.length=sz):de H sz (.c (.sl b 0 1 c 0 sz))=aa (1,cs):=by
 simp [de,bg,cH,h,hc];rw [←hc,List.take_length]
end
section
open Go
def zB(P:Program):List Field→Nat→Nat→Bool
 | [],o,n=>o == n| f::b,o,n=>f.offset == o&&zB P b (o+P.cellsOf f.type) n
def fG(P:Program):Nat→TypeId→Bool
 | 0,_=>ag
 | n+1,t=>match P.underlying t with
  | some .bool=>P.cellsOf t == 1| some (.int _)=>P.cellsOf t == 1| some .string=>P.cellsOf t == 1| some (.slice e)=>P.cellsOf t == 1&&P.cellsOf e != 0&&fG P n e| some (.struct b)=>zB P b.toList 0 (P.cellsOf t)&&b.toList.all fun f=>fG P n f.type
  | some (.array k e)=>P.cellsOf t == k*P.cellsOf e&&fG P n e| _=>ag
def ua(S:TypeId→List FC→Prop):List TypeId→List FC→Prop
 | [],xs=>xs=[]| t::ts,xs=>∃ p q,xs=p++q∧S t p∧ua S ts q
def pI(P:Program):Nat→TypeId→List FC→Prop
 | 0,_,_=>False
 | n+1,t,xs=>match P.underlying t with
  | some .bool=>∃ b,xs=[.bool b]| some (.int k)=>∃ m,xs=[.int k m]∧(Lit.int k m).wf=ae| some .string=>∃ s,xs=[.str s]∧s.size≤maxLen| some (.slice e)=>∃ g rows,xs=[sl g rows]∧bK (P.cellsOf e) rows∧rows.length≤maxLen∧∀ r ∈ rows,pI P n e r| some (.struct d)=>ua (pI P n) (d.toList.map (·.type)) xs| some (.array k e)=>∃ rows,xs=rows.flatten∧rows.length=k∧bK (P.cellsOf e) rows∧∀ r ∈ rows,pI P n e r| _=>False
theorem rV{m:Type}{sz:Nat}:∀ {rows:List (List m)} {j k:Nat} {row:List m},(∀ r ∈ rows,r.length=sz)→rows[j]?=aa row→k<sz→rows.flatten[j*sz+k]?=row[k]?
 | [],j,k,row,_,b,_=>by simp at b
 | r::rows,0,k,row,d,b,g=>by
  simp at b;subst b;have:=d r ajc;rw [ajs,AT (by omega)];simp
 | r::rows,j+1,k,row,d,b,g=>by
  have l:=d r ajc;rw [ajs,aje (by rw [l,ajy];omega)];have e:(j+1)*sz+k-r.length=j*sz+k:=by rw [l,ajy];omega
  rw [e];exact rV (rows:=rows) (fun x q=>d x (ajb _ q)) (by simpa using b) g
theorem yB{d:Type}{sz:Nat}:∀ {rows:List (List d)},(∀ r ∈ rows,r.length=sz)→rows.flatten.length=rows.length*sz
 | [],_=>by simp
 | r::rows,h=>by
  have:=yB (rows:=rows) fun x b=>h x (ajb _ b);simp only [ajs,ai7,ajL,this,h r ajc,ajy,akV];omega
def AD(w:World):Nat→Nat→Prop:=fun c _=>c<w.heap.size
theorem Bx{w:World}{a:Addr}{v:Value}(h:w.cell? a=aa v):a.block<w.heap.size∧a.spot=ab:=by
 unfold World.cell? at h;split at h
 ·rename_i b;split at h
  ·simp at h
  ·rename_i d;refine⟨?_,by simpa using d⟩;exact(Array.getElem?_eq_some_iff.1 b).1
 ·simp at h
theorem A2.flatten{j l:Type}{R:j→l→Prop}{g:List (List j)}{d:List (List l)}(hl:g.length=d.length)
  (h:∀(i:Nat) xs ys,g[i]?=aa xs→d[i]?=aa ys→A2 R xs ys):A2 R g.flatten d.flatten:=by
 induction g generalizing d with
 | nil=>cases d with
  | nil=>exact A2.nil| cons y ys=>simp at hl
 | cons x xs q=>cases d with
  | nil=>simp at hl
  | cons y ys=>
   rw [ajs,ajs];exact(h 0 x y rfl rfl).append (q (by simpa using hl) fun i a b m hb=>h (i+1) a b (by simpa using m) (by simpa using hb))
section
variable{H:Type}{enc:TypeId × Value→H}{P:Program}{w:World}{base:Nat}{spare:Nat→Bool}{held:Bool}{σ:Nat→FuncId}
def afo(σ:Nat→FuncId)(P:Program)(w:World)(n:Nat)(t:TypeId)(cs:List Value):Prop:=∃ xs,A2 (cJ σ (AD w) w) xs cs∧pI P n t xs
theorem qv{n:Nat}(v:∀ {t:TypeId} {fuel:Nat} {cs:List Value} {x:DataW H × List MemPlace},fG P n t=ae→DataW.trod enc P w base spare held fuel t cs=aa x→afo σ P w n t cs∧cs.length=P.cellsOf t)
  {fuel:Nat}:∀(b:List Field) (o N:Nat) (cs:List Value),zB P b o N=ae→(b.all fun f=>fG P n f.type)=ae→cs.length=N →
   (∀ f ∈ b,∃ x,DataW.trod enc P w base spare held fuel f.type ((cs.drop f.offset).take (P.cellsOf f.type))=aa x) →
   ∃ xs,A2 (cJ σ (AD w) w) xs (cs.drop o)∧ua (pI P n) (b.map (·.type)) xs
 | [],o,N,cs,d,_,m,_=>by
  simp [zB]at d;exact⟨[],by rw [aku (by omega)];exact A2.nil,rfl⟩
 | f::b,o,N,cs,d,l,m,u=>by
  simp only [zB,BY,beq_iff_eq]at d;simp only [List.all_cons,BY]at l;obtain⟨x,j⟩:=u f ajc;rw [d.1]at j;obtain⟨⟨p,z,B⟩,s⟩:=v l.1 j;obtain⟨q,A,E⟩:=qv v b (o+P.cellsOf f.type) N cs d.2 l.2 m fun g y=>u g (ajb _ y);refine⟨p++q,?_,p,q,rfl,B,E⟩;have:cs.drop o=(cs.drop o).take (P.cellsOf f.type)++cs.drop (o+P.cellsOf f.type):=by
   rw [←akn,ajR]
  rw [this];exact z.append A
theorem Q8(c o n k:Nat):((⟨c,o,ab⟩:Addr).add n).add k=⟨c,o+(n+k),ab⟩:=by
 unfold Addr.add;by_cases b:n=0<;>by_cases d:k=0<;>simp [b,d];omega
theorem Tt{t e:TypeId}{k n:Nat}{cs:List Value}{x:DataW H × List MemPlace}(j:P.underlying t=aa (.array k e))(h:DataW.trod enc P w base spare held (n+1) t cs=aa x) :
  cs.length=P.cellsOf t∧∀ i,i<k→∃ y,DataW.trod enc P w base spare held n e ((cs.drop (i*P.cellsOf e)).take (P.cellsOf e))=aa y:=by
 unfold DataW.trod at h;rw [j]at h;simp only [Option.ite_none_right_eq_some,IN]at h;obtain⟨g,xs,d,l⟩:=h;refine⟨g,fun i hi=>?_⟩;have:=mapM_some_get d i i (by simp [hi]);have b:xs.length=k:=by simpa using mapM_some_length d
 rw [By (by omega)]at this;exact⟨_,this⟩
theorem uh{j:Type}{sz:Nat}:∀ {k:Nat} {cs:List j},cs.length=k*sz→cs=((List.range k).map fun i=>(cs.drop (i*sz)).take sz).flatten
 | 0,cs,h=>by simp at h;simp [h]
 | k+1,cs,h=>by
  have d:(cs.take (k*sz)).length=k*sz:=by rw [ajF,h,ajy];omega
  have g:=uh d;rw [List.range_succ,akp,aki];have e:((List.range k).map fun i=>(cs.drop (i*sz)).take sz)=(List.range k).map fun i=>((cs.take (k*sz)).drop (i*sz)).take sz:=by
   refine List.map_congr_left fun i hi=>?_;have b:i<k:=by simpa using hi
   have:(i+1)*sz≤k*sz:=ajH _ b;rw [ajy]at this;rw [List.drop_take,akU,Nat.min_eq_left (by omega)]
  rw [e,←g];simp only [ajd,List.map_nil,ajs,List.flatten_nil,ajP];have:(cs.drop (k*sz)).take sz=cs.drop (k*sz):=ajl (by rw [ajm,h,ajy];omega);rw [this,ajR]
theorem aid{n:Nat}:∀ {t:TypeId} {fuel:Nat} {cs:List Value} {x:DataW H × List MemPlace},fG P n t=ae→DataW.trod enc P w base spare held fuel t cs=aa x →
  afo σ P w n t cs∧cs.length=P.cellsOf t:=by
 induction n with
 | zero=>intro t fuel cs x g;simp [fG]at g
 | succ n ih=>
  intro t fuel cs x g h;simp only [fG]at g;split at g
  ·rename_i j;obtain⟨b,rfl,_⟩:=DataW.trod_bool j h;exact⟨⟨[.bool b],.cons (.bool b) .nil,by simp only [pI,j];exact⟨b,rfl⟩⟩,by simp at g;simp [g]⟩
  ·rename_i k j;obtain⟨m,rfl,_,hw⟩:=DataW.trod_int j h;exact⟨⟨[.int k m],.cons (.int k m) .nil,by simp only [pI,j];exact⟨m,rfl,hw⟩⟩,by simp at g;simp [g]⟩
  ·rename_i j;obtain⟨s,rfl,_,hw⟩:=DataW.trod_string j h;exact⟨⟨[.str s],.cons (.str s) .nil,by simp only [pI,j];exact⟨s,rfl,hw⟩⟩,by simp at g;simp [g]⟩
  ·rename_i e j;simp only [BY,beq_iff_eq,bne_iff_ne]at g;obtain⟨⟨I,e_⟩,he⟩:=g;rcases DataW.trod_slice j h with⟨rfl,_⟩ | ⟨a,len,cap,Z,rest,m,_,rfl,_,hb,J,hm,c_,a_,_,_⟩
   ·exact⟨⟨[sl .nil []],.cons .aA .nil,by simp only [pI,j];exact⟨.nil,[],rfl,fun r l=>by simp at l,by simp,fun r l=>by simp at l⟩⟩,by simpa using I.symm⟩
   ·refine⟨?_,by simpa using I.symm⟩;have A:∀ i,i<len→∃ p:List Value × List FC,w.cells? base (a.add (i*P.cellsOf e)) (P.cellsOf e)=aa p.1∧A2 (cJ σ (AD w) w) p.2 p.1∧pI P n e p.2:=by
     intro i hi;have:=a_ i hi;rw [By (by omega)]at this;obtain⟨cs',I,Q⟩:=ajx.1 this;obtain⟨⟨xs,ha,g⟩,_⟩:=ih he Q;exact⟨(cs',xs),I,ha,g⟩
    obtain⟨p,L⟩:=Go.Deep.choose_lt A;by_cases h0:len=0
    ·subst h0;refine⟨[sl .fs []],.cons (.fs0 a cap) .nil,?_⟩;simp only [pI,j];exact⟨.fs,[],rfl,fun r l=>by simp at l,by simp,fun r l=>by simp at l⟩
    have E:a.spot=ab:=by
     have:=L 0 (by omega);obtain⟨_,d9,a7⟩:=World.cells?_some this.1;have:=a7 0 (by omega);rw [By (by omega)]at this;have:=(Bx this).2;simpa [Addr.add]using this
    obtain⟨c,o,sp⟩:=a;simp only at E;subst E
    let d:=(List.range len).map fun i=>(p i).1
    let rows:=(List.range len).map fun i=>(p i).2
    have Y:∀ v ∈ d,v.length=P.cellsOf e:=by
     intro v Y;obtain⟨i,hi,rfl⟩:=ajj.1 Y;exact(World.cells?_some (L i (by simpa using hi)).1).2.1
    have hg:bK (P.cellsOf e) rows:=by
     intro r l;obtain⟨i,hi,rfl⟩:=ajj.1 l;obtain⟨I,Q,_⟩:=L i (by simpa using hi);rw [Q.len,(World.cells?_some I).2.1]
    have hA:A2 (cJ σ (AD w) w) rows.flatten d.flatten:=by
     refine A2.flatten (by simp [rows,d]) fun i xs ys F K=>?_;simp only [rows,d,aj3,IN]at F K;obtain⟨i1,N,rfl⟩:=F;obtain⟨i2,O,rfl⟩:=K;rw [N]at O;cases O;have:=ajg N;exact(L i1 (by simpa using this)).2.1
    have B:∀ i u,d.flatten[i]?=aa u→w.cell? ⟨c,o+i,ab⟩=aa u:=by
     intro i u X;have hi:i<d.flatten.length:=(IS.1 X).1;rw [yB Y]at hi;have c9:d.length=len:=by simp [d]
     rw [c9]at hi;have M:i / P.cellsOf e<len:=Nat.div_lt_of_lt_mul (by rw [ak5];exact hi);have hk:i % P.cellsOf e<P.cellsOf e:=Nat.mod_lt _ (by omega);have z:i=i / P.cellsOf e*P.cellsOf e+i % P.cellsOf e:=by rw [ak5];exact(Nat.div_add_mod _ _).symm
     have W:d[i / P.cellsOf e]?=aa (p (i / P.cellsOf e)).1:=by simp [d,M]
     rw [z,rV Y W hk]at X;obtain⟨_,_,hc⟩:=World.cells?_some (L _ M).1;have:=hc _ hk;rw [X]at this;rw [←this,Q8,←z]
    refine⟨[sl .fs rows],.cons ?_ .nil,?_⟩
    ·have b_:rows≠[]:=by simp [rows];omega
     have U:rows.length=len:=by simp [rows]
     have:sl Tg.fs rows=.fs rows.flatten len:=by
      cases l:rows with
      | nil=>exact absurd l b_| cons r rs=>simp only [sl,alg,ajo,if_false];rw [←l,U]
     rw [this];refine .fs rows.flatten len c o cap d.flatten J hA.len.symm (fun i hi=>?_) B fun i x u F X=>hA.2 i x u F X;have z:i<d.flatten.length:=by rw [←hA.len];exact hi
     exact(Bx (B i _ (By z))).1
    ·simp only [pI,j];have U:rows.length=len:=by simp [rows]
     refine⟨.fs,rows,rfl,hg,by omega,fun r l=>?_⟩;obtain⟨i,hi,rfl⟩:=ajj.1 l;exact(L i (by simpa using hi)).2.2
  ·rename_i fs j;simp only [BY]at g;obtain⟨xs,m,_,_,J,_,F⟩:=DataW.trod_struct j h;refine⟨?_,J⟩;obtain⟨ys,I,Q⟩:=qv (n:=n) (fuel:=m) ih fs.toList 0 _ cs g.1 g.2 J fun f hf=>by
    obtain⟨i,hi⟩:=akc hf;rw [Array.getElem?_toList]at hi;have:=F i f hi;rw [this];have d_:i<fs.size:=(Array.getElem?_eq_some_iff.1 hi).1;exact⟨_,By (by omega)⟩
   exact⟨ys,by simpa using I,by simp only [pI,j];exact Q⟩
  ·rename_i k e j;simp only [BY,beq_iff_eq]at g;obtain⟨S,he⟩:=g;cases fuel with
   | zero=>simp [DataW.trod]at h
   | succ m=>
   obtain⟨J,F⟩:=Tt j h;refine⟨?_,J⟩;have A:∀ i,i<k→∃ q:List FC,A2 (cJ σ (AD w) w) q ((cs.drop (i*P.cellsOf e)).take (P.cellsOf e))∧pI P n e q:=by
    intro i hi;obtain⟨y,K⟩:=F i hi;obtain⟨⟨q,a,b⟩,_⟩:=ih he K;exact⟨q,a,b⟩
   obtain⟨q,M⟩:=Go.Deep.choose_lt A
   let rows:=(List.range k).map q
   have a8:cs=((List.range k).map fun i=>(cs.drop (i*P.cellsOf e)).take (P.cellsOf e)).flatten:=uh (by rw [J,S]);refine⟨rows.flatten,?_,?_⟩
   ·rw [a8];refine A2.flatten (by simp [rows]) fun i xs ys F K=>?_;simp only [rows,aj3,IN]at F K;obtain⟨i1,N,rfl⟩:=F;obtain⟨i2,O,rfl⟩:=K;rw [N]at O;cases O;have:=ajg N;exact(M i1 (by simpa using this)).1
   ·simp only [pI,j];refine⟨rows,rfl,by simp [rows],fun r l=>?_,fun r l=>?_⟩
    ·obtain⟨i,hi,rfl⟩:=ajj.1 l;have z:i<k:=by simpa using hi
     rw [(M i z).1.len,ajF,ajm,J,S];have:(i+1)*P.cellsOf e≤k*P.cellsOf e:=ajH _ z;rw [ajy]at this;omega
    ·obtain⟨i,hi,rfl⟩:=ajj.1 l;exact(M i (by simpa using hi)).2
  ·simp at g
end
section
variable{P:Program}{n:Nat}{t e:TypeId}{xs:List FC}
theorem rf{k:IntKind}(b:P.underlying t=aa (.int k))(h:pI P (n+1) t xs):∃ m,xs=[.int k m]∧(Lit.int k m).wf=ae:=by simpa only [pI,b]using h
theorem pW(b:P.underlying t=aa (.slice e))(h:pI P (n+1) t xs):∃ g rows,xs=[sl g rows]∧bK (P.cellsOf e) rows∧rows.length≤maxLen∧∀ r ∈ rows,pI P n e r:=by simpa only [pI,b]using h
theorem AV{d:Array Field}{ts:List TypeId}(g:P.underlying t=aa (.struct d))(b:d.toList.map (·.type)=ts)(h:pI P (n+1) t xs):ua (pI P n) ts xs:=by
 subst b;simpa only [pI,g]using h
theorem ph{S:TypeId→List FC→Prop}{ts:List TypeId}(h:ua S (t::ts) xs):∃ p q,xs=p++q∧S t p∧ua S ts q:=h
theorem qZ{d:Type}{enc:d→List FC}{p:d→Prop}:∀ {rows:List (List FC)},(∀ r ∈ rows,∃ x,r=enc x∧p x)→∃ l:List d,rows=l.map enc∧∀ x ∈ l,p x
 | [],_=>⟨[],rfl,by simp⟩
 | r::rows,h=>by
  obtain⟨x,rfl,m⟩:=h r ajc;obtain⟨l,rfl,g⟩:=qZ fun r j=>h r (ajb _ j);exact⟨x::l,rfl,fun y b=>by
   rcases ajB.1 b with rfl | b
   ·exact m
   ·exact g y b⟩
end
end
section
open Go Go.ChangeShapes Go.WideShapes Go.ChangeAt Go.RowKit
def rh(P:Program)(t:TypeId)(a:V):Prop:=(∃ xs,a=.a (xs.map .f)∧pI P 40 t xs∧(∃ d,P.underlying t=aa d∧((∃ b,d=.struct b)∨∃ n e,d=.array n e))) ∨
 (∃ x,a=.c (.f x)∧pI P 40 t [x])
def qQ(P:Program):List TypeId→List V→Prop
 | [],as=>as=[]| t::ts,as=>∃ a bs,as=a::bs∧rh P t a∧qQ P ts bs
section
variable{H:Type}{enc:TypeId × Value→H}{P:Program}{W W':World}
theorem tG{f:Func}{s:ChangeSpec}{g B l A:Bool}{args:Array Value}{v:Value}{ds I:List (DataW H)}{d pa pv:List MemPlace}
  (L:DataW.Whole enc P f.params.toList s.vars g W args.toList ds I d)
  (z:∀(b:Nat) (F:Nat→Bool) (Q:Bool),DataW.TrodAll enc P W' b F Q f.resultTypes.toList (v.resultList f.resultTypes.size) (s.fn H (ds++I)).results [])
  (m:∀ F:Nat→Bool,(∀ p ∈ d,F p.block=ae)→DataW.TrodAll enc P W' 0 F ae f.params.toList args.toList (s.fn H (ds++I)).args pa)
  (u:∀ F:Nat→Bool,(∀ p ∈ d,F p.block=ae)→DataW.TrodVars enc P W' F s.vars (s.fn H (ds++I)).vars pv)
  (x:d=pa++pv) (N:Below W.heap.size W W')
  (M:∀(j:Nat) (t:TypeId) (r:Value),f.resultTypes[j]?=aa t→(v.resultList f.resultTypes.size)[j]?=aa r→Value.okWide P W' .any 0 t r) :
  s.post enc P f g B l A W args v W':=by
 have J:∀ p ∈ d,p.block<W.heap.size:=fun p q=>L.lt p q;have y:∀ p ∈ d,(fun b=>decide (b<W.heap.size)) p.block=ae:=fun p q=>by simpa using J p q
 refine⟨ds,I,d,[],pa,pv,L,z _ _ _,m _ y,u _ y,World.keptBut_mono (fun p q=>⟨q,?_⟩) (N.frame (· ∈ d)),fun _=>?_⟩
 ·rw [x,List.mem_append]at q;exact Or.inr q
 ·obtain⟨_,_,_,_,_,U,S⟩:=L;refine⟨M,_,_,([]++pa)++pv,⟨[]++pa,pv,trodAll_append (m _ (fun _ _=>rfl)) (z _ _ _),u _ (fun _ _=>rfl),rfl,?_,?_⟩,?_⟩
  ·intro b E q;have K:MemPlace.cell b E ∈ d:=by rw [x];simpa using q
   rw [N.frozen (p:=⟨b,E,ab⟩) (J _ K)];exact U b E K
  ·intro O;have:=S O;rw [x]at this;simpa using this
  ·intro p q _;rw [x];simpa using q
theorem nI(s:laidOutB P=ae){y:Nat→Bool}(m:Below W.heap.size W W'):∀ {ts:List TypeId} {l:List Value} {ds:List (DataW H)} {ps:List MemPlace},
  (ts.all fun t=>P.readableRec t&&decide (t<P.types.size))=ae→DataW.TrodAll enc P W 0 (fun _=>ae) ae ts l ds ps→(∀ p ∈ ps,p.block<W.heap.size)→(∀ p ∈ ps,y p.block=ae) →
  DataW.TrodAll enc P W' 0 y ae ts l ds ps
 | [],[],[],ps,_,h,_,_=>h
 | t::ts,v::l,d::ds,ps,j,⟨p,q,z,A,e⟩,g,u=>by
  subst e;simp only [List.all_cons,BY,decide_eq_true_eq]at j;exact⟨p,q,WideElems.Trod_stays s j.1.1 j.1.2 z (fun x b=>m.same (g x (ajM _ b))) (fun x b=>u x (ajM _ b)),
   nI s m j.2 A (fun x b=>g x (akx _ b)) (fun x b=>u x (akx _ b)),rfl⟩
 | [],_::_,_,_,_,h,_,_=>by cases h
 | [],[],_::_,_,_,h,_,_=>by cases h
 | _::_,[],_,_,_,h,_,_=>by cases h
 | _::_,_::_,[],_,_,h,_,_=>by cases h
variable{σ:Nat→FuncId}
def X0(W:World):Wd:=⟨fun _=>ab,AD W,[],W,W.heap.size⟩
theorem Tv{xs:List FC}{cs:Array Value}(h:A2 (cJ σ (AD W) W) xs cs.toList):VR σ (X0 W) (.a (xs.map .f)) (.agg cs):=
 ⟨cs.toList,by simp,A2.map (g:=C.f) (h.ko fun _ _ h=>h)⟩
theorem Rh{t:TypeId}{v:Value}{d:DataW H}{ps:List MemPlace}{base:Nat}{spare:Nat→Bool}{held:Bool}{b0:Nat}(s:fG P 40 t=ae)(g:Value.okWide P W .any b0 t v)
  (E:DataW.Trod enc P W base spare held t v d ps):∃ a,VR σ (X0 W) a v∧rh P t a:=by
 obtain⟨fuel,q⟩:=E;obtain⟨⟨xs,m,u⟩,I⟩:=aid (σ:=σ) s q;have l:v.cells.toList=[v]→∃ a,VR σ (X0 W) a v∧rh P t a:=by
  intro F;rw [F]at m
  match xs,m.len with
  | [x],_=>exact⟨.c (.f x),m.of_cons.1,.inr ⟨x,rfl,u⟩⟩
 unfold fG at s;unfold Value.okWide at g;split at g
 ·rename_i y j;obtain⟨cs,rfl,_,_⟩:=g;exact⟨_,Tv m,.inl ⟨xs,rfl,u,_,j,.inl ⟨_,rfl⟩⟩⟩
 ·rename_i n e j;obtain⟨cs,rfl,_,_⟩:=g;exact⟨_,Tv m,.inl ⟨xs,rfl,u,_,j,.inr ⟨_,_,rfl⟩⟩⟩
 ·rename_i A B;refine l ?_;split at s
  ·rename_i j;obtain⟨b,z,_⟩:=DataW.trod_bool j q;simp only [Cell.okWide,j,Cell.ok]at g;cases v<;>simp_all [Value.cells]
  ·rename_i j;obtain⟨b,z,_⟩:=DataW.trod_int j q;simp only [Cell.okWide,j,Cell.ok]at g;cases v<;>simp_all [Value.cells]
  ·rename_i j;obtain⟨b,z,_⟩:=DataW.trod_string j q;simp only [Cell.okWide,j,Cell.ok]at g;cases v<;>simp_all [Value.cells]
  ·rename_i j;simp only [Cell.okWide,j,Cell.ok]at g;cases v<;>simp_all [Value.cells]
  ·rename_i y j;exact absurd j (A y)
  ·rename_i n e j;exact absurd j (B n e)
  ·simp at s
theorem uc{base:Nat}{spare:Nat→Bool}{held:Bool}{b0:Nat}:∀ {ts:List TypeId} {g:List Value} {ds:List (DataW H)} {ps:List MemPlace},(ts.all fun t=>fG P 40 t)=ae →
  (∀(j:Nat) t v,ts[j]?=aa t→g[j]?=aa v→Value.okWide P W .any b0 t v)→DataW.TrodAll enc P W base spare held ts g ds ps →
  ∃ as,A2 (VR σ (X0 W)) as g∧qQ P ts as
 | [],[],[],_,_,_,_=>⟨[],A2.nil,rfl⟩
 | t::ts,v::g,d::ds,ps,l,b,⟨p,q,s,u,_⟩=>by
  simp only [List.all_cons,BY]at l;obtain⟨a,x,z⟩:=Rh (σ:=σ) l.1 (b 0 t v rfl rfl) s;obtain⟨bs,y,A⟩:=uc l.2 (fun j t v h m=>b (j+1) t v (by simpa using h) (by simpa using m)) u;exact⟨a::bs,.cons x y,a,bs,rfl,z,A⟩
 | [],_::_,_,_,_,_,h=>by cases h
 | [],[],_::_,_,_,_,h=>by cases h
 | _::_,[],_,_,_,_,h=>by cases h
 | _::_,_::_,[],_,_,_,h=>by cases h
theorem X4{n:Nat}{H:an}{v:V}{b:Bool}(h:mR (n+1) H v=aa (.c (.f (.bool b)))):v=.c (.f (.bool b)):=by
 cases v with
 | top=>simp [mR,dI]at h| a xs=>simp [mR,dI]at h| t xs=>simp [mR]at h
 | c x=>
  simp only [mR,dI,IN]at h;obtain⟨y,d,h⟩:=h;cases h;cases x with
  | f x=>simpa [et]using d| ptr b o e=>simp only [et]at d;split at d<;>simp at d
  | sl b o l c e s=>
   simp only [et]at d;split at d
   ·split at d<;>simp at d
   ·split at d<;>simp at d
   ·split at d<;>simp at d
   ·split at d<;>simp at d
   ·simp at d
  | cl f g=>simp [et]at d| _=>simp [et]at d
variable{tab:TB}
theorem AN(v:Env P σ tab.get tab.wT){f:Nat}{args:List V}{us:List Value}(h:bR tab f args (vb ae))(W:World)(y:A2 (VR σ (X0 W)) args us) :
  Calls P (σ f) us.toArray W fun e w'=>e=.returned (.bool ae)∧Below W.heap.size W w':=by
 obtain⟨r,H',⟨m,d,h⟩,j⟩:=h;have j:=X4 (n:=63) j;subst j;intro cs
 let X:=X0 W
 have x:SR P σ X:=⟨fun b L h=>by simp [X,X0]at h,fun b K L J h=>by simp [X,X0]at h,fun c i h=>h⟩
 obtain⟨fr,X',u,q,⟨B,E,F,l,fn,H,I⟩,M,N,s,g,O⟩:=(Rq v m d).fn f args [] _ H' h X us .normal cs rfl x (ai8 _) y (.inl rfl) (.inl rfl);have A:=VR.bool s;subst A;exact⟨.returned (.bool ae),X'.w,fr,⟨rfl,⟨g.os,g.tape,g.output,g.size,fun k z=>g.frame k z (fun b L h=>by simp [X,X0]at h)⟩⟩,q,l,B,E,F,fn,by rw [l];exact H,I⟩
theorem RY(hE:Env P σ tab.get tab.wT){s:ChangeSpec}{f:Func}{fi:Nat}{tb:TypeId}(x:s.vars=[])(B:laidOutB P=ae){ts:List TypeId}(F:f.params.toList=ts)
  (O:∀ ds:List (DataW H),ds.length=ts.length→s.fn H ds=⟨[.lit (.bool ae)],ds,[]⟩)
  (y:f.resultTypes=#[tb]) (K:P.underlying tb=aa .bool) (E:(ts.all fun t=>P.readableRec t&&decide (t<P.types.size))=ae) (u:(ts.all fun t=>fG P 40 t)=ae)
  (Q:∀ as,qQ P ts as→bR tab fi as (vb ae)) {g A l z:Bool} {base:Nat} {args:Array Value} {ds gs:List (DataW H)} {d:List MemPlace}
  (L:∀(j:Nat) t v,f.params[j]?=aa t→args[j]?=aa v→Value.okWide P W .any base t v) (X:DataW.Whole enc P f.params.toList s.vars g W args.toList ds gs d) :
  Calls P (σ fi) args W fun e W'=>∃ v,e=.returned v∧s.post enc P f g A l z W args v W':=by
 have I:=X;obtain⟨p,q,N,U,Y,a7,a8⟩:=X;rw [F]at N;rw [x]at U;obtain⟨rfl,rfl⟩:=trodVars_none U;simp only [ajP]at Y;subst Y;obtain⟨as,h1,h2⟩:=uc (σ:=σ) (b0:=base) u (fun j t v h h'=>L j t v (by rw [←Array.getElem?_toList,F];exact h) (by rw [←Array.getElem?_toList];exact h')) N;have J:ds.length=ts.length:=by
  have:∀ {ts:List TypeId} {M:List Value} {ds:List (DataW H)} {ps:List MemPlace},DataW.TrodAll enc P W 0 (fun _=>ae) ae ts M ds ps→ds.length=ts.length:=by
   intro ts;induction ts with
   | nil=>intro M ds ps h;cases M<;>cases ds<;>first | rfl | cases h
   | cons t ts ih=>intro M ds ps h;cases M<;>cases ds<;>first | (obtain⟨_,_,_,h,_⟩:=h;simp [ih h]) | cases h
  exact this N
 have m:=O ds J;have hc:=AN hE (Q as h2) W h1;rw [Array.toArray_toList]at hc;refine hc.mono fun e W' h=>?_;obtain⟨he,Z⟩:=h;subst he;refine⟨_,rfl,tG (pa:=d) (pv:=[]) I (fun b sp hd=>?_) (fun sp S=>?_) (fun sp _=>?_) (by simp) Z ?_⟩
 ·rw [ajP,m,y];exact trodAll_mk1 (shut_bool K _)
 ·rw [ajP,m,F];exact nI B Z E N (fun p hp=>I.lt p hp) S
 ·rw [ajP,m,x];exact rfl
 ·exact ok_one y rfl (okWide_bool_mk K _)
end
end
section
open Go
section
variable{tab:TB}{f:Nat}{args:List V}{r:V}{fn:Nat}{k:List cD}{t:T}{ds:List eU}{H H':an}{Q:Option av→St→Prop}
theorem fO{x:Arg}{ps:List P}{as bd:av}{g:Nat}{q:List V}(z:bS (x.ev t) [.c (.yl (H.length+1))]=aa (.fn g,q))
  (b:Ev tab (.fn g) q (H++[.fg ae,.lp fn t ps as bd .ready ab H.length]) r H')
  (h:WP tab fn ab (.iO (H.length+1)::k) ⟨t,.er H.length::ds,H'⟩ Q):WP tab fn ab (.code (.gj x ps as bd)::k) ⟨t,ds,H⟩ Q:=by
 obtain⟨m,d,b⟩:=b;obtain⟨n,l,d',j,A,v,y⟩:=h;refine⟨n+1,max m l,max d d',j,A,?_,y⟩;have s:=iX (tab:=tab) (ajN m l) (ajN d d') _ _ _ _ b;have u:=sZ (ajD m l) (ajD d d') (ai8 n) v;simp only [run,z,s,u];simp
theorem gW{ro:Option Nat}{b j d:Nat}{l:T}{ps:List P}{as bd:av}{st:dz}(q:H[b]?=aa (.lp j l ps as bd st ab d))(g:st≠.busy)
  (h:WP tab fn ro k ⟨t,ds,H.set b (.lp j l ps as bd .exhausted ab d)⟩ Q):WP tab fn ro (.iO b::k) ⟨t,ds,H⟩ Q:=by
 refine gZ h fun m d n=>?_;simp only [run,q,aR g]
theorem wb{ro:Option Nat}{b j d:Nat}{l:T}{ps:List P}{as bd:av}{st:dz}(q:H[b]?=aa (.lp j l ps as bd st (aa .ret) d))(g:st≠.busy)
  (h:WP tab fn ro (.code .ret::k) ⟨t,ds,H.set b (.lp j l ps as bd .exhausted (aa .ret) d)⟩ Q):WP tab fn ro (.iO b::k) ⟨t,ds,H⟩ Q:=by
 refine gZ h fun m d n=>?_;simp only [run,q,aR g]
theorem ja{b g d:Nat}{l:T}{ps:List P}{as bd:av}{j:Option av}(q:H[b]?=aa (.lp g l ps as bd .ready j d))
  (h:WP tab fn (aa b) k ⟨t,ds,H.set b (.lp g l ps as bd .busy j d)⟩ Q):WP tab fn (aa b) (.ny::k) ⟨t,ds,H⟩ Q:=by
 refine gZ h fun m d n=>?_;simp only [run,q]
@[simp] theorem aed {b:Nat} {as:List V}:bS (.c (.yl b)) as=aa (.yield b,as):=rfl
def afn(b:Nat)(r:V)(H':an)(j:Option av)(s:St):Prop:=s.defs=[]∧∃ g l ps as bd st m d,s.heap[b]?=aa (.lp g l ps as bd st m d)∧r=.c (.f (.bool j.isNone)) ∧
 H'=s.heap.set b (.lp g l ps as bd (if j.isNone then .ready else .done) j d)
theorem RN{b g d:Nat}{l:T}{ps:List P}{as bd:av}{st:dz}{E:Option av}(z:H[b]?=aa (.lp g l ps as bd st E d))(B:args.length=ps.length)
  (h:WP tab g (aa b) [.code as,.ny,.code bd] ⟨bV ps args l,[],H⟩ (afn b r H')):Ev tab (.yield b) args H r H':=by
 obtain⟨n,m,d',j,s,x,A,M,K,I,u,v,J,F,L,y,rfl,rfl⟩:=h;refine⟨max m n,d'+1,?_⟩;have q:run (CF tab (max m n) d') g (max m n) (aa b) [.code as,.ny,.code bd] ⟨bV ps args l,[],H⟩=aa (j,s):=sZ (ajN m n) (ai8 d') (ajD m n) x;simp only [CF]at q ⊢;simp only [ew,z,B,if_true,q,A,List.isEmpty_nil,y];rfl
theorem ey{C:V→an→Prop}{b F d:Nat}{I:T}{ps:List P}{as bd:av}{st:dz}{M:Option av}(K:H[b]?=aa (.lp F I ps as bd st M d))(L:args.length=ps.length)
  (h:∀ Q:Option av→St→Prop,(∀ j s z u q g l x v y,s.defs=[]→s.heap[b]?=aa (.lp z u q g l x v y) →
   C (.c (.f (.bool j.isNone))) (s.heap.set b (.lp z u q g l (if j.isNone then .ready else .done) j y))→Q j s)→WP tab F (aa b) [.code as,.ny,.code bd] ⟨bV ps args I,[],H⟩ Q):∃ r H',Ev tab (.yield b) args H r H'∧C r H':=by
 have J:=h (fun j s=>∃ r H',C r H'∧afn b r H' j s) fun j s z u q g l x v y A B E=>⟨_,_,E,A,z,u,q,g,l,x,v,y,B,rfl,rfl⟩
 obtain⟨n,m,d',j,s,A,r,H',B,E⟩:=J;exact⟨r,H',RN K L ⟨n,m,d',j,s,A,E⟩,B⟩
def afm(d:List gA)(r:V)(s:St):Prop:=∃ b,s.defs=[.er b]∧s.heap[b]?=aa (.fg ae)∧∃ g,results s.aB (s.heap.set b (.fg ag)) d=aa g∧mR deep (s.heap.set b (.fg ag)) g=aa r
theorem sR{S:V→Prop}{ps:List P}{g:List gA}{body:av}(A:tab f=aa ⟨ps,g,body⟩)(y:args.length=ps.length)
  (h:∀ Q:Option av→St→Prop,(∀ j s r,S r→nu g r s∨afm g r s→Q j s)→WP tab f ab [.code body] ⟨bV ps args .e,[],[]⟩ Q):∃ r,S r∧bR tab f args r:=by
 have B:=h (fun _ s=>∃ r,S r∧(nu g r s∨afm g r s)) fun _ _ r q l=>⟨r,q,l⟩
 obtain⟨n,m,d,j,s,q,r,z,⟨v,x,l,u⟩ | ⟨b,v,E,x,l,u⟩⟩:=B
 ·exact⟨r,z,x,s.heap,qu A y ⟨n,m,d,j,s,q,0,0,s.heap,by rw [v];rfl,l,rfl⟩,u⟩
 ·exact⟨r,z,x,s.heap.set b (.fg ag),qu A y ⟨n,m,d,j,s,q,0,0,_,by rw [v];simp only [dV,E],l,rfl⟩,u⟩
theorem cM{C:V→an→Prop}{ps:List P}{b:List gA}{body:av}(y:tab f=aa ⟨ps,b,body⟩)(x:args.length=ps.length)
  (h:∀ Q:Option av→St→Prop,(∀ j s r,s.defs=[]→results s.aB s.heap b=aa r→C r s.heap→Q j s)→WP tab f ab [.code body] ⟨bV ps args .e,[],H⟩ Q):∃ r H',Ev tab (.fn f) args H r H'∧C r H':=by
 have u:=h (fun _ s=>s.defs=[]∧∃ r,results s.aB s.heap b=aa r∧C r s.heap) fun _ _ r g l q=>⟨g,r,l,q⟩
 obtain⟨n,m,d,j,s,g,v,r,l,q⟩:=u;exact⟨r,s.heap,qu y x ⟨n,m,d,j,s,g,0,0,s.heap,by rw [v];rfl,l,rfl⟩,q⟩
end
end
section
open Go
theorem qI{c:dj}:∀(a b:List aO) (s:St),ff c (a++b) s=(ff c a s).bind (ff c b)
 | [],b,s=>rfl
 | o::a,b,s=>by
  simp only [List.cons_append,ff];cases eT c s o with
  | none=>rfl| some d=>exact qI a b d
theorem tq{c:dj}:∀(os:List aO) (s:St) {d:St},ff c os s=aa d→∃ ss,ec c os s=aa ss∧ss.getLast?=aa d∧∀ i,i≤os.length→ff c (os.take i) s=ss[i]?
 | [],s,d,h=>by
  simp only [ff,AI]at h;subst h;refine⟨[s],rfl,rfl,fun i hi=>?_⟩;have:i=0:=by simpa using hi
  subst this;rfl
 | o::os,s,d,h=>by
  simp only [ff]at h;cases b:eT c s o with
  | none=>simp [b]at h
  | some m=>
   simp only [b]at h;obtain⟨ss,g,j,l⟩:=tq os m h;refine⟨s::ss,by simp only [ec,b,g],by rw [List.getLast?_cons,j];rfl,fun i hi=>?_⟩;cases i with
   | zero=>rfl
   | succ i=>
    simp only [ak9,ff,b,List.getElem?_cons_succ];exact l i (by simpa using hi)
def fx(o:aO)(b l:St):Prop:=wanted b.aB o.g=aa ag∨∃ v g d j,bC b.aB b.heap o.op=aa (v,g)∧bC b.aB l.heap o.op=aa (d,j)∧v.beq d=ae
section
variable{tab:TB}{fn:Nat}{ro:Option Nat}{k:List cD}{s:St}{Q:Option av→St→Prop}
def Z9(tab:TB)(ops:List aO)(s:St)(c:Nat × Nat):Prop:=c.2≤ops.length∧∃ o,ops[c.1]?=aa o ∧
 ((c.1≤c.2∧pz tab (ops.take c.1) s fun b=>pz tab ((ops.drop c.1).take (c.2-c.1)) b fun d=>fx o b d) ∨
 (c.2≤c.1∧pz tab (ops.take c.2) s fun d=>pz tab ((ops.drop c.2).take (c.1-c.2)) d fun b=>fx o b d))
theorem S8{ops:List aO}{c:Nat × Nat}(h:Z9 tab ops s c):∃ m d o g j,c.2≤ops.length∧ops[c.1]?=aa o∧ff (CF tab m d) (ops.take c.1) s=aa g∧ff (CF tab m d) (ops.take c.2) s=aa j∧fx o g j:=by
 have y:∀(a b:Nat) (K:St→St→Prop),a≤b→pz tab (ops.take a) s (fun l=>pz tab ((ops.drop a).take (b-a)) l fun q=>K l q) →
   ∃ m d l q,ff (CF tab m d) (ops.take a) s=aa l∧ff (CF tab m d) (ops.take b) s=aa q∧K l q:=by
  intro a b K L h;obtain⟨m,d,l,u,v⟩:=iD _ _ h;obtain⟨B,d',q,x,J⟩:=iD _ _ v;have E:=dJ (iX (tab:=tab) (ajN m B) (ajN d d')) _ _ u;have I:=dJ (iX (tab:=tab) (ajD m B) (ajD d d')) _ _ x;refine⟨max m B,max d d',l,q,E,?_,J⟩;have:ops.take b=ops.take a++(ops.drop a).take (b-a):=by
   have M:b=a+(b-a):=by omega
   conv=>lhs;rw [M,List.take_add]
  rw [this,qI,E];exact I
 obtain⟨F,o,H,⟨z,h⟩ | ⟨A,h⟩⟩:=h
 ·obtain⟨m,d,g,j,u,v,x⟩:=y _ _ (fun g j=>fx o g j) z h;exact⟨m,d,o,g,j,F,H,u,v,x⟩
 ·obtain⟨m,d,j,g,u,v,x⟩:=y _ _ (fun j g=>fx o g j) A h;exact⟨m,d,o,g,j,F,H,v,u,x⟩
theorem eB{ops:List aO}{iF:List (Nat × Nat)}(N:ro=ab∨ops.all (·.op.eC)=ae)(h:pz tab ops s fun W=>WP tab fn ro k W Q)(hk:∀ c ∈ iF,Z9 tab ops s c) :
  WP tab fn ro (.code (.region ops iF)::k) s Q:=by
 obtain⟨m,d,W,h1,n,m',d',j,s2,h2,h3⟩:=iD ops s h;have b:∃ M D,∀ c ∈ iF,∃ o q u,c.2≤ops.length∧ops[c.1]?=aa o∧ff (CF tab M D) (ops.take c.1) s=aa q∧ff (CF tab M D) (ops.take c.2) s=aa u∧fx o q u:=by
  clear h1 h2 h;induction iF with
  | nil=>exact⟨0,0,fun c hc=>by cases hc⟩
  | cons c cs S=>
   obtain⟨M,D,S⟩:=S fun c hc=>hk c (ajb _ hc);obtain⟨U,E,o,q,u,a1,y,z,A,B⟩:=S8 (hk c ajc);refine⟨max M U,max D E,fun c' g=>?_⟩;rcases ajB.1 g with rfl | g
   ·have l:=iX (tab:=tab) (ajD M U) (ajD D E);exact⟨o,q,u,a1,y,dJ l _ _ z,dJ l _ _ A,B⟩
   ·obtain⟨o,q,u,a1,y,z,A,B⟩:=S c' g;have l:=iX (tab:=tab) (ajN M U) (ajN D E);exact⟨o,q,u,a1,y,dJ l _ _ z,dJ l _ _ A,B⟩
 obtain⟨M,D,b⟩:=b;obtain⟨MM,J,K,L⟩:∃ x,m≤x∧m'≤x∧M≤x:=⟨max (max m m') M,by omega,by omega,by omega⟩
 obtain⟨X,F,H,I⟩:∃ x,d≤x∧d'≤x∧D≤x:=⟨max (max d d') D,by omega,by omega,by omega⟩
 refine⟨n+1,MM,X,j,s2,?_,h3⟩;have e1:=dJ (iX (tab:=tab) J F) ops _ h1;have e2:=sZ K H (ai8 n) h2;have O:(ro.isSome&&!ops.all (·.op.eC))=ag:=by
  rcases N with rfl | N
  ·rfl
  ·rw [N];simp
 obtain⟨ss,f1,f2,f3⟩:=tq ops s e1;have hx:gn (CF tab MM X) ops iF s=aa W:=by
  cases iF with
  | nil=>simpa only [gn]using e1
  | cons x xs=>
   simp only [gn,f1];rw [ba,f2];rw [aji];intro c hc;obtain⟨o,q,u,a1,y,z,A,B⟩:=b c hc;have l:=iX (tab:=tab) L I;have hi:c.1≤ops.length:=by
    have:=(IS.1 y).1;omega
   have Y:=dJ l _ _ z;have Z:=dJ l _ _ A;rw [f3 _ hi]at Y;rw [f3 _ a1]at Z;simp only [sameAt,y,Y,Z];rcases B with hw | ⟨v,H1,v',H2,g1,g2,g3⟩
   ·rw [hw]
   ·split
    ·rfl
    ·simp only [g1,g2,g3]
 simp only [run,O,hx,e2];simp
end
end
section
open Go
theorem uG(l:List Int):(ints l).flatten=l.map fi:=by
 induction l with
 | nil=>rfl| cons m l b=>simp only [ints,ajd,ajs]at b ⊢;rw [b];rfl
theorem iY{n:Nat}:∀(l:List C) (H:an),(∀ x ∈ l,∃ y,x=.f y)→l.foldl (fun H x=>eK n x H) H=H
 | [],_,_=>rfl
 | x::l,H,h=>by
  obtain⟨y,rfl⟩:=h x ajc;simp only [akP,agf];exact iY l H fun x b=>h x (ajb _ b)
end
section
open Go
def RB(H:an)(b sz ep:Nat)(rows:List (List FC)):Prop:=H[b]?=aa (.cE sz (rows.flatten.map .f) 0 ep .loc)
def Fm(b:Nat)(H H':an):Prop:=H.length≤H'.length∧∀ d:Nat,d≠b→d<H.length→H'[d]?=H[d]?
theorem Fm.refl{b:Nat}(H:an):Fm b H H:=⟨ai8 _,fun _ _ _=>rfl⟩
theorem Fm.trans{b:Nat}{H H' d:an}(h:Fm b H H')(j:Fm b H' d):Fm b H d:=
 ⟨Nat.le_trans h.1 j.1,fun g e l=>(j.2 g e (Nat.lt_of_lt_of_le l h.1)).trans (h.2 g e l)⟩
theorem Fm.push{b:Nat}(H J:an):Fm b H (H++J):=⟨by simp,fun d _ l=>AT l⟩
theorem Fm.set{b:Nat}(H:an)(x:bZ):Fm b H (H.set b x):=⟨by simp,fun d e _=>sh (Ne.symm e)⟩
theorem Fm.get{b:Nat}{H H':an}(h:Fm b H H'){d:Nat}{x:bZ}(hb:H[d]?=aa x)(e:d≠b):H'[d]?=aa x:=by rw [h.2 d e (aj hb)];exact hb
theorem zv{sz:Nat}{row:List FC}(q:row.length=sz):∀ {rows:List (List FC)} {j:Nat},bK sz rows→j<rows.length →
  rows.flatten.take (j*sz)++row++rows.flatten.drop (j*sz+sz)=(rows.set j row).flatten
 | [],_,_,d=>by simp at d
 | r::rows,0,b,_=>by
  have:=b r ajc;subst this;simp
 | r::rows,j+1,b,d=>by
  have g:=b r ajc;have u:=zv q (rows:=rows) (j:=j) (fun x s=>b x (ajb _ s)) (by simpa using d);simp only [ajs,List.set_cons_succ];rw [←u];have l:(j+1)*sz=r.length+j*sz:=by rw [g,ajy];omega
  have m:(j+1)*sz+sz=r.length+(j*sz+sz):=by omega
  rw [m,l,List.take_append,akW];simp [ajl,ajI]
section
variable{H:an}{b sz ep j:Nat}{rows:List (List FC)}{row:List FC}
theorem RB.lt(h:RB H b sz ep rows):b<H.length:=aj h
theorem RB.push(h:RB H b sz ep rows)(J:an):RB (H++J) b sz ep rows:=by
 unfold RB at *;rw [AT (aj h)];exact h
theorem RB.len(h:RB H b sz ep rows){o l c:Nat}:bg H (.sl b o l c ep sz)=aa l:=by
 unfold RB at h;simp [bg,h]
theorem RB.idx(h:RB H b sz ep rows){n c:Nat}{k:IntKind}{i:Int}(h0:0≤i)(hi:i<n){o:Nat}:bz H sz ab (.c (.sl b o n c ep sz)) (.c (.f (.int k i)))=aa (.c (.ptr b (o+i.toNat*sz) ep)):=by
 unfold RB at h;simp only [bz,fS,h0,hi,if_true,h,and_self]
theorem RB.ldr(h:RB H b sz ep rows)(hg:bK sz rows)(g:rows[j]?=aa row):aU H (aa sz) (.c (.ptr b (j*sz) ep))=aa (.a (row.map .f)):=by
 unfold RB at h;have d:row.length=sz:=hg row (ajg g);have:=rK (k:=0) hg g (by omega);simp only [ay,h,if_true];rw [←ak0];rw [Nat.add_zero]at this;rw [this];have h1:(row.map C.f++((rows.drop (j+1)).flatten.map C.f)).take sz=row.map C.f:=by
  rw [ajG (by simp [d]),ajl (by simp [d])]
 simp [d]
theorem RB.str(h:RB H b sz ep rows)(hg:bK sz rows)(m:j<rows.length)(l:row.length=sz) :
  ∃ H',di H (.ptr b (j*sz) ep) (row.map .f)=aa H'∧RB H' b sz ep (rows.set j row)∧Fm b H H'∧H'.length=H.length:=by
 have hl:=cG hg;have g:(j+1)*sz≤rows.length*sz:=ajH _ m;have d:j*sz+sz≤rows.flatten.length:=by rw [hl];rw [ajy]at g;omega
 unfold RB at h ⊢;refine⟨H.set b (.cE sz ((rows.set j row).flatten.map .f) 0 ep .loc),?_,?_,Fm.set _ _,by simp⟩
 ·simp only [bu,h,akh,true_and,ajf,l,d,if_true];rw [←zv l hg m];simp [over,l]
 ·exact If (aj h)
end
theorem eR{k n:Nat}(h:k≤n):wR (vi k) n=aa k:=by
 have:(0:Int)≤k∧(k:Int)≤n:=by omega
 simp [wR,fS,this]
theorem RB.ta{H:an}{b sz ep n k:Nat}{rows:List (List FC)}(h:RB H b sz ep rows)(d:k<n) :
  bG H sz (.c (.sl b 0 n 0 ep sz)) (aa (vi k)) ab ab=aa (.c (.sl b (k*sz) (n-k) 0 ep sz)):=by
 unfold RB at h;have hb:bE n n (aa (vi k)) ab ab=aa (k,n,n):=by simp [bE,eR (Nat.le_of_lt d)]
 simp [bG,h,hb];omega
theorem RB.Td{H:an}{b sz ep n k:Nat}{rows:List (List FC)}(h:RB H b sz ep rows)(d:k≤n)(h0:0<k) :
  bG H sz (.c (.sl b 0 n 0 ep sz)) ab (aa (vi k)) ab=aa (.c (.sl b 0 k 0 ep sz)):=by
 unfold RB at h;have hb:bE n n ab (aa (vi k)) ab=aa (0,k,n):=by simp [bE,eR d]
 simp [bG,h,hb]
 try omega
theorem RB.clr{H:an}{b sz ep n k:Nat}{rows:List (List FC)}{zs:List FC}(h:RB H b sz ep rows)(hg:bK sz rows)(v:rows.length=n)(z:k<n)(s:zs.length=sz) :
  ∃ H',jf H sz zs (.c (.sl b (k*sz) (n-k) 0 ep sz))=aa H'∧RB H' b sz ep (rows.take k++List.replicate (n-k) zs)∧Fm b H H':=by
 have hl:=cG hg;have d:=h.len (o:=k*sz) (l:=n-k) (c:=0);have g:(cB (n-k) zs).length=(n-k)*sz:=by
  have:bK sz (List.replicate (n-k) zs):=fun r y=>by rw [List.eq_of_mem_replicate y,s]
  simpa [cB]using cG this
 have m:k*sz+(n-k)*sz=rows.flatten.length:=by rw [hl,v,←ajy];congr 1;omega
 unfold RB at h ⊢;refine⟨H.set b (.cE sz ((rows.take k++List.replicate (n-k) zs).flatten.map .f) 0 ep .loc),?_,If (aj h),Fm.set _ _⟩;have x:n-k≠0:=by omega
 have u:(rows.take k++List.replicate (n-k) zs).flatten.map C.f=over (rows.flatten.map .f) (k*sz) ((cB (n-k) zs).map .f):=by
  rw [aki,←nq k hg];simp only [over,ajf,g,akp,akQ];rw [List.drop_eq_nil_of_le (by simp only [ajf];omega)];simp [cB]
 simp only [jf,d];rw [u];obtain⟨q,j⟩:∃ q,n-k=q+1:=⟨n-k-1,by omega⟩
 rw [j];simp only [s,if_true,h,and_self,bu,akh,true_and,ajf];rw [←j,g,ba (by omega)]
theorem dU{t:T}{H:an}{x:gA}{r:V}(h:cC t H x=aa r):Km.results t H [x]=aa r:=by
 simp [Km.results,aZ,h]
@[simp] theorem ahU {t:T} {H:an} (sz:Nat) (zs:List FC) (x:Arg):bC t H (.clear sz zs x)=(jf H sz zs (x.ev t)).map (.t [],·):=rfl
@[simp] theorem ahE {a b:Int}:wj ag [vi a,vi b]=aa (vi (max a b)):=by
 have:(if a<b then b else a)=max a b:=by split<;>omega
 simp only [wj,qB,uT];simp [this,V.int]
@[simp] theorem ahF {a b:Int}:wj ae [vi a,vi b]=aa (vi (min a b)):=by
 have:(if b<a then b else a)=min a b:=by split<;>omega
 simp only [wj,qB,uT];simp [this,V.int]
end
section
open Go
def ic(l:List (List FC))(i j:Nat):List (List FC):=(l.set i (l.getD j [])).set j (l.getD i [])
def ez(a b:Nat)(l d:List (List FC)):Prop:=d.Perm l∧d.take a=l.take a∧d.drop b=l.drop b
theorem ez.refl(a b:Nat)(l:List (List FC)):ez a b l l:=⟨.refl _,rfl,rfl⟩
theorem ez.trans{a b:Nat}{l j d:List (List FC)}(h:ez a b l j)(g:ez a b j d):ez a b l d:=⟨g.1.trans h.1,g.2.1.trans h.2.1,g.2.2.trans h.2.2⟩
theorem ez.len{a b:Nat}{l d:List (List FC)}(h:ez a b l d):d.length=l.length:=h.1.length_eq
theorem ez.lt{a b:Nat}{l d:List (List FC)}(h:ez a b l d){i:Nat}(hi:i<a):d[i]?=l[i]?:=by
 have:=congrArg (·[i]?) h.2.1;simpa [ajO,hi]using this
theorem ez.ge{a b:Nat}{l d:List (List FC)}(h:ez a b l d){i:Nat}(hi:b≤i):d[i]?=l[i]?:=by
 have:=congrArg (·[i-b]?) h.2.2;simpa [ajv,show b+(i-b)=i by omega]using this
theorem ez.mono{a b a' d:Nat}{l g:List (List FC)}(h:ez a b l g)(j:a'≤a)(hb:b≤d):ez a' d l g:=by
 refine⟨h.1,?_,?_⟩
 ·have:=congrArg (·.take a') h.2.1;simpa [akU,Nat.min_eq_left j]using this
 ·have:=congrArg (·.drop (d-b)) h.2.2;simpa [akn,show b+(d-b)=d by omega]using this
theorem wN(l:List (List FC))(i j:Nat):(ic l i j).length=l.length:=by simp [ic]
theorem gm{l:List (List FC)}{i j:Nat}(hi:i<l.length)(g:j<l.length)(k:Nat):(ic l i j)[k]?=if k=j then l[i]? else if k=i then l[j]? else l[k]?:=by
 have m:l.getD i []=l[i]:=by simp [List.getD,By hi]
 have q:l.getD j []=l[j]:=by simp [List.getD,By g]
 simp only [ic,m,q,List.getElem?_set];by_cases b:j=k
 ·subst b;simp [By hi,g]
 ·by_cases d:i=k
  ·subst d;simp [b,Ne.symm b,By g,hi]
  ·simp [b,d,Ne.symm b,Ne.symm d]
theorem eS{a b:Nat}{l:List (List FC)}{i j:Nat}(hi:a≤i)(s:i<b)(x:a≤j)(u:j<b)(v:b≤l.length):ez a b l (ic l i j):=by
 have d:i<l.length:=by omega
 have g:j<l.length:=by omega
 refine⟨?_,?_,?_⟩
 ·have m:l.getD i []=l[i]:=by simp [List.getD,By d]
  have q:l.getD j []=l[j]:=by simp [List.getD,By g]
  simp only [ic,m,q];exact List.set_set_perm d g
 ·apply List.ext_getElem?;intro k;simp only [ajO];split
  ·rw [gm d g,aR (by omega),aR (by omega)]
  ·rfl
 ·apply List.ext_getElem?;intro k;simp only [ajv];rw [gm d g,aR (by omega),aR (by omega)]
section
variable{H:an}{b sz ep:Nat}{rows:List (List FC)}
theorem RB.swap(h:RB H b sz ep rows)(hg:bK sz rows){i j:Nat}(hi:i<rows.length)(m:j<rows.length) :
  ∃ d g,di H (.ptr b (i*sz) ep) (rows[j].map .f)=aa d∧RB d b sz ep (rows.set i rows[j])∧di d (.ptr b (j*sz) ep) (rows[i].map .f)=aa g∧RB g b sz ep (ic rows i j)∧Fm b H g:=by
 have z:rows[i].length=sz:=hg _ (IT hi);have q:rows[j].length=sz:=hg _ (IT m);obtain⟨d,E,s,x,-⟩:=h.str hg hi q;have l:bK sz (rows.set i rows[j]):=fun r A=>by
  rcases List.mem_or_eq_of_mem_set A with h | rfl
  ·exact hg r h
  ·exact q
 obtain⟨g,F,B,y,-⟩:=s.str l (j:=j) (by simpa using m) z;refine⟨d,g,E,s,F,?_,x.trans y⟩;have u:rows.getD i []=rows[i]:=by simp [List.getD,By hi]
 have v:rows.getD j []=rows[j]:=by simp [List.getD,By m]
 simp only [ic,u,v];exact B
theorem ez.qM{a b:Nat}{l d:List (List FC)}(h:ez a b l d)(hg:bK sz l):bK sz d:=fun r g=>hg r (h.1.mem_iff.1 g)
end
structure tv(W:List FC→Prop)(c:List FC→List FC→Int):Prop where
 zR:∀ {x y},W x→W y→c x y<0→¬ c y x<0
 trans:∀ {x y z},W x→W y→W z→¬ c y x<0→¬ c z y<0→¬ c z x<0
def Up(c:List FC→List FC→Int)(a b:Nat)(l:List (List FC)):Prop:=∀ i j x y,a≤i→i<j→j<b→l[i]?=aa x→l[j]?=aa y→¬ c y x<0
end
section
open Go
theorem ue{l:List (List FC)}{a m b:Nat}(j:a≤m)(q:m≤b)(s:b≤l.length):∃ X U V Y,l=X++(U++(V++Y))∧X.length=a∧U.length=m-a∧V.length=b-m:=by
 refine⟨l.take a,(l.drop a).take (m-a),(l.drop m).take (b-m),l.drop b,?_,by simp;omega,by simp;omega,by simp;omega⟩;have g:(l.drop m).take (b-m)++l.drop b=l.drop m:=by
  have:=ajR (b-m) (l.drop m);rwa [akn,show m+(b-m)=b by omega]at this
 have d:(l.drop a).take (m-a)++l.drop m=l.drop a:=by
  have:=ajR (m-a) (l.drop a);rwa [akn,show a+(m-a)=m by omega]at this
 rw [g,d,ajR]
theorem ez.mem{a b:Nat}{l m:List (List FC)}(h:ez a b l m)(d:a≤b)(hb:b≤l.length){i:Nat}{x:List FC}(h1:a≤i)(h2:i<b)(z:m[i]?=aa x):∃ j,a≤j∧j<b∧l[j]?=aa x:=by
 obtain⟨X,U,V,Y,e,Q,Z,O⟩:=ue (ai8 a) d hb;have hl:=h.len;obtain⟨X',E,F,v,H,u,N,s⟩:=ue (l:=m) (ai8 a) d (by omega);obtain rfl:U=[]:=ajW.1 (by omega);obtain rfl:E=[]:=ajW.1 (by omega);obtain⟨g,M,K⟩:=h;subst e;subst H;have I:X'=X:=by
  simpa [ajG (show a≤X.length by omega),ajG (show a≤X'.length by omega),ajl (show X.length≤a by omega),ajl (show X'.length≤a by omega)]using M
 have J:v=Y:=by
  have q:∀ {A B C:List (List FC)},A.length=a→B.length=b-a→(A++([]++(B++C))).drop b=C:=by
   intro A B C S W;rw [ajZ,←ajI,List.drop_append_of_le_length (by simp;omega),aku (by simp;omega),ajZ]
  rwa [q u s,q Q O]at K
 subst I;subst J;have g:F.Perm V:=by
  have:=(List.perm_append_left_iff X').1 g;simp only [ajZ]at this;exact(List.perm_append_right_iff v).1 this
 rw [ajZ,aje (by omega),AT (by omega)]at z;obtain⟨j,y⟩:=akc (g.mem_iff.1 (ajg z));have L:=(IS.1 y).1;refine⟨a+j,by omega,by omega,?_⟩;rw [ajZ,aje (by omega),AT (by omega)];rw [←y];congr 1;omega
section
variable{W:List FC→Prop}{c:List FC→List FC→Int}
theorem Up.mono{a b a' d:Nat}{l:List (List FC)}(h:Up c a b l)(m:a≤a')(hb:d≤b):Up c a' d l:=
 fun i j x y h1 h2 h3 g hy=>h i j x y (by omega) h2 (by omega) g hy
theorem Up.one{a b:Nat}{l:List (List FC)}(h:b≤a+1):Up c a b l:=fun i j x y h1 h2 h3=>by omega
theorem Up.of{a b:Nat}{l g:List (List FC)}(h:Up c a b l)(d:∀ k,a≤k→k<b→g[k]?=l[k]?):Up c a b g:=fun i j x y h1 h2 h3 m hy=>
 h i j x y h1 h2 h3 (by rw [←d i h1 (by omega)];exact m) (by rw [←d j (by omega) h3];exact hy)
def je(c:List FC→List FC→Int)(l:List (List FC))(i j:Nat):Prop:=∀ x y,l[i]?=aa x→l[j]?=aa y→¬ c y x<0
theorem je.trans{l:List (List FC)}{i j k:Nat}(hc:tv W c)(b:∀ r ∈ l,W r)(h:je c l i j)(q:je c l j k)(d:j<l.length):je c l i k:=fun x y g hy=>by
 have m:=By d;exact hc.trans (b _ (ajg g)) (b _ (IT d)) (b _ (ajg hy)) (h _ _ g m) (q _ _ m hy)
end
end
section
open Go
def aS:C→Option Nat
 | .sl b _ _ _ _ _=>aa b| _=>ab
def LR(H:an)(c:C)(sz:Nat)(rows:List (List FC)):Prop:=(rows=[]∧(c=.f .aA∨c=.f .es))∨(rows≠[]∧∃ b ep,c=.sl b 0 rows.length 0 ep sz∧RB H b sz ep rows)
def Kb(H H':an)(c:C):Prop:=H.length≤H'.length∧∀(i:Nat) y,H[i]?=aa y→aS c≠aa i→H'[i]?=aa y
section
variable{H H':an}{c:C}{sz:Nat}{rows:List (List FC)}
theorem LR.nil(H:an)(sz:Nat):LR H (.f .aA) sz []:=.inl ⟨rfl,.inl rfl⟩
theorem LR.bf(h:LR H c sz rows)(d:∀ i y,H[i]?=aa y→aS c=aa i→H'[i]?=aa y):LR H' c sz rows:=by
 rcases h with h | ⟨h,b,ep,rfl,h2⟩
 ·exact .inl h
 ·exact .inr ⟨h,b,ep,rfl,d b _ h2 rfl⟩
theorem LR.push(h:LR H c sz rows)(J:an):LR (H++J) c sz rows:=h.bf fun i y hy _=>by rw [AT (aj hy)];exact hy
theorem LR.lt(h:LR H c sz rows){i:Nat}(hi:aS c=aa i):i<H.length:=by
 rcases h with⟨_,rfl | rfl⟩ | ⟨h,b,ep,rfl,h2⟩
 ·cases hi
 ·cases hi
 ·cases hi;exact h2.lt
theorem LR.bh(h:LR H c sz rows){i:Nat}{cs:List C}{fl:Nat}(d:H[i]?=aa (.box cs fl)):aS c≠aa i:=by
 rcases h with⟨_,rfl | rfl⟩ | ⟨h,b,ep,rfl,h2⟩
 ·simp [aS]
 ·simp [aS]
 ·intro e;cases e;unfold RB at h2;rw [h2]at d;cases d
theorem LR.set(h:LR H c sz rows){i:Nat}(hi:aS c≠aa i)(x:bZ):LR (H.set i x) c sz rows:=h.bf fun j y hy b=>by
 have:i≠j:=by rintro rfl;exact hi b
 rw [sh this];exact hy
theorem LR.len(h:LR H c sz rows):bg H c=aa rows.length:=by
 rcases h with⟨rfl,rfl | rfl⟩ | ⟨h,b,ep,rfl,h2⟩
 ·rfl
 ·rfl
 ·exact h2.len
theorem LR.ex(h:LR H c sz rows)(hg:bK sz rows)(n:Nat):∃ g,et (n+1) H c=aa (sl g rows):=by
 rcases h with⟨rfl,rfl | rfl⟩ | ⟨h,b,ep,rfl,h2⟩
 ·exact⟨.nil,rfl⟩
 ·exact⟨.es,rfl⟩
 ·refine⟨.fs,?_⟩;have hl:rows.length*sz=rows.flatten.length:=(cG hg).symm;unfold RB at h2;simp only [jQ,h2];rw [ba ⟨trivial,trivial,by rw [ajf,Nat.zero_add,hl];exact ai8 _⟩,aj4,ajl (by rw [ajf];omega),mo];cases rows with
  | nil=>exact absurd rfl h| cons x l=>simp [sl]
theorem Tc{g g':Tg}{rows:List (List FC)}(h:rows≠[]):sl g rows=sl g' rows:=by
 cases rows with
 | nil=>exact absurd rfl h| cons x l=>rfl
theorem LR.XY(h:LR H c sz rows)(hg:bK sz rows):∃ g,∀(H':an) (n:Nat),(∀ i y,H[i]?=aa y→aS c=aa i→H'[i]?=aa y)→et (n+1) H' c=aa (sl g rows):=by
 by_cases b:rows=[]
 ·rcases h with⟨rfl,rfl | rfl⟩ | ⟨h,_⟩
  ·exact⟨.nil,fun _ _ _=>rfl⟩
  ·exact⟨.es,fun _ _ _=>rfl⟩
  ·exact absurd b h
 ·refine⟨.fs,fun H' n d=>?_⟩;obtain⟨g,e⟩:=(h.bf d).ex hg n;rw [e,Tc b]
theorem LR.app(h:LR H c sz rows)(hg:bK sz rows)(uD:sz≠0){row:List FC}(x:row.length=sz){bytes:Nat}(d:cO (rows.length+1) bytes=ae){b1 m:Nat}(q:H[b1]?=aa (.box (row.map .f) m)) :
  ∃ l H',bD H sz bytes (.c c) (.c (.sl b1 0 1 1 0 sz))=aa (.c l,H')∧LR H' l sz (rows++[row])∧Kb H H' c∧(aS l=aS c∨aS l=aa H.length):=by
 have g:de H sz (.c (.sl b1 0 1 1 0 sz))=aa (1,row.map .f):=pJ q (by simp [x]);rcases h with⟨rfl,s⟩ | ⟨v,b,ep,rfl,h2⟩
 ·have d:cO 1 bytes=ae:=by simpa using d
  refine⟨.sl H.length 0 1 0 0 sz,H++[.cE sz (row.map .f) 0 0 .loc],?_,.inr ⟨by simp,H.length,0,rfl,?_⟩,⟨by simp,fun i y hy _=>by rw [AT (aj hy)];exact hy⟩,.inr rfl⟩
  ·rcases s with rfl | rfl<;>simp [bD,g,d,uD]
  ·simp [RB]
 ·have j:rows.length*sz=rows.flatten.length:=(cG hg).symm;unfold RB at h2;refine⟨.sl b 0 (rows.length+1) 0 (ep+1) sz,H.set b (.cE sz (rows.flatten.map .f++row.map .f) 0 (ep+1) .loc),?_,.inr ⟨by simp,b,ep+1,by simp,?_⟩,⟨by simp,fun i y hy u=>?_⟩,.inl rfl⟩
  ·simp only [bD,g,uD,if_false,h2,and_self,if_true];simp only [Nat.add_one_ne_zero,if_false];rw [ba ⟨trivial,by rw [ajf];exact j,by simp⟩,d];simp
  ·unfold RB;rw [If (aj h2)];simp
  ·have:b≠i:=by rintro rfl;exact u rfl
   rw [sh this];exact hy
theorem Kb.refl(H:an)(c:C):Kb H H c:=⟨ai8 _,fun _ _ h _=>h⟩
theorem Kb.push(H J:an)(c:C):Kb H (H++J) c:=⟨by simp,fun i y hy _=>by rw [AT (aj hy)];exact hy⟩
theorem Kb.agq{b o l d ep s:Nat}(h:Fm b H H'):Kb H H' (.sl b o l d ep s):=⟨h.1,fun i y hy g=>by
 have:i≠b:=by rintro rfl;exact g rfl
 exact h.get hy this⟩
end
end
section
open Go
theorem rU{g:Type}{sz:Nat}:∀ {rows:List (List g)} {j:Nat} {row:List g},(∀ r ∈ rows,r.length=sz)→rows[j]?=aa row→(rows.flatten.drop (j*sz)).take sz=row
 | [],j,row,_,b=>by simp at b
 | r::rows,0,row,d,b=>by
  simp at b;subst b;have:=d r ajc;subst this;simp
 | r::rows,j+1,row,d,b=>by
  have l:=d r ajc;have q:=rU (rows:=rows) (j:=j) (row:=row) (fun x m=>d x (ajb _ m)) (by simpa using b);rw [ajs,show(j+1)*sz=r.length+j*sz by rw [l,ajy];omega,←akn,List.drop_left];exact q
theorem sN{b:Type}:∀ {cs:List b} {k:Nat} {x:b},k<cs.length→over cs k [x]=cs.set k x
 | [],k,x,h=>by simp at h
 | c::cs,0,x,_=>by simp [over]
 | c::cs,k+1,x,h=>by
  have:=sN (cs:=cs) (k:=k) (x:=x) (by simpa using h);simp only [over,ajL,akC]at this ⊢;rw [ak9,List.set_cons_succ,←this];simp
section
variable{H:an}{b sz ep j k n:Nat}{rows:List (List FC)}{row:List FC}
theorem RB.ldc{x:FC}(h:RB H b sz ep rows)(hg:bK sz rows)(g:rows[j]?=aa row)(l:row[k]?=aa x):aU H ab (.c (.ptr b (j*sz+k) ep))=aa (.c (.f x)):=by
 unfold RB at h;have m:row.length=sz:=hg row (ajg g);have q:=(IS.1 l).1;have:=rV hg g (by omega:k<sz);simp only [ay,h,if_true];rw [ak0.symm];have e:(rows.flatten.drop (j*sz+k))[0]?=aa x:=by rw [ajv,Nat.add_zero,this,l]
 cases d:rows.flatten.drop (j*sz+k)with
 | nil=>rw [d]at e;simp at e| cons y ys=>rw [d]at e;simp at e;simp [aW,e]
end
def abS(sz:Nat)(zs:List FC)(bytes:Nat):aK:=⟨[P.nat 0],[.tmp (P.nat 2)],.seq (.region [⟨D 2,.cU (.k (.c (.f (.aA)))),ab⟩] []) (.seq (.seq (.region [⟨D 3,.cU (R 0),ab⟩,⟨D 4,.eq ag .sl (R 3) (.k (.c (.f (.aA)))),ab⟩] [])
 (.cond (R 4) (.seq (.region [⟨D 2,.cU (.k (.c (.f (.aA)))),ab⟩] []) .ret) .skip)) (.seq (.region [⟨D 5,.bQ sz zs 0 [],ab⟩,⟨D 6,.cU (R 0),ab⟩,⟨D 7,.append sz bytes (R 5) (R 6),ab⟩,⟨D 2,.cU (R 7),ab⟩] []) .ret))⟩
section
variable{tab:TB}{F sz bytes:Nat}{zs:List FC}{H:an}{g:Tg}{rows:List (List FC)}
theorem uq{cs:List FC}{n:Nat}:BF H .sl (.c (.f (.fs cs n))) (.c (.f .aA))=aa ag:=rfl
theorem XX:BF H .sl (.c (.f .aA)) (.c (.f .aA))=aa ae:=rfl
theorem afR:BF H .sl (.c (.f .es)) (.c (.f .aA))=aa ag:=rfl
theorem Ru(u:tab F=aa (abS sz zs bytes))(l:sz≠0)(v:bK sz rows)(j:cO rows.length bytes=ae) :
  ∃ r H',Ev tab (.fn F) [.c (.f (sl g rows))] H r H'∧∃ c J,r=.c c∧H'=H++J∧LR (H++J) c sz rows∧∀ i,aS c=aa i→H.length≤i:=by
 refine cM (C:=fun r H'=>∃ c J,r=.c c∧H'=H++J∧LR (H++J) c sz rows∧∀ i,aS c=aa i→H.length≤i) u rfl fun Q m=>?_;apply ai;simp;apply aq;apply ai;cases rows with
 | nil=>
  cases g with
  | nil=>
   simp [sl,Tg.fc,XX];refine aw (by simp) ?_;apply ai;simp;exact aF (m _ _ (.c (.f .aA)) rfl (by simp [Km.results,aZ]) ⟨_,[],rfl,by simp,.inl ⟨rfl,.inl rfl⟩,by simp [aS]⟩)
  | es=>
   simp [sl,Tg.fc,afR];refine a6 (by simp) ?_;apply ai;simp [bD,de,bg,cH,l];exact aF (m _ _ (.c (.f .es)) rfl (by simp [Km.results,aZ]) ⟨_,[],rfl,by simp,.inl ⟨rfl,.inr rfl⟩,by simp [aS]⟩)
  | fs=>
   simp [sl,Tg.fc,uq];refine a6 (by simp) ?_;apply ai;simp [bD,de,bg,cH,l];exact aF (m _ _ (.c (.f .es)) rfl (by simp [Km.results,aZ]) ⟨_,[],rfl,by simp,.inl ⟨rfl,.inr rfl⟩,by simp [aS]⟩)
 | cons x r=>
  have d:de H sz (.c (.f (.fs (x::r).flatten (x::r).length)))=aa ((x::r).length,(x::r).flatten.map .f):=by
   have q:=yk (H:=H) (g:=.fs) v;have s:=R3 (H:=H) .fs (x::r);simp only [sl,alg,ajo,if_false]at q s;simp only [de,q,s]
  have b:cO (r.length+1) bytes=ae:=by simpa using j
  simp only [sl,alg,ajo,if_false];simp [uq];refine a6 (by simp) ?_;apply ai;simp only [ajs,ajL]at d;simp [bD,d,l,b];refine aF (m _ _ (.c (.sl H.length 0 (r.length+1) 0 0 sz)) rfl (by simp [Km.results,aZ]) ⟨_,[.cE sz ((x::r).flatten.map .f) 0 0 .loc],rfl,by simp,.inr ⟨by simp,H.length,0,rfl,by simp [RB]⟩,by simp [aS]⟩)
end
end
section
open Go
theorem oi{H:an}{sz:Nat}{g:Tg}{rows:List (List FC)}(j:bK sz rows):de H sz (.c (.f (sl g rows)))=aa (rows.length,rows.flatten.map .f):=by
 have b:=yk (H:=H) (g:=g) j;have d:=R3 (H:=H) g rows;have e:∀ s,sl g rows≠.str s:=fun s=>by cases rows<;>cases g<;>simp [sl,Tg.fc]
 generalize sl g rows=x at *;cases x<;>simp only [de,b,d];exact absurd rfl (e _)
theorem wI{H:an}{sz:Nat}{g:Tg}{rows:List (List FC)}{k:Nat}(l:bK sz rows)(u:k≤rows.length)(z:rows.length≤9223372036854775807) :
  ∃ g',bG H sz (.c (.f (sl g rows))) (aa (vi k)) ab ab=aa (.c (.f (sl g' (rows.drop k)))):=by
 cases rows with
 | nil=>
  have:k=0:=by simpa using u
  subst this;cases g
  ·exact⟨.nil,rfl⟩
  ·exact⟨.es,rfl⟩
  ·exact⟨.fs,by simp [sl,Tg.fc,bG,bE];rfl⟩
 | cons x r=>
  refine⟨.fs,?_⟩;have d:wR (vi k) (x::r).length=aa k:=by
   have:(0:Int)≤(k:Int)∧(k:Int)≤((x::r).length:Int):=⟨by omega,by omega⟩
   show(if(0:Int)≤(k:Int)∧(k:Int)≤((x::r).length:Int)then aa (k:Int).toNat else ab)=aa k;rw [ba this,Int.toNat_natCast]
  have b:bE (x::r).length (x::r).length (aa (vi k)) ab ab=aa (k,(x::r).length,(x::r).length):=by
   simp [bE];simp only [ajL]at d;rw [d];rfl
  show bG H sz (.c (.f (.fs (x::r).flatten (x::r).length))) _ _ _=_;simp only [bG,b];have m:((x::r).flatten.drop (k*sz)).take (((x::r).length-k)*sz)=((x::r).drop k).flatten:=by
   rw [mQ k l,ajl];rw [cG (fun y v=>l y (List.mem_of_mem_drop v)),ajm];exact ai8 _
  rw [m];have s:sl .fs ((x::r).drop k)=.fs ((x::r).drop k).flatten ((x::r).length-k):=by
   cases j:(x::r).drop k with
   | nil=>
    have:=congrArg List.length j;simp only [ajm,akC]at this;rw [this];rfl
   | cons y q=>
    have:=congrArg List.length j;simp only [ajm]at this;rw [this];rfl
  rw [s];simp
end
end Km
