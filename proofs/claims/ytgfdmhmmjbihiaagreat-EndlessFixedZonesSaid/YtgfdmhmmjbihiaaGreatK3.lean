/-
  Our own small machine for Go code by value, held qH sV model: part 3. No program in BQ.
-/
import Derived.Test.YtgfdmhmmjbihiaaGreatK2
import Derived.Orders
import Derived.Test.YtgfdmhmmjbihiaaGreatK1
import Derived.ChangeArms
import Derived.DataReads
import Derived.Deep.Slices
import Derived.ProofKit
import Derived.RowKit3
import Derived.Below
import Derived.Carry
import Derived.Laws.IdiomArrays
open Option renaming some->aa,none->ab
open Bool renaming true->ae,false->ag
open List renaming mem_filter->asD, all_eq_true->ars, eq_nil_of_length_eq_zero->ark, mem_of_getElem?->arh, getElem?_eq_getElem->aq2, getElem_mem->aq7, getElem?_eq_some_iff->aq4, getElem?_set_ne->aq0, getElem?_append_right->arc, map_cons->arf, length_cons->ar0, foldl_cons->asU, mem_cons_of_mem->arj, flatten_cons->arv, length_append->ara, mem_cons_self->arl, drop_append->ath, take_succ_cons->atw, take_of_length_le->arw, mem_map->arx, drop_drop->asB, drop_eq_getElem_cons->arp, length_map->aro, length_drop->aru, map_append->asI, take_append_of_le_length->arO, drop_zero->asp, getElem?_map->asf, isEmpty_cons->atH, findIdx?_eq_some_iff_getElem->atI, getElem?_append_left->aq1, drop_of_length_le->asH, take_append_drop->ar8, length_take->arT, flatten_append->asx, take_take->atf, append_nil->asq, getElem?_of_mem->asl, mem_cons->arM, mem_append_left->ar4, mem_append_right->asA, append_assoc->arZ, getElem?_set_self->aq6, getElem?_take->arX, getElem?_drop->arC, length_eq_zero_iff->asi, nil_append->asu
open Bool renaming and_eq_true->aq3, not_eq_true'->asy, false_eq_true->arq
open Option renaming map_some->arN, bind_eq_some_iff->arH, map_eq_some_iff->aq5, bind_some->arG
open Nat renaming le_refl->aq9, zero_le->ast, le_max_left->arV, le_max_right->arK, add_mul->arF, one_mul->atg, mul_le_mul_right->arL, min_eq_left->asK, mul_comm->as9
open Option.some renaming injEq->anc
open Prod.mk renaming injEq->aq8
set_option linter.unusedVariables false
set_option linter.constructorNameAsVariable false
set_option linter.unusedSimpArgs false
set_option linter.unusedSectionVars false
set_option maxRecDepth 100000
namespace Km
section
open Go
variable{Q:Program}{σ:Nat->FuncId}{X:Wd}{call:dw}
variable{n:Nat}{ops:Array Oper}{aos:List aN}{iD:List (Nat × Nat)}{st:Nat->St}
def LD(b:Array Bool)(j:Nat):Prop:=b.getD j ag=ae
theorem X5{b:Array Bool}{i:Nat}(hi:i<b.size):LD (b.setIfInBounds i ae)=λj=>LD b j\/j=i:=by
 funext j;apply propext;unfold LD;by_cases h:i=j
 .subst h;simp[hi]
 .have:j≠i:=λe=>h e.symm;simp[Array.getD_eq_getD_getElem?,Array.getElem?_setIfInBounds_ne h,this]
theorem Aa{b:Array Bool}{i:Nat}(h:i∈Region.ready .any ops b):i<ops.size/\¬ LD b i/\∃o,ops[i]?=aa o/\∀e∈o.after.toList,Region.binds .any e=ae->LD b e.on:=by
 unfold Region.ready at h;simp only[asD,List.mem_range,aq3,asy]at h;obtain⟨l,d,j⟩:=h;refine⟨l,λg=>?_,?_⟩
 .unfold LD at g;simp only[Array.getD_eq_getD_getElem?]at d g;cases m:b[i]? with
  |none=>rw[m]at d;simp at d| some v=>rw[m]at d g;simp at d g;rw[d]at g;simp at g
 .have q:=Array.getElem?_eq_getElem l;rw[q]at j;simp only[arN,Option.getD_some]at j;refine⟨ops[i],q,λe u s=>?_⟩;rw[<-Array.all_toList,ars]at j;have:=j e u;simpa[s,LD]using this
theorem ZY(l:Ord ops.toList aos iD)(F:aos.length=ops.size){b:Array Bool}(B:b.size=ops.size){j:Nat}(z:j<ops.size)(y:¬ LD b j):Region.ready .any ops b≠[]:=by
 have key:∀m,m<ops.size->¬ LD b m->∃i,i∈Region.ready .any ops b:=by
  intro m;induction m using Nat.strongRecOn with
  |ind m E=>
   intro v g;have A:=Array.getElem?_eq_getElem v;by_cases d:∀e∈ops[m].after.toList,Region.binds .any e=ae->LD b e.on
   .refine⟨m,?_⟩;unfold Region.ready;simp only[asD,List.mem_range,aq3,asy,A,arN,Option.getD_some];refine⟨v,?_,?_⟩
    .unfold LD at g;have u:m<b.size:=by omega
     simp[u]at g ⊢;exact g
    .rw[<-Array.all_toList,ars];intro e s;by_cases q:Region.binds .any e=ae
     .have:=d e s q;unfold LD at this;simp[this]
     .simp[q]
   .simp only[Classical.not_forall]at d;obtain⟨e,s,q,x⟩:=d;have:=l.back m ops[m] (by omega) (by simp[v]) e s q;exact E e.on this (by omega) x
 obtain⟨i,hi⟩:=key j z y;intro h;rw[h]at hi;simp at hi
theorem YK(hC:fo Q σ call)(R:iX Q σ call n ops aos iD st){b:Frame}{k:List Item}{cs:List Frame}(hk:iq b cs)(H:∀y∈aos,gu y.op b) :
  ∀(X0:Wd) (fuel t:Nat) (d:Array Bool) (U:List Nat) (E:Nat) (X:Wd) (a:Act),d.size=ops.size->U.Nodup->(∀j,j<ops.size->(¬ LD d j↔j∈U))->U.length<=fuel->Inv Q σ X0 n ops aos st (LD d) E X a->
  ∃q z X' a',Steps Q (lone (b.atR a (.inRegion ops (Region.linearise.go .any ops fuel t d [])::k)) cs X.w) (lone (b.atR a' k) cs X'.w)/\Inv Q σ X0 n ops aos st q z X' a'/\(∀j,j<ops.size->q j)/\a'.tmps.size=a.tmps.size:=by
 have u:aos.length=ops.size:=by have:=(eM R.ajU).len;simpa using this.symm
 intro X0 fuel;induction fuel with
 |zero=>
  intro t d U E X a m B l F A;refine⟨LD d,E,X,a,?_,A,λj s=>?_,rfl⟩
  .simp only[Region.linearise.go,List.reverse_nil];exact .one stepR_region_end
  .have g:U=[]:=ark (by omega);refine Classical.byContradiction λh=>?_;have:=(l j s).1 h;rw[g]at this;simp at this
 |succ fuel ih=>
  intro t d U E X a m B l F A;simp only[Region.linearise.go];change ∃q z X' a',Steps Q (lone (b.atR a (.inRegion ops (match (Region.ready .any ops d)[t % (Region.ready .any ops d).length]? with
   |some i=>Region.linearise.go .any ops fuel (t / (Region.ready .any ops d).length) (d.setIfInBounds i ae) [i]
   |none=>[].reverse)::k)) cs X.w) _/\_
  cases hi:(Region.ready .any ops d)[t % (Region.ready .any ops d).length]? with
  |none=>
   have g:Region.ready .any ops d=[]:=by
    cases I:Region.ready .any ops d with
    |nil=>rfl
    |cons x xs=>
     rw[I]at hi;have a8:t % (x::xs).length<(x::xs).length:=Nat.mod_lt _ (by simp);rw[List.getElem?_eq_none_iff]at hi;omega
   refine⟨LD d,E,X,a,?_,A,λj s=>?_,rfl⟩
   .exact .one stepR_region_end
   .exact Classical.byContradiction λh=>ZY R.ord u m s h g
  |some i=>
   simp only[];rw[linearise_go_acc,List.reverse_singleton,List.singleton_append];obtain⟨r1,K,o,r3,r4⟩:=Aa (arh hi);have hy:=aq2 (show i<aos.length by omega);have I:iW ops aos (LD d) i o aos[i]:=⟨r3,hy,K,r4⟩
   obtain⟨z,L,a1,O,J,S⟩:=R.agX hC A I (b:=b) (rest:=Region.linearise.go .any ops fuel (t / (Region.ready .any ops d).length) (d.setIfInBounds i ae) []) (k:=k) (cs:=cs) hk (H _ (aq7 _));rw[<-X5 (by omega)]at J;have v:i∈U:=(l i r1).1 K;obtain⟨q,E2,M,N,k1,k2,k3,k5⟩:=ih (t / (Region.ready .any ops d).length) (d.setIfInBounds i ae) (U.erase i) z L a1 (by simpa using m) (B.erase i)
    (λj s=>by
     rw[B.mem_erase_iff,<-l j s,X5 (by omega)];constructor
     .intro h;exact⟨λe=>h (.inr e),λW=>h (.inl W)⟩
     .rintro⟨Y,Z⟩ (h|h)
      .exact Z h
      .exact Y h)
    (by rw[List.length_erase_of_mem v];omega) J
   exact⟨q,E2,M,N,O.trans k1,k2,k3,k5.trans S⟩
theorem YL(hC:fo Q σ call)(u:Q.follows .mixedOrders=ae)(R:iX Q σ call n ops aos iD st){b:Frame}{k:List Item}{cs:List Frame}(hk:iq b cs)(M:∀y∈aos,gu y.op b){X:Wd}{a:Act}(g:Fr Q σ n X (st 0) a)(id:Nat) :
  ∃X' a',Steps Q (lone (b.atR a (.code (.region id ops ae)::k)) cs X.w) (lone (b.atR a' k) cs X'.w)/\Fr Q σ n X' (st aos.length) a'/\Ext X.H.length X X'/\a'.tmps.size=a.tmps.size:=by
 have a8:aos.length=ops.size:=by have:=(eM R.ajU).len;simpa using this.symm
 let X0:Wd:={ X with w:={ X.w with drawn:=X.w.drawn+1 } }
 have A:Ext X.H.length X X0:=
  {B:=rfl,F:=λ_ _ h=>h,ov:=λ_ _ h=>.inl h,fw:=λ_ _ _=>rfl,bE:=λb _ bY J=>⟨bY,J,by cases bY<;>simp[X0]⟩
   ue:=λb L h=>.inl ⟨b,L,h,rfl⟩,size:=aq9 _,os:=rfl,tape:=rfl,output:=rfl,frame:=λ_ _ _=>rfl }
 have I:SR Q σ X0:=by
  refine⟨λb L J=>?_,g.sr.inj,g.sr.fb⟩;obtain⟨q,s,bY,W,Y⟩:=g.sr.br b L J;exact⟨q,s,bY,W,BR.ext Q σ A rfl (λ_ h=>h) Y⟩
 obtain⟨p1,p2,p3,O⟩:=oa (aos:=aos) (i:=0) (by omega);obtain⟨q1,q2⟩:=R.di _ p1 p2 O;have E:X0.H=(st 0).heap:=g.heap;rw[<-E]at q1;obtain⟨k1,k2⟩:=SR.ahead I q1;have m:Ext X.H.length X { X0 with H:=(st (phase aos 0)).heap }:=A.trans k2;have d:∀j,¬ LD (Array.replicate ops.size ag) j:=λj h=>by
  unfold LD at h;simp only[Array.getD_eq_getD_getElem?,Array.getElem?_replicate]at h;split at h<;>simp at h
 have hI:Inv Q σ { X0 with H:=(st (phase aos 0)).heap } n ops aos st (LD (Array.replicate ops.size ag)) (phase aos 0) { X0 with H:=(st (phase aos 0)).heap } a:=by
  refine⟨λj o h=>absurd h (d j),λj h=>absurd h (d j),p2,p3,d _,λj q s=>absurd q (O j (ast _) s),rfl,Ext.refl _ _,k1,g.b,by rw[q2];exact g.defs.ext' m,g.size,
   λp=>⟨0,ast _,.inl (VR.ext' σ m (g.aF p)),λj y _ _=>⟨λh=>by omega,λh=>absurd h (d j)⟩⟩,λj y q _ W Y h5=>?_⟩
  show X.cE _=ab;have a_:=(R.di j (ast _) (by omega) λk q s=>O k q (by omega)).1.len;cases v:X.cE (st j).heap.length with
  |none=>rfl| some L=>have:=SR.lt g.sr v;rw[g.heap]at this;omega
 obtain⟨D',S,X',a',g1,l,U,g5⟩:=YK hC R hk M (k:=k) { X0 with H:=(st (phase aos 0)).heap } ops.size (X.w.tape X.w.drawn (.order b.fn id)) (Array.replicate ops.size ag) (List.range ops.size) (phase aos 0) { X0 with H:=(st (phase aos 0)).heap } a (by simp) List.nodup_range
  (λj hj=>⟨λ_=>by simpa using hj,λ_=>d j⟩) (by simp) hI
 have Z:S=aos.length:=by
  rcases l.eW with h|⟨z,N,_⟩
  .exact h
  .exact absurd (U S (by have:=(aq4.1 N).1;omega)) l.eD
 subst Z;refine⟨X',a',.head stepR_region_draw ?_,⟨l.heap,l.sr,l.b,λp=>?_,l.defs,l.size⟩,m.trans (l.ext.mono (m.len)),g5⟩
 .simp only[Region.schedule,u,Bool.true_or,if_true];exact g1
 .obtain⟨K,hK,x,hw⟩:=l.aab p;have x:VR σ X' ((st K).aF.get p) (a'.tmps.getD p.toNat undef):=by
   rcases x with x|⟨z,zs,c,_,Z,N,_⟩
   .exact x
   .have:=(aq4.1 N).1;omega
  rw[<-R.lI aos.length hK (aq9 _) λj y q s hy hd=>?_]
  .exact x
  .have:=(hw j y hy hd).2 (U j (by omega));omega
end
section
open Go
variable{Q:Program}{σ:Nat->FuncId}{X:Wd}{call:dw}
theorem wZ{b:Type}{f:b->b->Bool}(d:∀x y,f x y=ae->x=y):∀{xs ys:List b},nH f xs ys=ae->xs=ys
 |[],[],_=>rfl
 |x::xs,y::ys,h=>by
  simp only[nH,aq3]at h;rw[d x y h.1,wZ d h.2]
 |[],_::_,h=>by simp[nH]at h
 |_::_,[],h=>by simp[nH]at h
theorem FC.beq_eq:∀(n:Nat) (a b:FC),FC.beq n a b=ae->a=b:=by
 intro n;induction n with
 |zero=>
  intro a b h;cases a<;>cases b<;>simp_all [FC.beq]
 |succ n d=>
  intro a b h;cases a<;>cases b<;>simp_all [FC.beq]
  all_goals exact wZ d h.2
theorem C.beq_eq{a b:C}(h:a.beq b=ae):a=b:=by
 cases a<;>cases b<;>simp_all [C.beq];exact FC.beq_eq _ _ _ h
theorem V.beq_eq{a b:V}(h:a.beq b=ae):a=b:=by
 cases a<;>cases b<;>simp only[V.beq,arq]at h
 .rw[C.beq_eq h]
 .rename_i xs ys;simp only[aq3,beq_iff_eq,ars]at h
  congr 1
  refine List.ext_getElem h.1 λi h1 h2=>C.beq_eq (h.2 (xs[i],ys[i]) ?_);exact arh (i:=i) (by rw[List.getElem?_zip_eq_some];exact⟨aq2 h1,aq2 h2⟩)
theorem uS:∀{aos:List aN} {s b:St},fz call aos s=aa b->∃ss:List St,eA call aos s=aa ss/\ss.getLast?=aa b
 |[],s,b,h=>by simp only[fz,anc]at h;subst h;exact⟨[s],rfl,rfl⟩
 |o::os,s,b,h=>by
  simp only[fz]at h;split at h
  .rename_i l g;obtain⟨ss,j,d⟩:=uS h;refine⟨s::ss,by simp[eA,g,j],?_⟩;cases ss with
   |nil=>simp at d| cons x xs=>simpa using d
  .simp at h
theorem mJ:∀{aos:List aN} {s:St} {ss:List St},eA call aos s=aa ss->ss.length=aos.length+1/\ss[0]?=aa s/\
  ∀i y,aos[i]?=aa y->∃u v,ss[i]?=aa u/\ss[i+1]?=aa v/\fh call u y=aa v
 |[],s,ss,h=>by
  simp only[eA,anc]at h;subst h;exact⟨rfl,rfl,λi y h=>by simp at h⟩
 |o::os,s,ss,h=>by
  simp only[eA]at h;split at h
  .rename_i q l;split at h
   .rename_i x m;simp only[anc]at h;subst h;obtain⟨d,g,j⟩:=mJ m;refine⟨by simp[d],rfl,λi y b=>?_⟩;cases i with
    |zero=>
     simp only[List.getElem?_cons_zero,anc]at b;subst b;exact⟨s,q,rfl,by simpa using g,l⟩
    |succ i=>simpa using j i y (by simpa using b)
   .simp at h
  .simp at h
theorem sK:∀{aos:List aN} {s:St} {ss:List St} {b:St},eA call aos s=aa ss->ss.getLast?=aa b->fz call aos s=aa b
 |[],s,ss,b,h,d=>by simp only[eA,anc]at h;subst h;simpa[fz]using d
 |o::os,s,ss,b,h,d=>by
  simp only[eA]at h;split at h
  .rename_i m l;split at h
   .rename_i g j;simp only[anc]at h;subst h;have:=(mJ j).1;simp only[fz,l];refine sK j ?_;cases g with
    |nil=>simp at this| cons x xs=>simpa using d
   .simp at h
  .simp at h
theorem Lp(S:fo Q σ call)(z:Q.follows .mixedOrders=ae){n:Nat}{id:Nat}{ops:Array Oper}{g:Bool}{aos:List aN}{iD:List (Nat × Nat)}(W:bU Q σ n (.region id ops g) (.region aos iD)=ae)
  {b:Frame} {k:List Item} {cs:List Frame} (U:iq b cs) (A:∀y∈aos,gu y.op b) {X:Wd} {a:Act} {s E:St} (K:Fr Q σ n X s a) (h:gA call aos iD s=aa E) :
  ∃X' a',Steps Q (lone (b.atR a (.code (.region id ops g)::k)) cs X.w) (lone (b.atR a' k) cs X'.w)/\Fr Q σ n X' E a'/\Ext X.H.length X X'/\a'.tmps.size=a.tmps.size:=by
 simp only[bU,aq3,Bool.or_eq_true,asy]at W;obtain⟨j,B⟩:=W;obtain⟨ss,O,J,h3⟩:∃ss:List St,eA call aos s=aa ss/\ss.getLast?=aa E/\∀c∈iD,sameAt aos ss c=ae:=by
  unfold gA at h;split at h
  .obtain⟨ss,m,q⟩:=uS h;exact⟨ss,m,q,by simp⟩
  .split at h
   .rename_i ss L;split at h
    .rename_i x;exact⟨ss,L,h,ars.1 x⟩
    .simp at h
   .simp at h
 cases g with
 |false=>
  obtain⟨X',a',m,q⟩:=BZ S U (k:=k) aos 0 X s E a K (by simpa using j) A (sK O J);exact⟨X',a',.head stepR_region (by simpa using m),q⟩
 |true=>
  obtain⟨m,q,g3⟩:=mJ O
  let st:Nat->St:=λi=>ss.getD i s
  have d:∀i u,ss[i]?=aa u->st i=u:=λi u hu=>by simp[st,List.getD_eq_getElem?_getD,hu]
  have R:iX Q σ call n ops aos iD st:=by
   refine⟨j,Lh (B.resolve_left (by simp)),λi y M=>?_,λi e y hc M Y=>?_⟩
   .obtain⟨u,v,F,H,I⟩:=g3 i y M;rw[d _ _ F,d _ _ H];exact I
   .have l:=h3 _ hc;simp only[sameAt,M]at l;split at l
    .rename_i o s1 s2 F H I;cases F;rw[d _ _ H]at Y ⊢;rw[d _ _ I];rw[Y]at l;simp only at l;split at l
     .rename_i v x1 v' x2 Z N;rw[<-V.beq_eq l]at N;exact⟨v,x1,x2,Z,N⟩
     .simp at l
    .simp at l
  have h0:st 0=s:=d 0 s q;have hN:st aos.length=E:=d _ _ (by rw[List.getLast?_eq_getElem?,m]at J;simpa using J);rw[<-h0]at K;rw[<-hN];exact YL S z R U A K id
end
section
open Go
variable{Q:Program}{σ:Nat->FuncId}{X:Wd}{call:dw}
def zQ(X:Wd)(b:Nat):Prop:=∃f t p a c s q d,X.H[b]?=aa (.lp f t p a c s q d)
theorem zQ.ext{X X':Wd}(l:Ext X.H.length X X'){b:Nat}(h:zQ X b):zQ X' b/\∀L,X.cE b=aa L->X'.cE b=aa L:=by
 obtain⟨f,t,p,a,c,s,q,d,hb⟩:=h;obtain⟨blk',g,j⟩:=l.bE b (aq4.1 hb).1 _ hb;cases blk'<;>simp only at j;exact⟨⟨_,_,_,_,_,_,_,_,g⟩,j.2⟩
inductive gD(Q:Program)(σ:Nat->FuncId)(n:Nat)(X:Wd):cO->Item->Prop
 |code {a:ax} {c:Code} (h:bU Q σ n c a=ae):gD Q σ n X (.code a) (.code c)
 |inBlock (id:Nat):gD Q σ n X (.inBlock id) (.inBlock id)
 |inLoop {a:ax} {c:Code} (h:bU Q σ n c a=ae):gD Q σ n X (.inLoop a) (.inLoop c)
 |iZ {b:Nat} {L:Loc} (h:X.cE b=aa L) (hl:zQ X b):gD Q σ n X (.iZ b) (.endRangeFunc L.c)
 |nC:gD Q σ n X .nC .beginRound
 |inScope {a:ax} {c:Code} (h:bU Q σ n c a=ae) (hs:ji a=ae):gD Q σ n X (.inScope a) (.inScope c)
theorem gD.ext{n:Nat}{X X':Wd}(b:Ext X.H.length X X'){x:cO}{y:Item}(h:gD Q σ n X x y):gD Q σ n X' x y:=by
 cases h with
 |code h=>exact .code h| inBlock id=>exact .inBlock id| inLoop h=>exact .inLoop h| iZ h hl=>exact .iZ ((hl.ext b).2 _ h) (hl.ext b).1| nC=>exact .nC| inScope h d=>exact .inScope h d
def RoR(X:Wd):Option Nat->Option Nat->Prop
 |none,ab=>True| some b,aa l=>∃L,X.cE b=aa L/\L.c=l/\zQ X b| _,_=>False
theorem RoR.ext{X X':Wd}(d:Ext X.H.length X X'){ro b:Option Nat}(h:RoR X ro b):RoR X' ro b:=by
 cases ro<;>cases b<;>simp only[RoR]at h ⊢;obtain⟨L,h1,h2,h3⟩:=h;exact⟨L,(h3.ext d).2 _ h1,h2,(h3.ext d).1⟩
theorem tW{n:Nat}(id:Nat):∀(k:List cO) (b:List Item),A2 (gD Q σ n X) k b->
  match Km.exitTo id k with
  |some k'=>∃d,Go.exitTo id b=aa d/\A2 (gD Q σ n X) k' d| none=>Go.exitTo id b=ab
 |[],b,h=>by
  have:b=[]:=ark h.len.symm;subst this;rfl
 |x::k,[],h=>by have:=h.len;simp at this
 |x::k,y::b,h=>by
  obtain⟨q,j⟩:=h.of_cons;have m:=tW id k b j;cases q with
  |inBlock g=>
   simp only[Km.exitTo,Go.exitTo];by_cases l:(g == id)=ae
   .simp only[l,if_true];exact⟨b,rfl,j⟩
   .simp only[l,arq,if_false];exact m
  |_=>exact m
theorem vp{n:Nat}(l:Nat):∀(a:ax) (c:Code),bU Q σ n c a=ae->ji a=ae->
  match Km.findLabel a l with
  |some r=>∃r',Go.findLabel c l=aa r'/\bU Q σ n r' r=ae| none=>Go.findLabel c l=ab:=by
 intro a;induction a with
 |seq a b m q=>
  intro c h g;simp only[ji,aq3]at g;cases c with
  |seq c d=>
   simp only[bU,aq3]at h;have j:=m c h.1 g.1;simp only[Km.findLabel,Go.findLabel];cases u:Km.findLabel a l with
   |some r=>
    rw[u]at j;obtain⟨r',v,x⟩:=j;simp only[v];exact⟨_,rfl,by simp[bU,x,h.2]⟩
   |none=>
    rw[u]at j;simp only[j];exact q d h.2 g.2
  |_=>simp[bU]at h
 |label z=>
  intro c h _;cases c with
  |label y=>
   simp only[bU,beq_iff_eq]at h;subst h;simp only[Km.findLabel,Go.findLabel];by_cases s:(y == l)=ae
   .simp only[s,if_true];exact⟨_,rfl,by simp[bU]⟩
   .simp only[s,arq,if_false]
  |_=>simp[bU]at h
 |bad=>intro c h g;simp[ji]at g| _=>intro c h _;cases c<;>simp_all [bU,Km.findLabel,Go.findLabel]
theorem ua{n:Nat}(l:Nat):∀(k:List cO) (b:List Item),A2 (gD Q σ n X) k b->
  match Km.gotoIn l k with
  |some k'=>∃d,Go.gotoIn l b=aa d/\A2 (gD Q σ n X) k' d| none=>Go.gotoIn l b=ab
 |[],b,h=>by
  have:b=[]:=ark h.len.symm;subst this;rfl
 |x::k,[],h=>by have:=h.len;simp at this
 |x::k,y::b,h=>by
  obtain⟨v,j⟩:=h.of_cons;have u:=ua l k b j;cases v with
  |inScope q s=>
   rename_i a c;have g:=vp (Q:=Q) (σ:=σ) l a c q s;simp only[Km.gotoIn,Go.gotoIn];cases m:Km.findLabel a l with
   |some r=>
    rw[m]at g;obtain⟨r',z,A⟩:=g;simp only[z];exact⟨_,rfl,A2.cons (.code A) (A2.cons (.inScope q s) j)⟩
   |none=>
    rw[m]at g;simp only[g];exact u
  |_=>exact u
def aiN:Option ax->List Item->Prop
 |none,b=>b=[]| some .ret,b=>∃k,b=.code .ret::k| some (.exit id),b=>∃k,b=.code (.exit id)::k/\Go.exitTo id k=ab| _,_=>False
end
section
open Go
variable{Q:Program}{σ:Nat->FuncId}{X:Wd}{call:dw}
theorem oN{b:Nat}{L:Loc}(x:SR Q σ X)(v:X.cE b=aa L){f:Nat}{t:T}{ps:List P}{as bd:ax}{q:dt}{g:Option ax}{d:Nat}(y:X.H[b]?=aa (.lp f t ps as bd q g d)) :
  ∃(n:Nat) (us:Array Value) (m:Array Tmp) (as' j:Code) (pend':Option Code) (u:Loc),
   X.w.heap[L.c]?=aa (.loop { state:=q.of,pending:=pend',fn:=σ f,tmps:=us,params:=m,assign:=as',body:=j,defers:=u.c })/\
   n<=us.size/\RR σ X t us/\fC (λp (q:P)=>q.toNat == p&&decide (p<n)) m.toList ps=ae/\bU Q σ n as' as=ae/\bU Q σ n j bd=ae/\uu Q σ n g pend'/\X.cE d=aa u/\∃o,X.H[d]?=aa (.fj o):=by
 obtain⟨_,_,bY,l,s⟩:=x.br b L v;rw[y]at l;cases l;exact s
theorem wc(J:SR Q σ X){b:Nat}{L:Loc}(I:X.cE b=aa L){f:Nat}{t:T}{ps:List P}{as bd:ax}{q q':dt}{y pend1:Option ax}{d:Nat}(s:X.H[b]?=aa (.lp f t ps as bd q y d))
  {n:Nat} {us:Array Value} {j:Array Tmp} {as' g:Code} {pend':Option Code} {u:Loc}
  (O:n<=us.size) (S:RR σ X t us) (U:fC (λp (q:P)=>q.toNat == p&&decide (p<n)) j.toList ps=ae) (W:bU Q σ n as' as=ae) (Y:bU Q σ n g bd=ae) (Z:uu Q σ n pend1 pend') (a:X.cE d=aa u) (z:∃o,X.H[d]?=aa (.fj o)) :
  SR Q σ { X with H:=X.H.set b (.lp f t ps as bd q' pend1 d),w:=X.w.putObj L.c (.loop { state:=q'.of,pending:=pend',fn:=σ f,tmps:=us,params:=j,assign:=as',body:=g,defers:=u.c }) }/\
  Ext X.H.length X { X with H:=X.H.set b (.lp f t ps as bd q' pend1 d),w:=X.w.putObj L.c (.loop { state:=q'.of,pending:=pend',fn:=σ f,tmps:=us,params:=j,assign:=as',body:=g,defers:=u.c }) }:=by
 obtain⟨m,r,k,M,N,i,K,v,_⟩:=oN J I s;have A:b<X.H.length:=(aq4.1 s).1;refine SR.pg (o':=.loop { state:=q'.of,pending:=pend',fn:=σ f,tmps:=us,params:=j,assign:=as',body:=g,defers:=u.c }) (blk':=.lp f t ps as bd q' pend1 d) J s I v (by simp) (by simp)
  (λbY l=>⟨.lp f t ps as bd q' pend1 d,by simp[A],by rw[s]at l;cases l;exact⟨⟨rfl,rfl,rfl,rfl,rfl,rfl⟩,λL h=>h⟩⟩)
  (λX' F E _ x c=>?_)
 obtain⟨o,z⟩:=z;refine⟨n,us,j,as',g,pend',u,E,O,RR.ext' σ F S,U,W,Y,Z,by rw[x];exact a,o,?_⟩;have B:b≠d:=λe=>by rw[e,z]at s;cases s
 rw[c,aq0 B];exact z
end
section
open Go
variable{Q:Program}{σ:Nat->FuncId}{call:dw}
structure Way(Q:Program)(σ:Nat->FuncId)(fn:Nat)(n:Nat)(b:Frame)(cs:List Frame)(ro:Option Nat)(todo:List cO)(items:List Item)(s:St)(X:Wd)(a:Act):Prop where
 fr:Fr Q σ n X s a
 items:A2 (gD Q σ n X) todo items
 ro:RoR X ro b.roundOf
 kind:iq b cs
 fn:b.fn=σ fn
theorem Way.ext{fn n:Nat}{b:Frame}{cs:List Frame}{ro:Option Nat}{g:List cO}{items:List Item}{s l:St}{X X':Wd}{a a':Act}(h:Way Q σ fn n b cs ro g items s X a){todo':List cO}{d:List Item}(j:Ext X.H.length X X')(m:Fr Q σ n X' l a')
  (hi:A2 (gD Q σ n X) todo' d):Way Q σ fn n b cs ro todo' d l X' a':=
 ⟨m,hi.kH λ_ _ h=>h.ext j,h.ro.ext j,h.kind,h.fn⟩
theorem Way.to{fn n:Nat}{b:Frame}{cs:List Frame}{ro:Option Nat}{g:List cO}{items:List Item}{s:St}{X:Wd}{a:Act}(h:Way Q σ fn n b cs ro g items s X a){todo':List cO}{d:List Item}
  (hi:A2 (gD Q σ n X) todo' d):Way Q σ fn n b cs ro todo' d s X a:=⟨h.fr,hi,h.ro,h.kind,h.fn⟩
def ani(Q:Program)(σ:Nat->FuncId)(call:dw)(fn m:Nat):Prop:=
 ∀(n:Nat) (b:Frame) (cs:List Frame) ro l g s X a j q,run call fn m ro l s=aa (j,q)->Way Q σ fn n b cs ro l g s X a->
  ∃X' a' d,Steps Q (lone (b.atR a g) cs X.w) (lone (b.atR a' d) cs X'.w)/\Fr Q σ n X' q a'/\Ext X.H.length X X'/\a'.tmps.size=a.tmps.size/\aiN j d
theorem tr{b:Frame}{a:Act}{k:List Item}{cs:List Frame}{w:World}{body:Code}:step Q (lone (b.atR a (.inScope body::k)) cs w)=.next (lone (b.atR a k) cs w):=
 step_lone_go (by simp[stepG,stepG.exec,Frame.atR])
theorem yN{b:Frame}{a:Act}{k:List Item}{cs:List Frame}{w:World}{body:Code}:step Q (lone (b.atR a (.code (.scope body)::k)) cs w)=.next (lone (b.atR a (.code body::.inScope body::k)) cs w):=
 step_lone_go (by simp[stepG,stepG.exec,Frame.atR])
theorem Z4(hC:fo Q σ call)(f8:Q.follows .mixedOrders=ae)(fn:Nat):∀m,ani Q σ call fn m:=by
 intro m;induction m with
 |zero=>intro n b cs ro c9 H s X a E s' h;simp[run]at h
 |succ m ih=>
  intro n b cs ro c9 H s X a E s' h z;have go:∀{todo' j},run call fn m ro todo' s=aa (E,s')->A2 (gD Q σ n X) todo' j->step Q (lone (b.atR a H) cs X.w)=.next (lone (b.atR a j) cs X.w)->
    ∃X' a' j,Steps Q (lone (b.atR a H) cs X.w) (lone (b.atR a' j) cs X'.w)/\Fr Q σ n X' s' a'/\Ext X.H.length X X'/\a'.tmps.size=a.tmps.size/\aiN E j:=by
   intro todo' j hr hi S;obtain⟨X',a',it,g1,M⟩:=ih n b cs ro todo' j s X a E s' hr (z.to hi);exact⟨X',a',it,.head S g1,M⟩
  cases c9 with
  |nil=>
   have:H=[]:=ark z.items.len.symm;subst this;simp only[run,anc,aq8]at h;obtain⟨rfl,rfl⟩:=h;exact⟨X,a,[],Steps.refl _ _,z.fr,Ext.refl _ _,rfl,rfl⟩
  |cons x k=>
   cases H with
   |nil=>have:=z.items.len;simp at this
   |cons it K=>
    obtain⟨hx,A⟩:=z.items.of_cons;cases hx with
    |inBlock id=>exact go (by simpa[run]using h) A stepR_inBlock
    |inLoop B=>exact go (by simpa[run]using h) (A2.cons (.code B) (A2.cons (.inLoop B) A)) stepR_inLoop
    |inScope B hs=>exact go (by simpa[run]using h) A tr
    |iZ hb hl=>
     rename_i bb L;simp only[run]at h;split at h
     .rename_i f t ps as bd q c6 d I;split at h
      .simp at h
      .rename_i hq;rw[<-z.fr.heap]at I;obtain⟨m0,us,Z,as',U,pend',Ld,b7,h2,h3,h4,h5,h6,W,h8,h9⟩:=oN z.fr.sr hb I;obtain⟨g1,M⟩:=wc z.fr.sr hb I (q':=.exhausted) h2 h3 h4 h5 h6 W h8 h9;have j4:(q.of)≠LoopState.busy:=by cases q<;>simp[dt.of]at hq ⊢
       have S:=stepR_endRangeFunc (P:=Q) (b:=b) (a:=a) (k:=K) (cs:=cs) (run_endLoop (P:=Q) b7 j4);have key:∀{todo' j},run call fn m ro todo' { s with heap:=s.heap.set bb (.lp f t ps as bd .exhausted c6 d) }=aa (E,s')->A2 (gD Q σ n X) todo' j->j=(pend'.map Item.code).toList++K->
         ∃X' a' j,Steps Q (lone (b.atR a (.endRangeFunc L.c::K)) cs X.w) (lone (b.atR a' j) cs X'.w)/\Fr Q σ n X' s' a'/\Ext X.H.length X X'/\a'.tmps.size=a.tmps.size/\aiN E j:=by
        intro todo' j hr hi he;obtain⟨X',a',it,k1,k2,k3,k4,k5⟩:=ih n b cs ro todo' j _ _ a E s' hr (z.ext (a':=a) M ⟨by rw[<-z.fr.heap],g1,by simpa[World.putObj]using z.fr.b,z.fr.aF.ext' σ M,z.fr.defs.ext' M,z.fr.size⟩ hi);rw[he]at k1;exact⟨X',a',it,.head S k1,k2,M.trans (k3.mono M.len),k4,k5⟩
       split at h
       .cases pend' with
        |none=>exact key h A rfl| some c=>exact W.elim
       .cases pend' with
        |none=>exact W.elim
        |some c=>
         have W:bU Q σ m0 c .ret=ae:=W;cases c<;>simp[bU]at W;exact key h (A2.cons (.code (by simp[bU])) A) rfl
       .rename_i id;cases pend' with
        |none=>exact W.elim
        |some c=>
         have W:bU Q σ m0 c (.exit id)=ae:=W;cases c<;>simp[bU]at W;subst W;exact key h (A2.cons (.code (by simp[bU])) A) rfl
       .simp at h
     .simp at h
    |nC=>
     simp only[run]at h;split at h
     .simp at h
     .rename_i bb;split at h
      .rename_i f t ps as bd c6 d I;have J:=z.ro;cases d5:b.roundOf with
       |none=>rw[d5]at J;exact J.elim
       |some l=>
        rw[d5]at J;obtain⟨L,hL,rfl,_⟩:=J;rw[<-z.fr.heap]at I;obtain⟨m0,us,Z,as',U,pend',Ld,b7,h2,h3,h4,h5,h6,W,h8,h9⟩:=oN z.fr.sr hL I;obtain⟨g1,M⟩:=wc z.fr.sr hL I (q':=.busy) h2 h3 h4 h5 h6 W h8 h9;have S:=stepR_beginRound (P:=Q) (b:=b) (a:=a) (k:=K) (cs:=cs) d5 (run_beginRound (P:=Q) b7 rfl);obtain⟨X',a',it,k1,k2,k3,k4,k5⟩:=ih n b cs _ k K _ _ a E s' h (z.ext (a':=a) M ⟨by rw[<-z.fr.heap],g1,by simpa[World.putObj]using z.fr.b,z.fr.aF.ext' σ M,z.fr.defs.ext' M,z.fr.size⟩ A);exact⟨X',a',it,.head S k1,k2,M.trans (k3.mono M.len),k4,k5⟩
      .simp at h
    |code B=>
     rename_i ac c;cases ac with
     |bad=>simp[run]at h| skip=>cases c<;>simp[bU]at B;exact go (by simpa[run]using h) A stepR_skip
     |label l=>cases c<;>simp[bU]at B;exact go (by simpa[run]using h) A stepR_label
     |scope p=>
      cases c<;>simp[bU]at B;exact go (by simpa[run]using h) (A2.cons (.code B.1) (A2.cons (.inScope B.1 B.2) A)) yN
     |goto l=>
      cases c<;>simp[bU]at B;subst B;rename_i l';have O:=ua (Q:=Q) (σ:=σ) (n:=n) (X:=X) l' k K A;simp only[run]at h;split at h
      .rename_i k' F;rw[F]at O;obtain⟨m7,he,a_⟩:=O;exact go h a_ (stepR_goto he)
      .simp at h
     |ret=>
      cases c<;>simp[bU]at B;simp only[run,anc,aq8]at h;obtain⟨rfl,rfl⟩:=h;exact⟨X,a,_,Steps.refl _ _,z.fr,Ext.refl _ _,rfl,K,rfl⟩
     |seq p q=>
      cases c<;>simp[bU]at B;exact go (by simpa[run]using h) (A2.cons (.code B.1) (A2.cons (.code B.2) A)) stepR_seq
     |block id p=>
      cases c<;>simp[bU]at B;obtain⟨rfl,B⟩:=B;exact go (by simpa[run]using h) (A2.cons (.code B) (A2.cons (.inBlock _) A)) stepR_block
     |loop p=>
      cases c<;>simp[bU]at B;exact go (by simpa[run]using h) (A2.cons (.code B) (A2.cons (.inLoop B) A)) stepR_loop
     |exit id=>
      cases c<;>simp[bU]at B;subst B;rename_i l_;have O:=tW (Q:=Q) (σ:=σ) (n:=n) (X:=X) l_ k K A;simp only[run]at h;split at h
      .rename_i k' F;rw[F]at O;obtain⟨m7,he,a_⟩:=O;exact go h a_ (stepR_exit he)
      .rename_i F;rw[F]at O;split at h
       .simp only[anc,aq8]at h;obtain⟨rfl,rfl⟩:=h;exact⟨X,a,_,Steps.refl _ _,z.fr,Ext.refl _ _,rfl,K,rfl,O⟩
       .simp at h
     |cond x p q=>
      cases c<;>simp[bU]at B;simp only[run]at h;split at h
      .rename_i v hv;have hx:=bV z.fr.aF B.1.1;rw[hv]at hx;have k_:cS σ X.F X.w (.bool v) _:=hx;have he:∀u,cS σ X.F X.w (.bool v) u->u=.bool v:=λu hu=>by cases hu;rfl
       refine go h ?_ (stepR_cond (he _ k_));cases v
       .exact A2.cons (.code B.2) A
       .exact A2.cons (.code B.1.2) A
      .simp at h
     |region aos iD=>
      cases c with
      |region id ops m8=>
       simp only[run]at h;split at h
       .simp at h
       .rename_i J;split at h
        .rename_i s1 h1;have j7:∀y∈aos,gu y.op b:=by
          intro y hy;unfold gu;cases ro with
          |none=>
           refine .inl ?_;have:=z.ro;cases hb:b.roundOf with
           |none=>rfl| some l=>rw[hb]at this;exact this.elim
          |some r=>
           simp only[Option.isSome_some,Bool.true_and,asy,Bool.not_eq_false]at J;exact .inr (ars.1 J y hy)
         obtain⟨X1,a1,g1,M,g3,g4⟩:=Lp hC f8 B z.kind j7 (k:=K) z.fr h1;obtain⟨X',a',it,k1,k2,k3,k4,k5⟩:=ih n b cs ro k K s1 X1 a1 E s' h (z.ext g3 M A);exact⟨X',a',it,g1.trans k1,k2,g3.trans (k3.mono g3.len),k4.trans g4,k5⟩
        .simp at h
      |_=>simp[bU]at B
     |fK f ps as bd=>
      cases c with
      |rangeFunc f' Z as' U=>
       simp only[bU,aq3]at B;obtain⟨⟨⟨i7,i8⟩,i9⟩,i_⟩:=B;simp only[run]at h;split at h
       .simp at h
       .rename_i J;have j8:b.roundOf=ab:=by
         have:=z.ro;cases ro with
         |some r=>simp at J
         |none=>
          cases hb:b.roundOf with
          |none=>rfl| some l=>rw[hb]at this;exact this.elim
        split at h
        .rename_i g args d_;split at h
         .rename_i r2 H2 N;obtain⟨X1,w1,H1,S1,E1,r1,B1⟩:=SR.new z.fr.sr z.fr.b (.fj ae) (dZ.alloc X.w (.deferred (aa []))) 0 (λX' hx hw hF hH=>by
           show X'.w.heap[X.w.heap.size]?=_;rw[hw];exact(dZ.alloc X.w (.deferred (aa []))).new)
          have e_:X1.H[X.H.length]?=aa (.fj ae):=by rw[H1];simp
          have b_:X.H.length<X1.H.length:=by rw[H1];simp
          have f9:X1.w.heap.size=X.w.heap.size+1:=by rw[w1];simp
          obtain⟨X2,w2,f_,S2,E2,d7,B2⟩:=SR.new S1 B1 (.lp fn s.aF ps as bd .ready ab s.heap.length)
           (dZ.alloc X1.w (.loop { state:=.ready,pending:=ab,fn:=b.fn,tmps:=a.tmps,params:=Z,assign:=as',body:=U,defers:=X.w.heap.size })) 0 (λX' hx hw hF hH=>by
            obtain⟨blk',c_,F⟩:=hx.bE X.H.length b_ _ e_;cases blk'<;>simp only at F;refine⟨n,a.tmps,Z,as',U,ab,⟨X.w.heap.size,0⟩,?_,z.fr.size,RR.ext' σ hx (RR.ext' σ E1 z.fr.aF),i8,i9,i_,trivial,?_,?_⟩
            .show X'.w.heap[X1.w.heap.size]?=_;rw[hw,(dZ.alloc X1.w (.loop { state:=.ready,pending:=ab,fn:=b.fn,tmps:=a.tmps,params:=Z,assign:=as',body:=U,defers:=X.w.heap.size })).new,z.fn];rfl
            .rw[<-z.fr.heap];exact F _ r1
            .rw[<-z.fr.heap];exact⟨_,c_⟩)
          have d6:Ext X.H.length X X2:=E1.trans (E2.mono E1.len);have d8:X2.H=s.heap++[.fj ae,.lp fn s.aF ps as bd .ready ab s.heap.length]:=by rw[f_,H1,<-z.fr.heap];simp
          have i6:X1.H.length=s.heap.length+1:=by rw[H1,<-z.fr.heap];simp
          have I:zQ X2 (s.heap.length+1):=⟨fn,s.aF,ps,as,bd,.ready,ab,s.heap.length,by rw[d8,arc (by omega)];simp⟩
          rw[i6,f9]at d7;have d9:A2 (VR σ X2) [.c (.yl (s.heap.length+1))] [.func (.yield (X.w.heap.size+1)) #[] #[]]:=A2.cons ⟨⟨X.w.heap.size+1,0⟩,d7,I,rfl⟩ A2.nil;obtain⟨fst,cap,j9,j_⟩:=nN d_ (VR.ext' σ d6 (bV z.fr.aF i7)) d9;rw[<-d8]at N;have h_:=hC.enters _ _ _ _ N
          let a1:Act:={ a with defers:={ target:=.collected X.w.heap.size,args:=#[] }::a.defers }
          obtain⟨fr,X3,u,q1,⟨l1,l2,l3,l4,fn',l5,l6⟩,q3,q4,q5,q6,q7⟩:=hC.fn g args _ r2 H2 N X2 _ .normal (b.atR a1 (.inRangeFunc (X.w.heap.size+1)::K)::cs) rfl S2 B2 j_ (.inl rfl) (.inl rfl);have S:step Q (lone (b.atR a (.code (.rangeFunc f' Z as' U)::K)) cs X.w)=.next (lone (Frame.enter Q (σ g) (fst.toArray++#[.func (.yield (X.w.heap.size+1)) #[] #[]]++cap.toArray) .normal) (b.atR a1 (.inRangeFunc (X.w.heap.size+1)::K)::cs) X2.w):=by
           refine stepR_rangeFunc (P:=Q) (b:=b) (a:=a) (k:=K) (cs:=cs) (l:=X.w.heap.size+1) (mark:=[{ target:=.collected X.w.heap.size,args:=#[] }]) (w₁:=X2.w) (w₁':=X2.w) (d:={ target:=.fn (.func (σ g)) cap.toArray,args:=fst.toArray++#[.func (.yield (X.w.heap.size+1)) #[] #[]] }) ?_ ?_ ?_
           .rw[j8,run_enterLoop_outer,w2,w1]
           .simp only[resolve,j9,Deferred.ofValue,Sem.run_bind,Sem.run_pure,Result.andThen_ok];simp[Act.eval]
           .exact eY h_
          have Y:Ext X.H.length X X3:=d6.trans (q6.mono d6.len);have a8:=step_leave_returned (P:=Q) (c:=b.atR a1 (.inRangeFunc (X.w.heap.size+1)::K)) (cs:=cs) (show fr.leaving Q X3.w (.returned u) from⟨l1,l2,l3,fn',by rw[l4];exact l5,l6⟩);rw[finish_atR_inRangeFunc]at a8;have c5:=I.ext q6;have g_:ra σ X3 (.gB s.heap.length) { target:=.collected X.w.heap.size,args:=#[] }:=by
           obtain⟨blk',c_,F⟩:=(E2.trans (q6.mono E2.len)).bE X.H.length b_ _ e_;cases blk'<;>simp only at F;rw[<-z.fr.heap];exact⟨⟨X.w.heap.size,0⟩,_,F _ r1,c_,rfl⟩
          obtain⟨X',a',it,k1,k2,k3,k4,k5⟩:=ih n b cs ro (.iZ (s.heap.length+1)::k) (.endRangeFunc (X.w.heap.size+1)::K) _ X3 a1 E s' h
           ⟨⟨q3,q4,q7,RR.ext' σ Y z.fr.aF,A2.cons g_ (z.fr.defs.ext' Y),z.fr.size⟩,A2.cons (.iZ (c5.2 _ d7) c5.1) (A.kH λ_ _ h=>h.ext Y),z.ro.ext Y,z.kind,z.fn⟩
          refine⟨X',a',it,.head S (Steps.trans ?_ (.head a8 k1)),k2,Y.trans (k3.mono Y.len),k4,k5⟩;simpa using q1
         .simp at h
        .simp at h
      |_=>simp[bU]at B
end
section
open Go
variable{Q:Program}{σ:Nat->FuncId}{X:Wd}{call:dw}
def X9(Q:Program)(σ:Nat->FuncId)(nE:Nat->List V->aj->Option (Option (V × aj))):Prop:=
 ∀f args H r H',nE f args H=aa (aa (r,H'))->
  (∀as w,(callFunc (σ f) as).run Q w=.ok (.enter (σ f) as) w)/\
  ∀(X:Wd) us b cs,X.H=H->SR Q σ X->X.B<=X.w.heap.size->A2 (VR σ X) args us->nW b cs->b=.normal\/f≠vB->
   ∃d X' u,Steps Q (lone (Frame.enter Q (σ f) us.toArray b) cs X.w) (lone d cs X'.w)/\Leaves Q (σ f) b d u X'.w/\fO Q σ X r H' X' u
structure Env(Q:Program)(σ:Nat->FuncId)(tab:Nat->Option aG)(nE:Nat->List V->aj->Option (Option (V × aj))):Prop where
 mix:Q.follows .mixedOrders=ae
 fn:∀f af,tab f=aa af->∃fn,Q.funcs[σ f]?=aa fn/\ur Q σ fn af=ae
 nE:X9 Q σ nE
theorem oe:∀(ps:List P) (args:List V) (t:T) (s:Nat),ps.map P.toNat=List.range' s ps.length->args.length=ps.length->∀q:P,
  (cD ps args t).get q=if s<=q.toNat then(args[q.toNat-s]?).getD (t.get q)else t.get q
 |[],args,t,s,_,b,q=>by
  have:args=[]:=ark b;subst this;simp[cD]
 |p::ps,[],t,s,_,b,q=>by simp at b
 |p::ps,v::y,t,s,d,b,q=>by
  simp only[arf,ar0,List.range'_succ,List.cons.injEq]at d;have x:=oe ps y (t.set p v) (s+1) d.2 (by simpa using b) q;simp only[cD,x];by_cases j:p=q
  .subst j;rw[aR (by omega),T.oH];simp[d.1]
  .have u:q.toNat≠s:=λe=>j (P.toNat_inj (d.1.trans e.symm));simp only[T.oH,j,if_false];by_cases l:s<=q.toNat
   .have g:s+1<=q.toNat:=by omega
    have m:q.toNat-s=(q.toNat-(s+1))+1:=by omega
    simp[g,l,m]
   .have g:¬ (s+1<=q.toNat):=by omega
    simp[g,l]
theorem RR.cD:∀(ps:List P) (b:List Tmp) (args:List V) (us:List Value) (aF:T) (tmps:Array Value) (n:Nat),n<=tmps.size->RR σ X aF tmps->A2 (VR σ X) args us->args.length=ps.length->
  fC (λp (q:P)=>q.toNat == p&&decide (p<n)) b ps=ae->RR σ X (Km.cD ps args aF) ((b.zip us).foldl (λtmps (t,a)=>tmps.setIfInBounds t a) tmps)
 |[],b,args,us,aF,tmps,n,j,g,d,hl,h=>by
  have:args=[]:=ark hl;subst this;have:us=[]:=ark d.len.symm;subst this;simpa[Km.cD]using g
 |p::ps,[],args,us,aF,tmps,n,j,g,d,hl,h=>by simp[fC]at h
 |p::ps,m::b,[],us,aF,tmps,n,j,g,d,hl,h=>by simp at hl
 |p::ps,m::b,v::s,[],aF,tmps,n,j,g,d,hl,h=>by have:=d.len;simp at this
 |p::ps,m::b,v::s,u::us,aF,tmps,n,j,g,d,hl,h=>by
  simp only[fC,aq3,beq_iff_eq,decide_eq_true_eq]at h;obtain⟨⟨h1,h2⟩,h3⟩:=h;obtain⟨l,d⟩:=d.of_cons;subst h1;refine RR.cD ps b s us _ _ n (by simpa using j) (RR.set σ g (by omega) l) d (by simpa using hl) h3
theorem qx:∀(l:List (Tmp × Value)) (tmps:Array Value),(l.foldl (λtmps (t,a)=>tmps.setIfInBounds t a) tmps).size=tmps.size
 |[],_=>rfl| x::l,tmps=>by rw[asU,qx l];simp
theorem Z3(fn:Nat):∀m d s b j,run call fn m ab d s=aa (b,j)->b=ab\/b=aa .ret:=by
 intro m;induction m with
 |zero=>intro d s b j h;simp[run]at h
 |succ m g=>
  intro d s b j h;unfold run at h;split at h
  all_goals first
   |exact g _ _ _ _ h
   |(simp at h;done)
   |skip
  .simp only[anc,aq8]at h;exact .inl h.1.symm
  .split at h
   .split at h
    .simp at h
    .split at h
     .exact g _ _ _ _ h
     .exact g _ _ _ _ h
     .exact g _ _ _ _ h
     .simp at h
   .simp at h
  .split at h
   .exact g _ _ _ _ h
   .simp at h
  .simp only[anc,aq8]at h;exact .inr h.1.symm
  .split at h
   .exact g _ _ _ _ h
   .simp at h
  .split at h
   .exact g _ _ _ _ h
   .simp at h
  .split at h
   .simp at h
   .split at h
    .exact g _ _ _ _ h
    .simp at h
  .split at h
   .simp at h
   .simp only at h;split at h
    .split at h
     .exact g _ _ _ _ h
     .simp at h
    .simp at h
theorem qt{fn:Func}{af:aG}(h:ur Q σ fn af=ae):∃c,fn.name≠ "runtime.NumGoroutine"/\fn.body=aa c/\bU Q σ fn.ntmps c af.body=ae/\
  fC (th Q fn.ntmps) fn.results.toList af.results=ae/\af.ps.map P.toNat=List.range af.ps.length:=by
 simp only[ur,aq3,bne_iff_ne,ne_eq,decide_eq_true_eq]at h;obtain⟨⟨⟨h1,h2⟩,h3⟩,h4⟩:=h;cases hb:fn.body with
 |none=>rw[hb]at h2;simp at h2| some c=>rw[hb]at h2;exact⟨c,h1,rfl,h2,h3,h4⟩
theorem vW{f:FuncId}{fn:Func}{c:Code}(hf:Q.funcs[f]?=aa fn)(hn:fn.name≠ "runtime.NumGoroutine")(hb:fn.body=aa c)(as:Array Value)(w:World):(callFunc f as).run Q w=.ok (.enter f as) w:=by
 simp[callFunc,hf,hn,hb]
def iC(g:FuncId)(d:CallKind)(tmps:Array Value)(ds:List Deferred)(b:Frame):Prop:=
 b.mode=.returning/\b.defers=ds/\b.kind=d/\b.fn=g/\b.tmps=tmps
theorem step_collected{d:Frame}{cs:List Frame}{w w':World}{b:Nat}{as:Array Value}{ds:List Deferred}(j:d.mode=.returning)(g:d.defers = { target:=.collected b,args:=as }::ds)
  (l:(Instr.takeDeferred b).run Q w=.ok [] w'):step Q (lone d cs w)=.next (lone { d with defers:=ds } cs w'):=
 step_lone_go (by simp[stepG,unwind,j,g,Sem.runT_eq,l])
theorem tt{b:Frame}{cs:List Frame}{w:World}{f:FuncId}{cap as as':Array Value}{ds:List Deferred}(g:b.mode=.returning)(d:b.defers = { target:=.fn (.func f) cap,args:=as }::ds)
  (j:(invoke (.fn (.func f) cap) as).run Q w=.ok (.enter f as') w):step Q (lone b cs w)=.next (lone (Frame.enter Q f as' .deferred) ({ b with defers:=ds }::cs) w):=
 step_lone_go (by simp[stepG,unwind,g,d,callDeferred,Sem.runT_eq,j])
theorem nF{b c:Frame}{cs:List Frame}{w:World}{v:Value}{f:FuncId}(h:Leaves Q f .deferred b v w)(hc:c.mode=.returning) :
  step Q (lone b (c::cs) w)=.next (lone c cs w):=by
 obtain⟨q,j,m,l,fn,d,g⟩:=h;rw[<-l]at d;exact step_lone_go (by simp[stepG,unwind,doReturn,q,j,m,d,Sem.runT_eq,g,hc])
theorem iC.pop{g:FuncId}{kind:CallKind}{tmps:Array Value}{d:Deferred}{ds:List Deferred}{fr:Frame}(h:iC g kind tmps (d::ds) fr):iC g kind tmps ds { fr with defers:=ds }:=
 ⟨h.1,rfl,h.2.2.1,h.2.2.2.1,h.2.2.2.2⟩
theorem vn(H:fo Q σ call){g:FuncId}{y:CallKind}{tmps:Array Value}{cs:List Frame}:∀(ds:List fL) (X:Wd) (l:List Deferred) (q:Frame) (H':aj),
  en call ds X.H=aa H'->SR Q σ X->X.B<=X.w.heap.size->fN σ X ds l->iC g y tmps l q->
  ∃fr' X',Steps Q (lone q cs X.w) (lone fr' cs X'.w)/\iC g y tmps [] fr'/\X'.H=H'/\SR Q σ X'/\X'.B<=X'.w.heap.size/\Ext X.H.length X X'
 |[],X,l,q,H',h,B,E,z,j=>by
  have:l=[]:=ark z.len.symm;subst this;simp only[en,anc]at h;exact⟨q,X,Steps.refl _ _,j,h,B,E,Ext.refl _ _⟩
 |d::ds,X,[],q,H',h,B,E,z,j=>by have:=z.len;simp at this
 | .gB b::ds,X,m::l,q,H',h,B,E,z,j=>by
  obtain⟨⟨L,o,h1,h2,rfl⟩,A⟩:=A2.of_cons z;simp only[en]at h;split at h
  .rename_i I;obtain⟨_,_,bY,F,K⟩:=B.br b L h1;rw[I]at F;cases F;have x:X.w.heap[L.c]?=aa (.deferred (aa [])):=K;obtain⟨g1,J⟩:=SR.pg (o':=.deferred ab) (blk':=.fj ag) B I h1 x (by simp) (by simp)
    (λbY v=>⟨.fj ag,by simp[(aq4.1 I).1],by rw[I]at v;cases v;exact λL h=>h⟩)
    (λX' b7 O _ a8 hH=>O)
   obtain⟨fr',X',S,U,W,Y,Z,k6⟩:=vn H ds _ l { q with defers:=l } H' h g1 (by simpa using E) (fN.ext' J A) j.pop;exact⟨fr',X',.head (step_collected j.1 j.2.1 (run_takeDeferred x)) S,U,W,Y,Z,J.trans (k6.mono J.len)⟩
  .simp at h
 | .fn f args::ds,X,m::l,q,H',h,B,E,z,j=>by
  obtain⟨⟨us,cap,rfl,hA⟩,A⟩:=A2.of_cons z;simp only[en]at h;split at h
  .simp at h
  rename_i N;split at h
  .rename_i r H1 s;have M:=H.enters f args _ _ s;obtain⟨a_,X1,u,q1,q2,q3,q4,q5,q6,q7⟩:=H.fn f args _ r H1 s X _ .deferred ({ q with defers:=l }::cs) rfl B E hA (.inr ⟨rfl,_,_,rfl,j.1⟩) (.inr N);rw[<-q3]at h;obtain⟨fr',X',S,U,W,Y,Z,k6⟩:=vn H ds X1 l { q with defers:=l } H' h q4 q7 (fN.ext' q6 A) j.pop;refine⟨fr',X',.head (tt (as':=us++cap) j.1 j.2.1 (eY M)) (Steps.trans ?_ (.head (nF (c:={ q with defers:=l }) q2 j.1) S)),U,W,Y,Z,q6.trans (k6.mono q6.len)⟩;have e:(us.toList++cap.toList).toArray=us++cap:=by apply Array.ext';simp
   rw[e]at q1;exact q1
  .simp at h
theorem ald(E:SR Q σ X){n:Nat}{aF:T}{tmps:Array Value}(m:RR σ X aF tmps){r:ResultVar}{a:gl}(g:th Q n r a=ae){v:V}
  (h:bQ aF X.H a=aa v):∃u,(match r with| .tmp t=>pure (tmps.getD t undef)| .cell a t=>do loadVar t (<-asAddr (tmps.getD a undef)):Sem Value).run Q X.w=.ok u X.w/\ib σ X v u:=by
 cases r with
 |tmp t=>
  cases a with
  |tmp p=>
   simp only[th,aq3,beq_iff_eq,decide_eq_true_eq]at g;have d:=m p;rw[g.1]at d;simp only[bQ]at h;refine⟨_,rfl,?_⟩;split at h
   .simp at h
   .rename_i j;simp only[anc]at h;rw[h]at d;cases v with
    |t H=>exact absurd h (j H)| top=>trivial| c x=>exact d| a xs=>exact d
  |cell p k=>simp[th]at g
 |cell t I=>
  cases a with
  |tmp p=>simp[th]at g
  |cell p k=>
   simp only[th,aq3,beq_iff_eq,decide_eq_true_eq]at g;have d:=m p;rw[g.1.1]at d;simp only[bQ]at h;cases q:aF.get p with
   |c x=>
    rw[q]at h d;simp only[bF,arH]at h;obtain⟨cs,s,b⟩:=h;obtain⟨c,o,us,F,z,A⟩:=ry E d s;obtain⟨u,B,l⟩:=yP g.2 z A b;refine⟨u,by simp[F,asAddr,B],?_⟩;cases k with
    |none=>cases cs with
     |nil=>simp[bf]at b| cons y ys=>simp only[bf,anc]at b;subst b;exact l
    |some k=>
     simp only[bf]at b;split at b
     .simp only[anc]at b;subst b;exact l
     .simp at b
   |_=>rw[q]at h;simp[bF]at h
theorem Au(K:SR Q σ X){fn:Func}{m:List gl}(L:fC (th Q fn.ntmps) fn.results.toList m=ae){aF:T}{tmps:Array Value}(J:RR σ X aF tmps){v:V}
  (h:Km.results aF X.H m=aa v):∃u,(Go.results fn tmps).run Q X.w=.ok u X.w/\VR σ X v u:=by
 have key:∀(m:List gl) (qs:List ResultVar) (j:List V),fC (th Q fn.ntmps) qs m=ae->aX (bQ aF X.H) m=aa j->
   ∃us:List Value,(qs.mapM (λr=>match r with| .tmp t=>pure (tmps.getD t undef)| .cell a t=>do loadVar t (<-asAddr (tmps.getD a undef)):ResultVar->Sem Value)).run Q X.w=.ok us X.w/\A2 (ib σ X) j us:=by
  intro m;induction m with
  |nil=>
   intro qs j x l;cases qs with
   |nil=>simp only[aX,anc]at l;subst l;exact⟨[],rfl,A2.nil⟩| cons q qs=>simp[fC]at x
  |cons a m M=>
   intro qs j x l;cases qs with
   |nil=>simp[fC]at x
   |cons q qs=>
    simp only[fC,aq3]at x;simp only[aX]at l;split at l
    .simp at l
    .rename_i A E;split at l
     .simp at l
     .rename_i B F;simp only[anc]at l;subst l;obtain⟨u,s,b⟩:=ald K J x.1 E;obtain⟨us,H,I⟩:=M qs B x.2 F;refine⟨u::us,?_,A2.cons b I⟩;rw[List.mapM_cons,Sem.run_bind,s];simp only[Result.andThen_ok,Sem.run_bind,H,Sem.run_pure]
 unfold Km.results at h;have y:∀j,aX (bQ aF X.H) m=aa j->∃us:List Value,(Go.results fn tmps).run Q X.w=.ok (if h:us.toArray.size=1 then us.toArray[0]else .tuple us.toArray) X.w/\A2 (ib σ X) j us:=by
  intro j g;obtain⟨us,s,b⟩:=key m fn.results.toList j L g;refine⟨us,?_,b⟩;unfold Go.results;rw[Array.mapM_eq_mapM_toList,Sem.run_bind,Sem.run_map];exact(congrArg (λr:Result (List Value)=>(r.andThen λa w'=>Result.ok a.toArray w').andThen λa w'=>Sem.run Q (pure (if h:a.size=1 then a[0]else Value.tuple a)) w') s).trans rfl
 split at h
 .rename_i A g;simp only[anc]at h;subst h;obtain⟨us,s,b⟩:=y _ g
  match us,b with
  |[u],b=>exact⟨u,s,VR.of1 σ b.of_cons.1⟩| [],b=>have:=b.len;simp at this| _::_::_,b=>have:=b.len;simp at this
 .rename_i j z g;simp only[anc]at h;subst h;obtain⟨us,s,b⟩:=y _ g;refine⟨.tuple us.toArray,?_,us,rfl,b⟩;rw[s,dif_neg];intro d
  match us,d with
  |[u],_=>
   match j,b with
   |[A],_=>exact z A rfl| [],b=>have:=b.len;simp at this| _::_::_,b=>have:=b.len;simp at this
  |[],d=>simp at d| _::_::_,d=>simp at d
 .simp at h
end
section
open Go
variable{Q:Program}{σ:Nat->FuncId}{tab:Nat->Option aG}{nE:Nat->List V->aj->Option (Option (V × aj))}
theorem anK(t:Env Q σ tab nE){m:Nat}{call:dw}(o:fo Q σ call){f:Nat}{j:aG}(K:tab f=aa j){args:List V}(H:args.length=j.ps.length){y:Option ax}{B:St}{X:Wd}
  (x:run call f m ab [.code j.body] ⟨cD j.ps args .e,[],X.H⟩=aa (y,B)) {H':aj} (l:en call B.defs B.heap=aa H') {r:V} (v:Km.results B.aF H' j.results=aa r)
  {us:List Value} {d:CallKind} {cs:List Frame} (hS:SR Q σ X) (hB:X.B<=X.w.heap.size) (n:A2 (VR σ X) args us) (hk:nW d cs) :
  ∃a X' u,Steps Q (lone (Frame.enter Q (σ f) us.toArray d) cs X.w) (lone a cs X'.w)/\Leaves Q (σ f) d a u X'.w/\fO Q σ X r H' X' u:=by
 obtain⟨fn,w,hm⟩:=t.fn f j K;obtain⟨c,O,z,A,U,S⟩:=qt hm
 let b:Frame:=Frame.enter Q (σ f) us.toArray d
 let q:Act:={ tmps:=us.toArray++Array.replicate (fn.ntmps-us.toArray.size) undef,defers:=[] }
 have hb:b=b.atR q [.code c]:=by
  simp[b,q,Frame.enter,Frame.atR,w,z]
 have W:fn.ntmps<=q.tmps.size:=by simp[q];omega
 have N:RR σ X (cD j.ps args .e) q.tmps:=by
  intro p;rw[oe j.ps args .e 0 (by rw[S,List.range_eq_range']) H p];simp only[ast,if_true,Nat.sub_zero];by_cases hp:p.toNat<args.length
  .have hx:=aq2 hp;have I:p.toNat<us.length:=n.len▸hp;have hy:=aq2 I;have hv:=n.2 _ _ _ hx hy;rw[hx];have:q.tmps.getD p.toNat undef=us[p.toNat]:=by
    simp[q,Array.getD_eq_getD_getElem?,Array.getElem?_append,I]
   rw[this];exact hv
  .rw[List.getElem?_eq_none (by omega)];cases p<;>trivial
 have hF:Fr Q σ fn.ntmps X ⟨cD j.ps args .e,[],X.H⟩ q:=⟨rfl,hS,hB,N,A2.nil,W⟩
 have hW:Way Q σ f fn.ntmps b cs ab [.code j.body] [.code c] ⟨cD j.ps args .e,[],X.H⟩ X q:=⟨hF,A2.cons (.code A) A2.nil,trivial,hk,rfl⟩
 obtain⟨L,a1,g,s1,E,Y,_,Z⟩:=Z4 o t.mix f m fn.ntmps b cs ab _ _ _ X q y B x hW;have J:∃s,Steps Q (lone (b.atR a1 g) cs L.w) (lone s cs L.w)/\iC (σ f) d a1.tmps a1.defers s:=by
  rcases Z3 f m _ _ _ _ x with rfl|rfl
  .have:g=[]:=Z;subst this;exact⟨_,.one (stepR_end rfl),rfl,rfl,rfl,rfl,rfl⟩
  .obtain⟨k,rfl⟩:=Z;exact⟨_,.one (stepR_ret rfl),rfl,rfl,rfl,rfl,rfl⟩
 obtain⟨s,s2,R1⟩:=J;rw[<-E.heap]at l;obtain⟨M,X2,s3,F,e,h,h3,i⟩:=vn o (cs:=cs) B.defs L a1.defers s H' l E.sr E.b E.defs R1;rw[<-e]at v;obtain⟨u,g1,g2⟩:=Au h U (RR.ext' σ i E.aF) v;refine⟨M,X2,u,?_,⟨F.1,F.2.1,F.2.2.1,F.2.2.2.1,fn,w,by rw[F.2.2.2.2];exact g1⟩,e,h,g2,Y.trans (i.mono Y.len),h3⟩;show Steps Q (lone b cs X.w) _;rw[hb];exact s1.trans (s2.trans s3)
theorem aau(hE:Env Q σ tab nE){m:Nat}{call:dw}(hC:fo Q σ call){b:Nat}{f:Nat}{tmps:T}{ps:List P}{as bd:ax}{q:dt}{pd:Option ax}{d:Nat}{X:Wd}(W:X.H[b]?=aa (.lp f tmps ps as bd q pd d))
  {args:List V} (U:args.length=ps.length) {g:Option ax} {K:St} (Z:run call f m (aa b) [.code as,.nC,.code bd] ⟨cD ps args tmps,[],X.H⟩=aa (g,K)) (c6:K.defs.isEmpty=ae)
  {f':Nat} {v:T} {J:List P} {as' H:ax} {q':dt} {pd':Option ax} {d':Nat} (y:K.heap[b]?=aa (.lp f' v J as' H q' pd' d'))
  {us:List Value} {c:Frame} {cs:List Frame} {L:Loc} (hS:SR Q σ X) (hB:X.B<=X.w.heap.size) (hA:A2 (VR σ X) args us) (hL:X.cE b=aa L) :
  ∃f tmps as bd X' u,(Instr.yield L.c us.toArray).run Q X.w=.ok (.round L.c f tmps as bd) X.w/\
   Steps Q (lone (Frame.round L.c f tmps as bd .normal) (c::cs) X.w) (lone (c.finish u) cs X'.w)/\fO Q σ X (.bool g.isNone) (K.heap.set b (.lp f' v J as' H (if g.isNone then .ready else .done) g d')) X' u:=by
 obtain⟨n,ts,qs,z,A,d5,Ld,Y,h2,h3,h4,h5,h6,h7,h8,h9⟩:=oN hS hL W;have hq:=(eM h4).len;have c_:us.toArray.size=qs.size:=by
  have:=hA.len;simp only[Array.length_toList]at hq;simp;omega
 have hy:=run_yield (P:=Q) (args:=us.toArray) Y c_
 let F:Array Value:=(qs.zip us.toArray).foldl (λtmps (t,a)=>tmps.setIfInBounds t a) ts
 have S:F=(qs.toList.zip us).foldl (λtmps (t,a)=>tmps.setIfInBounds t a) ts:=by
  simp only[F];rw[<-Array.foldl_toList];simp
 let N:Act:={ tmps:=F,defers:=[] }
 let B:Frame:=Frame.round L.c (σ f) F z A .normal
 have b_:B=B.atR N [.code z,.beginRound,.code A]:=by simp[B,N,Frame.round,Frame.atR]
 have c5:RR σ X (cD ps args tmps) F:=by
  rw[S];exact RR.cD ps qs.toList args us tmps ts n h2 h3 hA U h4
 have hn:n<=F.size:=by rw[S,qx];exact h2
 have hF:Fr Q σ n X ⟨cD ps args tmps,[],X.H⟩ N:=⟨rfl,hS,hB,c5,A2.nil,hn⟩
 have E:zQ X b:=⟨_,_,_,_,_,_,_,_,W⟩
 have hW:Way Q σ f n B (c::cs) (aa b) [.code as,.nC,.code bd] [.code z,.beginRound,.code A] ⟨cD ps args tmps,[],X.H⟩ X N:=
  ⟨hF,A2.cons (.code h5) (A2.cons .nC (A2.cons (.code h6) A2.nil)),⟨L,hL,rfl,E⟩,.inl rfl,rfl⟩
 obtain⟨X1,a1,x,s1,M,E1,_,J1⟩:=Z4 hC hE.mix f m n B (c::cs) (aa b) _ _ _ X N g K Z hW;have O:=(E.ext E1).2 _ hL;rw[<-M.heap]at y;obtain⟨n1,d7,d6,a_,b7,pend1,a8,s,k2,k3,k4,k5,k6,k7,k8,k9⟩:=oN M.sr O y;have I:∀(l:Option Code),uu Q σ n1 g l->l.isNone=g.isNone->step Q (lone (B.atR a1 x) (c::cs) X1.w)=.next (lone (c.finish (.bool l.isNone)) cs (X1.w.putObj L.c (.loop { state:=if l.isNone then .ready else .done,pending:=l,fn:=σ f',tmps:=d7,params:=d6,assign:=a_,body:=b7,defers:=a8.c })))->
   ∃f tmps as bd X' u,(Instr.yield L.c us.toArray).run Q X.w=.ok (.round L.c f tmps as bd) X.w/\
   Steps Q (lone (Frame.round L.c f tmps as bd .normal) (c::cs) X.w) (lone (c.finish u) cs X'.w)/\fO Q σ X (.bool g.isNone) (K.heap.set b (.lp f' v J as' H (if g.isNone then .ready else .done) g d')) X' u:=by
  intro l hj hn c9;obtain⟨g1,g2⟩:=wc M.sr O y (q':=if g.isNone then .ready else .done) (pend1:=g) (pend':=l) k2 k3 k4 k5 k6 hj k8 k9;have hq:(if g.isNone then dt.ready else dt.done).of=(if l.isNone then LoopState.ready else LoopState.done):=by
   rw[hn];cases g<;>rfl
  rw[hq]at g1 g2;refine⟨σ f,F,z,A,_,.bool l.isNone,hy,?_,?_,g1,?_,E1.trans (g2.mono E1.len),?_⟩
  .show Steps Q (lone B (c::cs) X.w) _;rw[b_];exact s1.trans (.one c9)
  .rw[<-M.heap]
  .rw[hn];exact VR.rO _
  .have:=M.b;simpa[World.putObj]using this
 cases g with
 |none=>
  have:x=[]:=J1;subst this;exact I ab trivial rfl (stepR_round_end rfl rfl (run_endRound (P:=Q) ab s))
 |some j=>
  cases j with
  |ret=>
   obtain⟨k,rfl⟩:=J1;exact I (aa .ret) (by simp[uu,bU]) rfl (stepR_round_ret rfl rfl (run_endRound (P:=Q) (aa .ret) s))
  |exit id=>
   obtain⟨k,rfl,hx⟩:=J1;exact I (aa (.exit id)) (by simp[uu,bU]) rfl (stepR_round_exit rfl rfl hx (run_endRound (P:=Q) (aa (.exit id)) s))
  |_=>exact J1.elim
theorem Yx(x:Env Q σ tab nE)(m:Nat):∀d,fo Q σ (eK tab nE m d):=by
 intro d;induction d with
 |zero=>exact⟨λf args H r h=>by simp[eK]at h,λf args H r H' h=>by simp[eK]at h,λb args H r H' h=>by simp[eK]at h⟩
 |succ d U=>
  refine⟨λf args H r h=>?_,λf args H r H' h X us B cs J I F E W K=>?_,λb args H r H' h X us c cs L J I F E hL=>?_⟩
  .simp only[eK]at h;split at h
   .rename_i r' N;obtain⟨r0,H0⟩:=r;exact(x.nE f args H r0 H0 (by rw[N,h])).1
   .split at h
    .simp at h
    .rename_i S l;obtain⟨fn,hf,hm⟩:=x.fn f S l;obtain⟨c,v,s,_⟩:=qt hm;exact vW hf v s
  .simp only[eK]at h;split at h
   .rename_i r' N;exact(x.nE f args H r H' (by rw[N,h])).2 X us B cs J I F E W K
   .split at h
    .simp at h
    .rename_i S l;split at h
     .rename_i g;split at h
      .rename_i A s' j;split at h
       .rename_i H1 u;simp only[aq5,aq8]at h;obtain⟨r1,z,rfl,rfl⟩:=h;subst J;exact anK x U l g j u z I F E W
       .simp at h
      .simp at h
     .simp at h
  .simp only[eK]at h;split at h
   .rename_i f tmps ps as bd q pd d' M;split at h
    .rename_i g;split at h
     .rename_i A s' j;split at h
      .rename_i hd;split at h
       .rename_i f' O a8 as' Y q' pd' Z y;simp only[anc,aq8]at h;obtain⟨rfl,rfl⟩:=h;subst J;exact aau x U M g j hd y I F E hL
       .simp at h
      .simp at h
     .simp at h
    .simp at h
   .simp at h
end
section
set_option linter.unusedVariables false
open Go
def wi(f:Nat)(args:List V)(H:aj):Option (Option (V × aj)):=ab
end
section
open Go
def vc(c1 c2:dw):Prop:=∀c args H r,c1 c args H=aa r->c2 c args H=aa r
section
variable{c1 c2:dw}(hc:vc c1 c2)
include hc
theorem tn{c:Nat}{args:List V}{H:aj}{r:V × aj}(h:eU c1 c args H=aa r):eU c2 c args H=aa r:=by
 unfold eU at h ⊢;split at h
 .simp at h
 .rename_i g d;split at h
  .simp at h
  .rename_i j H0 b;simp only[hc _ _ _ _ b];exact h
theorem vJ{b:Bool}{c:Nat}{args:List V}{H:aj}{r:V × aj}(h:gv c1 b c args H=aa r):gv c2 b c args H=aa r:=by
 unfold gv at h ⊢;split at h
 .rename_i d;simp only[d,if_true];exact hc _ _ _ _ h
 .rename_i d;simp only[d];exact tn hc h
theorem uX{s:St}{op:dn}{r:V × St}(h:eH c1 s op=aa r):eH c2 s op=aa r:=by
 cases op with
 |call f args b=>
  simp only[eH,aq5]at h ⊢;obtain⟨a,d,rfl⟩:=h;exact⟨a,vJ hc d,rfl⟩
 |bZ x args b=>
  simp only[eH]at h ⊢;split at h
  .simp only[aq5]at h ⊢;obtain⟨a,d,rfl⟩:=h;exact⟨a,hc _ _ _ _ d,rfl⟩
  .simp at h
 |_=>exact h
theorem sR{s j:St}{o:aN}(h:fh c1 s o=aa j):fh c2 s o=aa j:=by
 unfold fh at h ⊢;cases g:wanted s.aF o.g with
 |none=>simp[g]at h
 |some b=>
  cases b with
  |false=>simpa[g]using h
  |true=>
   simp only[g]at h ⊢;cases d:eH c1 s o.op with
   |none=>simp[d]at h
   |some x=>
    obtain⟨v,l⟩:=x;rw[uX hc d];rw[d]at h;exact h
theorem dP:∀(os:List aN) (s:St) {b:St},fz c1 os s=aa b->fz c2 os s=aa b
 |[],s,b,h=>h
 |o::os,s,b,h=>by
  simp only[fz]at h ⊢;split at h
  .rename_i g d;simp only[sR hc d];exact dP os g h
  .simp at h
theorem pj:∀(os:List aN) (s:St) {ss:List St},eA c1 os s=aa ss->eA c2 os s=aa ss
 |[],s,ss,h=>h
 |o::os,s,ss,h=>by
  simp only[eA]at h ⊢;split at h
  .rename_i g b;simp only[sR hc b];split at h
   .rename_i j d;simp only[pj os g d];exact h
   .simp at h
  .simp at h
theorem wg{ops:List aN}{iD:List (Nat × Nat)}{s d:St}(h:gA c1 ops iD s=aa d):gA c2 ops iD s=aa d:=by
 unfold gA at h ⊢;split at h
 .exact dP hc _ _ h
 .split at h
  .rename_i ss b;simp only[pj hc _ _ b];exact h
  .simp at h
theorem pc{fn:Nat}:∀(n x:Nat) (ro:Option Nat) (j:List cO) (s:St) {r:Option ax × St},n<=x->
  run c1 fn n ro j s=aa r->run c2 fn x ro j s=aa r
 |0,_,_,_,_,_,_,h=>by simp[run]at h
 |n+1,0,_,_,_,_,E,_=>by omega
 |n+1,x+1,ro,j,s,r,E,h=>by
  have m:=λro j s r h=>pc (fn:=fn) n x ro j s (r:=r) (by omega) h
  match j,h with
  |[],h=>exact h| .inBlock _::k,h=>exact m _ _ _ _ h| .inLoop c::k,h=>exact m _ _ _ _ h
  | .iZ b::k,h=>
   simp only[run]at h ⊢;split at h
   .rename_i f tmps ps as bd st pending d z
    try simp only[z]
    split at h
    .simp at h
    .rename_i A
     try simp only[A,if_false]
     split at h
     .exact m _ _ _ _ h
     .exact m _ _ _ _ h
     .exact m _ _ _ _ h
     .simp at h
   .simp at h
  | .nC::k,h=>
   simp only[run]at h ⊢;split at h
   .simp at h
   .rename_i b;split at h
    .rename_i z
     try simp only[z]
     exact m _ _ _ _ h
    .simp at h
  | .code .skip::k,h=>exact m _ _ _ _ h| .inScope _::k,h=>exact m _ _ _ _ h| .code (.label _)::k,h=>exact m _ _ _ _ h| .code (.scope a)::k,h=>exact m _ _ _ _ h
  | .code (.goto l)::k,h=>
   simp only[run]at h ⊢;split at h
   .rename_i u;(try simp only[u]);exact m _ _ _ _ h
   .simp at h
  | .code .bad::_,h=>simp[run]at h| .code .ret::_,h=>exact h
  | .code (.exit id)::k,h=>
   simp only[run]at h ⊢;split at h
   .rename_i u;(try simp only[u]);exact m _ _ _ _ h
   .rename_i u;(try simp only[u]);exact h
  | .code (.seq a b)::k,h=>exact m _ _ _ _ h| .code (.block id a)::k,h=>exact m _ _ _ _ h| .code (.loop a)::k,h=>exact m _ _ _ _ h
  | .code (.cond c a b)::k,h=>
   simp only[run]at h ⊢;split at h
   .rename_i v F;(try simp only[F]);exact m _ _ _ _ h
   .simp at h
  | .code (.region ops iD)::k,h=>
   simp only[run]at h ⊢;split at h
   .simp at h
   .rename_i q
    try simp only[q]
    split at h
    .rename_i I y
     try simp only[wg hc y]
     exact m _ _ _ _ h
    .simp at h
  | .code (.fK f ps as bd)::k,h=>
   simp only[run]at h ⊢;split at h
   .simp at h
   .rename_i q
    try simp only[q]
    split at h
    .rename_i g args B
     try simp only[B]
     split at h
     .rename_i v H y
      try simp only[hc _ _ _ _ y]
      exact m _ _ _ _ h
     .simp at h
    .simp at h
theorem iu:∀(ds:List fL) (H:aj) {H':aj},en c1 ds H=aa H'->en c2 ds H=aa H'
 |[],H,H',h=>h
 | .gB b::ds,H,H',h=>by
  simp only[en]at h ⊢;split at h
  .rename_i l;exact iu ds _ h
  .simp at h
 | .fn f args::ds,H,H',h=>by
  simp only[en]at h ⊢;split at h
  .simp at h
  rename_i d;rw[aR d];split at h
  .rename_i v j g
   try simp only[hc _ _ _ _ g]
   exact iu ds _ h
  .simp at h
end
variable{tab:Nat->Option aG}{nE:Nat->List V->aj->Option (Option (V × aj))}
theorem rv{m g:Nat}(u:m<=g):∀(d d':Nat),d<=d'->vc (eK tab nE m d) (eK tab nE g d')
 |0,_,_,_,_,_,_,h=>by simp[eK]at h
 |d+1,0,B,_,_,_,_,_=>by omega
 |d+1,d'+1,B,c,args,H,r,h=>by
  have y:vc (eK tab nE m d) (eK tab nE g d'):=rv u d d' (by omega)
  match c,h with
  | .fn f,h=>
   simp only[eK]at h ⊢;split at h
   .rename_i r' v;(try simp only[v]);exact h
   .rename_i v
    try simp only[v]
    split at h
    .simp at h
    .rename_i F l
     try simp only[l]
     split at h
     .rename_i q
      try simp only[q,if_true]
      split at h
      .rename_i j s x
       try simp only[pc y m g _ _ _ u x]
       split at h
       .rename_i E z
        try simp only[iu y _ _ z]
        exact h
       .simp at h
      .simp at h
     .simp at h
  | .yield b,h=>
   simp only[eK]at h ⊢;split at h
   .rename_i f tmps ps as bd I J K A
    try simp only[A]
    split at h
    .rename_i q
     try simp only[q,if_true]
     split at h
     .rename_i j s x
      try simp only[pc y m g _ _ _ u x]
      exact h
     .simp at h
    .simp at h
   .simp at h
end
section
open Go
structure TB where
 get:Nat->Option aG
 wi:Nat->List V->aj->Option (Option (V × aj))
 ok:∀f a,get f=aa a->∀args H,wi f args H=ab
instance:CoeFun TB λ_=>Nat->Option aG:=⟨TB.get⟩
section
variable(tab:TB)
abbrev CF(m d:Nat):dw:=eK tab.get tab.wi m d
def Ev(c:Callee)(args:List V)(H:aj)(r:V)(H':aj):Prop:=∃m d,CF tab m d c args H=aa (r,H')
def bH(f:Nat)(args:List V)(r:V):Prop:=∃b H',Ev tab (.fn f) args [] b H'/\jy deep H' b=aa r
def WP(fn:Nat)(ro:Option Nat)(b:List cO)(s:St)(Q:Option ax->St->Prop):Prop:=
 ∃n m d j g,run (CF tab m d) fn n ro b s=aa (j,g)/\Q j g
def gP(s:St)(op:dn)(K:V->St->Prop):Prop:=
 match op with
 | .call f args h=>
  if h then ∃r H',Ev tab (.fn f) (dx s.aF args) s.heap r H'/\K r { s with heap:=H' }
  else ∃b r,aX (de deep s.heap) (dx s.aF args)=aa b/\bH tab f b r/\K r { s with heap:=(dx s.aF args).foldl (mkV deep) s.heap }
 | .bZ x args _=>∃c as r H',bX (x.ev s.aF) (dx s.aF args)=aa (c,as)/\Ev tab c as s.heap r H'/\K r { s with heap:=H' }
 | .recover=>K (.c (.f .nT)) s| .defer x args=>∃f as,bX (x.ev s.aF) (dx s.aF args)=aa (.fn f,as)/\K .top { s with defs:=.fn f as::s.defs }
 |op=>∃v H',bG s.aF s.heap op=aa (v,H')/\K v { s with heap:=H' }
def px:List aN->St->(St->Prop)->Prop
 |[],s,K=>K s
 |o::os,s,K=>match wanted s.aF o.g with
  |some ae=>gP tab s o.op λv b=>px os { b with aF:=gV b.aF o.dst v } K
  |some ag=>px os { s with aF:=gV s.aF o.dst (.t []) } K
  |none=>False
variable{tab}
variable{c:Callee}{args:List V}{H H':aj}{r:V}
theorem iY{m b d d':Nat}(j:m<=b)(g:d<=d'):vc (CF tab m d) (CF tab b d'):=rv j d d' g
theorem Ev.det{l:V}{b:aj}(h1:Ev tab c args H r H')(h2:Ev tab c args H l b):r=l/\H'=b:=by
 obtain⟨m,d,h1⟩:=h1;obtain⟨j,d',h2⟩:=h2;have q:=iY (tab:=tab) (arV m j) (arV d d') _ _ _ _ h1;have g:=iY (tab:=tab) (arK m j) (arK d d') _ _ _ _ h2;rw[q]at g;simpa using g
theorem bH.det{f:Nat}{d:V}(h1:bH tab f args r)(h2:bH tab f args d):r=d:=by
 obtain⟨a,j,g,h1⟩:=h1;obtain⟨b,l,hb,h2⟩:=h2;obtain⟨rfl,rfl⟩:=g.det hb;rw[h1]at h2;simpa using h2
theorem JW{s:St}{op:dn}{K:V->St->Prop}(h:gP tab s op K):∃m d v u,eH (CF tab m d) s op=aa (v,u)/\K v u:=by
 cases op with
 |call f args b=>
  simp only[gP]at h;split at h
  .rename_i q;obtain⟨r,H',⟨m,d,g⟩,l⟩:=h;exact⟨m,d,r,_,by simp[eH,gv,q,g],l⟩
  .rename_i q;obtain⟨z,r,j,⟨A,H0,⟨m,d,g⟩,l⟩,y⟩:=h;exact⟨m,d,r,_,by simp[eH,gv,q,eU,j,g,l],y⟩
 |bZ x args b=>
  obtain⟨c,as,r,H',j,⟨m,d,g⟩,l⟩:=h;exact⟨m,d,r,_,by simp[eH,j,g],l⟩
 |recover=>exact⟨0,0,_,_,rfl,h⟩
 | «defer» x args=>
  obtain⟨f,as,j,g⟩:=h;exact⟨0,0,.top,_,by simp[eH,j],g⟩
 |_=>
  obtain⟨v,H',j,g⟩:=h;exact⟨0,0,v,_,by simp[eH,j],g⟩
theorem iB:∀(os:List aN) (s:St) {K:St->Prop},px tab os s K->∃m d b,fz (CF tab m d) os s=aa b/\K b
 |[],s,K,h=>⟨0,0,s,rfl,h⟩
 |o::os,s,K,h=>by
  simp only[px]at h;split at h
  .rename_i q;obtain⟨m,d,v,A,y,z⟩:=JW h;obtain⟨g,d',b,j,l⟩:=iB os _ z;refine⟨max m g,max d d',b,?_,l⟩;have u:=uX (iY (tab:=tab) (arV m g) (arV d d')) y;have x:=dP (iY (tab:=tab) (arK m g) (arK d d')) os _ j;simp only[fz,fh,q,u,x]
  .rename_i q;obtain⟨g,d',b,j,l⟩:=iB os _ h;exact⟨g,d',b,by simp only[fz,fh,q,j],l⟩
  .exact h.elim
variable{fn:Nat}{ro:Option Nat}{k:List cO}{s:St}{Q:Option ax->St->Prop}{a b:ax}
theorem gT{b:List cO}{todo':List cO}{g:St}(h:WP tab fn ro todo' g Q)
  (u:∀m d n,run (CF tab m d) fn (n+1) ro b s=run (CF tab m d) fn n ro todo' g):WP tab fn ro b s Q:=by
 obtain⟨n,m,d,j,v,l,q⟩:=h;exact⟨n+1,m,d,j,v,by rw[u,l],q⟩
theorem cW(h:Q ab s):WP tab fn ro [] s Q:=⟨1,0,0,ab,s,rfl,h⟩
theorem ay{i:Nat}(h:WP tab fn ro k s Q):WP tab fn ro (.inBlock i::k) s Q:=gT h λ_ _ _=>rfl
theorem nP(h:WP tab fn ro k s Q):WP tab fn ro (.inScope a::k) s Q:=gT h λ_ _ _=>rfl
theorem eX(h:WP tab fn ro (.code a::.inLoop a::k) s Q):WP tab fn ro (.inLoop a::k) s Q:=gT h λ_ _ _=>rfl
theorem aJ(h:WP tab fn ro k s Q):WP tab fn ro (.code .skip::k) s Q:=gT h λ_ _ _=>rfl
theorem mo{l:Nat}(h:WP tab fn ro k s Q):WP tab fn ro (.code (.label l)::k) s Q:=gT h λ_ _ _=>rfl
theorem iM(h:WP tab fn ro (.code a::.inScope a::k) s Q):WP tab fn ro (.code (.scope a)::k) s Q:=gT h λ_ _ _=>rfl
theorem an(h:WP tab fn ro (.code a::.code b::k) s Q):WP tab fn ro (.code (.seq a b)::k) s Q:=gT h λ_ _ _=>rfl
theorem az{i:Nat}(h:WP tab fn ro (.code a::.inBlock i::k) s Q):WP tab fn ro (.code (.block i a)::k) s Q:=gT h λ_ _ _=>rfl
theorem aB(h:Q (aa .ret) s):WP tab fn ro (.code .ret::k) s Q:=⟨1,0,0,aa .ret,s,rfl,h⟩
theorem aS{i:Nat}{k':List cO}(b:exitTo i k=aa k')(h:WP tab fn ro k' s Q):WP tab fn ro (.code (.exit i)::k) s Q:=
 gT h λ_ _ _=>by simp only[run,b]
theorem jd{i b:Nat}(d:exitTo i k=ab)(h:Q (aa (.exit i)) s):WP tab fn (aa b) (.code (.exit i)::k) s Q:=
 ⟨1,0,0,aa (.exit i),s,by simp[run,d],h⟩
theorem afD{l:Nat}{k':List cO}(b:gotoIn l k=aa k')(h:WP tab fn ro k' s Q):WP tab fn ro (.code (.goto l)::k) s Q:=
 gT h λ_ _ _=>by simp only[run,b]
theorem qK{c:Arg}{v:Bool}(hc:c.ev s.aF=.c (.f (.bool v)))(h:WP tab fn ro (.code (if v then a else b)::k) s Q) :
  WP tab fn ro (.code (.cond c a b)::k) s Q:=gT h λ_ _ _=>by simp only[run,hc]
theorem au{c:Arg}(hc:c.ev s.aF=.c (.f (.bool ae)))(h:WP tab fn ro (.code a::k) s Q) :
  WP tab fn ro (.code (.cond c a b)::k) s Q:=qK hc h
theorem aA{c:Arg}(hc:c.ev s.aF=.c (.f (.bool ag)))(h:WP tab fn ro (.code b::k) s Q) :
  WP tab fn ro (.code (.cond c a b)::k) s Q:=qK hc h
theorem sG{m j d d' n g:Nat}{b:List cO}{x:Option ax × St}(q:m<=j)(l:d<=d')(u:n<=g)
  (h:run (CF tab m d) fn n ro b s=aa x):run (CF tab j d') fn g ro b s=aa x:=
 pc (iY q l) n g ro b s u h
theorem aq{ops:List aN}(b:ro=ab\/ops.all (·.op.fH)=ae)(h:px tab ops s λq=>WP tab fn ro k q Q) :
  WP tab fn ro (.code (.region ops [])::k) s Q:=by
 obtain⟨m,d,q,x,n,l,d',j,A,y,z⟩:=iB ops s h;refine⟨n+1,max m l,max d d',j,A,?_,z⟩;have u:=dP (iY (tab:=tab) (arV m l) (arV d d')) ops _ x;have v:=sG (arK m l) (arK d d') (aq9 n) y;have g:(ro.isSome&&!ops.all (·.op.fH))=ag:=by
  rcases b with rfl|b
  .rfl
  .rw[b];simp
 simp only[run,g,gA,u,v];simp
theorem bT(I:Nat->St->Prop)(n:Nat)(j:I n s)
  (step:∀n s,I n s->(∀b d,b<n->I b d->WP tab fn ro (.inLoop a::k) d Q)->WP tab fn ro (.code a::.inLoop a::k) s Q) :
  WP tab fn ro (.code (.loop a)::k) s Q:=by
 have key:∀n s,I n s->WP tab fn ro (.code a::.inLoop a::k) s Q:=by
  intro n;induction n using Nat.strongRecOn with
  |_ n q=>
   intro s m;exact step n s m λb d l g=>eX (q b l d g)
 exact gT (key n s j) λ_ _ _=>rfl
def Fin(tab:TB)(g:aG)(r:V)(H':aj)(s:St):Prop:=
 ∃m d b,en (CF tab m d) s.defs s.heap=aa b/\results s.aF b g.results=aa r/\b=H'
theorem oE{f:Nat}{b:aG}(z:tab f=aa b)(J:args.length=b.ps.length)
  (h:WP tab f ab [.code b.body] ⟨cD b.ps args .e,[],H⟩ λ_ s=>Fin tab b r H' s):Ev tab (.fn f) args H r H':=by
 obtain⟨n,m,d,j,s,B,A,d',L,F,I,rfl⟩:=h;obtain⟨M,q,u,v⟩:∃M,m<=M/\A<=M/\n<=M:=⟨max (max m A) n,by omega,by omega,by omega⟩
 obtain⟨E,g,l⟩:∃E,d<=E/\d'<=E:=⟨max d d',by omega,by omega⟩
 refine⟨M,E+1,?_⟩;have x:run (CF tab M E) f M ab [.code b.body] ⟨cD b.ps args .e,[],H⟩=aa (j,s):=sG q g v B;have y:=iu (iY (tab:=tab) u l) _ _ F;have K:=tab.ok _ _ z args H;simp only[CF]at x y ⊢;simp only[eK,K,z,J,if_true,x,y,I,arN]
def nB(b:List gl)(r:V)(s:St):Prop:=s.defs=[]/\∃d,results s.aF s.heap b=aa d/\jy deep s.heap d=aa r
theorem bD{f:Nat}{ps:List P}{b:List gl}{body:ax}(y:tab f=aa ⟨ps,b,body⟩)(x:args.length=ps.length)
  (h:∀Q:Option ax->St->Prop,(∀j s,nB b r s->Q j s)->WP tab f ab [.code body] ⟨cD ps args .e,[],[]⟩ Q):bH tab f args r:=by
 have g:=h (λ_ s=>nB b r s) λ_ _ h=>h;obtain⟨n,m,d,j,s,l,v,z,q,u⟩:=g;exact⟨z,s.heap,oE y x ⟨n,m,d,j,s,l,0,0,s.heap,by rw[v];rfl,q,rfl⟩,u⟩
end
theorem ai{tab:TB}{fn:Nat}{ops:List aN}{b:ax}{k:List cO}{s:St}{Q:Option ax->St->Prop}(h:px tab ops s λd=>WP tab fn ab (.code b::k) d Q):WP tab fn ab (.code (.seq (.region ops []) b)::k) s Q:=an (aq (.inl rfl) h)
theorem ba{tab:TB}{fn:Nat}{ro:Option Nat}{a:ax}{c:Arg}{k:List cO}{s:St}{Q:Option ax->St->Prop}(hc:c.ev s.aF=.c (.f (.bool ag)))(h:WP tab fn ro k s Q):WP tab fn ro (.code (.cond c a .skip)::k) s Q:=aA hc (aJ h)
end
section
open Go
def P.iV:Nat->Nat->P
 |0,_=>.h| k+1,n=>if n=0 then .h else if n % 2=1 then .o (iV k ((n-1) / 2))else .i (iV k ((n-2) / 2))
def P.nat(n:Nat):P:=P.iV n n
theorem nS:∀(k n:Nat),n<=k->(P.iV k n).toNat=n
 |0,n,b=>by simp[P.iV,P.toNat];omega
 |k+1,n,b=>by
  unfold P.iV;split
  .simp[P.toNat, *]
  .split
   .simp[P.toNat];rw[nS k _ (by omega)];omega
   .simp[P.toNat];rw[nS k _ (by omega)];omega
theorem gk(n:Nat):(P.nat n).toNat=n:=nS n n (aq9 n)
theorem Zp{a b:Nat}(d:a≠b):P.nat a≠P.nat b:=λe=>d (by rw[<-gk a,<-gk b,e])
theorem T.dh(v:V):∀(p:P) (t:T),(t.set p v).get p=v
 | .h,.e=>rfl| .h,.n _ _ _=>rfl| .o p,.e=>T.dh v p .e| .o p,.n l _ _=>T.dh v p l| .i p,.e=>T.dh v p .e| .i p,.n _ _ r=>T.dh v p r
theorem T.cF(v:V):∀(p q:P) (t:T),p≠q->(t.set p v).get q=t.get q
 | .h,.h,_,h=>absurd rfl h| .h,.o q,.e,_=>by cases q<;>rfl
 | .h,.i q,.e,_=>by cases q<;>rfl
 | .h,.o _,.n _ _ _,_=>rfl| .h,.i _,.n _ _ _,_=>rfl| .o _,.h,.e,_=>rfl| .o _,.h,.n _ _ _,_=>rfl| .i _,.h,.e,_=>rfl| .i _,.h,.n _ _ _,_=>rfl
 | .o p,.o q,.e,h=>by
  show(T.set .e p v).get q=_;rw[T.cF v p q .e (λe=>h (by rw[e]))];cases q<;>rfl
 | .o p,.o q,.n l _ _,h=>T.cF v p q l (λe=>h (by rw[e]))
 | .o p,.i q,.e,h=>by
  show T.get .e q=_;cases q<;>rfl
 | .o _,.i _,.n _ _ _,_=>rfl
 | .i p,.o q,.e,h=>by
  show T.get .e q=_;cases q<;>rfl
 | .i _,.o _,.n _ _ _,_=>rfl
 | .i p,.i q,.e,h=>by
  show(T.set .e p v).get q=_;rw[T.cF v p q .e (λe=>h (by rw[e]))];cases q<;>rfl
 | .i p,.i q,.n _ _ r,h=>T.cF v p q r (λe=>h (by rw[e]))
def T.g(t:T)(n:Nat):V:=t.get (P.nat n)
def T.s(t:T)(n:Nat)(v:V):T:=t.set (P.nat n) v
@[simp] theorem T.g_s (t:T) (n m:Nat) (v:V):(t.s n v).g m=if n=m then v else t.g m:=by
 unfold T.g T.s;split
 .rename_i h;subst h;exact T.dh v _ t
 .rename_i h;exact T.cF v _ _ t (Zp h)
def R(n:Nat):Arg:=.r (P.nat n)
def D(n:Nat):Option P:=aa (P.nat n)
def G(n:Nat)(w:Bool):Option (P × Bool):=aa (P.nat n,w)
abbrev vi(n:Int):V:=.c (.f (.int .i64 n))
abbrev vb(b:Bool):V:=.c (.f (.bool b))
abbrev fi(n:Int):FC:=.int .i64 n
@[simp] theorem wX (t:T) (n:Nat):(R n).ev t=t.g n:=rfl
@[simp] theorem aqU (t:T) (v:V):(Arg.k v).ev t=v:=rfl
@[simp] theorem aqc (t:T) (n:Nat) (v:V):gV t (D n) v=t.s n v:=rfl
@[simp] theorem al1 (t:T) (v:V):gV t ab v=t:=rfl
@[simp] theorem afe (t:T) (n:Nat):t.get (P.nat n)=t.g n:=rfl
@[simp] theorem ahp (n:Nat) (ps:List P) (v:V) (b:List V) (t:T):cD (P.nat n::ps) (v::b) t=cD ps b (t.s n v):=rfl
@[simp] theorem alj (b:List V) (t:T):cD [] b t=t:=rfl
@[simp] theorem aht (t:T):wanted t ab=aa ae:=rfl
@[simp] theorem ao4 (t:T) (n:Nat) (w:Bool):wanted t (G n w)=match t.g n with
  | .c (.f (.bool b))=>aa (b == w)| .t []=>aa ag| _=>ab:=rfl
attribute [simp] dx
def KO(o:Option (V × aj))(t:T)(ds:List fL)(K:V->St->Prop):Prop:=∃p,o=aa p/\K p.1 ⟨t,ds,p.2⟩
@[simp] theorem apd (v:V) (H:aj) (t:T) (ds:List fL) (K:V->St->Prop):KO (aa (v,H)) t ds K↔K v ⟨t,ds,H⟩:=⟨λ⟨_,h,k⟩=>by cases h;exact k,λk=>⟨_,rfl,k⟩⟩
def KP(P:V->Prop)(t:T)(ds:List fL)(H:aj)(K:V->St->Prop):Prop:=∃x,P x/\K x ⟨t,ds,H⟩
@[simp] theorem aqy (x:V) (t:T) (ds:List fL) (H:aj) (K:V->St->Prop):KP (Eq x) t ds H K↔K x ⟨t,ds,H⟩:=⟨λ⟨_,h,k⟩=>by cases h;exact k,λk=>⟨x,rfl,k⟩⟩
def E2(x:V)(H:aj)(y:V)(H':aj):Prop:=x=y/\H=H'
def KE(P:V->aj->Prop)(t:T)(ds:List fL)(K:V->St->Prop):Prop:=∃x H,P x H/\K x ⟨t,ds,H⟩
@[simp] theorem aqx (x:V) (H:aj) (t:T) (ds:List fL) (K:V->St->Prop):KE (E2 x H) t ds K↔K x ⟨t,ds,H⟩:=⟨λ⟨_,_,⟨b,d⟩,k⟩=>by cases b;cases d;exact k,λk=>⟨x,H,⟨rfl,rfl⟩,k⟩⟩
section
variable(tab:TB)
def KC(b:Option (List V))(f:Nat)(t:T)(ds:List fL)(H:aj)(K:V->St->Prop):Prop:=∃a,b=aa a/\KP (bH tab f a) t ds H K
def KD(c:Option (Callee × List V))(t:T)(ds:List fL)(H:aj)(K:V->St->Prop):Prop:=∃a,c=aa a/\KE (Ev tab a.1 a.2 H) t ds K
def KS(os:List aN)(L:St->Prop)(s:St):Prop:=px tab os s L
def FS(s:St)(K:St->Prop):Prop:=K s
def KV(o:Option P)(os:List aN)(L:St->Prop)(v:V)(s:St):Prop:=FS ⟨gV s.aF o v,s.defs,s.heap⟩ (KS tab os L)
def GRD(w:Option Bool)(op:dn)(o:Option P)(os:List aN)(L:St->Prop)(s:St):Prop:=
 match w with
 |some ae=>gP tab s op (KV tab o os L)| some ag=>FS ⟨gV s.aF o (.t []),s.defs,s.heap⟩ (KS tab os L)| none=>False
end
section
variable{tab:TB}{t:T}{ds:List fL}{H:aj}{K:V->St->Prop}{L:St->Prop}
@[simp] theorem apb (a:List V) (f:Nat):KC tab (aa a) f t ds H K↔KP (bH tab f a) t ds H K:=⟨λ⟨_,h,k⟩=>by cases h;exact k,λk=>⟨_,rfl,k⟩⟩
@[simp] theorem apc (c:Callee) (a:List V):KD tab (aa (c,a)) t ds H K↔KE (Ev tab c a H) t ds K:=⟨λ⟨_,h,k⟩=>by cases h;exact k,λk=>⟨_,rfl,k⟩⟩
@[simp] theorem aqu (s:St) (K:St->Prop):FS s K↔K s:=Iff.rfl
@[simp ↓] theorem aqz (os:List aN) (s:St):KS tab os L s↔px tab os s L:=Iff.rfl
@[simp ↓] theorem aqA (o:Option P) (os:List aN) (v:V):KV tab o os L v ⟨t,ds,H⟩↔FS ⟨gV t o v,ds,H⟩ (KS tab os L):=Iff.rfl
@[simp ↓] theorem aqw (op:dn) (o:Option P) (os:List aN) (s:St):GRD tab (aa ae) op o os L s↔gP tab s op (KV tab o os L):=Iff.rfl
@[simp ↓] theorem aqv (op:dn) (o:Option P) (os:List aN):GRD tab (aa ag) op o os L ⟨t,ds,H⟩↔FS ⟨gV t o (.t []),ds,H⟩ (KS tab os L):=Iff.rfl
@[simp ↓] theorem ape (s:St):px tab [] s L↔L s:=Iff.rfl
@[simp ↓] theorem ang (o:Option P) (op:dn) (os:List aN):px tab (⟨o,op,ab⟩::os) ⟨t,ds,H⟩ L↔gP tab ⟨t,ds,H⟩ op (KV tab o os L):=Iff.rfl
@[simp ↓] theorem alD (o:Option P) (op:dn) (n:Nat) (w:Bool) (os:List aN) :
  px tab (⟨o,op,G n w⟩::os) ⟨t,ds,H⟩ L↔GRD tab (wanted t (G n w)) op o os L ⟨t,ds,H⟩:=by
 simp only[px];rcases b:wanted t (G n w)with _|_|_<;>exact Iff.rfl
def dn.plain:dn->Bool
 | .call _ _ _| .bZ _ _ _| .recover| .defer _ _=>ag| _=>ae
theorem cu{op:dn}(h:op.plain=ae):gP tab ⟨t,ds,H⟩ op K↔KO (bG t H op) t ds K:=by
 have:gP tab ⟨t,ds,H⟩ op K↔∃v H',bG t H op=aa (v,H')/\K v ⟨t,ds,H'⟩:=by
  cases op<;>first|exact Iff.rfl|simp[dn.plain]at h
 rw[this];exact⟨λ⟨v,H',h,k⟩=>⟨(v,H'),h,k⟩,λ⟨p,h,k⟩=>⟨p.1,p.2,h,k⟩⟩
@[simp ↓] theorem apE (x:Arg):gP tab ⟨t,ds,H⟩ (.cP x) K↔KO (bG t H (.cP x)) t ds K:=cu rfl
@[simp ↓] theorem aop (c a b:Arg):gP tab ⟨t,ds,H⟩ (.pick c a b) K↔KO (bG t H (.pick c a b)) t ds K:=cu rfl
@[simp ↓] theorem alP (zs:List FC):gP tab ⟨t,ds,H⟩ (.alloc zs) K↔KO (bG t H (.alloc zs)) t ds K:=cu rfl
@[simp ↓] theorem apA (x:Arg):gP tab ⟨t,ds,H⟩ (.box x) K↔KO (bG t H (.box x)) t ds K:=cu rfl
@[simp ↓] theorem alQ (zs:List FC) (b:List (Nat × Nat × Arg)):gP tab ⟨t,ds,H⟩ (.build zs b) K↔KO (bG t H (.build zs b)) t ds K:=cu rfl
@[simp ↓] theorem aj5 (sz:Nat) (zs:List FC) (len:Nat) (b:List (Nat × Arg)):gP tab ⟨t,ds,H⟩ (.bN sz zs len b) K↔KO (bG t H (.bN sz zs len b)) t ds K:=cu rfl
@[simp ↓] theorem aom (n:Option Nat) (x:Arg):gP tab ⟨t,ds,H⟩ (.load n x) K↔KO (bG t H (.load n x)) t ds K:=cu rfl
@[simp ↓] theorem al0 (n:Nat) (x y:Arg):gP tab ⟨t,ds,H⟩ (.store n x y) K↔KO (bG t H (.store n x y)) t ds K:=cu rfl
@[simp ↓] theorem aj9 (x:Arg):gP tab ⟨t,ds,H⟩ (.bB x) K↔KO (bG t H (.bB x)) t ds K:=cu rfl
@[simp ↓] theorem apz (op:BinOp) (x y:Arg):gP tab ⟨t,ds,H⟩ (.bin op x y) K↔KO (bG t H (.bin op x y)) t ds K:=cu rfl
@[simp ↓] theorem ap' (neg:Bool) (k:LI) (x y:Arg):gP tab ⟨t,ds,H⟩ (.eq neg k x y) K↔KO (bG t H (.eq neg k x y)) t ds K:=cu rfl
@[simp ↓] theorem ap_ (op:UnOp) (x:Arg):gP tab ⟨t,ds,H⟩ (.un op x) K↔KO (bG t H (.un op x)) t ds K:=cu rfl
@[simp ↓] theorem apC (k:IntKind) (x:Arg):gP tab ⟨t,ds,H⟩ (.gG k x) K↔KO (bG t H (.gG k x)) t ds K:=cu rfl
@[simp ↓] theorem aoo (f:Nat) (b:List Arg):gP tab ⟨t,ds,H⟩ (.im f b) K↔KO (bG t H (.im f b)) t ds K:=cu rfl
@[simp ↓] theorem alX:gP tab ⟨t,ds,H⟩ .ik K↔KO (bG t H .ik) t ds K:=cu rfl
@[simp ↓] theorem aj8 (d:CK) (b:FC) (m k:Arg):gP tab ⟨t,ds,H⟩ (.lookup d b m k) K↔KO (bG t H (.lookup d b m k)) t ds K:=cu rfl
@[simp ↓] theorem alW (b:CK) (m k v:Arg):gP tab ⟨t,ds,H⟩ (.iO b m k v) K↔KO (bG t H (.iO b m k v)) t ds K:=cu rfl
@[simp ↓] theorem ahk (sz bytes:Nat) (zs:List FC) (l c:Arg):gP tab ⟨t,ds,H⟩ (.eh sz bytes zs l c) K↔KO (bG t H (.eh sz bytes zs l c)) t ds K:=cu rfl
@[simp ↓] theorem alZ (sz:Nat) (x:Arg) (lo hi mx:Option Arg):gP tab ⟨t,ds,H⟩ (.slice sz x lo hi mx) K↔KO (bG t H (.slice sz x lo hi mx)) t ds K:=cu rfl
@[simp ↓] theorem aj6 (b:Nat) (x:Arg):gP tab ⟨t,ds,H⟩ (.aO b x) K↔KO (bG t H (.aO b x)) t ds K:=cu rfl
@[simp ↓] theorem alV (b:Nat) (n:Option Nat) (x:Arg):gP tab ⟨t,ds,H⟩ (.field b n x) K↔KO (bG t H (.field b n x)) t ds K:=cu rfl
@[simp ↓] theorem aj7 (sz:Nat) (b:Option Nat) (x i:Arg):gP tab ⟨t,ds,H⟩ (.bu sz b x i) K↔KO (bG t H (.bu sz b x i)) t ds K:=cu rfl
@[simp ↓] theorem aol (x i:Arg):gP tab ⟨t,ds,H⟩ (.idxs x i) K↔KO (bG t H (.idxs x i)) t ds K:=cu rfl
@[simp ↓] theorem ahj (x:Arg) (i:Nat):gP tab ⟨t,ds,H⟩ (.extract x i) K↔KO (bG t H (.extract x i)) t ds K:=cu rfl
@[simp ↓] theorem apD (x:Arg):gP tab ⟨t,ds,H⟩ (.len x) K↔KO (bG t H (.len x)) t ds K:=cu rfl
@[simp ↓] theorem apB (x:Arg):gP tab ⟨t,ds,H⟩ (.cap x) K↔KO (bG t H (.cap x)) t ds K:=cu rfl
@[simp ↓] theorem aj4 (sz bytes:Nat) (x y:Arg):gP tab ⟨t,ds,H⟩ (.append sz bytes x y) K↔KO (bG t H (.append sz bytes x y)) t ds K:=cu rfl
@[simp ↓] theorem aon (lo:Bool) (xs:List Arg):gP tab ⟨t,ds,H⟩ (.fu lo xs) K↔KO (bG t H (.fu lo xs)) t ds K:=cu rfl
@[simp ↓] theorem aoj (sz bytes:Nat) (zs:List FC) (x n:Arg):gP tab ⟨t,ds,H⟩ (.lV sz bytes zs x n) K↔KO (bG t H (.lV sz bytes zs x n)) t ds K:=cu rfl
@[simp ↓] theorem alT (sz:Nat) (zs:List FC) (x:Arg):gP tab ⟨t,ds,H⟩ (.clear sz zs x) K↔KO (bG t H (.clear sz zs x)) t ds K:=cu rfl
@[simp ↓] theorem aoq (sz:Nat) (x hi mx:Arg):gP tab ⟨t,ds,H⟩ (.qF sz x hi mx) K↔KO (bG t H (.qF sz x hi mx)) t ds K:=cu rfl
@[simp ↓] theorem aj' (x:Arg):gP tab ⟨t,ds,H⟩ (.ig x) K↔KO (bG t H (.ig x)) t ds K:=cu rfl
@[simp ↓] theorem alY (x:Arg):gP tab ⟨t,ds,H⟩ (.lT x) K↔KO (bG t H (.lT x)) t ds K:=cu rfl
@[simp ↓] theorem alU (x:Arg):gP tab ⟨t,ds,H⟩ (.entry x) K↔KO (bG t H (.entry x)) t ds K:=cu rfl
@[simp ↓] theorem aok (f:Nat) (args:List Arg):gP tab ⟨t,ds,H⟩ (.call f args ag) K ↔
  KC tab (aX (de deep H) (dx t args)) f t ds ((dx t args).foldl (mkV deep) H) K:=by
 simp only[gP,KC,KP];constructor
 .intro h;rw[aR (by simp)]at h;obtain⟨b,r,d,g,j⟩:=h;exact⟨b,d,r,g,j⟩
 .rintro⟨b,d,r,g,j⟩;rw[aR (by simp)];exact⟨b,r,d,g,j⟩
@[simp ↓] theorem alS (f:Nat) (args:List Arg):gP tab ⟨t,ds,H⟩ (.call f args ae) K↔KD tab (aa (.fn f,dx t args)) t ds H K:=by simp[gP,KD,KE]
@[simp ↓] theorem alR (x:Arg) (args:List Arg) (h:Bool):gP tab ⟨t,ds,H⟩ (.bZ x args h) K↔KD tab (bX (x.ev t) (dx t args)) t ds H K:=by
 simp only[gP,KD,KE];constructor
 .rintro⟨c,as,r,H',b,d,g⟩;exact⟨(c,as),b,r,H',d,g⟩
 .rintro⟨⟨c,as⟩,b,r,H',d,g⟩;exact⟨c,as,r,H',b,d,g⟩
end
def zt:V->Option Bool
 | .c (.f (.bool b))=>aa b| _=>ab
@[simp] theorem alE (b:Bool):zt (.c (.f (.bool b)))=aa b:=rfl
section
variable{t:T}{H:aj}
@[simp] theorem aqO (x:Arg):bG t H (.cP x)=aa (x.ev t,H):=rfl
@[simp] theorem aqP (o:Os) (sz:Nat):bG t H (.pre o sz)=if o=.loc\/sz=0 then ab else aa (.c (.sl H.length 0 0 0 0 sz),H++[.cK sz [] 0 0 o]):=rfl
@[simp] theorem aqs (c x y:Arg):bG t H (.pick c x y)=(zt (c.ev t)).map λb=>(if b then x.ev t else y.ev t,H):=by
 simp only[bG,zt];split
 .rename_i b h;simp only[h];cases b<;>rfl
 .rename_i h;split
  .rename_i b d;exact absurd d (h b)
  .rfl
@[simp] theorem apL (zs:List FC):bG t H (.alloc zs)=aa (.c (.ptr H.length 0 0),H++[.box (zs.map .f) 0]):=rfl
@[simp] theorem aqK (x:Arg):bG t H (.box x)=(x.ev t).cells?.map λxs=>(.c (.ptr H.length 0 0),H++[.box xs 0]):=by
 simp only[bG];cases (x.ev t).cells?<;>rfl
@[simp] theorem apM (zs:List FC) (ps:List (Nat × Nat × Arg)):bG t H (.build zs ps)=(fv t (zs.map .f) ps).map λcs=>(.a cs,H):=rfl
@[simp] theorem ao7 (sz:Nat) (zs:List FC) (n:Nat) (ps:List (Nat × Arg)):bG t H (.bN sz zs n ps) =
  if n=0 then(if ps.isEmpty then aa (.c (.f .es),H)else ab)else
  (fv t ((cQ n zs).map .f) (ps.map λp=>(p.1*sz,sz,p.2))).map λcs=>(.c (.sl H.length 0 n n 0 sz),H++[.box cs 0]):=rfl
@[simp] theorem aqo (n:Option Nat) (x:Arg):bG t H (.load n x)=(bF H n (x.ev t)).map (·,H):=rfl
def wa(H:aj)(n:Nat)(x y:V):Option aj:=
 match x,y.cells? with
 | .c p,aa xs=>if xs.length=n then dC H p xs else ab| _,_=>ab
@[simp] theorem apS (n:Nat) (x y:Arg):bG t H (.store n x y)=(wa H n (x.ev t) (y.ev t)).map (.top,·):=by
 simp only[bG,wa];cases x.ev t with
 |c p=>cases (y.ev t).cells? with
  |none=>rfl| some xs=>by_cases h:xs.length=n<;>simp[h]
 |_=>rfl
@[simp] theorem ao2 (n:Nat) (p:C) (y:V):wa H n (.c p) y=y.cells?.bind λxs=>if xs.length=n then dC H p xs else ab:=by
 simp only[wa];cases y.cells?<;>rfl
@[simp] theorem aqJ (op:BinOp) (x y:Arg):bG t H (.bin op x y)=(bL op (x.ev t) (y.ev t)).map (·,H):=rfl
@[simp] theorem aqY (neg:Bool) (k:LI) (x y:Arg):bG t H (.eq neg k x y)=(LK H k (x.ev t) (y.ev t)).map λb=>(vb (if neg then !b else b),H):=rfl
@[simp] theorem aqZ (op:UnOp) (x:Arg):bG t H (.un op x)=(unV op (x.ev t)).map (·,H):=rfl
def ajl(k:IntKind):V->Option V
 | .c (.f (.int _ n))=>aa (.c (.f (.int k (k.wrap n))))| _=>ab
@[simp] theorem ap3 (k j:IntKind) (n:Int):ajl k (.c (.f (.int j n)))=aa (.c (.f (.int k (k.wrap n)))):=rfl
@[simp] theorem aqM (k:IntKind) (x:Arg):bG t H (.gG k x)=(ajl k (x.ev t)).map (·,H):=by
 simp only[bG,ajl];split
 .rename_i h;simp only[h];rfl
 .rename_i h;split
  .rename_i b;exact absurd b (h _ _)
  .rfl
@[simp] theorem aqr (f:Nat) (b:List Arg):bG t H (.im f b)=(aX ta (dx t b)).map λxs=>(.c (.cl f xs),H):=rfl
@[simp] theorem aqq (f:Nat) (b:List Arg):bG t H (.x7 f b)=(aX ta (dx t b)).map λxs=>(.c (.bm f xs),H):=rfl
@[simp] theorem apQ (sz:Nat) (x:Arg) (lo hi mx:Option Arg):bG t H (.slice sz x lo hi mx)=(bS H sz (x.ev t) (lo.map (·.ev t)) (hi.map (·.ev t)) (mx.map (·.ev t))).map (·,H):=rfl
@[simp] theorem ao9 (sz:Nat) (zs:List FC) (n:Nat) (ps:List (Nat × Arg)):bG t H (.jr sz zs n ps)=((fv t ((cQ n zs).map .f) (ps.map λp=>(p.1*sz,sz,p.2))).bind λcs=>if n=0 then ab else fcL cs).map λb=>(.c (.f (.fs b n)),H):=rfl
@[simp] theorem aqt (sz:Nat) (x hi mx:Arg):bG t H (.qF sz x hi mx)=uQ H sz (x.ev t) (hi.ev t) (mx.ev t):=rfl
@[simp] theorem apP (n sz:Nat) (x:Arg) (lo hi mx:Option Arg):bG t H (.pe n sz x lo hi mx)=(mI H n sz (x.ev t) (lo.map (·.ev t)) (hi.map (·.ev t)) (mx.map (·.ev t))).map (·,H):=rfl
@[simp] theorem apR (x:Arg) (lo hi:Option Arg):bG t H (.qy x lo hi)=(v5 (x.ev t) (lo.map (·.ev t)) (hi.map (·.ev t))).map (·,H):=rfl
@[simp] theorem ao8 (o:Nat) (x:Arg):bG t H (.aO o x)=(mX o (x.ev t)).map (·,H):=rfl
@[simp] theorem apO (o:Nat) (n:Option Nat) (x:Arg):bG t H (.field o n x)=(rG o n (x.ev t)).map (·,H):=rfl
@[simp] theorem ao' (sz:Nat) (b:Option Nat) (x i:Arg):bG t H (.bu sz b x i)=(bg H sz b (x.ev t) (i.ev t)).map (·,H):=rfl
@[simp] theorem aqm (x i:Arg):bG t H (.idxs x i)=(ud (x.ev t) (i.ev t)).map (·,H):=rfl
@[simp] theorem aql (len sz:Nat) (n:Option Nat) (x i:Arg):bG t H (.xN len sz n x i)=(Be len sz n (x.ev t) (i.ev t)).map (·,H):=rfl
def cOf:V->Option C
 | .c x=>aa x| _=>ab
@[simp] theorem aqB (x:C):cOf (.c x)=aa x:=rfl
@[simp] theorem aqN (x:Arg):bG t H (.len x)=((cOf (x.ev t)).bind (aV H)).map λn=>(vi (n:Nat),H):=by
 simp only[bG,cOf];cases x.ev t with
 |c y=>simp only[arG];cases aV H y<;>rfl
 |_=>rfl
@[simp] theorem aqL (x:Arg):bG t H (.cap x)=((cOf (x.ev t)).bind (kz H)).map λn=>(vi (n:Nat),H):=by
 simp only[bG,cOf];cases x.ev t with
 |c y=>simp only[arG];cases kz H y<;>rfl
 |_=>rfl
def strOf:V->Option ByteArray
 | .c (.f (.str s))=>aa s| _=>ab
@[simp] theorem apH (s:ByteArray):strOf (.c (.f (.str s)))=aa s:=rfl
@[simp] theorem aqn (n:Nat):bG t H (.te n)=aa (vi (n:Nat),H):=rfl
@[simp] theorem ao6 (sz bytes:Nat) (x y:Arg):bG t H (.append sz bytes x y)=bJ H sz bytes (x.ev t) (y.ev t):=rfl
@[simp] theorem aqk (sz:Nat) (x y:Arg):bG t H (.copy sz x y)=copyV H sz (x.ev t) (y.ev t):=rfl
@[simp] theorem aqp (lo:Bool) (xs:List Arg):bG t H (.fu lo xs)=(vF lo (dx t xs)).map (·,H):=rfl
def tOf:V->Option (List V)
 | .t b=>aa b| _=>ab
@[simp] theorem aqH (b:List V):tOf (.t b)=aa b:=rfl
@[simp] theorem al2 (x:Arg) (i:Nat):bG t H (.extract x i)=(tOf (x.ev t)).bind λd=>d[i]?.map (·,H):=by
 simp only[bG,tOf];split
 .rename_i h;simp only[h];rfl
 .rename_i h;split
  .rename_i b;exact absurd b (h _)
  .rfl
def qM:V->Option V
 | .c (.ptr b o e)=>aa (.c (.ptr b o e))| .c (.f (.fp cs o))=>aa (.c (.f (.fp cs o)))| _=>ab
@[simp] theorem ajZ (b o e:Nat):qM (.c (.ptr b o e))=aa (.c (.ptr b o e)):=rfl
@[simp] theorem alO (cs:List FC) (o:Nat):qM (.c (.f (.fp cs o)))=aa (.c (.f (.fp cs o))):=rfl
@[simp] theorem ao_ (x:Arg):bG t H (.bB x)=(qM (x.ev t)).map (·,H):=by
 simp only[bG,qM];split
 .rename_i h;simp only[h];rfl
 .rename_i h;simp only[h];rfl
 .rename_i b d;split
  .rename_i h;exact absurd h (b _ _ _)
  .rename_i h;exact absurd h (d _ _)
  .rfl
@[simp] theorem alI (f:Nat) (b:List FC) (args:List V):bX (.c (.f (.fn f b))) args=aa (.fn f,args++b.map λx=>.c (.f x)):=rfl
@[simp] theorem alH (f:Nat) (b:List C) (args:List V):bX (.c (.cl f b)) args=aa (.fn f,args++b.map .c):=rfl
@[simp] theorem alG (f:Nat) (first:List C) (args:List V):bX (.c (.bm f first)) args=aa (.fn f,first.map .c++args):=rfl
end
section
variable{k:IntKind}{a b:Int}{H:aj}
@[simp] theorem apf:bL .add (.c (.f (.int k a))) (.c (.f (.int k b)))=aa (.c (.f (.int k (k.wrap (a+b))))):=by simp[bL,iT,V.int]
@[simp] theorem apn:bL .sub (.c (.f (.int k a))) (.c (.f (.int k b)))=aa (.c (.f (.int k (k.wrap (a-b))))):=by simp[bL,iT,V.int]
@[simp] theorem apl:bL .mul (.c (.f (.int k a))) (.c (.f (.int k b)))=aa (.c (.f (.int k (k.wrap (a*b))))):=by simp[bL,iT,V.int]
theorem mT(h:b≠0):bL .quo (.c (.f (.int k a))) (.c (.f (.int k b)))=aa (.c (.f (.int k (k.wrap (a.tdiv b))))):=by simp[bL,iT,V.int,h]
theorem fQ(h:b≠0):bL .rem (.c (.f (.int k a))) (.c (.f (.int k b)))=aa (.c (.f (.int k (a.tmod b)))):=by simp[bL,iT,V.int,h]
@[simp] theorem apg:bL .eql (.c (.f (.int k a))) (.c (.f (.int k b)))=aa (vb (decide (a=b))):=by simp[bL,iT,V.bool];rfl
@[simp] theorem apm:bL .neq (.c (.f (.int k a))) (.c (.f (.int k b)))=aa (vb (!decide (a=b))):=by simp[bL,iT,V.bool];rfl
@[simp] theorem apk:bL .lss (.c (.f (.int k a))) (.c (.f (.int k b)))=aa (vb (decide (a<b))):=by simp[bL,iT,V.bool]
@[simp] theorem apj:bL .leq (.c (.f (.int k a))) (.c (.f (.int k b)))=aa (vb (decide (a<=b))):=by simp[bL,iT,V.bool]
@[simp] theorem api:bL .gtr (.c (.f (.int k a))) (.c (.f (.int k b)))=aa (vb (decide (b<a))):=by simp[bL,iT,V.bool]
@[simp] theorem aph:bL .geq (.c (.f (.int k a))) (.c (.f (.int k b)))=aa (vb (decide (b<=a))):=by simp[bL,iT,V.bool]
@[simp] theorem anG {x y:Bool}:eqP .bool (.f (.bool x)) (.f (.bool y))=aa (x == y):=rfl
@[simp] theorem apt {x y:ByteArray}:eqP .str (.f (.str x)) (.f (.str y))=aa (x == y):=rfl
@[simp] theorem aps:sT [] [] []=aa ae:=rfl
@[simp] theorem anH {x y:Bool}:LK H .bool (.c (.f (.bool x))) (.c (.f (.bool y)))=aa (x == y):=rfl
@[simp] theorem ap6 {b:List CK} {xs ys:List C}:LK H (.st b) (.a xs) (.a ys)=sT b xs ys:=rfl
@[simp] theorem alx {x:Bool}:unV .not (.c (.f (.bool x)))=aa (vb (!x)):=rfl
@[simp] theorem ajv {o c o' ep:Nat}:mX o (.c (.ptr c o' ep))=aa (.c (.ptr c (o'+o) ep)):=rfl
@[simp] theorem alK {o o':Nat} {cs:List FC}:mX o (.c (.f (.fp cs o')))=aa (.c (.f (.fp cs (o'+o)))):=rfl
@[simp] theorem apr {x:C}:(V.c x).cells?=aa [x]:=rfl
@[simp] theorem apq {xs:List C}:(V.a xs).cells?=aa xs:=rfl
@[simp] theorem aqQ {n:Nat} {x:FC}:eT n H (.f x)=aa x:=by cases n<;>rfl
@[simp] theorem aqD {n:Nat} {x:C}:de n H (.c x)=(eT n H x).map λy=>.c (.f y):=rfl
@[simp] theorem aqF {n f:Nat} {b:List C}:eT (n+1) H (.cl f b)=(aX (eT n H) b).map (.fn f):=rfl
@[simp] theorem YU {n b o e:Nat}:eT (n+1) H (.ptr b o e)=match H[b]? with
  |some (.box cs _)=>(aX (eT n H) cs).map (.fp · o)| _=>ab:=rfl
theorem kg{n b o l c ep sz:Nat}:eT (n+1) H (.sl b o l c ep sz)=match H[b]? with
  |some (.box cs _)=>if o+l*sz<=cs.length then(aX (eT n H) ((cs.drop o).take (l*sz))).map (.fs · l)else ab| some (.cK s cs _ e .loc)=>if ep=e/\sz=s/\o+l*sz<=cs.length then(aX (eT n H) ((cs.drop o).take (l*sz))).map (.fs · l)else ab| some (.cK s _ _ e .nil)=>if ep=e/\sz=s then aa .aw else ab| some (.cK s _ _ e .es)=>if ep=e/\sz=s then aa .es else ab| _=>ab:=rfl
theorem Ag{n b o e:Nat}:fk (n+1) (.ptr b o e) H=match H[b]? with
  |some (.box cs d)=>cs.foldl (λH x=>fk n x H) (H.set b (.box cs (Nat.max d cs.length)))
  |_=>H:=rfl
theorem mz{n b o l c e sz:Nat}:fk (n+1) (.sl b o l c e sz) H=match H[b]? with
  |some (.box cs d)=>((cs.drop o).take (l*sz)).foldl (λH x=>fk n x H) (H.set b (.box cs (Nat.max d (o+l*sz))))
  |some (.cK s cs d e st)=>((cs.drop o).take (l*sz)).foldl (λH x=>fk n x H) (H.set b (.cK s cs (Nat.max d (o+l*sz)) e st))
  |_=>H:=rfl
theorem Zm{n f:Nat}{b:List C}:fk (n+1) (.cl f b) H=b.foldl (λH x=>fk n x H) H:=rfl
@[simp] theorem aqW {n:Nat} {x:C}:mkV n H (.c x)=fk n x H:=rfl
@[simp] theorem aqE {n:Nat} {x:C}:jy n H (.c x)=(eT n H x).map λy=>.c (.f y):=rfl
theorem nR{n:Nat}:∀(xs:List FC),aX (eT n H) (xs.map .f)=aa xs
 |[]=>rfl| x::xs=>by simp[aX,nR xs]
@[simp] theorem aqC {n:Nat} {xs:List C}:de n H (.a xs)=(aX (eT n H) xs).map λys=>.a (ys.map .f):=rfl
@[simp] theorem apw {n:Nat} (xs:List FC):aX (eT n H) (xs.map .f)=aa xs:=nR xs
@[simp] theorem aqV {n:Nat} {xs:List C}:mkV n H (.a xs)=xs.foldl (λH x=>fk n x H) H:=rfl
@[simp] theorem ahf {n:Nat} {x:FC}:fk n (.f x) H=H:=by cases n<;>rfl
@[simp] theorem alM {n:Nat} (xs:List FC):(xs.map C.f).foldl (λH x=>fk n x H) H=H:=by
 induction xs with
 |nil=>rfl| cons x xs b=>simp only[arf,asU];rw[ahf];exact b
end
theorem alz{n:Int}(b:0<=n)(d:n<=255):IntKind.wrap .u8 n=n:=by
 simp only[IntKind.wrap,IntKind.bits,IntKind.signed];simp;omega
theorem wrap64{n:Int}(b:-9223372036854775808<=n)(d:n<=9223372036854775807):IntKind.wrap .i64 n=n:=by
 simp only[IntKind.wrap,IntKind.bits,IntKind.signed];simp;omega
theorem aM{n:Int}(b:-9223372036854775808<=n:=by omega)(d:n<=9223372036854775807:=by omega):IntKind.wrap .i64 n=n:=wrap64 b d
@[simp] theorem cast_eq (a b:Nat):((a:Int)=(b:Int))=(a=b):=propext Int.natCast_inj
@[simp] theorem an3 {b d:Type} (g:b->Option d):aX g []=aa []:=rfl
@[simp] theorem alN {b d:Type} (g:b->Option d) (x:b) (xs:List b):aX g (x::xs)=(g x).bind λy=>(aX g xs).map (y::·):=by
 simp only[aX];cases g x<;>cases aX g xs<;>simp
@[simp] theorem apI (x:C) (xs:List C):bf ab (x::xs)=aa (.c x):=rfl
@[simp] theorem apJ (n:Nat) (xs:List C):bf (aa n) xs=if n<=xs.length then aa (.a (xs.take n))else ab:=rfl
@[simp] theorem aD (H:aj) (n:Option Nat) (b o ep:Nat):bF H n (.c (.ptr b o ep))=match H[b]? with
  |some (.box cs _)=>bf n (cs.drop o)| some (.cK _ cs _ e .loc)=>if ep=e then bf n (cs.drop o)else ab| _=>ab:=by
 simp only[bF,aK];split
 .rename_i h;simp only[h];rfl
 .rename_i h;simp only[h];split<;>rfl
 .rename_i d g;split
  .rename_i h;exact absurd h (d _ _)
  .rename_i h;exact absurd h (g _ _ _ _)
  .rfl
theorem Bl(H:aj)(n:Option Nat)(cs:List FC)(o:Nat):bF H n (.c (.f (.fp cs o)))=bf n ((cs.drop o).map .f):=rfl
@[simp] theorem bC (H:aj) (b o ep:Nat) (xs:List C):dC H (.ptr b o ep) xs=match H[b]? with
  |some (.box cs d)=>if d<=o/\o+xs.length<=cs.length then aa (H.set b (.box (bR cs o xs) d))else ab| some (.cK sz cs d e .loc)=>if ep=e/\d<=o/\o+xs.length<=cs.length then aa (H.set b (.cK sz (bR cs o xs) d e .loc))else ab| _=>ab:=rfl
attribute [simp] bR cQ
@[simp] theorem aki (t:T) (cs:List C):fv t cs []=aa cs:=rfl
@[simp] theorem ahl (t:T) (cs:List C) (o n:Nat) (x:Arg) (ps:List (Nat × Nat × Arg)):fv t cs ((o,n,x)::ps)=(x.ev t).cells?.bind λxs=>if xs.length=n/\o+xs.length<=cs.length then fv t (bR cs o xs) ps else ab:=by
 simp only[fv];cases (x.ev t).cells?<;>rfl
@[simp] theorem ap0 (x:FC):ta (.c (.f x))=aa (.f x):=rfl
@[simp] theorem anx (b o e:Nat):ta (.c (.ptr b o e))=aa (.ptr b o e):=rfl
@[simp] theorem apo (b o l c e s:Nat):ta (.c (.sl b o l c e s))=aa (.sl b o l c e s):=rfl
def alu:V->Option V
 | .t _=>ab| v=>aa v
@[simp] theorem aqj (x:C):alu (.c x)=aa (.c x):=rfl
@[simp] theorem aqi (x:List C):alu (.a x)=aa (.a x):=rfl
@[simp] theorem apF (t:T) (H:aj) (n:Nat):bQ t H (.tmp (P.nat n))=alu (t.g n):=by
 simp only[bQ,afe];cases t.g n<;>rfl
@[simp] theorem aoO (t:T) (H:aj) (n:Nat) (k:Option Nat):bQ t H (.cell (P.nat n) k)=bF H k (t.g n):=rfl
@[simp] theorem apu {t:T} {H:aj} {x:gl} {r:V}:nB [x] r ⟨t,[],H⟩↔∃b,bQ t H x=aa b/\jy deep H b=aa r:=by
 simp only[nB,results,true_and,aX];cases bQ t H x<;>simp
@[simp] theorem apv {t:T} {H:aj} {x y:gl} {a b:V}:nB [x,y] (.t [a,b]) ⟨t,[],H⟩ ↔
  (∃d,bQ t H x=aa d/\de deep H d=aa a)/\∃d,bQ t H y=aa d/\de deep H d=aa b:=by
 simp only[nB,results,true_and,aX];cases bQ t H x with
 |none=>simp
 |some u=>cases bQ t H y with
  |none=>simp| some w=>cases g:de deep H u<;>cases j:de deep H w<;>simp[jy,g,j]
@[simp] theorem alL {t:T} {H:aj} {x y z:gl} {a b c:V}:nB [x,y,z] (.t [a,b,c]) ⟨t,[],H⟩ ↔
  (∃d,bQ t H x=aa d/\de deep H d=aa a)/\(∃d,bQ t H y=aa d/\de deep H d=aa b)/\∃d,bQ t H z=aa d/\de deep H d=aa c:=by
 simp only[nB,results,true_and,aX];cases bQ t H x with
 |none=>simp
 |some u=>cases bQ t H y with
  |none=>simp
  |some w=>cases bQ t H z with
   |none=>simp| some q=>cases g:de deep H u<;>cases j:de deep H w<;>cases l:de deep H q<;>simp[jy,g,j,l]
inductive Tg where|nil|es|fs
 deriving DecidableEq
def Tg.fc:Tg->FC
 | .nil=>.aw| .es=>.es| .fs=>.fs [] 0
def sl(g:Tg)(rows:List (List FC)):FC:=if rows.isEmpty then g.fc else .fs rows.flatten rows.length
def cd(sz:Nat)(rows:List (List FC)):Prop:=∀r∈rows,r.length=sz
theorem dA{sz:Nat}:∀{rows:List (List FC)},cd sz rows->rows.flatten.length=rows.length*sz
 |[],_=>by simp
 |r::rows,h=>by
  have:=dA (rows:=rows) λx b=>h x (arj _ b);simp only[arv,ara,ar0,this,h r arl,arF,atg];omega
theorem pM{sz:Nat}:∀{rows:List (List FC)} (j:Nat),cd sz rows->rows.flatten.drop (j*sz)=(rows.drop j).flatten
 |rows,0,_=>by simp
 |[],j+1,_=>by simp
 |r::rows,j+1,h=>by
  have b:=h r arl;have:=pM (rows:=rows) j λx d=>h x (arj _ d);rw[arv,List.drop_succ_cons,<-this,arF,atg,ath,b];simp[b,show j*sz+sz-sz=j*sz by omega]
theorem qf{sz:Nat}:∀{rows:List (List FC)} (j:Nat),cd sz rows->rows.flatten.take (j*sz)=(rows.take j).flatten
 |rows,0,_=>by simp
 |[],j+1,_=>by simp
 |r::rows,j+1,h=>by
  have b:=h r arl;have:=qf (rows:=rows) j λx d=>h x (arj _ d);rw[arv,atw,arv,<-this,arF,atg,List.take_append,b];simp[b,show j*sz+sz-sz=j*sz by omega];rw[arw (by omega)]
theorem cd.map{b:Type}{sz:Nat}{l:List b}{g:b->List FC}(h:∀x,(g x).length=sz):cd sz (l.map g):=λr d=>by
 obtain⟨x,_,rfl⟩:=arx.1 d;exact h x
theorem rC{sz j k:Nat}{rows:List (List FC)}{row:List FC}(d:cd sz rows)(b:rows[j]?=aa row)(l:k<=sz) :
  rows.flatten.drop (j*sz+k)=row.drop k++(rows.drop (j+1)).flatten:=by
 have g:j<rows.length:=(aq4.1 b).1;have m:row.length=sz:=d row (arh b);rw[<-asB,pM j d,arp g,arv];have:rows[j]=row:=by simpa[aq2 g]using b
 rw[this,ath,show k-row.length=0 by omega];simp
variable{H:aj}
theorem mq{sz j k:Nat}{rows:List (List FC)}{row:List FC}{x:FC}(b:cd sz rows)(d:rows[j]?=aa row)(l:row[k]?=aa x) :
  bF H ab (.c (.f (.fp rows.flatten (j*sz+k))))=aa (.c (.f x)):=by
 have m:row.length=sz:=b row (arh d);have g:k<row.length:=(aq4.1 l).1;have e:=rC (k:=k) b d (by omega);simp only[bF,aK,arG,e];rw[arp g];have:row[k]=x:=by simpa[aq2 g]using l
 simp[bf,this]
theorem afK{sz j k n:Nat}{rows:List (List FC)}{row:List FC}(b:cd sz rows)(d:rows[j]?=aa row)(g:k+n<=sz) :
  bF H (aa n) (.c (.f (.fp rows.flatten (j*sz+k))))=aa (.a (((row.drop k).take n).map .f)):=by
 have l:row.length=sz:=b row (arh d);have e:=rC (k:=k) b d (by omega);simp only[bF,aK,arG,e];simp only[bf];rw[bw (by simp only[aro,ara,aru];omega)];rw[asI,arO (by simp only[aro,aru];omega),List.map_take]
theorem dU{sz j:Nat}{rows:List (List FC)}{row:List FC}(b:cd sz rows)(d:rows[j]?=aa row) :
  bF H (aa sz) (.c (.f (.fp rows.flatten (j*sz))))=aa (.a (row.map .f)):=by
 have g:row.length=sz:=b row (arh d);have:=afK (H:=H) (k:=0) (n:=sz) b d (by omega);simp only[Nat.add_zero,asp]at this;rw[this,arw (by omega)]
theorem fF{sz j:Nat}{rows:List (List FC)}{row:List FC}{x:FC}(b:cd sz rows)(d:rows[j]?=aa row)(g:row[0]?=aa x) :
  bF H ab (.c (.f (.fp rows.flatten (j*sz))))=aa (.c (.f x)):=mq (k:=0) b d g
theorem afJ{j:Nat}{l:List Int}{x:Int}(b:l[j]?=aa x) :
  bF H ab (.c (.f (.fp (l.map λn=>[fi n]).flatten (j*1))))=aa (vi x):=
 fF (row:=[fi x]) (cd.map λ_=>rfl) (by rw[asf,b];rfl) rfl
@[simp] theorem Y8 (g:Tg) (rows:List (List FC)):aV H (.f (sl g rows))=aa rows.length:=by
 cases rows with
 |nil=>cases g<;>rfl
 |cons r rows=>rfl
theorem bO{g:Tg}{rows:List (List FC)}{sz:Nat}{k:IntKind}{i:Int}(d:0<=i)(b:i<rows.length) :
  bg H sz ab (.c (.f (sl g rows))) (.c (.f (.int k i)))=aa (.c (.f (.fp rows.flatten (i.toNat*sz)))):=by
 cases rows with
 |nil=>simp at b;omega
 |cons r rows=>
  simp only[ar0]at b;simp[bg,fE,sl,d];omega
theorem xv{g:Tg}{rows:List (List FC)}{sz:Nat}(b:cd sz rows):cA H sz (.f (sl g rows))=aa (rows.flatten.map .f):=by
 cases rows with
 |nil=>cases g<;>simp[sl,Tg.fc,cA]
 |cons r rows=>
  have:=dA b;simp only[sl,atH,arq,if_false,cA,this,if_true]
end
section
open Go
def Kf(tab:TB)(f:Nat)(args:List V)(r:V):Prop:=∀H,∃J,Ev tab (.fn f) args H r (H++J)
section
variable{tab:TB}{f:Nat}{args:List V}{r:V}
theorem Kf.pure{x:FC}(h:Kf tab f args (.c (.f x))):bH tab f args (.c (.f x)):=by
 obtain⟨J,h⟩:=h [];exact⟨_,_,h,by simp⟩
theorem Kf.eq{x:FC}(h:Kf tab f args (.c (.f x))):bH tab f args=Eq (.c (.f x)):=
 funext λr=>propext ⟨λk=>h.pure.det k,λe=>e▸h.pure⟩
theorem bH.eq{r:V}(h:bH tab f args r):bH tab f args=Eq r:=funext λ_=>propext ⟨λk=>h.det k,λe=>e▸h⟩
noncomputable def anR (tab:TB) (f:Nat) (args:List V) (H:aj):aj:=Classical.epsilon λJ=>∃r,Ev tab (.fn f) args H r (H++J)
theorem Kf.ev(h:Kf tab f args r)(H:aj):Ev tab (.fn f) args H=E2 r (H++anR tab f args H):=by
 have l:∃J,∃r,Ev tab (.fn f) args H r (H++J):=by obtain⟨J,b⟩:=h H;exact⟨J,r,b⟩
 have m:∃r,Ev tab (.fn f) args H r (H++anR tab f args H):=Classical.epsilon_spec l;obtain⟨J,b⟩:=h H;obtain⟨r',d⟩:=m;obtain⟨rfl,e⟩:=b.det d;funext x H';exact propext ⟨λk=>d.det k,λ⟨g,j⟩=>g▸j▸d⟩
theorem Ev.eq{c:Callee}{H H':aj}(h:Ev tab c args H r H'):Ev tab c args H=E2 r H':=funext λ_=>funext λ_=>propext ⟨λk=>h.det k,λ⟨b,d⟩=>b▸d▸h⟩
theorem Kf.ala{xs:List FC}(h:Kf tab f args (.a (xs.map .f))):bH tab f args (.a (xs.map .f)):=by
 obtain⟨J,h⟩:=h [];exact⟨_,_,h,by simp[jy]⟩
def aeP(b:List gl)(r:V)(H:aj)(s:St):Prop:=s.defs=[]/\results s.aF s.heap b=aa r/\∃J,s.heap=H++J
theorem dL{ps:List P}{b:List gl}{body:ax}(y:tab f=aa ⟨ps,b,body⟩)(x:args.length=ps.length)
  (h:∀(H:aj) (Q:Option ax->St->Prop),(∀j s,aeP b r H s->Q j s)->WP tab f ab [.code body] ⟨cD ps args .e,[],H⟩ Q):Kf tab f args r:=by
 intro H;have g:=h H (λ_ s=>aeP b r H s) λ_ _ h=>h;obtain⟨n,m,d,j,s,l,v,q,J,u⟩:=g;exact⟨J,oE y x ⟨n,m,d,j,s,l,0,0,s.heap,by rw[v];rfl,by rw[q],u⟩⟩
@[simp] theorem anJ {t:T} {H H':aj} {x:gl}:aeP [x] r H ⟨t,[],H'⟩↔bQ t H' x=aa r/\∃J,H'=H++J:=by
 simp only[aeP,results,true_and,aX];cases bQ t H' x<;>simp
theorem yD{m d:Nat}{x:FC}(h:(CF tab m d (.fn f) args []).map (·.1)=aa (.c (.f x))):bH tab f args (.c (.f x)):=by
 rw[aq5]at h;obtain⟨⟨r,H'⟩,b,g⟩:=h;exact⟨r,H',⟨m,d,b⟩,by rw[show r=.c (.f x) from g];simp⟩
theorem dK{m d:Nat}{x:V}(h:((CF tab m d (.fn f) args []).bind λp=>jy deep p.2 p.1)=aa x):bH tab f args x:=by
 rw[arH]at h;obtain⟨⟨r,H'⟩,b,g⟩:=h;exact⟨r,H',⟨m,d,b⟩,g⟩
theorem aqa{tab:TB}{f:Nat}{args:List V}{x:V}(h:((CF tab 60 10 (.fn f) args []).bind λp=>jy deep p.2 p.1)=aa x):bH tab f args=Eq x:=bH.eq (dK h)
theorem ey{S:V->Prop}{ps:List P}{b:List gl}{body:ax}(z:tab f=aa ⟨ps,b,body⟩)(x:args.length=ps.length)
  (h:∀Q:Option ax->St->Prop,(∀j s r,S r->nB b r s->Q j s)->WP tab f ab [.code body] ⟨cD ps args .e,[],[]⟩ Q):∃r,S r/\bH tab f args r:=by
 have q:=h (λ_ s=>∃r,S r/\nB b r s) λ_ _ r g l=>⟨r,g,l⟩
 obtain⟨n,m,d,j,s,g,r,y,v,A,l,u⟩:=q;exact⟨r,y,A,s.heap,oE z x ⟨n,m,d,j,s,g,0,0,s.heap,by rw[v];rfl,l,rfl⟩,u⟩
variable{fn i:Nat}{ro:Option Nat}{k:List cO}{ds:List fL}{Q:Option ax->St->Prop}
def KR(a x:Nat):ax:=.region [⟨D x,.bin .add (R a) (.k (.c (.f (.int .i64 1)))),ab⟩,⟨D a,.cP (R x),ab⟩] []
def pV(i a b c x:Nat)(body:ax):ax:=.seq (.region [⟨D c,.bin .lss (R a) (R b),ab⟩] []) (.seq (.cond (R c) .skip (.exit i)) (.seq body (KR a x)))
def A9(i a b c x:Nat)(body:ax):ax:=.block i (.loop (pV i a b c x body))
theorem cC{a b c x:Nat}{body:ax}{t:T}{H:aj}(N:Nat)(I:Nat->T->aj->Prop)(J:N<=9223372036854775807)(y:a≠b)(A:x≠b)
  (g:t.g a=vi 0) (l:t.g b=vi N) (E:I 0 t H)
  (step:∀j t H,j<N->I j t H->t.g a=vi j->t.g b=vi N->
   (∀q H',I (j+1) ((q.s x (vi (j+1:Nat))).s a (vi (j+1:Nat))) H'->q.g a=vi j->q.g b=vi N->
    WP tab fn ro (.code (KR a x)::.inLoop (pV i a b c x body)::.inBlock i::k) ⟨q,ds,H'⟩ Q)->
   WP tab fn ro (.code body::.code (KR a x)::.inLoop (pV i a b c x body)::.inBlock i::k) ⟨t.s c (vb ae),ds,H⟩ Q)
  (done:∀t H,I N t H->t.g a=vi N->t.g b=vi N->WP tab fn ro k ⟨t.s c (vb ag),ds,H⟩ Q) :
  WP tab fn ro (.code (A9 i a b c x body)::k) ⟨t,ds,H⟩ Q:=by
 have m:∀ops:List aN,ops.all (·.op.fH)=ae->ro=ab\/ops.all (·.op.fH)=ae:=λ_ h=>.inr h;refine az ?_;refine bT (λn s=>∃j t H,s=⟨t,ds,H⟩/\j<=N/\n=N-j/\I j t H/\t.g a=vi j/\t.g b=vi N) N ⟨0,t,H,rfl,by omega,by omega,E,g,l⟩ ?_;rintro n s ⟨j,t,H,rfl,K,rfl,B,g,l⟩ F;apply an;refine aq (m _ rfl) ?_;simp[g,l];by_cases d:j<N
 .rw[decide_eq_true d];apply an;refine au (by simp) ?_;refine aJ ?_;apply an;refine step j t H d B g l λq H' u v z=>?_;refine aq (m _ rfl) ?_;simp[v];rw[aM];refine F (N-(j+1)) _ (by omega) ⟨j+1,_,H',rfl,by omega,rfl,by simpa using u,by simp,?_⟩;simp[y,A,z]
 .have:j=N:=by omega
  subst this;rw[decide_eq_false d];apply an;refine aA (by simp) ?_;refine aS (k':=k) (by simp[exitTo]) ?_;exact done t H B g l
def uf(a x y:Nat):ax:=.region [⟨D x,.cP (R a),ab⟩,⟨D y,.bin .add (R x) (.k (.c (.f (.int .i64 1)))),ab⟩,⟨D a,.cP (R y),ab⟩] []
def vU(i a c x y:Nat)(b:List aN)(body:ax):ax:=.seq (.seq (.region b []) (.cond (R c) .skip (.exit i))) (.seq body (uf a x y))
def Yz(i a c x y:Nat)(b:List aN)(body:ax):ax:=.block i (.loop (vU i a c x y b body))
theorem nb{a c x y:Nat}{g:List aN}{body:ax}{t:T}{H:aj}(N:Nat)(I:Nat->T->aj->Prop)(J:N<=9223372036854775807)(A:g.all (·.op.fH)=ae)
  (d:t.g a=vi 0) (B:I 0 t H)
  (l:∀j t H (L:St->Prop),j<=N->I j t H->t.g a=vi j->(∀b,I j b H->b.g a=vi j->b.g c=vb (decide ((j:Int)<(N:Int)))->L ⟨b,ds,H⟩)->px tab g ⟨t,ds,H⟩ L)
  (step:∀j t H,j<N->I j t H->t.g a=vi j->
   (∀b H',I (j+1) (((b.s x (vi j)).s y (vi (j+1:Nat))).s a (vi (j+1:Nat))) H'->b.g a=vi j->
    WP tab fn ro (.code (uf a x y)::.inLoop (vU i a c x y g body)::.inBlock i::k) ⟨b,ds,H'⟩ Q)->
   WP tab fn ro (.code body::.code (uf a x y)::.inLoop (vU i a c x y g body)::.inBlock i::k) ⟨t,ds,H⟩ Q)
  (done:∀t H,I N t H->t.g a=vi N->WP tab fn ro k ⟨t,ds,H⟩ Q) :
  WP tab fn ro (.code (Yz i a c x y g body)::k) ⟨t,ds,H⟩ Q:=by
 have m:∀ops:List aN,ops.all (·.op.fH)=ae->ro=ab\/ops.all (·.op.fH)=ae:=λ_ h=>.inr h;refine az ?_;refine bT (λn s=>∃j t H,s=⟨t,ds,H⟩/\j<=N/\n=N-j/\I j t H/\t.g a=vi j) N ⟨0,t,H,rfl,by omega,by omega,B,d⟩ ?_;rintro n s ⟨j,t,H,rfl,E,rfl,q,d⟩ F;apply an;apply an;refine aq (m _ A) ?_;refine l j t H _ E q d λb q d hc=>?_;by_cases z:j<N
 .rw[decide_eq_true (by omega)]at hc;refine au hc ?_;refine aJ ?_;apply an;refine step j b H z q d λb H' u v=>?_;refine aq (m _ rfl) ?_;simp[v];rw[aM];exact F (N-(j+1)) _ (by omega) ⟨j+1,_,H',rfl,by omega,rfl,by simpa using u,by simp⟩
 .have:j=N:=by omega
  subst this;rw[decide_eq_false (by omega)]at hc;refine aA hc ?_;refine aS (k':=k) (by simp[exitTo]) ?_;exact done b H q d
end
end
section
open Go
def lu{b:Type}(l:List b)(p:b->Bool):Int:=match l.findIdx? p with|some j=>j|none=>-1
theorem KL{b:Type}(l:List b)(p:b->Bool):decide (0<=lu l p)=l.any p:=by
 unfold lu;cases h:l.findIdx? p with
 |none=>
  rw[List.findIdx?_eq_none_iff]at h;have:l.any p=ag:=by rw[List.any_eq_false];intro x m;simp[h x m]
  simp[this]
 |some j=>
  rw[atI]at h;obtain⟨d,g,_⟩:=h;have:l.any p=ae:=by rw[List.any_eq_true];exact⟨l[j],aq7 d,g⟩
  simp[this]
theorem KK{b:Type}{l:List b}{p:b->Bool}{j:Nat}(d:j<l.length)(m:p l[j]=ae)(g:∀(i:Nat) (hi:i<j),p (l[i]'(by omega))=ag):lu l p=j:=by
 have:l.findIdx? p=aa j:=by
  rw[atI];exact⟨d,m,λi hi=>by simp[g i hi]⟩
 simp[lu,this]
theorem KM{b:Type}{l:List b}{p:b->Bool}(d:∀(i:Nat) (hi:i<l.length),p l[i]=ag):lu l p = -1:=by
 have:l.findIdx? p=ab:=by
  rw[List.findIdx?_eq_none_iff];intro x g;obtain⟨i,hi,rfl⟩:=List.getElem_of_mem g;exact d i hi
 simp[lu,this]
def ints(l:List Int):List (List FC):=l.map λn=>[fi n]
@[simp] theorem anP (l:List Int):(ints l).length=l.length:=by simp[ints]
theorem dJ{j:Nat}{l:List Int}(b:j<l.length){H:aj}:bF H ab (.c (.f (.fp (ints l).flatten j)))=aa (vi l[j]):=by
 have:=afJ (H:=H) (aq2 b);simpa[ints]using this
variable{tab:TB}
def afu(t:List aN):ax:=.block 1 (.seq (.region [⟨D 10,.cP (R 8),ab⟩,⟨D 5,.cP (R 10),ab⟩] []) (.seq
 (.region t []) (.cond (R 16) (.seq (.region [⟨D 17,.cP (R 5),ab⟩,⟨D 4,.cP (R 17),ab⟩] []) .ret) .skip)))
def anM(t:List aN):aG:=⟨[P.nat 0,P.nat 1],[.tmp (P.nat 4)],.seq (.region [⟨D 4,.cP (.k (.c (.f (.int .i64 0)))),ab⟩] [])
 (.seq (.seq (.region [⟨D 6,.cP (R 0),ab⟩,⟨D 7,.len (R 6),ab⟩,⟨D 8,.cP (.k (.c (.f (.int .i64 0)))),ab⟩] []) (A9 0 8 7 9 18 (afu t)))
 (.seq (.region [⟨D 4,.cP (.k (.c (.f (.int .i64 (-1))))),ab⟩] []) .ret))⟩
def ag'(sz:Nat)(b:Option Nat):List aN:=[⟨D 11,.cP (R 1),ab⟩,⟨D 12,.cP (R 0),ab⟩,⟨D 13,.cP (R 5),ab⟩,⟨D 14,.bu sz ab (R 12) (R 13),ab⟩,⟨D 15,.load b (R 14),ab⟩,⟨D 16,.bZ (R 11) [(R 15)] ae,ab⟩]
theorem ajF{f:Nat}{d:List aN}(W:tab f=aa (anM d)){x y:V}{F:Type}{l:List F}{p:F->Bool}(U:l.length<=9223372036854775807)
  (X:∃c,x=.c c/\∀H,aV H c=aa l.length)
  (g:∀(j:Nat) (v:j<l.length) (t:T) (H:aj) (L:St->Prop),t.g 0=x->t.g 1=y->t.g 5=vi j->
   (∀b J,b.g 0=x->b.g 1=y->b.g 5=vi j->b.g 7=t.g 7->b.g 8=t.g 8->b.g 16=vb (p l[j])->L ⟨b,[],H++J⟩)->px tab d ⟨t,[],H⟩ L) :
  Kf tab f [x,y] (vi (lu l p)):=by
 obtain⟨c,rfl,hc⟩:=X;refine dL W rfl λH Q B=>?_;apply an;refine aq (.inl rfl) ?_;simp;apply an;apply an;refine aq (.inl rfl) ?_;simp[hc];refine cC l.length (λj t H'=>t.g 0=.c c/\t.g 1=y/\(∃J,H'=H++J)/\∀(i:Nat) (hi:i<l.length),i<j->p l[i]=ag) U (by decide) (by decide) (by simp) (by simp) (by simp) ?_ ?_
 .rintro j t _ v ⟨z,A,⟨J,rfl⟩,q⟩ u E next
  refine az ?_;apply an;refine aq (.inl rfl) ?_;simp[u];apply an;refine aq (.inl rfl) ?_;refine g j v _ _ _ (by simp[z]) (by simp[A]) (by simp) λb J' I K M N O m=>?_;cases s:p l[j]with
  |true=>
   refine au (by simp[m,s]) ?_;apply an;refine aq (.inl rfl) ?_;simp[M];refine aB (B _ _ ?_);have:=KK v s (λi hi=>q i (by omega) hi);simp[this]
  |false=>
   refine aA (by simp[m,s]) ?_;refine aJ (ay (next _ _ ?_ (by simp[O,u]) (by simp[N,E])));refine⟨by simp[I],by simp[K],⟨J++J',by simp⟩,λi hi S=>?_⟩;by_cases e:i=j
   .subst e;exact s
   .exact q i hi (by omega)
 .rintro t _ ⟨z,A,⟨J,rfl⟩,q⟩ u E;apply an;refine aq (.inl rfl) ?_;simp;refine aB (B _ _ ?_);have:=KM (l:=l) (p:=p) (λi hi=>q i hi hi);simp[this]
theorem iE{f sz:Nat}{y:Option Nat}(F:tab f=aa (anM (ag' sz y))){q:Type}(l:List q)(enc:q->List FC)(val:q->V)(p:q->Bool)(g:Tg)(k:Nat)(b:List FC)
  (B:l.length<=9223372036854775807) (d:∀(j:Nat) (m:j<l.length) (H:aj),bF H y (.c (.f (.fp (l.map enc).flatten (j*sz))))=aa (val l[j]))
  (E:∀x∈l,Kf tab k (val x::b.map λc=>.c (.f c)) (vb (p x))) :
  Kf tab f [.c (.f (sl g (l.map enc))),.c (.f (.fn k b))] (vi (lu l p)):=by
 refine ajF F B ⟨_,rfl,λH=>by simp⟩ ?_;intro j m t H L s u v z;have A:=(E l[j] (aq7 m)).ev H;have hi:=bO (H:=H) (g:=g) (rows:=l.map enc) (sz:=sz) (k:=.i64) (i:=(j:Int)) (by omega) (by simpa using m);simp[ag',s,u,v,hi,d j m,A];exact z _ _ (by simp[s]) (by simp[u]) (by simp[v]) (by simp) (by simp) (by simp)
def Kx(f:Nat):aG:=⟨[P.nat 0,P.nat 1],[.tmp (P.nat 4)],.seq (.region [⟨D 4,.cP (.k (.c (.f (.bool ag)))),ab⟩] []) (.seq
 (.region [⟨D 5,.cP (R 0),ab⟩,⟨D 6,.cP (R 1),ab⟩,⟨D 7,.call f [(R 5),(R 6)] ag,ab⟩,⟨D 8,.bin .geq (R 7) (.k (.c (.f (.int .i64 0)))),ab⟩,⟨D 4,.cP (R 8),ab⟩] []) .ret)⟩
theorem gd{f k:Nat}(m:tab f=aa (Kx k)){a b:FC}{d:Type}{l:List d}{p:d->Bool}(h:Kf tab k [.c (.f a),.c (.f b)] (vi (lu l p))) :
  Kf tab f [.c (.f a),.c (.f b)] (vb (l.any p)):=by
 refine dL m rfl λH Q g=>?_;apply an;refine aq (.inl rfl) ?_;simp;apply an;refine aq (.inl rfl) ?_;have j:=h.eq;simp[j];refine aB (g _ _ ?_);simp[KL]
end
section
open Go
theorem av{H:aj}{b:Nat}{x:cH}(h:H[b]?=aa x):b<H.length:=(aq4.1 h).1
variable{z:Bool}{H H':aj}{sz bytes:Nat}{v y:V}{g:Tg}{rows:List (List FC)}{row:List FC}{cs:List C}
theorem tM{b d c:Nat}(h:H[b]?=aa (.box cs d))(hc:cs.length=sz):cN H sz (.c (.sl b 0 1 c 0 sz))=aa (1,cs):=by
 simp[cN,aV,cA,h,hc];rw[<-hc,List.take_length]
end
section
open Go
def yQ(P:Program):List Field->Nat->Nat->Bool
 |[],o,n=>o == n| f::b,o,n=>f.offset == o&&yQ P b (o+P.cellsOf f.type) n
def fS(P:Program):Nat->TypeId->Bool
 |0,_=>ag
 |n+1,t=>match P.underlying t with
  |some .bool=>P.cellsOf t == 1| some (.int _)=>P.cellsOf t == 1| some .string=>P.cellsOf t == 1| some (.slice e)=>P.cellsOf t == 1&&P.cellsOf e != 0&&fS P n e| some (.struct b)=>yQ P b.toList 0 (P.cellsOf t)&&b.toList.all λf=>fS P n f.type
  |some (.array k e)=>P.cellsOf t == k*P.cellsOf e&&fS P n e| _=>ag
def tL(S:TypeId->List FC->Prop):List TypeId->List FC->Prop
 |[],xs=>xs=[]| t::ts,xs=>∃p q,xs=p++q/\S t p/\tL S ts q
def nL(P:Program):Nat->TypeId->List FC->Prop
 |0,_,_=>False
 |n+1,t,xs=>match P.underlying t with
  |some .bool=>∃b,xs=[.bool b]| some (.int k)=>∃m,xs=[.int k m]/\(Lit.int k m).wf=ae| some .string=>∃s,xs=[.str s]/\s.size<=maxLen| some (.slice e)=>∃g rows,xs=[sl g rows]/\cd (P.cellsOf e) rows/\rows.length<=maxLen/\∀r∈rows,nL P n e r| some (.struct d)=>tL (nL P n) (d.toList.map (·.type)) xs| some (.array k e)=>∃rows,xs=rows.flatten/\rows.length=k/\cd (P.cellsOf e) rows/\∀r∈rows,nL P n e r| _=>False
theorem rI{m:Type}{sz:Nat}:∀{rows:List (List m)} {j k:Nat} {row:List m},(∀r∈rows,r.length=sz)->rows[j]?=aa row->k<sz->rows.flatten[j*sz+k]?=row[k]?
 |[],j,k,row,_,b,_=>by simp at b
 |r::rows,0,k,row,d,b,g=>by
  simp at b;subst b;have:=d r arl;rw[arv,aq1 (by omega)];simp
 |r::rows,j+1,k,row,d,b,g=>by
  have l:=d r arl;rw[arv,arc (by rw[l,arF];omega)];have e:(j+1)*sz+k-r.length=j*sz+k:=by rw[l,arF];omega
  rw[e];exact rI (rows:=rows) (λx q=>d x (arj _ q)) (by simpa using b) g
theorem xI{d:Type}{sz:Nat}:∀{rows:List (List d)},(∀r∈rows,r.length=sz)->rows.flatten.length=rows.length*sz
 |[],_=>by simp
 |r::rows,h=>by
  have:=xI (rows:=rows) λx b=>h x (arj _ b);simp only[arv,ara,ar0,this,h r arl,arF,atg];omega
def Al(w:World):Nat->Nat->Prop:=λc _=>c<w.heap.size
theorem A1{w:World}{a:Addr}{v:Value}(h:w.cell? a=aa v):a.block<w.heap.size/\a.spot=ab:=by
 unfold World.cell? at h;split at h
 .rename_i b;split at h
  .simp at h
  .rename_i d;refine⟨?_,by simpa using d⟩;exact(Array.getElem?_eq_some_iff.1 b).1
 .simp at h
theorem A2.flatten{j l:Type}{R:j->l->Prop}{g:List (List j)}{d:List (List l)}(hl:g.length=d.length)
  (h:∀(i:Nat) xs ys,g[i]?=aa xs->d[i]?=aa ys->A2 R xs ys):A2 R g.flatten d.flatten:=by
 induction g generalizing d with
 |nil=>cases d with
  |nil=>exact A2.nil| cons y ys=>simp at hl
 |cons x xs q=>cases d with
  |nil=>simp at hl
  |cons y ys=>
   rw[arv,arv];exact(h 0 x y rfl rfl).append (q (by simpa using hl) λi a b m hb=>h (i+1) a b (by simpa using m) (by simpa using hb))
section
variable{H:Type}{enc:TypeId × Value->H}{P:Program}{w:World}{base:Nat}{spare:Nat->Bool}{held:Bool}{σ:Nat->FuncId}
def ane(σ:Nat->FuncId)(P:Program)(w:World)(n:Nat)(t:TypeId)(cs:List Value):Prop:=∃xs,A2 (cS σ (Al w) w) xs cs/\nL P n t xs
theorem qo{n:Nat}(v:∀{t:TypeId} {fuel:Nat} {cs:List Value} {x:DataW H × List MemPlace},fS P n t=ae->DataW.trod enc P w base spare held fuel t cs=aa x->ane σ P w n t cs/\cs.length=P.cellsOf t)
  {fuel:Nat}:∀(b:List Field) (o N:Nat) (cs:List Value),yQ P b o N=ae->(b.all λf=>fS P n f.type)=ae->cs.length=N->
   (∀f∈b,∃x,DataW.trod enc P w base spare held fuel f.type ((cs.drop f.offset).take (P.cellsOf f.type))=aa x)->
   ∃xs,A2 (cS σ (Al w) w) xs (cs.drop o)/\tL (nL P n) (b.map (·.type)) xs
 |[],o,N,cs,d,_,m,_=>by
  simp[yQ]at d;exact⟨[],by rw[asH (by omega)];exact A2.nil,rfl⟩
 |f::b,o,N,cs,d,l,m,u=>by
  simp only[yQ,aq3,beq_iff_eq]at d;simp only[List.all_cons,aq3]at l;obtain⟨x,j⟩:=u f arl;rw[d.1]at j;obtain⟨⟨p,z,B⟩,s⟩:=v l.1 j;obtain⟨q,A,E⟩:=qo v b (o+P.cellsOf f.type) N cs d.2 l.2 m λg y=>u g (arj _ y);refine⟨p++q,?_,p,q,rfl,B,E⟩;have:cs.drop o=(cs.drop o).take (P.cellsOf f.type)++cs.drop (o+P.cellsOf f.type):=by
   rw[<-asB,ar8]
  rw[this];exact z.append A
theorem Yf(c o n k:Nat):((⟨c,o,ab⟩:Addr).add n).add k=⟨c,o+(n+k),ab⟩:=by
 unfold Addr.add;by_cases b:n=0<;>by_cases d:k=0<;>simp[b,d];omega
theorem aam{t e:TypeId}{k n:Nat}{cs:List Value}{x:DataW H × List MemPlace}(j:P.underlying t=aa (.array k e))(h:DataW.trod enc P w base spare held (n+1) t cs=aa x) :
  cs.length=P.cellsOf t/\∀i,i<k->∃y,DataW.trod enc P w base spare held n e ((cs.drop (i*P.cellsOf e)).take (P.cellsOf e))=aa y:=by
 unfold DataW.trod at h;rw[j]at h;simp only[Option.ite_none_right_eq_some,aq5]at h;obtain⟨g,xs,d,l⟩:=h;refine⟨g,λi hi=>?_⟩;have:=mapM_some_get d i i (by simp[hi]);have b:xs.length=k:=by simpa using mapM_some_length d
 rw[aq2 (by omega)]at this;exact⟨_,this⟩
theorem tT{j:Type}{sz:Nat}:∀{k:Nat} {cs:List j},cs.length=k*sz->cs=((List.range k).map λi=>(cs.drop (i*sz)).take sz).flatten
 |0,cs,h=>by simp at h;simp[h]
 |k+1,cs,h=>by
  have d:(cs.take (k*sz)).length=k*sz:=by rw[arT,h,arF];omega
  have g:=tT d;rw[List.range_succ,asI,asx];have e:((List.range k).map λi=>(cs.drop (i*sz)).take sz)=(List.range k).map λi=>((cs.take (k*sz)).drop (i*sz)).take sz:=by
   refine List.map_congr_left λi hi=>?_;have b:i<k:=by simpa using hi
   have:(i+1)*sz<=k*sz:=arL _ b;rw[arF]at this;rw[List.drop_take,atf,asK (by omega)]
  rw[e,<-g];simp only[arf,List.map_nil,arv,List.flatten_nil,asq];have:(cs.drop (k*sz)).take sz=cs.drop (k*sz):=arw (by rw[aru,h,arF];omega);rw[this,ar8]
theorem ap7{n:Nat}:∀{t:TypeId} {fuel:Nat} {cs:List Value} {x:DataW H × List MemPlace},fS P n t=ae->DataW.trod enc P w base spare held fuel t cs=aa x->
  ane σ P w n t cs/\cs.length=P.cellsOf t:=by
 induction n with
 |zero=>intro t fuel cs x g;simp[fS]at g
 |succ n ih=>
  intro t fuel cs x g h;simp only[fS]at g;split at g
  .rename_i j;obtain⟨b,rfl,_⟩:=DataW.trod_bool j h;exact⟨⟨[.bool b],.cons (.bool b) .nil,by simp only[nL,j];exact⟨b,rfl⟩⟩,by simp at g;simp[g]⟩
  .rename_i k j;obtain⟨m,rfl,_,hw⟩:=DataW.trod_int j h;exact⟨⟨[.int k m],.cons (.int k m) .nil,by simp only[nL,j];exact⟨m,rfl,hw⟩⟩,by simp at g;simp[g]⟩
  .rename_i j;obtain⟨s,rfl,_,hw⟩:=DataW.trod_string j h;exact⟨⟨[.str s],.cons (.str s) .nil,by simp only[nL,j];exact⟨s,rfl,hw⟩⟩,by simp at g;simp[g]⟩
  .rename_i e j;simp only[aq3,beq_iff_eq,bne_iff_ne]at g;obtain⟨⟨I,d5⟩,he⟩:=g;rcases DataW.trod_slice j h with⟨rfl,_⟩|⟨a,len,cap,Z,rest,m,_,rfl,_,hb,J,hm,c6,b7,_,_⟩
   .exact⟨⟨[sl .nil []],.cons .aw .nil,by simp only[nL,j];exact⟨.nil,[],rfl,λr l=>by simp at l,by simp,λr l=>by simp at l⟩⟩,by simpa using I.symm⟩
   .refine⟨?_,by simpa using I.symm⟩;have A:∀i,i<len->∃p:List Value × List FC,w.cells? base (a.add (i*P.cellsOf e)) (P.cellsOf e)=aa p.1/\A2 (cS σ (Al w) w) p.2 p.1/\nL P n e p.2:=by
     intro i hi;have:=b7 i hi;rw[aq2 (by omega)]at this;obtain⟨cs',I,Q⟩:=arH.1 this;obtain⟨⟨xs,ha,g⟩,_⟩:=ih he Q;exact⟨(cs',xs),I,ha,g⟩
    obtain⟨p,L⟩:=Go.Deep.choose_lt A;by_cases h0:len=0
    .subst h0;refine⟨[sl .fs []],.cons (.fs0 a cap) .nil,?_⟩;simp only[nL,j];exact⟨.fs,[],rfl,λr l=>by simp at l,by simp,λr l=>by simp at l⟩
    have E:a.spot=ab:=by
     have:=L 0 (by omega);obtain⟨_,c9,a8⟩:=World.cells?_some this.1;have:=a8 0 (by omega);rw[aq2 (by omega)]at this;have:=(A1 this).2;simpa[Addr.add]using this
    obtain⟨c,o,sp⟩:=a;simp only at E;subst E
    let d:=(List.range len).map λi=>(p i).1
    let rows:=(List.range len).map λi=>(p i).2
    have Y:∀v∈d,v.length=P.cellsOf e:=by
     intro v Y;obtain⟨i,hi,rfl⟩:=arx.1 Y;exact(World.cells?_some (L i (by simpa using hi)).1).2.1
    have hg:cd (P.cellsOf e) rows:=by
     intro r l;obtain⟨i,hi,rfl⟩:=arx.1 l;obtain⟨I,Q,_⟩:=L i (by simpa using hi);rw[Q.len,(World.cells?_some I).2.1]
    have hA:A2 (cS σ (Al w) w) rows.flatten d.flatten:=by
     refine A2.flatten (by simp[rows,d]) λi xs ys F K=>?_;simp only[rows,d,asf,aq5]at F K;obtain⟨i1,N,rfl⟩:=F;obtain⟨i2,O,rfl⟩:=K;rw[N]at O;cases O;have:=arh N;exact(L i1 (by simpa using this)).2.1
    have B:∀i u,d.flatten[i]?=aa u->w.cell? ⟨c,o+i,ab⟩=aa u:=by
     intro i u X;have hi:i<d.flatten.length:=(aq4.1 X).1;rw[xI Y]at hi;have c5:d.length=len:=by simp[d]
     rw[c5]at hi;have M:i / P.cellsOf e<len:=Nat.div_lt_of_lt_mul (by rw[as9];exact hi);have hk:i % P.cellsOf e<P.cellsOf e:=Nat.mod_lt _ (by omega);have z:i=i / P.cellsOf e*P.cellsOf e+i % P.cellsOf e:=by rw[as9];exact(Nat.div_add_mod _ _).symm
     have W:d[i / P.cellsOf e]?=aa (p (i / P.cellsOf e)).1:=by simp[d,M]
     rw[z,rI Y W hk]at X;obtain⟨_,_,hc⟩:=World.cells?_some (L _ M).1;have:=hc _ hk;rw[X]at this;rw[<-this,Yf,<-z]
    refine⟨[sl .fs rows],.cons ?_ .nil,?_⟩
    .have b_:rows≠[]:=by simp[rows];omega
     have U:rows.length=len:=by simp[rows]
     have:sl Tg.fs rows=.fs rows.flatten len:=by
      cases l:rows with
      |nil=>exact absurd l b_| cons r rs=>simp only[sl,atH,arq,if_false];rw[<-l,U]
     rw[this];refine .fs rows.flatten len c o cap d.flatten J hA.len.symm (λi hi=>?_) B λi x u F X=>hA.2 i x u F X;have z:i<d.flatten.length:=by rw[<-hA.len];exact hi
     exact(A1 (B i _ (aq2 z))).1
    .simp only[nL,j];have U:rows.length=len:=by simp[rows]
     refine⟨.fs,rows,rfl,hg,by omega,λr l=>?_⟩;obtain⟨i,hi,rfl⟩:=arx.1 l;exact(L i (by simpa using hi)).2.2
  .rename_i fs j;simp only[aq3]at g;obtain⟨xs,m,_,_,J,_,F⟩:=DataW.trod_struct j h;refine⟨?_,J⟩;obtain⟨ys,I,Q⟩:=qo (n:=n) (fuel:=m) ih fs.toList 0 _ cs g.1 g.2 J λf hf=>by
    obtain⟨i,hi⟩:=asl hf;rw[Array.getElem?_toList]at hi;have:=F i f hi;rw[this];have c_:i<fs.size:=(Array.getElem?_eq_some_iff.1 hi).1;exact⟨_,aq2 (by omega)⟩
   exact⟨ys,by simpa using I,by simp only[nL,j];exact Q⟩
  .rename_i k e j;simp only[aq3,beq_iff_eq]at g;obtain⟨S,he⟩:=g;cases fuel with
   |zero=>simp[DataW.trod]at h
   |succ m=>
   obtain⟨J,F⟩:=aam j h;refine⟨?_,J⟩;have A:∀i,i<k->∃q:List FC,A2 (cS σ (Al w) w) q ((cs.drop (i*P.cellsOf e)).take (P.cellsOf e))/\nL P n e q:=by
    intro i hi;obtain⟨y,K⟩:=F i hi;obtain⟨⟨q,a,b⟩,_⟩:=ih he K;exact⟨q,a,b⟩
   obtain⟨q,M⟩:=Go.Deep.choose_lt A
   let rows:=(List.range k).map q
   have a_:cs=((List.range k).map λi=>(cs.drop (i*P.cellsOf e)).take (P.cellsOf e)).flatten:=tT (by rw[J,S]);refine⟨rows.flatten,?_,?_⟩
   .rw[a_];refine A2.flatten (by simp[rows]) λi xs ys F K=>?_;simp only[rows,asf,aq5]at F K;obtain⟨i1,N,rfl⟩:=F;obtain⟨i2,O,rfl⟩:=K;rw[N]at O;cases O;have:=arh N;exact(M i1 (by simpa using this)).1
   .simp only[nL,j];refine⟨rows,rfl,by simp[rows],λr l=>?_,λr l=>?_⟩
    .obtain⟨i,hi,rfl⟩:=arx.1 l;have z:i<k:=by simpa using hi
     rw[(M i z).1.len,arT,aru,J,S];have:(i+1)*P.cellsOf e<=k*P.cellsOf e:=arL _ z;rw[arF]at this;omega
    .obtain⟨i,hi,rfl⟩:=arx.1 l;exact(M i (by simpa using hi)).2
  .simp at g
end
section
variable{P:Program}{n:Nat}{t e:TypeId}{xs:List FC}
theorem jh{k:IntKind}(b:P.underlying t=aa (.int k))(h:nL P (n+1) t xs):∃m,xs=[.int k m]/\(Lit.int k m).wf=ae:=by simpa only[nL,b]using h
theorem pX(b:P.underlying t=aa (.slice e))(h:nL P (n+1) t xs):∃g rows,xs=[sl g rows]/\cd (P.cellsOf e) rows/\rows.length<=maxLen/\∀r∈rows,nL P n e r:=by simpa only[nL,b]using h
theorem AA{d:Array Field}{ts:List TypeId}(g:P.underlying t=aa (.struct d))(b:d.toList.map (·.type)=ts)(h:nL P (n+1) t xs):tL (nL P n) ts xs:=by
 subst b;simpa only[nL,g]using h
theorem agP{k:Nat}(b:P.underlying t=aa (.array k e))(h:nL P (n+1) t xs):∃rows,xs=rows.flatten/\rows.length=k/\cd (P.cellsOf e) rows/\∀r∈rows,nL P n e r:=by simpa only[nL,b]using h
theorem mH{S:TypeId->List FC->Prop}{ts:List TypeId}(h:tL S (t::ts) xs):∃p q,xs=p++q/\S t p/\tL S ts q:=h
theorem qR{d:Type}{enc:d->List FC}{p:d->Prop}:∀{rows:List (List FC)},(∀r∈rows,∃x,r=enc x/\p x)->∃l:List d,rows=l.map enc/\∀x∈l,p x
 |[],_=>⟨[],rfl,by simp⟩
 |r::rows,h=>by
  obtain⟨x,rfl,m⟩:=h r arl;obtain⟨l,rfl,g⟩:=qR λr j=>h r (arj _ j);exact⟨x::l,rfl,λy b=>by
   rcases arM.1 b with rfl|b
   .exact m
   .exact g y b⟩
end
end
section
open Go Go.ChangeShapes Go.WideShapes Go.ChangeAt Go.RowKit
def pz(P:Program)(t:TypeId)(a:V):Prop:=(∃xs,a=.a (xs.map .f)/\nL P 40 t xs/\(∃d,P.underlying t=aa d/\((∃b,d=.struct b)\/∃n e,d=.array n e)))\/
 (∃x,a=.c (.f x)/\nL P 40 t [x])
def qG(P:Program):List TypeId->List V->Prop
 |[],as=>as=[]| t::ts,as=>∃a bs,as=a::bs/\pz P t a/\qG P ts bs
section
variable{H:Type}{enc:TypeId × Value->H}{P:Program}{W W':World}
theorem tj{f:Func}{s:ChangeSpec}{g B l A:Bool}{args:Array Value}{v:Value}{ds I:List (DataW H)}{d pa pv:List MemPlace}
  (L:DataW.Whole enc P f.params.toList s.vars g W args.toList ds I d)
  (z:∀(b:Nat) (F:Nat->Bool) (Q:Bool),DataW.TrodAll enc P W' b F Q f.resultTypes.toList (v.resultList f.resultTypes.size) (s.fn H (ds++I)).results [])
  (m:∀F:Nat->Bool,(∀p∈d,F p.block=ae)->DataW.TrodAll enc P W' 0 F ae f.params.toList args.toList (s.fn H (ds++I)).args pa)
  (u:∀F:Nat->Bool,(∀p∈d,F p.block=ae)->DataW.TrodVars enc P W' F s.vars (s.fn H (ds++I)).vars pv)
  (x:d=pa++pv) (N:Below W.heap.size W W')
  (M:∀(j:Nat) (t:TypeId) (r:Value),f.resultTypes[j]?=aa t->(v.resultList f.resultTypes.size)[j]?=aa r->Value.okWide P W' .any 0 t r) :
  s.post enc P f g B l A W args v W':=by
 have J:∀p∈d,p.block<W.heap.size:=λp q=>L.lt p q;have y:∀p∈d,(λb=>decide (b<W.heap.size)) p.block=ae:=λp q=>by simpa using J p q
 refine⟨ds,I,d,[],pa,pv,L,z _ _ _,m _ y,u _ y,World.keptBut_mono (λp q=>⟨q,?_⟩) (N.frame (·∈d)),λ_=>?_⟩
 .rw[x,List.mem_append]at q;exact Or.inr q
 .obtain⟨_,_,_,_,_,U,S⟩:=L;refine⟨M,_,_,([]++pa)++pv,⟨[]++pa,pv,trodAll_append (m _ (λ_ _=>rfl)) (z _ _ _),u _ (λ_ _=>rfl),rfl,?_,?_⟩,?_⟩
  .intro b E q;have K:MemPlace.cell b E∈d:=by rw[x];simpa using q
   rw[N.frozen (p:=⟨b,E,ab⟩) (J _ K)];exact U b E K
  .intro O;have:=S O;rw[x]at this;simpa using this
  .intro p q _;rw[x];simpa using q
theorem nJ(s:laidOutB P=ae){y:Nat->Bool}(m:Below W.heap.size W W'):∀{ts:List TypeId} {l:List Value} {ds:List (DataW H)} {ps:List MemPlace},
  (ts.all λt=>P.readableRec t&&decide (t<P.types.size))=ae->DataW.TrodAll enc P W 0 (λ_=>ae) ae ts l ds ps->(∀p∈ps,p.block<W.heap.size)->(∀p∈ps,y p.block=ae)->
  DataW.TrodAll enc P W' 0 y ae ts l ds ps
 |[],[],[],ps,_,h,_,_=>h
 |t::ts,v::l,d::ds,ps,j,⟨p,q,z,A,e⟩,g,u=>by
  subst e;simp only[List.all_cons,aq3,decide_eq_true_eq]at j;exact⟨p,q,WideElems.Trod_stays s j.1.1 j.1.2 z (λx b=>m.same (g x (ar4 _ b))) (λx b=>u x (ar4 _ b)),
   nJ s m j.2 A (λx b=>g x (asA _ b)) (λx b=>u x (asA _ b)),rfl⟩
 |[],_::_,_,_,_,h,_,_=>by cases h
 |[],[],_::_,_,_,h,_,_=>by cases h
 |_::_,[],_,_,_,h,_,_=>by cases h
 |_::_,_::_,[],_,_,h,_,_=>by cases h
variable{σ:Nat->FuncId}
def X0(W:World):Wd:=⟨λ_=>ab,Al W,[],W,W.heap.size⟩
theorem aao{xs:List FC}{cs:Array Value}(h:A2 (cS σ (Al W) W) xs cs.toList):VR σ (X0 W) (.a (xs.map .f)) (.agg cs):=
 ⟨cs.toList,by simp,A2.map (g:=C.f) (h.kH λ_ _ h=>h)⟩
theorem Yo{t:TypeId}{v:Value}{d:DataW H}{ps:List MemPlace}{base:Nat}{spare:Nat->Bool}{held:Bool}{b0:Nat}(s:fS P 40 t=ae)(g:Value.okWide P W .any b0 t v)
  (E:DataW.Trod enc P W base spare held t v d ps):∃a,VR σ (X0 W) a v/\pz P t a:=by
 obtain⟨fuel,q⟩:=E;obtain⟨⟨xs,m,u⟩,I⟩:=ap7 (σ:=σ) s q;have l:v.cells.toList=[v]->∃a,VR σ (X0 W) a v/\pz P t a:=by
  intro F;rw[F]at m
  match xs,m.len with
  |[x],_=>exact⟨.c (.f x),m.of_cons.1,.inr ⟨x,rfl,u⟩⟩
 unfold fS at s;unfold Value.okWide at g;split at g
 .rename_i y j;obtain⟨cs,rfl,_,_⟩:=g;exact⟨_,aao m,.inl ⟨xs,rfl,u,_,j,.inl ⟨_,rfl⟩⟩⟩
 .rename_i n e j;obtain⟨cs,rfl,_,_⟩:=g;exact⟨_,aao m,.inl ⟨xs,rfl,u,_,j,.inr ⟨_,_,rfl⟩⟩⟩
 .rename_i A B;refine l ?_;split at s
  .rename_i j;obtain⟨b,z,_⟩:=DataW.trod_bool j q;simp only[Cell.okWide,j,Cell.ok]at g;cases v<;>simp_all [Value.cells]
  .rename_i j;obtain⟨b,z,_⟩:=DataW.trod_int j q;simp only[Cell.okWide,j,Cell.ok]at g;cases v<;>simp_all [Value.cells]
  .rename_i j;obtain⟨b,z,_⟩:=DataW.trod_string j q;simp only[Cell.okWide,j,Cell.ok]at g;cases v<;>simp_all [Value.cells]
  .rename_i j;simp only[Cell.okWide,j,Cell.ok]at g;cases v<;>simp_all [Value.cells]
  .rename_i y j;exact absurd j (A y)
  .rename_i n e j;exact absurd j (B n e)
  .simp at s
theorem tN{base:Nat}{spare:Nat->Bool}{held:Bool}{b0:Nat}:∀{ts:List TypeId} {g:List Value} {ds:List (DataW H)} {ps:List MemPlace},(ts.all λt=>fS P 40 t)=ae->
  (∀(j:Nat) t v,ts[j]?=aa t->g[j]?=aa v->Value.okWide P W .any b0 t v)->DataW.TrodAll enc P W base spare held ts g ds ps->
  ∃as,A2 (VR σ (X0 W)) as g/\qG P ts as
 |[],[],[],_,_,_,_=>⟨[],A2.nil,rfl⟩
 |t::ts,v::g,d::ds,ps,l,b,⟨p,q,s,u,_⟩=>by
  simp only[List.all_cons,aq3]at l;obtain⟨a,x,z⟩:=Yo (σ:=σ) l.1 (b 0 t v rfl rfl) s;obtain⟨bs,y,A⟩:=tN l.2 (λj t v h m=>b (j+1) t v (by simpa using h) (by simpa using m)) u;exact⟨a::bs,.cons x y,a,bs,rfl,z,A⟩
 |[],_::_,_,_,_,_,h=>by cases h
 |[],[],_::_,_,_,_,h=>by cases h
 |_::_,[],_,_,_,_,h=>by cases h
 |_::_,_::_,[],_,_,_,h=>by cases h
theorem afc{n:Nat}{H:aj}{v:V}{b:Bool}(h:jy (n+1) H v=aa (.c (.f (.bool b)))):v=.c (.f (.bool b)):=by
 cases v with
 |top=>simp[jy,de]at h| a xs=>simp[jy,de]at h| t xs=>simp[jy]at h
 |c x=>
  simp only[jy,de,aq5]at h;obtain⟨y,d,h⟩:=h;cases h;cases x with
  |f x=>simpa[eT]using d| ptr b o e=>simp only[eT]at d;split at d<;>simp at d
  |sl b o l c e s=>
   simp only[eT]at d;split at d
   .split at d<;>simp at d
   .split at d<;>simp at d
   .split at d<;>simp at d
   .split at d<;>simp at d
   .simp at d
  |cl f g=>simp[eT]at d| _=>simp[eT]at d
variable{tab:TB}
theorem As(x:Env P σ tab.get tab.wi){f:Nat}{args:List V}{us:List Value}(h:bH tab f args (vb ae))(W:World)(z:A2 (VR σ (X0 W)) args us) :
  Calls P (σ f) us.toArray W λe w'=>e=.returned (.bool ae)/\Below W.heap.size W w':=by
 obtain⟨r,H',⟨m,d,h⟩,j⟩:=h;have j:=afc (n:=63) j;subst j;intro cs
 let X:=X0 W
 have y:SR P σ X:=⟨λb L h=>by simp[X,X0]at h,λb M L K h=>by simp[X,X0]at h,λc i h=>h⟩
 obtain⟨q,X',u,s,⟨E,F,H,l,fn,I,J⟩,N,O,v,g,Q⟩:=(Yx x m d).fn f args [] _ H' h X us .normal cs rfl y (aq9 _) z (.inl rfl) (.inl rfl);have B:=VR.bool v;subst B;exact⟨.returned (.bool ae),X'.w,q,⟨rfl,⟨g.os,g.tape,g.output,g.size,λk A=>g.frame k A (λb L h=>by simp[X,X0]at h)⟩⟩,s,l,E,F,H,fn,by rw[l];exact I,J⟩
theorem Y2(hE:Env P σ tab.get tab.wi){s:ChangeSpec}{f:Func}{fi:Nat}{tb:TypeId}(x:s.vars=[])(B:laidOutB P=ae){ts:List TypeId}(F:f.params.toList=ts)
  (O:∀ds:List (DataW H),ds.length=ts.length->s.fn H ds=⟨[.lit (.bool ae)],ds,[]⟩)
  (y:f.resultTypes=#[tb]) (K:P.underlying tb=aa .bool) (E:(ts.all λt=>P.readableRec t&&decide (t<P.types.size))=ae) (u:(ts.all λt=>fS P 40 t)=ae)
  (Q:∀as,qG P ts as->bH tab fi as (vb ae)) {g A l z:Bool} {base:Nat} {args:Array Value} {ds gs:List (DataW H)} {d:List MemPlace}
  (L:∀(j:Nat) t v,f.params[j]?=aa t->args[j]?=aa v->Value.okWide P W .any base t v) (X:DataW.Whole enc P f.params.toList s.vars g W args.toList ds gs d) :
  Calls P (σ fi) args W λe W'=>∃v,e=.returned v/\s.post enc P f g A l z W args v W':=by
 have I:=X;obtain⟨p,q,N,U,Y,a8,a_⟩:=X;rw[F]at N;rw[x]at U;obtain⟨rfl,rfl⟩:=trodVars_none U;simp only[asq]at Y;subst Y;obtain⟨as,h1,h2⟩:=tN (σ:=σ) (b0:=base) u (λj t v h h'=>L j t v (by rw[<-Array.getElem?_toList,F];exact h) (by rw[<-Array.getElem?_toList];exact h')) N;have J:ds.length=ts.length:=by
  have:∀{ts:List TypeId} {M:List Value} {ds:List (DataW H)} {ps:List MemPlace},DataW.TrodAll enc P W 0 (λ_=>ae) ae ts M ds ps->ds.length=ts.length:=by
   intro ts;induction ts with
   |nil=>intro M ds ps h;cases M<;>cases ds<;>first|rfl|cases h
   |cons t ts ih=>intro M ds ps h;cases M<;>cases ds<;>first|(obtain⟨_,_,_,h,_⟩:=h;simp[ih h])|cases h
  exact this N
 have m:=O ds J;have hc:=As hE (Q as h2) W h1;rw[Array.toArray_toList]at hc;refine hc.mono λe W' h=>?_;obtain⟨he,Z⟩:=h;subst he;refine⟨_,rfl,tj (pa:=d) (pv:=[]) I (λb sp hd=>?_) (λsp S=>?_) (λsp _=>?_) (by simp) Z ?_⟩
 .rw[asq,m,y];exact trodAll_mk1 (shut_bool K _)
 .rw[asq,m,F];exact nJ B Z E N (λp hp=>I.lt p hp) S
 .rw[asq,m,x];exact rfl
 .exact ok_one y rfl (okWide_bool_mk K _)
end
end
section
open Go
section
variable{tab:TB}{f:Nat}{args:List V}{r:V}{fn:Nat}{k:List cO}{t:T}{ds:List fL}{H H':aj}{Q:Option ax->St->Prop}
theorem gH{x:Arg}{ps:List P}{as bd:ax}{g:Nat}{q:List V}(z:bX (x.ev t) [.c (.yl (H.length+1))]=aa (.fn g,q))
  (b:Ev tab (.fn g) q (H++[.fj ae,.lp fn t ps as bd .ready ab H.length]) r H')
  (h:WP tab fn ab (.iZ (H.length+1)::k) ⟨t,.gB H.length::ds,H'⟩ Q):WP tab fn ab (.code (.fK x ps as bd)::k) ⟨t,ds,H⟩ Q:=by
 obtain⟨m,d,b⟩:=b;obtain⟨n,l,d',j,A,v,y⟩:=h;refine⟨n+1,max m l,max d d',j,A,?_,y⟩;have s:=iY (tab:=tab) (arV m l) (arV d d') _ _ _ _ b;have u:=sG (arK m l) (arK d d') (aq9 n) v;simp only[run,z,s,u];simp
theorem iL{ro:Option Nat}{b j d:Nat}{l:T}{ps:List P}{as bd:ax}{st:dt}(q:H[b]?=aa (.lp j l ps as bd st ab d))(g:st≠.busy)
  (h:WP tab fn ro k ⟨t,ds,H.set b (.lp j l ps as bd .exhausted ab d)⟩ Q):WP tab fn ro (.iZ b::k) ⟨t,ds,H⟩ Q:=by
 refine gT h λm d n=>?_;simp only[run,q,aR g]
theorem na{b g d:Nat}{l:T}{ps:List P}{as bd:ax}{j:Option ax}(q:H[b]?=aa (.lp g l ps as bd .ready j d))
  (h:WP tab fn (aa b) k ⟨t,ds,H.set b (.lp g l ps as bd .busy j d)⟩ Q):WP tab fn (aa b) (.nC::k) ⟨t,ds,H⟩ Q:=by
 refine gT h λm d n=>?_;simp only[run,q]
@[simp] theorem alJ {b:Nat} {as:List V}:bX (.c (.yl b)) as=aa (.yield b,as):=rfl
def anb(b:Nat)(r:V)(H':aj)(j:Option ax)(s:St):Prop:=s.defs=[]/\∃g l ps as bd st m d,s.heap[b]?=aa (.lp g l ps as bd st m d)/\r=.c (.f (.bool j.isNone))/\
 H'=s.heap.set b (.lp g l ps as bd (if j.isNone then .ready else .done) j d)
theorem YT{b g d:Nat}{l:T}{ps:List P}{as bd:ax}{st:dt}{E:Option ax}(z:H[b]?=aa (.lp g l ps as bd st E d))(B:args.length=ps.length)
  (h:WP tab g (aa b) [.code as,.nC,.code bd] ⟨cD ps args l,[],H⟩ (anb b r H')):Ev tab (.yield b) args H r H':=by
 obtain⟨n,m,d',j,s,x,A,M,K,I,u,v,J,F,L,y,rfl,rfl⟩:=h;refine⟨max m n,d'+1,?_⟩;have q:run (CF tab (max m n) d') g (max m n) (aa b) [.code as,.nC,.code bd] ⟨cD ps args l,[],H⟩=aa (j,s):=sG (arV m n) (aq9 d') (arK m n) x;simp only[CF]at q ⊢;simp only[eK,z,B,if_true,q,A,List.isEmpty_nil,y];rfl
theorem gi{C:V->aj->Prop}{b F d:Nat}{I:T}{ps:List P}{as bd:ax}{st:dt}{M:Option ax}(K:H[b]?=aa (.lp F I ps as bd st M d))(L:args.length=ps.length)
  (h:∀Q:Option ax->St->Prop,(∀j s z u q g l x v y,s.defs=[]->s.heap[b]?=aa (.lp z u q g l x v y)->
   C (.c (.f (.bool j.isNone))) (s.heap.set b (.lp z u q g l (if j.isNone then .ready else .done) j y))->Q j s)->WP tab F (aa b) [.code as,.nC,.code bd] ⟨cD ps args I,[],H⟩ Q):∃r H',Ev tab (.yield b) args H r H'/\C r H':=by
 have J:=h (λj s=>∃r H',C r H'/\anb b r H' j s) λj s z u q g l x v y A B E=>⟨_,_,E,A,z,u,q,g,l,x,v,y,B,rfl,rfl⟩
 obtain⟨n,m,d',j,s,A,r,H',B,E⟩:=J;exact⟨r,H',YT K L ⟨n,m,d',j,s,A,E⟩,B⟩
def ana(d:List gl)(r:V)(s:St):Prop:=∃b,s.defs=[.gB b]/\s.heap[b]?=aa (.fj ae)/\∃g,results s.aF (s.heap.set b (.fj ag)) d=aa g/\jy deep (s.heap.set b (.fj ag)) g=aa r
theorem mF{S:V->Prop}{ps:List P}{g:List gl}{body:ax}(A:tab f=aa ⟨ps,g,body⟩)(y:args.length=ps.length)
  (h:∀Q:Option ax->St->Prop,(∀j s r,S r->nB g r s\/ana g r s->Q j s)->WP tab f ab [.code body] ⟨cD ps args .e,[],[]⟩ Q):∃r,S r/\bH tab f args r:=by
 have B:=h (λ_ s=>∃r,S r/\(nB g r s\/ana g r s)) λ_ _ r q l=>⟨r,q,l⟩
 obtain⟨n,m,d,j,s,q,r,z,⟨v,x,l,u⟩|⟨b,v,E,x,l,u⟩⟩:=B
 .exact⟨r,z,x,s.heap,oE A y ⟨n,m,d,j,s,q,0,0,s.heap,by rw[v];rfl,l,rfl⟩,u⟩
 .exact⟨r,z,x,s.heap.set b (.fj ag),oE A y ⟨n,m,d,j,s,q,0,0,_,by rw[v];simp only[en,E],l,rfl⟩,u⟩
theorem cz{C:V->aj->Prop}{ps:List P}{b:List gl}{body:ax}(y:tab f=aa ⟨ps,b,body⟩)(x:args.length=ps.length)
  (h:∀Q:Option ax->St->Prop,(∀j s r,s.defs=[]->results s.aF s.heap b=aa r->C r s.heap->Q j s)->WP tab f ab [.code body] ⟨cD ps args .e,[],H⟩ Q):∃r H',Ev tab (.fn f) args H r H'/\C r H':=by
 have u:=h (λ_ s=>s.defs=[]/\∃r,results s.aF s.heap b=aa r/\C r s.heap) λ_ _ r g l q=>⟨g,r,l,q⟩
 obtain⟨n,m,d,j,s,g,v,r,l,q⟩:=u;exact⟨r,s.heap,oE y x ⟨n,m,d,j,s,g,0,0,s.heap,by rw[v];rfl,l,rfl⟩,q⟩
end
end
section
open Go
theorem qz{c:dw}:∀(a b:List aN) (s:St),fz c (a++b) s=(fz c a s).bind (fz c b)
 |[],b,s=>rfl
 |o::a,b,s=>by
  simp only[List.cons_append,fz];cases fh c s o with
  |none=>rfl| some d=>exact qz a b d
theorem sQ{c:dw}:∀(os:List aN) (s:St) {d:St},fz c os s=aa d->∃ss,eA c os s=aa ss/\ss.getLast?=aa d/\∀i,i<=os.length->fz c (os.take i) s=ss[i]?
 |[],s,d,h=>by
  simp only[fz,anc]at h;subst h;refine⟨[s],rfl,rfl,λi hi=>?_⟩;have:i=0:=by simpa using hi
  subst this;rfl
 |o::os,s,d,h=>by
  simp only[fz]at h;cases b:fh c s o with
  |none=>simp[b]at h
  |some m=>
   simp only[b]at h;obtain⟨ss,g,j,l⟩:=sQ os m h;refine⟨s::ss,by simp only[eA,b,g],by rw[List.getLast?_cons,j];rfl,λi hi=>?_⟩;cases i with
   |zero=>rfl
   |succ i=>
    simp only[atw,fz,b,List.getElem?_cons_succ];exact l i (by simpa using hi)
def fY(o:aN)(b l:St):Prop:=wanted b.aF o.g=aa ag\/∃v g d j,bG b.aF b.heap o.op=aa (v,g)/\bG b.aF l.heap o.op=aa (d,j)/\v.beq d=ae
section
variable{tab:TB}{fn:Nat}{ro:Option Nat}{k:List cO}{s:St}{Q:Option ax->St->Prop}
def ag9(tab:TB)(ops:List aN)(s:St)(c:Nat × Nat):Prop:=c.2<=ops.length/\∃o,ops[c.1]?=aa o/\
 ((c.1<=c.2/\px tab (ops.take c.1) s λb=>px tab ((ops.drop c.1).take (c.2-c.1)) b λd=>fY o b d)\/
 (c.2<=c.1/\px tab (ops.take c.2) s λd=>px tab ((ops.drop c.2).take (c.1-c.2)) d λb=>fY o b d))
theorem Z6{ops:List aN}{c:Nat × Nat}(h:ag9 tab ops s c):∃m d o g j,c.2<=ops.length/\ops[c.1]?=aa o/\fz (CF tab m d) (ops.take c.1) s=aa g/\fz (CF tab m d) (ops.take c.2) s=aa j/\fY o g j:=by
 have y:∀(a b:Nat) (K:St->St->Prop),a<=b->px tab (ops.take a) s (λl=>px tab ((ops.drop a).take (b-a)) l λq=>K l q)->
   ∃m d l q,fz (CF tab m d) (ops.take a) s=aa l/\fz (CF tab m d) (ops.take b) s=aa q/\K l q:=by
  intro a b K L h;obtain⟨m,d,l,u,v⟩:=iB _ _ h;obtain⟨B,d',q,x,J⟩:=iB _ _ v;have E:=dP (iY (tab:=tab) (arV m B) (arV d d')) _ _ u;have I:=dP (iY (tab:=tab) (arK m B) (arK d d')) _ _ x;refine⟨max m B,max d d',l,q,E,?_,J⟩;have:ops.take b=ops.take a++(ops.drop a).take (b-a):=by
   have M:b=a+(b-a):=by omega
   conv=>lhs;rw[M,List.take_add]
  rw[this,qz,E];exact I
 obtain⟨F,o,H,⟨z,h⟩|⟨A,h⟩⟩:=h
 .obtain⟨m,d,g,j,u,v,x⟩:=y _ _ (λg j=>fY o g j) z h;exact⟨m,d,o,g,j,F,H,u,v,x⟩
 .obtain⟨m,d,j,g,u,v,x⟩:=y _ _ (λj g=>fY o g j) A h;exact⟨m,d,o,g,j,F,H,v,u,x⟩
theorem eu{ops:List aN}{iD:List (Nat × Nat)}(N:ro=ab\/ops.all (·.op.fH)=ae)(h:px tab ops s λU=>WP tab fn ro k U Q)(hk:∀c∈iD,ag9 tab ops s c) :
  WP tab fn ro (.code (.region ops iD)::k) s Q:=by
 obtain⟨m,d,U,h1,n,m',d',j,s2,h2,h3⟩:=iB ops s h;have b:∃M D,∀c∈iD,∃o q u,c.2<=ops.length/\ops[c.1]?=aa o/\fz (CF tab M D) (ops.take c.1) s=aa q/\fz (CF tab M D) (ops.take c.2) s=aa u/\fY o q u:=by
  clear h1 h2 h;induction iD with
  |nil=>exact⟨0,0,λc hc=>by cases hc⟩
  |cons c cs S=>
   obtain⟨M,D,S⟩:=S λc hc=>hk c (arj _ hc);obtain⟨m1,E,o,q,u,a1,y,z,A,B⟩:=Z6 (hk c arl);refine⟨max M m1,max D E,λc' g=>?_⟩;rcases arM.1 g with rfl|g
   .have l:=iY (tab:=tab) (arK M m1) (arK D E);exact⟨o,q,u,a1,y,dP l _ _ z,dP l _ _ A,B⟩
   .obtain⟨o,q,u,a1,y,z,A,B⟩:=S c' g;have l:=iY (tab:=tab) (arV M m1) (arV D E);exact⟨o,q,u,a1,y,dP l _ _ z,dP l _ _ A,B⟩
 obtain⟨M,D,b⟩:=b;obtain⟨MM,J,K,L⟩:∃x,m<=x/\m'<=x/\M<=x:=⟨max (max m m') M,by omega,by omega,by omega⟩
 obtain⟨W,F,H,I⟩:∃x,d<=x/\d'<=x/\D<=x:=⟨max (max d d') D,by omega,by omega,by omega⟩
 refine⟨n+1,MM,W,j,s2,?_,h3⟩;have Z:=dP (iY (tab:=tab) J F) ops _ h1;have e2:=sG K H (aq9 n) h2;have O:(ro.isSome&&!ops.all (·.op.fH))=ag:=by
  rcases N with rfl|N
  .rfl
  .rw[N];simp
 obtain⟨ss,f1,f2,f3⟩:=sQ ops s Z;have hx:gA (CF tab MM W) ops iD s=aa U:=by
  cases iD with
  |nil=>simpa only[gA]using Z
  |cons x xs=>
   simp only[gA,f1];rw[bw,f2];rw[ars];intro c hc;obtain⟨o,q,u,a1,y,z,A,B⟩:=b c hc;have l:=iY (tab:=tab) L I;have hi:c.1<=ops.length:=by
    have:=(aq4.1 y).1;omega
   have X:=dP l _ _ z;have Y:=dP l _ _ A;rw[f3 _ hi]at X;rw[f3 _ a1]at Y;simp only[sameAt,y,X,Y];rcases B with hw|⟨v,H1,v',H2,g1,g2,g3⟩
   .rw[hw]
   .split
    .rfl
    .simp only[g1,g2,g3]
 simp only[run,O,hx,e2];simp
end
end
section
open Go
theorem uh(l:List Int):(ints l).flatten=l.map fi:=by
 induction l with
 |nil=>rfl| cons m l b=>simp only[ints,arf,arv]at b ⊢;rw[b];rfl
theorem jb{n:Nat}:∀(l:List C) (H:aj),(∀x∈l,∃y,x=.f y)->l.foldl (λH x=>fk n x H) H=H
 |[],_,_=>rfl
 |x::l,H,h=>by
  obtain⟨y,rfl⟩:=h x arl;simp only[asU,ahf];exact jb l H λx b=>h x (arj _ b)
end
section
open Go
def RB(H:aj)(b sz ep:Nat)(rows:List (List FC)):Prop:=H[b]?=aa (.cK sz (rows.flatten.map .f) 0 ep .loc)
def Fm(b:Nat)(H H':aj):Prop:=H.length<=H'.length/\∀d:Nat,d≠b->d<H.length->H'[d]?=H[d]?
theorem Fm.refl{b:Nat}(H:aj):Fm b H H:=⟨aq9 _,λ_ _ _=>rfl⟩
theorem Fm.trans{b:Nat}{H H' d:aj}(h:Fm b H H')(j:Fm b H' d):Fm b H d:=
 ⟨Nat.le_trans h.1 j.1,λg e l=>(j.2 g e (Nat.lt_of_lt_of_le l h.1)).trans (h.2 g e l)⟩
theorem Fm.push{b:Nat}(H J:aj):Fm b H (H++J):=⟨by simp,λd _ l=>aq1 l⟩
theorem Fm.set{b:Nat}(H:aj)(x:cH):Fm b H (H.set b x):=⟨by simp,λd e _=>aq0 (Ne.symm e)⟩
theorem Fm.get{b:Nat}{H H':aj}(h:Fm b H H'){d:Nat}{x:cH}(hb:H[d]?=aa x)(e:d≠b):H'[d]?=aa x:=by rw[h.2 d e (av hb)];exact hb
theorem yJ{sz:Nat}{row:List FC}(q:row.length=sz):∀{rows:List (List FC)} {j:Nat},cd sz rows->j<rows.length->
  rows.flatten.take (j*sz)++row++rows.flatten.drop (j*sz+sz)=(rows.set j row).flatten
 |[],_,_,d=>by simp at d
 |r::rows,0,b,_=>by
  have:=b r arl;subst this;simp
 |r::rows,j+1,b,d=>by
  have g:=b r arl;have u:=yJ q (rows:=rows) (j:=j) (λx s=>b x (arj _ s)) (by simpa using d);simp only[arv,List.set_cons_succ];rw[<-u];have l:(j+1)*sz=r.length+j*sz:=by rw[g,arF];omega
  have m:(j+1)*sz+sz=r.length+(j*sz+sz):=by omega
  rw[m,l,List.take_append,ath];simp[arw,arZ]
section
variable{H:aj}{b sz ep j:Nat}{rows:List (List FC)}{row:List FC}
theorem RB.lt(h:RB H b sz ep rows):b<H.length:=av h
theorem RB.push(h:RB H b sz ep rows)(J:aj):RB (H++J) b sz ep rows:=by
 unfold RB at *;rw[aq1 (av h)];exact h
theorem RB.len(h:RB H b sz ep rows){o l c:Nat}:aV H (.sl b o l c ep sz)=aa l:=by
 unfold RB at h;simp[aV,h]
theorem RB.idx(h:RB H b sz ep rows){n c:Nat}{k:IntKind}{i:Int}(h0:0<=i)(hi:i<n){o:Nat}:bg H sz ab (.c (.sl b o n c ep sz)) (.c (.f (.int k i)))=aa (.c (.ptr b (o+i.toNat*sz) ep)):=by
 unfold RB at h;simp only[bg,fE,h0,hi,if_true,h,and_self]
theorem RB.ldr(h:RB H b sz ep rows)(hg:cd sz rows)(g:rows[j]?=aa row):bF H (aa sz) (.c (.ptr b (j*sz) ep))=aa (.a (row.map .f)):=by
 unfold RB at h;have d:row.length=sz:=hg row (arh g);have:=rC (k:=0) hg g (by omega);simp only[aD,h,if_true];rw[<-List.map_drop];rw[Nat.add_zero]at this;rw[this];have h1:(row.map C.f++((rows.drop (j+1)).flatten.map C.f)).take sz=row.map C.f:=by
  rw[arO (by simp[d]),arw (by simp[d])]
 simp[d]
theorem RB.str(h:RB H b sz ep rows)(hg:cd sz rows)(m:j<rows.length)(l:row.length=sz) :
  ∃H',dC H (.ptr b (j*sz) ep) (row.map .f)=aa H'/\RB H' b sz ep (rows.set j row)/\Fm b H H'/\H'.length=H.length:=by
 have hl:=dA hg;have g:(j+1)*sz<=rows.length*sz:=arL _ m;have d:j*sz+sz<=rows.flatten.length:=by rw[hl];rw[arF]at g;omega
 unfold RB at h ⊢;refine⟨H.set b (.cK sz ((rows.set j row).flatten.map .f) 0 ep .loc),?_,?_,Fm.set _ _,by simp⟩
 .simp only[bC,h,ast,true_and,aro,l,d,if_true];rw[<-yJ l hg m];simp[bR,l]
 .exact aq6 (av h)
end
theorem fe{k n:Nat}(h:k<=n):yX (vi k) n=aa k:=by
 have:(0:Int)<=k/\(k:Int)<=n:=by omega
 simp[yX,fE,this]
theorem RB.sI{H:aj}{b sz ep n k:Nat}{rows:List (List FC)}(h:RB H b sz ep rows)(d:k<n) :
  bS H sz (.c (.sl b 0 n 0 ep sz)) (aa (vi k)) ab ab=aa (.c (.sl b (k*sz) (n-k) 0 ep sz)):=by
 unfold RB at h;have hb:bM n n (aa (vi k)) ab ab=aa (k,n,n):=by simp[bM,fe (Nat.le_of_lt d)]
 simp[bS,h,hb];omega
theorem RB.aaa{H:aj}{b sz ep n k:Nat}{rows:List (List FC)}(h:RB H b sz ep rows)(d:k<=n)(h0:0<k) :
  bS H sz (.c (.sl b 0 n 0 ep sz)) ab (aa (vi k)) ab=aa (.c (.sl b 0 k 0 ep sz)):=by
 unfold RB at h;have hb:bM n n ab (aa (vi k)) ab=aa (0,k,n):=by simp[bM,fe d]
 simp[bS,h,hb]
 try omega
theorem RB.clr{H:aj}{b sz ep n k:Nat}{rows:List (List FC)}{zs:List FC}(h:RB H b sz ep rows)(hg:cd sz rows)(v:rows.length=n)(z:k<n)(s:zs.length=sz) :
  ∃H',jm H sz zs (.c (.sl b (k*sz) (n-k) 0 ep sz))=aa H'/\RB H' b sz ep (rows.take k++List.replicate (n-k) zs)/\Fm b H H':=by
 have hl:=dA hg;have d:=h.len (o:=k*sz) (l:=n-k) (c:=0);have g:(cQ (n-k) zs).length=(n-k)*sz:=by
  have:cd sz (List.replicate (n-k) zs):=λr y=>by rw[List.eq_of_mem_replicate y,s]
  simpa[cQ]using dA this
 have m:k*sz+(n-k)*sz=rows.flatten.length:=by rw[hl,v,<-arF];congr 1;omega
 unfold RB at h ⊢;refine⟨H.set b (.cK sz ((rows.take k++List.replicate (n-k) zs).flatten.map .f) 0 ep .loc),?_,aq6 (av h),Fm.set _ _⟩;have x:n-k≠0:=by omega
 have u:(rows.take k++List.replicate (n-k) zs).flatten.map C.f=bR (rows.flatten.map .f) (k*sz) ((cQ (n-k) zs).map .f):=by
  rw[asx,<-qf k hg];simp only[bR,aro,g,asI,List.map_take];rw[List.drop_eq_nil_of_le (by simp only[aro];omega)];simp[cQ]
 simp only[jm,d];rw[u];obtain⟨q,j⟩:∃q,n-k=q+1:=⟨n-k-1,by omega⟩
 rw[j];simp only[s,if_true,h,and_self,bC,ast,true_and,aro];rw[<-j,g,bw (by omega)]
theorem cV{t:T}{H:aj}{x:gl}{r:V}(h:bQ t H x=aa r):Km.results t H [x]=aa r:=by
 simp[Km.results,aX,h]
@[simp] theorem apN {t:T} {H:aj} (sz:Nat) (zs:List FC) (x:Arg):bG t H (.clear sz zs x)=(jm H sz zs (x.ev t)).map (.t [],·):=rfl
@[simp] theorem apx {a b:Int}:vF ag [vi a,vi b]=aa (vi (max a b)):=by
 have:(if a<b then b else a)=max a b:=by split<;>omega
 simp only[vF,qu,uB];simp[this,V.int]
@[simp] theorem apy {a b:Int}:vF ae [vi a,vi b]=aa (vi (min a b)):=by
 have:(if b<a then b else a)=min a b:=by split<;>omega
 simp only[vF,qu,uB];simp[this,V.int]
end
section
open Go
def gZ(l:List (List FC))(i j:Nat):List (List FC):=(l.set i (l.getD j [])).set j (l.getD i [])
def eL(a b:Nat)(l d:List (List FC)):Prop:=d.Perm l/\d.take a=l.take a/\d.drop b=l.drop b
theorem eL.refl(a b:Nat)(l:List (List FC)):eL a b l l:=⟨.refl _,rfl,rfl⟩
theorem eL.trans{a b:Nat}{l j d:List (List FC)}(h:eL a b l j)(g:eL a b j d):eL a b l d:=⟨g.1.trans h.1,g.2.1.trans h.2.1,g.2.2.trans h.2.2⟩
theorem eL.len{a b:Nat}{l d:List (List FC)}(h:eL a b l d):d.length=l.length:=h.1.length_eq
theorem eL.lt{a b:Nat}{l d:List (List FC)}(h:eL a b l d){i:Nat}(hi:i<a):d[i]?=l[i]?:=by
 have:=congrArg (·[i]?) h.2.1;simpa[arX,hi]using this
theorem eL.ge{a b:Nat}{l d:List (List FC)}(h:eL a b l d){i:Nat}(hi:b<=i):d[i]?=l[i]?:=by
 have:=congrArg (·[i-b]?) h.2.2;simpa[arC,show b+(i-b)=i by omega]using this
theorem eL.mono{a b a' d:Nat}{l g:List (List FC)}(h:eL a b l g)(j:a'<=a)(hb:b<=d):eL a' d l g:=by
 refine⟨h.1,?_,?_⟩
 .have:=congrArg (·.take a') h.2.1;simpa[atf,asK j]using this
 .have:=congrArg (·.drop (d-b)) h.2.2;simpa[asB,show b+(d-b)=d by omega]using this
theorem wb(l:List (List FC))(i j:Nat):(gZ l i j).length=l.length:=by simp[gZ]
theorem gw{l:List (List FC)}{i j:Nat}(hi:i<l.length)(g:j<l.length)(k:Nat):(gZ l i j)[k]?=if k=j then l[i]? else if k=i then l[j]? else l[k]?:=by
 have m:l.getD i []=l[i]:=by simp[List.getD,aq2 hi]
 have q:l.getD j []=l[j]:=by simp[List.getD,aq2 g]
 simp only[gZ,m,q,List.getElem?_set];by_cases b:j=k
 .subst b;simp[aq2 hi,g]
 .by_cases d:i=k
  .subst d;simp[b,Ne.symm b,aq2 g,hi]
  .simp[b,d,Ne.symm b,Ne.symm d]
theorem fg{a b:Nat}{l:List (List FC)}{i j:Nat}(hi:a<=i)(s:i<b)(x:a<=j)(u:j<b)(v:b<=l.length):eL a b l (gZ l i j):=by
 have d:i<l.length:=by omega
 have g:j<l.length:=by omega
 refine⟨?_,?_,?_⟩
 .have m:l.getD i []=l[i]:=by simp[List.getD,aq2 d]
  have q:l.getD j []=l[j]:=by simp[List.getD,aq2 g]
  simp only[gZ,m,q];exact List.set_set_perm d g
 .apply List.ext_getElem?;intro k;simp only[arX];split
  .rw[gw d g,aR (by omega),aR (by omega)]
  .rfl
 .apply List.ext_getElem?;intro k;simp only[arC];rw[gw d g,aR (by omega),aR (by omega)]
section
variable{H:aj}{b sz ep:Nat}{rows:List (List FC)}
theorem RB.swap(h:RB H b sz ep rows)(hg:cd sz rows){i j:Nat}(hi:i<rows.length)(m:j<rows.length) :
  ∃d g,dC H (.ptr b (i*sz) ep) (rows[j].map .f)=aa d/\RB d b sz ep (rows.set i rows[j])/\dC d (.ptr b (j*sz) ep) (rows[i].map .f)=aa g/\RB g b sz ep (gZ rows i j)/\Fm b H g:=by
 have z:rows[i].length=sz:=hg _ (aq7 hi);have q:rows[j].length=sz:=hg _ (aq7 m);obtain⟨d,E,s,x,-⟩:=h.str hg hi q;have l:cd sz (rows.set i rows[j]):=λr A=>by
  rcases List.mem_or_eq_of_mem_set A with h|rfl
  .exact hg r h
  .exact q
 obtain⟨g,F,B,y,-⟩:=s.str l (j:=j) (by simpa using m) z;refine⟨d,g,E,s,F,?_,x.trans y⟩;have u:rows.getD i []=rows[i]:=by simp[List.getD,aq2 hi]
 have v:rows.getD j []=rows[j]:=by simp[List.getD,aq2 m]
 simp only[gZ,u,v];exact B
theorem eL.qD{a b:Nat}{l d:List (List FC)}(h:eL a b l d)(hg:cd sz l):cd sz d:=λr g=>hg r (h.1.mem_iff.1 g)
end
structure sW(W:List FC->Prop)(c:List FC->List FC->Int):Prop where
 zo:∀{x y},W x->W y->c x y<0->¬ c y x<0
 trans:∀{x y z},W x->W y->W z->¬ c y x<0->¬ c z y<0->¬ c z x<0
def Up(c:List FC->List FC->Int)(a b:Nat)(l:List (List FC)):Prop:=∀i j x y,a<=i->i<j->j<b->l[i]?=aa x->l[j]?=aa y->¬ c y x<0
end
section
open Go
theorem tQ{l:List (List FC)}{a m b:Nat}(j:a<=m)(q:m<=b)(s:b<=l.length):∃X U V Y,l=X++(U++(V++Y))/\X.length=a/\U.length=m-a/\V.length=b-m:=by
 refine⟨l.take a,(l.drop a).take (m-a),(l.drop m).take (b-m),l.drop b,?_,by simp;omega,by simp;omega,by simp;omega⟩;have g:(l.drop m).take (b-m)++l.drop b=l.drop m:=by
  have:=ar8 (b-m) (l.drop m);rwa[asB,show m+(b-m)=b by omega]at this
 have d:(l.drop a).take (m-a)++l.drop m=l.drop a:=by
  have:=ar8 (m-a) (l.drop a);rwa[asB,show a+(m-a)=m by omega]at this
 rw[g,d,ar8]
theorem eL.mem{a b:Nat}{l m:List (List FC)}(h:eL a b l m)(d:a<=b)(hb:b<=l.length){i:Nat}{x:List FC}(h1:a<=i)(h2:i<b)(z:m[i]?=aa x):∃j,a<=j/\j<b/\l[j]?=aa x:=by
 obtain⟨X,U,V,Y,e,Q,Z,O⟩:=tQ (aq9 a) d hb;have hl:=h.len;obtain⟨X',E,F,v,H,u,N,s⟩:=tQ (l:=m) (aq9 a) d (by omega);obtain rfl:U=[]:=asi.1 (by omega);obtain rfl:E=[]:=asi.1 (by omega);obtain⟨g,M,K⟩:=h;subst e;subst H;have I:X'=X:=by
  simpa[arO (show a<=X.length by omega),arO (show a<=X'.length by omega),arw (show X.length<=a by omega),arw (show X'.length<=a by omega)]using M
 have J:v=Y:=by
  have q:∀{A B C:List (List FC)},A.length=a->B.length=b-a->(A++([]++(B++C))).drop b=C:=by
   intro A B C S W;rw[asu,<-arZ,List.drop_append_of_le_length (by simp;omega),asH (by simp;omega),asu]
  rwa[q u s,q Q O]at K
 subst I;subst J;have g:F.Perm V:=by
  have:=(List.perm_append_left_iff X').1 g;simp only[asu]at this;exact(List.perm_append_right_iff v).1 this
 rw[asu,arc (by omega),aq1 (by omega)]at z;obtain⟨j,y⟩:=asl (g.mem_iff.1 (arh z));have L:=(aq4.1 y).1;refine⟨a+j,by omega,by omega,?_⟩;rw[asu,arc (by omega),aq1 (by omega)];rw[<-y];congr 1;omega
section
variable{W:List FC->Prop}{c:List FC->List FC->Int}
theorem Up.mono{a b a' d:Nat}{l:List (List FC)}(h:Up c a b l)(m:a<=a')(hb:d<=b):Up c a' d l:=
 λi j x y h1 h2 h3 g hy=>h i j x y (by omega) h2 (by omega) g hy
theorem Up.one{a b:Nat}{l:List (List FC)}(h:b<=a+1):Up c a b l:=λi j x y h1 h2 h3=>by omega
theorem Up.of{a b:Nat}{l g:List (List FC)}(h:Up c a b l)(d:∀k,a<=k->k<b->g[k]?=l[k]?):Up c a b g:=λi j x y h1 h2 h3 m hy=>
 h i j x y h1 h2 h3 (by rw[<-d i h1 (by omega)];exact m) (by rw[<-d j (by omega) h3];exact hy)
def jj(c:List FC->List FC->Int)(l:List (List FC))(i j:Nat):Prop:=∀x y,l[i]?=aa x->l[j]?=aa y->¬ c y x<0
theorem jj.trans{l:List (List FC)}{i j k:Nat}(hc:sW W c)(b:∀r∈l,W r)(h:jj c l i j)(q:jj c l j k)(d:j<l.length):jj c l i k:=λx y g hy=>by
 have m:=aq2 d;exact hc.trans (b _ (arh g)) (b _ (aq7 d)) (b _ (arh hy)) (h _ _ g m) (q _ _ m hy)
end
end
section
open Go
def aT:C->Option Nat
 | .sl b _ _ _ _ _=>aa b| _=>ab
def LR(H:aj)(c:C)(sz:Nat)(rows:List (List FC)):Prop:=(rows=[]/\(c=.f .aw\/c=.f .es))\/(rows≠[]/\∃b ep,c=.sl b 0 rows.length 0 ep sz/\RB H b sz ep rows)
def Kb(H H':aj)(c:C):Prop:=H.length<=H'.length/\∀(i:Nat) y,H[i]?=aa y->aT c≠aa i->H'[i]?=aa y
section
variable{H H':aj}{c:C}{sz:Nat}{rows:List (List FC)}
theorem LR.nil(H:aj)(sz:Nat):LR H (.f .aw) sz []:=.inl ⟨rfl,.inl rfl⟩
theorem LR.bE(h:LR H c sz rows)(d:∀i y,H[i]?=aa y->aT c=aa i->H'[i]?=aa y):LR H' c sz rows:=by
 rcases h with h|⟨h,b,ep,rfl,h2⟩
 .exact .inl h
 .exact .inr ⟨h,b,ep,rfl,d b _ h2 rfl⟩
theorem LR.push(h:LR H c sz rows)(J:aj):LR (H++J) c sz rows:=h.bE λi y hy _=>by rw[aq1 (av hy)];exact hy
theorem LR.lt(h:LR H c sz rows){i:Nat}(hi:aT c=aa i):i<H.length:=by
 rcases h with⟨_,rfl|rfl⟩|⟨h,b,ep,rfl,h2⟩
 .cases hi
 .cases hi
 .cases hi;exact h2.lt
theorem LR.bI(h:LR H c sz rows){i:Nat}{cs:List C}{g:Nat}(d:H[i]?=aa (.box cs g)):aT c≠aa i:=by
 rcases h with⟨_,rfl|rfl⟩|⟨h,b,ep,rfl,h2⟩
 .simp[aT]
 .simp[aT]
 .intro e;cases e;unfold RB at h2;rw[h2]at d;cases d
theorem LR.set(h:LR H c sz rows){i:Nat}(hi:aT c≠aa i)(x:cH):LR (H.set i x) c sz rows:=h.bE λj y hy b=>by
 have:i≠j:=by rintro rfl;exact hi b
 rw[aq0 this];exact hy
theorem LR.len(h:LR H c sz rows):aV H c=aa rows.length:=by
 rcases h with⟨rfl,rfl|rfl⟩|⟨h,b,ep,rfl,h2⟩
 .rfl
 .rfl
 .exact h2.len
theorem LR.ex(h:LR H c sz rows)(hg:cd sz rows)(n:Nat):∃g,eT (n+1) H c=aa (sl g rows):=by
 rcases h with⟨rfl,rfl|rfl⟩|⟨h,b,ep,rfl,h2⟩
 .exact⟨.nil,rfl⟩
 .exact⟨.es,rfl⟩
 .refine⟨.fs,?_⟩;have hl:rows.length*sz=rows.flatten.length:=(dA hg).symm;unfold RB at h2;simp only[kg,h2];rw[bw ⟨trivial,trivial,by rw[aro,Nat.zero_add,hl];exact aq9 _⟩,asp,arw (by rw[aro];omega),nR];cases rows with
  |nil=>exact absurd rfl h| cons x l=>simp[sl]
theorem Z_{g g':Tg}{rows:List (List FC)}(h:rows≠[]):sl g rows=sl g' rows:=by
 cases rows with
 |nil=>exact absurd rfl h| cons x l=>rfl
theorem LR.exU(h:LR H c sz rows)(hg:cd sz rows):∃g,∀(H':aj) (n:Nat),(∀i y,H[i]?=aa y->aT c=aa i->H'[i]?=aa y)->eT (n+1) H' c=aa (sl g rows):=by
 by_cases b:rows=[]
 .rcases h with⟨rfl,rfl|rfl⟩|⟨h,_⟩
  .exact⟨.nil,λ_ _ _=>rfl⟩
  .exact⟨.es,λ_ _ _=>rfl⟩
  .exact absurd b h
 .refine⟨.fs,λH' n d=>?_⟩;obtain⟨g,e⟩:=(h.bE d).ex hg n;rw[e,Z_ b]
theorem LR.app(h:LR H c sz rows)(hg:cd sz rows)(yY:sz≠0){row:List FC}(x:row.length=sz){bytes:Nat}(d:cJ (rows.length+1) bytes=ae){b1 m:Nat}(q:H[b1]?=aa (.box (row.map .f) m)) :
  ∃l H',bJ H sz bytes (.c c) (.c (.sl b1 0 1 1 0 sz))=aa (.c l,H')/\LR H' l sz (rows++[row])/\Kb H H' c/\(aT l=aT c\/aT l=aa H.length):=by
 have g:cN H sz (.c (.sl b1 0 1 1 0 sz))=aa (1,row.map .f):=tM q (by simp[x]);rcases h with⟨rfl,s⟩|⟨v,b,ep,rfl,h2⟩
 .have d:cJ 1 bytes=ae:=by simpa using d
  refine⟨.sl H.length 0 1 0 0 sz,H++[.cK sz (row.map .f) 0 0 .loc],?_,.inr ⟨by simp,H.length,0,rfl,?_⟩,⟨by simp,λi y hy _=>by rw[aq1 (av hy)];exact hy⟩,.inr rfl⟩
  .rcases s with rfl|rfl<;>simp[bJ,g,d,yY]
  .simp[RB]
 .have j:rows.length*sz=rows.flatten.length:=(dA hg).symm;unfold RB at h2;refine⟨.sl b 0 (rows.length+1) 0 (ep+1) sz,H.set b (.cK sz (rows.flatten.map .f++row.map .f) 0 (ep+1) .loc),?_,.inr ⟨by simp,b,ep+1,by simp,?_⟩,⟨by simp,λi y hy u=>?_⟩,.inl rfl⟩
  .simp only[bJ,g,yY,if_false,h2,and_self,if_true];simp only[Nat.add_one_ne_zero,if_false];rw[bw ⟨trivial,by rw[aro];exact j,by simp⟩,d];simp
  .unfold RB;rw[aq6 (av h2)];simp
  .have:b≠i:=by rintro rfl;exact u rfl
   rw[aq0 this];exact hy
theorem Kb.refl(H:aj)(c:C):Kb H H c:=⟨aq9 _,λ_ _ h _=>h⟩
theorem Kb.push(H J:aj)(c:C):Kb H (H++J) c:=⟨by simp,λi y hy _=>by rw[aq1 (av hy)];exact hy⟩
theorem Kb.aog{b o l d ep s:Nat}(h:Fm b H H'):Kb H H' (.sl b o l d ep s):=⟨h.1,λi y hy g=>by
 have:i≠b:=by rintro rfl;exact g rfl
 exact h.get hy this⟩
end
end
section
open Go
theorem rH{g:Type}{sz:Nat}:∀{rows:List (List g)} {j:Nat} {row:List g},(∀r∈rows,r.length=sz)->rows[j]?=aa row->(rows.flatten.drop (j*sz)).take sz=row
 |[],j,row,_,b=>by simp at b
 |r::rows,0,row,d,b=>by
  simp at b;subst b;have:=d r arl;subst this;simp
 |r::rows,j+1,row,d,b=>by
  have l:=d r arl;have q:=rH (rows:=rows) (j:=j) (row:=row) (λx m=>d x (arj _ m)) (by simpa using b);rw[arv,show(j+1)*sz=r.length+j*sz by rw[l,arF];omega,<-asB,List.drop_left];exact q
theorem rZ{b:Type}:∀{cs:List b} {k:Nat} {x:b},k<cs.length->bR cs k [x]=cs.set k x
 |[],k,x,h=>by simp at h
 |c::cs,0,x,_=>by simp[bR]
 |c::cs,k+1,x,h=>by
  have:=rZ (cs:=cs) (k:=k) (x:=x) (by simpa using h);simp only[bR,ar0,List.length_nil]at this ⊢;rw[atw,List.set_cons_succ,<-this];simp
section
variable{H:aj}{b sz ep j k n:Nat}{rows:List (List FC)}{row:List FC}
theorem RB.ldc{x:FC}(h:RB H b sz ep rows)(hg:cd sz rows)(g:rows[j]?=aa row)(l:row[k]?=aa x):bF H ab (.c (.ptr b (j*sz+k) ep))=aa (.c (.f x)):=by
 unfold RB at h;have m:row.length=sz:=hg row (arh g);have q:=(aq4.1 l).1;have:=rI hg g (by omega:k<sz);simp only[aD,h,if_true];rw[List.map_drop.symm];have e:(rows.flatten.drop (j*sz+k))[0]?=aa x:=by rw[arC,Nat.add_zero,this,l]
 cases d:rows.flatten.drop (j*sz+k)with
 |nil=>rw[d]at e;simp at e| cons y ys=>rw[d]at e;simp at e;simp[bf,e]
end
def ajk(sz:Nat)(zs:List FC)(bytes:Nat):aG:=⟨[P.nat 0],[.tmp (P.nat 2)],.seq (.region [⟨D 2,.cP (.k (.c (.f (.aw)))),ab⟩] []) (.seq (.seq (.region [⟨D 3,.cP (R 0),ab⟩,⟨D 4,.eq ag .sl (R 3) (.k (.c (.f (.aw)))),ab⟩] [])
 (.cond (R 4) (.seq (.region [⟨D 2,.cP (.k (.c (.f (.aw)))),ab⟩] []) .ret) .skip)) (.seq (.region [⟨D 5,.bN sz zs 0 [],ab⟩,⟨D 6,.cP (R 0),ab⟩,⟨D 7,.append sz bytes (R 5) (R 6),ab⟩,⟨D 2,.cP (R 7),ab⟩] []) .ret))⟩
section
variable{tab:TB}{F sz bytes:Nat}{zs:List FC}{H:aj}{g:Tg}{rows:List (List FC)}
theorem tV{cs:List FC}{n:Nat}:LK H .sl (.c (.f (.fs cs n))) (.c (.f .aw))=aa ag:=rfl
theorem afa:LK H .sl (.c (.f .aw)) (.c (.f .aw))=aa ae:=rfl
theorem anI:LK H .sl (.c (.f .es)) (.c (.f .aw))=aa ag:=rfl
theorem xw(u:tab F=aa (ajk sz zs bytes))(l:sz≠0)(v:cd sz rows)(j:cJ rows.length bytes=ae) :
  ∃r H',Ev tab (.fn F) [.c (.f (sl g rows))] H r H'/\∃c J,r=.c c/\H'=H++J/\LR (H++J) c sz rows/\∀i,aT c=aa i->H.length<=i:=by
 refine cz (C:=λr H'=>∃c J,r=.c c/\H'=H++J/\LR (H++J) c sz rows/\∀i,aT c=aa i->H.length<=i) u rfl λQ m=>?_;apply ai;simp;apply an;apply ai;cases rows with
 |nil=>
  cases g with
  |nil=>
   simp[sl,Tg.fc,afa];refine au (by simp) ?_;apply ai;simp;exact aB (m _ _ (.c (.f .aw)) rfl (by simp[Km.results,aX]) ⟨_,[],rfl,by simp,.inl ⟨rfl,.inl rfl⟩,by simp[aT]⟩)
  |es=>
   simp[sl,Tg.fc,anI];refine ba (by simp) ?_;apply ai;simp[bJ,cN,aV,cA,l];exact aB (m _ _ (.c (.f .es)) rfl (by simp[Km.results,aX]) ⟨_,[],rfl,by simp,.inl ⟨rfl,.inr rfl⟩,by simp[aT]⟩)
  |fs=>
   simp[sl,Tg.fc,tV];refine ba (by simp) ?_;apply ai;simp[bJ,cN,aV,cA,l];exact aB (m _ _ (.c (.f .es)) rfl (by simp[Km.results,aX]) ⟨_,[],rfl,by simp,.inl ⟨rfl,.inr rfl⟩,by simp[aT]⟩)
 |cons x r=>
  have d:cN H sz (.c (.f (.fs (x::r).flatten (x::r).length)))=aa ((x::r).length,(x::r).flatten.map .f):=by
   have q:=xv (H:=H) (g:=.fs) v;have s:=Y8 (H:=H) .fs (x::r);simp only[sl,atH,arq,if_false]at q s;simp only[cN,q,s]
  have b:cJ (r.length+1) bytes=ae:=by simpa using j
  simp only[sl,atH,arq,if_false];simp[tV];refine ba (by simp) ?_;apply ai;simp only[arv,ar0]at d;simp[bJ,d,l,b];refine aB (m _ _ (.c (.sl H.length 0 (r.length+1) 0 0 sz)) rfl (by simp[Km.results,aX]) ⟨_,[.cK sz ((x::r).flatten.map .f) 0 0 .loc],rfl,by simp,.inr ⟨by simp,H.length,0,rfl,by simp[RB]⟩,by simp[aT]⟩)
end
end
section
open Go
theorem jF{H:aj}{sz:Nat}{g:Tg}{rows:List (List FC)}(j:cd sz rows):cN H sz (.c (.f (sl g rows)))=aa (rows.length,rows.flatten.map .f):=by
 have b:=xv (H:=H) (g:=g) j;have d:=Y8 (H:=H) g rows;have e:∀s,sl g rows≠.str s:=λs=>by cases rows<;>cases g<;>simp[sl,Tg.fc]
 generalize sl g rows=x at *;cases x<;>simp only[cN,b,d];exact absurd rfl (e _)
theorem vZ{H:aj}{sz:Nat}{g:Tg}{rows:List (List FC)}{k:Nat}(l:cd sz rows)(u:k<=rows.length)(z:rows.length<=9223372036854775807) :
  ∃g',bS H sz (.c (.f (sl g rows))) (aa (vi k)) ab ab=aa (.c (.f (sl g' (rows.drop k)))):=by
 cases rows with
 |nil=>
  have:k=0:=by simpa using u
  subst this;cases g
  .exact⟨.nil,rfl⟩
  .exact⟨.es,rfl⟩
  .exact⟨.fs,by simp[sl,Tg.fc,bS,bM];rfl⟩
 |cons x r=>
  refine⟨.fs,?_⟩;have d:yX (vi k) (x::r).length=aa k:=by
   have:(0:Int)<=(k:Int)/\(k:Int)<=((x::r).length:Int):=⟨by omega,by omega⟩
   show(if(0:Int)<=(k:Int)/\(k:Int)<=((x::r).length:Int)then aa (k:Int).toNat else ab)=aa k;rw[bw this,Int.toNat_natCast]
  have b:bM (x::r).length (x::r).length (aa (vi k)) ab ab=aa (k,(x::r).length,(x::r).length):=by
   simp[bM];simp only[ar0]at d;rw[d];rfl
  show bS H sz (.c (.f (.fs (x::r).flatten (x::r).length))) _ _ _=_;simp only[bS,b];have m:((x::r).flatten.drop (k*sz)).take (((x::r).length-k)*sz)=((x::r).drop k).flatten:=by
   rw[pM k l,arw];rw[dA (λy v=>l y (List.mem_of_mem_drop v)),aru];exact aq9 _
  rw[m];have s:sl .fs ((x::r).drop k)=.fs ((x::r).drop k).flatten ((x::r).length-k):=by
   cases j:(x::r).drop k with
   |nil=>
    have:=congrArg List.length j;simp only[aru,List.length_nil]at this;rw[this];rfl
   |cons y q=>
    have:=congrArg List.length j;simp only[aru]at this;rw[this];rfl
  rw[s];simp
end
end Km
