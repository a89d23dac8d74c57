/-
  Our own small machine for Go code by value, held Al ug model: part 3. No program in Pz.
-/
import Derived.Test.YtnaofdffomdmhaaGreatK2
import Derived.Orders
import Derived.Test.YtnaofdffomdmhaaGreatK1
open Option renaming some->aa,none->ab
open Bool renaming true->ae,false->ag
open List renaming mem_filter->agB, mem_range->agz, all_eq_true->af4, eq_nil_of_length_eq_zero->afV, mem_of_getElem?->af5, getElem?_eq_getElem->afB, getElem?_eq_some_iff->afD, getElem?_set_ne->ae2, getElem?_append_right->afI, getElem?_eq_none->agP, getElem?_drop->af0, length_drop->afX, length_set->af7
open Bool renaming and_eq_true->afE, false_eq_true->afR, true_and->agi, eq_iff_iff->agH
open Option renaming map_some->agv, map_eq_some_iff->afF, map_map->ahd
open Nat renaming le_refl->afJ, zero_le->ag2, le_of_ble_eq_true->ahb, eq_of_beq_eq_true->agR, add_zero->ahc, le_max_left->agf, le_max_right->af8
open Option.some renaming injEq->At
open Prod.mk renaming injEq->afG
set_option linter.unusedVariables false
set_option linter.constructorNameAsVariable false
set_option linter.unusedSimpArgs false
set_option linter.unusedSectionVars false
set_option maxRecDepth 100000
namespace Km
open Go
section
variable{Q:Program}{σ:Nat->FuncId}{X:Wd}{call:cU}
variable{n:Nat}{ops:Array Oper}{aos:List aV}{jG:List (Nat × Nat)}{st:Nat->St}
def LD(b:Array Bool)(j:Nat):Prop:=b.getD j ag=ae
theorem MZ{b:Array Bool}{i:Nat}(hi:i<b.size):LD (b.setIfInBounds i ae)=λj=>LD b j\/j=i:=by
 funext j;apply propext;unfold LD;by_cases h:i=j
 .subst h;simp[hi]
 .have:j≠i:=λe=>h e.symm;simp[Array.getD_eq_getD_getElem?,Array.getElem?_setIfInBounds_ne h,this]
theorem ET{b:Array Bool}{i:Nat}(h:i∈Region.ready .any ops b):i<ops.size/\¬ LD b i/\∃o,ops[i]?=aa o/\∀e∈o.after.toList,Region.binds .any e=ae->LD b e.on:=by
 unfold Region.ready at h;simp only[agB,agz,afE,Bool.not_eq_true']at h;obtain⟨l,d,j⟩:=h;refine⟨l,λg=>?_,?_⟩
 .unfold LD at g;simp only[Array.getD_eq_getD_getElem?]at d g;cases m:b[i]? with
  |none=>rw[m]at d;simp at d| some bb=>rw[m]at d g;simp at d g;rw[d]at g;simp at g
 .have q:=Array.getElem?_eq_getElem l;rw[q]at j;simp only[agv,Option.getD_some]at j;refine⟨ops[i],q,λe u s=>?_⟩;rw[<-Array.all_toList,af4]at j;have:=j e u;simpa[s,LD]using this
theorem O4(l:Ord ops.toList aos jG)(F:aos.length=ops.size){b:Array Bool}(B:b.size=ops.size){j:Nat}(z:j<ops.size)(y:¬ LD b j):Region.ready .any ops b≠[]:=by
 have key:∀m,m<ops.size->¬ LD b m->∃i,i∈Region.ready .any ops b:=by
  intro m;induction m using Nat.strongRecOn with
  |ind m E=>
   intro v g;have A:=Array.getElem?_eq_getElem v;by_cases d:∀e∈ops[m].after.toList,Region.binds .any e=ae->LD b e.on
   .refine⟨m,?_⟩;unfold Region.ready;simp only[agB,agz,afE,Bool.not_eq_true',A,agv,Option.getD_some];refine⟨v,?_,?_⟩
    .unfold LD at g;have u:m<b.size:=by omega
     simp[u]at g ⊢;exact g
    .rw[<-Array.all_toList,af4];intro e s;by_cases q:Region.binds .any e=ae
     .have:=d e s q;unfold LD at this;simp[this]
     .simp[q]
   .simp only[Classical.not_forall]at d;obtain⟨e,s,q,x⟩:=d;have:=l.back m ops[m] (by omega) (by simp[v]) e s q;exact E e.on this (by omega) x
 obtain⟨i,hi⟩:=key j z y;intro h;rw[h]at hi;simp at hi
theorem NB(hC:fS Q σ call)(R:mf Q σ call n ops aos jG st){b:Frame}{k:List Item}{cs:List Frame}(hk:kY b cs)(H:∀y∈aos,iH y.op b) :
  ∀(X0:Wd) (fuel t:Nat) (d:Array Bool) (U:List Nat) (E:Nat) (X:Wd) (a:Act),d.size=ops.size->U.Nodup->(∀j,j<ops.size->(¬ LD d j↔j∈U))->U.length<=fuel->Inv Q σ X0 n ops aos st (LD d) E X a->
  ∃q z X' a',Steps Q (lone (b.atR a (.inRegion ops (Region.linearise.go .any ops fuel t d [])::k)) cs X.w) (lone (b.atR a' k) cs X'.w)/\Inv Q σ X0 n ops aos st q z X' a'/\(∀j,j<ops.size->q j)/\a'.tmps.size=a.tmps.size:=by
 have u:aos.length=ops.size:=by have:=(ff R.XE).len;simpa using this.symm
 intro X0 fuel;induction fuel with
 |zero=>
  intro t d U E X a m B l F A;refine⟨LD d,E,X,a,?_,A,λj s=>?_,rfl⟩
  .simp only[Region.linearise.go,List.reverse_nil];exact .one stepR_region_end
  .have g:U=[]:=afV (by omega);refine Classical.byContradiction λh=>?_;have:=(l j s).1 h;rw[g]at this;simp at this
 |succ fuel ih=>
  intro t d U E X a m B l F A;simp only[Region.linearise.go];change ∃q z X' a',Steps Q (lone (b.atR a (.inRegion ops (match (Region.ready .any ops d)[t % (Region.ready .any ops d).length]? with
   |some i=>Region.linearise.go .any ops fuel (t / (Region.ready .any ops d).length) (d.setIfInBounds i ae) [i]
   |none=>[].reverse)::k)) cs X.w) _/\_
  cases hi:(Region.ready .any ops d)[t % (Region.ready .any ops d).length]? with
  |none=>
   have g:Region.ready .any ops d=[]:=by
    cases I:Region.ready .any ops d with
    |nil=>rfl
    |cons x xs=>
     rw[I]at hi;have a8:t % (x::xs).length<(x::xs).length:=Nat.mod_lt _ (by simp);rw[List.getElem?_eq_none_iff]at hi;omega
   refine⟨LD d,E,X,a,?_,A,λj s=>?_,rfl⟩
   .exact .one stepR_region_end
   .exact Classical.byContradiction λh=>O4 R.ord u m s h g
  |some i=>
   simp only[];rw[linearise_go_acc,List.reverse_singleton,List.singleton_append];obtain⟨r1,K,o,r3,r4⟩:=ET (af5 hi);have hy:=afB (show i<aos.length by omega);have I:me ops aos (LD d) i o aos[i]:=⟨r3,hy,K,r4⟩
   obtain⟨z,L,a1,O,J,S⟩:=R.Sr hC A I (b:=b) (rest:=Region.linearise.go .any ops fuel (t / (Region.ready .any ops d).length) (d.setIfInBounds i ae) []) (k:=k) (cs:=cs) hk (H _ (List.getElem_mem _));rw[<-MZ (by omega)]at J;have v:i∈U:=(l i r1).1 K;obtain⟨q,E2,M,N,k1,k2,k3,k5⟩:=ih (t / (Region.ready .any ops d).length) (d.setIfInBounds i ae) (U.erase i) z L a1 (by simpa using m) (B.erase i)
    (λj s=>by
     rw[B.mem_erase_iff,<-l j s,MZ (by omega)];constructor
     .intro h;exact⟨λe=>h (.inr e),λW=>h (.inl W)⟩
     .rintro⟨Y,Z⟩ (h|h)
      .exact Z h
      .exact Y h)
    (by rw[List.length_erase_of_mem v];omega) J
   exact⟨q,E2,M,N,O.trans k1,k2,k3,k5.trans S⟩
theorem NC(hC:fS Q σ call)(u:Q.follows .mixedOrders=ae)(R:mf Q σ call n ops aos jG st){b:Frame}{k:List Item}{cs:List Frame}(hk:kY b cs)(M:∀y∈aos,iH y.op b){X:Wd}{a:Act}(g:Fr Q σ n X (st 0) a)(id:Nat) :
  ∃X' a',Steps Q (lone (b.atR a (.code (.region id ops ae)::k)) cs X.w) (lone (b.atR a' k) cs X'.w)/\Fr Q σ n X' (st aos.length) a'/\Ext X.H.length X X'/\a'.tmps.size=a.tmps.size:=by
 have a8:aos.length=ops.size:=by have:=(ff R.XE).len;simpa using this.symm
 let X0:Wd:={ X with w:={ X.w with drawn:=X.w.drawn+1 } }
 have A:Ext X.H.length X X0:=
  {B:=rfl,F:=λ_ _ h=>h,re:=λ_ _ h=>.inl h,fw:=λ_ _ _=>rfl,cZ:=λb _ bz J=>⟨bz,J,by cases bz<;>simp[X0]⟩
   yZ:=λb L h=>.inl ⟨b,L,h,rfl⟩,size:=afJ _,os:=rfl,tape:=rfl,output:=rfl,frame:=λ_ _ _=>rfl }
 have I:SR Q σ X0:=by
  refine⟨λb L J=>?_,g.sr.inj,g.sr.fb⟩;obtain⟨q,s,bz,W,Y⟩:=g.sr.br b L J;exact⟨q,s,bz,W,BR.ext Q σ A rfl (λ_ h=>h) Y⟩
 obtain⟨p1,p2,p3,O⟩:=qQ (aos:=aos) (i:=0) (by omega);obtain⟨q1,q2⟩:=R.dp _ p1 p2 O;have E:X0.H=(st 0).heap:=g.heap;rw[<-E]at q1;obtain⟨k1,k2⟩:=SR.ahead I q1;have m:Ext X.H.length X { X0 with H:=(st (phase aos 0)).heap }:=A.trans k2;have d:∀j,¬ LD (Array.replicate ops.size ag) j:=λj h=>by
  unfold LD at h;simp only[Array.getD_eq_getD_getElem?,Array.getElem?_replicate]at h;split at h<;>simp at h
 have hI:Inv Q σ { X0 with H:=(st (phase aos 0)).heap } n ops aos st (LD (Array.replicate ops.size ag)) (phase aos 0) { X0 with H:=(st (phase aos 0)).heap } a:=by
  refine⟨λj o h=>absurd h (d j),λj h=>absurd h (d j),p2,p3,d _,λj q s=>absurd q (O j (ag2 _) s),rfl,Ext.refl _ _,k1,g.b,by rw[q2];exact g.defs.ext' m,g.size,
   λp=>⟨0,ag2 _,.inl (VR.ext' σ m (g.aF p)),λj y _ _=>⟨λh=>by omega,λh=>absurd h (d j)⟩⟩,λj y q _ W Y h5=>?_⟩
  show X.cI _=ab;have a9:=(R.dp j (ag2 _) (by omega) λk q s=>O k q (by omega)).1.len;cases v:X.cI (st j).heap.length with
  |none=>rfl| some L=>have:=SR.lt g.sr v;rw[g.heap]at this;omega
 obtain⟨D',S,X',a',g1,l,U,g5⟩:=NB hC R hk M (k:=k) { X0 with H:=(st (phase aos 0)).heap } ops.size (X.w.tape X.w.drawn (.order b.fn id)) (Array.replicate ops.size ag) (List.range ops.size) (phase aos 0) { X0 with H:=(st (phase aos 0)).heap } a (by simp) List.nodup_range
  (λj hj=>⟨λ_=>by simpa using hj,λ_=>d j⟩) (by simp) hI
 have Z:S=aos.length:=by
  rcases l.eW with h|⟨z,N,_⟩
  .exact h
  .exact absurd (U S (by have:=(afD.1 N).1;omega)) l.eD
 subst Z;refine⟨X',a',.head stepR_region_draw ?_,⟨l.heap,l.sr,l.b,λp=>?_,l.defs,l.size⟩,m.trans (l.ext.mono (m.len)),g5⟩
 .simp only[Region.schedule,u,Bool.true_or,if_true];exact g1
 .obtain⟨K,hK,x,hw⟩:=l.PD p;have x:VR σ X' ((st K).aF.get p) (a'.tmps.getD p.toNat undef):=by
   rcases x with x|⟨z,zs,c,_,Z,N,_⟩
   .exact x
   .have:=(afD.1 N).1;omega
  rw[<-R.nI aos.length hK (afJ _) λj y q s hy hd=>?_]
  .exact x
  .have:=(hw j y hy hd).2 (U j (by omega));omega
end
section
variable{Q:Program}{σ:Nat->FuncId}{X:Wd}{call:cU}
theorem Bw{b:Type}{f:b->b->Bool}(d:∀x y,f x y=ae->x=y):∀{xs ys:List b},iT f xs ys=ae->xs=ys
 |[],[],_=>rfl
 |x::xs,y::ys,h=>by
  simp only[iT,afE]at h;rw[d x y h.1,Bw d h.2]
 |[],_::_,h=>by simp[iT]at h
 |_::_,[],h=>by simp[iT]at h
theorem FC.beq_eq:∀(n:Nat) (a b:FC),FC.beq n a b=ae->a=b:=by
 intro n;induction n with
 |zero=>
  intro a b h;cases a<;>cases b<;>simp_all [FC.beq]
 |succ n d=>
  intro a b h;cases a<;>cases b<;>simp_all [FC.beq]
  all_goals exact Bw d h.2
theorem C.beq_eq{a b:C}(h:a.beq b=ae):a=b:=by
 cases a<;>cases b<;>simp_all [C.beq];exact FC.beq_eq _ _ _ h
theorem V.beq_eq{a b:V}(h:a.beq b=ae):a=b:=by
 cases a<;>cases b<;>simp only[V.beq,afR]at h
 .rw[C.beq_eq h]
 .rename_i xs ys;simp only[afE,beq_iff_eq,af4]at h
  congr 1
  refine List.ext_getElem h.1 λi h1 h2=>C.beq_eq (h.2 (xs[i],ys[i]) ?_);exact af5 (i:=i) (by rw[List.getElem?_zip_eq_some];exact⟨afB h1,afB h2⟩)
theorem zF:∀{aos:List aV} {s s':St},gz call aos s=aa s'->∃b:List St,ee call aos s=aa b/\b.getLast?=aa s'
 |[],s,s',h=>by simp only[gz,At]at h;subst h;exact⟨[s],rfl,rfl⟩
 |o::os,s,s',h=>by
  simp only[gz]at h;split at h
  .rename_i l g;obtain⟨b,j,d⟩:=zF h;refine⟨s::b,by simp[ee,g,j],?_⟩;cases b with
   |nil=>simp at d| cons x xs=>simpa using d
  .simp at h
theorem ph:∀{aos:List aV} {s:St} {b:List St},ee call aos s=aa b->b.length=aos.length+1/\b[0]?=aa s/\
  ∀i y,aos[i]?=aa y->∃u v,b[i]?=aa u/\b[i+1]?=aa v/\gE call u y=aa v
 |[],s,b,h=>by
  simp only[ee,At]at h;subst h;exact⟨rfl,rfl,λi y h=>by simp at h⟩
 |o::os,s,b,h=>by
  simp only[ee]at h;split at h
  .rename_i x m;split at h
   .rename_i z q;simp only[At]at h;subst h;obtain⟨g,j,l⟩:=ph q;refine⟨by simp[g],rfl,λi y d=>?_⟩;cases i with
    |zero=>
     simp only[List.getElem?_cons_zero,At]at d;subst d;exact⟨s,x,rfl,by simpa using j,m⟩
    |succ i=>simpa using l i y (by simpa using d)
   .simp at h
  .simp at h
theorem xc:∀{aos:List aV} {s:St} {b:List St} {s':St},ee call aos s=aa b->b.getLast?=aa s'->gz call aos s=aa s'
 |[],s,b,s',h,d=>by simp only[ee,At]at h;subst h;simpa[gz]using d
 |o::os,s,b,s',h,d=>by
  simp only[ee]at h;split at h
  .rename_i m l;split at h
   .rename_i g j;simp only[At]at h;subst h;have:=(ph j).1;simp only[gz,l];refine xc j ?_;cases g with
    |nil=>simp at this| cons x xs=>simpa using d
   .simp at h
  .simp at h
theorem J_(S:fS Q σ call)(A:Q.follows .mixedOrders=ae){n:Nat}{id:Nat}{ops:Array Oper}{g:Bool}{aos:List aV}{jG:List (Nat × Nat)}(W:bY Q σ n (.region id ops g) (.region aos jG)=ae)
  {b:Frame} {k:List Item} {cs:List Frame} (U:kY b cs) (B:∀y∈aos,iH y.op b) {X:Wd} {a:Act} {s s':St} (K:Fr Q σ n X s a) (h:gY call aos jG s=aa s') :
  ∃X' a',Steps Q (lone (b.atR a (.code (.region id ops g)::k)) cs X.w) (lone (b.atR a' k) cs X'.w)/\Fr Q σ n X' s' a'/\Ext X.H.length X X'/\a'.tmps.size=a.tmps.size:=by
 simp only[bY,afE,Bool.or_eq_true,Bool.not_eq_true']at W;obtain⟨l,E⟩:=W;obtain⟨j,O,J,h3⟩:∃j:List St,ee call aos s=aa j/\j.getLast?=aa s'/\∀c∈jG,sameAt aos j c=ae:=by
  unfold gY at h;split at h
  .obtain⟨j,q,x⟩:=zF h;exact⟨j,q,x,by simp⟩
  .split at h
   .rename_i j L;split at h
    .rename_i z;exact⟨j,L,h,af4.1 z⟩
    .simp at h
   .simp at h
 cases g with
 |false=>
  obtain⟨X',a',q,x⟩:=Hl S U (k:=k) aos 0 X s s' a K (by simpa using l) B (xc O J);exact⟨X',a',.head stepR_region (by simpa using q),x⟩
 |true=>
  obtain⟨q,x,g3⟩:=ph O
  let st:Nat->St:=λi=>j.getD i s
  have d:∀i u,j[i]?=aa u->st i=u:=λi u hu=>by simp[st,List.getD_eq_getElem?_getD,hu]
  have R:mf Q σ call n ops aos jG st:=by
   refine⟨l,JS (E.resolve_left (by simp)),λi y M=>?_,λi e y hc M Y=>?_⟩
   .obtain⟨u,v,F,H,I⟩:=g3 i y M;rw[d _ _ F,d _ _ H];exact I
   .have m:=h3 _ hc;simp only[sameAt,M]at m;split at m
    .rename_i o s1 s2 F H I;cases F;rw[d _ _ H]at Y ⊢;rw[d _ _ I];rw[Y]at m;simp only at m;split at m
     .rename_i v x1 v' x2 Z N;rw[<-V.beq_eq m]at N;exact⟨v,x1,x2,Z,N⟩
     .simp at m
    .simp at m
  have h0:st 0=s:=d 0 s x;have hN:st aos.length=s':=d _ _ (by rw[List.getLast?_eq_getElem?,q]at J;simpa using J);rw[<-h0]at K;rw[<-hN];exact NC S A R U B K id
end
section
variable{Q:Program}{σ:Nat->FuncId}{X:Wd}{call:cU}
def EE(X:Wd)(b:Nat):Prop:=∃f t p a c s q d,X.H[b]?=aa (.lp f t p a c s q d)
theorem EE.ext{X X':Wd}(m:Ext X.H.length X X'){b:Nat}(h:EE X b):EE X' b/\∀L,X.cI b=aa L->X'.cI b=aa L:=by
 obtain⟨f,t,p,a,c,s,q,d,j⟩:=h;obtain⟨blk',g,l⟩:=m.cZ b (afD.1 j).1 _ j;cases blk'<;>simp only at l;exact⟨⟨_,_,_,_,_,_,_,_,g⟩,l.2⟩
inductive iR(Q:Program)(σ:Nat->FuncId)(n:Nat)(X:Wd):de->Item->Prop
 |code {a:aH} {c:Code} (h:bY Q σ n c a=ae):iR Q σ n X (.code a) (.code c)
 |inBlock (id:Nat):iR Q σ n X (.inBlock id) (.inBlock id)
 |inLoop {a:aH} {c:Code} (h:bY Q σ n c a=ae):iR Q σ n X (.inLoop a) (.inLoop c)
 |kz {b:Nat} {L:Loc} (h:X.cI b=aa L) (hl:EE X b):iR Q σ n X (.kz b) (.endRangeFunc L.c)
 |oD:iR Q σ n X .oD .beginRound
 |inScope {a:aH} {c:Code} (h:bY Q σ n c a=ae) (hs:mv a=ae):iR Q σ n X (.inScope a) (.inScope c)
theorem iR.ext{n:Nat}{X X':Wd}(d:Ext X.H.length X X'){x:de}{y:Item}(h:iR Q σ n X x y):iR Q σ n X' x y:=by
 cases h with
 |code h=>exact .code h| inBlock id=>exact .inBlock id| inLoop h=>exact .inLoop h| kz h b=>exact .kz ((b.ext d).2 _ h) (b.ext d).1| oD=>exact .oD| inScope h g=>exact .inScope h g
def RoR(X:Wd):Option Nat->Option Nat->Prop
 |none,ab=>True| some b,aa l=>∃L,X.cI b=aa L/\L.c=l/\EE X b| _,_=>False
theorem RoR.ext{X X':Wd}(d:Ext X.H.length X X'){ro b:Option Nat}(h:RoR X ro b):RoR X' ro b:=by
 cases ro<;>cases b<;>simp only[RoR]at h ⊢;obtain⟨L,h1,h2,h3⟩:=h;exact⟨L,(h3.ext d).2 _ h1,h2,(h3.ext d).1⟩
theorem yO{n:Nat}(id:Nat):∀(k:List de) (b:List Item),A2 (iR Q σ n X) k b->
  match Km.exitTo id k with
  |some k'=>∃d,Go.exitTo id b=aa d/\A2 (iR Q σ n X) k' d| none=>Go.exitTo id b=ab
 |[],b,h=>by
  have:b=[]:=afV h.len.symm;subst this;rfl
 |x::k,[],h=>by have:=h.len;simp at this
 |x::k,y::b,h=>by
  obtain⟨q,j⟩:=h.of_cons;have m:=yO id k b j;cases q with
  |inBlock g=>
   simp only[Km.exitTo,Go.exitTo];by_cases l:(g == id)=ae
   .simp only[l,if_true];exact⟨b,rfl,j⟩
   .simp only[l,afR,if_false];exact m
  |_=>exact m
theorem AA{n:Nat}(l:Nat):∀(a:aH) (c:Code),bY Q σ n c a=ae->mv a=ae->
  match Km.findLabel a l with
  |some r=>∃r',Go.findLabel c l=aa r'/\bY Q σ n r' r=ae| none=>Go.findLabel c l=ab:=by
 intro a;induction a with
 |seq a b m q=>
  intro c h g;simp only[mv,afE]at g;cases c with
  |seq c d=>
   simp only[bY,afE]at h;have j:=m c h.1 g.1;simp only[Km.findLabel,Go.findLabel];cases u:Km.findLabel a l with
   |some r=>
    rw[u]at j;obtain⟨r',v,x⟩:=j;simp only[v];exact⟨_,rfl,by simp[bY,x,h.2]⟩
   |none=>
    rw[u]at j;simp only[j];exact q d h.2 g.2
  |_=>simp[bY]at h
 |label z=>
  intro c h _;cases c with
  |label y=>
   simp only[bY,beq_iff_eq]at h;subst h;simp only[Km.findLabel,Go.findLabel];by_cases s:(y == l)=ae
   .simp only[s,if_true];exact⟨_,rfl,by simp[bY]⟩
   .simp only[s,afR,if_false]
  |_=>simp[bY]at h
 |bad=>intro c h g;simp[mv]at g| _=>intro c h _;cases c<;>simp_all [bY,Km.findLabel,Go.findLabel]
theorem yU{n:Nat}(l:Nat):∀(k:List de) (b:List Item),A2 (iR Q σ n X) k b->
  match Km.gotoIn l k with
  |some k'=>∃d,Go.gotoIn l b=aa d/\A2 (iR Q σ n X) k' d| none=>Go.gotoIn l b=ab
 |[],b,h=>by
  have:b=[]:=afV h.len.symm;subst this;rfl
 |x::k,[],h=>by have:=h.len;simp at this
 |x::k,y::b,h=>by
  obtain⟨v,j⟩:=h.of_cons;have u:=yU l k b j;cases v with
  |inScope q s=>
   rename_i a c;have g:=AA (Q:=Q) (σ:=σ) l a c q s;simp only[Km.gotoIn,Go.gotoIn];cases m:Km.findLabel a l with
   |some r=>
    rw[m]at g;obtain⟨r',z,A⟩:=g;simp only[z];exact⟨_,rfl,A2.cons (.code A) (A2.cons (.inScope q s) j)⟩
   |none=>
    rw[m]at g;simp only[g];exact u
  |_=>exact u
def Vp:Option aH->List Item->Prop
 |none,b=>b=[]| some .ret,b=>∃k,b=.code .ret::k| some (.exit id),b=>∃k,b=.code (.exit id)::k/\Go.exitTo id k=ab| _,_=>False
end
section
variable{Q:Program}{σ:Nat->FuncId}{X:Wd}{call:cU}
theorem rM{b:Nat}{L:Loc}(x:SR Q σ X)(v:X.cI b=aa L){f:Nat}{t:T}{ps:List P}{as bd:aH}{q:fe}{g:Option aH}{d:Nat}(y:X.H[b]?=aa (.lp f t ps as bd q g d)) :
  ∃(n:Nat) (us:Array Value) (m:Array Tmp) (as' j:Code) (pend':Option Code) (u:Loc),
   X.w.heap[L.c]?=aa (.loop { state:=q.of,pending:=pend',fn:=σ f,tmps:=us,params:=m,assign:=as',body:=j,defers:=u.c })/\
   n<=us.size/\RR σ X t us/\gd (λp (q:P)=>q.toNat == p&&decide (p<n)) m.toList ps=ae/\bY Q σ n as' as=ae/\bY Q σ n j bd=ae/\zc Q σ n g pend'/\X.cI d=aa u/\∃o,X.H[d]?=aa (.gI o):=by
 obtain⟨_,_,bz,l,s⟩:=x.br b L v;rw[y]at l;cases l;exact s
theorem Bh(J:SR Q σ X){b:Nat}{L:Loc}(I:X.cI b=aa L){f:Nat}{t:T}{ps:List P}{as bd:aH}{q q':fe}{y pend1:Option aH}{d:Nat}(s:X.H[b]?=aa (.lp f t ps as bd q y d))
  {n:Nat} {us:Array Value} {j:Array Tmp} {as' g:Code} {pend':Option Code} {u:Loc}
  (O:n<=us.size) (S:RR σ X t us) (U:gd (λp (q:P)=>q.toNat == p&&decide (p<n)) j.toList ps=ae) (W:bY Q σ n as' as=ae) (Y:bY Q σ n g bd=ae) (Z:zc Q σ n pend1 pend') (a:X.cI d=aa u) (z:∃o,X.H[d]?=aa (.gI o)) :
  SR Q σ { X with H:=X.H.set b (.lp f t ps as bd q' pend1 d),w:=X.w.putObj L.c (.loop { state:=q'.of,pending:=pend',fn:=σ f,tmps:=us,params:=j,assign:=as',body:=g,defers:=u.c }) }/\
  Ext X.H.length X { X with H:=X.H.set b (.lp f t ps as bd q' pend1 d),w:=X.w.putObj L.c (.loop { state:=q'.of,pending:=pend',fn:=σ f,tmps:=us,params:=j,assign:=as',body:=g,defers:=u.c }) }:=by
 obtain⟨m,r,k,M,N,i,K,v,_⟩:=rM J I s;have A:b<X.H.length:=(afD.1 s).1;refine SR.sj (o':=.loop { state:=q'.of,pending:=pend',fn:=σ f,tmps:=us,params:=j,assign:=as',body:=g,defers:=u.c }) (blk':=.lp f t ps as bd q' pend1 d) J s I v (by simp) (by simp)
  (λbz l=>⟨.lp f t ps as bd q' pend1 d,by simp[A],by rw[s]at l;cases l;exact⟨⟨rfl,rfl,rfl,rfl,rfl,rfl⟩,λL h=>h⟩⟩)
  (λX' F E _ x c=>?_)
 obtain⟨o,z⟩:=z;refine⟨n,us,j,as',g,pend',u,E,O,RR.ext' σ F S,U,W,Y,Z,by rw[x];exact a,o,?_⟩;have B:b≠d:=λe=>by rw[e,z]at s;cases s
 rw[c,ae2 B];exact z
end
section
variable{Q:Program}{σ:Nat->FuncId}{call:cU}
structure Way(Q:Program)(σ:Nat->FuncId)(fn:Nat)(n:Nat)(b:Frame)(cs:List Frame)(ro:Option Nat)(todo:List de)(items:List Item)(s:St)(X:Wd)(a:Act):Prop where
 fr:Fr Q σ n X s a
 items:A2 (iR Q σ n X) todo items
 ro:RoR X ro b.roundOf
 kind:kY b cs
 fn:b.fn=σ fn
theorem Way.ext{fn n:Nat}{b:Frame}{cs:List Frame}{ro:Option Nat}{j:List de}{items:List Item}{s s':St}{X X':Wd}{a a':Act}(h:Way Q σ fn n b cs ro j items s X a){g:List de}{d:List Item}(l:Ext X.H.length X X')(m:Fr Q σ n X' s' a')
  (hi:A2 (iR Q σ n X) g d):Way Q σ fn n b cs ro g d s' X' a':=
 ⟨m,hi.nm λ_ _ h=>h.ext l,h.ro.ext l,h.kind,h.fn⟩
theorem Way.to{fn n:Nat}{b:Frame}{cs:List Frame}{ro:Option Nat}{j:List de}{items:List Item}{s:St}{X:Wd}{a:Act}(h:Way Q σ fn n b cs ro j items s X a){g:List de}{d:List Item}
  (hi:A2 (iR Q σ n X) g d):Way Q σ fn n b cs ro g d s X a:=⟨h.fr,hi,h.ro,h.kind,h.fn⟩
def aas(Q:Program)(σ:Nat->FuncId)(call:cU)(fn m:Nat):Prop:=
 ∀(n:Nat) (b:Frame) (cs:List Frame) ro l g s X a j s',run call fn m ro l s=aa (j,s')->Way Q σ fn n b cs ro l g s X a->
  ∃X' a' d,Steps Q (lone (b.atR a g) cs X.w) (lone (b.atR a' d) cs X'.w)/\Fr Q σ n X' s' a'/\Ext X.H.length X X'/\a'.tmps.size=a.tmps.size/\Vp j d
theorem xM{b:Frame}{a:Act}{k:List Item}{cs:List Frame}{w:World}{body:Code}:step Q (lone (b.atR a (.inScope body::k)) cs w)=.next (lone (b.atR a k) cs w):=
 step_lone_go (by simp[stepG,stepG.exec,Frame.atR])
theorem C6{b:Frame}{a:Act}{k:List Item}{cs:List Frame}{w:World}{body:Code}:step Q (lone (b.atR a (.code (.scope body)::k)) cs w)=.next (lone (b.atR a (.code body::.inScope body::k)) cs w):=
 step_lone_go (by simp[stepG,stepG.exec,Frame.atR])
theorem Pq(hC:fS Q σ call)(i5:Q.follows .mixedOrders=ae)(fn:Nat):∀m,aas Q σ call fn m:=by
 intro m;induction m with
 |zero=>intro n b cs ro d_ I s X a F s' h;simp[run]at h
 |succ m ih=>
  intro n b cs ro d_ I s X a F s' h z;have go:∀{B j},run call fn m ro B s=aa (F,s')->A2 (iR Q σ n X) B j->step Q (lone (b.atR a I) cs X.w)=.next (lone (b.atR a j) cs X.w)->
    ∃X' a' j,Steps Q (lone (b.atR a I) cs X.w) (lone (b.atR a' j) cs X'.w)/\Fr Q σ n X' s' a'/\Ext X.H.length X X'/\a'.tmps.size=a.tmps.size/\Vp F j:=by
   intro B j hr hi U;obtain⟨X',a',it,g1,N⟩:=ih n b cs ro B j s X a F s' hr (z.to hi);exact⟨X',a',it,.head U g1,N⟩
  cases d_ with
  |nil=>
   have:I=[]:=afV z.items.len.symm;subst this;simp only[run,At,afG]at h;obtain⟨rfl,rfl⟩:=h;exact⟨X,a,[],Steps.refl _ _,z.fr,Ext.refl _ _,rfl,rfl⟩
  |cons x k=>
   cases I with
   |nil=>have:=z.items.len;simp at this
   |cons it M=>
    obtain⟨hx,A⟩:=z.items.of_cons;cases hx with
    |inBlock id=>exact go (by simpa[run]using h) A stepR_inBlock
    |inLoop E=>exact go (by simpa[run]using h) (A2.cons (.code E) (A2.cons (.inLoop E) A)) stepR_inLoop
    |inScope E hs=>exact go (by simpa[run]using h) A xM
    |kz hb hl=>
     rename_i bb L;simp only[run]at h;split at h
     .rename_i f t ps as bd q d9 d J;split at h
      .simp at h
      .rename_i hq;rw[<-z.fr.heap]at J;obtain⟨m0,us,a8,as',W,pend',Ld,b9,h2,h3,h4,h5,h6,Y,h8,h9⟩:=rM z.fr.sr hb J;obtain⟨g1,N⟩:=Bh z.fr.sr hb J (q':=.exhausted) h2 h3 h4 h5 h6 Y h8 h9;have j9:(q.of)≠LoopState.busy:=by cases q<;>simp[fe.of]at hq ⊢
       have U:=stepR_endRangeFunc (P:=Q) (b:=b) (a:=a) (k:=M) (cs:=cs) (run_endLoop (P:=Q) b9 j9);have key:∀{B j},run call fn m ro B { s with heap:=s.heap.set bb (.lp f t ps as bd .exhausted d9 d) }=aa (F,s')->A2 (iR Q σ n X) B j->j=(pend'.map Item.code).toList++M->
         ∃X' a' j,Steps Q (lone (b.atR a (.endRangeFunc L.c::M)) cs X.w) (lone (b.atR a' j) cs X'.w)/\Fr Q σ n X' s' a'/\Ext X.H.length X X'/\a'.tmps.size=a.tmps.size/\Vp F j:=by
        intro B j hr hi he;obtain⟨X',a',it,k1,k2,k3,k4,k5⟩:=ih n b cs ro B j _ _ a F s' hr (z.ext (a':=a) N ⟨by rw[<-z.fr.heap],g1,by simpa[World.putObj]using z.fr.b,z.fr.aF.ext' σ N,z.fr.defs.ext' N,z.fr.size⟩ hi);rw[he]at k1;exact⟨X',a',it,.head U k1,k2,N.trans (k3.mono N.len),k4,k5⟩
       split at h
       .cases pend' with
        |none=>exact key h A rfl| some c=>exact Y.elim
       .cases pend' with
        |none=>exact Y.elim
        |some c=>
         have Y:bY Q σ m0 c .ret=ae:=Y;cases c<;>simp[bY]at Y;exact key h (A2.cons (.code (by simp[bY])) A) rfl
       .rename_i id;cases pend' with
        |none=>exact Y.elim
        |some c=>
         have Y:bY Q σ m0 c (.exit id)=ae:=Y;cases c<;>simp[bY]at Y;subst Y;exact key h (A2.cons (.code (by simp[bY])) A) rfl
       .simp at h
     .simp at h
    |oD=>
     simp only[run]at h;split at h
     .simp at h
     .rename_i bb;split at h
      .rename_i f t ps as bd d9 d J;have K:=z.ro;cases e_:b.roundOf with
       |none=>rw[e_]at K;exact K.elim
       |some l=>
        rw[e_]at K;obtain⟨L,hL,rfl,_⟩:=K;rw[<-z.fr.heap]at J;obtain⟨m0,us,a8,as',W,pend',Ld,b9,h2,h3,h4,h5,h6,Y,h8,h9⟩:=rM z.fr.sr hL J;obtain⟨g1,N⟩:=Bh z.fr.sr hL J (q':=.busy) h2 h3 h4 h5 h6 Y h8 h9;have U:=stepR_beginRound (P:=Q) (b:=b) (a:=a) (k:=M) (cs:=cs) e_ (run_beginRound (P:=Q) b9 rfl);obtain⟨X',a',it,k1,k2,k3,k4,k5⟩:=ih n b cs _ k M _ _ a F s' h (z.ext (a':=a) N ⟨by rw[<-z.fr.heap],g1,by simpa[World.putObj]using z.fr.b,z.fr.aF.ext' σ N,z.fr.defs.ext' N,z.fr.size⟩ A);exact⟨X',a',it,.head U k1,k2,N.trans (k3.mono N.len),k4,k5⟩
      .simp at h
    |code E=>
     rename_i ac c;cases ac with
     |bad=>simp[run]at h| skip=>cases c<;>simp[bY]at E;exact go (by simpa[run]using h) A stepR_skip
     |label l=>cases c<;>simp[bY]at E;exact go (by simpa[run]using h) A stepR_label
     |scope p=>
      cases c<;>simp[bY]at E;exact go (by simpa[run]using h) (A2.cons (.code E.1) (A2.cons (.inScope E.1 E.2) A)) C6
     |goto l=>
      cases c<;>simp[bY]at E;subst E;rename_i l';have S:=yU (Q:=Q) (σ:=σ) (n:=n) (X:=X) l' k M A;simp only[run]at h;split at h
      .rename_i k' H;rw[H]at S;obtain⟨n8,he,a_⟩:=S;exact go h a_ (stepR_goto he)
      .simp at h
     |ret=>
      cases c<;>simp[bY]at E;simp only[run,At,afG]at h;obtain⟨rfl,rfl⟩:=h;exact⟨X,a,_,Steps.refl _ _,z.fr,Ext.refl _ _,rfl,M,rfl⟩
     |seq p q=>
      cases c<;>simp[bY]at E;exact go (by simpa[run]using h) (A2.cons (.code E.1) (A2.cons (.code E.2) A)) stepR_seq
     |block id p=>
      cases c<;>simp[bY]at E;obtain⟨rfl,E⟩:=E;exact go (by simpa[run]using h) (A2.cons (.code E) (A2.cons (.inBlock _) A)) stepR_block
     |loop p=>
      cases c<;>simp[bY]at E;exact go (by simpa[run]using h) (A2.cons (.code E) (A2.cons (.inLoop E) A)) stepR_loop
     |exit id=>
      cases c<;>simp[bY]at E;subst E;rename_i m_;have S:=yO (Q:=Q) (σ:=σ) (n:=n) (X:=X) m_ k M A;simp only[run]at h;split at h
      .rename_i k' H;rw[H]at S;obtain⟨n8,he,a_⟩:=S;exact go h a_ (stepR_exit he)
      .rename_i H;rw[H]at S;split at h
       .simp only[At,afG]at h;obtain⟨rfl,rfl⟩:=h;exact⟨X,a,_,Steps.refl _ _,z.fr,Ext.refl _ _,rfl,M,rfl,S⟩
       .simp at h
     |cond x p q=>
      cases c<;>simp[bY]at E;simp only[run]at h;split at h
      .rename_i v hv;have hx:=cf z.fr.aF E.1.1;rw[hv]at hx;have m9:cX σ X.F X.w (.bool v) _:=hx;have he:∀u,cX σ X.F X.w (.bool v) u->u=.bool v:=λu hu=>by cases hu;rfl
       refine go h ?_ (stepR_cond (he _ m9));cases v
       .exact A2.cons (.code E.2) A
       .exact A2.cons (.code E.1.2) A
      .simp at h
     |region aos jG=>
      cases c with
      |region id ops n9=>
       simp only[run]at h;split at h
       .simp at h
       .rename_i K;split at h
        .rename_i s1 h1;have j_:∀y∈aos,iH y.op b:=by
          intro y hy;unfold iH;cases ro with
          |none=>
           refine .inl ?_;have:=z.ro;cases hb:b.roundOf with
           |none=>rfl| some l=>rw[hb]at this;exact this.elim
          |some r=>
           simp only[Option.isSome_some,agi,Bool.not_eq_true',Bool.not_eq_false]at K;exact .inr (af4.1 K y hy)
         obtain⟨X1,a1,g1,N,g3,g4⟩:=J_ hC i5 E z.kind j_ (k:=M) z.fr h1;obtain⟨X',a',it,k1,k2,k3,k4,k5⟩:=ih n b cs ro k M s1 X1 a1 F s' h (z.ext g3 N A);exact⟨X',a',it,g1.trans k1,k2,g3.trans (k3.mono g3.len),k4.trans g4,k5⟩
        .simp at h
      |_=>simp[bY]at E
     |oW f ps as bd=>
      cases c with
      |rangeFunc f' a8 as' W=>
       simp only[bY,afE]at E;obtain⟨⟨⟨j5,j6⟩,j7⟩,j8⟩:=E;simp only[run]at h;split at h
       .simp at h
       .rename_i K;have k_:b.roundOf=ab:=by
         have:=z.ro;cases ro with
         |some r=>simp at K
         |none=>
          cases hb:b.roundOf with
          |none=>rfl| some l=>rw[hb]at this;exact this.elim
        split at h
        .rename_i g args h_;split at h
         .rename_i r2 H2 O;obtain⟨X1,w1,H1,S1,E1,r1,B1⟩:=SR.new z.fr.sr z.fr.b (.gI ae) (ef.alloc X.w (.deferred (aa []))) 0 (λX' hx hw hF hH=>by
           show X'.w.heap[X.w.heap.size]?=_;rw[hw];exact(ef.alloc X.w (.deferred (aa []))).new)
          have i4:X1.H[X.H.length]?=aa (.gI ae):=by rw[H1];simp
          have b_:X.H.length<X1.H.length:=by rw[H1];simp
          have i6:X1.w.heap.size=X.w.heap.size+1:=by rw[w1];simp
          obtain⟨X2,w2,i7,S2,E2,f8,B2⟩:=SR.new S1 B1 (.lp fn s.aF ps as bd .ready ab s.heap.length)
           (ef.alloc X1.w (.loop { state:=.ready,pending:=ab,fn:=b.fn,tmps:=a.tmps,params:=a8,assign:=as',body:=W,defers:=X.w.heap.size })) 0 (λX' hx hw hF hH=>by
            obtain⟨blk',e9,H⟩:=hx.cZ X.H.length b_ _ i4;cases blk'<;>simp only at H;refine⟨n,a.tmps,a8,as',W,ab,⟨X.w.heap.size,0⟩,?_,z.fr.size,RR.ext' σ hx (RR.ext' σ E1 z.fr.aF),j6,j7,j8,trivial,?_,?_⟩
            .show X'.w.heap[X1.w.heap.size]?=_;rw[hw,(ef.alloc X1.w (.loop { state:=.ready,pending:=ab,fn:=b.fn,tmps:=a.tmps,params:=a8,assign:=as',body:=W,defers:=X.w.heap.size })).new,z.fn];rfl
            .rw[<-z.fr.heap];exact H _ r1
            .rw[<-z.fr.heap];exact⟨_,e9⟩)
          have f7:Ext X.H.length X X2:=E1.trans (E2.mono E1.len);have f_:X2.H=s.heap++[.gI ae,.lp fn s.aF ps as bd .ready ab s.heap.length]:=by rw[i7,H1,<-z.fr.heap];simp
          have j4:X1.H.length=s.heap.length+1:=by rw[H1,<-z.fr.heap];simp
          have J:EE X2 (s.heap.length+1):=⟨fn,s.aF,ps,as,bd,.ready,ab,s.heap.length,by rw[f_,afI (by omega)];simp⟩
          rw[j4,i6]at f8;have g_:A2 (VR σ X2) [.c (.yl (s.heap.length+1))] [.func (.yield (X.w.heap.size+1)) #[] #[]]:=A2.cons ⟨⟨X.w.heap.size+1,0⟩,f8,J,rfl⟩ A2.nil;obtain⟨fst,cap,l_,m4⟩:=qF h_ (VR.ext' σ f7 (cf z.fr.aF j5)) g_;rw[<-f_]at O;have i_:=hC.enters _ _ _ _ O
          let a1:Act:={ a with defers:={ target:=.collected X.w.heap.size,args:=#[] }::a.defers }
          obtain⟨fr,X3,u,q1,⟨l1,l2,l3,l4,i8,l5,l6⟩,q3,q4,q5,q6,q7⟩:=hC.fn g args _ r2 H2 O X2 _ .normal (b.atR a1 (.inRangeFunc (X.w.heap.size+1)::M)::cs) rfl S2 B2 m4 (.inl rfl) (.inl rfl);have U:step Q (lone (b.atR a (.code (.rangeFunc f' a8 as' W)::M)) cs X.w)=.next (lone (Frame.enter Q (σ g) (fst.toArray++#[.func (.yield (X.w.heap.size+1)) #[] #[]]++cap.toArray) .normal) (b.atR a1 (.inRangeFunc (X.w.heap.size+1)::M)::cs) X2.w):=by
           refine stepR_rangeFunc (P:=Q) (b:=b) (a:=a) (k:=M) (cs:=cs) (l:=X.w.heap.size+1) (mark:=[{ target:=.collected X.w.heap.size,args:=#[] }]) (w₁:=X2.w) (w₁':=X2.w) (d:={ target:=.fn (.func (σ g)) cap.toArray,args:=fst.toArray++#[.func (.yield (X.w.heap.size+1)) #[] #[]] }) ?_ ?_ ?_
           .rw[k_,run_enterLoop_outer,w2,w1]
           .simp only[resolve,l_,Deferred.ofValue,Sem.run_bind,Sem.run_pure,Result.andThen_ok];simp[Act.eval]
           .exact fJ i_
          have Z:Ext X.H.length X X3:=f7.trans (q6.mono f7.len);have a9:=step_leave_returned (P:=Q) (c:=b.atR a1 (.inRangeFunc (X.w.heap.size+1)::M)) (cs:=cs) (show fr.leaving Q X3.w (.returned u) from⟨l1,l2,l3,i8,by rw[l4];exact l5,l6⟩);rw[finish_atR_inRangeFunc]at a9;have c_:=J.ext q6;have i9:uV σ X3 (.iM s.heap.length) { target:=.collected X.w.heap.size,args:=#[] }:=by
           obtain⟨blk',e9,H⟩:=(E2.trans (q6.mono E2.len)).cZ X.H.length b_ _ i4;cases blk'<;>simp only at H;rw[<-z.fr.heap];exact⟨⟨X.w.heap.size,0⟩,_,H _ r1,e9,rfl⟩
          obtain⟨X',a',it,k1,k2,k3,k4,k5⟩:=ih n b cs ro (.kz (s.heap.length+1)::k) (.endRangeFunc (X.w.heap.size+1)::M) _ X3 a1 F s' h
           ⟨⟨q3,q4,q7,RR.ext' σ Z z.fr.aF,A2.cons i9 (z.fr.defs.ext' Z),z.fr.size⟩,A2.cons (.kz (c_.2 _ f8) c_.1) (A.nm λ_ _ h=>h.ext Z),z.ro.ext Z,z.kind,z.fn⟩
          refine⟨X',a',it,.head U (Steps.trans ?_ (.head a9 k1)),k2,Z.trans (k3.mono Z.len),k4,k5⟩;simpa using q1
         .simp at h
        .simp at h
      |_=>simp[bY]at E
end
section
variable{Q:Program}{σ:Nat->FuncId}{X:Wd}{call:cU}
def D1(Q:Program)(σ:Nat->FuncId)(pX:Nat->List V->aj->Option (Option (V × aj))):Prop:=
 ∀f args H r H',pX f args H=aa (aa (r,H'))->
  (∀as w,(callFunc (σ f) as).run Q w=.ok (.enter (σ f) as) w)/\
  ∀(X:Wd) us b cs,X.H=H->SR Q σ X->X.B<=X.w.heap.size->A2 (VR σ X) args us->qP b cs->b=.normal\/f≠gk->
   ∃d X' u,Steps Q (lone (Frame.enter Q (σ f) us.toArray b) cs X.w) (lone d cs X'.w)/\Leaves Q (σ f) b d u X'.w/\oz Q σ X r H' X' u
structure Env(Q:Program)(σ:Nat->FuncId)(tab:Nat->Option aM)(pX:Nat->List V->aj->Option (Option (V × aj))):Prop where
 mix:Q.follows .mixedOrders=ae
 fn:∀f af,tab f=aa af->∃fn,Q.funcs[σ f]?=aa fn/\zb Q σ fn af=ae
 pX:D1 Q σ pX
theorem wU:∀(ps:List P) (args:List V) (t:T) (s:Nat),ps.map P.toNat=List.range' s ps.length->args.length=ps.length->∀q:P,
  (cO ps args t).get q=if s<=q.toNat then(args[q.toNat-s]?).getD (t.get q)else t.get q
 |[],args,t,s,_,b,q=>by
  have:args=[]:=afV b;subst this;simp[cO]
 |p::ps,[],t,s,_,b,q=>by simp at b
 |p::ps,v::y,t,s,d,b,q=>by
  simp only[List.map_cons,List.length_cons,List.range'_succ,List.cons.injEq]at d;have x:=wU ps y (t.set p v) (s+1) d.2 (by simpa using b) q;simp only[cO,x];by_cases j:p=q
  .subst j;rw[bG (by omega),T.rE];simp[d.1]
  .have u:q.toNat≠s:=λe=>j (P.toNat_inj (d.1.trans e.symm));simp only[T.rE,j,if_false];by_cases l:s<=q.toNat
   .have g:s+1<=q.toNat:=by omega
    have m:q.toNat-s=(q.toNat-(s+1))+1:=by omega
    simp[g,l,m]
   .have g:¬ (s+1<=q.toNat):=by omega
    simp[g,l]
theorem RR.cO:∀(ps:List P) (b:List Tmp) (args:List V) (us:List Value) (aF:T) (tmps:Array Value) (n:Nat),n<=tmps.size->RR σ X aF tmps->A2 (VR σ X) args us->args.length=ps.length->
  gd (λp (q:P)=>q.toNat == p&&decide (p<n)) b ps=ae->RR σ X (Km.cO ps args aF) ((b.zip us).foldl (λtmps (t,a)=>tmps.setIfInBounds t a) tmps)
 |[],b,args,us,aF,tmps,n,l,j,d,g,h=>by
  have:args=[]:=afV g;subst this;have:us=[]:=afV d.len.symm;subst this;simpa[Km.cO]using j
 |p::ps,[],args,us,aF,tmps,n,l,j,d,g,h=>by simp[gd]at h
 |p::ps,s::b,[],us,aF,tmps,n,l,j,d,g,h=>by simp at g
 |p::ps,s::b,v::x,[],aF,tmps,n,l,j,d,g,h=>by have:=d.len;simp at this
 |p::ps,s::b,v::x,u::us,aF,tmps,n,l,j,d,g,h=>by
  simp only[gd,afE,beq_iff_eq,decide_eq_true_eq]at h;obtain⟨⟨h1,h2⟩,h3⟩:=h;obtain⟨m,d⟩:=d.of_cons;subst h1;refine RR.cO ps b x us _ _ n (by simpa using l) (RR.set σ j (by omega) m) d (by simpa using g) h3
theorem uc:∀(l:List (Tmp × Value)) (tmps:Array Value),(l.foldl (λtmps (t,a)=>tmps.setIfInBounds t a) tmps).size=tmps.size
 |[],_=>rfl| x::l,tmps=>by rw[List.foldl_cons,uc l];simp
theorem Pp(fn:Nat):∀m d s b s',run call fn m ab d s=aa (b,s')->b=ab\/b=aa .ret:=by
 intro m;induction m with
 |zero=>intro d s b s' h;simp[run]at h
 |succ m g=>
  intro d s b s' h;unfold run at h;split at h
  all_goals first
   |exact g _ _ _ _ h
   |(simp at h;done)
   |skip
  .simp only[At,afG]at h;exact .inl h.1.symm
  .split at h
   .split at h
    .simp at h
    .split at h
     .exact g _ _ _ _ h
     .exact g _ _ _ _ h
     .exact g _ _ _ _ h
     .simp at h
   .simp at h
  .split at h
   .exact g _ _ _ _ h
   .simp at h
  .simp only[At,afG]at h;exact .inr h.1.symm
  .split at h
   .exact g _ _ _ _ h
   .simp at h
  .split at h
   .exact g _ _ _ _ h
   .simp at h
  .split at h
   .simp at h
   .split at h
    .exact g _ _ _ _ h
    .simp at h
  .split at h
   .simp at h
   .simp only at h;split at h
    .split at h
     .exact g _ _ _ _ h
     .simp at h
    .simp at h
theorem tV{fn:Func}{af:aM}(h:zb Q σ fn af=ae):∃c,fn.name≠ "runtime.NumGoroutine"/\fn.body=aa c/\bY Q σ fn.ntmps c af.body=ae/\
  gd (xG Q fn.ntmps) fn.results.toList af.results=ae/\af.ps.map P.toNat=List.range af.ps.length:=by
 simp only[zb,afE,bne_iff_ne,ne_eq,decide_eq_true_eq]at h;obtain⟨⟨⟨h1,h2⟩,h3⟩,h4⟩:=h;cases hb:fn.body with
 |none=>rw[hb]at h2;simp at h2| some c=>rw[hb]at h2;exact⟨c,h1,rfl,h2,h3,h4⟩
theorem sb{f:FuncId}{fn:Func}{c:Code}(hf:Q.funcs[f]?=aa fn)(hn:fn.name≠ "runtime.NumGoroutine")(hb:fn.body=aa c)(as:Array Value)(w:World):(callFunc f as).run Q w=.ok (.enter f as) w:=by
 simp[callFunc,hf,hn,hb]
def lD(g:FuncId)(d:CallKind)(tmps:Array Value)(ds:List Deferred)(b:Frame):Prop:=
 b.mode=.returning/\b.defers=ds/\b.kind=d/\b.fn=g/\b.tmps=tmps
theorem step_collected{d:Frame}{cs:List Frame}{w w':World}{b:Nat}{as:Array Value}{ds:List Deferred}(j:d.mode=.returning)(g:d.defers = { target:=.collected b,args:=as }::ds)
  (l:(Instr.takeDeferred b).run Q w=.ok [] w'):step Q (lone d cs w)=.next (lone { d with defers:=ds } cs w'):=
 step_lone_go (by simp[stepG,unwind,j,g,Sem.runT_eq,l])
theorem xN{b:Frame}{cs:List Frame}{w:World}{f:FuncId}{cap as as':Array Value}{ds:List Deferred}(g:b.mode=.returning)(d:b.defers = { target:=.fn (.func f) cap,args:=as }::ds)
  (j:(invoke (.fn (.func f) cap) as).run Q w=.ok (.enter f as') w):step Q (lone b cs w)=.next (lone (Frame.enter Q f as' .deferred) ({ b with defers:=ds }::cs) w):=
 step_lone_go (by simp[stepG,unwind,g,d,callDeferred,Sem.runT_eq,j])
theorem pY{b c:Frame}{cs:List Frame}{w:World}{v:Value}{f:FuncId}(h:Leaves Q f .deferred b v w)(hc:c.mode=.returning) :
  step Q (lone b (c::cs) w)=.next (lone c cs w):=by
 obtain⟨q,j,m,l,fn,d,g⟩:=h;rw[<-l]at d;exact step_lone_go (by simp[stepG,unwind,doReturn,q,j,m,d,Sem.runT_eq,g,hc])
theorem lD.pop{g:FuncId}{kind:CallKind}{tmps:Array Value}{d:Deferred}{ds:List Deferred}{fr:Frame}(h:lD g kind tmps (d::ds) fr):lD g kind tmps ds { fr with defers:=ds }:=
 ⟨h.1,rfl,h.2.2.1,h.2.2.2.1,h.2.2.2.2⟩
theorem Av(H:fS Q σ call){g:FuncId}{y:CallKind}{tmps:Array Value}{cs:List Frame}:∀(ds:List dS) (X:Wd) (l:List Deferred) (q:Frame) (H':aj),
  dP call ds X.H=aa H'->SR Q σ X->X.B<=X.w.heap.size->gM σ X ds l->lD g y tmps l q->
  ∃fr' X',Steps Q (lone q cs X.w) (lone fr' cs X'.w)/\lD g y tmps [] fr'/\X'.H=H'/\SR Q σ X'/\X'.B<=X'.w.heap.size/\Ext X.H.length X X'
 |[],X,l,q,H',h,B,E,z,j=>by
  have:l=[]:=afV z.len.symm;subst this;simp only[dP,At]at h;exact⟨q,X,Steps.refl _ _,j,h,B,E,Ext.refl _ _⟩
 |d::ds,X,[],q,H',h,B,E,z,j=>by have:=z.len;simp at this
 | .iM b::ds,X,m::l,q,H',h,B,E,z,j=>by
  obtain⟨⟨L,o,h1,h2,rfl⟩,A⟩:=A2.of_cons z;simp only[dP]at h;split at h
  .rename_i I;obtain⟨_,_,bz,F,K⟩:=B.br b L h1;rw[I]at F;cases F;have x:X.w.heap[L.c]?=aa (.deferred (aa [])):=K;obtain⟨g1,J⟩:=SR.sj (o':=.deferred ab) (blk':=.gI ag) B I h1 x (by simp) (by simp)
    (λbz v=>⟨.gI ag,by simp[(afD.1 I).1],by rw[I]at v;cases v;exact λL h=>h⟩)
    (λX' a_ O _ a8 hH=>O)
   obtain⟨fr',X',S,U,W,Y,Z,k6⟩:=Av H ds _ l { q with defers:=l } H' h g1 (by simpa using E) (gM.ext' J A) j.pop;exact⟨fr',X',.head (step_collected j.1 j.2.1 (run_takeDeferred x)) S,U,W,Y,Z,J.trans (k6.mono J.len)⟩
  .simp at h
 | .fn f args::ds,X,m::l,q,H',h,B,E,z,j=>by
  obtain⟨⟨us,cap,rfl,hA⟩,A⟩:=A2.of_cons z;simp only[dP]at h;split at h
  .simp at h
  rename_i N;split at h
  .rename_i r H1 s;have M:=H.enters f args _ _ s;obtain⟨a9,X1,u,q1,q2,q3,q4,q5,q6,q7⟩:=H.fn f args _ r H1 s X _ .deferred ({ q with defers:=l }::cs) rfl B E hA (.inr ⟨rfl,_,_,rfl,j.1⟩) (.inr N);rw[<-q3]at h;obtain⟨fr',X',S,U,W,Y,Z,k6⟩:=Av H ds X1 l { q with defers:=l } H' h q4 q7 (gM.ext' q6 A) j.pop;refine⟨fr',X',.head (xN (as':=us++cap) j.1 j.2.1 (fJ M)) (Steps.trans ?_ (.head (pY (c:={ q with defers:=l }) q2 j.1) S)),U,W,Y,Z,q6.trans (k6.mono q6.len)⟩;have e:(us.toList++cap.toList).toArray=us++cap:=by apply Array.ext';simp
   rw[e]at q1;exact q1
  .simp at h
theorem Yd(E:SR Q σ X){n:Nat}{aF:T}{tmps:Array Value}(m:RR σ X aF tmps){r:ResultVar}{a:iv}(g:xG Q n r a=ae){v:V}
  (h:cu aF X.H a=aa v):∃u,(match r with| .tmp t=>pure (tmps.getD t undef)| .cell a t=>do loadVar t (<-asAddr (tmps.getD a undef)):Sem Value).run Q X.w=.ok u X.w/\iS σ X v u:=by
 cases r with
 |tmp t=>
  cases a with
  |tmp p=>
   simp only[xG,afE,beq_iff_eq,decide_eq_true_eq]at g;have d:=m p;rw[g.1]at d;simp only[cu]at h;refine⟨_,rfl,?_⟩;split at h
   .simp at h
   .rename_i j;simp only[At]at h;rw[h]at d;cases v with
    |t H=>exact absurd h (j H)| top=>trivial| c x=>exact d| a xs=>exact d
  |cell p k=>simp[xG]at g
 |cell t I=>
  cases a with
  |tmp p=>simp[xG]at g
  |cell p k=>
   simp only[xG,afE,beq_iff_eq,decide_eq_true_eq]at g;have d:=m p;rw[g.1.1]at d;simp only[cu]at h;cases q:aF.get p with
   |c x=>
    rw[q]at h d;simp only[aQ,Option.bind_eq_some_iff]at h;obtain⟨cs,s,b⟩:=h;obtain⟨c,o,us,F,z,A⟩:=vw E d s;obtain⟨u,B,l⟩:=C_ g.2 z A b;refine⟨u,by simp[F,asAddr,B],?_⟩;cases k with
    |none=>cases cs with
     |nil=>simp[aO]at b| cons y ys=>simp only[aO,At]at b;subst b;exact l
    |some k=>
     simp only[aO]at b;split at b
     .simp only[At]at b;subst b;exact l
     .simp at b
   |_=>rw[q]at h;simp[aQ]at h
theorem Fl(K:SR Q σ X){fn:Func}{m:List iv}(L:gd (xG Q fn.ntmps) fn.results.toList m=ae){aF:T}{tmps:Array Value}(J:RR σ X aF tmps){v:V}
  (h:Km.results aF X.H m=aa v):∃u,(Go.results fn tmps).run Q X.w=.ok u X.w/\VR σ X v u:=by
 have key:∀(m:List iv) (qs:List ResultVar) (j:List V),gd (xG Q fn.ntmps) qs m=ae->aZ (cu aF X.H) m=aa j->
   ∃us:List Value,(qs.mapM (λr=>match r with| .tmp t=>pure (tmps.getD t undef)| .cell a t=>do loadVar t (<-asAddr (tmps.getD a undef)):ResultVar->Sem Value)).run Q X.w=.ok us X.w/\A2 (iS σ X) j us:=by
  intro m;induction m with
  |nil=>
   intro qs j x l;cases qs with
   |nil=>simp only[aZ,At]at l;subst l;exact⟨[],rfl,A2.nil⟩| cons q qs=>simp[gd]at x
  |cons a m M=>
   intro qs j x l;cases qs with
   |nil=>simp[gd]at x
   |cons q qs=>
    simp only[gd,afE]at x;simp only[aZ]at l;split at l
    .simp at l
    .rename_i A E;split at l
     .simp at l
     .rename_i B F;simp only[At]at l;subst l;obtain⟨u,s,b⟩:=Yd K J x.1 E;obtain⟨us,H,I⟩:=M qs B x.2 F;refine⟨u::us,?_,A2.cons b I⟩;rw[List.mapM_cons,Sem.run_bind,s];simp only[Result.andThen_ok,Sem.run_bind,H,Sem.run_pure]
 unfold Km.results at h;have y:∀j,aZ (cu aF X.H) m=aa j->∃us:List Value,(Go.results fn tmps).run Q X.w=.ok (if h:us.toArray.size=1 then us.toArray[0]else .tuple us.toArray) X.w/\A2 (iS σ X) j us:=by
  intro j g;obtain⟨us,s,b⟩:=key m fn.results.toList j L g;refine⟨us,?_,b⟩;unfold Go.results;rw[Array.mapM_eq_mapM_toList,Sem.run_bind,Sem.run_map];exact(congrArg (λr:Result (List Value)=>(r.andThen λa w'=>Result.ok a.toArray w').andThen λa w'=>Sem.run Q (pure (if h:a.size=1 then a[0]else Value.tuple a)) w') s).trans rfl
 split at h
 .rename_i A g;simp only[At]at h;subst h;obtain⟨us,s,b⟩:=y _ g
  match us,b with
  |[u],b=>exact⟨u,s,VR.Qg σ b.of_cons.1⟩| [],b=>have:=b.len;simp at this| _::_::_,b=>have:=b.len;simp at this
 .rename_i j z g;simp only[At]at h;subst h;obtain⟨us,s,b⟩:=y _ g;refine⟨.tuple us.toArray,?_,us,rfl,b⟩;rw[s,dif_neg];intro d
  match us,d with
  |[u],_=>
   match j,b with
   |[A],_=>exact z A rfl| [],b=>have:=b.len;simp at this| _::_::_,b=>have:=b.len;simp at this
  |[],d=>simp at d| _::_::_,d=>simp at d
 .simp at h
end
section
variable{Q:Program}{σ:Nat->FuncId}{tab:Nat->Option aM}{pX:Nat->List V->aj->Option (Option (V × aj))}
theorem aaQ(i:Env Q σ tab pX){m:Nat}{call:cU}(h:fS Q σ call){f:Nat}{af:aM}(I:tab f=aa af){args:List V}(E:args.length=af.ps.length){x:Option aH}{s':St}{X:Wd}
  (v:run call f m ab [.code af.body] ⟨cO af.ps args .e,[],X.H⟩=aa (x,s')) {H':aj} (j:dP call s'.defs s'.heap=aa H') {r:V} (s:Km.results s'.aF H' af.results=aa r)
  {us:List Value} {d:CallKind} {cs:List Frame} (hS:SR Q σ X) (hB:X.B<=X.w.heap.size) (e:A2 (VR σ X) args us) (hk:qP d cs) :
  ∃W X' u,Steps Q (lone (Frame.enter Q (σ f) us.toArray d) cs X.w) (lone W cs X'.w)/\Leaves Q (σ f) d W u X'.w/\oz Q σ X r H' X' u:=by
 obtain⟨fn,n,hm⟩:=i.fn f af I;obtain⟨c,M,y,z,O,N⟩:=tV hm
 let b:Frame:=Frame.enter Q (σ f) us.toArray d
 let l:Act:={ tmps:=us.toArray++Array.replicate (fn.ntmps-us.toArray.size) undef,defers:=[] }
 have hb:b=b.atR l [.code c]:=by
  simp[b,l,Frame.enter,Frame.atR,n,y]
 have S:fn.ntmps<=l.tmps.size:=by simp[l];omega
 have L:RR σ X (cO af.ps args .e) l.tmps:=by
  intro p;rw[wU af.ps args .e 0 (by rw[N,List.range_eq_range']) E p];simp only[ag2,if_true,Nat.sub_zero];by_cases o:p.toNat<args.length
  .have t:=afB o;have F:p.toNat<us.length:=e.len▸o;have hy:=afB F;have hv:=e.2 _ _ _ t hy;rw[t];have:l.tmps.getD p.toNat undef=us[p.toNat]:=by
    simp[l,Array.getD_eq_getD_getElem?,Array.getElem?_append,F]
   rw[this];exact hv
  .rw[agP (by omega)];cases p<;>trivial
 have hF:Fr Q σ fn.ntmps X ⟨cO af.ps args .e,[],X.H⟩ l:=⟨rfl,hS,hB,L,A2.nil,S⟩
 have hW:Way Q σ f fn.ntmps b cs ab [.code af.body] [.code c] ⟨cO af.ps args .e,[],X.H⟩ X l:=⟨hF,A2.cons (.code z) A2.nil,trivial,hk,rfl⟩
 obtain⟨J,a1,g,s1,A,E1,_,U⟩:=Pq h i.mix f m fn.ntmps b cs ab _ _ _ X l x s' v hW;have H:∃q,Steps Q (lone (b.atR a1 g) cs J.w) (lone q cs J.w)/\lD (σ f) d a1.tmps a1.defers q:=by
  rcases Pp f m _ _ _ _ v with rfl|rfl
  .have:g=[]:=U;subst this;exact⟨_,.one (stepR_end rfl),rfl,rfl,rfl,rfl,rfl⟩
  .obtain⟨k,rfl⟩:=U;exact⟨_,.one (stepR_ret rfl),rfl,rfl,rfl,rfl,rfl⟩
 obtain⟨q,s2,w⟩:=H;rw[<-A.heap]at j;obtain⟨K,X2,s3,B,Y,Z,h3,a⟩:=Av h (cs:=cs) s'.defs J a1.defers q H' j A.sr A.b A.defs w;rw[<-Y]at s;obtain⟨u,g1,g2⟩:=Fl Z O (RR.ext' σ a A.aF) s;refine⟨K,X2,u,?_,⟨B.1,B.2.1,B.2.2.1,B.2.2.2.1,fn,n,by rw[B.2.2.2.2];exact g1⟩,Y,Z,g2,E1.trans (a.mono E1.len),h3⟩;show Steps Q (lone b cs X.w) _;rw[hb];exact s1.trans (s2.trans s3)
theorem Qa(hE:Env Q σ tab pX){m:Nat}{call:cU}(hC:fS Q σ call){b:Nat}{f:Nat}{tmps:T}{ps:List P}{as bd:aH}{q:fe}{pd:Option aH}{d:Nat}{X:Wd}(U:X.H[b]?=aa (.lp f tmps ps as bd q pd d))
  {args:List V} (S:args.length=ps.length) {g:Option aH} {s':St} (Y:run call f m (aa b) [.code as,.oD,.code bd] ⟨cO ps args tmps,[],X.H⟩=aa (g,s')) (c_:s'.defs.isEmpty=ae)
  {f':Nat} {v:T} {J:List P} {as' H:aH} {q':fe} {e9:Option aH} {d':Nat} (y:s'.heap[b]?=aa (.lp f' v J as' H q' e9 d'))
  {us:List Value} {c:Frame} {cs:List Frame} {L:Loc} (hS:SR Q σ X) (hB:X.B<=X.w.heap.size) (hA:A2 (VR σ X) args us) (hL:X.cI b=aa L) :
  ∃f tmps as bd X' u,(Instr.yield L.c us.toArray).run Q X.w=.ok (.round L.c f tmps as bd) X.w/\
   Steps Q (lone (Frame.round L.c f tmps as bd .normal) (c::cs) X.w) (lone (c.finish u) cs X'.w)/\oz Q σ X (.bool g.isNone) (s'.heap.set b (.lp f' v J as' H (if g.isNone then .ready else .done) g d')) X' u:=by
 obtain⟨n,ts,qs,z,A,e_,Ld,W,h2,h3,h4,h5,h6,h7,h8,h9⟩:=rM hS hL U;have hq:=(ff h4).len;have d_:us.toArray.size=qs.size:=by
  have:=hA.len;simp only[Array.length_toList]at hq;simp;omega
 have hy:=run_yield (P:=Q) (args:=us.toArray) W d_
 let F:Array Value:=(qs.zip us.toArray).foldl (λtmps (t,a)=>tmps.setIfInBounds t a) ts
 have O:F=(qs.toList.zip us).foldl (λtmps (t,a)=>tmps.setIfInBounds t a) ts:=by
  simp only[F];rw[<-Array.foldl_toList];simp
 let M:Act:={ tmps:=F,defers:=[] }
 let B:Frame:=Frame.round L.c (σ f) F z A .normal
 have b9:B=B.atR M [.code z,.beginRound,.code A]:=by simp[B,M,Frame.round,Frame.atR]
 have b_:RR σ X (cO ps args tmps) F:=by
  rw[O];exact RR.cO ps qs.toList args us tmps ts n h2 h3 hA S h4
 have hn:n<=F.size:=by rw[O,uc];exact h2
 have hF:Fr Q σ n X ⟨cO ps args tmps,[],X.H⟩ M:=⟨rfl,hS,hB,b_,A2.nil,hn⟩
 have E:EE X b:=⟨_,_,_,_,_,_,_,_,U⟩
 have hW:Way Q σ f n B (c::cs) (aa b) [.code as,.oD,.code bd] [.code z,.beginRound,.code A] ⟨cO ps args tmps,[],X.H⟩ X M:=
  ⟨hF,A2.cons (.code h5) (A2.cons .oD (A2.cons (.code h6) A2.nil)),⟨L,hL,rfl,E⟩,.inl rfl,rfl⟩
 obtain⟨X1,a1,x,s1,K,E1,_,Z⟩:=Pq hC hE.mix f m n B (c::cs) (aa b) _ _ _ X M g s' Y hW;have N:=(E.ext E1).2 _ hL;rw[<-K.heap]at y;obtain⟨n1,f8,f7,a9,a_,pend1,a8,s,k2,k3,k4,k5,k6,k7,k8,k9⟩:=rM K.sr N y;have I:∀(l:Option Code),zc Q σ n1 g l->l.isNone=g.isNone->step Q (lone (B.atR a1 x) (c::cs) X1.w)=.next (lone (c.finish (.bool l.isNone)) cs (X1.w.putObj L.c (.loop { state:=if l.isNone then .ready else .done,pending:=l,fn:=σ f',tmps:=f8,params:=f7,assign:=a9,body:=a_,defers:=a8.c })))->
   ∃f tmps as bd X' u,(Instr.yield L.c us.toArray).run Q X.w=.ok (.round L.c f tmps as bd) X.w/\
   Steps Q (lone (Frame.round L.c f tmps as bd .normal) (c::cs) X.w) (lone (c.finish u) cs X'.w)/\oz Q σ X (.bool g.isNone) (s'.heap.set b (.lp f' v J as' H (if g.isNone then .ready else .done) g d')) X' u:=by
  intro l hj hn d9;obtain⟨g1,g2⟩:=Bh K.sr N y (q':=if g.isNone then .ready else .done) (pend1:=g) (pend':=l) k2 k3 k4 k5 k6 hj k8 k9;have hq:(if g.isNone then fe.ready else fe.done).of=(if l.isNone then LoopState.ready else LoopState.done):=by
   rw[hn];cases g<;>rfl
  rw[hq]at g1 g2;refine⟨σ f,F,z,A,_,.bool l.isNone,hy,?_,?_,g1,?_,E1.trans (g2.mono E1.len),?_⟩
  .show Steps Q (lone B (c::cs) X.w) _;rw[b9];exact s1.trans (.one d9)
  .rw[<-K.heap]
  .rw[hn];exact VR.wg _
  .have:=K.b;simpa[World.putObj]using this
 cases g with
 |none=>
  have:x=[]:=Z;subst this;exact I ab trivial rfl (stepR_round_end rfl rfl (run_endRound (P:=Q) ab s))
 |some j=>
  cases j with
  |ret=>
   obtain⟨k,rfl⟩:=Z;exact I (aa .ret) (by simp[zc,bY]) rfl (stepR_round_ret rfl rfl (run_endRound (P:=Q) (aa .ret) s))
  |exit id=>
   obtain⟨k,rfl,hx⟩:=Z;exact I (aa (.exit id)) (by simp[zc,bY]) rfl (stepR_round_exit rfl rfl hx (run_endRound (P:=Q) (aa (.exit id)) s))
  |_=>exact Z.elim
theorem Nl(x:Env Q σ tab pX)(m:Nat):∀d,fS Q σ (eV tab pX m d):=by
 intro d;induction d with
 |zero=>exact⟨λf args H r h=>by simp[eV]at h,λf args H r H' h=>by simp[eV]at h,λb args H r H' h=>by simp[eV]at h⟩
 |succ d S=>
  refine⟨λf args H r h=>?_,λf args H r H' h X us B cs J I F E U K=>?_,λb args H r H' h X us c cs L J I F E hL=>?_⟩
  .simp only[eV]at h;split at h
   .rename_i r' N;obtain⟨r0,W⟩:=r;exact(x.pX f args H r0 W (by rw[N,h])).1
   .split at h
    .simp at h
    .rename_i af l;obtain⟨fn,hf,hm⟩:=x.fn f af l;obtain⟨c,v,s,_⟩:=tV hm;exact sb hf v s
  .simp only[eV]at h;split at h
   .rename_i r' N;exact(x.pX f args H r H' (by rw[N,h])).2 X us B cs J I F E U K
   .split at h
    .simp at h
    .rename_i af l;split at h
     .rename_i g;split at h
      .rename_i A s' j;split at h
       .rename_i H1 u;simp only[afF,afG]at h;obtain⟨r1,z,rfl,rfl⟩:=h;subst J;exact aaQ x S l g j u z I F E U
       .simp at h
      .simp at h
     .simp at h
  .simp only[eV]at h;split at h
   .rename_i f tmps ps as bd q pd d' M;split at h
    .rename_i g;split at h
     .rename_i A s' j;split at h
      .rename_i hd;split at h
       .rename_i f' O a9 as' Y q' a8 Z y;simp only[At,afG]at h;obtain⟨rfl,rfl⟩:=h;subst J;exact Qa x S M g j hd y I F E hL
       .simp at h
      .simp at h
     .simp at h
    .simp at h
   .simp at h
end
inductive Bt where
 |no
 |set (b:Nat) (x:bB)
 |push (x:bB)
def Bt.app(H:aj):Bt->aj
 | .no=>H| .set b x=>H.set b x| .push x=>H++[x]
def vu(g:Nat->Option bB):C->Option (List C)
 | .ptr b off ep=>match g b with
  |some (.box cs _)=>aa (cs.drop off)| some (.ct _ cs _ e .loc)=>if ep=e then aa (cs.drop off)else ab| _=>ab
 | .f (.fp cs off)=>aa ((cs.drop off).map .f)| _=>ab
def Xv(g:Nat->Option bB)(n:Option Nat):V->Option V
 | .c x=>(vu g x).bind (aO n)| _=>ab
def tF(g:Nat->Option bB):C->Option Nat
 | .sl b _ l _ ep sz=>match g b with
  |some (.box _ _)=>aa l| some (.ct s _ _ e _)=>if ep=e/\sz=s then aa l else ab| _=>ab
 | .f .aK=>aa 0| .f .es=>aa 0| .f (.fs _ l)=>aa l| _=>ab
def si(g:Nat->Option bB)(sz:Nat):C->Option (List C)
 | .sl b o l _ ep s=>match g b with
  |some (.box cs _)=>if o+l*sz<=cs.length then aa ((cs.drop o).take (l*sz))else ab| some (.ct s' cs _ e _)=>if ep=e/\s=s'/\o+l*sz<=cs.length then aa ((cs.drop o).take (l*sz))else ab| _=>ab
 | .f .aK=>aa []| .f .es=>aa []| .f (.fs cs l)=>if cs.length=l*sz then aa (cs.map .f)else ab| _=>ab
def tj(g:Nat->Option bB):FR->C->Option Bool
 | .ptr,.f .rP=>aa ae| .ptr,.f (.fp _ _)=>aa ag| .ptr,.ptr _ _ _=>aa ag| .sl,.f .aK=>aa ae| .sl,.f .es=>aa ag| .sl,.f (.fs _ _)=>aa ag
 | .sl,.sl b _ _ _ ep sz=>match g b with
  |some (.box _ _)=>aa ag| some (.ct s _ _ e st)=>if ep=e/\sz=s then aa (st == .nil)else ab| _=>ab
 | .fn,.f .tw=>aa ae| .fn,.f (.fn _ _)=>aa ag| .fn,.cl _ _=>aa ag| .fn,.bm _ _=>aa ag| .Rn,.f .oi=>aa ae| _,_=>ab
def WZ(g:Nat->Option bB):FR->V->V->Option Bool
 | .bool,.c x,.c y=>Gh .bool x y| .st b,.a xs,.a ys=>sA b xs ys| .ptr,.c x,.c (.f .rP)=>tj g .ptr x| .sl,.c x,.c (.f .aK)=>tj g .sl x| .fn,.c x,.c (.f .tw)=>tj g .fn x| .Rn,.c x,.c (.f .oi)=>tj g .Rn x| _,_,_=>ab
def uP(g:Nat->Option bB)(sz:Nat)(x:V)(lo hi mx:Option V):Option V:=
 match x with
 | .c (.f .aK)=>match ch 0 0 lo hi mx with
  |some _=>aa (.c (.f .aK))| none=>ab
 | .c (.f .es)=>match ch 0 0 lo hi mx with
  |some _=>aa (.c (.f .es))| none=>ab
 | .c (.f (.fs cs n))=>match ch n n lo hi mx with
  |some (l,h,m)=>
   if mx.isSome/\m=l then aa (.c (.f .es))else
   aa (.c (.f (.fs ((cs.drop (l*sz)).take ((h-l)*sz)) (h-l))))
  |none=>ab
 | .c (.sl b o n cap ep s)=>match g b with
  |some (.box _ _)=>match ch n cap lo hi mx with
   |some (l,h,m)=>if m=l then aa (.c (.f .es))else aa (.c (.sl b (o+l*sz) (h-l) (m-l) ep s))| none=>ab
  |some (.ct s' cs _ e st)=>
   if ep=e/\s=sz/\s'=sz then
    match st with
    | .loc=>match ch n n lo hi mx with
     |some (l,h,m)=>
      if mx.isSome/\m=l then aa (.c (.f .es))
      else if l=h/\0<l then aa (.c (.f (.fs [] 0)))
      else if mx.isSome then(if 0<l then aa (.c (.sl b 0 0 0 ep (s'+1)))else ab)
      else aa (.c (.sl b (o+l*sz) (h-l) 0 ep s))
     |none=>match mx with
      |some _=>ab
      |none=>match ch n ((cs.length-o) / sz) lo hi ab with
       |some (l,h,_)=>if n<=(cs.length-o) / sz/\l<h then aa (.c (.sl b (o+l*sz) (h-l) 0 ep s))else ab| none=>ab
    | .nil=>match ch 0 0 lo hi mx with
     |some _=>aa (.c (.f .aK))| none=>ab
    | .es=>match ch 0 0 lo hi mx with
     |some _=>aa (.c (.f .es))| none=>ab
   else ab
  |_=>ab
 |_=>ab
def Bb(g:Nat->Option bB)(n sz:Nat)(x:V)(lo hi mx:Option V):Option V:=
 match x with
 | .c (.ptr b off _)=>match g b with
  |some (.box cs _)=>match ch n n lo hi mx with
   |some (l,h,m)=>if off+n*sz<=cs.length then(if m=l then aa (.c (.f .es))else aa (.c (.sl b (off+l*sz) (h-l) (m-l) 0 sz)))else ab| none=>ab
  |_=>ab
 | .c (.f (.fp cs off))=>match ch n n lo hi mx with
   |some (l,h,m)=>if off+n*sz<=cs.length then(if m=l then aa (.c (.f .es))else aa (.c (.f (.fs ((cs.drop (off+l*sz)).take ((h-l)*sz)) (h-l)))))else ab| none=>ab
 |_=>ab
def vV(g:Nat->Option bB)(sz:Nat)(d:Option Nat)(x i:V):Option V:=
 match kQ i with
 |none=>ab
 |some i=>
  if 0<=i then
   match d,x with
   |none,.c (.sl b o l _ ep s)=>if i<l then
     (match g b with
      |some (.box _ _)=>aa (.c (.ptr b (o+i.toNat*sz) ep))| some (.ct s' _ _ e .loc)=>if ep=e/\s=s' then aa (.c (.ptr b (o+i.toNat*sz) ep))else ab
      |_=>ab)else ab
   |none,.c (.f (.fs cs l))=>if i<l then aa (.c (.f (.fp cs (i.toNat*sz))))else ab| some n,.c (.ptr b o ep)=>if i<n then aa (.c (.ptr b (o+i.toNat*sz) ep))else ab| some n,.c (.f (.fp cs o))=>if i<n then aa (.c (.f (.fp cs (o+i.toNat*sz))))else ab| _,_=>ab
  else ab
def wa(g:Nat->Option bB)(d:CK)(z:FC):V->V->Option V
 | .c (.f .xI),.c (.f k)=>if isKey d k then aa (To z ab)else ab
 | .c (.mp b),.c (.f k)=>match g b with
  |some (.map j)=>if isKey d k then(oR d k j).map (To z)else ab| _=>ab
 |_,_=>ab
def Ei(g:Nat->Option bB):V->Option V
 | .c x=>match tF g x with
  |some _=>match si g 1 x with
   |some cs=>(aZ (λc=>match c with|C.f (.int .u8 n)=>aa (UInt8.ofNat n.toNat)|_=>ab) cs).map λl=>.c (.f (.str ⟨l.toArray⟩))
   |none=>ab
  |none=>ab
 |_=>ab
def rj(g:Nat->Option bB)(sz:Nat):V->Option (Nat × List C)
 | .c (.f (.str s))=>if sz=1 then aa (s.size,s.toList.map λb=>.f (.int .u8 b.toNat))else ab
 | .c x=>match tF g x,si g sz x with
  |some l,aa cs=>aa (l,cs)| _,_=>ab
 |_=>ab
def Fw(g:Nat->Option bB):C->Option Nat
 | .sl b _ _ c ep sz=>match g b with
  |some (.box _ _)=>aa c| some (.ct s _ _ e .nil)=>if ep=e/\sz=s then aa 0 else ab| some (.ct s _ _ e .es)=>if ep=e/\sz=s then aa 0 else ab| _=>ab
 | .f .aK=>aa 0| .f .es=>aa 0| _=>ab
def Aw(g:Nat->Option bB):V->Option V
 | .c (.mi b)=>match g b with
  |some (.xw m _ ae)=>match g m with
   |some (.map [e])=>aa (.t [.c (.f e.1),mV e.2])| _=>ab
  |_=>ab
 |_=>ab
def PG(g:Nat->Option bB)(x:C)(xs:List C):Option Bt:=
 match x with
 | .ptr b off ep=>match g b with
  |some (.box cs fl)=>if fl<=off/\off+xs.length<=cs.length then aa (.set b (.box (bp cs off xs) fl))else ab| some (.ct sz cs fl e .loc)=>if ep=e/\fl<=off/\off+xs.length<=cs.length then aa (.set b (.ct sz (bp cs off xs) fl e .loc))else ab| _=>ab
 |_=>ab
def E3(g:Nat->Option bB):V->Option (V × Bt)
 | .c (.it b)=>match g b with
  |some (.it s pos)=>
   if pos<s.size then
    let r:=Utf8.decode s pos
    aa (.t [.bool ae,.int .i64 pos,.int .i32 r.1],.set b (.it s (pos+r.2)))
   else aa (.t [.bool ag],.no)
  |_=>ab
 |_=>ab
def vq(g:Nat->Option bB)(d:Nat)(sz bytes:Nat)(x y:V):Option (V × Bt):=
 match rj g sz y with
 |none=>ab
 |some (m,ys)=>
  if sz=0 then ab else
  match x with
  | .c (.f .aK)=>if m=0 then aa (.c (.f .aK),.no)else
    if bU m bytes then aa (.c (.sl d 0 m 0 0 sz),.push (.ct sz ys 0 0 .loc))else ab
  | .c (.f .es)=>if m=0 then aa (.c (.f .es),.no)else
    if bU m bytes then aa (.c (.sl d 0 m 0 0 sz),.push (.ct sz ys 0 0 .loc))else ab
  | .c (.sl b o l cap ep s)=>match g b with
   |some (.box cs fl)=>
    if l+m<=cap then
     if fl<=o+l*sz/\o+l*sz+ys.length<=cs.length then aa (.c (.sl b o (l+m) cap ep s),.set b (.box (bp cs (o+l*sz) ys) fl))else ab
    else if bU (l+m) bytes/\o+l*sz<=cs.length then aa (.c (.sl d 0 (l+m) 0 0 sz),.push (.ct sz ((cs.drop o).take (l*sz)++ys) 0 0 .loc))else ab
   |some (.ct s' cs fl e st)=>
    if ep=e/\s'=sz/\s=sz then
     if m=0 then aa (x,.no)
     else if o=0/\l*sz=cs.length/\fl<=cs.length then
      if bU (l+m) bytes then aa (.c (.sl b 0 (l+m) 0 (ep+1) sz),.set b (.ct sz (cs++ys) fl (e+1) .loc))else ab
     else if st=.loc/\fl<=o+l*sz/\o+l*sz+ys.length<=cs.length then
      aa (.c (.sl b o (l+m) 0 ep sz),.set b (.ct sz (bp cs (o+l*sz) ys) fl e .loc))
     else ab
    else ab
   |_=>ab
  |_=>ab
def Eh(g:Nat->Option bB)(sz:Nat)(x y:V):Option (V × Bt):=
 match rj g sz y,x with
 |some _,.c (.f .aK)=>aa (.int .i64 0,.no)| some _,.c (.f .es)=>aa (.int .i64 0,.no)
 |some (m,ys),.c (.sl b o l _ ep s')=>
  let n:=Nat.min m l
  match g b with
  |some (.box cs fl)=>if fl<=o/\o+n*sz<=cs.length then aa (.int .i64 n,.set b (.box (bp cs o (ys.take (n*sz))) fl))else ab| some (.ct s cs fl e .loc)=>if ep=e/\s'=s/\s=sz/\fl<=o/\o+n*sz<=cs.length then aa (.int .i64 n,.set b (.ct s (bp cs o (ys.take (n*sz))) fl e .loc))else ab| _=>ab
 |_,_=>ab
def Au(g:Nat->Option bB)(sz:Nat)(zs:List FC)(x:V):Option Bt:=
 match x with
 | .c y=>match tF g y with
  |some 0=>aa .no
  |some l=>
   if zs.length=sz then
    match y with
    | .sl b o _ _ ep s=>match g b with
     |some (.box _ _)=>PG g (.ptr b o ep) ((cP l zs).map .f)| some (.ct s' _ _ e .loc)=>if ep=e/\s=s' then PG g (.ptr b o ep) ((cP l zs).map .f)else ab| _=>ab
    |_=>ab
   else ab
  |none=>ab
 |_=>ab
def Fz(g:Nat->Option bB)(sz:Nat)(x hi mx:V):Option (V × Bt):=
 match uP g sz x ab (aa hi) (aa mx)with
 |some v=>aa (v,.no)
 |none=>match x with
  | .c (.sl b o n _ ep s)=>match g b with
   |some (.ct s' cs fl e .loc)=>
    if ep=e/\s=sz/\s'=sz/\o=0 then
     match BF hi n,BF mx n with
     |some i,aa j=>
      if i=j/\0<i/\i*sz<=cs.length then
       match aZ fcC (cs.take (i*sz))with
       |some ys=>aa (.c (.f (.fs ys i)),.set b (.ct s' cs (Nat.max fl (i*sz)) e .loc))| none=>ab
      else ab
     |_,_=>ab
    else ab
   |_=>ab
  |_=>ab
def D_(g:Nat->Option bB)(b:Nat)(sz bytes:Nat)(zs:List FC)(x n:V):Option (V × Bt):=
 match kQ n with
 |some n=>
  if 0<=n/\zs.length=sz then
   match x with
   | .c (.f .aK)=>if n.toNat=0 then aa (.c (.f .aK),.no)else
     if bU n.toNat bytes then aa (.c (.sl b 0 n.toNat 0 0 sz),.push (.ct sz ((cP n.toNat zs).map .f) 0 0 .loc))else ab
   | .c (.f .es)=>if n.toNat=0 then aa (.c (.f .es),.no)else
     if bU n.toNat bytes then aa (.c (.sl b 0 n.toNat 0 0 sz),.push (.ct sz ((cP n.toNat zs).map .f) 0 0 .loc))else ab
   |_=>ab
  else ab
 |none=>ab
def AW(g:Nat->Option bB):V->Option (V × Bt)
 | .c (.mi b)=>match g b with
  |some (.xw m d done)=>match g m with
   |some (.map [])=>if done then ab else aa (.t [.bool ag],.no)| some (.map [e])=>if done then aa (.t [.bool ag],.no)else if d=1 then aa (.t [.bool ae,.c (.f e.1),mV e.2],.set b (.xw m 1 ae))else ab| _=>ab
  |_=>ab
 |_=>ab
def wJ(g:Nat->Option bB)(j:Nat):V->Option (V × Bt)
 | .c (.mp b)=>match g b with
  |some (.map d)=>if d.length<=1 then aa (.c (.mi j),.push (.xw b d.length ag))else ab| _=>ab
 |_=>ab
def P9(aF:T)(g:Nat->Option bB)(d:Nat):dd->Option (V × Bt)
 | .dr x=>aa (x.ev aF,.no)| .pre o sz=>if o=.loc\/sz=0 then ab else aa (.c (.sl d 0 0 0 0 sz),.push (.ct sz [] 0 0 o))
 | .pick c a b=>match c.ev aF with
  | .c (.f (.bool v))=>aa ((if v then a else b).ev aF,.no)| _=>ab
 | .alloc zs=>aa (.c (.ptr d 0 0),.push (.box (zs.map .f) 0))
 | .box x=>match (x.ev aF).cells? with
  |some xs=>aa (.c (.ptr d 0 0),.push (.box xs 0))| none=>ab
 | .build zs ps=>(dO aF (zs.map .f) ps).map λcs=>(.a cs,.no)
 | .dX sz zs n ps=>
  if n=0 then(if ps.isEmpty then aa (.c (.f .es),.no)else ab)else
  (dO aF ((cP n zs).map .f) (ps.map λp=>(p.1*sz,sz,p.2))).map λcs=>(.c (.sl d 0 n n 0 sz),.push (.box cs 0))
 | .load n x=>(Xv g n (x.ev aF)).map (·,.no)
 | .store n x y=>match x.ev aF,(y.ev aF).cells? with
  | .c p,aa xs=>if xs.length=n then(PG g p xs).map (.top,·)else ab| _,_=>ab
 | .jx x=>match x.ev aF with
  | .c (.ptr b o e)=>aa (.c (.ptr b o e),.no)| .c (.f (.fp cs o))=>aa (.c (.f (.fp cs o)),.no)| _=>ab
 | .bin op x y=>(ei op (x.ev aF) (y.ev aF)).map (·,.no)| .eq neg k x y=>(WZ g k (x.ev aF) (y.ev aF)).map λb=>(.bool (if neg then !b else b),.no)
 | .un op x=>(PZ op (x.ev aF)).map (·,.no)
 | .I' k x=>match x.ev aF with
  | .c (.f (.int _ n))=>aa (.int k (k.wrap n),.no)| _=>ab
 | .xC x=>match x.ev aF with
  | .c (.f (.str s))=>aa (.c (.f (.str s)),.no)| _=>ab
 | .xB x=>(Ei g (x.ev aF)).map (·,.no)
 | .Ej x=>match x.ev aF with
  | .c (.f (.str s))=>if s.size<2 ^ 48 then aa (.c (.sl d 0 s.size 0 0 1),.push (.ct 1 (s.toList.map λb=>.f (.int .u8 b.toNat)) 0 0 .loc))else ab
  |_=>ab
 | .tt f j=>(aZ oE (dH aF j)).map λxs=>(.c (.cl f xs),.no)
 | .mr=>aa (.c (.mp d),.push (.map []))| .lookup q z m k=>(wa g q z (m.ev aF) (k.ev aF)).map (·,.no)
 | .mq q m k v=>match m.ev aF,k.ev aF,rp (v.ev aF)with
  | .c (.mp b),.c (.f k),aa v=>match g b with
   |some (.map A)=>if isKey q k then(rO q k v A).map λA=>(.top,.set b (.map A))else ab
   |_=>ab
  |_,_,_=>ab
 | .fQ sz bytes zs l c=>match kQ (l.ev aF),kQ (c.ev aF)with
  |some l,aa c=>
   if 0<=l/\l<=c/\bU c.toNat bytes=ae/\zs.length=sz then
    (if c=0 then aa (.c (.f .es),.no)else
    aa (.c (.sl d 0 l.toNat c.toNat 0 sz),.push (.box ((cP c.toNat zs).map .f) 0)))
   else ab
  |_,_=>ab
 | .slice sz x lo hi mx=>(uP g sz (x.ev aF) (lo.map (·.ev aF)) (hi.map (·.ev aF)) (mx.map (·.ev aF))).map (·,.no)| .pc n sz x lo hi mx=>(Bb g n sz (x.ev aF) (lo.map (·.ev aF)) (hi.map (·.ev aF)) (mx.map (·.ev aF))).map (·,.no)| .qo x lo hi=>(wZ (x.ev aF) (lo.map (·.ev aF)) (hi.map (·.ev aF))).map (·,.no)| .fL off x=>(kI off (x.ev aF)).map (·,.no)| .field off n x=>(ko off n (x.ev aF)).map (·,.no)| .ez sz u x i=>(vV g sz u (x.ev aF) (i.ev aF)).map (·,.no)| .idxs x i=>(Cb (x.ev aF) (i.ev aF)).map (·,.no)| .xD len sz n x i=>(Ca len sz n (x.ev aF) (i.ev aF)).map (·,.no)
 | .range x=>match x.ev aF with
  | .c (.f (.str s))=>aa (.c (.it d),.push (.it s 0))| _=>ab
 | .next x=>E3 g (x.ev aF)
 | .extract x i=>match x.ev aF with
  | .t E=>(E[i]?).map (·,.no)| _=>ab
 | .iP n=>aa (.int .i64 n,.no)
 | .lens x=>match x.ev aF with
  | .c (.f (.str s))=>aa (.int .i64 (s.size:Nat),.no)| _=>ab
 | .len x=>match x.ev aF with
  | .c y=>match tF g y with
   |some n=>aa (.int .i64 (n:Nat),.no)| none=>ab
  |_=>ab
 | .append sz bytes x y=>vq g d sz bytes (x.ev aF) (y.ev aF)| .copy sz x y=>Eh g sz (x.ev aF) (y.ev aF)| .pW lo xs=>(xH lo (dH aF xs)).map (·,.no)| .clear sz zs x=>(Au g sz zs (x.ev aF)).map (.t [],·)| .ib sz zs n ps=>((dO aF ((cP n zs).map .f) (ps.map λp=>(p.1*sz,sz,p.2))).bind λcs=>if n=0 then ab else Qc cs).map λB=>(.c (.f (.fs B n)),.no)
 | .wW sz x hi mx=>Fz g sz (x.ev aF) (hi.ev aF) (mx.ev aF)| .oC sz bytes zs x n=>D_ g d sz bytes zs (x.ev aF) (n.ev aF)| .mF x=>wJ g d (x.ev aF)| .qi x=>AW g (x.ev aF)| .entry x=>(Aw g (x.ev aF)).map (·,.no)| .tq f xs=>(aZ oE (dH aF xs)).map λxs=>(.c (.bm f xs),.no)
 | .cap x=>match x.ev aF with
  | .c y=>match Fw g y with
   |some n=>aa (.int .i64 (n:Nat),.no)| none=>ab
  |_=>ab
 |_=>ab
def gt(H:aj):Nat->Option bB:=λb=>H[b]?
theorem BL(H:aj):vu (gt H)=aw H:=by funext x;unfold vu aw gt;rfl
theorem Ry(H:aj):Xv (gt H)=aQ H:=by funext n x;unfold Xv aQ;rw[BL];rfl
theorem pQ(H:aj):tF (gt H)=bo H:=by funext x;unfold tF bo gt;rfl
theorem ud(H:aj):si (gt H)=cR H:=by funext n x;unfold si cR gt;rfl
theorem Jx(H:aj):tj (gt H)=isNil H:=by funext k x;unfold tj isNil gt;rfl
theorem Q6(H:aj):WZ (gt H)=Dk H:=by funext k x y;unfold WZ Dk;rw[Jx];rfl
theorem wX(H:aj):uP (gt H)=ea H:=by funext n x a b c;unfold uP ea gt;rfl
theorem Fx(H:aj):Bb (gt H)=mH H:=by funext m n x a b c;unfold Bb mH gt;rfl
theorem Cc(H:aj):vV (gt H)=bw H:=by funext n a x i;unfold vV bw gt;rfl
theorem Ci(H:aj):wa (gt H)=gR H:=by funext k z x y;unfold wa gR gt;rfl
theorem I8(H:aj):Ei (gt H)=qe H:=by funext x;unfold Ei qe;rw[pQ,ud];rfl
theorem qD(H:aj):rj (gt H)=cS H:=by funext n x;unfold rj cS;rw[pQ,ud];rfl
theorem Kt(H:aj):Fw (gt H)=kE H:=by funext x;unfold Fw kE gt;rfl
theorem El(H:aj):Aw (gt H)=ny H:=by funext x;unfold Aw ny gt;rfl
def lL(H:aj)(r:Option (V × Bt)):Option (V × aj):=r.map λr=>(r.1,r.2.app H)
theorem Bc(H:aj)(x:C)(xs:List C):(PG (gt H) x xs).map (·.app H)=cz H x xs:=by
 cases x with
 |ptr b off ep=>
  simp only[PG,cz,gt];cases h:H[b]? with
  |none=>rfl
  |some bz=>
   cases bz with
   |box cs fl=>simp only;split<;>rfl
   |ct sz cs fl e st=>cases st<;>simp only<;>first|rfl|(split<;>rfl)
   |_=>rfl
 |_=>rfl
theorem JM(H:aj)(x:V):lL H (E3 (gt H) x)=GL H x:=by
 cases x with
 |c x=>
  cases x with
  |it b=>
   simp only[E3,GL,gt,lL];cases h:H[b]? with
   |none=>rfl
   |some bz=>
    cases bz with
    |it s pos=>simp only;split<;>rfl
    |_=>rfl
  |_=>rfl
 |_=>rfl
theorem I7(H:aj)(sz:Nat)(x y:V):lL H (Eh (gt H) sz x y)=copyV H sz x y:=by
 unfold Eh copyV lL;rw[qD];cases d:cS H sz y with
 |none=>rfl
 |some r=>
  obtain⟨m,ys⟩:=r;cases x with
  |c x=>
   cases x with
   |f x=>cases x<;>rfl
   |sl b o l cap ep s=>
    simp only[gt];cases h:H[b]? with
    |none=>rfl
    |some bz=>
     cases bz with
     |box cs fl=>simp only;split<;>rfl
     |ct sz cs fl e st=>cases st<;>simp only<;>first|rfl|(split<;>rfl)
     |_=>rfl
   |_=>rfl
  |_=>rfl
theorem BB(H:aj)(sz bytes:Nat)(x y:V):lL H (vq (gt H) H.length sz bytes x y)=cw H sz bytes x y:=by
 unfold vq cw lL;rw[qD];cases d:cS H sz y with
 |none=>rfl
 |some r=>
  obtain⟨m,ys⟩:=r;simp only;by_cases h0:sz=0
  .simp[h0]
  .simp only[h0,if_false];cases x with
   |c x=>
    cases x with
    |f x=>cases x<;>first|rfl|(simp only;repeat' (first|rfl|split))
    |sl b o l cap ep s=>
     simp only[gt];cases h:H[b]? with
     |none=>rfl
     |some bz=>
      cases bz with
      |box cs fl=>simp only;repeat' (first|rfl|split)
      |ct sz cs fl e st=>simp only;repeat' (first|rfl|split)
      |_=>rfl
    |_=>rfl
   |_=>rfl
theorem Ec(H:aj)(sz:Nat)(zs:List FC)(x:V):(Au (gt H) sz zs x).map (·.app H)=qH H sz zs x:=by
 unfold Au qH;cases x with
 |c y=>
  simp only[pQ];cases bo H y with
  |none=>rfl
  |some l=>
   cases l with
   |zero=>rfl
   |succ l=>
    simp only;split
    .cases y with
     |sl b o d c ep s=>
      simp only[gt];cases h:H[b]? with
      |none=>rfl
      |some bz=>
       cases bz with
       |box cs fl=>exact Bc H _ _
       |ct s' cs fl e st=>
        cases st<;>simp only<;>first|rfl|skip
        split
        .exact Bc H _ _
        .rfl
       |_=>rfl
     |_=>rfl
    .rfl
 |_=>rfl
theorem IB(H:aj)(sz bytes:Nat)(zs:List FC)(x n:V):lL H (D_ (gt H) H.length sz bytes zs x n)=vr H sz bytes zs x n:=by
 unfold D_ vr lL;cases kQ n with
 |none=>rfl
 |some n=>
  simp only;split
  .cases x with
   |c x=>
    cases x with
    |f x=>cases x<;>first|rfl|(simp only;repeat' (first|rfl|split))
    |_=>rfl
   |_=>rfl
  .rfl
theorem Kw(H:aj)(sz:Nat)(x hi mx:V):lL H (Fz (gt H) sz x hi mx)=C0 H sz x hi mx:=by
 unfold Fz C0 lL;rw[wX];cases ea H sz x ab (aa hi) (aa mx)with
 |some v=>rfl
 |none=>
  simp only;cases x with
  |c x=>
   cases x with
   |sl b o n c ep s=>
    simp only[gt];cases H[b]? with
    |none=>rfl
    |some bz=>
     cases bz with
     |ct s' cs fl e st=>
      cases st<;>simp only<;>first|rfl|skip
      split
      .cases BF hi n<;>cases BF mx n<;>simp only<;>first|rfl|skip
       split
       .cases aZ fcC (List.take _ cs)<;>rfl
       .rfl
      .rfl
     |_=>rfl
   |_=>rfl
  |_=>rfl
theorem E4(H:aj)(x:V):lL H (AW (gt H) x)=AV H x:=by
 cases x with
 |c x=>
  cases x with
  |mi b=>
   simp only[AW,AV,gt,lL];cases h:H[b]? with
   |none=>rfl
   |some bz=>
    cases bz with
    |xw m g done=>
     simp only;cases l:H[m]? with
     |none=>rfl
     |some d=>
      cases d with
      |map j=>
       match j with
       |[]=>simp only;split<;>rfl
       |[e]=>simp only;repeat' (first|rfl|split)
       |_::_::_=>rfl
      |_=>rfl
    |_=>rfl
  |_=>rfl
 |_=>rfl
theorem CD(H:aj)(x:V):lL H (wJ (gt H) H.length x)=uM H x:=by
 cases x with
 |c x=>
  cases x with
  |mp b=>
   simp only[wJ,uM,gt,lL];cases h:H[b]? with
   |none=>rfl
   |some bz=>
    cases bz with
    |map d=>simp only;split<;>rfl
    |_=>rfl
  |_=>rfl
 |_=>rfl
theorem F3{H:aj}(o:Option V):lL H (o.map (·,.no))=o.map (·,H):=by cases o<;>rfl
theorem Bj(aF:T)(H:aj)(op:dd):lL H (P9 aF (gt H) H.length op)=bF aF H op:=by
 cases op<;>simp only[P9,bF,F3,Ry,wX,Fx,Cc,Ci,I8,BB,I7,JM,IB,Kw,E4,CD,El]
 all_goals first|rfl|skip
 case pre o sz=>split<;>rfl
 case pick c a b=>
  generalize c.ev aF=v;cases v<;>try rfl
  rename_i x;cases x<;>try rfl
  rename_i x;cases x<;>rfl
 case box x=>generalize (x.ev aF).cells?=o;cases o<;>rfl
 case build zs ps=>cases dO aF (zs.map .f) ps<;>rfl
 case dX sz zs n ps=>
  split
  .split<;>rfl
  .simp only[lL,ahd];rfl
 case ib sz zs n ps=>
  generalize (dO aF ((cP n zs).map .f) (ps.map λp=>(p.1*sz,sz,p.2))).bind (λcs=>if n=0 then ab else Qc cs)=o;cases o<;>rfl
 case store n x y=>
  generalize x.ev aF=v;generalize (y.ev aF).cells?=o;cases v<;>cases o<;>try rfl
  simp only;split
  .rw[<-Bc];simp only[lL,ahd];rfl
  .rfl
 case jx x=>
  generalize x.ev aF=v;cases v<;>try rfl
  rename_i x;cases x<;>try rfl
  rename_i x;cases x<;>rfl
 case eq neg k x y=>rw[Q6];simp only[lL,ahd];rfl
 case I' k x=>
  generalize x.ev aF=v;cases v<;>try rfl
  rename_i x;cases x<;>try rfl
  rename_i x;cases x<;>rfl
 case xC x=>
  generalize x.ev aF=v;cases v<;>try rfl
  rename_i x;cases x<;>try rfl
  rename_i x;cases x<;>rfl
 case Ej x=>
  generalize x.ev aF=v;cases v<;>try rfl
  rename_i x;cases x<;>try rfl
  rename_i x;cases x<;>try rfl
  simp only;split<;>rfl
 case tt f d=>simp only[lL,ahd];rfl
 case mq g m k v=>
  generalize m.ev aF=m;generalize k.ev aF=k;generalize rp (v.ev aF)=v;cases m<;>try rfl
  rename_i m;cases m<;>try rfl
  cases k<;>try rfl
  rename_i k;cases k<;>try rfl
  cases v<;>try rfl
  simp only[gt];rename_i b k v;cases H[b]? with
  |none=>rfl
  |some bz=>
   cases bz<;>try rfl
   simp only;split
   .simp only[lL,ahd];rfl
   .rfl
 case fQ sz bytes zs l c=>
  generalize kQ (l.ev aF)=l;generalize kQ (c.ev aF)=c;cases l<;>cases c<;>try rfl
  simp only;split
  .split<;>rfl
  .rfl
 case range x=>
  generalize x.ev aF=v;cases v<;>try rfl
  rename_i x;cases x<;>try rfl
  rename_i x;cases x<;>rfl
 case extract x i=>
  generalize x.ev aF=v;cases v<;>try rfl
  simp only[F3]
 case len x=>
  generalize x.ev aF=v;cases v<;>try rfl
  rw[pQ];simp only;rename_i y;cases bo H y<;>rfl
 case lens x=>
  generalize x.ev aF=v;cases v<;>try rfl
  rename_i x;cases x<;>try rfl
  rename_i x;cases x<;>rfl
 case clear sz zs x=>rw[<-Ec];simp only[lL,ahd];rfl
 case tq f d=>simp only[lL,ahd];rfl
 case cap x=>
  generalize x.ev aF=v;cases v<;>try rfl
  rw[Kt];simp only;rename_i y;cases kE H y<;>rfl
section
set_option linter.unusedVariables false
inductive BT(α:Type) where
 |e
 |n (l:BT α) (x:α) (r:BT α)
def BT.get{d:Type}:BT d->Nat->Option d
 | .e,_=>ab
 | .n l x r,b=>match b with
  |0=>aa x| m+1=>if m % 2=0 then l.get (m / 2)else r.get (m / 2)
abbrev HT:=BT bB
def iU{j:Type}(b:Nat)(t:BT j)(k:j->Prop):Prop:=
 BT.rec (motive:=λ_=>Nat->Prop) (λ_=>False)
  (λ_ x _ d g b=>Nat.rec (motive:=λ_=>Prop) (k x) (λm _=>Nat.rec (motive:=λ_=>Prop) (d (Nat.div m 2)) (λ_ _=>g (Nat.div m 2)) (Nat.mod m 2)) b) t b
def iC{d:Type}(x:d)(t:BT d):Nat->(BT d->Prop)->Prop:=
 BT.rec (motive:=λ_=>Nat->(BT d->Prop)->Prop) (λ_ _=>False)
  (λl y r g j b k=>Nat.rec (motive:=λ_=>Prop) (k (.n l x r))
   (λm _=>Nat.rec (motive:=λ_=>Prop) (g (Nat.div m 2) λq=>k (.n q y r)) (λ_ _=>j (Nat.div m 2) λr'=>k (.n l y r')) (Nat.mod m 2)) b) t
def Ap{d:Type}(x:d)(t:BT d):Nat->(BT d->Prop)->Prop:=
 BT.rec (motive:=λ_=>Nat->(BT d->Prop)->Prop) (λb k=>Nat.rec (motive:=λ_=>Prop) (k (.n .e x .e)) (λ_ _=>False) b)
  (λl y r g j b k=>Nat.rec (motive:=λ_=>Prop) False
   (λm _=>Nat.rec (motive:=λ_=>Prop) (g (Nat.div m 2) λq=>k (.n q y r)) (λ_ _=>j (Nat.div m 2) λr'=>k (.n l y r')) (Nat.mod m 2)) b) t
theorem OA(m:Nat):m % 2=0\/m % 2=1:=by omega
theorem dW{u:Type}{t:BT u}:∀{b:Nat} {k:u->Prop},iU b t k->∃x,t.get b=aa x/\k x:=by
 induction t with
 |e=>intro b k h;exact h.elim
 |n l x r q s=>
  intro b k h;cases b with
  |zero=>exact⟨x,rfl,h⟩
  |succ m=>
   have j:Nat.rec (motive:=λ_=>Prop) (iU (m / 2) l k) (λ_ _=>iU (m / 2) r k) (m % 2):=h;rcases OA m with e|e<;>rw[e]at j
   .obtain⟨y,d,g⟩:=q j;exact⟨y,by simp[BT.get,e,d],g⟩
   .obtain⟨y,d,g⟩:=s j;exact⟨y,by simp[BT.get,e,d],g⟩
def qa{d:Type}(t g:BT d)(b:Nat)(x:d):Prop:=∀i,g.get i=if i=b then aa x else t.get i
theorem qa.left{g:Type}{l d r:BT g}{y x:g}{m:Nat}(e:m % 2=0)(h:qa l d (m / 2) x):qa (.n l y r) (.n d y r) (m+1) x:=by
 intro i;cases i with
 |zero=>simp[BT.get]
 |succ j=>
  simp only[BT.get,h (j / 2)];rcases OA j with b|b
  .have:(j / 2=m / 2)↔(j=m):=by omega
   simp[b,this]
  .have:j≠m:=by omega
   simp[b,this]
theorem qa.right{d:Type}{l r' r:BT d}{y x:d}{m:Nat}(e:m % 2=1)(h:qa r r' (m / 2) x):qa (.n l y r) (.n l y r') (m+1) x:=by
 intro i;cases i with
 |zero=>simp[BT.get]
 |succ j=>
  simp only[BT.get,h (j / 2)];rcases OA j with b|b
  .have:j≠m:=by omega
   simp[b,this]
  .have:(j / 2=m / 2)↔(j=m):=by omega
   simp[b,this]
theorem Ni{A:Type}{x:A}{t:BT A}:∀{b:Nat} {k:BT A->Prop},iC x t b k->∃B,qa t B b x/\(∃y,t.get b=aa y)/\k B:=by
 induction t with
 |e=>intro b k h;exact h.elim
 |n l y r s u=>
  intro b k h;cases b with
  |zero=>
   refine⟨.n l x r,λi=>?_,⟨y,rfl⟩,h⟩;cases i<;>simp[BT.get]
  |succ m=>
   have q:Nat.rec (motive:=λ_=>Prop) (iC x l (m / 2) λv=>k (.n v y r)) (λ_ _=>iC x r (m / 2) λr'=>k (.n l y r')) (m % 2):=h;rcases OA m with e|e<;>rw[e]at q
   .obtain⟨v,d,⟨z,g⟩,j⟩:=s q;exact⟨_,d.left e,⟨z,by simp[BT.get,e,g]⟩,j⟩
   .obtain⟨v,d,⟨z,g⟩,j⟩:=u q;exact⟨_,d.right e,⟨z,by simp[BT.get,e,g]⟩,j⟩
theorem IE{v:Type}{x:v}{t:BT v}:∀{b:Nat} {k:BT v->Prop},Ap x t b k->∃z,qa t z b x/\k z:=by
 induction t with
 |e=>
  intro b k h;cases b with
  |zero=>
   refine⟨.n .e x .e,λi=>?_,h⟩;cases i<;>simp[BT.get]
  |succ m=>exact h.elim
 |n l y r q s=>
  intro b k h;cases b with
  |zero=>exact h.elim
  |succ m=>
   have j:Nat.rec (motive:=λ_=>Prop) (Ap x l (m / 2) λu=>k (.n u y r)) (λ_ _=>Ap x r (m / 2) λr'=>k (.n l y r')) (m % 2):=h;rcases OA m with e|e<;>rw[e]at j
   .obtain⟨u,d,g⟩:=q j;exact⟨_,d.left e,g⟩
   .obtain⟨u,d,g⟩:=s j;exact⟨_,d.right e,g⟩
def df(H:aj)(t:HT):Prop:=t.get=gt H
theorem df.nil:df [] .e:=by funext b;simp[BT.get,gt]
theorem df.set{H:aj}{t g:HT}(h:df H t){b:Nat}{x:bB}(l:qa t g b x)(j:∃y,t.get b=aa y):df (H.set b x) g:=by
 funext i;obtain⟨y,hy⟩:=j;rw[h]at hy;have d:b<H.length:=(afD.1 hy).1;rw[l i,h];simp only[gt];by_cases e:i=b
 .subst e;simp[d]
 .simp[e,ae2 (Ne.symm e)]
theorem df.push{H:aj}{t b:HT}(h:df H t){x:bB}(d:qa t b H.length x):df (H++[x]) b:=by
 funext i;rw[d i,h];simp only[gt];by_cases e:i=H.length
 .subst e;simp
 .by_cases hi:i<H.length
  .simp[e,List.getElem?_append_left hi]
  .rw[afI (by omega)];have:i-H.length≠0:=by omega
   simp[e,agP (l:=H) (i:=i) (by omega),this]
def cB(n:Nat)(k:Nat->Prop):Prop:=Nat.rec (motive:=λ_=>Prop) (k 0) (λm _=>k (Nat.succ m)) n
def s0(n:Int)(k:Int->Prop):Prop:=Int.rec (motive:=λ_=>Prop) (λn=>cB n λn=>k (.ofNat n)) (λn=>cB n λn=>k (.negSucc n)) n
def oK(b:Bool)(k:Bool->Prop):Prop:=Bool.rec (motive:=λ_=>Prop) (k ag) (k ae) b
theorem cC(n:Nat)(k:Nat->Prop):cB n k=k n:=by cases n<;>rfl
theorem yR(n:Int)(k:Int->Prop):s0 n k=k n:=by cases n<;>simp only[s0,cC]
theorem iY(b:Bool)(k:Bool->Prop):oK b k=k b:=by cases b<;>rfl
def Es(x:FC)(k:FC->Prop):Prop:=match x with
 | .bool b=>oK b λb=>k (.bool b)
 | .int j n=>s0 n λn=>k (.int j n)
 | .fp cs o=>cB o λo=>k (.fp cs o)
 | .fs cs l=>cB l λl=>k (.fs cs l)
 |x=>k x
theorem Jj(x:FC)(k:FC->Prop):Es x k=k x:=by cases x<;>simp only[Es,cC,yR,iY]
def sY(x:C)(k:C->Prop):Prop:=match x with
 | .f x=>Es x λx=>k (.f x)
 | .ptr b o e=>cB b λb=>cB o λo=>cB e λe=>k (.ptr b o e)
 | .sl b o l c e s=>cB b λb=>cB o λo=>cB l λl=>cB c λc=>cB e λe=>cB s λs=>k (.sl b o l c e s)
 |x=>k x
theorem sZ(x:C)(k:C->Prop):sY x k=k x:=by cases x<;>simp only[sY,cC,Jj]
def oL(xs:List C):(List C->Prop)->Prop:=
 List.rec (motive:=λ_=>(List C->Prop)->Prop) (λk=>k []) (λx _ b k=>sY x λx=>b λxs=>k (x::xs)) xs
theorem mT:∀(xs:List C) (k:List C->Prop),oL xs k=k xs
 |[],k=>rfl
 |x::xs,k=>by
  show sY x (λx=>oL xs λxs=>k (x::xs))=_;rw[sZ,mT xs]
def uF(v:V)(k:V->Prop):Prop:=match v with
 | .c x=>sY x λx=>k (.c x)
 | .a xs=>oL xs λxs=>k (.a xs)
 |v=>k v
theorem Et(v:V)(k:V->Prop):uF v k=k v:=by cases v<;>simp only[uF,sZ,mT]
def AF(xs:List V):(List V->Prop)->Prop:=
 List.rec (motive:=λ_=>(List V->Prop)->Prop) (λk=>k []) (λx _ b k=>uF x λx=>b λxs=>k (x::xs)) xs
theorem vR:∀(xs:List V) (k:List V->Prop),AF xs k=k xs
 |[],k=>rfl
 |x::xs,k=>by
  show uF x (λx=>AF xs λxs=>k (x::xs))=_;rw[Et,vR xs]
def nB(v:V)(k:V->Prop):Prop:=match v with
 | .c x=>sY x λx=>k (.c x)
 | .a xs=>oL xs λxs=>k (.a xs)
 | .t b=>AF b λb=>k (.t b)
 | .top=>k .top
theorem ta(v:V)(k:V->Prop):nB v k=k v:=by cases v<;>simp only[nB,sZ,mT,vR]
def tc(x:bB)(k:bB->Prop):Prop:=match x with
 | .box cs fl=>oL cs λcs=>cB fl λfl=>k (.box cs fl)
 | .ct sz cs fl e st=>oL cs λcs=>cB fl λfl=>cB e λe=>k (.ct sz cs fl e st)
 | .it s p=>cB p λp=>k (.it s p)
 |x=>k x
theorem yS(x:bB)(k:bB->Prop):tc x k=k x:=by cases x<;>simp only[tc,cC,mT]
def B9(p:P):T->(V->Prop)->Prop:=
 P.rec (motive:=λ_=>T->(V->Prop)->Prop)
  (λt k=>T.rec (motive:=λ_=>Prop) (k .top) (λ_ v _ _ _=>k v) t)
  (λ_ b t k=>T.rec (motive:=λ_=>Prop) (k .top) (λl _ _ _ _=>b l k) t)
  (λ_ b t k=>T.rec (motive:=λ_=>Prop) (k .top) (λ_ _ r _ _=>b r k) t) p
theorem pD:∀(p:P) (t:T) (k:V->Prop),B9 p t k=k (t.get p)
 | .h,.e,k=>rfl| .h,.n _ _ _,k=>rfl| .o p,.e,k=>rfl| .o p,.n l _ _,k=>pD p l k| .i p,.e,k=>rfl| .i p,.n _ _ r,k=>pD p r k
def R8(p:P)(w:V):T->(T->Prop)->Prop:=
 P.rec (motive:=λ_=>T->(T->Prop)->Prop)
  (λt k=>T.rec (motive:=λ_=>Prop) (k (.n .e w .e)) (λl _ r _ _=>k (.n l w r)) t)
  (λ_ b t k=>T.rec (motive:=λ_=>Prop) (b .e λl=>k (.n l .top .e)) (λl v r _ _=>b l λl=>k (.n l v r)) t)
  (λ_ b t k=>T.rec (motive:=λ_=>Prop) (b .e λr=>k (.n .e .top r)) (λl v r _ _=>b r λr=>k (.n l v r)) t) p
theorem pP(w:V):∀(p:P) (t:T) (k:T->Prop),R8 p w t k=k (t.set p w)
 | .h,.e,k=>rfl| .h,.n _ _ _,k=>rfl| .o p,.e,k=>pP w p .e _| .o p,.n l _ _,k=>pP w p l _| .i p,.e,k=>pP w p .e _| .i p,.n _ _ r,k=>pP w p r _
def rv(x:Arg)(r:T)(k:V->Prop):Prop:=Arg.rec (motive:=λ_=>Prop) (λp=>B9 p r k) (λv=>k v) x
theorem dE(x:Arg)(r:T)(k:V->Prop):rv x r k=k (x.ev r):=by cases x;exact pD _ _ _;rfl
def BD(xs:List Arg)(r:T):(List V->Prop)->Prop:=
 List.rec (motive:=λ_=>(List V->Prop)->Prop) (λk=>k []) (λx _ b k=>rv x r λv=>b λd=>k (v::d)) xs
theorem rn(r:T):∀(xs:List Arg) (k:List V->Prop),BD xs r k=k (dH r xs)
 |[],k=>rfl
 |x::xs,k=>by
  show rv x r (λv=>BD xs r λb=>k (v::b))=_;rw[dE,rn r xs];rfl
def Ya(d:Option P)(r:T)(v:V)(k:T->Prop):Prop:=Option.rec (motive:=λ_=>Prop) (k r) (λd=>R8 d v r k) d
theorem GW(d:Option P)(r:T)(v:V)(k:T->Prop):Ya d r v k=k (lS r d v):=by cases d;rfl;exact pP _ _ _ _
def uO(ps:List P):List V->T->(T->Prop)->Prop:=
 List.rec (motive:=λ_=>List V->T->(T->Prop)->Prop) (λ_ r k=>k r)
  (λp _ d b r k=>List.rec (motive:=λ_=>Prop) (k r) (λv b _=>R8 p v r λr=>d b r k) b) ps
theorem qS:∀(ps:List P) (b:List V) (r:T) (k:T->Prop),uO ps b r k=k (cO ps b r)
 |[],b,r,k=>by cases b<;>rfl
 |p::ps,[],r,k=>rfl
 |p::ps,v::b,r,k=>by
  show R8 p v r (λr=>uO ps b r k)=_;rw[pP,qS ps];rfl
def RV{b:Type}(n:Nat):List b->(b->Prop)->Prop:=
 Nat.rec (motive:=λ_=>List b->(b->Prop)->Prop) (λxs k=>List.rec (motive:=λ_=>Prop) False (λx _ _=>k x) xs)
  (λ_ d xs k=>List.rec (motive:=λ_=>Prop) False (λ_ xs _=>d xs k) xs) n
theorem uK{b:Type}:∀{n:Nat} {xs:List b} {k:b->Prop},RV n xs k->∃x,xs[n]?=aa x/\k x
 |0,[],_,h=>h.elim| 0,x::_,_,h=>⟨x,rfl,h⟩| n+1,[],_,h=>h.elim| n+1,_::xs,k,h=>uK (n:=n) (xs:=xs) (k:=k) h
def vF{b:Type}(n:Nat):List b->(List b->Prop)->Prop:=
 Nat.rec (motive:=λ_=>List b->(List b->Prop)->Prop) (λxs k=>k xs)
  (λ_ d xs k=>List.rec (motive:=λ_=>Prop) (k []) (λ_ xs _=>d xs k) xs) n
theorem oG{b:Type}:∀(n:Nat) (xs:List b) (k:List b->Prop),vF n xs k=k (xs.drop n)
 |0,xs,k=>rfl| n+1,[],k=>rfl| n+1,_::xs,k=>oG n xs k
def sU{b:Type}(n:Nat):List b->(List b->Prop)->Prop:=
 Nat.rec (motive:=λ_=>List b->(List b->Prop)->Prop) (λxs k=>k xs)
  (λ_ d xs k=>List.rec (motive:=λ_=>Prop) False (λ_ xs _=>d xs k) xs) n
theorem lE{b:Type}:∀{n:Nat} {xs:List b} {k:List b->Prop},sU n xs k->n<=xs.length/\k (xs.drop n)
 |0,xs,k,h=>⟨by simp,h⟩
 |n+1,[],k,h=>h.elim
 |n+1,x::xs,k,h=>by
  obtain⟨g,d⟩:=lE (n:=n) (xs:=xs) (k:=k) h;exact⟨by simp;omega,d⟩
def ob{b:Type}(n:Nat):List b->(List b->Prop)->Prop:=
 Nat.rec (motive:=λ_=>List b->(List b->Prop)->Prop) (λ_ k=>k [])
  (λ_ d xs k=>List.rec (motive:=λ_=>Prop) False (λx xs _=>d xs λys=>k (x::ys)) xs) n
theorem gQ{b:Type}:∀{n:Nat} {xs:List b} {k:List b->Prop},ob n xs k->n<=xs.length/\k (xs.take n)
 |0,xs,k,h=>⟨by simp,by have d:k []:=h;simpa using d⟩
 |n+1,[],k,h=>h.elim
 |n+1,x::xs,k,h=>by
  obtain⟨j,g⟩:=gQ (n:=n) (xs:=xs) (k:=λys=>k (x::ys)) h;exact⟨by simp;omega,by simpa using g⟩
def aa8{b:Type}(xs:List b):List b->(List b->Prop)->Prop:=
 List.rec (motive:=λ_=>List b->(List b->Prop)->Prop) (λcs k=>k cs)
  (λx _ d cs k=>List.rec (motive:=λ_=>Prop) False (λ_ cs _=>d cs λys=>k (x::ys)) cs) xs
theorem GF{b:Type}:∀{xs cs:List b} {k:List b->Prop},aa8 xs cs k->xs.length<=cs.length/\k (xs++cs.drop xs.length)
 |[],cs,k,h=>⟨by simp,by have d:k cs:=h;simpa using d⟩
 |x::xs,[],k,h=>h.elim
 |x::xs,c::cs,k,h=>by
  obtain⟨j,g⟩:=GF (xs:=xs) (cs:=cs) (k:=λys=>k (x::ys)) h;exact⟨by simp;omega,by simpa using g⟩
def wB{b:Type}(xs:List b)(off:Nat):List b->(List b->Prop)->Prop:=
 Nat.rec (motive:=λ_=>List b->(List b->Prop)->Prop) (λcs k=>aa8 xs cs k)
  (λ_ d cs k=>List.rec (motive:=λ_=>Prop) False (λc cs _=>d cs λys=>k (c::ys)) cs) off
theorem ng{d:Type}{xs:List d}:∀{off:Nat} {cs:List d} {k:List d->Prop},wB xs off cs k->off+xs.length<=cs.length/\k (bp cs off xs)
 |0,cs,k,h=>by
  obtain⟨g,b⟩:=GF (xs:=xs) (cs:=cs) (k:=k) h;exact⟨by omega,by simpa[bp]using b⟩
 |n+1,[],k,h=>h.elim
 |n+1,c::cs,k,h=>by
  obtain⟨g,b⟩:=ng (off:=n) (cs:=cs) (k:=λys=>k (c::ys)) h;refine⟨by simp;omega,?_⟩;have:n+1+xs.length=(n+xs.length)+1:=by omega
  simpa[bp,this]using b
def WT{b:Type}(xs ys:List b):(List b->Prop)->Prop:=
 List.rec (motive:=λ_=>(List b->Prop)->Prop) (λk=>k ys) (λx _ d k=>d λzs=>k (x::zs)) xs
theorem As{b:Type}(ys:List b):∀(xs:List b) (k:List b->Prop),WT xs ys k=k (xs++ys)
 |[],k=>rfl| x::xs,k=>As ys xs λzs=>k (x::zs)
def W8(zs:List FC):(List C->Prop)->Prop:=
 List.rec (motive:=λ_=>(List C->Prop)->Prop) (λk=>k []) (λz _ b k=>b λcs=>k (.f z::cs)) zs
theorem te:∀(zs:List FC) (k:List C->Prop),W8 zs k=k (zs.map .f)
 |[],k=>rfl| z::zs,k=>te zs λcs=>k (.f z::cs)
def EJ:Int->Int->Bool
 | .ofNat a,.ofNat b=>Nat.ble (Nat.succ a) b| .ofNat _,.negSucc _=>ag| .negSucc _,.ofNat _=>ae| .negSucc a,.negSucc b=>Nat.ble (Nat.succ b) a
theorem AQ(x y:Int):EJ x y=decide (x<y):=by
 have e:∀n:Nat,Int.ofNat n=(n:Int):=λ_=>rfl;cases x<;>cases y<;>simp only[EJ]<;>rw[agH]<;>simp only[Nat.ble_eq,decide_eq_true_eq,afR,false_iff,true_iff,e,Nat.succ_eq_add_one]<;>omega
def NJ:Int->Int->Bool
 | .ofNat a,.ofNat b=>Nat.beq a b| .negSucc a,.negSucc b=>Nat.beq a b| _,_=>ag
theorem NK(x y:Int):NJ x y=(x == y):=by
 have e:∀n:Nat,Int.ofNat n=(n:Int):=λ_=>rfl;cases x<;>cases y<;>simp only[NJ]<;>rw[agH]<;>simp only[Nat.beq_eq,beq_iff_eq,afR,false_iff,e]<;>omega
def zJ(j:IntKind)(n:Int)(k:Int->Prop):Prop:=match j with
 | .i64=>Int.rec (motive:=λ_=>Prop)
   (λn=>cB n λn=>Bool.rec (motive:=λ_=>Prop) (s0 (IntKind.i64.wrap (.ofNat n)) k) (k (.ofNat n)) (Nat.ble n 9223372036854775807))
   (λn=>cB n λn=>Bool.rec (motive:=λ_=>Prop) (s0 (IntKind.i64.wrap (.negSucc n)) k) (k (.negSucc n)) (Nat.ble n 9223372036854775807)) n
 |j=>s0 (j.wrap n) k
theorem wrap64_in{n:Int}(g:-9223372036854775808<=n)(j:n<=9223372036854775807):IntKind.i64.wrap n=n:=by
 simp only[IntKind.wrap,IntKind.bits,IntKind.signed];have b:(2 ^ 64:Int)=18446744073709551616:=by decide
 have d:(2 ^ (64-1):Int)=9223372036854775808:=by decide
 simp only[b,d,agi,decide_eq_true_eq];split<;>omega
theorem su(j:IntKind)(n:Int)(k:Int->Prop):zJ j n k=k (j.wrap n):=by
 cases j<;>simp only[zJ,yR];cases n with
 |ofNat n=>
  simp only[cC];cases h:Nat.ble n 9223372036854775807 with
  |false=>rfl
  |true=>
   have:=ahb h;have e:Int.ofNat n=(n:Int):=rfl;rw[wrap64_in (by rw[e];omega) (by rw[e];omega)]
 |negSucc n=>
  simp only[cC];cases h:Nat.ble n 9223372036854775807 with
  |false=>rfl
  |true=>
   have:=ahb h;rw[wrap64_in (by omega) (by omega)]
end
section
set_option linter.unusedVariables false
def jL(a b:Nat)(p:Prop):Prop:=Bool.rec (motive:=λ_=>Prop) False p (Nat.beq a b)
def uq(a b:Nat)(p:Prop):Prop:=Bool.rec (motive:=λ_=>Prop) False p (Nat.ble a b)
def qc(b:Bool)(p:Prop):Prop:=Bool.rec (motive:=λ_=>Prop) False p b
def rR{b:Type}(o:Option b)(k:b->Prop):Prop:=Option.rec (motive:=λ_=>Prop) False k o
theorem di{a b:Nat}{p:Prop}(h:jL a b p):a=b/\p:=by
 unfold jL at h;cases e:Nat.beq a b with
 |false=>rw[e]at h;exact h.elim| true=>rw[e]at h;exact⟨agR e,h⟩
theorem jF{a b:Nat}{p:Prop}(h:uq a b p):a<=b/\p:=by
 unfold uq at h;cases e:Nat.ble a b with
 |false=>rw[e]at h;exact h.elim| true=>rw[e]at h;exact⟨ahb e,h⟩
theorem lM{b:Bool}{p:Prop}(h:qc b p):b=ae/\p:=by cases b;exact h.elim;exact⟨rfl,h⟩
theorem lj{b:Type}{o:Option b}{k:b->Prop}(h:rR o k):∃x,o=aa x/\k x:=by cases o;exact h.elim;exact⟨_,rfl,h⟩
def qm(x:bB)(t:HT)(n:Nat)(k:HT->Nat->Prop):Prop:=Ap x t n λt=>cB (Nat.succ n) λn=>k t n
theorem j2{H:aj}{t:HT}(h:df H t){x:bB}{k:HT->Nat->Prop}(j:qm x t H.length k):∃b,df (H++[x]) b/\k b (H++[x]).length:=by
 obtain⟨b,g,d⟩:=IE j;rw[cC]at d;exact⟨b,h.push g,by simpa using d⟩
theorem et{H:aj}{t:HT}(h:df H t){b:Nat}{x:bB}{k:HT->Prop}(m:iC x t b k):∃d,df (H.set b x) d/\k d:=by
 obtain⟨d,g,j,l⟩:=Ni m;exact⟨d,h.set g j,l⟩
def WX(e:Bt)(t:HT)(n:Nat)(k:HT->Nat->Prop):Prop:=
 Bt.rec (motive:=λ_=>Prop) (k t n) (λb x=>tc x λx=>iC x t b λt=>k t n) (λx=>tc x λx=>qm x t n k) e
theorem Q1{H:aj}{t:HT}(h:df H t){e:Bt}{k:HT->Nat->Prop}(d:WX e t H.length k):∃g,df (e.app H) g/\k g (e.app H).length:=by
 cases e with
 |no=>exact⟨t,h,d⟩
 |set b x=>
  have d:tc x λx=>iC x t b λt=>k t H.length:=d;rw[yS]at d;obtain⟨g,j,l⟩:=et h d;exact⟨g,j,by simpa[Bt.app]using l⟩
 |push x=>
  have d:tc x λx=>qm x t H.length k:=d;rw[yS]at d;exact j2 h d
def aaR(op:dd)(r:T)(t:HT)(n:Nat)(k:V->HT->Nat->Prop):Prop:=
 rR (P9 r t.get n op) λr=>Prod.rec (motive:=λ_=>Prop) (λv e=>nB v λv=>WX e t n (k v)) r
def OpS(op:dd)(r:T)(m:HT->Nat->(V->HT->Nat->Prop)->Prop):Prop:=
 ∀(H:aj) (t:HT) (k:V->HT->Nat->Prop),df H t->m t H.length k->∃v H' b,bF r H op=aa (v,H')/\df H' b/\k v b H'.length
theorem Rc(op:dd)(r:T):OpS op r (aaR op r):=by
 intro H t k h l;obtain⟨⟨v,e⟩,d,b⟩:=lj l;have b:nB v λv=>WX e t H.length (k v):=b;rw[ta]at b;obtain⟨m,g,j⟩:=Q1 h b;refine⟨v,e.app H,m,?_,g,j⟩;rw[h]at d;rw[<-Bj,d];rfl
def vz(v:V)(k:List C->Prop):Prop:=match v with
 | .c x=>k [x]| .a xs=>k xs| _=>False
theorem sS{v:V}{k:List C->Prop}(h:vz v k):∃xs,v.cells?=aa xs/\k xs:=by
 cases v with
 |c x=>exact⟨_,rfl,h⟩| a xs=>exact⟨_,rfl,h⟩| _=>exact h.elim
def GS(n:Option Nat)(off:Nat)(cs:List C)(k:V->Prop):Prop:=
 Option.rec (motive:=λ_=>Prop) (RV off cs λc=>k (.c c)) (λm=>vF off cs λcs=>ob m cs λcs=>k (.a cs)) n
theorem wG{n:Option Nat}{off:Nat}{cs:List C}{k:V->Prop}(h:GS n off cs k):∃v,aO n (cs.drop off)=aa v/\k v:=by
 cases n with
 |none=>
  obtain⟨c,b,d⟩:=uK h;refine⟨.c c,?_,d⟩;rw[<-ahc off,<-af0]at b;cases e:cs.drop off with
  |nil=>rw[e]at b;simp at b| cons y ys=>rw[e]at b;simp at b;subst b;rfl
 |some m=>
  have h:vF off cs λcs=>ob m cs λcs=>k (.a cs):=h;rw[oG]at h;obtain⟨b,d⟩:=gQ h;exact⟨_,bu b,d⟩
def OS(n:Option Nat)(off:Nat)(cs:List FC)(k:V->Prop):Prop:=
 Option.rec (motive:=λ_=>Prop) (RV off cs λc=>k (.c (.f c))) (λm=>vF off cs λcs=>ob m cs λcs=>W8 cs λcs=>k (.a cs)) n
theorem JV{n:Option Nat}{off:Nat}{cs:List FC}{k:V->Prop}(h:OS n off cs k):∃v,aO n ((cs.drop off).map .f)=aa v/\k v:=by
 cases n with
 |none=>
  obtain⟨c,b,d⟩:=uK h;refine⟨.c (.f c),?_,d⟩;rw[<-ahc off,<-af0]at b;cases e:cs.drop off with
  |nil=>rw[e]at b;simp at b| cons y ys=>rw[e]at b;simp at b;subst b;rfl
 |some m=>
  have h:vF off cs λcs=>ob m cs λcs=>W8 cs λcs=>k (.a cs):=h;rw[oG]at h;obtain⟨b,d⟩:=gQ h;rw[te]at d;refine⟨_,bu (by simpa using b),?_⟩;rw[<-List.map_take];exact d
def ldK(t:HT)(n:Option Nat)(x:V)(k:V->Prop):Prop:=match x with
 | .c (.ptr b off ep)=>iU b t λbz=>match bz with
  | .box cs _=>GS n off cs k| .ct _ cs _ e .loc=>jL ep e (GS n off cs k)| _=>False
 | .c (.f (.fp cs off))=>OS n off cs k| _=>False
theorem Od{H:aj}{t:HT}(h:df H t){n:Option Nat}{x:V}{k:V->Prop}(m:ldK t n x k):∃v,aQ H n x=aa v/\k v:=by
 unfold ldK at m;split at m
 .rename_i b off ep;obtain⟨bz,g,d⟩:=dW m;rw[h]at g;have g:H[b]?=aa bz:=g;split at d
  .obtain⟨v,j,l⟩:=wG d;exact⟨v,by simp[aQ,aw,g,j],l⟩
  .obtain⟨q,d⟩:=di d;obtain⟨v,j,l⟩:=wG d;exact⟨v,by simp[aQ,aw,g,j,q],l⟩
  .exact d.elim
 .obtain⟨v,j,l⟩:=JV m;exact⟨v,by simp only[aQ,aw,Option.bind_some,j],l⟩
 .exact m.elim
def stK(t:HT)(x:C)(xs:List C)(k:HT->Prop):Prop:=match x with
 | .ptr b off ep=>iU b t λbz=>match bz with
  | .box cs fl=>uq fl off (wB xs off cs λcs=>iC (.box cs fl) t b k)
  | .ct sz cs fl e .loc=>jL ep e (uq fl off (wB xs off cs λcs=>iC (.ct sz cs fl e .loc) t b k))
  |_=>False
 |_=>False
theorem Yk{H:aj}{t:HT}(h:df H t){x:C}{xs:List C}{k:HT->Prop}(l:stK t x xs k):∃H' g,cz H x xs=aa H'/\df H' g/\H'.length=H.length/\k g:=by
 unfold stK at l;split at l
 .rename_i b off ep;obtain⟨bz,j,d⟩:=dW l;rw[h]at j;have j:H[b]?=aa bz:=j;split at d
  .obtain⟨m,d⟩:=jF d;obtain⟨q,d⟩:=ng d;obtain⟨g,s,u⟩:=et h d;exact⟨_,g,by simp[cz,j,m,q],s,by simp,u⟩
  .obtain⟨h0,d⟩:=di d;obtain⟨m,d⟩:=jF d;obtain⟨q,d⟩:=ng d;obtain⟨g,s,u⟩:=et h d;exact⟨_,g,by simp[cz,j,h0,m,q],s,by simp,u⟩
  .exact d.elim
 .exact l.elim
def nU(op:BinOp)(j:IntKind)(x y:Int)(k:V->Prop):Prop:=match op with
 | .add=>zJ j (Int.add x y) λn=>k (.c (.f (.int j n)))
 | .sub=>zJ j (Int.sub x y) λn=>k (.c (.f (.int j n)))
 | .mul=>zJ j (Int.mul x y) λn=>k (.c (.f (.int j n)))
 | .eql=>oK (NJ x y) λb=>k (.c (.f (.bool b)))
 | .neq=>oK (!NJ x y) λb=>k (.c (.f (.bool b)))
 | .lss=>oK (EJ x y) λb=>k (.c (.f (.bool b)))
 | .leq=>oK (!EJ y x) λb=>k (.c (.f (.bool b)))
 | .gtr=>oK (EJ y x) λb=>k (.c (.f (.bool b)))
 | .geq=>oK (!EJ x y) λb=>k (.c (.f (.bool b)))
 |op=>rR (od op j x y) λv=>nB v k
theorem wq(x y:Int):(!decide (x<y))=decide (y<=x):=by
 rw[agH];simp
theorem Nh{op:BinOp}{j:IntKind}{x y:Int}{k:V->Prop}(h:nU op j x y k):∃v,od op j x y=aa v/\k v:=by
 cases op
 case add=>simp only[nU,su]at h;exact⟨_,rfl,h⟩
 case sub=>simp only[nU,su]at h;exact⟨_,rfl,h⟩
 case mul=>simp only[nU,su]at h;exact⟨_,rfl,h⟩
 case eql=>simp only[nU,iY,NK]at h;exact⟨_,rfl,h⟩
 case neq=>simp only[nU,iY,NK]at h;exact⟨_,rfl,h⟩
 case lss=>simp only[nU,iY,AQ]at h;exact⟨_,rfl,h⟩
 case leq=>simp only[nU,iY,AQ,wq]at h;exact⟨_,rfl,h⟩
 case gtr=>simp only[nU,iY,AQ]at h;exact⟨_,rfl,h⟩
 case geq=>simp only[nU,iY,AQ,wq]at h;exact⟨_,rfl,h⟩
 all_goals
  simp only[nU]at h;obtain⟨v,d,b⟩:=lj h;rw[ta]at b;exact⟨v,d,b⟩
def N9(j b:IntKind)(p:Prop):Prop:=match j,b with
 | .i64,.i64=>p| j,b=>qc (decide (j=b)) p
theorem N'{j b:IntKind}{p:Prop}(h:N9 j b p):j=b/\p:=by
 unfold N9 at h;split at h
 .exact⟨rfl,h⟩
 .obtain⟨d,g⟩:=lM h;exact⟨of_decide_eq_true d,g⟩
def WL(op:BinOp)(x y:V)(k:V->Prop):Prop:=match x,y with
 | .c (.f (.int j a)),.c (.f (.int d b))=>match op with
  | .shl=>rR (ei .shl x y) λv=>nB v k
  | .shr=>rR (ei .shr x y) λv=>nB v k
  |op=>N9 j d (nU op j a b k)
 |x,y=>rR (ei op x y) λv=>nB v k
theorem QQ{op:BinOp}{x y:V}{k:V->Prop}(h:WL op x y k):∃v,ei op x y=aa v/\k v:=by
 have gen:(rR (ei op x y) λv=>nB v k)->∃v,ei op x y=aa v/\k v:=by
  intro h;obtain⟨v,g,d⟩:=lj h;rw[ta]at d;exact⟨v,g,d⟩
 unfold WL at h;split at h
 .rename_i j a s b;split at h
  .exact gen h
  .exact gen h
  .rename_i g d;obtain⟨e,l⟩:=N' h;subst e;obtain⟨v,m,q⟩:=Nh l;refine⟨v,?_,q⟩;cases op<;>first|exact absurd rfl g|exact absurd rfl d|(simp only[ei,if_true];exact m)
 .exact gen h
def XI(v:V)(k:Nat->Prop):Prop:=match v with
 | .c (.f (.int _ (.ofNat m)))=>k m| _=>False
theorem RQ{v:V}{k:Nat->Prop}(h:XI v k):∃m,kQ v=aa (Int.ofNat m)/\k m:=by
 unfold XI at h;split at h
 .exact⟨_,rfl,h⟩
 .exact h.elim
def N4(t:HT)(sz:Nat)(d:Option Nat)(x i:V)(k:V->Prop):Prop:=XI i λm=>match d with
 |none=>match x with
  | .c (.sl b o l _ ep s)=>uq (Nat.succ m) l (iU b t λbz=>match bz with
   | .box _ _=>cB (Nat.add o (Nat.mul m sz)) λo=>k (.c (.ptr b o ep))
   | .ct s' _ _ e .loc=>jL ep e (jL s s' (cB (Nat.add o (Nat.mul m sz)) λo=>k (.c (.ptr b o ep))))
   |_=>False)
  | .c (.f (.fs cs l))=>uq (Nat.succ m) l (cB (Nat.mul m sz) λo=>k (.c (.f (.fp cs o))))
  |_=>False
 |some n=>match x with
  | .c (.ptr b o ep)=>uq (Nat.succ m) n (cB (Nat.add o (Nat.mul m sz)) λo=>k (.c (.ptr b o ep)))
  | .c (.f (.fp cs o))=>uq (Nat.succ m) n (cB (Nat.add o (Nat.mul m sz)) λo=>k (.c (.f (.fp cs o))))
  |_=>False
theorem Js{H:aj}{t:HT}(h:df H t){sz:Nat}{y:Option Nat}{x i:V}{k:V->Prop}(d:N4 t sz y x i k):∃v,bw H sz y x i=aa v/\k v:=by
 obtain⟨m,hi,d⟩:=RQ d;have h0:(0:Int)<=Int.ofNat m:=Int.natCast_nonneg m;have g:∀l:Nat,Nat.succ m<=l->Int.ofNat m<(l:Int):=λl E=>Int.ofNat_lt.2 E;have j:(Int.ofNat m).toNat=m:=rfl;simp only at d;split at d
 .split at d
  .rename_i b o l cap ep s _;obtain⟨u,d⟩:=jF d;obtain⟨bz,z,q⟩:=dW d;rw[h]at z;have z:H[b]?=aa bz:=z;split at q
   .rw[cC]at q;exact⟨_,by simp only[bw,hi,bu h0,bu (g _ u),z,j];rfl,q⟩
   .obtain⟨A,q⟩:=di q;obtain⟨B,q⟩:=di q;rw[cC]at q;exact⟨_,by simp only[bw,hi,bu h0,bu (g _ u),z,j,A,B,and_self,if_true];rfl,A▸q⟩
   .exact q.elim
  .obtain⟨u,d⟩:=jF d;rw[cC]at d;exact⟨_,by simp only[bw,hi,bu h0,bu (g _ u),j];rfl,d⟩
  .exact d.elim
 .split at d
  .obtain⟨u,d⟩:=jF d;rw[cC]at d;exact⟨_,by simp only[bw,hi,bu h0,bu (g _ u),j];rfl,d⟩
  .obtain⟨u,d⟩:=jF d;rw[cC]at d;exact⟨_,by simp only[bw,hi,bu h0,bu (g _ u),j];rfl,d⟩
  .exact d.elim
def RC(t:HT)(x:V)(k:Nat->Prop):Prop:=match x with
 | .c (.sl b _ l _ ep sz)=>iU b t λbz=>match bz with
  | .box _ _=>k l| .ct s _ _ e _=>jL ep e (jL sz s (k l))| _=>False
 | .c (.f .aK)=>k 0| .c (.f .es)=>k 0| .c (.f (.fs _ l))=>k l| _=>False
theorem GI{H:aj}{t:HT}(h:df H t){x:V}{k:Nat->Prop}(g:RC t x k):∃y n,x=.c y/\bo H y=aa n/\k n:=by
 unfold RC at g;split at g
 .rename_i b o l cap ep sz;obtain⟨bz,j,d⟩:=dW g;rw[h]at j;have j:H[b]?=aa bz:=j;split at d
  .exact⟨_,l,rfl,by simp[bo,j],d⟩
  .obtain⟨m,d⟩:=di d;obtain⟨q,d⟩:=di d;exact⟨_,l,rfl,by simp[bo,j,m,q],d⟩
  .exact d.elim
 .exact⟨_,0,rfl,rfl,g⟩
 .exact⟨_,0,rfl,rfl,g⟩
 .exact⟨_,_,rfl,rfl,g⟩
 .exact g.elim
def Fa(r:T)(ps:List (Nat × Nat × Arg)):List C->(List C->Prop)->Prop:=
 List.rec (motive:=λ_=>List C->(List C->Prop)->Prop) (λcs k=>k cs)
  (λp _ b cs k=>Prod.rec (motive:=λ_=>Prop) (λoff q=>Prod.rec (motive:=λ_=>Prop) (λn x=>rv x r λv=>vz v λxs=>jL xs.length n (wB xs off cs λcs=>b cs k)) q) p) ps
theorem zp(r:T):∀{ps:List (Nat × Nat × Arg)} {cs:List C} {k:List C->Prop},Fa r ps cs k->∃cs',dO r cs ps=aa cs'/\k cs'
 |[],cs,k,h=>⟨cs,rfl,h⟩
 |(off,n,x)::ps,cs,k,h=>by
  have h:rv x r λv=>vz v λxs=>jL xs.length n (wB xs off cs λcs=>Fa r ps cs k):=h;rw[dE]at h;obtain⟨xs,b,h⟩:=sS h;obtain⟨d,h⟩:=di h;obtain⟨g,h⟩:=ng h;obtain⟨cs',j,l⟩:=zp r h;exact⟨cs',by simp[dO,b,d,j]at g ⊢;omega,l⟩
def Ak(t:HT)(sz:Nat)(y:V)(k:Nat->List C->Prop):Prop:=match y with
 | .c (.f .aK)=>k 0 []| .c (.f .es)=>k 0 []| .c (.f (.fs cs l))=>jL cs.length (Nat.mul l sz) (W8 cs λcs=>k l cs)
 | .c (.sl b o l _ ep s)=>iU b t λbz=>match bz with
  | .box cs _=>sU o cs λcs=>ob (Nat.mul l sz) cs λcs=>k l cs
  | .ct s' cs _ e _=>jL ep e (jL s s' (jL s' sz (sU o cs λcs=>ob (Nat.mul l sz) cs λcs=>k l cs)))
  |_=>False
 |y=>rR (rj t.get sz y) λr=>Prod.rec (motive:=λ_=>Prop) (λn cs=>oL cs λcs=>k n cs) r
theorem yC{H:aj}{t:HT}(h:df H t){sz:Nat}{y:V}{k:Nat->List C->Prop}(j:Ak t sz y k) :
  ∃n cs,cS H sz y=aa (n,cs)/\k n cs:=by
 unfold Ak at j;split at j
 .exact⟨0,[],rfl,j⟩
 .exact⟨0,[],rfl,j⟩
 .rename_i cs l;obtain⟨m,j⟩:=di j;rw[te]at j;have m:cs.length=l*sz:=m;exact⟨l,_,by simp only[cS,bo,cR,m,if_true],j⟩
 .rename_i b o l cap ep s;obtain⟨bz,g,d⟩:=dW j;rw[h]at g;have g:H[b]?=aa bz:=g;split at d
  .obtain⟨A,d⟩:=lE d;obtain⟨q,u⟩:=gQ d;have q:l*sz<=_:=q;rw[afX]at q;refine⟨l,_,?_,u⟩;simp only[cS,bo,cR,g];rw[bu (by omega)];rfl
  .obtain⟨q,d⟩:=di d;obtain⟨u,d⟩:=di d;obtain⟨x,d⟩:=di d;obtain⟨A,d⟩:=lE d;obtain⟨v,z⟩:=gQ d;have v:l*sz<=_:=v;rw[afX]at v;subst q u x;refine⟨l,_,?_,z⟩;simp only[cS,bo,cR,g,and_self,if_true];rw[bu ⟨trivial,trivial,by omega⟩];rfl
  .exact d.elim
 .obtain⟨⟨n,cs⟩,m,g⟩:=lj j;have g:oL cs λcs=>k n cs:=g;rw[mT]at g;rw[h,qD]at m;exact⟨n,cs,m,g⟩
def CP(need bytes:Nat)(p:Prop):Prop:=uq (Nat.mul (Nat.add (Nat.mul 2 need) 768) bytes) 281474976710656 (uq (Nat.succ need) 281474976710656 p)
theorem sa{need bytes:Nat}{p:Prop}(h:CP need bytes p):bU need bytes=ae/\p:=by
 obtain⟨b,h⟩:=jF h;obtain⟨d,h⟩:=jF h;refine⟨?_,h⟩;have e:(2:Nat) ^ 48=281474976710656:=by decide
 simp only[bU,afE,decide_eq_true_eq,e];exact⟨b,d⟩
def WI(t:HT)(n:Nat)(sz bytes:Nat)(x y:V)(k:V->HT->Nat->Prop):Prop:=
 Ak t sz y λm ys=>Nat.rec (motive:=λ_=>Prop) False (λ_ _=>match x with
  | .c (.f .aK)=>Nat.rec (motive:=λ_=>Prop) (k (.c (.f .aK)) t n) (λ_ _=>CP m bytes (cB m λm=>qm (.ct sz ys 0 0 .loc) t n λt g=>k (.c (.sl n 0 m 0 0 sz)) t g)) m
  | .c (.f .es)=>Nat.rec (motive:=λ_=>Prop) (k (.c (.f .es)) t n) (λ_ _=>CP m bytes (cB m λm=>qm (.ct sz ys 0 0 .loc) t n λt g=>k (.c (.sl n 0 m 0 0 sz)) t g)) m
  | .c (.sl b o l cap ep s)=>iU b t λbz=>match bz with
   | .box cs fl=>Bool.rec (motive:=λ_=>Prop)
     (cB (Nat.add l m) λd=>CP d bytes (sU o cs λcs=>ob (Nat.mul l sz) cs λcs=>WT cs ys λcs=>qm (.ct sz cs 0 0 .loc) t n λt g=>k (.c (.sl n 0 d 0 0 sz)) t g))
     (cB (Nat.add l m) λd=>uq fl (Nat.add o (Nat.mul l sz)) (wB ys (Nat.add o (Nat.mul l sz)) cs λcs=>iC (.box cs fl) t b λt=>k (.c (.sl b o d cap ep s)) t n))
     (Nat.ble (Nat.add l m) cap)
   | .ct s' cs fl e st=>jL ep e (jL s' sz (jL s sz (Nat.rec (motive:=λ_=>Prop) (k x t n) (λ_ _=>
     cB (Nat.add l m) λd=>Bool.rec (motive:=λ_=>Prop)
      (match st with
       | .loc=>uq fl (Nat.add o (Nat.mul l sz)) (wB ys (Nat.add o (Nat.mul l sz)) cs λcs=>iC (.ct sz cs fl e .loc) t b λt=>k (.c (.sl b o d 0 ep sz)) t n)
       |_=>False)
      (CP d bytes (cB (Nat.succ e) λj=>WT cs ys λcs=>iC (.ct sz cs fl j .loc) t b λt=>k (.c (.sl b 0 d 0 j sz)) t n))
      (and (and (Nat.beq o 0) (Nat.beq (Nat.mul l sz) cs.length)) (Nat.ble fl cs.length))) m)))
   |_=>False
  |_=>False) sz
theorem F4{H:aj}{t:HT}(h:df H t){sz bytes:Nat}{x y:V}{k:V->HT->Nat->Prop}(d:WI t H.length sz bytes x y k) :
  ∃v H' g,cw H sz bytes x y=aa (v,H')/\df H' g/\k v g H'.length:=by
 obtain⟨m,ys,N,d⟩:=yC h d;unfold cw;rw[N];cases sz with
 |zero=>exact d.elim
 |succ u=>
  simp only at d ⊢;rw[bG (by omega)];split at d
  .cases m with
   |zero=>exact⟨_,H,t,rfl,h,d⟩
   |succ L=>
    simp only at d;obtain⟨J,d⟩:=sa d;rw[cC]at d;obtain⟨g,z,j⟩:=j2 h d;exact⟨_,_,g,by simp only[Nat.add_one_ne_zero,if_false,J,if_true],z,j⟩
  .cases m with
   |zero=>exact⟨_,H,t,rfl,h,d⟩
   |succ L=>
    simp only at d;obtain⟨J,d⟩:=sa d;rw[cC]at d;obtain⟨g,z,j⟩:=j2 h d;exact⟨_,_,g,by simp only[Nat.add_one_ne_zero,if_false,J,if_true],z,j⟩
  .rename_i b o l cap ep s _;obtain⟨bz,z,d⟩:=dW d;rw[h]at z;have z:H[b]?=aa bz:=z;simp only[z];split at d
   .rename_i cs fl _;simp only;cases hc:Nat.ble (Nat.add l m) cap with
    |false=>
     rw[hc]at d;have B:¬ (l+m<=cap):=λe=>by have:=Nat.ble_eq_true_of_le e;rw[show Nat.ble (Nat.add l m) cap=Nat.ble (l+m) cap from rfl,this]at hc;cases hc
     simp only[cC]at d;obtain⟨j,d⟩:=sa d;obtain⟨F,d⟩:=lE d;obtain⟨E,d⟩:=gQ d;rw[As]at d;obtain⟨g,q,A⟩:=j2 h d;rw[afX]at E;have E:l*(u+1)<=_:=E;rw[bG B,bu ⟨j,by omega⟩];exact⟨_,_,g,rfl,q,A⟩
    |true=>
     rw[hc]at d;have B:l+m<=cap:=ahb hc;simp only[cC]at d;obtain⟨j,d⟩:=jF d;obtain⟨F,d⟩:=ng d;obtain⟨g,q,A⟩:=et h d;rw[bu B,bu ⟨j,F⟩];exact⟨_,_,g,rfl,q,by simpa using A⟩
   .rename_i s' cs fl e st _;simp only;obtain⟨j,d⟩:=di d;obtain⟨F,d⟩:=di d;obtain⟨E,d⟩:=di d;rw[bu ⟨j,F,E⟩];cases m with
    |zero=>rw[bu rfl];exact⟨_,H,t,rfl,h,d⟩
    |succ L=>
     rw[bG (by omega)];simp only[cC]at d;cases hc:and (and (Nat.beq o 0) (Nat.beq (Nat.mul l (u+1)) cs.length)) (Nat.ble fl cs.length)with
     |true=>
      rw[hc]at d;simp only[afE]at hc;have c1:=agR hc.1.1;have c2:=agR hc.1.2;have I:=ahb hc.2;simp only at d;obtain⟨q,d⟩:=sa d;rw[As]at d;obtain⟨g,A,K⟩:=et h d;have q:bU (l+(L+1)) bytes=ae:=q;rw[bu ⟨c1,c2,I⟩,bu q];subst j;exact⟨_,_,g,rfl,A,by simpa using K⟩
     |false=>
      rw[hc]at d;have O:¬ (o=0/\l*(u+1)=cs.length/\fl<=cs.length):=by
       rintro⟨c1,c2,I⟩;rw[c1,show Nat.mul l (u+1)=cs.length from c2,Nat.ble_eq_true_of_le I]at hc;simp at hc
      rw[bG O];simp only at d;split at d
      .obtain⟨q,d⟩:=jF d;obtain⟨A,d⟩:=ng d;obtain⟨g,K,M⟩:=et h d;rw[bu ⟨rfl,q,A⟩];exact⟨_,_,g,rfl,K,by simpa using M⟩
      .exact d.elim
   .exact d.elim
  .exact d.elim
end
section
set_option linter.unusedVariables false
abbrev gA:=Callee->List V->HT->Nat->(V->HT->Nat->Prop)->Prop
def qZ(call:cU)(bL:gA):Prop:=
 ∀(c:Callee) (args:List V) (H:aj) (t:HT) (k:V->HT->Nat->Prop),df H t->bL c args t H.length k->∃v H' b,call c args H=aa (v,H')/\df H' b/\k v b H'.length
def Ay{d b:Type}(g:d->(b->Prop)->Prop)(xs:List d):(List b->Prop)->Prop:=
 List.rec (motive:=λ_=>(List b->Prop)->Prop) (λk=>k []) (λx _ j k=>g x λy=>j λys=>k (y::ys)) xs
theorem kH{b d:Type}{g:b->(d->Prop)->Prop}{f:b->Option d}(j:∀x k,g x k->∃y,f x=aa y/\k y):∀{xs:List b} {k:List d->Prop},Ay g xs k->∃ys,aZ f xs=aa ys/\k ys
 |[],k,h=>⟨[],rfl,h⟩
 |x::xs,k,h=>by
  obtain⟨y,l,h⟩:=j x _ h;obtain⟨ys,m,q⟩:=kH j (xs:=xs) h;exact⟨y::ys,by simp[aZ,l,m],q⟩
def exK(t:HT)(m:Nat):C->(FC->Prop)->Prop:=
 Nat.rec (motive:=λ_=>C->(FC->Prop)->Prop) (λx k=>match x with
   | .f y=>k y
   |_=>False)
  (λ_ j x k=>match x with
   | .f y=>k y
   | .ptr b off _=>iU b t λbz=>match bz with
    | .box cs _=>Ay j cs λd=>k (.fp d off)
    |_=>False
   | .sl b o l _ ep sz=>iU b t λbz=>match bz with
    | .box cs _=>sU o cs λcs=>ob (Nat.mul l sz) cs λcs=>Ay j cs λd=>k (.fs d l)
    | .ct s cs _ e .loc=>jL ep e (jL sz s (sU o cs λcs=>ob (Nat.mul l sz) cs λcs=>Ay j cs λd=>k (.fs d l)))
    | .ct s cs _ e .nil=>jL ep e (jL sz s (k .aK))| .ct s cs _ e .es=>jL ep e (jL sz s (k .es))| _=>False
   | .cl f g=>Ay j g λd=>k (.fn f d)
   |_=>False) m
theorem NO{H:aj}{t:HT}(h:df H t):∀(m:Nat) (x:C) (k:FC->Prop),exK t m x k->∃y,eg m H x=aa y/\k y:=by
 intro m;induction m with
 |zero=>
  intro x k q;cases x with
  |f y=>exact⟨y,rfl,q⟩| _=>exact q.elim
 |succ m E=>
  intro x k q;cases x with
  |f y=>exact⟨y,rfl,q⟩
  |ptr b off ep=>
   obtain⟨bz,g,d⟩:=dW q;rw[h]at g;have g:H[b]?=aa bz:=g;cases bz with
   |box cs fl=>
    obtain⟨z,j,u⟩:=kH E d;exact⟨_,by simp only[eg,g,j];rfl,u⟩
   |_=>exact d.elim
  |sl b o l cap ep sz=>
   obtain⟨bz,g,d⟩:=dW q;rw[h]at g;have g:H[b]?=aa bz:=g;cases bz with
   |box cs fl=>
    obtain⟨I,d⟩:=lE d;obtain⟨v,d⟩:=gQ d;obtain⟨z,j,u⟩:=kH E d;rw[afX]at v;have v:l*sz<=_:=v;have j:aZ (eg m H) ((cs.drop o).take (l*sz))=aa z:=j;exact⟨_,by simp only[eg,g];rw[bu (by omega),j];rfl,u⟩
   |ct s cs fl e st=>
    cases st with
    |loc=>
     obtain⟨A,d⟩:=di d;obtain⟨B,d⟩:=di d;obtain⟨I,d⟩:=lE d;obtain⟨v,d⟩:=gQ d;obtain⟨z,j,u⟩:=kH E d;rw[afX]at v;have v:l*sz<=_:=v;have j:aZ (eg m H) ((cs.drop o).take (l*sz))=aa z:=j;exact⟨_,by simp only[eg,g];rw[bu ⟨A,B,by omega⟩,j];rfl,u⟩
    |nil=>
     obtain⟨A,d⟩:=di d;obtain⟨B,d⟩:=di d;exact⟨_,by simp only[eg,g];rw[bu ⟨A,B⟩],d⟩
    |es=>
     obtain⟨A,d⟩:=di d;obtain⟨B,d⟩:=di d;exact⟨_,by simp only[eg,g];rw[bu ⟨A,B⟩],d⟩
   |_=>exact d.elim
  |cl f F=>
   obtain⟨z,j,u⟩:=kH E q;exact⟨_,by simp only[eg,j];rfl,u⟩
  |_=>exact q.elim
def Gi(t:HT)(v:V)(k:V->Prop):Prop:=match v with
 | .c x=>exK t deep x λy=>k (.c (.f y))
 | .a xs=>Ay (exK t deep) xs λys=>W8 ys λcs=>k (.a cs)
 |_=>False
theorem rz{H:aj}{t:HT}(h:df H t)(v:V)(k:V->Prop)(g:Gi t v k):∃y,bX deep H v=aa y/\k y:=by
 cases v with
 |c x=>
  obtain⟨y,d,b⟩:=NO h deep x _ g;exact⟨_,by simp only[bX,d];rfl,b⟩
 |a xs=>
  obtain⟨ys,d,b⟩:=kH (NO h deep) g;rw[te]at b;exact⟨_,by simp only[bX,d];rfl,b⟩
 |_=>exact g.elim
def W5(t:HT)(v:V)(k:V->Prop):Prop:=match v with
 | .t b=>Ay (Gi t) b λb=>k (.t b)
 |v=>Gi t v k
theorem Gj{H:aj}{t:HT}(h:df H t)(v:V)(k:V->Prop)(b:W5 t v k):∃y,fC deep H v=aa y/\k y:=by
 cases v with
 |t j=>
  obtain⟨ys,d,g⟩:=kH (rz h) b;exact⟨_,by simp only[fC,d];rfl,g⟩
 |c x=>exact rz h (.c x) k b| a xs=>exact rz h (.a xs) k b| top=>exact b.elim
def EY{b:Type}(g:b->HT->(HT->Prop)->Prop)(xs:List b):HT->(HT->Prop)->Prop:=
 List.rec (motive:=λ_=>HT->(HT->Prop)->Prop) (λt k=>k t) (λx _ d t k=>g x t λt=>d t k) xs
def MkS{b:Type}(g:b->HT->(HT->Prop)->Prop)(f:aj->b->aj):Prop:=∀(x:b) (H:aj) (t:HT) (k:HT->Prop),df H t->g x t k->∃d,df (f H x) d/\k d
theorem nG{d:Type}{g:d->HT->(HT->Prop)->Prop}{f:aj->d->aj}(j:MkS g f):∀(xs:List d) (H:aj) (t:HT) (k:HT->Prop),df H t->EY g xs t k->∃l,df (xs.foldl f H) l/\k l
 |[],H,t,k,h,b=>⟨t,h,b⟩
 |x::xs,H,t,k,h,b=>by
  obtain⟨s,m,q⟩:=j x H t _ h b;exact nG j xs _ s k m q
def mkK(m:Nat):C->HT->(HT->Prop)->Prop:=
 Nat.rec (motive:=λ_=>C->HT->(HT->Prop)->Prop) (λ_ t k=>k t)
  (λ_ g x t k=>match x with
   | .f _=>k t
   | .ptr b _ _=>iU b t λbz=>match bz with
    | .box cs fl=>cB (Nat.max fl cs.length) λfl=>iC (.box cs fl) t b λt=>EY g cs t k
    |_=>k t
   | .sl b o l _ _ sz=>iU b t λbz=>match bz with
    | .box cs fl=>cB (Nat.max fl (Nat.add o (Nat.mul l sz))) λfl=>iC (.box cs fl) t b λt=>vF o cs λcs=>ob (Nat.mul l sz) cs λcs=>EY g cs t k
    | .ct s cs fl e st=>cB (Nat.max fl (Nat.add o (Nat.mul l sz))) λfl=>iC (.ct s cs fl e st) t b λt=>vF o cs λcs=>ob (Nat.mul l sz) cs λcs=>EY g cs t k
    |_=>k t
   | .cl _ d=>EY g d t k
   |_=>k t) m
theorem Ox:∀(m:Nat),MkS (mkK m) (λH x=>ic m x H):=by
 intro m;induction m with
 |zero=>intro x H t k h q;exact⟨t,by cases x<;>exact h,q⟩
 |succ m z=>
  intro x H t k h q;cases x with
  |f y=>exact⟨t,h,q⟩
  |ptr b off ep=>
   obtain⟨bz,d,g⟩:=dW q;rw[h]at d;have d:H[b]?=aa bz:=d;cases bz with
   |box cs fl=>
    change cB _ _ at g;rw[cC]at g;obtain⟨v,u,j⟩:=et h g;simp only[ic,d];exact nG z cs _ v k u j
   |_=>simp only[ic,d];exact⟨t,h,g⟩
  |sl b o l cap ep sz=>
   obtain⟨bz,d,g⟩:=dW q;rw[h]at d;have d:H[b]?=aa bz:=d;cases bz with
   |box cs fl=>
    change cB _ _ at g;rw[cC]at g;obtain⟨v,u,j⟩:=et h g;rw[oG]at j;obtain⟨_,j⟩:=gQ j;simp only[ic,d];exact nG z _ _ v k u j
   |ct s cs fl e st=>
    change cB _ _ at g;rw[cC]at g;obtain⟨v,u,j⟩:=et h g;rw[oG]at j;obtain⟨_,j⟩:=gQ j;simp only[ic,d];exact nG z _ _ v k u j
   |_=>simp only[ic,d];exact⟨t,h,g⟩
  |cl f A=>
   simp only[ic];exact nG z _ _ t k h q
  |_=>exact⟨t,h,q⟩
def abb(v:V)(t:HT)(k:HT->Prop):Prop:=match v with
 | .c x=>mkK deep x t k| .a xs=>EY (mkK deep) xs t k| _=>k t
theorem RO:MkS abb (Qf deep):=by
 intro v H t k h b;cases v with
 |c x=>exact Ox deep x H t k h b| a xs=>exact nG (Ox deep) xs H t k h b| _=>exact⟨t,h,b⟩
def Tu(call:gA)(f:Nat)(d:List V)(t:HT)(n:Nat)(k:V->HT->Nat->Prop):Prop:=
 Ay (Gi t) d λg=>call (.fn f) g .e 0 λb j _=>W5 j b λb=>EY abb d t λt=>k b t n
theorem OV{call:cU}{bL:gA}(hc:qZ call bL){f:Nat}{g:List V}{H:aj}{t:HT}{k:V->HT->Nat->Prop}(h:df H t)(b:Tu bL f g t H.length k) :
  ∃v H' d,eQ call f g H=aa (v,H')/\df H' d/\k v d H'.length:=by
 obtain⟨l,m,b⟩:=kH (rz h) b;obtain⟨y,z,A,q,s,b⟩:=hc (.fn f) l [] .e _ df.nil b;obtain⟨j,u,b⟩:=Gj s y _ b;obtain⟨d,x,b⟩:=nG RO g H t _ h b;refine⟨j,_,d,by simp only[eQ,m,q,u],x,?_⟩;rw[<-(pJ deep g H).1];exact b
abbrev uA:=gA->T->List dS->HT->Nat->(V->List dS->HT->Nat->Prop)->Prop
def gF(op:dd):uA:=λ_ r d t n k=>aaR op r t n λv t n=>k v d t n
def WE(x:Arg):uA:=λ_ r d t n k=>rv x r λv=>k v d t n
def M6(c a b:Arg):uA:=λ_ r d t n k=>rv c r λv=>match v with
 | .c (.f (.bool v))=>Bool.rec (motive:=λ_=>Prop) (rv b r λv=>k v d t n) (rv a r λv=>k v d t n) v
 |_=>False
def D3(zs:List FC):uA:=λ_ r d t n k=>W8 zs λcs=>qm (.box cs 0) t n λt b=>k (.c (.ptr n 0 0)) d t b
def WB(x:Arg):uA:=λ_ r d t n k=>rv x r λv=>vz v λxs=>qm (.box xs 0) t n λt b=>k (.c (.ptr n 0 0)) d t b
def D4(zs:List FC)(ps:List (Nat × Nat × Arg)):uA:=λ_ r d t n k=>W8 zs λcs=>Fa r ps cs λcs=>k (.a cs) d t n
def M5(m:Option Nat)(x:Arg):uA:=λ_ r d t n k=>rv x r λv=>ldK t m v λv=>k v d t n
def D8(m:Nat)(x y:Arg):uA:=λ_ r d t n k=>rv x r λv=>rv y r λy=>vz y λxs=>jL xs.length m (match v with
 | .c p=>stK t p xs λt=>k .top d t n
 |_=>False)
def Aj(x:Arg):uA:=λ_ r d t n k=>rv x r λv=>match v with
 | .c (.ptr b o e)=>k (.c (.ptr b o e)) d t n| .c (.f (.fp cs o))=>k (.c (.f (.fp cs o))) d t n| _=>False
def WA(op:BinOp)(x y:Arg):uA:=λ_ r d t n k=>rv x r λx=>rv y r λy=>WL op x y λv=>k v d t n
def WC(j:IntKind)(x:Arg):uA:=λ_ r d t n k=>rv x r λv=>match v with
 | .c (.f (.int _ m))=>zJ j m λm=>k (.c (.f (.int j m))) d t n
 |_=>False
def Ah(off:Nat)(x:Arg):uA:=λ_ r d t n k=>rv x r λv=>match v with
 | .c (.ptr b o e)=>cB (Nat.add o off) λo=>k (.c (.ptr b o e)) d t n
 | .c (.f (.fp cs o))=>cB (Nat.add o off) λo=>k (.c (.f (.fp cs o))) d t n
 |_=>False
def D7(off:Nat)(m:Option Nat)(x:Arg):uA:=λ_ r d t n k=>rv x r λv=>match v with
 | .a xs=>GS m off xs λv=>k v d t n
 |_=>False
def Ai(sz:Nat)(b:Option Nat)(x i:Arg):uA:=λ_ r d t n k=>rv x r λx=>rv i r λi=>N4 t sz b x i λv=>k v d t n
def vn(x:Arg)(i:Nat):uA:=λ_ r d t n k=>rv x r λv=>match v with
 | .t b=>RV i b λv=>k v d t n
 |_=>False
def M4(f:Nat)(args:List Arg)(h:Bool):uA:=λcall r d t n k=>BD args r λb=>
 Bool.rec (motive:=λ_=>Prop) (Tu call f b t n λv t n=>k v d t n) (call (.fn f) b t n λv t n=>k v d t n) h
def D5(x:Arg)(args:List Arg)(_:Bool):uA:=λcall r d t n k=>rv x r λx=>BD args r λb=>
 rR (cL x b) λg=>Prod.rec (motive:=λ_=>Prop) (λc b=>call c b t n λv t n=>k v d t n) g
def S7(m:Nat):uA:=λ_ r d t n k=>k (.c (.f (.int .i64 (.ofNat m)))) d t n
def WD(x:Arg):uA:=λ_ r d t n k=>rv x r λv=>RC t v λm=>k (.c (.f (.int .i64 (.ofNat m)))) d t n
def Ag(sz bytes:Nat)(x y:Arg):uA:=λ_ r d t n k=>rv x r λx=>rv y r λy=>WI t n sz bytes x y λv t n=>k v d t n
def Bu:uA:=λ_ r d t n k=>k (.c (.f .oi)) d t n
def D6(x:Arg)(args:List Arg):uA:=λ_ r d t n k=>rv x r λx=>BD args r λb=>
 rR (cL x b) λg=>Prod.rec (motive:=λ_=>Prop) (λc b=>Callee.rec (motive:=λ_=>Prop) (λf=>k .top (.fn f b::d) t n) (λ_=>False) c) g
def abf(op:dd):uA:=
 dd.rec (motive:=λ_=>uA)
  WE (λo s=>gF (.pre o s)) M6 D3 WB D4 (λa b c e=>gF (.dX a b c e)) M5 D8 Aj WA
  (λa b c e=>gF (.eq a b c e)) (λa b=>gF (.un a b)) WC (λa=>gF (.xC a)) (λa=>gF (.xB a)) (λa=>gF (.Ej a)) (λa b=>gF (.tt a b)) (gF .mr)
  (λa b c e=>gF (.lookup a b c e)) (λa b c e=>gF (.mq a b c e)) (λa b c e f=>gF (.fQ a b c e f)) (λa b c e f=>gF (.slice a b c e f)) (λa b c e f g=>gF (.pc a b c e f g)) (λa b c=>gF (.qo a b c))
  Ah D7 Ai (λa b=>gF (.idxs a b)) (λa b c e f=>gF (.xD a b c e f)) (λa=>gF (.range a)) (λa=>gF (.next a)) vn M4 D5 WD S7 (λa=>gF (.lens a)) (λa=>gF (.cap a))
  Ag (λa b c=>gF (.copy a b c)) (λa b=>gF (.pW a b)) (λa b c e f=>gF (.oC a b c e f)) (λa b c=>gF (.clear a b c)) (λa=>gF (.mF a)) (λa=>gF (.qi a)) (λa=>gF (.entry a)) (λa b=>gF (.tq a b)) (λa b c e=>gF (.wW a b c e)) (λa b c e=>gF (.ib a b c e)) Bu D6 (gF .bad) op
theorem RW{call:cU}{bL:gA}(hc:qZ call bL)(op:dd){r:T}{d:List dS}{H:aj}{t:HT}{k:V->List dS->HT->Nat->Prop}(h:df H t)(g:abf op bL r d t H.length k) :
  ∃v A H' q,fH call ⟨r,d,H⟩ op=aa (v,⟨r,A,H'⟩)/\df H' q/\k v A q H'.length:=by
 have go:∀{v H' q},fH call ⟨r,d,H⟩ op=(bF r H op).map (λr'=>(r'.1,⟨r,d,r'.2⟩))->bF r H op=aa (v,H')->df H' q->k v d q H'.length->
   ∃v A H' q,fH call ⟨r,d,H⟩ op=aa (v,⟨r,A,H'⟩)/\df H' q/\k v A q H'.length:=
  λs u l B=>⟨_,d,_,_,by rw[s,u];rfl,l,B⟩
 have gen:fH call ⟨r,d,H⟩ op=(bF r H op).map (λr'=>(r'.1,⟨r,d,r'.2⟩))->gF op bL r d t H.length k->
   ∃v A H' q,fH call ⟨r,d,H⟩ op=aa (v,⟨r,A,H'⟩)/\df H' q/\k v A q H'.length:=λs u=>by
  obtain⟨v,H',q,l,B,I⟩:=Rc op r H t _ h u;exact go s l B I
 cases op
 case dr x=>
  have g:WE x bL r d t H.length k:=g;unfold WE at g;rw[dE]at g;exact go rfl rfl h g
 case pick c a b=>
  have g:M6 c a b bL r d t H.length k:=g;unfold M6 at g;rw[dE]at g;split at g
  .rename_i v z;cases v with
   |true=>
    simp only[dE]at g;exact go rfl (by simp only[bF,z];rfl) h g
   |false=>
    simp only[dE]at g;exact go rfl (by simp only[bF,z];rfl) h g
  .exact g.elim
 case alloc zs=>
  have g:D3 zs bL r d t H.length k:=g;unfold D3 at g;rw[te]at g;obtain⟨q,s,u⟩:=j2 h g;exact go rfl rfl s u
 case box x=>
  have g:WB x bL r d t H.length k:=g;unfold WB at g;rw[dE]at g;obtain⟨xs,l,g⟩:=sS g;obtain⟨q,s,u⟩:=j2 h g;exact go rfl (by simp only[bF,l]) s u
 case build zs ps=>
  have g:D4 zs ps bL r d t H.length k:=g;unfold D4 at g;rw[te]at g;obtain⟨cs,l,g⟩:=zp r g;exact go rfl (by simp only[bF,l];rfl) h g
 case load m x=>
  have g:M5 m x bL r d t H.length k:=g;unfold M5 at g;rw[dE]at g;obtain⟨v,l,g⟩:=Od h g;exact go rfl (by simp only[bF,l];rfl) h g
 case store m x y=>
  have g:D8 m x y bL r d t H.length k:=g;unfold D8 at g;rw[dE,dE]at g;obtain⟨xs,l,g⟩:=sS g;obtain⟨B,g⟩:=di g;split at g
  .rename_i p M;obtain⟨H',q,I,K,L,g⟩:=Yk h g;exact go rfl (by simp only[bF,M,l,B,if_true,I];rfl) K (by rw[L];exact g)
  .exact g.elim
 case jx x=>
  have g:Aj x bL r d t H.length k:=g;unfold Aj at g;rw[dE]at g;split at g
  .rename_i z;exact go rfl (by simp only[bF,z]) h g
  .rename_i z;exact go rfl (by simp only[bF,z]) h g
  .exact g.elim
 case bin op x y=>
  have g:WA op x y bL r d t H.length k:=g;unfold WA at g;rw[dE,dE]at g;obtain⟨v,l,g⟩:=QQ g;exact go rfl (by simp only[bF,l];rfl) h g
 case I' j x=>
  have g:WC j x bL r d t H.length k:=g;unfold WC at g;rw[dE]at g;split at g
  .rename_i z;simp only[su]at g;exact go rfl (by simp only[bF,z];rfl) h g
  .exact g.elim
 case fL off x=>
  have g:Ah off x bL r d t H.length k:=g;unfold Ah at g;rw[dE]at g;split at g
  .rename_i z;rw[cC]at g;exact go rfl (by simp only[bF,z,kI];rfl) h g
  .rename_i z;rw[cC]at g;exact go rfl (by simp only[bF,z,kI];rfl) h g
  .exact g.elim
 case field off m x=>
  have g:D7 off m x bL r d t H.length k:=g;unfold D7 at g;rw[dE]at g;split at g
  .rename_i z;obtain⟨v,l,g⟩:=wG g;exact go rfl (by simp only[bF,z,ko,l];rfl) h g
  .exact g.elim
 case ez sz F x i=>
  have g:Ai sz F x i bL r d t H.length k:=g;unfold Ai at g;rw[dE,dE]at g;obtain⟨v,l,g⟩:=Js h g;exact go rfl (by simp only[bF,l];rfl) h g
 case extract x i=>
  have g:vn x i bL r d t H.length k:=g;unfold vn at g;rw[dE]at g;split at g
  .rename_i z;obtain⟨v,l,g⟩:=uK g;exact go rfl (by simp only[bF,z,l];rfl) h g
  .exact g.elim
 case call f args E=>
  have g:M4 f args E bL r d t H.length k:=g;unfold M4 at g;rw[rn]at g;cases E with
  |false=>
   obtain⟨v,H',q,s,u,l⟩:=OV hc h g;exact⟨v,d,H',q,by simp only[fH,iI,afR,if_false,s];rfl,u,l⟩
  |true=>
   obtain⟨v,H',q,s,u,l⟩:=hc _ _ H t _ h g;exact⟨v,d,H',q,by simp only[fH,iI,if_true,s];rfl,u,l⟩
 case gN x args E=>
  have g:D5 x args E bL r d t H.length k:=g;unfold D5 at g;rw[dE,rn]at g;obtain⟨⟨c,J⟩,s,g⟩:=lj g;obtain⟨v,H',q,u,l,B⟩:=hc c J H t _ h g;exact⟨v,d,H',q,by simp only[fH,s,u];rfl,l,B⟩
 case len x=>
  have g:WD x bL r d t H.length k:=g;unfold WD at g;rw[dE]at g;obtain⟨y,m,s,u,g⟩:=GI h g;exact go rfl (by simp only[bF,s,u];rfl) h g
 case iP m=>
  have g:S7 m bL r d t H.length k:=g;exact go rfl rfl h g
 case append sz bytes x y=>
  have g:Ag sz bytes x y bL r d t H.length k:=g;unfold Ag at g;rw[dE,dE]at g;obtain⟨v,H',q,s,u,l⟩:=F4 h g;exact go rfl (by simp only[bF,s]) u l
 case recover=>
  have g:Bu bL r d t H.length k:=g;exact⟨_,d,H,t,rfl,h,g⟩
 case defer x args=>
  have g:D6 x args bL r d t H.length k:=g;unfold D6 at g;rw[dE,rn]at g;obtain⟨⟨c,J⟩,s,g⟩:=lj g;cases c with
  |fn f=>exact⟨_,.fn f J::d,H,t,by simp only[fH,s],h,g⟩
  |yield b=>exact g.elim
 all_goals exact gen rfl g
end
section
set_option linter.unusedVariables false
def Ba(H:aj):C->Int->C->Option (V × aj)
 | .sl b o l _ ep s,i,.sl vb g 1 _ _ _=>match H[b]?,H[vb]? with
  |some (.ct s' cs fl e .loc),aa (.box d _)=>
   if o=0/\g=0/\ep=e/\s=10/\s'=10/\cs.length=l*10/\fl=0/\0<=i/\i<l/\l<=1000000/\d.length=10 then
    aa (.c (.sl b 0 (l+1) 0 (e+1) 10),H.set b (.ct 10 (cs.take (i.toNat*10)++d++cs.drop (i.toNat*10)) 0 (e+1) .loc))
   else ab
  |_,_=>ab
 |_,_,_=>ab
def Jt(args:List V)(H:aj):Option (V × aj):=
 match args with
 |[.c x,.c (.f (.int .i64 i)),.c y]=>match bo H x,cS H 10 (.c y)with
  |some n,aa (1,_)=>if i=n then cw H 10 112 (.c x) (.c y)else Ba H x i y| _,_=>ab
 |_=>ab
def ub(f:Nat)(args:List V)(H:aj):Option (Option (V × aj)):=if f=gk then aa (Jt args H)else ab
end
section
set_option linter.unusedVariables false
def Ro(args:List V)(t:HT)(n:Nat)(k:V->HT->Nat->Prop):Prop:=match args with
 |[.c x,.c (.f (.int .i64 (.ofNat i))),.c y]=>RC t (.c x) λl=>qc (Nat.beq i l) (Ak t 10 (.c y) λm _=>qc (Nat.beq m 1) (WI t n 10 112 (.c x) (.c y) k))
 |_=>False
theorem Rp{H:aj}{t:HT}(h:df H t){args:List V}{k:V->HT->Nat->Prop}(g:Ro args t H.length k):∃v H' q,ub gk args H=aa (aa (v,H'))/\df H' q/\k v q H'.length:=by
 unfold Ro at g;split at g
 .rename_i x i y;obtain⟨F,l,e,E,j⟩:=GI h g;cases e;obtain⟨s,b⟩:=lM j;have s:=agR s;subst s;clear g j;obtain⟨m,ys,B,u⟩:=yC h b;clear b;obtain⟨d,b⟩:=lM u;have d:=agR d;subst d;obtain⟨v,H',q,z,d,A⟩:=F4 h b;exact⟨v,H',q,by simp[ub,Jt,E,B,z],d,A⟩
 .exact g.elim
end
section
def zP(c1 c2:cU):Prop:=∀c args H r,c1 c args H=aa r->c2 c args H=aa r
section
variable{c1 c2:cU}(hc:zP c1 c2)
include hc
theorem xL{c:Nat}{args:List V}{H:aj}{r:V × aj}(h:eQ c1 c args H=aa r):eQ c2 c args H=aa r:=by
 unfold eQ at h ⊢;split at h
 .simp at h
 .rename_i g b;split at h
  .simp at h
  .rename_i j d h0;simp only[hc _ _ _ _ h0];exact h
theorem AX{b:Bool}{c:Nat}{args:List V}{H:aj}{r:V × aj}(h:iI c1 b c args H=aa r):iI c2 b c args H=aa r:=by
 unfold iI at h ⊢;split at h
 .rename_i d;simp only[d,if_true];exact hc _ _ _ _ h
 .rename_i d;simp only[d];exact xL hc h
theorem zK{s:St}{op:dd}{r:V × St}(h:fH c1 s op=aa r):fH c2 s op=aa r:=by
 cases op with
 |call f args b=>
  simp only[fH,afF]at h ⊢;obtain⟨a,d,rfl⟩:=h;exact⟨a,AX hc d,rfl⟩
 |gN x args b=>
  simp only[fH]at h ⊢;split at h
  .simp only[afF]at h ⊢;obtain⟨a,d,rfl⟩:=h;exact⟨a,hc _ _ _ _ d,rfl⟩
  .simp at h
 |_=>exact h
theorem xr{s s':St}{o:aV}(h:gE c1 s o=aa s'):gE c2 s o=aa s':=by
 unfold gE at h ⊢;cases g:wanted s.aF o.g with
 |none=>simp[g]at h
 |some b=>
  cases b with
  |false=>simpa[g]using h
  |true=>
   simp only[g]at h ⊢;cases d:fH c1 s o.op with
   |none=>simp[d]at h
   |some x=>
    obtain⟨v,j⟩:=x;rw[zK hc d];rw[d]at h;exact h
theorem dR:∀(os:List aV) (s:St) {s':St},gz c1 os s=aa s'->gz c2 os s=aa s'
 |[],s,s',h=>h
 |o::os,s,s',h=>by
  simp only[gz]at h ⊢;split at h
  .rename_i d b;simp only[xr hc b];exact dR os d h
  .simp at h
theorem sw:∀(os:List aV) (s:St) {b:List St},ee c1 os s=aa b->ee c2 os s=aa b
 |[],s,b,h=>h
 |o::os,s,b,h=>by
  simp only[ee]at h ⊢;split at h
  .rename_i j d;simp only[xr hc d];split at h
   .rename_i l g;simp only[sw os j g];exact h
   .simp at h
  .simp at h
theorem Bk{ops:List aV}{jG:List (Nat × Nat)}{s s':St}(h:gY c1 ops jG s=aa s'):gY c2 ops jG s=aa s':=by
 unfold gY at h ⊢;split at h
 .exact dR hc _ _ h
 .split at h
  .rename_i d b;simp only[sw hc _ _ b];exact h
  .simp at h
theorem se{fn:Nat}:∀(n x:Nat) (ro:Option Nat) (j:List de) (s:St) {r:Option aH × St},n<=x->
  run c1 fn n ro j s=aa r->run c2 fn x ro j s=aa r
 |0,_,_,_,_,_,_,h=>by simp[run]at h
 |n+1,0,_,_,_,_,E,_=>by omega
 |n+1,x+1,ro,j,s,r,E,h=>by
  have m:=λro j s r h=>se (fn:=fn) n x ro j s (r:=r) (by omega) h
  match j,h with
  |[],h=>exact h| .inBlock _::k,h=>exact m _ _ _ _ h| .inLoop c::k,h=>exact m _ _ _ _ h
  | .kz b::k,h=>
   simp only[run]at h ⊢;split at h
   .rename_i f tmps ps as bd st pending d z
    try simp only[z]
    split at h
    .simp at h
    .rename_i A
     try simp only[A,if_false]
     split at h
     .exact m _ _ _ _ h
     .exact m _ _ _ _ h
     .exact m _ _ _ _ h
     .simp at h
   .simp at h
  | .oD::k,h=>
   simp only[run]at h ⊢;split at h
   .simp at h
   .rename_i b;split at h
    .rename_i z
     try simp only[z]
     exact m _ _ _ _ h
    .simp at h
  | .code .skip::k,h=>exact m _ _ _ _ h| .inScope _::k,h=>exact m _ _ _ _ h| .code (.label _)::k,h=>exact m _ _ _ _ h| .code (.scope a)::k,h=>exact m _ _ _ _ h
  | .code (.goto l)::k,h=>
   simp only[run]at h ⊢;split at h
   .rename_i u;(try simp only[u]);exact m _ _ _ _ h
   .simp at h
  | .code .bad::_,h=>simp[run]at h| .code .ret::_,h=>exact h
  | .code (.exit id)::k,h=>
   simp only[run]at h ⊢;split at h
   .rename_i u;(try simp only[u]);exact m _ _ _ _ h
   .rename_i u;(try simp only[u]);exact h
  | .code (.seq a b)::k,h=>exact m _ _ _ _ h| .code (.block id a)::k,h=>exact m _ _ _ _ h| .code (.loop a)::k,h=>exact m _ _ _ _ h
  | .code (.cond c a b)::k,h=>
   simp only[run]at h ⊢;split at h
   .rename_i v F;(try simp only[F]);exact m _ _ _ _ h
   .simp at h
  | .code (.region ops jG)::k,h=>
   simp only[run]at h ⊢;split at h
   .simp at h
   .rename_i q
    try simp only[q]
    split at h
    .rename_i I y
     try simp only[Bk hc y]
     exact m _ _ _ _ h
    .simp at h
  | .code (.oW f ps as bd)::k,h=>
   simp only[run]at h ⊢;split at h
   .simp at h
   .rename_i q
    try simp only[q]
    split at h
    .rename_i g args B
     try simp only[B]
     split at h
     .rename_i v H y
      try simp only[hc _ _ _ _ y]
      exact m _ _ _ _ h
     .simp at h
    .simp at h
theorem lq:∀(ds:List dS) (H:aj) {H':aj},dP c1 ds H=aa H'->dP c2 ds H=aa H'
 |[],H,H',h=>h
 | .iM b::ds,H,H',h=>by
  simp only[dP]at h ⊢;split at h
  .rename_i l;exact lq ds _ h
  .simp at h
 | .fn f args::ds,H,H',h=>by
  simp only[dP]at h ⊢;split at h
  .simp at h
  rename_i d;rw[bG d];split at h
  .rename_i v j g
   try simp only[hc _ _ _ _ g]
   exact lq ds _ h
  .simp at h
end
variable{tab:Nat->Option aM}{pX:Nat->List V->aj->Option (Option (V × aj))}
theorem vt{m l:Nat}(v:m<=l):∀(d g:Nat),d<=g->zP (eV tab pX m d) (eV tab pX l g)
 |0,_,_,_,_,_,_,h=>by simp[eV]at h
 |d+1,0,E,_,_,_,_,_=>by omega
 |d+1,g+1,E,c,args,H,r,h=>by
  have z:zP (eV tab pX m d) (eV tab pX l g):=vt v d g (by omega)
  match c,h with
  | .fn f,h=>
   simp only[eV]at h ⊢;split at h
   .rename_i r' x;(try simp only[x]);exact h
   .rename_i x
    try simp only[x]
    split at h
    .simp at h
    .rename_i af q
     try simp only[q]
     split at h
     .rename_i u
      try simp only[u,if_true]
      split at h
      .rename_i j s y
       try simp only[se z m l _ _ _ v y]
       split at h
       .rename_i F A
        try simp only[lq z _ _ A]
        exact h
       .simp at h
      .simp at h
     .simp at h
  | .yield b,h=>
   simp only[eV]at h ⊢;split at h
   .rename_i f tmps ps as bd I J K B
    try simp only[B]
    split at h
    .rename_i u
     try simp only[u,if_true]
     split at h
     .rename_i j s y
      try simp only[se z m l _ _ _ v y]
      exact h
     .simp at h
    .simp at h
   .simp at h
end
structure TB where
 get:Nat->Option aM
 ub:Nat->List V->aj->Option (Option (V × aj))
 ok:∀f a,get f=aa a->∀args H,ub f args H=ab
instance:CoeFun TB λ_=>Nat->Option aM:=⟨TB.get⟩
section
variable(tab:TB)
abbrev CF(m d:Nat):cU:=eV tab.get tab.ub m d
def Ev(c:Callee)(args:List V)(H:aj)(r:V)(H':aj):Prop:=∃m d,CF tab m d c args H=aa (r,H')
def aX(f:Nat)(args:List V)(r:V):Prop:=∃b H',Ev tab (.fn f) args [] b H'/\fC deep H' b=aa r
def WP(fn:Nat)(ro:Option Nat)(b:List de)(s:St)(Q:Option aH->St->Prop):Prop:=
 ∃n m d j s',run (CF tab m d) fn n ro b s=aa (j,s')/\Q j s'
def mc(s:St)(op:dd)(K:V->St->Prop):Prop:=
 match op with
 | .call f args h=>
  if h then ∃r H',Ev tab (.fn f) (dH s.aF args) s.heap r H'/\K r { s with heap:=H' }
  else ∃b r,aZ (bX deep s.heap) (dH s.aF args)=aa b/\aX tab f b r/\K r { s with heap:=(dH s.aF args).foldl (Qf deep) s.heap }
 | .gN x args _=>∃c as r H',cL (x.ev s.aF) (dH s.aF args)=aa (c,as)/\Ev tab c as s.heap r H'/\K r { s with heap:=H' }
 | .recover=>K (.c (.f .oi)) s| .defer x args=>∃f as,cL (x.ev s.aF) (dH s.aF args)=aa (.fn f,as)/\K .top { s with defs:=.fn f as::s.defs }
 |op=>∃v H',bF s.aF s.heap op=aa (v,H')/\K v { s with heap:=H' }
def xv:List aV->St->(St->Prop)->Prop
 |[],s,K=>K s
 |o::os,s,K=>match wanted s.aF o.g with
  |some ae=>mc tab s o.op λv s'=>xv os { s' with aF:=lS s'.aF o.dst v } K
  |some ag=>xv os { s with aF:=lS s.aF o.dst (.t []) } K
  |none=>False
variable{tab}
variable{c:Callee}{args:List V}{H H':aj}{r:V}
theorem mh{m g d b:Nat}(l:m<=g)(j:d<=b):zP (CF tab m d) (CF tab g b):=vt l d b j
theorem Ev.WW{q:V}{b:aj}(h1:Ev tab c args H r H')(h2:Ev tab c args H q b):r=q/\H'=b:=by
 obtain⟨m,d,h1⟩:=h1;obtain⟨l,g,h2⟩:=h2;have s:=mh (tab:=tab) (agf m l) (agf d g) _ _ _ _ h1;have j:=mh (tab:=tab) (af8 m l) (af8 d g) _ _ _ _ h2;rw[s]at j;simpa using j
theorem aX.WW{f:Nat}{d:V}(h1:aX tab f args r)(h2:aX tab f args d):r=d:=by
 obtain⟨a,l,g,h1⟩:=h1;obtain⟨b,m,j,h2⟩:=h2;obtain⟨rfl,rfl⟩:=g.WW j;rw[h1]at h2;simpa using h2
theorem Iu{s:St}{op:dd}{K:V->St->Prop}(h:mc tab s op K):∃m d v s',fH (CF tab m d) s op=aa (v,s')/\K v s':=by
 cases op with
 |call f args b=>
  simp only[mc]at h;split at h
  .rename_i l;obtain⟨r,H',⟨m,d,g⟩,j⟩:=h;exact⟨m,d,r,_,by simp[fH,iI,l,g],j⟩
  .rename_i l;obtain⟨y,r,h0,⟨z,u,⟨m,d,g⟩,j⟩,q⟩:=h;exact⟨m,d,r,_,by simp[fH,iI,l,eQ,h0,g,j],q⟩
 |gN x args b=>
  obtain⟨c,as,r,H',h0,⟨m,d,g⟩,j⟩:=h;exact⟨m,d,r,_,by simp[fH,h0,g],j⟩
 |recover=>exact⟨0,0,_,_,rfl,h⟩
 | «defer» x args=>
  obtain⟨f,as,h0,g⟩:=h;exact⟨0,0,.top,_,by simp[fH,h0],g⟩
 |_=>
  obtain⟨v,H',h0,g⟩:=h;exact⟨0,0,v,_,by simp[fH,h0],g⟩
theorem lB:∀(os:List aV) (s:St) {K:St->Prop},xv tab os s K->∃m d s',gz (CF tab m d) os s=aa s'/\K s'
 |[],s,K,h=>⟨0,0,s,rfl,h⟩
 |o::os,s,K,h=>by
  simp only[xv]at h;split at h
  .rename_i q;obtain⟨m,d,v,A,y,z⟩:=Iu h;obtain⟨g,b,s',j,l⟩:=lB os _ z;refine⟨max m g,max d b,s',?_,l⟩;have u:=zK (mh (tab:=tab) (agf m g) (agf d b)) y;have x:=dR (mh (tab:=tab) (af8 m g) (af8 d b)) os _ j;simp only[gz,gE,q,u,x]
  .rename_i q;obtain⟨g,b,s',j,l⟩:=lB os _ h;exact⟨g,b,s',by simp only[gz,gE,q,j],l⟩
  .exact h.elim
variable{fn:Nat}{ro:Option Nat}{k:List de}{s:St}{Q:Option aH->St->Prop}{a b:aH}
theorem nX{g:List de}{b:List de}{s':St}(h:WP tab fn ro b s' Q)
  (u:∀m d n,run (CF tab m d) fn (n+1) ro g s=run (CF tab m d) fn n ro b s'):WP tab fn ro g s Q:=by
 obtain⟨n,m,d,j,v,l,q⟩:=h;exact⟨n+1,m,d,j,v,by rw[u,l],q⟩
theorem dY(h:Q ab s):WP tab fn ro [] s Q:=⟨1,0,0,ab,s,rfl,h⟩
theorem aA{i:Nat}(h:WP tab fn ro k s Q):WP tab fn ro (.inBlock i::k) s Q:=nX h λ_ _ _=>rfl
theorem Jz(h:WP tab fn ro (.code a::.inLoop a::k) s Q):WP tab fn ro (.inLoop a::k) s Q:=nX h λ_ _ _=>rfl
theorem aS(h:WP tab fn ro k s Q):WP tab fn ro (.code .skip::k) s Q:=nX h λ_ _ _=>rfl
theorem ak(h:WP tab fn ro (.code a::.code b::k) s Q):WP tab fn ro (.code (.seq a b)::k) s Q:=nX h λ_ _ _=>rfl
theorem aI{i:Nat}(h:WP tab fn ro (.code a::.inBlock i::k) s Q):WP tab fn ro (.code (.block i a)::k) s Q:=nX h λ_ _ _=>rfl
theorem az(h:Q (aa .ret) s):WP tab fn ro (.code .ret::k) s Q:=⟨1,0,0,aa .ret,s,rfl,h⟩
theorem bT{i:Nat}{k':List de}(b:exitTo i k=aa k')(h:WP tab fn ro k' s Q):WP tab fn ro (.code (.exit i)::k) s Q:=
 nX h λ_ _ _=>by simp only[run,b]
theorem GC{c:Arg}{v:Bool}(hc:c.ev s.aF=.c (.f (.bool v)))(h:WP tab fn ro (.code (if v then a else b)::k) s Q) :
  WP tab fn ro (.code (.cond c a b)::k) s Q:=nX h λ_ _ _=>by simp only[run,hc]
theorem al{c:Arg}(hc:c.ev s.aF=.c (.f (.bool ae)))(h:WP tab fn ro (.code a::k) s Q) :
  WP tab fn ro (.code (.cond c a b)::k) s Q:=GC hc h
theorem aG{c:Arg}(hc:c.ev s.aF=.c (.f (.bool ag)))(h:WP tab fn ro (.code b::k) s Q) :
  WP tab fn ro (.code (.cond c a b)::k) s Q:=GC hc h
theorem wS{m l d j n g:Nat}{b:List de}{x:Option aH × St}(u:m<=l)(q:d<=j)(v:n<=g)
  (h:run (CF tab m d) fn n ro b s=aa x):run (CF tab l j) fn g ro b s=aa x:=
 se (mh u q) n g ro b s v h
theorem av{ops:List aV}(g:ro=ab\/ops.all (·.op.dB)=ae)(h:xv tab ops s λs'=>WP tab fn ro k s' Q) :
  WP tab fn ro (.code (.region ops [])::k) s Q:=by
 obtain⟨m,d,s',x,n,q,b,j,A,y,z⟩:=lB ops s h;refine⟨n+1,max m q,max d b,j,A,?_,z⟩;have u:=dR (mh (tab:=tab) (agf m q) (agf d b)) ops _ x;have v:=wS (af8 m q) (af8 d b) (afJ n) y;have l:(ro.isSome&&!ops.all (·.op.dB))=ag:=by
  rcases g with rfl|g
  .rfl
  .rw[g];simp
 simp only[run,l,gY,u,v];simp
theorem dx(I:Nat->St->Prop)(n:Nat)(h0:I n s)
  (step:∀n s,I n s->(∀b s',b<n->I b s'->WP tab fn ro (.inLoop a::k) s' Q)->WP tab fn ro (.code a::.inLoop a::k) s Q) :
  WP tab fn ro (.code (.loop a)::k) s Q:=by
 have key:∀n s,I n s->WP tab fn ro (.code a::.inLoop a::k) s Q:=by
  intro n;induction n using Nat.strongRecOn with
  |_ n l=>
   intro s j;exact step n s j λb s' g d=>Jz (l b g s' d)
 exact nX (key n s h0) λ_ _ _=>rfl
def Fin(tab:TB)(af:aM)(r:V)(H':aj)(s:St):Prop:=
 ∃m d b,dP (CF tab m d) s.defs s.heap=aa b/\results s.aF b af.results=aa r/\b=H'
theorem tN{f:Nat}{af:aM}(z:tab f=aa af)(J:args.length=af.ps.length)
  (h:WP tab f ab [.code af.body] ⟨cO af.ps args .e,[],H⟩ λ_ s=>Fin tab af r H' s):Ev tab (.fn f) args H r H':=by
 obtain⟨n,m,d,j,s,B,A,v,L,F,I,rfl⟩:=h;obtain⟨M,l,q,u⟩:∃M,m<=M/\A<=M/\n<=M:=⟨max (max m A) n,by omega,by omega,by omega⟩
 obtain⟨E,b,g⟩:∃E,d<=E/\v<=E:=⟨max d v,by omega,by omega⟩
 refine⟨M,E+1,?_⟩;have x:run (CF tab M E) f M ab [.code af.body] ⟨cO af.ps args .e,[],H⟩=aa (j,s):=wS l b u B;have y:=lq (mh (tab:=tab) q g) _ _ F;have K:=tab.ok _ _ z args H;simp only[CF]at x y ⊢;simp only[eV,K,z,J,if_true,x,y,I,agv]
def uo(res:List iv)(r:V)(s:St):Prop:=s.defs=[]/\∃b,results s.aF s.heap res=aa b/\fC deep s.heap b=aa r
theorem bH{f:Nat}{ps:List P}{res:List iv}{body:aH}(x:tab f=aa ⟨ps,res,body⟩)(v:args.length=ps.length)
  (h:∀Q:Option aH->St->Prop,(∀j s,uo res r s->Q j s)->WP tab f ab [.code body] ⟨cO ps args .e,[],[]⟩ Q):aX tab f args r:=by
 have b:=h (λ_ s=>uo res r s) λ_ _ h=>h;obtain⟨n,m,d,j,s,g,u,y,l,q⟩:=b;exact⟨y,s.heap,tN x v ⟨n,m,d,j,s,g,0,0,s.heap,by rw[u];rfl,l,rfl⟩,q⟩
end
theorem ai{tab:TB}{fn:Nat}{ops:List aV}{b:aH}{k:List de}{s:St}{Q:Option aH->St->Prop}(h:xv tab ops s λs'=>WP tab fn ab (.code b::k) s' Q):WP tab fn ab (.code (.seq (.region ops []) b)::k) s Q:=ak (av (.inl rfl) h)
theorem bc{tab:TB}{fn:Nat}{ro:Option Nat}{a:aH}{c:Arg}{k:List de}{s:St}{Q:Option aH->St->Prop}(hc:c.ev s.aF=.c (.f (.bool ag)))(h:WP tab fn ro k s Q):WP tab fn ro (.code (.cond c a .skip)::k) s Q:=aG hc (aS h)
section
set_option linter.unusedVariables false
def TA(g:Option (P × Bool))(r:T)(d j:Prop):Prop:=
 Option.rec (motive:=λ_=>Prop) d (λl=>Prod.rec (motive:=λ_=>Prop) (λp w=>B9 p r λv=>match v with
  | .c (.f (.bool b))=>Bool.rec (motive:=λ_=>Prop) (Bool.rec (motive:=λ_=>Prop) d j w) (Bool.rec (motive:=λ_=>Prop) j d w) b
  | .t []=>j
  |_=>False) l) g
theorem P5{g:Option (P × Bool)}{r:T}{d l:Prop}(h:TA g r d l):(wanted r g=aa ae/\d)\/(wanted r g=aa ag/\l):=by
 cases g with
 |none=>exact .inl ⟨rfl,h⟩
 |some m=>
  obtain⟨p,w⟩:=m;change B9 p r _ at h;rw[pD]at h;simp only[wanted];split at h
  .rename_i b j;rw[j];cases b<;>cases w
   .exact .inl ⟨rfl,h⟩
   .exact .inr ⟨rfl,h⟩
   .exact .inr ⟨rfl,h⟩
   .exact .inl ⟨rfl,h⟩
  .rename_i j;rw[j];exact .inr ⟨rfl,h⟩
  .exact h.elim
abbrev It:=T->List dS->HT->Nat->Prop
def PN(o:aV)(call:gA)(r:T)(d:List dS)(t:HT)(n:Nat)(k:It):Prop:=
 aV.rec (motive:=λ_=>Prop) (λdst op g=>TA g r (abf op call r d t n λv d t n=>Ya dst r v λr=>k r d t n) (Ya dst r (.t []) λr=>k r d t n)) o
theorem C5{call:cU}{bL:gA}(hc:qZ call bL){o:aV}{r:T}{d:List dS}{H:aj}{t:HT}{k:It}(h:df H t)(b:PN o bL r d t H.length k) :
  ∃s' j,gE call ⟨r,d,H⟩ o=aa s'/\df s'.heap j/\k s'.aF s'.defs j s'.heap.length:=by
 obtain⟨dst,op,g⟩:=o;rcases P5 b with⟨l,b⟩|⟨l,b⟩
 .obtain⟨v,q,H',j,s,u,m⟩:=RW hc op h b;rw[GW]at m;exact⟨⟨lS r dst v,q,H'⟩,j,by simp only[gE,l,s],u,m⟩
 .rw[GW]at b;exact⟨⟨lS r dst (.t []),d,H⟩,t,by simp only[gE,l],h,b⟩
def abn(ops:List aV)(call:gA):T->List dS->HT->Nat->It->Prop:=
 List.rec (motive:=λ_=>T->List dS->HT->Nat->It->Prop) (λr d t n k=>k r d t n) (λo _ b r d t n k=>PN o call r d t n λr d t n=>b r d t n k) ops
theorem GO{call:cU}{bL:gA}(hc:qZ call bL):∀{ops:List aV} {r:T} {d:List dS} {H:aj} {t:HT} {k:It},df H t->abn ops bL r d t H.length k->
  ∃s' j,gz call ops ⟨r,d,H⟩=aa s'/\df s'.heap j/\k s'.aF s'.defs j s'.heap.length
 |[],r,d,H,t,k,h,b=>⟨⟨r,d,H⟩,t,rfl,h,b⟩
 |o::ops,r,d,H,t,k,h,b=>by
  obtain⟨g,z,l,m,q⟩:=C5 hc h b;obtain⟨x,y,s,u,v⟩:=GO hc (r:=g.aF) (d:=g.defs) (H:=g.heap) m q;exact⟨x,y,by simp only[gz,l];exact s,u,v⟩
structure vl where
 r:T
 d:List dS
 t:HT
 n:Nat
def Be(ops:List aV)(call:gA):T->List dS->HT->Nat->(List vl->It)->Prop:=
 List.rec (motive:=λ_=>T->List dS->HT->Nat->(List vl->It)->Prop) (λr d t n k=>k [⟨r,d,t,n⟩] r d t n)
  (λo _ q r d t n k=>PN o call r d t n λr' m v s=>q r' m v s λu j b l g=>k (⟨r,d,t,n⟩::u) j b l g) ops
def S5(s:St)(x:vl):Prop:=x.r=s.aF/\x.d=s.defs/\df s.heap x.t/\x.n=s.heap.length
inductive vm:List St->List vl->Prop
 |nil:vm [] []
 |cons {s:St} {x:vl} {ss:List St} {xs:List vl} (h:S5 s x) (hs:vm ss xs):vm (s::ss) (x::xs)
theorem vm.get{d:List St}{xs:List vl}(h:vm d xs):∀(i:Nat) (x:vl),xs[i]?=aa x->∃s,d[i]?=aa s/\S5 s x:=by
 induction h with
 |nil=>intro i x b;simp at b
 |cons h j g=>
  intro i x b;cases i with
  |zero=>simp at b;subst b;exact⟨_,rfl,h⟩| succ i=>simpa using g i x (by simpa using b)
theorem xa{call:cU}{bL:gA}(hc:qZ call bL):∀{ops:List aV} {r:T} {d:List dS} {H:aj} {t:HT} {k:List vl->It},df H t->Be ops bL r d t H.length k->
  ∃b xs s' m,ee call ops ⟨r,d,H⟩=aa b/\vm b xs/\b.getLast?=aa s'/\df s'.heap m/\k xs s'.aF s'.defs m s'.heap.length
 |[],r,d,H,t,k,h,g=>⟨[⟨r,d,H⟩],[⟨r,d,t,H.length⟩],⟨r,d,H⟩,t,rfl,.cons ⟨rfl,rfl,h,rfl⟩ .nil,rfl,h,g⟩
 |o::ops,r,d,H,t,k,h,g=>by
  obtain⟨j,E,q,s,u⟩:=C5 hc h g;obtain⟨b,xs,A,B,v,x,l,y,z⟩:=xa hc (r:=j.aF) (d:=j.defs) (H:=j.heap) s u;refine⟨⟨r,d,H⟩::b,⟨r,d,t,H.length⟩::xs,A,B,by simp only[ee,q];rw[v],.cons ⟨rfl,rfl,h,rfl⟩ x,?_,y,z⟩;cases b with
  |nil=>simp at l| cons a as=>simpa using l
def G3(ops:List aV)(xs:List vl)(c:Nat × Nat):Bool:=
 match ops[c.1]?,xs[c.1]?,xs[c.2]? with
 |some o,aa s,aa s'=>match wanted s.r o.g with
  |some ag=>ae
  |_=>match P9 s.r s.t.get s.n o.op,P9 s.r s'.t.get s'.n o.op with
   |some (v,_),aa (b,_)=>v.beq b| _,_=>ag
 |_,_,_=>ag
theorem Pt{ops:List aV}{l:List St}{xs:List vl}(h:vm l xs){c:Nat × Nat}(hc:G3 ops xs c=ae):sameAt ops l c=ae:=by
 unfold G3 at hc;split at hc
 .rename_i o x O z A B;obtain⟨s,m,q,K,u,y⟩:=h.get _ _ A;obtain⟨s',F,L,M,H,I⟩:=h.get _ _ B;unfold sameAt;rw[z,m,F];simp only;rw[<-q];split at hc
  .rename_i E;rw[E]
  .split at hc
   .rename_i v e N J g j;rw[u,y]at g;rw[H,I]at j;have b:=Bj x.r s.heap o.op;rw[g]at b;have d:=Bj x.r s'.heap o.op;rw[j]at d;rw[<-b,<-d];split
    .rfl
    .exact hc
   .simp at hc
 .simp at hc
def rX(ops:List aV)(jG:List (Nat × Nat))(call:gA)(r:T)(d:List dS)(t:HT)(n:Nat)(k:It):Prop:=
 List.rec (motive:=λ_=>Prop) (abn ops call r d t n k) (λ_ _ _=>Be ops call r d t n λxs r d t n=>qc (jG.all (G3 ops xs)) (k r d t n)) jG
theorem Fi{call:cU}{bL:gA}(hc:qZ call bL){ops:List aV}{jG:List (Nat × Nat)}{r:T}{d:List dS}{H:aj}{t:HT}{k:It}(h:df H t)(b:rX ops jG bL r d t H.length k) :
  ∃s' g,gY call ops jG ⟨r,d,H⟩=aa s'/\df s'.heap g/\k s'.aF s'.defs g s'.heap.length:=by
 cases jG with
 |nil=>exact GO hc h b
 |cons c cs=>
  have b:Be ops bL r d t H.length (λxs r d t n=>qc ((c::cs).all (G3 ops xs)) (k r d t n)):=b;obtain⟨x,xs,s',g,l,m,q,s,u⟩:=xa hc h b;obtain⟨j,v⟩:=lM u;refine⟨s',g,?_,s,v⟩;simp only[gY,l];rw[bu,q];rw[af4]at j ⊢;exact λc hc=>Pt m (j c hc)
abbrev Go1:=Option Nat->List de->It
abbrev QH:=Option aH->It
abbrev cM:=gA->Nat->QH->Go1->Option Nat->List de->It
def F6:cM:=λ_ _ _ go ro rest r d t n=>go ro rest r d t n
def QT(ops:List aV)(jG:List (Nat × Nat)):cM:=λcall _ _ go ro rest r d t n=>
 Option.rec (motive:=λ_=>Prop) (rX ops jG call r d t n λr d t n=>go ro rest r d t n)
  (λ_=>qc (ops.all (·.op.dB)) (rX ops jG call r d t n λr d t n=>go ro rest r d t n)) ro
def adF(a b:aH)(_ _:cM):cM:=λ_ _ _ go ro rest r d t n=>go ro (.code a::.code b::rest) r d t n
def Nj(c:Arg)(a b:aH)(_ _:cM):cM:=λ_ _ _ go ro rest r d t n=>rv c r λv=>match v with
 | .c (.f (.bool v))=>Bool.rec (motive:=λ_=>Prop) (go ro (.code b::rest) r d t n) (go ro (.code a::rest) r d t n) v
 |_=>False
def WQ(id:Nat)(a:aH)(_:cM):cM:=λ_ _ _ go ro rest r d t n=>go ro (.code a::.inBlock id::rest) r d t n
def aaE(a:aH)(_:cM):cM:=λ_ _ _ go ro rest r d t n=>go ro (.code a::.inLoop a::rest) r d t n
def Aq(f:Arg)(ps:List P)(as bd:aH)(_ _:cM):cM:=λcall fn _ go ro rest r d t n=>
 Option.rec (motive:=λ_=>Prop)
  (qm (.gI ae) t n λt b=>qm (.lp fn r ps as bd .ready ab n) t b λt m=>rv f r λx=>
   rR (cL x [.c (.yl b)]) λj=>Prod.rec (motive:=λ_=>Prop) (λc q=>Callee.rec (motive:=λ_=>Prop)
    (λg=>call (.fn g) q t m λ_ t l=>go ab (.kz b::rest) r (.iM n::d) t l) (λ_=>False) c) j)
  (λ_=>False) ro
def Nk(id:Nat):cM:=λ_ _ b go ro rest r d t n=>
 Option.rec (motive:=λ_=>Prop) (Option.rec (motive:=λ_=>Prop) False (λ_=>b (aa (.exit id)) r d t n) ro) (λk=>go ro k r d t n) (exitTo id rest)
def adE:cM:=λ_ _ b _ _ _ r d t n=>b (aa .ret) r d t n
def adD:cM:=λ_ _ _ _ _ _ _ _ _ _=>False
def WS(a:aH)(_:cM):cM:=λ_ _ _ go ro rest r d t n=>go ro (.code a::.inScope a::rest) r d t n
def WR(_:Nat):cM:=F6
def aaD(l:Nat):cM:=λ_ _ _ go ro rest r d t n=>rR (gotoIn l rest) λk=>go ro k r d t n
def BV(c:aH):cM:=aH.rec (motive:=λ_=>cM) F6 QT adF Nj WQ aaE Aq Nk adE adD WS WR aaD c
def Xh(_:Nat):cM:=F6
def aaZ(c:aH):cM:=λ_ _ _ go ro rest r d t n=>go ro (.code c::.inLoop c::rest) r d t n
def EC(b:Nat):cM:=λ_ _ _ go ro rest r d t n=>iU b t λbz=>match bz with
 | .lp f tmps ps as bd st pending g=>qc (match st with| .busy=>ag|_=>ae) (iC (.lp f tmps ps as bd .exhausted pending g) t b λt=>match pending with
  |none=>go ro rest r d t n| some .ret=>go ro (.code .ret::rest) r d t n| some (.exit id)=>go ro (.code (.exit id)::rest) r d t n
  |some _=>False)
 |_=>False
def Tj:cM:=λ_ _ _ go ro rest r d t n=>Option.rec (motive:=λ_=>Prop) False (λb=>iU b t λbz=>match bz with
 | .lp f tmps ps as bd .ready pending g=>iC (.lp f tmps ps as bd .busy pending g) t b λt=>go ro rest r d t n
 |_=>False) ro
def Xi(_:aH):cM:=F6
def Tm(x:de):cM:=de.rec (motive:=λ_=>cM) BV Xh aaZ EC Tj Xi x
def runK(call:gA)(fn:Nat)(b:QH)(m:Nat):Go1:=
 Nat.rec (motive:=λ_=>Go1) (λ_ _ _ _ _ _=>False)
  (λ_ j ro g r d t n=>List.rec (motive:=λ_=>Prop) (b ab r d t n) (λx rest _=>Tm x call fn b j ro rest r d t n) g) m
def Z4(call:cU)(fn m:Nat)(ro:Option Nat)(g:List de)(s:St)(d:QH):Prop:=
 ∃b s' j,run call fn m ro g s=aa (b,s')/\df s'.heap j/\d b s'.aF s'.defs j s'.heap.length
theorem G1{call:cU}{bL:gA}(hc:qZ call bL)(fn:Nat)(j:QH):∀(m:Nat) (ro:Option Nat) (s:List de) (r:T) (d:List dS) (H:aj) (t:HT),
  df H t->runK bL fn j m ro s r d t H.length->Z4 call fn m ro s ⟨r,d,H⟩ j:=by
 intro m;induction m with
 |zero=>intro ro s r d H t h q;exact q.elim
 |succ m ih=>
  intro ro s r d H t h q;have go:∀{y} {s':St} {E:HT},run call fn (m+1) ro s ⟨r,d,H⟩=run call fn m ro y s'->df s'.heap E->runK bL fn j m ro y s'.aF s'.defs E s'.heap.length->Z4 call fn (m+1) ro s ⟨r,d,H⟩ j:=by
   intro y s' E u z B;obtain⟨L,N,O,W,X,Y⟩:=ih ro y s'.aF s'.defs s'.heap E z B;exact⟨L,N,O,by rw[u];exact W,X,Y⟩
  cases s with
  |nil=>exact⟨ab,⟨r,d,H⟩,t,rfl,h,q⟩
  |cons x rest=>
   have q:Tm x bL fn j (runK bL fn j m) ro rest r d t H.length:=q;cases x with
   |inBlock id=>exact go (s':=⟨r,d,H⟩) (by simp only[run]) h q
   |inLoop c=>exact go (s':=⟨r,d,H⟩) (by simp only[run]) h q
   |inScope c=>exact go (s':=⟨r,d,H⟩) (by simp only[run]) h q
   |kz b=>
    have q:EC b bL fn j (runK bL fn j m) ro rest r d t H.length:=q;unfold EC at q;obtain⟨bz,u,z⟩:=dW q;rw[h]at u;have u:H[b]?=aa bz:=u;split at z
    .rename_i f tmps ps as bd st pending F _;obtain⟨B,z⟩:=lM z;obtain⟨E,I,A⟩:=et h z;have J:st≠.busy:=by rintro rfl;simp at B
     have M:H.length=(H.set b (.lp f tmps ps as bd .exhausted pending F)).length:=by simp
     rw[M]at A;split at A
     .exact go (s':=⟨r,d,H.set b (.lp f tmps ps as bd .exhausted ab F)⟩) (by simp only[run,u,bG J]) I A
     .exact go (s':=⟨r,d,H.set b (.lp f tmps ps as bd .exhausted (aa .ret) F)⟩) (by simp only[run,u,bG J]) I A
     .exact go (s':=⟨r,d,H.set b (.lp f tmps ps as bd .exhausted (aa (.exit _)) F)⟩) (by simp only[run,u,bG J]) I A
     .exact A.elim
    .exact z.elim
   |oD=>
    have q:Tj bL fn j (runK bL fn j m) ro rest r d t H.length:=q;cases ro with
    |none=>exact q.elim
    |some b=>
     obtain⟨bz,u,z⟩:=dW q;rw[h]at u;have u:H[b]?=aa bz:=u;split at z
     .rename_i f tmps ps as bd pending F _;obtain⟨E,I,A⟩:=et h z;have M:H.length=(H.set b (.lp f tmps ps as bd .busy pending F)).length:=by simp
      rw[M]at A;exact go (s':=⟨r,d,H.set b (.lp f tmps ps as bd .busy pending F)⟩) (by simp only[run,u]) I A
     .exact z.elim
   |code c=>
    cases c with
    |skip=>exact go (s':=⟨r,d,H⟩) (by simp only[run]) h q
    |label l=>exact go (s':=⟨r,d,H⟩) (by simp only[run]) h q
    |scope a=>exact go (s':=⟨r,d,H⟩) (by simp only[run]) h q
    |goto l=>
     obtain⟨k',K,q⟩:=lj (show rR (gotoIn l rest) (λk'=>runK bL fn j m ro k' r d t H.length) from q);exact go (s':=⟨r,d,H⟩) (by simp only[run,K]) h q
    |bad=>exact q.elim| ret=>exact⟨aa .ret,⟨r,d,H⟩,t,rfl,h,q⟩| seq a b=>exact go (s':=⟨r,d,H⟩) (by simp only[run]) h q
    |block id a=>exact go (s':=⟨r,d,H⟩) (by simp only[run]) h q
    |loop a=>exact go (s':=⟨r,d,H⟩) (by simp only[run]) h q
    |exit id=>
     have q:Nk id bL fn j (runK bL fn j m) ro rest r d t H.length:=q;unfold Nk at q;cases K:exitTo id rest with
     |some k'=>
      rw[K]at q;exact go (s':=⟨r,d,H⟩) (by simp only[run,K]) h q
     |none=>
      rw[K]at q;cases ro with
      |none=>exact q.elim| some b=>exact⟨aa (.exit id),⟨r,d,H⟩,t,by simp only[run,K,Option.isSome_some,if_true],h,q⟩
    |cond c a b=>
     have q:Nj c a b (BV a) (BV b) bL fn j (runK bL fn j m) ro rest r d t H.length:=q;unfold Nj at q;rw[dE]at q;split at q
     .rename_i v U;cases v with
      |true=>exact go (s':=⟨r,d,H⟩) (by simp only[run,U,if_true]) h q
      |false=>exact go (s':=⟨r,d,H⟩) (by simp only[run,U,afR,if_false]) h q
     .exact q.elim
    |region ops jG=>
     have key:(ro.isSome&&!ops.all (·.op.dB))=ag/\rX ops jG bL r d t H.length (λr d t n=>runK bL fn j m ro rest r d t n):=by
      cases ro with
      |none=>exact⟨rfl,q⟩
      |some b=>
       obtain⟨u,z⟩:=lM (show qc (ops.all (·.op.dB)) (rX ops jG bL r d t H.length (λr d t n=>runK bL fn j m (aa b) rest r d t n)) from q);exact⟨by rw[u];rfl,z⟩
     obtain⟨s',E,u,z,B⟩:=Fi hc h key.2;exact go (s':=s') (by simp only[run,key.1,afR,if_false,u]) z B
    |oW f ps as bd=>
     have q:Aq f ps as bd (BV as) (BV bd) bL fn j (runK bL fn j m) ro rest r d t H.length:=q;cases ro with
     |some b=>exact q.elim
     |none=>
      unfold Aq at q;obtain⟨t1,u,q⟩:=j2 h q;obtain⟨t2,z,q⟩:=j2 u q;rw[dE]at q;obtain⟨⟨c,vs⟩,B,q⟩:=lj q;have Q:(H++[bB.gI ae]).length=H.length+1:=by simp
      have S:H++[bB.gI ae]++[bB.lp fn r ps as bd .ready ab H.length]=H++[.gI ae,.lp fn r ps as bd .ready ab H.length]:=by simp
      rw[Q]at B;rw[S]at z;cases c with
      |yield b=>exact q.elim
      |fn g=>
       have q:bL (.fn g) vs t2 (H++[bB.gI ae]++[bB.lp fn r ps as bd .ready ab H.length]).length (λ_ t n'=>runK bL fn j m ab (.kz (H++[bB.gI ae]).length::rest) r (.iM H.length::d) t n'):=q;rw[S,Q]at q;obtain⟨v,H',E,I,A,Z⟩:=hc _ _ _ _ _ z q;exact go (s':=⟨r,.iM H.length::d,H'⟩) (by simp only[run,Option.isSome_none,afR,if_false,B,I]) A Z
def Gd(call:gA)(ds:List dS):HT->Nat->(HT->Nat->Prop)->Prop:=
 List.rec (motive:=λ_=>HT->Nat->(HT->Nat->Prop)->Prop) (λt n k=>k t n)
  (λx _ d t n k=>dS.rec (motive:=λ_=>Prop)
   (λb=>iU b t λbz=>match bz with
    | .gI ae=>iC (.gI ag) t b λt=>d t n k
    |_=>False)
   (λf args=>Bool.rec (motive:=λ_=>Prop) (call (.fn f) args t n λ_ t n=>d t n k) False (Nat.beq f gk)) x) ds
theorem vD{call:cU}{bL:gA}(hc:qZ call bL):∀{ds:List dS} {H:aj} {t:HT} {k:HT->Nat->Prop},df H t->Gd bL ds t H.length k->∃H' j,dP call ds H=aa H'/\df H' j/\k j H'.length
 |[],H,t,k,h,d=>⟨H,t,rfl,h,d⟩
 | .iM b::ds,H,t,k,h,d=>by
  obtain⟨bz,g,l⟩:=dW d;rw[h]at g;have g:H[b]?=aa bz:=g;split at l
  .obtain⟨z,q,m⟩:=et h l;have A:H.length=(H.set b (.gI ag)).length:=by simp
   have m:Gd bL ds z H.length k:=m;rw[A]at m;obtain⟨H',j,s,u,x⟩:=vD hc q m;exact⟨H',j,by simp only[dP,g];exact s,u,x⟩
  .exact l.elim
 | .fn f args::ds,H,t,k,h,d=>by
  have d:Bool.rec (motive:=λ_=>Prop) (bL (.fn f) args t H.length λ_ t n=>Gd bL ds t n k) False (Nat.beq f gk):=d;cases y:Nat.beq f gk with
  |true=>rw[y]at d;exact d.elim
  |false=>
   rw[y]at d;obtain⟨v,B,z,g,l,q⟩:=hc _ _ H t _ h d;obtain⟨H',j,s,u,x⟩:=vD hc (ds:=ds) l q;exact⟨H',j,by simp only[dP,bG (Nat.ne_of_beq_eq_false y),g];exact s,u,x⟩
def abp(r:T)(t:HT)(a:iv)(k:V->Prop):Prop:=iv.rec (motive:=λ_=>Prop)
 (λp=>B9 p r λv=>match v with
  | .t _=>False
  |v=>k v)
 (λp m=>B9 p r λv=>ldK t m v k) a
theorem R1{H:aj}{t:HT}(h:df H t){r:T}(a:iv)(k:V->Prop)(b:abp r t a k):∃v,cu r H a=aa v/\k v:=by
 cases a with
 |tmp p=>
  change B9 p r _ at b;rw[pD]at b;simp only[cu];cases d:r.get p with
  |t g=>rw[d]at b;exact b.elim| _=>rw[d]at b;exact⟨_,rfl,b⟩
 |cell p m=>
  change B9 p r _ at b;rw[pD]at b;exact Od h b
def CH(r:T)(t:HT)(b:List iv)(k:V->Prop):Prop:=Ay (abp r t) b λvs=>match vs with
 |[v]=>k v| vs=>k (.t vs)
theorem CI{H:aj}{t:HT}(h:df H t){r:T}{g:List iv}{k:V->Prop}(m:CH r t g k):∃v,Km.results r H g=aa v/\k v:=by
 obtain⟨j,l,d⟩:=kH (R1 h) m;unfold Km.results;rw[l];split at d
 .exact⟨_,rfl,d⟩
 .rename_i b;refine⟨.t j,?_,d⟩
  match j,b with
  |[v],b=>exact absurd rfl (b v)| [],_=>rfl| _::_::_,_=>rfl
def fnK(tab:TB)(m:Nat)(call:gA)(f:Nat)(args:List V)(t:HT)(n:Nat)(k:V->HT->Nat->Prop):Prop:=
 rR (tab.get f) λaf=>aM.rec (motive:=λ_=>Prop) (λps b body=>jL args.length ps.length (uO ps args .e λr=>
  runK call f (λ_ r d t n=>Gd call d t n λt n=>CH r t b λv=>k v t n) m ab [.code body] r [] t n)) af
def P_(m:Nat)(call:gA)(b:Nat)(args:List V)(t:HT)(n:Nat)(k:V->HT->Nat->Prop):Prop:=
 iU b t λbz=>match bz with
  | .lp f tmps ps as bd _ _ _=>jL args.length ps.length (uO ps args tmps λr=>
    runK call f (λq _ d t n=>qc d.isEmpty (iU b t λbz=>match bz with
     | .lp v g s as' l _ _ u=>match q with
      |none=>iC (.lp v g s as' l .ready ab u) t b λt=>k (.c (.f (.bool ae))) t n
      |some j=>iC (.lp v g s as' l .done (aa j) u) t b λt=>k (.c (.f (.bool ag))) t n
     |_=>False)) m (aa b) [.code as,.oD,.code bd] r [] t n)
  |_=>False
def bL(tab:TB)(m:Nat)(d:Nat):gA:=
 Nat.rec (motive:=λ_=>gA) (λ_ _ _ _ _=>False)
  (λ_ g c args t n k=>Callee.rec (motive:=λ_=>Prop) (λf=>Bool.rec (motive:=λ_=>Prop) (fnK tab m g f args t n k) (Option.rec (motive:=λ_=>Prop) (Ro args t n k) (λ_=>False) (tab.get gk)) (Nat.beq f gk)) (λb=>P_ m g b args t n k) c) d
theorem Nm(tab:TB)(N:∀args H,tab.get gk=ab->tab.ub gk args H=ub gk args H)(m:Nat):∀g,qZ (eV tab.get tab.ub m g) (bL tab m g):=by
 intro g;induction g with
 |zero=>intro c args H t k h d;exact d.elim
 |succ g J=>
  intro c args H t k h d;cases c with
  |fn f=>
   have d:Bool.rec (motive:=λ_=>Prop) (fnK tab m (bL tab m g) f args t H.length k) (Option.rec (motive:=λ_=>Prop) (Ro args t H.length k) (λ_=>False) (tab.get gk)) (Nat.beq f gk):=d;cases E:Nat.beq f gk with
   |true=>
    rw[E]at d;have L:=agR E;subst L;cases I:tab.get gk with
    |some _=>rw[I]at d;exact d.elim
    |none=>
     rw[I]at d;obtain⟨v,H',K,q,x,y⟩:=Rp h d;exact⟨v,H',K,by simp only[eV,N _ _ I,q],x,y⟩
   |false=>
   rw[E]at d;have M:=Nat.ne_of_beq_eq_false E;obtain⟨af,q,d⟩:=lj (show fnK tab m (bL tab m g) f args t H.length k from d);obtain⟨ps,O,body⟩:=af;obtain⟨x,d⟩:=di d;rw[qS]at d;obtain⟨u,s',K,y,z,d⟩:=G1 J f _ m ab [.code body] _ [] H t h d;obtain⟨H',l,B,s,d⟩:=vD J z d;obtain⟨v,A,d⟩:=CI s d;exact⟨v,H',l,by simp only[eV,tab.ok _ _ q,q,x,if_true,y,B,A];rfl,s,d⟩
  |yield b=>
   obtain⟨bz,q,d⟩:=dW (show P_ m (bL tab m g) b args t H.length k from d);rw[h]at q;have q:H[b]?=aa bz:=q;split at d
   .obtain⟨x,d⟩:=di d;rw[qS]at d;obtain⟨u,s',K,y,z,d⟩:=G1 J _ _ m (aa b) _ _ [] H t h d;obtain⟨B,d⟩:=lM d;obtain⟨blk',s,d⟩:=dW d;rw[z]at s;have s:s'.heap[b]?=aa blk':=s;split at d
    .cases u with
     |none=>
      obtain⟨l,A,F⟩:=et z d;exact⟨_,_,l,by simp only[eV,q,x,if_true,y,B,s];rfl,A,by rw[af7];exact F⟩
     |some j=>
      obtain⟨l,A,F⟩:=et z d;exact⟨_,_,l,by simp only[eV,q,x,if_true,y,B,s];rfl,A,by rw[af7];exact F⟩
    .exact d.elim
   .exact d.elim
def isR(r:V)(v:V)(t:HT)(_:Nat):Prop:=W5 t v λy=>y=r
theorem O5{tab:TB}(s:∀args H,tab.get gk=ab->tab.ub gk args H=ub gk args H){m d f:Nat}{args:List V}{r:V}(h:bL tab m d (.fn f) args .e 0 (isR r)=(r=r)):aX tab f args r:=by
 have h:bL tab m d (.fn f) args .e ([]:aj).length (isR r):=by rw[List.length_nil,h]
 obtain⟨v,H',u,b,g,j⟩:=Nm tab s m d (.fn f) args [] .e (isR r) df.nil h;obtain⟨y,l,q⟩:=Gj g v _ j;exact⟨v,H',⟨m,d,b⟩,by rw[l,q]⟩
end
end Km
