/-
  Our own small machine for Go code by value, held ub ta model: part 2. No program in GK.
-/
import Derived.Test.YtnaofdffomdmhaaGreatK1
import Derived.AtR
import Derived.RangeFuncIn
import Derived.RangeFuncRecord
import Derived.Conc.MuLone
open Option renaming some → aa,none → ab
open Bool renaming true → ae,false → ag
open Nat renaming le_max_left → auG, le_trans → aum, le_max_right → aut, mul_le_mul_right → auO, le_refl → at3, add_mul → auF, lt_or_ge → auK, lt_irrefl → avU, add_zero → avD, mul_eq_zero → avX, zero_add → auH, lt_of_lt_of_le → auE, lt_trichotomy → avi
open Option.some renaming injEq → At
open Prod.mk renaming injEq → at1
open List renaming getElem?_map → auM, length_map → at9, getElem?_toArray → avM, getElem?_cons_zero → avu, getElem?_cons_succ → avJ, length_append → at6, getElem?_eq_some_iff → atu, getElem?_set_ne → aft, getElem?_append_left → anc, length_drop → auf, eq_nil_of_length_eq_zero → aud, drop_zero → au5, ext_getElem? → avs, getElem?_set → avN, getElem?_eq_getElem → asZ, foldl_cons → avt, mem_cons → auc, getElem_mem → at2, getElem?_drop → auj, getElem?_of_mem → auV, drop_eq_nil_iff → av9, drop_eq_getElem_cons → at7, mem_flatMap → avz, mem_append → auh, mem_map → auq, getElem?_take → auD, getElem?_eq_none → avc, getD_eq_getElem?_getD → avB, all_eq_true → aun
open Option renaming map_eq_some_iff → at0, map_some → auP, bind_some → auJ
open Bool renaming and_eq_true → atI, false_eq_true → aub, true_and → auU
open Int renaming natCast_mul → avK, toNat_natCast → aui, mul_comm → avE
set_option linter.unusedVariables false
set_option linter.constructorNameAsVariable false
set_option linter.unusedSimpArgs false
set_option linter.unusedSectionVars false
set_option maxRecDepth 100000
namespace Km
open Go
section
variable{Q:Program}{σ:Nat→FuncId}{X:Wd}
theorem yQ(n:Nat):∀(r c:Nat),Builtin.growBy n r c≤Nat.max c (n+(n+768) / 4)
 | 0,c=>by simp [Builtin.growBy];exact auG _ _
 | r+1,c=>by
  simp only [Builtin.growBy];split
  ·exact auG _ _
  ·rename_i h;refine aum (yQ n r _) ?_;apply Nat.max_le.2;exact⟨aum (by omega) (aut _ _),aut _ _⟩
theorem we{need cap:Nat}(h:cap<need):Builtin.nextslicecap need cap≤2*need+768:=by
 unfold Builtin.nextslicecap;split
 ·omega
 ·split
  ·omega
  ·refine aum (yQ need 4 cap) ?_;apply Nat.max_le.2;omega
theorem Bo(K:SR Q σ X){sz:Nat}{y:V}{u:Value}(v:VR σ X y u){m:Nat}{ys:List C}(h:cV X.H sz y=aa (m,ys)) :
  ∃ F,(Builtin.lenOf u).run Q X.w=.ok m X.w∧(Builtin.firstCells sz m u).run Q X.w=.ok F.toArray X.w∧A2 (CR σ X) ys F∧ys.length=m*sz:=by
 unfold cV at h;split at h
 ·rename_i s;have:=VR.str v;subst this;split at h
  case isFalse=>simp at h
  rename_i q;subst q;simp only [At,at1]at h;obtain⟨rfl,rfl⟩:=h;have g:s.extract 0 s.size=s:=ByteArray.extract_zero_size;refine⟨s.data.toList.map fun b=>.int .u8 b.toNat,by simp [Builtin.lenOf],?_,?_,?_⟩
  ·simp only [Builtin.firstCells,g,Sem.run_pure]
   congr 1
   apply Array.ext';simp
  ·rw [ByteArray.toList_eq];exact⟨by simp,fun i x u E B=>by
    simp only [auM,at0]at E B;obtain⟨c,L,rfl⟩:=E;obtain⟨d,z,rfl⟩:=B;rw [L]at z;cases z;exact cT.int _ _⟩
  ·rw [ByteArray.toList_eq];simp only [at9,Array.length_toList,Nat.mul_one];rfl
 ·rename_i x M;split at h
  ·rename_i l cs A j;simp only [At,at1]at h;obtain⟨rfl,rfl⟩:=h;obtain⟨us,H,I,J⟩:=me K v A j;obtain⟨a,c,rfl⟩:=iQ v A;exact⟨us,by simp [Builtin.lenOf],H,I,J⟩
  ·simp at h
 ·simp at h
structure ap6(Q:Program)(t t' e:TypeId)(sz bytes:Nat):Prop where
 hu:Q.underlying t=aa (.slice e)
 hu':∃ d,Q.underlying t'=aa d∧(∀ k,d≠.int k)
 nY:dA Q e sz=ae
 hby:nu Q e bytes=ae
 pos:0<sz
 zero:∃ i z,Q.info? e=aa i∧i.zero=aa z∧z.cells.size=sz
def sD(base:Option Addr)(k:Nat)(b:List Value):Sem Unit:=match base with
 | some a=>storeCells (a.add k) b| none=>pure ()
theorem jL{t O e:TypeId}{sz bytes:Nat}(j:ap6 Q t O e sz bytes)(W:TypeId){base:Option Addr}{l cap m:Nat}{u:Value}{g:List Value}{w:World}
  (S:(Builtin.lenOf u).run Q w=.ok m w) (Y:(Builtin.firstCells sz m u).run Q w=.ok g.toArray w) :
  (l+m≤cap→(Builtin.append_ #[t,O] W #[.slice base l cap,u]).run Q w =
   ((sD base (l*sz) g).run Q w).andThen fun _ w'=>.ok (.slice base (l+m) cap) w') ∧
  (¬ l+m≤cap→bU (l+m) bytes=ae→∀ os g:List Value,(Builtin.firstCells sz l (.slice base l cap)).run Q w.drew=.ok os.toArray w.drew→(Builtin.firstCells sz m u).run Q w.drew=.ok g.toArray w.drew →
   ∃ nc rest w',l+m≤nc∧(Builtin.append_ #[t,O] W #[.slice base l cap,u]).run Q w=.ok (.slice (aa ⟨w.heap.size,0,ab⟩) (l+m) nc) w' ∧
    dW w w' (.cells (os++g++rest).toArray e)∧rest.length=(nc-(l+m))*sz):=by
 obtain⟨d,U,F⟩:=j.hu';obtain⟨i,z,hi,hz,y⟩:=j.zero;obtain⟨q,s,B⟩:=AH j.hby w;have A:((d matches .int _):Bool)=ag:=by
  cases d with
  | int k=>exact absurd rfl (F k)| _=>rfl
 constructor
 ·intro I;simp only [Builtin.append_,avM];simp [bf j.hu,bf U,dg j.nY,A,S,I,Y];cases base<;>simp [sD]
 ·intro H b os g Z h4;unfold bU at b;simp only [atI,decide_eq_true_eq]at b;have v:q=i:=by
   simp [typeInfo,hi]at s;exact s.symm
  subst v;have J:¬ (Builtin.nextslicecap (l+m) cap*q.bytes>2 ^ 48):=by
   rw [B];have:=we (need:=l+m) (cap:=cap) (by omega);have:=auO bytes this;omega
  let nc:=(Question.appendCap (l+m) cap e).cut (w.tape w.drawn (.appendCap (l+m) cap e))
  have K:l+m≤nc:=by simp [nc,Question.cut]
  refine⟨nc,cE (nc-(l+m)) z.cells.toList,w.drew.alloc (.cells (os++g++cE (nc-(l+m)) z.cells.toList).toArray e),K,?_,⟨rfl,rfl,rfl,rfl⟩,by rw [lD];simp [y]⟩;have E:(choose (.appendCap (l+m) cap e)).run Q w=.ok nc w.drew:=by
   simp [choose,Sem.run,Question.forced,nc]
  have M:Builtin.zeroCells z.cells (nc-(l+m))=(cE (nc-(l+m)) z.cells.toList).toArray:=by
   have:=iS z.cells.toList (nc-(l+m)) (by simp [y];exact j.pos);simpa [Builtin.zeroCells]using this
  have x:¬ (((l+m:Nat):Int)>IntKind.i64.max):=by
   have:IntKind.i64.max=9223372036854775807:=by decide
   rw [this];omega
  have N:∀ w',(zeroValue e).run Q w'=.ok z w':=fun w'=>by simp [zeroValue,typeInfo,hi,hz]
  have L:∀ w',(typeInfo e).run Q w'=.ok q w':=fun w'=>by simp [typeInfo,hi]
  simp only [Builtin.append_,Sem.run_bind,bf j.hu,bf U,dg j.nY,A,Result.andThen_ok,Sem.run_pure,aub,if_false,S,aY H,Sem.run_ite,L,x,false_and,J,E,run_askRoom,Z,
   Bool.not_false,if_true,h4,N,M,newRow,run_newObj,avM,avu,avJ]
  have X:os.toArray++g.toArray++(cE (nc-(l+m)) z.cells.toList).toArray=(os++g++cE (nc-(l+m)) z.cells.toList).toArray:=by simp
  rw [X];rfl
theorem SR.drew(b:SR Q σ X):SR Q σ { X with w:=X.w.drew }∧Ext X.H.length X { X with w:=X.w.drew }:=by
 have d:Ext X.H.length X { X with w:=X.w.drew }:=Ext.one b X.H.length rfl (fun _ _=>Iff.rfl) (fun _ _ _=>rfl) (fun _ _ _ _=>rfl) (fun h=>by omega)
  (fun _ _ _=>rfl) (fun _ _=>rfl) (fun L h=>.inl ⟨L,h,rfl⟩) (at3 _) rfl rfl rfl
 exact⟨SR.step Q σ b d X.H.length (fun _ _=>rfl) (fun _ _=>rfl) (fun _ _ _ _=>rfl) (fun _ _ _ _ _ h=>h) (fun L h=>by
  change X.cB X.H.length=aa L at h;rw [SR.sA b]at h;simp at h) b.fb,d⟩
theorem acD(l:SR Q σ X)(A:X.B≤X.w.heap.size){sz:Nat}(d:0<sz){cs:List C}{us rest:List Value}(h:A2 (CR σ X) cs us){n nc:Nat}(q:cs.length=n*sz)(F:rest.length=(nc-n)*sz)(E:n≤nc)
  {e:TypeId} {w':World} (s:dW X.w w' (.cells (us++rest).toArray e)) :
  ∃ X',X'.w=w'∧X'.H=X.H++[.b5 sz cs 0 0 .loc]∧SR Q σ X'∧Ext X.H.length X X'∧VR σ X' (.c (.sl X.H.length 0 n 0 0 sz)) (.slice (aa ⟨X.w.heap.size,0,ab⟩) n nc)∧X'.B≤X'.w.heap.size:=by
 obtain⟨X',u,j,v,x,y,z⟩:=SR.new l A (.b5 sz cs 0 0 .loc) s nc fun X' H g B _=>⟨rfl,us,rest,by rw [g];exact jv s,A2.ext' σ H h,by
  have:=h.len;rw [at6,F,←this,q,←auF];congr 1;show n+(nc-n)=nc;omega,d,⟨n,q⟩,fun i _ m=>by rw [B]at m;have:=l.fb _ _ m;simp at this⟩
 refine⟨X',u,j,v,x,?_,z⟩;have b:X'.H[X.H.length]?=aa (.b5 sz cs 0 0 .loc):=by rw [j];simp
 simp only [VR,hZ,CR,fj,b];exact⟨at3 _,fun _ _=>⟨_,y,0,by omega,by show 0+n≤nc;omega,by simp⟩,_,_,_,rfl⟩
theorem ur(q:SR Q σ X)(N:X.B≤X.w.heap.size){b sz:Nat}{v cs:List C}{fl ep:Nat}{st:Os}(E:X.H[b]?=aa (.b5 sz v fl ep st)){ys:List C}{us A rest:List Value}(F:A2 (CR σ X) cs us)(J:A2 (CR σ X) ys A)
  (z:0<sz) {n nc:Nat} (I:cs.length+ys.length=n*sz) (U:rest.length=(nc-n)*sz) (S:n≤nc) {e:TypeId} {w':World} (j:dW X.w w' (.cells (us++A++rest).toArray e)) :
  ∃ X',X'.w=w'∧X'.H=X.H.set b (.b5 sz (cs++ys) fl (ep+1) .loc)∧SR Q σ X'∧Ext X.H.length X X'∧VR σ X' (.c (.sl b 0 n 0 (ep+1) sz)) (.slice (aa ⟨X.w.heap.size,0,ab⟩) n nc)∧X'.B≤X'.w.heap.size:=by
 have y:b<X.H.length:=(atu.1 E).1
 let X':Wd:={ X with H:=X.H.set b (.b5 sz (cs++ys) fl (ep+1) .loc),cB:=fun k=>if k=b then aa ⟨X.w.heap.size,nc⟩else X.cB k,w:=w' }
 have g:X'.H[b]?=aa (.b5 sz (cs++ys) fl (ep+1) .loc):=by simp [X',y]
 have l:X'.cB b=aa ⟨X.w.heap.size,nc⟩:=by simp [X']
 have u:Ext X.H.length X X':=Ext.one q b rfl (fun _ _=>Iff.rfl) (fun k O _=>j.Dn O) (fun L i W x=>World.cell?_of_block (j.Dn (q.fb _ _ x)))
  (fun _ bq d=>⟨_,g,by rw [E]at d;simp only [At]at d;subst d;exact⟨rfl,.inr ⟨by omega,rfl,_,l⟩⟩⟩)
  (fun m h _=>by simp [X',aft (Ne.symm h)]) (fun m h=>by simp [X',h]) (fun L h=>by rw [l]at h;simp only [At]at h;subst h;exact .inr (at3 _)) (by show X.w.heap.size≤w'.heap.size;rw [j.size];omega) j.os j.tape j.output
 refine⟨X',rfl,rfl,SR.step Q σ q u b (fun m h=>by simp [X',aft (Ne.symm h)]) (fun m h=>by simp [X',h]) (fun m L _ s=>j.Dn (q.br m L s).2.1) (fun _ _ _ _ _ h=>h) (fun L h=>?_) (fun c i h=>?_),u,?_,?_⟩
 ·rw [l]at h;simp only [At]at h;subst h;refine⟨N,by show X.w.heap.size<w'.heap.size;rw [j.size];omega,⟨_,g,rfl,us++A,rest,jv j,(A2.ext' σ u F).append (A2.ext' σ u J),?_,z,⟨n,by simpa using I⟩,fun i _ x=>?_⟩,fun m B _ s=>?_⟩
  ·have K:=F.len;have M:=J.len;rw [at6,at6,U,←K,←M,I,←auF];congr 1;show n+(nc-n)=nc;omega
  ·have:=q.fb _ _ x;simp at this
  ·have:=(q.br m B s).2.1;show B.c≠X.w.heap.size;omega
 ·have:=q.fb c i h;show c<w'.heap.size;rw [j.size];omega
 ·simp only [VR,hZ,CR,fj,g];exact⟨at3 _,fun _ _=>⟨_,l,0,by omega,by show 0+n≤nc;omega,by simp⟩,_,_,_,rfl⟩
 ·show X.B≤w'.heap.size;rw [j.size];omega
end
section
variable{Q:Program}{σ:Nat→FuncId}{X:Wd}
theorem wu{d:Type}(us rest b:List d)(h:b.length≤rest.length):bp (us++rest) us.length b=us++b++rest.drop b.length:=by
 unfold bp;rw [List.take_left',←List.drop_drop,List.drop_left']
 all_goals rfl
theorem aoF(K:SR Q σ X){b sz:Nat}{cs:List C}{fl ep:Nat}{L:Loc}(y:X.H[b]?=aa (.b5 sz cs fl ep .loc))(x:X.cB b=aa L){ys:List C}{l:List Value}(F:A2 (CR σ X) ys l)(W:fl≤cs.length)
  {n:Nat} (Y:cs.length+ys.length=n*sz) (m:n≤L.cap):∃ X',(storeCells ⟨L.c,cs.length,ab⟩ l).run Q X.w=.ok () X'.w∧X'.H=X.H.set b (.b5 sz (cs++ys) fl (ep+1) .loc)∧SR Q σ X' ∧
   Ext X.H.length X X'∧VR σ X' (.c (.sl b 0 n 0 (ep+1) sz)) (.slice (aa ⟨L.c,0,ab⟩) n L.cap)∧X'.w.heap.size=X.w.heap.size∧X'.B=X.B:=by
 obtain⟨_,_,bq,j,z⟩:=K.br b L x;rw [y]at j;simp only [At]at j;subst j;obtain⟨_,us,rest,A,H,J,S,k,I⟩:=z;have q:b<X.H.length:=(atu.1 y).1;have Z:=F.len;have g:=H.len;have E:n*sz≤L.cap*sz:=auO sz m;have B:l.length≤rest.length:=by simp only [at6]at J;omega
 obtain⟨M,a,c,e,f,v⟩:=eb A l cs.length (by simp;omega);rw [g,wu _ _ _ B]at v;rw [←g]at v;obtain⟨N,O⟩:=SR.adQ K (blk':=.b5 sz (cs++ys) fl (ep+1) .loc) y x M a (fun i U=>by
   have hi:i<fl:=by
    rcases auK i fl with h | h
    ·exact h
    ·exact absurd U (I i h)
   have:=dt v i;rw [g]at this ⊢;rw [this,dt A,List.append_assoc,anc (by omega),anc (by omega)]) c e f
  (fun bq d=>⟨.b5 sz (cs++ys) fl (ep+1) .loc,by simp [q],by rw [y]at d;simp only [At]at d;subst d;exact⟨rfl,.inr ⟨by omega,rfl,L,x⟩⟩⟩)
  (fun u=>⟨rfl,us++l,rest.drop l.length,by rw [g]at v ⊢;exact v,(A2.ext' σ u H).append (A2.ext' σ u F),by simp only [at6,auf]at J ⊢;omega,S,⟨n,by simpa using Y⟩,I⟩)
 refine⟨_,sE A l cs.length (by simp;omega) (A2.one F),rfl,N,O,?_,M,rfl⟩;have s:(X.H.set b (.b5 sz (cs++ys) fl (ep+1) .loc))[b]?=aa (.b5 sz (cs++ys) fl (ep+1) .loc):=by simp [q]
 simp only [VR,hZ,CR,fj,s];exact⟨at3 _,fun _ _=>⟨L,x,0,by omega,by omega,by simp⟩,_,_,_,rfl⟩
theorem Aq{c:Call}{sz bytes:Nat}{x y:Arg}(h:dX Q σ c (.append sz bytes x y)=ae):∃ u v t m e,c.callee=.builtin .append∧c.args=#[u,v]∧c.argTypes=#[t,m]∧mA σ x u=ae∧mA σ y v=ae ∧
  ap6 Q t m e sz bytes:=by
 simp only [dX]at h;split at h
 ·rename_i u v t m B E F;simp only [atI]at h;obtain⟨⟨⟨I,J⟩,l⟩,g⟩:=h;obtain⟨e,H,l⟩:=iB l;simp only [atI,decide_eq_true_eq]at l;obtain⟨⟨⟨s,q⟩,d⟩,j⟩:=l;have A:∃ i z,Q.info? e=aa i∧i.zero=aa z∧z.cells.size=sz:=by
   cases hi:Q.info? e with
   | none=>simp [hi]at j
   | some i=>
    simp only [hi,Option.any_some]at j;cases b:i.zero with
    | none=>simp [b]at j| some z=>simp [b]at j;exact⟨i,z,rfl,b,j⟩
  refine⟨u,v,t,m,e,B,air E,air F,I,J,⟨H,?_,s,q,d,A⟩⟩;split at g
  ·exact⟨_,by assumption,fun k=>by simp⟩
  ·exact⟨_,by assumption,fun k=>by simp⟩
  ·simp at g
 ·simp at h
theorem yv(W:SR Q σ X)(hB:X.B≤X.w.heap.size){a:Act}{aB:T}(hR:RR σ X aB a.tmps){o:Oper}{sz bytes:Nat}{x y:Arg}(hm:dP Q σ o (.append sz bytes x y)=ae){v:V}{H':aj}
  (h:bu aB X.H (.append sz bytes x y)=aa (v,H')):ig Q σ X v H' (execOp a.eval o):=by
 simp only [dP]at hm;split at hm
 ·rename_i c ho;obtain⟨u,v',t,t',e,h1,h2,h3,hx,hy,ht⟩:=Aq hm;have hx:=bT hR hx;have hy:=bT hR hy;simp only [bu]at h;generalize n9:a.eval u=ux at hx;generalize n_:a.eval v'=uy at hy;generalize x.ev aB=vx at hx h;generalize y.ev aB=vy at hy h;have a8:∀(r:Value) (w':World),(Builtin.append_ #[t,t'] o.type #[ux,uy]).run Q X.w=.ok r w'→(execOp a.eval o).run Q X.w=.ok (.value r) w':=by
   intro r w' hr;refine dw ho h1 fun cs=>?_;simp [builtin,h2,h3,n9,n_,hr]
  unfold cG at h;split at h
  ·simp at h
  rename_i m ys f_;rw [aY (by have:=ht.pos;omega)]at h;obtain⟨vs,b9,a_,d9,e_⟩:=Bo W hy f_;obtain⟨Y,i9⟩:=SR.drew W;obtain⟨a7,_,d_,j7,_⟩:=Bo Y (VR.ext' σ i9 hy) f_;have B:A2 (CR σ X) ys a7:=by
   have c_:Ext X.H.length { X with w:=X.w.drew } X:=Ext.one Y X.H.length rfl (fun _ _=>Iff.rfl) (fun _ _ _=>rfl) (fun _ _ _ _=>rfl) (fun h=>absurd h (avU _))
    (fun _ _ _=>rfl) (fun _ _=>rfl) (fun L h=>.inl ⟨L,h,rfl⟩) (at3 _) rfl rfl rfl
   exact A2.ext' σ (X:={ X with w:=X.w.drew }) c_ j7
  have H:∀ {base:Option Addr} {l cap:Nat} {os:List Value} {cs:List C},ux=.slice base l cap→¬ l+m≤cap→bU (l+m) bytes=ae →
    (Builtin.firstCells sz l (.slice base l cap)).run Q X.w.drew=.ok os.toArray X.w.drew→A2 (CR σ X) cs os→cs.length=l*sz →
    ig Q σ X (.c (.sl X.H.length 0 (l+m) 0 0 sz)) (X.H++[.b5 sz (cs++ys) 0 0 .loc]) (execOp a.eval o):=by
   intro base l cap os cs hu i4 d l_ k_ j_;obtain⟨nc,rest,w',J,j,g,K⟩:=(jL ht o.type (base:=base) (l:=l) (cap:=cap) b9 a_).2 i4 d os a7 l_ d_;obtain⟨X',N,I,O,S,U,g6⟩:=acD W hB ht.pos (cs:=cs++ys) (us:=os++a7) (k_.append B) (n:=l+m) (nc:=nc) (by rw [at6,j_,e_,auF]) K J g;exact⟨_,X',.inl (by rw [N];exact a8 _ _ (by rw [hu];exact j)),I,O,U,S,g6⟩
  have A:∀ {base:Option Addr} {l cap:Nat} {X':Wd},ux=.slice base l cap→l+m≤cap→(sD base (l*sz) vs).run Q X.w=.ok () X'.w →
    (execOp a.eval o).run Q X.w=.ok (.value (.slice base (l+m) cap)) X'.w:=by
   intro base l cap X' hu q n8;refine a8 _ _ ?_;rw [hu,(jL ht o.type (base:=base) (l:=l) (cap:=cap) b9 a_).1 q,n8];rfl
  split at h
  ·
   cases (hx:cT σ X.F X.w .aw ux);split at h
   ·rename_i Z;subst Z;simp only [At,at1]at h;obtain⟨rfl,rfl⟩:=h;exact⟨_,X,.inl (A (X':=X) rfl (by omega) rfl),rfl,W,cT.aw,Ext.refl _ _,hB⟩
   ·split at h
    ·rename_i d;simp only [At,at1]at h;obtain⟨rfl,rfl⟩:=h;have:=H (base:=ab) (l:=0) (cap:=0) (os:=[]) (cs:=[]) rfl (by omega) (by simpa using d) (by simp [Builtin.firstCells]) A2.nil (by simp);simpa using this
    ·simp at h
  ·
   cases (hx:cT σ X.F X.w .es ux);rename_i ad;split at h
   ·rename_i Z;subst Z;simp only [At,at1]at h;obtain⟨rfl,rfl⟩:=h;have i7:vs=[]:=aud (by rw [←d9.len,e_];simp);exact⟨_,X,.inl (A (X':=X) rfl (by omega) (by rw [i7];rfl)),rfl,W,cT.es _,Ext.refl _ _,hB⟩
   ·split at h
    ·rename_i d;simp only [At,at1]at h;obtain⟨rfl,rfl⟩:=h;have:=H (base:=aa ad) (l:=0) (cap:=0) (os:=[]) (cs:=[]) rfl (by omega) (by simpa using d) (by simp [Builtin.firstCells,loadCells,loadCellsFrom]) A2.nil (by simp);simpa using this
    ·simp at h
  ·rename_i b off l cap ep s;have i8:CR σ X (.sl b off l cap ep s) ux:=hx;simp only [VR,hZ,CR,fj]at hx;split at h
   ·
    rename_i cs fl F;rw [F]at hx;obtain⟨L,hL,q_,rfl⟩:=hx;split at h
    ·rename_i q;split at h
     ·rename_i hc;simp only [At,at1]at h;obtain⟨rfl,rfl⟩:=h;obtain⟨X',N,I,O,S,U,g6,g7⟩:=Di W F hL d9 hc.1 hc.2;refine⟨_,X',.inl (A rfl q (by simp only [sD,ee];exact N)),I,O,?_,S,by omega⟩;have b_:X'.H[b]?=aa (.box (bp cs (off+l*sz) ys) fl):=by rw [I];simp [(atu.1 F).1]
      simp only [VR,hZ,CR,fj,b_];exact⟨L,by rw [U];exact hL,q,rfl⟩
     ·simp at h
    ·rename_i i4;split at h
     ·rename_i hc;simp only [At,at1]at h;obtain⟨rfl,rfl⟩:=h;have i5:cO X.H sz (.sl b off l cap ep s)=aa ((cs.drop off).take (l*sz)):=by simp [cO,F,hc.2]
      have i6:bA X.H (.sl b off l cap ep s)=aa l:=by simp [bA,F]
      obtain⟨os,q1,q2,q3⟩:=me Y (CR.ext' σ i9 i8) i6 i5;have i_:A2 (CR σ X) ((cs.drop off).take (l*sz)) os:=by
       have c_:Ext X.H.length { X with w:=X.w.drew } X:=Ext.one Y X.H.length rfl (fun _ _=>Iff.rfl) (fun _ _ _=>rfl) (fun _ _ _ _=>rfl) (fun h=>absurd h (avU _))
        (fun _ _ _=>rfl) (fun _ _=>rfl) (fun L h=>.inl ⟨L,h,rfl⟩) (at3 _) rfl rfl rfl
       exact A2.ext' σ (X:={ X with w:=X.w.drew }) c_ q2
      exact H rfl i4 hc.1 q1 i_ q3
     ·simp at h
   ·
    rename_i s' cs fl e' st F;rw [F]at hx;split at h
    ·rename_i hc;obtain⟨rfl,rfl,rfl⟩:=hc;have M:=hx.2.1 rfl rfl;split at h
     ·
      rename_i Z;subst Z;simp only [At,at1]at h;obtain⟨rfl,rfl⟩:=h;have i7:vs=[]:=aud (by rw [←d9.len,e_];simp);obtain⟨base,n,cp,E⟩:=hx.2.2;have m_:n=l∧l≤cp:=by
       cases st with
       | loc=>obtain⟨L,_,k,_,hk,h8⟩:=M;rw [E]at h8;simp only [Value.slice.injEq]at h8;omega
       | nil=>obtain⟨_,rfl,h8⟩:=M;rw [E]at h8;simp only [Value.slice.injEq]at h8;omega
       | es=>obtain⟨_,rfl,_,h8⟩:=M;rw [E]at h8;simp only [Value.slice.injEq]at h8;omega
      obtain⟨rfl,p_⟩:=m_;refine⟨.slice base (n+0) cp,X,.inl (A (X':=X) E (by omega) (by rw [i7];cases base<;>rfl)),rfl,W,?_,Ext.refl _ _,hB⟩;rw [avD,←E];exact i8
     ·rename_i Z;split at h
      ·
       rename_i hc;obtain⟨rfl,z,j4⟩:=hc;split at h
       ·rename_i d;simp only [At,at1]at h;obtain⟨rfl,rfl⟩:=h;have hn:cs.length+ys.length=(l+m)*s:=by rw [e_,←z,auF]
        cases st with
        | loc=>
         obtain⟨L,hL,k,m9,hk,rfl⟩:=M;have j6:k=0:=by
          rcases avX.1 m9.symm with h8 | h8
          ·exact h8
          ·have:=ht.pos;omega
         subst j6;rw [Nat.sub_zero]at *;by_cases q:l+m≤L.cap
         ·obtain⟨X',N,I,O,S,U,g6,g7⟩:=aoF W F hL d9 j4 hn q;exact⟨_,X',.inl (A rfl q (by simp only [sD,ee];rw [z,auH];exact N)),I,O,U,S,by omega⟩
         ·have i5:cO X.H s (.sl b 0 l cap ep s)=aa ((cs.drop 0).take (l*s)):=by simp [cO,F,z]
          have i6:bA X.H (.sl b 0 l cap ep s)=aa l:=by simp [bA,F]
          obtain⟨os,q1,q2,q3⟩:=me Y (CR.ext' σ i9 i8) i6 i5;have i_:A2 (CR σ X) cs os:=by
           have c_:Ext X.H.length { X with w:=X.w.drew } X:=Ext.one Y X.H.length rfl (fun _ _=>Iff.rfl) (fun _ _ _=>rfl) (fun _ _ _ _=>rfl) (fun h=>absurd h (avU _))
            (fun _ _ _=>rfl) (fun _ _=>rfl) (fun L h=>.inl ⟨L,h,rfl⟩) (at3 _) rfl rfl rfl
           have:=A2.ext' σ (X:={ X with w:=X.w.drew }) c_ q2;rwa [au5,z,List.take_length]at this
          obtain⟨nc,rest,w',J,j,g,K⟩:=(jL ht o.type (base:=aa ⟨L.c,0,ab⟩) (l:=l) (cap:=L.cap) b9 a_).2 q d os a7 q1 d_;obtain⟨X',N,I,O,S,U,g6⟩:=ur W hB F i_ B ht.pos hn K J g;exact⟨_,X',.inl (by rw [N];exact a8 _ _ (by simpa using j)),I,O,U,S,g6⟩
        | nil=>
         obtain⟨_,rfl,rfl⟩:=M;have h_:cs=[]:=aud (by simpa using z.symm);subst h_;obtain⟨nc,rest,w',J,j,g,K⟩:=(jL ht o.type (base:=ab) (l:=0) (cap:=0) b9 a_).2 (by omega) d [] a7 (by simp [Builtin.firstCells]) d_;obtain⟨X',N,I,O,S,U,g6⟩:=ur W hB F (us:=[]) A2.nil B ht.pos hn K J g;exact⟨_,X',.inl (by rw [N];exact a8 _ _ j),I,O,U,S,g6⟩
        | es=>
         obtain⟨_,rfl,ad,rfl⟩:=M;have h_:cs=[]:=aud (by simpa using z.symm);subst h_;obtain⟨nc,rest,w',J,j,g,K⟩:=(jL ht o.type (base:=aa ad) (l:=0) (cap:=0) b9 a_).2 (by omega) d [] a7 (by simp [Builtin.firstCells,loadCells,loadCellsFrom]) d_;obtain⟨X',N,I,O,S,U,g6⟩:=ur W hB F (us:=[]) A2.nil B ht.pos hn K J g;exact⟨_,X',.inl (by rw [N];exact a8 _ _ j),I,O,U,S,g6⟩
       ·simp at h
      ·split at h
       ·
        rename_i hc;obtain⟨rfl,j5,m4⟩:=hc;simp only [At,at1]at h;obtain⟨rfl,rfl⟩:=h;obtain⟨L,hL,k,rfl,hk,rfl⟩:=M;obtain⟨_,_,bq,g_,j9⟩:=W.br b L hL;rw [F]at g_;simp only [At]at g_;subst g_;obtain⟨_,us,rest,hr,j8,h6,h7,h8,o_⟩:=j9;have q:l+m≤L.cap-k:=by
         have e1:(k+(l+m))*s≤L.cap*s:=by
          rw [auF,auF];have:=j8.len;simp only [at6]at h6;omega
         have:=Nat.le_of_mul_le_mul_right e1 h7;omega
        obtain⟨X',N,I,O,S,U,g6,g7⟩:=Dj W F hL d9 j5 m4;refine⟨_,X',.inl (A rfl q (by simp only [sD,ee];exact N)),I,O,?_,S,by omega⟩;have b_:X'.H[b]?=aa (.b5 s (bp cs (k*s+l*s) ys) fl ep .loc):=by rw [I];simp [(atu.1 F).1]
        simp only [VR,hZ,CR,fj,b_];exact⟨at3 _,fun _ _=>⟨L,by rw [U];exact hL,k,rfl,by omega,rfl⟩,_,_,_,rfl⟩
       ·simp at h
    ·simp at h
   ·simp at h
  ·simp at h
 ·simp at hm
end
section
variable{Q:Program}{σ:Nat→FuncId}{X:Wd}
theorem Ej{c:Call}{sz bytes:Nat}{zs:List FC}{x y:Arg}(h:dX Q σ c (.lK sz bytes zs x y)=ae):∃ u v t j e k,c.callee=.builtin .append∧c.args=#[u,v]∧c.argTypes=#[t,j]∧mA σ x u=ae∧mA σ y v=ae ∧
  Q.underlying t=aa (.slice e)∧dA Q e sz=ae∧nu Q e bytes=ae∧0<sz∧lE Q e zs=ae∧Q.underlying j=aa (.int k):=by
 simp only [dX]at h;split at h
 ·rename_i u v t j q s z;simp only [atI]at h;obtain⟨⟨⟨E,F⟩,g⟩,d⟩:=h;obtain⟨e,B,g⟩:=iB g;simp only [atI,decide_eq_true_eq]at g;obtain⟨⟨⟨m,l⟩,b⟩,H⟩:=g;split at d
  ·rename_i k A;exact⟨u,v,t,j,e,k,q,air s,air z,E,F,B,m,l,b,H,A⟩
  ·simp at d
 ·simp at h
theorem ad1{n:Nat}(h:n<2 ^ 48):IntKind.i64.wrap (n:Int)=n:=by
 simp only [IntKind.wrap,IntKind.bits,IntKind.signed];have b:(2 ^ 64:Int)=18446744073709551616:=by decide
 have d:(2 ^ (64-1):Int)=9223372036854775808:=by decide
 have g:(2:Nat) ^ 48=281474976710656:=by decide
 simp only [b,d,auU,decide_eq_true_eq];split<;>omega
theorem wL{t Z e:TypeId}{sz bytes:Nat}{k k':IntKind}(c:Q.underlying t=aa (.slice e))(A:Q.underlying Z=aa (.int k))(x:dA Q e sz=ae)(F:nu Q e bytes=ae)(a:0<sz)
  {z:Value} {us:List Value} {i:TypeInfo} (hi:Q.info? e=aa i) (r:i.zero=aa z) (U:z.cells=us.toArray) (N:us.length=sz) (f:TypeId) {base:Option Addr} {n:Nat} {w:World} :
  (n=0→(Builtin.append_ #[t,Z] f #[.slice base 0 0,.int k' (n:Int)]).run Q w=.ok (.slice base 0 0) w) ∧
  (n≠0→bU n bytes=ae→∃ nc rest w',n≤nc∧(Builtin.append_ #[t,Z] f #[.slice base 0 0,.int k' (n:Int)]).run Q w=.ok (.slice (aa ⟨w.heap.size,0,ab⟩) n nc) w' ∧
   dW w w' (.cells (cE n us++rest).toArray e)∧rest.length=(nc-n)*sz):=by
 obtain⟨g,l,s⟩:=AH F w;have u:g=i:=by simp [typeInfo,hi]at l;exact l.symm
 subst u;have y:∀ w',(typeInfo e).run Q w'=.ok g w':=fun w'=>by simp [typeInfo,hi]
 have Y:∀ w',(zeroValue e).run Q w'=.ok z w':=fun w'=>by simp [zeroValue,typeInfo,hi,r]
 have j:∀(q:Int) w',(asInt (.int k' q)).run Q w'=.ok q w':=fun q w'=>by simp [asInt,asIntOf]
 constructor
 ·rintro rfl;have O:IntKind.i64.wrap 0=0:=by decide
  simp only [Builtin.append_,avM];simp [bf c,bf A,dg x,y,j,O];cases base<;>simp [storeCells]
 ·intro hn b;have E:=b;unfold bU at b;simp only [atI,decide_eq_true_eq]at b;have S:=ad1 b.2;have K:¬ (Builtin.nextslicecap n 0*g.bytes>2 ^ 48):=by
   rw [s];have:=we (need:=n) (cap:=0) (by omega);have:=auO bytes this;omega
  let nc:=(Question.appendCap n 0 e).cut (w.tape w.drawn (.appendCap n 0 e))
  have L:n≤nc:=by simp [nc,Question.cut]
  have H:(choose (.appendCap n 0 e)).run Q w=.ok nc w.drew:=by
   simp [choose,Sem.run,Question.forced,nc]
  have X:∀ m,Builtin.zeroCells z.cells m=(cE m us).toArray:=fun m=>by
   have:=iS us m (by omega);simpa [Builtin.zeroCells,U]using this
  have v:¬ ((n:Int)>IntKind.i64.max):=by
   have:IntKind.i64.max=9223372036854775807:=by decide
   have e3:(2:Nat) ^ 48=281474976710656:=by decide
   rw [this];omega
  have I:¬ ((n:Int)<0):=by omega
  have J:¬ ((n:Int)*(g.bytes:Int)>2 ^ 48):=by
   rw [s];have o:n*bytes≤2 ^ 48:=aum (auO bytes (by omega:n≤2*n+768)) b.1;have p:((n*bytes:Nat):Int)≤2 ^ 48:=by
    have B:((2 ^ 48:Nat):Int)=2 ^ 48:=by decide
    rw [←B];exact Int.ofNat_le.2 o
   rw [avK]at p;omega
  have d:(Builtin.firstCells sz 0 (.slice base 0 0)).run Q w.drew=.ok #[] w.drew:=by
   cases base<;>simp [Builtin.firstCells,loadCells,loadCellsFrom]
  have M:¬ (n*sz=0):=by
   intro h;rcases avX.1 h with h | h<;>omega
  refine⟨nc,cE (nc-n) us,w.drew.alloc (.cells (cE n us++cE (nc-n) us).toArray e),L,?_,⟨rfl,rfl,rfl,rfl⟩,by rw [lD,N]⟩;have W:¬ (n≤0):=by omega
  have hint:((n:Int)).toNat=n:=by simp
  simp only [Builtin.append_,Sem.run_bind,bf c,bf A,dg x,Result.andThen_ok,Sem.run_pure,aub,if_false,Sem.run_ite,y,false_and,K,H,run_askRoom,
   Bool.not_true,if_true,Y,X,newRow,run_newObj,avM,avu,avJ,j,S,I,J,hint,auH,W,v,M,d,true_or,and_true,Bool.true_eq]
  have B:#[]++(cE n us).toArray++(cE (nc-n) us).toArray=(cE n us++cE (nc-n) us).toArray:=by simp
  first
   | (rw [B];rfl)
   | (simp [B];rfl)
theorem aiq(U:SR Q σ X)(S:X.B≤X.w.heap.size){a:Act}{aB:T}(hR:RR σ X aB a.tmps){o:Oper}{sz bytes:Nat}{zs:List FC}{x y:Arg}(N:dP Q σ o (.lK sz bytes zs x y)=ae){v:V}{H':aj}
  (h:bu aB X.H (.lK sz bytes zs x y)=aa (v,H')):ig Q σ X v H' (execOp a.eval o):=by
 simp only [dP]at N;split at N
 ·rename_i c ho;obtain⟨u,v',t,t',e,k,h1,h2,h3,J,L,f,F,s,g,hz,W⟩:=Ej N;have J:=bT hR J;have L:=bT hR L;simp only [bu]at h;generalize i:a.eval u=O at J;generalize p:a.eval v'=uy at L;generalize x.ev aB=vx at J h;generalize y.ev aB=vy at L h;have l:∀(r:Value) (w':World),(Builtin.append_ #[t,t'] o.type #[O,uy]).run Q X.w=.ok r w'→(execOp a.eval o).run Q X.w=.ok (.value r) w':=by
   intro r w' hr;refine dw ho h1 fun cs=>?_;simp [builtin,h2,h3,i,p,hr]
  unfold va at h;split at h
  ·rename_i n hn;obtain⟨k',E⟩:=jh L hn;split at h
   ·rename_i hc;obtain⟨z,us,a7,I,M,i0,A,B⟩:=eO (σ:=σ) (X:=X) hz X.w;have H:us.length=sz:=by have:=M.len;simp at this;omega
    obtain⟨m,rfl⟩:∃ m:Nat,n=m:=⟨n.toNat,by omega⟩
    have j:∀ base,O=.slice base 0 0→(v,H')=(.c (.sl X.H.length 0 m 0 0 sz),X.H++[.b5 sz ((cE m zs).map .f) 0 0 .loc])→m≠0→bU m bytes=ae→ig Q σ X v H' (execOp a.eval o):=by
     intro base hb he d b;cases he;obtain⟨nc,rest,w',Y,K,q,Z⟩:=(wL (k':=k') f W F s g A B I H o.type (base:=base) (n:=m)).2 d b;obtain⟨X',g1,g2,g3,g4,g5,g6⟩:=acD U S g (cs:=(cE m zs).map .f) (us:=cE m us) (jO M m) (n:=m) (nc:=nc) (by rw [at9,lD,hc.2]) Z Y q;exact⟨_,X',.inl (by rw [g1];exact l _ _ (by rw [hb,E];exact K)),g2,g3,g5,g4,g6⟩
    split at h
    ·cases (J:cT σ X.F X.w .aw O);simp only [aui]at h;split at h
     ·rename_i d;simp only [At,at1]at h;obtain⟨rfl,rfl⟩:=h;exact⟨_,X,.inl (l _ _ (by rw [E];exact(wL (k':=k') f W F s g A B I H o.type (base:=ab) (n:=m)).1 d)),rfl,U,cT.aw,Ext.refl _ _,S⟩
     ·rename_i d;split at h
      ·rename_i b;simp only [At]at h;exact j ab rfl h.symm d b
      ·simp at h
    ·cases (J:cT σ X.F X.w .es O);rename_i w;simp only [aui]at h;split at h
     ·rename_i d;simp only [At,at1]at h;obtain⟨rfl,rfl⟩:=h;exact⟨_,X,.inl (l _ _ (by rw [E];exact(wL (k':=k') f W F s g A B I H o.type (base:=aa w) (n:=m)).1 d)),rfl,U,cT.es _,Ext.refl _ _,S⟩
     ·rename_i d;split at h
      ·rename_i b;simp only [At]at h;exact j (aa w) rfl h.symm d b
      ·simp at h
    ·simp at h
   ·simp at h
  ·simp at h
 ·simp at N
end
section
variable{Q:Program}{σ:Nat→FuncId}{X:Wd}
theorem aod(s:SR Q σ X)(m:X.B≤X.w.heap.size){a:Act}{aB:T}{o:Oper}{st:Os}{sz:Nat}(d:dP Q σ o (.pre st sz)=ae){v:V}{H':aj}
  (h:bu aB X.H (.pre st sz)=aa (v,H')):ig Q σ X v H' (execOp a.eval o):=by
 cases st with
 | nil=>
  simp only [bu]at h;split at h
  ·simp at h
  ·simp only [At,at1]at h;obtain⟨rfl,rfl⟩:=h;obtain⟨j,l⟩:=SR.grow s (.b5 sz [] 0 0 .nil);have q:VR σ { X with H:=X.H++[.b5 sz [] 0 0 .nil] } (.c (.sl X.H.length 0 0 0 0 sz)) (.slice ab 0 0):=by
    have b:(X.H++[bz.b5 sz [] 0 0 .nil])[X.H.length]?=aa (.b5 sz [] 0 0 .nil):=by simp
    simp only [VR,hZ,CR,fj,b];exact⟨at3 _,fun _ _=>by simp,_,_,_,rfl⟩
   simp only [dP]at d;split at d
   ·rename_i g;exact⟨.slice ab 0 0,_,.inl (by simp [execOp,g,Act.eval]),rfl,j,q,l,m⟩
   ·rename_i g;exact⟨.slice ab 0 0,_,.inl (by simp [execOp,g,Act.eval]),rfl,j,q,l,m⟩
   ·simp at d
 | _=>simp [dP]at d
theorem acA(u:SR Q σ X)(s:X.B≤X.w.heap.size){a:Act}{o:Oper}(b:dP Q σ o .jH=ae):ig Q σ X (.c (.mp X.H.length)) (X.H++[.map []]) (execOp a.eval o):=by
 simp only [dP]at b;split at b
 ·rename_i t v;obtain⟨X',g,d,j,l,m,q⟩:=SR.new u s (.map []) (dW.alloc X.w (.map #[] 0)) 0 fun X' z x y _=>⟨[],by rw [x];exact(dW.alloc _ _).new,A2.nil,by simp⟩
  exact⟨.map (aa X.w.heap.size),X',.inl (by rw [g];simp [execOp,v,Instr.makeMap]),d,j,⟨_,m,⟨[],by rw [d];simp⟩,rfl⟩,l,q⟩
 ·simp at b
theorem acV(E:SR Q σ X)(A:X.B≤X.w.heap.size){a:Act}{aB:T}(B:RR σ X aB a.tmps){o:Oper}{x:Arg}(d:dP Q σ o (.range x)=ae){v:V}{H':aj}
  (h:bu aB X.H (.range x)=aa (v,H')):ig Q σ X v H' (execOp a.eval o):=by
 simp only [dP]at d;split at d
 ·rename_i t y F;simp only [atI]at d;obtain⟨b,j⟩:=d;have b:=bT B b;simp only [bu]at h;split at h
  ·rename_i s H;rw [H]at b;have b:=VR.str b;simp only [At,at1]at h;obtain⟨rfl,rfl⟩:=h;split at j
   ·rename_i I;obtain⟨X',l,g,m,q,u,z⟩:=SR.new E A (.it s 0) (dW.alloc X.w (.stringIter s 0)) 0 fun X' b J K _=>by
     show X'.w.heap[X.w.heap.size]?=_;rw [J];exact(dW.alloc _ _).new
    exact⟨.pointer (aa ⟨X.w.heap.size,0,ab⟩),X',.inl (by rw [l];simp [execOp,F,Instr.range,bf I,b]),g,m,⟨_,u,⟨s,0,by rw [g];simp⟩,rfl⟩,q,z⟩
   ·simp at j
  ·simp at h
 ·simp at d
theorem SR.qG(s:SR Q σ X){b:Nat}{bq blk':bz}{L:Loc}{o o':Obj}(x:X.H[b]?=aa bq)(q:X.cB b=aa L)(ho:X.w.heap[L.c]?=aa o)(m:∀ c e f,o≠.cells c e f)(j:∀ c e f,o'≠.cells c e f)
  (d:mn X { X with H:=X.H.set b blk',w:={ X.w with heap:=X.w.heap.setIfInBounds L.c o' } } b)
  (l:∀ X',Ext X.H.length X X'→X'.w.heap[L.c]?=aa o'→X'.F=X.F→X'.cB=X.cB→X'.H=X.H.set b blk'→BR Q σ X' blk' L) :
  SR Q σ { X with H:=X.H.set b blk',w:={ X.w with heap:=X.w.heap.setIfInBounds L.c o' } }∧Ext X.H.length X { X with H:=X.H.set b blk',w:={ X.w with heap:=X.w.heap.setIfInBounds L.c o' } }:=by
 have g:L.c<X.w.heap.size:=(s.br b L q).2.1;refine SR.adQ s x q (by simp) (fun k y=>by simp [Array.getElem?_setIfInBounds_ne (Ne.symm y)]) (fun i _=>?_) rfl rfl rfl d (fun z=>l _ z (by simp [g]) rfl rfl rfl);have u:({ X.w with heap:=X.w.heap.setIfInBounds L.c o' }:World).cell? ⟨L.c,i,ab⟩=ab:=by
  simp only [World.cell?];rw [show(X.w.heap.setIfInBounds L.c o')[L.c]?=aa o' by simp [g]];cases o'<;>simp at j ⊢
 have v:X.w.cell? ⟨L.c,i,ab⟩=ab:=by
  simp only [World.cell?,ho];cases o<;>simp at m ⊢
 rw [u,v]
theorem ajs(q:SR Q σ X)(A:X.B≤X.w.heap.size){a:Act}{aB:T}(M:RR σ X aB a.tmps){o:Oper}{x:Arg}(m:dP Q σ o (.next x)=ae){v:V}{H':aj}
  (h:bu aB X.H (.next x)=aa (v,H')):ig Q σ X v H' (execOp a.eval o):=by
 simp only [dP]at m;split at m
 ·rename_i y E;have H:=bT M m;simp only [bu]at h;unfold Gt at h;split at h
  ·rename_i b O;rw [O]at H;obtain⟨L,B,⟨U,S,N⟩,F⟩:=H;split at h
   ·rename_i s pos l;obtain⟨_,_,bq,j,u⟩:=q.br b L B;rw [l]at j;simp only [At]at j;subst j;have g:X.w.heap[L.c]?=aa (.stringIter s pos):=u;split at h
    ·rename_i z;simp only [At,at1]at h;obtain⟨rfl,rfl⟩:=h;obtain⟨I,J⟩:=SR.qG (o':=.stringIter s (pos+(Utf8.decode s pos).2)) (blk':=.it s (pos+(Utf8.decode s pos).2)) q l B g (by simp) (by simp)
      (fun bq d=>⟨.it s (pos+(Utf8.decode s pos).2),by simp [(atu.1 l).1],by rw [l]at d;simp only [At]at d;subst d;exact fun L h=>h⟩)
      (fun X' _ K _ _ _=>K)
     refine⟨.tuple #[.bool ae,.int .i64 pos,.int .i32 (Utf8.decode s pos).1],_,.inl ?_,rfl,I,⟨[.bool ae,.int .i64 pos,.int .i32 (Utf8.decode s pos).1],rfl,?_⟩,J,by simpa using A⟩
     ·simp only [execOp,E];refine ef ?_;simp [Instr.next,F,getObj,setObj,Sem.run,g,z,goInt]
     ·exact A2.cons (cT.bool _) (A2.cons (cT.int _ _) (A2.cons (cT.int _ _) A2.nil))
    ·rename_i z;simp only [At,at1]at h;obtain⟨rfl,rfl⟩:=h;refine⟨.tuple #[.bool ag],X,.inl ?_,rfl,q,⟨[.bool ag],rfl,A2.cons (cT.bool _) A2.nil⟩,Ext.refl _ _,A⟩;simp only [execOp,E];refine ef ?_;simp [Instr.next,F,getObj,Sem.run,g,z]
   ·simp at h
  ·simp at h
 ·simp at m
theorem Ck{s:CK}{d:TypeDesc}(z:(s=.int∧∃ j,d=.int j)∨(s=.str∧d=.string)∨(s=.bool∧d=.bool)){F:Nat→Nat→Prop}{w:World}{k:FC}{v:C}{x:Value}(B:cT σ F w k x) :
  ∀ {R:C→Value→Prop} {l g:List (FC × C)} {b:List MapEntry},A2 (fun e m=>cT σ F w e.1 m.key∧R e.2 m.val) l b→∀(i:Nat),qh s k v l=aa g →
  (Instr.findNow d x b i=aa ab∧g=l++[(k,v)])∨∃(j:Nat) (u:Value) (m:MapEntry),Instr.findNow d x b i=aa (aa (i+j,u))∧b[j]?=aa m∧Instr.sameNow d x m.key=aa ae∧g=l.set j (k,v)
 | _,[],g,[],_,i,h=>by
  simp only [qh,At]at h;subst h;exact .inl ⟨rfl,rfl⟩
 | _,[],_,_::_,q,_,_=>by have:=q.len;simp at this
 | _,_::_,_,[],q,_,_=>by have:=q.len;simp at this
 | _,e::l,g,m::b,q,i,h=>by
  obtain⟨⟨H,N⟩,E⟩:=q.of_cons;simp only [qh]at h;split at h
  ·rename_i A;simp only [At]at h;subst h;have:=vr z B H A;exact .inr ⟨0,m.val,m,by simp [Instr.findNow,this],rfl,this,rfl⟩
  ·rename_i A;simp only [at0]at h;obtain⟨I,J,rfl⟩:=h;have:=vr z B H A;rcases Ck z B E (i+1) J with⟨y,rfl⟩ | ⟨j,u,M,y,K,L,rfl⟩
   ·exact .inl ⟨by simp [Instr.findNow,this,y],rfl⟩
   ·exact .inr ⟨j+1,u,M,by simp [Instr.findNow,this,y];omega,by simpa using K,L,rfl⟩
  ·simp at h
theorem CQ{d:TypeDesc}{u v:Value}(h:Instr.sameNow d u v=aa ae)(n:Nat):Instr.sameBits n v u=ae:=by
 unfold Instr.sameNow at h;split at h
 ·split at h
  ·rename_i b;subst b;simp only [At,beq_iff_eq]at h;subst h;simp [Instr.sameBits]
  ·simp at h
 ·simp only [At,beq_toListBytes,beq_iff_eq]at h;simp [Instr.sameBits,beq_toListBytes,h]
 ·simp only [At,beq_iff_eq]at h;subst h;simp [Instr.sameBits]
 ·simp at h
theorem aqj{c:C}{u:Value}(h:VR σ X (mV c) u):hZ σ X (mV c) u:=by
 cases c
 case cl f cs=>
  simp only [mV]at h ⊢;split at h
  ·rename_i b;rw [bg b];exact h
  ·rename_i b;rw [aY b];exact h
 all_goals exact h
theorem acq(hS:SR Q σ X)(hB:X.B≤X.w.heap.size){a:Act}{aB:T}(hR:RR σ X aB a.tmps){o:Oper}{ck:CK}{x y z:Arg}(E:dP Q σ o (.ja ck x y z)=ae){v:V}{H':aj}
  (h:bu aB X.H (.ja ck x y z)=aa (v,H')):ig Q σ X v H' (execOp a.eval o):=by
 simp only [dP]at E;split at E
 ·rename_i t x' M Y ho;simp only [atI]at E;obtain⟨⟨⟨hx,K⟩,W⟩,ht⟩:=E;have hx:=bT hR hx;have K:=bT hR K;have W:=bT hR W;split at ht
  ·rename_i kt e hu;simp only [bu]at h;split at h
   ·rename_i b k vv c_ f_ i4;rw [c_]at hx;rw [f_]at K;rw [←acp i4]at W;have W:hZ σ X (mV vv) (a.eval Y):=aqj W;obtain⟨L,hL,_,b_⟩:=hx;split at h
    ·rename_i es hb;split at h
     ·rename_i a8;simp only [at0,at1]at h;obtain⟨F,hp,rfl,rfl⟩:=h;obtain⟨_,_,bq,N,d_⟩:=hS.br b L hL;rw [hb]at N;simp only [At]at N;subst N;obtain⟨q,I,h2,B⟩:=d_;have go:∀ d,Q.underlying kt=aa d→((ck=.int∧∃ j,d=.int j)∨(ck=.str∧d=.string)∨(ck=.bool∧d=.bool))→ig Q σ X .top (X.H.set b (.map F)) (execOp a.eval o):=by
       intro d A hd;have a7:∀(l:List MapEntry),(Instr.mapUpdate t (a.eval x') (a.eval M) (a.eval Y)).run Q X.w=.ok () { X.w with heap:=X.w.heap.setIfInBounds L.c (.map l.toArray l.length) } →
         A2 (fun(e:FC × C) (m:MapEntry)=>cT σ X.F X.w e.1 m.key∧hZ σ X (mV e.2) m.val) F l→(∀(i:Nat) m,l[i]?=aa m→m.born=i)→ig Q σ X .top (X.H.set b (.map F)) (execOp a.eval o):=by
        intro l b9 hA d9;obtain⟨g1,g2⟩:=SR.qG (o':=.map l.toArray l.length) (blk':=.map F) hS hb hL I (by simp) (by simp)
         (fun bq H=>⟨.map F,by simp [(atu.1 hb).1],by rw [hb]at H;simp only [At]at H;subst H;exact fun L h=>h⟩)
         (fun X' U h1 hF _ _=>⟨l,h1,hA.kI fun e m h=>⟨cT.mono U.F U.fw h.1,hZ.ext' σ U h.2⟩,d9⟩)
        exact⟨undef,_,.inr ⟨by simp [execOp,ho,b9],rfl⟩,rfl,g1,trivial,g2,by simpa using hB⟩
       rcases Ck (R:=fun c u=>hZ σ X (mV c) u) hd K h2 0 hp with⟨J,rfl⟩ | ⟨j,u,m,J,Z,h6,rfl⟩
       ·have O:A2 (fun(e:FC × C) (m:MapEntry)=>cT σ X.F X.w e.1 m.key∧hZ σ X (mV e.2) m.val) [(k,vv)] [({ key:=a.eval M,val:=a.eval Y,born:=q.length }:MapEntry)]:=A2.cons (And.intro K W) A2.nil;refine a7 (q++[{ key:=a.eval M,val:=a.eval Y,born:=q.length }]) ?_ (h2.append O) ?_
        rotate_left
        ·intro i m E;by_cases hi:i<q.length
         ·rw [anc hi]at E;exact B i m E
         ·rw [List.getElem?_append_right (by omega)]at E;have e_:i-q.length=0:=by
           have:=(atu.1 E).1;simp at this;omega
          rw [e_]at E;simp only [avu,At]at E;subst E;simp only;omega
        simp [Instr.mapUpdate,bf hu,b_,getObj,setObj,Sem.run,I,iI ht K a8,Instr.findKey,bf A,J]
       ·rw [auH]at J;refine a7 (q.set j { m with key:=a.eval M,val:=a.eval Y }) ?_ ?_ ?_
        ·have h_:(Instr.keyThatStays m.key (a.eval M)).run Q X.w=.ok (a.eval M) X.w:=by
          simp [Instr.keyThatStays,CQ h6 10000]
         have a_:q.modify j (fun e=>{ e with key:=a.eval M,val:=a.eval Y })=q.set j { m with key:=a.eval M,val:=a.eval Y }:=by
          apply avs;intro i;simp only [List.getElem?_modify,avN];by_cases s:j=i
          ·subst s;have S:=(atu.1 Z).1;have g_:=(atu.1 Z).2;simp [Z,S,g_]
          ·simp [s]
         simp [Instr.mapUpdate,bf hu,b_,getObj,setObj,Sem.run,I,iI ht K a8,Instr.findKey,bf A,J,Z,h_,a_]
        ·refine⟨by simpa using h2.len,fun i e' m' he g=>?_⟩;rw [avN]at he g;split at he
         ·rename_i s;subst s;simp only [if_true]at g;have S:=(atu.1 Z).1;have i5:=h2.len;rw [bg (by omega)]at he;rw [bg S]at g;simp only [At]at he g;subst he;subst g;exact⟨K,W⟩
         ·rename_i s;rw [aY s]at g;exact h2.2 i e' m' he g
        ·intro i m' g;rw [avN]at g;split at g
         ·rename_i s;subst s;split at g
          ·simp only [At]at g;subst g;exact B j m Z
          ·simp at g
         ·exact B i m' g
      rcases lW ht with⟨J,j,A⟩ | ⟨J,A⟩ | ⟨J,A⟩
      ·exact go _ A (.inl ⟨J,j,rfl⟩)
      ·exact go _ A (.inr (.inl ⟨J,rfl⟩))
      ·exact go _ A (.inr (.inr ⟨J,rfl⟩))
     ·simp at h
    ·simp at h
   ·simp at h
  ·simp at ht
 ·simp at E
theorem Cg{c:Call}{sz:Nat}{zs:List FC}{x:Arg}(h:dX Q σ c (.clear sz zs x)=ae):∃ y t e,c.callee=.builtin .clear∧c.args=#[y]∧c.argTypes=#[t]∧mA σ x y=ae∧Q.underlying t=aa (.slice e)∧dA Q e sz=ae∧lE Q e zs=ae:=by
 simp only [dX]at h;split at h
 ·rename_i y t d g j;simp only [atI]at h;obtain⟨m,b⟩:=h;obtain⟨e,l,b⟩:=iB b;simp only [atI]at b;exact⟨y,t,e,d,xu g,xu j,m,l,b.1,b.2⟩
 ·simp at h
theorem abw(hS:SR Q σ X)(hB:X.B≤X.w.heap.size){a:Act}{aB:T}(hR:RR σ X aB a.tmps){o:Oper}{sz:Nat}{zs:List FC}{x:Arg}(I:dP Q σ o (.clear sz zs x)=ae){v:V}{H':aj}
  (h:bu aB X.H (.clear sz zs x)=aa (v,H')):ig Q σ X v H' (execOp a.eval o):=by
 simp only [dP]at I;split at I
 ·rename_i c Y;obtain⟨y,t,e,M,N,O,j,hu,c_,hz⟩:=Cg I;have j:=bT hR j;simp only [bu,at0,at1]at h;obtain⟨H2,d,rfl,rfl⟩:=h;have done:VR σ X (.t []) (.tuple #[]):=⟨[],rfl,A2.nil⟩
  unfold oL at d;split at d
  ·rename_i p hp;rw [hp]at j;split at d
   ·rename_i U;simp only [At]at d;subst d;obtain⟨J,cp,g⟩:=iQ j U;refine⟨.tuple #[],X,.inl (dw Y M fun cs=>?_),rfl,hS,done,Ext.refl _ _,hB⟩;cases J<;>simp [builtin,N,O,Builtin.clear_,bf hu,g]
   ·rename_i l W U;obtain⟨J,cp,g⟩:=iQ j U;split at d
    ·rename_i a_;obtain⟨z,us,E,F,H,_⟩:=eO (σ:=σ) (X:=X) hz X.w;have d9:us.length=zs.length:=by have:=H.len;simp at this;omega
     have u:l≠0:=fun e=>W (by rw [e]);have key:∀(b o' ep:Nat),(∃ q,CR σ X (.ptr b o' ep) (.pointer (aa q))∧J=aa q)→dh X.H (.ptr b o' ep) ((cE l zs).map .f)=aa H2→ig Q σ X (.t []) H2 (execOp a.eval o):=by
      rintro b o' ep ⟨q,hq,rfl⟩ Z;obtain⟨cc,off,X',g1,K,g3,g4,g5,g6,g7⟩:=adC hS hq (jO H l) Z;cases g1;by_cases b_:sz=0
      ·subst b_;have b9:zs=[]:=aud a_;have a7:us=[]:=aud (by omega);subst b9;subst a7;refine⟨.tuple #[],X',.inl (dw Y M fun cs=>?_),g3,g4,⟨[],rfl,A2.nil⟩,g5,by omega⟩;have hr:cE l ([]:List Value)=[]:=by simp [cE]
       rw [hr]at K;simp [builtin,N,O,Builtin.clear_,bf hu,g,u,E,F,Builtin.zeroCells];cases l with
       | zero=>exact absurd rfl u| succ l=>simp [K]
      ·have a8:Builtin.zeroCells z.cells l=(cE l us).toArray:=by
        have:=iS us l (by omega);simpa [Builtin.zeroCells,F]using this
       refine⟨.tuple #[],X',.inl (dw Y M fun cs=>?_),g3,g4,⟨[],rfl,A2.nil⟩,g5,by omega⟩;simp [builtin,N,O,Builtin.clear_,bf hu,g,E,a8];cases l with
       | zero=>exact absurd rfl u| succ l=>simp [K]
     split at d
     ·rename_i b o' l' cap ep s;simp only [VR,hZ,CR,fj]at j;split at d
      ·rename_i cs fl A;rw [A]at j;obtain⟨L,S,_,m⟩:=j;rw [g]at m;simp only [Value.slice.injEq]at m;refine key b o' ep ⟨⟨L.c,o',ab⟩,⟨L,S,by rw [A]⟩,m.1⟩ d
      ·rename_i s' cs fl e' A;split at d
       ·rename_i B;rw [A]at j;obtain⟨L,S,k,_,_,m⟩:=j.2.1 B.1 B.2;rw [g]at m;simp only [Value.slice.injEq]at m;refine key b o' ep ⟨⟨L.c,o',ab⟩,⟨L,S,?_⟩,m.1⟩ d;rw [A];exact⟨j.1,fun _=>rfl,_,rfl⟩
       ·simp at d
      ·simp at d
     ·simp at d
    ·simp at d
   ·simp at d
  ·simp at d
 ·simp at I
theorem Qy(B:SR Q σ X)(S:X.B≤X.w.heap.size){a:Act}{aB:T}(U:RR σ X aB a.tmps){o:Oper}{x:Arg}(l:dP Q σ o (.kE x)=ae){v:V}{H':aj}
  (h:bu aB X.H (.kE x)=aa (v,H')):ig Q σ X v H' (execOp a.eval o):=by
 simp only [dP]at l;split at l
 ·rename_i t y Y;simp only [atI]at l;obtain⟨j,E⟩:=l;have j:=bT U j;simp only [bu]at h;unfold uE at h;split at h
  ·rename_i b c;rw [c]at j;obtain⟨L,A,_,Z⟩:=j;split at h
   ·rename_i u m;split at h
    ·rename_i p;simp only [At,at1]at h;obtain⟨rfl,rfl⟩:=h;obtain⟨_,_,bq,g,q⟩:=B.br b L A;rw [m]at g;simp only [At]at g;subst g;obtain⟨d,H,I,_⟩:=q;split at E
     ·rename_i kt e s;obtain⟨X',J,z,K,M,N,O⟩:=SR.new B S (.xn b u.length ag) (dW.alloc X.w (.mapIter (aa L.c) d.length #[] d.length)) 0 fun X' j f k n=>by
       obtain⟨blk',i,F⟩:=j.cM b (atu.1 m).1 _ m;cases blk'<;>simp only at F;refine⟨L,#[],d.length,F L A,⟨_,i⟩,?_,rfl⟩;rw [I.len,f];exact(dW.alloc _ _).new
      refine⟨.pointer (aa ⟨X.w.heap.size,0,ab⟩),X',.inl ?_,z,K,⟨_,N,⟨b,u.length,ag,by rw [z];simp⟩,rfl⟩,M,O⟩;have W:(getObj L.c).run Q X.w=.ok (.map d.toArray d.length) X.w:=by simp [getObj,Sem.run,H]
      rw [J];simp [execOp,Y,Instr.range,bf s,Z,W]
     ·simp at E
    ·simp at h
   ·simp at h
  ·simp at h
 ·simp at l
theorem acF(s:SR Q σ X)(N:X.B≤X.w.heap.size){a:Act}{aB:T}(p:RR σ X aB a.tmps){o:Oper}{x:Arg}(E:dP Q σ o (.oz x)=ae){v:V}{H':aj}
  (h:bu aB X.H (.oz x)=aa (v,H')):ig Q σ X v H' (execOp a.eval o):=by
 simp only [dP]at E;split at E
 ·rename_i y S;have i:=bT p E;simp only [bu]at h;unfold As at h;split at h
  ·rename_i b r;rw [r]at i;obtain⟨L,f,_,W⟩:=i;split at h
   ·rename_i m c done u;obtain⟨_,_,bq,d,l⟩:=s.br b L f;rw [u]at d;simp only [At]at d;subst d;obtain⟨J,sn,st,M,_,B,q⟩:=l;split at h
    ·rename_i j;obtain⟨_,_,bq,d,l⟩:=s.br m J M;rw [j]at d;simp only [At]at d;subst d;obtain⟨K,F,Z,_⟩:=l;have:K=[]:=aud Z.len.symm;subst this;split at h
     ·simp at h
     ·rename_i z;simp only [At,at1]at h;obtain⟨rfl,rfl⟩:=h;simp only [z,aub,if_false]at q;subst q;refine⟨.tuple #[.bool ag],X,.inl ?_,rfl,s,⟨[.bool ag],rfl,A2.cons (cT.bool _) A2.nil⟩,Ext.refl _ _,N⟩;simp only [execOp,S];refine ef ?_;simp [Instr.next,W,getObj,Sem.run,B,F,Result.andThen,choose,Question.forced]
    ·rename_i e j;obtain⟨H,F,Z,w,k⟩:=Gr s M j;split at h
     ·rename_i z;simp only [At,at1]at h;obtain⟨rfl,rfl⟩:=h;simp only [z,if_true]at q;obtain⟨rfl,rfl⟩:=q;refine⟨.tuple #[.bool ag],X,.inl ?_,rfl,s,⟨[.bool ag],rfl,A2.cons (cT.bool _) A2.nil⟩,Ext.refl _ _,N⟩;simp only [execOp,S];refine ef ?_;simp [Instr.next,W,getObj,Sem.run,B,F,k,Result.andThen,choose,Question.forced]
     ·rename_i z;split at h
      ·rename_i U;subst U;simp only [At,at1]at h;obtain⟨rfl,rfl⟩:=h;simp only [z,aub,if_false]at q;subst q;obtain⟨q1,I⟩:=SR.qG (o':=.mapIter (aa J.c) 1 #[0] 1) (blk':=.xn m 1 ae) s u f B (by simp) (by simp)
        (fun bq g=>⟨.xn m 1 ae,by simp [(atu.1 u).1],by rw [u]at g;simp only [At]at g;subst g;exact⟨⟨rfl,rfl⟩,fun L h=>h⟩⟩)
        (fun X' t Y _ A n=>by
         have O:b≠m:=fun e=>by rw [e,j]at u;cases u
         exact⟨J,#[0],1,by rw [A];exact M,⟨_,by rw [n,aft O];exact j⟩,Y,rfl,rfl⟩)
       refine⟨.tuple #[.bool ae,H.key,H.val],_,.inl ?_,rfl,q1,?_,I,by simpa using N⟩
       ·simp only [execOp,S];refine ef ?_;simp [Instr.next,W,getObj,setObj,Sem.run,B,F,k,Result.andThen,choose,Question.forced]
       ·exact⟨[.bool ae,H.key,H.val],rfl,A2.cons (cT.bool _) (A2.cons (cT.mono I.F I.fw Z) (A2.cons (hZ.ext' σ I w) A2.nil))⟩
      ·simp at h
    ·simp at h
   ·simp at h
  ·simp at h
 ·simp at E
end
section
variable{Q:Program}{σ:Nat→FuncId}{X:Wd}
def dq(a b:bz):Prop:=
 match a with
 | .box cs fl=>(match b with
  | .box cs' d=>cs=cs'∧fl≤d
  | _=>False)
 | .b5 s cs fl e st=>(match b with
  | .b5 s' cs' d j g=>s=s'∧cs=cs'∧fl≤d∧e=j∧st=g
  | _=>False)
 | a=>a=b
theorem dq.refl(a:bz):dq a a:=by cases a<;>simp [dq]
theorem dq.trans{a b c:bz}(h:dq a b)(k:dq b c):dq a c:=by
 cases a<;>cases b<;>simp only [dq,reduceCtorEq]at h<;>cases c<;>simp only [dq,reduceCtorEq]at k ⊢
 ·exact⟨h.1.trans k.1,aum h.2 k.2⟩
 ·exact⟨h.1.trans k.1,h.2.1.trans k.2.1,aum h.2.2.1 k.2.2.1,h.2.2.2.1.trans k.2.2.2.1,h.2.2.2.2.trans k.2.2.2.2⟩
 all_goals exact h.trans k
def gK(H H':aj):Prop:=H.length=H'.length∧∀(b:Nat) bq blk',H[b]?=aa bq→H'[b]?=aa blk'→dq bq blk'
theorem gK.refl(H:aj):gK H H:=⟨rfl,fun b bq blk' h d=>by rw [h]at d;cases d;exact dq.refl _⟩
theorem gK.get{H H':aj}(h:gK H H'){b:Nat}{bq:bz}(g:H[b]?=aa bq):∃ blk',H'[b]?=aa blk'∧dq bq blk':=by
 have j:=(atu.1 g).1;have d:b<H'.length:=by have:=h.1;omega
 exact⟨_,asZ d,h.2 b _ _ g (asZ d)⟩
theorem gK.trans{A B C:aj}(h:gK A B)(k:gK B C):gK A C:=
 ⟨h.1.trans k.1,fun b x z d g=>by obtain⟨y,hy,h1⟩:=h.get d;exact h1.trans (k.2 b y z hy g)⟩
theorem gK.none{H H':aj}(h:gK H H'){b:Nat}(d:H[b]?=ab):H'[b]?=ab:=by
 rw [List.getElem?_eq_none_iff]at d ⊢;have:=h.1;omega
theorem gK.set{H:aj}{b:Nat}{bq blk':bz}(g:H[b]?=aa bq)(h:dq bq blk'):gK H (H.set b blk'):=by
 have j:=(atu.1 g).1;refine⟨by simp,fun i x y d hy=>?_⟩;by_cases hi:i=b
 ·subst hi;simp only [avN,if_true,j]at hy;rw [g]at d;cases d;cases hy;exact h
 ·rw [aft (Ne.symm hi)]at hy;rw [d]at hy;cases hy;exact dq.refl _
theorem gK.foldl{f:aj→C→aj}(b:∀ H x,gK H (f H x)):∀(xs:List C) (H:aj),gK H (xs.foldl f H)
 | [],H=>gK.refl H| x::xs,H=>(b H x).trans (gK.foldl b xs (f H x))
theorem kz:∀(n:Nat) (x:C) (H:aj),gK H (gD n x H)
 | n,.f _,H=>by cases n<;>exact gK.refl H
 | 0,.ptr _ _ _,H=>gK.refl H| 0,.sl _ _ _ _ _ _,H=>gK.refl H| 0,.cl _ _,H=>gK.refl H| 0,.yl _,H=>gK.refl H| 0,.mp _,H=>gK.refl H| 0,.it _,H=>gK.refl H| 0,.bm _ _,H=>gK.refl H| 0,.mi _,H=>gK.refl H
 | n+1,.ptr b off ep,H=>by
  simp only [gD];split
  ·rename_i cs fl d;exact(gK.set d (by exact⟨rfl,auG _ _⟩)).trans (gK.foldl (fun H x=>kz n x H) _ _)
  ·exact gK.refl H
 | n+1,.sl b o l c ep sz,H=>by
  simp only [gD];split
  ·rename_i cs fl d;exact(gK.set d (by exact⟨rfl,auG _ _⟩)).trans (gK.foldl (fun H x=>kz n x H) _ _)
  ·rename_i s cs fl e st d;exact(gK.set d (by exact⟨rfl,rfl,auG _ _,rfl,rfl⟩)).trans (gK.foldl (fun H x=>kz n x H) _ _)
  ·exact gK.refl H
 | n+1,.cl f g,H=>gK.foldl (fun H x=>kz n x H) _ _
 | n+1,.yl _,H=>gK.refl H| n+1,.mp _,H=>gK.refl H| n+1,.it _,H=>gK.refl H| n+1,.bm _ _,H=>gK.refl H| n+1,.mi _,H=>gK.refl H
theorem fg{b j:Type}{f g:b→Option j}:∀ {xs:List b},(∀ x ∈ xs,f x=g x)→bj f xs=bj g xs
 | [],_=>rfl| x::xs,h=>by rw [bj,bj,h x (by simp),fg (xs:=xs) (fun y d=>h y (List.mem_cons_of_mem _ d))]
theorem mQ:∀(n:Nat) {H H':aj},gK H H'→∀(x:C),ek n H' x=ek n H x
 | n,H,H',h,.f _=>by cases n<;>rfl
 | 0,H,H',h,.ptr _ _ _=>rfl| 0,H,H',h,.sl _ _ _ _ _ _=>rfl| 0,H,H',h,.cl _ _=>rfl| 0,H,H',h,.yl _=>rfl| 0,H,H',h,.mp _=>rfl| 0,H,H',h,.it _=>rfl| 0,H,H',h,.bm _ _=>rfl| 0,H,H',h,.mi _=>rfl
 | n+1,H,H',h,.ptr b off ep=>by
  simp only [ek];cases m:H[b]? with
  | none=>rw [h.none m]
  | some bq=>
   obtain⟨blk',d,j⟩:=h.get m;rw [d];cases bq<;>cases blk'<;>simp only [dq,reduceCtorEq]at j
   ·obtain⟨rfl,_⟩:=j;simp only [fg (g:=ek n H) fun x _=>mQ n h x]
   all_goals rfl
 | n+1,H,H',h,.sl b o l c ep sz=>by
  simp only [ek];cases m:H[b]? with
  | none=>rw [h.none m]
  | some bq=>
   obtain⟨blk',d,j⟩:=h.get m;rw [d];cases bq<;>cases blk'<;>simp only [dq,reduceCtorEq]at j
   ·obtain⟨rfl,_⟩:=j;simp only [fg (g:=ek n H) fun x _=>mQ n h x]
   ·obtain⟨rfl,rfl,s,rfl,rfl⟩:=j;clear s;rename_i st _;cases st<;>simp only [fg (g:=ek n H) fun x _=>mQ n h x]
   all_goals rfl
 | n+1,H,H',h,.cl f q=>by simp only [ek,fg (g:=ek n H) fun x _=>mQ n h x]
 | n+1,H,H',h,.yl _=>rfl| n+1,H,H',h,.mp _=>rfl| n+1,H,H',h,.it _=>rfl| n+1,H,H',h,.bm _ _=>rfl| n+1,H,H',h,.mi _=>rfl
def dL:Nat→aj→C→Prop
 | _,_,.f _=>True| 0,_,_=>True| n+1,H,.ptr b _ _=>∀ cs fl,H[b]?=aa (.box cs fl)→cs.length≤fl∧∀ x ∈ cs,dL n H x
 | n+1,H,.sl b o l _ _ sz=>∀ bq,H[b]?=aa bq→match bq with
  | .box cs fl=>o+l*sz≤fl∧∀ x ∈ (cs.drop o).take (l*sz),dL n H x| .b5 _ cs fl _ .loc=>o+l*sz≤fl∧∀ x ∈ (cs.drop o).take (l*sz),dL n H x| _=>True
 | n+1,H,.cl _ d=>∀ x ∈ d,dL n H x| _,_,_=>True
theorem dL.le:∀(n:Nat) {H H':aj},gK H H'→∀ {x:C},dL n H x→dL n H' x
 | n,H,H',h,.f _,_=>by cases n<;>trivial
 | 0,H,H',h,.ptr _ _ _,_=>trivial| 0,H,H',h,.sl _ _ _ _ _ _,_=>trivial| 0,H,H',h,.cl _ _,_=>trivial| 0,H,H',h,.yl _,_=>trivial| 0,H,H',h,.mp _,_=>trivial| 0,H,H',h,.it _,_=>trivial| 0,H,H',h,.bm _ _,_=>trivial| 0,H,H',h,.mi _,_=>trivial
 | n+1,H,H',h,.ptr b off ep,v=>by
  intro cs fl m;have y:=(atu.1 m).1;have s:b<H.length:=by have:=h.1;omega
  have d:=h.2 b _ _ (asZ s) m;cases g:H[b]<;>rw [g]at d<;>simp only [dq,reduceCtorEq]at d;obtain⟨rfl,q⟩:=d;obtain⟨h1,h2⟩:=v _ _ (by rw [asZ s,g]);exact⟨aum h1 q,fun x u=>dL.le n h (h2 x u)⟩
 | n+1,H,H',h,.sl b o l c ep sz,v=>by
  intro blk' m;have y:=(atu.1 m).1;have s:b<H.length:=by have:=h.1;omega
  have d:=h.2 b _ _ (asZ s) m;have j:=v _ (asZ s);cases g:H[b]<;>rw [g]at d j<;>cases blk'<;>simp only [dq,reduceCtorEq]at d<;>try simp only
  ·obtain⟨rfl,q⟩:=d;exact⟨aum j.1 q,fun x u=>dL.le n h (j.2 x u)⟩
  ·obtain⟨rfl,rfl,q,rfl,rfl⟩:=d;rename_i st _;cases st<;>simp only at j ⊢;exact⟨aum j.1 q,fun x u=>dL.le n h (j.2 x u)⟩
 | n+1,H,H',h,.cl f z,v=>fun x u=>dL.le n h (v x u)
 | n+1,H,H',h,.yl _,_=>trivial| n+1,H,H',h,.mp _,_=>trivial| n+1,H,H',h,.it _,_=>trivial| n+1,H,H',h,.bm _ _,_=>trivial| n+1,H,H',h,.mi _,_=>trivial
theorem ft{n:Nat}(b:∀(x:C) (H:aj),dL n (gD n x H) x):∀(xs:List C) (H:aj),∀ x ∈ xs,dL n (xs.foldl (fun H x=>gD n x H) H) x
 | y::ys,H,x,d=>by
  simp only [avt];rcases auc.1 d with rfl | d
  ·exact dL.le n (gK.foldl (fun H x=>kz n x H) ys _) (b x H)
  ·exact ft b ys _ x d
theorem im:∀(n:Nat) (x:C) (H:aj),dL n (gD n x H) x
 | n,.f _,H=>by cases n<;>trivial
 | 0,.ptr _ _ _,H=>trivial| 0,.sl _ _ _ _ _ _,H=>trivial| 0,.cl _ _,H=>trivial| 0,.yl _,H=>trivial| 0,.mp _,H=>trivial| 0,.it _,H=>trivial| 0,.bm _ _,H=>trivial| 0,.mi _,H=>trivial
 | n+1,.ptr b off ep,H=>by
  simp only [gD];cases u:H[b]? with
  | none=>intro cs fl h;exfalso;simp only at h;exact absurd (u.symm.trans h) (by simp)
  | some bq=>
   cases bq with
   | box d g=>
    intro cs fl h;have s:=(atu.1 u).1;simp only at h ⊢;have z:=gK.foldl (fun H x=>kz n x H) d (H.set b (.box d (Nat.max g d.length)));obtain⟨blk',j,m⟩:=z.get (b:=b) (bq:=.box d (Nat.max g d.length)) (by simp [s]);rw [h]at j;cases j;obtain⟨rfl,q⟩:=m;exact⟨aum (aut _ _) q,fun x v=>ft (fun x H=>im n x H) _ _ x v⟩
   | _=>intro cs fl h;simp only at h;rw [u]at h;cases h
 | n+1,.sl b o l c ep sz,H=>by
  simp only [gD];cases u:H[b]? with
  | none=>intro bq h;exfalso;simp only at h;exact absurd (u.symm.trans h) (by simp)
  | some bq=>
   have s:=(atu.1 u).1;cases bq with
   | box d g=>
    intro bq h;simp only at h ⊢;have z:=gK.foldl (fun H x=>kz n x H) ((d.drop o).take (l*sz)) (H.set b (.box d (Nat.max g (o+l*sz))));obtain⟨blk',j,m⟩:=z.get (b:=b) (bq:=.box d (Nat.max g (o+l*sz))) (by simp [s]);rw [h]at j;cases j;cases bq<;>simp only [dq,reduceCtorEq]at m;obtain⟨rfl,q⟩:=m;exact⟨aum (aut _ _) q,fun x v=>ft (fun x H=>im n x H) _ _ x v⟩
   | b5 E d g B y=>
    intro bq h;simp only at h ⊢;have z:=gK.foldl (fun H x=>kz n x H) ((d.drop o).take (l*sz)) (H.set b (.b5 E d (Nat.max g (o+l*sz)) B y));obtain⟨blk',j,m⟩:=z.get (b:=b) (bq:=.b5 E d (Nat.max g (o+l*sz)) B y) (by simp [s]);rw [h]at j;cases j;cases bq<;>simp only [dq,reduceCtorEq]at m;obtain⟨rfl,rfl,q,rfl,rfl⟩:=m;cases y<;>simp only;exact⟨aum (aut _ _) q,fun x v=>ft (fun x H=>im n x H) _ _ x v⟩
   | _=>intro bq h;simp only at h;rw [u]at h;cases h;simp
 | n+1,.cl f A,H=>fun x v=>ft (fun x H=>im n x H) _ _ x v
 | n+1,.yl _,H=>trivial| n+1,.mp _,H=>trivial| n+1,.it _,H=>trivial| n+1,.bm _ _,H=>trivial| n+1,.mi _,H=>trivial
end
section
variable{Q:Program}{σ:Nat→FuncId}{X:Wd}
def di(H H':aj):Prop:=∀(b:Nat) bq,H[b]?=aa bq→∃ blk',H'[b]?=aa blk'∧dq bq blk'
theorem di.refl(H:aj):di H H:=fun _ bq h=>⟨bq,h,dq.refl _⟩
theorem di.trans{A B C:aj}(h:di A B)(k:di B C):di A C:=fun b x d=>by
 obtain⟨y,hy,h1⟩:=h b x d;obtain⟨z,g,h2⟩:=k b y hy;exact⟨z,g,h1.trans h2⟩
theorem gK.ext{H H':aj}(h:gK H H'):di H H':=fun _ _ b=>h.get b
theorem di.append(H H':aj):di H (H++H'):=fun b bq d=>⟨bq,by rw [anc (atu.1 d).1];exact d,dq.refl _⟩
theorem di.len{H H':aj}(h:di H H'):H.length≤H'.length:=by
 rcases auK H'.length H.length with d | b
 ·obtain⟨y,hy,_⟩:=h H'.length _ (asZ d);have:=(atu.1 hy).1;omega
 ·exact b
theorem SR.ahead(g:SR Q σ X){H':aj}(h:di X.H H'):SR Q σ { X with H:=H' }∧Ext X.H.length X { X with H:=H' }:=by
 have q:Ext X.H.length X { X with H:=H' }:=
  {B:=rfl,F:=fun _ _ h=>h,pz:=fun _ _ h=>.inl h,fw:=fun _ _ _=>rfl
   cM:=fun b _ bq j=>by
    obtain⟨blk',l,d⟩:=h b bq j;refine⟨blk',l,?_⟩;cases bq<;>cases blk'<;>simp only [dq,reduceCtorEq]at d<;>simp_all
   yT:=fun b L h=>.inl ⟨b,L,h,rfl⟩,size:=at3 _,os:=rfl,tape:=rfl,output:=rfl,frame:=fun _ _ _=>rfl }
 refine⟨⟨fun b L j=>?_,g.inj,g.fb⟩,q⟩;obtain⟨h1,h2,bq,h3,h4⟩:=g.br b L j;obtain⟨blk',h5,h6⟩:=h b bq h3;refine⟨h1,h2,blk',h5,?_⟩;have h7:BR Q σ { X with H:=H' } bq L:=BR.ext Q σ q rfl (fun _ h=>h) h4;cases bq<;>cases blk'<;>simp only [dq,reduceCtorEq]at h6
 ·obtain⟨rfl,d⟩:=h6;obtain⟨us,g1,g2,g3⟩:=h7;exact⟨us,g1,g2,fun i hi=>g3 i (aum d hi)⟩
 ·obtain⟨rfl,rfl,d,rfl,rfl⟩:=h6;obtain⟨m,us,rest,g1,g2,g3,g4,g5,g6⟩:=h7;exact⟨m,us,rest,g1,g2,g3,g4,g5,fun i hi=>g6 i (aum d hi)⟩
 all_goals (rw [←h6];exact h7)
def Ad:bz→Nat→Prop
 | .box cs fl,i=>i<fl∧i<cs.length| .b5 _ cs fl _ _,i=>i<fl∧i<cs.length| _,_=>False
def FL(X:Wd):Prop:=∀ b L i bq,X.cB b=aa L→X.H[b]?=aa bq→Ad bq i→X.F L.c i
def Wd.flag(X:Wd):Wd:={ X with F:=fun c i=>X.F c i∨∃ b L bq,X.cB b=aa L∧L.c=c∧X.H[b]?=aa bq∧Ad bq i }
theorem SR.flag(j:SR Q σ X):SR Q σ X.flag∧Ext X.H.length X X.flag∧FL X.flag:=by
 have g:Ext X.H.length X X.flag:=
  {B:=rfl,F:=fun _ _ h=>.inl h
   pz:=fun c i h=>by
    rcases h with h | ⟨b,L,bq,h1,h2,_⟩
    ·exact .inl h
    ·exact .inr (.inr ⟨b,L,h1,h2⟩)
   fw:=fun _ _ _=>rfl
   cM:=fun b _=>by
    intro bq l;refine⟨bq,l,?_⟩;cases bq<;>simp [Wd.flag]
   yT:=fun b L h=>.inl ⟨b,L,h,rfl⟩,size:=at3 _,os:=rfl,tape:=rfl,output:=rfl,frame:=fun _ _ _=>rfl }
 refine⟨⟨fun b L l=>?_,j.inj,fun c i h=>?_⟩,g,fun b L i bq h1 h2 h3=>.inr ⟨b,L,bq,h1,rfl,h2,h3⟩⟩
 ·obtain⟨h1,h2,bq,h3,h4⟩:=j.br b L l;refine⟨h1,h2,bq,h3,?_⟩;have key:∀ i,X.flag.F L.c i→X.F L.c i∨Ad bq i:=by
   rintro i (h | ⟨x,y,blk',g1,g2,g3,g4⟩)
   ·exact .inl h
   ·have:x=b:=j.inj _ _ _ _ g1 l g2;subst this;rw [h3]at g3;cases g3;exact .inr g4
  cases bq with
  | box cs fl=>
   obtain⟨us,g1,g2,g3⟩:=h4;exact⟨us,g1,A2.ext' σ g g2,fun i hi u=>(key i u).elim (g3 i hi) fun h=>by have:=h.1;omega⟩
  | b5 sz cs fl ep st=>
   obtain⟨v,us,rest,g1,g2,g3,g4,g5,g6⟩:=h4;exact⟨v,us,rest,g1,A2.ext' σ g g2,g3,g4,g5,fun i hi u=>(key i u).elim (g6 i hi) fun h=>by have:=h.1;omega⟩
  | map es=>exact BR.ext Q σ g rfl (fun i h=>(key i h).elim id False.elim) h4
  | it s p=>exact BR.ext Q σ g rfl (fun i h=>(key i h).elim id False.elim) h4
  | eZ b=>exact BR.ext Q σ g rfl (fun i h=>(key i h).elim id False.elim) h4
  | xn m s d=>exact BR.ext Q σ g rfl (fun i h=>(key i h).elim id False.elim) h4
  | lp f t p a c st q d=>exact BR.ext Q σ g rfl (fun i h=>(key i h).elim id False.elim) h4
 ·rcases h with h | ⟨b,L,bq,h1,h2,_⟩
  ·exact j.fb c i h
  ·rw [←h2];exact(j.br b L h1).2.1
theorem fY{d g:Type}{f:d→Option g}:∀ {xs:List d} {ys:List g},bj f xs=aa ys→A2 (fun x y=>f x=aa y) xs ys
 | [],ys,h=>by simp only [bj,At]at h;subst h;exact A2.nil
 | x::xs,ys,h=>by
  simp only [bj]at h;split at h
  ·simp at h
  ·rename_i y j;split at h
   ·simp at h
   ·rename_i l b;simp only [At]at h;subst h;exact A2.cons j (fY b)
theorem frz(hS:SR Q σ X)(hF:FL X){H:aj}(W:di H X.H):∀(n:Nat) {x:C} {y:FC} {v:Value},ek n H x=aa y→dL n H x→CR σ X x v→cT σ X.F X.w y v
 | n,.f x,y,v,d,_,B=>by
  have:ek n H (.f x)=aa x:=by cases n<;>rfl
  rw [this]at d;cases d;exact B
 | 0,.ptr _ _ _,y,v,d,_,_=>by simp [ek]at d
 | 0,.sl _ _ _ _ _ _,y,v,d,_,_=>by simp [ek]at d
 | 0,.cl _ _,y,v,d,_,_=>by simp [ek]at d
 | 0,.yl _,y,v,d,_,_=>by simp [ek]at d
 | 0,.mp _,y,v,d,_,_=>by simp [ek]at d
 | 0,.it _,y,v,d,_,_=>by simp [ek]at d
 | 0,.bm _ _,y,v,d,_,_=>by simp [ek]at d
 | 0,.mi _,y,v,d,_,_=>by simp [ek]at d
 | n+1,.ptr b off ep,y,v,d,hm,B=>by
  simp only [ek]at d;split at d
  ·rename_i cs fl K;simp only [at0]at d;obtain⟨ys,g,rfl⟩:=d;obtain⟨N,I⟩:=hm cs fl K;obtain⟨blk',m,j⟩:=W b _ K;cases blk'<;>simp only [dq,reduceCtorEq]at j;obtain⟨rfl,j⟩:=j;rename_i U;obtain⟨L,S,B⟩:=B;simp only [m]at B;subst B;obtain⟨_,_,bq,E,M⟩:=hS.br b L S;rw [m]at E;cases E;obtain⟨us,A,z,_⟩:=M;have g:=fY g;have:=cT.fp (σ:=σ) (F:=X.F) (w:=X.w) ys off L.c 0 us (by rw [←z.len,g.len])
    (fun i hi=>by rw [auH];exact hF b L i _ S m ⟨by have:=g.len;omega,by have:=g.len;omega⟩)
    (fun i u O=>by rw [auH,dt A];exact O)
    (fun i y u Z O=>by
     have hi:i<cs.length:=by rw [g.len];exact(atu.1 Z).1
     have Y:=asZ hi;exact frz hS hF W n (g.2 i _ _ Y Z) (I _ (at2 hi)) (z.2 i _ _ Y O))
   rw [auH]at this;exact this
  ·simp at d
 | n+1,.sl b o l c ep sz,y,v,d,hm,B=>by
  have key:∀(cs:List C) (fl:Nat) (blk':bz) (L:Loc) (us rest:List Value) (ys:List FC) (cap:Nat),o+l*sz≤cs.length→o+l*sz≤fl →
    (∀ i,i<fl→i<cs.length→Ad blk' i)→X.H[b]?=aa blk'→X.cB b=aa L→rowAt X.w L.c (us++rest)→A2 (CR σ X) cs us →
    (∀ x ∈ (cs.drop o).take (l*sz),dL n H x)→bj (ek n H) ((cs.drop o).take (l*sz))=aa ys→l≤cap→cT σ X.F X.w (.fs ys l) (.slice (aa ⟨L.c,o,ab⟩) l cap):=by
   intro cs fl blk' L us rest ys cap q N a7 m S A z I g J;have g:=fY g;have b_:=z.len;have b9:ys.length=l*sz:=by rw [←g.len];simp;omega
   have a_:=(z.drop o).take (l*sz);refine .fs ys l L.c o cap ((us.drop o).take (l*sz)) J (by rw [b9];simp;omega) (fun i hi=>hF b L _ _ S m (a7 _ (by omega) (by omega))) (fun i u O=>?_) (fun i y u Z O=>?_)
   ·have hi:i<l*sz:=by
     have:=(atu.1 O).1;simp at this;omega
    rw [dt A,anc (by omega)];rw [List.getElem?_take_of_lt hi,auj]at O;exact O
   ·have hi:i<((cs.drop o).take (l*sz)).length:=by rw [g.len];exact(atu.1 Z).1
    have Y:=asZ hi;exact frz hS hF W n (g.2 i _ _ Y Z) (I _ (at2 hi)) (a_.2 i _ _ Y O)
  simp only [ek]at d;simp only [CR,fj]at B;split at d
  ·rename_i cs fl K;split at d
   ·rename_i q;simp only [at0]at d;obtain⟨ys,g,rfl⟩:=d;obtain⟨N,I⟩:=hm _ K;obtain⟨blk',m,j⟩:=W b _ K;cases blk'<;>simp only [dq,reduceCtorEq]at j;obtain⟨rfl,j⟩:=j;rename_i U;simp only [m]at B;obtain⟨L,S,J,rfl⟩:=B;obtain⟨_,_,bq,E,M⟩:=hS.br b L S;rw [m]at E;cases E;obtain⟨us,A,z,_⟩:=M;exact key cs fl (.box cs U) L us [] ys c q N (fun i h1 h2=>⟨by omega,h2⟩) m S (by simpa using A) z I g J
   ·simp at d
  ·rename_i s cs fl e K;split at d
   ·rename_i q;obtain⟨rfl,rfl,q⟩:=q;simp only [at0]at d;obtain⟨ys,g,rfl⟩:=d;obtain⟨N,I⟩:=hm _ K;obtain⟨blk',m,j⟩:=W b _ K;cases blk'<;>simp only [dq,reduceCtorEq]at j;obtain⟨rfl,rfl,j,rfl,rfl⟩:=j;rename_i U;simp only [m]at B;obtain⟨L,S,k,ho,J,rfl⟩:=B.2.1 trivial trivial;obtain⟨_,_,bq,E,M⟩:=hS.br b L S;rw [m]at E;cases E;obtain⟨_,us,rest,A,z,_⟩:=M;exact key cs fl (.b5 sz cs U ep .loc) L us rest ys _ q N (fun i h1 h2=>⟨by omega,h2⟩) m S A z I g (by omega)
   ·simp at d
  ·rename_i s cs fl e K;split at d
   ·rename_i q;obtain⟨rfl,rfl⟩:=q;cases d;obtain⟨blk',m,j⟩:=W b _ K;cases blk'<;>simp only [dq,reduceCtorEq]at j;obtain⟨rfl,rfl,j,rfl,rfl⟩:=j;simp only [m]at B;obtain⟨_,_,rfl⟩:=B.2.1 trivial trivial;exact .aw
   ·simp at d
  ·rename_i s cs fl e K;split at d
   ·rename_i q;obtain⟨rfl,rfl⟩:=q;cases d;obtain⟨blk',m,j⟩:=W b _ K;cases blk'<;>simp only [dq,reduceCtorEq]at j;obtain⟨rfl,rfl,j,rfl,rfl⟩:=j;simp only [m]at B;obtain⟨_,_,a,rfl⟩:=B.2.1 trivial trivial;exact .es a
   ·simp at d
  ·simp at d
 | n+1,.cl f a8,y,v,d,hm,B=>by
  simp only [ek,at0]at d;obtain⟨ys,g,rfl⟩:=d;obtain⟨us,rfl,z⟩:=B;have g:=fY g;refine .fn f ys us (by rw [←z.len,g.len]) fun i y u Z O=>?_;have hi:i<a8.length:=by rw [g.len];exact(atu.1 Z).1
  have Y:=asZ hi;exact frz hS hF W n (g.2 i _ _ Y Z) (hm _ (at2 hi)) (CR.of1 σ (z.2 i _ _ Y O))
 | n+1,.yl _,y,v,d,_,_=>by simp [ek]at d
 | n+1,.mp _,y,v,d,_,_=>by simp [ek]at d
 | n+1,.it _,y,v,d,_,_=>by simp [ek]at d
 | n+1,.bm _ _,y,v,d,_,_=>by simp [ek]at d
 | n+1,.mi _,y,v,d,_,_=>by simp [ek]at d
end
section
variable{Q:Program}{σ:Nat→FuncId}{X:Wd}
theorem SR.skip(g:SR Q σ X){w':World}{o:Obj}(d:dW X.w w' o)(q:X.B≤X.w.heap.size):∃ X':Wd,X'.w=w'∧X'.H=X.H∧SR Q σ X'∧Ext X.H.length X X'∧X'.B≤X'.w.heap.size:=by
 have j:Ext X.H.length X { X with w:=w' }:=Ext.one g X.H.length rfl (fun _ _=>Iff.rfl) (fun k m _=>d.Dn m)
  (fun L i h=>by rw [SR.sA g]at h;simp at h) (fun h=>absurd h (avU _)) (fun _ _ _=>rfl) (fun _ _=>rfl) (fun L h=>.inl ⟨L,h,rfl⟩) (by show _≤w'.heap.size;rw [d.size];omega) d.os d.tape d.output
 refine⟨{ X with w:=w' },rfl,rfl,SR.step Q σ g j X.H.length (fun _ _=>rfl) (fun _ _=>rfl) (fun b L _ l=>d.Dn (g.br b L l).2.1)
  (fun _ _ _ _ _ h=>h) (fun L h=>by change X.cB X.H.length=aa L at h;rw [SR.sA g]at h;simp at h) (fun c i h=>?_),j,?_⟩
 ·have:=g.fb c i h;show c<w'.heap.size;rw [d.size];omega
 ·show X.B≤w'.heap.size;rw [d.size];omega
theorem wrap_small{n:Int}(h0:0≤n)(b:n<2 ^ 63):IntKind.i64.wrap n=n:=by
 have:n % (2 ^ 64:Int)=n:=Int.emod_eq_of_lt h0 (by omega);simp only [IntKind.wrap,IntKind.bits,IntKind.signed,this,auU,decide_eq_true_eq];rw [aY (by show¬ n≥2 ^ (64-1);omega)]
theorem Ey(hS:SR Q σ X)(hB:X.B≤X.w.heap.size){a:Act}{aB:T}(hR:RR σ X aB a.tmps){o:Oper}{sz bytes:Nat}{zs:List FC}{x y:Arg}(F:dP Q σ o (.dR sz bytes zs x y)=ae){v:V}{H':aj}
  (h:bu aB X.H (.dR sz bytes zs x y)=aa (v,H')):ig Q σ X v H' (execOp a.eval o):=by
 simp only [dP]at F;split at F
 ·rename_i t x' y' ho;simp only [atI,decide_eq_true_eq]at F;obtain⟨⟨⟨k,r⟩,O⟩,b9⟩:=F;have k:=bT hR k;have r:=bT hR r;obtain⟨e,hu,O⟩:=iB O;simp only [atI]at O;obtain⟨⟨j,Z⟩,hz⟩:=O;obtain⟨z,us,a7,a8,M,f_,c_,d9⟩:=eO (σ:=σ) (X:=X) hz X.w;obtain⟨b_,u,A⟩:=AH Z X.w;simp only [bu]at h;split at h
  ·rename_i l c hl hc;obtain⟨kl,p⟩:=jh k hl;obtain⟨kc,w⟩:=jh r hc;split at h
   ·rename_i s;obtain⟨h0,d_,g,e_⟩:=s;unfold bU at g;simp only [atI,decide_eq_true_eq]at g;have J:us.length=sz:=by have:=M.len;simp at this;omega
    have L:=wrap_small (n:=l) h0 (by omega);have K:=wrap_small (n:=c) (by omega) (by omega);have a_:c.toNat*bytes≤2 ^ 48:=by
     have:c.toNat*bytes≤(2*c.toNat+768)*bytes:=auO _ (by omega);omega
    have m:¬ ((bytes:Int)*c>2 ^ 48):=by
     have e1:(bytes:Int)*c=((c.toNat*bytes:Nat):Int):=by
      rw [avK,avE];congr 1;omega
     rw [e1];omega
    have I:((Array.range (c.toNat*sz)).map fun i=>us.toArray[i % us.toArray.size]!)=(cE c.toNat us).toArray:=by
     have:=iS us c.toNat (by omega);rwa [J]at this
    have run:(execOp a.eval o).run Q X.w=.ok (.value (.slice (aa ⟨X.w.heap.size,0,ab⟩) l.toNat c.toNat)) (X.w.alloc (.cells (cE c.toNat us).toArray e)):=by
     simp only [execOp,ho];refine ef ?_;rw [p,w];have B:¬ c<0:=by omega
     have E:¬ l<0:=by omega
     have q:¬ l>c:=by omega
     by_cases d:c.toNat*sz=0
     ·have f:cE c.toNat us=[]:=aud (by rw [lD,J];exact d);have b:((decide (c<0)||decide ((bytes:Int)*c>2 ^ 48))||decide (l<0)||decide (l>c))=ag:=by rw [decide_eq_false B,decide_eq_false E,decide_eq_false q,decide_eq_false m];rfl
      simp only [Instr.makeSlice,Sem.run_bind,bf hu,asInt,asIntOf,Sem.run_pure,Result.andThen_ok,u,A,L,K,run_askRoom,dg j];simp only [b,aub,if_false,Sem.run_ite,bg d,Sem.run_bind,Result.andThen_ok,Sem.run_pure,run_askRoom,dg j,newRow,run_newObj];rw [d,f,show(Array.map (fun x=>(#[]:Array Value)[x % (#[]:Array Value).size]!) (Array.range 0))=#[] from by simp [show Array.range 0=(#[]:Array Nat) from rfl]];rfl
     ·simp only [Instr.makeSlice,Sem.run_bind,bf hu,asInt,asIntOf,Sem.run_pure,Result.andThen_ok,u,A,L,K,run_askRoom,dg j];have b:((decide (c<0)||decide ((bytes:Int)*c>2 ^ 48))||decide (l<0)||decide (l>c))=ag:=by rw [decide_eq_false B,decide_eq_false E,decide_eq_false q,decide_eq_false m];rfl
      simp only [b,aub,if_false,Sem.run_ite,aY d,Sem.run_bind,a7,a8,Result.andThen_ok,Sem.run_pure,run_askRoom,dg j,I,newRow,run_newObj];rfl
    split at h
    ·rename_i d;subst d;simp only [At,at1]at h;obtain⟨rfl,rfl⟩:=h;have:l=0:=by omega
     subst this;obtain⟨X',S,N,U,W,Y⟩:=SR.skip hS (dW.alloc X.w (.cells (cE (0:Int).toNat us).toArray e)) hB;exact⟨_,X',.inl (by rw [S];exact run),N,U,cT.es _,W,Y⟩
    ·simp only [At,at1]at h;obtain⟨rfl,rfl⟩:=h;obtain⟨X',S,N,U,W,Y,g6⟩:=Ez hS hB (jO M c.toNat) e;refine⟨_,X',.inl (by rw [S];exact run),N,U,?_,W,g6⟩;have H:X'.H[X.H.length]?=aa (.box ((cE c.toNat zs).map .f) 0):=by rw [N];simp
     simp only [VR,hZ,CR,fj,H];exact⟨_,Y,by omega,rfl⟩
   ·simp at h
  ·simp at h
 ·simp at F
theorem ans(H:aj):∀ x,ek 0 H x=fcC x:=fun x=>by cases x<;>rfl
theorem ajJ(F:SR Q σ X)(hB:X.B≤X.w.heap.size){a:Act}{aB:T}(E:RR σ X aB a.tmps){o:Oper}{sz:Nat}{x hi mx:Arg}(z:dP Q σ o (.wP sz x hi mx)=ae){v:V}{H':aj}
  (h:bu aB X.H (.wP sz x hi mx)=aa (v,H')):ig Q σ X v H' (execOp a.eval o):=by
 simp only [dP]at z;split at z
 ·rename_i t y O mx' ho;simp only [atI,decide_eq_true_eq]at z;obtain⟨⟨⟨⟨q,h2⟩,h3⟩,he⟩,hz⟩:=z;obtain⟨e,hu,A⟩:=iB he;simp only [bu]at h;unfold CW at h;have o1:OR X σ ab ab:=trivial;have o2:OR X σ (aa (hi.ev aB)) (aa (a.eval O)):=bT E h2;have o3:OR X σ (aa (mx.ev aB)) (aa (a.eval mx')):=bT E h3;have q:=bT E q;split at h
  ·rename_i v' hv;simp only [At,at1]at h;obtain⟨rfl,rfl⟩:=h;obtain⟨r,B,h5⟩:=zv F hu A q o1 o2 o3 hv;exact⟨r,X,.inl (by simp only [execOp,ho];exact ef B),rfl,F,h5,Ext.refl _ _,hB⟩
  ·split at h
   ·rename_i b o' n c' ep s b9;rw [b9]at q;simp only [VR,hZ,CR,fj]at q;split at h
    ·rename_i s' cs fl e' I;rw [I]at q;split at h
     ·rename_i K;obtain⟨rfl,rfl,rfl,rfl⟩:=K;split at h
      ·rename_i i j d W;split at h
       ·rename_i U;obtain⟨rfl,d_,d9⟩:=U;split at h
        ·rename_i ys b_;simp only [At,at1]at h;obtain⟨rfl,rfl⟩:=h;obtain⟨L,hL,k,hk,f_,a_⟩:=q.2.1 rfl rfl;have Y:k=0:=by
          rcases Nat.eq_zero_or_pos k with h | h
          ·exact h
          ·have:=Nat.mul_pos h hz;omega
         subst Y;have e_:i≤n:=by
          unfold AU at d;split at d
          ·split at d
           ·rename_i hh;simp only [At]at d;omega
           ·simp at d
          ·simp at d
         have J:bO n n ab (aa (hi.ev aB)) (aa (mx.ev aB))=aa (0,i,i):=by
          have S:AU (hi.ev aB) i=aa i:=by
           unfold AU at d ⊢;split at d
           ·split at d
            ·rename_i hh;simp only [At]at d;rw [bg ⟨hh.1,by omega⟩,d]
            ·simp at d
           ·simp at d
          simp [bO,W,S]
         obtain⟨B,_,_,_⟩:=dI (Q:=Q) o1 o2 o3 J (cap:=L.cap) (by omega) (at3 n) ae X.w;have h6:=eu (a:=aa ⟨L.c,0,ab⟩) hu A B;have Z:gK X.H (X.H.set b (.b5 s' cs (Nat.max fl (i*s')) ep .loc)):=gK.set I ⟨rfl,rfl,auG _ _,rfl,rfl⟩;obtain⟨g1,g2⟩:=SR.ahead F Z.ext;obtain⟨g3,g4,g5⟩:=SR.flag g1;have a7:=(atu.1 I).1;have l:(X.H.set b (.b5 s' cs (Nat.max fl (i*s')) ep .loc))[b]?=aa (.b5 s' cs (Nat.max fl (i*s')) ep .loc):=by simp [a7]
         have N:ek 1 (X.H.set b (.b5 s' cs (Nat.max fl (i*s')) ep .loc)) (.sl b 0 i 0 ep s')=aa (.fs ys i):=by
          simp only [ek,l];rw [bg ⟨trivial,trivial,by omega⟩,fg (g:=fcC) fun x _=>ans _ x,au5,b_];rfl
         have a8:dL 1 (X.H.set b (.b5 s' cs (Nat.max fl (i*s')) ep .loc)) (.sl b 0 i 0 ep s'):=by
          intro bq m;rw [l]at m;cases m;refine⟨by have:=aut fl (i*s');simp only [auH];exact this,fun x _=>?_⟩;cases x<;>trivial
         have M:CR σ ({ X with H:=X.H.set b (.b5 s' cs (Nat.max fl (i*s')) ep .loc) }:Wd).flag (.sl b 0 i 0 ep s') (.slice (aa ⟨L.c,0,ab⟩) i L.cap):=by
          simp only [CR,fj,Wd.flag,l];exact⟨at3 _,fun _ _=>⟨L,hL,0,by omega,by omega,by simp⟩,_,_,_,rfl⟩
         have hf:=frz g3 g5 (di.refl _) 1 N a8 M;have u:cT σ ({ X with H:=X.H.set b (.b5 s' cs (Nat.max fl (i*s')) ep .loc) }:Wd).flag.F X.w (.fs ys i) (.slice (aa ⟨L.c,0,ab⟩) i i):=by
          cases hf with
          | fs _ _ c o2 cap us c_ hl hF K hr=>exact .fs _ _ _ _ _ us (at3 _) hl hF K hr| fs0 a2 cap=>omega
         refine⟨.slice (aa ⟨L.c,0,ab⟩) i i,({ X with H:=X.H.set b (.b5 s' cs (Nat.max fl (i*s')) ep .loc) }:Wd).flag,.inl ?_,rfl,g3,u,g2.trans (g4.mono (by simp)),hB⟩;simp only [execOp,ho];refine ef ?_;rw [a_];simp [show i≠0 by omega,ee]at h6;exact h6
        ·simp at h
       ·simp at h
      ·simp at h
     ·simp at h
    ·simp at h
   ·simp at h
 ·simp at z
theorem aoK(d:SR Q σ X)(g:X.B≤X.w.heap.size){a:Act}{aB:T}(j:RR σ X aB a.tmps){o:Oper}{op:cX}(b:dP Q σ o op=ae){v:V}{H':aj}
  (h:bu aB X.H op=aa (v,H')):ig Q σ X v H' (execOp a.eval o):=by
 cases m:op.fsl
 case true=>
  cases op<;>simp only [cX.fsl,reduceCtorEq]at m;obtain⟨rfl,u,X',B,E,F,H,I,J,_⟩:=yO d g j b h;exact⟨u,X',.inl B,E,F,H,I,J⟩
 by_cases s:cls op=.p∨cls op=.r
 ·exact ig.aq1 g d (alb d j b s m h)
 ·cases op with
  | pre st sz=>exact aod d g b h
  | alloc zs=>
   simp only [bu,At,at1]at h;obtain⟨rfl,rfl⟩:=h;exact abf d g b
  | box x=>
   simp only [bu]at h;split at h
   ·rename_i xs q;simp only [At,at1]at h;obtain⟨rfl,rfl⟩:=h;exact ane d g j b q
   ·simp at h
  | bH sz zs n ps=>exact Pd d g j b h| store n x y=>exact adI d g j b h
  | jH=>
   simp only [bu,At,at1]at h;obtain⟨rfl,rfl⟩:=h;exact acA d g b
  | ja K x y z=>exact acq d g j b h| dR sz l zs x y=>exact Ey d g j b h| range x=>exact acV d g j b h| next x=>exact ajs d g j b h
  | append sz l x y=>exact yv d g j b h| DX x=>simp [dP]at b| copy sz x y=>simp [dP]at b| clear sz zs x=>exact abw d g j b h| lK sz l zs x y=>exact aiq d g j b h| kE x=>exact Qy d g j b h| wP sz x y z=>exact ajJ d g j b h| oz x=>exact acF d g j b h| call f xs A=>simp [bu]at h| cm x xs A=>simp [bu]at h| recover=>simp [bu]at h| defer x xs=>simp [bu]at h| bad=>simp [bu]at h| _=>exact absurd (by simp [cls]) s
end
section
variable{Q:Program}{σ:Nat→FuncId}{X:Wd}
def lH(n:Nat)(H:aj):V→Prop
 | .c x=>dL n H x| .a xs=>∀ x ∈ xs,dL n H x| _=>True
theorem lH.le{n:Nat}{H H':aj}(h:gK H H'){v:V}(b:lH n H v):lH n H' v:=by
 cases v with
 | c x=>exact dL.le n h b| a xs=>exact fun x d=>dL.le n h (b x d)
 | _=>trivial
theorem anV(n:Nat)(v:V)(H:aj):gK H (mkV n H v):=by
 cases v with
 | c x=>exact kz n x H| a xs=>exact gK.foldl (fun H x=>kz n x H) xs H
 | _=>exact gK.refl H
theorem Eu(n:Nat)(v:V)(H:aj):lH n (mkV n H v) v:=by
 cases v with
 | c x=>exact im n x H| a xs=>exact fun x b=>ft (fun x H=>im n x H) xs H x b
 | _=>trivial
theorem nL(n:Nat):∀(b:List V) (H:aj),gK H (b.foldl (mkV n) H)
 | [],H=>gK.refl H| v::b,H=>(anV n v H).trans (nL n b _)
theorem sU(n:Nat):∀(b:List V) (H:aj),∀ v ∈ b,lH n (b.foldl (mkV n) H) v
 | u::b,H,v,d=>by
  rcases auc.1 d with rfl | d
  ·exact(Eu n v H).le (nL n b _)
  ·exact sU n b _ v d
def FV1(σ:Nat→FuncId)(F:Nat→Nat→Prop)(w:World)(v:V)(u:Value):Prop:=∀ X:Wd,X.F=F→X.w=w→hZ σ X v u
def FV(σ:Nat→FuncId)(F:Nat→Nat→Prop)(w:World)(v:V)(u:Value):Prop:=∀ X:Wd,X.F=F→X.w=w→VR σ X v u
theorem akY(z:SR Q σ X)(q:FL X){H:aj}(s:di H X.H){n:Nat}{v F:V}{u:Value}(d:cD n H v=aa F)(A:lH n H v)(B:hZ σ X v u):FV1 σ X.F X.w F u:=by
 intro Z g j;cases v with
 | c x=>
  simp only [cD,at0]at d;obtain⟨y,m,rfl⟩:=d;have:=frz z q s n m A B;rw [←g,←j]at this;exact this
 | a xs=>
  simp only [cD,at0]at d;obtain⟨ys,b,rfl⟩:=d;obtain⟨us,rfl,l⟩:=B;have b:=fY b;refine⟨us,rfl,A2.map ⟨by rw [←l.len,b.len],fun i y u m I=>?_⟩⟩;have hi:i<xs.length:=by rw [b.len];exact(atu.1 m).1
  have E:=asZ hi;have:=frz z q s n (b.2 i _ _ E m) (A _ (at2 hi)) (l.2 i _ _ E I);rw [←g,←j]at this;exact this
 | top=>simp [cD]at d| t J=>simp [cD]at d
def bz.full:bz→bz
 | .box cs fl=>.box cs (Nat.max fl cs.length)| .b5 s cs fl e st=>.b5 s cs (Nat.max fl cs.length) e st| b=>b
theorem Ag(H:aj):gK H (H.map bz.full):=by
 refine⟨by simp,fun b x y g d=>?_⟩;rw [auM,g]at d;simp only [auP,At]at d;subst d;cases x<;>simp [dq,bz.full,auG]
theorem gv:∀(n:Nat) {H:aj} {x:C} {y:FC},ek n H x=aa y→dL n (H.map bz.full) x
 | n,H,.f _,y,_=>by cases n<;>trivial
 | 0,H,.ptr _ _ _,y,_=>trivial| 0,H,.sl _ _ _ _ _ _,y,_=>trivial| 0,H,.cl _ _,y,_=>trivial| 0,H,.yl _,y,_=>trivial| 0,H,.mp _,y,_=>trivial| 0,H,.it _,y,_=>trivial| 0,H,.bm _ _,y,_=>trivial| 0,H,.mi _,y,_=>trivial
 | n+1,H,.ptr b off ep,y,d=>by
  intro cs fl j;rw [auM]at j;simp only [ek]at d;split at d
  ·rename_i cs' u g;rw [g]at j;simp only [auP,At,bz.full,bz.box.injEq]at j;obtain⟨rfl,rfl⟩:=j;simp only [at0]at d;obtain⟨ys,m,rfl⟩:=d;refine⟨aut _ _,fun x v=>?_⟩;obtain⟨i,hi⟩:=auV v;obtain⟨y,_,z⟩:=(fY m).get hi;exact gv n z
  ·simp at d
 | n+1,H,.sl b o l c ep sz,y,d=>by
  intro bq j;rw [auM]at j;simp only [ek]at d;split at d
  ·rename_i cs' u g;rw [g]at j;simp only [auP,At,bz.full]at j;subst j;split at d
   ·rename_i q;simp only [at0]at d;obtain⟨ys,m,rfl⟩:=d;refine⟨aum q (aut _ _),fun x v=>?_⟩;obtain⟨i,hi⟩:=auV v;obtain⟨y,_,z⟩:=(fY m).get hi;exact gv n z
   ·simp at d
  ·rename_i s cs' u e g;rw [g]at j;simp only [auP,At,bz.full]at j;subst j;split at d
   ·rename_i q;simp only [at0]at d;obtain⟨ys,m,rfl⟩:=d;refine⟨aum q.2.2 (aut _ _),fun x v=>?_⟩;obtain⟨i,hi⟩:=auV v;obtain⟨y,_,z⟩:=(fY m).get hi;exact gv n z
   ·simp at d
  ·rename_i s cs' u e g;rw [g]at j;simp only [auP,At,bz.full]at j;subst j;trivial
  ·rename_i s cs' u e g;rw [g]at j;simp only [auP,At,bz.full]at j;subst j;trivial
  ·simp at d
 | n+1,H,.cl f A,y,d=>by
  simp only [ek,at0]at d;obtain⟨ys,m,rfl⟩:=d;intro x v;obtain⟨i,hi⟩:=auV v;obtain⟨y,_,z⟩:=(fY m).get hi;exact gv n z
 | n+1,H,.yl _,y,d=>trivial| n+1,H,.mp _,y,d=>trivial| n+1,H,.it _,y,d=>trivial| n+1,H,.bm _ _,y,d=>trivial| n+1,H,.mi _,y,d=>trivial
theorem Ah{n:Nat}{H:aj}{v l:V}(b:cD n H v=aa l):lH n (H.map bz.full) v:=by
 cases v with
 | c x=>
  simp only [cD,at0]at b;obtain⟨y,d,rfl⟩:=b;exact gv n d
 | a xs=>
  simp only [cD,at0]at b;obtain⟨ys,g,rfl⟩:=b;intro x j;obtain⟨i,hi⟩:=auV j;obtain⟨y,_,d⟩:=(fY g).get hi;exact gv n d
 | _=>trivial
def Wd.inner(X:Wd):Wd:=⟨fun _=>ab,X.F,[],X.w,X.w.heap.size⟩
theorem SR.inner(d:SR Q σ X):SR Q σ X.inner:=⟨fun b L h=>by simp [Wd.inner]at h,fun b j L g h=>by simp [Wd.inner]at h,d.fb⟩
def Wd.jD(Y:Wd):Wd:=Wd.flag { Y with H:=Y.H.map bz.full }
theorem SR.jD{Y:Wd}(b:SR Q σ Y):SR Q σ Y.jD∧Ext Y.H.length Y Y.jD∧FL Y.jD:=by
 obtain⟨h1,h2⟩:=SR.ahead b (Ag Y.H).ext;obtain⟨h3,h4,h5⟩:=SR.flag h1;exact⟨h3,h2.trans (h4.mono (by simp)),h5⟩
theorem D5{Y:Wd}(J:SR Q σ Y){n:Nat}{v g:V}{u:Value}(b:iZ n Y.H v=aa g)(A:VR σ Y v u):FV σ Y.jD.F Y.w g u:=by
 obtain⟨F,H,I⟩:=SR.jD J;have m:=VR.ext' σ H A;have q:∀ {v g:V} {u:Value},cD n Y.H v=aa g→hZ σ Y.jD v u→FV1 σ Y.jD.F Y.w g u:=by
  intro v g u b A;have z:cD n Y.jD.H v=aa g:=by
   show cD n (Y.H.map bz.full) v=aa g;cases v with
   | c x=>simp only [cD]at b ⊢;rw [mQ n (Ag Y.H)];exact b| a xs=>simp only [cD]at b ⊢;rw [fg (fun x _=>mQ n (Ag Y.H) x)];exact b
   | _=>simp [cD]at b
  exact akY F I (di.refl _) z (Ah b) A
 intro Z j l;cases v with
 | t L=>
  simp only [iZ,at0]at b;obtain⟨M,d,rfl⟩:=b;obtain⟨us,rfl,s⟩:=m;have d:=fY d;refine⟨us,rfl,by rw [←s.len,d.len],fun i y u E K=>?_⟩;have hi:i<L.length:=by rw [d.len];exact(atu.1 E).1
  have B:=asZ hi;exact q (d.2 i _ _ B E) (s.2 i _ _ B K) Z j l
 | c x=>exact VR.of1 σ (q (v:=.c x) b m Z j l)| a xs=>exact VR.of1 σ (q (v:=.a xs) b m Z j l)| top=>simp [iZ,cD]at b
theorem SR.outer(s:SR Q σ X)(v:X.B≤X.w.heap.size){Y:Wd}(u:SR Q σ Y)(d:Ext 0 X.inner Y) :
  SR Q σ { X with F:=Y.jD.F,w:=Y.w }∧Ext X.H.length X { X with F:=Y.jD.F,w:=Y.w }∧X.B≤Y.w.heap.size:=by
 obtain⟨h1,h2,h3⟩:=SR.jD u;have nY:X.w.heap.size≤Y.w.heap.size:=d.size;have g:∀ k,k<X.w.heap.size→Y.w.heap[k]?=X.w.heap[k]?:=fun k q=>d.frame k q (fun b L h=>by simp [Wd.inner]at h);have l:∀ c i,Y.jD.F c i→X.F c i∨X.w.heap.size≤c:=by
  intro c i h;rcases h2.pz c i h with h | h | ⟨b,L,m,rfl⟩
  ·rcases d.pz c i h with h | h | ⟨b,L,m,_⟩
   ·exact .inl h
   ·exact .inr h
   ·simp [Wd.inner]at m
  ·exact .inr (aum nY h)
  ·have:=(u.br b L m).1;rw [d.B]at this;exact .inr this
 have j:Ext X.H.length X { X with F:=Y.jD.F,w:=Y.w }:=
  {B:=rfl,F:=fun c i h=>h2.F c i (d.F c i h)
   pz:=fun c i h=>(l c i h).elim .inl fun h=>.inr (.inl h)
   fw:=fun c i h=>d.fw c i h
   cM:=fun b _ bq m=>⟨bq,m,by cases bq<;>simp⟩
   yT:=fun b L h=>.inl ⟨b,L,h,rfl⟩,size:=nY,os:=d.os,tape:=d.tape,output:=d.output,frame:=fun k q _=>g k q }
 refine⟨⟨fun b L m=>?_,s.inj,fun c i h=>h1.fb c i h⟩,j,aum v nY⟩;obtain⟨g1,g2,bq,g3,g4⟩:=s.br b L m;refine⟨g1,auE g2 nY,bq,g3,BR.ext Q σ j (g _ g2) (fun i h=>?_) g4⟩;rcases l _ _ h with h | h
 ·exact h
 ·omega
end
section
variable{Q:Program}{σ:Nat→FuncId}{X:Wd}
def eY(Q:Program)(σ:Nat→FuncId)(X:Wd)(v:V)(H':aj)(X':Wd)(u:Value):Prop:=
 X'.H=H'∧SR Q σ X'∧VR σ X' v u∧Ext X.H.length X X'∧X'.B≤X'.w.heap.size
def oX(b:CallKind)(cs:List Frame):Prop:=b=.normal∨(b=.deferred∧∃ c rest,cs=c::rest∧c.mode=.returning)
def jj(b:Frame)(cs:List Frame):Prop:=oX b.kind cs
theorem oX.Qm{fr:Frame}{cs:List Frame}(h:oX fr.kind cs):tryRecover fr cs=ab:=by
 unfold tryRecover;rcases h with h | ⟨h,c,rest,rfl,b⟩
 ·rw [h]
 ·rw [h];simp [b]
def Leaves(Q:Program)(f:FuncId)(d:CallKind)(b:Frame)(u:Value)(w:World):Prop:=
 b.mode=.returning∧b.defers=[]∧b.kind=d∧b.fn=f∧∃ fn,Q.funcs[f]?=aa fn∧(Go.results fn b.tmps).run Q w=.ok u w
structure e9(Q:Program)(σ:Nat→FuncId)(call:cR):Prop where
 enters:∀ f args H r,call (.fn f) args H=aa r→∀ as w,(callFunc (σ f) as).run Q w=.ok (.enter (σ f) as) w
 fn:∀ f args H r H',call (.fn f) args H=aa (r,H')→∀(X:Wd) us kind cs,X.H=H→SR Q σ X→X.B≤X.w.heap.size→A2 (VR σ X) args us→oX kind cs→kind=.normal∨f≠fo →
  ∃ fr X' u,Steps Q (lone (Frame.enter Q (σ f) us.toArray kind) cs X.w) (lone fr cs X'.w)∧Leaves Q (σ f) kind fr u X'.w∧eY Q σ X r H' X' u
 yield:∀ b args H r H',call (.yield b) args H=aa (r,H')→∀(X:Wd) us c cs L,X.H=H→SR Q σ X→X.B≤X.w.heap.size→A2 (VR σ X) args us→X.cB b=aa L →
  ∃ f tmps as bd X' u,(Instr.yield L.c us.toArray).run Q X.w=.ok (.round L.c f tmps as bd) X.w ∧
   Steps Q (lone (Frame.round L.c f tmps as bd .normal) (c::cs) X.w) (lone (c.finish u) cs X'.w)∧eY Q σ X r H' X' u
def da(Q:Program)(σ:Nat→FuncId)(X:Wd)(o:Oper)(a:Act)(v:V)(H':aj):Prop:=
 ∀(b:Frame) (ops:Array Oper) (i:Nat) (rest:List Nat) (k:List Item) (cs:List Frame),ops[i]?=aa o→Region.wanted o (yielded ops a.tmps)=ae→jj b cs →
  ∃ X' u,Steps Q (lone (b.atR a (.inRegion ops (i::rest)::k)) cs X.w) (lone (b.atR (a.put o.dst u) (.inRegion ops rest::k)) cs X'.w)∧eY Q σ X v H' X' u
theorem da.aq0{o:Oper}{a:Act}{v:V}{H':aj}(j:∀ c,o.op≠.defer c)(h:ig Q σ X v H' (execOp a.eval o)):da Q σ X o a v H':=by
 intro b ops i rest k cs ho l m;obtain⟨u,X',d,h1,h2,h3,h4,h5⟩:=h;refine⟨X',u,.one (step_lone_go ?_),h1,h2,h3,h4,h5⟩;rw [stepGR_op ho l,Oper.semAt_eq _ _ _ j];have g:=Frame.finish_atR b a ops i rest k u;rw [ho]at g;simp only [auJ]at g;rw [←g];rcases d with d | ⟨d,rfl⟩<;>simp [stepG.apply,Sem.runT_eq,d]
theorem da.wk{o:Oper}{a:Act}{v:V}{H':aj}(j:∀ c,o.op≠.defer c){f:FuncId}{us:Array Value}(g:(execOp a.eval o).run Q X.w=.ok (.enter f us) X.w)
  (h:∀ cs,∃ fr X' u,Steps Q (lone (Frame.enter Q f us .normal) cs X.w) (lone fr cs X'.w)∧Leaves Q f .normal fr u X'.w∧eY Q σ X v H' X' u):da Q σ X o a v H':=by
 intro b ops i rest k cs ho l y;obtain⟨fr,X',u,h1,⟨l1,l2,m,q,fn,s,x⟩,h3⟩:=h (b.atR a (.inRegion ops (i::rest)::k)::cs);refine⟨X',u,.head (step_lone_go (fr':=Frame.enter Q f us .normal) (cs':=b.atR a (.inRegion ops (i::rest)::k)::cs) (w':=X.w) ?_) (h1.trans (.one ?_)),h3⟩
 ·rw [stepGR_op ho l,Oper.semAt_eq _ _ _ j];simp [stepG.apply,Sem.runT_eq,g,Frame.atR]
 ·have d:=Frame.finish_atR b a ops i rest k u;rw [ho]at d;simp only [auJ]at d;rw [←d];exact step_leave_returned ⟨l1,l2,m,fn,by rw [q];exact s,x⟩
theorem da.acG{o:Oper}{a:Act}{v:V}{H':aj}(j:∀ c,o.op≠.defer c){l:Nat}{f:FuncId}{tmps:Array Value}{as bd:Code}(g:(execOp a.eval o).run Q X.w=.ok (.round l f tmps as bd) X.w)
  (h:∀ c cs,∃ X' u,Steps Q (lone (Frame.round l f tmps as bd .normal) (c::cs) X.w) (lone (c.finish u) cs X'.w)∧eY Q σ X v H' X' u):da Q σ X o a v H':=by
 intro b ops i rest k cs ho m q;obtain⟨X',u,h1,h3⟩:=h (b.atR a (.inRegion ops (i::rest)::k)) cs;refine⟨X',u,.head (step_lone_go (fr':=Frame.round l f tmps as bd .normal) (cs':=b.atR a (.inRegion ops (i::rest)::k)::cs) (w':=X.w) ?_) ?_,h3⟩
 ·rw [stepGR_op ho m,Oper.semAt_eq _ _ _ j];simp [stepG.apply,Sem.runT_eq,g,Frame.atR]
 ·have d:=Frame.finish_atR b a ops i rest k u;rw [ho]at d;simp only [auJ]at d;rw [←d];exact h1
theorem oI{x:V}{u:Value}{args:List V}{us:List Value}{c:Callee}{d:List V}(j:bZ x args=aa (c,d))(l:VR σ X x u)(q:A2 (VR σ X) args us) :
  match c with
  | .fn f=>∃ fst cap:List Value,u=.func (.func (σ f)) fst.toArray cap.toArray∧A2 (VR σ X) d (fst++us++cap)| .yield b=>d=args∧∃ L,X.cB b=aa L∧u=.func (.yield L.c) #[] #[]:=by
 unfold bZ at j;split at j
 ·rename_i f m;cases j;cases l with
  | fn _ _ cap y z=>
   refine⟨[],cap,rfl,q.append (A2.map ⟨y.symm,fun i x u l A=>?_⟩)⟩;exact z i x u l A
 ·rename_i f m;cases j;obtain⟨cap,rfl,g⟩:=l;exact⟨[],cap,rfl,q.append (A2.map (g.kI fun x u h=>CR.of1 σ h))⟩
 ·rename_i b;cases j;obtain⟨L,v,_,rfl⟩:=l;exact⟨rfl,L,v,rfl⟩
 ·rename_i f first
  cases j;obtain⟨cap,rfl,g⟩:=l;have s:A2 (VR σ X) (first.map .c) cap:=A2.map (g.kI fun x u h=>CR.of1 σ h);exact⟨cap,[],rfl,by simpa using s.append q⟩
 ·simp at j
theorem iP{a:Act}{o:Oper}{cl:Call}{y:Operand}(b:o.op=.call cl)(g:cl.callee=.value y){w:World}{fn:Fn}{fst cap:Array Value}(d:a.eval y=.func fn fst cap) :
  (execOp a.eval o).run Q w=(invoke (.fn fn cap) (fst++cl.args.map a.eval)).run Q w:=by
 simp only [execOp,b,resolve,g,d,Deferred.ofValue,Sem.run_bind,Sem.run_pure,Result.andThen_ok]
theorem eT{f:FuncId}{cap as:Array Value}{w:World}(h:∀ as w,(callFunc f as).run Q w=.ok (.enter f as) w):(invoke (.fn (.func f) cap) as).run Q w=.ok (.enter f (as++cap)) w:=by
 simp only [invoke];exact h _ _
end
section
variable{Q:Program}{σ:Nat→FuncId}{X:Wd}{call:cR}
theorem aiP{n:Nat}{H H':aj}(h:gK H H')(v:V):cD n H' v=cD n H v:=by
 cases v with
 | c x=>simp only [cD,mQ n h]| a xs=>simp only [cD,fg (fun x _=>mQ n h x)]
 | _=>rfl
theorem AA(K:e9 Q σ call)(hS:SR Q σ X)(hB:X.B≤X.w.heap.size){f:Nat}{args:List V}{us:List Value}{H H':aj}{r':V}(g:et call f args H=aa (r',H'))(hH:di H' X.H)(L:A2 (VR σ X) args us)(cs:List Frame) :
  (∀ as w,(callFunc (σ f) as).run Q w=.ok (.enter (σ f) as) w) ∧
  ∃ l X' u,Steps Q (lone (Frame.enter Q (σ f) us.toArray .normal) cs X.w) (lone l cs X'.w)∧Leaves Q (σ f) .normal l u X'.w∧eY Q σ X r' X.H X' u∧X'.cB=X.cB:=by
 unfold et at g;split at g
 ·simp at g
 ·rename_i s d;split at g
  ·simp at g
  ·rename_i r S b;split at g
   ·simp at g
   ·rename_i a7 M;simp only [At,at1]at g;obtain⟨rfl,rfl⟩:=g;have A:=nL deep args H;have B:=sU deep args H;obtain⟨v,J,h3⟩:=SR.flag hS;have d:=fY d;have z:A2 (VR σ X.flag.inner) s us:=by
     refine⟨by rw [←d.len];exact L.len,fun i y u O hu=>?_⟩;have hi:i<args.length:=by rw [d.len];exact(atu.1 O).1
     have N:=asZ hi;have m:cD deep H args[i]=aa y:=d.2 i _ _ N O;have q:=VR.ext' σ J (L.2 i _ _ N hu);rw [←aiP A]at m;have E:hZ σ X.flag args[i] u:=by
      cases j:args[i]with
      | c x=>rw [j]at q;exact q| a xs=>rw [j]at q;exact q| top=>trivial| t vs=>rw [j]at m;simp [cD]at m
     exact VR.of1 σ (akY v h3 hH m (B _ (at2 hi)) E X.flag.inner rfl rfl)
    obtain⟨l,Y,u,U,W,Z,I,g5,g6,g7⟩:=K.fn f s [] r S b X.flag.inner us .normal cs rfl (SR.inner v) (at3 _) z (.inl rfl) (.inl rfl);obtain⟨k1,k2,k3⟩:=SR.outer v hB I g6;refine⟨K.enters f s [] _ b,l,{ X.flag with F:=Y.jD.F,w:=Y.w },u,U,W,⟨rfl,k1,?_,J.trans (k2.mono (at3 _)),k3⟩,rfl⟩;rw [←Z]at M;exact D5 I M g5 _ rfl rfl
theorem nf{o:Oper}{f:Nat}{xs:List Arg}{h:Bool}(b:dP Q σ o (.call f xs h)=ae):∃ c,o.op=.call c∧c.callee=.value (.func (σ f))∧mAs σ xs c.args=ae:=by
 simp only [dP]at b;split at b
 ·rename_i c j;simp only [dX]at b;split at b
  ·rename_i g d;simp only [atI,beq_iff_eq]at b;exact⟨c,j,by rw [d,b.1],b.2⟩
  ·simp at b
 ·simp at b
theorem Aw{o:Oper}{x:Arg}{xs:List Arg}{h:Bool}(b:dP Q σ o (.cm x xs h)=ae):∃ c y,o.op=.call c∧c.callee=.value y∧mA σ x y=ae∧mAs σ xs c.args=ae:=by
 simp only [dP]at b;split at b
 ·rename_i c d;simp only [dX]at b;split at b
  ·rename_i y g;simp only [atI]at b;exact⟨c,y,d,g,b.1,b.2⟩
  ·simp at b
 ·simp at b
theorem lu{o:Oper}{c:Call}(h:o.op=.call c):∀ c,o.op≠.defer c:=fun b e=>by rw [h]at e;cases e
theorem BC(l:e9 Q σ call)(q:SR Q σ X)(j:X.B≤X.w.heap.size){a:Act}{aB:T}(E:RR σ X aB a.tmps){o:Oper}{f:Nat}{xs:List Arg}{h:Bool}(I:dP Q σ o (.call f xs h)=ae)
  {H H':aj} {v:V} (y:et call f (dy aB xs) H=aa (v,H')) (m:di H' X.H):da Q σ X o a v X.H:=by
 obtain⟨c,x,F,d⟩:=nf I;have s:=mW E d;have b:=(AA l q j y m s []).1;refine da.wk (lu x) (f:=σ f) (us:=c.args.map a.eval) ?_ fun cs=>?_
 ·rw [iP x F (fn:=.func (σ f)) (fst:=#[]) (cap:=#[]) rfl,eT b];simp
 ·obtain⟨_,z,X',u,g,A,B,_⟩:=AA l q j y m s cs;exact⟨z,X',u,by rw [Array.toArray_toList]at g;exact g,A,B⟩
theorem zS(A:e9 Q σ call)(F:SR Q σ X)(z:X.B≤X.w.heap.size){a:Act}{aB:T}(E:RR σ X aB a.tmps){o:Oper}{f:Nat}{xs:List Arg}{h:Bool}(K:dP Q σ o (.call f xs h)=ae)
  {H H':aj} {v:V} (L:et call f (dy aB xs) H=aa (v,H')) (B:di H' X.H)
  (b:Frame) (ops:Array Oper) (i:Nat) (rest:List Nat) (k:List Item) (cs:List Frame) (g:ops[i]?=aa o) (M:Region.wanted o (yielded ops a.tmps)=ae) :
  ∃ X' u,Steps Q (lone (b.atR a (.inRegion ops (i::rest)::k)) cs X.w) (lone (b.atR (a.put o.dst u) (.inRegion ops rest::k)) cs X'.w)∧eY Q σ X v X.H X' u∧X'.cB=X.cB:=by
 obtain⟨c,s,J,m⟩:=nf K;have I:=mW E m;obtain⟨l,Z,X',u,q,⟨N,O,S,U,fn,W,Y⟩,x,y⟩:=AA A F z L B I (b.atR a (.inRegion ops (i::rest)::k)::cs);rw [Array.toArray_toList]at q;have j:(execOp a.eval o).run Q X.w=.ok (.enter (σ f) (c.args.map a.eval)) X.w:=by
  rw [iP s J (fn:=.func (σ f)) (fst:=#[]) (cap:=#[]) rfl,eT l];simp
 refine⟨X',u,.head (step_lone_go (fr':=Frame.enter Q (σ f) (c.args.map a.eval) .normal) (cs':=b.atR a (.inRegion ops (i::rest)::k)::cs) (w':=X.w) ?_) (q.trans (.one ?_)),x,y⟩
 ·rw [stepGR_op g M,Oper.semAt_eq _ _ _ (lu s)];simp [stepG.apply,Sem.runT_eq,j,Frame.atR]
 ·have d:=Frame.finish_atR b a ops i rest k u;rw [g]at d;simp only [auJ]at d;rw [←d];exact step_leave_returned ⟨N,O,S,fn,by rw [U];exact W,Y⟩
theorem BB(j:e9 Q σ call)(A:SR Q σ X)(y:X.B≤X.w.heap.size){a:Act}{aB:T}(z:RR σ X aB a.tmps){o:Oper}{f:Nat}{xs:List Arg}{h:Bool}(F:dP Q σ o (.call f xs h)=ae)
  {H':aj} {v:V} (m:call (.fn f) (dy aB xs) X.H=aa (v,H')):da Q σ X o a v H':=by
 obtain⟨c,l,E,d⟩:=nf F;have B:=mW z d;have b:=j.enters _ _ _ _ m;refine da.wk (lu l) (f:=σ f) (us:=c.args.map a.eval) ?_ fun cs=>?_
 ·rw [iP l E (fn:=.func (σ f)) (fst:=#[]) (cap:=#[]) rfl,eT b];simp
 ·obtain⟨q,X',u,g,s,x⟩:=j.fn _ _ _ _ _ m X _ .normal cs rfl A y B (.inl rfl) (.inl rfl);exact⟨q,X',u,by rw [Array.toArray_toList]at g;exact g,s,x⟩
theorem abt(A:e9 Q σ call)(M:SR Q σ X)(J:X.B≤X.w.heap.size){a:Act}{aB:T}(K:RR σ X aB a.tmps){o:Oper}{x:Arg}{xs:List Arg}{h:Bool}(hm:dP Q σ o (.cm x xs h)=ae)
  {H':aj} {v:V} {c:Callee} {args:List V} (m:bZ (x.ev aB) (dy aB xs)=aa (c,args)) (E:call c args X.H=aa (v,H')):da Q σ X o a v H':=by
 obtain⟨cl,y,s,O,hy,H⟩:=Aw hm;have N:=mW K H;have S:=oI m (bT K hy) N;cases c with
 | fn f=>
  obtain⟨fst,cap,j,F⟩:=S;have B:=A.enters _ _ _ _ E;refine da.wk (lu s) (f:=σ f) (us:=fst.toArray++cl.args.map a.eval++cap.toArray) ?_ fun cs=>?_
  ·rw [iP s O j,eT B]
  ·obtain⟨W,X',u,q,z,Y⟩:=A.fn _ _ _ _ _ E X _ .normal cs rfl M J F (.inl rfl) (.inl rfl);refine⟨W,X',u,?_,z,Y⟩;have e:(fst++(cl.args.map a.eval).toList++cap).toArray=fst.toArray++cl.args.map a.eval++cap.toArray:=by simp
   rw [e]at q;exact q
 | yield b=>
  obtain⟨rfl,L,Z,j⟩:=S;have key:=fun c cs=>A.yield b _ _ _ _ E X _ c cs L rfl M J N Z;obtain⟨f,tmps,as,bd,_,_,g,_⟩:=key default [];refine da.acG (lu s) (l:=L.c) (f:=f) (tmps:=tmps) (as:=as) (bd:=bd) ?_ fun c cs=>?_
  ·rw [iP s O j,Array.empty_append];rw [Array.toArray_toList]at g;exact g
  ·obtain⟨f',I,as',U,X',u,d,q,z⟩:=key c cs;rw [g]at d;simp only [Result.ok.injEq,Next.round.injEq,true_and,and_true]at d;obtain⟨rfl,rfl,rfl,rfl⟩:=d;exact⟨X',u,q,z⟩
end
section
variable{Q:Program}{σ:Nat→FuncId}{X:Wd}{call:cR}
def uO(σ:Nat→FuncId)(X:Wd):dK→Deferred→Prop
 | .gX b,d=>∃ L o,X.cB b=aa L∧X.H[b]?=aa (.eZ o)∧d = { target:=.collected L.c,args:=#[] }| .fn f args,d=>∃ us cap:Array Value,d = { target:=.fn (.func (σ f)) cap,args:=us }∧A2 (VR σ X) args (us.toList++cap.toList)
theorem uO.dY{X X':Wd}(g:py X.H.length X X'){x:dK}{d:Deferred}(h:uO σ X x d):uO σ X' x d:=by
 cases x with
 | gX b=>
  obtain⟨L,o,h1,h2,h3⟩:=h;obtain⟨blk',h4,h5⟩:=g.cM b (atu.1 h2).1 _ h2;cases blk'<;>simp only at h5;exact⟨L,_,h5 L h1,h4,h3⟩
 | fn f args=>
  obtain⟨us,cap,h1,h2⟩:=h;exact⟨us,cap,h1,h2.kI fun _ _ h=>VR.dY σ g h⟩
def fN(σ:Nat→FuncId)(X:Wd)(ds:List dK)(b:List Deferred):Prop:=A2 (uO σ X) ds b
theorem uO.ext'{X X':Wd}(b:Ext X.H.length X X'){x:dK}{d:Deferred}(h:uO σ X x d):uO σ X' x d:=uO.dY b.W h
theorem fN.dY{X X':Wd}(d:py X.H.length X X'){ds:List dK}{b:List Deferred}(h:fN σ X ds b):fN σ X' ds b:=h.kI fun _ _ h=>uO.dY d h
theorem fN.ext'{X X':Wd}(d:Ext X.H.length X X'){ds:List dK}{b:List Deferred}(h:fN σ X ds b):fN σ X' ds b:=h.kI fun _ _ h=>uO.ext' d h
def pA(Q:Program)(σ:Nat→FuncId)(X:Wd)(o:Oper)(a:Act)(ok:Frame→Prop)(v:V)(H':aj)(ds:List dK):Prop:=
 ∀(b:Frame) (ops:Array Oper) (i:Nat) (rest:List Nat) (k:List Item) (cs:List Frame),ops[i]?=aa o→Region.wanted o (yielded ops a.tmps)=ae→jj b cs→ok b →
  ∃(X':Wd) (u:Value) (a':Act),Steps Q (lone (b.atR a (.inRegion ops (i::rest)::k)) cs X.w) (lone (b.atR (a'.put o.dst u) (.inRegion ops rest::k)) cs X'.w)∧eY Q σ X v H' X' u∧a'.tmps=a.tmps∧fN σ X' ds a'.defers
theorem da.ad0{o:Oper}{a:Act}{v:V}{H':aj}(h:da Q σ X o a v H'){ds:List dK}(d:fN σ X ds a.defers){ok:Frame→Prop}:pA Q σ X o a ok v H' ds:=by
 intro b ops i rest k cs ho j g _;obtain⟨X',u,h1,h2⟩:=h b ops i rest k cs ho j g;exact⟨X',u,a,h1,h2,rfl,d.ext' h2.2.2.2.1⟩
theorem da.ahead(j:SR Q σ X){d H':aj}(g:di X.H d){o:Oper}{a:Act}{v:V}(h:da Q σ { X with H:=d } o a v H'):da Q σ X o a v H':=by
 intro b ops i rest k cs ho m l;obtain⟨X',u,h1,h2,h3,h4,h5,h6⟩:=h b ops i rest k cs ho m l;exact⟨X',u,h1,h2,h3,h4,(SR.ahead j g).2.trans (h5.mono g.len),h6⟩
def gS(op:cX)(b:Frame):Prop:=b.roundOf=ab∨op.dS=ae
theorem ET(y:SR Q σ X)(x:X.B≤X.w.heap.size){a:Act}{o:Oper}(g:dP Q σ o .recover=ae){ds:List dK}(z:fN σ X ds a.defers):pA Q σ X o a (gS .recover) (.c (.f .mF)) X.H ds:=by
 intro b ops i rest k cs v B A q;have q:b.roundOf=ab:=q.elim id fun h=>by simp [cX.dS]at h
 simp only [dP]at g;split at g
 ·rename_i c u;simp only [dX]at g;split at g
  ·rename_i j;have l:(execOp a.eval o).run Q X.w=.ok .recover X.w:=by
    simp [execOp,u,resolve,j,invoke,builtin]
   refine⟨X,.nilIface,a,.one (step_lone_go ?_),⟨rfl,y,cT.mF,Ext.refl _ _,x⟩,rfl,z⟩;rw [stepGR_op v B,Oper.semAt_eq _ _ _ (lu u)];have d:=Frame.finish_atR b a ops i rest k .nilIface;rw [v]at d;simp only [auJ]at d;rw [←d];have m:tryRecover (b.atR a (.inRegion ops (i::rest)::k)) cs=ab:=oX.Qm A;have s:(b.atR a (.inRegion ops (i::rest)::k)).roundOf=ab:=q;simp [stepG.apply,Sem.runT_eq,l,m,s]
  ·simp at g
 ·simp at g
theorem abE(A:SR Q σ X)(z:X.B≤X.w.heap.size){a:Act}{aB:T}(u:RR σ X aB a.tmps){o:Oper}{x:Arg}{xs:List Arg}(g:dP Q σ o (.defer x xs)=ae){ds:List dK}(E:fN σ X ds a.defers)
  {f:Nat} {args:List V} (B:bZ (x.ev aB) (dy aB xs)=aa (.fn f,args)):pA Q σ X o a (gS (.defer x xs)) .top X.H (.fn f args::ds):=by
 intro b ops i rest k cs v H J m;have m:b.roundOf=ab:=m.elim id fun h=>by simp [cX.dS]at h
 simp only [dP]at g;split at g
 ·rename_i c j;split at g
  ·rename_i y I;simp only [atI]at g;have F:=oI B (bT u g.1) (mW u g.2);obtain⟨fst,cap,q,s⟩:=F;have l:(execOp a.eval o).run Q X.w=.ok (.defer { target:=.fn (.func (σ f)) cap.toArray,args:=fst.toArray++c.args.map a.eval }) X.w:=by
    simp [execOp,j,resolve,I,q,Deferred.ofValue]
   refine⟨X,undef,{ a with defers:={ target:=.fn (.func (σ f)) cap.toArray,args:=fst.toArray++c.args.map a.eval }::a.defers },.one (step_lone_go ?_),⟨rfl,A,trivial,Ext.refl _ _,z⟩,rfl,A2.cons ⟨_,_,rfl,by simpa using s⟩ E⟩;rw [stepGR_op v H,m,Oper.semAt_none];have d:=Frame.finish_atR b { a with defers:={ target:=.fn (.func (σ f)) cap.toArray,args:=fst.toArray++c.args.map a.eval }::a.defers } ops i rest k undef;rw [v]at d;simp only [auJ]at d;rw [←d];simp [stepG.apply,Sem.runT_eq,l,Frame.atR]
  ·simp at g
 ·simp at g
theorem qd{o:Oper}{op:cX}(d:dP Q σ o op=ae)(g:∀ x xs,op≠.defer x xs)(j:op≠.bad):∀ c,o.op≠.defer c:=by
 intro c b;cases op
 case pre o sz=>cases o<;>simp [dP,b]at d
 case defer x xs=>exact g _ _ rfl
 case bad=>exact j rfl
 all_goals simp [dP,b]at d
theorem G3(z:e9 Q σ call)(g:SR Q σ X)(l:X.B≤X.w.heap.size){a:Act}{s s':St}(m:X.H=s.heap)(q:RR σ X s.aB a.tmps)(u:fN σ X s.defs a.defers){o:Oper}{op:cX}(j:dP Q σ o op=ae){v:V}
  (h:eQ call s op=aa (v,s')):pA Q σ X o a (gS op) v s'.heap s'.defs∧s'.aB=s.aB:=by
 by_cases B:(∃ f xs h,op=.call f xs h)∨(∃ x xs h,op=.cm x xs h)∨op=.recover∨∃ x xs,op=.defer x xs
 ·rcases B with⟨f,xs,K,rfl⟩ | ⟨x,xs,K,rfl⟩ | rfl | ⟨x,xs,rfl⟩
  ·simp only [eQ,at0,at1]at h;obtain⟨⟨F,H'⟩,d,rfl,rfl⟩:=h;refine⟨da.ad0 ?_ u,rfl⟩;unfold gT at d;split at d
   ·exact BB z g l q j (m▸d)
   ·have y:di X.H H':=by
     have b:=d;unfold et at b;split at b
     ·simp at b
     ·split at b
      ·simp at b
      ·split at b
       ·simp at b
       ·simp only [At,at1]at b;rw [←b.2,m];exact(nL _ _ _).ext
    obtain⟨I,J⟩:=SR.ahead g y;refine da.ahead g y ?_;exact BC z (X:={ X with H:=H' }) I l (q.ext' σ J) j d (di.refl _)
  ·simp only [eQ]at h;split at h
   ·rename_i c args A;simp only [at0,at1]at h;obtain⟨⟨F,H'⟩,d,rfl,rfl⟩:=h;exact⟨da.ad0 (abt z g l q j A (m▸d)) u,rfl⟩
   ·simp at h
  ·simp only [eQ,At,at1]at h;obtain⟨rfl,rfl⟩:=h;rw [←m];exact⟨ET g l j u,rfl⟩
  ·simp only [eQ]at h;split at h
   ·rename_i f args A;simp only [At,at1]at h;obtain⟨rfl,rfl⟩:=h;refine⟨?_,rfl⟩;rw [←m];exact abE g l q j u A
   ·simp at h
 ·have E:(bu s.aB s.heap op).map (fun r=>(r.1,{ s with heap:=r.2 }))=aa (v,s'):=by
   cases op<;>first | exact h | (exfalso;apply B;simp)
  simp only [at0,at1]at E;obtain⟨⟨F,H'⟩,d,rfl,rfl⟩:=E;refine⟨da.ad0 (da.aq0 (qd j ?_ ?_) (aoK g l q j (m▸d))) u,rfl⟩
  ·rintro x xs rfl;exact B (.inr (.inr (.inr ⟨x,xs,rfl⟩)))
  ·rintro rfl;simp [bu]at d
end
section
variable{Q:Program}{σ:Nat→FuncId}{X:Wd}{call:cR}
structure Fr(Q:Program)(σ:Nat→FuncId)(n:Nat)(X:Wd)(s:St)(a:Act):Prop where
 heap:X.H=s.heap
 sr:SR Q σ X
 b:X.B≤X.w.heap.size
 aB:RR σ X s.aB a.tmps
 defs:fN σ X s.defs a.defers
 size:n≤a.tmps.size
theorem nV{n:Nat}{ops:Array Oper}{o:Oper}{m:aP}(F:lq Q σ n ops o m=ae){aB:T}{tmps:Array Value}(I:∀ p w',m.g=aa (p,w')→VR σ X (aB.get p) (tmps.getD p.toNat undef))(K:n≤tmps.size){w:Bool}(h:wanted aB m.g=aa w) :
  Region.wanted o (yielded ops tmps)=w:=by
 simp only [lq,atI]at F;obtain⟨_,b⟩:=F;unfold Region.wanted;cases x:o.guard with
 | none=>
  rw [x]at b;cases g:m.g with
  | none=>rw [g]at h;simp only [wanted,At]at h;simpa using h| some q=>rw [g]at b;simp at b
 | some L=>
  obtain⟨j,N⟩:=L;rw [x]at b;cases g:m.g with
  | none=>rw [g]at b;simp at b
  | some q=>
   obtain⟨p,w'⟩:=q;rw [g]at b h;simp only [atI,beq_iff_eq]at b;obtain⟨rfl,b⟩:=b;split at b
   ·rename_i d J;simp only [atI,beq_iff_eq,decide_eq_true_eq]at b;obtain⟨B,A⟩:=b;have l:=I p _ g;rw [B]at l;have v:d<tmps.size:=auE A K;have s:tmps.getD d undef=tmps[d]:=by simp [Array.getD,v]
    rw [s]at l;simp only [wanted]at h;simp only [yielded,J,auJ,Array.getElem?_eq_getElem v];split at h
    ·rename_i H z;rw [z]at l;simp only [At]at h;have y:cT σ X.F X.w (.bool H) tmps[d]:=l;generalize tmps[d]=u at y;cases y;subst h;simp
    ·rename_i z;rw [z]at l;obtain⟨us,E,M⟩:=l;simp only [At]at h;subst h;rw [E];simp
    ·simp at h
   ·simp at b
theorem acT{n:Nat}{ops:Array Oper}{o:Oper}{m:aP}(s:lq Q σ n ops o m=ae){aB:T}{a:Act}(q:RR σ X aB a.tmps)(x:n≤a.tmps.size){v:V}{u:Value}(y:VR σ X v u) :
  RR σ X (jJ aB m.dst v) (a.put o.dst u).tmps∧(a.put o.dst u).tmps.size=a.tmps.size∧(a.put o.dst u).defers=a.defers:=by
 simp only [lq,atI]at s;obtain⟨⟨_,b⟩,_⟩:=s;split at b
 ·rename_i d p g j;simp only [atI,beq_iff_eq,decide_eq_true_eq]at b;obtain⟨rfl,l⟩:=b;rw [g,j];exact⟨RR.set σ q (auE l x) y,by simp [Act.put],rfl⟩
 ·rename_i g j;rw [g,j];exact⟨q,rfl,rfl⟩
 ·simp at b
theorem VR.undef:VR σ X (.t []) undef:=⟨[],rfl,A2.nil⟩
theorem ad3(O:e9 Q σ call){n:Nat}{s s':St}{a:Act}(d:Fr Q σ n X s a){ops:Array Oper}{o:Oper}{q:aP}(j:lq Q σ n ops o q=ae)(h:fG call s q=aa s')
  {b:Frame} {i:Nat} {rest:List Nat} {k:List Item} {cs:List Frame} (y:ops[i]?=aa o) (S:jj b cs) (U:gS q.op b) :
  ∃ X' a',Steps Q (lone (b.atR a (.inRegion ops (i::rest)::k)) cs X.w) (lone (b.atR a' (.inRegion ops rest::k)) cs X'.w)∧Fr Q σ n X' s' a'∧Ext X.H.length X X'∧a'.tmps.size=a.tmps.size:=by
 unfold fG at h;split at h
 ·rename_i g;have g:=nV j (fun p w' _=>d.aB p) d.size g;split at h
  ·rename_i v W L;simp only [At]at h;subst h;have l:dP Q σ o q.op=ae:=by simp only [lq,atI]at j;exact j.1.1
   obtain⟨M,N⟩:=G3 O d.sr d.b d.heap d.aB d.defs l L;obtain⟨X',u,a',E,⟨F,H,I,B,J⟩,x,K⟩:=M b ops i rest k cs y g S U;obtain⟨z,m,A⟩:=acT j (X:=X') (a:=a') (by rw [x];exact d.aB.ext' σ B) (by rw [x];exact d.size) I;refine⟨X',a'.put o.dst u,E,⟨F,H,J,?_,by rw [A];exact K,by rw [m,x];exact d.size⟩,B,by rw [m,x]⟩;simpa [N]using z
  ·simp at h
 ·rename_i g;have g:=nV j (fun p w' _=>d.aB p) d.size g;simp only [At]at h;subst h;obtain⟨z,m,A⟩:=acT j d.aB d.size (VR.undef (σ:=σ) (X:=X));refine⟨X,a.put o.dst undef,.one ?_,⟨d.heap,d.sr,d.b,z,by rw [A];exact d.defs,by rw [m];exact d.size⟩,Ext.refl _ _,m⟩;have:=stepR_op_skip (P:=Q) (b:=b) (a:=a) (k:=k) (cs:=cs) (w:=X.w) (ops:=ops) (i:=i) (rest:=rest) (by simp [y,g]);rw [y]at this;exact this
 ·simp at h
theorem G6(H:e9 Q σ call){n:Nat}{ops:Array Oper}{b:Frame}{k:List Item}{cs:List Frame}(I:jj b cs):∀(aos:List aP) (j:Nat) (X:Wd) (s s':St) (a:Act),Fr Q σ n X s a →
  fk (lq Q σ n ops) (ops.toList.drop j) aos=ae→(∀ ao ∈ aos,gS ao.op b)→fB call aos s=aa s' →
  ∃ X' a',Steps Q (lone (b.atR a (.inRegion ops ((List.range ops.size).drop j)::k)) cs X.w) (lone (b.atR a' k) cs X'.w)∧Fr Q σ n X' s' a'∧Ext X.H.length X X'∧a'.tmps.size=a.tmps.size
 | [],j,X,s,s',a,A,d,_,h=>by
  simp only [fB,At]at h;subst h;have S:(List.range ops.size).drop j=[]:=by
   cases g:ops.toList.drop j with
   | nil=>
    have:=av9.1 g;simp at this;rw [av9];simpa using this
   | cons x xs=>rw [g]at d;simp [fk]at d
  rw [S];exact⟨X,a,.one stepR_region_end,A,Ext.refl _ _,rfl⟩
 | ao::aos,j,X,s,s',a,A,d,J,h=>by
  cases g:ops.toList.drop j with
  | nil=>rw [g]at d;simp [fk]at d
  | cons o os=>
   rw [g]at d;simp only [fk,atI]at d;have v:j<ops.toList.length:=by
    rcases auK j ops.toList.length with q | q
    ·exact q
    ·rw [av9.2 q]at g;simp at g
   have l:=at7 v;rw [g]at l;simp only [List.cons.injEq]at l;obtain⟨U,F⟩:=l;simp only [fB]at h;split at h
   ·rename_i s1 q;have m:(List.range ops.size).drop j=j ::(List.range ops.size).drop (j+1):=by
     rw [at7 (by simpa using v)];simp
    rw [m];obtain⟨y,a1,M,N,z,O⟩:=ad3 H A d.1 q (b:=b) (i:=j) (rest:=(List.range ops.size).drop (j+1)) (k:=k) (cs:=cs) (by simp at v;simp [v,U]) I (J _ (by simp));obtain⟨K,L,W,Y,Z,k4⟩:=G6 H I aos (j+1) y s1 s' a1 N (by rw [←F];exact d.2) (fun ao h=>J ao (by simp [h])) h;refine⟨K,L,M.trans W,Y,z.trans (Z.mono ?_),k4.trans O⟩;have:=z.cM;rcases auK y.H.length X.H.length with u | E
    ·obtain⟨blk',B,_⟩:=z.cM y.H.length u _ (asZ u);have:=(atu.1 B).1;omega
    ·exact E
   ·simp at h
end
theorem kM{r r':T}{x:Arg}(h:∀ p ∈ x.rd,r.get p=r'.get p):x.ev r=x.ev r':=by
 cases x with
 | r p=>exact h p (by simp [Arg.rd])
 | k v=>rfl
theorem Qp{r r':T}{x:Option Arg}(h:∀ p ∈ oRd x,r.get p=r'.get p):x.map (·.ev r)=x.map (·.ev r'):=by
 cases x with
 | none=>rfl| some x=>simp only [auP];rw [kM h]
theorem gn{r r':T}{xs:List Arg}(h:∀ p ∈ xs.flatMap Arg.rd,r.get p=r'.get p):dy r xs=dy r' xs:=by
 unfold dy;refine List.map_congr_left fun x d=>kM fun p b=>h p (avz.2 ⟨x,d,b⟩)
theorem jl{r r':T}:∀(ps:List (Nat × Nat × Arg)) (cs:List C),(∀ p ∈ ps.flatMap (fun q=>q.2.2.rd),r.get p=r'.get p)→dE r cs ps=dE r' cs ps
 | [],cs,_=>rfl
 | (off,n,x)::ps,cs,h=>by
  simp only [dE];rw [kM (x:=x) (r:=r) (r':=r') fun p b=>h p (by simp [b])];split
  ·split
   ·exact jl ps _ fun p b=>h p (by simp only [List.flatMap_cons,auh];exact .inr b)
   ·rfl
  ·rfl
theorem Ff{r r':T}{H:aj}{op:cX}(h:∀ p ∈ op.rd,r.get p=r'.get p):bu r H op=bu r' H op:=by
 have e:∀ x:Arg,(∀ p ∈ x.rd,p ∈ op.rd)→x.ev r=x.ev r':=fun x A=>kM fun p d=>h p (A p d);have g:∀ x:Option Arg,(∀ p ∈ oRd x,p ∈ op.rd)→x.map (·.ev r)=x.map (·.ev r'):=fun x A=>Qp fun p d=>h p (A p d);cases op
 case build zs ps=>simp only [bu];rw [jl ps _ h]
 case bH sz zs n ps=>
  simp only [bu];rw [jl (r:=r) (r':=r') (ps.map fun p=>(p.1*sz,sz,p.2)) _ fun p d=>h p (by
   simp only [avz,auq]at d;obtain⟨q,⟨q',j,rfl⟩,u⟩:=d;exact avz.2 ⟨q',j,u⟩)]
 case fJ sz zs n ps=>
  simp only [bu];rw [jl (r:=r) (r':=r') (ps.map fun p=>(p.1*sz,sz,p.2)) _ fun p d=>h p (by
   simp only [avz,auq]at d;obtain⟨q,⟨q',j,rfl⟩,u⟩:=d;exact avz.2 ⟨q',j,u⟩)]
 case fP f xs=>simp only [bu];rw [gn h]
 case pick c a b=>
  simp only [bu];rw [e c (by simp +contextual [cX.rd])];split
  ·rename_i v _;cases v<;>simp [e a (by simp +contextual [cX.rd]),e b (by simp +contextual [cX.rd])]
  ·rfl
 case slice sz x lo hi mx=>simp only [bu];rw [e x (by simp +contextual [cX.rd]),g lo (by simp +contextual [cX.rd]),g hi (by simp +contextual [cX.rd]),g mx (by simp +contextual [cX.rd])]
 case nm n sz x lo hi mx=>simp only [bu];rw [e x (by simp +contextual [cX.rd]),g lo (by simp +contextual [cX.rd]),g hi (by simp +contextual [cX.rd]),g mx (by simp +contextual [cX.rd])]
 case oB x lo hi=>simp only [bu];rw [e x (by simp +contextual [cX.rd]),g lo (by simp +contextual [cX.rd]),g hi (by simp +contextual [cX.rd])]
 case ja B m k v=>simp only [bu];rw [e m (by simp +contextual [cX.rd]),e k (by simp +contextual [cX.rd]),e v (by simp +contextual [cX.rd])]
 case bc x=>simp only [bu];rw [e x (by simp +contextual [cX.rd])]
 case box x=>simp only [bu];rw [e x (by simp +contextual [cX.rd])]
 case load n x=>simp only [bu];rw [e x (by simp +contextual [cX.rd])]
 case cj x=>simp only [bu];rw [e x (by simp +contextual [cX.rd])]
 case un o x=>simp only [bu];rw [e x (by simp +contextual [cX.rd])]
 case fO k x=>simp only [bu];rw [e x (by simp +contextual [cX.rd])]
 case xz x=>simp only [bu];rw [e x (by simp +contextual [cX.rd])]
 case xy x=>simp only [bu];rw [e x (by simp +contextual [cX.rd])]
 case DX x=>simp only [bu];rw [e x (by simp +contextual [cX.rd])]
 case aU o x=>simp only [bu];rw [e x (by simp +contextual [cX.rd])]
 case field o n x=>simp only [bu];rw [e x (by simp +contextual [cX.rd])]
 case range x=>simp only [bu];rw [e x (by simp +contextual [cX.rd])]
 case next x=>simp only [bu];rw [e x (by simp +contextual [cX.rd])]
 case extract x i=>simp only [bu];rw [e x (by simp +contextual [cX.rd])]
 case len x=>simp only [bu];rw [e x (by simp +contextual [cX.rd])]
 case lens x=>simp only [bu];rw [e x (by simp +contextual [cX.rd])]
 case cap x=>simp only [bu];rw [e x (by simp +contextual [cX.rd])]
 case entry x=>simp only [bu];rw [e x (by simp +contextual [cX.rd])]
 case kE x=>simp only [bu];rw [e x (by simp +contextual [cX.rd])]
 case oz x=>simp only [bu];rw [e x (by simp +contextual [cX.rd])]
 case clear s z x=>simp only [bu];rw [e x (by simp +contextual [cX.rd])]
 case gR lo xs=>simp only [bu];rw [gn h]
 case mZ f xs=>simp only [bu];rw [gn h]
 case wP s x y z=>simp only [bu];rw [e x (by simp +contextual [cX.rd]),e y (by simp +contextual [cX.rd]),e z (by simp +contextual [cX.rd])]
 case lK s b z x y=>simp only [bu];rw [e x (by simp +contextual [cX.rd]),e y (by simp +contextual [cX.rd])]
 case store n x y=>simp only [bu];rw [e x (by simp +contextual [cX.rd]),e y (by simp +contextual [cX.rd])]
 case bin o x y=>simp only [bu];rw [e x (by simp +contextual [cX.rd]),e y (by simp +contextual [cX.rd])]
 case eq n k x y=>simp only [bu];rw [e x (by simp +contextual [cX.rd]),e y (by simp +contextual [cX.rd])]
 case bI s a x y=>simp only [bu];rw [e x (by simp +contextual [cX.rd]),e y (by simp +contextual [cX.rd])]
 case idxs x y=>simp only [bu];rw [e x (by simp +contextual [cX.rd]),e y (by simp +contextual [cX.rd])]
 case xB l s n x y=>simp only [bu];rw [e x (by simp +contextual [cX.rd]),e y (by simp +contextual [cX.rd])]
 case append s b x y=>simp only [bu];rw [e x (by simp +contextual [cX.rd]),e y (by simp +contextual [cX.rd])]
 case copy s x y=>simp only [bu];rw [e x (by simp +contextual [cX.rd]),e y (by simp +contextual [cX.rd])]
 case lookup c z x y=>simp only [bu];rw [e x (by simp +contextual [cX.rd]),e y (by simp +contextual [cX.rd])]
 case dR s b z x y=>simp only [bu];rw [e x (by simp +contextual [cX.rd]),e y (by simp +contextual [cX.rd])]
 all_goals rfl
theorem G4{call:cR}{s:St}{r':T}{op:cX}(h:∀ p ∈ op.rd,s.aB.get p=r'.get p){v:V}{s':St}(b:eQ call s op=aa (v,s')):eQ call { s with aB:=r' } op=aa (v,{ s' with aB:=r' }):=by
 by_cases d:(∃ f xs h,op=.call f xs h)∨(∃ x xs h,op=.cm x xs h)∨op=.recover∨∃ x xs,op=.defer x xs
 ·rcases d with⟨f,xs,m,rfl⟩ | ⟨x,xs,m,rfl⟩ | rfl | ⟨x,xs,rfl⟩
  ·simp only [eQ,at0,at1]at b ⊢;obtain⟨q,g,rfl,rfl⟩:=b;rw [gn h]at g;exact⟨q,g,rfl,rfl⟩
  ·simp only [eQ]at b ⊢;rw [kM (x:=x) (r:=s.aB) (r':=r') (fun p d=>h p (by simp [cX.rd,d])),gn (xs:=xs) (r:=s.aB) (r':=r') (fun p d=>h p (by simp only [cX.rd,auh];exact .inr d))]at b;split at b
   ·simp only [at0,at1]at b ⊢;obtain⟨q,g,rfl,rfl⟩:=b;exact⟨q,g,rfl,rfl⟩
   ·simp at b
  ·simp only [eQ,At,at1]at b ⊢;obtain⟨rfl,rfl⟩:=b;exact⟨rfl,rfl⟩
  ·simp only [eQ]at b ⊢;rw [kM (x:=x) (r:=s.aB) (r':=r') (fun p d=>h p (by simp [cX.rd,d])),gn (xs:=xs) (r:=s.aB) (r':=r') (fun p d=>h p (by simp only [cX.rd,auh];exact .inr d))]at b;split at b
   ·simp only [At,at1]at b ⊢;obtain⟨rfl,rfl⟩:=b;exact⟨rfl,rfl⟩
   ·simp at b
 ·have j:(bu s.aB s.heap op).map (fun r=>(r.1,{ s with heap:=r.2 }))=aa (v,s'):=by
   cases op<;>first | exact b | (exfalso;apply d;simp)
  have l:eQ call { s with aB:=r' } op=(bu r' s.heap op).map (fun r=>(r.1,{ s with aB:=r',heap:=r.2 })):=by
   cases op<;>first | rfl | (exfalso;apply d;simp)
  rw [l,←Ff h];simp only [at0,at1]at j ⊢;obtain⟨q,g,rfl,rfl⟩:=j;exact⟨q,g,rfl,rfl⟩
theorem alg{r:T}{op:cX}(b:cls op=.p)(H H':aj):bu r H' op=(bu r H op).map fun q=>(q.1,H'):=by
 cases op<;>simp only [cls,reduceCtorEq]at b<;>simp only [bu]
 all_goals first
  | (simp [Function.comp_def];done)
  | (split<;>simp [Function.comp_def];done)
  | (split<;>(first | rfl | (split<;>rfl)))
section
theorem fm{H H':aj}(l:di H H')(b:Nat):H[b]?=ab∨(∃ cs fl g,H[b]?=aa (.box cs fl)∧H'[b]?=aa (.box cs g)) ∨
  (∃ s cs fl g e st,H[b]?=aa (.b5 s cs fl e st)∧H'[b]?=aa (.b5 s cs g e st))∨∃ bq,H[b]?=aa bq∧H'[b]?=aa bq:=by
 cases m:H[b]? with
 | none=>exact .inl rfl
 | some bq=>
  obtain⟨blk',d,j⟩:=l b _ m;cases bq<;>cases blk'<;>simp only [dq,reduceCtorEq]at j
  ·obtain⟨rfl,_⟩:=j;exact .inr (.inl ⟨_,_,_,rfl,d⟩)
  ·obtain⟨rfl,rfl,_,rfl,rfl⟩:=j;exact .inr (.inr (.inl ⟨_,_,_,_,_,_,rfl,d⟩))
  all_goals (rw [←j]at d;exact .inr (.inr (.inr ⟨_,rfl,d⟩)))
variable{H H':aj}
theorem BF(j:di H H'){x:C}{cs:List C}(h:aG H x=aa cs):aG H' x=aa cs:=by
 cases x with
 | ptr b off ep=>
  simp only [aG]at h ⊢;rcases fm j b with e | ⟨cs,fl,g,e,d⟩ | ⟨s,cs,fl,g,l,st,e,d⟩ | ⟨bq,e,d⟩
  ·simp [e]at h
  ·rw [e]at h;rw [d];exact h
  ·rw [e]at h;rw [d];cases st<;>exact h
  ·rw [e]at h;rw [d];exact h
 | f x=>cases x<;>exact h
 | _=>simp [aG]at h
theorem ajd(g:di H H'){n:Option Nat}{x:V}{v:V}(h:aV H n x=aa v):aV H' n x=aa v:=by
 cases x with
 | c x=>
  simp only [aV,Option.bind_eq_some_iff]at h ⊢;obtain⟨cs,b,d⟩:=h;exact⟨cs,BF g b,d⟩
 | _=>simp [aV]at h
theorem zu(j:di H H'){x:C}{n:Nat}(h:bA H x=aa n):bA H' x=aa n:=by
 cases x with
 | sl b o l c ep sz=>
  simp only [bA]at h ⊢;rcases fm j b with e | ⟨cs,fl,g,e,d⟩ | ⟨s,cs,fl,g,m,st,e,d⟩ | ⟨bq,e,d⟩
  ·simp [e]at h
  all_goals (rw [e]at h;rw [d];exact h)
 | f x=>cases x<;>exact h
 | _=>simp [bA]at h
theorem CV(j:di H H'){sz:Nat}{x:C}{cs:List C}(h:cO H sz x=aa cs):cO H' sz x=aa cs:=by
 cases x with
 | sl b o l c ep s=>
  simp only [cO]at h ⊢;rcases fm j b with e | ⟨cs,fl,g,e,d⟩ | ⟨s,cs,fl,g,m,st,e,d⟩ | ⟨bq,e,d⟩
  ·simp [e]at h
  all_goals (rw [e]at h;rw [d];exact h)
 | f x=>cases x<;>exact h
 | _=>simp [cO]at h
theorem nI(j:di H H'){k:FE}{x:C}{b:Bool}(h:isNil H k x=aa b):isNil H' k x=aa b:=by
 cases k<;>cases x<;>first | exact h | (simp [isNil]at h;done) | skip
 case sl.sl bb o l c ep s=>
  simp only [isNil]at h ⊢;rcases fm j bb with e | ⟨cs,fl,g,e,d⟩ | ⟨s,cs,fl,g,m,st,e,d⟩ | ⟨bq,e,d⟩
  ·simp [e]at h
  all_goals (rw [e]at h;rw [d];exact h)
 all_goals (rename_i y;cases y<;>exact h)
theorem aiN(d:di H H'){k:FE}{x y:V}{b:Bool}(h:D0 H k x y=aa b):D0 H' k x y=aa b:=by
 unfold D0 at h;split at h
 ·exact h
 ·exact h
 ·exact nI d h
 ·exact nI d h
 ·exact nI d h
 ·exact nI d h
 ·simp at h
theorem E5(j:di H H'){sz:Nat}{x:V}{lo hi mx:Option V}{v:V}(h:dk H sz x lo hi mx=aa v):dk H' sz x lo hi mx=aa v:=by
 unfold dk at h;split at h
 ·exact h
 ·exact h
 ·exact h
 ·rename_i b o n cap ep s;simp only [dk];rcases fm j b with e | ⟨cs,fl,g,e,d⟩ | ⟨s,cs,fl,g,l,st,e,d⟩ | ⟨bq,e,d⟩
  ·simp [e]at h
  all_goals (rw [e]at h;rw [d];exact h)
 ·simp at h
theorem E3(j:di H H'){n sz:Nat}{x:V}{lo hi mx:Option V}{v:V}(h:kH H n sz x lo hi mx=aa v):kH H' n sz x lo hi mx=aa v:=by
 unfold kH at h;split at h
 ·rename_i b off ep;simp only [kH];rcases fm j b with e | ⟨cs,fl,g,e,d⟩ | ⟨s,cs,fl,g,l,st,e,d⟩ | ⟨bq,e,d⟩
  ·simp [e]at h
  all_goals (rw [e]at h;rw [d];exact h)
 ·exact h
 ·simp at h
theorem B9(m:di H H'){sz:Nat}{d:Option Nat}{x i:V}{v:V}(h:bG H sz d x i=aa v):bG H' sz d x i=aa v:=by
 unfold bG at h ⊢;split at h
 ·simp at h
 ·split at h
  ·rename_i hi;simp only [hi,if_true];split at h
   ·rename_i b o l c ep s;split at h
    ·rename_i q;simp only [q,if_true];rcases fm m b with e | ⟨cs,fl,j,e,g⟩ | ⟨s,cs,fl,j,u,st,e,g⟩ | ⟨bq,e,g⟩
     ·simp [e]at h
     ·rw [e]at h;rw [g];exact h
     ·rw [e]at h;rw [g];cases st<;>exact h
     ·rw [e]at h;rw [g];exact h
    ·simp at h
   ·exact h
   ·exact h
   ·exact h
   ·simp at h
  ·simp at h
theorem Cf(l:di H H'){j:CK}{z:FC}{m k:V}{v:V}(h:fX H j z m k=aa v):fX H' j z m k=aa v:=by
 unfold fX at h;split at h
 ·exact h
 ·rename_i b k;simp only [fX];rcases fm l b with e | ⟨cs,fl,g,e,d⟩ | ⟨s,cs,fl,g,q,st,e,d⟩ | ⟨bq,e,d⟩
  ·simp [e]at h
  all_goals (rw [e]at h;rw [d];exact h)
 ·simp at h
theorem PG(d:di H H'){x v:V}(h:ot H x=aa v):ot H' x=aa v:=by
 cases x with
 | c x=>
  simp only [ot]at h ⊢;split at h
  ·rename_i n g;split at h
   ·rename_i cs b;rw [zu d g,CV d b];exact h
   ·simp at h
  ·simp at h
 | _=>simp [ot]at h
theorem QK(j:di H H'){x:C}{n:Nat}(h:jb H x=aa n):jb H' x=aa n:=by
 cases x with
 | sl b o l c ep sz=>
  simp only [jb]at h ⊢;rcases fm j b with e | ⟨cs,fl,g,e,d⟩ | ⟨s,cs,fl,g,m,st,e,d⟩ | ⟨bq,e,d⟩
  ·simp [e]at h
  ·rw [e]at h;rw [d];exact h
  ·rw [e]at h;rw [d];cases st<;>exact h
  ·rw [e]at h;rw [d];exact h
 | f x=>cases x<;>exact h
 | _=>simp [jb]at h
theorem ajm(l:di H H'){b:Nat}{d:List (FC × C)}(h:H[b]?=aa (.map d)):H'[b]?=aa (.map d):=by
 obtain⟨blk',j,g⟩:=l b _ h;cases blk'<;>simp only [dq,reduceCtorEq,bz.map.injEq]at g;subst g;exact j
theorem ajp(l:di H H'){b m s:Nat}{d:Bool}(h:H[b]?=aa (.xn m s d)):H'[b]?=aa (.xn m s d):=by
 obtain⟨blk',j,g⟩:=l b _ h;cases blk'<;>simp only [dq,reduceCtorEq,bz.xn.injEq]at g;obtain⟨rfl,rfl,rfl⟩:=g;exact j
theorem DZ(b:di H H'){x v:V}(h:lM H x=aa v):lM H' x=aa v:=by
 unfold lM at h;split at h
 ·split at h
  ·rename_i d;split at h
   ·rename_i g;simp only [lM,ajp b d,ajm b g];exact h
   ·simp at h
  ·simp at h
 ·simp at h
theorem G5{r:T}{op:cX}(l:cls op=.r)(b:di H H'){v:V}{j:aj}(h:bu r H op=aa (v,j)):j=H∧bu r H' op=aa (v,H'):=by
 cases op<;>first | (simp only [bu,reduceCtorEq]at h;done) | (simp only [cls,reduceCtorEq]at l;done) | simp only [bu]at h ⊢
 case len x=>
  split at h
  ·rename_i y m;split at h
   ·rename_i n g;simp only [At,at1]at h;obtain⟨rfl,rfl⟩:=h;simp only [zu b g];simp
   ·simp at h
  ·simp at h
 case cap x=>
  split at h
  ·rename_i y m;split at h
   ·rename_i n g;simp only [At,at1]at h;obtain⟨rfl,rfl⟩:=h;simp only [QK b g];simp
   ·simp at h
  ·simp at h
 all_goals
  simp only [at0,at1]at h;obtain⟨q,d,rfl,rfl⟩:=h;refine⟨rfl,?_⟩
 case entry=>rw [DZ b d];rfl
 case load=>rw [ajd b d];rfl
 case eq=>rw [aiN b d];rfl
 case slice=>rw [E5 b d];rfl
 case nm=>rw [E3 b d];rfl
 case bI=>rw [B9 b d];rfl
 case lookup=>rw [Cf b d];rfl
 case xy=>rw [PG b d];rfl
theorem arB{r:T}{op:cX}(g:cls op=.a){v:V}{d:aj}(h:bu r H op=aa (v,d)):d=H∨∃ bq,d=H++[bq]:=by
 cases op<;>first | (simp only [cls,reduceCtorEq]at g;done) | simp only [bu]at h
 case call=>simp at h
 case alloc zs=>simp only [At,at1]at h;exact .inr ⟨_,h.2.symm⟩
 case jH=>simp only [At,at1]at h;exact .inr ⟨_,h.2.symm⟩
 case box x=>
  split at h
  ·simp only [At,at1]at h;exact .inr ⟨_,h.2.symm⟩
  ·simp at h
 case bH sz zs n ps=>
  split at h
  ·split at h
   ·simp only [At,at1]at h;exact .inl h.2.symm
   ·simp at h
  ·simp only [at0,at1]at h;obtain⟨q,j,rfl,rfl⟩:=h;exact .inr ⟨_,rfl⟩
 case dR sz b zs x y=>
  split at h
  ·split at h
   ·split at h
    ·simp only [At,at1]at h;exact .inl h.2.symm
    ·simp only [At,at1]at h;exact .inr ⟨_,h.2.symm⟩
   ·simp at h
  ·simp at h
end
section
variable{Q:Program}{σ:Nat→FuncId}{X:Wd}
theorem F7(d:SR Q σ X)(l:X.B≤X.w.heap.size){n:Nat}{cs:List C}{fl:Nat}(s:X.H[n]?=aa (.box cs fl))(u:X.cB n=ab){us:List Value}(h:A2 (CR σ X) cs us)(e:TypeId) :
  ∃ X',X'.w=X.w.alloc (.cells us.toArray e)∧X'.H=X.H∧SR Q σ X'∧Ext X.H.length X X'∧X'.cB n=aa ⟨X.w.heap.size,0⟩∧X'.B≤X'.w.heap.size∧∀ b,b≠n→X'.cB b=X.cB b:=by
 obtain⟨g,j⟩:=SR.fill d l s u (dW.alloc X.w (.cells us.toArray e)) 0 (fun v=>⟨us,jv (dW.alloc _ _),A2.ext' σ v h,fun i _ q=>by
  have:=d.fb _ _ q;simp at this⟩)
 exact⟨{ X with cB:=fun b=>if b=n then aa ⟨X.w.heap.size,0⟩else X.cB b,w:=X.w.alloc (.cells us.toArray e) },rfl,rfl,g,j,by simp,by simp;omega,fun b m=>by simp [m]⟩
def DC(Q:Program)(σ:Nat→FuncId)(X:Wd)(n:Nat)(v:V)(s:Sem Next)(e:Prop):Prop:=
 ∃ X' u,s.run Q X.w=.ok (.value u) X'.w∧eY Q σ X v X.H X' u∧(∀ b,b≠n→X'.cB b=X.cB b)∧(e→X'.cB=X.cB)
theorem BX(y:SR Q σ X)(x:X.B≤X.w.heap.size){n:Nat}{cs:List C}{fl:Nat}(g:X.H[n]?=aa (.box cs fl))(A:X.cB n=ab){us:List Value}(h:A2 (CR σ X) cs us)(e:TypeId){s:Sem Next}{b:Prop}(z:¬ b)
  (B:s.run Q X.w=.ok (.value (.pointer (aa ⟨X.w.heap.size,0,ab⟩))) (X.w.alloc (.cells us.toArray e))):DC Q σ X n (.c (.ptr n 0 0)) s b:=by
 obtain⟨X',j,d,l,m,q,u,v⟩:=F7 y x g A h e;refine⟨X',_,by rw [j];exact B,⟨d,l,?_,m,u⟩,v,fun h=>absurd h z⟩;exact⟨_,q,by rw [d,g]⟩
theorem F8(A:SR Q σ X)(z:X.B≤X.w.heap.size){n:Nat}{cs:List C}{fl:Nat}(j:X.H[n]?=aa (.box cs fl))(E:X.cB n=ab){us:List Value}(h:A2 (CR σ X) cs us)(e:TypeId){s:Sem Next}{l c sz:Nat}(b:l≤c){d:Prop}(B:¬ d)
  (F:s.run Q X.w=.ok (.value (.slice (aa ⟨X.w.heap.size,0,ab⟩) l c)) (X.w.alloc (.cells us.toArray e))):DC Q σ X n (.c (.sl n 0 l c 0 sz)) s d:=by
 obtain⟨X',m,g,q,u,v,x,y⟩:=F7 A z j E h e;refine⟨X',_,by rw [m];exact F,⟨g,q,?_,u,x⟩,y,fun h=>absurd h B⟩;simp only [VR,hZ,CR,fj,g,j];exact⟨_,v,b,rfl⟩
theorem pT{H b:aj}{cs:List C}(h:di (H++[.box cs 0]) b):∃ fl,b[H.length]?=aa (.box cs fl):=by
 obtain⟨blk',g,d⟩:=h H.length (.box cs 0) (by simp);cases blk'<;>simp only [dq,reduceCtorEq]at d;obtain⟨rfl,_⟩:=d;exact⟨_,g⟩
theorem CU{w':World}{o:Obj}(g:SR Q σ X)(d:dW X.w w' o)(q:X.B≤X.w.heap.size):∃ X':Wd,X'.w=w'∧X'.H=X.H∧SR Q σ X'∧Ext X.H.length X X'∧X'.B≤X'.w.heap.size∧X'.cB=X.cB:=by
 have j:Ext X.H.length X { X with w:=w' }:=Ext.one g X.H.length rfl (fun _ _=>Iff.rfl) (fun k m _=>d.Dn m)
  (fun L i h=>by rw [SR.sA g]at h;simp at h) (fun h=>absurd h (avU _)) (fun _ _ _=>rfl) (fun _ _=>rfl) (fun L h=>.inl ⟨L,h,rfl⟩) (by show _≤w'.heap.size;rw [d.size];omega) d.os d.tape d.output
 refine⟨{ X with w:=w' },rfl,rfl,SR.step Q σ g j X.H.length (fun _ _=>rfl) (fun _ _=>rfl) (fun b L _ l=>d.Dn (g.br b L l).2.1)
  (fun _ _ _ _ _ h=>h) (fun L h=>by change X.cB X.H.length=aa L at h;rw [SR.sA g]at h;simp at h) (fun c i h=>?_),j,?_,rfl⟩
 ·have:=g.fb c i h;show c<w'.heap.size;rw [d.size];omega
 ·show X.B≤w'.heap.size;rw [d.size];omega
theorem ajb(M:SR Q σ X)(L:X.B≤X.w.heap.size){a:Act}{aB:T}(hR:RR σ X aB a.tmps){o:Oper}{op:cX}(hc:cls op=.a)(d:dP Q σ o op=ae){H H1:aj}{v:V}(h:bu aB H op=aa (v,H1))
  (hH:di H1 X.H) (W:H1.length≠H.length→X.cB H.length=ab):DC Q σ X H.length v (execOp a.eval o) (H1.length=H.length):=by
 cases op<;>first | (simp only [cls,reduceCtorEq]at hc;done) | skip
 case call f xs h'=>simp [bu]at h
 case alloc zs=>
  simp only [bu,At,at1]at h;obtain⟨rfl,rfl⟩:=h;obtain⟨fl,F⟩:=pT hH;simp only [dP]at d;split at d
  ·rename_i t B;obtain⟨z,us,h1,K,h3,_⟩:=eO (σ:=σ) (X:=X) d X.w;refine BX M L F (W (by simp)) h3 t (by simp) ?_;simp only [execOp,B];refine ef ?_;simp [Instr.alloc,h1,newVar,newRow,K]
  ·simp at d
 case jH=>
  simp only [bu,At,at1]at h;obtain⟨rfl,rfl⟩:=h;have F:X.H[H.length]?=aa (.map []):=by
   obtain⟨blk',hb,hl⟩:=hH H.length (.map []) (by simp);cases blk'<;>simp only [dq,reduceCtorEq,bz.map.injEq]at hl;subst hl;exact hb
  simp only [dP]at d;split at d
  ·rename_i t B;have W:=W (by simp);obtain⟨h1,K⟩:=SR.fill M L F W (dW.alloc X.w (.map #[] 0)) 0 (fun hx=>⟨[],(dW.alloc _ _).new,A2.nil,by simp⟩);refine⟨{ X with cB:=fun b=>if b=H.length then aa ⟨X.w.heap.size,0⟩else X.cB b,w:=X.w.alloc (.map #[] 0) },.map (aa X.w.heap.size),?_,⟨rfl,h1,⟨⟨X.w.heap.size,0⟩,by simp,⟨[],F⟩,rfl⟩,K,by show X.B≤_;simp;omega⟩,fun b hb=>by simp [hb],fun h=>by simp at h⟩;simp [execOp,B,Instr.makeMap]
  ·simp at d
 case box x=>
  simp only [bu]at h;split at h
  ·rename_i xs i6;simp only [At,at1]at h;obtain⟨rfl,rfl⟩:=h;obtain⟨fl,F⟩:=pT hH;simp only [dP]at d;split at d
   ·rename_i t y B;obtain⟨us,K,h3⟩:=pH (bT hR d) i6;refine BX M L F (W (by simp)) h3 t (by simp) ?_;simp only [execOp,B];refine ef ?_;simp [Instr.box,newVar,newRow,K]
   ·simp at d
  ·simp at h
 case bH sz zs n ps=>
  simp only [dP]at d;split at d
  ·rename_i t n' qs B;simp only [atI,beq_iff_eq,decide_eq_true_eq]at d;obtain⟨⟨⟨⟨rfl,s⟩,E⟩,j4⟩,hq⟩:=d;obtain⟨e,hu,E⟩:=iB E;simp only [atI,decide_eq_true_eq]at E;obtain⟨⟨j,hz⟩,i8⟩:=E;obtain⟨z,us,Y,Z,A,_⟩:=eO (σ:=σ) (X:=X) hz X.w;have I:us.length=sz:=by have:=A.len;simp at this;omega
   simp only [bu]at h;split at h
   ·rename_i F;subst F;split at h
    ·rename_i b_;simp only [At,at1]at h;obtain⟨rfl,rfl⟩:=h;have U:qs.toList=[]:=by
      have:=(eC hq).len;simp only [List.isEmpty_iff]at b_;rw [b_]at this;exact aud this.symm
     have U:qs=#[]:=by apply Array.ext';simpa using U
     obtain⟨X',h1,K,h3,h4,h5,h6⟩:=CU M (dW.alloc X.w (.cells #[] e)) L;refine⟨X',.slice (aa ⟨X.w.heap.size,0,ab⟩) 0 0,?_,⟨K,h3,cT.es _,h4,h5⟩,fun b _=>by rw [h6],fun _=>h6⟩;rw [h1];simp only [execOp,B];refine ef ?_;simp [Instr.buildSlice,bf hu,dg j,U,Instr.fill,newRow,show Array.range 0=(#[]:Array Nat) from rfl]
    ·simp at h
   ·rename_i F;simp only [at0,at1]at h;obtain⟨cs,g_,rfl,rfl⟩:=h;obtain⟨fl,O⟩:=pT hH;obtain⟨j_,h5,h6⟩:=nG (place:=fun i=>aa (i*sz,sz)) (ps:=qs.toList) hR (qs:=ps.map fun p=>(p.1*sz,sz,p.2)) (A2.map ((eC hq).kI fun q p S=>by
     simp only [atI,beq_iff_eq]at S;exact⟨by rw [S.1],S.2⟩)) (jO A n') g_
    refine F8 M L O (W (by simp)) h6 e (at3 _) (by simp) ?_;simp only [execOp,B];refine ef ?_;have h_:n'*sz≠0:=by
     intro h0;rcases avX.1 h0 with h0 | h0<;>omega
    have e_:=iS us n' (by omega);rw [I]at e_;simp only [Instr.buildSlice,Sem.run_bind,bf hu,dg j,Result.andThen_ok,aY (show¬ n'*sz>2 ^ 24 by omega),Sem.run_ite,aY h_,Y,Sem.run_pure,Z];simp only [Array.toList_map];rw [e_];simp [h5,newRow]
  ·simp at d
 case dR sz bytes zs x y=>
  simp only [dP]at d;split at d
  ·rename_i t x' y' B;simp only [atI,decide_eq_true_eq]at d;obtain⟨⟨⟨hx,hy⟩,E⟩,i_⟩:=d;have hx:=bT hR hx;have hy:=bT hR hy;obtain⟨e,hu,E⟩:=iB E;simp only [atI]at E;obtain⟨⟨j,f_⟩,hz⟩:=E;obtain⟨z,us,Y,Z,A,j9,j6,j7⟩:=eO (σ:=σ) (X:=X) hz X.w;obtain⟨j5,a7,a8⟩:=AH f_ X.w;simp only [bu]at h;split at h
   ·rename_i l c hl hc;obtain⟨kl,i5⟩:=jh hx hl;obtain⟨kc,i7⟩:=jh hy hc;split at h
    ·rename_i N;obtain⟨h0,j8,u,i8⟩:=N;unfold bU at u;simp only [atI,decide_eq_true_eq]at u;have I:us.length=sz:=by have:=A.len;simp at this;omega
     have d_:=wrap_small (n:=l) h0 (by omega);have d9:=wrap_small (n:=c) (by omega) (by omega);have i9:c.toNat*bytes≤2 ^ 48:=by
      have:c.toNat*bytes≤(2*c.toNat+768)*bytes:=auO _ (by omega);omega
     have s:¬ ((bytes:Int)*c>2 ^ 48):=by
      have e1:(bytes:Int)*c=((c.toNat*bytes:Nat):Int):=by
       rw [avK,avE];congr 1;omega
      rw [e1];omega
     have c_:((Array.range (c.toNat*sz)).map fun i=>us.toArray[i % us.toArray.size]!)=(cE c.toNat us).toArray:=by
      have:=iS us c.toNat (by omega);rwa [I]at this
     have run:(execOp a.eval o).run Q X.w=.ok (.value (.slice (aa ⟨X.w.heap.size,0,ab⟩) l.toNat c.toNat)) (X.w.alloc (.cells (cE c.toNat us).toArray e)):=by
      simp only [execOp,B];refine ef ?_;rw [i5,i7];have a_:¬ c<0:=by omega
      have b9:¬ l<0:=by omega
      have J:¬ l>c:=by omega
      by_cases m:c.toNat*sz=0
      ·have i4:cE c.toNat us=[]:=aud (by rw [lD,I];exact m);have g:((decide (c<0)||decide ((bytes:Int)*c>2 ^ 48))||decide (l<0)||decide (l>c))=ag:=by rw [decide_eq_false a_,decide_eq_false b9,decide_eq_false J,decide_eq_false s];rfl
       simp only [Instr.makeSlice,Sem.run_bind,bf hu,asInt,asIntOf,Sem.run_pure,Result.andThen_ok,a7,a8,d_,d9,run_askRoom,dg j];simp only [g,aub,if_false,Sem.run_ite,bg m,Sem.run_bind,Result.andThen_ok,Sem.run_pure,run_askRoom,dg j,newRow,run_newObj];rw [m,i4,show(Array.map (fun x=>(#[]:Array Value)[x % (#[]:Array Value).size]!) (Array.range 0))=#[] from by simp [show Array.range 0=(#[]:Array Nat) from rfl]];rfl
      ·simp only [Instr.makeSlice,Sem.run_bind,bf hu,asInt,asIntOf,Sem.run_pure,Result.andThen_ok,a7,a8,d_,d9,run_askRoom,dg j];have g:((decide (c<0)||decide ((bytes:Int)*c>2 ^ 48))||decide (l<0)||decide (l>c))=ag:=by rw [decide_eq_false a_,decide_eq_false b9,decide_eq_false J,decide_eq_false s];rfl
       simp only [g,aub,if_false,Sem.run_ite,aY m,Sem.run_bind,Y,Z,Result.andThen_ok,Sem.run_pure,run_askRoom,dg j,c_,newRow,run_newObj];rfl
     split at h
     ·rename_i m;subst m;simp only [At,at1]at h;obtain⟨rfl,rfl⟩:=h;have:l=0:=by omega
      subst this;obtain⟨X',g1,g2,g3,g4,g5,g6⟩:=CU M (dW.alloc X.w (.cells (cE (0:Int).toNat us).toArray e)) L;exact⟨X',_,by rw [g1];exact run,⟨g2,g3,cT.es _,g4,g5⟩,fun b _=>by rw [g6],fun _=>g6⟩
     ·simp only [At,at1]at h;obtain⟨rfl,rfl⟩:=h;obtain⟨fl,O⟩:=pT hH;exact F8 M L O (W (by simp)) (jO A c.toNat) e (by omega) (by simp) run
    ·simp at h
   ·simp at h
  ·simp at d
end
theorem Eo{acc:List Nat}{o:Oper}{i:Nat}:(mX acc o).testBit i=ae↔∃ e ∈ o.after.toList,Region.binds .any e=ae∧(e.on=i∨(acc.getD e.on 0).testBit i=ae):=by
 unfold mX;have key:∀(l:List Edge) (s:Nat),(l.foldl (fun s e=>if Region.binds .any e then s ||| 2 ^ e.on ||| acc.getD e.on 0 else s) s).testBit i=ae ↔
   s.testBit i=ae∨∃ e ∈ l,Region.binds .any e=ae∧(e.on=i∨(acc.getD e.on 0).testBit i=ae):=by
  intro l;induction l with
  | nil=>intro s;simp
  | cons e l d=>
   intro s;simp only [avt,d,auc,exists_eq_or_imp];by_cases b:Region.binds .any e=ae
   ·simp only [b,if_true,Nat.testBit_or,Bool.or_eq_true,Nat.testBit_two_pow,decide_eq_true_eq,true_and,or_assoc]
   ·simp [b]
 rw [key];simp
theorem yY:∀(os:List Oper) (acc:List Nat),(dz os acc).length=acc.length+os.length
 | [],acc=>by simp [dz]
 | o::os,acc=>by rw [dz,yY];simp;omega
theorem su:∀(os:List Oper) (acc:List Nat) (k:Nat),k<acc.length→(dz os acc)[k]?=acc[k]?
 | [],acc,k,_=>rfl
 | o::os,acc,k,h=>by
  rw [dz,su os _ k (by simp;omega),anc h]
theorem yZ:∀(os:List Oper) (acc:List Nat) (t:Nat) (o:Oper),os[t]?=aa o→(dz os acc)[acc.length+t]?=aa (mX ((dz os acc).take (acc.length+t)) o)
 | [],acc,t,o,h=>by simp at h
 | o'::os,acc,0,o,h=>by
  simp only [avu,At]at h;subst h;have d:∀ k,k<acc.length→(dz os (acc++[mX acc o']))[k]?=acc[k]?:=fun k g=>by rw [su os _ k (by simp;omega),anc g]
  have b:(dz os (acc++[mX acc o'])).take acc.length=acc:=by
   apply avs;intro k;rw [auD];split
   ·rename_i g;exact d k g
   ·rename_i g;rw [avc (by omega)]
  rw [dz,avD,b,su os _ _ (by simp)];simp
 | o'::os,acc,t+1,o,h=>by
  simp only [avJ]at h;have:=yZ os (acc++[mX acc o']) t o h;rw [dz];rw [show acc.length+(t+1)=(acc++[mX acc o']).length+t by simp;omega];exact this
theorem FJ{ops:List Oper}{i j:Nat}{o:Oper}(l:ops[j]?=aa o) :
  AT (dz ops []) i j=ae↔∃ e ∈ o.after.toList,Region.binds .any e=ae∧(e.on=i∨(e.on<j∧AT (dz ops []) i e.on=ae)):=by
 have h:=yZ ops [] j o l;simp only [List.length_nil,auH]at h;unfold AT;rw [avB,h,Option.getD_some,Eo];have g:∀ k,((dz ops []).take j).getD k 0=if k<j then(dz ops []).getD k 0 else 0:=by
  intro k;simp only [avB,auD];split<;>simp
 constructor
 ·rintro⟨e,d,b,h⟩;refine⟨e,d,b,h.imp id fun h=>?_⟩;rw [g]at h;split at h
  ·rename_i m;exact⟨m,h⟩
  ·simp at h
 ·rintro⟨e,d,b,h⟩;refine⟨e,d,b,h.imp id fun h=>?_⟩;rw [g,bg h.1];exact h.2
def oD(ops:List Oper)(D:Nat→Prop):Prop:=∀ j o,D j→ops[j]?=aa o→∀ e ∈ o.after.toList,Region.binds .any e=ae→D e.on
theorem oD.below{ops:List Oper}{D:Nat→Prop}(h:oD ops D){i:Nat}:∀(j:Nat),D j→AT (dz ops []) i j=ae→D i:=by
 intro j;induction j using Nat.strongRecOn with
 | ind j m=>
  intro l b;cases ho:ops[j]? with
  | none=>
   exfalso;unfold Km.AT at b;have:(dz ops []).length≤j:=by rw [yY];simpa using List.getElem?_eq_none_iff.1 ho
   rw [avB,avc this]at b;simp at b
  | some o=>
   obtain⟨e,g,d,h1 | ⟨h1,h2⟩⟩:=(FJ ho).1 b
   ·exact h1▸h j o l ho e g d
   ·exact m e.on h1 (h j o l ho e g d) h2
theorem oD.ready{ops:List Oper}{D:Nat→Prop}(h:oD ops D){i j:Nat}{o:Oper}(ho:ops[j]?=aa o)(hr:∀ e ∈ o.after.toList,Region.binds .any e=ae→D e.on)(g:AT (dz ops []) i j=ae):D i:=by
 obtain⟨e,d,b,h1 | ⟨h1,h2⟩⟩:=(FJ ho).1 g
 ·exact h1▸hr e d b
 ·exact h.below e.on (hr e d b) h2
def Gh(aos:List aP)(j:Nat):Prop:=∃ y,aos[j]?=aa y∧cls y.op=.w
theorem mY{aos:List aP}{j:Nat}:j ∈ ml aos↔Gh aos j:=by
 unfold ml Gh;rw [List.mem_filter,List.mem_range];constructor
 ·rintro⟨_,h⟩;split at h
  ·rename_i y b;exact⟨y,b,by simpa using h⟩
  ·simp at h
 ·rintro⟨y,b,d⟩;exact⟨(atu.1 b).1,by simp [b,d]⟩
theorem nv{g:Type}(p:g→Bool):∀(l:List g),(∀ k,k<(l.takeWhile p).length→∃ y,l[k]?=aa y∧p y=ae)∧((l.takeWhile p).length=l.length∨∃ y,l[(l.takeWhile p).length]?=aa y∧p y=ag)
 | []=>by simp
 | x::l=>by
  by_cases d:p x=ae
  ·rw [List.takeWhile_cons_of_pos d];obtain⟨j,b⟩:=nv p l;refine⟨fun k m=>?_,?_⟩
   ·cases k with
    | zero=>exact⟨x,rfl,d⟩| succ k=>exact j k (by simpa using m)
   ·rcases b with b | b
    ·exact .inl (by simp [b])
    ·exact .inr (by simpa using b)
  ·rw [List.takeWhile_cons_of_neg d];exact⟨by simp,.inr ⟨x,rfl,by simpa using d⟩⟩
theorem oY{aos:List aP}{i:Nat}(hi:i≤aos.length):i≤phase aos i∧phase aos i≤aos.length∧(phase aos i=aos.length∨Gh aos (phase aos i))∧∀ j,i≤j→j<phase aos i→¬ Gh aos j:=by
 unfold phase;obtain⟨s,g⟩:=nv (fun y:aP=>decide (cls y.op≠.w)) (aos.drop i);have q:((aos.drop i).takeWhile fun y=>decide (cls y.op≠.w)).length≤(aos.drop i).length:=by
  rcases auK (aos.drop i).length ((aos.drop i).takeWhile fun y=>decide (cls y.op≠.w)).length with h | h
  ·obtain⟨y,b,_⟩:=s _ h;have:=(atu.1 b).1;omega
  ·exact h
 simp only [auf]at q g;refine⟨by omega,by omega,?_,fun j v u=>?_⟩
 ·rcases g with g | ⟨y,b,l⟩
  ·exact .inl (by omega)
  ·rw [auj]at b;exact .inr ⟨y,b,by simpa using l⟩
 ·obtain⟨y,b,l⟩:=s (j-i) (by omega);rw [auj,show i+(j-i)=j by omega]at b;rintro⟨x,d,m⟩;rw [b]at d;cases d;simp [m]at l
structure Ord(ops:List Oper)(aos:List aP)(iA:List (Nat × Nat)):Prop where
 back:∀ j o,j<aos.length→ops[j]?=aa o→∀ e ∈ o.after.toList,Region.binds .any e=ae→e.on<j
 two:∀ i j x y,i<j→aos[i]?=aa x→aos[j]?=aa y→AT (dz ops []) i j=ae∨(x.apart y=ae∧(vk x y=ae∨(j=kQ (dz ops []) aos∧cls x.op=.w)))
 ear:∀ y,aos[kQ (dz ops []) aos]?=aa y→(∃ zs,y.op=.alloc zs)∧y.g=ab∧∃ p,y.dst=aa p∧∀ i z,aos[i]?=aa z→p ∈ z.rd→∀ e,Gh aos e→e<kQ (dz ops []) aos→AT (dz ops []) e i=ae
 rd:∀ i x e,aos[i]?=aa x→cls x.op=.r→Gh aos e∨e=aos.length→Ci (dz ops []) aos i e=ae→e=phase aos i∨(i,e) ∈ iA
theorem Qq{ops:List Oper}{aos:List aP}{iA:List (Nat × Nat)}(h:acK ops aos iA=ae):Ord ops aos iA:=by
 simp only [acK,atI]at h;obtain⟨⟨⟨A,B⟩,g⟩,E⟩:=h;refine⟨fun j o L N e b J=>?_,fun i j x y s m q=>?_,fun y q=>?_,fun i x e m K b M=>?_⟩
 ·rw [aun]at A;have d:(o,j) ∈ ops.zip (List.range aos.length):=by
   refine List.mem_of_getElem? (i:=j) ?_;rw [List.getElem?_zip_eq_some];exact⟨N,by simp [L]⟩
  have:=A _ d;rw [aun]at this;simpa [J]using this e b
 ·rw [aun]at B;have:=B j (by simpa using (atu.1 q).1);rw [aun]at this;have:=this i (by simpa using s);rw [m,q]at this;simpa using this
 ·unfold F2 at g;rw [q]at g;simp only [atI,Option.isNone_iff_eq_none]at g;obtain⟨⟨I,F⟩,l⟩:=g;refine⟨?_,I,?_⟩
  ·split at F
   ·exact⟨_,by assumption⟩
   ·simp at F
  ·split at l
   ·rename_i p O;refine⟨p,O,fun i z H v e b u=>?_⟩;rw [aun]at l;have:=l i (by simpa using (atu.1 H).1);rw [H]at this;simp only [Bool.or_eq_true,Bool.not_eq_true',List.contains_eq_mem,decide_eq_false_iff_not,aun]at this;rcases this with h | h
    ·exact absurd v h
    ·have:=h e (mY.2 b);simpa [u]using this
   ·simp at l
 ·rw [aun]at E;have:=E i (by simpa using (atu.1 m).1);rw [m]at this;simp only [K,if_true]at this;rw [aun]at this;have:=this e (by
   rw [auh];rcases b with b | b
   ·exact .inl (mY.2 b)
   ·exact .inr (by simp [b]))
  simpa [M]using this
section
variable{Q:Program}{σ:Nat→FuncId}{X:Wd}{call:cR}
theorem Ext.len{X X':Wd}(h:Ext X.H.length X X'):X.H.length≤X'.H.length:=by
 rcases auK X'.H.length X.H.length with b | g
 ·obtain⟨blk',d,_⟩:=h.cM X'.H.length b _ (asZ b);have:=(atu.1 d).1;omega
 ·exact g
theorem zD{s s':St}{op:cX}{v:V}(h:eQ call s op=aa (v,s')):s'.aB=s.aB:=by
 have:=G4 (r':=s.aB) (fun _ _=>rfl) h;rw [show({ s with aB:=s.aB }:St)=s from rfl,h]at this;simp only [At,at1,true_and]at this;rw [this]
theorem Fg{s s':St}{y:aP}(h:fG call s y=aa s'):∃ v,s'.aB=jJ s.aB y.dst v:=by
 unfold fG at h;split at h
 ·split at h
  ·rename_i v d b;cases h;exact⟨v,by rw [zD b]⟩
  ·simp at h
 ·cases h;exact⟨_,rfl⟩
 ·simp at h
theorem wE{aB:T}{d:Option P}{v:V}{p:P}:(jJ aB d v).get p=if d=aa p then v else aB.get p:=by
 cases d with
 | none=>simp [jJ]| some q=>simp only [jJ,T.pO,At]
theorem ph{s s':St}{y:aP}(g:cls y.op≠.w)(h:fG call s y=aa s'):di s.heap s'.heap∧s'.defs=s.defs:=by
 unfold fG at h;split at h
 ·split at h
  ·rename_i v u b;cases h;by_cases j:(∃ f xs h,y.op=.call f xs h)∨(∃ x xs h,y.op=.cm x xs h)∨y.op=.recover∨∃ x xs,y.op=.defer x xs
   ·rcases j with⟨f,xs,m,e⟩ | ⟨x,xs,m,e⟩ | e | ⟨x,xs,e⟩
    ·rw [e]at b g;cases m
     ·simp only [eQ,gT,aub,if_false,at0,at1]at b;obtain⟨⟨z,H'⟩,b,rfl,rfl⟩:=b;refine⟨?_,rfl⟩;unfold et at b;split at b
      ·simp at b
      ·split at b
       ·simp at b
       ·split at b
        ·simp at b
        ·simp only [At,at1]at b;show di s.heap H';rw [←b.2];exact(nL _ _ _).ext
     ·exact absurd rfl g
    ·rw [e]at g;exact absurd rfl g
    ·rw [e]at g;exact absurd rfl g
    ·rw [e]at g;exact absurd rfl g
   ·have q:(bu s.aB s.heap y.op).map (fun r=>(r.1,{ s with heap:=r.2 }))=aa (v,u):=by
     generalize y.op=op at b j;cases op<;>first | exact b | (exfalso;apply j;simp)
    simp only [at0,at1]at q;obtain⟨⟨z,H'⟩,l,rfl,rfl⟩:=q;clear b;have b:=l;clear l;refine⟨?_,rfl⟩;show di s.heap H';cases d:cls y.op with
    | p=>
     have:=alg (r:=s.aB) d s.heap s.heap;rw [b]at this;simp only [auP,At,at1]at this;rw [this.2];exact di.refl _
    | r=>rw [(G5 d (di.refl _) b).1];exact di.refl _
    | a=>
     rcases arB d b with e | ⟨cs,e⟩
     ·rw [e];exact di.refl _
     ·rw [e];exact di.append _ _
    | c=>
     generalize y.op=op at b d;cases op<;>first | (simp only [cls,reduceCtorEq]at d;done) | (simp [bu]at b;done)
    | w=>exact absurd d g
  ·simp at h
 ·cases h;exact⟨di.refl _,rfl⟩
 ·simp at h
def ir(aB:T)(ps:List P):T:=ps.foldl (fun t p=>t.set p (aB.get p)) .e
theorem wG(aB:T)(ps:List P)(p:P):(ir aB ps).get p=if p ∈ ps then aB.get p else .top:=by
 have key:∀(ps:List P) (t:T),(ps.foldl (fun t p=>t.set p (aB.get p)) t).get p=if p ∈ ps then aB.get p else t.get p:=by
  intro ps;induction ps with
  | nil=>intro t;simp
  | cons q ps g=>
   intro t;simp only [avt,g,T.pO,auc];by_cases b:p ∈ ps
   ·simp [b]
   ·by_cases d:q=p
    ·subst d;simp [b]
    ·have:¬ p=q:=fun e=>d e.symm;simp [b,d,this]
 have:=key ps .e;unfold ir;rw [this];rfl
structure jW(Q:Program)(σ:Nat→FuncId)(call:cR)(n:Nat)(ops:Array Oper)(aos:List aP)(iA:List (Nat × Nat))(st:Nat→St):Prop where
 anY:fk (lq Q σ n ops) ops.toList aos=ae
 ord:Ord ops.toList aos iA
 step:∀ i y,aos[i]?=aa y→fG call (st i) y=aa (st (i+1))
 asF:∀ i e y,(i,e) ∈ iA→aos[i]?=aa y→wanted (st i).aB y.g=aa ae→∃ v H1 H2,bu (st i).aB (st i).heap y.op=aa (v,H1)∧bu (st i).aB (st e).heap y.op=aa (v,H2)
structure kJ(σ:Nat→FuncId)(X:Wd)(c:Nat)(zs:List FC):Prop where
 bq:∃ us t,X.w.heap[c]?=aa (.cells us.toArray t (0,0))∧A2 (CR σ X) (zs.map .f) us
 b:X.B≤c
 yT:∀ b L,X.cB b=aa L→L.c≠c
 f:∀ i,¬ X.F c i
theorem kJ.lt{c:Nat}{zs:List FC}(h:kJ σ X c zs):c<X.w.heap.size:=by
 obtain⟨us,t,h1,_⟩:=h.bq;exact(Array.getElem?_eq_some_iff.1 h1).1
theorem kJ.ext{X X':Wd}(d:Ext X.H.length X X'){c:Nat}{zs:List FC}(h:kJ σ X c zs):kJ σ X' c zs:=by
 have j:=h.lt;obtain⟨us,t,h1,h2⟩:=h.bq;refine⟨⟨us,t,by rw [d.frame c j h.yT];exact h1,A2.ext' σ d h2⟩,by rw [d.B];exact h.b,fun b L m=>?_,fun i hi=>?_⟩
 ·rcases d.yT b L m with⟨b0,l,g1,g2⟩ | g1
  ·rw [←g2];exact h.yT b0 l g1
  ·omega
 ·rcases d.pz c i hi with g | g | ⟨b,L,g1,g2⟩
  ·exact h.f i g
  ·omega
  ·exact h.yT b L g1 g2
theorem SR.assign(s:SR Q σ X){n c:Nat}{zs:List FC}{fl:Nat}(j:kJ σ X c zs)(x:X.H[n]?=aa (.box (zs.map .f) fl))(hr:X.cB n=ab) :
  SR Q σ { X with cB:=fun b=>if b=n then aa ⟨c,0⟩else X.cB b }∧py X.H.length X { X with cB:=fun b=>if b=n then aa ⟨c,0⟩else X.cB b }∧VR σ { X with cB:=fun b=>if b=n then aa ⟨c,0⟩else X.cB b } (.c (.ptr n 0 0)) (.pointer (aa ⟨c,0,ab⟩)):=by
 have u:py X.H.length X { X with cB:=fun b=>if b=n then aa ⟨c,0⟩else X.cB b }:=by
  refine⟨fun _ _ h=>h,fun _ _ _=>rfl,fun b _ bq g=>⟨bq,g,?_⟩⟩;have:∀ L,X.cB b=aa L→(if b=n then aa (⟨c,0⟩:Loc)else X.cB b)=aa L:=fun L q=>by
   by_cases e:b=n
   ·subst e;rw [hr]at q;simp at q
   ·rw [aY e];exact q
  cases bq<;>simp only [true_and,and_self]<;>first | exact this | (exact .inl ⟨trivial,trivial,this⟩) | (exact⟨rfl,.inl ⟨rfl,rfl,this⟩⟩) | (exact .inl this) | simpa using this
 obtain⟨us,t,h1,h2⟩:=j.bq;refine⟨⟨fun b L g=>?_,fun b m L v g d hc=>?_,s.fb⟩,u,⟨⟨c,0⟩,by simp,by rw [x]⟩⟩
 ·by_cases e:b=n
  ·subst e;simp only [if_true,At]at g;subst g;exact⟨j.b,j.lt,_,x,us,⟨t,(0,0),h1,fun i _=>by simp⟩,A2.dY σ u h2,fun i _=>j.f i⟩
  ·simp only [e,if_false]at g;obtain⟨g1,g2,bq,g3,g4⟩:=s.br b L g;exact⟨g1,g2,bq,g3,BR.pL Q σ u rfl (fun _ h=>h) g4⟩
 ·simp only at g d;by_cases e:b=n<;>by_cases l:m=n
  ·rw [e,l]
  ·rw [bg e]at g;rw [aY l]at d;cases g;exact absurd hc.symm (j.yT m v d)
  ·rw [aY e]at g;rw [bg l]at d;cases d;exact absurd hc (j.yT b L g)
  ·rw [aY e]at g;rw [aY l]at d;exact s.inj b m L v g d hc
abbrev eJ(ops:Array Oper)(aos:List aP):Nat:=kQ (dz ops.toList []) aos
def asy(σ:Nat→FuncId)(X0:Wd)(ops:Array Oper)(aos:List aP)(E:Nat)(X:Wd)(a:Act)(p:P)(K:Nat):Prop:=
 ∃ y zs c,K=eJ ops aos+1∧E≤eJ ops aos∧aos[eJ ops aos]?=aa y∧y.dst=aa p∧y.op=.alloc zs∧a.tmps.getD p.toNat undef=.pointer (aa ⟨c,0,ab⟩)∧X0.w.heap.size≤c∧kJ σ X c zs
structure Inv(Q:Program)(σ:Nat→FuncId)(X0:Wd)(n:Nat)(ops:Array Oper)(aos:List aP)(st:Nat→St)(D:Nat→Prop)(E:Nat)(X:Wd)(a:Act):Prop where
 closed:oD ops.toList D
 dlt:∀ j,D j→j<aos.length
 eN:E≤aos.length
 eW:E=aos.length∨Gh aos E
 eD:¬ D E
 wD:∀ j,Gh aos j→j<E→D j
 heap:X.H=(st E).heap
 ext:Ext X0.H.length X0 X
 sr:SR Q σ X
 b:X.B≤X.w.heap.size
 defs:fN σ X (st E).defs a.defers
 size:n≤a.tmps.size
 ado:∀ p,∃ K,K≤aos.length∧(VR σ X ((st K).aB.get p) (a.tmps.getD p.toNat undef)∨asy σ X0 ops aos E X a p K)∧∀ j y,aos[j]?=aa y→y.dst=aa p→(j<K↔D j)
 yR:∀ j y,j<E→¬ D j→aos[j]?=aa y→cls y.op=.a→(st (j+1)).heap.length≠(st j).heap.length→X.cB (st j).heap.length=ab
section
variable{n:Nat}{ops:Array Oper}{aos:List aP}{iA:List (Nat × Nat)}{st:Nat→St}
theorem jW.ma(R:jW Q σ call n ops aos iA st){p:P}{lo:Nat}:∀(hi:Nat),lo≤hi→hi≤aos.length→(∀ j y,lo≤j→j<hi→aos[j]?=aa y→y.dst≠aa p)→(st lo).aB.get p=(st hi).aB.get p
 | 0,h,_,_=>by rw [Nat.le_zero.1 h]
 | hi+1,h,g,b=>by
  rcases auK hi lo with h1 | h1
  ·rw [show lo=hi+1 by omega]
  ·rw [jW.ma R hi h1 (by omega) fun j y h2 h3=>b j y h2 (by omega)];have hy:=asZ (show hi<aos.length by omega);obtain⟨v,d⟩:=Fg (R.step hi _ hy);rw [d,wE,aY (b hi _ h1 (by omega) hy)]
theorem jW.df(R:jW Q σ call n ops aos iA st){lo:Nat}:∀(hi:Nat),lo≤hi→hi≤aos.length→(∀ j,lo≤j→j<hi→¬ Gh aos j)→di (st lo).heap (st hi).heap∧(st hi).defs=(st lo).defs
 | 0,h,_,_=>by rw [Nat.le_zero.1 h];exact⟨di.refl _,rfl⟩
 | hi+1,h,l,b=>by
  rcases auK hi lo with h1 | h1
  ·rw [show lo=hi+1 by omega];exact⟨di.refl _,rfl⟩
  ·obtain⟨g1,g2⟩:=jW.df R hi h1 (by omega) fun j h2 h3=>b j h2 (by omega);have hy:=asZ (show hi<aos.length by omega);obtain⟨d,g⟩:=ph (fun hc=>b hi h1 (by omega) ⟨_,hy,hc⟩) (R.step hi _ hy);exact⟨g1.trans d,g.trans g2⟩
theorem jW.at(R:jW Q σ call n ops aos iA st){i:Nat}{y:aP}(hy:aos[i]?=aa y):∃ o,ops[i]?=aa o∧lq Q σ n ops o y=ae:=by
 have:=eC R.anY;have hi:i<ops.toList.length:=by rw [this.len];exact(atu.1 hy).1
 have b:=asZ hi;refine⟨ops.toList[i],by rw [←Array.getElem?_toList];exact b,this.2 i _ _ b hy⟩
theorem jW.before(R:jW Q σ call n ops aos iA st){i j:Nat}{x y:aP}(b:i<j)(g:aos[i]?=aa x)(hy:aos[j]?=aa y)(h:x.apart y=ag∨(vk x y=ag∧(j=eJ ops aos→cls x.op≠.w))):AT (dz ops.toList []) i j=ae:=by
 rcases R.ord.two i j x y b g hy with h1 | ⟨h1,h2⟩
 ·exact h1
 ·rcases h with h | ⟨h,d⟩
  ·rw [h1]at h;simp at h
  ·rcases h2 with h2 | ⟨h2,h3⟩
   ·rw [h2]at h;simp at h
   ·exact absurd h3 (d h2)
theorem Ext.assign{X0 g:Wd}(h:Ext X0.H.length X0 g){n c:Nat}(j:py g.H.length g { g with cB:=fun b=>if b=n then aa ⟨c,0⟩else g.cB b })(hc:X0.w.heap.size≤c):Ext X0.H.length X0 { g with cB:=fun b=>if b=n then aa ⟨c,0⟩else g.cB b } where
 B:=h.B
 F:=h.F
 pz:=h.pz
 fw:=h.fw
 cM:=fun b d=>(h.cM b d).trans (j.cM b (auE d h.len))
 yT:=fun b L d=>by
  simp only at d;by_cases e:b=n
  ·rw [bg e]at d;cases d;exact .inr hc
  ·rw [aY e]at d;exact h.yT b L d
 size:=h.size
 os:=h.os
 tape:=h.tape
 output:=h.output
 frame:=h.frame
theorem jW.abI(R:jW Q σ call n ops aos iA st){y:aP}(hy:aos[eJ ops aos]?=aa y):cls y.op=.a:=by
 obtain⟨⟨zs,h⟩,_⟩:=R.ord.ear y hy;rw [h];rfl
theorem abk{x y:aP}{p:P}(h:x.dst=aa p)(b:p ∈ y.rd):x.apart y=ag:=by
 simp [aP.apart,h,b]
theorem Bv{x y:aP}{p:P}(h:x.dst=aa p)(b:y.dst=aa p):x.apart y=ag:=by
 simp [aP.apart,h,b]
theorem abj{x y:aP}{p:P}(h:p ∈ x.rd)(b:y.dst=aa p):x.apart y=ag:=by
 simp [aP.apart,h,b]
structure jV(ops:Array Oper)(aos:List aP)(D:Nat→Prop)(i:Nat)(o:Oper)(y:aP):Prop where
 ho:ops[i]?=aa o
 hy:aos[i]?=aa y
 hD:¬ D i
 pre:∀ e ∈ o.after.toList,Region.binds .any e=ae→D e.on
variable{X0:Wd}{D:Nat→Prop}{E i:Nat}{a:Act}{o:Oper}{y:aP}
theorem jV.oW(b:Inv Q σ X0 n ops aos st D E X a)(hr:jV ops aos D i o y){j:Nat}(h:AT (dz ops.toList []) j i=ae):D j:=
 b.closed.ready (by simpa using hr.ho) hr.pre h
theorem jV.qi(b:Inv Q σ X0 n ops aos st D E X a)(hr:jV ops aos D i o y){j:Nat}(h:AT (dz ops.toList []) i j=ae):¬ D j:=
 fun d=>hr.hD (b.closed.below j d h)
theorem jW.reads(R:jW Q σ call n ops aos iA st)(l:Inv Q σ X0 n ops aos st D E X a)(hr:jV ops aos D i o y){p:P}(A:p ∈ y.rd):VR σ X ((st i).aB.get p) (a.tmps.getD p.toNat undef):=by
 obtain⟨K,H,m,F⟩:=l.ado p;have hi:i<aos.length:=(atu.1 hr.hy).1;have m:VR σ X ((st K).aB.get p) (a.tmps.getD p.toNat undef):=by
  rcases m with m | ⟨z,zs,c,_,L,b,d,_⟩
  ·exact m
  ·exfalso;obtain⟨_,_,M,v,g⟩:=R.ord.ear z b;rw [d]at v;cases v;have I:=(atu.1 b).1;rcases l.eW with h4 | u
   ·omega
   ·have J:E≠eJ ops aos:=by
     intro e;obtain⟨q,B,x⟩:=u;rw [e]at B;rw [R.abI B]at x;cases x
    exact l.eD (hr.oW l (g i y hr.hy A E u (show E<eJ ops aos by omega)))
 rcases Nat.le_total K i with h | h
 ·rw [←R.ma i h (by omega) fun j z h1 h2 b d=>?_]
  ·exact m
  ·have:=hr.oW l (R.before h2 b hr.hy (.inl (abk d A)));have:=(F j z b d).2 this;omega
 ·rw [R.ma K h H fun j z h1 h2 b d=>?_]
  ·exact m
  ·have s:=(F j z b d).1 h2;rcases auK i j with h3 | h3
   ·exact hr.qi l (R.before h3 hr.hy b (.inl (abj A d))) s
   ·have:j=i:=by omega
    subst this;exact hr.hD s
theorem jW.fin(R:jW Q σ call n ops aos iA st)(B:Inv Q σ X0 n ops aos st D E X a)(hr:jV ops aos D i o y){l:Wd}{a1:Act}{u:Value}{v:V}{m:Nat}(hS:SR Q σ l)(hB:l.B≤l.w.heap.size)(a8:Ext X0.H.length X0 l)
  (hm:∀ v u,VR σ X v u→VR σ l v u) (a7:∀ y zs c p,E≤eJ ops aos→aos[eJ ops aos]?=aa y→y.op=.alloc zs→y.dst=aa p→D (eJ ops aos)→a.tmps.getD p.toNat undef=.pointer (aa ⟨c,0,ab⟩)→X0.w.heap.size≤c→kJ σ X c zs→if m≤eJ ops aos then kJ σ l c zs else VR σ l ((st (eJ ops aos+1)).aB.get p) (.pointer (aa ⟨c,0,ab⟩)))
  (hv:VR σ l v u∨(i=eJ ops aos∧m≤eJ ops aos∧∃ zs c,y.op=.alloc zs∧u=.pointer (aa ⟨c,0,ab⟩)∧X0.w.heap.size≤c∧kJ σ l c zs))
  (ht:a1.tmps=(a.put o.dst u).tmps) (S:(st (i+1)).aB=jJ (st i).aB y.dst v) (h1:m≤aos.length) (h2:m=aos.length∨Gh aos m) (h3:¬ (D m∨m=i)) (h4:∀ j,Gh aos j→j<m→D j∨j=i)
  (hH:l.H=(st m).heap) (hd:fN σ l (st m).defs a1.defers)
  (hh:∀ j y,j<m→¬ (D j∨j=i)→aos[j]?=aa y→cls y.op=.a→(st (j+1)).heap.length≠(st j).heap.length→l.cB (st j).heap.length=ab) :
  Inv Q σ X0 n ops aos st (fun j=>D j∨j=i) m l a1:=by
 have hi:i<aos.length:=(atu.1 hr.hy).1;obtain⟨o',O,x⟩:=R.at hr.hy;rw [hr.ho]at O;cases O;have nY:(a.put o.dst u).tmps.size=a.tmps.size:=by cases o.dst<;>simp [Act.put]
 refine⟨fun j oj N A e he hb=>?_,fun j N=>N.elim (B.dlt j) fun h=>h▸hi,h1,h2,h3,h4,hH,a8,hS,hB,hd,by rw [ht,nY];exact B.size,fun p=>?_,hh⟩
 ·rcases N with N | rfl
  ·exact .inl (B.closed j oj N A e he hb)
  ·have:oj=o:=by have:=hr.ho;simp at A;rw [this]at A;cases A;rfl
   subst this;exact .inl (hr.pre e he hb)
 ·by_cases b:y.dst=aa p
  ·have q:a1.tmps.getD p.toNat undef=u:=by
    rw [ht];simp only [lq,atI]at x;have g:=x.1.2;rw [b]at g;split at g
    ·rename_i d p' J I;simp only [atI,beq_iff_eq,decide_eq_true_eq]at g;cases I;have Y:d<a.tmps.size:=auE g.2 B.size;rw [J,g.1];simp only [Act.put];simp [Y]
    ·rename_i I;simp at I
    ·simp at g
   refine⟨i+1,hi,?_,fun j z H s=>⟨fun h=>?_,fun h=>?_⟩⟩
   ·rcases hv with hv | ⟨M,W,zs,c,g1,g2,g3,g4⟩
    ·left;rw [S,wE,bg b,q];exact hv
    ·right;exact⟨y,zs,c,by rw [M],W,by rw [←M];exact hr.hy,b,g1,by rw [q];exact g2,g3,g4⟩
   ·rcases auK j i with L | L
    ·exact .inl (hr.oW B (R.before L H hr.hy (.inl (Bv s b))))
    ·exact .inr (by omega)
   ·rcases h with h | rfl
    ·rcases auK i j with L | L
     ·exact absurd h (hr.qi B (R.before L hr.hy H (.inl (Bv b s))))
     ·omega
    ·omega
  ·obtain⟨K,hK,F,hw⟩:=B.ado p;have e:a1.tmps.getD p.toNat undef=a.tmps.getD p.toNat undef:=by
    rw [ht];simp only [lq,atI]at x;have g:=x.1.2;split at g
    ·rename_i d p' J I;simp only [atI,beq_iff_eq,decide_eq_true_eq]at g;have Z:d≠p.toNat:=fun e=>b (by rw [I,P.toNat_inj (g.1.trans e)]);rw [J];simp [Act.put,Array.getD_eq_getD_getElem?,Array.getElem?_setIfInBounds_ne Z]
    ·rename_i J I;rw [J];rfl
    ·simp at g
   refine⟨K,hK,?_,fun j z H s=>?_⟩
   ·rcases F with F | ⟨z,zs,c,g1,g2,g3,g4,g5,g6,g7,g8⟩
    ·left;rw [e];exact hm _ _ F
    ·have U:D (eJ ops aos):=(hw _ z g3 g4).1 (by omega);have:=a7 z zs c p g2 g3 g5 g4 U g6 g7 g8;split at this
     ·rename_i W;right;exact⟨z,zs,c,g1,W,g3,g4,g5,by rw [e];exact g6,g7,this⟩
     ·left;rw [e,g6,g1];exact this
   ·rw [hw j z H s];exact⟨.inl,fun h=>h.elim id fun h=>absurd (by rw [h]at H;rw [hr.hy]at H;cases H;exact s) b⟩
end
end
section
variable{Q:Program}{σ:Nat→FuncId}{X:Wd}{call:cR}
variable{n:Nat}{ops:Array Oper}{aos:List aP}{iA:List (Nat × Nat)}{st:Nat→St}
variable{X0:Wd}{D:Nat→Prop}{E i:Nat}{a:Act}{o:Oper}{y:aP}
theorem pI{x y:aP}(h:cls x.op=.w)(d:cls y.op≠.p)(b:cls y.op≠.r):vk x y=ag:=by
 unfold vk;rw [h];cases g:cls y.op<;>simp_all
theorem vl{x y:aP}(h:cls y.op=.w)(d:cls x.op≠.p)(b:cls x.op≠.r):vk x y=ag:=by
 unfold vk;rw [h];cases g:cls x.op<;>simp_all
theorem jW.wh(R:jW Q σ call n ops aos iA st){j:Nat}{z:aP}(b:aos[j]?=aa z)(hc:cls z.op≠.a):j≠eJ ops aos:=by
 rintro rfl;exact hc (R.abI b)
theorem jW.aoI(R:jW Q σ call n ops aos iA st)(b:Inv Q σ X0 n ops aos st D E X a)(hr:jV ops aos D i o y)(hc:cls y.op=.w):i=E:=by
 have hi:i<aos.length:=(atu.1 hr.hy).1;rcases avi i E with h | h | h
 ·exact absurd (b.wD i ⟨y,hr.hy,hc⟩ h) hr.hD
 ·exact h
 ·rcases b.eW with h1 | ⟨z,g,d⟩
  ·omega
  ·exact absurd (hr.oW b (R.before h g hr.hy (.inr ⟨pI d (by simp [hc]) (by simp [hc]),fun e=>absurd e (R.wh hr.hy (by simp [hc]))⟩))) b.eD
theorem jW.aa'(R:jW Q σ call n ops aos iA st)(d:Inv Q σ X0 n ops aos st D E X a)(hr:jV ops aos D i o y)(h1:cls y.op≠.p)(h2:cls y.op≠.r)(h3:cls y.op≠.w)(s:i=eJ ops aos→i<E):i<E∧∀ j,i≤j→j<E→¬ Gh aos j:=by
 have hi:i<aos.length:=(atu.1 hr.hy).1;refine⟨?_,fun j u m q=>?_⟩
 ·rcases avi i E with h | h | h
  ·exact h
  ·rcases d.eW with h4 | ⟨z,g,b⟩
   ·omega
   ·rw [←h,hr.hy]at g;cases g;exact absurd b h3
  ·rcases d.eW with h4 | ⟨z,g,b⟩
   ·omega
   ·exact absurd (hr.oW d (R.before h g hr.hy (.inr ⟨pI b h1 h2,fun e=>by have:=s e;omega⟩))) d.eD
 ·have l:=d.wD j q m;obtain⟨z,g,b⟩:=q;rcases auK i j with h | h
  ·exact hr.qi d (R.before h hr.hy g (.inr ⟨vl b h1 h2,fun _=>h3⟩)) l
  ·have:j=i:=by omega
   subst this;exact hr.hD l
theorem jW.as5(R:jW Q σ call n ops aos iA st)(d:Inv Q σ X0 n ops aos st D E X a)(hr:jV ops aos D i o y)(hc:cls y.op=.r)(K:wanted (st i).aB y.g=aa ae){v:V}{B:aj}(h:bu (st i).aB (st i).heap y.op=aa (v,B)) :
  B=(st i).heap∧bu (st i).aB X.H y.op=aa (v,X.H):=by
 have hi:i<aos.length:=(atu.1 hr.hy).1;refine⟨(G5 hc (di.refl _) h).1,?_⟩;have q:Ci (dz ops.toList []) aos i E=ae:=by
  unfold Ci;rw [aun];intro j J;have l:=mY.1 J;split
  ·rename_i m;have b:=d.wD j l m;cases u:AT (dz ops.toList []) i j with
   | false=>rfl| true=>exact absurd b (hr.qi d u)
  ·rename_i m;cases u:AT (dz ops.toList []) j i with
   | false=>rfl
   | true=>
    exfalso;have b:=hr.oW d u;rcases auK E j with h1 | h1
    ·rcases d.eW with h4 | ⟨z,L,A⟩
     ·have:=d.dlt j b;omega
     ·obtain⟨N,s,g⟩:=l;exact d.eD (d.closed.below j b (R.before h1 L s (.inr ⟨pI A (by simp [g]) (by simp [g]),fun e=>absurd e (R.wh s (by simp [g]))⟩)))
    ·have:j=E:=by omega
     subst this;exact d.eD b
 rw [d.heap];rcases R.ord.rd i y E hr.hy hc (d.eW.symm) q with x | x
 ·obtain⟨p1,_,_,F⟩:=oY (aos:=aos) (i:=i) (by omega);rw [←x]at p1 F;exact(G5 hc (R.df E p1 d.eN F).1 h).2
 ·obtain⟨M,H,I,g1,g2⟩:=R.asF i E y x hr.hy K;rw [h]at g1;cases g1;have:=(G5 hc (di.refl _) g2).1;rw [this]at g2;exact g2
theorem jW.aiF(R:jW Q σ call n ops aos iA st){z:aP}(d:aos[eJ ops aos]?=aa z){zs:List FC}(b:z.op=.alloc zs){p:P}(g:z.dst=aa p) :
  (st (eJ ops aos+1)).heap=(st (eJ ops aos)).heap++[.box (zs.map .f) 0]∧(st (eJ ops aos+1)).aB.get p=.c (.ptr (st (eJ ops aos)).heap.length 0 0):=by
 obtain⟨_,hg,_⟩:=R.ord.ear z d;have h:=R.step _ z d;simp only [fG,hg,wanted,b,eQ,bu,auP,At]at h;rw [←h];exact⟨rfl,by rw [wE,bg g]⟩
theorem jW.FG(R:jW Q σ call n ops aos iA st)(s:Inv Q σ X0 n ops aos st D E X a)(hr:jV ops aos D i o y)(hc:cls y.op=.w){d:Wd}{a1:Act}{u:Value}{v:V}(hS:SR Q σ d)(hB:d.B≤d.w.heap.size)(hx:Ext X.H.length X d)
  (hv:VR σ d v u) (ht:a1.tmps=(a.put o.dst u).tmps) (A:(st (i+1)).aB=jJ (st i).aB y.dst v) (hH:d.H=(st (i+1)).heap) (hd:fN σ d (st (i+1)).defs a1.defers) :
  ∃ E' X2,X2.w=d.w∧Inv Q σ X0 n ops aos st (fun j=>D j∨j=i) E' X2 a1:=by
 have hi:i<aos.length:=(atu.1 hr.hy).1;have a_:=R.aoI s hr hc;subst a_;obtain⟨p1,p2,p3,I⟩:=oY (aos:=aos) (i:=i+1) (by omega);obtain⟨q1,q2⟩:=R.df _ p1 p2 I;rw [←hH]at q1;obtain⟨k1,Y⟩:=SR.ahead hS q1;have g:Ext X.H.length X { d with H:=(st (phase aos (i+1))).heap }:=hx.trans (Y.mono hx.len);have F:Ext X0.H.length X0 { d with H:=(st (phase aos (i+1))).heap }:=s.ext.trans (g.mono s.ext.len);have J:¬ (D (phase aos (i+1))∨phase aos (i+1)=i):=by
  rintro(h | h)
  ·rcases p3 with h1 | ⟨z,hz,l⟩
   ·have:=s.dlt _ h;omega
   ·exact hr.qi s (R.before p1 hr.hy hz (.inr ⟨pI hc (by simp [l]) (by simp [l]),fun e=>absurd e (R.wh hz (by simp [l]))⟩)) h
  ·omega
 have M:∀ j,Gh aos j→j<phase aos (i+1)→D j∨j=i:=by
  intro j S hj;rcases avi j i with h | h | h
  ·exact .inl (s.wD j S h)
  ·exact .inr h
  ·exact absurd S (I j h hj)
 have O:fN σ { d with H:=(st (phase aos (i+1))).heap } (st (phase aos (i+1))).defs a1.defers:=by rw [q2];exact hd.ext' Y
 have iJ:i≠eJ ops aos:=R.wh hr.hy (by simp [hc]);have yR:∀ j z,j<phase aos (i+1)→¬ (D j∨j=i)→aos[j]?=aa z→cls z.op=.a→(st (j+1)).heap.length≠(st j).heap.length→i<j∧d.cB (st j).heap.length=ab:=by
  intro j z hj hD hz l x;rcases avi j i with h | h | h
  ·exact absurd (.inl (hr.oW s (R.before h hz hr.hy (.inr ⟨vl hc (by simp [l]) (by simp [l]),fun e=>absurd e iJ⟩)))) hD
  ·exact absurd (.inr h) hD
  ·have B:=(R.df j h (by omega) fun k h1 h2=>I k h1 (by omega)).1.len;rw [←hH]at B;refine⟨h,?_⟩;cases m:d.cB (st j).heap.length with
   | none=>rfl| some L=>have:=SR.lt hS m;omega
 by_cases hP:∃ z zs c p,i≤eJ ops aos∧eJ ops aos<phase aos (i+1)∧aos[eJ ops aos]?=aa z∧z.op=.alloc zs∧z.dst=aa p∧D (eJ ops aos)∧a.tmps.getD p.toNat undef=.pointer (aa ⟨c,0,ab⟩)∧X0.w.heap.size≤c∧kJ σ X c zs
 ·obtain⟨z,zs,c,p,g1,g2,g3,g4,g5,g6,g7,Z,g9⟩:=hP;obtain⟨s1,s2⟩:=R.aiF g3 g4 g5;have K:i<eJ ops aos:=by omega
  have b9:(st (i+1)).heap.length≤(st (eJ ops aos)).heap.length:=(R.df _ K (by omega) fun k h1 h2=>I k h1 (by omega)).1.len;obtain⟨fl,N⟩:∃ fl,(st (phase aos (i+1))).heap[(st (eJ ops aos)).heap.length]?=aa (.box (zs.map .f) fl):=by
   have U:=(R.df (phase aos (i+1)) (show eJ ops aos+1≤_ by omega) p2 fun k h1 h2=>I k (by omega) h2).1;rw [s1]at U;exact pT U
  have b_:kJ σ { d with H:=(st (phase aos (i+1))).heap } c zs:=g9.ext g;have c_:d.cB (st (eJ ops aos)).heap.length=ab:=by
   cases m:d.cB (st (eJ ops aos)).heap.length with
   | none=>rfl| some L=>have:=SR.lt hS m;rw [hH]at this;omega
  obtain⟨a7,q,a8⟩:=SR.assign k1 b_ N c_;refine⟨phase aos (i+1),{ d with H:=(st (phase aos (i+1))).heap,cB:=fun b=>if b=(st (eJ ops aos)).heap.length then aa ⟨c,0⟩else d.cB b },rfl,R.fin s hr a7 hB (F.assign q Z) (fun v u h=>VR.dY σ q (VR.ext' σ g h)) ?_ (.inl (VR.dY σ q (VR.ext' σ Y hv))) ht A p2 p3 J M rfl (fN.dY q O) ?_⟩
  ·intro z' d9 c' p' _ e2 _ e4 _ e6 _ _;rw [g3]at e2;cases e2;rw [g5]at e4;cases e4;rw [g7]at e6;simp only [Value.pointer.injEq,At,Addr.mk.injEq,true_and,and_true]at e6;subst e6;rw [aY (by omega),s2];exact a8
  ·intro j w hj hD hw W x;obtain⟨f1,f2⟩:=yR j w hj hD hw W x;show(if(st j).heap.length=(st (eJ ops aos)).heap.length then aa (⟨c,0⟩:Loc)else d.cB (st j).heap.length)=ab;rw [aY,f2];intro e;rcases avi j (eJ ops aos)with h | h | h
   ·have h1:=(R.df (lo:=j+1) (eJ ops aos) h (by omega) fun k h1 h2=>I k (by omega) (by omega)).1.len;have h2:=(ph (by simp [W]) (R.step j w hw)).1.len;clear F g k1 Y;omega
   ·exact hD (.inl (by rw [h];exact g6))
   ·have h1:=(R.df (lo:=eJ ops aos+1) j h (by omega) fun k h1 h2=>I k (by omega) (by omega)).1.len;rw [s1,at6]at h1;simp only [List.length_cons,List.length_nil]at h1;omega
 ·refine⟨phase aos (i+1),{ d with H:=(st (phase aos (i+1))).heap },rfl,R.fin s hr k1 hB F (fun v u h=>VR.ext' σ g h) ?_ (.inl (VR.ext' σ Y hv)) ht A p2 p3 J M rfl O (fun j z h1 h2 h3 h4 h5=>(yR j z h1 h2 h3 h4 h5).2)⟩;intro z zs c p g1 g2 g3 g4 g5 g6 g7 Z;by_cases B:phase aos (i+1)≤eJ ops aos
  ·rw [bg B];exact Z.ext g
  ·exact absurd ⟨z,zs,c,p,g1,by omega,g2,g3,g4,g5,g6,g7,Z⟩ hP
theorem jW.nD(R:jW Q σ call n ops aos iA st)(d:Inv Q σ X0 n ops aos st D E X a)(hr:jV ops aos D i o y)(hc:cls y.op≠.w){b:Wd}{a1:Act}{u:Value}{v:V}(B:SR Q σ b)(x:b.B≤b.w.heap.size)(l:Ext X.H.length X b)
  (J:VR σ b v u∨(i=eJ ops aos∧E≤eJ ops aos∧∃ zs c,y.op=.alloc zs∧u=.pointer (aa ⟨c,0,ab⟩)∧X0.w.heap.size≤c∧kJ σ b c zs)) (I:a1.tmps=(a.put o.dst u).tmps) (g:(st (i+1)).aB=jJ (st i).aB y.dst v) (A:b.H=X.H) (F:fN σ b (st E).defs a1.defers)
  (H:∀ j z,j<E→¬ (D j∨j=i)→aos[j]?=aa z→cls z.op=.a→(st (j+1)).heap.length≠(st j).heap.length→b.cB (st j).heap.length=ab) :
  Inv Q σ X0 n ops aos st (fun j=>D j∨j=i) E b a1:=by
 refine R.fin d hr B x (d.ext.trans (l.mono d.ext.len)) (fun v u h=>VR.ext' σ l h) (fun z zs c p g1 _ _ _ _ _ _ s=>by rw [bg g1];exact s.ext l) J I g d.eN d.eW ?_ (fun j h1 h2=>.inl (d.wD j h1 h2)) (A.trans d.heap) F H;rintro(h | h)
 ·exact d.eD h
 ·have hi:i<aos.length:=(atu.1 hr.hy).1;rcases d.eW with h1 | ⟨z,q,m⟩
  ·omega
  ·rw [h,hr.hy]at q;cases q;exact hc m
theorem jW.iv(d:Inv Q σ X0 n ops aos st D E X a){b:Wd}(h:b.cB=X.cB):∀ j z,j<E→¬ (D j∨j=i)→aos[j]?=aa z→cls z.op=.a→(st (j+1)).heap.length≠(st j).heap.length→b.cB (st j).heap.length=ab:=
 fun j z h1 h2 h3 h4 h5=>by rw [h];exact d.yR j z h1 (fun h=>h2 (.inl h)) h3 h4 h5
theorem jW.EG(R:jW Q σ call n ops aos iA st)(q:Inv Q σ X0 n ops aos st D E X a)(hr:jV ops aos D i o y)(hc:cls y.op=.a)(B:i=eJ ops aos→i<E)(m:(st (i+1)).heap.length≠(st i).heap.length){j:Nat}{z:aP}(I:j<E)(hD:¬ (D j∨j=i))(A:aos[j]?=aa z)(d:cls z.op=.a)
  (g:(st (j+1)).heap.length≠(st j).heap.length):(st j).heap.length≠(st i).heap.length:=by
 have hi:i<aos.length:=(atu.1 hr.hy).1;obtain⟨g1,g2⟩:=R.aa' q hr (by simp [hc]) (by simp [hc]) (by simp [hc]) B;have H:∀ k,j≤k→k<E→¬ Gh aos k:=by
  intro k h1 h2 s;have l:=q.wD k s h2;obtain⟨w,u,v⟩:=s;rcases auK j k with h | h
  ·exact hD (.inl (q.closed.below k l (R.before h A u (.inr ⟨vl v (by simp [d]) (by simp [d]),fun _=>by simp [d]⟩))))
  ·have:k=j:=by omega
   subst this;exact hD (.inl l)
 have b:∀ k w,aos[k]?=aa w→cls w.op=.a→(st (k+1)).heap.length≠(st k).heap.length→(st k).heap.length<(st (k+1)).heap.length:=by
  intro k w s x F;have:=(ph (by simp [x]) (R.step k w s)).1.len;omega
 rcases avi j i with h | h | h
 ·have h1:=b j z A d g;have h2:(st (j+1)).heap.length≤(st i).heap.length:=(R.df i h (by omega) fun k h3 h4=>H k (by omega) (by omega)).1.len;omega
 ·exact absurd (.inr h) hD
 ·have h1:=b i y hr.hy hc m;have h2:(st (i+1)).heap.length≤(st j).heap.length:=(R.df j h (by have:=q.eN;omega) fun k h3 h4=>g2 k (by omega) (by omega)).1.len;omega
end
section
variable{Q:Program}{σ:Nat→FuncId}{X:Wd}{call:cR}
variable{n:Nat}{ops:Array Oper}{aos:List aP}{iA:List (Nat × Nat)}{st:Nat→St}
variable{X0:Wd}{D:Nat→Prop}{E i:Nat}{a:Act}{o:Oper}{y:aP}
theorem EY{w':World}{q:Obj}(g:SR Q σ X)(d:dW X.w w' q):SR Q σ { X with w:=w' }∧Ext X.H.length X { X with w:=w' }:=by
 have j:Ext X.H.length X { X with w:=w' }:=Ext.one g X.H.length rfl (fun _ _=>Iff.rfl) (fun k m _=>d.Dn m)
  (fun L i h=>by rw [SR.sA g]at h;simp at h) (fun h=>absurd h (avU _)) (fun _ _ _=>rfl) (fun _ _=>rfl) (fun L h=>.inl ⟨L,h,rfl⟩) (by show _≤w'.heap.size;rw [d.size];omega) d.os d.tape d.output
 refine⟨SR.step Q σ g j X.H.length (fun _ _=>rfl) (fun _ _=>rfl) (fun b L _ l=>d.Dn (g.br b L l).2.1)
  (fun _ _ _ _ _ h=>h) (fun L h=>by change X.cB X.H.length=aa L at h;rw [SR.sA g]at h;simp at h) (fun c i h=>?_),j⟩
 have:=g.fb c i h;show c<w'.heap.size;rw [d.size];omega
theorem acH{y:aP}{p:P}(h:p ∈ y.op.rd):p ∈ y.rd:=by unfold aP.rd;exact auh.2 (.inr h)
theorem Ga{y:aP}{p:P}{w:Bool}(h:y.g=aa (p,w)):p ∈ y.rd:=by unfold aP.rd;rw [h];simp
theorem jW.akt(hC:e9 Q σ call)(R:jW Q σ call n ops aos iA st)(d:Inv Q σ X0 n ops aos st D E X a)(hr:jV ops aos D i o y){b:Frame}{rest:List Nat}{k:List Item}{cs:List Frame}(hk:jj b cs)(j8:gS y.op b) :
  ∃ E' X' a',Steps Q (lone (b.atR a (.inRegion ops (i::rest)::k)) cs X.w) (lone (b.atR a' (.inRegion ops rest::k)) cs X'.w)∧Inv Q σ X0 n ops aos st (fun j=>D j∨j=i) E' X' a'∧a'.tmps.size=a.tmps.size:=by
 have hi:i<aos.length:=(atu.1 hr.hy).1;obtain⟨o',h_,hm⟩:=R.at hr.hy;rw [hr.ho]at h_;cases h_;have g:=R.step i y hr.hy;have O:∀ p ∈ y.rd,VR σ X ((st i).aB.get p) (a.tmps.getD p.toNat undef):=fun p hp=>R.reads d hr hp;have l:dP Q σ o y.op=ae:=by simp only [lq,atI]at hm;exact hm.1.1
 have J:∀ u,(a.put o.dst u).tmps.size=a.tmps.size:=fun u=>by cases o.dst<;>simp [Act.put]
 have I:∀(a:Act) u,(a.put o.dst u).defers=a.defers:=fun a u=>by cases o.dst<;>rfl
 have i8:∀(a a':Act) u,a'.tmps=a.tmps→(a'.put o.dst u).tmps=(a.put o.dst u).tmps:=fun a a' u h=>by cases o.dst<;>simp [Act.put,h]
 unfold fG at g;split at g
 ·rename_i c_;have hw:=nV hm (aB:=(st i).aB) (tmps:=a.tmps) (X:=X) (fun p w' hg=>O p (Ga hg)) d.size c_;split at g
  ·rename_i v s1 h1;simp only [At]at g;have A:(st (i+1)).aB=jJ (st i).aB y.dst v:=by rw [←g,←zD h1]
   have q:(st (i+1)).heap=s1.heap:=by rw [←g]
   have M:(st (i+1)).defs=s1.defs:=by rw [←g]
   have B:∀ p ∈ y.op.rd,(st i).aB.get p=(ir (st i).aB y.op.rd).get p:=fun p hp=>by rw [wG,bg hp]
   have Y:RR σ X (ir (st i).aB y.op.rd) a.tmps:=fun p=>by
    rw [wG];split
    ·rename_i hp;exact O p (acH hp)
    ·trivial
   have K:=G4 B h1;by_cases m:cls y.op=.w
   ·have a7:=R.aoI d hr m;obtain⟨g1,g2⟩:=G3 hC d.sr d.b (s:={ st i with aB:=ir (st i).aB y.op.rd }) (by rw [d.heap,←a7]) Y (by rw [a7];exact d.defs) l K;obtain⟨X1,u,a1,k1,⟨k2,k3,k4,k5,k6⟩,k7,k8⟩:=g1 b ops i rest k cs hr.ho hw hk j8;obtain⟨E',X2,q1,q2⟩:=R.FG d hr m (a1:=a1.put o.dst u) k3 k6 k5 k4 (i8 a a1 u k7) A (by rw [k2,q]) (by rw [M,I];exact k8);exact⟨E',X2,a1.put o.dst u,by rw [q1];exact k1,q2,by rw [i8 a a1 u k7,J]⟩
   ·
    have j7:∀ c,o.op≠.defer c:=qd l (fun x xs e=>m (by rw [e];rfl)) (fun e=>by rw [e]at h1;simp [eQ,bu]at h1);have one:∀ {u:Value} {w':World},(execOp a.eval o).run Q X.w=.ok (.value u) w'→Steps Q (lone (b.atR a (.inRegion ops (i::rest)::k)) cs X.w) (lone (b.atR (a.put o.dst u) (.inRegion ops rest::k)) cs w'):=by
     intro u w' a8;refine .one (step_lone_go ?_);rw [stepGR_op hr.ho hw,Oper.semAt_eq _ _ _ j7];have Z:=Frame.finish_atR b a ops i rest k u;rw [hr.ho]at Z;simp only [auJ]at Z;rw [←Z];simp [stepG.apply,Sem.runT_eq,a8]
    by_cases F:cls y.op=.c
    ·
     obtain⟨f,xs,b_⟩:∃ f xs,y.op=.call f xs ag:=by
      generalize y.op=op at F;cases op<;>first | (simp only [cls,reduceCtorEq]at F;done) | skip
      rename_i f xs hh;cases hh
      ·exact⟨f,xs,rfl⟩
      ·simp [cls]at F
     have H:=Y;rw [b_]at K l H;simp only [eQ,gT,aub,if_false,at0,at1]at K;obtain⟨⟨v',H'⟩,hp,rfl,i5⟩:=K;have j6:H'=(st (i+1)).heap:=by
      rw [q];simp only [St.mk.injEq]at i5;exact i5.2.2
     obtain⟨g1,g2⟩:=R.aa' d hr (by simp [F]) (by simp [F]) (by simp [F]) (fun e=>absurd e (R.wh hr.hy (by simp [F])));have d_:di H' X.H:=by
      rw [j6,d.heap];exact(R.df E g1 d.eN fun j h1 h2=>g2 j (by omega) h2).1
     obtain⟨X1,u,k1,⟨k2,k3,k4,k5,k6⟩,k7⟩:=zS hC d.sr d.b H l hp d_ b ops i rest k cs hr.ho hw;exact⟨E,X1,a.put o.dst u,k1,R.nD d hr m k3 k6 k5 (.inl k4) rfl A k2 (by rw [I];exact d.defs.ext' k5) (jW.iv d k7),J u⟩
    ·have hx:(bu (ir (st i).aB y.op.rd) (st i).heap y.op)=aa (v,s1.heap):=by
      have b9:¬ ((∃ f xs h,y.op=.call f xs h)∨(∃ x xs h,y.op=.cm x xs h)∨y.op=.recover∨∃ x xs,y.op=.defer x xs):=by
       rintro(⟨f,xs,hh,e⟩ | ⟨x,xs,hh,e⟩ | e | ⟨x,xs,e⟩)<;>rw [e]at m F
       ·cases hh
        ·exact F rfl
        ·exact m rfl
       ·exact m rfl
       ·exact m rfl
       ·exact m rfl
      have hx:(bu (ir (st i).aB y.op.rd) (st i).heap y.op).map (fun r=>(r.1,({ st i with aB:=ir (st i).aB y.op.rd,heap:=r.2 }:St)))=aa (v,{ s1 with aB:=ir (st i).aB y.op.rd }):=by
       generalize ir (st i).aB y.op.rd=r at K;generalize y.op=op at K b9;cases op<;>first | exact K | (exfalso;apply b9;simp)
      simp only [at0,at1,St.mk.injEq]at hx;obtain⟨⟨v',H'⟩,h2,rfl,_,_,h3⟩:=hx;rw [h2];simp only at h3;rw [h3]
     by_cases W:cls y.op=.a
     ·by_cases S:i=eJ ops aos∧E≤i
      ·
       obtain⟨f_,j5⟩:=S;obtain⟨⟨zs,b_⟩,_,_⟩:=R.ord.ear y (show aos[eJ ops aos]?=aa y from f_▸hr.hy);have g_:=hx;rw [b_]at g_ l;simp only [bu,At,at1]at g_;obtain⟨rfl,_⟩:=g_;simp only [dP]at l;split at l
       ·rename_i t ho;obtain⟨z,us,i9,i_,j4,_⟩:=eO (σ:=σ) (X:=X) l X.w;have a8:(execOp a.eval o).run Q X.w=.ok (.value (.pointer (aa ⟨X.w.heap.size,0,ab⟩))) (X.w.alloc (.cells us.toArray t)):=by
         simp only [execOp,ho];refine ef ?_;simp [Instr.alloc,i9,newVar,newRow,i_]
        obtain⟨e1,e2⟩:=EY d.sr (dW.alloc X.w (.cells us.toArray t));refine⟨E,{ X with w:=X.w.alloc (.cells us.toArray t) },a.put o.dst (.pointer (aa ⟨X.w.heap.size,0,ab⟩)),one a8,R.nD d hr m e1 (by have:=d.b;simp;omega) e2 (.inr ⟨f_,by rw [←f_];exact j5,zs,X.w.heap.size,b_,rfl,d.ext.size,?_⟩) rfl A rfl (by rw [I];exact d.defs.ext' e2) (jW.iv d rfl),J _⟩;exact⟨⟨us,t,(dW.alloc X.w (.cells us.toArray t)).new,A2.ext' σ e2 j4⟩,d.b,fun b L hb=>by have:=(d.sr.br b L hb).2.1;omega,fun j hj=>by have:=d.sr.fb _ j hj;omega⟩
       ·simp at l
      have hJ:i=eJ ops aos→i<E:=fun e=>by
       rcases auK i E with h | h
       ·exact h
       ·exact absurd ⟨e,h⟩ S
      obtain⟨g1,g2⟩:=R.aa' d hr (by simp [W]) (by simp [W]) (by simp [W]) hJ;have d_:di s1.heap X.H:=by
       rw [←q,d.heap];exact(R.df E g1 d.eN fun j h1 h2=>g2 j (by omega) h2).1
      obtain⟨X1,u,k1,⟨k2,k3,k4,k5,k6⟩,k7,k8⟩:=ajb d.sr d.b Y W l hx d_ (fun b9=>d.yR i y g1 hr.hD hr.hy W (by rw [q];exact b9));refine⟨E,X1,a.put o.dst u,one k1,R.nD d hr m k3 k6 k5 (.inl k4) rfl A k2 (by rw [I];exact d.defs.ext' k5) ?_,J u⟩;by_cases d9:(st (i+1)).heap.length=(st i).heap.length
      ·exact jW.iv d (k8 (by rw [←q];exact d9))
      ·intro j z h2 h3 h4 h5 h6;rw [k7 _ (R.EG d hr W hJ d9 h2 h3 h4 h5 h6)];exact d.yR j z h2 (fun h=>h3 (.inl h)) h4 h5 h6
     ·
      have i4:cls y.op=.p∨cls y.op=.r:=by cases a_:cls y.op<;>simp_all
      have j_:bu (st i).aB (st i).heap y.op=aa (v,s1.heap):=by rw [Ff B];exact hx
      have i7:bu (ir (st i).aB y.op.rd) X.H y.op=aa (v,X.H):=by
       rcases i4 with a_ | a_
       ·have:=alg (r:=ir (st i).aB y.op.rd) a_ (st i).heap X.H;rw [hx]at this;simpa using this
       ·rw [←Ff B];exact(R.as5 d hr a_ c_ j_).2
      cases e_:y.op.fsl
      case true=>
       have N:=l;have U:=i7;have H:=Y;obtain⟨rg,j9⟩:=aK (ir (st i).aB y.op.rd);rw [←j9]at U H;revert N U;generalize y.op=op at e_;cases op<;>simp only [cX.fsl,reduceCtorEq]at e_;intro N U;obtain⟨_,u,X1,k1,k2,k3,k4,k5,k6,k7⟩:=yO d.sr d.b H N U;exact⟨E,X1,a.put o.dst u,one k1,R.nD d hr m k3 k6 k5 (.inl k4) rfl A k2 (by rw [I];exact d.defs.ext' k5) (jW.iv d k7),J u⟩
      obtain⟨_,u,k1,k2⟩:=alb d.sr Y l i4 e_ i7;exact⟨E,X,a.put o.dst u,one k1,R.nD d hr m d.sr d.b (Ext.refl _ _) (.inl k2) rfl A rfl (by rw [I];exact d.defs) (jW.iv d rfl),J u⟩
  ·simp at g
 ·rename_i c_;have hw:=nV hm (aB:=(st i).aB) (tmps:=a.tmps) (X:=X) (fun p w' hg=>O p (Ga hg)) d.size c_;simp only [At]at g;have A:(st (i+1)).aB=jJ (st i).aB y.dst (.t []):=by rw [←g]
  have q:(st (i+1)).heap=(st i).heap:=by rw [←g]
  have M:(st (i+1)).defs=(st i).defs:=by rw [←g]
  have i6:Steps Q (lone (b.atR a (.inRegion ops (i::rest)::k)) cs X.w) (lone (b.atR (a.put o.dst undef) (.inRegion ops rest::k)) cs X.w):=by
   refine .one ?_;have:=stepR_op_skip (P:=Q) (b:=b) (a:=a) (k:=k) (cs:=cs) (w:=X.w) (ops:=ops) (i:=i) (rest:=rest) (by simp [hr.ho,hw]);rw [hr.ho]at this;exact this
  by_cases m:cls y.op=.w
  ·have a7:=R.aoI d hr m;obtain⟨E',X2,q1,q2⟩:=R.FG d hr m (a1:=a.put o.dst undef) d.sr d.b (Ext.refl _ _) VR.undef rfl A (by rw [d.heap,q,a7]) (by rw [M,I,a7];exact d.defs);exact⟨E',X2,a.put o.dst undef,by rw [q1];exact i6,q2,J _⟩
  ·exact⟨E,X,a.put o.dst undef,i6,R.nD d hr m d.sr d.b (Ext.refl _ _) (.inl VR.undef) rfl A rfl (by rw [I];exact d.defs) (jW.iv d rfl),J _⟩
 ·simp at g
end
end Km
