/-
  Our own small machine for Go code by value, held tN the model: part 2. No program in Gw.
-/
import Derived.Test.YtnaofdffomdmhaaGreatK1
import Derived.AtR
import Derived.RangeFuncIn
import Derived.RangeFuncRecord
import Derived.Conc.MuLone
open Option renaming some → aa,none → ab
open Bool renaming true → ae,false → ag
open Nat renaming le_max_left → avN, le_trans → avv, le_max_right → avC, mul_le_mul_right → avX, le_refl → aft, add_mul → avM, lt_or_ge → avT, lt_irrefl → aw2, add_zero → awL, mul_eq_zero → aw5, zero_add → avP, lt_of_lt_of_le → avJ, lt_trichotomy → awp
open Option.some renaming injEq → At
open Prod.mk renaming injEq → OF
open List renaming getElem?_map → avR, length_map → avi, getElem?_toArray → awV, getElem?_cons_zero → awC, getElem?_cons_succ → awS, length_append → api, getElem?_eq_some_iff → BY, getElem?_set_ne → AI, getElem?_append_left → AT, length_drop → avp, eq_nil_of_length_eq_zero → avm, drop_zero → awj, ext_getElem? → awz, getElem?_set → awW, getElem?_eq_getElem → By, foldl_cons → awA, mem_cons → avn, getElem_mem → anc, getElem?_drop → avt, getElem?_of_mem → av2, drop_eq_nil_iff → axg, drop_eq_getElem_cons → auR, mem_flatMap → awx, mem_append → avq, mem_map → avx, getElem?_take → avI, getElem?_eq_none → awk, getD_eq_getElem?_getD → awI, all_eq_true → avz
open Option renaming map_eq_some_iff → IT, map_some → avY, bind_some → avS
open Bool renaming and_eq_true → If, false_eq_true → avk, true_and → av1
open Int renaming natCast_mul → awT, toNat_natCast → avr, mul_comm → awM
set_option linter.unusedVariables false
set_option linter.constructorNameAsVariable false
set_option linter.unusedSimpArgs false
set_option linter.unusedSectionVars false
set_option maxRecDepth 100000
namespace Km
open Go
section
variable{Q:Program}{σ:Nat→FuncId}{X:Wd}
theorem yu(n:Nat):∀(r c:Nat),Builtin.growBy n r c≤Nat.max c (n+(n+768) / 4)
 | 0,c=>by simp [Builtin.growBy];exact avN _ _
 | r+1,c=>by
  simp only [Builtin.growBy];split
  ·exact avN _ _
  ·rename_i h;refine avv (yu n r _) ?_;apply Nat.max_le.2;exact⟨avv (by omega) (avC _ _),avC _ _⟩
theorem vE{need cap:Nat}(h:cap<need):Builtin.nextslicecap need cap≤2*need+768:=by
 unfold Builtin.nextslicecap;split
 ·omega
 ·split
  ·omega
  ·refine avv (yu need 4 cap) ?_;apply Nat.max_le.2;omega
theorem Ba(K:SR Q σ X){sz:Nat}{y:V}{u:Value}(v:VR σ X y u){m:Nat}{ys:List C}(h:cU X.H sz y=aa (m,ys)) :
  ∃ F,(Builtin.lenOf u).run Q X.w=.ok m X.w∧(Builtin.firstCells sz m u).run Q X.w=.ok F.toArray X.w∧A2 (CR σ X) ys F∧ys.length=m*sz:=by
 unfold cU at h;split at h
 ·rename_i s;have:=VR.str v;subst this;split at h
  case isFalse=>simp at h
  rename_i q;subst q;simp only [At,OF]at h;obtain⟨rfl,rfl⟩:=h;have g:s.extract 0 s.size=s:=ByteArray.extract_zero_size;refine⟨s.data.toList.map fun b=>.int .u8 b.toNat,by simp [Builtin.lenOf],?_,?_,?_⟩
  ·simp only [Builtin.firstCells,g,Sem.run_pure]
   congr 1
   apply Array.ext';simp
  ·rw [ByteArray.toList_eq];exact⟨by simp,fun i x u E B=>by
    simp only [avR,IT]at E B;obtain⟨c,L,rfl⟩:=E;obtain⟨d,z,rfl⟩:=B;rw [L]at z;cases z;exact cS.int _ _⟩
  ·rw [ByteArray.toList_eq];simp only [avi,Array.length_toList,Nat.mul_one];rfl
 ·rename_i x M;split at h
  ·rename_i l cs A j;simp only [At,OF]at h;obtain⟨rfl,rfl⟩:=h;obtain⟨us,H,I,J⟩:=mu K v A j;obtain⟨a,c,rfl⟩:=iQ v A;exact⟨us,by simp [Builtin.lenOf],H,I,J⟩
  ·simp at h
 ·simp at h
structure ary(Q:Program)(t t' e:TypeId)(sz bytes:Nat):Prop where
 hu:Q.underlying t=aa (.slice e)
 hu':∃ d,Q.underlying t'=aa d∧(∀ k,d≠.int k)
 ot:dE Q e sz=ae
 hby:nE Q e bytes=ae
 pos:0<sz
 zero:∃ i z,Q.info? e=aa i∧i.zero=aa z∧z.cells.size=sz
def sR(base:Option Addr)(k:Nat)(b:List Value):Sem Unit:=match base with
 | some a=>storeCells (a.add k) b| none=>pure ()
theorem jU{t O e:TypeId}{sz bytes:Nat}(j:ary Q t O e sz bytes)(W:TypeId){base:Option Addr}{l cap m:Nat}{u:Value}{g:List Value}{w:World}
  (S:(Builtin.lenOf u).run Q w=.ok m w) (Y:(Builtin.firstCells sz m u).run Q w=.ok g.toArray w) :
  (l+m≤cap→(Builtin.append_ #[t,O] W #[.slice base l cap,u]).run Q w =
   ((sR base (l*sz) g).run Q w).andThen fun _ w'=>.ok (.slice base (l+m) cap) w') ∧
  (¬ l+m≤cap→bV (l+m) bytes=ae→∀ os g:List Value,(Builtin.firstCells sz l (.slice base l cap)).run Q w.drew=.ok os.toArray w.drew→(Builtin.firstCells sz m u).run Q w.drew=.ok g.toArray w.drew →
   ∃ nc rest w',l+m≤nc∧(Builtin.append_ #[t,O] W #[.slice base l cap,u]).run Q w=.ok (.slice (aa ⟨w.heap.size,0,ab⟩) (l+m) nc) w' ∧
    ed w w' (.cells (os++g++rest).toArray e)∧rest.length=(nc-(l+m))*sz):=by
 obtain⟨d,U,F⟩:=j.hu';obtain⟨i,z,hi,hz,y⟩:=j.zero;obtain⟨q,s,B⟩:=Am j.hby w;have A:((d matches .int _):Bool)=ag:=by
  cases d with
  | int k=>exact absurd rfl (F k)| _=>rfl
 constructor
 ·intro I;simp only [Builtin.append_,awV];simp [bc j.hu,bc U,di j.ot,A,S,I,Y];cases base<;>simp [sR]
 ·intro H b os g Z h4;unfold bV at b;simp only [If,decide_eq_true_eq]at b;have v:q=i:=by
   simp [typeInfo,hi]at s;exact s.symm
  subst v;have J:¬ (Builtin.nextslicecap (l+m) cap*q.bytes>2 ^ 48):=by
   rw [B];have:=vE (need:=l+m) (cap:=cap) (by omega);have:=avX bytes this;omega
  let nc:=(Question.appendCap (l+m) cap e).cut (w.tape w.drawn (.appendCap (l+m) cap e))
  have K:l+m≤nc:=by simp [nc,Question.cut]
  refine⟨nc,cF (nc-(l+m)) z.cells.toList,w.drew.alloc (.cells (os++g++cF (nc-(l+m)) z.cells.toList).toArray e),K,?_,⟨rfl,rfl,rfl,rfl⟩,by rw [lD];simp [y]⟩;have E:(choose (.appendCap (l+m) cap e)).run Q w=.ok nc w.drew:=by
   simp [choose,Sem.run,Question.forced,nc]
  have M:Builtin.zeroCells z.cells (nc-(l+m))=(cF (nc-(l+m)) z.cells.toList).toArray:=by
   have:=iS z.cells.toList (nc-(l+m)) (by simp [y];exact j.pos);simpa [Builtin.zeroCells]using this
  have x:¬ (((l+m:Nat):Int)>IntKind.i64.max):=by
   have:IntKind.i64.max=9223372036854775807:=by decide
   rw [this];omega
  have N:∀ w',(zeroValue e).run Q w'=.ok z w':=fun w'=>by simp [zeroValue,typeInfo,hi,hz]
  have L:∀ w',(typeInfo e).run Q w'=.ok q w':=fun w'=>by simp [typeInfo,hi]
  simp only [Builtin.append_,Sem.run_bind,bc j.hu,bc U,di j.ot,A,Result.andThen_ok,Sem.run_pure,avk,if_false,S,aY H,Sem.run_ite,L,x,false_and,J,E,run_askRoom,Z,
   Bool.not_false,if_true,h4,N,M,newRow,run_newObj,awV,awC,awS]
  have X:os.toArray++g.toArray++(cF (nc-(l+m)) z.cells.toList).toArray=(os++g++cF (nc-(l+m)) z.cells.toList).toArray:=by simp
  rw [X];rfl
theorem SR.drew(b:SR Q σ X):SR Q σ { X with w:=X.w.drew }∧Ext X.H.length X { X with w:=X.w.drew }:=by
 have d:Ext X.H.length X { X with w:=X.w.drew }:=Ext.one b X.H.length rfl (fun _ _=>Iff.rfl) (fun _ _ _=>rfl) (fun _ _ _ _=>rfl) (fun h=>by omega)
  (fun _ _ _=>rfl) (fun _ _=>rfl) (fun L h=>.inl ⟨L,h,rfl⟩) (aft _) rfl rfl rfl
 exact⟨SR.step Q σ b d X.H.length (fun _ _=>rfl) (fun _ _=>rfl) (fun _ _ _ _=>rfl) (fun _ _ _ _ _ h=>h) (fun L h=>by
  change X.cB X.H.length=aa L at h;rw [SR.sO b]at h;simp at h) b.fb,d⟩
theorem adQ(l:SR Q σ X)(A:X.B≤X.w.heap.size){sz:Nat}(d:0<sz){cs:List C}{us rest:List Value}(h:A2 (CR σ X) cs us){n nc:Nat}(q:cs.length=n*sz)(F:rest.length=(nc-n)*sz)(E:n≤nc)
  {e:TypeId} {w':World} (s:ed X.w w' (.cells (us++rest).toArray e)) :
  ∃ X',X'.w=w'∧X'.H=X.H++[.cf sz cs 0 0 .loc]∧SR Q σ X'∧Ext X.H.length X X'∧VR σ X' (.c (.sl X.H.length 0 n 0 0 sz)) (.slice (aa ⟨X.w.heap.size,0,ab⟩) n nc)∧X'.B≤X'.w.heap.size:=by
 obtain⟨X',u,j,v,x,y,z⟩:=SR.new l A (.cf sz cs 0 0 .loc) s nc fun X' H g B _=>⟨rfl,us,rest,by rw [g];exact jH s,A2.ext' σ H h,by
  have:=h.len;rw [api,F,←this,q,←avM];congr 1;show n+(nc-n)=nc;omega,d,⟨n,q⟩,fun i _ m=>by rw [B]at m;have:=l.fb _ _ m;simp at this⟩
 refine⟨X',u,j,v,x,?_,z⟩;have b:X'.H[X.H.length]?=aa (.cf sz cs 0 0 .loc):=by rw [j];simp
 simp only [VR,ic,CR,fq,b];exact⟨aft _,fun _ _=>⟨_,y,0,by omega,by show 0+n≤nc;omega,by simp⟩,_,_,_,rfl⟩
theorem tX(q:SR Q σ X)(N:X.B≤X.w.heap.size){b sz:Nat}{v cs:List C}{fl ep:Nat}{st:Os}(E:X.H[b]?=aa (.cf sz v fl ep st)){ys:List C}{us A rest:List Value}(F:A2 (CR σ X) cs us)(J:A2 (CR σ X) ys A)
  (z:0<sz) {n nc:Nat} (I:cs.length+ys.length=n*sz) (U:rest.length=(nc-n)*sz) (S:n≤nc) {e:TypeId} {w':World} (j:ed X.w w' (.cells (us++A++rest).toArray e)) :
  ∃ X',X'.w=w'∧X'.H=X.H.set b (.cf sz (cs++ys) fl (ep+1) .loc)∧SR Q σ X'∧Ext X.H.length X X'∧VR σ X' (.c (.sl b 0 n 0 (ep+1) sz)) (.slice (aa ⟨X.w.heap.size,0,ab⟩) n nc)∧X'.B≤X'.w.heap.size:=by
 have y:b<X.H.length:=(BY.1 E).1
 let X':Wd:={ X with H:=X.H.set b (.cf sz (cs++ys) fl (ep+1) .loc),cB:=fun k=>if k=b then aa ⟨X.w.heap.size,nc⟩else X.cB k,w:=w' }
 have g:X'.H[b]?=aa (.cf sz (cs++ys) fl (ep+1) .loc):=by simp [X',y]
 have l:X'.cB b=aa ⟨X.w.heap.size,nc⟩:=by simp [X']
 have u:Ext X.H.length X X':=Ext.one q b rfl (fun _ _=>Iff.rfl) (fun k O _=>j.Db O) (fun L i W x=>World.cell?_of_block (j.Db (q.fb _ _ x)))
  (fun _ bp d=>⟨_,g,by rw [E]at d;simp only [At]at d;subst d;exact⟨rfl,.inr ⟨by omega,rfl,_,l⟩⟩⟩)
  (fun m h _=>by simp [X',AI (Ne.symm h)]) (fun m h=>by simp [X',h]) (fun L h=>by rw [l]at h;simp only [At]at h;subst h;exact .inr (aft _)) (by show X.w.heap.size≤w'.heap.size;rw [j.size];omega) j.os j.tape j.output
 refine⟨X',rfl,rfl,SR.step Q σ q u b (fun m h=>by simp [X',AI (Ne.symm h)]) (fun m h=>by simp [X',h]) (fun m L _ s=>j.Db (q.br m L s).2.1) (fun _ _ _ _ _ h=>h) (fun L h=>?_) (fun c i h=>?_),u,?_,?_⟩
 ·rw [l]at h;simp only [At]at h;subst h;refine⟨N,by show X.w.heap.size<w'.heap.size;rw [j.size];omega,⟨_,g,rfl,us++A,rest,jH j,(A2.ext' σ u F).append (A2.ext' σ u J),?_,z,⟨n,by simpa using I⟩,fun i _ x=>?_⟩,fun m B _ s=>?_⟩
  ·have K:=F.len;have M:=J.len;rw [api,api,U,←K,←M,I,←avM];congr 1;show n+(nc-n)=nc;omega
  ·have:=q.fb _ _ x;simp at this
  ·have:=(q.br m B s).2.1;show B.c≠X.w.heap.size;omega
 ·have:=q.fb c i h;show c<w'.heap.size;rw [j.size];omega
 ·simp only [VR,ic,CR,fq,g];exact⟨aft _,fun _ _=>⟨_,l,0,by omega,by show 0+n≤nc;omega,by simp⟩,_,_,_,rfl⟩
 ·show X.B≤w'.heap.size;rw [j.size];omega
end
section
variable{Q:Program}{σ:Nat→FuncId}{X:Wd}
theorem vO{d:Type}(us rest b:List d)(h:b.length≤rest.length):over (us++rest) us.length b=us++b++rest.drop b.length:=by
 unfold over;rw [List.take_left',←List.drop_drop,List.drop_left']
 all_goals rfl
theorem ap6(K:SR Q σ X){b sz:Nat}{cs:List C}{fl ep:Nat}{L:Loc}(y:X.H[b]?=aa (.cf sz cs fl ep .loc))(x:X.cB b=aa L){ys:List C}{l:List Value}(F:A2 (CR σ X) ys l)(W:fl≤cs.length)
  {n:Nat} (Y:cs.length+ys.length=n*sz) (m:n≤L.cap):∃ X',(storeCells ⟨L.c,cs.length,ab⟩ l).run Q X.w=.ok () X'.w∧X'.H=X.H.set b (.cf sz (cs++ys) fl (ep+1) .loc)∧SR Q σ X' ∧
   Ext X.H.length X X'∧VR σ X' (.c (.sl b 0 n 0 (ep+1) sz)) (.slice (aa ⟨L.c,0,ab⟩) n L.cap)∧X'.w.heap.size=X.w.heap.size∧X'.B=X.B:=by
 obtain⟨_,_,bp,j,z⟩:=K.br b L x;rw [y]at j;simp only [At]at j;subst j;obtain⟨_,us,rest,A,H,J,S,k,I⟩:=z;have q:b<X.H.length:=(BY.1 y).1;have Z:=F.len;have g:=H.len;have E:n*sz≤L.cap*sz:=avX sz m;have B:l.length≤rest.length:=by simp only [api]at J;omega
 obtain⟨M,a,c,e,f,v⟩:=eh A l cs.length (by simp;omega);rw [g,vO _ _ _ B]at v;rw [←g]at v;obtain⟨N,O⟩:=SR.turn K (blk':=.cf sz (cs++ys) fl (ep+1) .loc) y x M a (fun i U=>by
   have hi:i<fl:=by
    rcases avT i fl with h | h
    ·exact h
    ·exact absurd U (I i h)
   have:=dy v i;rw [g]at this ⊢;rw [this,dy A,List.append_assoc,AT (by omega),AT (by omega)]) c e f
  (fun bp d=>⟨.cf sz (cs++ys) fl (ep+1) .loc,by simp [q],by rw [y]at d;simp only [At]at d;subst d;exact⟨rfl,.inr ⟨by omega,rfl,L,x⟩⟩⟩)
  (fun u=>⟨rfl,us++l,rest.drop l.length,by rw [g]at v ⊢;exact v,(A2.ext' σ u H).append (A2.ext' σ u F),by simp only [api,avp]at J ⊢;omega,S,⟨n,by simpa using Y⟩,I⟩)
 refine⟨_,sS A l cs.length (by simp;omega) (A2.one F),rfl,N,O,?_,M,rfl⟩;have s:(X.H.set b (.cf sz (cs++ys) fl (ep+1) .loc))[b]?=aa (.cf sz (cs++ys) fl (ep+1) .loc):=by simp [q]
 simp only [VR,ic,CR,fq,s];exact⟨aft _,fun _ _=>⟨L,x,0,by omega,by omega,by simp⟩,_,_,_,rfl⟩
theorem zX{c:Call}{sz bytes:Nat}{x y:Arg}(h:ef Q σ c (.append sz bytes x y)=ae):∃ u v t m e,c.callee=.builtin .append∧c.args=#[u,v]∧c.argTypes=#[t,m]∧mA σ x u=ae∧mA σ y v=ae ∧
  ary Q t m e sz bytes:=by
 simp only [ef]at h;split at h
 ·rename_i u v t m B E F;simp only [If]at h;obtain⟨⟨⟨I,J⟩,l⟩,g⟩:=h;obtain⟨e,H,l⟩:=iE l;simp only [If,decide_eq_true_eq]at l;obtain⟨⟨⟨s,q⟩,d⟩,j⟩:=l;have A:∃ i z,Q.info? e=aa i∧i.zero=aa z∧z.cells.size=sz:=by
   cases hi:Q.info? e with
   | none=>simp [hi]at j
   | some i=>
    simp only [hi,Option.any_some]at j;cases b:i.zero with
    | none=>simp [b]at j| some z=>simp [b]at j;exact⟨i,z,rfl,b,j⟩
  refine⟨u,v,t,m,e,B,ajD E,ajD F,I,J,⟨H,?_,s,q,d,A⟩⟩;split at g
  ·exact⟨_,by assumption,fun k=>by simp⟩
  ·exact⟨_,by assumption,fun k=>by simp⟩
  ·simp at g
 ·simp at h
theorem xQ(W:SR Q σ X)(hB:X.B≤X.w.heap.size){a:Act}{aD:T}(hR:RR σ X aD a.tmps){o:Oper}{sz bytes:Nat}{x y:Arg}(hm:dU Q σ o (.append sz bytes x y)=ae){v:V}{H':aj}
  (h:bq aD X.H (.append sz bytes x y)=aa (v,H')):il Q σ X v H' (execOp a.eval o):=by
 simp only [dU]at hm;split at hm
 ·rename_i c ho;obtain⟨u,v',t,t',e,h1,h2,h3,hx,hy,ht⟩:=zX hm;have hx:=bU hR hx;have hy:=bU hR hy;simp only [bq]at h;generalize n8:a.eval u=ux at hx;generalize n9:a.eval v'=uy at hy;generalize x.ev aD=vx at hx h;generalize y.ev aD=vy at hy h;have a_:∀(r:Value) (w':World),(Builtin.append_ #[t,t'] o.type #[ux,uy]).run Q X.w=.ok r w'→(execOp a.eval o).run Q X.w=.ok (.value r) w':=by
   intro r w' hr;refine dA ho h1 fun cs=>?_;simp [builtin,h2,h3,n8,n9,hr]
  unfold cH at h;split at h
  ·simp at h
  rename_i m ys f8;rw [aY (by have:=ht.pos;omega)]at h;obtain⟨vs,b_,b9,d_,f7⟩:=Ba W hy f8;obtain⟨Y,i8⟩:=SR.drew W;obtain⟨a8,_,e_,j6,_⟩:=Ba Y (VR.ext' σ i8 hy) f8;have B:A2 (CR σ X) ys a8:=by
   have d9:Ext X.H.length { X with w:=X.w.drew } X:=Ext.one Y X.H.length rfl (fun _ _=>Iff.rfl) (fun _ _ _=>rfl) (fun _ _ _ _=>rfl) (fun h=>absurd h (aw2 _))
    (fun _ _ _=>rfl) (fun _ _=>rfl) (fun L h=>.inl ⟨L,h,rfl⟩) (aft _) rfl rfl rfl
   exact A2.ext' σ (X:={ X with w:=X.w.drew }) d9 j6
  have H:∀ {base:Option Addr} {l cap:Nat} {os:List Value} {cs:List C},ux=.slice base l cap→¬ l+m≤cap→bV (l+m) bytes=ae →
    (Builtin.firstCells sz l (.slice base l cap)).run Q X.w.drew=.ok os.toArray X.w.drew→A2 (CR σ X) cs os→cs.length=l*sz →
    il Q σ X (.c (.sl X.H.length 0 (l+m) 0 0 sz)) (X.H++[.cf sz (cs++ys) 0 0 .loc]) (execOp a.eval o):=by
   intro base l cap os cs hu h_ d k_ j_ j9;obtain⟨nc,rest,w',J,j,g,K⟩:=(jU ht o.type (base:=base) (l:=l) (cap:=cap) b_ b9).2 h_ d os a8 k_ e_;obtain⟨X',N,I,O,S,U,g6⟩:=adQ W hB ht.pos (cs:=cs++ys) (us:=os++a8) (j_.append B) (n:=l+m) (nc:=nc) (by rw [api,j9,f7,avM]) K J g;exact⟨_,X',.inl (by rw [N];exact a_ _ _ (by rw [hu];exact j)),I,O,U,S,g6⟩
  have A:∀ {base:Option Addr} {l cap:Nat} {X':Wd},ux=.slice base l cap→l+m≤cap→(sR base (l*sz) vs).run Q X.w=.ok () X'.w →
    (execOp a.eval o).run Q X.w=.ok (.value (.slice base (l+m) cap)) X'.w:=by
   intro base l cap X' hu q m_;refine a_ _ _ ?_;rw [hu,(jU ht o.type (base:=base) (l:=l) (cap:=cap) b_ b9).1 q,m_];rfl
  split at h
  ·
   cases (hx:cS σ X.F X.w .az ux);split at h
   ·rename_i Z;subst Z;simp only [At,OF]at h;obtain⟨rfl,rfl⟩:=h;exact⟨_,X,.inl (A (X':=X) rfl (by omega) rfl),rfl,W,cS.az,Ext.refl _ _,hB⟩
   ·split at h
    ·rename_i d;simp only [At,OF]at h;obtain⟨rfl,rfl⟩:=h;have:=H (base:=ab) (l:=0) (cap:=0) (os:=[]) (cs:=[]) rfl (by omega) (by simpa using d) (by simp [Builtin.firstCells]) A2.nil (by simp);simpa using this
    ·simp at h
  ·
   cases (hx:cS σ X.F X.w .es ux);rename_i ad;split at h
   ·rename_i Z;subst Z;simp only [At,OF]at h;obtain⟨rfl,rfl⟩:=h;have i6:vs=[]:=avm (by rw [←d_.len,f7];simp);exact⟨_,X,.inl (A (X':=X) rfl (by omega) (by rw [i6];rfl)),rfl,W,cS.es _,Ext.refl _ _,hB⟩
   ·split at h
    ·rename_i d;simp only [At,OF]at h;obtain⟨rfl,rfl⟩:=h;have:=H (base:=aa ad) (l:=0) (cap:=0) (os:=[]) (cs:=[]) rfl (by omega) (by simpa using d) (by simp [Builtin.firstCells,loadCells,loadCellsFrom]) A2.nil (by simp);simpa using this
    ·simp at h
  ·rename_i b off l cap ep s;have i7:CR σ X (.sl b off l cap ep s) ux:=hx;simp only [VR,ic,CR,fq]at hx;split at h
   ·
    rename_i cs fl F;rw [F]at hx;obtain⟨L,hL,p_,rfl⟩:=hx;split at h
    ·rename_i q;split at h
     ·rename_i hc;simp only [At,OF]at h;obtain⟨rfl,rfl⟩:=h;obtain⟨X',N,I,O,S,U,g6,g7⟩:=C7 W F hL d_ hc.1 hc.2;refine⟨_,X',.inl (A rfl q (by simp only [sR,ek];exact N)),I,O,?_,S,by omega⟩;have c_:X'.H[b]?=aa (.box (over cs (off+l*sz) ys) fl):=by rw [I];simp [(BY.1 F).1]
      simp only [VR,ic,CR,fq,c_];exact⟨L,by rw [U];exact hL,q,rfl⟩
     ·simp at h
    ·rename_i h_;split at h
     ·rename_i hc;simp only [At,OF]at h;obtain⟨rfl,rfl⟩:=h;have i4:cP X.H sz (.sl b off l cap ep s)=aa ((cs.drop off).take (l*sz)):=by simp [cP,F,hc.2]
      have i5:bu X.H (.sl b off l cap ep s)=aa l:=by simp [bu,F]
      obtain⟨os,q1,q2,q3⟩:=mu Y (CR.ext' σ i8 i7) i5 i4;have i9:A2 (CR σ X) ((cs.drop off).take (l*sz)) os:=by
       have d9:Ext X.H.length { X with w:=X.w.drew } X:=Ext.one Y X.H.length rfl (fun _ _=>Iff.rfl) (fun _ _ _=>rfl) (fun _ _ _ _=>rfl) (fun h=>absurd h (aw2 _))
        (fun _ _ _=>rfl) (fun _ _=>rfl) (fun L h=>.inl ⟨L,h,rfl⟩) (aft _) rfl rfl rfl
       exact A2.ext' σ (X:={ X with w:=X.w.drew }) d9 q2
      exact H rfl h_ hc.1 q1 i9 q3
     ·simp at h
   ·
    rename_i s' cs fl e' st F;rw [F]at hx;split at h
    ·rename_i hc;obtain⟨rfl,rfl,rfl⟩:=hc;have M:=hx.2.1 rfl rfl;split at h
     ·
      rename_i Z;subst Z;simp only [At,OF]at h;obtain⟨rfl,rfl⟩:=h;have i6:vs=[]:=avm (by rw [←d_.len,f7];simp);obtain⟨base,n,cp,E⟩:=hx.2.2;have m9:n=l∧l≤cp:=by
       cases st with
       | loc=>obtain⟨L,_,k,_,hk,h8⟩:=M;rw [E]at h8;simp only [Value.slice.injEq]at h8;omega
       | nil=>obtain⟨_,rfl,h8⟩:=M;rw [E]at h8;simp only [Value.slice.injEq]at h8;omega
       | es=>obtain⟨_,rfl,_,h8⟩:=M;rw [E]at h8;simp only [Value.slice.injEq]at h8;omega
      obtain⟨rfl,o_⟩:=m9;refine⟨.slice base (n+0) cp,X,.inl (A (X':=X) E (by omega) (by rw [i6];cases base<;>rfl)),rfl,W,?_,Ext.refl _ _,hB⟩;rw [awL,←E];exact i7
     ·rename_i Z;split at h
      ·
       rename_i hc;obtain⟨rfl,z,i_⟩:=hc;split at h
       ·rename_i d;simp only [At,OF]at h;obtain⟨rfl,rfl⟩:=h;have hn:cs.length+ys.length=(l+m)*s:=by rw [f7,←z,avM]
        cases st with
        | loc=>
         obtain⟨L,hL,k,m4,hk,rfl⟩:=M;have j5:k=0:=by
          rcases aw5.1 m4.symm with h8 | h8
          ·exact h8
          ·have:=ht.pos;omega
         subst j5;rw [Nat.sub_zero]at *;by_cases q:l+m≤L.cap
         ·obtain⟨X',N,I,O,S,U,g6,g7⟩:=ap6 W F hL d_ i_ hn q;exact⟨_,X',.inl (A rfl q (by simp only [sR,ek];rw [z,avP];exact N)),I,O,U,S,by omega⟩
         ·have i4:cP X.H s (.sl b 0 l cap ep s)=aa ((cs.drop 0).take (l*s)):=by simp [cP,F,z]
          have i5:bu X.H (.sl b 0 l cap ep s)=aa l:=by simp [bu,F]
          obtain⟨os,q1,q2,q3⟩:=mu Y (CR.ext' σ i8 i7) i5 i4;have i9:A2 (CR σ X) cs os:=by
           have d9:Ext X.H.length { X with w:=X.w.drew } X:=Ext.one Y X.H.length rfl (fun _ _=>Iff.rfl) (fun _ _ _=>rfl) (fun _ _ _ _=>rfl) (fun h=>absurd h (aw2 _))
            (fun _ _ _=>rfl) (fun _ _=>rfl) (fun L h=>.inl ⟨L,h,rfl⟩) (aft _) rfl rfl rfl
           have:=A2.ext' σ (X:={ X with w:=X.w.drew }) d9 q2;rwa [awj,z,List.take_length]at this
          obtain⟨nc,rest,w',J,j,g,K⟩:=(jU ht o.type (base:=aa ⟨L.c,0,ab⟩) (l:=l) (cap:=L.cap) b_ b9).2 q d os a8 q1 e_;obtain⟨X',N,I,O,S,U,g6⟩:=tX W hB F i9 B ht.pos hn K J g;exact⟨_,X',.inl (by rw [N];exact a_ _ _ (by simpa using j)),I,O,U,S,g6⟩
        | nil=>
         obtain⟨_,rfl,rfl⟩:=M;have g_:cs=[]:=avm (by simpa using z.symm);subst g_;obtain⟨nc,rest,w',J,j,g,K⟩:=(jU ht o.type (base:=ab) (l:=0) (cap:=0) b_ b9).2 (by omega) d [] a8 (by simp [Builtin.firstCells]) e_;obtain⟨X',N,I,O,S,U,g6⟩:=tX W hB F (us:=[]) A2.nil B ht.pos hn K J g;exact⟨_,X',.inl (by rw [N];exact a_ _ _ j),I,O,U,S,g6⟩
        | es=>
         obtain⟨_,rfl,ad,rfl⟩:=M;have g_:cs=[]:=avm (by simpa using z.symm);subst g_;obtain⟨nc,rest,w',J,j,g,K⟩:=(jU ht o.type (base:=aa ad) (l:=0) (cap:=0) b_ b9).2 (by omega) d [] a8 (by simp [Builtin.firstCells,loadCells,loadCellsFrom]) e_;obtain⟨X',N,I,O,S,U,g6⟩:=tX W hB F (us:=[]) A2.nil B ht.pos hn K J g;exact⟨_,X',.inl (by rw [N];exact a_ _ _ j),I,O,U,S,g6⟩
       ·simp at h
      ·split at h
       ·
        rename_i hc;obtain⟨rfl,j4,l_⟩:=hc;simp only [At,OF]at h;obtain⟨rfl,rfl⟩:=h;obtain⟨L,hL,k,rfl,hk,rfl⟩:=M;obtain⟨_,_,bp,f_,j8⟩:=W.br b L hL;rw [F]at f_;simp only [At]at f_;subst f_;obtain⟨_,us,rest,hr,j7,h6,h7,h8,n_⟩:=j8;have q:l+m≤L.cap-k:=by
         have e1:(k+(l+m))*s≤L.cap*s:=by
          rw [avM,avM];have:=j7.len;simp only [api]at h6;omega
         have:=Nat.le_of_mul_le_mul_right e1 h7;omega
        obtain⟨X',N,I,O,S,U,g6,g7⟩:=C8 W F hL d_ j4 l_;refine⟨_,X',.inl (A rfl q (by simp only [sR,ek];exact N)),I,O,?_,S,by omega⟩;have c_:X'.H[b]?=aa (.cf s (over cs (k*s+l*s) ys) fl ep .loc):=by rw [I];simp [(BY.1 F).1]
        simp only [VR,ic,CR,fq,c_];exact⟨aft _,fun _ _=>⟨L,by rw [U];exact hL,k,rfl,by omega,rfl⟩,_,_,_,rfl⟩
       ·simp at h
    ·simp at h
   ·simp at h
  ·simp at h
 ·simp at hm
end
section
variable{Q:Program}{σ:Nat→FuncId}{X:Wd}
theorem D8{c:Call}{sz bytes:Nat}{zs:List FC}{x y:Arg}(h:ef Q σ c (.lO sz bytes zs x y)=ae):∃ u v t j e k,c.callee=.builtin .append∧c.args=#[u,v]∧c.argTypes=#[t,j]∧mA σ x u=ae∧mA σ y v=ae ∧
  Q.underlying t=aa (.slice e)∧dE Q e sz=ae∧nE Q e bytes=ae∧0<sz∧lH Q e zs=ae∧Q.underlying j=aa (.int k):=by
 simp only [ef]at h;split at h
 ·rename_i u v t j q s z;simp only [If]at h;obtain⟨⟨⟨E,F⟩,g⟩,d⟩:=h;obtain⟨e,B,g⟩:=iE g;simp only [If,decide_eq_true_eq]at g;obtain⟨⟨⟨m,l⟩,b⟩,H⟩:=g;split at d
  ·rename_i k A;exact⟨u,v,t,j,e,k,q,ajD s,ajD z,E,F,B,m,l,b,H,A⟩
  ·simp at d
 ·simp at h
theorem afa{n:Nat}(h:n<2 ^ 48):IntKind.i64.wrap (n:Int)=n:=by
 simp only [IntKind.wrap,IntKind.bits,IntKind.signed];have b:(2 ^ 64:Int)=18446744073709551616:=by decide
 have d:(2 ^ (64-1):Int)=9223372036854775808:=by decide
 have g:(2:Nat) ^ 48=281474976710656:=by decide
 simp only [b,d,av1,decide_eq_true_eq];split<;>omega
theorem vZ{t Z e:TypeId}{sz bytes:Nat}{k k':IntKind}(c:Q.underlying t=aa (.slice e))(A:Q.underlying Z=aa (.int k))(x:dE Q e sz=ae)(F:nE Q e bytes=ae)(a:0<sz)
  {z:Value} {us:List Value} {i:TypeInfo} (hi:Q.info? e=aa i) (r:i.zero=aa z) (U:z.cells=us.toArray) (N:us.length=sz) (f:TypeId) {base:Option Addr} {n:Nat} {w:World} :
  (n=0→(Builtin.append_ #[t,Z] f #[.slice base 0 0,.int k' (n:Int)]).run Q w=.ok (.slice base 0 0) w) ∧
  (n≠0→bV n bytes=ae→∃ nc rest w',n≤nc∧(Builtin.append_ #[t,Z] f #[.slice base 0 0,.int k' (n:Int)]).run Q w=.ok (.slice (aa ⟨w.heap.size,0,ab⟩) n nc) w' ∧
   ed w w' (.cells (cF n us++rest).toArray e)∧rest.length=(nc-n)*sz):=by
 obtain⟨g,l,s⟩:=Am F w;have u:g=i:=by simp [typeInfo,hi]at l;exact l.symm
 subst u;have y:∀ w',(typeInfo e).run Q w'=.ok g w':=fun w'=>by simp [typeInfo,hi]
 have Y:∀ w',(zeroValue e).run Q w'=.ok z w':=fun w'=>by simp [zeroValue,typeInfo,hi,r]
 have j:∀(q:Int) w',(asInt (.int k' q)).run Q w'=.ok q w':=fun q w'=>by simp [asInt,asIntOf]
 constructor
 ·rintro rfl;have O:IntKind.i64.wrap 0=0:=by decide
  simp only [Builtin.append_,awV];simp [bc c,bc A,di x,y,j,O];cases base<;>simp [storeCells]
 ·intro hn b;have E:=b;unfold bV at b;simp only [If,decide_eq_true_eq]at b;have S:=afa b.2;have K:¬ (Builtin.nextslicecap n 0*g.bytes>2 ^ 48):=by
   rw [s];have:=vE (need:=n) (cap:=0) (by omega);have:=avX bytes this;omega
  let nc:=(Question.appendCap n 0 e).cut (w.tape w.drawn (.appendCap n 0 e))
  have L:n≤nc:=by simp [nc,Question.cut]
  have H:(choose (.appendCap n 0 e)).run Q w=.ok nc w.drew:=by
   simp [choose,Sem.run,Question.forced,nc]
  have X:∀ m,Builtin.zeroCells z.cells m=(cF m us).toArray:=fun m=>by
   have:=iS us m (by omega);simpa [Builtin.zeroCells,U]using this
  have v:¬ ((n:Int)>IntKind.i64.max):=by
   have:IntKind.i64.max=9223372036854775807:=by decide
   have e3:(2:Nat) ^ 48=281474976710656:=by decide
   rw [this];omega
  have I:¬ ((n:Int)<0):=by omega
  have J:¬ ((n:Int)*(g.bytes:Int)>2 ^ 48):=by
   rw [s];have o:n*bytes≤2 ^ 48:=avv (avX bytes (by omega:n≤2*n+768)) b.1;have p:((n*bytes:Nat):Int)≤2 ^ 48:=by
    have B:((2 ^ 48:Nat):Int)=2 ^ 48:=by decide
    rw [←B];exact Int.ofNat_le.2 o
   rw [awT]at p;omega
  have d:(Builtin.firstCells sz 0 (.slice base 0 0)).run Q w.drew=.ok #[] w.drew:=by
   cases base<;>simp [Builtin.firstCells,loadCells,loadCellsFrom]
  have M:¬ (n*sz=0):=by
   intro h;rcases aw5.1 h with h | h<;>omega
  refine⟨nc,cF (nc-n) us,w.drew.alloc (.cells (cF n us++cF (nc-n) us).toArray e),L,?_,⟨rfl,rfl,rfl,rfl⟩,by rw [lD,N]⟩;have W:¬ (n≤0):=by omega
  have hint:((n:Int)).toNat=n:=by simp
  simp only [Builtin.append_,Sem.run_bind,bc c,bc A,di x,Result.andThen_ok,Sem.run_pure,avk,if_false,Sem.run_ite,y,false_and,K,H,run_askRoom,
   Bool.not_true,if_true,Y,X,newRow,run_newObj,awV,awC,awS,j,S,I,J,hint,avP,W,v,M,d,true_or,and_true,Bool.true_eq]
  have B:#[]++(cF n us).toArray++(cF (nc-n) us).toArray=(cF n us++cF (nc-n) us).toArray:=by simp
  first
   | (rw [B];rfl)
   | (simp [B];rfl)
theorem ajC(U:SR Q σ X)(S:X.B≤X.w.heap.size){a:Act}{aD:T}(hR:RR σ X aD a.tmps){o:Oper}{sz bytes:Nat}{zs:List FC}{x y:Arg}(N:dU Q σ o (.lO sz bytes zs x y)=ae){v:V}{H':aj}
  (h:bq aD X.H (.lO sz bytes zs x y)=aa (v,H')):il Q σ X v H' (execOp a.eval o):=by
 simp only [dU]at N;split at N
 ·rename_i c ho;obtain⟨u,v',t,t',e,k,h1,h2,h3,J,L,f,F,s,g,hz,W⟩:=D8 N;have J:=bU hR J;have L:=bU hR L;simp only [bq]at h;generalize i:a.eval u=O at J;generalize p:a.eval v'=uy at L;generalize x.ev aD=vx at J h;generalize y.ev aD=vy at L h;have l:∀(r:Value) (w':World),(Builtin.append_ #[t,t'] o.type #[O,uy]).run Q X.w=.ok r w'→(execOp a.eval o).run Q X.w=.ok (.value r) w':=by
   intro r w' hr;refine dA ho h1 fun cs=>?_;simp [builtin,h2,h3,i,p,hr]
  unfold uK at h;split at h
  ·rename_i n hn;obtain⟨k',E⟩:=js L hn;split at h
   ·rename_i hc;obtain⟨z,us,a8,I,M,i0,A,B⟩:=eT (σ:=σ) (X:=X) hz X.w;have H:us.length=sz:=by have:=M.len;simp at this;omega
    obtain⟨m,rfl⟩:∃ m:Nat,n=m:=⟨n.toNat,by omega⟩
    have j:∀ base,O=.slice base 0 0→(v,H')=(.c (.sl X.H.length 0 m 0 0 sz),X.H++[.cf sz ((cF m zs).map .f) 0 0 .loc])→m≠0→bV m bytes=ae→il Q σ X v H' (execOp a.eval o):=by
     intro base hb he d b;cases he;obtain⟨nc,rest,w',Y,K,q,Z⟩:=(vZ (k':=k') f W F s g A B I H o.type (base:=base) (n:=m)).2 d b;obtain⟨X',g1,g2,g3,g4,g5,g6⟩:=adQ U S g (cs:=(cF m zs).map .f) (us:=cF m us) (jW M m) (n:=m) (nc:=nc) (by rw [avi,lD,hc.2]) Z Y q;exact⟨_,X',.inl (by rw [g1];exact l _ _ (by rw [hb,E];exact K)),g2,g3,g5,g4,g6⟩
    split at h
    ·cases (J:cS σ X.F X.w .az O);simp only [avr]at h;split at h
     ·rename_i d;simp only [At,OF]at h;obtain⟨rfl,rfl⟩:=h;exact⟨_,X,.inl (l _ _ (by rw [E];exact(vZ (k':=k') f W F s g A B I H o.type (base:=ab) (n:=m)).1 d)),rfl,U,cS.az,Ext.refl _ _,S⟩
     ·rename_i d;split at h
      ·rename_i b;simp only [At]at h;exact j ab rfl h.symm d b
      ·simp at h
    ·cases (J:cS σ X.F X.w .es O);rename_i w;simp only [avr]at h;split at h
     ·rename_i d;simp only [At,OF]at h;obtain⟨rfl,rfl⟩:=h;exact⟨_,X,.inl (l _ _ (by rw [E];exact(vZ (k':=k') f W F s g A B I H o.type (base:=aa w) (n:=m)).1 d)),rfl,U,cS.es _,Ext.refl _ _,S⟩
     ·rename_i d;split at h
      ·rename_i b;simp only [At]at h;exact j (aa w) rfl h.symm d b
      ·simp at h
    ·simp at h
   ·simp at h
  ·simp at h
 ·simp at N
end
section
variable{Q:Program}{σ:Nat→FuncId}{X:Wd}
theorem apF(s:SR Q σ X)(m:X.B≤X.w.heap.size){a:Act}{aD:T}{o:Oper}{st:Os}{sz:Nat}(d:dU Q σ o (.pre st sz)=ae){v:V}{H':aj}
  (h:bq aD X.H (.pre st sz)=aa (v,H')):il Q σ X v H' (execOp a.eval o):=by
 cases st with
 | nil=>
  simp only [bq]at h;split at h
  ·simp at h
  ·simp only [At,OF]at h;obtain⟨rfl,rfl⟩:=h;obtain⟨j,l⟩:=SR.grow s (.cf sz [] 0 0 .nil);have q:VR σ { X with H:=X.H++[.cf sz [] 0 0 .nil] } (.c (.sl X.H.length 0 0 0 0 sz)) (.slice ab 0 0):=by
    have b:(X.H++[bw.cf sz [] 0 0 .nil])[X.H.length]?=aa (.cf sz [] 0 0 .nil):=by simp
    simp only [VR,ic,CR,fq,b];exact⟨aft _,fun _ _=>by simp,_,_,_,rfl⟩
   simp only [dU]at d;split at d
   ·rename_i g;exact⟨.slice ab 0 0,_,.inl (by simp [execOp,g,Act.eval]),rfl,j,q,l,m⟩
   ·rename_i g;exact⟨.slice ab 0 0,_,.inl (by simp [execOp,g,Act.eval]),rfl,j,q,l,m⟩
   ·simp at d
 | _=>simp [dU]at d
theorem adN(u:SR Q σ X)(s:X.B≤X.w.heap.size){a:Act}{o:Oper}(b:dU Q σ o .jQ=ae):il Q σ X (.c (.mp X.H.length)) (X.H++[.map []]) (execOp a.eval o):=by
 simp only [dU]at b;split at b
 ·rename_i t v;obtain⟨X',g,d,j,l,m,q⟩:=SR.new u s (.map []) (ed.alloc X.w (.map #[] 0)) 0 fun X' z x y _=>⟨[],by rw [x];exact(ed.alloc _ _).new,A2.nil,by simp⟩
  exact⟨.map (aa X.w.heap.size),X',.inl (by rw [g];simp [execOp,v,Instr.makeMap]),d,j,⟨_,m,⟨[],by rw [d];simp⟩,rfl⟩,l,q⟩
 ·simp at b
theorem ad'(E:SR Q σ X)(A:X.B≤X.w.heap.size){a:Act}{aD:T}(B:RR σ X aD a.tmps){o:Oper}{x:Arg}(d:dU Q σ o (.range x)=ae){v:V}{H':aj}
  (h:bq aD X.H (.range x)=aa (v,H')):il Q σ X v H' (execOp a.eval o):=by
 simp only [dU]at d;split at d
 ·rename_i t y F;simp only [If]at d;obtain⟨b,j⟩:=d;have b:=bU B b;simp only [bq]at h;split at h
  ·rename_i s H;rw [H]at b;have b:=VR.str b;simp only [At,OF]at h;obtain⟨rfl,rfl⟩:=h;split at j
   ·rename_i I;obtain⟨X',l,g,m,q,u,z⟩:=SR.new E A (.it s 0) (ed.alloc X.w (.stringIter s 0)) 0 fun X' b J K _=>by
     show X'.w.heap[X.w.heap.size]?=_;rw [J];exact(ed.alloc _ _).new
    exact⟨.pointer (aa ⟨X.w.heap.size,0,ab⟩),X',.inl (by rw [l];simp [execOp,F,Instr.range,bc I,b]),g,m,⟨_,u,⟨s,0,by rw [g];simp⟩,rfl⟩,q,z⟩
   ·simp at j
  ·simp at h
 ·simp at d
theorem SR.rA(s:SR Q σ X){b:Nat}{bp blk':bw}{L:Loc}{o o':Obj}(x:X.H[b]?=aa bp)(q:X.cB b=aa L)(ho:X.w.heap[L.c]?=aa o)(m:∀ c e f,o≠.cells c e f)(j:∀ c e f,o'≠.cells c e f)
  (d:mz X { X with H:=X.H.set b blk',w:={ X.w with heap:=X.w.heap.setIfInBounds L.c o' } } b)
  (l:∀ X',Ext X.H.length X X'→X'.w.heap[L.c]?=aa o'→X'.F=X.F→X'.cB=X.cB→X'.H=X.H.set b blk'→BR Q σ X' blk' L) :
  SR Q σ { X with H:=X.H.set b blk',w:={ X.w with heap:=X.w.heap.setIfInBounds L.c o' } }∧Ext X.H.length X { X with H:=X.H.set b blk',w:={ X.w with heap:=X.w.heap.setIfInBounds L.c o' } }:=by
 have g:L.c<X.w.heap.size:=(s.br b L q).2.1;refine SR.turn s x q (by simp) (fun k y=>by simp [Array.getElem?_setIfInBounds_ne (Ne.symm y)]) (fun i _=>?_) rfl rfl rfl d (fun z=>l _ z (by simp [g]) rfl rfl rfl);have u:({ X.w with heap:=X.w.heap.setIfInBounds L.c o' }:World).cell? ⟨L.c,i,ab⟩=ab:=by
  simp only [World.cell?];rw [show(X.w.heap.setIfInBounds L.c o')[L.c]?=aa o' by simp [g]];cases o'<;>simp at j ⊢
 have v:X.w.cell? ⟨L.c,i,ab⟩=ab:=by
  simp only [World.cell?,ho];cases o<;>simp at m ⊢
 rw [u,v]
theorem akB(q:SR Q σ X)(A:X.B≤X.w.heap.size){a:Act}{aD:T}(M:RR σ X aD a.tmps){o:Oper}{x:Arg}(m:dU Q σ o (.next x)=ae){v:V}{H':aj}
  (h:bq aD X.H (.next x)=aa (v,H')):il Q σ X v H' (execOp a.eval o):=by
 simp only [dU]at m;split at m
 ·rename_i y E;have H:=bU M m;simp only [bq]at h;unfold Gg at h;split at h
  ·rename_i b O;rw [O]at H;obtain⟨L,B,⟨U,S,N⟩,F⟩:=H;split at h
   ·rename_i s pos l;obtain⟨_,_,bp,j,u⟩:=q.br b L B;rw [l]at j;simp only [At]at j;subst j;have g:X.w.heap[L.c]?=aa (.stringIter s pos):=u;split at h
    ·rename_i z;simp only [At,OF]at h;obtain⟨rfl,rfl⟩:=h;obtain⟨I,J⟩:=SR.rA (o':=.stringIter s (pos+(Utf8.decode s pos).2)) (blk':=.it s (pos+(Utf8.decode s pos).2)) q l B g (by simp) (by simp)
      (fun bp d=>⟨.it s (pos+(Utf8.decode s pos).2),by simp [(BY.1 l).1],by rw [l]at d;simp only [At]at d;subst d;exact fun L h=>h⟩)
      (fun X' _ K _ _ _=>K)
     refine⟨.tuple #[.bool ae,.int .i64 pos,.int .i32 (Utf8.decode s pos).1],_,.inl ?_,rfl,I,⟨[.bool ae,.int .i64 pos,.int .i32 (Utf8.decode s pos).1],rfl,?_⟩,J,by simpa using A⟩
     ·simp only [execOp,E];refine en ?_;simp [Instr.next,F,getObj,setObj,Sem.run,g,z,goInt]
     ·exact A2.cons (cS.bool _) (A2.cons (cS.int _ _) (A2.cons (cS.int _ _) A2.nil))
    ·rename_i z;simp only [At,OF]at h;obtain⟨rfl,rfl⟩:=h;refine⟨.tuple #[.bool ag],X,.inl ?_,rfl,q,⟨[.bool ag],rfl,A2.cons (cS.bool _) A2.nil⟩,Ext.refl _ _,A⟩;simp only [execOp,E];refine en ?_;simp [Instr.next,F,getObj,Sem.run,g,z]
   ·simp at h
  ·simp at h
 ·simp at m
theorem B7{s:CK}{d:TypeDesc}(z:(s=.int∧∃ j,d=.int j)∨(s=.str∧d=.string)∨(s=.bool∧d=.bool)){F:Nat→Nat→Prop}{w:World}{k:FC}{v:C}{x:Value}(B:cS σ F w k x) :
  ∀ {R:C→Value→Prop} {l g:List (FC × C)} {b:List MapEntry},A2 (fun e m=>cS σ F w e.1 m.key∧R e.2 m.val) l b→∀(i:Nat),qX s k v l=aa g →
  (Instr.findNow d x b i=aa ab∧g=l++[(k,v)])∨∃(j:Nat) (u:Value) (m:MapEntry),Instr.findNow d x b i=aa (aa (i+j,u))∧b[j]?=aa m∧Instr.sameNow d x m.key=aa ae∧g=l.set j (k,v)
 | _,[],g,[],_,i,h=>by
  simp only [qX,At]at h;subst h;exact .inl ⟨rfl,rfl⟩
 | _,[],_,_::_,q,_,_=>by have:=q.len;simp at this
 | _,_::_,_,[],q,_,_=>by have:=q.len;simp at this
 | _,e::l,g,m::b,q,i,h=>by
  obtain⟨⟨H,N⟩,E⟩:=q.of_cons;simp only [qX]at h;split at h
  ·rename_i A;simp only [At]at h;subst h;have:=uW z B H A;exact .inr ⟨0,m.val,m,by simp [Instr.findNow,this],rfl,this,rfl⟩
  ·rename_i A;simp only [IT]at h;obtain⟨I,J,rfl⟩:=h;have:=uW z B H A;rcases B7 z B E (i+1) J with⟨y,rfl⟩ | ⟨j,u,M,y,K,L,rfl⟩
   ·exact .inl ⟨by simp [Instr.findNow,this,y],rfl⟩
   ·exact .inr ⟨j+1,u,M,by simp [Instr.findNow,this,y];omega,by simpa using K,L,rfl⟩
  ·simp at h
theorem CE{d:TypeDesc}{u v:Value}(h:Instr.sameNow d u v=aa ae)(n:Nat):Instr.sameBits n v u=ae:=by
 unfold Instr.sameNow at h;split at h
 ·split at h
  ·rename_i b;subst b;simp only [At,beq_iff_eq]at h;subst h;simp [Instr.sameBits]
  ·simp at h
 ·simp only [At,beq_toListBytes,beq_iff_eq]at h;simp [Instr.sameBits,beq_toListBytes,h]
 ·simp only [At,beq_iff_eq]at h;subst h;simp [Instr.sameBits]
 ·simp at h
theorem arN{c:C}{u:Value}(h:VR σ X (mV c) u):ic σ X (mV c) u:=by
 cases c
 case cl f cs=>
  simp only [mV]at h ⊢;split at h
  ·rename_i b;rw [bf b];exact h
  ·rename_i b;rw [aY b];exact h
 all_goals exact h
theorem adG(hS:SR Q σ X)(hB:X.B≤X.w.heap.size){a:Act}{aD:T}(hR:RR σ X aD a.tmps){o:Oper}{ck:CK}{x y z:Arg}(E:dU Q σ o (.jg ck x y z)=ae){v:V}{H':aj}
  (h:bq aD X.H (.jg ck x y z)=aa (v,H')):il Q σ X v H' (execOp a.eval o):=by
 simp only [dU]at E;split at E
 ·rename_i t x' M Y ho;simp only [If]at E;obtain⟨⟨⟨hx,K⟩,W⟩,ht⟩:=E;have hx:=bU hR hx;have K:=bU hR K;have W:=bU hR W;split at ht
  ·rename_i kt e hu;simp only [bq]at h;split at h
   ·rename_i b k vv d9 f8 h_;rw [d9]at hx;rw [f8]at K;rw [←adF h_]at W;have W:ic σ X (mV vv) (a.eval Y):=arN W;obtain⟨L,hL,_,c_⟩:=hx;split at h
    ·rename_i es hb;split at h
     ·rename_i a_;simp only [IT,OF]at h;obtain⟨F,hp,rfl,rfl⟩:=h;obtain⟨_,_,bp,N,e_⟩:=hS.br b L hL;rw [hb]at N;simp only [At]at N;subst N;obtain⟨q,I,h2,B⟩:=e_;have go:∀ d,Q.underlying kt=aa d→((ck=.int∧∃ j,d=.int j)∨(ck=.str∧d=.string)∨(ck=.bool∧d=.bool))→il Q σ X .top (X.H.set b (.map F)) (execOp a.eval o):=by
       intro d A hd;have a8:∀(l:List MapEntry),(Instr.mapUpdate t (a.eval x') (a.eval M) (a.eval Y)).run Q X.w=.ok () { X.w with heap:=X.w.heap.setIfInBounds L.c (.map l.toArray l.length) } →
         A2 (fun(e:FC × C) (m:MapEntry)=>cS σ X.F X.w e.1 m.key∧ic σ X (mV e.2) m.val) F l→(∀(i:Nat) m,l[i]?=aa m→m.born=i)→il Q σ X .top (X.H.set b (.map F)) (execOp a.eval o):=by
        intro l b_ hA d_;obtain⟨g1,g2⟩:=SR.rA (o':=.map l.toArray l.length) (blk':=.map F) hS hb hL I (by simp) (by simp)
         (fun bp H=>⟨.map F,by simp [(BY.1 hb).1],by rw [hb]at H;simp only [At]at H;subst H;exact fun L h=>h⟩)
         (fun X' U h1 hF _ _=>⟨l,h1,hA.lJ fun e m h=>⟨cS.mono U.F U.fw h.1,ic.ext' σ U h.2⟩,d_⟩)
        exact⟨undef,_,.inr ⟨by simp [execOp,ho,b_],rfl⟩,rfl,g1,trivial,g2,by simpa using hB⟩
       rcases B7 (R:=fun c u=>ic σ X (mV c) u) hd K h2 0 hp with⟨J,rfl⟩ | ⟨j,u,m,J,Z,h6,rfl⟩
       ·have O:A2 (fun(e:FC × C) (m:MapEntry)=>cS σ X.F X.w e.1 m.key∧ic σ X (mV e.2) m.val) [(k,vv)] [({ key:=a.eval M,val:=a.eval Y,born:=q.length }:MapEntry)]:=A2.cons (And.intro K W) A2.nil;refine a8 (q++[{ key:=a.eval M,val:=a.eval Y,born:=q.length }]) ?_ (h2.append O) ?_
        rotate_left
        ·intro i m E;by_cases hi:i<q.length
         ·rw [AT hi]at E;exact B i m E
         ·rw [List.getElem?_append_right (by omega)]at E;have f7:i-q.length=0:=by
           have:=(BY.1 E).1;simp at this;omega
          rw [f7]at E;simp only [awC,At]at E;subst E;simp only;omega
        simp [Instr.mapUpdate,bc hu,c_,getObj,setObj,Sem.run,I,iK ht K a_,Instr.findKey,bc A,J]
       ·rw [avP]at J;refine a8 (q.set j { m with key:=a.eval M,val:=a.eval Y }) ?_ ?_ ?_
        ·have g_:(Instr.keyThatStays m.key (a.eval M)).run Q X.w=.ok (a.eval M) X.w:=by
          simp [Instr.keyThatStays,CE h6 10000]
         have b9:q.modify j (fun e=>{ e with key:=a.eval M,val:=a.eval Y })=q.set j { m with key:=a.eval M,val:=a.eval Y }:=by
          apply awz;intro i;simp only [List.getElem?_modify,awW];by_cases s:j=i
          ·subst s;have S:=(BY.1 Z).1;have f_:=(BY.1 Z).2;simp [Z,S,f_]
          ·simp [s]
         simp [Instr.mapUpdate,bc hu,c_,getObj,setObj,Sem.run,I,iK ht K a_,Instr.findKey,bc A,J,Z,g_,b9]
        ·refine⟨by simpa using h2.len,fun i e' m' he g=>?_⟩;rw [awW]at he g;split at he
         ·rename_i s;subst s;simp only [if_true]at g;have S:=(BY.1 Z).1;have i4:=h2.len;rw [bf (by omega)]at he;rw [bf S]at g;simp only [At]at he g;subst he;subst g;exact⟨K,W⟩
         ·rename_i s;rw [aY s]at g;exact h2.2 i e' m' he g
        ·intro i m' g;rw [awW]at g;split at g
         ·rename_i s;subst s;split at g
          ·simp only [At]at g;subst g;exact B j m Z
          ·simp at g
         ·exact B i m' g
      rcases me ht with⟨J,j,A⟩ | ⟨J,A⟩ | ⟨J,A⟩
      ·exact go _ A (.inl ⟨J,j,rfl⟩)
      ·exact go _ A (.inr (.inl ⟨J,rfl⟩))
      ·exact go _ A (.inr (.inr ⟨J,rfl⟩))
     ·simp at h
    ·simp at h
   ·simp at h
  ·simp at ht
 ·simp at E
theorem B0{c:Call}{sz:Nat}{zs:List FC}{x:Arg}(h:ef Q σ c (.clear sz zs x)=ae):∃ y t e,c.callee=.builtin .clear∧c.args=#[y]∧c.argTypes=#[t]∧mA σ x y=ae∧Q.underlying t=aa (.slice e)∧dE Q e sz=ae∧lH Q e zs=ae:=by
 simp only [ef]at h;split at h
 ·rename_i y t d g j;simp only [If]at h;obtain⟨m,b⟩:=h;obtain⟨e,l,b⟩:=iE b;simp only [If]at b;exact⟨y,t,e,d,wQ g,wQ j,m,l,b.1,b.2⟩
 ·simp at h
theorem acI(hS:SR Q σ X)(hB:X.B≤X.w.heap.size){a:Act}{aD:T}(hR:RR σ X aD a.tmps){o:Oper}{sz:Nat}{zs:List FC}{x:Arg}(I:dU Q σ o (.clear sz zs x)=ae){v:V}{H':aj}
  (h:bq aD X.H (.clear sz zs x)=aa (v,H')):il Q σ X v H' (execOp a.eval o):=by
 simp only [dU]at I;split at I
 ·rename_i c Y;obtain⟨y,t,e,M,N,O,j,hu,d9,hz⟩:=B0 I;have j:=bU hR j;simp only [bq,IT,OF]at h;obtain⟨H2,d,rfl,rfl⟩:=h;have done:VR σ X (.t []) (.tuple #[]):=⟨[],rfl,A2.nil⟩
  unfold oU at d;split at d
  ·rename_i p hp;rw [hp]at j;split at d
   ·rename_i U;simp only [At]at d;subst d;obtain⟨J,cp,g⟩:=iQ j U;refine⟨.tuple #[],X,.inl (dA Y M fun cs=>?_),rfl,hS,done,Ext.refl _ _,hB⟩;cases J<;>simp [builtin,N,O,Builtin.clear_,bc hu,g]
   ·rename_i l W U;obtain⟨J,cp,g⟩:=iQ j U;split at d
    ·rename_i b9;obtain⟨z,us,E,F,H,_⟩:=eT (σ:=σ) (X:=X) hz X.w;have d_:us.length=zs.length:=by have:=H.len;simp at this;omega
     have u:l≠0:=fun e=>W (by rw [e]);have key:∀(b o' ep:Nat),(∃ q,CR σ X (.ptr b o' ep) (.pointer (aa q))∧J=aa q)→cX X.H (.ptr b o' ep) ((cF l zs).map .f)=aa H2→il Q σ X (.t []) H2 (execOp a.eval o):=by
      rintro b o' ep ⟨q,hq,rfl⟩ Z;obtain⟨cc,off,X',g1,K,g3,g4,g5,g6,g7⟩:=aeN hS hq (jW H l) Z;cases g1;by_cases c_:sz=0
      ·subst c_;have b_:zs=[]:=avm b9;have a8:us=[]:=avm (by omega);subst b_;subst a8;refine⟨.tuple #[],X',.inl (dA Y M fun cs=>?_),g3,g4,⟨[],rfl,A2.nil⟩,g5,by omega⟩;have hr:cF l ([]:List Value)=[]:=by simp [cF]
       rw [hr]at K;simp [builtin,N,O,Builtin.clear_,bc hu,g,u,E,F,Builtin.zeroCells];cases l with
       | zero=>exact absurd rfl u| succ l=>simp [K]
      ·have a_:Builtin.zeroCells z.cells l=(cF l us).toArray:=by
        have:=iS us l (by omega);simpa [Builtin.zeroCells,F]using this
       refine⟨.tuple #[],X',.inl (dA Y M fun cs=>?_),g3,g4,⟨[],rfl,A2.nil⟩,g5,by omega⟩;simp [builtin,N,O,Builtin.clear_,bc hu,g,E,a_];cases l with
       | zero=>exact absurd rfl u| succ l=>simp [K]
     split at d
     ·rename_i b o' l' cap ep s;simp only [VR,ic,CR,fq]at j;split at d
      ·rename_i cs fl A;rw [A]at j;obtain⟨L,S,_,m⟩:=j;rw [g]at m;simp only [Value.slice.injEq]at m;refine key b o' ep ⟨⟨L.c,o',ab⟩,⟨L,S,by rw [A]⟩,m.1⟩ d
      ·rename_i s' cs fl e' A;split at d
       ·rename_i B;rw [A]at j;obtain⟨L,S,k,_,_,m⟩:=j.2.1 B.1 B.2;rw [g]at m;simp only [Value.slice.injEq]at m;refine key b o' ep ⟨⟨L.c,o',ab⟩,⟨L,S,?_⟩,m.1⟩ d;rw [A];exact⟨j.1,fun _=>rfl,_,rfl⟩
       ·simp at d
      ·simp at d
     ·simp at d
    ·simp at d
   ·simp at d
  ·simp at d
 ·simp at I
theorem Q_(B:SR Q σ X)(S:X.B≤X.w.heap.size){a:Act}{aD:T}(U:RR σ X aD a.tmps){o:Oper}{x:Arg}(l:dU Q σ o (.kE x)=ae){v:V}{H':aj}
  (h:bq aD X.H (.kE x)=aa (v,H')):il Q σ X v H' (execOp a.eval o):=by
 simp only [dU]at l;split at l
 ·rename_i t y Y;simp only [If]at l;obtain⟨j,E⟩:=l;have j:=bU U j;simp only [bq]at h;unfold ue at h;split at h
  ·rename_i b c;rw [c]at j;obtain⟨L,A,_,Z⟩:=j;split at h
   ·rename_i u m;split at h
    ·rename_i p;simp only [At,OF]at h;obtain⟨rfl,rfl⟩:=h;obtain⟨_,_,bp,g,q⟩:=B.br b L A;rw [m]at g;simp only [At]at g;subst g;obtain⟨d,H,I,_⟩:=q;split at E
     ·rename_i kt e s;obtain⟨X',J,z,K,M,N,O⟩:=SR.new B S (.wN b u.length ag) (ed.alloc X.w (.mapIter (aa L.c) d.length #[] d.length)) 0 fun X' j f k n=>by
       obtain⟨blk',i,F⟩:=j.cO b (BY.1 m).1 _ m;cases blk'<;>simp only at F;refine⟨L,#[],d.length,F L A,⟨_,i⟩,?_,rfl⟩;rw [I.len,f];exact(ed.alloc _ _).new
      refine⟨.pointer (aa ⟨X.w.heap.size,0,ab⟩),X',.inl ?_,z,K,⟨_,N,⟨b,u.length,ag,by rw [z];simp⟩,rfl⟩,M,O⟩;have W:(getObj L.c).run Q X.w=.ok (.map d.toArray d.length) X.w:=by simp [getObj,Sem.run,H]
      rw [J];simp [execOp,Y,Instr.range,bc s,Z,W]
     ·simp at E
    ·simp at h
   ·simp at h
  ·simp at h
 ·simp at l
theorem adS(s:SR Q σ X)(N:X.B≤X.w.heap.size){a:Act}{aD:T}(p:RR σ X aD a.tmps){o:Oper}{x:Arg}(E:dU Q σ o (.oI x)=ae){v:V}{H':aj}
  (h:bq aD X.H (.oI x)=aa (v,H')):il Q σ X v H' (execOp a.eval o):=by
 simp only [dU]at E;split at E
 ·rename_i y S;have i:=bU p E;simp only [bq]at h;unfold Aa at h;split at h
  ·rename_i b r;rw [r]at i;obtain⟨L,f,_,W⟩:=i;split at h
   ·rename_i m c done u;obtain⟨_,_,bp,d,l⟩:=s.br b L f;rw [u]at d;simp only [At]at d;subst d;obtain⟨J,sn,st,M,_,B,q⟩:=l;split at h
    ·rename_i j;obtain⟨_,_,bp,d,l⟩:=s.br m J M;rw [j]at d;simp only [At]at d;subst d;obtain⟨K,F,Z,_⟩:=l;have:K=[]:=avm Z.len.symm;subst this;split at h
     ·simp at h
     ·rename_i z;simp only [At,OF]at h;obtain⟨rfl,rfl⟩:=h;simp only [z,avk,if_false]at q;subst q;refine⟨.tuple #[.bool ag],X,.inl ?_,rfl,s,⟨[.bool ag],rfl,A2.cons (cS.bool _) A2.nil⟩,Ext.refl _ _,N⟩;simp only [execOp,S];refine en ?_;simp [Instr.next,W,getObj,Sem.run,B,F,Result.andThen,choose,Question.forced]
    ·rename_i e j;obtain⟨H,F,Z,w,k⟩:=Gc s M j;split at h
     ·rename_i z;simp only [At,OF]at h;obtain⟨rfl,rfl⟩:=h;simp only [z,if_true]at q;obtain⟨rfl,rfl⟩:=q;refine⟨.tuple #[.bool ag],X,.inl ?_,rfl,s,⟨[.bool ag],rfl,A2.cons (cS.bool _) A2.nil⟩,Ext.refl _ _,N⟩;simp only [execOp,S];refine en ?_;simp [Instr.next,W,getObj,Sem.run,B,F,k,Result.andThen,choose,Question.forced]
     ·rename_i z;split at h
      ·rename_i U;subst U;simp only [At,OF]at h;obtain⟨rfl,rfl⟩:=h;simp only [z,avk,if_false]at q;subst q;obtain⟨q1,I⟩:=SR.rA (o':=.mapIter (aa J.c) 1 #[0] 1) (blk':=.wN m 1 ae) s u f B (by simp) (by simp)
        (fun bp g=>⟨.wN m 1 ae,by simp [(BY.1 u).1],by rw [u]at g;simp only [At]at g;subst g;exact⟨⟨rfl,rfl⟩,fun L h=>h⟩⟩)
        (fun X' t Y _ A n=>by
         have O:b≠m:=fun e=>by rw [e,j]at u;cases u
         exact⟨J,#[0],1,by rw [A];exact M,⟨_,by rw [n,AI O];exact j⟩,Y,rfl,rfl⟩)
       refine⟨.tuple #[.bool ae,H.key,H.val],_,.inl ?_,rfl,q1,?_,I,by simpa using N⟩
       ·simp only [execOp,S];refine en ?_;simp [Instr.next,W,getObj,setObj,Sem.run,B,F,k,Result.andThen,choose,Question.forced]
       ·exact⟨[.bool ae,H.key,H.val],rfl,A2.cons (cS.bool _) (A2.cons (cS.mono I.F I.fw Z) (A2.cons (ic.ext' σ I w) A2.nil))⟩
      ·simp at h
    ·simp at h
   ·simp at h
  ·simp at h
 ·simp at E
end
section
variable{Q:Program}{σ:Nat→FuncId}{X:Wd}
def du(a b:bw):Prop:=
 match a with
 | .box cs fl=>(match b with
  | .box cs' d=>cs=cs'∧fl≤d
  | _=>False)
 | .cf s cs fl e st=>(match b with
  | .cf s' cs' d j g=>s=s'∧cs=cs'∧fl≤d∧e=j∧st=g
  | _=>False)
 | a=>a=b
theorem du.refl(a:bw):du a a:=by cases a<;>simp [du]
theorem du.trans{a b c:bw}(h:du a b)(k:du b c):du a c:=by
 cases a<;>cases b<;>simp only [du,reduceCtorEq]at h<;>cases c<;>simp only [du,reduceCtorEq]at k ⊢
 ·exact⟨h.1.trans k.1,avv h.2 k.2⟩
 ·exact⟨h.1.trans k.1,h.2.1.trans k.2.1,avv h.2.2.1 k.2.2.1,h.2.2.2.1.trans k.2.2.2.1,h.2.2.2.2.trans k.2.2.2.2⟩
 all_goals exact h.trans k
def gK(H H':aj):Prop:=H.length=H'.length∧∀(b:Nat) bp blk',H[b]?=aa bp→H'[b]?=aa blk'→du bp blk'
theorem gK.refl(H:aj):gK H H:=⟨rfl,fun b bp blk' h d=>by rw [h]at d;cases d;exact du.refl _⟩
theorem gK.get{H H':aj}(h:gK H H'){b:Nat}{bp:bw}(g:H[b]?=aa bp):∃ blk',H'[b]?=aa blk'∧du bp blk':=by
 have j:=(BY.1 g).1;have d:b<H'.length:=by have:=h.1;omega
 exact⟨_,By d,h.2 b _ _ g (By d)⟩
theorem gK.trans{A B C:aj}(h:gK A B)(k:gK B C):gK A C:=
 ⟨h.1.trans k.1,fun b x z d g=>by obtain⟨y,hy,h1⟩:=h.get d;exact h1.trans (k.2 b y z hy g)⟩
theorem gK.none{H H':aj}(h:gK H H'){b:Nat}(d:H[b]?=ab):H'[b]?=ab:=by
 rw [List.getElem?_eq_none_iff]at d ⊢;have:=h.1;omega
theorem gK.set{H:aj}{b:Nat}{bp blk':bw}(g:H[b]?=aa bp)(h:du bp blk'):gK H (H.set b blk'):=by
 have j:=(BY.1 g).1;refine⟨by simp,fun i x y d hy=>?_⟩;by_cases hi:i=b
 ·subst hi;simp only [awW,if_true,j]at hy;rw [g]at d;cases d;cases hy;exact h
 ·rw [AI (Ne.symm hi)]at hy;rw [d]at hy;cases hy;exact du.refl _
theorem gK.foldl{f:aj→C→aj}(b:∀ H x,gK H (f H x)):∀(xs:List C) (H:aj),gK H (xs.foldl f H)
 | [],H=>gK.refl H| x::xs,H=>(b H x).trans (gK.foldl b xs (f H x))
theorem kD:∀(n:Nat) (x:C) (H:aj),gK H (gF n x H)
 | n,.f _,H=>by cases n<;>exact gK.refl H
 | 0,.ptr _ _ _,H=>gK.refl H| 0,.sl _ _ _ _ _ _,H=>gK.refl H| 0,.cl _ _,H=>gK.refl H| 0,.yl _,H=>gK.refl H| 0,.mp _,H=>gK.refl H| 0,.it _,H=>gK.refl H| 0,.bm _ _,H=>gK.refl H| 0,.mi _,H=>gK.refl H
 | n+1,.ptr b off ep,H=>by
  simp only [gF];split
  ·rename_i cs fl d;exact(gK.set d (by exact⟨rfl,avN _ _⟩)).trans (gK.foldl (fun H x=>kD n x H) _ _)
  ·exact gK.refl H
 | n+1,.sl b o l c ep sz,H=>by
  simp only [gF];split
  ·rename_i cs fl d;exact(gK.set d (by exact⟨rfl,avN _ _⟩)).trans (gK.foldl (fun H x=>kD n x H) _ _)
  ·rename_i s cs fl e st d;exact(gK.set d (by exact⟨rfl,rfl,avN _ _,rfl,rfl⟩)).trans (gK.foldl (fun H x=>kD n x H) _ _)
  ·exact gK.refl H
 | n+1,.cl f g,H=>gK.foldl (fun H x=>kD n x H) _ _
 | n+1,.yl _,H=>gK.refl H| n+1,.mp _,H=>gK.refl H| n+1,.it _,H=>gK.refl H| n+1,.bm _ _,H=>gK.refl H| n+1,.mi _,H=>gK.refl H
theorem fm{b j:Type}{f g:b→Option j}:∀ {xs:List b},(∀ x ∈ xs,f x=g x)→bj f xs=bj g xs
 | [],_=>rfl| x::xs,h=>by rw [bj,bj,h x (by simp),fm (xs:=xs) (fun y d=>h y (List.mem_cons_of_mem _ d))]
theorem mZ:∀(n:Nat) {H H':aj},gK H H'→∀(x:C),ey n H' x=ey n H x
 | n,H,H',h,.f _=>by cases n<;>rfl
 | 0,H,H',h,.ptr _ _ _=>rfl| 0,H,H',h,.sl _ _ _ _ _ _=>rfl| 0,H,H',h,.cl _ _=>rfl| 0,H,H',h,.yl _=>rfl| 0,H,H',h,.mp _=>rfl| 0,H,H',h,.it _=>rfl| 0,H,H',h,.bm _ _=>rfl| 0,H,H',h,.mi _=>rfl
 | n+1,H,H',h,.ptr b off ep=>by
  simp only [ey];cases m:H[b]? with
  | none=>rw [h.none m]
  | some bp=>
   obtain⟨blk',d,j⟩:=h.get m;rw [d];cases bp<;>cases blk'<;>simp only [du,reduceCtorEq]at j
   ·obtain⟨rfl,_⟩:=j;simp only [fm (g:=ey n H) fun x _=>mZ n h x]
   all_goals rfl
 | n+1,H,H',h,.sl b o l c ep sz=>by
  simp only [ey];cases m:H[b]? with
  | none=>rw [h.none m]
  | some bp=>
   obtain⟨blk',d,j⟩:=h.get m;rw [d];cases bp<;>cases blk'<;>simp only [du,reduceCtorEq]at j
   ·obtain⟨rfl,_⟩:=j;simp only [fm (g:=ey n H) fun x _=>mZ n h x]
   ·obtain⟨rfl,rfl,s,rfl,rfl⟩:=j;clear s;rename_i st _;cases st<;>simp only [fm (g:=ey n H) fun x _=>mZ n h x]
   all_goals rfl
 | n+1,H,H',h,.cl f q=>by simp only [ey,fm (g:=ey n H) fun x _=>mZ n h x]
 | n+1,H,H',h,.yl _=>rfl| n+1,H,H',h,.mp _=>rfl| n+1,H,H',h,.it _=>rfl| n+1,H,H',h,.bm _ _=>rfl| n+1,H,H',h,.mi _=>rfl
def dR:Nat→aj→C→Prop
 | _,_,.f _=>True| 0,_,_=>True| n+1,H,.ptr b _ _=>∀ cs fl,H[b]?=aa (.box cs fl)→cs.length≤fl∧∀ x ∈ cs,dR n H x
 | n+1,H,.sl b o l _ _ sz=>∀ bp,H[b]?=aa bp→match bp with
  | .box cs fl=>o+l*sz≤fl∧∀ x ∈ (cs.drop o).take (l*sz),dR n H x| .cf _ cs fl _ .loc=>o+l*sz≤fl∧∀ x ∈ (cs.drop o).take (l*sz),dR n H x| _=>True
 | n+1,H,.cl _ d=>∀ x ∈ d,dR n H x| _,_,_=>True
theorem dR.le:∀(n:Nat) {H H':aj},gK H H'→∀ {x:C},dR n H x→dR n H' x
 | n,H,H',h,.f _,_=>by cases n<;>trivial
 | 0,H,H',h,.ptr _ _ _,_=>trivial| 0,H,H',h,.sl _ _ _ _ _ _,_=>trivial| 0,H,H',h,.cl _ _,_=>trivial| 0,H,H',h,.yl _,_=>trivial| 0,H,H',h,.mp _,_=>trivial| 0,H,H',h,.it _,_=>trivial| 0,H,H',h,.bm _ _,_=>trivial| 0,H,H',h,.mi _,_=>trivial
 | n+1,H,H',h,.ptr b off ep,v=>by
  intro cs fl m;have y:=(BY.1 m).1;have s:b<H.length:=by have:=h.1;omega
  have d:=h.2 b _ _ (By s) m;cases g:H[b]<;>rw [g]at d<;>simp only [du,reduceCtorEq]at d;obtain⟨rfl,q⟩:=d;obtain⟨h1,h2⟩:=v _ _ (by rw [By s,g]);exact⟨avv h1 q,fun x u=>dR.le n h (h2 x u)⟩
 | n+1,H,H',h,.sl b o l c ep sz,v=>by
  intro blk' m;have y:=(BY.1 m).1;have s:b<H.length:=by have:=h.1;omega
  have d:=h.2 b _ _ (By s) m;have j:=v _ (By s);cases g:H[b]<;>rw [g]at d j<;>cases blk'<;>simp only [du,reduceCtorEq]at d<;>try simp only
  ·obtain⟨rfl,q⟩:=d;exact⟨avv j.1 q,fun x u=>dR.le n h (j.2 x u)⟩
  ·obtain⟨rfl,rfl,q,rfl,rfl⟩:=d;rename_i st _;cases st<;>simp only at j ⊢;exact⟨avv j.1 q,fun x u=>dR.le n h (j.2 x u)⟩
 | n+1,H,H',h,.cl f z,v=>fun x u=>dR.le n h (v x u)
 | n+1,H,H',h,.yl _,_=>trivial| n+1,H,H',h,.mp _,_=>trivial| n+1,H,H',h,.it _,_=>trivial| n+1,H,H',h,.bm _ _,_=>trivial| n+1,H,H',h,.mi _,_=>trivial
theorem fB{n:Nat}(b:∀(x:C) (H:aj),dR n (gF n x H) x):∀(xs:List C) (H:aj),∀ x ∈ xs,dR n (xs.foldl (fun H x=>gF n x H) H) x
 | y::ys,H,x,d=>by
  simp only [awA];rcases avn.1 d with rfl | d
  ·exact dR.le n (gK.foldl (fun H x=>kD n x H) ys _) (b x H)
  ·exact fB b ys _ x d
theorem iv:∀(n:Nat) (x:C) (H:aj),dR n (gF n x H) x
 | n,.f _,H=>by cases n<;>trivial
 | 0,.ptr _ _ _,H=>trivial| 0,.sl _ _ _ _ _ _,H=>trivial| 0,.cl _ _,H=>trivial| 0,.yl _,H=>trivial| 0,.mp _,H=>trivial| 0,.it _,H=>trivial| 0,.bm _ _,H=>trivial| 0,.mi _,H=>trivial
 | n+1,.ptr b off ep,H=>by
  simp only [gF];cases u:H[b]? with
  | none=>intro cs fl h;exfalso;simp only at h;exact absurd (u.symm.trans h) (by simp)
  | some bp=>
   cases bp with
   | box d g=>
    intro cs fl h;have s:=(BY.1 u).1;simp only at h ⊢;have z:=gK.foldl (fun H x=>kD n x H) d (H.set b (.box d (Nat.max g d.length)));obtain⟨blk',j,m⟩:=z.get (b:=b) (bp:=.box d (Nat.max g d.length)) (by simp [s]);rw [h]at j;cases j;obtain⟨rfl,q⟩:=m;exact⟨avv (avC _ _) q,fun x v=>fB (fun x H=>iv n x H) _ _ x v⟩
   | _=>intro cs fl h;simp only at h;rw [u]at h;cases h
 | n+1,.sl b o l c ep sz,H=>by
  simp only [gF];cases u:H[b]? with
  | none=>intro bp h;exfalso;simp only at h;exact absurd (u.symm.trans h) (by simp)
  | some bp=>
   have s:=(BY.1 u).1;cases bp with
   | box d g=>
    intro bp h;simp only at h ⊢;have z:=gK.foldl (fun H x=>kD n x H) ((d.drop o).take (l*sz)) (H.set b (.box d (Nat.max g (o+l*sz))));obtain⟨blk',j,m⟩:=z.get (b:=b) (bp:=.box d (Nat.max g (o+l*sz))) (by simp [s]);rw [h]at j;cases j;cases bp<;>simp only [du,reduceCtorEq]at m;obtain⟨rfl,q⟩:=m;exact⟨avv (avC _ _) q,fun x v=>fB (fun x H=>iv n x H) _ _ x v⟩
   | cf E d g B y=>
    intro bp h;simp only at h ⊢;have z:=gK.foldl (fun H x=>kD n x H) ((d.drop o).take (l*sz)) (H.set b (.cf E d (Nat.max g (o+l*sz)) B y));obtain⟨blk',j,m⟩:=z.get (b:=b) (bp:=.cf E d (Nat.max g (o+l*sz)) B y) (by simp [s]);rw [h]at j;cases j;cases bp<;>simp only [du,reduceCtorEq]at m;obtain⟨rfl,rfl,q,rfl,rfl⟩:=m;cases y<;>simp only;exact⟨avv (avC _ _) q,fun x v=>fB (fun x H=>iv n x H) _ _ x v⟩
   | _=>intro bp h;simp only at h;rw [u]at h;cases h;simp
 | n+1,.cl f A,H=>fun x v=>fB (fun x H=>iv n x H) _ _ x v
 | n+1,.yl _,H=>trivial| n+1,.mp _,H=>trivial| n+1,.it _,H=>trivial| n+1,.bm _ _,H=>trivial| n+1,.mi _,H=>trivial
end
section
variable{Q:Program}{σ:Nat→FuncId}{X:Wd}
def dk(H H':aj):Prop:=∀(b:Nat) bp,H[b]?=aa bp→∃ blk',H'[b]?=aa blk'∧du bp blk'
theorem dk.refl(H:aj):dk H H:=fun _ bp h=>⟨bp,h,du.refl _⟩
theorem dk.trans{A B C:aj}(h:dk A B)(k:dk B C):dk A C:=fun b x d=>by
 obtain⟨y,hy,h1⟩:=h b x d;obtain⟨z,g,h2⟩:=k b y hy;exact⟨z,g,h1.trans h2⟩
theorem gK.ext{H H':aj}(h:gK H H'):dk H H':=fun _ _ b=>h.get b
theorem dk.append(H H':aj):dk H (H++H'):=fun b bp d=>⟨bp,by rw [AT (BY.1 d).1];exact d,du.refl _⟩
theorem dk.len{H H':aj}(h:dk H H'):H.length≤H'.length:=by
 rcases avT H'.length H.length with d | b
 ·obtain⟨y,hy,_⟩:=h H'.length _ (By d);have:=(BY.1 hy).1;omega
 ·exact b
theorem SR.ahead(g:SR Q σ X){H':aj}(h:dk X.H H'):SR Q σ { X with H:=H' }∧Ext X.H.length X { X with H:=H' }:=by
 have q:Ext X.H.length X { X with H:=H' }:=
  {B:=rfl,F:=fun _ _ h=>h,qe:=fun _ _ h=>.inl h,fw:=fun _ _ _=>rfl
   cO:=fun b _ bp j=>by
    obtain⟨blk',l,d⟩:=h b bp j;refine⟨blk',l,?_⟩;cases bp<;>cases blk'<;>simp only [du,reduceCtorEq]at d<;>simp_all
   yz:=fun b L h=>.inl ⟨b,L,h,rfl⟩,size:=aft _,os:=rfl,tape:=rfl,output:=rfl,frame:=fun _ _ _=>rfl }
 refine⟨⟨fun b L j=>?_,g.inj,g.fb⟩,q⟩;obtain⟨h1,h2,bp,h3,h4⟩:=g.br b L j;obtain⟨blk',h5,h6⟩:=h b bp h3;refine⟨h1,h2,blk',h5,?_⟩;have h7:BR Q σ { X with H:=H' } bp L:=BR.ext Q σ q rfl (fun _ h=>h) h4;cases bp<;>cases blk'<;>simp only [du,reduceCtorEq]at h6
 ·obtain⟨rfl,d⟩:=h6;obtain⟨us,g1,g2,g3⟩:=h7;exact⟨us,g1,g2,fun i hi=>g3 i (avv d hi)⟩
 ·obtain⟨rfl,rfl,d,rfl,rfl⟩:=h6;obtain⟨m,us,rest,g1,g2,g3,g4,g5,g6⟩:=h7;exact⟨m,us,rest,g1,g2,g3,g4,g5,fun i hi=>g6 i (avv d hi)⟩
 all_goals (rw [←h6];exact h7)
def zJ:bw→Nat→Prop
 | .box cs fl,i=>i<fl∧i<cs.length| .cf _ cs fl _ _,i=>i<fl∧i<cs.length| _,_=>False
def FL(X:Wd):Prop:=∀ b L i bp,X.cB b=aa L→X.H[b]?=aa bp→zJ bp i→X.F L.c i
def Wd.flag(X:Wd):Wd:={ X with F:=fun c i=>X.F c i∨∃ b L bp,X.cB b=aa L∧L.c=c∧X.H[b]?=aa bp∧zJ bp i }
theorem SR.flag(j:SR Q σ X):SR Q σ X.flag∧Ext X.H.length X X.flag∧FL X.flag:=by
 have g:Ext X.H.length X X.flag:=
  {B:=rfl,F:=fun _ _ h=>.inl h
   qe:=fun c i h=>by
    rcases h with h | ⟨b,L,bp,h1,h2,_⟩
    ·exact .inl h
    ·exact .inr (.inr ⟨b,L,h1,h2⟩)
   fw:=fun _ _ _=>rfl
   cO:=fun b _=>by
    intro bp l;refine⟨bp,l,?_⟩;cases bp<;>simp [Wd.flag]
   yz:=fun b L h=>.inl ⟨b,L,h,rfl⟩,size:=aft _,os:=rfl,tape:=rfl,output:=rfl,frame:=fun _ _ _=>rfl }
 refine⟨⟨fun b L l=>?_,j.inj,fun c i h=>?_⟩,g,fun b L i bp h1 h2 h3=>.inr ⟨b,L,bp,h1,rfl,h2,h3⟩⟩
 ·obtain⟨h1,h2,bp,h3,h4⟩:=j.br b L l;refine⟨h1,h2,bp,h3,?_⟩;have key:∀ i,X.flag.F L.c i→X.F L.c i∨zJ bp i:=by
   rintro i (h | ⟨x,y,blk',g1,g2,g3,g4⟩)
   ·exact .inl h
   ·have:x=b:=j.inj _ _ _ _ g1 l g2;subst this;rw [h3]at g3;cases g3;exact .inr g4
  cases bp with
  | box cs fl=>
   obtain⟨us,g1,g2,g3⟩:=h4;exact⟨us,g1,A2.ext' σ g g2,fun i hi u=>(key i u).elim (g3 i hi) fun h=>by have:=h.1;omega⟩
  | cf sz cs fl ep st=>
   obtain⟨v,us,rest,g1,g2,g3,g4,g5,g6⟩:=h4;exact⟨v,us,rest,g1,A2.ext' σ g g2,g3,g4,g5,fun i hi u=>(key i u).elim (g6 i hi) fun h=>by have:=h.1;omega⟩
  | map es=>exact BR.ext Q σ g rfl (fun i h=>(key i h).elim id False.elim) h4
  | it s p=>exact BR.ext Q σ g rfl (fun i h=>(key i h).elim id False.elim) h4
  | eH b=>exact BR.ext Q σ g rfl (fun i h=>(key i h).elim id False.elim) h4
  | wN m s d=>exact BR.ext Q σ g rfl (fun i h=>(key i h).elim id False.elim) h4
  | lp f t p a c st q d=>exact BR.ext Q σ g rfl (fun i h=>(key i h).elim id False.elim) h4
 ·rcases h with h | ⟨b,L,bp,h1,h2,_⟩
  ·exact j.fb c i h
  ·rw [←h2];exact(j.br b L h1).2.1
theorem gd{d g:Type}{f:d→Option g}:∀ {xs:List d} {ys:List g},bj f xs=aa ys→A2 (fun x y=>f x=aa y) xs ys
 | [],ys,h=>by simp only [bj,At]at h;subst h;exact A2.nil
 | x::xs,ys,h=>by
  simp only [bj]at h;split at h
  ·simp at h
  ·rename_i y j;split at h
   ·simp at h
   ·rename_i l b;simp only [At]at h;subst h;exact A2.cons j (gd b)
theorem frz(hS:SR Q σ X)(hF:FL X){H:aj}(W:dk H X.H):∀(n:Nat) {x:C} {y:FC} {v:Value},ey n H x=aa y→dR n H x→CR σ X x v→cS σ X.F X.w y v
 | n,.f x,y,v,d,_,B=>by
  have:ey n H (.f x)=aa x:=by cases n<;>rfl
  rw [this]at d;cases d;exact B
 | 0,.ptr _ _ _,y,v,d,_,_=>by simp [ey]at d
 | 0,.sl _ _ _ _ _ _,y,v,d,_,_=>by simp [ey]at d
 | 0,.cl _ _,y,v,d,_,_=>by simp [ey]at d
 | 0,.yl _,y,v,d,_,_=>by simp [ey]at d
 | 0,.mp _,y,v,d,_,_=>by simp [ey]at d
 | 0,.it _,y,v,d,_,_=>by simp [ey]at d
 | 0,.bm _ _,y,v,d,_,_=>by simp [ey]at d
 | 0,.mi _,y,v,d,_,_=>by simp [ey]at d
 | n+1,.ptr b off ep,y,v,d,hm,B=>by
  simp only [ey]at d;split at d
  ·rename_i cs fl K;simp only [IT]at d;obtain⟨ys,g,rfl⟩:=d;obtain⟨N,I⟩:=hm cs fl K;obtain⟨blk',m,j⟩:=W b _ K;cases blk'<;>simp only [du,reduceCtorEq]at j;obtain⟨rfl,j⟩:=j;rename_i U;obtain⟨L,S,B⟩:=B;simp only [m]at B;subst B;obtain⟨_,_,bp,E,M⟩:=hS.br b L S;rw [m]at E;cases E;obtain⟨us,A,z,_⟩:=M;have g:=gd g;have:=cS.fp (σ:=σ) (F:=X.F) (w:=X.w) ys off L.c 0 us (by rw [←z.len,g.len])
    (fun i hi=>by rw [avP];exact hF b L i _ S m ⟨by have:=g.len;omega,by have:=g.len;omega⟩)
    (fun i u O=>by rw [avP,dy A];exact O)
    (fun i y u Z O=>by
     have hi:i<cs.length:=by rw [g.len];exact(BY.1 Z).1
     have Y:=By hi;exact frz hS hF W n (g.2 i _ _ Y Z) (I _ (anc hi)) (z.2 i _ _ Y O))
   rw [avP]at this;exact this
  ·simp at d
 | n+1,.sl b o l c ep sz,y,v,d,hm,B=>by
  have key:∀(cs:List C) (fl:Nat) (blk':bw) (L:Loc) (us rest:List Value) (ys:List FC) (cap:Nat),o+l*sz≤cs.length→o+l*sz≤fl →
    (∀ i,i<fl→i<cs.length→zJ blk' i)→X.H[b]?=aa blk'→X.cB b=aa L→rowAt X.w L.c (us++rest)→A2 (CR σ X) cs us →
    (∀ x ∈ (cs.drop o).take (l*sz),dR n H x)→bj (ey n H) ((cs.drop o).take (l*sz))=aa ys→l≤cap→cS σ X.F X.w (.fs ys l) (.slice (aa ⟨L.c,o,ab⟩) l cap):=by
   intro cs fl blk' L us rest ys cap q N a8 m S A z I g J;have g:=gd g;have c_:=z.len;have b_:ys.length=l*sz:=by rw [←g.len];simp;omega
   have b9:=(z.drop o).take (l*sz);refine .fs ys l L.c o cap ((us.drop o).take (l*sz)) J (by rw [b_];simp;omega) (fun i hi=>hF b L _ _ S m (a8 _ (by omega) (by omega))) (fun i u O=>?_) (fun i y u Z O=>?_)
   ·have hi:i<l*sz:=by
     have:=(BY.1 O).1;simp at this;omega
    rw [dy A,AT (by omega)];rw [List.getElem?_take_of_lt hi,avt]at O;exact O
   ·have hi:i<((cs.drop o).take (l*sz)).length:=by rw [g.len];exact(BY.1 Z).1
    have Y:=By hi;exact frz hS hF W n (g.2 i _ _ Y Z) (I _ (anc hi)) (b9.2 i _ _ Y O)
  simp only [ey]at d;simp only [CR,fq]at B;split at d
  ·rename_i cs fl K;split at d
   ·rename_i q;simp only [IT]at d;obtain⟨ys,g,rfl⟩:=d;obtain⟨N,I⟩:=hm _ K;obtain⟨blk',m,j⟩:=W b _ K;cases blk'<;>simp only [du,reduceCtorEq]at j;obtain⟨rfl,j⟩:=j;rename_i U;simp only [m]at B;obtain⟨L,S,J,rfl⟩:=B;obtain⟨_,_,bp,E,M⟩:=hS.br b L S;rw [m]at E;cases E;obtain⟨us,A,z,_⟩:=M;exact key cs fl (.box cs U) L us [] ys c q N (fun i h1 h2=>⟨by omega,h2⟩) m S (by simpa using A) z I g J
   ·simp at d
  ·rename_i s cs fl e K;split at d
   ·rename_i q;obtain⟨rfl,rfl,q⟩:=q;simp only [IT]at d;obtain⟨ys,g,rfl⟩:=d;obtain⟨N,I⟩:=hm _ K;obtain⟨blk',m,j⟩:=W b _ K;cases blk'<;>simp only [du,reduceCtorEq]at j;obtain⟨rfl,rfl,j,rfl,rfl⟩:=j;rename_i U;simp only [m]at B;obtain⟨L,S,k,ho,J,rfl⟩:=B.2.1 trivial trivial;obtain⟨_,_,bp,E,M⟩:=hS.br b L S;rw [m]at E;cases E;obtain⟨_,us,rest,A,z,_⟩:=M;exact key cs fl (.cf sz cs U ep .loc) L us rest ys _ q N (fun i h1 h2=>⟨by omega,h2⟩) m S A z I g (by omega)
   ·simp at d
  ·rename_i s cs fl e K;split at d
   ·rename_i q;obtain⟨rfl,rfl⟩:=q;cases d;obtain⟨blk',m,j⟩:=W b _ K;cases blk'<;>simp only [du,reduceCtorEq]at j;obtain⟨rfl,rfl,j,rfl,rfl⟩:=j;simp only [m]at B;obtain⟨_,_,rfl⟩:=B.2.1 trivial trivial;exact .az
   ·simp at d
  ·rename_i s cs fl e K;split at d
   ·rename_i q;obtain⟨rfl,rfl⟩:=q;cases d;obtain⟨blk',m,j⟩:=W b _ K;cases blk'<;>simp only [du,reduceCtorEq]at j;obtain⟨rfl,rfl,j,rfl,rfl⟩:=j;simp only [m]at B;obtain⟨_,_,a,rfl⟩:=B.2.1 trivial trivial;exact .es a
   ·simp at d
  ·simp at d
 | n+1,.cl f a_,y,v,d,hm,B=>by
  simp only [ey,IT]at d;obtain⟨ys,g,rfl⟩:=d;obtain⟨us,rfl,z⟩:=B;have g:=gd g;refine .fn f ys us (by rw [←z.len,g.len]) fun i y u Z O=>?_;have hi:i<a_.length:=by rw [g.len];exact(BY.1 Z).1
  have Y:=By hi;exact frz hS hF W n (g.2 i _ _ Y Z) (hm _ (anc hi)) (CR.of1 σ (z.2 i _ _ Y O))
 | n+1,.yl _,y,v,d,_,_=>by simp [ey]at d
 | n+1,.mp _,y,v,d,_,_=>by simp [ey]at d
 | n+1,.it _,y,v,d,_,_=>by simp [ey]at d
 | n+1,.bm _ _,y,v,d,_,_=>by simp [ey]at d
 | n+1,.mi _,y,v,d,_,_=>by simp [ey]at d
end
section
variable{Q:Program}{σ:Nat→FuncId}{X:Wd}
theorem SR.skip(g:SR Q σ X){w':World}{o:Obj}(d:ed X.w w' o)(q:X.B≤X.w.heap.size):∃ X':Wd,X'.w=w'∧X'.H=X.H∧SR Q σ X'∧Ext X.H.length X X'∧X'.B≤X'.w.heap.size:=by
 have j:Ext X.H.length X { X with w:=w' }:=Ext.one g X.H.length rfl (fun _ _=>Iff.rfl) (fun k m _=>d.Db m)
  (fun L i h=>by rw [SR.sO g]at h;simp at h) (fun h=>absurd h (aw2 _)) (fun _ _ _=>rfl) (fun _ _=>rfl) (fun L h=>.inl ⟨L,h,rfl⟩) (by show _≤w'.heap.size;rw [d.size];omega) d.os d.tape d.output
 refine⟨{ X with w:=w' },rfl,rfl,SR.step Q σ g j X.H.length (fun _ _=>rfl) (fun _ _=>rfl) (fun b L _ l=>d.Db (g.br b L l).2.1)
  (fun _ _ _ _ _ h=>h) (fun L h=>by change X.cB X.H.length=aa L at h;rw [SR.sO g]at h;simp at h) (fun c i h=>?_),j,?_⟩
 ·have:=g.fb c i h;show c<w'.heap.size;rw [d.size];omega
 ·show X.B≤w'.heap.size;rw [d.size];omega
theorem wrap_small{n:Int}(h0:0≤n)(b:n<2 ^ 63):IntKind.i64.wrap n=n:=by
 have:n % (2 ^ 64:Int)=n:=Int.emod_eq_of_lt h0 (by omega);simp only [IntKind.wrap,IntKind.bits,IntKind.signed,this,av1,decide_eq_true_eq];rw [aY (by show¬ n≥2 ^ (64-1);omega)]
theorem Eh(hS:SR Q σ X)(hB:X.B≤X.w.heap.size){a:Act}{aD:T}(hR:RR σ X aD a.tmps){o:Oper}{sz bytes:Nat}{zs:List FC}{x y:Arg}(F:dU Q σ o (.dX sz bytes zs x y)=ae){v:V}{H':aj}
  (h:bq aD X.H (.dX sz bytes zs x y)=aa (v,H')):il Q σ X v H' (execOp a.eval o):=by
 simp only [dU]at F;split at F
 ·rename_i t x' y' ho;simp only [If,decide_eq_true_eq]at F;obtain⟨⟨⟨k,r⟩,O⟩,b_⟩:=F;have k:=bU hR k;have r:=bU hR r;obtain⟨e,hu,O⟩:=iE O;simp only [If]at O;obtain⟨⟨j,Z⟩,hz⟩:=O;obtain⟨z,us,a8,a_,M,f8,d9,d_⟩:=eT (σ:=σ) (X:=X) hz X.w;obtain⟨c_,u,A⟩:=Am Z X.w;simp only [bq]at h;split at h
  ·rename_i l c hl hc;obtain⟨kl,p⟩:=js k hl;obtain⟨kc,w⟩:=js r hc;split at h
   ·rename_i s;obtain⟨h0,e_,g,f7⟩:=s;unfold bV at g;simp only [If,decide_eq_true_eq]at g;have J:us.length=sz:=by have:=M.len;simp at this;omega
    have L:=wrap_small (n:=l) h0 (by omega);have K:=wrap_small (n:=c) (by omega) (by omega);have b9:c.toNat*bytes≤2 ^ 48:=by
     have:c.toNat*bytes≤(2*c.toNat+768)*bytes:=avX _ (by omega);omega
    have m:¬ ((bytes:Int)*c>2 ^ 48):=by
     have e1:(bytes:Int)*c=((c.toNat*bytes:Nat):Int):=by
      rw [awT,awM];congr 1;omega
     rw [e1];omega
    have I:((Array.range (c.toNat*sz)).map fun i=>us.toArray[i % us.toArray.size]!)=(cF c.toNat us).toArray:=by
     have:=iS us c.toNat (by omega);rwa [J]at this
    have run:(execOp a.eval o).run Q X.w=.ok (.value (.slice (aa ⟨X.w.heap.size,0,ab⟩) l.toNat c.toNat)) (X.w.alloc (.cells (cF c.toNat us).toArray e)):=by
     simp only [execOp,ho];refine en ?_;rw [p,w];have B:¬ c<0:=by omega
     have E:¬ l<0:=by omega
     have q:¬ l>c:=by omega
     by_cases d:c.toNat*sz=0
     ·have f:cF c.toNat us=[]:=avm (by rw [lD,J];exact d);have b:((decide (c<0)||decide ((bytes:Int)*c>2 ^ 48))||decide (l<0)||decide (l>c))=ag:=by rw [decide_eq_false B,decide_eq_false E,decide_eq_false q,decide_eq_false m];rfl
      simp only [Instr.makeSlice,Sem.run_bind,bc hu,asInt,asIntOf,Sem.run_pure,Result.andThen_ok,u,A,L,K,run_askRoom,di j];simp only [b,avk,if_false,Sem.run_ite,bf d,Sem.run_bind,Result.andThen_ok,Sem.run_pure,run_askRoom,di j,newRow,run_newObj];rw [d,f,show(Array.map (fun x=>(#[]:Array Value)[x % (#[]:Array Value).size]!) (Array.range 0))=#[] from by simp [show Array.range 0=(#[]:Array Nat) from rfl]];rfl
     ·simp only [Instr.makeSlice,Sem.run_bind,bc hu,asInt,asIntOf,Sem.run_pure,Result.andThen_ok,u,A,L,K,run_askRoom,di j];have b:((decide (c<0)||decide ((bytes:Int)*c>2 ^ 48))||decide (l<0)||decide (l>c))=ag:=by rw [decide_eq_false B,decide_eq_false E,decide_eq_false q,decide_eq_false m];rfl
      simp only [b,avk,if_false,Sem.run_ite,aY d,Sem.run_bind,a8,a_,Result.andThen_ok,Sem.run_pure,run_askRoom,di j,I,newRow,run_newObj];rfl
    split at h
    ·rename_i d;subst d;simp only [At,OF]at h;obtain⟨rfl,rfl⟩:=h;have:l=0:=by omega
     subst this;obtain⟨X',S,N,U,W,Y⟩:=SR.skip hS (ed.alloc X.w (.cells (cF (0:Int).toNat us).toArray e)) hB;exact⟨_,X',.inl (by rw [S];exact run),N,U,cS.es _,W,Y⟩
    ·simp only [At,OF]at h;obtain⟨rfl,rfl⟩:=h;obtain⟨X',S,N,U,W,Y,g6⟩:=Ei hS hB (jW M c.toNat) e;refine⟨_,X',.inl (by rw [S];exact run),N,U,?_,W,g6⟩;have H:X'.H[X.H.length]?=aa (.box ((cF c.toNat zs).map .f) 0):=by rw [N];simp
     simp only [VR,ic,CR,fq,H];exact⟨_,Y,by omega,rfl⟩
   ·simp at h
  ·simp at h
 ·simp at F
theorem aoS(H:aj):∀ x,ey 0 H x=fcC x:=fun x=>by cases x<;>rfl
theorem akR(F:SR Q σ X)(hB:X.B≤X.w.heap.size){a:Act}{aD:T}(E:RR σ X aD a.tmps){o:Oper}{sz:Nat}{x hi mx:Arg}(z:dU Q σ o (.wg sz x hi mx)=ae){v:V}{H':aj}
  (h:bq aD X.H (.wg sz x hi mx)=aa (v,H')):il Q σ X v H' (execOp a.eval o):=by
 simp only [dU]at z;split at z
 ·rename_i t y O mx' ho;simp only [If,decide_eq_true_eq]at z;obtain⟨⟨⟨⟨q,h2⟩,h3⟩,he⟩,hz⟩:=z;obtain⟨e,hu,A⟩:=iE he;simp only [bq]at h;unfold CM at h;have o1:OR X σ ab ab:=trivial;have o2:OR X σ (aa (hi.ev aD)) (aa (a.eval O)):=bU E h2;have o3:OR X σ (aa (mx.ev aD)) (aa (a.eval mx')):=bU E h3;have q:=bU E q;split at h
  ·rename_i v' hv;simp only [At,OF]at h;obtain⟨rfl,rfl⟩:=h;obtain⟨r,B,h5⟩:=yW F hu A q o1 o2 o3 hv;exact⟨r,X,.inl (by simp only [execOp,ho];exact en B),rfl,F,h5,Ext.refl _ _,hB⟩
  ·split at h
   ·rename_i b o' n c' ep s b_;rw [b_]at q;simp only [VR,ic,CR,fq]at q;split at h
    ·rename_i s' cs fl e' I;rw [I]at q;split at h
     ·rename_i K;obtain⟨rfl,rfl,rfl,rfl⟩:=K;split at h
      ·rename_i i j d W;split at h
       ·rename_i U;obtain⟨rfl,e_,d_⟩:=U;split at h
        ·rename_i ys c_;simp only [At,OF]at h;obtain⟨rfl,rfl⟩:=h;obtain⟨L,hL,k,hk,f8,b9⟩:=q.2.1 rfl rfl;have Y:k=0:=by
          rcases Nat.eq_zero_or_pos k with h | h
          ·exact h
          ·have:=Nat.mul_pos h hz;omega
         subst Y;have f7:i≤n:=by
          unfold Bk at d;split at d
          ·split at d
           ·rename_i hh;simp only [At]at d;omega
           ·simp at d
          ·simp at d
         have J:bW n n ab (aa (hi.ev aD)) (aa (mx.ev aD))=aa (0,i,i):=by
          have S:Bk (hi.ev aD) i=aa i:=by
           unfold Bk at d ⊢;split at d
           ·split at d
            ·rename_i hh;simp only [At]at d;rw [bf ⟨hh.1,by omega⟩,d]
            ·simp at d
           ·simp at d
          simp [bW,W,S]
         obtain⟨B,_,_,_⟩:=dN (Q:=Q) o1 o2 o3 J (cap:=L.cap) (by omega) (aft n) ae X.w;have h6:=eC (a:=aa ⟨L.c,0,ab⟩) hu A B;have Z:gK X.H (X.H.set b (.cf s' cs (Nat.max fl (i*s')) ep .loc)):=gK.set I ⟨rfl,rfl,avN _ _,rfl,rfl⟩;obtain⟨g1,g2⟩:=SR.ahead F Z.ext;obtain⟨g3,g4,g5⟩:=SR.flag g1;have a8:=(BY.1 I).1;have l:(X.H.set b (.cf s' cs (Nat.max fl (i*s')) ep .loc))[b]?=aa (.cf s' cs (Nat.max fl (i*s')) ep .loc):=by simp [a8]
         have N:ey 1 (X.H.set b (.cf s' cs (Nat.max fl (i*s')) ep .loc)) (.sl b 0 i 0 ep s')=aa (.fs ys i):=by
          simp only [ey,l];rw [bf ⟨trivial,trivial,by omega⟩,fm (g:=fcC) fun x _=>aoS _ x,awj,c_];rfl
         have a_:dR 1 (X.H.set b (.cf s' cs (Nat.max fl (i*s')) ep .loc)) (.sl b 0 i 0 ep s'):=by
          intro bp m;rw [l]at m;cases m;refine⟨by have:=avC fl (i*s');simp only [avP];exact this,fun x _=>?_⟩;cases x<;>trivial
         have M:CR σ ({ X with H:=X.H.set b (.cf s' cs (Nat.max fl (i*s')) ep .loc) }:Wd).flag (.sl b 0 i 0 ep s') (.slice (aa ⟨L.c,0,ab⟩) i L.cap):=by
          simp only [CR,fq,Wd.flag,l];exact⟨aft _,fun _ _=>⟨L,hL,0,by omega,by omega,by simp⟩,_,_,_,rfl⟩
         have hf:=frz g3 g5 (dk.refl _) 1 N a_ M;have u:cS σ ({ X with H:=X.H.set b (.cf s' cs (Nat.max fl (i*s')) ep .loc) }:Wd).flag.F X.w (.fs ys i) (.slice (aa ⟨L.c,0,ab⟩) i i):=by
          cases hf with
          | fs _ _ c o2 cap us d9 hl hF K hr=>exact .fs _ _ _ _ _ us (aft _) hl hF K hr| fs0 a2 cap=>omega
         refine⟨.slice (aa ⟨L.c,0,ab⟩) i i,({ X with H:=X.H.set b (.cf s' cs (Nat.max fl (i*s')) ep .loc) }:Wd).flag,.inl ?_,rfl,g3,u,g2.trans (g4.mono (by simp)),hB⟩;simp only [execOp,ho];refine en ?_;rw [b9];simp [show i≠0 by omega,ek]at h6;exact h6
        ·simp at h
       ·simp at h
      ·simp at h
     ·simp at h
    ·simp at h
   ·simp at h
 ·simp at z
theorem ap'(d:SR Q σ X)(g:X.B≤X.w.heap.size){a:Act}{aD:T}(j:RR σ X aD a.tmps){o:Oper}{op:cW}(b:dU Q σ o op=ae){v:V}{H':aj}
  (h:bq aD X.H op=aa (v,H')):il Q σ X v H' (execOp a.eval o):=by
 cases m:op.fsl
 case true=>
  cases op<;>simp only [cW.fsl,reduceCtorEq]at m;obtain⟨rfl,u,X',B,E,F,H,I,J,_⟩:=yk d g j b h;exact⟨u,X',.inl B,E,F,H,I,J⟩
 by_cases s:cls op=.p∨cls op=.r
 ·exact il.ast g d (amm d j b s m h)
 ·cases op with
  | pre st sz=>exact apF d g b h
  | alloc zs=>
   simp only [bq,At,OF]at h;obtain⟨rfl,rfl⟩:=h;exact acr d g b
  | box x=>
   simp only [bq]at h;split at h
   ·rename_i xs q;simp only [At,OF]at h;obtain⟨rfl,rfl⟩:=h;exact aoE d g j b q
   ·simp at h
  | bK sz zs n ps=>exact PU d g j b h| store n x y=>exact aeU d g j b h
  | jQ=>
   simp only [bq,At,OF]at h;obtain⟨rfl,rfl⟩:=h;exact adN d g b
  | jg K x y z=>exact adG d g j b h| dX sz l zs x y=>exact Eh d g j b h| range x=>exact ad' d g j b h| next x=>exact akB d g j b h
  | append sz l x y=>exact xQ d g j b h| DK x=>simp [dU]at b| copy sz x y=>simp [dU]at b| clear sz zs x=>exact acI d g j b h| lO sz l zs x y=>exact ajC d g j b h| kE x=>exact Q_ d g j b h| wg sz x y z=>exact akR d g j b h| oI x=>exact adS d g j b h| call f xs A=>simp [bq]at h| cj x xs A=>simp [bq]at h| recover=>simp [bq]at h| defer x xs=>simp [bq]at h| bad=>simp [bq]at h| _=>exact absurd (by simp [cls]) s
end
section
variable{Q:Program}{σ:Nat→FuncId}{X:Wd}
def lL(n:Nat)(H:aj):V→Prop
 | .c x=>dR n H x| .a xs=>∀ x ∈ xs,dR n H x| _=>True
theorem lL.le{n:Nat}{H H':aj}(h:gK H H'){v:V}(b:lL n H v):lL n H' v:=by
 cases v with
 | c x=>exact dR.le n h b| a xs=>exact fun x d=>dR.le n h (b x d)
 | _=>trivial
theorem aph(n:Nat)(v:V)(H:aj):gK H (mkV n H v):=by
 cases v with
 | c x=>exact kD n x H| a xs=>exact gK.foldl (fun H x=>kD n x H) xs H
 | _=>exact gK.refl H
theorem Ef(n:Nat)(v:V)(H:aj):lL n (mkV n H v) v:=by
 cases v with
 | c x=>exact iv n x H| a xs=>exact fun x b=>fB (fun x H=>iv n x H) xs H x b
 | _=>trivial
theorem nV(n:Nat):∀(b:List V) (H:aj),gK H (b.foldl (mkV n) H)
 | [],H=>gK.refl H| v::b,H=>(aph n v H).trans (nV n b _)
theorem tp(n:Nat):∀(b:List V) (H:aj),∀ v ∈ b,lL n (b.foldl (mkV n) H) v
 | u::b,H,v,d=>by
  rcases avn.1 d with rfl | d
  ·exact(Ef n v H).le (nV n b _)
  ·exact tp n b _ v d
def FV1(σ:Nat→FuncId)(F:Nat→Nat→Prop)(w:World)(v:V)(u:Value):Prop:=∀ X:Wd,X.F=F→X.w=w→ic σ X v u
def FV(σ:Nat→FuncId)(F:Nat→Nat→Prop)(w:World)(v:V)(u:Value):Prop:=∀ X:Wd,X.F=F→X.w=w→VR σ X v u
theorem al8(z:SR Q σ X)(q:FL X){H:aj}(s:dk H X.H){n:Nat}{v F:V}{u:Value}(d:cD n H v=aa F)(A:lL n H v)(B:ic σ X v u):FV1 σ X.F X.w F u:=by
 intro Z g j;cases v with
 | c x=>
  simp only [cD,IT]at d;obtain⟨y,m,rfl⟩:=d;have:=frz z q s n m A B;rw [←g,←j]at this;exact this
 | a xs=>
  simp only [cD,IT]at d;obtain⟨ys,b,rfl⟩:=d;obtain⟨us,rfl,l⟩:=B;have b:=gd b;refine⟨us,rfl,A2.map ⟨by rw [←l.len,b.len],fun i y u m I=>?_⟩⟩;have hi:i<xs.length:=by rw [b.len];exact(BY.1 m).1
  have E:=By hi;have:=frz z q s n (b.2 i _ _ E m) (A _ (anc hi)) (l.2 i _ _ E I);rw [←g,←j]at this;exact this
 | top=>simp [cD]at d| t J=>simp [cD]at d
def bw.full:bw→bw
 | .box cs fl=>.box cs (Nat.max fl cs.length)| .cf s cs fl e st=>.cf s cs (Nat.max fl cs.length) e st| b=>b
theorem zM(H:aj):gK H (H.map bw.full):=by
 refine⟨by simp,fun b x y g d=>?_⟩;rw [avR,g]at d;simp only [avY,At]at d;subst d;cases x<;>simp [du,bw.full,avN]
theorem gB:∀(n:Nat) {H:aj} {x:C} {y:FC},ey n H x=aa y→dR n (H.map bw.full) x
 | n,H,.f _,y,_=>by cases n<;>trivial
 | 0,H,.ptr _ _ _,y,_=>trivial| 0,H,.sl _ _ _ _ _ _,y,_=>trivial| 0,H,.cl _ _,y,_=>trivial| 0,H,.yl _,y,_=>trivial| 0,H,.mp _,y,_=>trivial| 0,H,.it _,y,_=>trivial| 0,H,.bm _ _,y,_=>trivial| 0,H,.mi _,y,_=>trivial
 | n+1,H,.ptr b off ep,y,d=>by
  intro cs fl j;rw [avR]at j;simp only [ey]at d;split at d
  ·rename_i cs' u g;rw [g]at j;simp only [avY,At,bw.full,bw.box.injEq]at j;obtain⟨rfl,rfl⟩:=j;simp only [IT]at d;obtain⟨ys,m,rfl⟩:=d;refine⟨avC _ _,fun x v=>?_⟩;obtain⟨i,hi⟩:=av2 v;obtain⟨y,_,z⟩:=(gd m).get hi;exact gB n z
  ·simp at d
 | n+1,H,.sl b o l c ep sz,y,d=>by
  intro bp j;rw [avR]at j;simp only [ey]at d;split at d
  ·rename_i cs' u g;rw [g]at j;simp only [avY,At,bw.full]at j;subst j;split at d
   ·rename_i q;simp only [IT]at d;obtain⟨ys,m,rfl⟩:=d;refine⟨avv q (avC _ _),fun x v=>?_⟩;obtain⟨i,hi⟩:=av2 v;obtain⟨y,_,z⟩:=(gd m).get hi;exact gB n z
   ·simp at d
  ·rename_i s cs' u e g;rw [g]at j;simp only [avY,At,bw.full]at j;subst j;split at d
   ·rename_i q;simp only [IT]at d;obtain⟨ys,m,rfl⟩:=d;refine⟨avv q.2.2 (avC _ _),fun x v=>?_⟩;obtain⟨i,hi⟩:=av2 v;obtain⟨y,_,z⟩:=(gd m).get hi;exact gB n z
   ·simp at d
  ·rename_i s cs' u e g;rw [g]at j;simp only [avY,At,bw.full]at j;subst j;trivial
  ·rename_i s cs' u e g;rw [g]at j;simp only [avY,At,bw.full]at j;subst j;trivial
  ·simp at d
 | n+1,H,.cl f A,y,d=>by
  simp only [ey,IT]at d;obtain⟨ys,m,rfl⟩:=d;intro x v;obtain⟨i,hi⟩:=av2 v;obtain⟨y,_,z⟩:=(gd m).get hi;exact gB n z
 | n+1,H,.yl _,y,d=>trivial| n+1,H,.mp _,y,d=>trivial| n+1,H,.it _,y,d=>trivial| n+1,H,.bm _ _,y,d=>trivial| n+1,H,.mi _,y,d=>trivial
theorem zN{n:Nat}{H:aj}{v l:V}(b:cD n H v=aa l):lL n (H.map bw.full) v:=by
 cases v with
 | c x=>
  simp only [cD,IT]at b;obtain⟨y,d,rfl⟩:=b;exact gB n d
 | a xs=>
  simp only [cD,IT]at b;obtain⟨ys,g,rfl⟩:=b;intro x j;obtain⟨i,hi⟩:=av2 j;obtain⟨y,_,d⟩:=(gd g).get hi;exact gB n d
 | _=>trivial
def Wd.inner(X:Wd):Wd:=⟨fun _=>ab,X.F,[],X.w,X.w.heap.size⟩
theorem SR.inner(d:SR Q σ X):SR Q σ X.inner:=⟨fun b L h=>by simp [Wd.inner]at h,fun b j L g h=>by simp [Wd.inner]at h,d.fb⟩
def Wd.jN(Y:Wd):Wd:=Wd.flag { Y with H:=Y.H.map bw.full }
theorem SR.jN{Y:Wd}(b:SR Q σ Y):SR Q σ Y.jN∧Ext Y.H.length Y Y.jN∧FL Y.jN:=by
 obtain⟨h1,h2⟩:=SR.ahead b (zM Y.H).ext;obtain⟨h3,h4,h5⟩:=SR.flag h1;exact⟨h3,h2.trans (h4.mono (by simp)),h5⟩
theorem DT{Y:Wd}(J:SR Q σ Y){n:Nat}{v g:V}{u:Value}(b:iU n Y.H v=aa g)(A:VR σ Y v u):FV σ Y.jN.F Y.w g u:=by
 obtain⟨F,H,I⟩:=SR.jN J;have m:=VR.ext' σ H A;have q:∀ {v g:V} {u:Value},cD n Y.H v=aa g→ic σ Y.jN v u→FV1 σ Y.jN.F Y.w g u:=by
  intro v g u b A;have z:cD n Y.jN.H v=aa g:=by
   show cD n (Y.H.map bw.full) v=aa g;cases v with
   | c x=>simp only [cD]at b ⊢;rw [mZ n (zM Y.H)];exact b| a xs=>simp only [cD]at b ⊢;rw [fm (fun x _=>mZ n (zM Y.H) x)];exact b
   | _=>simp [cD]at b
  exact al8 F I (dk.refl _) z (zN b) A
 intro Z j l;cases v with
 | t L=>
  simp only [iU,IT]at b;obtain⟨M,d,rfl⟩:=b;obtain⟨us,rfl,s⟩:=m;have d:=gd d;refine⟨us,rfl,by rw [←s.len,d.len],fun i y u E K=>?_⟩;have hi:i<L.length:=by rw [d.len];exact(BY.1 E).1
  have B:=By hi;exact q (d.2 i _ _ B E) (s.2 i _ _ B K) Z j l
 | c x=>exact VR.of1 σ (q (v:=.c x) b m Z j l)| a xs=>exact VR.of1 σ (q (v:=.a xs) b m Z j l)| top=>simp [iU,cD]at b
theorem SR.outer(s:SR Q σ X)(v:X.B≤X.w.heap.size){Y:Wd}(u:SR Q σ Y)(d:Ext 0 X.inner Y) :
  SR Q σ { X with F:=Y.jN.F,w:=Y.w }∧Ext X.H.length X { X with F:=Y.jN.F,w:=Y.w }∧X.B≤Y.w.heap.size:=by
 obtain⟨h1,h2,h3⟩:=SR.jN u;have ot:X.w.heap.size≤Y.w.heap.size:=d.size;have g:∀ k,k<X.w.heap.size→Y.w.heap[k]?=X.w.heap[k]?:=fun k q=>d.frame k q (fun b L h=>by simp [Wd.inner]at h);have l:∀ c i,Y.jN.F c i→X.F c i∨X.w.heap.size≤c:=by
  intro c i h;rcases h2.qe c i h with h | h | ⟨b,L,m,rfl⟩
  ·rcases d.qe c i h with h | h | ⟨b,L,m,_⟩
   ·exact .inl h
   ·exact .inr h
   ·simp [Wd.inner]at m
  ·exact .inr (avv ot h)
  ·have:=(u.br b L m).1;rw [d.B]at this;exact .inr this
 have j:Ext X.H.length X { X with F:=Y.jN.F,w:=Y.w }:=
  {B:=rfl,F:=fun c i h=>h2.F c i (d.F c i h)
   qe:=fun c i h=>(l c i h).elim .inl fun h=>.inr (.inl h)
   fw:=fun c i h=>d.fw c i h
   cO:=fun b _ bp m=>⟨bp,m,by cases bp<;>simp⟩
   yz:=fun b L h=>.inl ⟨b,L,h,rfl⟩,size:=ot,os:=d.os,tape:=d.tape,output:=d.output,frame:=fun k q _=>g k q }
 refine⟨⟨fun b L m=>?_,s.inj,fun c i h=>h1.fb c i h⟩,j,avv v ot⟩;obtain⟨g1,g2,bp,g3,g4⟩:=s.br b L m;refine⟨g1,avJ g2 ot,bp,g3,BR.ext Q σ j (g _ g2) (fun i h=>?_) g4⟩;rcases l _ _ h with h | h
 ·exact h
 ·omega
end
section
variable{Q:Program}{σ:Nat→FuncId}{X:Wd}
def fe(Q:Program)(σ:Nat→FuncId)(X:Wd)(v:V)(H':aj)(X':Wd)(u:Value):Prop:=
 X'.H=H'∧SR Q σ X'∧VR σ X' v u∧Ext X.H.length X X'∧X'.B≤X'.w.heap.size
def pR(b:CallKind)(cs:List Frame):Prop:=b=.normal∨(b=.deferred∧∃ c rest,cs=c::rest∧c.mode=.returning)
def jt(b:Frame)(cs:List Frame):Prop:=pR b.kind cs
theorem pR.QY{fr:Frame}{cs:List Frame}(h:pR fr.kind cs):tryRecover fr cs=ab:=by
 unfold tryRecover;rcases h with h | ⟨h,c,rest,rfl,b⟩
 ·rw [h]
 ·rw [h];simp [b]
def Leaves(Q:Program)(f:FuncId)(d:CallKind)(b:Frame)(u:Value)(w:World):Prop:=
 b.mode=.returning∧b.defers=[]∧b.kind=d∧b.fn=f∧∃ fn,Q.funcs[f]?=aa fn∧(Go.results fn b.tmps).run Q w=.ok u w
structure fg(Q:Program)(σ:Nat→FuncId)(call:cR):Prop where
 enters:∀ f args H r,call (.fn f) args H=aa r→∀ as w,(callFunc (σ f) as).run Q w=.ok (.enter (σ f) as) w
 fn:∀ f args H r H',call (.fn f) args H=aa (r,H')→∀(X:Wd) us kind cs,X.H=H→SR Q σ X→X.B≤X.w.heap.size→A2 (VR σ X) args us→pR kind cs→kind=.normal∨f≠fv →
  ∃ fr X' u,Steps Q (lone (Frame.enter Q (σ f) us.toArray kind) cs X.w) (lone fr cs X'.w)∧Leaves Q (σ f) kind fr u X'.w∧fe Q σ X r H' X' u
 yield:∀ b args H r H',call (.yield b) args H=aa (r,H')→∀(X:Wd) us c cs L,X.H=H→SR Q σ X→X.B≤X.w.heap.size→A2 (VR σ X) args us→X.cB b=aa L →
  ∃ f tmps as bd X' u,(Instr.yield L.c us.toArray).run Q X.w=.ok (.round L.c f tmps as bd) X.w ∧
   Steps Q (lone (Frame.round L.c f tmps as bd .normal) (c::cs) X.w) (lone (c.finish u) cs X'.w)∧fe Q σ X r H' X' u
def dd(Q:Program)(σ:Nat→FuncId)(X:Wd)(o:Oper)(a:Act)(v:V)(H':aj):Prop:=
 ∀(b:Frame) (ops:Array Oper) (i:Nat) (rest:List Nat) (k:List Item) (cs:List Frame),ops[i]?=aa o→Region.wanted o (yielded ops a.tmps)=ae→jt b cs →
  ∃ X' u,Steps Q (lone (b.atR a (.inRegion ops (i::rest)::k)) cs X.w) (lone (b.atR (a.put o.dst u) (.inRegion ops rest::k)) cs X'.w)∧fe Q σ X v H' X' u
theorem dd.ass{o:Oper}{a:Act}{v:V}{H':aj}(j:∀ c,o.op≠.defer c)(h:il Q σ X v H' (execOp a.eval o)):dd Q σ X o a v H':=by
 intro b ops i rest k cs ho l m;obtain⟨u,X',d,h1,h2,h3,h4,h5⟩:=h;refine⟨X',u,.one (step_lone_go ?_),h1,h2,h3,h4,h5⟩;rw [stepGR_op ho l,Oper.semAt_eq _ _ _ j];have g:=Frame.finish_atR b a ops i rest k u;rw [ho]at g;simp only [avS]at g;rw [←g];rcases d with d | ⟨d,rfl⟩<;>simp [stepG.apply,Sem.runT_eq,d]
theorem dd.vK{o:Oper}{a:Act}{v:V}{H':aj}(j:∀ c,o.op≠.defer c){f:FuncId}{us:Array Value}(g:(execOp a.eval o).run Q X.w=.ok (.enter f us) X.w)
  (h:∀ cs,∃ fr X' u,Steps Q (lone (Frame.enter Q f us .normal) cs X.w) (lone fr cs X'.w)∧Leaves Q f .normal fr u X'.w∧fe Q σ X v H' X' u):dd Q σ X o a v H':=by
 intro b ops i rest k cs ho l y;obtain⟨fr,X',u,h1,⟨l1,l2,m,q,fn,s,x⟩,h3⟩:=h (b.atR a (.inRegion ops (i::rest)::k)::cs);refine⟨X',u,.head (step_lone_go (fr':=Frame.enter Q f us .normal) (cs':=b.atR a (.inRegion ops (i::rest)::k)::cs) (w':=X.w) ?_) (h1.trans (.one ?_)),h3⟩
 ·rw [stepGR_op ho l,Oper.semAt_eq _ _ _ j];simp [stepG.apply,Sem.runT_eq,g,Frame.atR]
 ·have d:=Frame.finish_atR b a ops i rest k u;rw [ho]at d;simp only [avS]at d;rw [←d];exact step_leave_returned ⟨l1,l2,m,fn,by rw [q];exact s,x⟩
theorem dd.adT{o:Oper}{a:Act}{v:V}{H':aj}(j:∀ c,o.op≠.defer c){l:Nat}{f:FuncId}{tmps:Array Value}{as bd:Code}(g:(execOp a.eval o).run Q X.w=.ok (.round l f tmps as bd) X.w)
  (h:∀ c cs,∃ X' u,Steps Q (lone (Frame.round l f tmps as bd .normal) (c::cs) X.w) (lone (c.finish u) cs X'.w)∧fe Q σ X v H' X' u):dd Q σ X o a v H':=by
 intro b ops i rest k cs ho m q;obtain⟨X',u,h1,h3⟩:=h (b.atR a (.inRegion ops (i::rest)::k)) cs;refine⟨X',u,.head (step_lone_go (fr':=Frame.round l f tmps as bd .normal) (cs':=b.atR a (.inRegion ops (i::rest)::k)::cs) (w':=X.w) ?_) ?_,h3⟩
 ·rw [stepGR_op ho m,Oper.semAt_eq _ _ _ j];simp [stepG.apply,Sem.runT_eq,g,Frame.atR]
 ·have d:=Frame.finish_atR b a ops i rest k u;rw [ho]at d;simp only [avS]at d;rw [←d];exact h1
theorem oR{x:V}{u:Value}{args:List V}{us:List Value}{c:Callee}{d:List V}(j:bX x args=aa (c,d))(l:VR σ X x u)(q:A2 (VR σ X) args us) :
  match c with
  | .fn f=>∃ fst cap:List Value,u=.func (.func (σ f)) fst.toArray cap.toArray∧A2 (VR σ X) d (fst++us++cap)| .yield b=>d=args∧∃ L,X.cB b=aa L∧u=.func (.yield L.c) #[] #[]:=by
 unfold bX at j;split at j
 ·rename_i f m;cases j;cases l with
  | fn _ _ cap y z=>
   refine⟨[],cap,rfl,q.append (A2.map ⟨y.symm,fun i x u l A=>?_⟩)⟩;exact z i x u l A
 ·rename_i f m;cases j;obtain⟨cap,rfl,g⟩:=l;exact⟨[],cap,rfl,q.append (A2.map (g.lJ fun x u h=>CR.of1 σ h))⟩
 ·rename_i b;cases j;obtain⟨L,v,_,rfl⟩:=l;exact⟨rfl,L,v,rfl⟩
 ·rename_i f first
  cases j;obtain⟨cap,rfl,g⟩:=l;have s:A2 (VR σ X) (first.map .c) cap:=A2.map (g.lJ fun x u h=>CR.of1 σ h);exact⟨cap,[],rfl,by simpa using s.append q⟩
 ·simp at j
theorem iP{a:Act}{o:Oper}{cl:Call}{y:Operand}(b:o.op=.call cl)(g:cl.callee=.value y){w:World}{fn:Fn}{fst cap:Array Value}(d:a.eval y=.func fn fst cap) :
  (execOp a.eval o).run Q w=(invoke (.fn fn cap) (fst++cl.args.map a.eval)).run Q w:=by
 simp only [execOp,b,resolve,g,d,Deferred.ofValue,Sem.run_bind,Sem.run_pure,Result.andThen_ok]
theorem eX{f:FuncId}{cap as:Array Value}{w:World}(h:∀ as w,(callFunc f as).run Q w=.ok (.enter f as) w):(invoke (.fn (.func f) cap) as).run Q w=.ok (.enter f (as++cap)) w:=by
 simp only [invoke];exact h _ _
end
section
variable{Q:Program}{σ:Nat→FuncId}{X:Wd}{call:cR}
theorem aj0{n:Nat}{H H':aj}(h:gK H H')(v:V):cD n H' v=cD n H v:=by
 cases v with
 | c x=>simp only [cD,mZ n h]| a xs=>simp only [cD,fm (fun x _=>mZ n h x)]
 | _=>rfl
theorem Ag(K:fg Q σ call)(hS:SR Q σ X)(hB:X.B≤X.w.heap.size){f:Nat}{args:List V}{us:List Value}{H H':aj}{r':V}(g:ez call f args H=aa (r',H'))(hH:dk H' X.H)(L:A2 (VR σ X) args us)(cs:List Frame) :
  (∀ as w,(callFunc (σ f) as).run Q w=.ok (.enter (σ f) as) w) ∧
  ∃ l X' u,Steps Q (lone (Frame.enter Q (σ f) us.toArray .normal) cs X.w) (lone l cs X'.w)∧Leaves Q (σ f) .normal l u X'.w∧fe Q σ X r' X.H X' u∧X'.cB=X.cB:=by
 unfold ez at g;split at g
 ·simp at g
 ·rename_i s d;split at g
  ·simp at g
  ·rename_i r S b;split at g
   ·simp at g
   ·rename_i a8 M;simp only [At,OF]at g;obtain⟨rfl,rfl⟩:=g;have A:=nV deep args H;have B:=tp deep args H;obtain⟨v,J,h3⟩:=SR.flag hS;have d:=gd d;have z:A2 (VR σ X.flag.inner) s us:=by
     refine⟨by rw [←d.len];exact L.len,fun i y u O hu=>?_⟩;have hi:i<args.length:=by rw [d.len];exact(BY.1 O).1
     have N:=By hi;have m:cD deep H args[i]=aa y:=d.2 i _ _ N O;have q:=VR.ext' σ J (L.2 i _ _ N hu);rw [←aj0 A]at m;have E:ic σ X.flag args[i] u:=by
      cases j:args[i]with
      | c x=>rw [j]at q;exact q| a xs=>rw [j]at q;exact q| top=>trivial| t vs=>rw [j]at m;simp [cD]at m
     exact VR.of1 σ (al8 v h3 hH m (B _ (anc hi)) E X.flag.inner rfl rfl)
    obtain⟨l,Y,u,U,W,Z,I,g5,g6,g7⟩:=K.fn f s [] r S b X.flag.inner us .normal cs rfl (SR.inner v) (aft _) z (.inl rfl) (.inl rfl);obtain⟨k1,k2,k3⟩:=SR.outer v hB I g6;refine⟨K.enters f s [] _ b,l,{ X.flag with F:=Y.jN.F,w:=Y.w },u,U,W,⟨rfl,k1,?_,J.trans (k2.mono (aft _)),k3⟩,rfl⟩;rw [←Z]at M;exact DT I M g5 _ rfl rfl
theorem nv{o:Oper}{f:Nat}{xs:List Arg}{h:Bool}(b:dU Q σ o (.call f xs h)=ae):∃ c,o.op=.call c∧c.callee=.value (.func (σ f))∧mAs σ xs c.args=ae:=by
 simp only [dU]at b;split at b
 ·rename_i c j;simp only [ef]at b;split at b
  ·rename_i g d;simp only [If,beq_iff_eq]at b;exact⟨c,j,by rw [d,b.1],b.2⟩
  ·simp at b
 ·simp at b
theorem Ad{o:Oper}{x:Arg}{xs:List Arg}{h:Bool}(b:dU Q σ o (.cj x xs h)=ae):∃ c y,o.op=.call c∧c.callee=.value y∧mA σ x y=ae∧mAs σ xs c.args=ae:=by
 simp only [dU]at b;split at b
 ·rename_i c d;simp only [ef]at b;split at b
  ·rename_i y g;simp only [If]at b;exact⟨c,y,d,g,b.1,b.2⟩
  ·simp at b
 ·simp at b
theorem lq{o:Oper}{c:Call}(h:o.op=.call c):∀ c,o.op≠.defer c:=fun b e=>by rw [h]at e;cases e
theorem Bn(l:fg Q σ call)(q:SR Q σ X)(j:X.B≤X.w.heap.size){a:Act}{aD:T}(E:RR σ X aD a.tmps){o:Oper}{f:Nat}{xs:List Arg}{h:Bool}(I:dU Q σ o (.call f xs h)=ae)
  {H H':aj} {v:V} (y:ez call f (dC aD xs) H=aa (v,H')) (m:dk H' X.H):dd Q σ X o a v X.H:=by
 obtain⟨c,x,F,d⟩:=nv I;have s:=ni E d;have b:=(Ag l q j y m s []).1;refine dd.vK (lq x) (f:=σ f) (us:=c.args.map a.eval) ?_ fun cs=>?_
 ·rw [iP x F (fn:=.func (σ f)) (fst:=#[]) (cap:=#[]) rfl,eX b];simp
 ·obtain⟨_,z,X',u,g,A,B,_⟩:=Ag l q j y m s cs;exact⟨z,X',u,by rw [Array.toArray_toList]at g;exact g,A,B⟩
theorem zA(A:fg Q σ call)(F:SR Q σ X)(z:X.B≤X.w.heap.size){a:Act}{aD:T}(E:RR σ X aD a.tmps){o:Oper}{f:Nat}{xs:List Arg}{h:Bool}(K:dU Q σ o (.call f xs h)=ae)
  {H H':aj} {v:V} (L:ez call f (dC aD xs) H=aa (v,H')) (B:dk H' X.H)
  (b:Frame) (ops:Array Oper) (i:Nat) (rest:List Nat) (k:List Item) (cs:List Frame) (g:ops[i]?=aa o) (M:Region.wanted o (yielded ops a.tmps)=ae) :
  ∃ X' u,Steps Q (lone (b.atR a (.inRegion ops (i::rest)::k)) cs X.w) (lone (b.atR (a.put o.dst u) (.inRegion ops rest::k)) cs X'.w)∧fe Q σ X v X.H X' u∧X'.cB=X.cB:=by
 obtain⟨c,s,J,m⟩:=nv K;have I:=ni E m;obtain⟨l,Z,X',u,q,⟨N,O,S,U,fn,W,Y⟩,x,y⟩:=Ag A F z L B I (b.atR a (.inRegion ops (i::rest)::k)::cs);rw [Array.toArray_toList]at q;have j:(execOp a.eval o).run Q X.w=.ok (.enter (σ f) (c.args.map a.eval)) X.w:=by
  rw [iP s J (fn:=.func (σ f)) (fst:=#[]) (cap:=#[]) rfl,eX l];simp
 refine⟨X',u,.head (step_lone_go (fr':=Frame.enter Q (σ f) (c.args.map a.eval) .normal) (cs':=b.atR a (.inRegion ops (i::rest)::k)::cs) (w':=X.w) ?_) (q.trans (.one ?_)),x,y⟩
 ·rw [stepGR_op g M,Oper.semAt_eq _ _ _ (lq s)];simp [stepG.apply,Sem.runT_eq,j,Frame.atR]
 ·have d:=Frame.finish_atR b a ops i rest k u;rw [g]at d;simp only [avS]at d;rw [←d];exact step_leave_returned ⟨N,O,S,fn,by rw [U];exact W,Y⟩
theorem Bm(j:fg Q σ call)(A:SR Q σ X)(y:X.B≤X.w.heap.size){a:Act}{aD:T}(z:RR σ X aD a.tmps){o:Oper}{f:Nat}{xs:List Arg}{h:Bool}(F:dU Q σ o (.call f xs h)=ae)
  {H':aj} {v:V} (m:call (.fn f) (dC aD xs) X.H=aa (v,H')):dd Q σ X o a v H':=by
 obtain⟨c,l,E,d⟩:=nv F;have B:=ni z d;have b:=j.enters _ _ _ _ m;refine dd.vK (lq l) (f:=σ f) (us:=c.args.map a.eval) ?_ fun cs=>?_
 ·rw [iP l E (fn:=.func (σ f)) (fst:=#[]) (cap:=#[]) rfl,eX b];simp
 ·obtain⟨q,X',u,g,s,x⟩:=j.fn _ _ _ _ _ m X _ .normal cs rfl A y B (.inl rfl) (.inl rfl);exact⟨q,X',u,by rw [Array.toArray_toList]at g;exact g,s,x⟩
theorem acE(A:fg Q σ call)(M:SR Q σ X)(J:X.B≤X.w.heap.size){a:Act}{aD:T}(K:RR σ X aD a.tmps){o:Oper}{x:Arg}{xs:List Arg}{h:Bool}(hm:dU Q σ o (.cj x xs h)=ae)
  {H':aj} {v:V} {c:Callee} {args:List V} (m:bX (x.ev aD) (dC aD xs)=aa (c,args)) (E:call c args X.H=aa (v,H')):dd Q σ X o a v H':=by
 obtain⟨cl,y,s,O,hy,H⟩:=Ad hm;have N:=ni K H;have S:=oR m (bU K hy) N;cases c with
 | fn f=>
  obtain⟨fst,cap,j,F⟩:=S;have B:=A.enters _ _ _ _ E;refine dd.vK (lq s) (f:=σ f) (us:=fst.toArray++cl.args.map a.eval++cap.toArray) ?_ fun cs=>?_
  ·rw [iP s O j,eX B]
  ·obtain⟨W,X',u,q,z,Y⟩:=A.fn _ _ _ _ _ E X _ .normal cs rfl M J F (.inl rfl) (.inl rfl);refine⟨W,X',u,?_,z,Y⟩;have e:(fst++(cl.args.map a.eval).toList++cap).toArray=fst.toArray++cl.args.map a.eval++cap.toArray:=by simp
   rw [e]at q;exact q
 | yield b=>
  obtain⟨rfl,L,Z,j⟩:=S;have key:=fun c cs=>A.yield b _ _ _ _ E X _ c cs L rfl M J N Z;obtain⟨f,tmps,as,bd,_,_,g,_⟩:=key default [];refine dd.adT (lq s) (l:=L.c) (f:=f) (tmps:=tmps) (as:=as) (bd:=bd) ?_ fun c cs=>?_
  ·rw [iP s O j,Array.empty_append];rw [Array.toArray_toList]at g;exact g
  ·obtain⟨f',I,as',U,X',u,d,q,z⟩:=key c cs;rw [g]at d;simp only [Result.ok.injEq,Next.round.injEq,true_and,and_true]at d;obtain⟨rfl,rfl,rfl,rfl⟩:=d;exact⟨X',u,q,z⟩
end
section
variable{Q:Program}{σ:Nat→FuncId}{X:Wd}{call:cR}
def uA(σ:Nat→FuncId)(X:Wd):dQ→Deferred→Prop
 | .gZ b,d=>∃ L o,X.cB b=aa L∧X.H[b]?=aa (.eH o)∧d = { target:=.collected L.c,args:=#[] }| .fn f args,d=>∃ us cap:Array Value,d = { target:=.fn (.func (σ f)) cap,args:=us }∧A2 (VR σ X) args (us.toList++cap.toList)
theorem uA.eg{X X':Wd}(g:qd X.H.length X X'){x:dQ}{d:Deferred}(h:uA σ X x d):uA σ X' x d:=by
 cases x with
 | gZ b=>
  obtain⟨L,o,h1,h2,h3⟩:=h;obtain⟨blk',h4,h5⟩:=g.cO b (BY.1 h2).1 _ h2;cases blk'<;>simp only at h5;exact⟨L,_,h5 L h1,h4,h3⟩
 | fn f args=>
  obtain⟨us,cap,h1,h2⟩:=h;exact⟨us,cap,h1,h2.lJ fun _ _ h=>VR.eg σ g h⟩
def fS(σ:Nat→FuncId)(X:Wd)(ds:List dQ)(b:List Deferred):Prop:=A2 (uA σ X) ds b
theorem uA.ext'{X X':Wd}(b:Ext X.H.length X X'){x:dQ}{d:Deferred}(h:uA σ X x d):uA σ X' x d:=uA.eg b.W h
theorem fS.eg{X X':Wd}(d:qd X.H.length X X'){ds:List dQ}{b:List Deferred}(h:fS σ X ds b):fS σ X' ds b:=h.lJ fun _ _ h=>uA.eg d h
theorem fS.ext'{X X':Wd}(d:Ext X.H.length X X'){ds:List dQ}{b:List Deferred}(h:fS σ X ds b):fS σ X' ds b:=h.lJ fun _ _ h=>uA.ext' d h
def qf(Q:Program)(σ:Nat→FuncId)(X:Wd)(o:Oper)(a:Act)(ok:Frame→Prop)(v:V)(H':aj)(ds:List dQ):Prop:=
 ∀(b:Frame) (ops:Array Oper) (i:Nat) (rest:List Nat) (k:List Item) (cs:List Frame),ops[i]?=aa o→Region.wanted o (yielded ops a.tmps)=ae→jt b cs→ok b →
  ∃(X':Wd) (u:Value) (a':Act),Steps Q (lone (b.atR a (.inRegion ops (i::rest)::k)) cs X.w) (lone (b.atR (a'.put o.dst u) (.inRegion ops rest::k)) cs X'.w)∧fe Q σ X v H' X' u∧a'.tmps=a.tmps∧fS σ X' ds a'.defers
theorem dd.ae'{o:Oper}{a:Act}{v:V}{H':aj}(h:dd Q σ X o a v H'){ds:List dQ}(d:fS σ X ds a.defers){ok:Frame→Prop}:qf Q σ X o a ok v H' ds:=by
 intro b ops i rest k cs ho j g _;obtain⟨X',u,h1,h2⟩:=h b ops i rest k cs ho j g;exact⟨X',u,a,h1,h2,rfl,d.ext' h2.2.2.2.1⟩
theorem dd.ahead(j:SR Q σ X){d H':aj}(g:dk X.H d){o:Oper}{a:Act}{v:V}(h:dd Q σ { X with H:=d } o a v H'):dd Q σ X o a v H':=by
 intro b ops i rest k cs ho m l;obtain⟨X',u,h1,h2,h3,h4,h5,h6⟩:=h b ops i rest k cs ho m l;exact⟨X',u,h1,h2,h3,h4,(SR.ahead j g).2.trans (h5.mono g.len),h6⟩
def gR(op:cW)(b:Frame):Prop:=b.roundOf=ab∨op.dZ=ae
theorem EB(y:SR Q σ X)(x:X.B≤X.w.heap.size){a:Act}{o:Oper}(g:dU Q σ o .recover=ae){ds:List dQ}(z:fS σ X ds a.defers):qf Q σ X o a (gR .recover) (.c (.f .mN)) X.H ds:=by
 intro b ops i rest k cs v B A q;have q:b.roundOf=ab:=q.elim id fun h=>by simp [cW.dZ]at h
 simp only [dU]at g;split at g
 ·rename_i c u;simp only [ef]at g;split at g
  ·rename_i j;have l:(execOp a.eval o).run Q X.w=.ok .recover X.w:=by
    simp [execOp,u,resolve,j,invoke,builtin]
   refine⟨X,.nilIface,a,.one (step_lone_go ?_),⟨rfl,y,cS.mN,Ext.refl _ _,x⟩,rfl,z⟩;rw [stepGR_op v B,Oper.semAt_eq _ _ _ (lq u)];have d:=Frame.finish_atR b a ops i rest k .nilIface;rw [v]at d;simp only [avS]at d;rw [←d];have m:tryRecover (b.atR a (.inRegion ops (i::rest)::k)) cs=ab:=pR.QY A;have s:(b.atR a (.inRegion ops (i::rest)::k)).roundOf=ab:=q;simp [stepG.apply,Sem.runT_eq,l,m,s]
  ·simp at g
 ·simp at g
theorem acQ(A:SR Q σ X)(z:X.B≤X.w.heap.size){a:Act}{aD:T}(u:RR σ X aD a.tmps){o:Oper}{x:Arg}{xs:List Arg}(g:dU Q σ o (.defer x xs)=ae){ds:List dQ}(E:fS σ X ds a.defers)
  {f:Nat} {args:List V} (B:bX (x.ev aD) (dC aD xs)=aa (.fn f,args)):qf Q σ X o a (gR (.defer x xs)) .top X.H (.fn f args::ds):=by
 intro b ops i rest k cs v H J m;have m:b.roundOf=ab:=m.elim id fun h=>by simp [cW.dZ]at h
 simp only [dU]at g;split at g
 ·rename_i c j;split at g
  ·rename_i y I;simp only [If]at g;have F:=oR B (bU u g.1) (ni u g.2);obtain⟨fst,cap,q,s⟩:=F;have l:(execOp a.eval o).run Q X.w=.ok (.defer { target:=.fn (.func (σ f)) cap.toArray,args:=fst.toArray++c.args.map a.eval }) X.w:=by
    simp [execOp,j,resolve,I,q,Deferred.ofValue]
   refine⟨X,undef,{ a with defers:={ target:=.fn (.func (σ f)) cap.toArray,args:=fst.toArray++c.args.map a.eval }::a.defers },.one (step_lone_go ?_),⟨rfl,A,trivial,Ext.refl _ _,z⟩,rfl,A2.cons ⟨_,_,rfl,by simpa using s⟩ E⟩;rw [stepGR_op v H,m,Oper.semAt_none];have d:=Frame.finish_atR b { a with defers:={ target:=.fn (.func (σ f)) cap.toArray,args:=fst.toArray++c.args.map a.eval }::a.defers } ops i rest k undef;rw [v]at d;simp only [avS]at d;rw [←d];simp [stepG.apply,Sem.runT_eq,l,Frame.atR]
  ·simp at g
 ·simp at g
theorem qU{o:Oper}{op:cW}(d:dU Q σ o op=ae)(g:∀ x xs,op≠.defer x xs)(j:op≠.bad):∀ c,o.op≠.defer c:=by
 intro c b;cases op
 case pre o sz=>cases o<;>simp [dU,b]at d
 case defer x xs=>exact g _ _ rfl
 case bad=>exact j rfl
 all_goals simp [dU,b]at d
theorem GO(z:fg Q σ call)(g:SR Q σ X)(l:X.B≤X.w.heap.size){a:Act}{s s':St}(m:X.H=s.heap)(q:RR σ X s.aD a.tmps)(u:fS σ X s.defs a.defers){o:Oper}{op:cW}(j:dU Q σ o op=ae){v:V}
  (h:eU call s op=aa (v,s')):qf Q σ X o a (gR op) v s'.heap s'.defs∧s'.aD=s.aD:=by
 by_cases B:(∃ f xs h,op=.call f xs h)∨(∃ x xs h,op=.cj x xs h)∨op=.recover∨∃ x xs,op=.defer x xs
 ·rcases B with⟨f,xs,K,rfl⟩ | ⟨x,xs,K,rfl⟩ | rfl | ⟨x,xs,rfl⟩
  ·simp only [eU,IT,OF]at h;obtain⟨⟨F,H'⟩,d,rfl,rfl⟩:=h;refine⟨dd.ae' ?_ u,rfl⟩;unfold gT at d;split at d
   ·exact Bm z g l q j (m▸d)
   ·have y:dk X.H H':=by
     have b:=d;unfold ez at b;split at b
     ·simp at b
     ·split at b
      ·simp at b
      ·split at b
       ·simp at b
       ·simp only [At,OF]at b;rw [←b.2,m];exact(nV _ _ _).ext
    obtain⟨I,J⟩:=SR.ahead g y;refine dd.ahead g y ?_;exact Bn z (X:={ X with H:=H' }) I l (q.ext' σ J) j d (dk.refl _)
  ·simp only [eU]at h;split at h
   ·rename_i c args A;simp only [IT,OF]at h;obtain⟨⟨F,H'⟩,d,rfl,rfl⟩:=h;exact⟨dd.ae' (acE z g l q j A (m▸d)) u,rfl⟩
   ·simp at h
  ·simp only [eU,At,OF]at h;obtain⟨rfl,rfl⟩:=h;rw [←m];exact⟨EB g l j u,rfl⟩
  ·simp only [eU]at h;split at h
   ·rename_i f args A;simp only [At,OF]at h;obtain⟨rfl,rfl⟩:=h;refine⟨?_,rfl⟩;rw [←m];exact acQ g l q j u A
   ·simp at h
 ·have E:(bq s.aD s.heap op).map (fun r=>(r.1,{ s with heap:=r.2 }))=aa (v,s'):=by
   cases op<;>first | exact h | (exfalso;apply B;simp)
  simp only [IT,OF]at E;obtain⟨⟨F,H'⟩,d,rfl,rfl⟩:=E;refine⟨dd.ae' (dd.ass (qU j ?_ ?_) (ap' g l q j (m▸d))) u,rfl⟩
  ·rintro x xs rfl;exact B (.inr (.inr (.inr ⟨x,xs,rfl⟩)))
  ·rintro rfl;simp [bq]at d
end
section
variable{Q:Program}{σ:Nat→FuncId}{X:Wd}{call:cR}
structure Fr(Q:Program)(σ:Nat→FuncId)(n:Nat)(X:Wd)(s:St)(a:Act):Prop where
 heap:X.H=s.heap
 sr:SR Q σ X
 b:X.B≤X.w.heap.size
 aD:RR σ X s.aD a.tmps
 defs:fS σ X s.defs a.defers
 size:n≤a.tmps.size
theorem oe{n:Nat}{ops:Array Oper}{o:Oper}{m:aS}(F:lk Q σ n ops o m=ae){aD:T}{tmps:Array Value}(I:∀ p w',m.g=aa (p,w')→VR σ X (aD.get p) (tmps.getD p.toNat undef))(K:n≤tmps.size){w:Bool}(h:wanted aD m.g=aa w) :
  Region.wanted o (yielded ops tmps)=w:=by
 simp only [lk,If]at F;obtain⟨_,b⟩:=F;unfold Region.wanted;cases x:o.guard with
 | none=>
  rw [x]at b;cases g:m.g with
  | none=>rw [g]at h;simp only [wanted,At]at h;simpa using h| some q=>rw [g]at b;simp at b
 | some L=>
  obtain⟨j,N⟩:=L;rw [x]at b;cases g:m.g with
  | none=>rw [g]at b;simp at b
  | some q=>
   obtain⟨p,w'⟩:=q;rw [g]at b h;simp only [If,beq_iff_eq]at b;obtain⟨rfl,b⟩:=b;split at b
   ·rename_i d J;simp only [If,beq_iff_eq,decide_eq_true_eq]at b;obtain⟨B,A⟩:=b;have l:=I p _ g;rw [B]at l;have v:d<tmps.size:=avJ A K;have s:tmps.getD d undef=tmps[d]:=by simp [Array.getD,v]
    rw [s]at l;simp only [wanted]at h;simp only [yielded,J,avS,Array.getElem?_eq_getElem v];split at h
    ·rename_i H z;rw [z]at l;simp only [At]at h;have y:cS σ X.F X.w (.bool H) tmps[d]:=l;generalize tmps[d]=u at y;cases y;subst h;simp
    ·rename_i z;rw [z]at l;obtain⟨us,E,M⟩:=l;simp only [At]at h;subst h;rw [E];simp
    ·simp at h
   ·simp at b
theorem ad8{n:Nat}{ops:Array Oper}{o:Oper}{m:aS}(s:lk Q σ n ops o m=ae){aD:T}{a:Act}(q:RR σ X aD a.tmps)(x:n≤a.tmps.size){v:V}{u:Value}(y:VR σ X v u) :
  RR σ X (jS aD m.dst v) (a.put o.dst u).tmps∧(a.put o.dst u).tmps.size=a.tmps.size∧(a.put o.dst u).defers=a.defers:=by
 simp only [lk,If]at s;obtain⟨⟨_,b⟩,_⟩:=s;split at b
 ·rename_i d p g j;simp only [If,beq_iff_eq,decide_eq_true_eq]at b;obtain⟨rfl,l⟩:=b;rw [g,j];exact⟨RR.set σ q (avJ l x) y,by simp [Act.put],rfl⟩
 ·rename_i g j;rw [g,j];exact⟨q,rfl,rfl⟩
 ·simp at b
theorem VR.undef:VR σ X (.t []) undef:=⟨[],rfl,A2.nil⟩
theorem afc(O:fg Q σ call){n:Nat}{s s':St}{a:Act}(d:Fr Q σ n X s a){ops:Array Oper}{o:Oper}{q:aS}(j:lk Q σ n ops o q=ae)(h:fL call s q=aa s')
  {b:Frame} {i:Nat} {rest:List Nat} {k:List Item} {cs:List Frame} (y:ops[i]?=aa o) (S:jt b cs) (U:gR q.op b) :
  ∃ X' a',Steps Q (lone (b.atR a (.inRegion ops (i::rest)::k)) cs X.w) (lone (b.atR a' (.inRegion ops rest::k)) cs X'.w)∧Fr Q σ n X' s' a'∧Ext X.H.length X X'∧a'.tmps.size=a.tmps.size:=by
 unfold fL at h;split at h
 ·rename_i g;have g:=oe j (fun p w' _=>d.aD p) d.size g;split at h
  ·rename_i v W L;simp only [At]at h;subst h;have l:dU Q σ o q.op=ae:=by simp only [lk,If]at j;exact j.1.1
   obtain⟨M,N⟩:=GO O d.sr d.b d.heap d.aD d.defs l L;obtain⟨X',u,a',E,⟨F,H,I,B,J⟩,x,K⟩:=M b ops i rest k cs y g S U;obtain⟨z,m,A⟩:=ad8 j (X:=X') (a:=a') (by rw [x];exact d.aD.ext' σ B) (by rw [x];exact d.size) I;refine⟨X',a'.put o.dst u,E,⟨F,H,J,?_,by rw [A];exact K,by rw [m,x];exact d.size⟩,B,by rw [m,x]⟩;simpa [N]using z
  ·simp at h
 ·rename_i g;have g:=oe j (fun p w' _=>d.aD p) d.size g;simp only [At]at h;subst h;obtain⟨z,m,A⟩:=ad8 j d.aD d.size (VR.undef (σ:=σ) (X:=X));refine⟨X,a.put o.dst undef,.one ?_,⟨d.heap,d.sr,d.b,z,by rw [A];exact d.defs,by rw [m];exact d.size⟩,Ext.refl _ _,m⟩;have:=stepR_op_skip (P:=Q) (b:=b) (a:=a) (k:=k) (cs:=cs) (w:=X.w) (ops:=ops) (i:=i) (rest:=rest) (by simp [y,g]);rw [y]at this;exact this
 ·simp at h
theorem GS(H:fg Q σ call){n:Nat}{ops:Array Oper}{b:Frame}{k:List Item}{cs:List Frame}(I:jt b cs):∀(aos:List aS) (j:Nat) (X:Wd) (s s':St) (a:Act),Fr Q σ n X s a →
  ft (lk Q σ n ops) (ops.toList.drop j) aos=ae→(∀ ao ∈ aos,gR ao.op b)→fG call aos s=aa s' →
  ∃ X' a',Steps Q (lone (b.atR a (.inRegion ops ((List.range ops.size).drop j)::k)) cs X.w) (lone (b.atR a' k) cs X'.w)∧Fr Q σ n X' s' a'∧Ext X.H.length X X'∧a'.tmps.size=a.tmps.size
 | [],j,X,s,s',a,A,d,_,h=>by
  simp only [fG,At]at h;subst h;have S:(List.range ops.size).drop j=[]:=by
   cases g:ops.toList.drop j with
   | nil=>
    have:=axg.1 g;simp at this;rw [axg];simpa using this
   | cons x xs=>rw [g]at d;simp [ft]at d
  rw [S];exact⟨X,a,.one stepR_region_end,A,Ext.refl _ _,rfl⟩
 | ao::aos,j,X,s,s',a,A,d,J,h=>by
  cases g:ops.toList.drop j with
  | nil=>rw [g]at d;simp [ft]at d
  | cons o os=>
   rw [g]at d;simp only [ft,If]at d;have v:j<ops.toList.length:=by
    rcases avT j ops.toList.length with q | q
    ·exact q
    ·rw [axg.2 q]at g;simp at g
   have l:=auR v;rw [g]at l;simp only [List.cons.injEq]at l;obtain⟨U,F⟩:=l;simp only [fG]at h;split at h
   ·rename_i s1 q;have m:(List.range ops.size).drop j=j ::(List.range ops.size).drop (j+1):=by
     rw [auR (by simpa using v)];simp
    rw [m];obtain⟨y,a1,M,N,z,O⟩:=afc H A d.1 q (b:=b) (i:=j) (rest:=(List.range ops.size).drop (j+1)) (k:=k) (cs:=cs) (by simp at v;simp [v,U]) I (J _ (by simp));obtain⟨K,L,W,Y,Z,k4⟩:=GS H I aos (j+1) y s1 s' a1 N (by rw [←F];exact d.2) (fun ao h=>J ao (by simp [h])) h;refine⟨K,L,M.trans W,Y,z.trans (Z.mono ?_),k4.trans O⟩;have:=z.cO;rcases avT y.H.length X.H.length with u | E
    ·obtain⟨blk',B,_⟩:=z.cO y.H.length u _ (By u);have:=(BY.1 B).1;omega
    ·exact E
   ·simp at h
end
theorem kP{r r':T}{x:Arg}(h:∀ p ∈ x.rd,r.get p=r'.get p):x.ev r=x.ev r':=by
 cases x with
 | r p=>exact h p (by simp [Arg.rd])
 | k v=>rfl
theorem Q1{r r':T}{x:Option Arg}(h:∀ p ∈ oRd x,r.get p=r'.get p):x.map (·.ev r)=x.map (·.ev r'):=by
 cases x with
 | none=>rfl| some x=>simp only [avY];rw [kP h]
theorem gA{r r':T}{xs:List Arg}(h:∀ p ∈ xs.flatMap Arg.rd,r.get p=r'.get p):dC r xs=dC r' xs:=by
 unfold dC;refine List.map_congr_left fun x d=>kP fun p b=>h p (awx.2 ⟨x,d,b⟩)
theorem jv{r r':T}:∀(ps:List (Nat × Nat × Arg)) (cs:List C),(∀ p ∈ ps.flatMap (fun q=>q.2.2.rd),r.get p=r'.get p)→dK r cs ps=dK r' cs ps
 | [],cs,_=>rfl
 | (off,n,x)::ps,cs,h=>by
  simp only [dK];rw [kP (x:=x) (r:=r) (r':=r') fun p b=>h p (by simp [b])];split
  ·split
   ·exact jv ps _ fun p b=>h p (by simp only [List.flatMap_cons,avq];exact .inr b)
   ·rfl
  ·rfl
theorem EW{r r':T}{H:aj}{op:cW}(h:∀ p ∈ op.rd,r.get p=r'.get p):bq r H op=bq r' H op:=by
 have e:∀ x:Arg,(∀ p ∈ x.rd,p ∈ op.rd)→x.ev r=x.ev r':=fun x A=>kP fun p d=>h p (A p d);have g:∀ x:Option Arg,(∀ p ∈ oRd x,p ∈ op.rd)→x.map (·.ev r)=x.map (·.ev r'):=fun x A=>Q1 fun p d=>h p (A p d);cases op
 case build zs ps=>simp only [bq];rw [jv ps _ h]
 case bK sz zs n ps=>
  simp only [bq];rw [jv (r:=r) (r':=r') (ps.map fun p=>(p.1*sz,sz,p.2)) _ fun p d=>h p (by
   simp only [awx,avx]at d;obtain⟨q,⟨q',j,rfl⟩,u⟩:=d;exact awx.2 ⟨q',j,u⟩)]
 case fP sz zs n ps=>
  simp only [bq];rw [jv (r:=r) (r':=r') (ps.map fun p=>(p.1*sz,sz,p.2)) _ fun p d=>h p (by
   simp only [awx,avx]at d;obtain⟨q,⟨q',j,rfl⟩,u⟩:=d;exact awx.2 ⟨q',j,u⟩)]
 case fR f xs=>simp only [bq];rw [gA h]
 case pick c a b=>
  simp only [bq];rw [e c (by simp +contextual [cW.rd])];split
  ·rename_i v _;cases v<;>simp [e a (by simp +contextual [cW.rd]),e b (by simp +contextual [cW.rd])]
  ·rfl
 case slice sz x lo hi mx=>simp only [bq];rw [e x (by simp +contextual [cW.rd]),g lo (by simp +contextual [cW.rd]),g hi (by simp +contextual [cW.rd]),g mx (by simp +contextual [cW.rd])]
 case nB n sz x lo hi mx=>simp only [bq];rw [e x (by simp +contextual [cW.rd]),g lo (by simp +contextual [cW.rd]),g hi (by simp +contextual [cW.rd]),g mx (by simp +contextual [cW.rd])]
 case oK x lo hi=>simp only [bq];rw [e x (by simp +contextual [cW.rd]),g lo (by simp +contextual [cW.rd]),g hi (by simp +contextual [cW.rd])]
 case jg B m k v=>simp only [bq];rw [e m (by simp +contextual [cW.rd]),e k (by simp +contextual [cW.rd]),e v (by simp +contextual [cW.rd])]
 case aZ x=>simp only [bq];rw [e x (by simp +contextual [cW.rd])]
 case box x=>simp only [bq];rw [e x (by simp +contextual [cW.rd])]
 case load n x=>simp only [bq];rw [e x (by simp +contextual [cW.rd])]
 case bR x=>simp only [bq];rw [e x (by simp +contextual [cW.rd])]
 case un o x=>simp only [bq];rw [e x (by simp +contextual [cW.rd])]
 case fT k x=>simp only [bq];rw [e x (by simp +contextual [cW.rd])]
 case wU x=>simp only [bq];rw [e x (by simp +contextual [cW.rd])]
 case wT x=>simp only [bq];rw [e x (by simp +contextual [cW.rd])]
 case DK x=>simp only [bq];rw [e x (by simp +contextual [cW.rd])]
 case aO o x=>simp only [bq];rw [e x (by simp +contextual [cW.rd])]
 case field o n x=>simp only [bq];rw [e x (by simp +contextual [cW.rd])]
 case range x=>simp only [bq];rw [e x (by simp +contextual [cW.rd])]
 case next x=>simp only [bq];rw [e x (by simp +contextual [cW.rd])]
 case extract x i=>simp only [bq];rw [e x (by simp +contextual [cW.rd])]
 case len x=>simp only [bq];rw [e x (by simp +contextual [cW.rd])]
 case lens x=>simp only [bq];rw [e x (by simp +contextual [cW.rd])]
 case cap x=>simp only [bq];rw [e x (by simp +contextual [cW.rd])]
 case entry x=>simp only [bq];rw [e x (by simp +contextual [cW.rd])]
 case kE x=>simp only [bq];rw [e x (by simp +contextual [cW.rd])]
 case oI x=>simp only [bq];rw [e x (by simp +contextual [cW.rd])]
 case clear s z x=>simp only [bq];rw [e x (by simp +contextual [cW.rd])]
 case gQ lo xs=>simp only [bq];rw [gA h]
 case nq f xs=>simp only [bq];rw [gA h]
 case wg s x y z=>simp only [bq];rw [e x (by simp +contextual [cW.rd]),e y (by simp +contextual [cW.rd]),e z (by simp +contextual [cW.rd])]
 case lO s b z x y=>simp only [bq];rw [e x (by simp +contextual [cW.rd]),e y (by simp +contextual [cW.rd])]
 case store n x y=>simp only [bq];rw [e x (by simp +contextual [cW.rd]),e y (by simp +contextual [cW.rd])]
 case bin o x y=>simp only [bq];rw [e x (by simp +contextual [cW.rd]),e y (by simp +contextual [cW.rd])]
 case eq n k x y=>simp only [bq];rw [e x (by simp +contextual [cW.rd]),e y (by simp +contextual [cW.rd])]
 case bE s a x y=>simp only [bq];rw [e x (by simp +contextual [cW.rd]),e y (by simp +contextual [cW.rd])]
 case idxs x y=>simp only [bq];rw [e x (by simp +contextual [cW.rd]),e y (by simp +contextual [cW.rd])]
 case wW l s n x y=>simp only [bq];rw [e x (by simp +contextual [cW.rd]),e y (by simp +contextual [cW.rd])]
 case append s b x y=>simp only [bq];rw [e x (by simp +contextual [cW.rd]),e y (by simp +contextual [cW.rd])]
 case copy s x y=>simp only [bq];rw [e x (by simp +contextual [cW.rd]),e y (by simp +contextual [cW.rd])]
 case lookup c z x y=>simp only [bq];rw [e x (by simp +contextual [cW.rd]),e y (by simp +contextual [cW.rd])]
 case dX s b z x y=>simp only [bq];rw [e x (by simp +contextual [cW.rd]),e y (by simp +contextual [cW.rd])]
 all_goals rfl
theorem GP{call:cR}{s:St}{r':T}{op:cW}(h:∀ p ∈ op.rd,s.aD.get p=r'.get p){v:V}{s':St}(b:eU call s op=aa (v,s')):eU call { s with aD:=r' } op=aa (v,{ s' with aD:=r' }):=by
 by_cases d:(∃ f xs h,op=.call f xs h)∨(∃ x xs h,op=.cj x xs h)∨op=.recover∨∃ x xs,op=.defer x xs
 ·rcases d with⟨f,xs,m,rfl⟩ | ⟨x,xs,m,rfl⟩ | rfl | ⟨x,xs,rfl⟩
  ·simp only [eU,IT,OF]at b ⊢;obtain⟨q,g,rfl,rfl⟩:=b;rw [gA h]at g;exact⟨q,g,rfl,rfl⟩
  ·simp only [eU]at b ⊢;rw [kP (x:=x) (r:=s.aD) (r':=r') (fun p d=>h p (by simp [cW.rd,d])),gA (xs:=xs) (r:=s.aD) (r':=r') (fun p d=>h p (by simp only [cW.rd,avq];exact .inr d))]at b;split at b
   ·simp only [IT,OF]at b ⊢;obtain⟨q,g,rfl,rfl⟩:=b;exact⟨q,g,rfl,rfl⟩
   ·simp at b
  ·simp only [eU,At,OF]at b ⊢;obtain⟨rfl,rfl⟩:=b;exact⟨rfl,rfl⟩
  ·simp only [eU]at b ⊢;rw [kP (x:=x) (r:=s.aD) (r':=r') (fun p d=>h p (by simp [cW.rd,d])),gA (xs:=xs) (r:=s.aD) (r':=r') (fun p d=>h p (by simp only [cW.rd,avq];exact .inr d))]at b;split at b
   ·simp only [At,OF]at b ⊢;obtain⟨rfl,rfl⟩:=b;exact⟨rfl,rfl⟩
   ·simp at b
 ·have j:(bq s.aD s.heap op).map (fun r=>(r.1,{ s with heap:=r.2 }))=aa (v,s'):=by
   cases op<;>first | exact b | (exfalso;apply d;simp)
  have l:eU call { s with aD:=r' } op=(bq r' s.heap op).map (fun r=>(r.1,{ s with aD:=r',heap:=r.2 })):=by
   cases op<;>first | rfl | (exfalso;apply d;simp)
  rw [l,←EW h];simp only [IT,OF]at j ⊢;obtain⟨q,g,rfl,rfl⟩:=j;exact⟨q,g,rfl,rfl⟩
theorem ams{r:T}{op:cW}(b:cls op=.p)(H H':aj):bq r H' op=(bq r H op).map fun q=>(q.1,H'):=by
 cases op<;>simp only [cls,reduceCtorEq]at b<;>simp only [bq]
 all_goals first
  | (simp [Function.comp_def];done)
  | (split<;>simp [Function.comp_def];done)
  | (split<;>(first | rfl | (split<;>rfl)))
section
theorem fu{H H':aj}(l:dk H H')(b:Nat):H[b]?=ab∨(∃ cs fl g,H[b]?=aa (.box cs fl)∧H'[b]?=aa (.box cs g)) ∨
  (∃ s cs fl g e st,H[b]?=aa (.cf s cs fl e st)∧H'[b]?=aa (.cf s cs g e st))∨∃ bp,H[b]?=aa bp∧H'[b]?=aa bp:=by
 cases m:H[b]? with
 | none=>exact .inl rfl
 | some bp=>
  obtain⟨blk',d,j⟩:=l b _ m;cases bp<;>cases blk'<;>simp only [du,reduceCtorEq]at j
  ·obtain⟨rfl,_⟩:=j;exact .inr (.inl ⟨_,_,_,rfl,d⟩)
  ·obtain⟨rfl,rfl,_,rfl,rfl⟩:=j;exact .inr (.inr (.inl ⟨_,_,_,_,_,_,rfl,d⟩))
  all_goals (rw [←j]at d;exact .inr (.inr (.inr ⟨_,rfl,d⟩)))
variable{H H':aj}
theorem Bq(j:dk H H'){x:C}{cs:List C}(h:aE H x=aa cs):aE H' x=aa cs:=by
 cases x with
 | ptr b off ep=>
  simp only [aE]at h ⊢;rcases fu j b with e | ⟨cs,fl,g,e,d⟩ | ⟨s,cs,fl,g,l,st,e,d⟩ | ⟨bp,e,d⟩
  ·simp [e]at h
  ·rw [e]at h;rw [d];exact h
  ·rw [e]at h;rw [d];cases st<;>exact h
  ·rw [e]at h;rw [d];exact h
 | f x=>cases x<;>exact h
 | _=>simp [aE]at h
theorem ako(g:dk H H'){n:Option Nat}{x:V}{v:V}(h:aR H n x=aa v):aR H' n x=aa v:=by
 cases x with
 | c x=>
  simp only [aR,Option.bind_eq_some_iff]at h ⊢;obtain⟨cs,b,d⟩:=h;exact⟨cs,Bq g b,d⟩
 | _=>simp [aR]at h
theorem yV(j:dk H H'){x:C}{n:Nat}(h:bu H x=aa n):bu H' x=aa n:=by
 cases x with
 | sl b o l c ep sz=>
  simp only [bu]at h ⊢;rcases fu j b with e | ⟨cs,fl,g,e,d⟩ | ⟨s,cs,fl,g,m,st,e,d⟩ | ⟨bp,e,d⟩
  ·simp [e]at h
  all_goals (rw [e]at h;rw [d];exact h)
 | f x=>cases x<;>exact h
 | _=>simp [bu]at h
theorem CL(j:dk H H'){sz:Nat}{x:C}{cs:List C}(h:cP H sz x=aa cs):cP H' sz x=aa cs:=by
 cases x with
 | sl b o l c ep s=>
  simp only [cP]at h ⊢;rcases fu j b with e | ⟨cs,fl,g,e,d⟩ | ⟨s,cs,fl,g,m,st,e,d⟩ | ⟨bp,e,d⟩
  ·simp [e]at h
  all_goals (rw [e]at h;rw [d];exact h)
 | f x=>cases x<;>exact h
 | _=>simp [cP]at h
theorem nU(j:dk H H'){k:Fj}{x:C}{b:Bool}(h:isNil H k x=aa b):isNil H' k x=aa b:=by
 cases k<;>cases x<;>first | exact h | (simp [isNil]at h;done) | skip
 case sl.sl bb o l c ep s=>
  simp only [isNil]at h ⊢;rcases fu j bb with e | ⟨cs,fl,g,e,d⟩ | ⟨s,cs,fl,g,m,st,e,d⟩ | ⟨bp,e,d⟩
  ·simp [e]at h
  all_goals (rw [e]at h;rw [d];exact h)
 all_goals (rename_i y;cases y<;>exact h)
theorem ajY(d:dk H H'){k:Fj}{x y:V}{b:Bool}(h:DN H k x y=aa b):DN H' k x y=aa b:=by
 unfold DN at h;split at h
 ·exact h
 ·exact h
 ·exact nU d h
 ·exact nU d h
 ·exact nU d h
 ·exact nU d h
 ·simp at h
theorem EN(j:dk H H'){sz:Nat}{x:V}{lo hi mx:Option V}{v:V}(h:dW H sz x lo hi mx=aa v):dW H' sz x lo hi mx=aa v:=by
 unfold dW at h;split at h
 ·exact h
 ·exact h
 ·exact h
 ·rename_i b o n cap ep s;simp only [dW];rcases fu j b with e | ⟨cs,fl,g,e,d⟩ | ⟨s,cs,fl,g,l,st,e,d⟩ | ⟨bp,e,d⟩
  ·simp [e]at h
  all_goals (rw [e]at h;rw [d];exact h)
 ·simp at h
theorem EL(j:dk H H'){n sz:Nat}{x:V}{lo hi mx:Option V}{v:V}(h:kH H n sz x lo hi mx=aa v):kH H' n sz x lo hi mx=aa v:=by
 unfold kH at h;split at h
 ·rename_i b off ep;simp only [kH];rcases fu j b with e | ⟨cs,fl,g,e,d⟩ | ⟨s,cs,fl,g,l,st,e,d⟩ | ⟨bp,e,d⟩
  ·simp [e]at h
  all_goals (rw [e]at h;rw [d];exact h)
 ·exact h
 ·simp at h
theorem BO(m:dk H H'){sz:Nat}{d:Option Nat}{x i:V}{v:V}(h:bH H sz d x i=aa v):bH H' sz d x i=aa v:=by
 unfold bH at h ⊢;split at h
 ·simp at h
 ·split at h
  ·rename_i hi;simp only [hi,if_true];split at h
   ·rename_i b o l c ep s;split at h
    ·rename_i q;simp only [q,if_true];rcases fu m b with e | ⟨cs,fl,j,e,g⟩ | ⟨s,cs,fl,j,u,st,e,g⟩ | ⟨bp,e,g⟩
     ·simp [e]at h
     ·rw [e]at h;rw [g];exact h
     ·rw [e]at h;rw [g];cases st<;>exact h
     ·rw [e]at h;rw [g];exact h
    ·simp at h
   ·exact h
   ·exact h
   ·exact h
   ·simp at h
  ·simp at h
theorem BZ(l:dk H H'){j:CK}{z:FC}{m k:V}{v:V}(h:gb H j z m k=aa v):gb H' j z m k=aa v:=by
 unfold gb at h;split at h
 ·exact h
 ·rename_i b k;simp only [gb];rcases fu l b with e | ⟨cs,fl,g,e,d⟩ | ⟨s,cs,fl,g,q,st,e,d⟩ | ⟨bp,e,d⟩
  ·simp [e]at h
  all_goals (rw [e]at h;rw [d];exact h)
 ·simp at h
theorem Qi(d:dk H H'){x v:V}(h:oF H x=aa v):oF H' x=aa v:=by
 cases x with
 | c x=>
  simp only [oF]at h ⊢;split at h
  ·rename_i n g;split at h
   ·rename_i cs b;rw [yV d g,CL d b];exact h
   ·simp at h
  ·simp at h
 | _=>simp [oF]at h
theorem Rm(j:dk H H'){x:C}{n:Nat}(h:jh H x=aa n):jh H' x=aa n:=by
 cases x with
 | sl b o l c ep sz=>
  simp only [jh]at h ⊢;rcases fu j b with e | ⟨cs,fl,g,e,d⟩ | ⟨s,cs,fl,g,m,st,e,d⟩ | ⟨bp,e,d⟩
  ·simp [e]at h
  ·rw [e]at h;rw [d];exact h
  ·rw [e]at h;rw [d];cases st<;>exact h
  ·rw [e]at h;rw [d];exact h
 | f x=>cases x<;>exact h
 | _=>simp [jh]at h
theorem akw(l:dk H H'){b:Nat}{d:List (FC × C)}(h:H[b]?=aa (.map d)):H'[b]?=aa (.map d):=by
 obtain⟨blk',j,g⟩:=l b _ h;cases blk'<;>simp only [du,reduceCtorEq,bw.map.injEq]at g;subst g;exact j
theorem aky(l:dk H H'){b m s:Nat}{d:Bool}(h:H[b]?=aa (.wN m s d)):H'[b]?=aa (.wN m s d):=by
 obtain⟨blk',j,g⟩:=l b _ h;cases blk'<;>simp only [du,reduceCtorEq,bw.wN.injEq]at g;obtain⟨rfl,rfl,rfl⟩:=g;exact j
theorem DM(b:dk H H'){x v:V}(h:lQ H x=aa v):lQ H' x=aa v:=by
 unfold lQ at h;split at h
 ·split at h
  ·rename_i d;split at h
   ·rename_i g;simp only [lQ,aky b d,akw b g];exact h
   ·simp at h
  ·simp at h
 ·simp at h
theorem GQ{r:T}{op:cW}(l:cls op=.r)(b:dk H H'){v:V}{j:aj}(h:bq r H op=aa (v,j)):j=H∧bq r H' op=aa (v,H'):=by
 cases op<;>first | (simp only [bq,reduceCtorEq]at h;done) | (simp only [cls,reduceCtorEq]at l;done) | simp only [bq]at h ⊢
 case len x=>
  split at h
  ·rename_i y m;split at h
   ·rename_i n g;simp only [At,OF]at h;obtain⟨rfl,rfl⟩:=h;simp only [yV b g];simp
   ·simp at h
  ·simp at h
 case cap x=>
  split at h
  ·rename_i y m;split at h
   ·rename_i n g;simp only [At,OF]at h;obtain⟨rfl,rfl⟩:=h;simp only [Rm b g];simp
   ·simp at h
  ·simp at h
 all_goals
  simp only [IT,OF]at h;obtain⟨q,d,rfl,rfl⟩:=h;refine⟨rfl,?_⟩
 case entry=>rw [DM b d];rfl
 case load=>rw [ako b d];rfl
 case eq=>rw [ajY b d];rfl
 case slice=>rw [EN b d];rfl
 case nB=>rw [EL b d];rfl
 case bE=>rw [BO b d];rfl
 case lookup=>rw [BZ b d];rfl
 case wT=>rw [Qi b d];rfl
theorem asW{r:T}{op:cW}(g:cls op=.a){v:V}{d:aj}(h:bq r H op=aa (v,d)):d=H∨∃ bp,d=H++[bp]:=by
 cases op<;>first | (simp only [cls,reduceCtorEq]at g;done) | simp only [bq]at h
 case call=>simp at h
 case alloc zs=>simp only [At,OF]at h;exact .inr ⟨_,h.2.symm⟩
 case jQ=>simp only [At,OF]at h;exact .inr ⟨_,h.2.symm⟩
 case box x=>
  split at h
  ·simp only [At,OF]at h;exact .inr ⟨_,h.2.symm⟩
  ·simp at h
 case bK sz zs n ps=>
  split at h
  ·split at h
   ·simp only [At,OF]at h;exact .inl h.2.symm
   ·simp at h
  ·simp only [IT,OF]at h;obtain⟨q,j,rfl,rfl⟩:=h;exact .inr ⟨_,rfl⟩
 case dX sz b zs x y=>
  split at h
  ·split at h
   ·split at h
    ·simp only [At,OF]at h;exact .inl h.2.symm
    ·simp only [At,OF]at h;exact .inr ⟨_,h.2.symm⟩
   ·simp at h
  ·simp at h
end
section
variable{Q:Program}{σ:Nat→FuncId}{X:Wd}
theorem FK(d:SR Q σ X)(l:X.B≤X.w.heap.size){n:Nat}{cs:List C}{fl:Nat}(s:X.H[n]?=aa (.box cs fl))(u:X.cB n=ab){us:List Value}(h:A2 (CR σ X) cs us)(e:TypeId) :
  ∃ X',X'.w=X.w.alloc (.cells us.toArray e)∧X'.H=X.H∧SR Q σ X'∧Ext X.H.length X X'∧X'.cB n=aa ⟨X.w.heap.size,0⟩∧X'.B≤X'.w.heap.size∧∀ b,b≠n→X'.cB b=X.cB b:=by
 obtain⟨g,j⟩:=SR.fill d l s u (ed.alloc X.w (.cells us.toArray e)) 0 (fun v=>⟨us,jH (ed.alloc _ _),A2.ext' σ v h,fun i _ q=>by
  have:=d.fb _ _ q;simp at this⟩)
 exact⟨{ X with cB:=fun b=>if b=n then aa ⟨X.w.heap.size,0⟩else X.cB b,w:=X.w.alloc (.cells us.toArray e) },rfl,rfl,g,j,by simp,by simp;omega,fun b m=>by simp [m]⟩
def Dq(Q:Program)(σ:Nat→FuncId)(X:Wd)(n:Nat)(v:V)(s:Sem Next)(e:Prop):Prop:=
 ∃ X' u,s.run Q X.w=.ok (.value u) X'.w∧fe Q σ X v X.H X' u∧(∀ b,b≠n→X'.cB b=X.cB b)∧(e→X'.cB=X.cB)
theorem BD(y:SR Q σ X)(x:X.B≤X.w.heap.size){n:Nat}{cs:List C}{fl:Nat}(g:X.H[n]?=aa (.box cs fl))(A:X.cB n=ab){us:List Value}(h:A2 (CR σ X) cs us)(e:TypeId){s:Sem Next}{b:Prop}(z:¬ b)
  (B:s.run Q X.w=.ok (.value (.pointer (aa ⟨X.w.heap.size,0,ab⟩))) (X.w.alloc (.cells us.toArray e))):Dq Q σ X n (.c (.ptr n 0 0)) s b:=by
 obtain⟨X',j,d,l,m,q,u,v⟩:=FK y x g A h e;refine⟨X',_,by rw [j];exact B,⟨d,l,?_,m,u⟩,v,fun h=>absurd h z⟩;exact⟨_,q,by rw [d,g]⟩
theorem FM(A:SR Q σ X)(z:X.B≤X.w.heap.size){n:Nat}{cs:List C}{fl:Nat}(j:X.H[n]?=aa (.box cs fl))(E:X.cB n=ab){us:List Value}(h:A2 (CR σ X) cs us)(e:TypeId){s:Sem Next}{l c sz:Nat}(b:l≤c){d:Prop}(B:¬ d)
  (F:s.run Q X.w=.ok (.value (.slice (aa ⟨X.w.heap.size,0,ab⟩) l c)) (X.w.alloc (.cells us.toArray e))):Dq Q σ X n (.c (.sl n 0 l c 0 sz)) s d:=by
 obtain⟨X',m,g,q,u,v,x,y⟩:=FK A z j E h e;refine⟨X',_,by rw [m];exact F,⟨g,q,?_,u,x⟩,y,fun h=>absurd h B⟩;simp only [VR,ic,CR,fq,g,j];exact⟨_,v,b,rfl⟩
theorem qO{H b:aj}{cs:List C}(h:dk (H++[.box cs 0]) b):∃ fl,b[H.length]?=aa (.box cs fl):=by
 obtain⟨blk',g,d⟩:=h H.length (.box cs 0) (by simp);cases blk'<;>simp only [du,reduceCtorEq]at d;obtain⟨rfl,_⟩:=d;exact⟨_,g⟩
theorem CJ{w':World}{o:Obj}(g:SR Q σ X)(d:ed X.w w' o)(q:X.B≤X.w.heap.size):∃ X':Wd,X'.w=w'∧X'.H=X.H∧SR Q σ X'∧Ext X.H.length X X'∧X'.B≤X'.w.heap.size∧X'.cB=X.cB:=by
 have j:Ext X.H.length X { X with w:=w' }:=Ext.one g X.H.length rfl (fun _ _=>Iff.rfl) (fun k m _=>d.Db m)
  (fun L i h=>by rw [SR.sO g]at h;simp at h) (fun h=>absurd h (aw2 _)) (fun _ _ _=>rfl) (fun _ _=>rfl) (fun L h=>.inl ⟨L,h,rfl⟩) (by show _≤w'.heap.size;rw [d.size];omega) d.os d.tape d.output
 refine⟨{ X with w:=w' },rfl,rfl,SR.step Q σ g j X.H.length (fun _ _=>rfl) (fun _ _=>rfl) (fun b L _ l=>d.Db (g.br b L l).2.1)
  (fun _ _ _ _ _ h=>h) (fun L h=>by change X.cB X.H.length=aa L at h;rw [SR.sO g]at h;simp at h) (fun c i h=>?_),j,?_,rfl⟩
 ·have:=g.fb c i h;show c<w'.heap.size;rw [d.size];omega
 ·show X.B≤w'.heap.size;rw [d.size];omega
theorem akm(M:SR Q σ X)(L:X.B≤X.w.heap.size){a:Act}{aD:T}(hR:RR σ X aD a.tmps){o:Oper}{op:cW}(hc:cls op=.a)(d:dU Q σ o op=ae){H H1:aj}{v:V}(h:bq aD H op=aa (v,H1))
  (hH:dk H1 X.H) (W:H1.length≠H.length→X.cB H.length=ab):Dq Q σ X H.length v (execOp a.eval o) (H1.length=H.length):=by
 cases op<;>first | (simp only [cls,reduceCtorEq]at hc;done) | skip
 case call f xs h'=>simp [bq]at h
 case alloc zs=>
  simp only [bq,At,OF]at h;obtain⟨rfl,rfl⟩:=h;obtain⟨fl,F⟩:=qO hH;simp only [dU]at d;split at d
  ·rename_i t B;obtain⟨z,us,h1,K,h3,_⟩:=eT (σ:=σ) (X:=X) d X.w;refine BD M L F (W (by simp)) h3 t (by simp) ?_;simp only [execOp,B];refine en ?_;simp [Instr.alloc,h1,newVar,newRow,K]
  ·simp at d
 case jQ=>
  simp only [bq,At,OF]at h;obtain⟨rfl,rfl⟩:=h;have F:X.H[H.length]?=aa (.map []):=by
   obtain⟨blk',hb,hl⟩:=hH H.length (.map []) (by simp);cases blk'<;>simp only [du,reduceCtorEq,bw.map.injEq]at hl;subst hl;exact hb
  simp only [dU]at d;split at d
  ·rename_i t B;have W:=W (by simp);obtain⟨h1,K⟩:=SR.fill M L F W (ed.alloc X.w (.map #[] 0)) 0 (fun hx=>⟨[],(ed.alloc _ _).new,A2.nil,by simp⟩);refine⟨{ X with cB:=fun b=>if b=H.length then aa ⟨X.w.heap.size,0⟩else X.cB b,w:=X.w.alloc (.map #[] 0) },.map (aa X.w.heap.size),?_,⟨rfl,h1,⟨⟨X.w.heap.size,0⟩,by simp,⟨[],F⟩,rfl⟩,K,by show X.B≤_;simp;omega⟩,fun b hb=>by simp [hb],fun h=>by simp at h⟩;simp [execOp,B,Instr.makeMap]
  ·simp at d
 case box x=>
  simp only [bq]at h;split at h
  ·rename_i xs i5;simp only [At,OF]at h;obtain⟨rfl,rfl⟩:=h;obtain⟨fl,F⟩:=qO hH;simp only [dU]at d;split at d
   ·rename_i t y B;obtain⟨us,K,h3⟩:=qp (bU hR d) i5;refine BD M L F (W (by simp)) h3 t (by simp) ?_;simp only [execOp,B];refine en ?_;simp [Instr.box,newVar,newRow,K]
   ·simp at d
  ·simp at h
 case bK sz zs n ps=>
  simp only [dU]at d;split at d
  ·rename_i t n' qs B;simp only [If,beq_iff_eq,decide_eq_true_eq]at d;obtain⟨⟨⟨⟨rfl,s⟩,E⟩,i_⟩,hq⟩:=d;obtain⟨e,hu,E⟩:=iE E;simp only [If,decide_eq_true_eq]at E;obtain⟨⟨j,hz⟩,i7⟩:=E;obtain⟨z,us,Y,Z,A,_⟩:=eT (σ:=σ) (X:=X) hz X.w;have I:us.length=sz:=by have:=A.len;simp at this;omega
   simp only [bq]at h;split at h
   ·rename_i F;subst F;split at h
    ·rename_i c_;simp only [At,OF]at h;obtain⟨rfl,rfl⟩:=h;have U:qs.toList=[]:=by
      have:=(eI hq).len;simp only [List.isEmpty_iff]at c_;rw [c_]at this;exact avm this.symm
     have U:qs=#[]:=by apply Array.ext';simpa using U
     obtain⟨X',h1,K,h3,h4,h5,h6⟩:=CJ M (ed.alloc X.w (.cells #[] e)) L;refine⟨X',.slice (aa ⟨X.w.heap.size,0,ab⟩) 0 0,?_,⟨K,h3,cS.es _,h4,h5⟩,fun b _=>by rw [h6],fun _=>h6⟩;rw [h1];simp only [execOp,B];refine en ?_;simp [Instr.buildSlice,bc hu,di j,U,Instr.fill,newRow,show Array.range 0=(#[]:Array Nat) from rfl]
    ·simp at h
   ·rename_i F;simp only [IT,OF]at h;obtain⟨cs,f_,rfl,rfl⟩:=h;obtain⟨fl,O⟩:=qO hH;obtain⟨j9,h5,h6⟩:=nR (place:=fun i=>aa (i*sz,sz)) (ps:=qs.toList) hR (qs:=ps.map fun p=>(p.1*sz,sz,p.2)) (A2.map ((eI hq).lJ fun q p S=>by
     simp only [If,beq_iff_eq]at S;exact⟨by rw [S.1],S.2⟩)) (jW A n') f_
    refine FM M L O (W (by simp)) h6 e (aft _) (by simp) ?_;simp only [execOp,B];refine en ?_;have g_:n'*sz≠0:=by
     intro h0;rcases aw5.1 h0 with h0 | h0<;>omega
    have f7:=iS us n' (by omega);rw [I]at f7;simp only [Instr.buildSlice,Sem.run_bind,bc hu,di j,Result.andThen_ok,aY (show¬ n'*sz>2 ^ 24 by omega),Sem.run_ite,aY g_,Y,Sem.run_pure,Z];simp only [Array.toList_map];rw [f7];simp [h5,newRow]
  ·simp at d
 case dX sz bytes zs x y=>
  simp only [dU]at d;split at d
  ·rename_i t x' y' B;simp only [If,decide_eq_true_eq]at d;obtain⟨⟨⟨hx,hy⟩,E⟩,i9⟩:=d;have hx:=bU hR hx;have hy:=bU hR hy;obtain⟨e,hu,E⟩:=iE E;simp only [If]at E;obtain⟨⟨j,f8⟩,hz⟩:=E;obtain⟨z,us,Y,Z,A,j8,j5,j6⟩:=eT (σ:=σ) (X:=X) hz X.w;obtain⟨j4,a8,a_⟩:=Am f8 X.w;simp only [bq]at h;split at h
   ·rename_i l c hl hc;obtain⟨kl,i4⟩:=js hx hl;obtain⟨kc,i6⟩:=js hy hc;split at h
    ·rename_i N;obtain⟨h0,j7,u,i7⟩:=N;unfold bV at u;simp only [If,decide_eq_true_eq]at u;have I:us.length=sz:=by have:=A.len;simp at this;omega
     have e_:=wrap_small (n:=l) h0 (by omega);have d_:=wrap_small (n:=c) (by omega) (by omega);have i8:c.toNat*bytes≤2 ^ 48:=by
      have:c.toNat*bytes≤(2*c.toNat+768)*bytes:=avX _ (by omega);omega
     have s:¬ ((bytes:Int)*c>2 ^ 48):=by
      have e1:(bytes:Int)*c=((c.toNat*bytes:Nat):Int):=by
       rw [awT,awM];congr 1;omega
      rw [e1];omega
     have d9:((Array.range (c.toNat*sz)).map fun i=>us.toArray[i % us.toArray.size]!)=(cF c.toNat us).toArray:=by
      have:=iS us c.toNat (by omega);rwa [I]at this
     have run:(execOp a.eval o).run Q X.w=.ok (.value (.slice (aa ⟨X.w.heap.size,0,ab⟩) l.toNat c.toNat)) (X.w.alloc (.cells (cF c.toNat us).toArray e)):=by
      simp only [execOp,B];refine en ?_;rw [i4,i6];have b9:¬ c<0:=by omega
      have b_:¬ l<0:=by omega
      have J:¬ l>c:=by omega
      by_cases m:c.toNat*sz=0
      ·have h_:cF c.toNat us=[]:=avm (by rw [lD,I];exact m);have g:((decide (c<0)||decide ((bytes:Int)*c>2 ^ 48))||decide (l<0)||decide (l>c))=ag:=by rw [decide_eq_false b9,decide_eq_false b_,decide_eq_false J,decide_eq_false s];rfl
       simp only [Instr.makeSlice,Sem.run_bind,bc hu,asInt,asIntOf,Sem.run_pure,Result.andThen_ok,a8,a_,e_,d_,run_askRoom,di j];simp only [g,avk,if_false,Sem.run_ite,bf m,Sem.run_bind,Result.andThen_ok,Sem.run_pure,run_askRoom,di j,newRow,run_newObj];rw [m,h_,show(Array.map (fun x=>(#[]:Array Value)[x % (#[]:Array Value).size]!) (Array.range 0))=#[] from by simp [show Array.range 0=(#[]:Array Nat) from rfl]];rfl
      ·simp only [Instr.makeSlice,Sem.run_bind,bc hu,asInt,asIntOf,Sem.run_pure,Result.andThen_ok,a8,a_,e_,d_,run_askRoom,di j];have g:((decide (c<0)||decide ((bytes:Int)*c>2 ^ 48))||decide (l<0)||decide (l>c))=ag:=by rw [decide_eq_false b9,decide_eq_false b_,decide_eq_false J,decide_eq_false s];rfl
       simp only [g,avk,if_false,Sem.run_ite,aY m,Sem.run_bind,Y,Z,Result.andThen_ok,Sem.run_pure,run_askRoom,di j,d9,newRow,run_newObj];rfl
     split at h
     ·rename_i m;subst m;simp only [At,OF]at h;obtain⟨rfl,rfl⟩:=h;have:l=0:=by omega
      subst this;obtain⟨X',g1,g2,g3,g4,g5,g6⟩:=CJ M (ed.alloc X.w (.cells (cF (0:Int).toNat us).toArray e)) L;exact⟨X',_,by rw [g1];exact run,⟨g2,g3,cS.es _,g4,g5⟩,fun b _=>by rw [g6],fun _=>g6⟩
     ·simp only [At,OF]at h;obtain⟨rfl,rfl⟩:=h;obtain⟨fl,O⟩:=qO hH;exact FM M L O (W (by simp)) (jW A c.toNat) e (by omega) (by simp) run
    ·simp at h
   ·simp at h
  ·simp at d
end
theorem Ec{acc:List Nat}{o:Oper}{i:Nat}:(nj acc o).testBit i=ae↔∃ e ∈ o.after.toList,Region.binds .any e=ae∧(e.on=i∨(acc.getD e.on 0).testBit i=ae):=by
 unfold nj;have key:∀(l:List Edge) (s:Nat),(l.foldl (fun s e=>if Region.binds .any e then s ||| 2 ^ e.on ||| acc.getD e.on 0 else s) s).testBit i=ae ↔
   s.testBit i=ae∨∃ e ∈ l,Region.binds .any e=ae∧(e.on=i∨(acc.getD e.on 0).testBit i=ae):=by
  intro l;induction l with
  | nil=>intro s;simp
  | cons e l d=>
   intro s;simp only [awA,d,avn,exists_eq_or_imp];by_cases b:Region.binds .any e=ae
   ·simp only [b,if_true,Nat.testBit_or,Bool.or_eq_true,Nat.testBit_two_pow,decide_eq_true_eq,true_and,or_assoc]
   ·simp [b]
 rw [key];simp
theorem yF:∀(os:List Oper) (acc:List Nat),(dD os acc).length=acc.length+os.length
 | [],acc=>by simp [dD]
 | o::os,acc=>by rw [dD,yF];simp;omega
theorem sJ:∀(os:List Oper) (acc:List Nat) (k:Nat),k<acc.length→(dD os acc)[k]?=acc[k]?
 | [],acc,k,_=>rfl
 | o::os,acc,k,h=>by
  rw [dD,sJ os _ k (by simp;omega),AT h]
theorem yG:∀(os:List Oper) (acc:List Nat) (t:Nat) (o:Oper),os[t]?=aa o→(dD os acc)[acc.length+t]?=aa (nj ((dD os acc).take (acc.length+t)) o)
 | [],acc,t,o,h=>by simp at h
 | o'::os,acc,0,o,h=>by
  simp only [awC,At]at h;subst h;have d:∀ k,k<acc.length→(dD os (acc++[nj acc o']))[k]?=acc[k]?:=fun k g=>by rw [sJ os _ k (by simp;omega),AT g]
  have b:(dD os (acc++[nj acc o'])).take acc.length=acc:=by
   apply awz;intro k;rw [avI];split
   ·rename_i g;exact d k g
   ·rename_i g;rw [awk (by omega)]
  rw [dD,awL,b,sJ os _ _ (by simp)];simp
 | o'::os,acc,t+1,o,h=>by
  simp only [awS]at h;have:=yG os (acc++[nj acc o']) t o h;rw [dD];rw [show acc.length+(t+1)=(acc++[nj acc o']).length+t by simp;omega];exact this
theorem Fq{ops:List Oper}{i j:Nat}{o:Oper}(l:ops[j]?=aa o) :
  AA (dD ops []) i j=ae↔∃ e ∈ o.after.toList,Region.binds .any e=ae∧(e.on=i∨(e.on<j∧AA (dD ops []) i e.on=ae)):=by
 have h:=yG ops [] j o l;simp only [List.length_nil,avP]at h;unfold AA;rw [awI,h,Option.getD_some,Ec];have g:∀ k,((dD ops []).take j).getD k 0=if k<j then(dD ops []).getD k 0 else 0:=by
  intro k;simp only [awI,avI];split<;>simp
 constructor
 ·rintro⟨e,d,b,h⟩;refine⟨e,d,b,h.imp id fun h=>?_⟩;rw [g]at h;split at h
  ·rename_i m;exact⟨m,h⟩
  ·simp at h
 ·rintro⟨e,d,b,h⟩;refine⟨e,d,b,h.imp id fun h=>?_⟩;rw [g,bf h.1];exact h.2
def rW(ops:List Oper)(D:Nat→Prop):Prop:=∀ j o,D j→ops[j]?=aa o→∀ e ∈ o.after.toList,Region.binds .any e=ae→D e.on
theorem rW.below{ops:List Oper}{D:Nat→Prop}(h:rW ops D){i:Nat}:∀(j:Nat),D j→AA (dD ops []) i j=ae→D i:=by
 intro j;induction j using Nat.strongRecOn with
 | ind j m=>
  intro l b;cases ho:ops[j]? with
  | none=>
   exfalso;unfold Km.AA at b;have:(dD ops []).length≤j:=by rw [yF];simpa using List.getElem?_eq_none_iff.1 ho
   rw [awI,awk this]at b;simp at b
  | some o=>
   obtain⟨e,g,d,h1 | ⟨h1,h2⟩⟩:=(Fq ho).1 b
   ·exact h1▸h j o l ho e g d
   ·exact m e.on h1 (h j o l ho e g d) h2
theorem rW.ready{ops:List Oper}{D:Nat→Prop}(h:rW ops D){i j:Nat}{o:Oper}(ho:ops[j]?=aa o)(hr:∀ e ∈ o.after.toList,Region.binds .any e=ae→D e.on)(g:AA (dD ops []) i j=ae):D i:=by
 obtain⟨e,d,b,h1 | ⟨h1,h2⟩⟩:=(Fq ho).1 g
 ·exact h1▸hr e d b
 ·exact h.below e.on (hr e d b) h2
def F4(aos:List aS)(j:Nat):Prop:=∃ y,aos[j]?=aa y∧cls y.op=.w
theorem nk{aos:List aS}{j:Nat}:j ∈ my aos↔F4 aos j:=by
 unfold my F4;rw [List.mem_filter,List.mem_range];constructor
 ·rintro⟨_,h⟩;split at h
  ·rename_i y b;exact⟨y,b,by simpa using h⟩
  ·simp at h
 ·rintro⟨y,b,d⟩;exact⟨(BY.1 b).1,by simp [b,d]⟩
theorem nF{g:Type}(p:g→Bool):∀(l:List g),(∀ k,k<(l.takeWhile p).length→∃ y,l[k]?=aa y∧p y=ae)∧((l.takeWhile p).length=l.length∨∃ y,l[(l.takeWhile p).length]?=aa y∧p y=ag)
 | []=>by simp
 | x::l=>by
  by_cases d:p x=ae
  ·rw [List.takeWhile_cons_of_pos d];obtain⟨j,b⟩:=nF p l;refine⟨fun k m=>?_,?_⟩
   ·cases k with
    | zero=>exact⟨x,rfl,d⟩| succ k=>exact j k (by simpa using m)
   ·rcases b with b | b
    ·exact .inl (by simp [b])
    ·exact .inr (by simpa using b)
  ·rw [List.takeWhile_cons_of_neg d];exact⟨by simp,.inr ⟨x,rfl,by simpa using d⟩⟩
theorem pS{aos:List aS}{i:Nat}(hi:i≤aos.length):i≤phase aos i∧phase aos i≤aos.length∧(phase aos i=aos.length∨F4 aos (phase aos i))∧∀ j,i≤j→j<phase aos i→¬ F4 aos j:=by
 unfold phase;obtain⟨s,g⟩:=nF (fun y:aS=>decide (cls y.op≠.w)) (aos.drop i);have q:((aos.drop i).takeWhile fun y=>decide (cls y.op≠.w)).length≤(aos.drop i).length:=by
  rcases avT (aos.drop i).length ((aos.drop i).takeWhile fun y=>decide (cls y.op≠.w)).length with h | h
  ·obtain⟨y,b,_⟩:=s _ h;have:=(BY.1 b).1;omega
  ·exact h
 simp only [avp]at q g;refine⟨by omega,by omega,?_,fun j v u=>?_⟩
 ·rcases g with g | ⟨y,b,l⟩
  ·exact .inl (by omega)
  ·rw [avt]at b;exact .inr ⟨y,b,by simpa using l⟩
 ·obtain⟨y,b,l⟩:=s (j-i) (by omega);rw [avt,show i+(j-i)=j by omega]at b;rintro⟨x,d,m⟩;rw [b]at d;cases d;simp [m]at l
structure Ord(ops:List Oper)(aos:List aS)(iD:List (Nat × Nat)):Prop where
 back:∀ j o,j<aos.length→ops[j]?=aa o→∀ e ∈ o.after.toList,Region.binds .any e=ae→e.on<j
 two:∀ i j x y,i<j→aos[i]?=aa x→aos[j]?=aa y→AA (dD ops []) i j=ae∨(x.apart y=ae∧(uQ x y=ae∨(j=kS (dD ops []) aos∧cls x.op=.w)))
 ear:∀ y,aos[kS (dD ops []) aos]?=aa y→(∃ zs,y.op=.alloc zs)∧y.g=ab∧∃ p,y.dst=aa p∧∀ i z,aos[i]?=aa z→p ∈ z.rd→∀ e,F4 aos e→e<kS (dD ops []) aos→AA (dD ops []) e i=ae
 rd:∀ i x e,aos[i]?=aa x→cls x.op=.r→F4 aos e∨e=aos.length→B4 (dD ops []) aos i e=ae→e=phase aos i∨(i,e) ∈ iD
theorem Q2{ops:List Oper}{aos:List aS}{iD:List (Nat × Nat)}(h:adX ops aos iD=ae):Ord ops aos iD:=by
 simp only [adX,If]at h;obtain⟨⟨⟨A,B⟩,g⟩,E⟩:=h;refine⟨fun j o L N e b J=>?_,fun i j x y s m q=>?_,fun y q=>?_,fun i x e m K b M=>?_⟩
 ·rw [avz]at A;have d:(o,j) ∈ ops.zip (List.range aos.length):=by
   refine List.mem_of_getElem? (i:=j) ?_;rw [List.getElem?_zip_eq_some];exact⟨N,by simp [L]⟩
  have:=A _ d;rw [avz]at this;simpa [J]using this e b
 ·rw [avz]at B;have:=B j (by simpa using (BY.1 q).1);rw [avz]at this;have:=this i (by simpa using s);rw [m,q]at this;simpa using this
 ·unfold FF at g;rw [q]at g;simp only [If,Option.isNone_iff_eq_none]at g;obtain⟨⟨I,F⟩,l⟩:=g;refine⟨?_,I,?_⟩
  ·split at F
   ·exact⟨_,by assumption⟩
   ·simp at F
  ·split at l
   ·rename_i p O;refine⟨p,O,fun i z H v e b u=>?_⟩;rw [avz]at l;have:=l i (by simpa using (BY.1 H).1);rw [H]at this;simp only [Bool.or_eq_true,Bool.not_eq_true',List.contains_eq_mem,decide_eq_false_iff_not,avz]at this;rcases this with h | h
    ·exact absurd v h
    ·have:=h e (nk.2 b);simpa [u]using this
   ·simp at l
 ·rw [avz]at E;have:=E i (by simpa using (BY.1 m).1);rw [m]at this;simp only [K,if_true]at this;rw [avz]at this;have:=this e (by
   rw [avq];rcases b with b | b
   ·exact .inl (nk.2 b)
   ·exact .inr (by simp [b]))
  simpa [M]using this
section
variable{Q:Program}{σ:Nat→FuncId}{X:Wd}{call:cR}
theorem Ext.len{X X':Wd}(h:Ext X.H.length X X'):X.H.length≤X'.H.length:=by
 rcases avT X'.H.length X.H.length with b | g
 ·obtain⟨blk',d,_⟩:=h.cO X'.H.length b _ (By b);have:=(BY.1 d).1;omega
 ·exact g
theorem zh{s s':St}{op:cW}{v:V}(h:eU call s op=aa (v,s')):s'.aD=s.aD:=by
 have:=GP (r':=s.aD) (fun _ _=>rfl) h;rw [show({ s with aD:=s.aD }:St)=s from rfl,h]at this;simp only [At,OF,true_and]at this;rw [this]
theorem EX{s s':St}{y:aS}(h:fL call s y=aa s'):∃ v,s'.aD=jS s.aD y.dst v:=by
 unfold fL at h;split at h
 ·split at h
  ·rename_i v d b;cases h;exact⟨v,by rw [zh b]⟩
  ·simp at h
 ·cases h;exact⟨_,rfl⟩
 ·simp at h
theorem vT{aD:T}{d:Option P}{v:V}{p:P}:(jS aD d v).get p=if d=aa p then v else aD.get p:=by
 cases d with
 | none=>simp [jS]| some q=>simp only [jS,T.qB,At]
theorem pY{s s':St}{y:aS}(g:cls y.op≠.w)(h:fL call s y=aa s'):dk s.heap s'.heap∧s'.defs=s.defs:=by
 unfold fL at h;split at h
 ·split at h
  ·rename_i v u b;cases h;by_cases j:(∃ f xs h,y.op=.call f xs h)∨(∃ x xs h,y.op=.cj x xs h)∨y.op=.recover∨∃ x xs,y.op=.defer x xs
   ·rcases j with⟨f,xs,m,e⟩ | ⟨x,xs,m,e⟩ | e | ⟨x,xs,e⟩
    ·rw [e]at b g;cases m
     ·simp only [eU,gT,avk,if_false,IT,OF]at b;obtain⟨⟨z,H'⟩,b,rfl,rfl⟩:=b;refine⟨?_,rfl⟩;unfold ez at b;split at b
      ·simp at b
      ·split at b
       ·simp at b
       ·split at b
        ·simp at b
        ·simp only [At,OF]at b;show dk s.heap H';rw [←b.2];exact(nV _ _ _).ext
     ·exact absurd rfl g
    ·rw [e]at g;exact absurd rfl g
    ·rw [e]at g;exact absurd rfl g
    ·rw [e]at g;exact absurd rfl g
   ·have q:(bq s.aD s.heap y.op).map (fun r=>(r.1,{ s with heap:=r.2 }))=aa (v,u):=by
     generalize y.op=op at b j;cases op<;>first | exact b | (exfalso;apply j;simp)
    simp only [IT,OF]at q;obtain⟨⟨z,H'⟩,l,rfl,rfl⟩:=q;clear b;have b:=l;clear l;refine⟨?_,rfl⟩;show dk s.heap H';cases d:cls y.op with
    | p=>
     have:=ams (r:=s.aD) d s.heap s.heap;rw [b]at this;simp only [avY,At,OF]at this;rw [this.2];exact dk.refl _
    | r=>rw [(GQ d (dk.refl _) b).1];exact dk.refl _
    | a=>
     rcases asW d b with e | ⟨cs,e⟩
     ·rw [e];exact dk.refl _
     ·rw [e];exact dk.append _ _
    | c=>
     generalize y.op=op at b d;cases op<;>first | (simp only [cls,reduceCtorEq]at d;done) | (simp [bq]at b;done)
    | w=>exact absurd d g
  ·simp at h
 ·cases h;exact⟨dk.refl _,rfl⟩
 ·simp at h
def iy(aD:T)(ps:List P):T:=ps.foldl (fun t p=>t.set p (aD.get p)) .e
theorem vV(aD:T)(ps:List P)(p:P):(iy aD ps).get p=if p ∈ ps then aD.get p else .top:=by
 have key:∀(ps:List P) (t:T),(ps.foldl (fun t p=>t.set p (aD.get p)) t).get p=if p ∈ ps then aD.get p else t.get p:=by
  intro ps;induction ps with
  | nil=>intro t;simp
  | cons q ps g=>
   intro t;simp only [awA,g,T.qB,avn];by_cases b:p ∈ ps
   ·simp [b]
   ·by_cases d:q=p
    ·subst d;simp [b]
    ·have:¬ p=q:=fun e=>d e.symm;simp [b,d,this]
 have:=key ps .e;unfold iy;rw [this];rfl
structure ke(Q:Program)(σ:Nat→FuncId)(call:cR)(n:Nat)(ops:Array Oper)(aos:List aS)(iD:List (Nat × Nat))(st:Nat→St):Prop where
 apl:ft (lk Q σ n ops) ops.toList aos=ae
 ord:Ord ops.toList aos iD
 step:∀ i y,aos[i]?=aa y→fL call (st i) y=aa (st (i+1))
 at2:∀ i e y,(i,e) ∈ iD→aos[i]?=aa y→wanted (st i).aD y.g=aa ae→∃ v H1 H2,bq (st i).aD (st i).heap y.op=aa (v,H1)∧bq (st i).aD (st e).heap y.op=aa (v,H2)
structure kI(σ:Nat→FuncId)(X:Wd)(c:Nat)(zs:List FC):Prop where
 bp:∃ us t,X.w.heap[c]?=aa (.cells us.toArray t (0,0))∧A2 (CR σ X) (zs.map .f) us
 b:X.B≤c
 yz:∀ b L,X.cB b=aa L→L.c≠c
 f:∀ i,¬ X.F c i
theorem kI.lt{c:Nat}{zs:List FC}(h:kI σ X c zs):c<X.w.heap.size:=by
 obtain⟨us,t,h1,_⟩:=h.bp;exact(Array.getElem?_eq_some_iff.1 h1).1
theorem kI.ext{X X':Wd}(d:Ext X.H.length X X'){c:Nat}{zs:List FC}(h:kI σ X c zs):kI σ X' c zs:=by
 have j:=h.lt;obtain⟨us,t,h1,h2⟩:=h.bp;refine⟨⟨us,t,by rw [d.frame c j h.yz];exact h1,A2.ext' σ d h2⟩,by rw [d.B];exact h.b,fun b L m=>?_,fun i hi=>?_⟩
 ·rcases d.yz b L m with⟨b0,l,g1,g2⟩ | g1
  ·rw [←g2];exact h.yz b0 l g1
  ·omega
 ·rcases d.qe c i hi with g | g | ⟨b,L,g1,g2⟩
  ·exact h.f i g
  ·omega
  ·exact h.yz b L g1 g2
theorem SR.assign(s:SR Q σ X){n c:Nat}{zs:List FC}{fl:Nat}(j:kI σ X c zs)(x:X.H[n]?=aa (.box (zs.map .f) fl))(hr:X.cB n=ab) :
  SR Q σ { X with cB:=fun b=>if b=n then aa ⟨c,0⟩else X.cB b }∧qd X.H.length X { X with cB:=fun b=>if b=n then aa ⟨c,0⟩else X.cB b }∧VR σ { X with cB:=fun b=>if b=n then aa ⟨c,0⟩else X.cB b } (.c (.ptr n 0 0)) (.pointer (aa ⟨c,0,ab⟩)):=by
 have u:qd X.H.length X { X with cB:=fun b=>if b=n then aa ⟨c,0⟩else X.cB b }:=by
  refine⟨fun _ _ h=>h,fun _ _ _=>rfl,fun b _ bp g=>⟨bp,g,?_⟩⟩;have:∀ L,X.cB b=aa L→(if b=n then aa (⟨c,0⟩:Loc)else X.cB b)=aa L:=fun L q=>by
   by_cases e:b=n
   ·subst e;rw [hr]at q;simp at q
   ·rw [aY e];exact q
  cases bp<;>simp only [true_and,and_self]<;>first | exact this | (exact .inl ⟨trivial,trivial,this⟩) | (exact⟨rfl,.inl ⟨rfl,rfl,this⟩⟩) | (exact .inl this) | simpa using this
 obtain⟨us,t,h1,h2⟩:=j.bp;refine⟨⟨fun b L g=>?_,fun b m L v g d hc=>?_,s.fb⟩,u,⟨⟨c,0⟩,by simp,by rw [x]⟩⟩
 ·by_cases e:b=n
  ·subst e;simp only [if_true,At]at g;subst g;exact⟨j.b,j.lt,_,x,us,⟨t,(0,0),h1,fun i _=>by simp⟩,A2.eg σ u h2,fun i _=>j.f i⟩
  ·simp only [e,if_false]at g;obtain⟨g1,g2,bp,g3,g4⟩:=s.br b L g;exact⟨g1,g2,bp,g3,BR.qy Q σ u rfl (fun _ h=>h) g4⟩
 ·simp only at g d;by_cases e:b=n<;>by_cases l:m=n
  ·rw [e,l]
  ·rw [bf e]at g;rw [aY l]at d;cases g;exact absurd hc.symm (j.yz m v d)
  ·rw [aY e]at g;rw [bf l]at d;cases d;exact absurd hc (j.yz b L g)
  ·rw [aY e]at g;rw [aY l]at d;exact s.inj b m L v g d hc
abbrev eJ(ops:Array Oper)(aos:List aS):Nat:=kS (dD ops.toList []) aos
def atV(σ:Nat→FuncId)(X0:Wd)(ops:Array Oper)(aos:List aS)(E:Nat)(X:Wd)(a:Act)(p:P)(K:Nat):Prop:=
 ∃ y zs c,K=eJ ops aos+1∧E≤eJ ops aos∧aos[eJ ops aos]?=aa y∧y.dst=aa p∧y.op=.alloc zs∧a.tmps.getD p.toNat undef=.pointer (aa ⟨c,0,ab⟩)∧X0.w.heap.size≤c∧kI σ X c zs
structure Inv(Q:Program)(σ:Nat→FuncId)(X0:Wd)(n:Nat)(ops:Array Oper)(aos:List aS)(st:Nat→St)(D:Nat→Prop)(E:Nat)(X:Wd)(a:Act):Prop where
 closed:rW ops.toList D
 dlt:∀ j,D j→j<aos.length
 eN:E≤aos.length
 eW:E=aos.length∨F4 aos E
 eD:¬ D E
 wD:∀ j,F4 aos j→j<E→D j
 heap:X.H=(st E).heap
 ext:Ext X0.H.length X0 X
 sr:SR Q σ X
 b:X.B≤X.w.heap.size
 defs:fS σ X (st E).defs a.defers
 size:n≤a.tmps.size
 aez:∀ p,∃ K,K≤aos.length∧(VR σ X ((st K).aD.get p) (a.tmps.getD p.toNat undef)∨atV σ X0 ops aos E X a p K)∧∀ j y,aos[j]?=aa y→y.dst=aa p→(j<K↔D j)
 yv:∀ j y,j<E→¬ D j→aos[j]?=aa y→cls y.op=.a→(st (j+1)).heap.length≠(st j).heap.length→X.cB (st j).heap.length=ab
section
variable{n:Nat}{ops:Array Oper}{aos:List aS}{iD:List (Nat × Nat)}{st:Nat→St}
theorem ke.ml(R:ke Q σ call n ops aos iD st){p:P}{lo:Nat}:∀(hi:Nat),lo≤hi→hi≤aos.length→(∀ j y,lo≤j→j<hi→aos[j]?=aa y→y.dst≠aa p)→(st lo).aD.get p=(st hi).aD.get p
 | 0,h,_,_=>by rw [Nat.le_zero.1 h]
 | hi+1,h,g,b=>by
  rcases avT hi lo with h1 | h1
  ·rw [show lo=hi+1 by omega]
  ·rw [ke.ml R hi h1 (by omega) fun j y h2 h3=>b j y h2 (by omega)];have hy:=By (show hi<aos.length by omega);obtain⟨v,d⟩:=EX (R.step hi _ hy);rw [d,vT,aY (b hi _ h1 (by omega) hy)]
theorem ke.dh(R:ke Q σ call n ops aos iD st){lo:Nat}:∀(hi:Nat),lo≤hi→hi≤aos.length→(∀ j,lo≤j→j<hi→¬ F4 aos j)→dk (st lo).heap (st hi).heap∧(st hi).defs=(st lo).defs
 | 0,h,_,_=>by rw [Nat.le_zero.1 h];exact⟨dk.refl _,rfl⟩
 | hi+1,h,l,b=>by
  rcases avT hi lo with h1 | h1
  ·rw [show lo=hi+1 by omega];exact⟨dk.refl _,rfl⟩
  ·obtain⟨g1,g2⟩:=ke.dh R hi h1 (by omega) fun j h2 h3=>b j h2 (by omega);have hy:=By (show hi<aos.length by omega);obtain⟨d,g⟩:=pY (fun hc=>b hi h1 (by omega) ⟨_,hy,hc⟩) (R.step hi _ hy);exact⟨g1.trans d,g.trans g2⟩
theorem ke.at(R:ke Q σ call n ops aos iD st){i:Nat}{y:aS}(hy:aos[i]?=aa y):∃ o,ops[i]?=aa o∧lk Q σ n ops o y=ae:=by
 have:=eI R.apl;have hi:i<ops.toList.length:=by rw [this.len];exact(BY.1 hy).1
 have b:=By hi;refine⟨ops.toList[i],by rw [←Array.getElem?_toList];exact b,this.2 i _ _ b hy⟩
theorem ke.before(R:ke Q σ call n ops aos iD st){i j:Nat}{x y:aS}(b:i<j)(g:aos[i]?=aa x)(hy:aos[j]?=aa y)(h:x.apart y=ag∨(uQ x y=ag∧(j=eJ ops aos→cls x.op≠.w))):AA (dD ops.toList []) i j=ae:=by
 rcases R.ord.two i j x y b g hy with h1 | ⟨h1,h2⟩
 ·exact h1
 ·rcases h with h | ⟨h,d⟩
  ·rw [h1]at h;simp at h
  ·rcases h2 with h2 | ⟨h2,h3⟩
   ·rw [h2]at h;simp at h
   ·exact absurd h3 (d h2)
theorem Ext.assign{X0 g:Wd}(h:Ext X0.H.length X0 g){n c:Nat}(j:qd g.H.length g { g with cB:=fun b=>if b=n then aa ⟨c,0⟩else g.cB b })(hc:X0.w.heap.size≤c):Ext X0.H.length X0 { g with cB:=fun b=>if b=n then aa ⟨c,0⟩else g.cB b } where
 B:=h.B
 F:=h.F
 qe:=h.qe
 fw:=h.fw
 cO:=fun b d=>(h.cO b d).trans (j.cO b (avJ d h.len))
 yz:=fun b L d=>by
  simp only at d;by_cases e:b=n
  ·rw [bf e]at d;cases d;exact .inr hc
  ·rw [aY e]at d;exact h.yz b L d
 size:=h.size
 os:=h.os
 tape:=h.tape
 output:=h.output
 frame:=h.frame
theorem ke.acU(R:ke Q σ call n ops aos iD st){y:aS}(hy:aos[eJ ops aos]?=aa y):cls y.op=.a:=by
 obtain⟨⟨zs,h⟩,_⟩:=R.ord.ear y hy;rw [h];rfl
theorem acw{x y:aS}{p:P}(h:x.dst=aa p)(b:p ∈ y.rd):x.apart y=ag:=by
 simp [aS.apart,h,b]
theorem Bf{x y:aS}{p:P}(h:x.dst=aa p)(b:y.dst=aa p):x.apart y=ag:=by
 simp [aS.apart,h,b]
theorem acv{x y:aS}{p:P}(h:p ∈ x.rd)(b:y.dst=aa p):x.apart y=ag:=by
 simp [aS.apart,h,b]
structure kd(ops:Array Oper)(aos:List aS)(D:Nat→Prop)(i:Nat)(o:Oper)(y:aS):Prop where
 ho:ops[i]?=aa o
 hy:aos[i]?=aa y
 hD:¬ D i
 pre:∀ e ∈ o.after.toList,Region.binds .any e=ae→D e.on
variable{X0:Wd}{D:Nat→Prop}{E i:Nat}{a:Act}{o:Oper}{y:aS}
theorem kd.pQ(b:Inv Q σ X0 n ops aos st D E X a)(hr:kd ops aos D i o y){j:Nat}(h:AA (dD ops.toList []) j i=ae):D j:=
 b.closed.ready (by simpa using hr.ho) hr.pre h
theorem kd.qY(b:Inv Q σ X0 n ops aos st D E X a)(hr:kd ops aos D i o y){j:Nat}(h:AA (dD ops.toList []) i j=ae):¬ D j:=
 fun d=>hr.hD (b.closed.below j d h)
theorem ke.reads(R:ke Q σ call n ops aos iD st)(l:Inv Q σ X0 n ops aos st D E X a)(hr:kd ops aos D i o y){p:P}(A:p ∈ y.rd):VR σ X ((st i).aD.get p) (a.tmps.getD p.toNat undef):=by
 obtain⟨K,H,m,F⟩:=l.aez p;have hi:i<aos.length:=(BY.1 hr.hy).1;have m:VR σ X ((st K).aD.get p) (a.tmps.getD p.toNat undef):=by
  rcases m with m | ⟨z,zs,c,_,L,b,d,_⟩
  ·exact m
  ·exfalso;obtain⟨_,_,M,v,g⟩:=R.ord.ear z b;rw [d]at v;cases v;have I:=(BY.1 b).1;rcases l.eW with h4 | u
   ·omega
   ·have J:E≠eJ ops aos:=by
     intro e;obtain⟨q,B,x⟩:=u;rw [e]at B;rw [R.acU B]at x;cases x
    exact l.eD (hr.pQ l (g i y hr.hy A E u (show E<eJ ops aos by omega)))
 rcases Nat.le_total K i with h | h
 ·rw [←R.ml i h (by omega) fun j z h1 h2 b d=>?_]
  ·exact m
  ·have:=hr.pQ l (R.before h2 b hr.hy (.inl (acw d A)));have:=(F j z b d).2 this;omega
 ·rw [R.ml K h H fun j z h1 h2 b d=>?_]
  ·exact m
  ·have s:=(F j z b d).1 h2;rcases avT i j with h3 | h3
   ·exact hr.qY l (R.before h3 hr.hy b (.inl (acv A d))) s
   ·have:j=i:=by omega
    subst this;exact hr.hD s
theorem ke.fin(R:ke Q σ call n ops aos iD st)(B:Inv Q σ X0 n ops aos st D E X a)(hr:kd ops aos D i o y){l:Wd}{a1:Act}{u:Value}{v:V}{m:Nat}(hS:SR Q σ l)(hB:l.B≤l.w.heap.size)(a_:Ext X0.H.length X0 l)
  (hm:∀ v u,VR σ X v u→VR σ l v u) (a8:∀ y zs c p,E≤eJ ops aos→aos[eJ ops aos]?=aa y→y.op=.alloc zs→y.dst=aa p→D (eJ ops aos)→a.tmps.getD p.toNat undef=.pointer (aa ⟨c,0,ab⟩)→X0.w.heap.size≤c→kI σ X c zs→if m≤eJ ops aos then kI σ l c zs else VR σ l ((st (eJ ops aos+1)).aD.get p) (.pointer (aa ⟨c,0,ab⟩)))
  (hv:VR σ l v u∨(i=eJ ops aos∧m≤eJ ops aos∧∃ zs c,y.op=.alloc zs∧u=.pointer (aa ⟨c,0,ab⟩)∧X0.w.heap.size≤c∧kI σ l c zs))
  (ht:a1.tmps=(a.put o.dst u).tmps) (S:(st (i+1)).aD=jS (st i).aD y.dst v) (h1:m≤aos.length) (h2:m=aos.length∨F4 aos m) (h3:¬ (D m∨m=i)) (h4:∀ j,F4 aos j→j<m→D j∨j=i)
  (hH:l.H=(st m).heap) (hd:fS σ l (st m).defs a1.defers)
  (hh:∀ j y,j<m→¬ (D j∨j=i)→aos[j]?=aa y→cls y.op=.a→(st (j+1)).heap.length≠(st j).heap.length→l.cB (st j).heap.length=ab) :
  Inv Q σ X0 n ops aos st (fun j=>D j∨j=i) m l a1:=by
 have hi:i<aos.length:=(BY.1 hr.hy).1;obtain⟨o',O,x⟩:=R.at hr.hy;rw [hr.ho]at O;cases O;have ot:(a.put o.dst u).tmps.size=a.tmps.size:=by cases o.dst<;>simp [Act.put]
 refine⟨fun j oj N A e he hb=>?_,fun j N=>N.elim (B.dlt j) fun h=>h▸hi,h1,h2,h3,h4,hH,a_,hS,hB,hd,by rw [ht,ot];exact B.size,fun p=>?_,hh⟩
 ·rcases N with N | rfl
  ·exact .inl (B.closed j oj N A e he hb)
  ·have:oj=o:=by have:=hr.ho;simp at A;rw [this]at A;cases A;rfl
   subst this;exact .inl (hr.pre e he hb)
 ·by_cases b:y.dst=aa p
  ·have q:a1.tmps.getD p.toNat undef=u:=by
    rw [ht];simp only [lk,If]at x;have g:=x.1.2;rw [b]at g;split at g
    ·rename_i d p' J I;simp only [If,beq_iff_eq,decide_eq_true_eq]at g;cases I;have Y:d<a.tmps.size:=avJ g.2 B.size;rw [J,g.1];simp only [Act.put];simp [Y]
    ·rename_i I;simp at I
    ·simp at g
   refine⟨i+1,hi,?_,fun j z H s=>⟨fun h=>?_,fun h=>?_⟩⟩
   ·rcases hv with hv | ⟨M,W,zs,c,g1,g2,g3,g4⟩
    ·left;rw [S,vT,bf b,q];exact hv
    ·right;exact⟨y,zs,c,by rw [M],W,by rw [←M];exact hr.hy,b,g1,by rw [q];exact g2,g3,g4⟩
   ·rcases avT j i with L | L
    ·exact .inl (hr.pQ B (R.before L H hr.hy (.inl (Bf s b))))
    ·exact .inr (by omega)
   ·rcases h with h | rfl
    ·rcases avT i j with L | L
     ·exact absurd h (hr.qY B (R.before L hr.hy H (.inl (Bf b s))))
     ·omega
    ·omega
  ·obtain⟨K,hK,F,hw⟩:=B.aez p;have e:a1.tmps.getD p.toNat undef=a.tmps.getD p.toNat undef:=by
    rw [ht];simp only [lk,If]at x;have g:=x.1.2;split at g
    ·rename_i d p' J I;simp only [If,beq_iff_eq,decide_eq_true_eq]at g;have Z:d≠p.toNat:=fun e=>b (by rw [I,P.toNat_inj (g.1.trans e)]);rw [J];simp [Act.put,Array.getD_eq_getD_getElem?,Array.getElem?_setIfInBounds_ne Z]
    ·rename_i J I;rw [J];rfl
    ·simp at g
   refine⟨K,hK,?_,fun j z H s=>?_⟩
   ·rcases F with F | ⟨z,zs,c,g1,g2,g3,g4,g5,g6,g7,g8⟩
    ·left;rw [e];exact hm _ _ F
    ·have U:D (eJ ops aos):=(hw _ z g3 g4).1 (by omega);have:=a8 z zs c p g2 g3 g5 g4 U g6 g7 g8;split at this
     ·rename_i W;right;exact⟨z,zs,c,g1,W,g3,g4,g5,by rw [e];exact g6,g7,this⟩
     ·left;rw [e,g6,g1];exact this
   ·rw [hw j z H s];exact⟨.inl,fun h=>h.elim id fun h=>absurd (by rw [h]at H;rw [hr.hy]at H;cases H;exact s) b⟩
end
end
section
variable{Q:Program}{σ:Nat→FuncId}{X:Wd}{call:cR}
variable{n:Nat}{ops:Array Oper}{aos:List aS}{iD:List (Nat × Nat)}{st:Nat→St}
variable{X0:Wd}{D:Nat→Prop}{E i:Nat}{a:Act}{o:Oper}{y:aS}
theorem qv{x y:aS}(h:cls x.op=.w)(d:cls y.op≠.p)(b:cls y.op≠.r):uQ x y=ag:=by
 unfold uQ;rw [h];cases g:cls y.op<;>simp_all
theorem uR{x y:aS}(h:cls y.op=.w)(d:cls x.op≠.p)(b:cls x.op≠.r):uQ x y=ag:=by
 unfold uQ;rw [h];cases g:cls x.op<;>simp_all
theorem ke.vG(R:ke Q σ call n ops aos iD st){j:Nat}{z:aS}(b:aos[j]?=aa z)(hc:cls z.op≠.a):j≠eJ ops aos:=by
 rintro rfl;exact hc (R.acU b)
theorem ke.ap9(R:ke Q σ call n ops aos iD st)(b:Inv Q σ X0 n ops aos st D E X a)(hr:kd ops aos D i o y)(hc:cls y.op=.w):i=E:=by
 have hi:i<aos.length:=(BY.1 hr.hy).1;rcases awp i E with h | h | h
 ·exact absurd (b.wD i ⟨y,hr.hy,hc⟩ h) hr.hD
 ·exact h
 ·rcases b.eW with h1 | ⟨z,g,d⟩
  ·omega
  ·exact absurd (hr.pQ b (R.before h g hr.hy (.inr ⟨qv d (by simp [hc]) (by simp [hc]),fun e=>absurd e (R.vG hr.hy (by simp [hc]))⟩))) b.eD
theorem ke.acj(R:ke Q σ call n ops aos iD st)(d:Inv Q σ X0 n ops aos st D E X a)(hr:kd ops aos D i o y)(h1:cls y.op≠.p)(h2:cls y.op≠.r)(h3:cls y.op≠.w)(s:i=eJ ops aos→i<E):i<E∧∀ j,i≤j→j<E→¬ F4 aos j:=by
 have hi:i<aos.length:=(BY.1 hr.hy).1;refine⟨?_,fun j u m q=>?_⟩
 ·rcases awp i E with h | h | h
  ·exact h
  ·rcases d.eW with h4 | ⟨z,g,b⟩
   ·omega
   ·rw [←h,hr.hy]at g;cases g;exact absurd b h3
  ·rcases d.eW with h4 | ⟨z,g,b⟩
   ·omega
   ·exact absurd (hr.pQ d (R.before h g hr.hy (.inr ⟨qv b h1 h2,fun e=>by have:=s e;omega⟩))) d.eD
 ·have l:=d.wD j q m;obtain⟨z,g,b⟩:=q;rcases avT i j with h | h
  ·exact hr.qY d (R.before h hr.hy g (.inr ⟨uR b h1 h2,fun _=>h3⟩)) l
  ·have:j=i:=by omega
   subst this;exact hr.hD l
theorem ke.aur(R:ke Q σ call n ops aos iD st)(d:Inv Q σ X0 n ops aos st D E X a)(hr:kd ops aos D i o y)(hc:cls y.op=.r)(K:wanted (st i).aD y.g=aa ae){v:V}{B:aj}(h:bq (st i).aD (st i).heap y.op=aa (v,B)) :
  B=(st i).heap∧bq (st i).aD X.H y.op=aa (v,X.H):=by
 have hi:i<aos.length:=(BY.1 hr.hy).1;refine⟨(GQ hc (dk.refl _) h).1,?_⟩;have q:B4 (dD ops.toList []) aos i E=ae:=by
  unfold B4;rw [avz];intro j J;have l:=nk.1 J;split
  ·rename_i m;have b:=d.wD j l m;cases u:AA (dD ops.toList []) i j with
   | false=>rfl| true=>exact absurd b (hr.qY d u)
  ·rename_i m;cases u:AA (dD ops.toList []) j i with
   | false=>rfl
   | true=>
    exfalso;have b:=hr.pQ d u;rcases avT E j with h1 | h1
    ·rcases d.eW with h4 | ⟨z,L,A⟩
     ·have:=d.dlt j b;omega
     ·obtain⟨N,s,g⟩:=l;exact d.eD (d.closed.below j b (R.before h1 L s (.inr ⟨qv A (by simp [g]) (by simp [g]),fun e=>absurd e (R.vG s (by simp [g]))⟩)))
    ·have:j=E:=by omega
     subst this;exact d.eD b
 rw [d.heap];rcases R.ord.rd i y E hr.hy hc (d.eW.symm) q with x | x
 ·obtain⟨p1,_,_,F⟩:=pS (aos:=aos) (i:=i) (by omega);rw [←x]at p1 F;exact(GQ hc (R.dh E p1 d.eN F).1 h).2
 ·obtain⟨M,H,I,g1,g2⟩:=R.at2 i E y x hr.hy K;rw [h]at g1;cases g1;have:=(GQ hc (dk.refl _) g2).1;rw [this]at g2;exact g2
theorem ke.ajQ(R:ke Q σ call n ops aos iD st){z:aS}(d:aos[eJ ops aos]?=aa z){zs:List FC}(b:z.op=.alloc zs){p:P}(g:z.dst=aa p) :
  (st (eJ ops aos+1)).heap=(st (eJ ops aos)).heap++[.box (zs.map .f) 0]∧(st (eJ ops aos+1)).aD.get p=.c (.ptr (st (eJ ops aos)).heap.length 0 0):=by
 obtain⟨_,hg,_⟩:=R.ord.ear z d;have h:=R.step _ z d;simp only [fL,hg,wanted,b,eU,bq,avY,At]at h;rw [←h];exact⟨rfl,by rw [vT,bf g]⟩
theorem ke.Fl(R:ke Q σ call n ops aos iD st)(s:Inv Q σ X0 n ops aos st D E X a)(hr:kd ops aos D i o y)(hc:cls y.op=.w){d:Wd}{a1:Act}{u:Value}{v:V}(hS:SR Q σ d)(hB:d.B≤d.w.heap.size)(hx:Ext X.H.length X d)
  (hv:VR σ d v u) (ht:a1.tmps=(a.put o.dst u).tmps) (A:(st (i+1)).aD=jS (st i).aD y.dst v) (hH:d.H=(st (i+1)).heap) (hd:fS σ d (st (i+1)).defs a1.defers) :
  ∃ E' X2,X2.w=d.w∧Inv Q σ X0 n ops aos st (fun j=>D j∨j=i) E' X2 a1:=by
 have hi:i<aos.length:=(BY.1 hr.hy).1;have b9:=R.ap9 s hr hc;subst b9;obtain⟨p1,p2,p3,I⟩:=pS (aos:=aos) (i:=i+1) (by omega);obtain⟨q1,q2⟩:=R.dh _ p1 p2 I;rw [←hH]at q1;obtain⟨k1,Y⟩:=SR.ahead hS q1;have g:Ext X.H.length X { d with H:=(st (phase aos (i+1))).heap }:=hx.trans (Y.mono hx.len);have F:Ext X0.H.length X0 { d with H:=(st (phase aos (i+1))).heap }:=s.ext.trans (g.mono s.ext.len);have J:¬ (D (phase aos (i+1))∨phase aos (i+1)=i):=by
  rintro(h | h)
  ·rcases p3 with h1 | ⟨z,hz,l⟩
   ·have:=s.dlt _ h;omega
   ·exact hr.qY s (R.before p1 hr.hy hz (.inr ⟨qv hc (by simp [l]) (by simp [l]),fun e=>absurd e (R.vG hz (by simp [l]))⟩)) h
  ·omega
 have M:∀ j,F4 aos j→j<phase aos (i+1)→D j∨j=i:=by
  intro j S hj;rcases awp j i with h | h | h
  ·exact .inl (s.wD j S h)
  ·exact .inr h
  ·exact absurd S (I j h hj)
 have O:fS σ { d with H:=(st (phase aos (i+1))).heap } (st (phase aos (i+1))).defs a1.defers:=by rw [q2];exact hd.ext' Y
 have iJ:i≠eJ ops aos:=R.vG hr.hy (by simp [hc]);have yv:∀ j z,j<phase aos (i+1)→¬ (D j∨j=i)→aos[j]?=aa z→cls z.op=.a→(st (j+1)).heap.length≠(st j).heap.length→i<j∧d.cB (st j).heap.length=ab:=by
  intro j z hj hD hz l x;rcases awp j i with h | h | h
  ·exact absurd (.inl (hr.pQ s (R.before h hz hr.hy (.inr ⟨uR hc (by simp [l]) (by simp [l]),fun e=>absurd e iJ⟩)))) hD
  ·exact absurd (.inr h) hD
  ·have B:=(R.dh j h (by omega) fun k h1 h2=>I k h1 (by omega)).1.len;rw [←hH]at B;refine⟨h,?_⟩;cases m:d.cB (st j).heap.length with
   | none=>rfl| some L=>have:=SR.lt hS m;omega
 by_cases hP:∃ z zs c p,i≤eJ ops aos∧eJ ops aos<phase aos (i+1)∧aos[eJ ops aos]?=aa z∧z.op=.alloc zs∧z.dst=aa p∧D (eJ ops aos)∧a.tmps.getD p.toNat undef=.pointer (aa ⟨c,0,ab⟩)∧X0.w.heap.size≤c∧kI σ X c zs
 ·obtain⟨z,zs,c,p,g1,g2,g3,g4,g5,g6,g7,Z,g9⟩:=hP;obtain⟨s1,s2⟩:=R.ajQ g3 g4 g5;have K:i<eJ ops aos:=by omega
  have b_:(st (i+1)).heap.length≤(st (eJ ops aos)).heap.length:=(R.dh _ K (by omega) fun k h1 h2=>I k h1 (by omega)).1.len;obtain⟨fl,N⟩:∃ fl,(st (phase aos (i+1))).heap[(st (eJ ops aos)).heap.length]?=aa (.box (zs.map .f) fl):=by
   have U:=(R.dh (phase aos (i+1)) (show eJ ops aos+1≤_ by omega) p2 fun k h1 h2=>I k (by omega) h2).1;rw [s1]at U;exact qO U
  have c_:kI σ { d with H:=(st (phase aos (i+1))).heap } c zs:=g9.ext g;have d9:d.cB (st (eJ ops aos)).heap.length=ab:=by
   cases m:d.cB (st (eJ ops aos)).heap.length with
   | none=>rfl| some L=>have:=SR.lt hS m;rw [hH]at this;omega
  obtain⟨a8,q,a_⟩:=SR.assign k1 c_ N d9;refine⟨phase aos (i+1),{ d with H:=(st (phase aos (i+1))).heap,cB:=fun b=>if b=(st (eJ ops aos)).heap.length then aa ⟨c,0⟩else d.cB b },rfl,R.fin s hr a8 hB (F.assign q Z) (fun v u h=>VR.eg σ q (VR.ext' σ g h)) ?_ (.inl (VR.eg σ q (VR.ext' σ Y hv))) ht A p2 p3 J M rfl (fS.eg q O) ?_⟩
  ·intro z' d_ c' p' _ e2 _ e4 _ e6 _ _;rw [g3]at e2;cases e2;rw [g5]at e4;cases e4;rw [g7]at e6;simp only [Value.pointer.injEq,At,Addr.mk.injEq,true_and,and_true]at e6;subst e6;rw [aY (by omega),s2];exact a_
  ·intro j w hj hD hw W x;obtain⟨f1,f2⟩:=yv j w hj hD hw W x;show(if(st j).heap.length=(st (eJ ops aos)).heap.length then aa (⟨c,0⟩:Loc)else d.cB (st j).heap.length)=ab;rw [aY,f2];intro e;rcases awp j (eJ ops aos)with h | h | h
   ·have h1:=(R.dh (lo:=j+1) (eJ ops aos) h (by omega) fun k h1 h2=>I k (by omega) (by omega)).1.len;have h2:=(pY (by simp [W]) (R.step j w hw)).1.len;clear F g k1 Y;omega
   ·exact hD (.inl (by rw [h];exact g6))
   ·have h1:=(R.dh (lo:=eJ ops aos+1) j h (by omega) fun k h1 h2=>I k (by omega) (by omega)).1.len;rw [s1,api]at h1;simp only [List.length_cons,List.length_nil]at h1;omega
 ·refine⟨phase aos (i+1),{ d with H:=(st (phase aos (i+1))).heap },rfl,R.fin s hr k1 hB F (fun v u h=>VR.ext' σ g h) ?_ (.inl (VR.ext' σ Y hv)) ht A p2 p3 J M rfl O (fun j z h1 h2 h3 h4 h5=>(yv j z h1 h2 h3 h4 h5).2)⟩;intro z zs c p g1 g2 g3 g4 g5 g6 g7 Z;by_cases B:phase aos (i+1)≤eJ ops aos
  ·rw [bf B];exact Z.ext g
  ·exact absurd ⟨z,zs,c,p,g1,by omega,g2,g3,g4,g5,g6,g7,Z⟩ hP
theorem ke.nN(R:ke Q σ call n ops aos iD st)(d:Inv Q σ X0 n ops aos st D E X a)(hr:kd ops aos D i o y)(hc:cls y.op≠.w){b:Wd}{a1:Act}{u:Value}{v:V}(B:SR Q σ b)(x:b.B≤b.w.heap.size)(l:Ext X.H.length X b)
  (J:VR σ b v u∨(i=eJ ops aos∧E≤eJ ops aos∧∃ zs c,y.op=.alloc zs∧u=.pointer (aa ⟨c,0,ab⟩)∧X0.w.heap.size≤c∧kI σ b c zs)) (I:a1.tmps=(a.put o.dst u).tmps) (g:(st (i+1)).aD=jS (st i).aD y.dst v) (A:b.H=X.H) (F:fS σ b (st E).defs a1.defers)
  (H:∀ j z,j<E→¬ (D j∨j=i)→aos[j]?=aa z→cls z.op=.a→(st (j+1)).heap.length≠(st j).heap.length→b.cB (st j).heap.length=ab) :
  Inv Q σ X0 n ops aos st (fun j=>D j∨j=i) E b a1:=by
 refine R.fin d hr B x (d.ext.trans (l.mono d.ext.len)) (fun v u h=>VR.ext' σ l h) (fun z zs c p g1 _ _ _ _ _ _ s=>by rw [bf g1];exact s.ext l) J I g d.eN d.eW ?_ (fun j h1 h2=>.inl (d.wD j h1 h2)) (A.trans d.heap) F H;rintro(h | h)
 ·exact d.eD h
 ·have hi:i<aos.length:=(BY.1 hr.hy).1;rcases d.eW with h1 | ⟨z,q,m⟩
  ·omega
  ·rw [h,hr.hy]at q;cases q;exact hc m
theorem ke.iz(d:Inv Q σ X0 n ops aos st D E X a){b:Wd}(h:b.cB=X.cB):∀ j z,j<E→¬ (D j∨j=i)→aos[j]?=aa z→cls z.op=.a→(st (j+1)).heap.length≠(st j).heap.length→b.cB (st j).heap.length=ab:=
 fun j z h1 h2 h3 h4 h5=>by rw [h];exact d.yv j z h1 (fun h=>h2 (.inl h)) h3 h4 h5
theorem ke.Eo(R:ke Q σ call n ops aos iD st)(q:Inv Q σ X0 n ops aos st D E X a)(hr:kd ops aos D i o y)(hc:cls y.op=.a)(B:i=eJ ops aos→i<E)(m:(st (i+1)).heap.length≠(st i).heap.length){j:Nat}{z:aS}(I:j<E)(hD:¬ (D j∨j=i))(A:aos[j]?=aa z)(d:cls z.op=.a)
  (g:(st (j+1)).heap.length≠(st j).heap.length):(st j).heap.length≠(st i).heap.length:=by
 have hi:i<aos.length:=(BY.1 hr.hy).1;obtain⟨g1,g2⟩:=R.acj q hr (by simp [hc]) (by simp [hc]) (by simp [hc]) B;have H:∀ k,j≤k→k<E→¬ F4 aos k:=by
  intro k h1 h2 s;have l:=q.wD k s h2;obtain⟨w,u,v⟩:=s;rcases avT j k with h | h
  ·exact hD (.inl (q.closed.below k l (R.before h A u (.inr ⟨uR v (by simp [d]) (by simp [d]),fun _=>by simp [d]⟩))))
  ·have:k=j:=by omega
   subst this;exact hD (.inl l)
 have b:∀ k w,aos[k]?=aa w→cls w.op=.a→(st (k+1)).heap.length≠(st k).heap.length→(st k).heap.length<(st (k+1)).heap.length:=by
  intro k w s x F;have:=(pY (by simp [x]) (R.step k w s)).1.len;omega
 rcases awp j i with h | h | h
 ·have h1:=b j z A d g;have h2:(st (j+1)).heap.length≤(st i).heap.length:=(R.dh i h (by omega) fun k h3 h4=>H k (by omega) (by omega)).1.len;omega
 ·exact absurd (.inr h) hD
 ·have h1:=b i y hr.hy hc m;have h2:(st (i+1)).heap.length≤(st j).heap.length:=(R.dh j h (by have:=q.eN;omega) fun k h3 h4=>g2 k (by omega) (by omega)).1.len;omega
end
section
variable{Q:Program}{σ:Nat→FuncId}{X:Wd}{call:cR}
variable{n:Nat}{ops:Array Oper}{aos:List aS}{iD:List (Nat × Nat)}{st:Nat→St}
variable{X0:Wd}{D:Nat→Prop}{E i:Nat}{a:Act}{o:Oper}{y:aS}
theorem EI{w':World}{q:Obj}(g:SR Q σ X)(d:ed X.w w' q):SR Q σ { X with w:=w' }∧Ext X.H.length X { X with w:=w' }:=by
 have j:Ext X.H.length X { X with w:=w' }:=Ext.one g X.H.length rfl (fun _ _=>Iff.rfl) (fun k m _=>d.Db m)
  (fun L i h=>by rw [SR.sO g]at h;simp at h) (fun h=>absurd h (aw2 _)) (fun _ _ _=>rfl) (fun _ _=>rfl) (fun L h=>.inl ⟨L,h,rfl⟩) (by show _≤w'.heap.size;rw [d.size];omega) d.os d.tape d.output
 refine⟨SR.step Q σ g j X.H.length (fun _ _=>rfl) (fun _ _=>rfl) (fun b L _ l=>d.Db (g.br b L l).2.1)
  (fun _ _ _ _ _ h=>h) (fun L h=>by change X.cB X.H.length=aa L at h;rw [SR.sO g]at h;simp at h) (fun c i h=>?_),j⟩
 have:=g.fb c i h;show c<w'.heap.size;rw [d.size];omega
theorem adU{y:aS}{p:P}(h:p ∈ y.op.rd):p ∈ y.rd:=by unfold aS.rd;exact avq.2 (.inr h)
theorem FR{y:aS}{p:P}{w:Bool}(h:y.g=aa (p,w)):p ∈ y.rd:=by unfold aS.rd;rw [h];simp
theorem ke.alD(hC:fg Q σ call)(R:ke Q σ call n ops aos iD st)(d:Inv Q σ X0 n ops aos st D E X a)(hr:kd ops aos D i o y){b:Frame}{rest:List Nat}{k:List Item}{cs:List Frame}(hk:jt b cs)(j7:gR y.op b) :
  ∃ E' X' a',Steps Q (lone (b.atR a (.inRegion ops (i::rest)::k)) cs X.w) (lone (b.atR a' (.inRegion ops rest::k)) cs X'.w)∧Inv Q σ X0 n ops aos st (fun j=>D j∨j=i) E' X' a'∧a'.tmps.size=a.tmps.size:=by
 have hi:i<aos.length:=(BY.1 hr.hy).1;obtain⟨o',g_,hm⟩:=R.at hr.hy;rw [hr.ho]at g_;cases g_;have g:=R.step i y hr.hy;have O:∀ p ∈ y.rd,VR σ X ((st i).aD.get p) (a.tmps.getD p.toNat undef):=fun p hp=>R.reads d hr hp;have l:dU Q σ o y.op=ae:=by simp only [lk,If]at hm;exact hm.1.1
 have J:∀ u,(a.put o.dst u).tmps.size=a.tmps.size:=fun u=>by cases o.dst<;>simp [Act.put]
 have I:∀(a:Act) u,(a.put o.dst u).defers=a.defers:=fun a u=>by cases o.dst<;>rfl
 have i7:∀(a a':Act) u,a'.tmps=a.tmps→(a'.put o.dst u).tmps=(a.put o.dst u).tmps:=fun a a' u h=>by cases o.dst<;>simp [Act.put,h]
 unfold fL at g;split at g
 ·rename_i d9;have hw:=oe hm (aD:=(st i).aD) (tmps:=a.tmps) (X:=X) (fun p w' hg=>O p (FR hg)) d.size d9;split at g
  ·rename_i v s1 h1;simp only [At]at g;have A:(st (i+1)).aD=jS (st i).aD y.dst v:=by rw [←g,←zh h1]
   have q:(st (i+1)).heap=s1.heap:=by rw [←g]
   have M:(st (i+1)).defs=s1.defs:=by rw [←g]
   have B:∀ p ∈ y.op.rd,(st i).aD.get p=(iy (st i).aD y.op.rd).get p:=fun p hp=>by rw [vV,bf hp]
   have Y:RR σ X (iy (st i).aD y.op.rd) a.tmps:=fun p=>by
    rw [vV];split
    ·rename_i hp;exact O p (adU hp)
    ·trivial
   have K:=GP B h1;by_cases m:cls y.op=.w
   ·have a8:=R.ap9 d hr m;obtain⟨g1,g2⟩:=GO hC d.sr d.b (s:={ st i with aD:=iy (st i).aD y.op.rd }) (by rw [d.heap,←a8]) Y (by rw [a8];exact d.defs) l K;obtain⟨X1,u,a1,k1,⟨k2,k3,k4,k5,k6⟩,k7,k8⟩:=g1 b ops i rest k cs hr.ho hw hk j7;obtain⟨E',X2,q1,q2⟩:=R.Fl d hr m (a1:=a1.put o.dst u) k3 k6 k5 k4 (i7 a a1 u k7) A (by rw [k2,q]) (by rw [M,I];exact k8);exact⟨E',X2,a1.put o.dst u,by rw [q1];exact k1,q2,by rw [i7 a a1 u k7,J]⟩
   ·
    have j6:∀ c,o.op≠.defer c:=qU l (fun x xs e=>m (by rw [e];rfl)) (fun e=>by rw [e]at h1;simp [eU,bq]at h1);have one:∀ {u:Value} {w':World},(execOp a.eval o).run Q X.w=.ok (.value u) w'→Steps Q (lone (b.atR a (.inRegion ops (i::rest)::k)) cs X.w) (lone (b.atR (a.put o.dst u) (.inRegion ops rest::k)) cs w'):=by
     intro u w' a_;refine .one (step_lone_go ?_);rw [stepGR_op hr.ho hw,Oper.semAt_eq _ _ _ j6];have Z:=Frame.finish_atR b a ops i rest k u;rw [hr.ho]at Z;simp only [avS]at Z;rw [←Z];simp [stepG.apply,Sem.runT_eq,a_]
    by_cases F:cls y.op=.c
    ·
     obtain⟨f,xs,c_⟩:∃ f xs,y.op=.call f xs ag:=by
      generalize y.op=op at F;cases op<;>first | (simp only [cls,reduceCtorEq]at F;done) | skip
      rename_i f xs hh;cases hh
      ·exact⟨f,xs,rfl⟩
      ·simp [cls]at F
     have H:=Y;rw [c_]at K l H;simp only [eU,gT,avk,if_false,IT,OF]at K;obtain⟨⟨v',H'⟩,hp,rfl,i4⟩:=K;have j5:H'=(st (i+1)).heap:=by
      rw [q];simp only [St.mk.injEq]at i4;exact i4.2.2
     obtain⟨g1,g2⟩:=R.acj d hr (by simp [F]) (by simp [F]) (by simp [F]) (fun e=>absurd e (R.vG hr.hy (by simp [F])));have e_:dk H' X.H:=by
      rw [j5,d.heap];exact(R.dh E g1 d.eN fun j h1 h2=>g2 j (by omega) h2).1
     obtain⟨X1,u,k1,⟨k2,k3,k4,k5,k6⟩,k7⟩:=zA hC d.sr d.b H l hp e_ b ops i rest k cs hr.ho hw;exact⟨E,X1,a.put o.dst u,k1,R.nN d hr m k3 k6 k5 (.inl k4) rfl A k2 (by rw [I];exact d.defs.ext' k5) (ke.iz d k7),J u⟩
    ·have hx:(bq (iy (st i).aD y.op.rd) (st i).heap y.op)=aa (v,s1.heap):=by
      have b_:¬ ((∃ f xs h,y.op=.call f xs h)∨(∃ x xs h,y.op=.cj x xs h)∨y.op=.recover∨∃ x xs,y.op=.defer x xs):=by
       rintro(⟨f,xs,hh,e⟩ | ⟨x,xs,hh,e⟩ | e | ⟨x,xs,e⟩)<;>rw [e]at m F
       ·cases hh
        ·exact F rfl
        ·exact m rfl
       ·exact m rfl
       ·exact m rfl
       ·exact m rfl
      have hx:(bq (iy (st i).aD y.op.rd) (st i).heap y.op).map (fun r=>(r.1,({ st i with aD:=iy (st i).aD y.op.rd,heap:=r.2 }:St)))=aa (v,{ s1 with aD:=iy (st i).aD y.op.rd }):=by
       generalize iy (st i).aD y.op.rd=r at K;generalize y.op=op at K b_;cases op<;>first | exact K | (exfalso;apply b_;simp)
      simp only [IT,OF,St.mk.injEq]at hx;obtain⟨⟨v',H'⟩,h2,rfl,_,_,h3⟩:=hx;rw [h2];simp only at h3;rw [h3]
     by_cases W:cls y.op=.a
     ·by_cases S:i=eJ ops aos∧E≤i
      ·
       obtain⟨f8,j4⟩:=S;obtain⟨⟨zs,c_⟩,_,_⟩:=R.ord.ear y (show aos[eJ ops aos]?=aa y from f8▸hr.hy);have f_:=hx;rw [c_]at f_ l;simp only [bq,At,OF]at f_;obtain⟨rfl,_⟩:=f_;simp only [dU]at l;split at l
       ·rename_i t ho;obtain⟨z,us,i8,i9,i_,_⟩:=eT (σ:=σ) (X:=X) l X.w;have a_:(execOp a.eval o).run Q X.w=.ok (.value (.pointer (aa ⟨X.w.heap.size,0,ab⟩))) (X.w.alloc (.cells us.toArray t)):=by
         simp only [execOp,ho];refine en ?_;simp [Instr.alloc,i8,newVar,newRow,i9]
        obtain⟨e1,e2⟩:=EI d.sr (ed.alloc X.w (.cells us.toArray t));refine⟨E,{ X with w:=X.w.alloc (.cells us.toArray t) },a.put o.dst (.pointer (aa ⟨X.w.heap.size,0,ab⟩)),one a_,R.nN d hr m e1 (by have:=d.b;simp;omega) e2 (.inr ⟨f8,by rw [←f8];exact j4,zs,X.w.heap.size,c_,rfl,d.ext.size,?_⟩) rfl A rfl (by rw [I];exact d.defs.ext' e2) (ke.iz d rfl),J _⟩;exact⟨⟨us,t,(ed.alloc X.w (.cells us.toArray t)).new,A2.ext' σ e2 i_⟩,d.b,fun b L hb=>by have:=(d.sr.br b L hb).2.1;omega,fun j hj=>by have:=d.sr.fb _ j hj;omega⟩
       ·simp at l
      have hJ:i=eJ ops aos→i<E:=fun e=>by
       rcases avT i E with h | h
       ·exact h
       ·exact absurd ⟨e,h⟩ S
      obtain⟨g1,g2⟩:=R.acj d hr (by simp [W]) (by simp [W]) (by simp [W]) hJ;have e_:dk s1.heap X.H:=by
       rw [←q,d.heap];exact(R.dh E g1 d.eN fun j h1 h2=>g2 j (by omega) h2).1
      obtain⟨X1,u,k1,⟨k2,k3,k4,k5,k6⟩,k7,k8⟩:=akm d.sr d.b Y W l hx e_ (fun b_=>d.yv i y g1 hr.hD hr.hy W (by rw [q];exact b_));refine⟨E,X1,a.put o.dst u,one k1,R.nN d hr m k3 k6 k5 (.inl k4) rfl A k2 (by rw [I];exact d.defs.ext' k5) ?_,J u⟩;by_cases d_:(st (i+1)).heap.length=(st i).heap.length
      ·exact ke.iz d (k8 (by rw [←q];exact d_))
      ·intro j z h2 h3 h4 h5 h6;rw [k7 _ (R.Eo d hr W hJ d_ h2 h3 h4 h5 h6)];exact d.yv j z h2 (fun h=>h3 (.inl h)) h4 h5 h6
     ·
      have h_:cls y.op=.p∨cls y.op=.r:=by cases b9:cls y.op<;>simp_all
      have j9:bq (st i).aD (st i).heap y.op=aa (v,s1.heap):=by rw [EW B];exact hx
      have i6:bq (iy (st i).aD y.op.rd) X.H y.op=aa (v,X.H):=by
       rcases h_ with b9 | b9
       ·have:=ams (r:=iy (st i).aD y.op.rd) b9 (st i).heap X.H;rw [hx]at this;simpa using this
       ·rw [←EW B];exact(R.aur d hr b9 d9 j9).2
      cases f7:y.op.fsl
      case true=>
       have N:=l;have U:=i6;have H:=Y;obtain⟨rg,j8⟩:=aJ (iy (st i).aD y.op.rd);rw [←j8]at U H;revert N U;generalize y.op=op at f7;cases op<;>simp only [cW.fsl,reduceCtorEq]at f7;intro N U;obtain⟨_,u,X1,k1,k2,k3,k4,k5,k6,k7⟩:=yk d.sr d.b H N U;exact⟨E,X1,a.put o.dst u,one k1,R.nN d hr m k3 k6 k5 (.inl k4) rfl A k2 (by rw [I];exact d.defs.ext' k5) (ke.iz d k7),J u⟩
      obtain⟨_,u,k1,k2⟩:=amm d.sr Y l h_ f7 i6;exact⟨E,X,a.put o.dst u,one k1,R.nN d hr m d.sr d.b (Ext.refl _ _) (.inl k2) rfl A rfl (by rw [I];exact d.defs) (ke.iz d rfl),J u⟩
  ·simp at g
 ·rename_i d9;have hw:=oe hm (aD:=(st i).aD) (tmps:=a.tmps) (X:=X) (fun p w' hg=>O p (FR hg)) d.size d9;simp only [At]at g;have A:(st (i+1)).aD=jS (st i).aD y.dst (.t []):=by rw [←g]
  have q:(st (i+1)).heap=(st i).heap:=by rw [←g]
  have M:(st (i+1)).defs=(st i).defs:=by rw [←g]
  have i5:Steps Q (lone (b.atR a (.inRegion ops (i::rest)::k)) cs X.w) (lone (b.atR (a.put o.dst undef) (.inRegion ops rest::k)) cs X.w):=by
   refine .one ?_;have:=stepR_op_skip (P:=Q) (b:=b) (a:=a) (k:=k) (cs:=cs) (w:=X.w) (ops:=ops) (i:=i) (rest:=rest) (by simp [hr.ho,hw]);rw [hr.ho]at this;exact this
  by_cases m:cls y.op=.w
  ·have a8:=R.ap9 d hr m;obtain⟨E',X2,q1,q2⟩:=R.Fl d hr m (a1:=a.put o.dst undef) d.sr d.b (Ext.refl _ _) VR.undef rfl A (by rw [d.heap,q,a8]) (by rw [M,I,a8];exact d.defs);exact⟨E',X2,a.put o.dst undef,by rw [q1];exact i5,q2,J _⟩
  ·exact⟨E,X,a.put o.dst undef,i5,R.nN d hr m d.sr d.b (Ext.refl _ _) (.inl VR.undef) rfl A rfl (by rw [I];exact d.defs) (ke.iz d rfl),J _⟩
 ·simp at g
end
end Km
