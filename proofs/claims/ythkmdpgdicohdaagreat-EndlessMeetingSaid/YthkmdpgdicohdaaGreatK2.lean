/-
  Our own small machine for Go code by value, held sk the model: part 2. No program in D1.
-/
import Derived.Test.YthkmdpgdicohdaaGreatK1
import Derived.AtR
import Derived.RangeFuncIn
import Derived.RangeFuncRecord
import Derived.Conc.MuLone
open Option renaming some → aa,none → ab
open Bool renaming true → ae,false → ag
open Nat renaming le_max_left → an3, le_trans → anL, le_max_right → anT, mul_le_mul_right → anX, le_refl → anl, add_mul → anM, lt_or_ge → anQ, lt_irrefl → apq, mul_eq_zero → apt, zero_add → aoa, lt_of_lt_of_le → aok, lt_trichotomy → aoE
open Option.some renaming injEq → AI
open Prod.mk renaming injEq → anc
open List renaming getElem?_map → aoj, length_map → anq, getElem?_toArray → apk, getElem?_cons_zero → ao1, getElem?_cons_succ → apg, length_append → ank, getElem?_eq_some_iff → IT, getElem?_set_ne → sh, getElem?_append_left → AT, length_drop → anE, eq_nil_of_length_eq_zero → anz, drop_zero → aod, getElem?_set → apl, getElem?_eq_getElem → By, getElem?_eq_none_iff → aoY, foldl_cons → ao7, mem_cons → anK, getElem_mem → IS, getElem?_drop → anI, getElem?_of_mem → aot, drop_eq_nil_iff → apF, drop_eq_getElem_cons → anw, mem_flatMap → apn, mem_append → anm, mem_map → anv, getElem?_take → an4, getElem?_eq_none → aoZ, length_nil → aoU, getD_eq_getElem?_getD → ao3, all_eq_true → anx
open Option renaming map_eq_some_iff → IN, map_some → anZ, bind_some → anR
open Bool renaming and_eq_true → If, false_eq_true → anF, true_and → aol, or_eq_true → aoO
open Int renaming natCast_mul → aph, toNat_natCast → anJ, mul_comm → aoh
set_option linter.unusedVariables false
set_option linter.constructorNameAsVariable false
set_option linter.unusedSimpArgs false
set_option linter.unusedSectionVars false
set_option maxRecDepth 100000
namespace Km
open Go
section
variable{Q:Program}{σ:Nat→FuncId}{X:Wd}
theorem wb(n:Nat):∀(r c:Nat),Builtin.growBy n r c≤Nat.max c (n+(n+768) / 4)
 | 0,c=>by simp [Builtin.growBy];exact an3 _ _
 | r+1,c=>by
  simp only [Builtin.growBy];split
  ·exact an3 _ _
  ·rename_i h;refine anL (wb n r _) ?_;apply Nat.max_le.2;exact⟨anL (by omega) (anT _ _),anT _ _⟩
theorem tT{need cap:Nat}(h:cap<need):Builtin.nextslicecap need cap≤2*need+768:=by
 unfold Builtin.nextslicecap;split
 ·omega
 ·split
  ·omega
  ·refine anL (wb need 4 cap) ?_;apply Nat.max_le.2;omega
theorem zN(K:SR Q σ X){sz:Nat}{y:V}{u:Value}(v:VR σ X y u){m:Nat}{ys:List C}(h:de X.H sz y=aa (m,ys)) :
  ∃ F,(Builtin.lenOf u).run Q X.w=.ok m X.w∧(Builtin.firstCells sz m u).run Q X.w=.ok F.toArray X.w∧A2 (CR σ X) ys F∧ys.length=m*sz:=by
 unfold de at h;split at h
 ·rename_i s;have:=VR.str v;subst this;split at h
  case isFalse=>simp at h
  rename_i q;subst q;simp only [AI,anc]at h;obtain⟨rfl,rfl⟩:=h;have g:s.extract 0 s.size=s:=ByteArray.extract_zero_size;refine⟨s.data.toList.map fun b=>.int .u8 b.toNat,by simp [Builtin.lenOf],?_,?_,?_⟩
  ·simp only [Builtin.firstCells,g,Sem.run_pure]
   congr 1
   apply Array.ext';simp
  ·rw [ByteArray.toList_eq];exact⟨by simp,fun i x u E B=>by
    simp only [aoj,IN]at E B;obtain⟨c,L,rfl⟩:=E;obtain⟨d,z,rfl⟩:=B;rw [L]at z;cases z;exact cW.int _ _⟩
  ·rw [ByteArray.toList_eq];simp only [anq,Array.length_toList,Nat.mul_one];rfl
 ·rename_i x M;split at h
  ·rename_i l cs A j;simp only [AI,anc]at h;obtain⟨rfl,rfl⟩:=h;obtain⟨us,H,I,J⟩:=lF K v A j;obtain⟨a,c,rfl⟩:=ky v A;exact⟨us,by simp [Builtin.lenOf],H,I,J⟩
  ·simp at h
 ·simp at h
structure ajz(Q:Program)(t t' e:TypeId)(sz bytes:Nat):Prop where
 hu:Q.underlying t=aa (.slice e)
 hu':∃ d,Q.underlying t'=aa d∧(∀ k,d≠.int k)
 wg:dI Q e sz=ae
 hby:nq Q e bytes=ae
 pos:0<sz
 zero:∃ i z,Q.info? e=aa i∧i.zero=aa z∧z.cells.size=sz
def ri(base:Option Addr)(k:Nat)(b:List Value):Sem Unit:=match base with
 | some a=>storeCells (a.add k) b| none=>pure ()
theorem js{t O e:TypeId}{sz bytes:Nat}(j:ajz Q t O e sz bytes)(W:TypeId){base:Option Addr}{l cap m:Nat}{u:Value}{g:List Value}{w:World}
  (S:(Builtin.lenOf u).run Q w=.ok m w) (Y:(Builtin.firstCells sz m u).run Q w=.ok g.toArray w) :
  (l+m≤cap→(Builtin.append_ #[t,O] W #[.slice base l cap,u]).run Q w =
   ((ri base (l*sz) g).run Q w).andThen fun _ w'=>.ok (.slice base (l+m) cap) w') ∧
  (¬ l+m≤cap→cR (l+m) bytes=ae→∀ os g:List Value,(Builtin.firstCells sz l (.slice base l cap)).run Q w.drew=.ok os.toArray w.drew→(Builtin.firstCells sz m u).run Q w.drew=.ok g.toArray w.drew →
   ∃ nc rest w',l+m≤nc∧(Builtin.append_ #[t,O] W #[.slice base l cap,u]).run Q w=.ok (.slice (aa ⟨w.heap.size,0,ab⟩) (l+m) nc) w' ∧
    ea w w' (.cells (os++g++rest).toArray e)∧rest.length=(nc-(l+m))*sz):=by
 obtain⟨d,U,F⟩:=j.hu';obtain⟨i,z,hi,hz,y⟩:=j.zero;obtain⟨q,s,B⟩:=yG j.hby w;have A:((d matches .int _):Bool)=ag:=by
  cases d with
  | int k=>exact absurd rfl (F k)| _=>rfl
 constructor
 ·intro I;simp only [Builtin.append_,apk];simp [a5 j.hu,a5 U,dm j.wg,A,S,I,Y];cases base<;>simp [ri]
 ·intro H b os g Z h4;unfold cR at b;simp only [If,decide_eq_true_eq]at b;have v:q=i:=by
   simp [typeInfo,hi]at s;exact s.symm
  subst v;have J:¬ (Builtin.nextslicecap (l+m) cap*q.bytes>2 ^ 48):=by
   rw [B];have:=tT (need:=l+m) (cap:=cap) (by omega);have:=anX bytes this;omega
  let nc:=(Question.appendCap (l+m) cap e).cut (w.tape w.drawn (.appendCap (l+m) cap e))
  have K:l+m≤nc:=by simp [nc,Question.cut]
  refine⟨nc,cQ (nc-(l+m)) z.cells.toList,w.drew.alloc (.cells (os++g++cQ (nc-(l+m)) z.cells.toList).toArray e),K,?_,⟨rfl,rfl,rfl,rfl⟩,by rw [kr];simp [y]⟩;have E:(choose (.appendCap (l+m) cap e)).run Q w=.ok nc w.drew:=by
   simp [choose,Sem.run,Question.forced,nc]
  have M:Builtin.zeroCells z.cells (nc-(l+m))=(cQ (nc-(l+m)) z.cells.toList).toArray:=by
   have:=iL z.cells.toList (nc-(l+m)) (by simp [y];exact j.pos);simpa [Builtin.zeroCells]using this
  have x:¬ (((l+m:Nat):Int)>IntKind.i64.max):=by
   have:IntKind.i64.max=9223372036854775807:=by decide
   rw [this];omega
  have N:∀ w',(zeroValue e).run Q w'=.ok z w':=fun w'=>by simp [zeroValue,typeInfo,hi,hz]
  have L:∀ w',(typeInfo e).run Q w'=.ok q w':=fun w'=>by simp [typeInfo,hi]
  simp only [Builtin.append_,Sem.run_bind,a5 j.hu,a5 U,dm j.wg,A,Result.andThen_ok,Sem.run_pure,anF,if_false,S,aT H,Sem.run_ite,L,x,false_and,J,E,run_askRoom,Z,
   Bool.not_false,if_true,h4,N,M,newRow,run_newObj,apk,ao1,apg]
  have X:os.toArray++g.toArray++(cQ (nc-(l+m)) z.cells.toList).toArray=(os++g++cQ (nc-(l+m)) z.cells.toList).toArray:=by simp
  rw [X];rfl
theorem SR.drew(b:SR Q σ X):SR Q σ { X with w:=X.w.drew }∧Ext X.H.length X { X with w:=X.w.drew }:=by
 have d:Ext X.H.length X { X with w:=X.w.drew }:=Ext.one b X.H.length rfl (fun _ _=>Iff.rfl) (fun _ _ _=>rfl) (fun _ _ _ _=>rfl) (fun h=>by omega)
  (fun _ _ _=>rfl) (fun _ _=>rfl) (fun L h=>.inl ⟨L,h,rfl⟩) (anl _) rfl rfl rfl
 exact⟨SR.step Q σ b d X.H.length (fun _ _=>rfl) (fun _ _=>rfl) (fun _ _ _ _=>rfl) (fun _ _ _ _ _ h=>h) (fun L h=>by
  change X.cF X.H.length=aa L at h;rw [SR.qY b]at h;simp at h) b.fb,d⟩
theorem Wb(l:SR Q σ X)(A:X.B≤X.w.heap.size){sz:Nat}(d:0<sz){cs:List C}{us rest:List Value}(h:A2 (CR σ X) cs us){n nc:Nat}(q:cs.length=n*sz)(F:rest.length=(nc-n)*sz)(E:n≤nc)
  {e:TypeId} {w':World} (s:ea X.w w' (.cells (us++rest).toArray e)) :
  ∃ X',X'.w=w'∧X'.H=X.H++[.cS sz cs 0 0 .loc]∧SR Q σ X'∧Ext X.H.length X X'∧VR σ X' (.c (.sl X.H.length 0 n 0 0 sz)) (.slice (aa ⟨X.w.heap.size,0,ab⟩) n nc)∧X'.B≤X'.w.heap.size:=by
 obtain⟨X',u,j,v,x,y,z⟩:=SR.new l A (.cS sz cs 0 0 .loc) s nc fun X' H g B _=>⟨rfl,us,rest,by rw [g];exact ku s,A2.ext' σ H h,by
  have:=h.len;rw [ank,F,←this,q,←anM];congr 1;show n+(nc-n)=nc;omega,d,⟨n,q⟩,fun i _ m=>by rw [B]at m;have:=l.fb _ _ m;simp at this⟩
 refine⟨X',u,j,v,x,?_,z⟩;have b:X'.H[X.H.length]?=aa (.cS sz cs 0 0 .loc):=by rw [j];simp
 simp only [VR,iM,CR,fT,b];exact⟨anl _,fun _ _=>⟨_,y,0,by omega,by show 0+n≤nc;omega,by simp⟩,_,_,_,rfl⟩
theorem xP(q:SR Q σ X)(O:X.B≤X.w.heap.size){b sz:Nat}{x cs:List C}{fl u:Nat}{st:Os}(F:X.H[b]?=aa (.cS sz x fl u st)){ys:List C}{us B rest:List Value}(I:A2 (CR σ X) cs us)(K:A2 (CR σ X) ys B)
  (A:0<sz) {n nc:Nat} (J:cs.length+ys.length=n*sz) (W:rest.length=(nc-n)*sz) (U:n≤nc) {e:TypeId} {w':World} (j:ea X.w w' (.cells (us++B++rest).toArray e)) :
  ∃ X',X'.w=w'∧X'.H=X.H.set b (.cS sz (cs++ys) fl (u+1) .loc)∧SR Q σ X'∧Ext X.H.length X X'∧VR σ X' (.c (.sl b 0 n 0 (u+1) sz)) (.slice (aa ⟨X.w.heap.size,0,ab⟩) n nc)∧X'.B≤X'.w.heap.size:=by
 have z:b<X.H.length:=(IT.1 F).1
 let X':Wd:={ X with H:=X.H.set b (.cS sz (cs++ys) fl (u+1) .loc),cF:=fun k=>if k=b then aa ⟨X.w.heap.size,nc⟩else X.cF k,w:=w' }
 have g:X'.H[b]?=aa (.cS sz (cs++ys) fl (u+1) .loc):=by simp [X',z]
 have l:X'.cF b=aa ⟨X.w.heap.size,nc⟩:=by simp [X']
 have v:Ext X.H.length X X':=Ext.one q b rfl (fun _ _=>Iff.rfl) (fun k S _=>j.Bi S) (fun L i Y y=>World.cell?_of_block (j.Bi (q.fb _ _ y)))
  (fun _ bX d=>⟨_,g,by rw [F]at d;simp only [AI]at d;subst d;exact⟨rfl,.inr ⟨by omega,rfl,_,l⟩⟩⟩)
  (fun m h _=>by simp [X',sh (Ne.symm h)]) (fun m h=>by simp [X',h]) (fun L h=>by rw [l]at h;simp only [AI]at h;subst h;exact .inr (anl _)) (by show X.w.heap.size≤w'.heap.size;rw [j.size];omega) j.os j.tape j.output
 refine⟨X',rfl,rfl,SR.step Q σ q v b (fun m h=>by simp [X',sh (Ne.symm h)]) (fun m h=>by simp [X',h]) (fun m L _ s=>j.Bi (q.br m L s).2.1) (fun _ _ _ _ _ h=>h) (fun L h=>?_) (fun c i h=>?_),v,?_,?_⟩
 ·rw [l]at h;simp only [AI]at h;subst h;refine⟨O,by show X.w.heap.size<w'.heap.size;rw [j.size];omega,⟨_,g,rfl,us++B,rest,ku j,(A2.ext' σ v I).append (A2.ext' σ v K),?_,A,⟨n,by simpa using J⟩,fun i _ y=>?_⟩,fun m E _ s=>?_⟩
  ·have M:=I.len;have N:=K.len;rw [ank,ank,W,←M,←N,J,←anM];congr 1;show n+(nc-n)=nc;omega
  ·have:=q.fb _ _ y;simp at this
  ·have:=(q.br m E s).2.1;show E.c≠X.w.heap.size;omega
 ·have:=q.fb c i h;show c<w'.heap.size;rw [j.size];omega
 ·simp only [VR,iM,CR,fT,g];exact⟨anl _,fun _ _=>⟨_,l,0,by omega,by show 0+n≤nc;omega,by simp⟩,_,_,_,rfl⟩
 ·show X.B≤w'.heap.size;rw [j.size];omega
end
section
variable{Q:Program}{σ:Nat→FuncId}{X:Wd}
theorem Wn{d:Type}(us rest b:List d)(h:b.length≤rest.length):over (us++rest) us.length b=us++b++rest.drop b.length:=by
 unfold over;rw [List.take_left',←List.drop_drop,List.drop_left']
 all_goals rfl
theorem ah8(M:SR Q σ X){b sz:Nat}{cs:List C}{fl j:Nat}{L:Loc}(z:X.H[b]?=aa (.cS sz cs fl j .loc))(y:X.cF b=aa L){ys:List C}{m:List Value}(H:A2 (CR σ X) ys m)(Y:fl≤cs.length)
  {n:Nat} (Z:cs.length+ys.length=n*sz) (q:n≤L.cap):∃ X',(storeCells ⟨L.c,cs.length,ab⟩ m).run Q X.w=.ok () X'.w∧X'.H=X.H.set b (.cS sz (cs++ys) fl (j+1) .loc)∧SR Q σ X' ∧
   Ext X.H.length X X'∧VR σ X' (.c (.sl b 0 n 0 (j+1) sz)) (.slice (aa ⟨L.c,0,ab⟩) n L.cap)∧X'.w.heap.size=X.w.heap.size∧X'.B=X.B:=by
 obtain⟨_,_,bX,l,A⟩:=M.br b L y;rw [z]at l;simp only [AI]at l;subst l;obtain⟨_,us,rest,B,I,K,U,o,J⟩:=A;have s:b<X.H.length:=(IT.1 z).1;have a:=H.len;have g:=I.len;have F:n*sz≤L.cap*sz:=anX sz q;have E:m.length≤rest.length:=by simp only [ank]at K;omega
 obtain⟨N,c,e,f,k,x⟩:=ja B m cs.length (by simp;omega);rw [g,Wn _ _ _ E]at x;rw [←g]at x;obtain⟨O,S⟩:=SR.turn M (blk':=.cS sz (cs++ys) fl (j+1) .loc) z y N c (fun i W=>by
   have hi:i<fl:=by
    rcases anQ i fl with h | h
    ·exact h
    ·exact absurd W (J i h)
   have:=ec x i;rw [g]at this ⊢;rw [this,ec B,List.append_assoc,AT (by omega),AT (by omega)]) e f k
  (fun bX d=>⟨.cS sz (cs++ys) fl (j+1) .loc,by simp [s],by rw [z]at d;simp only [AI]at d;subst d;exact⟨rfl,.inr ⟨by omega,rfl,L,y⟩⟩⟩)
  (fun v=>⟨rfl,us++m,rest.drop m.length,by rw [g]at x ⊢;exact x,(A2.ext' σ v I).append (A2.ext' σ v H),by simp only [ank,anE]at K ⊢;omega,U,⟨n,by simpa using Z⟩,J⟩)
 refine⟨_,rk B m cs.length (by simp;omega) (A2.one H),rfl,O,S,?_,N,rfl⟩;have u:(X.H.set b (.cS sz (cs++ys) fl (j+1) .loc))[b]?=aa (.cS sz (cs++ys) fl (j+1) .loc):=by simp [s]
 simp only [VR,iM,CR,fT,u];exact⟨anl _,fun _ _=>⟨L,y,0,by omega,by omega,by simp⟩,_,_,_,rfl⟩
theorem yc{c:Call}{sz bytes:Nat}{x y:Arg}(h:dY Q σ c (.append sz bytes x y)=ae):∃ u v t m e,c.callee=.builtin .append∧c.args=#[u,v]∧c.argTypes=#[t,m]∧mA σ x u=ae∧mA σ y v=ae ∧
  ajz Q t m e sz bytes:=by
 simp only [dY]at h;split at h
 ·rename_i u v t m B E F;simp only [If]at h;obtain⟨⟨⟨I,J⟩,l⟩,g⟩:=h;obtain⟨e,H,l⟩:=il l;simp only [If,decide_eq_true_eq]at l;obtain⟨⟨⟨s,q⟩,d⟩,j⟩:=l;have A:∃ i z,Q.info? e=aa i∧i.zero=aa z∧z.cells.size=sz:=by
   cases hi:Q.info? e with
   | none=>simp [hi]at j
   | some i=>
    simp only [hi,Option.any_some]at j;cases b:i.zero with
    | none=>simp [b]at j| some z=>simp [b]at j;exact⟨i,z,rfl,b,j⟩
  refine⟨u,v,t,m,e,B,aby E,aby F,I,J,⟨H,?_,s,q,d,A⟩⟩;split at g
  ·exact⟨_,by assumption,fun k=>by simp⟩
  ·exact⟨_,by assumption,fun k=>by simp⟩
  ·simp at g
 ·simp at h
theorem JA(W:SR Q σ X)(hB:X.B≤X.w.heap.size){a:Act}{aG:T}(hR:RR σ X aG a.tmps){o:Oper}{sz bytes:Nat}{x y:Arg}(hm:dX Q σ o (.append sz bytes x y)=ae){v:V}{H':an}
  (h:bE aG X.H (.append sz bytes x y)=aa (v,H')):gV Q σ X v H' (execOp a.eval o):=by
 simp only [dX]at hm;split at hm
 ·rename_i c ho;obtain⟨u,v',t,t',e,h1,h2,h3,hx,hy,ht⟩:=yc hm;have hx:=bT hR hx;have hy:=bT hR hy;simp only [bE]at h;generalize n_:a.eval u=ux at hx;generalize o0:a.eval v'=uy at hy;generalize x.ev aG=vx at hx h;generalize y.ev aG=vy at hy h;have a_:∀(r:Value) (w':World),(Builtin.append_ #[t,t'] o.type #[ux,uy]).run Q X.w=.ok r w'→(execOp a.eval o).run Q X.w=.ok (.value r) w':=by
   intro r w' hr;refine dQ ho h1 fun cs=>?_;simp [builtin,h2,h3,n_,o0,hr]
  unfold bF at h;split at h
  ·simp at h
  rename_i m ys f8;rw [aT (by have:=ht.pos;omega)]at h;obtain⟨vs,c9,b_,d_,f7⟩:=zN W hy f8;obtain⟨Y,i8⟩:=SR.drew W;obtain⟨a8,_,e_,j8,_⟩:=zN Y (VR.ext' σ i8 hy) f8;have B:A2 (CR σ X) ys a8:=by
   have d9:Ext X.H.length { X with w:=X.w.drew } X:=Ext.one Y X.H.length rfl (fun _ _=>Iff.rfl) (fun _ _ _=>rfl) (fun _ _ _ _=>rfl) (fun h=>absurd h (apq _))
    (fun _ _ _=>rfl) (fun _ _=>rfl) (fun L h=>.inl ⟨L,h,rfl⟩) (anl _) rfl rfl rfl
   exact A2.ext' σ (X:={ X with w:=X.w.drew }) d9 j8
  have H:∀ {base:Option Addr} {l cap:Nat} {os:List Value} {cs:List C},ux=.slice base l cap→¬ l+m≤cap→cR (l+m) bytes=ae →
    (Builtin.firstCells sz l (.slice base l cap)).run Q X.w.drew=.ok os.toArray X.w.drew→A2 (CR σ X) cs os→cs.length=l*sz →
    gV Q σ X (.c (.sl X.H.length 0 (l+m) 0 0 sz)) (X.H++[.cS sz (cs++ys) 0 0 .loc]) (execOp a.eval o):=by
   intro base l cap os cs hu h_ d m9 l_ k_;obtain⟨nc,rest,w',J,j,g,K⟩:=(js ht o.type (base:=base) (l:=l) (cap:=cap) c9 b_).2 h_ d os a8 m9 e_;obtain⟨X',N,I,O,S,U,g6⟩:=Wb W hB ht.pos (cs:=cs++ys) (us:=os++a8) (l_.append B) (n:=l+m) (nc:=nc) (by rw [ank,k_,f7,anM]) K J g;exact⟨_,X',.inl (by rw [N];exact a_ _ _ (by rw [hu];exact j)),I,O,U,S,g6⟩
  have A:∀ {base:Option Addr} {l cap:Nat} {X':Wd},ux=.slice base l cap→l+m≤cap→(ri base (l*sz) vs).run Q X.w=.ok () X'.w →
    (execOp a.eval o).run Q X.w=.ok (.value (.slice base (l+m) cap)) X'.w:=by
   intro base l cap X' hu q n9;refine a_ _ _ ?_;rw [hu,(js ht o.type (base:=base) (l:=l) (cap:=cap) c9 b_).1 q,n9];rfl
  split at h
  ·
   cases (hx:cW σ X.F X.w .aC ux);split at h
   ·rename_i Z;subst Z;simp only [AI,anc]at h;obtain⟨rfl,rfl⟩:=h;exact⟨_,X,.inl (A (X':=X) rfl (by omega) rfl),rfl,W,cW.aC,Ext.refl _ _,hB⟩
   ·split at h
    ·rename_i d;simp only [AI,anc]at h;obtain⟨rfl,rfl⟩:=h;have:=H (base:=ab) (l:=0) (cap:=0) (os:=[]) (cs:=[]) rfl (by omega) (by simpa using d) (by simp [Builtin.firstCells]) A2.nil (by simp);simpa using this
    ·simp at h
  ·
   cases (hx:cW σ X.F X.w .es ux);rename_i ad;split at h
   ·rename_i Z;subst Z;simp only [AI,anc]at h;obtain⟨rfl,rfl⟩:=h;have i6:vs=[]:=anz (by rw [←d_.len,f7];simp);exact⟨_,X,.inl (A (X':=X) rfl (by omega) (by rw [i6];rfl)),rfl,W,cW.es _,Ext.refl _ _,hB⟩
   ·split at h
    ·rename_i d;simp only [AI,anc]at h;obtain⟨rfl,rfl⟩:=h;have:=H (base:=aa ad) (l:=0) (cap:=0) (os:=[]) (cs:=[]) rfl (by omega) (by simpa using d) (by simp [Builtin.firstCells,loadCells,loadCellsFrom]) A2.nil (by simp);simpa using this
    ·simp at h
  ·rename_i b a7 l cap ep s;have i7:CR σ X (.sl b a7 l cap ep s) ux:=hx;simp only [VR,iM,CR,fT]at hx;split at h
   ·
    rename_i cs fl F;rw [F]at hx;obtain⟨L,hL,o6,rfl⟩:=hx;split at h
    ·rename_i q;split at h
     ·rename_i hc;simp only [AI,anc]at h;obtain⟨rfl,rfl⟩:=h;obtain⟨X',N,I,O,S,U,g6,g7⟩:=Be W F hL d_ hc.1 hc.2;refine⟨_,X',.inl (A rfl q (by simp only [ri,er];exact N)),I,O,?_,S,by omega⟩;have c_:X'.H[b]?=aa (.box (over cs (a7+l*sz) ys) fl):=by rw [I];simp [(IT.1 F).1]
      simp only [VR,iM,CR,fT,c_];exact⟨L,by rw [U];exact hL,q,rfl⟩
     ·simp at h
    ·rename_i h_;split at h
     ·rename_i hc;simp only [AI,anc]at h;obtain⟨rfl,rfl⟩:=h;have i3:cV X.H sz (.sl b a7 l cap ep s)=aa ((cs.drop a7).take (l*sz)):=by simp [cV,F,hc.2]
      have i4:bu X.H (.sl b a7 l cap ep s)=aa l:=by simp [bu,F]
      obtain⟨os,q1,q2,q3⟩:=lF Y (CR.ext' σ i8 i7) i4 i3;have i9:A2 (CR σ X) ((cs.drop a7).take (l*sz)) os:=by
       have d9:Ext X.H.length { X with w:=X.w.drew } X:=Ext.one Y X.H.length rfl (fun _ _=>Iff.rfl) (fun _ _ _=>rfl) (fun _ _ _ _=>rfl) (fun h=>absurd h (apq _))
        (fun _ _ _=>rfl) (fun _ _=>rfl) (fun L h=>.inl ⟨L,h,rfl⟩) (anl _) rfl rfl rfl
       exact A2.ext' σ (X:={ X with w:=X.w.drew }) d9 q2
      exact H rfl h_ hc.1 q1 i9 q3
     ·simp at h
   ·
    rename_i s' cs fl e' st F;rw [F]at hx;split at h
    ·rename_i hc;obtain⟨rfl,rfl,rfl⟩:=hc;have M:=hx.2.1 rfl rfl;split at h
     ·
      rename_i Z;subst Z;simp only [AI,anc]at h;obtain⟨rfl,rfl⟩:=h;have i6:vs=[]:=anz (by rw [←d_.len,f7];simp);obtain⟨base,n,cp,E⟩:=hx.2.2;have n8:n=l∧l≤cp:=by
       cases st with
       | loc=>obtain⟨L,_,k,_,hk,h8⟩:=M;rw [E]at h8;simp only [Value.slice.injEq]at h8;omega
       | nil=>obtain⟨_,rfl,h8⟩:=M;rw [E]at h8;simp only [Value.slice.injEq]at h8;omega
       | es=>obtain⟨_,rfl,_,h8⟩:=M;rw [E]at h8;simp only [Value.slice.injEq]at h8;omega
      obtain⟨rfl,o5⟩:=n8;refine⟨.slice base (n+0) cp,X,.inl (A (X':=X) E (by omega) (by rw [i6];cases base<;>rfl)),rfl,W,?_,Ext.refl _ _,hB⟩;rw [Nat.add_zero,←E];exact i7
     ·rename_i Z;split at h
      ·
       rename_i hc;obtain⟨rfl,z,i_⟩:=hc;split at h
       ·rename_i d;simp only [AI,anc]at h;obtain⟨rfl,rfl⟩:=h;have hn:cs.length+ys.length=(l+m)*s:=by rw [f7,←z,anM]
        cases st with
        | loc=>
         obtain⟨L,hL,k,n6,hk,rfl⟩:=M;have j7:k=0:=by
          rcases apt.1 n6.symm with h8 | h8
          ·exact h8
          ·have:=ht.pos;omega
         subst j7;rw [Nat.sub_zero]at *;by_cases q:l+m≤L.cap
         ·obtain⟨X',N,I,O,S,U,g6,g7⟩:=ah8 W F hL d_ i_ hn q;exact⟨_,X',.inl (A rfl q (by simp only [ri,er];rw [z,aoa];exact N)),I,O,U,S,by omega⟩
         ·have i3:cV X.H s (.sl b 0 l cap ep s)=aa ((cs.drop 0).take (l*s)):=by simp [cV,F,z]
          have i4:bu X.H (.sl b 0 l cap ep s)=aa l:=by simp [bu,F]
          obtain⟨os,q1,q2,q3⟩:=lF Y (CR.ext' σ i8 i7) i4 i3;have i9:A2 (CR σ X) cs os:=by
           have d9:Ext X.H.length { X with w:=X.w.drew } X:=Ext.one Y X.H.length rfl (fun _ _=>Iff.rfl) (fun _ _ _=>rfl) (fun _ _ _ _=>rfl) (fun h=>absurd h (apq _))
            (fun _ _ _=>rfl) (fun _ _=>rfl) (fun L h=>.inl ⟨L,h,rfl⟩) (anl _) rfl rfl rfl
           have:=A2.ext' σ (X:={ X with w:=X.w.drew }) d9 q2;rwa [aod,z,List.take_length]at this
          obtain⟨nc,rest,w',J,j,g,K⟩:=(js ht o.type (base:=aa ⟨L.c,0,ab⟩) (l:=l) (cap:=L.cap) c9 b_).2 q d os a8 q1 e_;obtain⟨X',N,I,O,S,U,g6⟩:=xP W hB F i9 B ht.pos hn K J g;exact⟨_,X',.inl (by rw [N];exact a_ _ _ (by simpa using j)),I,O,U,S,g6⟩
        | nil=>
         obtain⟨_,rfl,rfl⟩:=M;have g_:cs=[]:=anz (by simpa using z.symm);subst g_;obtain⟨nc,rest,w',J,j,g,K⟩:=(js ht o.type (base:=ab) (l:=0) (cap:=0) c9 b_).2 (by omega) d [] a8 (by simp [Builtin.firstCells]) e_;obtain⟨X',N,I,O,S,U,g6⟩:=xP W hB F (us:=[]) A2.nil B ht.pos hn K J g;exact⟨_,X',.inl (by rw [N];exact a_ _ _ j),I,O,U,S,g6⟩
        | es=>
         obtain⟨_,rfl,ad,rfl⟩:=M;have g_:cs=[]:=anz (by simpa using z.symm);subst g_;obtain⟨nc,rest,w',J,j,g,K⟩:=(js ht o.type (base:=aa ad) (l:=0) (cap:=0) c9 b_).2 (by omega) d [] a8 (by simp [Builtin.firstCells,loadCells,loadCellsFrom]) e_;obtain⟨X',N,I,O,S,U,g6⟩:=xP W hB F (us:=[]) A2.nil B ht.pos hn K J g;exact⟨_,X',.inl (by rw [N];exact a_ _ _ j),I,O,U,S,g6⟩
       ·simp at h
      ·split at h
       ·
        rename_i hc;obtain⟨rfl,j4,m_⟩:=hc;simp only [AI,anc]at h;obtain⟨rfl,rfl⟩:=h;obtain⟨L,hL,k,rfl,hk,rfl⟩:=M;obtain⟨_,_,bX,f_,j_⟩:=W.br b L hL;rw [F]at f_;simp only [AI]at f_;subst f_;obtain⟨_,us,rest,hr,j9,h6,h7,h8,o4⟩:=j_;have q:l+m≤L.cap-k:=by
         have e1:(k+(l+m))*s≤L.cap*s:=by
          rw [anM,anM];have:=j9.len;simp only [ank]at h6;omega
         have:=Nat.le_of_mul_le_mul_right e1 h7;omega
        obtain⟨X',N,I,O,S,U,g6,g7⟩:=Bf W F hL d_ j4 m_;refine⟨_,X',.inl (A rfl q (by simp only [ri,er];exact N)),I,O,?_,S,by omega⟩;have c_:X'.H[b]?=aa (.cS s (over cs (k*s+l*s) ys) fl ep .loc):=by rw [I];simp [(IT.1 F).1]
        simp only [VR,iM,CR,fT,c_];exact⟨anl _,fun _ _=>⟨L,by rw [U];exact hL,k,rfl,by omega,rfl⟩,_,_,_,rfl⟩
       ·simp at h
    ·simp at h
   ·simp at h
  ·simp at h
 ·simp at hm
end
section
variable{Q:Program}{σ:Nat→FuncId}{X:Wd}
theorem BU{c:Call}{sz bytes:Nat}{zs:List FC}{x y:Arg}(h:dY Q σ c (.me sz bytes zs x y)=ae):∃ u v t j e k,c.callee=.builtin .append∧c.args=#[u,v]∧c.argTypes=#[t,j]∧mA σ x u=ae∧mA σ y v=ae ∧
  Q.underlying t=aa (.slice e)∧dI Q e sz=ae∧nq Q e bytes=ae∧0<sz∧kz Q e zs=ae∧Q.underlying j=aa (.int k):=by
 simp only [dY]at h;split at h
 ·rename_i u v t j q s z;simp only [If]at h;obtain⟨⟨⟨E,F⟩,g⟩,d⟩:=h;obtain⟨e,B,g⟩:=il g;simp only [If,decide_eq_true_eq]at g;obtain⟨⟨⟨m,l⟩,b⟩,H⟩:=g;split at d
  ·rename_i k A;exact⟨u,v,t,j,e,k,q,aby s,aby z,E,F,B,m,l,b,H,A⟩
  ·simp at d
 ·simp at h
theorem Xg{n:Nat}(h:n<2 ^ 48):IntKind.i64.wrap (n:Int)=n:=by
 simp only [IntKind.wrap,IntKind.bits,IntKind.signed];have b:(2 ^ 64:Int)=18446744073709551616:=by decide
 have d:(2 ^ (64-1):Int)=9223372036854775808:=by decide
 have g:(2:Nat) ^ 48=281474976710656:=by decide
 simp only [b,d,aol,decide_eq_true_eq];split<;>omega
theorem ur{t Z e:TypeId}{sz bytes:Nat}{k k':IntKind}(c:Q.underlying t=aa (.slice e))(A:Q.underlying Z=aa (.int k))(x:dI Q e sz=ae)(F:nq Q e bytes=ae)(a:0<sz)
  {z:Value} {us:List Value} {i:TypeInfo} (hi:Q.info? e=aa i) (r:i.zero=aa z) (U:z.cells=us.toArray) (N:us.length=sz) (f:TypeId) {base:Option Addr} {n:Nat} {w:World} :
  (n=0→(Builtin.append_ #[t,Z] f #[.slice base 0 0,.int k' (n:Int)]).run Q w=.ok (.slice base 0 0) w) ∧
  (n≠0→cR n bytes=ae→∃ nc rest w',n≤nc∧(Builtin.append_ #[t,Z] f #[.slice base 0 0,.int k' (n:Int)]).run Q w=.ok (.slice (aa ⟨w.heap.size,0,ab⟩) n nc) w' ∧
   ea w w' (.cells (cQ n us++rest).toArray e)∧rest.length=(nc-n)*sz):=by
 obtain⟨g,l,s⟩:=yG F w;have u:g=i:=by simp [typeInfo,hi]at l;exact l.symm
 subst u;have y:∀ w',(typeInfo e).run Q w'=.ok g w':=fun w'=>by simp [typeInfo,hi]
 have Y:∀ w',(zeroValue e).run Q w'=.ok z w':=fun w'=>by simp [zeroValue,typeInfo,hi,r]
 have j:∀(q:Int) w',(asInt (.int k' q)).run Q w'=.ok q w':=fun q w'=>by simp [asInt,asIntOf]
 constructor
 ·rintro rfl;have O:IntKind.i64.wrap 0=0:=by decide
  simp only [Builtin.append_,apk];simp [a5 c,a5 A,dm x,y,j,O];cases base<;>simp [storeCells]
 ·intro hn b;have E:=b;unfold cR at b;simp only [If,decide_eq_true_eq]at b;have S:=Xg b.2;have K:¬ (Builtin.nextslicecap n 0*g.bytes>2 ^ 48):=by
   rw [s];have:=tT (need:=n) (cap:=0) (by omega);have:=anX bytes this;omega
  let nc:=(Question.appendCap n 0 e).cut (w.tape w.drawn (.appendCap n 0 e))
  have L:n≤nc:=by simp [nc,Question.cut]
  have H:(choose (.appendCap n 0 e)).run Q w=.ok nc w.drew:=by
   simp [choose,Sem.run,Question.forced,nc]
  have X:∀ m,Builtin.zeroCells z.cells m=(cQ m us).toArray:=fun m=>by
   have:=iL us m (by omega);simpa [Builtin.zeroCells,U]using this
  have v:¬ ((n:Int)>IntKind.i64.max):=by
   have:IntKind.i64.max=9223372036854775807:=by decide
   have e3:(2:Nat) ^ 48=281474976710656:=by decide
   rw [this];omega
  have I:¬ ((n:Int)<0):=by omega
  have J:¬ ((n:Int)*(g.bytes:Int)>2 ^ 48):=by
   rw [s];have o:n*bytes≤2 ^ 48:=anL (anX bytes (by omega:n≤2*n+768)) b.1;have p:((n*bytes:Nat):Int)≤2 ^ 48:=by
    have B:((2 ^ 48:Nat):Int)=2 ^ 48:=by decide
    rw [←B];exact Int.ofNat_le.2 o
   rw [aph]at p;omega
  have d:(Builtin.firstCells sz 0 (.slice base 0 0)).run Q w.drew=.ok #[] w.drew:=by
   cases base<;>simp [Builtin.firstCells,loadCells,loadCellsFrom]
  have M:¬ (n*sz=0):=by
   intro h;rcases apt.1 h with h | h<;>omega
  refine⟨nc,cQ (nc-n) us,w.drew.alloc (.cells (cQ n us++cQ (nc-n) us).toArray e),L,?_,⟨rfl,rfl,rfl,rfl⟩,by rw [kr,N]⟩;have W:¬ (n≤0):=by omega
  have hint:((n:Int)).toNat=n:=by simp
  simp only [Builtin.append_,Sem.run_bind,a5 c,a5 A,dm x,Result.andThen_ok,Sem.run_pure,anF,if_false,Sem.run_ite,y,false_and,K,H,run_askRoom,
   Bool.not_true,if_true,Y,X,newRow,run_newObj,apk,ao1,apg,j,S,I,J,hint,aoa,W,v,M,d,true_or,and_true,Bool.true_eq]
  have B:#[]++(cQ n us).toArray++(cQ (nc-n) us).toArray=(cQ n us++cQ (nc-n) us).toArray:=by simp
  first
   | (rw [B];rfl)
   | (simp [B];rfl)
theorem abx(U:SR Q σ X)(S:X.B≤X.w.heap.size){a:Act}{aG:T}(hR:RR σ X aG a.tmps){o:Oper}{sz bytes:Nat}{zs:List FC}{x y:Arg}(N:dX Q σ o (.me sz bytes zs x y)=ae){v:V}{H':an}
  (h:bE aG X.H (.me sz bytes zs x y)=aa (v,H')):gV Q σ X v H' (execOp a.eval o):=by
 simp only [dX]at N;split at N
 ·rename_i c ho;obtain⟨u,v',t,t',e,k,h1,h2,h3,J,L,f,F,s,g,hz,W⟩:=BU N;have J:=bT hR J;have L:=bT hR L;simp only [bE]at h;generalize i:a.eval u=O at J;generalize p:a.eval v'=uy at L;generalize x.ev aG=vx at J h;generalize y.ev aG=vy at L h;have l:∀(r:Value) (w':World),(Builtin.append_ #[t,t'] o.type #[O,uy]).run Q X.w=.ok r w'→(execOp a.eval o).run Q X.w=.ok (.value r) w':=by
   intro r w' hr;refine dQ ho h1 fun cs=>?_;simp [builtin,h2,h3,i,p,hr]
  unfold zS at h;split at h
  ·rename_i n hn;obtain⟨k',E⟩:=iW L hn;split at h
   ·rename_i hc;obtain⟨z,us,a7,I,M,i0,A,B⟩:=fk (σ:=σ) (X:=X) hz X.w;have H:us.length=sz:=by have:=M.len;simp at this;omega
    obtain⟨m,rfl⟩:∃ m:Nat,n=m:=⟨n.toNat,by omega⟩
    have j:∀ base,O=.slice base 0 0→(v,H')=(.c (.sl X.H.length 0 m 0 0 sz),X.H++[.cS sz ((cQ m zs).map .f) 0 0 .loc])→m≠0→cR m bytes=ae→gV Q σ X v H' (execOp a.eval o):=by
     intro base hb he d b;cases he;obtain⟨nc,rest,w',Y,K,q,Z⟩:=(ur (k':=k') f W F s g A B I H o.type (base:=base) (n:=m)).2 d b;obtain⟨X',g1,g2,g3,g4,g5,g6⟩:=Wb U S g (cs:=(cQ m zs).map .f) (us:=cQ m us) (ju M m) (n:=m) (nc:=nc) (by rw [anq,kr,hc.2]) Z Y q;exact⟨_,X',.inl (by rw [g1];exact l _ _ (by rw [hb,E];exact K)),g2,g3,g5,g4,g6⟩
    split at h
    ·cases (J:cW σ X.F X.w .aC O);simp only [anJ]at h;split at h
     ·rename_i d;simp only [AI,anc]at h;obtain⟨rfl,rfl⟩:=h;exact⟨_,X,.inl (l _ _ (by rw [E];exact(ur (k':=k') f W F s g A B I H o.type (base:=ab) (n:=m)).1 d)),rfl,U,cW.aC,Ext.refl _ _,S⟩
     ·rename_i d;split at h
      ·rename_i b;simp only [AI]at h;exact j ab rfl h.symm d b
      ·simp at h
    ·cases (J:cW σ X.F X.w .es O);rename_i w;simp only [anJ]at h;split at h
     ·rename_i d;simp only [AI,anc]at h;obtain⟨rfl,rfl⟩:=h;exact⟨_,X,.inl (l _ _ (by rw [E];exact(ur (k':=k') f W F s g A B I H o.type (base:=aa w) (n:=m)).1 d)),rfl,U,cW.es _,Ext.refl _ _,S⟩
     ·rename_i d;split at h
      ·rename_i b;simp only [AI]at h;exact j (aa w) rfl h.symm d b
      ·simp at h
    ·simp at h
   ·simp at h
  ·simp at h
 ·simp at N
end
section
variable{Q:Program}{σ:Nat→FuncId}{X:Wd}
theorem ahL(s:SR Q σ X)(m:X.B≤X.w.heap.size){a:Act}{aG:T}{o:Oper}{st:Os}{sz:Nat}(d:dX Q σ o (.pre st sz)=ae){v:V}{H':an}
  (h:bE aG X.H (.pre st sz)=aa (v,H')):gV Q σ X v H' (execOp a.eval o):=by
 cases st with
 | nil=>
  simp only [bE]at h;split at h
  ·simp at h
  ·simp only [AI,anc]at h;obtain⟨rfl,rfl⟩:=h;obtain⟨j,l⟩:=SR.grow s (.cS sz [] 0 0 .nil);have q:VR σ { X with H:=X.H++[.cS sz [] 0 0 .nil] } (.c (.sl X.H.length 0 0 0 0 sz)) (.slice ab 0 0):=by
    have b:(X.H++[bV.cS sz [] 0 0 .nil])[X.H.length]?=aa (.cS sz [] 0 0 .nil):=by simp
    simp only [VR,iM,CR,fT,b];exact⟨anl _,fun _ _=>by simp,_,_,_,rfl⟩
   simp only [dX]at d;split at d
   ·rename_i g;exact⟨.slice ab 0 0,_,.inl (by simp [execOp,g,Act.eval]),rfl,j,q,l,m⟩
   ·rename_i g;exact⟨.slice ab 0 0,_,.inl (by simp [execOp,g,Act.eval]),rfl,j,q,l,m⟩
   ·simp at d
 | _=>simp [dX]at d
theorem V_(u:SR Q σ X)(s:X.B≤X.w.heap.size){a:Act}{o:Oper}(b:dX Q σ o .kj=ae):gV Q σ X (.c (.mp X.H.length)) (X.H++[.map []]) (execOp a.eval o):=by
 simp only [dX]at b;split at b
 ·rename_i t v;obtain⟨X',g,d,j,l,m,q⟩:=SR.new u s (.map []) (ea.alloc X.w (.map #[] 0)) 0 fun X' z x y _=>⟨[],by rw [x];exact(ea.alloc _ _).new,A2.nil,by simp⟩
  exact⟨.map (aa X.w.heap.size),X',.inl (by rw [g];simp [execOp,v,Instr.makeMap]),d,j,⟨_,m,⟨[],by rw [d];simp⟩,rfl⟩,l,q⟩
 ·simp at b
theorem WI(E:SR Q σ X)(A:X.B≤X.w.heap.size){a:Act}{aG:T}(B:RR σ X aG a.tmps){o:Oper}{x:Arg}(d:dX Q σ o (.range x)=ae){v:V}{H':an}
  (h:bE aG X.H (.range x)=aa (v,H')):gV Q σ X v H' (execOp a.eval o):=by
 simp only [dX]at d;split at d
 ·rename_i t y F;simp only [If]at d;obtain⟨b,j⟩:=d;have b:=bT B b;simp only [bE]at h;split at h
  ·rename_i s H;rw [H]at b;have b:=VR.str b;simp only [AI,anc]at h;obtain⟨rfl,rfl⟩:=h;split at j
   ·rename_i I;obtain⟨X',l,g,m,q,u,z⟩:=SR.new E A (.it s 0) (ea.alloc X.w (.stringIter s 0)) 0 fun X' b J K _=>by
     show X'.w.heap[X.w.heap.size]?=_;rw [J];exact(ea.alloc _ _).new
    exact⟨.pointer (aa ⟨X.w.heap.size,0,ab⟩),X',.inl (by rw [l];simp [execOp,F,Instr.range,a5 I,b]),g,m,⟨_,u,⟨s,0,by rw [g];simp⟩,rfl⟩,q,z⟩
   ·simp at j
  ·simp at h
 ·simp at d
theorem SR.qw(s:SR Q σ X){b:Nat}{bX blk':bV}{L:Loc}{o o':Obj}(hb:X.H[b]?=aa bX)(q:X.cF b=aa L)(ho:X.w.heap[L.c]?=aa o)(m:∀ c e f,o≠.cells c e f)(j:∀ c e f,o'≠.cells c e f)
  (d:lP X { X with H:=X.H.set b blk',w:={ X.w with heap:=X.w.heap.setIfInBounds L.c o' } } b)
  (l:∀ X',Ext X.H.length X X'→X'.w.heap[L.c]?=aa o'→X'.F=X.F→X'.cF=X.cF→X'.H=X.H.set b blk'→BR Q σ X' blk' L) :
  SR Q σ { X with H:=X.H.set b blk',w:={ X.w with heap:=X.w.heap.setIfInBounds L.c o' } }∧Ext X.H.length X { X with H:=X.H.set b blk',w:={ X.w with heap:=X.w.heap.setIfInBounds L.c o' } }:=by
 have g:L.c<X.w.heap.size:=(s.br b L q).2.1;refine SR.turn s hb q (by simp) (fun k x=>by simp [Array.getElem?_setIfInBounds_ne (Ne.symm x)]) (fun i _=>?_) rfl rfl rfl d (fun y=>l _ y (by simp [g]) rfl rfl rfl);have u:({ X.w with heap:=X.w.heap.setIfInBounds L.c o' }:World).cell? ⟨L.c,i,ab⟩=ab:=by
  simp only [World.cell?];rw [show(X.w.heap.setIfInBounds L.c o')[L.c]?=aa o' by simp [g]];cases o'<;>simp at j ⊢
 have v:X.w.cell? ⟨L.c,i,ab⟩=ab:=by
  simp only [World.cell?,ho];cases o<;>simp at m ⊢
 rw [u,v]
theorem acF(q:SR Q σ X)(A:X.B≤X.w.heap.size){a:Act}{aG:T}(M:RR σ X aG a.tmps){o:Oper}{x:Arg}(m:dX Q σ o (.next x)=ae){v:V}{H':an}
  (h:bE aG X.H (.next x)=aa (v,H')):gV Q σ X v H' (execOp a.eval o):=by
 simp only [dX]at m;split at m
 ·rename_i y E;have H:=bT M m;simp only [bE]at h;unfold aea at h;split at h
  ·rename_i b O;rw [O]at H;obtain⟨L,B,⟨U,S,N⟩,F⟩:=H;split at h
   ·rename_i s pos l;obtain⟨_,_,bX,j,u⟩:=q.br b L B;rw [l]at j;simp only [AI]at j;subst j;have g:X.w.heap[L.c]?=aa (.stringIter s pos):=u;split at h
    ·rename_i z;simp only [AI,anc]at h;obtain⟨rfl,rfl⟩:=h;obtain⟨I,J⟩:=SR.qw (o':=.stringIter s (pos+(Utf8.decode s pos).2)) (blk':=.it s (pos+(Utf8.decode s pos).2)) q l B g (by simp) (by simp)
      (fun bX d=>⟨.it s (pos+(Utf8.decode s pos).2),by simp [(IT.1 l).1],by rw [l]at d;simp only [AI]at d;subst d;exact fun L h=>h⟩)
      (fun X' _ K _ _ _=>K)
     refine⟨.tuple #[.bool ae,.int .i64 pos,.int .i32 (Utf8.decode s pos).1],_,.inl ?_,rfl,I,⟨[.bool ae,.int .i64 pos,.int .i32 (Utf8.decode s pos).1],rfl,?_⟩,J,by simpa using A⟩
     ·simp only [execOp,E];refine eu ?_;simp [Instr.next,F,getObj,setObj,Sem.run,g,z,goInt]
     ·exact A2.cons (cW.bool _) (A2.cons (cW.int _ _) (A2.cons (cW.int _ _) A2.nil))
    ·rename_i z;simp only [AI,anc]at h;obtain⟨rfl,rfl⟩:=h;refine⟨.tuple #[.bool ag],X,.inl ?_,rfl,q,⟨[.bool ag],rfl,A2.cons (cW.bool _) A2.nil⟩,Ext.refl _ _,A⟩;simp only [execOp,E];refine eu ?_;simp [Instr.next,F,getObj,Sem.run,g,z]
   ·simp at h
  ·simp at h
 ·simp at m
theorem AK{s:CK}{d:TypeDesc}(z:(s=.int∧∃ j,d=.int j)∨(s=.str∧d=.string)∨(s=.bool∧d=.bool)){F:Nat→Nat→Prop}{w:World}{k:FC}{v:C}{x:Value}(B:cW σ F w k x) :
  ∀ {R:C→Value→Prop} {l g:List (FC × C)} {b:List MapEntry},A2 (fun e m=>cW σ F w e.1 m.key∧R e.2 m.val) l b→∀(i:Nat),rM s k v l=aa g →
  (Instr.findNow d x b i=aa ab∧g=l++[(k,v)])∨∃(j:Nat) (u:Value) (m:MapEntry),Instr.findNow d x b i=aa (aa (i+j,u))∧b[j]?=aa m∧Instr.sameNow d x m.key=aa ae∧g=l.set j (k,v)
 | _,[],g,[],_,i,h=>by
  simp only [rM,AI]at h;subst h;exact .inl ⟨rfl,rfl⟩
 | _,[],_,_::_,q,_,_=>by have:=q.len;simp at this
 | _,_::_,_,[],q,_,_=>by have:=q.len;simp at this
 | _,e::l,g,m::b,q,i,h=>by
  obtain⟨⟨H,N⟩,E⟩:=q.of_cons;simp only [rM]at h;split at h
  ·rename_i A;simp only [AI]at h;subst h;have:=tz z B H A;exact .inr ⟨0,m.val,m,by simp [Instr.findNow,this],rfl,this,rfl⟩
  ·rename_i A;simp only [IN]at h;obtain⟨I,J,rfl⟩:=h;have:=tz z B H A;rcases AK z B E (i+1) J with⟨y,rfl⟩ | ⟨j,u,M,y,K,L,rfl⟩
   ·exact .inl ⟨by simp [Instr.findNow,this,y],rfl⟩
   ·exact .inr ⟨j+1,u,M,by simp [Instr.findNow,this,y];omega,by simpa using K,L,rfl⟩
  ·simp at h
theorem A4{d:TypeDesc}{u v:Value}(h:Instr.sameNow d u v=aa ae)(n:Nat):Instr.sameBits n v u=ae:=by
 unfold Instr.sameNow at h;split at h
 ·split at h
  ·rename_i b;subst b;simp only [AI,beq_iff_eq]at h;subst h;simp [Instr.sameBits]
  ·simp at h
 ·simp only [AI,beq_toListBytes,beq_iff_eq]at h;simp [Instr.sameBits,beq_toListBytes,h]
 ·simp only [AI,beq_iff_eq]at h;subst h;simp [Instr.sameBits]
 ·simp at h
theorem ajL{c:C}{u:Value}(h:VR σ X (mV c) u):iM σ X (mV c) u:=by
 cases c
 case cl f cs=>
  simp only [mV]at h ⊢;split at h
  ·rename_i b;rw [bf b];exact h
  ·rename_i b;rw [aT b];exact h
 all_goals exact h
theorem V6(hS:SR Q σ X)(hB:X.B≤X.w.heap.size){a:Act}{aG:T}(hR:RR σ X aG a.tmps){o:Oper}{ck:CK}{x y z:Arg}(E:dX Q σ o (.lT ck x y z)=ae){v:V}{H':an}
  (h:bE aG X.H (.lT ck x y z)=aa (v,H')):gV Q σ X v H' (execOp a.eval o):=by
 simp only [dX]at E;split at E
 ·rename_i t x' M Y ho;simp only [If]at E;obtain⟨⟨⟨hx,K⟩,W⟩,ht⟩:=E;have hx:=bT hR hx;have K:=bT hR K;have W:=bT hR W;split at ht
  ·rename_i kt e hu;simp only [bE]at h;split at h
   ·rename_i b k vv c_ f7 g_;rw [c_]at hx;rw [f7]at K;rw [←V4 g_]at W;have W:iM σ X (mV vv) (a.eval Y):=ajL W;obtain⟨L,hL,_,c9⟩:=hx;split at h
    ·rename_i es hb;split at h
     ·rename_i a8;simp only [IN,anc]at h;obtain⟨F,hp,rfl,rfl⟩:=h;obtain⟨_,_,bX,N,d_⟩:=hS.br b L hL;rw [hb]at N;simp only [AI]at N;subst N;obtain⟨q,I,h2,B⟩:=d_;have go:∀ d,Q.underlying kt=aa d→((ck=.int∧∃ j,d=.int j)∨(ck=.str∧d=.string)∨(ck=.bool∧d=.bool))→gV Q σ X .top (X.H.set b (.map F)) (execOp a.eval o):=by
       intro d A hd;have a7:∀(l:List MapEntry),(Instr.mapUpdate t (a.eval x') (a.eval M) (a.eval Y)).run Q X.w=.ok () { X.w with heap:=X.w.heap.setIfInBounds L.c (.map l.toArray l.length) } →
         A2 (fun(e:FC × C) (m:MapEntry)=>cW σ X.F X.w e.1 m.key∧iM σ X (mV e.2) m.val) F l→(∀(i:Nat) m,l[i]?=aa m→m.born=i)→gV Q σ X .top (X.H.set b (.map F)) (execOp a.eval o):=by
        intro l b_ hA d9;obtain⟨g1,g2⟩:=SR.qw (o':=.map l.toArray l.length) (blk':=.map F) hS hb hL I (by simp) (by simp)
         (fun bX H=>⟨.map F,by simp [(IT.1 hb).1],by rw [hb]at H;simp only [AI]at H;subst H;exact fun L h=>h⟩)
         (fun X' U h1 hF _ _=>⟨l,h1,hA.kB fun e m h=>⟨cW.mono U.F U.fw h.1,iM.ext' σ U h.2⟩,d9⟩)
        exact⟨undef,_,.inr ⟨by simp [execOp,ho,b_],rfl⟩,rfl,g1,trivial,g2,by simpa using hB⟩
       rcases AK (R:=fun c u=>iM σ X (mV c) u) hd K h2 0 hp with⟨J,rfl⟩ | ⟨j,u,m,J,Z,h6,rfl⟩
       ·have O:A2 (fun(e:FC × C) (m:MapEntry)=>cW σ X.F X.w e.1 m.key∧iM σ X (mV e.2) m.val) [(k,vv)] [({ key:=a.eval M,val:=a.eval Y,born:=q.length }:MapEntry)]:=A2.cons (And.intro K W) A2.nil;refine a7 (q++[{ key:=a.eval M,val:=a.eval Y,born:=q.length }]) ?_ (h2.append O) ?_
        rotate_left
        ·intro i m E;by_cases hi:i<q.length
         ·rw [AT hi]at E;exact B i m E
         ·rw [List.getElem?_append_right (by omega)]at E;have e_:i-q.length=0:=by
           have:=(IT.1 E).1;simp at this;omega
          rw [e_]at E;simp only [ao1,AI]at E;subst E;simp only;omega
        simp [Instr.mapUpdate,a5 hu,c9,getObj,setObj,Sem.run,I,iz ht K a8,Instr.findKey,a5 A,J]
       ·rw [aoa]at J;refine a7 (q.set j { m with key:=a.eval M,val:=a.eval Y }) ?_ ?_ ?_
        ·have f_:(Instr.keyThatStays m.key (a.eval M)).run Q X.w=.ok (a.eval M) X.w:=by
          simp [Instr.keyThatStays,A4 h6 10000]
         have a_:q.modify j (fun e=>{ e with key:=a.eval M,val:=a.eval Y })=q.set j { m with key:=a.eval M,val:=a.eval Y }:=by
          apply List.ext_getElem?;intro i;simp only [List.getElem?_modify,apl];by_cases s:j=i
          ·subst s;have S:=(IT.1 Z).1;have f8:=(IT.1 Z).2;simp [Z,S,f8]
          ·simp [s]
         simp [Instr.mapUpdate,a5 hu,c9,getObj,setObj,Sem.run,I,iz ht K a8,Instr.findKey,a5 A,J,Z,f_,a_]
        ·refine⟨by simpa using h2.len,fun i e' m' he g=>?_⟩;rw [apl]at he g;split at he
         ·rename_i s;subst s;simp only [if_true]at g;have S:=(IT.1 Z).1;have h_:=h2.len;rw [bf (by omega)]at he;rw [bf S]at g;simp only [AI]at he g;subst he;subst g;exact⟨K,W⟩
         ·rename_i s;rw [aT s]at g;exact h2.2 i e' m' he g
        ·intro i m' g;rw [apl]at g;split at g
         ·rename_i s;subst s;split at g
          ·simp only [AI]at g;subst g;exact B j m Z
          ·simp at g
         ·exact B i m' g
      rcases kY ht with⟨J,j,A⟩ | ⟨J,A⟩ | ⟨J,A⟩
      ·exact go _ A (.inl ⟨J,j,rfl⟩)
      ·exact go _ A (.inr (.inl ⟨J,rfl⟩))
      ·exact go _ A (.inr (.inr ⟨J,rfl⟩))
     ·simp at h
    ·simp at h
   ·simp at h
  ·simp at ht
 ·simp at E
theorem AA{c:Call}{sz:Nat}{zs:List FC}{x:Arg}(h:dY Q σ c (.clear sz zs x)=ae):∃ y t e,c.callee=.builtin .clear∧c.args=#[y]∧c.argTypes=#[t]∧mA σ x y=ae∧Q.underlying t=aa (.slice e)∧dI Q e sz=ae∧kz Q e zs=ae:=by
 simp only [dY]at h;split at h
 ·rename_i y t d g j;simp only [If]at h;obtain⟨m,b⟩:=h;obtain⟨e,l,b⟩:=il b;simp only [If]at b;exact⟨y,t,e,d,uR g,uR j,m,l,b.1,b.2⟩
 ·simp at h
theorem Vp(hS:SR Q σ X)(hB:X.B≤X.w.heap.size){a:Act}{aG:T}(hR:RR σ X aG a.tmps){o:Oper}{sz:Nat}{zs:List FC}{x:Arg}(J:dX Q σ o (.clear sz zs x)=ae){v:V}{H':an}
  (h:bE aG X.H (.clear sz zs x)=aa (v,H')):gV Q σ X v H' (execOp a.eval o):=by
 simp only [dX]at J;split at J
 ·rename_i c Z;obtain⟨y,t,e,N,O,S,j,hu,d9,hz⟩:=AA J;have j:=bT hR j;simp only [bE,IN,anc]at h;obtain⟨H2,d,rfl,rfl⟩:=h;have done:VR σ X (.t []) (.tuple #[]):=⟨[],rfl,A2.nil⟩
  unfold jI at d;split at d
  ·rename_i p hp;rw [hp]at j;split at d
   ·rename_i W;simp only [AI]at d;subst d;obtain⟨K,cp,g⟩:=ky j W;refine⟨.tuple #[],X,.inl (dQ Z N fun cs=>?_),rfl,hS,done,Ext.refl _ _,hB⟩;cases K<;>simp [builtin,O,S,Builtin.clear_,a5 hu,g]
   ·rename_i l Y W;obtain⟨K,cp,g⟩:=ky j W;split at d
    ·rename_i b_;obtain⟨z,us,F,H,I,_⟩:=fk (σ:=σ) (X:=X) hz X.w;have d_:us.length=zs.length:=by have:=I.len;simp at this;omega
     have u:l≠0:=fun e=>Y (by rw [e]);have key:∀(b o' A:Nat),(∃ q,CR σ X (.ptr b o' A) (.pointer (aa q))∧K=aa q)→cZ X.H (.ptr b o' A) ((cQ l zs).map .f)=aa H2→gV Q σ X (.t []) H2 (execOp a.eval o):=by
      rintro b o' A ⟨q,hq,rfl⟩ a7;obtain⟨cc,e_,X',g1,M,g3,g4,g5,g6,g7⟩:=W6 hS hq (ju I l) a7;cases g1;by_cases c_:sz=0
      ·subst c_;have c9:zs=[]:=anz b_;have a8:us=[]:=anz (by omega);subst c9;subst a8;refine⟨.tuple #[],X',.inl (dQ Z N fun cs=>?_),g3,g4,⟨[],rfl,A2.nil⟩,g5,by omega⟩;have hr:cQ l ([]:List Value)=[]:=by simp [cQ]
       rw [hr]at M;simp [builtin,O,S,Builtin.clear_,a5 hu,g,u,F,H,Builtin.zeroCells];cases l with
       | zero=>exact absurd rfl u| succ l=>simp [M]
      ·have a_:Builtin.zeroCells z.cells l=(cQ l us).toArray:=by
        have:=iL us l (by omega);simpa [Builtin.zeroCells,H]using this
       refine⟨.tuple #[],X',.inl (dQ Z N fun cs=>?_),g3,g4,⟨[],rfl,A2.nil⟩,g5,by omega⟩;simp [builtin,O,S,Builtin.clear_,a5 hu,g,F,a_];cases l with
       | zero=>exact absurd rfl u| succ l=>simp [M]
     split at d
     ·rename_i b o' l' cap A s;simp only [VR,iM,CR,fT]at j;split at d
      ·rename_i cs fl B;rw [B]at j;obtain⟨L,U,_,m⟩:=j;rw [g]at m;simp only [Value.slice.injEq]at m;refine key b o' A ⟨⟨L.c,o',ab⟩,⟨L,U,by rw [B]⟩,m.1⟩ d
      ·rename_i s' cs fl e' B;split at d
       ·rename_i E;rw [B]at j;obtain⟨L,U,k,_,_,m⟩:=j.2.1 E.1 E.2;rw [g]at m;simp only [Value.slice.injEq]at m;refine key b o' A ⟨⟨L.c,o',ab⟩,⟨L,U,?_⟩,m.1⟩ d;rw [B];exact⟨j.1,fun _=>rfl,_,rfl⟩
       ·simp at d
      ·simp at d
     ·simp at d
    ·simp at d
   ·simp at d
  ·simp at d
 ·simp at J
theorem K0(B:SR Q σ X)(S:X.B≤X.w.heap.size){a:Act}{aG:T}(U:RR σ X aG a.tmps){o:Oper}{x:Arg}(l:dX Q σ o (.nf x)=ae){v:V}{H':an}
  (h:bE aG X.H (.nf x)=aa (v,H')):gV Q σ X v H' (execOp a.eval o):=by
 simp only [dX]at l;split at l
 ·rename_i t y Y;simp only [If]at l;obtain⟨j,E⟩:=l;have j:=bT U j;simp only [bE]at h;unfold DO at h;split at h
  ·rename_i b c;rw [c]at j;obtain⟨L,A,_,Z⟩:=j;split at h
   ·rename_i u m;split at h
    ·rename_i p;simp only [AI,anc]at h;obtain⟨rfl,rfl⟩:=h;obtain⟨_,_,bX,g,q⟩:=B.br b L A;rw [m]at g;simp only [AI]at g;subst g;obtain⟨d,H,I,_⟩:=q;split at E
     ·rename_i kt e s;obtain⟨X',J,z,K,M,N,O⟩:=SR.new B S (.AG b u.length ag) (ea.alloc X.w (.mapIter (aa L.c) d.length #[] d.length)) 0 fun X' j f k n=>by
       obtain⟨blk',i,F⟩:=j.ba b (IT.1 m).1 _ m;cases blk'<;>simp only at F;refine⟨L,#[],d.length,F L A,⟨_,i⟩,?_,rfl⟩;rw [I.len,f];exact(ea.alloc _ _).new
      refine⟨.pointer (aa ⟨X.w.heap.size,0,ab⟩),X',.inl ?_,z,K,⟨_,N,⟨b,u.length,ag,by rw [z];simp⟩,rfl⟩,M,O⟩;have W:(getObj L.c).run Q X.w=.ok (.map d.toArray d.length) X.w:=by simp [getObj,Sem.run,H]
      rw [J];simp [execOp,Y,Instr.range,a5 s,Z,W]
     ·simp at E
    ·simp at h
   ·simp at h
  ·simp at h
 ·simp at l
theorem We(s:SR Q σ X)(N:X.B≤X.w.heap.size){a:Act}{aG:T}(p:RR σ X aG a.tmps){o:Oper}{x:Arg}(E:dX Q σ o (.rN x)=ae){v:V}{H':an}
  (h:bE aG X.H (.rN x)=aa (v,H')):gV Q σ X v H' (execOp a.eval o):=by
 simp only [dX]at E;split at E
 ·rename_i y S;have i:=bT p E;simp only [bE]at h;unfold Wc at h;split at h
  ·rename_i b r;rw [r]at i;obtain⟨L,f,_,W⟩:=i;split at h
   ·rename_i m c done u;obtain⟨_,_,bX,d,l⟩:=s.br b L f;rw [u]at d;simp only [AI]at d;subst d;obtain⟨J,sn,st,M,_,B,q⟩:=l;split at h
    ·rename_i j;obtain⟨_,_,bX,d,l⟩:=s.br m J M;rw [j]at d;simp only [AI]at d;subst d;obtain⟨K,F,Z,_⟩:=l;have:K=[]:=anz Z.len.symm;subst this;split at h
     ·simp at h
     ·rename_i z;simp only [AI,anc]at h;obtain⟨rfl,rfl⟩:=h;simp only [z,anF,if_false]at q;subst q;refine⟨.tuple #[.bool ag],X,.inl ?_,rfl,s,⟨[.bool ag],rfl,A2.cons (cW.bool _) A2.nil⟩,Ext.refl _ _,N⟩;simp only [execOp,S];refine eu ?_;simp [Instr.next,W,getObj,Sem.run,B,F,Result.andThen,choose,Question.forced]
    ·rename_i e j;obtain⟨H,F,Z,w,k⟩:=Dw s M j;split at h
     ·rename_i z;simp only [AI,anc]at h;obtain⟨rfl,rfl⟩:=h;simp only [z,if_true]at q;obtain⟨rfl,rfl⟩:=q;refine⟨.tuple #[.bool ag],X,.inl ?_,rfl,s,⟨[.bool ag],rfl,A2.cons (cW.bool _) A2.nil⟩,Ext.refl _ _,N⟩;simp only [execOp,S];refine eu ?_;simp [Instr.next,W,getObj,Sem.run,B,F,k,Result.andThen,choose,Question.forced]
     ·rename_i z;split at h
      ·rename_i U;subst U;simp only [AI,anc]at h;obtain⟨rfl,rfl⟩:=h;simp only [z,anF,if_false]at q;subst q;obtain⟨q1,I⟩:=SR.qw (o':=.mapIter (aa J.c) 1 #[0] 1) (blk':=.AG m 1 ae) s u f B (by simp) (by simp)
        (fun bX g=>⟨.AG m 1 ae,by simp [(IT.1 u).1],by rw [u]at g;simp only [AI]at g;subst g;exact⟨⟨rfl,rfl⟩,fun L h=>h⟩⟩)
        (fun X' t Y _ A n=>by
         have O:b≠m:=fun e=>by rw [e,j]at u;cases u
         exact⟨J,#[0],1,by rw [A];exact M,⟨_,by rw [n,sh O];exact j⟩,Y,rfl,rfl⟩)
       refine⟨.tuple #[.bool ae,H.key,H.val],_,.inl ?_,rfl,q1,?_,I,by simpa using N⟩
       ·simp only [execOp,S];refine eu ?_;simp [Instr.next,W,getObj,setObj,Sem.run,B,F,k,Result.andThen,choose,Question.forced]
       ·exact⟨[.bool ae,H.key,H.val],rfl,A2.cons (cW.bool _) (A2.cons (cW.mono I.F I.fw Z) (A2.cons (iM.ext' σ I w) A2.nil))⟩
      ·simp at h
    ·simp at h
   ·simp at h
  ·simp at h
 ·simp at E
end
section
variable{Q:Program}{σ:Nat→FuncId}{X:Wd}
def dA(a b:bV):Prop:=
 match a with
 | .box cs fl=>(match b with
  | .box cs' d=>cs=cs'∧fl≤d
  | _=>False)
 | .cS s cs fl e st=>(match b with
  | .cS j cs' d g st'=>s=j∧cs=cs'∧fl≤d∧e=g∧st=st'
  | _=>False)
 | a=>a=b
theorem dA.refl(a:bV):dA a a:=by cases a<;>simp [dA]
theorem dA.trans{a b c:bV}(h:dA a b)(k:dA b c):dA a c:=by
 cases a<;>cases b<;>simp only [dA,reduceCtorEq]at h<;>cases c<;>simp only [dA,reduceCtorEq]at k ⊢
 ·exact⟨h.1.trans k.1,anL h.2 k.2⟩
 ·exact⟨h.1.trans k.1,h.2.1.trans k.2.1,anL h.2.2.1 k.2.2.1,h.2.2.2.1.trans k.2.2.2.1,h.2.2.2.2.trans k.2.2.2.2⟩
 all_goals exact h.trans k
def gD(H H':an):Prop:=H.length=H'.length∧∀(b:Nat) bX blk',H[b]?=aa bX→H'[b]?=aa blk'→dA bX blk'
theorem gD.refl(H:an):gD H H:=⟨rfl,fun b bX blk' h d=>by rw [h]at d;cases d;exact dA.refl _⟩
theorem gD.get{H H':an}(h:gD H H'){b:Nat}{bX:bV}(hb:H[b]?=aa bX):∃ blk',H'[b]?=aa blk'∧dA bX blk':=by
 have hl:=(IT.1 hb).1;have d:b<H'.length:=by have:=h.1;omega
 exact⟨_,By d,h.2 b _ _ hb (By d)⟩
theorem gD.trans{A B C:an}(h:gD A B)(k:gD B C):gD A C:=
 ⟨h.1.trans k.1,fun b x z d g=>by obtain⟨y,hy,h1⟩:=h.get d;exact h1.trans (k.2 b y z hy g)⟩
theorem gD.none{H H':an}(h:gD H H'){b:Nat}(hb:H[b]?=ab):H'[b]?=ab:=by
 rw [aoY]at hb ⊢;have:=h.1;omega
theorem gD.set{H:an}{b:Nat}{bX blk':bV}(hb:H[b]?=aa bX)(h:dA bX blk'):gD H (H.set b blk'):=by
 have hl:=(IT.1 hb).1;refine⟨by simp,fun i x y d hy=>?_⟩;by_cases hi:i=b
 ·subst hi;simp only [apl,if_true,hl]at hy;rw [hb]at d;cases d;cases hy;exact h
 ·rw [sh (Ne.symm hi)]at hy;rw [d]at hy;cases hy;exact dA.refl _
theorem gD.foldl{f:an→C→an}(b:∀ H x,gD H (f H x)):∀(xs:List C) (H:an),gD H (xs.foldl f H)
 | [],H=>gD.refl H| x::xs,H=>(b H x).trans (gD.foldl b xs (f H x))
theorem jL:∀(n:Nat) (x:C) (H:an),gD H (fo n x H)
 | n,.f _,H=>by cases n<;>exact gD.refl H
 | 0,.ptr _ _ _,H=>gD.refl H| 0,.sl _ _ _ _ _ _,H=>gD.refl H| 0,.cl _ _,H=>gD.refl H| 0,.yl _,H=>gD.refl H| 0,.mp _,H=>gD.refl H| 0,.it _,H=>gD.refl H| 0,.bm _ _,H=>gD.refl H| 0,.mi _,H=>gD.refl H
 | n+1,.ptr b m j,H=>by
  simp only [fo];split
  ·rename_i cs fl d;exact(gD.set d (by exact⟨rfl,an3 _ _⟩)).trans (gD.foldl (fun H x=>jL n x H) _ _)
  ·exact gD.refl H
 | n+1,.sl b o l c j sz,H=>by
  simp only [fo];split
  ·rename_i cs fl d;exact(gD.set d (by exact⟨rfl,an3 _ _⟩)).trans (gD.foldl (fun H x=>jL n x H) _ _)
  ·rename_i s cs fl e st d;exact(gD.set d (by exact⟨rfl,rfl,an3 _ _,rfl,rfl⟩)).trans (gD.foldl (fun H x=>jL n x H) _ _)
  ·exact gD.refl H
 | n+1,.cl f g,H=>gD.foldl (fun H x=>jL n x H) _ _
 | n+1,.yl _,H=>gD.refl H| n+1,.mp _,H=>gD.refl H| n+1,.it _,H=>gD.refl H| n+1,.bm _ _,H=>gD.refl H| n+1,.mi _,H=>gD.refl H
theorem fF{b j:Type}{f g:b→Option j}:∀ {xs:List b},(∀ x ∈ xs,f x=g x)→aZ f xs=aZ g xs
 | [],_=>rfl| x::xs,h=>by rw [aZ,aZ,h x (by simp),fF (xs:=xs) (fun y d=>h y (List.mem_cons_of_mem _ d))]
theorem mP:∀(n:Nat) {H H':an},gD H H'→∀(x:C),eL n H' x=eL n H x
 | n,H,H',h,.f _=>by cases n<;>rfl
 | 0,H,H',h,.ptr _ _ _=>rfl| 0,H,H',h,.sl _ _ _ _ _ _=>rfl| 0,H,H',h,.cl _ _=>rfl| 0,H,H',h,.yl _=>rfl| 0,H,H',h,.mp _=>rfl| 0,H,H',h,.it _=>rfl| 0,H,H',h,.bm _ _=>rfl| 0,H,H',h,.mi _=>rfl
 | n+1,H,H',h,.ptr b v s=>by
  simp only [eL];cases m:H[b]? with
  | none=>rw [h.none m]
  | some bX=>
   obtain⟨blk',d,j⟩:=h.get m;rw [d];cases bX<;>cases blk'<;>simp only [dA,reduceCtorEq]at j
   ·obtain⟨rfl,_⟩:=j;simp only [fF (g:=eL n H) fun x _=>mP n h x]
   all_goals rfl
 | n+1,H,H',h,.sl b o l c s sz=>by
  simp only [eL];cases m:H[b]? with
  | none=>rw [h.none m]
  | some bX=>
   obtain⟨blk',d,j⟩:=h.get m;rw [d];cases bX<;>cases blk'<;>simp only [dA,reduceCtorEq]at j
   ·obtain⟨rfl,_⟩:=j;simp only [fF (g:=eL n H) fun x _=>mP n h x]
   ·obtain⟨rfl,rfl,u,rfl,rfl⟩:=j;clear u;rename_i st _;cases st<;>simp only [fF (g:=eL n H) fun x _=>mP n h x]
   all_goals rfl
 | n+1,H,H',h,.cl f q=>by simp only [eL,fF (g:=eL n H) fun x _=>mP n h x]
 | n+1,H,H',h,.yl _=>rfl| n+1,H,H',h,.mp _=>rfl| n+1,H,H',h,.it _=>rfl| n+1,H,H',h,.bm _ _=>rfl| n+1,H,H',h,.mi _=>rfl
def dV:Nat→an→C→Prop
 | _,_,.f _=>True| 0,_,_=>True| n+1,H,.ptr b _ _=>∀ cs fl,H[b]?=aa (.box cs fl)→cs.length≤fl∧∀ x ∈ cs,dV n H x
 | n+1,H,.sl b o l _ _ sz=>∀ bX,H[b]?=aa bX→match bX with
  | .box cs fl=>o+l*sz≤fl∧∀ x ∈ (cs.drop o).take (l*sz),dV n H x| .cS _ cs fl _ .loc=>o+l*sz≤fl∧∀ x ∈ (cs.drop o).take (l*sz),dV n H x| _=>True
 | n+1,H,.cl _ d=>∀ x ∈ d,dV n H x| _,_,_=>True
theorem dV.le:∀(n:Nat) {H H':an},gD H H'→∀ {x:C},dV n H x→dV n H' x
 | n,H,H',h,.f _,_=>by cases n<;>trivial
 | 0,H,H',h,.ptr _ _ _,_=>trivial| 0,H,H',h,.sl _ _ _ _ _ _,_=>trivial| 0,H,H',h,.cl _ _,_=>trivial| 0,H,H',h,.yl _,_=>trivial| 0,H,H',h,.mp _,_=>trivial| 0,H,H',h,.it _,_=>trivial| 0,H,H',h,.bm _ _,_=>trivial| 0,H,H',h,.mi _,_=>trivial
 | n+1,H,H',h,.ptr b off A,v=>by
  intro cs fl m;have y:=(IT.1 m).1;have s:b<H.length:=by have:=h.1;omega
  have d:=h.2 b _ _ (By s) m;cases g:H[b]<;>rw [g]at d<;>simp only [dA,reduceCtorEq]at d;obtain⟨rfl,q⟩:=d;obtain⟨h1,h2⟩:=v _ _ (by rw [By s,g]);exact⟨anL h1 q,fun x u=>dV.le n h (h2 x u)⟩
 | n+1,H,H',h,.sl b o l c A sz,v=>by
  intro blk' m;have y:=(IT.1 m).1;have s:b<H.length:=by have:=h.1;omega
  have d:=h.2 b _ _ (By s) m;have j:=v _ (By s);cases g:H[b]<;>rw [g]at d j<;>cases blk'<;>simp only [dA,reduceCtorEq]at d<;>try simp only
  ·obtain⟨rfl,q⟩:=d;exact⟨anL j.1 q,fun x u=>dV.le n h (j.2 x u)⟩
  ·obtain⟨rfl,rfl,q,rfl,rfl⟩:=d;rename_i st _;cases st<;>simp only at j ⊢;exact⟨anL j.1 q,fun x u=>dV.le n h (j.2 x u)⟩
 | n+1,H,H',h,.cl f z,v=>fun x u=>dV.le n h (v x u)
 | n+1,H,H',h,.yl _,_=>trivial| n+1,H,H',h,.mp _,_=>trivial| n+1,H,H',h,.it _,_=>trivial| n+1,H,H',h,.bm _ _,_=>trivial| n+1,H,H',h,.mi _,_=>trivial
theorem fO{n:Nat}(b:∀(x:C) (H:an),dV n (fo n x H) x):∀(xs:List C) (H:an),∀ x ∈ xs,dV n (xs.foldl (fun H x=>fo n x H) H) x
 | y::ys,H,x,d=>by
  simp only [ao7];rcases anK.1 d with rfl | d
  ·exact dV.le n (gD.foldl (fun H x=>jL n x H) ys _) (b x H)
  ·exact fO b ys _ x d
theorem gW:∀(n:Nat) (x:C) (H:an),dV n (fo n x H) x
 | n,.f _,H=>by cases n<;>trivial
 | 0,.ptr _ _ _,H=>trivial| 0,.sl _ _ _ _ _ _,H=>trivial| 0,.cl _ _,H=>trivial| 0,.yl _,H=>trivial| 0,.mp _,H=>trivial| 0,.it _,H=>trivial| 0,.bm _ _,H=>trivial| 0,.mi _,H=>trivial
 | n+1,.ptr b I F,H=>by
  simp only [fo];cases u:H[b]? with
  | none=>intro cs fl h;exfalso;simp only at h;exact absurd (u.symm.trans h) (by simp)
  | some bX=>
   cases bX with
   | box d g=>
    intro cs fl h;have s:=(IT.1 u).1;simp only at h ⊢;have z:=gD.foldl (fun H x=>jL n x H) d (H.set b (.box d (Nat.max g d.length)));obtain⟨blk',j,m⟩:=z.get (b:=b) (bX:=.box d (Nat.max g d.length)) (by simp [s]);rw [h]at j;cases j;obtain⟨rfl,q⟩:=m;exact⟨anL (anT _ _) q,fun x v=>fO (fun x H=>gW n x H) _ _ x v⟩
   | _=>intro cs fl h;simp only at h;rw [u]at h;cases h
 | n+1,.sl b o l c F sz,H=>by
  simp only [fo];cases u:H[b]? with
  | none=>intro bX h;exfalso;simp only at h;exact absurd (u.symm.trans h) (by simp)
  | some bX=>
   have s:=(IT.1 u).1;cases bX with
   | box d g=>
    intro bX h;simp only at h ⊢;have z:=gD.foldl (fun H x=>jL n x H) ((d.drop o).take (l*sz)) (H.set b (.box d (Nat.max g (o+l*sz))));obtain⟨blk',j,m⟩:=z.get (b:=b) (bX:=.box d (Nat.max g (o+l*sz))) (by simp [s]);rw [h]at j;cases j;cases bX<;>simp only [dA,reduceCtorEq]at m;obtain⟨rfl,q⟩:=m;exact⟨anL (anT _ _) q,fun x v=>fO (fun x H=>gW n x H) _ _ x v⟩
   | cS E d g B y=>
    intro bX h;simp only at h ⊢;have z:=gD.foldl (fun H x=>jL n x H) ((d.drop o).take (l*sz)) (H.set b (.cS E d (Nat.max g (o+l*sz)) B y));obtain⟨blk',j,m⟩:=z.get (b:=b) (bX:=.cS E d (Nat.max g (o+l*sz)) B y) (by simp [s]);rw [h]at j;cases j;cases bX<;>simp only [dA,reduceCtorEq]at m;obtain⟨rfl,rfl,q,rfl,rfl⟩:=m;cases y<;>simp only;exact⟨anL (anT _ _) q,fun x v=>fO (fun x H=>gW n x H) _ _ x v⟩
   | _=>intro bX h;simp only at h;rw [u]at h;cases h;simp
 | n+1,.cl f A,H=>fun x v=>fO (fun x H=>gW n x H) _ _ x v
 | n+1,.yl _,H=>trivial| n+1,.mp _,H=>trivial| n+1,.it _,H=>trivial| n+1,.bm _ _,H=>trivial| n+1,.mi _,H=>trivial
end
section
variable{Q:Program}{σ:Nat→FuncId}{X:Wd}
def du(H H':an):Prop:=∀(b:Nat) bX,H[b]?=aa bX→∃ blk',H'[b]?=aa blk'∧dA bX blk'
theorem du.refl(H:an):du H H:=fun _ bX h=>⟨bX,h,dA.refl _⟩
theorem du.trans{A B C:an}(h:du A B)(k:du B C):du A C:=fun b x d=>by
 obtain⟨y,hy,h1⟩:=h b x d;obtain⟨z,g,h2⟩:=k b y hy;exact⟨z,g,h1.trans h2⟩
theorem gD.ext{H H':an}(h:gD H H'):du H H':=fun _ _ hb=>h.get hb
theorem du.append(H H':an):du H (H++H'):=fun b bX hb=>⟨bX,by rw [AT (IT.1 hb).1];exact hb,dA.refl _⟩
theorem du.len{H H':an}(h:du H H'):H.length≤H'.length:=by
 rcases anQ H'.length H.length with d | b
 ·obtain⟨y,hy,_⟩:=h H'.length _ (By d);have:=(IT.1 hy).1;omega
 ·exact b
theorem SR.ahead(d:SR Q σ X){H':an}(h:du X.H H'):SR Q σ { X with H:=H' }∧Ext X.H.length X { X with H:=H' }:=by
 have l:Ext X.H.length X { X with H:=H' }:=
  {B:=rfl,F:=fun _ _ h=>h,oX:=fun _ _ h=>.inl h,fw:=fun _ _ _=>rfl
   ba:=fun b _ bX hb=>by
    obtain⟨blk',g,hl⟩:=h b bX hb;refine⟨blk',g,?_⟩;cases bX<;>cases blk'<;>simp only [dA,reduceCtorEq]at hl<;>simp_all
   wi:=fun b L h=>.inl ⟨b,L,h,rfl⟩,size:=anl _,os:=rfl,tape:=rfl,output:=rfl,frame:=fun _ _ _=>rfl }
 refine⟨⟨fun b L hb=>?_,d.inj,d.fb⟩,l⟩;obtain⟨h1,h2,bX,h3,h4⟩:=d.br b L hb;obtain⟨blk',h5,h6⟩:=h b bX h3;refine⟨h1,h2,blk',h5,?_⟩;have h7:BR Q σ { X with H:=H' } bX L:=BR.ext Q σ l rfl (fun _ h=>h) h4;cases bX<;>cases blk'<;>simp only [dA,reduceCtorEq]at h6
 ·obtain⟨rfl,hl⟩:=h6;obtain⟨us,g1,g2,g3⟩:=h7;exact⟨us,g1,g2,fun i hi=>g3 i (anL hl hi)⟩
 ·obtain⟨rfl,rfl,hl,rfl,rfl⟩:=h6;obtain⟨j,us,rest,g1,g2,g3,g4,g5,g6⟩:=h7;exact⟨j,us,rest,g1,g2,g3,g4,g5,fun i hi=>g6 i (anL hl hi)⟩
 all_goals (rw [←h6];exact h7)
def xK:bV→Nat→Prop
 | .box cs fl,i=>i<fl∧i<cs.length| .cS _ cs fl _ _,i=>i<fl∧i<cs.length| _,_=>False
def FL(X:Wd):Prop:=∀ b L i bX,X.cF b=aa L→X.H[b]?=aa bX→xK bX i→X.F L.c i
def Wd.flag(X:Wd):Wd:={ X with F:=fun c i=>X.F c i∨∃ b L bX,X.cF b=aa L∧L.c=c∧X.H[b]?=aa bX∧xK bX i }
theorem SR.flag(j:SR Q σ X):SR Q σ X.flag∧Ext X.H.length X X.flag∧FL X.flag:=by
 have g:Ext X.H.length X X.flag:=
  {B:=rfl,F:=fun _ _ h=>.inl h
   oX:=fun c i h=>by
    rcases h with h | ⟨b,L,bX,h1,h2,_⟩
    ·exact .inl h
    ·exact .inr (.inr ⟨b,L,h1,h2⟩)
   fw:=fun _ _ _=>rfl
   ba:=fun b _=>by
    intro bX hb;refine⟨bX,hb,?_⟩;cases bX<;>simp [Wd.flag]
   wi:=fun b L h=>.inl ⟨b,L,h,rfl⟩,size:=anl _,os:=rfl,tape:=rfl,output:=rfl,frame:=fun _ _ _=>rfl }
 refine⟨⟨fun b L hb=>?_,j.inj,fun c i h=>?_⟩,g,fun b L i bX h1 h2 h3=>.inr ⟨b,L,bX,h1,rfl,h2,h3⟩⟩
 ·obtain⟨h1,h2,bX,h3,h4⟩:=j.br b L hb;refine⟨h1,h2,bX,h3,?_⟩;have key:∀ i,X.flag.F L.c i→X.F L.c i∨xK bX i:=by
   rintro i (h | ⟨v,x,blk',g1,g2,g3,g4⟩)
   ·exact .inl h
   ·have:v=b:=j.inj _ _ _ _ g1 hb g2;subst this;rw [h3]at g3;cases g3;exact .inr g4
  cases bX with
  | box cs fl=>
   obtain⟨us,g1,g2,g3⟩:=h4;exact⟨us,g1,A2.ext' σ g g2,fun i hi l=>(key i l).elim (g3 i hi) fun h=>by have:=h.1;omega⟩
  | cS sz cs fl y st=>
   obtain⟨u,us,rest,g1,g2,g3,g4,g5,g6⟩:=h4;exact⟨u,us,rest,g1,A2.ext' σ g g2,g3,g4,g5,fun i hi l=>(key i l).elim (g6 i hi) fun h=>by have:=h.1;omega⟩
  | map es=>exact BR.ext Q σ g rfl (fun i h=>(key i h).elim id False.elim) h4
  | it s p=>exact BR.ext Q σ g rfl (fun i h=>(key i h).elim id False.elim) h4
  | eo b=>exact BR.ext Q σ g rfl (fun i h=>(key i h).elim id False.elim) h4
  | AG m s d=>exact BR.ext Q σ g rfl (fun i h=>(key i h).elim id False.elim) h4
  | lp f t p a c st q d=>exact BR.ext Q σ g rfl (fun i h=>(key i h).elim id False.elim) h4
 ·rcases h with h | ⟨b,L,bX,h1,h2,_⟩
  ·exact j.fb c i h
  ·rw [←h2];exact(j.br b L h1).2.1
theorem fX{d g:Type}{f:d→Option g}:∀ {xs:List d} {ys:List g},aZ f xs=aa ys→A2 (fun x y=>f x=aa y) xs ys
 | [],ys,h=>by simp only [aZ,AI]at h;subst h;exact A2.nil
 | x::xs,ys,h=>by
  simp only [aZ]at h;split at h
  ·simp at h
  ·rename_i y j;split at h
   ·simp at h
   ·rename_i l b;simp only [AI]at h;subst h;exact A2.cons j (fX b)
theorem frz(hS:SR Q σ X)(hF:FL X){H:an}(W:du H X.H):∀(n:Nat) {x:C} {y:FC} {v:Value},eL n H x=aa y→dV n H x→CR σ X x v→cW σ X.F X.w y v
 | n,.f x,y,v,d,_,B=>by
  have:eL n H (.f x)=aa x:=by cases n<;>rfl
  rw [this]at d;cases d;exact B
 | 0,.ptr _ _ _,y,v,d,_,_=>by simp [eL]at d
 | 0,.sl _ _ _ _ _ _,y,v,d,_,_=>by simp [eL]at d
 | 0,.cl _ _,y,v,d,_,_=>by simp [eL]at d
 | 0,.yl _,y,v,d,_,_=>by simp [eL]at d
 | 0,.mp _,y,v,d,_,_=>by simp [eL]at d
 | 0,.it _,y,v,d,_,_=>by simp [eL]at d
 | 0,.bm _ _,y,v,d,_,_=>by simp [eL]at d
 | 0,.mi _,y,v,d,_,_=>by simp [eL]at d
 | n+1,.ptr b c9 ep,y,v,d,hm,B=>by
  simp only [eL]at d;split at d
  ·rename_i cs fl K;simp only [IN]at d;obtain⟨ys,g,rfl⟩:=d;obtain⟨N,I⟩:=hm cs fl K;obtain⟨blk',m,j⟩:=W b _ K;cases blk'<;>simp only [dA,reduceCtorEq]at j;obtain⟨rfl,j⟩:=j;rename_i U;obtain⟨L,S,B⟩:=B;simp only [m]at B;subst B;obtain⟨_,_,bX,E,M⟩:=hS.br b L S;rw [m]at E;cases E;obtain⟨us,A,z,_⟩:=M;have g:=fX g;have:=cW.fp (σ:=σ) (F:=X.F) (w:=X.w) ys c9 L.c 0 us (by rw [←z.len,g.len])
    (fun i hi=>by rw [aoa];exact hF b L i _ S m ⟨by have:=g.len;omega,by have:=g.len;omega⟩)
    (fun i u O=>by rw [aoa,ec A];exact O)
    (fun i y u Z O=>by
     have hi:i<cs.length:=by rw [g.len];exact(IT.1 Z).1
     have Y:=By hi;exact frz hS hF W n (g.2 i _ _ Y Z) (I _ (IS hi)) (z.2 i _ _ Y O))
   rw [aoa]at this;exact this
  ·simp at d
 | n+1,.sl b o l c ep sz,y,v,d,hm,B=>by
  have key:∀(cs:List C) (fl:Nat) (blk':bV) (L:Loc) (us rest:List Value) (ys:List FC) (cap:Nat),o+l*sz≤cs.length→o+l*sz≤fl →
    (∀ i,i<fl→i<cs.length→xK blk' i)→X.H[b]?=aa blk'→X.cF b=aa L→rowAt X.w L.c (us++rest)→A2 (CR σ X) cs us →
    (∀ x ∈ (cs.drop o).take (l*sz),dV n H x)→aZ (eL n H) ((cs.drop o).take (l*sz))=aa ys→l≤cap→cW σ X.F X.w (.fs ys l) (.slice (aa ⟨L.c,o,ab⟩) l cap):=by
   intro cs fl blk' L us rest ys cap q N a7 m S A z I g J;have g:=fX g;have c_:=z.len;have b_:ys.length=l*sz:=by rw [←g.len];simp;omega
   have a_:=(z.drop o).take (l*sz);refine .fs ys l L.c o cap ((us.drop o).take (l*sz)) J (by rw [b_];simp;omega) (fun i hi=>hF b L _ _ S m (a7 _ (by omega) (by omega))) (fun i u O=>?_) (fun i y u Z O=>?_)
   ·have hi:i<l*sz:=by
     have:=(IT.1 O).1;simp at this;omega
    rw [ec A,AT (by omega)];rw [List.getElem?_take_of_lt hi,anI]at O;exact O
   ·have hi:i<((cs.drop o).take (l*sz)).length:=by rw [g.len];exact(IT.1 Z).1
    have Y:=By hi;exact frz hS hF W n (g.2 i _ _ Y Z) (I _ (IS hi)) (a_.2 i _ _ Y O)
  simp only [eL]at d;simp only [CR,fT]at B;split at d
  ·rename_i cs fl K;split at d
   ·rename_i q;simp only [IN]at d;obtain⟨ys,g,rfl⟩:=d;obtain⟨N,I⟩:=hm _ K;obtain⟨blk',m,j⟩:=W b _ K;cases blk'<;>simp only [dA,reduceCtorEq]at j;obtain⟨rfl,j⟩:=j;rename_i U;simp only [m]at B;obtain⟨L,S,J,rfl⟩:=B;obtain⟨_,_,bX,E,M⟩:=hS.br b L S;rw [m]at E;cases E;obtain⟨us,A,z,_⟩:=M;exact key cs fl (.box cs U) L us [] ys c q N (fun i h1 h2=>⟨by omega,h2⟩) m S (by simpa using A) z I g J
   ·simp at d
  ·rename_i s cs fl e K;split at d
   ·rename_i q;obtain⟨rfl,rfl,q⟩:=q;simp only [IN]at d;obtain⟨ys,g,rfl⟩:=d;obtain⟨N,I⟩:=hm _ K;obtain⟨blk',m,j⟩:=W b _ K;cases blk'<;>simp only [dA,reduceCtorEq]at j;obtain⟨rfl,rfl,j,rfl,rfl⟩:=j;rename_i U;simp only [m]at B;obtain⟨L,S,k,ho,J,rfl⟩:=B.2.1 trivial trivial;obtain⟨_,_,bX,E,M⟩:=hS.br b L S;rw [m]at E;cases E;obtain⟨_,us,rest,A,z,_⟩:=M;exact key cs fl (.cS sz cs U ep .loc) L us rest ys _ q N (fun i h1 h2=>⟨by omega,h2⟩) m S A z I g (by omega)
   ·simp at d
  ·rename_i s cs fl e K;split at d
   ·rename_i q;obtain⟨rfl,rfl⟩:=q;cases d;obtain⟨blk',m,j⟩:=W b _ K;cases blk'<;>simp only [dA,reduceCtorEq]at j;obtain⟨rfl,rfl,j,rfl,rfl⟩:=j;simp only [m]at B;obtain⟨_,_,rfl⟩:=B.2.1 trivial trivial;exact .aC
   ·simp at d
  ·rename_i s cs fl e K;split at d
   ·rename_i q;obtain⟨rfl,rfl⟩:=q;cases d;obtain⟨blk',m,j⟩:=W b _ K;cases blk'<;>simp only [dA,reduceCtorEq]at j;obtain⟨rfl,rfl,j,rfl,rfl⟩:=j;simp only [m]at B;obtain⟨_,_,a,rfl⟩:=B.2.1 trivial trivial;exact .es a
   ·simp at d
  ·simp at d
 | n+1,.cl f a8,y,v,d,hm,B=>by
  simp only [eL,IN]at d;obtain⟨ys,g,rfl⟩:=d;obtain⟨us,rfl,z⟩:=B;have g:=fX g;refine .fn f ys us (by rw [←z.len,g.len]) fun i y u Z O=>?_;have hi:i<a8.length:=by rw [g.len];exact(IT.1 Z).1
  have Y:=By hi;exact frz hS hF W n (g.2 i _ _ Y Z) (hm _ (IS hi)) (CR.Xn σ (z.2 i _ _ Y O))
 | n+1,.yl _,y,v,d,_,_=>by simp [eL]at d
 | n+1,.mp _,y,v,d,_,_=>by simp [eL]at d
 | n+1,.it _,y,v,d,_,_=>by simp [eL]at d
 | n+1,.bm _ _,y,v,d,_,_=>by simp [eL]at d
 | n+1,.mi _,y,v,d,_,_=>by simp [eL]at d
end
section
variable{Q:Program}{σ:Nat→FuncId}{X:Wd}
theorem SR.skip(g:SR Q σ X){w':World}{o:Obj}(d:ea X.w w' o)(m:X.B≤X.w.heap.size):∃ X':Wd,X'.w=w'∧X'.H=X.H∧SR Q σ X'∧Ext X.H.length X X'∧X'.B≤X'.w.heap.size:=by
 have j:Ext X.H.length X { X with w:=w' }:=Ext.one g X.H.length rfl (fun _ _=>Iff.rfl) (fun k l _=>d.Bi l)
  (fun L i h=>by rw [SR.qY g]at h;simp at h) (fun h=>absurd h (apq _)) (fun _ _ _=>rfl) (fun _ _=>rfl) (fun L h=>.inl ⟨L,h,rfl⟩) (by show _≤w'.heap.size;rw [d.size];omega) d.os d.tape d.output
 refine⟨{ X with w:=w' },rfl,rfl,SR.step Q σ g j X.H.length (fun _ _=>rfl) (fun _ _=>rfl) (fun b L _ hb=>d.Bi (g.br b L hb).2.1)
  (fun _ _ _ _ _ h=>h) (fun L h=>by change X.cF X.H.length=aa L at h;rw [SR.qY g]at h;simp at h) (fun c i h=>?_),j,?_⟩
 ·have:=g.fb c i h;show c<w'.heap.size;rw [d.size];omega
 ·show X.B≤w'.heap.size;rw [d.size];omega
theorem lM{n:Int}(b:0≤n)(d:n<2 ^ 63):IntKind.i64.wrap n=n:=by
 have:n % (2 ^ 64:Int)=n:=Int.emod_eq_of_lt b (by omega);simp only [IntKind.wrap,IntKind.bits,IntKind.signed,this,aol,decide_eq_true_eq];rw [aT (by show¬ n≥2 ^ (64-1);omega)]
theorem Ca(hS:SR Q σ X)(hB:X.B≤X.w.heap.size){a:Act}{aG:T}(hR:RR σ X aG a.tmps){o:Oper}{sz bytes:Nat}{zs:List FC}{x y:Arg}(F:dX Q σ o (.dO sz bytes zs x y)=ae){v:V}{H':an}
  (h:bE aG X.H (.dO sz bytes zs x y)=aa (v,H')):gV Q σ X v H' (execOp a.eval o):=by
 simp only [dX]at F;split at F
 ·rename_i t x' y' ho;simp only [If,decide_eq_true_eq]at F;obtain⟨⟨⟨k,r⟩,O⟩,b_⟩:=F;have k:=bT hR k;have r:=bT hR r;obtain⟨e,hu,O⟩:=il O;simp only [If]at O;obtain⟨⟨j,Z⟩,hz⟩:=O;obtain⟨z,us,a7,a8,M,f7,c_,d9⟩:=fk (σ:=σ) (X:=X) hz X.w;obtain⟨c9,u,A⟩:=yG Z X.w;simp only [bE]at h;split at h
  ·rename_i l c hl hc;obtain⟨kl,p⟩:=iW k hl;obtain⟨kc,w⟩:=iW r hc;split at h
   ·rename_i s;obtain⟨h0,d_,g,e_⟩:=s;unfold cR at g;simp only [If,decide_eq_true_eq]at g;have J:us.length=sz:=by have:=M.len;simp at this;omega
    have L:=lM (n:=l) h0 (by omega);have K:=lM (n:=c) (by omega) (by omega);have a_:c.toNat*bytes≤2 ^ 48:=by
     have:c.toNat*bytes≤(2*c.toNat+768)*bytes:=anX _ (by omega);omega
    have m:¬ ((bytes:Int)*c>2 ^ 48):=by
     have e1:(bytes:Int)*c=((c.toNat*bytes:Nat):Int):=by
      rw [aph,aoh];congr 1;omega
     rw [e1];omega
    have I:((Array.range (c.toNat*sz)).map fun i=>us.toArray[i % us.toArray.size]!)=(cQ c.toNat us).toArray:=by
     have:=iL us c.toNat (by omega);rwa [J]at this
    have run:(execOp a.eval o).run Q X.w=.ok (.value (.slice (aa ⟨X.w.heap.size,0,ab⟩) l.toNat c.toNat)) (X.w.alloc (.cells (cQ c.toNat us).toArray e)):=by
     simp only [execOp,ho];refine eu ?_;rw [p,w];have B:¬ c<0:=by omega
     have E:¬ l<0:=by omega
     have q:¬ l>c:=by omega
     by_cases d:c.toNat*sz=0
     ·have f:cQ c.toNat us=[]:=anz (by rw [kr,J];exact d);have b:((decide (c<0)||decide ((bytes:Int)*c>2 ^ 48))||decide (l<0)||decide (l>c))=ag:=by rw [decide_eq_false B,decide_eq_false E,decide_eq_false q,decide_eq_false m];rfl
      simp only [Instr.makeSlice,Sem.run_bind,a5 hu,asInt,asIntOf,Sem.run_pure,Result.andThen_ok,u,A,L,K,run_askRoom,dm j];simp only [b,anF,if_false,Sem.run_ite,bf d,Sem.run_bind,Result.andThen_ok,Sem.run_pure,run_askRoom,dm j,newRow,run_newObj];rw [d,f,show(Array.map (fun x=>(#[]:Array Value)[x % (#[]:Array Value).size]!) (Array.range 0))=#[] from by simp [show Array.range 0=(#[]:Array Nat) from rfl]];rfl
     ·simp only [Instr.makeSlice,Sem.run_bind,a5 hu,asInt,asIntOf,Sem.run_pure,Result.andThen_ok,u,A,L,K,run_askRoom,dm j];have b:((decide (c<0)||decide ((bytes:Int)*c>2 ^ 48))||decide (l<0)||decide (l>c))=ag:=by rw [decide_eq_false B,decide_eq_false E,decide_eq_false q,decide_eq_false m];rfl
      simp only [b,anF,if_false,Sem.run_ite,aT d,Sem.run_bind,a7,a8,Result.andThen_ok,Sem.run_pure,run_askRoom,dm j,I,newRow,run_newObj];rfl
    split at h
    ·rename_i d;subst d;simp only [AI,anc]at h;obtain⟨rfl,rfl⟩:=h;have:l=0:=by omega
     subst this;obtain⟨X',S,N,U,W,Y⟩:=SR.skip hS (ea.alloc X.w (.cells (cQ (0:Int).toNat us).toArray e)) hB;exact⟨_,X',.inl (by rw [S];exact run),N,U,cW.es _,W,Y⟩
    ·simp only [AI,anc]at h;obtain⟨rfl,rfl⟩:=h;obtain⟨X',S,N,U,W,Y,g6⟩:=Cb hS hB (ju M c.toNat) e;refine⟨_,X',.inl (by rw [S];exact run),N,U,?_,W,g6⟩;have H:X'.H[X.H.length]?=aa (.box ((cQ c.toNat zs).map .f) 0):=by rw [N];simp
     simp only [VR,iM,CR,fT,H];exact⟨_,Y,by omega,rfl⟩
   ·simp at h
  ·simp at h
 ·simp at F
theorem agc(H:an):∀ x,eL 0 H x=fcC x:=fun x=>by cases x<;>rfl
theorem adD(J:SR Q σ X)(hB:X.B≤X.w.heap.size){a:Act}{aG:T}(I:RR σ X aG a.tmps){o:Oper}{sz:Nat}{x hi mx:Arg}(B:dX Q σ o (.rZ sz x hi mx)=ae){v:V}{H':an}
  (h:bE aG X.H (.rZ sz x hi mx)=aa (v,H')):gV Q σ X v H' (execOp a.eval o):=by
 simp only [dX]at B;split at B
 ·rename_i t y U mx' ho;simp only [If,decide_eq_true_eq]at B;obtain⟨⟨⟨⟨z,h2⟩,h3⟩,he⟩,hz⟩:=B;obtain⟨e,hu,E⟩:=il he;simp only [bE]at h;unfold wZ at h;have o1:OR X σ ab ab:=trivial;have o2:OR X σ (aa (hi.ev aG)) (aa (a.eval U)):=bT I h2;have o3:OR X σ (aa (mx.ev aG)) (aa (a.eval mx')):=bT I h3;have z:=bT I z;split at h
  ·rename_i v' hv;simp only [AI,anc]at h;obtain⟨rfl,rfl⟩:=h;obtain⟨r,F,h5⟩:=xd J hu E z o1 o2 o3 hv;exact⟨r,X,.inl (by simp only [execOp,ho];exact eu F),rfl,J,h5,Ext.refl _ _,hB⟩
  ·split at h
   ·rename_i b o' n c' m s c_;rw [c_]at z;simp only [VR,iM,CR,fT]at z;split at h
    ·rename_i l cs fl e' K;rw [K]at z;split at h
     ·rename_i N;obtain⟨rfl,rfl,rfl,rfl⟩:=N;split at h
      ·rename_i i j d Z;split at h
       ·rename_i Y;obtain⟨rfl,f7,e_⟩:=Y;split at h
        ·rename_i ys d9;simp only [AI,anc]at h;obtain⟨rfl,rfl⟩:=h;obtain⟨L,hL,k,hk,f_,c9⟩:=z.2.1 rfl rfl;have a7:k=0:=by
          rcases Nat.eq_zero_or_pos k with h | h
          ·exact h
          ·have:=Nat.mul_pos h hz;omega
         subst a7;have f8:i≤n:=by
          unfold yR at d;split at d
          ·split at d
           ·rename_i hh;simp only [AI]at d;omega
           ·simp at d
          ·simp at d
         have M:bH n n ab (aa (hi.ev aG)) (aa (mx.ev aG))=aa (0,i,i):=by
          have W:yR (hi.ev aG) i=aa i:=by
           unfold yR at d ⊢;split at d
           ·split at d
            ·rename_i hh;simp only [AI]at d;rw [bf ⟨hh.1,by omega⟩,d]
            ·simp at d
           ·simp at d
          simp [bH,Z,W]
         obtain⟨F,_,_,_⟩:=dR (Q:=Q) o1 o2 o3 M (cap:=L.cap) (by omega) (anl n) ae X.w;have h6:=eI (a:=aa ⟨L.c,0,ab⟩) hu E F;have a8:gD X.H (X.H.set b (.cS l cs (Nat.max fl (i*l)) m .loc)):=gD.set K ⟨rfl,rfl,an3 _ _,rfl,rfl⟩;obtain⟨g1,g2⟩:=SR.ahead J a8.ext;obtain⟨g3,g4,g5⟩:=SR.flag g1;have a_:=(IT.1 K).1;have q:(X.H.set b (.cS l cs (Nat.max fl (i*l)) m .loc))[b]?=aa (.cS l cs (Nat.max fl (i*l)) m .loc):=by simp [a_]
         have S:eL 1 (X.H.set b (.cS l cs (Nat.max fl (i*l)) m .loc)) (.sl b 0 i 0 m l)=aa (.fs ys i):=by
          simp only [eL,q];rw [bf ⟨trivial,trivial,by omega⟩,fF (g:=fcC) fun x _=>agc _ x,aod,d9];rfl
         have b_:dV 1 (X.H.set b (.cS l cs (Nat.max fl (i*l)) m .loc)) (.sl b 0 i 0 m l):=by
          intro bX u;rw [q]at u;cases u;refine⟨by have:=anT fl (i*l);simp only [aoa];exact this,fun x _=>?_⟩;cases x<;>trivial
         have O:CR σ ({ X with H:=X.H.set b (.cS l cs (Nat.max fl (i*l)) m .loc) }:Wd).flag (.sl b 0 i 0 m l) (.slice (aa ⟨L.c,0,ab⟩) i L.cap):=by
          simp only [CR,fT,Wd.flag,q];exact⟨anl _,fun _ _=>⟨L,hL,0,by omega,by omega,by simp⟩,_,_,_,rfl⟩
         have hf:=frz g3 g5 (du.refl _) 1 S b_ O;have A:cW σ ({ X with H:=X.H.set b (.cS l cs (Nat.max fl (i*l)) m .loc) }:Wd).flag.F X.w (.fs ys i) (.slice (aa ⟨L.c,0,ab⟩) i i):=by
          cases hf with
          | fs _ _ c o2 cap us d_ hl hF N hr=>exact .fs _ _ _ _ _ us (anl _) hl hF N hr| fs0 a2 cap=>omega
         refine⟨.slice (aa ⟨L.c,0,ab⟩) i i,({ X with H:=X.H.set b (.cS l cs (Nat.max fl (i*l)) m .loc) }:Wd).flag,.inl ?_,rfl,g3,A,g2.trans (g4.mono (by simp)),hB⟩;simp only [execOp,ho];refine eu ?_;rw [c9];simp [show i≠0 by omega,er]at h6;exact h6
        ·simp at h
       ·simp at h
      ·simp at h
     ·simp at h
    ·simp at h
   ·simp at h
 ·simp at B
theorem aib(d:SR Q σ X)(g:X.B≤X.w.heap.size){a:Act}{aG:T}(j:RR σ X aG a.tmps){o:Oper}{op:dq}(b:dX Q σ o op=ae){v:V}{H':an}
  (h:bE aG X.H op=aa (v,H')):gV Q σ X v H' (execOp a.eval o):=by
 cases m:op.fsl
 case true=>
  cases op<;>simp only [dq.fsl,reduceCtorEq]at m;obtain⟨rfl,u,X',B,E,F,H,I,J,_⟩:=vZ d g j b h;exact⟨u,X',.inl B,E,F,H,I,J⟩
 by_cases s:cls op=.p∨cls op=.r
 ·exact gV.akF g d (aeh d j b s m h)
 ·cases op with
  | pre st sz=>exact ahL d g b h
  | alloc zs=>
   simp only [bE,AI,anc]at h;obtain⟨rfl,rfl⟩:=h;exact Va d g b
  | box x=>
   simp only [bE]at h;split at h
   ·rename_i xs q;simp only [AI,anc]at h;obtain⟨rfl,rfl⟩:=h;exact afX d g j b q
   ·simp at h
  | bS sz zs n ps=>exact JB d g j b h| store n x y=>exact W8 d g j b h
  | kj=>
   simp only [bE,AI,anc]at h;obtain⟨rfl,rfl⟩:=h;exact V_ d g b
  | lT K x y z=>exact V6 d g j b h| dO sz l zs x y=>exact Ca d g j b h| range x=>exact WI d g j b h| next x=>exact acF d g j b h
  | append sz l x y=>exact JA d g j b h| abK x=>simp [dX]at b| copy sz x y=>simp [dX]at b| clear sz zs x=>exact Vp d g j b h| me sz l zs x y=>exact abx d g j b h| nf x=>exact K0 d g j b h| rZ sz x y z=>exact adD d g j b h| rN x=>exact We d g j b h| call f xs A=>simp [bE]at h| bZ x xs A=>simp [bE]at h| recover=>simp [bE]at h| defer x xs=>simp [bE]at h| bad=>simp [bE]at h| _=>exact absurd (by simp [cls]) s
end
section
variable{Q:Program}{σ:Nat→FuncId}{X:Wd}
def kG(n:Nat)(H:an):V→Prop
 | .c x=>dV n H x| .a xs=>∀ x ∈ xs,dV n H x| _=>True
theorem kG.le{n:Nat}{H H':an}(h:gD H H'){v:V}(b:kG n H v):kG n H' v:=by
 cases v with
 | c x=>exact dV.le n h b| a xs=>exact fun x d=>dV.le n h (b x d)
 | _=>trivial
theorem agA(n:Nat)(v:V)(H:an):gD H (mkV n H v):=by
 cases v with
 | c x=>exact jL n x H| a xs=>exact gD.foldl (fun H x=>jL n x H) xs H
 | _=>exact gD.refl H
theorem B_(n:Nat)(v:V)(H:an):kG n (mkV n H v) v:=by
 cases v with
 | c x=>exact gW n x H| a xs=>exact fun x b=>fO (fun x H=>gW n x H) xs H x b
 | _=>trivial
theorem pU(n:Nat):∀(b:List V) (H:an),gD H (b.foldl (mkV n) H)
 | [],H=>gD.refl H| v::b,H=>(agA n v H).trans (pU n b _)
theorem rL(n:Nat):∀(b:List V) (H:an),∀ v ∈ b,kG n (b.foldl (mkV n) H) v
 | u::b,H,v,d=>by
  rcases anK.1 d with rfl | d
  ·exact(B_ n v H).le (pU n b _)
  ·exact rL n b _ v d
def FV1(σ:Nat→FuncId)(F:Nat→Nat→Prop)(w:World)(v:V)(u:Value):Prop:=∀ X:Wd,X.F=F→X.w=w→iM σ X v u
def FV(σ:Nat→FuncId)(F:Nat→Nat→Prop)(w:World)(v:V)(u:Value):Prop:=∀ X:Wd,X.F=F→X.w=w→VR σ X v u
theorem ad5(z:SR Q σ X)(q:FL X){H:an}(s:du H X.H){n:Nat}{v F:V}{u:Value}(d:dE n H v=aa F)(A:kG n H v)(B:iM σ X v u):FV1 σ X.F X.w F u:=by
 intro Z g j;cases v with
 | c x=>
  simp only [dE,IN]at d;obtain⟨y,m,rfl⟩:=d;have:=frz z q s n m A B;rw [←g,←j]at this;exact this
 | a xs=>
  simp only [dE,IN]at d;obtain⟨ys,b,rfl⟩:=d;obtain⟨us,rfl,l⟩:=B;have b:=fX b;refine⟨us,rfl,A2.map ⟨by rw [←l.len,b.len],fun i y u m I=>?_⟩⟩;have hi:i<xs.length:=by rw [b.len];exact(IT.1 m).1
  have E:=By hi;have:=frz z q s n (b.2 i _ _ E m) (A _ (IS hi)) (l.2 i _ _ E I);rw [←g,←j]at this;exact this
 | top=>simp [dE]at d| t J=>simp [dE]at d
def bV.full:bV→bV
 | .box cs fl=>.box cs (Nat.max fl cs.length)| .cS s cs fl e st=>.cS s cs (Nat.max fl cs.length) e st| b=>b
theorem xM(H:an):gD H (H.map bV.full):=by
 refine⟨by simp,fun b x y g d=>?_⟩;rw [aoj,g]at d;simp only [anZ,AI]at d;subst d;cases x<;>simp [dA,bV.full,an3]
theorem gn:∀(n:Nat) {H:an} {x:C} {y:FC},eL n H x=aa y→dV n (H.map bV.full) x
 | n,H,.f _,y,_=>by cases n<;>trivial
 | 0,H,.ptr _ _ _,y,_=>trivial| 0,H,.sl _ _ _ _ _ _,y,_=>trivial| 0,H,.cl _ _,y,_=>trivial| 0,H,.yl _,y,_=>trivial| 0,H,.mp _,y,_=>trivial| 0,H,.it _,y,_=>trivial| 0,H,.bm _ _,y,_=>trivial| 0,H,.mi _,y,_=>trivial
 | n+1,H,.ptr b E B,y,d=>by
  intro cs fl j;rw [aoj]at j;simp only [eL]at d;split at d
  ·rename_i cs' u g;rw [g]at j;simp only [anZ,AI,bV.full,bV.box.injEq]at j;obtain⟨rfl,rfl⟩:=j;simp only [IN]at d;obtain⟨ys,m,rfl⟩:=d;refine⟨anT _ _,fun x v=>?_⟩;obtain⟨i,hi⟩:=aot v;obtain⟨y,_,z⟩:=(fX m).get hi;exact gn n z
  ·simp at d
 | n+1,H,.sl b o l c B sz,y,d=>by
  intro bX j;rw [aoj]at j;simp only [eL]at d;split at d
  ·rename_i cs' u g;rw [g]at j;simp only [anZ,AI,bV.full]at j;subst j;split at d
   ·rename_i q;simp only [IN]at d;obtain⟨ys,m,rfl⟩:=d;refine⟨anL q (anT _ _),fun x v=>?_⟩;obtain⟨i,hi⟩:=aot v;obtain⟨y,_,z⟩:=(fX m).get hi;exact gn n z
   ·simp at d
  ·rename_i s cs' u e g;rw [g]at j;simp only [anZ,AI,bV.full]at j;subst j;split at d
   ·rename_i q;simp only [IN]at d;obtain⟨ys,m,rfl⟩:=d;refine⟨anL q.2.2 (anT _ _),fun x v=>?_⟩;obtain⟨i,hi⟩:=aot v;obtain⟨y,_,z⟩:=(fX m).get hi;exact gn n z
   ·simp at d
  ·rename_i s cs' u e g;rw [g]at j;simp only [anZ,AI,bV.full]at j;subst j;trivial
  ·rename_i s cs' u e g;rw [g]at j;simp only [anZ,AI,bV.full]at j;subst j;trivial
  ·simp at d
 | n+1,H,.cl f A,y,d=>by
  simp only [eL,IN]at d;obtain⟨ys,m,rfl⟩:=d;intro x v;obtain⟨i,hi⟩:=aot v;obtain⟨y,_,z⟩:=(fX m).get hi;exact gn n z
 | n+1,H,.yl _,y,d=>trivial| n+1,H,.mp _,y,d=>trivial| n+1,H,.it _,y,d=>trivial| n+1,H,.bm _ _,y,d=>trivial| n+1,H,.mi _,y,d=>trivial
theorem xN{n:Nat}{H:an}{v l:V}(b:dE n H v=aa l):kG n (H.map bV.full) v:=by
 cases v with
 | c x=>
  simp only [dE,IN]at b;obtain⟨y,d,rfl⟩:=b;exact gn n d
 | a xs=>
  simp only [dE,IN]at b;obtain⟨ys,g,rfl⟩:=b;intro x j;obtain⟨i,hi⟩:=aot j;obtain⟨y,_,d⟩:=(fX g).get hi;exact gn n d
 | _=>trivial
def Wd.inner(X:Wd):Wd:=⟨fun _=>ab,X.F,[],X.w,X.w.heap.size⟩
theorem SR.inner(d:SR Q σ X):SR Q σ X.inner:=⟨fun b L h=>by simp [Wd.inner]at h,fun b j L g h=>by simp [Wd.inner]at h,d.fb⟩
def Wd.jr(Y:Wd):Wd:=Wd.flag { Y with H:=Y.H.map bV.full }
theorem SR.jr{Y:Wd}(b:SR Q σ Y):SR Q σ Y.jr∧Ext Y.H.length Y Y.jr∧FL Y.jr:=by
 obtain⟨h1,h2⟩:=SR.ahead b (xM Y.H).ext;obtain⟨h3,h4,h5⟩:=SR.flag h1;exact⟨h3,h2.trans (h4.mono (by simp)),h5⟩
theorem BI{Y:Wd}(J:SR Q σ Y){n:Nat}{v g:V}{u:Value}(b:kM n Y.H v=aa g)(A:VR σ Y v u):FV σ Y.jr.F Y.w g u:=by
 obtain⟨F,H,I⟩:=SR.jr J;have m:=VR.ext' σ H A;have q:∀ {v g:V} {u:Value},dE n Y.H v=aa g→iM σ Y.jr v u→FV1 σ Y.jr.F Y.w g u:=by
  intro v g u b A;have z:dE n Y.jr.H v=aa g:=by
   show dE n (Y.H.map bV.full) v=aa g;cases v with
   | c x=>simp only [dE]at b ⊢;rw [mP n (xM Y.H)];exact b| a xs=>simp only [dE]at b ⊢;rw [fF (fun x _=>mP n (xM Y.H) x)];exact b
   | _=>simp [dE]at b
  exact ad5 F I (du.refl _) z (xN b) A
 intro Z j l;cases v with
 | t L=>
  simp only [kM,IN]at b;obtain⟨M,d,rfl⟩:=b;obtain⟨us,rfl,s⟩:=m;have d:=fX d;refine⟨us,rfl,by rw [←s.len,d.len],fun i y u E K=>?_⟩;have hi:i<L.length:=by rw [d.len];exact(IT.1 E).1
  have B:=By hi;exact q (d.2 i _ _ B E) (s.2 i _ _ B K) Z j l
 | c x=>exact VR.Xn σ (q (v:=.c x) b m Z j l)| a xs=>exact VR.Xn σ (q (v:=.a xs) b m Z j l)| top=>simp [kM,dE]at b
theorem SR.outer(q:SR Q σ X)(u:X.B≤X.w.heap.size){Y:Wd}(s:SR Q σ Y)(d:Ext 0 X.inner Y) :
  SR Q σ { X with F:=Y.jr.F,w:=Y.w }∧Ext X.H.length X { X with F:=Y.jr.F,w:=Y.w }∧X.B≤Y.w.heap.size:=by
 obtain⟨h1,h2,h3⟩:=SR.jr s;have wg:X.w.heap.size≤Y.w.heap.size:=d.size;have g:∀ k,k<X.w.heap.size→Y.w.heap[k]?=X.w.heap[k]?:=fun k m=>d.frame k m (fun b L h=>by simp [Wd.inner]at h);have l:∀ c i,Y.jr.F c i→X.F c i∨X.w.heap.size≤c:=by
  intro c i h;rcases h2.oX c i h with h | h | ⟨b,L,hb,rfl⟩
  ·rcases d.oX c i h with h | h | ⟨b,L,hb,_⟩
   ·exact .inl h
   ·exact .inr h
   ·simp [Wd.inner]at hb
  ·exact .inr (anL wg h)
  ·have:=(s.br b L hb).1;rw [d.B]at this;exact .inr this
 have j:Ext X.H.length X { X with F:=Y.jr.F,w:=Y.w }:=
  {B:=rfl,F:=fun c i h=>h2.F c i (d.F c i h)
   oX:=fun c i h=>(l c i h).elim .inl fun h=>.inr (.inl h)
   fw:=fun c i h=>d.fw c i h
   ba:=fun b _ bX hb=>⟨bX,hb,by cases bX<;>simp⟩
   wi:=fun b L h=>.inl ⟨b,L,h,rfl⟩,size:=wg,os:=d.os,tape:=d.tape,output:=d.output,frame:=fun k m _=>g k m }
 refine⟨⟨fun b L hb=>?_,q.inj,fun c i h=>h1.fb c i h⟩,j,anL u wg⟩;obtain⟨g1,g2,bX,g3,g4⟩:=q.br b L hb;refine⟨g1,aok g2 wg,bX,g3,BR.ext Q σ j (g _ g2) (fun i h=>?_) g4⟩;rcases l _ _ h with h | h
 ·exact h
 ·omega
end
section
variable{Q:Program}{σ:Nat→FuncId}{X:Wd}
def fV(Q:Program)(σ:Nat→FuncId)(X:Wd)(v:V)(H':an)(X':Wd)(u:Value):Prop:=
 X'.H=H'∧SR Q σ X'∧VR σ X' v u∧Ext X.H.length X X'∧X'.B≤X'.w.heap.size
def oM(b:CallKind)(cs:List Frame):Prop:=b=.normal∨(b=.deferred∧∃ c rest,cs=c::rest∧c.mode=.returning)
def iX(b:Frame)(cs:List Frame):Prop:=oM b.kind cs
theorem oM.KQ{fr:Frame}{cs:List Frame}(h:oM fr.kind cs):tryRecover fr cs=ab:=by
 unfold tryRecover;rcases h with h | ⟨h,c,rest,rfl,b⟩
 ·rw [h]
 ·rw [h];simp [b]
def Leaves(Q:Program)(f:FuncId)(d:CallKind)(b:Frame)(u:Value)(w:World):Prop:=
 b.mode=.returning∧b.defers=[]∧b.kind=d∧b.fn=f∧∃ fn,Q.funcs[f]?=aa fn∧(Go.results fn b.tmps).run Q w=.ok u w
structure fD(Q:Program)(σ:Nat→FuncId)(call:dy):Prop where
 enters:∀ f args H r,call (.fn f) args H=aa r→∀ as w,(callFunc (σ f) as).run Q w=.ok (.enter (σ f) as) w
 fn:∀ f args H r H',call (.fn f) args H=aa (r,H')→∀(X:Wd) us kind cs,X.H=H→SR Q σ X→X.B≤X.w.heap.size→A2 (VR σ X) args us→oM kind cs→kind=.normal∨f≠xT →
  ∃ fr X' u,Steps Q (lone (Frame.enter Q (σ f) us.toArray kind) cs X.w) (lone fr cs X'.w)∧Leaves Q (σ f) kind fr u X'.w∧fV Q σ X r H' X' u
 yield:∀ b args H r H',call (.yield b) args H=aa (r,H')→∀(X:Wd) us c cs L,X.H=H→SR Q σ X→X.B≤X.w.heap.size→A2 (VR σ X) args us→X.cF b=aa L →
  ∃ f tmps as bd X' u,(Instr.yield L.c us.toArray).run Q X.w=.ok (.round L.c f tmps as bd) X.w ∧
   Steps Q (lone (Frame.round L.c f tmps as bd .normal) (c::cs) X.w) (lone (c.finish u) cs X'.w)∧fV Q σ X r H' X' u
def dc(Q:Program)(σ:Nat→FuncId)(X:Wd)(o:Oper)(a:Act)(v:V)(H':an):Prop:=
 ∀(b:Frame) (ops:Array Oper) (i:Nat) (rest:List Nat) (k:List Item) (cs:List Frame),ops[i]?=aa o→Region.wanted o (yielded ops a.tmps)=ae→iX b cs →
  ∃ X' u,Steps Q (lone (b.atR a (.inRegion ops (i::rest)::k)) cs X.w) (lone (b.atR (a.put o.dst u) (.inRegion ops rest::k)) cs X'.w)∧fV Q σ X v H' X' u
theorem dc.akE{o:Oper}{a:Act}{v:V}{H':an}(j:∀ c,o.op≠.defer c)(h:gV Q σ X v H' (execOp a.eval o)):dc Q σ X o a v H':=by
 intro b ops i rest k cs ho l m;obtain⟨u,X',d,h1,h2,h3,h4,h5⟩:=h;refine⟨X',u,.one (step_lone_go ?_),h1,h2,h3,h4,h5⟩;rw [stepGR_op ho l,Oper.semAt_eq _ _ _ j];have g:=Frame.finish_atR b a ops i rest k u;rw [ho]at g;simp only [anR]at g;rw [←g];rcases d with d | ⟨d,rfl⟩<;>simp [stepG.apply,Sem.runT_eq,d]
theorem dc.tW{o:Oper}{a:Act}{v:V}{H':an}(j:∀ c,o.op≠.defer c){f:FuncId}{us:Array Value}(g:(execOp a.eval o).run Q X.w=.ok (.enter f us) X.w)
  (h:∀ cs,∃ fr X' u,Steps Q (lone (Frame.enter Q f us .normal) cs X.w) (lone fr cs X'.w)∧Leaves Q f .normal fr u X'.w∧fV Q σ X v H' X' u):dc Q σ X o a v H':=by
 intro b ops i rest k cs ho l y;obtain⟨fr,X',u,h1,⟨l1,l2,m,q,fn,s,x⟩,h3⟩:=h (b.atR a (.inRegion ops (i::rest)::k)::cs);refine⟨X',u,.head (step_lone_go (fr':=Frame.enter Q f us .normal) (cs':=b.atR a (.inRegion ops (i::rest)::k)::cs) (w':=X.w) ?_) (h1.trans (.one ?_)),h3⟩
 ·rw [stepGR_op ho l,Oper.semAt_eq _ _ _ j];simp [stepG.apply,Sem.runT_eq,g,Frame.atR]
 ·have d:=Frame.finish_atR b a ops i rest k u;rw [ho]at d;simp only [anR]at d;rw [←d];exact step_leave_returned ⟨l1,l2,m,fn,by rw [q];exact s,x⟩
theorem dc.Wh{o:Oper}{a:Act}{v:V}{H':an}(j:∀ c,o.op≠.defer c){l:Nat}{f:FuncId}{tmps:Array Value}{as bd:Code}(g:(execOp a.eval o).run Q X.w=.ok (.round l f tmps as bd) X.w)
  (h:∀ c cs,∃ X' u,Steps Q (lone (Frame.round l f tmps as bd .normal) (c::cs) X.w) (lone (c.finish u) cs X'.w)∧fV Q σ X v H' X' u):dc Q σ X o a v H':=by
 intro b ops i rest k cs ho m q;obtain⟨X',u,h1,h3⟩:=h (b.atR a (.inRegion ops (i::rest)::k)) cs;refine⟨X',u,.head (step_lone_go (fr':=Frame.round l f tmps as bd .normal) (cs':=b.atR a (.inRegion ops (i::rest)::k)::cs) (w':=X.w) ?_) ?_,h3⟩
 ·rw [stepGR_op ho m,Oper.semAt_eq _ _ _ j];simp [stepG.apply,Sem.runT_eq,g,Frame.atR]
 ·have d:=Frame.finish_atR b a ops i rest k u;rw [ho]at d;simp only [anR]at d;rw [←d];exact h1
theorem oC{x:V}{u:Value}{args:List V}{us:List Value}{c:Callee}{d:List V}(j:bO x args=aa (c,d))(l:VR σ X x u)(q:A2 (VR σ X) args us) :
  match c with
  | .fn f=>∃ fst cap:List Value,u=.func (.func (σ f)) fst.toArray cap.toArray∧A2 (VR σ X) d (fst++us++cap)| .yield b=>d=args∧∃ L,X.cF b=aa L∧u=.func (.yield L.c) #[] #[]:=by
 unfold bO at j;split at j
 ·rename_i f m;cases j;cases l with
  | fn _ _ cap y z=>
   refine⟨[],cap,rfl,q.append (A2.map ⟨y.symm,fun i x u l A=>?_⟩)⟩;exact z i x u l A
 ·rename_i f m;cases j;obtain⟨cap,rfl,g⟩:=l;exact⟨[],cap,rfl,q.append (A2.map (g.kB fun x u h=>CR.Xn σ h))⟩
 ·rename_i b;cases j;obtain⟨L,v,_,rfl⟩:=l;exact⟨rfl,L,v,rfl⟩
 ·rename_i f first
  cases j;obtain⟨cap,rfl,g⟩:=l;have s:A2 (VR σ X) (first.map .c) cap:=A2.map (g.kB fun x u h=>CR.Xn σ h);exact⟨cap,[],rfl,by simpa using s.append q⟩
 ·simp at j
theorem iH{a:Act}{o:Oper}{cl:Call}{y:Operand}(b:o.op=.call cl)(g:cl.callee=.value y){w:World}{fn:Fn}{fst cap:Array Value}(d:a.eval y=.func fn fst cap) :
  (execOp a.eval o).run Q w=(invoke (.fn fn cap) (fst++cl.args.map a.eval)).run Q w:=by
 simp only [execOp,b,resolve,g,d,Deferred.ofValue,Sem.run_bind,Sem.run_pure,Result.andThen_ok]
theorem fq{f:FuncId}{cap as:Array Value}{w:World}(h:∀ as w,(callFunc f as).run Q w=.ok (.enter f as) w):(invoke (.fn (.func f) cap) as).run Q w=.ok (.enter f (as++cap)) w:=by
 simp only [invoke];exact h _ _
end
section
variable{Q:Program}{σ:Nat→FuncId}{X:Wd}{call:dy}
theorem abY{n:Nat}{H H':an}(h:gD H H')(v:V):dE n H' v=dE n H v:=by
 cases v with
 | c x=>simp only [dE,mP n h]| a xs=>simp only [dE,fF (fun x _=>mP n h x)]
 | _=>rfl
theorem yC(K:fD Q σ call)(hS:SR Q σ X)(hB:X.B≤X.w.heap.size){f:Nat}{args:List V}{us:List Value}{H H':an}{r':V}(g:fh call f args H=aa (r',H'))(hH:du H' X.H)(L:A2 (VR σ X) args us)(cs:List Frame) :
  (∀ as w,(callFunc (σ f) as).run Q w=.ok (.enter (σ f) as) w) ∧
  ∃ l X' u,Steps Q (lone (Frame.enter Q (σ f) us.toArray .normal) cs X.w) (lone l cs X'.w)∧Leaves Q (σ f) .normal l u X'.w∧fV Q σ X r' X.H X' u∧X'.cF=X.cF:=by
 unfold fh at g;split at g
 ·simp at g
 ·rename_i s d;split at g
  ·simp at g
  ·rename_i r S b;split at g
   ·simp at g
   ·rename_i a7 M;simp only [AI,anc]at g;obtain⟨rfl,rfl⟩:=g;have A:=pU deep args H;have B:=rL deep args H;obtain⟨v,J,h3⟩:=SR.flag hS;have d:=fX d;have z:A2 (VR σ X.flag.inner) s us:=by
     refine⟨by rw [←d.len];exact L.len,fun i y u O hu=>?_⟩;have hi:i<args.length:=by rw [d.len];exact(IT.1 O).1
     have N:=By hi;have m:dE deep H args[i]=aa y:=d.2 i _ _ N O;have q:=VR.ext' σ J (L.2 i _ _ N hu);rw [←abY A]at m;have E:iM σ X.flag args[i] u:=by
      cases j:args[i]with
      | c x=>rw [j]at q;exact q| a xs=>rw [j]at q;exact q| top=>trivial| t vs=>rw [j]at m;simp [dE]at m
     exact VR.Xn σ (ad5 v h3 hH m (B _ (IS hi)) E X.flag.inner rfl rfl)
    obtain⟨l,Y,u,U,W,Z,I,g5,g6,g7⟩:=K.fn f s [] r S b X.flag.inner us .normal cs rfl (SR.inner v) (anl _) z (.inl rfl) (.inl rfl);obtain⟨k1,k2,k3⟩:=SR.outer v hB I g6;refine⟨K.enters f s [] _ b,l,{ X.flag with F:=Y.jr.F,w:=Y.w },u,U,W,⟨rfl,k1,?_,J.trans (k2.mono (anl _)),k3⟩,rfl⟩;rw [←Z]at M;exact BI I M g5 _ rfl rfl
theorem nb{o:Oper}{f:Nat}{xs:List Arg}{h:Bool}(b:dX Q σ o (.call f xs h)=ae):∃ c,o.op=.call c∧c.callee=.value (.func (σ f))∧Xm σ xs c.args=ae:=by
 simp only [dX]at b;split at b
 ·rename_i c j;simp only [dY]at b;split at b
  ·rename_i g d;simp only [If,beq_iff_eq]at b;exact⟨c,j,by rw [d,b.1],b.2⟩
  ·simp at b
 ·simp at b
theorem yv{o:Oper}{x:Arg}{xs:List Arg}{h:Bool}(b:dX Q σ o (.bZ x xs h)=ae):∃ c y,o.op=.call c∧c.callee=.value y∧mA σ x y=ae∧Xm σ xs c.args=ae:=by
 simp only [dX]at b;split at b
 ·rename_i c d;simp only [dY]at b;split at b
  ·rename_i y g;simp only [If]at b;exact⟨c,y,d,g,b.1,b.2⟩
  ·simp at b
 ·simp at b
theorem km{o:Oper}{c:Call}(h:o.op=.call c):∀ c,o.op≠.defer c:=fun b e=>by rw [h]at e;cases e
theorem z8(l:fD Q σ call)(q:SR Q σ X)(j:X.B≤X.w.heap.size){a:Act}{aG:T}(E:RR σ X aG a.tmps){o:Oper}{f:Nat}{xs:List Arg}{h:Bool}(I:dX Q σ o (.call f xs h)=ae)
  {H H':an} {v:V} (y:fh call f (dz aG xs) H=aa (v,H')) (m:du H' X.H):dc Q σ X o a v X.H:=by
 obtain⟨c,x,F,d⟩:=nb I;have s:=mW E d;have b:=(yC l q j y m s []).1;refine dc.tW (km x) (f:=σ f) (us:=c.args.map a.eval) ?_ fun cs=>?_
 ·rw [iH x F (fn:=.func (σ f)) (fst:=#[]) (cap:=#[]) rfl,fq b];simp
 ·obtain⟨_,z,X',u,g,A,B,_⟩:=yC l q j y m s cs;exact⟨z,X',u,by rw [Array.toArray_toList]at g;exact g,A,B⟩
theorem xC(A:fD Q σ call)(F:SR Q σ X)(z:X.B≤X.w.heap.size){a:Act}{aG:T}(E:RR σ X aG a.tmps){o:Oper}{f:Nat}{xs:List Arg}{h:Bool}(K:dX Q σ o (.call f xs h)=ae)
  {H H':an} {v:V} (L:fh call f (dz aG xs) H=aa (v,H')) (B:du H' X.H)
  (b:Frame) (ops:Array Oper) (i:Nat) (rest:List Nat) (k:List Item) (cs:List Frame) (g:ops[i]?=aa o) (M:Region.wanted o (yielded ops a.tmps)=ae) :
  ∃ X' u,Steps Q (lone (b.atR a (.inRegion ops (i::rest)::k)) cs X.w) (lone (b.atR (a.put o.dst u) (.inRegion ops rest::k)) cs X'.w)∧fV Q σ X v X.H X' u∧X'.cF=X.cF:=by
 obtain⟨c,s,J,m⟩:=nb K;have I:=mW E m;obtain⟨l,Z,X',u,q,⟨N,O,S,U,fn,W,Y⟩,x,y⟩:=yC A F z L B I (b.atR a (.inRegion ops (i::rest)::k)::cs);rw [Array.toArray_toList]at q;have j:(execOp a.eval o).run Q X.w=.ok (.enter (σ f) (c.args.map a.eval)) X.w:=by
  rw [iH s J (fn:=.func (σ f)) (fst:=#[]) (cap:=#[]) rfl,fq l];simp
 refine⟨X',u,.head (step_lone_go (fr':=Frame.enter Q (σ f) (c.args.map a.eval) .normal) (cs':=b.atR a (.inRegion ops (i::rest)::k)::cs) (w':=X.w) ?_) (q.trans (.one ?_)),x,y⟩
 ·rw [stepGR_op g M,Oper.semAt_eq _ _ _ (km s)];simp [stepG.apply,Sem.runT_eq,j,Frame.atR]
 ·have d:=Frame.finish_atR b a ops i rest k u;rw [g]at d;simp only [anR]at d;rw [←d];exact step_leave_returned ⟨N,O,S,fn,by rw [U];exact W,Y⟩
theorem z7(j:fD Q σ call)(A:SR Q σ X)(y:X.B≤X.w.heap.size){a:Act}{aG:T}(z:RR σ X aG a.tmps){o:Oper}{f:Nat}{xs:List Arg}{h:Bool}(F:dX Q σ o (.call f xs h)=ae)
  {H':an} {v:V} (m:call (.fn f) (dz aG xs) X.H=aa (v,H')):dc Q σ X o a v H':=by
 obtain⟨c,l,E,d⟩:=nb F;have B:=mW z d;have b:=j.enters _ _ _ _ m;refine dc.tW (km l) (f:=σ f) (us:=c.args.map a.eval) ?_ fun cs=>?_
 ·rw [iH l E (fn:=.func (σ f)) (fst:=#[]) (cap:=#[]) rfl,fq b];simp
 ·obtain⟨q,X',u,g,s,x⟩:=j.fn _ _ _ _ _ m X _ .normal cs rfl A y B (.inl rfl) (.inl rfl);exact⟨q,X',u,by rw [Array.toArray_toList]at g;exact g,s,x⟩
theorem Vn(A:fD Q σ call)(M:SR Q σ X)(J:X.B≤X.w.heap.size){a:Act}{aG:T}(K:RR σ X aG a.tmps){o:Oper}{x:Arg}{xs:List Arg}{h:Bool}(hm:dX Q σ o (.bZ x xs h)=ae)
  {H':an} {v:V} {c:Callee} {args:List V} (m:bO (x.ev aG) (dz aG xs)=aa (c,args)) (E:call c args X.H=aa (v,H')):dc Q σ X o a v H':=by
 obtain⟨cl,y,s,O,hy,H⟩:=yv hm;have N:=mW K H;have S:=oC m (bT K hy) N;cases c with
 | fn f=>
  obtain⟨fst,cap,j,F⟩:=S;have B:=A.enters _ _ _ _ E;refine dc.tW (km s) (f:=σ f) (us:=fst.toArray++cl.args.map a.eval++cap.toArray) ?_ fun cs=>?_
  ·rw [iH s O j,fq B]
  ·obtain⟨W,X',u,q,z,Y⟩:=A.fn _ _ _ _ _ E X _ .normal cs rfl M J F (.inl rfl) (.inl rfl);refine⟨W,X',u,?_,z,Y⟩;have e:(fst++(cl.args.map a.eval).toList++cap).toArray=fst.toArray++cl.args.map a.eval++cap.toArray:=by simp
   rw [e]at q;exact q
 | yield b=>
  obtain⟨rfl,L,Z,j⟩:=S;have key:=fun c cs=>A.yield b _ _ _ _ E X _ c cs L rfl M J N Z;obtain⟨f,tmps,as,bd,_,_,g,_⟩:=key default [];refine dc.Wh (km s) (l:=L.c) (f:=f) (tmps:=tmps) (as:=as) (bd:=bd) ?_ fun c cs=>?_
  ·rw [iH s O j,Array.empty_append];rw [Array.toArray_toList]at g;exact g
  ·obtain⟨f',I,as',U,X',u,d,q,z⟩:=key c cs;rw [g]at d;simp only [Result.ok.injEq,Next.round.injEq,true_and,and_true]at d;obtain⟨rfl,rfl,rfl,rfl⟩:=d;exact⟨X',u,q,z⟩
end
section
variable{Q:Program}{σ:Nat→FuncId}{X:Wd}{call:dy}
def sV(σ:Nat→FuncId)(X:Wd):fB→Deferred→Prop
 | .dN b,d=>∃ L o,X.cF b=aa L∧X.H[b]?=aa (.eo o)∧d = { target:=.collected L.c,args:=#[] }| .fn f args,d=>∃ us cap:Array Value,d = { target:=.fn (.func (σ f)) cap,args:=us }∧A2 (VR σ X) args (us.toList++cap.toList)
theorem sV.ed{X X':Wd}(g:oW X.H.length X X'){x:fB}{d:Deferred}(h:sV σ X x d):sV σ X' x d:=by
 cases x with
 | dN b=>
  obtain⟨L,o,h1,h2,h3⟩:=h;obtain⟨blk',h4,h5⟩:=g.ba b (IT.1 h2).1 _ h2;cases blk'<;>simp only at h5;exact⟨L,_,h5 L h1,h4,h3⟩
 | fn f args=>
  obtain⟨us,cap,h1,h2⟩:=h;exact⟨us,cap,h1,h2.kB fun _ _ h=>VR.ed σ g h⟩
def fU(σ:Nat→FuncId)(X:Wd)(b:List fB)(d:List Deferred):Prop:=A2 (sV σ X) b d
theorem sV.ext'{X X':Wd}(b:Ext X.H.length X X'){x:fB}{d:Deferred}(h:sV σ X x d):sV σ X' x d:=sV.ed b.W h
theorem fU.ed{X X':Wd}(b:oW X.H.length X X'){ds:List fB}{ms:List Deferred}(h:fU σ X ds ms):fU σ X' ds ms:=h.kB fun _ _ h=>sV.ed b h
theorem fU.ext'{X X':Wd}(b:Ext X.H.length X X'){ds:List fB}{ms:List Deferred}(h:fU σ X ds ms):fU σ X' ds ms:=h.kB fun _ _ h=>sV.ext' b h
def oY(Q:Program)(σ:Nat→FuncId)(X:Wd)(o:Oper)(a:Act)(ok:Frame→Prop)(v:V)(H':an)(d:List fB):Prop:=
 ∀(b:Frame) (ops:Array Oper) (i:Nat) (rest:List Nat) (k:List Item) (cs:List Frame),ops[i]?=aa o→Region.wanted o (yielded ops a.tmps)=ae→iX b cs→ok b →
  ∃(X':Wd) (u:Value) (a':Act),Steps Q (lone (b.atR a (.inRegion ops (i::rest)::k)) cs X.w) (lone (b.atR (a'.put o.dst u) (.inRegion ops rest::k)) cs X'.w)∧fV Q σ X v H' X' u∧a'.tmps=a.tmps∧fU σ X' d a'.defers
theorem dc.Xf{o:Oper}{a:Act}{v:V}{H':an}(h:dc Q σ X o a v H'){ds:List fB}(d:fU σ X ds a.defers){ok:Frame→Prop}:oY Q σ X o a ok v H' ds:=by
 intro b ops i rest k cs ho j g _;obtain⟨X',u,h1,h2⟩:=h b ops i rest k cs ho j g;exact⟨X',u,a,h1,h2,rfl,d.ext' h2.2.2.2.1⟩
theorem dc.ahead(j:SR Q σ X){d H':an}(g:du X.H d){o:Oper}{a:Act}{v:V}(h:dc Q σ { X with H:=d } o a v H'):dc Q σ X o a v H':=by
 intro b ops i rest k cs ho m l;obtain⟨X',u,h1,h2,h3,h4,h5,h6⟩:=h b ops i rest k cs ho m l;exact⟨X',u,h1,h2,h3,h4,(SR.ahead j g).2.trans (h5.mono g.len),h6⟩
def gH(op:dq)(b:Frame):Prop:=b.roundOf=ab∨op.eX=ae
theorem Cl(z:SR Q σ X)(y:X.B≤X.w.heap.size){a:Act}{o:Oper}(g:dX Q σ o .recover=ae){u:List fB}(A:fU σ X u a.defers):oY Q σ X o a (gH .recover) (.c (.f .oJ)) X.H u:=by
 intro b ops i rest k cs x E B q;have q:b.roundOf=ab:=q.elim id fun h=>by simp [dq.eX]at h
 simp only [dX]at g;split at g
 ·rename_i c v;simp only [dY]at g;split at g
  ·rename_i j;have l:(execOp a.eval o).run Q X.w=.ok .recover X.w:=by
    simp [execOp,v,resolve,j,invoke,builtin]
   refine⟨X,.nilIface,a,.one (step_lone_go ?_),⟨rfl,z,cW.oJ,Ext.refl _ _,y⟩,rfl,A⟩;rw [stepGR_op x E,Oper.semAt_eq _ _ _ (km v)];have d:=Frame.finish_atR b a ops i rest k .nilIface;rw [x]at d;simp only [anR]at d;rw [←d];have m:tryRecover (b.atR a (.inRegion ops (i::rest)::k)) cs=ab:=oM.KQ B;have s:(b.atR a (.inRegion ops (i::rest)::k)).roundOf=ab:=q;simp [stepG.apply,Sem.runT_eq,l,m,s]
  ·simp at g
 ·simp at g
theorem Vz(B:SR Q σ X)(A:X.B≤X.w.heap.size){a:Act}{aG:T}(v:RR σ X aG a.tmps){o:Oper}{x:Arg}{xs:List Arg}(g:dX Q σ o (.defer x xs)=ae){u:List fB}(F:fU σ X u a.defers)
  {f:Nat} {args:List V} (E:bO (x.ev aG) (dz aG xs)=aa (.fn f,args)):oY Q σ X o a (gH (.defer x xs)) .top X.H (.fn f args::u):=by
 intro b ops i rest k cs z I K m;have m:b.roundOf=ab:=m.elim id fun h=>by simp [dq.eX]at h
 simp only [dX]at g;split at g
 ·rename_i c j;split at g
  ·rename_i y J;simp only [If]at g;have H:=oC E (bT v g.1) (mW v g.2);obtain⟨fst,cap,q,s⟩:=H;have l:(execOp a.eval o).run Q X.w=.ok (.defer { target:=.fn (.func (σ f)) cap.toArray,args:=fst.toArray++c.args.map a.eval }) X.w:=by
    simp [execOp,j,resolve,J,q,Deferred.ofValue]
   refine⟨X,undef,{ a with defers:={ target:=.fn (.func (σ f)) cap.toArray,args:=fst.toArray++c.args.map a.eval }::a.defers },.one (step_lone_go ?_),⟨rfl,B,trivial,Ext.refl _ _,A⟩,rfl,A2.cons ⟨_,_,rfl,by simpa using s⟩ F⟩;rw [stepGR_op z I,m,Oper.semAt_none];have d:=Frame.finish_atR b { a with defers:={ target:=.fn (.func (σ f)) cap.toArray,args:=fst.toArray++c.args.map a.eval }::a.defers } ops i rest k undef;rw [z]at d;simp only [anR]at d;rw [←d];simp [stepG.apply,Sem.runT_eq,l,Frame.atR]
  ·simp at g
 ·simp at g
theorem pR{o:Oper}{op:dq}(d:dX Q σ o op=ae)(g:∀ x xs,op≠.defer x xs)(j:op≠.bad):∀ c,o.op≠.defer c:=by
 intro c b;cases op
 case pre o sz=>cases o<;>simp [dX,b]at d
 case defer x xs=>exact g _ _ rfl
 case bad=>exact j rfl
 all_goals simp [dX,b]at d
theorem D6(A:fD Q σ call)(g:SR Q σ X)(l:X.B≤X.w.heap.size){a:Act}{s z:St}(m:X.H=s.heap)(q:RR σ X s.aG a.tmps)(u:fU σ X s.defs a.defers){o:Oper}{op:dq}(j:dX Q σ o op=ae){v:V}
  (h:eO call s op=aa (v,z)):oY Q σ X o a (gH op) v z.heap z.defs∧z.aG=s.aG:=by
 by_cases E:(∃ f xs h,op=.call f xs h)∨(∃ x xs h,op=.bZ x xs h)∨op=.recover∨∃ x xs,op=.defer x xs
 ·rcases E with⟨f,xs,L,rfl⟩ | ⟨x,xs,L,rfl⟩ | rfl | ⟨x,xs,rfl⟩
  ·simp only [eO,IN,anc]at h;obtain⟨⟨I,H'⟩,d,rfl,rfl⟩:=h;refine⟨dc.Xf ?_ u,rfl⟩;unfold gI at d;split at d
   ·exact z7 A g l q j (m▸d)
   ·have y:du X.H H':=by
     have b:=d;unfold fh at b;split at b
     ·simp at b
     ·split at b
      ·simp at b
      ·split at b
       ·simp at b
       ·simp only [AI,anc]at b;rw [←b.2,m];exact(pU _ _ _).ext
    obtain⟨J,K⟩:=SR.ahead g y;refine dc.ahead g y ?_;exact z8 A (X:={ X with H:=H' }) J l (q.ext' σ K) j d (du.refl _)
  ·simp only [eO]at h;split at h
   ·rename_i c args B;simp only [IN,anc]at h;obtain⟨⟨I,H'⟩,d,rfl,rfl⟩:=h;exact⟨dc.Xf (Vn A g l q j B (m▸d)) u,rfl⟩
   ·simp at h
  ·simp only [eO,AI,anc]at h;obtain⟨rfl,rfl⟩:=h;rw [←m];exact⟨Cl g l j u,rfl⟩
  ·simp only [eO]at h;split at h
   ·rename_i f args B;simp only [AI,anc]at h;obtain⟨rfl,rfl⟩:=h;refine⟨?_,rfl⟩;rw [←m];exact Vz g l q j u B
   ·simp at h
 ·have F:(bE s.aG s.heap op).map (fun r=>(r.1,{ s with heap:=r.2 }))=aa (v,z):=by
   cases op<;>first | exact h | (exfalso;apply E;simp)
  simp only [IN,anc]at F;obtain⟨⟨I,H'⟩,d,rfl,rfl⟩:=F;refine⟨dc.Xf (dc.akE (pR j ?_ ?_) (aib g l q j (m▸d))) u,rfl⟩
  ·rintro x xs rfl;exact E (.inr (.inr (.inr ⟨x,xs,rfl⟩)))
  ·rintro rfl;simp [bE]at d
end
section
variable{Q:Program}{σ:Nat→FuncId}{X:Wd}{call:dy}
structure Fr(Q:Program)(σ:Nat→FuncId)(n:Nat)(X:Wd)(s:St)(a:Act):Prop where
 heap:X.H=s.heap
 sr:SR Q σ X
 b:X.B≤X.w.heap.size
 aG:RR σ X s.aG a.tmps
 defs:fU σ X s.defs a.defers
 size:n≤a.tmps.size
theorem nR{n:Nat}{ops:Array Oper}{o:Oper}{m:aS}(F:kg Q σ n ops o m=ae){aG:T}{tmps:Array Value}(I:∀ p w',m.g=aa (p,w')→VR σ X (aG.get p) (tmps.getD p.toNat undef))(K:n≤tmps.size){w:Bool}(h:wanted aG m.g=aa w) :
  Region.wanted o (yielded ops tmps)=w:=by
 simp only [kg,If]at F;obtain⟨_,b⟩:=F;unfold Region.wanted;cases x:o.guard with
 | none=>
  rw [x]at b;cases g:m.g with
  | none=>rw [g]at h;simp only [wanted,AI]at h;simpa using h| some q=>rw [g]at b;simp at b
 | some L=>
  obtain⟨j,N⟩:=L;rw [x]at b;cases g:m.g with
  | none=>rw [g]at b;simp at b
  | some q=>
   obtain⟨p,w'⟩:=q;rw [g]at b h;simp only [If,beq_iff_eq]at b;obtain⟨rfl,b⟩:=b;split at b
   ·rename_i d J;simp only [If,beq_iff_eq,decide_eq_true_eq]at b;obtain⟨B,A⟩:=b;have l:=I p _ g;rw [B]at l;have v:d<tmps.size:=aok A K;have s:tmps.getD d undef=tmps[d]:=by simp [Array.getD,v]
    rw [s]at l;simp only [wanted]at h;simp only [yielded,J,anR,Array.getElem?_eq_getElem v];split at h
    ·rename_i H z;rw [z]at l;simp only [AI]at h;have y:cW σ X.F X.w (.bool H) tmps[d]:=l;generalize tmps[d]=u at y;cases y;subst h;simp
    ·rename_i z;rw [z]at l;obtain⟨us,E,M⟩:=l;simp only [AI]at h;subst h;rw [E];simp
    ·simp at h
   ·simp at b
theorem WH{n:Nat}{ops:Array Oper}{o:Oper}{m:aS}(s:kg Q σ n ops o m=ae){aG:T}{a:Act}(q:RR σ X aG a.tmps)(x:n≤a.tmps.size){v:V}{u:Value}(y:VR σ X v u) :
  RR σ X (iG aG m.dst v) (a.put o.dst u).tmps∧(a.put o.dst u).tmps.size=a.tmps.size∧(a.put o.dst u).defers=a.defers:=by
 simp only [kg,If]at s;obtain⟨⟨_,b⟩,_⟩:=s;split at b
 ·rename_i d p g j;simp only [If,beq_iff_eq,decide_eq_true_eq]at b;obtain⟨rfl,l⟩:=b;rw [g,j];exact⟨RR.set σ q (aok l x) y,by simp [Act.put],rfl⟩
 ·rename_i g j;rw [g,j];exact⟨q,rfl,rfl⟩
 ·simp at b
theorem VR.undef:VR σ X (.t []) undef:=⟨[],rfl,A2.nil⟩
theorem Xh(S:fD Q σ call){n:Nat}{s E:St}{a:Act}(d:Fr Q σ n X s a){ops:Array Oper}{o:Oper}{q:aS}(j:kg Q σ n ops o q=ae)(h:fA call s q=aa E)
  {b:Frame} {i:Nat} {rest:List Nat} {k:List Item} {cs:List Frame} (y:ops[i]?=aa o) (U:iX b cs) (W:gH q.op b) :
  ∃ X' a',Steps Q (lone (b.atR a (.inRegion ops (i::rest)::k)) cs X.w) (lone (b.atR a' (.inRegion ops rest::k)) cs X'.w)∧Fr Q σ n X' E a'∧Ext X.H.length X X'∧a'.tmps.size=a.tmps.size:=by
 unfold fA at h;split at h
 ·rename_i g;have g:=nR j (fun p w' _=>d.aG p) d.size g;split at h
  ·rename_i v Y M;simp only [AI]at h;subst h;have l:dX Q σ o q.op=ae:=by simp only [kg,If]at j;exact j.1.1
   obtain⟨N,O⟩:=D6 S d.sr d.b d.heap d.aG d.defs l M;obtain⟨X',u,a',F,⟨H,I,J,B,K⟩,x,L⟩:=N b ops i rest k cs y g U W;obtain⟨z,m,A⟩:=WH j (X:=X') (a:=a') (by rw [x];exact d.aG.ext' σ B) (by rw [x];exact d.size) J;refine⟨X',a'.put o.dst u,F,⟨H,I,K,?_,by rw [A];exact L,by rw [m,x];exact d.size⟩,B,by rw [m,x]⟩;simpa [O]using z
  ·simp at h
 ·rename_i g;have g:=nR j (fun p w' _=>d.aG p) d.size g;simp only [AI]at h;subst h;obtain⟨z,m,A⟩:=WH j d.aG d.size (VR.undef (σ:=σ) (X:=X));refine⟨X,a.put o.dst undef,.one ?_,⟨d.heap,d.sr,d.b,z,by rw [A];exact d.defs,by rw [m];exact d.size⟩,Ext.refl _ _,m⟩;have:=stepR_op_skip (P:=Q) (b:=b) (a:=a) (k:=k) (cs:=cs) (w:=X.w) (ops:=ops) (i:=i) (rest:=rest) (by simp [y,g]);rw [y]at this;exact this
 ·simp at h
theorem D9(I:fD Q σ call){n:Nat}{ops:Array Oper}{b:Frame}{k:List Item}{cs:List Frame}(J:iX b cs):∀(aos:List aS) (j:Nat) (X:Wd) (s v:St) (a:Act),Fr Q σ n X s a →
  fM (kg Q σ n ops) (ops.toList.drop j) aos=ae→(∀ ao ∈ aos,gH ao.op b)→fL call aos s=aa v →
  ∃ X' a',Steps Q (lone (b.atR a (.inRegion ops ((List.range ops.size).drop j)::k)) cs X.w) (lone (b.atR a' k) cs X'.w)∧Fr Q σ n X' v a'∧Ext X.H.length X X'∧a'.tmps.size=a.tmps.size
 | [],j,X,s,v,a,B,d,_,h=>by
  simp only [fL,AI]at h;subst h;have U:(List.range ops.size).drop j=[]:=by
   cases g:ops.toList.drop j with
   | nil=>
    have:=apF.1 g;simp at this;rw [apF];simpa using this
   | cons x xs=>rw [g]at d;simp [fM]at d
  rw [U];exact⟨X,a,.one stepR_region_end,B,Ext.refl _ _,rfl⟩
 | ao::aos,j,X,s,v,a,B,d,K,h=>by
  cases g:ops.toList.drop j with
  | nil=>rw [g]at d;simp [fM]at d
  | cons o os=>
   rw [g]at d;simp only [fM,If]at d;have y:j<ops.toList.length:=by
    rcases anQ j ops.toList.length with q | q
    ·exact q
    ·rw [apF.2 q]at g;simp at g
   have l:=anw y;rw [g]at l;simp only [List.cons.injEq]at l;obtain⟨W,H⟩:=l;simp only [fL]at h;split at h
   ·rename_i s1 q;have m:(List.range ops.size).drop j=j ::(List.range ops.size).drop (j+1):=by
     rw [anw (by simpa using y)];simp
    rw [m];obtain⟨z,a1,N,O,A,S⟩:=Xh I B d.1 q (b:=b) (i:=j) (rest:=(List.range ops.size).drop (j+1)) (k:=k) (cs:=cs) (by simp at y;simp [y,W]) J (K _ (by simp));obtain⟨L,M,Y,Z,k3,k4⟩:=D9 I J aos (j+1) z s1 v a1 O (by rw [←H];exact d.2) (fun ao h=>K ao (by simp [h])) h;refine⟨L,M,N.trans Y,Z,A.trans (k3.mono ?_),k4.trans S⟩;have:=A.ba;rcases anQ z.H.length X.H.length with u | F
    ·obtain⟨blk',E,_⟩:=A.ba z.H.length u _ (By u);have:=(IT.1 E).1;omega
    ·exact F
   ·simp at h
end
theorem jV{r r':T}{x:Arg}(h:∀ p ∈ x.rd,r.get p=r'.get p):x.ev r=x.ev r':=by
 cases x with
 | r p=>exact h p (by simp [Arg.rd])
 | k v=>rfl
theorem KT{r r':T}{x:Option Arg}(h:∀ p ∈ oRd x,r.get p=r'.get p):x.map (·.ev r)=x.map (·.ev r'):=by
 cases x with
 | none=>rfl| some x=>simp only [anZ];rw [jV h]
theorem gk{r r':T}{xs:List Arg}(h:∀ p ∈ xs.flatMap Arg.rd,r.get p=r'.get p):dz r xs=dz r' xs:=by
 unfold dz;refine List.map_congr_left fun x d=>jV fun p b=>h p (apn.2 ⟨x,d,b⟩)
theorem iY{r r':T}:∀(ps:List (Nat × Nat × Arg)) (cs:List C),(∀ p ∈ ps.flatMap (fun q=>q.2.2.rd),r.get p=r'.get p)→fG r cs ps=fG r' cs ps
 | [],cs,_=>rfl
 | (d,n,x)::ps,cs,h=>by
  simp only [fG];rw [jV (x:=x) (r:=r) (r':=r') fun p b=>h p (by simp [b])];split
  ·split
   ·exact iY ps _ fun p b=>h p (by simp only [List.flatMap_cons,anm];exact .inr b)
   ·rfl
  ·rfl
theorem CB{r r':T}{H:an}{op:dq}(h:∀ p ∈ op.rd,r.get p=r'.get p):bE r H op=bE r' H op:=by
 have e:∀ x:Arg,(∀ p ∈ x.rd,p ∈ op.rd)→x.ev r=x.ev r':=fun x A=>jV fun p d=>h p (A p d);have g:∀ x:Option Arg,(∀ p ∈ oRd x,p ∈ op.rd)→x.map (·.ev r)=x.map (·.ev r'):=fun x A=>KT fun p d=>h p (A p d);cases op
 case build zs ps=>simp only [bE];rw [iY ps _ h]
 case bS sz zs n ps=>
  simp only [bE];rw [iY (r:=r) (r':=r') (ps.map fun p=>(p.1*sz,sz,p.2)) _ fun p d=>h p (by
   simp only [apn,anv]at d;obtain⟨q,⟨q',j,rfl⟩,u⟩:=d;exact apn.2 ⟨q',j,u⟩)]
 case jK sz zs n ps=>
  simp only [bE];rw [iY (r:=r) (r':=r') (ps.map fun p=>(p.1*sz,sz,p.2)) _ fun p d=>h p (by
   simp only [apn,anv]at d;obtain⟨q,⟨q',j,rfl⟩,u⟩:=d;exact apn.2 ⟨q',j,u⟩)]
 case iE f xs=>simp only [bE];rw [gk h]
 case pick c a b=>
  simp only [bE];rw [e c (by simp +contextual [dq.rd])];split
  ·rename_i v _;cases v<;>simp [e a (by simp +contextual [dq.rd]),e b (by simp +contextual [dq.rd])]
  ·rfl
 case slice sz x lo hi mx=>simp only [bE];rw [e x (by simp +contextual [dq.rd]),g lo (by simp +contextual [dq.rd]),g hi (by simp +contextual [dq.rd]),g mx (by simp +contextual [dq.rd])]
 case qu n sz x lo hi mx=>simp only [bE];rw [e x (by simp +contextual [dq.rd]),g lo (by simp +contextual [dq.rd]),g hi (by simp +contextual [dq.rd]),g mx (by simp +contextual [dq.rd])]
 case rQ x lo hi=>simp only [bE];rw [e x (by simp +contextual [dq.rd]),g lo (by simp +contextual [dq.rd]),g hi (by simp +contextual [dq.rd])]
 case lT B m k v=>simp only [bE];rw [e m (by simp +contextual [dq.rd]),e k (by simp +contextual [dq.rd]),e v (by simp +contextual [dq.rd])]
 case cX x=>simp only [bE];rw [e x (by simp +contextual [dq.rd])]
 case box x=>simp only [bE];rw [e x (by simp +contextual [dq.rd])]
 case load n x=>simp only [bE];rw [e x (by simp +contextual [dq.rd])]
 case dP x=>simp only [bE];rw [e x (by simp +contextual [dq.rd])]
 case un o x=>simp only [bE];rw [e x (by simp +contextual [dq.rd])]
 case jJ k x=>simp only [bE];rw [e x (by simp +contextual [dq.rd])]
 case BA x=>simp only [bE];rw [e x (by simp +contextual [dq.rd])]
 case Ag x=>simp only [bE];rw [e x (by simp +contextual [dq.rd])]
 case abK x=>simp only [bE];rw [e x (by simp +contextual [dq.rd])]
 case bz o x=>simp only [bE];rw [e x (by simp +contextual [dq.rd])]
 case field o n x=>simp only [bE];rw [e x (by simp +contextual [dq.rd])]
 case range x=>simp only [bE];rw [e x (by simp +contextual [dq.rd])]
 case next x=>simp only [bE];rw [e x (by simp +contextual [dq.rd])]
 case extract x i=>simp only [bE];rw [e x (by simp +contextual [dq.rd])]
 case len x=>simp only [bE];rw [e x (by simp +contextual [dq.rd])]
 case lens x=>simp only [bE];rw [e x (by simp +contextual [dq.rd])]
 case cap x=>simp only [bE];rw [e x (by simp +contextual [dq.rd])]
 case entry x=>simp only [bE];rw [e x (by simp +contextual [dq.rd])]
 case nf x=>simp only [bE];rw [e x (by simp +contextual [dq.rd])]
 case rN x=>simp only [bE];rw [e x (by simp +contextual [dq.rd])]
 case clear s z x=>simp only [bE];rw [e x (by simp +contextual [dq.rd])]
 case fP lo xs=>simp only [bE];rw [gk h]
 case AJ f xs=>simp only [bE];rw [gk h]
 case rZ s x y z=>simp only [bE];rw [e x (by simp +contextual [dq.rd]),e y (by simp +contextual [dq.rd]),e z (by simp +contextual [dq.rd])]
 case me s b z x y=>simp only [bE];rw [e x (by simp +contextual [dq.rd]),e y (by simp +contextual [dq.rd])]
 case store n x y=>simp only [bE];rw [e x (by simp +contextual [dq.rd]),e y (by simp +contextual [dq.rd])]
 case bin o x y=>simp only [bE];rw [e x (by simp +contextual [dq.rd]),e y (by simp +contextual [dq.rd])]
 case eq n k x y=>simp only [bE];rw [e x (by simp +contextual [dq.rd]),e y (by simp +contextual [dq.rd])]
 case bN s a x y=>simp only [bE];rw [e x (by simp +contextual [dq.rd]),e y (by simp +contextual [dq.rd])]
 case idxs x y=>simp only [bE];rw [e x (by simp +contextual [dq.rd]),e y (by simp +contextual [dq.rd])]
 case Aq l s n x y=>simp only [bE];rw [e x (by simp +contextual [dq.rd]),e y (by simp +contextual [dq.rd])]
 case append s b x y=>simp only [bE];rw [e x (by simp +contextual [dq.rd]),e y (by simp +contextual [dq.rd])]
 case copy s x y=>simp only [bE];rw [e x (by simp +contextual [dq.rd]),e y (by simp +contextual [dq.rd])]
 case lookup c z x y=>simp only [bE];rw [e x (by simp +contextual [dq.rd]),e y (by simp +contextual [dq.rd])]
 case dO s b z x y=>simp only [bE];rw [e x (by simp +contextual [dq.rd]),e y (by simp +contextual [dq.rd])]
 all_goals rfl
theorem D7{call:dy}{s:St}{r':T}{op:dq}(h:∀ p ∈ op.rd,s.aG.get p=r'.get p){v:V}{m:St}(b:eO call s op=aa (v,m)):eO call { s with aG:=r' } op=aa (v,{ m with aG:=r' }):=by
 by_cases d:(∃ f xs h,op=.call f xs h)∨(∃ x xs h,op=.bZ x xs h)∨op=.recover∨∃ x xs,op=.defer x xs
 ·rcases d with⟨f,xs,u,rfl⟩ | ⟨x,xs,u,rfl⟩ | rfl | ⟨x,xs,rfl⟩
  ·simp only [eO,IN,anc]at b ⊢;obtain⟨q,g,rfl,rfl⟩:=b;rw [gk h]at g;exact⟨q,g,rfl,rfl⟩
  ·simp only [eO]at b ⊢;rw [jV (x:=x) (r:=s.aG) (r':=r') (fun p d=>h p (by simp [dq.rd,d])),gk (xs:=xs) (r:=s.aG) (r':=r') (fun p d=>h p (by simp only [dq.rd,anm];exact .inr d))]at b;split at b
   ·simp only [IN,anc]at b ⊢;obtain⟨q,g,rfl,rfl⟩:=b;exact⟨q,g,rfl,rfl⟩
   ·simp at b
  ·simp only [eO,AI,anc]at b ⊢;obtain⟨rfl,rfl⟩:=b;exact⟨rfl,rfl⟩
  ·simp only [eO]at b ⊢;rw [jV (x:=x) (r:=s.aG) (r':=r') (fun p d=>h p (by simp [dq.rd,d])),gk (xs:=xs) (r:=s.aG) (r':=r') (fun p d=>h p (by simp only [dq.rd,anm];exact .inr d))]at b;split at b
   ·simp only [AI,anc]at b ⊢;obtain⟨rfl,rfl⟩:=b;exact⟨rfl,rfl⟩
   ·simp at b
 ·have j:(bE s.aG s.heap op).map (fun r=>(r.1,{ s with heap:=r.2 }))=aa (v,m):=by
   cases op<;>first | exact b | (exfalso;apply d;simp)
  have l:eO call { s with aG:=r' } op=(bE r' s.heap op).map (fun r=>(r.1,{ s with aG:=r',heap:=r.2 })):=by
   cases op<;>first | rfl | (exfalso;apply d;simp)
  rw [l,←CB h];simp only [IN,anc]at j ⊢;obtain⟨q,g,rfl,rfl⟩:=j;exact⟨q,g,rfl,rfl⟩
theorem aeo{r:T}{op:dq}(b:cls op=.p)(H H':an):bE r H' op=(bE r H op).map fun q=>(q.1,H'):=by
 cases op<;>simp only [cls,reduceCtorEq]at b<;>simp only [bE]
 all_goals first
  | (simp [Function.comp_def];done)
  | (split<;>simp [Function.comp_def];done)
  | (split<;>(first | rfl | (split<;>rfl)))
section
theorem fN{H H':an}(l:du H H')(b:Nat):H[b]?=ab∨(∃ cs fl g,H[b]?=aa (.box cs fl)∧H'[b]?=aa (.box cs g)) ∨
  (∃ s cs fl g e st,H[b]?=aa (.cS s cs fl e st)∧H'[b]?=aa (.cS s cs g e st))∨∃ bX,H[b]?=aa bX∧H'[b]?=aa bX:=by
 cases m:H[b]? with
 | none=>exact .inl rfl
 | some bX=>
  obtain⟨blk',d,j⟩:=l b _ m;cases bX<;>cases blk'<;>simp only [dA,reduceCtorEq]at j
  ·obtain⟨rfl,_⟩:=j;exact .inr (.inl ⟨_,_,_,rfl,d⟩)
  ·obtain⟨rfl,rfl,_,rfl,rfl⟩:=j;exact .inr (.inr (.inl ⟨_,_,_,_,_,_,rfl,d⟩))
  all_goals (rw [←j]at d;exact .inr (.inr (.inr ⟨_,rfl,d⟩)))
variable{H H':an}
theorem z9(j:du H H'){x:C}{cs:List C}(h:aH H x=aa cs):aH H' x=aa cs:=by
 cases x with
 | ptr b l q=>
  simp only [aH]at h ⊢;rcases fN j b with e | ⟨cs,fl,g,e,d⟩ | ⟨s,cs,fl,g,m,st,e,d⟩ | ⟨bX,e,d⟩
  ·simp [e]at h
  ·rw [e]at h;rw [d];exact h
  ·rw [e]at h;rw [d];cases st<;>exact h
  ·rw [e]at h;rw [d];exact h
 | f x=>cases x<;>exact h
 | _=>simp [aH]at h
theorem acq(g:du H H'){n:Option Nat}{x:V}{v:V}(h:aU H n x=aa v):aU H' n x=aa v:=by
 cases x with
 | c x=>
  simp only [aU,Option.bind_eq_some_iff]at h ⊢;obtain⟨cs,b,d⟩:=h;exact⟨cs,z9 g b,d⟩
 | _=>simp [aU]at h
theorem wY(j:du H H'){x:C}{n:Nat}(h:bu H x=aa n):bu H' x=aa n:=by
 cases x with
 | sl b o l c q sz=>
  simp only [bu]at h ⊢;rcases fN j b with e | ⟨cs,fl,g,e,d⟩ | ⟨s,cs,fl,g,m,st,e,d⟩ | ⟨bX,e,d⟩
  ·simp [e]at h
  all_goals (rw [e]at h;rw [d];exact h)
 | f x=>cases x<;>exact h
 | _=>simp [bu]at h
theorem A8(j:du H H'){sz:Nat}{x:C}{cs:List C}(h:cV H sz x=aa cs):cV H' sz x=aa cs:=by
 cases x with
 | sl b o l c q s=>
  simp only [cV]at h ⊢;rcases fN j b with e | ⟨cs,fl,g,e,d⟩ | ⟨s,cs,fl,g,m,st,e,d⟩ | ⟨bX,e,d⟩
  ·simp [e]at h
  all_goals (rw [e]at h;rw [d];exact h)
 | f x=>cases x<;>exact h
 | _=>simp [cV]at h
theorem nI(j:du H H'){k:Li}{x:C}{b:Bool}(h:isNil H k x=aa b):isNil H' k x=aa b:=by
 cases k<;>cases x<;>first | exact h | (simp [isNil]at h;done) | skip
 case sl.sl bb o l c q s=>
  simp only [isNil]at h ⊢;rcases fN j bb with e | ⟨cs,fl,g,e,d⟩ | ⟨s,cs,fl,g,m,st,e,d⟩ | ⟨bX,e,d⟩
  ·simp [e]at h
  all_goals (rw [e]at h;rw [d];exact h)
 all_goals (rename_i y;cases y<;>exact h)
theorem abW(d:du H H'){k:Li}{x y:V}{b:Bool}(h:Dc H k x y=aa b):Dc H' k x y=aa b:=by
 unfold Dc at h;split at h
 ·exact h
 ·exact h
 ·exact nI d h
 ·exact nI d h
 ·exact nI d h
 ·exact nI d h
 ·simp at h
theorem Cu(j:du H H'){sz:Nat}{x:V}{lo hi mx:Option V}{v:V}(h:bM H sz x lo hi mx=aa v):bM H' sz x lo hi mx=aa v:=by
 unfold bM at h;split at h
 ·exact h
 ·exact h
 ·exact h
 ·rename_i b o n cap m s;simp only [bM];rcases fN j b with e | ⟨cs,fl,g,e,d⟩ | ⟨s,cs,fl,g,l,st,e,d⟩ | ⟨bX,e,d⟩
  ·simp [e]at h
  all_goals (rw [e]at h;rw [d];exact h)
 ·simp at h
theorem Ct(j:du H H'){n sz:Nat}{x:V}{lo hi mx:Option V}{v:V}(h:nh H n sz x lo hi mx=aa v):nh H' n sz x lo hi mx=aa v:=by
 unfold nh at h;split at h
 ·rename_i b l q;simp only [nh];rcases fN j b with e | ⟨cs,fl,g,e,d⟩ | ⟨s,cs,fl,g,m,st,e,d⟩ | ⟨bX,e,d⟩
  ·simp [e]at h
  all_goals (rw [e]at h;rw [d];exact h)
 ·exact h
 ·simp at h
theorem As(m:du H H'){sz:Nat}{d:Option Nat}{x i:V}{v:V}(h:bC H sz d x i=aa v):bC H' sz d x i=aa v:=by
 unfold bC at h ⊢;split at h
 ·simp at h
 ·split at h
  ·rename_i hi;simp only [hi,if_true];split at h
   ·rename_i b o l c y s;split at h
    ·rename_i q;simp only [q,if_true];rcases fN m b with e | ⟨cs,fl,j,e,g⟩ | ⟨s,cs,fl,j,u,st,e,g⟩ | ⟨bX,e,g⟩
     ·simp [e]at h
     ·rw [e]at h;rw [g];exact h
     ·rw [e]at h;rw [g];cases st<;>exact h
     ·rw [e]at h;rw [g];exact h
    ·simp at h
   ·exact h
   ·exact h
   ·exact h
   ·simp at h
  ·simp at h
theorem Az(l:du H H'){j:CK}{z:FC}{m k:V}{v:V}(h:iq H j z m k=aa v):iq H' j z m k=aa v:=by
 unfold iq at h;split at h
 ·exact h
 ·rename_i b k;simp only [iq];rcases fN l b with e | ⟨cs,fl,g,e,d⟩ | ⟨s,cs,fl,g,q,st,e,d⟩ | ⟨bX,e,d⟩
  ·simp [e]at h
  all_goals (rw [e]at h;rw [d];exact h)
 ·simp at h
theorem J9(d:du H H'){x v:V}(h:rz H x=aa v):rz H' x=aa v:=by
 cases x with
 | c x=>
  simp only [rz]at h ⊢;split at h
  ·rename_i n g;split at h
   ·rename_i cs b;rw [wY d g,A8 d b];exact h
   ·simp at h
  ·simp at h
 | _=>simp [rz]at h
theorem K8(j:du H H'){x:C}{n:Nat}(h:kv H x=aa n):kv H' x=aa n:=by
 cases x with
 | sl b o l c q sz=>
  simp only [kv]at h ⊢;rcases fN j b with e | ⟨cs,fl,g,e,d⟩ | ⟨s,cs,fl,g,m,st,e,d⟩ | ⟨bX,e,d⟩
  ·simp [e]at h
  ·rw [e]at h;rw [d];exact h
  ·rw [e]at h;rw [d];cases st<;>exact h
  ·rw [e]at h;rw [d];exact h
 | f x=>cases x<;>exact h
 | _=>simp [kv]at h
theorem acz(l:du H H'){b:Nat}{d:List (FC × C)}(h:H[b]?=aa (.map d)):H'[b]?=aa (.map d):=by
 obtain⟨blk',j,g⟩:=l b _ h;cases blk'<;>simp only [dA,reduceCtorEq,bV.map.injEq]at g;subst g;exact j
theorem acC(l:du H H'){b m s:Nat}{d:Bool}(h:H[b]?=aa (.AG m s d)):H'[b]?=aa (.AG m s d):=by
 obtain⟨blk',j,g⟩:=l b _ h;cases blk'<;>simp only [dA,reduceCtorEq,bV.AG.injEq]at g;obtain⟨rfl,rfl,rfl⟩:=g;exact j
theorem BB(b:du H H'){x v:V}(h:oD H x=aa v):oD H' x=aa v:=by
 unfold oD at h;split at h
 ·split at h
  ·rename_i d;split at h
   ·rename_i g;simp only [oD,acC b d,acz b g];exact h
   ·simp at h
  ·simp at h
 ·simp at h
theorem D8{r:T}{op:dq}(l:cls op=.r)(b:du H H'){v:V}{j:an}(h:bE r H op=aa (v,j)):j=H∧bE r H' op=aa (v,H'):=by
 cases op<;>first | (simp only [bE,reduceCtorEq]at h;done) | (simp only [cls,reduceCtorEq]at l;done) | simp only [bE]at h ⊢
 case len x=>
  split at h
  ·rename_i y m;split at h
   ·rename_i n g;simp only [AI,anc]at h;obtain⟨rfl,rfl⟩:=h;simp only [wY b g];simp
   ·simp at h
  ·simp at h
 case cap x=>
  split at h
  ·rename_i y m;split at h
   ·rename_i n g;simp only [AI,anc]at h;obtain⟨rfl,rfl⟩:=h;simp only [K8 b g];simp
   ·simp at h
  ·simp at h
 all_goals
  simp only [IN,anc]at h;obtain⟨q,d,rfl,rfl⟩:=h;refine⟨rfl,?_⟩
 case entry=>rw [BB b d];rfl
 case load=>rw [acq b d];rfl
 case eq=>rw [abW b d];rfl
 case slice=>rw [Cu b d];rfl
 case qu=>rw [Ct b d];rfl
 case bN=>rw [As b d];rfl
 case lookup=>rw [Az b d];rfl
 case Ag=>rw [J9 b d];rfl
theorem alo{r:T}{op:dq}(g:cls op=.a){v:V}{d:an}(h:bE r H op=aa (v,d)):d=H∨∃ bX,d=H++[bX]:=by
 cases op<;>first | (simp only [cls,reduceCtorEq]at g;done) | simp only [bE]at h
 case call=>simp at h
 case alloc zs=>simp only [AI,anc]at h;exact .inr ⟨_,h.2.symm⟩
 case kj=>simp only [AI,anc]at h;exact .inr ⟨_,h.2.symm⟩
 case box x=>
  split at h
  ·simp only [AI,anc]at h;exact .inr ⟨_,h.2.symm⟩
  ·simp at h
 case bS sz zs n ps=>
  split at h
  ·split at h
   ·simp only [AI,anc]at h;exact .inl h.2.symm
   ·simp at h
  ·simp only [IN,anc]at h;obtain⟨q,j,rfl,rfl⟩:=h;exact .inr ⟨_,rfl⟩
 case dO sz b zs x y=>
  split at h
  ·split at h
   ·split at h
    ·simp only [AI,anc]at h;exact .inl h.2.symm
    ·simp only [AI,anc]at h;exact .inr ⟨_,h.2.symm⟩
   ·simp at h
  ·simp at h
end
section
variable{Q:Program}{σ:Nat→FuncId}{X:Wd}
theorem De(d:SR Q σ X)(l:X.B≤X.w.heap.size){n:Nat}{cs:List C}{fl:Nat}(s:X.H[n]?=aa (.box cs fl))(u:X.cF n=ab){us:List Value}(h:A2 (CR σ X) cs us)(e:TypeId) :
  ∃ X',X'.w=X.w.alloc (.cells us.toArray e)∧X'.H=X.H∧SR Q σ X'∧Ext X.H.length X X'∧X'.cF n=aa ⟨X.w.heap.size,0⟩∧X'.B≤X'.w.heap.size∧∀ b,b≠n→X'.cF b=X.cF b:=by
 obtain⟨g,j⟩:=SR.fill d l s u (ea.alloc X.w (.cells us.toArray e)) 0 (fun v=>⟨us,ku (ea.alloc _ _),A2.ext' σ v h,fun i _ q=>by
  have:=d.fb _ _ q;simp at this⟩)
 exact⟨{ X with cF:=fun b=>if b=n then aa ⟨X.w.heap.size,0⟩else X.cF b,w:=X.w.alloc (.cells us.toArray e) },rfl,rfl,g,j,by simp,by simp;omega,fun b m=>by simp [m]⟩
def Bj(Q:Program)(σ:Nat→FuncId)(X:Wd)(n:Nat)(v:V)(s:Sem Next)(e:Prop):Prop:=
 ∃ X' u,s.run Q X.w=.ok (.value u) X'.w∧fV Q σ X v X.H X' u∧(∀ b,b≠n→X'.cF b=X.cF b)∧(e→X'.cF=X.cF)
theorem Al(y:SR Q σ X)(x:X.B≤X.w.heap.size){n:Nat}{cs:List C}{fl:Nat}(g:X.H[n]?=aa (.box cs fl))(A:X.cF n=ab){us:List Value}(h:A2 (CR σ X) cs us)(e:TypeId){s:Sem Next}{b:Prop}(z:¬ b)
  (B:s.run Q X.w=.ok (.value (.pointer (aa ⟨X.w.heap.size,0,ab⟩))) (X.w.alloc (.cells us.toArray e))):Bj Q σ X n (.c (.ptr n 0 0)) s b:=by
 obtain⟨X',j,d,l,m,q,u,v⟩:=De y x g A h e;refine⟨X',_,by rw [j];exact B,⟨d,l,?_,m,u⟩,v,fun h=>absurd h z⟩;exact⟨_,q,by rw [d,g]⟩
theorem Df(A:SR Q σ X)(z:X.B≤X.w.heap.size){n:Nat}{cs:List C}{fl:Nat}(j:X.H[n]?=aa (.box cs fl))(E:X.cF n=ab){us:List Value}(h:A2 (CR σ X) cs us)(e:TypeId){s:Sem Next}{l c sz:Nat}(b:l≤c){d:Prop}(B:¬ d)
  (F:s.run Q X.w=.ok (.value (.slice (aa ⟨X.w.heap.size,0,ab⟩) l c)) (X.w.alloc (.cells us.toArray e))):Bj Q σ X n (.c (.sl n 0 l c 0 sz)) s d:=by
 obtain⟨X',m,g,q,u,v,x,y⟩:=De A z j E h e;refine⟨X',_,by rw [m];exact F,⟨g,q,?_,u,x⟩,y,fun h=>absurd h B⟩;simp only [VR,iM,CR,fT,g,j];exact⟨_,v,b,rfl⟩
theorem pG{H b:an}{cs:List C}(h:du (H++[.box cs 0]) b):∃ fl,b[H.length]?=aa (.box cs fl):=by
 obtain⟨blk',g,d⟩:=h H.length (.box cs 0) (by simp);cases blk'<;>simp only [dA,reduceCtorEq]at d;obtain⟨rfl,_⟩:=d;exact⟨_,g⟩
theorem A7{w':World}{o:Obj}(g:SR Q σ X)(d:ea X.w w' o)(q:X.B≤X.w.heap.size):∃ X':Wd,X'.w=w'∧X'.H=X.H∧SR Q σ X'∧Ext X.H.length X X'∧X'.B≤X'.w.heap.size∧X'.cF=X.cF:=by
 have j:Ext X.H.length X { X with w:=w' }:=Ext.one g X.H.length rfl (fun _ _=>Iff.rfl) (fun k m _=>d.Bi m)
  (fun L i h=>by rw [SR.qY g]at h;simp at h) (fun h=>absurd h (apq _)) (fun _ _ _=>rfl) (fun _ _=>rfl) (fun L h=>.inl ⟨L,h,rfl⟩) (by show _≤w'.heap.size;rw [d.size];omega) d.os d.tape d.output
 refine⟨{ X with w:=w' },rfl,rfl,SR.step Q σ g j X.H.length (fun _ _=>rfl) (fun _ _=>rfl) (fun b L _ l=>d.Bi (g.br b L l).2.1)
  (fun _ _ _ _ _ h=>h) (fun L h=>by change X.cF X.H.length=aa L at h;rw [SR.qY g]at h;simp at h) (fun c i h=>?_),j,?_,rfl⟩
 ·have:=g.fb c i h;show c<w'.heap.size;rw [d.size];omega
 ·show X.B≤w'.heap.size;rw [d.size];omega
theorem acp(M:SR Q σ X)(L:X.B≤X.w.heap.size){a:Act}{aG:T}(hR:RR σ X aG a.tmps){o:Oper}{op:dq}(hc:cls op=.a)(d:dX Q σ o op=ae){H H1:an}{v:V}(h:bE aG H op=aa (v,H1))
  (hH:du H1 X.H) (W:H1.length≠H.length→X.cF H.length=ab):Bj Q σ X H.length v (execOp a.eval o) (H1.length=H.length):=by
 cases op<;>first | (simp only [cls,reduceCtorEq]at hc;done) | skip
 case call f xs h'=>simp [bE]at h
 case alloc zs=>
  simp only [bE,AI,anc]at h;obtain⟨rfl,rfl⟩:=h;obtain⟨fl,F⟩:=pG hH;simp only [dX]at d;split at d
  ·rename_i t B;obtain⟨z,us,h1,K,h3,_⟩:=fk (σ:=σ) (X:=X) d X.w;refine Al M L F (W (by simp)) h3 t (by simp) ?_;simp only [execOp,B];refine eu ?_;simp [Instr.alloc,h1,newVar,newRow,K]
  ·simp at d
 case kj=>
  simp only [bE,AI,anc]at h;obtain⟨rfl,rfl⟩:=h;have F:X.H[H.length]?=aa (.map []):=by
   obtain⟨blk',hb,hl⟩:=hH H.length (.map []) (by simp);cases blk'<;>simp only [dA,reduceCtorEq,bV.map.injEq]at hl;subst hl;exact hb
  simp only [dX]at d;split at d
  ·rename_i t B;have W:=W (by simp);obtain⟨h1,K⟩:=SR.fill M L F W (ea.alloc X.w (.map #[] 0)) 0 (fun hx=>⟨[],(ea.alloc _ _).new,A2.nil,by simp⟩);refine⟨{ X with cF:=fun b=>if b=H.length then aa ⟨X.w.heap.size,0⟩else X.cF b,w:=X.w.alloc (.map #[] 0) },.map (aa X.w.heap.size),?_,⟨rfl,h1,⟨⟨X.w.heap.size,0⟩,by simp,⟨[],F⟩,rfl⟩,K,by show X.B≤_;simp;omega⟩,fun b hb=>by simp [hb],fun h=>by simp at h⟩;simp [execOp,B,Instr.makeMap]
  ·simp at d
 case box x=>
  simp only [bE]at h;split at h
  ·rename_i xs i3;simp only [AI,anc]at h;obtain⟨rfl,rfl⟩:=h;obtain⟨fl,F⟩:=pG hH;simp only [dX]at d;split at d
   ·rename_i t y B;obtain⟨us,K,h3⟩:=pj (bT hR d) i3;refine Al M L F (W (by simp)) h3 t (by simp) ?_;simp only [execOp,B];refine eu ?_;simp [Instr.box,newVar,newRow,K]
   ·simp at d
  ·simp at h
 case bS sz zs n ps=>
  simp only [dX]at d;split at d
  ·rename_i t n' qs B;simp only [If,beq_iff_eq,decide_eq_true_eq]at d;obtain⟨⟨⟨⟨rfl,s⟩,E⟩,i9⟩,hq⟩:=d;obtain⟨e,hu,E⟩:=il E;simp only [If,decide_eq_true_eq]at E;obtain⟨⟨j,hz⟩,i6⟩:=E;obtain⟨z,us,Y,Z,A,_⟩:=fk (σ:=σ) (X:=X) hz X.w;have I:us.length=sz:=by have:=A.len;simp at this;omega
   simp only [bE]at h;split at h
   ·rename_i F;subst F;split at h
    ·rename_i c9;simp only [AI,anc]at h;obtain⟨rfl,rfl⟩:=h;have U:qs.toList=[]:=by
      have:=(eT hq).len;simp only [List.isEmpty_iff]at c9;rw [c9]at this;exact anz this.symm
     have U:qs=#[]:=by apply Array.ext';simpa using U
     obtain⟨X',h1,K,h3,h4,h5,h6⟩:=A7 M (ea.alloc X.w (.cells #[] e)) L;refine⟨X',.slice (aa ⟨X.w.heap.size,0,ab⟩) 0 0,?_,⟨K,h3,cW.es _,h4,h5⟩,fun b _=>by rw [h6],fun _=>h6⟩;rw [h1];simp only [execOp,B];refine eu ?_;simp [Instr.buildSlice,a5 hu,dm j,U,Instr.fill,newRow,show Array.range 0=(#[]:Array Nat) from rfl]
    ·simp at h
   ·rename_i F;simp only [IN,anc]at h;obtain⟨cs,f8,rfl,rfl⟩:=h;obtain⟨fl,O⟩:=pG hH;obtain⟨j_,h5,h6⟩:=nH (place:=fun i=>aa (i*sz,sz)) (ps:=qs.toList) hR (qs:=ps.map fun p=>(p.1*sz,sz,p.2)) (A2.map ((eT hq).kB fun q p S=>by
     simp only [If,beq_iff_eq]at S;exact⟨by rw [S.1],S.2⟩)) (ju A n') f8
    refine Df M L O (W (by simp)) h6 e (anl _) (by simp) ?_;simp only [execOp,B];refine eu ?_;have f_:n'*sz≠0:=by
     intro h0;rcases apt.1 h0 with h0 | h0<;>omega
    have e_:=iL us n' (by omega);rw [I]at e_;simp only [Instr.buildSlice,Sem.run_bind,a5 hu,dm j,Result.andThen_ok,aT (show¬ n'*sz>2 ^ 24 by omega),Sem.run_ite,aT f_,Y,Sem.run_pure,Z];simp only [Array.toList_map];rw [e_];simp [h5,newRow]
  ·simp at d
 case dO sz bytes zs x y=>
  simp only [dX]at d;split at d
  ·rename_i t x' y' B;simp only [If,decide_eq_true_eq]at d;obtain⟨⟨⟨hx,hy⟩,E⟩,i8⟩:=d;have hx:=bT hR hx;have hy:=bT hR hy;obtain⟨e,hu,E⟩:=il E;simp only [If]at E;obtain⟨⟨j,f7⟩,hz⟩:=E;obtain⟨z,us,Y,Z,A,j9,j4,j7⟩:=fk (σ:=σ) (X:=X) hz X.w;obtain⟨i_,a7,a8⟩:=yG f7 X.w;simp only [bE]at h;split at h
   ·rename_i l c hl hc;obtain⟨kl,h_⟩:=iW hx hl;obtain⟨kc,i4⟩:=iW hy hc;split at h
    ·rename_i N;obtain⟨h0,j8,u,i6⟩:=N;unfold cR at u;simp only [If,decide_eq_true_eq]at u;have I:us.length=sz:=by have:=A.len;simp at this;omega
     have d_:=lM (n:=l) h0 (by omega);have d9:=lM (n:=c) (by omega) (by omega);have i7:c.toNat*bytes≤2 ^ 48:=by
      have:c.toNat*bytes≤(2*c.toNat+768)*bytes:=anX _ (by omega);omega
     have s:¬ ((bytes:Int)*c>2 ^ 48):=by
      have e1:(bytes:Int)*c=((c.toNat*bytes:Nat):Int):=by
       rw [aph,aoh];congr 1;omega
      rw [e1];omega
     have c_:((Array.range (c.toNat*sz)).map fun i=>us.toArray[i % us.toArray.size]!)=(cQ c.toNat us).toArray:=by
      have:=iL us c.toNat (by omega);rwa [I]at this
     have run:(execOp a.eval o).run Q X.w=.ok (.value (.slice (aa ⟨X.w.heap.size,0,ab⟩) l.toNat c.toNat)) (X.w.alloc (.cells (cQ c.toNat us).toArray e)):=by
      simp only [execOp,B];refine eu ?_;rw [h_,i4];have a_:¬ c<0:=by omega
      have b_:¬ l<0:=by omega
      have J:¬ l>c:=by omega
      by_cases m:c.toNat*sz=0
      ·have g_:cQ c.toNat us=[]:=anz (by rw [kr,I];exact m);have g:((decide (c<0)||decide ((bytes:Int)*c>2 ^ 48))||decide (l<0)||decide (l>c))=ag:=by rw [decide_eq_false a_,decide_eq_false b_,decide_eq_false J,decide_eq_false s];rfl
       simp only [Instr.makeSlice,Sem.run_bind,a5 hu,asInt,asIntOf,Sem.run_pure,Result.andThen_ok,a7,a8,d_,d9,run_askRoom,dm j];simp only [g,anF,if_false,Sem.run_ite,bf m,Sem.run_bind,Result.andThen_ok,Sem.run_pure,run_askRoom,dm j,newRow,run_newObj];rw [m,g_,show(Array.map (fun x=>(#[]:Array Value)[x % (#[]:Array Value).size]!) (Array.range 0))=#[] from by simp [show Array.range 0=(#[]:Array Nat) from rfl]];rfl
      ·simp only [Instr.makeSlice,Sem.run_bind,a5 hu,asInt,asIntOf,Sem.run_pure,Result.andThen_ok,a7,a8,d_,d9,run_askRoom,dm j];have g:((decide (c<0)||decide ((bytes:Int)*c>2 ^ 48))||decide (l<0)||decide (l>c))=ag:=by rw [decide_eq_false a_,decide_eq_false b_,decide_eq_false J,decide_eq_false s];rfl
       simp only [g,anF,if_false,Sem.run_ite,aT m,Sem.run_bind,Y,Z,Result.andThen_ok,Sem.run_pure,run_askRoom,dm j,c_,newRow,run_newObj];rfl
     split at h
     ·rename_i m;subst m;simp only [AI,anc]at h;obtain⟨rfl,rfl⟩:=h;have:l=0:=by omega
      subst this;obtain⟨X',g1,g2,g3,g4,g5,g6⟩:=A7 M (ea.alloc X.w (.cells (cQ (0:Int).toNat us).toArray e)) L;exact⟨X',_,by rw [g1];exact run,⟨g2,g3,cW.es _,g4,g5⟩,fun b _=>by rw [g6],fun _=>g6⟩
     ·simp only [AI,anc]at h;obtain⟨rfl,rfl⟩:=h;obtain⟨fl,O⟩:=pG hH;exact Df M L O (W (by simp)) (ju A c.toNat) e (by omega) (by simp) run
    ·simp at h
   ·simp at h
  ·simp at d
end
theorem B5{b:List Nat}{o:Oper}{i:Nat}:(mX b o).testBit i=ae↔∃ e ∈ o.after.toList,Region.binds .any e=ae∧(e.on=i∨(b.getD e.on 0).testBit i=ae):=by
 unfold mX;have key:∀(l:List Edge) (s:Nat),(l.foldl (fun s e=>if Region.binds .any e then s ||| 2 ^ e.on ||| b.getD e.on 0 else s) s).testBit i=ae ↔
   s.testBit i=ae∨∃ e ∈ l,Region.binds .any e=ae∧(e.on=i∨(b.getD e.on 0).testBit i=ae):=by
  intro l;induction l with
  | nil=>intro s;simp
  | cons e l g=>
   intro s;simp only [ao7,g,anK,exists_eq_or_imp];by_cases d:Region.binds .any e=ae
   ·simp only [d,if_true,Nat.testBit_or,aoO,Nat.testBit_two_pow,decide_eq_true_eq,true_and,or_assoc]
   ·simp [d]
 rw [key];simp
theorem wE:∀(os:List Oper) (b:List Nat),(dG os b).length=b.length+os.length
 | [],b=>by simp [dG]
 | o::os,b=>by rw [dG,wE];simp;omega
theorem qU:∀(os:List Oper) (b:List Nat) (k:Nat),k<b.length→(dG os b)[k]?=b[k]?
 | [],b,k,_=>rfl
 | o::os,b,k,h=>by
  rw [dG,qU os _ k (by simp;omega),AT h]
theorem wF:∀(os:List Oper) (b:List Nat) (t:Nat) (o:Oper),os[t]?=aa o→(dG os b)[b.length+t]?=aa (mX ((dG os b).take (b.length+t)) o)
 | [],b,t,o,h=>by simp at h
 | o'::os,b,0,o,h=>by
  simp only [ao1,AI]at h;subst h;have g:∀ k,k<b.length→(dG os (b++[mX b o']))[k]?=b[k]?:=fun k j=>by rw [qU os _ k (by simp;omega),AT j]
  have d:(dG os (b++[mX b o'])).take b.length=b:=by
   apply List.ext_getElem?;intro k;rw [an4];split
   ·rename_i j;exact g k j
   ·rename_i j;rw [aoZ (by omega)]
  rw [dG,Nat.add_zero,d,qU os _ _ (by simp)];simp
 | o'::os,b,t+1,o,h=>by
  simp only [apg]at h;have:=wF os (b++[mX b o']) t o h;rw [dG];rw [show b.length+(t+1)=(b++[mX b o']).length+t by simp;omega];exact this
theorem C0{ops:List Oper}{i j:Nat}{o:Oper}(l:ops[j]?=aa o) :
  yQ (dG ops []) i j=ae↔∃ e ∈ o.after.toList,Region.binds .any e=ae∧(e.on=i∨(e.on<j∧yQ (dG ops []) i e.on=ae)):=by
 have h:=wF ops [] j o l;simp only [aoU,aoa]at h;unfold yQ;rw [ao3,h,Option.getD_some,B5];have g:∀ k,((dG ops []).take j).getD k 0=if k<j then(dG ops []).getD k 0 else 0:=by
  intro k;simp only [ao3,an4];split<;>simp
 constructor
 ·rintro⟨e,d,b,h⟩;refine⟨e,d,b,h.imp id fun h=>?_⟩;rw [g]at h;split at h
  ·rename_i m;exact⟨m,h⟩
  ·simp at h
 ·rintro⟨e,d,b,h⟩;refine⟨e,d,b,h.imp id fun h=>?_⟩;rw [g,bf h.1];exact h.2
def qL(ops:List Oper)(D:Nat→Prop):Prop:=∀ j o,D j→ops[j]?=aa o→∀ e ∈ o.after.toList,Region.binds .any e=ae→D e.on
theorem qL.below{ops:List Oper}{D:Nat→Prop}(h:qL ops D){i:Nat}:∀(j:Nat),D j→yQ (dG ops []) i j=ae→D i:=by
 intro j;induction j using Nat.strongRecOn with
 | ind j l=>
  intro g b;cases ho:ops[j]? with
  | none=>
   exfalso;unfold Km.yQ at b;have:(dG ops []).length≤j:=by rw [wE];simpa using aoY.1 ho
   rw [ao3,aoZ this]at b;simp at b
  | some o=>
   obtain⟨e,d,hb,h1 | ⟨h1,h2⟩⟩:=(C0 ho).1 b
   ·exact h1▸h j o g ho e d hb
   ·exact l e.on h1 (h j o g ho e d hb) h2
theorem qL.ready{ops:List Oper}{D:Nat→Prop}(h:qL ops D){i j:Nat}{o:Oper}(ho:ops[j]?=aa o)(d:∀ e ∈ o.after.toList,Region.binds .any e=ae→D e.on)(g:yQ (dG ops []) i j=ae):D i:=by
 obtain⟨e,b,hb,h1 | ⟨h1,h2⟩⟩:=(C0 ho).1 g
 ·exact h1▸d e b hb
 ·exact h.below e.on (d e b hb) h2
def Dn(aos:List aS)(j:Nat):Prop:=∃ y,aos[j]?=aa y∧cls y.op=.w
theorem mY{aos:List aS}{j:Nat}:j ∈ lL aos↔Dn aos j:=by
 unfold lL Dn;rw [List.mem_filter,List.mem_range];constructor
 ·rintro⟨_,h⟩;split at h
  ·rename_i y b;exact⟨y,b,by simpa using h⟩
  ·simp at h
 ·rintro⟨y,b,d⟩;exact⟨(IT.1 b).1,by simp [b,d]⟩
theorem nu{g:Type}(p:g→Bool):∀(l:List g),(∀ k,k<(l.takeWhile p).length→∃ y,l[k]?=aa y∧p y=ae)∧((l.takeWhile p).length=l.length∨∃ y,l[(l.takeWhile p).length]?=aa y∧p y=ag)
 | []=>by simp
 | x::l=>by
  by_cases d:p x=ae
  ·rw [List.takeWhile_cons_of_pos d];obtain⟨j,b⟩:=nu p l;refine⟨fun k m=>?_,?_⟩
   ·cases k with
    | zero=>exact⟨x,rfl,d⟩| succ k=>exact j k (by simpa using m)
   ·rcases b with b | b
    ·exact .inl (by simp [b])
    ·exact .inr (by simpa using b)
  ·rw [List.takeWhile_cons_of_neg d];exact⟨by simp,.inr ⟨x,rfl,by simpa using d⟩⟩
theorem oO{aos:List aS}{i:Nat}(hi:i≤aos.length):i≤phase aos i∧phase aos i≤aos.length∧(phase aos i=aos.length∨Dn aos (phase aos i))∧∀ j,i≤j→j<phase aos i→¬ Dn aos j:=by
 unfold phase;obtain⟨s,g⟩:=nu (fun y:aS=>decide (cls y.op≠.w)) (aos.drop i);have q:((aos.drop i).takeWhile fun y=>decide (cls y.op≠.w)).length≤(aos.drop i).length:=by
  rcases anQ (aos.drop i).length ((aos.drop i).takeWhile fun y=>decide (cls y.op≠.w)).length with h | h
  ·obtain⟨y,b,_⟩:=s _ h;have:=(IT.1 b).1;omega
  ·exact h
 simp only [anE]at q g;refine⟨by omega,by omega,?_,fun j v u=>?_⟩
 ·rcases g with g | ⟨y,b,l⟩
  ·exact .inl (by omega)
  ·rw [anI]at b;exact .inr ⟨y,b,by simpa using l⟩
 ·obtain⟨y,b,l⟩:=s (j-i) (by omega);rw [anI,show i+(j-i)=j by omega]at b;rintro⟨x,d,m⟩;rw [b]at d;cases d;simp [m]at l
structure Ord(ops:List Oper)(aos:List aS)(jf:List (Nat × Nat)):Prop where
 back:∀ j o,j<aos.length→ops[j]?=aa o→∀ e ∈ o.after.toList,Region.binds .any e=ae→e.on<j
 two:∀ i j x y,i<j→aos[i]?=aa x→aos[j]?=aa y→yQ (dG ops []) i j=ae∨(x.apart y=ae∧(tp x y=ae∨(j=jX (dG ops []) aos∧cls x.op=.w)))
 ear:∀ y,aos[jX (dG ops []) aos]?=aa y→(∃ zs,y.op=.alloc zs)∧y.g=ab∧∃ p,y.dst=aa p∧∀ i z,aos[i]?=aa z→p ∈ z.rd→∀ e,Dn aos e→e<jX (dG ops []) aos→yQ (dG ops []) e i=ae
 rd:∀ i x e,aos[i]?=aa x→cls x.op=.r→Dn aos e∨e=aos.length→AE (dG ops []) aos i e=ae→e=phase aos i∨(i,e) ∈ jf
theorem KU{ops:List Oper}{aos:List aS}{jf:List (Nat × Nat)}(h:Wk ops aos jf=ae):Ord ops aos jf:=by
 simp only [Wk,If]at h;obtain⟨⟨⟨A,B⟩,g⟩,E⟩:=h;refine⟨fun j o L N e b J=>?_,fun i j x y s m q=>?_,fun y q=>?_,fun i x e m K b M=>?_⟩
 ·rw [anx]at A;have d:(o,j) ∈ ops.zip (List.range aos.length):=by
   refine List.mem_of_getElem? (i:=j) ?_;rw [List.getElem?_zip_eq_some];exact⟨N,by simp [L]⟩
  have:=A _ d;rw [anx]at this;simpa [J]using this e b
 ·rw [anx]at B;have:=B j (by simpa using (IT.1 q).1);rw [anx]at this;have:=this i (by simpa using s);rw [m,q]at this;simpa using this
 ·unfold Da at g;rw [q]at g;simp only [If,Option.isNone_iff_eq_none]at g;obtain⟨⟨I,F⟩,l⟩:=g;refine⟨?_,I,?_⟩
  ·split at F
   ·exact⟨_,by assumption⟩
   ·simp at F
  ·split at l
   ·rename_i p O;refine⟨p,O,fun i z H v e b u=>?_⟩;rw [anx]at l;have:=l i (by simpa using (IT.1 H).1);rw [H]at this;simp only [aoO,Bool.not_eq_true',List.contains_eq_mem,decide_eq_false_iff_not,anx]at this;rcases this with h | h
    ·exact absurd v h
    ·have:=h e (mY.2 b);simpa [u]using this
   ·simp at l
 ·rw [anx]at E;have:=E i (by simpa using (IT.1 m).1);rw [m]at this;simp only [K,if_true]at this;rw [anx]at this;have:=this e (by
   rw [anm];rcases b with b | b
   ·exact .inl (mY.2 b)
   ·exact .inr (by simp [b]))
  simpa [M]using this
section
variable{Q:Program}{σ:Nat→FuncId}{X:Wd}{call:dy}
theorem Ext.len{X X':Wd}(h:Ext X.H.length X X'):X.H.length≤X'.H.length:=by
 rcases anQ X'.H.length X.H.length with b | g
 ·obtain⟨blk',d,_⟩:=h.ba X'.H.length b _ (By b);have:=(IT.1 d).1;omega
 ·exact g
theorem xq{s b:St}{op:dq}{v:V}(h:eO call s op=aa (v,b)):b.aG=s.aG:=by
 have:=D7 (r':=s.aG) (fun _ _=>rfl) h;rw [show({ s with aG:=s.aG }:St)=s from rfl,h]at this;simp only [AI,anc,true_and]at this;rw [this]
theorem CC{s b:St}{y:aS}(h:fA call s y=aa b):∃ v,b.aG=iG s.aG y.dst v:=by
 unfold fA at h;split at h
 ·split at h
  ·rename_i v g d;cases h;exact⟨v,by rw [xq d]⟩
  ·simp at h
 ·cases h;exact⟨_,rfl⟩
 ·simp at h
theorem uh{aG:T}{d:Option P}{v:V}{p:P}:(iG aG d v).get p=if d=aa p then v else aG.get p:=by
 cases d with
 | none=>simp [iG]| some q=>simp only [iG,T.pE,AI]
theorem oS{s l:St}{y:aS}(g:cls y.op≠.w)(h:fA call s y=aa l):du s.heap l.heap∧l.defs=s.defs:=by
 unfold fA at h;split at h
 ·split at h
  ·rename_i v z b;cases h;by_cases j:(∃ f xs h,y.op=.call f xs h)∨(∃ x xs h,y.op=.bZ x xs h)∨y.op=.recover∨∃ x xs,y.op=.defer x xs
   ·rcases j with⟨f,xs,q,e⟩ | ⟨x,xs,q,e⟩ | e | ⟨x,xs,e⟩
    ·rw [e]at b g;cases q
     ·simp only [eO,gI,anF,if_false,IN,anc]at b;obtain⟨⟨A,H'⟩,b,rfl,rfl⟩:=b;refine⟨?_,rfl⟩;unfold fh at b;split at b
      ·simp at b
      ·split at b
       ·simp at b
       ·split at b
        ·simp at b
        ·simp only [AI,anc]at b;show du s.heap H';rw [←b.2];exact(pU _ _ _).ext
     ·exact absurd rfl g
    ·rw [e]at g;exact absurd rfl g
    ·rw [e]at g;exact absurd rfl g
    ·rw [e]at g;exact absurd rfl g
   ·have u:(bE s.aG s.heap y.op).map (fun r=>(r.1,{ s with heap:=r.2 }))=aa (v,z):=by
     generalize y.op=op at b j;cases op<;>first | exact b | (exfalso;apply j;simp)
    simp only [IN,anc]at u;obtain⟨⟨A,H'⟩,m,rfl,rfl⟩:=u;clear b;have b:=m;clear m;refine⟨?_,rfl⟩;show du s.heap H';cases d:cls y.op with
    | p=>
     have:=aeo (r:=s.aG) d s.heap s.heap;rw [b]at this;simp only [anZ,AI,anc]at this;rw [this.2];exact du.refl _
    | r=>rw [(D8 d (du.refl _) b).1];exact du.refl _
    | a=>
     rcases alo d b with e | ⟨cs,e⟩
     ·rw [e];exact du.refl _
     ·rw [e];exact du.append _ _
    | c=>
     generalize y.op=op at b d;cases op<;>first | (simp only [cls,reduceCtorEq]at d;done) | (simp [bE]at b;done)
    | w=>exact absurd d g
  ·simp at h
 ·cases h;exact⟨du.refl _,rfl⟩
 ·simp at h
def hO(aG:T)(ps:List P):T:=ps.foldl (fun t p=>t.set p (aG.get p)) .e
theorem ui(aG:T)(ps:List P)(p:P):(hO aG ps).get p=if p ∈ ps then aG.get p else .top:=by
 have key:∀(ps:List P) (t:T),(ps.foldl (fun t p=>t.set p (aG.get p)) t).get p=if p ∈ ps then aG.get p else t.get p:=by
  intro ps;induction ps with
  | nil=>intro t;simp
  | cons q ps g=>
   intro t;simp only [ao7,g,T.pE,anK];by_cases b:p ∈ ps
   ·simp [b]
   ·by_cases d:q=p
    ·subst d;simp [b]
    ·have:¬ p=q:=fun e=>d e.symm;simp [b,d,this]
 have:=key ps .e;unfold hO;rw [this];rfl
structure jw(Q:Program)(σ:Nat→FuncId)(call:dy)(n:Nat)(ops:Array Oper)(aos:List aS)(jf:List (Nat × Nat))(st:Nat→St):Prop where
 agB:fM (kg Q σ n ops) ops.toList aos=ae
 ord:Ord ops.toList aos jf
 step:∀ i y,aos[i]?=aa y→fA call (st i) y=aa (st (i+1))
 amn:∀ i e y,(i,e) ∈ jf→aos[i]?=aa y→wanted (st i).aG y.g=aa ae→∃ v H1 H2,bE (st i).aG (st i).heap y.op=aa (v,H1)∧bE (st i).aG (st e).heap y.op=aa (v,H2)
structure jS(σ:Nat→FuncId)(X:Wd)(c:Nat)(zs:List FC):Prop where
 bX:∃ us t,X.w.heap[c]?=aa (.cells us.toArray t (0,0))∧A2 (CR σ X) (zs.map .f) us
 b:X.B≤c
 wi:∀ b L,X.cF b=aa L→L.c≠c
 f:∀ i,¬ X.F c i
theorem jS.lt{c:Nat}{zs:List FC}(h:jS σ X c zs):c<X.w.heap.size:=by
 obtain⟨us,t,h1,_⟩:=h.bX;exact(Array.getElem?_eq_some_iff.1 h1).1
theorem jS.ext{X X':Wd}(d:Ext X.H.length X X'){c:Nat}{zs:List FC}(h:jS σ X c zs):jS σ X' c zs:=by
 have j:=h.lt;obtain⟨us,t,h1,h2⟩:=h.bX;refine⟨⟨us,t,by rw [d.frame c j h.wi];exact h1,A2.ext' σ d h2⟩,by rw [d.B];exact h.b,fun b L hb=>?_,fun i hi=>?_⟩
 ·rcases d.wi b L hb with⟨b0,L0,g1,g2⟩ | g1
  ·rw [←g2];exact h.wi b0 L0 g1
  ·omega
 ·rcases d.oX c i hi with g | g | ⟨b,L,g1,g2⟩
  ·exact h.f i g
  ·omega
  ·exact h.wi b L g1 g2
theorem SR.assign(q:SR Q σ X){n c:Nat}{zs:List FC}{fl:Nat}(g:jS σ X c zs)(v:X.H[n]?=aa (.box (zs.map .f) fl))(x:X.cF n=ab) :
  SR Q σ { X with cF:=fun b=>if b=n then aa ⟨c,0⟩else X.cF b }∧oW X.H.length X { X with cF:=fun b=>if b=n then aa ⟨c,0⟩else X.cF b }∧VR σ { X with cF:=fun b=>if b=n then aa ⟨c,0⟩else X.cF b } (.c (.ptr n 0 0)) (.pointer (aa ⟨c,0,ab⟩)):=by
 have s:oW X.H.length X { X with cF:=fun b=>if b=n then aa ⟨c,0⟩else X.cF b }:=by
  refine⟨fun _ _ h=>h,fun _ _ _=>rfl,fun b _ bX hb=>⟨bX,hb,?_⟩⟩;have:∀ L,X.cF b=aa L→(if b=n then aa (⟨c,0⟩:Loc)else X.cF b)=aa L:=fun L m=>by
   by_cases e:b=n
   ·subst e;rw [x]at m;simp at m
   ·rw [aT e];exact m
  cases bX<;>simp only [true_and,and_self]<;>first | exact this | (exact .inl ⟨trivial,trivial,this⟩) | (exact⟨rfl,.inl ⟨rfl,rfl,this⟩⟩) | (exact .inl this) | simpa using this
 obtain⟨us,t,h1,h2⟩:=g.bX;refine⟨⟨fun b L hb=>?_,fun b l L u hb d hc=>?_,q.fb⟩,s,⟨⟨c,0⟩,by simp,by rw [v]⟩⟩
 ·by_cases e:b=n
  ·subst e;simp only [if_true,AI]at hb;subst hb;exact⟨g.b,g.lt,_,v,us,⟨t,(0,0),h1,fun i _=>by simp⟩,A2.ed σ s h2,fun i _=>g.f i⟩
  ·simp only [e,if_false]at hb;obtain⟨g1,g2,bX,g3,g4⟩:=q.br b L hb;exact⟨g1,g2,bX,g3,BR.pC Q σ s rfl (fun _ h=>h) g4⟩
 ·simp only at hb d;by_cases e:b=n<;>by_cases j:l=n
  ·rw [e,j]
  ·rw [bf e]at hb;rw [aT j]at d;cases hb;exact absurd hc.symm (g.wi l u d)
  ·rw [aT e]at hb;rw [bf j]at d;cases d;exact absurd hc (g.wi b L hb)
  ·rw [aT e]at hb;rw [aT j]at d;exact q.inj b l L u hb d hc
abbrev eJ(ops:Array Oper)(aos:List aS):Nat:=jX (dG ops.toList []) aos
def amk(σ:Nat→FuncId)(X0:Wd)(ops:Array Oper)(aos:List aS)(E:Nat)(X:Wd)(a:Act)(p:P)(K:Nat):Prop:=
 ∃ y zs c,K=eJ ops aos+1∧E≤eJ ops aos∧aos[eJ ops aos]?=aa y∧y.dst=aa p∧y.op=.alloc zs∧a.tmps.getD p.toNat undef=.pointer (aa ⟨c,0,ab⟩)∧X0.w.heap.size≤c∧jS σ X c zs
structure Inv(Q:Program)(σ:Nat→FuncId)(X0:Wd)(n:Nat)(ops:Array Oper)(aos:List aS)(st:Nat→St)(D:Nat→Prop)(E:Nat)(X:Wd)(a:Act):Prop where
 closed:qL ops.toList D
 dlt:∀ j,D j→j<aos.length
 eN:E≤aos.length
 eW:E=aos.length∨Dn aos E
 eD:¬ D E
 wD:∀ j,Dn aos j→j<E→D j
 heap:X.H=(st E).heap
 ext:Ext X0.H.length X0 X
 sr:SR Q σ X
 b:X.B≤X.w.heap.size
 defs:fU σ X (st E).defs a.defers
 size:n≤a.tmps.size
 WY:∀ p,∃ K,K≤aos.length∧(VR σ X ((st K).aG.get p) (a.tmps.getD p.toNat undef)∨amk σ X0 ops aos E X a p K)∧∀ j y,aos[j]?=aa y→y.dst=aa p→(j<K↔D j)
 we:∀ j y,j<E→¬ D j→aos[j]?=aa y→cls y.op=.a→(st (j+1)).heap.length≠(st j).heap.length→X.cF (st j).heap.length=ab
section
variable{n:Nat}{ops:Array Oper}{aos:List aS}{jf:List (Nat × Nat)}{st:Nat→St}
theorem jw.lz(R:jw Q σ call n ops aos jf st){p:P}{lo:Nat}:∀(hi:Nat),lo≤hi→hi≤aos.length→(∀ j y,lo≤j→j<hi→aos[j]?=aa y→y.dst≠aa p)→(st lo).aG.get p=(st hi).aG.get p
 | 0,h,_,_=>by rw [Nat.le_zero.1 h]
 | hi+1,h,g,b=>by
  rcases anQ hi lo with h1 | h1
  ·rw [show lo=hi+1 by omega]
  ·rw [jw.lz R hi h1 (by omega) fun j y h2 h3=>b j y h2 (by omega)];have hy:=By (show hi<aos.length by omega);obtain⟨v,d⟩:=CC (R.step hi _ hy);rw [d,uh,aT (b hi _ h1 (by omega) hy)]
theorem jw.dj(R:jw Q σ call n ops aos jf st){lo:Nat}:∀(hi:Nat),lo≤hi→hi≤aos.length→(∀ j,lo≤j→j<hi→¬ Dn aos j)→du (st lo).heap (st hi).heap∧(st hi).defs=(st lo).defs
 | 0,h,_,_=>by rw [Nat.le_zero.1 h];exact⟨du.refl _,rfl⟩
 | hi+1,h,l,b=>by
  rcases anQ hi lo with h1 | h1
  ·rw [show lo=hi+1 by omega];exact⟨du.refl _,rfl⟩
  ·obtain⟨g1,g2⟩:=jw.dj R hi h1 (by omega) fun j h2 h3=>b j h2 (by omega);have hy:=By (show hi<aos.length by omega);obtain⟨d,g⟩:=oS (fun hc=>b hi h1 (by omega) ⟨_,hy,hc⟩) (R.step hi _ hy);exact⟨g1.trans d,g.trans g2⟩
theorem jw.at(R:jw Q σ call n ops aos jf st){i:Nat}{y:aS}(hy:aos[i]?=aa y):∃ o,ops[i]?=aa o∧kg Q σ n ops o y=ae:=by
 have:=eT R.agB;have hi:i<ops.toList.length:=by rw [this.len];exact(IT.1 hy).1
 have b:=By hi;refine⟨ops.toList[i],by rw [←Array.getElem?_toList];exact b,this.2 i _ _ b hy⟩
theorem jw.before(R:jw Q σ call n ops aos jf st){i j:Nat}{x y:aS}(b:i<j)(g:aos[i]?=aa x)(hy:aos[j]?=aa y)(h:x.apart y=ag∨(tp x y=ag∧(j=eJ ops aos→cls x.op≠.w))):yQ (dG ops.toList []) i j=ae:=by
 rcases R.ord.two i j x y b g hy with h1 | ⟨h1,h2⟩
 ·exact h1
 ·rcases h with h | ⟨h,d⟩
  ·rw [h1]at h;simp at h
  ·rcases h2 with h2 | ⟨h2,h3⟩
   ·rw [h2]at h;simp at h
   ·exact absurd h3 (d h2)
theorem Ext.assign{X0 d:Wd}(h:Ext X0.H.length X0 d){n c:Nat}(g:oW d.H.length d { d with cF:=fun b=>if b=n then aa ⟨c,0⟩else d.cF b })(hc:X0.w.heap.size≤c):Ext X0.H.length X0 { d with cF:=fun b=>if b=n then aa ⟨c,0⟩else d.cF b } where
 B:=h.B
 F:=h.F
 oX:=h.oX
 fw:=h.fw
 ba:=fun b hb=>(h.ba b hb).trans (g.ba b (aok hb h.len))
 wi:=fun b L hb=>by
  simp only at hb;by_cases e:b=n
  ·rw [bf e]at hb;cases hb;exact .inr hc
  ·rw [aT e]at hb;exact h.wi b L hb
 size:=h.size
 os:=h.os
 tape:=h.tape
 output:=h.output
 frame:=h.frame
theorem jw.VD(R:jw Q σ call n ops aos jf st){y:aS}(hy:aos[eJ ops aos]?=aa y):cls y.op=.a:=by
 obtain⟨⟨zs,h⟩,_⟩:=R.ord.ear y hy;rw [h];rfl
theorem Ve{x y:aS}{p:P}(h:x.dst=aa p)(b:p ∈ y.rd):x.apart y=ag:=by
 simp [aS.apart,h,b]
theorem zR{x y:aS}{p:P}(h:x.dst=aa p)(b:y.dst=aa p):x.apart y=ag:=by
 simp [aS.apart,h,b]
theorem Vd{x y:aS}{p:P}(h:p ∈ x.rd)(b:y.dst=aa p):x.apart y=ag:=by
 simp [aS.apart,h,b]
structure jv(ops:Array Oper)(aos:List aS)(D:Nat→Prop)(i:Nat)(o:Oper)(y:aS):Prop where
 ho:ops[i]?=aa o
 hy:aos[i]?=aa y
 hD:¬ D i
 pre:∀ e ∈ o.after.toList,Region.binds .any e=ae→D e.on
variable{X0:Wd}{D:Nat→Prop}{E i:Nat}{a:Act}{o:Oper}{y:aS}
theorem jv.oK(d:Inv Q σ X0 n ops aos st D E X a)(b:jv ops aos D i o y){j:Nat}(h:yQ (dG ops.toList []) j i=ae):D j:=
 d.closed.ready (by simpa using b.ho) b.pre h
theorem jv.qc(b:Inv Q σ X0 n ops aos st D E X a)(g:jv ops aos D i o y){j:Nat}(h:yQ (dG ops.toList []) i j=ae):¬ D j:=
 fun d=>g.hD (b.closed.below j d h)
theorem jw.reads(R:jw Q σ call n ops aos jf st)(m:Inv Q σ X0 n ops aos st D E X a)(b:jv ops aos D i o y){p:P}(B:p ∈ y.rd):VR σ X ((st i).aG.get p) (a.tmps.getD p.toNat undef):=by
 obtain⟨K,I,s,H⟩:=m.WY p;have hi:i<aos.length:=(IT.1 b.hy).1;have s:VR σ X ((st K).aG.get p) (a.tmps.getD p.toNat undef):=by
  rcases s with s | ⟨z,zs,c,_,M,d,g,_⟩
  ·exact s
  ·exfalso;obtain⟨_,_,N,x,l⟩:=R.ord.ear z d;rw [g]at x;cases x;have J:=(IT.1 d).1;rcases m.eW with h4 | v
   ·omega
   ·have L:E≠eJ ops aos:=by
     intro e;obtain⟨q,F,A⟩:=v;rw [e]at F;rw [R.VD F]at A;cases A
    exact m.eD (b.oK m (l i y b.hy B E v (show E<eJ ops aos by omega)))
 rcases Nat.le_total K i with h | h
 ·rw [←R.lz i h (by omega) fun j z h1 h2 d g=>?_]
  ·exact s
  ·have:=b.oK m (R.before h2 d b.hy (.inl (Ve g B)));have:=(H j z d g).2 this;omega
 ·rw [R.lz K h I fun j z h1 h2 d g=>?_]
  ·exact s
  ·have u:=(H j z d g).1 h2;rcases anQ i j with h3 | h3
   ·exact b.qc m (R.before h3 b.hy d (.inl (Vd B g))) u
   ·have:j=i:=by omega
    subst this;exact b.hD u
theorem jw.fin(R:jw Q σ call n ops aos jf st)(F:Inv Q σ X0 n ops aos st D E X a)(q:jv ops aos D i o y){l:Wd}{a1:Act}{u:Value}{v:V}{m:Nat}(hS:SR Q σ l)(hB:l.B≤l.w.heap.size)(a_:Ext X0.H.length X0 l)
  (hm:∀ v u,VR σ X v u→VR σ l v u) (a8:∀ y zs c p,E≤eJ ops aos→aos[eJ ops aos]?=aa y→y.op=.alloc zs→y.dst=aa p→D (eJ ops aos)→a.tmps.getD p.toNat undef=.pointer (aa ⟨c,0,ab⟩)→X0.w.heap.size≤c→jS σ X c zs→if m≤eJ ops aos then jS σ l c zs else VR σ l ((st (eJ ops aos+1)).aG.get p) (.pointer (aa ⟨c,0,ab⟩)))
  (hv:VR σ l v u∨(i=eJ ops aos∧m≤eJ ops aos∧∃ zs c,y.op=.alloc zs∧u=.pointer (aa ⟨c,0,ab⟩)∧X0.w.heap.size≤c∧jS σ l c zs))
  (ht:a1.tmps=(a.put o.dst u).tmps) (U:(st (i+1)).aG=iG (st i).aG y.dst v) (h1:m≤aos.length) (h2:m=aos.length∨Dn aos m) (h3:¬ (D m∨m=i)) (h4:∀ j,Dn aos j→j<m→D j∨j=i)
  (hH:l.H=(st m).heap) (hd:fU σ l (st m).defs a1.defers)
  (hh:∀ j y,j<m→¬ (D j∨j=i)→aos[j]?=aa y→cls y.op=.a→(st (j+1)).heap.length≠(st j).heap.length→l.cF (st j).heap.length=ab) :
  Inv Q σ X0 n ops aos st (fun j=>D j∨j=i) m l a1:=by
 have hi:i<aos.length:=(IT.1 q.hy).1;obtain⟨o',S,A⟩:=R.at q.hy;rw [q.ho]at S;cases S;have wg:(a.put o.dst u).tmps.size=a.tmps.size:=by cases o.dst<;>simp [Act.put]
 refine⟨fun j oj O B e he hb=>?_,fun j O=>O.elim (F.dlt j) fun h=>h▸hi,h1,h2,h3,h4,hH,a_,hS,hB,hd,by rw [ht,wg];exact F.size,fun p=>?_,hh⟩
 ·rcases O with O | rfl
  ·exact .inl (F.closed j oj O B e he hb)
  ·have:oj=o:=by have:=q.ho;simp at B;rw [this]at B;cases B;rfl
   subst this;exact .inl (q.pre e he hb)
 ·by_cases b:y.dst=aa p
  ·have s:a1.tmps.getD p.toNat undef=u:=by
    rw [ht];simp only [kg,If]at A;have g:=A.1.2;rw [b]at g;split at g
    ·rename_i d p' L J;simp only [If,beq_iff_eq,decide_eq_true_eq]at g;cases J;have Z:d<a.tmps.size:=aok g.2 F.size;rw [L,g.1];simp only [Act.put];simp [Z]
    ·rename_i J;simp at J
    ·simp at g
   refine⟨i+1,hi,?_,fun j z I x=>⟨fun h=>?_,fun h=>?_⟩⟩
   ·rcases hv with hv | ⟨N,Y,zs,c,g1,g2,g3,g4⟩
    ·left;rw [U,uh,bf b,s];exact hv
    ·right;exact⟨y,zs,c,by rw [N],Y,by rw [←N];exact q.hy,b,g1,by rw [s];exact g2,g3,g4⟩
   ·rcases anQ j i with M | M
    ·exact .inl (q.oK F (R.before M I q.hy (.inl (zR x b))))
    ·exact .inr (by omega)
   ·rcases h with h | rfl
    ·rcases anQ i j with M | M
     ·exact absurd h (q.qc F (R.before M q.hy I (.inl (zR b x))))
     ·omega
    ·omega
  ·obtain⟨K,hK,H,hw⟩:=F.WY p;have e:a1.tmps.getD p.toNat undef=a.tmps.getD p.toNat undef:=by
    rw [ht];simp only [kg,If]at A;have g:=A.1.2;split at g
    ·rename_i d p' L J;simp only [If,beq_iff_eq,decide_eq_true_eq]at g;have a7:d≠p.toNat:=fun e=>b (by rw [J,P.toNat_inj (g.1.trans e)]);rw [L];simp [Act.put,Array.getD_eq_getD_getElem?,Array.getElem?_setIfInBounds_ne a7]
    ·rename_i L J;rw [L];rfl
    ·simp at g
   refine⟨K,hK,?_,fun j z I x=>?_⟩
   ·rcases H with H | ⟨z,zs,c,g1,g2,g3,g4,g5,g6,g7,g8⟩
    ·left;rw [e];exact hm _ _ H
    ·have W:D (eJ ops aos):=(hw _ z g3 g4).1 (by omega);have:=a8 z zs c p g2 g3 g5 g4 W g6 g7 g8;split at this
     ·rename_i Y;right;exact⟨z,zs,c,g1,Y,g3,g4,g5,by rw [e];exact g6,g7,this⟩
     ·left;rw [e,g6,g1];exact this
   ·rw [hw j z I x];exact⟨.inl,fun h=>h.elim id fun h=>absurd (by rw [h]at I;rw [q.hy]at I;cases I;exact x) b⟩
end
end
section
variable{Q:Program}{σ:Nat→FuncId}{X:Wd}{call:dy}
variable{n:Nat}{ops:Array Oper}{aos:List aS}{jf:List (Nat × Nat)}{st:Nat→St}
variable{X0:Wd}{D:Nat→Prop}{E i:Nat}{a:Act}{o:Oper}{y:aS}
theorem px{x y:aS}(h:cls x.op=.w)(d:cls y.op≠.p)(b:cls y.op≠.r):tp x y=ag:=by
 unfold tp;rw [h];cases g:cls y.op<;>simp_all
theorem tq{x y:aS}(h:cls y.op=.w)(d:cls x.op≠.p)(b:cls x.op≠.r):tp x y=ag:=by
 unfold tp;rw [h];cases g:cls x.op<;>simp_all
theorem jw.tV(R:jw Q σ call n ops aos jf st){j:Nat}{z:aS}(b:aos[j]?=aa z)(hc:cls z.op≠.a):j≠eJ ops aos:=by
 rintro rfl;exact hc (R.VD b)
theorem jw.aia(R:jw Q σ call n ops aos jf st)(d:Inv Q σ X0 n ops aos st D E X a)(b:jv ops aos D i o y)(hc:cls y.op=.w):i=E:=by
 have hi:i<aos.length:=(IT.1 b.hy).1;rcases aoE i E with h | h | h
 ·exact absurd (d.wD i ⟨y,b.hy,hc⟩ h) b.hD
 ·exact h
 ·rcases d.eW with h1 | ⟨z,j,g⟩
  ·omega
  ·exact absurd (b.oK d (R.before h j b.hy (.inr ⟨px g (by simp [hc]) (by simp [hc]),fun e=>absurd e (R.tV b.hy (by simp [hc]))⟩))) d.eD
theorem jw.U9(R:jw Q σ call n ops aos jf st)(g:Inv Q σ X0 n ops aos st D E X a)(d:jv ops aos D i o y)(h1:cls y.op≠.p)(h2:cls y.op≠.r)(h3:cls y.op≠.w)(u:i=eJ ops aos→i<E):i<E∧∀ j,i≤j→j<E→¬ Dn aos j:=by
 have hi:i<aos.length:=(IT.1 d.hy).1;refine⟨?_,fun j v q s=>?_⟩
 ·rcases aoE i E with h | h | h
  ·exact h
  ·rcases g.eW with h4 | ⟨z,l,b⟩
   ·omega
   ·rw [←h,d.hy]at l;cases l;exact absurd b h3
  ·rcases g.eW with h4 | ⟨z,l,b⟩
   ·omega
   ·exact absurd (d.oK g (R.before h l d.hy (.inr ⟨px b h1 h2,fun e=>by have:=u e;omega⟩))) g.eD
 ·have m:=g.wD j s q;obtain⟨z,l,b⟩:=s;rcases anQ i j with h | h
  ·exact d.qc g (R.before h d.hy l (.inr ⟨tq b h1 h2,fun _=>h3⟩)) m
  ·have:j=i:=by omega
   subst this;exact d.hD m
theorem jw.amy(R:jw Q σ call n ops aos jf st)(d:Inv Q σ X0 n ops aos st D E X a)(s:jv ops aos D i o y)(hc:cls y.op=.r)(L:wanted (st i).aG y.g=aa ae){v:V}{F:an}(h:bE (st i).aG (st i).heap y.op=aa (v,F)) :
  F=(st i).heap∧bE (st i).aG X.H y.op=aa (v,X.H):=by
 have hi:i<aos.length:=(IT.1 s.hy).1;refine⟨(D8 hc (du.refl _) h).1,?_⟩;have q:AE (dG ops.toList []) aos i E=ae:=by
  unfold AE;rw [anx];intro j K;have l:=mY.1 K;split
  ·rename_i m;have b:=d.wD j l m;cases x:yQ (dG ops.toList []) i j with
   | false=>rfl| true=>exact absurd b (s.qc d x)
  ·rename_i m;cases x:yQ (dG ops.toList []) j i with
   | false=>rfl
   | true=>
    exfalso;have b:=s.oK d x;rcases anQ E j with h1 | h1
    ·rcases d.eW with h4 | ⟨z,M,B⟩
     ·have:=d.dlt j b;omega
     ·obtain⟨O,u,g⟩:=l;exact d.eD (d.closed.below j b (R.before h1 M u (.inr ⟨px B (by simp [g]) (by simp [g]),fun e=>absurd e (R.tV u (by simp [g]))⟩)))
    ·have:j=E:=by omega
     subst this;exact d.eD b
 rw [d.heap];rcases R.ord.rd i y E s.hy hc (d.eW.symm) q with A | A
 ·obtain⟨p1,_,_,H⟩:=oO (aos:=aos) (i:=i) (by omega);rw [←A]at p1 H;exact(D8 hc (R.dj E p1 d.eN H).1 h).2
 ·obtain⟨N,I,J,g1,g2⟩:=R.amn i E y A s.hy L;rw [h]at g1;cases g1;have:=(D8 hc (du.refl _) g2).1;rw [this]at g2;exact g2
theorem jw.abQ(R:jw Q σ call n ops aos jf st){z:aS}(d:aos[eJ ops aos]?=aa z){zs:List FC}(b:z.op=.alloc zs){p:P}(g:z.dst=aa p) :
  (st (eJ ops aos+1)).heap=(st (eJ ops aos)).heap++[.box (zs.map .f) 0]∧(st (eJ ops aos+1)).aG.get p=.c (.ptr (st (eJ ops aos)).heap.length 0 0):=by
 obtain⟨_,hg,_⟩:=R.ord.ear z d;have h:=R.step _ z d;simp only [fA,hg,wanted,b,eO,bE,anZ,AI]at h;rw [←h];exact⟨rfl,by rw [uh,bf g]⟩
theorem jw.CZ(R:jw Q σ call n ops aos jf st)(s:Inv Q σ X0 n ops aos st D E X a)(x:jv ops aos D i o y)(hc:cls y.op=.w){d:Wd}{a1:Act}{u:Value}{v:V}(hS:SR Q σ d)(hB:d.B≤d.w.heap.size)(hx:Ext X.H.length X d)
  (hv:VR σ d v u) (ht:a1.tmps=(a.put o.dst u).tmps) (B:(st (i+1)).aG=iG (st i).aG y.dst v) (hH:d.H=(st (i+1)).heap) (hd:fU σ d (st (i+1)).defs a1.defers) :
  ∃ E' X2,X2.w=d.w∧Inv Q σ X0 n ops aos st (fun j=>D j∨j=i) E' X2 a1:=by
 have hi:i<aos.length:=(IT.1 x.hy).1;have a_:=R.aia s x hc;subst a_;obtain⟨p1,p2,p3,J⟩:=oO (aos:=aos) (i:=i+1) (by omega);obtain⟨q1,q2⟩:=R.dj _ p1 p2 J;rw [←hH]at q1;obtain⟨k1,Z⟩:=SR.ahead hS q1;have g:Ext X.H.length X { d with H:=(st (phase aos (i+1))).heap }:=hx.trans (Z.mono hx.len);have I:Ext X0.H.length X0 { d with H:=(st (phase aos (i+1))).heap }:=s.ext.trans (g.mono s.ext.len);have K:¬ (D (phase aos (i+1))∨phase aos (i+1)=i):=by
  rintro(h | h)
  ·rcases p3 with h1 | ⟨z,hz,l⟩
   ·have:=s.dlt _ h;omega
   ·exact x.qc s (R.before p1 x.hy hz (.inr ⟨px hc (by simp [l]) (by simp [l]),fun e=>absurd e (R.tV hz (by simp [l]))⟩)) h
  ·omega
 have N:∀ j,Dn aos j→j<phase aos (i+1)→D j∨j=i:=by
  intro j U hj;rcases aoE j i with h | h | h
  ·exact .inl (s.wD j U h)
  ·exact .inr h
  ·exact absurd U (J j h hj)
 have S:fU σ { d with H:=(st (phase aos (i+1))).heap } (st (phase aos (i+1))).defs a1.defers:=by rw [q2];exact hd.ext' Z
 have iJ:i≠eJ ops aos:=R.tV x.hy (by simp [hc]);have we:∀ j z,j<phase aos (i+1)→¬ (D j∨j=i)→aos[j]?=aa z→cls z.op=.a→(st (j+1)).heap.length≠(st j).heap.length→i<j∧d.cF (st j).heap.length=ab:=by
  intro j z hj hD hz l A;rcases aoE j i with h | h | h
  ·exact absurd (.inl (x.oK s (R.before h hz x.hy (.inr ⟨tq hc (by simp [l]) (by simp [l]),fun e=>absurd e iJ⟩)))) hD
  ·exact absurd (.inr h) hD
  ·have F:=(R.dj j h (by omega) fun k h1 h2=>J k h1 (by omega)).1.len;rw [←hH]at F;refine⟨h,?_⟩;cases m:d.cF (st j).heap.length with
   | none=>rfl| some L=>have:=SR.lt hS m;omega
 by_cases hP:∃ z zs c p,i≤eJ ops aos∧eJ ops aos<phase aos (i+1)∧aos[eJ ops aos]?=aa z∧z.op=.alloc zs∧z.dst=aa p∧D (eJ ops aos)∧a.tmps.getD p.toNat undef=.pointer (aa ⟨c,0,ab⟩)∧X0.w.heap.size≤c∧jS σ X c zs
 ·obtain⟨z,zs,c,p,g1,g2,g3,g4,g5,g6,g7,g8,g9⟩:=hP;obtain⟨s1,s2⟩:=R.abQ g3 g4 g5;have M:i<eJ ops aos:=by omega
  have b_:(st (i+1)).heap.length≤(st (eJ ops aos)).heap.length:=(R.dj _ M (by omega) fun k h1 h2=>J k h1 (by omega)).1.len;obtain⟨fl,O⟩:∃ fl,(st (phase aos (i+1))).heap[(st (eJ ops aos)).heap.length]?=aa (.box (zs.map .f) fl):=by
   have W:=(R.dj (phase aos (i+1)) (show eJ ops aos+1≤_ by omega) p2 fun k h1 h2=>J k (by omega) h2).1;rw [s1]at W;exact pG W
  have c9:jS σ { d with H:=(st (phase aos (i+1))).heap } c zs:=g9.ext g;have c_:d.cF (st (eJ ops aos)).heap.length=ab:=by
   cases m:d.cF (st (eJ ops aos)).heap.length with
   | none=>rfl| some L=>have:=SR.lt hS m;rw [hH]at this;omega
  obtain⟨a7,q,a8⟩:=SR.assign k1 c9 O c_;refine⟨phase aos (i+1),{ d with H:=(st (phase aos (i+1))).heap,cF:=fun b=>if b=(st (eJ ops aos)).heap.length then aa ⟨c,0⟩else d.cF b },rfl,R.fin s x a7 hB (I.assign q g8) (fun v u h=>VR.ed σ q (VR.ext' σ g h)) ?_ (.inl (VR.ed σ q (VR.ext' σ Z hv))) ht B p2 p3 K N rfl (fU.ed q S) ?_⟩
  ·intro z' d9 c' p' _ e2 _ e4 _ e6 _ _;rw [g3]at e2;cases e2;rw [g5]at e4;cases e4;rw [g7]at e6;simp only [Value.pointer.injEq,AI,Addr.mk.injEq,true_and,and_true]at e6;subst e6;rw [aT (by omega),s2];exact a8
  ·intro j w hj hD hw Y A;obtain⟨f1,f2⟩:=we j w hj hD hw Y A;show(if(st j).heap.length=(st (eJ ops aos)).heap.length then aa (⟨c,0⟩:Loc)else d.cF (st j).heap.length)=ab;rw [aT,f2];intro e;rcases aoE j (eJ ops aos)with h | h | h
   ·have h1:=(R.dj (lo:=j+1) (eJ ops aos) h (by omega) fun k h1 h2=>J k (by omega) (by omega)).1.len;have h2:=(oS (by simp [Y]) (R.step j w hw)).1.len;clear I g k1 Z;omega
   ·exact hD (.inl (by rw [h];exact g6))
   ·have h1:=(R.dj (lo:=eJ ops aos+1) j h (by omega) fun k h1 h2=>J k (by omega) (by omega)).1.len;rw [s1,ank]at h1;simp only [List.length_cons,aoU]at h1;omega
 ·refine⟨phase aos (i+1),{ d with H:=(st (phase aos (i+1))).heap },rfl,R.fin s x k1 hB I (fun v u h=>VR.ext' σ g h) ?_ (.inl (VR.ext' σ Z hv)) ht B p2 p3 K N rfl S (fun j z h1 h2 h3 h4 h5=>(we j z h1 h2 h3 h4 h5).2)⟩;intro z zs c p g1 g2 g3 g4 g5 g6 g7 g8;by_cases F:phase aos (i+1)≤eJ ops aos
  ·rw [bf F];exact g8.ext g
  ·exact absurd ⟨z,zs,c,p,g1,by omega,g2,g3,g4,g5,g6,g7,g8⟩ hP
theorem jw.nD(R:jw Q σ call n ops aos jf st)(d:Inv Q σ X0 n ops aos st D E X a)(l:jv ops aos D i o y)(hc:cls y.op≠.w){b:Wd}{a1:Act}{u:Value}{v:V}(B:SR Q σ b)(x:b.B≤b.w.heap.size)(m:Ext X.H.length X b)
  (J:VR σ b v u∨(i=eJ ops aos∧E≤eJ ops aos∧∃ zs c,y.op=.alloc zs∧u=.pointer (aa ⟨c,0,ab⟩)∧X0.w.heap.size≤c∧jS σ b c zs)) (I:a1.tmps=(a.put o.dst u).tmps) (g:(st (i+1)).aG=iG (st i).aG y.dst v) (A:b.H=X.H) (F:fU σ b (st E).defs a1.defers)
  (H:∀ j z,j<E→¬ (D j∨j=i)→aos[j]?=aa z→cls z.op=.a→(st (j+1)).heap.length≠(st j).heap.length→b.cF (st j).heap.length=ab) :
  Inv Q σ X0 n ops aos st (fun j=>D j∨j=i) E b a1:=by
 refine R.fin d l B x (d.ext.trans (m.mono d.ext.len)) (fun v u h=>VR.ext' σ m h) (fun z zs c p g1 _ _ _ _ _ _ g8=>by rw [bf g1];exact g8.ext m) J I g d.eN d.eW ?_ (fun j h1 h2=>.inl (d.wD j h1 h2)) (A.trans d.heap) F H;rintro(h | h)
 ·exact d.eD h
 ·have hi:i<aos.length:=(IT.1 l.hy).1;rcases d.eW with h1 | ⟨z,s,q⟩
  ·omega
  ·rw [h,l.hy]at s;cases s;exact hc q
theorem jw.hZ(d:Inv Q σ X0 n ops aos st D E X a){b:Wd}(h:b.cF=X.cF):∀ j z,j<E→¬ (D j∨j=i)→aos[j]?=aa z→cls z.op=.a→(st (j+1)).heap.length≠(st j).heap.length→b.cF (st j).heap.length=ab:=
 fun j z h1 h2 h3 h4 h5=>by rw [h];exact d.we j z h1 (fun h=>h2 (.inl h)) h3 h4 h5
theorem jw.Cf(R:jw Q σ call n ops aos jf st)(q:Inv Q σ X0 n ops aos st D E X a)(u:jv ops aos D i o y)(hc:cls y.op=.a)(F:i=eJ ops aos→i<E)(m:(st (i+1)).heap.length≠(st i).heap.length){j:Nat}{z:aS}(J:j<E)(hD:¬ (D j∨j=i))(B:aos[j]?=aa z)(d:cls z.op=.a)
  (g:(st (j+1)).heap.length≠(st j).heap.length):(st j).heap.length≠(st i).heap.length:=by
 have hi:i<aos.length:=(IT.1 u.hy).1;obtain⟨g1,g2⟩:=R.U9 q u (by simp [hc]) (by simp [hc]) (by simp [hc]) F;have I:∀ k,j≤k→k<E→¬ Dn aos k:=by
  intro k h1 h2 s;have l:=q.wD k s h2;obtain⟨w,v,x⟩:=s;rcases anQ j k with h | h
  ·exact hD (.inl (q.closed.below k l (R.before h B v (.inr ⟨tq x (by simp [d]) (by simp [d]),fun _=>by simp [d]⟩))))
  ·have:k=j:=by omega
   subst this;exact hD (.inl l)
 have b:∀ k w,aos[k]?=aa w→cls w.op=.a→(st (k+1)).heap.length≠(st k).heap.length→(st k).heap.length<(st (k+1)).heap.length:=by
  intro k w s A H;have:=(oS (by simp [A]) (R.step k w s)).1.len;omega
 rcases aoE j i with h | h | h
 ·have h1:=b j z B d g;have h2:(st (j+1)).heap.length≤(st i).heap.length:=(R.dj i h (by omega) fun k h3 h4=>I k (by omega) (by omega)).1.len;omega
 ·exact absurd (.inr h) hD
 ·have h1:=b i y u.hy hc m;have h2:(st (i+1)).heap.length≤(st j).heap.length:=(R.dj j h (by have:=q.eN;omega) fun k h3 h4=>g2 k (by omega) (by omega)).1.len;omega
end
section
variable{Q:Program}{σ:Nat→FuncId}{X:Wd}{call:dy}
variable{n:Nat}{ops:Array Oper}{aos:List aS}{jf:List (Nat × Nat)}{st:Nat→St}
variable{X0:Wd}{D:Nat→Prop}{E i:Nat}{a:Act}{o:Oper}{y:aS}
theorem Cs{w':World}{q:Obj}(g:SR Q σ X)(d:ea X.w w' q):SR Q σ { X with w:=w' }∧Ext X.H.length X { X with w:=w' }:=by
 have j:Ext X.H.length X { X with w:=w' }:=Ext.one g X.H.length rfl (fun _ _=>Iff.rfl) (fun k m _=>d.Bi m)
  (fun L i h=>by rw [SR.qY g]at h;simp at h) (fun h=>absurd h (apq _)) (fun _ _ _=>rfl) (fun _ _=>rfl) (fun L h=>.inl ⟨L,h,rfl⟩) (by show _≤w'.heap.size;rw [d.size];omega) d.os d.tape d.output
 refine⟨SR.step Q σ g j X.H.length (fun _ _=>rfl) (fun _ _=>rfl) (fun b L _ l=>d.Bi (g.br b L l).2.1)
  (fun _ _ _ _ _ h=>h) (fun L h=>by change X.cF X.H.length=aa L at h;rw [SR.qY g]at h;simp at h) (fun c i h=>?_),j⟩
 have:=g.fb c i h;show c<w'.heap.size;rw [d.size];omega
theorem Wi{y:aS}{p:P}(h:p ∈ y.op.rd):p ∈ y.rd:=by unfold aS.rd;exact anm.2 (.inr h)
theorem Dh{y:aS}{p:P}{w:Bool}(h:y.g=aa (p,w)):p ∈ y.rd:=by unfold aS.rd;rw [h];simp
theorem jw.adQ(hC:fD Q σ call)(R:jw Q σ call n ops aos jf st)(d:Inv Q σ X0 n ops aos st D E X a)(A:jv ops aos D i o y){b:Frame}{rest:List Nat}{k:List Item}{cs:List Frame}(hk:iX b cs)(j9:gH y.op b) :
  ∃ E' X' a',Steps Q (lone (b.atR a (.inRegion ops (i::rest)::k)) cs X.w) (lone (b.atR a' (.inRegion ops rest::k)) cs X'.w)∧Inv Q σ X0 n ops aos st (fun j=>D j∨j=i) E' X' a'∧a'.tmps.size=a.tmps.size:=by
 have hi:i<aos.length:=(IT.1 A.hy).1;obtain⟨o',g_,hm⟩:=R.at A.hy;rw [A.ho]at g_;cases g_;have g:=R.step i y A.hy;have S:∀ p ∈ y.rd,VR σ X ((st i).aG.get p) (a.tmps.getD p.toNat undef):=fun p hp=>R.reads d A hp;have l:dX Q σ o y.op=ae:=by simp only [kg,If]at hm;exact hm.1.1
 have K:∀ u,(a.put o.dst u).tmps.size=a.tmps.size:=fun u=>by cases o.dst<;>simp [Act.put]
 have J:∀(a:Act) u,(a.put o.dst u).defers=a.defers:=fun a u=>by cases o.dst<;>rfl
 have i7:∀(a a':Act) u,a'.tmps=a.tmps→(a'.put o.dst u).tmps=(a.put o.dst u).tmps:=fun a a' u h=>by cases o.dst<;>simp [Act.put,h]
 unfold fA at g;split at g
 ·rename_i d9;have hw:=nR hm (aG:=(st i).aG) (tmps:=a.tmps) (X:=X) (fun p w' hg=>S p (Dh hg)) d.size d9;split at g
  ·rename_i v s1 h1;simp only [AI]at g;have B:(st (i+1)).aG=iG (st i).aG y.dst v:=by rw [←g,←xq h1]
   have q:(st (i+1)).heap=s1.heap:=by rw [←g]
   have N:(st (i+1)).defs=s1.defs:=by rw [←g]
   have F:∀ p ∈ y.op.rd,(st i).aG.get p=(hO (st i).aG y.op.rd).get p:=fun p hp=>by rw [ui,bf hp]
   have Z:RR σ X (hO (st i).aG y.op.rd) a.tmps:=fun p=>by
    rw [ui];split
    ·rename_i hp;exact S p (Wi hp)
    ·trivial
   have M:=D7 F h1;by_cases m:cls y.op=.w
   ·have a8:=R.aia d A m;obtain⟨g1,g2⟩:=D6 hC d.sr d.b (s:={ st i with aG:=hO (st i).aG y.op.rd }) (by rw [d.heap,←a8]) Z (by rw [a8];exact d.defs) l M;obtain⟨X1,u,a1,k1,⟨k2,k3,k4,k5,k6⟩,k7,k8⟩:=g1 b ops i rest k cs A.ho hw hk j9;obtain⟨E',X2,q1,q2⟩:=R.CZ d A m (a1:=a1.put o.dst u) k3 k6 k5 k4 (i7 a a1 u k7) B (by rw [k2,q]) (by rw [N,J];exact k8);exact⟨E',X2,a1.put o.dst u,by rw [q1];exact k1,q2,by rw [i7 a a1 u k7,K]⟩
   ·
    have j8:∀ c,o.op≠.defer c:=pR l (fun x xs e=>m (by rw [e];rfl)) (fun e=>by rw [e]at h1;simp [eO,bE]at h1);have one:∀ {u:Value} {w':World},(execOp a.eval o).run Q X.w=.ok (.value u) w'→Steps Q (lone (b.atR a (.inRegion ops (i::rest)::k)) cs X.w) (lone (b.atR (a.put o.dst u) (.inRegion ops rest::k)) cs w'):=by
     intro u w' a_;refine .one (step_lone_go ?_);rw [stepGR_op A.ho hw,Oper.semAt_eq _ _ _ j8];have a7:=Frame.finish_atR b a ops i rest k u;rw [A.ho]at a7;simp only [anR]at a7;rw [←a7];simp [stepG.apply,Sem.runT_eq,a_]
    by_cases H:cls y.op=.c
    ·
     obtain⟨f,xs,c_⟩:∃ f xs,y.op=.call f xs ag:=by
      generalize y.op=op at H;cases op<;>first | (simp only [cls,reduceCtorEq]at H;done) | skip
      rename_i f xs hh;cases hh
      ·exact⟨f,xs,rfl⟩
      ·simp [cls]at H
     have I:=Z;rw [c_]at M l I;simp only [eO,gI,anF,if_false,IN,anc]at M;obtain⟨⟨v',H'⟩,hp,rfl,i3⟩:=M;have j7:H'=(st (i+1)).heap:=by
      rw [q];simp only [St.mk.injEq]at i3;exact i3.2.2
     obtain⟨g1,g2⟩:=R.U9 d A (by simp [H]) (by simp [H]) (by simp [H]) (fun e=>absurd e (R.tV A.hy (by simp [H])));have e_:du H' X.H:=by
      rw [j7,d.heap];exact(R.dj E g1 d.eN fun j h1 h2=>g2 j (by omega) h2).1
     obtain⟨X1,u,k1,⟨k2,k3,k4,k5,k6⟩,k7⟩:=xC hC d.sr d.b I l hp e_ b ops i rest k cs A.ho hw;exact⟨E,X1,a.put o.dst u,k1,R.nD d A m k3 k6 k5 (.inl k4) rfl B k2 (by rw [J];exact d.defs.ext' k5) (jw.hZ d k7),K u⟩
    ·have hx:(bE (hO (st i).aG y.op.rd) (st i).heap y.op)=aa (v,s1.heap):=by
      have c9:¬ ((∃ f xs h,y.op=.call f xs h)∨(∃ x xs h,y.op=.bZ x xs h)∨y.op=.recover∨∃ x xs,y.op=.defer x xs):=by
       rintro(⟨f,xs,hh,e⟩ | ⟨x,xs,hh,e⟩ | e | ⟨x,xs,e⟩)<;>rw [e]at m H
       ·cases hh
        ·exact H rfl
        ·exact m rfl
       ·exact m rfl
       ·exact m rfl
       ·exact m rfl
      have hx:(bE (hO (st i).aG y.op.rd) (st i).heap y.op).map (fun r=>(r.1,({ st i with aG:=hO (st i).aG y.op.rd,heap:=r.2 }:St)))=aa (v,{ s1 with aG:=hO (st i).aG y.op.rd }):=by
       generalize hO (st i).aG y.op.rd=r at M;generalize y.op=op at M c9;cases op<;>first | exact M | (exfalso;apply c9;simp)
      simp only [IN,anc,St.mk.injEq]at hx;obtain⟨⟨v',H'⟩,h2,rfl,_,_,h3⟩:=hx;rw [h2];simp only at h3;rw [h3]
     by_cases Y:cls y.op=.a
     ·by_cases U:i=eJ ops aos∧E≤i
      ·
       obtain⟨f8,j4⟩:=U;obtain⟨⟨zs,c_⟩,_,_⟩:=R.ord.ear y (show aos[eJ ops aos]?=aa y from f8▸A.hy);have f_:=hx;rw [c_]at f_ l;simp only [bE,AI,anc]at f_;obtain⟨rfl,_⟩:=f_;simp only [dX]at l;split at l
       ·rename_i t ho;obtain⟨z,us,i8,i9,i_,_⟩:=fk (σ:=σ) (X:=X) l X.w;have a_:(execOp a.eval o).run Q X.w=.ok (.value (.pointer (aa ⟨X.w.heap.size,0,ab⟩))) (X.w.alloc (.cells us.toArray t)):=by
         simp only [execOp,ho];refine eu ?_;simp [Instr.alloc,i8,newVar,newRow,i9]
        obtain⟨e1,e2⟩:=Cs d.sr (ea.alloc X.w (.cells us.toArray t));refine⟨E,{ X with w:=X.w.alloc (.cells us.toArray t) },a.put o.dst (.pointer (aa ⟨X.w.heap.size,0,ab⟩)),one a_,R.nD d A m e1 (by have:=d.b;simp;omega) e2 (.inr ⟨f8,by rw [←f8];exact j4,zs,X.w.heap.size,c_,rfl,d.ext.size,?_⟩) rfl B rfl (by rw [J];exact d.defs.ext' e2) (jw.hZ d rfl),K _⟩;exact⟨⟨us,t,(ea.alloc X.w (.cells us.toArray t)).new,A2.ext' σ e2 i_⟩,d.b,fun b L hb=>by have:=(d.sr.br b L hb).2.1;omega,fun j hj=>by have:=d.sr.fb _ j hj;omega⟩
       ·simp at l
      have hJ:i=eJ ops aos→i<E:=fun e=>by
       rcases anQ i E with h | h
       ·exact h
       ·exact absurd ⟨e,h⟩ U
      obtain⟨g1,g2⟩:=R.U9 d A (by simp [Y]) (by simp [Y]) (by simp [Y]) hJ;have e_:du s1.heap X.H:=by
       rw [←q,d.heap];exact(R.dj E g1 d.eN fun j h1 h2=>g2 j (by omega) h2).1
      obtain⟨X1,u,k1,⟨k2,k3,k4,k5,k6⟩,k7,k8⟩:=acp d.sr d.b Z Y l hx e_ (fun c9=>d.we i y g1 A.hD A.hy Y (by rw [q];exact c9));refine⟨E,X1,a.put o.dst u,one k1,R.nD d A m k3 k6 k5 (.inl k4) rfl B k2 (by rw [J];exact d.defs.ext' k5) ?_,K u⟩;by_cases d_:(st (i+1)).heap.length=(st i).heap.length
      ·exact jw.hZ d (k8 (by rw [←q];exact d_))
      ·intro j z h2 h3 h4 h5 h6;rw [k7 _ (R.Cf d A Y hJ d_ h2 h3 h4 h5 h6)];exact d.we j z h2 (fun h=>h3 (.inl h)) h4 h5 h6
     ·
      have h_:cls y.op=.p∨cls y.op=.r:=by cases b_:cls y.op<;>simp_all
      have k_:bE (st i).aG (st i).heap y.op=aa (v,s1.heap):=by rw [CB F];exact hx
      have i6:bE (hO (st i).aG y.op.rd) X.H y.op=aa (v,X.H):=by
       rcases h_ with b_ | b_
       ·have:=aeo (r:=hO (st i).aG y.op.rd) b_ (st i).heap X.H;rw [hx]at this;simpa using this
       ·rw [←CB F];exact(R.amy d A b_ d9 k_).2
      cases f7:y.op.fsl
      case true=>
       have O:=l;have W:=i6;have I:=Z;obtain⟨rg,j_⟩:=aM (hO (st i).aG y.op.rd);rw [←j_]at W I;revert O W;generalize y.op=op at f7;cases op<;>simp only [dq.fsl,reduceCtorEq]at f7;intro O W;obtain⟨_,u,X1,k1,k2,k3,k4,k5,k6,k7⟩:=vZ d.sr d.b I O W;exact⟨E,X1,a.put o.dst u,one k1,R.nD d A m k3 k6 k5 (.inl k4) rfl B k2 (by rw [J];exact d.defs.ext' k5) (jw.hZ d k7),K u⟩
      obtain⟨_,u,k1,k2⟩:=aeh d.sr Z l h_ f7 i6;exact⟨E,X,a.put o.dst u,one k1,R.nD d A m d.sr d.b (Ext.refl _ _) (.inl k2) rfl B rfl (by rw [J];exact d.defs) (jw.hZ d rfl),K u⟩
  ·simp at g
 ·rename_i d9;have hw:=nR hm (aG:=(st i).aG) (tmps:=a.tmps) (X:=X) (fun p w' hg=>S p (Dh hg)) d.size d9;simp only [AI]at g;have B:(st (i+1)).aG=iG (st i).aG y.dst (.t []):=by rw [←g]
  have q:(st (i+1)).heap=(st i).heap:=by rw [←g]
  have N:(st (i+1)).defs=(st i).defs:=by rw [←g]
  have i4:Steps Q (lone (b.atR a (.inRegion ops (i::rest)::k)) cs X.w) (lone (b.atR (a.put o.dst undef) (.inRegion ops rest::k)) cs X.w):=by
   refine .one ?_;have:=stepR_op_skip (P:=Q) (b:=b) (a:=a) (k:=k) (cs:=cs) (w:=X.w) (ops:=ops) (i:=i) (rest:=rest) (by simp [A.ho,hw]);rw [A.ho]at this;exact this
  by_cases m:cls y.op=.w
  ·have a8:=R.aia d A m;obtain⟨E',X2,q1,q2⟩:=R.CZ d A m (a1:=a.put o.dst undef) d.sr d.b (Ext.refl _ _) VR.undef rfl B (by rw [d.heap,q,a8]) (by rw [N,J,a8];exact d.defs);exact⟨E',X2,a.put o.dst undef,by rw [q1];exact i4,q2,K _⟩
  ·exact⟨E,X,a.put o.dst undef,i4,R.nD d A m d.sr d.b (Ext.refl _ _) (.inl VR.undef) rfl B rfl (by rw [J];exact d.defs) (jw.hZ d rfl),K _⟩
 ·simp at g
end
end Km
