/-
  Our own small machine for Go code by value, held rz the model: part 2. No program in C3.
-/
import Derived.Test.YthkmdpgdicohdaaGreatK1
import Derived.AtR
import Derived.RangeFuncIn
import Derived.RangeFuncRecord
import Derived.Conc.MuLone
open Option renaming some → aa,none → ab
open Bool renaming true → ae,false → ag
open Nat renaming le_max_left → al3, le_trans → alL, le_max_right → alS, mul_le_mul_right → alX, le_refl → alk, add_mul → alM, lt_or_ge → alO, lt_irrefl → ano, mul_eq_zero → anr, zero_add → amb, lt_of_lt_of_le → aml, lt_trichotomy → amK
open Option.some renaming injEq → AI
open Prod.mk renaming injEq → OF
open List renaming getElem?_map → amk, length_map → alq, getElem?_toArray → anh, getElem?_cons_zero → amZ, getElem?_cons_succ → anc, length_append → alj, getElem?_eq_some_iff → IS, getElem?_set_ne → sh, getElem?_append_left → AT, length_drop → alD, eq_nil_of_length_eq_zero → alx, drop_zero → amd, getElem?_set → ani, getElem?_eq_getElem → By, getElem?_eq_none_iff → amU, foldl_cons → am5, mem_cons → alW, getElem_mem → IT, getElem?_drop → alK, getElem?_of_mem → amq, drop_eq_nil_iff → anE, drop_eq_getElem_cons → alv, mem_flatMap → anm, mem_append → aln, mem_map → alC, getElem?_take → al4, getElem?_eq_none → amV, length_nil → amR, getD_eq_getElem?_getD → am1, all_eq_true → alA
open Option renaming map_eq_some_iff → IN, map_some → alZ, bind_some → alP
open Bool renaming and_eq_true → If, false_eq_true → alE, true_and → amm
open Int renaming natCast_mul → ane, toNat_natCast → alJ, mul_comm → ami
set_option linter.unusedVariables false
set_option linter.constructorNameAsVariable false
set_option linter.unusedSimpArgs false
set_option linter.unusedSectionVars false
set_option maxRecDepth 100000
namespace Km
open Go
section
variable{Q:Program}{σ:Nat→FuncId}{X:Wd}
theorem vl(n:Nat):∀(r c:Nat),Builtin.growBy n r c≤Nat.max c (n+(n+768) / 4)
 | 0,c=>by simp [Builtin.growBy];exact al3 _ _
 | r+1,c=>by
  simp only [Builtin.growBy];split
  ·exact al3 _ _
  ·rename_i h;refine alL (vl n r _) ?_;apply Nat.max_le.2;exact⟨alL (by omega) (alS _ _),alS _ _⟩
theorem te{need cap:Nat}(h:cap<need):Builtin.nextslicecap need cap≤2*need+768:=by
 unfold Builtin.nextslicecap;split
 ·omega
 ·split
  ·omega
  ·refine alL (vl need 4 cap) ?_;apply Nat.max_le.2;omega
theorem yH(K:SR Q σ X){sz:Nat}{y:V}{u:Value}(v:VR σ X y u){m:Nat}{ys:List C}(h:dc X.H sz y=aa (m,ys)) :
  ∃ F,(Builtin.lenOf u).run Q X.w=.ok m X.w∧(Builtin.firstCells sz m u).run Q X.w=.ok F.toArray X.w∧A2 (CR σ X) ys F∧ys.length=m*sz:=by
 unfold dc at h;split at h
 ·rename_i s;have:=VR.str v;subst this;split at h
  case isFalse=>simp at h
  rename_i q;subst q;simp only [AI,OF]at h;obtain⟨rfl,rfl⟩:=h;have g:s.extract 0 s.size=s:=ByteArray.extract_zero_size;refine⟨s.data.toList.map fun b=>.int .u8 b.toNat,by simp [Builtin.lenOf],?_,?_,?_⟩
  ·simp only [Builtin.firstCells,g,Sem.run_pure]
   congr 1
   apply Array.ext';simp
  ·rw [ByteArray.toList_eq];exact⟨by simp,fun i x u E B=>by
    simp only [amk,IN]at E B;obtain⟨c,L,rfl⟩:=E;obtain⟨d,z,rfl⟩:=B;rw [L]at z;cases z;exact cT.int _ _⟩
  ·rw [ByteArray.toList_eq];simp only [alq,Array.length_toList,Nat.mul_one];rfl
 ·rename_i x M;split at h
  ·rename_i l cs A j;simp only [AI,OF]at h;obtain⟨rfl,rfl⟩:=h;obtain⟨us,H,I,J⟩:=lT K v A j;obtain⟨a,c,rfl⟩:=kX v A;exact⟨us,by simp [Builtin.lenOf],H,I,J⟩
  ·simp at h
 ·simp at h
structure ahF(Q:Program)(t t' e:TypeId)(sz bytes:Nat):Prop where
 hu:Q.underlying t=aa (.slice e)
 hu':∃ d,Q.underlying t'=aa d∧(∀ k,d≠.int k)
 vn:dH Q e sz=ae
 hby:mS Q e bytes=ae
 pos:0<sz
 zero:∃ i z,Q.info? e=aa i∧i.zero=aa z∧z.cells.size=sz
def qB(base:Option Addr)(k:Nat)(b:List Value):Sem Unit:=match base with
 | some a=>storeCells (a.add k) b| none=>pure ()
theorem jb{t O e:TypeId}{sz bytes:Nat}(j:ahF Q t O e sz bytes)(W:TypeId){base:Option Addr}{l cap m:Nat}{u:Value}{g:List Value}{w:World}
  (S:(Builtin.lenOf u).run Q w=.ok m w) (Y:(Builtin.firstCells sz m u).run Q w=.ok g.toArray w) :
  (l+m≤cap→(Builtin.append_ #[t,O] W #[.slice base l cap,u]).run Q w =
   ((qB base (l*sz) g).run Q w).andThen fun _ w'=>.ok (.slice base (l+m) cap) w') ∧
  (¬ l+m≤cap→cN (l+m) bytes=ae→∀ os g:List Value,(Builtin.firstCells sz l (.slice base l cap)).run Q w.drew=.ok os.toArray w.drew→(Builtin.firstCells sz m u).run Q w.drew=.ok g.toArray w.drew →
   ∃ nc rest w',l+m≤nc∧(Builtin.append_ #[t,O] W #[.slice base l cap,u]).run Q w=.ok (.slice (aa ⟨w.heap.size,0,ab⟩) (l+m) nc) w' ∧
    dY w w' (.cells (os++g++rest).toArray e)∧rest.length=(nc-(l+m))*sz):=by
 obtain⟨d,U,F⟩:=j.hu';obtain⟨i,z,hi,hz,y⟩:=j.zero;obtain⟨q,s,B⟩:=xD j.hby w;have A:((d matches .int _):Bool)=ag:=by
  cases d with
  | int k=>exact absurd rfl (F k)| _=>rfl
 constructor
 ·intro I;simp only [Builtin.append_,anh];simp [a5 j.hu,a5 U,di j.vn,A,S,I,Y];cases base<;>simp [qB]
 ·intro H b os g Z h4;unfold cN at b;simp only [If,decide_eq_true_eq]at b;have v:q=i:=by
   simp [typeInfo,hi]at s;exact s.symm
  subst v;have J:¬ (Builtin.nextslicecap (l+m) cap*q.bytes>2 ^ 48):=by
   rw [B];have:=te (need:=l+m) (cap:=cap) (by omega);have:=alX bytes this;omega
  let nc:=(Question.appendCap (l+m) cap e).cut (w.tape w.drawn (.appendCap (l+m) cap e))
  have K:l+m≤nc:=by simp [nc,Question.cut]
  refine⟨nc,cM (nc-(l+m)) z.cells.toList,w.drew.alloc (.cells (os++g++cM (nc-(l+m)) z.cells.toList).toArray e),K,?_,⟨rfl,rfl,rfl,rfl⟩,by rw [kS];simp [y]⟩;have E:(choose (.appendCap (l+m) cap e)).run Q w=.ok nc w.drew:=by
   simp [choose,Sem.run,Question.forced,nc]
  have M:Builtin.zeroCells z.cells (nc-(l+m))=(cM (nc-(l+m)) z.cells.toList).toArray:=by
   have:=im z.cells.toList (nc-(l+m)) (by simp [y];exact j.pos);simpa [Builtin.zeroCells]using this
  have x:¬ (((l+m:Nat):Int)>IntKind.i64.max):=by
   have:IntKind.i64.max=9223372036854775807:=by decide
   rw [this];omega
  have N:∀ w',(zeroValue e).run Q w'=.ok z w':=fun w'=>by simp [zeroValue,typeInfo,hi,hz]
  have L:∀ w',(typeInfo e).run Q w'=.ok q w':=fun w'=>by simp [typeInfo,hi]
  simp only [Builtin.append_,Sem.run_bind,a5 j.hu,a5 U,di j.vn,A,Result.andThen_ok,Sem.run_pure,alE,if_false,S,aS H,Sem.run_ite,L,x,false_and,J,E,run_askRoom,Z,
   Bool.not_false,if_true,h4,N,M,newRow,run_newObj,anh,amZ,anc]
  have X:os.toArray++g.toArray++(cM (nc-(l+m)) z.cells.toList).toArray=(os++g++cM (nc-(l+m)) z.cells.toList).toArray:=by simp
  rw [X];rfl
theorem SR.drew(b:SR Q σ X):SR Q σ { X with w:=X.w.drew }∧Ext X.H.length X { X with w:=X.w.drew }:=by
 have d:Ext X.H.length X { X with w:=X.w.drew }:=Ext.one b X.H.length rfl (fun _ _=>Iff.rfl) (fun _ _ _=>rfl) (fun _ _ _ _=>rfl) (fun h=>by omega)
  (fun _ _ _=>rfl) (fun _ _=>rfl) (fun L h=>.inl ⟨L,h,rfl⟩) (alk _) rfl rfl rfl
 exact⟨SR.step Q σ b d X.H.length (fun _ _=>rfl) (fun _ _=>rfl) (fun _ _ _ _=>rfl) (fun _ _ _ _ _ h=>h) (fun L h=>by
  change X.cC X.H.length=aa L at h;rw [SR.qx b]at h;simp at h) b.fb,d⟩
theorem UQ(l:SR Q σ X)(A:X.B≤X.w.heap.size){sz:Nat}(d:0<sz){cs:List C}{us rest:List Value}(h:A2 (CR σ X) cs us){n nc:Nat}(q:cs.length=n*sz)(F:rest.length=(nc-n)*sz)(E:n≤nc)
  {e:TypeId} {w':World} (s:dY X.w w' (.cells (us++rest).toArray e)) :
  ∃ X',X'.w=w'∧X'.H=X.H++[.cO sz cs 0 0 .loc]∧SR Q σ X'∧Ext X.H.length X X'∧VR σ X' (.c (.sl X.H.length 0 n 0 0 sz)) (.slice (aa ⟨X.w.heap.size,0,ab⟩) n nc)∧X'.B≤X'.w.heap.size:=by
 obtain⟨X',u,j,v,x,y,z⟩:=SR.new l A (.cO sz cs 0 0 .loc) s nc fun X' H g B _=>⟨rfl,us,rest,by rw [g];exact kU s,A2.ext' σ H h,by
  have:=h.len;rw [alj,F,←this,q,←alM];congr 1;show n+(nc-n)=nc;omega,d,⟨n,q⟩,fun i _ m=>by rw [B]at m;have:=l.fb _ _ m;simp at this⟩
 refine⟨X',u,j,v,x,?_,z⟩;have b:X'.H[X.H.length]?=aa (.cO sz cs 0 0 .loc):=by rw [j];simp
 simp only [VR,iq,CR,fM,b];exact⟨alk _,fun _ _=>⟨_,y,0,by omega,by show 0+n≤nc;omega,by simp⟩,_,_,_,rfl⟩
theorem wM(q:SR Q σ X)(O:X.B≤X.w.heap.size){b sz:Nat}{x cs:List C}{fl u:Nat}{st:Os}(F:X.H[b]?=aa (.cO sz x fl u st)){ys:List C}{us B rest:List Value}(I:A2 (CR σ X) cs us)(K:A2 (CR σ X) ys B)
  (A:0<sz) {n nc:Nat} (J:cs.length+ys.length=n*sz) (W:rest.length=(nc-n)*sz) (U:n≤nc) {e:TypeId} {w':World} (j:dY X.w w' (.cells (us++B++rest).toArray e)) :
  ∃ X',X'.w=w'∧X'.H=X.H.set b (.cO sz (cs++ys) fl (u+1) .loc)∧SR Q σ X'∧Ext X.H.length X X'∧VR σ X' (.c (.sl b 0 n 0 (u+1) sz)) (.slice (aa ⟨X.w.heap.size,0,ab⟩) n nc)∧X'.B≤X'.w.heap.size:=by
 have z:b<X.H.length:=(IS.1 F).1
 let X':Wd:={ X with H:=X.H.set b (.cO sz (cs++ys) fl (u+1) .loc),cC:=fun k=>if k=b then aa ⟨X.w.heap.size,nc⟩else X.cC k,w:=w' }
 have g:X'.H[b]?=aa (.cO sz (cs++ys) fl (u+1) .loc):=by simp [X',z]
 have l:X'.cC b=aa ⟨X.w.heap.size,nc⟩:=by simp [X']
 have v:Ext X.H.length X X':=Ext.one q b rfl (fun _ _=>Iff.rfl) (fun k S _=>j.Ao S) (fun L i Y y=>World.cell?_of_block (j.Ao (q.fb _ _ y)))
  (fun _ bU d=>⟨_,g,by rw [F]at d;simp only [AI]at d;subst d;exact⟨rfl,.inr ⟨by omega,rfl,_,l⟩⟩⟩)
  (fun m h _=>by simp [X',sh (Ne.symm h)]) (fun m h=>by simp [X',h]) (fun L h=>by rw [l]at h;simp only [AI]at h;subst h;exact .inr (alk _)) (by show X.w.heap.size≤w'.heap.size;rw [j.size];omega) j.os j.tape j.output
 refine⟨X',rfl,rfl,SR.step Q σ q v b (fun m h=>by simp [X',sh (Ne.symm h)]) (fun m h=>by simp [X',h]) (fun m L _ s=>j.Ao (q.br m L s).2.1) (fun _ _ _ _ _ h=>h) (fun L h=>?_) (fun c i h=>?_),v,?_,?_⟩
 ·rw [l]at h;simp only [AI]at h;subst h;refine⟨O,by show X.w.heap.size<w'.heap.size;rw [j.size];omega,⟨_,g,rfl,us++B,rest,kU j,(A2.ext' σ v I).append (A2.ext' σ v K),?_,A,⟨n,by simpa using J⟩,fun i _ y=>?_⟩,fun m E _ s=>?_⟩
  ·have M:=I.len;have N:=K.len;rw [alj,alj,W,←M,←N,J,←alM];congr 1;show n+(nc-n)=nc;omega
  ·have:=q.fb _ _ y;simp at this
  ·have:=(q.br m E s).2.1;show E.c≠X.w.heap.size;omega
 ·have:=q.fb c i h;show c<w'.heap.size;rw [j.size];omega
 ·simp only [VR,iq,CR,fM,g];exact⟨alk _,fun _ _=>⟨_,l,0,by omega,by show 0+n≤nc;omega,by simp⟩,_,_,_,rfl⟩
 ·show X.B≤w'.heap.size;rw [j.size];omega
end
section
variable{Q:Program}{σ:Nat→FuncId}{X:Wd}
theorem U2{d:Type}(us rest b:List d)(h:b.length≤rest.length):over (us++rest) us.length b=us++b++rest.drop b.length:=by
 unfold over;rw [List.take_left',←List.drop_drop,List.drop_left']
 all_goals rfl
theorem agi(M:SR Q σ X){b sz:Nat}{cs:List C}{fl j:Nat}{L:Loc}(z:X.H[b]?=aa (.cO sz cs fl j .loc))(y:X.cC b=aa L){ys:List C}{m:List Value}(H:A2 (CR σ X) ys m)(Y:fl≤cs.length)
  {n:Nat} (Z:cs.length+ys.length=n*sz) (q:n≤L.cap):∃ X',(storeCells ⟨L.c,cs.length,ab⟩ m).run Q X.w=.ok () X'.w∧X'.H=X.H.set b (.cO sz (cs++ys) fl (j+1) .loc)∧SR Q σ X' ∧
   Ext X.H.length X X'∧VR σ X' (.c (.sl b 0 n 0 (j+1) sz)) (.slice (aa ⟨L.c,0,ab⟩) n L.cap)∧X'.w.heap.size=X.w.heap.size∧X'.B=X.B:=by
 obtain⟨_,_,bU,l,A⟩:=M.br b L y;rw [z]at l;simp only [AI]at l;subst l;obtain⟨_,us,rest,B,I,K,U,o,J⟩:=A;have s:b<X.H.length:=(IS.1 z).1;have a:=H.len;have g:=I.len;have F:n*sz≤L.cap*sz:=alX sz q;have E:m.length≤rest.length:=by simp only [alj]at K;omega
 obtain⟨N,c,e,f,k,x⟩:=iO B m cs.length (by simp;omega);rw [g,U2 _ _ _ E]at x;rw [←g]at x;obtain⟨O,S⟩:=SR.turn M (blk':=.cO sz (cs++ys) fl (j+1) .loc) z y N c (fun i W=>by
   have hi:i<fl:=by
    rcases alO i fl with h | h
    ·exact h
    ·exact absurd W (J i h)
   have:=dZ x i;rw [g]at this ⊢;rw [this,dZ B,List.append_assoc,AT (by omega),AT (by omega)]) e f k
  (fun bU d=>⟨.cO sz (cs++ys) fl (j+1) .loc,by simp [s],by rw [z]at d;simp only [AI]at d;subst d;exact⟨rfl,.inr ⟨by omega,rfl,L,y⟩⟩⟩)
  (fun v=>⟨rfl,us++m,rest.drop m.length,by rw [g]at x ⊢;exact x,(A2.ext' σ v I).append (A2.ext' σ v H),by simp only [alj,alD]at K ⊢;omega,U,⟨n,by simpa using Z⟩,J⟩)
 refine⟨_,qD B m cs.length (by simp;omega) (A2.one H),rfl,O,S,?_,N,rfl⟩;have u:(X.H.set b (.cO sz (cs++ys) fl (j+1) .loc))[b]?=aa (.cO sz (cs++ys) fl (j+1) .loc):=by simp [s]
 simp only [VR,iq,CR,fM,u];exact⟨alk _,fun _ _=>⟨L,y,0,by omega,by omega,by simp⟩,_,_,_,rfl⟩
theorem wZ{c:Call}{sz bytes:Nat}{x y:Arg}(h:dX Q σ c (.append sz bytes x y)=ae):∃ u v t m e,c.callee=.builtin .append∧c.args=#[u,v]∧c.argTypes=#[t,m]∧mA σ x u=ae∧mA σ y v=ae ∧
  ahF Q t m e sz bytes:=by
 simp only [dX]at h;split at h
 ·rename_i u v t m B E F;simp only [If]at h;obtain⟨⟨⟨I,J⟩,l⟩,g⟩:=h;obtain⟨e,H,l⟩:=gW l;simp only [If,decide_eq_true_eq]at l;obtain⟨⟨⟨s,q⟩,d⟩,j⟩:=l;have A:∃ i z,Q.info? e=aa i∧i.zero=aa z∧z.cells.size=sz:=by
   cases hi:Q.info? e with
   | none=>simp [hi]at j
   | some i=>
    simp only [hi,Option.any_some]at j;cases b:i.zero with
    | none=>simp [b]at j| some z=>simp [b]at j;exact⟨i,z,rfl,b,j⟩
  refine⟨u,v,t,m,e,B,ZT E,ZT F,I,J,⟨H,?_,s,q,d,A⟩⟩;split at g
  ·exact⟨_,by assumption,fun k=>by simp⟩
  ·exact⟨_,by assumption,fun k=>by simp⟩
  ·simp at g
 ·simp at h
theorem Iw(W:SR Q σ X)(hB:X.B≤X.w.heap.size){a:Act}{aE:T}(hR:RR σ X aE a.tmps){o:Oper}{sz bytes:Nat}{x y:Arg}(hm:dW Q σ o (.append sz bytes x y)=ae){v:V}{H':an}
  (h:bE aE X.H (.append sz bytes x y)=aa (v,H')):gJ Q σ X v H' (execOp a.eval o):=by
 simp only [dW]at hm;split at hm
 ·rename_i c ho;obtain⟨u,v',t,t',e,h1,h2,h3,hx,hy,ht⟩:=wZ hm;have hx:=bS hR hx;have hy:=bS hR hy;simp only [bE]at h;generalize n9:a.eval u=ux at hx;generalize n_:a.eval v'=uy at hy;generalize x.ev aE=vx at hx h;generalize y.ev aE=vy at hy h;have a_:∀(r:Value) (w':World),(Builtin.append_ #[t,t'] o.type #[ux,uy]).run Q X.w=.ok r w'→(execOp a.eval o).run Q X.w=.ok (.value r) w':=by
   intro r w' hr;refine dP ho h1 fun cs=>?_;simp [builtin,h2,h3,n9,n_,hr]
  unfold bF at h;split at h
  ·simp at h
  rename_i m ys f8;rw [aS (by have:=ht.pos;omega)]at h;obtain⟨vs,c9,b_,d_,f7⟩:=yH W hy f8;obtain⟨Y,i8⟩:=SR.drew W;obtain⟨a8,_,e_,j7,_⟩:=yH Y (VR.ext' σ i8 hy) f8;have B:A2 (CR σ X) ys a8:=by
   have d9:Ext X.H.length { X with w:=X.w.drew } X:=Ext.one Y X.H.length rfl (fun _ _=>Iff.rfl) (fun _ _ _=>rfl) (fun _ _ _ _=>rfl) (fun h=>absurd h (ano _))
    (fun _ _ _=>rfl) (fun _ _=>rfl) (fun L h=>.inl ⟨L,h,rfl⟩) (alk _) rfl rfl rfl
   exact A2.ext' σ (X:={ X with w:=X.w.drew }) d9 j7
  have H:∀ {base:Option Addr} {l cap:Nat} {os:List Value} {cs:List C},ux=.slice base l cap→¬ l+m≤cap→cN (l+m) bytes=ae →
    (Builtin.firstCells sz l (.slice base l cap)).run Q X.w.drew=.ok os.toArray X.w.drew→A2 (CR σ X) cs os→cs.length=l*sz →
    gJ Q σ X (.c (.sl X.H.length 0 (l+m) 0 0 sz)) (X.H++[.cO sz (cs++ys) 0 0 .loc]) (execOp a.eval o):=by
   intro base l cap os cs hu h_ d l_ k_ j_;obtain⟨nc,rest,w',J,j,g,K⟩:=(jb ht o.type (base:=base) (l:=l) (cap:=cap) c9 b_).2 h_ d os a8 l_ e_;obtain⟨X',N,I,O,S,U,g6⟩:=UQ W hB ht.pos (cs:=cs++ys) (us:=os++a8) (k_.append B) (n:=l+m) (nc:=nc) (by rw [alj,j_,f7,alM]) K J g;exact⟨_,X',.inl (by rw [N];exact a_ _ _ (by rw [hu];exact j)),I,O,U,S,g6⟩
  have A:∀ {base:Option Addr} {l cap:Nat} {X':Wd},ux=.slice base l cap→l+m≤cap→(qB base (l*sz) vs).run Q X.w=.ok () X'.w →
    (execOp a.eval o).run Q X.w=.ok (.value (.slice base (l+m) cap)) X'.w:=by
   intro base l cap X' hu q n8;refine a_ _ _ ?_;rw [hu,(jb ht o.type (base:=base) (l:=l) (cap:=cap) c9 b_).1 q,n8];rfl
  split at h
  ·
   cases (hx:cT σ X.F X.w .aA ux);split at h
   ·rename_i Z;subst Z;simp only [AI,OF]at h;obtain⟨rfl,rfl⟩:=h;exact⟨_,X,.inl (A (X':=X) rfl (by omega) rfl),rfl,W,cT.aA,Ext.refl _ _,hB⟩
   ·split at h
    ·rename_i d;simp only [AI,OF]at h;obtain⟨rfl,rfl⟩:=h;have:=H (base:=ab) (l:=0) (cap:=0) (os:=[]) (cs:=[]) rfl (by omega) (by simpa using d) (by simp [Builtin.firstCells]) A2.nil (by simp);simpa using this
    ·simp at h
  ·
   cases (hx:cT σ X.F X.w .es ux);rename_i ad;split at h
   ·rename_i Z;subst Z;simp only [AI,OF]at h;obtain⟨rfl,rfl⟩:=h;have i6:vs=[]:=alx (by rw [←d_.len,f7];simp);exact⟨_,X,.inl (A (X':=X) rfl (by omega) (by rw [i6];rfl)),rfl,W,cT.es _,Ext.refl _ _,hB⟩
   ·split at h
    ·rename_i d;simp only [AI,OF]at h;obtain⟨rfl,rfl⟩:=h;have:=H (base:=aa ad) (l:=0) (cap:=0) (os:=[]) (cs:=[]) rfl (by omega) (by simpa using d) (by simp [Builtin.firstCells,loadCells,loadCellsFrom]) A2.nil (by simp);simpa using this
    ·simp at h
  ·rename_i b a7 l cap ep s;have i7:CR σ X (.sl b a7 l cap ep s) ux:=hx;simp only [VR,iq,CR,fM]at hx;split at h
   ·
    rename_i cs fl F;rw [F]at hx;obtain⟨L,hL,o5,rfl⟩:=hx;split at h
    ·rename_i q;split at h
     ·rename_i hc;simp only [AI,OF]at h;obtain⟨rfl,rfl⟩:=h;obtain⟨X',N,I,O,S,U,g6,g7⟩:=Ak W F hL d_ hc.1 hc.2;refine⟨_,X',.inl (A rfl q (by simp only [qB,ed];exact N)),I,O,?_,S,by omega⟩;have c_:X'.H[b]?=aa (.box (over cs (a7+l*sz) ys) fl):=by rw [I];simp [(IS.1 F).1]
      simp only [VR,iq,CR,fM,c_];exact⟨L,by rw [U];exact hL,q,rfl⟩
     ·simp at h
    ·rename_i h_;split at h
     ·rename_i hc;simp only [AI,OF]at h;obtain⟨rfl,rfl⟩:=h;have i3:cS X.H sz (.sl b a7 l cap ep s)=aa ((cs.drop a7).take (l*sz)):=by simp [cS,F,hc.2]
      have i4:bh X.H (.sl b a7 l cap ep s)=aa l:=by simp [bh,F]
      obtain⟨os,q1,q2,q3⟩:=lT Y (CR.ext' σ i8 i7) i4 i3;have i9:A2 (CR σ X) ((cs.drop a7).take (l*sz)) os:=by
       have d9:Ext X.H.length { X with w:=X.w.drew } X:=Ext.one Y X.H.length rfl (fun _ _=>Iff.rfl) (fun _ _ _=>rfl) (fun _ _ _ _=>rfl) (fun h=>absurd h (ano _))
        (fun _ _ _=>rfl) (fun _ _=>rfl) (fun L h=>.inl ⟨L,h,rfl⟩) (alk _) rfl rfl rfl
       exact A2.ext' σ (X:={ X with w:=X.w.drew }) d9 q2
      exact H rfl h_ hc.1 q1 i9 q3
     ·simp at h
   ·
    rename_i s' cs fl e' st F;rw [F]at hx;split at h
    ·rename_i hc;obtain⟨rfl,rfl,rfl⟩:=hc;have M:=hx.2.1 rfl rfl;split at h
     ·
      rename_i Z;subst Z;simp only [AI,OF]at h;obtain⟨rfl,rfl⟩:=h;have i6:vs=[]:=alx (by rw [←d_.len,f7];simp);obtain⟨base,n,cp,E⟩:=hx.2.2;have n6:n=l∧l≤cp:=by
       cases st with
       | loc=>obtain⟨L,_,k,_,hk,h8⟩:=M;rw [E]at h8;simp only [Value.slice.injEq]at h8;omega
       | nil=>obtain⟨_,rfl,h8⟩:=M;rw [E]at h8;simp only [Value.slice.injEq]at h8;omega
       | es=>obtain⟨_,rfl,_,h8⟩:=M;rw [E]at h8;simp only [Value.slice.injEq]at h8;omega
      obtain⟨rfl,o4⟩:=n6;refine⟨.slice base (n+0) cp,X,.inl (A (X':=X) E (by omega) (by rw [i6];cases base<;>rfl)),rfl,W,?_,Ext.refl _ _,hB⟩;rw [Nat.add_zero,←E];exact i7
     ·rename_i Z;split at h
      ·
       rename_i hc;obtain⟨rfl,z,i_⟩:=hc;split at h
       ·rename_i d;simp only [AI,OF]at h;obtain⟨rfl,rfl⟩:=h;have hn:cs.length+ys.length=(l+m)*s:=by rw [f7,←z,alM]
        cases st with
        | loc=>
         obtain⟨L,hL,k,m_,hk,rfl⟩:=M;have j4:k=0:=by
          rcases anr.1 m_.symm with h8 | h8
          ·exact h8
          ·have:=ht.pos;omega
         subst j4;rw [Nat.sub_zero]at *;by_cases q:l+m≤L.cap
         ·obtain⟨X',N,I,O,S,U,g6,g7⟩:=agi W F hL d_ i_ hn q;exact⟨_,X',.inl (A rfl q (by simp only [qB,ed];rw [z,amb];exact N)),I,O,U,S,by omega⟩
         ·have i3:cS X.H s (.sl b 0 l cap ep s)=aa ((cs.drop 0).take (l*s)):=by simp [cS,F,z]
          have i4:bh X.H (.sl b 0 l cap ep s)=aa l:=by simp [bh,F]
          obtain⟨os,q1,q2,q3⟩:=lT Y (CR.ext' σ i8 i7) i4 i3;have i9:A2 (CR σ X) cs os:=by
           have d9:Ext X.H.length { X with w:=X.w.drew } X:=Ext.one Y X.H.length rfl (fun _ _=>Iff.rfl) (fun _ _ _=>rfl) (fun _ _ _ _=>rfl) (fun h=>absurd h (ano _))
            (fun _ _ _=>rfl) (fun _ _=>rfl) (fun L h=>.inl ⟨L,h,rfl⟩) (alk _) rfl rfl rfl
           have:=A2.ext' σ (X:={ X with w:=X.w.drew }) d9 q2;rwa [amd,z,List.take_length]at this
          obtain⟨nc,rest,w',J,j,g,K⟩:=(jb ht o.type (base:=aa ⟨L.c,0,ab⟩) (l:=l) (cap:=L.cap) c9 b_).2 q d os a8 q1 e_;obtain⟨X',N,I,O,S,U,g6⟩:=wM W hB F i9 B ht.pos hn K J g;exact⟨_,X',.inl (by rw [N];exact a_ _ _ (by simpa using j)),I,O,U,S,g6⟩
        | nil=>
         obtain⟨_,rfl,rfl⟩:=M;have g_:cs=[]:=alx (by simpa using z.symm);subst g_;obtain⟨nc,rest,w',J,j,g,K⟩:=(jb ht o.type (base:=ab) (l:=0) (cap:=0) c9 b_).2 (by omega) d [] a8 (by simp [Builtin.firstCells]) e_;obtain⟨X',N,I,O,S,U,g6⟩:=wM W hB F (us:=[]) A2.nil B ht.pos hn K J g;exact⟨_,X',.inl (by rw [N];exact a_ _ _ j),I,O,U,S,g6⟩
        | es=>
         obtain⟨_,rfl,ad,rfl⟩:=M;have g_:cs=[]:=alx (by simpa using z.symm);subst g_;obtain⟨nc,rest,w',J,j,g,K⟩:=(jb ht o.type (base:=aa ad) (l:=0) (cap:=0) c9 b_).2 (by omega) d [] a8 (by simp [Builtin.firstCells,loadCells,loadCellsFrom]) e_;obtain⟨X',N,I,O,S,U,g6⟩:=wM W hB F (us:=[]) A2.nil B ht.pos hn K J g;exact⟨_,X',.inl (by rw [N];exact a_ _ _ j),I,O,U,S,g6⟩
       ·simp at h
      ·split at h
       ·
        rename_i hc;obtain⟨rfl,j3,m9⟩:=hc;simp only [AI,OF]at h;obtain⟨rfl,rfl⟩:=h;obtain⟨L,hL,k,rfl,hk,rfl⟩:=M;obtain⟨_,_,bU,f_,j9⟩:=W.br b L hL;rw [F]at f_;simp only [AI]at f_;subst f_;obtain⟨_,us,rest,hr,j8,h6,h7,h8,o0⟩:=j9;have q:l+m≤L.cap-k:=by
         have e1:(k+(l+m))*s≤L.cap*s:=by
          rw [alM,alM];have:=j8.len;simp only [alj]at h6;omega
         have:=Nat.le_of_mul_le_mul_right e1 h7;omega
        obtain⟨X',N,I,O,S,U,g6,g7⟩:=Al W F hL d_ j3 m9;refine⟨_,X',.inl (A rfl q (by simp only [qB,ed];exact N)),I,O,?_,S,by omega⟩;have c_:X'.H[b]?=aa (.cO s (over cs (k*s+l*s) ys) fl ep .loc):=by rw [I];simp [(IS.1 F).1]
        simp only [VR,iq,CR,fM,c_];exact⟨alk _,fun _ _=>⟨L,by rw [U];exact hL,k,rfl,by omega,rfl⟩,_,_,_,rfl⟩
       ·simp at h
    ·simp at h
   ·simp at h
  ·simp at h
 ·simp at hm
end
section
variable{Q:Program}{σ:Nat→FuncId}{X:Wd}
theorem A3{c:Call}{sz bytes:Nat}{zs:List FC}{x y:Arg}(h:dX Q σ c (.mu sz bytes zs x y)=ae):∃ u v t j e k,c.callee=.builtin .append∧c.args=#[u,v]∧c.argTypes=#[t,j]∧mA σ x u=ae∧mA σ y v=ae ∧
  Q.underlying t=aa (.slice e)∧dH Q e sz=ae∧mS Q e bytes=ae∧0<sz∧kY Q e zs=ae∧Q.underlying j=aa (.int k):=by
 simp only [dX]at h;split at h
 ·rename_i u v t j q s z;simp only [If]at h;obtain⟨⟨⟨E,F⟩,g⟩,d⟩:=h;obtain⟨e,B,g⟩:=gW g;simp only [If,decide_eq_true_eq]at g;obtain⟨⟨⟨m,l⟩,b⟩,H⟩:=g;split at d
  ·rename_i k A;exact⟨u,v,t,j,e,k,q,ZT s,ZT z,E,F,B,m,l,b,H,A⟩
  ·simp at d
 ·simp at h
theorem VQ{n:Nat}(h:n<2 ^ 48):IntKind.i64.wrap (n:Int)=n:=by
 simp only [IntKind.wrap,IntKind.bits,IntKind.signed];have b:(2 ^ 64:Int)=18446744073709551616:=by decide
 have d:(2 ^ (64-1):Int)=9223372036854775808:=by decide
 have g:(2:Nat) ^ 48=281474976710656:=by decide
 simp only [b,d,amm,decide_eq_true_eq];split<;>omega
theorem tD{t Z e:TypeId}{sz bytes:Nat}{k k':IntKind}(c:Q.underlying t=aa (.slice e))(A:Q.underlying Z=aa (.int k))(x:dH Q e sz=ae)(F:mS Q e bytes=ae)(a:0<sz)
  {z:Value} {us:List Value} {i:TypeInfo} (hi:Q.info? e=aa i) (r:i.zero=aa z) (U:z.cells=us.toArray) (N:us.length=sz) (f:TypeId) {base:Option Addr} {n:Nat} {w:World} :
  (n=0→(Builtin.append_ #[t,Z] f #[.slice base 0 0,.int k' (n:Int)]).run Q w=.ok (.slice base 0 0) w) ∧
  (n≠0→cN n bytes=ae→∃ nc rest w',n≤nc∧(Builtin.append_ #[t,Z] f #[.slice base 0 0,.int k' (n:Int)]).run Q w=.ok (.slice (aa ⟨w.heap.size,0,ab⟩) n nc) w' ∧
   dY w w' (.cells (cM n us++rest).toArray e)∧rest.length=(nc-n)*sz):=by
 obtain⟨g,l,s⟩:=xD F w;have u:g=i:=by simp [typeInfo,hi]at l;exact l.symm
 subst u;have y:∀ w',(typeInfo e).run Q w'=.ok g w':=fun w'=>by simp [typeInfo,hi]
 have Y:∀ w',(zeroValue e).run Q w'=.ok z w':=fun w'=>by simp [zeroValue,typeInfo,hi,r]
 have j:∀(q:Int) w',(asInt (.int k' q)).run Q w'=.ok q w':=fun q w'=>by simp [asInt,asIntOf]
 constructor
 ·rintro rfl;have O:IntKind.i64.wrap 0=0:=by decide
  simp only [Builtin.append_,anh];simp [a5 c,a5 A,di x,y,j,O];cases base<;>simp [storeCells]
 ·intro hn b;have E:=b;unfold cN at b;simp only [If,decide_eq_true_eq]at b;have S:=VQ b.2;have K:¬ (Builtin.nextslicecap n 0*g.bytes>2 ^ 48):=by
   rw [s];have:=te (need:=n) (cap:=0) (by omega);have:=alX bytes this;omega
  let nc:=(Question.appendCap n 0 e).cut (w.tape w.drawn (.appendCap n 0 e))
  have L:n≤nc:=by simp [nc,Question.cut]
  have H:(choose (.appendCap n 0 e)).run Q w=.ok nc w.drew:=by
   simp [choose,Sem.run,Question.forced,nc]
  have X:∀ m,Builtin.zeroCells z.cells m=(cM m us).toArray:=fun m=>by
   have:=im us m (by omega);simpa [Builtin.zeroCells,U]using this
  have v:¬ ((n:Int)>IntKind.i64.max):=by
   have:IntKind.i64.max=9223372036854775807:=by decide
   have e3:(2:Nat) ^ 48=281474976710656:=by decide
   rw [this];omega
  have I:¬ ((n:Int)<0):=by omega
  have J:¬ ((n:Int)*(g.bytes:Int)>2 ^ 48):=by
   rw [s];have o:n*bytes≤2 ^ 48:=alL (alX bytes (by omega:n≤2*n+768)) b.1;have p:((n*bytes:Nat):Int)≤2 ^ 48:=by
    have B:((2 ^ 48:Nat):Int)=2 ^ 48:=by decide
    rw [←B];exact Int.ofNat_le.2 o
   rw [ane]at p;omega
  have d:(Builtin.firstCells sz 0 (.slice base 0 0)).run Q w.drew=.ok #[] w.drew:=by
   cases base<;>simp [Builtin.firstCells,loadCells,loadCellsFrom]
  have M:¬ (n*sz=0):=by
   intro h;rcases anr.1 h with h | h<;>omega
  refine⟨nc,cM (nc-n) us,w.drew.alloc (.cells (cM n us++cM (nc-n) us).toArray e),L,?_,⟨rfl,rfl,rfl,rfl⟩,by rw [kS,N]⟩;have W:¬ (n≤0):=by omega
  have hint:((n:Int)).toNat=n:=by simp
  simp only [Builtin.append_,Sem.run_bind,a5 c,a5 A,di x,Result.andThen_ok,Sem.run_pure,alE,if_false,Sem.run_ite,y,false_and,K,H,run_askRoom,
   Bool.not_true,if_true,Y,X,newRow,run_newObj,anh,amZ,anc,j,S,I,J,hint,amb,W,v,M,d,true_or,and_true,Bool.true_eq]
  have B:#[]++(cM n us).toArray++(cM (nc-n) us).toArray=(cM n us++cM (nc-n) us).toArray:=by simp
  first
   | (rw [B];rfl)
   | (simp [B];rfl)
theorem ZS(U:SR Q σ X)(S:X.B≤X.w.heap.size){a:Act}{aE:T}(hR:RR σ X aE a.tmps){o:Oper}{sz bytes:Nat}{zs:List FC}{x y:Arg}(N:dW Q σ o (.mu sz bytes zs x y)=ae){v:V}{H':an}
  (h:bE aE X.H (.mu sz bytes zs x y)=aa (v,H')):gJ Q σ X v H' (execOp a.eval o):=by
 simp only [dW]at N;split at N
 ·rename_i c ho;obtain⟨u,v',t,t',e,k,h1,h2,h3,J,L,f,F,s,g,hz,W⟩:=A3 N;have J:=bS hR J;have L:=bS hR L;simp only [bE]at h;generalize i:a.eval u=O at J;generalize p:a.eval v'=uy at L;generalize x.ev aE=vx at J h;generalize y.ev aE=vy at L h;have l:∀(r:Value) (w':World),(Builtin.append_ #[t,t'] o.type #[O,uy]).run Q X.w=.ok r w'→(execOp a.eval o).run Q X.w=.ok (.value r) w':=by
   intro r w' hr;refine dP ho h1 fun cs=>?_;simp [builtin,h2,h3,i,p,hr]
  unfold yL at h;split at h
  ·rename_i n hn;obtain⟨k',E⟩:=iE L hn;split at h
   ·rename_i hc;obtain⟨z,us,a7,I,M,i0,A,B⟩:=eV (σ:=σ) (X:=X) hz X.w;have H:us.length=sz:=by have:=M.len;simp at this;omega
    obtain⟨m,rfl⟩:∃ m:Nat,n=m:=⟨n.toNat,by omega⟩
    have j:∀ base,O=.slice base 0 0→(v,H')=(.c (.sl X.H.length 0 m 0 0 sz),X.H++[.cO sz ((cM m zs).map .f) 0 0 .loc])→m≠0→cN m bytes=ae→gJ Q σ X v H' (execOp a.eval o):=by
     intro base hb he d b;cases he;obtain⟨nc,rest,w',Y,K,q,Z⟩:=(tD (k':=k') f W F s g A B I H o.type (base:=base) (n:=m)).2 d b;obtain⟨X',g1,g2,g3,g4,g5,g6⟩:=UQ U S g (cs:=(cM m zs).map .f) (us:=cM m us) (je M m) (n:=m) (nc:=nc) (by rw [alq,kS,hc.2]) Z Y q;exact⟨_,X',.inl (by rw [g1];exact l _ _ (by rw [hb,E];exact K)),g2,g3,g5,g4,g6⟩
    split at h
    ·cases (J:cT σ X.F X.w .aA O);simp only [alJ]at h;split at h
     ·rename_i d;simp only [AI,OF]at h;obtain⟨rfl,rfl⟩:=h;exact⟨_,X,.inl (l _ _ (by rw [E];exact(tD (k':=k') f W F s g A B I H o.type (base:=ab) (n:=m)).1 d)),rfl,U,cT.aA,Ext.refl _ _,S⟩
     ·rename_i d;split at h
      ·rename_i b;simp only [AI]at h;exact j ab rfl h.symm d b
      ·simp at h
    ·cases (J:cT σ X.F X.w .es O);rename_i w;simp only [alJ]at h;split at h
     ·rename_i d;simp only [AI,OF]at h;obtain⟨rfl,rfl⟩:=h;exact⟨_,X,.inl (l _ _ (by rw [E];exact(tD (k':=k') f W F s g A B I H o.type (base:=aa w) (n:=m)).1 d)),rfl,U,cT.es _,Ext.refl _ _,S⟩
     ·rename_i d;split at h
      ·rename_i b;simp only [AI]at h;exact j (aa w) rfl h.symm d b
      ·simp at h
    ·simp at h
   ·simp at h
  ·simp at h
 ·simp at N
end
section
variable{Q:Program}{σ:Nat→FuncId}{X:Wd}
theorem afW(s:SR Q σ X)(m:X.B≤X.w.heap.size){a:Act}{aE:T}{o:Oper}{st:Os}{sz:Nat}(d:dW Q σ o (.pre st sz)=ae){v:V}{H':an}
  (h:bE aE X.H (.pre st sz)=aa (v,H')):gJ Q σ X v H' (execOp a.eval o):=by
 cases st with
 | nil=>
  simp only [bE]at h;split at h
  ·simp at h
  ·simp only [AI,OF]at h;obtain⟨rfl,rfl⟩:=h;obtain⟨j,l⟩:=SR.grow s (.cO sz [] 0 0 .nil);have q:VR σ { X with H:=X.H++[.cO sz [] 0 0 .nil] } (.c (.sl X.H.length 0 0 0 0 sz)) (.slice ab 0 0):=by
    have b:(X.H++[b7.cO sz [] 0 0 .nil])[X.H.length]?=aa (.cO sz [] 0 0 .nil):=by simp
    simp only [VR,iq,CR,fM,b];exact⟨alk _,fun _ _=>by simp,_,_,_,rfl⟩
   simp only [dW]at d;split at d
   ·rename_i g;exact⟨.slice ab 0 0,_,.inl (by simp [execOp,g,Act.eval]),rfl,j,q,l,m⟩
   ·rename_i g;exact⟨.slice ab 0 0,_,.inl (by simp [execOp,g,Act.eval]),rfl,j,q,l,m⟩
   ·simp at d
 | _=>simp [dW]at d
theorem UO(u:SR Q σ X)(s:X.B≤X.w.heap.size){a:Act}{o:Oper}(b:dW Q σ o .kM=ae):gJ Q σ X (.c (.mp X.H.length)) (X.H++[.map []]) (execOp a.eval o):=by
 simp only [dW]at b;split at b
 ·rename_i t v;obtain⟨X',g,d,j,l,m,q⟩:=SR.new u s (.map []) (dY.alloc X.w (.map #[] 0)) 0 fun X' z x y _=>⟨[],by rw [x];exact(dY.alloc _ _).new,A2.nil,by simp⟩
  exact⟨.map (aa X.w.heap.size),X',.inl (by rw [g];simp [execOp,v,Instr.makeMap]),d,j,⟨_,m,⟨[],by rw [d];simp⟩,rfl⟩,l,q⟩
 ·simp at b
theorem Vl(E:SR Q σ X)(A:X.B≤X.w.heap.size){a:Act}{aE:T}(B:RR σ X aE a.tmps){o:Oper}{x:Arg}(d:dW Q σ o (.range x)=ae){v:V}{H':an}
  (h:bE aE X.H (.range x)=aa (v,H')):gJ Q σ X v H' (execOp a.eval o):=by
 simp only [dW]at d;split at d
 ·rename_i t y F;simp only [If]at d;obtain⟨b,j⟩:=d;have b:=bS B b;simp only [bE]at h;split at h
  ·rename_i s H;rw [H]at b;have b:=VR.str b;simp only [AI,OF]at h;obtain⟨rfl,rfl⟩:=h;split at j
   ·rename_i I;obtain⟨X',l,g,m,q,u,z⟩:=SR.new E A (.it s 0) (dY.alloc X.w (.stringIter s 0)) 0 fun X' b J K _=>by
     show X'.w.heap[X.w.heap.size]?=_;rw [J];exact(dY.alloc _ _).new
    exact⟨.pointer (aa ⟨X.w.heap.size,0,ab⟩),X',.inl (by rw [l];simp [execOp,F,Instr.range,a5 I,b]),g,m,⟨_,u,⟨s,0,by rw [g];simp⟩,rfl⟩,q,z⟩
   ·simp at j
  ·simp at h
 ·simp at d
theorem SR.pK(s:SR Q σ X){b:Nat}{bU blk':b7}{L:Loc}{o o':Obj}(hb:X.H[b]?=aa bU)(q:X.cC b=aa L)(ho:X.w.heap[L.c]?=aa o)(m:∀ c e f,o≠.cells c e f)(j:∀ c e f,o'≠.cells c e f)
  (d:mc X { X with H:=X.H.set b blk',w:={ X.w with heap:=X.w.heap.setIfInBounds L.c o' } } b)
  (l:∀ X',Ext X.H.length X X'→X'.w.heap[L.c]?=aa o'→X'.F=X.F→X'.cC=X.cC→X'.H=X.H.set b blk'→BR Q σ X' blk' L) :
  SR Q σ { X with H:=X.H.set b blk',w:={ X.w with heap:=X.w.heap.setIfInBounds L.c o' } }∧Ext X.H.length X { X with H:=X.H.set b blk',w:={ X.w with heap:=X.w.heap.setIfInBounds L.c o' } }:=by
 have g:L.c<X.w.heap.size:=(s.br b L q).2.1;refine SR.turn s hb q (by simp) (fun k x=>by simp [Array.getElem?_setIfInBounds_ne (Ne.symm x)]) (fun i _=>?_) rfl rfl rfl d (fun y=>l _ y (by simp [g]) rfl rfl rfl);have u:({ X.w with heap:=X.w.heap.setIfInBounds L.c o' }:World).cell? ⟨L.c,i,ab⟩=ab:=by
  simp only [World.cell?];rw [show(X.w.heap.setIfInBounds L.c o')[L.c]?=aa o' by simp [g]];cases o'<;>simp at j ⊢
 have v:X.w.cell? ⟨L.c,i,ab⟩=ab:=by
  simp only [World.cell?,ho];cases o<;>simp at m ⊢
 rw [u,v]
theorem aaT(q:SR Q σ X)(A:X.B≤X.w.heap.size){a:Act}{aE:T}(M:RR σ X aE a.tmps){o:Oper}{x:Arg}(m:dW Q σ o (.next x)=ae){v:V}{H':an}
  (h:bE aE X.H (.next x)=aa (v,H')):gJ Q σ X v H' (execOp a.eval o):=by
 simp only [dW]at m;split at m
 ·rename_i y E;have H:=bS M m;simp only [bE]at h;unfold acj at h;split at h
  ·rename_i b O;rw [O]at H;obtain⟨L,B,⟨U,S,N⟩,F⟩:=H;split at h
   ·rename_i s pos l;obtain⟨_,_,bU,j,u⟩:=q.br b L B;rw [l]at j;simp only [AI]at j;subst j;have g:X.w.heap[L.c]?=aa (.stringIter s pos):=u;split at h
    ·rename_i z;simp only [AI,OF]at h;obtain⟨rfl,rfl⟩:=h;obtain⟨I,J⟩:=SR.pK (o':=.stringIter s (pos+(Utf8.decode s pos).2)) (blk':=.it s (pos+(Utf8.decode s pos).2)) q l B g (by simp) (by simp)
      (fun bU d=>⟨.it s (pos+(Utf8.decode s pos).2),by simp [(IS.1 l).1],by rw [l]at d;simp only [AI]at d;subst d;exact fun L h=>h⟩)
      (fun X' _ K _ _ _=>K)
     refine⟨.tuple #[.bool ae,.int .i64 pos,.int .i32 (Utf8.decode s pos).1],_,.inl ?_,rfl,I,⟨[.bool ae,.int .i64 pos,.int .i32 (Utf8.decode s pos).1],rfl,?_⟩,J,by simpa using A⟩
     ·simp only [execOp,E];refine ef ?_;simp [Instr.next,F,getObj,setObj,Sem.run,g,z,goInt]
     ·exact A2.cons (cT.bool _) (A2.cons (cT.int _ _) (A2.cons (cT.int _ _) A2.nil))
    ·rename_i z;simp only [AI,OF]at h;obtain⟨rfl,rfl⟩:=h;refine⟨.tuple #[.bool ag],X,.inl ?_,rfl,q,⟨[.bool ag],rfl,A2.cons (cT.bool _) A2.nil⟩,Ext.refl _ _,A⟩;simp only [execOp,E];refine ef ?_;simp [Instr.next,F,getObj,Sem.run,g,z]
   ·simp at h
  ·simp at h
 ·simp at m
theorem zM{s:CK}{d:TypeDesc}(z:(s=.int∧∃ j,d=.int j)∨(s=.str∧d=.string)∨(s=.bool∧d=.bool)){F:Nat→Nat→Prop}{w:World}{k:FC}{v:C}{x:Value}(B:cT σ F w k x) :
  ∀ {R:C→Value→Prop} {l g:List (FC × C)} {b:List MapEntry},A2 (fun e m=>cT σ F w e.1 m.key∧R e.2 m.val) l b→∀(i:Nat),qX s k v l=aa g →
  (Instr.findNow d x b i=aa ab∧g=l++[(k,v)])∨∃(j:Nat) (u:Value) (m:MapEntry),Instr.findNow d x b i=aa (aa (i+j,u))∧b[j]?=aa m∧Instr.sameNow d x m.key=aa ae∧g=l.set j (k,v)
 | _,[],g,[],_,i,h=>by
  simp only [qX,AI]at h;subst h;exact .inl ⟨rfl,rfl⟩
 | _,[],_,_::_,q,_,_=>by have:=q.len;simp at this
 | _,_::_,_,[],q,_,_=>by have:=q.len;simp at this
 | _,e::l,g,m::b,q,i,h=>by
  obtain⟨⟨H,N⟩,E⟩:=q.of_cons;simp only [qX]at h;split at h
  ·rename_i A;simp only [AI]at h;subst h;have:=sJ z B H A;exact .inr ⟨0,m.val,m,by simp [Instr.findNow,this],rfl,this,rfl⟩
  ·rename_i A;simp only [IN]at h;obtain⟨I,J,rfl⟩:=h;have:=sJ z B H A;rcases zM z B E (i+1) J with⟨y,rfl⟩ | ⟨j,u,M,y,K,L,rfl⟩
   ·exact .inl ⟨by simp [Instr.findNow,this,y],rfl⟩
   ·exact .inr ⟨j+1,u,M,by simp [Instr.findNow,this,y];omega,by simpa using K,L,rfl⟩
  ·simp at h
theorem z9{d:TypeDesc}{u v:Value}(h:Instr.sameNow d u v=aa ae)(n:Nat):Instr.sameBits n v u=ae:=by
 unfold Instr.sameNow at h;split at h
 ·split at h
  ·rename_i b;subst b;simp only [AI,beq_iff_eq]at h;subst h;simp [Instr.sameBits]
  ·simp at h
 ·simp only [AI,beq_toListBytes,beq_iff_eq]at h;simp [Instr.sameBits,beq_toListBytes,h]
 ·simp only [AI,beq_iff_eq]at h;subst h;simp [Instr.sameBits]
 ·simp at h
theorem ahP{c:C}{u:Value}(h:VR σ X (mV c) u):iq σ X (mV c) u:=by
 cases c
 case cl f cs=>
  simp only [mV]at h ⊢;split at h
  ·rename_i b;rw [ba b];exact h
  ·rename_i b;rw [aS b];exact h
 all_goals exact h
theorem UI(hS:SR Q σ X)(hB:X.B≤X.w.heap.size){a:Act}{aE:T}(hR:RR σ X aE a.tmps){o:Oper}{ck:CK}{x y z:Arg}(E:dW Q σ o (.mh ck x y z)=ae){v:V}{H':an}
  (h:bE aE X.H (.mh ck x y z)=aa (v,H')):gJ Q σ X v H' (execOp a.eval o):=by
 simp only [dW]at E;split at E
 ·rename_i t x' M Y ho;simp only [If]at E;obtain⟨⟨⟨hx,K⟩,W⟩,ht⟩:=E;have hx:=bS hR hx;have K:=bS hR K;have W:=bS hR W;split at ht
  ·rename_i kt e hu;simp only [bE]at h;split at h
   ·rename_i b k vv c_ f7 g_;rw [c_]at hx;rw [f7]at K;rw [←UG g_]at W;have W:iq σ X (mV vv) (a.eval Y):=ahP W;obtain⟨L,hL,_,c9⟩:=hx;split at h
    ·rename_i es hb;split at h
     ·rename_i a8;simp only [IN,OF]at h;obtain⟨F,hp,rfl,rfl⟩:=h;obtain⟨_,_,bU,N,d_⟩:=hS.br b L hL;rw [hb]at N;simp only [AI]at N;subst N;obtain⟨q,I,h2,B⟩:=d_;have go:∀ d,Q.underlying kt=aa d→((ck=.int∧∃ j,d=.int j)∨(ck=.str∧d=.string)∨(ck=.bool∧d=.bool))→gJ Q σ X .top (X.H.set b (.map F)) (execOp a.eval o):=by
       intro d A hd;have a7:∀(l:List MapEntry),(Instr.mapUpdate t (a.eval x') (a.eval M) (a.eval Y)).run Q X.w=.ok () { X.w with heap:=X.w.heap.setIfInBounds L.c (.map l.toArray l.length) } →
         A2 (fun(e:FC × C) (m:MapEntry)=>cT σ X.F X.w e.1 m.key∧iq σ X (mV e.2) m.val) F l→(∀(i:Nat) m,l[i]?=aa m→m.born=i)→gJ Q σ X .top (X.H.set b (.map F)) (execOp a.eval o):=by
        intro l b_ hA d9;obtain⟨g1,g2⟩:=SR.pK (o':=.map l.toArray l.length) (blk':=.map F) hS hb hL I (by simp) (by simp)
         (fun bU H=>⟨.map F,by simp [(IS.1 hb).1],by rw [hb]at H;simp only [AI]at H;subst H;exact fun L h=>h⟩)
         (fun X' U h1 hF _ _=>⟨l,h1,hA.ld fun e m h=>⟨cT.mono U.F U.fw h.1,iq.ext' σ U h.2⟩,d9⟩)
        exact⟨undef,_,.inr ⟨by simp [execOp,ho,b_],rfl⟩,rfl,g1,trivial,g2,by simpa using hB⟩
       rcases zM (R:=fun c u=>iq σ X (mV c) u) hd K h2 0 hp with⟨J,rfl⟩ | ⟨j,u,m,J,Z,h6,rfl⟩
       ·have O:A2 (fun(e:FC × C) (m:MapEntry)=>cT σ X.F X.w e.1 m.key∧iq σ X (mV e.2) m.val) [(k,vv)] [({ key:=a.eval M,val:=a.eval Y,born:=q.length }:MapEntry)]:=A2.cons (And.intro K W) A2.nil;refine a7 (q++[{ key:=a.eval M,val:=a.eval Y,born:=q.length }]) ?_ (h2.append O) ?_
        rotate_left
        ·intro i m E;by_cases hi:i<q.length
         ·rw [AT hi]at E;exact B i m E
         ·rw [List.getElem?_append_right (by omega)]at E;have e_:i-q.length=0:=by
           have:=(IS.1 E).1;simp at this;omega
          rw [e_]at E;simp only [amZ,AI]at E;subst E;simp only;omega
        simp [Instr.mapUpdate,a5 hu,c9,getObj,setObj,Sem.run,I,ie ht K a8,Instr.findKey,a5 A,J]
       ·rw [amb]at J;refine a7 (q.set j { m with key:=a.eval M,val:=a.eval Y }) ?_ ?_ ?_
        ·have f_:(Instr.keyThatStays m.key (a.eval M)).run Q X.w=.ok (a.eval M) X.w:=by
          simp [Instr.keyThatStays,z9 h6 10000]
         have a_:q.modify j (fun e=>{ e with key:=a.eval M,val:=a.eval Y })=q.set j { m with key:=a.eval M,val:=a.eval Y }:=by
          apply List.ext_getElem?;intro i;simp only [List.getElem?_modify,ani];by_cases s:j=i
          ·subst s;have S:=(IS.1 Z).1;have f8:=(IS.1 Z).2;simp [Z,S,f8]
          ·simp [s]
         simp [Instr.mapUpdate,a5 hu,c9,getObj,setObj,Sem.run,I,ie ht K a8,Instr.findKey,a5 A,J,Z,f_,a_]
        ·refine⟨by simpa using h2.len,fun i e' m' he g=>?_⟩;rw [ani]at he g;split at he
         ·rename_i s;subst s;simp only [if_true]at g;have S:=(IS.1 Z).1;have h_:=h2.len;rw [ba (by omega)]at he;rw [ba S]at g;simp only [AI]at he g;subst he;subst g;exact⟨K,W⟩
         ·rename_i s;rw [aS s]at g;exact h2.2 i e' m' he g
        ·intro i m' g;rw [ani]at g;split at g
         ·rename_i s;subst s;split at g
          ·simp only [AI]at g;subst g;exact B j m Z
          ·simp at g
         ·exact B i m' g
      rcases lN ht with⟨J,j,A⟩ | ⟨J,A⟩ | ⟨J,A⟩
      ·exact go _ A (.inl ⟨J,j,rfl⟩)
      ·exact go _ A (.inr (.inl ⟨J,rfl⟩))
      ·exact go _ A (.inr (.inr ⟨J,rfl⟩))
     ·simp at h
    ·simp at h
   ·simp at h
  ·simp at ht
 ·simp at E
theorem zE{c:Call}{sz:Nat}{zs:List FC}{x:Arg}(h:dX Q σ c (.clear sz zs x)=ae):∃ y t e,c.callee=.builtin .clear∧c.args=#[y]∧c.argTypes=#[t]∧mA σ x y=ae∧Q.underlying t=aa (.slice e)∧dH Q e sz=ae∧kY Q e zs=ae:=by
 simp only [dX]at h;split at h
 ·rename_i y t d g j;simp only [If]at h;obtain⟨m,b⟩:=h;obtain⟨e,l,b⟩:=gW b;simp only [If]at b;exact⟨y,t,e,d,tW g,tW j,m,l,b.1,b.2⟩
 ·simp at h
theorem T2(hS:SR Q σ X)(hB:X.B≤X.w.heap.size){a:Act}{aE:T}(hR:RR σ X aE a.tmps){o:Oper}{sz:Nat}{zs:List FC}{x:Arg}(J:dW Q σ o (.clear sz zs x)=ae){v:V}{H':an}
  (h:bE aE X.H (.clear sz zs x)=aa (v,H')):gJ Q σ X v H' (execOp a.eval o):=by
 simp only [dW]at J;split at J
 ·rename_i c Z;obtain⟨y,t,e,N,O,S,j,hu,d9,hz⟩:=zE J;have j:=bS hR j;simp only [bE,IN,OF]at h;obtain⟨H2,d,rfl,rfl⟩:=h;have done:VR σ X (.t []) (.tuple #[]):=⟨[],rfl,A2.nil⟩
  unfold jR at d;split at d
  ·rename_i p hp;rw [hp]at j;split at d
   ·rename_i W;simp only [AI]at d;subst d;obtain⟨K,cp,g⟩:=kX j W;refine⟨.tuple #[],X,.inl (dP Z N fun cs=>?_),rfl,hS,done,Ext.refl _ _,hB⟩;cases K<;>simp [builtin,O,S,Builtin.clear_,a5 hu,g]
   ·rename_i l Y W;obtain⟨K,cp,g⟩:=kX j W;split at d
    ·rename_i b_;obtain⟨z,us,F,H,I,_⟩:=eV (σ:=σ) (X:=X) hz X.w;have d_:us.length=zs.length:=by have:=I.len;simp at this;omega
     have u:l≠0:=fun e=>Y (by rw [e]);have key:∀(b o' A:Nat),(∃ q,CR σ X (.ptr b o' A) (.pointer (aa q))∧K=aa q)→dt X.H (.ptr b o' A) ((cM l zs).map .f)=aa H2→gJ Q σ X (.t []) H2 (execOp a.eval o):=by
      rintro b o' A ⟨q,hq,rfl⟩ a7;obtain⟨cc,e_,X',g1,M,g3,g4,g5,g6,g7⟩:=VF hS hq (je I l) a7;cases g1;by_cases c_:sz=0
      ·subst c_;have c9:zs=[]:=alx b_;have a8:us=[]:=alx (by omega);subst c9;subst a8;refine⟨.tuple #[],X',.inl (dP Z N fun cs=>?_),g3,g4,⟨[],rfl,A2.nil⟩,g5,by omega⟩;have hr:cM l ([]:List Value)=[]:=by simp [cM]
       rw [hr]at M;simp [builtin,O,S,Builtin.clear_,a5 hu,g,u,F,H,Builtin.zeroCells];cases l with
       | zero=>exact absurd rfl u| succ l=>simp [M]
      ·have a_:Builtin.zeroCells z.cells l=(cM l us).toArray:=by
        have:=im us l (by omega);simpa [Builtin.zeroCells,H]using this
       refine⟨.tuple #[],X',.inl (dP Z N fun cs=>?_),g3,g4,⟨[],rfl,A2.nil⟩,g5,by omega⟩;simp [builtin,O,S,Builtin.clear_,a5 hu,g,F,a_];cases l with
       | zero=>exact absurd rfl u| succ l=>simp [M]
     split at d
     ·rename_i b o' l' cap A s;simp only [VR,iq,CR,fM]at j;split at d
      ·rename_i cs fl B;rw [B]at j;obtain⟨L,U,_,m⟩:=j;rw [g]at m;simp only [Value.slice.injEq]at m;refine key b o' A ⟨⟨L.c,o',ab⟩,⟨L,U,by rw [B]⟩,m.1⟩ d
      ·rename_i s' cs fl e' B;split at d
       ·rename_i E;rw [B]at j;obtain⟨L,U,k,_,_,m⟩:=j.2.1 E.1 E.2;rw [g]at m;simp only [Value.slice.injEq]at m;refine key b o' A ⟨⟨L.c,o',ab⟩,⟨L,U,?_⟩,m.1⟩ d;rw [B];exact⟨j.1,fun _=>rfl,_,rfl⟩
       ·simp at d
      ·simp at d
     ·simp at d
    ·simp at d
   ·simp at d
  ·simp at d
 ·simp at J
theorem JO(B:SR Q σ X)(S:X.B≤X.w.heap.size){a:Act}{aE:T}(U:RR σ X aE a.tmps){o:Oper}{x:Arg}(l:dW Q σ o (.mN x)=ae){v:V}{H':an}
  (h:bE aE X.H (.mN x)=aa (v,H')):gJ Q σ X v H' (execOp a.eval o):=by
 simp only [dW]at l;split at l
 ·rename_i t y Y;simp only [If]at l;obtain⟨j,E⟩:=l;have j:=bS U j;simp only [bE]at h;unfold CQ at h;split at h
  ·rename_i b c;rw [c]at j;obtain⟨L,A,_,Z⟩:=j;split at h
   ·rename_i u m;split at h
    ·rename_i p;simp only [AI,OF]at h;obtain⟨rfl,rfl⟩:=h;obtain⟨_,_,bU,g,q⟩:=B.br b L A;rw [m]at g;simp only [AI]at g;subst g;obtain⟨d,H,I,_⟩:=q;split at E
     ·rename_i kt e s;obtain⟨X',J,z,K,M,N,O⟩:=SR.new B S (.zK b u.length ag) (dY.alloc X.w (.mapIter (aa L.c) d.length #[] d.length)) 0 fun X' j f k n=>by
       obtain⟨blk',i,F⟩:=j.bu b (IS.1 m).1 _ m;cases blk'<;>simp only at F;refine⟨L,#[],d.length,F L A,⟨_,i⟩,?_,rfl⟩;rw [I.len,f];exact(dY.alloc _ _).new
      refine⟨.pointer (aa ⟨X.w.heap.size,0,ab⟩),X',.inl ?_,z,K,⟨_,N,⟨b,u.length,ag,by rw [z];simp⟩,rfl⟩,M,O⟩;have W:(getObj L.c).run Q X.w=.ok (.map d.toArray d.length) X.w:=by simp [getObj,Sem.run,H]
      rw [J];simp [execOp,Y,Instr.range,a5 s,Z,W]
     ·simp at E
    ·simp at h
   ·simp at h
  ·simp at h
 ·simp at l
theorem US(s:SR Q σ X)(N:X.B≤X.w.heap.size){a:Act}{aE:T}(p:RR σ X aE a.tmps){o:Oper}{x:Arg}(E:dW Q σ o (.qY x)=ae){v:V}{H':an}
  (h:bE aE X.H (.qY x)=aa (v,H')):gJ Q σ X v H' (execOp a.eval o):=by
 simp only [dW]at E;split at E
 ·rename_i y S;have i:=bS p E;simp only [bE]at h;unfold UR at h;split at h
  ·rename_i b r;rw [r]at i;obtain⟨L,f,_,W⟩:=i;split at h
   ·rename_i m c done u;obtain⟨_,_,bU,d,l⟩:=s.br b L f;rw [u]at d;simp only [AI]at d;subst d;obtain⟨J,sn,st,M,_,B,q⟩:=l;split at h
    ·rename_i j;obtain⟨_,_,bU,d,l⟩:=s.br m J M;rw [j]at d;simp only [AI]at d;subst d;obtain⟨K,F,Z,_⟩:=l;have:K=[]:=alx Z.len.symm;subst this;split at h
     ·simp at h
     ·rename_i z;simp only [AI,OF]at h;obtain⟨rfl,rfl⟩:=h;simp only [z,alE,if_false]at q;subst q;refine⟨.tuple #[.bool ag],X,.inl ?_,rfl,s,⟨[.bool ag],rfl,A2.cons (cT.bool _) A2.nil⟩,Ext.refl _ _,N⟩;simp only [execOp,S];refine ef ?_;simp [Instr.next,W,getObj,Sem.run,B,F,Result.andThen,choose,Question.forced]
    ·rename_i e j;obtain⟨H,F,Z,w,k⟩:=Cw s M j;split at h
     ·rename_i z;simp only [AI,OF]at h;obtain⟨rfl,rfl⟩:=h;simp only [z,if_true]at q;obtain⟨rfl,rfl⟩:=q;refine⟨.tuple #[.bool ag],X,.inl ?_,rfl,s,⟨[.bool ag],rfl,A2.cons (cT.bool _) A2.nil⟩,Ext.refl _ _,N⟩;simp only [execOp,S];refine ef ?_;simp [Instr.next,W,getObj,Sem.run,B,F,k,Result.andThen,choose,Question.forced]
     ·rename_i z;split at h
      ·rename_i U;subst U;simp only [AI,OF]at h;obtain⟨rfl,rfl⟩:=h;simp only [z,alE,if_false]at q;subst q;obtain⟨q1,I⟩:=SR.pK (o':=.mapIter (aa J.c) 1 #[0] 1) (blk':=.zK m 1 ae) s u f B (by simp) (by simp)
        (fun bU g=>⟨.zK m 1 ae,by simp [(IS.1 u).1],by rw [u]at g;simp only [AI]at g;subst g;exact⟨⟨rfl,rfl⟩,fun L h=>h⟩⟩)
        (fun X' t Y _ A n=>by
         have O:b≠m:=fun e=>by rw [e,j]at u;cases u
         exact⟨J,#[0],1,by rw [A];exact M,⟨_,by rw [n,sh O];exact j⟩,Y,rfl,rfl⟩)
       refine⟨.tuple #[.bool ae,H.key,H.val],_,.inl ?_,rfl,q1,?_,I,by simpa using N⟩
       ·simp only [execOp,S];refine ef ?_;simp [Instr.next,W,getObj,setObj,Sem.run,B,F,k,Result.andThen,choose,Question.forced]
       ·exact⟨[.bool ae,H.key,H.val],rfl,A2.cons (cT.bool _) (A2.cons (cT.mono I.F I.fw Z) (A2.cons (iq.ext' σ I w) A2.nil))⟩
      ·simp at h
    ·simp at h
   ·simp at h
  ·simp at h
 ·simp at E
end
section
variable{Q:Program}{σ:Nat→FuncId}{X:Wd}
def dx(a b:b7):Prop:=
 match a with
 | .box cs fl=>(match b with
  | .box cs' d=>cs=cs'∧fl≤d
  | _=>False)
 | .cO s cs fl e st=>(match b with
  | .cO j cs' d g st'=>s=j∧cs=cs'∧fl≤d∧e=g∧st=st'
  | _=>False)
 | a=>a=b
theorem dx.refl(a:b7):dx a a:=by cases a<;>simp [dx]
theorem dx.trans{a b c:b7}(h:dx a b)(k:dx b c):dx a c:=by
 cases a<;>cases b<;>simp only [dx,reduceCtorEq]at h<;>cases c<;>simp only [dx,reduceCtorEq]at k ⊢
 ·exact⟨h.1.trans k.1,alL h.2 k.2⟩
 ·exact⟨h.1.trans k.1,h.2.1.trans k.2.1,alL h.2.2.1 k.2.2.1,h.2.2.2.1.trans k.2.2.2.1,h.2.2.2.2.trans k.2.2.2.2⟩
 all_goals exact h.trans k
def gm(H H':an):Prop:=H.length=H'.length∧∀(b:Nat) bU blk',H[b]?=aa bU→H'[b]?=aa blk'→dx bU blk'
theorem gm.refl(H:an):gm H H:=⟨rfl,fun b bU blk' h d=>by rw [h]at d;cases d;exact dx.refl _⟩
theorem gm.get{H H':an}(h:gm H H'){b:Nat}{bU:b7}(hb:H[b]?=aa bU):∃ blk',H'[b]?=aa blk'∧dx bU blk':=by
 have hl:=(IS.1 hb).1;have d:b<H'.length:=by have:=h.1;omega
 exact⟨_,By d,h.2 b _ _ hb (By d)⟩
theorem gm.trans{A B C:an}(h:gm A B)(k:gm B C):gm A C:=
 ⟨h.1.trans k.1,fun b x z d g=>by obtain⟨y,hy,h1⟩:=h.get d;exact h1.trans (k.2 b y z hy g)⟩
theorem gm.none{H H':an}(h:gm H H'){b:Nat}(hb:H[b]?=ab):H'[b]?=ab:=by
 rw [amU]at hb ⊢;have:=h.1;omega
theorem gm.set{H:an}{b:Nat}{bU blk':b7}(hb:H[b]?=aa bU)(h:dx bU blk'):gm H (H.set b blk'):=by
 have hl:=(IS.1 hb).1;refine⟨by simp,fun i x y d hy=>?_⟩;by_cases hi:i=b
 ·subst hi;simp only [ani,if_true,hl]at hy;rw [hb]at d;cases d;cases hy;exact h
 ·rw [sh (Ne.symm hi)]at hy;rw [d]at hy;cases hy;exact dx.refl _
theorem gm.foldl{f:an→C→an}(b:∀ H x,gm H (f H x)):∀(xs:List C) (H:an),gm H (xs.foldl f H)
 | [],H=>gm.refl H| x::xs,H=>(b H x).trans (gm.foldl b xs (f H x))
theorem kj:∀(n:Nat) (x:C) (H:an),gm H (eX n x H)
 | n,.f _,H=>by cases n<;>exact gm.refl H
 | 0,.ptr _ _ _,H=>gm.refl H| 0,.sl _ _ _ _ _ _,H=>gm.refl H| 0,.cl _ _,H=>gm.refl H| 0,.yl _,H=>gm.refl H| 0,.mp _,H=>gm.refl H| 0,.it _,H=>gm.refl H| 0,.bm _ _,H=>gm.refl H| 0,.mi _,H=>gm.refl H
 | n+1,.ptr b m j,H=>by
  simp only [eX];split
  ·rename_i cs fl d;exact(gm.set d (by exact⟨rfl,al3 _ _⟩)).trans (gm.foldl (fun H x=>kj n x H) _ _)
  ·exact gm.refl H
 | n+1,.sl b o l c j sz,H=>by
  simp only [eX];split
  ·rename_i cs fl d;exact(gm.set d (by exact⟨rfl,al3 _ _⟩)).trans (gm.foldl (fun H x=>kj n x H) _ _)
  ·rename_i s cs fl e st d;exact(gm.set d (by exact⟨rfl,rfl,al3 _ _,rfl,rfl⟩)).trans (gm.foldl (fun H x=>kj n x H) _ _)
  ·exact gm.refl H
 | n+1,.cl f g,H=>gm.foldl (fun H x=>kj n x H) _ _
 | n+1,.yl _,H=>gm.refl H| n+1,.mp _,H=>gm.refl H| n+1,.it _,H=>gm.refl H| n+1,.bm _ _,H=>gm.refl H| n+1,.mi _,H=>gm.refl H
theorem ft{b j:Type}{f g:b→Option j}:∀ {xs:List b},(∀ x ∈ xs,f x=g x)→aZ f xs=aZ g xs
 | [],_=>rfl| x::xs,h=>by rw [aZ,aZ,h x (by simp),ft (xs:=xs) (fun y d=>h y (List.mem_cons_of_mem _ d))]
theorem mz:∀(n:Nat) {H H':an},gm H H'→∀(x:C),eA n H' x=eA n H x
 | n,H,H',h,.f _=>by cases n<;>rfl
 | 0,H,H',h,.ptr _ _ _=>rfl| 0,H,H',h,.sl _ _ _ _ _ _=>rfl| 0,H,H',h,.cl _ _=>rfl| 0,H,H',h,.yl _=>rfl| 0,H,H',h,.mp _=>rfl| 0,H,H',h,.it _=>rfl| 0,H,H',h,.bm _ _=>rfl| 0,H,H',h,.mi _=>rfl
 | n+1,H,H',h,.ptr b v s=>by
  simp only [eA];cases m:H[b]? with
  | none=>rw [h.none m]
  | some bU=>
   obtain⟨blk',d,j⟩:=h.get m;rw [d];cases bU<;>cases blk'<;>simp only [dx,reduceCtorEq]at j
   ·obtain⟨rfl,_⟩:=j;simp only [ft (g:=eA n H) fun x _=>mz n h x]
   all_goals rfl
 | n+1,H,H',h,.sl b o l c s sz=>by
  simp only [eA];cases m:H[b]? with
  | none=>rw [h.none m]
  | some bU=>
   obtain⟨blk',d,j⟩:=h.get m;rw [d];cases bU<;>cases blk'<;>simp only [dx,reduceCtorEq]at j
   ·obtain⟨rfl,_⟩:=j;simp only [ft (g:=eA n H) fun x _=>mz n h x]
   ·obtain⟨rfl,rfl,u,rfl,rfl⟩:=j;clear u;rename_i st _;cases st<;>simp only [ft (g:=eA n H) fun x _=>mz n h x]
   all_goals rfl
 | n+1,H,H',h,.cl f q=>by simp only [eA,ft (g:=eA n H) fun x _=>mz n h x]
 | n+1,H,H',h,.yl _=>rfl| n+1,H,H',h,.mp _=>rfl| n+1,H,H',h,.it _=>rfl| n+1,H,H',h,.bm _ _=>rfl| n+1,H,H',h,.mi _=>rfl
def dT:Nat→an→C→Prop
 | _,_,.f _=>True| 0,_,_=>True| n+1,H,.ptr b _ _=>∀ cs fl,H[b]?=aa (.box cs fl)→cs.length≤fl∧∀ x ∈ cs,dT n H x
 | n+1,H,.sl b o l _ _ sz=>∀ bU,H[b]?=aa bU→match bU with
  | .box cs fl=>o+l*sz≤fl∧∀ x ∈ (cs.drop o).take (l*sz),dT n H x| .cO _ cs fl _ .loc=>o+l*sz≤fl∧∀ x ∈ (cs.drop o).take (l*sz),dT n H x| _=>True
 | n+1,H,.cl _ d=>∀ x ∈ d,dT n H x| _,_,_=>True
theorem dT.le:∀(n:Nat) {H H':an},gm H H'→∀ {x:C},dT n H x→dT n H' x
 | n,H,H',h,.f _,_=>by cases n<;>trivial
 | 0,H,H',h,.ptr _ _ _,_=>trivial| 0,H,H',h,.sl _ _ _ _ _ _,_=>trivial| 0,H,H',h,.cl _ _,_=>trivial| 0,H,H',h,.yl _,_=>trivial| 0,H,H',h,.mp _,_=>trivial| 0,H,H',h,.it _,_=>trivial| 0,H,H',h,.bm _ _,_=>trivial| 0,H,H',h,.mi _,_=>trivial
 | n+1,H,H',h,.ptr b off A,v=>by
  intro cs fl m;have y:=(IS.1 m).1;have s:b<H.length:=by have:=h.1;omega
  have d:=h.2 b _ _ (By s) m;cases g:H[b]<;>rw [g]at d<;>simp only [dx,reduceCtorEq]at d;obtain⟨rfl,q⟩:=d;obtain⟨h1,h2⟩:=v _ _ (by rw [By s,g]);exact⟨alL h1 q,fun x u=>dT.le n h (h2 x u)⟩
 | n+1,H,H',h,.sl b o l c A sz,v=>by
  intro blk' m;have y:=(IS.1 m).1;have s:b<H.length:=by have:=h.1;omega
  have d:=h.2 b _ _ (By s) m;have j:=v _ (By s);cases g:H[b]<;>rw [g]at d j<;>cases blk'<;>simp only [dx,reduceCtorEq]at d<;>try simp only
  ·obtain⟨rfl,q⟩:=d;exact⟨alL j.1 q,fun x u=>dT.le n h (j.2 x u)⟩
  ·obtain⟨rfl,rfl,q,rfl,rfl⟩:=d;rename_i st _;cases st<;>simp only at j ⊢;exact⟨alL j.1 q,fun x u=>dT.le n h (j.2 x u)⟩
 | n+1,H,H',h,.cl f z,v=>fun x u=>dT.le n h (v x u)
 | n+1,H,H',h,.yl _,_=>trivial| n+1,H,H',h,.mp _,_=>trivial| n+1,H,H',h,.it _,_=>trivial| n+1,H,H',h,.bm _ _,_=>trivial| n+1,H,H',h,.mi _,_=>trivial
theorem fG{n:Nat}(b:∀(x:C) (H:an),dT n (eX n x H) x):∀(xs:List C) (H:an),∀ x ∈ xs,dT n (xs.foldl (fun H x=>eX n x H) H) x
 | y::ys,H,x,d=>by
  simp only [am5];rcases alW.1 d with rfl | d
  ·exact dT.le n (gm.foldl (fun H x=>kj n x H) ys _) (b x H)
  ·exact fG b ys _ x d
theorem gK:∀(n:Nat) (x:C) (H:an),dT n (eX n x H) x
 | n,.f _,H=>by cases n<;>trivial
 | 0,.ptr _ _ _,H=>trivial| 0,.sl _ _ _ _ _ _,H=>trivial| 0,.cl _ _,H=>trivial| 0,.yl _,H=>trivial| 0,.mp _,H=>trivial| 0,.it _,H=>trivial| 0,.bm _ _,H=>trivial| 0,.mi _,H=>trivial
 | n+1,.ptr b I F,H=>by
  simp only [eX];cases u:H[b]? with
  | none=>intro cs fl h;exfalso;simp only at h;exact absurd (u.symm.trans h) (by simp)
  | some bU=>
   cases bU with
   | box d g=>
    intro cs fl h;have s:=(IS.1 u).1;simp only at h ⊢;have z:=gm.foldl (fun H x=>kj n x H) d (H.set b (.box d (Nat.max g d.length)));obtain⟨blk',j,m⟩:=z.get (b:=b) (bU:=.box d (Nat.max g d.length)) (by simp [s]);rw [h]at j;cases j;obtain⟨rfl,q⟩:=m;exact⟨alL (alS _ _) q,fun x v=>fG (fun x H=>gK n x H) _ _ x v⟩
   | _=>intro cs fl h;simp only at h;rw [u]at h;cases h
 | n+1,.sl b o l c F sz,H=>by
  simp only [eX];cases u:H[b]? with
  | none=>intro bU h;exfalso;simp only at h;exact absurd (u.symm.trans h) (by simp)
  | some bU=>
   have s:=(IS.1 u).1;cases bU with
   | box d g=>
    intro bU h;simp only at h ⊢;have z:=gm.foldl (fun H x=>kj n x H) ((d.drop o).take (l*sz)) (H.set b (.box d (Nat.max g (o+l*sz))));obtain⟨blk',j,m⟩:=z.get (b:=b) (bU:=.box d (Nat.max g (o+l*sz))) (by simp [s]);rw [h]at j;cases j;cases bU<;>simp only [dx,reduceCtorEq]at m;obtain⟨rfl,q⟩:=m;exact⟨alL (alS _ _) q,fun x v=>fG (fun x H=>gK n x H) _ _ x v⟩
   | cO E d g B y=>
    intro bU h;simp only at h ⊢;have z:=gm.foldl (fun H x=>kj n x H) ((d.drop o).take (l*sz)) (H.set b (.cO E d (Nat.max g (o+l*sz)) B y));obtain⟨blk',j,m⟩:=z.get (b:=b) (bU:=.cO E d (Nat.max g (o+l*sz)) B y) (by simp [s]);rw [h]at j;cases j;cases bU<;>simp only [dx,reduceCtorEq]at m;obtain⟨rfl,rfl,q,rfl,rfl⟩:=m;cases y<;>simp only;exact⟨alL (alS _ _) q,fun x v=>fG (fun x H=>gK n x H) _ _ x v⟩
   | _=>intro bU h;simp only at h;rw [u]at h;cases h;simp
 | n+1,.cl f A,H=>fun x v=>fG (fun x H=>gK n x H) _ _ x v
 | n+1,.yl _,H=>trivial| n+1,.mp _,H=>trivial| n+1,.it _,H=>trivial| n+1,.bm _ _,H=>trivial| n+1,.mi _,H=>trivial
end
section
variable{Q:Program}{σ:Nat→FuncId}{X:Wd}
def dq(H H':an):Prop:=∀(b:Nat) bU,H[b]?=aa bU→∃ blk',H'[b]?=aa blk'∧dx bU blk'
theorem dq.refl(H:an):dq H H:=fun _ bU h=>⟨bU,h,dx.refl _⟩
theorem dq.trans{A B C:an}(h:dq A B)(k:dq B C):dq A C:=fun b x d=>by
 obtain⟨y,hy,h1⟩:=h b x d;obtain⟨z,g,h2⟩:=k b y hy;exact⟨z,g,h1.trans h2⟩
theorem gm.ext{H H':an}(h:gm H H'):dq H H':=fun _ _ hb=>h.get hb
theorem dq.append(H H':an):dq H (H++H'):=fun b bU hb=>⟨bU,by rw [AT (IS.1 hb).1];exact hb,dx.refl _⟩
theorem dq.len{H H':an}(h:dq H H'):H.length≤H'.length:=by
 rcases alO H'.length H.length with d | b
 ·obtain⟨y,hy,_⟩:=h H'.length _ (By d);have:=(IS.1 hy).1;omega
 ·exact b
theorem SR.ahead(d:SR Q σ X){H':an}(h:dq X.H H'):SR Q σ { X with H:=H' }∧Ext X.H.length X { X with H:=H' }:=by
 have l:Ext X.H.length X { X with H:=H' }:=
  {B:=rfl,F:=fun _ _ h=>h,ox:=fun _ _ h=>.inl h,fw:=fun _ _ _=>rfl
   bu:=fun b _ bU hb=>by
    obtain⟨blk',g,hl⟩:=h b bU hb;refine⟨blk',g,?_⟩;cases bU<;>cases blk'<;>simp only [dx,reduceCtorEq]at hl<;>simp_all
   vp:=fun b L h=>.inl ⟨b,L,h,rfl⟩,size:=alk _,os:=rfl,tape:=rfl,output:=rfl,frame:=fun _ _ _=>rfl }
 refine⟨⟨fun b L hb=>?_,d.inj,d.fb⟩,l⟩;obtain⟨h1,h2,bU,h3,h4⟩:=d.br b L hb;obtain⟨blk',h5,h6⟩:=h b bU h3;refine⟨h1,h2,blk',h5,?_⟩;have h7:BR Q σ { X with H:=H' } bU L:=BR.ext Q σ l rfl (fun _ h=>h) h4;cases bU<;>cases blk'<;>simp only [dx,reduceCtorEq]at h6
 ·obtain⟨rfl,hl⟩:=h6;obtain⟨us,g1,g2,g3⟩:=h7;exact⟨us,g1,g2,fun i hi=>g3 i (alL hl hi)⟩
 ·obtain⟨rfl,rfl,hl,rfl,rfl⟩:=h6;obtain⟨j,us,rest,g1,g2,g3,g4,g5,g6⟩:=h7;exact⟨j,us,rest,g1,g2,g3,g4,g5,fun i hi=>g6 i (alL hl hi)⟩
 all_goals (rw [←h6];exact h7)
def wH:b7→Nat→Prop
 | .box cs fl,i=>i<fl∧i<cs.length| .cO _ cs fl _ _,i=>i<fl∧i<cs.length| _,_=>False
def FL(X:Wd):Prop:=∀ b L i bU,X.cC b=aa L→X.H[b]?=aa bU→wH bU i→X.F L.c i
def Wd.flag(X:Wd):Wd:={ X with F:=fun c i=>X.F c i∨∃ b L bU,X.cC b=aa L∧L.c=c∧X.H[b]?=aa bU∧wH bU i }
theorem SR.flag(j:SR Q σ X):SR Q σ X.flag∧Ext X.H.length X X.flag∧FL X.flag:=by
 have g:Ext X.H.length X X.flag:=
  {B:=rfl,F:=fun _ _ h=>.inl h
   ox:=fun c i h=>by
    rcases h with h | ⟨b,L,bU,h1,h2,_⟩
    ·exact .inl h
    ·exact .inr (.inr ⟨b,L,h1,h2⟩)
   fw:=fun _ _ _=>rfl
   bu:=fun b _=>by
    intro bU hb;refine⟨bU,hb,?_⟩;cases bU<;>simp [Wd.flag]
   vp:=fun b L h=>.inl ⟨b,L,h,rfl⟩,size:=alk _,os:=rfl,tape:=rfl,output:=rfl,frame:=fun _ _ _=>rfl }
 refine⟨⟨fun b L hb=>?_,j.inj,fun c i h=>?_⟩,g,fun b L i bU h1 h2 h3=>.inr ⟨b,L,bU,h1,rfl,h2,h3⟩⟩
 ·obtain⟨h1,h2,bU,h3,h4⟩:=j.br b L hb;refine⟨h1,h2,bU,h3,?_⟩;have key:∀ i,X.flag.F L.c i→X.F L.c i∨wH bU i:=by
   rintro i (h | ⟨v,x,blk',g1,g2,g3,g4⟩)
   ·exact .inl h
   ·have:v=b:=j.inj _ _ _ _ g1 hb g2;subst this;rw [h3]at g3;cases g3;exact .inr g4
  cases bU with
  | box cs fl=>
   obtain⟨us,g1,g2,g3⟩:=h4;exact⟨us,g1,A2.ext' σ g g2,fun i hi l=>(key i l).elim (g3 i hi) fun h=>by have:=h.1;omega⟩
  | cO sz cs fl y st=>
   obtain⟨u,us,rest,g1,g2,g3,g4,g5,g6⟩:=h4;exact⟨u,us,rest,g1,A2.ext' σ g g2,g3,g4,g5,fun i hi l=>(key i l).elim (g6 i hi) fun h=>by have:=h.1;omega⟩
  | map es=>exact BR.ext Q σ g rfl (fun i h=>(key i h).elim id False.elim) h4
  | it s p=>exact BR.ext Q σ g rfl (fun i h=>(key i h).elim id False.elim) h4
  | fg b=>exact BR.ext Q σ g rfl (fun i h=>(key i h).elim id False.elim) h4
  | zK m s d=>exact BR.ext Q σ g rfl (fun i h=>(key i h).elim id False.elim) h4
  | lp f t p a c st q d=>exact BR.ext Q σ g rfl (fun i h=>(key i h).elim id False.elim) h4
 ·rcases h with h | ⟨b,L,bU,h1,h2,_⟩
  ·exact j.fb c i h
  ·rw [←h2];exact(j.br b L h1).2.1
theorem fQ{d g:Type}{f:d→Option g}:∀ {xs:List d} {ys:List g},aZ f xs=aa ys→A2 (fun x y=>f x=aa y) xs ys
 | [],ys,h=>by simp only [aZ,AI]at h;subst h;exact A2.nil
 | x::xs,ys,h=>by
  simp only [aZ]at h;split at h
  ·simp at h
  ·rename_i y j;split at h
   ·simp at h
   ·rename_i l b;simp only [AI]at h;subst h;exact A2.cons j (fQ b)
theorem frz(hS:SR Q σ X)(hF:FL X){H:an}(W:dq H X.H):∀(n:Nat) {x:C} {y:FC} {v:Value},eA n H x=aa y→dT n H x→CR σ X x v→cT σ X.F X.w y v
 | n,.f x,y,v,d,_,B=>by
  have:eA n H (.f x)=aa x:=by cases n<;>rfl
  rw [this]at d;cases d;exact B
 | 0,.ptr _ _ _,y,v,d,_,_=>by simp [eA]at d
 | 0,.sl _ _ _ _ _ _,y,v,d,_,_=>by simp [eA]at d
 | 0,.cl _ _,y,v,d,_,_=>by simp [eA]at d
 | 0,.yl _,y,v,d,_,_=>by simp [eA]at d
 | 0,.mp _,y,v,d,_,_=>by simp [eA]at d
 | 0,.it _,y,v,d,_,_=>by simp [eA]at d
 | 0,.bm _ _,y,v,d,_,_=>by simp [eA]at d
 | 0,.mi _,y,v,d,_,_=>by simp [eA]at d
 | n+1,.ptr b c9 ep,y,v,d,hm,B=>by
  simp only [eA]at d;split at d
  ·rename_i cs fl K;simp only [IN]at d;obtain⟨ys,g,rfl⟩:=d;obtain⟨N,I⟩:=hm cs fl K;obtain⟨blk',m,j⟩:=W b _ K;cases blk'<;>simp only [dx,reduceCtorEq]at j;obtain⟨rfl,j⟩:=j;rename_i U;obtain⟨L,S,B⟩:=B;simp only [m]at B;subst B;obtain⟨_,_,bU,E,M⟩:=hS.br b L S;rw [m]at E;cases E;obtain⟨us,A,z,_⟩:=M;have g:=fQ g;have:=cT.fp (σ:=σ) (F:=X.F) (w:=X.w) ys c9 L.c 0 us (by rw [←z.len,g.len])
    (fun i hi=>by rw [amb];exact hF b L i _ S m ⟨by have:=g.len;omega,by have:=g.len;omega⟩)
    (fun i u O=>by rw [amb,dZ A];exact O)
    (fun i y u Z O=>by
     have hi:i<cs.length:=by rw [g.len];exact(IS.1 Z).1
     have Y:=By hi;exact frz hS hF W n (g.2 i _ _ Y Z) (I _ (IT hi)) (z.2 i _ _ Y O))
   rw [amb]at this;exact this
  ·simp at d
 | n+1,.sl b o l c ep sz,y,v,d,hm,B=>by
  have key:∀(cs:List C) (fl:Nat) (blk':b7) (L:Loc) (us rest:List Value) (ys:List FC) (cap:Nat),o+l*sz≤cs.length→o+l*sz≤fl →
    (∀ i,i<fl→i<cs.length→wH blk' i)→X.H[b]?=aa blk'→X.cC b=aa L→rowAt X.w L.c (us++rest)→A2 (CR σ X) cs us →
    (∀ x ∈ (cs.drop o).take (l*sz),dT n H x)→aZ (eA n H) ((cs.drop o).take (l*sz))=aa ys→l≤cap→cT σ X.F X.w (.fs ys l) (.slice (aa ⟨L.c,o,ab⟩) l cap):=by
   intro cs fl blk' L us rest ys cap q N a7 m S A z I g J;have g:=fQ g;have c_:=z.len;have b_:ys.length=l*sz:=by rw [←g.len];simp;omega
   have a_:=(z.drop o).take (l*sz);refine .fs ys l L.c o cap ((us.drop o).take (l*sz)) J (by rw [b_];simp;omega) (fun i hi=>hF b L _ _ S m (a7 _ (by omega) (by omega))) (fun i u O=>?_) (fun i y u Z O=>?_)
   ·have hi:i<l*sz:=by
     have:=(IS.1 O).1;simp at this;omega
    rw [dZ A,AT (by omega)];rw [List.getElem?_take_of_lt hi,alK]at O;exact O
   ·have hi:i<((cs.drop o).take (l*sz)).length:=by rw [g.len];exact(IS.1 Z).1
    have Y:=By hi;exact frz hS hF W n (g.2 i _ _ Y Z) (I _ (IT hi)) (a_.2 i _ _ Y O)
  simp only [eA]at d;simp only [CR,fM]at B;split at d
  ·rename_i cs fl K;split at d
   ·rename_i q;simp only [IN]at d;obtain⟨ys,g,rfl⟩:=d;obtain⟨N,I⟩:=hm _ K;obtain⟨blk',m,j⟩:=W b _ K;cases blk'<;>simp only [dx,reduceCtorEq]at j;obtain⟨rfl,j⟩:=j;rename_i U;simp only [m]at B;obtain⟨L,S,J,rfl⟩:=B;obtain⟨_,_,bU,E,M⟩:=hS.br b L S;rw [m]at E;cases E;obtain⟨us,A,z,_⟩:=M;exact key cs fl (.box cs U) L us [] ys c q N (fun i h1 h2=>⟨by omega,h2⟩) m S (by simpa using A) z I g J
   ·simp at d
  ·rename_i s cs fl e K;split at d
   ·rename_i q;obtain⟨rfl,rfl,q⟩:=q;simp only [IN]at d;obtain⟨ys,g,rfl⟩:=d;obtain⟨N,I⟩:=hm _ K;obtain⟨blk',m,j⟩:=W b _ K;cases blk'<;>simp only [dx,reduceCtorEq]at j;obtain⟨rfl,rfl,j,rfl,rfl⟩:=j;rename_i U;simp only [m]at B;obtain⟨L,S,k,ho,J,rfl⟩:=B.2.1 trivial trivial;obtain⟨_,_,bU,E,M⟩:=hS.br b L S;rw [m]at E;cases E;obtain⟨_,us,rest,A,z,_⟩:=M;exact key cs fl (.cO sz cs U ep .loc) L us rest ys _ q N (fun i h1 h2=>⟨by omega,h2⟩) m S A z I g (by omega)
   ·simp at d
  ·rename_i s cs fl e K;split at d
   ·rename_i q;obtain⟨rfl,rfl⟩:=q;cases d;obtain⟨blk',m,j⟩:=W b _ K;cases blk'<;>simp only [dx,reduceCtorEq]at j;obtain⟨rfl,rfl,j,rfl,rfl⟩:=j;simp only [m]at B;obtain⟨_,_,rfl⟩:=B.2.1 trivial trivial;exact .aA
   ·simp at d
  ·rename_i s cs fl e K;split at d
   ·rename_i q;obtain⟨rfl,rfl⟩:=q;cases d;obtain⟨blk',m,j⟩:=W b _ K;cases blk'<;>simp only [dx,reduceCtorEq]at j;obtain⟨rfl,rfl,j,rfl,rfl⟩:=j;simp only [m]at B;obtain⟨_,_,a,rfl⟩:=B.2.1 trivial trivial;exact .es a
   ·simp at d
  ·simp at d
 | n+1,.cl f a8,y,v,d,hm,B=>by
  simp only [eA,IN]at d;obtain⟨ys,g,rfl⟩:=d;obtain⟨us,rfl,z⟩:=B;have g:=fQ g;refine .fn f ys us (by rw [←z.len,g.len]) fun i y u Z O=>?_;have hi:i<a8.length:=by rw [g.len];exact(IS.1 Z).1
  have Y:=By hi;exact frz hS hF W n (g.2 i _ _ Y Z) (hm _ (IT hi)) (CR.VY σ (z.2 i _ _ Y O))
 | n+1,.yl _,y,v,d,_,_=>by simp [eA]at d
 | n+1,.mp _,y,v,d,_,_=>by simp [eA]at d
 | n+1,.it _,y,v,d,_,_=>by simp [eA]at d
 | n+1,.bm _ _,y,v,d,_,_=>by simp [eA]at d
 | n+1,.mi _,y,v,d,_,_=>by simp [eA]at d
end
section
variable{Q:Program}{σ:Nat→FuncId}{X:Wd}
theorem SR.skip(g:SR Q σ X){w':World}{o:Obj}(d:dY X.w w' o)(m:X.B≤X.w.heap.size):∃ X':Wd,X'.w=w'∧X'.H=X.H∧SR Q σ X'∧Ext X.H.length X X'∧X'.B≤X'.w.heap.size:=by
 have j:Ext X.H.length X { X with w:=w' }:=Ext.one g X.H.length rfl (fun _ _=>Iff.rfl) (fun k l _=>d.Ao l)
  (fun L i h=>by rw [SR.qx g]at h;simp at h) (fun h=>absurd h (ano _)) (fun _ _ _=>rfl) (fun _ _=>rfl) (fun L h=>.inl ⟨L,h,rfl⟩) (by show _≤w'.heap.size;rw [d.size];omega) d.os d.tape d.output
 refine⟨{ X with w:=w' },rfl,rfl,SR.step Q σ g j X.H.length (fun _ _=>rfl) (fun _ _=>rfl) (fun b L _ hb=>d.Ao (g.br b L hb).2.1)
  (fun _ _ _ _ _ h=>h) (fun L h=>by change X.cC X.H.length=aa L at h;rw [SR.qx g]at h;simp at h) (fun c i h=>?_),j,?_⟩
 ·have:=g.fb c i h;show c<w'.heap.size;rw [d.size];omega
 ·show X.B≤w'.heap.size;rw [d.size];omega
theorem lZ{n:Int}(b:0≤n)(d:n<2 ^ 63):IntKind.i64.wrap n=n:=by
 have:n % (2 ^ 64:Int)=n:=Int.emod_eq_of_lt b (by omega);simp only [IntKind.wrap,IntKind.bits,IntKind.signed,this,amm,decide_eq_true_eq];rw [aS (by show¬ n≥2 ^ (64-1);omega)]
theorem Bc(hS:SR Q σ X)(hB:X.B≤X.w.heap.size){a:Act}{aE:T}(hR:RR σ X aE a.tmps){o:Oper}{sz bytes:Nat}{zs:List FC}{x y:Arg}(F:dW Q σ o (.dN sz bytes zs x y)=ae){v:V}{H':an}
  (h:bE aE X.H (.dN sz bytes zs x y)=aa (v,H')):gJ Q σ X v H' (execOp a.eval o):=by
 simp only [dW]at F;split at F
 ·rename_i t x' y' ho;simp only [If,decide_eq_true_eq]at F;obtain⟨⟨⟨k,r⟩,O⟩,b_⟩:=F;have k:=bS hR k;have r:=bS hR r;obtain⟨e,hu,O⟩:=gW O;simp only [If]at O;obtain⟨⟨j,Z⟩,hz⟩:=O;obtain⟨z,us,a7,a8,M,f7,c_,d9⟩:=eV (σ:=σ) (X:=X) hz X.w;obtain⟨c9,u,A⟩:=xD Z X.w;simp only [bE]at h;split at h
  ·rename_i l c hl hc;obtain⟨kl,p⟩:=iE k hl;obtain⟨kc,w⟩:=iE r hc;split at h
   ·rename_i s;obtain⟨h0,d_,g,e_⟩:=s;unfold cN at g;simp only [If,decide_eq_true_eq]at g;have J:us.length=sz:=by have:=M.len;simp at this;omega
    have L:=lZ (n:=l) h0 (by omega);have K:=lZ (n:=c) (by omega) (by omega);have a_:c.toNat*bytes≤2 ^ 48:=by
     have:c.toNat*bytes≤(2*c.toNat+768)*bytes:=alX _ (by omega);omega
    have m:¬ ((bytes:Int)*c>2 ^ 48):=by
     have e1:(bytes:Int)*c=((c.toNat*bytes:Nat):Int):=by
      rw [ane,ami];congr 1;omega
     rw [e1];omega
    have I:((Array.range (c.toNat*sz)).map fun i=>us.toArray[i % us.toArray.size]!)=(cM c.toNat us).toArray:=by
     have:=im us c.toNat (by omega);rwa [J]at this
    have run:(execOp a.eval o).run Q X.w=.ok (.value (.slice (aa ⟨X.w.heap.size,0,ab⟩) l.toNat c.toNat)) (X.w.alloc (.cells (cM c.toNat us).toArray e)):=by
     simp only [execOp,ho];refine ef ?_;rw [p,w];have B:¬ c<0:=by omega
     have E:¬ l<0:=by omega
     have q:¬ l>c:=by omega
     by_cases d:c.toNat*sz=0
     ·have f:cM c.toNat us=[]:=alx (by rw [kS,J];exact d);have b:((decide (c<0)||decide ((bytes:Int)*c>2 ^ 48))||decide (l<0)||decide (l>c))=ag:=by rw [decide_eq_false B,decide_eq_false E,decide_eq_false q,decide_eq_false m];rfl
      simp only [Instr.makeSlice,Sem.run_bind,a5 hu,asInt,asIntOf,Sem.run_pure,Result.andThen_ok,u,A,L,K,run_askRoom,di j];simp only [b,alE,if_false,Sem.run_ite,ba d,Sem.run_bind,Result.andThen_ok,Sem.run_pure,run_askRoom,di j,newRow,run_newObj];rw [d,f,show(Array.map (fun x=>(#[]:Array Value)[x % (#[]:Array Value).size]!) (Array.range 0))=#[] from by simp [show Array.range 0=(#[]:Array Nat) from rfl]];rfl
     ·simp only [Instr.makeSlice,Sem.run_bind,a5 hu,asInt,asIntOf,Sem.run_pure,Result.andThen_ok,u,A,L,K,run_askRoom,di j];have b:((decide (c<0)||decide ((bytes:Int)*c>2 ^ 48))||decide (l<0)||decide (l>c))=ag:=by rw [decide_eq_false B,decide_eq_false E,decide_eq_false q,decide_eq_false m];rfl
      simp only [b,alE,if_false,Sem.run_ite,aS d,Sem.run_bind,a7,a8,Result.andThen_ok,Sem.run_pure,run_askRoom,di j,I,newRow,run_newObj];rfl
    split at h
    ·rename_i d;subst d;simp only [AI,OF]at h;obtain⟨rfl,rfl⟩:=h;have:l=0:=by omega
     subst this;obtain⟨X',S,N,U,W,Y⟩:=SR.skip hS (dY.alloc X.w (.cells (cM (0:Int).toNat us).toArray e)) hB;exact⟨_,X',.inl (by rw [S];exact run),N,U,cT.es _,W,Y⟩
    ·simp only [AI,OF]at h;obtain⟨rfl,rfl⟩:=h;obtain⟨X',S,N,U,W,Y,g6⟩:=Bd hS hB (je M c.toNat) e;refine⟨_,X',.inl (by rw [S];exact run),N,U,?_,W,g6⟩;have H:X'.H[X.H.length]?=aa (.box ((cM c.toNat zs).map .f) 0):=by rw [N];simp
     simp only [VR,iq,CR,fM,H];exact⟨_,Y,by omega,rfl⟩
   ·simp at h
  ·simp at h
 ·simp at F
theorem aen(H:an):∀ x,eA 0 H x=fcC x:=fun x=>by cases x<;>rfl
theorem abP(J:SR Q σ X)(hB:X.B≤X.w.heap.size){a:Act}{aE:T}(I:RR σ X aE a.tmps){o:Oper}{sz:Nat}{x hi mx:Arg}(B:dW Q σ o (.rv sz x hi mx)=ae){v:V}{H':an}
  (h:bE aE X.H (.rv sz x hi mx)=aa (v,H')):gJ Q σ X v H' (execOp a.eval o):=by
 simp only [dW]at B;split at B
 ·rename_i t y U mx' ho;simp only [If,decide_eq_true_eq]at B;obtain⟨⟨⟨⟨z,h2⟩,h3⟩,he⟩,hz⟩:=B;obtain⟨e,hu,E⟩:=gW he;simp only [bE]at h;unfold vW at h;have o1:OR X σ ab ab:=trivial;have o2:OR X σ (aa (hi.ev aE)) (aa (a.eval U)):=bS I h2;have o3:OR X σ (aa (mx.ev aE)) (aa (a.eval mx')):=bS I h3;have z:=bS I z;split at h
  ·rename_i v' hv;simp only [AI,OF]at h;obtain⟨rfl,rfl⟩:=h;obtain⟨r,F,h5⟩:=vX J hu E z o1 o2 o3 hv;exact⟨r,X,.inl (by simp only [execOp,ho];exact ef F),rfl,J,h5,Ext.refl _ _,hB⟩
  ·split at h
   ·rename_i b o' n c' m s c_;rw [c_]at z;simp only [VR,iq,CR,fM]at z;split at h
    ·rename_i l cs fl e' K;rw [K]at z;split at h
     ·rename_i N;obtain⟨rfl,rfl,rfl,rfl⟩:=N;split at h
      ·rename_i i j d Z;split at h
       ·rename_i Y;obtain⟨rfl,f7,e_⟩:=Y;split at h
        ·rename_i ys d9;simp only [AI,OF]at h;obtain⟨rfl,rfl⟩:=h;obtain⟨L,hL,k,hk,f_,c9⟩:=z.2.1 rfl rfl;have a7:k=0:=by
          rcases Nat.eq_zero_or_pos k with h | h
          ·exact h
          ·have:=Nat.mul_pos h hz;omega
         subst a7;have f8:i≤n:=by
          unfold xP at d;split at d
          ·split at d
           ·rename_i hh;simp only [AI]at d;omega
           ·simp at d
          ·simp at d
         have M:bH n n ab (aa (hi.ev aE)) (aa (mx.ev aE))=aa (0,i,i):=by
          have W:xP (hi.ev aE) i=aa i:=by
           unfold xP at d ⊢;split at d
           ·split at d
            ·rename_i hh;simp only [AI]at d;rw [ba ⟨hh.1,by omega⟩,d]
            ·simp at d
           ·simp at d
          simp [bH,Z,W]
         obtain⟨F,_,_,_⟩:=dQ (Q:=Q) o1 o2 o3 M (cap:=L.cap) (by omega) (alk n) ae X.w;have h6:=eE (a:=aa ⟨L.c,0,ab⟩) hu E F;have a8:gm X.H (X.H.set b (.cO l cs (Nat.max fl (i*l)) m .loc)):=gm.set K ⟨rfl,rfl,al3 _ _,rfl,rfl⟩;obtain⟨g1,g2⟩:=SR.ahead J a8.ext;obtain⟨g3,g4,g5⟩:=SR.flag g1;have a_:=(IS.1 K).1;have q:(X.H.set b (.cO l cs (Nat.max fl (i*l)) m .loc))[b]?=aa (.cO l cs (Nat.max fl (i*l)) m .loc):=by simp [a_]
         have S:eA 1 (X.H.set b (.cO l cs (Nat.max fl (i*l)) m .loc)) (.sl b 0 i 0 m l)=aa (.fs ys i):=by
          simp only [eA,q];rw [ba ⟨trivial,trivial,by omega⟩,ft (g:=fcC) fun x _=>aen _ x,amd,d9];rfl
         have b_:dT 1 (X.H.set b (.cO l cs (Nat.max fl (i*l)) m .loc)) (.sl b 0 i 0 m l):=by
          intro bU u;rw [q]at u;cases u;refine⟨by have:=alS fl (i*l);simp only [amb];exact this,fun x _=>?_⟩;cases x<;>trivial
         have O:CR σ ({ X with H:=X.H.set b (.cO l cs (Nat.max fl (i*l)) m .loc) }:Wd).flag (.sl b 0 i 0 m l) (.slice (aa ⟨L.c,0,ab⟩) i L.cap):=by
          simp only [CR,fM,Wd.flag,q];exact⟨alk _,fun _ _=>⟨L,hL,0,by omega,by omega,by simp⟩,_,_,_,rfl⟩
         have hf:=frz g3 g5 (dq.refl _) 1 S b_ O;have A:cT σ ({ X with H:=X.H.set b (.cO l cs (Nat.max fl (i*l)) m .loc) }:Wd).flag.F X.w (.fs ys i) (.slice (aa ⟨L.c,0,ab⟩) i i):=by
          cases hf with
          | fs _ _ c o2 cap us d_ hl hF N hr=>exact .fs _ _ _ _ _ us (alk _) hl hF N hr| fs0 a2 cap=>omega
         refine⟨.slice (aa ⟨L.c,0,ab⟩) i i,({ X with H:=X.H.set b (.cO l cs (Nat.max fl (i*l)) m .loc) }:Wd).flag,.inl ?_,rfl,g3,A,g2.trans (g4.mono (by simp)),hB⟩;simp only [execOp,ho];refine ef ?_;rw [c9];simp [show i≠0 by omega,ed]at h6;exact h6
        ·simp at h
       ·simp at h
      ·simp at h
     ·simp at h
    ·simp at h
   ·simp at h
 ·simp at B
theorem agn(d:SR Q σ X)(g:X.B≤X.w.heap.size){a:Act}{aE:T}(j:RR σ X aE a.tmps){o:Oper}{op:dn}(b:dW Q σ o op=ae){v:V}{H':an}
  (h:bE aE X.H op=aa (v,H')):gJ Q σ X v H' (execOp a.eval o):=by
 cases m:op.fsl
 case true=>
  cases op<;>simp only [dn.fsl,reduceCtorEq]at m;obtain⟨rfl,u,X',B,E,F,H,I,J,_⟩:=vj d g j b h;exact⟨u,X',.inl B,E,F,H,I,J⟩
 by_cases s:cls op=.p∨cls op=.r
 ·exact gJ.aiJ g d (acr d j b s m h)
 ·cases op with
  | pre st sz=>exact afW d g b h
  | alloc zs=>
   simp only [bE,AI,OF]at h;obtain⟨rfl,rfl⟩:=h;exact TI d g b
  | box x=>
   simp only [bE]at h;split at h
   ·rename_i xs q;simp only [AI,OF]at h;obtain⟨rfl,rfl⟩:=h;exact ad9 d g j b q
   ·simp at h
  | bR sz zs n ps=>exact Iy d g j b h| store n x y=>exact VH d g j b h
  | kM=>
   simp only [bE,AI,OF]at h;obtain⟨rfl,rfl⟩:=h;exact UO d g b
  | mh K x y z=>exact UI d g j b h| dN sz l zs x y=>exact Bc d g j b h| range x=>exact Vl d g j b h| next x=>exact aaT d g j b h
  | append sz l x y=>exact Iw d g j b h| Z5 x=>simp [dW]at b| copy sz x y=>simp [dW]at b| clear sz zs x=>exact T2 d g j b h| mu sz l zs x y=>exact ZS d g j b h| mN x=>exact JO d g j b h| rv sz x y z=>exact abP d g j b h| qY x=>exact US d g j b h| call f xs A=>simp [bE]at h| bY x xs A=>simp [bE]at h| recover=>simp [bE]at h| defer x xs=>simp [bE]at h| bad=>simp [bE]at h| _=>exact absurd (by simp [cls]) s
end
section
variable{Q:Program}{σ:Nat→FuncId}{X:Wd}
def lu(n:Nat)(H:an):V→Prop
 | .c x=>dT n H x| .a xs=>∀ x ∈ xs,dT n H x| _=>True
theorem lu.le{n:Nat}{H H':an}(h:gm H H'){v:V}(b:lu n H v):lu n H' v:=by
 cases v with
 | c x=>exact dT.le n h b| a xs=>exact fun x d=>dT.le n h (b x d)
 | _=>trivial
theorem aeL(n:Nat)(v:V)(H:an):gm H (mkV n H v):=by
 cases v with
 | c x=>exact kj n x H| a xs=>exact gm.foldl (fun H x=>kj n x H) xs H
 | _=>exact gm.refl H
theorem Ba(n:Nat)(v:V)(H:an):lu n (mkV n H v) v:=by
 cases v with
 | c x=>exact gK n x H| a xs=>exact fun x b=>fG (fun x H=>gK n x H) xs H x b
 | _=>trivial
theorem pj(n:Nat):∀(b:List V) (H:an),gm H (b.foldl (mkV n) H)
 | [],H=>gm.refl H| v::b,H=>(aeL n v H).trans (pj n b _)
theorem qW(n:Nat):∀(b:List V) (H:an),∀ v ∈ b,lu n (b.foldl (mkV n) H) v
 | u::b,H,v,d=>by
  rcases alW.1 d with rfl | d
  ·exact(Ba n v H).le (pj n b _)
  ·exact qW n b _ v d
def FV1(σ:Nat→FuncId)(F:Nat→Nat→Prop)(w:World)(v:V)(u:Value):Prop:=∀ X:Wd,X.F=F→X.w=w→iq σ X v u
def FV(σ:Nat→FuncId)(F:Nat→Nat→Prop)(w:World)(v:V)(u:Value):Prop:=∀ X:Wd,X.F=F→X.w=w→VR σ X v u
theorem acd(z:SR Q σ X)(q:FL X){H:an}(s:dq H X.H){n:Nat}{v F:V}{u:Value}(d:dE n H v=aa F)(A:lu n H v)(B:iq σ X v u):FV1 σ X.F X.w F u:=by
 intro Z g j;cases v with
 | c x=>
  simp only [dE,IN]at d;obtain⟨y,m,rfl⟩:=d;have:=frz z q s n m A B;rw [←g,←j]at this;exact this
 | a xs=>
  simp only [dE,IN]at d;obtain⟨ys,b,rfl⟩:=d;obtain⟨us,rfl,l⟩:=B;have b:=fQ b;refine⟨us,rfl,A2.map ⟨by rw [←l.len,b.len],fun i y u m I=>?_⟩⟩;have hi:i<xs.length:=by rw [b.len];exact(IS.1 m).1
  have E:=By hi;have:=frz z q s n (b.2 i _ _ E m) (A _ (IT hi)) (l.2 i _ _ E I);rw [←g,←j]at this;exact this
 | top=>simp [dE]at d| t J=>simp [dE]at d
def b7.full:b7→b7
 | .box cs fl=>.box cs (Nat.max fl cs.length)| .cO s cs fl e st=>.cO s cs (Nat.max fl cs.length) e st| b=>b
theorem wJ(H:an):gm H (H.map b7.full):=by
 refine⟨by simp,fun b x y g d=>?_⟩;rw [amk,g]at d;simp only [alZ,AI]at d;subst d;cases x<;>simp [dx,b7.full,al3]
theorem fY:∀(n:Nat) {H:an} {x:C} {y:FC},eA n H x=aa y→dT n (H.map b7.full) x
 | n,H,.f _,y,_=>by cases n<;>trivial
 | 0,H,.ptr _ _ _,y,_=>trivial| 0,H,.sl _ _ _ _ _ _,y,_=>trivial| 0,H,.cl _ _,y,_=>trivial| 0,H,.yl _,y,_=>trivial| 0,H,.mp _,y,_=>trivial| 0,H,.it _,y,_=>trivial| 0,H,.bm _ _,y,_=>trivial| 0,H,.mi _,y,_=>trivial
 | n+1,H,.ptr b E B,y,d=>by
  intro cs fl j;rw [amk]at j;simp only [eA]at d;split at d
  ·rename_i cs' u g;rw [g]at j;simp only [alZ,AI,b7.full,b7.box.injEq]at j;obtain⟨rfl,rfl⟩:=j;simp only [IN]at d;obtain⟨ys,m,rfl⟩:=d;refine⟨alS _ _,fun x v=>?_⟩;obtain⟨i,hi⟩:=amq v;obtain⟨y,_,z⟩:=(fQ m).get hi;exact fY n z
  ·simp at d
 | n+1,H,.sl b o l c B sz,y,d=>by
  intro bU j;rw [amk]at j;simp only [eA]at d;split at d
  ·rename_i cs' u g;rw [g]at j;simp only [alZ,AI,b7.full]at j;subst j;split at d
   ·rename_i q;simp only [IN]at d;obtain⟨ys,m,rfl⟩:=d;refine⟨alL q (alS _ _),fun x v=>?_⟩;obtain⟨i,hi⟩:=amq v;obtain⟨y,_,z⟩:=(fQ m).get hi;exact fY n z
   ·simp at d
  ·rename_i s cs' u e g;rw [g]at j;simp only [alZ,AI,b7.full]at j;subst j;split at d
   ·rename_i q;simp only [IN]at d;obtain⟨ys,m,rfl⟩:=d;refine⟨alL q.2.2 (alS _ _),fun x v=>?_⟩;obtain⟨i,hi⟩:=amq v;obtain⟨y,_,z⟩:=(fQ m).get hi;exact fY n z
   ·simp at d
  ·rename_i s cs' u e g;rw [g]at j;simp only [alZ,AI,b7.full]at j;subst j;trivial
  ·rename_i s cs' u e g;rw [g]at j;simp only [alZ,AI,b7.full]at j;subst j;trivial
  ·simp at d
 | n+1,H,.cl f A,y,d=>by
  simp only [eA,IN]at d;obtain⟨ys,m,rfl⟩:=d;intro x v;obtain⟨i,hi⟩:=amq v;obtain⟨y,_,z⟩:=(fQ m).get hi;exact fY n z
 | n+1,H,.yl _,y,d=>trivial| n+1,H,.mp _,y,d=>trivial| n+1,H,.it _,y,d=>trivial| n+1,H,.bm _ _,y,d=>trivial| n+1,H,.mi _,y,d=>trivial
theorem wK{n:Nat}{H:an}{v l:V}(b:dE n H v=aa l):lu n (H.map b7.full) v:=by
 cases v with
 | c x=>
  simp only [dE,IN]at b;obtain⟨y,d,rfl⟩:=b;exact fY n d
 | a xs=>
  simp only [dE,IN]at b;obtain⟨ys,g,rfl⟩:=b;intro x j;obtain⟨i,hi⟩:=amq j;obtain⟨y,_,d⟩:=(fQ g).get hi;exact fY n d
 | _=>trivial
def Wd.inner(X:Wd):Wd:=⟨fun _=>ab,X.F,[],X.w,X.w.heap.size⟩
theorem SR.inner(d:SR Q σ X):SR Q σ X.inner:=⟨fun b L h=>by simp [Wd.inner]at h,fun b j L g h=>by simp [Wd.inner]at h,d.fb⟩
def Wd.ja(Y:Wd):Wd:=Wd.flag { Y with H:=Y.H.map b7.full }
theorem SR.ja{Y:Wd}(b:SR Q σ Y):SR Q σ Y.ja∧Ext Y.H.length Y Y.ja∧FL Y.ja:=by
 obtain⟨h1,h2⟩:=SR.ahead b (wJ Y.H).ext;obtain⟨h3,h4,h5⟩:=SR.flag h1;exact⟨h3,h2.trans (h4.mono (by simp)),h5⟩
theorem AQ{Y:Wd}(J:SR Q σ Y){n:Nat}{v g:V}{u:Value}(b:me n Y.H v=aa g)(A:VR σ Y v u):FV σ Y.ja.F Y.w g u:=by
 obtain⟨F,H,I⟩:=SR.ja J;have m:=VR.ext' σ H A;have q:∀ {v g:V} {u:Value},dE n Y.H v=aa g→iq σ Y.ja v u→FV1 σ Y.ja.F Y.w g u:=by
  intro v g u b A;have z:dE n Y.ja.H v=aa g:=by
   show dE n (Y.H.map b7.full) v=aa g;cases v with
   | c x=>simp only [dE]at b ⊢;rw [mz n (wJ Y.H)];exact b| a xs=>simp only [dE]at b ⊢;rw [ft (fun x _=>mz n (wJ Y.H) x)];exact b
   | _=>simp [dE]at b
  exact acd F I (dq.refl _) z (wK b) A
 intro Z j l;cases v with
 | t L=>
  simp only [me,IN]at b;obtain⟨M,d,rfl⟩:=b;obtain⟨us,rfl,s⟩:=m;have d:=fQ d;refine⟨us,rfl,by rw [←s.len,d.len],fun i y u E K=>?_⟩;have hi:i<L.length:=by rw [d.len];exact(IS.1 E).1
  have B:=By hi;exact q (d.2 i _ _ B E) (s.2 i _ _ B K) Z j l
 | c x=>exact VR.VY σ (q (v:=.c x) b m Z j l)| a xs=>exact VR.VY σ (q (v:=.a xs) b m Z j l)| top=>simp [me,dE]at b
theorem SR.outer(q:SR Q σ X)(u:X.B≤X.w.heap.size){Y:Wd}(s:SR Q σ Y)(d:Ext 0 X.inner Y) :
  SR Q σ { X with F:=Y.ja.F,w:=Y.w }∧Ext X.H.length X { X with F:=Y.ja.F,w:=Y.w }∧X.B≤Y.w.heap.size:=by
 obtain⟨h1,h2,h3⟩:=SR.ja s;have vn:X.w.heap.size≤Y.w.heap.size:=d.size;have g:∀ k,k<X.w.heap.size→Y.w.heap[k]?=X.w.heap[k]?:=fun k m=>d.frame k m (fun b L h=>by simp [Wd.inner]at h);have l:∀ c i,Y.ja.F c i→X.F c i∨X.w.heap.size≤c:=by
  intro c i h;rcases h2.ox c i h with h | h | ⟨b,L,hb,rfl⟩
  ·rcases d.ox c i h with h | h | ⟨b,L,hb,_⟩
   ·exact .inl h
   ·exact .inr h
   ·simp [Wd.inner]at hb
  ·exact .inr (alL vn h)
  ·have:=(s.br b L hb).1;rw [d.B]at this;exact .inr this
 have j:Ext X.H.length X { X with F:=Y.ja.F,w:=Y.w }:=
  {B:=rfl,F:=fun c i h=>h2.F c i (d.F c i h)
   ox:=fun c i h=>(l c i h).elim .inl fun h=>.inr (.inl h)
   fw:=fun c i h=>d.fw c i h
   bu:=fun b _ bU hb=>⟨bU,hb,by cases bU<;>simp⟩
   vp:=fun b L h=>.inl ⟨b,L,h,rfl⟩,size:=vn,os:=d.os,tape:=d.tape,output:=d.output,frame:=fun k m _=>g k m }
 refine⟨⟨fun b L hb=>?_,q.inj,fun c i h=>h1.fb c i h⟩,j,alL u vn⟩;obtain⟨g1,g2,bU,g3,g4⟩:=q.br b L hb;refine⟨g1,aml g2 vn,bU,g3,BR.ext Q σ j (g _ g2) (fun i h=>?_) g4⟩;rcases l _ _ h with h | h
 ·exact h
 ·omega
end
section
variable{Q:Program}{σ:Nat→FuncId}{X:Wd}
def fO(Q:Program)(σ:Nat→FuncId)(X:Wd)(v:V)(H':an)(X':Wd)(u:Value):Prop:=
 X'.H=H'∧SR Q σ X'∧VR σ X' v u∧Ext X.H.length X X'∧X'.B≤X'.w.heap.size
def ob(b:CallKind)(cs:List Frame):Prop:=b=.normal∨(b=.deferred∧∃ c rest,cs=c::rest∧c.mode=.returning)
def iK(b:Frame)(cs:List Frame):Prop:=ob b.kind cs
theorem ob.JC{fr:Frame}{cs:List Frame}(h:ob fr.kind cs):tryRecover fr cs=ab:=by
 unfold tryRecover;rcases h with h | ⟨h,c,rest,rfl,b⟩
 ·rw [h]
 ·rw [h];simp [b]
def Leaves(Q:Program)(f:FuncId)(d:CallKind)(b:Frame)(u:Value)(w:World):Prop:=
 b.mode=.returning∧b.defers=[]∧b.kind=d∧b.fn=f∧∃ fn,Q.funcs[f]?=aa fn∧(Go.results fn b.tmps).run Q w=.ok u w
structure fo(Q:Program)(σ:Nat→FuncId)(call:du):Prop where
 enters:∀ f args H r,call (.fn f) args H=aa r→∀ as w,(callFunc (σ f) as).run Q w=.ok (.enter (σ f) as) w
 fn:∀ f args H r H',call (.fn f) args H=aa (r,H')→∀(X:Wd) us kind cs,X.H=H→SR Q σ X→X.B≤X.w.heap.size→A2 (VR σ X) args us→ob kind cs→kind=.normal∨f≠wQ →
  ∃ fr X' u,Steps Q (lone (Frame.enter Q (σ f) us.toArray kind) cs X.w) (lone fr cs X'.w)∧Leaves Q (σ f) kind fr u X'.w∧fO Q σ X r H' X' u
 yield:∀ b args H r H',call (.yield b) args H=aa (r,H')→∀(X:Wd) us c cs L,X.H=H→SR Q σ X→X.B≤X.w.heap.size→A2 (VR σ X) args us→X.cC b=aa L →
  ∃ f tmps as bd X' u,(Instr.yield L.c us.toArray).run Q X.w=.ok (.round L.c f tmps as bd) X.w ∧
   Steps Q (lone (Frame.round L.c f tmps as bd .normal) (c::cs) X.w) (lone (c.finish u) cs X'.w)∧fO Q σ X r H' X' u
def cZ(Q:Program)(σ:Nat→FuncId)(X:Wd)(o:Oper)(a:Act)(v:V)(H':an):Prop:=
 ∀(b:Frame) (ops:Array Oper) (i:Nat) (rest:List Nat) (k:List Item) (cs:List Frame),ops[i]?=aa o→Region.wanted o (yielded ops a.tmps)=ae→iK b cs →
  ∃ X' u,Steps Q (lone (b.atR a (.inRegion ops (i::rest)::k)) cs X.w) (lone (b.atR (a.put o.dst u) (.inRegion ops rest::k)) cs X'.w)∧fO Q σ X v H' X' u
theorem cZ.aiI{o:Oper}{a:Act}{v:V}{H':an}(j:∀ c,o.op≠.defer c)(h:gJ Q σ X v H' (execOp a.eval o)):cZ Q σ X o a v H':=by
 intro b ops i rest k cs ho l m;obtain⟨u,X',d,h1,h2,h3,h4,h5⟩:=h;refine⟨X',u,.one (step_lone_go ?_),h1,h2,h3,h4,h5⟩;rw [stepGR_op ho l,Oper.semAt_eq _ _ _ j];have g:=Frame.finish_atR b a ops i rest k u;rw [ho]at g;simp only [alP]at g;rw [←g];rcases d with d | ⟨d,rfl⟩<;>simp [stepG.apply,Sem.runT_eq,d]
theorem cZ.tj{o:Oper}{a:Act}{v:V}{H':an}(j:∀ c,o.op≠.defer c){f:FuncId}{us:Array Value}(g:(execOp a.eval o).run Q X.w=.ok (.enter f us) X.w)
  (h:∀ cs,∃ fr X' u,Steps Q (lone (Frame.enter Q f us .normal) cs X.w) (lone fr cs X'.w)∧Leaves Q f .normal fr u X'.w∧fO Q σ X v H' X' u):cZ Q σ X o a v H':=by
 intro b ops i rest k cs ho l y;obtain⟨fr,X',u,h1,⟨l1,l2,m,q,fn,s,x⟩,h3⟩:=h (b.atR a (.inRegion ops (i::rest)::k)::cs);refine⟨X',u,.head (step_lone_go (fr':=Frame.enter Q f us .normal) (cs':=b.atR a (.inRegion ops (i::rest)::k)::cs) (w':=X.w) ?_) (h1.trans (.one ?_)),h3⟩
 ·rw [stepGR_op ho l,Oper.semAt_eq _ _ _ j];simp [stepG.apply,Sem.runT_eq,g,Frame.atR]
 ·have d:=Frame.finish_atR b a ops i rest k u;rw [ho]at d;simp only [alP]at d;rw [←d];exact step_leave_returned ⟨l1,l2,m,fn,by rw [q];exact s,x⟩
theorem cZ.UW{o:Oper}{a:Act}{v:V}{H':an}(j:∀ c,o.op≠.defer c){l:Nat}{f:FuncId}{tmps:Array Value}{as bd:Code}(g:(execOp a.eval o).run Q X.w=.ok (.round l f tmps as bd) X.w)
  (h:∀ c cs,∃ X' u,Steps Q (lone (Frame.round l f tmps as bd .normal) (c::cs) X.w) (lone (c.finish u) cs X'.w)∧fO Q σ X v H' X' u):cZ Q σ X o a v H':=by
 intro b ops i rest k cs ho m q;obtain⟨X',u,h1,h3⟩:=h (b.atR a (.inRegion ops (i::rest)::k)) cs;refine⟨X',u,.head (step_lone_go (fr':=Frame.round l f tmps as bd .normal) (cs':=b.atR a (.inRegion ops (i::rest)::k)::cs) (w':=X.w) ?_) ?_,h3⟩
 ·rw [stepGR_op ho m,Oper.semAt_eq _ _ _ j];simp [stepG.apply,Sem.runT_eq,g,Frame.atR]
 ·have d:=Frame.finish_atR b a ops i rest k u;rw [ho]at d;simp only [alP]at d;rw [←d];exact h1
theorem nT{x:V}{u:Value}{args:List V}{us:List Value}{c:Callee}{d:List V}(j:bW x args=aa (c,d))(l:VR σ X x u)(q:A2 (VR σ X) args us) :
  match c with
  | .fn f=>∃ fst cap:List Value,u=.func (.func (σ f)) fst.toArray cap.toArray∧A2 (VR σ X) d (fst++us++cap)| .yield b=>d=args∧∃ L,X.cC b=aa L∧u=.func (.yield L.c) #[] #[]:=by
 unfold bW at j;split at j
 ·rename_i f m;cases j;cases l with
  | fn _ _ cap y z=>
   refine⟨[],cap,rfl,q.append (A2.map ⟨y.symm,fun i x u l A=>?_⟩)⟩;exact z i x u l A
 ·rename_i f m;cases j;obtain⟨cap,rfl,g⟩:=l;exact⟨[],cap,rfl,q.append (A2.map (g.ld fun x u h=>CR.VY σ h))⟩
 ·rename_i b;cases j;obtain⟨L,v,_,rfl⟩:=l;exact⟨rfl,L,v,rfl⟩
 ·rename_i f first
  cases j;obtain⟨cap,rfl,g⟩:=l;have s:A2 (VR σ X) (first.map .c) cap:=A2.map (g.ld fun x u h=>CR.VY σ h);exact⟨cap,[],rfl,by simpa using s.append q⟩
 ·simp at j
theorem ik{a:Act}{o:Oper}{cl:Call}{y:Operand}(b:o.op=.call cl)(g:cl.callee=.value y){w:World}{fn:Fn}{fst cap:Array Value}(d:a.eval y=.func fn fst cap) :
  (execOp a.eval o).run Q w=(invoke (.fn fn cap) (fst++cl.args.map a.eval)).run Q w:=by
 simp only [execOp,b,resolve,g,d,Deferred.ofValue,Sem.run_bind,Sem.run_pure,Result.andThen_ok]
theorem eY{f:FuncId}{cap as:Array Value}{w:World}(h:∀ as w,(callFunc f as).run Q w=.ok (.enter f as) w):(invoke (.fn (.func f) cap) as).run Q w=.ok (.enter f (as++cap)) w:=by
 simp only [invoke];exact h _ _
end
section
variable{Q:Program}{σ:Nat→FuncId}{X:Wd}{call:du}
theorem aai{n:Nat}{H H':an}(h:gm H H')(v:V):dE n H' v=dE n H v:=by
 cases v with
 | c x=>simp only [dE,mz n h]| a xs=>simp only [dE,ft (fun x _=>mz n h x)]
 | _=>rfl
theorem xz(K:fo Q σ call)(hS:SR Q σ X)(hB:X.B≤X.w.heap.size){f:Nat}{args:List V}{us:List Value}{H H':an}{r':V}(g:eU call f args H=aa (r',H'))(hH:dq H' X.H)(L:A2 (VR σ X) args us)(cs:List Frame) :
  (∀ as w,(callFunc (σ f) as).run Q w=.ok (.enter (σ f) as) w) ∧
  ∃ l X' u,Steps Q (lone (Frame.enter Q (σ f) us.toArray .normal) cs X.w) (lone l cs X'.w)∧Leaves Q (σ f) .normal l u X'.w∧fO Q σ X r' X.H X' u∧X'.cC=X.cC:=by
 unfold eU at g;split at g
 ·simp at g
 ·rename_i s d;split at g
  ·simp at g
  ·rename_i r S b;split at g
   ·simp at g
   ·rename_i a7 M;simp only [AI,OF]at g;obtain⟨rfl,rfl⟩:=g;have A:=pj deep args H;have B:=qW deep args H;obtain⟨v,J,h3⟩:=SR.flag hS;have d:=fQ d;have z:A2 (VR σ X.flag.inner) s us:=by
     refine⟨by rw [←d.len];exact L.len,fun i y u O hu=>?_⟩;have hi:i<args.length:=by rw [d.len];exact(IS.1 O).1
     have N:=By hi;have m:dE deep H args[i]=aa y:=d.2 i _ _ N O;have q:=VR.ext' σ J (L.2 i _ _ N hu);rw [←aai A]at m;have E:iq σ X.flag args[i] u:=by
      cases j:args[i]with
      | c x=>rw [j]at q;exact q| a xs=>rw [j]at q;exact q| top=>trivial| t vs=>rw [j]at m;simp [dE]at m
     exact VR.VY σ (acd v h3 hH m (B _ (IT hi)) E X.flag.inner rfl rfl)
    obtain⟨l,Y,u,U,W,Z,I,g5,g6,g7⟩:=K.fn f s [] r S b X.flag.inner us .normal cs rfl (SR.inner v) (alk _) z (.inl rfl) (.inl rfl);obtain⟨k1,k2,k3⟩:=SR.outer v hB I g6;refine⟨K.enters f s [] _ b,l,{ X.flag with F:=Y.ja.F,w:=Y.w },u,U,W,⟨rfl,k1,?_,J.trans (k2.mono (alk _)),k3⟩,rfl⟩;rw [←Z]at M;exact AQ I M g5 _ rfl rfl
theorem mM{o:Oper}{f:Nat}{xs:List Arg}{h:Bool}(b:dW Q σ o (.call f xs h)=ae):∃ c,o.op=.call c∧c.callee=.value (.func (σ f))∧VX σ xs c.args=ae:=by
 simp only [dW]at b;split at b
 ·rename_i c j;simp only [dX]at b;split at b
  ·rename_i g d;simp only [If,beq_iff_eq]at b;exact⟨c,j,by rw [d,b.1],b.2⟩
  ·simp at b
 ·simp at b
theorem xq{o:Oper}{x:Arg}{xs:List Arg}{h:Bool}(b:dW Q σ o (.bY x xs h)=ae):∃ c y,o.op=.call c∧c.callee=.value y∧mA σ x y=ae∧VX σ xs c.args=ae:=by
 simp only [dW]at b;split at b
 ·rename_i c d;simp only [dX]at b;split at b
  ·rename_i y g;simp only [If]at b;exact⟨c,y,d,g,b.1,b.2⟩
  ·simp at b
 ·simp at b
theorem kP{o:Oper}{c:Call}(h:o.op=.call c):∀ c,o.op≠.defer c:=fun b e=>by rw [h]at e;cases e
theorem yT(l:fo Q σ call)(q:SR Q σ X)(j:X.B≤X.w.heap.size){a:Act}{aE:T}(E:RR σ X aE a.tmps){o:Oper}{f:Nat}{xs:List Arg}{h:Bool}(I:dW Q σ o (.call f xs h)=ae)
  {H H':an} {v:V} (y:eU call f (dw aE xs) H=aa (v,H')) (m:dq H' X.H):cZ Q σ X o a v X.H:=by
 obtain⟨c,x,F,d⟩:=mM I;have s:=mH E d;have b:=(xz l q j y m s []).1;refine cZ.tj (kP x) (f:=σ f) (us:=c.args.map a.eval) ?_ fun cs=>?_
 ·rw [ik x F (fn:=.func (σ f)) (fst:=#[]) (cap:=#[]) rfl,eY b];simp
 ·obtain⟨_,z,X',u,g,A,B,_⟩:=xz l q j y m s cs;exact⟨z,X',u,by rw [Array.toArray_toList]at g;exact g,A,B⟩
theorem wz(A:fo Q σ call)(F:SR Q σ X)(z:X.B≤X.w.heap.size){a:Act}{aE:T}(E:RR σ X aE a.tmps){o:Oper}{f:Nat}{xs:List Arg}{h:Bool}(K:dW Q σ o (.call f xs h)=ae)
  {H H':an} {v:V} (L:eU call f (dw aE xs) H=aa (v,H')) (B:dq H' X.H)
  (b:Frame) (ops:Array Oper) (i:Nat) (rest:List Nat) (k:List Item) (cs:List Frame) (g:ops[i]?=aa o) (M:Region.wanted o (yielded ops a.tmps)=ae) :
  ∃ X' u,Steps Q (lone (b.atR a (.inRegion ops (i::rest)::k)) cs X.w) (lone (b.atR (a.put o.dst u) (.inRegion ops rest::k)) cs X'.w)∧fO Q σ X v X.H X' u∧X'.cC=X.cC:=by
 obtain⟨c,s,J,m⟩:=mM K;have I:=mH E m;obtain⟨l,Z,X',u,q,⟨N,O,S,U,fn,W,Y⟩,x,y⟩:=xz A F z L B I (b.atR a (.inRegion ops (i::rest)::k)::cs);rw [Array.toArray_toList]at q;have j:(execOp a.eval o).run Q X.w=.ok (.enter (σ f) (c.args.map a.eval)) X.w:=by
  rw [ik s J (fn:=.func (σ f)) (fst:=#[]) (cap:=#[]) rfl,eY l];simp
 refine⟨X',u,.head (step_lone_go (fr':=Frame.enter Q (σ f) (c.args.map a.eval) .normal) (cs':=b.atR a (.inRegion ops (i::rest)::k)::cs) (w':=X.w) ?_) (q.trans (.one ?_)),x,y⟩
 ·rw [stepGR_op g M,Oper.semAt_eq _ _ _ (kP s)];simp [stepG.apply,Sem.runT_eq,j,Frame.atR]
 ·have d:=Frame.finish_atR b a ops i rest k u;rw [g]at d;simp only [alP]at d;rw [←d];exact step_leave_returned ⟨N,O,S,fn,by rw [U];exact W,Y⟩
theorem yS(j:fo Q σ call)(A:SR Q σ X)(y:X.B≤X.w.heap.size){a:Act}{aE:T}(z:RR σ X aE a.tmps){o:Oper}{f:Nat}{xs:List Arg}{h:Bool}(F:dW Q σ o (.call f xs h)=ae)
  {H':an} {v:V} (m:call (.fn f) (dw aE xs) X.H=aa (v,H')):cZ Q σ X o a v H':=by
 obtain⟨c,l,E,d⟩:=mM F;have B:=mH z d;have b:=j.enters _ _ _ _ m;refine cZ.tj (kP l) (f:=σ f) (us:=c.args.map a.eval) ?_ fun cs=>?_
 ·rw [ik l E (fn:=.func (σ f)) (fst:=#[]) (cap:=#[]) rfl,eY b];simp
 ·obtain⟨q,X',u,g,s,x⟩:=j.fn _ _ _ _ _ m X _ .normal cs rfl A y B (.inl rfl) (.inl rfl);exact⟨q,X',u,by rw [Array.toArray_toList]at g;exact g,s,x⟩
theorem TZ(A:fo Q σ call)(M:SR Q σ X)(J:X.B≤X.w.heap.size){a:Act}{aE:T}(K:RR σ X aE a.tmps){o:Oper}{x:Arg}{xs:List Arg}{h:Bool}(hm:dW Q σ o (.bY x xs h)=ae)
  {H':an} {v:V} {c:Callee} {args:List V} (m:bW (x.ev aE) (dw aE xs)=aa (c,args)) (E:call c args X.H=aa (v,H')):cZ Q σ X o a v H':=by
 obtain⟨cl,y,s,O,hy,H⟩:=xq hm;have N:=mH K H;have S:=nT m (bS K hy) N;cases c with
 | fn f=>
  obtain⟨fst,cap,j,F⟩:=S;have B:=A.enters _ _ _ _ E;refine cZ.tj (kP s) (f:=σ f) (us:=fst.toArray++cl.args.map a.eval++cap.toArray) ?_ fun cs=>?_
  ·rw [ik s O j,eY B]
  ·obtain⟨W,X',u,q,z,Y⟩:=A.fn _ _ _ _ _ E X _ .normal cs rfl M J F (.inl rfl) (.inl rfl);refine⟨W,X',u,?_,z,Y⟩;have e:(fst++(cl.args.map a.eval).toList++cap).toArray=fst.toArray++cl.args.map a.eval++cap.toArray:=by simp
   rw [e]at q;exact q
 | yield b=>
  obtain⟨rfl,L,Z,j⟩:=S;have key:=fun c cs=>A.yield b _ _ _ _ E X _ c cs L rfl M J N Z;obtain⟨f,tmps,as,bd,_,_,g,_⟩:=key default [];refine cZ.UW (kP s) (l:=L.c) (f:=f) (tmps:=tmps) (as:=as) (bd:=bd) ?_ fun c cs=>?_
  ·rw [ik s O j,Array.empty_append];rw [Array.toArray_toList]at g;exact g
  ·obtain⟨f',I,as',U,X',u,d,q,z⟩:=key c cs;rw [g]at d;simp only [Result.ok.injEq,Next.round.injEq,true_and,and_true]at d;obtain⟨rfl,rfl,rfl,rfl⟩:=d;exact⟨X',u,q,z⟩
end
section
variable{Q:Program}{σ:Nat→FuncId}{X:Wd}{call:du}
def rV(σ:Nat→FuncId)(X:Wd):fk→Deferred→Prop
 | .er b,d=>∃ L o,X.cC b=aa L∧X.H[b]?=aa (.fg o)∧d = { target:=.collected L.c,args:=#[] }| .fn f args,d=>∃ us cap:Array Value,d = { target:=.fn (.func (σ f)) cap,args:=us }∧A2 (VR σ X) args (us.toList++cap.toList)
theorem rV.eb{X X':Wd}(g:ow X.H.length X X'){x:fk}{d:Deferred}(h:rV σ X x d):rV σ X' x d:=by
 cases x with
 | er b=>
  obtain⟨L,o,h1,h2,h3⟩:=h;obtain⟨blk',h4,h5⟩:=g.bu b (IS.1 h2).1 _ h2;cases blk'<;>simp only at h5;exact⟨L,_,h5 L h1,h4,h3⟩
 | fn f args=>
  obtain⟨us,cap,h1,h2⟩:=h;exact⟨us,cap,h1,h2.ld fun _ _ h=>VR.eb σ g h⟩
def fN(σ:Nat→FuncId)(X:Wd)(b:List fk)(d:List Deferred):Prop:=A2 (rV σ X) b d
theorem rV.ext'{X X':Wd}(b:Ext X.H.length X X'){x:fk}{d:Deferred}(h:rV σ X x d):rV σ X' x d:=rV.eb b.W h
theorem fN.eb{X X':Wd}(b:ow X.H.length X X'){ds:List fk}{ms:List Deferred}(h:fN σ X ds ms):fN σ X' ds ms:=h.ld fun _ _ h=>rV.eb b h
theorem fN.ext'{X X':Wd}(b:Ext X.H.length X X'){ds:List fk}{ms:List Deferred}(h:fN σ X ds ms):fN σ X' ds ms:=h.ld fun _ _ h=>rV.ext' b h
def oy(Q:Program)(σ:Nat→FuncId)(X:Wd)(o:Oper)(a:Act)(ok:Frame→Prop)(v:V)(H':an)(d:List fk):Prop:=
 ∀(b:Frame) (ops:Array Oper) (i:Nat) (rest:List Nat) (k:List Item) (cs:List Frame),ops[i]?=aa o→Region.wanted o (yielded ops a.tmps)=ae→iK b cs→ok b →
  ∃(X':Wd) (u:Value) (a':Act),Steps Q (lone (b.atR a (.inRegion ops (i::rest)::k)) cs X.w) (lone (b.atR (a'.put o.dst u) (.inRegion ops rest::k)) cs X'.w)∧fO Q σ X v H' X' u∧a'.tmps=a.tmps∧fN σ X' d a'.defers
theorem cZ.VP{o:Oper}{a:Act}{v:V}{H':an}(h:cZ Q σ X o a v H'){ds:List fk}(d:fN σ X ds a.defers){ok:Frame→Prop}:oy Q σ X o a ok v H' ds:=by
 intro b ops i rest k cs ho j g _;obtain⟨X',u,h1,h2⟩:=h b ops i rest k cs ho j g;exact⟨X',u,a,h1,h2,rfl,d.ext' h2.2.2.2.1⟩
theorem cZ.ahead(j:SR Q σ X){d H':an}(g:dq X.H d){o:Oper}{a:Act}{v:V}(h:cZ Q σ { X with H:=d } o a v H'):cZ Q σ X o a v H':=by
 intro b ops i rest k cs ho m l;obtain⟨X',u,h1,h2,h3,h4,h5,h6⟩:=h b ops i rest k cs ho m l;exact⟨X',u,h1,h2,h3,h4,(SR.ahead j g).2.trans (h5.mono g.len),h6⟩
def gr(op:dn)(b:Frame):Prop:=b.roundOf=ab∨op.eS=ae
theorem Bo(z:SR Q σ X)(y:X.B≤X.w.heap.size){a:Act}{o:Oper}(g:dW Q σ o .recover=ae){u:List fk}(A:fN σ X u a.defers):oy Q σ X o a (gr .recover) (.c (.f .nY)) X.H u:=by
 intro b ops i rest k cs x E B q;have q:b.roundOf=ab:=q.elim id fun h=>by simp [dn.eS]at h
 simp only [dW]at g;split at g
 ·rename_i c v;simp only [dX]at g;split at g
  ·rename_i j;have l:(execOp a.eval o).run Q X.w=.ok .recover X.w:=by
    simp [execOp,v,resolve,j,invoke,builtin]
   refine⟨X,.nilIface,a,.one (step_lone_go ?_),⟨rfl,z,cT.nY,Ext.refl _ _,y⟩,rfl,A⟩;rw [stepGR_op x E,Oper.semAt_eq _ _ _ (kP v)];have d:=Frame.finish_atR b a ops i rest k .nilIface;rw [x]at d;simp only [alP]at d;rw [←d];have m:tryRecover (b.atR a (.inRegion ops (i::rest)::k)) cs=ab:=ob.JC B;have s:(b.atR a (.inRegion ops (i::rest)::k)).roundOf=ab:=q;simp [stepG.apply,Sem.runT_eq,l,m,s]
  ·simp at g
 ·simp at g
theorem Ua(B:SR Q σ X)(A:X.B≤X.w.heap.size){a:Act}{aE:T}(v:RR σ X aE a.tmps){o:Oper}{x:Arg}{xs:List Arg}(g:dW Q σ o (.defer x xs)=ae){u:List fk}(F:fN σ X u a.defers)
  {f:Nat} {args:List V} (E:bW (x.ev aE) (dw aE xs)=aa (.fn f,args)):oy Q σ X o a (gr (.defer x xs)) .top X.H (.fn f args::u):=by
 intro b ops i rest k cs z I K m;have m:b.roundOf=ab:=m.elim id fun h=>by simp [dn.eS]at h
 simp only [dW]at g;split at g
 ·rename_i c j;split at g
  ·rename_i y J;simp only [If]at g;have H:=nT E (bS v g.1) (mH v g.2);obtain⟨fst,cap,q,s⟩:=H;have l:(execOp a.eval o).run Q X.w=.ok (.defer { target:=.fn (.func (σ f)) cap.toArray,args:=fst.toArray++c.args.map a.eval }) X.w:=by
    simp [execOp,j,resolve,J,q,Deferred.ofValue]
   refine⟨X,undef,{ a with defers:={ target:=.fn (.func (σ f)) cap.toArray,args:=fst.toArray++c.args.map a.eval }::a.defers },.one (step_lone_go ?_),⟨rfl,B,trivial,Ext.refl _ _,A⟩,rfl,A2.cons ⟨_,_,rfl,by simpa using s⟩ F⟩;rw [stepGR_op z I,m,Oper.semAt_none];have d:=Frame.finish_atR b { a with defers:={ target:=.fn (.func (σ f)) cap.toArray,args:=fst.toArray++c.args.map a.eval }::a.defers } ops i rest k undef;rw [z]at d;simp only [alP]at d;rw [←d];simp [stepG.apply,Sem.runT_eq,l,Frame.atR]
  ·simp at g
 ·simp at g
theorem pc{o:Oper}{op:dn}(d:dW Q σ o op=ae)(g:∀ x xs,op≠.defer x xs)(j:op≠.bad):∀ c,o.op≠.defer c:=by
 intro c b;cases op
 case pre o sz=>cases o<;>simp [dW,b]at d
 case defer x xs=>exact g _ _ rfl
 case bad=>exact j rfl
 all_goals simp [dW,b]at d
theorem C8(A:fo Q σ call)(g:SR Q σ X)(l:X.B≤X.w.heap.size){a:Act}{s z:St}(m:X.H=s.heap)(q:RR σ X s.aE a.tmps)(u:fN σ X s.defs a.defers){o:Oper}{op:dn}(j:dW Q σ o op=ae){v:V}
  (h:eI call s op=aa (v,z)):oy Q σ X o a (gr op) v z.heap z.defs∧z.aE=s.aE:=by
 by_cases E:(∃ f xs h,op=.call f xs h)∨(∃ x xs h,op=.bY x xs h)∨op=.recover∨∃ x xs,op=.defer x xs
 ·rcases E with⟨f,xs,L,rfl⟩ | ⟨x,xs,L,rfl⟩ | rfl | ⟨x,xs,rfl⟩
  ·simp only [eI,IN,OF]at h;obtain⟨⟨I,H'⟩,d,rfl,rfl⟩:=h;refine⟨cZ.VP ?_ u,rfl⟩;unfold gu at d;split at d
   ·exact yS A g l q j (m▸d)
   ·have y:dq X.H H':=by
     have b:=d;unfold eU at b;split at b
     ·simp at b
     ·split at b
      ·simp at b
      ·split at b
       ·simp at b
       ·simp only [AI,OF]at b;rw [←b.2,m];exact(pj _ _ _).ext
    obtain⟨J,K⟩:=SR.ahead g y;refine cZ.ahead g y ?_;exact yT A (X:={ X with H:=H' }) J l (q.ext' σ K) j d (dq.refl _)
  ·simp only [eI]at h;split at h
   ·rename_i c args B;simp only [IN,OF]at h;obtain⟨⟨I,H'⟩,d,rfl,rfl⟩:=h;exact⟨cZ.VP (TZ A g l q j B (m▸d)) u,rfl⟩
   ·simp at h
  ·simp only [eI,AI,OF]at h;obtain⟨rfl,rfl⟩:=h;rw [←m];exact⟨Bo g l j u,rfl⟩
  ·simp only [eI]at h;split at h
   ·rename_i f args B;simp only [AI,OF]at h;obtain⟨rfl,rfl⟩:=h;refine⟨?_,rfl⟩;rw [←m];exact Ua g l q j u B
   ·simp at h
 ·have F:(bE s.aE s.heap op).map (fun r=>(r.1,{ s with heap:=r.2 }))=aa (v,z):=by
   cases op<;>first | exact h | (exfalso;apply E;simp)
  simp only [IN,OF]at F;obtain⟨⟨I,H'⟩,d,rfl,rfl⟩:=F;refine⟨cZ.VP (cZ.aiI (pc j ?_ ?_) (agn g l q j (m▸d))) u,rfl⟩
  ·rintro x xs rfl;exact E (.inr (.inr (.inr ⟨x,xs,rfl⟩)))
  ·rintro rfl;simp [bE]at d
end
section
variable{Q:Program}{σ:Nat→FuncId}{X:Wd}{call:du}
structure Fr(Q:Program)(σ:Nat→FuncId)(n:Nat)(X:Wd)(s:St)(a:Act):Prop where
 heap:X.H=s.heap
 sr:SR Q σ X
 b:X.B≤X.w.heap.size
 aE:RR σ X s.aE a.tmps
 defs:fN σ X s.defs a.defers
 size:n≤a.tmps.size
theorem nG{n:Nat}{ops:Array Oper}{o:Oper}{m:aQ}(F:kK Q σ n ops o m=ae){aE:T}{tmps:Array Value}(I:∀ p w',m.g=aa (p,w')→VR σ X (aE.get p) (tmps.getD p.toNat undef))(K:n≤tmps.size){w:Bool}(h:wanted aE m.g=aa w) :
  Region.wanted o (yielded ops tmps)=w:=by
 simp only [kK,If]at F;obtain⟨_,b⟩:=F;unfold Region.wanted;cases x:o.guard with
 | none=>
  rw [x]at b;cases g:m.g with
  | none=>rw [g]at h;simp only [wanted,AI]at h;simpa using h| some q=>rw [g]at b;simp at b
 | some L=>
  obtain⟨j,N⟩:=L;rw [x]at b;cases g:m.g with
  | none=>rw [g]at b;simp at b
  | some q=>
   obtain⟨p,w'⟩:=q;rw [g]at b h;simp only [If,beq_iff_eq]at b;obtain⟨rfl,b⟩:=b;split at b
   ·rename_i d J;simp only [If,beq_iff_eq,decide_eq_true_eq]at b;obtain⟨B,A⟩:=b;have l:=I p _ g;rw [B]at l;have v:d<tmps.size:=aml A K;have s:tmps.getD d undef=tmps[d]:=by simp [Array.getD,v]
    rw [s]at l;simp only [wanted]at h;simp only [yielded,J,alP,Array.getElem?_eq_getElem v];split at h
    ·rename_i H z;rw [z]at l;simp only [AI]at h;have y:cT σ X.F X.w (.bool H) tmps[d]:=l;generalize tmps[d]=u at y;cases y;subst h;simp
    ·rename_i z;rw [z]at l;obtain⟨us,E,M⟩:=l;simp only [AI]at h;subst h;rw [E];simp
    ·simp at h
   ·simp at b
theorem Vk{n:Nat}{ops:Array Oper}{o:Oper}{m:aQ}(s:kK Q σ n ops o m=ae){aE:T}{a:Act}(q:RR σ X aE a.tmps)(x:n≤a.tmps.size){v:V}{u:Value}(y:VR σ X v u) :
  RR σ X (ij aE m.dst v) (a.put o.dst u).tmps∧(a.put o.dst u).tmps.size=a.tmps.size∧(a.put o.dst u).defers=a.defers:=by
 simp only [kK,If]at s;obtain⟨⟨_,b⟩,_⟩:=s;split at b
 ·rename_i d p g j;simp only [If,beq_iff_eq,decide_eq_true_eq]at b;obtain⟨rfl,l⟩:=b;rw [g,j];exact⟨RR.set σ q (aml l x) y,by simp [Act.put],rfl⟩
 ·rename_i g j;rw [g,j];exact⟨q,rfl,rfl⟩
 ·simp at b
theorem VR.undef:VR σ X (.t []) undef:=⟨[],rfl,A2.nil⟩
theorem VS(S:fo Q σ call){n:Nat}{s E:St}{a:Act}(d:Fr Q σ n X s a){ops:Array Oper}{o:Oper}{q:aQ}(j:kK Q σ n ops o q=ae)(h:fj call s q=aa E)
  {b:Frame} {i:Nat} {rest:List Nat} {k:List Item} {cs:List Frame} (y:ops[i]?=aa o) (U:iK b cs) (W:gr q.op b) :
  ∃ X' a',Steps Q (lone (b.atR a (.inRegion ops (i::rest)::k)) cs X.w) (lone (b.atR a' (.inRegion ops rest::k)) cs X'.w)∧Fr Q σ n X' E a'∧Ext X.H.length X X'∧a'.tmps.size=a.tmps.size:=by
 unfold fj at h;split at h
 ·rename_i g;have g:=nG j (fun p w' _=>d.aE p) d.size g;split at h
  ·rename_i v Y M;simp only [AI]at h;subst h;have l:dW Q σ o q.op=ae:=by simp only [kK,If]at j;exact j.1.1
   obtain⟨N,O⟩:=C8 S d.sr d.b d.heap d.aE d.defs l M;obtain⟨X',u,a',F,⟨H,I,J,B,K⟩,x,L⟩:=N b ops i rest k cs y g U W;obtain⟨z,m,A⟩:=Vk j (X:=X') (a:=a') (by rw [x];exact d.aE.ext' σ B) (by rw [x];exact d.size) J;refine⟨X',a'.put o.dst u,F,⟨H,I,K,?_,by rw [A];exact L,by rw [m,x];exact d.size⟩,B,by rw [m,x]⟩;simpa [O]using z
  ·simp at h
 ·rename_i g;have g:=nG j (fun p w' _=>d.aE p) d.size g;simp only [AI]at h;subst h;obtain⟨z,m,A⟩:=Vk j d.aE d.size (VR.undef (σ:=σ) (X:=X));refine⟨X,a.put o.dst undef,.one ?_,⟨d.heap,d.sr,d.b,z,by rw [A];exact d.defs,by rw [m];exact d.size⟩,Ext.refl _ _,m⟩;have:=stepR_op_skip (P:=Q) (b:=b) (a:=a) (k:=k) (cs:=cs) (w:=X.w) (ops:=ops) (i:=i) (rest:=rest) (by simp [y,g]);rw [y]at this;exact this
 ·simp at h
theorem C_(I:fo Q σ call){n:Nat}{ops:Array Oper}{b:Frame}{k:List Item}{cs:List Frame}(J:iK b cs):∀(aos:List aQ) (j:Nat) (X:Wd) (s v:St) (a:Act),Fr Q σ n X s a →
  fC (kK Q σ n ops) (ops.toList.drop j) aos=ae→(∀ ao ∈ aos,gr ao.op b)→fB call aos s=aa v →
  ∃ X' a',Steps Q (lone (b.atR a (.inRegion ops ((List.range ops.size).drop j)::k)) cs X.w) (lone (b.atR a' k) cs X'.w)∧Fr Q σ n X' v a'∧Ext X.H.length X X'∧a'.tmps.size=a.tmps.size
 | [],j,X,s,v,a,B,d,_,h=>by
  simp only [fB,AI]at h;subst h;have U:(List.range ops.size).drop j=[]:=by
   cases g:ops.toList.drop j with
   | nil=>
    have:=anE.1 g;simp at this;rw [anE];simpa using this
   | cons x xs=>rw [g]at d;simp [fC]at d
  rw [U];exact⟨X,a,.one stepR_region_end,B,Ext.refl _ _,rfl⟩
 | ao::aos,j,X,s,v,a,B,d,K,h=>by
  cases g:ops.toList.drop j with
  | nil=>rw [g]at d;simp [fC]at d
  | cons o os=>
   rw [g]at d;simp only [fC,If]at d;have y:j<ops.toList.length:=by
    rcases alO j ops.toList.length with q | q
    ·exact q
    ·rw [anE.2 q]at g;simp at g
   have l:=alv y;rw [g]at l;simp only [List.cons.injEq]at l;obtain⟨W,H⟩:=l;simp only [fB]at h;split at h
   ·rename_i s1 q;have m:(List.range ops.size).drop j=j ::(List.range ops.size).drop (j+1):=by
     rw [alv (by simpa using y)];simp
    rw [m];obtain⟨z,a1,N,O,A,S⟩:=VS I B d.1 q (b:=b) (i:=j) (rest:=(List.range ops.size).drop (j+1)) (k:=k) (cs:=cs) (by simp at y;simp [y,W]) J (K _ (by simp));obtain⟨L,M,Y,Z,k3,k4⟩:=C_ I J aos (j+1) z s1 v a1 O (by rw [←H];exact d.2) (fun ao h=>K ao (by simp [h])) h;refine⟨L,M,N.trans Y,Z,A.trans (k3.mono ?_),k4.trans S⟩;have:=A.bu;rcases alO z.H.length X.H.length with u | F
    ·obtain⟨blk',E,_⟩:=A.bu z.H.length u _ (By u);have:=(IS.1 E).1;omega
    ·exact F
   ·simp at h
end
theorem kD{r r':T}{x:Arg}(h:∀ p ∈ x.rd,r.get p=r'.get p):x.ev r=x.ev r':=by
 cases x with
 | r p=>exact h p (by simp [Arg.rd])
 | k v=>rfl
theorem JF{r r':T}{x:Option Arg}(h:∀ p ∈ oRd x,r.get p=r'.get p):x.map (·.ev r)=x.map (·.ev r'):=by
 cases x with
 | none=>rfl| some x=>simp only [alZ];rw [kD h]
theorem fW{r r':T}{xs:List Arg}(h:∀ p ∈ xs.flatMap Arg.rd,r.get p=r'.get p):dw r xs=dw r' xs:=by
 unfold dw;refine List.map_congr_left fun x d=>kD fun p b=>h p (anm.2 ⟨x,d,b⟩)
theorem iL{r r':T}:∀(ps:List (Nat × Nat × Arg)) (cs:List C),(∀ p ∈ ps.flatMap (fun q=>q.2.2.rd),r.get p=r'.get p)→fx r cs ps=fx r' cs ps
 | [],cs,_=>rfl
 | (d,n,x)::ps,cs,h=>by
  simp only [fx];rw [kD (x:=x) (r:=r) (r':=r') fun p b=>h p (by simp [b])];split
  ·split
   ·exact iL ps _ fun p b=>h p (by simp only [List.flatMap_cons,aln];exact .inr b)
   ·rfl
  ·rfl
theorem BG{r r':T}{H:an}{op:dn}(h:∀ p ∈ op.rd,r.get p=r'.get p):bE r H op=bE r' H op:=by
 have e:∀ x:Arg,(∀ p ∈ x.rd,p ∈ op.rd)→x.ev r=x.ev r':=fun x A=>kD fun p d=>h p (A p d);have g:∀ x:Option Arg,(∀ p ∈ oRd x,p ∈ op.rd)→x.map (·.ev r)=x.map (·.ev r'):=fun x A=>JF fun p d=>h p (A p d);cases op
 case build zs ps=>simp only [bE];rw [iL ps _ h]
 case bR sz zs n ps=>
  simp only [bE];rw [iL (r:=r) (r':=r') (ps.map fun p=>(p.1*sz,sz,p.2)) _ fun p d=>h p (by
   simp only [anm,alC]at d;obtain⟨q,⟨q',j,rfl⟩,u⟩:=d;exact anm.2 ⟨q',j,u⟩)]
 case kh sz zs n ps=>
  simp only [bE];rw [iL (r:=r) (r':=r') (ps.map fun p=>(p.1*sz,sz,p.2)) _ fun p d=>h p (by
   simp only [anm,alC]at d;obtain⟨q,⟨q',j,rfl⟩,u⟩:=d;exact anm.2 ⟨q',j,u⟩)]
 case iI f xs=>simp only [bE];rw [fW h]
 case pick c a b=>
  simp only [bE];rw [e c (by simp +contextual [dn.rd])];split
  ·rename_i v _;cases v<;>simp [e a (by simp +contextual [dn.rd]),e b (by simp +contextual [dn.rd])]
  ·rfl
 case slice sz x lo hi mx=>simp only [bE];rw [e x (by simp +contextual [dn.rd]),g lo (by simp +contextual [dn.rd]),g hi (by simp +contextual [dn.rd]),g mx (by simp +contextual [dn.rd])]
 case pI n sz x lo hi mx=>simp only [bE];rw [e x (by simp +contextual [dn.rd]),g lo (by simp +contextual [dn.rd]),g hi (by simp +contextual [dn.rd]),g mx (by simp +contextual [dn.rd])]
 case rh x lo hi=>simp only [bE];rw [e x (by simp +contextual [dn.rd]),g lo (by simp +contextual [dn.rd]),g hi (by simp +contextual [dn.rd])]
 case mh B m k v=>simp only [bE];rw [e m (by simp +contextual [dn.rd]),e k (by simp +contextual [dn.rd]),e v (by simp +contextual [dn.rd])]
 case cV x=>simp only [bE];rw [e x (by simp +contextual [dn.rd])]
 case box x=>simp only [bE];rw [e x (by simp +contextual [dn.rd])]
 case load n x=>simp only [bE];rw [e x (by simp +contextual [dn.rd])]
 case dO x=>simp only [bE];rw [e x (by simp +contextual [dn.rd])]
 case un o x=>simp only [bE];rw [e x (by simp +contextual [dn.rd])]
 case ko k x=>simp only [bE];rw [e x (by simp +contextual [dn.rd])]
 case AE x=>simp only [bE];rw [e x (by simp +contextual [dn.rd])]
 case zd x=>simp only [bE];rw [e x (by simp +contextual [dn.rd])]
 case Z5 x=>simp only [bE];rw [e x (by simp +contextual [dn.rd])]
 case aT o x=>simp only [bE];rw [e x (by simp +contextual [dn.rd])]
 case field o n x=>simp only [bE];rw [e x (by simp +contextual [dn.rd])]
 case range x=>simp only [bE];rw [e x (by simp +contextual [dn.rd])]
 case next x=>simp only [bE];rw [e x (by simp +contextual [dn.rd])]
 case extract x i=>simp only [bE];rw [e x (by simp +contextual [dn.rd])]
 case len x=>simp only [bE];rw [e x (by simp +contextual [dn.rd])]
 case lens x=>simp only [bE];rw [e x (by simp +contextual [dn.rd])]
 case cap x=>simp only [bE];rw [e x (by simp +contextual [dn.rd])]
 case entry x=>simp only [bE];rw [e x (by simp +contextual [dn.rd])]
 case mN x=>simp only [bE];rw [e x (by simp +contextual [dn.rd])]
 case qY x=>simp only [bE];rw [e x (by simp +contextual [dn.rd])]
 case clear s z x=>simp only [bE];rw [e x (by simp +contextual [dn.rd])]
 case fu lo xs=>simp only [bE];rw [fW h]
 case zL f xs=>simp only [bE];rw [fW h]
 case rv s x y z=>simp only [bE];rw [e x (by simp +contextual [dn.rd]),e y (by simp +contextual [dn.rd]),e z (by simp +contextual [dn.rd])]
 case mu s b z x y=>simp only [bE];rw [e x (by simp +contextual [dn.rd]),e y (by simp +contextual [dn.rd])]
 case store n x y=>simp only [bE];rw [e x (by simp +contextual [dn.rd]),e y (by simp +contextual [dn.rd])]
 case bin o x y=>simp only [bE];rw [e x (by simp +contextual [dn.rd]),e y (by simp +contextual [dn.rd])]
 case eq n k x y=>simp only [bE];rw [e x (by simp +contextual [dn.rd]),e y (by simp +contextual [dn.rd])]
 case bN s a x y=>simp only [bE];rw [e x (by simp +contextual [dn.rd]),e y (by simp +contextual [dn.rd])]
 case idxs x y=>simp only [bE];rw [e x (by simp +contextual [dn.rd]),e y (by simp +contextual [dn.rd])]
 case zt l s n x y=>simp only [bE];rw [e x (by simp +contextual [dn.rd]),e y (by simp +contextual [dn.rd])]
 case append s b x y=>simp only [bE];rw [e x (by simp +contextual [dn.rd]),e y (by simp +contextual [dn.rd])]
 case copy s x y=>simp only [bE];rw [e x (by simp +contextual [dn.rd]),e y (by simp +contextual [dn.rd])]
 case lookup c z x y=>simp only [bE];rw [e x (by simp +contextual [dn.rd]),e y (by simp +contextual [dn.rd])]
 case dN s b z x y=>simp only [bE];rw [e x (by simp +contextual [dn.rd]),e y (by simp +contextual [dn.rd])]
 all_goals rfl
theorem C9{call:du}{s:St}{r':T}{op:dn}(h:∀ p ∈ op.rd,s.aE.get p=r'.get p){v:V}{m:St}(b:eI call s op=aa (v,m)):eI call { s with aE:=r' } op=aa (v,{ m with aE:=r' }):=by
 by_cases d:(∃ f xs h,op=.call f xs h)∨(∃ x xs h,op=.bY x xs h)∨op=.recover∨∃ x xs,op=.defer x xs
 ·rcases d with⟨f,xs,u,rfl⟩ | ⟨x,xs,u,rfl⟩ | rfl | ⟨x,xs,rfl⟩
  ·simp only [eI,IN,OF]at b ⊢;obtain⟨q,g,rfl,rfl⟩:=b;rw [fW h]at g;exact⟨q,g,rfl,rfl⟩
  ·simp only [eI]at b ⊢;rw [kD (x:=x) (r:=s.aE) (r':=r') (fun p d=>h p (by simp [dn.rd,d])),fW (xs:=xs) (r:=s.aE) (r':=r') (fun p d=>h p (by simp only [dn.rd,aln];exact .inr d))]at b;split at b
   ·simp only [IN,OF]at b ⊢;obtain⟨q,g,rfl,rfl⟩:=b;exact⟨q,g,rfl,rfl⟩
   ·simp at b
  ·simp only [eI,AI,OF]at b ⊢;obtain⟨rfl,rfl⟩:=b;exact⟨rfl,rfl⟩
  ·simp only [eI]at b ⊢;rw [kD (x:=x) (r:=s.aE) (r':=r') (fun p d=>h p (by simp [dn.rd,d])),fW (xs:=xs) (r:=s.aE) (r':=r') (fun p d=>h p (by simp only [dn.rd,aln];exact .inr d))]at b;split at b
   ·simp only [AI,OF]at b ⊢;obtain⟨rfl,rfl⟩:=b;exact⟨rfl,rfl⟩
   ·simp at b
 ·have j:(bE s.aE s.heap op).map (fun r=>(r.1,{ s with heap:=r.2 }))=aa (v,m):=by
   cases op<;>first | exact b | (exfalso;apply d;simp)
  have l:eI call { s with aE:=r' } op=(bE r' s.heap op).map (fun r=>(r.1,{ s with aE:=r',heap:=r.2 })):=by
   cases op<;>first | rfl | (exfalso;apply d;simp)
  rw [l,←BG h];simp only [IN,OF]at j ⊢;obtain⟨q,g,rfl,rfl⟩:=j;exact⟨q,g,rfl,rfl⟩
theorem acz{r:T}{op:dn}(b:cls op=.p)(H H':an):bE r H' op=(bE r H op).map fun q=>(q.1,H'):=by
 cases op<;>simp only [cls,reduceCtorEq]at b<;>simp only [bE]
 all_goals first
  | (simp [Function.comp_def];done)
  | (split<;>simp [Function.comp_def];done)
  | (split<;>(first | rfl | (split<;>rfl)))
section
theorem fE{H H':an}(l:dq H H')(b:Nat):H[b]?=ab∨(∃ cs fl g,H[b]?=aa (.box cs fl)∧H'[b]?=aa (.box cs g)) ∨
  (∃ s cs fl g e st,H[b]?=aa (.cO s cs fl e st)∧H'[b]?=aa (.cO s cs g e st))∨∃ bU,H[b]?=aa bU∧H'[b]?=aa bU:=by
 cases m:H[b]? with
 | none=>exact .inl rfl
 | some bU=>
  obtain⟨blk',d,j⟩:=l b _ m;cases bU<;>cases blk'<;>simp only [dx,reduceCtorEq]at j
  ·obtain⟨rfl,_⟩:=j;exact .inr (.inl ⟨_,_,_,rfl,d⟩)
  ·obtain⟨rfl,rfl,_,rfl,rfl⟩:=j;exact .inr (.inr (.inl ⟨_,_,_,_,_,_,rfl,d⟩))
  all_goals (rw [←j]at d;exact .inr (.inr (.inr ⟨_,rfl,d⟩)))
variable{H H':an}
theorem yU(j:dq H H'){x:C}{cs:List C}(h:aH H x=aa cs):aH H' x=aa cs:=by
 cases x with
 | ptr b l q=>
  simp only [aH]at h ⊢;rcases fE j b with e | ⟨cs,fl,g,e,d⟩ | ⟨s,cs,fl,g,m,st,e,d⟩ | ⟨bU,e,d⟩
  ·simp [e]at h
  ·rw [e]at h;rw [d];exact h
  ·rw [e]at h;rw [d];cases st<;>exact h
  ·rw [e]at h;rw [d];exact h
 | f x=>cases x<;>exact h
 | _=>simp [aH]at h
theorem aaK(g:dq H H'){n:Option Nat}{x:V}{v:V}(h:aX H n x=aa v):aX H' n x=aa v:=by
 cases x with
 | c x=>
  simp only [aX,Option.bind_eq_some_iff]at h ⊢;obtain⟨cs,b,d⟩:=h;exact⟨cs,yU g b,d⟩
 | _=>simp [aX]at h
theorem vV(j:dq H H'){x:C}{n:Nat}(h:bh H x=aa n):bh H' x=aa n:=by
 cases x with
 | sl b o l c q sz=>
  simp only [bh]at h ⊢;rcases fE j b with e | ⟨cs,fl,g,e,d⟩ | ⟨s,cs,fl,g,m,st,e,d⟩ | ⟨bU,e,d⟩
  ·simp [e]at h
  all_goals (rw [e]at h;rw [d];exact h)
 | f x=>cases x<;>exact h
 | _=>simp [bh]at h
theorem Ac(j:dq H H'){sz:Nat}{x:C}{cs:List C}(h:cS H sz x=aa cs):cS H' sz x=aa cs:=by
 cases x with
 | sl b o l c q s=>
  simp only [cS]at h ⊢;rcases fE j b with e | ⟨cs,fl,g,e,d⟩ | ⟨s,cs,fl,g,m,st,e,d⟩ | ⟨bU,e,d⟩
  ·simp [e]at h
  all_goals (rw [e]at h;rw [d];exact h)
 | f x=>cases x<;>exact h
 | _=>simp [cS]at h
theorem nu(j:dq H H'){k:Kc}{x:C}{b:Bool}(h:isNil H k x=aa b):isNil H' k x=aa b:=by
 cases k<;>cases x<;>first | exact h | (simp [isNil]at h;done) | skip
 case sl.sl bb o l c q s=>
  simp only [isNil]at h ⊢;rcases fE j bb with e | ⟨cs,fl,g,e,d⟩ | ⟨s,cs,fl,g,m,st,e,d⟩ | ⟨bU,e,d⟩
  ·simp [e]at h
  all_goals (rw [e]at h;rw [d];exact h)
 all_goals (rename_i y;cases y<;>exact h)
theorem aag(d:dq H H'){k:Kc}{x y:V}{b:Bool}(h:Ke H k x y=aa b):Ke H' k x y=aa b:=by
 unfold Ke at h;split at h
 ·exact h
 ·exact h
 ·exact nu d h
 ·exact nu d h
 ·exact nu d h
 ·exact nu d h
 ·simp at h
theorem Bz(j:dq H H'){sz:Nat}{x:V}{lo hi mx:Option V}{v:V}(h:bM H sz x lo hi mx=aa v):bM H' sz x lo hi mx=aa v:=by
 unfold bM at h;split at h
 ·exact h
 ·exact h
 ·exact h
 ·rename_i b o n cap m s;simp only [bM];rcases fE j b with e | ⟨cs,fl,g,e,d⟩ | ⟨s,cs,fl,g,l,st,e,d⟩ | ⟨bU,e,d⟩
  ·simp [e]at h
  all_goals (rw [e]at h;rw [d];exact h)
 ·simp at h
theorem Bx(j:dq H H'){n sz:Nat}{x:V}{lo hi mx:Option V}{v:V}(h:mQ H n sz x lo hi mx=aa v):mQ H' n sz x lo hi mx=aa v:=by
 unfold mQ at h;split at h
 ·rename_i b l q;simp only [mQ];rcases fE j b with e | ⟨cs,fl,g,e,d⟩ | ⟨s,cs,fl,g,m,st,e,d⟩ | ⟨bU,e,d⟩
  ·simp [e]at h
  all_goals (rw [e]at h;rw [d];exact h)
 ·exact h
 ·simp at h
theorem zv(m:dq H H'){sz:Nat}{d:Option Nat}{x i:V}{v:V}(h:bB H sz d x i=aa v):bB H' sz d x i=aa v:=by
 unfold bB at h ⊢;split at h
 ·simp at h
 ·split at h
  ·rename_i hi;simp only [hi,if_true];split at h
   ·rename_i b o l c y s;split at h
    ·rename_i q;simp only [q,if_true];rcases fE m b with e | ⟨cs,fl,j,e,g⟩ | ⟨s,cs,fl,j,u,st,e,g⟩ | ⟨bU,e,g⟩
     ·simp [e]at h
     ·rw [e]at h;rw [g];exact h
     ·rw [e]at h;rw [g];cases st<;>exact h
     ·rw [e]at h;rw [g];exact h
    ·simp at h
   ·exact h
   ·exact h
   ·exact h
   ·simp at h
  ·simp at h
theorem zD(l:dq H H'){j:CK}{z:FC}{m k:V}{v:V}(h:hO H j z m k=aa v):hO H' j z m k=aa v:=by
 unfold hO at h;split at h
 ·exact h
 ·rename_i b k;simp only [hO];rcases fE l b with e | ⟨cs,fl,g,e,d⟩ | ⟨s,cs,fl,g,q,st,e,d⟩ | ⟨bU,e,d⟩
  ·simp [e]at h
  all_goals (rw [e]at h;rw [d];exact h)
 ·simp at h
theorem I3(d:dq H H'){x v:V}(h:qK H x=aa v):qK H' x=aa v:=by
 cases x with
 | c x=>
  simp only [qK]at h ⊢;split at h
  ·rename_i n g;split at h
   ·rename_i cs b;rw [vV d g,Ac d b];exact h
   ·simp at h
  ·simp at h
 | _=>simp [qK]at h
theorem JW(j:dq H H'){x:C}{n:Nat}(h:kW H x=aa n):kW H' x=aa n:=by
 cases x with
 | sl b o l c q sz=>
  simp only [kW]at h ⊢;rcases fE j b with e | ⟨cs,fl,g,e,d⟩ | ⟨s,cs,fl,g,m,st,e,d⟩ | ⟨bU,e,d⟩
  ·simp [e]at h
  ·rw [e]at h;rw [d];exact h
  ·rw [e]at h;rw [d];cases st<;>exact h
  ·rw [e]at h;rw [d];exact h
 | f x=>cases x<;>exact h
 | _=>simp [kW]at h
theorem aaP(l:dq H H'){b:Nat}{d:List (FC × C)}(h:H[b]?=aa (.map d)):H'[b]?=aa (.map d):=by
 obtain⟨blk',j,g⟩:=l b _ h;cases blk'<;>simp only [dx,reduceCtorEq,b7.map.injEq]at g;subst g;exact j
theorem aaS(l:dq H H'){b m s:Nat}{d:Bool}(h:H[b]?=aa (.zK m s d)):H'[b]?=aa (.zK m s d):=by
 obtain⟨blk',j,g⟩:=l b _ h;cases blk'<;>simp only [dx,reduceCtorEq,b7.zK.injEq]at g;obtain⟨rfl,rfl,rfl⟩:=g;exact j
theorem AG(b:dq H H'){x v:V}(h:nU H x=aa v):nU H' x=aa v:=by
 unfold nU at h;split at h
 ·split at h
  ·rename_i d;split at h
   ·rename_i g;simp only [nU,aaS b d,aaP b g];exact h
   ·simp at h
  ·simp at h
 ·simp at h
theorem C'{r:T}{op:dn}(l:cls op=.r)(b:dq H H'){v:V}{j:an}(h:bE r H op=aa (v,j)):j=H∧bE r H' op=aa (v,H'):=by
 cases op<;>first | (simp only [bE,reduceCtorEq]at h;done) | (simp only [cls,reduceCtorEq]at l;done) | simp only [bE]at h ⊢
 case len x=>
  split at h
  ·rename_i y m;split at h
   ·rename_i n g;simp only [AI,OF]at h;obtain⟨rfl,rfl⟩:=h;simp only [vV b g];simp
   ·simp at h
  ·simp at h
 case cap x=>
  split at h
  ·rename_i y m;split at h
   ·rename_i n g;simp only [AI,OF]at h;obtain⟨rfl,rfl⟩:=h;simp only [JW b g];simp
   ·simp at h
  ·simp at h
 all_goals
  simp only [IN,OF]at h;obtain⟨q,d,rfl,rfl⟩:=h;refine⟨rfl,?_⟩
 case entry=>rw [AG b d];rfl
 case load=>rw [aaK b d];rfl
 case eq=>rw [aag b d];rfl
 case slice=>rw [Bz b d];rfl
 case pI=>rw [Bx b d];rfl
 case bN=>rw [zv b d];rfl
 case lookup=>rw [zD b d];rfl
 case zd=>rw [I3 b d];rfl
theorem ajr{r:T}{op:dn}(g:cls op=.a){v:V}{d:an}(h:bE r H op=aa (v,d)):d=H∨∃ bU,d=H++[bU]:=by
 cases op<;>first | (simp only [cls,reduceCtorEq]at g;done) | simp only [bE]at h
 case call=>simp at h
 case alloc zs=>simp only [AI,OF]at h;exact .inr ⟨_,h.2.symm⟩
 case kM=>simp only [AI,OF]at h;exact .inr ⟨_,h.2.symm⟩
 case box x=>
  split at h
  ·simp only [AI,OF]at h;exact .inr ⟨_,h.2.symm⟩
  ·simp at h
 case bR sz zs n ps=>
  split at h
  ·split at h
   ·simp only [AI,OF]at h;exact .inl h.2.symm
   ·simp at h
  ·simp only [IN,OF]at h;obtain⟨q,j,rfl,rfl⟩:=h;exact .inr ⟨_,rfl⟩
 case dN sz b zs x y=>
  split at h
  ·split at h
   ·split at h
    ·simp only [AI,OF]at h;exact .inl h.2.symm
    ·simp only [AI,OF]at h;exact .inr ⟨_,h.2.symm⟩
   ·simp at h
  ·simp at h
end
section
variable{Q:Program}{σ:Nat→FuncId}{X:Wd}
theorem Ce(d:SR Q σ X)(l:X.B≤X.w.heap.size){n:Nat}{cs:List C}{fl:Nat}(s:X.H[n]?=aa (.box cs fl))(u:X.cC n=ab){us:List Value}(h:A2 (CR σ X) cs us)(e:TypeId) :
  ∃ X',X'.w=X.w.alloc (.cells us.toArray e)∧X'.H=X.H∧SR Q σ X'∧Ext X.H.length X X'∧X'.cC n=aa ⟨X.w.heap.size,0⟩∧X'.B≤X'.w.heap.size∧∀ b,b≠n→X'.cC b=X.cC b:=by
 obtain⟨g,j⟩:=SR.fill d l s u (dY.alloc X.w (.cells us.toArray e)) 0 (fun v=>⟨us,kU (dY.alloc _ _),A2.ext' σ v h,fun i _ q=>by
  have:=d.fb _ _ q;simp at this⟩)
 exact⟨{ X with cC:=fun b=>if b=n then aa ⟨X.w.heap.size,0⟩else X.cC b,w:=X.w.alloc (.cells us.toArray e) },rfl,rfl,g,j,by simp,by simp;omega,fun b m=>by simp [m]⟩
def Ap(Q:Program)(σ:Nat→FuncId)(X:Wd)(n:Nat)(v:V)(s:Sem Next)(e:Prop):Prop:=
 ∃ X' u,s.run Q X.w=.ok (.value u) X'.w∧fO Q σ X v X.H X' u∧(∀ b,b≠n→X'.cC b=X.cC b)∧(e→X'.cC=X.cC)
theorem zl(y:SR Q σ X)(x:X.B≤X.w.heap.size){n:Nat}{cs:List C}{fl:Nat}(g:X.H[n]?=aa (.box cs fl))(A:X.cC n=ab){us:List Value}(h:A2 (CR σ X) cs us)(e:TypeId){s:Sem Next}{b:Prop}(z:¬ b)
  (B:s.run Q X.w=.ok (.value (.pointer (aa ⟨X.w.heap.size,0,ab⟩))) (X.w.alloc (.cells us.toArray e))):Ap Q σ X n (.c (.ptr n 0 0)) s b:=by
 obtain⟨X',j,d,l,m,q,u,v⟩:=Ce y x g A h e;refine⟨X',_,by rw [j];exact B,⟨d,l,?_,m,u⟩,v,fun h=>absurd h z⟩;exact⟨_,q,by rw [d,g]⟩
theorem Cf(A:SR Q σ X)(z:X.B≤X.w.heap.size){n:Nat}{cs:List C}{fl:Nat}(j:X.H[n]?=aa (.box cs fl))(E:X.cC n=ab){us:List Value}(h:A2 (CR σ X) cs us)(e:TypeId){s:Sem Next}{l c sz:Nat}(b:l≤c){d:Prop}(B:¬ d)
  (F:s.run Q X.w=.ok (.value (.slice (aa ⟨X.w.heap.size,0,ab⟩) l c)) (X.w.alloc (.cells us.toArray e))):Ap Q σ X n (.c (.sl n 0 l c 0 sz)) s d:=by
 obtain⟨X',m,g,q,u,v,x,y⟩:=Ce A z j E h e;refine⟨X',_,by rw [m];exact F,⟨g,q,?_,u,x⟩,y,fun h=>absurd h B⟩;simp only [VR,iq,CR,fM,g,j];exact⟨_,v,b,rfl⟩
theorem oO{H b:an}{cs:List C}(h:dq (H++[.box cs 0]) b):∃ fl,b[H.length]?=aa (.box cs fl):=by
 obtain⟨blk',g,d⟩:=h H.length (.box cs 0) (by simp);cases blk'<;>simp only [dx,reduceCtorEq]at d;obtain⟨rfl,_⟩:=d;exact⟨_,g⟩
theorem Ab{w':World}{o:Obj}(g:SR Q σ X)(d:dY X.w w' o)(q:X.B≤X.w.heap.size):∃ X':Wd,X'.w=w'∧X'.H=X.H∧SR Q σ X'∧Ext X.H.length X X'∧X'.B≤X'.w.heap.size∧X'.cC=X.cC:=by
 have j:Ext X.H.length X { X with w:=w' }:=Ext.one g X.H.length rfl (fun _ _=>Iff.rfl) (fun k m _=>d.Ao m)
  (fun L i h=>by rw [SR.qx g]at h;simp at h) (fun h=>absurd h (ano _)) (fun _ _ _=>rfl) (fun _ _=>rfl) (fun L h=>.inl ⟨L,h,rfl⟩) (by show _≤w'.heap.size;rw [d.size];omega) d.os d.tape d.output
 refine⟨{ X with w:=w' },rfl,rfl,SR.step Q σ g j X.H.length (fun _ _=>rfl) (fun _ _=>rfl) (fun b L _ l=>d.Ao (g.br b L l).2.1)
  (fun _ _ _ _ _ h=>h) (fun L h=>by change X.cC X.H.length=aa L at h;rw [SR.qx g]at h;simp at h) (fun c i h=>?_),j,?_,rfl⟩
 ·have:=g.fb c i h;show c<w'.heap.size;rw [d.size];omega
 ·show X.B≤w'.heap.size;rw [d.size];omega
theorem aaJ(M:SR Q σ X)(L:X.B≤X.w.heap.size){a:Act}{aE:T}(hR:RR σ X aE a.tmps){o:Oper}{op:dn}(hc:cls op=.a)(d:dW Q σ o op=ae){H H1:an}{v:V}(h:bE aE H op=aa (v,H1))
  (hH:dq H1 X.H) (W:H1.length≠H.length→X.cC H.length=ab):Ap Q σ X H.length v (execOp a.eval o) (H1.length=H.length):=by
 cases op<;>first | (simp only [cls,reduceCtorEq]at hc;done) | skip
 case call f xs h'=>simp [bE]at h
 case alloc zs=>
  simp only [bE,AI,OF]at h;obtain⟨rfl,rfl⟩:=h;obtain⟨fl,F⟩:=oO hH;simp only [dW]at d;split at d
  ·rename_i t B;obtain⟨z,us,h1,K,h3,_⟩:=eV (σ:=σ) (X:=X) d X.w;refine zl M L F (W (by simp)) h3 t (by simp) ?_;simp only [execOp,B];refine ef ?_;simp [Instr.alloc,h1,newVar,newRow,K]
  ·simp at d
 case kM=>
  simp only [bE,AI,OF]at h;obtain⟨rfl,rfl⟩:=h;have F:X.H[H.length]?=aa (.map []):=by
   obtain⟨blk',hb,hl⟩:=hH H.length (.map []) (by simp);cases blk'<;>simp only [dx,reduceCtorEq,b7.map.injEq]at hl;subst hl;exact hb
  simp only [dW]at d;split at d
  ·rename_i t B;have W:=W (by simp);obtain⟨h1,K⟩:=SR.fill M L F W (dY.alloc X.w (.map #[] 0)) 0 (fun hx=>⟨[],(dY.alloc _ _).new,A2.nil,by simp⟩);refine⟨{ X with cC:=fun b=>if b=H.length then aa ⟨X.w.heap.size,0⟩else X.cC b,w:=X.w.alloc (.map #[] 0) },.map (aa X.w.heap.size),?_,⟨rfl,h1,⟨⟨X.w.heap.size,0⟩,by simp,⟨[],F⟩,rfl⟩,K,by show X.B≤_;simp;omega⟩,fun b hb=>by simp [hb],fun h=>by simp at h⟩;simp [execOp,B,Instr.makeMap]
  ·simp at d
 case box x=>
  simp only [bE]at h;split at h
  ·rename_i xs i3;simp only [AI,OF]at h;obtain⟨rfl,rfl⟩:=h;obtain⟨fl,F⟩:=oO hH;simp only [dW]at d;split at d
   ·rename_i t y B;obtain⟨us,K,h3⟩:=oE (bS hR d) i3;refine zl M L F (W (by simp)) h3 t (by simp) ?_;simp only [execOp,B];refine ef ?_;simp [Instr.box,newVar,newRow,K]
   ·simp at d
  ·simp at h
 case bR sz zs n ps=>
  simp only [dW]at d;split at d
  ·rename_i t n' qs B;simp only [If,beq_iff_eq,decide_eq_true_eq]at d;obtain⟨⟨⟨⟨rfl,s⟩,E⟩,i9⟩,hq⟩:=d;obtain⟨e,hu,E⟩:=gW E;simp only [If,decide_eq_true_eq]at E;obtain⟨⟨j,hz⟩,i6⟩:=E;obtain⟨z,us,Y,Z,A,_⟩:=eV (σ:=σ) (X:=X) hz X.w;have I:us.length=sz:=by have:=A.len;simp at this;omega
   simp only [bE]at h;split at h
   ·rename_i F;subst F;split at h
    ·rename_i c9;simp only [AI,OF]at h;obtain⟨rfl,rfl⟩:=h;have U:qs.toList=[]:=by
      have:=(eO hq).len;simp only [List.isEmpty_iff]at c9;rw [c9]at this;exact alx this.symm
     have U:qs=#[]:=by apply Array.ext';simpa using U
     obtain⟨X',h1,K,h3,h4,h5,h6⟩:=Ab M (dY.alloc X.w (.cells #[] e)) L;refine⟨X',.slice (aa ⟨X.w.heap.size,0,ab⟩) 0 0,?_,⟨K,h3,cT.es _,h4,h5⟩,fun b _=>by rw [h6],fun _=>h6⟩;rw [h1];simp only [execOp,B];refine ef ?_;simp [Instr.buildSlice,a5 hu,di j,U,Instr.fill,newRow,show Array.range 0=(#[]:Array Nat) from rfl]
    ·simp at h
   ·rename_i F;simp only [IN,OF]at h;obtain⟨cs,f8,rfl,rfl⟩:=h;obtain⟨fl,O⟩:=oO hH;obtain⟨j9,h5,h6⟩:=nr (place:=fun i=>aa (i*sz,sz)) (ps:=qs.toList) hR (qs:=ps.map fun p=>(p.1*sz,sz,p.2)) (A2.map ((eO hq).ld fun q p S=>by
     simp only [If,beq_iff_eq]at S;exact⟨by rw [S.1],S.2⟩)) (je A n') f8
    refine Cf M L O (W (by simp)) h6 e (alk _) (by simp) ?_;simp only [execOp,B];refine ef ?_;have f_:n'*sz≠0:=by
     intro h0;rcases anr.1 h0 with h0 | h0<;>omega
    have e_:=im us n' (by omega);rw [I]at e_;simp only [Instr.buildSlice,Sem.run_bind,a5 hu,di j,Result.andThen_ok,aS (show¬ n'*sz>2 ^ 24 by omega),Sem.run_ite,aS f_,Y,Sem.run_pure,Z];simp only [Array.toList_map];rw [e_];simp [h5,newRow]
  ·simp at d
 case dN sz bytes zs x y=>
  simp only [dW]at d;split at d
  ·rename_i t x' y' B;simp only [If,decide_eq_true_eq]at d;obtain⟨⟨⟨hx,hy⟩,E⟩,i8⟩:=d;have hx:=bS hR hx;have hy:=bS hR hy;obtain⟨e,hu,E⟩:=gW E;simp only [If]at E;obtain⟨⟨j,f7⟩,hz⟩:=E;obtain⟨z,us,Y,Z,A,j8,j3,j4⟩:=eV (σ:=σ) (X:=X) hz X.w;obtain⟨i_,a7,a8⟩:=xD f7 X.w;simp only [bE]at h;split at h
   ·rename_i l c hl hc;obtain⟨kl,h_⟩:=iE hx hl;obtain⟨kc,i4⟩:=iE hy hc;split at h
    ·rename_i N;obtain⟨h0,j7,u,i6⟩:=N;unfold cN at u;simp only [If,decide_eq_true_eq]at u;have I:us.length=sz:=by have:=A.len;simp at this;omega
     have d_:=lZ (n:=l) h0 (by omega);have d9:=lZ (n:=c) (by omega) (by omega);have i7:c.toNat*bytes≤2 ^ 48:=by
      have:c.toNat*bytes≤(2*c.toNat+768)*bytes:=alX _ (by omega);omega
     have s:¬ ((bytes:Int)*c>2 ^ 48):=by
      have e1:(bytes:Int)*c=((c.toNat*bytes:Nat):Int):=by
       rw [ane,ami];congr 1;omega
      rw [e1];omega
     have c_:((Array.range (c.toNat*sz)).map fun i=>us.toArray[i % us.toArray.size]!)=(cM c.toNat us).toArray:=by
      have:=im us c.toNat (by omega);rwa [I]at this
     have run:(execOp a.eval o).run Q X.w=.ok (.value (.slice (aa ⟨X.w.heap.size,0,ab⟩) l.toNat c.toNat)) (X.w.alloc (.cells (cM c.toNat us).toArray e)):=by
      simp only [execOp,B];refine ef ?_;rw [h_,i4];have a_:¬ c<0:=by omega
      have b_:¬ l<0:=by omega
      have J:¬ l>c:=by omega
      by_cases m:c.toNat*sz=0
      ·have g_:cM c.toNat us=[]:=alx (by rw [kS,I];exact m);have g:((decide (c<0)||decide ((bytes:Int)*c>2 ^ 48))||decide (l<0)||decide (l>c))=ag:=by rw [decide_eq_false a_,decide_eq_false b_,decide_eq_false J,decide_eq_false s];rfl
       simp only [Instr.makeSlice,Sem.run_bind,a5 hu,asInt,asIntOf,Sem.run_pure,Result.andThen_ok,a7,a8,d_,d9,run_askRoom,di j];simp only [g,alE,if_false,Sem.run_ite,ba m,Sem.run_bind,Result.andThen_ok,Sem.run_pure,run_askRoom,di j,newRow,run_newObj];rw [m,g_,show(Array.map (fun x=>(#[]:Array Value)[x % (#[]:Array Value).size]!) (Array.range 0))=#[] from by simp [show Array.range 0=(#[]:Array Nat) from rfl]];rfl
      ·simp only [Instr.makeSlice,Sem.run_bind,a5 hu,asInt,asIntOf,Sem.run_pure,Result.andThen_ok,a7,a8,d_,d9,run_askRoom,di j];have g:((decide (c<0)||decide ((bytes:Int)*c>2 ^ 48))||decide (l<0)||decide (l>c))=ag:=by rw [decide_eq_false a_,decide_eq_false b_,decide_eq_false J,decide_eq_false s];rfl
       simp only [g,alE,if_false,Sem.run_ite,aS m,Sem.run_bind,Y,Z,Result.andThen_ok,Sem.run_pure,run_askRoom,di j,c_,newRow,run_newObj];rfl
     split at h
     ·rename_i m;subst m;simp only [AI,OF]at h;obtain⟨rfl,rfl⟩:=h;have:l=0:=by omega
      subst this;obtain⟨X',g1,g2,g3,g4,g5,g6⟩:=Ab M (dY.alloc X.w (.cells (cM (0:Int).toNat us).toArray e)) L;exact⟨X',_,by rw [g1];exact run,⟨g2,g3,cT.es _,g4,g5⟩,fun b _=>by rw [g6],fun _=>g6⟩
     ·simp only [AI,OF]at h;obtain⟨rfl,rfl⟩:=h;obtain⟨fl,O⟩:=oO hH;exact Cf M L O (W (by simp)) (je A c.toNat) e (by omega) (by simp) run
    ·simp at h
   ·simp at h
  ·simp at d
end
theorem A9{b:List Nat}{o:Oper}{i:Nat}:(mI b o).testBit i=ae↔∃ e ∈ o.after.toList,Region.binds .any e=ae∧(e.on=i∨(b.getD e.on 0).testBit i=ae):=by
 unfold mI;have key:∀(l:List Edge) (s:Nat),(l.foldl (fun s e=>if Region.binds .any e then s ||| 2 ^ e.on ||| b.getD e.on 0 else s) s).testBit i=ae ↔
   s.testBit i=ae∨∃ e ∈ l,Region.binds .any e=ae∧(e.on=i∨(b.getD e.on 0).testBit i=ae):=by
  intro l;induction l with
  | nil=>intro s;simp
  | cons e l g=>
   intro s;simp only [am5,g,alW,exists_eq_or_imp];by_cases d:Region.binds .any e=ae
   ·simp only [d,if_true,Nat.testBit_or,Bool.or_eq_true,Nat.testBit_two_pow,decide_eq_true_eq,true_and,or_assoc]
   ·simp [d]
 rw [key];simp
theorem vF:∀(os:List Oper) (b:List Nat),(dF os b).length=b.length+os.length
 | [],b=>by simp [dF]
 | o::os,b=>by rw [dF,vF];simp;omega
theorem qp:∀(os:List Oper) (b:List Nat) (k:Nat),k<b.length→(dF os b)[k]?=b[k]?
 | [],b,k,_=>rfl
 | o::os,b,k,h=>by
  rw [dF,qp os _ k (by simp;omega),AT h]
theorem vG:∀(os:List Oper) (b:List Nat) (t:Nat) (o:Oper),os[t]?=aa o→(dF os b)[b.length+t]?=aa (mI ((dF os b).take (b.length+t)) o)
 | [],b,t,o,h=>by simp at h
 | o'::os,b,0,o,h=>by
  simp only [amZ,AI]at h;subst h;have g:∀ k,k<b.length→(dF os (b++[mI b o']))[k]?=b[k]?:=fun k j=>by rw [qp os _ k (by simp;omega),AT j]
  have d:(dF os (b++[mI b o'])).take b.length=b:=by
   apply List.ext_getElem?;intro k;rw [al4];split
   ·rename_i j;exact g k j
   ·rename_i j;rw [amV (by omega)]
  rw [dF,Nat.add_zero,d,qp os _ _ (by simp)];simp
 | o'::os,b,t+1,o,h=>by
  simp only [anc]at h;have:=vG os (b++[mI b o']) t o h;rw [dF];rw [show b.length+(t+1)=(b++[mI b o']).length+t by simp;omega];exact this
theorem B3{ops:List Oper}{i j:Nat}{o:Oper}(l:ops[j]?=aa o) :
  xO (dF ops []) i j=ae↔∃ e ∈ o.after.toList,Region.binds .any e=ae∧(e.on=i∨(e.on<j∧xO (dF ops []) i e.on=ae)):=by
 have h:=vG ops [] j o l;simp only [amR,amb]at h;unfold xO;rw [am1,h,Option.getD_some,A9];have g:∀ k,((dF ops []).take j).getD k 0=if k<j then(dF ops []).getD k 0 else 0:=by
  intro k;simp only [am1,al4];split<;>simp
 constructor
 ·rintro⟨e,d,b,h⟩;refine⟨e,d,b,h.imp id fun h=>?_⟩;rw [g]at h;split at h
  ·rename_i m;exact⟨m,h⟩
  ·simp at h
 ·rintro⟨e,d,b,h⟩;refine⟨e,d,b,h.imp id fun h=>?_⟩;rw [g,ba h.1];exact h.2
def qc(ops:List Oper)(D:Nat→Prop):Prop:=∀ j o,D j→ops[j]?=aa o→∀ e ∈ o.after.toList,Region.binds .any e=ae→D e.on
theorem qc.below{ops:List Oper}{D:Nat→Prop}(h:qc ops D){i:Nat}:∀(j:Nat),D j→xO (dF ops []) i j=ae→D i:=by
 intro j;induction j using Nat.strongRecOn with
 | ind j l=>
  intro g b;cases ho:ops[j]? with
  | none=>
   exfalso;unfold Km.xO at b;have:(dF ops []).length≤j:=by rw [vF];simpa using amU.1 ho
   rw [am1,amV this]at b;simp at b
  | some o=>
   obtain⟨e,d,hb,h1 | ⟨h1,h2⟩⟩:=(B3 ho).1 b
   ·exact h1▸h j o g ho e d hb
   ·exact l e.on h1 (h j o g ho e d hb) h2
theorem qc.ready{ops:List Oper}{D:Nat→Prop}(h:qc ops D){i j:Nat}{o:Oper}(ho:ops[j]?=aa o)(d:∀ e ∈ o.after.toList,Region.binds .any e=ae→D e.on)(g:xO (dF ops []) i j=ae):D i:=by
 obtain⟨e,b,hb,h1 | ⟨h1,h2⟩⟩:=(B3 ho).1 g
 ·exact h1▸d e b hb
 ·exact h.below e.on (d e b hb) h2
def Cn(aos:List aQ)(j:Nat):Prop:=∃ y,aos[j]?=aa y∧cls y.op=.w
theorem mJ{aos:List aQ}{j:Nat}:j ∈ lW aos↔Cn aos j:=by
 unfold lW Cn;rw [List.mem_filter,List.mem_range];constructor
 ·rintro⟨_,h⟩;split at h
  ·rename_i y b;exact⟨y,b,by simpa using h⟩
  ·simp at h
 ·rintro⟨y,b,d⟩;exact⟨(IS.1 b).1,by simp [b,d]⟩
theorem mW{g:Type}(p:g→Bool):∀(l:List g),(∀ k,k<(l.takeWhile p).length→∃ y,l[k]?=aa y∧p y=ae)∧((l.takeWhile p).length=l.length∨∃ y,l[(l.takeWhile p).length]?=aa y∧p y=ag)
 | []=>by simp
 | x::l=>by
  by_cases d:p x=ae
  ·rw [List.takeWhile_cons_of_pos d];obtain⟨j,b⟩:=mW p l;refine⟨fun k m=>?_,?_⟩
   ·cases k with
    | zero=>exact⟨x,rfl,d⟩| succ k=>exact j k (by simpa using m)
   ·rcases b with b | b
    ·exact .inl (by simp [b])
    ·exact .inr (by simpa using b)
  ·rw [List.takeWhile_cons_of_neg d];exact⟨by simp,.inr ⟨x,rfl,by simpa using d⟩⟩
theorem od{aos:List aQ}{i:Nat}(hi:i≤aos.length):i≤phase aos i∧phase aos i≤aos.length∧(phase aos i=aos.length∨Cn aos (phase aos i))∧∀ j,i≤j→j<phase aos i→¬ Cn aos j:=by
 unfold phase;obtain⟨s,g⟩:=mW (fun y:aQ=>decide (cls y.op≠.w)) (aos.drop i);have q:((aos.drop i).takeWhile fun y=>decide (cls y.op≠.w)).length≤(aos.drop i).length:=by
  rcases alO (aos.drop i).length ((aos.drop i).takeWhile fun y=>decide (cls y.op≠.w)).length with h | h
  ·obtain⟨y,b,_⟩:=s _ h;have:=(IS.1 b).1;omega
  ·exact h
 simp only [alD]at q g;refine⟨by omega,by omega,?_,fun j v u=>?_⟩
 ·rcases g with g | ⟨y,b,l⟩
  ·exact .inl (by omega)
  ·rw [alK]at b;exact .inr ⟨y,b,by simpa using l⟩
 ·obtain⟨y,b,l⟩:=s (j-i) (by omega);rw [alK,show i+(j-i)=j by omega]at b;rintro⟨x,d,m⟩;rw [b]at d;cases d;simp [m]at l
structure Ord(ops:List Oper)(aos:List aQ)(iU:List (Nat × Nat)):Prop where
 back:∀ j o,j<aos.length→ops[j]?=aa o→∀ e ∈ o.after.toList,Region.binds .any e=ae→e.on<j
 two:∀ i j x y,i<j→aos[i]?=aa x→aos[j]?=aa y→xO (dF ops []) i j=ae∨(x.apart y=ae∧(sC x y=ae∨(j=kG (dF ops []) aos∧cls x.op=.w)))
 ear:∀ y,aos[kG (dF ops []) aos]?=aa y→(∃ zs,y.op=.alloc zs)∧y.g=ab∧∃ p,y.dst=aa p∧∀ i z,aos[i]?=aa z→p ∈ z.rd→∀ e,Cn aos e→e<kG (dF ops []) aos→xO (dF ops []) e i=ae
 rd:∀ i x e,aos[i]?=aa x→cls x.op=.r→Cn aos e∨e=aos.length→zH (dF ops []) aos i e=ae→e=phase aos i∨(i,e) ∈ iU
theorem JG{ops:List Oper}{aos:List aQ}{iU:List (Nat × Nat)}(h:UZ ops aos iU=ae):Ord ops aos iU:=by
 simp only [UZ,If]at h;obtain⟨⟨⟨A,B⟩,g⟩,E⟩:=h;refine⟨fun j o L N e b J=>?_,fun i j x y s m q=>?_,fun y q=>?_,fun i x e m K b M=>?_⟩
 ·rw [alA]at A;have d:(o,j) ∈ ops.zip (List.range aos.length):=by
   refine List.mem_of_getElem? (i:=j) ?_;rw [List.getElem?_zip_eq_some];exact⟨N,by simp [L]⟩
  have:=A _ d;rw [alA]at this;simpa [J]using this e b
 ·rw [alA]at B;have:=B j (by simpa using (IS.1 q).1);rw [alA]at this;have:=this i (by simpa using s);rw [m,q]at this;simpa using this
 ·unfold Cb at g;rw [q]at g;simp only [If,Option.isNone_iff_eq_none]at g;obtain⟨⟨I,F⟩,l⟩:=g;refine⟨?_,I,?_⟩
  ·split at F
   ·exact⟨_,by assumption⟩
   ·simp at F
  ·split at l
   ·rename_i p O;refine⟨p,O,fun i z H v e b u=>?_⟩;rw [alA]at l;have:=l i (by simpa using (IS.1 H).1);rw [H]at this;simp only [Bool.or_eq_true,Bool.not_eq_true',List.contains_eq_mem,decide_eq_false_iff_not,alA]at this;rcases this with h | h
    ·exact absurd v h
    ·have:=h e (mJ.2 b);simpa [u]using this
   ·simp at l
 ·rw [alA]at E;have:=E i (by simpa using (IS.1 m).1);rw [m]at this;simp only [K,if_true]at this;rw [alA]at this;have:=this e (by
   rw [aln];rcases b with b | b
   ·exact .inl (mJ.2 b)
   ·exact .inr (by simp [b]))
  simpa [M]using this
section
variable{Q:Program}{σ:Nat→FuncId}{X:Wd}{call:du}
theorem Ext.len{X X':Wd}(h:Ext X.H.length X X'):X.H.length≤X'.H.length:=by
 rcases alO X'.H.length X.H.length with b | g
 ·obtain⟨blk',d,_⟩:=h.bu X'.H.length b _ (By b);have:=(IS.1 d).1;omega
 ·exact g
theorem we{s b:St}{op:dn}{v:V}(h:eI call s op=aa (v,b)):b.aE=s.aE:=by
 have:=C9 (r':=s.aE) (fun _ _=>rfl) h;rw [show({ s with aE:=s.aE }:St)=s from rfl,h]at this;simp only [AI,OF,true_and]at this;rw [this]
theorem BH{s b:St}{y:aQ}(h:fj call s y=aa b):∃ v,b.aE=ij s.aE y.dst v:=by
 unfold fj at h;split at h
 ·split at h
  ·rename_i v g d;cases h;exact⟨v,by rw [we d]⟩
  ·simp at h
 ·cases h;exact⟨_,rfl⟩
 ·simp at h
theorem tx{aE:T}{d:Option P}{v:V}{p:P}:(ij aE d v).get p=if d=aa p then v else aE.get p:=by
 cases d with
 | none=>simp [ij]| some q=>simp only [ij,T.oN,AI]
theorem oq{s l:St}{y:aQ}(g:cls y.op≠.w)(h:fj call s y=aa l):dq s.heap l.heap∧l.defs=s.defs:=by
 unfold fj at h;split at h
 ·split at h
  ·rename_i v z b;cases h;by_cases j:(∃ f xs h,y.op=.call f xs h)∨(∃ x xs h,y.op=.bY x xs h)∨y.op=.recover∨∃ x xs,y.op=.defer x xs
   ·rcases j with⟨f,xs,q,e⟩ | ⟨x,xs,q,e⟩ | e | ⟨x,xs,e⟩
    ·rw [e]at b g;cases q
     ·simp only [eI,gu,alE,if_false,IN,OF]at b;obtain⟨⟨A,H'⟩,b,rfl,rfl⟩:=b;refine⟨?_,rfl⟩;unfold eU at b;split at b
      ·simp at b
      ·split at b
       ·simp at b
       ·split at b
        ·simp at b
        ·simp only [AI,OF]at b;show dq s.heap H';rw [←b.2];exact(pj _ _ _).ext
     ·exact absurd rfl g
    ·rw [e]at g;exact absurd rfl g
    ·rw [e]at g;exact absurd rfl g
    ·rw [e]at g;exact absurd rfl g
   ·have u:(bE s.aE s.heap y.op).map (fun r=>(r.1,{ s with heap:=r.2 }))=aa (v,z):=by
     generalize y.op=op at b j;cases op<;>first | exact b | (exfalso;apply j;simp)
    simp only [IN,OF]at u;obtain⟨⟨A,H'⟩,m,rfl,rfl⟩:=u;clear b;have b:=m;clear m;refine⟨?_,rfl⟩;show dq s.heap H';cases d:cls y.op with
    | p=>
     have:=acz (r:=s.aE) d s.heap s.heap;rw [b]at this;simp only [alZ,AI,OF]at this;rw [this.2];exact dq.refl _
    | r=>rw [(C' d (dq.refl _) b).1];exact dq.refl _
    | a=>
     rcases ajr d b with e | ⟨cs,e⟩
     ·rw [e];exact dq.refl _
     ·rw [e];exact dq.append _ _
    | c=>
     generalize y.op=op at b d;cases op<;>first | (simp only [cls,reduceCtorEq]at d;done) | (simp [bE]at b;done)
    | w=>exact absurd d g
  ·simp at h
 ·cases h;exact⟨dq.refl _,rfl⟩
 ·simp at h
def gO(aE:T)(ps:List P):T:=ps.foldl (fun t p=>t.set p (aE.get p)) .e
theorem tz(aE:T)(ps:List P)(p:P):(gO aE ps).get p=if p ∈ ps then aE.get p else .top:=by
 have key:∀(ps:List P) (t:T),(ps.foldl (fun t p=>t.set p (aE.get p)) t).get p=if p ∈ ps then aE.get p else t.get p:=by
  intro ps;induction ps with
  | nil=>intro t;simp
  | cons q ps g=>
   intro t;simp only [am5,g,T.oN,alW];by_cases b:p ∈ ps
   ·simp [b]
   ·by_cases d:q=p
    ·subst d;simp [b]
    ·have:¬ p=q:=fun e=>d e.symm;simp [b,d,this]
 have:=key ps .e;unfold gO;rw [this];rfl
structure jE(Q:Program)(σ:Nat→FuncId)(call:du)(n:Nat)(ops:Array Oper)(aos:List aQ)(iU:List (Nat × Nat))(st:Nat→St):Prop where
 aeM:fC (kK Q σ n ops) ops.toList aos=ae
 ord:Ord ops.toList aos iU
 step:∀ i y,aos[i]?=aa y→fj call (st i) y=aa (st (i+1))
 ako:∀ i e y,(i,e) ∈ iU→aos[i]?=aa y→wanted (st i).aE y.g=aa ae→∃ v H1 H2,bE (st i).aE (st i).heap y.op=aa (v,H1)∧bE (st i).aE (st e).heap y.op=aa (v,H2)
structure ky(σ:Nat→FuncId)(X:Wd)(c:Nat)(zs:List FC):Prop where
 bU:∃ us t,X.w.heap[c]?=aa (.cells us.toArray t (0,0))∧A2 (CR σ X) (zs.map .f) us
 b:X.B≤c
 vp:∀ b L,X.cC b=aa L→L.c≠c
 f:∀ i,¬ X.F c i
theorem ky.lt{c:Nat}{zs:List FC}(h:ky σ X c zs):c<X.w.heap.size:=by
 obtain⟨us,t,h1,_⟩:=h.bU;exact(Array.getElem?_eq_some_iff.1 h1).1
theorem ky.ext{X X':Wd}(d:Ext X.H.length X X'){c:Nat}{zs:List FC}(h:ky σ X c zs):ky σ X' c zs:=by
 have j:=h.lt;obtain⟨us,t,h1,h2⟩:=h.bU;refine⟨⟨us,t,by rw [d.frame c j h.vp];exact h1,A2.ext' σ d h2⟩,by rw [d.B];exact h.b,fun b L hb=>?_,fun i hi=>?_⟩
 ·rcases d.vp b L hb with⟨b0,L0,g1,g2⟩ | g1
  ·rw [←g2];exact h.vp b0 L0 g1
  ·omega
 ·rcases d.ox c i hi with g | g | ⟨b,L,g1,g2⟩
  ·exact h.f i g
  ·omega
  ·exact h.vp b L g1 g2
theorem SR.assign(q:SR Q σ X){n c:Nat}{zs:List FC}{fl:Nat}(g:ky σ X c zs)(v:X.H[n]?=aa (.box (zs.map .f) fl))(x:X.cC n=ab) :
  SR Q σ { X with cC:=fun b=>if b=n then aa ⟨c,0⟩else X.cC b }∧ow X.H.length X { X with cC:=fun b=>if b=n then aa ⟨c,0⟩else X.cC b }∧VR σ { X with cC:=fun b=>if b=n then aa ⟨c,0⟩else X.cC b } (.c (.ptr n 0 0)) (.pointer (aa ⟨c,0,ab⟩)):=by
 have s:ow X.H.length X { X with cC:=fun b=>if b=n then aa ⟨c,0⟩else X.cC b }:=by
  refine⟨fun _ _ h=>h,fun _ _ _=>rfl,fun b _ bU hb=>⟨bU,hb,?_⟩⟩;have:∀ L,X.cC b=aa L→(if b=n then aa (⟨c,0⟩:Loc)else X.cC b)=aa L:=fun L m=>by
   by_cases e:b=n
   ·subst e;rw [x]at m;simp at m
   ·rw [aS e];exact m
  cases bU<;>simp only [true_and,and_self]<;>first | exact this | (exact .inl ⟨trivial,trivial,this⟩) | (exact⟨rfl,.inl ⟨rfl,rfl,this⟩⟩) | (exact .inl this) | simpa using this
 obtain⟨us,t,h1,h2⟩:=g.bU;refine⟨⟨fun b L hb=>?_,fun b l L u hb d hc=>?_,q.fb⟩,s,⟨⟨c,0⟩,by simp,by rw [v]⟩⟩
 ·by_cases e:b=n
  ·subst e;simp only [if_true,AI]at hb;subst hb;exact⟨g.b,g.lt,_,v,us,⟨t,(0,0),h1,fun i _=>by simp⟩,A2.eb σ s h2,fun i _=>g.f i⟩
  ·simp only [e,if_false]at hb;obtain⟨g1,g2,bU,g3,g4⟩:=q.br b L hb;exact⟨g1,g2,bU,g3,BR.oL Q σ s rfl (fun _ h=>h) g4⟩
 ·simp only at hb d;by_cases e:b=n<;>by_cases j:l=n
  ·rw [e,j]
  ·rw [ba e]at hb;rw [aS j]at d;cases hb;exact absurd hc.symm (g.vp l u d)
  ·rw [aS e]at hb;rw [ba j]at d;cases d;exact absurd hc (g.vp b L hb)
  ·rw [aS e]at hb;rw [aS j]at d;exact q.inj b l L u hb d hc
abbrev eJ(ops:Array Oper)(aos:List aQ):Nat:=kG (dF ops.toList []) aos
def akl(σ:Nat→FuncId)(X0:Wd)(ops:Array Oper)(aos:List aQ)(E:Nat)(X:Wd)(a:Act)(p:P)(K:Nat):Prop:=
 ∃ y zs c,K=eJ ops aos+1∧E≤eJ ops aos∧aos[eJ ops aos]?=aa y∧y.dst=aa p∧y.op=.alloc zs∧a.tmps.getD p.toNat undef=.pointer (aa ⟨c,0,ab⟩)∧X0.w.heap.size≤c∧ky σ X c zs
structure Inv(Q:Program)(σ:Nat→FuncId)(X0:Wd)(n:Nat)(ops:Array Oper)(aos:List aQ)(st:Nat→St)(D:Nat→Prop)(E:Nat)(X:Wd)(a:Act):Prop where
 closed:qc ops.toList D
 dlt:∀ j,D j→j<aos.length
 eN:E≤aos.length
 eW:E=aos.length∨Cn aos E
 eD:¬ D E
 wD:∀ j,Cn aos j→j<E→D j
 heap:X.H=(st E).heap
 ext:Ext X0.H.length X0 X
 sr:SR Q σ X
 b:X.B≤X.w.heap.size
 defs:fN σ X (st E).defs a.defers
 size:n≤a.tmps.size
 Vx:∀ p,∃ K,K≤aos.length∧(VR σ X ((st K).aE.get p) (a.tmps.getD p.toNat undef)∨akl σ X0 ops aos E X a p K)∧∀ j y,aos[j]?=aa y→y.dst=aa p→(j<K↔D j)
 vm:∀ j y,j<E→¬ D j→aos[j]?=aa y→cls y.op=.a→(st (j+1)).heap.length≠(st j).heap.length→X.cC (st j).heap.length=ab
section
variable{n:Nat}{ops:Array Oper}{aos:List aQ}{iU:List (Nat × Nat)}{st:Nat→St}
theorem jE.lP(R:jE Q σ call n ops aos iU st){p:P}{lo:Nat}:∀(hi:Nat),lo≤hi→hi≤aos.length→(∀ j y,lo≤j→j<hi→aos[j]?=aa y→y.dst≠aa p)→(st lo).aE.get p=(st hi).aE.get p
 | 0,h,_,_=>by rw [Nat.le_zero.1 h]
 | hi+1,h,g,b=>by
  rcases alO hi lo with h1 | h1
  ·rw [show lo=hi+1 by omega]
  ·rw [jE.lP R hi h1 (by omega) fun j y h2 h3=>b j y h2 (by omega)];have hy:=By (show hi<aos.length by omega);obtain⟨v,d⟩:=BH (R.step hi _ hy);rw [d,tx,aS (b hi _ h1 (by omega) hy)]
theorem jE.dh(R:jE Q σ call n ops aos iU st){lo:Nat}:∀(hi:Nat),lo≤hi→hi≤aos.length→(∀ j,lo≤j→j<hi→¬ Cn aos j)→dq (st lo).heap (st hi).heap∧(st hi).defs=(st lo).defs
 | 0,h,_,_=>by rw [Nat.le_zero.1 h];exact⟨dq.refl _,rfl⟩
 | hi+1,h,l,b=>by
  rcases alO hi lo with h1 | h1
  ·rw [show lo=hi+1 by omega];exact⟨dq.refl _,rfl⟩
  ·obtain⟨g1,g2⟩:=jE.dh R hi h1 (by omega) fun j h2 h3=>b j h2 (by omega);have hy:=By (show hi<aos.length by omega);obtain⟨d,g⟩:=oq (fun hc=>b hi h1 (by omega) ⟨_,hy,hc⟩) (R.step hi _ hy);exact⟨g1.trans d,g.trans g2⟩
theorem jE.at(R:jE Q σ call n ops aos iU st){i:Nat}{y:aQ}(hy:aos[i]?=aa y):∃ o,ops[i]?=aa o∧kK Q σ n ops o y=ae:=by
 have:=eO R.aeM;have hi:i<ops.toList.length:=by rw [this.len];exact(IS.1 hy).1
 have b:=By hi;refine⟨ops.toList[i],by rw [←Array.getElem?_toList];exact b,this.2 i _ _ b hy⟩
theorem jE.before(R:jE Q σ call n ops aos iU st){i j:Nat}{x y:aQ}(b:i<j)(g:aos[i]?=aa x)(hy:aos[j]?=aa y)(h:x.apart y=ag∨(sC x y=ag∧(j=eJ ops aos→cls x.op≠.w))):xO (dF ops.toList []) i j=ae:=by
 rcases R.ord.two i j x y b g hy with h1 | ⟨h1,h2⟩
 ·exact h1
 ·rcases h with h | ⟨h,d⟩
  ·rw [h1]at h;simp at h
  ·rcases h2 with h2 | ⟨h2,h3⟩
   ·rw [h2]at h;simp at h
   ·exact absurd h3 (d h2)
theorem Ext.assign{X0 d:Wd}(h:Ext X0.H.length X0 d){n c:Nat}(g:ow d.H.length d { d with cC:=fun b=>if b=n then aa ⟨c,0⟩else d.cC b })(hc:X0.w.heap.size≤c):Ext X0.H.length X0 { d with cC:=fun b=>if b=n then aa ⟨c,0⟩else d.cC b } where
 B:=h.B
 F:=h.F
 ox:=h.ox
 fw:=h.fw
 bu:=fun b hb=>(h.bu b hb).trans (g.bu b (aml hb h.len))
 vp:=fun b L hb=>by
  simp only at hb;by_cases e:b=n
  ·rw [ba e]at hb;cases hb;exact .inr hc
  ·rw [aS e]at hb;exact h.vp b L hb
 size:=h.size
 os:=h.os
 tape:=h.tape
 output:=h.output
 frame:=h.frame
theorem jE.Ue(R:jE Q σ call n ops aos iU st){y:aQ}(hy:aos[eJ ops aos]?=aa y):cls y.op=.a:=by
 obtain⟨⟨zs,h⟩,_⟩:=R.ord.ear y hy;rw [h];rfl
theorem TO{x y:aQ}{p:P}(h:x.dst=aa p)(b:p ∈ y.rd):x.apart y=ag:=by
 simp [aQ.apart,h,b]
theorem yK{x y:aQ}{p:P}(h:x.dst=aa p)(b:y.dst=aa p):x.apart y=ag:=by
 simp [aQ.apart,h,b]
theorem TN{x y:aQ}{p:P}(h:p ∈ x.rd)(b:y.dst=aa p):x.apart y=ag:=by
 simp [aQ.apart,h,b]
structure jD(ops:Array Oper)(aos:List aQ)(D:Nat→Prop)(i:Nat)(o:Oper)(y:aQ):Prop where
 ho:ops[i]?=aa o
 hy:aos[i]?=aa y
 hD:¬ D i
 pre:∀ e ∈ o.after.toList,Region.binds .any e=ae→D e.on
variable{X0:Wd}{D:Nat→Prop}{E i:Nat}{a:Act}{o:Oper}{y:aQ}
theorem jD.nZ(d:Inv Q σ X0 n ops aos st D E X a)(b:jD ops aos D i o y){j:Nat}(h:xO (dF ops.toList []) j i=ae):D j:=
 d.closed.ready (by simpa using b.ho) b.pre h
theorem jD.pz(b:Inv Q σ X0 n ops aos st D E X a)(g:jD ops aos D i o y){j:Nat}(h:xO (dF ops.toList []) i j=ae):¬ D j:=
 fun d=>g.hD (b.closed.below j d h)
theorem jE.reads(R:jE Q σ call n ops aos iU st)(m:Inv Q σ X0 n ops aos st D E X a)(b:jD ops aos D i o y){p:P}(B:p ∈ y.rd):VR σ X ((st i).aE.get p) (a.tmps.getD p.toNat undef):=by
 obtain⟨K,I,s,H⟩:=m.Vx p;have hi:i<aos.length:=(IS.1 b.hy).1;have s:VR σ X ((st K).aE.get p) (a.tmps.getD p.toNat undef):=by
  rcases s with s | ⟨z,zs,c,_,M,d,g,_⟩
  ·exact s
  ·exfalso;obtain⟨_,_,N,x,l⟩:=R.ord.ear z d;rw [g]at x;cases x;have J:=(IS.1 d).1;rcases m.eW with h4 | v
   ·omega
   ·have L:E≠eJ ops aos:=by
     intro e;obtain⟨q,F,A⟩:=v;rw [e]at F;rw [R.Ue F]at A;cases A
    exact m.eD (b.nZ m (l i y b.hy B E v (show E<eJ ops aos by omega)))
 rcases Nat.le_total K i with h | h
 ·rw [←R.lP i h (by omega) fun j z h1 h2 d g=>?_]
  ·exact s
  ·have:=b.nZ m (R.before h2 d b.hy (.inl (TO g B)));have:=(H j z d g).2 this;omega
 ·rw [R.lP K h I fun j z h1 h2 d g=>?_]
  ·exact s
  ·have u:=(H j z d g).1 h2;rcases alO i j with h3 | h3
   ·exact b.pz m (R.before h3 b.hy d (.inl (TN B g))) u
   ·have:j=i:=by omega
    subst this;exact b.hD u
theorem jE.fin(R:jE Q σ call n ops aos iU st)(F:Inv Q σ X0 n ops aos st D E X a)(q:jD ops aos D i o y){l:Wd}{a1:Act}{u:Value}{v:V}{m:Nat}(hS:SR Q σ l)(hB:l.B≤l.w.heap.size)(a_:Ext X0.H.length X0 l)
  (hm:∀ v u,VR σ X v u→VR σ l v u) (a8:∀ y zs c p,E≤eJ ops aos→aos[eJ ops aos]?=aa y→y.op=.alloc zs→y.dst=aa p→D (eJ ops aos)→a.tmps.getD p.toNat undef=.pointer (aa ⟨c,0,ab⟩)→X0.w.heap.size≤c→ky σ X c zs→if m≤eJ ops aos then ky σ l c zs else VR σ l ((st (eJ ops aos+1)).aE.get p) (.pointer (aa ⟨c,0,ab⟩)))
  (hv:VR σ l v u∨(i=eJ ops aos∧m≤eJ ops aos∧∃ zs c,y.op=.alloc zs∧u=.pointer (aa ⟨c,0,ab⟩)∧X0.w.heap.size≤c∧ky σ l c zs))
  (ht:a1.tmps=(a.put o.dst u).tmps) (U:(st (i+1)).aE=ij (st i).aE y.dst v) (h1:m≤aos.length) (h2:m=aos.length∨Cn aos m) (h3:¬ (D m∨m=i)) (h4:∀ j,Cn aos j→j<m→D j∨j=i)
  (hH:l.H=(st m).heap) (hd:fN σ l (st m).defs a1.defers)
  (hh:∀ j y,j<m→¬ (D j∨j=i)→aos[j]?=aa y→cls y.op=.a→(st (j+1)).heap.length≠(st j).heap.length→l.cC (st j).heap.length=ab) :
  Inv Q σ X0 n ops aos st (fun j=>D j∨j=i) m l a1:=by
 have hi:i<aos.length:=(IS.1 q.hy).1;obtain⟨o',S,A⟩:=R.at q.hy;rw [q.ho]at S;cases S;have vn:(a.put o.dst u).tmps.size=a.tmps.size:=by cases o.dst<;>simp [Act.put]
 refine⟨fun j oj O B e he hb=>?_,fun j O=>O.elim (F.dlt j) fun h=>h▸hi,h1,h2,h3,h4,hH,a_,hS,hB,hd,by rw [ht,vn];exact F.size,fun p=>?_,hh⟩
 ·rcases O with O | rfl
  ·exact .inl (F.closed j oj O B e he hb)
  ·have:oj=o:=by have:=q.ho;simp at B;rw [this]at B;cases B;rfl
   subst this;exact .inl (q.pre e he hb)
 ·by_cases b:y.dst=aa p
  ·have s:a1.tmps.getD p.toNat undef=u:=by
    rw [ht];simp only [kK,If]at A;have g:=A.1.2;rw [b]at g;split at g
    ·rename_i d p' L J;simp only [If,beq_iff_eq,decide_eq_true_eq]at g;cases J;have Z:d<a.tmps.size:=aml g.2 F.size;rw [L,g.1];simp only [Act.put];simp [Z]
    ·rename_i J;simp at J
    ·simp at g
   refine⟨i+1,hi,?_,fun j z I x=>⟨fun h=>?_,fun h=>?_⟩⟩
   ·rcases hv with hv | ⟨N,Y,zs,c,g1,g2,g3,g4⟩
    ·left;rw [U,tx,ba b,s];exact hv
    ·right;exact⟨y,zs,c,by rw [N],Y,by rw [←N];exact q.hy,b,g1,by rw [s];exact g2,g3,g4⟩
   ·rcases alO j i with M | M
    ·exact .inl (q.nZ F (R.before M I q.hy (.inl (yK x b))))
    ·exact .inr (by omega)
   ·rcases h with h | rfl
    ·rcases alO i j with M | M
     ·exact absurd h (q.pz F (R.before M q.hy I (.inl (yK b x))))
     ·omega
    ·omega
  ·obtain⟨K,hK,H,hw⟩:=F.Vx p;have e:a1.tmps.getD p.toNat undef=a.tmps.getD p.toNat undef:=by
    rw [ht];simp only [kK,If]at A;have g:=A.1.2;split at g
    ·rename_i d p' L J;simp only [If,beq_iff_eq,decide_eq_true_eq]at g;have a7:d≠p.toNat:=fun e=>b (by rw [J,P.toNat_inj (g.1.trans e)]);rw [L];simp [Act.put,Array.getD_eq_getD_getElem?,Array.getElem?_setIfInBounds_ne a7]
    ·rename_i L J;rw [L];rfl
    ·simp at g
   refine⟨K,hK,?_,fun j z I x=>?_⟩
   ·rcases H with H | ⟨z,zs,c,g1,g2,g3,g4,g5,g6,g7,g8⟩
    ·left;rw [e];exact hm _ _ H
    ·have W:D (eJ ops aos):=(hw _ z g3 g4).1 (by omega);have:=a8 z zs c p g2 g3 g5 g4 W g6 g7 g8;split at this
     ·rename_i Y;right;exact⟨z,zs,c,g1,Y,g3,g4,g5,by rw [e];exact g6,g7,this⟩
     ·left;rw [e,g6,g1];exact this
   ·rw [hw j z I x];exact⟨.inl,fun h=>h.elim id fun h=>absurd (by rw [h]at I;rw [q.hy]at I;cases I;exact x) b⟩
end
end
section
variable{Q:Program}{σ:Nat→FuncId}{X:Wd}{call:du}
variable{n:Nat}{ops:Array Oper}{aos:List aQ}{iU:List (Nat × Nat)}{st:Nat→St}
variable{X0:Wd}{D:Nat→Prop}{E i:Nat}{a:Act}{o:Oper}{y:aQ}
theorem oG{x y:aQ}(h:cls x.op=.w)(d:cls y.op≠.p)(b:cls y.op≠.r):sC x y=ag:=by
 unfold sC;rw [h];cases g:cls y.op<;>simp_all
theorem sD{x y:aQ}(h:cls y.op=.w)(d:cls x.op≠.p)(b:cls x.op≠.r):sC x y=ag:=by
 unfold sC;rw [h];cases g:cls x.op<;>simp_all
theorem jE.ti(R:jE Q σ call n ops aos iU st){j:Nat}{z:aQ}(b:aos[j]?=aa z)(hc:cls z.op≠.a):j≠eJ ops aos:=by
 rintro rfl;exact hc (R.Ue b)
theorem jE.agm(R:jE Q σ call n ops aos iU st)(d:Inv Q σ X0 n ops aos st D E X a)(b:jD ops aos D i o y)(hc:cls y.op=.w):i=E:=by
 have hi:i<aos.length:=(IS.1 b.hy).1;rcases amK i E with h | h | h
 ·exact absurd (d.wD i ⟨y,b.hy,hc⟩ h) b.hD
 ·exact h
 ·rcases d.eW with h1 | ⟨z,j,g⟩
  ·omega
  ·exact absurd (b.nZ d (R.before h j b.hy (.inr ⟨oG g (by simp [hc]) (by simp [hc]),fun e=>absurd e (R.ti b.hy (by simp [hc]))⟩))) d.eD
theorem jE.TF(R:jE Q σ call n ops aos iU st)(g:Inv Q σ X0 n ops aos st D E X a)(d:jD ops aos D i o y)(h1:cls y.op≠.p)(h2:cls y.op≠.r)(h3:cls y.op≠.w)(u:i=eJ ops aos→i<E):i<E∧∀ j,i≤j→j<E→¬ Cn aos j:=by
 have hi:i<aos.length:=(IS.1 d.hy).1;refine⟨?_,fun j v q s=>?_⟩
 ·rcases amK i E with h | h | h
  ·exact h
  ·rcases g.eW with h4 | ⟨z,l,b⟩
   ·omega
   ·rw [←h,d.hy]at l;cases l;exact absurd b h3
  ·rcases g.eW with h4 | ⟨z,l,b⟩
   ·omega
   ·exact absurd (d.nZ g (R.before h l d.hy (.inr ⟨oG b h1 h2,fun e=>by have:=u e;omega⟩))) g.eD
 ·have m:=g.wD j s q;obtain⟨z,l,b⟩:=s;rcases alO i j with h | h
  ·exact d.pz g (R.before h d.hy l (.inr ⟨sD b h1 h2,fun _=>h3⟩)) m
  ·have:j=i:=by omega
   subst this;exact d.hD m
theorem jE.akz(R:jE Q σ call n ops aos iU st)(d:Inv Q σ X0 n ops aos st D E X a)(s:jD ops aos D i o y)(hc:cls y.op=.r)(L:wanted (st i).aE y.g=aa ae){v:V}{F:an}(h:bE (st i).aE (st i).heap y.op=aa (v,F)) :
  F=(st i).heap∧bE (st i).aE X.H y.op=aa (v,X.H):=by
 have hi:i<aos.length:=(IS.1 s.hy).1;refine⟨(C' hc (dq.refl _) h).1,?_⟩;have q:zH (dF ops.toList []) aos i E=ae:=by
  unfold zH;rw [alA];intro j K;have l:=mJ.1 K;split
  ·rename_i m;have b:=d.wD j l m;cases x:xO (dF ops.toList []) i j with
   | false=>rfl| true=>exact absurd b (s.pz d x)
  ·rename_i m;cases x:xO (dF ops.toList []) j i with
   | false=>rfl
   | true=>
    exfalso;have b:=s.nZ d x;rcases alO E j with h1 | h1
    ·rcases d.eW with h4 | ⟨z,M,B⟩
     ·have:=d.dlt j b;omega
     ·obtain⟨O,u,g⟩:=l;exact d.eD (d.closed.below j b (R.before h1 M u (.inr ⟨oG B (by simp [g]) (by simp [g]),fun e=>absurd e (R.ti u (by simp [g]))⟩)))
    ·have:j=E:=by omega
     subst this;exact d.eD b
 rw [d.heap];rcases R.ord.rd i y E s.hy hc (d.eW.symm) q with A | A
 ·obtain⟨p1,_,_,H⟩:=od (aos:=aos) (i:=i) (by omega);rw [←A]at p1 H;exact(C' hc (R.dh E p1 d.eN H).1 h).2
 ·obtain⟨N,I,J,g1,g2⟩:=R.ako i E y A s.hy L;rw [h]at g1;cases g1;have:=(C' hc (dq.refl _) g2).1;rw [this]at g2;exact g2
theorem jE.aaa(R:jE Q σ call n ops aos iU st){z:aQ}(d:aos[eJ ops aos]?=aa z){zs:List FC}(b:z.op=.alloc zs){p:P}(g:z.dst=aa p) :
  (st (eJ ops aos+1)).heap=(st (eJ ops aos)).heap++[.box (zs.map .f) 0]∧(st (eJ ops aos+1)).aE.get p=.c (.ptr (st (eJ ops aos)).heap.length 0 0):=by
 obtain⟨_,hg,_⟩:=R.ord.ear z d;have h:=R.step _ z d;simp only [fj,hg,wanted,b,eI,bE,alZ,AI]at h;rw [←h];exact⟨rfl,by rw [tx,ba g]⟩
theorem jE.B0(R:jE Q σ call n ops aos iU st)(s:Inv Q σ X0 n ops aos st D E X a)(x:jD ops aos D i o y)(hc:cls y.op=.w){d:Wd}{a1:Act}{u:Value}{v:V}(hS:SR Q σ d)(hB:d.B≤d.w.heap.size)(hx:Ext X.H.length X d)
  (hv:VR σ d v u) (ht:a1.tmps=(a.put o.dst u).tmps) (B:(st (i+1)).aE=ij (st i).aE y.dst v) (hH:d.H=(st (i+1)).heap) (hd:fN σ d (st (i+1)).defs a1.defers) :
  ∃ E' X2,X2.w=d.w∧Inv Q σ X0 n ops aos st (fun j=>D j∨j=i) E' X2 a1:=by
 have hi:i<aos.length:=(IS.1 x.hy).1;have a_:=R.agm s x hc;subst a_;obtain⟨p1,p2,p3,J⟩:=od (aos:=aos) (i:=i+1) (by omega);obtain⟨q1,q2⟩:=R.dh _ p1 p2 J;rw [←hH]at q1;obtain⟨k1,Z⟩:=SR.ahead hS q1;have g:Ext X.H.length X { d with H:=(st (phase aos (i+1))).heap }:=hx.trans (Z.mono hx.len);have I:Ext X0.H.length X0 { d with H:=(st (phase aos (i+1))).heap }:=s.ext.trans (g.mono s.ext.len);have K:¬ (D (phase aos (i+1))∨phase aos (i+1)=i):=by
  rintro(h | h)
  ·rcases p3 with h1 | ⟨z,hz,l⟩
   ·have:=s.dlt _ h;omega
   ·exact x.pz s (R.before p1 x.hy hz (.inr ⟨oG hc (by simp [l]) (by simp [l]),fun e=>absurd e (R.ti hz (by simp [l]))⟩)) h
  ·omega
 have N:∀ j,Cn aos j→j<phase aos (i+1)→D j∨j=i:=by
  intro j U hj;rcases amK j i with h | h | h
  ·exact .inl (s.wD j U h)
  ·exact .inr h
  ·exact absurd U (J j h hj)
 have S:fN σ { d with H:=(st (phase aos (i+1))).heap } (st (phase aos (i+1))).defs a1.defers:=by rw [q2];exact hd.ext' Z
 have iJ:i≠eJ ops aos:=R.ti x.hy (by simp [hc]);have vm:∀ j z,j<phase aos (i+1)→¬ (D j∨j=i)→aos[j]?=aa z→cls z.op=.a→(st (j+1)).heap.length≠(st j).heap.length→i<j∧d.cC (st j).heap.length=ab:=by
  intro j z hj hD hz l A;rcases amK j i with h | h | h
  ·exact absurd (.inl (x.nZ s (R.before h hz x.hy (.inr ⟨sD hc (by simp [l]) (by simp [l]),fun e=>absurd e iJ⟩)))) hD
  ·exact absurd (.inr h) hD
  ·have F:=(R.dh j h (by omega) fun k h1 h2=>J k h1 (by omega)).1.len;rw [←hH]at F;refine⟨h,?_⟩;cases m:d.cC (st j).heap.length with
   | none=>rfl| some L=>have:=SR.lt hS m;omega
 by_cases hP:∃ z zs c p,i≤eJ ops aos∧eJ ops aos<phase aos (i+1)∧aos[eJ ops aos]?=aa z∧z.op=.alloc zs∧z.dst=aa p∧D (eJ ops aos)∧a.tmps.getD p.toNat undef=.pointer (aa ⟨c,0,ab⟩)∧X0.w.heap.size≤c∧ky σ X c zs
 ·obtain⟨z,zs,c,p,g1,g2,g3,g4,g5,g6,g7,g8,g9⟩:=hP;obtain⟨s1,s2⟩:=R.aaa g3 g4 g5;have M:i<eJ ops aos:=by omega
  have b_:(st (i+1)).heap.length≤(st (eJ ops aos)).heap.length:=(R.dh _ M (by omega) fun k h1 h2=>J k h1 (by omega)).1.len;obtain⟨fl,O⟩:∃ fl,(st (phase aos (i+1))).heap[(st (eJ ops aos)).heap.length]?=aa (.box (zs.map .f) fl):=by
   have W:=(R.dh (phase aos (i+1)) (show eJ ops aos+1≤_ by omega) p2 fun k h1 h2=>J k (by omega) h2).1;rw [s1]at W;exact oO W
  have c9:ky σ { d with H:=(st (phase aos (i+1))).heap } c zs:=g9.ext g;have c_:d.cC (st (eJ ops aos)).heap.length=ab:=by
   cases m:d.cC (st (eJ ops aos)).heap.length with
   | none=>rfl| some L=>have:=SR.lt hS m;rw [hH]at this;omega
  obtain⟨a7,q,a8⟩:=SR.assign k1 c9 O c_;refine⟨phase aos (i+1),{ d with H:=(st (phase aos (i+1))).heap,cC:=fun b=>if b=(st (eJ ops aos)).heap.length then aa ⟨c,0⟩else d.cC b },rfl,R.fin s x a7 hB (I.assign q g8) (fun v u h=>VR.eb σ q (VR.ext' σ g h)) ?_ (.inl (VR.eb σ q (VR.ext' σ Z hv))) ht B p2 p3 K N rfl (fN.eb q S) ?_⟩
  ·intro z' d9 c' p' _ e2 _ e4 _ e6 _ _;rw [g3]at e2;cases e2;rw [g5]at e4;cases e4;rw [g7]at e6;simp only [Value.pointer.injEq,AI,Addr.mk.injEq,true_and,and_true]at e6;subst e6;rw [aS (by omega),s2];exact a8
  ·intro j w hj hD hw Y A;obtain⟨f1,f2⟩:=vm j w hj hD hw Y A;show(if(st j).heap.length=(st (eJ ops aos)).heap.length then aa (⟨c,0⟩:Loc)else d.cC (st j).heap.length)=ab;rw [aS,f2];intro e;rcases amK j (eJ ops aos)with h | h | h
   ·have h1:=(R.dh (lo:=j+1) (eJ ops aos) h (by omega) fun k h1 h2=>J k (by omega) (by omega)).1.len;have h2:=(oq (by simp [Y]) (R.step j w hw)).1.len;clear I g k1 Z;omega
   ·exact hD (.inl (by rw [h];exact g6))
   ·have h1:=(R.dh (lo:=eJ ops aos+1) j h (by omega) fun k h1 h2=>J k (by omega) (by omega)).1.len;rw [s1,alj]at h1;simp only [List.length_cons,amR]at h1;omega
 ·refine⟨phase aos (i+1),{ d with H:=(st (phase aos (i+1))).heap },rfl,R.fin s x k1 hB I (fun v u h=>VR.ext' σ g h) ?_ (.inl (VR.ext' σ Z hv)) ht B p2 p3 K N rfl S (fun j z h1 h2 h3 h4 h5=>(vm j z h1 h2 h3 h4 h5).2)⟩;intro z zs c p g1 g2 g3 g4 g5 g6 g7 g8;by_cases F:phase aos (i+1)≤eJ ops aos
  ·rw [ba F];exact g8.ext g
  ·exact absurd ⟨z,zs,c,p,g1,by omega,g2,g3,g4,g5,g6,g7,g8⟩ hP
theorem jE.ng(R:jE Q σ call n ops aos iU st)(d:Inv Q σ X0 n ops aos st D E X a)(l:jD ops aos D i o y)(hc:cls y.op≠.w){b:Wd}{a1:Act}{u:Value}{v:V}(B:SR Q σ b)(x:b.B≤b.w.heap.size)(m:Ext X.H.length X b)
  (J:VR σ b v u∨(i=eJ ops aos∧E≤eJ ops aos∧∃ zs c,y.op=.alloc zs∧u=.pointer (aa ⟨c,0,ab⟩)∧X0.w.heap.size≤c∧ky σ b c zs)) (I:a1.tmps=(a.put o.dst u).tmps) (g:(st (i+1)).aE=ij (st i).aE y.dst v) (A:b.H=X.H) (F:fN σ b (st E).defs a1.defers)
  (H:∀ j z,j<E→¬ (D j∨j=i)→aos[j]?=aa z→cls z.op=.a→(st (j+1)).heap.length≠(st j).heap.length→b.cC (st j).heap.length=ab) :
  Inv Q σ X0 n ops aos st (fun j=>D j∨j=i) E b a1:=by
 refine R.fin d l B x (d.ext.trans (m.mono d.ext.len)) (fun v u h=>VR.ext' σ m h) (fun z zs c p g1 _ _ _ _ _ _ g8=>by rw [ba g1];exact g8.ext m) J I g d.eN d.eW ?_ (fun j h1 h2=>.inl (d.wD j h1 h2)) (A.trans d.heap) F H;rintro(h | h)
 ·exact d.eD h
 ·have hi:i<aos.length:=(IS.1 l.hy).1;rcases d.eW with h1 | ⟨z,s,q⟩
  ·omega
  ·rw [h,l.hy]at s;cases s;exact hc q
theorem jE.gQ(d:Inv Q σ X0 n ops aos st D E X a){b:Wd}(h:b.cC=X.cC):∀ j z,j<E→¬ (D j∨j=i)→aos[j]?=aa z→cls z.op=.a→(st (j+1)).heap.length≠(st j).heap.length→b.cC (st j).heap.length=ab:=
 fun j z h1 h2 h3 h4 h5=>by rw [h];exact d.vm j z h1 (fun h=>h2 (.inl h)) h3 h4 h5
theorem jE.Bh(R:jE Q σ call n ops aos iU st)(q:Inv Q σ X0 n ops aos st D E X a)(u:jD ops aos D i o y)(hc:cls y.op=.a)(F:i=eJ ops aos→i<E)(m:(st (i+1)).heap.length≠(st i).heap.length){j:Nat}{z:aQ}(J:j<E)(hD:¬ (D j∨j=i))(B:aos[j]?=aa z)(d:cls z.op=.a)
  (g:(st (j+1)).heap.length≠(st j).heap.length):(st j).heap.length≠(st i).heap.length:=by
 have hi:i<aos.length:=(IS.1 u.hy).1;obtain⟨g1,g2⟩:=R.TF q u (by simp [hc]) (by simp [hc]) (by simp [hc]) F;have I:∀ k,j≤k→k<E→¬ Cn aos k:=by
  intro k h1 h2 s;have l:=q.wD k s h2;obtain⟨w,v,x⟩:=s;rcases alO j k with h | h
  ·exact hD (.inl (q.closed.below k l (R.before h B v (.inr ⟨sD x (by simp [d]) (by simp [d]),fun _=>by simp [d]⟩))))
  ·have:k=j:=by omega
   subst this;exact hD (.inl l)
 have b:∀ k w,aos[k]?=aa w→cls w.op=.a→(st (k+1)).heap.length≠(st k).heap.length→(st k).heap.length<(st (k+1)).heap.length:=by
  intro k w s A H;have:=(oq (by simp [A]) (R.step k w s)).1.len;omega
 rcases amK j i with h | h | h
 ·have h1:=b j z B d g;have h2:(st (j+1)).heap.length≤(st i).heap.length:=(R.dh i h (by omega) fun k h3 h4=>I k (by omega) (by omega)).1.len;omega
 ·exact absurd (.inr h) hD
 ·have h1:=b i y u.hy hc m;have h2:(st (i+1)).heap.length≤(st j).heap.length:=(R.dh j h (by have:=q.eN;omega) fun k h3 h4=>g2 k (by omega) (by omega)).1.len;omega
end
section
variable{Q:Program}{σ:Nat→FuncId}{X:Wd}{call:du}
variable{n:Nat}{ops:Array Oper}{aos:List aQ}{iU:List (Nat × Nat)}{st:Nat→St}
variable{X0:Wd}{D:Nat→Prop}{E i:Nat}{a:Act}{o:Oper}{y:aQ}
theorem Bw{w':World}{q:Obj}(g:SR Q σ X)(d:dY X.w w' q):SR Q σ { X with w:=w' }∧Ext X.H.length X { X with w:=w' }:=by
 have j:Ext X.H.length X { X with w:=w' }:=Ext.one g X.H.length rfl (fun _ _=>Iff.rfl) (fun k m _=>d.Ao m)
  (fun L i h=>by rw [SR.qx g]at h;simp at h) (fun h=>absurd h (ano _)) (fun _ _ _=>rfl) (fun _ _=>rfl) (fun L h=>.inl ⟨L,h,rfl⟩) (by show _≤w'.heap.size;rw [d.size];omega) d.os d.tape d.output
 refine⟨SR.step Q σ g j X.H.length (fun _ _=>rfl) (fun _ _=>rfl) (fun b L _ l=>d.Ao (g.br b L l).2.1)
  (fun _ _ _ _ _ h=>h) (fun L h=>by change X.cC X.H.length=aa L at h;rw [SR.qx g]at h;simp at h) (fun c i h=>?_),j⟩
 have:=g.fb c i h;show c<w'.heap.size;rw [d.size];omega
theorem UX{y:aQ}{p:P}(h:p ∈ y.op.rd):p ∈ y.rd:=by unfold aQ.rd;exact aln.2 (.inr h)
theorem Ch{y:aQ}{p:P}{w:Bool}(h:y.g=aa (p,w)):p ∈ y.rd:=by unfold aQ.rd;rw [h];simp
theorem jE.ab2(hC:fo Q σ call)(R:jE Q σ call n ops aos iU st)(d:Inv Q σ X0 n ops aos st D E X a)(A:jD ops aos D i o y){b:Frame}{rest:List Nat}{k:List Item}{cs:List Frame}(hk:iK b cs)(j8:gr y.op b) :
  ∃ E' X' a',Steps Q (lone (b.atR a (.inRegion ops (i::rest)::k)) cs X.w) (lone (b.atR a' (.inRegion ops rest::k)) cs X'.w)∧Inv Q σ X0 n ops aos st (fun j=>D j∨j=i) E' X' a'∧a'.tmps.size=a.tmps.size:=by
 have hi:i<aos.length:=(IS.1 A.hy).1;obtain⟨o',g_,hm⟩:=R.at A.hy;rw [A.ho]at g_;cases g_;have g:=R.step i y A.hy;have S:∀ p ∈ y.rd,VR σ X ((st i).aE.get p) (a.tmps.getD p.toNat undef):=fun p hp=>R.reads d A hp;have l:dW Q σ o y.op=ae:=by simp only [kK,If]at hm;exact hm.1.1
 have K:∀ u,(a.put o.dst u).tmps.size=a.tmps.size:=fun u=>by cases o.dst<;>simp [Act.put]
 have J:∀(a:Act) u,(a.put o.dst u).defers=a.defers:=fun a u=>by cases o.dst<;>rfl
 have i7:∀(a a':Act) u,a'.tmps=a.tmps→(a'.put o.dst u).tmps=(a.put o.dst u).tmps:=fun a a' u h=>by cases o.dst<;>simp [Act.put,h]
 unfold fj at g;split at g
 ·rename_i d9;have hw:=nG hm (aE:=(st i).aE) (tmps:=a.tmps) (X:=X) (fun p w' hg=>S p (Ch hg)) d.size d9;split at g
  ·rename_i v s1 h1;simp only [AI]at g;have B:(st (i+1)).aE=ij (st i).aE y.dst v:=by rw [←g,←we h1]
   have q:(st (i+1)).heap=s1.heap:=by rw [←g]
   have N:(st (i+1)).defs=s1.defs:=by rw [←g]
   have F:∀ p ∈ y.op.rd,(st i).aE.get p=(gO (st i).aE y.op.rd).get p:=fun p hp=>by rw [tz,ba hp]
   have Z:RR σ X (gO (st i).aE y.op.rd) a.tmps:=fun p=>by
    rw [tz];split
    ·rename_i hp;exact S p (UX hp)
    ·trivial
   have M:=C9 F h1;by_cases m:cls y.op=.w
   ·have a8:=R.agm d A m;obtain⟨g1,g2⟩:=C8 hC d.sr d.b (s:={ st i with aE:=gO (st i).aE y.op.rd }) (by rw [d.heap,←a8]) Z (by rw [a8];exact d.defs) l M;obtain⟨X1,u,a1,k1,⟨k2,k3,k4,k5,k6⟩,k7,k8⟩:=g1 b ops i rest k cs A.ho hw hk j8;obtain⟨E',X2,q1,q2⟩:=R.B0 d A m (a1:=a1.put o.dst u) k3 k6 k5 k4 (i7 a a1 u k7) B (by rw [k2,q]) (by rw [N,J];exact k8);exact⟨E',X2,a1.put o.dst u,by rw [q1];exact k1,q2,by rw [i7 a a1 u k7,K]⟩
   ·
    have j7:∀ c,o.op≠.defer c:=pc l (fun x xs e=>m (by rw [e];rfl)) (fun e=>by rw [e]at h1;simp [eI,bE]at h1);have one:∀ {u:Value} {w':World},(execOp a.eval o).run Q X.w=.ok (.value u) w'→Steps Q (lone (b.atR a (.inRegion ops (i::rest)::k)) cs X.w) (lone (b.atR (a.put o.dst u) (.inRegion ops rest::k)) cs w'):=by
     intro u w' a_;refine .one (step_lone_go ?_);rw [stepGR_op A.ho hw,Oper.semAt_eq _ _ _ j7];have a7:=Frame.finish_atR b a ops i rest k u;rw [A.ho]at a7;simp only [alP]at a7;rw [←a7];simp [stepG.apply,Sem.runT_eq,a_]
    by_cases H:cls y.op=.c
    ·
     obtain⟨f,xs,c_⟩:∃ f xs,y.op=.call f xs ag:=by
      generalize y.op=op at H;cases op<;>first | (simp only [cls,reduceCtorEq]at H;done) | skip
      rename_i f xs hh;cases hh
      ·exact⟨f,xs,rfl⟩
      ·simp [cls]at H
     have I:=Z;rw [c_]at M l I;simp only [eI,gu,alE,if_false,IN,OF]at M;obtain⟨⟨v',H'⟩,hp,rfl,i3⟩:=M;have j4:H'=(st (i+1)).heap:=by
      rw [q];simp only [St.mk.injEq]at i3;exact i3.2.2
     obtain⟨g1,g2⟩:=R.TF d A (by simp [H]) (by simp [H]) (by simp [H]) (fun e=>absurd e (R.ti A.hy (by simp [H])));have e_:dq H' X.H:=by
      rw [j4,d.heap];exact(R.dh E g1 d.eN fun j h1 h2=>g2 j (by omega) h2).1
     obtain⟨X1,u,k1,⟨k2,k3,k4,k5,k6⟩,k7⟩:=wz hC d.sr d.b I l hp e_ b ops i rest k cs A.ho hw;exact⟨E,X1,a.put o.dst u,k1,R.ng d A m k3 k6 k5 (.inl k4) rfl B k2 (by rw [J];exact d.defs.ext' k5) (jE.gQ d k7),K u⟩
    ·have hx:(bE (gO (st i).aE y.op.rd) (st i).heap y.op)=aa (v,s1.heap):=by
      have c9:¬ ((∃ f xs h,y.op=.call f xs h)∨(∃ x xs h,y.op=.bY x xs h)∨y.op=.recover∨∃ x xs,y.op=.defer x xs):=by
       rintro(⟨f,xs,hh,e⟩ | ⟨x,xs,hh,e⟩ | e | ⟨x,xs,e⟩)<;>rw [e]at m H
       ·cases hh
        ·exact H rfl
        ·exact m rfl
       ·exact m rfl
       ·exact m rfl
       ·exact m rfl
      have hx:(bE (gO (st i).aE y.op.rd) (st i).heap y.op).map (fun r=>(r.1,({ st i with aE:=gO (st i).aE y.op.rd,heap:=r.2 }:St)))=aa (v,{ s1 with aE:=gO (st i).aE y.op.rd }):=by
       generalize gO (st i).aE y.op.rd=r at M;generalize y.op=op at M c9;cases op<;>first | exact M | (exfalso;apply c9;simp)
      simp only [IN,OF,St.mk.injEq]at hx;obtain⟨⟨v',H'⟩,h2,rfl,_,_,h3⟩:=hx;rw [h2];simp only at h3;rw [h3]
     by_cases Y:cls y.op=.a
     ·by_cases U:i=eJ ops aos∧E≤i
      ·
       obtain⟨f8,j3⟩:=U;obtain⟨⟨zs,c_⟩,_,_⟩:=R.ord.ear y (show aos[eJ ops aos]?=aa y from f8▸A.hy);have f_:=hx;rw [c_]at f_ l;simp only [bE,AI,OF]at f_;obtain⟨rfl,_⟩:=f_;simp only [dW]at l;split at l
       ·rename_i t ho;obtain⟨z,us,i8,i9,i_,_⟩:=eV (σ:=σ) (X:=X) l X.w;have a_:(execOp a.eval o).run Q X.w=.ok (.value (.pointer (aa ⟨X.w.heap.size,0,ab⟩))) (X.w.alloc (.cells us.toArray t)):=by
         simp only [execOp,ho];refine ef ?_;simp [Instr.alloc,i8,newVar,newRow,i9]
        obtain⟨e1,e2⟩:=Bw d.sr (dY.alloc X.w (.cells us.toArray t));refine⟨E,{ X with w:=X.w.alloc (.cells us.toArray t) },a.put o.dst (.pointer (aa ⟨X.w.heap.size,0,ab⟩)),one a_,R.ng d A m e1 (by have:=d.b;simp;omega) e2 (.inr ⟨f8,by rw [←f8];exact j3,zs,X.w.heap.size,c_,rfl,d.ext.size,?_⟩) rfl B rfl (by rw [J];exact d.defs.ext' e2) (jE.gQ d rfl),K _⟩;exact⟨⟨us,t,(dY.alloc X.w (.cells us.toArray t)).new,A2.ext' σ e2 i_⟩,d.b,fun b L hb=>by have:=(d.sr.br b L hb).2.1;omega,fun j hj=>by have:=d.sr.fb _ j hj;omega⟩
       ·simp at l
      have hJ:i=eJ ops aos→i<E:=fun e=>by
       rcases alO i E with h | h
       ·exact h
       ·exact absurd ⟨e,h⟩ U
      obtain⟨g1,g2⟩:=R.TF d A (by simp [Y]) (by simp [Y]) (by simp [Y]) hJ;have e_:dq s1.heap X.H:=by
       rw [←q,d.heap];exact(R.dh E g1 d.eN fun j h1 h2=>g2 j (by omega) h2).1
      obtain⟨X1,u,k1,⟨k2,k3,k4,k5,k6⟩,k7,k8⟩:=aaJ d.sr d.b Z Y l hx e_ (fun c9=>d.vm i y g1 A.hD A.hy Y (by rw [q];exact c9));refine⟨E,X1,a.put o.dst u,one k1,R.ng d A m k3 k6 k5 (.inl k4) rfl B k2 (by rw [J];exact d.defs.ext' k5) ?_,K u⟩;by_cases d_:(st (i+1)).heap.length=(st i).heap.length
      ·exact jE.gQ d (k8 (by rw [←q];exact d_))
      ·intro j z h2 h3 h4 h5 h6;rw [k7 _ (R.Bh d A Y hJ d_ h2 h3 h4 h5 h6)];exact d.vm j z h2 (fun h=>h3 (.inl h)) h4 h5 h6
     ·
      have h_:cls y.op=.p∨cls y.op=.r:=by cases b_:cls y.op<;>simp_all
      have j_:bE (st i).aE (st i).heap y.op=aa (v,s1.heap):=by rw [BG F];exact hx
      have i6:bE (gO (st i).aE y.op.rd) X.H y.op=aa (v,X.H):=by
       rcases h_ with b_ | b_
       ·have:=acz (r:=gO (st i).aE y.op.rd) b_ (st i).heap X.H;rw [hx]at this;simpa using this
       ·rw [←BG F];exact(R.akz d A b_ d9 j_).2
      cases f7:y.op.fsl
      case true=>
       have O:=l;have W:=i6;have I:=Z;obtain⟨rg,j9⟩:=aN (gO (st i).aE y.op.rd);rw [←j9]at W I;revert O W;generalize y.op=op at f7;cases op<;>simp only [dn.fsl,reduceCtorEq]at f7;intro O W;obtain⟨_,u,X1,k1,k2,k3,k4,k5,k6,k7⟩:=vj d.sr d.b I O W;exact⟨E,X1,a.put o.dst u,one k1,R.ng d A m k3 k6 k5 (.inl k4) rfl B k2 (by rw [J];exact d.defs.ext' k5) (jE.gQ d k7),K u⟩
      obtain⟨_,u,k1,k2⟩:=acr d.sr Z l h_ f7 i6;exact⟨E,X,a.put o.dst u,one k1,R.ng d A m d.sr d.b (Ext.refl _ _) (.inl k2) rfl B rfl (by rw [J];exact d.defs) (jE.gQ d rfl),K u⟩
  ·simp at g
 ·rename_i d9;have hw:=nG hm (aE:=(st i).aE) (tmps:=a.tmps) (X:=X) (fun p w' hg=>S p (Ch hg)) d.size d9;simp only [AI]at g;have B:(st (i+1)).aE=ij (st i).aE y.dst (.t []):=by rw [←g]
  have q:(st (i+1)).heap=(st i).heap:=by rw [←g]
  have N:(st (i+1)).defs=(st i).defs:=by rw [←g]
  have i4:Steps Q (lone (b.atR a (.inRegion ops (i::rest)::k)) cs X.w) (lone (b.atR (a.put o.dst undef) (.inRegion ops rest::k)) cs X.w):=by
   refine .one ?_;have:=stepR_op_skip (P:=Q) (b:=b) (a:=a) (k:=k) (cs:=cs) (w:=X.w) (ops:=ops) (i:=i) (rest:=rest) (by simp [A.ho,hw]);rw [A.ho]at this;exact this
  by_cases m:cls y.op=.w
  ·have a8:=R.agm d A m;obtain⟨E',X2,q1,q2⟩:=R.B0 d A m (a1:=a.put o.dst undef) d.sr d.b (Ext.refl _ _) VR.undef rfl B (by rw [d.heap,q,a8]) (by rw [N,J,a8];exact d.defs);exact⟨E',X2,a.put o.dst undef,by rw [q1];exact i4,q2,K _⟩
  ·exact⟨E,X,a.put o.dst undef,i4,R.ng d A m d.sr d.b (Ext.refl _ _) (.inl VR.undef) rfl B rfl (by rw [J];exact d.defs) (jE.gQ d rfl),K _⟩
 ·simp at g
end
end Km
