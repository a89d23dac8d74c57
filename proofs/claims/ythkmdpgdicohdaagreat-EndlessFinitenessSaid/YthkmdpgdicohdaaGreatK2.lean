/-
  Our own small machine for Go code by value, held qR the model: part 2. No program in Co.
-/
import Derived.Test.YthkmdpgdicohdaaGreatK1
import Derived.AtR
import Derived.RangeFuncIn
import Derived.RangeFuncRecord
import Derived.Conc.MuLone
open Option renaming some → aa,none → ab
open Bool renaming true → ae,false → ag
open Nat renaming le_max_left → ajN, le_trans → ajw, le_max_right → ajD, mul_le_mul_right → ajH, le_refl → ai8, add_mul → ajy, lt_or_ge → ajz, lt_irrefl → ak8, mul_eq_zero → alc, zero_add → ajX, lt_of_lt_of_le → aj5, lt_trichotomy → akv
open Option.some renaming injEq → AI
open Prod.mk renaming injEq → OF
open List renaming getElem?_map → aj3, length_map → ajf, getElem?_toArray → ak2, getElem?_cons_zero → akJ, getElem?_cons_succ → akY, length_append → ai7, getElem?_eq_some_iff → IS, getElem?_set_ne → sh, getElem?_append_left → AT, length_drop → ajm, eq_nil_of_length_eq_zero → ajk, drop_zero → aj4, getElem?_set → ak3, getElem?_eq_getElem → By, getElem?_eq_none_iff → akF, foldl_cons → akP, mem_cons → ajB, getElem_mem → IT, getElem?_drop → ajv, getElem?_of_mem → akc, drop_eq_nil_iff → alp, drop_eq_getElem_cons → ajh, mem_flatMap → ak6, mem_append → aja, mem_map → ajj, getElem?_take → ajO, getElem?_eq_none → akG, length_nil → akC, getD_eq_getElem?_getD → akM, all_eq_true → aji
open Option renaming map_eq_some_iff → IN, map_some → ajK, bind_some → ajC
open Bool renaming and_eq_true → BY, false_eq_true → ajo, true_and → aj6
open Int renaming natCast_mul → akZ, toNat_natCast → ajA, mul_comm → aj1
set_option linter.unusedVariables false
set_option linter.constructorNameAsVariable false
set_option linter.unusedSimpArgs false
set_option linter.unusedSectionVars false
set_option maxRecDepth 100000
namespace Km
open Go
section
variable{Q:Program}{σ:Nat→FuncId}{X:Wd}
theorem uA(n:Nat):∀(r c:Nat),Builtin.growBy n r c≤Nat.max c (n+(n+768) / 4)
 | 0,c=>by simp [Builtin.growBy];exact ajN _ _
 | r+1,c=>by
  simp only [Builtin.growBy];split
  ·exact ajN _ _
  ·rename_i h;refine ajw (uA n r _) ?_;apply Nat.max_le.2;exact⟨ajw (by omega) (ajD _ _),ajD _ _⟩
theorem sG{need cap:Nat}(h:cap<need):Builtin.nextslicecap need cap≤2*need+768:=by
 unfold Builtin.nextslicecap;split
 ·omega
 ·split
  ·omega
  ·refine ajw (uA need 4 cap) ?_;apply Nat.max_le.2;omega
theorem xP(K:SR Q σ X){sz:Nat}{y:V}{u:Value}(v:VR σ X y u){m:Nat}{ys:List C}(h:de X.H sz y=aa (m,ys)) :
  ∃ F,(Builtin.lenOf u).run Q X.w=.ok m X.w∧(Builtin.firstCells sz m u).run Q X.w=.ok F.toArray X.w∧A2 (CR σ X) ys F∧ys.length=m*sz:=by
 unfold de at h;split at h
 ·rename_i s;have:=VR.str v;subst this;split at h
  case isFalse=>simp at h
  rename_i q;subst q;simp only [AI,OF]at h;obtain⟨rfl,rfl⟩:=h;have g:s.extract 0 s.size=s:=ByteArray.extract_zero_size;refine⟨s.data.toList.map fun b=>.int .u8 b.toNat,by simp [Builtin.lenOf],?_,?_,?_⟩
  ·simp only [Builtin.firstCells,g,Sem.run_pure]
   congr 1
   apply Array.ext';simp
  ·rw [ByteArray.toList_eq];exact⟨by simp,fun i x u E B=>by
    simp only [aj3,IN]at E B;obtain⟨c,L,rfl⟩:=E;obtain⟨d,z,rfl⟩:=B;rw [L]at z;cases z;exact cJ.int _ _⟩
  ·rw [ByteArray.toList_eq];simp only [ajf,Array.length_toList,Nat.mul_one];rfl
 ·rename_i x M;split at h
  ·rename_i l cs A j;simp only [AI,OF]at h;obtain⟨rfl,rfl⟩:=h;obtain⟨us,H,I,J⟩:=lE K v A j;obtain⟨a,c,rfl⟩:=kj v A;exact⟨us,by simp [Builtin.lenOf],H,I,J⟩
  ·simp at h
 ·simp at h
structure afl(Q:Program)(t t' e:TypeId)(sz bytes:Nat):Prop where
 hu:Q.underlying t=aa (.slice e)
 hu':∃ d,Q.underlying t'=aa d∧(∀ k,d≠.int k)
 uD:dy Q e sz=ae
 hby:mF Q e bytes=ae
 pos:0<sz
 zero:∃ i z,Q.info? e=aa i∧i.zero=aa z∧z.cells.size=sz
def pY(base:Option Addr)(k:Nat)(b:List Value):Sem Unit:=match base with
 | some a=>storeCells (a.add k) b| none=>pure ()
theorem iR{t O e:TypeId}{sz bytes:Nat}(j:afl Q t O e sz bytes)(W:TypeId){base:Option Addr}{l cap m:Nat}{u:Value}{g:List Value}{w:World}
  (S:(Builtin.lenOf u).run Q w=.ok m w) (Y:(Builtin.firstCells sz m u).run Q w=.ok g.toArray w) :
  (l+m≤cap→(Builtin.append_ #[t,O] W #[.slice base l cap,u]).run Q w =
   ((pY base (l*sz) g).run Q w).andThen fun _ w'=>.ok (.slice base (l+m) cap) w') ∧
  (¬ l+m≤cap→cO (l+m) bytes=ae→∀ os g:List Value,(Builtin.firstCells sz l (.slice base l cap)).run Q w.drew=.ok os.toArray w.drew→(Builtin.firstCells sz m u).run Q w.drew=.ok g.toArray w.drew →
   ∃ nc rest w',l+m≤nc∧(Builtin.append_ #[t,O] W #[.slice base l cap,u]).run Q w=.ok (.slice (aa ⟨w.heap.size,0,ab⟩) (l+m) nc) w' ∧
    dR w w' (.cells (os++g++rest).toArray e)∧rest.length=(nc-(l+m))*sz):=by
 obtain⟨d,U,F⟩:=j.hu';obtain⟨i,z,hi,hz,y⟩:=j.zero;obtain⟨q,s,B⟩:=wF j.hby w;have A:((d matches .int _):Bool)=ag:=by
  cases d with
  | int k=>exact absurd rfl (F k)| _=>rfl
 constructor
 ·intro I;simp only [Builtin.append_,ak2];simp [aY j.hu,aY U,cV j.uD,A,S,I,Y];cases base<;>simp [pY]
 ·intro H b os g Z h4;unfold cO at b;simp only [BY,decide_eq_true_eq]at b;have v:q=i:=by
   simp [typeInfo,hi]at s;exact s.symm
  subst v;have J:¬ (Builtin.nextslicecap (l+m) cap*q.bytes>2 ^ 48):=by
   rw [B];have:=sG (need:=l+m) (cap:=cap) (by omega);have:=ajH bytes this;omega
  let nc:=(Question.appendCap (l+m) cap e).cut (w.tape w.drawn (.appendCap (l+m) cap e))
  have K:l+m≤nc:=by simp [nc,Question.cut]
  refine⟨nc,cB (nc-(l+m)) z.cells.toList,w.drew.alloc (.cells (os++g++cB (nc-(l+m)) z.cells.toList).toArray e),K,?_,⟨rfl,rfl,rfl,rfl⟩,by rw [ke];simp [y]⟩;have E:(choose (.appendCap (l+m) cap e)).run Q w=.ok nc w.drew:=by
   simp [choose,Sem.run,Question.forced,nc]
  have M:Builtin.zeroCells z.cells (nc-(l+m))=(cB (nc-(l+m)) z.cells.toList).toArray:=by
   have:=ie z.cells.toList (nc-(l+m)) (by simp [y];exact j.pos);simpa [Builtin.zeroCells]using this
  have x:¬ (((l+m:Nat):Int)>IntKind.i64.max):=by
   have:IntKind.i64.max=9223372036854775807:=by decide
   rw [this];omega
  have N:∀ w',(zeroValue e).run Q w'=.ok z w':=fun w'=>by simp [zeroValue,typeInfo,hi,hz]
  have L:∀ w',(typeInfo e).run Q w'=.ok q w':=fun w'=>by simp [typeInfo,hi]
  simp only [Builtin.append_,Sem.run_bind,aY j.hu,aY U,cV j.uD,A,Result.andThen_ok,Sem.run_pure,ajo,if_false,S,aR H,Sem.run_ite,L,x,false_and,J,E,run_askRoom,Z,
   Bool.not_false,if_true,h4,N,M,newRow,run_newObj,ak2,akJ,akY]
  have X:os.toArray++g.toArray++(cB (nc-(l+m)) z.cells.toList).toArray=(os++g++cB (nc-(l+m)) z.cells.toList).toArray:=by simp
  rw [X];rfl
theorem SR.drew(b:SR Q σ X):SR Q σ { X with w:=X.w.drew }∧Ext X.H.length X { X with w:=X.w.drew }:=by
 have d:Ext X.H.length X { X with w:=X.w.drew }:=Ext.one b X.H.length rfl (fun _ _=>Iff.rfl) (fun _ _ _=>rfl) (fun _ _ _ _=>rfl) (fun h=>by omega)
  (fun _ _ _=>rfl) (fun _ _=>rfl) (fun L h=>.inl ⟨L,h,rfl⟩) (ai8 _) rfl rfl rfl
 exact⟨SR.step Q σ b d X.H.length (fun _ _=>rfl) (fun _ _=>rfl) (fun _ _ _ _=>rfl) (fun _ _ _ _ _ h=>h) (fun L h=>by
  change X.cd X.H.length=aa L at h;rw [SR.pU b]at h;simp at h) b.fb,d⟩
theorem Si(l:SR Q σ X)(A:X.B≤X.w.heap.size){sz:Nat}(d:0<sz){cs:List C}{us rest:List Value}(h:A2 (CR σ X) cs us){n nc:Nat}(q:cs.length=n*sz)(F:rest.length=(nc-n)*sz)(E:n≤nc)
  {e:TypeId} {w':World} (s:dR X.w w' (.cells (us++rest).toArray e)) :
  ∃ X',X'.w=w'∧X'.H=X.H++[.cE sz cs 0 0 .loc]∧SR Q σ X'∧Ext X.H.length X X'∧VR σ X' (.c (.sl X.H.length 0 n 0 0 sz)) (.slice (aa ⟨X.w.heap.size,0,ab⟩) n nc)∧X'.B≤X'.w.heap.size:=by
 obtain⟨X',u,j,v,x,y,z⟩:=SR.new l A (.cE sz cs 0 0 .loc) s nc fun X' H g B _=>⟨rfl,us,rest,by rw [g];exact kg s,A2.ext' σ H h,by
  have:=h.len;rw [ai7,F,←this,q,←ajy];congr 1;show n+(nc-n)=nc;omega,d,⟨n,q⟩,fun i _ m=>by rw [B]at m;have:=l.fb _ _ m;simp at this⟩
 refine⟨X',u,j,v,x,?_,z⟩;have b:X'.H[X.H.length]?=aa (.cE sz cs 0 0 .loc):=by rw [j];simp
 simp only [VR,ig,CR,fC,b];exact⟨ai8 _,fun _ _=>⟨_,y,0,by omega,by show 0+n≤nc;omega,by simp⟩,_,_,_,rfl⟩
theorem vW(q:SR Q σ X)(O:X.B≤X.w.heap.size){b sz:Nat}{x cs:List C}{fl u:Nat}{st:Os}(F:X.H[b]?=aa (.cE sz x fl u st)){ys:List C}{us B rest:List Value}(I:A2 (CR σ X) cs us)(K:A2 (CR σ X) ys B)
  (A:0<sz) {n nc:Nat} (J:cs.length+ys.length=n*sz) (W:rest.length=(nc-n)*sz) (U:n≤nc) {e:TypeId} {w':World} (j:dR X.w w' (.cells (us++B++rest).toArray e)) :
  ∃ X',X'.w=w'∧X'.H=X.H.set b (.cE sz (cs++ys) fl (u+1) .loc)∧SR Q σ X'∧Ext X.H.length X X'∧VR σ X' (.c (.sl b 0 n 0 (u+1) sz)) (.slice (aa ⟨X.w.heap.size,0,ab⟩) n nc)∧X'.B≤X'.w.heap.size:=by
 have z:b<X.H.length:=(IS.1 F).1
 let X':Wd:={ X with H:=X.H.set b (.cE sz (cs++ys) fl (u+1) .loc),cd:=fun k=>if k=b then aa ⟨X.w.heap.size,nc⟩else X.cd k,w:=w' }
 have g:X'.H[b]?=aa (.cE sz (cs++ys) fl (u+1) .loc):=by simp [X',z]
 have l:X'.cd b=aa ⟨X.w.heap.size,nc⟩:=by simp [X']
 have v:Ext X.H.length X X':=Ext.one q b rfl (fun _ _=>Iff.rfl) (fun k S _=>j.zI S) (fun L i Y y=>World.cell?_of_block (j.zI (q.fb _ _ y)))
  (fun _ bO d=>⟨_,g,by rw [F]at d;simp only [AI]at d;subst d;exact⟨rfl,.inr ⟨by omega,rfl,_,l⟩⟩⟩)
  (fun m h _=>by simp [X',sh (Ne.symm h)]) (fun m h=>by simp [X',h]) (fun L h=>by rw [l]at h;simp only [AI]at h;subst h;exact .inr (ai8 _)) (by show X.w.heap.size≤w'.heap.size;rw [j.size];omega) j.os j.tape j.output
 refine⟨X',rfl,rfl,SR.step Q σ q v b (fun m h=>by simp [X',sh (Ne.symm h)]) (fun m h=>by simp [X',h]) (fun m L _ s=>j.zI (q.br m L s).2.1) (fun _ _ _ _ _ h=>h) (fun L h=>?_) (fun c i h=>?_),v,?_,?_⟩
 ·rw [l]at h;simp only [AI]at h;subst h;refine⟨O,by show X.w.heap.size<w'.heap.size;rw [j.size];omega,⟨_,g,rfl,us++B,rest,kg j,(A2.ext' σ v I).append (A2.ext' σ v K),?_,A,⟨n,by simpa using J⟩,fun i _ y=>?_⟩,fun m E _ s=>?_⟩
  ·have M:=I.len;have N:=K.len;rw [ai7,ai7,W,←M,←N,J,←ajy];congr 1;show n+(nc-n)=nc;omega
  ·have:=q.fb _ _ y;simp at this
  ·have:=(q.br m E s).2.1;show E.c≠X.w.heap.size;omega
 ·have:=q.fb c i h;show c<w'.heap.size;rw [j.size];omega
 ·simp only [VR,ig,CR,fC,g];exact⟨ai8 _,fun _ _=>⟨_,l,0,by omega,by show 0+n≤nc;omega,by simp⟩,_,_,_,rfl⟩
 ·show X.B≤w'.heap.size;rw [j.size];omega
end
section
variable{Q:Program}{σ:Nat→FuncId}{X:Wd}
theorem Sv{d:Type}(us rest b:List d)(h:b.length≤rest.length):over (us++rest) us.length b=us++b++rest.drop b.length:=by
 unfold over;rw [List.take_left',←List.drop_drop,List.drop_left']
 all_goals rfl
theorem ad1(M:SR Q σ X){b sz:Nat}{cs:List C}{fl j:Nat}{L:Loc}(z:X.H[b]?=aa (.cE sz cs fl j .loc))(y:X.cd b=aa L){ys:List C}{m:List Value}(H:A2 (CR σ X) ys m)(Y:fl≤cs.length)
  {n:Nat} (Z:cs.length+ys.length=n*sz) (q:n≤L.cap):∃ X',(storeCells ⟨L.c,cs.length,ab⟩ m).run Q X.w=.ok () X'.w∧X'.H=X.H.set b (.cE sz (cs++ys) fl (j+1) .loc)∧SR Q σ X' ∧
   Ext X.H.length X X'∧VR σ X' (.c (.sl b 0 n 0 (j+1) sz)) (.slice (aa ⟨L.c,0,ab⟩) n L.cap)∧X'.w.heap.size=X.w.heap.size∧X'.B=X.B:=by
 obtain⟨_,_,bO,l,A⟩:=M.br b L y;rw [z]at l;simp only [AI]at l;subst l;obtain⟨_,us,rest,B,I,K,U,o,J⟩:=A;have s:b<X.H.length:=(IS.1 z).1;have a:=H.len;have g:=I.len;have F:n*sz≤L.cap*sz:=ajH sz q;have E:m.length≤rest.length:=by simp only [ai7]at K;omega
 obtain⟨N,c,e,f,k,x⟩:=iA B m cs.length (by simp;omega);rw [g,Sv _ _ _ E]at x;rw [←g]at x;obtain⟨O,S⟩:=SR.turn M (blk':=.cE sz (cs++ys) fl (j+1) .loc) z y N c (fun i W=>by
   have hi:i<fl:=by
    rcases ajz i fl with h | h
    ·exact h
    ·exact absurd W (J i h)
   have:=dS x i;rw [g]at this ⊢;rw [this,dS B,List.append_assoc,AT (by omega),AT (by omega)]) e f k
  (fun bO d=>⟨.cE sz (cs++ys) fl (j+1) .loc,by simp [s],by rw [z]at d;simp only [AI]at d;subst d;exact⟨rfl,.inr ⟨by omega,rfl,L,y⟩⟩⟩)
  (fun v=>⟨rfl,us++m,rest.drop m.length,by rw [g]at x ⊢;exact x,(A2.ext' σ v I).append (A2.ext' σ v H),by simp only [ai7,ajm]at K ⊢;omega,U,⟨n,by simpa using Z⟩,J⟩)
 refine⟨_,qc B m cs.length (by simp;omega) (A2.one H),rfl,O,S,?_,N,rfl⟩;have u:(X.H.set b (.cE sz (cs++ys) fl (j+1) .loc))[b]?=aa (.cE sz (cs++ys) fl (j+1) .loc):=by simp [s]
 simp only [VR,ig,CR,fC,u];exact⟨ai8 _,fun _ _=>⟨L,y,0,by omega,by omega,by simp⟩,_,_,_,rfl⟩
theorem we{c:Call}{sz bytes:Nat}{x y:Arg}(h:dP Q σ c (.append sz bytes x y)=ae):∃ u v t m e,c.callee=.builtin .append∧c.args=#[u,v]∧c.argTypes=#[t,m]∧mA σ x u=ae∧mA σ y v=ae ∧
  afl Q t m e sz bytes:=by
 simp only [dP]at h;split at h
 ·rename_i u v t m B E F;simp only [BY]at h;obtain⟨⟨⟨I,J⟩,l⟩,g⟩:=h;obtain⟨e,H,l⟩:=gP l;simp only [BY,decide_eq_true_eq]at l;obtain⟨⟨⟨s,q⟩,d⟩,j⟩:=l;have A:∃ i z,Q.info? e=aa i∧i.zero=aa z∧z.cells.size=sz:=by
   cases hi:Q.info? e with
   | none=>simp [hi]at j
   | some i=>
    simp only [hi,Option.any_some]at j;cases b:i.zero with
    | none=>simp [b]at j| some z=>simp [b]at j;exact⟨i,z,rfl,b,j⟩
  refine⟨u,v,t,m,e,B,XA E,XA F,I,J,⟨H,?_,s,q,d,A⟩⟩;split at g
  ·exact⟨_,by assumption,fun k=>by simp⟩
  ·exact⟨_,by assumption,fun k=>by simp⟩
  ·simp at g
 ·simp at h
theorem GQ(W:SR Q σ X)(hB:X.B≤X.w.heap.size){a:Act}{aB:T}(hR:RR σ X aB a.tmps){o:Oper}{sz bytes:Nat}{x y:Arg}(hm:dN Q σ o (.append sz bytes x y)=ae){v:V}{H':an}
  (h:bC aB X.H (.append sz bytes x y)=aa (v,H')):gC Q σ X v H' (execOp a.eval o):=by
 simp only [dN]at hm;split at hm
 ·rename_i c ho;obtain⟨u,v',t,t',e,h1,h2,h3,hx,hy,ht⟩:=we hm;have hx:=bN hR hx;have hy:=bN hR hy;simp only [bC]at h;generalize n9:a.eval u=ux at hx;generalize n_:a.eval v'=uy at hy;generalize x.ev aB=vx at hx h;generalize y.ev aB=vy at hy h;have a_:∀(r:Value) (w':World),(Builtin.append_ #[t,t'] o.type #[ux,uy]).run Q X.w=.ok r w'→(execOp a.eval o).run Q X.w=.ok (.value r) w':=by
   intro r w' hr;refine dG ho h1 fun cs=>?_;simp [builtin,h2,h3,n9,n_,hr]
  unfold bD at h;split at h
  ·simp at h
  rename_i m ys f8;rw [aR (by have:=ht.pos;omega)]at h;obtain⟨vs,c9,b_,d_,f7⟩:=xP W hy f8;obtain⟨Y,i8⟩:=SR.drew W;obtain⟨a8,_,e_,j7,_⟩:=xP Y (VR.ext' σ i8 hy) f8;have B:A2 (CR σ X) ys a8:=by
   have d9:Ext X.H.length { X with w:=X.w.drew } X:=Ext.one Y X.H.length rfl (fun _ _=>Iff.rfl) (fun _ _ _=>rfl) (fun _ _ _ _=>rfl) (fun h=>absurd h (ak8 _))
    (fun _ _ _=>rfl) (fun _ _=>rfl) (fun L h=>.inl ⟨L,h,rfl⟩) (ai8 _) rfl rfl rfl
   exact A2.ext' σ (X:={ X with w:=X.w.drew }) d9 j7
  have H:∀ {base:Option Addr} {l cap:Nat} {os:List Value} {cs:List C},ux=.slice base l cap→¬ l+m≤cap→cO (l+m) bytes=ae →
    (Builtin.firstCells sz l (.slice base l cap)).run Q X.w.drew=.ok os.toArray X.w.drew→A2 (CR σ X) cs os→cs.length=l*sz →
    gC Q σ X (.c (.sl X.H.length 0 (l+m) 0 0 sz)) (X.H++[.cE sz (cs++ys) 0 0 .loc]) (execOp a.eval o):=by
   intro base l cap os cs hu h_ d l_ k_ j_;obtain⟨nc,rest,w',J,j,g,K⟩:=(iR ht o.type (base:=base) (l:=l) (cap:=cap) c9 b_).2 h_ d os a8 l_ e_;obtain⟨X',N,I,O,S,U,g6⟩:=Si W hB ht.pos (cs:=cs++ys) (us:=os++a8) (k_.append B) (n:=l+m) (nc:=nc) (by rw [ai7,j_,f7,ajy]) K J g;exact⟨_,X',.inl (by rw [N];exact a_ _ _ (by rw [hu];exact j)),I,O,U,S,g6⟩
  have A:∀ {base:Option Addr} {l cap:Nat} {X':Wd},ux=.slice base l cap→l+m≤cap→(pY base (l*sz) vs).run Q X.w=.ok () X'.w →
    (execOp a.eval o).run Q X.w=.ok (.value (.slice base (l+m) cap)) X'.w:=by
   intro base l cap X' hu q n8;refine a_ _ _ ?_;rw [hu,(iR ht o.type (base:=base) (l:=l) (cap:=cap) c9 b_).1 q,n8];rfl
  split at h
  ·
   cases (hx:cJ σ X.F X.w .aA ux);split at h
   ·rename_i Z;subst Z;simp only [AI,OF]at h;obtain⟨rfl,rfl⟩:=h;exact⟨_,X,.inl (A (X':=X) rfl (by omega) rfl),rfl,W,cJ.aA,Ext.refl _ _,hB⟩
   ·split at h
    ·rename_i d;simp only [AI,OF]at h;obtain⟨rfl,rfl⟩:=h;have:=H (base:=ab) (l:=0) (cap:=0) (os:=[]) (cs:=[]) rfl (by omega) (by simpa using d) (by simp [Builtin.firstCells]) A2.nil (by simp);simpa using this
    ·simp at h
  ·
   cases (hx:cJ σ X.F X.w .es ux);rename_i ad;split at h
   ·rename_i Z;subst Z;simp only [AI,OF]at h;obtain⟨rfl,rfl⟩:=h;have i6:vs=[]:=ajk (by rw [←d_.len,f7];simp);exact⟨_,X,.inl (A (X':=X) rfl (by omega) (by rw [i6];rfl)),rfl,W,cJ.es _,Ext.refl _ _,hB⟩
   ·split at h
    ·rename_i d;simp only [AI,OF]at h;obtain⟨rfl,rfl⟩:=h;have:=H (base:=aa ad) (l:=0) (cap:=0) (os:=[]) (cs:=[]) rfl (by omega) (by simpa using d) (by simp [Builtin.firstCells,loadCells,loadCellsFrom]) A2.nil (by simp);simpa using this
    ·simp at h
  ·rename_i b a7 l cap ep s;have i7:CR σ X (.sl b a7 l cap ep s) ux:=hx;simp only [VR,ig,CR,fC]at hx;split at h
   ·
    rename_i cs fl F;rw [F]at hx;obtain⟨L,hL,o5,rfl⟩:=hx;split at h
    ·rename_i q;split at h
     ·rename_i hc;simp only [AI,OF]at h;obtain⟨rfl,rfl⟩:=h;obtain⟨X',N,I,O,S,U,g6,g7⟩:=zE W F hL d_ hc.1 hc.2;refine⟨_,X',.inl (A rfl q (by simp only [pY,dW];exact N)),I,O,?_,S,by omega⟩;have c_:X'.H[b]?=aa (.box (over cs (a7+l*sz) ys) fl):=by rw [I];simp [(IS.1 F).1]
      simp only [VR,ig,CR,fC,c_];exact⟨L,by rw [U];exact hL,q,rfl⟩
     ·simp at h
    ·rename_i h_;split at h
     ·rename_i hc;simp only [AI,OF]at h;obtain⟨rfl,rfl⟩:=h;have i3:cH X.H sz (.sl b a7 l cap ep s)=aa ((cs.drop a7).take (l*sz)):=by simp [cH,F,hc.2]
      have i4:bg X.H (.sl b a7 l cap ep s)=aa l:=by simp [bg,F]
      obtain⟨os,q1,q2,q3⟩:=lE Y (CR.ext' σ i8 i7) i4 i3;have i9:A2 (CR σ X) ((cs.drop a7).take (l*sz)) os:=by
       have d9:Ext X.H.length { X with w:=X.w.drew } X:=Ext.one Y X.H.length rfl (fun _ _=>Iff.rfl) (fun _ _ _=>rfl) (fun _ _ _ _=>rfl) (fun h=>absurd h (ak8 _))
        (fun _ _ _=>rfl) (fun _ _=>rfl) (fun L h=>.inl ⟨L,h,rfl⟩) (ai8 _) rfl rfl rfl
       exact A2.ext' σ (X:={ X with w:=X.w.drew }) d9 q2
      exact H rfl h_ hc.1 q1 i9 q3
     ·simp at h
   ·
    rename_i s' cs fl e' st F;rw [F]at hx;split at h
    ·rename_i hc;obtain⟨rfl,rfl,rfl⟩:=hc;have M:=hx.2.1 rfl rfl;split at h
     ·
      rename_i Z;subst Z;simp only [AI,OF]at h;obtain⟨rfl,rfl⟩:=h;have i6:vs=[]:=ajk (by rw [←d_.len,f7];simp);obtain⟨base,n,cp,E⟩:=hx.2.2;have n6:n=l∧l≤cp:=by
       cases st with
       | loc=>obtain⟨L,_,k,_,hk,h8⟩:=M;rw [E]at h8;simp only [Value.slice.injEq]at h8;omega
       | nil=>obtain⟨_,rfl,h8⟩:=M;rw [E]at h8;simp only [Value.slice.injEq]at h8;omega
       | es=>obtain⟨_,rfl,_,h8⟩:=M;rw [E]at h8;simp only [Value.slice.injEq]at h8;omega
      obtain⟨rfl,o4⟩:=n6;refine⟨.slice base (n+0) cp,X,.inl (A (X':=X) E (by omega) (by rw [i6];cases base<;>rfl)),rfl,W,?_,Ext.refl _ _,hB⟩;rw [Nat.add_zero,←E];exact i7
     ·rename_i Z;split at h
      ·
       rename_i hc;obtain⟨rfl,z,i_⟩:=hc;split at h
       ·rename_i d;simp only [AI,OF]at h;obtain⟨rfl,rfl⟩:=h;have hn:cs.length+ys.length=(l+m)*s:=by rw [f7,←z,ajy]
        cases st with
        | loc=>
         obtain⟨L,hL,k,m_,hk,rfl⟩:=M;have j4:k=0:=by
          rcases alc.1 m_.symm with h8 | h8
          ·exact h8
          ·have:=ht.pos;omega
         subst j4;rw [Nat.sub_zero]at *;by_cases q:l+m≤L.cap
         ·obtain⟨X',N,I,O,S,U,g6,g7⟩:=ad1 W F hL d_ i_ hn q;exact⟨_,X',.inl (A rfl q (by simp only [pY,dW];rw [z,ajX];exact N)),I,O,U,S,by omega⟩
         ·have i3:cH X.H s (.sl b 0 l cap ep s)=aa ((cs.drop 0).take (l*s)):=by simp [cH,F,z]
          have i4:bg X.H (.sl b 0 l cap ep s)=aa l:=by simp [bg,F]
          obtain⟨os,q1,q2,q3⟩:=lE Y (CR.ext' σ i8 i7) i4 i3;have i9:A2 (CR σ X) cs os:=by
           have d9:Ext X.H.length { X with w:=X.w.drew } X:=Ext.one Y X.H.length rfl (fun _ _=>Iff.rfl) (fun _ _ _=>rfl) (fun _ _ _ _=>rfl) (fun h=>absurd h (ak8 _))
            (fun _ _ _=>rfl) (fun _ _=>rfl) (fun L h=>.inl ⟨L,h,rfl⟩) (ai8 _) rfl rfl rfl
           have:=A2.ext' σ (X:={ X with w:=X.w.drew }) d9 q2;rwa [aj4,z,List.take_length]at this
          obtain⟨nc,rest,w',J,j,g,K⟩:=(iR ht o.type (base:=aa ⟨L.c,0,ab⟩) (l:=l) (cap:=L.cap) c9 b_).2 q d os a8 q1 e_;obtain⟨X',N,I,O,S,U,g6⟩:=vW W hB F i9 B ht.pos hn K J g;exact⟨_,X',.inl (by rw [N];exact a_ _ _ (by simpa using j)),I,O,U,S,g6⟩
        | nil=>
         obtain⟨_,rfl,rfl⟩:=M;have g_:cs=[]:=ajk (by simpa using z.symm);subst g_;obtain⟨nc,rest,w',J,j,g,K⟩:=(iR ht o.type (base:=ab) (l:=0) (cap:=0) c9 b_).2 (by omega) d [] a8 (by simp [Builtin.firstCells]) e_;obtain⟨X',N,I,O,S,U,g6⟩:=vW W hB F (us:=[]) A2.nil B ht.pos hn K J g;exact⟨_,X',.inl (by rw [N];exact a_ _ _ j),I,O,U,S,g6⟩
        | es=>
         obtain⟨_,rfl,ad,rfl⟩:=M;have g_:cs=[]:=ajk (by simpa using z.symm);subst g_;obtain⟨nc,rest,w',J,j,g,K⟩:=(iR ht o.type (base:=aa ad) (l:=0) (cap:=0) c9 b_).2 (by omega) d [] a8 (by simp [Builtin.firstCells,loadCells,loadCellsFrom]) e_;obtain⟨X',N,I,O,S,U,g6⟩:=vW W hB F (us:=[]) A2.nil B ht.pos hn K J g;exact⟨_,X',.inl (by rw [N];exact a_ _ _ j),I,O,U,S,g6⟩
       ·simp at h
      ·split at h
       ·
        rename_i hc;obtain⟨rfl,j3,m9⟩:=hc;simp only [AI,OF]at h;obtain⟨rfl,rfl⟩:=h;obtain⟨L,hL,k,rfl,hk,rfl⟩:=M;obtain⟨_,_,bO,f_,j9⟩:=W.br b L hL;rw [F]at f_;simp only [AI]at f_;subst f_;obtain⟨_,us,rest,hr,j8,h6,h7,h8,o0⟩:=j9;have q:l+m≤L.cap-k:=by
         have e1:(k+(l+m))*s≤L.cap*s:=by
          rw [ajy,ajy];have:=j8.len;simp only [ai7]at h6;omega
         have:=Nat.le_of_mul_le_mul_right e1 h7;omega
        obtain⟨X',N,I,O,S,U,g6,g7⟩:=zF W F hL d_ j3 m9;refine⟨_,X',.inl (A rfl q (by simp only [pY,dW];exact N)),I,O,?_,S,by omega⟩;have c_:X'.H[b]?=aa (.cE s (over cs (k*s+l*s) ys) fl ep .loc):=by rw [I];simp [(IS.1 F).1]
        simp only [VR,ig,CR,fC,c_];exact⟨ai8 _,fun _ _=>⟨L,by rw [U];exact hL,k,rfl,by omega,rfl⟩,_,_,_,rfl⟩
       ·simp at h
    ·simp at h
   ·simp at h
  ·simp at h
 ·simp at hm
end
section
variable{Q:Program}{σ:Nat→FuncId}{X:Wd}
theorem Ao{c:Call}{sz bytes:Nat}{zs:List FC}{x y:Arg}(h:dP Q σ c (.lU sz bytes zs x y)=ae):∃ u v t j e k,c.callee=.builtin .append∧c.args=#[u,v]∧c.argTypes=#[t,j]∧mA σ x u=ae∧mA σ y v=ae ∧
  Q.underlying t=aa (.slice e)∧dy Q e sz=ae∧mF Q e bytes=ae∧0<sz∧km Q e zs=ae∧Q.underlying j=aa (.int k):=by
 simp only [dP]at h;split at h
 ·rename_i u v t j q s z;simp only [BY]at h;obtain⟨⟨⟨E,F⟩,g⟩,d⟩:=h;obtain⟨e,B,g⟩:=gP g;simp only [BY,decide_eq_true_eq]at g;obtain⟨⟨⟨m,l⟩,b⟩,H⟩:=g;split at d
  ·rename_i k A;exact⟨u,v,t,j,e,k,q,XA s,XA z,E,F,B,m,l,b,H,A⟩
  ·simp at d
 ·simp at h
theorem Tx{n:Nat}(h:n<2 ^ 48):IntKind.i64.wrap (n:Int)=n:=by
 simp only [IntKind.wrap,IntKind.bits,IntKind.signed];have b:(2 ^ 64:Int)=18446744073709551616:=by decide
 have d:(2 ^ (64-1):Int)=9223372036854775808:=by decide
 have g:(2:Nat) ^ 48=281474976710656:=by decide
 simp only [b,d,aj6,decide_eq_true_eq];split<;>omega
theorem sY{t Z e:TypeId}{sz bytes:Nat}{k k':IntKind}(c:Q.underlying t=aa (.slice e))(A:Q.underlying Z=aa (.int k))(x:dy Q e sz=ae)(F:mF Q e bytes=ae)(a:0<sz)
  {z:Value} {us:List Value} {i:TypeInfo} (hi:Q.info? e=aa i) (r:i.zero=aa z) (U:z.cells=us.toArray) (N:us.length=sz) (f:TypeId) {base:Option Addr} {n:Nat} {w:World} :
  (n=0→(Builtin.append_ #[t,Z] f #[.slice base 0 0,.int k' (n:Int)]).run Q w=.ok (.slice base 0 0) w) ∧
  (n≠0→cO n bytes=ae→∃ nc rest w',n≤nc∧(Builtin.append_ #[t,Z] f #[.slice base 0 0,.int k' (n:Int)]).run Q w=.ok (.slice (aa ⟨w.heap.size,0,ab⟩) n nc) w' ∧
   dR w w' (.cells (cB n us++rest).toArray e)∧rest.length=(nc-n)*sz):=by
 obtain⟨g,l,s⟩:=wF F w;have u:g=i:=by simp [typeInfo,hi]at l;exact l.symm
 subst u;have y:∀ w',(typeInfo e).run Q w'=.ok g w':=fun w'=>by simp [typeInfo,hi]
 have Y:∀ w',(zeroValue e).run Q w'=.ok z w':=fun w'=>by simp [zeroValue,typeInfo,hi,r]
 have j:∀(q:Int) w',(asInt (.int k' q)).run Q w'=.ok q w':=fun q w'=>by simp [asInt,asIntOf]
 constructor
 ·rintro rfl;have O:IntKind.i64.wrap 0=0:=by decide
  simp only [Builtin.append_,ak2];simp [aY c,aY A,cV x,y,j,O];cases base<;>simp [storeCells]
 ·intro hn b;have E:=b;unfold cO at b;simp only [BY,decide_eq_true_eq]at b;have S:=Tx b.2;have K:¬ (Builtin.nextslicecap n 0*g.bytes>2 ^ 48):=by
   rw [s];have:=sG (need:=n) (cap:=0) (by omega);have:=ajH bytes this;omega
  let nc:=(Question.appendCap n 0 e).cut (w.tape w.drawn (.appendCap n 0 e))
  have L:n≤nc:=by simp [nc,Question.cut]
  have H:(choose (.appendCap n 0 e)).run Q w=.ok nc w.drew:=by
   simp [choose,Sem.run,Question.forced,nc]
  have X:∀ m,Builtin.zeroCells z.cells m=(cB m us).toArray:=fun m=>by
   have:=ie us m (by omega);simpa [Builtin.zeroCells,U]using this
  have v:¬ ((n:Int)>IntKind.i64.max):=by
   have:IntKind.i64.max=9223372036854775807:=by decide
   have e3:(2:Nat) ^ 48=281474976710656:=by decide
   rw [this];omega
  have I:¬ ((n:Int)<0):=by omega
  have J:¬ ((n:Int)*(g.bytes:Int)>2 ^ 48):=by
   rw [s];have o:n*bytes≤2 ^ 48:=ajw (ajH bytes (by omega:n≤2*n+768)) b.1;have p:((n*bytes:Nat):Int)≤2 ^ 48:=by
    have B:((2 ^ 48:Nat):Int)=2 ^ 48:=by decide
    rw [←B];exact Int.ofNat_le.2 o
   rw [akZ]at p;omega
  have d:(Builtin.firstCells sz 0 (.slice base 0 0)).run Q w.drew=.ok #[] w.drew:=by
   cases base<;>simp [Builtin.firstCells,loadCells,loadCellsFrom]
  have M:¬ (n*sz=0):=by
   intro h;rcases alc.1 h with h | h<;>omega
  refine⟨nc,cB (nc-n) us,w.drew.alloc (.cells (cB n us++cB (nc-n) us).toArray e),L,?_,⟨rfl,rfl,rfl,rfl⟩,by rw [ke,N]⟩;have W:¬ (n≤0):=by omega
  have hint:((n:Int)).toNat=n:=by simp
  simp only [Builtin.append_,Sem.run_bind,aY c,aY A,cV x,Result.andThen_ok,Sem.run_pure,ajo,if_false,Sem.run_ite,y,false_and,K,H,run_askRoom,
   Bool.not_true,if_true,Y,X,newRow,run_newObj,ak2,akJ,akY,j,S,I,J,hint,ajX,W,v,M,d,true_or,and_true,Bool.true_eq]
  have B:#[]++(cB n us).toArray++(cB (nc-n) us).toArray=(cB n us++cB (nc-n) us).toArray:=by simp
  first
   | (rw [B];rfl)
   | (simp [B];rfl)
theorem Xz(U:SR Q σ X)(S:X.B≤X.w.heap.size){a:Act}{aB:T}(hR:RR σ X aB a.tmps){o:Oper}{sz bytes:Nat}{zs:List FC}{x y:Arg}(N:dN Q σ o (.lU sz bytes zs x y)=ae){v:V}{H':an}
  (h:bC aB X.H (.lU sz bytes zs x y)=aa (v,H')):gC Q σ X v H' (execOp a.eval o):=by
 simp only [dN]at N;split at N
 ·rename_i c ho;obtain⟨u,v',t,t',e,k,h1,h2,h3,J,L,f,F,s,g,hz,W⟩:=Ao N;have J:=bN hR J;have L:=bN hR L;simp only [bC]at h;generalize i:a.eval u=O at J;generalize p:a.eval v'=uy at L;generalize x.ev aB=vx at J h;generalize y.ev aB=vy at L h;have l:∀(r:Value) (w':World),(Builtin.append_ #[t,t'] o.type #[O,uy]).run Q X.w=.ok r w'→(execOp a.eval o).run Q X.w=.ok (.value r) w':=by
   intro r w' hr;refine dG ho h1 fun cs=>?_;simp [builtin,h2,h3,i,p,hr]
  unfold xU at h;split at h
  ·rename_i n hn;obtain⟨k',E⟩:=iv L hn;split at h
   ·rename_i hc;obtain⟨z,us,a7,I,M,i0,A,B⟩:=eI (σ:=σ) (X:=X) hz X.w;have H:us.length=sz:=by have:=M.len;simp at this;omega
    obtain⟨m,rfl⟩:∃ m:Nat,n=m:=⟨n.toNat,by omega⟩
    have j:∀ base,O=.slice base 0 0→(v,H')=(.c (.sl X.H.length 0 m 0 0 sz),X.H++[.cE sz ((cB m zs).map .f) 0 0 .loc])→m≠0→cO m bytes=ae→gC Q σ X v H' (execOp a.eval o):=by
     intro base hb he d b;cases he;obtain⟨nc,rest,w',Y,K,q,Z⟩:=(sY (k':=k') f W F s g A B I H o.type (base:=base) (n:=m)).2 d b;obtain⟨X',g1,g2,g3,g4,g5,g6⟩:=Si U S g (cs:=(cB m zs).map .f) (us:=cB m us) (iT M m) (n:=m) (nc:=nc) (by rw [ajf,ke,hc.2]) Z Y q;exact⟨_,X',.inl (by rw [g1];exact l _ _ (by rw [hb,E];exact K)),g2,g3,g5,g4,g6⟩
    split at h
    ·cases (J:cJ σ X.F X.w .aA O);simp only [ajA]at h;split at h
     ·rename_i d;simp only [AI,OF]at h;obtain⟨rfl,rfl⟩:=h;exact⟨_,X,.inl (l _ _ (by rw [E];exact(sY (k':=k') f W F s g A B I H o.type (base:=ab) (n:=m)).1 d)),rfl,U,cJ.aA,Ext.refl _ _,S⟩
     ·rename_i d;split at h
      ·rename_i b;simp only [AI]at h;exact j ab rfl h.symm d b
      ·simp at h
    ·cases (J:cJ σ X.F X.w .es O);rename_i w;simp only [ajA]at h;split at h
     ·rename_i d;simp only [AI,OF]at h;obtain⟨rfl,rfl⟩:=h;exact⟨_,X,.inl (l _ _ (by rw [E];exact(sY (k':=k') f W F s g A B I H o.type (base:=aa w) (n:=m)).1 d)),rfl,U,cJ.es _,Ext.refl _ _,S⟩
     ·rename_i d;split at h
      ·rename_i b;simp only [AI]at h;exact j (aa w) rfl h.symm d b
      ·simp at h
    ·simp at h
   ·simp at h
  ·simp at h
 ·simp at N
end
section
variable{Q:Program}{σ:Nat→FuncId}{X:Wd}
theorem adF(s:SR Q σ X)(m:X.B≤X.w.heap.size){a:Act}{aB:T}{o:Oper}{st:Os}{sz:Nat}(d:dN Q σ o (.pre st sz)=ae){v:V}{H':an}
  (h:bC aB X.H (.pre st sz)=aa (v,H')):gC Q σ X v H' (execOp a.eval o):=by
 cases st with
 | nil=>
  simp only [bC]at h;split at h
  ·simp at h
  ·simp only [AI,OF]at h;obtain⟨rfl,rfl⟩:=h;obtain⟨j,l⟩:=SR.grow s (.cE sz [] 0 0 .nil);have q:VR σ { X with H:=X.H++[.cE sz [] 0 0 .nil] } (.c (.sl X.H.length 0 0 0 0 sz)) (.slice ab 0 0):=by
    have b:(X.H++[bZ.cE sz [] 0 0 .nil])[X.H.length]?=aa (.cE sz [] 0 0 .nil):=by simp
    simp only [VR,ig,CR,fC,b];exact⟨ai8 _,fun _ _=>by simp,_,_,_,rfl⟩
   simp only [dN]at d;split at d
   ·rename_i g;exact⟨.slice ab 0 0,_,.inl (by simp [execOp,g,Act.eval]),rfl,j,q,l,m⟩
   ·rename_i g;exact⟨.slice ab 0 0,_,.inl (by simp [execOp,g,Act.eval]),rfl,j,q,l,m⟩
   ·simp at d
 | _=>simp [dN]at d
theorem Sg(u:SR Q σ X)(s:X.B≤X.w.heap.size){a:Act}{o:Oper}(b:dN Q σ o .jX=ae):gC Q σ X (.c (.mp X.H.length)) (X.H++[.map []]) (execOp a.eval o):=by
 simp only [dN]at b;split at b
 ·rename_i t v;obtain⟨X',g,d,j,l,m,q⟩:=SR.new u s (.map []) (dR.alloc X.w (.map #[] 0)) 0 fun X' z x y _=>⟨[],by rw [x];exact(dR.alloc _ _).new,A2.nil,by simp⟩
  exact⟨.map (aa X.w.heap.size),X',.inl (by rw [g];simp [execOp,v,Instr.makeMap]),d,j,⟨_,m,⟨[],by rw [d];simp⟩,rfl⟩,l,q⟩
 ·simp at b
theorem SY(E:SR Q σ X)(A:X.B≤X.w.heap.size){a:Act}{aB:T}(B:RR σ X aB a.tmps){o:Oper}{x:Arg}(d:dN Q σ o (.range x)=ae){v:V}{H':an}
  (h:bC aB X.H (.range x)=aa (v,H')):gC Q σ X v H' (execOp a.eval o):=by
 simp only [dN]at d;split at d
 ·rename_i t y F;simp only [BY]at d;obtain⟨b,j⟩:=d;have b:=bN B b;simp only [bC]at h;split at h
  ·rename_i s H;rw [H]at b;have b:=VR.str b;simp only [AI,OF]at h;obtain⟨rfl,rfl⟩:=h;split at j
   ·rename_i I;obtain⟨X',l,g,m,q,u,z⟩:=SR.new E A (.it s 0) (dR.alloc X.w (.stringIter s 0)) 0 fun X' b J K _=>by
     show X'.w.heap[X.w.heap.size]?=_;rw [J];exact(dR.alloc _ _).new
    exact⟨.pointer (aa ⟨X.w.heap.size,0,ab⟩),X',.inl (by rw [l];simp [execOp,F,Instr.range,aY I,b]),g,m,⟨_,u,⟨s,0,by rw [g];simp⟩,rfl⟩,q,z⟩
   ·simp at j
  ·simp at h
 ·simp at d
theorem SR.po(s:SR Q σ X){b:Nat}{bO blk':bZ}{L:Loc}{o o':Obj}(hb:X.H[b]?=aa bO)(q:X.cd b=aa L)(ho:X.w.heap[L.c]?=aa o)(m:∀ c e f,o≠.cells c e f)(j:∀ c e f,o'≠.cells c e f)
  (d:lK X { X with H:=X.H.set b blk',w:={ X.w with heap:=X.w.heap.setIfInBounds L.c o' } } b)
  (l:∀ X',Ext X.H.length X X'→X'.w.heap[L.c]?=aa o'→X'.F=X.F→X'.cd=X.cd→X'.H=X.H.set b blk'→BR Q σ X' blk' L) :
  SR Q σ { X with H:=X.H.set b blk',w:={ X.w with heap:=X.w.heap.setIfInBounds L.c o' } }∧Ext X.H.length X { X with H:=X.H.set b blk',w:={ X.w with heap:=X.w.heap.setIfInBounds L.c o' } }:=by
 have g:L.c<X.w.heap.size:=(s.br b L q).2.1;refine SR.turn s hb q (by simp) (fun k x=>by simp [Array.getElem?_setIfInBounds_ne (Ne.symm x)]) (fun i _=>?_) rfl rfl rfl d (fun y=>l _ y (by simp [g]) rfl rfl rfl);have u:({ X.w with heap:=X.w.heap.setIfInBounds L.c o' }:World).cell? ⟨L.c,i,ab⟩=ab:=by
  simp only [World.cell?];rw [show(X.w.heap.setIfInBounds L.c o')[L.c]?=aa o' by simp [g]];cases o'<;>simp at j ⊢
 have v:X.w.cell? ⟨L.c,i,ab⟩=ab:=by
  simp only [World.cell?,ho];cases o<;>simp at m ⊢
 rw [u,v]
theorem YK(q:SR Q σ X)(A:X.B≤X.w.heap.size){a:Act}{aB:T}(M:RR σ X aB a.tmps){o:Oper}{x:Arg}(m:dN Q σ o (.next x)=ae){v:V}{H':an}
  (h:bC aB X.H (.next x)=aa (v,H')):gC Q σ X v H' (execOp a.eval o):=by
 simp only [dN]at m;split at m
 ·rename_i y E;have H:=bN M m;simp only [bC]at h;unfold aae at h;split at h
  ·rename_i b O;rw [O]at H;obtain⟨L,B,⟨U,S,N⟩,F⟩:=H;split at h
   ·rename_i s pos l;obtain⟨_,_,bO,j,u⟩:=q.br b L B;rw [l]at j;simp only [AI]at j;subst j;have g:X.w.heap[L.c]?=aa (.stringIter s pos):=u;split at h
    ·rename_i z;simp only [AI,OF]at h;obtain⟨rfl,rfl⟩:=h;obtain⟨I,J⟩:=SR.po (o':=.stringIter s (pos+(Utf8.decode s pos).2)) (blk':=.it s (pos+(Utf8.decode s pos).2)) q l B g (by simp) (by simp)
      (fun bO d=>⟨.it s (pos+(Utf8.decode s pos).2),by simp [(IS.1 l).1],by rw [l]at d;simp only [AI]at d;subst d;exact fun L h=>h⟩)
      (fun X' _ K _ _ _=>K)
     refine⟨.tuple #[.bool ae,.int .i64 pos,.int .i32 (Utf8.decode s pos).1],_,.inl ?_,rfl,I,⟨[.bool ae,.int .i64 pos,.int .i32 (Utf8.decode s pos).1],rfl,?_⟩,J,by simpa using A⟩
     ·simp only [execOp,E];refine dX ?_;simp [Instr.next,F,getObj,setObj,Sem.run,g,z,goInt]
     ·exact A2.cons (cJ.bool _) (A2.cons (cJ.int _ _) (A2.cons (cJ.int _ _) A2.nil))
    ·rename_i z;simp only [AI,OF]at h;obtain⟨rfl,rfl⟩:=h;refine⟨.tuple #[.bool ag],X,.inl ?_,rfl,q,⟨[.bool ag],rfl,A2.cons (cJ.bool _) A2.nil⟩,Ext.refl _ _,A⟩;simp only [execOp,E];refine dX ?_;simp [Instr.next,F,getObj,Sem.run,g,z]
   ·simp at h
  ·simp at h
 ·simp at m
theorem yX{s:CK}{d:TypeDesc}(z:(s=.int∧∃ j,d=.int j)∨(s=.str∧d=.string)∨(s=.bool∧d=.bool)){F:Nat→Nat→Prop}{w:World}{k:FC}{v:C}{x:Value}(B:cJ σ F w k x) :
  ∀ {R:C→Value→Prop} {l g:List (FC × C)} {b:List MapEntry},A2 (fun e m=>cJ σ F w e.1 m.key∧R e.2 m.val) l b→∀(i:Nat),qD s k v l=aa g →
  (Instr.findNow d x b i=aa ab∧g=l++[(k,v)])∨∃(j:Nat) (u:Value) (m:MapEntry),Instr.findNow d x b i=aa (aa (i+j,u))∧b[j]?=aa m∧Instr.sameNow d x m.key=aa ae∧g=l.set j (k,v)
 | _,[],g,[],_,i,h=>by
  simp only [qD,AI]at h;subst h;exact .inl ⟨rfl,rfl⟩
 | _,[],_,_::_,q,_,_=>by have:=q.len;simp at this
 | _,_::_,_,[],q,_,_=>by have:=q.len;simp at this
 | _,e::l,g,m::b,q,i,h=>by
  obtain⟨⟨H,N⟩,E⟩:=q.of_cons;simp only [qD]at h;split at h
  ·rename_i A;simp only [AI]at h;subst h;have:=rO z B H A;exact .inr ⟨0,m.val,m,by simp [Instr.findNow,this],rfl,this,rfl⟩
  ·rename_i A;simp only [IN]at h;obtain⟨I,J,rfl⟩:=h;have:=rO z B H A;rcases yX z B E (i+1) J with⟨y,rfl⟩ | ⟨j,u,M,y,K,L,rfl⟩
   ·exact .inl ⟨by simp [Instr.findNow,this,y],rfl⟩
   ·exact .inr ⟨j+1,u,M,by simp [Instr.findNow,this,y];omega,by simpa using K,L,rfl⟩
  ·simp at h
theorem zt{d:TypeDesc}{u v:Value}(h:Instr.sameNow d u v=aa ae)(n:Nat):Instr.sameBits n v u=ae:=by
 unfold Instr.sameNow at h;split at h
 ·split at h
  ·rename_i b;subst b;simp only [AI,beq_iff_eq]at h;subst h;simp [Instr.sameBits]
  ·simp at h
 ·simp only [AI,beq_toListBytes,beq_iff_eq]at h;simp [Instr.sameBits,beq_toListBytes,h]
 ·simp only [AI,beq_iff_eq]at h;subst h;simp [Instr.sameBits]
 ·simp at h
theorem afx{c:C}{u:Value}(h:VR σ X (mV c) u):ig σ X (mV c) u:=by
 cases c
 case cl f cs=>
  simp only [mV]at h ⊢;split at h
  ·rename_i b;rw [ba b];exact h
  ·rename_i b;rw [aR b];exact h
 all_goals exact h
theorem R_(hS:SR Q σ X)(hB:X.B≤X.w.heap.size){a:Act}{aB:T}(hR:RR σ X aB a.tmps){o:Oper}{ck:CK}{x y z:Arg}(E:dN Q σ o (.lN ck x y z)=ae){v:V}{H':an}
  (h:bC aB X.H (.lN ck x y z)=aa (v,H')):gC Q σ X v H' (execOp a.eval o):=by
 simp only [dN]at E;split at E
 ·rename_i t x' M Y ho;simp only [BY]at E;obtain⟨⟨⟨hx,K⟩,W⟩,ht⟩:=E;have hx:=bN hR hx;have K:=bN hR K;have W:=bN hR W;split at ht
  ·rename_i kt e hu;simp only [bC]at h;split at h
   ·rename_i b k vv c_ f7 g_;rw [c_]at hx;rw [f7]at K;rw [←R8 g_]at W;have W:ig σ X (mV vv) (a.eval Y):=afx W;obtain⟨L,hL,_,c9⟩:=hx;split at h
    ·rename_i es hb;split at h
     ·rename_i a8;simp only [IN,OF]at h;obtain⟨F,hp,rfl,rfl⟩:=h;obtain⟨_,_,bO,N,d_⟩:=hS.br b L hL;rw [hb]at N;simp only [AI]at N;subst N;obtain⟨q,I,h2,B⟩:=d_;have go:∀ d,Q.underlying kt=aa d→((ck=.int∧∃ j,d=.int j)∨(ck=.str∧d=.string)∨(ck=.bool∧d=.bool))→gC Q σ X .top (X.H.set b (.map F)) (execOp a.eval o):=by
       intro d A hd;have a7:∀(l:List MapEntry),(Instr.mapUpdate t (a.eval x') (a.eval M) (a.eval Y)).run Q X.w=.ok () { X.w with heap:=X.w.heap.setIfInBounds L.c (.map l.toArray l.length) } →
         A2 (fun(e:FC × C) (m:MapEntry)=>cJ σ X.F X.w e.1 m.key∧ig σ X (mV e.2) m.val) F l→(∀(i:Nat) m,l[i]?=aa m→m.born=i)→gC Q σ X .top (X.H.set b (.map F)) (execOp a.eval o):=by
        intro l b_ hA d9;obtain⟨g1,g2⟩:=SR.po (o':=.map l.toArray l.length) (blk':=.map F) hS hb hL I (by simp) (by simp)
         (fun bO H=>⟨.map F,by simp [(IS.1 hb).1],by rw [hb]at H;simp only [AI]at H;subst H;exact fun L h=>h⟩)
         (fun X' U h1 hF _ _=>⟨l,h1,hA.ko fun e m h=>⟨cJ.mono U.F U.fw h.1,ig.ext' σ U h.2⟩,d9⟩)
        exact⟨undef,_,.inr ⟨by simp [execOp,ho,b_],rfl⟩,rfl,g1,trivial,g2,by simpa using hB⟩
       rcases yX (R:=fun c u=>ig σ X (mV c) u) hd K h2 0 hp with⟨J,rfl⟩ | ⟨j,u,m,J,Z,h6,rfl⟩
       ·have O:A2 (fun(e:FC × C) (m:MapEntry)=>cJ σ X.F X.w e.1 m.key∧ig σ X (mV e.2) m.val) [(k,vv)] [({ key:=a.eval M,val:=a.eval Y,born:=q.length }:MapEntry)]:=A2.cons (And.intro K W) A2.nil;refine a7 (q++[{ key:=a.eval M,val:=a.eval Y,born:=q.length }]) ?_ (h2.append O) ?_
        rotate_left
        ·intro i m E;by_cases hi:i<q.length
         ·rw [AT hi]at E;exact B i m E
         ·rw [List.getElem?_append_right (by omega)]at E;have e_:i-q.length=0:=by
           have:=(IS.1 E).1;simp at this;omega
          rw [e_]at E;simp only [akJ,AI]at E;subst E;simp only;omega
        simp [Instr.mapUpdate,aY hu,c9,getObj,setObj,Sem.run,I,gT ht K a8,Instr.findKey,aY A,J]
       ·rw [ajX]at J;refine a7 (q.set j { m with key:=a.eval M,val:=a.eval Y }) ?_ ?_ ?_
        ·have f_:(Instr.keyThatStays m.key (a.eval M)).run Q X.w=.ok (a.eval M) X.w:=by
          simp [Instr.keyThatStays,zt h6 10000]
         have a_:q.modify j (fun e=>{ e with key:=a.eval M,val:=a.eval Y })=q.set j { m with key:=a.eval M,val:=a.eval Y }:=by
          apply List.ext_getElem?;intro i;simp only [List.getElem?_modify,ak3];by_cases s:j=i
          ·subst s;have S:=(IS.1 Z).1;have f8:=(IS.1 Z).2;simp [Z,S,f8]
          ·simp [s]
         simp [Instr.mapUpdate,aY hu,c9,getObj,setObj,Sem.run,I,gT ht K a8,Instr.findKey,aY A,J,Z,f_,a_]
        ·refine⟨by simpa using h2.len,fun i e' m' he g=>?_⟩;rw [ak3]at he g;split at he
         ·rename_i s;subst s;simp only [if_true]at g;have S:=(IS.1 Z).1;have h_:=h2.len;rw [ba (by omega)]at he;rw [ba S]at g;simp only [AI]at he g;subst he;subst g;exact⟨K,W⟩
         ·rename_i s;rw [aR s]at g;exact h2.2 i e' m' he g
        ·intro i m' g;rw [ak3]at g;split at g
         ·rename_i s;subst s;split at g
          ·simp only [AI]at g;subst g;exact B j m Z
          ·simp at g
         ·exact B i m' g
      rcases kY ht with⟨J,j,A⟩ | ⟨J,A⟩ | ⟨J,A⟩
      ·exact go _ A (.inl ⟨J,j,rfl⟩)
      ·exact go _ A (.inr (.inl ⟨J,rfl⟩))
      ·exact go _ A (.inr (.inr ⟨J,rfl⟩))
     ·simp at h
    ·simp at h
   ·simp at h
  ·simp at ht
 ·simp at E
theorem yO{c:Call}{sz:Nat}{zs:List FC}{x:Arg}(h:dP Q σ c (.clear sz zs x)=ae):∃ y t e,c.callee=.builtin .clear∧c.args=#[y]∧c.argTypes=#[t]∧mA σ x y=ae∧Q.underlying t=aa (.slice e)∧dy Q e sz=ae∧km Q e zs=ae:=by
 simp only [dP]at h;split at h
 ·rename_i y t d g j;simp only [BY]at h;obtain⟨m,b⟩:=h;obtain⟨e,l,b⟩:=gP b;simp only [BY]at b;exact⟨y,t,e,d,tz g,tz j,m,l,b.1,b.2⟩
 ·simp at h
theorem Rt(hS:SR Q σ X)(hB:X.B≤X.w.heap.size){a:Act}{aB:T}(hR:RR σ X aB a.tmps){o:Oper}{sz:Nat}{zs:List FC}{x:Arg}(J:dN Q σ o (.clear sz zs x)=ae){v:V}{H':an}
  (h:bC aB X.H (.clear sz zs x)=aa (v,H')):gC Q σ X v H' (execOp a.eval o):=by
 simp only [dN]at J;split at J
 ·rename_i c Z;obtain⟨y,t,e,N,O,S,j,hu,d9,hz⟩:=yO J;have j:=bN hR j;simp only [bC,IN,OF]at h;obtain⟨H2,d,rfl,rfl⟩:=h;have done:VR σ X (.t []) (.tuple #[]):=⟨[],rfl,A2.nil⟩
  unfold jf at d;split at d
  ·rename_i p hp;rw [hp]at j;split at d
   ·rename_i W;simp only [AI]at d;subst d;obtain⟨K,cp,g⟩:=kj j W;refine⟨.tuple #[],X,.inl (dG Z N fun cs=>?_),rfl,hS,done,Ext.refl _ _,hB⟩;cases K<;>simp [builtin,O,S,Builtin.clear_,aY hu,g]
   ·rename_i l Y W;obtain⟨K,cp,g⟩:=kj j W;split at d
    ·rename_i b_;obtain⟨z,us,F,H,I,_⟩:=eI (σ:=σ) (X:=X) hz X.w;have d_:us.length=zs.length:=by have:=I.len;simp at this;omega
     have u:l≠0:=fun e=>Y (by rw [e]);have key:∀(b o' A:Nat),(∃ q,CR σ X (.ptr b o' A) (.pointer (aa q))∧K=aa q)→di X.H (.ptr b o' A) ((cB l zs).map .f)=aa H2→gC Q σ X (.t []) H2 (execOp a.eval o):=by
      rintro b o' A ⟨q,hq,rfl⟩ a7;obtain⟨cc,e_,X',g1,M,g3,g4,g5,g6,g7⟩:=Tm hS hq (iT I l) a7;cases g1;by_cases c_:sz=0
      ·subst c_;have c9:zs=[]:=ajk b_;have a8:us=[]:=ajk (by omega);subst c9;subst a8;refine⟨.tuple #[],X',.inl (dG Z N fun cs=>?_),g3,g4,⟨[],rfl,A2.nil⟩,g5,by omega⟩;have hr:cB l ([]:List Value)=[]:=by simp [cB]
       rw [hr]at M;simp [builtin,O,S,Builtin.clear_,aY hu,g,u,F,H,Builtin.zeroCells];cases l with
       | zero=>exact absurd rfl u| succ l=>simp [M]
      ·have a_:Builtin.zeroCells z.cells l=(cB l us).toArray:=by
        have:=ie us l (by omega);simpa [Builtin.zeroCells,H]using this
       refine⟨.tuple #[],X',.inl (dG Z N fun cs=>?_),g3,g4,⟨[],rfl,A2.nil⟩,g5,by omega⟩;simp [builtin,O,S,Builtin.clear_,aY hu,g,F,a_];cases l with
       | zero=>exact absurd rfl u| succ l=>simp [M]
     split at d
     ·rename_i b o' l' cap A s;simp only [VR,ig,CR,fC]at j;split at d
      ·rename_i cs fl B;rw [B]at j;obtain⟨L,U,_,m⟩:=j;rw [g]at m;simp only [Value.slice.injEq]at m;refine key b o' A ⟨⟨L.c,o',ab⟩,⟨L,U,by rw [B]⟩,m.1⟩ d
      ·rename_i s' cs fl e' B;split at d
       ·rename_i E;rw [B]at j;obtain⟨L,U,k,_,_,m⟩:=j.2.1 E.1 E.2;rw [g]at m;simp only [Value.slice.injEq]at m;refine key b o' A ⟨⟨L.c,o',ab⟩,⟨L,U,?_⟩,m.1⟩ d;rw [B];exact⟨j.1,fun _=>rfl,_,rfl⟩
       ·simp at d
      ·simp at d
     ·simp at d
    ·simp at d
   ·simp at d
  ·simp at d
 ·simp at J
theorem Io(B:SR Q σ X)(S:X.B≤X.w.heap.size){a:Act}{aB:T}(U:RR σ X aB a.tmps){o:Oper}{x:Arg}(l:dN Q σ o (.mz x)=ae){v:V}{H':an}
  (h:bC aB X.H (.mz x)=aa (v,H')):gC Q σ X v H' (execOp a.eval o):=by
 simp only [dN]at l;split at l
 ·rename_i t y Y;simp only [BY]at l;obtain⟨j,E⟩:=l;have j:=bN U j;simp only [bC]at h;unfold Cc at h;split at h
  ·rename_i b c;rw [c]at j;obtain⟨L,A,_,Z⟩:=j;split at h
   ·rename_i u m;split at h
    ·rename_i p;simp only [AI,OF]at h;obtain⟨rfl,rfl⟩:=h;obtain⟨_,_,bO,g,q⟩:=B.br b L A;rw [m]at g;simp only [AI]at g;subst g;obtain⟨d,H,I,_⟩:=q;split at E
     ·rename_i kt e s;obtain⟨X',J,z,K,M,N,O⟩:=SR.new B S (.yU b u.length ag) (dR.alloc X.w (.mapIter (aa L.c) d.length #[] d.length)) 0 fun X' j f k n=>by
       obtain⟨blk',i,F⟩:=j.bf b (IS.1 m).1 _ m;cases blk'<;>simp only at F;refine⟨L,#[],d.length,F L A,⟨_,i⟩,?_,rfl⟩;rw [I.len,f];exact(dR.alloc _ _).new
      refine⟨.pointer (aa ⟨X.w.heap.size,0,ab⟩),X',.inl ?_,z,K,⟨_,N,⟨b,u.length,ag,by rw [z];simp⟩,rfl⟩,M,O⟩;have W:(getObj L.c).run Q X.w=.ok (.map d.toArray d.length) X.w:=by simp [getObj,Sem.run,H]
      rw [J];simp [execOp,Y,Instr.range,aY s,Z,W]
     ·simp at E
    ·simp at h
   ·simp at h
  ·simp at h
 ·simp at l
theorem Sk(s:SR Q σ X)(N:X.B≤X.w.heap.size){a:Act}{aB:T}(p:RR σ X aB a.tmps){o:Oper}{x:Arg}(E:dN Q σ o (.qE x)=ae){v:V}{H':an}
  (h:bC aB X.H (.qE x)=aa (v,H')):gC Q σ X v H' (execOp a.eval o):=by
 simp only [dN]at E;split at E
 ·rename_i y S;have i:=bN p E;simp only [bC]at h;unfold Sj at h;split at h
  ·rename_i b r;rw [r]at i;obtain⟨L,f,_,W⟩:=i;split at h
   ·rename_i m c done u;obtain⟨_,_,bO,d,l⟩:=s.br b L f;rw [u]at d;simp only [AI]at d;subst d;obtain⟨J,sn,st,M,_,B,q⟩:=l;split at h
    ·rename_i j;obtain⟨_,_,bO,d,l⟩:=s.br m J M;rw [j]at d;simp only [AI]at d;subst d;obtain⟨K,F,Z,_⟩:=l;have:K=[]:=ajk Z.len.symm;subst this;split at h
     ·simp at h
     ·rename_i z;simp only [AI,OF]at h;obtain⟨rfl,rfl⟩:=h;simp only [z,ajo,if_false]at q;subst q;refine⟨.tuple #[.bool ag],X,.inl ?_,rfl,s,⟨[.bool ag],rfl,A2.cons (cJ.bool _) A2.nil⟩,Ext.refl _ _,N⟩;simp only [execOp,S];refine dX ?_;simp [Instr.next,W,getObj,Sem.run,B,F,Result.andThen,choose,Question.forced]
    ·rename_i e j;obtain⟨H,F,Z,w,k⟩:=BZ s M j;split at h
     ·rename_i z;simp only [AI,OF]at h;obtain⟨rfl,rfl⟩:=h;simp only [z,if_true]at q;obtain⟨rfl,rfl⟩:=q;refine⟨.tuple #[.bool ag],X,.inl ?_,rfl,s,⟨[.bool ag],rfl,A2.cons (cJ.bool _) A2.nil⟩,Ext.refl _ _,N⟩;simp only [execOp,S];refine dX ?_;simp [Instr.next,W,getObj,Sem.run,B,F,k,Result.andThen,choose,Question.forced]
     ·rename_i z;split at h
      ·rename_i U;subst U;simp only [AI,OF]at h;obtain⟨rfl,rfl⟩:=h;simp only [z,ajo,if_false]at q;subst q;obtain⟨q1,I⟩:=SR.po (o':=.mapIter (aa J.c) 1 #[0] 1) (blk':=.yU m 1 ae) s u f B (by simp) (by simp)
        (fun bO g=>⟨.yU m 1 ae,by simp [(IS.1 u).1],by rw [u]at g;simp only [AI]at g;subst g;exact⟨⟨rfl,rfl⟩,fun L h=>h⟩⟩)
        (fun X' t Y _ A n=>by
         have O:b≠m:=fun e=>by rw [e,j]at u;cases u
         exact⟨J,#[0],1,by rw [A];exact M,⟨_,by rw [n,sh O];exact j⟩,Y,rfl,rfl⟩)
       refine⟨.tuple #[.bool ae,H.key,H.val],_,.inl ?_,rfl,q1,?_,I,by simpa using N⟩
       ·simp only [execOp,S];refine dX ?_;simp [Instr.next,W,getObj,setObj,Sem.run,B,F,k,Result.andThen,choose,Question.forced]
       ·exact⟨[.bool ae,H.key,H.val],rfl,A2.cons (cJ.bool _) (A2.cons (cJ.mono I.F I.fw Z) (A2.cons (ig.ext' σ I w) A2.nil))⟩
      ·simp at h
    ·simp at h
   ·simp at h
  ·simp at h
 ·simp at E
end
section
variable{Q:Program}{σ:Nat→FuncId}{X:Wd}
def dn(a b:bZ):Prop:=
 match a with
 | .box cs fl=>(match b with
  | .box cs' d=>cs=cs'∧fl≤d
  | _=>False)
 | .cE s cs fl e st=>(match b with
  | .cE j cs' d g st'=>s=j∧cs=cs'∧fl≤d∧e=g∧st=st'
  | _=>False)
 | a=>a=b
theorem dn.refl(a:bZ):dn a a:=by cases a<;>simp [dn]
theorem dn.trans{a b c:bZ}(h:dn a b)(k:dn b c):dn a c:=by
 cases a<;>cases b<;>simp only [dn,reduceCtorEq]at h<;>cases c<;>simp only [dn,reduceCtorEq]at k ⊢
 ·exact⟨h.1.trans k.1,ajw h.2 k.2⟩
 ·exact⟨h.1.trans k.1,h.2.1.trans k.2.1,ajw h.2.2.1 k.2.2.1,h.2.2.2.1.trans k.2.2.2.1,h.2.2.2.2.trans k.2.2.2.2⟩
 all_goals exact h.trans k
def fW(H H':an):Prop:=H.length=H'.length∧∀(b:Nat) bO blk',H[b]?=aa bO→H'[b]?=aa blk'→dn bO blk'
theorem fW.refl(H:an):fW H H:=⟨rfl,fun b bO blk' h d=>by rw [h]at d;cases d;exact dn.refl _⟩
theorem fW.get{H H':an}(h:fW H H'){b:Nat}{bO:bZ}(hb:H[b]?=aa bO):∃ blk',H'[b]?=aa blk'∧dn bO blk':=by
 have hl:=(IS.1 hb).1;have d:b<H'.length:=by have:=h.1;omega
 exact⟨_,By d,h.2 b _ _ hb (By d)⟩
theorem fW.trans{A B C:an}(h:fW A B)(k:fW B C):fW A C:=
 ⟨h.1.trans k.1,fun b x z d g=>by obtain⟨y,hy,h1⟩:=h.get d;exact h1.trans (k.2 b y z hy g)⟩
theorem fW.none{H H':an}(h:fW H H'){b:Nat}(hb:H[b]?=ab):H'[b]?=ab:=by
 rw [akF]at hb ⊢;have:=h.1;omega
theorem fW.set{H:an}{b:Nat}{bO blk':bZ}(hb:H[b]?=aa bO)(h:dn bO blk'):fW H (H.set b blk'):=by
 have hl:=(IS.1 hb).1;refine⟨by simp,fun i x y d hy=>?_⟩;by_cases hi:i=b
 ·subst hi;simp only [ak3,if_true,hl]at hy;rw [hb]at d;cases d;cases hy;exact h
 ·rw [sh (Ne.symm hi)]at hy;rw [d]at hy;cases hy;exact dn.refl _
theorem fW.foldl{f:an→C→an}(b:∀ H x,fW H (f H x)):∀(xs:List C) (H:an),fW H (xs.foldl f H)
 | [],H=>fW.refl H| x::xs,H=>(b H x).trans (fW.foldl b xs (f H x))
theorem jj:∀(n:Nat) (x:C) (H:an),fW H (eK n x H)
 | n,.f _,H=>by cases n<;>exact fW.refl H
 | 0,.ptr _ _ _,H=>fW.refl H| 0,.sl _ _ _ _ _ _,H=>fW.refl H| 0,.cl _ _,H=>fW.refl H| 0,.yl _,H=>fW.refl H| 0,.mp _,H=>fW.refl H| 0,.it _,H=>fW.refl H| 0,.bm _ _,H=>fW.refl H| 0,.mi _,H=>fW.refl H
 | n+1,.ptr b m j,H=>by
  simp only [eK];split
  ·rename_i cs fl d;exact(fW.set d (by exact⟨rfl,ajN _ _⟩)).trans (fW.foldl (fun H x=>jj n x H) _ _)
  ·exact fW.refl H
 | n+1,.sl b o l c j sz,H=>by
  simp only [eK];split
  ·rename_i cs fl d;exact(fW.set d (by exact⟨rfl,ajN _ _⟩)).trans (fW.foldl (fun H x=>jj n x H) _ _)
  ·rename_i s cs fl e st d;exact(fW.set d (by exact⟨rfl,rfl,ajN _ _,rfl,rfl⟩)).trans (fW.foldl (fun H x=>jj n x H) _ _)
  ·exact fW.refl H
 | n+1,.cl f g,H=>fW.foldl (fun H x=>jj n x H) _ _
 | n+1,.yl _,H=>fW.refl H| n+1,.mp _,H=>fW.refl H| n+1,.it _,H=>fW.refl H| n+1,.bm _ _,H=>fW.refl H| n+1,.mi _,H=>fW.refl H
theorem eY{b j:Type}{f g:b→Option j}:∀ {xs:List b},(∀ x ∈ xs,f x=g x)→aZ f xs=aZ g xs
 | [],_=>rfl| x::xs,h=>by rw [aZ,aZ,h x (by simp),eY (xs:=xs) (fun y d=>h y (List.mem_cons_of_mem _ d))]
theorem mc:∀(n:Nat) {H H':an},fW H H'→∀(x:C),et n H' x=et n H x
 | n,H,H',h,.f _=>by cases n<;>rfl
 | 0,H,H',h,.ptr _ _ _=>rfl| 0,H,H',h,.sl _ _ _ _ _ _=>rfl| 0,H,H',h,.cl _ _=>rfl| 0,H,H',h,.yl _=>rfl| 0,H,H',h,.mp _=>rfl| 0,H,H',h,.it _=>rfl| 0,H,H',h,.bm _ _=>rfl| 0,H,H',h,.mi _=>rfl
 | n+1,H,H',h,.ptr b v s=>by
  simp only [et];cases m:H[b]? with
  | none=>rw [h.none m]
  | some bO=>
   obtain⟨blk',d,j⟩:=h.get m;rw [d];cases bO<;>cases blk'<;>simp only [dn,reduceCtorEq]at j
   ·obtain⟨rfl,_⟩:=j;simp only [eY (g:=et n H) fun x _=>mc n h x]
   all_goals rfl
 | n+1,H,H',h,.sl b o l c s sz=>by
  simp only [et];cases m:H[b]? with
  | none=>rw [h.none m]
  | some bO=>
   obtain⟨blk',d,j⟩:=h.get m;rw [d];cases bO<;>cases blk'<;>simp only [dn,reduceCtorEq]at j
   ·obtain⟨rfl,_⟩:=j;simp only [eY (g:=et n H) fun x _=>mc n h x]
   ·obtain⟨rfl,rfl,u,rfl,rfl⟩:=j;clear u;rename_i st _;cases st<;>simp only [eY (g:=et n H) fun x _=>mc n h x]
   all_goals rfl
 | n+1,H,H',h,.cl f q=>by simp only [et,eY (g:=et n H) fun x _=>mc n h x]
 | n+1,H,H',h,.yl _=>rfl| n+1,H,H',h,.mp _=>rfl| n+1,H,H',h,.it _=>rfl| n+1,H,H',h,.bm _ _=>rfl| n+1,H,H',h,.mi _=>rfl
def dK:Nat→an→C→Prop
 | _,_,.f _=>True| 0,_,_=>True| n+1,H,.ptr b _ _=>∀ cs fl,H[b]?=aa (.box cs fl)→cs.length≤fl∧∀ x ∈ cs,dK n H x
 | n+1,H,.sl b o l _ _ sz=>∀ bO,H[b]?=aa bO→match bO with
  | .box cs fl=>o+l*sz≤fl∧∀ x ∈ (cs.drop o).take (l*sz),dK n H x| .cE _ cs fl _ .loc=>o+l*sz≤fl∧∀ x ∈ (cs.drop o).take (l*sz),dK n H x| _=>True
 | n+1,H,.cl _ d=>∀ x ∈ d,dK n H x| _,_,_=>True
theorem dK.le:∀(n:Nat) {H H':an},fW H H'→∀ {x:C},dK n H x→dK n H' x
 | n,H,H',h,.f _,_=>by cases n<;>trivial
 | 0,H,H',h,.ptr _ _ _,_=>trivial| 0,H,H',h,.sl _ _ _ _ _ _,_=>trivial| 0,H,H',h,.cl _ _,_=>trivial| 0,H,H',h,.yl _,_=>trivial| 0,H,H',h,.mp _,_=>trivial| 0,H,H',h,.it _,_=>trivial| 0,H,H',h,.bm _ _,_=>trivial| 0,H,H',h,.mi _,_=>trivial
 | n+1,H,H',h,.ptr b off A,v=>by
  intro cs fl m;have y:=(IS.1 m).1;have s:b<H.length:=by have:=h.1;omega
  have d:=h.2 b _ _ (By s) m;cases g:H[b]<;>rw [g]at d<;>simp only [dn,reduceCtorEq]at d;obtain⟨rfl,q⟩:=d;obtain⟨h1,h2⟩:=v _ _ (by rw [By s,g]);exact⟨ajw h1 q,fun x u=>dK.le n h (h2 x u)⟩
 | n+1,H,H',h,.sl b o l c A sz,v=>by
  intro blk' m;have y:=(IS.1 m).1;have s:b<H.length:=by have:=h.1;omega
  have d:=h.2 b _ _ (By s) m;have j:=v _ (By s);cases g:H[b]<;>rw [g]at d j<;>cases blk'<;>simp only [dn,reduceCtorEq]at d<;>try simp only
  ·obtain⟨rfl,q⟩:=d;exact⟨ajw j.1 q,fun x u=>dK.le n h (j.2 x u)⟩
  ·obtain⟨rfl,rfl,q,rfl,rfl⟩:=d;rename_i st _;cases st<;>simp only at j ⊢;exact⟨ajw j.1 q,fun x u=>dK.le n h (j.2 x u)⟩
 | n+1,H,H',h,.cl f z,v=>fun x u=>dK.le n h (v x u)
 | n+1,H,H',h,.yl _,_=>trivial| n+1,H,H',h,.mp _,_=>trivial| n+1,H,H',h,.it _,_=>trivial| n+1,H,H',h,.bm _ _,_=>trivial| n+1,H,H',h,.mi _,_=>trivial
theorem ft{n:Nat}(b:∀(x:C) (H:an),dK n (eK n x H) x):∀(xs:List C) (H:an),∀ x ∈ xs,dK n (xs.foldl (fun H x=>eK n x H) H) x
 | y::ys,H,x,d=>by
  simp only [akP];rcases ajB.1 d with rfl | d
  ·exact dK.le n (fW.foldl (fun H x=>jj n x H) ys _) (b x H)
  ·exact ft b ys _ x d
theorem gD:∀(n:Nat) (x:C) (H:an),dK n (eK n x H) x
 | n,.f _,H=>by cases n<;>trivial
 | 0,.ptr _ _ _,H=>trivial| 0,.sl _ _ _ _ _ _,H=>trivial| 0,.cl _ _,H=>trivial| 0,.yl _,H=>trivial| 0,.mp _,H=>trivial| 0,.it _,H=>trivial| 0,.bm _ _,H=>trivial| 0,.mi _,H=>trivial
 | n+1,.ptr b I F,H=>by
  simp only [eK];cases u:H[b]? with
  | none=>intro cs fl h;exfalso;simp only at h;exact absurd (u.symm.trans h) (by simp)
  | some bO=>
   cases bO with
   | box d g=>
    intro cs fl h;have s:=(IS.1 u).1;simp only at h ⊢;have z:=fW.foldl (fun H x=>jj n x H) d (H.set b (.box d (Nat.max g d.length)));obtain⟨blk',j,m⟩:=z.get (b:=b) (bO:=.box d (Nat.max g d.length)) (by simp [s]);rw [h]at j;cases j;obtain⟨rfl,q⟩:=m;exact⟨ajw (ajD _ _) q,fun x v=>ft (fun x H=>gD n x H) _ _ x v⟩
   | _=>intro cs fl h;simp only at h;rw [u]at h;cases h
 | n+1,.sl b o l c F sz,H=>by
  simp only [eK];cases u:H[b]? with
  | none=>intro bO h;exfalso;simp only at h;exact absurd (u.symm.trans h) (by simp)
  | some bO=>
   have s:=(IS.1 u).1;cases bO with
   | box d g=>
    intro bO h;simp only at h ⊢;have z:=fW.foldl (fun H x=>jj n x H) ((d.drop o).take (l*sz)) (H.set b (.box d (Nat.max g (o+l*sz))));obtain⟨blk',j,m⟩:=z.get (b:=b) (bO:=.box d (Nat.max g (o+l*sz))) (by simp [s]);rw [h]at j;cases j;cases bO<;>simp only [dn,reduceCtorEq]at m;obtain⟨rfl,q⟩:=m;exact⟨ajw (ajD _ _) q,fun x v=>ft (fun x H=>gD n x H) _ _ x v⟩
   | cE E d g B y=>
    intro bO h;simp only at h ⊢;have z:=fW.foldl (fun H x=>jj n x H) ((d.drop o).take (l*sz)) (H.set b (.cE E d (Nat.max g (o+l*sz)) B y));obtain⟨blk',j,m⟩:=z.get (b:=b) (bO:=.cE E d (Nat.max g (o+l*sz)) B y) (by simp [s]);rw [h]at j;cases j;cases bO<;>simp only [dn,reduceCtorEq]at m;obtain⟨rfl,rfl,q,rfl,rfl⟩:=m;cases y<;>simp only;exact⟨ajw (ajD _ _) q,fun x v=>ft (fun x H=>gD n x H) _ _ x v⟩
   | _=>intro bO h;simp only at h;rw [u]at h;cases h;simp
 | n+1,.cl f A,H=>fun x v=>ft (fun x H=>gD n x H) _ _ x v
 | n+1,.yl _,H=>trivial| n+1,.mp _,H=>trivial| n+1,.it _,H=>trivial| n+1,.bm _ _,H=>trivial| n+1,.mi _,H=>trivial
end
section
variable{Q:Program}{σ:Nat→FuncId}{X:Wd}
def dc(H H':an):Prop:=∀(b:Nat) bO,H[b]?=aa bO→∃ blk',H'[b]?=aa blk'∧dn bO blk'
theorem dc.refl(H:an):dc H H:=fun _ bO h=>⟨bO,h,dn.refl _⟩
theorem dc.trans{A B C:an}(h:dc A B)(k:dc B C):dc A C:=fun b x d=>by
 obtain⟨y,hy,h1⟩:=h b x d;obtain⟨z,g,h2⟩:=k b y hy;exact⟨z,g,h1.trans h2⟩
theorem fW.ext{H H':an}(h:fW H H'):dc H H':=fun _ _ hb=>h.get hb
theorem dc.append(H H':an):dc H (H++H'):=fun b bO hb=>⟨bO,by rw [AT (IS.1 hb).1];exact hb,dn.refl _⟩
theorem dc.len{H H':an}(h:dc H H'):H.length≤H'.length:=by
 rcases ajz H'.length H.length with d | b
 ·obtain⟨y,hy,_⟩:=h H'.length _ (By d);have:=(IS.1 hy).1;omega
 ·exact b
theorem SR.ahead(d:SR Q σ X){H':an}(h:dc X.H H'):SR Q σ { X with H:=H' }∧Ext X.H.length X { X with H:=H' }:=by
 have l:Ext X.H.length X { X with H:=H' }:=
  {B:=rfl,F:=fun _ _ h=>h,oc:=fun _ _ h=>.inl h,fw:=fun _ _ _=>rfl
   bf:=fun b _ bO hb=>by
    obtain⟨blk',g,hl⟩:=h b bO hb;refine⟨blk',g,?_⟩;cases bO<;>cases blk'<;>simp only [dn,reduceCtorEq]at hl<;>simp_all
   uF:=fun b L h=>.inl ⟨b,L,h,rfl⟩,size:=ai8 _,os:=rfl,tape:=rfl,output:=rfl,frame:=fun _ _ _=>rfl }
 refine⟨⟨fun b L hb=>?_,d.inj,d.fb⟩,l⟩;obtain⟨h1,h2,bO,h3,h4⟩:=d.br b L hb;obtain⟨blk',h5,h6⟩:=h b bO h3;refine⟨h1,h2,blk',h5,?_⟩;have h7:BR Q σ { X with H:=H' } bO L:=BR.ext Q σ l rfl (fun _ h=>h) h4;cases bO<;>cases blk'<;>simp only [dn,reduceCtorEq]at h6
 ·obtain⟨rfl,hl⟩:=h6;obtain⟨us,g1,g2,g3⟩:=h7;exact⟨us,g1,g2,fun i hi=>g3 i (ajw hl hi)⟩
 ·obtain⟨rfl,rfl,hl,rfl,rfl⟩:=h6;obtain⟨j,us,rest,g1,g2,g3,g4,g5,g6⟩:=h7;exact⟨j,us,rest,g1,g2,g3,g4,g5,fun i hi=>g6 i (ajw hl hi)⟩
 all_goals (rw [←h6];exact h7)
def vR:bZ→Nat→Prop
 | .box cs fl,i=>i<fl∧i<cs.length| .cE _ cs fl _ _,i=>i<fl∧i<cs.length| _,_=>False
def FL(X:Wd):Prop:=∀ b L i bO,X.cd b=aa L→X.H[b]?=aa bO→vR bO i→X.F L.c i
def Wd.flag(X:Wd):Wd:={ X with F:=fun c i=>X.F c i∨∃ b L bO,X.cd b=aa L∧L.c=c∧X.H[b]?=aa bO∧vR bO i }
theorem SR.flag(j:SR Q σ X):SR Q σ X.flag∧Ext X.H.length X X.flag∧FL X.flag:=by
 have g:Ext X.H.length X X.flag:=
  {B:=rfl,F:=fun _ _ h=>.inl h
   oc:=fun c i h=>by
    rcases h with h | ⟨b,L,bO,h1,h2,_⟩
    ·exact .inl h
    ·exact .inr (.inr ⟨b,L,h1,h2⟩)
   fw:=fun _ _ _=>rfl
   bf:=fun b _=>by
    intro bO hb;refine⟨bO,hb,?_⟩;cases bO<;>simp [Wd.flag]
   uF:=fun b L h=>.inl ⟨b,L,h,rfl⟩,size:=ai8 _,os:=rfl,tape:=rfl,output:=rfl,frame:=fun _ _ _=>rfl }
 refine⟨⟨fun b L hb=>?_,j.inj,fun c i h=>?_⟩,g,fun b L i bO h1 h2 h3=>.inr ⟨b,L,bO,h1,rfl,h2,h3⟩⟩
 ·obtain⟨h1,h2,bO,h3,h4⟩:=j.br b L hb;refine⟨h1,h2,bO,h3,?_⟩;have key:∀ i,X.flag.F L.c i→X.F L.c i∨vR bO i:=by
   rintro i (h | ⟨v,x,blk',g1,g2,g3,g4⟩)
   ·exact .inl h
   ·have:v=b:=j.inj _ _ _ _ g1 hb g2;subst this;rw [h3]at g3;cases g3;exact .inr g4
  cases bO with
  | box cs fl=>
   obtain⟨us,g1,g2,g3⟩:=h4;exact⟨us,g1,A2.ext' σ g g2,fun i hi l=>(key i l).elim (g3 i hi) fun h=>by have:=h.1;omega⟩
  | cE sz cs fl y st=>
   obtain⟨u,us,rest,g1,g2,g3,g4,g5,g6⟩:=h4;exact⟨u,us,rest,g1,A2.ext' σ g g2,g3,g4,g5,fun i hi l=>(key i l).elim (g6 i hi) fun h=>by have:=h.1;omega⟩
  | map es=>exact BR.ext Q σ g rfl (fun i h=>(key i h).elim id False.elim) h4
  | it s p=>exact BR.ext Q σ g rfl (fun i h=>(key i h).elim id False.elim) h4
  | fg b=>exact BR.ext Q σ g rfl (fun i h=>(key i h).elim id False.elim) h4
  | yU m s d=>exact BR.ext Q σ g rfl (fun i h=>(key i h).elim id False.elim) h4
  | lp f t p a c st q d=>exact BR.ext Q σ g rfl (fun i h=>(key i h).elim id False.elim) h4
 ·rcases h with h | ⟨b,L,bO,h1,h2,_⟩
  ·exact j.fb c i h
  ·rw [←h2];exact(j.br b L h1).2.1
theorem fF{d g:Type}{f:d→Option g}:∀ {xs:List d} {ys:List g},aZ f xs=aa ys→A2 (fun x y=>f x=aa y) xs ys
 | [],ys,h=>by simp only [aZ,AI]at h;subst h;exact A2.nil
 | x::xs,ys,h=>by
  simp only [aZ]at h;split at h
  ·simp at h
  ·rename_i y j;split at h
   ·simp at h
   ·rename_i l b;simp only [AI]at h;subst h;exact A2.cons j (fF b)
theorem frz(hS:SR Q σ X)(hF:FL X){H:an}(W:dc H X.H):∀(n:Nat) {x:C} {y:FC} {v:Value},et n H x=aa y→dK n H x→CR σ X x v→cJ σ X.F X.w y v
 | n,.f x,y,v,d,_,B=>by
  have:et n H (.f x)=aa x:=by cases n<;>rfl
  rw [this]at d;cases d;exact B
 | 0,.ptr _ _ _,y,v,d,_,_=>by simp [et]at d
 | 0,.sl _ _ _ _ _ _,y,v,d,_,_=>by simp [et]at d
 | 0,.cl _ _,y,v,d,_,_=>by simp [et]at d
 | 0,.yl _,y,v,d,_,_=>by simp [et]at d
 | 0,.mp _,y,v,d,_,_=>by simp [et]at d
 | 0,.it _,y,v,d,_,_=>by simp [et]at d
 | 0,.bm _ _,y,v,d,_,_=>by simp [et]at d
 | 0,.mi _,y,v,d,_,_=>by simp [et]at d
 | n+1,.ptr b c9 ep,y,v,d,hm,B=>by
  simp only [et]at d;split at d
  ·rename_i cs fl K;simp only [IN]at d;obtain⟨ys,g,rfl⟩:=d;obtain⟨N,I⟩:=hm cs fl K;obtain⟨blk',m,j⟩:=W b _ K;cases blk'<;>simp only [dn,reduceCtorEq]at j;obtain⟨rfl,j⟩:=j;rename_i U;obtain⟨L,S,B⟩:=B;simp only [m]at B;subst B;obtain⟨_,_,bO,E,M⟩:=hS.br b L S;rw [m]at E;cases E;obtain⟨us,A,z,_⟩:=M;have g:=fF g;have:=cJ.fp (σ:=σ) (F:=X.F) (w:=X.w) ys c9 L.c 0 us (by rw [←z.len,g.len])
    (fun i hi=>by rw [ajX];exact hF b L i _ S m ⟨by have:=g.len;omega,by have:=g.len;omega⟩)
    (fun i u O=>by rw [ajX,dS A];exact O)
    (fun i y u Z O=>by
     have hi:i<cs.length:=by rw [g.len];exact(IS.1 Z).1
     have Y:=By hi;exact frz hS hF W n (g.2 i _ _ Y Z) (I _ (IT hi)) (z.2 i _ _ Y O))
   rw [ajX]at this;exact this
  ·simp at d
 | n+1,.sl b o l c ep sz,y,v,d,hm,B=>by
  have key:∀(cs:List C) (fl:Nat) (blk':bZ) (L:Loc) (us rest:List Value) (ys:List FC) (cap:Nat),o+l*sz≤cs.length→o+l*sz≤fl →
    (∀ i,i<fl→i<cs.length→vR blk' i)→X.H[b]?=aa blk'→X.cd b=aa L→rowAt X.w L.c (us++rest)→A2 (CR σ X) cs us →
    (∀ x ∈ (cs.drop o).take (l*sz),dK n H x)→aZ (et n H) ((cs.drop o).take (l*sz))=aa ys→l≤cap→cJ σ X.F X.w (.fs ys l) (.slice (aa ⟨L.c,o,ab⟩) l cap):=by
   intro cs fl blk' L us rest ys cap q N a7 m S A z I g J;have g:=fF g;have c_:=z.len;have b_:ys.length=l*sz:=by rw [←g.len];simp;omega
   have a_:=(z.drop o).take (l*sz);refine .fs ys l L.c o cap ((us.drop o).take (l*sz)) J (by rw [b_];simp;omega) (fun i hi=>hF b L _ _ S m (a7 _ (by omega) (by omega))) (fun i u O=>?_) (fun i y u Z O=>?_)
   ·have hi:i<l*sz:=by
     have:=(IS.1 O).1;simp at this;omega
    rw [dS A,AT (by omega)];rw [List.getElem?_take_of_lt hi,ajv]at O;exact O
   ·have hi:i<((cs.drop o).take (l*sz)).length:=by rw [g.len];exact(IS.1 Z).1
    have Y:=By hi;exact frz hS hF W n (g.2 i _ _ Y Z) (I _ (IT hi)) (a_.2 i _ _ Y O)
  simp only [et]at d;simp only [CR,fC]at B;split at d
  ·rename_i cs fl K;split at d
   ·rename_i q;simp only [IN]at d;obtain⟨ys,g,rfl⟩:=d;obtain⟨N,I⟩:=hm _ K;obtain⟨blk',m,j⟩:=W b _ K;cases blk'<;>simp only [dn,reduceCtorEq]at j;obtain⟨rfl,j⟩:=j;rename_i U;simp only [m]at B;obtain⟨L,S,J,rfl⟩:=B;obtain⟨_,_,bO,E,M⟩:=hS.br b L S;rw [m]at E;cases E;obtain⟨us,A,z,_⟩:=M;exact key cs fl (.box cs U) L us [] ys c q N (fun i h1 h2=>⟨by omega,h2⟩) m S (by simpa using A) z I g J
   ·simp at d
  ·rename_i s cs fl e K;split at d
   ·rename_i q;obtain⟨rfl,rfl,q⟩:=q;simp only [IN]at d;obtain⟨ys,g,rfl⟩:=d;obtain⟨N,I⟩:=hm _ K;obtain⟨blk',m,j⟩:=W b _ K;cases blk'<;>simp only [dn,reduceCtorEq]at j;obtain⟨rfl,rfl,j,rfl,rfl⟩:=j;rename_i U;simp only [m]at B;obtain⟨L,S,k,ho,J,rfl⟩:=B.2.1 trivial trivial;obtain⟨_,_,bO,E,M⟩:=hS.br b L S;rw [m]at E;cases E;obtain⟨_,us,rest,A,z,_⟩:=M;exact key cs fl (.cE sz cs U ep .loc) L us rest ys _ q N (fun i h1 h2=>⟨by omega,h2⟩) m S A z I g (by omega)
   ·simp at d
  ·rename_i s cs fl e K;split at d
   ·rename_i q;obtain⟨rfl,rfl⟩:=q;cases d;obtain⟨blk',m,j⟩:=W b _ K;cases blk'<;>simp only [dn,reduceCtorEq]at j;obtain⟨rfl,rfl,j,rfl,rfl⟩:=j;simp only [m]at B;obtain⟨_,_,rfl⟩:=B.2.1 trivial trivial;exact .aA
   ·simp at d
  ·rename_i s cs fl e K;split at d
   ·rename_i q;obtain⟨rfl,rfl⟩:=q;cases d;obtain⟨blk',m,j⟩:=W b _ K;cases blk'<;>simp only [dn,reduceCtorEq]at j;obtain⟨rfl,rfl,j,rfl,rfl⟩:=j;simp only [m]at B;obtain⟨_,_,a,rfl⟩:=B.2.1 trivial trivial;exact .es a
   ·simp at d
  ·simp at d
 | n+1,.cl f a8,y,v,d,hm,B=>by
  simp only [et,IN]at d;obtain⟨ys,g,rfl⟩:=d;obtain⟨us,rfl,z⟩:=B;have g:=fF g;refine .fn f ys us (by rw [←z.len,g.len]) fun i y u Z O=>?_;have hi:i<a8.length:=by rw [g.len];exact(IS.1 Z).1
  have Y:=By hi;exact frz hS hF W n (g.2 i _ _ Y Z) (hm _ (IT hi)) (CR.TF σ (z.2 i _ _ Y O))
 | n+1,.yl _,y,v,d,_,_=>by simp [et]at d
 | n+1,.mp _,y,v,d,_,_=>by simp [et]at d
 | n+1,.it _,y,v,d,_,_=>by simp [et]at d
 | n+1,.bm _ _,y,v,d,_,_=>by simp [et]at d
 | n+1,.mi _,y,v,d,_,_=>by simp [et]at d
end
section
variable{Q:Program}{σ:Nat→FuncId}{X:Wd}
theorem SR.skip(g:SR Q σ X){w':World}{o:Obj}(d:dR X.w w' o)(m:X.B≤X.w.heap.size):∃ X':Wd,X'.w=w'∧X'.H=X.H∧SR Q σ X'∧Ext X.H.length X X'∧X'.B≤X'.w.heap.size:=by
 have j:Ext X.H.length X { X with w:=w' }:=Ext.one g X.H.length rfl (fun _ _=>Iff.rfl) (fun k l _=>d.zI l)
  (fun L i h=>by rw [SR.pU g]at h;simp at h) (fun h=>absurd h (ak8 _)) (fun _ _ _=>rfl) (fun _ _=>rfl) (fun L h=>.inl ⟨L,h,rfl⟩) (by show _≤w'.heap.size;rw [d.size];omega) d.os d.tape d.output
 refine⟨{ X with w:=w' },rfl,rfl,SR.step Q σ g j X.H.length (fun _ _=>rfl) (fun _ _=>rfl) (fun b L _ hb=>d.zI (g.br b L hb).2.1)
  (fun _ _ _ _ _ h=>h) (fun L h=>by change X.cd X.H.length=aa L at h;rw [SR.pU g]at h;simp at h) (fun c i h=>?_),j,?_⟩
 ·have:=g.fb c i h;show c<w'.heap.size;rw [d.size];omega
 ·show X.B≤w'.heap.size;rw [d.size];omega
theorem lI{n:Int}(b:0≤n)(d:n<2 ^ 63):IntKind.i64.wrap n=n:=by
 have:n % (2 ^ 64:Int)=n:=Int.emod_eq_of_lt b (by omega);simp only [IntKind.wrap,IntKind.bits,IntKind.signed,this,aj6,decide_eq_true_eq];rw [aR (by show¬ n≥2 ^ (64-1);omega)]
theorem Az(hS:SR Q σ X)(hB:X.B≤X.w.heap.size){a:Act}{aB:T}(hR:RR σ X aB a.tmps){o:Oper}{sz bytes:Nat}{zs:List FC}{x y:Arg}(F:dN Q σ o (.dD sz bytes zs x y)=ae){v:V}{H':an}
  (h:bC aB X.H (.dD sz bytes zs x y)=aa (v,H')):gC Q σ X v H' (execOp a.eval o):=by
 simp only [dN]at F;split at F
 ·rename_i t x' y' ho;simp only [BY,decide_eq_true_eq]at F;obtain⟨⟨⟨k,r⟩,O⟩,b_⟩:=F;have k:=bN hR k;have r:=bN hR r;obtain⟨e,hu,O⟩:=gP O;simp only [BY]at O;obtain⟨⟨j,Z⟩,hz⟩:=O;obtain⟨z,us,a7,a8,M,f7,c_,d9⟩:=eI (σ:=σ) (X:=X) hz X.w;obtain⟨c9,u,A⟩:=wF Z X.w;simp only [bC]at h;split at h
  ·rename_i l c hl hc;obtain⟨kl,p⟩:=iv k hl;obtain⟨kc,w⟩:=iv r hc;split at h
   ·rename_i s;obtain⟨h0,d_,g,e_⟩:=s;unfold cO at g;simp only [BY,decide_eq_true_eq]at g;have J:us.length=sz:=by have:=M.len;simp at this;omega
    have L:=lI (n:=l) h0 (by omega);have K:=lI (n:=c) (by omega) (by omega);have a_:c.toNat*bytes≤2 ^ 48:=by
     have:c.toNat*bytes≤(2*c.toNat+768)*bytes:=ajH _ (by omega);omega
    have m:¬ ((bytes:Int)*c>2 ^ 48):=by
     have e1:(bytes:Int)*c=((c.toNat*bytes:Nat):Int):=by
      rw [akZ,aj1];congr 1;omega
     rw [e1];omega
    have I:((Array.range (c.toNat*sz)).map fun i=>us.toArray[i % us.toArray.size]!)=(cB c.toNat us).toArray:=by
     have:=ie us c.toNat (by omega);rwa [J]at this
    have run:(execOp a.eval o).run Q X.w=.ok (.value (.slice (aa ⟨X.w.heap.size,0,ab⟩) l.toNat c.toNat)) (X.w.alloc (.cells (cB c.toNat us).toArray e)):=by
     simp only [execOp,ho];refine dX ?_;rw [p,w];have B:¬ c<0:=by omega
     have E:¬ l<0:=by omega
     have q:¬ l>c:=by omega
     by_cases d:c.toNat*sz=0
     ·have f:cB c.toNat us=[]:=ajk (by rw [ke,J];exact d);have b:((decide (c<0)||decide ((bytes:Int)*c>2 ^ 48))||decide (l<0)||decide (l>c))=ag:=by rw [decide_eq_false B,decide_eq_false E,decide_eq_false q,decide_eq_false m];rfl
      simp only [Instr.makeSlice,Sem.run_bind,aY hu,asInt,asIntOf,Sem.run_pure,Result.andThen_ok,u,A,L,K,run_askRoom,cV j];simp only [b,ajo,if_false,Sem.run_ite,ba d,Sem.run_bind,Result.andThen_ok,Sem.run_pure,run_askRoom,cV j,newRow,run_newObj];rw [d,f,show(Array.map (fun x=>(#[]:Array Value)[x % (#[]:Array Value).size]!) (Array.range 0))=#[] from by simp [show Array.range 0=(#[]:Array Nat) from rfl]];rfl
     ·simp only [Instr.makeSlice,Sem.run_bind,aY hu,asInt,asIntOf,Sem.run_pure,Result.andThen_ok,u,A,L,K,run_askRoom,cV j];have b:((decide (c<0)||decide ((bytes:Int)*c>2 ^ 48))||decide (l<0)||decide (l>c))=ag:=by rw [decide_eq_false B,decide_eq_false E,decide_eq_false q,decide_eq_false m];rfl
      simp only [b,ajo,if_false,Sem.run_ite,aR d,Sem.run_bind,a7,a8,Result.andThen_ok,Sem.run_pure,run_askRoom,cV j,I,newRow,run_newObj];rfl
    split at h
    ·rename_i d;subst d;simp only [AI,OF]at h;obtain⟨rfl,rfl⟩:=h;have:l=0:=by omega
     subst this;obtain⟨X',S,N,U,W,Y⟩:=SR.skip hS (dR.alloc X.w (.cells (cB (0:Int).toNat us).toArray e)) hB;exact⟨_,X',.inl (by rw [S];exact run),N,U,cJ.es _,W,Y⟩
    ·simp only [AI,OF]at h;obtain⟨rfl,rfl⟩:=h;obtain⟨X',S,N,U,W,Y,g6⟩:=AA hS hB (iT M c.toNat) e;refine⟨_,X',.inl (by rw [S];exact run),N,U,?_,W,g6⟩;have H:X'.H[X.H.length]?=aa (.box ((cB c.toNat zs).map .f) 0):=by rw [N];simp
     simp only [VR,ig,CR,fC,H];exact⟨_,Y,by omega,rfl⟩
   ·simp at h
  ·simp at h
 ·simp at F
theorem ab2(H:an):∀ x,et 0 H x=fcC x:=fun x=>by cases x<;>rfl
theorem ZJ(J:SR Q σ X)(hB:X.B≤X.w.heap.size){a:Act}{aB:T}(I:RR σ X aB a.tmps){o:Oper}{sz:Nat}{x hi mx:Arg}(B:dN Q σ o (.qP sz x hi mx)=ae){v:V}{H':an}
  (h:bC aB X.H (.qP sz x hi mx)=aa (v,H')):gC Q σ X v H' (execOp a.eval o):=by
 simp only [dN]at B;split at B
 ·rename_i t y U mx' ho;simp only [BY,decide_eq_true_eq]at B;obtain⟨⟨⟨⟨z,h2⟩,h3⟩,he⟩,hz⟩:=B;obtain⟨e,hu,E⟩:=gP he;simp only [bC]at h;unfold vp at h;have o1:OR X σ ab ab:=trivial;have o2:OR X σ (aa (hi.ev aB)) (aa (a.eval U)):=bN I h2;have o3:OR X σ (aa (mx.ev aB)) (aa (a.eval mx')):=bN I h3;have z:=bN I z;split at h
  ·rename_i v' hv;simp only [AI,OF]at h;obtain⟨rfl,rfl⟩:=h;obtain⟨r,F,h5⟩:=vq J hu E z o1 o2 o3 hv;exact⟨r,X,.inl (by simp only [execOp,ho];exact dX F),rfl,J,h5,Ext.refl _ _,hB⟩
  ·split at h
   ·rename_i b o' n c' m s c_;rw [c_]at z;simp only [VR,ig,CR,fC]at z;split at h
    ·rename_i l cs fl e' K;rw [K]at z;split at h
     ·rename_i N;obtain⟨rfl,rfl,rfl,rfl⟩:=N;split at h
      ·rename_i i j d Z;split at h
       ·rename_i Y;obtain⟨rfl,f7,e_⟩:=Y;split at h
        ·rename_i ys d9;simp only [AI,OF]at h;obtain⟨rfl,rfl⟩:=h;obtain⟨L,hL,k,hk,f_,c9⟩:=z.2.1 rfl rfl;have a7:k=0:=by
          rcases Nat.eq_zero_or_pos k with h | h
          ·exact h
          ·have:=Nat.mul_pos h hz;omega
         subst a7;have f8:i≤n:=by
          unfold wR at d;split at d
          ·split at d
           ·rename_i hh;simp only [AI]at d;omega
           ·simp at d
          ·simp at d
         have M:bE n n ab (aa (hi.ev aB)) (aa (mx.ev aB))=aa (0,i,i):=by
          have W:wR (hi.ev aB) i=aa i:=by
           unfold wR at d ⊢;split at d
           ·split at d
            ·rename_i hh;simp only [AI]at d;rw [ba ⟨hh.1,by omega⟩,d]
            ·simp at d
           ·simp at d
          simp [bE,Z,W]
         obtain⟨F,_,_,_⟩:=dH (Q:=Q) o1 o2 o3 M (cap:=L.cap) (by omega) (ai8 n) ae X.w;have h6:=eh (a:=aa ⟨L.c,0,ab⟩) hu E F;have a8:fW X.H (X.H.set b (.cE l cs (Nat.max fl (i*l)) m .loc)):=fW.set K ⟨rfl,rfl,ajN _ _,rfl,rfl⟩;obtain⟨g1,g2⟩:=SR.ahead J a8.ext;obtain⟨g3,g4,g5⟩:=SR.flag g1;have a_:=(IS.1 K).1;have q:(X.H.set b (.cE l cs (Nat.max fl (i*l)) m .loc))[b]?=aa (.cE l cs (Nat.max fl (i*l)) m .loc):=by simp [a_]
         have S:et 1 (X.H.set b (.cE l cs (Nat.max fl (i*l)) m .loc)) (.sl b 0 i 0 m l)=aa (.fs ys i):=by
          simp only [et,q];rw [ba ⟨trivial,trivial,by omega⟩,eY (g:=fcC) fun x _=>ab2 _ x,aj4,d9];rfl
         have b_:dK 1 (X.H.set b (.cE l cs (Nat.max fl (i*l)) m .loc)) (.sl b 0 i 0 m l):=by
          intro bO u;rw [q]at u;cases u;refine⟨by have:=ajD fl (i*l);simp only [ajX];exact this,fun x _=>?_⟩;cases x<;>trivial
         have O:CR σ ({ X with H:=X.H.set b (.cE l cs (Nat.max fl (i*l)) m .loc) }:Wd).flag (.sl b 0 i 0 m l) (.slice (aa ⟨L.c,0,ab⟩) i L.cap):=by
          simp only [CR,fC,Wd.flag,q];exact⟨ai8 _,fun _ _=>⟨L,hL,0,by omega,by omega,by simp⟩,_,_,_,rfl⟩
         have hf:=frz g3 g5 (dc.refl _) 1 S b_ O;have A:cJ σ ({ X with H:=X.H.set b (.cE l cs (Nat.max fl (i*l)) m .loc) }:Wd).flag.F X.w (.fs ys i) (.slice (aa ⟨L.c,0,ab⟩) i i):=by
          cases hf with
          | fs _ _ c o2 cap us d_ hl hF N hr=>exact .fs _ _ _ _ _ us (ai8 _) hl hF N hr| fs0 a2 cap=>omega
         refine⟨.slice (aa ⟨L.c,0,ab⟩) i i,({ X with H:=X.H.set b (.cE l cs (Nat.max fl (i*l)) m .loc) }:Wd).flag,.inl ?_,rfl,g3,A,g2.trans (g4.mono (by simp)),hB⟩;simp only [execOp,ho];refine dX ?_;rw [c9];simp [show i≠0 by omega,dW]at h6;exact h6
        ·simp at h
       ·simp at h
      ·simp at h
     ·simp at h
    ·simp at h
   ·simp at h
 ·simp at B
theorem ad6(d:SR Q σ X)(g:X.B≤X.w.heap.size){a:Act}{aB:T}(j:RR σ X aB a.tmps){o:Oper}{op:cY}(b:dN Q σ o op=ae){v:V}{H':an}
  (h:bC aB X.H op=aa (v,H')):gC Q σ X v H' (execOp a.eval o):=by
 cases m:op.fsl
 case true=>
  cases op<;>simp only [cY.fsl,reduceCtorEq]at m;obtain⟨rfl,u,X',B,E,F,H,I,J,_⟩:=uu d g j b h;exact⟨u,X',.inl B,E,F,H,I,J⟩
 by_cases s:cls op=.p∨cls op=.r
 ·exact gC.ags g d (aal d j b s m h)
 ·cases op with
  | pre st sz=>exact adF d g b h
  | alloc zs=>
   simp only [bC,AI,OF]at h;obtain⟨rfl,rfl⟩:=h;exact Q_ d g b
  | box x=>
   simp only [bC]at h;split at h
   ·rename_i xs q;simp only [AI,OF]at h;obtain⟨rfl,rfl⟩:=h;exact abM d g j b q
   ·simp at h
  | bQ sz zs n ps=>exact GU d g j b h| store n x y=>exact To d g j b h
  | jX=>
   simp only [bC,AI,OF]at h;obtain⟨rfl,rfl⟩:=h;exact Sg d g b
  | lN K x y z=>exact R_ d g j b h| dD sz l zs x y=>exact Az d g j b h| range x=>exact SY d g j b h| next x=>exact YK d g j b h
  | append sz l x y=>exact GQ d g j b h| XK x=>simp [dN]at b| copy sz x y=>simp [dN]at b| clear sz zs x=>exact Rt d g j b h| lU sz l zs x y=>exact Xz d g j b h| mz x=>exact Io d g j b h| qP sz x y z=>exact ZJ d g j b h| qE x=>exact Sk d g j b h| call f xs A=>simp [bC]at h| bT x xs A=>simp [bC]at h| recover=>simp [bC]at h| defer x xs=>simp [bC]at h| bad=>simp [bC]at h| _=>exact absurd (by simp [cls]) s
end
section
variable{Q:Program}{σ:Nat→FuncId}{X:Wd}
def kr(n:Nat)(H:an):V→Prop
 | .c x=>dK n H x| .a xs=>∀ x ∈ xs,dK n H x| _=>True
theorem kr.le{n:Nat}{H H':an}(h:fW H H'){v:V}(b:kr n H v):kr n H' v:=by
 cases v with
 | c x=>exact dK.le n h b| a xs=>exact fun x d=>dK.le n h (b x d)
 | _=>trivial
theorem acq(n:Nat)(v:V)(H:an):fW H (YH n H v):=by
 cases v with
 | c x=>exact jj n x H| a xs=>exact fW.foldl (fun H x=>jj n x H) xs H
 | _=>exact fW.refl H
theorem Ax(n:Nat)(v:V)(H:an):kr n (YH n H v) v:=by
 cases v with
 | c x=>exact gD n x H| a xs=>exact fun x b=>ft (fun x H=>gD n x H) xs H x b
 | _=>trivial
theorem oR(n:Nat):∀(b:List V) (H:an),fW H (b.foldl (YH n) H)
 | [],H=>fW.refl H| v::b,H=>(acq n v H).trans (oR n b _)
theorem qC(n:Nat):∀(b:List V) (H:an),∀ v ∈ b,kr n (b.foldl (YH n) H) v
 | u::b,H,v,d=>by
  rcases ajB.1 d with rfl | d
  ·exact(Ax n v H).le (oR n b _)
  ·exact qC n b _ v d
def FV1(σ:Nat→FuncId)(F:Nat→Nat→Prop)(w:World)(v:V)(u:Value):Prop:=∀ X:Wd,X.F=F→X.w=w→ig σ X v u
def FV(σ:Nat→FuncId)(F:Nat→Nat→Prop)(w:World)(v:V)(u:Value):Prop:=∀ X:Wd,X.F=F→X.w=w→VR σ X v u
theorem Z_(z:SR Q σ X)(q:FL X){H:an}(s:dc H X.H){n:Nat}{v F:V}{u:Value}(d:dI n H v=aa F)(A:kr n H v)(B:ig σ X v u):FV1 σ X.F X.w F u:=by
 intro Z g j;cases v with
 | c x=>
  simp only [dI,IN]at d;obtain⟨y,m,rfl⟩:=d;have:=frz z q s n m A B;rw [←g,←j]at this;exact this
 | a xs=>
  simp only [dI,IN]at d;obtain⟨ys,b,rfl⟩:=d;obtain⟨us,rfl,l⟩:=B;have b:=fF b;refine⟨us,rfl,A2.map ⟨by rw [←l.len,b.len],fun i y u m I=>?_⟩⟩;have hi:i<xs.length:=by rw [b.len];exact(IS.1 m).1
  have E:=By hi;have:=frz z q s n (b.2 i _ _ E m) (A _ (IT hi)) (l.2 i _ _ E I);rw [←g,←j]at this;exact this
 | top=>simp [dI]at d| t J=>simp [dI]at d
def bZ.full:bZ→bZ
 | .box cs fl=>.box cs (Nat.max fl cs.length)| .cE s cs fl e st=>.cE s cs (Nat.max fl cs.length) e st| b=>b
theorem vT(H:an):fW H (H.map bZ.full):=by
 refine⟨by simp,fun b x y g d=>?_⟩;rw [aj3,g]at d;simp only [ajK,AI]at d;subst d;cases x<;>simp [dn,bZ.full,ajN]
theorem fM:∀(n:Nat) {H:an} {x:C} {y:FC},et n H x=aa y→dK n (H.map bZ.full) x
 | n,H,.f _,y,_=>by cases n<;>trivial
 | 0,H,.ptr _ _ _,y,_=>trivial| 0,H,.sl _ _ _ _ _ _,y,_=>trivial| 0,H,.cl _ _,y,_=>trivial| 0,H,.yl _,y,_=>trivial| 0,H,.mp _,y,_=>trivial| 0,H,.it _,y,_=>trivial| 0,H,.bm _ _,y,_=>trivial| 0,H,.mi _,y,_=>trivial
 | n+1,H,.ptr b E B,y,d=>by
  intro cs fl j;rw [aj3]at j;simp only [et]at d;split at d
  ·rename_i cs' u g;rw [g]at j;simp only [ajK,AI,bZ.full,bZ.box.injEq]at j;obtain⟨rfl,rfl⟩:=j;simp only [IN]at d;obtain⟨ys,m,rfl⟩:=d;refine⟨ajD _ _,fun x v=>?_⟩;obtain⟨i,hi⟩:=akc v;obtain⟨y,_,z⟩:=(fF m).get hi;exact fM n z
  ·simp at d
 | n+1,H,.sl b o l c B sz,y,d=>by
  intro bO j;rw [aj3]at j;simp only [et]at d;split at d
  ·rename_i cs' u g;rw [g]at j;simp only [ajK,AI,bZ.full]at j;subst j;split at d
   ·rename_i q;simp only [IN]at d;obtain⟨ys,m,rfl⟩:=d;refine⟨ajw q (ajD _ _),fun x v=>?_⟩;obtain⟨i,hi⟩:=akc v;obtain⟨y,_,z⟩:=(fF m).get hi;exact fM n z
   ·simp at d
  ·rename_i s cs' u e g;rw [g]at j;simp only [ajK,AI,bZ.full]at j;subst j;split at d
   ·rename_i q;simp only [IN]at d;obtain⟨ys,m,rfl⟩:=d;refine⟨ajw q.2.2 (ajD _ _),fun x v=>?_⟩;obtain⟨i,hi⟩:=akc v;obtain⟨y,_,z⟩:=(fF m).get hi;exact fM n z
   ·simp at d
  ·rename_i s cs' u e g;rw [g]at j;simp only [ajK,AI,bZ.full]at j;subst j;trivial
  ·rename_i s cs' u e g;rw [g]at j;simp only [ajK,AI,bZ.full]at j;subst j;trivial
  ·simp at d
 | n+1,H,.cl f A,y,d=>by
  simp only [et,IN]at d;obtain⟨ys,m,rfl⟩:=d;intro x v;obtain⟨i,hi⟩:=akc v;obtain⟨y,_,z⟩:=(fF m).get hi;exact fM n z
 | n+1,H,.yl _,y,d=>trivial| n+1,H,.mp _,y,d=>trivial| n+1,H,.it _,y,d=>trivial| n+1,H,.bm _ _,y,d=>trivial| n+1,H,.mi _,y,d=>trivial
theorem vU{n:Nat}{H:an}{v l:V}(b:dI n H v=aa l):kr n (H.map bZ.full) v:=by
 cases v with
 | c x=>
  simp only [dI,IN]at b;obtain⟨y,d,rfl⟩:=b;exact fM n d
 | a xs=>
  simp only [dI,IN]at b;obtain⟨ys,g,rfl⟩:=b;intro x j;obtain⟨i,hi⟩:=akc j;obtain⟨y,_,d⟩:=(fF g).get hi;exact fM n d
 | _=>trivial
def Wd.inner(X:Wd):Wd:=⟨fun _=>ab,X.F,[],X.w,X.w.heap.size⟩
theorem SR.inner(d:SR Q σ X):SR Q σ X.inner:=⟨fun b L h=>by simp [Wd.inner]at h,fun b j L g h=>by simp [Wd.inner]at h,d.fb⟩
def Wd.iP(Y:Wd):Wd:=Wd.flag { Y with H:=Y.H.map bZ.full }
theorem SR.iP{Y:Wd}(b:SR Q σ Y):SR Q σ Y.iP∧Ext Y.H.length Y Y.iP∧FL Y.iP:=by
 obtain⟨h1,h2⟩:=SR.ahead b (vT Y.H).ext;obtain⟨h3,h4,h5⟩:=SR.flag h1;exact⟨h3,h2.trans (h4.mono (by simp)),h5⟩
theorem Ad{Y:Wd}(J:SR Q σ Y){n:Nat}{v g:V}{u:Value}(b:mR n Y.H v=aa g)(A:VR σ Y v u):FV σ Y.iP.F Y.w g u:=by
 obtain⟨F,H,I⟩:=SR.iP J;have m:=VR.ext' σ H A;have q:∀ {v g:V} {u:Value},dI n Y.H v=aa g→ig σ Y.iP v u→FV1 σ Y.iP.F Y.w g u:=by
  intro v g u b A;have z:dI n Y.iP.H v=aa g:=by
   show dI n (Y.H.map bZ.full) v=aa g;cases v with
   | c x=>simp only [dI]at b ⊢;rw [mc n (vT Y.H)];exact b| a xs=>simp only [dI]at b ⊢;rw [eY (fun x _=>mc n (vT Y.H) x)];exact b
   | _=>simp [dI]at b
  exact Z_ F I (dc.refl _) z (vU b) A
 intro Z j l;cases v with
 | t L=>
  simp only [mR,IN]at b;obtain⟨M,d,rfl⟩:=b;obtain⟨us,rfl,s⟩:=m;have d:=fF d;refine⟨us,rfl,by rw [←s.len,d.len],fun i y u E K=>?_⟩;have hi:i<L.length:=by rw [d.len];exact(IS.1 E).1
  have B:=By hi;exact q (d.2 i _ _ B E) (s.2 i _ _ B K) Z j l
 | c x=>exact VR.TF σ (q (v:=.c x) b m Z j l)| a xs=>exact VR.TF σ (q (v:=.a xs) b m Z j l)| top=>simp [mR,dI]at b
theorem SR.outer(q:SR Q σ X)(u:X.B≤X.w.heap.size){Y:Wd}(s:SR Q σ Y)(d:Ext 0 X.inner Y) :
  SR Q σ { X with F:=Y.iP.F,w:=Y.w }∧Ext X.H.length X { X with F:=Y.iP.F,w:=Y.w }∧X.B≤Y.w.heap.size:=by
 obtain⟨h1,h2,h3⟩:=SR.iP s;have uD:X.w.heap.size≤Y.w.heap.size:=d.size;have g:∀ k,k<X.w.heap.size→Y.w.heap[k]?=X.w.heap[k]?:=fun k m=>d.frame k m (fun b L h=>by simp [Wd.inner]at h);have l:∀ c i,Y.iP.F c i→X.F c i∨X.w.heap.size≤c:=by
  intro c i h;rcases h2.oc c i h with h | h | ⟨b,L,hb,rfl⟩
  ·rcases d.oc c i h with h | h | ⟨b,L,hb,_⟩
   ·exact .inl h
   ·exact .inr h
   ·simp [Wd.inner]at hb
  ·exact .inr (ajw uD h)
  ·have:=(s.br b L hb).1;rw [d.B]at this;exact .inr this
 have j:Ext X.H.length X { X with F:=Y.iP.F,w:=Y.w }:=
  {B:=rfl,F:=fun c i h=>h2.F c i (d.F c i h)
   oc:=fun c i h=>(l c i h).elim .inl fun h=>.inr (.inl h)
   fw:=fun c i h=>d.fw c i h
   bf:=fun b _ bO hb=>⟨bO,hb,by cases bO<;>simp⟩
   uF:=fun b L h=>.inl ⟨b,L,h,rfl⟩,size:=uD,os:=d.os,tape:=d.tape,output:=d.output,frame:=fun k m _=>g k m }
 refine⟨⟨fun b L hb=>?_,q.inj,fun c i h=>h1.fb c i h⟩,j,ajw u uD⟩;obtain⟨g1,g2,bO,g3,g4⟩:=q.br b L hb;refine⟨g1,aj5 g2 uD,bO,g3,BR.ext Q σ j (g _ g2) (fun i h=>?_) g4⟩;rcases l _ _ h with h | h
 ·exact h
 ·omega
end
section
variable{Q:Program}{σ:Nat→FuncId}{X:Wd}
def fE(Q:Program)(σ:Nat→FuncId)(X:Wd)(v:V)(H':an)(X':Wd)(u:Value):Prop:=
 X'.H=H'∧SR Q σ X'∧VR σ X' v u∧Ext X.H.length X X'∧X'.B≤X'.w.heap.size
def nR(b:CallKind)(cs:List Frame):Prop:=b=.normal∨(b=.deferred∧∃ c rest,cs=c::rest∧c.mode=.returning)
def iw(b:Frame)(cs:List Frame):Prop:=nR b.kind cs
theorem nR.Ie{fr:Frame}{cs:List Frame}(h:nR fr.kind cs):tryRecover fr cs=ab:=by
 unfold tryRecover;rcases h with h | ⟨h,c,rest,rfl,b⟩
 ·rw [h]
 ·rw [h];simp [b]
def Leaves(Q:Program)(f:FuncId)(b:CallKind)(fr:Frame)(u:Value)(w:World):Prop:=
 fr.mode=.returning∧fr.defers=[]∧fr.kind=b∧fr.fn=f∧∃ fn,Q.funcs[f]?=aa fn∧(Go.results fn fr.tmps).run Q w=.ok u w
structure eV(Q:Program)(σ:Nat→FuncId)(call:dj):Prop where
 enters:∀ f args H r,call (.fn f) args H=aa r→∀ as w,(callFunc (σ f) as).run Q w=.ok (.enter (σ f) as) w
 fn:∀ f args H r H',call (.fn f) args H=aa (r,H')→∀(X:Wd) us kind cs,X.H=H→SR Q σ X→X.B≤X.w.heap.size→A2 (VR σ X) args us→nR kind cs→kind=.normal∨f≠vY →
  ∃ fr X' u,Steps Q (lone (Frame.enter Q (σ f) us.toArray kind) cs X.w) (lone fr cs X'.w)∧Leaves Q (σ f) kind fr u X'.w∧fE Q σ X r H' X' u
 yield:∀ b args H r H',call (.yield b) args H=aa (r,H')→∀(X:Wd) us c cs L,X.H=H→SR Q σ X→X.B≤X.w.heap.size→A2 (VR σ X) args us→X.cd b=aa L →
  ∃ f tmps as bd X' u,(Instr.yield L.c us.toArray).run Q X.w=.ok (.round L.c f tmps as bd) X.w ∧
   Steps Q (lone (Frame.round L.c f tmps as bd .normal) (c::cs) X.w) (lone (c.finish u) cs X'.w)∧fE Q σ X r H' X' u
def cR(Q:Program)(σ:Nat→FuncId)(X:Wd)(o:Oper)(a:Act)(v:V)(H':an):Prop:=
 ∀(b:Frame) (ops:Array Oper) (i:Nat) (rest:List Nat) (k:List Item) (cs:List Frame),ops[i]?=aa o→Region.wanted o (yielded ops a.tmps)=ae→iw b cs →
  ∃ X' u,Steps Q (lone (b.atR a (.inRegion ops (i::rest)::k)) cs X.w) (lone (b.atR (a.put o.dst u) (.inRegion ops rest::k)) cs X'.w)∧fE Q σ X v H' X' u
theorem cR.agr{o:Oper}{a:Act}{v:V}{H':an}(j:∀ c,o.op≠.defer c)(h:gC Q σ X v H' (execOp a.eval o)):cR Q σ X o a v H':=by
 intro b ops i rest k cs ho l m;obtain⟨u,X',d,h1,h2,h3,h4,h5⟩:=h;refine⟨X',u,.one (step_lone_go ?_),h1,h2,h3,h4,h5⟩;rw [stepGR_op ho l,Oper.semAt_eq _ _ _ j];have g:=Frame.finish_atR b a ops i rest k u;rw [ho]at g;simp only [ajC]at g;rw [←g];rcases d with d | ⟨d,rfl⟩<;>simp [stepG.apply,Sem.runT_eq,d]
theorem cR.sJ{o:Oper}{a:Act}{v:V}{H':an}(j:∀ c,o.op≠.defer c){f:FuncId}{us:Array Value}(g:(execOp a.eval o).run Q X.w=.ok (.enter f us) X.w)
  (h:∀ cs,∃ fr X' u,Steps Q (lone (Frame.enter Q f us .normal) cs X.w) (lone fr cs X'.w)∧Leaves Q f .normal fr u X'.w∧fE Q σ X v H' X' u):cR Q σ X o a v H':=by
 intro b ops i rest k cs ho l y;obtain⟨fr,X',u,h1,⟨l1,l2,m,q,fn,s,x⟩,h3⟩:=h (b.atR a (.inRegion ops (i::rest)::k)::cs);refine⟨X',u,.head (step_lone_go (fr':=Frame.enter Q f us .normal) (cs':=b.atR a (.inRegion ops (i::rest)::k)::cs) (w':=X.w) ?_) (h1.trans (.one ?_)),h3⟩
 ·rw [stepGR_op ho l,Oper.semAt_eq _ _ _ j];simp [stepG.apply,Sem.runT_eq,g,Frame.atR]
 ·have d:=Frame.finish_atR b a ops i rest k u;rw [ho]at d;simp only [ajC]at d;rw [←d];exact step_leave_returned ⟨l1,l2,m,fn,by rw [q];exact s,x⟩
theorem cR.So{o:Oper}{a:Act}{v:V}{H':an}(j:∀ c,o.op≠.defer c){l:Nat}{f:FuncId}{tmps:Array Value}{as bd:Code}(g:(execOp a.eval o).run Q X.w=.ok (.round l f tmps as bd) X.w)
  (h:∀ c cs,∃ X' u,Steps Q (lone (Frame.round l f tmps as bd .normal) (c::cs) X.w) (lone (c.finish u) cs X'.w)∧fE Q σ X v H' X' u):cR Q σ X o a v H':=by
 intro b ops i rest k cs ho m q;obtain⟨X',u,h1,h3⟩:=h (b.atR a (.inRegion ops (i::rest)::k)) cs;refine⟨X',u,.head (step_lone_go (fr':=Frame.round l f tmps as bd .normal) (cs':=b.atR a (.inRegion ops (i::rest)::k)::cs) (w':=X.w) ?_) ?_,h3⟩
 ·rw [stepGR_op ho m,Oper.semAt_eq _ _ _ j];simp [stepG.apply,Sem.runT_eq,g,Frame.atR]
 ·have d:=Frame.finish_atR b a ops i rest k u;rw [ho]at d;simp only [ajC]at d;rw [←d];exact h1
theorem nK{x:V}{u:Value}{args:List V}{us:List Value}{c:Callee}{d:List V}(j:bS x args=aa (c,d))(l:VR σ X x u)(q:A2 (VR σ X) args us) :
  match c with
  | .fn f=>∃ fst cap:List Value,u=.func (.func (σ f)) fst.toArray cap.toArray∧A2 (VR σ X) d (fst++us++cap)| .yield b=>d=args∧∃ L,X.cd b=aa L∧u=.func (.yield L.c) #[] #[]:=by
 unfold bS at j;split at j
 ·rename_i f m;cases j;cases l with
  | fn _ _ cap y z=>
   refine⟨[],cap,rfl,q.append (A2.map ⟨y.symm,fun i x u l A=>?_⟩)⟩;exact z i x u l A
 ·rename_i f m;cases j;obtain⟨cap,rfl,g⟩:=l;exact⟨[],cap,rfl,q.append (A2.map (g.ko fun x u h=>CR.TF σ h))⟩
 ·rename_i b;cases j;obtain⟨L,v,_,rfl⟩:=l;exact⟨rfl,L,v,rfl⟩
 ·rename_i f first
  cases j;obtain⟨cap,rfl,g⟩:=l;have s:A2 (VR σ X) (first.map .c) cap:=A2.map (g.ko fun x u h=>CR.TF σ h);exact⟨cap,[],rfl,by simpa using s.append q⟩
 ·simp at j
theorem ib{a:Act}{o:Oper}{cl:Call}{y:Operand}(b:o.op=.call cl)(g:cl.callee=.value y){w:World}{fn:Fn}{fst cap:Array Value}(d:a.eval y=.func fn fst cap) :
  (execOp a.eval o).run Q w=(invoke (.fn fn cap) (fst++cl.args.map a.eval)).run Q w:=by
 simp only [execOp,b,resolve,g,d,Deferred.ofValue,Sem.run_bind,Sem.run_pure,Result.andThen_ok]
theorem eL{f:FuncId}{cap as:Array Value}{w:World}(h:∀ as w,(callFunc f as).run Q w=.ok (.enter f as) w):(invoke (.fn (.func f) cap) as).run Q w=.ok (.enter f (as++cap)) w:=by
 simp only [invoke];exact h _ _
end
section
variable{Q:Program}{σ:Nat→FuncId}{X:Wd}{call:dj}
theorem XZ{n:Nat}{H H':an}(h:fW H H')(v:V):dI n H' v=dI n H v:=by
 cases v with
 | c x=>simp only [dI,mc n h]| a xs=>simp only [dI,eY (fun x _=>mc n h x)]
 | _=>rfl
theorem wB(J:eV Q σ call)(hS:SR Q σ X)(hB:X.B≤X.w.heap.size){f:Nat}{args:List V}{us:List Value}{H H':an}{r':V}(g:eG call f args H=aa (r',H'))(hH:dc H' X.H)(K:A2 (VR σ X) args us)(cs:List Frame) :
  (∀ as w,(callFunc (σ f) as).run Q w=.ok (.enter (σ f) as) w) ∧
  ∃ fr X' u,Steps Q (lone (Frame.enter Q (σ f) us.toArray .normal) cs X.w) (lone fr cs X'.w)∧Leaves Q (σ f) .normal fr u X'.w∧fE Q σ X r' X.H X' u∧X'.cd=X.cd:=by
 unfold eG at g;split at g
 ·simp at g
 ·rename_i q d;split at g
  ·simp at g
  ·rename_i r O b;split at g
   ·simp at g
   ·rename_i a7 L;simp only [AI,OF]at g;obtain⟨rfl,rfl⟩:=g;have z:=oR deep args H;have A:=qC deep args H;obtain⟨s,I,h3⟩:=SR.flag hS;have d:=fF d;have v:A2 (VR σ X.flag.inner) q us:=by
     refine⟨by rw [←d.len];exact K.len,fun i y u N hu=>?_⟩;have hi:i<args.length:=by rw [d.len];exact(IS.1 N).1
     have M:=By hi;have l:dI deep H args[i]=aa y:=d.2 i _ _ M N;have m:=VR.ext' σ I (K.2 i _ _ M hu);rw [←XZ z]at l;have B:ig σ X.flag args[i] u:=by
      cases j:args[i]with
      | c x=>rw [j]at m;exact m| a xs=>rw [j]at m;exact m| top=>trivial| t vs=>rw [j]at l;simp [dI]at l
     exact VR.TF σ (Z_ s h3 hH l (A _ (IT hi)) B X.flag.inner rfl rfl)
    obtain⟨fr,Y,u,S,U,W,E,Z,g6,g7⟩:=J.fn f q [] r O b X.flag.inner us .normal cs rfl (SR.inner s) (ai8 _) v (.inl rfl) (.inl rfl);obtain⟨k1,k2,k3⟩:=SR.outer s hB E g6;refine⟨J.enters f q [] _ b,fr,{ X.flag with F:=Y.iP.F,w:=Y.w },u,S,U,⟨rfl,k1,?_,I.trans (k2.mono (ai8 _)),k3⟩,rfl⟩;rw [←W]at L;exact Ad E L Z _ rfl rfl
theorem my{o:Oper}{f:Nat}{xs:List Arg}{h:Bool}(b:dN Q σ o (.call f xs h)=ae):∃ c,o.op=.call c∧c.callee=.value (.func (σ f))∧TE σ xs c.args=ae:=by
 simp only [dN]at b;split at b
 ·rename_i c j;simp only [dP]at b;split at b
  ·rename_i g d;simp only [BY,beq_iff_eq]at b;exact⟨c,j,by rw [d,b.1],b.2⟩
  ·simp at b
 ·simp at b
theorem wq{o:Oper}{x:Arg}{xs:List Arg}{h:Bool}(b:dN Q σ o (.bT x xs h)=ae):∃ c y,o.op=.call c∧c.callee=.value y∧mA σ x y=ae∧TE σ xs c.args=ae:=by
 simp only [dN]at b;split at b
 ·rename_i c d;simp only [dP]at b;split at b
  ·rename_i y g;simp only [BY]at b;exact⟨c,y,d,g,b.1,b.2⟩
  ·simp at b
 ·simp at b
theorem jZ{o:Oper}{c:Call}(h:o.op=.call c):∀ c,o.op≠.defer c:=fun b e=>by rw [h]at e;cases e
theorem yd(l:eV Q σ call)(q:SR Q σ X)(j:X.B≤X.w.heap.size){a:Act}{aB:T}(B:RR σ X aB a.tmps){o:Oper}{f:Nat}{xs:List Arg}{h:Bool}(F:dN Q σ o (.call f xs h)=ae)
  {H H':an} {v:V} (y:eG call f (dm aB xs) H=aa (v,H')) (m:dc H' X.H):cR Q σ X o a v X.H:=by
 obtain⟨c,x,E,d⟩:=my F;have s:=mn B d;have b:=(wB l q j y m s []).1;refine cR.sJ (jZ x) (f:=σ f) (us:=c.args.map a.eval) ?_ fun cs=>?_
 ·rw [ib x E (fn:=.func (σ f)) (fst:=#[]) (cap:=#[]) rfl,eL b];simp
 ·obtain⟨_,fr,X',u,g,z,A,_⟩:=wB l q j y m s cs;exact⟨fr,X',u,by rw [Array.toArray_toList]at g;exact g,z,A⟩
theorem vK(A:eV Q σ call)(F:SR Q σ X)(z:X.B≤X.w.heap.size){a:Act}{aB:T}(E:RR σ X aB a.tmps){o:Oper}{f:Nat}{xs:List Arg}{h:Bool}(K:dN Q σ o (.call f xs h)=ae)
  {H H':an} {v:V} (L:eG call f (dm aB xs) H=aa (v,H')) (B:dc H' X.H)
  (b:Frame) (ops:Array Oper) (i:Nat) (rest:List Nat) (k:List Item) (cs:List Frame) (g:ops[i]?=aa o) (M:Region.wanted o (yielded ops a.tmps)=ae) :
  ∃ X' u,Steps Q (lone (b.atR a (.inRegion ops (i::rest)::k)) cs X.w) (lone (b.atR (a.put o.dst u) (.inRegion ops rest::k)) cs X'.w)∧fE Q σ X v X.H X' u∧X'.cd=X.cd:=by
 obtain⟨c,s,J,m⟩:=my K;have I:=mn E m;obtain⟨l,fr,X',u,q,⟨N,O,S,U,fn,W,Y⟩,x,y⟩:=wB A F z L B I (b.atR a (.inRegion ops (i::rest)::k)::cs);rw [Array.toArray_toList]at q;have j:(execOp a.eval o).run Q X.w=.ok (.enter (σ f) (c.args.map a.eval)) X.w:=by
  rw [ib s J (fn:=.func (σ f)) (fst:=#[]) (cap:=#[]) rfl,eL l];simp
 refine⟨X',u,.head (step_lone_go (fr':=Frame.enter Q (σ f) (c.args.map a.eval) .normal) (cs':=b.atR a (.inRegion ops (i::rest)::k)::cs) (w':=X.w) ?_) (q.trans (.one ?_)),x,y⟩
 ·rw [stepGR_op g M,Oper.semAt_eq _ _ _ (jZ s)];simp [stepG.apply,Sem.runT_eq,j,Frame.atR]
 ·have d:=Frame.finish_atR b a ops i rest k u;rw [g]at d;simp only [ajC]at d;rw [←d];exact step_leave_returned ⟨N,O,S,fn,by rw [U];exact W,Y⟩
theorem yc(j:eV Q σ call)(z:SR Q σ X)(x:X.B≤X.w.heap.size){a:Act}{aB:T}(y:RR σ X aB a.tmps){o:Oper}{f:Nat}{xs:List Arg}{h:Bool}(E:dN Q σ o (.call f xs h)=ae)
  {H':an} {v:V} (m:call (.fn f) (dm aB xs) X.H=aa (v,H')):cR Q σ X o a v H':=by
 obtain⟨c,l,B,d⟩:=my E;have A:=mn y d;have b:=j.enters _ _ _ _ m;refine cR.sJ (jZ l) (f:=σ f) (us:=c.args.map a.eval) ?_ fun cs=>?_
 ·rw [ib l B (fn:=.func (σ f)) (fst:=#[]) (cap:=#[]) rfl,eL b];simp
 ·obtain⟨fr,X',u,g,q,s⟩:=j.fn _ _ _ _ _ m X _ .normal cs rfl z x A (.inl rfl) (.inl rfl);exact⟨fr,X',u,by rw [Array.toArray_toList]at g;exact g,q,s⟩
theorem Rr(A:eV Q σ call)(M:SR Q σ X)(J:X.B≤X.w.heap.size){a:Act}{aB:T}(K:RR σ X aB a.tmps){o:Oper}{x:Arg}{xs:List Arg}{h:Bool}(Z:dN Q σ o (.bT x xs h)=ae)
  {H':an} {v:V} {c:Callee} {args:List V} (m:bS (x.ev aB) (dm aB xs)=aa (c,args)) (E:call c args X.H=aa (v,H')):cR Q σ X o a v H':=by
 obtain⟨cl,y,s,O,hy,H⟩:=wq Z;have N:=mn K H;have S:=nK m (bN K hy) N;cases c with
 | fn f=>
  obtain⟨fst,cap,j,F⟩:=S;have B:=A.enters _ _ _ _ E;refine cR.sJ (jZ s) (f:=σ f) (us:=fst.toArray++cl.args.map a.eval++cap.toArray) ?_ fun cs=>?_
  ·rw [ib s O j,eL B]
  ·obtain⟨fr,X',u,q,z,W⟩:=A.fn _ _ _ _ _ E X _ .normal cs rfl M J F (.inl rfl) (.inl rfl);refine⟨fr,X',u,?_,z,W⟩;have e:(fst++(cl.args.map a.eval).toList++cap).toArray=fst.toArray++cl.args.map a.eval++cap.toArray:=by simp
   rw [e]at q;exact q
 | yield b=>
  obtain⟨rfl,L,Y,j⟩:=S;have key:=fun c cs=>A.yield b _ _ _ _ E X _ c cs L rfl M J N Y;obtain⟨f,tmps,as,bd,_,_,g,_⟩:=key default [];refine cR.So (jZ s) (l:=L.c) (f:=f) (tmps:=tmps) (as:=as) (bd:=bd) ?_ fun c cs=>?_
  ·rw [ib s O j,Array.empty_append];rw [Array.toArray_toList]at g;exact g
  ·obtain⟨f',I,as',U,X',u,d,q,z⟩:=key c cs;rw [g]at d;simp only [Result.ok.injEq,Next.round.injEq,true_and,and_true]at d;obtain⟨rfl,rfl,rfl,rfl⟩:=d;exact⟨X',u,q,z⟩
end
section
variable{Q:Program}{σ:Nat→FuncId}{X:Wd}{call:dj}
def ru(σ:Nat→FuncId)(X:Wd):eU→Deferred→Prop
 | .er b,d=>∃ L o,X.cd b=aa L∧X.H[b]?=aa (.fg o)∧d = { target:=.collected L.c,args:=#[] }| .fn f args,d=>∃ us cap:Array Value,d = { target:=.fn (.func (σ f)) cap,args:=us }∧A2 (VR σ X) args (us.toList++cap.toList)
theorem ru.dT{X X':Wd}(g:oa X.H.length X X'){x:eU}{d:Deferred}(h:ru σ X x d):ru σ X' x d:=by
 cases x with
 | er b=>
  obtain⟨L,o,h1,h2,h3⟩:=h;obtain⟨blk',h4,h5⟩:=g.bf b (IS.1 h2).1 _ h2;cases blk'<;>simp only at h5;exact⟨L,_,h5 L h1,h4,h3⟩
 | fn f args=>
  obtain⟨us,cap,h1,h2⟩:=h;exact⟨us,cap,h1,h2.ko fun _ _ h=>VR.dT σ g h⟩
def fD(σ:Nat→FuncId)(X:Wd)(b:List eU)(d:List Deferred):Prop:=A2 (ru σ X) b d
theorem ru.ext'{X X':Wd}(b:Ext X.H.length X X'){x:eU}{d:Deferred}(h:ru σ X x d):ru σ X' x d:=ru.dT b.W h
theorem fD.dT{X X':Wd}(b:oa X.H.length X X'){ds:List eU}{ms:List Deferred}(h:fD σ X ds ms):fD σ X' ds ms:=h.ko fun _ _ h=>ru.dT b h
theorem fD.ext'{X X':Wd}(b:Ext X.H.length X X'){ds:List eU}{ms:List Deferred}(h:fD σ X ds ms):fD σ X' ds ms:=h.ko fun _ _ h=>ru.ext' b h
def od(Q:Program)(σ:Nat→FuncId)(X:Wd)(o:Oper)(a:Act)(ok:Frame→Prop)(v:V)(H':an)(d:List eU):Prop:=
 ∀(b:Frame) (ops:Array Oper) (i:Nat) (rest:List Nat) (k:List Item) (cs:List Frame),ops[i]?=aa o→Region.wanted o (yielded ops a.tmps)=ae→iw b cs→ok b →
  ∃(X':Wd) (u:Value) (a':Act),Steps Q (lone (b.atR a (.inRegion ops (i::rest)::k)) cs X.w) (lone (b.atR (a'.put o.dst u) (.inRegion ops rest::k)) cs X'.w)∧fE Q σ X v H' X' u∧a'.tmps=a.tmps∧fD σ X' d a'.defers
theorem cR.Tw{o:Oper}{a:Act}{v:V}{H':an}(h:cR Q σ X o a v H'){ds:List eU}(d:fD σ X ds a.defers){ok:Frame→Prop}:od Q σ X o a ok v H' ds:=by
 intro b ops i rest k cs ho j g _;obtain⟨X',u,h1,h2⟩:=h b ops i rest k cs ho j g;exact⟨X',u,a,h1,h2,rfl,d.ext' h2.2.2.2.1⟩
theorem cR.ahead(j:SR Q σ X){d H':an}(g:dc X.H d){o:Oper}{a:Act}{v:V}(h:cR Q σ { X with H:=d } o a v H'):cR Q σ X o a v H':=by
 intro b ops i rest k cs ho m l;obtain⟨X',u,h1,h2,h3,h4,h5,h6⟩:=h b ops i rest k cs ho m l;exact⟨X',u,h1,h2,h3,h4,(SR.ahead j g).2.trans (h5.mono g.len),h6⟩
def gd(op:cY)(b:Frame):Prop:=b.roundOf=ab∨op.eC=ae
theorem AO(z:SR Q σ X)(y:X.B≤X.w.heap.size){a:Act}{o:Oper}(g:dN Q σ o .recover=ae){u:List eU}(A:fD σ X u a.defers):od Q σ X o a (gd .recover) (.c (.f .nP)) X.H u:=by
 intro b ops i rest k cs x E B q;have q:b.roundOf=ab:=q.elim id fun h=>by simp [cY.eC]at h
 simp only [dN]at g;split at g
 ·rename_i c v;simp only [dP]at g;split at g
  ·rename_i j;have l:(execOp a.eval o).run Q X.w=.ok .recover X.w:=by
    simp [execOp,v,resolve,j,invoke,builtin]
   refine⟨X,.nilIface,a,.one (step_lone_go ?_),⟨rfl,z,cJ.nP,Ext.refl _ _,y⟩,rfl,A⟩;rw [stepGR_op x E,Oper.semAt_eq _ _ _ (jZ v)];have d:=Frame.finish_atR b a ops i rest k .nilIface;rw [x]at d;simp only [ajC]at d;rw [←d];have m:tryRecover (b.atR a (.inRegion ops (i::rest)::k)) cs=ab:=nR.Ie B;have s:(b.atR a (.inRegion ops (i::rest)::k)).roundOf=ab:=q;simp [stepG.apply,Sem.runT_eq,l,m,s]
  ·simp at g
 ·simp at g
theorem RD(B:SR Q σ X)(A:X.B≤X.w.heap.size){a:Act}{aB:T}(v:RR σ X aB a.tmps){o:Oper}{x:Arg}{xs:List Arg}(g:dN Q σ o (.defer x xs)=ae){u:List eU}(F:fD σ X u a.defers)
  {f:Nat} {args:List V} (E:bS (x.ev aB) (dm aB xs)=aa (.fn f,args)):od Q σ X o a (gd (.defer x xs)) .top X.H (.fn f args::u):=by
 intro b ops i rest k cs z I K m;have m:b.roundOf=ab:=m.elim id fun h=>by simp [cY.eC]at h
 simp only [dN]at g;split at g
 ·rename_i c j;split at g
  ·rename_i y J;simp only [BY]at g;have H:=nK E (bN v g.1) (mn v g.2);obtain⟨fst,cap,q,s⟩:=H;have l:(execOp a.eval o).run Q X.w=.ok (.defer { target:=.fn (.func (σ f)) cap.toArray,args:=fst.toArray++c.args.map a.eval }) X.w:=by
    simp [execOp,j,resolve,J,q,Deferred.ofValue]
   refine⟨X,undef,{ a with defers:={ target:=.fn (.func (σ f)) cap.toArray,args:=fst.toArray++c.args.map a.eval }::a.defers },.one (step_lone_go ?_),⟨rfl,B,trivial,Ext.refl _ _,A⟩,rfl,A2.cons ⟨_,_,rfl,by simpa using s⟩ F⟩;rw [stepGR_op z I,m,Oper.semAt_none];have d:=Frame.finish_atR b { a with defers:={ target:=.fn (.func (σ f)) cap.toArray,args:=fst.toArray++c.args.map a.eval }::a.defers } ops i rest k undef;rw [z]at d;simp only [ajC]at d;rw [←d];simp [stepG.apply,Sem.runT_eq,l,Frame.atR]
  ·simp at g
 ·simp at g
theorem oO{o:Oper}{op:cY}(d:dN Q σ o op=ae)(g:∀ x xs,op≠.defer x xs)(j:op≠.bad):∀ c,o.op≠.defer c:=by
 intro c b;cases op
 case pre o sz=>cases o<;>simp [dN,b]at d
 case defer x xs=>exact g _ _ rfl
 case bad=>exact j rfl
 all_goals simp [dN,b]at d
theorem Cr(A:eV Q σ call)(g:SR Q σ X)(l:X.B≤X.w.heap.size){a:Act}{s z:St}(m:X.H=s.heap)(q:RR σ X s.aB a.tmps)(u:fD σ X s.defs a.defers){o:Oper}{op:cY}(j:dN Q σ o op=ae){v:V}
  (h:eu call s op=aa (v,z)):od Q σ X o a (gd op) v z.heap z.defs∧z.aB=s.aB:=by
 by_cases E:(∃ f xs h,op=.call f xs h)∨(∃ x xs h,op=.bT x xs h)∨op=.recover∨∃ x xs,op=.defer x xs
 ·rcases E with⟨f,xs,L,rfl⟩ | ⟨x,xs,L,rfl⟩ | rfl | ⟨x,xs,rfl⟩
  ·simp only [eu,IN,OF]at h;obtain⟨⟨I,H'⟩,d,rfl,rfl⟩:=h;refine⟨cR.Tw ?_ u,rfl⟩;unfold gi at d;split at d
   ·exact yc A g l q j (m▸d)
   ·have y:dc X.H H':=by
     have b:=d;unfold eG at b;split at b
     ·simp at b
     ·split at b
      ·simp at b
      ·split at b
       ·simp at b
       ·simp only [AI,OF]at b;rw [←b.2,m];exact(oR _ _ _).ext
    obtain⟨J,K⟩:=SR.ahead g y;refine cR.ahead g y ?_;exact yd A (X:={ X with H:=H' }) J l (q.ext' σ K) j d (dc.refl _)
  ·simp only [eu]at h;split at h
   ·rename_i c args B;simp only [IN,OF]at h;obtain⟨⟨I,H'⟩,d,rfl,rfl⟩:=h;exact⟨cR.Tw (Rr A g l q j B (m▸d)) u,rfl⟩
   ·simp at h
  ·simp only [eu,AI,OF]at h;obtain⟨rfl,rfl⟩:=h;rw [←m];exact⟨AO g l j u,rfl⟩
  ·simp only [eu]at h;split at h
   ·rename_i f args B;simp only [AI,OF]at h;obtain⟨rfl,rfl⟩:=h;refine⟨?_,rfl⟩;rw [←m];exact RD g l q j u B
   ·simp at h
 ·have F:(bC s.aB s.heap op).map (fun r=>(r.1,{ s with heap:=r.2 }))=aa (v,z):=by
   cases op<;>first | exact h | (exfalso;apply E;simp)
  simp only [IN,OF]at F;obtain⟨⟨I,H'⟩,d,rfl,rfl⟩:=F;refine⟨cR.Tw (cR.agr (oO j ?_ ?_) (ad6 g l q j (m▸d))) u,rfl⟩
  ·rintro x xs rfl;exact E (.inr (.inr (.inr ⟨x,xs,rfl⟩)))
  ·rintro rfl;simp [bC]at d
end
section
variable{Q:Program}{σ:Nat→FuncId}{X:Wd}{call:dj}
structure Fr(Q:Program)(σ:Nat→FuncId)(n:Nat)(X:Wd)(s:St)(a:Act):Prop where
 heap:X.H=s.heap
 sr:SR Q σ X
 b:X.B≤X.w.heap.size
 aB:RR σ X s.aB a.tmps
 defs:fD σ X s.defs a.defers
 size:n≤a.tmps.size
theorem nr{n:Nat}{ops:Array Oper}{o:Oper}{m:aO}(F:jW Q σ n ops o m=ae){aB:T}{tmps:Array Value}(I:∀ p w',m.g=aa (p,w')→VR σ X (aB.get p) (tmps.getD p.toNat undef))(K:n≤tmps.size){w:Bool}(h:wanted aB m.g=aa w) :
  Region.wanted o (yielded ops tmps)=w:=by
 simp only [jW,BY]at F;obtain⟨_,b⟩:=F;unfold Region.wanted;cases x:o.guard with
 | none=>
  rw [x]at b;cases g:m.g with
  | none=>rw [g]at h;simp only [wanted,AI]at h;simpa using h| some q=>rw [g]at b;simp at b
 | some L=>
  obtain⟨j,N⟩:=L;rw [x]at b;cases g:m.g with
  | none=>rw [g]at b;simp at b
  | some q=>
   obtain⟨p,w'⟩:=q;rw [g]at b h;simp only [BY,beq_iff_eq]at b;obtain⟨rfl,b⟩:=b;split at b
   ·rename_i d J;simp only [BY,beq_iff_eq,decide_eq_true_eq]at b;obtain⟨B,A⟩:=b;have l:=I p _ g;rw [B]at l;have v:d<tmps.size:=aj5 A K;have s:tmps.getD d undef=tmps[d]:=by simp [Array.getD,v]
    rw [s]at l;simp only [wanted]at h;simp only [yielded,J,ajC,Array.getElem?_eq_getElem v];split at h
    ·rename_i H z;rw [z]at l;simp only [AI]at h;have y:cJ σ X.F X.w (.bool H) tmps[d]:=l;generalize tmps[d]=u at y;cases y;subst h;simp
    ·rename_i z;rw [z]at l;obtain⟨us,E,M⟩:=l;simp only [AI]at h;subst h;rw [E];simp
    ·simp at h
   ·simp at b
theorem SX{n:Nat}{ops:Array Oper}{o:Oper}{m:aO}(s:jW Q σ n ops o m=ae){aB:T}{a:Act}(q:RR σ X aB a.tmps)(x:n≤a.tmps.size){v:V}{u:Value}(y:VR σ X v u) :
  RR σ X (hZ aB m.dst v) (a.put o.dst u).tmps∧(a.put o.dst u).tmps.size=a.tmps.size∧(a.put o.dst u).defers=a.defers:=by
 simp only [jW,BY]at s;obtain⟨⟨_,b⟩,_⟩:=s;split at b
 ·rename_i d p g j;simp only [BY,beq_iff_eq,decide_eq_true_eq]at b;obtain⟨rfl,l⟩:=b;rw [g,j];exact⟨RR.set σ q (aj5 l x) y,by simp [Act.put],rfl⟩
 ·rename_i g j;rw [g,j];exact⟨q,rfl,rfl⟩
 ·simp at b
theorem VR.undef:VR σ X (.t []) undef:=⟨[],rfl,A2.nil⟩
theorem Ty(S:eV Q σ call){n:Nat}{s E:St}{a:Act}(d:Fr Q σ n X s a){ops:Array Oper}{o:Oper}{q:aO}(j:jW Q σ n ops o q=ae)(h:eT call s q=aa E)
  {b:Frame} {i:Nat} {rest:List Nat} {k:List Item} {cs:List Frame} (y:ops[i]?=aa o) (U:iw b cs) (W:gd q.op b) :
  ∃ X' a',Steps Q (lone (b.atR a (.inRegion ops (i::rest)::k)) cs X.w) (lone (b.atR a' (.inRegion ops rest::k)) cs X'.w)∧Fr Q σ n X' E a'∧Ext X.H.length X X'∧a'.tmps.size=a.tmps.size:=by
 unfold eT at h;split at h
 ·rename_i g;have g:=nr j (fun p w' _=>d.aB p) d.size g;split at h
  ·rename_i v Y M;simp only [AI]at h;subst h;have l:dN Q σ o q.op=ae:=by simp only [jW,BY]at j;exact j.1.1
   obtain⟨N,O⟩:=Cr S d.sr d.b d.heap d.aB d.defs l M;obtain⟨X',u,a',F,⟨H,I,J,B,K⟩,x,L⟩:=N b ops i rest k cs y g U W;obtain⟨z,m,A⟩:=SX j (X:=X') (a:=a') (by rw [x];exact d.aB.ext' σ B) (by rw [x];exact d.size) J;refine⟨X',a'.put o.dst u,F,⟨H,I,K,?_,by rw [A];exact L,by rw [m,x];exact d.size⟩,B,by rw [m,x]⟩;simpa [O]using z
  ·simp at h
 ·rename_i g;have g:=nr j (fun p w' _=>d.aB p) d.size g;simp only [AI]at h;subst h;obtain⟨z,m,A⟩:=SX j d.aB d.size (VR.undef (σ:=σ) (X:=X));refine⟨X,a.put o.dst undef,.one ?_,⟨d.heap,d.sr,d.b,z,by rw [A];exact d.defs,by rw [m];exact d.size⟩,Ext.refl _ _,m⟩;have:=stepR_op_skip (P:=Q) (b:=b) (a:=a) (k:=k) (cs:=cs) (w:=X.w) (ops:=ops) (i:=i) (rest:=rest) (by simp [y,g]);rw [y]at this;exact this
 ·simp at h
theorem Cu(I:eV Q σ call){n:Nat}{ops:Array Oper}{b:Frame}{k:List Item}{cs:List Frame}(J:iw b cs):∀(aos:List aO) (j:Nat) (X:Wd) (s v:St) (a:Act),Fr Q σ n X s a →
  fo (jW Q σ n ops) (ops.toList.drop j) aos=ae→(∀ ao ∈ aos,gd ao.op b)→ff call aos s=aa v →
  ∃ X' a',Steps Q (lone (b.atR a (.inRegion ops ((List.range ops.size).drop j)::k)) cs X.w) (lone (b.atR a' k) cs X'.w)∧Fr Q σ n X' v a'∧Ext X.H.length X X'∧a'.tmps.size=a.tmps.size
 | [],j,X,s,v,a,B,d,_,h=>by
  simp only [ff,AI]at h;subst h;have U:(List.range ops.size).drop j=[]:=by
   cases g:ops.toList.drop j with
   | nil=>
    have:=alp.1 g;simp at this;rw [alp];simpa using this
   | cons x xs=>rw [g]at d;simp [fo]at d
  rw [U];exact⟨X,a,.one stepR_region_end,B,Ext.refl _ _,rfl⟩
 | ao::aos,j,X,s,v,a,B,d,K,h=>by
  cases g:ops.toList.drop j with
  | nil=>rw [g]at d;simp [fo]at d
  | cons o os=>
   rw [g]at d;simp only [fo,BY]at d;have y:j<ops.toList.length:=by
    rcases ajz j ops.toList.length with q | q
    ·exact q
    ·rw [alp.2 q]at g;simp at g
   have l:=ajh y;rw [g]at l;simp only [List.cons.injEq]at l;obtain⟨W,H⟩:=l;simp only [ff]at h;split at h
   ·rename_i s1 q;have m:(List.range ops.size).drop j=j ::(List.range ops.size).drop (j+1):=by
     rw [ajh (by simpa using y)];simp
    rw [m];obtain⟨z,a1,N,O,A,S⟩:=Ty I B d.1 q (b:=b) (i:=j) (rest:=(List.range ops.size).drop (j+1)) (k:=k) (cs:=cs) (by simp at y;simp [y,W]) J (K _ (by simp));obtain⟨L,M,Y,Z,k3,k4⟩:=Cu I J aos (j+1) z s1 v a1 O (by rw [←H];exact d.2) (fun ao h=>K ao (by simp [h])) h;refine⟨L,M,N.trans Y,Z,A.trans (k3.mono ?_),k4.trans S⟩;have:=A.bf;rcases ajz z.H.length X.H.length with u | F
    ·obtain⟨blk',E,_⟩:=A.bf z.H.length u _ (By u);have:=(IS.1 E).1;omega
    ·exact F
   ·simp at h
end
theorem jP{r r':T}{x:Arg}(h:∀ p ∈ x.rd,r.get p=r'.get p):x.ev r=x.ev r':=by
 cases x with
 | r p=>exact h p (by simp [Arg.rd])
 | k v=>rfl
theorem Ih{r r':T}{x:Option Arg}(h:∀ p ∈ oRd x,r.get p=r'.get p):x.map (·.ev r)=x.map (·.ev r'):=by
 cases x with
 | none=>rfl| some x=>simp only [ajK];rw [jP h]
theorem fK{r r':T}{xs:List Arg}(h:∀ p ∈ xs.flatMap Arg.rd,r.get p=r'.get p):dm r xs=dm r' xs:=by
 unfold dm;refine List.map_congr_left fun x d=>jP fun p b=>h p (ak6.2 ⟨x,d,b⟩)
theorem iy{r r':T}:∀(ps:List (Nat × Nat × Arg)) (cs:List C),(∀ p ∈ ps.flatMap (fun q=>q.2.2.rd),r.get p=r'.get p)→eZ r cs ps=eZ r' cs ps
 | [],cs,_=>rfl
 | (d,n,x)::ps,cs,h=>by
  simp only [eZ];rw [jP (x:=x) (r:=r) (r':=r') fun p b=>h p (by simp [b])];split
  ·split
   ·exact iy ps _ fun p b=>h p (by simp only [List.flatMap_cons,aja];exact .inr b)
   ·rfl
  ·rfl
theorem A6{r r':T}{H:an}{op:cY}(h:∀ p ∈ op.rd,r.get p=r'.get p):bC r H op=bC r' H op:=by
 have e:∀ x:Arg,(∀ p ∈ x.rd,p ∈ op.rd)→x.ev r=x.ev r':=fun x A=>jP fun p d=>h p (A p d);have g:∀ x:Option Arg,(∀ p ∈ oRd x,p ∈ op.rd)→x.map (·.ev r)=x.map (·.ev r'):=fun x A=>Ih fun p d=>h p (A p d);cases op
 case build zs ps=>simp only [bC];rw [iy ps _ h]
 case bQ sz zs n ps=>
  simp only [bC];rw [iy (r:=r) (r':=r') (ps.map fun p=>(p.1*sz,sz,p.2)) _ fun p d=>h p (by
   simp only [ak6,ajj]at d;obtain⟨q,⟨q',j,rfl⟩,u⟩:=d;exact ak6.2 ⟨q',j,u⟩)]
 case ji sz zs n ps=>
  simp only [bC];rw [iy (r:=r) (r':=r') (ps.map fun p=>(p.1*sz,sz,p.2)) _ fun p d=>h p (by
   simp only [ak6,ajj]at d;obtain⟨q,⟨q',j,rfl⟩,u⟩:=d;exact ak6.2 ⟨q',j,u⟩)]
 case iQ f xs=>simp only [bC];rw [fK h]
 case pick c a b=>
  simp only [bC];rw [e c (by simp +contextual [cY.rd])];split
  ·rename_i v _;cases v<;>simp [e a (by simp +contextual [cY.rd]),e b (by simp +contextual [cY.rd])]
  ·rfl
 case slice sz x lo hi mx=>simp only [bC];rw [e x (by simp +contextual [cY.rd]),g lo (by simp +contextual [cY.rd]),g hi (by simp +contextual [cY.rd]),g mx (by simp +contextual [cY.rd])]
 case pj n sz x lo hi mx=>simp only [bC];rw [e x (by simp +contextual [cY.rd]),g lo (by simp +contextual [cY.rd]),g hi (by simp +contextual [cY.rd]),g mx (by simp +contextual [cY.rd])]
 case qH x lo hi=>simp only [bC];rw [e x (by simp +contextual [cY.rd]),g lo (by simp +contextual [cY.rd]),g hi (by simp +contextual [cY.rd])]
 case lN B m k v=>simp only [bC];rw [e m (by simp +contextual [cY.rd]),e k (by simp +contextual [cY.rd]),e v (by simp +contextual [cY.rd])]
 case cU x=>simp only [bC];rw [e x (by simp +contextual [cY.rd])]
 case box x=>simp only [bC];rw [e x (by simp +contextual [cY.rd])]
 case load n x=>simp only [bC];rw [e x (by simp +contextual [cY.rd])]
 case dE x=>simp only [bC];rw [e x (by simp +contextual [cY.rd])]
 case un o x=>simp only [bC];rw [e x (by simp +contextual [cY.rd])]
 case jm k x=>simp only [bC];rw [e x (by simp +contextual [cY.rd])]
 case z6 x=>simp only [bC];rw [e x (by simp +contextual [cY.rd])]
 case yv x=>simp only [bC];rw [e x (by simp +contextual [cY.rd])]
 case XK x=>simp only [bC];rw [e x (by simp +contextual [cY.rd])]
 case bB o x=>simp only [bC];rw [e x (by simp +contextual [cY.rd])]
 case field o n x=>simp only [bC];rw [e x (by simp +contextual [cY.rd])]
 case range x=>simp only [bC];rw [e x (by simp +contextual [cY.rd])]
 case next x=>simp only [bC];rw [e x (by simp +contextual [cY.rd])]
 case extract x i=>simp only [bC];rw [e x (by simp +contextual [cY.rd])]
 case len x=>simp only [bC];rw [e x (by simp +contextual [cY.rd])]
 case lens x=>simp only [bC];rw [e x (by simp +contextual [cY.rd])]
 case cap x=>simp only [bC];rw [e x (by simp +contextual [cY.rd])]
 case entry x=>simp only [bC];rw [e x (by simp +contextual [cY.rd])]
 case mz x=>simp only [bC];rw [e x (by simp +contextual [cY.rd])]
 case qE x=>simp only [bC];rw [e x (by simp +contextual [cY.rd])]
 case clear s z x=>simp only [bC];rw [e x (by simp +contextual [cY.rd])]
 case fT lo xs=>simp only [bC];rw [fK h]
 case yW f xs=>simp only [bC];rw [fK h]
 case qP s x y z=>simp only [bC];rw [e x (by simp +contextual [cY.rd]),e y (by simp +contextual [cY.rd]),e z (by simp +contextual [cY.rd])]
 case lU s b z x y=>simp only [bC];rw [e x (by simp +contextual [cY.rd]),e y (by simp +contextual [cY.rd])]
 case store n x y=>simp only [bC];rw [e x (by simp +contextual [cY.rd]),e y (by simp +contextual [cY.rd])]
 case bin o x y=>simp only [bC];rw [e x (by simp +contextual [cY.rd]),e y (by simp +contextual [cY.rd])]
 case eq n k x y=>simp only [bC];rw [e x (by simp +contextual [cY.rd]),e y (by simp +contextual [cY.rd])]
 case bI s a x y=>simp only [bC];rw [e x (by simp +contextual [cY.rd]),e y (by simp +contextual [cY.rd])]
 case idxs x y=>simp only [bC];rw [e x (by simp +contextual [cY.rd]),e y (by simp +contextual [cY.rd])]
 case yF l s n x y=>simp only [bC];rw [e x (by simp +contextual [cY.rd]),e y (by simp +contextual [cY.rd])]
 case append s b x y=>simp only [bC];rw [e x (by simp +contextual [cY.rd]),e y (by simp +contextual [cY.rd])]
 case copy s x y=>simp only [bC];rw [e x (by simp +contextual [cY.rd]),e y (by simp +contextual [cY.rd])]
 case lookup c z x y=>simp only [bC];rw [e x (by simp +contextual [cY.rd]),e y (by simp +contextual [cY.rd])]
 case dD s b z x y=>simp only [bC];rw [e x (by simp +contextual [cY.rd]),e y (by simp +contextual [cY.rd])]
 all_goals rfl
theorem Cs{call:dj}{s:St}{r':T}{op:cY}(h:∀ p ∈ op.rd,s.aB.get p=r'.get p){v:V}{m:St}(b:eu call s op=aa (v,m)):eu call { s with aB:=r' } op=aa (v,{ m with aB:=r' }):=by
 by_cases d:(∃ f xs h,op=.call f xs h)∨(∃ x xs h,op=.bT x xs h)∨op=.recover∨∃ x xs,op=.defer x xs
 ·rcases d with⟨f,xs,u,rfl⟩ | ⟨x,xs,u,rfl⟩ | rfl | ⟨x,xs,rfl⟩
  ·simp only [eu,IN,OF]at b ⊢;obtain⟨q,g,rfl,rfl⟩:=b;rw [fK h]at g;exact⟨q,g,rfl,rfl⟩
  ·simp only [eu]at b ⊢;rw [jP (x:=x) (r:=s.aB) (r':=r') (fun p d=>h p (by simp [cY.rd,d])),fK (xs:=xs) (r:=s.aB) (r':=r') (fun p d=>h p (by simp only [cY.rd,aja];exact .inr d))]at b;split at b
   ·simp only [IN,OF]at b ⊢;obtain⟨q,g,rfl,rfl⟩:=b;exact⟨q,g,rfl,rfl⟩
   ·simp at b
  ·simp only [eu,AI,OF]at b ⊢;obtain⟨rfl,rfl⟩:=b;exact⟨rfl,rfl⟩
  ·simp only [eu]at b ⊢;rw [jP (x:=x) (r:=s.aB) (r':=r') (fun p d=>h p (by simp [cY.rd,d])),fK (xs:=xs) (r:=s.aB) (r':=r') (fun p d=>h p (by simp only [cY.rd,aja];exact .inr d))]at b;split at b
   ·simp only [AI,OF]at b ⊢;obtain⟨rfl,rfl⟩:=b;exact⟨rfl,rfl⟩
   ·simp at b
 ·have j:(bC s.aB s.heap op).map (fun r=>(r.1,{ s with heap:=r.2 }))=aa (v,m):=by
   cases op<;>first | exact b | (exfalso;apply d;simp)
  have l:eu call { s with aB:=r' } op=(bC r' s.heap op).map (fun r=>(r.1,{ s with aB:=r',heap:=r.2 })):=by
   cases op<;>first | rfl | (exfalso;apply d;simp)
  rw [l,←A6 h];simp only [IN,OF]at j ⊢;obtain⟨q,g,rfl,rfl⟩:=j;exact⟨q,g,rfl,rfl⟩
theorem aas{r:T}{op:cY}(b:cls op=.p)(H H':an):bC r H' op=(bC r H op).map fun q=>(q.1,H'):=by
 cases op<;>simp only [cls,reduceCtorEq]at b<;>simp only [bC]
 all_goals first
  | (simp [Function.comp_def];done)
  | (split<;>simp [Function.comp_def];done)
  | (split<;>(first | rfl | (split<;>rfl)))
section
theorem fq{H H':an}(l:dc H H')(b:Nat):H[b]?=ab∨(∃ cs fl g,H[b]?=aa (.box cs fl)∧H'[b]?=aa (.box cs g)) ∨
  (∃ s cs fl g e st,H[b]?=aa (.cE s cs fl e st)∧H'[b]?=aa (.cE s cs g e st))∨∃ bO,H[b]?=aa bO∧H'[b]?=aa bO:=by
 cases m:H[b]? with
 | none=>exact .inl rfl
 | some bO=>
  obtain⟨blk',d,j⟩:=l b _ m;cases bO<;>cases blk'<;>simp only [dn,reduceCtorEq]at j
  ·obtain⟨rfl,_⟩:=j;exact .inr (.inl ⟨_,_,_,rfl,d⟩)
  ·obtain⟨rfl,rfl,_,rfl,rfl⟩:=j;exact .inr (.inr (.inl ⟨_,_,_,_,_,_,rfl,d⟩))
  all_goals (rw [←j]at d;exact .inr (.inr (.inr ⟨_,rfl,d⟩)))
variable{H H':an}
theorem ye(j:dc H H'){x:C}{cs:List C}(h:aC H x=aa cs):aC H' x=aa cs:=by
 cases x with
 | ptr b l q=>
  simp only [aC]at h ⊢;rcases fq j b with e | ⟨cs,fl,g,e,d⟩ | ⟨s,cs,fl,g,m,st,e,d⟩ | ⟨bO,e,d⟩
  ·simp [e]at h
  ·rw [e]at h;rw [d];exact h
  ·rw [e]at h;rw [d];cases st<;>exact h
  ·rw [e]at h;rw [d];exact h
 | f x=>cases x<;>exact h
 | _=>simp [aC]at h
theorem Yu(g:dc H H'){n:Option Nat}{x:V}{v:V}(h:aU H n x=aa v):aU H' n x=aa v:=by
 cases x with
 | c x=>
  simp only [aU,Option.bind_eq_some_iff]at h ⊢;obtain⟨cs,b,d⟩:=h;exact⟨cs,ye g b,d⟩
 | _=>simp [aU]at h
theorem vo(j:dc H H'){x:C}{n:Nat}(h:bg H x=aa n):bg H' x=aa n:=by
 cases x with
 | sl b o l c q sz=>
  simp only [bg]at h ⊢;rcases fq j b with e | ⟨cs,fl,g,e,d⟩ | ⟨s,cs,fl,g,m,st,e,d⟩ | ⟨bO,e,d⟩
  ·simp [e]at h
  all_goals (rw [e]at h;rw [d];exact h)
 | f x=>cases x<;>exact h
 | _=>simp [bg]at h
theorem zx(j:dc H H'){sz:Nat}{x:C}{cs:List C}(h:cH H sz x=aa cs):cH H' sz x=aa cs:=by
 cases x with
 | sl b o l c q s=>
  simp only [cH]at h ⊢;rcases fq j b with e | ⟨cs,fl,g,e,d⟩ | ⟨s,cs,fl,g,m,st,e,d⟩ | ⟨bO,e,d⟩
  ·simp [e]at h
  all_goals (rw [e]at h;rw [d];exact h)
 | f x=>cases x<;>exact h
 | _=>simp [cH]at h
theorem mX(j:dc H H'){k:II}{x:C}{b:Bool}(h:isNil H k x=aa b):isNil H' k x=aa b:=by
 cases k<;>cases x<;>first | exact h | (simp [isNil]at h;done) | skip
 case sl.sl bb o l c q s=>
  simp only [isNil]at h ⊢;rcases fq j bb with e | ⟨cs,fl,g,e,d⟩ | ⟨s,cs,fl,g,m,st,e,d⟩ | ⟨bO,e,d⟩
  ·simp [e]at h
  all_goals (rw [e]at h;rw [d];exact h)
 all_goals (rename_i y;cases y<;>exact h)
theorem XW(d:dc H H'){k:II}{x y:V}{b:Bool}(h:BF H k x y=aa b):BF H' k x y=aa b:=by
 unfold BF at h;split at h
 ·exact h
 ·exact h
 ·exact mX d h
 ·exact mX d h
 ·exact mX d h
 ·exact mX d h
 ·simp at h
theorem AZ(j:dc H H'){sz:Nat}{x:V}{lo hi mx:Option V}{v:V}(h:bG H sz x lo hi mx=aa v):bG H' sz x lo hi mx=aa v:=by
 unfold bG at h;split at h
 ·exact h
 ·exact h
 ·exact h
 ·rename_i b o n cap m s;simp only [bG];rcases fq j b with e | ⟨cs,fl,g,e,d⟩ | ⟨s,cs,fl,g,l,st,e,d⟩ | ⟨bO,e,d⟩
  ·simp [e]at h
  all_goals (rw [e]at h;rw [d];exact h)
 ·simp at h
theorem AY(j:dc H H'){n sz:Nat}{x:V}{lo hi mx:Option V}{v:V}(h:mC H n sz x lo hi mx=aa v):mC H' n sz x lo hi mx=aa v:=by
 unfold mC at h;split at h
 ·rename_i b l q;simp only [mC];rcases fq j b with e | ⟨cs,fl,g,e,d⟩ | ⟨s,cs,fl,g,m,st,e,d⟩ | ⟨bO,e,d⟩
  ·simp [e]at h
  all_goals (rw [e]at h;rw [d];exact h)
 ·exact h
 ·simp at h
theorem yH(m:dc H H'){sz:Nat}{d:Option Nat}{x i:V}{v:V}(h:bz H sz d x i=aa v):bz H' sz d x i=aa v:=by
 unfold bz at h ⊢;split at h
 ·simp at h
 ·split at h
  ·rename_i hi;simp only [hi,if_true];split at h
   ·rename_i b o l c y s;split at h
    ·rename_i q;simp only [q,if_true];rcases fq m b with e | ⟨cs,fl,j,e,g⟩ | ⟨s,cs,fl,j,u,st,e,g⟩ | ⟨bO,e,g⟩
     ·simp [e]at h
     ·rw [e]at h;rw [g];exact h
     ·rw [e]at h;rw [g];cases st<;>exact h
     ·rw [e]at h;rw [g];exact h
    ·simp at h
   ·exact h
   ·exact h
   ·exact h
   ·simp at h
  ·simp at h
theorem yN(l:dc H H'){j:CK}{z:FC}{m k:V}{v:V}(h:gQ H j z m k=aa v):gQ H' j z m k=aa v:=by
 unfold gQ at h;split at h
 ·exact h
 ·rename_i b k;simp only [gQ];rcases fq l b with e | ⟨cs,fl,g,e,d⟩ | ⟨s,cs,fl,g,q,st,e,d⟩ | ⟨bO,e,d⟩
  ·simp [e]at h
  all_goals (rw [e]at h;rw [d];exact h)
 ·simp at h
theorem Hh(d:dc H H'){x v:V}(h:qo H x=aa v):qo H' x=aa v:=by
 cases x with
 | c x=>
  simp only [qo]at h ⊢;split at h
  ·rename_i n g;split at h
   ·rename_i cs b;rw [vo d g,zx d b];exact h
   ·simp at h
  ·simp at h
 | _=>simp [qo]at h
theorem Iw(j:dc H H'){x:C}{n:Nat}(h:kh H x=aa n):kh H' x=aa n:=by
 cases x with
 | sl b o l c q sz=>
  simp only [kh]at h ⊢;rcases fq j b with e | ⟨cs,fl,g,e,d⟩ | ⟨s,cs,fl,g,m,st,e,d⟩ | ⟨bO,e,d⟩
  ·simp [e]at h
  ·rw [e]at h;rw [d];exact h
  ·rw [e]at h;rw [d];cases st<;>exact h
  ·rw [e]at h;rw [d];exact h
 | f x=>cases x<;>exact h
 | _=>simp [kh]at h
theorem YD(l:dc H H'){b:Nat}{d:List (FC × C)}(h:H[b]?=aa (.map d)):H'[b]?=aa (.map d):=by
 obtain⟨blk',j,g⟩:=l b _ h;cases blk'<;>simp only [dn,reduceCtorEq,bZ.map.injEq]at g;subst g;exact j
theorem YG(l:dc H H'){b m s:Nat}{d:Bool}(h:H[b]?=aa (.yU m s d)):H'[b]?=aa (.yU m s d):=by
 obtain⟨blk',j,g⟩:=l b _ h;cases blk'<;>simp only [dn,reduceCtorEq,bZ.yU.injEq]at g;obtain⟨rfl,rfl,rfl⟩:=g;exact j
theorem z7(b:dc H H'){x v:V}(h:nL H x=aa v):nL H' x=aa v:=by
 unfold nL at h;split at h
 ·split at h
  ·rename_i d;split at h
   ·rename_i g;simp only [nL,YG b d,YD b g];exact h
   ·simp at h
  ·simp at h
 ·simp at h
theorem Ct{r:T}{op:cY}(l:cls op=.r)(b:dc H H'){v:V}{j:an}(h:bC r H op=aa (v,j)):j=H∧bC r H' op=aa (v,H'):=by
 cases op<;>first | (simp only [bC,reduceCtorEq]at h;done) | (simp only [cls,reduceCtorEq]at l;done) | simp only [bC]at h ⊢
 case len x=>
  split at h
  ·rename_i y m;split at h
   ·rename_i n g;simp only [AI,OF]at h;obtain⟨rfl,rfl⟩:=h;simp only [vo b g];simp
   ·simp at h
  ·simp at h
 case cap x=>
  split at h
  ·rename_i y m;split at h
   ·rename_i n g;simp only [AI,OF]at h;obtain⟨rfl,rfl⟩:=h;simp only [Iw b g];simp
   ·simp at h
  ·simp at h
 all_goals
  simp only [IN,OF]at h;obtain⟨q,d,rfl,rfl⟩:=h;refine⟨rfl,?_⟩
 case entry=>rw [z7 b d];rfl
 case load=>rw [Yu b d];rfl
 case eq=>rw [XW b d];rfl
 case slice=>rw [AZ b d];rfl
 case pj=>rw [AY b d];rfl
 case bI=>rw [yH b d];rfl
 case lookup=>rw [yN b d];rfl
 case yv=>rw [Hh b d];rfl
theorem aha{r:T}{op:cY}(g:cls op=.a){v:V}{d:an}(h:bC r H op=aa (v,d)):d=H∨∃ bO,d=H++[bO]:=by
 cases op<;>first | (simp only [cls,reduceCtorEq]at g;done) | simp only [bC]at h
 case call=>simp at h
 case alloc zs=>simp only [AI,OF]at h;exact .inr ⟨_,h.2.symm⟩
 case jX=>simp only [AI,OF]at h;exact .inr ⟨_,h.2.symm⟩
 case box x=>
  split at h
  ·simp only [AI,OF]at h;exact .inr ⟨_,h.2.symm⟩
  ·simp at h
 case bQ sz zs n ps=>
  split at h
  ·split at h
   ·simp only [AI,OF]at h;exact .inl h.2.symm
   ·simp at h
  ·simp only [IN,OF]at h;obtain⟨q,j,rfl,rfl⟩:=h;exact .inr ⟨_,rfl⟩
 case dD sz b zs x y=>
  split at h
  ·split at h
   ·split at h
    ·simp only [AI,OF]at h;exact .inl h.2.symm
    ·simp only [AI,OF]at h;exact .inr ⟨_,h.2.symm⟩
   ·simp at h
  ·simp at h
end
section
variable{Q:Program}{σ:Nat→FuncId}{X:Wd}
theorem BH(d:SR Q σ X)(l:X.B≤X.w.heap.size){n:Nat}{cs:List C}{fl:Nat}(s:X.H[n]?=aa (.box cs fl))(u:X.cd n=ab){us:List Value}(h:A2 (CR σ X) cs us)(e:TypeId) :
  ∃ X',X'.w=X.w.alloc (.cells us.toArray e)∧X'.H=X.H∧SR Q σ X'∧Ext X.H.length X X'∧X'.cd n=aa ⟨X.w.heap.size,0⟩∧X'.B≤X'.w.heap.size∧∀ b,b≠n→X'.cd b=X.cd b:=by
 obtain⟨g,j⟩:=SR.fill d l s u (dR.alloc X.w (.cells us.toArray e)) 0 (fun v=>⟨us,kg (dR.alloc _ _),A2.ext' σ v h,fun i _ q=>by
  have:=d.fb _ _ q;simp at this⟩)
 exact⟨{ X with cd:=fun b=>if b=n then aa ⟨X.w.heap.size,0⟩else X.cd b,w:=X.w.alloc (.cells us.toArray e) },rfl,rfl,g,j,by simp,by simp;omega,fun b m=>by simp [m]⟩
def zJ(Q:Program)(σ:Nat→FuncId)(X:Wd)(n:Nat)(v:V)(s:Sem Next)(e:Prop):Prop:=
 ∃ X' u,s.run Q X.w=.ok (.value u) X'.w∧fE Q σ X v X.H X' u∧(∀ b,b≠n→X'.cd b=X.cd b)∧(e→X'.cd=X.cd)
theorem yA(y:SR Q σ X)(x:X.B≤X.w.heap.size){n:Nat}{cs:List C}{fl:Nat}(g:X.H[n]?=aa (.box cs fl))(A:X.cd n=ab){us:List Value}(h:A2 (CR σ X) cs us)(e:TypeId){s:Sem Next}{b:Prop}(z:¬ b)
  (B:s.run Q X.w=.ok (.value (.pointer (aa ⟨X.w.heap.size,0,ab⟩))) (X.w.alloc (.cells us.toArray e))):zJ Q σ X n (.c (.ptr n 0 0)) s b:=by
 obtain⟨X',j,d,l,m,q,u,v⟩:=BH y x g A h e;refine⟨X',_,by rw [j];exact B,⟨d,l,?_,m,u⟩,v,fun h=>absurd h z⟩;exact⟨_,q,by rw [d,g]⟩
theorem BI(A:SR Q σ X)(z:X.B≤X.w.heap.size){n:Nat}{cs:List C}{fl:Nat}(j:X.H[n]?=aa (.box cs fl))(E:X.cd n=ab){us:List Value}(h:A2 (CR σ X) cs us)(e:TypeId){s:Sem Next}{l c sz:Nat}(b:l≤c){d:Prop}(B:¬ d)
  (F:s.run Q X.w=.ok (.value (.slice (aa ⟨X.w.heap.size,0,ab⟩) l c)) (X.w.alloc (.cells us.toArray e))):zJ Q σ X n (.c (.sl n 0 l c 0 sz)) s d:=by
 obtain⟨X',m,g,q,u,v,x,y⟩:=BH A z j E h e;refine⟨X',_,by rw [m];exact F,⟨g,q,?_,u,x⟩,y,fun h=>absurd h B⟩;simp only [VR,ig,CR,fC,g,j];exact⟨_,v,b,rfl⟩
theorem oF{H b:an}{cs:List C}(h:dc (H++[.box cs 0]) b):∃ fl,b[H.length]?=aa (.box cs fl):=by
 obtain⟨blk',g,d⟩:=h H.length (.box cs 0) (by simp);cases blk'<;>simp only [dn,reduceCtorEq]at d;obtain⟨rfl,_⟩:=d;exact⟨_,g⟩
theorem zw{w':World}{o:Obj}(g:SR Q σ X)(d:dR X.w w' o)(q:X.B≤X.w.heap.size):∃ X':Wd,X'.w=w'∧X'.H=X.H∧SR Q σ X'∧Ext X.H.length X X'∧X'.B≤X'.w.heap.size∧X'.cd=X.cd:=by
 have j:Ext X.H.length X { X with w:=w' }:=Ext.one g X.H.length rfl (fun _ _=>Iff.rfl) (fun k m _=>d.zI m)
  (fun L i h=>by rw [SR.pU g]at h;simp at h) (fun h=>absurd h (ak8 _)) (fun _ _ _=>rfl) (fun _ _=>rfl) (fun L h=>.inl ⟨L,h,rfl⟩) (by show _≤w'.heap.size;rw [d.size];omega) d.os d.tape d.output
 refine⟨{ X with w:=w' },rfl,rfl,SR.step Q σ g j X.H.length (fun _ _=>rfl) (fun _ _=>rfl) (fun b L _ l=>d.zI (g.br b L l).2.1)
  (fun _ _ _ _ _ h=>h) (fun L h=>by change X.cd X.H.length=aa L at h;rw [SR.pU g]at h;simp at h) (fun c i h=>?_),j,?_,rfl⟩
 ·have:=g.fb c i h;show c<w'.heap.size;rw [d.size];omega
 ·show X.B≤w'.heap.size;rw [d.size];omega
theorem Yt(M:SR Q σ X)(L:X.B≤X.w.heap.size){a:Act}{aB:T}(hR:RR σ X aB a.tmps){o:Oper}{op:cY}(hc:cls op=.a)(d:dN Q σ o op=ae){H H1:an}{v:V}(h:bC aB H op=aa (v,H1))
  (hH:dc H1 X.H) (W:H1.length≠H.length→X.cd H.length=ab):zJ Q σ X H.length v (execOp a.eval o) (H1.length=H.length):=by
 cases op<;>first | (simp only [cls,reduceCtorEq]at hc;done) | skip
 case call f xs h'=>simp [bC]at h
 case alloc zs=>
  simp only [bC,AI,OF]at h;obtain⟨rfl,rfl⟩:=h;obtain⟨fl,F⟩:=oF hH;simp only [dN]at d;split at d
  ·rename_i t B;obtain⟨z,us,h1,K,h3,_⟩:=eI (σ:=σ) (X:=X) d X.w;refine yA M L F (W (by simp)) h3 t (by simp) ?_;simp only [execOp,B];refine dX ?_;simp [Instr.alloc,h1,newVar,newRow,K]
  ·simp at d
 case jX=>
  simp only [bC,AI,OF]at h;obtain⟨rfl,rfl⟩:=h;have F:X.H[H.length]?=aa (.map []):=by
   obtain⟨blk',hb,hl⟩:=hH H.length (.map []) (by simp);cases blk'<;>simp only [dn,reduceCtorEq,bZ.map.injEq]at hl;subst hl;exact hb
  simp only [dN]at d;split at d
  ·rename_i t B;have W:=W (by simp);obtain⟨h1,K⟩:=SR.fill M L F W (dR.alloc X.w (.map #[] 0)) 0 (fun hx=>⟨[],(dR.alloc _ _).new,A2.nil,by simp⟩);refine⟨{ X with cd:=fun b=>if b=H.length then aa ⟨X.w.heap.size,0⟩else X.cd b,w:=X.w.alloc (.map #[] 0) },.map (aa X.w.heap.size),?_,⟨rfl,h1,⟨⟨X.w.heap.size,0⟩,by simp,⟨[],F⟩,rfl⟩,K,by show X.B≤_;simp;omega⟩,fun b hb=>by simp [hb],fun h=>by simp at h⟩;simp [execOp,B,Instr.makeMap]
  ·simp at d
 case box x=>
  simp only [bC]at h;split at h
  ·rename_i xs i3;simp only [AI,OF]at h;obtain⟨rfl,rfl⟩:=h;obtain⟨fl,F⟩:=oF hH;simp only [dN]at d;split at d
   ·rename_i t y B;obtain⟨us,K,h3⟩:=ou (bN hR d) i3;refine yA M L F (W (by simp)) h3 t (by simp) ?_;simp only [execOp,B];refine dX ?_;simp [Instr.box,newVar,newRow,K]
   ·simp at d
  ·simp at h
 case bQ sz zs n ps=>
  simp only [dN]at d;split at d
  ·rename_i t n' qs B;simp only [BY,beq_iff_eq,decide_eq_true_eq]at d;obtain⟨⟨⟨⟨rfl,s⟩,E⟩,i9⟩,hq⟩:=d;obtain⟨e,hu,E⟩:=gP E;simp only [BY,decide_eq_true_eq]at E;obtain⟨⟨j,hz⟩,i6⟩:=E;obtain⟨z,us,Y,Z,A,_⟩:=eI (σ:=σ) (X:=X) hz X.w;have I:us.length=sz:=by have:=A.len;simp at this;omega
   simp only [bC]at h;split at h
   ·rename_i F;subst F;split at h
    ·rename_i c9;simp only [AI,OF]at h;obtain⟨rfl,rfl⟩:=h;have U:qs.toList=[]:=by
      have:=(eA hq).len;simp only [List.isEmpty_iff]at c9;rw [c9]at this;exact ajk this.symm
     have U:qs=#[]:=by apply Array.ext';simpa using U
     obtain⟨X',h1,K,h3,h4,h5,h6⟩:=zw M (dR.alloc X.w (.cells #[] e)) L;refine⟨X',.slice (aa ⟨X.w.heap.size,0,ab⟩) 0 0,?_,⟨K,h3,cJ.es _,h4,h5⟩,fun b _=>by rw [h6],fun _=>h6⟩;rw [h1];simp only [execOp,B];refine dX ?_;simp [Instr.buildSlice,aY hu,cV j,U,Instr.fill,newRow,show Array.range 0=(#[]:Array Nat) from rfl]
    ·simp at h
   ·rename_i F;simp only [IN,OF]at h;obtain⟨cs,f8,rfl,rfl⟩:=h;obtain⟨fl,O⟩:=oF hH;obtain⟨j9,h5,h6⟩:=mU (place:=fun i=>aa (i*sz,sz)) (ps:=qs.toList) hR (qs:=ps.map fun p=>(p.1*sz,sz,p.2)) (A2.map ((eA hq).ko fun q p S=>by
     simp only [BY,beq_iff_eq]at S;exact⟨by rw [S.1],S.2⟩)) (iT A n') f8
    refine BI M L O (W (by simp)) h6 e (ai8 _) (by simp) ?_;simp only [execOp,B];refine dX ?_;have f_:n'*sz≠0:=by
     intro h0;rcases alc.1 h0 with h0 | h0<;>omega
    have e_:=ie us n' (by omega);rw [I]at e_;simp only [Instr.buildSlice,Sem.run_bind,aY hu,cV j,Result.andThen_ok,aR (show¬ n'*sz>2 ^ 24 by omega),Sem.run_ite,aR f_,Y,Sem.run_pure,Z];simp only [Array.toList_map];rw [e_];simp [h5,newRow]
  ·simp at d
 case dD sz bytes zs x y=>
  simp only [dN]at d;split at d
  ·rename_i t x' y' B;simp only [BY,decide_eq_true_eq]at d;obtain⟨⟨⟨hx,hy⟩,E⟩,i8⟩:=d;have hx:=bN hR hx;have hy:=bN hR hy;obtain⟨e,hu,E⟩:=gP E;simp only [BY]at E;obtain⟨⟨j,f7⟩,hz⟩:=E;obtain⟨z,us,Y,Z,A,j8,j3,j4⟩:=eI (σ:=σ) (X:=X) hz X.w;obtain⟨i_,a7,a8⟩:=wF f7 X.w;simp only [bC]at h;split at h
   ·rename_i l c hl hc;obtain⟨kl,h_⟩:=iv hx hl;obtain⟨kc,i4⟩:=iv hy hc;split at h
    ·rename_i N;obtain⟨h0,j7,u,i6⟩:=N;unfold cO at u;simp only [BY,decide_eq_true_eq]at u;have I:us.length=sz:=by have:=A.len;simp at this;omega
     have d_:=lI (n:=l) h0 (by omega);have d9:=lI (n:=c) (by omega) (by omega);have i7:c.toNat*bytes≤2 ^ 48:=by
      have:c.toNat*bytes≤(2*c.toNat+768)*bytes:=ajH _ (by omega);omega
     have s:¬ ((bytes:Int)*c>2 ^ 48):=by
      have e1:(bytes:Int)*c=((c.toNat*bytes:Nat):Int):=by
       rw [akZ,aj1];congr 1;omega
      rw [e1];omega
     have c_:((Array.range (c.toNat*sz)).map fun i=>us.toArray[i % us.toArray.size]!)=(cB c.toNat us).toArray:=by
      have:=ie us c.toNat (by omega);rwa [I]at this
     have run:(execOp a.eval o).run Q X.w=.ok (.value (.slice (aa ⟨X.w.heap.size,0,ab⟩) l.toNat c.toNat)) (X.w.alloc (.cells (cB c.toNat us).toArray e)):=by
      simp only [execOp,B];refine dX ?_;rw [h_,i4];have a_:¬ c<0:=by omega
      have b_:¬ l<0:=by omega
      have J:¬ l>c:=by omega
      by_cases m:c.toNat*sz=0
      ·have g_:cB c.toNat us=[]:=ajk (by rw [ke,I];exact m);have g:((decide (c<0)||decide ((bytes:Int)*c>2 ^ 48))||decide (l<0)||decide (l>c))=ag:=by rw [decide_eq_false a_,decide_eq_false b_,decide_eq_false J,decide_eq_false s];rfl
       simp only [Instr.makeSlice,Sem.run_bind,aY hu,asInt,asIntOf,Sem.run_pure,Result.andThen_ok,a7,a8,d_,d9,run_askRoom,cV j];simp only [g,ajo,if_false,Sem.run_ite,ba m,Sem.run_bind,Result.andThen_ok,Sem.run_pure,run_askRoom,cV j,newRow,run_newObj];rw [m,g_,show(Array.map (fun x=>(#[]:Array Value)[x % (#[]:Array Value).size]!) (Array.range 0))=#[] from by simp [show Array.range 0=(#[]:Array Nat) from rfl]];rfl
      ·simp only [Instr.makeSlice,Sem.run_bind,aY hu,asInt,asIntOf,Sem.run_pure,Result.andThen_ok,a7,a8,d_,d9,run_askRoom,cV j];have g:((decide (c<0)||decide ((bytes:Int)*c>2 ^ 48))||decide (l<0)||decide (l>c))=ag:=by rw [decide_eq_false a_,decide_eq_false b_,decide_eq_false J,decide_eq_false s];rfl
       simp only [g,ajo,if_false,Sem.run_ite,aR m,Sem.run_bind,Y,Z,Result.andThen_ok,Sem.run_pure,run_askRoom,cV j,c_,newRow,run_newObj];rfl
     split at h
     ·rename_i m;subst m;simp only [AI,OF]at h;obtain⟨rfl,rfl⟩:=h;have:l=0:=by omega
      subst this;obtain⟨X',g1,g2,g3,g4,g5,g6⟩:=zw M (dR.alloc X.w (.cells (cB (0:Int).toNat us).toArray e)) L;exact⟨X',_,by rw [g1];exact run,⟨g2,g3,cJ.es _,g4,g5⟩,fun b _=>by rw [g6],fun _=>g6⟩
     ·simp only [AI,OF]at h;obtain⟨rfl,rfl⟩:=h;obtain⟨fl,O⟩:=oF hH;exact BI M L O (W (by simp)) (iT A c.toNat) e (by omega) (by simp) run
    ·simp at h
   ·simp at h
  ·simp at d
end
theorem Au{b:List Nat}{o:Oper}{i:Nat}:(mq b o).testBit i=ae↔∃ e ∈ o.after.toList,Region.binds .any e=ae∧(e.on=i∨(b.getD e.on 0).testBit i=ae):=by
 unfold mq;have key:∀(l:List Edge) (s:Nat),(l.foldl (fun s e=>if Region.binds .any e then s ||| 2 ^ e.on ||| b.getD e.on 0 else s) s).testBit i=ae ↔
   s.testBit i=ae∨∃ e ∈ l,Region.binds .any e=ae∧(e.on=i∨(b.getD e.on 0).testBit i=ae):=by
  intro l;induction l with
  | nil=>intro s;simp
  | cons e l g=>
   intro s;simp only [akP,g,ajB,exists_eq_or_imp];by_cases d:Region.binds .any e=ae
   ·simp only [d,if_true,Nat.testBit_or,Bool.or_eq_true,Nat.testBit_two_pow,decide_eq_true_eq,true_and,or_assoc]
   ·simp [d]
 rw [key];simp
theorem uR:∀(os:List Oper) (b:List Nat),(dx os b).length=b.length+os.length
 | [],b=>by simp [dx]
 | o::os,b=>by rw [dx,uR];simp;omega
theorem pP:∀(os:List Oper) (b:List Nat) (k:Nat),k<b.length→(dx os b)[k]?=b[k]?
 | [],b,k,_=>rfl
 | o::os,b,k,h=>by
  rw [dx,pP os _ k (by simp;omega),AT h]
theorem uS:∀(os:List Oper) (b:List Nat) (t:Nat) (o:Oper),os[t]?=aa o→(dx os b)[b.length+t]?=aa (mq ((dx os b).take (b.length+t)) o)
 | [],b,t,o,h=>by simp at h
 | o'::os,b,0,o,h=>by
  simp only [akJ,AI]at h;subst h;have g:∀ k,k<b.length→(dx os (b++[mq b o']))[k]?=b[k]?:=fun k j=>by rw [pP os _ k (by simp;omega),AT j]
  have d:(dx os (b++[mq b o'])).take b.length=b:=by
   apply List.ext_getElem?;intro k;rw [ajO];split
   ·rename_i j;exact g k j
   ·rename_i j;rw [akG (by omega)]
  rw [dx,Nat.add_zero,d,pP os _ _ (by simp)];simp
 | o'::os,b,t+1,o,h=>by
  simp only [akY]at h;have:=uS os (b++[mq b o']) t o h;rw [dx];rw [show b.length+(t+1)=(b++[mq b o']).length+t by simp;omega];exact this
theorem Bt{ops:List Oper}{i j:Nat}{o:Oper}(l:ops[j]?=aa o) :
  wQ (dx ops []) i j=ae↔∃ e ∈ o.after.toList,Region.binds .any e=ae∧(e.on=i∨(e.on<j∧wQ (dx ops []) i e.on=ae)):=by
 have h:=uS ops [] j o l;simp only [akC,ajX]at h;unfold wQ;rw [akM,h,Option.getD_some,Au];have g:∀ k,((dx ops []).take j).getD k 0=if k<j then(dx ops []).getD k 0 else 0:=by
  intro k;simp only [akM,ajO];split<;>simp
 constructor
 ·rintro⟨e,d,b,h⟩;refine⟨e,d,b,h.imp id fun h=>?_⟩;rw [g]at h;split at h
  ·rename_i m;exact⟨m,h⟩
  ·simp at h
 ·rintro⟨e,d,b,h⟩;refine⟨e,d,b,h.imp id fun h=>?_⟩;rw [g,ba h.1];exact h.2
def pG(ops:List Oper)(D:Nat→Prop):Prop:=∀ j o,D j→ops[j]?=aa o→∀ e ∈ o.after.toList,Region.binds .any e=ae→D e.on
theorem pG.below{ops:List Oper}{D:Nat→Prop}(h:pG ops D){i:Nat}:∀(j:Nat),D j→wQ (dx ops []) i j=ae→D i:=by
 intro j;induction j using Nat.strongRecOn with
 | ind j l=>
  intro g b;cases ho:ops[j]? with
  | none=>
   exfalso;unfold Km.wQ at b;have:(dx ops []).length≤j:=by rw [uR];simpa using akF.1 ho
   rw [akM,akG this]at b;simp at b
  | some o=>
   obtain⟨e,d,hb,h1 | ⟨h1,h2⟩⟩:=(Bt ho).1 b
   ·exact h1▸h j o g ho e d hb
   ·exact l e.on h1 (h j o g ho e d hb) h2
theorem pG.ready{ops:List Oper}{D:Nat→Prop}(h:pG ops D){i j:Nat}{o:Oper}(ho:ops[j]?=aa o)(d:∀ e ∈ o.after.toList,Region.binds .any e=ae→D e.on)(g:wQ (dx ops []) i j=ae):D i:=by
 obtain⟨e,b,hb,h1 | ⟨h1,h2⟩⟩:=(Bt ho).1 g
 ·exact h1▸d e b hb
 ·exact h.below e.on (d e b hb) h2
def BQ(aos:List aO)(j:Nat):Prop:=∃ y,aos[j]?=aa y∧cls y.op=.w
theorem mr{aos:List aO}{j:Nat}:j ∈ lG aos↔BQ aos j:=by
 unfold lG BQ;rw [List.mem_filter,List.mem_range];constructor
 ·rintro⟨_,h⟩;split at h
  ·rename_i y b;exact⟨y,b,by simpa using h⟩
  ·simp at h
 ·rintro⟨y,b,d⟩;exact⟨(IS.1 b).1,by simp [b,d]⟩
theorem mI{g:Type}(p:g→Bool):∀(l:List g),(∀ k,k<(l.takeWhile p).length→∃ y,l[k]?=aa y∧p y=ae)∧((l.takeWhile p).length=l.length∨∃ y,l[(l.takeWhile p).length]?=aa y∧p y=ag)
 | []=>by simp
 | x::l=>by
  by_cases d:p x=ae
  ·rw [List.takeWhile_cons_of_pos d];obtain⟨j,b⟩:=mI p l;refine⟨fun k m=>?_,?_⟩
   ·cases k with
    | zero=>exact⟨x,rfl,d⟩| succ k=>exact j k (by simpa using m)
   ·rcases b with b | b
    ·exact .inl (by simp [b])
    ·exact .inr (by simpa using b)
  ·rw [List.takeWhile_cons_of_neg d];exact⟨by simp,.inr ⟨x,rfl,by simpa using d⟩⟩
theorem nT{aos:List aO}{i:Nat}(hi:i≤aos.length):i≤phase aos i∧phase aos i≤aos.length∧(phase aos i=aos.length∨BQ aos (phase aos i))∧∀ j,i≤j→j<phase aos i→¬ BQ aos j:=by
 unfold phase;obtain⟨s,g⟩:=mI (fun y:aO=>decide (cls y.op≠.w)) (aos.drop i);have q:((aos.drop i).takeWhile fun y=>decide (cls y.op≠.w)).length≤(aos.drop i).length:=by
  rcases ajz (aos.drop i).length ((aos.drop i).takeWhile fun y=>decide (cls y.op≠.w)).length with h | h
  ·obtain⟨y,b,_⟩:=s _ h;have:=(IS.1 b).1;omega
  ·exact h
 simp only [ajm]at q g;refine⟨by omega,by omega,?_,fun j v u=>?_⟩
 ·rcases g with g | ⟨y,b,l⟩
  ·exact .inl (by omega)
  ·rw [ajv]at b;exact .inr ⟨y,b,by simpa using l⟩
 ·obtain⟨y,b,l⟩:=s (j-i) (by omega);rw [ajv,show i+(j-i)=j by omega]at b;rintro⟨x,d,m⟩;rw [b]at d;cases d;simp [m]at l
structure Ord(ops:List Oper)(aos:List aO)(iF:List (Nat × Nat)):Prop where
 back:∀ j o,j<aos.length→ops[j]?=aa o→∀ e ∈ o.after.toList,Region.binds .any e=ae→e.on<j
 two:∀ i j x y,i<j→aos[i]?=aa x→aos[j]?=aa y→wQ (dx ops []) i j=ae∨(x.apart y=ae∧(rG x y=ae∨(j=jR (dx ops []) aos∧cls x.op=.w)))
 ear:∀ y,aos[jR (dx ops []) aos]?=aa y→(∃ zs,y.op=.alloc zs)∧y.g=ab∧∃ p,y.dst=aa p∧∀ i z,aos[i]?=aa z→p ∈ z.rd→∀ e,BQ aos e→e<jR (dx ops []) aos→wQ (dx ops []) e i=ae
 rd:∀ i x e,aos[i]?=aa x→cls x.op=.r→BQ aos e∨e=aos.length→yR (dx ops []) aos i e=ae→e=phase aos i∨(i,e) ∈ iF
theorem Ii{ops:List Oper}{aos:List aO}{iF:List (Nat × Nat)}(h:Sr ops aos iF=ae):Ord ops aos iF:=by
 simp only [Sr,BY]at h;obtain⟨⟨⟨A,B⟩,g⟩,E⟩:=h;refine⟨fun j o L N e b J=>?_,fun i j x y s m q=>?_,fun y q=>?_,fun i x e m K b M=>?_⟩
 ·rw [aji]at A;have d:(o,j) ∈ ops.zip (List.range aos.length):=by
   refine List.mem_of_getElem? (i:=j) ?_;rw [List.getElem?_zip_eq_some];exact⟨N,by simp [L]⟩
  have:=A _ d;rw [aji]at this;simpa [J]using this e b
 ·rw [aji]at B;have:=B j (by simpa using (IS.1 q).1);rw [aji]at this;have:=this i (by simpa using s);rw [m,q]at this;simpa using this
 ·unfold BD at g;rw [q]at g;simp only [BY,Option.isNone_iff_eq_none]at g;obtain⟨⟨I,F⟩,l⟩:=g;refine⟨?_,I,?_⟩
  ·split at F
   ·exact⟨_,by assumption⟩
   ·simp at F
  ·split at l
   ·rename_i p O;refine⟨p,O,fun i z H v e b u=>?_⟩;rw [aji]at l;have:=l i (by simpa using (IS.1 H).1);rw [H]at this;simp only [Bool.or_eq_true,Bool.not_eq_true',List.contains_eq_mem,decide_eq_false_iff_not,aji]at this;rcases this with h | h
    ·exact absurd v h
    ·have:=h e (mr.2 b);simpa [u]using this
   ·simp at l
 ·rw [aji]at E;have:=E i (by simpa using (IS.1 m).1);rw [m]at this;simp only [K,if_true]at this;rw [aji]at this;have:=this e (by
   rw [aja];rcases b with b | b
   ·exact .inl (mr.2 b)
   ·exact .inr (by simp [b]))
  simpa [M]using this
section
variable{Q:Program}{σ:Nat→FuncId}{X:Wd}{call:dj}
theorem Ext.len{X X':Wd}(h:Ext X.H.length X X'):X.H.length≤X'.H.length:=by
 rcases ajz X'.H.length X.H.length with b | g
 ·obtain⟨blk',d,_⟩:=h.bf X'.H.length b _ (By b);have:=(IS.1 d).1;omega
 ·exact g
theorem vA{s b:St}{op:cY}{v:V}(h:eu call s op=aa (v,b)):b.aB=s.aB:=by
 have:=Cs (r':=s.aB) (fun _ _=>rfl) h;rw [show({ s with aB:=s.aB }:St)=s from rfl,h]at this;simp only [AI,OF,true_and]at this;rw [this]
theorem A7{s b:St}{y:aO}(h:eT call s y=aa b):∃ v,b.aB=hZ s.aB y.dst v:=by
 unfold eT at h;split at h
 ·split at h
  ·rename_i v g d;cases h;exact⟨v,by rw [vA d]⟩
  ·simp at h
 ·cases h;exact⟨_,rfl⟩
 ·simp at h
theorem sT{aB:T}{d:Option P}{v:V}{p:P}:(hZ aB d v).get p=if d=aa p then v else aB.get p:=by
 cases d with
 | none=>simp [hZ]| some q=>simp only [hZ,T.oE,AI]
theorem nX{s l:St}{y:aO}(g:cls y.op≠.w)(h:eT call s y=aa l):dc s.heap l.heap∧l.defs=s.defs:=by
 unfold eT at h;split at h
 ·split at h
  ·rename_i v z b;cases h;by_cases j:(∃ f xs h,y.op=.call f xs h)∨(∃ x xs h,y.op=.bT x xs h)∨y.op=.recover∨∃ x xs,y.op=.defer x xs
   ·rcases j with⟨f,xs,q,e⟩ | ⟨x,xs,q,e⟩ | e | ⟨x,xs,e⟩
    ·rw [e]at b g;cases q
     ·simp only [eu,gi,ajo,if_false,IN,OF]at b;obtain⟨⟨A,H'⟩,b,rfl,rfl⟩:=b;refine⟨?_,rfl⟩;unfold eG at b;split at b
      ·simp at b
      ·split at b
       ·simp at b
       ·split at b
        ·simp at b
        ·simp only [AI,OF]at b;show dc s.heap H';rw [←b.2];exact(oR _ _ _).ext
     ·exact absurd rfl g
    ·rw [e]at g;exact absurd rfl g
    ·rw [e]at g;exact absurd rfl g
    ·rw [e]at g;exact absurd rfl g
   ·have u:(bC s.aB s.heap y.op).map (fun r=>(r.1,{ s with heap:=r.2 }))=aa (v,z):=by
     generalize y.op=op at b j;cases op<;>first | exact b | (exfalso;apply j;simp)
    simp only [IN,OF]at u;obtain⟨⟨A,H'⟩,m,rfl,rfl⟩:=u;clear b;have b:=m;clear m;refine⟨?_,rfl⟩;show dc s.heap H';cases d:cls y.op with
    | p=>
     have:=aas (r:=s.aB) d s.heap s.heap;rw [b]at this;simp only [ajK,AI,OF]at this;rw [this.2];exact dc.refl _
    | r=>rw [(Ct d (dc.refl _) b).1];exact dc.refl _
    | a=>
     rcases aha d b with e | ⟨cs,e⟩
     ·rw [e];exact dc.refl _
     ·rw [e];exact dc.append _ _
    | c=>
     generalize y.op=op at b d;cases op<;>first | (simp only [cls,reduceCtorEq]at d;done) | (simp [bC]at b;done)
    | w=>exact absurd d g
  ·simp at h
 ·cases h;exact⟨dc.refl _,rfl⟩
 ·simp at h
def gF(aB:T)(ps:List P):T:=ps.foldl (fun t p=>t.set p (aB.get p)) .e
theorem sU(aB:T)(ps:List P)(p:P):(gF aB ps).get p=if p ∈ ps then aB.get p else .top:=by
 have key:∀(ps:List P) (t:T),(ps.foldl (fun t p=>t.set p (aB.get p)) t).get p=if p ∈ ps then aB.get p else t.get p:=by
  intro ps;induction ps with
  | nil=>intro t;simp
  | cons q ps g=>
   intro t;simp only [akP,g,T.oE,ajB];by_cases b:p ∈ ps
   ·simp [b]
   ·by_cases d:q=p
    ·subst d;simp [b]
    ·have:¬ p=q:=fun e=>d e.symm;simp [b,d,this]
 have:=key ps .e;unfold gF;rw [this];rfl
structure iW(Q:Program)(σ:Nat→FuncId)(call:dj)(n:Nat)(ops:Array Oper)(aos:List aO)(iF:List (Nat × Nat))(st:Nat→St):Prop where
 acr:fo (jW Q σ n ops) ops.toList aos=ae
 ord:Ord ops.toList aos iF
 step:∀ i y,aos[i]?=aa y→eT call (st i) y=aa (st (i+1))
 ah':∀ i e y,(i,e) ∈ iF→aos[i]?=aa y→wanted (st i).aB y.g=aa ae→∃ v H1 H2,bC (st i).aB (st i).heap y.op=aa (v,H1)∧bC (st i).aB (st e).heap y.op=aa (v,H2)
structure jt(σ:Nat→FuncId)(X:Wd)(c:Nat)(zs:List FC):Prop where
 bO:∃ us t,X.w.heap[c]?=aa (.cells us.toArray t (0,0))∧A2 (CR σ X) (zs.map .f) us
 b:X.B≤c
 uF:∀ b L,X.cd b=aa L→L.c≠c
 f:∀ i,¬ X.F c i
theorem jt.lt{c:Nat}{zs:List FC}(h:jt σ X c zs):c<X.w.heap.size:=by
 obtain⟨us,t,h1,_⟩:=h.bO;exact(Array.getElem?_eq_some_iff.1 h1).1
theorem jt.ext{X X':Wd}(d:Ext X.H.length X X'){c:Nat}{zs:List FC}(h:jt σ X c zs):jt σ X' c zs:=by
 have j:=h.lt;obtain⟨us,t,h1,h2⟩:=h.bO;refine⟨⟨us,t,by rw [d.frame c j h.uF];exact h1,A2.ext' σ d h2⟩,by rw [d.B];exact h.b,fun b L hb=>?_,fun i hi=>?_⟩
 ·rcases d.uF b L hb with⟨b0,L0,g1,g2⟩ | g1
  ·rw [←g2];exact h.uF b0 L0 g1
  ·omega
 ·rcases d.oc c i hi with g | g | ⟨b,L,g1,g2⟩
  ·exact h.f i g
  ·omega
  ·exact h.uF b L g1 g2
theorem SR.assign(q:SR Q σ X){n c:Nat}{zs:List FC}{fl:Nat}(g:jt σ X c zs)(v:X.H[n]?=aa (.box (zs.map .f) fl))(x:X.cd n=ab) :
  SR Q σ { X with cd:=fun b=>if b=n then aa ⟨c,0⟩else X.cd b }∧oa X.H.length X { X with cd:=fun b=>if b=n then aa ⟨c,0⟩else X.cd b }∧VR σ { X with cd:=fun b=>if b=n then aa ⟨c,0⟩else X.cd b } (.c (.ptr n 0 0)) (.pointer (aa ⟨c,0,ab⟩)):=by
 have s:oa X.H.length X { X with cd:=fun b=>if b=n then aa ⟨c,0⟩else X.cd b }:=by
  refine⟨fun _ _ h=>h,fun _ _ _=>rfl,fun b _ bO hb=>⟨bO,hb,?_⟩⟩;have:∀ L,X.cd b=aa L→(if b=n then aa (⟨c,0⟩:Loc)else X.cd b)=aa L:=fun L m=>by
   by_cases e:b=n
   ·subst e;rw [x]at m;simp at m
   ·rw [aR e];exact m
  cases bO<;>simp only [true_and,and_self]<;>first | exact this | (exact .inl ⟨trivial,trivial,this⟩) | (exact⟨rfl,.inl ⟨rfl,rfl,this⟩⟩) | (exact .inl this) | simpa using this
 obtain⟨us,t,h1,h2⟩:=g.bO;refine⟨⟨fun b L hb=>?_,fun b l L u hb d hc=>?_,q.fb⟩,s,⟨⟨c,0⟩,by simp,by rw [v]⟩⟩
 ·by_cases e:b=n
  ·subst e;simp only [if_true,AI]at hb;subst hb;exact⟨g.b,g.lt,_,v,us,⟨t,(0,0),h1,fun i _=>by simp⟩,A2.dT σ s h2,fun i _=>g.f i⟩
  ·simp only [e,if_false]at hb;obtain⟨g1,g2,bO,g3,g4⟩:=q.br b L hb;exact⟨g1,g2,bO,g3,BR.oB Q σ s rfl (fun _ h=>h) g4⟩
 ·simp only at hb d;by_cases e:b=n<;>by_cases j:l=n
  ·rw [e,j]
  ·rw [ba e]at hb;rw [aR j]at d;cases hb;exact absurd hc.symm (g.uF l u d)
  ·rw [aR e]at hb;rw [ba j]at d;cases d;exact absurd hc (g.uF b L hb)
  ·rw [aR e]at hb;rw [aR j]at d;exact q.inj b l L u hb d hc
abbrev eJ(ops:Array Oper)(aos:List aO):Nat:=jR (dx ops.toList []) aos
def ah6(σ:Nat→FuncId)(X0:Wd)(ops:Array Oper)(aos:List aO)(E:Nat)(X:Wd)(a:Act)(p:P)(K:Nat):Prop:=
 ∃ y zs c,K=eJ ops aos+1∧E≤eJ ops aos∧aos[eJ ops aos]?=aa y∧y.dst=aa p∧y.op=.alloc zs∧a.tmps.getD p.toNat undef=.pointer (aa ⟨c,0,ab⟩)∧X0.w.heap.size≤c∧jt σ X c zs
structure Inv(Q:Program)(σ:Nat→FuncId)(X0:Wd)(n:Nat)(ops:Array Oper)(aos:List aO)(st:Nat→St)(D:Nat→Prop)(E:Nat)(X:Wd)(a:Act):Prop where
 closed:pG ops.toList D
 dlt:∀ j,D j→j<aos.length
 eN:E≤aos.length
 eW:E=aos.length∨BQ aos E
 eD:¬ D E
 wD:∀ j,BQ aos j→j<E→D j
 heap:X.H=(st E).heap
 ext:Ext X0.H.length X0 X
 sr:SR Q σ X
 b:X.B≤X.w.heap.size
 defs:fD σ X (st E).defs a.defers
 size:n≤a.tmps.size
 Te:∀ p,∃ K,K≤aos.length∧(VR σ X ((st K).aB.get p) (a.tmps.getD p.toNat undef)∨ah6 σ X0 ops aos E X a p K)∧∀ j y,aos[j]?=aa y→y.dst=aa p→(j<K↔D j)
 uC:∀ j y,j<E→¬ D j→aos[j]?=aa y→cls y.op=.a→(st (j+1)).heap.length≠(st j).heap.length→X.cd (st j).heap.length=ab
section
variable{n:Nat}{ops:Array Oper}{aos:List aO}{iF:List (Nat × Nat)}{st:Nat→St}
theorem iW.lz(R:iW Q σ call n ops aos iF st){p:P}{lo:Nat}:∀(hi:Nat),lo≤hi→hi≤aos.length→(∀ j y,lo≤j→j<hi→aos[j]?=aa y→y.dst≠aa p)→(st lo).aB.get p=(st hi).aB.get p
 | 0,h,_,_=>by rw [Nat.le_zero.1 h]
 | hi+1,h,g,b=>by
  rcases ajz hi lo with h1 | h1
  ·rw [show lo=hi+1 by omega]
  ·rw [iW.lz R hi h1 (by omega) fun j y h2 h3=>b j y h2 (by omega)];have hy:=By (show hi<aos.length by omega);obtain⟨v,d⟩:=A7 (R.step hi _ hy);rw [d,sT,aR (b hi _ h1 (by omega) hy)]
theorem iW.cT(R:iW Q σ call n ops aos iF st){lo:Nat}:∀(hi:Nat),lo≤hi→hi≤aos.length→(∀ j,lo≤j→j<hi→¬ BQ aos j)→dc (st lo).heap (st hi).heap∧(st hi).defs=(st lo).defs
 | 0,h,_,_=>by rw [Nat.le_zero.1 h];exact⟨dc.refl _,rfl⟩
 | hi+1,h,l,b=>by
  rcases ajz hi lo with h1 | h1
  ·rw [show lo=hi+1 by omega];exact⟨dc.refl _,rfl⟩
  ·obtain⟨g1,g2⟩:=iW.cT R hi h1 (by omega) fun j h2 h3=>b j h2 (by omega);have hy:=By (show hi<aos.length by omega);obtain⟨d,g⟩:=nX (fun hc=>b hi h1 (by omega) ⟨_,hy,hc⟩) (R.step hi _ hy);exact⟨g1.trans d,g.trans g2⟩
theorem iW.at(R:iW Q σ call n ops aos iF st){i:Nat}{y:aO}(hy:aos[i]?=aa y):∃ o,ops[i]?=aa o∧jW Q σ n ops o y=ae:=by
 have:=eA R.acr;have hi:i<ops.toList.length:=by rw [this.len];exact(IS.1 hy).1
 have b:=By hi;refine⟨ops.toList[i],by rw [←Array.getElem?_toList];exact b,this.2 i _ _ b hy⟩
theorem iW.before(R:iW Q σ call n ops aos iF st){i j:Nat}{x y:aO}(b:i<j)(g:aos[i]?=aa x)(hy:aos[j]?=aa y)(h:x.apart y=ag∨(rG x y=ag∧(j=eJ ops aos→cls x.op≠.w))):wQ (dx ops.toList []) i j=ae:=by
 rcases R.ord.two i j x y b g hy with h1 | ⟨h1,h2⟩
 ·exact h1
 ·rcases h with h | ⟨h,d⟩
  ·rw [h1]at h;simp at h
  ·rcases h2 with h2 | ⟨h2,h3⟩
   ·rw [h2]at h;simp at h
   ·exact absurd h3 (d h2)
theorem Ext.assign{X0 d:Wd}(h:Ext X0.H.length X0 d){n c:Nat}(g:oa d.H.length d { d with cd:=fun b=>if b=n then aa ⟨c,0⟩else d.cd b })(hc:X0.w.heap.size≤c):Ext X0.H.length X0 { d with cd:=fun b=>if b=n then aa ⟨c,0⟩else d.cd b } where
 B:=h.B
 F:=h.F
 oc:=h.oc
 fw:=h.fw
 bf:=fun b hb=>(h.bf b hb).trans (g.bf b (aj5 hb h.len))
 uF:=fun b L hb=>by
  simp only at hb;by_cases e:b=n
  ·rw [ba e]at hb;cases hb;exact .inr hc
  ·rw [aR e]at hb;exact h.uF b L hb
 size:=h.size
 os:=h.os
 tape:=h.tape
 output:=h.output
 frame:=h.frame
theorem iW.RI(R:iW Q σ call n ops aos iF st){y:aO}(hy:aos[eJ ops aos]?=aa y):cls y.op=.a:=by
 obtain⟨⟨zs,h⟩,_⟩:=R.ord.ear y hy;rw [h];rfl
theorem Rg{x y:aO}{p:P}(h:x.dst=aa p)(b:p ∈ y.rd):x.apart y=ag:=by
 simp [aO.apart,h,b]
theorem xT{x y:aO}{p:P}(h:x.dst=aa p)(b:y.dst=aa p):x.apart y=ag:=by
 simp [aO.apart,h,b]
theorem Re{x y:aO}{p:P}(h:p ∈ x.rd)(b:y.dst=aa p):x.apart y=ag:=by
 simp [aO.apart,h,b]
structure iV(ops:Array Oper)(aos:List aO)(D:Nat→Prop)(i:Nat)(o:Oper)(y:aO):Prop where
 ho:ops[i]?=aa o
 hy:aos[i]?=aa y
 hD:¬ D i
 pre:∀ e ∈ o.after.toList,Region.binds .any e=ae→D e.on
variable{X0:Wd}{D:Nat→Prop}{E i:Nat}{a:Act}{o:Oper}{y:aO}
theorem iV.nQ(d:Inv Q σ X0 n ops aos st D E X a)(b:iV ops aos D i o y){j:Nat}(h:wQ (dx ops.toList []) j i=ae):D j:=
 d.closed.ready (by simpa using b.ho) b.pre h
theorem iV.oW(b:Inv Q σ X0 n ops aos st D E X a)(g:iV ops aos D i o y){j:Nat}(h:wQ (dx ops.toList []) i j=ae):¬ D j:=
 fun d=>g.hD (b.closed.below j d h)
theorem iW.reads(R:iW Q σ call n ops aos iF st)(m:Inv Q σ X0 n ops aos st D E X a)(b:iV ops aos D i o y){p:P}(B:p ∈ y.rd):VR σ X ((st i).aB.get p) (a.tmps.getD p.toNat undef):=by
 obtain⟨K,I,s,H⟩:=m.Te p;have hi:i<aos.length:=(IS.1 b.hy).1;have s:VR σ X ((st K).aB.get p) (a.tmps.getD p.toNat undef):=by
  rcases s with s | ⟨z,zs,c,_,M,d,g,_⟩
  ·exact s
  ·exfalso;obtain⟨_,_,N,x,l⟩:=R.ord.ear z d;rw [g]at x;cases x;have J:=(IS.1 d).1;rcases m.eW with h4 | v
   ·omega
   ·have L:E≠eJ ops aos:=by
     intro e;obtain⟨q,F,A⟩:=v;rw [e]at F;rw [R.RI F]at A;cases A
    exact m.eD (b.nQ m (l i y b.hy B E v (show E<eJ ops aos by omega)))
 rcases Nat.le_total K i with h | h
 ·rw [←R.lz i h (by omega) fun j z h1 h2 d g=>?_]
  ·exact s
  ·have:=b.nQ m (R.before h2 d b.hy (.inl (Rg g B)));have:=(H j z d g).2 this;omega
 ·rw [R.lz K h I fun j z h1 h2 d g=>?_]
  ·exact s
  ·have u:=(H j z d g).1 h2;rcases ajz i j with h3 | h3
   ·exact b.oW m (R.before h3 b.hy d (.inl (Re B g))) u
   ·have:j=i:=by omega
    subst this;exact b.hD u
theorem iW.fin(R:iW Q σ call n ops aos iF st)(F:Inv Q σ X0 n ops aos st D E X a)(q:iV ops aos D i o y){l:Wd}{a1:Act}{u:Value}{v:V}{m:Nat}(hS:SR Q σ l)(hB:l.B≤l.w.heap.size)(a_:Ext X0.H.length X0 l)
  (hm:∀ v u,VR σ X v u→VR σ l v u) (a8:∀ y zs c p,E≤eJ ops aos→aos[eJ ops aos]?=aa y→y.op=.alloc zs→y.dst=aa p→D (eJ ops aos)→a.tmps.getD p.toNat undef=.pointer (aa ⟨c,0,ab⟩)→X0.w.heap.size≤c→jt σ X c zs→if m≤eJ ops aos then jt σ l c zs else VR σ l ((st (eJ ops aos+1)).aB.get p) (.pointer (aa ⟨c,0,ab⟩)))
  (hv:VR σ l v u∨(i=eJ ops aos∧m≤eJ ops aos∧∃ zs c,y.op=.alloc zs∧u=.pointer (aa ⟨c,0,ab⟩)∧X0.w.heap.size≤c∧jt σ l c zs))
  (ht:a1.tmps=(a.put o.dst u).tmps) (U:(st (i+1)).aB=hZ (st i).aB y.dst v) (h1:m≤aos.length) (h2:m=aos.length∨BQ aos m) (h3:¬ (D m∨m=i)) (h4:∀ j,BQ aos j→j<m→D j∨j=i)
  (hH:l.H=(st m).heap) (hd:fD σ l (st m).defs a1.defers)
  (hh:∀ j y,j<m→¬ (D j∨j=i)→aos[j]?=aa y→cls y.op=.a→(st (j+1)).heap.length≠(st j).heap.length→l.cd (st j).heap.length=ab) :
  Inv Q σ X0 n ops aos st (fun j=>D j∨j=i) m l a1:=by
 have hi:i<aos.length:=(IS.1 q.hy).1;obtain⟨o',S,A⟩:=R.at q.hy;rw [q.ho]at S;cases S;have uD:(a.put o.dst u).tmps.size=a.tmps.size:=by cases o.dst<;>simp [Act.put]
 refine⟨fun j oj O B e he hb=>?_,fun j O=>O.elim (F.dlt j) fun h=>h▸hi,h1,h2,h3,h4,hH,a_,hS,hB,hd,by rw [ht,uD];exact F.size,fun p=>?_,hh⟩
 ·rcases O with O | rfl
  ·exact .inl (F.closed j oj O B e he hb)
  ·have:oj=o:=by have:=q.ho;simp at B;rw [this]at B;cases B;rfl
   subst this;exact .inl (q.pre e he hb)
 ·by_cases b:y.dst=aa p
  ·have s:a1.tmps.getD p.toNat undef=u:=by
    rw [ht];simp only [jW,BY]at A;have g:=A.1.2;rw [b]at g;split at g
    ·rename_i d p' L J;simp only [BY,beq_iff_eq,decide_eq_true_eq]at g;cases J;have Z:d<a.tmps.size:=aj5 g.2 F.size;rw [L,g.1];simp only [Act.put];simp [Z]
    ·rename_i J;simp at J
    ·simp at g
   refine⟨i+1,hi,?_,fun j z I x=>⟨fun h=>?_,fun h=>?_⟩⟩
   ·rcases hv with hv | ⟨N,Y,zs,c,g1,g2,g3,g4⟩
    ·left;rw [U,sT,ba b,s];exact hv
    ·right;exact⟨y,zs,c,by rw [N],Y,by rw [←N];exact q.hy,b,g1,by rw [s];exact g2,g3,g4⟩
   ·rcases ajz j i with M | M
    ·exact .inl (q.nQ F (R.before M I q.hy (.inl (xT x b))))
    ·exact .inr (by omega)
   ·rcases h with h | rfl
    ·rcases ajz i j with M | M
     ·exact absurd h (q.oW F (R.before M q.hy I (.inl (xT b x))))
     ·omega
    ·omega
  ·obtain⟨K,hK,H,hw⟩:=F.Te p;have e:a1.tmps.getD p.toNat undef=a.tmps.getD p.toNat undef:=by
    rw [ht];simp only [jW,BY]at A;have g:=A.1.2;split at g
    ·rename_i d p' L J;simp only [BY,beq_iff_eq,decide_eq_true_eq]at g;have a7:d≠p.toNat:=fun e=>b (by rw [J,P.toNat_inj (g.1.trans e)]);rw [L];simp [Act.put,Array.getD_eq_getD_getElem?,Array.getElem?_setIfInBounds_ne a7]
    ·rename_i L J;rw [L];rfl
    ·simp at g
   refine⟨K,hK,?_,fun j z I x=>?_⟩
   ·rcases H with H | ⟨z,zs,c,g1,g2,g3,g4,g5,g6,g7,g8⟩
    ·left;rw [e];exact hm _ _ H
    ·have W:D (eJ ops aos):=(hw _ z g3 g4).1 (by omega);have:=a8 z zs c p g2 g3 g5 g4 W g6 g7 g8;split at this
     ·rename_i Y;right;exact⟨z,zs,c,g1,Y,g3,g4,g5,by rw [e];exact g6,g7,this⟩
     ·left;rw [e,g6,g1];exact this
   ·rw [hw j z I x];exact⟨.inl,fun h=>h.elim id fun h=>absurd (by rw [h]at I;rw [q.hy]at I;cases I;exact x) b⟩
end
end
section
variable{Q:Program}{σ:Nat→FuncId}{X:Wd}{call:dj}
variable{n:Nat}{ops:Array Oper}{aos:List aO}{iF:List (Nat × Nat)}{st:Nat→St}
variable{X0:Wd}{D:Nat→Prop}{E i:Nat}{a:Act}{o:Oper}{y:aO}
theorem ow{x y:aO}(h:cls x.op=.w)(d:cls y.op≠.p)(b:cls y.op≠.r):rG x y=ag:=by
 unfold rG;rw [h];cases g:cls y.op<;>simp_all
theorem rH{x y:aO}(h:cls y.op=.w)(d:cls x.op≠.p)(b:cls x.op≠.r):rG x y=ag:=by
 unfold rG;rw [h];cases g:cls x.op<;>simp_all
theorem iW.sI(R:iW Q σ call n ops aos iF st){j:Nat}{z:aO}(b:aos[j]?=aa z)(hc:cls z.op≠.a):j≠eJ ops aos:=by
 rintro rfl;exact hc (R.RI b)
theorem iW.ad5(R:iW Q σ call n ops aos iF st)(d:Inv Q σ X0 n ops aos st D E X a)(b:iV ops aos D i o y)(hc:cls y.op=.w):i=E:=by
 have hi:i<aos.length:=(IS.1 b.hy).1;rcases akv i E with h | h | h
 ·exact absurd (d.wD i ⟨y,b.hy,hc⟩ h) b.hD
 ·exact h
 ·rcases d.eW with h1 | ⟨z,j,g⟩
  ·omega
  ·exact absurd (b.nQ d (R.before h j b.hy (.inr ⟨ow g (by simp [hc]) (by simp [hc]),fun e=>absurd e (R.sI b.hy (by simp [hc]))⟩))) d.eD
theorem iW.Q7(R:iW Q σ call n ops aos iF st)(g:Inv Q σ X0 n ops aos st D E X a)(d:iV ops aos D i o y)(h1:cls y.op≠.p)(h2:cls y.op≠.r)(h3:cls y.op≠.w)(u:i=eJ ops aos→i<E):i<E∧∀ j,i≤j→j<E→¬ BQ aos j:=by
 have hi:i<aos.length:=(IS.1 d.hy).1;refine⟨?_,fun j v q s=>?_⟩
 ·rcases akv i E with h | h | h
  ·exact h
  ·rcases g.eW with h4 | ⟨z,l,b⟩
   ·omega
   ·rw [←h,d.hy]at l;cases l;exact absurd b h3
  ·rcases g.eW with h4 | ⟨z,l,b⟩
   ·omega
   ·exact absurd (d.nQ g (R.before h l d.hy (.inr ⟨ow b h1 h2,fun e=>by have:=u e;omega⟩))) g.eD
 ·have m:=g.wD j s q;obtain⟨z,l,b⟩:=s;rcases ajz i j with h | h
  ·exact d.oW g (R.before h d.hy l (.inr ⟨rH b h1 h2,fun _=>h3⟩)) m
  ·have:j=i:=by omega
   subst this;exact d.hD m
theorem iW.aik(R:iW Q σ call n ops aos iF st)(d:Inv Q σ X0 n ops aos st D E X a)(s:iV ops aos D i o y)(hc:cls y.op=.r)(L:wanted (st i).aB y.g=aa ae){v:V}{F:an}(h:bC (st i).aB (st i).heap y.op=aa (v,F)) :
  F=(st i).heap∧bC (st i).aB X.H y.op=aa (v,X.H):=by
 have hi:i<aos.length:=(IS.1 s.hy).1;refine⟨(Ct hc (dc.refl _) h).1,?_⟩;have q:yR (dx ops.toList []) aos i E=ae:=by
  unfold yR;rw [aji];intro j K;have l:=mr.1 K;split
  ·rename_i m;have b:=d.wD j l m;cases x:wQ (dx ops.toList []) i j with
   | false=>rfl| true=>exact absurd b (s.oW d x)
  ·rename_i m;cases x:wQ (dx ops.toList []) j i with
   | false=>rfl
   | true=>
    exfalso;have b:=s.nQ d x;rcases ajz E j with h1 | h1
    ·rcases d.eW with h4 | ⟨z,M,B⟩
     ·have:=d.dlt j b;omega
     ·obtain⟨O,u,g⟩:=l;exact d.eD (d.closed.below j b (R.before h1 M u (.inr ⟨ow B (by simp [g]) (by simp [g]),fun e=>absurd e (R.sI u (by simp [g]))⟩)))
    ·have:j=E:=by omega
     subst this;exact d.eD b
 rw [d.heap];rcases R.ord.rd i y E s.hy hc (d.eW.symm) q with A | A
 ·obtain⟨p1,_,_,H⟩:=nT (aos:=aos) (i:=i) (by omega);rw [←A]at p1 H;exact(Ct hc (R.cT E p1 d.eN H).1 h).2
 ·obtain⟨N,I,J,g1,g2⟩:=R.ah' i E y A s.hy L;rw [h]at g1;cases g1;have:=(Ct hc (dc.refl _) g2).1;rw [this]at g2;exact g2
theorem iW.XP(R:iW Q σ call n ops aos iF st){z:aO}(d:aos[eJ ops aos]?=aa z){zs:List FC}(b:z.op=.alloc zs){p:P}(g:z.dst=aa p) :
  (st (eJ ops aos+1)).heap=(st (eJ ops aos)).heap++[.box (zs.map .f) 0]∧(st (eJ ops aos+1)).aB.get p=.c (.ptr (st (eJ ops aos)).heap.length 0 0):=by
 obtain⟨_,hg,_⟩:=R.ord.ear z d;have h:=R.step _ z d;simp only [eT,hg,wanted,b,eu,bC,ajK,AI]at h;rw [←h];exact⟨rfl,by rw [sT,ba g]⟩
theorem iW.Bs(R:iW Q σ call n ops aos iF st)(s:Inv Q σ X0 n ops aos st D E X a)(x:iV ops aos D i o y)(hc:cls y.op=.w){d:Wd}{a1:Act}{u:Value}{v:V}(hS:SR Q σ d)(hB:d.B≤d.w.heap.size)(hx:Ext X.H.length X d)
  (hv:VR σ d v u) (ht:a1.tmps=(a.put o.dst u).tmps) (B:(st (i+1)).aB=hZ (st i).aB y.dst v) (hH:d.H=(st (i+1)).heap) (hd:fD σ d (st (i+1)).defs a1.defers) :
  ∃ E' X2,X2.w=d.w∧Inv Q σ X0 n ops aos st (fun j=>D j∨j=i) E' X2 a1:=by
 have hi:i<aos.length:=(IS.1 x.hy).1;have a_:=R.ad5 s x hc;subst a_;obtain⟨p1,p2,p3,J⟩:=nT (aos:=aos) (i:=i+1) (by omega);obtain⟨q1,q2⟩:=R.cT _ p1 p2 J;rw [←hH]at q1;obtain⟨k1,Z⟩:=SR.ahead hS q1;have g:Ext X.H.length X { d with H:=(st (phase aos (i+1))).heap }:=hx.trans (Z.mono hx.len);have I:Ext X0.H.length X0 { d with H:=(st (phase aos (i+1))).heap }:=s.ext.trans (g.mono s.ext.len);have K:¬ (D (phase aos (i+1))∨phase aos (i+1)=i):=by
  rintro(h | h)
  ·rcases p3 with h1 | ⟨z,hz,l⟩
   ·have:=s.dlt _ h;omega
   ·exact x.oW s (R.before p1 x.hy hz (.inr ⟨ow hc (by simp [l]) (by simp [l]),fun e=>absurd e (R.sI hz (by simp [l]))⟩)) h
  ·omega
 have N:∀ j,BQ aos j→j<phase aos (i+1)→D j∨j=i:=by
  intro j U hj;rcases akv j i with h | h | h
  ·exact .inl (s.wD j U h)
  ·exact .inr h
  ·exact absurd U (J j h hj)
 have S:fD σ { d with H:=(st (phase aos (i+1))).heap } (st (phase aos (i+1))).defs a1.defers:=by rw [q2];exact hd.ext' Z
 have iJ:i≠eJ ops aos:=R.sI x.hy (by simp [hc]);have uC:∀ j z,j<phase aos (i+1)→¬ (D j∨j=i)→aos[j]?=aa z→cls z.op=.a→(st (j+1)).heap.length≠(st j).heap.length→i<j∧d.cd (st j).heap.length=ab:=by
  intro j z hj hD hz l A;rcases akv j i with h | h | h
  ·exact absurd (.inl (x.nQ s (R.before h hz x.hy (.inr ⟨rH hc (by simp [l]) (by simp [l]),fun e=>absurd e iJ⟩)))) hD
  ·exact absurd (.inr h) hD
  ·have F:=(R.cT j h (by omega) fun k h1 h2=>J k h1 (by omega)).1.len;rw [←hH]at F;refine⟨h,?_⟩;cases m:d.cd (st j).heap.length with
   | none=>rfl| some L=>have:=SR.lt hS m;omega
 by_cases hP:∃ z zs c p,i≤eJ ops aos∧eJ ops aos<phase aos (i+1)∧aos[eJ ops aos]?=aa z∧z.op=.alloc zs∧z.dst=aa p∧D (eJ ops aos)∧a.tmps.getD p.toNat undef=.pointer (aa ⟨c,0,ab⟩)∧X0.w.heap.size≤c∧jt σ X c zs
 ·obtain⟨z,zs,c,p,g1,g2,g3,g4,g5,g6,g7,g8,g9⟩:=hP;obtain⟨s1,s2⟩:=R.XP g3 g4 g5;have M:i<eJ ops aos:=by omega
  have b_:(st (i+1)).heap.length≤(st (eJ ops aos)).heap.length:=(R.cT _ M (by omega) fun k h1 h2=>J k h1 (by omega)).1.len;obtain⟨fl,O⟩:∃ fl,(st (phase aos (i+1))).heap[(st (eJ ops aos)).heap.length]?=aa (.box (zs.map .f) fl):=by
   have W:=(R.cT (phase aos (i+1)) (show eJ ops aos+1≤_ by omega) p2 fun k h1 h2=>J k (by omega) h2).1;rw [s1]at W;exact oF W
  have c9:jt σ { d with H:=(st (phase aos (i+1))).heap } c zs:=g9.ext g;have c_:d.cd (st (eJ ops aos)).heap.length=ab:=by
   cases m:d.cd (st (eJ ops aos)).heap.length with
   | none=>rfl| some L=>have:=SR.lt hS m;rw [hH]at this;omega
  obtain⟨a7,q,a8⟩:=SR.assign k1 c9 O c_;refine⟨phase aos (i+1),{ d with H:=(st (phase aos (i+1))).heap,cd:=fun b=>if b=(st (eJ ops aos)).heap.length then aa ⟨c,0⟩else d.cd b },rfl,R.fin s x a7 hB (I.assign q g8) (fun v u h=>VR.dT σ q (VR.ext' σ g h)) ?_ (.inl (VR.dT σ q (VR.ext' σ Z hv))) ht B p2 p3 K N rfl (fD.dT q S) ?_⟩
  ·intro z' d9 c' p' _ e2 _ e4 _ e6 _ _;rw [g3]at e2;cases e2;rw [g5]at e4;cases e4;rw [g7]at e6;simp only [Value.pointer.injEq,AI,Addr.mk.injEq,true_and,and_true]at e6;subst e6;rw [aR (by omega),s2];exact a8
  ·intro j w hj hD hw Y A;obtain⟨f1,f2⟩:=uC j w hj hD hw Y A;show(if(st j).heap.length=(st (eJ ops aos)).heap.length then aa (⟨c,0⟩:Loc)else d.cd (st j).heap.length)=ab;rw [aR,f2];intro e;rcases akv j (eJ ops aos)with h | h | h
   ·have h1:=(R.cT (lo:=j+1) (eJ ops aos) h (by omega) fun k h1 h2=>J k (by omega) (by omega)).1.len;have h2:=(nX (by simp [Y]) (R.step j w hw)).1.len;clear I g k1 Z;omega
   ·exact hD (.inl (by rw [h];exact g6))
   ·have h1:=(R.cT (lo:=eJ ops aos+1) j h (by omega) fun k h1 h2=>J k (by omega) (by omega)).1.len;rw [s1,ai7]at h1;simp only [List.length_cons,akC]at h1;omega
 ·refine⟨phase aos (i+1),{ d with H:=(st (phase aos (i+1))).heap },rfl,R.fin s x k1 hB I (fun v u h=>VR.ext' σ g h) ?_ (.inl (VR.ext' σ Z hv)) ht B p2 p3 K N rfl S (fun j z h1 h2 h3 h4 h5=>(uC j z h1 h2 h3 h4 h5).2)⟩;intro z zs c p g1 g2 g3 g4 g5 g6 g7 g8;by_cases F:phase aos (i+1)≤eJ ops aos
  ·rw [ba F];exact g8.ext g
  ·exact absurd ⟨z,zs,c,p,g1,by omega,g2,g3,g4,g5,g6,g7,g8⟩ hP
theorem iW.mP(R:iW Q σ call n ops aos iF st)(d:Inv Q σ X0 n ops aos st D E X a)(l:iV ops aos D i o y)(hc:cls y.op≠.w){b:Wd}{a1:Act}{u:Value}{v:V}(B:SR Q σ b)(x:b.B≤b.w.heap.size)(m:Ext X.H.length X b)
  (J:VR σ b v u∨(i=eJ ops aos∧E≤eJ ops aos∧∃ zs c,y.op=.alloc zs∧u=.pointer (aa ⟨c,0,ab⟩)∧X0.w.heap.size≤c∧jt σ b c zs)) (I:a1.tmps=(a.put o.dst u).tmps) (g:(st (i+1)).aB=hZ (st i).aB y.dst v) (A:b.H=X.H) (F:fD σ b (st E).defs a1.defers)
  (H:∀ j z,j<E→¬ (D j∨j=i)→aos[j]?=aa z→cls z.op=.a→(st (j+1)).heap.length≠(st j).heap.length→b.cd (st j).heap.length=ab) :
  Inv Q σ X0 n ops aos st (fun j=>D j∨j=i) E b a1:=by
 refine R.fin d l B x (d.ext.trans (m.mono d.ext.len)) (fun v u h=>VR.ext' σ m h) (fun z zs c p g1 _ _ _ _ _ _ g8=>by rw [ba g1];exact g8.ext m) J I g d.eN d.eW ?_ (fun j h1 h2=>.inl (d.wD j h1 h2)) (A.trans d.heap) F H;rintro(h | h)
 ·exact d.eD h
 ·have hi:i<aos.length:=(IS.1 l.hy).1;rcases d.eW with h1 | ⟨z,s,q⟩
  ·omega
  ·rw [h,l.hy]at s;cases s;exact hc q
theorem iW.gG(d:Inv Q σ X0 n ops aos st D E X a){b:Wd}(h:b.cd=X.cd):∀ j z,j<E→¬ (D j∨j=i)→aos[j]?=aa z→cls z.op=.a→(st (j+1)).heap.length≠(st j).heap.length→b.cd (st j).heap.length=ab:=
 fun j z h1 h2 h3 h4 h5=>by rw [h];exact d.uC j z h1 (fun h=>h2 (.inl h)) h3 h4 h5
theorem iW.AF(R:iW Q σ call n ops aos iF st)(q:Inv Q σ X0 n ops aos st D E X a)(u:iV ops aos D i o y)(hc:cls y.op=.a)(F:i=eJ ops aos→i<E)(m:(st (i+1)).heap.length≠(st i).heap.length){j:Nat}{z:aO}(J:j<E)(hD:¬ (D j∨j=i))(B:aos[j]?=aa z)(d:cls z.op=.a)
  (g:(st (j+1)).heap.length≠(st j).heap.length):(st j).heap.length≠(st i).heap.length:=by
 have hi:i<aos.length:=(IS.1 u.hy).1;obtain⟨g1,g2⟩:=R.Q7 q u (by simp [hc]) (by simp [hc]) (by simp [hc]) F;have I:∀ k,j≤k→k<E→¬ BQ aos k:=by
  intro k h1 h2 s;have l:=q.wD k s h2;obtain⟨w,v,x⟩:=s;rcases ajz j k with h | h
  ·exact hD (.inl (q.closed.below k l (R.before h B v (.inr ⟨rH x (by simp [d]) (by simp [d]),fun _=>by simp [d]⟩))))
  ·have:k=j:=by omega
   subst this;exact hD (.inl l)
 have b:∀ k w,aos[k]?=aa w→cls w.op=.a→(st (k+1)).heap.length≠(st k).heap.length→(st k).heap.length<(st (k+1)).heap.length:=by
  intro k w s A H;have:=(nX (by simp [A]) (R.step k w s)).1.len;omega
 rcases akv j i with h | h | h
 ·have h1:=b j z B d g;have h2:(st (j+1)).heap.length≤(st i).heap.length:=(R.cT i h (by omega) fun k h3 h4=>I k (by omega) (by omega)).1.len;omega
 ·exact absurd (.inr h) hD
 ·have h1:=b i y u.hy hc m;have h2:(st (i+1)).heap.length≤(st j).heap.length:=(R.cT j h (by have:=q.eN;omega) fun k h3 h4=>g2 k (by omega) (by omega)).1.len;omega
end
section
variable{Q:Program}{σ:Nat→FuncId}{X:Wd}{call:dj}
variable{n:Nat}{ops:Array Oper}{aos:List aO}{iF:List (Nat × Nat)}{st:Nat→St}
variable{X0:Wd}{D:Nat→Prop}{E i:Nat}{a:Act}{o:Oper}{y:aO}
theorem AX{w':World}{q:Obj}(g:SR Q σ X)(d:dR X.w w' q):SR Q σ { X with w:=w' }∧Ext X.H.length X { X with w:=w' }:=by
 have j:Ext X.H.length X { X with w:=w' }:=Ext.one g X.H.length rfl (fun _ _=>Iff.rfl) (fun k m _=>d.zI m)
  (fun L i h=>by rw [SR.pU g]at h;simp at h) (fun h=>absurd h (ak8 _)) (fun _ _ _=>rfl) (fun _ _=>rfl) (fun L h=>.inl ⟨L,h,rfl⟩) (by show _≤w'.heap.size;rw [d.size];omega) d.os d.tape d.output
 refine⟨SR.step Q σ g j X.H.length (fun _ _=>rfl) (fun _ _=>rfl) (fun b L _ l=>d.zI (g.br b L l).2.1)
  (fun _ _ _ _ _ h=>h) (fun L h=>by change X.cd X.H.length=aa L at h;rw [SR.pU g]at h;simp at h) (fun c i h=>?_),j⟩
 have:=g.fb c i h;show c<w'.heap.size;rw [d.size];omega
theorem Sp{y:aO}{p:P}(h:p ∈ y.op.rd):p ∈ y.rd:=by unfold aO.rd;exact aja.2 (.inr h)
theorem BK{y:aO}{p:P}{w:Bool}(h:y.g=aa (p,w)):p ∈ y.rd:=by unfold aO.rd;rw [h];simp
theorem iW.ZV(hC:eV Q σ call)(R:iW Q σ call n ops aos iF st)(d:Inv Q σ X0 n ops aos st D E X a)(A:iV ops aos D i o y){b:Frame}{rest:List Nat}{k:List Item}{cs:List Frame}(hk:iw b cs)(j8:gd y.op b) :
  ∃ E' X' a',Steps Q (lone (b.atR a (.inRegion ops (i::rest)::k)) cs X.w) (lone (b.atR a' (.inRegion ops rest::k)) cs X'.w)∧Inv Q σ X0 n ops aos st (fun j=>D j∨j=i) E' X' a'∧a'.tmps.size=a.tmps.size:=by
 have hi:i<aos.length:=(IS.1 A.hy).1;obtain⟨o',g_,hm⟩:=R.at A.hy;rw [A.ho]at g_;cases g_;have g:=R.step i y A.hy;have S:∀ p ∈ y.rd,VR σ X ((st i).aB.get p) (a.tmps.getD p.toNat undef):=fun p hp=>R.reads d A hp;have l:dN Q σ o y.op=ae:=by simp only [jW,BY]at hm;exact hm.1.1
 have K:∀ u,(a.put o.dst u).tmps.size=a.tmps.size:=fun u=>by cases o.dst<;>simp [Act.put]
 have J:∀(a:Act) u,(a.put o.dst u).defers=a.defers:=fun a u=>by cases o.dst<;>rfl
 have i7:∀(a a':Act) u,a'.tmps=a.tmps→(a'.put o.dst u).tmps=(a.put o.dst u).tmps:=fun a a' u h=>by cases o.dst<;>simp [Act.put,h]
 unfold eT at g;split at g
 ·rename_i d9;have hw:=nr hm (aB:=(st i).aB) (tmps:=a.tmps) (X:=X) (fun p w' hg=>S p (BK hg)) d.size d9;split at g
  ·rename_i v s1 h1;simp only [AI]at g;have B:(st (i+1)).aB=hZ (st i).aB y.dst v:=by rw [←g,←vA h1]
   have q:(st (i+1)).heap=s1.heap:=by rw [←g]
   have N:(st (i+1)).defs=s1.defs:=by rw [←g]
   have F:∀ p ∈ y.op.rd,(st i).aB.get p=(gF (st i).aB y.op.rd).get p:=fun p hp=>by rw [sU,ba hp]
   have Z:RR σ X (gF (st i).aB y.op.rd) a.tmps:=fun p=>by
    rw [sU];split
    ·rename_i hp;exact S p (Sp hp)
    ·trivial
   have M:=Cs F h1;by_cases m:cls y.op=.w
   ·have a8:=R.ad5 d A m;obtain⟨g1,g2⟩:=Cr hC d.sr d.b (s:={ st i with aB:=gF (st i).aB y.op.rd }) (by rw [d.heap,←a8]) Z (by rw [a8];exact d.defs) l M;obtain⟨X1,u,a1,k1,⟨k2,k3,k4,k5,k6⟩,k7,k8⟩:=g1 b ops i rest k cs A.ho hw hk j8;obtain⟨E',X2,q1,q2⟩:=R.Bs d A m (a1:=a1.put o.dst u) k3 k6 k5 k4 (i7 a a1 u k7) B (by rw [k2,q]) (by rw [N,J];exact k8);exact⟨E',X2,a1.put o.dst u,by rw [q1];exact k1,q2,by rw [i7 a a1 u k7,K]⟩
   ·
    have j7:∀ c,o.op≠.defer c:=oO l (fun x xs e=>m (by rw [e];rfl)) (fun e=>by rw [e]at h1;simp [eu,bC]at h1);have one:∀ {u:Value} {w':World},(execOp a.eval o).run Q X.w=.ok (.value u) w'→Steps Q (lone (b.atR a (.inRegion ops (i::rest)::k)) cs X.w) (lone (b.atR (a.put o.dst u) (.inRegion ops rest::k)) cs w'):=by
     intro u w' a_;refine .one (step_lone_go ?_);rw [stepGR_op A.ho hw,Oper.semAt_eq _ _ _ j7];have a7:=Frame.finish_atR b a ops i rest k u;rw [A.ho]at a7;simp only [ajC]at a7;rw [←a7];simp [stepG.apply,Sem.runT_eq,a_]
    by_cases H:cls y.op=.c
    ·
     obtain⟨f,xs,c_⟩:∃ f xs,y.op=.call f xs ag:=by
      generalize y.op=op at H;cases op<;>first | (simp only [cls,reduceCtorEq]at H;done) | skip
      rename_i f xs hh;cases hh
      ·exact⟨f,xs,rfl⟩
      ·simp [cls]at H
     have I:=Z;rw [c_]at M l I;simp only [eu,gi,ajo,if_false,IN,OF]at M;obtain⟨⟨v',H'⟩,hp,rfl,i3⟩:=M;have j4:H'=(st (i+1)).heap:=by
      rw [q];simp only [St.mk.injEq]at i3;exact i3.2.2
     obtain⟨g1,g2⟩:=R.Q7 d A (by simp [H]) (by simp [H]) (by simp [H]) (fun e=>absurd e (R.sI A.hy (by simp [H])));have e_:dc H' X.H:=by
      rw [j4,d.heap];exact(R.cT E g1 d.eN fun j h1 h2=>g2 j (by omega) h2).1
     obtain⟨X1,u,k1,⟨k2,k3,k4,k5,k6⟩,k7⟩:=vK hC d.sr d.b I l hp e_ b ops i rest k cs A.ho hw;exact⟨E,X1,a.put o.dst u,k1,R.mP d A m k3 k6 k5 (.inl k4) rfl B k2 (by rw [J];exact d.defs.ext' k5) (iW.gG d k7),K u⟩
    ·have hx:(bC (gF (st i).aB y.op.rd) (st i).heap y.op)=aa (v,s1.heap):=by
      have c9:¬ ((∃ f xs h,y.op=.call f xs h)∨(∃ x xs h,y.op=.bT x xs h)∨y.op=.recover∨∃ x xs,y.op=.defer x xs):=by
       rintro(⟨f,xs,hh,e⟩ | ⟨x,xs,hh,e⟩ | e | ⟨x,xs,e⟩)<;>rw [e]at m H
       ·cases hh
        ·exact H rfl
        ·exact m rfl
       ·exact m rfl
       ·exact m rfl
       ·exact m rfl
      have hx:(bC (gF (st i).aB y.op.rd) (st i).heap y.op).map (fun r=>(r.1,({ st i with aB:=gF (st i).aB y.op.rd,heap:=r.2 }:St)))=aa (v,{ s1 with aB:=gF (st i).aB y.op.rd }):=by
       generalize gF (st i).aB y.op.rd=r at M;generalize y.op=op at M c9;cases op<;>first | exact M | (exfalso;apply c9;simp)
      simp only [IN,OF,St.mk.injEq]at hx;obtain⟨⟨v',H'⟩,h2,rfl,_,_,h3⟩:=hx;rw [h2];simp only at h3;rw [h3]
     by_cases Y:cls y.op=.a
     ·by_cases U:i=eJ ops aos∧E≤i
      ·
       obtain⟨f8,j3⟩:=U;obtain⟨⟨zs,c_⟩,_,_⟩:=R.ord.ear y (show aos[eJ ops aos]?=aa y from f8▸A.hy);have f_:=hx;rw [c_]at f_ l;simp only [bC,AI,OF]at f_;obtain⟨rfl,_⟩:=f_;simp only [dN]at l;split at l
       ·rename_i t ho;obtain⟨z,us,i8,i9,i_,_⟩:=eI (σ:=σ) (X:=X) l X.w;have a_:(execOp a.eval o).run Q X.w=.ok (.value (.pointer (aa ⟨X.w.heap.size,0,ab⟩))) (X.w.alloc (.cells us.toArray t)):=by
         simp only [execOp,ho];refine dX ?_;simp [Instr.alloc,i8,newVar,newRow,i9]
        obtain⟨e1,e2⟩:=AX d.sr (dR.alloc X.w (.cells us.toArray t));refine⟨E,{ X with w:=X.w.alloc (.cells us.toArray t) },a.put o.dst (.pointer (aa ⟨X.w.heap.size,0,ab⟩)),one a_,R.mP d A m e1 (by have:=d.b;simp;omega) e2 (.inr ⟨f8,by rw [←f8];exact j3,zs,X.w.heap.size,c_,rfl,d.ext.size,?_⟩) rfl B rfl (by rw [J];exact d.defs.ext' e2) (iW.gG d rfl),K _⟩;exact⟨⟨us,t,(dR.alloc X.w (.cells us.toArray t)).new,A2.ext' σ e2 i_⟩,d.b,fun b L hb=>by have:=(d.sr.br b L hb).2.1;omega,fun j hj=>by have:=d.sr.fb _ j hj;omega⟩
       ·simp at l
      have hJ:i=eJ ops aos→i<E:=fun e=>by
       rcases ajz i E with h | h
       ·exact h
       ·exact absurd ⟨e,h⟩ U
      obtain⟨g1,g2⟩:=R.Q7 d A (by simp [Y]) (by simp [Y]) (by simp [Y]) hJ;have e_:dc s1.heap X.H:=by
       rw [←q,d.heap];exact(R.cT E g1 d.eN fun j h1 h2=>g2 j (by omega) h2).1
      obtain⟨X1,u,k1,⟨k2,k3,k4,k5,k6⟩,k7,k8⟩:=Yt d.sr d.b Z Y l hx e_ (fun c9=>d.uC i y g1 A.hD A.hy Y (by rw [q];exact c9));refine⟨E,X1,a.put o.dst u,one k1,R.mP d A m k3 k6 k5 (.inl k4) rfl B k2 (by rw [J];exact d.defs.ext' k5) ?_,K u⟩;by_cases d_:(st (i+1)).heap.length=(st i).heap.length
      ·exact iW.gG d (k8 (by rw [←q];exact d_))
      ·intro j z h2 h3 h4 h5 h6;rw [k7 _ (R.AF d A Y hJ d_ h2 h3 h4 h5 h6)];exact d.uC j z h2 (fun h=>h3 (.inl h)) h4 h5 h6
     ·
      have h_:cls y.op=.p∨cls y.op=.r:=by cases b_:cls y.op<;>simp_all
      have j_:bC (st i).aB (st i).heap y.op=aa (v,s1.heap):=by rw [A6 F];exact hx
      have i6:bC (gF (st i).aB y.op.rd) X.H y.op=aa (v,X.H):=by
       rcases h_ with b_ | b_
       ·have:=aas (r:=gF (st i).aB y.op.rd) b_ (st i).heap X.H;rw [hx]at this;simpa using this
       ·rw [←A6 F];exact(R.aik d A b_ d9 j_).2
      cases f7:y.op.fsl
      case true=>
       have O:=l;have W:=i6;have I:=Z;obtain⟨rg,j9⟩:=aL (gF (st i).aB y.op.rd);rw [←j9]at W I;revert O W;generalize y.op=op at f7;cases op<;>simp only [cY.fsl,reduceCtorEq]at f7;intro O W;obtain⟨_,u,X1,k1,k2,k3,k4,k5,k6,k7⟩:=uu d.sr d.b I O W;exact⟨E,X1,a.put o.dst u,one k1,R.mP d A m k3 k6 k5 (.inl k4) rfl B k2 (by rw [J];exact d.defs.ext' k5) (iW.gG d k7),K u⟩
      obtain⟨_,u,k1,k2⟩:=aal d.sr Z l h_ f7 i6;exact⟨E,X,a.put o.dst u,one k1,R.mP d A m d.sr d.b (Ext.refl _ _) (.inl k2) rfl B rfl (by rw [J];exact d.defs) (iW.gG d rfl),K u⟩
  ·simp at g
 ·rename_i d9;have hw:=nr hm (aB:=(st i).aB) (tmps:=a.tmps) (X:=X) (fun p w' hg=>S p (BK hg)) d.size d9;simp only [AI]at g;have B:(st (i+1)).aB=hZ (st i).aB y.dst (.t []):=by rw [←g]
  have q:(st (i+1)).heap=(st i).heap:=by rw [←g]
  have N:(st (i+1)).defs=(st i).defs:=by rw [←g]
  have i4:Steps Q (lone (b.atR a (.inRegion ops (i::rest)::k)) cs X.w) (lone (b.atR (a.put o.dst undef) (.inRegion ops rest::k)) cs X.w):=by
   refine .one ?_;have:=stepR_op_skip (P:=Q) (b:=b) (a:=a) (k:=k) (cs:=cs) (w:=X.w) (ops:=ops) (i:=i) (rest:=rest) (by simp [A.ho,hw]);rw [A.ho]at this;exact this
  by_cases m:cls y.op=.w
  ·have a8:=R.ad5 d A m;obtain⟨E',X2,q1,q2⟩:=R.Bs d A m (a1:=a.put o.dst undef) d.sr d.b (Ext.refl _ _) VR.undef rfl B (by rw [d.heap,q,a8]) (by rw [N,J,a8];exact d.defs);exact⟨E',X2,a.put o.dst undef,by rw [q1];exact i4,q2,K _⟩
  ·exact⟨E,X,a.put o.dst undef,i4,R.mP d A m d.sr d.b (Ext.refl _ _) (.inl VR.undef) rfl B rfl (by rw [J];exact d.defs) (iW.gG d rfl),K _⟩
 ·simp at g
end
end Km
