/-
  Our own small machine for Go code by value, held rI the model: part 2. No program in Ej.
-/
import Derived.Test.YtnaofdffomdmhaaGreatK1
import Derived.AtR
import Derived.RangeFuncIn
import Derived.RangeFuncRecord
import Derived.Conc.MuLone
open Option renaming some → aa,none → ab
open Bool renaming true → ae,false → ag
open Nat renaming le_max_left → aqU, le_trans → aqF, le_max_right → aqL, mul_le_mul_right → aq3, le_refl → aft, add_mul → aqT, lt_or_ge → aqY, lt_irrefl → asc, add_zero → arU, mul_eq_zero → asf, zero_add → aqV, lt_of_lt_of_le → aqR, lt_trichotomy → arv
open Option.some renaming injEq → At
open Prod.mk renaming injEq → OF
open List renaming getElem?_map → aq0, length_map → aqr, getElem?_toArray → ar5, getElem?_cons_zero → arL, getElem?_cons_succ → ar1, length_append → api, getElem?_eq_some_iff → BY, getElem?_set_ne → AI, getElem?_append_left → AT, length_drop → aqy, eq_nil_of_length_eq_zero → aqu, drop_zero → aro, ext_getElem? → arI, getElem?_set → ar6, getElem?_eq_getElem → By, foldl_cons → arJ, mem_cons → aqA, getElem_mem → anc, getElem?_drop → aqB, getElem?_of_mem → ara, drop_eq_nil_iff → ast, drop_eq_getElem_cons → apw, mem_flatMap → arQ, mem_append → aqC, mem_map → aqJ, getElem?_take → aqQ, getElem?_eq_none → arp, getD_eq_getElem?_getD → arS, all_eq_true → aqG
open Option renaming map_eq_some_iff → IT, map_some → aq4, bind_some → aqX
open Bool renaming and_eq_true → If, false_eq_true → aqw, true_and → arb
open Int renaming natCast_mul → ar2, toNat_natCast → aqI, mul_comm → arV
set_option linter.unusedVariables false
set_option linter.constructorNameAsVariable false
set_option linter.unusedSimpArgs false
set_option linter.unusedSectionVars false
set_option maxRecDepth 100000
namespace Km
open Go
section
variable{Q:Program}{σ:Nat→FuncId}{X:Wd}
theorem wh(n:Nat):∀(r c:Nat),Builtin.growBy n r c≤Nat.max c (n+(n+768) / 4)
 | 0,c=>by simp [Builtin.growBy];exact aqU _ _
 | r+1,c=>by
  simp only [Builtin.growBy];split
  ·exact aqU _ _
  ·rename_i h;refine aqF (wh n r _) ?_;apply Nat.max_le.2;exact⟨aqF (by omega) (aqL _ _),aqL _ _⟩
theorem tF{need cap:Nat}(h:cap<need):Builtin.nextslicecap need cap≤2*need+768:=by
 unfold Builtin.nextslicecap;split
 ·omega
 ·split
  ·omega
  ·refine aqF (wh need 4 cap) ?_;apply Nat.max_le.2;omega
theorem zh(K:SR Q σ X){sz:Nat}{y:V}{u:Value}(v:VR σ X y u){m:Nat}{ys:List C}(h:cO X.H sz y=aa (m,ys)) :
  ∃ F,(Builtin.lenOf u).run Q X.w=.ok m X.w∧(Builtin.firstCells sz m u).run Q X.w=.ok F.toArray X.w∧A2 (CR σ X) ys F∧ys.length=m*sz:=by
 unfold cO at h;split at h
 ·rename_i s;have:=VR.str v;subst this;split at h
  case isFalse=>simp at h
  rename_i q;subst q;simp only [At,OF]at h;obtain⟨rfl,rfl⟩:=h;have g:s.extract 0 s.size=s:=ByteArray.extract_zero_size;refine⟨s.data.toList.map fun b=>.int .u8 b.toNat,by simp [Builtin.lenOf],?_,?_,?_⟩
  ·simp only [Builtin.firstCells,g,Sem.run_pure]
   congr 1
   apply Array.ext';simp
  ·rw [ByteArray.toList_eq];exact⟨by simp,fun i x u E B=>by
    simp only [aq0,IT]at E B;obtain⟨c,L,rfl⟩:=E;obtain⟨d,z,rfl⟩:=B;rw [L]at z;cases z;exact cM.int _ _⟩
  ·rw [ByteArray.toList_eq];simp only [aqr,Array.length_toList,Nat.mul_one];rfl
 ·rename_i x M;split at h
  ·rename_i l cs A j;simp only [At,OF]at h;obtain⟨rfl,rfl⟩:=h;obtain⟨us,H,I,J⟩:=ky K v A j;obtain⟨a,c,rfl⟩:=gX v A;exact⟨us,by simp [Builtin.lenOf],H,I,J⟩
  ·simp at h
 ·simp at h
structure amG(Q:Program)(t t' e:TypeId)(sz bytes:Nat):Prop where
 hu:Q.underlying t=aa (.slice e)
 hu':∃ d,Q.underlying t'=aa d∧(∀ k,d≠.int k)
 mL:dq Q e sz=ae
 hby:me Q e bytes=ae
 pos:0<sz
 zero:∃ i z,Q.info? e=aa i∧i.zero=aa z∧z.cells.size=sz
def qO(base:Option Addr)(k:Nat)(b:List Value):Sem Unit:=match base with
 | some a=>storeCells (a.add k) b| none=>pure ()
theorem jc{t O e:TypeId}{sz bytes:Nat}(j:amG Q t O e sz bytes)(W:TypeId){base:Option Addr}{l cap m:Nat}{u:Value}{g:List Value}{w:World}
  (S:(Builtin.lenOf u).run Q w=.ok m w) (Y:(Builtin.firstCells sz m u).run Q w=.ok g.toArray w) :
  (l+m≤cap→(Builtin.append_ #[t,O] W #[.slice base l cap,u]).run Q w =
   ((qO base (l*sz) g).run Q w).andThen fun _ w'=>.ok (.slice base (l+m) cap) w') ∧
  (¬ l+m≤cap→bP (l+m) bytes=ae→∀ os g:List Value,(Builtin.firstCells sz l (.slice base l cap)).run Q w.drew=.ok os.toArray w.drew→(Builtin.firstCells sz m u).run Q w.drew=.ok g.toArray w.drew →
   ∃ nc rest w',l+m≤nc∧(Builtin.append_ #[t,O] W #[.slice base l cap,u]).run Q w=.ok (.slice (aa ⟨w.heap.size,0,ab⟩) (l+m) nc) w' ∧
    dL w w' (.cells (os++g++rest).toArray e)∧rest.length=(nc-(l+m))*sz):=by
 obtain⟨d,U,F⟩:=j.hu';obtain⟨i,z,hi,hz,y⟩:=j.zero;obtain⟨q,s,B⟩:=yd j.hby w;have A:((d matches .int _):Bool)=ag:=by
  cases d with
  | int k=>exact absurd rfl (F k)| _=>rfl
 constructor
 ·intro I;simp only [Builtin.append_,ar5];simp [aY j.hu,aY U,cY j.mL,A,S,I,Y];cases base<;>simp [qO]
 ·intro H b os g Z h4;unfold bP at b;simp only [If,decide_eq_true_eq]at b;have v:q=i:=by
   simp [typeInfo,hi]at s;exact s.symm
  subst v;have J:¬ (Builtin.nextslicecap (l+m) cap*q.bytes>2 ^ 48):=by
   rw [B];have:=tF (need:=l+m) (cap:=cap) (by omega);have:=aq3 bytes this;omega
  let nc:=(Question.appendCap (l+m) cap e).cut (w.tape w.drawn (.appendCap (l+m) cap e))
  have K:l+m≤nc:=by simp [nc,Question.cut]
  refine⟨nc,cu (nc-(l+m)) z.cells.toList,w.drew.alloc (.cells (os++g++cu (nc-(l+m)) z.cells.toList).toArray e),K,?_,⟨rfl,rfl,rfl,rfl⟩,by rw [jS];simp [y]⟩;have E:(choose (.appendCap (l+m) cap e)).run Q w=.ok nc w.drew:=by
   simp [choose,Sem.run,Question.forced,nc]
  have M:Builtin.zeroCells z.cells (nc-(l+m))=(cu (nc-(l+m)) z.cells.toList).toArray:=by
   have:=gZ z.cells.toList (nc-(l+m)) (by simp [y];exact j.pos);simpa [Builtin.zeroCells]using this
  have x:¬ (((l+m:Nat):Int)>IntKind.i64.max):=by
   have:IntKind.i64.max=9223372036854775807:=by decide
   rw [this];omega
  have N:∀ w',(zeroValue e).run Q w'=.ok z w':=fun w'=>by simp [zeroValue,typeInfo,hi,hz]
  have L:∀ w',(typeInfo e).run Q w'=.ok q w':=fun w'=>by simp [typeInfo,hi]
  simp only [Builtin.append_,Sem.run_bind,aY j.hu,aY U,cY j.mL,A,Result.andThen_ok,Sem.run_pure,aqw,if_false,S,aW H,Sem.run_ite,L,x,false_and,J,E,run_askRoom,Z,
   Bool.not_false,if_true,h4,N,M,newRow,run_newObj,ar5,arL,ar1]
  have X:os.toArray++g.toArray++(cu (nc-(l+m)) z.cells.toList).toArray=(os++g++cu (nc-(l+m)) z.cells.toList).toArray:=by simp
  rw [X];rfl
theorem SR.drew(b:SR Q σ X):SR Q σ { X with w:=X.w.drew }∧Ext X.H.length X { X with w:=X.w.drew }:=by
 have d:Ext X.H.length X { X with w:=X.w.drew }:=Ext.one b X.H.length rfl (fun _ _=>Iff.rfl) (fun _ _ _=>rfl) (fun _ _ _ _=>rfl) (fun h=>by omega)
  (fun _ _ _=>rfl) (fun _ _=>rfl) (fun L h=>.inl ⟨L,h,rfl⟩) (aft _) rfl rfl rfl
 exact⟨SR.step Q σ b d X.H.length (fun _ _=>rfl) (fun _ _=>rfl) (fun _ _ _ _=>rfl) (fun _ _ _ _ _ h=>h) (fun L h=>by
  change X.cr X.H.length=aa L at h;rw [SR.qM b]at h;simp at h) b.fb,d⟩
theorem ZE(l:SR Q σ X)(A:X.B≤X.w.heap.size){sz:Nat}(d:0<sz){cs:List C}{us rest:List Value}(h:A2 (CR σ X) cs us){n nc:Nat}(q:cs.length=n*sz)(F:rest.length=(nc-n)*sz)(E:n≤nc)
  {e:TypeId} {w':World} (s:dL X.w w' (.cells (us++rest).toArray e)) :
  ∃ X',X'.w=w'∧X'.H=X.H++[.bT sz cs 0 0 .loc]∧SR Q σ X'∧Ext X.H.length X X'∧VR σ X' (.c (.sl X.H.length 0 n 0 0 sz)) (.slice (aa ⟨X.w.heap.size,0,ab⟩) n nc)∧X'.B≤X'.w.heap.size:=by
 obtain⟨X',u,j,v,x,y,z⟩:=SR.new l A (.bT sz cs 0 0 .loc) s nc fun X' H g B _=>⟨rfl,us,rest,by rw [g];exact iQ s,A2.ext' σ H h,by
  have:=h.len;rw [api,F,←this,q,←aqT];congr 1;show n+(nc-n)=nc;omega,d,⟨n,q⟩,fun i _ m=>by rw [B]at m;have:=l.fb _ _ m;simp at this⟩
 refine⟨X',u,j,v,x,?_,z⟩;have b:X'.H[X.H.length]?=aa (.bT sz cs 0 0 .loc):=by rw [j];simp
 simp only [VR,gq,CR,eX,b];exact⟨aft _,fun _ _=>⟨_,y,0,by omega,by show 0+n≤nc;omega,by simp⟩,_,_,_,rfl⟩
theorem rS(q:SR Q σ X)(N:X.B≤X.w.heap.size){b sz:Nat}{v cs:List C}{fl ep:Nat}{st:Os}(E:X.H[b]?=aa (.bT sz v fl ep st)){ys:List C}{us A rest:List Value}(F:A2 (CR σ X) cs us)(J:A2 (CR σ X) ys A)
  (z:0<sz) {n nc:Nat} (I:cs.length+ys.length=n*sz) (U:rest.length=(nc-n)*sz) (S:n≤nc) {e:TypeId} {w':World} (j:dL X.w w' (.cells (us++A++rest).toArray e)) :
  ∃ X',X'.w=w'∧X'.H=X.H.set b (.bT sz (cs++ys) fl (ep+1) .loc)∧SR Q σ X'∧Ext X.H.length X X'∧VR σ X' (.c (.sl b 0 n 0 (ep+1) sz)) (.slice (aa ⟨X.w.heap.size,0,ab⟩) n nc)∧X'.B≤X'.w.heap.size:=by
 have y:b<X.H.length:=(BY.1 E).1
 let X':Wd:={ X with H:=X.H.set b (.bT sz (cs++ys) fl (ep+1) .loc),cr:=fun k=>if k=b then aa ⟨X.w.heap.size,nc⟩else X.cr k,w:=w' }
 have g:X'.H[b]?=aa (.bT sz (cs++ys) fl (ep+1) .loc):=by simp [X',y]
 have l:X'.cr b=aa ⟨X.w.heap.size,nc⟩:=by simp [X']
 have u:Ext X.H.length X X':=Ext.one q b rfl (fun _ _=>Iff.rfl) (fun k O _=>j.Bf O) (fun L i W x=>World.cell?_of_block (j.Bf (q.fb _ _ x)))
  (fun _ bj d=>⟨_,g,by rw [E]at d;simp only [At]at d;subst d;exact⟨rfl,.inr ⟨by omega,rfl,_,l⟩⟩⟩)
  (fun m h _=>by simp [X',AI (Ne.symm h)]) (fun m h=>by simp [X',h]) (fun L h=>by rw [l]at h;simp only [At]at h;subst h;exact .inr (aft _)) (by show X.w.heap.size≤w'.heap.size;rw [j.size];omega) j.os j.tape j.output
 refine⟨X',rfl,rfl,SR.step Q σ q u b (fun m h=>by simp [X',AI (Ne.symm h)]) (fun m h=>by simp [X',h]) (fun m L _ s=>j.Bf (q.br m L s).2.1) (fun _ _ _ _ _ h=>h) (fun L h=>?_) (fun c i h=>?_),u,?_,?_⟩
 ·rw [l]at h;simp only [At]at h;subst h;refine⟨N,by show X.w.heap.size<w'.heap.size;rw [j.size];omega,⟨_,g,rfl,us++A,rest,iQ j,(A2.ext' σ u F).append (A2.ext' σ u J),?_,z,⟨n,by simpa using I⟩,fun i _ x=>?_⟩,fun m B _ s=>?_⟩
  ·have K:=F.len;have M:=J.len;rw [api,api,U,←K,←M,I,←aqT];congr 1;show n+(nc-n)=nc;omega
  ·have:=q.fb _ _ x;simp at this
  ·have:=(q.br m B s).2.1;show B.c≠X.w.heap.size;omega
 ·have:=q.fb c i h;show c<w'.heap.size;rw [j.size];omega
 ·simp only [VR,gq,CR,eX,g];exact⟨aft _,fun _ _=>⟨_,l,0,by omega,by show 0+n≤nc;omega,by simp⟩,_,_,_,rfl⟩
 ·show X.B≤w'.heap.size;rw [j.size];omega
end
section
variable{Q:Program}{σ:Nat→FuncId}{X:Wd}
theorem tN{d:Type}(us rest b:List d)(h:b.length≤rest.length):over (us++rest) us.length b=us++b++rest.drop b.length:=by
 unfold over;rw [List.take_left',←List.drop_drop,List.drop_left']
 all_goals rfl
theorem alg(K:SR Q σ X){b sz:Nat}{cs:List C}{fl ep:Nat}{L:Loc}(y:X.H[b]?=aa (.bT sz cs fl ep .loc))(x:X.cr b=aa L){ys:List C}{l:List Value}(F:A2 (CR σ X) ys l)(W:fl≤cs.length)
  {n:Nat} (Y:cs.length+ys.length=n*sz) (m:n≤L.cap):∃ X',(storeCells ⟨L.c,cs.length,ab⟩ l).run Q X.w=.ok () X'.w∧X'.H=X.H.set b (.bT sz (cs++ys) fl (ep+1) .loc)∧SR Q σ X' ∧
   Ext X.H.length X X'∧VR σ X' (.c (.sl b 0 n 0 (ep+1) sz)) (.slice (aa ⟨L.c,0,ab⟩) n L.cap)∧X'.w.heap.size=X.w.heap.size∧X'.B=X.B:=by
 obtain⟨_,_,bj,j,z⟩:=K.br b L x;rw [y]at j;simp only [At]at j;subst j;obtain⟨_,us,rest,A,H,J,S,k,I⟩:=z;have q:b<X.H.length:=(BY.1 y).1;have Z:=F.len;have g:=H.len;have E:n*sz≤L.cap*sz:=aq3 sz m;have B:l.length≤rest.length:=by simp only [api]at J;omega
 obtain⟨M,a,c,e,f,v⟩:=dU A l cs.length (by simp;omega);rw [g,tN _ _ _ B]at v;rw [←g]at v;obtain⟨N,O⟩:=SR.turn K (blk':=.bT sz (cs++ys) fl (ep+1) .loc) y x M a (fun i U=>by
   have hi:i<fl:=by
    rcases aqY i fl with h | h
    ·exact h
    ·exact absurd U (I i h)
   have:=dh v i;rw [g]at this ⊢;rw [this,dh A,List.append_assoc,AT (by omega),AT (by omega)]) c e f
  (fun bj d=>⟨.bT sz (cs++ys) fl (ep+1) .loc,by simp [q],by rw [y]at d;simp only [At]at d;subst d;exact⟨rfl,.inr ⟨by omega,rfl,L,x⟩⟩⟩)
  (fun u=>⟨rfl,us++l,rest.drop l.length,by rw [g]at v ⊢;exact v,(A2.ext' σ u H).append (A2.ext' σ u F),by simp only [api,aqy]at J ⊢;omega,S,⟨n,by simpa using Y⟩,I⟩)
 refine⟨_,qP A l cs.length (by simp;omega) (A2.one F),rfl,N,O,?_,M,rfl⟩;have s:(X.H.set b (.bT sz (cs++ys) fl (ep+1) .loc))[b]?=aa (.bT sz (cs++ys) fl (ep+1) .loc):=by simp [q]
 simp only [VR,gq,CR,eX,s];exact⟨aft _,fun _ _=>⟨L,x,0,by omega,by omega,by simp⟩,_,_,_,rfl⟩
theorem xQ{c:Call}{sz bytes:Nat}{x y:Arg}(h:dM Q σ c (.append sz bytes x y)=ae):∃ u v t m e,c.callee=.builtin .append∧c.args=#[u,v]∧c.argTypes=#[t,m]∧mA σ x u=ae∧mA σ y v=ae ∧
  amG Q t m e sz bytes:=by
 simp only [dM]at h;split at h
 ·rename_i u v t m B E F;simp only [If]at h;obtain⟨⟨⟨I,J⟩,l⟩,g⟩:=h;obtain⟨e,H,l⟩:=gL l;simp only [If,decide_eq_true_eq]at l;obtain⟨⟨⟨s,q⟩,d⟩,j⟩:=l;have A:∃ i z,Q.info? e=aa i∧i.zero=aa z∧z.cells.size=sz:=by
   cases hi:Q.info? e with
   | none=>simp [hi]at j
   | some i=>
    simp only [hi,Option.any_some]at j;cases b:i.zero with
    | none=>simp [b]at j| some z=>simp [b]at j;exact⟨i,z,rfl,b,j⟩
  refine⟨u,v,t,m,e,B,afj E,afj F,I,J,⟨H,?_,s,q,d,A⟩⟩;split at g
  ·exact⟨_,by assumption,fun k=>by simp⟩
  ·exact⟨_,by assumption,fun k=>by simp⟩
  ·simp at g
 ·simp at h
theorem vH(W:SR Q σ X)(hB:X.B≤X.w.heap.size){a:Act}{aw:T}(hR:RR σ X aw a.tmps){o:Oper}{sz bytes:Nat}{x y:Arg}(hm:dG Q σ o (.append sz bytes x y)=ae){v:V}{H':aj}
  (h:bl aw X.H (.append sz bytes x y)=aa (v,H')):gw Q σ X v H' (execOp a.eval o):=by
 simp only [dG]at hm;split at hm
 ·rename_i c ho;obtain⟨u,v',t,t',e,h1,h2,h3,hx,hy,ht⟩:=xQ hm;have hx:=bO hR hx;have hy:=bO hR hy;simp only [bl]at h;generalize m_:a.eval u=ux at hx;generalize n8:a.eval v'=uy at hy;generalize x.ev aw=vx at hx h;generalize y.ev aw=vy at hy h;have a8:∀(r:Value) (w':World),(Builtin.append_ #[t,t'] o.type #[ux,uy]).run Q X.w=.ok r w'→(execOp a.eval o).run Q X.w=.ok (.value r) w':=by
   intro r w' hr;refine dk ho h1 fun cs=>?_;simp [builtin,h2,h3,m_,n8,hr]
  unfold cz at h;split at h
  ·simp at h
  rename_i m ys f7;rw [aW (by have:=ht.pos;omega)]at h;obtain⟨vs,b9,a_,d9,e_⟩:=zh W hy f7;obtain⟨Y,i7⟩:=SR.drew W;obtain⟨a7,_,d_,j5,_⟩:=zh Y (VR.ext' σ i7 hy) f7;have B:A2 (CR σ X) ys a7:=by
   have c_:Ext X.H.length { X with w:=X.w.drew } X:=Ext.one Y X.H.length rfl (fun _ _=>Iff.rfl) (fun _ _ _=>rfl) (fun _ _ _ _=>rfl) (fun h=>absurd h (asc _))
    (fun _ _ _=>rfl) (fun _ _=>rfl) (fun L h=>.inl ⟨L,h,rfl⟩) (aft _) rfl rfl rfl
   exact A2.ext' σ (X:={ X with w:=X.w.drew }) c_ j5
  have H:∀ {base:Option Addr} {l cap:Nat} {os:List Value} {cs:List C},ux=.slice base l cap→¬ l+m≤cap→bP (l+m) bytes=ae →
    (Builtin.firstCells sz l (.slice base l cap)).run Q X.w.drew=.ok os.toArray X.w.drew→A2 (CR σ X) cs os→cs.length=l*sz →
    gw Q σ X (.c (.sl X.H.length 0 (l+m) 0 0 sz)) (X.H++[.bT sz (cs++ys) 0 0 .loc]) (execOp a.eval o):=by
   intro base l cap os cs hu g_ d j_ j9 j8;obtain⟨nc,rest,w',J,j,g,K⟩:=(jc ht o.type (base:=base) (l:=l) (cap:=cap) b9 a_).2 g_ d os a7 j_ d_;obtain⟨X',N,I,O,S,U,g6⟩:=ZE W hB ht.pos (cs:=cs++ys) (us:=os++a7) (j9.append B) (n:=l+m) (nc:=nc) (by rw [api,j8,e_,aqT]) K J g;exact⟨_,X',.inl (by rw [N];exact a8 _ _ (by rw [hu];exact j)),I,O,U,S,g6⟩
  have A:∀ {base:Option Addr} {l cap:Nat} {X':Wd},ux=.slice base l cap→l+m≤cap→(qO base (l*sz) vs).run Q X.w=.ok () X'.w →
    (execOp a.eval o).run Q X.w=.ok (.value (.slice base (l+m) cap)) X'.w:=by
   intro base l cap X' hu q m9;refine a8 _ _ ?_;rw [hu,(jc ht o.type (base:=base) (l:=l) (cap:=cap) b9 a_).1 q,m9];rfl
  split at h
  ·
   cases (hx:cM σ X.F X.w .au ux);split at h
   ·rename_i Z;subst Z;simp only [At,OF]at h;obtain⟨rfl,rfl⟩:=h;exact⟨_,X,.inl (A (X':=X) rfl (by omega) rfl),rfl,W,cM.au,Ext.refl _ _,hB⟩
   ·split at h
    ·rename_i d;simp only [At,OF]at h;obtain⟨rfl,rfl⟩:=h;have:=H (base:=ab) (l:=0) (cap:=0) (os:=[]) (cs:=[]) rfl (by omega) (by simpa using d) (by simp [Builtin.firstCells]) A2.nil (by simp);simpa using this
    ·simp at h
  ·
   cases (hx:cM σ X.F X.w .es ux);rename_i ad;split at h
   ·rename_i Z;subst Z;simp only [At,OF]at h;obtain⟨rfl,rfl⟩:=h;have i5:vs=[]:=aqu (by rw [←d9.len,e_];simp);exact⟨_,X,.inl (A (X':=X) rfl (by omega) (by rw [i5];rfl)),rfl,W,cM.es _,Ext.refl _ _,hB⟩
   ·split at h
    ·rename_i d;simp only [At,OF]at h;obtain⟨rfl,rfl⟩:=h;have:=H (base:=aa ad) (l:=0) (cap:=0) (os:=[]) (cs:=[]) rfl (by omega) (by simpa using d) (by simp [Builtin.firstCells,loadCells,loadCellsFrom]) A2.nil (by simp);simpa using this
    ·simp at h
  ·rename_i b off l cap ep s;have i6:CR σ X (.sl b off l cap ep s) ux:=hx;simp only [VR,gq,CR,eX]at hx;split at h
   ·
    rename_i cs fl F;rw [F]at hx;obtain⟨L,hL,o_,rfl⟩:=hx;split at h
    ·rename_i q;split at h
     ·rename_i hc;simp only [At,OF]at h;obtain⟨rfl,rfl⟩:=h;obtain⟨X',N,I,O,S,U,g6,g7⟩:=A_ W F hL d9 hc.1 hc.2;refine⟨_,X',.inl (A rfl q (by simp only [qO,dX];exact N)),I,O,?_,S,by omega⟩;have b_:X'.H[b]?=aa (.box (over cs (off+l*sz) ys) fl):=by rw [I];simp [(BY.1 F).1]
      simp only [VR,gq,CR,eX,b_];exact⟨L,by rw [U];exact hL,q,rfl⟩
     ·simp at h
    ·rename_i g_;split at h
     ·rename_i hc;simp only [At,OF]at h;obtain⟨rfl,rfl⟩:=h;have h_:cK X.H sz (.sl b off l cap ep s)=aa ((cs.drop off).take (l*sz)):=by simp [cK,F,hc.2]
      have i4:bu X.H (.sl b off l cap ep s)=aa l:=by simp [bu,F]
      obtain⟨os,q1,q2,q3⟩:=ky Y (CR.ext' σ i7 i6) i4 h_;have i8:A2 (CR σ X) ((cs.drop off).take (l*sz)) os:=by
       have c_:Ext X.H.length { X with w:=X.w.drew } X:=Ext.one Y X.H.length rfl (fun _ _=>Iff.rfl) (fun _ _ _=>rfl) (fun _ _ _ _=>rfl) (fun h=>absurd h (asc _))
        (fun _ _ _=>rfl) (fun _ _=>rfl) (fun L h=>.inl ⟨L,h,rfl⟩) (aft _) rfl rfl rfl
       exact A2.ext' σ (X:={ X with w:=X.w.drew }) c_ q2
      exact H rfl g_ hc.1 q1 i8 q3
     ·simp at h
   ·
    rename_i s' cs fl e' st F;rw [F]at hx;split at h
    ·rename_i hc;obtain⟨rfl,rfl,rfl⟩:=hc;have M:=hx.2.1 rfl rfl;split at h
     ·
      rename_i Z;subst Z;simp only [At,OF]at h;obtain⟨rfl,rfl⟩:=h;have i5:vs=[]:=aqu (by rw [←d9.len,e_];simp);obtain⟨base,n,cp,E⟩:=hx.2.2;have m4:n=l∧l≤cp:=by
       cases st with
       | loc=>obtain⟨L,_,k,_,hk,h8⟩:=M;rw [E]at h8;simp only [Value.slice.injEq]at h8;omega
       | nil=>obtain⟨_,rfl,h8⟩:=M;rw [E]at h8;simp only [Value.slice.injEq]at h8;omega
       | es=>obtain⟨_,rfl,_,h8⟩:=M;rw [E]at h8;simp only [Value.slice.injEq]at h8;omega
      obtain⟨rfl,n_⟩:=m4;refine⟨.slice base (n+0) cp,X,.inl (A (X':=X) E (by omega) (by rw [i5];cases base<;>rfl)),rfl,W,?_,Ext.refl _ _,hB⟩;rw [arU,←E];exact i6
     ·rename_i Z;split at h
      ·
       rename_i hc;obtain⟨rfl,z,i9⟩:=hc;split at h
       ·rename_i d;simp only [At,OF]at h;obtain⟨rfl,rfl⟩:=h;have hn:cs.length+ys.length=(l+m)*s:=by rw [e_,←z,aqT]
        cases st with
        | loc=>
         obtain⟨L,hL,k,l_,hk,rfl⟩:=M;have j4:k=0:=by
          rcases asf.1 l_.symm with h8 | h8
          ·exact h8
          ·have:=ht.pos;omega
         subst j4;rw [Nat.sub_zero]at *;by_cases q:l+m≤L.cap
         ·obtain⟨X',N,I,O,S,U,g6,g7⟩:=alg W F hL d9 i9 hn q;exact⟨_,X',.inl (A rfl q (by simp only [qO,dX];rw [z,aqV];exact N)),I,O,U,S,by omega⟩
         ·have h_:cK X.H s (.sl b 0 l cap ep s)=aa ((cs.drop 0).take (l*s)):=by simp [cK,F,z]
          have i4:bu X.H (.sl b 0 l cap ep s)=aa l:=by simp [bu,F]
          obtain⟨os,q1,q2,q3⟩:=ky Y (CR.ext' σ i7 i6) i4 h_;have i8:A2 (CR σ X) cs os:=by
           have c_:Ext X.H.length { X with w:=X.w.drew } X:=Ext.one Y X.H.length rfl (fun _ _=>Iff.rfl) (fun _ _ _=>rfl) (fun _ _ _ _=>rfl) (fun h=>absurd h (asc _))
            (fun _ _ _=>rfl) (fun _ _=>rfl) (fun L h=>.inl ⟨L,h,rfl⟩) (aft _) rfl rfl rfl
           have:=A2.ext' σ (X:={ X with w:=X.w.drew }) c_ q2;rwa [aro,z,List.take_length]at this
          obtain⟨nc,rest,w',J,j,g,K⟩:=(jc ht o.type (base:=aa ⟨L.c,0,ab⟩) (l:=l) (cap:=L.cap) b9 a_).2 q d os a7 q1 d_;obtain⟨X',N,I,O,S,U,g6⟩:=rS W hB F i8 B ht.pos hn K J g;exact⟨_,X',.inl (by rw [N];exact a8 _ _ (by simpa using j)),I,O,U,S,g6⟩
        | nil=>
         obtain⟨_,rfl,rfl⟩:=M;have f_:cs=[]:=aqu (by simpa using z.symm);subst f_;obtain⟨nc,rest,w',J,j,g,K⟩:=(jc ht o.type (base:=ab) (l:=0) (cap:=0) b9 a_).2 (by omega) d [] a7 (by simp [Builtin.firstCells]) d_;obtain⟨X',N,I,O,S,U,g6⟩:=rS W hB F (us:=[]) A2.nil B ht.pos hn K J g;exact⟨_,X',.inl (by rw [N];exact a8 _ _ j),I,O,U,S,g6⟩
        | es=>
         obtain⟨_,rfl,ad,rfl⟩:=M;have f_:cs=[]:=aqu (by simpa using z.symm);subst f_;obtain⟨nc,rest,w',J,j,g,K⟩:=(jc ht o.type (base:=aa ad) (l:=0) (cap:=0) b9 a_).2 (by omega) d [] a7 (by simp [Builtin.firstCells,loadCells,loadCellsFrom]) d_;obtain⟨X',N,I,O,S,U,g6⟩:=rS W hB F (us:=[]) A2.nil B ht.pos hn K J g;exact⟨_,X',.inl (by rw [N];exact a8 _ _ j),I,O,U,S,g6⟩
       ·simp at h
      ·split at h
       ·
        rename_i hc;obtain⟨rfl,i_,k_⟩:=hc;simp only [At,OF]at h;obtain⟨rfl,rfl⟩:=h;obtain⟨L,hL,k,rfl,hk,rfl⟩:=M;obtain⟨_,_,bj,f8,j7⟩:=W.br b L hL;rw [F]at f8;simp only [At]at f8;subst f8;obtain⟨_,us,rest,hr,j6,h6,h7,h8,n9⟩:=j7;have q:l+m≤L.cap-k:=by
         have e1:(k+(l+m))*s≤L.cap*s:=by
          rw [aqT,aqT];have:=j6.len;simp only [api]at h6;omega
         have:=Nat.le_of_mul_le_mul_right e1 h7;omega
        obtain⟨X',N,I,O,S,U,g6,g7⟩:=Ba W F hL d9 i_ k_;refine⟨_,X',.inl (A rfl q (by simp only [qO,dX];exact N)),I,O,?_,S,by omega⟩;have b_:X'.H[b]?=aa (.bT s (over cs (k*s+l*s) ys) fl ep .loc):=by rw [I];simp [(BY.1 F).1]
        simp only [VR,gq,CR,eX,b_];exact⟨aft _,fun _ _=>⟨L,by rw [U];exact hL,k,rfl,by omega,rfl⟩,_,_,_,rfl⟩
       ·simp at h
    ·simp at h
   ·simp at h
  ·simp at h
 ·simp at hm
end
section
variable{Q:Program}{σ:Nat→FuncId}{X:Wd}
theorem Cf{c:Call}{sz bytes:Nat}{zs:List FC}{x y:Arg}(h:dM Q σ c (.ka sz bytes zs x y)=ae):∃ u v t j e k,c.callee=.builtin .append∧c.args=#[u,v]∧c.argTypes=#[t,j]∧mA σ x u=ae∧mA σ y v=ae ∧
  Q.underlying t=aa (.slice e)∧dq Q e sz=ae∧me Q e bytes=ae∧0<sz∧jU Q e zs=ae∧Q.underlying j=aa (.int k):=by
 simp only [dM]at h;split at h
 ·rename_i u v t j q s z;simp only [If]at h;obtain⟨⟨⟨E,F⟩,g⟩,d⟩:=h;obtain⟨e,B,g⟩:=gL g;simp only [If,decide_eq_true_eq]at g;obtain⟨⟨⟨m,l⟩,b⟩,H⟩:=g;split at d
  ·rename_i k A;exact⟨u,v,t,j,e,k,q,afj s,afj z,E,F,B,m,l,b,H,A⟩
  ·simp at d
 ·simp at h
theorem aaV{n:Nat}(h:n<2 ^ 48):IntKind.i64.wrap (n:Int)=n:=by
 simp only [IntKind.wrap,IntKind.bits,IntKind.signed];have b:(2 ^ 64:Int)=18446744073709551616:=by decide
 have d:(2 ^ (64-1):Int)=9223372036854775808:=by decide
 have g:(2:Nat) ^ 48=281474976710656:=by decide
 simp only [b,d,arb,decide_eq_true_eq];split<;>omega
theorem ua{t Z e:TypeId}{sz bytes:Nat}{k k':IntKind}(c:Q.underlying t=aa (.slice e))(A:Q.underlying Z=aa (.int k))(x:dq Q e sz=ae)(F:me Q e bytes=ae)(a:0<sz)
  {z:Value} {us:List Value} {i:TypeInfo} (hi:Q.info? e=aa i) (r:i.zero=aa z) (U:z.cells=us.toArray) (N:us.length=sz) (f:TypeId) {base:Option Addr} {n:Nat} {w:World} :
  (n=0→(Builtin.append_ #[t,Z] f #[.slice base 0 0,.int k' (n:Int)]).run Q w=.ok (.slice base 0 0) w) ∧
  (n≠0→bP n bytes=ae→∃ nc rest w',n≤nc∧(Builtin.append_ #[t,Z] f #[.slice base 0 0,.int k' (n:Int)]).run Q w=.ok (.slice (aa ⟨w.heap.size,0,ab⟩) n nc) w' ∧
   dL w w' (.cells (cu n us++rest).toArray e)∧rest.length=(nc-n)*sz):=by
 obtain⟨g,l,s⟩:=yd F w;have u:g=i:=by simp [typeInfo,hi]at l;exact l.symm
 subst u;have y:∀ w',(typeInfo e).run Q w'=.ok g w':=fun w'=>by simp [typeInfo,hi]
 have Y:∀ w',(zeroValue e).run Q w'=.ok z w':=fun w'=>by simp [zeroValue,typeInfo,hi,r]
 have j:∀(q:Int) w',(asInt (.int k' q)).run Q w'=.ok q w':=fun q w'=>by simp [asInt,asIntOf]
 constructor
 ·rintro rfl;have O:IntKind.i64.wrap 0=0:=by decide
  simp only [Builtin.append_,ar5];simp [aY c,aY A,cY x,y,j,O];cases base<;>simp [storeCells]
 ·intro hn b;have E:=b;unfold bP at b;simp only [If,decide_eq_true_eq]at b;have S:=aaV b.2;have K:¬ (Builtin.nextslicecap n 0*g.bytes>2 ^ 48):=by
   rw [s];have:=tF (need:=n) (cap:=0) (by omega);have:=aq3 bytes this;omega
  let nc:=(Question.appendCap n 0 e).cut (w.tape w.drawn (.appendCap n 0 e))
  have L:n≤nc:=by simp [nc,Question.cut]
  have H:(choose (.appendCap n 0 e)).run Q w=.ok nc w.drew:=by
   simp [choose,Sem.run,Question.forced,nc]
  have X:∀ m,Builtin.zeroCells z.cells m=(cu m us).toArray:=fun m=>by
   have:=gZ us m (by omega);simpa [Builtin.zeroCells,U]using this
  have v:¬ ((n:Int)>IntKind.i64.max):=by
   have:IntKind.i64.max=9223372036854775807:=by decide
   have e3:(2:Nat) ^ 48=281474976710656:=by decide
   rw [this];omega
  have I:¬ ((n:Int)<0):=by omega
  have J:¬ ((n:Int)*(g.bytes:Int)>2 ^ 48):=by
   rw [s];have o:n*bytes≤2 ^ 48:=aqF (aq3 bytes (by omega:n≤2*n+768)) b.1;have p:((n*bytes:Nat):Int)≤2 ^ 48:=by
    have B:((2 ^ 48:Nat):Int)=2 ^ 48:=by decide
    rw [←B];exact Int.ofNat_le.2 o
   rw [ar2]at p;omega
  have d:(Builtin.firstCells sz 0 (.slice base 0 0)).run Q w.drew=.ok #[] w.drew:=by
   cases base<;>simp [Builtin.firstCells,loadCells,loadCellsFrom]
  have M:¬ (n*sz=0):=by
   intro h;rcases asf.1 h with h | h<;>omega
  refine⟨nc,cu (nc-n) us,w.drew.alloc (.cells (cu n us++cu (nc-n) us).toArray e),L,?_,⟨rfl,rfl,rfl,rfl⟩,by rw [jS,N]⟩;have W:¬ (n≤0):=by omega
  have hint:((n:Int)).toNat=n:=by simp
  simp only [Builtin.append_,Sem.run_bind,aY c,aY A,cY x,Result.andThen_ok,Sem.run_pure,aqw,if_false,Sem.run_ite,y,false_and,K,H,run_askRoom,
   Bool.not_true,if_true,Y,X,newRow,run_newObj,ar5,arL,ar1,j,S,I,J,hint,aqV,W,v,M,d,true_or,and_true,Bool.true_eq]
  have B:#[]++(cu n us).toArray++(cu (nc-n) us).toArray=(cu n us++cu (nc-n) us).toArray:=by simp
  first
   | (rw [B];rfl)
   | (simp [B];rfl)
theorem afi(U:SR Q σ X)(S:X.B≤X.w.heap.size){a:Act}{aw:T}(hR:RR σ X aw a.tmps){o:Oper}{sz bytes:Nat}{zs:List FC}{x y:Arg}(N:dG Q σ o (.ka sz bytes zs x y)=ae){v:V}{H':aj}
  (h:bl aw X.H (.ka sz bytes zs x y)=aa (v,H')):gw Q σ X v H' (execOp a.eval o):=by
 simp only [dG]at N;split at N
 ·rename_i c ho;obtain⟨u,v',t,t',e,k,h1,h2,h3,J,L,f,F,s,g,hz,W⟩:=Cf N;have J:=bO hR J;have L:=bO hR L;simp only [bl]at h;generalize i:a.eval u=O at J;generalize p:a.eval v'=uy at L;generalize x.ev aw=vx at J h;generalize y.ev aw=vy at L h;have l:∀(r:Value) (w':World),(Builtin.append_ #[t,t'] o.type #[O,uy]).run Q X.w=.ok r w'→(execOp a.eval o).run Q X.w=.ok (.value r) w':=by
   intro r w' hr;refine dk ho h1 fun cs=>?_;simp [builtin,h2,h3,i,p,hr]
  unfold sI at h;split at h
  ·rename_i n hn;obtain⟨k',E⟩:=iF L hn;split at h
   ·rename_i hc;obtain⟨z,us,a7,I,M,i0,A,B⟩:=eC (σ:=σ) (X:=X) hz X.w;have H:us.length=sz:=by have:=M.len;simp at this;omega
    obtain⟨m,rfl⟩:∃ m:Nat,n=m:=⟨n.toNat,by omega⟩
    have j:∀ base,O=.slice base 0 0→(v,H')=(.c (.sl X.H.length 0 m 0 0 sz),X.H++[.bT sz ((cu m zs).map .f) 0 0 .loc])→m≠0→bP m bytes=ae→gw Q σ X v H' (execOp a.eval o):=by
     intro base hb he d b;cases he;obtain⟨nc,rest,w',Y,K,q,Z⟩:=(ua (k':=k') f W F s g A B I H o.type (base:=base) (n:=m)).2 d b;obtain⟨X',g1,g2,g3,g4,g5,g6⟩:=ZE U S g (cs:=(cu m zs).map .f) (us:=cu m us) (je M m) (n:=m) (nc:=nc) (by rw [aqr,jS,hc.2]) Z Y q;exact⟨_,X',.inl (by rw [g1];exact l _ _ (by rw [hb,E];exact K)),g2,g3,g5,g4,g6⟩
    split at h
    ·cases (J:cM σ X.F X.w .au O);simp only [aqI]at h;split at h
     ·rename_i d;simp only [At,OF]at h;obtain⟨rfl,rfl⟩:=h;exact⟨_,X,.inl (l _ _ (by rw [E];exact(ua (k':=k') f W F s g A B I H o.type (base:=ab) (n:=m)).1 d)),rfl,U,cM.au,Ext.refl _ _,S⟩
     ·rename_i d;split at h
      ·rename_i b;simp only [At]at h;exact j ab rfl h.symm d b
      ·simp at h
    ·cases (J:cM σ X.F X.w .es O);rename_i w;simp only [aqI]at h;split at h
     ·rename_i d;simp only [At,OF]at h;obtain⟨rfl,rfl⟩:=h;exact⟨_,X,.inl (l _ _ (by rw [E];exact(ua (k':=k') f W F s g A B I H o.type (base:=aa w) (n:=m)).1 d)),rfl,U,cM.es _,Ext.refl _ _,S⟩
     ·rename_i d;split at h
      ·rename_i b;simp only [At]at h;exact j (aa w) rfl h.symm d b
      ·simp at h
    ·simp at h
   ·simp at h
  ·simp at h
 ·simp at N
end
section
variable{Q:Program}{σ:Nat→FuncId}{X:Wd}
theorem akQ(s:SR Q σ X)(m:X.B≤X.w.heap.size){a:Act}{aw:T}{o:Oper}{st:Os}{sz:Nat}(d:dG Q σ o (.pre st sz)=ae){v:V}{H':aj}
  (h:bl aw X.H (.pre st sz)=aa (v,H')):gw Q σ X v H' (execOp a.eval o):=by
 cases st with
 | nil=>
  simp only [bl]at h;split at h
  ·simp at h
  ·simp only [At,OF]at h;obtain⟨rfl,rfl⟩:=h;obtain⟨j,l⟩:=SR.grow s (.bT sz [] 0 0 .nil);have q:VR σ { X with H:=X.H++[.bT sz [] 0 0 .nil] } (.c (.sl X.H.length 0 0 0 0 sz)) (.slice ab 0 0):=by
    have b:(X.H++[bo.bT sz [] 0 0 .nil])[X.H.length]?=aa (.bT sz [] 0 0 .nil):=by simp
    simp only [VR,gq,CR,eX,b];exact⟨aft _,fun _ _=>by simp,_,_,_,rfl⟩
   simp only [dG]at d;split at d
   ·rename_i g;exact⟨.slice ab 0 0,_,.inl (by simp [execOp,g,Act.eval]),rfl,j,q,l,m⟩
   ·rename_i g;exact⟨.slice ab 0 0,_,.inl (by simp [execOp,g,Act.eval]),rfl,j,q,l,m⟩
   ·simp at d
 | _=>simp [dG]at d
theorem ZB(u:SR Q σ X)(s:X.B≤X.w.heap.size){a:Act}{o:Oper}(b:dG Q σ o .i'=ae):gw Q σ X (.c (.mp X.H.length)) (X.H++[.map []]) (execOp a.eval o):=by
 simp only [dG]at b;split at b
 ·rename_i t v;obtain⟨X',g,d,j,l,m,q⟩:=SR.new u s (.map []) (dL.alloc X.w (.map #[] 0)) 0 fun X' z x y _=>⟨[],by rw [x];exact(dL.alloc _ _).new,A2.nil,by simp⟩
  exact⟨.map (aa X.w.heap.size),X',.inl (by rw [g];simp [execOp,v,Instr.makeMap]),d,j,⟨_,m,⟨[],by rw [d];simp⟩,rfl⟩,l,q⟩
 ·simp at b
theorem ZZ(E:SR Q σ X)(A:X.B≤X.w.heap.size){a:Act}{aw:T}(B:RR σ X aw a.tmps){o:Oper}{x:Arg}(d:dG Q σ o (.range x)=ae){v:V}{H':aj}
  (h:bl aw X.H (.range x)=aa (v,H')):gw Q σ X v H' (execOp a.eval o):=by
 simp only [dG]at d;split at d
 ·rename_i t y F;simp only [If]at d;obtain⟨b,j⟩:=d;have b:=bO B b;simp only [bl]at h;split at h
  ·rename_i s H;rw [H]at b;have b:=VR.str b;simp only [At,OF]at h;obtain⟨rfl,rfl⟩:=h;split at j
   ·rename_i I;obtain⟨X',l,g,m,q,u,z⟩:=SR.new E A (.it s 0) (dL.alloc X.w (.stringIter s 0)) 0 fun X' b J K _=>by
     show X'.w.heap[X.w.heap.size]?=_;rw [J];exact(dL.alloc _ _).new
    exact⟨.pointer (aa ⟨X.w.heap.size,0,ab⟩),X',.inl (by rw [l];simp [execOp,F,Instr.range,aY I,b]),g,m,⟨_,u,⟨s,0,by rw [g];simp⟩,rfl⟩,q,z⟩
   ·simp at j
  ·simp at h
 ·simp at d
theorem SR.pD(s:SR Q σ X){b:Nat}{bj blk':bo}{L:Loc}{o o':Obj}(x:X.H[b]?=aa bj)(q:X.cr b=aa L)(ho:X.w.heap[L.c]?=aa o)(m:∀ c e f,o≠.cells c e f)(j:∀ c e f,o'≠.cells c e f)
  (d:kG X { X with H:=X.H.set b blk',w:={ X.w with heap:=X.w.heap.setIfInBounds L.c o' } } b)
  (l:∀ X',Ext X.H.length X X'→X'.w.heap[L.c]?=aa o'→X'.F=X.F→X'.cr=X.cr→X'.H=X.H.set b blk'→BR Q σ X' blk' L) :
  SR Q σ { X with H:=X.H.set b blk',w:={ X.w with heap:=X.w.heap.setIfInBounds L.c o' } }∧Ext X.H.length X { X with H:=X.H.set b blk',w:={ X.w with heap:=X.w.heap.setIfInBounds L.c o' } }:=by
 have g:L.c<X.w.heap.size:=(s.br b L q).2.1;refine SR.turn s x q (by simp) (fun k y=>by simp [Array.getElem?_setIfInBounds_ne (Ne.symm y)]) (fun i _=>?_) rfl rfl rfl d (fun z=>l _ z (by simp [g]) rfl rfl rfl);have u:({ X.w with heap:=X.w.heap.setIfInBounds L.c o' }:World).cell? ⟨L.c,i,ab⟩=ab:=by
  simp only [World.cell?];rw [show(X.w.heap.setIfInBounds L.c o')[L.c]?=aa o' by simp [g]];cases o'<;>simp at j ⊢
 have v:X.w.cell? ⟨L.c,i,ab⟩=ab:=by
  simp only [World.cell?,ho];cases o<;>simp at m ⊢
 rw [u,v]
theorem agj(q:SR Q σ X)(A:X.B≤X.w.heap.size){a:Act}{aw:T}(M:RR σ X aw a.tmps){o:Oper}{x:Arg}(m:dG Q σ o (.next x)=ae){v:V}{H':aj}
  (h:bl aw X.H (.next x)=aa (v,H')):gw Q σ X v H' (execOp a.eval o):=by
 simp only [dG]at m;split at m
 ·rename_i y E;have H:=bO M m;simp only [bl]at h;unfold D5 at h;split at h
  ·rename_i b O;rw [O]at H;obtain⟨L,B,⟨U,S,N⟩,F⟩:=H;split at h
   ·rename_i s pos l;obtain⟨_,_,bj,j,u⟩:=q.br b L B;rw [l]at j;simp only [At]at j;subst j;have g:X.w.heap[L.c]?=aa (.stringIter s pos):=u;split at h
    ·rename_i z;simp only [At,OF]at h;obtain⟨rfl,rfl⟩:=h;obtain⟨I,J⟩:=SR.pD (o':=.stringIter s (pos+(Utf8.decode s pos).2)) (blk':=.it s (pos+(Utf8.decode s pos).2)) q l B g (by simp) (by simp)
      (fun bj d=>⟨.it s (pos+(Utf8.decode s pos).2),by simp [(BY.1 l).1],by rw [l]at d;simp only [At]at d;subst d;exact fun L h=>h⟩)
      (fun X' _ K _ _ _=>K)
     refine⟨.tuple #[.bool ae,.int .i64 pos,.int .i32 (Utf8.decode s pos).1],_,.inl ?_,rfl,I,⟨[.bool ae,.int .i64 pos,.int .i32 (Utf8.decode s pos).1],rfl,?_⟩,J,by simpa using A⟩
     ·simp only [execOp,E];refine dY ?_;simp [Instr.next,F,getObj,setObj,Sem.run,g,z,goInt]
     ·exact A2.cons (cM.bool _) (A2.cons (cM.int _ _) (A2.cons (cM.int _ _) A2.nil))
    ·rename_i z;simp only [At,OF]at h;obtain⟨rfl,rfl⟩:=h;refine⟨.tuple #[.bool ag],X,.inl ?_,rfl,q,⟨[.bool ag],rfl,A2.cons (cM.bool _) A2.nil⟩,Ext.refl _ _,A⟩;simp only [execOp,E];refine dY ?_;simp [Instr.next,F,getObj,Sem.run,g,z]
   ·simp at h
  ·simp at h
 ·simp at m
theorem Aj{s:CK}{d:TypeDesc}(z:(s=.int∧∃ j,d=.int j)∨(s=.str∧d=.string)∨(s=.bool∧d=.bool)){F:Nat→Nat→Prop}{w:World}{k:FC}{v:C}{x:Value}(B:cM σ F w k x) :
  ∀ {R:C→Value→Prop} {l g:List (FC × C)} {b:List MapEntry},A2 (fun e m=>cM σ F w e.1 m.key∧R e.2 m.val) l b→∀(i:Nat),oZ s k v l=aa g →
  (Instr.findNow d x b i=aa ab∧g=l++[(k,v)])∨∃(j:Nat) (u:Value) (m:MapEntry),Instr.findNow d x b i=aa (aa (i+j,u))∧b[j]?=aa m∧Instr.sameNow d x m.key=aa ae∧g=l.set j (k,v)
 | _,[],g,[],_,i,h=>by
  simp only [oZ,At]at h;subst h;exact .inl ⟨rfl,rfl⟩
 | _,[],_,_::_,q,_,_=>by have:=q.len;simp at this
 | _,_::_,_,[],q,_,_=>by have:=q.len;simp at this
 | _,e::l,g,m::b,q,i,h=>by
  obtain⟨⟨H,N⟩,E⟩:=q.of_cons;simp only [oZ]at h;split at h
  ·rename_i A;simp only [At]at h;subst h;have:=sX z B H A;exact .inr ⟨0,m.val,m,by simp [Instr.findNow,this],rfl,this,rfl⟩
  ·rename_i A;simp only [IT]at h;obtain⟨I,J,rfl⟩:=h;have:=sX z B H A;rcases Aj z B E (i+1) J with⟨y,rfl⟩ | ⟨j,u,M,y,K,L,rfl⟩
   ·exact .inl ⟨by simp [Instr.findNow,this,y],rfl⟩
   ·exact .inr ⟨j+1,u,M,by simp [Instr.findNow,this,y];omega,by simpa using K,L,rfl⟩
  ·simp at h
theorem AL{d:TypeDesc}{u v:Value}(h:Instr.sameNow d u v=aa ae)(n:Nat):Instr.sameBits n v u=ae:=by
 unfold Instr.sameNow at h;split at h
 ·split at h
  ·rename_i b;subst b;simp only [At,beq_iff_eq]at h;subst h;simp [Instr.sameBits]
  ·simp at h
 ·simp only [At,beq_toListBytes,beq_iff_eq]at h;simp [Instr.sameBits,beq_toListBytes,h]
 ·simp only [At,beq_iff_eq]at h;subst h;simp [Instr.sameBits]
 ·simp at h
theorem amV{c:C}{u:Value}(h:VR σ X (mV c) u):gq σ X (mV c) u:=by
 cases c
 case cl f cs=>
  simp only [mV]at h ⊢;split at h
  ·rename_i b;rw [ba b];exact h
  ·rename_i b;rw [aW b];exact h
 all_goals exact h
theorem Zs(hS:SR Q σ X)(hB:X.B≤X.w.heap.size){a:Act}{aw:T}(hR:RR σ X aw a.tmps){o:Oper}{ck:CK}{x y z:Arg}(E:dG Q σ o (.iu ck x y z)=ae){v:V}{H':aj}
  (h:bl aw X.H (.iu ck x y z)=aa (v,H')):gw Q σ X v H' (execOp a.eval o):=by
 simp only [dG]at E;split at E
 ·rename_i t x' M Y ho;simp only [If]at E;obtain⟨⟨⟨hx,K⟩,W⟩,ht⟩:=E;have hx:=bO hR hx;have K:=bO hR K;have W:=bO hR W;split at ht
  ·rename_i kt e hu;simp only [bl]at h;split at h
   ·rename_i b k vv c_ f7 g_;rw [c_]at hx;rw [f7]at K;rw [←Zr g_]at W;have W:gq σ X (mV vv) (a.eval Y):=amV W;obtain⟨L,hL,_,b_⟩:=hx;split at h
    ·rename_i es hb;split at h
     ·rename_i a8;simp only [IT,OF]at h;obtain⟨F,hp,rfl,rfl⟩:=h;obtain⟨_,_,bj,N,d_⟩:=hS.br b L hL;rw [hb]at N;simp only [At]at N;subst N;obtain⟨q,I,h2,B⟩:=d_;have go:∀ d,Q.underlying kt=aa d→((ck=.int∧∃ j,d=.int j)∨(ck=.str∧d=.string)∨(ck=.bool∧d=.bool))→gw Q σ X .top (X.H.set b (.map F)) (execOp a.eval o):=by
       intro d A hd;have a7:∀(l:List MapEntry),(Instr.mapUpdate t (a.eval x') (a.eval M) (a.eval Y)).run Q X.w=.ok () { X.w with heap:=X.w.heap.setIfInBounds L.c (.map l.toArray l.length) } →
         A2 (fun(e:FC × C) (m:MapEntry)=>cM σ X.F X.w e.1 m.key∧gq σ X (mV e.2) m.val) F l→(∀(i:Nat) m,l[i]?=aa m→m.born=i)→gw Q σ X .top (X.H.set b (.map F)) (execOp a.eval o):=by
        intro l b9 hA d9;obtain⟨g1,g2⟩:=SR.pD (o':=.map l.toArray l.length) (blk':=.map F) hS hb hL I (by simp) (by simp)
         (fun bj H=>⟨.map F,by simp [(BY.1 hb).1],by rw [hb]at H;simp only [At]at H;subst H;exact fun L h=>h⟩)
         (fun X' U h1 hF _ _=>⟨l,h1,hA.jX fun e m h=>⟨cM.mono U.F U.fw h.1,gq.ext' σ U h.2⟩,d9⟩)
        exact⟨undef,_,.inr ⟨by simp [execOp,ho,b9],rfl⟩,rfl,g1,trivial,g2,by simpa using hB⟩
       rcases Aj (R:=fun c u=>gq σ X (mV c) u) hd K h2 0 hp with⟨J,rfl⟩ | ⟨j,u,m,J,Z,h6,rfl⟩
       ·have O:A2 (fun(e:FC × C) (m:MapEntry)=>cM σ X.F X.w e.1 m.key∧gq σ X (mV e.2) m.val) [(k,vv)] [({ key:=a.eval M,val:=a.eval Y,born:=q.length }:MapEntry)]:=A2.cons (And.intro K W) A2.nil;refine a7 (q++[{ key:=a.eval M,val:=a.eval Y,born:=q.length }]) ?_ (h2.append O) ?_
        rotate_left
        ·intro i m E;by_cases hi:i<q.length
         ·rw [AT hi]at E;exact B i m E
         ·rw [List.getElem?_append_right (by omega)]at E;have e_:i-q.length=0:=by
           have:=(BY.1 E).1;simp at this;omega
          rw [e_]at E;simp only [arL,At]at E;subst E;simp only;omega
        simp [Instr.mapUpdate,aY hu,b_,getObj,setObj,Sem.run,I,gS ht K a8,Instr.findKey,aY A,J]
       ·rw [aqV]at J;refine a7 (q.set j { m with key:=a.eval M,val:=a.eval Y }) ?_ ?_ ?_
        ·have f_:(Instr.keyThatStays m.key (a.eval M)).run Q X.w=.ok (a.eval M) X.w:=by
          simp [Instr.keyThatStays,AL h6 10000]
         have a_:q.modify j (fun e=>{ e with key:=a.eval M,val:=a.eval Y })=q.set j { m with key:=a.eval M,val:=a.eval Y }:=by
          apply arI;intro i;simp only [List.getElem?_modify,ar6];by_cases s:j=i
          ·subst s;have S:=(BY.1 Z).1;have f8:=(BY.1 Z).2;simp [Z,S,f8]
          ·simp [s]
         simp [Instr.mapUpdate,aY hu,b_,getObj,setObj,Sem.run,I,gS ht K a8,Instr.findKey,aY A,J,Z,f_,a_]
        ·refine⟨by simpa using h2.len,fun i e' m' he g=>?_⟩;rw [ar6]at he g;split at he
         ·rename_i s;subst s;simp only [if_true]at g;have S:=(BY.1 Z).1;have h_:=h2.len;rw [ba (by omega)]at he;rw [ba S]at g;simp only [At]at he g;subst he;subst g;exact⟨K,W⟩
         ·rename_i s;rw [aW s]at g;exact h2.2 i e' m' he g
        ·intro i m' g;rw [ar6]at g;split at g
         ·rename_i s;subst s;split at g
          ·simp only [At]at g;subst g;exact B j m Z
          ·simp at g
         ·exact B i m' g
      rcases km ht with⟨J,j,A⟩ | ⟨J,A⟩ | ⟨J,A⟩
      ·exact go _ A (.inl ⟨J,j,rfl⟩)
      ·exact go _ A (.inr (.inl ⟨J,rfl⟩))
      ·exact go _ A (.inr (.inr ⟨J,rfl⟩))
     ·simp at h
    ·simp at h
   ·simp at h
  ·simp at ht
 ·simp at E
theorem Af{c:Call}{sz:Nat}{zs:List FC}{x:Arg}(h:dM Q σ c (.clear sz zs x)=ae):∃ y t e,c.callee=.builtin .clear∧c.args=#[y]∧c.argTypes=#[t]∧mA σ x y=ae∧Q.underlying t=aa (.slice e)∧dq Q e sz=ae∧jU Q e zs=ae:=by
 simp only [dM]at h;split at h
 ·rename_i y t d g j;simp only [If]at h;obtain⟨m,b⟩:=h;obtain⟨e,l,b⟩:=gL b;simp only [If]at b;exact⟨y,t,e,d,uN g,uN j,m,l,b.1,b.2⟩
 ·simp at h
theorem Yx(hS:SR Q σ X)(hB:X.B≤X.w.heap.size){a:Act}{aw:T}(hR:RR σ X aw a.tmps){o:Oper}{sz:Nat}{zs:List FC}{x:Arg}(I:dG Q σ o (.clear sz zs x)=ae){v:V}{H':aj}
  (h:bl aw X.H (.clear sz zs x)=aa (v,H')):gw Q σ X v H' (execOp a.eval o):=by
 simp only [dG]at I;split at I
 ·rename_i c Y;obtain⟨y,t,e,M,N,O,j,hu,c_,hz⟩:=Af I;have j:=bO hR j;simp only [bl,IT,OF]at h;obtain⟨H2,d,rfl,rfl⟩:=h;have done:VR σ X (.t []) (.tuple #[]):=⟨[],rfl,A2.nil⟩
  unfold nk at d;split at d
  ·rename_i p hp;rw [hp]at j;split at d
   ·rename_i U;simp only [At]at d;subst d;obtain⟨J,cp,g⟩:=gX j U;refine⟨.tuple #[],X,.inl (dk Y M fun cs=>?_),rfl,hS,done,Ext.refl _ _,hB⟩;cases J<;>simp [builtin,N,O,Builtin.clear_,aY hu,g]
   ·rename_i l W U;obtain⟨J,cp,g⟩:=gX j U;split at d
    ·rename_i a_;obtain⟨z,us,E,F,H,_⟩:=eC (σ:=σ) (X:=X) hz X.w;have d9:us.length=zs.length:=by have:=H.len;simp at this;omega
     have u:l≠0:=fun e=>W (by rw [e]);have key:∀(b o' ep:Nat),(∃ q,CR σ X (.ptr b o' ep) (.pointer (aa q))∧J=aa q)→cZ X.H (.ptr b o' ep) ((cu l zs).map .f)=aa H2→gw Q σ X (.t []) H2 (execOp a.eval o):=by
      rintro b o' ep ⟨q,hq,rfl⟩ Z;obtain⟨cc,off,X',g1,K,g3,g4,g5,g6,g7⟩:=aax hS hq (je H l) Z;cases g1;by_cases b_:sz=0
      ·subst b_;have b9:zs=[]:=aqu a_;have a7:us=[]:=aqu (by omega);subst b9;subst a7;refine⟨.tuple #[],X',.inl (dk Y M fun cs=>?_),g3,g4,⟨[],rfl,A2.nil⟩,g5,by omega⟩;have hr:cu l ([]:List Value)=[]:=by simp [cu]
       rw [hr]at K;simp [builtin,N,O,Builtin.clear_,aY hu,g,u,E,F,Builtin.zeroCells];cases l with
       | zero=>exact absurd rfl u| succ l=>simp [K]
      ·have a8:Builtin.zeroCells z.cells l=(cu l us).toArray:=by
        have:=gZ us l (by omega);simpa [Builtin.zeroCells,F]using this
       refine⟨.tuple #[],X',.inl (dk Y M fun cs=>?_),g3,g4,⟨[],rfl,A2.nil⟩,g5,by omega⟩;simp [builtin,N,O,Builtin.clear_,aY hu,g,E,a8];cases l with
       | zero=>exact absurd rfl u| succ l=>simp [K]
     split at d
     ·rename_i b o' l' cap ep s;simp only [VR,gq,CR,eX]at j;split at d
      ·rename_i cs fl A;rw [A]at j;obtain⟨L,S,_,m⟩:=j;rw [g]at m;simp only [Value.slice.injEq]at m;refine key b o' ep ⟨⟨L.c,o',ab⟩,⟨L,S,by rw [A]⟩,m.1⟩ d
      ·rename_i s' cs fl e' A;split at d
       ·rename_i B;rw [A]at j;obtain⟨L,S,k,_,_,m⟩:=j.2.1 B.1 B.2;rw [g]at m;simp only [Value.slice.injEq]at m;refine key b o' ep ⟨⟨L.c,o',ab⟩,⟨L,S,?_⟩,m.1⟩ d;rw [A];exact⟨j.1,fun _=>rfl,_,rfl⟩
       ·simp at d
      ·simp at d
     ·simp at d
    ·simp at d
   ·simp at d
  ·simp at d
 ·simp at I
theorem NO(B:SR Q σ X)(S:X.B≤X.w.heap.size){a:Act}{aw:T}(U:RR σ X aw a.tmps){o:Oper}{x:Arg}(l:dG Q σ o (.jB x)=ae){v:V}{H':aj}
  (h:bl aw X.H (.jB x)=aa (v,H')):gw Q σ X v H' (execOp a.eval o):=by
 simp only [dG]at l;split at l
 ·rename_i t y Y;simp only [If]at l;obtain⟨j,E⟩:=l;have j:=bO U j;simp only [bl]at h;unfold rW at h;split at h
  ·rename_i b c;rw [c]at j;obtain⟨L,A,_,Z⟩:=j;split at h
   ·rename_i u m;split at h
    ·rename_i p;simp only [At,OF]at h;obtain⟨rfl,rfl⟩:=h;obtain⟨_,_,bj,g,q⟩:=B.br b L A;rw [m]at g;simp only [At]at g;subst g;obtain⟨d,H,I,_⟩:=q;split at E
     ·rename_i kt e s;obtain⟨X',J,z,K,M,N,O⟩:=SR.new B S (.uL b u.length ag) (dL.alloc X.w (.mapIter (aa L.c) d.length #[] d.length)) 0 fun X' j f k n=>by
       obtain⟨blk',i,F⟩:=j.cG b (BY.1 m).1 _ m;cases blk'<;>simp only at F;refine⟨L,#[],d.length,F L A,⟨_,i⟩,?_,rfl⟩;rw [I.len,f];exact(dL.alloc _ _).new
      refine⟨.pointer (aa ⟨X.w.heap.size,0,ab⟩),X',.inl ?_,z,K,⟨_,N,⟨b,u.length,ag,by rw [z];simp⟩,rfl⟩,M,O⟩;have W:(getObj L.c).run Q X.w=.ok (.map d.toArray d.length) X.w:=by simp [getObj,Sem.run,H]
      rw [J];simp [execOp,Y,Instr.range,aY s,Z,W]
     ·simp at E
    ·simp at h
   ·simp at h
  ·simp at h
 ·simp at l
theorem ZG(s:SR Q σ X)(N:X.B≤X.w.heap.size){a:Act}{aw:T}(p:RR σ X aw a.tmps){o:Oper}{x:Arg}(E:dG Q σ o (.mX x)=ae){v:V}{H':aj}
  (h:bl aw X.H (.mX x)=aa (v,H')):gw Q σ X v H' (execOp a.eval o):=by
 simp only [dG]at E;split at E
 ·rename_i y S;have i:=bO p E;simp only [bl]at h;unfold xS at h;split at h
  ·rename_i b r;rw [r]at i;obtain⟨L,f,_,W⟩:=i;split at h
   ·rename_i m c done u;obtain⟨_,_,bj,d,l⟩:=s.br b L f;rw [u]at d;simp only [At]at d;subst d;obtain⟨J,sn,st,M,_,B,q⟩:=l;split at h
    ·rename_i j;obtain⟨_,_,bj,d,l⟩:=s.br m J M;rw [j]at d;simp only [At]at d;subst d;obtain⟨K,F,Z,_⟩:=l;have:K=[]:=aqu Z.len.symm;subst this;split at h
     ·simp at h
     ·rename_i z;simp only [At,OF]at h;obtain⟨rfl,rfl⟩:=h;simp only [z,aqw,if_false]at q;subst q;refine⟨.tuple #[.bool ag],X,.inl ?_,rfl,s,⟨[.bool ag],rfl,A2.cons (cM.bool _) A2.nil⟩,Ext.refl _ _,N⟩;simp only [execOp,S];refine dY ?_;simp [Instr.next,W,getObj,Sem.run,B,F,Result.andThen,choose,Question.forced]
    ·rename_i e j;obtain⟨H,F,Z,w,k⟩:=D3 s M j;split at h
     ·rename_i z;simp only [At,OF]at h;obtain⟨rfl,rfl⟩:=h;simp only [z,if_true]at q;obtain⟨rfl,rfl⟩:=q;refine⟨.tuple #[.bool ag],X,.inl ?_,rfl,s,⟨[.bool ag],rfl,A2.cons (cM.bool _) A2.nil⟩,Ext.refl _ _,N⟩;simp only [execOp,S];refine dY ?_;simp [Instr.next,W,getObj,Sem.run,B,F,k,Result.andThen,choose,Question.forced]
     ·rename_i z;split at h
      ·rename_i U;subst U;simp only [At,OF]at h;obtain⟨rfl,rfl⟩:=h;simp only [z,aqw,if_false]at q;subst q;obtain⟨q1,I⟩:=SR.pD (o':=.mapIter (aa J.c) 1 #[0] 1) (blk':=.uL m 1 ae) s u f B (by simp) (by simp)
        (fun bj g=>⟨.uL m 1 ae,by simp [(BY.1 u).1],by rw [u]at g;simp only [At]at g;subst g;exact⟨⟨rfl,rfl⟩,fun L h=>h⟩⟩)
        (fun X' t Y _ A n=>by
         have O:b≠m:=fun e=>by rw [e,j]at u;cases u
         exact⟨J,#[0],1,by rw [A];exact M,⟨_,by rw [n,AI O];exact j⟩,Y,rfl,rfl⟩)
       refine⟨.tuple #[.bool ae,H.key,H.val],_,.inl ?_,rfl,q1,?_,I,by simpa using N⟩
       ·simp only [execOp,S];refine dY ?_;simp [Instr.next,W,getObj,setObj,Sem.run,B,F,k,Result.andThen,choose,Question.forced]
       ·exact⟨[.bool ae,H.key,H.val],rfl,A2.cons (cM.bool _) (A2.cons (cM.mono I.F I.fw Z) (A2.cons (gq.ext' σ I w) A2.nil))⟩
      ·simp at h
    ·simp at h
   ·simp at h
  ·simp at h
 ·simp at E
end
section
variable{Q:Program}{σ:Nat→FuncId}{X:Wd}
def df(a b:bo):Prop:=
 match a with
 | .box cs fl=>(match b with
  | .box cs' d=>cs=cs'∧fl≤d
  | _=>False)
 | .bT s cs fl e st=>(match b with
  | .bT s' cs' d j g=>s=s'∧cs=cs'∧fl≤d∧e=j∧st=g
  | _=>False)
 | a=>a=b
theorem df.refl(a:bo):df a a:=by cases a<;>simp [df]
theorem df.trans{a b c:bo}(h:df a b)(k:df b c):df a c:=by
 cases a<;>cases b<;>simp only [df,reduceCtorEq]at h<;>cases c<;>simp only [df,reduceCtorEq]at k ⊢
 ·exact⟨h.1.trans k.1,aqF h.2 k.2⟩
 ·exact⟨h.1.trans k.1,h.2.1.trans k.2.1,aqF h.2.2.1 k.2.2.1,h.2.2.2.1.trans k.2.2.2.1,h.2.2.2.2.trans k.2.2.2.2⟩
 all_goals exact h.trans k
def fY(H H':aj):Prop:=H.length=H'.length∧∀(b:Nat) bj blk',H[b]?=aa bj→H'[b]?=aa blk'→df bj blk'
theorem fY.refl(H:aj):fY H H:=⟨rfl,fun b bj blk' h d=>by rw [h]at d;cases d;exact df.refl _⟩
theorem fY.get{H H':aj}(h:fY H H'){b:Nat}{bj:bo}(g:H[b]?=aa bj):∃ blk',H'[b]?=aa blk'∧df bj blk':=by
 have j:=(BY.1 g).1;have d:b<H'.length:=by have:=h.1;omega
 exact⟨_,By d,h.2 b _ _ g (By d)⟩
theorem fY.trans{A B C:aj}(h:fY A B)(k:fY B C):fY A C:=
 ⟨h.1.trans k.1,fun b x z d g=>by obtain⟨y,hy,h1⟩:=h.get d;exact h1.trans (k.2 b y z hy g)⟩
theorem fY.none{H H':aj}(h:fY H H'){b:Nat}(d:H[b]?=ab):H'[b]?=ab:=by
 rw [List.getElem?_eq_none_iff]at d ⊢;have:=h.1;omega
theorem fY.set{H:aj}{b:Nat}{bj blk':bo}(g:H[b]?=aa bj)(h:df bj blk'):fY H (H.set b blk'):=by
 have j:=(BY.1 g).1;refine⟨by simp,fun i x y d hy=>?_⟩;by_cases hi:i=b
 ·subst hi;simp only [ar6,if_true,j]at hy;rw [g]at d;cases d;cases hy;exact h
 ·rw [AI (Ne.symm hi)]at hy;rw [d]at hy;cases hy;exact df.refl _
theorem fY.foldl{f:aj→C→aj}(b:∀ H x,fY H (f H x)):∀(xs:List C) (H:aj),fY H (xs.foldl f H)
 | [],H=>fY.refl H| x::xs,H=>(b H x).trans (fY.foldl b xs (f H x))
theorem jz:∀(n:Nat) (x:C) (H:aj),fY H (fT n x H)
 | n,.f _,H=>by cases n<;>exact fY.refl H
 | 0,.ptr _ _ _,H=>fY.refl H| 0,.sl _ _ _ _ _ _,H=>fY.refl H| 0,.cl _ _,H=>fY.refl H| 0,.yl _,H=>fY.refl H| 0,.mp _,H=>fY.refl H| 0,.it _,H=>fY.refl H| 0,.bm _ _,H=>fY.refl H| 0,.mi _,H=>fY.refl H
 | n+1,.ptr b off ep,H=>by
  simp only [fT];split
  ·rename_i cs fl d;exact(fY.set d (by exact⟨rfl,aqU _ _⟩)).trans (fY.foldl (fun H x=>jz n x H) _ _)
  ·exact fY.refl H
 | n+1,.sl b o l c ep sz,H=>by
  simp only [fT];split
  ·rename_i cs fl d;exact(fY.set d (by exact⟨rfl,aqU _ _⟩)).trans (fY.foldl (fun H x=>jz n x H) _ _)
  ·rename_i s cs fl e st d;exact(fY.set d (by exact⟨rfl,rfl,aqU _ _,rfl,rfl⟩)).trans (fY.foldl (fun H x=>jz n x H) _ _)
  ·exact fY.refl H
 | n+1,.cl f g,H=>fY.foldl (fun H x=>jz n x H) _ _
 | n+1,.yl _,H=>fY.refl H| n+1,.mp _,H=>fY.refl H| n+1,.it _,H=>fY.refl H| n+1,.bm _ _,H=>fY.refl H| n+1,.mi _,H=>fY.refl H
theorem eU{b j:Type}{f g:b→Option j}:∀ {xs:List b},(∀ x ∈ xs,f x=g x)→bg f xs=bg g xs
 | [],_=>rfl| x::xs,h=>by rw [bg,bg,h x (by simp),eU (xs:=xs) (fun y d=>h y (List.mem_cons_of_mem _ d))]
theorem lz:∀(n:Nat) {H H':aj},fY H H'→∀(x:C),ef n H' x=ef n H x
 | n,H,H',h,.f _=>by cases n<;>rfl
 | 0,H,H',h,.ptr _ _ _=>rfl| 0,H,H',h,.sl _ _ _ _ _ _=>rfl| 0,H,H',h,.cl _ _=>rfl| 0,H,H',h,.yl _=>rfl| 0,H,H',h,.mp _=>rfl| 0,H,H',h,.it _=>rfl| 0,H,H',h,.bm _ _=>rfl| 0,H,H',h,.mi _=>rfl
 | n+1,H,H',h,.ptr b off ep=>by
  simp only [ef];cases m:H[b]? with
  | none=>rw [h.none m]
  | some bj=>
   obtain⟨blk',d,j⟩:=h.get m;rw [d];cases bj<;>cases blk'<;>simp only [df,reduceCtorEq]at j
   ·obtain⟨rfl,_⟩:=j;simp only [eU (g:=ef n H) fun x _=>lz n h x]
   all_goals rfl
 | n+1,H,H',h,.sl b o l c ep sz=>by
  simp only [ef];cases m:H[b]? with
  | none=>rw [h.none m]
  | some bj=>
   obtain⟨blk',d,j⟩:=h.get m;rw [d];cases bj<;>cases blk'<;>simp only [df,reduceCtorEq]at j
   ·obtain⟨rfl,_⟩:=j;simp only [eU (g:=ef n H) fun x _=>lz n h x]
   ·obtain⟨rfl,rfl,s,rfl,rfl⟩:=j;clear s;rename_i st _;cases st<;>simp only [eU (g:=ef n H) fun x _=>lz n h x]
   all_goals rfl
 | n+1,H,H',h,.cl f q=>by simp only [ef,eU (g:=ef n H) fun x _=>lz n h x]
 | n+1,H,H',h,.yl _=>rfl| n+1,H,H',h,.mp _=>rfl| n+1,H,H',h,.it _=>rfl| n+1,H,H',h,.bm _ _=>rfl| n+1,H,H',h,.mi _=>rfl
def dB:Nat→aj→C→Prop
 | _,_,.f _=>True| 0,_,_=>True| n+1,H,.ptr b _ _=>∀ cs fl,H[b]?=aa (.box cs fl)→cs.length≤fl∧∀ x ∈ cs,dB n H x
 | n+1,H,.sl b o l _ _ sz=>∀ bj,H[b]?=aa bj→match bj with
  | .box cs fl=>o+l*sz≤fl∧∀ x ∈ (cs.drop o).take (l*sz),dB n H x| .bT _ cs fl _ .loc=>o+l*sz≤fl∧∀ x ∈ (cs.drop o).take (l*sz),dB n H x| _=>True
 | n+1,H,.cl _ d=>∀ x ∈ d,dB n H x| _,_,_=>True
theorem dB.le:∀(n:Nat) {H H':aj},fY H H'→∀ {x:C},dB n H x→dB n H' x
 | n,H,H',h,.f _,_=>by cases n<;>trivial
 | 0,H,H',h,.ptr _ _ _,_=>trivial| 0,H,H',h,.sl _ _ _ _ _ _,_=>trivial| 0,H,H',h,.cl _ _,_=>trivial| 0,H,H',h,.yl _,_=>trivial| 0,H,H',h,.mp _,_=>trivial| 0,H,H',h,.it _,_=>trivial| 0,H,H',h,.bm _ _,_=>trivial| 0,H,H',h,.mi _,_=>trivial
 | n+1,H,H',h,.ptr b off ep,v=>by
  intro cs fl m;have y:=(BY.1 m).1;have s:b<H.length:=by have:=h.1;omega
  have d:=h.2 b _ _ (By s) m;cases g:H[b]<;>rw [g]at d<;>simp only [df,reduceCtorEq]at d;obtain⟨rfl,q⟩:=d;obtain⟨h1,h2⟩:=v _ _ (by rw [By s,g]);exact⟨aqF h1 q,fun x u=>dB.le n h (h2 x u)⟩
 | n+1,H,H',h,.sl b o l c ep sz,v=>by
  intro blk' m;have y:=(BY.1 m).1;have s:b<H.length:=by have:=h.1;omega
  have d:=h.2 b _ _ (By s) m;have j:=v _ (By s);cases g:H[b]<;>rw [g]at d j<;>cases blk'<;>simp only [df,reduceCtorEq]at d<;>try simp only
  ·obtain⟨rfl,q⟩:=d;exact⟨aqF j.1 q,fun x u=>dB.le n h (j.2 x u)⟩
  ·obtain⟨rfl,rfl,q,rfl,rfl⟩:=d;rename_i st _;cases st<;>simp only at j ⊢;exact⟨aqF j.1 q,fun x u=>dB.le n h (j.2 x u)⟩
 | n+1,H,H',h,.cl f z,v=>fun x u=>dB.le n h (v x u)
 | n+1,H,H',h,.yl _,_=>trivial| n+1,H,H',h,.mp _,_=>trivial| n+1,H,H',h,.it _,_=>trivial| n+1,H,H',h,.bm _ _,_=>trivial| n+1,H,H',h,.mi _,_=>trivial
theorem ff{n:Nat}(b:∀(x:C) (H:aj),dB n (fT n x H) x):∀(xs:List C) (H:aj),∀ x ∈ xs,dB n (xs.foldl (fun H x=>fT n x H) H) x
 | y::ys,H,x,d=>by
  simp only [arJ];rcases aqA.1 d with rfl | d
  ·exact dB.le n (fY.foldl (fun H x=>jz n x H) ys _) (b x H)
  ·exact ff b ys _ x d
theorem gE:∀(n:Nat) (x:C) (H:aj),dB n (fT n x H) x
 | n,.f _,H=>by cases n<;>trivial
 | 0,.ptr _ _ _,H=>trivial| 0,.sl _ _ _ _ _ _,H=>trivial| 0,.cl _ _,H=>trivial| 0,.yl _,H=>trivial| 0,.mp _,H=>trivial| 0,.it _,H=>trivial| 0,.bm _ _,H=>trivial| 0,.mi _,H=>trivial
 | n+1,.ptr b off ep,H=>by
  simp only [fT];cases u:H[b]? with
  | none=>intro cs fl h;exfalso;simp only at h;exact absurd (u.symm.trans h) (by simp)
  | some bj=>
   cases bj with
   | box d g=>
    intro cs fl h;have s:=(BY.1 u).1;simp only at h ⊢;have z:=fY.foldl (fun H x=>jz n x H) d (H.set b (.box d (Nat.max g d.length)));obtain⟨blk',j,m⟩:=z.get (b:=b) (bj:=.box d (Nat.max g d.length)) (by simp [s]);rw [h]at j;cases j;obtain⟨rfl,q⟩:=m;exact⟨aqF (aqL _ _) q,fun x v=>ff (fun x H=>gE n x H) _ _ x v⟩
   | _=>intro cs fl h;simp only at h;rw [u]at h;cases h
 | n+1,.sl b o l c ep sz,H=>by
  simp only [fT];cases u:H[b]? with
  | none=>intro bj h;exfalso;simp only at h;exact absurd (u.symm.trans h) (by simp)
  | some bj=>
   have s:=(BY.1 u).1;cases bj with
   | box d g=>
    intro bj h;simp only at h ⊢;have z:=fY.foldl (fun H x=>jz n x H) ((d.drop o).take (l*sz)) (H.set b (.box d (Nat.max g (o+l*sz))));obtain⟨blk',j,m⟩:=z.get (b:=b) (bj:=.box d (Nat.max g (o+l*sz))) (by simp [s]);rw [h]at j;cases j;cases bj<;>simp only [df,reduceCtorEq]at m;obtain⟨rfl,q⟩:=m;exact⟨aqF (aqL _ _) q,fun x v=>ff (fun x H=>gE n x H) _ _ x v⟩
   | bT E d g B y=>
    intro bj h;simp only at h ⊢;have z:=fY.foldl (fun H x=>jz n x H) ((d.drop o).take (l*sz)) (H.set b (.bT E d (Nat.max g (o+l*sz)) B y));obtain⟨blk',j,m⟩:=z.get (b:=b) (bj:=.bT E d (Nat.max g (o+l*sz)) B y) (by simp [s]);rw [h]at j;cases j;cases bj<;>simp only [df,reduceCtorEq]at m;obtain⟨rfl,rfl,q,rfl,rfl⟩:=m;cases y<;>simp only;exact⟨aqF (aqL _ _) q,fun x v=>ff (fun x H=>gE n x H) _ _ x v⟩
   | _=>intro bj h;simp only at h;rw [u]at h;cases h;simp
 | n+1,.cl f A,H=>fun x v=>ff (fun x H=>gE n x H) _ _ x v
 | n+1,.yl _,H=>trivial| n+1,.mp _,H=>trivial| n+1,.it _,H=>trivial| n+1,.bm _ _,H=>trivial| n+1,.mi _,H=>trivial
end
section
variable{Q:Program}{σ:Nat→FuncId}{X:Wd}
def da(H H':aj):Prop:=∀(b:Nat) bj,H[b]?=aa bj→∃ blk',H'[b]?=aa blk'∧df bj blk'
theorem da.refl(H:aj):da H H:=fun _ bj h=>⟨bj,h,df.refl _⟩
theorem da.trans{A B C:aj}(h:da A B)(k:da B C):da A C:=fun b x d=>by
 obtain⟨y,hy,h1⟩:=h b x d;obtain⟨z,g,h2⟩:=k b y hy;exact⟨z,g,h1.trans h2⟩
theorem fY.ext{H H':aj}(h:fY H H'):da H H':=fun _ _ b=>h.get b
theorem da.append(H H':aj):da H (H++H'):=fun b bj d=>⟨bj,by rw [AT (BY.1 d).1];exact d,df.refl _⟩
theorem da.len{H H':aj}(h:da H H'):H.length≤H'.length:=by
 rcases aqY H'.length H.length with d | b
 ·obtain⟨y,hy,_⟩:=h H'.length _ (By d);have:=(BY.1 hy).1;omega
 ·exact b
theorem SR.ahead(g:SR Q σ X){H':aj}(h:da X.H H'):SR Q σ { X with H:=H' }∧Ext X.H.length X { X with H:=H' }:=by
 have q:Ext X.H.length X { X with H:=H' }:=
  {B:=rfl,F:=fun _ _ h=>h,nO:=fun _ _ h=>.inl h,fw:=fun _ _ _=>rfl
   cG:=fun b _ bj j=>by
    obtain⟨blk',l,d⟩:=h b bj j;refine⟨blk',l,?_⟩;cases bj<;>cases blk'<;>simp only [df,reduceCtorEq]at d<;>simp_all
   wm:=fun b L h=>.inl ⟨b,L,h,rfl⟩,size:=aft _,os:=rfl,tape:=rfl,output:=rfl,frame:=fun _ _ _=>rfl }
 refine⟨⟨fun b L j=>?_,g.inj,g.fb⟩,q⟩;obtain⟨h1,h2,bj,h3,h4⟩:=g.br b L j;obtain⟨blk',h5,h6⟩:=h b bj h3;refine⟨h1,h2,blk',h5,?_⟩;have h7:BR Q σ { X with H:=H' } bj L:=BR.ext Q σ q rfl (fun _ h=>h) h4;cases bj<;>cases blk'<;>simp only [df,reduceCtorEq]at h6
 ·obtain⟨rfl,d⟩:=h6;obtain⟨us,g1,g2,g3⟩:=h7;exact⟨us,g1,g2,fun i hi=>g3 i (aqF d hi)⟩
 ·obtain⟨rfl,rfl,d,rfl,rfl⟩:=h6;obtain⟨m,us,rest,g1,g2,g3,g4,g5,g6⟩:=h7;exact⟨m,us,rest,g1,g2,g3,g4,g5,fun i hi=>g6 i (aqF d hi)⟩
 all_goals (rw [←h6];exact h7)
def xD:bo→Nat→Prop
 | .box cs fl,i=>i<fl∧i<cs.length| .bT _ cs fl _ _,i=>i<fl∧i<cs.length| _,_=>False
def FL(X:Wd):Prop:=∀ b L i bj,X.cr b=aa L→X.H[b]?=aa bj→xD bj i→X.F L.c i
def Wd.flag(X:Wd):Wd:={ X with F:=fun c i=>X.F c i∨∃ b L bj,X.cr b=aa L∧L.c=c∧X.H[b]?=aa bj∧xD bj i }
theorem SR.flag(j:SR Q σ X):SR Q σ X.flag∧Ext X.H.length X X.flag∧FL X.flag:=by
 have g:Ext X.H.length X X.flag:=
  {B:=rfl,F:=fun _ _ h=>.inl h
   nO:=fun c i h=>by
    rcases h with h | ⟨b,L,bj,h1,h2,_⟩
    ·exact .inl h
    ·exact .inr (.inr ⟨b,L,h1,h2⟩)
   fw:=fun _ _ _=>rfl
   cG:=fun b _=>by
    intro bj l;refine⟨bj,l,?_⟩;cases bj<;>simp [Wd.flag]
   wm:=fun b L h=>.inl ⟨b,L,h,rfl⟩,size:=aft _,os:=rfl,tape:=rfl,output:=rfl,frame:=fun _ _ _=>rfl }
 refine⟨⟨fun b L l=>?_,j.inj,fun c i h=>?_⟩,g,fun b L i bj h1 h2 h3=>.inr ⟨b,L,bj,h1,rfl,h2,h3⟩⟩
 ·obtain⟨h1,h2,bj,h3,h4⟩:=j.br b L l;refine⟨h1,h2,bj,h3,?_⟩;have key:∀ i,X.flag.F L.c i→X.F L.c i∨xD bj i:=by
   rintro i (h | ⟨x,y,blk',g1,g2,g3,g4⟩)
   ·exact .inl h
   ·have:x=b:=j.inj _ _ _ _ g1 l g2;subst this;rw [h3]at g3;cases g3;exact .inr g4
  cases bj with
  | box cs fl=>
   obtain⟨us,g1,g2,g3⟩:=h4;exact⟨us,g1,A2.ext' σ g g2,fun i hi u=>(key i u).elim (g3 i hi) fun h=>by have:=h.1;omega⟩
  | bT sz cs fl ep st=>
   obtain⟨v,us,rest,g1,g2,g3,g4,g5,g6⟩:=h4;exact⟨v,us,rest,g1,A2.ext' σ g g2,g3,g4,g5,fun i hi u=>(key i u).elim (g6 i hi) fun h=>by have:=h.1;omega⟩
  | map es=>exact BR.ext Q σ g rfl (fun i h=>(key i h).elim id False.elim) h4
  | it s p=>exact BR.ext Q σ g rfl (fun i h=>(key i h).elim id False.elim) h4
  | eO b=>exact BR.ext Q σ g rfl (fun i h=>(key i h).elim id False.elim) h4
  | uL m s d=>exact BR.ext Q σ g rfl (fun i h=>(key i h).elim id False.elim) h4
  | lp f t p a c st q d=>exact BR.ext Q σ g rfl (fun i h=>(key i h).elim id False.elim) h4
 ·rcases h with h | ⟨b,L,bj,h1,h2,_⟩
  ·exact j.fb c i h
  ·rw [←h2];exact(j.br b L h1).2.1
theorem fH{d g:Type}{f:d→Option g}:∀ {xs:List d} {ys:List g},bg f xs=aa ys→A2 (fun x y=>f x=aa y) xs ys
 | [],ys,h=>by simp only [bg,At]at h;subst h;exact A2.nil
 | x::xs,ys,h=>by
  simp only [bg]at h;split at h
  ·simp at h
  ·rename_i y j;split at h
   ·simp at h
   ·rename_i l b;simp only [At]at h;subst h;exact A2.cons j (fH b)
theorem frz(hS:SR Q σ X)(hF:FL X){H:aj}(W:da H X.H):∀(n:Nat) {x:C} {y:FC} {v:Value},ef n H x=aa y→dB n H x→CR σ X x v→cM σ X.F X.w y v
 | n,.f x,y,v,d,_,B=>by
  have:ef n H (.f x)=aa x:=by cases n<;>rfl
  rw [this]at d;cases d;exact B
 | 0,.ptr _ _ _,y,v,d,_,_=>by simp [ef]at d
 | 0,.sl _ _ _ _ _ _,y,v,d,_,_=>by simp [ef]at d
 | 0,.cl _ _,y,v,d,_,_=>by simp [ef]at d
 | 0,.yl _,y,v,d,_,_=>by simp [ef]at d
 | 0,.mp _,y,v,d,_,_=>by simp [ef]at d
 | 0,.it _,y,v,d,_,_=>by simp [ef]at d
 | 0,.bm _ _,y,v,d,_,_=>by simp [ef]at d
 | 0,.mi _,y,v,d,_,_=>by simp [ef]at d
 | n+1,.ptr b off ep,y,v,d,hm,B=>by
  simp only [ef]at d;split at d
  ·rename_i cs fl K;simp only [IT]at d;obtain⟨ys,g,rfl⟩:=d;obtain⟨N,I⟩:=hm cs fl K;obtain⟨blk',m,j⟩:=W b _ K;cases blk'<;>simp only [df,reduceCtorEq]at j;obtain⟨rfl,j⟩:=j;rename_i U;obtain⟨L,S,B⟩:=B;simp only [m]at B;subst B;obtain⟨_,_,bj,E,M⟩:=hS.br b L S;rw [m]at E;cases E;obtain⟨us,A,z,_⟩:=M;have g:=fH g;have:=cM.fp (σ:=σ) (F:=X.F) (w:=X.w) ys off L.c 0 us (by rw [←z.len,g.len])
    (fun i hi=>by rw [aqV];exact hF b L i _ S m ⟨by have:=g.len;omega,by have:=g.len;omega⟩)
    (fun i u O=>by rw [aqV,dh A];exact O)
    (fun i y u Z O=>by
     have hi:i<cs.length:=by rw [g.len];exact(BY.1 Z).1
     have Y:=By hi;exact frz hS hF W n (g.2 i _ _ Y Z) (I _ (anc hi)) (z.2 i _ _ Y O))
   rw [aqV]at this;exact this
  ·simp at d
 | n+1,.sl b o l c ep sz,y,v,d,hm,B=>by
  have key:∀(cs:List C) (fl:Nat) (blk':bo) (L:Loc) (us rest:List Value) (ys:List FC) (cap:Nat),o+l*sz≤cs.length→o+l*sz≤fl →
    (∀ i,i<fl→i<cs.length→xD blk' i)→X.H[b]?=aa blk'→X.cr b=aa L→rowAt X.w L.c (us++rest)→A2 (CR σ X) cs us →
    (∀ x ∈ (cs.drop o).take (l*sz),dB n H x)→bg (ef n H) ((cs.drop o).take (l*sz))=aa ys→l≤cap→cM σ X.F X.w (.fs ys l) (.slice (aa ⟨L.c,o,ab⟩) l cap):=by
   intro cs fl blk' L us rest ys cap q N a7 m S A z I g J;have g:=fH g;have b_:=z.len;have b9:ys.length=l*sz:=by rw [←g.len];simp;omega
   have a_:=(z.drop o).take (l*sz);refine .fs ys l L.c o cap ((us.drop o).take (l*sz)) J (by rw [b9];simp;omega) (fun i hi=>hF b L _ _ S m (a7 _ (by omega) (by omega))) (fun i u O=>?_) (fun i y u Z O=>?_)
   ·have hi:i<l*sz:=by
     have:=(BY.1 O).1;simp at this;omega
    rw [dh A,AT (by omega)];rw [List.getElem?_take_of_lt hi,aqB]at O;exact O
   ·have hi:i<((cs.drop o).take (l*sz)).length:=by rw [g.len];exact(BY.1 Z).1
    have Y:=By hi;exact frz hS hF W n (g.2 i _ _ Y Z) (I _ (anc hi)) (a_.2 i _ _ Y O)
  simp only [ef]at d;simp only [CR,eX]at B;split at d
  ·rename_i cs fl K;split at d
   ·rename_i q;simp only [IT]at d;obtain⟨ys,g,rfl⟩:=d;obtain⟨N,I⟩:=hm _ K;obtain⟨blk',m,j⟩:=W b _ K;cases blk'<;>simp only [df,reduceCtorEq]at j;obtain⟨rfl,j⟩:=j;rename_i U;simp only [m]at B;obtain⟨L,S,J,rfl⟩:=B;obtain⟨_,_,bj,E,M⟩:=hS.br b L S;rw [m]at E;cases E;obtain⟨us,A,z,_⟩:=M;exact key cs fl (.box cs U) L us [] ys c q N (fun i h1 h2=>⟨by omega,h2⟩) m S (by simpa using A) z I g J
   ·simp at d
  ·rename_i s cs fl e K;split at d
   ·rename_i q;obtain⟨rfl,rfl,q⟩:=q;simp only [IT]at d;obtain⟨ys,g,rfl⟩:=d;obtain⟨N,I⟩:=hm _ K;obtain⟨blk',m,j⟩:=W b _ K;cases blk'<;>simp only [df,reduceCtorEq]at j;obtain⟨rfl,rfl,j,rfl,rfl⟩:=j;rename_i U;simp only [m]at B;obtain⟨L,S,k,ho,J,rfl⟩:=B.2.1 trivial trivial;obtain⟨_,_,bj,E,M⟩:=hS.br b L S;rw [m]at E;cases E;obtain⟨_,us,rest,A,z,_⟩:=M;exact key cs fl (.bT sz cs U ep .loc) L us rest ys _ q N (fun i h1 h2=>⟨by omega,h2⟩) m S A z I g (by omega)
   ·simp at d
  ·rename_i s cs fl e K;split at d
   ·rename_i q;obtain⟨rfl,rfl⟩:=q;cases d;obtain⟨blk',m,j⟩:=W b _ K;cases blk'<;>simp only [df,reduceCtorEq]at j;obtain⟨rfl,rfl,j,rfl,rfl⟩:=j;simp only [m]at B;obtain⟨_,_,rfl⟩:=B.2.1 trivial trivial;exact .au
   ·simp at d
  ·rename_i s cs fl e K;split at d
   ·rename_i q;obtain⟨rfl,rfl⟩:=q;cases d;obtain⟨blk',m,j⟩:=W b _ K;cases blk'<;>simp only [df,reduceCtorEq]at j;obtain⟨rfl,rfl,j,rfl,rfl⟩:=j;simp only [m]at B;obtain⟨_,_,a,rfl⟩:=B.2.1 trivial trivial;exact .es a
   ·simp at d
  ·simp at d
 | n+1,.cl f a8,y,v,d,hm,B=>by
  simp only [ef,IT]at d;obtain⟨ys,g,rfl⟩:=d;obtain⟨us,rfl,z⟩:=B;have g:=fH g;refine .fn f ys us (by rw [←z.len,g.len]) fun i y u Z O=>?_;have hi:i<a8.length:=by rw [g.len];exact(BY.1 Z).1
  have Y:=By hi;exact frz hS hF W n (g.2 i _ _ Y Z) (hm _ (anc hi)) (CR.of1 σ (z.2 i _ _ Y O))
 | n+1,.yl _,y,v,d,_,_=>by simp [ef]at d
 | n+1,.mp _,y,v,d,_,_=>by simp [ef]at d
 | n+1,.it _,y,v,d,_,_=>by simp [ef]at d
 | n+1,.bm _ _,y,v,d,_,_=>by simp [ef]at d
 | n+1,.mi _,y,v,d,_,_=>by simp [ef]at d
end
section
variable{Q:Program}{σ:Nat→FuncId}{X:Wd}
theorem SR.skip(g:SR Q σ X){w':World}{o:Obj}(d:dL X.w w' o)(q:X.B≤X.w.heap.size):∃ X':Wd,X'.w=w'∧X'.H=X.H∧SR Q σ X'∧Ext X.H.length X X'∧X'.B≤X'.w.heap.size:=by
 have j:Ext X.H.length X { X with w:=w' }:=Ext.one g X.H.length rfl (fun _ _=>Iff.rfl) (fun k m _=>d.Bf m)
  (fun L i h=>by rw [SR.qM g]at h;simp at h) (fun h=>absurd h (asc _)) (fun _ _ _=>rfl) (fun _ _=>rfl) (fun L h=>.inl ⟨L,h,rfl⟩) (by show _≤w'.heap.size;rw [d.size];omega) d.os d.tape d.output
 refine⟨{ X with w:=w' },rfl,rfl,SR.step Q σ g j X.H.length (fun _ _=>rfl) (fun _ _=>rfl) (fun b L _ l=>d.Bf (g.br b L l).2.1)
  (fun _ _ _ _ _ h=>h) (fun L h=>by change X.cr X.H.length=aa L at h;rw [SR.qM g]at h;simp at h) (fun c i h=>?_),j,?_⟩
 ·have:=g.fb c i h;show c<w'.heap.size;rw [d.size];omega
 ·show X.B≤w'.heap.size;rw [d.size];omega
theorem wrap_small{n:Int}(h0:0≤n)(b:n<2 ^ 63):IntKind.i64.wrap n=n:=by
 have:n % (2 ^ 64:Int)=n:=Int.emod_eq_of_lt h0 (by omega);simp only [IntKind.wrap,IntKind.bits,IntKind.signed,this,arb,decide_eq_true_eq];rw [aW (by show¬ n≥2 ^ (64-1);omega)]
theorem Cs(hS:SR Q σ X)(hB:X.B≤X.w.heap.size){a:Act}{aw:T}(hR:RR σ X aw a.tmps){o:Oper}{sz bytes:Nat}{zs:List FC}{x y:Arg}(F:dG Q σ o (.dI sz bytes zs x y)=ae){v:V}{H':aj}
  (h:bl aw X.H (.dI sz bytes zs x y)=aa (v,H')):gw Q σ X v H' (execOp a.eval o):=by
 simp only [dG]at F;split at F
 ·rename_i t x' y' ho;simp only [If,decide_eq_true_eq]at F;obtain⟨⟨⟨k,r⟩,O⟩,b9⟩:=F;have k:=bO hR k;have r:=bO hR r;obtain⟨e,hu,O⟩:=gL O;simp only [If]at O;obtain⟨⟨j,Z⟩,hz⟩:=O;obtain⟨z,us,a7,a8,M,f7,c_,d9⟩:=eC (σ:=σ) (X:=X) hz X.w;obtain⟨b_,u,A⟩:=yd Z X.w;simp only [bl]at h;split at h
  ·rename_i l c hl hc;obtain⟨kl,p⟩:=iF k hl;obtain⟨kc,w⟩:=iF r hc;split at h
   ·rename_i s;obtain⟨h0,d_,g,e_⟩:=s;unfold bP at g;simp only [If,decide_eq_true_eq]at g;have J:us.length=sz:=by have:=M.len;simp at this;omega
    have L:=wrap_small (n:=l) h0 (by omega);have K:=wrap_small (n:=c) (by omega) (by omega);have a_:c.toNat*bytes≤2 ^ 48:=by
     have:c.toNat*bytes≤(2*c.toNat+768)*bytes:=aq3 _ (by omega);omega
    have m:¬ ((bytes:Int)*c>2 ^ 48):=by
     have e1:(bytes:Int)*c=((c.toNat*bytes:Nat):Int):=by
      rw [ar2,arV];congr 1;omega
     rw [e1];omega
    have I:((Array.range (c.toNat*sz)).map fun i=>us.toArray[i % us.toArray.size]!)=(cu c.toNat us).toArray:=by
     have:=gZ us c.toNat (by omega);rwa [J]at this
    have run:(execOp a.eval o).run Q X.w=.ok (.value (.slice (aa ⟨X.w.heap.size,0,ab⟩) l.toNat c.toNat)) (X.w.alloc (.cells (cu c.toNat us).toArray e)):=by
     simp only [execOp,ho];refine dY ?_;rw [p,w];have B:¬ c<0:=by omega
     have E:¬ l<0:=by omega
     have q:¬ l>c:=by omega
     by_cases d:c.toNat*sz=0
     ·have f:cu c.toNat us=[]:=aqu (by rw [jS,J];exact d);have b:((decide (c<0)||decide ((bytes:Int)*c>2 ^ 48))||decide (l<0)||decide (l>c))=ag:=by rw [decide_eq_false B,decide_eq_false E,decide_eq_false q,decide_eq_false m];rfl
      simp only [Instr.makeSlice,Sem.run_bind,aY hu,asInt,asIntOf,Sem.run_pure,Result.andThen_ok,u,A,L,K,run_askRoom,cY j];simp only [b,aqw,if_false,Sem.run_ite,ba d,Sem.run_bind,Result.andThen_ok,Sem.run_pure,run_askRoom,cY j,newRow,run_newObj];rw [d,f,show(Array.map (fun x=>(#[]:Array Value)[x % (#[]:Array Value).size]!) (Array.range 0))=#[] from by simp [show Array.range 0=(#[]:Array Nat) from rfl]];rfl
     ·simp only [Instr.makeSlice,Sem.run_bind,aY hu,asInt,asIntOf,Sem.run_pure,Result.andThen_ok,u,A,L,K,run_askRoom,cY j];have b:((decide (c<0)||decide ((bytes:Int)*c>2 ^ 48))||decide (l<0)||decide (l>c))=ag:=by rw [decide_eq_false B,decide_eq_false E,decide_eq_false q,decide_eq_false m];rfl
      simp only [b,aqw,if_false,Sem.run_ite,aW d,Sem.run_bind,a7,a8,Result.andThen_ok,Sem.run_pure,run_askRoom,cY j,I,newRow,run_newObj];rfl
    split at h
    ·rename_i d;subst d;simp only [At,OF]at h;obtain⟨rfl,rfl⟩:=h;have:l=0:=by omega
     subst this;obtain⟨X',S,N,U,W,Y⟩:=SR.skip hS (dL.alloc X.w (.cells (cu (0:Int).toNat us).toArray e)) hB;exact⟨_,X',.inl (by rw [S];exact run),N,U,cM.es _,W,Y⟩
    ·simp only [At,OF]at h;obtain⟨rfl,rfl⟩:=h;obtain⟨X',S,N,U,W,Y,g6⟩:=Ct hS hB (je M c.toNat) e;refine⟨_,X',.inl (by rw [S];exact run),N,U,?_,W,g6⟩;have H:X'.H[X.H.length]?=aa (.box ((cu c.toNat zs).map .f) 0):=by rw [N];simp
     simp only [VR,gq,CR,eX,H];exact⟨_,Y,by omega,rfl⟩
   ·simp at h
  ·simp at h
 ·simp at F
theorem aj7(H:aj):∀ x,ef 0 H x=fcC x:=fun x=>by cases x<;>rfl
theorem agu(F:SR Q σ X)(hB:X.B≤X.w.heap.size){a:Act}{aw:T}(E:RR σ X aw a.tmps){o:Oper}{sz:Nat}{x hi mx:Arg}(z:dG Q σ o (.ue sz x hi mx)=ae){v:V}{H':aj}
  (h:bl aw X.H (.ue sz x hi mx)=aa (v,H')):gw Q σ X v H' (execOp a.eval o):=by
 simp only [dG]at z;split at z
 ·rename_i t y O mx' ho;simp only [If,decide_eq_true_eq]at z;obtain⟨⟨⟨⟨q,h2⟩,h3⟩,he⟩,hz⟩:=z;obtain⟨e,hu,A⟩:=gL he;simp only [bl]at h;unfold AS at h;have o1:OR X σ ab ab:=trivial;have o2:OR X σ (aa (hi.ev aw)) (aa (a.eval O)):=bO E h2;have o3:OR X σ (aa (mx.ev aw)) (aa (a.eval mx')):=bO E h3;have q:=bO E q;split at h
  ·rename_i v' hv;simp only [At,OF]at h;obtain⟨rfl,rfl⟩:=h;obtain⟨r,B,h5⟩:=wP F hu A q o1 o2 o3 hv;exact⟨r,X,.inl (by simp only [execOp,ho];exact dY B),rfl,F,h5,Ext.refl _ _,hB⟩
  ·split at h
   ·rename_i b o' n c' ep s b9;rw [b9]at q;simp only [VR,gq,CR,eX]at q;split at h
    ·rename_i s' cs fl e' I;rw [I]at q;split at h
     ·rename_i K;obtain⟨rfl,rfl,rfl,rfl⟩:=K;split at h
      ·rename_i i j d W;split at h
       ·rename_i U;obtain⟨rfl,d_,d9⟩:=U;split at h
        ·rename_i ys b_;simp only [At,OF]at h;obtain⟨rfl,rfl⟩:=h;obtain⟨L,hL,k,hk,f7,a_⟩:=q.2.1 rfl rfl;have Y:k=0:=by
          rcases Nat.eq_zero_or_pos k with h | h
          ·exact h
          ·have:=Nat.mul_pos h hz;omega
         subst Y;have e_:i≤n:=by
          unfold Be at d;split at d
          ·split at d
           ·rename_i hh;simp only [At]at d;omega
           ·simp at d
          ·simp at d
         have J:bU n n ab (aa (hi.ev aw)) (aa (mx.ev aw))=aa (0,i,i):=by
          have S:Be (hi.ev aw) i=aa i:=by
           unfold Be at d ⊢;split at d
           ·split at d
            ·rename_i hh;simp only [At]at d;rw [ba ⟨hh.1,by omega⟩,d]
            ·simp at d
           ·simp at d
          simp [bU,W,S]
         obtain⟨B,_,_,_⟩:=dy (Q:=Q) o1 o2 o3 J (cap:=L.cap) (by omega) (aft n) ae X.w;have h6:=ed (a:=aa ⟨L.c,0,ab⟩) hu A B;have Z:fY X.H (X.H.set b (.bT s' cs (Nat.max fl (i*s')) ep .loc)):=fY.set I ⟨rfl,rfl,aqU _ _,rfl,rfl⟩;obtain⟨g1,g2⟩:=SR.ahead F Z.ext;obtain⟨g3,g4,g5⟩:=SR.flag g1;have a7:=(BY.1 I).1;have l:(X.H.set b (.bT s' cs (Nat.max fl (i*s')) ep .loc))[b]?=aa (.bT s' cs (Nat.max fl (i*s')) ep .loc):=by simp [a7]
         have N:ef 1 (X.H.set b (.bT s' cs (Nat.max fl (i*s')) ep .loc)) (.sl b 0 i 0 ep s')=aa (.fs ys i):=by
          simp only [ef,l];rw [ba ⟨trivial,trivial,by omega⟩,eU (g:=fcC) fun x _=>aj7 _ x,aro,b_];rfl
         have a8:dB 1 (X.H.set b (.bT s' cs (Nat.max fl (i*s')) ep .loc)) (.sl b 0 i 0 ep s'):=by
          intro bj m;rw [l]at m;cases m;refine⟨by have:=aqL fl (i*s');simp only [aqV];exact this,fun x _=>?_⟩;cases x<;>trivial
         have M:CR σ ({ X with H:=X.H.set b (.bT s' cs (Nat.max fl (i*s')) ep .loc) }:Wd).flag (.sl b 0 i 0 ep s') (.slice (aa ⟨L.c,0,ab⟩) i L.cap):=by
          simp only [CR,eX,Wd.flag,l];exact⟨aft _,fun _ _=>⟨L,hL,0,by omega,by omega,by simp⟩,_,_,_,rfl⟩
         have hf:=frz g3 g5 (da.refl _) 1 N a8 M;have u:cM σ ({ X with H:=X.H.set b (.bT s' cs (Nat.max fl (i*s')) ep .loc) }:Wd).flag.F X.w (.fs ys i) (.slice (aa ⟨L.c,0,ab⟩) i i):=by
          cases hf with
          | fs _ _ c o2 cap us c_ hl hF K hr=>exact .fs _ _ _ _ _ us (aft _) hl hF K hr| fs0 a2 cap=>omega
         refine⟨.slice (aa ⟨L.c,0,ab⟩) i i,({ X with H:=X.H.set b (.bT s' cs (Nat.max fl (i*s')) ep .loc) }:Wd).flag,.inl ?_,rfl,g3,u,g2.trans (g4.mono (by simp)),hB⟩;simp only [execOp,ho];refine dY ?_;rw [a_];simp [show i≠0 by omega,dX]at h6;exact h6
        ·simp at h
       ·simp at h
      ·simp at h
     ·simp at h
    ·simp at h
   ·simp at h
 ·simp at z
theorem alk(d:SR Q σ X)(g:X.B≤X.w.heap.size){a:Act}{aw:T}(j:RR σ X aw a.tmps){o:Oper}{op:cQ}(b:dG Q σ o op=ae){v:V}{H':aj}
  (h:bl aw X.H op=aa (v,H')):gw Q σ X v H' (execOp a.eval o):=by
 cases m:op.fsl
 case true=>
  cases op<;>simp only [cQ.fsl,reduceCtorEq]at m;obtain⟨rfl,u,X',B,E,F,H,I,J,_⟩:=we d g j b h;exact⟨u,X',.inl B,E,F,H,I,J⟩
 by_cases s:cls op=.p∨cls op=.r
 ·exact gw.anC g d (ahW d j b s m h)
 ·cases op with
  | pre st sz=>exact akQ d g b h
  | alloc zs=>
   simp only [bl,At,OF]at h;obtain⟨rfl,rfl⟩:=h;exact Yg d g b
  | box x=>
   simp only [bl]at h;split at h
   ·rename_i xs q;simp only [At,OF]at h;obtain⟨rfl,rfl⟩:=h;exact ajS d g j b q
   ·simp at h
  | bE sz zs n ps=>exact Mt d g j b h| store n x y=>exact aaD d g j b h
  | i'=>
   simp only [bl,At,OF]at h;obtain⟨rfl,rfl⟩:=h;exact ZB d g b
  | iu K x y z=>exact Zs d g j b h| dI sz l zs x y=>exact Cs d g j b h| range x=>exact ZZ d g j b h| next x=>exact agj d g j b h
  | append sz l x y=>exact vH d g j b h| BO x=>simp [dG]at b| copy sz x y=>simp [dG]at b| clear sz zs x=>exact Yx d g j b h| ka sz l zs x y=>exact afi d g j b h| jB x=>exact NO d g j b h| ue sz x y z=>exact agu d g j b h| mX x=>exact ZG d g j b h| call f xs A=>simp [bl]at h| bW x xs A=>simp [bl]at h| recover=>simp [bl]at h| defer x xs=>simp [bl]at h| bad=>simp [bl]at h| _=>exact absurd (by simp [cls]) s
end
section
variable{Q:Program}{σ:Nat→FuncId}{X:Wd}
def jZ(n:Nat)(H:aj):V→Prop
 | .c x=>dB n H x| .a xs=>∀ x ∈ xs,dB n H x| _=>True
theorem jZ.le{n:Nat}{H H':aj}(h:fY H H'){v:V}(b:jZ n H v):jZ n H' v:=by
 cases v with
 | c x=>exact dB.le n h b| a xs=>exact fun x d=>dB.le n h (b x d)
 | _=>trivial
theorem akx(n:Nat)(v:V)(H:aj):fY H (mkV n H v):=by
 cases v with
 | c x=>exact jz n x H| a xs=>exact fY.foldl (fun H x=>jz n x H) xs H
 | _=>exact fY.refl H
theorem Cp(n:Nat)(v:V)(H:aj):jZ n (mkV n H v) v:=by
 cases v with
 | c x=>exact gE n x H| a xs=>exact fun x b=>ff (fun x H=>gE n x H) xs H x b
 | _=>trivial
theorem my(n:Nat):∀(b:List V) (H:aj),fY H (b.foldl (mkV n) H)
 | [],H=>fY.refl H| v::b,H=>(akx n v H).trans (my n b _)
theorem rj(n:Nat):∀(b:List V) (H:aj),∀ v ∈ b,jZ n (b.foldl (mkV n) H) v
 | u::b,H,v,d=>by
  rcases aqA.1 d with rfl | d
  ·exact(Cp n v H).le (my n b _)
  ·exact rj n b _ v d
def FV1(σ:Nat→FuncId)(F:Nat→Nat→Prop)(w:World)(v:V)(u:Value):Prop:=∀ X:Wd,X.F=F→X.w=w→gq σ X v u
def FV(σ:Nat→FuncId)(F:Nat→Nat→Prop)(w:World)(v:V)(u:Value):Prop:=∀ X:Wd,X.F=F→X.w=w→VR σ X v u
theorem ahH(z:SR Q σ X)(q:FL X){H:aj}(s:da H X.H){n:Nat}{v F:V}{u:Value}(d:cC n H v=aa F)(A:jZ n H v)(B:gq σ X v u):FV1 σ X.F X.w F u:=by
 intro Z g j;cases v with
 | c x=>
  simp only [cC,IT]at d;obtain⟨y,m,rfl⟩:=d;have:=frz z q s n m A B;rw [←g,←j]at this;exact this
 | a xs=>
  simp only [cC,IT]at d;obtain⟨ys,b,rfl⟩:=d;obtain⟨us,rfl,l⟩:=B;have b:=fH b;refine⟨us,rfl,A2.map ⟨by rw [←l.len,b.len],fun i y u m I=>?_⟩⟩;have hi:i<xs.length:=by rw [b.len];exact(BY.1 m).1
  have E:=By hi;have:=frz z q s n (b.2 i _ _ E m) (A _ (anc hi)) (l.2 i _ _ E I);rw [←g,←j]at this;exact this
 | top=>simp [cC]at d| t J=>simp [cC]at d
def bo.full:bo→bo
 | .box cs fl=>.box cs (Nat.max fl cs.length)| .bT s cs fl e st=>.bT s cs (Nat.max fl cs.length) e st| b=>b
theorem xG(H:aj):fY H (H.map bo.full):=by
 refine⟨by simp,fun b x y g d=>?_⟩;rw [aq0,g]at d;simp only [aq4,At]at d;subst d;cases x<;>simp [df,bo.full,aqU]
theorem fP:∀(n:Nat) {H:aj} {x:C} {y:FC},ef n H x=aa y→dB n (H.map bo.full) x
 | n,H,.f _,y,_=>by cases n<;>trivial
 | 0,H,.ptr _ _ _,y,_=>trivial| 0,H,.sl _ _ _ _ _ _,y,_=>trivial| 0,H,.cl _ _,y,_=>trivial| 0,H,.yl _,y,_=>trivial| 0,H,.mp _,y,_=>trivial| 0,H,.it _,y,_=>trivial| 0,H,.bm _ _,y,_=>trivial| 0,H,.mi _,y,_=>trivial
 | n+1,H,.ptr b off ep,y,d=>by
  intro cs fl j;rw [aq0]at j;simp only [ef]at d;split at d
  ·rename_i cs' u g;rw [g]at j;simp only [aq4,At,bo.full,bo.box.injEq]at j;obtain⟨rfl,rfl⟩:=j;simp only [IT]at d;obtain⟨ys,m,rfl⟩:=d;refine⟨aqL _ _,fun x v=>?_⟩;obtain⟨i,hi⟩:=ara v;obtain⟨y,_,z⟩:=(fH m).get hi;exact fP n z
  ·simp at d
 | n+1,H,.sl b o l c ep sz,y,d=>by
  intro bj j;rw [aq0]at j;simp only [ef]at d;split at d
  ·rename_i cs' u g;rw [g]at j;simp only [aq4,At,bo.full]at j;subst j;split at d
   ·rename_i q;simp only [IT]at d;obtain⟨ys,m,rfl⟩:=d;refine⟨aqF q (aqL _ _),fun x v=>?_⟩;obtain⟨i,hi⟩:=ara v;obtain⟨y,_,z⟩:=(fH m).get hi;exact fP n z
   ·simp at d
  ·rename_i s cs' u e g;rw [g]at j;simp only [aq4,At,bo.full]at j;subst j;split at d
   ·rename_i q;simp only [IT]at d;obtain⟨ys,m,rfl⟩:=d;refine⟨aqF q.2.2 (aqL _ _),fun x v=>?_⟩;obtain⟨i,hi⟩:=ara v;obtain⟨y,_,z⟩:=(fH m).get hi;exact fP n z
   ·simp at d
  ·rename_i s cs' u e g;rw [g]at j;simp only [aq4,At,bo.full]at j;subst j;trivial
  ·rename_i s cs' u e g;rw [g]at j;simp only [aq4,At,bo.full]at j;subst j;trivial
  ·simp at d
 | n+1,H,.cl f A,y,d=>by
  simp only [ef,IT]at d;obtain⟨ys,m,rfl⟩:=d;intro x v;obtain⟨i,hi⟩:=ara v;obtain⟨y,_,z⟩:=(fH m).get hi;exact fP n z
 | n+1,H,.yl _,y,d=>trivial| n+1,H,.mp _,y,d=>trivial| n+1,H,.it _,y,d=>trivial| n+1,H,.bm _ _,y,d=>trivial| n+1,H,.mi _,y,d=>trivial
theorem xH{n:Nat}{H:aj}{v l:V}(b:cC n H v=aa l):jZ n (H.map bo.full) v:=by
 cases v with
 | c x=>
  simp only [cC,IT]at b;obtain⟨y,d,rfl⟩:=b;exact fP n d
 | a xs=>
  simp only [cC,IT]at b;obtain⟨ys,g,rfl⟩:=b;intro x j;obtain⟨i,hi⟩:=ara j;obtain⟨y,_,d⟩:=(fH g).get hi;exact fP n d
 | _=>trivial
def Wd.inner(X:Wd):Wd:=⟨fun _=>ab,X.F,[],X.w,X.w.heap.size⟩
theorem SR.inner(d:SR Q σ X):SR Q σ X.inner:=⟨fun b L h=>by simp [Wd.inner]at h,fun b j L g h=>by simp [Wd.inner]at h,d.fb⟩
def Wd.iW(Y:Wd):Wd:=Wd.flag { Y with H:=Y.H.map bo.full }
theorem SR.iW{Y:Wd}(b:SR Q σ Y):SR Q σ Y.iW∧Ext Y.H.length Y Y.iW∧FL Y.iW:=by
 obtain⟨h1,h2⟩:=SR.ahead b (xG Y.H).ext;obtain⟨h3,h4,h5⟩:=SR.flag h1;exact⟨h3,h2.trans (h4.mono (by simp)),h5⟩
theorem B4{Y:Wd}(J:SR Q σ Y){n:Nat}{v g:V}{u:Value}(b:iA n Y.H v=aa g)(A:VR σ Y v u):FV σ Y.iW.F Y.w g u:=by
 obtain⟨F,H,I⟩:=SR.iW J;have m:=VR.ext' σ H A;have q:∀ {v g:V} {u:Value},cC n Y.H v=aa g→gq σ Y.iW v u→FV1 σ Y.iW.F Y.w g u:=by
  intro v g u b A;have z:cC n Y.iW.H v=aa g:=by
   show cC n (Y.H.map bo.full) v=aa g;cases v with
   | c x=>simp only [cC]at b ⊢;rw [lz n (xG Y.H)];exact b| a xs=>simp only [cC]at b ⊢;rw [eU (fun x _=>lz n (xG Y.H) x)];exact b
   | _=>simp [cC]at b
  exact ahH F I (da.refl _) z (xH b) A
 intro Z j l;cases v with
 | t L=>
  simp only [iA,IT]at b;obtain⟨M,d,rfl⟩:=b;obtain⟨us,rfl,s⟩:=m;have d:=fH d;refine⟨us,rfl,by rw [←s.len,d.len],fun i y u E K=>?_⟩;have hi:i<L.length:=by rw [d.len];exact(BY.1 E).1
  have B:=By hi;exact q (d.2 i _ _ B E) (s.2 i _ _ B K) Z j l
 | c x=>exact VR.of1 σ (q (v:=.c x) b m Z j l)| a xs=>exact VR.of1 σ (q (v:=.a xs) b m Z j l)| top=>simp [iA,cC]at b
theorem SR.outer(s:SR Q σ X)(v:X.B≤X.w.heap.size){Y:Wd}(u:SR Q σ Y)(d:Ext 0 X.inner Y) :
  SR Q σ { X with F:=Y.iW.F,w:=Y.w }∧Ext X.H.length X { X with F:=Y.iW.F,w:=Y.w }∧X.B≤Y.w.heap.size:=by
 obtain⟨h1,h2,h3⟩:=SR.iW u;have mL:X.w.heap.size≤Y.w.heap.size:=d.size;have g:∀ k,k<X.w.heap.size→Y.w.heap[k]?=X.w.heap[k]?:=fun k q=>d.frame k q (fun b L h=>by simp [Wd.inner]at h);have l:∀ c i,Y.iW.F c i→X.F c i∨X.w.heap.size≤c:=by
  intro c i h;rcases h2.nO c i h with h | h | ⟨b,L,m,rfl⟩
  ·rcases d.nO c i h with h | h | ⟨b,L,m,_⟩
   ·exact .inl h
   ·exact .inr h
   ·simp [Wd.inner]at m
  ·exact .inr (aqF mL h)
  ·have:=(u.br b L m).1;rw [d.B]at this;exact .inr this
 have j:Ext X.H.length X { X with F:=Y.iW.F,w:=Y.w }:=
  {B:=rfl,F:=fun c i h=>h2.F c i (d.F c i h)
   nO:=fun c i h=>(l c i h).elim .inl fun h=>.inr (.inl h)
   fw:=fun c i h=>d.fw c i h
   cG:=fun b _ bj m=>⟨bj,m,by cases bj<;>simp⟩
   wm:=fun b L h=>.inl ⟨b,L,h,rfl⟩,size:=mL,os:=d.os,tape:=d.tape,output:=d.output,frame:=fun k q _=>g k q }
 refine⟨⟨fun b L m=>?_,s.inj,fun c i h=>h1.fb c i h⟩,j,aqF v mL⟩;obtain⟨g1,g2,bj,g3,g4⟩:=s.br b L m;refine⟨g1,aqR g2 mL,bj,g3,BR.ext Q σ j (g _ g2) (fun i h=>?_) g4⟩;rcases l _ _ h with h | h
 ·exact h
 ·omega
end
section
variable{Q:Program}{σ:Nat→FuncId}{X:Wd}
def eM(Q:Program)(σ:Nat→FuncId)(X:Wd)(v:V)(H':aj)(X':Wd)(u:Value):Prop:=
 X'.H=H'∧SR Q σ X'∧VR σ X' v u∧Ext X.H.length X X'∧X'.B≤X'.w.heap.size
def nA(b:CallKind)(cs:List Frame):Prop:=b=.normal∨(b=.deferred∧∃ c rest,cs=c::rest∧c.mode=.returning)
def iG(b:Frame)(cs:List Frame):Prop:=nA b.kind cs
theorem nA.NB{fr:Frame}{cs:List Frame}(h:nA fr.kind cs):tryRecover fr cs=ab:=by
 unfold tryRecover;rcases h with h | ⟨h,c,rest,rfl,b⟩
 ·rw [h]
 ·rw [h];simp [b]
def Leaves(Q:Program)(f:FuncId)(d:CallKind)(b:Frame)(u:Value)(w:World):Prop:=
 b.mode=.returning∧b.defers=[]∧b.kind=d∧b.fn=f∧∃ fn,Q.funcs[f]?=aa fn∧(Go.results fn b.tmps).run Q w=.ok u w
structure eR(Q:Program)(σ:Nat→FuncId)(call:cL):Prop where
 enters:∀ f args H r,call (.fn f) args H=aa r→∀ as w,(callFunc (σ f) as).run Q w=.ok (.enter (σ f) as) w
 fn:∀ f args H r H',call (.fn f) args H=aa (r,H')→∀(X:Wd) us kind cs,X.H=H→SR Q σ X→X.B≤X.w.heap.size→A2 (VR σ X) args us→nA kind cs→kind=.normal∨f≠e9 →
  ∃ fr X' u,Steps Q (lone (Frame.enter Q (σ f) us.toArray kind) cs X.w) (lone fr cs X'.w)∧Leaves Q (σ f) kind fr u X'.w∧eM Q σ X r H' X' u
 yield:∀ b args H r H',call (.yield b) args H=aa (r,H')→∀(X:Wd) us c cs L,X.H=H→SR Q σ X→X.B≤X.w.heap.size→A2 (VR σ X) args us→X.cr b=aa L →
  ∃ f tmps as bd X' u,(Instr.yield L.c us.toArray).run Q X.w=.ok (.round L.c f tmps as bd) X.w ∧
   Steps Q (lone (Frame.round L.c f tmps as bd .normal) (c::cs) X.w) (lone (c.finish u) cs X'.w)∧eM Q σ X r H' X' u
def cV(Q:Program)(σ:Nat→FuncId)(X:Wd)(o:Oper)(a:Act)(v:V)(H':aj):Prop:=
 ∀(b:Frame) (ops:Array Oper) (i:Nat) (rest:List Nat) (k:List Item) (cs:List Frame),ops[i]?=aa o→Region.wanted o (yielded ops a.tmps)=ae→iG b cs →
  ∃ X' u,Steps Q (lone (b.atR a (.inRegion ops (i::rest)::k)) cs X.w) (lone (b.atR (a.put o.dst u) (.inRegion ops rest::k)) cs X'.w)∧eM Q σ X v H' X' u
theorem cV.anB{o:Oper}{a:Act}{v:V}{H':aj}(j:∀ c,o.op≠.defer c)(h:gw Q σ X v H' (execOp a.eval o)):cV Q σ X o a v H':=by
 intro b ops i rest k cs ho l m;obtain⟨u,X',d,h1,h2,h3,h4,h5⟩:=h;refine⟨X',u,.one (step_lone_go ?_),h1,h2,h3,h4,h5⟩;rw [stepGR_op ho l,Oper.semAt_eq _ _ _ j];have g:=Frame.finish_atR b a ops i rest k u;rw [ho]at g;simp only [aqX]at g;rw [←g];rcases d with d | ⟨d,rfl⟩<;>simp [stepG.apply,Sem.runT_eq,d]
theorem cV.tK{o:Oper}{a:Act}{v:V}{H':aj}(j:∀ c,o.op≠.defer c){f:FuncId}{us:Array Value}(g:(execOp a.eval o).run Q X.w=.ok (.enter f us) X.w)
  (h:∀ cs,∃ fr X' u,Steps Q (lone (Frame.enter Q f us .normal) cs X.w) (lone fr cs X'.w)∧Leaves Q f .normal fr u X'.w∧eM Q σ X v H' X' u):cV Q σ X o a v H':=by
 intro b ops i rest k cs ho l y;obtain⟨fr,X',u,h1,⟨l1,l2,m,q,fn,s,x⟩,h3⟩:=h (b.atR a (.inRegion ops (i::rest)::k)::cs);refine⟨X',u,.head (step_lone_go (fr':=Frame.enter Q f us .normal) (cs':=b.atR a (.inRegion ops (i::rest)::k)::cs) (w':=X.w) ?_) (h1.trans (.one ?_)),h3⟩
 ·rw [stepGR_op ho l,Oper.semAt_eq _ _ _ j];simp [stepG.apply,Sem.runT_eq,g,Frame.atR]
 ·have d:=Frame.finish_atR b a ops i rest k u;rw [ho]at d;simp only [aqX]at d;rw [←d];exact step_leave_returned ⟨l1,l2,m,fn,by rw [q];exact s,x⟩
theorem cV.ZH{o:Oper}{a:Act}{v:V}{H':aj}(j:∀ c,o.op≠.defer c){l:Nat}{f:FuncId}{tmps:Array Value}{as bd:Code}(g:(execOp a.eval o).run Q X.w=.ok (.round l f tmps as bd) X.w)
  (h:∀ c cs,∃ X' u,Steps Q (lone (Frame.round l f tmps as bd .normal) (c::cs) X.w) (lone (c.finish u) cs X'.w)∧eM Q σ X v H' X' u):cV Q σ X o a v H':=by
 intro b ops i rest k cs ho m q;obtain⟨X',u,h1,h3⟩:=h (b.atR a (.inRegion ops (i::rest)::k)) cs;refine⟨X',u,.head (step_lone_go (fr':=Frame.round l f tmps as bd .normal) (cs':=b.atR a (.inRegion ops (i::rest)::k)::cs) (w':=X.w) ?_) ?_,h3⟩
 ·rw [stepGR_op ho m,Oper.semAt_eq _ _ _ j];simp [stepG.apply,Sem.runT_eq,g,Frame.atR]
 ·have d:=Frame.finish_atR b a ops i rest k u;rw [ho]at d;simp only [aqX]at d;rw [←d];exact h1
theorem nh{x:V}{u:Value}{args:List V}{us:List Value}{c:Callee}{d:List V}(j:bQ x args=aa (c,d))(l:VR σ X x u)(q:A2 (VR σ X) args us) :
  match c with
  | .fn f=>∃ fst cap:List Value,u=.func (.func (σ f)) fst.toArray cap.toArray∧A2 (VR σ X) d (fst++us++cap)| .yield b=>d=args∧∃ L,X.cr b=aa L∧u=.func (.yield L.c) #[] #[]:=by
 unfold bQ at j;split at j
 ·rename_i f m;cases j;cases l with
  | fn _ _ cap y z=>
   refine⟨[],cap,rfl,q.append (A2.map ⟨y.symm,fun i x u l A=>?_⟩)⟩;exact z i x u l A
 ·rename_i f m;cases j;obtain⟨cap,rfl,g⟩:=l;exact⟨[],cap,rfl,q.append (A2.map (g.jX fun x u h=>CR.of1 σ h))⟩
 ·rename_i b;cases j;obtain⟨L,v,_,rfl⟩:=l;exact⟨rfl,L,v,rfl⟩
 ·rename_i f first
  cases j;obtain⟨cap,rfl,g⟩:=l;have s:A2 (VR σ X) (first.map .c) cap:=A2.map (g.jX fun x u h=>CR.of1 σ h);exact⟨cap,[],rfl,by simpa using s.append q⟩
 ·simp at j
theorem gW{a:Act}{o:Oper}{cl:Call}{y:Operand}(b:o.op=.call cl)(g:cl.callee=.value y){w:World}{fn:Fn}{fst cap:Array Value}(d:a.eval y=.func fn fst cap) :
  (execOp a.eval o).run Q w=(invoke (.fn fn cap) (fst++cl.args.map a.eval)).run Q w:=by
 simp only [execOp,b,resolve,g,d,Deferred.ofValue,Sem.run_bind,Sem.run_pure,Result.andThen_ok]
theorem eF{f:FuncId}{cap as:Array Value}{w:World}(h:∀ as w,(callFunc f as).run Q w=.ok (.enter f as) w):(invoke (.fn (.func f) cap) as).run Q w=.ok (.enter f (as++cap)) w:=by
 simp only [invoke];exact h _ _
end
section
variable{Q:Program}{σ:Nat→FuncId}{X:Wd}{call:cL}
theorem afH{n:Nat}{H H':aj}(h:fY H H')(v:V):cC n H' v=cC n H v:=by
 cases v with
 | c x=>simp only [cC,lz n h]| a xs=>simp only [cC,eU (fun x _=>lz n h x)]
 | _=>rfl
theorem xX(K:eR Q σ call)(hS:SR Q σ X)(hB:X.B≤X.w.heap.size){f:Nat}{args:List V}{us:List Value}{H H':aj}{r':V}(g:eb call f args H=aa (r',H'))(hH:da H' X.H)(L:A2 (VR σ X) args us)(cs:List Frame) :
  (∀ as w,(callFunc (σ f) as).run Q w=.ok (.enter (σ f) as) w) ∧
  ∃ l X' u,Steps Q (lone (Frame.enter Q (σ f) us.toArray .normal) cs X.w) (lone l cs X'.w)∧Leaves Q (σ f) .normal l u X'.w∧eM Q σ X r' X.H X' u∧X'.cr=X.cr:=by
 unfold eb at g;split at g
 ·simp at g
 ·rename_i s d;split at g
  ·simp at g
  ·rename_i r S b;split at g
   ·simp at g
   ·rename_i a7 M;simp only [At,OF]at g;obtain⟨rfl,rfl⟩:=g;have A:=my deep args H;have B:=rj deep args H;obtain⟨v,J,h3⟩:=SR.flag hS;have d:=fH d;have z:A2 (VR σ X.flag.inner) s us:=by
     refine⟨by rw [←d.len];exact L.len,fun i y u O hu=>?_⟩;have hi:i<args.length:=by rw [d.len];exact(BY.1 O).1
     have N:=By hi;have m:cC deep H args[i]=aa y:=d.2 i _ _ N O;have q:=VR.ext' σ J (L.2 i _ _ N hu);rw [←afH A]at m;have E:gq σ X.flag args[i] u:=by
      cases j:args[i]with
      | c x=>rw [j]at q;exact q| a xs=>rw [j]at q;exact q| top=>trivial| t vs=>rw [j]at m;simp [cC]at m
     exact VR.of1 σ (ahH v h3 hH m (B _ (anc hi)) E X.flag.inner rfl rfl)
    obtain⟨l,Y,u,U,W,Z,I,g5,g6,g7⟩:=K.fn f s [] r S b X.flag.inner us .normal cs rfl (SR.inner v) (aft _) z (.inl rfl) (.inl rfl);obtain⟨k1,k2,k3⟩:=SR.outer v hB I g6;refine⟨K.enters f s [] _ b,l,{ X.flag with F:=Y.iW.F,w:=Y.w },u,U,W,⟨rfl,k1,?_,J.trans (k2.mono (aft _)),k3⟩,rfl⟩;rw [←Z]at M;exact B4 I M g5 _ rfl rfl
theorem lO{o:Oper}{f:Nat}{xs:List Arg}{h:Bool}(b:dG Q σ o (.call f xs h)=ae):∃ c,o.op=.call c∧c.callee=.value (.func (σ f))∧mAs σ xs c.args=ae:=by
 simp only [dG]at b;split at b
 ·rename_i c j;simp only [dM]at b;split at b
  ·rename_i g d;simp only [If,beq_iff_eq]at b;exact⟨c,j,by rw [d,b.1],b.2⟩
  ·simp at b
 ·simp at b
theorem xV{o:Oper}{x:Arg}{xs:List Arg}{h:Bool}(b:dG Q σ o (.bW x xs h)=ae):∃ c y,o.op=.call c∧c.callee=.value y∧mA σ x y=ae∧mAs σ xs c.args=ae:=by
 simp only [dG]at b;split at b
 ·rename_i c d;simp only [dM]at b;split at b
  ·rename_i y g;simp only [If]at b;exact⟨c,y,d,g,b.1,b.2⟩
  ·simp at b
 ·simp at b
theorem jQ{o:Oper}{c:Call}(h:o.op=.call c):∀ c,o.op≠.defer c:=fun b e=>by rw [h]at e;cases e
theorem zv(l:eR Q σ call)(q:SR Q σ X)(j:X.B≤X.w.heap.size){a:Act}{aw:T}(E:RR σ X aw a.tmps){o:Oper}{f:Nat}{xs:List Arg}{h:Bool}(I:dG Q σ o (.call f xs h)=ae)
  {H H':aj} {v:V} (y:eb call f (dm aw xs) H=aa (v,H')) (m:da H' X.H):cV Q σ X o a v X.H:=by
 obtain⟨c,x,F,d⟩:=lO I;have s:=lG E d;have b:=(xX l q j y m s []).1;refine cV.tK (jQ x) (f:=σ f) (us:=c.args.map a.eval) ?_ fun cs=>?_
 ·rw [gW x F (fn:=.func (σ f)) (fst:=#[]) (cap:=#[]) rfl,eF b];simp
 ·obtain⟨_,z,X',u,g,A,B,_⟩:=xX l q j y m s cs;exact⟨z,X',u,by rw [Array.toArray_toList]at g;exact g,A,B⟩
theorem xr(A:eR Q σ call)(F:SR Q σ X)(z:X.B≤X.w.heap.size){a:Act}{aw:T}(E:RR σ X aw a.tmps){o:Oper}{f:Nat}{xs:List Arg}{h:Bool}(K:dG Q σ o (.call f xs h)=ae)
  {H H':aj} {v:V} (L:eb call f (dm aw xs) H=aa (v,H')) (B:da H' X.H)
  (b:Frame) (ops:Array Oper) (i:Nat) (rest:List Nat) (k:List Item) (cs:List Frame) (g:ops[i]?=aa o) (M:Region.wanted o (yielded ops a.tmps)=ae) :
  ∃ X' u,Steps Q (lone (b.atR a (.inRegion ops (i::rest)::k)) cs X.w) (lone (b.atR (a.put o.dst u) (.inRegion ops rest::k)) cs X'.w)∧eM Q σ X v X.H X' u∧X'.cr=X.cr:=by
 obtain⟨c,s,J,m⟩:=lO K;have I:=lG E m;obtain⟨l,Z,X',u,q,⟨N,O,S,U,fn,W,Y⟩,x,y⟩:=xX A F z L B I (b.atR a (.inRegion ops (i::rest)::k)::cs);rw [Array.toArray_toList]at q;have j:(execOp a.eval o).run Q X.w=.ok (.enter (σ f) (c.args.map a.eval)) X.w:=by
  rw [gW s J (fn:=.func (σ f)) (fst:=#[]) (cap:=#[]) rfl,eF l];simp
 refine⟨X',u,.head (step_lone_go (fr':=Frame.enter Q (σ f) (c.args.map a.eval) .normal) (cs':=b.atR a (.inRegion ops (i::rest)::k)::cs) (w':=X.w) ?_) (q.trans (.one ?_)),x,y⟩
 ·rw [stepGR_op g M,Oper.semAt_eq _ _ _ (jQ s)];simp [stepG.apply,Sem.runT_eq,j,Frame.atR]
 ·have d:=Frame.finish_atR b a ops i rest k u;rw [g]at d;simp only [aqX]at d;rw [←d];exact step_leave_returned ⟨N,O,S,fn,by rw [U];exact W,Y⟩
theorem zu(j:eR Q σ call)(A:SR Q σ X)(y:X.B≤X.w.heap.size){a:Act}{aw:T}(z:RR σ X aw a.tmps){o:Oper}{f:Nat}{xs:List Arg}{h:Bool}(F:dG Q σ o (.call f xs h)=ae)
  {H':aj} {v:V} (m:call (.fn f) (dm aw xs) X.H=aa (v,H')):cV Q σ X o a v H':=by
 obtain⟨c,l,E,d⟩:=lO F;have B:=lG z d;have b:=j.enters _ _ _ _ m;refine cV.tK (jQ l) (f:=σ f) (us:=c.args.map a.eval) ?_ fun cs=>?_
 ·rw [gW l E (fn:=.func (σ f)) (fst:=#[]) (cap:=#[]) rfl,eF b];simp
 ·obtain⟨q,X',u,g,s,x⟩:=j.fn _ _ _ _ _ m X _ .normal cs rfl A y B (.inl rfl) (.inl rfl);exact⟨q,X',u,by rw [Array.toArray_toList]at g;exact g,s,x⟩
theorem Yr(A:eR Q σ call)(M:SR Q σ X)(J:X.B≤X.w.heap.size){a:Act}{aw:T}(K:RR σ X aw a.tmps){o:Oper}{x:Arg}{xs:List Arg}{h:Bool}(hm:dG Q σ o (.bW x xs h)=ae)
  {H':aj} {v:V} {c:Callee} {args:List V} (m:bQ (x.ev aw) (dm aw xs)=aa (c,args)) (E:call c args X.H=aa (v,H')):cV Q σ X o a v H':=by
 obtain⟨cl,y,s,O,hy,H⟩:=xV hm;have N:=lG K H;have S:=nh m (bO K hy) N;cases c with
 | fn f=>
  obtain⟨fst,cap,j,F⟩:=S;have B:=A.enters _ _ _ _ E;refine cV.tK (jQ s) (f:=σ f) (us:=fst.toArray++cl.args.map a.eval++cap.toArray) ?_ fun cs=>?_
  ·rw [gW s O j,eF B]
  ·obtain⟨W,X',u,q,z,Y⟩:=A.fn _ _ _ _ _ E X _ .normal cs rfl M J F (.inl rfl) (.inl rfl);refine⟨W,X',u,?_,z,Y⟩;have e:(fst++(cl.args.map a.eval).toList++cap).toArray=fst.toArray++cl.args.map a.eval++cap.toArray:=by simp
   rw [e]at q;exact q
 | yield b=>
  obtain⟨rfl,L,Z,j⟩:=S;have key:=fun c cs=>A.yield b _ _ _ _ E X _ c cs L rfl M J N Z;obtain⟨f,tmps,as,bd,_,_,g,_⟩:=key default [];refine cV.ZH (jQ s) (l:=L.c) (f:=f) (tmps:=tmps) (as:=as) (bd:=bd) ?_ fun c cs=>?_
  ·rw [gW s O j,Array.empty_append];rw [Array.toArray_toList]at g;exact g
  ·obtain⟨f',I,as',U,X',u,d,q,z⟩:=key c cs;rw [g]at d;simp only [Result.ok.injEq,Next.round.injEq,true_and,and_true]at d;obtain⟨rfl,rfl,rfl,rfl⟩:=d;exact⟨X',u,q,z⟩
end
section
variable{Q:Program}{σ:Nat→FuncId}{X:Wd}{call:cL}
def su(σ:Nat→FuncId)(X:Wd):dA→Deferred→Prop
 | .gm b,d=>∃ L o,X.cr b=aa L∧X.H[b]?=aa (.eO o)∧d = { target:=.collected L.c,args:=#[] }| .fn f args,d=>∃ us cap:Array Value,d = { target:=.fn (.func (σ f)) cap,args:=us }∧A2 (VR σ X) args (us.toList++cap.toList)
theorem su.dQ{X X':Wd}(g:nN X.H.length X X'){x:dA}{d:Deferred}(h:su σ X x d):su σ X' x d:=by
 cases x with
 | gm b=>
  obtain⟨L,o,h1,h2,h3⟩:=h;obtain⟨blk',h4,h5⟩:=g.cG b (BY.1 h2).1 _ h2;cases blk'<;>simp only at h5;exact⟨L,_,h5 L h1,h4,h3⟩
 | fn f args=>
  obtain⟨us,cap,h1,h2⟩:=h;exact⟨us,cap,h1,h2.jX fun _ _ h=>VR.dQ σ g h⟩
def fv(σ:Nat→FuncId)(X:Wd)(ds:List dA)(b:List Deferred):Prop:=A2 (su σ X) ds b
theorem su.ext'{X X':Wd}(b:Ext X.H.length X X'){x:dA}{d:Deferred}(h:su σ X x d):su σ X' x d:=su.dQ b.W h
theorem fv.dQ{X X':Wd}(d:nN X.H.length X X'){ds:List dA}{b:List Deferred}(h:fv σ X ds b):fv σ X' ds b:=h.jX fun _ _ h=>su.dQ d h
theorem fv.ext'{X X':Wd}(d:Ext X.H.length X X'){ds:List dA}{b:List Deferred}(h:fv σ X ds b):fv σ X' ds b:=h.jX fun _ _ h=>su.ext' d h
def nR(Q:Program)(σ:Nat→FuncId)(X:Wd)(o:Oper)(a:Act)(ok:Frame→Prop)(v:V)(H':aj)(ds:List dA):Prop:=
 ∀(b:Frame) (ops:Array Oper) (i:Nat) (rest:List Nat) (k:List Item) (cs:List Frame),ops[i]?=aa o→Region.wanted o (yielded ops a.tmps)=ae→iG b cs→ok b →
  ∃(X':Wd) (u:Value) (a':Act),Steps Q (lone (b.atR a (.inRegion ops (i::rest)::k)) cs X.w) (lone (b.atR (a'.put o.dst u) (.inRegion ops rest::k)) cs X'.w)∧eM Q σ X v H' X' u∧a'.tmps=a.tmps∧fv σ X' ds a'.defers
theorem cV.aaU{o:Oper}{a:Act}{v:V}{H':aj}(h:cV Q σ X o a v H'){ds:List dA}(d:fv σ X ds a.defers){ok:Frame→Prop}:nR Q σ X o a ok v H' ds:=by
 intro b ops i rest k cs ho j g _;obtain⟨X',u,h1,h2⟩:=h b ops i rest k cs ho j g;exact⟨X',u,a,h1,h2,rfl,d.ext' h2.2.2.2.1⟩
theorem cV.ahead(j:SR Q σ X){d H':aj}(g:da X.H d){o:Oper}{a:Act}{v:V}(h:cV Q σ { X with H:=d } o a v H'):cV Q σ X o a v H':=by
 intro b ops i rest k cs ho m l;obtain⟨X',u,h1,h2,h3,h4,h5,h6⟩:=h b ops i rest k cs ho m l;exact⟨X',u,h1,h2,h3,h4,(SR.ahead j g).2.trans (h5.mono g.len),h6⟩
def gd(op:cQ)(b:Frame):Prop:=b.roundOf=ab∨op.dJ=ae
theorem CL(y:SR Q σ X)(x:X.B≤X.w.heap.size){a:Act}{o:Oper}(g:dG Q σ o .recover=ae){ds:List dA}(z:fv σ X ds a.defers):nR Q σ X o a (gd .recover) (.c (.f .kU)) X.H ds:=by
 intro b ops i rest k cs v B A q;have q:b.roundOf=ab:=q.elim id fun h=>by simp [cQ.dJ]at h
 simp only [dG]at g;split at g
 ·rename_i c u;simp only [dM]at g;split at g
  ·rename_i j;have l:(execOp a.eval o).run Q X.w=.ok .recover X.w:=by
    simp [execOp,u,resolve,j,invoke,builtin]
   refine⟨X,.nilIface,a,.one (step_lone_go ?_),⟨rfl,y,cM.kU,Ext.refl _ _,x⟩,rfl,z⟩;rw [stepGR_op v B,Oper.semAt_eq _ _ _ (jQ u)];have d:=Frame.finish_atR b a ops i rest k .nilIface;rw [v]at d;simp only [aqX]at d;rw [←d];have m:tryRecover (b.atR a (.inRegion ops (i::rest)::k)) cs=ab:=nA.NB A;have s:(b.atR a (.inRegion ops (i::rest)::k)).roundOf=ab:=q;simp [stepG.apply,Sem.runT_eq,l,m,s]
  ·simp at g
 ·simp at g
theorem YF(A:SR Q σ X)(z:X.B≤X.w.heap.size){a:Act}{aw:T}(u:RR σ X aw a.tmps){o:Oper}{x:Arg}{xs:List Arg}(g:dG Q σ o (.defer x xs)=ae){ds:List dA}(E:fv σ X ds a.defers)
  {f:Nat} {args:List V} (B:bQ (x.ev aw) (dm aw xs)=aa (.fn f,args)):nR Q σ X o a (gd (.defer x xs)) .top X.H (.fn f args::ds):=by
 intro b ops i rest k cs v H J m;have m:b.roundOf=ab:=m.elim id fun h=>by simp [cQ.dJ]at h
 simp only [dG]at g;split at g
 ·rename_i c j;split at g
  ·rename_i y I;simp only [If]at g;have F:=nh B (bO u g.1) (lG u g.2);obtain⟨fst,cap,q,s⟩:=F;have l:(execOp a.eval o).run Q X.w=.ok (.defer { target:=.fn (.func (σ f)) cap.toArray,args:=fst.toArray++c.args.map a.eval }) X.w:=by
    simp [execOp,j,resolve,I,q,Deferred.ofValue]
   refine⟨X,undef,{ a with defers:={ target:=.fn (.func (σ f)) cap.toArray,args:=fst.toArray++c.args.map a.eval }::a.defers },.one (step_lone_go ?_),⟨rfl,A,trivial,Ext.refl _ _,z⟩,rfl,A2.cons ⟨_,_,rfl,by simpa using s⟩ E⟩;rw [stepGR_op v H,m,Oper.semAt_none];have d:=Frame.finish_atR b { a with defers:={ target:=.fn (.func (σ f)) cap.toArray,args:=fst.toArray++c.args.map a.eval }::a.defers } ops i rest k undef;rw [v]at d;simp only [aqX]at d;rw [←d];simp [stepG.apply,Sem.runT_eq,l,Frame.atR]
  ·simp at g
 ·simp at g
theorem oW{o:Oper}{op:cQ}(d:dG Q σ o op=ae)(g:∀ x xs,op≠.defer x xs)(j:op≠.bad):∀ c,o.op≠.defer c:=by
 intro c b;cases op
 case pre o sz=>cases o<;>simp [dG,b]at d
 case defer x xs=>exact g _ _ rfl
 case bad=>exact j rfl
 all_goals simp [dG,b]at d
theorem Ez(z:eR Q σ call)(g:SR Q σ X)(l:X.B≤X.w.heap.size){a:Act}{s s':St}(m:X.H=s.heap)(q:RR σ X s.aw a.tmps)(u:fv σ X s.defs a.defers){o:Oper}{op:cQ}(j:dG Q σ o op=ae){v:V}
  (h:eE call s op=aa (v,s')):nR Q σ X o a (gd op) v s'.heap s'.defs∧s'.aw=s.aw:=by
 by_cases B:(∃ f xs h,op=.call f xs h)∨(∃ x xs h,op=.bW x xs h)∨op=.recover∨∃ x xs,op=.defer x xs
 ·rcases B with⟨f,xs,K,rfl⟩ | ⟨x,xs,K,rfl⟩ | rfl | ⟨x,xs,rfl⟩
  ·simp only [eE,IT,OF]at h;obtain⟨⟨F,H'⟩,d,rfl,rfl⟩:=h;refine⟨cV.aaU ?_ u,rfl⟩;unfold gh at d;split at d
   ·exact zu z g l q j (m▸d)
   ·have y:da X.H H':=by
     have b:=d;unfold eb at b;split at b
     ·simp at b
     ·split at b
      ·simp at b
      ·split at b
       ·simp at b
       ·simp only [At,OF]at b;rw [←b.2,m];exact(my _ _ _).ext
    obtain⟨I,J⟩:=SR.ahead g y;refine cV.ahead g y ?_;exact zv z (X:={ X with H:=H' }) I l (q.ext' σ J) j d (da.refl _)
  ·simp only [eE]at h;split at h
   ·rename_i c args A;simp only [IT,OF]at h;obtain⟨⟨F,H'⟩,d,rfl,rfl⟩:=h;exact⟨cV.aaU (Yr z g l q j A (m▸d)) u,rfl⟩
   ·simp at h
  ·simp only [eE,At,OF]at h;obtain⟨rfl,rfl⟩:=h;rw [←m];exact⟨CL g l j u,rfl⟩
  ·simp only [eE]at h;split at h
   ·rename_i f args A;simp only [At,OF]at h;obtain⟨rfl,rfl⟩:=h;refine⟨?_,rfl⟩;rw [←m];exact YF g l q j u A
   ·simp at h
 ·have E:(bl s.aw s.heap op).map (fun r=>(r.1,{ s with heap:=r.2 }))=aa (v,s'):=by
   cases op<;>first | exact h | (exfalso;apply B;simp)
  simp only [IT,OF]at E;obtain⟨⟨F,H'⟩,d,rfl,rfl⟩:=E;refine⟨cV.aaU (cV.anB (oW j ?_ ?_) (alk g l q j (m▸d))) u,rfl⟩
  ·rintro x xs rfl;exact B (.inr (.inr (.inr ⟨x,xs,rfl⟩)))
  ·rintro rfl;simp [bl]at d
end
section
variable{Q:Program}{σ:Nat→FuncId}{X:Wd}{call:cL}
structure Fr(Q:Program)(σ:Nat→FuncId)(n:Nat)(X:Wd)(s:St)(a:Act):Prop where
 heap:X.H=s.heap
 sr:SR Q σ X
 b:X.B≤X.w.heap.size
 aw:RR σ X s.aw a.tmps
 defs:fv σ X s.defs a.defers
 size:n≤a.tmps.size
theorem mH{n:Nat}{ops:Array Oper}{o:Oper}{m:aP}(F:jP Q σ n ops o m=ae){aw:T}{tmps:Array Value}(I:∀ p w',m.g=aa (p,w')→VR σ X (aw.get p) (tmps.getD p.toNat undef))(K:n≤tmps.size){w:Bool}(h:wanted aw m.g=aa w) :
  Region.wanted o (yielded ops tmps)=w:=by
 simp only [jP,If]at F;obtain⟨_,b⟩:=F;unfold Region.wanted;cases x:o.guard with
 | none=>
  rw [x]at b;cases g:m.g with
  | none=>rw [g]at h;simp only [wanted,At]at h;simpa using h| some q=>rw [g]at b;simp at b
 | some L=>
  obtain⟨j,N⟩:=L;rw [x]at b;cases g:m.g with
  | none=>rw [g]at b;simp at b
  | some q=>
   obtain⟨p,w'⟩:=q;rw [g]at b h;simp only [If,beq_iff_eq]at b;obtain⟨rfl,b⟩:=b;split at b
   ·rename_i d J;simp only [If,beq_iff_eq,decide_eq_true_eq]at b;obtain⟨B,A⟩:=b;have l:=I p _ g;rw [B]at l;have v:d<tmps.size:=aqR A K;have s:tmps.getD d undef=tmps[d]:=by simp [Array.getD,v]
    rw [s]at l;simp only [wanted]at h;simp only [yielded,J,aqX,Array.getElem?_eq_getElem v];split at h
    ·rename_i H z;rw [z]at l;simp only [At]at h;have y:cM σ X.F X.w (.bool H) tmps[d]:=l;generalize tmps[d]=u at y;cases y;subst h;simp
    ·rename_i z;rw [z]at l;obtain⟨us,E,M⟩:=l;simp only [At]at h;subst h;rw [E];simp
    ·simp at h
   ·simp at b
theorem ZX{n:Nat}{ops:Array Oper}{o:Oper}{m:aP}(s:jP Q σ n ops o m=ae){aw:T}{a:Act}(q:RR σ X aw a.tmps)(x:n≤a.tmps.size){v:V}{u:Value}(y:VR σ X v u) :
  RR σ X (ja aw m.dst v) (a.put o.dst u).tmps∧(a.put o.dst u).tmps.size=a.tmps.size∧(a.put o.dst u).defers=a.defers:=by
 simp only [jP,If]at s;obtain⟨⟨_,b⟩,_⟩:=s;split at b
 ·rename_i d p g j;simp only [If,beq_iff_eq,decide_eq_true_eq]at b;obtain⟨rfl,l⟩:=b;rw [g,j];exact⟨RR.set σ q (aqR l x) y,by simp [Act.put],rfl⟩
 ·rename_i g j;rw [g,j];exact⟨q,rfl,rfl⟩
 ·simp at b
theorem VR.undef:VR σ X (.t []) undef:=⟨[],rfl,A2.nil⟩
theorem aaX(O:eR Q σ call){n:Nat}{s s':St}{a:Act}(d:Fr Q σ n X s a){ops:Array Oper}{o:Oper}{q:aP}(j:jP Q σ n ops o q=ae)(h:fm call s q=aa s')
  {b:Frame} {i:Nat} {rest:List Nat} {k:List Item} {cs:List Frame} (y:ops[i]?=aa o) (S:iG b cs) (U:gd q.op b) :
  ∃ X' a',Steps Q (lone (b.atR a (.inRegion ops (i::rest)::k)) cs X.w) (lone (b.atR a' (.inRegion ops rest::k)) cs X'.w)∧Fr Q σ n X' s' a'∧Ext X.H.length X X'∧a'.tmps.size=a.tmps.size:=by
 unfold fm at h;split at h
 ·rename_i g;have g:=mH j (fun p w' _=>d.aw p) d.size g;split at h
  ·rename_i v W L;simp only [At]at h;subst h;have l:dG Q σ o q.op=ae:=by simp only [jP,If]at j;exact j.1.1
   obtain⟨M,N⟩:=Ez O d.sr d.b d.heap d.aw d.defs l L;obtain⟨X',u,a',E,⟨F,H,I,B,J⟩,x,K⟩:=M b ops i rest k cs y g S U;obtain⟨z,m,A⟩:=ZX j (X:=X') (a:=a') (by rw [x];exact d.aw.ext' σ B) (by rw [x];exact d.size) I;refine⟨X',a'.put o.dst u,E,⟨F,H,J,?_,by rw [A];exact K,by rw [m,x];exact d.size⟩,B,by rw [m,x]⟩;simpa [N]using z
  ·simp at h
 ·rename_i g;have g:=mH j (fun p w' _=>d.aw p) d.size g;simp only [At]at h;subst h;obtain⟨z,m,A⟩:=ZX j d.aw d.size (VR.undef (σ:=σ) (X:=X));refine⟨X,a.put o.dst undef,.one ?_,⟨d.heap,d.sr,d.b,z,by rw [A];exact d.defs,by rw [m];exact d.size⟩,Ext.refl _ _,m⟩;have:=stepR_op_skip (P:=Q) (b:=b) (a:=a) (k:=k) (cs:=cs) (w:=X.w) (ops:=ops) (i:=i) (rest:=rest) (by simp [y,g]);rw [y]at this;exact this
 ·simp at h
theorem EC(H:eR Q σ call){n:Nat}{ops:Array Oper}{b:Frame}{k:List Item}{cs:List Frame}(I:iG b cs):∀(aos:List aP) (j:Nat) (X:Wd) (s s':St) (a:Act),Fr Q σ n X s a →
  eY (jP Q σ n ops) (ops.toList.drop j) aos=ae→(∀ ao ∈ aos,gd ao.op b)→fh call aos s=aa s' →
  ∃ X' a',Steps Q (lone (b.atR a (.inRegion ops ((List.range ops.size).drop j)::k)) cs X.w) (lone (b.atR a' k) cs X'.w)∧Fr Q σ n X' s' a'∧Ext X.H.length X X'∧a'.tmps.size=a.tmps.size
 | [],j,X,s,s',a,A,d,_,h=>by
  simp only [fh,At]at h;subst h;have S:(List.range ops.size).drop j=[]:=by
   cases g:ops.toList.drop j with
   | nil=>
    have:=ast.1 g;simp at this;rw [ast];simpa using this
   | cons x xs=>rw [g]at d;simp [eY]at d
  rw [S];exact⟨X,a,.one stepR_region_end,A,Ext.refl _ _,rfl⟩
 | ao::aos,j,X,s,s',a,A,d,J,h=>by
  cases g:ops.toList.drop j with
  | nil=>rw [g]at d;simp [eY]at d
  | cons o os=>
   rw [g]at d;simp only [eY,If]at d;have v:j<ops.toList.length:=by
    rcases aqY j ops.toList.length with q | q
    ·exact q
    ·rw [ast.2 q]at g;simp at g
   have l:=apw v;rw [g]at l;simp only [List.cons.injEq]at l;obtain⟨U,F⟩:=l;simp only [fh]at h;split at h
   ·rename_i s1 q;have m:(List.range ops.size).drop j=j ::(List.range ops.size).drop (j+1):=by
     rw [apw (by simpa using v)];simp
    rw [m];obtain⟨y,a1,M,N,z,O⟩:=aaX H A d.1 q (b:=b) (i:=j) (rest:=(List.range ops.size).drop (j+1)) (k:=k) (cs:=cs) (by simp at v;simp [v,U]) I (J _ (by simp));obtain⟨K,L,W,Y,Z,k4⟩:=EC H I aos (j+1) y s1 s' a1 N (by rw [←F];exact d.2) (fun ao h=>J ao (by simp [h])) h;refine⟨K,L,M.trans W,Y,z.trans (Z.mono ?_),k4.trans O⟩;have:=z.cG;rcases aqY y.H.length X.H.length with u | E
    ·obtain⟨blk',B,_⟩:=z.cG y.H.length u _ (By u);have:=(BY.1 B).1;omega
    ·exact E
   ·simp at h
end
theorem jH{r r':T}{x:Arg}(h:∀ p ∈ x.rd,r.get p=r'.get p):x.ev r=x.ev r':=by
 cases x with
 | r p=>exact h p (by simp [Arg.rd])
 | k v=>rfl
theorem NF{r r':T}{x:Option Arg}(h:∀ p ∈ oRd x,r.get p=r'.get p):x.map (·.ev r)=x.map (·.ev r'):=by
 cases x with
 | none=>rfl| some x=>simp only [aq4];rw [jH h]
theorem fM{r r':T}{xs:List Arg}(h:∀ p ∈ xs.flatMap Arg.rd,r.get p=r'.get p):dm r xs=dm r' xs:=by
 unfold dm;refine List.map_congr_left fun x d=>jH fun p b=>h p (arQ.2 ⟨x,d,b⟩)
theorem iI{r r':T}:∀(ps:List (Nat × Nat × Arg)) (cs:List C),(∀ p ∈ ps.flatMap (fun q=>q.2.2.rd),r.get p=r'.get p)→dw r cs ps=dw r' cs ps
 | [],cs,_=>rfl
 | (off,n,x)::ps,cs,h=>by
  simp only [dw];rw [jH (x:=x) (r:=r) (r':=r') fun p b=>h p (by simp [b])];split
  ·split
   ·exact iI ps _ fun p b=>h p (by simp only [List.flatMap_cons,aqC];exact .inr b)
   ·rfl
  ·rfl
theorem C4{r r':T}{H:aj}{op:cQ}(h:∀ p ∈ op.rd,r.get p=r'.get p):bl r H op=bl r' H op:=by
 have e:∀ x:Arg,(∀ p ∈ x.rd,p ∈ op.rd)→x.ev r=x.ev r':=fun x A=>jH fun p d=>h p (A p d);have g:∀ x:Option Arg,(∀ p ∈ oRd x,p ∈ op.rd)→x.map (·.ev r)=x.map (·.ev r'):=fun x A=>NF fun p d=>h p (A p d);cases op
 case build zs ps=>simp only [bl];rw [iI ps _ h]
 case bE sz zs n ps=>
  simp only [bl];rw [iI (r:=r) (r':=r') (ps.map fun p=>(p.1*sz,sz,p.2)) _ fun p d=>h p (by
   simp only [arQ,aqJ]at d;obtain⟨q,⟨q',j,rfl⟩,u⟩:=d;exact arQ.2 ⟨q',j,u⟩)]
 case fq sz zs n ps=>
  simp only [bl];rw [iI (r:=r) (r':=r') (ps.map fun p=>(p.1*sz,sz,p.2)) _ fun p d=>h p (by
   simp only [arQ,aqJ]at d;obtain⟨q,⟨q',j,rfl⟩,u⟩:=d;exact arQ.2 ⟨q',j,u⟩)]
 case fB f xs=>simp only [bl];rw [fM h]
 case pick c a b=>
  simp only [bl];rw [e c (by simp +contextual [cQ.rd])];split
  ·rename_i v _;cases v<;>simp [e a (by simp +contextual [cQ.rd]),e b (by simp +contextual [cQ.rd])]
  ·rfl
 case slice sz x lo hi mx=>simp only [bl];rw [e x (by simp +contextual [cQ.rd]),g lo (by simp +contextual [cQ.rd]),g hi (by simp +contextual [cQ.rd]),g mx (by simp +contextual [cQ.rd])]
 case lY n sz x lo hi mx=>simp only [bl];rw [e x (by simp +contextual [cQ.rd]),g lo (by simp +contextual [cQ.rd]),g hi (by simp +contextual [cQ.rd]),g mx (by simp +contextual [cQ.rd])]
 case mZ x lo hi=>simp only [bl];rw [e x (by simp +contextual [cQ.rd]),g lo (by simp +contextual [cQ.rd]),g hi (by simp +contextual [cQ.rd])]
 case iu B m k v=>simp only [bl];rw [e m (by simp +contextual [cQ.rd]),e k (by simp +contextual [cQ.rd]),e v (by simp +contextual [cQ.rd])]
 case aZ x=>simp only [bl];rw [e x (by simp +contextual [cQ.rd])]
 case box x=>simp only [bl];rw [e x (by simp +contextual [cQ.rd])]
 case load n x=>simp only [bl];rw [e x (by simp +contextual [cQ.rd])]
 case bV x=>simp only [bl];rw [e x (by simp +contextual [cQ.rd])]
 case un o x=>simp only [bl];rw [e x (by simp +contextual [cQ.rd])]
 case eS k x=>simp only [bl];rw [e x (by simp +contextual [cQ.rd])]
 case uR x=>simp only [bl];rw [e x (by simp +contextual [cQ.rd])]
 case uQ x=>simp only [bl];rw [e x (by simp +contextual [cQ.rd])]
 case BO x=>simp only [bl];rw [e x (by simp +contextual [cQ.rd])]
 case aQ o x=>simp only [bl];rw [e x (by simp +contextual [cQ.rd])]
 case field o n x=>simp only [bl];rw [e x (by simp +contextual [cQ.rd])]
 case range x=>simp only [bl];rw [e x (by simp +contextual [cQ.rd])]
 case next x=>simp only [bl];rw [e x (by simp +contextual [cQ.rd])]
 case extract x i=>simp only [bl];rw [e x (by simp +contextual [cQ.rd])]
 case len x=>simp only [bl];rw [e x (by simp +contextual [cQ.rd])]
 case lens x=>simp only [bl];rw [e x (by simp +contextual [cQ.rd])]
 case cap x=>simp only [bl];rw [e x (by simp +contextual [cQ.rd])]
 case entry x=>simp only [bl];rw [e x (by simp +contextual [cQ.rd])]
 case jB x=>simp only [bl];rw [e x (by simp +contextual [cQ.rd])]
 case mX x=>simp only [bl];rw [e x (by simp +contextual [cQ.rd])]
 case clear s z x=>simp only [bl];rw [e x (by simp +contextual [cQ.rd])]
 case gb lo xs=>simp only [bl];rw [fM h]
 case lJ f xs=>simp only [bl];rw [fM h]
 case ue s x y z=>simp only [bl];rw [e x (by simp +contextual [cQ.rd]),e y (by simp +contextual [cQ.rd]),e z (by simp +contextual [cQ.rd])]
 case ka s b z x y=>simp only [bl];rw [e x (by simp +contextual [cQ.rd]),e y (by simp +contextual [cQ.rd])]
 case store n x y=>simp only [bl];rw [e x (by simp +contextual [cQ.rd]),e y (by simp +contextual [cQ.rd])]
 case bin o x y=>simp only [bl];rw [e x (by simp +contextual [cQ.rd]),e y (by simp +contextual [cQ.rd])]
 case eq n k x y=>simp only [bl];rw [e x (by simp +contextual [cQ.rd]),e y (by simp +contextual [cQ.rd])]
 case bC s a x y=>simp only [bl];rw [e x (by simp +contextual [cQ.rd]),e y (by simp +contextual [cQ.rd])]
 case idxs x y=>simp only [bl];rw [e x (by simp +contextual [cQ.rd]),e y (by simp +contextual [cQ.rd])]
 case uT l s n x y=>simp only [bl];rw [e x (by simp +contextual [cQ.rd]),e y (by simp +contextual [cQ.rd])]
 case append s b x y=>simp only [bl];rw [e x (by simp +contextual [cQ.rd]),e y (by simp +contextual [cQ.rd])]
 case copy s x y=>simp only [bl];rw [e x (by simp +contextual [cQ.rd]),e y (by simp +contextual [cQ.rd])]
 case lookup c z x y=>simp only [bl];rw [e x (by simp +contextual [cQ.rd]),e y (by simp +contextual [cQ.rd])]
 case dI s b z x y=>simp only [bl];rw [e x (by simp +contextual [cQ.rd]),e y (by simp +contextual [cQ.rd])]
 all_goals rfl
theorem EA{call:cL}{s:St}{r':T}{op:cQ}(h:∀ p ∈ op.rd,s.aw.get p=r'.get p){v:V}{s':St}(b:eE call s op=aa (v,s')):eE call { s with aw:=r' } op=aa (v,{ s' with aw:=r' }):=by
 by_cases d:(∃ f xs h,op=.call f xs h)∨(∃ x xs h,op=.bW x xs h)∨op=.recover∨∃ x xs,op=.defer x xs
 ·rcases d with⟨f,xs,m,rfl⟩ | ⟨x,xs,m,rfl⟩ | rfl | ⟨x,xs,rfl⟩
  ·simp only [eE,IT,OF]at b ⊢;obtain⟨q,g,rfl,rfl⟩:=b;rw [fM h]at g;exact⟨q,g,rfl,rfl⟩
  ·simp only [eE]at b ⊢;rw [jH (x:=x) (r:=s.aw) (r':=r') (fun p d=>h p (by simp [cQ.rd,d])),fM (xs:=xs) (r:=s.aw) (r':=r') (fun p d=>h p (by simp only [cQ.rd,aqC];exact .inr d))]at b;split at b
   ·simp only [IT,OF]at b ⊢;obtain⟨q,g,rfl,rfl⟩:=b;exact⟨q,g,rfl,rfl⟩
   ·simp at b
  ·simp only [eE,At,OF]at b ⊢;obtain⟨rfl,rfl⟩:=b;exact⟨rfl,rfl⟩
  ·simp only [eE]at b ⊢;rw [jH (x:=x) (r:=s.aw) (r':=r') (fun p d=>h p (by simp [cQ.rd,d])),fM (xs:=xs) (r:=s.aw) (r':=r') (fun p d=>h p (by simp only [cQ.rd,aqC];exact .inr d))]at b;split at b
   ·simp only [At,OF]at b ⊢;obtain⟨rfl,rfl⟩:=b;exact⟨rfl,rfl⟩
   ·simp at b
 ·have j:(bl s.aw s.heap op).map (fun r=>(r.1,{ s with heap:=r.2 }))=aa (v,s'):=by
   cases op<;>first | exact b | (exfalso;apply d;simp)
  have l:eE call { s with aw:=r' } op=(bl r' s.heap op).map (fun r=>(r.1,{ s with aw:=r',heap:=r.2 })):=by
   cases op<;>first | rfl | (exfalso;apply d;simp)
  rw [l,←C4 h];simp only [IT,OF]at j ⊢;obtain⟨q,g,rfl,rfl⟩:=j;exact⟨q,g,rfl,rfl⟩
theorem ah1{r:T}{op:cQ}(b:cls op=.p)(H H':aj):bl r H' op=(bl r H op).map fun q=>(q.1,H'):=by
 cases op<;>simp only [cls,reduceCtorEq]at b<;>simp only [bl]
 all_goals first
  | (simp [Function.comp_def];done)
  | (split<;>simp [Function.comp_def];done)
  | (split<;>(first | rfl | (split<;>rfl)))
section
theorem eZ{H H':aj}(l:da H H')(b:Nat):H[b]?=ab∨(∃ cs fl g,H[b]?=aa (.box cs fl)∧H'[b]?=aa (.box cs g)) ∨
  (∃ s cs fl g e st,H[b]?=aa (.bT s cs fl e st)∧H'[b]?=aa (.bT s cs g e st))∨∃ bj,H[b]?=aa bj∧H'[b]?=aa bj:=by
 cases m:H[b]? with
 | none=>exact .inl rfl
 | some bj=>
  obtain⟨blk',d,j⟩:=l b _ m;cases bj<;>cases blk'<;>simp only [df,reduceCtorEq]at j
  ·obtain⟨rfl,_⟩:=j;exact .inr (.inl ⟨_,_,_,rfl,d⟩)
  ·obtain⟨rfl,rfl,_,rfl,rfl⟩:=j;exact .inr (.inr (.inl ⟨_,_,_,_,_,_,rfl,d⟩))
  all_goals (rw [←j]at d;exact .inr (.inr (.inr ⟨_,rfl,d⟩)))
variable{H H':aj}
theorem zy(j:da H H'){x:C}{cs:List C}(h:aF H x=aa cs):aF H' x=aa cs:=by
 cases x with
 | ptr b off ep=>
  simp only [aF]at h ⊢;rcases eZ j b with e | ⟨cs,fl,g,e,d⟩ | ⟨s,cs,fl,g,l,st,e,d⟩ | ⟨bj,e,d⟩
  ·simp [e]at h
  ·rw [e]at h;rw [d];exact h
  ·rw [e]at h;rw [d];cases st<;>exact h
  ·rw [e]at h;rw [d];exact h
 | f x=>cases x<;>exact h
 | _=>simp [aF]at h
theorem af7(g:da H H'){n:Option Nat}{x:V}{v:V}(h:aU H n x=aa v):aU H' n x=aa v:=by
 cases x with
 | c x=>
  simp only [aU,Option.bind_eq_some_iff]at h ⊢;obtain⟨cs,b,d⟩:=h;exact⟨cs,zy g b,d⟩
 | _=>simp [aU]at h
theorem wO(j:da H H'){x:C}{n:Nat}(h:bu H x=aa n):bu H' x=aa n:=by
 cases x with
 | sl b o l c ep sz=>
  simp only [bu]at h ⊢;rcases eZ j b with e | ⟨cs,fl,g,e,d⟩ | ⟨s,cs,fl,g,m,st,e,d⟩ | ⟨bj,e,d⟩
  ·simp [e]at h
  all_goals (rw [e]at h;rw [d];exact h)
 | f x=>cases x<;>exact h
 | _=>simp [bu]at h
theorem AR(j:da H H'){sz:Nat}{x:C}{cs:List C}(h:cK H sz x=aa cs):cK H' sz x=aa cs:=by
 cases x with
 | sl b o l c ep s=>
  simp only [cK]at h ⊢;rcases eZ j b with e | ⟨cs,fl,g,e,d⟩ | ⟨s,cs,fl,g,m,st,e,d⟩ | ⟨bj,e,d⟩
  ·simp [e]at h
  all_goals (rw [e]at h;rw [d];exact h)
 | f x=>cases x<;>exact h
 | _=>simp [cK]at h
theorem mv(j:da H H'){k:Dn}{x:C}{b:Bool}(h:isNil H k x=aa b):isNil H' k x=aa b:=by
 cases k<;>cases x<;>first | exact h | (simp [isNil]at h;done) | skip
 case sl.sl bb o l c ep s=>
  simp only [isNil]at h ⊢;rcases eZ j bb with e | ⟨cs,fl,g,e,d⟩ | ⟨s,cs,fl,g,m,st,e,d⟩ | ⟨bj,e,d⟩
  ·simp [e]at h
  all_goals (rw [e]at h;rw [d];exact h)
 all_goals (rename_i y;cases y<;>exact h)
theorem afF(d:da H H'){k:Dn}{x y:V}{b:Bool}(h:BS H k x y=aa b):BS H' k x y=aa b:=by
 unfold BS at h;split at h
 ·exact h
 ·exact h
 ·exact mv d h
 ·exact mv d h
 ·exact mv d h
 ·exact mv d h
 ·simp at h
theorem CX(j:da H H'){sz:Nat}{x:V}{lo hi mx:Option V}{v:V}(h:eo H sz x lo hi mx=aa v):eo H' sz x lo hi mx=aa v:=by
 unfold eo at h;split at h
 ·exact h
 ·exact h
 ·exact h
 ·rename_i b o n cap ep s;simp only [eo];rcases eZ j b with e | ⟨cs,fl,g,e,d⟩ | ⟨s,cs,fl,g,l,st,e,d⟩ | ⟨bj,e,d⟩
  ·simp [e]at h
  all_goals (rw [e]at h;rw [d];exact h)
 ·simp at h
theorem CV(j:da H H'){n sz:Nat}{x:V}{lo hi mx:Option V}{v:V}(h:jD H n sz x lo hi mx=aa v):jD H' n sz x lo hi mx=aa v:=by
 unfold jD at h;split at h
 ·rename_i b off ep;simp only [jD];rcases eZ j b with e | ⟨cs,fl,g,e,d⟩ | ⟨s,cs,fl,g,l,st,e,d⟩ | ⟨bj,e,d⟩
  ·simp [e]at h
  all_goals (rw [e]at h;rw [d];exact h)
 ·exact h
 ·simp at h
theorem zW(m:da H H'){sz:Nat}{d:Option Nat}{x i:V}{v:V}(h:bA H sz d x i=aa v):bA H' sz d x i=aa v:=by
 unfold bA at h ⊢;split at h
 ·simp at h
 ·split at h
  ·rename_i hi;simp only [hi,if_true];split at h
   ·rename_i b o l c ep s;split at h
    ·rename_i q;simp only [q,if_true];rcases eZ m b with e | ⟨cs,fl,j,e,g⟩ | ⟨s,cs,fl,j,u,st,e,g⟩ | ⟨bj,e,g⟩
     ·simp [e]at h
     ·rw [e]at h;rw [g];exact h
     ·rw [e]at h;rw [g];cases st<;>exact h
     ·rw [e]at h;rw [g];exact h
    ·simp at h
   ·exact h
   ·exact h
   ·exact h
   ·simp at h
  ·simp at h
theorem Ae(l:da H H'){j:CK}{z:FC}{m k:V}{v:V}(h:fG H j z m k=aa v):fG H' j z m k=aa v:=by
 unfold fG at h;split at h
 ·exact h
 ·rename_i b k;simp only [fG];rcases eZ l b with e | ⟨cs,fl,g,e,d⟩ | ⟨s,cs,fl,g,q,st,e,d⟩ | ⟨bj,e,d⟩
  ·simp [e]at h
  all_goals (rw [e]at h;rw [d];exact h)
 ·simp at h
theorem MU(d:da H H'){x v:V}(h:mU H x=aa v):mU H' x=aa v:=by
 cases x with
 | c x=>
  simp only [mU]at h ⊢;split at h
  ·rename_i n g;split at h
   ·rename_i cs b;rw [wO d g,AR d b];exact h
   ·simp at h
  ·simp at h
 | _=>simp [mU]at h
theorem NY(j:da H H'){x:C}{n:Nat}(h:iv H x=aa n):iv H' x=aa n:=by
 cases x with
 | sl b o l c ep sz=>
  simp only [iv]at h ⊢;rcases eZ j b with e | ⟨cs,fl,g,e,d⟩ | ⟨s,cs,fl,g,m,st,e,d⟩ | ⟨bj,e,d⟩
  ·simp [e]at h
  ·rw [e]at h;rw [d];exact h
  ·rw [e]at h;rw [d];cases st<;>exact h
  ·rw [e]at h;rw [d];exact h
 | f x=>cases x<;>exact h
 | _=>simp [iv]at h
theorem agc(l:da H H'){b:Nat}{d:List (FC × C)}(h:H[b]?=aa (.map d)):H'[b]?=aa (.map d):=by
 obtain⟨blk',j,g⟩:=l b _ h;cases blk'<;>simp only [df,reduceCtorEq,bo.map.injEq]at g;subst g;exact j
theorem agf(l:da H H'){b m s:Nat}{d:Bool}(h:H[b]?=aa (.uL m s d)):H'[b]?=aa (.uL m s d):=by
 obtain⟨blk',j,g⟩:=l b _ h;cases blk'<;>simp only [df,reduceCtorEq,bo.uL.injEq]at g;obtain⟨rfl,rfl,rfl⟩:=g;exact j
theorem BQ(b:da H H'){x v:V}(h:kd H x=aa v):kd H' x=aa v:=by
 unfold kd at h;split at h
 ·split at h
  ·rename_i d;split at h
   ·rename_i g;simp only [kd,agf b d,agc b g];exact h
   ·simp at h
  ·simp at h
 ·simp at h
theorem EB{r:T}{op:cQ}(l:cls op=.r)(b:da H H'){v:V}{j:aj}(h:bl r H op=aa (v,j)):j=H∧bl r H' op=aa (v,H'):=by
 cases op<;>first | (simp only [bl,reduceCtorEq]at h;done) | (simp only [cls,reduceCtorEq]at l;done) | simp only [bl]at h ⊢
 case len x=>
  split at h
  ·rename_i y m;split at h
   ·rename_i n g;simp only [At,OF]at h;obtain⟨rfl,rfl⟩:=h;simp only [wO b g];simp
   ·simp at h
  ·simp at h
 case cap x=>
  split at h
  ·rename_i y m;split at h
   ·rename_i n g;simp only [At,OF]at h;obtain⟨rfl,rfl⟩:=h;simp only [NY b g];simp
   ·simp at h
  ·simp at h
 all_goals
  simp only [IT,OF]at h;obtain⟨q,d,rfl,rfl⟩:=h;refine⟨rfl,?_⟩
 case entry=>rw [BQ b d];rfl
 case load=>rw [af7 b d];rfl
 case eq=>rw [afF b d];rfl
 case slice=>rw [CX b d];rfl
 case lY=>rw [CV b d];rfl
 case bC=>rw [zW b d];rfl
 case lookup=>rw [Ae b d];rfl
 case uQ=>rw [MU b d];rfl
theorem an8{r:T}{op:cQ}(g:cls op=.a){v:V}{d:aj}(h:bl r H op=aa (v,d)):d=H∨∃ bj,d=H++[bj]:=by
 cases op<;>first | (simp only [cls,reduceCtorEq]at g;done) | simp only [bl]at h
 case call=>simp at h
 case alloc zs=>simp only [At,OF]at h;exact .inr ⟨_,h.2.symm⟩
 case i'=>simp only [At,OF]at h;exact .inr ⟨_,h.2.symm⟩
 case box x=>
  split at h
  ·simp only [At,OF]at h;exact .inr ⟨_,h.2.symm⟩
  ·simp at h
 case bE sz zs n ps=>
  split at h
  ·split at h
   ·simp only [At,OF]at h;exact .inl h.2.symm
   ·simp at h
  ·simp only [IT,OF]at h;obtain⟨q,j,rfl,rfl⟩:=h;exact .inr ⟨_,rfl⟩
 case dI sz b zs x y=>
  split at h
  ·split at h
   ·split at h
    ·simp only [At,OF]at h;exact .inl h.2.symm
    ·simp only [At,OF]at h;exact .inr ⟨_,h.2.symm⟩
   ·simp at h
  ·simp at h
end
section
variable{Q:Program}{σ:Nat→FuncId}{X:Wd}
theorem DH(d:SR Q σ X)(l:X.B≤X.w.heap.size){n:Nat}{cs:List C}{fl:Nat}(s:X.H[n]?=aa (.box cs fl))(u:X.cr n=ab){us:List Value}(h:A2 (CR σ X) cs us)(e:TypeId) :
  ∃ X',X'.w=X.w.alloc (.cells us.toArray e)∧X'.H=X.H∧SR Q σ X'∧Ext X.H.length X X'∧X'.cr n=aa ⟨X.w.heap.size,0⟩∧X'.B≤X'.w.heap.size∧∀ b,b≠n→X'.cr b=X.cr b:=by
 obtain⟨g,j⟩:=SR.fill d l s u (dL.alloc X.w (.cells us.toArray e)) 0 (fun v=>⟨us,iQ (dL.alloc _ _),A2.ext' σ v h,fun i _ q=>by
  have:=d.fb _ _ q;simp at this⟩)
 exact⟨{ X with cr:=fun b=>if b=n then aa ⟨X.w.heap.size,0⟩else X.cr b,w:=X.w.alloc (.cells us.toArray e) },rfl,rfl,g,j,by simp,by simp;omega,fun b m=>by simp [m]⟩
def Bs(Q:Program)(σ:Nat→FuncId)(X:Wd)(n:Nat)(v:V)(s:Sem Next)(e:Prop):Prop:=
 ∃ X' u,s.run Q X.w=.ok (.value u) X'.w∧eM Q σ X v X.H X' u∧(∀ b,b≠n→X'.cr b=X.cr b)∧(e→X'.cr=X.cr)
theorem zK(y:SR Q σ X)(x:X.B≤X.w.heap.size){n:Nat}{cs:List C}{fl:Nat}(g:X.H[n]?=aa (.box cs fl))(A:X.cr n=ab){us:List Value}(h:A2 (CR σ X) cs us)(e:TypeId){s:Sem Next}{b:Prop}(z:¬ b)
  (B:s.run Q X.w=.ok (.value (.pointer (aa ⟨X.w.heap.size,0,ab⟩))) (X.w.alloc (.cells us.toArray e))):Bs Q σ X n (.c (.ptr n 0 0)) s b:=by
 obtain⟨X',j,d,l,m,q,u,v⟩:=DH y x g A h e;refine⟨X',_,by rw [j];exact B,⟨d,l,?_,m,u⟩,v,fun h=>absurd h z⟩;exact⟨_,q,by rw [d,g]⟩
theorem DI(A:SR Q σ X)(z:X.B≤X.w.heap.size){n:Nat}{cs:List C}{fl:Nat}(j:X.H[n]?=aa (.box cs fl))(E:X.cr n=ab){us:List Value}(h:A2 (CR σ X) cs us)(e:TypeId){s:Sem Next}{l c sz:Nat}(b:l≤c){d:Prop}(B:¬ d)
  (F:s.run Q X.w=.ok (.value (.slice (aa ⟨X.w.heap.size,0,ab⟩) l c)) (X.w.alloc (.cells us.toArray e))):Bs Q σ X n (.c (.sl n 0 l c 0 sz)) s d:=by
 obtain⟨X',m,g,q,u,v,x,y⟩:=DH A z j E h e;refine⟨X',_,by rw [m];exact F,⟨g,q,?_,u,x⟩,y,fun h=>absurd h B⟩;simp only [VR,gq,CR,eX,g,j];exact⟨_,v,b,rfl⟩
theorem oO{H b:aj}{cs:List C}(h:da (H++[.box cs 0]) b):∃ fl,b[H.length]?=aa (.box cs fl):=by
 obtain⟨blk',g,d⟩:=h H.length (.box cs 0) (by simp);cases blk'<;>simp only [df,reduceCtorEq]at d;obtain⟨rfl,_⟩:=d;exact⟨_,g⟩
theorem AQ{w':World}{o:Obj}(g:SR Q σ X)(d:dL X.w w' o)(q:X.B≤X.w.heap.size):∃ X':Wd,X'.w=w'∧X'.H=X.H∧SR Q σ X'∧Ext X.H.length X X'∧X'.B≤X'.w.heap.size∧X'.cr=X.cr:=by
 have j:Ext X.H.length X { X with w:=w' }:=Ext.one g X.H.length rfl (fun _ _=>Iff.rfl) (fun k m _=>d.Bf m)
  (fun L i h=>by rw [SR.qM g]at h;simp at h) (fun h=>absurd h (asc _)) (fun _ _ _=>rfl) (fun _ _=>rfl) (fun L h=>.inl ⟨L,h,rfl⟩) (by show _≤w'.heap.size;rw [d.size];omega) d.os d.tape d.output
 refine⟨{ X with w:=w' },rfl,rfl,SR.step Q σ g j X.H.length (fun _ _=>rfl) (fun _ _=>rfl) (fun b L _ l=>d.Bf (g.br b L l).2.1)
  (fun _ _ _ _ _ h=>h) (fun L h=>by change X.cr X.H.length=aa L at h;rw [SR.qM g]at h;simp at h) (fun c i h=>?_),j,?_,rfl⟩
 ·have:=g.fb c i h;show c<w'.heap.size;rw [d.size];omega
 ·show X.B≤w'.heap.size;rw [d.size];omega
theorem af5(M:SR Q σ X)(L:X.B≤X.w.heap.size){a:Act}{aw:T}(hR:RR σ X aw a.tmps){o:Oper}{op:cQ}(hc:cls op=.a)(d:dG Q σ o op=ae){H H1:aj}{v:V}(h:bl aw H op=aa (v,H1))
  (hH:da H1 X.H) (W:H1.length≠H.length→X.cr H.length=ab):Bs Q σ X H.length v (execOp a.eval o) (H1.length=H.length):=by
 cases op<;>first | (simp only [cls,reduceCtorEq]at hc;done) | skip
 case call f xs h'=>simp [bl]at h
 case alloc zs=>
  simp only [bl,At,OF]at h;obtain⟨rfl,rfl⟩:=h;obtain⟨fl,F⟩:=oO hH;simp only [dG]at d;split at d
  ·rename_i t B;obtain⟨z,us,h1,K,h3,_⟩:=eC (σ:=σ) (X:=X) d X.w;refine zK M L F (W (by simp)) h3 t (by simp) ?_;simp only [execOp,B];refine dY ?_;simp [Instr.alloc,h1,newVar,newRow,K]
  ·simp at d
 case i'=>
  simp only [bl,At,OF]at h;obtain⟨rfl,rfl⟩:=h;have F:X.H[H.length]?=aa (.map []):=by
   obtain⟨blk',hb,hl⟩:=hH H.length (.map []) (by simp);cases blk'<;>simp only [df,reduceCtorEq,bo.map.injEq]at hl;subst hl;exact hb
  simp only [dG]at d;split at d
  ·rename_i t B;have W:=W (by simp);obtain⟨h1,K⟩:=SR.fill M L F W (dL.alloc X.w (.map #[] 0)) 0 (fun hx=>⟨[],(dL.alloc _ _).new,A2.nil,by simp⟩);refine⟨{ X with cr:=fun b=>if b=H.length then aa ⟨X.w.heap.size,0⟩else X.cr b,w:=X.w.alloc (.map #[] 0) },.map (aa X.w.heap.size),?_,⟨rfl,h1,⟨⟨X.w.heap.size,0⟩,by simp,⟨[],F⟩,rfl⟩,K,by show X.B≤_;simp;omega⟩,fun b hb=>by simp [hb],fun h=>by simp at h⟩;simp [execOp,B,Instr.makeMap]
  ·simp at d
 case box x=>
  simp only [bl]at h;split at h
  ·rename_i xs i4;simp only [At,OF]at h;obtain⟨rfl,rfl⟩:=h;obtain⟨fl,F⟩:=oO hH;simp only [dG]at d;split at d
   ·rename_i t y B;obtain⟨us,K,h3⟩:=nY (bO hR d) i4;refine zK M L F (W (by simp)) h3 t (by simp) ?_;simp only [execOp,B];refine dY ?_;simp [Instr.box,newVar,newRow,K]
   ·simp at d
  ·simp at h
 case bE sz zs n ps=>
  simp only [dG]at d;split at d
  ·rename_i t n' qs B;simp only [If,beq_iff_eq,decide_eq_true_eq]at d;obtain⟨⟨⟨⟨rfl,s⟩,E⟩,i9⟩,hq⟩:=d;obtain⟨e,hu,E⟩:=gL E;simp only [If,decide_eq_true_eq]at E;obtain⟨⟨j,hz⟩,i6⟩:=E;obtain⟨z,us,Y,Z,A,_⟩:=eC (σ:=σ) (X:=X) hz X.w;have I:us.length=sz:=by have:=A.len;simp at this;omega
   simp only [bl]at h;split at h
   ·rename_i F;subst F;split at h
    ·rename_i b_;simp only [At,OF]at h;obtain⟨rfl,rfl⟩:=h;have U:qs.toList=[]:=by
      have:=(ek hq).len;simp only [List.isEmpty_iff]at b_;rw [b_]at this;exact aqu this.symm
     have U:qs=#[]:=by apply Array.ext';simpa using U
     obtain⟨X',h1,K,h3,h4,h5,h6⟩:=AQ M (dL.alloc X.w (.cells #[] e)) L;refine⟨X',.slice (aa ⟨X.w.heap.size,0,ab⟩) 0 0,?_,⟨K,h3,cM.es _,h4,h5⟩,fun b _=>by rw [h6],fun _=>h6⟩;rw [h1];simp only [execOp,B];refine dY ?_;simp [Instr.buildSlice,aY hu,cY j,U,Instr.fill,newRow,show Array.range 0=(#[]:Array Nat) from rfl]
    ·simp at h
   ·rename_i F;simp only [IT,OF]at h;obtain⟨cs,f8,rfl,rfl⟩:=h;obtain⟨fl,O⟩:=oO hH;obtain⟨j8,h5,h6⟩:=mr (place:=fun i=>aa (i*sz,sz)) (ps:=qs.toList) hR (qs:=ps.map fun p=>(p.1*sz,sz,p.2)) (A2.map ((ek hq).jX fun q p S=>by
     simp only [If,beq_iff_eq]at S;exact⟨by rw [S.1],S.2⟩)) (je A n') f8
    refine DI M L O (W (by simp)) h6 e (aft _) (by simp) ?_;simp only [execOp,B];refine dY ?_;have f_:n'*sz≠0:=by
     intro h0;rcases asf.1 h0 with h0 | h0<;>omega
    have e_:=gZ us n' (by omega);rw [I]at e_;simp only [Instr.buildSlice,Sem.run_bind,aY hu,cY j,Result.andThen_ok,aW (show¬ n'*sz>2 ^ 24 by omega),Sem.run_ite,aW f_,Y,Sem.run_pure,Z];simp only [Array.toList_map];rw [e_];simp [h5,newRow]
  ·simp at d
 case dI sz bytes zs x y=>
  simp only [dG]at d;split at d
  ·rename_i t x' y' B;simp only [If,decide_eq_true_eq]at d;obtain⟨⟨⟨hx,hy⟩,E⟩,i8⟩:=d;have hx:=bO hR hx;have hy:=bO hR hy;obtain⟨e,hu,E⟩:=gL E;simp only [If]at E;obtain⟨⟨j,f7⟩,hz⟩:=E;obtain⟨z,us,Y,Z,A,j7,j4,j5⟩:=eC (σ:=σ) (X:=X) hz X.w;obtain⟨i_,a7,a8⟩:=yd f7 X.w;simp only [bl]at h;split at h
   ·rename_i l c hl hc;obtain⟨kl,h_⟩:=iF hx hl;obtain⟨kc,i5⟩:=iF hy hc;split at h
    ·rename_i N;obtain⟨h0,j6,u,i6⟩:=N;unfold bP at u;simp only [If,decide_eq_true_eq]at u;have I:us.length=sz:=by have:=A.len;simp at this;omega
     have d_:=wrap_small (n:=l) h0 (by omega);have d9:=wrap_small (n:=c) (by omega) (by omega);have i7:c.toNat*bytes≤2 ^ 48:=by
      have:c.toNat*bytes≤(2*c.toNat+768)*bytes:=aq3 _ (by omega);omega
     have s:¬ ((bytes:Int)*c>2 ^ 48):=by
      have e1:(bytes:Int)*c=((c.toNat*bytes:Nat):Int):=by
       rw [ar2,arV];congr 1;omega
      rw [e1];omega
     have c_:((Array.range (c.toNat*sz)).map fun i=>us.toArray[i % us.toArray.size]!)=(cu c.toNat us).toArray:=by
      have:=gZ us c.toNat (by omega);rwa [I]at this
     have run:(execOp a.eval o).run Q X.w=.ok (.value (.slice (aa ⟨X.w.heap.size,0,ab⟩) l.toNat c.toNat)) (X.w.alloc (.cells (cu c.toNat us).toArray e)):=by
      simp only [execOp,B];refine dY ?_;rw [h_,i5];have a_:¬ c<0:=by omega
      have b9:¬ l<0:=by omega
      have J:¬ l>c:=by omega
      by_cases m:c.toNat*sz=0
      ·have g_:cu c.toNat us=[]:=aqu (by rw [jS,I];exact m);have g:((decide (c<0)||decide ((bytes:Int)*c>2 ^ 48))||decide (l<0)||decide (l>c))=ag:=by rw [decide_eq_false a_,decide_eq_false b9,decide_eq_false J,decide_eq_false s];rfl
       simp only [Instr.makeSlice,Sem.run_bind,aY hu,asInt,asIntOf,Sem.run_pure,Result.andThen_ok,a7,a8,d_,d9,run_askRoom,cY j];simp only [g,aqw,if_false,Sem.run_ite,ba m,Sem.run_bind,Result.andThen_ok,Sem.run_pure,run_askRoom,cY j,newRow,run_newObj];rw [m,g_,show(Array.map (fun x=>(#[]:Array Value)[x % (#[]:Array Value).size]!) (Array.range 0))=#[] from by simp [show Array.range 0=(#[]:Array Nat) from rfl]];rfl
      ·simp only [Instr.makeSlice,Sem.run_bind,aY hu,asInt,asIntOf,Sem.run_pure,Result.andThen_ok,a7,a8,d_,d9,run_askRoom,cY j];have g:((decide (c<0)||decide ((bytes:Int)*c>2 ^ 48))||decide (l<0)||decide (l>c))=ag:=by rw [decide_eq_false a_,decide_eq_false b9,decide_eq_false J,decide_eq_false s];rfl
       simp only [g,aqw,if_false,Sem.run_ite,aW m,Sem.run_bind,Y,Z,Result.andThen_ok,Sem.run_pure,run_askRoom,cY j,c_,newRow,run_newObj];rfl
     split at h
     ·rename_i m;subst m;simp only [At,OF]at h;obtain⟨rfl,rfl⟩:=h;have:l=0:=by omega
      subst this;obtain⟨X',g1,g2,g3,g4,g5,g6⟩:=AQ M (dL.alloc X.w (.cells (cu (0:Int).toNat us).toArray e)) L;exact⟨X',_,by rw [g1];exact run,⟨g2,g3,cM.es _,g4,g5⟩,fun b _=>by rw [g6],fun _=>g6⟩
     ·simp only [At,OF]at h;obtain⟨rfl,rfl⟩:=h;obtain⟨fl,O⟩:=oO hH;exact DI M L O (W (by simp)) (je A c.toNat) e (by omega) (by simp) run
    ·simp at h
   ·simp at h
  ·simp at d
end
theorem Ck{acc:List Nat}{o:Oper}{i:Nat}:(lH acc o).testBit i=ae↔∃ e ∈ o.after.toList,Region.binds .any e=ae∧(e.on=i∨(acc.getD e.on 0).testBit i=ae):=by
 unfold lH;have key:∀(l:List Edge) (s:Nat),(l.foldl (fun s e=>if Region.binds .any e then s ||| 2 ^ e.on ||| acc.getD e.on 0 else s) s).testBit i=ae ↔
   s.testBit i=ae∨∃ e ∈ l,Region.binds .any e=ae∧(e.on=i∨(acc.getD e.on 0).testBit i=ae):=by
  intro l;induction l with
  | nil=>intro s;simp
  | cons e l d=>
   intro s;simp only [arJ,d,aqA,exists_eq_or_imp];by_cases b:Region.binds .any e=ae
   ·simp only [b,if_true,Nat.testBit_or,Bool.or_eq_true,Nat.testBit_two_pow,decide_eq_true_eq,true_and,or_assoc]
   ·simp [b]
 rw [key];simp
theorem wz:∀(os:List Oper) (acc:List Nat),(dp os acc).length=acc.length+os.length
 | [],acc=>by simp [dp]
 | o::os,acc=>by rw [dp,wz];simp;omega
theorem qI:∀(os:List Oper) (acc:List Nat) (k:Nat),k<acc.length→(dp os acc)[k]?=acc[k]?
 | [],acc,k,_=>rfl
 | o::os,acc,k,h=>by
  rw [dp,qI os _ k (by simp;omega),AT h]
theorem wA:∀(os:List Oper) (acc:List Nat) (t:Nat) (o:Oper),os[t]?=aa o→(dp os acc)[acc.length+t]?=aa (lH ((dp os acc).take (acc.length+t)) o)
 | [],acc,t,o,h=>by simp at h
 | o'::os,acc,0,o,h=>by
  simp only [arL,At]at h;subst h;have d:∀ k,k<acc.length→(dp os (acc++[lH acc o']))[k]?=acc[k]?:=fun k g=>by rw [qI os _ k (by simp;omega),AT g]
  have b:(dp os (acc++[lH acc o'])).take acc.length=acc:=by
   apply arI;intro k;rw [aqQ];split
   ·rename_i g;exact d k g
   ·rename_i g;rw [arp (by omega)]
  rw [dp,arU,b,qI os _ _ (by simp)];simp
 | o'::os,acc,t+1,o,h=>by
  simp only [ar1]at h;have:=wA os (acc++[lH acc o']) t o h;rw [dp];rw [show acc.length+(t+1)=(acc++[lH acc o']).length+t by simp;omega];exact this
theorem Dq{ops:List Oper}{i j:Nat}{o:Oper}(l:ops[j]?=aa o) :
  yz (dp ops []) i j=ae↔∃ e ∈ o.after.toList,Region.binds .any e=ae∧(e.on=i∨(e.on<j∧yz (dp ops []) i e.on=ae)):=by
 have h:=wA ops [] j o l;simp only [List.length_nil,aqV]at h;unfold yz;rw [arS,h,Option.getD_some,Ck];have g:∀ k,((dp ops []).take j).getD k 0=if k<j then(dp ops []).getD k 0 else 0:=by
  intro k;simp only [arS,aqQ];split<;>simp
 constructor
 ·rintro⟨e,d,b,h⟩;refine⟨e,d,b,h.imp id fun h=>?_⟩;rw [g]at h;split at h
  ·rename_i m;exact⟨m,h⟩
  ·simp at h
 ·rintro⟨e,d,b,h⟩;refine⟨e,d,b,h.imp id fun h=>?_⟩;rw [g,ba h.1];exact h.2
def pT(ops:List Oper)(D:Nat→Prop):Prop:=∀ j o,D j→ops[j]?=aa o→∀ e ∈ o.after.toList,Region.binds .any e=ae→D e.on
theorem pT.below{ops:List Oper}{D:Nat→Prop}(h:pT ops D){i:Nat}:∀(j:Nat),D j→yz (dp ops []) i j=ae→D i:=by
 intro j;induction j using Nat.strongRecOn with
 | ind j m=>
  intro l b;cases ho:ops[j]? with
  | none=>
   exfalso;unfold Km.yz at b;have:(dp ops []).length≤j:=by rw [wz];simpa using List.getElem?_eq_none_iff.1 ho
   rw [arS,arp this]at b;simp at b
  | some o=>
   obtain⟨e,g,d,h1 | ⟨h1,h2⟩⟩:=(Dq ho).1 b
   ·exact h1▸h j o l ho e g d
   ·exact m e.on h1 (h j o l ho e g d) h2
theorem pT.ready{ops:List Oper}{D:Nat→Prop}(h:pT ops D){i j:Nat}{o:Oper}(ho:ops[j]?=aa o)(g:∀ e ∈ o.after.toList,Region.binds .any e=ae→D e.on)(l:yz (dp ops []) i j=ae):D i:=by
 obtain⟨e,d,b,h1 | ⟨h1,h2⟩⟩:=(Dq ho).1 l
 ·exact h1▸g e d b
 ·exact h.below e.on (g e d b) h2
def DU(aos:List aP)(j:Nat):Prop:=∃ y,aos[j]?=aa y∧cls y.op=.w
theorem lI{aos:List aP}{j:Nat}:j ∈ kE aos↔DU aos j:=by
 unfold kE DU;rw [List.mem_filter,List.mem_range];constructor
 ·rintro⟨_,h⟩;split at h
  ·rename_i y b;exact⟨y,b,by simpa using h⟩
  ·simp at h
 ·rintro⟨y,b,d⟩;exact⟨(BY.1 b).1,by simp [b,d]⟩
theorem mf{g:Type}(p:g→Bool):∀(l:List g),(∀ k,k<(l.takeWhile p).length→∃ y,l[k]?=aa y∧p y=ae)∧((l.takeWhile p).length=l.length∨∃ y,l[(l.takeWhile p).length]?=aa y∧p y=ag)
 | []=>by simp
 | x::l=>by
  by_cases d:p x=ae
  ·rw [List.takeWhile_cons_of_pos d];obtain⟨j,b⟩:=mf p l;refine⟨fun k m=>?_,?_⟩
   ·cases k with
    | zero=>exact⟨x,rfl,d⟩| succ k=>exact j k (by simpa using m)
   ·rcases b with b | b
    ·exact .inl (by simp [b])
    ·exact .inr (by simpa using b)
  ·rw [List.takeWhile_cons_of_neg d];exact⟨by simp,.inr ⟨x,rfl,by simpa using d⟩⟩
theorem nB{aos:List aP}{i:Nat}(hi:i≤aos.length):i≤phase aos i∧phase aos i≤aos.length∧(phase aos i=aos.length∨DU aos (phase aos i))∧∀ j,i≤j→j<phase aos i→¬ DU aos j:=by
 unfold phase;obtain⟨s,g⟩:=mf (fun y:aP=>decide (cls y.op≠.w)) (aos.drop i);have q:((aos.drop i).takeWhile fun y=>decide (cls y.op≠.w)).length≤(aos.drop i).length:=by
  rcases aqY (aos.drop i).length ((aos.drop i).takeWhile fun y=>decide (cls y.op≠.w)).length with h | h
  ·obtain⟨y,b,_⟩:=s _ h;have:=(BY.1 b).1;omega
  ·exact h
 simp only [aqy]at q g;refine⟨by omega,by omega,?_,fun j v u=>?_⟩
 ·rcases g with g | ⟨y,b,l⟩
  ·exact .inl (by omega)
  ·rw [aqB]at b;exact .inr ⟨y,b,by simpa using l⟩
 ·obtain⟨y,b,l⟩:=s (j-i) (by omega);rw [aqB,show i+(j-i)=j by omega]at b;rintro⟨x,d,m⟩;rw [b]at d;cases d;simp [m]at l
structure Ord(ops:List Oper)(aos:List aP)(gK:List (Nat × Nat)):Prop where
 back:∀ j o,j<aos.length→ops[j]?=aa o→∀ e ∈ o.after.toList,Region.binds .any e=ae→e.on<j
 two:∀ i j x y,i<j→aos[i]?=aa x→aos[j]?=aa y→yz (dp ops []) i j=ae∨(x.apart y=ae∧(sP x y=ae∨(j=jJ (dp ops []) aos∧cls x.op=.w)))
 ear:∀ y,aos[jJ (dp ops []) aos]?=aa y→(∃ zs,y.op=.alloc zs)∧y.g=ab∧∃ p,y.dst=aa p∧∀ i z,aos[i]?=aa z→p ∈ z.rd→∀ e,DU aos e→e<jJ (dp ops []) aos→yz (dp ops []) e i=ae
 rd:∀ i x e,aos[i]?=aa x→cls x.op=.r→DU aos e∨e=aos.length→Ah (dp ops []) aos i e=ae→e=phase aos i∨(i,e) ∈ gK
theorem NG{ops:List Oper}{aos:List aP}{gK:List (Nat × Nat)}(h:ZL ops aos gK=ae):Ord ops aos gK:=by
 simp only [ZL,If]at h;obtain⟨⟨⟨A,B⟩,g⟩,E⟩:=h;refine⟨fun j o L N e b J=>?_,fun i j x y s m q=>?_,fun y q=>?_,fun i x e m K b M=>?_⟩
 ·rw [aqG]at A;have d:(o,j) ∈ ops.zip (List.range aos.length):=by
   refine List.mem_of_getElem? (i:=j) ?_;rw [List.getElem?_zip_eq_some];exact⟨N,by simp [L]⟩
  have:=A _ d;rw [aqG]at this;simpa [J]using this e b
 ·rw [aqG]at B;have:=B j (by simpa using (BY.1 q).1);rw [aqG]at this;have:=this i (by simpa using s);rw [m,q]at this;simpa using this
 ·unfold DC at g;rw [q]at g;simp only [If,Option.isNone_iff_eq_none]at g;obtain⟨⟨I,F⟩,l⟩:=g;refine⟨?_,I,?_⟩
  ·split at F
   ·exact⟨_,by assumption⟩
   ·simp at F
  ·split at l
   ·rename_i p O;refine⟨p,O,fun i z H v e b u=>?_⟩;rw [aqG]at l;have:=l i (by simpa using (BY.1 H).1);rw [H]at this;simp only [Bool.or_eq_true,Bool.not_eq_true',List.contains_eq_mem,decide_eq_false_iff_not,aqG]at this;rcases this with h | h
    ·exact absurd v h
    ·have:=h e (lI.2 b);simpa [u]using this
   ·simp at l
 ·rw [aqG]at E;have:=E i (by simpa using (BY.1 m).1);rw [m]at this;simp only [K,if_true]at this;rw [aqG]at this;have:=this e (by
   rw [aqC];rcases b with b | b
   ·exact .inl (lI.2 b)
   ·exact .inr (by simp [b]))
  simpa [M]using this
section
variable{Q:Program}{σ:Nat→FuncId}{X:Wd}{call:cL}
theorem Ext.len{X X':Wd}(h:Ext X.H.length X X'):X.H.length≤X'.H.length:=by
 rcases aqY X'.H.length X.H.length with b | g
 ·obtain⟨blk',d,_⟩:=h.cG X'.H.length b _ (By b);have:=(BY.1 d).1;omega
 ·exact g
theorem wX{s s':St}{op:cQ}{v:V}(h:eE call s op=aa (v,s')):s'.aw=s.aw:=by
 have:=EA (r':=s.aw) (fun _ _=>rfl) h;rw [show({ s with aw:=s.aw }:St)=s from rfl,h]at this;simp only [At,OF,true_and]at this;rw [this]
theorem C5{s s':St}{y:aP}(h:fm call s y=aa s'):∃ v,s'.aw=ja s.aw y.dst v:=by
 unfold fm at h;split at h
 ·split at h
  ·rename_i v d b;cases h;exact⟨v,by rw [wX b]⟩
  ·simp at h
 ·cases h;exact⟨_,rfl⟩
 ·simp at h
theorem tS{aw:T}{d:Option P}{v:V}{p:P}:(ja aw d v).get p=if d=aa p then v else aw.get p:=by
 cases d with
 | none=>simp [ja]| some q=>simp only [ja,T.oi,At]
theorem nH{s s':St}{y:aP}(g:cls y.op≠.w)(h:fm call s y=aa s'):da s.heap s'.heap∧s'.defs=s.defs:=by
 unfold fm at h;split at h
 ·split at h
  ·rename_i v u b;cases h;by_cases j:(∃ f xs h,y.op=.call f xs h)∨(∃ x xs h,y.op=.bW x xs h)∨y.op=.recover∨∃ x xs,y.op=.defer x xs
   ·rcases j with⟨f,xs,m,e⟩ | ⟨x,xs,m,e⟩ | e | ⟨x,xs,e⟩
    ·rw [e]at b g;cases m
     ·simp only [eE,gh,aqw,if_false,IT,OF]at b;obtain⟨⟨z,H'⟩,b,rfl,rfl⟩:=b;refine⟨?_,rfl⟩;unfold eb at b;split at b
      ·simp at b
      ·split at b
       ·simp at b
       ·split at b
        ·simp at b
        ·simp only [At,OF]at b;show da s.heap H';rw [←b.2];exact(my _ _ _).ext
     ·exact absurd rfl g
    ·rw [e]at g;exact absurd rfl g
    ·rw [e]at g;exact absurd rfl g
    ·rw [e]at g;exact absurd rfl g
   ·have q:(bl s.aw s.heap y.op).map (fun r=>(r.1,{ s with heap:=r.2 }))=aa (v,u):=by
     generalize y.op=op at b j;cases op<;>first | exact b | (exfalso;apply j;simp)
    simp only [IT,OF]at q;obtain⟨⟨z,H'⟩,l,rfl,rfl⟩:=q;clear b;have b:=l;clear l;refine⟨?_,rfl⟩;show da s.heap H';cases d:cls y.op with
    | p=>
     have:=ah1 (r:=s.aw) d s.heap s.heap;rw [b]at this;simp only [aq4,At,OF]at this;rw [this.2];exact da.refl _
    | r=>rw [(EB d (da.refl _) b).1];exact da.refl _
    | a=>
     rcases an8 d b with e | ⟨cs,e⟩
     ·rw [e];exact da.refl _
     ·rw [e];exact da.append _ _
    | c=>
     generalize y.op=op at b d;cases op<;>first | (simp only [cls,reduceCtorEq]at d;done) | (simp [bl]at b;done)
    | w=>exact absurd d g
  ·simp at h
 ·cases h;exact⟨da.refl _,rfl⟩
 ·simp at h
def gG(aw:T)(ps:List P):T:=ps.foldl (fun t p=>t.set p (aw.get p)) .e
theorem tU(aw:T)(ps:List P)(p:P):(gG aw ps).get p=if p ∈ ps then aw.get p else .top:=by
 have key:∀(ps:List P) (t:T),(ps.foldl (fun t p=>t.set p (aw.get p)) t).get p=if p ∈ ps then aw.get p else t.get p:=by
  intro ps;induction ps with
  | nil=>intro t;simp
  | cons q ps g=>
   intro t;simp only [arJ,g,T.oi,aqA];by_cases b:p ∈ ps
   ·simp [b]
   ·by_cases d:q=p
    ·subst d;simp [b]
    ·have:¬ p=q:=fun e=>d e.symm;simp [b,d,this]
 have:=key ps .e;unfold gG;rw [this];rfl
structure jk(Q:Program)(σ:Nat→FuncId)(call:cL)(n:Nat)(ops:Array Oper)(aos:List aP)(gK:List (Nat × Nat))(st:Nat→St):Prop where
 akA:eY (jP Q σ n ops) ops.toList aos=ae
 ord:Ord ops.toList aos gK
 step:∀ i y,aos[i]?=aa y→fm call (st i) y=aa (st (i+1))
 apb:∀ i e y,(i,e) ∈ gK→aos[i]?=aa y→wanted (st i).aw y.g=aa ae→∃ v H1 H2,bl (st i).aw (st i).heap y.op=aa (v,H1)∧bl (st i).aw (st e).heap y.op=aa (v,H2)
structure jF(σ:Nat→FuncId)(X:Wd)(c:Nat)(zs:List FC):Prop where
 bj:∃ us t,X.w.heap[c]?=aa (.cells us.toArray t (0,0))∧A2 (CR σ X) (zs.map .f) us
 b:X.B≤c
 wm:∀ b L,X.cr b=aa L→L.c≠c
 f:∀ i,¬ X.F c i
theorem jF.lt{c:Nat}{zs:List FC}(h:jF σ X c zs):c<X.w.heap.size:=by
 obtain⟨us,t,h1,_⟩:=h.bj;exact(Array.getElem?_eq_some_iff.1 h1).1
theorem jF.ext{X X':Wd}(d:Ext X.H.length X X'){c:Nat}{zs:List FC}(h:jF σ X c zs):jF σ X' c zs:=by
 have j:=h.lt;obtain⟨us,t,h1,h2⟩:=h.bj;refine⟨⟨us,t,by rw [d.frame c j h.wm];exact h1,A2.ext' σ d h2⟩,by rw [d.B];exact h.b,fun b L m=>?_,fun i hi=>?_⟩
 ·rcases d.wm b L m with⟨b0,l,g1,g2⟩ | g1
  ·rw [←g2];exact h.wm b0 l g1
  ·omega
 ·rcases d.nO c i hi with g | g | ⟨b,L,g1,g2⟩
  ·exact h.f i g
  ·omega
  ·exact h.wm b L g1 g2
theorem SR.assign(s:SR Q σ X){n c:Nat}{zs:List FC}{fl:Nat}(j:jF σ X c zs)(x:X.H[n]?=aa (.box (zs.map .f) fl))(y:X.cr n=ab) :
  SR Q σ { X with cr:=fun b=>if b=n then aa ⟨c,0⟩else X.cr b }∧nN X.H.length X { X with cr:=fun b=>if b=n then aa ⟨c,0⟩else X.cr b }∧VR σ { X with cr:=fun b=>if b=n then aa ⟨c,0⟩else X.cr b } (.c (.ptr n 0 0)) (.pointer (aa ⟨c,0,ab⟩)):=by
 have u:nN X.H.length X { X with cr:=fun b=>if b=n then aa ⟨c,0⟩else X.cr b }:=by
  refine⟨fun _ _ h=>h,fun _ _ _=>rfl,fun b _ bj g=>⟨bj,g,?_⟩⟩;have:∀ L,X.cr b=aa L→(if b=n then aa (⟨c,0⟩:Loc)else X.cr b)=aa L:=fun L q=>by
   by_cases e:b=n
   ·subst e;rw [y]at q;simp at q
   ·rw [aW e];exact q
  cases bj<;>simp only [true_and,and_self]<;>first | exact this | (exact .inl ⟨trivial,trivial,this⟩) | (exact⟨rfl,.inl ⟨rfl,rfl,this⟩⟩) | (exact .inl this) | simpa using this
 obtain⟨us,t,h1,h2⟩:=j.bj;refine⟨⟨fun b L g=>?_,fun b m L v g d hc=>?_,s.fb⟩,u,⟨⟨c,0⟩,by simp,by rw [x]⟩⟩
 ·by_cases e:b=n
  ·subst e;simp only [if_true,At]at g;subst g;exact⟨j.b,j.lt,_,x,us,⟨t,(0,0),h1,fun i _=>by simp⟩,A2.dQ σ u h2,fun i _=>j.f i⟩
  ·simp only [e,if_false]at g;obtain⟨g1,g2,bj,g3,g4⟩:=s.br b L g;exact⟨g1,g2,bj,g3,BR.od Q σ u rfl (fun _ h=>h) g4⟩
 ·simp only at g d;by_cases e:b=n<;>by_cases l:m=n
  ·rw [e,l]
  ·rw [ba e]at g;rw [aW l]at d;cases g;exact absurd hc.symm (j.wm m v d)
  ·rw [aW e]at g;rw [ba l]at d;cases d;exact absurd hc (j.wm b L g)
  ·rw [aW e]at g;rw [aW l]at d;exact s.inj b m L v g d hc
abbrev eJ(ops:Array Oper)(aos:List aP):Nat:=jJ (dp ops.toList []) aos
def ao5(σ:Nat→FuncId)(X0:Wd)(ops:Array Oper)(aos:List aP)(E:Nat)(X:Wd)(a:Act)(p:P)(K:Nat):Prop:=
 ∃ y zs c,K=eJ ops aos+1∧E≤eJ ops aos∧aos[eJ ops aos]?=aa y∧y.dst=aa p∧y.op=.alloc zs∧a.tmps.getD p.toNat undef=.pointer (aa ⟨c,0,ab⟩)∧X0.w.heap.size≤c∧jF σ X c zs
structure Inv(Q:Program)(σ:Nat→FuncId)(X0:Wd)(n:Nat)(ops:Array Oper)(aos:List aP)(st:Nat→St)(D:Nat→Prop)(E:Nat)(X:Wd)(a:Act):Prop where
 closed:pT ops.toList D
 dlt:∀ j,D j→j<aos.length
 eN:E≤aos.length
 eW:E=aos.length∨DU aos E
 eD:¬ D E
 wD:∀ j,DU aos j→j<E→D j
 heap:X.H=(st E).heap
 ext:Ext X0.H.length X0 X
 sr:SR Q σ X
 b:X.B≤X.w.heap.size
 defs:fv σ X (st E).defs a.defers
 size:n≤a.tmps.size
 aak:∀ p,∃ K,K≤aos.length∧(VR σ X ((st K).aw.get p) (a.tmps.getD p.toNat undef)∨ao5 σ X0 ops aos E X a p K)∧∀ j y,aos[j]?=aa y→y.dst=aa p→(j<K↔D j)
 wi:∀ j y,j<E→¬ D j→aos[j]?=aa y→cls y.op=.a→(st (j+1)).heap.length≠(st j).heap.length→X.cr (st j).heap.length=ab
section
variable{n:Nat}{ops:Array Oper}{aos:List aP}{gK:List (Nat × Nat)}{st:Nat→St}
theorem jk.kr(R:jk Q σ call n ops aos gK st){p:P}{lo:Nat}:∀(hi:Nat),lo≤hi→hi≤aos.length→(∀ j y,lo≤j→j<hi→aos[j]?=aa y→y.dst≠aa p)→(st lo).aw.get p=(st hi).aw.get p
 | 0,h,_,_=>by rw [Nat.le_zero.1 h]
 | hi+1,h,g,b=>by
  rcases aqY hi lo with h1 | h1
  ·rw [show lo=hi+1 by omega]
  ·rw [jk.kr R hi h1 (by omega) fun j y h2 h3=>b j y h2 (by omega)];have hy:=By (show hi<aos.length by omega);obtain⟨v,d⟩:=C5 (R.step hi _ hy);rw [d,tS,aW (b hi _ h1 (by omega) hy)]
theorem jk.cX(R:jk Q σ call n ops aos gK st){lo:Nat}:∀(hi:Nat),lo≤hi→hi≤aos.length→(∀ j,lo≤j→j<hi→¬ DU aos j)→da (st lo).heap (st hi).heap∧(st hi).defs=(st lo).defs
 | 0,h,_,_=>by rw [Nat.le_zero.1 h];exact⟨da.refl _,rfl⟩
 | hi+1,h,l,b=>by
  rcases aqY hi lo with h1 | h1
  ·rw [show lo=hi+1 by omega];exact⟨da.refl _,rfl⟩
  ·obtain⟨g1,g2⟩:=jk.cX R hi h1 (by omega) fun j h2 h3=>b j h2 (by omega);have hy:=By (show hi<aos.length by omega);obtain⟨d,g⟩:=nH (fun hc=>b hi h1 (by omega) ⟨_,hy,hc⟩) (R.step hi _ hy);exact⟨g1.trans d,g.trans g2⟩
theorem jk.at(R:jk Q σ call n ops aos gK st){i:Nat}{y:aP}(hy:aos[i]?=aa y):∃ o,ops[i]?=aa o∧jP Q σ n ops o y=ae:=by
 have:=ek R.akA;have hi:i<ops.toList.length:=by rw [this.len];exact(BY.1 hy).1
 have b:=By hi;refine⟨ops.toList[i],by rw [←Array.getElem?_toList];exact b,this.2 i _ _ b hy⟩
theorem jk.before(R:jk Q σ call n ops aos gK st){i j:Nat}{x y:aP}(b:i<j)(g:aos[i]?=aa x)(hy:aos[j]?=aa y)(h:x.apart y=ag∨(sP x y=ag∧(j=eJ ops aos→cls x.op≠.w))):yz (dp ops.toList []) i j=ae:=by
 rcases R.ord.two i j x y b g hy with h1 | ⟨h1,h2⟩
 ·exact h1
 ·rcases h with h | ⟨h,d⟩
  ·rw [h1]at h;simp at h
  ·rcases h2 with h2 | ⟨h2,h3⟩
   ·rw [h2]at h;simp at h
   ·exact absurd h3 (d h2)
theorem Ext.assign{X0 g:Wd}(h:Ext X0.H.length X0 g){n c:Nat}(j:nN g.H.length g { g with cr:=fun b=>if b=n then aa ⟨c,0⟩else g.cr b })(hc:X0.w.heap.size≤c):Ext X0.H.length X0 { g with cr:=fun b=>if b=n then aa ⟨c,0⟩else g.cr b } where
 B:=h.B
 F:=h.F
 nO:=h.nO
 fw:=h.fw
 cG:=fun b d=>(h.cG b d).trans (j.cG b (aqR d h.len))
 wm:=fun b L d=>by
  simp only at d;by_cases e:b=n
  ·rw [ba e]at d;cases d;exact .inr hc
  ·rw [aW e]at d;exact h.wm b L d
 size:=h.size
 os:=h.os
 tape:=h.tape
 output:=h.output
 frame:=h.frame
theorem jk.YJ(R:jk Q σ call n ops aos gK st){y:aP}(hy:aos[eJ ops aos]?=aa y):cls y.op=.a:=by
 obtain⟨⟨zs,h⟩,_⟩:=R.ord.ear y hy;rw [h];rfl
theorem Yj{x y:aP}{p:P}(h:x.dst=aa p)(b:p ∈ y.rd):x.apart y=ag:=by
 simp [aP.apart,h,b]
theorem zn{x y:aP}{p:P}(h:x.dst=aa p)(b:y.dst=aa p):x.apart y=ag:=by
 simp [aP.apart,h,b]
theorem Yi{x y:aP}{p:P}(h:p ∈ x.rd)(b:y.dst=aa p):x.apart y=ag:=by
 simp [aP.apart,h,b]
structure jj(ops:Array Oper)(aos:List aP)(D:Nat→Prop)(i:Nat)(o:Oper)(y:aP):Prop where
 ho:ops[i]?=aa o
 hy:aos[i]?=aa y
 hD:¬ D i
 pre:∀ e ∈ o.after.toList,Region.binds .any e=ae→D e.on
variable{X0:Wd}{D:Nat→Prop}{E i:Nat}{a:Act}{o:Oper}{y:aP}
theorem jj.nz(d:Inv Q σ X0 n ops aos st D E X a)(b:jj ops aos D i o y){j:Nat}(h:yz (dp ops.toList []) j i=ae):D j:=
 d.closed.ready (by simpa using b.ho) b.pre h
theorem jj.pb(b:Inv Q σ X0 n ops aos st D E X a)(g:jj ops aos D i o y){j:Nat}(h:yz (dp ops.toList []) i j=ae):¬ D j:=
 fun d=>g.hD (b.closed.below j d h)
theorem jk.reads(R:jk Q σ call n ops aos gK st)(m:Inv Q σ X0 n ops aos st D E X a)(b:jj ops aos D i o y){p:P}(B:p ∈ y.rd):VR σ X ((st i).aw.get p) (a.tmps.getD p.toNat undef):=by
 obtain⟨K,I,s,H⟩:=m.aak p;have hi:i<aos.length:=(BY.1 b.hy).1;have s:VR σ X ((st K).aw.get p) (a.tmps.getD p.toNat undef):=by
  rcases s with s | ⟨z,zs,c,_,M,d,g,_⟩
  ·exact s
  ·exfalso;obtain⟨_,_,N,x,l⟩:=R.ord.ear z d;rw [g]at x;cases x;have J:=(BY.1 d).1;rcases m.eW with h4 | v
   ·omega
   ·have L:E≠eJ ops aos:=by
     intro e;obtain⟨q,F,A⟩:=v;rw [e]at F;rw [R.YJ F]at A;cases A
    exact m.eD (b.nz m (l i y b.hy B E v (show E<eJ ops aos by omega)))
 rcases Nat.le_total K i with h | h
 ·rw [←R.kr i h (by omega) fun j z h1 h2 d g=>?_]
  ·exact s
  ·have:=b.nz m (R.before h2 d b.hy (.inl (Yj g B)));have:=(H j z d g).2 this;omega
 ·rw [R.kr K h I fun j z h1 h2 d g=>?_]
  ·exact s
  ·have u:=(H j z d g).1 h2;rcases aqY i j with h3 | h3
   ·exact b.pb m (R.before h3 b.hy d (.inl (Yi B g))) u
   ·have:j=i:=by omega
    subst this;exact b.hD u
theorem jk.fin(R:jk Q σ call n ops aos gK st)(F:Inv Q σ X0 n ops aos st D E X a)(q:jj ops aos D i o y){l:Wd}{a1:Act}{u:Value}{v:V}{m:Nat}(hS:SR Q σ l)(hB:l.B≤l.w.heap.size)(a_:Ext X0.H.length X0 l)
  (hm:∀ v u,VR σ X v u→VR σ l v u) (a8:∀ y zs c p,E≤eJ ops aos→aos[eJ ops aos]?=aa y→y.op=.alloc zs→y.dst=aa p→D (eJ ops aos)→a.tmps.getD p.toNat undef=.pointer (aa ⟨c,0,ab⟩)→X0.w.heap.size≤c→jF σ X c zs→if m≤eJ ops aos then jF σ l c zs else VR σ l ((st (eJ ops aos+1)).aw.get p) (.pointer (aa ⟨c,0,ab⟩)))
  (hv:VR σ l v u∨(i=eJ ops aos∧m≤eJ ops aos∧∃ zs c,y.op=.alloc zs∧u=.pointer (aa ⟨c,0,ab⟩)∧X0.w.heap.size≤c∧jF σ l c zs))
  (ht:a1.tmps=(a.put o.dst u).tmps) (U:(st (i+1)).aw=ja (st i).aw y.dst v) (h1:m≤aos.length) (h2:m=aos.length∨DU aos m) (h3:¬ (D m∨m=i)) (h4:∀ j,DU aos j→j<m→D j∨j=i)
  (hH:l.H=(st m).heap) (hd:fv σ l (st m).defs a1.defers)
  (hh:∀ j y,j<m→¬ (D j∨j=i)→aos[j]?=aa y→cls y.op=.a→(st (j+1)).heap.length≠(st j).heap.length→l.cr (st j).heap.length=ab) :
  Inv Q σ X0 n ops aos st (fun j=>D j∨j=i) m l a1:=by
 have hi:i<aos.length:=(BY.1 q.hy).1;obtain⟨o',S,A⟩:=R.at q.hy;rw [q.ho]at S;cases S;have mL:(a.put o.dst u).tmps.size=a.tmps.size:=by cases o.dst<;>simp [Act.put]
 refine⟨fun j oj O B e he hb=>?_,fun j O=>O.elim (F.dlt j) fun h=>h▸hi,h1,h2,h3,h4,hH,a_,hS,hB,hd,by rw [ht,mL];exact F.size,fun p=>?_,hh⟩
 ·rcases O with O | rfl
  ·exact .inl (F.closed j oj O B e he hb)
  ·have:oj=o:=by have:=q.ho;simp at B;rw [this]at B;cases B;rfl
   subst this;exact .inl (q.pre e he hb)
 ·by_cases b:y.dst=aa p
  ·have s:a1.tmps.getD p.toNat undef=u:=by
    rw [ht];simp only [jP,If]at A;have g:=A.1.2;rw [b]at g;split at g
    ·rename_i d p' L J;simp only [If,beq_iff_eq,decide_eq_true_eq]at g;cases J;have Z:d<a.tmps.size:=aqR g.2 F.size;rw [L,g.1];simp only [Act.put];simp [Z]
    ·rename_i J;simp at J
    ·simp at g
   refine⟨i+1,hi,?_,fun j z I x=>⟨fun h=>?_,fun h=>?_⟩⟩
   ·rcases hv with hv | ⟨N,Y,zs,c,g1,g2,g3,g4⟩
    ·left;rw [U,tS,ba b,s];exact hv
    ·right;exact⟨y,zs,c,by rw [N],Y,by rw [←N];exact q.hy,b,g1,by rw [s];exact g2,g3,g4⟩
   ·rcases aqY j i with M | M
    ·exact .inl (q.nz F (R.before M I q.hy (.inl (zn x b))))
    ·exact .inr (by omega)
   ·rcases h with h | rfl
    ·rcases aqY i j with M | M
     ·exact absurd h (q.pb F (R.before M q.hy I (.inl (zn b x))))
     ·omega
    ·omega
  ·obtain⟨K,hK,H,hw⟩:=F.aak p;have e:a1.tmps.getD p.toNat undef=a.tmps.getD p.toNat undef:=by
    rw [ht];simp only [jP,If]at A;have g:=A.1.2;split at g
    ·rename_i d p' L J;simp only [If,beq_iff_eq,decide_eq_true_eq]at g;have a7:d≠p.toNat:=fun e=>b (by rw [J,P.toNat_inj (g.1.trans e)]);rw [L];simp [Act.put,Array.getD_eq_getD_getElem?,Array.getElem?_setIfInBounds_ne a7]
    ·rename_i L J;rw [L];rfl
    ·simp at g
   refine⟨K,hK,?_,fun j z I x=>?_⟩
   ·rcases H with H | ⟨z,zs,c,g1,g2,g3,g4,g5,g6,g7,g8⟩
    ·left;rw [e];exact hm _ _ H
    ·have W:D (eJ ops aos):=(hw _ z g3 g4).1 (by omega);have:=a8 z zs c p g2 g3 g5 g4 W g6 g7 g8;split at this
     ·rename_i Y;right;exact⟨z,zs,c,g1,Y,g3,g4,g5,by rw [e];exact g6,g7,this⟩
     ·left;rw [e,g6,g1];exact this
   ·rw [hw j z I x];exact⟨.inl,fun h=>h.elim id fun h=>absurd (by rw [h]at I;rw [q.hy]at I;cases I;exact x) b⟩
end
end
section
variable{Q:Program}{σ:Nat→FuncId}{X:Wd}{call:cL}
variable{n:Nat}{ops:Array Oper}{aos:List aP}{gK:List (Nat × Nat)}{st:Nat→St}
variable{X0:Wd}{D:Nat→Prop}{E i:Nat}{a:Act}{o:Oper}{y:aP}
theorem nZ{x y:aP}(h:cls x.op=.w)(d:cls y.op≠.p)(b:cls y.op≠.r):sP x y=ag:=by
 unfold sP;rw [h];cases g:cls y.op<;>simp_all
theorem sQ{x y:aP}(h:cls y.op=.w)(d:cls x.op≠.p)(b:cls x.op≠.r):sP x y=ag:=by
 unfold sP;rw [h];cases g:cls x.op<;>simp_all
theorem jk.tG(R:jk Q σ call n ops aos gK st){j:Nat}{z:aP}(b:aos[j]?=aa z)(hc:cls z.op≠.a):j≠eJ ops aos:=by
 rintro rfl;exact hc (R.YJ b)
theorem jk.alj(R:jk Q σ call n ops aos gK st)(d:Inv Q σ X0 n ops aos st D E X a)(b:jj ops aos D i o y)(hc:cls y.op=.w):i=E:=by
 have hi:i<aos.length:=(BY.1 b.hy).1;rcases arv i E with h | h | h
 ·exact absurd (d.wD i ⟨y,b.hy,hc⟩ h) b.hD
 ·exact h
 ·rcases d.eW with h1 | ⟨z,j,g⟩
  ·omega
  ·exact absurd (b.nz d (R.before h j b.hy (.inr ⟨nZ g (by simp [hc]) (by simp [hc]),fun e=>absurd e (R.tG b.hy (by simp [hc]))⟩))) d.eD
theorem jk.X_(R:jk Q σ call n ops aos gK st)(g:Inv Q σ X0 n ops aos st D E X a)(d:jj ops aos D i o y)(h1:cls y.op≠.p)(h2:cls y.op≠.r)(h3:cls y.op≠.w)(u:i=eJ ops aos→i<E):i<E∧∀ j,i≤j→j<E→¬ DU aos j:=by
 have hi:i<aos.length:=(BY.1 d.hy).1;refine⟨?_,fun j v q s=>?_⟩
 ·rcases arv i E with h | h | h
  ·exact h
  ·rcases g.eW with h4 | ⟨z,l,b⟩
   ·omega
   ·rw [←h,d.hy]at l;cases l;exact absurd b h3
  ·rcases g.eW with h4 | ⟨z,l,b⟩
   ·omega
   ·exact absurd (d.nz g (R.before h l d.hy (.inr ⟨nZ b h1 h2,fun e=>by have:=u e;omega⟩))) g.eD
 ·have m:=g.wD j s q;obtain⟨z,l,b⟩:=s;rcases aqY i j with h | h
  ·exact d.pb g (R.before h d.hy l (.inr ⟨sQ b h1 h2,fun _=>h3⟩)) m
  ·have:j=i:=by omega
   subst this;exact d.hD m
theorem jk.apC(R:jk Q σ call n ops aos gK st)(d:Inv Q σ X0 n ops aos st D E X a)(s:jj ops aos D i o y)(hc:cls y.op=.r)(L:wanted (st i).aw y.g=aa ae){v:V}{F:aj}(h:bl (st i).aw (st i).heap y.op=aa (v,F)) :
  F=(st i).heap∧bl (st i).aw X.H y.op=aa (v,X.H):=by
 have hi:i<aos.length:=(BY.1 s.hy).1;refine⟨(EB hc (da.refl _) h).1,?_⟩;have q:Ah (dp ops.toList []) aos i E=ae:=by
  unfold Ah;rw [aqG];intro j K;have l:=lI.1 K;split
  ·rename_i m;have b:=d.wD j l m;cases x:yz (dp ops.toList []) i j with
   | false=>rfl| true=>exact absurd b (s.pb d x)
  ·rename_i m;cases x:yz (dp ops.toList []) j i with
   | false=>rfl
   | true=>
    exfalso;have b:=s.nz d x;rcases aqY E j with h1 | h1
    ·rcases d.eW with h4 | ⟨z,M,B⟩
     ·have:=d.dlt j b;omega
     ·obtain⟨O,u,g⟩:=l;exact d.eD (d.closed.below j b (R.before h1 M u (.inr ⟨nZ B (by simp [g]) (by simp [g]),fun e=>absurd e (R.tG u (by simp [g]))⟩)))
    ·have:j=E:=by omega
     subst this;exact d.eD b
 rw [d.heap];rcases R.ord.rd i y E s.hy hc (d.eW.symm) q with A | A
 ·obtain⟨p1,_,_,H⟩:=nB (aos:=aos) (i:=i) (by omega);rw [←A]at p1 H;exact(EB hc (R.cX E p1 d.eN H).1 h).2
 ·obtain⟨N,I,J,g1,g2⟩:=R.apb i E y A s.hy L;rw [h]at g1;cases g1;have:=(EB hc (da.refl _) g2).1;rw [this]at g2;exact g2
theorem jk.afx(R:jk Q σ call n ops aos gK st){z:aP}(d:aos[eJ ops aos]?=aa z){zs:List FC}(b:z.op=.alloc zs){p:P}(g:z.dst=aa p) :
  (st (eJ ops aos+1)).heap=(st (eJ ops aos)).heap++[.box (zs.map .f) 0]∧(st (eJ ops aos+1)).aw.get p=.c (.ptr (st (eJ ops aos)).heap.length 0 0):=by
 obtain⟨_,hg,_⟩:=R.ord.ear z d;have h:=R.step _ z d;simp only [fm,hg,wanted,b,eE,bl,aq4,At]at h;rw [←h];exact⟨rfl,by rw [tS,ba g]⟩
theorem jk.Dp(R:jk Q σ call n ops aos gK st)(s:Inv Q σ X0 n ops aos st D E X a)(x:jj ops aos D i o y)(hc:cls y.op=.w){d:Wd}{a1:Act}{u:Value}{v:V}(hS:SR Q σ d)(hB:d.B≤d.w.heap.size)(hx:Ext X.H.length X d)
  (hv:VR σ d v u) (ht:a1.tmps=(a.put o.dst u).tmps) (B:(st (i+1)).aw=ja (st i).aw y.dst v) (hH:d.H=(st (i+1)).heap) (hd:fv σ d (st (i+1)).defs a1.defers) :
  ∃ E' X2,X2.w=d.w∧Inv Q σ X0 n ops aos st (fun j=>D j∨j=i) E' X2 a1:=by
 have hi:i<aos.length:=(BY.1 x.hy).1;have a_:=R.alj s x hc;subst a_;obtain⟨p1,p2,p3,J⟩:=nB (aos:=aos) (i:=i+1) (by omega);obtain⟨q1,q2⟩:=R.cX _ p1 p2 J;rw [←hH]at q1;obtain⟨k1,Z⟩:=SR.ahead hS q1;have g:Ext X.H.length X { d with H:=(st (phase aos (i+1))).heap }:=hx.trans (Z.mono hx.len);have I:Ext X0.H.length X0 { d with H:=(st (phase aos (i+1))).heap }:=s.ext.trans (g.mono s.ext.len);have K:¬ (D (phase aos (i+1))∨phase aos (i+1)=i):=by
  rintro(h | h)
  ·rcases p3 with h1 | ⟨z,hz,l⟩
   ·have:=s.dlt _ h;omega
   ·exact x.pb s (R.before p1 x.hy hz (.inr ⟨nZ hc (by simp [l]) (by simp [l]),fun e=>absurd e (R.tG hz (by simp [l]))⟩)) h
  ·omega
 have N:∀ j,DU aos j→j<phase aos (i+1)→D j∨j=i:=by
  intro j U hj;rcases arv j i with h | h | h
  ·exact .inl (s.wD j U h)
  ·exact .inr h
  ·exact absurd U (J j h hj)
 have S:fv σ { d with H:=(st (phase aos (i+1))).heap } (st (phase aos (i+1))).defs a1.defers:=by rw [q2];exact hd.ext' Z
 have iJ:i≠eJ ops aos:=R.tG x.hy (by simp [hc]);have wi:∀ j z,j<phase aos (i+1)→¬ (D j∨j=i)→aos[j]?=aa z→cls z.op=.a→(st (j+1)).heap.length≠(st j).heap.length→i<j∧d.cr (st j).heap.length=ab:=by
  intro j z hj hD hz l A;rcases arv j i with h | h | h
  ·exact absurd (.inl (x.nz s (R.before h hz x.hy (.inr ⟨sQ hc (by simp [l]) (by simp [l]),fun e=>absurd e iJ⟩)))) hD
  ·exact absurd (.inr h) hD
  ·have F:=(R.cX j h (by omega) fun k h1 h2=>J k h1 (by omega)).1.len;rw [←hH]at F;refine⟨h,?_⟩;cases m:d.cr (st j).heap.length with
   | none=>rfl| some L=>have:=SR.lt hS m;omega
 by_cases hP:∃ z zs c p,i≤eJ ops aos∧eJ ops aos<phase aos (i+1)∧aos[eJ ops aos]?=aa z∧z.op=.alloc zs∧z.dst=aa p∧D (eJ ops aos)∧a.tmps.getD p.toNat undef=.pointer (aa ⟨c,0,ab⟩)∧X0.w.heap.size≤c∧jF σ X c zs
 ·obtain⟨z,zs,c,p,g1,g2,g3,g4,g5,g6,g7,g8,g9⟩:=hP;obtain⟨s1,s2⟩:=R.afx g3 g4 g5;have M:i<eJ ops aos:=by omega
  have b9:(st (i+1)).heap.length≤(st (eJ ops aos)).heap.length:=(R.cX _ M (by omega) fun k h1 h2=>J k h1 (by omega)).1.len;obtain⟨fl,O⟩:∃ fl,(st (phase aos (i+1))).heap[(st (eJ ops aos)).heap.length]?=aa (.box (zs.map .f) fl):=by
   have W:=(R.cX (phase aos (i+1)) (show eJ ops aos+1≤_ by omega) p2 fun k h1 h2=>J k (by omega) h2).1;rw [s1]at W;exact oO W
  have b_:jF σ { d with H:=(st (phase aos (i+1))).heap } c zs:=g9.ext g;have c_:d.cr (st (eJ ops aos)).heap.length=ab:=by
   cases m:d.cr (st (eJ ops aos)).heap.length with
   | none=>rfl| some L=>have:=SR.lt hS m;rw [hH]at this;omega
  obtain⟨a7,q,a8⟩:=SR.assign k1 b_ O c_;refine⟨phase aos (i+1),{ d with H:=(st (phase aos (i+1))).heap,cr:=fun b=>if b=(st (eJ ops aos)).heap.length then aa ⟨c,0⟩else d.cr b },rfl,R.fin s x a7 hB (I.assign q g8) (fun v u h=>VR.dQ σ q (VR.ext' σ g h)) ?_ (.inl (VR.dQ σ q (VR.ext' σ Z hv))) ht B p2 p3 K N rfl (fv.dQ q S) ?_⟩
  ·intro z' d9 c' p' _ e2 _ e4 _ e6 _ _;rw [g3]at e2;cases e2;rw [g5]at e4;cases e4;rw [g7]at e6;simp only [Value.pointer.injEq,At,Addr.mk.injEq,true_and,and_true]at e6;subst e6;rw [aW (by omega),s2];exact a8
  ·intro j w hj hD hw Y A;obtain⟨f1,f2⟩:=wi j w hj hD hw Y A;show(if(st j).heap.length=(st (eJ ops aos)).heap.length then aa (⟨c,0⟩:Loc)else d.cr (st j).heap.length)=ab;rw [aW,f2];intro e;rcases arv j (eJ ops aos)with h | h | h
   ·have h1:=(R.cX (lo:=j+1) (eJ ops aos) h (by omega) fun k h1 h2=>J k (by omega) (by omega)).1.len;have h2:=(nH (by simp [Y]) (R.step j w hw)).1.len;clear I g k1 Z;omega
   ·exact hD (.inl (by rw [h];exact g6))
   ·have h1:=(R.cX (lo:=eJ ops aos+1) j h (by omega) fun k h1 h2=>J k (by omega) (by omega)).1.len;rw [s1,api]at h1;simp only [List.length_cons,List.length_nil]at h1;omega
 ·refine⟨phase aos (i+1),{ d with H:=(st (phase aos (i+1))).heap },rfl,R.fin s x k1 hB I (fun v u h=>VR.ext' σ g h) ?_ (.inl (VR.ext' σ Z hv)) ht B p2 p3 K N rfl S (fun j z h1 h2 h3 h4 h5=>(wi j z h1 h2 h3 h4 h5).2)⟩;intro z zs c p g1 g2 g3 g4 g5 g6 g7 g8;by_cases F:phase aos (i+1)≤eJ ops aos
  ·rw [ba F];exact g8.ext g
  ·exact absurd ⟨z,zs,c,p,g1,by omega,g2,g3,g4,g5,g6,g7,g8⟩ hP
theorem jk.mo(R:jk Q σ call n ops aos gK st)(d:Inv Q σ X0 n ops aos st D E X a)(l:jj ops aos D i o y)(hc:cls y.op≠.w){b:Wd}{a1:Act}{u:Value}{v:V}(F:SR Q σ b)(A:b.B≤b.w.heap.size)(m:Ext X.H.length X b)
  (K:VR σ b v u∨(i=eJ ops aos∧E≤eJ ops aos∧∃ zs c,y.op=.alloc zs∧u=.pointer (aa ⟨c,0,ab⟩)∧X0.w.heap.size≤c∧jF σ b c zs)) (J:a1.tmps=(a.put o.dst u).tmps) (g:(st (i+1)).aw=ja (st i).aw y.dst v) (B:b.H=X.H) (H:fv σ b (st E).defs a1.defers)
  (I:∀ j z,j<E→¬ (D j∨j=i)→aos[j]?=aa z→cls z.op=.a→(st (j+1)).heap.length≠(st j).heap.length→b.cr (st j).heap.length=ab) :
  Inv Q σ X0 n ops aos st (fun j=>D j∨j=i) E b a1:=by
 refine R.fin d l F A (d.ext.trans (m.mono d.ext.len)) (fun v u h=>VR.ext' σ m h) (fun z zs c p g1 _ _ _ _ _ _ x=>by rw [ba g1];exact x.ext m) K J g d.eN d.eW ?_ (fun j h1 h2=>.inl (d.wD j h1 h2)) (B.trans d.heap) H I;rintro(h | h)
 ·exact d.eD h
 ·have hi:i<aos.length:=(BY.1 l.hy).1;rcases d.eW with h1 | ⟨z,s,q⟩
  ·omega
  ·rw [h,l.hy]at s;cases s;exact hc q
theorem jk.gH(d:Inv Q σ X0 n ops aos st D E X a){b:Wd}(h:b.cr=X.cr):∀ j z,j<E→¬ (D j∨j=i)→aos[j]?=aa z→cls z.op=.a→(st (j+1)).heap.length≠(st j).heap.length→b.cr (st j).heap.length=ab:=
 fun j z h1 h2 h3 h4 h5=>by rw [h];exact d.wi j z h1 (fun h=>h2 (.inl h)) h3 h4 h5
theorem jk.CA(R:jk Q σ call n ops aos gK st)(q:Inv Q σ X0 n ops aos st D E X a)(u:jj ops aos D i o y)(hc:cls y.op=.a)(F:i=eJ ops aos→i<E)(m:(st (i+1)).heap.length≠(st i).heap.length){j:Nat}{z:aP}(J:j<E)(hD:¬ (D j∨j=i))(B:aos[j]?=aa z)(d:cls z.op=.a)
  (g:(st (j+1)).heap.length≠(st j).heap.length):(st j).heap.length≠(st i).heap.length:=by
 have hi:i<aos.length:=(BY.1 u.hy).1;obtain⟨g1,g2⟩:=R.X_ q u (by simp [hc]) (by simp [hc]) (by simp [hc]) F;have I:∀ k,j≤k→k<E→¬ DU aos k:=by
  intro k h1 h2 s;have l:=q.wD k s h2;obtain⟨w,v,x⟩:=s;rcases aqY j k with h | h
  ·exact hD (.inl (q.closed.below k l (R.before h B v (.inr ⟨sQ x (by simp [d]) (by simp [d]),fun _=>by simp [d]⟩))))
  ·have:k=j:=by omega
   subst this;exact hD (.inl l)
 have b:∀ k w,aos[k]?=aa w→cls w.op=.a→(st (k+1)).heap.length≠(st k).heap.length→(st k).heap.length<(st (k+1)).heap.length:=by
  intro k w s A H;have:=(nH (by simp [A]) (R.step k w s)).1.len;omega
 rcases arv j i with h | h | h
 ·have h1:=b j z B d g;have h2:(st (j+1)).heap.length≤(st i).heap.length:=(R.cX i h (by omega) fun k h3 h4=>I k (by omega) (by omega)).1.len;omega
 ·exact absurd (.inr h) hD
 ·have h1:=b i y u.hy hc m;have h2:(st (i+1)).heap.length≤(st j).heap.length:=(R.cX j h (by have:=q.eN;omega) fun k h3 h4=>g2 k (by omega) (by omega)).1.len;omega
end
section
variable{Q:Program}{σ:Nat→FuncId}{X:Wd}{call:cL}
variable{n:Nat}{ops:Array Oper}{aos:List aP}{gK:List (Nat × Nat)}{st:Nat→St}
variable{X0:Wd}{D:Nat→Prop}{E i:Nat}{a:Act}{o:Oper}{y:aP}
theorem CS{w':World}{q:Obj}(g:SR Q σ X)(d:dL X.w w' q):SR Q σ { X with w:=w' }∧Ext X.H.length X { X with w:=w' }:=by
 have j:Ext X.H.length X { X with w:=w' }:=Ext.one g X.H.length rfl (fun _ _=>Iff.rfl) (fun k m _=>d.Bf m)
  (fun L i h=>by rw [SR.qM g]at h;simp at h) (fun h=>absurd h (asc _)) (fun _ _ _=>rfl) (fun _ _=>rfl) (fun L h=>.inl ⟨L,h,rfl⟩) (by show _≤w'.heap.size;rw [d.size];omega) d.os d.tape d.output
 refine⟨SR.step Q σ g j X.H.length (fun _ _=>rfl) (fun _ _=>rfl) (fun b L _ l=>d.Bf (g.br b L l).2.1)
  (fun _ _ _ _ _ h=>h) (fun L h=>by change X.cr X.H.length=aa L at h;rw [SR.qM g]at h;simp at h) (fun c i h=>?_),j⟩
 have:=g.fb c i h;show c<w'.heap.size;rw [d.size];omega
theorem ZJ{y:aP}{p:P}(h:p ∈ y.op.rd):p ∈ y.rd:=by unfold aP.rd;exact aqC.2 (.inr h)
theorem DM{y:aP}{p:P}{w:Bool}(h:y.g=aa (p,w)):p ∈ y.rd:=by unfold aP.rd;rw [h];simp
theorem jk.ahf(hC:eR Q σ call)(R:jk Q σ call n ops aos gK st)(d:Inv Q σ X0 n ops aos st D E X a)(A:jj ops aos D i o y){b:Frame}{rest:List Nat}{k:List Item}{cs:List Frame}(hk:iG b cs)(j7:gd y.op b) :
  ∃ E' X' a',Steps Q (lone (b.atR a (.inRegion ops (i::rest)::k)) cs X.w) (lone (b.atR a' (.inRegion ops rest::k)) cs X'.w)∧Inv Q σ X0 n ops aos st (fun j=>D j∨j=i) E' X' a'∧a'.tmps.size=a.tmps.size:=by
 have hi:i<aos.length:=(BY.1 A.hy).1;obtain⟨o',g_,hm⟩:=R.at A.hy;rw [A.ho]at g_;cases g_;have g:=R.step i y A.hy;have S:∀ p ∈ y.rd,VR σ X ((st i).aw.get p) (a.tmps.getD p.toNat undef):=fun p hp=>R.reads d A hp;have l:dG Q σ o y.op=ae:=by simp only [jP,If]at hm;exact hm.1.1
 have K:∀ u,(a.put o.dst u).tmps.size=a.tmps.size:=fun u=>by cases o.dst<;>simp [Act.put]
 have J:∀(a:Act) u,(a.put o.dst u).defers=a.defers:=fun a u=>by cases o.dst<;>rfl
 have i7:∀(a a':Act) u,a'.tmps=a.tmps→(a'.put o.dst u).tmps=(a.put o.dst u).tmps:=fun a a' u h=>by cases o.dst<;>simp [Act.put,h]
 unfold fm at g;split at g
 ·rename_i d9;have hw:=mH hm (aw:=(st i).aw) (tmps:=a.tmps) (X:=X) (fun p w' hg=>S p (DM hg)) d.size d9;split at g
  ·rename_i v s1 h1;simp only [At]at g;have B:(st (i+1)).aw=ja (st i).aw y.dst v:=by rw [←g,←wX h1]
   have q:(st (i+1)).heap=s1.heap:=by rw [←g]
   have N:(st (i+1)).defs=s1.defs:=by rw [←g]
   have F:∀ p ∈ y.op.rd,(st i).aw.get p=(gG (st i).aw y.op.rd).get p:=fun p hp=>by rw [tU,ba hp]
   have Z:RR σ X (gG (st i).aw y.op.rd) a.tmps:=fun p=>by
    rw [tU];split
    ·rename_i hp;exact S p (ZJ hp)
    ·trivial
   have M:=EA F h1;by_cases m:cls y.op=.w
   ·have a8:=R.alj d A m;obtain⟨g1,g2⟩:=Ez hC d.sr d.b (s:={ st i with aw:=gG (st i).aw y.op.rd }) (by rw [d.heap,←a8]) Z (by rw [a8];exact d.defs) l M;obtain⟨X1,u,a1,k1,⟨k2,k3,k4,k5,k6⟩,k7,k8⟩:=g1 b ops i rest k cs A.ho hw hk j7;obtain⟨E',X2,q1,q2⟩:=R.Dp d A m (a1:=a1.put o.dst u) k3 k6 k5 k4 (i7 a a1 u k7) B (by rw [k2,q]) (by rw [N,J];exact k8);exact⟨E',X2,a1.put o.dst u,by rw [q1];exact k1,q2,by rw [i7 a a1 u k7,K]⟩
   ·
    have j6:∀ c,o.op≠.defer c:=oW l (fun x xs e=>m (by rw [e];rfl)) (fun e=>by rw [e]at h1;simp [eE,bl]at h1);have one:∀ {u:Value} {w':World},(execOp a.eval o).run Q X.w=.ok (.value u) w'→Steps Q (lone (b.atR a (.inRegion ops (i::rest)::k)) cs X.w) (lone (b.atR (a.put o.dst u) (.inRegion ops rest::k)) cs w'):=by
     intro u w' a_;refine .one (step_lone_go ?_);rw [stepGR_op A.ho hw,Oper.semAt_eq _ _ _ j6];have a7:=Frame.finish_atR b a ops i rest k u;rw [A.ho]at a7;simp only [aqX]at a7;rw [←a7];simp [stepG.apply,Sem.runT_eq,a_]
    by_cases H:cls y.op=.c
    ·
     obtain⟨f,xs,c_⟩:∃ f xs,y.op=.call f xs ag:=by
      generalize y.op=op at H;cases op<;>first | (simp only [cls,reduceCtorEq]at H;done) | skip
      rename_i f xs hh;cases hh
      ·exact⟨f,xs,rfl⟩
      ·simp [cls]at H
     have I:=Z;rw [c_]at M l I;simp only [eE,gh,aqw,if_false,IT,OF]at M;obtain⟨⟨v',H'⟩,hp,rfl,i4⟩:=M;have j5:H'=(st (i+1)).heap:=by
      rw [q];simp only [St.mk.injEq]at i4;exact i4.2.2
     obtain⟨g1,g2⟩:=R.X_ d A (by simp [H]) (by simp [H]) (by simp [H]) (fun e=>absurd e (R.tG A.hy (by simp [H])));have e_:da H' X.H:=by
      rw [j5,d.heap];exact(R.cX E g1 d.eN fun j h1 h2=>g2 j (by omega) h2).1
     obtain⟨X1,u,k1,⟨k2,k3,k4,k5,k6⟩,k7⟩:=xr hC d.sr d.b I l hp e_ b ops i rest k cs A.ho hw;exact⟨E,X1,a.put o.dst u,k1,R.mo d A m k3 k6 k5 (.inl k4) rfl B k2 (by rw [J];exact d.defs.ext' k5) (jk.gH d k7),K u⟩
    ·have hx:(bl (gG (st i).aw y.op.rd) (st i).heap y.op)=aa (v,s1.heap):=by
      have b_:¬ ((∃ f xs h,y.op=.call f xs h)∨(∃ x xs h,y.op=.bW x xs h)∨y.op=.recover∨∃ x xs,y.op=.defer x xs):=by
       rintro(⟨f,xs,hh,e⟩ | ⟨x,xs,hh,e⟩ | e | ⟨x,xs,e⟩)<;>rw [e]at m H
       ·cases hh
        ·exact H rfl
        ·exact m rfl
       ·exact m rfl
       ·exact m rfl
       ·exact m rfl
      have hx:(bl (gG (st i).aw y.op.rd) (st i).heap y.op).map (fun r=>(r.1,({ st i with aw:=gG (st i).aw y.op.rd,heap:=r.2 }:St)))=aa (v,{ s1 with aw:=gG (st i).aw y.op.rd }):=by
       generalize gG (st i).aw y.op.rd=r at M;generalize y.op=op at M b_;cases op<;>first | exact M | (exfalso;apply b_;simp)
      simp only [IT,OF,St.mk.injEq]at hx;obtain⟨⟨v',H'⟩,h2,rfl,_,_,h3⟩:=hx;rw [h2];simp only at h3;rw [h3]
     by_cases Y:cls y.op=.a
     ·by_cases U:i=eJ ops aos∧E≤i
      ·
       obtain⟨f8,j4⟩:=U;obtain⟨⟨zs,c_⟩,_,_⟩:=R.ord.ear y (show aos[eJ ops aos]?=aa y from f8▸A.hy);have f_:=hx;rw [c_]at f_ l;simp only [bl,At,OF]at f_;obtain⟨rfl,_⟩:=f_;simp only [dG]at l;split at l
       ·rename_i t ho;obtain⟨z,us,i8,i9,i_,_⟩:=eC (σ:=σ) (X:=X) l X.w;have a_:(execOp a.eval o).run Q X.w=.ok (.value (.pointer (aa ⟨X.w.heap.size,0,ab⟩))) (X.w.alloc (.cells us.toArray t)):=by
         simp only [execOp,ho];refine dY ?_;simp [Instr.alloc,i8,newVar,newRow,i9]
        obtain⟨e1,e2⟩:=CS d.sr (dL.alloc X.w (.cells us.toArray t));refine⟨E,{ X with w:=X.w.alloc (.cells us.toArray t) },a.put o.dst (.pointer (aa ⟨X.w.heap.size,0,ab⟩)),one a_,R.mo d A m e1 (by have:=d.b;simp;omega) e2 (.inr ⟨f8,by rw [←f8];exact j4,zs,X.w.heap.size,c_,rfl,d.ext.size,?_⟩) rfl B rfl (by rw [J];exact d.defs.ext' e2) (jk.gH d rfl),K _⟩;exact⟨⟨us,t,(dL.alloc X.w (.cells us.toArray t)).new,A2.ext' σ e2 i_⟩,d.b,fun b L hb=>by have:=(d.sr.br b L hb).2.1;omega,fun j hj=>by have:=d.sr.fb _ j hj;omega⟩
       ·simp at l
      have hJ:i=eJ ops aos→i<E:=fun e=>by
       rcases aqY i E with h | h
       ·exact h
       ·exact absurd ⟨e,h⟩ U
      obtain⟨g1,g2⟩:=R.X_ d A (by simp [Y]) (by simp [Y]) (by simp [Y]) hJ;have e_:da s1.heap X.H:=by
       rw [←q,d.heap];exact(R.cX E g1 d.eN fun j h1 h2=>g2 j (by omega) h2).1
      obtain⟨X1,u,k1,⟨k2,k3,k4,k5,k6⟩,k7,k8⟩:=af5 d.sr d.b Z Y l hx e_ (fun b_=>d.wi i y g1 A.hD A.hy Y (by rw [q];exact b_));refine⟨E,X1,a.put o.dst u,one k1,R.mo d A m k3 k6 k5 (.inl k4) rfl B k2 (by rw [J];exact d.defs.ext' k5) ?_,K u⟩;by_cases d_:(st (i+1)).heap.length=(st i).heap.length
      ·exact jk.gH d (k8 (by rw [←q];exact d_))
      ·intro j z h2 h3 h4 h5 h6;rw [k7 _ (R.CA d A Y hJ d_ h2 h3 h4 h5 h6)];exact d.wi j z h2 (fun h=>h3 (.inl h)) h4 h5 h6
     ·
      have h_:cls y.op=.p∨cls y.op=.r:=by cases b9:cls y.op<;>simp_all
      have j9:bl (st i).aw (st i).heap y.op=aa (v,s1.heap):=by rw [C4 F];exact hx
      have i6:bl (gG (st i).aw y.op.rd) X.H y.op=aa (v,X.H):=by
       rcases h_ with b9 | b9
       ·have:=ah1 (r:=gG (st i).aw y.op.rd) b9 (st i).heap X.H;rw [hx]at this;simpa using this
       ·rw [←C4 F];exact(R.apC d A b9 d9 j9).2
      cases f7:y.op.fsl
      case true=>
       have O:=l;have W:=i6;have I:=Z;obtain⟨rg,j8⟩:=aK (gG (st i).aw y.op.rd);rw [←j8]at W I;revert O W;generalize y.op=op at f7;cases op<;>simp only [cQ.fsl,reduceCtorEq]at f7;intro O W;obtain⟨_,u,X1,k1,k2,k3,k4,k5,k6,k7⟩:=we d.sr d.b I O W;exact⟨E,X1,a.put o.dst u,one k1,R.mo d A m k3 k6 k5 (.inl k4) rfl B k2 (by rw [J];exact d.defs.ext' k5) (jk.gH d k7),K u⟩
      obtain⟨_,u,k1,k2⟩:=ahW d.sr Z l h_ f7 i6;exact⟨E,X,a.put o.dst u,one k1,R.mo d A m d.sr d.b (Ext.refl _ _) (.inl k2) rfl B rfl (by rw [J];exact d.defs) (jk.gH d rfl),K u⟩
  ·simp at g
 ·rename_i d9;have hw:=mH hm (aw:=(st i).aw) (tmps:=a.tmps) (X:=X) (fun p w' hg=>S p (DM hg)) d.size d9;simp only [At]at g;have B:(st (i+1)).aw=ja (st i).aw y.dst (.t []):=by rw [←g]
  have q:(st (i+1)).heap=(st i).heap:=by rw [←g]
  have N:(st (i+1)).defs=(st i).defs:=by rw [←g]
  have i5:Steps Q (lone (b.atR a (.inRegion ops (i::rest)::k)) cs X.w) (lone (b.atR (a.put o.dst undef) (.inRegion ops rest::k)) cs X.w):=by
   refine .one ?_;have:=stepR_op_skip (P:=Q) (b:=b) (a:=a) (k:=k) (cs:=cs) (w:=X.w) (ops:=ops) (i:=i) (rest:=rest) (by simp [A.ho,hw]);rw [A.ho]at this;exact this
  by_cases m:cls y.op=.w
  ·have a8:=R.alj d A m;obtain⟨E',X2,q1,q2⟩:=R.Dp d A m (a1:=a.put o.dst undef) d.sr d.b (Ext.refl _ _) VR.undef rfl B (by rw [d.heap,q,a8]) (by rw [N,J,a8];exact d.defs);exact⟨E',X2,a.put o.dst undef,by rw [q1];exact i5,q2,K _⟩
  ·exact⟨E,X,a.put o.dst undef,i5,R.mo d A m d.sr d.b (Ext.refl _ _) (.inl VR.undef) rfl B rfl (by rw [J];exact d.defs) (jk.gH d rfl),K _⟩
 ·simp at g
end
end Km
