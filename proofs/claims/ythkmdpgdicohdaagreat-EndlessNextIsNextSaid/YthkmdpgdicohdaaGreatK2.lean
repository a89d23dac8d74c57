/-
  Our own small machine for Go code by value, held ph the model: part 2. No program in AJ.
-/
import Derived.Test.YthkmdpgdicohdaaGreatK1
import Derived.AtR
import Derived.RangeFuncIn
import Derived.RangeFuncRecord
import Derived.Conc.MuLone
open Option renaming some → aa,none → ab
open Bool renaming true → ae,false → ag
open Nat renaming le_max_left → acV, le_trans → acT, le_max_right → acQ, mul_le_mul_right → adi, le_refl → IT, add_mul → ac3, lt_or_ge → ac6, lt_irrefl → aec, mul_eq_zero → aee, zero_add → adt, lt_of_lt_of_le → adb, lt_trichotomy → adn
open Option.some renaming injEq → sh
open Prod.mk renaming injEq → IS
open List renaming getElem?_map → adh, length_map → ac1, getElem?_toArray → ad3, getElem?_cons_zero → adH, getElem?_cons_succ → adW, length_append → acZ, getElem?_eq_some_iff → If, getElem?_set_ne → AI, getElem?_append_left → AT, length_drop → adg, eq_nil_of_length_eq_zero → acH, drop_zero → ady, getElem?_set → ad4, getElem?_eq_getElem → By, getElem?_eq_none_iff → adC, foldl_cons → adY, mem_cons → ac2, getElem_mem → acE, getElem?_drop → acO, getElem?_of_mem → ac9, drop_eq_nil_iff → aen, drop_eq_getElem_cons → acP, mem_flatMap → aeb, mem_append → acG, mem_map → adx, getElem?_take → acX, getElem?_eq_none → ad5, getD_eq_getElem?_getD → adM, all_eq_true → acN
open Option renaming map_eq_some_iff → IN, map_some → ac8, bind_some → acY
open Bool renaming and_eq_true → BY, false_eq_true → acJ, true_and → adl
open Int renaming natCast_mul → aef, toNat_natCast → adq, mul_comm → adu
set_option linter.unusedVariables false
set_option linter.constructorNameAsVariable false
set_option linter.unusedSimpArgs false
set_option linter.unusedSectionVars false
set_option maxRecDepth 100000
namespace Km
open Go
section
variable{Q:Program}{σ:Nat→FuncId}{X:Wd}
theorem sw(n:Nat):∀(r c:Nat),Builtin.growBy n r c≤Nat.max c (n+(n+768) / 4)
 | 0,c=>by simp [Builtin.growBy];exact acV _ _
 | r+1,c=>by
  simp only [Builtin.growBy];split
  ·exact acV _ _
  ·rename_i h;refine acT (sw n r _) ?_;apply Nat.max_le.2;exact⟨acT (by omega) (acQ _ _),acQ _ _⟩
theorem qC{need cap:Nat}(h:cap<need):Builtin.nextslicecap need cap≤2*need+768:=by
 unfold Builtin.nextslicecap;split
 ·omega
 ·split
  ·omega
  ·refine acT (sw need 4 cap) ?_;apply Nat.max_le.2;omega
theorem vr(K:SR Q σ X){sz:Nat}{y:V}{u:Value}(v:VR σ X y u){m:Nat}{ys:List C}(h:dC X.H sz y=aa (m,ys)) :
  ∃ F,(Builtin.lenOf u).run Q X.w=.ok m X.w∧(Builtin.firstCells sz m u).run Q X.w=.ok F.toArray X.w∧A2 (CR σ X) ys F∧ys.length=m*sz:=by
 unfold dC at h;split at h
 ·rename_i s;have:=VR.str v;subst this;split at h
  case isFalse=>simp at h
  rename_i q;subst q;simp only [sh,IS]at h;obtain⟨rfl,rfl⟩:=h;have g:s.extract 0 s.size=s:=ByteArray.extract_zero_size;refine⟨s.data.toList.map fun b=>.int .u8 b.toNat,by simp [Builtin.lenOf],?_,?_,?_⟩
  ·simp only [Builtin.firstCells,g,Sem.run_pure]
   congr 1
   apply Array.ext';simp
  ·rw [ByteArray.toList_eq];exact⟨by simp,fun i x u E B=>by
    simp only [adh,IN]at E B;obtain⟨c,L,rfl⟩:=E;obtain⟨d,z,rfl⟩:=B;rw [L]at z;cases z;exact bS.int _ _⟩
  ·rw [ByteArray.toList_eq];simp only [ac1,Array.length_toList,Nat.mul_one];rfl
 ·rename_i x M;split at h
  ·rename_i l cs A j;simp only [sh,IS]at h;obtain⟨rfl,rfl⟩:=h;obtain⟨us,H,I,J⟩:=jJ K v A j;obtain⟨a,c,rfl⟩:=jg v A;exact⟨us,by simp [Builtin.lenOf],H,I,J⟩
  ·simp at h
 ·simp at h
structure XB(Q:Program)(t t' e:TypeId)(sz bytes:Nat):Prop where
 hu:Q.underlying t=aa (.slice e)
 hu':∃ d,Q.underlying t'=aa d∧(∀ k,d≠.int k)
 xh:cM Q e sz=ae
 hby:kQ Q e bytes=ae
 pos:0<sz
 zero:∃ i z,Q.info? e=aa i∧i.zero=aa z∧z.cells.size=sz
def oE(base:Option Addr)(k:Nat)(b:List Value):Sem Unit:=match base with
 | some a=>storeCells (a.add k) b| none=>pure ()
theorem gN{t S e:TypeId}{sz bytes:Nat}(j:XB Q t S e sz bytes)(X:TypeId){base:Option Addr}{l cap m:Nat}{u:Value}{g:List Value}{w:World}
  (U:(Builtin.lenOf u).run Q w=.ok m w) (Z:(Builtin.firstCells sz m u).run Q w=.ok g.toArray w) :
  (l+m≤cap→(Builtin.append_ #[t,S] X #[.slice base l cap,u]).run Q w =
   ((oE base (l*sz) g).run Q w).andThen fun _ w'=>.ok (.slice base (l+m) cap) w') ∧
  (¬ l+m≤cap→bB (l+m) bytes=ae→∀ os g:List Value,(Builtin.firstCells sz l (.slice base l cap)).run Q w.drew=.ok os.toArray w.drew→(Builtin.firstCells sz m u).run Q w.drew=.ok g.toArray w.drew →
   ∃ nc rest w',l+m≤nc∧(Builtin.append_ #[t,S] X #[.slice base l cap,u]).run Q w=.ok (.slice (aa ⟨w.heap.size,0,ab⟩) (l+m) nc) w' ∧
    dp w w' (.cells (os++g++rest).toArray e)∧rest.length=(nc-(l+m))*sz):=by
 obtain⟨d,W,F⟩:=j.hu';obtain⟨i,z,I,hz,y⟩:=j.zero;obtain⟨q,s,B⟩:=uE j.hby w;have A:((d matches .int _):Bool)=ag:=by
  cases d with
  | int k=>exact absurd rfl (F k)| _=>rfl
 constructor
 ·intro J;simp only [Builtin.append_,ad3];simp [aN j.hu,aN W,cx j.xh,A,U,J,Z];cases base<;>simp [oE]
 ·intro H b os g h3 h4;unfold bB at b;simp only [BY,decide_eq_true_eq]at b;have v:q=i:=by
   simp [typeInfo,I]at s;exact s.symm
  subst v;have K:¬ (Builtin.nextslicecap (l+m) cap*q.bytes>2 ^ 48):=by
   rw [B];have:=qC (need:=l+m) (cap:=cap) (by omega);have:=adi bytes this;omega
  let nc:=(Question.appendCap (l+m) cap e).cut (w.tape w.drawn (.appendCap (l+m) cap e))
  have L:l+m≤nc:=by simp [nc,Question.cut]
  refine⟨nc,bX (nc-(l+m)) z.cells.toList,w.drew.alloc (.cells (os++g++bX (nc-(l+m)) z.cells.toList).toArray e),L,?_,⟨rfl,rfl,rfl,rfl⟩,by rw [je];simp [y]⟩;have E:(choose (.appendCap (l+m) cap e)).run Q w=.ok nc w.drew:=by
   simp [choose,Sem.run,Question.forced,nc]
  have N:Builtin.zeroCells z.cells (nc-(l+m))=(bX (nc-(l+m)) z.cells.toList).toArray:=by
   have:=fQ z.cells.toList (nc-(l+m)) (by simp [y];exact j.pos);simpa [Builtin.zeroCells]using this
  have x:¬ (((l+m:Nat):Int)>IntKind.i64.max):=by
   have:IntKind.i64.max=9223372036854775807:=by decide
   rw [this];omega
  have O:∀ w',(zeroValue e).run Q w'=.ok z w':=fun w'=>by simp [zeroValue,typeInfo,I,hz]
  have M:∀ w',(typeInfo e).run Q w'=.ok q w':=fun w'=>by simp [typeInfo,I]
  simp only [Builtin.append_,Sem.run_bind,aN j.hu,aN W,cx j.xh,A,Result.andThen_ok,Sem.run_pure,acJ,if_false,U,aU H,Sem.run_ite,M,x,false_and,K,E,run_askRoom,h3,
   Bool.not_false,if_true,h4,O,N,newRow,run_newObj,ad3,adH,adW]
  have Y:os.toArray++g.toArray++(bX (nc-(l+m)) z.cells.toList).toArray=(os++g++bX (nc-(l+m)) z.cells.toList).toArray:=by simp
  rw [Y];rfl
theorem SR.drew(b:SR Q σ X):SR Q σ { X with w:=X.w.drew }∧Ext X.H.length X { X with w:=X.w.drew }:=by
 have d:Ext X.H.length X { X with w:=X.w.drew }:=Ext.one b X.H.length rfl (fun _ _=>Iff.rfl) (fun _ _ _=>rfl) (fun _ _ _ _=>rfl) (fun h=>by omega)
  (fun _ _ _=>rfl) (fun _ _=>rfl) (fun L h=>.inl ⟨L,h,rfl⟩) (IT _) rfl rfl rfl
 exact⟨SR.step Q σ b d X.H.length (fun _ _=>rfl) (fun _ _=>rfl) (fun _ _ _ _=>rfl) (fun _ _ _ _ _ h=>h) (fun L h=>by
  change X.bI X.H.length=aa L at h;rw [SR.oB b]at h;simp at h) b.fb,d⟩
theorem Kd(l:SR Q σ X)(A:X.B≤X.w.heap.size){sz:Nat}(d:0<sz){cs:List C}{us rest:List Value}(h:A2 (CR σ X) cs us){n nc:Nat}(q:cs.length=n*sz)(F:rest.length=(nc-n)*sz)(E:n≤nc)
  {e:TypeId} {w':World} (s:dp X.w w' (.cells (us++rest).toArray e)) :
  ∃ X',X'.w=w'∧X'.H=X.H++[.bA sz cs 0 0 .loc]∧SR Q σ X'∧Ext X.H.length X X'∧VR σ X' (.c (.sl X.H.length 0 n 0 0 sz)) (.slice (aa ⟨X.w.heap.size,0,ab⟩) n nc)∧X'.B≤X'.w.heap.size:=by
 obtain⟨X',u,j,v,x,y,z⟩:=SR.new l A (.bA sz cs 0 0 .loc) s nc fun X' H g B _=>⟨rfl,us,rest,by rw [g];exact jf s,A2.ext' σ H h,by
  have:=h.len;rw [acZ,F,←this,q,←ac3];congr 1;show n+(nc-n)=nc;omega,d,⟨n,q⟩,fun i _ m=>by rw [B]at m;have:=l.fb _ _ m;simp at this⟩
 refine⟨X',u,j,v,x,?_,z⟩;have b:X'.H[X.H.length]?=aa (.bA sz cs 0 0 .loc):=by rw [j];simp
 simp only [VR,fX,CR,eK,b];exact⟨IT _,fun _ _=>⟨_,y,0,by omega,by show 0+n≤nc;omega,by simp⟩,_,_,_,rfl⟩
theorem tI(q:SR Q σ X)(O:X.B≤X.w.heap.size){b sz:Nat}{x cs:List C}{fl u:Nat}{st:Os}(F:X.H[b]?=aa (.bA sz x fl u st)){ys:List C}{us B rest:List Value}(I:A2 (CR σ X) cs us)(K:A2 (CR σ X) ys B)
  (A:0<sz) {n nc:Nat} (J:cs.length+ys.length=n*sz) (W:rest.length=(nc-n)*sz) (U:n≤nc) {e:TypeId} {w':World} (j:dp X.w w' (.cells (us++B++rest).toArray e)) :
  ∃ X',X'.w=w'∧X'.H=X.H.set b (.bA sz (cs++ys) fl (u+1) .loc)∧SR Q σ X'∧Ext X.H.length X X'∧VR σ X' (.c (.sl b 0 n 0 (u+1) sz)) (.slice (aa ⟨X.w.heap.size,0,ab⟩) n nc)∧X'.B≤X'.w.heap.size:=by
 have z:b<X.H.length:=(If.1 F).1
 let X':Wd:={ X with H:=X.H.set b (.bA sz (cs++ys) fl (u+1) .loc),bI:=fun k=>if k=b then aa ⟨X.w.heap.size,nc⟩else X.bI k,w:=w' }
 have g:X'.H[b]?=aa (.bA sz (cs++ys) fl (u+1) .loc):=by simp [X',z]
 have l:X'.bI b=aa ⟨X.w.heap.size,nc⟩:=by simp [X']
 have v:Ext X.H.length X X':=Ext.one q b rfl (fun _ _=>Iff.rfl) (fun k S _=>j.xj S) (fun L i Y y=>World.cell?_of_block (j.xj (q.fb _ _ y)))
  (fun _ aS d=>⟨_,g,by rw [F]at d;simp only [sh]at d;subst d;exact⟨rfl,.inr ⟨by omega,rfl,_,l⟩⟩⟩)
  (fun m h _=>by simp [X',AI (Ne.symm h)]) (fun m h=>by simp [X',h]) (fun L h=>by rw [l]at h;simp only [sh]at h;subst h;exact .inr (IT _)) (by show X.w.heap.size≤w'.heap.size;rw [j.size];omega) j.os j.tape j.output
 refine⟨X',rfl,rfl,SR.step Q σ q v b (fun m h=>by simp [X',AI (Ne.symm h)]) (fun m h=>by simp [X',h]) (fun m L _ s=>j.xj (q.br m L s).2.1) (fun _ _ _ _ _ h=>h) (fun L h=>?_) (fun c i h=>?_),v,?_,?_⟩
 ·rw [l]at h;simp only [sh]at h;subst h;refine⟨O,by show X.w.heap.size<w'.heap.size;rw [j.size];omega,⟨_,g,rfl,us++B,rest,jf j,(A2.ext' σ v I).append (A2.ext' σ v K),?_,A,⟨n,by simpa using J⟩,fun i _ y=>?_⟩,fun m E _ s=>?_⟩
  ·have M:=I.len;have N:=K.len;rw [acZ,acZ,W,←M,←N,J,←ac3];congr 1;show n+(nc-n)=nc;omega
  ·have:=q.fb _ _ y;simp at this
  ·have:=(q.br m E s).2.1;show E.c≠X.w.heap.size;omega
 ·have:=q.fb c i h;show c<w'.heap.size;rw [j.size];omega
 ·simp only [VR,fX,CR,eK,g];exact⟨IT _,fun _ _=>⟨_,l,0,by omega,by show 0+n≤nc;omega,by simp⟩,_,_,_,rfl⟩
 ·show X.B≤w'.heap.size;rw [j.size];omega
end
section
variable{Q:Program}{σ:Nat→FuncId}{X:Wd}
theorem Kn{d:Type}(us rest b:List d)(h:b.length≤rest.length):over (us++rest) us.length b=us++b++rest.drop b.length:=by
 unfold over;rw [List.take_left',←List.drop_drop,List.drop_left']
 all_goals rfl
theorem WY(M:SR Q σ X){b sz:Nat}{cs:List C}{fl j:Nat}{L:Loc}(z:X.H[b]?=aa (.bA sz cs fl j .loc))(y:X.bI b=aa L){ys:List C}{m:List Value}(H:A2 (CR σ X) ys m)(Y:fl≤cs.length)
  {n:Nat} (Z:cs.length+ys.length=n*sz) (q:n≤L.cap):∃ X',(storeCells ⟨L.c,cs.length,ab⟩ m).run Q X.w=.ok () X'.w∧X'.H=X.H.set b (.bA sz (cs++ys) fl (j+1) .loc)∧SR Q σ X' ∧
   Ext X.H.length X X'∧VR σ X' (.c (.sl b 0 n 0 (j+1) sz)) (.slice (aa ⟨L.c,0,ab⟩) n L.cap)∧X'.w.heap.size=X.w.heap.size∧X'.B=X.B:=by
 obtain⟨_,_,aS,l,A⟩:=M.br b L y;rw [z]at l;simp only [sh]at l;subst l;obtain⟨_,us,rest,B,I,K,U,o,J⟩:=A;have s:b<X.H.length:=(If.1 z).1;have a:=H.len;have g:=I.len;have F:n*sz≤L.cap*sz:=adi sz q;have E:m.length≤rest.length:=by simp only [acZ]at K;omega
 obtain⟨N,c,e,f,k,x⟩:=gv B m cs.length (by simp;omega);rw [g,Kn _ _ _ E]at x;rw [←g]at x;obtain⟨O,S⟩:=SR.turn M (blk':=.bA sz (cs++ys) fl (j+1) .loc) z y N c (fun i W=>by
   have p:i<fl:=by
    rcases ac6 i fl with h | h
    ·exact h
    ·exact absurd W (J i h)
   have:=dq x i;rw [g]at this ⊢;rw [this,dq B,List.append_assoc,AT (by omega),AT (by omega)]) e f k
  (fun aS d=>⟨.bA sz (cs++ys) fl (j+1) .loc,by simp [s],by rw [z]at d;simp only [sh]at d;subst d;exact⟨rfl,.inr ⟨by omega,rfl,L,y⟩⟩⟩)
  (fun v=>⟨rfl,us++m,rest.drop m.length,by rw [g]at x ⊢;exact x,(A2.ext' σ v I).append (A2.ext' σ v H),by simp only [acZ,adg]at K ⊢;omega,U,⟨n,by simpa using Z⟩,J⟩)
 refine⟨_,oF B m cs.length (by simp;omega) (A2.one H),rfl,O,S,?_,N,rfl⟩;have u:(X.H.set b (.bA sz (cs++ys) fl (j+1) .loc))[b]?=aa (.bA sz (cs++ys) fl (j+1) .loc):=by simp [s]
 simp only [VR,fX,CR,eK,u];exact⟨IT _,fun _ _=>⟨L,y,0,by omega,by omega,by simp⟩,_,_,_,rfl⟩
theorem tQ{c:Call}{sz bytes:Nat}{x y:Arg}(h:dk Q σ c (.append sz bytes x y)=ae):∃ u v t m e,c.callee=.builtin .append∧c.args=#[u,v]∧c.argTypes=#[t,m]∧mA σ x u=ae∧mA σ y v=ae ∧
  XB Q t m e sz bytes:=by
 simp only [dk]at h;split at h
 ·rename_i u v t m E F H;simp only [BY]at h;obtain⟨⟨⟨J,K⟩,l⟩,g⟩:=h;obtain⟨e,I,l⟩:=fD l;simp only [BY,decide_eq_true_eq]at l;obtain⟨⟨⟨s,q⟩,d⟩,j⟩:=l;have A:∃ i z,Q.info? e=aa i∧i.zero=aa z∧z.cells.size=sz:=by
   cases B:Q.info? e with
   | none=>simp [B]at j
   | some i=>
    simp only [B,Option.any_some]at j;cases b:i.zero with
    | none=>simp [b]at j| some z=>simp [b]at j;exact⟨i,z,rfl,b,j⟩
  refine⟨u,v,t,m,e,E,O' F,O' H,J,K,⟨I,?_,s,q,d,A⟩⟩;split at g
  ·exact⟨_,by assumption,fun k=>by simp⟩
  ·exact⟨_,by assumption,fun k=>by simp⟩
  ·simp at g
 ·simp at h
theorem Co(W:SR Q σ X)(hB:X.B≤X.w.heap.size){a:Act}{al:T}(hR:RR σ X al a.tmps){o:Oper}{sz bytes:Nat}{x y:Arg}(hm:df Q σ o (.append sz bytes x y)=ae){v:V}{H':aj}
  (h:aW al X.H (.append sz bytes x y)=aa (v,H')):ft Q σ X v H' (execOp a.eval o):=by
 simp only [df]at hm;split at hm
 ·rename_i c ho;obtain⟨u,v',t,t',e,h1,h2,h3,hx,hy,ht⟩:=tQ hm;have hx:=bj hR hx;have hy:=bj hR hy;simp only [aW]at h;generalize j_:a.eval u=ux at hx;generalize k_:a.eval v'=uy at hy;generalize x.ev al=vx at hx h;generalize y.ev al=vy at hy h;have a_:∀(r:Value) (w':World),(Builtin.append_ #[t,t'] o.type #[ux,uy]).run Q X.w=.ok r w'→(execOp a.eval o).run Q X.w=.ok (.value r) w':=by
   intro r w' hr;refine cY ho h1 fun cs=>?_;simp [builtin,h2,h3,j_,k_,hr]
  unfold bJ at h;split at h
  ·simp at h
  rename_i m ys c8;rw [aU (by have:=ht.pos;omega)]at h;obtain⟨vs,b7,b6,c4,c7⟩:=vr W hy c8;obtain⟨Y,d_⟩:=SR.drew W;obtain⟨a8,_,c6,f9,_⟩:=vr Y (VR.ext' σ d_ hy) c8;have B:A2 (CR σ X) ys a8:=by
   have b_:Ext X.H.length { X with w:=X.w.drew } X:=Ext.one Y X.H.length rfl (fun _ _=>Iff.rfl) (fun _ _ _=>rfl) (fun _ _ _ _=>rfl) (fun h=>absurd h (aec _))
    (fun _ _ _=>rfl) (fun _ _=>rfl) (fun L h=>.inl ⟨L,h,rfl⟩) (IT _) rfl rfl rfl
   exact A2.ext' σ (X:={ X with w:=X.w.drew }) b_ f9
  have H:∀ {base:Option Addr} {l cap:Nat} {os:List Value} {cs:List C},ux=.slice base l cap→¬ l+m≤cap→bB (l+m) bytes=ae →
    (Builtin.firstCells sz l (.slice base l cap)).run Q X.w.drew=.ok os.toArray X.w.drew→A2 (CR σ X) cs os→cs.length=l*sz →
    ft Q σ X (.c (.sl X.H.length 0 (l+m) 0 0 sz)) (X.H++[.bA sz (cs++ys) 0 0 .loc]) (execOp a.eval o):=by
   intro base l cap os cs hu d5 d j3 i_ h_;obtain⟨nc,rest,w',J,j,g,K⟩:=(gN ht o.type (base:=base) (l:=l) (cap:=cap) b7 b6).2 d5 d os a8 j3 c6;obtain⟨X',N,I,O,S,U,g6⟩:=Kd W hB ht.pos (cs:=cs++ys) (us:=os++a8) (i_.append B) (n:=l+m) (nc:=nc) (by rw [acZ,h_,c7,ac3]) K J g;exact⟨_,X',.inl (by rw [N];exact a_ _ _ (by rw [hu];exact j)),I,O,U,S,g6⟩
  have A:∀ {base:Option Addr} {l cap:Nat} {X':Wd},ux=.slice base l cap→l+m≤cap→(oE base (l*sz) vs).run Q X.w=.ok () X'.w →
    (execOp a.eval o).run Q X.w=.ok (.value (.slice base (l+m) cap)) X'.w:=by
   intro base l cap X' hu q j9;refine a_ _ _ ?_;rw [hu,(gN ht o.type (base:=base) (l:=l) (cap:=cap) b7 b6).1 q,j9];rfl
  split at h
  ·
   cases (hx:bS σ X.F X.w .ax ux);split at h
   ·rename_i Z;subst Z;simp only [sh,IS]at h;obtain⟨rfl,rfl⟩:=h;exact⟨_,X,.inl (A (X':=X) rfl (by omega) rfl),rfl,W,bS.ax,Ext.refl _ _,hB⟩
   ·split at h
    ·rename_i d;simp only [sh,IS]at h;obtain⟨rfl,rfl⟩:=h;have:=H (base:=ab) (l:=0) (cap:=0) (os:=[]) (cs:=[]) rfl (by omega) (by simpa using d) (by simp [Builtin.firstCells]) A2.nil (by simp);simpa using this
    ·simp at h
  ·
   cases (hx:bS σ X.F X.w .es ux);rename_i ad;split at h
   ·rename_i Z;subst Z;simp only [sh,IS]at h;obtain⟨rfl,rfl⟩:=h;have d8:vs=[]:=acH (by rw [←c4.len,c7];simp);exact⟨_,X,.inl (A (X':=X) rfl (by omega) (by rw [d8];rfl)),rfl,W,bS.es _,Ext.refl _ _,hB⟩
   ·split at h
    ·rename_i d;simp only [sh,IS]at h;obtain⟨rfl,rfl⟩:=h;have:=H (base:=aa ad) (l:=0) (cap:=0) (os:=[]) (cs:=[]) rfl (by omega) (by simpa using d) (by simp [Builtin.firstCells,loadCells,loadCellsFrom]) A2.nil (by simp);simpa using this
    ·simp at h
  ·rename_i b off l cap ep s;have d9:CR σ X (.sl b off l cap ep s) ux:=hx;simp only [VR,fX,CR,eK]at hx;split at h
   ·
    rename_i cs fl F;rw [F]at hx;obtain⟨L,hL,l9,rfl⟩:=hx;split at h
    ·rename_i q;split at h
     ·rename_i hc;simp only [sh,IS]at h;obtain⟨rfl,rfl⟩:=h;obtain⟨X',N,I,O,S,U,g6,g7⟩:=xe W F hL c4 hc.1 hc.2;refine⟨_,X',.inl (A rfl q (by simp only [oE,dB];exact N)),I,O,?_,S,by omega⟩;have b9:X'.H[b]?=aa (.box (over cs (off+l*sz) ys) fl):=by rw [I];simp [(If.1 F).1]
      simp only [VR,fX,CR,eK,b9];exact⟨L,by rw [U];exact hL,q,rfl⟩
     ·simp at h
    ·rename_i d5;split at h
     ·rename_i hc;simp only [sh,IS]at h;obtain⟨rfl,rfl⟩:=h;have d6:cW X.H sz (.sl b off l cap ep s)=aa ((cs.drop off).take (l*sz)):=by simp [cW,F,hc.2]
      have d7:bM X.H (.sl b off l cap ep s)=aa l:=by simp [bM,F]
      obtain⟨os,q1,q2,q3⟩:=jJ Y (CR.ext' σ d_ d9) d7 d6;have e_:A2 (CR σ X) ((cs.drop off).take (l*sz)) os:=by
       have b_:Ext X.H.length { X with w:=X.w.drew } X:=Ext.one Y X.H.length rfl (fun _ _=>Iff.rfl) (fun _ _ _=>rfl) (fun _ _ _ _=>rfl) (fun h=>absurd h (aec _))
        (fun _ _ _=>rfl) (fun _ _=>rfl) (fun L h=>.inl ⟨L,h,rfl⟩) (IT _) rfl rfl rfl
       exact A2.ext' σ (X:={ X with w:=X.w.drew }) b_ q2
      exact H rfl d5 hc.1 q1 e_ q3
     ·simp at h
   ·
    rename_i s' cs fl e' st F;rw [F]at hx;split at h
    ·rename_i hc;obtain⟨rfl,rfl,rfl⟩:=hc;have M:=hx.2.1 rfl rfl;split at h
     ·
      rename_i Z;subst Z;simp only [sh,IS]at h;obtain⟨rfl,rfl⟩:=h;have d8:vs=[]:=acH (by rw [←c4.len,c7];simp);obtain⟨base,n,cp,E⟩:=hx.2.2;have j8:n=l∧l≤cp:=by
       cases st with
       | loc=>obtain⟨L,_,k,_,hk,h8⟩:=M;rw [E]at h8;simp only [Value.slice.injEq]at h8;omega
       | nil=>obtain⟨_,rfl,h8⟩:=M;rw [E]at h8;simp only [Value.slice.injEq]at h8;omega
       | es=>obtain⟨_,rfl,_,h8⟩:=M;rw [E]at h8;simp only [Value.slice.injEq]at h8;omega
      obtain⟨rfl,l8⟩:=j8;refine⟨.slice base (n+0) cp,X,.inl (A (X':=X) E (by omega) (by rw [d8];cases base<;>rfl)),rfl,W,?_,Ext.refl _ _,hB⟩;rw [Nat.add_zero,←E];exact d9
     ·rename_i Z;split at h
      ·
       rename_i hc;obtain⟨rfl,z,f4⟩:=hc;split at h
       ·rename_i d;simp only [sh,IS]at h;obtain⟨rfl,rfl⟩:=h;have hn:cs.length+ys.length=(l+m)*s:=by rw [c7,←z,ac3]
        cases st with
        | loc=>
         obtain⟨L,hL,k,j7,hk,rfl⟩:=M;have f8:k=0:=by
          rcases aee.1 j7.symm with h8 | h8
          ·exact h8
          ·have:=ht.pos;omega
         subst f8;rw [Nat.sub_zero]at *;by_cases q:l+m≤L.cap
         ·obtain⟨X',N,I,O,S,U,g6,g7⟩:=WY W F hL c4 f4 hn q;exact⟨_,X',.inl (A rfl q (by simp only [oE,dB];rw [z,adt];exact N)),I,O,U,S,by omega⟩
         ·have d6:cW X.H s (.sl b 0 l cap ep s)=aa ((cs.drop 0).take (l*s)):=by simp [cW,F,z]
          have d7:bM X.H (.sl b 0 l cap ep s)=aa l:=by simp [bM,F]
          obtain⟨os,q1,q2,q3⟩:=jJ Y (CR.ext' σ d_ d9) d7 d6;have e_:A2 (CR σ X) cs os:=by
           have b_:Ext X.H.length { X with w:=X.w.drew } X:=Ext.one Y X.H.length rfl (fun _ _=>Iff.rfl) (fun _ _ _=>rfl) (fun _ _ _ _=>rfl) (fun h=>absurd h (aec _))
            (fun _ _ _=>rfl) (fun _ _=>rfl) (fun L h=>.inl ⟨L,h,rfl⟩) (IT _) rfl rfl rfl
           have:=A2.ext' σ (X:={ X with w:=X.w.drew }) b_ q2;rwa [ady,z,List.take_length]at this
          obtain⟨nc,rest,w',J,j,g,K⟩:=(gN ht o.type (base:=aa ⟨L.c,0,ab⟩) (l:=l) (cap:=L.cap) b7 b6).2 q d os a8 q1 c6;obtain⟨X',N,I,O,S,U,g6⟩:=tI W hB F e_ B ht.pos hn K J g;exact⟨_,X',.inl (by rw [N];exact a_ _ _ (by simpa using j)),I,O,U,S,g6⟩
        | nil=>
         obtain⟨_,rfl,rfl⟩:=M;have c_:cs=[]:=acH (by simpa using z.symm);subst c_;obtain⟨nc,rest,w',J,j,g,K⟩:=(gN ht o.type (base:=ab) (l:=0) (cap:=0) b7 b6).2 (by omega) d [] a8 (by simp [Builtin.firstCells]) c6;obtain⟨X',N,I,O,S,U,g6⟩:=tI W hB F (us:=[]) A2.nil B ht.pos hn K J g;exact⟨_,X',.inl (by rw [N];exact a_ _ _ j),I,O,U,S,g6⟩
        | es=>
         obtain⟨_,rfl,ad,rfl⟩:=M;have c_:cs=[]:=acH (by simpa using z.symm);subst c_;obtain⟨nc,rest,w',J,j,g,K⟩:=(gN ht o.type (base:=aa ad) (l:=0) (cap:=0) b7 b6).2 (by omega) d [] a8 (by simp [Builtin.firstCells,loadCells,loadCellsFrom]) c6;obtain⟨X',N,I,O,S,U,g6⟩:=tI W hB F (us:=[]) A2.nil B ht.pos hn K J g;exact⟨_,X',.inl (by rw [N];exact a_ _ _ j),I,O,U,S,g6⟩
       ·simp at h
      ·split at h
       ·
        rename_i hc;obtain⟨rfl,f7,j4⟩:=hc;simp only [sh,IS]at h;obtain⟨rfl,rfl⟩:=h;obtain⟨L,hL,k,rfl,hk,rfl⟩:=M;obtain⟨_,_,aS,c9,g_⟩:=W.br b L hL;rw [F]at c9;simp only [sh]at c9;subst c9;obtain⟨_,us,rest,hr,f_,h6,h7,h8,l7⟩:=g_;have q:l+m≤L.cap-k:=by
         have e1:(k+(l+m))*s≤L.cap*s:=by
          rw [ac3,ac3];have:=f_.len;simp only [acZ]at h6;omega
         have:=Nat.le_of_mul_le_mul_right e1 h7;omega
        obtain⟨X',N,I,O,S,U,g6,g7⟩:=xf W F hL c4 f7 j4;refine⟨_,X',.inl (A rfl q (by simp only [oE,dB];exact N)),I,O,?_,S,by omega⟩;have b9:X'.H[b]?=aa (.bA s (over cs (k*s+l*s) ys) fl ep .loc):=by rw [I];simp [(If.1 F).1]
        simp only [VR,fX,CR,eK,b9];exact⟨IT _,fun _ _=>⟨L,by rw [U];exact hL,k,rfl,by omega,rfl⟩,_,_,_,rfl⟩
       ·simp at h
    ·simp at h
   ·simp at h
  ·simp at h
 ·simp at hm
end
section
variable{Q:Program}{σ:Nat→FuncId}{X:Wd}
theorem yK{c:Call}{sz bytes:Nat}{zs:List FC}{x y:Arg}(h:dk Q σ c (.mF sz bytes zs x y)=ae):∃ u v t j e k,c.callee=.builtin .append∧c.args=#[u,v]∧c.argTypes=#[t,j]∧mA σ x u=ae∧mA σ y v=ae ∧
  Q.underlying t=aa (.slice e)∧cM Q e sz=ae∧kQ Q e bytes=ae∧0<sz∧jh Q e zs=ae∧Q.underlying j=aa (.int k):=by
 simp only [dk]at h;split at h
 ·rename_i u v t j q s z;simp only [BY]at h;obtain⟨⟨⟨E,F⟩,g⟩,d⟩:=h;obtain⟨e,B,g⟩:=fD g;simp only [BY,decide_eq_true_eq]at g;obtain⟨⟨⟨m,l⟩,b⟩,H⟩:=g;split at d
  ·rename_i k A;exact⟨u,v,t,j,e,k,q,O' s,O' z,E,F,B,m,l,b,H,A⟩
  ·simp at d
 ·simp at h
theorem L5{n:Nat}(h:n<2 ^ 48):IntKind.i64.wrap (n:Int)=n:=by
 simp only [IntKind.wrap,IntKind.bits,IntKind.signed];have b:(2 ^ 64:Int)=18446744073709551616:=by decide
 have d:(2 ^ (64-1):Int)=9223372036854775808:=by decide
 have g:(2:Nat) ^ 48=281474976710656:=by decide
 simp only [b,d,adl,decide_eq_true_eq];split<;>omega
theorem qS{t a e:TypeId}{sz bytes:Nat}{k k':IntKind}(f:Q.underlying t=aa (.slice e))(A:Q.underlying a=aa (.int k))(x:cM Q e sz=ae)(F:kQ Q e bytes=ae)(c:0<sz)
  {z:Value} {us:List Value} {i:TypeInfo} (I:Q.info? e=aa i) (hz:i.zero=aa z) (W:z.cells=us.toArray) (O:us.length=sz) (o:TypeId) {base:Option Addr} {n:Nat} {w:World} :
  (n=0→(Builtin.append_ #[t,a] o #[.slice base 0 0,.int k' (n:Int)]).run Q w=.ok (.slice base 0 0) w) ∧
  (n≠0→bB n bytes=ae→∃ nc rest w',n≤nc∧(Builtin.append_ #[t,a] o #[.slice base 0 0,.int k' (n:Int)]).run Q w=.ok (.slice (aa ⟨w.heap.size,0,ab⟩) n nc) w' ∧
   dp w w' (.cells (bX n us++rest).toArray e)∧rest.length=(nc-n)*sz):=by
 obtain⟨g,l,s⟩:=uE F w;have u:g=i:=by simp [typeInfo,I]at l;exact l.symm
 subst u;have y:∀ w',(typeInfo e).run Q w'=.ok g w':=fun w'=>by simp [typeInfo,I]
 have Z:∀ w',(zeroValue e).run Q w'=.ok z w':=fun w'=>by simp [zeroValue,typeInfo,I,hz]
 have j:∀(q:Int) w',(asInt (.int k' q)).run Q w'=.ok q w':=fun q w'=>by simp [asInt,asIntOf]
 constructor
 ·rintro rfl;have S:IntKind.i64.wrap 0=0:=by decide
  simp only [Builtin.append_,ad3];simp [aN f,aN A,cx x,y,j,S];cases base<;>simp [storeCells]
 ·intro hn b;have E:=b;unfold bB at b;simp only [BY,decide_eq_true_eq]at b;have U:=L5 b.2;have L:¬ (Builtin.nextslicecap n 0*g.bytes>2 ^ 48):=by
   rw [s];have:=qC (need:=n) (cap:=0) (by omega);have:=adi bytes this;omega
  let nc:=(Question.appendCap n 0 e).cut (w.tape w.drawn (.appendCap n 0 e))
  have M:n≤nc:=by simp [nc,Question.cut]
  have H:(choose (.appendCap n 0 e)).run Q w=.ok nc w.drew:=by
   simp [choose,Sem.run,Question.forced,nc]
  have Y:∀ m,Builtin.zeroCells z.cells m=(bX m us).toArray:=fun m=>by
   have:=fQ us m (by omega);simpa [Builtin.zeroCells,W]using this
  have v:¬ ((n:Int)>IntKind.i64.max):=by
   have:IntKind.i64.max=9223372036854775807:=by decide
   have e3:(2:Nat) ^ 48=281474976710656:=by decide
   rw [this];omega
  have J:¬ ((n:Int)<0):=by omega
  have K:¬ ((n:Int)*(g.bytes:Int)>2 ^ 48):=by
   rw [s];have p:n*bytes≤2 ^ 48:=acT (adi bytes (by omega:n≤2*n+768)) b.1;have r:((n*bytes:Nat):Int)≤2 ^ 48:=by
    have B:((2 ^ 48:Nat):Int)=2 ^ 48:=by decide
    rw [←B];exact Int.ofNat_le.2 p
   rw [aef]at r;omega
  have d:(Builtin.firstCells sz 0 (.slice base 0 0)).run Q w.drew=.ok #[] w.drew:=by
   cases base<;>simp [Builtin.firstCells,loadCells,loadCellsFrom]
  have N:¬ (n*sz=0):=by
   intro h;rcases aee.1 h with h | h<;>omega
  refine⟨nc,bX (nc-n) us,w.drew.alloc (.cells (bX n us++bX (nc-n) us).toArray e),M,?_,⟨rfl,rfl,rfl,rfl⟩,by rw [je,O]⟩;have X:¬ (n≤0):=by omega
  have hint:((n:Int)).toNat=n:=by simp
  simp only [Builtin.append_,Sem.run_bind,aN f,aN A,cx x,Result.andThen_ok,Sem.run_pure,acJ,if_false,Sem.run_ite,y,false_and,L,H,run_askRoom,
   Bool.not_true,if_true,Z,Y,newRow,run_newObj,ad3,adH,adW,j,U,J,K,hint,adt,X,v,N,d,true_or,and_true,Bool.true_eq]
  have B:#[]++(bX n us).toArray++(bX (nc-n) us).toArray=(bX n us++bX (nc-n) us).toArray:=by simp
  first
   | (rw [B];rfl)
   | (simp [B];rfl)
theorem O9(U:SR Q σ X)(S:X.B≤X.w.heap.size){a:Act}{al:T}(w:RR σ X al a.tmps){o:Oper}{sz bytes:Nat}{zs:List FC}{x y:Arg}(N:df Q σ o (.mF sz bytes zs x y)=ae){v:V}{H':aj}
  (h:aW al X.H (.mF sz bytes zs x y)=aa (v,H')):ft Q σ X v H' (execOp a.eval o):=by
 simp only [df]at N;split at N
 ·rename_i c ho;obtain⟨u,v',t,t',e,k,h1,h2,h3,J,L,f,F,s,g,hz,W⟩:=yK N;have J:=bj w J;have L:=bj w L;simp only [aW]at h;generalize i:a.eval u=O at J;generalize p:a.eval v'=uy at L;generalize x.ev al=vx at J h;generalize y.ev al=vy at L h;have l:∀(r:Value) (w':World),(Builtin.append_ #[t,t'] o.type #[O,uy]).run Q X.w=.ok r w'→(execOp a.eval o).run Q X.w=.ok (.value r) w':=by
   intro r w' hr;refine cY ho h1 fun cs=>?_;simp [builtin,h2,h3,i,p,hr]
  unfold zL at h;split at h
  ·rename_i n hn;obtain⟨k',E⟩:=gj L hn;split at h
   ·rename_i hc;obtain⟨z,us,a8,I,M,i0,A,B⟩:=dN (σ:=σ) (X:=X) hz X.w;have H:us.length=sz:=by have:=M.len;simp at this;omega
    obtain⟨m,rfl⟩:∃ m:Nat,n=m:=⟨n.toNat,by omega⟩
    have j:∀ base,O=.slice base 0 0→(v,H')=(.c (.sl X.H.length 0 m 0 0 sz),X.H++[.bA sz ((bX m zs).map .f) 0 0 .loc])→m≠0→bB m bytes=ae→ft Q σ X v H' (execOp a.eval o):=by
     intro base hb he d b;cases he;obtain⟨nc,rest,w',Y,K,q,Z⟩:=(qS (k':=k') f W F s g A B I H o.type (base:=base) (n:=m)).2 d b;obtain⟨X',g1,g2,g3,g4,g5,g6⟩:=Kd U S g (cs:=(bX m zs).map .f) (us:=bX m us) (gO M m) (n:=m) (nc:=nc) (by rw [ac1,je,hc.2]) Z Y q;exact⟨_,X',.inl (by rw [g1];exact l _ _ (by rw [hb,E];exact K)),g2,g3,g5,g4,g6⟩
    split at h
    ·cases (J:bS σ X.F X.w .ax O);simp only [adq]at h;split at h
     ·rename_i d;simp only [sh,IS]at h;obtain⟨rfl,rfl⟩:=h;exact⟨_,X,.inl (l _ _ (by rw [E];exact(qS (k':=k') f W F s g A B I H o.type (base:=ab) (n:=m)).1 d)),rfl,U,bS.ax,Ext.refl _ _,S⟩
     ·rename_i d;split at h
      ·rename_i b;simp only [sh]at h;exact j ab rfl h.symm d b
      ·simp at h
    ·cases (J:bS σ X.F X.w .es O);rename_i ad;simp only [adq]at h;split at h
     ·rename_i d;simp only [sh,IS]at h;obtain⟨rfl,rfl⟩:=h;exact⟨_,X,.inl (l _ _ (by rw [E];exact(qS (k':=k') f W F s g A B I H o.type (base:=aa ad) (n:=m)).1 d)),rfl,U,bS.es _,Ext.refl _ _,S⟩
     ·rename_i d;split at h
      ·rename_i b;simp only [sh]at h;exact j (aa ad) rfl h.symm d b
      ·simp at h
    ·simp at h
   ·simp at h
  ·simp at h
 ·simp at N
end
section
variable{Q:Program}{σ:Nat→FuncId}{X:Wd}
theorem We(s:SR Q σ X)(m:X.B≤X.w.heap.size){a:Act}{al:T}{o:Oper}{st:Os}{sz:Nat}(d:df Q σ o (.pre st sz)=ae){v:V}{H':aj}
  (h:aW al X.H (.pre st sz)=aa (v,H')):ft Q σ X v H' (execOp a.eval o):=by
 cases st with
 | nil=>
  simp only [aW]at h;split at h
  ·simp at h
  ·simp only [sh,IS]at h;obtain⟨rfl,rfl⟩:=h;obtain⟨j,l⟩:=SR.grow s (.bA sz [] 0 0 .nil);have q:VR σ { X with H:=X.H++[.bA sz [] 0 0 .nil] } (.c (.sl X.H.length 0 0 0 0 sz)) (.slice ab 0 0):=by
    have b:(X.H++[bK.bA sz [] 0 0 .nil])[X.H.length]?=aa (.bA sz [] 0 0 .nil):=by simp
    simp only [VR,fX,CR,eK,b];exact⟨IT _,fun _ _=>by simp,_,_,_,rfl⟩
   simp only [df]at d;split at d
   ·rename_i g;exact⟨.slice ab 0 0,_,.inl (by simp [execOp,g,Act.eval]),rfl,j,q,l,m⟩
   ·rename_i g;exact⟨.slice ab 0 0,_,.inl (by simp [execOp,g,Act.eval]),rfl,j,q,l,m⟩
   ·simp at d
 | _=>simp [df]at d
theorem Ka(u:SR Q σ X)(s:X.B≤X.w.heap.size){a:Act}{o:Oper}(b:df Q σ o .gW=ae):ft Q σ X (.c (.mp X.H.length)) (X.H++[.map []]) (execOp a.eval o):=by
 simp only [df]at b;split at b
 ·rename_i t v;obtain⟨X',g,d,j,l,m,q⟩:=SR.new u s (.map []) (dp.alloc X.w (.map #[] 0)) 0 fun X' z x y _=>⟨[],by rw [x];exact(dp.alloc _ _).new,A2.nil,by simp⟩
  exact⟨.map (aa X.w.heap.size),X',.inl (by rw [g];simp [execOp,v,Instr.makeMap]),d,j,⟨_,m,⟨[],by rw [d];simp⟩,rfl⟩,l,q⟩
 ·simp at b
theorem Ly(E:SR Q σ X)(A:X.B≤X.w.heap.size){a:Act}{al:T}(B:RR σ X al a.tmps){o:Oper}{x:Arg}(d:df Q σ o (.range x)=ae){v:V}{H':aj}
  (h:aW al X.H (.range x)=aa (v,H')):ft Q σ X v H' (execOp a.eval o):=by
 simp only [df]at d;split at d
 ·rename_i t y F;simp only [BY]at d;obtain⟨b,j⟩:=d;have b:=bj B b;simp only [aW]at h;split at h
  ·rename_i s H;rw [H]at b;have b:=VR.str b;simp only [sh,IS]at h;obtain⟨rfl,rfl⟩:=h;split at j
   ·rename_i I;obtain⟨X',l,g,m,q,u,z⟩:=SR.new E A (.it s 0) (dp.alloc X.w (.stringIter s 0)) 0 fun X' b J K _=>by
     show X'.w.heap[X.w.heap.size]?=_;rw [J];exact(dp.alloc _ _).new
    exact⟨.pointer (aa ⟨X.w.heap.size,0,ab⟩),X',.inl (by rw [l];simp [execOp,F,Instr.range,aN I,b]),g,m,⟨_,u,⟨s,0,by rw [g];simp⟩,rfl⟩,q,z⟩
   ·simp at j
  ·simp at h
 ·simp at d
theorem SR.nB(s:SR Q σ X){b:Nat}{aS blk':bK}{L:Loc}{o o':Obj}(x:X.H[b]?=aa aS)(q:X.bI b=aa L)(ho:X.w.heap[L.c]?=aa o)(m:∀ c e f,o≠.cells c e f)(j:∀ c e f,o'≠.cells c e f)
  (d:jN X { X with H:=X.H.set b blk',w:={ X.w with heap:=X.w.heap.setIfInBounds L.c o' } } b)
  (l:∀ X',Ext X.H.length X X'→X'.w.heap[L.c]?=aa o'→X'.F=X.F→X'.bI=X.bI→X'.H=X.H.set b blk'→BR Q σ X' blk' L) :
  SR Q σ { X with H:=X.H.set b blk',w:={ X.w with heap:=X.w.heap.setIfInBounds L.c o' } }∧Ext X.H.length X { X with H:=X.H.set b blk',w:={ X.w with heap:=X.w.heap.setIfInBounds L.c o' } }:=by
 have g:L.c<X.w.heap.size:=(s.br b L q).2.1;refine SR.turn s x q (by simp) (fun k y=>by simp [Array.getElem?_setIfInBounds_ne (Ne.symm y)]) (fun i _=>?_) rfl rfl rfl d (fun z=>l _ z (by simp [g]) rfl rfl rfl);have u:({ X.w with heap:=X.w.heap.setIfInBounds L.c o' }:World).cell? ⟨L.c,i,ab⟩=ab:=by
  simp only [World.cell?];rw [show(X.w.heap.setIfInBounds L.c o')[L.c]?=aa o' by simp [g]];cases o'<;>simp at j ⊢
 have v:X.w.cell? ⟨L.c,i,ab⟩=ab:=by
  simp only [World.cell?,ho];cases o<;>simp at m ⊢
 rw [u,v]
theorem P9(q:SR Q σ X)(A:X.B≤X.w.heap.size){a:Act}{al:T}(M:RR σ X al a.tmps){o:Oper}{x:Arg}(m:df Q σ o (.next x)=ae){v:V}{H':aj}
  (h:aW al X.H (.next x)=aa (v,H')):ft Q σ X v H' (execOp a.eval o):=by
 simp only [df]at m;split at m
 ·rename_i y E;have H:=bj M m;simp only [aW]at h;unfold Ae at h;split at h
  ·rename_i b O;rw [O]at H;obtain⟨L,B,⟨S,p0,N⟩,F⟩:=H;split at h
   ·rename_i s pos l;obtain⟨_,_,aS,j,u⟩:=q.br b L B;rw [l]at j;simp only [sh]at j;subst j;have g:X.w.heap[L.c]?=aa (.stringIter s pos):=u;split at h
    ·rename_i z;simp only [sh,IS]at h;obtain⟨rfl,rfl⟩:=h;obtain⟨I,J⟩:=SR.nB (o':=.stringIter s (pos+(Utf8.decode s pos).2)) (blk':=.it s (pos+(Utf8.decode s pos).2)) q l B g (by simp) (by simp)
      (fun aS d=>⟨.it s (pos+(Utf8.decode s pos).2),by simp [(If.1 l).1],by rw [l]at d;simp only [sh]at d;subst d;exact fun L h=>h⟩)
      (fun X' _ K _ _ _=>K)
     refine⟨.tuple #[.bool ae,.int .i64 pos,.int .i32 (Utf8.decode s pos).1],_,.inl ?_,rfl,I,⟨[.bool ae,.int .i64 pos,.int .i32 (Utf8.decode s pos).1],rfl,?_⟩,J,by simpa using A⟩
     ·simp only [execOp,E];refine dw ?_;simp [Instr.next,F,getObj,setObj,Sem.run,g,z,goInt]
     ·exact A2.cons (bS.bool _) (A2.cons (bS.int _ _) (A2.cons (bS.int _ _) A2.nil))
    ·rename_i z;simp only [sh,IS]at h;obtain⟨rfl,rfl⟩:=h;refine⟨.tuple #[.bool ag],X,.inl ?_,rfl,q,⟨[.bool ag],rfl,A2.cons (bS.bool _) A2.nil⟩,Ext.refl _ _,A⟩;simp only [execOp,E];refine dw ?_;simp [Instr.next,F,getObj,Sem.run,g,z]
   ·simp at h
  ·simp at h
 ·simp at m
theorem wm{s:CK}{d:TypeDesc}(z:(s=.int∧∃ j,d=.int j)∨(s=.str∧d=.string)∨(s=.bool∧d=.bool)){F:Nat→Nat→Prop}{w:World}{k:FC}{v:C}{x:Value}(B:bS σ F w k x) :
  ∀ {R:C→Value→Prop} {l g:List (FC × C)} {b:List MapEntry},A2 (fun e m=>bS σ F w e.1 m.key∧R e.2 m.val) l b→∀(i:Nat),sH s k v l=aa g →
  (Instr.findNow d x b i=aa ab∧g=l++[(k,v)])∨∃(j:Nat) (u:Value) (m:MapEntry),Instr.findNow d x b i=aa (aa (i+j,u))∧b[j]?=aa m∧Instr.sameNow d x m.key=aa ae∧g=l.set j (k,v)
 | _,[],g,[],_,i,h=>by
  simp only [sH,sh]at h;subst h;exact .inl ⟨rfl,rfl⟩
 | _,[],_,_::_,q,_,_=>by have:=q.len;simp at this
 | _,_::_,_,[],q,_,_=>by have:=q.len;simp at this
 | _,e::l,g,m::b,q,i,h=>by
  obtain⟨⟨H,N⟩,E⟩:=q.of_cons;simp only [sH]at h;split at h
  ·rename_i A;simp only [sh]at h;subst h;have:=qi z B H A;exact .inr ⟨0,m.val,m,by simp [Instr.findNow,this],rfl,this,rfl⟩
  ·rename_i A;simp only [IN]at h;obtain⟨I,J,rfl⟩:=h;have:=qi z B H A;rcases wm z B E (i+1) J with⟨y,rfl⟩ | ⟨j,u,M,y,K,L,rfl⟩
   ·exact .inl ⟨by simp [Instr.findNow,this,y],rfl⟩
   ·exact .inr ⟨j+1,u,M,by simp [Instr.findNow,this,y];omega,by simpa using K,L,rfl⟩
  ·simp at h
theorem wW{d:TypeDesc}{u v:Value}(h:Instr.sameNow d u v=aa ae)(n:Nat):Instr.sameBits n v u=ae:=by
 unfold Instr.sameNow at h;split at h
 ·split at h
  ·rename_i b;subst b;simp only [sh,beq_iff_eq]at h;subst h;simp [Instr.sameBits]
  ·simp at h
 ·simp only [sh,beq_toListBytes,beq_iff_eq]at h;simp [Instr.sameBits,beq_toListBytes,h]
 ·simp only [sh,beq_iff_eq]at h;subst h;simp [Instr.sameBits]
 ·simp at h
theorem XN{c:C}{u:Value}(h:VR σ X (mV c) u):fX σ X (mV c) u:=by
 cases c
 case cl f cs=>
  simp only [mV]at h ⊢;split at h
  ·rename_i b;rw [bf b];exact h
  ·rename_i b;rw [aU b];exact h
 all_goals exact h
theorem J5(hS:SR Q σ X)(hB:X.B≤X.w.heap.size){a:Act}{al:T}(hR:RR σ X al a.tmps){o:Oper}{ck:CK}{x y z:Arg}(E:df Q σ o (.iZ ck x y z)=ae){v:V}{H':aj}
  (h:aW al X.H (.iZ ck x y z)=aa (v,H')):ft Q σ X v H' (execOp a.eval o):=by
 simp only [df]at E;split at E
 ·rename_i t x' M Y ho;simp only [BY]at E;obtain⟨⟨⟨hx,K⟩,W⟩,ht⟩:=E;have hx:=bj hR hx;have K:=bj hR K;have W:=bj hR W;split at ht
  ·rename_i kt e hu;simp only [aW]at h;split at h
   ·rename_i b k vv b_ c8 d5;rw [b_]at hx;rw [c8]at K;rw [←J3 d5]at W;have W:fX σ X (mV vv) (a.eval Y):=XN W;obtain⟨L,hL,_,b9⟩:=hx;split at h
    ·rename_i es hb;split at h
     ·rename_i a_;simp only [IN,IS]at h;obtain⟨F,hp,rfl,rfl⟩:=h;obtain⟨_,_,aS,N,c6⟩:=hS.br b L hL;rw [hb]at N;simp only [sh]at N;subst N;obtain⟨q,I,h2,B⟩:=c6;have go:∀ d,Q.underlying kt=aa d→((ck=.int∧∃ j,d=.int j)∨(ck=.str∧d=.string)∨(ck=.bool∧d=.bool))→ft Q σ X .top (X.H.set b (.map F)) (execOp a.eval o):=by
       intro d A hd;have a8:∀(l:List MapEntry),(Instr.mapUpdate t (a.eval x') (a.eval M) (a.eval Y)).run Q X.w=.ok () { X.w with heap:=X.w.heap.setIfInBounds L.c (.map l.toArray l.length) } →
         A2 (fun(e:FC × C) (m:MapEntry)=>bS σ X.F X.w e.1 m.key∧fX σ X (mV e.2) m.val) F l→(∀(i:Nat) m,l[i]?=aa m→m.born=i)→ft Q σ X .top (X.H.set b (.map F)) (execOp a.eval o):=by
        intro l b7 hA c4;obtain⟨g1,g2⟩:=SR.nB (o':=.map l.toArray l.length) (blk':=.map F) hS hb hL I (by simp) (by simp)
         (fun aS H=>⟨.map F,by simp [(If.1 hb).1],by rw [hb]at H;simp only [sh]at H;subst H;exact fun L h=>h⟩)
         (fun X' U h1 hF _ _=>⟨l,h1,hA.jj fun e m h=>⟨bS.mono U.F U.fw h.1,fX.ext' σ U h.2⟩,c4⟩)
        exact⟨undef,_,.inr ⟨by simp [execOp,ho,b7],rfl⟩,rfl,g1,trivial,g2,by simpa using hB⟩
       rcases wm (R:=fun c u=>fX σ X (mV c) u) hd K h2 0 hp with⟨J,rfl⟩ | ⟨j,u,m,J,Z,h6,rfl⟩
       ·have O:A2 (fun(e:FC × C) (m:MapEntry)=>bS σ X.F X.w e.1 m.key∧fX σ X (mV e.2) m.val) [(k,vv)] [({ key:=a.eval M,val:=a.eval Y,born:=q.length }:MapEntry)]:=A2.cons (And.intro K W) A2.nil;refine a8 (q++[{ key:=a.eval M,val:=a.eval Y,born:=q.length }]) ?_ (h2.append O) ?_
        rotate_left
        ·intro i m E;by_cases hi:i<q.length
         ·rw [AT hi]at E;exact B i m E
         ·rw [List.getElem?_append_right (by omega)]at E;have c7:i-q.length=0:=by
           have:=(If.1 E).1;simp at this;omega
          rw [c7]at E;simp only [adH,sh]at E;subst E;simp only;omega
        simp [Instr.mapUpdate,aN hu,b9,getObj,setObj,Sem.run,I,fI ht K a_,Instr.findKey,aN A,J]
       ·rw [adt]at J;refine a8 (q.set j { m with key:=a.eval M,val:=a.eval Y }) ?_ ?_ ?_
        ·have c_:(Instr.keyThatStays m.key (a.eval M)).run Q X.w=.ok (a.eval M) X.w:=by
          simp [Instr.keyThatStays,wW h6 10000]
         have b6:q.modify j (fun e=>{ e with key:=a.eval M,val:=a.eval Y })=q.set j { m with key:=a.eval M,val:=a.eval Y }:=by
          apply List.ext_getElem?;intro i;simp only [List.getElem?_modify,ad4];by_cases s:j=i
          ·subst s;have S:=(If.1 Z).1;have c9:=(If.1 Z).2;simp [Z,S,c9]
          ·simp [s]
         simp [Instr.mapUpdate,aN hu,b9,getObj,setObj,Sem.run,I,fI ht K a_,Instr.findKey,aN A,J,Z,c_,b6]
        ·refine⟨by simpa using h2.len,fun i e' m' he g=>?_⟩;rw [ad4]at he g;split at he
         ·rename_i s;subst s;simp only [if_true]at g;have S:=(If.1 Z).1;have d6:=h2.len;rw [bf (by omega)]at he;rw [bf S]at g;simp only [sh]at he g;subst he;subst g;exact⟨K,W⟩
         ·rename_i s;rw [aU s]at g;exact h2.2 i e' m' he g
        ·intro i m' g;rw [ad4]at g;split at g
         ·rename_i s;subst s;split at g
          ·simp only [sh]at g;subst g;exact B j m Z
          ·simp at g
         ·exact B i m' g
      rcases jD ht with⟨J,j,A⟩ | ⟨J,A⟩ | ⟨J,A⟩
      ·exact go _ A (.inl ⟨J,j,rfl⟩)
      ·exact go _ A (.inr (.inl ⟨J,rfl⟩))
      ·exact go _ A (.inr (.inr ⟨J,rfl⟩))
     ·simp at h
    ·simp at h
   ·simp at h
  ·simp at ht
 ·simp at E
theorem wc{c:Call}{sz:Nat}{zs:List FC}{x:Arg}(h:dk Q σ c (.clear sz zs x)=ae):∃ y t e,c.callee=.builtin .clear∧c.args=#[y]∧c.argTypes=#[t]∧mA σ x y=ae∧Q.underlying t=aa (.slice e)∧cM Q e sz=ae∧jh Q e zs=ae:=by
 simp only [dk]at h;split at h
 ·rename_i y t d g j;simp only [BY]at h;obtain⟨m,b⟩:=h;obtain⟨e,l,b⟩:=fD b;simp only [BY]at b;exact⟨y,t,e,d,rB g,rB j,m,l,b.1,b.2⟩
 ·simp at h
theorem Js(hS:SR Q σ X)(hB:X.B≤X.w.heap.size){a:Act}{al:T}(hR:RR σ X al a.tmps){o:Oper}{sz:Nat}{zs:List FC}{x:Arg}(J:df Q σ o (.clear sz zs x)=ae){v:V}{H':aj}
  (h:aW al X.H (.clear sz zs x)=aa (v,H')):ft Q σ X v H' (execOp a.eval o):=by
 simp only [df]at J;split at J
 ·rename_i c Y;obtain⟨y,t,e,M,N,O,j,hu,b_,hz⟩:=wc J;have j:=bj hR j;simp only [aW,IN,IS]at h;obtain⟨H2,d,rfl,rfl⟩:=h;have done:VR σ X (.t []) (.tuple #[]):=⟨[],rfl,A2.nil⟩
  unfold lV at d;split at d
  ·rename_i p hp;rw [hp]at j;split at d
   ·rename_i U;simp only [sh]at d;subst d;obtain⟨ad,cp,g⟩:=jg j U;refine⟨.tuple #[],X,.inl (cY Y M fun cs=>?_),rfl,hS,done,Ext.refl _ _,hB⟩;cases ad<;>simp [builtin,N,O,Builtin.clear_,aN hu,g]
   ·rename_i l W U;obtain⟨ad,cp,g⟩:=jg j U;split at d
    ·rename_i b6;obtain⟨z,us,F,H,I,_⟩:=dN (σ:=σ) (X:=X) hz X.w;have c4:us.length=zs.length:=by have:=I.len;simp at this;omega
     have u:l≠0:=fun e=>W (by rw [e]);have key:∀(b o' A:Nat),(∃ q,CR σ X (.ptr b o' A) (.pointer (aa q))∧ad=aa q)→gD X.H (.ptr b o' A) ((bX l zs).map .f)=aa H2→ft Q σ X (.t []) H2 (execOp a.eval o):=by
      rintro b o' A ⟨q,hq,rfl⟩ Z;obtain⟨cc,off,X',g1,K,g3,g4,g5,g6,g7⟩:=LV hS hq (gO I l) Z;cases g1;by_cases b9:sz=0
      ·subst b9;have b7:zs=[]:=acH b6;have a8:us=[]:=acH (by omega);subst b7;subst a8;refine⟨.tuple #[],X',.inl (cY Y M fun cs=>?_),g3,g4,⟨[],rfl,A2.nil⟩,g5,by omega⟩;have hr:bX l ([]:List Value)=[]:=by simp [bX]
       rw [hr]at K;simp [builtin,N,O,Builtin.clear_,aN hu,g,u,F,H,Builtin.zeroCells];cases l with
       | zero=>exact absurd rfl u| succ l=>simp [K]
      ·have a_:Builtin.zeroCells z.cells l=(bX l us).toArray:=by
        have:=fQ us l (by omega);simpa [Builtin.zeroCells,H]using this
       refine⟨.tuple #[],X',.inl (cY Y M fun cs=>?_),g3,g4,⟨[],rfl,A2.nil⟩,g5,by omega⟩;simp [builtin,N,O,Builtin.clear_,aN hu,g,F,a_];cases l with
       | zero=>exact absurd rfl u| succ l=>simp [K]
     split at d
     ·rename_i b o' l' cap A s;simp only [VR,fX,CR,eK]at j;split at d
      ·rename_i cs fl B;rw [B]at j;obtain⟨L,S,_,m⟩:=j;rw [g]at m;simp only [Value.slice.injEq]at m;refine key b o' A ⟨⟨L.c,o',ab⟩,⟨L,S,by rw [B]⟩,m.1⟩ d
      ·rename_i s' cs fl e' B;split at d
       ·rename_i E;rw [B]at j;obtain⟨L,S,k,_,_,m⟩:=j.2.1 E.1 E.2;rw [g]at m;simp only [Value.slice.injEq]at m;refine key b o' A ⟨⟨L.c,o',ab⟩,⟨L,S,?_⟩,m.1⟩ d;rw [B];exact⟨j.1,fun _=>rfl,_,rfl⟩
       ·simp at d
      ·simp at d
     ·simp at d
    ·simp at d
   ·simp at d
  ·simp at d
 ·simp at J
theorem DH(B:SR Q σ X)(S:X.B≤X.w.heap.size){a:Act}{al:T}(U:RR σ X al a.tmps){o:Oper}{x:Arg}(l:df Q σ o (.ik x)=ae){v:V}{H':aj}
  (h:aW al X.H (.ik x)=aa (v,H')):ft Q σ X v H' (execOp a.eval o):=by
 simp only [df]at l;split at l
 ·rename_i t y Y;simp only [BY]at l;obtain⟨j,E⟩:=l;have j:=bj U j;simp only [aW]at h;unfold pD at h;split at h
  ·rename_i b c;rw [c]at j;obtain⟨L,A,_,Z⟩:=j;split at h
   ·rename_i u m;split at h
    ·rename_i p;simp only [sh,IS]at h;obtain⟨rfl,rfl⟩:=h;obtain⟨_,_,aS,g,q⟩:=B.br b L A;rw [m]at g;simp only [sh]at g;subst g;obtain⟨d,H,I,_⟩:=q;split at E
     ·rename_i kt e s;obtain⟨X',J,z,K,M,N,O⟩:=SR.new B S (.rk b u.length ag) (dp.alloc X.w (.mapIter (aa L.c) d.length #[] d.length)) 0 fun X' j f k n=>by
       obtain⟨blk',i,F⟩:=j.cC b (If.1 m).1 _ m;cases blk'<;>simp only at F;refine⟨L,#[],d.length,F L A,⟨_,i⟩,?_,rfl⟩;rw [I.len,f];exact(dp.alloc _ _).new
      refine⟨.pointer (aa ⟨X.w.heap.size,0,ab⟩),X',.inl ?_,z,K,⟨_,N,⟨b,u.length,ag,by rw [z];simp⟩,rfl⟩,M,O⟩;have W:(getObj L.c).run Q X.w=.ok (.map d.toArray d.length) X.w:=by simp [getObj,Sem.run,H]
      rw [J];simp [execOp,Y,Instr.range,aN s,Z,W]
     ·simp at E
    ·simp at h
   ·simp at h
  ·simp at h
 ·simp at l
theorem Kg(s:SR Q σ X)(N:X.B≤X.w.heap.size){a:Act}{al:T}(p:RR σ X al a.tmps){o:Oper}{x:Arg}(E:df Q σ o (.lG x)=ae){v:V}{H':aj}
  (h:aW al X.H (.lG x)=aa (v,H')):ft Q σ X v H' (execOp a.eval o):=by
 simp only [df]at E;split at E
 ·rename_i y S;have i:=bj p E;simp only [aW]at h;unfold tX at h;split at h
  ·rename_i b r;rw [r]at i;obtain⟨L,f,_,W⟩:=i;split at h
   ·rename_i m c done u;obtain⟨_,_,aS,d,l⟩:=s.br b L f;rw [u]at d;simp only [sh]at d;subst d;obtain⟨J,sn,st,M,_,B,q⟩:=l;split at h
    ·rename_i j;obtain⟨_,_,aS,d,l⟩:=s.br m J M;rw [j]at d;simp only [sh]at d;subst d;obtain⟨K,F,Z,_⟩:=l;have:K=[]:=acH Z.len.symm;subst this;split at h
     ·simp at h
     ·rename_i z;simp only [sh,IS]at h;obtain⟨rfl,rfl⟩:=h;simp only [z,acJ,if_false]at q;subst q;refine⟨.tuple #[.bool ag],X,.inl ?_,rfl,s,⟨[.bool ag],rfl,A2.cons (bS.bool _) A2.nil⟩,Ext.refl _ _,N⟩;simp only [execOp,S];refine dw ?_;simp [Instr.next,W,getObj,Sem.run,B,F,Result.andThen,choose,Question.forced]
    ·rename_i e j;obtain⟨H,F,Z,w,k⟩:=Ab s M j;split at h
     ·rename_i z;simp only [sh,IS]at h;obtain⟨rfl,rfl⟩:=h;simp only [z,if_true]at q;obtain⟨rfl,rfl⟩:=q;refine⟨.tuple #[.bool ag],X,.inl ?_,rfl,s,⟨[.bool ag],rfl,A2.cons (bS.bool _) A2.nil⟩,Ext.refl _ _,N⟩;simp only [execOp,S];refine dw ?_;simp [Instr.next,W,getObj,Sem.run,B,F,k,Result.andThen,choose,Question.forced]
     ·rename_i z;split at h
      ·rename_i U;subst U;simp only [sh,IS]at h;obtain⟨rfl,rfl⟩:=h;simp only [z,acJ,if_false]at q;subst q;obtain⟨q1,I⟩:=SR.nB (o':=.mapIter (aa J.c) 1 #[0] 1) (blk':=.rk m 1 ae) s u f B (by simp) (by simp)
        (fun aS g=>⟨.rk m 1 ae,by simp [(If.1 u).1],by rw [u]at g;simp only [sh]at g;subst g;exact⟨⟨rfl,rfl⟩,fun L h=>h⟩⟩)
        (fun X' t Y _ A n=>by
         have O:b≠m:=fun e=>by rw [e,j]at u;cases u
         exact⟨J,#[0],1,by rw [A];exact M,⟨_,by rw [n,AI O];exact j⟩,Y,rfl,rfl⟩)
       refine⟨.tuple #[.bool ae,H.key,H.val],_,.inl ?_,rfl,q1,?_,I,by simpa using N⟩
       ·simp only [execOp,S];refine dw ?_;simp [Instr.next,W,getObj,setObj,Sem.run,B,F,k,Result.andThen,choose,Question.forced]
       ·exact⟨[.bool ae,H.key,H.val],rfl,A2.cons (bS.bool _) (A2.cons (bS.mono I.F I.fw Z) (A2.cons (fX.ext' σ I w) A2.nil))⟩
      ·simp at h
    ·simp at h
   ·simp at h
  ·simp at h
 ·simp at E
end
section
variable{Q:Program}{σ:Nat→FuncId}{X:Wd}
def cG(a b:bK):Prop:=
 match a with
 | .box cs fl=>(match b with
  | .box cs' d=>cs=cs'∧fl≤d
  | _=>False)
 | .bA s cs fl e st=>(match b with
  | .bA s' cs' d j g=>s=s'∧cs=cs'∧fl≤d∧e=j∧st=g
  | _=>False)
 | a=>a=b
theorem cG.refl(a:bK):cG a a:=by cases a<;>simp [cG]
theorem cG.trans{a b c:bK}(h:cG a b)(k:cG b c):cG a c:=by
 cases a<;>cases b<;>simp only [cG,reduceCtorEq]at h<;>cases c<;>simp only [cG,reduceCtorEq]at k ⊢
 ·exact⟨h.1.trans k.1,acT h.2 k.2⟩
 ·exact⟨h.1.trans k.1,h.2.1.trans k.2.1,acT h.2.2.1 k.2.2.1,h.2.2.2.1.trans k.2.2.2.1,h.2.2.2.2.trans k.2.2.2.2⟩
 all_goals exact h.trans k
def eY(H H':aj):Prop:=H.length=H'.length∧∀(b:Nat) aS blk',H[b]?=aa aS→H'[b]?=aa blk'→cG aS blk'
theorem eY.refl(H:aj):eY H H:=⟨rfl,fun b aS blk' h d=>by rw [h]at d;cases d;exact cG.refl _⟩
theorem eY.get{H H':aj}(h:eY H H'){b:Nat}{aS:bK}(g:H[b]?=aa aS):∃ blk',H'[b]?=aa blk'∧cG aS blk':=by
 have j:=(If.1 g).1;have d:b<H'.length:=by have:=h.1;omega
 exact⟨_,By d,h.2 b _ _ g (By d)⟩
theorem eY.trans{A B C:aj}(h:eY A B)(k:eY B C):eY A C:=
 ⟨h.1.trans k.1,fun b x z g j=>by obtain⟨y,hy,d⟩:=h.get g;exact d.trans (k.2 b y z hy j)⟩
theorem eY.none{H H':aj}(h:eY H H'){b:Nat}(d:H[b]?=ab):H'[b]?=ab:=by
 rw [adC]at d ⊢;have:=h.1;omega
theorem eY.set{H:aj}{b:Nat}{aS blk':bK}(g:H[b]?=aa aS)(h:cG aS blk'):eY H (H.set b blk'):=by
 have l:=(If.1 g).1;refine⟨by simp,fun i x y d hy=>?_⟩;by_cases j:i=b
 ·subst j;simp only [ad4,if_true,l]at hy;rw [g]at d;cases d;cases hy;exact h
 ·rw [AI (Ne.symm j)]at hy;rw [d]at hy;cases hy;exact cG.refl _
theorem eY.foldl{f:aj→C→aj}(b:∀ H x,eY H (f H x)):∀(xs:List C) (H:aj),eY H (xs.foldl f H)
 | [],H=>eY.refl H| x::xs,H=>(b H x).trans (eY.foldl b xs (f H x))
theorem ie:∀(n:Nat) (x:C) (H:aj),eY H (lW n x H)
 | n,.f _,H=>by cases n<;>exact eY.refl H
 | 0,.ptr _ _ _,H=>eY.refl H| 0,.sl _ _ _ _ _ _,H=>eY.refl H| 0,.cl _ _,H=>eY.refl H| 0,.yl _,H=>eY.refl H| 0,.mp _,H=>eY.refl H| 0,.it _,H=>eY.refl H| 0,.bm _ _,H=>eY.refl H| 0,.mi _,H=>eY.refl H
 | n+1,.ptr b off j,H=>by
  simp only [lW];split
  ·rename_i cs fl d;exact(eY.set d (by exact⟨rfl,acV _ _⟩)).trans (eY.foldl (fun H x=>ie n x H) _ _)
  ·exact eY.refl H
 | n+1,.sl b o l c j sz,H=>by
  simp only [lW];split
  ·rename_i cs fl d;exact(eY.set d (by exact⟨rfl,acV _ _⟩)).trans (eY.foldl (fun H x=>ie n x H) _ _)
  ·rename_i s cs fl e st d;exact(eY.set d (by exact⟨rfl,rfl,acV _ _,rfl,rfl⟩)).trans (eY.foldl (fun H x=>ie n x H) _ _)
  ·exact eY.refl H
 | n+1,.cl f g,H=>eY.foldl (fun H x=>ie n x H) _ _
 | n+1,.yl _,H=>eY.refl H| n+1,.mp _,H=>eY.refl H| n+1,.it _,H=>eY.refl H| n+1,.bm _ _,H=>eY.refl H| n+1,.mi _,H=>eY.refl H
theorem eb{b j:Type}{f g:b→Option j}:∀ {xs:List b},(∀ x ∈ xs,f x=g x)→aY f xs=aY g xs
 | [],_=>rfl| x::xs,h=>by rw [aY,aY,h x (by simp),eb (xs:=xs) (fun y d=>h y (List.mem_cons_of_mem _ d))]
theorem ku:∀(n:Nat) {H H':aj},eY H H'→∀(x:C),dI n H' x=dI n H x
 | n,H,H',h,.f _=>by cases n<;>rfl
 | 0,H,H',h,.ptr _ _ _=>rfl| 0,H,H',h,.sl _ _ _ _ _ _=>rfl| 0,H,H',h,.cl _ _=>rfl| 0,H,H',h,.yl _=>rfl| 0,H,H',h,.mp _=>rfl| 0,H,H',h,.it _=>rfl| 0,H,H',h,.bm _ _=>rfl| 0,H,H',h,.mi _=>rfl
 | n+1,H,H',h,.ptr b off s=>by
  simp only [dI];cases m:H[b]? with
  | none=>rw [h.none m]
  | some aS=>
   obtain⟨blk',d,j⟩:=h.get m;rw [d];cases aS<;>cases blk'<;>simp only [cG,reduceCtorEq]at j
   ·obtain⟨rfl,_⟩:=j;simp only [eb (g:=dI n H) fun x _=>ku n h x]
   all_goals rfl
 | n+1,H,H',h,.sl b o l c s sz=>by
  simp only [dI];cases m:H[b]? with
  | none=>rw [h.none m]
  | some aS=>
   obtain⟨blk',d,j⟩:=h.get m;rw [d];cases aS<;>cases blk'<;>simp only [cG,reduceCtorEq]at j
   ·obtain⟨rfl,_⟩:=j;simp only [eb (g:=dI n H) fun x _=>ku n h x]
   ·obtain⟨rfl,rfl,u,rfl,rfl⟩:=j;clear u;rename_i st _;cases st<;>simp only [eb (g:=dI n H) fun x _=>ku n h x]
   all_goals rfl
 | n+1,H,H',h,.cl f q=>by simp only [dI,eb (g:=dI n H) fun x _=>ku n h x]
 | n+1,H,H',h,.yl _=>rfl| n+1,H,H',h,.mp _=>rfl| n+1,H,H',h,.it _=>rfl| n+1,H,H',h,.bm _ _=>rfl| n+1,H,H',h,.mi _=>rfl
def c0:Nat→aj→C→Prop
 | _,_,.f _=>True| 0,_,_=>True| n+1,H,.ptr b _ _=>∀ cs fl,H[b]?=aa (.box cs fl)→cs.length≤fl∧∀ x ∈ cs,c0 n H x
 | n+1,H,.sl b o l _ _ sz=>∀ aS,H[b]?=aa aS→match aS with
  | .box cs fl=>o+l*sz≤fl∧∀ x ∈ (cs.drop o).take (l*sz),c0 n H x| .bA _ cs fl _ .loc=>o+l*sz≤fl∧∀ x ∈ (cs.drop o).take (l*sz),c0 n H x| _=>True
 | n+1,H,.cl _ d=>∀ x ∈ d,c0 n H x| _,_,_=>True
theorem c0.le:∀(n:Nat) {H H':aj},eY H H'→∀ {x:C},c0 n H x→c0 n H' x
 | n,H,H',h,.f _,_=>by cases n<;>trivial
 | 0,H,H',h,.ptr _ _ _,_=>trivial| 0,H,H',h,.sl _ _ _ _ _ _,_=>trivial| 0,H,H',h,.cl _ _,_=>trivial| 0,H,H',h,.yl _,_=>trivial| 0,H,H',h,.mp _,_=>trivial| 0,H,H',h,.it _,_=>trivial| 0,H,H',h,.bm _ _,_=>trivial| 0,H,H',h,.mi _,_=>trivial
 | n+1,H,H',h,.ptr b off A,v=>by
  intro cs fl m;have y:=(If.1 m).1;have s:b<H.length:=by have:=h.1;omega
  have d:=h.2 b _ _ (By s) m;cases g:H[b]<;>rw [g]at d<;>simp only [cG,reduceCtorEq]at d;obtain⟨rfl,q⟩:=d;obtain⟨B,E⟩:=v _ _ (by rw [By s,g]);exact⟨acT B q,fun x u=>c0.le n h (E x u)⟩
 | n+1,H,H',h,.sl b o l c A sz,v=>by
  intro blk' m;have y:=(If.1 m).1;have s:b<H.length:=by have:=h.1;omega
  have d:=h.2 b _ _ (By s) m;have j:=v _ (By s);cases g:H[b]<;>rw [g]at d j<;>cases blk'<;>simp only [cG,reduceCtorEq]at d<;>try simp only
  ·obtain⟨rfl,q⟩:=d;exact⟨acT j.1 q,fun x u=>c0.le n h (j.2 x u)⟩
  ·obtain⟨rfl,rfl,q,rfl,rfl⟩:=d;rename_i st _;cases st<;>simp only at j ⊢;exact⟨acT j.1 q,fun x u=>c0.le n h (j.2 x u)⟩
 | n+1,H,H',h,.cl f z,v=>fun x u=>c0.le n h (v x u)
 | n+1,H,H',h,.yl _,_=>trivial| n+1,H,H',h,.mp _,_=>trivial| n+1,H,H',h,.it _,_=>trivial| n+1,H,H',h,.bm _ _,_=>trivial| n+1,H,H',h,.mi _,_=>trivial
theorem eh{n:Nat}(b:∀(x:C) (H:aj),c0 n (lW n x H) x):∀(xs:List C) (H:aj),∀ x ∈ xs,c0 n (xs.foldl (fun H x=>lW n x H) H) x
 | y::ys,H,x,d=>by
  simp only [adY];rcases ac2.1 d with rfl | d
  ·exact c0.le n (eY.foldl (fun H x=>ie n x H) ys _) (b x H)
  ·exact eh b ys _ x d
theorem fv:∀(n:Nat) (x:C) (H:aj),c0 n (lW n x H) x
 | n,.f _,H=>by cases n<;>trivial
 | 0,.ptr _ _ _,H=>trivial| 0,.sl _ _ _ _ _ _,H=>trivial| 0,.cl _ _,H=>trivial| 0,.yl _,H=>trivial| 0,.mp _,H=>trivial| 0,.it _,H=>trivial| 0,.bm _ _,H=>trivial| 0,.mi _,H=>trivial
 | n+1,.ptr b off F,H=>by
  simp only [lW];cases u:H[b]? with
  | none=>intro cs fl h;exfalso;simp only at h;exact absurd (u.symm.trans h) (by simp)
  | some aS=>
   cases aS with
   | box d g=>
    intro cs fl h;have s:=(If.1 u).1;simp only at h ⊢;have z:=eY.foldl (fun H x=>ie n x H) d (H.set b (.box d (Nat.max g d.length)));obtain⟨blk',j,m⟩:=z.get (b:=b) (aS:=.box d (Nat.max g d.length)) (by simp [s]);rw [h]at j;cases j;obtain⟨rfl,q⟩:=m;exact⟨acT (acQ _ _) q,fun x v=>eh (fun x H=>fv n x H) _ _ x v⟩
   | _=>intro cs fl h;simp only at h;rw [u]at h;cases h
 | n+1,.sl b o l c F sz,H=>by
  simp only [lW];cases u:H[b]? with
  | none=>intro aS h;exfalso;simp only at h;exact absurd (u.symm.trans h) (by simp)
  | some aS=>
   have s:=(If.1 u).1;cases aS with
   | box d g=>
    intro aS h;simp only at h ⊢;have z:=eY.foldl (fun H x=>ie n x H) ((d.drop o).take (l*sz)) (H.set b (.box d (Nat.max g (o+l*sz))));obtain⟨blk',j,m⟩:=z.get (b:=b) (aS:=.box d (Nat.max g (o+l*sz))) (by simp [s]);rw [h]at j;cases j;cases aS<;>simp only [cG,reduceCtorEq]at m;obtain⟨rfl,q⟩:=m;exact⟨acT (acQ _ _) q,fun x v=>eh (fun x H=>fv n x H) _ _ x v⟩
   | bA E d g B y=>
    intro aS h;simp only at h ⊢;have z:=eY.foldl (fun H x=>ie n x H) ((d.drop o).take (l*sz)) (H.set b (.bA E d (Nat.max g (o+l*sz)) B y));obtain⟨blk',j,m⟩:=z.get (b:=b) (aS:=.bA E d (Nat.max g (o+l*sz)) B y) (by simp [s]);rw [h]at j;cases j;cases aS<;>simp only [cG,reduceCtorEq]at m;obtain⟨rfl,rfl,q,rfl,rfl⟩:=m;cases y<;>simp only;exact⟨acT (acQ _ _) q,fun x v=>eh (fun x H=>fv n x H) _ _ x v⟩
   | _=>intro aS h;simp only at h;rw [u]at h;cases h;simp
 | n+1,.cl f A,H=>fun x v=>eh (fun x H=>fv n x H) _ _ x v
 | n+1,.yl _,H=>trivial| n+1,.mp _,H=>trivial| n+1,.it _,H=>trivial| n+1,.bm _ _,H=>trivial| n+1,.mi _,H=>trivial
end
section
variable{Q:Program}{σ:Nat→FuncId}{X:Wd}
def cA(H H':aj):Prop:=∀(b:Nat) aS,H[b]?=aa aS→∃ blk',H'[b]?=aa blk'∧cG aS blk'
theorem cA.refl(H:aj):cA H H:=fun _ aS h=>⟨aS,h,cG.refl _⟩
theorem cA.trans{A B C:aj}(h:cA A B)(k:cA B C):cA A C:=fun b x j=>by
 obtain⟨y,hy,d⟩:=h b x j;obtain⟨z,l,g⟩:=k b y hy;exact⟨z,l,d.trans g⟩
theorem eY.ext{H H':aj}(h:eY H H'):cA H H':=fun _ _ b=>h.get b
theorem cA.append(H H':aj):cA H (H++H'):=fun b aS d=>⟨aS,by rw [AT (If.1 d).1];exact d,cG.refl _⟩
theorem cA.len{H H':aj}(h:cA H H'):H.length≤H'.length:=by
 rcases ac6 H'.length H.length with d | b
 ·obtain⟨y,hy,_⟩:=h H'.length _ (By d);have:=(If.1 hy).1;omega
 ·exact b
theorem SR.ahead(l:SR Q σ X){H':aj}(h:cA X.H H'):SR Q σ { X with H:=H' }∧Ext X.H.length X { X with H:=H' }:=by
 have v:Ext X.H.length X { X with H:=H' }:=
  {B:=rfl,F:=fun _ _ h=>h,mB:=fun _ _ h=>.inl h,fw:=fun _ _ _=>rfl
   cC:=fun b _ aS m=>by
    obtain⟨blk',q,d⟩:=h b aS m;refine⟨blk',q,?_⟩;cases aS<;>cases blk'<;>simp only [cG,reduceCtorEq]at d<;>simp_all
   sA:=fun b L h=>.inl ⟨b,L,h,rfl⟩,size:=IT _,os:=rfl,tape:=rfl,output:=rfl,frame:=fun _ _ _=>rfl }
 refine⟨⟨fun b L m=>?_,l.inj,l.fb⟩,v⟩;obtain⟨z,A,aS,E,I⟩:=l.br b L m;obtain⟨blk',J,g⟩:=h b aS E;refine⟨z,A,blk',J,?_⟩;have j:BR Q σ { X with H:=H' } aS L:=BR.ext Q σ v rfl (fun _ h=>h) I;cases aS<;>cases blk'<;>simp only [cG,reduceCtorEq]at g
 ·obtain⟨rfl,d⟩:=g;obtain⟨us,g1,g2,g3⟩:=j;exact⟨us,g1,g2,fun i s=>g3 i (acT d s)⟩
 ·obtain⟨rfl,rfl,d,rfl,rfl⟩:=g;obtain⟨u,us,rest,g1,g2,g3,g4,x,y⟩:=j;exact⟨u,us,rest,g1,g2,g3,g4,x,fun i s=>y i (acT d s)⟩
 all_goals (rw [←g];exact j)
def tE:bK→Nat→Prop
 | .box cs fl,i=>i<fl∧i<cs.length| .bA _ cs fl _ _,i=>i<fl∧i<cs.length| _,_=>False
def FL(X:Wd):Prop:=∀ b L i aS,X.bI b=aa L→X.H[b]?=aa aS→tE aS i→X.F L.c i
def Wd.flag(X:Wd):Wd:={ X with F:=fun c i=>X.F c i∨∃ b L aS,X.bI b=aa L∧L.c=c∧X.H[b]?=aa aS∧tE aS i }
theorem SR.flag(v:SR Q σ X):SR Q σ X.flag∧Ext X.H.length X X.flag∧FL X.flag:=by
 have g:Ext X.H.length X X.flag:=
  {B:=rfl,F:=fun _ _ h=>.inl h
   mB:=fun c i h=>by
    rcases h with h | ⟨b,L,aS,j,l,_⟩
    ·exact .inl h
    ·exact .inr (.inr ⟨b,L,j,l⟩)
   fw:=fun _ _ _=>rfl
   cC:=fun b _=>by
    intro aS y;refine⟨aS,y,?_⟩;cases aS<;>simp [Wd.flag]
   sA:=fun b L h=>.inl ⟨b,L,h,rfl⟩,size:=IT _,os:=rfl,tape:=rfl,output:=rfl,frame:=fun _ _ _=>rfl }
 refine⟨⟨fun b L y=>?_,v.inj,fun c i h=>?_⟩,g,fun b L i aS j l x=>.inr ⟨b,L,aS,j,rfl,l,x⟩⟩
 ·obtain⟨j,l,aS,x,u⟩:=v.br b L y;refine⟨j,l,aS,x,?_⟩;have key:∀ i,X.flag.F L.c i→X.F L.c i∨tE aS i:=by
   rintro i (h | ⟨H,K,blk',g1,g2,g3,g4⟩)
   ·exact .inl h
   ·have:H=b:=v.inj _ _ _ _ g1 y g2;subst this;rw [x]at g3;cases g3;exact .inr g4
  cases aS with
  | box cs fl=>
   obtain⟨us,g1,g2,g3⟩:=u;exact⟨us,g1,A2.ext' σ g g2,fun i A z=>(key i z).elim (g3 i A) fun h=>by have:=h.1;omega⟩
  | bA sz cs fl M st=>
   obtain⟨E,us,rest,g1,g2,g3,g4,I,J⟩:=u;exact⟨E,us,rest,g1,A2.ext' σ g g2,g3,g4,I,fun i A z=>(key i z).elim (J i A) fun h=>by have:=h.1;omega⟩
  | map es=>exact BR.ext Q σ g rfl (fun i h=>(key i h).elim id False.elim) u
  | it s p=>exact BR.ext Q σ g rfl (fun i h=>(key i h).elim id False.elim) u
  | fk b=>exact BR.ext Q σ g rfl (fun i h=>(key i h).elim id False.elim) u
  | rk m s d=>exact BR.ext Q σ g rfl (fun i h=>(key i h).elim id False.elim) u
  | lp f t p a c st q d=>exact BR.ext Q σ g rfl (fun i h=>(key i h).elim id False.elim) u
 ·rcases h with h | ⟨b,L,aS,j,l,_⟩
  ·exact v.fb c i h
  ·rw [←l];exact(v.br b L j).2.1
theorem eG{d g:Type}{f:d→Option g}:∀ {xs:List d} {ys:List g},aY f xs=aa ys→A2 (fun x y=>f x=aa y) xs ys
 | [],ys,h=>by simp only [aY,sh]at h;subst h;exact A2.nil
 | x::xs,ys,h=>by
  simp only [aY]at h;split at h
  ·simp at h
  ·rename_i y j;split at h
   ·simp at h
   ·rename_i l b;simp only [sh]at h;subst h;exact A2.cons j (eG b)
theorem Xb(hS:SR Q σ X)(hF:FL X){H:aj}(Y:cA H X.H):∀(n:Nat) {x:C} {y:FC} {v:Value},dI n H x=aa y→c0 n H x→CR σ X x v→bS σ X.F X.w y v
 | n,.f x,y,v,d,_,B=>by
  have:dI n H (.f x)=aa x:=by cases n<;>rfl
  rw [this]at d;cases d;exact B
 | 0,.ptr _ _ _,y,v,d,_,_=>by simp [dI]at d
 | 0,.sl _ _ _ _ _ _,y,v,d,_,_=>by simp [dI]at d
 | 0,.cl _ _,y,v,d,_,_=>by simp [dI]at d
 | 0,.yl _,y,v,d,_,_=>by simp [dI]at d
 | 0,.mp _,y,v,d,_,_=>by simp [dI]at d
 | 0,.it _,y,v,d,_,_=>by simp [dI]at d
 | 0,.bm _ _,y,v,d,_,_=>by simp [dI]at d
 | 0,.mi _,y,v,d,_,_=>by simp [dI]at d
 | n+1,.ptr b off ep,y,v,d,hm,B=>by
  simp only [dI]at d;split at d
  ·rename_i cs fl K;simp only [IN]at d;obtain⟨ys,g,rfl⟩:=d;obtain⟨O,I⟩:=hm cs fl K;obtain⟨blk',m,j⟩:=Y b _ K;cases blk'<;>simp only [cG,reduceCtorEq]at j;obtain⟨rfl,j⟩:=j;rename_i W;obtain⟨L,U,B⟩:=B;simp only [m]at B;subst B;obtain⟨_,_,aS,E,N⟩:=hS.br b L U;rw [m]at E;cases E;obtain⟨us,A,z,_⟩:=N;have g:=eG g;have:=bS.fp (σ:=σ) (F:=X.F) (w:=X.w) ys off L.c 0 us (by rw [←z.len,g.len])
    (fun i M=>by rw [adt];exact hF b L i _ U m ⟨by have:=g.len;omega,by have:=g.len;omega⟩)
    (fun i u S=>by rw [adt,dq A];exact S)
    (fun i y u hy S=>by
     have M:i<cs.length:=by rw [g.len];exact(If.1 hy).1
     have Z:=By M;exact Xb hS hF Y n (g.2 i _ _ Z hy) (I _ (acE M)) (z.2 i _ _ Z S))
   rw [adt]at this;exact this
  ·simp at d
 | n+1,.sl b o l c ep sz,y,v,d,hm,B=>by
  have key:∀(cs:List C) (fl:Nat) (blk':bK) (L:Loc) (us rest:List Value) (ys:List FC) (cap:Nat),o+l*sz≤cs.length→o+l*sz≤fl →
    (∀ i,i<fl→i<cs.length→tE blk' i)→X.H[b]?=aa blk'→X.bI b=aa L→rowAt X.w L.c (us++rest)→A2 (CR σ X) cs us →
    (∀ x ∈ (cs.drop o).take (l*sz),c0 n H x)→aY (dI n H) ((cs.drop o).take (l*sz))=aa ys→l≤cap→bS σ X.F X.w (.fs ys l) (.slice (aa ⟨L.c,o,ab⟩) l cap):=by
   intro cs fl blk' L us rest ys cap q O a8 m U A z I g J;have g:=eG g;have b9:=z.len;have b7:ys.length=l*sz:=by rw [←g.len];simp;omega
   have b6:=(z.drop o).take (l*sz);refine .fs ys l L.c o cap ((us.drop o).take (l*sz)) J (by rw [b7];simp;omega) (fun i M=>hF b L _ _ U m (a8 _ (by omega) (by omega))) (fun i u S=>?_) (fun i y u hy S=>?_)
   ·have M:i<l*sz:=by
     have:=(If.1 S).1;simp at this;omega
    rw [dq A,AT (by omega)];rw [List.getElem?_take_of_lt M,acO]at S;exact S
   ·have M:i<((cs.drop o).take (l*sz)).length:=by rw [g.len];exact(If.1 hy).1
    have Z:=By M;exact Xb hS hF Y n (g.2 i _ _ Z hy) (I _ (acE M)) (b6.2 i _ _ Z S)
  simp only [dI]at d;simp only [CR,eK]at B;split at d
  ·rename_i cs fl K;split at d
   ·rename_i q;simp only [IN]at d;obtain⟨ys,g,rfl⟩:=d;obtain⟨O,I⟩:=hm _ K;obtain⟨blk',m,j⟩:=Y b _ K;cases blk'<;>simp only [cG,reduceCtorEq]at j;obtain⟨rfl,j⟩:=j;rename_i W;simp only [m]at B;obtain⟨L,U,J,rfl⟩:=B;obtain⟨_,_,aS,E,N⟩:=hS.br b L U;rw [m]at E;cases E;obtain⟨us,A,z,_⟩:=N;exact key cs fl (.box cs W) L us [] ys c q O (fun i h1 h2=>⟨by omega,h2⟩) m U (by simpa using A) z I g J
   ·simp at d
  ·rename_i s cs fl e K;split at d
   ·rename_i q;obtain⟨rfl,rfl,q⟩:=q;simp only [IN]at d;obtain⟨ys,g,rfl⟩:=d;obtain⟨O,I⟩:=hm _ K;obtain⟨blk',m,j⟩:=Y b _ K;cases blk'<;>simp only [cG,reduceCtorEq]at j;obtain⟨rfl,rfl,j,rfl,rfl⟩:=j;rename_i W;simp only [m]at B;obtain⟨L,U,k,ho,J,rfl⟩:=B.2.1 trivial trivial;obtain⟨_,_,aS,E,N⟩:=hS.br b L U;rw [m]at E;cases E;obtain⟨_,us,rest,A,z,_⟩:=N;exact key cs fl (.bA sz cs W ep .loc) L us rest ys _ q O (fun i h1 h2=>⟨by omega,h2⟩) m U A z I g (by omega)
   ·simp at d
  ·rename_i s cs fl e K;split at d
   ·rename_i q;obtain⟨rfl,rfl⟩:=q;cases d;obtain⟨blk',m,j⟩:=Y b _ K;cases blk'<;>simp only [cG,reduceCtorEq]at j;obtain⟨rfl,rfl,j,rfl,rfl⟩:=j;simp only [m]at B;obtain⟨_,_,rfl⟩:=B.2.1 trivial trivial;exact .ax
   ·simp at d
  ·rename_i s cs fl e K;split at d
   ·rename_i q;obtain⟨rfl,rfl⟩:=q;cases d;obtain⟨blk',m,j⟩:=Y b _ K;cases blk'<;>simp only [cG,reduceCtorEq]at j;obtain⟨rfl,rfl,j,rfl,rfl⟩:=j;simp only [m]at B;obtain⟨_,_,a,rfl⟩:=B.2.1 trivial trivial;exact .es a
   ·simp at d
  ·simp at d
 | n+1,.cl f a_,y,v,d,hm,B=>by
  simp only [dI,IN]at d;obtain⟨ys,g,rfl⟩:=d;obtain⟨us,rfl,z⟩:=B;have g:=eG g;refine .fn f ys us (by rw [←z.len,g.len]) fun i y u hy S=>?_;have M:i<a_.length:=by rw [g.len];exact(If.1 hy).1
  have Z:=By M;exact Xb hS hF Y n (g.2 i _ _ Z hy) (hm _ (acE M)) (CR.Me σ (z.2 i _ _ Z S))
 | n+1,.yl _,y,v,d,_,_=>by simp [dI]at d
 | n+1,.mp _,y,v,d,_,_=>by simp [dI]at d
 | n+1,.it _,y,v,d,_,_=>by simp [dI]at d
 | n+1,.bm _ _,y,v,d,_,_=>by simp [dI]at d
 | n+1,.mi _,y,v,d,_,_=>by simp [dI]at d
end
section
variable{Q:Program}{σ:Nat→FuncId}{X:Wd}
theorem SR.skip(g:SR Q σ X){w':World}{o:Obj}(d:dp X.w w' o)(q:X.B≤X.w.heap.size):∃ X':Wd,X'.w=w'∧X'.H=X.H∧SR Q σ X'∧Ext X.H.length X X'∧X'.B≤X'.w.heap.size:=by
 have j:Ext X.H.length X { X with w:=w' }:=Ext.one g X.H.length rfl (fun _ _=>Iff.rfl) (fun k m _=>d.xj m)
  (fun L i h=>by rw [SR.oB g]at h;simp at h) (fun h=>absurd h (aec _)) (fun _ _ _=>rfl) (fun _ _=>rfl) (fun L h=>.inl ⟨L,h,rfl⟩) (by show _≤w'.heap.size;rw [d.size];omega) d.os d.tape d.output
 refine⟨{ X with w:=w' },rfl,rfl,SR.step Q σ g j X.H.length (fun _ _=>rfl) (fun _ _=>rfl) (fun b L _ l=>d.xj (g.br b L l).2.1)
  (fun _ _ _ _ _ h=>h) (fun L h=>by change X.bI X.H.length=aa L at h;rw [SR.oB g]at h;simp at h) (fun c i h=>?_),j,?_⟩
 ·have:=g.fb c i h;show c<w'.heap.size;rw [d.size];omega
 ·show X.B≤w'.heap.size;rw [d.size];omega
theorem jM{n:Int}(b:0≤n)(d:n<2 ^ 63):IntKind.i64.wrap n=n:=by
 have:n % (2 ^ 64:Int)=n:=Int.emod_eq_of_lt b (by omega);simp only [IntKind.wrap,IntKind.bits,IntKind.signed,this,adl,decide_eq_true_eq];rw [aU (by show¬ n≥2 ^ (64-1);omega)]
theorem yT(hS:SR Q σ X)(hB:X.B≤X.w.heap.size){a:Act}{al:T}(hR:RR σ X al a.tmps){o:Oper}{sz bytes:Nat}{zs:List FC}{x y:Arg}(F:df Q σ o (.dh sz bytes zs x y)=ae){v:V}{H':aj}
  (h:aW al X.H (.dh sz bytes zs x y)=aa (v,H')):ft Q σ X v H' (execOp a.eval o):=by
 simp only [df]at F;split at F
 ·rename_i t x' y' ho;simp only [BY,decide_eq_true_eq]at F;obtain⟨⟨⟨k,r⟩,O⟩,b7⟩:=F;have k:=bj hR k;have r:=bj hR r;obtain⟨e,hu,O⟩:=fD O;simp only [BY]at O;obtain⟨⟨j,Z⟩,hz⟩:=O;obtain⟨z,us,a8,a_,M,c8,b_,c4⟩:=dN (σ:=σ) (X:=X) hz X.w;obtain⟨b9,u,A⟩:=uE Z X.w;simp only [aW]at h;split at h
  ·rename_i l c hl hc;obtain⟨kl,p⟩:=gj k hl;obtain⟨kc,w⟩:=gj r hc;split at h
   ·rename_i s;obtain⟨h0,c6,g,c7⟩:=s;unfold bB at g;simp only [BY,decide_eq_true_eq]at g;have J:us.length=sz:=by have:=M.len;simp at this;omega
    have L:=jM (n:=l) h0 (by omega);have K:=jM (n:=c) (by omega) (by omega);have b6:c.toNat*bytes≤2 ^ 48:=by
     have:c.toNat*bytes≤(2*c.toNat+768)*bytes:=adi _ (by omega);omega
    have m:¬ ((bytes:Int)*c>2 ^ 48):=by
     have e1:(bytes:Int)*c=((c.toNat*bytes:Nat):Int):=by
      rw [aef,adu];congr 1;omega
     rw [e1];omega
    have I:((Array.range (c.toNat*sz)).map fun i=>us.toArray[i % us.toArray.size]!)=(bX c.toNat us).toArray:=by
     have:=fQ us c.toNat (by omega);rwa [J]at this
    have run:(execOp a.eval o).run Q X.w=.ok (.value (.slice (aa ⟨X.w.heap.size,0,ab⟩) l.toNat c.toNat)) (X.w.alloc (.cells (bX c.toNat us).toArray e)):=by
     simp only [execOp,ho];refine dw ?_;rw [p,w];have B:¬ c<0:=by omega
     have E:¬ l<0:=by omega
     have q:¬ l>c:=by omega
     by_cases d:c.toNat*sz=0
     ·have f:bX c.toNat us=[]:=acH (by rw [je,J];exact d);have b:((decide (c<0)||decide ((bytes:Int)*c>2 ^ 48))||decide (l<0)||decide (l>c))=ag:=by rw [decide_eq_false B,decide_eq_false E,decide_eq_false q,decide_eq_false m];rfl
      simp only [Instr.makeSlice,Sem.run_bind,aN hu,asInt,asIntOf,Sem.run_pure,Result.andThen_ok,u,A,L,K,run_askRoom,cx j];simp only [b,acJ,if_false,Sem.run_ite,bf d,Sem.run_bind,Result.andThen_ok,Sem.run_pure,run_askRoom,cx j,newRow,run_newObj];rw [d,f,show(Array.map (fun x=>(#[]:Array Value)[x % (#[]:Array Value).size]!) (Array.range 0))=#[] from by simp [show Array.range 0=(#[]:Array Nat) from rfl]];rfl
     ·simp only [Instr.makeSlice,Sem.run_bind,aN hu,asInt,asIntOf,Sem.run_pure,Result.andThen_ok,u,A,L,K,run_askRoom,cx j];have b:((decide (c<0)||decide ((bytes:Int)*c>2 ^ 48))||decide (l<0)||decide (l>c))=ag:=by rw [decide_eq_false B,decide_eq_false E,decide_eq_false q,decide_eq_false m];rfl
      simp only [b,acJ,if_false,Sem.run_ite,aU d,Sem.run_bind,a8,a_,Result.andThen_ok,Sem.run_pure,run_askRoom,cx j,I,newRow,run_newObj];rfl
    split at h
    ·rename_i d;subst d;simp only [sh,IS]at h;obtain⟨rfl,rfl⟩:=h;have:l=0:=by omega
     subst this;obtain⟨X',S,N,U,W,Y⟩:=SR.skip hS (dp.alloc X.w (.cells (bX (0:Int).toNat us).toArray e)) hB;exact⟨_,X',.inl (by rw [S];exact run),N,U,bS.es _,W,Y⟩
    ·simp only [sh,IS]at h;obtain⟨rfl,rfl⟩:=h;obtain⟨X',S,N,U,W,Y,g6⟩:=yU hS hB (gO M c.toNat) e;refine⟨_,X',.inl (by rw [S];exact run),N,U,?_,W,g6⟩;have H:X'.H[X.H.length]?=aa (.box ((bX c.toNat zs).map .f) 0):=by rw [N];simp
     simp only [VR,fX,CR,eK,H];exact⟨_,Y,by omega,rfl⟩
   ·simp at h
  ·simp at h
 ·simp at F
theorem Uo(H:aj):∀ x,dI 0 H x=YR x:=fun x=>by cases x<;>rfl
theorem RS(hS:SR Q σ X)(hB:X.B≤X.w.heap.size){a:Act}{al:T}(I:RR σ X al a.tmps){o:Oper}{sz:Nat}{x A mx:Arg}(B:df Q σ o (.qV sz x A mx)=ae){v:V}{H':aj}
  (h:aW al X.H (.qV sz x A mx)=aa (v,H')):ft Q σ X v H' (execOp a.eval o):=by
 simp only [df]at B;split at B
 ·rename_i t y S mx' ho;simp only [BY,decide_eq_true_eq]at B;obtain⟨⟨⟨⟨u,h2⟩,h3⟩,he⟩,hz⟩:=B;obtain⟨e,hu,E⟩:=fD he;simp only [aW]at h;unfold w7 at h;have o1:OR X σ ab ab:=trivial;have o2:OR X σ (aa (A.ev al)) (aa (a.eval S)):=bj I h2;have o3:OR X σ (aa (mx.ev al)) (aa (a.eval mx')):=bj I h3;have u:=bj I u;split at h
  ·rename_i v' hv;simp only [sh,IS]at h;obtain⟨rfl,rfl⟩:=h;obtain⟨r,F,h5⟩:=s4 hu E u o1 o2 o3 hv;exact⟨r,X,.inl (by simp only [execOp,ho];exact dw F),rfl,hS,h5,Ext.refl _ _,hB⟩
  ·split at h
   ·rename_i b o' n c' l s b9;rw [b9]at u;simp only [VR,fX,CR,eK]at u;split at h
    ·rename_i s' cs fl e' J;rw [J]at u;split at h
     ·rename_i M;obtain⟨rfl,rfl,rfl,rfl⟩:=M;split at h
      ·rename_i i j d Y;split at h
       ·rename_i W;obtain⟨rfl,c7,c6⟩:=W;split at h
        ·rename_i ys b_;simp only [sh,IS]at h;obtain⟨rfl,rfl⟩:=h;obtain⟨L,hL,k,hk,c9,b7⟩:=u.2.1 rfl rfl;have Z:k=0:=by
          rcases Nat.eq_zero_or_pos k with h | h
          ·exact h
          ·have:=Nat.mul_pos h hz;omega
         subst Z;have c8:i≤n:=by
          unfold uQ at d;split at d
          ·split at d
           ·rename_i hh;simp only [sh]at d;omega
           ·simp at d
          ·simp at d
         have K:bw n n ab (aa (A.ev al)) (aa (mx.ev al))=aa (0,i,i):=by
          have U:uQ (A.ev al) i=aa i:=by
           unfold uQ at d ⊢;split at d
           ·split at d
            ·rename_i hh;simp only [sh]at d;rw [bf ⟨hh.1,by omega⟩,d]
            ·simp at d
           ·simp at d
          simp [bw,Y,U]
         obtain⟨F,_,_,_⟩:=dn (Q:=Q) o1 o2 o3 K (cap:=L.cap) (by omega) (IT n) ae X.w;have h6:=dT (a:=aa ⟨L.c,0,ab⟩) hu E F;have a8:eY X.H (X.H.set b (.bA s' cs (Nat.max fl (i*s')) l .loc)):=eY.set J ⟨rfl,rfl,acV _ _,rfl,rfl⟩;obtain⟨g1,g2⟩:=SR.ahead hS a8.ext;obtain⟨g3,g4,g5⟩:=SR.flag g1;have a_:=(If.1 J).1;have m:(X.H.set b (.bA s' cs (Nat.max fl (i*s')) l .loc))[b]?=aa (.bA s' cs (Nat.max fl (i*s')) l .loc):=by simp [a_]
         have O:dI 1 (X.H.set b (.bA s' cs (Nat.max fl (i*s')) l .loc)) (.sl b 0 i 0 l s')=aa (.fs ys i):=by
          simp only [dI,m];rw [bf ⟨trivial,trivial,by omega⟩,eb (g:=YR) fun x _=>Uo _ x,ady,b_];rfl
         have b6:c0 1 (X.H.set b (.bA s' cs (Nat.max fl (i*s')) l .loc)) (.sl b 0 i 0 l s'):=by
          intro aS q;rw [m]at q;cases q;refine⟨by have:=acQ fl (i*s');simp only [adt];exact this,fun x _=>?_⟩;cases x<;>trivial
         have N:CR σ ({ X with H:=X.H.set b (.bA s' cs (Nat.max fl (i*s')) l .loc) }:Wd).flag (.sl b 0 i 0 l s') (.slice (aa ⟨L.c,0,ab⟩) i L.cap):=by
          simp only [CR,eK,Wd.flag,m];exact⟨IT _,fun _ _=>⟨L,hL,0,by omega,by omega,by simp⟩,_,_,_,rfl⟩
         have hf:=Xb g3 g5 (cA.refl _) 1 O b6 N;have z:bS σ ({ X with H:=X.H.set b (.bA s' cs (Nat.max fl (i*s')) l .loc) }:Wd).flag.F X.w (.fs ys i) (.slice (aa ⟨L.c,0,ab⟩) i i):=by
          cases hf with
          | fs _ _ c o2 cap us c4 hl hF M hr=>exact .fs _ _ _ _ _ us (IT _) hl hF M hr| SQ a2 cap=>omega
         refine⟨.slice (aa ⟨L.c,0,ab⟩) i i,({ X with H:=X.H.set b (.bA s' cs (Nat.max fl (i*s')) l .loc) }:Wd).flag,.inl ?_,rfl,g3,z,g2.trans (g4.mono (by simp)),hB⟩;simp only [execOp,ho];refine dw ?_;rw [b7];simp [show i≠0 by omega,dB]at h6;exact h6
        ·simp at h
       ·simp at h
      ·simp at h
     ·simp at h
    ·simp at h
   ·simp at h
 ·simp at B
theorem W1(d:SR Q σ X)(g:X.B≤X.w.heap.size){a:Act}{al:T}(j:RR σ X al a.tmps){o:Oper}{l:cj}(b:df Q σ o l=ae){v:V}{H':aj}
  (h:aW al X.H l=aa (v,H')):ft Q σ X v H' (execOp a.eval o):=by
 cases q:l.Xc
 case true=>
  cases l<;>simp only [cj.Xc,reduceCtorEq]at q;obtain⟨rfl,u,X',E,F,H,I,J,K,_⟩:=su d g j b h;exact⟨u,X',.inl E,F,H,I,J,K⟩
 by_cases A:cls l=.p∨cls l=.r
 ·exact ft.Zp g d (Ti d j b A q h)
 ·cases l with
  | pre st sz=>exact We d g b h
  | alloc zs=>
   simp only [aW,sh,IS]at h;obtain⟨rfl,rfl⟩:=h;exact Ja d g b
  | box x=>
   simp only [aW]at h;split at h
   ·rename_i xs s;simp only [sh,IS]at h;obtain⟨rfl,rfl⟩:=h;exact T9 d g j b s
   ·simp at h
  | aZ sz zs n ps=>exact Cr d g j b h| store n x y=>exact LY d g j b h
  | gW=>
   simp only [aW,sh,IS]at h;obtain⟨rfl,rfl⟩:=h;exact Ka d g b
  | iZ L x y z=>exact J5 d g j b h| dh sz m zs x y=>exact yT d g j b h| range x=>exact Ly d g j b h| next x=>exact P9 d g j b h
  | append sz m x y=>exact Co d g j b h| yk x=>simp [df]at b| copy sz x y=>simp [df]at b| clear sz zs x=>exact Js d g j b h| mF sz m zs x y=>exact O9 d g j b h| ik x=>exact DH d g j b h| qV sz x y z=>exact RS d g j b h| lG x=>exact Kg d g j b h| call f xs B=>simp [aW]at h| bH x xs B=>simp [aW]at h| recover=>simp [aW]at h| defer x xs=>simp [aW]at h| bad=>simp [aW]at h| _=>exact absurd (by simp [cls]) A
end
section
variable{Q:Program}{σ:Nat→FuncId}{X:Wd}
def jl(n:Nat)(H:aj):V→Prop
 | .c x=>c0 n H x| .a xs=>∀ x ∈ xs,c0 n H x| _=>True
theorem jl.le{n:Nat}{H H':aj}(h:eY H H'){v:V}(b:jl n H v):jl n H' v:=by
 cases v with
 | c x=>exact c0.le n h b| a xs=>exact fun x d=>c0.le n h (b x d)
 | _=>trivial
theorem US(n:Nat)(v:V)(H:aj):eY H (Md n H v):=by
 cases v with
 | c x=>exact ie n x H| a xs=>exact eY.foldl (fun H x=>ie n x H) xs H
 | _=>exact eY.refl H
theorem yR(n:Nat)(v:V)(H:aj):jl n (Md n H v) v:=by
 cases v with
 | c x=>exact fv n x H| a xs=>exact fun x b=>eh (fun x H=>fv n x H) xs H x b
 | _=>trivial
theorem lb(n:Nat):∀(b:List V) (H:aj),eY H (b.foldl (Md n) H)
 | [],H=>eY.refl H| v::b,H=>(US n v H).trans (lb n b _)
theorem oW(n:Nat):∀(b:List V) (H:aj),∀ v ∈ b,jl n (b.foldl (Md n) H) v
 | u::b,H,v,d=>by
  rcases ac2.1 d with rfl | d
  ·exact(yR n v H).le (lb n b _)
  ·exact oW n b _ v d
def FV1(σ:Nat→FuncId)(F:Nat→Nat→Prop)(w:World)(v:V)(u:Value):Prop:=∀ X:Wd,X.F=F→X.w=w→fX σ X v u
def FV(σ:Nat→FuncId)(F:Nat→Nat→Prop)(w:World)(v:V)(u:Value):Prop:=∀ X:Wd,X.F=F→X.w=w→VR σ X v u
theorem SP(z:SR Q σ X)(q:FL X){H:aj}(s:cA H X.H){n:Nat}{v I:V}{u:Value}(d:db n H v=aa I)(B:jl n H v)(E:fX σ X v u):FV1 σ X.F X.w I u:=by
 intro Z g j;cases v with
 | c x=>
  simp only [db,IN]at d;obtain⟨y,m,rfl⟩:=d;have:=Xb z q s n m B E;rw [←g,←j]at this;exact this
 | a xs=>
  simp only [db,IN]at d;obtain⟨ys,b,rfl⟩:=d;obtain⟨us,rfl,l⟩:=E;have b:=eG b;refine⟨us,rfl,A2.map ⟨by rw [←l.len,b.len],fun i y u m J=>?_⟩⟩;have A:i<xs.length:=by rw [b.len];exact(If.1 m).1
  have F:=By A;have:=Xb z q s n (b.2 i _ _ F m) (B _ (acE A)) (l.2 i _ _ F J);rw [←g,←j]at this;exact this
 | top=>simp [db]at d| t K=>simp [db]at d
def bK.full:bK→bK
 | .box cs fl=>.box cs (Nat.max fl cs.length)| .bA s cs fl e st=>.bA s cs (Nat.max fl cs.length) e st| b=>b
theorem tG(H:aj):eY H (H.map bK.full):=by
 refine⟨by simp,fun b x y g d=>?_⟩;rw [adh,g]at d;simp only [ac8,sh]at d;subst d;cases x<;>simp [cG,bK.full,acV]
theorem eQ:∀(n:Nat) {H:aj} {x:C} {y:FC},dI n H x=aa y→c0 n (H.map bK.full) x
 | n,H,.f _,y,_=>by cases n<;>trivial
 | 0,H,.ptr _ _ _,y,_=>trivial| 0,H,.sl _ _ _ _ _ _,y,_=>trivial| 0,H,.cl _ _,y,_=>trivial| 0,H,.yl _,y,_=>trivial| 0,H,.mp _,y,_=>trivial| 0,H,.it _,y,_=>trivial| 0,H,.bm _ _,y,_=>trivial| 0,H,.mi _,y,_=>trivial
 | n+1,H,.ptr b off E,y,d=>by
  intro cs fl j;rw [adh]at j;simp only [dI]at d;split at d
  ·rename_i cs' u g;rw [g]at j;simp only [ac8,sh,bK.full,bK.box.injEq]at j;obtain⟨rfl,rfl⟩:=j;simp only [IN]at d;obtain⟨ys,m,rfl⟩:=d;refine⟨acQ _ _,fun x z=>?_⟩;obtain⟨i,v⟩:=ac9 z;obtain⟨y,_,A⟩:=(eG m).get v;exact eQ n A
  ·simp at d
 | n+1,H,.sl b o l c E sz,y,d=>by
  intro aS j;rw [adh]at j;simp only [dI]at d;split at d
  ·rename_i cs' u g;rw [g]at j;simp only [ac8,sh,bK.full]at j;subst j;split at d
   ·rename_i q;simp only [IN]at d;obtain⟨ys,m,rfl⟩:=d;refine⟨acT q (acQ _ _),fun x z=>?_⟩;obtain⟨i,v⟩:=ac9 z;obtain⟨y,_,A⟩:=(eG m).get v;exact eQ n A
   ·simp at d
  ·rename_i s cs' u e g;rw [g]at j;simp only [ac8,sh,bK.full]at j;subst j;split at d
   ·rename_i q;simp only [IN]at d;obtain⟨ys,m,rfl⟩:=d;refine⟨acT q.2.2 (acQ _ _),fun x z=>?_⟩;obtain⟨i,v⟩:=ac9 z;obtain⟨y,_,A⟩:=(eG m).get v;exact eQ n A
   ·simp at d
  ·rename_i s cs' u e g;rw [g]at j;simp only [ac8,sh,bK.full]at j;subst j;trivial
  ·rename_i s cs' u e g;rw [g]at j;simp only [ac8,sh,bK.full]at j;subst j;trivial
  ·simp at d
 | n+1,H,.cl f B,y,d=>by
  simp only [dI,IN]at d;obtain⟨ys,m,rfl⟩:=d;intro x z;obtain⟨i,v⟩:=ac9 z;obtain⟨y,_,A⟩:=(eG m).get v;exact eQ n A
 | n+1,H,.yl _,y,d=>trivial| n+1,H,.mp _,y,d=>trivial| n+1,H,.it _,y,d=>trivial| n+1,H,.bm _ _,y,d=>trivial| n+1,H,.mi _,y,d=>trivial
theorem tH{n:Nat}{H:aj}{v m:V}(b:db n H v=aa m):jl n (H.map bK.full) v:=by
 cases v with
 | c x=>
  simp only [db,IN]at b;obtain⟨y,d,rfl⟩:=b;exact eQ n d
 | a xs=>
  simp only [db,IN]at b;obtain⟨ys,g,rfl⟩:=b;intro x l;obtain⟨i,j⟩:=ac9 l;obtain⟨y,_,d⟩:=(eG g).get j;exact eQ n d
 | _=>trivial
def Wd.inner(X:Wd):Wd:=⟨fun _=>ab,X.F,[],X.w,X.w.heap.size⟩
theorem SR.inner(d:SR Q σ X):SR Q σ X.inner:=⟨fun b L h=>by simp [Wd.inner]at h,fun b j L g h=>by simp [Wd.inner]at h,d.fb⟩
def Wd.gG(Y:Wd):Wd:=Wd.flag { Y with H:=Y.H.map bK.full }
theorem SR.gG{Y:Wd}(m:SR Q σ Y):SR Q σ Y.gG∧Ext Y.H.length Y Y.gG∧FL Y.gG:=by
 obtain⟨b,d⟩:=SR.ahead m (tG Y.H).ext;obtain⟨g,j,l⟩:=SR.flag b;exact⟨g,d.trans (j.mono (by simp)),l⟩
theorem yA{Y:Wd}(J:SR Q σ Y){n:Nat}{v g:V}{u:Value}(b:nE n Y.H v=aa g)(A:VR σ Y v u):FV σ Y.gG.F Y.w g u:=by
 obtain⟨F,H,I⟩:=SR.gG J;have m:=VR.ext' σ H A;have q:∀ {v g:V} {u:Value},db n Y.H v=aa g→fX σ Y.gG v u→FV1 σ Y.gG.F Y.w g u:=by
  intro v g u b A;have z:db n Y.gG.H v=aa g:=by
   show db n (Y.H.map bK.full) v=aa g;cases v with
   | c x=>simp only [db]at b ⊢;rw [ku n (tG Y.H)];exact b| a xs=>simp only [db]at b ⊢;rw [eb (fun x _=>ku n (tG Y.H) x)];exact b
   | _=>simp [db]at b
  exact SP F I (cA.refl _) z (tH b) A
 intro Z j l;cases v with
 | t M=>
  simp only [nE,IN]at b;obtain⟨N,d,rfl⟩:=b;obtain⟨us,rfl,s⟩:=m;have d:=eG d;refine⟨us,rfl,by rw [←s.len,d.len],fun i y u E L=>?_⟩;have K:i<M.length:=by rw [d.len];exact(If.1 E).1
  have B:=By K;exact q (d.2 i _ _ B E) (s.2 i _ _ B L) Z j l
 | c x=>exact VR.Me σ (q (v:=.c x) b m Z j l)| a xs=>exact VR.Me σ (q (v:=.a xs) b m Z j l)| top=>simp [nE,db]at b
theorem SR.outer(u:SR Q σ X)(y:X.B≤X.w.heap.size){Y:Wd}(v:SR Q σ Y)(d:Ext 0 X.inner Y) :
  SR Q σ { X with F:=Y.gG.F,w:=Y.w }∧Ext X.H.length X { X with F:=Y.gG.F,w:=Y.w }∧X.B≤Y.w.heap.size:=by
 obtain⟨x,s,z⟩:=SR.gG v;have xh:X.w.heap.size≤Y.w.heap.size:=d.size;have g:∀ k,k<X.w.heap.size→Y.w.heap[k]?=X.w.heap[k]?:=fun k q=>d.frame k q (fun b L h=>by simp [Wd.inner]at h);have l:∀ c i,Y.gG.F c i→X.F c i∨X.w.heap.size≤c:=by
  intro c i h;rcases s.mB c i h with h | h | ⟨b,L,m,rfl⟩
  ·rcases d.mB c i h with h | h | ⟨b,L,m,_⟩
   ·exact .inl h
   ·exact .inr h
   ·simp [Wd.inner]at m
  ·exact .inr (acT xh h)
  ·have:=(v.br b L m).1;rw [d.B]at this;exact .inr this
 have j:Ext X.H.length X { X with F:=Y.gG.F,w:=Y.w }:=
  {B:=rfl,F:=fun c i h=>s.F c i (d.F c i h)
   mB:=fun c i h=>(l c i h).elim .inl fun h=>.inr (.inl h)
   fw:=fun c i h=>d.fw c i h
   cC:=fun b _ aS m=>⟨aS,m,by cases aS<;>simp⟩
   sA:=fun b L h=>.inl ⟨b,L,h,rfl⟩,size:=xh,os:=d.os,tape:=d.tape,output:=d.output,frame:=fun k q _=>g k q }
 refine⟨⟨fun b L m=>?_,u.inj,fun c i h=>x.fb c i h⟩,j,acT y xh⟩;obtain⟨g1,g2,aS,g3,g4⟩:=u.br b L m;refine⟨g1,adb g2 xh,aS,g3,BR.ext Q σ j (g _ g2) (fun i h=>?_) g4⟩;rcases l _ _ h with h | h
 ·exact h
 ·omega
end
section
variable{Q:Program}{σ:Nat→FuncId}{X:Wd}
def eB(Q:Program)(σ:Nat→FuncId)(X:Wd)(v:V)(H':aj)(X':Wd)(u:Value):Prop:=
 X'.H=H'∧SR Q σ X'∧VR σ X' v u∧Ext X.H.length X X'∧X'.B≤X'.w.heap.size
def mc(b:CallKind)(cs:List Frame):Prop:=b=.normal∨(b=.deferred∧∃ c rest,cs=c::rest∧c.mode=.returning)
def gm(b:Frame)(cs:List Frame):Prop:=mc b.kind cs
theorem mc.CZ{fr:Frame}{cs:List Frame}(h:mc fr.kind cs):tryRecover fr cs=ab:=by
 unfold tryRecover;rcases h with h | ⟨h,c,rest,rfl,b⟩
 ·rw [h]
 ·rw [h];simp [b]
def Leaves(Q:Program)(f:FuncId)(d:CallKind)(b:Frame)(u:Value)(w:World):Prop:=
 b.mode=.returning∧b.defers=[]∧b.kind=d∧b.fn=f∧∃ fn,Q.funcs[f]?=aa fn∧(Go.results fn b.tmps).run Q w=.ok u w
structure ea(Q:Program)(σ:Nat→FuncId)(call:bQ):Prop where
 enters:∀ f args H r,call (.fn f) args H=aa r→∀ as w,(callFunc (σ f) as).run Q w=.ok (.enter (σ f) as) w
 fn:∀ f args H r H',call (.fn f) args H=aa (r,H')→∀(X:Wd) us kind cs,X.H=H→SR Q σ X→X.B≤X.w.heap.size→A2 (VR σ X) args us→mc kind cs→kind=.normal∨f≠oa →
  ∃ fr X' u,Steps Q (lone (Frame.enter Q (σ f) us.toArray kind) cs X.w) (lone fr cs X'.w)∧Leaves Q (σ f) kind fr u X'.w∧eB Q σ X r H' X' u
 yield:∀ b args H r H',call (.yield b) args H=aa (r,H')→∀(X:Wd) us c cs L,X.H=H→SR Q σ X→X.B≤X.w.heap.size→A2 (VR σ X) args us→X.bI b=aa L →
  ∃ f tmps as bd X' u,(Instr.yield L.c us.toArray).run Q X.w=.ok (.round L.c f tmps as bd) X.w ∧
   Steps Q (lone (Frame.round L.c f tmps as bd .normal) (c::cs) X.w) (lone (c.finish u) cs X'.w)∧eB Q σ X r H' X' u
def cq(Q:Program)(σ:Nat→FuncId)(X:Wd)(o:Oper)(a:Act)(v:V)(H':aj):Prop:=
 ∀(b:Frame) (ops:Array Oper) (i:Nat) (rest:List Nat) (k:List Item) (cs:List Frame),ops[i]?=aa o→Region.wanted o (yielded ops a.tmps)=ae→gm b cs →
  ∃ X' u,Steps Q (lone (b.atR a (.inRegion ops (i::rest)::k)) cs X.w) (lone (b.atR (a.put o.dst u) (.inRegion ops rest::k)) cs X'.w)∧eB Q σ X v H' X' u
theorem cq.Zo{o:Oper}{a:Act}{v:V}{H':aj}(x:∀ c,o.op≠.defer c)(h:ft Q σ X v H' (execOp a.eval o)):cq Q σ X o a v H':=by
 intro b ops i rest k cs ho y z;obtain⟨u,X',d,j,l,m,q,s⟩:=h;refine⟨X',u,.one (step_lone_go ?_),j,l,m,q,s⟩;rw [stepGR_op ho y,Oper.semAt_eq _ _ _ x];have g:=Frame.finish_atR b a ops i rest k u;rw [ho]at g;simp only [acY]at g;rw [←g];rcases d with d | ⟨d,rfl⟩<;>simp [stepG.apply,Sem.runT_eq,d]
theorem cq.qF{o:Oper}{a:Act}{v:V}{H':aj}(m:∀ c,o.op≠.defer c){f:FuncId}{us:Array Value}(g:(execOp a.eval o).run Q X.w=.ok (.enter f us) X.w)
  (h:∀ cs,∃ fr X' u,Steps Q (lone (Frame.enter Q f us .normal) cs X.w) (lone fr cs X'.w)∧Leaves Q f .normal fr u X'.w∧eB Q σ X v H' X' u):cq Q σ X o a v H':=by
 intro b ops i rest k cs ho q A;obtain⟨fr,X',u,j,⟨l1,l2,s,x,fn,y,z⟩,l⟩:=h (b.atR a (.inRegion ops (i::rest)::k)::cs);refine⟨X',u,.head (step_lone_go (fr':=Frame.enter Q f us .normal) (cs':=b.atR a (.inRegion ops (i::rest)::k)::cs) (w':=X.w) ?_) (j.trans (.one ?_)),l⟩
 ·rw [stepGR_op ho q,Oper.semAt_eq _ _ _ m];simp [stepG.apply,Sem.runT_eq,g,Frame.atR]
 ·have d:=Frame.finish_atR b a ops i rest k u;rw [ho]at d;simp only [acY]at d;rw [←d];exact step_leave_returned ⟨l1,l2,s,fn,by rw [x];exact y,z⟩
theorem cq.Kh{o:Oper}{a:Act}{v:V}{H':aj}(q:∀ c,o.op≠.defer c){l:Nat}{f:FuncId}{tmps:Array Value}{as bd:Code}(g:(execOp a.eval o).run Q X.w=.ok (.round l f tmps as bd) X.w)
  (h:∀ c cs,∃ X' u,Steps Q (lone (Frame.round l f tmps as bd .normal) (c::cs) X.w) (lone (c.finish u) cs X'.w)∧eB Q σ X v H' X' u):cq Q σ X o a v H':=by
 intro b ops i rest k cs ho s x;obtain⟨X',u,j,m⟩:=h (b.atR a (.inRegion ops (i::rest)::k)) cs;refine⟨X',u,.head (step_lone_go (fr':=Frame.round l f tmps as bd .normal) (cs':=b.atR a (.inRegion ops (i::rest)::k)::cs) (w':=X.w) ?_) ?_,m⟩
 ·rw [stepGR_op ho s,Oper.semAt_eq _ _ _ q];simp [stepG.apply,Sem.runT_eq,g,Frame.atR]
 ·have d:=Frame.finish_atR b a ops i rest k u;rw [ho]at d;simp only [acY]at d;rw [←d];exact j
theorem lT{x:V}{u:Value}{args:List V}{us:List Value}{c:Callee}{d:List V}(j:bG x args=aa (c,d))(l:VR σ X x u)(q:A2 (VR σ X) args us) :
  match c with
  | .fn f=>∃ fst cap:List Value,u=.func (.func (σ f)) fst.toArray cap.toArray∧A2 (VR σ X) d (fst++us++cap)| .yield b=>d=args∧∃ L,X.bI b=aa L∧u=.func (.yield L.c) #[] #[]:=by
 unfold bG at j;split at j
 ·rename_i f m;cases j;cases l with
  | fn _ _ cap y z=>
   refine⟨[],cap,rfl,q.append (A2.map ⟨y.symm,fun i x u l A=>?_⟩)⟩;exact z i x u l A
 ·rename_i f m;cases j;obtain⟨cap,rfl,g⟩:=l;exact⟨[],cap,rfl,q.append (A2.map (g.jj fun x u h=>CR.Me σ h))⟩
 ·rename_i b;cases j;obtain⟨L,v,_,rfl⟩:=l;exact⟨rfl,L,v,rfl⟩
 ·rename_i f first
  cases j;obtain⟨cap,rfl,g⟩:=l;have s:A2 (VR σ X) (first.map .c) cap:=A2.map (g.jj fun x u h=>CR.Me σ h);exact⟨cap,[],rfl,by simpa using s.append q⟩
 ·simp at j
theorem fN{a:Act}{o:Oper}{cl:Call}{y:Operand}(b:o.op=.call cl)(g:cl.callee=.value y){w:World}{fn:Fn}{fst cap:Array Value}(d:a.eval y=.func fn fst cap) :
  (execOp a.eval o).run Q w=(invoke (.fn fn cap) (fst++cl.args.map a.eval)).run Q w:=by
 simp only [execOp,b,resolve,g,d,Deferred.ofValue,Sem.run_bind,Sem.run_pure,Result.andThen_ok]
theorem dS{f:FuncId}{cap as:Array Value}{w:World}(h:∀ as w,(callFunc f as).run Q w=.ok (.enter f as) w):(invoke (.fn (.func f) cap) as).run Q w=.ok (.enter f (as++cap)) w:=by
 simp only [invoke];exact h _ _
end
section
variable{Q:Program}{σ:Nat→FuncId}{X:Wd}{call:bQ}
theorem Pv{n:Nat}{H H':aj}(h:eY H H')(v:V):db n H' v=db n H v:=by
 cases v with
 | c x=>simp only [db,ku n h]| a xs=>simp only [db,eb (fun x _=>ku n h x)]
 | _=>rfl
theorem uz(K:ea Q σ call)(hS:SR Q σ X)(hB:X.B≤X.w.heap.size){f:Nat}{args:List V}{us:List Value}{H H':aj}{r':V}(g:dD call f args H=aa (r',H'))(hH:cA H' X.H)(L:A2 (VR σ X) args us)(cs:List Frame) :
  (∀ as w,(callFunc (σ f) as).run Q w=.ok (.enter (σ f) as) w) ∧
  ∃ l X' u,Steps Q (lone (Frame.enter Q (σ f) us.toArray .normal) cs X.w) (lone l cs X'.w)∧Leaves Q (σ f) .normal l u X'.w∧eB Q σ X r' X.H X' u∧X'.bI=X.bI:=by
 unfold dD at g;split at g
 ·simp at g
 ·rename_i s d;split at g
  ·simp at g
  ·rename_i r U b;split at g
   ·simp at g
   ·rename_i a8 N;simp only [sh,IS]at g;obtain⟨rfl,rfl⟩:=g;have A:=lb deep args H;have B:=oW deep args H;obtain⟨v,J,h3⟩:=SR.flag hS;have d:=eG d;have z:A2 (VR σ X.flag.inner) s us:=by
     refine⟨by rw [←d.len];exact L.len,fun i y u S hu=>?_⟩;have M:i<args.length:=by rw [d.len];exact(If.1 S).1
     have O:=By M;have m:db deep H args[i]=aa y:=d.2 i _ _ O S;have q:=VR.ext' σ J (L.2 i _ _ O hu);rw [←Pv A]at m;have E:fX σ X.flag args[i] u:=by
      cases j:args[i]with
      | c x=>rw [j]at q;exact q| a xs=>rw [j]at q;exact q| top=>trivial| t vs=>rw [j]at m;simp [db]at m
     exact VR.Me σ (SP v h3 hH m (B _ (acE M)) E X.flag.inner rfl rfl)
    obtain⟨l,Y,u,W,Z,g3,I,g5,g6,g7⟩:=K.fn f s [] r U b X.flag.inner us .normal cs rfl (SR.inner v) (IT _) z (.inl rfl) (.inl rfl);obtain⟨k1,k2,k3⟩:=SR.outer v hB I g6;refine⟨K.enters f s [] _ b,l,{ X.flag with F:=Y.gG.F,w:=Y.w },u,W,Z,⟨rfl,k1,?_,J.trans (k2.mono (IT _)),k3⟩,rfl⟩;rw [←g3]at N;exact yA I N g5 _ rfl rfl
theorem kH{o:Oper}{f:Nat}{xs:List Arg}{h:Bool}(b:df Q σ o (.call f xs h)=ae):∃ c,o.op=.call c∧c.callee=.value (.func (σ f))∧Mb σ xs c.args=ae:=by
 simp only [df]at b;split at b
 ·rename_i c j;simp only [dk]at b;split at b
  ·rename_i g d;simp only [BY,beq_iff_eq]at b;exact⟨c,j,by rw [d,b.1],b.2⟩
  ·simp at b
 ·simp at b
theorem ub{o:Oper}{x:Arg}{xs:List Arg}{h:Bool}(b:df Q σ o (.bH x xs h)=ae):∃ c y,o.op=.call c∧c.callee=.value y∧mA σ x y=ae∧Mb σ xs c.args=ae:=by
 simp only [df]at b;split at b
 ·rename_i c d;simp only [dk]at b;split at b
  ·rename_i y g;simp only [BY]at b;exact⟨c,y,d,g,b.1,b.2⟩
  ·simp at b
 ·simp at b
theorem ja{o:Oper}{c:Call}(h:o.op=.call c):∀ c,o.op≠.defer c:=fun b e=>by rw [h]at e;cases e
theorem vG(l:ea Q σ call)(q:SR Q σ X)(j:X.B≤X.w.heap.size){a:Act}{al:T}(E:RR σ X al a.tmps){o:Oper}{f:Nat}{xs:List Arg}{h:Bool}(I:df Q σ o (.call f xs h)=ae)
  {H H':aj} {v:V} (y:dD call f (cK al xs) H=aa (v,H')) (m:cA H' X.H):cq Q σ X o a v X.H:=by
 obtain⟨c,x,F,d⟩:=kH I;have s:=kC E d;have b:=(uz l q j y m s []).1;refine cq.qF (ja x) (f:=σ f) (us:=c.args.map a.eval) ?_ fun cs=>?_
 ·rw [fN x F (fn:=.func (σ f)) (fst:=#[]) (cap:=#[]) rfl,dS b];simp
 ·obtain⟨_,z,X',u,g,A,B,_⟩:=uz l q j y m s cs;exact⟨z,X',u,by rw [Array.toArray_toList]at g;exact g,A,B⟩
theorem tt(A:ea Q σ call)(F:SR Q σ X)(z:X.B≤X.w.heap.size){a:Act}{al:T}(E:RR σ X al a.tmps){o:Oper}{f:Nat}{xs:List Arg}{h:Bool}(K:df Q σ o (.call f xs h)=ae)
  {H H':aj} {v:V} (L:dD call f (cK al xs) H=aa (v,H')) (B:cA H' X.H)
  (b:Frame) (ops:Array Oper) (i:Nat) (rest:List Nat) (k:List Item) (cs:List Frame) (g:ops[i]?=aa o) (M:Region.wanted o (yielded ops a.tmps)=ae) :
  ∃ X' u,Steps Q (lone (b.atR a (.inRegion ops (i::rest)::k)) cs X.w) (lone (b.atR (a.put o.dst u) (.inRegion ops rest::k)) cs X'.w)∧eB Q σ X v X.H X' u∧X'.bI=X.bI:=by
 obtain⟨c,s,J,m⟩:=kH K;have I:=kC E m;obtain⟨l,Z,X',u,q,⟨N,O,S,U,fn,W,Y⟩,x,y⟩:=uz A F z L B I (b.atR a (.inRegion ops (i::rest)::k)::cs);rw [Array.toArray_toList]at q;have j:(execOp a.eval o).run Q X.w=.ok (.enter (σ f) (c.args.map a.eval)) X.w:=by
  rw [fN s J (fn:=.func (σ f)) (fst:=#[]) (cap:=#[]) rfl,dS l];simp
 refine⟨X',u,.head (step_lone_go (fr':=Frame.enter Q (σ f) (c.args.map a.eval) .normal) (cs':=b.atR a (.inRegion ops (i::rest)::k)::cs) (w':=X.w) ?_) (q.trans (.one ?_)),x,y⟩
 ·rw [stepGR_op g M,Oper.semAt_eq _ _ _ (ja s)];simp [stepG.apply,Sem.runT_eq,j,Frame.atR]
 ·have d:=Frame.finish_atR b a ops i rest k u;rw [g]at d;simp only [acY]at d;rw [←d];exact step_leave_returned ⟨N,O,S,fn,by rw [U];exact W,Y⟩
theorem vF(j:ea Q σ call)(A:SR Q σ X)(y:X.B≤X.w.heap.size){a:Act}{al:T}(z:RR σ X al a.tmps){o:Oper}{f:Nat}{xs:List Arg}{h:Bool}(F:df Q σ o (.call f xs h)=ae)
  {H':aj} {v:V} (m:call (.fn f) (cK al xs) X.H=aa (v,H')):cq Q σ X o a v H':=by
 obtain⟨c,l,E,d⟩:=kH F;have B:=kC z d;have b:=j.enters _ _ _ _ m;refine cq.qF (ja l) (f:=σ f) (us:=c.args.map a.eval) ?_ fun cs=>?_
 ·rw [fN l E (fn:=.func (σ f)) (fst:=#[]) (cap:=#[]) rfl,dS b];simp
 ·obtain⟨q,X',u,g,s,x⟩:=j.fn _ _ _ _ _ m X _ .normal cs rfl A y B (.inl rfl) (.inl rfl);exact⟨q,X',u,by rw [Array.toArray_toList]at g;exact g,s,x⟩
theorem Jq(A:ea Q σ call)(M:SR Q σ X)(J:X.B≤X.w.heap.size){a:Act}{al:T}(K:RR σ X al a.tmps){o:Oper}{x:Arg}{xs:List Arg}{h:Bool}(hm:df Q σ o (.bH x xs h)=ae)
  {H':aj} {v:V} {c:Callee} {args:List V} (m:bG (x.ev al) (cK al xs)=aa (c,args)) (E:call c args X.H=aa (v,H')):cq Q σ X o a v H':=by
 obtain⟨cl,y,s,O,hy,H⟩:=ub hm;have N:=kC K H;have S:=lT m (bj K hy) N;cases c with
 | fn f=>
  obtain⟨fst,cap,j,F⟩:=S;have B:=A.enters _ _ _ _ E;refine cq.qF (ja s) (f:=σ f) (us:=fst.toArray++cl.args.map a.eval++cap.toArray) ?_ fun cs=>?_
  ·rw [fN s O j,dS B]
  ·obtain⟨W,X',u,q,z,Y⟩:=A.fn _ _ _ _ _ E X _ .normal cs rfl M J F (.inl rfl) (.inl rfl);refine⟨W,X',u,?_,z,Y⟩;have e:(fst++(cl.args.map a.eval).toList++cap).toArray=fst.toArray++cl.args.map a.eval++cap.toArray:=by simp
   rw [e]at q;exact q
 | yield b=>
  obtain⟨rfl,L,Z,j⟩:=S;have key:=fun c cs=>A.yield b _ _ _ _ E X _ c cs L rfl M J N Z;obtain⟨f,tmps,as,bd,_,_,g,_⟩:=key default [];refine cq.Kh (ja s) (l:=L.c) (f:=f) (tmps:=tmps) (as:=as) (bd:=bd) ?_ fun c cs=>?_
  ·rw [fN s O j,Array.empty_append];rw [Array.toArray_toList]at g;exact g
  ·obtain⟨f',I,as',U,X',u,d,q,z⟩:=key c cs;rw [g]at d;simp only [Result.ok.injEq,Next.round.injEq,true_and,and_true]at d;obtain⟨rfl,rfl,rfl,rfl⟩:=d;exact⟨X',u,q,z⟩
end
section
variable{Q:Program}{σ:Nat→FuncId}{X:Wd}{call:bQ}
def pN(σ:Nat→FuncId)(X:Wd):dm→Deferred→Prop
 | .hY b,d=>∃ L o,X.bI b=aa L∧X.H[b]?=aa (.fk o)∧d = { target:=.collected L.c,args:=#[] }| .fn f args,d=>∃ us cap:Array Value,d = { target:=.fn (.func (σ f)) cap,args:=us }∧A2 (VR σ X) args (us.toList++cap.toList)
theorem pN.dr{X X':Wd}(m:my X.H.length X X'){x:dm}{d:Deferred}(h:pN σ X x d):pN σ X' x d:=by
 cases x with
 | hY b=>
  obtain⟨L,o,j,g,q⟩:=h;obtain⟨blk',s,l⟩:=m.cC b (If.1 g).1 _ g;cases blk'<;>simp only at l;exact⟨L,_,l L j,s,q⟩
 | fn f args=>
  obtain⟨us,cap,j,g⟩:=h;exact⟨us,cap,j,g.jj fun _ _ h=>VR.dr σ m h⟩
def ez(σ:Nat→FuncId)(X:Wd)(ds:List dm)(b:List Deferred):Prop:=A2 (pN σ X) ds b
theorem pN.ext'{X X':Wd}(b:Ext X.H.length X X'){x:dm}{d:Deferred}(h:pN σ X x d):pN σ X' x d:=pN.dr b.W h
theorem ez.dr{X X':Wd}(b:my X.H.length X X'){ds:List dm}{ms:List Deferred}(h:ez σ X ds ms):ez σ X' ds ms:=h.jj fun _ _ h=>pN.dr b h
theorem ez.ext'{X X':Wd}(b:Ext X.H.length X X'){ds:List dm}{ms:List Deferred}(h:ez σ X ds ms):ez σ X' ds ms:=h.jj fun _ _ h=>pN.ext' b h
def mC(Q:Program)(σ:Nat→FuncId)(X:Wd)(o:Oper)(a:Act)(d:Frame→Prop)(v:V)(H':aj)(ds:List dm):Prop:=
 ∀(b:Frame) (ops:Array Oper) (i:Nat) (rest:List Nat) (k:List Item) (cs:List Frame),ops[i]?=aa o→Region.wanted o (yielded ops a.tmps)=ae→gm b cs→d b →
  ∃(X':Wd) (u:Value) (a':Act),Steps Q (lone (b.atR a (.inRegion ops (i::rest)::k)) cs X.w) (lone (b.atR (a'.put o.dst u) (.inRegion ops rest::k)) cs X'.w)∧eB Q σ X v H' X' u∧a'.tmps=a.tmps∧ez σ X' ds a'.defers
theorem cq.L4{o:Oper}{a:Act}{v:V}{H':aj}(h:cq Q σ X o a v H'){ds:List dm}(j:ez σ X ds a.defers){ok:Frame→Prop}:mC Q σ X o a ok v H' ds:=by
 intro b ops i rest k cs ho m l _;obtain⟨X',u,g,d⟩:=h b ops i rest k cs ho m l;exact⟨X',u,a,g,d,rfl,j.ext' d.2.2.2.1⟩
theorem cq.ahead(y:SR Q σ X){d H':aj}(g:cA X.H d){o:Oper}{a:Act}{v:V}(h:cq Q σ { X with H:=d } o a v H'):cq Q σ X o a v H':=by
 intro b ops i rest k cs ho A z;obtain⟨X',u,j,l,m,q,s,x⟩:=h b ops i rest k cs ho A z;exact⟨X',u,j,l,m,q,(SR.ahead y g).2.trans (s.mono g.len),x⟩
def fe(d:cj)(b:Frame):Prop:=b.roundOf=ab∨d.dA=ae
theorem zh(y:SR Q σ X)(x:X.B≤X.w.heap.size){a:Act}{o:Oper}(g:df Q σ o .recover=ae){ds:List dm}(z:ez σ X ds a.defers):mC Q σ X o a (fe .recover) (.c (.f .kG)) X.H ds:=by
 intro b ops i rest k cs v B A q;have q:b.roundOf=ab:=q.elim id fun h=>by simp [cj.dA]at h
 simp only [df]at g;split at g
 ·rename_i c u;simp only [dk]at g;split at g
  ·rename_i j;have l:(execOp a.eval o).run Q X.w=.ok .recover X.w:=by
    simp [execOp,u,resolve,j,invoke,builtin]
   refine⟨X,.nilIface,a,.one (step_lone_go ?_),⟨rfl,y,bS.kG,Ext.refl _ _,x⟩,rfl,z⟩;rw [stepGR_op v B,Oper.semAt_eq _ _ _ (ja u)];have d:=Frame.finish_atR b a ops i rest k .nilIface;rw [v]at d;simp only [acY]at d;rw [←d];have m:tryRecover (b.atR a (.inRegion ops (i::rest)::k)) cs=ab:=mc.CZ A;have s:(b.atR a (.inRegion ops (i::rest)::k)).roundOf=ab:=q;simp [stepG.apply,Sem.runT_eq,l,m,s]
  ·simp at g
 ·simp at g
theorem Jx(A:SR Q σ X)(z:X.B≤X.w.heap.size){a:Act}{al:T}(u:RR σ X al a.tmps){o:Oper}{x:Arg}{xs:List Arg}(g:df Q σ o (.defer x xs)=ae){ds:List dm}(E:ez σ X ds a.defers)
  {f:Nat} {args:List V} (B:bG (x.ev al) (cK al xs)=aa (.fn f,args)):mC Q σ X o a (fe (.defer x xs)) .top X.H (.fn f args::ds):=by
 intro b ops i rest k cs v H J m;have m:b.roundOf=ab:=m.elim id fun h=>by simp [cj.dA]at h
 simp only [df]at g;split at g
 ·rename_i c j;split at g
  ·rename_i y I;simp only [BY]at g;have F:=lT B (bj u g.1) (kC u g.2);obtain⟨fst,cap,q,s⟩:=F;have l:(execOp a.eval o).run Q X.w=.ok (.defer { target:=.fn (.func (σ f)) cap.toArray,args:=fst.toArray++c.args.map a.eval }) X.w:=by
    simp [execOp,j,resolve,I,q,Deferred.ofValue]
   refine⟨X,undef,{ a with defers:={ target:=.fn (.func (σ f)) cap.toArray,args:=fst.toArray++c.args.map a.eval }::a.defers },.one (step_lone_go ?_),⟨rfl,A,trivial,Ext.refl _ _,z⟩,rfl,A2.cons ⟨_,_,rfl,by simpa using s⟩ E⟩;rw [stepGR_op v H,m,Oper.semAt_none];have d:=Frame.finish_atR b { a with defers:={ target:=.fn (.func (σ f)) cap.toArray,args:=fst.toArray++c.args.map a.eval }::a.defers } ops i rest k undef;rw [v]at d;simp only [acY]at d;rw [←d];simp [stepG.apply,Sem.runT_eq,l,Frame.atR]
  ·simp at g
 ·simp at g
theorem nb{o:Oper}{b:cj}(g:df Q σ o b=ae)(j:∀ x xs,b≠.defer x xs)(l:b≠.bad):∀ c,o.op≠.defer c:=by
 intro c d;cases b
 case pre o sz=>cases o<;>simp [df,d]at g
 case defer x xs=>exact j _ _ rfl
 case bad=>exact l rfl
 all_goals simp [df,d]at g
theorem AL(A:ea Q σ call)(j:SR Q σ X)(m:X.B≤X.w.heap.size){a:Act}{s s':St}(q:X.H=s.heap)(u:RR σ X s.al a.tmps)(y:ez σ X s.defs a.defers){o:Oper}{g:cj}(l:df Q σ o g=ae){v:V}
  (h:dO call s g=aa (v,s')):mC Q σ X o a (fe g) v s'.heap s'.defs∧s'.al=s.al:=by
 by_cases E:(∃ f xs h,g=.call f xs h)∨(∃ x xs h,g=.bH x xs h)∨g=.recover∨∃ x xs,g=.defer x xs
 ·rcases E with⟨f,xs,L,rfl⟩ | ⟨x,xs,L,rfl⟩ | rfl | ⟨x,xs,rfl⟩
  ·simp only [dO,IN,IS]at h;obtain⟨⟨I,H'⟩,d,rfl,rfl⟩:=h;refine⟨cq.L4 ?_ y,rfl⟩;unfold ff at d;split at d
   ·exact vF A j m u l (q▸d)
   ·have z:cA X.H H':=by
     have b:=d;unfold dD at b;split at b
     ·simp at b
     ·split at b
      ·simp at b
      ·split at b
       ·simp at b
       ·simp only [sh,IS]at b;rw [←b.2,q];exact(lb _ _ _).ext
    obtain⟨J,K⟩:=SR.ahead j z;refine cq.ahead j z ?_;exact vG A (X:={ X with H:=H' }) J m (u.ext' σ K) l d (cA.refl _)
  ·simp only [dO]at h;split at h
   ·rename_i c args B;simp only [IN,IS]at h;obtain⟨⟨I,H'⟩,d,rfl,rfl⟩:=h;exact⟨cq.L4 (Jq A j m u l B (q▸d)) y,rfl⟩
   ·simp at h
  ·simp only [dO,sh,IS]at h;obtain⟨rfl,rfl⟩:=h;rw [←q];exact⟨zh j m l y,rfl⟩
  ·simp only [dO]at h;split at h
   ·rename_i f args B;simp only [sh,IS]at h;obtain⟨rfl,rfl⟩:=h;refine⟨?_,rfl⟩;rw [←q];exact Jx j m u l y B
   ·simp at h
 ·have F:(aW s.al s.heap g).map (fun r=>(r.1,{ s with heap:=r.2 }))=aa (v,s'):=by
   cases g<;>first | exact h | (exfalso;apply E;simp)
  simp only [IN,IS]at F;obtain⟨⟨I,H'⟩,d,rfl,rfl⟩:=F;refine⟨cq.L4 (cq.Zo (nb l ?_ ?_) (W1 j m u l (q▸d))) y,rfl⟩
  ·rintro x xs rfl;exact E (.inr (.inr (.inr ⟨x,xs,rfl⟩)))
  ·rintro rfl;simp [aW]at d
end
section
variable{Q:Program}{σ:Nat→FuncId}{X:Wd}{call:bQ}
structure Fr(Q:Program)(σ:Nat→FuncId)(n:Nat)(X:Wd)(s:St)(a:Act):Prop where
 heap:X.H=s.heap
 sr:SR Q σ X
 b:X.B≤X.w.heap.size
 al:RR σ X s.al a.tmps
 defs:ez σ X s.defs a.defers
 size:n≤a.tmps.size
theorem ly{n:Nat}{ops:Array Oper}{o:Oper}{m:aH}(F:iY Q σ n ops o m=ae){al:T}{tmps:Array Value}(I:∀ p w',m.g=aa (p,w')→VR σ X (al.get p) (tmps.getD p.toNat undef))(K:n≤tmps.size){w:Bool}(h:wanted al m.g=aa w) :
  Region.wanted o (yielded ops tmps)=w:=by
 simp only [iY,BY]at F;obtain⟨_,b⟩:=F;unfold Region.wanted;cases x:o.guard with
 | none=>
  rw [x]at b;cases g:m.g with
  | none=>rw [g]at h;simp only [wanted,sh]at h;simpa using h| some q=>rw [g]at b;simp at b
 | some L=>
  obtain⟨j,N⟩:=L;rw [x]at b;cases g:m.g with
  | none=>rw [g]at b;simp at b
  | some q=>
   obtain⟨p,w'⟩:=q;rw [g]at b h;simp only [BY,beq_iff_eq]at b;obtain⟨rfl,b⟩:=b;split at b
   ·rename_i d J;simp only [BY,beq_iff_eq,decide_eq_true_eq]at b;obtain⟨B,A⟩:=b;have l:=I p _ g;rw [B]at l;have v:d<tmps.size:=adb A K;have s:tmps.getD d undef=tmps[d]:=by simp [Array.getD,v]
    rw [s]at l;simp only [wanted]at h;simp only [yielded,J,acY,Array.getElem?_eq_getElem v];split at h
    ·rename_i H z;rw [z]at l;simp only [sh]at h;have y:bS σ X.F X.w (.bool H) tmps[d]:=l;generalize tmps[d]=u at y;cases y;subst h;simp
    ·rename_i z;rw [z]at l;obtain⟨us,E,M⟩:=l;simp only [sh]at h;subst h;rw [E];simp
    ·simp at h
   ·simp at b
theorem Lf{n:Nat}{ops:Array Oper}{o:Oper}{m:aH}(s:iY Q σ n ops o m=ae){al:T}{a:Act}(q:RR σ X al a.tmps)(x:n≤a.tmps.size){v:V}{u:Value}(y:VR σ X v u) :
  RR σ X (gK al m.dst v) (a.put o.dst u).tmps∧(a.put o.dst u).tmps.size=a.tmps.size∧(a.put o.dst u).defers=a.defers:=by
 simp only [iY,BY]at s;obtain⟨⟨_,b⟩,_⟩:=s;split at b
 ·rename_i d p g j;simp only [BY,beq_iff_eq,decide_eq_true_eq]at b;obtain⟨rfl,l⟩:=b;rw [g,j];exact⟨RR.set σ q (adb l x) y,by simp [Act.put],rfl⟩
 ·rename_i g j;rw [g,j];exact⟨q,rfl,rfl⟩
 ·simp at b
theorem VR.undef:VR σ X (.t []) undef:=⟨[],rfl,A2.nil⟩
theorem L7(L:ea Q σ call){n:Nat}{s s':St}{a:Act}(d:Fr Q σ n X s a){ops:Array Oper}{o:Oper}{m:aH}(j:iY Q σ n ops o m=ae)(h:eo call s m=aa s')
  {b:Frame} {i:Nat} {rest:List Nat} {k:List Item} {cs:List Frame} (x:ops[i]?=aa o) (M:gm b cs) (N:fe m.op b) :
  ∃ X' a',Steps Q (lone (b.atR a (.inRegion ops (i::rest)::k)) cs X.w) (lone (b.atR a' (.inRegion ops rest::k)) cs X'.w)∧Fr Q σ n X' s' a'∧Ext X.H.length X X'∧a'.tmps.size=a.tmps.size:=by
 unfold eo at h;split at h
 ·rename_i g;have g:=ly j (fun p w' _=>d.al p) d.size g;split at h
  ·rename_i v O I;simp only [sh]at h;subst h;have l:df Q σ o m.op=ae:=by simp only [iY,BY]at j;exact j.1.1
   obtain⟨J,K⟩:=AL L d.sr d.b d.heap d.al d.defs l I;obtain⟨X',u,a',z,⟨A,B,E,y,F⟩,q,H⟩:=J b ops i rest k cs x g M N;obtain⟨p1,p2,p3⟩:=Lf j (X:=X') (a:=a') (by rw [q];exact d.al.ext' σ y) (by rw [q];exact d.size) E;refine⟨X',a'.put o.dst u,z,⟨A,B,F,?_,by rw [p3];exact H,by rw [p2,q];exact d.size⟩,y,by rw [p2,q]⟩;simpa [K]using p1
  ·simp at h
 ·rename_i g;have g:=ly j (fun p w' _=>d.al p) d.size g;simp only [sh]at h;subst h;obtain⟨p1,p2,p3⟩:=Lf j d.al d.size (VR.undef (σ:=σ) (X:=X));refine⟨X,a.put o.dst undef,.one ?_,⟨d.heap,d.sr,d.b,p1,by rw [p3];exact d.defs,by rw [p2];exact d.size⟩,Ext.refl _ _,p2⟩;have:=stepR_op_skip (P:=Q) (b:=b) (a:=a) (k:=k) (cs:=cs) (w:=X.w) (ops:=ops) (i:=i) (rest:=rest) (by simp [x,g]);rw [x]at this;exact this
 ·simp at h
theorem AO(H:ea Q σ call){n:Nat}{ops:Array Oper}{b:Frame}{k:List Item}{cs:List Frame}(I:gm b cs):∀(aos:List aH) (j:Nat) (X:Wd) (s s':St) (a:Act),Fr Q σ n X s a →
  eC (iY Q σ n ops) (ops.toList.drop j) aos=ae→(∀ ao ∈ aos,fe ao.op b)→ej call aos s=aa s' →
  ∃ X' a',Steps Q (lone (b.atR a (.inRegion ops ((List.range ops.size).drop j)::k)) cs X.w) (lone (b.atR a' k) cs X'.w)∧Fr Q σ n X' s' a'∧Ext X.H.length X X'∧a'.tmps.size=a.tmps.size
 | [],j,X,s,s',a,A,d,_,h=>by
  simp only [ej,sh]at h;subst h;have S:(List.range ops.size).drop j=[]:=by
   cases g:ops.toList.drop j with
   | nil=>
    have:=aen.1 g;simp at this;rw [aen];simpa using this
   | cons x xs=>rw [g]at d;simp [eC]at d
  rw [S];exact⟨X,a,.one stepR_region_end,A,Ext.refl _ _,rfl⟩
 | ao::aos,j,X,s,s',a,A,d,J,h=>by
  cases g:ops.toList.drop j with
  | nil=>rw [g]at d;simp [eC]at d
  | cons o os=>
   rw [g]at d;simp only [eC,BY]at d;have v:j<ops.toList.length:=by
    rcases ac6 j ops.toList.length with q | q
    ·exact q
    ·rw [aen.2 q]at g;simp at g
   have l:=acP v;rw [g]at l;simp only [List.cons.injEq]at l;obtain⟨U,F⟩:=l;simp only [ej]at h;split at h
   ·rename_i s1 q;have m:(List.range ops.size).drop j=j ::(List.range ops.size).drop (j+1):=by
     rw [acP (by simpa using v)];simp
    rw [m];obtain⟨y,a1,M,N,z,O⟩:=L7 H A d.1 q (b:=b) (i:=j) (rest:=(List.range ops.size).drop (j+1)) (k:=k) (cs:=cs) (by simp at v;simp [v,U]) I (J _ (by simp));obtain⟨K,L,W,Y,Z,k4⟩:=AO H I aos (j+1) y s1 s' a1 N (by rw [←F];exact d.2) (fun ao h=>J ao (by simp [h])) h;refine⟨K,L,M.trans W,Y,z.trans (Z.mono ?_),k4.trans O⟩;have:=z.cC;rcases ac6 y.H.length X.H.length with u | E
    ·obtain⟨blk',B,_⟩:=z.cC y.H.length u _ (By u);have:=(If.1 B).1;omega
    ·exact E
   ·simp at h
end
theorem iT{r r':T}{x:Arg}(h:∀ p ∈ x.rd,r.get p=r'.get p):x.ev r=x.ev r':=by
 cases x with
 | r p=>exact h p (by simp [Arg.rd])
 | k v=>rfl
theorem C1{r r':T}{x:Option Arg}(h:∀ p ∈ U0 x,r.get p=r'.get p):x.map (·.ev r)=x.map (·.ev r'):=by
 cases x with
 | none=>rfl| some x=>simp only [ac8];rw [iT h]
theorem eO{r r':T}{xs:List Arg}(h:∀ p ∈ xs.flatMap Arg.rd,r.get p=r'.get p):cK r xs=cK r' xs:=by
 unfold cK;refine List.map_congr_left fun x d=>iT fun p b=>h p (aeb.2 ⟨x,d,b⟩)
theorem gq{r r':T}:∀(ps:List (Nat × Nat × Arg)) (cs:List C),(∀ p ∈ ps.flatMap (fun q=>q.2.2.rd),r.get p=r'.get p)→cT r cs ps=cT r' cs ps
 | [],cs,_=>rfl
 | (off,n,x)::ps,cs,h=>by
  simp only [cT];rw [iT (x:=x) (r:=r) (r':=r') fun p b=>h p (by simp [b])];split
  ·split
   ·exact gq ps _ fun p b=>h p (by simp only [List.flatMap_cons,acG];exact .inr b)
   ·rfl
  ·rfl
theorem zw{r r':T}{H:aj}{u:cj}(h:∀ p ∈ u.rd,r.get p=r'.get p):aW r H u=aW r' H u:=by
 have e:∀ x:Arg,(∀ p ∈ x.rd,p ∈ u.rd)→x.ev r=x.ev r':=fun x E=>iT fun p d=>h p (E p d);have g:∀ x:Option Arg,(∀ p ∈ U0 x,p ∈ u.rd)→x.map (·.ev r)=x.map (·.ev r'):=fun x E=>C1 fun p d=>h p (E p d);cases u
 case build zs ps=>simp only [aW];rw [gq ps _ h]
 case aZ sz zs n ps=>
  simp only [aW];rw [gq (r:=r) (r':=r') (ps.map fun p=>(p.1*sz,sz,p.2)) _ fun p d=>h p (by
   simp only [aeb,adx]at d;obtain⟨q,⟨q',j,rfl⟩,B⟩:=d;exact aeb.2 ⟨q',j,B⟩)]
 case fT sz zs n ps=>
  simp only [aW];rw [gq (r:=r) (r':=r') (ps.map fun p=>(p.1*sz,sz,p.2)) _ fun p d=>h p (by
   simp only [aeb,adx]at d;obtain⟨q,⟨q',j,rfl⟩,B⟩:=d;exact aeb.2 ⟨q',j,B⟩)]
 case eT f xs=>simp only [aW];rw [eO h]
 case pick c a b=>
  simp only [aW];rw [e c (by simp +contextual [cj.rd])];split
  ·rename_i v _;cases v<;>simp [e a (by simp +contextual [cj.rd]),e b (by simp +contextual [cj.rd])]
  ·rfl
 case slice sz x lo A mx=>simp only [aW];rw [e x (by simp +contextual [cj.rd]),g lo (by simp +contextual [cj.rd]),g A (by simp +contextual [cj.rd]),g mx (by simp +contextual [cj.rd])]
 case lM n sz x lo A mx=>simp only [aW];rw [e x (by simp +contextual [cj.rd]),g lo (by simp +contextual [cj.rd]),g A (by simp +contextual [cj.rd]),g mx (by simp +contextual [cj.rd])]
 case nA x lo A=>simp only [aW];rw [e x (by simp +contextual [cj.rd]),g lo (by simp +contextual [cj.rd]),g A (by simp +contextual [cj.rd])]
 case iZ F m k v=>simp only [aW];rw [e m (by simp +contextual [cj.rd]),e k (by simp +contextual [cj.rd]),e v (by simp +contextual [cj.rd])]
 case cb x=>simp only [aW];rw [e x (by simp +contextual [cj.rd])]
 case box x=>simp only [aW];rw [e x (by simp +contextual [cj.rd])]
 case load n x=>simp only [aW];rw [e x (by simp +contextual [cj.rd])]
 case bp x=>simp only [aW];rw [e x (by simp +contextual [cj.rd])]
 case un o x=>simp only [aW];rw [e x (by simp +contextual [cj.rd])]
 case gF k x=>simp only [aW];rw [e x (by simp +contextual [cj.rd])]
 case tx x=>simp only [aW];rw [e x (by simp +contextual [cj.rd])]
 case tw x=>simp only [aW];rw [e x (by simp +contextual [cj.rd])]
 case yk x=>simp only [aW];rw [e x (by simp +contextual [cj.rd])]
 case aJ o x=>simp only [aW];rw [e x (by simp +contextual [cj.rd])]
 case field o n x=>simp only [aW];rw [e x (by simp +contextual [cj.rd])]
 case range x=>simp only [aW];rw [e x (by simp +contextual [cj.rd])]
 case next x=>simp only [aW];rw [e x (by simp +contextual [cj.rd])]
 case extract x i=>simp only [aW];rw [e x (by simp +contextual [cj.rd])]
 case len x=>simp only [aW];rw [e x (by simp +contextual [cj.rd])]
 case lens x=>simp only [aW];rw [e x (by simp +contextual [cj.rd])]
 case cap x=>simp only [aW];rw [e x (by simp +contextual [cj.rd])]
 case entry x=>simp only [aW];rw [e x (by simp +contextual [cj.rd])]
 case ik x=>simp only [aW];rw [e x (by simp +contextual [cj.rd])]
 case lG x=>simp only [aW];rw [e x (by simp +contextual [cj.rd])]
 case clear s z x=>simp only [aW];rw [e x (by simp +contextual [cj.rd])]
 case dZ lo xs=>simp only [aW];rw [eO h]
 case rG f xs=>simp only [aW];rw [eO h]
 case qV s x y z=>simp only [aW];rw [e x (by simp +contextual [cj.rd]),e y (by simp +contextual [cj.rd]),e z (by simp +contextual [cj.rd])]
 case mF s b z x y=>simp only [aW];rw [e x (by simp +contextual [cj.rd]),e y (by simp +contextual [cj.rd])]
 case store n x y=>simp only [aW];rw [e x (by simp +contextual [cj.rd]),e y (by simp +contextual [cj.rd])]
 case bin o x y=>simp only [aW];rw [e x (by simp +contextual [cj.rd]),e y (by simp +contextual [cj.rd])]
 case eq n k x y=>simp only [aW];rw [e x (by simp +contextual [cj.rd]),e y (by simp +contextual [cj.rd])]
 case bh s a x y=>simp only [aW];rw [e x (by simp +contextual [cj.rd]),e y (by simp +contextual [cj.rd])]
 case idxs x y=>simp only [aW];rw [e x (by simp +contextual [cj.rd]),e y (by simp +contextual [cj.rd])]
 case tJ l s n x y=>simp only [aW];rw [e x (by simp +contextual [cj.rd]),e y (by simp +contextual [cj.rd])]
 case append s b x y=>simp only [aW];rw [e x (by simp +contextual [cj.rd]),e y (by simp +contextual [cj.rd])]
 case copy s x y=>simp only [aW];rw [e x (by simp +contextual [cj.rd]),e y (by simp +contextual [cj.rd])]
 case lookup c z x y=>simp only [aW];rw [e x (by simp +contextual [cj.rd]),e y (by simp +contextual [cj.rd])]
 case dh s b z x y=>simp only [aW];rw [e x (by simp +contextual [cj.rd]),e y (by simp +contextual [cj.rd])]
 all_goals rfl
theorem AM{call:bQ}{s:St}{r':T}{d:cj}(h:∀ p ∈ d.rd,s.al.get p=r'.get p){v:V}{s':St}(b:dO call s d=aa (v,s')):dO call { s with al:=r' } d=aa (v,{ s' with al:=r' }):=by
 by_cases g:(∃ f xs h,d=.call f xs h)∨(∃ x xs h,d=.bH x xs h)∨d=.recover∨∃ x xs,d=.defer x xs
 ·rcases g with⟨f,xs,u,rfl⟩ | ⟨x,xs,u,rfl⟩ | rfl | ⟨x,xs,rfl⟩
  ·simp only [dO,IN,IS]at b ⊢;obtain⟨q,j,rfl,rfl⟩:=b;rw [eO h]at j;exact⟨q,j,rfl,rfl⟩
  ·simp only [dO]at b ⊢;rw [iT (x:=x) (r:=s.al) (r':=r') (fun p g=>h p (by simp [cj.rd,g])),eO (xs:=xs) (r:=s.al) (r':=r') (fun p g=>h p (by simp only [cj.rd,acG];exact .inr g))]at b;split at b
   ·simp only [IN,IS]at b ⊢;obtain⟨q,j,rfl,rfl⟩:=b;exact⟨q,j,rfl,rfl⟩
   ·simp at b
  ·simp only [dO,sh,IS]at b ⊢;obtain⟨rfl,rfl⟩:=b;exact⟨rfl,rfl⟩
  ·simp only [dO]at b ⊢;rw [iT (x:=x) (r:=s.al) (r':=r') (fun p g=>h p (by simp [cj.rd,g])),eO (xs:=xs) (r:=s.al) (r':=r') (fun p g=>h p (by simp only [cj.rd,acG];exact .inr g))]at b;split at b
   ·simp only [sh,IS]at b ⊢;obtain⟨rfl,rfl⟩:=b;exact⟨rfl,rfl⟩
   ·simp at b
 ·have l:(aW s.al s.heap d).map (fun r=>(r.1,{ s with heap:=r.2 }))=aa (v,s'):=by
   cases d<;>first | exact b | (exfalso;apply g;simp)
  have m:dO call { s with al:=r' } d=(aW r' s.heap d).map (fun r=>(r.1,{ s with al:=r',heap:=r.2 })):=by
   cases d<;>first | rfl | (exfalso;apply g;simp)
  rw [m,←zw h];simp only [IN,IS]at l ⊢;obtain⟨q,j,rfl,rfl⟩:=l;exact⟨q,j,rfl,rfl⟩
theorem Tn{r:T}{b:cj}(d:cls b=.p)(H H':aj):aW r H' b=(aW r H b).map fun q=>(q.1,H'):=by
 cases b<;>simp only [cls,reduceCtorEq]at d<;>simp only [aW]
 all_goals first
  | (simp [Function.comp_def];done)
  | (split<;>simp [Function.comp_def];done)
  | (split<;>(first | rfl | (split<;>rfl)))
section
theorem ef{H H':aj}(l:cA H H')(b:Nat):H[b]?=ab∨(∃ cs fl g,H[b]?=aa (.box cs fl)∧H'[b]?=aa (.box cs g)) ∨
  (∃ s cs fl g e st,H[b]?=aa (.bA s cs fl e st)∧H'[b]?=aa (.bA s cs g e st))∨∃ aS,H[b]?=aa aS∧H'[b]?=aa aS:=by
 cases m:H[b]? with
 | none=>exact .inl rfl
 | some aS=>
  obtain⟨blk',d,j⟩:=l b _ m;cases aS<;>cases blk'<;>simp only [cG,reduceCtorEq]at j
  ·obtain⟨rfl,_⟩:=j;exact .inr (.inl ⟨_,_,_,rfl,d⟩)
  ·obtain⟨rfl,rfl,_,rfl,rfl⟩:=j;exact .inr (.inr (.inl ⟨_,_,_,_,_,_,rfl,d⟩))
  all_goals (rw [←j]at d;exact .inr (.inr (.inr ⟨_,rfl,d⟩)))
variable{H H':aj}
theorem vI(j:cA H H'){x:C}{cs:List C}(h:bo H x=aa cs):bo H' x=aa cs:=by
 cases x with
 | ptr b off m=>
  simp only [bo]at h ⊢;rcases ef j b with e | ⟨cs,fl,g,e,d⟩ | ⟨s,cs,fl,g,l,st,e,d⟩ | ⟨aS,e,d⟩
  ·simp [e]at h
  ·rw [e]at h;rw [d];exact h
  ·rw [e]at h;rw [d];cases st<;>exact h
  ·rw [e]at h;rw [d];exact h
 | f x=>cases x<;>exact h
 | _=>simp [bo]at h
theorem PU(g:cA H H'){n:Option Nat}{x:V}{v:V}(h:dz H n x=aa v):dz H' n x=aa v:=by
 cases x with
 | c x=>
  simp only [dz,Option.bind_eq_some_iff]at h ⊢;obtain⟨cs,b,d⟩:=h;exact⟨cs,vI g b,d⟩
 | _=>simp [dz]at h
theorem sZ(j:cA H H'){x:C}{n:Nat}(h:bM H x=aa n):bM H' x=aa n:=by
 cases x with
 | sl b o l c q sz=>
  simp only [bM]at h ⊢;rcases ef j b with e | ⟨cs,fl,g,e,d⟩ | ⟨s,cs,fl,g,m,st,e,d⟩ | ⟨aS,e,d⟩
  ·simp [e]at h
  all_goals (rw [e]at h;rw [d];exact h)
 | f x=>cases x<;>exact h
 | _=>simp [bM]at h
theorem wZ(j:cA H H'){sz:Nat}{x:C}{cs:List C}(h:cW H sz x=aa cs):cW H' sz x=aa cs:=by
 cases x with
 | sl b o l c q s=>
  simp only [cW]at h ⊢;rcases ef j b with e | ⟨cs,fl,g,e,d⟩ | ⟨s,cs,fl,g,m,st,e,d⟩ | ⟨aS,e,d⟩
  ·simp [e]at h
  all_goals (rw [e]at h;rw [d];exact h)
 | f x=>cases x<;>exact h
 | _=>simp [cW]at h
theorem kZ(m:cA H H'){k:Ch}{x:C}{b:Bool}(h:isNil H k x=aa b):isNil H' k x=aa b:=by
 cases k<;>cases x<;>first | exact h | (simp [isNil]at h;done) | skip
 case sl.sl j o l c u s=>
  simp only [isNil]at h ⊢;rcases ef m j with e | ⟨cs,fl,g,e,d⟩ | ⟨s,cs,fl,g,q,st,e,d⟩ | ⟨aS,e,d⟩
  ·simp [e]at h
  all_goals (rw [e]at h;rw [d];exact h)
 all_goals (rename_i y;cases y<;>exact h)
theorem Pu(d:cA H H'){k:Ch}{x y:V}{b:Bool}(h:JH H k x y=aa b):JH H' k x y=aa b:=by
 unfold JH at h;split at h
 ·exact h
 ·exact h
 ·exact kZ d h
 ·exact kZ d h
 ·exact kZ d h
 ·exact kZ d h
 ·simp at h
theorem zr(l:cA H H'){sz:Nat}{x:V}{lo j mx:Option V}{v:V}(h:dL H sz x lo j mx=aa v):dL H' sz x lo j mx=aa v:=by
 unfold dL at h;split at h
 ·exact h
 ·exact h
 ·exact h
 ·rename_i b o n cap q s;simp only [dL];rcases ef l b with e | ⟨cs,fl,g,e,d⟩ | ⟨s,cs,fl,g,m,st,e,d⟩ | ⟨aS,e,d⟩
  ·simp [e]at h
  all_goals (rw [e]at h;rw [d];exact h)
 ·simp at h
theorem zp(l:cA H H'){n sz:Nat}{x:V}{lo j mx:Option V}{v:V}(h:il H n sz x lo j mx=aa v):il H' n sz x lo j mx=aa v:=by
 unfold il at h;split at h
 ·rename_i b off q;simp only [il];rcases ef l b with e | ⟨cs,fl,g,e,d⟩ | ⟨s,cs,fl,g,m,st,e,d⟩ | ⟨aS,e,d⟩
  ·simp [e]at h
  all_goals (rw [e]at h;rw [d];exact h)
 ·exact h
 ·simp at h
theorem vZ(m:cA H H'){sz:Nat}{d:Option Nat}{x i:V}{v:V}(h:a6 H sz d x i=aa v):a6 H' sz d x i=aa v:=by
 unfold a6 at h ⊢;split at h
 ·simp at h
 ·split at h
  ·rename_i q;simp only [q,if_true];split at h
   ·rename_i b o l c z s;split at h
    ·rename_i u;simp only [u,if_true];rcases ef m b with e | ⟨cs,fl,j,e,g⟩ | ⟨s,cs,fl,j,y,st,e,g⟩ | ⟨aS,e,g⟩
     ·simp [e]at h
     ·rw [e]at h;rw [g];exact h
     ·rw [e]at h;rw [g];cases st<;>exact h
     ·rw [e]at h;rw [g];exact h
    ·simp at h
   ·exact h
   ·exact h
   ·exact h
   ·simp at h
  ·simp at h
theorem wb(l:cA H H'){j:CK}{z:FC}{m k:V}{v:V}(h:gk H j z m k=aa v):gk H' j z m k=aa v:=by
 unfold gk at h;split at h
 ·exact h
 ·rename_i b k;simp only [gk];rcases ef l b with e | ⟨cs,fl,g,e,d⟩ | ⟨s,cs,fl,g,q,st,e,d⟩ | ⟨aS,e,d⟩
  ·simp [e]at h
  all_goals (rw [e]at h;rw [d];exact h)
 ·simp at h
theorem Cx(d:cA H H'){x v:V}(h:lF H x=aa v):lF H' x=aa v:=by
 cases x with
 | c x=>
  simp only [lF]at h ⊢;split at h
  ·rename_i n g;split at h
   ·rename_i cs b;rw [sZ d g,wZ d b];exact h
   ·simp at h
  ·simp at h
 | _=>simp [lF]at h
theorem DM(j:cA H H'){x:C}{n:Nat}(h:jU H x=aa n):jU H' x=aa n:=by
 cases x with
 | sl b o l c q sz=>
  simp only [jU]at h ⊢;rcases ef j b with e | ⟨cs,fl,g,e,d⟩ | ⟨s,cs,fl,g,m,st,e,d⟩ | ⟨aS,e,d⟩
  ·simp [e]at h
  ·rw [e]at h;rw [d];exact h
  ·rw [e]at h;rw [d];cases st<;>exact h
  ·rw [e]at h;rw [d];exact h
 | f x=>cases x<;>exact h
 | _=>simp [jU]at h
theorem P2(l:cA H H'){b:Nat}{d:List (FC × C)}(h:H[b]?=aa (.map d)):H'[b]?=aa (.map d):=by
 obtain⟨blk',j,g⟩:=l b _ h;cases blk'<;>simp only [cG,reduceCtorEq,bK.map.injEq]at g;subst g;exact j
theorem P4(l:cA H H'){b m s:Nat}{d:Bool}(h:H[b]?=aa (.rk m s d)):H'[b]?=aa (.rk m s d):=by
 obtain⟨blk',j,g⟩:=l b _ h;cases blk'<;>simp only [cG,reduceCtorEq,bK.rk.injEq]at g;obtain⟨rfl,rfl,rfl⟩:=g;exact j
theorem yq(b:cA H H'){x v:V}(h:jx H x=aa v):jx H' x=aa v:=by
 unfold jx at h;split at h
 ·split at h
  ·rename_i d;split at h
   ·rename_i g;simp only [jx,P4 b d,P2 b g];exact h
   ·simp at h
  ·simp at h
 ·simp at h
theorem AN{r:T}{g:cj}(m:cls g=.r)(b:cA H H'){v:V}{l:aj}(h:aW r H g=aa (v,l)):l=H∧aW r H' g=aa (v,H'):=by
 cases g<;>first | (simp only [aW,reduceCtorEq]at h;done) | (simp only [cls,reduceCtorEq]at m;done) | simp only [aW]at h ⊢
 case len x=>
  split at h
  ·rename_i y s;split at h
   ·rename_i n j;simp only [sh,IS]at h;obtain⟨rfl,rfl⟩:=h;simp only [sZ b j];simp
   ·simp at h
  ·simp at h
 case cap x=>
  split at h
  ·rename_i y s;split at h
   ·rename_i n j;simp only [sh,IS]at h;obtain⟨rfl,rfl⟩:=h;simp only [DM b j];simp
   ·simp at h
  ·simp at h
 all_goals
  simp only [IN,IS]at h;obtain⟨q,d,rfl,rfl⟩:=h;refine⟨rfl,?_⟩
 case entry=>rw [yq b d];rfl
 case load=>rw [PU b d];rfl
 case eq=>rw [Pu b d];rfl
 case slice=>rw [zr b d];rfl
 case lM=>rw [zp b d];rfl
 case bh=>rw [vZ b d];rfl
 case lookup=>rw [wb b d];rfl
 case tw=>rw [Cx b d];rfl
theorem aam{r:T}{g:cj}(j:cls g=.a){v:V}{d:aj}(h:aW r H g=aa (v,d)):d=H∨∃ aS,d=H++[aS]:=by
 cases g<;>first | (simp only [cls,reduceCtorEq]at j;done) | simp only [aW]at h
 case call=>simp at h
 case alloc zs=>simp only [sh,IS]at h;exact .inr ⟨_,h.2.symm⟩
 case gW=>simp only [sh,IS]at h;exact .inr ⟨_,h.2.symm⟩
 case box x=>
  split at h
  ·simp only [sh,IS]at h;exact .inr ⟨_,h.2.symm⟩
  ·simp at h
 case aZ sz zs n ps=>
  split at h
  ·split at h
   ·simp only [sh,IS]at h;exact .inl h.2.symm
   ·simp at h
  ·simp only [IN,IS]at h;obtain⟨q,l,rfl,rfl⟩:=h;exact .inr ⟨_,rfl⟩
 case dh sz b zs x y=>
  split at h
  ·split at h
   ·split at h
    ·simp only [sh,IS]at h;exact .inl h.2.symm
    ·simp only [sh,IS]at h;exact .inr ⟨_,h.2.symm⟩
   ·simp at h
  ·simp at h
end
section
variable{Q:Program}{σ:Nat→FuncId}{X:Wd}
theorem zX(d:SR Q σ X)(l:X.B≤X.w.heap.size){n:Nat}{cs:List C}{fl:Nat}(s:X.H[n]?=aa (.box cs fl))(u:X.bI n=ab){us:List Value}(h:A2 (CR σ X) cs us)(e:TypeId) :
  ∃ X',X'.w=X.w.alloc (.cells us.toArray e)∧X'.H=X.H∧SR Q σ X'∧Ext X.H.length X X'∧X'.bI n=aa ⟨X.w.heap.size,0⟩∧X'.B≤X'.w.heap.size∧∀ b,b≠n→X'.bI b=X.bI b:=by
 obtain⟨g,j⟩:=SR.fill d l s u (dp.alloc X.w (.cells us.toArray e)) 0 (fun v=>⟨us,jf (dp.alloc _ _),A2.ext' σ v h,fun i _ q=>by
  have:=d.fb _ _ q;simp at this⟩)
 exact⟨{ X with bI:=fun b=>if b=n then aa ⟨X.w.heap.size,0⟩else X.bI b,w:=X.w.alloc (.cells us.toArray e) },rfl,rfl,g,j,by simp,by simp;omega,fun b m=>by simp [m]⟩
def xP(Q:Program)(σ:Nat→FuncId)(X:Wd)(n:Nat)(v:V)(s:Sem Next)(e:Prop):Prop:=
 ∃ X' u,s.run Q X.w=.ok (.value u) X'.w∧eB Q σ X v X.H X' u∧(∀ b,b≠n→X'.bI b=X.bI b)∧(e→X'.bI=X.bI)
theorem vO(y:SR Q σ X)(x:X.B≤X.w.heap.size){n:Nat}{cs:List C}{fl:Nat}(g:X.H[n]?=aa (.box cs fl))(A:X.bI n=ab){us:List Value}(h:A2 (CR σ X) cs us)(e:TypeId){s:Sem Next}{b:Prop}(z:¬ b)
  (B:s.run Q X.w=.ok (.value (.pointer (aa ⟨X.w.heap.size,0,ab⟩))) (X.w.alloc (.cells us.toArray e))):xP Q σ X n (.c (.ptr n 0 0)) s b:=by
 obtain⟨X',j,d,l,m,q,u,v⟩:=zX y x g A h e;refine⟨X',_,by rw [j];exact B,⟨d,l,?_,m,u⟩,v,fun h=>absurd h z⟩;exact⟨_,q,by rw [d,g]⟩
theorem zY(A:SR Q σ X)(z:X.B≤X.w.heap.size){n:Nat}{cs:List C}{fl:Nat}(j:X.H[n]?=aa (.box cs fl))(E:X.bI n=ab){us:List Value}(h:A2 (CR σ X) cs us)(e:TypeId){s:Sem Next}{l c sz:Nat}(b:l≤c){d:Prop}(B:¬ d)
  (F:s.run Q X.w=.ok (.value (.slice (aa ⟨X.w.heap.size,0,ab⟩) l c)) (X.w.alloc (.cells us.toArray e))):xP Q σ X n (.c (.sl n 0 l c 0 sz)) s d:=by
 obtain⟨X',m,g,q,u,v,x,y⟩:=zX A z j E h e;refine⟨X',_,by rw [m];exact F,⟨g,q,?_,u,x⟩,y,fun h=>absurd h B⟩;simp only [VR,fX,CR,eK,g,j];exact⟨_,v,b,rfl⟩
theorem mT{H b:aj}{cs:List C}(h:cA (H++[.box cs 0]) b):∃ fl,b[H.length]?=aa (.box cs fl):=by
 obtain⟨blk',g,d⟩:=h H.length (.box cs 0) (by simp);cases blk'<;>simp only [cG,reduceCtorEq]at d;obtain⟨rfl,_⟩:=d;exact⟨_,g⟩
theorem wY{w':World}{o:Obj}(g:SR Q σ X)(d:dp X.w w' o)(q:X.B≤X.w.heap.size):∃ X':Wd,X'.w=w'∧X'.H=X.H∧SR Q σ X'∧Ext X.H.length X X'∧X'.B≤X'.w.heap.size∧X'.bI=X.bI:=by
 have j:Ext X.H.length X { X with w:=w' }:=Ext.one g X.H.length rfl (fun _ _=>Iff.rfl) (fun k m _=>d.xj m)
  (fun L i h=>by rw [SR.oB g]at h;simp at h) (fun h=>absurd h (aec _)) (fun _ _ _=>rfl) (fun _ _=>rfl) (fun L h=>.inl ⟨L,h,rfl⟩) (by show _≤w'.heap.size;rw [d.size];omega) d.os d.tape d.output
 refine⟨{ X with w:=w' },rfl,rfl,SR.step Q σ g j X.H.length (fun _ _=>rfl) (fun _ _=>rfl) (fun b L _ l=>d.xj (g.br b L l).2.1)
  (fun _ _ _ _ _ h=>h) (fun L h=>by change X.bI X.H.length=aa L at h;rw [SR.oB g]at h;simp at h) (fun c i h=>?_),j,?_,rfl⟩
 ·have:=g.fb c i h;show c<w'.heap.size;rw [d.size];omega
 ·show X.B≤w'.heap.size;rw [d.size];omega
theorem PS(M:SR Q σ X)(L:X.B≤X.w.heap.size){a:Act}{al:T}(hR:RR σ X al a.tmps){o:Oper}{op:cj}(hc:cls op=.a)(d:df Q σ o op=ae){H H1:aj}{v:V}(h:aW al H op=aa (v,H1))
  (hH:cA H1 X.H) (W:H1.length≠H.length→X.bI H.length=ab):xP Q σ X H.length v (execOp a.eval o) (H1.length=H.length):=by
 cases op<;>first | (simp only [cls,reduceCtorEq]at hc;done) | skip
 case call f xs h'=>simp [aW]at h
 case alloc zs=>
  simp only [aW,sh,IS]at h;obtain⟨rfl,rfl⟩:=h;obtain⟨fl,F⟩:=mT hH;simp only [df]at d;split at d
  ·rename_i t B;obtain⟨z,us,h1,K,h3,_⟩:=dN (σ:=σ) (X:=X) d X.w;refine vO M L F (W (by simp)) h3 t (by simp) ?_;simp only [execOp,B];refine dw ?_;simp [Instr.alloc,h1,newVar,newRow,K]
  ·simp at d
 case gW=>
  simp only [aW,sh,IS]at h;obtain⟨rfl,rfl⟩:=h;have F:X.H[H.length]?=aa (.map []):=by
   obtain⟨blk',hb,hl⟩:=hH H.length (.map []) (by simp);cases blk'<;>simp only [cG,reduceCtorEq,bK.map.injEq]at hl;subst hl;exact hb
  simp only [df]at d;split at d
  ·rename_i t B;have W:=W (by simp);obtain⟨h1,K⟩:=SR.fill M L F W (dp.alloc X.w (.map #[] 0)) 0 (fun hx=>⟨[],(dp.alloc _ _).new,A2.nil,by simp⟩);refine⟨{ X with bI:=fun b=>if b=H.length then aa ⟨X.w.heap.size,0⟩else X.bI b,w:=X.w.alloc (.map #[] 0) },.map (aa X.w.heap.size),?_,⟨rfl,h1,⟨⟨X.w.heap.size,0⟩,by simp,⟨[],F⟩,rfl⟩,K,by show X.B≤_;simp;omega⟩,fun b hb=>by simp [hb],fun h=>by simp at h⟩;simp [execOp,B,Instr.makeMap]
  ·simp at d
 case box x=>
  simp only [aW]at h;split at h
  ·rename_i xs d7;simp only [sh,IS]at h;obtain⟨rfl,rfl⟩:=h;obtain⟨fl,F⟩:=mT hH;simp only [df]at d;split at d
   ·rename_i t y B;obtain⟨us,K,h3⟩:=mI (bj hR d) d7;refine vO M L F (W (by simp)) h3 t (by simp) ?_;simp only [execOp,B];refine dw ?_;simp [Instr.box,newVar,newRow,K]
   ·simp at d
  ·simp at h
 case aZ sz zs n ps=>
  simp only [df]at d;split at d
  ·rename_i t n' qs B;simp only [BY,beq_iff_eq,decide_eq_true_eq]at d;obtain⟨⟨⟨⟨rfl,s⟩,E⟩,f4⟩,hq⟩:=d;obtain⟨e,hu,E⟩:=fD E;simp only [BY,decide_eq_true_eq]at E;obtain⟨⟨j,hz⟩,d9⟩:=E;obtain⟨z,us,Y,Z,A,_⟩:=dN (σ:=σ) (X:=X) hz X.w;have I:us.length=sz:=by have:=A.len;simp at this;omega
   simp only [aW]at h;split at h
   ·rename_i F;subst F;split at h
    ·rename_i b9;simp only [sh,IS]at h;obtain⟨rfl,rfl⟩:=h;have U:qs.toList=[]:=by
      have:=(dH hq).len;simp only [List.isEmpty_iff]at b9;rw [b9]at this;exact acH this.symm
     have U:qs=#[]:=by apply Array.ext';simpa using U
     obtain⟨X',h1,K,h3,h4,h5,h6⟩:=wY M (dp.alloc X.w (.cells #[] e)) L;refine⟨X',.slice (aa ⟨X.w.heap.size,0,ab⟩) 0 0,?_,⟨K,h3,bS.es _,h4,h5⟩,fun b _=>by rw [h6],fun _=>h6⟩;rw [h1];simp only [execOp,B];refine dw ?_;simp [Instr.buildSlice,aN hu,cx j,U,Instr.fill,newRow,show Array.range 0=(#[]:Array Nat) from rfl]
    ·simp at h
   ·rename_i F;simp only [IN,IS]at h;obtain⟨cs,c9,rfl,rfl⟩:=h;obtain⟨fl,O⟩:=mT hH;obtain⟨h_,h5,h6⟩:=kW (place:=fun i=>aa (i*sz,sz)) (ps:=qs.toList) hR (qs:=ps.map fun p=>(p.1*sz,sz,p.2)) (A2.map ((dH hq).jj fun q p S=>by
     simp only [BY,beq_iff_eq]at S;exact⟨by rw [S.1],S.2⟩)) (gO A n') c9
    refine zY M L O (W (by simp)) h6 e (IT _) (by simp) ?_;simp only [execOp,B];refine dw ?_;have c_:n'*sz≠0:=by
     intro h0;rcases aee.1 h0 with h0 | h0<;>omega
    have c7:=fQ us n' (by omega);rw [I]at c7;simp only [Instr.buildSlice,Sem.run_bind,aN hu,cx j,Result.andThen_ok,aU (show¬ n'*sz>2 ^ 24 by omega),Sem.run_ite,aU c_,Y,Sem.run_pure,Z];simp only [Array.toList_map];rw [c7];simp [h5,newRow]
  ·simp at d
 case dh sz bytes zs x y=>
  simp only [df]at d;split at d
  ·rename_i t x' y' B;simp only [BY,decide_eq_true_eq]at d;obtain⟨⟨⟨hx,hy⟩,E⟩,e_⟩:=d;have hx:=bj hR hx;have hy:=bj hR hy;obtain⟨e,hu,E⟩:=fD E;simp only [BY]at E;obtain⟨⟨j,c8⟩,hz⟩:=E;obtain⟨z,us,Y,Z,A,g_,f8,f9⟩:=dN (σ:=σ) (X:=X) hz X.w;obtain⟨f7,a8,a_⟩:=uE c8 X.w;simp only [aW]at h;split at h
   ·rename_i l c hl hc;obtain⟨kl,d6⟩:=gj hx hl;obtain⟨kc,d8⟩:=gj hy hc;split at h
    ·rename_i N;obtain⟨h0,f_,u,d9⟩:=N;unfold bB at u;simp only [BY,decide_eq_true_eq]at u;have I:us.length=sz:=by have:=A.len;simp at this;omega
     have c6:=jM (n:=l) h0 (by omega);have c4:=jM (n:=c) (by omega) (by omega);have d_:c.toNat*bytes≤2 ^ 48:=by
      have:c.toNat*bytes≤(2*c.toNat+768)*bytes:=adi _ (by omega);omega
     have s:¬ ((bytes:Int)*c>2 ^ 48):=by
      have e1:(bytes:Int)*c=((c.toNat*bytes:Nat):Int):=by
       rw [aef,adu];congr 1;omega
      rw [e1];omega
     have b_:((Array.range (c.toNat*sz)).map fun i=>us.toArray[i % us.toArray.size]!)=(bX c.toNat us).toArray:=by
      have:=fQ us c.toNat (by omega);rwa [I]at this
     have run:(execOp a.eval o).run Q X.w=.ok (.value (.slice (aa ⟨X.w.heap.size,0,ab⟩) l.toNat c.toNat)) (X.w.alloc (.cells (bX c.toNat us).toArray e)):=by
      simp only [execOp,B];refine dw ?_;rw [d6,d8];have b6:¬ c<0:=by omega
      have b7:¬ l<0:=by omega
      have J:¬ l>c:=by omega
      by_cases m:c.toNat*sz=0
      ·have d5:bX c.toNat us=[]:=acH (by rw [je,I];exact m);have g:((decide (c<0)||decide ((bytes:Int)*c>2 ^ 48))||decide (l<0)||decide (l>c))=ag:=by rw [decide_eq_false b6,decide_eq_false b7,decide_eq_false J,decide_eq_false s];rfl
       simp only [Instr.makeSlice,Sem.run_bind,aN hu,asInt,asIntOf,Sem.run_pure,Result.andThen_ok,a8,a_,c6,c4,run_askRoom,cx j];simp only [g,acJ,if_false,Sem.run_ite,bf m,Sem.run_bind,Result.andThen_ok,Sem.run_pure,run_askRoom,cx j,newRow,run_newObj];rw [m,d5,show(Array.map (fun x=>(#[]:Array Value)[x % (#[]:Array Value).size]!) (Array.range 0))=#[] from by simp [show Array.range 0=(#[]:Array Nat) from rfl]];rfl
      ·simp only [Instr.makeSlice,Sem.run_bind,aN hu,asInt,asIntOf,Sem.run_pure,Result.andThen_ok,a8,a_,c6,c4,run_askRoom,cx j];have g:((decide (c<0)||decide ((bytes:Int)*c>2 ^ 48))||decide (l<0)||decide (l>c))=ag:=by rw [decide_eq_false b6,decide_eq_false b7,decide_eq_false J,decide_eq_false s];rfl
       simp only [g,acJ,if_false,Sem.run_ite,aU m,Sem.run_bind,Y,Z,Result.andThen_ok,Sem.run_pure,run_askRoom,cx j,b_,newRow,run_newObj];rfl
     split at h
     ·rename_i m;subst m;simp only [sh,IS]at h;obtain⟨rfl,rfl⟩:=h;have:l=0:=by omega
      subst this;obtain⟨X',g1,g2,g3,g4,g5,g6⟩:=wY M (dp.alloc X.w (.cells (bX (0:Int).toNat us).toArray e)) L;exact⟨X',_,by rw [g1];exact run,⟨g2,g3,bS.es _,g4,g5⟩,fun b _=>by rw [g6],fun _=>g6⟩
     ·simp only [sh,IS]at h;obtain⟨rfl,rfl⟩:=h;obtain⟨fl,O⟩:=mT hH;exact zY M L O (W (by simp)) (gO A c.toNat) e (by omega) (by simp) run
    ·simp at h
   ·simp at h
  ·simp at d
end
theorem yP{b:List Nat}{o:Oper}{i:Nat}:(kD b o).testBit i=ae↔∃ e ∈ o.after.toList,Region.binds .any e=ae∧(e.on=i∨(b.getD e.on 0).testBit i=ae):=by
 unfold kD;have key:∀(l:List Edge) (s:Nat),(l.foldl (fun s e=>if Region.binds .any e then s ||| 2 ^ e.on ||| b.getD e.on 0 else s) s).testBit i=ae ↔
   s.testBit i=ae∨∃ e ∈ l,Region.binds .any e=ae∧(e.on=i∨(b.getD e.on 0).testBit i=ae):=by
  intro l;induction l with
  | nil=>intro s;simp
  | cons e l g=>
   intro s;simp only [adY,g,ac2,exists_eq_or_imp];by_cases d:Region.binds .any e=ae
   ·simp only [d,if_true,Nat.testBit_or,Bool.or_eq_true,Nat.testBit_two_pow,decide_eq_true_eq,true_and,or_assoc]
   ·simp [d]
 rw [key];simp
theorem sE:∀(os:List Oper) (b:List Nat),(cR os b).length=b.length+os.length
 | [],b=>by simp [cR]
 | o::os,b=>by rw [cR,sE];simp;omega
theorem oh:∀(os:List Oper) (b:List Nat) (k:Nat),k<b.length→(cR os b)[k]?=b[k]?
 | [],b,k,_=>rfl
 | o::os,b,k,h=>by
  rw [cR,oh os _ k (by simp;omega),AT h]
theorem sF:∀(os:List Oper) (b:List Nat) (t:Nat) (o:Oper),os[t]?=aa o→(cR os b)[b.length+t]?=aa (kD ((cR os b).take (b.length+t)) o)
 | [],b,t,o,h=>by simp at h
 | o'::os,b,0,o,h=>by
  simp only [adH,sh]at h;subst h;have g:∀ k,k<b.length→(cR os (b++[kD b o']))[k]?=b[k]?:=fun k j=>by rw [oh os _ k (by simp;omega),AT j]
  have d:(cR os (b++[kD b o'])).take b.length=b:=by
   apply List.ext_getElem?;intro k;rw [acX];split
   ·rename_i j;exact g k j
   ·rename_i j;rw [ad5 (by omega)]
  rw [cR,Nat.add_zero,d,oh os _ _ (by simp)];simp
 | o'::os,b,t+1,o,h=>by
  simp only [adW]at h;have:=sF os (b++[kD b o']) t o h;rw [cR];rw [show b.length+(t+1)=(b++[kD b o']).length+t by simp;omega];exact this
theorem zJ{ops:List Oper}{i j:Nat}{o:Oper}(l:ops[j]?=aa o) :
  uP (cR ops []) i j=ae↔∃ e ∈ o.after.toList,Region.binds .any e=ae∧(e.on=i∨(e.on<j∧uP (cR ops []) i e.on=ae)):=by
 have h:=sF ops [] j o l;simp only [List.length_nil,adt]at h;unfold uP;rw [adM,h,Option.getD_some,yP];have g:∀ k,((cR ops []).take j).getD k 0=if k<j then(cR ops []).getD k 0 else 0:=by
  intro k;simp only [adM,acX];split<;>simp
 constructor
 ·rintro⟨e,d,b,h⟩;refine⟨e,d,b,h.imp id fun h=>?_⟩;rw [g]at h;split at h
  ·rename_i m;exact⟨m,h⟩
  ·simp at h
 ·rintro⟨e,d,b,h⟩;refine⟨e,d,b,h.imp id fun h=>?_⟩;rw [g,bf h.1];exact h.2
def nK(ops:List Oper)(D:Nat→Prop):Prop:=∀ j o,D j→ops[j]?=aa o→∀ e ∈ o.after.toList,Region.binds .any e=ae→D e.on
theorem nK.below{ops:List Oper}{D:Nat→Prop}(h:nK ops D){i:Nat}:∀(j:Nat),D j→uP (cR ops []) i j=ae→D i:=by
 intro j;induction j using Nat.strongRecOn with
 | ind j s=>
  intro m b;cases ho:ops[j]? with
  | none=>
   exfalso;unfold Km.uP at b;have:(cR ops []).length≤j:=by rw [sE];simpa using adC.1 ho
   rw [adM,ad5 this]at b;simp at b
  | some o=>
   obtain⟨e,l,g,d | ⟨d,q⟩⟩:=(zJ ho).1 b
   ·exact d▸h j o m ho e l g
   ·exact s e.on d (h j o m ho e l g) q
theorem nK.ready{ops:List Oper}{D:Nat→Prop}(h:nK ops D){i j:Nat}{o:Oper}(ho:ops[j]?=aa o)(l:∀ e ∈ o.after.toList,Region.binds .any e=ae→D e.on)(q:uP (cR ops []) i j=ae):D i:=by
 obtain⟨e,g,d,b | ⟨b,m⟩⟩:=(zJ ho).1 q
 ·exact b▸l e g d
 ·exact h.below e.on (l e g d) m
def z7(aos:List aH)(j:Nat):Prop:=∃ y,aos[j]?=aa y∧cls y.op=.w
theorem kE{aos:List aH}{j:Nat}:j ∈ lx aos↔z7 aos j:=by
 unfold lx z7;rw [List.mem_filter,List.mem_range];constructor
 ·rintro⟨_,h⟩;split at h
  ·rename_i y b;exact⟨y,b,by simpa using h⟩
  ·simp at h
 ·rintro⟨y,b,d⟩;exact⟨(If.1 b).1,by simp [b,d]⟩
theorem kR{g:Type}(p:g→Bool):∀(l:List g),(∀ k,k<(l.takeWhile p).length→∃ y,l[k]?=aa y∧p y=ae)∧((l.takeWhile p).length=l.length∨∃ y,l[(l.takeWhile p).length]?=aa y∧p y=ag)
 | []=>by simp
 | x::l=>by
  by_cases d:p x=ae
  ·rw [List.takeWhile_cons_of_pos d];obtain⟨j,b⟩:=kR p l;refine⟨fun k m=>?_,?_⟩
   ·cases k with
    | zero=>exact⟨x,rfl,d⟩| succ k=>exact j k (by simpa using m)
   ·rcases b with b | b
    ·exact .inl (by simp [b])
    ·exact .inr (by simpa using b)
  ·rw [List.takeWhile_cons_of_neg d];exact⟨by simp,.inr ⟨x,rfl,by simpa using d⟩⟩
theorem mh{aos:List aH}{i:Nat}(v:i≤aos.length):i≤phase aos i∧phase aos i≤aos.length∧(phase aos i=aos.length∨z7 aos (phase aos i))∧∀ j,i≤j→j<phase aos i→¬ z7 aos j:=by
 unfold phase;obtain⟨s,g⟩:=kR (fun y:aH=>decide (cls y.op≠.w)) (aos.drop i);have q:((aos.drop i).takeWhile fun y=>decide (cls y.op≠.w)).length≤(aos.drop i).length:=by
  rcases ac6 (aos.drop i).length ((aos.drop i).takeWhile fun y=>decide (cls y.op≠.w)).length with h | h
  ·obtain⟨y,b,_⟩:=s _ h;have:=(If.1 b).1;omega
  ·exact h
 simp only [adg]at q g;refine⟨by omega,by omega,?_,fun j x u=>?_⟩
 ·rcases g with g | ⟨y,b,l⟩
  ·exact .inl (by omega)
  ·rw [acO]at b;exact .inr ⟨y,b,by simpa using l⟩
 ·obtain⟨y,b,l⟩:=s (j-i) (by omega);rw [acO,show i+(j-i)=j by omega]at b;rintro⟨z,d,m⟩;rw [b]at d;cases d;simp [m]at l
structure Ord(ops:List Oper)(aos:List aH)(fC:List (Nat × Nat)):Prop where
 back:∀ j o,j<aos.length→ops[j]?=aa o→∀ e ∈ o.after.toList,Region.binds .any e=ae→e.on<j
 two:∀ i j x y,i<j→aos[i]?=aa x→aos[j]?=aa y→uP (cR ops []) i j=ae∨(x.apart y=ae∧(qa x y=ae∨(j=iV (cR ops []) aos∧cls x.op=.w)))
 ear:∀ y,aos[iV (cR ops []) aos]?=aa y→(∃ zs,y.op=.alloc zs)∧y.g=ab∧∃ p,y.dst=aa p∧∀ i z,aos[i]?=aa z→p ∈ z.rd→∀ e,z7 aos e→e<iV (cR ops []) aos→uP (cR ops []) e i=ae
 rd:∀ i x e,aos[i]?=aa x→cls x.op=.r→z7 aos e∨e=aos.length→Ac (cR ops []) aos i e=ae→e=phase aos i∨(i,e) ∈ fC
theorem C2{ops:List Oper}{aos:List aH}{fC:List (Nat × Nat)}(h:Kk ops aos fC=ae):Ord ops aos fC:=by
 simp only [Kk,BY]at h;obtain⟨⟨⟨A,B⟩,g⟩,E⟩:=h;refine⟨fun j o L N e b J=>?_,fun i j x y s m q=>?_,fun y q=>?_,fun i x e m K b M=>?_⟩
 ·rw [acN]at A;have d:(o,j) ∈ ops.zip (List.range aos.length):=by
   refine List.mem_of_getElem? (i:=j) ?_;rw [List.getElem?_zip_eq_some];exact⟨N,by simp [L]⟩
  have:=A _ d;rw [acN]at this;simpa [J]using this e b
 ·rw [acN]at B;have:=B j (by simpa using (If.1 q).1);rw [acN]at this;have:=this i (by simpa using s);rw [m,q]at this;simpa using this
 ·unfold zT at g;rw [q]at g;simp only [BY,Option.isNone_iff_eq_none]at g;obtain⟨⟨I,F⟩,l⟩:=g;refine⟨?_,I,?_⟩
  ·split at F
   ·exact⟨_,by assumption⟩
   ·simp at F
  ·split at l
   ·rename_i p O;refine⟨p,O,fun i z H v e b u=>?_⟩;rw [acN]at l;have:=l i (by simpa using (If.1 H).1);rw [H]at this;simp only [Bool.or_eq_true,Bool.not_eq_true',List.contains_eq_mem,decide_eq_false_iff_not,acN]at this;rcases this with h | h
    ·exact absurd v h
    ·have:=h e (kE.2 b);simpa [u]using this
   ·simp at l
 ·rw [acN]at E;have:=E i (by simpa using (If.1 m).1);rw [m]at this;simp only [K,if_true]at this;rw [acN]at this;have:=this e (by
   rw [acG];rcases b with b | b
   ·exact .inl (kE.2 b)
   ·exact .inr (by simp [b]))
  simpa [M]using this
section
variable{Q:Program}{σ:Nat→FuncId}{X:Wd}{call:bQ}
theorem Ext.len{X X':Wd}(h:Ext X.H.length X X'):X.H.length≤X'.H.length:=by
 rcases ac6 X'.H.length X.H.length with b | g
 ·obtain⟨blk',d,_⟩:=h.cC X'.H.length b _ (By b);have:=(If.1 d).1;omega
 ·exact g
theorem td{s s':St}{b:cj}{v:V}(h:dO call s b=aa (v,s')):s'.al=s.al:=by
 have:=AM (r':=s.al) (fun _ _=>rfl) h;rw [show({ s with al:=s.al }:St)=s from rfl,h]at this;simp only [sh,IS,true_and]at this;rw [this]
theorem zx{s s':St}{y:aH}(h:eo call s y=aa s'):∃ v,s'.al=gK s.al y.dst v:=by
 unfold eo at h;split at h
 ·split at h
  ·rename_i v d b;cases h;exact⟨v,by rw [td b]⟩
  ·simp at h
 ·cases h;exact⟨_,rfl⟩
 ·simp at h
theorem qL{al:T}{d:Option P}{v:V}{p:P}:(gK al d v).get p=if d=aa p then v else al.get p:=by
 cases d with
 | none=>simp [gK]| some q=>simp only [gK,T.mS,sh]
theorem mq{s s':St}{y:aH}(g:cls y.op≠.w)(h:eo call s y=aa s'):cA s.heap s'.heap∧s'.defs=s.defs:=by
 unfold eo at h;split at h
 ·split at h
  ·rename_i v z b;cases h;by_cases j:(∃ f xs h,y.op=.call f xs h)∨(∃ x xs h,y.op=.bH x xs h)∨y.op=.recover∨∃ x xs,y.op=.defer x xs
   ·rcases j with⟨f,xs,q,e⟩ | ⟨x,xs,q,e⟩ | e | ⟨x,xs,e⟩
    ·rw [e]at b g;cases q
     ·simp only [dO,ff,acJ,if_false,IN,IS]at b;obtain⟨⟨A,H'⟩,b,rfl,rfl⟩:=b;refine⟨?_,rfl⟩;unfold dD at b;split at b
      ·simp at b
      ·split at b
       ·simp at b
       ·split at b
        ·simp at b
        ·simp only [sh,IS]at b;show cA s.heap H';rw [←b.2];exact(lb _ _ _).ext
     ·exact absurd rfl g
    ·rw [e]at g;exact absurd rfl g
    ·rw [e]at g;exact absurd rfl g
    ·rw [e]at g;exact absurd rfl g
   ·have u:(aW s.al s.heap y.op).map (fun r=>(r.1,{ s with heap:=r.2 }))=aa (v,z):=by
     generalize y.op=l at b j;cases l<;>first | exact b | (exfalso;apply j;simp)
    simp only [IN,IS]at u;obtain⟨⟨A,H'⟩,m,rfl,rfl⟩:=u;clear b;have b:=m;clear m;refine⟨?_,rfl⟩;show cA s.heap H';cases d:cls y.op with
    | p=>
     have:=Tn (r:=s.al) d s.heap s.heap;rw [b]at this;simp only [ac8,sh,IS]at this;rw [this.2];exact cA.refl _
    | r=>rw [(AN d (cA.refl _) b).1];exact cA.refl _
    | a=>
     rcases aam d b with e | ⟨cs,e⟩
     ·rw [e];exact cA.refl _
     ·rw [e];exact cA.append _ _
    | c=>
     generalize y.op=l at b d;cases l<;>first | (simp only [cls,reduceCtorEq]at d;done) | (simp [aW]at b;done)
    | w=>exact absurd d g
  ·simp at h
 ·cases h;exact⟨cA.refl _,rfl⟩
 ·simp at h
def fx(al:T)(ps:List P):T:=ps.foldl (fun t p=>t.set p (al.get p)) .e
theorem qQ(al:T)(ps:List P)(p:P):(fx al ps).get p=if p ∈ ps then al.get p else .top:=by
 have key:∀(ps:List P) (t:T),(ps.foldl (fun t p=>t.set p (al.get p)) t).get p=if p ∈ ps then al.get p else t.get p:=by
  intro ps;induction ps with
  | nil=>intro t;simp
  | cons q ps g=>
   intro t;simp only [adY,g,T.mS,ac2];by_cases b:p ∈ ps
   ·simp [b]
   ·by_cases d:q=p
    ·subst d;simp [b]
    ·have:¬ p=q:=fun e=>d e.symm;simp [b,d,this]
 have:=key ps .e;unfold fx;rw [this];rfl
structure gS(Q:Program)(σ:Nat→FuncId)(call:bQ)(n:Nat)(ops:Array Oper)(aos:List aH)(fC:List (Nat × Nat))(st:Nat→St):Prop where
 UT:eC (iY Q σ n ops) ops.toList aos=ae
 ord:Ord ops.toList aos fC
 step:∀ i y,aos[i]?=aa y→eo call (st i) y=aa (st (i+1))
 abk:∀ i e y,(i,e) ∈ fC→aos[i]?=aa y→wanted (st i).al y.g=aa ae→∃ v H1 H2,aW (st i).al (st i).heap y.op=aa (v,H1)∧aW (st i).al (st e).heap y.op=aa (v,H2)
structure iu(σ:Nat→FuncId)(X:Wd)(c:Nat)(zs:List FC):Prop where
 aS:∃ us t,X.w.heap[c]?=aa (.cells us.toArray t (0,0))∧A2 (CR σ X) (zs.map .f) us
 b:X.B≤c
 sA:∀ b L,X.bI b=aa L→L.c≠c
 f:∀ i,¬ X.F c i
theorem iu.lt{c:Nat}{zs:List FC}(h:iu σ X c zs):c<X.w.heap.size:=by
 obtain⟨us,t,b,_⟩:=h.aS;exact(Array.getElem?_eq_some_iff.1 b).1
theorem iu.ext{X X':Wd}(d:Ext X.H.length X X'){c:Nat}{zs:List FC}(h:iu σ X c zs):iu σ X' c zs:=by
 have j:=h.lt;obtain⟨us,t,m,q⟩:=h.aS;refine⟨⟨us,t,by rw [d.frame c j h.sA];exact m,A2.ext' σ d q⟩,by rw [d.B];exact h.b,fun b L s=>?_,fun i u=>?_⟩
 ·rcases d.sA b L s with⟨b0,l,g1,g2⟩ | g1
  ·rw [←g2];exact h.sA b0 l g1
  ·omega
 ·rcases d.mB c i u with g | g | ⟨b,L,g1,g2⟩
  ·exact h.f i g
  ·omega
  ·exact h.sA b L g1 g2
theorem SR.assign(s:SR Q σ X){n c:Nat}{zs:List FC}{fl:Nat}(j:iu σ X c zs)(x:X.H[n]?=aa (.box (zs.map .f) fl))(A:X.bI n=ab) :
  SR Q σ { X with bI:=fun b=>if b=n then aa ⟨c,0⟩else X.bI b }∧my X.H.length X { X with bI:=fun b=>if b=n then aa ⟨c,0⟩else X.bI b }∧VR σ { X with bI:=fun b=>if b=n then aa ⟨c,0⟩else X.bI b } (.c (.ptr n 0 0)) (.pointer (aa ⟨c,0,ab⟩)):=by
 have u:my X.H.length X { X with bI:=fun b=>if b=n then aa ⟨c,0⟩else X.bI b }:=by
  refine⟨fun _ _ h=>h,fun _ _ _=>rfl,fun b _ aS g=>⟨aS,g,?_⟩⟩;have:∀ L,X.bI b=aa L→(if b=n then aa (⟨c,0⟩:Loc)else X.bI b)=aa L:=fun L q=>by
   by_cases e:b=n
   ·subst e;rw [A]at q;simp at q
   ·rw [aU e];exact q
  cases aS<;>simp only [true_and,and_self]<;>first | exact this | (exact .inl ⟨trivial,trivial,this⟩) | (exact⟨rfl,.inl ⟨rfl,rfl,this⟩⟩) | (exact .inl this) | simpa using this
 obtain⟨us,t,y,z⟩:=j.aS;refine⟨⟨fun b L g=>?_,fun b m L v g d hc=>?_,s.fb⟩,u,⟨⟨c,0⟩,by simp,by rw [x]⟩⟩
 ·by_cases e:b=n
  ·subst e;simp only [if_true,sh]at g;subst g;exact⟨j.b,j.lt,_,x,us,⟨t,(0,0),y,fun i _=>by simp⟩,A2.dr σ u z,fun i _=>j.f i⟩
  ·simp only [e,if_false]at g;obtain⟨g1,g2,aS,g3,g4⟩:=s.br b L g;exact⟨g1,g2,aS,g3,BR.mQ Q σ u rfl (fun _ h=>h) g4⟩
 ·simp only at g d;by_cases e:b=n<;>by_cases l:m=n
  ·rw [e,l]
  ·rw [bf e]at g;rw [aU l]at d;cases g;exact absurd hc.symm (j.sA m v d)
  ·rw [aU e]at g;rw [bf l]at d;cases d;exact absurd hc (j.sA b L g)
  ·rw [aU e]at g;rw [aU l]at d;exact s.inj b m L v g d hc
abbrev eJ(ops:Array Oper)(aos:List aH):Nat:=iV (cR ops.toList []) aos
def abb(σ:Nat→FuncId)(X0:Wd)(ops:Array Oper)(aos:List aH)(E:Nat)(X:Wd)(a:Act)(p:P)(K:Nat):Prop:=
 ∃ y zs c,K=eJ ops aos+1∧E≤eJ ops aos∧aos[eJ ops aos]?=aa y∧y.dst=aa p∧y.op=.alloc zs∧a.tmps.getD p.toNat undef=.pointer (aa ⟨c,0,ab⟩)∧X0.w.heap.size≤c∧iu σ X c zs
structure Inv(Q:Program)(σ:Nat→FuncId)(X0:Wd)(n:Nat)(ops:Array Oper)(aos:List aH)(st:Nat→St)(D:Nat→Prop)(E:Nat)(X:Wd)(a:Act):Prop where
 closed:nK ops.toList D
 dlt:∀ j,D j→j<aos.length
 eN:E≤aos.length
 eW:E=aos.length∨z7 aos E
 eD:¬ D E
 wD:∀ j,z7 aos j→j<E→D j
 heap:X.H=(st E).heap
 ext:Ext X0.H.length X0 X
 sr:SR Q σ X
 b:X.B≤X.w.heap.size
 defs:ez σ X (st E).defs a.defers
 size:n≤a.tmps.size
 LQ:∀ p,∃ K,K≤aos.length∧(VR σ X ((st K).al.get p) (a.tmps.getD p.toNat undef)∨abb σ X0 ops aos E X a p K)∧∀ j y,aos[j]?=aa y→y.dst=aa p→(j<K↔D j)
 sx:∀ j y,j<E→¬ D j→aos[j]?=aa y→cls y.op=.a→(st (j+1)).heap.length≠(st j).heap.length→X.bI (st j).heap.length=ab
section
variable{n:Nat}{ops:Array Oper}{aos:List aH}{fC:List (Nat × Nat)}{st:Nat→St}
theorem gS.jG(R:gS Q σ call n ops aos fC st){p:P}{lo:Nat}:∀(hi:Nat),lo≤hi→hi≤aos.length→(∀ j y,lo≤j→j<hi→aos[j]?=aa y→y.dst≠aa p)→(st lo).al.get p=(st hi).al.get p
 | 0,h,_,_=>by rw [Nat.le_zero.1 h]
 | hi+1,h,q,d=>by
  rcases ac6 hi lo with b | b
  ·rw [show lo=hi+1 by omega]
  ·rw [gS.jG R hi b (by omega) fun j y g m=>d j y g (by omega)];have hy:=By (show hi<aos.length by omega);obtain⟨v,l⟩:=zx (R.step hi _ hy);rw [l,qL,aU (d hi _ b (by omega) hy)]
theorem gS.cu(R:gS Q σ call n ops aos fC st){lo:Nat}:∀(hi:Nat),lo≤hi→hi≤aos.length→(∀ j,lo≤j→j<hi→¬ z7 aos j)→cA (st lo).heap (st hi).heap∧(st hi).defs=(st lo).defs
 | 0,h,_,_=>by rw [Nat.le_zero.1 h];exact⟨cA.refl _,rfl⟩
 | hi+1,h,s,d=>by
  rcases ac6 hi lo with b | b
  ·rw [show lo=hi+1 by omega];exact⟨cA.refl _,rfl⟩
  ·obtain⟨g1,g2⟩:=gS.cu R hi b (by omega) fun j g q=>d j g (by omega);have hy:=By (show hi<aos.length by omega);obtain⟨l,m⟩:=mq (fun hc=>d hi b (by omega) ⟨_,hy,hc⟩) (R.step hi _ hy);exact⟨g1.trans l,m.trans g2⟩
theorem gS.at(R:gS Q σ call n ops aos fC st){i:Nat}{y:aH}(hy:aos[i]?=aa y):∃ o,ops[i]?=aa o∧iY Q σ n ops o y=ae:=by
 have:=dH R.UT;have d:i<ops.toList.length:=by rw [this.len];exact(If.1 hy).1
 have b:=By d;refine⟨ops.toList[i],by rw [←Array.getElem?_toList];exact b,this.2 i _ _ b hy⟩
theorem gS.before(R:gS Q σ call n ops aos fC st){i j:Nat}{x y:aH}(g:i<j)(q:aos[i]?=aa x)(hy:aos[j]?=aa y)(h:x.apart y=ag∨(qa x y=ag∧(j=eJ ops aos→cls x.op≠.w))):uP (cR ops.toList []) i j=ae:=by
 rcases R.ord.two i j x y g q hy with d | ⟨d,b⟩
 ·exact d
 ·rcases h with h | ⟨h,l⟩
  ·rw [d]at h;simp at h
  ·rcases b with b | ⟨b,m⟩
   ·rw [b]at h;simp at h
   ·exact absurd m (l b)
theorem Ext.assign{X0 g:Wd}(h:Ext X0.H.length X0 g){n c:Nat}(j:my g.H.length g { g with bI:=fun b=>if b=n then aa ⟨c,0⟩else g.bI b })(hc:X0.w.heap.size≤c):Ext X0.H.length X0 { g with bI:=fun b=>if b=n then aa ⟨c,0⟩else g.bI b } where
 B:=h.B
 F:=h.F
 mB:=h.mB
 fw:=h.fw
 cC:=fun b d=>(h.cC b d).trans (j.cC b (adb d h.len))
 sA:=fun b L d=>by
  simp only at d;by_cases e:b=n
  ·rw [bf e]at d;cases d;exact .inr hc
  ·rw [aU e]at d;exact h.sA b L d
 size:=h.size
 os:=h.os
 tape:=h.tape
 output:=h.output
 frame:=h.frame
theorem gS.JB(R:gS Q σ call n ops aos fC st){y:aH}(hy:aos[eJ ops aos]?=aa y):cls y.op=.a:=by
 obtain⟨⟨zs,h⟩,_⟩:=R.ord.ear y hy;rw [h];rfl
theorem Je{x y:aH}{p:P}(h:x.dst=aa p)(b:p ∈ y.rd):x.apart y=ag:=by
 simp [aH.apart,h,b]
theorem vz{x y:aH}{p:P}(h:x.dst=aa p)(b:y.dst=aa p):x.apart y=ag:=by
 simp [aH.apart,h,b]
theorem Jd{x y:aH}{p:P}(h:p ∈ x.rd)(b:y.dst=aa p):x.apart y=ag:=by
 simp [aH.apart,h,b]
structure gR(ops:Array Oper)(aos:List aH)(D:Nat→Prop)(i:Nat)(o:Oper)(y:aH):Prop where
 ho:ops[i]?=aa o
 hy:aos[i]?=aa y
 hD:¬ D i
 pre:∀ e ∈ o.after.toList,Region.binds .any e=ae→D e.on
variable{X0:Wd}{D:Nat→Prop}{E i:Nat}{a:Act}{o:Oper}{y:aH}
theorem gR.ma(d:Inv Q σ X0 n ops aos st D E X a)(b:gR ops aos D i o y){j:Nat}(h:uP (cR ops.toList []) j i=ae):D j:=
 d.closed.ready (by simpa using b.ho) b.pre h
theorem gR.nh(b:Inv Q σ X0 n ops aos st D E X a)(g:gR ops aos D i o y){j:Nat}(h:uP (cR ops.toList []) i j=ae):¬ D j:=
 fun d=>g.hD (b.closed.below j d h)
theorem gS.reads(R:gS Q σ call n ops aos fC st)(m:Inv Q σ X0 n ops aos st D E X a)(b:gR ops aos D i o y){p:P}(F:p ∈ y.rd):VR σ X ((st i).al.get p) (a.tmps.getD p.toNat undef):=by
 obtain⟨K,M,s,J⟩:=m.LQ p;have W:i<aos.length:=(If.1 b.hy).1;have s:VR σ X ((st K).al.get p) (a.tmps.getD p.toNat undef):=by
  rcases s with s | ⟨z,zs,c,_,U,d,g,_⟩
  ·exact s
  ·exfalso;obtain⟨_,_,Y,x,l⟩:=R.ord.ear z d;rw [g]at x;cases x;have N:=(If.1 d).1;rcases m.eW with S | v
   ·omega
   ·have O:E≠eJ ops aos:=by
     intro e;obtain⟨q,I,A⟩:=v;rw [e]at I;rw [R.JB I]at A;cases A
    exact m.eD (b.ma m (l i y b.hy F E v (show E<eJ ops aos by omega)))
 rcases Nat.le_total K i with h | h
 ·rw [←R.jG i h (by omega) fun j z L B d g=>?_]
  ·exact s
  ·have:=b.ma m (R.before B d b.hy (.inl (Je g F)));have:=(J j z d g).2 this;omega
 ·rw [R.jG K h M fun j z L B d g=>?_]
  ·exact s
  ·have u:=(J j z d g).1 B;rcases ac6 i j with H | H
   ·exact b.nh m (R.before H b.hy d (.inl (Jd F g))) u
   ·have:j=i:=by omega
    subst this;exact b.hD u
theorem gS.fin(R:gS Q σ call n ops aos fC st)(F:Inv Q σ X0 n ops aos st D E X a)(q:gR ops aos D i o y){l:Wd}{a1:Act}{u:Value}{v:V}{m:Nat}(hS:SR Q σ l)(hB:l.B≤l.w.heap.size)(b7:Ext X0.H.length X0 l)
  (hm:∀ v u,VR σ X v u→VR σ l v u) (b6:∀ y zs c p,E≤eJ ops aos→aos[eJ ops aos]?=aa y→y.op=.alloc zs→y.dst=aa p→D (eJ ops aos)→a.tmps.getD p.toNat undef=.pointer (aa ⟨c,0,ab⟩)→X0.w.heap.size≤c→iu σ X c zs→if m≤eJ ops aos then iu σ l c zs else VR σ l ((st (eJ ops aos+1)).al.get p) (.pointer (aa ⟨c,0,ab⟩)))
  (hv:VR σ l v u∨(i=eJ ops aos∧m≤eJ ops aos∧∃ zs c,y.op=.alloc zs∧u=.pointer (aa ⟨c,0,ab⟩)∧X0.w.heap.size≤c∧iu σ l c zs))
  (ht:a1.tmps=(a.put o.dst u).tmps) (U:(st (i+1)).al=gK (st i).al y.dst v) (h1:m≤aos.length) (h2:m=aos.length∨z7 aos m) (h3:¬ (D m∨m=i)) (h4:∀ j,z7 aos j→j<m→D j∨j=i)
  (hH:l.H=(st m).heap) (hd:ez σ l (st m).defs a1.defers)
  (hh:∀ j y,j<m→¬ (D j∨j=i)→aos[j]?=aa y→cls y.op=.a→(st (j+1)).heap.length≠(st j).heap.length→l.bI (st j).heap.length=ab) :
  Inv Q σ X0 n ops aos st (fun j=>D j∨j=i) m l a1:=by
 have hi:i<aos.length:=(If.1 q.hy).1;obtain⟨o',S,A⟩:=R.at q.hy;rw [q.ho]at S;cases S;have xh:(a.put o.dst u).tmps.size=a.tmps.size:=by cases o.dst<;>simp [Act.put]
 refine⟨fun j oj O B e he hb=>?_,fun j O=>O.elim (F.dlt j) fun h=>h▸hi,h1,h2,h3,h4,hH,b7,hS,hB,hd,by rw [ht,xh];exact F.size,fun p=>?_,hh⟩
 ·rcases O with O | rfl
  ·exact .inl (F.closed j oj O B e he hb)
  ·have:oj=o:=by have:=q.ho;simp at B;rw [this]at B;cases B;rfl
   subst this;exact .inl (q.pre e he hb)
 ·by_cases b:y.dst=aa p
  ·have s:a1.tmps.getD p.toNat undef=u:=by
    rw [ht];simp only [iY,BY]at A;have g:=A.1.2;rw [b]at g;split at g
    ·rename_i d p' L J;simp only [BY,beq_iff_eq,decide_eq_true_eq]at g;cases J;have a8:d<a.tmps.size:=adb g.2 F.size;rw [L,g.1];simp only [Act.put];simp [a8]
    ·rename_i J;simp at J
    ·simp at g
   refine⟨i+1,hi,?_,fun j z I x=>⟨fun h=>?_,fun h=>?_⟩⟩
   ·rcases hv with hv | ⟨N,Z,zs,c,g1,g2,g3,g4⟩
    ·left;rw [U,qL,bf b,s];exact hv
    ·right;exact⟨y,zs,c,by rw [N],Z,by rw [←N];exact q.hy,b,g1,by rw [s];exact g2,g3,g4⟩
   ·rcases ac6 j i with M | M
    ·exact .inl (q.ma F (R.before M I q.hy (.inl (vz x b))))
    ·exact .inr (by omega)
   ·rcases h with h | rfl
    ·rcases ac6 i j with M | M
     ·exact absurd h (q.nh F (R.before M q.hy I (.inl (vz b x))))
     ·omega
    ·omega
  ·obtain⟨K,hK,H,hw⟩:=F.LQ p;have e:a1.tmps.getD p.toNat undef=a.tmps.getD p.toNat undef:=by
    rw [ht];simp only [iY,BY]at A;have g:=A.1.2;split at g
    ·rename_i d p' L J;simp only [BY,beq_iff_eq,decide_eq_true_eq]at g;have a_:d≠p.toNat:=fun e=>b (by rw [J,P.toNat_inj (g.1.trans e)]);rw [L];simp [Act.put,Array.getD_eq_getD_getElem?,Array.getElem?_setIfInBounds_ne a_]
    ·rename_i L J;rw [L];rfl
    ·simp at g
   refine⟨K,hK,?_,fun j z I x=>?_⟩
   ·rcases H with H | ⟨z,zs,c,g1,g2,g3,g4,g5,W,g7,g8⟩
    ·left;rw [e];exact hm _ _ H
    ·have Y:D (eJ ops aos):=(hw _ z g3 g4).1 (by omega);have:=b6 z zs c p g2 g3 g5 g4 Y W g7 g8;split at this
     ·rename_i Z;right;exact⟨z,zs,c,g1,Z,g3,g4,g5,by rw [e];exact W,g7,this⟩
     ·left;rw [e,W,g1];exact this
   ·rw [hw j z I x];exact⟨.inl,fun h=>h.elim id fun h=>absurd (by rw [h]at I;rw [q.hy]at I;cases I;exact x) b⟩
end
end
section
variable{Q:Program}{σ:Nat→FuncId}{X:Wd}{call:bQ}
variable{n:Nat}{ops:Array Oper}{aos:List aH}{fC:List (Nat × Nat)}{st:Nat→St}
variable{X0:Wd}{D:Nat→Prop}{E i:Nat}{a:Act}{o:Oper}{y:aH}
theorem mL{x y:aH}(h:cls x.op=.w)(d:cls y.op≠.p)(b:cls y.op≠.r):qa x y=ag:=by
 unfold qa;rw [h];cases g:cls y.op<;>simp_all
theorem qb{x y:aH}(h:cls y.op=.w)(d:cls x.op≠.p)(b:cls x.op≠.r):qa x y=ag:=by
 unfold qa;rw [h];cases g:cls x.op<;>simp_all
theorem gS.qD(R:gS Q σ call n ops aos fC st){j:Nat}{z:aH}(b:aos[j]?=aa z)(hc:cls z.op≠.a):j≠eJ ops aos:=by
 rintro rfl;exact hc (R.JB b)
theorem gS.W0(R:gS Q σ call n ops aos fC st)(d:Inv Q σ X0 n ops aos st D E X a)(b:gR ops aos D i o y)(hc:cls y.op=.w):i=E:=by
 have m:i<aos.length:=(If.1 b.hy).1;rcases adn i E with h | h | h
 ·exact absurd (d.wD i ⟨y,b.hy,hc⟩ h) b.hD
 ·exact h
 ·rcases d.eW with l | ⟨z,j,g⟩
  ·omega
  ·exact absurd (b.ma d (R.before h j b.hy (.inr ⟨mL g (by simp [hc]) (by simp [hc]),fun e=>absurd e (R.qD b.hy (by simp [hc]))⟩))) d.eD
theorem gS.I9(R:gS Q σ call n ops aos fC st)(g:Inv Q σ X0 n ops aos st D E X a)(d:gR ops aos D i o y)(s:cls y.op≠.p)(u:cls y.op≠.r)(v:cls y.op≠.w)(B:i=eJ ops aos→i<E):i<E∧∀ j,i≤j→j<E→¬ z7 aos j:=by
 have F:i<aos.length:=(If.1 d.hy).1;refine⟨?_,fun j H q x=>?_⟩
 ·rcases adn i E with h | h | h
  ·exact h
  ·rcases g.eW with A | ⟨z,l,b⟩
   ·omega
   ·rw [←h,d.hy]at l;cases l;exact absurd b v
  ·rcases g.eW with A | ⟨z,l,b⟩
   ·omega
   ·exact absurd (d.ma g (R.before h l d.hy (.inr ⟨mL b s u,fun e=>by have:=B e;omega⟩))) g.eD
 ·have m:=g.wD j x q;obtain⟨z,l,b⟩:=x;rcases ac6 i j with h | h
  ·exact d.nh g (R.before h d.hy l (.inr ⟨qb b s u,fun _=>v⟩)) m
  ·have:j=i:=by omega
   subst this;exact d.hD m
theorem gS.abL(R:gS Q σ call n ops aos fC st)(d:Inv Q σ X0 n ops aos st D E X a)(s:gR ops aos D i o y)(hc:cls y.op=.r)(L:wanted (st i).al y.g=aa ae){v:V}{F:aj}(h:aW (st i).al (st i).heap y.op=aa (v,F)) :
  F=(st i).heap∧aW (st i).al X.H y.op=aa (v,X.H):=by
 have O:i<aos.length:=(If.1 s.hy).1;refine⟨(AN hc (cA.refl _) h).1,?_⟩;have q:Ac (cR ops.toList []) aos i E=ae:=by
  unfold Ac;rw [acN];intro j K;have l:=kE.1 K;split
  ·rename_i m;have b:=d.wD j l m;cases x:uP (cR ops.toList []) i j with
   | false=>rfl| true=>exact absurd b (s.nh d x)
  ·rename_i m;cases x:uP (cR ops.toList []) j i with
   | false=>rfl
   | true=>
    exfalso;have b:=s.ma d x;rcases ac6 E j with H | H
    ·rcases d.eW with N | ⟨z,M,B⟩
     ·have:=d.dlt j b;omega
     ·obtain⟨U,u,g⟩:=l;exact d.eD (d.closed.below j b (R.before H M u (.inr ⟨mL B (by simp [g]) (by simp [g]),fun e=>absurd e (R.qD u (by simp [g]))⟩)))
    ·have:j=E:=by omega
     subst this;exact d.eD b
 rw [d.heap];rcases R.ord.rd i y E s.hy hc (d.eW.symm) q with A | A
 ·obtain⟨p1,_,_,p4⟩:=mh (aos:=aos) (i:=i) (by omega);rw [←A]at p1 p4;exact(AN hc (R.cu E p1 d.eN p4).1 h).2
 ·obtain⟨S,I,J,g1,g2⟩:=R.abk i E y A s.hy L;rw [h]at g1;cases g1;have:=(AN hc (cA.refl _) g2).1;rw [this]at g2;exact g2
theorem gS.Pl(R:gS Q σ call n ops aos fC st){z:aH}(d:aos[eJ ops aos]?=aa z){zs:List FC}(b:z.op=.alloc zs){p:P}(g:z.dst=aa p) :
  (st (eJ ops aos+1)).heap=(st (eJ ops aos)).heap++[.box (zs.map .f) 0]∧(st (eJ ops aos+1)).al.get p=.c (.ptr (st (eJ ops aos)).heap.length 0 0):=by
 obtain⟨_,hg,_⟩:=R.ord.ear z d;have h:=R.step _ z d;simp only [eo,hg,wanted,b,dO,aW,ac8,sh]at h;rw [←h];exact⟨rfl,by rw [qL,bf g]⟩
theorem gS.zI(R:gS Q σ call n ops aos fC st)(x:Inv Q σ X0 n ops aos st D E X a)(A:gR ops aos D i o y)(hc:cls y.op=.w){d:Wd}{a1:Act}{u:Value}{v:V}(hS:SR Q σ d)(hB:d.B≤d.w.heap.size)(hx:Ext X.H.length X d)
  (hv:VR σ d v u) (ht:a1.tmps=(a.put o.dst u).tmps) (I:(st (i+1)).al=gK (st i).al y.dst v) (hH:d.H=(st (i+1)).heap) (hd:ez σ d (st (i+1)).defs a1.defers) :
  ∃ E' X2,X2.w=d.w∧Inv Q σ X0 n ops aos st (fun j=>D j∨j=i) E' X2 a1:=by
 have hi:i<aos.length:=(If.1 A.hy).1;have b6:=R.W0 x A hc;subst b6;obtain⟨p1,p2,p3,p4⟩:=mh (aos:=aos) (i:=i+1) (by omega);obtain⟨q1,q2⟩:=R.cu _ p1 p2 p4;rw [←hH]at q1;obtain⟨k1,k2⟩:=SR.ahead hS q1;have l:Ext X.H.length X { d with H:=(st (phase aos (i+1))).heap }:=hx.trans (k2.mono hx.len);have K:Ext X0.H.length X0 { d with H:=(st (phase aos (i+1))).heap }:=x.ext.trans (l.mono x.ext.len);have M:¬ (D (phase aos (i+1))∨phase aos (i+1)=i):=by
  rintro(h | h)
  ·rcases p3 with g | ⟨z,hz,m⟩
   ·have:=x.dlt _ h;omega
   ·exact A.nh x (R.before p1 A.hy hz (.inr ⟨mL hc (by simp [m]) (by simp [m]),fun e=>absurd e (R.qD hz (by simp [m]))⟩)) h
  ·omega
 have O:∀ j,z7 aos j→j<phase aos (i+1)→D j∨j=i:=by
  intro j W hj;rcases adn j i with h | h | h
  ·exact .inl (x.wD j W h)
  ·exact .inr h
  ·exact absurd W (p4 j h hj)
 have U:ez σ { d with H:=(st (phase aos (i+1))).heap } (st (phase aos (i+1))).defs a1.defers:=by rw [q2];exact hd.ext' k2
 have iJ:i≠eJ ops aos:=R.qD A.hy (by simp [hc]);have sx:∀ j z,j<phase aos (i+1)→¬ (D j∨j=i)→aos[j]?=aa z→cls z.op=.a→(st (j+1)).heap.length≠(st j).heap.length→i<j∧d.bI (st j).heap.length=ab:=by
  intro j z hj hD hz m F;rcases adn j i with h | h | h
  ·exact absurd (.inl (A.ma x (R.before h hz A.hy (.inr ⟨qb hc (by simp [m]) (by simp [m]),fun e=>absurd e iJ⟩)))) hD
  ·exact absurd (.inr h) hD
  ·have J:=(R.cu j h (by omega) fun k g B=>p4 k g (by omega)).1.len;rw [←hH]at J;refine⟨h,?_⟩;cases q:d.bI (st j).heap.length with
   | none=>rfl| some L=>have:=SR.lt hS q;omega
 by_cases hP:∃ z zs c p,i≤eJ ops aos∧eJ ops aos<phase aos (i+1)∧aos[eJ ops aos]?=aa z∧z.op=.alloc zs∧z.dst=aa p∧D (eJ ops aos)∧a.tmps.getD p.toNat undef=.pointer (aa ⟨c,0,ab⟩)∧X0.w.heap.size≤c∧iu σ X c zs
 ·obtain⟨z,zs,c,p,g1,g2,g3,g4,g5,g6,g7,g8,g9⟩:=hP;obtain⟨s1,s2⟩:=R.Pl g3 g4 g5;have N:i<eJ ops aos:=by omega
  have b7:(st (i+1)).heap.length≤(st (eJ ops aos)).heap.length:=(R.cu _ N (by omega) fun k g B=>p4 k g (by omega)).1.len;obtain⟨fl,S⟩:∃ fl,(st (phase aos (i+1))).heap[(st (eJ ops aos)).heap.length]?=aa (.box (zs.map .f) fl):=by
   have Y:=(R.cu (phase aos (i+1)) (show eJ ops aos+1≤_ by omega) p2 fun k g B=>p4 k (by omega) B).1;rw [s1]at Y;exact mT Y
  have b9:iu σ { d with H:=(st (phase aos (i+1))).heap } c zs:=g9.ext l;have b_:d.bI (st (eJ ops aos)).heap.length=ab:=by
   cases q:d.bI (st (eJ ops aos)).heap.length with
   | none=>rfl| some L=>have:=SR.lt hS q;rw [hH]at this;omega
  obtain⟨a8,s,a_⟩:=SR.assign k1 b9 S b_;refine⟨phase aos (i+1),{ d with H:=(st (phase aos (i+1))).heap,bI:=fun b=>if b=(st (eJ ops aos)).heap.length then aa ⟨c,0⟩else d.bI b },rfl,R.fin x A a8 hB (K.assign s g8) (fun v u h=>VR.dr σ s (VR.ext' σ l h)) ?_ (.inl (VR.dr σ s (VR.ext' σ k2 hv))) ht I p2 p3 M O rfl (ez.dr s U) ?_⟩
  ·intro z' c4 c' p' _ e2 _ e4 _ e6 _ _;rw [g3]at e2;cases e2;rw [g5]at e4;cases e4;rw [g7]at e6;simp only [Value.pointer.injEq,sh,Addr.mk.injEq,true_and,and_true]at e6;subst e6;rw [aU (by omega),s2];exact a_
  ·intro j w hj hD hw Z F;obtain⟨f1,f2⟩:=sx j w hj hD hw Z F;show(if(st j).heap.length=(st (eJ ops aos)).heap.length then aa (⟨c,0⟩:Loc)else d.bI (st j).heap.length)=ab;rw [aU,f2];intro e;rcases adn j (eJ ops aos)with h | h | h
   ·have g:=(R.cu (lo:=j+1) (eJ ops aos) h (by omega) fun k g B=>p4 k (by omega) (by omega)).1.len;have B:=(mq (by simp [Z]) (R.step j w hw)).1.len;clear K l k1 k2;omega
   ·exact hD (.inl (by rw [h];exact g6))
   ·have g:=(R.cu (lo:=eJ ops aos+1) j h (by omega) fun k g B=>p4 k (by omega) (by omega)).1.len;rw [s1,acZ]at g;simp only [List.length_cons,List.length_nil]at g;omega
 ·refine⟨phase aos (i+1),{ d with H:=(st (phase aos (i+1))).heap },rfl,R.fin x A k1 hB K (fun v u h=>VR.ext' σ l h) ?_ (.inl (VR.ext' σ k2 hv)) ht I p2 p3 M O rfl U (fun j z g B h3 h4 h5=>(sx j z g B h3 h4 h5).2)⟩;intro z zs c p g1 g2 g3 g4 g5 g6 g7 g8;by_cases J:phase aos (i+1)≤eJ ops aos
  ·rw [bf J];exact g8.ext l
  ·exact absurd ⟨z,zs,c,p,g1,by omega,g2,g3,g4,g5,g6,g7,g8⟩ hP
theorem gS.kV(R:gS Q σ call n ops aos fC st)(d:Inv Q σ X0 n ops aos st D E X a)(l:gR ops aos D i o y)(hc:cls y.op≠.w){b:Wd}{a1:Act}{u:Value}{v:V}(I:SR Q σ b)(F:b.B≤b.w.heap.size)(m:Ext X.H.length X b)
  (M:VR σ b v u∨(i=eJ ops aos∧E≤eJ ops aos∧∃ zs c,y.op=.alloc zs∧u=.pointer (aa ⟨c,0,ab⟩)∧X0.w.heap.size≤c∧iu σ b c zs)) (L:a1.tmps=(a.put o.dst u).tmps) (g:(st (i+1)).al=gK (st i).al y.dst v) (H:b.H=X.H) (J:ez σ b (st E).defs a1.defers)
  (K:∀ j z,j<E→¬ (D j∨j=i)→aos[j]?=aa z→cls z.op=.a→(st (j+1)).heap.length≠(st j).heap.length→b.bI (st j).heap.length=ab) :
  Inv Q σ X0 n ops aos st (fun j=>D j∨j=i) E b a1:=by
 refine R.fin d l I F (d.ext.trans (m.mono d.ext.len)) (fun v u h=>VR.ext' σ m h) (fun z zs c p g1 _ _ _ _ _ _ A=>by rw [bf g1];exact A.ext m) M L g d.eN d.eW ?_ (fun j s B=>.inl (d.wD j s B)) (H.trans d.heap) J K;rintro(h | h)
 ·exact d.eD h
 ·have N:i<aos.length:=(If.1 l.hy).1;rcases d.eW with s | ⟨z,x,q⟩
  ·omega
  ·rw [h,l.hy]at x;cases x;exact hc q
theorem gS.fy(s:Inv Q σ X0 n ops aos st D E X a){b:Wd}(h:b.bI=X.bI):∀ j z,j<E→¬ (D j∨j=i)→aos[j]?=aa z→cls z.op=.a→(st (j+1)).heap.length≠(st j).heap.length→b.bI (st j).heap.length=ab:=
 fun j z d g l m q=>by rw [h];exact s.sx j z d (fun h=>g (.inl h)) l m q
theorem gS.yY(R:gS Q σ call n ops aos fC st)(q:Inv Q σ X0 n ops aos st D E X a)(v:gR ops aos D i o y)(hc:cls y.op=.a)(K:i=eJ ops aos→i<E)(m:(st (i+1)).heap.length≠(st i).heap.length){j:Nat}{z:aH}(O:j<E)(hD:¬ (D j∨j=i))(H:aos[j]?=aa z)(d:cls z.op=.a)
  (g:(st (j+1)).heap.length≠(st j).heap.length):(st j).heap.length≠(st i).heap.length:=by
 have N:i<aos.length:=(If.1 v.hy).1;obtain⟨g1,g2⟩:=R.I9 q v (by simp [hc]) (by simp [hc]) (by simp [hc]) K;have M:∀ k,j≤k→k<E→¬ z7 aos k:=by
  intro k F u s;have l:=q.wD k s u;obtain⟨w,x,A⟩:=s;rcases ac6 j k with h | h
  ·exact hD (.inl (q.closed.below k l (R.before h H x (.inr ⟨qb A (by simp [d]) (by simp [d]),fun _=>by simp [d]⟩))))
  ·have:k=j:=by omega
   subst this;exact hD (.inl l)
 have b:∀ k w,aos[k]?=aa w→cls w.op=.a→(st (k+1)).heap.length≠(st k).heap.length→(st k).heap.length<(st (k+1)).heap.length:=by
  intro k w s B L;have:=(mq (by simp [B]) (R.step k w s)).1.len;omega
 rcases adn j i with h | h | h
 ·have F:=b j z H d g;have u:(st (j+1)).heap.length≤(st i).heap.length:=(R.cu i h (by omega) fun k I J=>M k (by omega) (by omega)).1.len;omega
 ·exact absurd (.inr h) hD
 ·have F:=b i y v.hy hc m;have u:(st (i+1)).heap.length≤(st j).heap.length:=(R.cu j h (by have:=q.eN;omega) fun k I J=>g2 k (by omega) (by omega)).1.len;omega
end
section
variable{Q:Program}{σ:Nat→FuncId}{X:Wd}{call:bQ}
variable{n:Nat}{ops:Array Oper}{aos:List aH}{fC:List (Nat × Nat)}{st:Nat→St}
variable{X0:Wd}{D:Nat→Prop}{E i:Nat}{a:Act}{o:Oper}{y:aH}
theorem zm{w':World}{ob:Obj}(g:SR Q σ X)(d:dp X.w w' ob):SR Q σ { X with w:=w' }∧Ext X.H.length X { X with w:=w' }:=by
 have j:Ext X.H.length X { X with w:=w' }:=Ext.one g X.H.length rfl (fun _ _=>Iff.rfl) (fun k m _=>d.xj m)
  (fun L i h=>by rw [SR.oB g]at h;simp at h) (fun h=>absurd h (aec _)) (fun _ _ _=>rfl) (fun _ _=>rfl) (fun L h=>.inl ⟨L,h,rfl⟩) (by show _≤w'.heap.size;rw [d.size];omega) d.os d.tape d.output
 refine⟨SR.step Q σ g j X.H.length (fun _ _=>rfl) (fun _ _=>rfl) (fun b L _ l=>d.xj (g.br b L l).2.1)
  (fun _ _ _ _ _ h=>h) (fun L h=>by change X.bI X.H.length=aa L at h;rw [SR.oB g]at h;simp at h) (fun c i h=>?_),j⟩
 have:=g.fb c i h;show c<w'.heap.size;rw [d.size];omega
theorem Ki{y:aH}{p:P}(h:p ∈ y.op.rd):p ∈ y.rd:=by unfold aH.rd;exact acG.2 (.inr h)
theorem z2{y:aH}{p:P}{w:Bool}(h:y.g=aa (p,w)):p ∈ y.rd:=by unfold aH.rd;rw [h];simp
theorem gS.RV(hC:ea Q σ call)(R:gS Q σ call n ops aos fC st)(d:Inv Q σ X0 n ops aos st D E X a)(A:gR ops aos D i o y){b:Frame}{rest:List Nat}{k:List Item}{cs:List Frame}(hk:gm b cs)(g_:fe y.op b) :
  ∃ E' X' a',Steps Q (lone (b.atR a (.inRegion ops (i::rest)::k)) cs X.w) (lone (b.atR a' (.inRegion ops rest::k)) cs X'.w)∧Inv Q σ X0 n ops aos st (fun j=>D j∨j=i) E' X' a'∧a'.tmps.size=a.tmps.size:=by
 have hi:i<aos.length:=(If.1 A.hy).1;obtain⟨o',d5,hm⟩:=R.at A.hy;rw [A.ho]at d5;cases d5;have g:=R.step i y A.hy;have S:∀ p ∈ y.rd,VR σ X ((st i).al.get p) (a.tmps.getD p.toNat undef):=fun p hp=>R.reads d A hp;have l:df Q σ o y.op=ae:=by simp only [iY,BY]at hm;exact hm.1.1
 have K:∀ u,(a.put o.dst u).tmps.size=a.tmps.size:=fun u=>by cases o.dst<;>simp [Act.put]
 have J:∀(a:Act) u,(a.put o.dst u).defers=a.defers:=fun a u=>by cases o.dst<;>rfl
 have d_:∀(a a':Act) u,a'.tmps=a.tmps→(a'.put o.dst u).tmps=(a.put o.dst u).tmps:=fun a a' u h=>by cases o.dst<;>simp [Act.put,h]
 unfold eo at g;split at g
 ·rename_i c4;have hw:=ly hm (al:=(st i).al) (tmps:=a.tmps) (X:=X) (fun p w' hg=>S p (z2 hg)) d.size c4;split at g
  ·rename_i v s1 h1;simp only [sh]at g;have B:(st (i+1)).al=gK (st i).al y.dst v:=by rw [←g,←td h1]
   have q:(st (i+1)).heap=s1.heap:=by rw [←g]
   have N:(st (i+1)).defs=s1.defs:=by rw [←g]
   have F:∀ p ∈ y.op.rd,(st i).al.get p=(fx (st i).al y.op.rd).get p:=fun p hp=>by rw [qQ,bf hp]
   have Z:RR σ X (fx (st i).al y.op.rd) a.tmps:=fun p=>by
    rw [qQ];split
    ·rename_i hp;exact S p (Ki hp)
    ·trivial
   have M:=AM F h1;by_cases m:cls y.op=.w
   ·have a_:=R.W0 d A m;obtain⟨g1,g2⟩:=AL hC d.sr d.b (s:={ st i with al:=fx (st i).al y.op.rd }) (by rw [d.heap,←a_]) Z (by rw [a_];exact d.defs) l M;obtain⟨X1,u,a1,k1,⟨k2,k3,k4,k5,k6⟩,k7,k8⟩:=g1 b ops i rest k cs A.ho hw hk g_;obtain⟨E',X2,q1,q2⟩:=R.zI d A m (a1:=a1.put o.dst u) k3 k6 k5 k4 (d_ a a1 u k7) B (by rw [k2,q]) (by rw [N,J];exact k8);exact⟨E',X2,a1.put o.dst u,by rw [q1];exact k1,q2,by rw [d_ a a1 u k7,K]⟩
   ·
    have f_:∀ c,o.op≠.defer c:=nb l (fun x xs e=>m (by rw [e];rfl)) (fun e=>by rw [e]at h1;simp [dO,aW]at h1);have one:∀ {u:Value} {w':World},(execOp a.eval o).run Q X.w=.ok (.value u) w'→Steps Q (lone (b.atR a (.inRegion ops (i::rest)::k)) cs X.w) (lone (b.atR (a.put o.dst u) (.inRegion ops rest::k)) cs w'):=by
     intro u w' b6;refine .one (step_lone_go ?_);rw [stepGR_op A.ho hw,Oper.semAt_eq _ _ _ f_];have a8:=Frame.finish_atR b a ops i rest k u;rw [A.ho]at a8;simp only [acY]at a8;rw [←a8];simp [stepG.apply,Sem.runT_eq,b6]
    by_cases H:cls y.op=.c
    ·
     obtain⟨f,xs,b_⟩:∃ f xs,y.op=.call f xs ag:=by
      generalize y.op=op at H;cases op<;>first | (simp only [cls,reduceCtorEq]at H;done) | skip
      rename_i f xs hh;cases hh
      ·exact⟨f,xs,rfl⟩
      ·simp [cls]at H
     have I:=Z;rw [b_]at M l I;simp only [dO,ff,acJ,if_false,IN,IS]at M;obtain⟨⟨v',H'⟩,hp,rfl,d7⟩:=M;have f9:H'=(st (i+1)).heap:=by
      rw [q];simp only [St.mk.injEq]at d7;exact d7.2.2
     obtain⟨g1,g2⟩:=R.I9 d A (by simp [H]) (by simp [H]) (by simp [H]) (fun e=>absurd e (R.qD A.hy (by simp [H])));have c7:cA H' X.H:=by
      rw [f9,d.heap];exact(R.cu E g1 d.eN fun j h1 h2=>g2 j (by omega) h2).1
     obtain⟨X1,u,k1,⟨k2,k3,k4,k5,k6⟩,k7⟩:=tt hC d.sr d.b I l hp c7 b ops i rest k cs A.ho hw;exact⟨E,X1,a.put o.dst u,k1,R.kV d A m k3 k6 k5 (.inl k4) rfl B k2 (by rw [J];exact d.defs.ext' k5) (gS.fy d k7),K u⟩
    ·have hx:(aW (fx (st i).al y.op.rd) (st i).heap y.op)=aa (v,s1.heap):=by
      have b9:¬ ((∃ f xs h,y.op=.call f xs h)∨(∃ x xs h,y.op=.bH x xs h)∨y.op=.recover∨∃ x xs,y.op=.defer x xs):=by
       rintro(⟨f,xs,hh,e⟩ | ⟨x,xs,hh,e⟩ | e | ⟨x,xs,e⟩)<;>rw [e]at m H
       ·cases hh
        ·exact H rfl
        ·exact m rfl
       ·exact m rfl
       ·exact m rfl
       ·exact m rfl
      have hx:(aW (fx (st i).al y.op.rd) (st i).heap y.op).map (fun r=>(r.1,({ st i with al:=fx (st i).al y.op.rd,heap:=r.2 }:St)))=aa (v,{ s1 with al:=fx (st i).al y.op.rd }):=by
       generalize fx (st i).al y.op.rd=r at M;generalize y.op=op at M b9;cases op<;>first | exact M | (exfalso;apply b9;simp)
      simp only [IN,IS,St.mk.injEq]at hx;obtain⟨⟨v',H'⟩,h2,rfl,_,_,h3⟩:=hx;rw [h2];simp only at h3;rw [h3]
     by_cases Y:cls y.op=.a
     ·by_cases U:i=eJ ops aos∧E≤i
      ·
       obtain⟨c9,f8⟩:=U;obtain⟨⟨zs,b_⟩,_,_⟩:=R.ord.ear y (show aos[eJ ops aos]?=aa y from c9▸A.hy);have c_:=hx;rw [b_]at c_ l;simp only [aW,sh,IS]at c_;obtain⟨rfl,_⟩:=c_;simp only [df]at l;split at l
       ·rename_i t ho;obtain⟨z,us,e_,f4,f7,_⟩:=dN (σ:=σ) (X:=X) l X.w;have b6:(execOp a.eval o).run Q X.w=.ok (.value (.pointer (aa ⟨X.w.heap.size,0,ab⟩))) (X.w.alloc (.cells us.toArray t)):=by
         simp only [execOp,ho];refine dw ?_;simp [Instr.alloc,e_,newVar,newRow,f4]
        obtain⟨e1,e2⟩:=zm d.sr (dp.alloc X.w (.cells us.toArray t));refine⟨E,{ X with w:=X.w.alloc (.cells us.toArray t) },a.put o.dst (.pointer (aa ⟨X.w.heap.size,0,ab⟩)),one b6,R.kV d A m e1 (by have:=d.b;simp;omega) e2 (.inr ⟨c9,by rw [←c9];exact f8,zs,X.w.heap.size,b_,rfl,d.ext.size,?_⟩) rfl B rfl (by rw [J];exact d.defs.ext' e2) (gS.fy d rfl),K _⟩;exact⟨⟨us,t,(dp.alloc X.w (.cells us.toArray t)).new,A2.ext' σ e2 f7⟩,d.b,fun b L hb=>by have:=(d.sr.br b L hb).2.1;omega,fun j hj=>by have:=d.sr.fb _ j hj;omega⟩
       ·simp at l
      have hJ:i=eJ ops aos→i<E:=fun e=>by
       rcases ac6 i E with h | h
       ·exact h
       ·exact absurd ⟨e,h⟩ U
      obtain⟨g1,g2⟩:=R.I9 d A (by simp [Y]) (by simp [Y]) (by simp [Y]) hJ;have c7:cA s1.heap X.H:=by
       rw [←q,d.heap];exact(R.cu E g1 d.eN fun j h1 h2=>g2 j (by omega) h2).1
      obtain⟨X1,u,k1,⟨k2,k3,k4,k5,k6⟩,k7,k8⟩:=PS d.sr d.b Z Y l hx c7 (fun b9=>d.sx i y g1 A.hD A.hy Y (by rw [q];exact b9));refine⟨E,X1,a.put o.dst u,one k1,R.kV d A m k3 k6 k5 (.inl k4) rfl B k2 (by rw [J];exact d.defs.ext' k5) ?_,K u⟩;by_cases c6:(st (i+1)).heap.length=(st i).heap.length
      ·exact gS.fy d (k8 (by rw [←q];exact c6))
      ·intro j z h2 h3 h4 h5 h6;rw [k7 _ (R.yY d A Y hJ c6 h2 h3 h4 h5 h6)];exact d.sx j z h2 (fun h=>h3 (.inl h)) h4 h5 h6
     ·
      have d6:cls y.op=.p∨cls y.op=.r:=by cases b7:cls y.op<;>simp_all
      have i_:aW (st i).al (st i).heap y.op=aa (v,s1.heap):=by rw [zw F];exact hx
      have d9:aW (fx (st i).al y.op.rd) X.H y.op=aa (v,X.H):=by
       rcases d6 with b7 | b7
       ·have:=Tn (r:=fx (st i).al y.op.rd) b7 (st i).heap X.H;rw [hx]at this;simpa using this
       ·rw [←zw F];exact(R.abL d A b7 c4 i_).2
      cases c8:y.op.Xc
      case true=>
       have O:=l;have W:=d9;have I:=Z;obtain⟨rg,h_⟩:=bV (fx (st i).al y.op.rd);rw [←h_]at W I;revert O W;generalize y.op=op at c8;cases op<;>simp only [cj.Xc,reduceCtorEq]at c8;intro O W;obtain⟨_,u,X1,k1,k2,k3,k4,k5,k6,k7⟩:=su d.sr d.b I O W;exact⟨E,X1,a.put o.dst u,one k1,R.kV d A m k3 k6 k5 (.inl k4) rfl B k2 (by rw [J];exact d.defs.ext' k5) (gS.fy d k7),K u⟩
      obtain⟨_,u,k1,k2⟩:=Ti d.sr Z l d6 c8 d9;exact⟨E,X,a.put o.dst u,one k1,R.kV d A m d.sr d.b (Ext.refl _ _) (.inl k2) rfl B rfl (by rw [J];exact d.defs) (gS.fy d rfl),K u⟩
  ·simp at g
 ·rename_i c4;have hw:=ly hm (al:=(st i).al) (tmps:=a.tmps) (X:=X) (fun p w' hg=>S p (z2 hg)) d.size c4;simp only [sh]at g;have B:(st (i+1)).al=gK (st i).al y.dst (.t []):=by rw [←g]
  have q:(st (i+1)).heap=(st i).heap:=by rw [←g]
  have N:(st (i+1)).defs=(st i).defs:=by rw [←g]
  have d8:Steps Q (lone (b.atR a (.inRegion ops (i::rest)::k)) cs X.w) (lone (b.atR (a.put o.dst undef) (.inRegion ops rest::k)) cs X.w):=by
   refine .one ?_;have:=stepR_op_skip (P:=Q) (b:=b) (a:=a) (k:=k) (cs:=cs) (w:=X.w) (ops:=ops) (i:=i) (rest:=rest) (by simp [A.ho,hw]);rw [A.ho]at this;exact this
  by_cases m:cls y.op=.w
  ·have a_:=R.W0 d A m;obtain⟨E',X2,q1,q2⟩:=R.zI d A m (a1:=a.put o.dst undef) d.sr d.b (Ext.refl _ _) VR.undef rfl B (by rw [d.heap,q,a_]) (by rw [N,J,a_];exact d.defs);exact⟨E',X2,a.put o.dst undef,by rw [q1];exact d8,q2,K _⟩
  ·exact⟨E,X,a.put o.dst undef,d8,R.kV d A m d.sr d.b (Ext.refl _ _) (.inl VR.undef) rfl B rfl (by rw [J];exact d.defs) (gS.fy d rfl),K _⟩
 ·simp at g
end
end Km
