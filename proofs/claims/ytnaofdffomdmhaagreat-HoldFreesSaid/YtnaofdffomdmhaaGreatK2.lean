/-
  Our own small machine for Go code by value, held sZ the model: part 2. No program in FR.
-/
import Derived.Test.YtnaofdffomdmhaaGreatK1
import Derived.AtR
import Derived.RangeFuncIn
import Derived.RangeFuncRecord
import Derived.Conc.MuLone
open Option renaming some → aa,none → ab
open Bool renaming true → ae,false → ag
open Nat renaming le_max_left → asM, le_trans → asz, le_max_right → asD, mul_le_mul_right → asW, le_refl → aft, add_mul → asL, lt_or_ge → asS, lt_irrefl → at4, add_zero → atJ, mul_eq_zero → at7, zero_add → asN, lt_of_lt_of_le → asJ, lt_trichotomy → atk
open Option.some renaming injEq → At
open Prod.mk renaming injEq → OF
open List renaming getElem?_map → asU, length_map → asi, getElem?_toArray → atW, getElem?_cons_zero → atz, getElem?_cons_succ → atS, length_append → api, getElem?_eq_some_iff → BY, getElem?_set_ne → AI, getElem?_append_left → AT, length_drop → asr, eq_nil_of_length_eq_zero → asl, drop_zero → atf, ext_getElem? → atx, getElem?_set → atX, getElem?_eq_getElem → By, foldl_cons → aty, mem_cons → asv, getElem_mem → anc, getElem?_drop → asu, getElem?_of_mem → as2, drop_eq_nil_iff → auj, drop_eq_getElem_cons → arM, mem_flatMap → atE, mem_append → asw, mem_map → asH, getElem?_take → asI, getElem?_eq_none → atg, getD_eq_getElem?_getD → atG, all_eq_true → asC
open Option renaming map_eq_some_iff → IT, map_some → asY, bind_some → asR
open Bool renaming and_eq_true → If, false_eq_true → aso, true_and → as3
open Int renaming natCast_mul → atT, toNat_natCast → asy, mul_comm → atK
set_option linter.unusedVariables false
set_option linter.constructorNameAsVariable false
set_option linter.unusedSimpArgs false
set_option linter.unusedSectionVars false
set_option maxRecDepth 100000
namespace Km
open Go
section
variable{Q:Program}{σ:Nat→FuncId}{X:Wd}
theorem xO(n:Nat):∀(r c:Nat),Builtin.growBy n r c≤Nat.max c (n+(n+768) / 4)
 | 0,c=>by simp [Builtin.growBy];exact asM _ _
 | r+1,c=>by
  simp only [Builtin.growBy];split
  ·exact asM _ _
  ·rename_i h;refine asz (xO n r _) ?_;apply Nat.max_le.2;exact⟨asz (by omega) (asD _ _),asD _ _⟩
theorem vp{need cap:Nat}(h:cap<need):Builtin.nextslicecap need cap≤2*need+768:=by
 unfold Builtin.nextslicecap;split
 ·omega
 ·split
  ·omega
  ·refine asz (xO need 4 cap) ?_;apply Nat.max_le.2;omega
theorem AN(K:SR Q σ X){sz:Nat}{y:V}{u:Value}(v:VR σ X y u){m:Nat}{ys:List C}(h:cX X.H sz y=aa (m,ys)) :
  ∃ F,(Builtin.lenOf u).run Q X.w=.ok m X.w∧(Builtin.firstCells sz m u).run Q X.w=.ok F.toArray X.w∧A2 (CR σ X) ys F∧ys.length=m*sz:=by
 unfold cX at h;split at h
 ·rename_i s;have:=VR.str v;subst this;split at h
  case isFalse=>simp at h
  rename_i q;subst q;simp only [At,OF]at h;obtain⟨rfl,rfl⟩:=h;have g:s.extract 0 s.size=s:=ByteArray.extract_zero_size;refine⟨s.data.toList.map fun b=>.int .u8 b.toNat,by simp [Builtin.lenOf],?_,?_,?_⟩
  ·simp only [Builtin.firstCells,g,Sem.run_pure]
   congr 1
   apply Array.ext';simp
  ·rw [ByteArray.toList_eq];exact⟨by simp,fun i x u E B=>by
    simp only [asU,IT]at E B;obtain⟨c,L,rfl⟩:=E;obtain⟨d,z,rfl⟩:=B;rw [L]at z;cases z;exact cV.int _ _⟩
  ·rw [ByteArray.toList_eq];simp only [asi,Array.length_toList,Nat.mul_one];rfl
 ·rename_i x M;split at h
  ·rename_i l cs A j;simp only [At,OF]at h;obtain⟨rfl,rfl⟩:=h;obtain⟨us,H,I,J⟩:=lB K v A j;obtain⟨a,c,rfl⟩:=iF v A;exact⟨us,by simp [Builtin.lenOf],H,I,J⟩
  ·simp at h
 ·simp at h
structure aoj(Q:Program)(t t' e:TypeId)(sz bytes:Nat):Prop where
 hu:Q.underlying t=aa (.slice e)
 hu':∃ d,Q.underlying t'=aa d∧(∀ k,d≠.int k)
 nu:dB Q e sz=ae
 hby:mL Q e bytes=ae
 pos:0<sz
 zero:∃ i z,Q.info? e=aa i∧i.zero=aa z∧z.cells.size=sz
def q8(base:Option Addr)(k:Nat)(b:List Value):Sem Unit:=match base with
 | some a=>storeCells (a.add k) b| none=>pure ()
theorem jz{t O e:TypeId}{sz bytes:Nat}(j:aoj Q t O e sz bytes)(W:TypeId){base:Option Addr}{l cap m:Nat}{u:Value}{g:List Value}{w:World}
  (S:(Builtin.lenOf u).run Q w=.ok m w) (Y:(Builtin.firstCells sz m u).run Q w=.ok g.toArray w) :
  (l+m≤cap→(Builtin.append_ #[t,O] W #[.slice base l cap,u]).run Q w =
   ((q8 base (l*sz) g).run Q w).andThen fun _ w'=>.ok (.slice base (l+m) cap) w') ∧
  (¬ l+m≤cap→bY (l+m) bytes=ae→∀ os g:List Value,(Builtin.firstCells sz l (.slice base l cap)).run Q w.drew=.ok os.toArray w.drew→(Builtin.firstCells sz m u).run Q w.drew=.ok g.toArray w.drew →
   ∃ nc rest w',l+m≤nc∧(Builtin.append_ #[t,O] W #[.slice base l cap,u]).run Q w=.ok (.slice (aa ⟨w.heap.size,0,ab⟩) (l+m) nc) w' ∧
    ed w w' (.cells (os++g++rest).toArray e)∧rest.length=(nc-(l+m))*sz):=by
 obtain⟨d,U,F⟩:=j.hu';obtain⟨i,z,hi,hz,y⟩:=j.zero;obtain⟨q,s,B⟩:=zI j.hby w;have A:((d matches .int _):Bool)=ag:=by
  cases d with
  | int k=>exact absurd rfl (F k)| _=>rfl
 constructor
 ·intro I;simp only [Builtin.append_,atW];simp [aZ j.hu,aZ U,dk j.nu,A,S,I,Y];cases base<;>simp [q8]
 ·intro H b os g Z h4;unfold bY at b;simp only [If,decide_eq_true_eq]at b;have v:q=i:=by
   simp [typeInfo,hi]at s;exact s.symm
  subst v;have J:¬ (Builtin.nextslicecap (l+m) cap*q.bytes>2 ^ 48):=by
   rw [B];have:=vp (need:=l+m) (cap:=cap) (by omega);have:=asW bytes this;omega
  let nc:=(Question.appendCap (l+m) cap e).cut (w.tape w.drawn (.appendCap (l+m) cap e))
  have K:l+m≤nc:=by simp [nc,Question.cut]
  refine⟨nc,cG (nc-(l+m)) z.cells.toList,w.drew.alloc (.cells (os++g++cG (nc-(l+m)) z.cells.toList).toArray e),K,?_,⟨rfl,rfl,rfl,rfl⟩,by rw [kE];simp [y]⟩;have E:(choose (.appendCap (l+m) cap e)).run Q w=.ok nc w.drew:=by
   simp [choose,Sem.run,Question.forced,nc]
  have M:Builtin.zeroCells z.cells (nc-(l+m))=(cG (nc-(l+m)) z.cells.toList).toArray:=by
   have:=iG z.cells.toList (nc-(l+m)) (by simp [y];exact j.pos);simpa [Builtin.zeroCells]using this
  have x:¬ (((l+m:Nat):Int)>IntKind.i64.max):=by
   have:IntKind.i64.max=9223372036854775807:=by decide
   rw [this];omega
  have N:∀ w',(zeroValue e).run Q w'=.ok z w':=fun w'=>by simp [zeroValue,typeInfo,hi,hz]
  have L:∀ w',(typeInfo e).run Q w'=.ok q w':=fun w'=>by simp [typeInfo,hi]
  simp only [Builtin.append_,Sem.run_bind,aZ j.hu,aZ U,dk j.nu,A,Result.andThen_ok,Sem.run_pure,aso,if_false,S,aX H,Sem.run_ite,L,x,false_and,J,E,run_askRoom,Z,
   Bool.not_false,if_true,h4,N,M,newRow,run_newObj,atW,atz,atS]
  have X:os.toArray++g.toArray++(cG (nc-(l+m)) z.cells.toList).toArray=(os++g++cG (nc-(l+m)) z.cells.toList).toArray:=by simp
  rw [X];rfl
theorem SR.drew(b:SR Q σ X):SR Q σ { X with w:=X.w.drew }∧Ext X.H.length X { X with w:=X.w.drew }:=by
 have d:Ext X.H.length X { X with w:=X.w.drew }:=Ext.one b X.H.length rfl (fun _ _=>Iff.rfl) (fun _ _ _=>rfl) (fun _ _ _ _=>rfl) (fun h=>by omega)
  (fun _ _ _=>rfl) (fun _ _=>rfl) (fun L h=>.inl ⟨L,h,rfl⟩) (aft _) rfl rfl rfl
 exact⟨SR.step Q σ b d X.H.length (fun _ _=>rfl) (fun _ _=>rfl) (fun _ _ _ _=>rfl) (fun _ _ _ _ _ h=>h) (fun L h=>by
  change X.cD X.H.length=aa L at h;rw [SR.qY b]at h;simp at h) b.fb,d⟩
theorem abe(l:SR Q σ X)(A:X.B≤X.w.heap.size){sz:Nat}(d:0<sz){cs:List C}{us rest:List Value}(h:A2 (CR σ X) cs us){n nc:Nat}(q:cs.length=n*sz)(F:rest.length=(nc-n)*sz)(E:n≤nc)
  {e:TypeId} {w':World} (s:ed X.w w' (.cells (us++rest).toArray e)) :
  ∃ X',X'.w=w'∧X'.H=X.H++[.cj sz cs 0 0 .loc]∧SR Q σ X'∧Ext X.H.length X X'∧VR σ X' (.c (.sl X.H.length 0 n 0 0 sz)) (.slice (aa ⟨X.w.heap.size,0,ab⟩) n nc)∧X'.B≤X'.w.heap.size:=by
 obtain⟨X',u,j,v,x,y,z⟩:=SR.new l A (.cj sz cs 0 0 .loc) s nc fun X' H g B _=>⟨rfl,us,rest,by rw [g];exact jj s,A2.ext' σ H h,by
  have:=h.len;rw [api,F,←this,q,←asL];congr 1;show n+(nc-n)=nc;omega,d,⟨n,q⟩,fun i _ m=>by rw [B]at m;have:=l.fb _ _ m;simp at this⟩
 refine⟨X',u,j,v,x,?_,z⟩;have b:X'.H[X.H.length]?=aa (.cj sz cs 0 0 .loc):=by rw [j];simp
 simp only [VR,gR,CR,ft,b];exact⟨aft _,fun _ _=>⟨_,y,0,by omega,by show 0+n≤nc;omega,by simp⟩,_,_,_,rfl⟩
theorem tp(q:SR Q σ X)(N:X.B≤X.w.heap.size){b sz:Nat}{v cs:List C}{fl ep:Nat}{st:Os}(E:X.H[b]?=aa (.cj sz v fl ep st)){ys:List C}{us A rest:List Value}(F:A2 (CR σ X) cs us)(J:A2 (CR σ X) ys A)
  (z:0<sz) {n nc:Nat} (I:cs.length+ys.length=n*sz) (U:rest.length=(nc-n)*sz) (S:n≤nc) {e:TypeId} {w':World} (j:ed X.w w' (.cells (us++A++rest).toArray e)) :
  ∃ X',X'.w=w'∧X'.H=X.H.set b (.cj sz (cs++ys) fl (ep+1) .loc)∧SR Q σ X'∧Ext X.H.length X X'∧VR σ X' (.c (.sl b 0 n 0 (ep+1) sz)) (.slice (aa ⟨X.w.heap.size,0,ab⟩) n nc)∧X'.B≤X'.w.heap.size:=by
 have y:b<X.H.length:=(BY.1 E).1
 let X':Wd:={ X with H:=X.H.set b (.cj sz (cs++ys) fl (ep+1) .loc),cD:=fun k=>if k=b then aa ⟨X.w.heap.size,nc⟩else X.cD k,w:=w' }
 have g:X'.H[b]?=aa (.cj sz (cs++ys) fl (ep+1) .loc):=by simp [X',y]
 have l:X'.cD b=aa ⟨X.w.heap.size,nc⟩:=by simp [X']
 have u:Ext X.H.length X X':=Ext.one q b rfl (fun _ _=>Iff.rfl) (fun k O _=>j.CD O) (fun L i W x=>World.cell?_of_block (j.CD (q.fb _ _ x)))
  (fun _ bj d=>⟨_,g,by rw [E]at d;simp only [At]at d;subst d;exact⟨rfl,.inr ⟨by omega,rfl,_,l⟩⟩⟩)
  (fun m h _=>by simp [X',AI (Ne.symm h)]) (fun m h=>by simp [X',h]) (fun L h=>by rw [l]at h;simp only [At]at h;subst h;exact .inr (aft _)) (by show X.w.heap.size≤w'.heap.size;rw [j.size];omega) j.os j.tape j.output
 refine⟨X',rfl,rfl,SR.step Q σ q u b (fun m h=>by simp [X',AI (Ne.symm h)]) (fun m h=>by simp [X',h]) (fun m L _ s=>j.CD (q.br m L s).2.1) (fun _ _ _ _ _ h=>h) (fun L h=>?_) (fun c i h=>?_),u,?_,?_⟩
 ·rw [l]at h;simp only [At]at h;subst h;refine⟨N,by show X.w.heap.size<w'.heap.size;rw [j.size];omega,⟨_,g,rfl,us++A,rest,jj j,(A2.ext' σ u F).append (A2.ext' σ u J),?_,z,⟨n,by simpa using I⟩,fun i _ x=>?_⟩,fun m B _ s=>?_⟩
  ·have K:=F.len;have M:=J.len;rw [api,api,U,←K,←M,I,←asL];congr 1;show n+(nc-n)=nc;omega
  ·have:=q.fb _ _ x;simp at this
  ·have:=(q.br m B s).2.1;show B.c≠X.w.heap.size;omega
 ·have:=q.fb c i h;show c<w'.heap.size;rw [j.size];omega
 ·simp only [VR,gR,CR,ft,g];exact⟨aft _,fun _ _=>⟨_,l,0,by omega,by show 0+n≤nc;omega,by simp⟩,_,_,_,rfl⟩
 ·show X.B≤w'.heap.size;rw [j.size];omega
end
section
variable{Q:Program}{σ:Nat→FuncId}{X:Wd}
theorem vB{d:Type}(us rest b:List d)(h:b.length≤rest.length):over (us++rest) us.length b=us++b++rest.drop b.length:=by
 unfold over;rw [List.take_left',←List.drop_drop,List.drop_left']
 all_goals rfl
theorem amT(K:SR Q σ X){b sz:Nat}{cs:List C}{fl ep:Nat}{L:Loc}(y:X.H[b]?=aa (.cj sz cs fl ep .loc))(x:X.cD b=aa L){ys:List C}{l:List Value}(F:A2 (CR σ X) ys l)(W:fl≤cs.length)
  {n:Nat} (Y:cs.length+ys.length=n*sz) (m:n≤L.cap):∃ X',(storeCells ⟨L.c,cs.length,ab⟩ l).run Q X.w=.ok () X'.w∧X'.H=X.H.set b (.cj sz (cs++ys) fl (ep+1) .loc)∧SR Q σ X' ∧
   Ext X.H.length X X'∧VR σ X' (.c (.sl b 0 n 0 (ep+1) sz)) (.slice (aa ⟨L.c,0,ab⟩) n L.cap)∧X'.w.heap.size=X.w.heap.size∧X'.B=X.B:=by
 obtain⟨_,_,bj,j,z⟩:=K.br b L x;rw [y]at j;simp only [At]at j;subst j;obtain⟨_,us,rest,A,H,J,S,k,I⟩:=z;have q:b<X.H.length:=(BY.1 y).1;have Z:=F.len;have g:=H.len;have E:n*sz≤L.cap*sz:=asW sz m;have B:l.length≤rest.length:=by simp only [api]at J;omega
 obtain⟨M,a,c,e,f,v⟩:=ej A l cs.length (by simp;omega);rw [g,vB _ _ _ B]at v;rw [←g]at v;obtain⟨N,O⟩:=SR.turn K (blk':=.cj sz (cs++ys) fl (ep+1) .loc) y x M a (fun i U=>by
   have hi:i<fl:=by
    rcases asS i fl with h | h
    ·exact h
    ·exact absurd U (I i h)
   have:=dw v i;rw [g]at this ⊢;rw [this,dw A,List.append_assoc,AT (by omega),AT (by omega)]) c e f
  (fun bj d=>⟨.cj sz (cs++ys) fl (ep+1) .loc,by simp [q],by rw [y]at d;simp only [At]at d;subst d;exact⟨rfl,.inr ⟨by omega,rfl,L,x⟩⟩⟩)
  (fun u=>⟨rfl,us++l,rest.drop l.length,by rw [g]at v ⊢;exact v,(A2.ext' σ u H).append (A2.ext' σ u F),by simp only [api,asr]at J ⊢;omega,S,⟨n,by simpa using Y⟩,I⟩)
 refine⟨_,rb A l cs.length (by simp;omega) (A2.one F),rfl,N,O,?_,M,rfl⟩;have s:(X.H.set b (.cj sz (cs++ys) fl (ep+1) .loc))[b]?=aa (.cj sz (cs++ys) fl (ep+1) .loc):=by simp [q]
 simp only [VR,gR,CR,ft,s];exact⟨aft _,fun _ _=>⟨L,x,0,by omega,by omega,by simp⟩,_,_,_,rfl⟩
theorem zx{c:Call}{sz bytes:Nat}{x y:Arg}(h:ee Q σ c (.append sz bytes x y)=ae):∃ u v t m e,c.callee=.builtin .append∧c.args=#[u,v]∧c.argTypes=#[t,m]∧mA σ x u=ae∧mA σ y v=ae ∧
  aoj Q t m e sz bytes:=by
 simp only [ee]at h;split at h
 ·rename_i u v t m B E F;simp only [If]at h;obtain⟨⟨⟨I,J⟩,l⟩,g⟩:=h;obtain⟨e,H,l⟩:=iq l;simp only [If,decide_eq_true_eq]at l;obtain⟨⟨⟨s,q⟩,d⟩,j⟩:=l;have A:∃ i z,Q.info? e=aa i∧i.zero=aa z∧z.cells.size=sz:=by
   cases hi:Q.info? e with
   | none=>simp [hi]at j
   | some i=>
    simp only [hi,Option.any_some]at j;cases b:i.zero with
    | none=>simp [b]at j| some z=>simp [b]at j;exact⟨i,z,rfl,b,j⟩
  refine⟨u,v,t,m,e,B,ag3 E,ag3 F,I,J,⟨H,?_,s,q,d,A⟩⟩;split at g
  ·exact⟨_,by assumption,fun k=>by simp⟩
  ·exact⟨_,by assumption,fun k=>by simp⟩
  ·simp at g
 ·simp at h
theorem xu(W:SR Q σ X)(hB:X.B≤X.w.heap.size){a:Act}{az:T}(hR:RR σ X az a.tmps){o:Oper}{sz bytes:Nat}{x y:Arg}(hm:dX Q σ o (.append sz bytes x y)=ae){v:V}{H':aj}
  (h:bo az X.H (.append sz bytes x y)=aa (v,H')):gV Q σ X v H' (execOp a.eval o):=by
 simp only [dX]at hm;split at hm
 ·rename_i c ho;obtain⟨u,v',t,t',e,h1,h2,h3,hx,hy,ht⟩:=zx hm;have hx:=bX hR hx;have hy:=bX hR hy;simp only [bo]at h;generalize n8:a.eval u=ux at hx;generalize n9:a.eval v'=uy at hy;generalize x.ev az=vx at hx h;generalize y.ev az=vy at hy h;have a_:∀(r:Value) (w':World),(Builtin.append_ #[t,t'] o.type #[ux,uy]).run Q X.w=.ok r w'→(execOp a.eval o).run Q X.w=.ok (.value r) w':=by
   intro r w' hr;refine dy ho h1 fun cs=>?_;simp [builtin,h2,h3,n8,n9,hr]
  unfold cI at h;split at h
  ·simp at h
  rename_i m ys f8;rw [aX (by have:=ht.pos;omega)]at h;obtain⟨vs,b_,b9,d_,f7⟩:=AN W hy f8;obtain⟨Y,i8⟩:=SR.drew W;obtain⟨a8,_,e_,j6,_⟩:=AN Y (VR.ext' σ i8 hy) f8;have B:A2 (CR σ X) ys a8:=by
   have d9:Ext X.H.length { X with w:=X.w.drew } X:=Ext.one Y X.H.length rfl (fun _ _=>Iff.rfl) (fun _ _ _=>rfl) (fun _ _ _ _=>rfl) (fun h=>absurd h (at4 _))
    (fun _ _ _=>rfl) (fun _ _=>rfl) (fun L h=>.inl ⟨L,h,rfl⟩) (aft _) rfl rfl rfl
   exact A2.ext' σ (X:={ X with w:=X.w.drew }) d9 j6
  have H:∀ {base:Option Addr} {l cap:Nat} {os:List Value} {cs:List C},ux=.slice base l cap→¬ l+m≤cap→bY (l+m) bytes=ae →
    (Builtin.firstCells sz l (.slice base l cap)).run Q X.w.drew=.ok os.toArray X.w.drew→A2 (CR σ X) cs os→cs.length=l*sz →
    gV Q σ X (.c (.sl X.H.length 0 (l+m) 0 0 sz)) (X.H++[.cj sz (cs++ys) 0 0 .loc]) (execOp a.eval o):=by
   intro base l cap os cs hu h_ d k_ j_ j9;obtain⟨nc,rest,w',J,j,g,K⟩:=(jz ht o.type (base:=base) (l:=l) (cap:=cap) b_ b9).2 h_ d os a8 k_ e_;obtain⟨X',N,I,O,S,U,g6⟩:=abe W hB ht.pos (cs:=cs++ys) (us:=os++a8) (j_.append B) (n:=l+m) (nc:=nc) (by rw [api,j9,f7,asL]) K J g;exact⟨_,X',.inl (by rw [N];exact a_ _ _ (by rw [hu];exact j)),I,O,U,S,g6⟩
  have A:∀ {base:Option Addr} {l cap:Nat} {X':Wd},ux=.slice base l cap→l+m≤cap→(q8 base (l*sz) vs).run Q X.w=.ok () X'.w →
    (execOp a.eval o).run Q X.w=.ok (.value (.slice base (l+m) cap)) X'.w:=by
   intro base l cap X' hu q m_;refine a_ _ _ ?_;rw [hu,(jz ht o.type (base:=base) (l:=l) (cap:=cap) b_ b9).1 q,m_];rfl
  split at h
  ·
   cases (hx:cV σ X.F X.w .au ux);split at h
   ·rename_i Z;subst Z;simp only [At,OF]at h;obtain⟨rfl,rfl⟩:=h;exact⟨_,X,.inl (A (X':=X) rfl (by omega) rfl),rfl,W,cV.au,Ext.refl _ _,hB⟩
   ·split at h
    ·rename_i d;simp only [At,OF]at h;obtain⟨rfl,rfl⟩:=h;have:=H (base:=ab) (l:=0) (cap:=0) (os:=[]) (cs:=[]) rfl (by omega) (by simpa using d) (by simp [Builtin.firstCells]) A2.nil (by simp);simpa using this
    ·simp at h
  ·
   cases (hx:cV σ X.F X.w .es ux);rename_i ad;split at h
   ·rename_i Z;subst Z;simp only [At,OF]at h;obtain⟨rfl,rfl⟩:=h;have i6:vs=[]:=asl (by rw [←d_.len,f7];simp);exact⟨_,X,.inl (A (X':=X) rfl (by omega) (by rw [i6];rfl)),rfl,W,cV.es _,Ext.refl _ _,hB⟩
   ·split at h
    ·rename_i d;simp only [At,OF]at h;obtain⟨rfl,rfl⟩:=h;have:=H (base:=aa ad) (l:=0) (cap:=0) (os:=[]) (cs:=[]) rfl (by omega) (by simpa using d) (by simp [Builtin.firstCells,loadCells,loadCellsFrom]) A2.nil (by simp);simpa using this
    ·simp at h
  ·rename_i b off l cap ep s;have i7:CR σ X (.sl b off l cap ep s) ux:=hx;simp only [VR,gR,CR,ft]at hx;split at h
   ·
    rename_i cs fl F;rw [F]at hx;obtain⟨L,hL,p_,rfl⟩:=hx;split at h
    ·rename_i q;split at h
     ·rename_i hc;simp only [At,OF]at h;obtain⟨rfl,rfl⟩:=h;obtain⟨X',N,I,O,S,U,g6,g7⟩:=Cw W F hL d_ hc.1 hc.2;refine⟨_,X',.inl (A rfl q (by simp only [q8,et];exact N)),I,O,?_,S,by omega⟩;have c_:X'.H[b]?=aa (.box (over cs (off+l*sz) ys) fl):=by rw [I];simp [(BY.1 F).1]
      simp only [VR,gR,CR,ft,c_];exact⟨L,by rw [U];exact hL,q,rfl⟩
     ·simp at h
    ·rename_i h_;split at h
     ·rename_i hc;simp only [At,OF]at h;obtain⟨rfl,rfl⟩:=h;have i4:cS X.H sz (.sl b off l cap ep s)=aa ((cs.drop off).take (l*sz)):=by simp [cS,F,hc.2]
      have i5:bt X.H (.sl b off l cap ep s)=aa l:=by simp [bt,F]
      obtain⟨os,q1,q2,q3⟩:=lB Y (CR.ext' σ i8 i7) i5 i4;have i9:A2 (CR σ X) ((cs.drop off).take (l*sz)) os:=by
       have d9:Ext X.H.length { X with w:=X.w.drew } X:=Ext.one Y X.H.length rfl (fun _ _=>Iff.rfl) (fun _ _ _=>rfl) (fun _ _ _ _=>rfl) (fun h=>absurd h (at4 _))
        (fun _ _ _=>rfl) (fun _ _=>rfl) (fun L h=>.inl ⟨L,h,rfl⟩) (aft _) rfl rfl rfl
       exact A2.ext' σ (X:={ X with w:=X.w.drew }) d9 q2
      exact H rfl h_ hc.1 q1 i9 q3
     ·simp at h
   ·
    rename_i s' cs fl e' st F;rw [F]at hx;split at h
    ·rename_i hc;obtain⟨rfl,rfl,rfl⟩:=hc;have M:=hx.2.1 rfl rfl;split at h
     ·
      rename_i Z;subst Z;simp only [At,OF]at h;obtain⟨rfl,rfl⟩:=h;have i6:vs=[]:=asl (by rw [←d_.len,f7];simp);obtain⟨base,n,cp,E⟩:=hx.2.2;have m9:n=l∧l≤cp:=by
       cases st with
       | loc=>obtain⟨L,_,k,_,hk,h8⟩:=M;rw [E]at h8;simp only [Value.slice.injEq]at h8;omega
       | nil=>obtain⟨_,rfl,h8⟩:=M;rw [E]at h8;simp only [Value.slice.injEq]at h8;omega
       | es=>obtain⟨_,rfl,_,h8⟩:=M;rw [E]at h8;simp only [Value.slice.injEq]at h8;omega
      obtain⟨rfl,o_⟩:=m9;refine⟨.slice base (n+0) cp,X,.inl (A (X':=X) E (by omega) (by rw [i6];cases base<;>rfl)),rfl,W,?_,Ext.refl _ _,hB⟩;rw [atJ,←E];exact i7
     ·rename_i Z;split at h
      ·
       rename_i hc;obtain⟨rfl,z,i_⟩:=hc;split at h
       ·rename_i d;simp only [At,OF]at h;obtain⟨rfl,rfl⟩:=h;have hn:cs.length+ys.length=(l+m)*s:=by rw [f7,←z,asL]
        cases st with
        | loc=>
         obtain⟨L,hL,k,m4,hk,rfl⟩:=M;have j5:k=0:=by
          rcases at7.1 m4.symm with h8 | h8
          ·exact h8
          ·have:=ht.pos;omega
         subst j5;rw [Nat.sub_zero]at *;by_cases q:l+m≤L.cap
         ·obtain⟨X',N,I,O,S,U,g6,g7⟩:=amT W F hL d_ i_ hn q;exact⟨_,X',.inl (A rfl q (by simp only [q8,et];rw [z,asN];exact N)),I,O,U,S,by omega⟩
         ·have i4:cS X.H s (.sl b 0 l cap ep s)=aa ((cs.drop 0).take (l*s)):=by simp [cS,F,z]
          have i5:bt X.H (.sl b 0 l cap ep s)=aa l:=by simp [bt,F]
          obtain⟨os,q1,q2,q3⟩:=lB Y (CR.ext' σ i8 i7) i5 i4;have i9:A2 (CR σ X) cs os:=by
           have d9:Ext X.H.length { X with w:=X.w.drew } X:=Ext.one Y X.H.length rfl (fun _ _=>Iff.rfl) (fun _ _ _=>rfl) (fun _ _ _ _=>rfl) (fun h=>absurd h (at4 _))
            (fun _ _ _=>rfl) (fun _ _=>rfl) (fun L h=>.inl ⟨L,h,rfl⟩) (aft _) rfl rfl rfl
           have:=A2.ext' σ (X:={ X with w:=X.w.drew }) d9 q2;rwa [atf,z,List.take_length]at this
          obtain⟨nc,rest,w',J,j,g,K⟩:=(jz ht o.type (base:=aa ⟨L.c,0,ab⟩) (l:=l) (cap:=L.cap) b_ b9).2 q d os a8 q1 e_;obtain⟨X',N,I,O,S,U,g6⟩:=tp W hB F i9 B ht.pos hn K J g;exact⟨_,X',.inl (by rw [N];exact a_ _ _ (by simpa using j)),I,O,U,S,g6⟩
        | nil=>
         obtain⟨_,rfl,rfl⟩:=M;have g_:cs=[]:=asl (by simpa using z.symm);subst g_;obtain⟨nc,rest,w',J,j,g,K⟩:=(jz ht o.type (base:=ab) (l:=0) (cap:=0) b_ b9).2 (by omega) d [] a8 (by simp [Builtin.firstCells]) e_;obtain⟨X',N,I,O,S,U,g6⟩:=tp W hB F (us:=[]) A2.nil B ht.pos hn K J g;exact⟨_,X',.inl (by rw [N];exact a_ _ _ j),I,O,U,S,g6⟩
        | es=>
         obtain⟨_,rfl,ad,rfl⟩:=M;have g_:cs=[]:=asl (by simpa using z.symm);subst g_;obtain⟨nc,rest,w',J,j,g,K⟩:=(jz ht o.type (base:=aa ad) (l:=0) (cap:=0) b_ b9).2 (by omega) d [] a8 (by simp [Builtin.firstCells,loadCells,loadCellsFrom]) e_;obtain⟨X',N,I,O,S,U,g6⟩:=tp W hB F (us:=[]) A2.nil B ht.pos hn K J g;exact⟨_,X',.inl (by rw [N];exact a_ _ _ j),I,O,U,S,g6⟩
       ·simp at h
      ·split at h
       ·
        rename_i hc;obtain⟨rfl,j4,l_⟩:=hc;simp only [At,OF]at h;obtain⟨rfl,rfl⟩:=h;obtain⟨L,hL,k,rfl,hk,rfl⟩:=M;obtain⟨_,_,bj,f_,j8⟩:=W.br b L hL;rw [F]at f_;simp only [At]at f_;subst f_;obtain⟨_,us,rest,hr,j7,h6,h7,h8,n_⟩:=j8;have q:l+m≤L.cap-k:=by
         have e1:(k+(l+m))*s≤L.cap*s:=by
          rw [asL,asL];have:=j7.len;simp only [api]at h6;omega
         have:=Nat.le_of_mul_le_mul_right e1 h7;omega
        obtain⟨X',N,I,O,S,U,g6,g7⟩:=Cx W F hL d_ j4 l_;refine⟨_,X',.inl (A rfl q (by simp only [q8,et];exact N)),I,O,?_,S,by omega⟩;have c_:X'.H[b]?=aa (.cj s (over cs (k*s+l*s) ys) fl ep .loc):=by rw [I];simp [(BY.1 F).1]
        simp only [VR,gR,CR,ft,c_];exact⟨aft _,fun _ _=>⟨L,by rw [U];exact hL,k,rfl,by omega,rfl⟩,_,_,_,rfl⟩
       ·simp at h
    ·simp at h
   ·simp at h
  ·simp at h
 ·simp at hm
end
section
variable{Q:Program}{σ:Nat→FuncId}{X:Wd}
theorem DC{c:Call}{sz bytes:Nat}{zs:List FC}{x y:Arg}(h:ee Q σ c (.kQ sz bytes zs x y)=ae):∃ u v t j e k,c.callee=.builtin .append∧c.args=#[u,v]∧c.argTypes=#[t,j]∧mA σ x u=ae∧mA σ y v=ae ∧
  Q.underlying t=aa (.slice e)∧dB Q e sz=ae∧mL Q e bytes=ae∧0<sz∧kH Q e zs=ae∧Q.underlying j=aa (.int k):=by
 simp only [ee]at h;split at h
 ·rename_i u v t j q s z;simp only [If]at h;obtain⟨⟨⟨E,F⟩,g⟩,d⟩:=h;obtain⟨e,B,g⟩:=iq g;simp only [If,decide_eq_true_eq]at g;obtain⟨⟨⟨m,l⟩,b⟩,H⟩:=g;split at d
  ·rename_i k A;exact⟨u,v,t,j,e,k,q,ag3 s,ag3 z,E,F,B,m,l,b,H,A⟩
  ·simp at d
 ·simp at h
theorem acA{n:Nat}(h:n<2 ^ 48):IntKind.i64.wrap (n:Int)=n:=by
 simp only [IntKind.wrap,IntKind.bits,IntKind.signed];have b:(2 ^ 64:Int)=18446744073709551616:=by decide
 have d:(2 ^ (64-1):Int)=9223372036854775808:=by decide
 have g:(2:Nat) ^ 48=281474976710656:=by decide
 simp only [b,d,as3,decide_eq_true_eq];split<;>omega
theorem vR{t Z e:TypeId}{sz bytes:Nat}{k k':IntKind}(c:Q.underlying t=aa (.slice e))(A:Q.underlying Z=aa (.int k))(x:dB Q e sz=ae)(F:mL Q e bytes=ae)(a:0<sz)
  {z:Value} {us:List Value} {i:TypeInfo} (hi:Q.info? e=aa i) (r:i.zero=aa z) (U:z.cells=us.toArray) (N:us.length=sz) (f:TypeId) {base:Option Addr} {n:Nat} {w:World} :
  (n=0→(Builtin.append_ #[t,Z] f #[.slice base 0 0,.int k' (n:Int)]).run Q w=.ok (.slice base 0 0) w) ∧
  (n≠0→bY n bytes=ae→∃ nc rest w',n≤nc∧(Builtin.append_ #[t,Z] f #[.slice base 0 0,.int k' (n:Int)]).run Q w=.ok (.slice (aa ⟨w.heap.size,0,ab⟩) n nc) w' ∧
   ed w w' (.cells (cG n us++rest).toArray e)∧rest.length=(nc-n)*sz):=by
 obtain⟨g,l,s⟩:=zI F w;have u:g=i:=by simp [typeInfo,hi]at l;exact l.symm
 subst u;have y:∀ w',(typeInfo e).run Q w'=.ok g w':=fun w'=>by simp [typeInfo,hi]
 have Y:∀ w',(zeroValue e).run Q w'=.ok z w':=fun w'=>by simp [zeroValue,typeInfo,hi,r]
 have j:∀(q:Int) w',(asInt (.int k' q)).run Q w'=.ok q w':=fun q w'=>by simp [asInt,asIntOf]
 constructor
 ·rintro rfl;have O:IntKind.i64.wrap 0=0:=by decide
  simp only [Builtin.append_,atW];simp [aZ c,aZ A,dk x,y,j,O];cases base<;>simp [storeCells]
 ·intro hn b;have E:=b;unfold bY at b;simp only [If,decide_eq_true_eq]at b;have S:=acA b.2;have K:¬ (Builtin.nextslicecap n 0*g.bytes>2 ^ 48):=by
   rw [s];have:=vp (need:=n) (cap:=0) (by omega);have:=asW bytes this;omega
  let nc:=(Question.appendCap n 0 e).cut (w.tape w.drawn (.appendCap n 0 e))
  have L:n≤nc:=by simp [nc,Question.cut]
  have H:(choose (.appendCap n 0 e)).run Q w=.ok nc w.drew:=by
   simp [choose,Sem.run,Question.forced,nc]
  have X:∀ m,Builtin.zeroCells z.cells m=(cG m us).toArray:=fun m=>by
   have:=iG us m (by omega);simpa [Builtin.zeroCells,U]using this
  have v:¬ ((n:Int)>IntKind.i64.max):=by
   have:IntKind.i64.max=9223372036854775807:=by decide
   have e3:(2:Nat) ^ 48=281474976710656:=by decide
   rw [this];omega
  have I:¬ ((n:Int)<0):=by omega
  have J:¬ ((n:Int)*(g.bytes:Int)>2 ^ 48):=by
   rw [s];have o:n*bytes≤2 ^ 48:=asz (asW bytes (by omega:n≤2*n+768)) b.1;have p:((n*bytes:Nat):Int)≤2 ^ 48:=by
    have B:((2 ^ 48:Nat):Int)=2 ^ 48:=by decide
    rw [←B];exact Int.ofNat_le.2 o
   rw [atT]at p;omega
  have d:(Builtin.firstCells sz 0 (.slice base 0 0)).run Q w.drew=.ok #[] w.drew:=by
   cases base<;>simp [Builtin.firstCells,loadCells,loadCellsFrom]
  have M:¬ (n*sz=0):=by
   intro h;rcases at7.1 h with h | h<;>omega
  refine⟨nc,cG (nc-n) us,w.drew.alloc (.cells (cG n us++cG (nc-n) us).toArray e),L,?_,⟨rfl,rfl,rfl,rfl⟩,by rw [kE,N]⟩;have W:¬ (n≤0):=by omega
  have hint:((n:Int)).toNat=n:=by simp
  simp only [Builtin.append_,Sem.run_bind,aZ c,aZ A,dk x,Result.andThen_ok,Sem.run_pure,aso,if_false,Sem.run_ite,y,false_and,K,H,run_askRoom,
   Bool.not_true,if_true,Y,X,newRow,run_newObj,atW,atz,atS,j,S,I,J,hint,asN,W,v,M,d,true_or,and_true,Bool.true_eq]
  have B:#[]++(cG n us).toArray++(cG (nc-n) us).toArray=(cG n us++cG (nc-n) us).toArray:=by simp
  first
   | (rw [B];rfl)
   | (simp [B];rfl)
theorem ag2(U:SR Q σ X)(S:X.B≤X.w.heap.size){a:Act}{az:T}(hR:RR σ X az a.tmps){o:Oper}{sz bytes:Nat}{zs:List FC}{x y:Arg}(N:dX Q σ o (.kQ sz bytes zs x y)=ae){v:V}{H':aj}
  (h:bo az X.H (.kQ sz bytes zs x y)=aa (v,H')):gV Q σ X v H' (execOp a.eval o):=by
 simp only [dX]at N;split at N
 ·rename_i c ho;obtain⟨u,v',t,t',e,k,h1,h2,h3,J,L,f,F,s,g,hz,W⟩:=DC N;have J:=bX hR J;have L:=bX hR L;simp only [bo]at h;generalize i:a.eval u=O at J;generalize p:a.eval v'=uy at L;generalize x.ev az=vx at J h;generalize y.ev az=vy at L h;have l:∀(r:Value) (w':World),(Builtin.append_ #[t,t'] o.type #[O,uy]).run Q X.w=.ok r w'→(execOp a.eval o).run Q X.w=.ok (.value r) w':=by
   intro r w' hr;refine dy ho h1 fun cs=>?_;simp [builtin,h2,h3,i,p,hr]
  unfold tV at h;split at h
  ·rename_i n hn;obtain⟨k',E⟩:=i' L hn;split at h
   ·rename_i hc;obtain⟨z,us,a8,I,M,i0,A,B⟩:=eV (σ:=σ) (X:=X) hz X.w;have H:us.length=sz:=by have:=M.len;simp at this;omega
    obtain⟨m,rfl⟩:∃ m:Nat,n=m:=⟨n.toNat,by omega⟩
    have j:∀ base,O=.slice base 0 0→(v,H')=(.c (.sl X.H.length 0 m 0 0 sz),X.H++[.cj sz ((cG m zs).map .f) 0 0 .loc])→m≠0→bY m bytes=ae→gV Q σ X v H' (execOp a.eval o):=by
     intro base hb he d b;cases he;obtain⟨nc,rest,w',Y,K,q,Z⟩:=(vR (k':=k') f W F s g A B I H o.type (base:=base) (n:=m)).2 d b;obtain⟨X',g1,g2,g3,g4,g5,g6⟩:=abe U S g (cs:=(cG m zs).map .f) (us:=cG m us) (jC M m) (n:=m) (nc:=nc) (by rw [asi,kE,hc.2]) Z Y q;exact⟨_,X',.inl (by rw [g1];exact l _ _ (by rw [hb,E];exact K)),g2,g3,g5,g4,g6⟩
    split at h
    ·cases (J:cV σ X.F X.w .au O);simp only [asy]at h;split at h
     ·rename_i d;simp only [At,OF]at h;obtain⟨rfl,rfl⟩:=h;exact⟨_,X,.inl (l _ _ (by rw [E];exact(vR (k':=k') f W F s g A B I H o.type (base:=ab) (n:=m)).1 d)),rfl,U,cV.au,Ext.refl _ _,S⟩
     ·rename_i d;split at h
      ·rename_i b;simp only [At]at h;exact j ab rfl h.symm d b
      ·simp at h
    ·cases (J:cV σ X.F X.w .es O);rename_i w;simp only [asy]at h;split at h
     ·rename_i d;simp only [At,OF]at h;obtain⟨rfl,rfl⟩:=h;exact⟨_,X,.inl (l _ _ (by rw [E];exact(vR (k':=k') f W F s g A B I H o.type (base:=aa w) (n:=m)).1 d)),rfl,U,cV.es _,Ext.refl _ _,S⟩
     ·rename_i d;split at h
      ·rename_i b;simp only [At]at h;exact j (aa w) rfl h.symm d b
      ·simp at h
    ·simp at h
   ·simp at h
  ·simp at h
 ·simp at N
end
section
variable{Q:Program}{σ:Nat→FuncId}{X:Wd}
theorem amu(s:SR Q σ X)(m:X.B≤X.w.heap.size){a:Act}{az:T}{o:Oper}{st:Os}{sz:Nat}(d:dX Q σ o (.pre st sz)=ae){v:V}{H':aj}
  (h:bo az X.H (.pre st sz)=aa (v,H')):gV Q σ X v H' (execOp a.eval o):=by
 cases st with
 | nil=>
  simp only [bo]at h;split at h
  ·simp at h
  ·simp only [At,OF]at h;obtain⟨rfl,rfl⟩:=h;obtain⟨j,l⟩:=SR.grow s (.cj sz [] 0 0 .nil);have q:VR σ { X with H:=X.H++[.cj sz [] 0 0 .nil] } (.c (.sl X.H.length 0 0 0 0 sz)) (.slice ab 0 0):=by
    have b:(X.H++[bq.cj sz [] 0 0 .nil])[X.H.length]?=aa (.cj sz [] 0 0 .nil):=by simp
    simp only [VR,gR,CR,ft,b];exact⟨aft _,fun _ _=>by simp,_,_,_,rfl⟩
   simp only [dX]at d;split at d
   ·rename_i g;exact⟨.slice ab 0 0,_,.inl (by simp [execOp,g,Act.eval]),rfl,j,q,l,m⟩
   ·rename_i g;exact⟨.slice ab 0 0,_,.inl (by simp [execOp,g,Act.eval]),rfl,j,q,l,m⟩
   ·simp at d
 | _=>simp [dX]at d
theorem abb(u:SR Q σ X)(s:X.B≤X.w.heap.size){a:Act}{o:Oper}(b:dX Q σ o .jx=ae):gV Q σ X (.c (.mp X.H.length)) (X.H++[.map []]) (execOp a.eval o):=by
 simp only [dX]at b;split at b
 ·rename_i t v;obtain⟨X',g,d,j,l,m,q⟩:=SR.new u s (.map []) (ed.alloc X.w (.map #[] 0)) 0 fun X' z x y _=>⟨[],by rw [x];exact(ed.alloc _ _).new,A2.nil,by simp⟩
  exact⟨.map (aa X.w.heap.size),X',.inl (by rw [g];simp [execOp,v,Instr.makeMap]),d,j,⟨_,m,⟨[],by rw [d];simp⟩,rfl⟩,l,q⟩
 ·simp at b
theorem aby(E:SR Q σ X)(A:X.B≤X.w.heap.size){a:Act}{az:T}(B:RR σ X az a.tmps){o:Oper}{x:Arg}(d:dX Q σ o (.range x)=ae){v:V}{H':aj}
  (h:bo az X.H (.range x)=aa (v,H')):gV Q σ X v H' (execOp a.eval o):=by
 simp only [dX]at d;split at d
 ·rename_i t y F;simp only [If]at d;obtain⟨b,j⟩:=d;have b:=bX B b;simp only [bo]at h;split at h
  ·rename_i s H;rw [H]at b;have b:=VR.str b;simp only [At,OF]at h;obtain⟨rfl,rfl⟩:=h;split at j
   ·rename_i I;obtain⟨X',l,g,m,q,u,z⟩:=SR.new E A (.it s 0) (ed.alloc X.w (.stringIter s 0)) 0 fun X' b J K _=>by
     show X'.w.heap[X.w.heap.size]?=_;rw [J];exact(ed.alloc _ _).new
    exact⟨.pointer (aa ⟨X.w.heap.size,0,ab⟩),X',.inl (by rw [l];simp [execOp,F,Instr.range,aZ I,b]),g,m,⟨_,u,⟨s,0,by rw [g];simp⟩,rfl⟩,q,z⟩
   ·simp at j
  ·simp at h
 ·simp at d
theorem SR.pV(s:SR Q σ X){b:Nat}{bj blk':bq}{L:Loc}{o o':Obj}(x:X.H[b]?=aa bj)(q:X.cD b=aa L)(ho:X.w.heap[L.c]?=aa o)(m:∀ c e f,o≠.cells c e f)(j:∀ c e f,o'≠.cells c e f)
  (d:lG X { X with H:=X.H.set b blk',w:={ X.w with heap:=X.w.heap.setIfInBounds L.c o' } } b)
  (l:∀ X',Ext X.H.length X X'→X'.w.heap[L.c]?=aa o'→X'.F=X.F→X'.cD=X.cD→X'.H=X.H.set b blk'→BR Q σ X' blk' L) :
  SR Q σ { X with H:=X.H.set b blk',w:={ X.w with heap:=X.w.heap.setIfInBounds L.c o' } }∧Ext X.H.length X { X with H:=X.H.set b blk',w:={ X.w with heap:=X.w.heap.setIfInBounds L.c o' } }:=by
 have g:L.c<X.w.heap.size:=(s.br b L q).2.1;refine SR.turn s x q (by simp) (fun k y=>by simp [Array.getElem?_setIfInBounds_ne (Ne.symm y)]) (fun i _=>?_) rfl rfl rfl d (fun z=>l _ z (by simp [g]) rfl rfl rfl);have u:({ X.w with heap:=X.w.heap.setIfInBounds L.c o' }:World).cell? ⟨L.c,i,ab⟩=ab:=by
  simp only [World.cell?];rw [show(X.w.heap.setIfInBounds L.c o')[L.c]?=aa o' by simp [g]];cases o'<;>simp at j ⊢
 have v:X.w.cell? ⟨L.c,i,ab⟩=ab:=by
  simp only [World.cell?,ho];cases o<;>simp at m ⊢
 rw [u,v]
theorem ahZ(q:SR Q σ X)(A:X.B≤X.w.heap.size){a:Act}{az:T}(M:RR σ X az a.tmps){o:Oper}{x:Arg}(m:dX Q σ o (.next x)=ae){v:V}{H':aj}
  (h:bo az X.H (.next x)=aa (v,H')):gV Q σ X v H' (execOp a.eval o):=by
 simp only [dX]at m;split at m
 ·rename_i y E;have H:=bX M m;simp only [bo]at h;unfold Fz at h;split at h
  ·rename_i b O;rw [O]at H;obtain⟨L,B,⟨U,S,N⟩,F⟩:=H;split at h
   ·rename_i s pos l;obtain⟨_,_,bj,j,u⟩:=q.br b L B;rw [l]at j;simp only [At]at j;subst j;have g:X.w.heap[L.c]?=aa (.stringIter s pos):=u;split at h
    ·rename_i z;simp only [At,OF]at h;obtain⟨rfl,rfl⟩:=h;obtain⟨I,J⟩:=SR.pV (o':=.stringIter s (pos+(Utf8.decode s pos).2)) (blk':=.it s (pos+(Utf8.decode s pos).2)) q l B g (by simp) (by simp)
      (fun bj d=>⟨.it s (pos+(Utf8.decode s pos).2),by simp [(BY.1 l).1],by rw [l]at d;simp only [At]at d;subst d;exact fun L h=>h⟩)
      (fun X' _ K _ _ _=>K)
     refine⟨.tuple #[.bool ae,.int .i64 pos,.int .i32 (Utf8.decode s pos).1],_,.inl ?_,rfl,I,⟨[.bool ae,.int .i64 pos,.int .i32 (Utf8.decode s pos).1],rfl,?_⟩,J,by simpa using A⟩
     ·simp only [execOp,E];refine eu ?_;simp [Instr.next,F,getObj,setObj,Sem.run,g,z,goInt]
     ·exact A2.cons (cV.bool _) (A2.cons (cV.int _ _) (A2.cons (cV.int _ _) A2.nil))
    ·rename_i z;simp only [At,OF]at h;obtain⟨rfl,rfl⟩:=h;refine⟨.tuple #[.bool ag],X,.inl ?_,rfl,q,⟨[.bool ag],rfl,A2.cons (cV.bool _) A2.nil⟩,Ext.refl _ _,A⟩;simp only [execOp,E];refine eu ?_;simp [Instr.next,F,getObj,Sem.run,g,z]
   ·simp at h
  ·simp at h
 ·simp at m
theorem BE{s:CK}{d:TypeDesc}(z:(s=.int∧∃ j,d=.int j)∨(s=.str∧d=.string)∨(s=.bool∧d=.bool)){F:Nat→Nat→Prop}{w:World}{k:FC}{v:C}{x:Value}(B:cV σ F w k x) :
  ∀ {R:C→Value→Prop} {l g:List (FC × C)} {b:List MapEntry},A2 (fun e m=>cV σ F w e.1 m.key∧R e.2 m.val) l b→∀(i:Nat),pG s k v l=aa g →
  (Instr.findNow d x b i=aa ab∧g=l++[(k,v)])∨∃(j:Nat) (u:Value) (m:MapEntry),Instr.findNow d x b i=aa (aa (i+j,u))∧b[j]?=aa m∧Instr.sameNow d x m.key=aa ae∧g=l.set j (k,v)
 | _,[],g,[],_,i,h=>by
  simp only [pG,At]at h;subst h;exact .inl ⟨rfl,rfl⟩
 | _,[],_,_::_,q,_,_=>by have:=q.len;simp at this
 | _,_::_,_,[],q,_,_=>by have:=q.len;simp at this
 | _,e::l,g,m::b,q,i,h=>by
  obtain⟨⟨H,N⟩,E⟩:=q.of_cons;simp only [pG]at h;split at h
  ·rename_i A;simp only [At]at h;subst h;have:=uo z B H A;exact .inr ⟨0,m.val,m,by simp [Instr.findNow,this],rfl,this,rfl⟩
  ·rename_i A;simp only [IT]at h;obtain⟨I,J,rfl⟩:=h;have:=uo z B H A;rcases BE z B E (i+1) J with⟨y,rfl⟩ | ⟨j,u,M,y,K,L,rfl⟩
   ·exact .inl ⟨by simp [Instr.findNow,this,y],rfl⟩
   ·exact .inr ⟨j+1,u,M,by simp [Instr.findNow,this,y];omega,by simpa using K,L,rfl⟩
  ·simp at h
theorem B_{d:TypeDesc}{u v:Value}(h:Instr.sameNow d u v=aa ae)(n:Nat):Instr.sameBits n v u=ae:=by
 unfold Instr.sameNow at h;split at h
 ·split at h
  ·rename_i b;subst b;simp only [At,beq_iff_eq]at h;subst h;simp [Instr.sameBits]
  ·simp at h
 ·simp only [At,beq_toListBytes,beq_iff_eq]at h;simp [Instr.sameBits,beq_toListBytes,h]
 ·simp only [At,beq_iff_eq]at h;subst h;simp [Instr.sameBits]
 ·simp at h
theorem aoz{c:C}{u:Value}(h:VR σ X (mV c) u):gR σ X (mV c) u:=by
 cases c
 case cl f cs=>
  simp only [mV]at h ⊢;split at h
  ·rename_i b;rw [ba b];exact h
  ·rename_i b;rw [aX b];exact h
 all_goals exact h
theorem aa4(hS:SR Q σ X)(hB:X.B≤X.w.heap.size){a:Act}{az:T}(hR:RR σ X az a.tmps){o:Oper}{ck:CK}{x y z:Arg}(E:dX Q σ o (.iQ ck x y z)=ae){v:V}{H':aj}
  (h:bo az X.H (.iQ ck x y z)=aa (v,H')):gV Q σ X v H' (execOp a.eval o):=by
 simp only [dX]at E;split at E
 ·rename_i t x' M Y ho;simp only [If]at E;obtain⟨⟨⟨hx,K⟩,W⟩,ht⟩:=E;have hx:=bX hR hx;have K:=bX hR K;have W:=bX hR W;split at ht
  ·rename_i kt e hu;simp only [bo]at h;split at h
   ·rename_i b k vv d9 f8 h_;rw [d9]at hx;rw [f8]at K;rw [←aa3 h_]at W;have W:gR σ X (mV vv) (a.eval Y):=aoz W;obtain⟨L,hL,_,c_⟩:=hx;split at h
    ·rename_i es hb;split at h
     ·rename_i a_;simp only [IT,OF]at h;obtain⟨F,hp,rfl,rfl⟩:=h;obtain⟨_,_,bj,N,e_⟩:=hS.br b L hL;rw [hb]at N;simp only [At]at N;subst N;obtain⟨q,I,h2,B⟩:=e_;have go:∀ d,Q.underlying kt=aa d→((ck=.int∧∃ j,d=.int j)∨(ck=.str∧d=.string)∨(ck=.bool∧d=.bool))→gV Q σ X .top (X.H.set b (.map F)) (execOp a.eval o):=by
       intro d A hd;have a8:∀(l:List MapEntry),(Instr.mapUpdate t (a.eval x') (a.eval M) (a.eval Y)).run Q X.w=.ok () { X.w with heap:=X.w.heap.setIfInBounds L.c (.map l.toArray l.length) } →
         A2 (fun(e:FC × C) (m:MapEntry)=>cV σ X.F X.w e.1 m.key∧gR σ X (mV e.2) m.val) F l→(∀(i:Nat) m,l[i]?=aa m→m.born=i)→gV Q σ X .top (X.H.set b (.map F)) (execOp a.eval o):=by
        intro l b_ hA d_;obtain⟨g1,g2⟩:=SR.pV (o':=.map l.toArray l.length) (blk':=.map F) hS hb hL I (by simp) (by simp)
         (fun bj H=>⟨.map F,by simp [(BY.1 hb).1],by rw [hb]at H;simp only [At]at H;subst H;exact fun L h=>h⟩)
         (fun X' U h1 hF _ _=>⟨l,h1,hA.kI fun e m h=>⟨cV.mono U.F U.fw h.1,gR.ext' σ U h.2⟩,d_⟩)
        exact⟨undef,_,.inr ⟨by simp [execOp,ho,b_],rfl⟩,rfl,g1,trivial,g2,by simpa using hB⟩
       rcases BE (R:=fun c u=>gR σ X (mV c) u) hd K h2 0 hp with⟨J,rfl⟩ | ⟨j,u,m,J,Z,h6,rfl⟩
       ·have O:A2 (fun(e:FC × C) (m:MapEntry)=>cV σ X.F X.w e.1 m.key∧gR σ X (mV e.2) m.val) [(k,vv)] [({ key:=a.eval M,val:=a.eval Y,born:=q.length }:MapEntry)]:=A2.cons (And.intro K W) A2.nil;refine a8 (q++[{ key:=a.eval M,val:=a.eval Y,born:=q.length }]) ?_ (h2.append O) ?_
        rotate_left
        ·intro i m E;by_cases hi:i<q.length
         ·rw [AT hi]at E;exact B i m E
         ·rw [List.getElem?_append_right (by omega)]at E;have f7:i-q.length=0:=by
           have:=(BY.1 E).1;simp at this;omega
          rw [f7]at E;simp only [atz,At]at E;subst E;simp only;omega
        simp [Instr.mapUpdate,aZ hu,c_,getObj,setObj,Sem.run,I,iA ht K a_,Instr.findKey,aZ A,J]
       ·rw [asN]at J;refine a8 (q.set j { m with key:=a.eval M,val:=a.eval Y }) ?_ ?_ ?_
        ·have g_:(Instr.keyThatStays m.key (a.eval M)).run Q X.w=.ok (a.eval M) X.w:=by
          simp [Instr.keyThatStays,B_ h6 10000]
         have b9:q.modify j (fun e=>{ e with key:=a.eval M,val:=a.eval Y })=q.set j { m with key:=a.eval M,val:=a.eval Y }:=by
          apply atx;intro i;simp only [List.getElem?_modify,atX];by_cases s:j=i
          ·subst s;have S:=(BY.1 Z).1;have f_:=(BY.1 Z).2;simp [Z,S,f_]
          ·simp [s]
         simp [Instr.mapUpdate,aZ hu,c_,getObj,setObj,Sem.run,I,iA ht K a_,Instr.findKey,aZ A,J,Z,g_,b9]
        ·refine⟨by simpa using h2.len,fun i e' m' he g=>?_⟩;rw [atX]at he g;split at he
         ·rename_i s;subst s;simp only [if_true]at g;have S:=(BY.1 Z).1;have i4:=h2.len;rw [ba (by omega)]at he;rw [ba S]at g;simp only [At]at he g;subst he;subst g;exact⟨K,W⟩
         ·rename_i s;rw [aX s]at g;exact h2.2 i e' m' he g
        ·intro i m' g;rw [atX]at g;split at g
         ·rename_i s;subst s;split at g
          ·simp only [At]at g;subst g;exact B j m Z
          ·simp at g
         ·exact B i m' g
      rcases lj ht with⟨J,j,A⟩ | ⟨J,A⟩ | ⟨J,A⟩
      ·exact go _ A (.inl ⟨J,j,rfl⟩)
      ·exact go _ A (.inr (.inl ⟨J,rfl⟩))
      ·exact go _ A (.inr (.inr ⟨J,rfl⟩))
     ·simp at h
    ·simp at h
   ·simp at h
  ·simp at ht
 ·simp at E
theorem BA{c:Call}{sz:Nat}{zs:List FC}{x:Arg}(h:ee Q σ c (.clear sz zs x)=ae):∃ y t e,c.callee=.builtin .clear∧c.args=#[y]∧c.argTypes=#[t]∧mA σ x y=ae∧Q.underlying t=aa (.slice e)∧dB Q e sz=ae∧kH Q e zs=ae:=by
 simp only [ee]at h;split at h
 ·rename_i y t d g j;simp only [If]at h;obtain⟨m,b⟩:=h;obtain⟨e,l,b⟩:=iq b;simp only [If]at b;exact⟨y,t,e,d,wF g,wF j,m,l,b.1,b.2⟩
 ·simp at h
theorem aaa(hS:SR Q σ X)(hB:X.B≤X.w.heap.size){a:Act}{az:T}(hR:RR σ X az a.tmps){o:Oper}{sz:Nat}{zs:List FC}{x:Arg}(I:dX Q σ o (.clear sz zs x)=ae){v:V}{H':aj}
  (h:bo az X.H (.clear sz zs x)=aa (v,H')):gV Q σ X v H' (execOp a.eval o):=by
 simp only [dX]at I;split at I
 ·rename_i c Y;obtain⟨y,t,e,M,N,O,j,hu,d9,hz⟩:=BA I;have j:=bX hR j;simp only [bo,IT,OF]at h;obtain⟨H2,d,rfl,rfl⟩:=h;have done:VR σ X (.t []) (.tuple #[]):=⟨[],rfl,A2.nil⟩
  unfold oe at d;split at d
  ·rename_i p hp;rw [hp]at j;split at d
   ·rename_i U;simp only [At]at d;subst d;obtain⟨J,cp,g⟩:=iF j U;refine⟨.tuple #[],X,.inl (dy Y M fun cs=>?_),rfl,hS,done,Ext.refl _ _,hB⟩;cases J<;>simp [builtin,N,O,Builtin.clear_,aZ hu,g]
   ·rename_i l W U;obtain⟨J,cp,g⟩:=iF j U;split at d
    ·rename_i b9;obtain⟨z,us,E,F,H,_⟩:=eV (σ:=σ) (X:=X) hz X.w;have d_:us.length=zs.length:=by have:=H.len;simp at this;omega
     have u:l≠0:=fun e=>W (by rw [e]);have key:∀(b o' ep:Nat),(∃ q,CR σ X (.ptr b o' ep) (.pointer (aa q))∧J=aa q)→de X.H (.ptr b o' ep) ((cG l zs).map .f)=aa H2→gV Q σ X (.t []) H2 (execOp a.eval o):=by
      rintro b o' ep ⟨q,hq,rfl⟩ Z;obtain⟨cc,off,X',g1,K,g3,g4,g5,g6,g7⟩:=ab_ hS hq (jC H l) Z;cases g1;by_cases c_:sz=0
      ·subst c_;have b_:zs=[]:=asl b9;have a8:us=[]:=asl (by omega);subst b_;subst a8;refine⟨.tuple #[],X',.inl (dy Y M fun cs=>?_),g3,g4,⟨[],rfl,A2.nil⟩,g5,by omega⟩;have hr:cG l ([]:List Value)=[]:=by simp [cG]
       rw [hr]at K;simp [builtin,N,O,Builtin.clear_,aZ hu,g,u,E,F,Builtin.zeroCells];cases l with
       | zero=>exact absurd rfl u| succ l=>simp [K]
      ·have a_:Builtin.zeroCells z.cells l=(cG l us).toArray:=by
        have:=iG us l (by omega);simpa [Builtin.zeroCells,F]using this
       refine⟨.tuple #[],X',.inl (dy Y M fun cs=>?_),g3,g4,⟨[],rfl,A2.nil⟩,g5,by omega⟩;simp [builtin,N,O,Builtin.clear_,aZ hu,g,E,a_];cases l with
       | zero=>exact absurd rfl u| succ l=>simp [K]
     split at d
     ·rename_i b o' l' cap ep s;simp only [VR,gR,CR,ft]at j;split at d
      ·rename_i cs fl A;rw [A]at j;obtain⟨L,S,_,m⟩:=j;rw [g]at m;simp only [Value.slice.injEq]at m;refine key b o' ep ⟨⟨L.c,o',ab⟩,⟨L,S,by rw [A]⟩,m.1⟩ d
      ·rename_i s' cs fl e' A;split at d
       ·rename_i B;rw [A]at j;obtain⟨L,S,k,_,_,m⟩:=j.2.1 B.1 B.2;rw [g]at m;simp only [Value.slice.injEq]at m;refine key b o' ep ⟨⟨L.c,o',ab⟩,⟨L,S,?_⟩,m.1⟩ d;rw [A];exact⟨j.1,fun _=>rfl,_,rfl⟩
       ·simp at d
      ·simp at d
     ·simp at d
    ·simp at d
   ·simp at d
  ·simp at d
 ·simp at I
theorem Ph(B:SR Q σ X)(S:X.B≤X.w.heap.size){a:Act}{az:T}(U:RR σ X az a.tmps){o:Oper}{x:Arg}(l:dX Q σ o (.jZ x)=ae){v:V}{H':aj}
  (h:bo az X.H (.jZ x)=aa (v,H')):gV Q σ X v H' (execOp a.eval o):=by
 simp only [dX]at l;split at l
 ·rename_i t y Y;simp only [If]at l;obtain⟨j,E⟩:=l;have j:=bX U j;simp only [bo]at h;unfold tv at h;split at h
  ·rename_i b c;rw [c]at j;obtain⟨L,A,_,Z⟩:=j;split at h
   ·rename_i u m;split at h
    ·rename_i p;simp only [At,OF]at h;obtain⟨rfl,rfl⟩:=h;obtain⟨_,_,bj,g,q⟩:=B.br b L A;rw [m]at g;simp only [At]at g;subst g;obtain⟨d,H,I,_⟩:=q;split at E
     ·rename_i kt e s;obtain⟨X',J,z,K,M,N,O⟩:=SR.new B S (.wC b u.length ag) (ed.alloc X.w (.mapIter (aa L.c) d.length #[] d.length)) 0 fun X' j f k n=>by
       obtain⟨blk',i,F⟩:=j.cO b (BY.1 m).1 _ m;cases blk'<;>simp only at F;refine⟨L,#[],d.length,F L A,⟨_,i⟩,?_,rfl⟩;rw [I.len,f];exact(ed.alloc _ _).new
      refine⟨.pointer (aa ⟨X.w.heap.size,0,ab⟩),X',.inl ?_,z,K,⟨_,N,⟨b,u.length,ag,by rw [z];simp⟩,rfl⟩,M,O⟩;have W:(getObj L.c).run Q X.w=.ok (.map d.toArray d.length) X.w:=by simp [getObj,Sem.run,H]
      rw [J];simp [execOp,Y,Instr.range,aZ s,Z,W]
     ·simp at E
    ·simp at h
   ·simp at h
  ·simp at h
 ·simp at l
theorem abg(s:SR Q σ X)(N:X.B≤X.w.heap.size){a:Act}{az:T}(p:RR σ X az a.tmps){o:Oper}{x:Arg}(E:dX Q σ o (.nR x)=ae){v:V}{H':aj}
  (h:bo az X.H (.nR x)=aa (v,H')):gV Q σ X v H' (execOp a.eval o):=by
 simp only [dX]at E;split at E
 ·rename_i y S;have i:=bX p E;simp only [bo]at h;unfold zz at h;split at h
  ·rename_i b r;rw [r]at i;obtain⟨L,f,_,W⟩:=i;split at h
   ·rename_i m c done u;obtain⟨_,_,bj,d,l⟩:=s.br b L f;rw [u]at d;simp only [At]at d;subst d;obtain⟨J,sn,st,M,_,B,q⟩:=l;split at h
    ·rename_i j;obtain⟨_,_,bj,d,l⟩:=s.br m J M;rw [j]at d;simp only [At]at d;subst d;obtain⟨K,F,Z,_⟩:=l;have:K=[]:=asl Z.len.symm;subst this;split at h
     ·simp at h
     ·rename_i z;simp only [At,OF]at h;obtain⟨rfl,rfl⟩:=h;simp only [z,aso,if_false]at q;subst q;refine⟨.tuple #[.bool ag],X,.inl ?_,rfl,s,⟨[.bool ag],rfl,A2.cons (cV.bool _) A2.nil⟩,Ext.refl _ _,N⟩;simp only [execOp,S];refine eu ?_;simp [Instr.next,W,getObj,Sem.run,B,F,Result.andThen,choose,Question.forced]
    ·rename_i e j;obtain⟨H,F,Z,w,k⟩:=Fx s M j;split at h
     ·rename_i z;simp only [At,OF]at h;obtain⟨rfl,rfl⟩:=h;simp only [z,if_true]at q;obtain⟨rfl,rfl⟩:=q;refine⟨.tuple #[.bool ag],X,.inl ?_,rfl,s,⟨[.bool ag],rfl,A2.cons (cV.bool _) A2.nil⟩,Ext.refl _ _,N⟩;simp only [execOp,S];refine eu ?_;simp [Instr.next,W,getObj,Sem.run,B,F,k,Result.andThen,choose,Question.forced]
     ·rename_i z;split at h
      ·rename_i U;subst U;simp only [At,OF]at h;obtain⟨rfl,rfl⟩:=h;simp only [z,aso,if_false]at q;subst q;obtain⟨q1,I⟩:=SR.pV (o':=.mapIter (aa J.c) 1 #[0] 1) (blk':=.wC m 1 ae) s u f B (by simp) (by simp)
        (fun bj g=>⟨.wC m 1 ae,by simp [(BY.1 u).1],by rw [u]at g;simp only [At]at g;subst g;exact⟨⟨rfl,rfl⟩,fun L h=>h⟩⟩)
        (fun X' t Y _ A n=>by
         have O:b≠m:=fun e=>by rw [e,j]at u;cases u
         exact⟨J,#[0],1,by rw [A];exact M,⟨_,by rw [n,AI O];exact j⟩,Y,rfl,rfl⟩)
       refine⟨.tuple #[.bool ae,H.key,H.val],_,.inl ?_,rfl,q1,?_,I,by simpa using N⟩
       ·simp only [execOp,S];refine eu ?_;simp [Instr.next,W,getObj,setObj,Sem.run,B,F,k,Result.andThen,choose,Question.forced]
       ·exact⟨[.bool ae,H.key,H.val],rfl,A2.cons (cV.bool _) (A2.cons (cV.mono I.F I.fw Z) (A2.cons (gR.ext' σ I w) A2.nil))⟩
      ·simp at h
    ·simp at h
   ·simp at h
  ·simp at h
 ·simp at E
end
section
variable{Q:Program}{σ:Nat→FuncId}{X:Wd}
def dt(a b:bq):Prop:=
 match a with
 | .box cs fl=>(match b with
  | .box cs' d=>cs=cs'∧fl≤d
  | _=>False)
 | .cj s cs fl e st=>(match b with
  | .cj s' cs' d j g=>s=s'∧cs=cs'∧fl≤d∧e=j∧st=g
  | _=>False)
 | a=>a=b
theorem dt.refl(a:bq):dt a a:=by cases a<;>simp [dt]
theorem dt.trans{a b c:bq}(h:dt a b)(k:dt b c):dt a c:=by
 cases a<;>cases b<;>simp only [dt,reduceCtorEq]at h<;>cases c<;>simp only [dt,reduceCtorEq]at k ⊢
 ·exact⟨h.1.trans k.1,asz h.2 k.2⟩
 ·exact⟨h.1.trans k.1,h.2.1.trans k.2.1,asz h.2.2.1 k.2.2.1,h.2.2.2.1.trans k.2.2.2.1,h.2.2.2.2.trans k.2.2.2.2⟩
 all_goals exact h.trans k
def gB(H H':aj):Prop:=H.length=H'.length∧∀(b:Nat) bj blk',H[b]?=aa bj→H'[b]?=aa blk'→dt bj blk'
theorem gB.refl(H:aj):gB H H:=⟨rfl,fun b bj blk' h d=>by rw [h]at d;cases d;exact dt.refl _⟩
theorem gB.get{H H':aj}(h:gB H H'){b:Nat}{bj:bq}(g:H[b]?=aa bj):∃ blk',H'[b]?=aa blk'∧dt bj blk':=by
 have j:=(BY.1 g).1;have d:b<H'.length:=by have:=h.1;omega
 exact⟨_,By d,h.2 b _ _ g (By d)⟩
theorem gB.trans{A B C:aj}(h:gB A B)(k:gB B C):gB A C:=
 ⟨h.1.trans k.1,fun b x z d g=>by obtain⟨y,hy,h1⟩:=h.get d;exact h1.trans (k.2 b y z hy g)⟩
theorem gB.none{H H':aj}(h:gB H H'){b:Nat}(d:H[b]?=ab):H'[b]?=ab:=by
 rw [List.getElem?_eq_none_iff]at d ⊢;have:=h.1;omega
theorem gB.set{H:aj}{b:Nat}{bj blk':bq}(g:H[b]?=aa bj)(h:dt bj blk'):gB H (H.set b blk'):=by
 have j:=(BY.1 g).1;refine⟨by simp,fun i x y d hy=>?_⟩;by_cases hi:i=b
 ·subst hi;simp only [atX,if_true,j]at hy;rw [g]at d;cases d;cases hy;exact h
 ·rw [AI (Ne.symm hi)]at hy;rw [d]at hy;cases hy;exact dt.refl _
theorem gB.foldl{f:aj→C→aj}(b:∀ H x,gB H (f H x)):∀(xs:List C) (H:aj),gB H (xs.foldl f H)
 | [],H=>gB.refl H| x::xs,H=>(b H x).trans (gB.foldl b xs (f H x))
theorem jX:∀(n:Nat) (x:C) (H:aj),gB H (gu n x H)
 | n,.f _,H=>by cases n<;>exact gB.refl H
 | 0,.ptr _ _ _,H=>gB.refl H| 0,.sl _ _ _ _ _ _,H=>gB.refl H| 0,.cl _ _,H=>gB.refl H| 0,.yl _,H=>gB.refl H| 0,.mp _,H=>gB.refl H| 0,.it _,H=>gB.refl H| 0,.bm _ _,H=>gB.refl H| 0,.mi _,H=>gB.refl H
 | n+1,.ptr b off ep,H=>by
  simp only [gu];split
  ·rename_i cs fl d;exact(gB.set d (by exact⟨rfl,asM _ _⟩)).trans (gB.foldl (fun H x=>jX n x H) _ _)
  ·exact gB.refl H
 | n+1,.sl b o l c ep sz,H=>by
  simp only [gu];split
  ·rename_i cs fl d;exact(gB.set d (by exact⟨rfl,asM _ _⟩)).trans (gB.foldl (fun H x=>jX n x H) _ _)
  ·rename_i s cs fl e st d;exact(gB.set d (by exact⟨rfl,rfl,asM _ _,rfl,rfl⟩)).trans (gB.foldl (fun H x=>jX n x H) _ _)
  ·exact gB.refl H
 | n+1,.cl f g,H=>gB.foldl (fun H x=>jX n x H) _ _
 | n+1,.yl _,H=>gB.refl H| n+1,.mp _,H=>gB.refl H| n+1,.it _,H=>gB.refl H| n+1,.bm _ _,H=>gB.refl H| n+1,.mi _,H=>gB.refl H
theorem fo{b j:Type}{f g:b→Option j}:∀ {xs:List b},(∀ x ∈ xs,f x=g x)→bg f xs=bg g xs
 | [],_=>rfl| x::xs,h=>by rw [bg,bg,h x (by simp),fo (xs:=xs) (fun y d=>h y (List.mem_cons_of_mem _ d))]
theorem mb:∀(n:Nat) {H H':aj},gB H H'→∀(x:C),eG n H' x=eG n H x
 | n,H,H',h,.f _=>by cases n<;>rfl
 | 0,H,H',h,.ptr _ _ _=>rfl| 0,H,H',h,.sl _ _ _ _ _ _=>rfl| 0,H,H',h,.cl _ _=>rfl| 0,H,H',h,.yl _=>rfl| 0,H,H',h,.mp _=>rfl| 0,H,H',h,.it _=>rfl| 0,H,H',h,.bm _ _=>rfl| 0,H,H',h,.mi _=>rfl
 | n+1,H,H',h,.ptr b off ep=>by
  simp only [eG];cases m:H[b]? with
  | none=>rw [h.none m]
  | some bj=>
   obtain⟨blk',d,j⟩:=h.get m;rw [d];cases bj<;>cases blk'<;>simp only [dt,reduceCtorEq]at j
   ·obtain⟨rfl,_⟩:=j;simp only [fo (g:=eG n H) fun x _=>mb n h x]
   all_goals rfl
 | n+1,H,H',h,.sl b o l c ep sz=>by
  simp only [eG];cases m:H[b]? with
  | none=>rw [h.none m]
  | some bj=>
   obtain⟨blk',d,j⟩:=h.get m;rw [d];cases bj<;>cases blk'<;>simp only [dt,reduceCtorEq]at j
   ·obtain⟨rfl,_⟩:=j;simp only [fo (g:=eG n H) fun x _=>mb n h x]
   ·obtain⟨rfl,rfl,s,rfl,rfl⟩:=j;clear s;rename_i st _;cases st<;>simp only [fo (g:=eG n H) fun x _=>mb n h x]
   all_goals rfl
 | n+1,H,H',h,.cl f q=>by simp only [eG,fo (g:=eG n H) fun x _=>mb n h x]
 | n+1,H,H',h,.yl _=>rfl| n+1,H,H',h,.mp _=>rfl| n+1,H,H',h,.it _=>rfl| n+1,H,H',h,.bm _ _=>rfl| n+1,H,H',h,.mi _=>rfl
def dV:Nat→aj→C→Prop
 | _,_,.f _=>True| 0,_,_=>True| n+1,H,.ptr b _ _=>∀ cs fl,H[b]?=aa (.box cs fl)→cs.length≤fl∧∀ x ∈ cs,dV n H x
 | n+1,H,.sl b o l _ _ sz=>∀ bj,H[b]?=aa bj→match bj with
  | .box cs fl=>o+l*sz≤fl∧∀ x ∈ (cs.drop o).take (l*sz),dV n H x| .cj _ cs fl _ .loc=>o+l*sz≤fl∧∀ x ∈ (cs.drop o).take (l*sz),dV n H x| _=>True
 | n+1,H,.cl _ d=>∀ x ∈ d,dV n H x| _,_,_=>True
theorem dV.le:∀(n:Nat) {H H':aj},gB H H'→∀ {x:C},dV n H x→dV n H' x
 | n,H,H',h,.f _,_=>by cases n<;>trivial
 | 0,H,H',h,.ptr _ _ _,_=>trivial| 0,H,H',h,.sl _ _ _ _ _ _,_=>trivial| 0,H,H',h,.cl _ _,_=>trivial| 0,H,H',h,.yl _,_=>trivial| 0,H,H',h,.mp _,_=>trivial| 0,H,H',h,.it _,_=>trivial| 0,H,H',h,.bm _ _,_=>trivial| 0,H,H',h,.mi _,_=>trivial
 | n+1,H,H',h,.ptr b off ep,v=>by
  intro cs fl m;have y:=(BY.1 m).1;have s:b<H.length:=by have:=h.1;omega
  have d:=h.2 b _ _ (By s) m;cases g:H[b]<;>rw [g]at d<;>simp only [dt,reduceCtorEq]at d;obtain⟨rfl,q⟩:=d;obtain⟨h1,h2⟩:=v _ _ (by rw [By s,g]);exact⟨asz h1 q,fun x u=>dV.le n h (h2 x u)⟩
 | n+1,H,H',h,.sl b o l c ep sz,v=>by
  intro blk' m;have y:=(BY.1 m).1;have s:b<H.length:=by have:=h.1;omega
  have d:=h.2 b _ _ (By s) m;have j:=v _ (By s);cases g:H[b]<;>rw [g]at d j<;>cases blk'<;>simp only [dt,reduceCtorEq]at d<;>try simp only
  ·obtain⟨rfl,q⟩:=d;exact⟨asz j.1 q,fun x u=>dV.le n h (j.2 x u)⟩
  ·obtain⟨rfl,rfl,q,rfl,rfl⟩:=d;rename_i st _;cases st<;>simp only at j ⊢;exact⟨asz j.1 q,fun x u=>dV.le n h (j.2 x u)⟩
 | n+1,H,H',h,.cl f z,v=>fun x u=>dV.le n h (v x u)
 | n+1,H,H',h,.yl _,_=>trivial| n+1,H,H',h,.mp _,_=>trivial| n+1,H,H',h,.it _,_=>trivial| n+1,H,H',h,.bm _ _,_=>trivial| n+1,H,H',h,.mi _,_=>trivial
theorem fC{n:Nat}(b:∀(x:C) (H:aj),dV n (gu n x H) x):∀(xs:List C) (H:aj),∀ x ∈ xs,dV n (xs.foldl (fun H x=>gu n x H) H) x
 | y::ys,H,x,d=>by
  simp only [aty];rcases asv.1 d with rfl | d
  ·exact dV.le n (gB.foldl (fun H x=>jX n x H) ys _) (b x H)
  ·exact fC b ys _ x d
theorem ic:∀(n:Nat) (x:C) (H:aj),dV n (gu n x H) x
 | n,.f _,H=>by cases n<;>trivial
 | 0,.ptr _ _ _,H=>trivial| 0,.sl _ _ _ _ _ _,H=>trivial| 0,.cl _ _,H=>trivial| 0,.yl _,H=>trivial| 0,.mp _,H=>trivial| 0,.it _,H=>trivial| 0,.bm _ _,H=>trivial| 0,.mi _,H=>trivial
 | n+1,.ptr b off ep,H=>by
  simp only [gu];cases u:H[b]? with
  | none=>intro cs fl h;exfalso;simp only at h;exact absurd (u.symm.trans h) (by simp)
  | some bj=>
   cases bj with
   | box d g=>
    intro cs fl h;have s:=(BY.1 u).1;simp only at h ⊢;have z:=gB.foldl (fun H x=>jX n x H) d (H.set b (.box d (Nat.max g d.length)));obtain⟨blk',j,m⟩:=z.get (b:=b) (bj:=.box d (Nat.max g d.length)) (by simp [s]);rw [h]at j;cases j;obtain⟨rfl,q⟩:=m;exact⟨asz (asD _ _) q,fun x v=>fC (fun x H=>ic n x H) _ _ x v⟩
   | _=>intro cs fl h;simp only at h;rw [u]at h;cases h
 | n+1,.sl b o l c ep sz,H=>by
  simp only [gu];cases u:H[b]? with
  | none=>intro bj h;exfalso;simp only at h;exact absurd (u.symm.trans h) (by simp)
  | some bj=>
   have s:=(BY.1 u).1;cases bj with
   | box d g=>
    intro bj h;simp only at h ⊢;have z:=gB.foldl (fun H x=>jX n x H) ((d.drop o).take (l*sz)) (H.set b (.box d (Nat.max g (o+l*sz))));obtain⟨blk',j,m⟩:=z.get (b:=b) (bj:=.box d (Nat.max g (o+l*sz))) (by simp [s]);rw [h]at j;cases j;cases bj<;>simp only [dt,reduceCtorEq]at m;obtain⟨rfl,q⟩:=m;exact⟨asz (asD _ _) q,fun x v=>fC (fun x H=>ic n x H) _ _ x v⟩
   | cj E d g B y=>
    intro bj h;simp only at h ⊢;have z:=gB.foldl (fun H x=>jX n x H) ((d.drop o).take (l*sz)) (H.set b (.cj E d (Nat.max g (o+l*sz)) B y));obtain⟨blk',j,m⟩:=z.get (b:=b) (bj:=.cj E d (Nat.max g (o+l*sz)) B y) (by simp [s]);rw [h]at j;cases j;cases bj<;>simp only [dt,reduceCtorEq]at m;obtain⟨rfl,rfl,q,rfl,rfl⟩:=m;cases y<;>simp only;exact⟨asz (asD _ _) q,fun x v=>fC (fun x H=>ic n x H) _ _ x v⟩
   | _=>intro bj h;simp only at h;rw [u]at h;cases h;simp
 | n+1,.cl f A,H=>fun x v=>fC (fun x H=>ic n x H) _ _ x v
 | n+1,.yl _,H=>trivial| n+1,.mp _,H=>trivial| n+1,.it _,H=>trivial| n+1,.bm _ _,H=>trivial| n+1,.mi _,H=>trivial
end
section
variable{Q:Program}{σ:Nat→FuncId}{X:Wd}
def dm(H H':aj):Prop:=∀(b:Nat) bj,H[b]?=aa bj→∃ blk',H'[b]?=aa blk'∧dt bj blk'
theorem dm.refl(H:aj):dm H H:=fun _ bj h=>⟨bj,h,dt.refl _⟩
theorem dm.trans{A B C:aj}(h:dm A B)(k:dm B C):dm A C:=fun b x d=>by
 obtain⟨y,hy,h1⟩:=h b x d;obtain⟨z,g,h2⟩:=k b y hy;exact⟨z,g,h1.trans h2⟩
theorem gB.ext{H H':aj}(h:gB H H'):dm H H':=fun _ _ b=>h.get b
theorem dm.append(H H':aj):dm H (H++H'):=fun b bj d=>⟨bj,by rw [AT (BY.1 d).1];exact d,dt.refl _⟩
theorem dm.len{H H':aj}(h:dm H H'):H.length≤H'.length:=by
 rcases asS H'.length H.length with d | b
 ·obtain⟨y,hy,_⟩:=h H'.length _ (By d);have:=(BY.1 hy).1;omega
 ·exact b
theorem SR.ahead(g:SR Q σ X){H':aj}(h:dm X.H H'):SR Q σ { X with H:=H' }∧Ext X.H.length X { X with H:=H' }:=by
 have q:Ext X.H.length X { X with H:=H' }:=
  {B:=rfl,F:=fun _ _ h=>h,oK:=fun _ _ h=>.inl h,fw:=fun _ _ _=>rfl
   cO:=fun b _ bj j=>by
    obtain⟨blk',l,d⟩:=h b bj j;refine⟨blk',l,?_⟩;cases bj<;>cases blk'<;>simp only [dt,reduceCtorEq]at d<;>simp_all
   xR:=fun b L h=>.inl ⟨b,L,h,rfl⟩,size:=aft _,os:=rfl,tape:=rfl,output:=rfl,frame:=fun _ _ _=>rfl }
 refine⟨⟨fun b L j=>?_,g.inj,g.fb⟩,q⟩;obtain⟨h1,h2,bj,h3,h4⟩:=g.br b L j;obtain⟨blk',h5,h6⟩:=h b bj h3;refine⟨h1,h2,blk',h5,?_⟩;have h7:BR Q σ { X with H:=H' } bj L:=BR.ext Q σ q rfl (fun _ h=>h) h4;cases bj<;>cases blk'<;>simp only [dt,reduceCtorEq]at h6
 ·obtain⟨rfl,d⟩:=h6;obtain⟨us,g1,g2,g3⟩:=h7;exact⟨us,g1,g2,fun i hi=>g3 i (asz d hi)⟩
 ·obtain⟨rfl,rfl,d,rfl,rfl⟩:=h6;obtain⟨m,us,rest,g1,g2,g3,g4,g5,g6⟩:=h7;exact⟨m,us,rest,g1,g2,g3,g4,g5,fun i hi=>g6 i (asz d hi)⟩
 all_goals (rw [←h6];exact h7)
def zh:bq→Nat→Prop
 | .box cs fl,i=>i<fl∧i<cs.length| .cj _ cs fl _ _,i=>i<fl∧i<cs.length| _,_=>False
def FL(X:Wd):Prop:=∀ b L i bj,X.cD b=aa L→X.H[b]?=aa bj→zh bj i→X.F L.c i
def Wd.flag(X:Wd):Wd:={ X with F:=fun c i=>X.F c i∨∃ b L bj,X.cD b=aa L∧L.c=c∧X.H[b]?=aa bj∧zh bj i }
theorem SR.flag(j:SR Q σ X):SR Q σ X.flag∧Ext X.H.length X X.flag∧FL X.flag:=by
 have g:Ext X.H.length X X.flag:=
  {B:=rfl,F:=fun _ _ h=>.inl h
   oK:=fun c i h=>by
    rcases h with h | ⟨b,L,bj,h1,h2,_⟩
    ·exact .inl h
    ·exact .inr (.inr ⟨b,L,h1,h2⟩)
   fw:=fun _ _ _=>rfl
   cO:=fun b _=>by
    intro bj l;refine⟨bj,l,?_⟩;cases bj<;>simp [Wd.flag]
   xR:=fun b L h=>.inl ⟨b,L,h,rfl⟩,size:=aft _,os:=rfl,tape:=rfl,output:=rfl,frame:=fun _ _ _=>rfl }
 refine⟨⟨fun b L l=>?_,j.inj,fun c i h=>?_⟩,g,fun b L i bj h1 h2 h3=>.inr ⟨b,L,bj,h1,rfl,h2,h3⟩⟩
 ·obtain⟨h1,h2,bj,h3,h4⟩:=j.br b L l;refine⟨h1,h2,bj,h3,?_⟩;have key:∀ i,X.flag.F L.c i→X.F L.c i∨zh bj i:=by
   rintro i (h | ⟨x,y,blk',g1,g2,g3,g4⟩)
   ·exact .inl h
   ·have:x=b:=j.inj _ _ _ _ g1 l g2;subst this;rw [h3]at g3;cases g3;exact .inr g4
  cases bj with
  | box cs fl=>
   obtain⟨us,g1,g2,g3⟩:=h4;exact⟨us,g1,A2.ext' σ g g2,fun i hi u=>(key i u).elim (g3 i hi) fun h=>by have:=h.1;omega⟩
  | cj sz cs fl ep st=>
   obtain⟨v,us,rest,g1,g2,g3,g4,g5,g6⟩:=h4;exact⟨v,us,rest,g1,A2.ext' σ g g2,g3,g4,g5,fun i hi u=>(key i u).elim (g6 i hi) fun h=>by have:=h.1;omega⟩
  | map es=>exact BR.ext Q σ g rfl (fun i h=>(key i h).elim id False.elim) h4
  | it s p=>exact BR.ext Q σ g rfl (fun i h=>(key i h).elim id False.elim) h4
  | fj b=>exact BR.ext Q σ g rfl (fun i h=>(key i h).elim id False.elim) h4
  | wC m s d=>exact BR.ext Q σ g rfl (fun i h=>(key i h).elim id False.elim) h4
  | lp f t p a c st q d=>exact BR.ext Q σ g rfl (fun i h=>(key i h).elim id False.elim) h4
 ·rcases h with h | ⟨b,L,bj,h1,h2,_⟩
  ·exact j.fb c i h
  ·rw [←h2];exact(j.br b L h1).2.1
theorem fW{d g:Type}{f:d→Option g}:∀ {xs:List d} {ys:List g},bg f xs=aa ys→A2 (fun x y=>f x=aa y) xs ys
 | [],ys,h=>by simp only [bg,At]at h;subst h;exact A2.nil
 | x::xs,ys,h=>by
  simp only [bg]at h;split at h
  ·simp at h
  ·rename_i y j;split at h
   ·simp at h
   ·rename_i l b;simp only [At]at h;subst h;exact A2.cons j (fW b)
theorem frz(hS:SR Q σ X)(hF:FL X){H:aj}(W:dm H X.H):∀(n:Nat) {x:C} {y:FC} {v:Value},eG n H x=aa y→dV n H x→CR σ X x v→cV σ X.F X.w y v
 | n,.f x,y,v,d,_,B=>by
  have:eG n H (.f x)=aa x:=by cases n<;>rfl
  rw [this]at d;cases d;exact B
 | 0,.ptr _ _ _,y,v,d,_,_=>by simp [eG]at d
 | 0,.sl _ _ _ _ _ _,y,v,d,_,_=>by simp [eG]at d
 | 0,.cl _ _,y,v,d,_,_=>by simp [eG]at d
 | 0,.yl _,y,v,d,_,_=>by simp [eG]at d
 | 0,.mp _,y,v,d,_,_=>by simp [eG]at d
 | 0,.it _,y,v,d,_,_=>by simp [eG]at d
 | 0,.bm _ _,y,v,d,_,_=>by simp [eG]at d
 | 0,.mi _,y,v,d,_,_=>by simp [eG]at d
 | n+1,.ptr b off ep,y,v,d,hm,B=>by
  simp only [eG]at d;split at d
  ·rename_i cs fl K;simp only [IT]at d;obtain⟨ys,g,rfl⟩:=d;obtain⟨N,I⟩:=hm cs fl K;obtain⟨blk',m,j⟩:=W b _ K;cases blk'<;>simp only [dt,reduceCtorEq]at j;obtain⟨rfl,j⟩:=j;rename_i U;obtain⟨L,S,B⟩:=B;simp only [m]at B;subst B;obtain⟨_,_,bj,E,M⟩:=hS.br b L S;rw [m]at E;cases E;obtain⟨us,A,z,_⟩:=M;have g:=fW g;have:=cV.fp (σ:=σ) (F:=X.F) (w:=X.w) ys off L.c 0 us (by rw [←z.len,g.len])
    (fun i hi=>by rw [asN];exact hF b L i _ S m ⟨by have:=g.len;omega,by have:=g.len;omega⟩)
    (fun i u O=>by rw [asN,dw A];exact O)
    (fun i y u Z O=>by
     have hi:i<cs.length:=by rw [g.len];exact(BY.1 Z).1
     have Y:=By hi;exact frz hS hF W n (g.2 i _ _ Y Z) (I _ (anc hi)) (z.2 i _ _ Y O))
   rw [asN]at this;exact this
  ·simp at d
 | n+1,.sl b o l c ep sz,y,v,d,hm,B=>by
  have key:∀(cs:List C) (fl:Nat) (blk':bq) (L:Loc) (us rest:List Value) (ys:List FC) (cap:Nat),o+l*sz≤cs.length→o+l*sz≤fl →
    (∀ i,i<fl→i<cs.length→zh blk' i)→X.H[b]?=aa blk'→X.cD b=aa L→rowAt X.w L.c (us++rest)→A2 (CR σ X) cs us →
    (∀ x ∈ (cs.drop o).take (l*sz),dV n H x)→bg (eG n H) ((cs.drop o).take (l*sz))=aa ys→l≤cap→cV σ X.F X.w (.fs ys l) (.slice (aa ⟨L.c,o,ab⟩) l cap):=by
   intro cs fl blk' L us rest ys cap q N a8 m S A z I g J;have g:=fW g;have c_:=z.len;have b_:ys.length=l*sz:=by rw [←g.len];simp;omega
   have b9:=(z.drop o).take (l*sz);refine .fs ys l L.c o cap ((us.drop o).take (l*sz)) J (by rw [b_];simp;omega) (fun i hi=>hF b L _ _ S m (a8 _ (by omega) (by omega))) (fun i u O=>?_) (fun i y u Z O=>?_)
   ·have hi:i<l*sz:=by
     have:=(BY.1 O).1;simp at this;omega
    rw [dw A,AT (by omega)];rw [List.getElem?_take_of_lt hi,asu]at O;exact O
   ·have hi:i<((cs.drop o).take (l*sz)).length:=by rw [g.len];exact(BY.1 Z).1
    have Y:=By hi;exact frz hS hF W n (g.2 i _ _ Y Z) (I _ (anc hi)) (b9.2 i _ _ Y O)
  simp only [eG]at d;simp only [CR,ft]at B;split at d
  ·rename_i cs fl K;split at d
   ·rename_i q;simp only [IT]at d;obtain⟨ys,g,rfl⟩:=d;obtain⟨N,I⟩:=hm _ K;obtain⟨blk',m,j⟩:=W b _ K;cases blk'<;>simp only [dt,reduceCtorEq]at j;obtain⟨rfl,j⟩:=j;rename_i U;simp only [m]at B;obtain⟨L,S,J,rfl⟩:=B;obtain⟨_,_,bj,E,M⟩:=hS.br b L S;rw [m]at E;cases E;obtain⟨us,A,z,_⟩:=M;exact key cs fl (.box cs U) L us [] ys c q N (fun i h1 h2=>⟨by omega,h2⟩) m S (by simpa using A) z I g J
   ·simp at d
  ·rename_i s cs fl e K;split at d
   ·rename_i q;obtain⟨rfl,rfl,q⟩:=q;simp only [IT]at d;obtain⟨ys,g,rfl⟩:=d;obtain⟨N,I⟩:=hm _ K;obtain⟨blk',m,j⟩:=W b _ K;cases blk'<;>simp only [dt,reduceCtorEq]at j;obtain⟨rfl,rfl,j,rfl,rfl⟩:=j;rename_i U;simp only [m]at B;obtain⟨L,S,k,ho,J,rfl⟩:=B.2.1 trivial trivial;obtain⟨_,_,bj,E,M⟩:=hS.br b L S;rw [m]at E;cases E;obtain⟨_,us,rest,A,z,_⟩:=M;exact key cs fl (.cj sz cs U ep .loc) L us rest ys _ q N (fun i h1 h2=>⟨by omega,h2⟩) m S A z I g (by omega)
   ·simp at d
  ·rename_i s cs fl e K;split at d
   ·rename_i q;obtain⟨rfl,rfl⟩:=q;cases d;obtain⟨blk',m,j⟩:=W b _ K;cases blk'<;>simp only [dt,reduceCtorEq]at j;obtain⟨rfl,rfl,j,rfl,rfl⟩:=j;simp only [m]at B;obtain⟨_,_,rfl⟩:=B.2.1 trivial trivial;exact .au
   ·simp at d
  ·rename_i s cs fl e K;split at d
   ·rename_i q;obtain⟨rfl,rfl⟩:=q;cases d;obtain⟨blk',m,j⟩:=W b _ K;cases blk'<;>simp only [dt,reduceCtorEq]at j;obtain⟨rfl,rfl,j,rfl,rfl⟩:=j;simp only [m]at B;obtain⟨_,_,a,rfl⟩:=B.2.1 trivial trivial;exact .es a
   ·simp at d
  ·simp at d
 | n+1,.cl f a_,y,v,d,hm,B=>by
  simp only [eG,IT]at d;obtain⟨ys,g,rfl⟩:=d;obtain⟨us,rfl,z⟩:=B;have g:=fW g;refine .fn f ys us (by rw [←z.len,g.len]) fun i y u Z O=>?_;have hi:i<a_.length:=by rw [g.len];exact(BY.1 Z).1
  have Y:=By hi;exact frz hS hF W n (g.2 i _ _ Y Z) (hm _ (anc hi)) (CR.of1 σ (z.2 i _ _ Y O))
 | n+1,.yl _,y,v,d,_,_=>by simp [eG]at d
 | n+1,.mp _,y,v,d,_,_=>by simp [eG]at d
 | n+1,.it _,y,v,d,_,_=>by simp [eG]at d
 | n+1,.bm _ _,y,v,d,_,_=>by simp [eG]at d
 | n+1,.mi _,y,v,d,_,_=>by simp [eG]at d
end
section
variable{Q:Program}{σ:Nat→FuncId}{X:Wd}
theorem SR.skip(g:SR Q σ X){w':World}{o:Obj}(d:ed X.w w' o)(q:X.B≤X.w.heap.size):∃ X':Wd,X'.w=w'∧X'.H=X.H∧SR Q σ X'∧Ext X.H.length X X'∧X'.B≤X'.w.heap.size:=by
 have j:Ext X.H.length X { X with w:=w' }:=Ext.one g X.H.length rfl (fun _ _=>Iff.rfl) (fun k m _=>d.CD m)
  (fun L i h=>by rw [SR.qY g]at h;simp at h) (fun h=>absurd h (at4 _)) (fun _ _ _=>rfl) (fun _ _=>rfl) (fun L h=>.inl ⟨L,h,rfl⟩) (by show _≤w'.heap.size;rw [d.size];omega) d.os d.tape d.output
 refine⟨{ X with w:=w' },rfl,rfl,SR.step Q σ g j X.H.length (fun _ _=>rfl) (fun _ _=>rfl) (fun b L _ l=>d.CD (g.br b L l).2.1)
  (fun _ _ _ _ _ h=>h) (fun L h=>by change X.cD X.H.length=aa L at h;rw [SR.qY g]at h;simp at h) (fun c i h=>?_),j,?_⟩
 ·have:=g.fb c i h;show c<w'.heap.size;rw [d.size];omega
 ·show X.B≤w'.heap.size;rw [d.size];omega
theorem wrap_small{n:Int}(h0:0≤n)(b:n<2 ^ 63):IntKind.i64.wrap n=n:=by
 have:n % (2 ^ 64:Int)=n:=Int.emod_eq_of_lt h0 (by omega);simp only [IntKind.wrap,IntKind.bits,IntKind.signed,this,as3,decide_eq_true_eq];rw [aX (by show¬ n≥2 ^ (64-1);omega)]
theorem DP(hS:SR Q σ X)(hB:X.B≤X.w.heap.size){a:Act}{az:T}(hR:RR σ X az a.tmps){o:Oper}{sz bytes:Nat}{zs:List FC}{x y:Arg}(F:dX Q σ o (.dZ sz bytes zs x y)=ae){v:V}{H':aj}
  (h:bo az X.H (.dZ sz bytes zs x y)=aa (v,H')):gV Q σ X v H' (execOp a.eval o):=by
 simp only [dX]at F;split at F
 ·rename_i t x' y' ho;simp only [If,decide_eq_true_eq]at F;obtain⟨⟨⟨k,r⟩,O⟩,b_⟩:=F;have k:=bX hR k;have r:=bX hR r;obtain⟨e,hu,O⟩:=iq O;simp only [If]at O;obtain⟨⟨j,Z⟩,hz⟩:=O;obtain⟨z,us,a8,a_,M,f8,d9,d_⟩:=eV (σ:=σ) (X:=X) hz X.w;obtain⟨c_,u,A⟩:=zI Z X.w;simp only [bo]at h;split at h
  ·rename_i l c hl hc;obtain⟨kl,p⟩:=i' k hl;obtain⟨kc,w⟩:=i' r hc;split at h
   ·rename_i s;obtain⟨h0,e_,g,f7⟩:=s;unfold bY at g;simp only [If,decide_eq_true_eq]at g;have J:us.length=sz:=by have:=M.len;simp at this;omega
    have L:=wrap_small (n:=l) h0 (by omega);have K:=wrap_small (n:=c) (by omega) (by omega);have b9:c.toNat*bytes≤2 ^ 48:=by
     have:c.toNat*bytes≤(2*c.toNat+768)*bytes:=asW _ (by omega);omega
    have m:¬ ((bytes:Int)*c>2 ^ 48):=by
     have e1:(bytes:Int)*c=((c.toNat*bytes:Nat):Int):=by
      rw [atT,atK];congr 1;omega
     rw [e1];omega
    have I:((Array.range (c.toNat*sz)).map fun i=>us.toArray[i % us.toArray.size]!)=(cG c.toNat us).toArray:=by
     have:=iG us c.toNat (by omega);rwa [J]at this
    have run:(execOp a.eval o).run Q X.w=.ok (.value (.slice (aa ⟨X.w.heap.size,0,ab⟩) l.toNat c.toNat)) (X.w.alloc (.cells (cG c.toNat us).toArray e)):=by
     simp only [execOp,ho];refine eu ?_;rw [p,w];have B:¬ c<0:=by omega
     have E:¬ l<0:=by omega
     have q:¬ l>c:=by omega
     by_cases d:c.toNat*sz=0
     ·have f:cG c.toNat us=[]:=asl (by rw [kE,J];exact d);have b:((decide (c<0)||decide ((bytes:Int)*c>2 ^ 48))||decide (l<0)||decide (l>c))=ag:=by rw [decide_eq_false B,decide_eq_false E,decide_eq_false q,decide_eq_false m];rfl
      simp only [Instr.makeSlice,Sem.run_bind,aZ hu,asInt,asIntOf,Sem.run_pure,Result.andThen_ok,u,A,L,K,run_askRoom,dk j];simp only [b,aso,if_false,Sem.run_ite,ba d,Sem.run_bind,Result.andThen_ok,Sem.run_pure,run_askRoom,dk j,newRow,run_newObj];rw [d,f,show(Array.map (fun x=>(#[]:Array Value)[x % (#[]:Array Value).size]!) (Array.range 0))=#[] from by simp [show Array.range 0=(#[]:Array Nat) from rfl]];rfl
     ·simp only [Instr.makeSlice,Sem.run_bind,aZ hu,asInt,asIntOf,Sem.run_pure,Result.andThen_ok,u,A,L,K,run_askRoom,dk j];have b:((decide (c<0)||decide ((bytes:Int)*c>2 ^ 48))||decide (l<0)||decide (l>c))=ag:=by rw [decide_eq_false B,decide_eq_false E,decide_eq_false q,decide_eq_false m];rfl
      simp only [b,aso,if_false,Sem.run_ite,aX d,Sem.run_bind,a8,a_,Result.andThen_ok,Sem.run_pure,run_askRoom,dk j,I,newRow,run_newObj];rfl
    split at h
    ·rename_i d;subst d;simp only [At,OF]at h;obtain⟨rfl,rfl⟩:=h;have:l=0:=by omega
     subst this;obtain⟨X',S,N,U,W,Y⟩:=SR.skip hS (ed.alloc X.w (.cells (cG (0:Int).toNat us).toArray e)) hB;exact⟨_,X',.inl (by rw [S];exact run),N,U,cV.es _,W,Y⟩
    ·simp only [At,OF]at h;obtain⟨rfl,rfl⟩:=h;obtain⟨X',S,N,U,W,Y,g6⟩:=DQ hS hB (jC M c.toNat) e;refine⟨_,X',.inl (by rw [S];exact run),N,U,?_,W,g6⟩;have H:X'.H[X.H.length]?=aa (.box ((cG c.toNat zs).map .f) 0):=by rw [N];simp
     simp only [VR,gR,CR,ft,H];exact⟨_,Y,by omega,rfl⟩
   ·simp at h
  ·simp at h
 ·simp at F
theorem alN(H:aj):∀ x,eG 0 H x=fcC x:=fun x=>by cases x<;>rfl
theorem ah'(F:SR Q σ X)(hB:X.B≤X.w.heap.size){a:Act}{az:T}(E:RR σ X az a.tmps){o:Oper}{sz:Nat}{x hi mx:Arg}(z:dX Q σ o (.vV sz x hi mx)=ae){v:V}{H':aj}
  (h:bo az X.H (.vV sz x hi mx)=aa (v,H')):gV Q σ X v H' (execOp a.eval o):=by
 simp only [dX]at z;split at z
 ·rename_i t y O mx' ho;simp only [If,decide_eq_true_eq]at z;obtain⟨⟨⟨⟨q,h2⟩,h3⟩,he⟩,hz⟩:=z;obtain⟨e,hu,A⟩:=iq he;simp only [bo]at h;unfold Cf at h;have o1:OR X σ ab ab:=trivial;have o2:OR X σ (aa (hi.ev az)) (aa (a.eval O)):=bX E h2;have o3:OR X σ (aa (mx.ev az)) (aa (a.eval mx')):=bX E h3;have q:=bX E q;split at h
  ·rename_i v' hv;simp only [At,OF]at h;obtain⟨rfl,rfl⟩:=h;obtain⟨r,B,h5⟩:=yA F hu A q o1 o2 o3 hv;exact⟨r,X,.inl (by simp only [execOp,ho];exact eu B),rfl,F,h5,Ext.refl _ _,hB⟩
  ·split at h
   ·rename_i b o' n c' ep s b_;rw [b_]at q;simp only [VR,gR,CR,ft]at q;split at h
    ·rename_i s' cs fl e' I;rw [I]at q;split at h
     ·rename_i K;obtain⟨rfl,rfl,rfl,rfl⟩:=K;split at h
      ·rename_i i j d W;split at h
       ·rename_i U;obtain⟨rfl,e_,d_⟩:=U;split at h
        ·rename_i ys c_;simp only [At,OF]at h;obtain⟨rfl,rfl⟩:=h;obtain⟨L,hL,k,hk,f8,b9⟩:=q.2.1 rfl rfl;have Y:k=0:=by
          rcases Nat.eq_zero_or_pos k with h | h
          ·exact h
          ·have:=Nat.mul_pos h hz;omega
         subst Y;have f7:i≤n:=by
          unfold CB at d;split at d
          ·split at d
           ·rename_i hh;simp only [At]at d;omega
           ·simp at d
          ·simp at d
         have J:cm n n ab (aa (hi.ev az)) (aa (mx.ev az))=aa (0,i,i):=by
          have S:CB (hi.ev az) i=aa i:=by
           unfold CB at d ⊢;split at d
           ·split at d
            ·rename_i hh;simp only [At]at d;rw [ba ⟨hh.1,by omega⟩,d]
            ·simp at d
           ·simp at d
          simp [cm,W,S]
         obtain⟨B,_,_,_⟩:=dR (Q:=Q) o1 o2 o3 J (cap:=L.cap) (by omega) (aft n) ae X.w;have h6:=eE (a:=aa ⟨L.c,0,ab⟩) hu A B;have Z:gB X.H (X.H.set b (.cj s' cs (Nat.max fl (i*s')) ep .loc)):=gB.set I ⟨rfl,rfl,asM _ _,rfl,rfl⟩;obtain⟨g1,g2⟩:=SR.ahead F Z.ext;obtain⟨g3,g4,g5⟩:=SR.flag g1;have a8:=(BY.1 I).1;have l:(X.H.set b (.cj s' cs (Nat.max fl (i*s')) ep .loc))[b]?=aa (.cj s' cs (Nat.max fl (i*s')) ep .loc):=by simp [a8]
         have N:eG 1 (X.H.set b (.cj s' cs (Nat.max fl (i*s')) ep .loc)) (.sl b 0 i 0 ep s')=aa (.fs ys i):=by
          simp only [eG,l];rw [ba ⟨trivial,trivial,by omega⟩,fo (g:=fcC) fun x _=>alN _ x,atf,c_];rfl
         have a_:dV 1 (X.H.set b (.cj s' cs (Nat.max fl (i*s')) ep .loc)) (.sl b 0 i 0 ep s'):=by
          intro bj m;rw [l]at m;cases m;refine⟨by have:=asD fl (i*s');simp only [asN];exact this,fun x _=>?_⟩;cases x<;>trivial
         have M:CR σ ({ X with H:=X.H.set b (.cj s' cs (Nat.max fl (i*s')) ep .loc) }:Wd).flag (.sl b 0 i 0 ep s') (.slice (aa ⟨L.c,0,ab⟩) i L.cap):=by
          simp only [CR,ft,Wd.flag,l];exact⟨aft _,fun _ _=>⟨L,hL,0,by omega,by omega,by simp⟩,_,_,_,rfl⟩
         have hf:=frz g3 g5 (dm.refl _) 1 N a_ M;have u:cV σ ({ X with H:=X.H.set b (.cj s' cs (Nat.max fl (i*s')) ep .loc) }:Wd).flag.F X.w (.fs ys i) (.slice (aa ⟨L.c,0,ab⟩) i i):=by
          cases hf with
          | fs _ _ c o2 cap us d9 hl hF K hr=>exact .fs _ _ _ _ _ us (aft _) hl hF K hr| fs0 a2 cap=>omega
         refine⟨.slice (aa ⟨L.c,0,ab⟩) i i,({ X with H:=X.H.set b (.cj s' cs (Nat.max fl (i*s')) ep .loc) }:Wd).flag,.inl ?_,rfl,g3,u,g2.trans (g4.mono (by simp)),hB⟩;simp only [execOp,ho];refine eu ?_;rw [b9];simp [show i≠0 by omega,et]at h6;exact h6
        ·simp at h
       ·simp at h
      ·simp at h
     ·simp at h
    ·simp at h
   ·simp at h
 ·simp at z
theorem amX(d:SR Q σ X)(g:X.B≤X.w.heap.size){a:Act}{az:T}(j:RR σ X az a.tmps){o:Oper}{op:da}(b:dX Q σ o op=ae){v:V}{H':aj}
  (h:bo az X.H op=aa (v,H')):gV Q σ X v H' (execOp a.eval o):=by
 cases m:op.fsl
 case true=>
  cases op<;>simp only [da.fsl,reduceCtorEq]at m;obtain⟨rfl,u,X',B,E,F,H,I,J,_⟩:=xL d g j b h;exact⟨u,X',.inl B,E,F,H,I,J⟩
 by_cases s:cls op=.p∨cls op=.r
 ·exact gV.apc g d (ajA d j b s m h)
 ·cases op with
  | pre st sz=>exact amu d g b h
  | alloc zs=>
   simp only [bo,At,OF]at h;obtain⟨rfl,rfl⟩:=h;exact ZU d g b
  | box x=>
   simp only [bo]at h;split at h
   ·rename_i xs q;simp only [At,OF]at h;obtain⟨rfl,rfl⟩:=h;exact aly d g j b q
   ·simp at h
  | bP sz zs n ps=>exact NY d g j b h| store n x y=>exact ach d g j b h
  | jx=>
   simp only [bo,At,OF]at h;obtain⟨rfl,rfl⟩:=h;exact abb d g b
  | iQ K x y z=>exact aa4 d g j b h| dZ sz l zs x y=>exact DP d g j b h| range x=>exact aby d g j b h| next x=>exact ahZ d g j b h
  | append sz l x y=>exact xu d g j b h| Db x=>simp [dX]at b| copy sz x y=>simp [dX]at b| clear sz zs x=>exact aaa d g j b h| kQ sz l zs x y=>exact ag2 d g j b h| jZ x=>exact Ph d g j b h| vV sz x y z=>exact ah' d g j b h| nR x=>exact abg d g j b h| call f xs A=>simp [bo]at h| cr x xs A=>simp [bo]at h| recover=>simp [bo]at h| defer x xs=>simp [bo]at h| bad=>simp [bo]at h| _=>exact absurd (by simp [cls]) s
end
section
variable{Q:Program}{σ:Nat→FuncId}{X:Wd}
def kM(n:Nat)(H:aj):V→Prop
 | .c x=>dV n H x| .a xs=>∀ x ∈ xs,dV n H x| _=>True
theorem kM.le{n:Nat}{H H':aj}(h:gB H H'){v:V}(b:kM n H v):kM n H' v:=by
 cases v with
 | c x=>exact dV.le n h b| a xs=>exact fun x d=>dV.le n h (b x d)
 | _=>trivial
theorem amb(n:Nat)(v:V)(H:aj):gB H (mkV n H v):=by
 cases v with
 | c x=>exact jX n x H| a xs=>exact gB.foldl (fun H x=>jX n x H) xs H
 | _=>exact gB.refl H
theorem DM(n:Nat)(v:V)(H:aj):kM n (mkV n H v) v:=by
 cases v with
 | c x=>exact ic n x H| a xs=>exact fun x b=>fC (fun x H=>ic n x H) xs H x b
 | _=>trivial
theorem na(n:Nat):∀(b:List V) (H:aj),gB H (b.foldl (mkV n) H)
 | [],H=>gB.refl H| v::b,H=>(amb n v H).trans (na n b _)
theorem rB(n:Nat):∀(b:List V) (H:aj),∀ v ∈ b,kM n (b.foldl (mkV n) H) v
 | u::b,H,v,d=>by
  rcases asv.1 d with rfl | d
  ·exact(DM n v H).le (na n b _)
  ·exact rB n b _ v d
def FV1(σ:Nat→FuncId)(F:Nat→Nat→Prop)(w:World)(v:V)(u:Value):Prop:=∀ X:Wd,X.F=F→X.w=w→gR σ X v u
def FV(σ:Nat→FuncId)(F:Nat→Nat→Prop)(w:World)(v:V)(u:Value):Prop:=∀ X:Wd,X.F=F→X.w=w→VR σ X v u
theorem ajl(z:SR Q σ X)(q:FL X){H:aj}(s:dm H X.H){n:Nat}{v F:V}{u:Value}(d:cK n H v=aa F)(A:kM n H v)(B:gR σ X v u):FV1 σ X.F X.w F u:=by
 intro Z g j;cases v with
 | c x=>
  simp only [cK,IT]at d;obtain⟨y,m,rfl⟩:=d;have:=frz z q s n m A B;rw [←g,←j]at this;exact this
 | a xs=>
  simp only [cK,IT]at d;obtain⟨ys,b,rfl⟩:=d;obtain⟨us,rfl,l⟩:=B;have b:=fW b;refine⟨us,rfl,A2.map ⟨by rw [←l.len,b.len],fun i y u m I=>?_⟩⟩;have hi:i<xs.length:=by rw [b.len];exact(BY.1 m).1
  have E:=By hi;have:=frz z q s n (b.2 i _ _ E m) (A _ (anc hi)) (l.2 i _ _ E I);rw [←g,←j]at this;exact this
 | top=>simp [cK]at d| t J=>simp [cK]at d
def bq.full:bq→bq
 | .box cs fl=>.box cs (Nat.max fl cs.length)| .cj s cs fl e st=>.cj s cs (Nat.max fl cs.length) e st| b=>b
theorem zm(H:aj):gB H (H.map bq.full):=by
 refine⟨by simp,fun b x y g d=>?_⟩;rw [asU,g]at d;simp only [asY,At]at d;subst d;cases x<;>simp [dt,bq.full,asM]
theorem gk:∀(n:Nat) {H:aj} {x:C} {y:FC},eG n H x=aa y→dV n (H.map bq.full) x
 | n,H,.f _,y,_=>by cases n<;>trivial
 | 0,H,.ptr _ _ _,y,_=>trivial| 0,H,.sl _ _ _ _ _ _,y,_=>trivial| 0,H,.cl _ _,y,_=>trivial| 0,H,.yl _,y,_=>trivial| 0,H,.mp _,y,_=>trivial| 0,H,.it _,y,_=>trivial| 0,H,.bm _ _,y,_=>trivial| 0,H,.mi _,y,_=>trivial
 | n+1,H,.ptr b off ep,y,d=>by
  intro cs fl j;rw [asU]at j;simp only [eG]at d;split at d
  ·rename_i cs' u g;rw [g]at j;simp only [asY,At,bq.full,bq.box.injEq]at j;obtain⟨rfl,rfl⟩:=j;simp only [IT]at d;obtain⟨ys,m,rfl⟩:=d;refine⟨asD _ _,fun x v=>?_⟩;obtain⟨i,hi⟩:=as2 v;obtain⟨y,_,z⟩:=(fW m).get hi;exact gk n z
  ·simp at d
 | n+1,H,.sl b o l c ep sz,y,d=>by
  intro bj j;rw [asU]at j;simp only [eG]at d;split at d
  ·rename_i cs' u g;rw [g]at j;simp only [asY,At,bq.full]at j;subst j;split at d
   ·rename_i q;simp only [IT]at d;obtain⟨ys,m,rfl⟩:=d;refine⟨asz q (asD _ _),fun x v=>?_⟩;obtain⟨i,hi⟩:=as2 v;obtain⟨y,_,z⟩:=(fW m).get hi;exact gk n z
   ·simp at d
  ·rename_i s cs' u e g;rw [g]at j;simp only [asY,At,bq.full]at j;subst j;split at d
   ·rename_i q;simp only [IT]at d;obtain⟨ys,m,rfl⟩:=d;refine⟨asz q.2.2 (asD _ _),fun x v=>?_⟩;obtain⟨i,hi⟩:=as2 v;obtain⟨y,_,z⟩:=(fW m).get hi;exact gk n z
   ·simp at d
  ·rename_i s cs' u e g;rw [g]at j;simp only [asY,At,bq.full]at j;subst j;trivial
  ·rename_i s cs' u e g;rw [g]at j;simp only [asY,At,bq.full]at j;subst j;trivial
  ·simp at d
 | n+1,H,.cl f A,y,d=>by
  simp only [eG,IT]at d;obtain⟨ys,m,rfl⟩:=d;intro x v;obtain⟨i,hi⟩:=as2 v;obtain⟨y,_,z⟩:=(fW m).get hi;exact gk n z
 | n+1,H,.yl _,y,d=>trivial| n+1,H,.mp _,y,d=>trivial| n+1,H,.it _,y,d=>trivial| n+1,H,.bm _ _,y,d=>trivial| n+1,H,.mi _,y,d=>trivial
theorem zn{n:Nat}{H:aj}{v l:V}(b:cK n H v=aa l):kM n (H.map bq.full) v:=by
 cases v with
 | c x=>
  simp only [cK,IT]at b;obtain⟨y,d,rfl⟩:=b;exact gk n d
 | a xs=>
  simp only [cK,IT]at b;obtain⟨ys,g,rfl⟩:=b;intro x j;obtain⟨i,hi⟩:=as2 j;obtain⟨y,_,d⟩:=(fW g).get hi;exact gk n d
 | _=>trivial
def Wd.inner(X:Wd):Wd:=⟨fun _=>ab,X.F,[],X.w,X.w.heap.size⟩
theorem SR.inner(d:SR Q σ X):SR Q σ X.inner:=⟨fun b L h=>by simp [Wd.inner]at h,fun b j L g h=>by simp [Wd.inner]at h,d.fb⟩
def Wd.js(Y:Wd):Wd:=Wd.flag { Y with H:=Y.H.map bq.full }
theorem SR.js{Y:Wd}(b:SR Q σ Y):SR Q σ Y.js∧Ext Y.H.length Y Y.js∧FL Y.js:=by
 obtain⟨h1,h2⟩:=SR.ahead b (zm Y.H).ext;obtain⟨h3,h4,h5⟩:=SR.flag h1;exact⟨h3,h2.trans (h4.mono (by simp)),h5⟩
theorem Dn{Y:Wd}(J:SR Q σ Y){n:Nat}{v g:V}{u:Value}(b:iV n Y.H v=aa g)(A:VR σ Y v u):FV σ Y.js.F Y.w g u:=by
 obtain⟨F,H,I⟩:=SR.js J;have m:=VR.ext' σ H A;have q:∀ {v g:V} {u:Value},cK n Y.H v=aa g→gR σ Y.js v u→FV1 σ Y.js.F Y.w g u:=by
  intro v g u b A;have z:cK n Y.js.H v=aa g:=by
   show cK n (Y.H.map bq.full) v=aa g;cases v with
   | c x=>simp only [cK]at b ⊢;rw [mb n (zm Y.H)];exact b| a xs=>simp only [cK]at b ⊢;rw [fo (fun x _=>mb n (zm Y.H) x)];exact b
   | _=>simp [cK]at b
  exact ajl F I (dm.refl _) z (zn b) A
 intro Z j l;cases v with
 | t L=>
  simp only [iV,IT]at b;obtain⟨M,d,rfl⟩:=b;obtain⟨us,rfl,s⟩:=m;have d:=fW d;refine⟨us,rfl,by rw [←s.len,d.len],fun i y u E K=>?_⟩;have hi:i<L.length:=by rw [d.len];exact(BY.1 E).1
  have B:=By hi;exact q (d.2 i _ _ B E) (s.2 i _ _ B K) Z j l
 | c x=>exact VR.of1 σ (q (v:=.c x) b m Z j l)| a xs=>exact VR.of1 σ (q (v:=.a xs) b m Z j l)| top=>simp [iV,cK]at b
theorem SR.outer(s:SR Q σ X)(v:X.B≤X.w.heap.size){Y:Wd}(u:SR Q σ Y)(d:Ext 0 X.inner Y) :
  SR Q σ { X with F:=Y.js.F,w:=Y.w }∧Ext X.H.length X { X with F:=Y.js.F,w:=Y.w }∧X.B≤Y.w.heap.size:=by
 obtain⟨h1,h2,h3⟩:=SR.js u;have nu:X.w.heap.size≤Y.w.heap.size:=d.size;have g:∀ k,k<X.w.heap.size→Y.w.heap[k]?=X.w.heap[k]?:=fun k q=>d.frame k q (fun b L h=>by simp [Wd.inner]at h);have l:∀ c i,Y.js.F c i→X.F c i∨X.w.heap.size≤c:=by
  intro c i h;rcases h2.oK c i h with h | h | ⟨b,L,m,rfl⟩
  ·rcases d.oK c i h with h | h | ⟨b,L,m,_⟩
   ·exact .inl h
   ·exact .inr h
   ·simp [Wd.inner]at m
  ·exact .inr (asz nu h)
  ·have:=(u.br b L m).1;rw [d.B]at this;exact .inr this
 have j:Ext X.H.length X { X with F:=Y.js.F,w:=Y.w }:=
  {B:=rfl,F:=fun c i h=>h2.F c i (d.F c i h)
   oK:=fun c i h=>(l c i h).elim .inl fun h=>.inr (.inl h)
   fw:=fun c i h=>d.fw c i h
   cO:=fun b _ bj m=>⟨bj,m,by cases bj<;>simp⟩
   xR:=fun b L h=>.inl ⟨b,L,h,rfl⟩,size:=nu,os:=d.os,tape:=d.tape,output:=d.output,frame:=fun k q _=>g k q }
 refine⟨⟨fun b L m=>?_,s.inj,fun c i h=>h1.fb c i h⟩,j,asz v nu⟩;obtain⟨g1,g2,bj,g3,g4⟩:=s.br b L m;refine⟨g1,asJ g2 nu,bj,g3,BR.ext Q σ j (g _ g2) (fun i h=>?_) g4⟩;rcases l _ _ h with h | h
 ·exact h
 ·omega
end
section
variable{Q:Program}{σ:Nat→FuncId}{X:Wd}
def fh(Q:Program)(σ:Nat→FuncId)(X:Wd)(v:V)(H':aj)(X':Wd)(u:Value):Prop:=
 X'.H=H'∧SR Q σ X'∧VR σ X' v u∧Ext X.H.length X X'∧X'.B≤X'.w.heap.size
def ov(b:CallKind)(cs:List Frame):Prop:=b=.normal∨(b=.deferred∧∃ c rest,cs=c::rest∧c.mode=.returning)
def ja(b:Frame)(cs:List Frame):Prop:=ov b.kind cs
theorem ov.O7{fr:Frame}{cs:List Frame}(h:ov fr.kind cs):tryRecover fr cs=ab:=by
 unfold tryRecover;rcases h with h | ⟨h,c,rest,rfl,b⟩
 ·rw [h]
 ·rw [h];simp [b]
def Leaves(Q:Program)(f:FuncId)(d:CallKind)(b:Frame)(u:Value)(w:World):Prop:=
 b.mode=.returning∧b.defers=[]∧b.kind=d∧b.fn=f∧∃ fn,Q.funcs[f]?=aa fn∧(Go.results fn b.tmps).run Q w=.ok u w
structure fm(Q:Program)(σ:Nat→FuncId)(call:cU):Prop where
 enters:∀ f args H r,call (.fn f) args H=aa r→∀ as w,(callFunc (σ f) as).run Q w=.ok (.enter (σ f) as) w
 fn:∀ f args H r H',call (.fn f) args H=aa (r,H')→∀(X:Wd) us kind cs,X.H=H→SR Q σ X→X.B≤X.w.heap.size→A2 (VR σ X) args us→ov kind cs→kind=.normal∨f≠fA →
  ∃ fr X' u,Steps Q (lone (Frame.enter Q (σ f) us.toArray kind) cs X.w) (lone fr cs X'.w)∧Leaves Q (σ f) kind fr u X'.w∧fh Q σ X r H' X' u
 yield:∀ b args H r H',call (.yield b) args H=aa (r,H')→∀(X:Wd) us c cs L,X.H=H→SR Q σ X→X.B≤X.w.heap.size→A2 (VR σ X) args us→X.cD b=aa L →
  ∃ f tmps as bd X' u,(Instr.yield L.c us.toArray).run Q X.w=.ok (.round L.c f tmps as bd) X.w ∧
   Steps Q (lone (Frame.round L.c f tmps as bd .normal) (c::cs) X.w) (lone (c.finish u) cs X'.w)∧fh Q σ X r H' X' u
def dh(Q:Program)(σ:Nat→FuncId)(X:Wd)(o:Oper)(a:Act)(v:V)(H':aj):Prop:=
 ∀(b:Frame) (ops:Array Oper) (i:Nat) (rest:List Nat) (k:List Item) (cs:List Frame),ops[i]?=aa o→Region.wanted o (yielded ops a.tmps)=ae→ja b cs →
  ∃ X' u,Steps Q (lone (b.atR a (.inRegion ops (i::rest)::k)) cs X.w) (lone (b.atR (a.put o.dst u) (.inRegion ops rest::k)) cs X'.w)∧fh Q σ X v H' X' u
theorem dh.apb{o:Oper}{a:Act}{v:V}{H':aj}(j:∀ c,o.op≠.defer c)(h:gV Q σ X v H' (execOp a.eval o)):dh Q σ X o a v H':=by
 intro b ops i rest k cs ho l m;obtain⟨u,X',d,h1,h2,h3,h4,h5⟩:=h;refine⟨X',u,.one (step_lone_go ?_),h1,h2,h3,h4,h5⟩;rw [stepGR_op ho l,Oper.semAt_eq _ _ _ j];have g:=Frame.finish_atR b a ops i rest k u;rw [ho]at g;simp only [asR]at g;rw [←g];rcases d with d | ⟨d,rfl⟩<;>simp [stepG.apply,Sem.runT_eq,d]
theorem dh.vw{o:Oper}{a:Act}{v:V}{H':aj}(j:∀ c,o.op≠.defer c){f:FuncId}{us:Array Value}(g:(execOp a.eval o).run Q X.w=.ok (.enter f us) X.w)
  (h:∀ cs,∃ fr X' u,Steps Q (lone (Frame.enter Q f us .normal) cs X.w) (lone fr cs X'.w)∧Leaves Q f .normal fr u X'.w∧fh Q σ X v H' X' u):dh Q σ X o a v H':=by
 intro b ops i rest k cs ho l y;obtain⟨fr,X',u,h1,⟨l1,l2,m,q,fn,s,x⟩,h3⟩:=h (b.atR a (.inRegion ops (i::rest)::k)::cs);refine⟨X',u,.head (step_lone_go (fr':=Frame.enter Q f us .normal) (cs':=b.atR a (.inRegion ops (i::rest)::k)::cs) (w':=X.w) ?_) (h1.trans (.one ?_)),h3⟩
 ·rw [stepGR_op ho l,Oper.semAt_eq _ _ _ j];simp [stepG.apply,Sem.runT_eq,g,Frame.atR]
 ·have d:=Frame.finish_atR b a ops i rest k u;rw [ho]at d;simp only [asR]at d;rw [←d];exact step_leave_returned ⟨l1,l2,m,fn,by rw [q];exact s,x⟩
theorem dh.abh{o:Oper}{a:Act}{v:V}{H':aj}(j:∀ c,o.op≠.defer c){l:Nat}{f:FuncId}{tmps:Array Value}{as bd:Code}(g:(execOp a.eval o).run Q X.w=.ok (.round l f tmps as bd) X.w)
  (h:∀ c cs,∃ X' u,Steps Q (lone (Frame.round l f tmps as bd .normal) (c::cs) X.w) (lone (c.finish u) cs X'.w)∧fh Q σ X v H' X' u):dh Q σ X o a v H':=by
 intro b ops i rest k cs ho m q;obtain⟨X',u,h1,h3⟩:=h (b.atR a (.inRegion ops (i::rest)::k)) cs;refine⟨X',u,.head (step_lone_go (fr':=Frame.round l f tmps as bd .normal) (cs':=b.atR a (.inRegion ops (i::rest)::k)::cs) (w':=X.w) ?_) ?_,h3⟩
 ·rw [stepGR_op ho m,Oper.semAt_eq _ _ _ j];simp [stepG.apply,Sem.runT_eq,g,Frame.atR]
 ·have d:=Frame.finish_atR b a ops i rest k u;rw [ho]at d;simp only [asR]at d;rw [←d];exact h1
theorem ob{x:V}{u:Value}{args:List V}{us:List Value}{c:Callee}{d:List V}(j:b5 x args=aa (c,d))(l:VR σ X x u)(q:A2 (VR σ X) args us) :
  match c with
  | .fn f=>∃ fst cap:List Value,u=.func (.func (σ f)) fst.toArray cap.toArray∧A2 (VR σ X) d (fst++us++cap)| .yield b=>d=args∧∃ L,X.cD b=aa L∧u=.func (.yield L.c) #[] #[]:=by
 unfold b5 at j;split at j
 ·rename_i f m;cases j;cases l with
  | fn _ _ cap y z=>
   refine⟨[],cap,rfl,q.append (A2.map ⟨y.symm,fun i x u l A=>?_⟩)⟩;exact z i x u l A
 ·rename_i f m;cases j;obtain⟨cap,rfl,g⟩:=l;exact⟨[],cap,rfl,q.append (A2.map (g.kI fun x u h=>CR.of1 σ h))⟩
 ·rename_i b;cases j;obtain⟨L,v,_,rfl⟩:=l;exact⟨rfl,L,v,rfl⟩
 ·rename_i f first
  cases j;obtain⟨cap,rfl,g⟩:=l;have s:A2 (VR σ X) (first.map .c) cap:=A2.map (g.kI fun x u h=>CR.of1 σ h);exact⟨cap,[],rfl,by simpa using s.append q⟩
 ·simp at j
theorem iE{a:Act}{o:Oper}{cl:Call}{y:Operand}(b:o.op=.call cl)(g:cl.callee=.value y){w:World}{fn:Fn}{fst cap:Array Value}(d:a.eval y=.func fn fst cap) :
  (execOp a.eval o).run Q w=(invoke (.fn fn cap) (fst++cl.args.map a.eval)).run Q w:=by
 simp only [execOp,b,resolve,g,d,Deferred.ofValue,Sem.run_bind,Sem.run_pure,Result.andThen_ok]
theorem e9{f:FuncId}{cap as:Array Value}{w:World}(h:∀ as w,(callFunc f as).run Q w=.ok (.enter f as) w):(invoke (.fn (.func f) cap) as).run Q w=.ok (.enter f (as++cap)) w:=by
 simp only [invoke];exact h _ _
end
section
variable{Q:Program}{σ:Nat→FuncId}{X:Wd}{call:cU}
theorem ahn{n:Nat}{H H':aj}(h:gB H H')(v:V):cK n H' v=cK n H v:=by
 cases v with
 | c x=>simp only [cK,mb n h]| a xs=>simp only [cK,fo (fun x _=>mb n h x)]
 | _=>rfl
theorem zE(K:fm Q σ call)(hS:SR Q σ X)(hB:X.B≤X.w.heap.size){f:Nat}{args:List V}{us:List Value}{H H':aj}{r':V}(g:eC call f args H=aa (r',H'))(hH:dm H' X.H)(L:A2 (VR σ X) args us)(cs:List Frame) :
  (∀ as w,(callFunc (σ f) as).run Q w=.ok (.enter (σ f) as) w) ∧
  ∃ l X' u,Steps Q (lone (Frame.enter Q (σ f) us.toArray .normal) cs X.w) (lone l cs X'.w)∧Leaves Q (σ f) .normal l u X'.w∧fh Q σ X r' X.H X' u∧X'.cD=X.cD:=by
 unfold eC at g;split at g
 ·simp at g
 ·rename_i s d;split at g
  ·simp at g
  ·rename_i r S b;split at g
   ·simp at g
   ·rename_i a8 M;simp only [At,OF]at g;obtain⟨rfl,rfl⟩:=g;have A:=na deep args H;have B:=rB deep args H;obtain⟨v,J,h3⟩:=SR.flag hS;have d:=fW d;have z:A2 (VR σ X.flag.inner) s us:=by
     refine⟨by rw [←d.len];exact L.len,fun i y u O hu=>?_⟩;have hi:i<args.length:=by rw [d.len];exact(BY.1 O).1
     have N:=By hi;have m:cK deep H args[i]=aa y:=d.2 i _ _ N O;have q:=VR.ext' σ J (L.2 i _ _ N hu);rw [←ahn A]at m;have E:gR σ X.flag args[i] u:=by
      cases j:args[i]with
      | c x=>rw [j]at q;exact q| a xs=>rw [j]at q;exact q| top=>trivial| t vs=>rw [j]at m;simp [cK]at m
     exact VR.of1 σ (ajl v h3 hH m (B _ (anc hi)) E X.flag.inner rfl rfl)
    obtain⟨l,Y,u,U,W,Z,I,g5,g6,g7⟩:=K.fn f s [] r S b X.flag.inner us .normal cs rfl (SR.inner v) (aft _) z (.inl rfl) (.inl rfl);obtain⟨k1,k2,k3⟩:=SR.outer v hB I g6;refine⟨K.enters f s [] _ b,l,{ X.flag with F:=Y.js.F,w:=Y.w },u,U,W,⟨rfl,k1,?_,J.trans (k2.mono (aft _)),k3⟩,rfl⟩;rw [←Z]at M;exact Dn I M g5 _ rfl rfl
theorem my{o:Oper}{f:Nat}{xs:List Arg}{h:Bool}(b:dX Q σ o (.call f xs h)=ae):∃ c,o.op=.call c∧c.callee=.value (.func (σ f))∧mAs σ xs c.args=ae:=by
 simp only [dX]at b;split at b
 ·rename_i c j;simp only [ee]at b;split at b
  ·rename_i g d;simp only [If,beq_iff_eq]at b;exact⟨c,j,by rw [d,b.1],b.2⟩
  ·simp at b
 ·simp at b
theorem zC{o:Oper}{x:Arg}{xs:List Arg}{h:Bool}(b:dX Q σ o (.cr x xs h)=ae):∃ c y,o.op=.call c∧c.callee=.value y∧mA σ x y=ae∧mAs σ xs c.args=ae:=by
 simp only [dX]at b;split at b
 ·rename_i c d;simp only [ee]at b;split at b
  ·rename_i y g;simp only [If]at b;exact⟨c,y,d,g,b.1,b.2⟩
  ·simp at b
 ·simp at b
theorem kz{o:Oper}{c:Call}(h:o.op=.call c):∀ c,o.op≠.defer c:=fun b e=>by rw [h]at e;cases e
theorem A0(l:fm Q σ call)(q:SR Q σ X)(j:X.B≤X.w.heap.size){a:Act}{az:T}(E:RR σ X az a.tmps){o:Oper}{f:Nat}{xs:List Arg}{h:Bool}(I:dX Q σ o (.call f xs h)=ae)
  {H H':aj} {v:V} (y:eC call f (dz az xs) H=aa (v,H')) (m:dm H' X.H):dh Q σ X o a v X.H:=by
 obtain⟨c,x,F,d⟩:=my I;have s:=ml E d;have b:=(zE l q j y m s []).1;refine dh.vw (kz x) (f:=σ f) (us:=c.args.map a.eval) ?_ fun cs=>?_
 ·rw [iE x F (fn:=.func (σ f)) (fst:=#[]) (cap:=#[]) rfl,e9 b];simp
 ·obtain⟨_,z,X',u,g,A,B,_⟩:=zE l q j y m s cs;exact⟨z,X',u,by rw [Array.toArray_toList]at g;exact g,A,B⟩
theorem yY(A:fm Q σ call)(F:SR Q σ X)(z:X.B≤X.w.heap.size){a:Act}{az:T}(E:RR σ X az a.tmps){o:Oper}{f:Nat}{xs:List Arg}{h:Bool}(K:dX Q σ o (.call f xs h)=ae)
  {H H':aj} {v:V} (L:eC call f (dz az xs) H=aa (v,H')) (B:dm H' X.H)
  (b:Frame) (ops:Array Oper) (i:Nat) (rest:List Nat) (k:List Item) (cs:List Frame) (g:ops[i]?=aa o) (M:Region.wanted o (yielded ops a.tmps)=ae) :
  ∃ X' u,Steps Q (lone (b.atR a (.inRegion ops (i::rest)::k)) cs X.w) (lone (b.atR (a.put o.dst u) (.inRegion ops rest::k)) cs X'.w)∧fh Q σ X v X.H X' u∧X'.cD=X.cD:=by
 obtain⟨c,s,J,m⟩:=my K;have I:=ml E m;obtain⟨l,Z,X',u,q,⟨N,O,S,U,fn,W,Y⟩,x,y⟩:=zE A F z L B I (b.atR a (.inRegion ops (i::rest)::k)::cs);rw [Array.toArray_toList]at q;have j:(execOp a.eval o).run Q X.w=.ok (.enter (σ f) (c.args.map a.eval)) X.w:=by
  rw [iE s J (fn:=.func (σ f)) (fst:=#[]) (cap:=#[]) rfl,e9 l];simp
 refine⟨X',u,.head (step_lone_go (fr':=Frame.enter Q (σ f) (c.args.map a.eval) .normal) (cs':=b.atR a (.inRegion ops (i::rest)::k)::cs) (w':=X.w) ?_) (q.trans (.one ?_)),x,y⟩
 ·rw [stepGR_op g M,Oper.semAt_eq _ _ _ (kz s)];simp [stepG.apply,Sem.runT_eq,j,Frame.atR]
 ·have d:=Frame.finish_atR b a ops i rest k u;rw [g]at d;simp only [asR]at d;rw [←d];exact step_leave_returned ⟨N,O,S,fn,by rw [U];exact W,Y⟩
theorem AZ(j:fm Q σ call)(A:SR Q σ X)(y:X.B≤X.w.heap.size){a:Act}{az:T}(z:RR σ X az a.tmps){o:Oper}{f:Nat}{xs:List Arg}{h:Bool}(F:dX Q σ o (.call f xs h)=ae)
  {H':aj} {v:V} (m:call (.fn f) (dz az xs) X.H=aa (v,H')):dh Q σ X o a v H':=by
 obtain⟨c,l,E,d⟩:=my F;have B:=ml z d;have b:=j.enters _ _ _ _ m;refine dh.vw (kz l) (f:=σ f) (us:=c.args.map a.eval) ?_ fun cs=>?_
 ·rw [iE l E (fn:=.func (σ f)) (fst:=#[]) (cap:=#[]) rfl,e9 b];simp
 ·obtain⟨q,X',u,g,s,x⟩:=j.fn _ _ _ _ _ m X _ .normal cs rfl A y B (.inl rfl) (.inl rfl);exact⟨q,X',u,by rw [Array.toArray_toList]at g;exact g,s,x⟩
theorem Z6(A:fm Q σ call)(M:SR Q σ X)(J:X.B≤X.w.heap.size){a:Act}{az:T}(K:RR σ X az a.tmps){o:Oper}{x:Arg}{xs:List Arg}{h:Bool}(hm:dX Q σ o (.cr x xs h)=ae)
  {H':aj} {v:V} {c:Callee} {args:List V} (m:b5 (x.ev az) (dz az xs)=aa (c,args)) (E:call c args X.H=aa (v,H')):dh Q σ X o a v H':=by
 obtain⟨cl,y,s,O,hy,H⟩:=zC hm;have N:=ml K H;have S:=ob m (bX K hy) N;cases c with
 | fn f=>
  obtain⟨fst,cap,j,F⟩:=S;have B:=A.enters _ _ _ _ E;refine dh.vw (kz s) (f:=σ f) (us:=fst.toArray++cl.args.map a.eval++cap.toArray) ?_ fun cs=>?_
  ·rw [iE s O j,e9 B]
  ·obtain⟨W,X',u,q,z,Y⟩:=A.fn _ _ _ _ _ E X _ .normal cs rfl M J F (.inl rfl) (.inl rfl);refine⟨W,X',u,?_,z,Y⟩;have e:(fst++(cl.args.map a.eval).toList++cap).toArray=fst.toArray++cl.args.map a.eval++cap.toArray:=by simp
   rw [e]at q;exact q
 | yield b=>
  obtain⟨rfl,L,Z,j⟩:=S;have key:=fun c cs=>A.yield b _ _ _ _ E X _ c cs L rfl M J N Z;obtain⟨f,tmps,as,bd,_,_,g,_⟩:=key default [];refine dh.abh (kz s) (l:=L.c) (f:=f) (tmps:=tmps) (as:=as) (bd:=bd) ?_ fun c cs=>?_
  ·rw [iE s O j,Array.empty_append];rw [Array.toArray_toList]at g;exact g
  ·obtain⟨f',I,as',U,X',u,d,q,z⟩:=key c cs;rw [g]at d;simp only [Result.ok.injEq,Next.round.injEq,true_and,and_true]at d;obtain⟨rfl,rfl,rfl,rfl⟩:=d;exact⟨X',u,q,z⟩
end
section
variable{Q:Program}{σ:Nat→FuncId}{X:Wd}{call:cU}
def tM(σ:Nat→FuncId)(X:Wd):dU→Deferred→Prop
 | .gM b,d=>∃ L o,X.cD b=aa L∧X.H[b]?=aa (.fj o)∧d = { target:=.collected L.c,args:=#[] }| .fn f args,d=>∃ us cap:Array Value,d = { target:=.fn (.func (σ f)) cap,args:=us }∧A2 (VR σ X) args (us.toList++cap.toList)
theorem tM.eh{X X':Wd}(g:oJ X.H.length X X'){x:dU}{d:Deferred}(h:tM σ X x d):tM σ X' x d:=by
 cases x with
 | gM b=>
  obtain⟨L,o,h1,h2,h3⟩:=h;obtain⟨blk',h4,h5⟩:=g.cO b (BY.1 h2).1 _ h2;cases blk'<;>simp only at h5;exact⟨L,_,h5 L h1,h4,h3⟩
 | fn f args=>
  obtain⟨us,cap,h1,h2⟩:=h;exact⟨us,cap,h1,h2.kI fun _ _ h=>VR.eh σ g h⟩
def fO(σ:Nat→FuncId)(X:Wd)(ds:List dU)(b:List Deferred):Prop:=A2 (tM σ X) ds b
theorem tM.ext'{X X':Wd}(b:Ext X.H.length X X'){x:dU}{d:Deferred}(h:tM σ X x d):tM σ X' x d:=tM.eh b.W h
theorem fO.eh{X X':Wd}(d:oJ X.H.length X X'){ds:List dU}{b:List Deferred}(h:fO σ X ds b):fO σ X' ds b:=h.kI fun _ _ h=>tM.eh d h
theorem fO.ext'{X X':Wd}(d:Ext X.H.length X X'){ds:List dU}{b:List Deferred}(h:fO σ X ds b):fO σ X' ds b:=h.kI fun _ _ h=>tM.ext' d h
def oM(Q:Program)(σ:Nat→FuncId)(X:Wd)(o:Oper)(a:Act)(ok:Frame→Prop)(v:V)(H':aj)(ds:List dU):Prop:=
 ∀(b:Frame) (ops:Array Oper) (i:Nat) (rest:List Nat) (k:List Item) (cs:List Frame),ops[i]?=aa o→Region.wanted o (yielded ops a.tmps)=ae→ja b cs→ok b →
  ∃(X':Wd) (u:Value) (a':Act),Steps Q (lone (b.atR a (.inRegion ops (i::rest)::k)) cs X.w) (lone (b.atR (a'.put o.dst u) (.inRegion ops rest::k)) cs X'.w)∧fh Q σ X v H' X' u∧a'.tmps=a.tmps∧fO σ X' ds a'.defers
theorem dh.acz{o:Oper}{a:Act}{v:V}{H':aj}(h:dh Q σ X o a v H'){ds:List dU}(d:fO σ X ds a.defers){ok:Frame→Prop}:oM Q σ X o a ok v H' ds:=by
 intro b ops i rest k cs ho j g _;obtain⟨X',u,h1,h2⟩:=h b ops i rest k cs ho j g;exact⟨X',u,a,h1,h2,rfl,d.ext' h2.2.2.2.1⟩
theorem dh.ahead(j:SR Q σ X){d H':aj}(g:dm X.H d){o:Oper}{a:Act}{v:V}(h:dh Q σ { X with H:=d } o a v H'):dh Q σ X o a v H':=by
 intro b ops i rest k cs ho m l;obtain⟨X',u,h1,h2,h3,h4,h5,h6⟩:=h b ops i rest k cs ho m l;exact⟨X',u,h1,h2,h3,h4,(SR.ahead j g).2.trans (h5.mono g.len),h6⟩
def gH(op:da)(b:Frame):Prop:=b.roundOf=ab∨op.ea=ae
theorem D6(y:SR Q σ X)(x:X.B≤X.w.heap.size){a:Act}{o:Oper}(g:dX Q σ o .recover=ae){ds:List dU}(z:fO σ X ds a.defers):oM Q σ X o a (gH .recover) (.c (.f .lO)) X.H ds:=by
 intro b ops i rest k cs v B A q;have q:b.roundOf=ab:=q.elim id fun h=>by simp [da.ea]at h
 simp only [dX]at g;split at g
 ·rename_i c u;simp only [ee]at g;split at g
  ·rename_i j;have l:(execOp a.eval o).run Q X.w=.ok .recover X.w:=by
    simp [execOp,u,resolve,j,invoke,builtin]
   refine⟨X,.nilIface,a,.one (step_lone_go ?_),⟨rfl,y,cV.lO,Ext.refl _ _,x⟩,rfl,z⟩;rw [stepGR_op v B,Oper.semAt_eq _ _ _ (kz u)];have d:=Frame.finish_atR b a ops i rest k .nilIface;rw [v]at d;simp only [asR]at d;rw [←d];have m:tryRecover (b.atR a (.inRegion ops (i::rest)::k)) cs=ab:=ov.O7 A;have s:(b.atR a (.inRegion ops (i::rest)::k)).roundOf=ab:=q;simp [stepG.apply,Sem.runT_eq,l,m,s]
  ·simp at g
 ·simp at g
theorem aai(A:SR Q σ X)(z:X.B≤X.w.heap.size){a:Act}{az:T}(u:RR σ X az a.tmps){o:Oper}{x:Arg}{xs:List Arg}(g:dX Q σ o (.defer x xs)=ae){ds:List dU}(E:fO σ X ds a.defers)
  {f:Nat} {args:List V} (B:b5 (x.ev az) (dz az xs)=aa (.fn f,args)):oM Q σ X o a (gH (.defer x xs)) .top X.H (.fn f args::ds):=by
 intro b ops i rest k cs v H J m;have m:b.roundOf=ab:=m.elim id fun h=>by simp [da.ea]at h
 simp only [dX]at g;split at g
 ·rename_i c j;split at g
  ·rename_i y I;simp only [If]at g;have F:=ob B (bX u g.1) (ml u g.2);obtain⟨fst,cap,q,s⟩:=F;have l:(execOp a.eval o).run Q X.w=.ok (.defer { target:=.fn (.func (σ f)) cap.toArray,args:=fst.toArray++c.args.map a.eval }) X.w:=by
    simp [execOp,j,resolve,I,q,Deferred.ofValue]
   refine⟨X,undef,{ a with defers:={ target:=.fn (.func (σ f)) cap.toArray,args:=fst.toArray++c.args.map a.eval }::a.defers },.one (step_lone_go ?_),⟨rfl,A,trivial,Ext.refl _ _,z⟩,rfl,A2.cons ⟨_,_,rfl,by simpa using s⟩ E⟩;rw [stepGR_op v H,m,Oper.semAt_none];have d:=Frame.finish_atR b { a with defers:={ target:=.fn (.func (σ f)) cap.toArray,args:=fst.toArray++c.args.map a.eval }::a.defers } ops i rest k undef;rw [v]at d;simp only [asR]at d;rw [←d];simp [stepG.apply,Sem.runT_eq,l,Frame.atR]
  ·simp at g
 ·simp at g
theorem pC{o:Oper}{op:da}(d:dX Q σ o op=ae)(g:∀ x xs,op≠.defer x xs)(j:op≠.bad):∀ c,o.op≠.defer c:=by
 intro c b;cases op
 case pre o sz=>cases o<;>simp [dX,b]at d
 case defer x xs=>exact g _ _ rfl
 case bad=>exact j rfl
 all_goals simp [dX,b]at d
theorem F9(z:fm Q σ call)(g:SR Q σ X)(l:X.B≤X.w.heap.size){a:Act}{s s':St}(m:X.H=s.heap)(q:RR σ X s.az a.tmps)(u:fO σ X s.defs a.defers){o:Oper}{op:da}(j:dX Q σ o op=ae){v:V}
  (h:eX call s op=aa (v,s')):oM Q σ X o a (gH op) v s'.heap s'.defs∧s'.az=s.az:=by
 by_cases B:(∃ f xs h,op=.call f xs h)∨(∃ x xs h,op=.cr x xs h)∨op=.recover∨∃ x xs,op=.defer x xs
 ·rcases B with⟨f,xs,K,rfl⟩ | ⟨x,xs,K,rfl⟩ | rfl | ⟨x,xs,rfl⟩
  ·simp only [eX,IT,OF]at h;obtain⟨⟨F,H'⟩,d,rfl,rfl⟩:=h;refine⟨dh.acz ?_ u,rfl⟩;unfold gI at d;split at d
   ·exact AZ z g l q j (m▸d)
   ·have y:dm X.H H':=by
     have b:=d;unfold eC at b;split at b
     ·simp at b
     ·split at b
      ·simp at b
      ·split at b
       ·simp at b
       ·simp only [At,OF]at b;rw [←b.2,m];exact(na _ _ _).ext
    obtain⟨I,J⟩:=SR.ahead g y;refine dh.ahead g y ?_;exact A0 z (X:={ X with H:=H' }) I l (q.ext' σ J) j d (dm.refl _)
  ·simp only [eX]at h;split at h
   ·rename_i c args A;simp only [IT,OF]at h;obtain⟨⟨F,H'⟩,d,rfl,rfl⟩:=h;exact⟨dh.acz (Z6 z g l q j A (m▸d)) u,rfl⟩
   ·simp at h
  ·simp only [eX,At,OF]at h;obtain⟨rfl,rfl⟩:=h;rw [←m];exact⟨D6 g l j u,rfl⟩
  ·simp only [eX]at h;split at h
   ·rename_i f args A;simp only [At,OF]at h;obtain⟨rfl,rfl⟩:=h;refine⟨?_,rfl⟩;rw [←m];exact aai g l q j u A
   ·simp at h
 ·have E:(bo s.az s.heap op).map (fun r=>(r.1,{ s with heap:=r.2 }))=aa (v,s'):=by
   cases op<;>first | exact h | (exfalso;apply B;simp)
  simp only [IT,OF]at E;obtain⟨⟨F,H'⟩,d,rfl,rfl⟩:=E;refine⟨dh.acz (dh.apb (pC j ?_ ?_) (amX g l q j (m▸d))) u,rfl⟩
  ·rintro x xs rfl;exact B (.inr (.inr (.inr ⟨x,xs,rfl⟩)))
  ·rintro rfl;simp [bo]at d
end
section
variable{Q:Program}{σ:Nat→FuncId}{X:Wd}{call:cU}
structure Fr(Q:Program)(σ:Nat→FuncId)(n:Nat)(X:Wd)(s:St)(a:Act):Prop where
 heap:X.H=s.heap
 sr:SR Q σ X
 b:X.B≤X.w.heap.size
 az:RR σ X s.az a.tmps
 defs:fO σ X s.defs a.defers
 size:n≤a.tmps.size
theorem nm{n:Nat}{ops:Array Oper}{o:Oper}{m:aP}(F:ky Q σ n ops o m=ae){az:T}{tmps:Array Value}(I:∀ p w',m.g=aa (p,w')→VR σ X (az.get p) (tmps.getD p.toNat undef))(K:n≤tmps.size){w:Bool}(h:wanted az m.g=aa w) :
  Region.wanted o (yielded ops tmps)=w:=by
 simp only [ky,If]at F;obtain⟨_,b⟩:=F;unfold Region.wanted;cases x:o.guard with
 | none=>
  rw [x]at b;cases g:m.g with
  | none=>rw [g]at h;simp only [wanted,At]at h;simpa using h| some q=>rw [g]at b;simp at b
 | some L=>
  obtain⟨j,N⟩:=L;rw [x]at b;cases g:m.g with
  | none=>rw [g]at b;simp at b
  | some q=>
   obtain⟨p,w'⟩:=q;rw [g]at b h;simp only [If,beq_iff_eq]at b;obtain⟨rfl,b⟩:=b;split at b
   ·rename_i d J;simp only [If,beq_iff_eq,decide_eq_true_eq]at b;obtain⟨B,A⟩:=b;have l:=I p _ g;rw [B]at l;have v:d<tmps.size:=asJ A K;have s:tmps.getD d undef=tmps[d]:=by simp [Array.getD,v]
    rw [s]at l;simp only [wanted]at h;simp only [yielded,J,asR,Array.getElem?_eq_getElem v];split at h
    ·rename_i H z;rw [z]at l;simp only [At]at h;have y:cV σ X.F X.w (.bool H) tmps[d]:=l;generalize tmps[d]=u at y;cases y;subst h;simp
    ·rename_i z;rw [z]at l;obtain⟨us,E,M⟩:=l;simp only [At]at h;subst h;rw [E];simp
    ·simp at h
   ·simp at b
theorem abw{n:Nat}{ops:Array Oper}{o:Oper}{m:aP}(s:ky Q σ n ops o m=ae){az:T}{a:Act}(q:RR σ X az a.tmps)(x:n≤a.tmps.size){v:V}{u:Value}(y:VR σ X v u) :
  RR σ X (jy az m.dst v) (a.put o.dst u).tmps∧(a.put o.dst u).tmps.size=a.tmps.size∧(a.put o.dst u).defers=a.defers:=by
 simp only [ky,If]at s;obtain⟨⟨_,b⟩,_⟩:=s;split at b
 ·rename_i d p g j;simp only [If,beq_iff_eq,decide_eq_true_eq]at b;obtain⟨rfl,l⟩:=b;rw [g,j];exact⟨RR.set σ q (asJ l x) y,by simp [Act.put],rfl⟩
 ·rename_i g j;rw [g,j];exact⟨q,rfl,rfl⟩
 ·simp at b
theorem VR.undef:VR σ X (.t []) undef:=⟨[],rfl,A2.nil⟩
theorem acC(O:fm Q σ call){n:Nat}{s s':St}{a:Act}(d:Fr Q σ n X s a){ops:Array Oper}{o:Oper}{q:aP}(j:ky Q σ n ops o q=ae)(h:fJ call s q=aa s')
  {b:Frame} {i:Nat} {rest:List Nat} {k:List Item} {cs:List Frame} (y:ops[i]?=aa o) (S:ja b cs) (U:gH q.op b) :
  ∃ X' a',Steps Q (lone (b.atR a (.inRegion ops (i::rest)::k)) cs X.w) (lone (b.atR a' (.inRegion ops rest::k)) cs X'.w)∧Fr Q σ n X' s' a'∧Ext X.H.length X X'∧a'.tmps.size=a.tmps.size:=by
 unfold fJ at h;split at h
 ·rename_i g;have g:=nm j (fun p w' _=>d.az p) d.size g;split at h
  ·rename_i v W L;simp only [At]at h;subst h;have l:dX Q σ o q.op=ae:=by simp only [ky,If]at j;exact j.1.1
   obtain⟨M,N⟩:=F9 O d.sr d.b d.heap d.az d.defs l L;obtain⟨X',u,a',E,⟨F,H,I,B,J⟩,x,K⟩:=M b ops i rest k cs y g S U;obtain⟨z,m,A⟩:=abw j (X:=X') (a:=a') (by rw [x];exact d.az.ext' σ B) (by rw [x];exact d.size) I;refine⟨X',a'.put o.dst u,E,⟨F,H,J,?_,by rw [A];exact K,by rw [m,x];exact d.size⟩,B,by rw [m,x]⟩;simpa [N]using z
  ·simp at h
 ·rename_i g;have g:=nm j (fun p w' _=>d.az p) d.size g;simp only [At]at h;subst h;obtain⟨z,m,A⟩:=abw j d.az d.size (VR.undef (σ:=σ) (X:=X));refine⟨X,a.put o.dst undef,.one ?_,⟨d.heap,d.sr,d.b,z,by rw [A];exact d.defs,by rw [m];exact d.size⟩,Ext.refl _ _,m⟩;have:=stepR_op_skip (P:=Q) (b:=b) (a:=a) (k:=k) (cs:=cs) (w:=X.w) (ops:=ops) (i:=i) (rest:=rest) (by simp [y,g]);rw [y]at this;exact this
 ·simp at h
theorem Ga(H:fm Q σ call){n:Nat}{ops:Array Oper}{b:Frame}{k:List Item}{cs:List Frame}(I:ja b cs):∀(aos:List aP) (j:Nat) (X:Wd) (s s':St) (a:Act),Fr Q σ n X s a →
  fu (ky Q σ n ops) (ops.toList.drop j) aos=ae→(∀ ao ∈ aos,gH ao.op b)→fF call aos s=aa s' →
  ∃ X' a',Steps Q (lone (b.atR a (.inRegion ops ((List.range ops.size).drop j)::k)) cs X.w) (lone (b.atR a' k) cs X'.w)∧Fr Q σ n X' s' a'∧Ext X.H.length X X'∧a'.tmps.size=a.tmps.size
 | [],j,X,s,s',a,A,d,_,h=>by
  simp only [fF,At]at h;subst h;have S:(List.range ops.size).drop j=[]:=by
   cases g:ops.toList.drop j with
   | nil=>
    have:=auj.1 g;simp at this;rw [auj];simpa using this
   | cons x xs=>rw [g]at d;simp [fu]at d
  rw [S];exact⟨X,a,.one stepR_region_end,A,Ext.refl _ _,rfl⟩
 | ao::aos,j,X,s,s',a,A,d,J,h=>by
  cases g:ops.toList.drop j with
  | nil=>rw [g]at d;simp [fu]at d
  | cons o os=>
   rw [g]at d;simp only [fu,If]at d;have v:j<ops.toList.length:=by
    rcases asS j ops.toList.length with q | q
    ·exact q
    ·rw [auj.2 q]at g;simp at g
   have l:=arM v;rw [g]at l;simp only [List.cons.injEq]at l;obtain⟨U,F⟩:=l;simp only [fF]at h;split at h
   ·rename_i s1 q;have m:(List.range ops.size).drop j=j ::(List.range ops.size).drop (j+1):=by
     rw [arM (by simpa using v)];simp
    rw [m];obtain⟨y,a1,M,N,z,O⟩:=acC H A d.1 q (b:=b) (i:=j) (rest:=(List.range ops.size).drop (j+1)) (k:=k) (cs:=cs) (by simp at v;simp [v,U]) I (J _ (by simp));obtain⟨K,L,W,Y,Z,k4⟩:=Ga H I aos (j+1) y s1 s' a1 N (by rw [←F];exact d.2) (fun ao h=>J ao (by simp [h])) h;refine⟨K,L,M.trans W,Y,z.trans (Z.mono ?_),k4.trans O⟩;have:=z.cO;rcases asS y.H.length X.H.length with u | E
    ·obtain⟨blk',B,_⟩:=z.cO y.H.length u _ (By u);have:=(BY.1 B).1;omega
    ·exact E
   ·simp at h
end
theorem kg{r r':T}{x:Arg}(h:∀ p ∈ x.rd,r.get p=r'.get p):x.ev r=x.ev r':=by
 cases x with
 | r p=>exact h p (by simp [Arg.rd])
 | k v=>rfl
theorem O'{r r':T}{x:Option Arg}(h:∀ p ∈ oRd x,r.get p=r'.get p):x.map (·.ev r)=x.map (·.ev r'):=by
 cases x with
 | none=>rfl| some x=>simp only [asY];rw [kg h]
theorem gh{r r':T}{xs:List Arg}(h:∀ p ∈ xs.flatMap Arg.rd,r.get p=r'.get p):dz r xs=dz r' xs:=by
 unfold dz;refine List.map_congr_left fun x d=>kg fun p b=>h p (atE.2 ⟨x,d,b⟩)
theorem jc{r r':T}:∀(ps:List (Nat × Nat × Arg)) (cs:List C),(∀ p ∈ ps.flatMap (fun q=>q.2.2.rd),r.get p=r'.get p)→dN r cs ps=dN r' cs ps
 | [],cs,_=>rfl
 | (off,n,x)::ps,cs,h=>by
  simp only [dN];rw [kg (x:=x) (r:=r) (r':=r') fun p b=>h p (by simp [b])];split
  ·split
   ·exact jc ps _ fun p b=>h p (by simp only [List.flatMap_cons,asw];exact .inr b)
   ·rfl
  ·rfl
theorem El{r r':T}{H:aj}{op:da}(h:∀ p ∈ op.rd,r.get p=r'.get p):bo r H op=bo r' H op:=by
 have e:∀ x:Arg,(∀ p ∈ x.rd,p ∈ op.rd)→x.ev r=x.ev r':=fun x A=>kg fun p d=>h p (A p d);have g:∀ x:Option Arg,(∀ p ∈ oRd x,p ∈ op.rd)→x.map (·.ev r)=x.map (·.ev r'):=fun x A=>O' fun p d=>h p (A p d);cases op
 case build zs ps=>simp only [bo];rw [jc ps _ h]
 case bP sz zs n ps=>
  simp only [bo];rw [jc (r:=r) (r':=r') (ps.map fun p=>(p.1*sz,sz,p.2)) _ fun p d=>h p (by
   simp only [atE,asH]at d;obtain⟨q,⟨q',j,rfl⟩,u⟩:=d;exact atE.2 ⟨q',j,u⟩)]
 case fL sz zs n ps=>
  simp only [bo];rw [jc (r:=r) (r':=r') (ps.map fun p=>(p.1*sz,sz,p.2)) _ fun p d=>h p (by
   simp only [atE,asH]at d;obtain⟨q,⟨q',j,rfl⟩,u⟩:=d;exact atE.2 ⟨q',j,u⟩)]
 case fQ f xs=>simp only [bo];rw [gh h]
 case pick c a b=>
  simp only [bo];rw [e c (by simp +contextual [da.rd])];split
  ·rename_i v _;cases v<;>simp [e a (by simp +contextual [da.rd]),e b (by simp +contextual [da.rd])]
  ·rfl
 case slice sz x lo hi mx=>simp only [bo];rw [e x (by simp +contextual [da.rd]),g lo (by simp +contextual [da.rd]),g hi (by simp +contextual [da.rd]),g mx (by simp +contextual [da.rd])]
 case mF n sz x lo hi mx=>simp only [bo];rw [e x (by simp +contextual [da.rd]),g lo (by simp +contextual [da.rd]),g hi (by simp +contextual [da.rd]),g mx (by simp +contextual [da.rd])]
 case nT x lo hi=>simp only [bo];rw [e x (by simp +contextual [da.rd]),g lo (by simp +contextual [da.rd]),g hi (by simp +contextual [da.rd])]
 case iQ B m k v=>simp only [bo];rw [e m (by simp +contextual [da.rd]),e k (by simp +contextual [da.rd]),e v (by simp +contextual [da.rd])]
 case a7 x=>simp only [bo];rw [e x (by simp +contextual [da.rd])]
 case box x=>simp only [bo];rw [e x (by simp +contextual [da.rd])]
 case load n x=>simp only [bo];rw [e x (by simp +contextual [da.rd])]
 case cq x=>simp only [bo];rw [e x (by simp +contextual [da.rd])]
 case un o x=>simp only [bo];rw [e x (by simp +contextual [da.rd])]
 case fP k x=>simp only [bo];rw [e x (by simp +contextual [da.rd])]
 case wJ x=>simp only [bo];rw [e x (by simp +contextual [da.rd])]
 case wI x=>simp only [bo];rw [e x (by simp +contextual [da.rd])]
 case Db x=>simp only [bo];rw [e x (by simp +contextual [da.rd])]
 case aR o x=>simp only [bo];rw [e x (by simp +contextual [da.rd])]
 case field o n x=>simp only [bo];rw [e x (by simp +contextual [da.rd])]
 case range x=>simp only [bo];rw [e x (by simp +contextual [da.rd])]
 case next x=>simp only [bo];rw [e x (by simp +contextual [da.rd])]
 case extract x i=>simp only [bo];rw [e x (by simp +contextual [da.rd])]
 case len x=>simp only [bo];rw [e x (by simp +contextual [da.rd])]
 case lens x=>simp only [bo];rw [e x (by simp +contextual [da.rd])]
 case cap x=>simp only [bo];rw [e x (by simp +contextual [da.rd])]
 case entry x=>simp only [bo];rw [e x (by simp +contextual [da.rd])]
 case jZ x=>simp only [bo];rw [e x (by simp +contextual [da.rd])]
 case nR x=>simp only [bo];rw [e x (by simp +contextual [da.rd])]
 case clear s z x=>simp only [bo];rw [e x (by simp +contextual [da.rd])]
 case gG lo xs=>simp only [bo];rw [gh h]
 case mq f xs=>simp only [bo];rw [gh h]
 case vV s x y z=>simp only [bo];rw [e x (by simp +contextual [da.rd]),e y (by simp +contextual [da.rd]),e z (by simp +contextual [da.rd])]
 case kQ s b z x y=>simp only [bo];rw [e x (by simp +contextual [da.rd]),e y (by simp +contextual [da.rd])]
 case store n x y=>simp only [bo];rw [e x (by simp +contextual [da.rd]),e y (by simp +contextual [da.rd])]
 case bin o x y=>simp only [bo];rw [e x (by simp +contextual [da.rd]),e y (by simp +contextual [da.rd])]
 case eq n k x y=>simp only [bo];rw [e x (by simp +contextual [da.rd]),e y (by simp +contextual [da.rd])]
 case bM s a x y=>simp only [bo];rw [e x (by simp +contextual [da.rd]),e y (by simp +contextual [da.rd])]
 case idxs x y=>simp only [bo];rw [e x (by simp +contextual [da.rd]),e y (by simp +contextual [da.rd])]
 case wL l s n x y=>simp only [bo];rw [e x (by simp +contextual [da.rd]),e y (by simp +contextual [da.rd])]
 case append s b x y=>simp only [bo];rw [e x (by simp +contextual [da.rd]),e y (by simp +contextual [da.rd])]
 case copy s x y=>simp only [bo];rw [e x (by simp +contextual [da.rd]),e y (by simp +contextual [da.rd])]
 case lookup c z x y=>simp only [bo];rw [e x (by simp +contextual [da.rd]),e y (by simp +contextual [da.rd])]
 case dZ s b z x y=>simp only [bo];rw [e x (by simp +contextual [da.rd]),e y (by simp +contextual [da.rd])]
 all_goals rfl
theorem F'{call:cU}{s:St}{r':T}{op:da}(h:∀ p ∈ op.rd,s.az.get p=r'.get p){v:V}{s':St}(b:eX call s op=aa (v,s')):eX call { s with az:=r' } op=aa (v,{ s' with az:=r' }):=by
 by_cases d:(∃ f xs h,op=.call f xs h)∨(∃ x xs h,op=.cr x xs h)∨op=.recover∨∃ x xs,op=.defer x xs
 ·rcases d with⟨f,xs,m,rfl⟩ | ⟨x,xs,m,rfl⟩ | rfl | ⟨x,xs,rfl⟩
  ·simp only [eX,IT,OF]at b ⊢;obtain⟨q,g,rfl,rfl⟩:=b;rw [gh h]at g;exact⟨q,g,rfl,rfl⟩
  ·simp only [eX]at b ⊢;rw [kg (x:=x) (r:=s.az) (r':=r') (fun p d=>h p (by simp [da.rd,d])),gh (xs:=xs) (r:=s.az) (r':=r') (fun p d=>h p (by simp only [da.rd,asw];exact .inr d))]at b;split at b
   ·simp only [IT,OF]at b ⊢;obtain⟨q,g,rfl,rfl⟩:=b;exact⟨q,g,rfl,rfl⟩
   ·simp at b
  ·simp only [eX,At,OF]at b ⊢;obtain⟨rfl,rfl⟩:=b;exact⟨rfl,rfl⟩
  ·simp only [eX]at b ⊢;rw [kg (x:=x) (r:=s.az) (r':=r') (fun p d=>h p (by simp [da.rd,d])),gh (xs:=xs) (r:=s.az) (r':=r') (fun p d=>h p (by simp only [da.rd,asw];exact .inr d))]at b;split at b
   ·simp only [At,OF]at b ⊢;obtain⟨rfl,rfl⟩:=b;exact⟨rfl,rfl⟩
   ·simp at b
 ·have j:(bo s.az s.heap op).map (fun r=>(r.1,{ s with heap:=r.2 }))=aa (v,s'):=by
   cases op<;>first | exact b | (exfalso;apply d;simp)
  have l:eX call { s with az:=r' } op=(bo r' s.heap op).map (fun r=>(r.1,{ s with az:=r',heap:=r.2 })):=by
   cases op<;>first | rfl | (exfalso;apply d;simp)
  rw [l,←El h];simp only [IT,OF]at j ⊢;obtain⟨q,g,rfl,rfl⟩:=j;exact⟨q,g,rfl,rfl⟩
theorem ajF{r:T}{op:da}(b:cls op=.p)(H H':aj):bo r H' op=(bo r H op).map fun q=>(q.1,H'):=by
 cases op<;>simp only [cls,reduceCtorEq]at b<;>simp only [bo]
 all_goals first
  | (simp [Function.comp_def];done)
  | (split<;>simp [Function.comp_def];done)
  | (split<;>(first | rfl | (split<;>rfl)))
section
theorem fv{H H':aj}(l:dm H H')(b:Nat):H[b]?=ab∨(∃ cs fl g,H[b]?=aa (.box cs fl)∧H'[b]?=aa (.box cs g)) ∨
  (∃ s cs fl g e st,H[b]?=aa (.cj s cs fl e st)∧H'[b]?=aa (.cj s cs g e st))∨∃ bj,H[b]?=aa bj∧H'[b]?=aa bj:=by
 cases m:H[b]? with
 | none=>exact .inl rfl
 | some bj=>
  obtain⟨blk',d,j⟩:=l b _ m;cases bj<;>cases blk'<;>simp only [dt,reduceCtorEq]at j
  ·obtain⟨rfl,_⟩:=j;exact .inr (.inl ⟨_,_,_,rfl,d⟩)
  ·obtain⟨rfl,rfl,_,rfl,rfl⟩:=j;exact .inr (.inr (.inl ⟨_,_,_,_,_,_,rfl,d⟩))
  all_goals (rw [←j]at d;exact .inr (.inr (.inr ⟨_,rfl,d⟩)))
variable{H H':aj}
theorem A4(j:dm H H'){x:C}{cs:List C}(h:aE H x=aa cs):aE H' x=aa cs:=by
 cases x with
 | ptr b off ep=>
  simp only [aE]at h ⊢;rcases fv j b with e | ⟨cs,fl,g,e,d⟩ | ⟨s,cs,fl,g,l,st,e,d⟩ | ⟨bj,e,d⟩
  ·simp [e]at h
  ·rw [e]at h;rw [d];exact h
  ·rw [e]at h;rw [d];cases st<;>exact h
  ·rw [e]at h;rw [d];exact h
 | f x=>cases x<;>exact h
 | _=>simp [aE]at h
theorem ahM(g:dm H H'){n:Option Nat}{x:V}{v:V}(h:aS H n x=aa v):aS H' n x=aa v:=by
 cases x with
 | c x=>
  simp only [aS,Option.bind_eq_some_iff]at h ⊢;obtain⟨cs,b,d⟩:=h;exact⟨cs,A4 g b,d⟩
 | _=>simp [aS]at h
theorem yz(j:dm H H'){x:C}{n:Nat}(h:bt H x=aa n):bt H' x=aa n:=by
 cases x with
 | sl b o l c ep sz=>
  simp only [bt]at h ⊢;rcases fv j b with e | ⟨cs,fl,g,e,d⟩ | ⟨s,cs,fl,g,m,st,e,d⟩ | ⟨bj,e,d⟩
  ·simp [e]at h
  all_goals (rw [e]at h;rw [d];exact h)
 | f x=>cases x<;>exact h
 | _=>simp [bt]at h
theorem Ce(j:dm H H'){sz:Nat}{x:C}{cs:List C}(h:cS H sz x=aa cs):cS H' sz x=aa cs:=by
 cases x with
 | sl b o l c ep s=>
  simp only [cS]at h ⊢;rcases fv j b with e | ⟨cs,fl,g,e,d⟩ | ⟨s,cs,fl,g,m,st,e,d⟩ | ⟨bj,e,d⟩
  ·simp [e]at h
  all_goals (rw [e]at h;rw [d];exact h)
 | f x=>cases x<;>exact h
 | _=>simp [cS]at h
theorem mY(j:dm H H'){k:EI}{x:C}{b:Bool}(h:isNil H k x=aa b):isNil H' k x=aa b:=by
 cases k<;>cases x<;>first | exact h | (simp [isNil]at h;done) | skip
 case sl.sl bb o l c ep s=>
  simp only [isNil]at h ⊢;rcases fv j bb with e | ⟨cs,fl,g,e,d⟩ | ⟨s,cs,fl,g,m,st,e,d⟩ | ⟨bj,e,d⟩
  ·simp [e]at h
  all_goals (rw [e]at h;rw [d];exact h)
 all_goals (rename_i y;cases y<;>exact h)
theorem ahl(d:dm H H'){k:EI}{x y:V}{b:Bool}(h:CC H k x y=aa b):CC H' k x y=aa b:=by
 unfold CC at h;split at h
 ·exact h
 ·exact h
 ·exact mY d h
 ·exact mY d h
 ·exact mY d h
 ·exact mY d h
 ·simp at h
theorem Ee(j:dm H H'){sz:Nat}{x:V}{lo hi mx:Option V}{v:V}(h:eQ H sz x lo hi mx=aa v):eQ H' sz x lo hi mx=aa v:=by
 unfold eQ at h;split at h
 ·exact h
 ·exact h
 ·exact h
 ·rename_i b o n cap ep s;simp only [eQ];rcases fv j b with e | ⟨cs,fl,g,e,d⟩ | ⟨s,cs,fl,g,l,st,e,d⟩ | ⟨bj,e,d⟩
  ·simp [e]at h
  all_goals (rw [e]at h;rw [d];exact h)
 ·simp at h
theorem Ec(j:dm H H'){n sz:Nat}{x:V}{lo hi mx:Option V}{v:V}(h:ka H n sz x lo hi mx=aa v):ka H' n sz x lo hi mx=aa v:=by
 unfold ka at h;split at h
 ·rename_i b off ep;simp only [ka];rcases fv j b with e | ⟨cs,fl,g,e,d⟩ | ⟨s,cs,fl,g,l,st,e,d⟩ | ⟨bj,e,d⟩
  ·simp [e]at h
  all_goals (rw [e]at h;rw [d];exact h)
 ·exact h
 ·simp at h
theorem Bq(m:dm H H'){sz:Nat}{d:Option Nat}{x i:V}{v:V}(h:bA H sz d x i=aa v):bA H' sz d x i=aa v:=by
 unfold bA at h ⊢;split at h
 ·simp at h
 ·split at h
  ·rename_i hi;simp only [hi,if_true];split at h
   ·rename_i b o l c ep s;split at h
    ·rename_i q;simp only [q,if_true];rcases fv m b with e | ⟨cs,fl,j,e,g⟩ | ⟨s,cs,fl,j,u,st,e,g⟩ | ⟨bj,e,g⟩
     ·simp [e]at h
     ·rw [e]at h;rw [g];exact h
     ·rw [e]at h;rw [g];cases st<;>exact h
     ·rw [e]at h;rw [g];exact h
    ·simp at h
   ·exact h
   ·exact h
   ·exact h
   ·simp at h
  ·simp at h
theorem Bz(l:dm H H'){j:CK}{z:FC}{m k:V}{v:V}(h:fV H j z m k=aa v):fV H' j z m k=aa v:=by
 unfold fV at h;split at h
 ·exact h
 ·rename_i b k;simp only [fV];rcases fv l b with e | ⟨cs,fl,g,e,d⟩ | ⟨s,cs,fl,g,q,st,e,d⟩ | ⟨bj,e,d⟩
  ·simp [e]at h
  all_goals (rw [e]at h;rw [d];exact h)
 ·simp at h
theorem Oq(d:dm H H'){x v:V}(h:nO H x=aa v):nO H' x=aa v:=by
 cases x with
 | c x=>
  simp only [nO]at h ⊢;split at h
  ·rename_i n g;split at h
   ·rename_i cs b;rw [yz d g,Ce d b];exact h
   ·simp at h
  ·simp at h
 | _=>simp [nO]at h
theorem Pt(j:dm H H'){x:C}{n:Nat}(h:iS H x=aa n):iS H' x=aa n:=by
 cases x with
 | sl b o l c ep sz=>
  simp only [iS]at h ⊢;rcases fv j b with e | ⟨cs,fl,g,e,d⟩ | ⟨s,cs,fl,g,m,st,e,d⟩ | ⟨bj,e,d⟩
  ·simp [e]at h
  ·rw [e]at h;rw [d];exact h
  ·rw [e]at h;rw [d];cases st<;>exact h
  ·rw [e]at h;rw [d];exact h
 | f x=>cases x<;>exact h
 | _=>simp [iS]at h
theorem ahT(l:dm H H'){b:Nat}{d:List (FC × C)}(h:H[b]?=aa (.map d)):H'[b]?=aa (.map d):=by
 obtain⟨blk',j,g⟩:=l b _ h;cases blk'<;>simp only [dt,reduceCtorEq,bq.map.injEq]at g;subst g;exact j
theorem ahW(l:dm H H'){b m s:Nat}{d:Bool}(h:H[b]?=aa (.wC m s d)):H'[b]?=aa (.wC m s d):=by
 obtain⟨blk',j,g⟩:=l b _ h;cases blk'<;>simp only [dt,reduceCtorEq,bq.wC.injEq]at g;obtain⟨rfl,rfl,rfl⟩:=g;exact j
theorem Dd(b:dm H H'){x v:V}(h:kS H x=aa v):kS H' x=aa v:=by
 unfold kS at h;split at h
 ·split at h
  ·rename_i d;split at h
   ·rename_i g;simp only [kS,ahW b d,ahT b g];exact h
   ·simp at h
  ·simp at h
 ·simp at h
theorem F_{r:T}{op:da}(l:cls op=.r)(b:dm H H'){v:V}{j:aj}(h:bo r H op=aa (v,j)):j=H∧bo r H' op=aa (v,H'):=by
 cases op<;>first | (simp only [bo,reduceCtorEq]at h;done) | (simp only [cls,reduceCtorEq]at l;done) | simp only [bo]at h ⊢
 case len x=>
  split at h
  ·rename_i y m;split at h
   ·rename_i n g;simp only [At,OF]at h;obtain⟨rfl,rfl⟩:=h;simp only [yz b g];simp
   ·simp at h
  ·simp at h
 case cap x=>
  split at h
  ·rename_i y m;split at h
   ·rename_i n g;simp only [At,OF]at h;obtain⟨rfl,rfl⟩:=h;simp only [Pt b g];simp
   ·simp at h
  ·simp at h
 all_goals
  simp only [IT,OF]at h;obtain⟨q,d,rfl,rfl⟩:=h;refine⟨rfl,?_⟩
 case entry=>rw [Dd b d];rfl
 case load=>rw [ahM b d];rfl
 case eq=>rw [ahl b d];rfl
 case slice=>rw [Ee b d];rfl
 case mF=>rw [Ec b d];rfl
 case bM=>rw [Bq b d];rfl
 case lookup=>rw [Bz b d];rfl
 case wI=>rw [Oq b d];rfl
theorem apI{r:T}{op:da}(g:cls op=.a){v:V}{d:aj}(h:bo r H op=aa (v,d)):d=H∨∃ bj,d=H++[bj]:=by
 cases op<;>first | (simp only [cls,reduceCtorEq]at g;done) | simp only [bo]at h
 case call=>simp at h
 case alloc zs=>simp only [At,OF]at h;exact .inr ⟨_,h.2.symm⟩
 case jx=>simp only [At,OF]at h;exact .inr ⟨_,h.2.symm⟩
 case box x=>
  split at h
  ·simp only [At,OF]at h;exact .inr ⟨_,h.2.symm⟩
  ·simp at h
 case bP sz zs n ps=>
  split at h
  ·split at h
   ·simp only [At,OF]at h;exact .inl h.2.symm
   ·simp at h
  ·simp only [IT,OF]at h;obtain⟨q,j,rfl,rfl⟩:=h;exact .inr ⟨_,rfl⟩
 case dZ sz b zs x y=>
  split at h
  ·split at h
   ·split at h
    ·simp only [At,OF]at h;exact .inl h.2.symm
    ·simp only [At,OF]at h;exact .inr ⟨_,h.2.symm⟩
   ·simp at h
  ·simp at h
end
section
variable{Q:Program}{σ:Nat→FuncId}{X:Wd}
theorem E8(d:SR Q σ X)(l:X.B≤X.w.heap.size){n:Nat}{cs:List C}{fl:Nat}(s:X.H[n]?=aa (.box cs fl))(u:X.cD n=ab){us:List Value}(h:A2 (CR σ X) cs us)(e:TypeId) :
  ∃ X',X'.w=X.w.alloc (.cells us.toArray e)∧X'.H=X.H∧SR Q σ X'∧Ext X.H.length X X'∧X'.cD n=aa ⟨X.w.heap.size,0⟩∧X'.B≤X'.w.heap.size∧∀ b,b≠n→X'.cD b=X.cD b:=by
 obtain⟨g,j⟩:=SR.fill d l s u (ed.alloc X.w (.cells us.toArray e)) 0 (fun v=>⟨us,jj (ed.alloc _ _),A2.ext' σ v h,fun i _ q=>by
  have:=d.fb _ _ q;simp at this⟩)
 exact⟨{ X with cD:=fun b=>if b=n then aa ⟨X.w.heap.size,0⟩else X.cD b,w:=X.w.alloc (.cells us.toArray e) },rfl,rfl,g,j,by simp,by simp;omega,fun b m=>by simp [m]⟩
def CT(Q:Program)(σ:Nat→FuncId)(X:Wd)(n:Nat)(v:V)(s:Sem Next)(e:Prop):Prop:=
 ∃ X' u,s.run Q X.w=.ok (.value u) X'.w∧fh Q σ X v X.H X' u∧(∀ b,b≠n→X'.cD b=X.cD b)∧(e→X'.cD=X.cD)
theorem Be(y:SR Q σ X)(x:X.B≤X.w.heap.size){n:Nat}{cs:List C}{fl:Nat}(g:X.H[n]?=aa (.box cs fl))(A:X.cD n=ab){us:List Value}(h:A2 (CR σ X) cs us)(e:TypeId){s:Sem Next}{b:Prop}(z:¬ b)
  (B:s.run Q X.w=.ok (.value (.pointer (aa ⟨X.w.heap.size,0,ab⟩))) (X.w.alloc (.cells us.toArray e))):CT Q σ X n (.c (.ptr n 0 0)) s b:=by
 obtain⟨X',j,d,l,m,q,u,v⟩:=E8 y x g A h e;refine⟨X',_,by rw [j];exact B,⟨d,l,?_,m,u⟩,v,fun h=>absurd h z⟩;exact⟨_,q,by rw [d,g]⟩
theorem E9(A:SR Q σ X)(z:X.B≤X.w.heap.size){n:Nat}{cs:List C}{fl:Nat}(j:X.H[n]?=aa (.box cs fl))(E:X.cD n=ab){us:List Value}(h:A2 (CR σ X) cs us)(e:TypeId){s:Sem Next}{l c sz:Nat}(b:l≤c){d:Prop}(B:¬ d)
  (F:s.run Q X.w=.ok (.value (.slice (aa ⟨X.w.heap.size,0,ab⟩) l c)) (X.w.alloc (.cells us.toArray e))):CT Q σ X n (.c (.sl n 0 l c 0 sz)) s d:=by
 obtain⟨X',m,g,q,u,v,x,y⟩:=E8 A z j E h e;refine⟨X',_,by rw [m];exact F,⟨g,q,?_,u,x⟩,y,fun h=>absurd h B⟩;simp only [VR,gR,CR,ft,g,j];exact⟨_,v,b,rfl⟩
theorem pj{H b:aj}{cs:List C}(h:dm (H++[.box cs 0]) b):∃ fl,b[H.length]?=aa (.box cs fl):=by
 obtain⟨blk',g,d⟩:=h H.length (.box cs 0) (by simp);cases blk'<;>simp only [dt,reduceCtorEq]at d;obtain⟨rfl,_⟩:=d;exact⟨_,g⟩
theorem Cd{w':World}{o:Obj}(g:SR Q σ X)(d:ed X.w w' o)(q:X.B≤X.w.heap.size):∃ X':Wd,X'.w=w'∧X'.H=X.H∧SR Q σ X'∧Ext X.H.length X X'∧X'.B≤X'.w.heap.size∧X'.cD=X.cD:=by
 have j:Ext X.H.length X { X with w:=w' }:=Ext.one g X.H.length rfl (fun _ _=>Iff.rfl) (fun k m _=>d.CD m)
  (fun L i h=>by rw [SR.qY g]at h;simp at h) (fun h=>absurd h (at4 _)) (fun _ _ _=>rfl) (fun _ _=>rfl) (fun L h=>.inl ⟨L,h,rfl⟩) (by show _≤w'.heap.size;rw [d.size];omega) d.os d.tape d.output
 refine⟨{ X with w:=w' },rfl,rfl,SR.step Q σ g j X.H.length (fun _ _=>rfl) (fun _ _=>rfl) (fun b L _ l=>d.CD (g.br b L l).2.1)
  (fun _ _ _ _ _ h=>h) (fun L h=>by change X.cD X.H.length=aa L at h;rw [SR.qY g]at h;simp at h) (fun c i h=>?_),j,?_,rfl⟩
 ·have:=g.fb c i h;show c<w'.heap.size;rw [d.size];omega
 ·show X.B≤w'.heap.size;rw [d.size];omega
theorem ahK(M:SR Q σ X)(L:X.B≤X.w.heap.size){a:Act}{az:T}(hR:RR σ X az a.tmps){o:Oper}{op:da}(hc:cls op=.a)(d:dX Q σ o op=ae){H H1:aj}{v:V}(h:bo az H op=aa (v,H1))
  (hH:dm H1 X.H) (W:H1.length≠H.length→X.cD H.length=ab):CT Q σ X H.length v (execOp a.eval o) (H1.length=H.length):=by
 cases op<;>first | (simp only [cls,reduceCtorEq]at hc;done) | skip
 case call f xs h'=>simp [bo]at h
 case alloc zs=>
  simp only [bo,At,OF]at h;obtain⟨rfl,rfl⟩:=h;obtain⟨fl,F⟩:=pj hH;simp only [dX]at d;split at d
  ·rename_i t B;obtain⟨z,us,h1,K,h3,_⟩:=eV (σ:=σ) (X:=X) d X.w;refine Be M L F (W (by simp)) h3 t (by simp) ?_;simp only [execOp,B];refine eu ?_;simp [Instr.alloc,h1,newVar,newRow,K]
  ·simp at d
 case jx=>
  simp only [bo,At,OF]at h;obtain⟨rfl,rfl⟩:=h;have F:X.H[H.length]?=aa (.map []):=by
   obtain⟨blk',hb,hl⟩:=hH H.length (.map []) (by simp);cases blk'<;>simp only [dt,reduceCtorEq,bq.map.injEq]at hl;subst hl;exact hb
  simp only [dX]at d;split at d
  ·rename_i t B;have W:=W (by simp);obtain⟨h1,K⟩:=SR.fill M L F W (ed.alloc X.w (.map #[] 0)) 0 (fun hx=>⟨[],(ed.alloc _ _).new,A2.nil,by simp⟩);refine⟨{ X with cD:=fun b=>if b=H.length then aa ⟨X.w.heap.size,0⟩else X.cD b,w:=X.w.alloc (.map #[] 0) },.map (aa X.w.heap.size),?_,⟨rfl,h1,⟨⟨X.w.heap.size,0⟩,by simp,⟨[],F⟩,rfl⟩,K,by show X.B≤_;simp;omega⟩,fun b hb=>by simp [hb],fun h=>by simp at h⟩;simp [execOp,B,Instr.makeMap]
  ·simp at d
 case box x=>
  simp only [bo]at h;split at h
  ·rename_i xs i5;simp only [At,OF]at h;obtain⟨rfl,rfl⟩:=h;obtain⟨fl,F⟩:=pj hH;simp only [dX]at d;split at d
   ·rename_i t y B;obtain⟨us,K,h3⟩:=oS (bX hR d) i5;refine Be M L F (W (by simp)) h3 t (by simp) ?_;simp only [execOp,B];refine eu ?_;simp [Instr.box,newVar,newRow,K]
   ·simp at d
  ·simp at h
 case bP sz zs n ps=>
  simp only [dX]at d;split at d
  ·rename_i t n' qs B;simp only [If,beq_iff_eq,decide_eq_true_eq]at d;obtain⟨⟨⟨⟨rfl,s⟩,E⟩,i_⟩,hq⟩:=d;obtain⟨e,hu,E⟩:=iq E;simp only [If,decide_eq_true_eq]at E;obtain⟨⟨j,hz⟩,i7⟩:=E;obtain⟨z,us,Y,Z,A,_⟩:=eV (σ:=σ) (X:=X) hz X.w;have I:us.length=sz:=by have:=A.len;simp at this;omega
   simp only [bo]at h;split at h
   ·rename_i F;subst F;split at h
    ·rename_i c_;simp only [At,OF]at h;obtain⟨rfl,rfl⟩:=h;have U:qs.toList=[]:=by
      have:=(eM hq).len;simp only [List.isEmpty_iff]at c_;rw [c_]at this;exact asl this.symm
     have U:qs=#[]:=by apply Array.ext';simpa using U
     obtain⟨X',h1,K,h3,h4,h5,h6⟩:=Cd M (ed.alloc X.w (.cells #[] e)) L;refine⟨X',.slice (aa ⟨X.w.heap.size,0,ab⟩) 0 0,?_,⟨K,h3,cV.es _,h4,h5⟩,fun b _=>by rw [h6],fun _=>h6⟩;rw [h1];simp only [execOp,B];refine eu ?_;simp [Instr.buildSlice,aZ hu,dk j,U,Instr.fill,newRow,show Array.range 0=(#[]:Array Nat) from rfl]
    ·simp at h
   ·rename_i F;simp only [IT,OF]at h;obtain⟨cs,f_,rfl,rfl⟩:=h;obtain⟨fl,O⟩:=pj hH;obtain⟨j9,h5,h6⟩:=mW (place:=fun i=>aa (i*sz,sz)) (ps:=qs.toList) hR (qs:=ps.map fun p=>(p.1*sz,sz,p.2)) (A2.map ((eM hq).kI fun q p S=>by
     simp only [If,beq_iff_eq]at S;exact⟨by rw [S.1],S.2⟩)) (jC A n') f_
    refine E9 M L O (W (by simp)) h6 e (aft _) (by simp) ?_;simp only [execOp,B];refine eu ?_;have g_:n'*sz≠0:=by
     intro h0;rcases at7.1 h0 with h0 | h0<;>omega
    have f7:=iG us n' (by omega);rw [I]at f7;simp only [Instr.buildSlice,Sem.run_bind,aZ hu,dk j,Result.andThen_ok,aX (show¬ n'*sz>2 ^ 24 by omega),Sem.run_ite,aX g_,Y,Sem.run_pure,Z];simp only [Array.toList_map];rw [f7];simp [h5,newRow]
  ·simp at d
 case dZ sz bytes zs x y=>
  simp only [dX]at d;split at d
  ·rename_i t x' y' B;simp only [If,decide_eq_true_eq]at d;obtain⟨⟨⟨hx,hy⟩,E⟩,i9⟩:=d;have hx:=bX hR hx;have hy:=bX hR hy;obtain⟨e,hu,E⟩:=iq E;simp only [If]at E;obtain⟨⟨j,f8⟩,hz⟩:=E;obtain⟨z,us,Y,Z,A,j8,j5,j6⟩:=eV (σ:=σ) (X:=X) hz X.w;obtain⟨j4,a8,a_⟩:=zI f8 X.w;simp only [bo]at h;split at h
   ·rename_i l c hl hc;obtain⟨kl,i4⟩:=i' hx hl;obtain⟨kc,i6⟩:=i' hy hc;split at h
    ·rename_i N;obtain⟨h0,j7,u,i7⟩:=N;unfold bY at u;simp only [If,decide_eq_true_eq]at u;have I:us.length=sz:=by have:=A.len;simp at this;omega
     have e_:=wrap_small (n:=l) h0 (by omega);have d_:=wrap_small (n:=c) (by omega) (by omega);have i8:c.toNat*bytes≤2 ^ 48:=by
      have:c.toNat*bytes≤(2*c.toNat+768)*bytes:=asW _ (by omega);omega
     have s:¬ ((bytes:Int)*c>2 ^ 48):=by
      have e1:(bytes:Int)*c=((c.toNat*bytes:Nat):Int):=by
       rw [atT,atK];congr 1;omega
      rw [e1];omega
     have d9:((Array.range (c.toNat*sz)).map fun i=>us.toArray[i % us.toArray.size]!)=(cG c.toNat us).toArray:=by
      have:=iG us c.toNat (by omega);rwa [I]at this
     have run:(execOp a.eval o).run Q X.w=.ok (.value (.slice (aa ⟨X.w.heap.size,0,ab⟩) l.toNat c.toNat)) (X.w.alloc (.cells (cG c.toNat us).toArray e)):=by
      simp only [execOp,B];refine eu ?_;rw [i4,i6];have b9:¬ c<0:=by omega
      have b_:¬ l<0:=by omega
      have J:¬ l>c:=by omega
      by_cases m:c.toNat*sz=0
      ·have h_:cG c.toNat us=[]:=asl (by rw [kE,I];exact m);have g:((decide (c<0)||decide ((bytes:Int)*c>2 ^ 48))||decide (l<0)||decide (l>c))=ag:=by rw [decide_eq_false b9,decide_eq_false b_,decide_eq_false J,decide_eq_false s];rfl
       simp only [Instr.makeSlice,Sem.run_bind,aZ hu,asInt,asIntOf,Sem.run_pure,Result.andThen_ok,a8,a_,e_,d_,run_askRoom,dk j];simp only [g,aso,if_false,Sem.run_ite,ba m,Sem.run_bind,Result.andThen_ok,Sem.run_pure,run_askRoom,dk j,newRow,run_newObj];rw [m,h_,show(Array.map (fun x=>(#[]:Array Value)[x % (#[]:Array Value).size]!) (Array.range 0))=#[] from by simp [show Array.range 0=(#[]:Array Nat) from rfl]];rfl
      ·simp only [Instr.makeSlice,Sem.run_bind,aZ hu,asInt,asIntOf,Sem.run_pure,Result.andThen_ok,a8,a_,e_,d_,run_askRoom,dk j];have g:((decide (c<0)||decide ((bytes:Int)*c>2 ^ 48))||decide (l<0)||decide (l>c))=ag:=by rw [decide_eq_false b9,decide_eq_false b_,decide_eq_false J,decide_eq_false s];rfl
       simp only [g,aso,if_false,Sem.run_ite,aX m,Sem.run_bind,Y,Z,Result.andThen_ok,Sem.run_pure,run_askRoom,dk j,d9,newRow,run_newObj];rfl
     split at h
     ·rename_i m;subst m;simp only [At,OF]at h;obtain⟨rfl,rfl⟩:=h;have:l=0:=by omega
      subst this;obtain⟨X',g1,g2,g3,g4,g5,g6⟩:=Cd M (ed.alloc X.w (.cells (cG (0:Int).toNat us).toArray e)) L;exact⟨X',_,by rw [g1];exact run,⟨g2,g3,cV.es _,g4,g5⟩,fun b _=>by rw [g6],fun _=>g6⟩
     ·simp only [At,OF]at h;obtain⟨rfl,rfl⟩:=h;obtain⟨fl,O⟩:=pj hH;exact E9 M L O (W (by simp)) (jC A c.toNat) e (by omega) (by simp) run
    ·simp at h
   ·simp at h
  ·simp at d
end
theorem DH{acc:List Nat}{o:Oper}{i:Nat}:(mn acc o).testBit i=ae↔∃ e ∈ o.after.toList,Region.binds .any e=ae∧(e.on=i∨(acc.getD e.on 0).testBit i=ae):=by
 unfold mn;have key:∀(l:List Edge) (s:Nat),(l.foldl (fun s e=>if Region.binds .any e then s ||| 2 ^ e.on ||| acc.getD e.on 0 else s) s).testBit i=ae ↔
   s.testBit i=ae∨∃ e ∈ l,Region.binds .any e=ae∧(e.on=i∨(acc.getD e.on 0).testBit i=ae):=by
  intro l;induction l with
  | nil=>intro s;simp
  | cons e l d=>
   intro s;simp only [aty,d,asv,exists_eq_or_imp];by_cases b:Region.binds .any e=ae
   ·simp only [b,if_true,Nat.testBit_or,Bool.or_eq_true,Nat.testBit_two_pow,decide_eq_true_eq,true_and,or_assoc]
   ·simp [b]
 rw [key];simp
theorem xY:∀(os:List Oper) (acc:List Nat),(dA os acc).length=acc.length+os.length
 | [],acc=>by simp [dA]
 | o::os,acc=>by rw [dA,xY];simp;omega
theorem qV:∀(os:List Oper) (acc:List Nat) (k:Nat),k<acc.length→(dA os acc)[k]?=acc[k]?
 | [],acc,k,_=>rfl
 | o::os,acc,k,h=>by
  rw [dA,qV os _ k (by simp;omega),AT h]
theorem xZ:∀(os:List Oper) (acc:List Nat) (t:Nat) (o:Oper),os[t]?=aa o→(dA os acc)[acc.length+t]?=aa (mn ((dA os acc).take (acc.length+t)) o)
 | [],acc,t,o,h=>by simp at h
 | o'::os,acc,0,o,h=>by
  simp only [atz,At]at h;subst h;have d:∀ k,k<acc.length→(dA os (acc++[mn acc o']))[k]?=acc[k]?:=fun k g=>by rw [qV os _ k (by simp;omega),AT g]
  have b:(dA os (acc++[mn acc o'])).take acc.length=acc:=by
   apply atx;intro k;rw [asI];split
   ·rename_i g;exact d k g
   ·rename_i g;rw [atg (by omega)]
  rw [dA,atJ,b,qV os _ _ (by simp)];simp
 | o'::os,acc,t+1,o,h=>by
  simp only [atS]at h;have:=xZ os (acc++[mn acc o']) t o h;rw [dA];rw [show acc.length+(t+1)=(acc++[mn acc o']).length+t by simp;omega];exact this
theorem EM{ops:List Oper}{i j:Nat}{o:Oper}(l:ops[j]?=aa o) :
  zX (dA ops []) i j=ae↔∃ e ∈ o.after.toList,Region.binds .any e=ae∧(e.on=i∨(e.on<j∧zX (dA ops []) i e.on=ae)):=by
 have h:=xZ ops [] j o l;simp only [List.length_nil,asN]at h;unfold zX;rw [atG,h,Option.getD_some,DH];have g:∀ k,((dA ops []).take j).getD k 0=if k<j then(dA ops []).getD k 0 else 0:=by
  intro k;simp only [atG,asI];split<;>simp
 constructor
 ·rintro⟨e,d,b,h⟩;refine⟨e,d,b,h.imp id fun h=>?_⟩;rw [g]at h;split at h
  ·rename_i m;exact⟨m,h⟩
  ·simp at h
 ·rintro⟨e,d,b,h⟩;refine⟨e,d,b,h.imp id fun h=>?_⟩;rw [g,ba h.1];exact h.2
def nV(ops:List Oper)(D:Nat→Prop):Prop:=∀ j o,D j→ops[j]?=aa o→∀ e ∈ o.after.toList,Region.binds .any e=ae→D e.on
theorem nV.below{ops:List Oper}{D:Nat→Prop}(h:nV ops D){i:Nat}:∀(j:Nat),D j→zX (dA ops []) i j=ae→D i:=by
 intro j;induction j using Nat.strongRecOn with
 | ind j m=>
  intro l b;cases ho:ops[j]? with
  | none=>
   exfalso;unfold Km.zX at b;have:(dA ops []).length≤j:=by rw [xY];simpa using List.getElem?_eq_none_iff.1 ho
   rw [atG,atg this]at b;simp at b
  | some o=>
   obtain⟨e,g,d,h1 | ⟨h1,h2⟩⟩:=(EM ho).1 b
   ·exact h1▸h j o l ho e g d
   ·exact m e.on h1 (h j o l ho e g d) h2
theorem nV.ready{ops:List Oper}{D:Nat→Prop}(h:nV ops D){i j:Nat}{o:Oper}(ho:ops[j]?=aa o)(g:∀ e ∈ o.after.toList,Region.binds .any e=ae→D e.on)(l:zX (dA ops []) i j=ae):D i:=by
 obtain⟨e,d,b,h1 | ⟨h1,h2⟩⟩:=(EM ho).1 l
 ·exact h1▸g e d b
 ·exact h.below e.on (g e d b) h2
def Fl(aos:List aP)(j:Nat):Prop:=∃ y,aos[j]?=aa y∧cls y.op=.w
theorem mo{aos:List aP}{j:Nat}:j ∈ lF aos↔Fl aos j:=by
 unfold lF Fl;rw [List.mem_filter,List.mem_range];constructor
 ·rintro⟨_,h⟩;split at h
  ·rename_i y b;exact⟨y,b,by simpa using h⟩
  ·simp at h
 ·rintro⟨y,b,d⟩;exact⟨(BY.1 b).1,by simp [b,d]⟩
theorem mM{g:Type}(p:g→Bool):∀(l:List g),(∀ k,k<(l.takeWhile p).length→∃ y,l[k]?=aa y∧p y=ae)∧((l.takeWhile p).length=l.length∨∃ y,l[(l.takeWhile p).length]?=aa y∧p y=ag)
 | []=>by simp
 | x::l=>by
  by_cases d:p x=ae
  ·rw [List.takeWhile_cons_of_pos d];obtain⟨j,b⟩:=mM p l;refine⟨fun k m=>?_,?_⟩
   ·cases k with
    | zero=>exact⟨x,rfl,d⟩| succ k=>exact j k (by simpa using m)
   ·rcases b with b | b
    ·exact .inl (by simp [b])
    ·exact .inr (by simpa using b)
  ·rw [List.takeWhile_cons_of_neg d];exact⟨by simp,.inr ⟨x,rfl,by simpa using d⟩⟩
theorem oy{aos:List aP}{i:Nat}(hi:i≤aos.length):i≤phase aos i∧phase aos i≤aos.length∧(phase aos i=aos.length∨Fl aos (phase aos i))∧∀ j,i≤j→j<phase aos i→¬ Fl aos j:=by
 unfold phase;obtain⟨s,g⟩:=mM (fun y:aP=>decide (cls y.op≠.w)) (aos.drop i);have q:((aos.drop i).takeWhile fun y=>decide (cls y.op≠.w)).length≤(aos.drop i).length:=by
  rcases asS (aos.drop i).length ((aos.drop i).takeWhile fun y=>decide (cls y.op≠.w)).length with h | h
  ·obtain⟨y,b,_⟩:=s _ h;have:=(BY.1 b).1;omega
  ·exact h
 simp only [asr]at q g;refine⟨by omega,by omega,?_,fun j v u=>?_⟩
 ·rcases g with g | ⟨y,b,l⟩
  ·exact .inl (by omega)
  ·rw [asu]at b;exact .inr ⟨y,b,by simpa using l⟩
 ·obtain⟨y,b,l⟩:=s (j-i) (by omega);rw [asu,show i+(j-i)=j by omega]at b;rintro⟨x,d,m⟩;rw [b]at d;cases d;simp [m]at l
structure Ord(ops:List Oper)(aos:List aP)(im:List (Nat × Nat)):Prop where
 back:∀ j o,j<aos.length→ops[j]?=aa o→∀ e ∈ o.after.toList,Region.binds .any e=ae→e.on<j
 two:∀ i j x y,i<j→aos[i]?=aa x→aos[j]?=aa y→zX (dA ops []) i j=ae∨(x.apart y=ae∧(uc x y=ae∨(j=kj (dA ops []) aos∧cls x.op=.w)))
 ear:∀ y,aos[kj (dA ops []) aos]?=aa y→(∃ zs,y.op=.alloc zs)∧y.g=ab∧∃ p,y.dst=aa p∧∀ i z,aos[i]?=aa z→p ∈ z.rd→∀ e,Fl aos e→e<kj (dA ops []) aos→zX (dA ops []) e i=ae
 rd:∀ i x e,aos[i]?=aa x→cls x.op=.r→Fl aos e∨e=aos.length→BC (dA ops []) aos i e=ae→e=phase aos i∨(i,e) ∈ im
theorem O_{ops:List Oper}{aos:List aP}{im:List (Nat × Nat)}(h:abm ops aos im=ae):Ord ops aos im:=by
 simp only [abm,If]at h;obtain⟨⟨⟨A,B⟩,g⟩,E⟩:=h;refine⟨fun j o L N e b J=>?_,fun i j x y s m q=>?_,fun y q=>?_,fun i x e m K b M=>?_⟩
 ·rw [asC]at A;have d:(o,j) ∈ ops.zip (List.range aos.length):=by
   refine List.mem_of_getElem? (i:=j) ?_;rw [List.getElem?_zip_eq_some];exact⟨N,by simp [L]⟩
  have:=A _ d;rw [asC]at this;simpa [J]using this e b
 ·rw [asC]at B;have:=B j (by simpa using (BY.1 q).1);rw [asC]at this;have:=this i (by simpa using s);rw [m,q]at this;simpa using this
 ·unfold E0 at g;rw [q]at g;simp only [If,Option.isNone_iff_eq_none]at g;obtain⟨⟨I,F⟩,l⟩:=g;refine⟨?_,I,?_⟩
  ·split at F
   ·exact⟨_,by assumption⟩
   ·simp at F
  ·split at l
   ·rename_i p O;refine⟨p,O,fun i z H v e b u=>?_⟩;rw [asC]at l;have:=l i (by simpa using (BY.1 H).1);rw [H]at this;simp only [Bool.or_eq_true,Bool.not_eq_true',List.contains_eq_mem,decide_eq_false_iff_not,asC]at this;rcases this with h | h
    ·exact absurd v h
    ·have:=h e (mo.2 b);simpa [u]using this
   ·simp at l
 ·rw [asC]at E;have:=E i (by simpa using (BY.1 m).1);rw [m]at this;simp only [K,if_true]at this;rw [asC]at this;have:=this e (by
   rw [asw];rcases b with b | b
   ·exact .inl (mo.2 b)
   ·exact .inr (by simp [b]))
  simpa [M]using this
section
variable{Q:Program}{σ:Nat→FuncId}{X:Wd}{call:cU}
theorem Ext.len{X X':Wd}(h:Ext X.H.length X X'):X.H.length≤X'.H.length:=by
 rcases asS X'.H.length X.H.length with b | g
 ·obtain⟨blk',d,_⟩:=h.cO X'.H.length b _ (By b);have:=(BY.1 d).1;omega
 ·exact g
theorem yI{s s':St}{op:da}{v:V}(h:eX call s op=aa (v,s')):s'.az=s.az:=by
 have:=F' (r':=s.az) (fun _ _=>rfl) h;rw [show({ s with az:=s.az }:St)=s from rfl,h]at this;simp only [At,OF,true_and]at this;rw [this]
theorem Em{s s':St}{y:aP}(h:fJ call s y=aa s'):∃ v,s'.az=jy s.az y.dst v:=by
 unfold fJ at h;split at h
 ·split at h
  ·rename_i v d b;cases h;exact⟨v,by rw [yI b]⟩
  ·simp at h
 ·cases h;exact⟨_,rfl⟩
 ·simp at h
theorem vI{az:T}{d:Option P}{v:V}{p:P}:(jy az d v).get p=if d=aa p then v else az.get p:=by
 cases d with
 | none=>simp [jy]| some q=>simp only [jy,T.pb,At]
theorem oE{s s':St}{y:aP}(g:cls y.op≠.w)(h:fJ call s y=aa s'):dm s.heap s'.heap∧s'.defs=s.defs:=by
 unfold fJ at h;split at h
 ·split at h
  ·rename_i v u b;cases h;by_cases j:(∃ f xs h,y.op=.call f xs h)∨(∃ x xs h,y.op=.cr x xs h)∨y.op=.recover∨∃ x xs,y.op=.defer x xs
   ·rcases j with⟨f,xs,m,e⟩ | ⟨x,xs,m,e⟩ | e | ⟨x,xs,e⟩
    ·rw [e]at b g;cases m
     ·simp only [eX,gI,aso,if_false,IT,OF]at b;obtain⟨⟨z,H'⟩,b,rfl,rfl⟩:=b;refine⟨?_,rfl⟩;unfold eC at b;split at b
      ·simp at b
      ·split at b
       ·simp at b
       ·split at b
        ·simp at b
        ·simp only [At,OF]at b;show dm s.heap H';rw [←b.2];exact(na _ _ _).ext
     ·exact absurd rfl g
    ·rw [e]at g;exact absurd rfl g
    ·rw [e]at g;exact absurd rfl g
    ·rw [e]at g;exact absurd rfl g
   ·have q:(bo s.az s.heap y.op).map (fun r=>(r.1,{ s with heap:=r.2 }))=aa (v,u):=by
     generalize y.op=op at b j;cases op<;>first | exact b | (exfalso;apply j;simp)
    simp only [IT,OF]at q;obtain⟨⟨z,H'⟩,l,rfl,rfl⟩:=q;clear b;have b:=l;clear l;refine⟨?_,rfl⟩;show dm s.heap H';cases d:cls y.op with
    | p=>
     have:=ajF (r:=s.az) d s.heap s.heap;rw [b]at this;simp only [asY,At,OF]at this;rw [this.2];exact dm.refl _
    | r=>rw [(F_ d (dm.refl _) b).1];exact dm.refl _
    | a=>
     rcases apI d b with e | ⟨cs,e⟩
     ·rw [e];exact dm.refl _
     ·rw [e];exact dm.append _ _
    | c=>
     generalize y.op=op at b d;cases op<;>first | (simp only [cls,reduceCtorEq]at d;done) | (simp [bo]at b;done)
    | w=>exact absurd d g
  ·simp at h
 ·cases h;exact⟨dm.refl _,rfl⟩
 ·simp at h
def ig(az:T)(ps:List P):T:=ps.foldl (fun t p=>t.set p (az.get p)) .e
theorem vK(az:T)(ps:List P)(p:P):(ig az ps).get p=if p ∈ ps then az.get p else .top:=by
 have key:∀(ps:List P) (t:T),(ps.foldl (fun t p=>t.set p (az.get p)) t).get p=if p ∈ ps then az.get p else t.get p:=by
  intro ps;induction ps with
  | nil=>intro t;simp
  | cons q ps g=>
   intro t;simp only [aty,g,T.pb,asv];by_cases b:p ∈ ps
   ·simp [b]
   ·by_cases d:q=p
    ·subst d;simp [b]
    ·have:¬ p=q:=fun e=>d e.symm;simp [b,d,this]
 have:=key ps .e;unfold ig;rw [this];rfl
structure jH(Q:Program)(σ:Nat→FuncId)(call:cU)(n:Nat)(ops:Array Oper)(aos:List aP)(im:List (Nat × Nat))(st:Nat→St):Prop where
 ame:fu (ky Q σ n ops) ops.toList aos=ae
 ord:Ord ops.toList aos im
 step:∀ i y,aos[i]?=aa y→fJ call (st i) y=aa (st (i+1))
 aqN:∀ i e y,(i,e) ∈ im→aos[i]?=aa y→wanted (st i).az y.g=aa ae→∃ v H1 H2,bo (st i).az (st i).heap y.op=aa (v,H1)∧bo (st i).az (st e).heap y.op=aa (v,H2)
structure ke(σ:Nat→FuncId)(X:Wd)(c:Nat)(zs:List FC):Prop where
 bj:∃ us t,X.w.heap[c]?=aa (.cells us.toArray t (0,0))∧A2 (CR σ X) (zs.map .f) us
 b:X.B≤c
 xR:∀ b L,X.cD b=aa L→L.c≠c
 f:∀ i,¬ X.F c i
theorem ke.lt{c:Nat}{zs:List FC}(h:ke σ X c zs):c<X.w.heap.size:=by
 obtain⟨us,t,h1,_⟩:=h.bj;exact(Array.getElem?_eq_some_iff.1 h1).1
theorem ke.ext{X X':Wd}(d:Ext X.H.length X X'){c:Nat}{zs:List FC}(h:ke σ X c zs):ke σ X' c zs:=by
 have j:=h.lt;obtain⟨us,t,h1,h2⟩:=h.bj;refine⟨⟨us,t,by rw [d.frame c j h.xR];exact h1,A2.ext' σ d h2⟩,by rw [d.B];exact h.b,fun b L m=>?_,fun i hi=>?_⟩
 ·rcases d.xR b L m with⟨b0,l,g1,g2⟩ | g1
  ·rw [←g2];exact h.xR b0 l g1
  ·omega
 ·rcases d.oK c i hi with g | g | ⟨b,L,g1,g2⟩
  ·exact h.f i g
  ·omega
  ·exact h.xR b L g1 g2
theorem SR.assign(s:SR Q σ X){n c:Nat}{zs:List FC}{fl:Nat}(j:ke σ X c zs)(x:X.H[n]?=aa (.box (zs.map .f) fl))(y:X.cD n=ab) :
  SR Q σ { X with cD:=fun b=>if b=n then aa ⟨c,0⟩else X.cD b }∧oJ X.H.length X { X with cD:=fun b=>if b=n then aa ⟨c,0⟩else X.cD b }∧VR σ { X with cD:=fun b=>if b=n then aa ⟨c,0⟩else X.cD b } (.c (.ptr n 0 0)) (.pointer (aa ⟨c,0,ab⟩)):=by
 have u:oJ X.H.length X { X with cD:=fun b=>if b=n then aa ⟨c,0⟩else X.cD b }:=by
  refine⟨fun _ _ h=>h,fun _ _ _=>rfl,fun b _ bj g=>⟨bj,g,?_⟩⟩;have:∀ L,X.cD b=aa L→(if b=n then aa (⟨c,0⟩:Loc)else X.cD b)=aa L:=fun L q=>by
   by_cases e:b=n
   ·subst e;rw [y]at q;simp at q
   ·rw [aX e];exact q
  cases bj<;>simp only [true_and,and_self]<;>first | exact this | (exact .inl ⟨trivial,trivial,this⟩) | (exact⟨rfl,.inl ⟨rfl,rfl,this⟩⟩) | (exact .inl this) | simpa using this
 obtain⟨us,t,h1,h2⟩:=j.bj;refine⟨⟨fun b L g=>?_,fun b m L v g d hc=>?_,s.fb⟩,u,⟨⟨c,0⟩,by simp,by rw [x]⟩⟩
 ·by_cases e:b=n
  ·subst e;simp only [if_true,At]at g;subst g;exact⟨j.b,j.lt,_,x,us,⟨t,(0,0),h1,fun i _=>by simp⟩,A2.eh σ u h2,fun i _=>j.f i⟩
  ·simp only [e,if_false]at g;obtain⟨g1,g2,bj,g3,g4⟩:=s.br b L g;exact⟨g1,g2,bj,g3,BR.oX Q σ u rfl (fun _ h=>h) g4⟩
 ·simp only at g d;by_cases e:b=n<;>by_cases l:m=n
  ·rw [e,l]
  ·rw [ba e]at g;rw [aX l]at d;cases g;exact absurd hc.symm (j.xR m v d)
  ·rw [aX e]at g;rw [ba l]at d;cases d;exact absurd hc (j.xR b L g)
  ·rw [aX e]at g;rw [aX l]at d;exact s.inj b m L v g d hc
abbrev eJ(ops:Array Oper)(aos:List aP):Nat:=kj (dA ops.toList []) aos
def aqF(σ:Nat→FuncId)(X0:Wd)(ops:Array Oper)(aos:List aP)(E:Nat)(X:Wd)(a:Act)(p:P)(K:Nat):Prop:=
 ∃ y zs c,K=eJ ops aos+1∧E≤eJ ops aos∧aos[eJ ops aos]?=aa y∧y.dst=aa p∧y.op=.alloc zs∧a.tmps.getD p.toNat undef=.pointer (aa ⟨c,0,ab⟩)∧X0.w.heap.size≤c∧ke σ X c zs
structure Inv(Q:Program)(σ:Nat→FuncId)(X0:Wd)(n:Nat)(ops:Array Oper)(aos:List aP)(st:Nat→St)(D:Nat→Prop)(E:Nat)(X:Wd)(a:Act):Prop where
 closed:nV ops.toList D
 dlt:∀ j,D j→j<aos.length
 eN:E≤aos.length
 eW:E=aos.length∨Fl aos E
 eD:¬ D E
 wD:∀ j,Fl aos j→j<E→D j
 heap:X.H=(st E).heap
 ext:Ext X0.H.length X0 X
 sr:SR Q σ X
 b:X.B≤X.w.heap.size
 defs:fO σ X (st E).defs a.defers
 size:n≤a.tmps.size
 abX:∀ p,∃ K,K≤aos.length∧(VR σ X ((st K).az.get p) (a.tmps.getD p.toNat undef)∨aqF σ X0 ops aos E X a p K)∧∀ j y,aos[j]?=aa y→y.dst=aa p→(j<K↔D j)
 xP:∀ j y,j<E→¬ D j→aos[j]?=aa y→cls y.op=.a→(st (j+1)).heap.length≠(st j).heap.length→X.cD (st j).heap.length=ab
section
variable{n:Nat}{ops:Array Oper}{aos:List aP}{im:List (Nat × Nat)}{st:Nat→St}
theorem jH.lq(R:jH Q σ call n ops aos im st){p:P}{lo:Nat}:∀(hi:Nat),lo≤hi→hi≤aos.length→(∀ j y,lo≤j→j<hi→aos[j]?=aa y→y.dst≠aa p)→(st lo).az.get p=(st hi).az.get p
 | 0,h,_,_=>by rw [Nat.le_zero.1 h]
 | hi+1,h,g,b=>by
  rcases asS hi lo with h1 | h1
  ·rw [show lo=hi+1 by omega]
  ·rw [jH.lq R hi h1 (by omega) fun j y h2 h3=>b j y h2 (by omega)];have hy:=By (show hi<aos.length by omega);obtain⟨v,d⟩:=Em (R.step hi _ hy);rw [d,vI,aX (b hi _ h1 (by omega) hy)]
theorem jH.dj(R:jH Q σ call n ops aos im st){lo:Nat}:∀(hi:Nat),lo≤hi→hi≤aos.length→(∀ j,lo≤j→j<hi→¬ Fl aos j)→dm (st lo).heap (st hi).heap∧(st hi).defs=(st lo).defs
 | 0,h,_,_=>by rw [Nat.le_zero.1 h];exact⟨dm.refl _,rfl⟩
 | hi+1,h,l,b=>by
  rcases asS hi lo with h1 | h1
  ·rw [show lo=hi+1 by omega];exact⟨dm.refl _,rfl⟩
  ·obtain⟨g1,g2⟩:=jH.dj R hi h1 (by omega) fun j h2 h3=>b j h2 (by omega);have hy:=By (show hi<aos.length by omega);obtain⟨d,g⟩:=oE (fun hc=>b hi h1 (by omega) ⟨_,hy,hc⟩) (R.step hi _ hy);exact⟨g1.trans d,g.trans g2⟩
theorem jH.at(R:jH Q σ call n ops aos im st){i:Nat}{y:aP}(hy:aos[i]?=aa y):∃ o,ops[i]?=aa o∧ky Q σ n ops o y=ae:=by
 have:=eM R.ame;have hi:i<ops.toList.length:=by rw [this.len];exact(BY.1 hy).1
 have b:=By hi;refine⟨ops.toList[i],by rw [←Array.getElem?_toList];exact b,this.2 i _ _ b hy⟩
theorem jH.before(R:jH Q σ call n ops aos im st){i j:Nat}{x y:aP}(b:i<j)(g:aos[i]?=aa x)(hy:aos[j]?=aa y)(h:x.apart y=ag∨(uc x y=ag∧(j=eJ ops aos→cls x.op≠.w))):zX (dA ops.toList []) i j=ae:=by
 rcases R.ord.two i j x y b g hy with h1 | ⟨h1,h2⟩
 ·exact h1
 ·rcases h with h | ⟨h,d⟩
  ·rw [h1]at h;simp at h
  ·rcases h2 with h2 | ⟨h2,h3⟩
   ·rw [h2]at h;simp at h
   ·exact absurd h3 (d h2)
theorem Ext.assign{X0 g:Wd}(h:Ext X0.H.length X0 g){n c:Nat}(j:oJ g.H.length g { g with cD:=fun b=>if b=n then aa ⟨c,0⟩else g.cD b })(hc:X0.w.heap.size≤c):Ext X0.H.length X0 { g with cD:=fun b=>if b=n then aa ⟨c,0⟩else g.cD b } where
 B:=h.B
 F:=h.F
 oK:=h.oK
 fw:=h.fw
 cO:=fun b d=>(h.cO b d).trans (j.cO b (asJ d h.len))
 xR:=fun b L d=>by
  simp only at d;by_cases e:b=n
  ·rw [ba e]at d;cases d;exact .inr hc
  ·rw [aX e]at d;exact h.xR b L d
 size:=h.size
 os:=h.os
 tape:=h.tape
 output:=h.output
 frame:=h.frame
theorem jH.aam(R:jH Q σ call n ops aos im st){y:aP}(hy:aos[eJ ops aos]?=aa y):cls y.op=.a:=by
 obtain⟨⟨zs,h⟩,_⟩:=R.ord.ear y hy;rw [h];rfl
theorem ZY{x y:aP}{p:P}(h:x.dst=aa p)(b:p ∈ y.rd):x.apart y=ag:=by
 simp [aP.apart,h,b]
theorem AS{x y:aP}{p:P}(h:x.dst=aa p)(b:y.dst=aa p):x.apart y=ag:=by
 simp [aP.apart,h,b]
theorem ZX{x y:aP}{p:P}(h:p ∈ x.rd)(b:y.dst=aa p):x.apart y=ag:=by
 simp [aP.apart,h,b]
structure jG(ops:Array Oper)(aos:List aP)(D:Nat→Prop)(i:Nat)(o:Oper)(y:aP):Prop where
 ho:ops[i]?=aa o
 hy:aos[i]?=aa y
 hD:¬ D i
 pre:∀ e ∈ o.after.toList,Region.binds .any e=ae→D e.on
variable{X0:Wd}{D:Nat→Prop}{E i:Nat}{a:Act}{o:Oper}{y:aP}
theorem jG.ou(d:Inv Q σ X0 n ops aos st D E X a)(b:jG ops aos D i o y){j:Nat}(h:zX (dA ops.toList []) j i=ae):D j:=
 d.closed.ready (by simpa using b.ho) b.pre h
theorem jG.pH(b:Inv Q σ X0 n ops aos st D E X a)(g:jG ops aos D i o y){j:Nat}(h:zX (dA ops.toList []) i j=ae):¬ D j:=
 fun d=>g.hD (b.closed.below j d h)
theorem jH.reads(R:jH Q σ call n ops aos im st)(m:Inv Q σ X0 n ops aos st D E X a)(b:jG ops aos D i o y){p:P}(B:p ∈ y.rd):VR σ X ((st i).az.get p) (a.tmps.getD p.toNat undef):=by
 obtain⟨K,I,s,H⟩:=m.abX p;have hi:i<aos.length:=(BY.1 b.hy).1;have s:VR σ X ((st K).az.get p) (a.tmps.getD p.toNat undef):=by
  rcases s with s | ⟨z,zs,c,_,M,d,g,_⟩
  ·exact s
  ·exfalso;obtain⟨_,_,N,x,l⟩:=R.ord.ear z d;rw [g]at x;cases x;have J:=(BY.1 d).1;rcases m.eW with h4 | v
   ·omega
   ·have L:E≠eJ ops aos:=by
     intro e;obtain⟨q,F,A⟩:=v;rw [e]at F;rw [R.aam F]at A;cases A
    exact m.eD (b.ou m (l i y b.hy B E v (show E<eJ ops aos by omega)))
 rcases Nat.le_total K i with h | h
 ·rw [←R.lq i h (by omega) fun j z h1 h2 d g=>?_]
  ·exact s
  ·have:=b.ou m (R.before h2 d b.hy (.inl (ZY g B)));have:=(H j z d g).2 this;omega
 ·rw [R.lq K h I fun j z h1 h2 d g=>?_]
  ·exact s
  ·have u:=(H j z d g).1 h2;rcases asS i j with h3 | h3
   ·exact b.pH m (R.before h3 b.hy d (.inl (ZX B g))) u
   ·have:j=i:=by omega
    subst this;exact b.hD u
theorem jH.fin(R:jH Q σ call n ops aos im st)(F:Inv Q σ X0 n ops aos st D E X a)(q:jG ops aos D i o y){l:Wd}{a1:Act}{u:Value}{v:V}{m:Nat}(hS:SR Q σ l)(hB:l.B≤l.w.heap.size)(b9:Ext X0.H.length X0 l)
  (hm:∀ v u,VR σ X v u→VR σ l v u) (a_:∀ y zs c p,E≤eJ ops aos→aos[eJ ops aos]?=aa y→y.op=.alloc zs→y.dst=aa p→D (eJ ops aos)→a.tmps.getD p.toNat undef=.pointer (aa ⟨c,0,ab⟩)→X0.w.heap.size≤c→ke σ X c zs→if m≤eJ ops aos then ke σ l c zs else VR σ l ((st (eJ ops aos+1)).az.get p) (.pointer (aa ⟨c,0,ab⟩)))
  (hv:VR σ l v u∨(i=eJ ops aos∧m≤eJ ops aos∧∃ zs c,y.op=.alloc zs∧u=.pointer (aa ⟨c,0,ab⟩)∧X0.w.heap.size≤c∧ke σ l c zs))
  (ht:a1.tmps=(a.put o.dst u).tmps) (U:(st (i+1)).az=jy (st i).az y.dst v) (h1:m≤aos.length) (h2:m=aos.length∨Fl aos m) (h3:¬ (D m∨m=i)) (h4:∀ j,Fl aos j→j<m→D j∨j=i)
  (hH:l.H=(st m).heap) (hd:fO σ l (st m).defs a1.defers)
  (hh:∀ j y,j<m→¬ (D j∨j=i)→aos[j]?=aa y→cls y.op=.a→(st (j+1)).heap.length≠(st j).heap.length→l.cD (st j).heap.length=ab) :
  Inv Q σ X0 n ops aos st (fun j=>D j∨j=i) m l a1:=by
 have hi:i<aos.length:=(BY.1 q.hy).1;obtain⟨o',S,A⟩:=R.at q.hy;rw [q.ho]at S;cases S;have nu:(a.put o.dst u).tmps.size=a.tmps.size:=by cases o.dst<;>simp [Act.put]
 refine⟨fun j oj O B e he hb=>?_,fun j O=>O.elim (F.dlt j) fun h=>h▸hi,h1,h2,h3,h4,hH,b9,hS,hB,hd,by rw [ht,nu];exact F.size,fun p=>?_,hh⟩
 ·rcases O with O | rfl
  ·exact .inl (F.closed j oj O B e he hb)
  ·have:oj=o:=by have:=q.ho;simp at B;rw [this]at B;cases B;rfl
   subst this;exact .inl (q.pre e he hb)
 ·by_cases b:y.dst=aa p
  ·have s:a1.tmps.getD p.toNat undef=u:=by
    rw [ht];simp only [ky,If]at A;have g:=A.1.2;rw [b]at g;split at g
    ·rename_i d p' L J;simp only [If,beq_iff_eq,decide_eq_true_eq]at g;cases J;have Z:d<a.tmps.size:=asJ g.2 F.size;rw [L,g.1];simp only [Act.put];simp [Z]
    ·rename_i J;simp at J
    ·simp at g
   refine⟨i+1,hi,?_,fun j z I x=>⟨fun h=>?_,fun h=>?_⟩⟩
   ·rcases hv with hv | ⟨N,Y,zs,c,g1,g2,g3,g4⟩
    ·left;rw [U,vI,ba b,s];exact hv
    ·right;exact⟨y,zs,c,by rw [N],Y,by rw [←N];exact q.hy,b,g1,by rw [s];exact g2,g3,g4⟩
   ·rcases asS j i with M | M
    ·exact .inl (q.ou F (R.before M I q.hy (.inl (AS x b))))
    ·exact .inr (by omega)
   ·rcases h with h | rfl
    ·rcases asS i j with M | M
     ·exact absurd h (q.pH F (R.before M q.hy I (.inl (AS b x))))
     ·omega
    ·omega
  ·obtain⟨K,hK,H,hw⟩:=F.abX p;have e:a1.tmps.getD p.toNat undef=a.tmps.getD p.toNat undef:=by
    rw [ht];simp only [ky,If]at A;have g:=A.1.2;split at g
    ·rename_i d p' L J;simp only [If,beq_iff_eq,decide_eq_true_eq]at g;have a8:d≠p.toNat:=fun e=>b (by rw [J,P.toNat_inj (g.1.trans e)]);rw [L];simp [Act.put,Array.getD_eq_getD_getElem?,Array.getElem?_setIfInBounds_ne a8]
    ·rename_i L J;rw [L];rfl
    ·simp at g
   refine⟨K,hK,?_,fun j z I x=>?_⟩
   ·rcases H with H | ⟨z,zs,c,g1,g2,g3,g4,g5,g6,g7,g8⟩
    ·left;rw [e];exact hm _ _ H
    ·have W:D (eJ ops aos):=(hw _ z g3 g4).1 (by omega);have:=a_ z zs c p g2 g3 g5 g4 W g6 g7 g8;split at this
     ·rename_i Y;right;exact⟨z,zs,c,g1,Y,g3,g4,g5,by rw [e];exact g6,g7,this⟩
     ·left;rw [e,g6,g1];exact this
   ·rw [hw j z I x];exact⟨.inl,fun h=>h.elim id fun h=>absurd (by rw [h]at I;rw [q.hy]at I;cases I;exact x) b⟩
end
end
section
variable{Q:Program}{σ:Nat→FuncId}{X:Wd}{call:cU}
variable{n:Nat}{ops:Array Oper}{aos:List aP}{im:List (Nat × Nat)}{st:Nat→St}
variable{X0:Wd}{D:Nat→Prop}{E i:Nat}{a:Act}{o:Oper}{y:aP}
theorem oT{x y:aP}(h:cls x.op=.w)(d:cls y.op≠.p)(b:cls y.op≠.r):uc x y=ag:=by
 unfold uc;rw [h];cases g:cls y.op<;>simp_all
theorem ud{x y:aP}(h:cls y.op=.w)(d:cls x.op≠.p)(b:cls x.op≠.r):uc x y=ag:=by
 unfold uc;rw [h];cases g:cls x.op<;>simp_all
theorem jH.vq(R:jH Q σ call n ops aos im st){j:Nat}{z:aP}(b:aos[j]?=aa z)(hc:cls z.op≠.a):j≠eJ ops aos:=by
 rintro rfl;exact hc (R.aam b)
theorem jH.amW(R:jH Q σ call n ops aos im st)(d:Inv Q σ X0 n ops aos st D E X a)(b:jG ops aos D i o y)(hc:cls y.op=.w):i=E:=by
 have hi:i<aos.length:=(BY.1 b.hy).1;rcases atk i E with h | h | h
 ·exact absurd (d.wD i ⟨y,b.hy,hc⟩ h) b.hD
 ·exact h
 ·rcases d.eW with h1 | ⟨z,j,g⟩
  ·omega
  ·exact absurd (b.ou d (R.before h j b.hy (.inr ⟨oT g (by simp [hc]) (by simp [hc]),fun e=>absurd e (R.vq b.hy (by simp [hc]))⟩))) d.eD
theorem jH.ZO(R:jH Q σ call n ops aos im st)(g:Inv Q σ X0 n ops aos st D E X a)(d:jG ops aos D i o y)(h1:cls y.op≠.p)(h2:cls y.op≠.r)(h3:cls y.op≠.w)(u:i=eJ ops aos→i<E):i<E∧∀ j,i≤j→j<E→¬ Fl aos j:=by
 have hi:i<aos.length:=(BY.1 d.hy).1;refine⟨?_,fun j v q s=>?_⟩
 ·rcases atk i E with h | h | h
  ·exact h
  ·rcases g.eW with h4 | ⟨z,l,b⟩
   ·omega
   ·rw [←h,d.hy]at l;cases l;exact absurd b h3
  ·rcases g.eW with h4 | ⟨z,l,b⟩
   ·omega
   ·exact absurd (d.ou g (R.before h l d.hy (.inr ⟨oT b h1 h2,fun e=>by have:=u e;omega⟩))) g.eD
 ·have m:=g.wD j s q;obtain⟨z,l,b⟩:=s;rcases asS i j with h | h
  ·exact d.pH g (R.before h d.hy l (.inr ⟨ud b h1 h2,fun _=>h3⟩)) m
  ·have:j=i:=by omega
   subst this;exact d.hD m
theorem jH.arn(R:jH Q σ call n ops aos im st)(d:Inv Q σ X0 n ops aos st D E X a)(s:jG ops aos D i o y)(hc:cls y.op=.r)(L:wanted (st i).az y.g=aa ae){v:V}{F:aj}(h:bo (st i).az (st i).heap y.op=aa (v,F)) :
  F=(st i).heap∧bo (st i).az X.H y.op=aa (v,X.H):=by
 have hi:i<aos.length:=(BY.1 s.hy).1;refine⟨(F_ hc (dm.refl _) h).1,?_⟩;have q:BC (dA ops.toList []) aos i E=ae:=by
  unfold BC;rw [asC];intro j K;have l:=mo.1 K;split
  ·rename_i m;have b:=d.wD j l m;cases x:zX (dA ops.toList []) i j with
   | false=>rfl| true=>exact absurd b (s.pH d x)
  ·rename_i m;cases x:zX (dA ops.toList []) j i with
   | false=>rfl
   | true=>
    exfalso;have b:=s.ou d x;rcases asS E j with h1 | h1
    ·rcases d.eW with h4 | ⟨z,M,B⟩
     ·have:=d.dlt j b;omega
     ·obtain⟨O,u,g⟩:=l;exact d.eD (d.closed.below j b (R.before h1 M u (.inr ⟨oT B (by simp [g]) (by simp [g]),fun e=>absurd e (R.vq u (by simp [g]))⟩)))
    ·have:j=E:=by omega
     subst this;exact d.eD b
 rw [d.heap];rcases R.ord.rd i y E s.hy hc (d.eW.symm) q with A | A
 ·obtain⟨p1,_,_,H⟩:=oy (aos:=aos) (i:=i) (by omega);rw [←A]at p1 H;exact(F_ hc (R.dj E p1 d.eN H).1 h).2
 ·obtain⟨N,I,J,g1,g2⟩:=R.aqN i E y A s.hy L;rw [h]at g1;cases g1;have:=(F_ hc (dm.refl _) g2).1;rw [this]at g2;exact g2
theorem jH.ahd(R:jH Q σ call n ops aos im st){z:aP}(d:aos[eJ ops aos]?=aa z){zs:List FC}(b:z.op=.alloc zs){p:P}(g:z.dst=aa p) :
  (st (eJ ops aos+1)).heap=(st (eJ ops aos)).heap++[.box (zs.map .f) 0]∧(st (eJ ops aos+1)).az.get p=.c (.ptr (st (eJ ops aos)).heap.length 0 0):=by
 obtain⟨_,hg,_⟩:=R.ord.ear z d;have h:=R.step _ z d;simp only [fJ,hg,wanted,b,eX,bo,asY,At]at h;rw [←h];exact⟨rfl,by rw [vI,ba g]⟩
theorem jH.EJ(R:jH Q σ call n ops aos im st)(s:Inv Q σ X0 n ops aos st D E X a)(x:jG ops aos D i o y)(hc:cls y.op=.w){d:Wd}{a1:Act}{u:Value}{v:V}(hS:SR Q σ d)(hB:d.B≤d.w.heap.size)(hx:Ext X.H.length X d)
  (hv:VR σ d v u) (ht:a1.tmps=(a.put o.dst u).tmps) (B:(st (i+1)).az=jy (st i).az y.dst v) (hH:d.H=(st (i+1)).heap) (hd:fO σ d (st (i+1)).defs a1.defers) :
  ∃ E' X2,X2.w=d.w∧Inv Q σ X0 n ops aos st (fun j=>D j∨j=i) E' X2 a1:=by
 have hi:i<aos.length:=(BY.1 x.hy).1;have b9:=R.amW s x hc;subst b9;obtain⟨p1,p2,p3,J⟩:=oy (aos:=aos) (i:=i+1) (by omega);obtain⟨q1,q2⟩:=R.dj _ p1 p2 J;rw [←hH]at q1;obtain⟨k1,Z⟩:=SR.ahead hS q1;have g:Ext X.H.length X { d with H:=(st (phase aos (i+1))).heap }:=hx.trans (Z.mono hx.len);have I:Ext X0.H.length X0 { d with H:=(st (phase aos (i+1))).heap }:=s.ext.trans (g.mono s.ext.len);have K:¬ (D (phase aos (i+1))∨phase aos (i+1)=i):=by
  rintro(h | h)
  ·rcases p3 with h1 | ⟨z,hz,l⟩
   ·have:=s.dlt _ h;omega
   ·exact x.pH s (R.before p1 x.hy hz (.inr ⟨oT hc (by simp [l]) (by simp [l]),fun e=>absurd e (R.vq hz (by simp [l]))⟩)) h
  ·omega
 have N:∀ j,Fl aos j→j<phase aos (i+1)→D j∨j=i:=by
  intro j U hj;rcases atk j i with h | h | h
  ·exact .inl (s.wD j U h)
  ·exact .inr h
  ·exact absurd U (J j h hj)
 have S:fO σ { d with H:=(st (phase aos (i+1))).heap } (st (phase aos (i+1))).defs a1.defers:=by rw [q2];exact hd.ext' Z
 have iJ:i≠eJ ops aos:=R.vq x.hy (by simp [hc]);have xP:∀ j z,j<phase aos (i+1)→¬ (D j∨j=i)→aos[j]?=aa z→cls z.op=.a→(st (j+1)).heap.length≠(st j).heap.length→i<j∧d.cD (st j).heap.length=ab:=by
  intro j z hj hD hz l A;rcases atk j i with h | h | h
  ·exact absurd (.inl (x.ou s (R.before h hz x.hy (.inr ⟨ud hc (by simp [l]) (by simp [l]),fun e=>absurd e iJ⟩)))) hD
  ·exact absurd (.inr h) hD
  ·have F:=(R.dj j h (by omega) fun k h1 h2=>J k h1 (by omega)).1.len;rw [←hH]at F;refine⟨h,?_⟩;cases m:d.cD (st j).heap.length with
   | none=>rfl| some L=>have:=SR.lt hS m;omega
 by_cases hP:∃ z zs c p,i≤eJ ops aos∧eJ ops aos<phase aos (i+1)∧aos[eJ ops aos]?=aa z∧z.op=.alloc zs∧z.dst=aa p∧D (eJ ops aos)∧a.tmps.getD p.toNat undef=.pointer (aa ⟨c,0,ab⟩)∧X0.w.heap.size≤c∧ke σ X c zs
 ·obtain⟨z,zs,c,p,g1,g2,g3,g4,g5,g6,g7,g8,g9⟩:=hP;obtain⟨s1,s2⟩:=R.ahd g3 g4 g5;have M:i<eJ ops aos:=by omega
  have b_:(st (i+1)).heap.length≤(st (eJ ops aos)).heap.length:=(R.dj _ M (by omega) fun k h1 h2=>J k h1 (by omega)).1.len;obtain⟨fl,O⟩:∃ fl,(st (phase aos (i+1))).heap[(st (eJ ops aos)).heap.length]?=aa (.box (zs.map .f) fl):=by
   have W:=(R.dj (phase aos (i+1)) (show eJ ops aos+1≤_ by omega) p2 fun k h1 h2=>J k (by omega) h2).1;rw [s1]at W;exact pj W
  have c_:ke σ { d with H:=(st (phase aos (i+1))).heap } c zs:=g9.ext g;have d9:d.cD (st (eJ ops aos)).heap.length=ab:=by
   cases m:d.cD (st (eJ ops aos)).heap.length with
   | none=>rfl| some L=>have:=SR.lt hS m;rw [hH]at this;omega
  obtain⟨a8,q,a_⟩:=SR.assign k1 c_ O d9;refine⟨phase aos (i+1),{ d with H:=(st (phase aos (i+1))).heap,cD:=fun b=>if b=(st (eJ ops aos)).heap.length then aa ⟨c,0⟩else d.cD b },rfl,R.fin s x a8 hB (I.assign q g8) (fun v u h=>VR.eh σ q (VR.ext' σ g h)) ?_ (.inl (VR.eh σ q (VR.ext' σ Z hv))) ht B p2 p3 K N rfl (fO.eh q S) ?_⟩
  ·intro z' d_ c' p' _ e2 _ e4 _ e6 _ _;rw [g3]at e2;cases e2;rw [g5]at e4;cases e4;rw [g7]at e6;simp only [Value.pointer.injEq,At,Addr.mk.injEq,true_and,and_true]at e6;subst e6;rw [aX (by omega),s2];exact a_
  ·intro j w hj hD hw Y A;obtain⟨f1,f2⟩:=xP j w hj hD hw Y A;show(if(st j).heap.length=(st (eJ ops aos)).heap.length then aa (⟨c,0⟩:Loc)else d.cD (st j).heap.length)=ab;rw [aX,f2];intro e;rcases atk j (eJ ops aos)with h | h | h
   ·have h1:=(R.dj (lo:=j+1) (eJ ops aos) h (by omega) fun k h1 h2=>J k (by omega) (by omega)).1.len;have h2:=(oE (by simp [Y]) (R.step j w hw)).1.len;clear I g k1 Z;omega
   ·exact hD (.inl (by rw [h];exact g6))
   ·have h1:=(R.dj (lo:=eJ ops aos+1) j h (by omega) fun k h1 h2=>J k (by omega) (by omega)).1.len;rw [s1,api]at h1;simp only [List.length_cons,List.length_nil]at h1;omega
 ·refine⟨phase aos (i+1),{ d with H:=(st (phase aos (i+1))).heap },rfl,R.fin s x k1 hB I (fun v u h=>VR.ext' σ g h) ?_ (.inl (VR.ext' σ Z hv)) ht B p2 p3 K N rfl S (fun j z h1 h2 h3 h4 h5=>(xP j z h1 h2 h3 h4 h5).2)⟩;intro z zs c p g1 g2 g3 g4 g5 g6 g7 g8;by_cases F:phase aos (i+1)≤eJ ops aos
  ·rw [ba F];exact g8.ext g
  ·exact absurd ⟨z,zs,c,p,g1,by omega,g2,g3,g4,g5,g6,g7,g8⟩ hP
theorem jH.mS(R:jH Q σ call n ops aos im st)(d:Inv Q σ X0 n ops aos st D E X a)(l:jG ops aos D i o y)(hc:cls y.op≠.w){b:Wd}{a1:Act}{u:Value}{v:V}(F:SR Q σ b)(A:b.B≤b.w.heap.size)(m:Ext X.H.length X b)
  (K:VR σ b v u∨(i=eJ ops aos∧E≤eJ ops aos∧∃ zs c,y.op=.alloc zs∧u=.pointer (aa ⟨c,0,ab⟩)∧X0.w.heap.size≤c∧ke σ b c zs)) (J:a1.tmps=(a.put o.dst u).tmps) (g:(st (i+1)).az=jy (st i).az y.dst v) (B:b.H=X.H) (H:fO σ b (st E).defs a1.defers)
  (I:∀ j z,j<E→¬ (D j∨j=i)→aos[j]?=aa z→cls z.op=.a→(st (j+1)).heap.length≠(st j).heap.length→b.cD (st j).heap.length=ab) :
  Inv Q σ X0 n ops aos st (fun j=>D j∨j=i) E b a1:=by
 refine R.fin d l F A (d.ext.trans (m.mono d.ext.len)) (fun v u h=>VR.ext' σ m h) (fun z zs c p g1 _ _ _ _ _ _ x=>by rw [ba g1];exact x.ext m) K J g d.eN d.eW ?_ (fun j h1 h2=>.inl (d.wD j h1 h2)) (B.trans d.heap) H I;rintro(h | h)
 ·exact d.eD h
 ·have hi:i<aos.length:=(BY.1 l.hy).1;rcases d.eW with h1 | ⟨z,s,q⟩
  ·omega
  ·rw [h,l.hy]at s;cases s;exact hc q
theorem jH.ij(d:Inv Q σ X0 n ops aos st D E X a){b:Wd}(h:b.cD=X.cD):∀ j z,j<E→¬ (D j∨j=i)→aos[j]?=aa z→cls z.op=.a→(st (j+1)).heap.length≠(st j).heap.length→b.cD (st j).heap.length=ab:=
 fun j z h1 h2 h3 h4 h5=>by rw [h];exact d.xP j z h1 (fun h=>h2 (.inl h)) h3 h4 h5
theorem jH.DX(R:jH Q σ call n ops aos im st)(q:Inv Q σ X0 n ops aos st D E X a)(u:jG ops aos D i o y)(hc:cls y.op=.a)(F:i=eJ ops aos→i<E)(m:(st (i+1)).heap.length≠(st i).heap.length){j:Nat}{z:aP}(J:j<E)(hD:¬ (D j∨j=i))(B:aos[j]?=aa z)(d:cls z.op=.a)
  (g:(st (j+1)).heap.length≠(st j).heap.length):(st j).heap.length≠(st i).heap.length:=by
 have hi:i<aos.length:=(BY.1 u.hy).1;obtain⟨g1,g2⟩:=R.ZO q u (by simp [hc]) (by simp [hc]) (by simp [hc]) F;have I:∀ k,j≤k→k<E→¬ Fl aos k:=by
  intro k h1 h2 s;have l:=q.wD k s h2;obtain⟨w,v,x⟩:=s;rcases asS j k with h | h
  ·exact hD (.inl (q.closed.below k l (R.before h B v (.inr ⟨ud x (by simp [d]) (by simp [d]),fun _=>by simp [d]⟩))))
  ·have:k=j:=by omega
   subst this;exact hD (.inl l)
 have b:∀ k w,aos[k]?=aa w→cls w.op=.a→(st (k+1)).heap.length≠(st k).heap.length→(st k).heap.length<(st (k+1)).heap.length:=by
  intro k w s A H;have:=(oE (by simp [A]) (R.step k w s)).1.len;omega
 rcases atk j i with h | h | h
 ·have h1:=b j z B d g;have h2:(st (j+1)).heap.length≤(st i).heap.length:=(R.dj i h (by omega) fun k h3 h4=>I k (by omega) (by omega)).1.len;omega
 ·exact absurd (.inr h) hD
 ·have h1:=b i y u.hy hc m;have h2:(st (i+1)).heap.length≤(st j).heap.length:=(R.dj j h (by have:=q.eN;omega) fun k h3 h4=>g2 k (by omega) (by omega)).1.len;omega
end
section
variable{Q:Program}{σ:Nat→FuncId}{X:Wd}{call:cU}
variable{n:Nat}{ops:Array Oper}{aos:List aP}{im:List (Nat × Nat)}{st:Nat→St}
variable{X0:Wd}{D:Nat→Prop}{E i:Nat}{a:Act}{o:Oper}{y:aP}
theorem D_{w':World}{q:Obj}(g:SR Q σ X)(d:ed X.w w' q):SR Q σ { X with w:=w' }∧Ext X.H.length X { X with w:=w' }:=by
 have j:Ext X.H.length X { X with w:=w' }:=Ext.one g X.H.length rfl (fun _ _=>Iff.rfl) (fun k m _=>d.CD m)
  (fun L i h=>by rw [SR.qY g]at h;simp at h) (fun h=>absurd h (at4 _)) (fun _ _ _=>rfl) (fun _ _=>rfl) (fun L h=>.inl ⟨L,h,rfl⟩) (by show _≤w'.heap.size;rw [d.size];omega) d.os d.tape d.output
 refine⟨SR.step Q σ g j X.H.length (fun _ _=>rfl) (fun _ _=>rfl) (fun b L _ l=>d.CD (g.br b L l).2.1)
  (fun _ _ _ _ _ h=>h) (fun L h=>by change X.cD X.H.length=aa L at h;rw [SR.qY g]at h;simp at h) (fun c i h=>?_),j⟩
 have:=g.fb c i h;show c<w'.heap.size;rw [d.size];omega
theorem abj{y:aP}{p:P}(h:p ∈ y.op.rd):p ∈ y.rd:=by unfold aP.rd;exact asw.2 (.inr h)
theorem Fc{y:aP}{p:P}{w:Bool}(h:y.g=aa (p,w)):p ∈ y.rd:=by unfold aP.rd;rw [h];simp
theorem jH.aiW(hC:fm Q σ call)(R:jH Q σ call n ops aos im st)(d:Inv Q σ X0 n ops aos st D E X a)(A:jG ops aos D i o y){b:Frame}{rest:List Nat}{k:List Item}{cs:List Frame}(hk:ja b cs)(j8:gH y.op b) :
  ∃ E' X' a',Steps Q (lone (b.atR a (.inRegion ops (i::rest)::k)) cs X.w) (lone (b.atR a' (.inRegion ops rest::k)) cs X'.w)∧Inv Q σ X0 n ops aos st (fun j=>D j∨j=i) E' X' a'∧a'.tmps.size=a.tmps.size:=by
 have hi:i<aos.length:=(BY.1 A.hy).1;obtain⟨o',h_,hm⟩:=R.at A.hy;rw [A.ho]at h_;cases h_;have g:=R.step i y A.hy;have S:∀ p ∈ y.rd,VR σ X ((st i).az.get p) (a.tmps.getD p.toNat undef):=fun p hp=>R.reads d A hp;have l:dX Q σ o y.op=ae:=by simp only [ky,If]at hm;exact hm.1.1
 have K:∀ u,(a.put o.dst u).tmps.size=a.tmps.size:=fun u=>by cases o.dst<;>simp [Act.put]
 have J:∀(a:Act) u,(a.put o.dst u).defers=a.defers:=fun a u=>by cases o.dst<;>rfl
 have i8:∀(a a':Act) u,a'.tmps=a.tmps→(a'.put o.dst u).tmps=(a.put o.dst u).tmps:=fun a a' u h=>by cases o.dst<;>simp [Act.put,h]
 unfold fJ at g;split at g
 ·rename_i d_;have hw:=nm hm (az:=(st i).az) (tmps:=a.tmps) (X:=X) (fun p w' hg=>S p (Fc hg)) d.size d_;split at g
  ·rename_i v s1 h1;simp only [At]at g;have B:(st (i+1)).az=jy (st i).az y.dst v:=by rw [←g,←yI h1]
   have q:(st (i+1)).heap=s1.heap:=by rw [←g]
   have N:(st (i+1)).defs=s1.defs:=by rw [←g]
   have F:∀ p ∈ y.op.rd,(st i).az.get p=(ig (st i).az y.op.rd).get p:=fun p hp=>by rw [vK,ba hp]
   have Z:RR σ X (ig (st i).az y.op.rd) a.tmps:=fun p=>by
    rw [vK];split
    ·rename_i hp;exact S p (abj hp)
    ·trivial
   have M:=F' F h1;by_cases m:cls y.op=.w
   ·have a_:=R.amW d A m;obtain⟨g1,g2⟩:=F9 hC d.sr d.b (s:={ st i with az:=ig (st i).az y.op.rd }) (by rw [d.heap,←a_]) Z (by rw [a_];exact d.defs) l M;obtain⟨X1,u,a1,k1,⟨k2,k3,k4,k5,k6⟩,k7,k8⟩:=g1 b ops i rest k cs A.ho hw hk j8;obtain⟨E',X2,q1,q2⟩:=R.EJ d A m (a1:=a1.put o.dst u) k3 k6 k5 k4 (i8 a a1 u k7) B (by rw [k2,q]) (by rw [N,J];exact k8);exact⟨E',X2,a1.put o.dst u,by rw [q1];exact k1,q2,by rw [i8 a a1 u k7,K]⟩
   ·
    have j7:∀ c,o.op≠.defer c:=pC l (fun x xs e=>m (by rw [e];rfl)) (fun e=>by rw [e]at h1;simp [eX,bo]at h1);have one:∀ {u:Value} {w':World},(execOp a.eval o).run Q X.w=.ok (.value u) w'→Steps Q (lone (b.atR a (.inRegion ops (i::rest)::k)) cs X.w) (lone (b.atR (a.put o.dst u) (.inRegion ops rest::k)) cs w'):=by
     intro u w' b9;refine .one (step_lone_go ?_);rw [stepGR_op A.ho hw,Oper.semAt_eq _ _ _ j7];have a8:=Frame.finish_atR b a ops i rest k u;rw [A.ho]at a8;simp only [asR]at a8;rw [←a8];simp [stepG.apply,Sem.runT_eq,b9]
    by_cases H:cls y.op=.c
    ·
     obtain⟨f,xs,d9⟩:∃ f xs,y.op=.call f xs ag:=by
      generalize y.op=op at H;cases op<;>first | (simp only [cls,reduceCtorEq]at H;done) | skip
      rename_i f xs hh;cases hh
      ·exact⟨f,xs,rfl⟩
      ·simp [cls]at H
     have I:=Z;rw [d9]at M l I;simp only [eX,gI,aso,if_false,IT,OF]at M;obtain⟨⟨v',H'⟩,hp,rfl,i5⟩:=M;have j6:H'=(st (i+1)).heap:=by
      rw [q];simp only [St.mk.injEq]at i5;exact i5.2.2
     obtain⟨g1,g2⟩:=R.ZO d A (by simp [H]) (by simp [H]) (by simp [H]) (fun e=>absurd e (R.vq A.hy (by simp [H])));have f7:dm H' X.H:=by
      rw [j6,d.heap];exact(R.dj E g1 d.eN fun j h1 h2=>g2 j (by omega) h2).1
     obtain⟨X1,u,k1,⟨k2,k3,k4,k5,k6⟩,k7⟩:=yY hC d.sr d.b I l hp f7 b ops i rest k cs A.ho hw;exact⟨E,X1,a.put o.dst u,k1,R.mS d A m k3 k6 k5 (.inl k4) rfl B k2 (by rw [J];exact d.defs.ext' k5) (jH.ij d k7),K u⟩
    ·have hx:(bo (ig (st i).az y.op.rd) (st i).heap y.op)=aa (v,s1.heap):=by
      have c_:¬ ((∃ f xs h,y.op=.call f xs h)∨(∃ x xs h,y.op=.cr x xs h)∨y.op=.recover∨∃ x xs,y.op=.defer x xs):=by
       rintro(⟨f,xs,hh,e⟩ | ⟨x,xs,hh,e⟩ | e | ⟨x,xs,e⟩)<;>rw [e]at m H
       ·cases hh
        ·exact H rfl
        ·exact m rfl
       ·exact m rfl
       ·exact m rfl
       ·exact m rfl
      have hx:(bo (ig (st i).az y.op.rd) (st i).heap y.op).map (fun r=>(r.1,({ st i with az:=ig (st i).az y.op.rd,heap:=r.2 }:St)))=aa (v,{ s1 with az:=ig (st i).az y.op.rd }):=by
       generalize ig (st i).az y.op.rd=r at M;generalize y.op=op at M c_;cases op<;>first | exact M | (exfalso;apply c_;simp)
      simp only [IT,OF,St.mk.injEq]at hx;obtain⟨⟨v',H'⟩,h2,rfl,_,_,h3⟩:=hx;rw [h2];simp only at h3;rw [h3]
     by_cases Y:cls y.op=.a
     ·by_cases U:i=eJ ops aos∧E≤i
      ·
       obtain⟨f_,j5⟩:=U;obtain⟨⟨zs,d9⟩,_,_⟩:=R.ord.ear y (show aos[eJ ops aos]?=aa y from f_▸A.hy);have g_:=hx;rw [d9]at g_ l;simp only [bo,At,OF]at g_;obtain⟨rfl,_⟩:=g_;simp only [dX]at l;split at l
       ·rename_i t ho;obtain⟨z,us,i9,i_,j4,_⟩:=eV (σ:=σ) (X:=X) l X.w;have b9:(execOp a.eval o).run Q X.w=.ok (.value (.pointer (aa ⟨X.w.heap.size,0,ab⟩))) (X.w.alloc (.cells us.toArray t)):=by
         simp only [execOp,ho];refine eu ?_;simp [Instr.alloc,i9,newVar,newRow,i_]
        obtain⟨e1,e2⟩:=D_ d.sr (ed.alloc X.w (.cells us.toArray t));refine⟨E,{ X with w:=X.w.alloc (.cells us.toArray t) },a.put o.dst (.pointer (aa ⟨X.w.heap.size,0,ab⟩)),one b9,R.mS d A m e1 (by have:=d.b;simp;omega) e2 (.inr ⟨f_,by rw [←f_];exact j5,zs,X.w.heap.size,d9,rfl,d.ext.size,?_⟩) rfl B rfl (by rw [J];exact d.defs.ext' e2) (jH.ij d rfl),K _⟩;exact⟨⟨us,t,(ed.alloc X.w (.cells us.toArray t)).new,A2.ext' σ e2 j4⟩,d.b,fun b L hb=>by have:=(d.sr.br b L hb).2.1;omega,fun j hj=>by have:=d.sr.fb _ j hj;omega⟩
       ·simp at l
      have hJ:i=eJ ops aos→i<E:=fun e=>by
       rcases asS i E with h | h
       ·exact h
       ·exact absurd ⟨e,h⟩ U
      obtain⟨g1,g2⟩:=R.ZO d A (by simp [Y]) (by simp [Y]) (by simp [Y]) hJ;have f7:dm s1.heap X.H:=by
       rw [←q,d.heap];exact(R.dj E g1 d.eN fun j h1 h2=>g2 j (by omega) h2).1
      obtain⟨X1,u,k1,⟨k2,k3,k4,k5,k6⟩,k7,k8⟩:=ahK d.sr d.b Z Y l hx f7 (fun c_=>d.xP i y g1 A.hD A.hy Y (by rw [q];exact c_));refine⟨E,X1,a.put o.dst u,one k1,R.mS d A m k3 k6 k5 (.inl k4) rfl B k2 (by rw [J];exact d.defs.ext' k5) ?_,K u⟩;by_cases e_:(st (i+1)).heap.length=(st i).heap.length
      ·exact jH.ij d (k8 (by rw [←q];exact e_))
      ·intro j z h2 h3 h4 h5 h6;rw [k7 _ (R.DX d A Y hJ e_ h2 h3 h4 h5 h6)];exact d.xP j z h2 (fun h=>h3 (.inl h)) h4 h5 h6
     ·
      have i4:cls y.op=.p∨cls y.op=.r:=by cases b_:cls y.op<;>simp_all
      have j_:bo (st i).az (st i).heap y.op=aa (v,s1.heap):=by rw [El F];exact hx
      have i7:bo (ig (st i).az y.op.rd) X.H y.op=aa (v,X.H):=by
       rcases i4 with b_ | b_
       ·have:=ajF (r:=ig (st i).az y.op.rd) b_ (st i).heap X.H;rw [hx]at this;simpa using this
       ·rw [←El F];exact(R.arn d A b_ d_ j_).2
      cases f8:y.op.fsl
      case true=>
       have O:=l;have W:=i7;have I:=Z;obtain⟨rg,j9⟩:=aI (ig (st i).az y.op.rd);rw [←j9]at W I;revert O W;generalize y.op=op at f8;cases op<;>simp only [da.fsl,reduceCtorEq]at f8;intro O W;obtain⟨_,u,X1,k1,k2,k3,k4,k5,k6,k7⟩:=xL d.sr d.b I O W;exact⟨E,X1,a.put o.dst u,one k1,R.mS d A m k3 k6 k5 (.inl k4) rfl B k2 (by rw [J];exact d.defs.ext' k5) (jH.ij d k7),K u⟩
      obtain⟨_,u,k1,k2⟩:=ajA d.sr Z l i4 f8 i7;exact⟨E,X,a.put o.dst u,one k1,R.mS d A m d.sr d.b (Ext.refl _ _) (.inl k2) rfl B rfl (by rw [J];exact d.defs) (jH.ij d rfl),K u⟩
  ·simp at g
 ·rename_i d_;have hw:=nm hm (az:=(st i).az) (tmps:=a.tmps) (X:=X) (fun p w' hg=>S p (Fc hg)) d.size d_;simp only [At]at g;have B:(st (i+1)).az=jy (st i).az y.dst (.t []):=by rw [←g]
  have q:(st (i+1)).heap=(st i).heap:=by rw [←g]
  have N:(st (i+1)).defs=(st i).defs:=by rw [←g]
  have i6:Steps Q (lone (b.atR a (.inRegion ops (i::rest)::k)) cs X.w) (lone (b.atR (a.put o.dst undef) (.inRegion ops rest::k)) cs X.w):=by
   refine .one ?_;have:=stepR_op_skip (P:=Q) (b:=b) (a:=a) (k:=k) (cs:=cs) (w:=X.w) (ops:=ops) (i:=i) (rest:=rest) (by simp [A.ho,hw]);rw [A.ho]at this;exact this
  by_cases m:cls y.op=.w
  ·have a_:=R.amW d A m;obtain⟨E',X2,q1,q2⟩:=R.EJ d A m (a1:=a.put o.dst undef) d.sr d.b (Ext.refl _ _) VR.undef rfl B (by rw [d.heap,q,a_]) (by rw [N,J,a_];exact d.defs);exact⟨E',X2,a.put o.dst undef,by rw [q1];exact i6,q2,K _⟩
  ·exact⟨E,X,a.put o.dst undef,i6,R.mS d A m d.sr d.b (Ext.refl _ _) (.inl VR.undef) rfl B rfl (by rw [J];exact d.defs) (jH.ij d rfl),K _⟩
 ·simp at g
end
end Km
