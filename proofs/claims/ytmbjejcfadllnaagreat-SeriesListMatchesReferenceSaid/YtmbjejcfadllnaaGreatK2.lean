/-
  Our own small machine for Go code by value, held s9 the model: part 2. No program in Gx.
-/
import Derived.Test.YtmbjejcfadllnaaGreatK1
import Derived.AtR
import Derived.RangeFuncIn
import Derived.RangeFuncRecord
import Derived.Conc.MuLone
open Option renaming some → ab,none → ae
open Bool renaming true → ag,false → ah
open Nat renaming le_max_left → auh, le_trans → aua, le_max_right → aud, mul_le_mul_right → auP, le_refl → aft, add_mul → auD, lt_or_ge → aut, lt_irrefl → avp, mul_eq_zero → avq, zero_add → auJ, lt_of_lt_of_le → auI, lt_trichotomy → auj
open Option.some renaming injEq → sh
open Prod.mk renaming injEq → IT
open List renaming getElem?_map → auN, length_map → aur, getElem?_toArray → avj, getElem?_cons_zero → auS, getElem?_cons_succ → avh, length_append → at7, getElem?_eq_some_iff → BY, getElem?_set_ne → By, getElem?_append_left → AI, length_drop → auK, eq_nil_of_length_eq_zero → api, getElem?_set → avb, getElem?_eq_getElem → AT, getElem?_eq_none_iff → auG, foldl_cons → auV, mem_cons → aui, getElem_mem → IS, getElem?_drop → at8, getElem?_of_mem → auH, drop_eq_nil_iff → avx, drop_eq_getElem_cons → at5, mem_flatMap → avn, mem_append → at9, mem_map → auy, getElem?_take → auo, getElem?_eq_none → avk, getD_eq_getElem?_getD → aus, all_eq_true → at4
open Option renaming map_eq_some_iff → IN, map_some → auz, bind_some → auf
open Bool renaming and_eq_true → If, false_eq_true → atY
open Int renaming toNat_natCast → aug, mul_comm → auY
set_option linter.unusedVariables false
set_option linter.constructorNameAsVariable false
set_option linter.unusedSimpArgs false
set_option linter.unusedSectionVars false
set_option maxRecDepth 100000
namespace Km
open Go
section
variable{Q:Program}{σ:Nat→FuncId}{X:Wd}
theorem xn(n:Nat):∀(r c:Nat),Builtin.growBy n r c≤Nat.max c (n+(n+768) / 4)
 | 0,c=>by simp [Builtin.growBy];exact auh _ _
 | r+1,c=>by
  simp only [Builtin.growBy];split
  ·exact auh _ _
  ·rename_i h;refine aua (xn n r _) ?_;apply Nat.max_le.2;exact⟨aua (by omega) (aud _ _),aud _ _⟩
theorem uN{need cap:Nat}(h:cap<need):Builtin.nextslicecap need cap≤2*need+768:=by
 unfold Builtin.nextslicecap;split
 ·omega
 ·split
  ·omega
  ·refine aua (xn need 4 cap) ?_;apply Nat.max_le.2;omega
theorem A9(K:SR Q σ X){sz:Nat}{y:V}{u:Value}(v:VR σ X y u){m:Nat}{ys:List C}(h:cX X.H sz y=ab (m,ys)) :
  ∃ F,(Builtin.lenOf u).run Q X.w=.ok m X.w∧(Builtin.firstCells sz m u).run Q X.w=.ok F.toArray X.w∧A2 (CR σ X) ys F∧ys.length=m*sz:=by
 unfold cX at h;split at h
 ·rename_i s;have:=VR.str v;subst this;split at h
  case isFalse=>simp at h
  rename_i q;subst q;simp only [sh,IT]at h;obtain⟨rfl,rfl⟩:=h;have g:s.extract 0 s.size=s:=ByteArray.extract_zero_size;refine⟨s.data.toList.map fun b=>.int .u8 b.toNat,by simp [Builtin.lenOf],?_,?_,?_⟩
  ·simp only [Builtin.firstCells,g,Sem.run_pure]
   congr 1
   apply Array.ext';simp
  ·rw [ByteArray.toList_eq];exact⟨by simp,fun i x u E B=>by
    simp only [auN,IN]at E B;obtain⟨c,L,rfl⟩:=E;obtain⟨d,z,rfl⟩:=B;rw [L]at z;cases z;exact cN.int _ _⟩
  ·rw [ByteArray.toList_eq];simp only [aur,Array.length_toList,Nat.mul_one];rfl
 ·rename_i x M;split at h
  ·rename_i l cs A j;simp only [sh,IT]at h;obtain⟨rfl,rfl⟩:=h;obtain⟨us,H,I,J⟩:=mC K v A j;obtain⟨a,c,rfl⟩:=lJ v A;exact⟨us,by simp [Builtin.lenOf],H,I,J⟩
  ·simp at h
 ·simp at h
structure am6(Q:Program)(t t' e:TypeId)(sz bytes:Nat):Prop where
 hu:Q.underlying t=ab (.slice e)
 hu':∃ d,Q.underlying t'=ab d∧(∀ k,d≠.int k)
 OC:dk Q e sz=ag
 hby:n8 Q e bytes=ag
 pos:0<sz
 zero:∃ i z,Q.info? e=ab i∧i.zero=ab z∧z.cells.size=sz
def sb(base:Option Addr)(k:Nat)(b:List Value):Sem Unit:=match base with
 | some a=>storeCells (a.add k) b| none=>pure ()
theorem kg{t O e:TypeId}{sz bytes:Nat}(j:am6 Q t O e sz bytes)(W:TypeId){base:Option Addr}{l cap m:Nat}{u:Value}{g:List Value}{w:World}
  (S:(Builtin.lenOf u).run Q w=.ok m w) (Y:(Builtin.firstCells sz m u).run Q w=.ok g.toArray w) :
  (l+m≤cap→(Builtin.append_ #[t,O] W #[.slice base l cap,u]).run Q w =
   ((sb base (l*sz) g).run Q w).andThen fun _ w'=>.ok (.slice base (l+m) cap) w') ∧
  (¬ l+m≤cap→bU (l+m) bytes=ag→∀ os g:List Value,(Builtin.firstCells sz l (.slice base l cap)).run Q w.drew=.ok os.toArray w.drew→(Builtin.firstCells sz m u).run Q w.drew=.ok g.toArray w.drew →
   ∃ nc rest w',l+m≤nc∧(Builtin.append_ #[t,O] W #[.slice base l cap,u]).run Q w=.ok (.slice (ab ⟨w.heap.size,0,ae⟩) (l+m) nc) w' ∧
    dP w w' (.cells (os++g++rest).toArray e)∧rest.length=(nc-(l+m))*sz):=by
 obtain⟨d,U,F⟩:=j.hu';obtain⟨i,z,hi,hz,y⟩:=j.zero;obtain⟨q,s,B⟩:=zG j.hby w;have A:((d matches .int _):Bool)=ah:=by
  cases d with
  | int k=>exact absurd rfl (F k)| _=>rfl
 constructor
 ·intro I;simp only [Builtin.append_,avj];simp [a5 j.hu,a5 U,c5 j.OC,A,S,I,Y];cases base<;>simp [sb]
 ·intro H b os g Z h4;unfold bU at b;simp only [If,decide_eq_true_eq]at b;have v:q=i:=by
   simp [typeInfo,hi]at s;exact s.symm
  subst v;have J:¬ (Builtin.nextslicecap (l+m) cap*q.bytes>2 ^ 48):=by
   rw [B];have:=uN (need:=l+m) (cap:=cap) (by omega);have:=auP bytes this;omega
  let nc:=(Question.appendCap (l+m) cap e).cut (w.tape w.drawn (.appendCap (l+m) cap e))
  have K:l+m≤nc:=by simp [nc,Question.cut]
  refine⟨nc,cP (nc-(l+m)) z.cells.toList,w.drew.alloc (.cells (os++g++cP (nc-(l+m)) z.cells.toList).toArray e),K,?_,⟨rfl,rfl,rfl,rfl⟩,by rw [lG];simp [y]⟩;have E:(choose (.appendCap (l+m) cap e)).run Q w=.ok nc w.drew:=by
   simp [choose,Sem.run,Question.forced,nc]
  have M:Builtin.zeroCells z.cells (nc-(l+m))=(cP (nc-(l+m)) z.cells.toList).toArray:=by
   have:=jq z.cells.toList (nc-(l+m)) (by simp [y];exact j.pos);simpa [Builtin.zeroCells]using this
  have x:¬ (((l+m:Nat):Int)>IntKind.i64.max):=by
   have:IntKind.i64.max=9223372036854775807:=by decide
   rw [this];omega
  have N:∀ w',(zeroValue e).run Q w'=.ok z w':=fun w'=>by simp [zeroValue,typeInfo,hi,hz]
  have L:∀ w',(typeInfo e).run Q w'=.ok q w':=fun w'=>by simp [typeInfo,hi]
  simp only [Builtin.append_,Sem.run_bind,a5 j.hu,a5 U,c5 j.OC,A,Result.andThen_ok,Sem.run_pure,atY,if_false,S,aY H,Sem.run_ite,L,x,false_and,J,E,run_askRoom,Z,
   Bool.not_false,if_true,h4,N,M,newRow,run_newObj,avj,auS,avh]
  have X:os.toArray++g.toArray++(cP (nc-(l+m)) z.cells.toList).toArray=(os++g++cP (nc-(l+m)) z.cells.toList).toArray:=by simp
  rw [X];rfl
theorem SR.drew(b:SR Q σ X):SR Q σ { X with w:=X.w.drew }∧Ext X.H.length X { X with w:=X.w.drew }:=by
 have d:Ext X.H.length X { X with w:=X.w.drew }:=Ext.one b X.H.length rfl (fun _ _=>Iff.rfl) (fun _ _ _=>rfl) (fun _ _ _ _=>rfl) (fun h=>by omega)
  (fun _ _ _=>rfl) (fun _ _=>rfl) (fun L h=>.inl ⟨L,h,rfl⟩) (aft _) rfl rfl rfl
 exact⟨SR.step Q σ b d X.H.length (fun _ _=>rfl) (fun _ _=>rfl) (fun _ _ _ _=>rfl) (fun _ _ _ _ _ h=>h) (fun L h=>by
  change X.cC X.H.length=ab L at h;rw [SR.rX b]at h;simp at h) b.fb,d⟩
theorem aau(l:SR Q σ X)(A:X.B≤X.w.heap.size){sz:Nat}(d:0<sz){cs:List C}{us rest:List Value}(h:A2 (CR σ X) cs us){n nc:Nat}(q:cs.length=n*sz)(hr:rest.length=(nc-n)*sz)(E:n≤nc)
  {e:TypeId} {w':World} (s:dP X.w w' (.cells (us++rest).toArray e)) :
  ∃ X',X'.w=w'∧X'.H=X.H++[.bR sz cs 0 0 .loc]∧SR Q σ X'∧Ext X.H.length X X'∧VR σ X' (.c (.sl X.H.length 0 n 0 0 sz)) (.slice (ab ⟨X.w.heap.size,0,ae⟩) n nc)∧X'.B≤X'.w.heap.size:=by
 obtain⟨X',u,j,v,x,y,z⟩:=SR.new l A (.bR sz cs 0 0 .loc) s nc fun X' F g B _=>⟨rfl,us,rest,by rw [g];exact lI s,A2.ext' σ F h,by
  have:=h.len;rw [at7,hr,←this,q,←auD];congr 1;show n+(nc-n)=nc;omega,d,⟨n,q⟩,fun i _ m=>by rw [B]at m;have:=l.fb _ _ m;simp at this⟩
 refine⟨X',u,j,v,x,?_,z⟩;have b:X'.H[X.H.length]?=ab (.bR sz cs 0 0 .loc):=by rw [j];simp
 simp only [VR,ju,CR,fR,b];exact⟨aft _,fun _ _=>⟨_,y,0,by omega,by show 0+n≤nc;omega,by simp⟩,_,_,_,rfl⟩
theorem yZ(q:SR Q σ X)(O:X.B≤X.w.heap.size){b sz:Nat}{cs:List C}{v u:Nat}{st:Os}(F:X.H[b]?=ab (.bR sz cs v u st)){ys:List C}{us B rest:List Value}(I:A2 (CR σ X) cs us)(K:A2 (CR σ X) ys B)
  (A:0<sz) {n nc:Nat} (J:cs.length+ys.length=n*sz) (hr:rest.length=(nc-n)*sz) (U:n≤nc) {e:TypeId} {w':World} (j:dP X.w w' (.cells (us++B++rest).toArray e)) :
  ∃ X',X'.w=w'∧X'.H=X.H.set b (.bR sz (cs++ys) v (u+1) .loc)∧SR Q σ X'∧Ext X.H.length X X'∧VR σ X' (.c (.sl b 0 n 0 (u+1) sz)) (.slice (ab ⟨X.w.heap.size,0,ae⟩) n nc)∧X'.B≤X'.w.heap.size:=by
 have z:b<X.H.length:=(BY.1 F).1
 let X':Wd:={ X with H:=X.H.set b (.bR sz (cs++ys) v (u+1) .loc),cC:=fun k=>if k=b then ab ⟨X.w.heap.size,nc⟩else X.cC k,w:=w' }
 have g:X'.H[b]?=ab (.bR sz (cs++ys) v (u+1) .loc):=by simp [X',z]
 have l:X'.cC b=ab ⟨X.w.heap.size,nc⟩:=by simp [X']
 have x:Ext X.H.length X X':=Ext.one q b rfl (fun _ _=>Iff.rfl) (fun k S _=>j.CE S) (fun L i W y=>World.cell?_of_block (j.CE (q.fb _ _ y)))
  (fun _ bp d=>⟨_,g,by rw [F]at d;simp only [sh]at d;subst d;exact⟨rfl,.inr ⟨by omega,rfl,_,l⟩⟩⟩)
  (fun m h _=>by simp [X',By (Ne.symm h)]) (fun m h=>by simp [X',h]) (fun L h=>by rw [l]at h;simp only [sh]at h;subst h;exact .inr (aft _)) (by show X.w.heap.size≤w'.heap.size;rw [j.size];omega) j.os j.tape j.output
 refine⟨X',rfl,rfl,SR.step Q σ q x b (fun m h=>by simp [X',By (Ne.symm h)]) (fun m h=>by simp [X',h]) (fun m L _ s=>j.CE (q.br m L s).2.1) (fun _ _ _ _ _ h=>h) (fun L h=>?_) (fun c i h=>?_),x,?_,?_⟩
 ·rw [l]at h;simp only [sh]at h;subst h;refine⟨O,by show X.w.heap.size<w'.heap.size;rw [j.size];omega,⟨_,g,rfl,us++B,rest,lI j,(A2.ext' σ x I).append (A2.ext' σ x K),?_,A,⟨n,by simpa using J⟩,fun i _ y=>?_⟩,fun m E _ s=>?_⟩
  ·have M:=I.len;have N:=K.len;rw [at7,at7,hr,←M,←N,J,←auD];congr 1;show n+(nc-n)=nc;omega
  ·have:=q.fb _ _ y;simp at this
  ·have:=(q.br m E s).2.1;show E.c≠X.w.heap.size;omega
 ·have:=q.fb c i h;show c<w'.heap.size;rw [j.size];omega
 ·simp only [VR,ju,CR,fR,g];exact⟨aft _,fun _ _=>⟨_,l,0,by omega,by show 0+n≤nc;omega,by simp⟩,_,_,_,rfl⟩
 ·show X.B≤w'.heap.size;rw [j.size];omega
end
section
variable{Q:Program}{σ:Nat→FuncId}{X:Wd}
theorem aaC{d:Type}(us rest b:List d)(h:b.length≤rest.length):over (us++rest) us.length b=us++b++rest.drop b.length:=by
 unfold over;rw [List.take_left',←List.drop_drop,List.drop_left']
 all_goals rfl
theorem amv(M:SR Q σ X){b sz:Nat}{cs:List C}{g l:Nat}{L:Loc}(A:X.H[b]?=ab (.bR sz cs g l .loc))(z:X.cC b=ab L){ys:List C}{q:List Value}(H:A2 (CR σ X) ys q)(Y:g≤cs.length)
  {n:Nat} (Z:cs.length+ys.length=n*sz) (s:n≤L.cap):∃ X',(storeCells ⟨L.c,cs.length,ae⟩ q).run Q X.w=.ok () X'.w∧X'.H=X.H.set b (.bR sz (cs++ys) g (l+1) .loc)∧SR Q σ X' ∧
   Ext X.H.length X X'∧VR σ X' (.c (.sl b 0 n 0 (l+1) sz)) (.slice (ab ⟨L.c,0,ae⟩) n L.cap)∧X'.w.heap.size=X.w.heap.size∧X'.B=X.B:=by
 obtain⟨_,_,bp,m,B⟩:=M.br b L z;rw [A]at m;simp only [sh]at m;subst m;obtain⟨_,us,rest,hr,I,K,U,o,J⟩:=B;have u:b<X.H.length:=(BY.1 A).1;have a:=H.len;have j:=I.len;have F:n*sz≤L.cap*sz:=auP sz s;have E:q.length≤rest.length:=by simp only [at7]at K;omega
 obtain⟨N,c,e,f,k,y⟩:=jL hr q cs.length (by simp;omega);rw [j,aaC _ _ _ E]at y;rw [←j]at y;obtain⟨O,S⟩:=SR.turn M (blk':=.bR sz (cs++ys) g (l+1) .loc) A z N c (fun i W=>by
   have hi:i<g:=by
    rcases aut i g with h | h
    ·exact h
    ·exact absurd W (J i h)
   have:=dR y i;rw [j]at this ⊢;rw [this,dR hr,List.append_assoc,AI (by omega),AI (by omega)]) e f k
  (fun bp d=>⟨.bR sz (cs++ys) g (l+1) .loc,by simp [u],by rw [A]at d;simp only [sh]at d;subst d;exact⟨rfl,.inr ⟨by omega,rfl,L,z⟩⟩⟩)
  (fun x=>⟨rfl,us++q,rest.drop q.length,by rw [j]at y ⊢;exact y,(A2.ext' σ x I).append (A2.ext' σ x H),by simp only [at7,auK]at K ⊢;omega,U,⟨n,by simpa using Z⟩,J⟩)
 refine⟨_,sd hr q cs.length (by simp;omega) (A2.one H),rfl,O,S,?_,N,rfl⟩;have v:(X.H.set b (.bR sz (cs++ys) g (l+1) .loc))[b]?=ab (.bR sz (cs++ys) g (l+1) .loc):=by simp [u]
 simp only [VR,ju,CR,fR,v];exact⟨aft _,fun _ _=>⟨L,z,0,by omega,by omega,by simp⟩,_,_,_,rfl⟩
theorem zf{c:Call}{sz bytes:Nat}{x y:Arg}(h:dJ Q σ c (.append sz bytes x y)=ag):∃ u v t m e,c.callee=.builtin .append∧c.args=#[u,v]∧c.argTypes=#[t,m]∧mA σ x u=ag∧mA σ y v=ag ∧
  am6 Q t m e sz bytes:=by
 simp only [dJ]at h;split at h
 ·rename_i u v t m B E F;simp only [If]at h;obtain⟨⟨⟨I,J⟩,l⟩,g⟩:=h;obtain⟨e,H,l⟩:=iU l;simp only [If,decide_eq_true_eq]at l;obtain⟨⟨⟨s,q⟩,d⟩,j⟩:=l;have A:∃ i z,Q.info? e=ab i∧i.zero=ab z∧z.cells.size=sz:=by
   cases hi:Q.info? e with
   | none=>simp [hi]at j
   | some i=>
    simp only [hi,Option.any_some]at j;cases b:i.zero with
    | none=>simp [b]at j| some z=>simp [b]at j;exact⟨i,z,rfl,b,j⟩
  refine⟨u,v,t,m,e,B,afm E,afm F,I,J,⟨H,?_,s,q,d,A⟩⟩;split at g
  ·exact⟨_,by assumption,fun k=>by simp⟩
  ·exact⟨_,by assumption,fun k=>by simp⟩
  ·simp at g
 ·simp at h
theorem M3(W:SR Q σ X)(hB:X.B≤X.w.heap.size){a:Act}{aA:T}(hR:RR σ X aA a.tmps){o:Oper}{sz bytes:Nat}{x y:Arg}(hm:dF Q σ o (.append sz bytes x y)=ag){v:V}{H':an}
  (h:bu aA X.H (.append sz bytes x y)=ab (v,H')):iK Q σ X v H' (execOp a.eval o):=by
 simp only [dF]at hm;split at hm
 ·rename_i c ho;obtain⟨u,v',t,t',e,h1,h2,h3,hx,hy,ht⟩:=zf hm;have hx:=bS hR hx;have hy:=bS hR hy;simp only [bu]at h;generalize m6:a.eval u=ux at hx;generalize m7:a.eval v'=uy at hy;generalize x.ev aA=vx at hx h;generalize y.ev aA=vy at hy h;have a9:∀(r:Value) (w':World),(Builtin.append_ #[t,t'] o.type #[ux,uy]).run Q X.w=.ok r w'→(execOp a.eval o).run Q X.w=.ok (.value r) w':=by
   intro r w' hr;refine dx ho h1 fun cs=>?_;simp [builtin,h2,h3,m6,m7,hr]
  unfold bK at h;split at h
  ·simp at h
  rename_i m ys d6;rw [aY (by have:=ht.pos;omega)]at h;obtain⟨vs,b7,a_,c9,d5⟩:=A9 W hy d6;obtain⟨Y,g_⟩:=SR.drew W;obtain⟨a7,_,c_,j7,_⟩:=A9 Y (VR.ext' σ g_ hy) d6;have B:A2 (CR σ X) ys a7:=by
   have b_:Ext X.H.length { X with w:=X.w.drew } X:=Ext.one Y X.H.length rfl (fun _ _=>Iff.rfl) (fun _ _ _=>rfl) (fun _ _ _ _=>rfl) (fun h=>absurd h (avp _))
    (fun _ _ _=>rfl) (fun _ _=>rfl) (fun L h=>.inl ⟨L,h,rfl⟩) (aft _) rfl rfl rfl
   exact A2.ext' σ (X:={ X with w:=X.w.drew }) b_ j7
  have H:∀ {base:Option Addr} {l cap:Nat} {os:List Value} {cs:List C},ux=.slice base l cap→¬ l+m≤cap→bU (l+m) bytes=ag →
    (Builtin.firstCells sz l (.slice base l cap)).run Q X.w.drew=.ok os.toArray X.w.drew→A2 (CR σ X) cs os→cs.length=l*sz →
    iK Q σ X (.c (.sl X.H.length 0 (l+m) 0 0 sz)) (X.H++[.bR sz (cs++ys) 0 0 .loc]) (execOp a.eval o):=by
   intro base l cap os cs hu d9 d l7 k_ j_;obtain⟨nc,rest,w',J,j,g,K⟩:=(kg ht o.type (base:=base) (l:=l) (cap:=cap) b7 a_).2 d9 d os a7 l7 c_;obtain⟨X',N,I,O,S,U,g6⟩:=aau W hB ht.pos (cs:=cs++ys) (us:=os++a7) (k_.append B) (n:=l+m) (nc:=nc) (by rw [at7,j_,d5,auD]) K J g;exact⟨_,X',.inl (by rw [N];exact a9 _ _ (by rw [hu];exact j)),I,O,U,S,g6⟩
  have A:∀ {base:Option Addr} {l cap:Nat} {X':Wd},ux=.slice base l cap→l+m≤cap→(sb base (l*sz) vs).run Q X.w=.ok () X'.w →
    (execOp a.eval o).run Q X.w=.ok (.value (.slice base (l+m) cap)) X'.w:=by
   intro base l cap X' hu q m5;refine a9 _ _ ?_;rw [hu,(kg ht o.type (base:=base) (l:=l) (cap:=cap) b7 a_).1 q,m5];rfl
  split at h
  ·
   cases (hx:cN σ X.F X.w .aG ux);split at h
   ·rename_i Z;subst Z;simp only [sh,IT]at h;obtain⟨rfl,rfl⟩:=h;exact⟨_,X,.inl (A (X':=X) rfl (by omega) rfl),rfl,W,cN.aG,Ext.refl _ _,hB⟩
   ·split at h
    ·rename_i d;simp only [sh,IT]at h;obtain⟨rfl,rfl⟩:=h;have:=H (base:=ae) (l:=0) (cap:=0) (os:=[]) (cs:=[]) rfl (by omega) (by simpa using d) (by simp [Builtin.firstCells]) A2.nil (by simp);simpa using this
    ·simp at h
  ·
   cases (hx:cN σ X.F X.w .es ux);rename_i ad;split at h
   ·rename_i Z;subst Z;simp only [sh,IT]at h;obtain⟨rfl,rfl⟩:=h;have f9:vs=[]:=api (by rw [←c9.len,d5];simp);exact⟨_,X,.inl (A (X':=X) rfl (by omega) (by rw [f9];rfl)),rfl,W,cN.es _,Ext.refl _ _,hB⟩
   ·split at h
    ·rename_i d;simp only [sh,IT]at h;obtain⟨rfl,rfl⟩:=h;have:=H (base:=ab ad) (l:=0) (cap:=0) (os:=[]) (cs:=[]) rfl (by omega) (by simpa using d) (by simp [Builtin.firstCells,loadCells,loadCellsFrom]) A2.nil (by simp);simpa using this
    ·simp at h
  ·rename_i b off l cap ep s;have f_:CR σ X (.sl b off l cap ep s) ux:=hx;simp only [VR,ju,CR,fR]at hx;split at h
   ·
    rename_i cs fl F;rw [F]at hx;obtain⟨L,hL,n4,rfl⟩:=hx;split at h
    ·rename_i q;split at h
     ·rename_i hc;simp only [sh,IT]at h;obtain⟨rfl,rfl⟩:=h;obtain⟨X',N,I,O,S,U,g6,g7⟩:=Cy W F hL c9 hc.1 hc.2;refine⟨_,X',.inl (A rfl q (by simp only [sb,ee];exact N)),I,O,?_,S,by omega⟩;have b9:X'.H[b]?=ab (.box (over cs (off+l*sz) ys) fl):=by rw [I];simp [(BY.1 F).1]
      simp only [VR,ju,CR,fR,b9];exact⟨L,by rw [U];exact hL,q,rfl⟩
     ·simp at h
    ·rename_i d9;split at h
     ·rename_i hc;simp only [sh,IT]at h;obtain⟨rfl,rfl⟩:=h;have d_:cS X.H sz (.sl b off l cap ep s)=ab ((cs.drop off).take (l*sz)):=by simp [cS,F,hc.2]
      have e_:bJ X.H (.sl b off l cap ep s)=ab l:=by simp [bJ,F]
      obtain⟨os,q1,q2,q3⟩:=mC Y (CR.ext' σ g_ f_) e_ d_;have h_:A2 (CR σ X) ((cs.drop off).take (l*sz)) os:=by
       have b_:Ext X.H.length { X with w:=X.w.drew } X:=Ext.one Y X.H.length rfl (fun _ _=>Iff.rfl) (fun _ _ _=>rfl) (fun _ _ _ _=>rfl) (fun h=>absurd h (avp _))
        (fun _ _ _=>rfl) (fun _ _=>rfl) (fun L h=>.inl ⟨L,h,rfl⟩) (aft _) rfl rfl rfl
       exact A2.ext' σ (X:={ X with w:=X.w.drew }) b_ q2
      exact H rfl d9 hc.1 q1 h_ q3
     ·simp at h
   ·
    rename_i s' cs fl e' st F;rw [F]at hx;split at h
    ·rename_i hc;obtain⟨rfl,rfl,rfl⟩:=hc;have M:=hx.2.1 rfl rfl;split at h
     ·
      rename_i Z;subst Z;simp only [sh,IT]at h;obtain⟨rfl,rfl⟩:=h;have f9:vs=[]:=api (by rw [←c9.len,d5];simp);obtain⟨base,n,cp,E⟩:=hx.2.2;have m4:n=l∧l≤cp:=by
       cases st with
       | loc=>obtain⟨L,_,k,_,hk,h8⟩:=M;rw [E]at h8;simp only [Value.slice.injEq]at h8;omega
       | nil=>obtain⟨_,rfl,h8⟩:=M;rw [E]at h8;simp only [Value.slice.injEq]at h8;omega
       | es=>obtain⟨_,rfl,_,h8⟩:=M;rw [E]at h8;simp only [Value.slice.injEq]at h8;omega
      obtain⟨rfl,m_⟩:=m4;refine⟨.slice base (n+0) cp,X,.inl (A (X':=X) E (by omega) (by rw [f9];cases base<;>rfl)),rfl,W,?_,Ext.refl _ _,hB⟩;rw [Nat.add_zero,←E];exact f_
     ·rename_i Z;split at h
      ·
       rename_i hc;obtain⟨rfl,z,i_⟩:=hc;split at h
       ·rename_i d;simp only [sh,IT]at h;obtain⟨rfl,rfl⟩:=h;have hn:cs.length+ys.length=(l+m)*s:=by rw [d5,←z,auD]
        cases st with
        | loc=>
         obtain⟨L,hL,k,l_,hk,rfl⟩:=M;have j4:k=0:=by
          rcases avq.1 l_.symm with h8 | h8
          ·exact h8
          ·have:=ht.pos;omega
         subst j4;rw [Nat.sub_zero]at *;by_cases q:l+m≤L.cap
         ·obtain⟨X',N,I,O,S,U,g6,g7⟩:=amv W F hL c9 i_ hn q;exact⟨_,X',.inl (A rfl q (by simp only [sb,ee];rw [z,auJ];exact N)),I,O,U,S,by omega⟩
         ·have d_:cS X.H s (.sl b 0 l cap ep s)=ab ((cs.drop 0).take (l*s)):=by simp [cS,F,z]
          have e_:bJ X.H (.sl b 0 l cap ep s)=ab l:=by simp [bJ,F]
          obtain⟨os,q1,q2,q3⟩:=mC Y (CR.ext' σ g_ f_) e_ d_;have h_:A2 (CR σ X) cs os:=by
           have b_:Ext X.H.length { X with w:=X.w.drew } X:=Ext.one Y X.H.length rfl (fun _ _=>Iff.rfl) (fun _ _ _=>rfl) (fun _ _ _ _=>rfl) (fun h=>absurd h (avp _))
            (fun _ _ _=>rfl) (fun _ _=>rfl) (fun L h=>.inl ⟨L,h,rfl⟩) (aft _) rfl rfl rfl
           have:=A2.ext' σ (X:={ X with w:=X.w.drew }) b_ q2;rwa [List.drop_zero,z,List.take_length]at this
          obtain⟨nc,rest,w',J,j,g,K⟩:=(kg ht o.type (base:=ab ⟨L.c,0,ae⟩) (l:=l) (cap:=L.cap) b7 a_).2 q d os a7 q1 c_;obtain⟨X',N,I,O,S,U,g6⟩:=yZ W hB F h_ B ht.pos hn K J g;exact⟨_,X',.inl (by rw [N];exact a9 _ _ (by simpa using j)),I,O,U,S,g6⟩
        | nil=>
         obtain⟨_,rfl,rfl⟩:=M;have d8:cs=[]:=api (by simpa using z.symm);subst d8;obtain⟨nc,rest,w',J,j,g,K⟩:=(kg ht o.type (base:=ae) (l:=0) (cap:=0) b7 a_).2 (by omega) d [] a7 (by simp [Builtin.firstCells]) c_;obtain⟨X',N,I,O,S,U,g6⟩:=yZ W hB F (us:=[]) A2.nil B ht.pos hn K J g;exact⟨_,X',.inl (by rw [N];exact a9 _ _ j),I,O,U,S,g6⟩
        | es=>
         obtain⟨_,rfl,ad,rfl⟩:=M;have d8:cs=[]:=api (by simpa using z.symm);subst d8;obtain⟨nc,rest,w',J,j,g,K⟩:=(kg ht o.type (base:=ab ad) (l:=0) (cap:=0) b7 a_).2 (by omega) d [] a7 (by simp [Builtin.firstCells,loadCells,loadCellsFrom]) c_;obtain⟨X',N,I,O,S,U,g6⟩:=yZ W hB F (us:=[]) A2.nil B ht.pos hn K J g;exact⟨_,X',.inl (by rw [N];exact a9 _ _ j),I,O,U,S,g6⟩
       ·simp at h
      ·split at h
       ·
        rename_i hc;obtain⟨rfl,j3,l9⟩:=hc;simp only [sh,IT]at h;obtain⟨rfl,rfl⟩:=h;obtain⟨L,hL,k,rfl,hk,rfl⟩:=M;obtain⟨_,_,bp,d7,j9⟩:=W.br b L hL;rw [F]at d7;simp only [sh]at d7;subst d7;obtain⟨_,us,rest,hr,j8,h6,h7,h8,m9⟩:=j9;have q:l+m≤L.cap-k:=by
         have e1:(k+(l+m))*s≤L.cap*s:=by
          rw [auD,auD];have:=j8.len;simp only [at7]at h6;omega
         have:=Nat.le_of_mul_le_mul_right e1 h7;omega
        obtain⟨X',N,I,O,S,U,g6,g7⟩:=Cz W F hL c9 j3 l9;refine⟨_,X',.inl (A rfl q (by simp only [sb,ee];exact N)),I,O,?_,S,by omega⟩;have b9:X'.H[b]?=ab (.bR s (over cs (k*s+l*s) ys) fl ep .loc):=by rw [I];simp [(BY.1 F).1]
        simp only [VR,ju,CR,fR,b9];exact⟨aft _,fun _ _=>⟨L,by rw [U];exact hL,k,rfl,by omega,rfl⟩,_,_,_,rfl⟩
       ·simp at h
    ·simp at h
   ·simp at h
  ·simp at h
 ·simp at hm
end
section
variable{Q:Program}{σ:Nat→FuncId}{X:Wd}
theorem D4{c:Call}{sz bytes:Nat}{zs:List FC}{x y:Arg}(h:dJ Q σ c (.sO sz bytes zs x y)=ag):∃ u v t j e k,c.callee=.builtin .append∧c.args=#[u,v]∧c.argTypes=#[t,j]∧mA σ x u=ag∧mA σ y v=ag ∧
  Q.underlying t=ab (.slice e)∧dk Q e sz=ag∧n8 Q e bytes=ag∧0<sz∧lO Q e zs=ag∧Q.underlying j=ab (.int k):=by
 simp only [dJ]at h;split at h
 ·rename_i u v t j q s z;simp only [If]at h;obtain⟨⟨⟨E,F⟩,g⟩,d⟩:=h;obtain⟨e,B,g⟩:=iU g;simp only [If,decide_eq_true_eq]at g;obtain⟨⟨⟨m,l⟩,b⟩,H⟩:=g;split at d
  ·rename_i k A;exact⟨u,v,t,j,e,k,q,afm s,afm z,E,F,B,m,l,b,H,A⟩
  ·simp at d
 ·simp at h
theorem abI{n:Nat}(h:n<2 ^ 48):IntKind.i64.wrap (n:Int)=n:=by
 simp only [IntKind.wrap,IntKind.bits,IntKind.signed];have b:(2 ^ 64:Int)=18446744073709551616:=by decide
 have d:(2 ^ (64-1):Int)=9223372036854775808:=by decide
 have g:(2:Nat) ^ 48=281474976710656:=by decide
 simp only [b,d,Bool.true_and,decide_eq_true_eq];split<;>omega
theorem u7{t Z e:TypeId}{sz bytes:Nat}{k k':IntKind}(c:Q.underlying t=ab (.slice e))(A:Q.underlying Z=ab (.int k))(x:dk Q e sz=ag)(F:n8 Q e bytes=ag)(a:0<sz)
  {z:Value} {us:List Value} {i:TypeInfo} (hi:Q.info? e=ab i) (r:i.zero=ab z) (U:z.cells=us.toArray) (N:us.length=sz) (f:TypeId) {base:Option Addr} {n:Nat} {w:World} :
  (n=0→(Builtin.append_ #[t,Z] f #[.slice base 0 0,.int k' (n:Int)]).run Q w=.ok (.slice base 0 0) w) ∧
  (n≠0→bU n bytes=ag→∃ nc rest w',n≤nc∧(Builtin.append_ #[t,Z] f #[.slice base 0 0,.int k' (n:Int)]).run Q w=.ok (.slice (ab ⟨w.heap.size,0,ae⟩) n nc) w' ∧
   dP w w' (.cells (cP n us++rest).toArray e)∧rest.length=(nc-n)*sz):=by
 obtain⟨g,l,s⟩:=zG F w;have u:g=i:=by simp [typeInfo,hi]at l;exact l.symm
 subst u;have y:∀ w',(typeInfo e).run Q w'=.ok g w':=fun w'=>by simp [typeInfo,hi]
 have Y:∀ w',(zeroValue e).run Q w'=.ok z w':=fun w'=>by simp [zeroValue,typeInfo,hi,r]
 have j:∀(q:Int) w',(asInt (.int k' q)).run Q w'=.ok q w':=fun q w'=>by simp [asInt,asIntOf]
 constructor
 ·rintro rfl;have O:IntKind.i64.wrap 0=0:=by decide
  simp only [Builtin.append_,avj];simp [a5 c,a5 A,c5 x,y,j,O];cases base<;>simp [storeCells]
 ·intro hn b;have E:=b;unfold bU at b;simp only [If,decide_eq_true_eq]at b;have S:=abI b.2;have K:¬ (Builtin.nextslicecap n 0*g.bytes>2 ^ 48):=by
   rw [s];have:=uN (need:=n) (cap:=0) (by omega);have:=auP bytes this;omega
  let nc:=(Question.appendCap n 0 e).cut (w.tape w.drawn (.appendCap n 0 e))
  have L:n≤nc:=by simp [nc,Question.cut]
  have H:(choose (.appendCap n 0 e)).run Q w=.ok nc w.drew:=by
   simp [choose,Sem.run,Question.forced,nc]
  have X:∀ m,Builtin.zeroCells z.cells m=(cP m us).toArray:=fun m=>by
   have:=jq us m (by omega);simpa [Builtin.zeroCells,U]using this
  have v:¬ ((n:Int)>IntKind.i64.max):=by
   have:IntKind.i64.max=9223372036854775807:=by decide
   have e3:(2:Nat) ^ 48=281474976710656:=by decide
   rw [this];omega
  have I:¬ ((n:Int)<0):=by omega
  have J:¬ ((n:Int)*(g.bytes:Int)>2 ^ 48):=by
   rw [s];have o:n*bytes≤2 ^ 48:=aua (auP bytes (by omega:n≤2*n+768)) b.1;have p:((n*bytes:Nat):Int)≤2 ^ 48:=by
    have B:((2 ^ 48:Nat):Int)=2 ^ 48:=by decide
    rw [←B];exact Int.ofNat_le.2 o
   rw [Int.natCast_mul]at p;omega
  have d:(Builtin.firstCells sz 0 (.slice base 0 0)).run Q w.drew=.ok #[] w.drew:=by
   cases base<;>simp [Builtin.firstCells,loadCells,loadCellsFrom]
  have M:¬ (n*sz=0):=by
   intro h;rcases avq.1 h with h | h<;>omega
  refine⟨nc,cP (nc-n) us,w.drew.alloc (.cells (cP n us++cP (nc-n) us).toArray e),L,?_,⟨rfl,rfl,rfl,rfl⟩,by rw [lG,N]⟩;have W:¬ (n≤0):=by omega
  have hint:((n:Int)).toNat=n:=by simp
  simp only [Builtin.append_,Sem.run_bind,a5 c,a5 A,c5 x,Result.andThen_ok,Sem.run_pure,atY,if_false,Sem.run_ite,y,false_and,K,H,run_askRoom,
   Bool.not_true,if_true,Y,X,newRow,run_newObj,avj,auS,avh,j,S,I,J,hint,auJ,W,v,M,d,true_or,and_true,Bool.true_eq]
  have B:#[]++(cP n us).toArray++(cP (nc-n) us).toArray=(cP n us++cP (nc-n) us).toArray:=by simp
  first
   | (rw [B];rfl)
   | (simp [B];rfl)
theorem afl(U:SR Q σ X)(S:X.B≤X.w.heap.size){a:Act}{aA:T}(w:RR σ X aA a.tmps){o:Oper}{sz bytes:Nat}{zs:List FC}{x y:Arg}(N:dF Q σ o (.sO sz bytes zs x y)=ag){v:V}{H':an}
  (h:bu aA X.H (.sO sz bytes zs x y)=ab (v,H')):iK Q σ X v H' (execOp a.eval o):=by
 simp only [dF]at N;split at N
 ·rename_i c ho;obtain⟨u,v',t,t',e,k,h1,h2,h3,J,L,f,F,s,g,hz,W⟩:=D4 N;have J:=bS w J;have L:=bS w L;simp only [bu]at h;generalize i:a.eval u=O at J;generalize p:a.eval v'=uy at L;generalize x.ev aA=vx at J h;generalize y.ev aA=vy at L h;have l:∀(r:Value) (w':World),(Builtin.append_ #[t,t'] o.type #[O,uy]).run Q X.w=.ok r w'→(execOp a.eval o).run Q X.w=.ok (.value r) w':=by
   intro r w' hr;refine dx ho h1 fun cs=>?_;simp [builtin,h2,h3,i,p,hr]
  unfold Fl at h;split at h
  ·rename_i n hn;obtain⟨k',E⟩:=jD L hn;split at h
   ·rename_i hc;obtain⟨z,us,a7,I,M,i0,A,B⟩:=eF (σ:=σ) (X:=X) hz X.w;have H:us.length=sz:=by have:=M.len;simp at this;omega
    obtain⟨m,rfl⟩:∃ m:Nat,n=m:=⟨n.toNat,by omega⟩
    have j:∀ base,O=.slice base 0 0→(v,H')=(.c (.sl X.H.length 0 m 0 0 sz),X.H++[.bR sz ((cP m zs).map .f) 0 0 .loc])→m≠0→bU m bytes=ag→iK Q σ X v H' (execOp a.eval o):=by
     intro base hb he d b;cases he;obtain⟨nc,rest,w',Y,K,q,Z⟩:=(u7 (k':=k') f W F s g A B I H o.type (base:=base) (n:=m)).2 d b;obtain⟨X',g1,g2,g3,g4,g5,g6⟩:=aau U S g (cs:=(cP m zs).map .f) (us:=cP m us) (kj M m) (n:=m) (nc:=nc) (by rw [aur,lG,hc.2]) Z Y q;exact⟨_,X',.inl (by rw [g1];exact l _ _ (by rw [hb,E];exact K)),g2,g3,g5,g4,g6⟩
    split at h
    ·cases (J:cN σ X.F X.w .aG O);simp only [aug]at h;split at h
     ·rename_i d;simp only [sh,IT]at h;obtain⟨rfl,rfl⟩:=h;exact⟨_,X,.inl (l _ _ (by rw [E];exact(u7 (k':=k') f W F s g A B I H o.type (base:=ae) (n:=m)).1 d)),rfl,U,cN.aG,Ext.refl _ _,S⟩
     ·rename_i d;split at h
      ·rename_i b;simp only [sh]at h;exact j ae rfl h.symm d b
      ·simp at h
    ·cases (J:cN σ X.F X.w .es O);rename_i ad;simp only [aug]at h;split at h
     ·rename_i d;simp only [sh,IT]at h;obtain⟨rfl,rfl⟩:=h;exact⟨_,X,.inl (l _ _ (by rw [E];exact(u7 (k':=k') f W F s g A B I H o.type (base:=ab ad) (n:=m)).1 d)),rfl,U,cN.es _,Ext.refl _ _,S⟩
     ·rename_i d;split at h
      ·rename_i b;simp only [sh]at h;exact j (ab ad) rfl h.symm d b
      ·simp at h
    ·simp at h
   ·simp at h
  ·simp at h
 ·simp at N
end
section
variable{Q:Program}{σ:Nat→FuncId}{X:Wd}
theorem amd(s:SR Q σ X)(m:X.B≤X.w.heap.size){a:Act}{aA:T}{o:Oper}{st:Os}{sz:Nat}(d:dF Q σ o (.pre st sz)=ag){v:V}{H':an}
  (h:bu aA X.H (.pre st sz)=ab (v,H')):iK Q σ X v H' (execOp a.eval o):=by
 cases st with
 | nil=>
  simp only [bu]at h;split at h
  ·simp at h
  ·simp only [sh,IT]at h;obtain⟨rfl,rfl⟩:=h;obtain⟨j,l⟩:=SR.grow s (.bR sz [] 0 0 .nil);have q:VR σ { X with H:=X.H++[.bR sz [] 0 0 .nil] } (.c (.sl X.H.length 0 0 0 0 sz)) (.slice ae 0 0):=by
    have b:(X.H++[c6.bR sz [] 0 0 .nil])[X.H.length]?=ab (.bR sz [] 0 0 .nil):=by simp
    simp only [VR,ju,CR,fR,b];exact⟨aft _,fun _ _=>by simp,_,_,_,rfl⟩
   simp only [dF]at d;split at d
   ·rename_i g;exact⟨.slice ae 0 0,_,.inl (by simp [execOp,g,Act.eval]),rfl,j,q,l,m⟩
   ·rename_i g;exact⟨.slice ae 0 0,_,.inl (by simp [execOp,g,Act.eval]),rfl,j,q,l,m⟩
   ·simp at d
 | _=>simp [dF]at d
theorem aar(u:SR Q σ X)(s:X.B≤X.w.heap.size){a:Act}{o:Oper}(b:dF Q σ o .kD=ag):iK Q σ X (.c (.mp X.H.length)) (X.H++[.map []]) (execOp a.eval o):=by
 simp only [dF]at b;split at b
 ·rename_i t v;obtain⟨X',g,d,j,l,m,q⟩:=SR.new u s (.map []) (dP.alloc X.w (.map #[] 0)) 0 fun X' z x y _=>⟨[],by rw [x];exact(dP.alloc _ _).new,A2.nil,by simp⟩
  exact⟨.map (ab X.w.heap.size),X',.inl (by rw [g];simp [execOp,v,Instr.makeMap]),d,j,⟨_,m,⟨[],by rw [d];simp⟩,rfl⟩,l,q⟩
 ·simp at b
theorem aa7(E:SR Q σ X)(A:X.B≤X.w.heap.size){a:Act}{aA:T}(B:RR σ X aA a.tmps){o:Oper}{x:Arg}(d:dF Q σ o (.range x)=ag){v:V}{H':an}
  (h:bu aA X.H (.range x)=ab (v,H')):iK Q σ X v H' (execOp a.eval o):=by
 simp only [dF]at d;split at d
 ·rename_i t y F;simp only [If]at d;obtain⟨b,j⟩:=d;have b:=bS B b;simp only [bu]at h;split at h
  ·rename_i s H;rw [H]at b;have b:=VR.str b;simp only [sh,IT]at h;obtain⟨rfl,rfl⟩:=h;split at j
   ·rename_i I;obtain⟨X',l,g,m,q,u,z⟩:=SR.new E A (.it s 0) (dP.alloc X.w (.stringIter s 0)) 0 fun X' b J K _=>by
     show X'.w.heap[X.w.heap.size]?=_;rw [J];exact(dP.alloc _ _).new
    exact⟨.pointer (ab ⟨X.w.heap.size,0,ae⟩),X',.inl (by rw [l];simp [execOp,F,Instr.range,a5 I,b]),g,m,⟨_,u,⟨s,0,by rw [g];simp⟩,rfl⟩,q,z⟩
   ·simp at j
  ·simp at h
 ·simp at d
theorem SR.qP(s:SR Q σ X){b:Nat}{bp blk':c6}{L:Loc}{o o':Obj}(x:X.H[b]?=ab bp)(q:X.cC b=ab L)(ho:X.w.heap[L.c]?=ab o)(m:∀ c e f,o≠.cells c e f)(j:∀ c e f,o'≠.cells c e f)
  (d:mG X { X with H:=X.H.set b blk',w:={ X.w with heap:=X.w.heap.setIfInBounds L.c o' } } b)
  (l:∀ X',Ext X.H.length X X'→X'.w.heap[L.c]?=ab o'→X'.F=X.F→X'.cC=X.cC→X'.H=X.H.set b blk'→BR Q σ X' blk' L) :
  SR Q σ { X with H:=X.H.set b blk',w:={ X.w with heap:=X.w.heap.setIfInBounds L.c o' } }∧Ext X.H.length X { X with H:=X.H.set b blk',w:={ X.w with heap:=X.w.heap.setIfInBounds L.c o' } }:=by
 have g:L.c<X.w.heap.size:=(s.br b L q).2.1;refine SR.turn s x q (by simp) (fun k y=>by simp [Array.getElem?_setIfInBounds_ne (Ne.symm y)]) (fun i _=>?_) rfl rfl rfl d (fun z=>l _ z (by simp [g]) rfl rfl rfl);have u:({ X.w with heap:=X.w.heap.setIfInBounds L.c o' }:World).cell? ⟨L.c,i,ae⟩=ae:=by
  simp only [World.cell?];rw [show(X.w.heap.setIfInBounds L.c o')[L.c]?=ab o' by simp [g]];cases o'<;>simp at j ⊢
 have v:X.w.cell? ⟨L.c,i,ae⟩=ae:=by
  simp only [World.cell?,ho];cases o<;>simp at m ⊢
 rw [u,v]
theorem agp(q:SR Q σ X)(A:X.B≤X.w.heap.size){a:Act}{aA:T}(M:RR σ X aA a.tmps){o:Oper}{x:Arg}(m:dF Q σ o (.next x)=ag){v:V}{H':an}
  (h:bu aA X.H (.next x)=ab (v,H')):iK Q σ X v H' (execOp a.eval o):=by
 simp only [dF]at m;split at m
 ·rename_i y E;have H:=bS M m;simp only [bu]at h;unfold FW at h;split at h
  ·rename_i b O;rw [O]at H;obtain⟨L,B,⟨S,p0,N⟩,F⟩:=H;split at h
   ·rename_i s pos l;obtain⟨_,_,bp,j,u⟩:=q.br b L B;rw [l]at j;simp only [sh]at j;subst j;have g:X.w.heap[L.c]?=ab (.stringIter s pos):=u;split at h
    ·rename_i z;simp only [sh,IT]at h;obtain⟨rfl,rfl⟩:=h;obtain⟨I,J⟩:=SR.qP (o':=.stringIter s (pos+(Utf8.decode s pos).2)) (blk':=.it s (pos+(Utf8.decode s pos).2)) q l B g (by simp) (by simp)
      (fun bp d=>⟨.it s (pos+(Utf8.decode s pos).2),by simp [(BY.1 l).1],by rw [l]at d;simp only [sh]at d;subst d;exact fun L h=>h⟩)
      (fun X' _ K _ _ _=>K)
     refine⟨.tuple #[.bool ag,.int .i64 pos,.int .i32 (Utf8.decode s pos).1],_,.inl ?_,rfl,I,⟨[.bool ag,.int .i64 pos,.int .i32 (Utf8.decode s pos).1],rfl,?_⟩,J,by simpa using A⟩
     ·simp only [execOp,E];refine dZ ?_;simp [Instr.next,F,getObj,setObj,Sem.run,g,z,goInt]
     ·exact A2.cons (cN.bool _) (A2.cons (cN.int _ _) (A2.cons (cN.int _ _) A2.nil))
    ·rename_i z;simp only [sh,IT]at h;obtain⟨rfl,rfl⟩:=h;refine⟨.tuple #[.bool ah],X,.inl ?_,rfl,q,⟨[.bool ah],rfl,A2.cons (cN.bool _) A2.nil⟩,Ext.refl _ _,A⟩;simp only [execOp,E];refine dZ ?_;simp [Instr.next,F,getObj,Sem.run,g,z]
   ·simp at h
  ·simp at h
 ·simp at m
theorem BL{s:CK}{d:TypeDesc}(z:(s=.int∧∃ j,d=.int j)∨(s=.str∧d=.string)∨(s=.bool∧d=.bool)){F:Nat→Nat→Prop}{w:World}{k:FC}{v:C}{x:Value}(B:cN σ F w k x) :
  ∀ {R:C→Value→Prop} {l g:List (FC × C)} {b:List MapEntry},A2 (fun e m=>cN σ F w e.1 m.key∧R e.2 m.val) l b→∀(i:Nat),xJ s k v l=ab g →
  (Instr.findNow d x b i=ab ae∧g=l++[(k,v)])∨∃(j:Nat) (u:Value) (m:MapEntry),Instr.findNow d x b i=ab (ab (i+j,u))∧b[j]?=ab m∧Instr.sameNow d x m.key=ab ag∧g=l.set j (k,v)
 | _,[],g,[],_,i,h=>by
  simp only [xJ,sh]at h;subst h;exact .inl ⟨rfl,rfl⟩
 | _,[],_,_::_,q,_,_=>by have:=q.len;simp at this
 | _,_::_,_,[],q,_,_=>by have:=q.len;simp at this
 | _,e::l,g,m::b,q,i,h=>by
  obtain⟨⟨H,N⟩,E⟩:=q.of_cons;simp only [xJ]at h;split at h
  ·rename_i A;simp only [sh]at h;subst h;have:=uh z B H A;exact .inr ⟨0,m.val,m,by simp [Instr.findNow,this],rfl,this,rfl⟩
  ·rename_i A;simp only [IN]at h;obtain⟨I,J,rfl⟩:=h;have:=uh z B H A;rcases BL z B E (i+1) J with⟨y,rfl⟩ | ⟨j,u,M,y,K,L,rfl⟩
   ·exact .inl ⟨by simp [Instr.findNow,this,y],rfl⟩
   ·exact .inr ⟨j+1,u,M,by simp [Instr.findNow,this,y];omega,by simpa using K,L,rfl⟩
  ·simp at h
theorem Cd{d:TypeDesc}{u v:Value}(h:Instr.sameNow d u v=ab ag)(n:Nat):Instr.sameBits n v u=ag:=by
 unfold Instr.sameNow at h;split at h
 ·split at h
  ·rename_i b;subst b;simp only [sh,beq_iff_eq]at h;subst h;simp [Instr.sameBits]
  ·simp at h
 ·simp only [sh,beq_toListBytes,beq_iff_eq]at h;simp [Instr.sameBits,beq_toListBytes,h]
 ·simp only [sh,beq_iff_eq]at h;subst h;simp [Instr.sameBits]
 ·simp at h
theorem ang{c:C}{u:Value}(h:VR σ X (mV c) u):ju σ X (mV c) u:=by
 cases c
 case cl f cs=>
  simp only [mV]at h ⊢;split at h
  ·rename_i b;rw [bg b];exact h
  ·rename_i b;rw [aY b];exact h
 all_goals exact h
theorem aal(hS:SR Q σ X)(hB:X.B≤X.w.heap.size){a:Act}{aA:T}(hR:RR σ X aA a.tmps){o:Oper}{ck:CK}{x y z:Arg}(E:dF Q σ o (.kB ck x y z)=ag){v:V}{H':an}
  (h:bu aA X.H (.kB ck x y z)=ab (v,H')):iK Q σ X v H' (execOp a.eval o):=by
 simp only [dF]at E;split at E
 ·rename_i t x' M Y ho;simp only [If]at E;obtain⟨⟨⟨hx,K⟩,W⟩,ht⟩:=E;have hx:=bS hR hx;have K:=bS hR K;have W:=bS hR W;split at ht
  ·rename_i kt e hu;simp only [bu]at h;split at h
   ·rename_i b k vv b_ d6 d9;rw [b_]at hx;rw [d6]at K;rw [←aai d9]at W;have W:ju σ X (mV vv) (a.eval Y):=ang W;obtain⟨L,hL,_,b9⟩:=hx;split at h
    ·rename_i es hb;split at h
     ·rename_i a9;simp only [IN,IT]at h;obtain⟨F,hp,rfl,rfl⟩:=h;obtain⟨_,_,bp,N,c_⟩:=hS.br b L hL;rw [hb]at N;simp only [sh]at N;subst N;obtain⟨q,I,h2,B⟩:=c_;have go:∀ d,Q.underlying kt=ab d→((ck=.int∧∃ j,d=.int j)∨(ck=.str∧d=.string)∨(ck=.bool∧d=.bool))→iK Q σ X .top (X.H.set b (.map F)) (execOp a.eval o):=by
       intro d A hd;have a7:∀(l:List MapEntry),(Instr.mapUpdate t (a.eval x') (a.eval M) (a.eval Y)).run Q X.w=.ok () { X.w with heap:=X.w.heap.setIfInBounds L.c (.map l.toArray l.length) } →
         A2 (fun(e:FC × C) (m:MapEntry)=>cN σ X.F X.w e.1 m.key∧ju σ X (mV e.2) m.val) F l→(∀(i:Nat) m,l[i]?=ab m→m.born=i)→iK Q σ X .top (X.H.set b (.map F)) (execOp a.eval o):=by
        intro l b7 hA c9;obtain⟨g1,g2⟩:=SR.qP (o':=.map l.toArray l.length) (blk':=.map F) hS hb hL I (by simp) (by simp)
         (fun bp H=>⟨.map F,by simp [(BY.1 hb).1],by rw [hb]at H;simp only [sh]at H;subst H;exact fun L h=>h⟩)
         (fun X' U h1 hF _ _=>⟨l,h1,hA.lR fun e m h=>⟨cN.mono U.F U.fw h.1,ju.ext' σ U h.2⟩,c9⟩)
        exact⟨undef,_,.inr ⟨by simp [execOp,ho,b7],rfl⟩,rfl,g1,trivial,g2,by simpa using hB⟩
       rcases BL (R:=fun c u=>ju σ X (mV c) u) hd K h2 0 hp with⟨J,rfl⟩ | ⟨j,u,m,J,Z,h6,rfl⟩
       ·have O:A2 (fun(e:FC × C) (m:MapEntry)=>cN σ X.F X.w e.1 m.key∧ju σ X (mV e.2) m.val) [(k,vv)] [({ key:=a.eval M,val:=a.eval Y,born:=q.length }:MapEntry)]:=A2.cons (And.intro K W) A2.nil;refine a7 (q++[{ key:=a.eval M,val:=a.eval Y,born:=q.length }]) ?_ (h2.append O) ?_
        rotate_left
        ·intro i m E;by_cases hi:i<q.length
         ·rw [AI hi]at E;exact B i m E
         ·rw [List.getElem?_append_right (by omega)]at E;have d5:i-q.length=0:=by
           have:=(BY.1 E).1;simp at this;omega
          rw [d5]at E;simp only [auS,sh]at E;subst E;simp only;omega
        simp [Instr.mapUpdate,a5 hu,b9,getObj,setObj,Sem.run,I,je ht K a9,Instr.findKey,a5 A,J]
       ·rw [auJ]at J;refine a7 (q.set j { m with key:=a.eval M,val:=a.eval Y }) ?_ ?_ ?_
        ·have d8:(Instr.keyThatStays m.key (a.eval M)).run Q X.w=.ok (a.eval M) X.w:=by
          simp [Instr.keyThatStays,Cd h6 10000]
         have a_:q.modify j (fun e=>{ e with key:=a.eval M,val:=a.eval Y })=q.set j { m with key:=a.eval M,val:=a.eval Y }:=by
          apply List.ext_getElem?;intro i;simp only [List.getElem?_modify,avb];by_cases s:j=i
          ·subst s;have S:=(BY.1 Z).1;have d7:=(BY.1 Z).2;simp [Z,S,d7]
          ·simp [s]
         simp [Instr.mapUpdate,a5 hu,b9,getObj,setObj,Sem.run,I,je ht K a9,Instr.findKey,a5 A,J,Z,d8,a_]
        ·refine⟨by simpa using h2.len,fun i e' m' he g=>?_⟩;rw [avb]at he g;split at he
         ·rename_i s;subst s;simp only [if_true]at g;have S:=(BY.1 Z).1;have d_:=h2.len;rw [bg (by omega)]at he;rw [bg S]at g;simp only [sh]at he g;subst he;subst g;exact⟨K,W⟩
         ·rename_i s;rw [aY s]at g;exact h2.2 i e' m' he g
        ·intro i m' g;rw [avb]at g;split at g
         ·rename_i s;subst s;split at g
          ·simp only [sh]at g;subst g;exact B j m Z
          ·simp at g
         ·exact B i m' g
      rcases mh ht with⟨J,j,A⟩ | ⟨J,A⟩ | ⟨J,A⟩
      ·exact go _ A (.inl ⟨J,j,rfl⟩)
      ·exact go _ A (.inr (.inl ⟨J,rfl⟩))
      ·exact go _ A (.inr (.inr ⟨J,rfl⟩))
     ·simp at h
    ·simp at h
   ·simp at h
  ·simp at ht
 ·simp at E
theorem BG{c:Call}{sz:Nat}{zs:List FC}{x:Arg}(h:dJ Q σ c (.clear sz zs x)=ag):∃ y t e,c.callee=.builtin .clear∧c.args=#[y]∧c.argTypes=#[t]∧mA σ x y=ag∧Q.underlying t=ab (.slice e)∧dk Q e sz=ag∧lO Q e zs=ag:=by
 simp only [dJ]at h;split at h
 ·rename_i y t d g j;simp only [If]at h;obtain⟨m,b⟩:=h;obtain⟨e,l,b⟩:=iU b;simp only [If]at b;exact⟨y,t,e,d,vG g,vG j,m,l,b.1,b.2⟩
 ·simp at h
theorem ZN(hS:SR Q σ X)(hB:X.B≤X.w.heap.size){a:Act}{aA:T}(hR:RR σ X aA a.tmps){o:Oper}{sz:Nat}{zs:List FC}{x:Arg}(J:dF Q σ o (.clear sz zs x)=ag){v:V}{H':an}
  (h:bu aA X.H (.clear sz zs x)=ab (v,H')):iK Q σ X v H' (execOp a.eval o):=by
 simp only [dF]at J;split at J
 ·rename_i c Y;obtain⟨y,t,e,M,N,O,j,hu,b_,hz⟩:=BG J;have j:=bS hR j;simp only [bu,IN,IT]at h;obtain⟨H2,d,rfl,rfl⟩:=h;have done:VR σ X (.t []) (.tuple #[]):=⟨[],rfl,A2.nil⟩
  unfold t_ at d;split at d
  ·rename_i p hp;rw [hp]at j;split at d
   ·rename_i U;simp only [sh]at d;subst d;obtain⟨ad,cp,g⟩:=lJ j U;refine⟨.tuple #[],X,.inl (dx Y M fun cs=>?_),rfl,hS,done,Ext.refl _ _,hB⟩;cases ad<;>simp [builtin,N,O,Builtin.clear_,a5 hu,g]
   ·rename_i l W U;obtain⟨ad,cp,g⟩:=lJ j U;split at d
    ·rename_i a_;obtain⟨z,us,F,H,I,_⟩:=eF (σ:=σ) (X:=X) hz X.w;have c9:us.length=zs.length:=by have:=I.len;simp at this;omega
     have u:l≠0:=fun e=>W (by rw [e]);have key:∀(b o' A:Nat),(∃ q,CR σ X (.ptr b o' A) (.pointer (ab q))∧ad=ab q)→dn X.H (.ptr b o' A) ((cP l zs).map .f)=ab H2→iK Q σ X (.t []) H2 (execOp a.eval o):=by
      rintro b o' A ⟨q,hq,rfl⟩ Z;obtain⟨cc,off,X',g1,K,g3,g4,g5,g6,g7⟩:=aby hS hq (kj I l) Z;cases g1;by_cases b9:sz=0
      ·subst b9;have b7:zs=[]:=api a_;have a7:us=[]:=api (by omega);subst b7;subst a7;refine⟨.tuple #[],X',.inl (dx Y M fun cs=>?_),g3,g4,⟨[],rfl,A2.nil⟩,g5,by omega⟩;have hr:cP l ([]:List Value)=[]:=by simp [cP]
       rw [hr]at K;simp [builtin,N,O,Builtin.clear_,a5 hu,g,u,F,H,Builtin.zeroCells];cases l with
       | zero=>exact absurd rfl u| succ l=>simp [K]
      ·have a9:Builtin.zeroCells z.cells l=(cP l us).toArray:=by
        have:=jq us l (by omega);simpa [Builtin.zeroCells,H]using this
       refine⟨.tuple #[],X',.inl (dx Y M fun cs=>?_),g3,g4,⟨[],rfl,A2.nil⟩,g5,by omega⟩;simp [builtin,N,O,Builtin.clear_,a5 hu,g,F,a9];cases l with
       | zero=>exact absurd rfl u| succ l=>simp [K]
     split at d
     ·rename_i b o' l' cap A s;simp only [VR,ju,CR,fR]at j;split at d
      ·rename_i cs fl B;rw [B]at j;obtain⟨L,S,_,m⟩:=j;rw [g]at m;simp only [Value.slice.injEq]at m;refine key b o' A ⟨⟨L.c,o',ae⟩,⟨L,S,by rw [B]⟩,m.1⟩ d
      ·rename_i s' cs fl e' B;split at d
       ·rename_i E;rw [B]at j;obtain⟨L,S,k,_,_,m⟩:=j.2.1 E.1 E.2;rw [g]at m;simp only [Value.slice.injEq]at m;refine key b o' A ⟨⟨L.c,o',ae⟩,⟨L,S,?_⟩,m.1⟩ d;rw [B];exact⟨j.1,fun _=>rfl,_,rfl⟩
       ·simp at d
      ·simp at d
     ·simp at d
    ·simp at d
   ·simp at d
  ·simp at d
 ·simp at J
theorem Oj(B:SR Q σ X)(S:X.B≤X.w.heap.size){a:Act}{aA:T}(U:RR σ X aA a.tmps){o:Oper}{x:Arg}(l:dF Q σ o (.mw x)=ag){v:V}{H':an}
  (h:bu aA X.H (.mw x)=ab (v,H')):iK Q σ X v H' (execOp a.eval o):=by
 simp only [dF]at l;split at l
 ·rename_i t y Y;simp only [If]at l;obtain⟨j,E⟩:=l;have j:=bS U j;simp only [bu]at h;unfold tn at h;split at h
  ·rename_i b c;rw [c]at j;obtain⟨L,A,_,Z⟩:=j;split at h
   ·rename_i u m;split at h
    ·rename_i p;simp only [sh,IT]at h;obtain⟨rfl,rfl⟩:=h;obtain⟨_,_,bp,g,q⟩:=B.br b L A;rw [m]at g;simp only [sh]at g;subst g;obtain⟨d,H,I,_⟩:=q;split at E
     ·rename_i kt e s;obtain⟨X',J,z,K,M,N,O⟩:=SR.new B S (.vw b u.length ah) (dP.alloc X.w (.mapIter (ab L.c) d.length #[] d.length)) 0 fun X' j f k n=>by
       obtain⟨blk',i,F⟩:=j.cu b (BY.1 m).1 _ m;cases blk'<;>simp only at F;refine⟨L,#[],d.length,F L A,⟨_,i⟩,?_,rfl⟩;rw [I.len,f];exact(dP.alloc _ _).new
      refine⟨.pointer (ab ⟨X.w.heap.size,0,ae⟩),X',.inl ?_,z,K,⟨_,N,⟨b,u.length,ah,by rw [z];simp⟩,rfl⟩,M,O⟩;have W:(getObj L.c).run Q X.w=.ok (.map d.toArray d.length) X.w:=by simp [getObj,Sem.run,H]
      rw [J];simp [execOp,Y,Instr.range,a5 s,Z,W]
     ·simp at E
    ·simp at h
   ·simp at h
  ·simp at h
 ·simp at l
theorem aav(s:SR Q σ X)(N:X.B≤X.w.heap.size){a:Act}{aA:T}(p:RR σ X aA a.tmps){o:Oper}{x:Arg}(E:dF Q σ o (.qy x)=ag){v:V}{H':an}
  (h:bu aA X.H (.qy x)=ab (v,H')):iK Q σ X v H' (execOp a.eval o):=by
 simp only [dF]at E;split at E
 ·rename_i y S;have i:=bS p E;simp only [bu]at h;unfold zk at h;split at h
  ·rename_i b r;rw [r]at i;obtain⟨L,f,_,W⟩:=i;split at h
   ·rename_i m c done u;obtain⟨_,_,bp,d,l⟩:=s.br b L f;rw [u]at d;simp only [sh]at d;subst d;obtain⟨J,sn,st,M,_,B,q⟩:=l;split at h
    ·rename_i j;obtain⟨_,_,bp,d,l⟩:=s.br m J M;rw [j]at d;simp only [sh]at d;subst d;obtain⟨K,F,Z,_⟩:=l;have:K=[]:=api Z.len.symm;subst this;split at h
     ·simp at h
     ·rename_i z;simp only [sh,IT]at h;obtain⟨rfl,rfl⟩:=h;simp only [z,atY,if_false]at q;subst q;refine⟨.tuple #[.bool ah],X,.inl ?_,rfl,s,⟨[.bool ah],rfl,A2.cons (cN.bool _) A2.nil⟩,Ext.refl _ _,N⟩;simp only [execOp,S];refine dZ ?_;simp [Instr.next,W,getObj,Sem.run,B,F,Result.andThen,choose,Question.forced]
    ·rename_i e j;obtain⟨H,F,Z,w,k⟩:=FQ s M j;split at h
     ·rename_i z;simp only [sh,IT]at h;obtain⟨rfl,rfl⟩:=h;simp only [z,if_true]at q;obtain⟨rfl,rfl⟩:=q;refine⟨.tuple #[.bool ah],X,.inl ?_,rfl,s,⟨[.bool ah],rfl,A2.cons (cN.bool _) A2.nil⟩,Ext.refl _ _,N⟩;simp only [execOp,S];refine dZ ?_;simp [Instr.next,W,getObj,Sem.run,B,F,k,Result.andThen,choose,Question.forced]
     ·rename_i z;split at h
      ·rename_i U;subst U;simp only [sh,IT]at h;obtain⟨rfl,rfl⟩:=h;simp only [z,atY,if_false]at q;subst q;obtain⟨q1,I⟩:=SR.qP (o':=.mapIter (ab J.c) 1 #[0] 1) (blk':=.vw m 1 ag) s u f B (by simp) (by simp)
        (fun bp g=>⟨.vw m 1 ag,by simp [(BY.1 u).1],by rw [u]at g;simp only [sh]at g;subst g;exact⟨⟨rfl,rfl⟩,fun L h=>h⟩⟩)
        (fun X' t Y _ A n=>by
         have O:b≠m:=fun e=>by rw [e,j]at u;cases u
         exact⟨J,#[0],1,by rw [A];exact M,⟨_,by rw [n,By O];exact j⟩,Y,rfl,rfl⟩)
       refine⟨.tuple #[.bool ag,H.key,H.val],_,.inl ?_,rfl,q1,?_,I,by simpa using N⟩
       ·simp only [execOp,S];refine dZ ?_;simp [Instr.next,W,getObj,setObj,Sem.run,B,F,k,Result.andThen,choose,Question.forced]
       ·exact⟨[.bool ag,H.key,H.val],rfl,A2.cons (cN.bool _) (A2.cons (cN.mono I.F I.fw Z) (A2.cons (ju.ext' σ I w) A2.nil))⟩
      ·simp at h
    ·simp at h
   ·simp at h
  ·simp at h
 ·simp at E
end
section
variable{Q:Program}{σ:Nat→FuncId}{X:Wd}
def de(a b:c6):Prop:=
 match a with
 | .box cs g=>(match b with
  | .box cs' d=>cs=cs'∧g≤d
  | _=>False)
 | .bR s cs g e st=>(match b with
  | .bR s' cs' d l j=>s=s'∧cs=cs'∧g≤d∧e=l∧st=j
  | _=>False)
 | a=>a=b
theorem de.refl(a:c6):de a a:=by cases a<;>simp [de]
theorem de.trans{a b c:c6}(h:de a b)(k:de b c):de a c:=by
 cases a<;>cases b<;>simp only [de,reduceCtorEq]at h<;>cases c<;>simp only [de,reduceCtorEq]at k ⊢
 ·exact⟨h.1.trans k.1,aua h.2 k.2⟩
 ·exact⟨h.1.trans k.1,h.2.1.trans k.2.1,aua h.2.2.1 k.2.2.1,h.2.2.2.1.trans k.2.2.2.1,h.2.2.2.2.trans k.2.2.2.2⟩
 all_goals exact h.trans k
def gj(H H':an):Prop:=H.length=H'.length∧∀(b:Nat) bp blk',H[b]?=ab bp→H'[b]?=ab blk'→de bp blk'
theorem gj.refl(H:an):gj H H:=⟨rfl,fun b bp blk' h d=>by rw [h]at d;cases d;exact de.refl _⟩
theorem gj.get{H H':an}(h:gj H H'){b:Nat}{bp:c6}(g:H[b]?=ab bp):∃ blk',H'[b]?=ab blk'∧de bp blk':=by
 have j:=(BY.1 g).1;have d:b<H'.length:=by have:=h.1;omega
 exact⟨_,AT d,h.2 b _ _ g (AT d)⟩
theorem gj.trans{A B C:an}(h:gj A B)(k:gj B C):gj A C:=
 ⟨h.1.trans k.1,fun b x z g j=>by obtain⟨y,hy,d⟩:=h.get g;exact d.trans (k.2 b y z hy j)⟩
theorem gj.none{H H':an}(h:gj H H'){b:Nat}(d:H[b]?=ae):H'[b]?=ae:=by
 rw [auG]at d ⊢;have:=h.1;omega
theorem gj.set{H:an}{b:Nat}{bp blk':c6}(g:H[b]?=ab bp)(h:de bp blk'):gj H (H.set b blk'):=by
 have j:=(BY.1 g).1;refine⟨by simp,fun i x y d hy=>?_⟩;by_cases hi:i=b
 ·subst hi;simp only [avb,if_true,j]at hy;rw [g]at d;cases d;cases hy;exact h
 ·rw [By (Ne.symm hi)]at hy;rw [d]at hy;cases hy;exact de.refl _
theorem gj.foldl{f:an→C→an}(b:∀ H x,gj H (f H x)):∀(xs:List C) (H:an),gj H (xs.foldl f H)
 | [],H=>gj.refl H| x::xs,H=>(b H x).trans (gj.foldl b xs (f H x))
theorem kP:∀(n:Nat) (x:C) (H:an),gj H (iG n x H)
 | n,.f _,H=>by cases n<;>exact gj.refl H
 | 0,.ptr _ _ _,H=>gj.refl H| 0,.sl _ _ _ _ _ _,H=>gj.refl H| 0,.cl _ _,H=>gj.refl H| 0,.yl _,H=>gj.refl H| 0,.mp _,H=>gj.refl H| 0,.it _,H=>gj.refl H| 0,.bm _ _,H=>gj.refl H| 0,.mi _,H=>gj.refl H
 | n+1,.ptr b off m,H=>by
  simp only [iG];split
  ·rename_i cs j d;exact(gj.set d (by exact⟨rfl,auh _ _⟩)).trans (gj.foldl (fun H x=>kP n x H) _ _)
  ·exact gj.refl H
 | n+1,.sl b o l c m sz,H=>by
  simp only [iG];split
  ·rename_i cs j d;exact(gj.set d (by exact⟨rfl,auh _ _⟩)).trans (gj.foldl (fun H x=>kP n x H) _ _)
  ·rename_i s cs j e st d;exact(gj.set d (by exact⟨rfl,rfl,auh _ _,rfl,rfl⟩)).trans (gj.foldl (fun H x=>kP n x H) _ _)
  ·exact gj.refl H
 | n+1,.cl f g,H=>gj.foldl (fun H x=>kP n x H) _ _
 | n+1,.yl _,H=>gj.refl H| n+1,.mp _,H=>gj.refl H| n+1,.it _,H=>gj.refl H| n+1,.bm _ _,H=>gj.refl H| n+1,.mi _,H=>gj.refl H
theorem eU{b j:Type}{f g:b→Option j}:∀ {xs:List b},(∀ x ∈ xs,f x=g x)→aZ f xs=aZ g xs
 | [],_=>rfl| x::xs,h=>by rw [aZ,aZ,h x (by simp),eU (xs:=xs) (fun y d=>h y (List.mem_cons_of_mem _ d))]
theorem nA:∀(n:Nat) {H H':an},gj H H'→∀(x:C),db n H' x=db n H x
 | n,H,H',h,.f _=>by cases n<;>rfl
 | 0,H,H',h,.ptr _ _ _=>rfl| 0,H,H',h,.sl _ _ _ _ _ _=>rfl| 0,H,H',h,.cl _ _=>rfl| 0,H,H',h,.yl _=>rfl| 0,H,H',h,.mp _=>rfl| 0,H,H',h,.it _=>rfl| 0,H,H',h,.bm _ _=>rfl| 0,H,H',h,.mi _=>rfl
 | n+1,H,H',h,.ptr b off s=>by
  simp only [db];cases m:H[b]? with
  | none=>rw [h.none m]
  | some bp=>
   obtain⟨blk',d,j⟩:=h.get m;rw [d];cases bp<;>cases blk'<;>simp only [de,reduceCtorEq]at j
   ·obtain⟨rfl,_⟩:=j;simp only [eU (g:=db n H) fun x _=>nA n h x]
   all_goals rfl
 | n+1,H,H',h,.sl b o l c s sz=>by
  simp only [db];cases m:H[b]? with
  | none=>rw [h.none m]
  | some bp=>
   obtain⟨blk',d,j⟩:=h.get m;rw [d];cases bp<;>cases blk'<;>simp only [de,reduceCtorEq]at j
   ·obtain⟨rfl,_⟩:=j;simp only [eU (g:=db n H) fun x _=>nA n h x]
   ·obtain⟨rfl,rfl,u,rfl,rfl⟩:=j;clear u;rename_i st _;cases st<;>simp only [eU (g:=db n H) fun x _=>nA n h x]
   all_goals rfl
 | n+1,H,H',h,.cl f q=>by simp only [db,eU (g:=db n H) fun x _=>nA n h x]
 | n+1,H,H',h,.yl _=>rfl| n+1,H,H',h,.mp _=>rfl| n+1,H,H',h,.it _=>rfl| n+1,H,H',h,.bm _ _=>rfl| n+1,H,H',h,.mi _=>rfl
def dA:Nat→an→C→Prop
 | _,_,.f _=>True| 0,_,_=>True| n+1,H,.ptr b _ _=>∀ cs d,H[b]?=ab (.box cs d)→cs.length≤d∧∀ x ∈ cs,dA n H x
 | n+1,H,.sl b o l _ _ sz=>∀ bp,H[b]?=ab bp→match bp with
  | .box cs d=>o+l*sz≤d∧∀ x ∈ (cs.drop o).take (l*sz),dA n H x| .bR _ cs d _ .loc=>o+l*sz≤d∧∀ x ∈ (cs.drop o).take (l*sz),dA n H x| _=>True
 | n+1,H,.cl _ g=>∀ x ∈ g,dA n H x| _,_,_=>True
theorem dA.le:∀(n:Nat) {H H':an},gj H H'→∀ {x:C},dA n H x→dA n H' x
 | n,H,H',h,.f _,_=>by cases n<;>trivial
 | 0,H,H',h,.ptr _ _ _,_=>trivial| 0,H,H',h,.sl _ _ _ _ _ _,_=>trivial| 0,H,H',h,.cl _ _,_=>trivial| 0,H,H',h,.yl _,_=>trivial| 0,H,H',h,.mp _,_=>trivial| 0,H,H',h,.it _,_=>trivial| 0,H,H',h,.bm _ _,_=>trivial| 0,H,H',h,.mi _,_=>trivial
 | n+1,H,H',h,.ptr b off A,v=>by
  intro cs F m;have y:=(BY.1 m).1;have s:b<H.length:=by have:=h.1;omega
  have d:=h.2 b _ _ (AT s) m;cases g:H[b]<;>rw [g]at d<;>simp only [de,reduceCtorEq]at d;obtain⟨rfl,q⟩:=d;obtain⟨B,E⟩:=v _ _ (by rw [AT s,g]);exact⟨aua B q,fun x u=>dA.le n h (E x u)⟩
 | n+1,H,H',h,.sl b o l c A sz,v=>by
  intro blk' m;have y:=(BY.1 m).1;have s:b<H.length:=by have:=h.1;omega
  have d:=h.2 b _ _ (AT s) m;have j:=v _ (AT s);cases g:H[b]<;>rw [g]at d j<;>cases blk'<;>simp only [de,reduceCtorEq]at d<;>try simp only
  ·obtain⟨rfl,q⟩:=d;exact⟨aua j.1 q,fun x u=>dA.le n h (j.2 x u)⟩
  ·obtain⟨rfl,rfl,q,rfl,rfl⟩:=d;rename_i st _;cases st<;>simp only at j ⊢;exact⟨aua j.1 q,fun x u=>dA.le n h (j.2 x u)⟩
 | n+1,H,H',h,.cl f z,v=>fun x u=>dA.le n h (v x u)
 | n+1,H,H',h,.yl _,_=>trivial| n+1,H,H',h,.mp _,_=>trivial| n+1,H,H',h,.it _,_=>trivial| n+1,H,H',h,.bm _ _,_=>trivial| n+1,H,H',h,.mi _,_=>trivial
theorem fh{n:Nat}(b:∀(x:C) (H:an),dA n (iG n x H) x):∀(xs:List C) (H:an),∀ x ∈ xs,dA n (xs.foldl (fun H x=>iG n x H) H) x
 | y::ys,H,x,d=>by
  simp only [auV];rcases aui.1 d with rfl | d
  ·exact dA.le n (gj.foldl (fun H x=>kP n x H) ys _) (b x H)
  ·exact fh b ys _ x d
theorem iN:∀(n:Nat) (x:C) (H:an),dA n (iG n x H) x
 | n,.f _,H=>by cases n<;>trivial
 | 0,.ptr _ _ _,H=>trivial| 0,.sl _ _ _ _ _ _,H=>trivial| 0,.cl _ _,H=>trivial| 0,.yl _,H=>trivial| 0,.mp _,H=>trivial| 0,.it _,H=>trivial| 0,.bm _ _,H=>trivial| 0,.mi _,H=>trivial
 | n+1,.ptr b off I,H=>by
  simp only [iG];cases u:H[b]? with
  | none=>intro cs E h;exfalso;simp only at h;exact absurd (u.symm.trans h) (by simp)
  | some bp=>
   cases bp with
   | box d g=>
    intro cs E h;have s:=(BY.1 u).1;simp only at h ⊢;have z:=gj.foldl (fun H x=>kP n x H) d (H.set b (.box d (Nat.max g d.length)));obtain⟨blk',j,m⟩:=z.get (b:=b) (bp:=.box d (Nat.max g d.length)) (by simp [s]);rw [h]at j;cases j;obtain⟨rfl,q⟩:=m;exact⟨aua (aud _ _) q,fun x v=>fh (fun x H=>iN n x H) _ _ x v⟩
   | _=>intro cs E h;simp only at h;rw [u]at h;cases h
 | n+1,.sl b o l c I sz,H=>by
  simp only [iG];cases u:H[b]? with
  | none=>intro bp h;exfalso;simp only at h;exact absurd (u.symm.trans h) (by simp)
  | some bp=>
   have s:=(BY.1 u).1;cases bp with
   | box d g=>
    intro bp h;simp only at h ⊢;have z:=gj.foldl (fun H x=>kP n x H) ((d.drop o).take (l*sz)) (H.set b (.box d (Nat.max g (o+l*sz))));obtain⟨blk',j,m⟩:=z.get (b:=b) (bp:=.box d (Nat.max g (o+l*sz))) (by simp [s]);rw [h]at j;cases j;cases bp<;>simp only [de,reduceCtorEq]at m;obtain⟨rfl,q⟩:=m;exact⟨aua (aud _ _) q,fun x v=>fh (fun x H=>iN n x H) _ _ x v⟩
   | bR F d g B y=>
    intro bp h;simp only at h ⊢;have z:=gj.foldl (fun H x=>kP n x H) ((d.drop o).take (l*sz)) (H.set b (.bR F d (Nat.max g (o+l*sz)) B y));obtain⟨blk',j,m⟩:=z.get (b:=b) (bp:=.bR F d (Nat.max g (o+l*sz)) B y) (by simp [s]);rw [h]at j;cases j;cases bp<;>simp only [de,reduceCtorEq]at m;obtain⟨rfl,rfl,q,rfl,rfl⟩:=m;cases y<;>simp only;exact⟨aua (aud _ _) q,fun x v=>fh (fun x H=>iN n x H) _ _ x v⟩
   | _=>intro bp h;simp only at h;rw [u]at h;cases h;simp
 | n+1,.cl f A,H=>fun x v=>fh (fun x H=>iN n x H) _ _ x v
 | n+1,.yl _,H=>trivial| n+1,.mp _,H=>trivial| n+1,.it _,H=>trivial| n+1,.bm _ _,H=>trivial| n+1,.mi _,H=>trivial
end
section
variable{Q:Program}{σ:Nat→FuncId}{X:Wd}
def c8(H H':an):Prop:=∀(b:Nat) bp,H[b]?=ab bp→∃ blk',H'[b]?=ab blk'∧de bp blk'
theorem c8.refl(H:an):c8 H H:=fun _ bp h=>⟨bp,h,de.refl _⟩
theorem c8.trans{A B C:an}(h:c8 A B)(k:c8 B C):c8 A C:=fun b x j=>by
 obtain⟨y,hy,d⟩:=h b x j;obtain⟨z,l,g⟩:=k b y hy;exact⟨z,l,d.trans g⟩
theorem gj.ext{H H':an}(h:gj H H'):c8 H H':=fun _ _ b=>h.get b
theorem c8.append(H H':an):c8 H (H++H'):=fun b bp d=>⟨bp,by rw [AI (BY.1 d).1];exact d,de.refl _⟩
theorem c8.len{H H':an}(h:c8 H H'):H.length≤H'.length:=by
 rcases aut H'.length H.length with d | b
 ·obtain⟨y,hy,_⟩:=h H'.length _ (AT d);have:=(BY.1 hy).1;omega
 ·exact b
theorem SR.ahead(l:SR Q σ X){H':an}(h:c8 X.H H'):SR Q σ { X with H:=H' }∧Ext X.H.length X { X with H:=H' }:=by
 have u:Ext X.H.length X { X with H:=H' }:=
  {B:=rfl,F:=fun _ _ h=>h,pT:=fun _ _ h=>.inl h,fw:=fun _ _ _=>rfl
   cu:=fun b _ bp m=>by
    obtain⟨blk',q,d⟩:=h b bp m;refine⟨blk',q,?_⟩;cases bp<;>cases blk'<;>simp only [de,reduceCtorEq]at d<;>simp_all
   xp:=fun b L h=>.inl ⟨b,L,h,rfl⟩,size:=aft _,os:=rfl,tape:=rfl,output:=rfl,frame:=fun _ _ _=>rfl }
 refine⟨⟨fun b L m=>?_,l.inj,l.fb⟩,u⟩;obtain⟨y,z,bp,A,E⟩:=l.br b L m;obtain⟨blk',I,g⟩:=h b bp A;refine⟨y,z,blk',I,?_⟩;have j:BR Q σ { X with H:=H' } bp L:=BR.ext Q σ u rfl (fun _ h=>h) E;cases bp<;>cases blk'<;>simp only [de,reduceCtorEq]at g
 ·obtain⟨rfl,d⟩:=g;obtain⟨us,g1,g2,g3⟩:=j;exact⟨us,g1,g2,fun i hi=>g3 i (aua d hi)⟩
 ·obtain⟨rfl,rfl,d,rfl,rfl⟩:=g;obtain⟨s,us,rest,g1,g2,g3,g4,v,x⟩:=j;exact⟨s,us,rest,g1,g2,g3,g4,v,fun i hi=>x i (aua d hi)⟩
 all_goals (rw [←g];exact j)
def yV:c6→Nat→Prop
 | .box cs b,i=>i<b∧i<cs.length| .bR _ cs b _ _,i=>i<b∧i<cs.length| _,_=>False
def FL(X:Wd):Prop:=∀ b L i bp,X.cC b=ab L→X.H[b]?=ab bp→yV bp i→X.F L.c i
def Wd.flag(X:Wd):Wd:={ X with F:=fun c i=>X.F c i∨∃ b L bp,X.cC b=ab L∧L.c=c∧X.H[b]?=ab bp∧yV bp i }
theorem SR.flag(v:SR Q σ X):SR Q σ X.flag∧Ext X.H.length X X.flag∧FL X.flag:=by
 have g:Ext X.H.length X X.flag:=
  {B:=rfl,F:=fun _ _ h=>.inl h
   pT:=fun c i h=>by
    rcases h with h | ⟨b,L,bp,j,l,_⟩
    ·exact .inl h
    ·exact .inr (.inr ⟨b,L,j,l⟩)
   fw:=fun _ _ _=>rfl
   cu:=fun b _=>by
    intro bp y;refine⟨bp,y,?_⟩;cases bp<;>simp [Wd.flag]
   xp:=fun b L h=>.inl ⟨b,L,h,rfl⟩,size:=aft _,os:=rfl,tape:=rfl,output:=rfl,frame:=fun _ _ _=>rfl }
 refine⟨⟨fun b L y=>?_,v.inj,fun c i h=>?_⟩,g,fun b L i bp j l x=>.inr ⟨b,L,bp,j,rfl,l,x⟩⟩
 ·obtain⟨j,l,bp,x,u⟩:=v.br b L y;refine⟨j,l,bp,x,?_⟩;have key:∀ i,X.flag.F L.c i→X.F L.c i∨yV bp i:=by
   rintro i (h | ⟨E,K,blk',g1,g2,g3,g4⟩)
   ·exact .inl h
   ·have:E=b:=v.inj _ _ _ _ g1 y g2;subst this;rw [x]at g3;cases g3;exact .inr g4
  cases bp with
  | box cs H=>
   obtain⟨us,g1,g2,g3⟩:=u;exact⟨us,g1,A2.ext' σ g g2,fun i hi z=>(key i z).elim (g3 i hi) fun h=>by have:=h.1;omega⟩
  | bR sz cs H M st=>
   obtain⟨A,us,rest,g1,g2,g3,g4,I,J⟩:=u;exact⟨A,us,rest,g1,A2.ext' σ g g2,g3,g4,I,fun i hi z=>(key i z).elim (J i hi) fun h=>by have:=h.1;omega⟩
  | map es=>exact BR.ext Q σ g rfl (fun i h=>(key i h).elim id False.elim) u
  | it s p=>exact BR.ext Q σ g rfl (fun i h=>(key i h).elim id False.elim) u
  | kM b=>exact BR.ext Q σ g rfl (fun i h=>(key i h).elim id False.elim) u
  | vw m s d=>exact BR.ext Q σ g rfl (fun i h=>(key i h).elim id False.elim) u
  | lp f t p a c st q d=>exact BR.ext Q σ g rfl (fun i h=>(key i h).elim id False.elim) u
 ·rcases h with h | ⟨b,L,bp,j,l,_⟩
  ·exact v.fb c i h
  ·rw [←l];exact(v.br b L j).2.1
theorem fO{d g:Type}{f:d→Option g}:∀ {xs:List d} {ys:List g},aZ f xs=ab ys→A2 (fun x y=>f x=ab y) xs ys
 | [],ys,h=>by simp only [aZ,sh]at h;subst h;exact A2.nil
 | x::xs,ys,h=>by
  simp only [aZ]at h;split at h
  ·simp at h
  ·rename_i y j;split at h
   ·simp at h
   ·rename_i l b;simp only [sh]at h;subst h;exact A2.cons j (fO b)
theorem frz(hS:SR Q σ X)(hF:FL X){H:an}(Y:c8 H X.H):∀(n:Nat) {x:C} {y:FC} {v:Value},db n H x=ab y→dA n H x→CR σ X x v→cN σ X.F X.w y v
 | n,.f x,y,v,d,_,B=>by
  have:db n H (.f x)=ab x:=by cases n<;>rfl
  rw [this]at d;cases d;exact B
 | 0,.ptr _ _ _,y,v,d,_,_=>by simp [db]at d
 | 0,.sl _ _ _ _ _ _,y,v,d,_,_=>by simp [db]at d
 | 0,.cl _ _,y,v,d,_,_=>by simp [db]at d
 | 0,.yl _,y,v,d,_,_=>by simp [db]at d
 | 0,.mp _,y,v,d,_,_=>by simp [db]at d
 | 0,.it _,y,v,d,_,_=>by simp [db]at d
 | 0,.bm _ _,y,v,d,_,_=>by simp [db]at d
 | 0,.mi _,y,v,d,_,_=>by simp [db]at d
 | n+1,.ptr b off ep,y,v,d,hm,B=>by
  simp only [db]at d;split at d
  ·rename_i cs M K;simp only [IN]at d;obtain⟨ys,g,rfl⟩:=d;obtain⟨O,I⟩:=hm cs M K;obtain⟨blk',m,j⟩:=Y b _ K;cases blk'<;>simp only [de,reduceCtorEq]at j;obtain⟨rfl,j⟩:=j;rename_i W;obtain⟨L,U,B⟩:=B;simp only [m]at B;subst B;obtain⟨_,_,bp,E,N⟩:=hS.br b L U;rw [m]at E;cases E;obtain⟨us,A,z,_⟩:=N;have g:=fO g;have:=cN.fp (σ:=σ) (F:=X.F) (w:=X.w) ys off L.c 0 us (by rw [←z.len,g.len])
    (fun i hi=>by rw [auJ];exact hF b L i _ U m ⟨by have:=g.len;omega,by have:=g.len;omega⟩)
    (fun i u S=>by rw [auJ,dR A];exact S)
    (fun i y u hy S=>by
     have hi:i<cs.length:=by rw [g.len];exact(BY.1 hy).1
     have Z:=AT hi;exact frz hS hF Y n (g.2 i _ _ Z hy) (I _ (IS hi)) (z.2 i _ _ Z S))
   rw [auJ]at this;exact this
  ·simp at d
 | n+1,.sl b o l c ep sz,y,v,d,hm,B=>by
  have key:∀(cs:List C) (M:Nat) (blk':c6) (L:Loc) (us rest:List Value) (ys:List FC) (cap:Nat),o+l*sz≤cs.length→o+l*sz≤M →
    (∀ i,i<M→i<cs.length→yV blk' i)→X.H[b]?=ab blk'→X.cC b=ab L→rowAt X.w L.c (us++rest)→A2 (CR σ X) cs us →
    (∀ x ∈ (cs.drop o).take (l*sz),dA n H x)→aZ (db n H) ((cs.drop o).take (l*sz))=ab ys→l≤cap→cN σ X.F X.w (.fs ys l) (.slice (ab ⟨L.c,o,ae⟩) l cap):=by
   intro cs M blk' L us rest ys cap q O a7 m U A z I g J;have g:=fO g;have b9:=z.len;have b7:ys.length=l*sz:=by rw [←g.len];simp;omega
   have a_:=(z.drop o).take (l*sz);refine .fs ys l L.c o cap ((us.drop o).take (l*sz)) J (by rw [b7];simp;omega) (fun i hi=>hF b L _ _ U m (a7 _ (by omega) (by omega))) (fun i u S=>?_) (fun i y u hy S=>?_)
   ·have hi:i<l*sz:=by
     have:=(BY.1 S).1;simp at this;omega
    rw [dR A,AI (by omega)];rw [List.getElem?_take_of_lt hi,at8]at S;exact S
   ·have hi:i<((cs.drop o).take (l*sz)).length:=by rw [g.len];exact(BY.1 hy).1
    have Z:=AT hi;exact frz hS hF Y n (g.2 i _ _ Z hy) (I _ (IS hi)) (a_.2 i _ _ Z S)
  simp only [db]at d;simp only [CR,fR]at B;split at d
  ·rename_i cs M K;split at d
   ·rename_i q;simp only [IN]at d;obtain⟨ys,g,rfl⟩:=d;obtain⟨O,I⟩:=hm _ K;obtain⟨blk',m,j⟩:=Y b _ K;cases blk'<;>simp only [de,reduceCtorEq]at j;obtain⟨rfl,j⟩:=j;rename_i W;simp only [m]at B;obtain⟨L,U,J,rfl⟩:=B;obtain⟨_,_,bp,E,N⟩:=hS.br b L U;rw [m]at E;cases E;obtain⟨us,A,z,_⟩:=N;exact key cs M (.box cs W) L us [] ys c q O (fun i h1 h2=>⟨by omega,h2⟩) m U (by simpa using A) z I g J
   ·simp at d
  ·rename_i s cs M e K;split at d
   ·rename_i q;obtain⟨rfl,rfl,q⟩:=q;simp only [IN]at d;obtain⟨ys,g,rfl⟩:=d;obtain⟨O,I⟩:=hm _ K;obtain⟨blk',m,j⟩:=Y b _ K;cases blk'<;>simp only [de,reduceCtorEq]at j;obtain⟨rfl,rfl,j,rfl,rfl⟩:=j;rename_i W;simp only [m]at B;obtain⟨L,U,k,ho,J,rfl⟩:=B.2.1 trivial trivial;obtain⟨_,_,bp,E,N⟩:=hS.br b L U;rw [m]at E;cases E;obtain⟨_,us,rest,A,z,_⟩:=N;exact key cs M (.bR sz cs W ep .loc) L us rest ys _ q O (fun i h1 h2=>⟨by omega,h2⟩) m U A z I g (by omega)
   ·simp at d
  ·rename_i s cs M e K;split at d
   ·rename_i q;obtain⟨rfl,rfl⟩:=q;cases d;obtain⟨blk',m,j⟩:=Y b _ K;cases blk'<;>simp only [de,reduceCtorEq]at j;obtain⟨rfl,rfl,j,rfl,rfl⟩:=j;simp only [m]at B;obtain⟨_,_,rfl⟩:=B.2.1 trivial trivial;exact .aG
   ·simp at d
  ·rename_i s cs M e K;split at d
   ·rename_i q;obtain⟨rfl,rfl⟩:=q;cases d;obtain⟨blk',m,j⟩:=Y b _ K;cases blk'<;>simp only [de,reduceCtorEq]at j;obtain⟨rfl,rfl,j,rfl,rfl⟩:=j;simp only [m]at B;obtain⟨_,_,a,rfl⟩:=B.2.1 trivial trivial;exact .es a
   ·simp at d
  ·simp at d
 | n+1,.cl f a9,y,v,d,hm,B=>by
  simp only [db,IN]at d;obtain⟨ys,g,rfl⟩:=d;obtain⟨us,rfl,z⟩:=B;have g:=fO g;refine .fn f ys us (by rw [←z.len,g.len]) fun i y u hy S=>?_;have hi:i<a9.length:=by rw [g.len];exact(BY.1 hy).1
  have Z:=AT hi;exact frz hS hF Y n (g.2 i _ _ Z hy) (hm _ (IS hi)) (CR.of1 σ (z.2 i _ _ Z S))
 | n+1,.yl _,y,v,d,_,_=>by simp [db]at d
 | n+1,.mp _,y,v,d,_,_=>by simp [db]at d
 | n+1,.it _,y,v,d,_,_=>by simp [db]at d
 | n+1,.bm _ _,y,v,d,_,_=>by simp [db]at d
 | n+1,.mi _,y,v,d,_,_=>by simp [db]at d
end
section
variable{Q:Program}{σ:Nat→FuncId}{X:Wd}
theorem SR.skip(g:SR Q σ X){w':World}{o:Obj}(d:dP X.w w' o)(q:X.B≤X.w.heap.size):∃ X':Wd,X'.w=w'∧X'.H=X.H∧SR Q σ X'∧Ext X.H.length X X'∧X'.B≤X'.w.heap.size:=by
 have j:Ext X.H.length X { X with w:=w' }:=Ext.one g X.H.length rfl (fun _ _=>Iff.rfl) (fun k m _=>d.CE m)
  (fun L i h=>by rw [SR.rX g]at h;simp at h) (fun h=>absurd h (avp _)) (fun _ _ _=>rfl) (fun _ _=>rfl) (fun L h=>.inl ⟨L,h,rfl⟩) (by show _≤w'.heap.size;rw [d.size];omega) d.os d.tape d.output
 refine⟨{ X with w:=w' },rfl,rfl,SR.step Q σ g j X.H.length (fun _ _=>rfl) (fun _ _=>rfl) (fun b L _ l=>d.CE (g.br b L l).2.1)
  (fun _ _ _ _ _ h=>h) (fun L h=>by change X.cC X.H.length=ab L at h;rw [SR.rX g]at h;simp at h) (fun c i h=>?_),j,?_⟩
 ·have:=g.fb c i h;show c<w'.heap.size;rw [d.size];omega
 ·show X.B≤w'.heap.size;rw [d.size];omega
theorem mF{n:Int}(b:0≤n)(d:n<2 ^ 63):IntKind.i64.wrap n=n:=by
 have:n % (2 ^ 64:Int)=n:=Int.emod_eq_of_lt b (by omega);simp only [IntKind.wrap,IntKind.bits,IntKind.signed,this,Bool.true_and,decide_eq_true_eq];rw [aY (by show¬ n≥2 ^ (64-1);omega)]
theorem Ef(hS:SR Q σ X)(hB:X.B≤X.w.heap.size){a:Act}{aA:T}(hR:RR σ X aA a.tmps){o:Oper}{sz bytes:Nat}{zs:List FC}{x y:Arg}(F:dF Q σ o (.c4 sz bytes zs x y)=ag){v:V}{H':an}
  (h:bu aA X.H (.c4 sz bytes zs x y)=ab (v,H')):iK Q σ X v H' (execOp a.eval o):=by
 simp only [dF]at F;split at F
 ·rename_i t x' y' ho;simp only [If,decide_eq_true_eq]at F;obtain⟨⟨⟨k,r⟩,O⟩,b7⟩:=F;have k:=bS hR k;have r:=bS hR r;obtain⟨e,hu,O⟩:=iU O;simp only [If]at O;obtain⟨⟨j,Z⟩,hz⟩:=O;obtain⟨z,us,a7,a9,M,d6,b_,c9⟩:=eF (σ:=σ) (X:=X) hz X.w;obtain⟨b9,u,A⟩:=zG Z X.w;simp only [bu]at h;split at h
  ·rename_i l c hl hc;obtain⟨kl,p⟩:=jD k hl;obtain⟨kc,w⟩:=jD r hc;split at h
   ·rename_i s;obtain⟨h0,c_,g,d5⟩:=s;unfold bU at g;simp only [If,decide_eq_true_eq]at g;have J:us.length=sz:=by have:=M.len;simp at this;omega
    have L:=mF (n:=l) h0 (by omega);have K:=mF (n:=c) (by omega) (by omega);have a_:c.toNat*bytes≤2 ^ 48:=by
     have:c.toNat*bytes≤(2*c.toNat+768)*bytes:=auP _ (by omega);omega
    have m:¬ ((bytes:Int)*c>2 ^ 48):=by
     have e1:(bytes:Int)*c=((c.toNat*bytes:Nat):Int):=by
      rw [Int.natCast_mul,auY];congr 1;omega
     rw [e1];omega
    have I:((Array.range (c.toNat*sz)).map fun i=>us.toArray[i % us.toArray.size]!)=(cP c.toNat us).toArray:=by
     have:=jq us c.toNat (by omega);rwa [J]at this
    have run:(execOp a.eval o).run Q X.w=.ok (.value (.slice (ab ⟨X.w.heap.size,0,ae⟩) l.toNat c.toNat)) (X.w.alloc (.cells (cP c.toNat us).toArray e)):=by
     simp only [execOp,ho];refine dZ ?_;rw [p,w];have B:¬ c<0:=by omega
     have E:¬ l<0:=by omega
     have q:¬ l>c:=by omega
     by_cases d:c.toNat*sz=0
     ·have f:cP c.toNat us=[]:=api (by rw [lG,J];exact d);have b:((decide (c<0)||decide ((bytes:Int)*c>2 ^ 48))||decide (l<0)||decide (l>c))=ah:=by rw [decide_eq_false B,decide_eq_false E,decide_eq_false q,decide_eq_false m];rfl
      simp only [Instr.makeSlice,Sem.run_bind,a5 hu,asInt,asIntOf,Sem.run_pure,Result.andThen_ok,u,A,L,K,run_askRoom,c5 j];simp only [b,atY,if_false,Sem.run_ite,bg d,Sem.run_bind,Result.andThen_ok,Sem.run_pure,run_askRoom,c5 j,newRow,run_newObj];rw [d,f,show(Array.map (fun x=>(#[]:Array Value)[x % (#[]:Array Value).size]!) (Array.range 0))=#[] from by simp [show Array.range 0=(#[]:Array Nat) from rfl]];rfl
     ·simp only [Instr.makeSlice,Sem.run_bind,a5 hu,asInt,asIntOf,Sem.run_pure,Result.andThen_ok,u,A,L,K,run_askRoom,c5 j];have b:((decide (c<0)||decide ((bytes:Int)*c>2 ^ 48))||decide (l<0)||decide (l>c))=ah:=by rw [decide_eq_false B,decide_eq_false E,decide_eq_false q,decide_eq_false m];rfl
      simp only [b,atY,if_false,Sem.run_ite,aY d,Sem.run_bind,a7,a9,Result.andThen_ok,Sem.run_pure,run_askRoom,c5 j,I,newRow,run_newObj];rfl
    split at h
    ·rename_i d;subst d;simp only [sh,IT]at h;obtain⟨rfl,rfl⟩:=h;have:l=0:=by omega
     subst this;obtain⟨X',S,N,U,W,Y⟩:=SR.skip hS (dP.alloc X.w (.cells (cP (0:Int).toNat us).toArray e)) hB;exact⟨_,X',.inl (by rw [S];exact run),N,U,cN.es _,W,Y⟩
    ·simp only [sh,IT]at h;obtain⟨rfl,rfl⟩:=h;obtain⟨X',S,N,U,W,Y,g6⟩:=Eh hS hB (kj M c.toNat) e;refine⟨_,X',.inl (by rw [S];exact run),N,U,?_,W,g6⟩;have H:X'.H[X.H.length]?=ab (.box ((cP c.toNat zs).map .f) 0):=by rw [N];simp
     simp only [VR,ju,CR,fR,H];exact⟨_,Y,by omega,rfl⟩
   ·simp at h
  ·simp at h
 ·simp at F
theorem akk(H:an):∀ x,db 0 H x=fcC x:=fun x=>by cases x<;>rfl
theorem ahy(hS:SR Q σ X)(hB:X.B≤X.w.heap.size){a:Act}{aA:T}(I:RR σ X aA a.tmps){o:Oper}{sz:Nat}{x hi mx:Arg}(B:dF Q σ o (.vY sz x hi mx)=ag){v:V}{H':an}
  (h:bu aA X.H (.vY sz x hi mx)=ab (v,H')):iK Q σ X v H' (execOp a.eval o):=by
 simp only [dF]at B;split at B
 ·rename_i t y S mx' ho;simp only [If,decide_eq_true_eq]at B;obtain⟨⟨⟨⟨z,h2⟩,h3⟩,he⟩,hz⟩:=B;obtain⟨e,hu,E⟩:=iU he;simp only [bu]at h;unfold Cj at h;have o1:OR X σ ae ae:=trivial;have o2:OR X σ (ab (hi.ev aA)) (ab (a.eval S)):=bS I h2;have o3:OR X σ (ab (mx.ev aA)) (ab (a.eval mx')):=bS I h3;have z:=bS I z;split at h
  ·rename_i v' hv;simp only [sh,IT]at h;obtain⟨rfl,rfl⟩:=h;obtain⟨r,F,h5⟩:=x9 hu E z o1 o2 o3 hv;exact⟨r,X,.inl (by simp only [execOp,ho];exact dZ F),rfl,hS,h5,Ext.refl _ _,hB⟩
  ·split at h
   ·rename_i b o' n c' l s b9;rw [b9]at z;simp only [VR,ju,CR,fR]at z;split at h
    ·rename_i s' cs q e' J;rw [J]at z;split at h
     ·rename_i M;obtain⟨rfl,rfl,rfl,rfl⟩:=M;split at h
      ·rename_i i j d Y;split at h
       ·rename_i W;obtain⟨rfl,d5,c_⟩:=W;split at h
        ·rename_i ys b_;simp only [sh,IT]at h;obtain⟨rfl,rfl⟩:=h;obtain⟨L,hL,k,hk,d7,b7⟩:=z.2.1 rfl rfl;have Z:k=0:=by
          rcases Nat.eq_zero_or_pos k with h | h
          ·exact h
          ·have:=Nat.mul_pos h hz;omega
         subst Z;have d6:i≤n:=by
          unfold CD at d;split at d
          ·split at d
           ·rename_i hh;simp only [sh]at d;omega
           ·simp at d
          ·simp at d
         have K:cL n n ae (ab (hi.ev aA)) (ab (mx.ev aA))=ab (0,i,i):=by
          have U:CD (hi.ev aA) i=ab i:=by
           unfold CD at d ⊢;split at d
           ·split at d
            ·rename_i hh;simp only [sh]at d;rw [bg ⟨hh.1,by omega⟩,d]
            ·simp at d
           ·simp at d
          simp [cL,Y,U]
         obtain⟨F,_,_,_⟩:=dO (Q:=Q) o1 o2 o3 K (cap:=L.cap) (by omega) (aft n) ag X.w;have h6:=eL (a:=ab ⟨L.c,0,ae⟩) hu E F;have a7:gj X.H (X.H.set b (.bR s' cs (Nat.max q (i*s')) l .loc)):=gj.set J ⟨rfl,rfl,auh _ _,rfl,rfl⟩;obtain⟨g1,g2⟩:=SR.ahead hS a7.ext;obtain⟨g3,g4,g5⟩:=SR.flag g1;have a9:=(BY.1 J).1;have m:(X.H.set b (.bR s' cs (Nat.max q (i*s')) l .loc))[b]?=ab (.bR s' cs (Nat.max q (i*s')) l .loc):=by simp [a9]
         have O:db 1 (X.H.set b (.bR s' cs (Nat.max q (i*s')) l .loc)) (.sl b 0 i 0 l s')=ab (.fs ys i):=by
          simp only [db,m];rw [bg ⟨trivial,trivial,by omega⟩,eU (g:=fcC) fun x _=>akk _ x,List.drop_zero,b_];rfl
         have a_:dA 1 (X.H.set b (.bR s' cs (Nat.max q (i*s')) l .loc)) (.sl b 0 i 0 l s'):=by
          intro bp u;rw [m]at u;cases u;refine⟨by have:=aud q (i*s');simp only [auJ];exact this,fun x _=>?_⟩;cases x<;>trivial
         have N:CR σ ({ X with H:=X.H.set b (.bR s' cs (Nat.max q (i*s')) l .loc) }:Wd).flag (.sl b 0 i 0 l s') (.slice (ab ⟨L.c,0,ae⟩) i L.cap):=by
          simp only [CR,fR,Wd.flag,m];exact⟨aft _,fun _ _=>⟨L,hL,0,by omega,by omega,by simp⟩,_,_,_,rfl⟩
         have hf:=frz g3 g5 (c8.refl _) 1 O a_ N;have A:cN σ ({ X with H:=X.H.set b (.bR s' cs (Nat.max q (i*s')) l .loc) }:Wd).flag.F X.w (.fs ys i) (.slice (ab ⟨L.c,0,ae⟩) i i):=by
          cases hf with
          | fs _ _ c o2 cap us c9 hl hF M hr=>exact .fs _ _ _ _ _ us (aft _) hl hF M hr| fs0 a2 cap=>omega
         refine⟨.slice (ab ⟨L.c,0,ae⟩) i i,({ X with H:=X.H.set b (.bR s' cs (Nat.max q (i*s')) l .loc) }:Wd).flag,.inl ?_,rfl,g3,A,g2.trans (g4.mono (by simp)),hB⟩;simp only [execOp,ho];refine dZ ?_;rw [b7];simp [show i≠0 by omega,ee]at h6;exact h6
        ·simp at h
       ·simp at h
      ·simp at h
     ·simp at h
    ·simp at h
   ·simp at h
 ·simp at B
theorem amA(d:SR Q σ X)(g:X.B≤X.w.heap.size){a:Act}{aA:T}(j:RR σ X aA a.tmps){o:Oper}{l:cV}(b:dF Q σ o l=ag){v:V}{H':an}
  (h:bu aA X.H l=ab (v,H')):iK Q σ X v H' (execOp a.eval o):=by
 cases q:l.fsl
 case true=>
  cases l<;>simp only [cV.fsl,reduceCtorEq]at q;obtain⟨rfl,u,X',E,F,H,I,J,K,_⟩:=xl d g j b h;exact⟨u,X',.inl E,F,H,I,J,K⟩
 by_cases A:cls l=.p∨cls l=.r
 ·exact iK.aoX g d (aiW d j b A q h)
 ·cases l with
  | pre st sz=>exact amd d g b h
  | alloc zs=>
   simp only [bu,sh,IT]at h;obtain⟨rfl,rfl⟩:=h;exact Zn d g b
  | box x=>
   simp only [bu]at h;split at h
   ·rename_i xs s;simp only [sh,IT]at h;obtain⟨rfl,rfl⟩:=h;exact ajY d g j b s
   ·simp at h
  | aR sz zs n ps=>exact M8 d g j b h| store n x y=>exact abA d g j b h
  | kD=>
   simp only [bu,sh,IT]at h;obtain⟨rfl,rfl⟩:=h;exact aar d g b
  | kB L x y z=>exact aal d g j b h| c4 sz m zs x y=>exact Ef d g j b h| range x=>exact aa7 d g j b h| next x=>exact agp d g j b h
  | append sz m x y=>exact M3 d g j b h| DJ x=>simp [dF]at b| copy sz x y=>simp [dF]at b| clear sz zs x=>exact ZN d g j b h| sO sz m zs x y=>exact afl d g j b h| mw x=>exact Oj d g j b h| vY sz x y z=>exact ahy d g j b h| qy x=>exact aav d g j b h| call f xs B=>simp [bu]at h| cj x xs B=>simp [bu]at h| recover=>simp [bu]at h| defer x xs=>simp [bu]at h| bad=>simp [bu]at h| _=>exact absurd (by simp [cls]) A
end
section
variable{Q:Program}{σ:Nat→FuncId}{X:Wd}
def lS(n:Nat)(H:an):V→Prop
 | .c x=>dA n H x| .a xs=>∀ x ∈ xs,dA n H x| _=>True
theorem lS.le{n:Nat}{H H':an}(h:gj H H'){v:V}(b:lS n H v):lS n H' v:=by
 cases v with
 | c x=>exact dA.le n h b| a xs=>exact fun x d=>dA.le n h (b x d)
 | _=>trivial
theorem akO(n:Nat)(v:V)(H:an):gj H (mkV n H v):=by
 cases v with
 | c x=>exact kP n x H| a xs=>exact gj.foldl (fun H x=>kP n x H) xs H
 | _=>exact gj.refl H
theorem Ec(n:Nat)(v:V)(H:an):lS n (mkV n H v) v:=by
 cases v with
 | c x=>exact iN n x H| a xs=>exact fun x b=>fh (fun x H=>iN n x H) xs H x b
 | _=>trivial
theorem oF(n:Nat):∀(b:List V) (H:an),gj H (b.foldl (mkV n) H)
 | [],H=>gj.refl H| v::b,H=>(akO n v H).trans (oF n b _)
theorem sC(n:Nat):∀(b:List V) (H:an),∀ v ∈ b,lS n (b.foldl (mkV n) H) v
 | u::b,H,v,d=>by
  rcases aui.1 d with rfl | d
  ·exact(Ec n v H).le (oF n b _)
  ·exact sC n b _ v d
def FV1(σ:Nat→FuncId)(F:Nat→Nat→Prop)(w:World)(v:V)(u:Value):Prop:=∀ X:Wd,X.F=F→X.w=w→ju σ X v u
def FV(σ:Nat→FuncId)(F:Nat→Nat→Prop)(w:World)(v:V)(u:Value):Prop:=∀ X:Wd,X.F=F→X.w=w→VR σ X v u
theorem aiL(z:SR Q σ X)(q:FL X){H:an}(s:c8 H X.H){n:Nat}{v F:V}{u:Value}(d:bX n H v=ab F)(A:lS n H v)(B:ju σ X v u):FV1 σ X.F X.w F u:=by
 intro Z g j;cases v with
 | c x=>
  simp only [bX,IN]at d;obtain⟨y,m,rfl⟩:=d;have:=frz z q s n m A B;rw [←g,←j]at this;exact this
 | a xs=>
  simp only [bX,IN]at d;obtain⟨ys,b,rfl⟩:=d;obtain⟨us,rfl,l⟩:=B;have b:=fO b;refine⟨us,rfl,A2.map ⟨by rw [←l.len,b.len],fun i y u m I=>?_⟩⟩;have hi:i<xs.length:=by rw [b.len];exact(BY.1 m).1
  have E:=AT hi;have:=frz z q s n (b.2 i _ _ E m) (A _ (IS hi)) (l.2 i _ _ E I);rw [←g,←j]at this;exact this
 | top=>simp [bX]at d| t J=>simp [bX]at d
def c6.full:c6→c6
 | .box cs d=>.box cs (Nat.max d cs.length)| .bR s cs d e st=>.bR s cs (Nat.max d cs.length) e st| b=>b
theorem yX(H:an):gj H (H.map c6.full):=by
 refine⟨by simp,fun b x y g d=>?_⟩;rw [auN,g]at d;simp only [auz,sh]at d;subst d;cases x<;>simp [de,c6.full,auh]
theorem fW:∀(n:Nat) {H:an} {x:C} {y:FC},db n H x=ab y→dA n (H.map c6.full) x
 | n,H,.f _,y,_=>by cases n<;>trivial
 | 0,H,.ptr _ _ _,y,_=>trivial| 0,H,.sl _ _ _ _ _ _,y,_=>trivial| 0,H,.cl _ _,y,_=>trivial| 0,H,.yl _,y,_=>trivial| 0,H,.mp _,y,_=>trivial| 0,H,.it _,y,_=>trivial| 0,H,.bm _ _,y,_=>trivial| 0,H,.mi _,y,_=>trivial
 | n+1,H,.ptr b off B,y,d=>by
  intro cs E j;rw [auN]at j;simp only [db]at d;split at d
  ·rename_i cs' u g;rw [g]at j;simp only [auz,sh,c6.full,c6.box.injEq]at j;obtain⟨rfl,rfl⟩:=j;simp only [IN]at d;obtain⟨ys,m,rfl⟩:=d;refine⟨aud _ _,fun x v=>?_⟩;obtain⟨i,hi⟩:=auH v;obtain⟨y,_,z⟩:=(fO m).get hi;exact fW n z
  ·simp at d
 | n+1,H,.sl b o l c B sz,y,d=>by
  intro bp j;rw [auN]at j;simp only [db]at d;split at d
  ·rename_i cs' u g;rw [g]at j;simp only [auz,sh,c6.full]at j;subst j;split at d
   ·rename_i q;simp only [IN]at d;obtain⟨ys,m,rfl⟩:=d;refine⟨aua q (aud _ _),fun x v=>?_⟩;obtain⟨i,hi⟩:=auH v;obtain⟨y,_,z⟩:=(fO m).get hi;exact fW n z
   ·simp at d
  ·rename_i s cs' u e g;rw [g]at j;simp only [auz,sh,c6.full]at j;subst j;split at d
   ·rename_i q;simp only [IN]at d;obtain⟨ys,m,rfl⟩:=d;refine⟨aua q.2.2 (aud _ _),fun x v=>?_⟩;obtain⟨i,hi⟩:=auH v;obtain⟨y,_,z⟩:=(fO m).get hi;exact fW n z
   ·simp at d
  ·rename_i s cs' u e g;rw [g]at j;simp only [auz,sh,c6.full]at j;subst j;trivial
  ·rename_i s cs' u e g;rw [g]at j;simp only [auz,sh,c6.full]at j;subst j;trivial
  ·simp at d
 | n+1,H,.cl f A,y,d=>by
  simp only [db,IN]at d;obtain⟨ys,m,rfl⟩:=d;intro x v;obtain⟨i,hi⟩:=auH v;obtain⟨y,_,z⟩:=(fO m).get hi;exact fW n z
 | n+1,H,.yl _,y,d=>trivial| n+1,H,.mp _,y,d=>trivial| n+1,H,.it _,y,d=>trivial| n+1,H,.bm _ _,y,d=>trivial| n+1,H,.mi _,y,d=>trivial
theorem yY{n:Nat}{H:an}{v l:V}(b:bX n H v=ab l):lS n (H.map c6.full) v:=by
 cases v with
 | c x=>
  simp only [bX,IN]at b;obtain⟨y,d,rfl⟩:=b;exact fW n d
 | a xs=>
  simp only [bX,IN]at b;obtain⟨ys,g,rfl⟩:=b;intro x j;obtain⟨i,hi⟩:=auH j;obtain⟨y,_,d⟩:=(fO g).get hi;exact fW n d
 | _=>trivial
def Wd.inner(X:Wd):Wd:=⟨fun _=>ae,X.F,[],X.w,X.w.heap.size⟩
theorem SR.inner(d:SR Q σ X):SR Q σ X.inner:=⟨fun b L h=>by simp [Wd.inner]at h,fun b j L g h=>by simp [Wd.inner]at h,d.fb⟩
def Wd.jV(Y:Wd):Wd:=Wd.flag { Y with H:=Y.H.map c6.full }
theorem SR.jV{Y:Wd}(m:SR Q σ Y):SR Q σ Y.jV∧Ext Y.H.length Y Y.jV∧FL Y.jV:=by
 obtain⟨b,d⟩:=SR.ahead m (yX Y.H).ext;obtain⟨g,j,l⟩:=SR.flag b;exact⟨g,d.trans (j.mono (by simp)),l⟩
theorem DR{Y:Wd}(J:SR Q σ Y){n:Nat}{v g:V}{u:Value}(b:fZ n Y.H v=ab g)(A:VR σ Y v u):FV σ Y.jV.F Y.w g u:=by
 obtain⟨F,H,I⟩:=SR.jV J;have m:=VR.ext' σ H A;have q:∀ {v g:V} {u:Value},bX n Y.H v=ab g→ju σ Y.jV v u→FV1 σ Y.jV.F Y.w g u:=by
  intro v g u b A;have z:bX n Y.jV.H v=ab g:=by
   show bX n (Y.H.map c6.full) v=ab g;cases v with
   | c x=>simp only [bX]at b ⊢;rw [nA n (yX Y.H)];exact b| a xs=>simp only [bX]at b ⊢;rw [eU (fun x _=>nA n (yX Y.H) x)];exact b
   | _=>simp [bX]at b
  exact aiL F I (c8.refl _) z (yY b) A
 intro Z j l;cases v with
 | t L=>
  simp only [fZ,IN]at b;obtain⟨M,d,rfl⟩:=b;obtain⟨us,rfl,s⟩:=m;have d:=fO d;refine⟨us,rfl,by rw [←s.len,d.len],fun i y u E K=>?_⟩;have hi:i<L.length:=by rw [d.len];exact(BY.1 E).1
  have B:=AT hi;exact q (d.2 i _ _ B E) (s.2 i _ _ B K) Z j l
 | c x=>exact VR.of1 σ (q (v:=.c x) b m Z j l)| a xs=>exact VR.of1 σ (q (v:=.a xs) b m Z j l)| top=>simp [fZ,bX]at b
theorem SR.outer(u:SR Q σ X)(y:X.B≤X.w.heap.size){Y:Wd}(v:SR Q σ Y)(d:Ext 0 X.inner Y) :
  SR Q σ { X with F:=Y.jV.F,w:=Y.w }∧Ext X.H.length X { X with F:=Y.jV.F,w:=Y.w }∧X.B≤Y.w.heap.size:=by
 obtain⟨x,s,z⟩:=SR.jV v;have OC:X.w.heap.size≤Y.w.heap.size:=d.size;have g:∀ k,k<X.w.heap.size→Y.w.heap[k]?=X.w.heap[k]?:=fun k q=>d.frame k q (fun b L h=>by simp [Wd.inner]at h);have l:∀ c i,Y.jV.F c i→X.F c i∨X.w.heap.size≤c:=by
  intro c i h;rcases s.pT c i h with h | h | ⟨b,L,m,rfl⟩
  ·rcases d.pT c i h with h | h | ⟨b,L,m,_⟩
   ·exact .inl h
   ·exact .inr h
   ·simp [Wd.inner]at m
  ·exact .inr (aua OC h)
  ·have:=(v.br b L m).1;rw [d.B]at this;exact .inr this
 have j:Ext X.H.length X { X with F:=Y.jV.F,w:=Y.w }:=
  {B:=rfl,F:=fun c i h=>s.F c i (d.F c i h)
   pT:=fun c i h=>(l c i h).elim .inl fun h=>.inr (.inl h)
   fw:=fun c i h=>d.fw c i h
   cu:=fun b _ bp m=>⟨bp,m,by cases bp<;>simp⟩
   xp:=fun b L h=>.inl ⟨b,L,h,rfl⟩,size:=OC,os:=d.os,tape:=d.tape,output:=d.output,frame:=fun k q _=>g k q }
 refine⟨⟨fun b L m=>?_,u.inj,fun c i h=>x.fb c i h⟩,j,aua y OC⟩;obtain⟨g1,g2,bp,g3,g4⟩:=u.br b L m;refine⟨g1,auI g2 OC,bp,g3,BR.ext Q σ j (g _ g2) (fun i h=>?_) g4⟩;rcases l _ _ h with h | h
 ·exact h
 ·omega
end
section
variable{Q:Program}{σ:Nat→FuncId}{X:Wd}
def rk(Q:Program)(σ:Nat→FuncId)(X:Wd)(v:V)(H':an)(X':Wd)(u:Value):Prop:=
 X'.H=H'∧SR Q σ X'∧VR σ X' v u∧Ext X.H.length X X'∧X'.B≤X'.w.heap.size
def pk(b:CallKind)(cs:List Frame):Prop:=b=.normal∨(b=.deferred∧∃ c rest,cs=c::rest∧c.mode=.returning)
def jE(b:Frame)(cs:List Frame):Prop:=pk b.kind cs
theorem pk.N1{fr:Frame}{cs:List Frame}(h:pk fr.kind cs):tryRecover fr cs=ae:=by
 unfold tryRecover;rcases h with h | ⟨h,c,rest,rfl,b⟩
 ·rw [h]
 ·rw [h];simp [b]
def Leaves(Q:Program)(f:FuncId)(b:CallKind)(fr:Frame)(u:Value)(w:World):Prop:=
 fr.mode=.returning∧fr.defers=[]∧fr.kind=b∧fr.fn=f∧∃ fn,Q.funcs[f]?=ab fn∧(Go.results fn fr.tmps).run Q w=.ok u w
structure eR(Q:Program)(σ:Nat→FuncId)(call:cO):Prop where
 enters:∀ f args H r,call (.fn f) args H=ab r→∀ as w,(callFunc (σ f) as).run Q w=.ok (.enter (σ f) as) w
 fn:∀ f args H r H',call (.fn f) args H=ab (r,H')→∀(X:Wd) us kind cs,X.H=H→SR Q σ X→X.B≤X.w.heap.size→A2 (VR σ X) args us→pk kind cs →
  ∃ fr X' u,Steps Q (lone (Frame.enter Q (σ f) us.toArray kind) cs X.w) (lone fr cs X'.w)∧Leaves Q (σ f) kind fr u X'.w∧rk Q σ X r H' X' u
 yield:∀ b args H r H',call (.yield b) args H=ab (r,H')→∀(X:Wd) us c cs L,X.H=H→SR Q σ X→X.B≤X.w.heap.size→A2 (VR σ X) args us→X.cC b=ab L →
  ∃ f tmps as bd X' u,(Instr.yield L.c us.toArray).run Q X.w=.ok (.round L.c f tmps as bd) X.w ∧
   Steps Q (lone (Frame.round L.c f tmps as bd .normal) (c::cs) X.w) (lone (c.finish u) cs X'.w)∧rk Q σ X r H' X' u
def cW(Q:Program)(σ:Nat→FuncId)(X:Wd)(o:Oper)(a:Act)(v:V)(H':an):Prop:=
 ∀(b:Frame) (ops:Array Oper) (i:Nat) (rest:List Nat) (k:List Item) (cs:List Frame),ops[i]?=ab o→Region.wanted o (yielded ops a.tmps)=ag→jE b cs →
  ∃ X' u,Steps Q (lone (b.atR a (.inRegion ops (i::rest)::k)) cs X.w) (lone (b.atR (a.put o.dst u) (.inRegion ops rest::k)) cs X'.w)∧rk Q σ X v H' X' u
theorem cW.aoW{o:Oper}{a:Act}{v:V}{H':an}(x:∀ c,o.op≠.defer c)(h:iK Q σ X v H' (execOp a.eval o)):cW Q σ X o a v H':=by
 intro b ops i rest k cs ho y z;obtain⟨u,X',d,j,l,m,q,s⟩:=h;refine⟨X',u,.one (step_lone_go ?_),j,l,m,q,s⟩;rw [stepGR_op ho y,Oper.semAt_eq _ _ _ x];have g:=Frame.finish_atR b a ops i rest k u;rw [ho]at g;simp only [auf]at g;rw [←g];rcases d with d | ⟨d,rfl⟩<;>simp [stepG.apply,Sem.runT_eq,d]
theorem cW.uR{o:Oper}{a:Act}{v:V}{H':an}(m:∀ c,o.op≠.defer c){f:FuncId}{us:Array Value}(g:(execOp a.eval o).run Q X.w=.ok (.enter f us) X.w)
  (h:∀ cs,∃ fr X' u,Steps Q (lone (Frame.enter Q f us .normal) cs X.w) (lone fr cs X'.w)∧Leaves Q f .normal fr u X'.w∧rk Q σ X v H' X' u):cW Q σ X o a v H':=by
 intro b ops i rest k cs ho q B;obtain⟨fr,X',u,j,⟨l1,s,x,y,fn,z,A⟩,l⟩:=h (b.atR a (.inRegion ops (i::rest)::k)::cs);refine⟨X',u,.head (step_lone_go (fr':=Frame.enter Q f us .normal) (cs':=b.atR a (.inRegion ops (i::rest)::k)::cs) (w':=X.w) ?_) (j.trans (.one ?_)),l⟩
 ·rw [stepGR_op ho q,Oper.semAt_eq _ _ _ m];simp [stepG.apply,Sem.runT_eq,g,Frame.atR]
 ·have d:=Frame.finish_atR b a ops i rest k u;rw [ho]at d;simp only [auf]at d;rw [←d];exact step_leave_returned ⟨l1,s,x,fn,by rw [y];exact z,A⟩
theorem cW.aax{o:Oper}{a:Act}{v:V}{H':an}(q:∀ c,o.op≠.defer c){l:Nat}{f:FuncId}{tmps:Array Value}{as bd:Code}(g:(execOp a.eval o).run Q X.w=.ok (.round l f tmps as bd) X.w)
  (h:∀ c cs,∃ X' u,Steps Q (lone (Frame.round l f tmps as bd .normal) (c::cs) X.w) (lone (c.finish u) cs X'.w)∧rk Q σ X v H' X' u):cW Q σ X o a v H':=by
 intro b ops i rest k cs ho s x;obtain⟨X',u,j,m⟩:=h (b.atR a (.inRegion ops (i::rest)::k)) cs;refine⟨X',u,.head (step_lone_go (fr':=Frame.round l f tmps as bd .normal) (cs':=b.atR a (.inRegion ops (i::rest)::k)::cs) (w':=X.w) ?_) ?_,m⟩
 ·rw [stepGR_op ho s,Oper.semAt_eq _ _ _ q];simp [stepG.apply,Sem.runT_eq,g,Frame.atR]
 ·have d:=Frame.finish_atR b a ops i rest k u;rw [ho]at d;simp only [auf]at d;rw [←d];exact j
theorem o9{x:V}{u:Value}{args:List V}{us:List Value}{c:Callee}{d:List V}(j:ca x args=ab (c,d))(l:VR σ X x u)(q:A2 (VR σ X) args us) :
  match c with
  | .fn f=>∃ fst cap:List Value,u=.func (.func (σ f)) fst.toArray cap.toArray∧A2 (VR σ X) d (fst++us++cap)| .yield b=>d=args∧∃ L,X.cC b=ab L∧u=.func (.yield L.c) #[] #[]:=by
 unfold ca at j;split at j
 ·rename_i f m;cases j;cases l with
  | fn _ _ cap y hr=>
   refine⟨[],cap,rfl,q.append (A2.map ⟨y.symm,fun i x u l z=>?_⟩)⟩;exact hr i x u l z
 ·rename_i f m;cases j;obtain⟨cap,rfl,g⟩:=l;exact⟨[],cap,rfl,q.append (A2.map (g.lR fun x u h=>CR.of1 σ h))⟩
 ·rename_i b;cases j;obtain⟨L,v,_,rfl⟩:=l;exact⟨rfl,L,v,rfl⟩
 ·rename_i f first
  cases j;obtain⟨cap,rfl,g⟩:=l;have s:A2 (VR σ X) (first.map .c) cap:=A2.map (g.lR fun x u h=>CR.of1 σ h);exact⟨cap,[],rfl,by simpa using s.append q⟩
 ·simp at j
theorem jm{a:Act}{o:Oper}{cl:Call}{y:Operand}(b:o.op=.call cl)(g:cl.callee=.value y){w:World}{fn:Fn}{fst cap:Array Value}(d:a.eval y=.func fn fst cap) :
  (execOp a.eval o).run Q w=(invoke (.fn fn cap) (fst++cl.args.map a.eval)).run Q w:=by
 simp only [execOp,b,resolve,g,d,Deferred.ofValue,Sem.run_bind,Sem.run_pure,Result.andThen_ok]
theorem eI{f:FuncId}{cap as:Array Value}{w:World}(h:∀ as w,(callFunc f as).run Q w=.ok (.enter f as) w):(invoke (.fn (.func f) cap) as).run Q w=.ok (.enter f (as++cap)) w:=by
 simp only [invoke];exact h _ _
end
section
variable{Q:Program}{σ:Nat→FuncId}{X:Wd}{call:cO}
theorem afH{n:Nat}{H H':an}(h:gj H H')(v:V):bX n H' v=bX n H v:=by
 cases v with
 | c x=>simp only [bX,nA n h]| a xs=>simp only [bX,eU (fun x _=>nA n h x)]
 | _=>rfl
theorem zC(J:eR Q σ call)(hS:SR Q σ X)(hB:X.B≤X.w.heap.size){f:Nat}{args:List V}{us:List Value}{H H':an}{r':V}(g:en call f args H=ab (r',H'))(hH:c8 H' X.H)(K:A2 (VR σ X) args us)(cs:List Frame) :
  (∀ as w,(callFunc (σ f) as).run Q w=.ok (.enter (σ f) as) w) ∧
  ∃ fr X' u,Steps Q (lone (Frame.enter Q (σ f) us.toArray .normal) cs X.w) (lone fr cs X'.w)∧Leaves Q (σ f) .normal fr u X'.w∧rk Q σ X r' X.H X' u∧X'.cC=X.cC:=by
 unfold en at g;split at g
 ·simp at g
 ·rename_i q d;split at g
  ·simp at g
  ·rename_i r N b;split at g
   ·simp at g
   ·rename_i a7 hr;simp only [sh,IT]at g;obtain⟨rfl,rfl⟩:=g;have z:=oF deep args H;have A:=sC deep args H;obtain⟨s,I,h3⟩:=SR.flag hS;have d:=fO d;have v:A2 (VR σ X.flag.inner) q us:=by
     refine⟨by rw [←d.len];exact K.len,fun i y u M hu=>?_⟩;have hi:i<args.length:=by rw [d.len];exact(BY.1 M).1
     have L:=AT hi;have l:bX deep H args[i]=ab y:=d.2 i _ _ L M;have m:=VR.ext' σ I (K.2 i _ _ L hu);rw [←afH z]at l;have B:ju σ X.flag args[i] u:=by
      cases j:args[i]with
      | c x=>rw [j]at m;exact m| a xs=>rw [j]at m;exact m| top=>trivial| t vs=>rw [j]at l;simp [bX]at l
     exact VR.of1 σ (aiL s h3 hH l (A _ (IS hi)) B X.flag.inner rfl rfl)
    obtain⟨fr,Y,u,O,S,U,E,W,Z,g7⟩:=J.fn f q [] r N b X.flag.inner us .normal cs rfl (SR.inner s) (aft _) v (.inl rfl);obtain⟨k1,k2,k3⟩:=SR.outer s hB E Z;refine⟨J.enters f q [] _ b,fr,{ X.flag with F:=Y.jV.F,w:=Y.w },u,O,S,⟨rfl,k1,?_,I.trans (k2.mono (aft _)),k3⟩,rfl⟩;rw [←U]at hr;exact DR E hr W _ rfl rfl
theorem nR{o:Oper}{f:Nat}{xs:List Arg}{h:Bool}(b:dF Q σ o (.call f xs h)=ag):∃ c,o.op=.call c∧c.callee=.value (.func (σ f))∧mAs σ xs c.args=ag:=by
 simp only [dF]at b;split at b
 ·rename_i c j;simp only [dJ]at b;split at b
  ·rename_i g d;simp only [If,beq_iff_eq]at b;exact⟨c,j,by rw [d,b.1],b.2⟩
  ·simp at b
 ·simp at b
theorem zu{o:Oper}{x:Arg}{xs:List Arg}{h:Bool}(b:dF Q σ o (.cj x xs h)=ag):∃ c y,o.op=.call c∧c.callee=.value y∧mA σ x y=ag∧mAs σ xs c.args=ag:=by
 simp only [dF]at b;split at b
 ·rename_i c d;simp only [dJ]at b;split at b
  ·rename_i y g;simp only [If]at b;exact⟨c,y,d,g,b.1,b.2⟩
  ·simp at b
 ·simp at b
theorem lC{o:Oper}{c:Call}(h:o.op=.call c):∀ c,o.op≠.defer c:=fun b e=>by rw [h]at e;cases e
theorem Bj(l:eR Q σ call)(q:SR Q σ X)(j:X.B≤X.w.heap.size){a:Act}{aA:T}(B:RR σ X aA a.tmps){o:Oper}{f:Nat}{xs:List Arg}{h:Bool}(F:dF Q σ o (.call f xs h)=ag)
  {H H':an} {v:V} (y:en call f (dj aA xs) H=ab (v,H')) (m:c8 H' X.H):cW Q σ X o a v X.H:=by
 obtain⟨c,x,E,d⟩:=nR F;have s:=nH B d;have b:=(zC l q j y m s []).1;refine cW.uR (lC x) (f:=σ f) (us:=c.args.map a.eval) ?_ fun cs=>?_
 ·rw [jm x E (fn:=.func (σ f)) (fst:=#[]) (cap:=#[]) rfl,eI b];simp
 ·obtain⟨_,fr,X',u,g,z,A,_⟩:=zC l q j y m s cs;exact⟨fr,X',u,by rw [Array.toArray_toList]at g;exact g,z,A⟩
theorem yM(A:eR Q σ call)(F:SR Q σ X)(z:X.B≤X.w.heap.size){a:Act}{aA:T}(E:RR σ X aA a.tmps){o:Oper}{f:Nat}{xs:List Arg}{h:Bool}(K:dF Q σ o (.call f xs h)=ag)
  {H H':an} {v:V} (L:en call f (dj aA xs) H=ab (v,H')) (B:c8 H' X.H)
  (b:Frame) (ops:Array Oper) (i:Nat) (rest:List Nat) (k:List Item) (cs:List Frame) (g:ops[i]?=ab o) (M:Region.wanted o (yielded ops a.tmps)=ag) :
  ∃ X' u,Steps Q (lone (b.atR a (.inRegion ops (i::rest)::k)) cs X.w) (lone (b.atR (a.put o.dst u) (.inRegion ops rest::k)) cs X'.w)∧rk Q σ X v X.H X' u∧X'.cC=X.cC:=by
 obtain⟨c,s,J,m⟩:=nR K;have I:=nH E m;obtain⟨l,fr,X',u,q,⟨N,O,S,U,fn,W,Y⟩,x,y⟩:=zC A F z L B I (b.atR a (.inRegion ops (i::rest)::k)::cs);rw [Array.toArray_toList]at q;have j:(execOp a.eval o).run Q X.w=.ok (.enter (σ f) (c.args.map a.eval)) X.w:=by
  rw [jm s J (fn:=.func (σ f)) (fst:=#[]) (cap:=#[]) rfl,eI l];simp
 refine⟨X',u,.head (step_lone_go (fr':=Frame.enter Q (σ f) (c.args.map a.eval) .normal) (cs':=b.atR a (.inRegion ops (i::rest)::k)::cs) (w':=X.w) ?_) (q.trans (.one ?_)),x,y⟩
 ·rw [stepGR_op g M,Oper.semAt_eq _ _ _ (lC s)];simp [stepG.apply,Sem.runT_eq,j,Frame.atR]
 ·have d:=Frame.finish_atR b a ops i rest k u;rw [g]at d;simp only [auf]at d;rw [←d];exact step_leave_returned ⟨N,O,S,fn,by rw [U];exact W,Y⟩
theorem Bi(j:eR Q σ call)(z:SR Q σ X)(x:X.B≤X.w.heap.size){a:Act}{aA:T}(y:RR σ X aA a.tmps){o:Oper}{f:Nat}{xs:List Arg}{h:Bool}(E:dF Q σ o (.call f xs h)=ag)
  {H':an} {v:V} (m:call (.fn f) (dj aA xs) X.H=ab (v,H')):cW Q σ X o a v H':=by
 obtain⟨c,l,B,d⟩:=nR E;have A:=nH y d;have b:=j.enters _ _ _ _ m;refine cW.uR (lC l) (f:=σ f) (us:=c.args.map a.eval) ?_ fun cs=>?_
 ·rw [jm l B (fn:=.func (σ f)) (fst:=#[]) (cap:=#[]) rfl,eI b];simp
 ·obtain⟨fr,X',u,g,q,s⟩:=j.fn _ _ _ _ _ m X _ .normal cs rfl z x A (.inl rfl);exact⟨fr,X',u,by rw [Array.toArray_toList]at g;exact g,q,s⟩
theorem ZL(A:eR Q σ call)(M:SR Q σ X)(J:X.B≤X.w.heap.size){a:Act}{aA:T}(K:RR σ X aA a.tmps){o:Oper}{x:Arg}{xs:List Arg}{h:Bool}(Z:dF Q σ o (.cj x xs h)=ag)
  {H':an} {v:V} {c:Callee} {args:List V} (m:ca (x.ev aA) (dj aA xs)=ab (c,args)) (E:call c args X.H=ab (v,H')):cW Q σ X o a v H':=by
 obtain⟨cl,y,s,O,hy,H⟩:=zu Z;have N:=nH K H;have S:=o9 m (bS K hy) N;cases c with
 | fn f=>
  obtain⟨fst,cap,j,F⟩:=S;have B:=A.enters _ _ _ _ E;refine cW.uR (lC s) (f:=σ f) (us:=fst.toArray++cl.args.map a.eval++cap.toArray) ?_ fun cs=>?_
  ·rw [jm s O j,eI B]
  ·obtain⟨fr,X',u,q,z,W⟩:=A.fn _ _ _ _ _ E X _ .normal cs rfl M J F (.inl rfl);refine⟨fr,X',u,?_,z,W⟩;have e:(fst++(cl.args.map a.eval).toList++cap).toArray=fst.toArray++cl.args.map a.eval++cap.toArray:=by simp
   rw [e]at q;exact q
 | yield b=>
  obtain⟨rfl,L,Y,j⟩:=S;have key:=fun c cs=>A.yield b _ _ _ _ E X _ c cs L rfl M J N Y;obtain⟨f,tmps,as,bd,_,_,g,_⟩:=key default [];refine cW.aax (lC s) (l:=L.c) (f:=f) (tmps:=tmps) (as:=as) (bd:=bd) ?_ fun c cs=>?_
  ·rw [jm s O j,Array.empty_append];rw [Array.toArray_toList]at g;exact g
  ·obtain⟨f',I,as',U,X',u,d,q,z⟩:=key c cs;rw [g]at d;simp only [Result.ok.injEq,Next.round.injEq,true_and,and_true]at d;obtain⟨rfl,rfl,rfl,rfl⟩:=d;exact⟨X',u,q,z⟩
end
section
variable{Q:Program}{σ:Nat→FuncId}{X:Wd}{call:cO}
def tK(σ:Nat→FuncId)(X:Wd):dH→Deferred→Prop
 | .qb b,d=>∃ L o,X.cC b=ab L∧X.H[b]?=ab (.kM o)∧d = { target:=.collected L.c,args:=#[] }| .fn f args,d=>∃ us cap:Array Value,d = { target:=.fn (.func (σ f)) cap,args:=us }∧A2 (VR σ X) args (us.toList++cap.toList)
theorem tK.dS{X X':Wd}(m:pS X.H.length X X'){x:dH}{d:Deferred}(h:tK σ X x d):tK σ X' x d:=by
 cases x with
 | qb b=>
  obtain⟨L,o,j,g,q⟩:=h;obtain⟨blk',s,l⟩:=m.cu b (BY.1 g).1 _ g;cases blk'<;>simp only at l;exact⟨L,_,l L j,s,q⟩
 | fn f args=>
  obtain⟨us,cap,j,g⟩:=h;exact⟨us,cap,j,g.lR fun _ _ h=>VR.dS σ m h⟩
def fJ(σ:Nat→FuncId)(X:Wd)(ds:List dH)(b:List Deferred):Prop:=A2 (tK σ X) ds b
theorem tK.ext'{X X':Wd}(b:Ext X.H.length X X'){x:dH}{d:Deferred}(h:tK σ X x d):tK σ X' x d:=tK.dS b.W h
theorem fJ.dS{X X':Wd}(b:pS X.H.length X X'){ds:List dH}{ms:List Deferred}(h:fJ σ X ds ms):fJ σ X' ds ms:=h.lR fun _ _ h=>tK.dS b h
theorem fJ.ext'{X X':Wd}(b:Ext X.H.length X X'){ds:List dH}{ms:List Deferred}(h:fJ σ X ds ms):fJ σ X' ds ms:=h.lR fun _ _ h=>tK.ext' b h
def pU(Q:Program)(σ:Nat→FuncId)(X:Wd)(o:Oper)(a:Act)(d:Frame→Prop)(v:V)(H':an)(ds:List dH):Prop:=
 ∀(b:Frame) (ops:Array Oper) (i:Nat) (rest:List Nat) (k:List Item) (cs:List Frame),ops[i]?=ab o→Region.wanted o (yielded ops a.tmps)=ag→jE b cs→d b →
  ∃(X':Wd) (u:Value) (a':Act),Steps Q (lone (b.atR a (.inRegion ops (i::rest)::k)) cs X.w) (lone (b.atR (a'.put o.dst u) (.inRegion ops rest::k)) cs X'.w)∧rk Q σ X v H' X' u∧a'.tmps=a.tmps∧fJ σ X' ds a'.defers
theorem cW.abH{o:Oper}{a:Act}{v:V}{H':an}(h:cW Q σ X o a v H'){ds:List dH}(j:fJ σ X ds a.defers){ok:Frame→Prop}:pU Q σ X o a ok v H' ds:=by
 intro b ops i rest k cs ho m l _;obtain⟨X',u,g,d⟩:=h b ops i rest k cs ho m l;exact⟨X',u,a,g,d,rfl,j.ext' d.2.2.2.1⟩
theorem cW.ahead(y:SR Q σ X){d H':an}(g:c8 X.H d){o:Oper}{a:Act}{v:V}(h:cW Q σ { X with H:=d } o a v H'):cW Q σ X o a v H':=by
 intro b ops i rest k cs ho A z;obtain⟨X',u,j,l,m,q,s,x⟩:=h b ops i rest k cs ho A z;exact⟨X',u,j,l,m,q,(SR.ahead y g).2.trans (s.mono g.len),x⟩
def gF(d:cV)(b:Frame):Prop:=b.roundOf=ae∨d.ec=ag
theorem EE(x:SR Q σ X)(v:X.B≤X.w.heap.size){a:Act}{o:Oper}(g:dF Q σ o .recover=ag){ds:List dH}(y:fJ σ X ds a.defers):pU Q σ X o a (gF .recover) (.c (.f .mZ)) X.H ds:=by
 intro b ops i rest k cs u A z hr;have hr:b.roundOf=ae:=hr.elim id fun h=>by simp [cV.ec]at h
 simp only [dF]at g;split at g
 ·rename_i c s;simp only [dJ]at g;split at g
  ·rename_i j;have l:(execOp a.eval o).run Q X.w=.ok .recover X.w:=by
    simp [execOp,s,resolve,j,invoke,builtin]
   refine⟨X,.nilIface,a,.one (step_lone_go ?_),⟨rfl,x,cN.mZ,Ext.refl _ _,v⟩,rfl,y⟩;rw [stepGR_op u A,Oper.semAt_eq _ _ _ (lC s)];have d:=Frame.finish_atR b a ops i rest k .nilIface;rw [u]at d;simp only [auf]at d;rw [←d];have m:tryRecover (b.atR a (.inRegion ops (i::rest)::k)) cs=ae:=pk.N1 z;have q:(b.atR a (.inRegion ops (i::rest)::k)).roundOf=ae:=hr;simp [stepG.apply,Sem.runT_eq,l,m,q]
  ·simp at g
 ·simp at g
theorem ZQ(z:SR Q σ X)(v:X.B≤X.w.heap.size){a:Act}{aA:T}(s:RR σ X aA a.tmps){o:Oper}{x:Arg}{xs:List Arg}(g:dF Q σ o (.defer x xs)=ag){ds:List dH}(B:fJ σ X ds a.defers)
  {f:Nat} {args:List V} (A:ca (x.ev aA) (dj aA xs)=ab (.fn f,args)):pU Q σ X o a (gF (.defer x xs)) .top X.H (.fn f args::ds):=by
 intro b ops i rest k cs u F I hr;have hr:b.roundOf=ae:=hr.elim id fun h=>by simp [cV.ec]at h
 simp only [dF]at g;split at g
 ·rename_i c j;split at g
  ·rename_i y H;simp only [If]at g;have E:=o9 A (bS s g.1) (nH s g.2);obtain⟨fst,cap,m,q⟩:=E;have l:(execOp a.eval o).run Q X.w=.ok (.defer { target:=.fn (.func (σ f)) cap.toArray,args:=fst.toArray++c.args.map a.eval }) X.w:=by
    simp [execOp,j,resolve,H,m,Deferred.ofValue]
   refine⟨X,undef,{ a with defers:={ target:=.fn (.func (σ f)) cap.toArray,args:=fst.toArray++c.args.map a.eval }::a.defers },.one (step_lone_go ?_),⟨rfl,z,trivial,Ext.refl _ _,v⟩,rfl,A2.cons ⟨_,_,rfl,by simpa using q⟩ B⟩;rw [stepGR_op u F,hr,Oper.semAt_none];have d:=Frame.finish_atR b { a with defers:={ target:=.fn (.func (σ f)) cap.toArray,args:=fst.toArray++c.args.map a.eval }::a.defers } ops i rest k undef;rw [u]at d;simp only [auf]at d;rw [←d];simp [stepG.apply,Sem.runT_eq,l,Frame.atR]
  ·simp at g
 ·simp at g
theorem qu{o:Oper}{b:cV}(g:dF Q σ o b=ag)(j:∀ x xs,b≠.defer x xs)(l:b≠.bad):∀ c,o.op≠.defer c:=by
 intro c d;cases b
 case pre o sz=>cases o<;>simp [dF,d]at g
 case defer x xs=>exact j _ _ rfl
 case bad=>exact l rfl
 all_goals simp [dF,d]at g
theorem GD(A:eR Q σ call)(j:SR Q σ X)(m:X.B≤X.w.heap.size){a:Act}{s s':St}(q:X.H=s.heap)(u:RR σ X s.aA a.tmps)(y:fJ σ X s.defs a.defers){o:Oper}{g:cV}(l:dF Q σ o g=ag){v:V}
  (h:eG call s g=ab (v,s')):pU Q σ X o a (gF g) v s'.heap s'.defs∧s'.aA=s.aA:=by
 by_cases E:(∃ f xs h,g=.call f xs h)∨(∃ x xs h,g=.cj x xs h)∨g=.recover∨∃ x xs,g=.defer x xs
 ·rcases E with⟨f,xs,L,rfl⟩ | ⟨x,xs,L,rfl⟩ | rfl | ⟨x,xs,rfl⟩
  ·simp only [eG,IN,IT]at h;obtain⟨⟨I,H'⟩,d,rfl,rfl⟩:=h;refine⟨cW.abH ?_ y,rfl⟩;unfold gG at d;split at d
   ·exact Bi A j m u l (q▸d)
   ·have z:c8 X.H H':=by
     have b:=d;unfold en at b;split at b
     ·simp at b
     ·split at b
      ·simp at b
      ·split at b
       ·simp at b
       ·simp only [sh,IT]at b;rw [←b.2,q];exact(oF _ _ _).ext
    obtain⟨J,K⟩:=SR.ahead j z;refine cW.ahead j z ?_;exact Bj A (X:={ X with H:=H' }) J m (u.ext' σ K) l d (c8.refl _)
  ·simp only [eG]at h;split at h
   ·rename_i c args B;simp only [IN,IT]at h;obtain⟨⟨I,H'⟩,d,rfl,rfl⟩:=h;exact⟨cW.abH (ZL A j m u l B (q▸d)) y,rfl⟩
   ·simp at h
  ·simp only [eG,sh,IT]at h;obtain⟨rfl,rfl⟩:=h;rw [←q];exact⟨EE j m l y,rfl⟩
  ·simp only [eG]at h;split at h
   ·rename_i f args B;simp only [sh,IT]at h;obtain⟨rfl,rfl⟩:=h;refine⟨?_,rfl⟩;rw [←q];exact ZQ j m u l y B
   ·simp at h
 ·have F:(bu s.aA s.heap g).map (fun r=>(r.1,{ s with heap:=r.2 }))=ab (v,s'):=by
   cases g<;>first | exact h | (exfalso;apply E;simp)
  simp only [IN,IT]at F;obtain⟨⟨I,H'⟩,d,rfl,rfl⟩:=F;refine⟨cW.abH (cW.aoW (qu l ?_ ?_) (amA j m u l (q▸d))) y,rfl⟩
  ·rintro x xs rfl;exact E (.inr (.inr (.inr ⟨x,xs,rfl⟩)))
  ·rintro rfl;simp [bu]at d
end
section
variable{Q:Program}{σ:Nat→FuncId}{X:Wd}{call:cO}
structure Fr(Q:Program)(σ:Nat→FuncId)(n:Nat)(X:Wd)(s:St)(a:Act):Prop where
 heap:X.H=s.heap
 sr:SR Q σ X
 b:X.B≤X.w.heap.size
 aA:RR σ X s.aA a.tmps
 defs:fJ σ X s.defs a.defers
 size:n≤a.tmps.size
theorem oQ{n:Nat}{ops:Array Oper}{o:Oper}{m:aO}(F:lv Q σ n ops o m=ag){aA:T}{tmps:Array Value}(I:∀ p w',m.g=ab (p,w')→VR σ X (aA.get p) (tmps.getD p.toNat undef))(K:n≤tmps.size){w:Bool}(h:wanted aA m.g=ab w) :
  Region.wanted o (yielded ops tmps)=w:=by
 simp only [lv,If]at F;obtain⟨_,b⟩:=F;unfold Region.wanted;cases x:o.guard with
 | none=>
  rw [x]at b;cases g:m.g with
  | none=>rw [g]at h;simp only [wanted,sh]at h;simpa using h| some q=>rw [g]at b;simp at b
 | some L=>
  obtain⟨j,N⟩:=L;rw [x]at b;cases g:m.g with
  | none=>rw [g]at b;simp at b
  | some q=>
   obtain⟨p,w'⟩:=q;rw [g]at b h;simp only [If,beq_iff_eq]at b;obtain⟨rfl,b⟩:=b;split at b
   ·rename_i d J;simp only [If,beq_iff_eq,decide_eq_true_eq]at b;obtain⟨B,A⟩:=b;have l:=I p _ g;rw [B]at l;have v:d<tmps.size:=auI A K;have s:tmps.getD d undef=tmps[d]:=by simp [Array.getD,v]
    rw [s]at l;simp only [wanted]at h;simp only [yielded,J,auf,Array.getElem?_eq_getElem v];split at h
    ·rename_i H z;rw [z]at l;simp only [sh]at h;have y:cN σ X.F X.w (.bool H) tmps[d]:=l;generalize tmps[d]=u at y;cases y;subst h;simp
    ·rename_i z;rw [z]at l;obtain⟨us,E,M⟩:=l;simp only [sh]at h;subst h;rw [E];simp
    ·simp at h
   ·simp at b
theorem aa4{n:Nat}{ops:Array Oper}{o:Oper}{m:aO}(s:lv Q σ n ops o m=ag){aA:T}{a:Act}(q:RR σ X aA a.tmps)(x:n≤a.tmps.size){v:V}{u:Value}(y:VR σ X v u) :
  RR σ X (ka aA m.dst v) (a.put o.dst u).tmps∧(a.put o.dst u).tmps.size=a.tmps.size∧(a.put o.dst u).defers=a.defers:=by
 simp only [lv,If]at s;obtain⟨⟨_,b⟩,_⟩:=s;split at b
 ·rename_i d p g j;simp only [If,beq_iff_eq,decide_eq_true_eq]at b;obtain⟨rfl,l⟩:=b;rw [g,j];exact⟨RR.set σ q (auI l x) y,by simp [Act.put],rfl⟩
 ·rename_i g j;rw [g,j];exact⟨q,rfl,rfl⟩
 ·simp at b
theorem VR.undef:VR σ X (.t []) undef:=⟨[],rfl,A2.nil⟩
theorem abL(L:eR Q σ call){n:Nat}{s s':St}{a:Act}(d:Fr Q σ n X s a){ops:Array Oper}{o:Oper}{m:aO}(j:lv Q σ n ops o m=ag)(h:fA call s m=ab s')
  {b:Frame} {i:Nat} {rest:List Nat} {k:List Item} {cs:List Frame} (x:ops[i]?=ab o) (M:jE b cs) (hr:gF m.op b) :
  ∃ X' a',Steps Q (lone (b.atR a (.inRegion ops (i::rest)::k)) cs X.w) (lone (b.atR a' (.inRegion ops rest::k)) cs X'.w)∧Fr Q σ n X' s' a'∧Ext X.H.length X X'∧a'.tmps.size=a.tmps.size:=by
 unfold fA at h;split at h
 ·rename_i g;have g:=oQ j (fun p w' _=>d.aA p) d.size g;split at h
  ·rename_i v N I;simp only [sh]at h;subst h;have l:dF Q σ o m.op=ag:=by simp only [lv,If]at j;exact j.1.1
   obtain⟨J,K⟩:=GD L d.sr d.b d.heap d.aA d.defs l I;obtain⟨X',u,a',z,⟨A,B,E,y,F⟩,q,H⟩:=J b ops i rest k cs x g M hr;obtain⟨p1,p2,p3⟩:=aa4 j (X:=X') (a:=a') (by rw [q];exact d.aA.ext' σ y) (by rw [q];exact d.size) E;refine⟨X',a'.put o.dst u,z,⟨A,B,F,?_,by rw [p3];exact H,by rw [p2,q];exact d.size⟩,y,by rw [p2,q]⟩;simpa [K]using p1
  ·simp at h
 ·rename_i g;have g:=oQ j (fun p w' _=>d.aA p) d.size g;simp only [sh]at h;subst h;obtain⟨p1,p2,p3⟩:=aa4 j d.aA d.size (VR.undef (σ:=σ) (X:=X));refine⟨X,a.put o.dst undef,.one ?_,⟨d.heap,d.sr,d.b,p1,by rw [p3];exact d.defs,by rw [p2];exact d.size⟩,Ext.refl _ _,p2⟩;have:=stepR_op_skip (P:=Q) (b:=b) (a:=a) (k:=k) (cs:=cs) (w:=X.w) (ops:=ops) (i:=i) (rest:=rest) (by simp [x,g]);rw [x]at this;exact this
 ·simp at h
theorem GH(H:eR Q σ call){n:Nat}{ops:Array Oper}{b:Frame}{k:List Item}{cs:List Frame}(I:jE b cs):∀(aos:List aO) (j:Nat) (X:Wd) (s s':St) (a:Act),Fr Q σ n X s a →
  fK (lv Q σ n ops) (ops.toList.drop j) aos=ag→(∀ ao ∈ aos,gF ao.op b)→fv call aos s=ab s' →
  ∃ X' a',Steps Q (lone (b.atR a (.inRegion ops ((List.range ops.size).drop j)::k)) cs X.w) (lone (b.atR a' k) cs X'.w)∧Fr Q σ n X' s' a'∧Ext X.H.length X X'∧a'.tmps.size=a.tmps.size
 | [],j,X,s,s',a,A,d,_,h=>by
  simp only [fv,sh]at h;subst h;have O:(List.range ops.size).drop j=[]:=by
   cases g:ops.toList.drop j with
   | nil=>
    have:=avx.1 g;simp at this;rw [avx];simpa using this
   | cons x xs=>rw [g]at d;simp [fK]at d
  rw [O];exact⟨X,a,.one stepR_region_end,A,Ext.refl _ _,rfl⟩
 | ao::aos,j,X,s,s',a,A,d,hr,h=>by
  cases g:ops.toList.drop j with
  | nil=>rw [g]at d;simp [fK]at d
  | cons o os=>
   rw [g]at d;simp only [fK,If]at d;have v:j<ops.toList.length:=by
    rcases aut j ops.toList.length with q | q
    ·exact q
    ·rw [avx.2 q]at g;simp at g
   have l:=at5 v;rw [g]at l;simp only [List.cons.injEq]at l;obtain⟨S,F⟩:=l;simp only [fv]at h;split at h
   ·rename_i s1 q;have m:(List.range ops.size).drop j=j ::(List.range ops.size).drop (j+1):=by
     rw [at5 (by simpa using v)];simp
    rw [m];obtain⟨y,a1,L,M,z,N⟩:=abL H A d.1 q (b:=b) (i:=j) (rest:=(List.range ops.size).drop (j+1)) (k:=k) (cs:=cs) (by simp at v;simp [v,S]) I (hr _ (by simp));obtain⟨J,K,U,W,Y,Z⟩:=GH H I aos (j+1) y s1 s' a1 M (by rw [←F];exact d.2) (fun ao h=>hr ao (by simp [h])) h;refine⟨J,K,L.trans U,W,z.trans (Y.mono ?_),Z.trans N⟩;have:=z.cu;rcases aut y.H.length X.H.length with u | E
    ·obtain⟨blk',B,_⟩:=z.cu y.H.length u _ (AT u);have:=(BY.1 B).1;omega
    ·exact E
   ·simp at h
end
theorem ld{r r':T}{x:Arg}(h:∀ p ∈ x.rd,r.get p=r'.get p):x.ev r=x.ev r':=by
 cases x with
 | r p=>exact h p (by simp [Arg.rd])
 | k v=>rfl
theorem N3{r r':T}{x:Option Arg}(h:∀ p ∈ oRd x,r.get p=r'.get p):x.map (·.ev r)=x.map (·.ev r'):=by
 cases x with
 | none=>rfl| some x=>simp only [auz];rw [ld h]
theorem fV{r r':T}{xs:List Arg}(h:∀ p ∈ xs.flatMap Arg.rd,r.get p=r'.get p):dj r xs=dj r' xs:=by
 unfold dj;refine List.map_congr_left fun x d=>ld fun p b=>h p (avn.2 ⟨x,d,b⟩)
theorem jI{r r':T}:∀(ps:List (Nat × Nat × Arg)) (cs:List C),(∀ p ∈ ps.flatMap (fun q=>q.2.2.rd),r.get p=r'.get p)→dw r cs ps=dw r' cs ps
 | [],cs,_=>rfl
 | (off,n,x)::ps,cs,h=>by
  simp only [dw];rw [ld (x:=x) (r:=r) (r':=r') fun p b=>h p (by simp [b])];split
  ·split
   ·exact jI ps _ fun p b=>h p (by simp only [List.flatMap_cons,at9];exact .inr b)
   ·rfl
  ·rfl
theorem EY{r r':T}{H:an}{u:cV}(h:∀ p ∈ u.rd,r.get p=r'.get p):bu r H u=bu r' H u:=by
 have e:∀ x:Arg,(∀ p ∈ x.rd,p ∈ u.rd)→x.ev r=x.ev r':=fun x B=>ld fun p d=>h p (B p d);have g:∀ x:Option Arg,(∀ p ∈ oRd x,p ∈ u.rd)→x.map (·.ev r)=x.map (·.ev r'):=fun x B=>N3 fun p d=>h p (B p d);cases u
 case build zs ps=>simp only [bu];rw [jI ps _ h]
 case aR sz zs n ps=>
  simp only [bu];rw [jI (r:=r) (r':=r') (ps.map fun p=>(p.1*sz,sz,p.2)) _ fun p d=>h p (by
   simp only [avn,auy]at d;obtain⟨q,⟨q',j,rfl⟩,A⟩:=d;exact avn.2 ⟨q',j,A⟩)]
 case iM sz zs n ps=>
  simp only [bu];rw [jI (r:=r) (r':=r') (ps.map fun p=>(p.1*sz,sz,p.2)) _ fun p d=>h p (by
   simp only [avn,auy]at d;obtain⟨q,⟨q',j,rfl⟩,A⟩:=d;exact avn.2 ⟨q',j,A⟩)]
 case lz f xs=>simp only [bu];rw [fV h]
 case pick c a b=>
  simp only [bu];rw [e c (by simp +contextual [cV.rd])];split
  ·rename_i v _;cases v<;>simp [e a (by simp +contextual [cV.rd]),e b (by simp +contextual [cV.rd])]
  ·rfl
 case slice sz x lo hi mx=>simp only [bu];rw [e x (by simp +contextual [cV.rd]),g lo (by simp +contextual [cV.rd]),g hi (by simp +contextual [cV.rd]),g mx (by simp +contextual [cV.rd])]
 case lK n sz x lo hi mx=>simp only [bu];rw [e x (by simp +contextual [cV.rd]),g lo (by simp +contextual [cV.rd]),g hi (by simp +contextual [cV.rd]),g mx (by simp +contextual [cV.rd])]
 case qM x lo hi=>simp only [bu];rw [e x (by simp +contextual [cV.rd]),g lo (by simp +contextual [cV.rd]),g hi (by simp +contextual [cV.rd])]
 case kB E m k v=>simp only [bu];rw [e m (by simp +contextual [cV.rd]),e k (by simp +contextual [cV.rd]),e v (by simp +contextual [cV.rd])]
 case bN x=>simp only [bu];rw [e x (by simp +contextual [cV.rd])]
 case box x=>simp only [bu];rw [e x (by simp +contextual [cV.rd])]
 case load n x=>simp only [bu];rw [e x (by simp +contextual [cV.rd])]
 case bE x=>simp only [bu];rw [e x (by simp +contextual [cV.rd])]
 case un o x=>simp only [bu];rw [e x (by simp +contextual [cV.rd])]
 case eX k x=>simp only [bu];rw [e x (by simp +contextual [cV.rd])]
 case yP x=>simp only [bu];rw [e x (by simp +contextual [cV.rd])]
 case vJ x=>simp only [bu];rw [e x (by simp +contextual [cV.rd])]
 case DJ x=>simp only [bu];rw [e x (by simp +contextual [cV.rd])]
 case aC o x=>simp only [bu];rw [e x (by simp +contextual [cV.rd])]
 case field o n x=>simp only [bu];rw [e x (by simp +contextual [cV.rd])]
 case range x=>simp only [bu];rw [e x (by simp +contextual [cV.rd])]
 case next x=>simp only [bu];rw [e x (by simp +contextual [cV.rd])]
 case extract x i=>simp only [bu];rw [e x (by simp +contextual [cV.rd])]
 case len x=>simp only [bu];rw [e x (by simp +contextual [cV.rd])]
 case lens x=>simp only [bu];rw [e x (by simp +contextual [cV.rd])]
 case cap x=>simp only [bu];rw [e x (by simp +contextual [cV.rd])]
 case entry x=>simp only [bu];rw [e x (by simp +contextual [cV.rd])]
 case mw x=>simp only [bu];rw [e x (by simp +contextual [cV.rd])]
 case qy x=>simp only [bu];rw [e x (by simp +contextual [cV.rd])]
 case clear s z x=>simp only [bu];rw [e x (by simp +contextual [cV.rd])]
 case mX lo xs=>simp only [bu];rw [fV h]
 case vN f xs=>simp only [bu];rw [fV h]
 case vY s x y z=>simp only [bu];rw [e x (by simp +contextual [cV.rd]),e y (by simp +contextual [cV.rd]),e z (by simp +contextual [cV.rd])]
 case sO s b z x y=>simp only [bu];rw [e x (by simp +contextual [cV.rd]),e y (by simp +contextual [cV.rd])]
 case store n x y=>simp only [bu];rw [e x (by simp +contextual [cV.rd]),e y (by simp +contextual [cV.rd])]
 case bin o x y=>simp only [bu];rw [e x (by simp +contextual [cV.rd]),e y (by simp +contextual [cV.rd])]
 case eq n k x y=>simp only [bu];rw [e x (by simp +contextual [cV.rd]),e y (by simp +contextual [cV.rd])]
 case aS s a x y=>simp only [bu];rw [e x (by simp +contextual [cV.rd]),e y (by simp +contextual [cV.rd])]
 case idxs x y=>simp only [bu];rw [e x (by simp +contextual [cV.rd]),e y (by simp +contextual [cV.rd])]
 case qk l s n x y=>simp only [bu];rw [e x (by simp +contextual [cV.rd]),e y (by simp +contextual [cV.rd])]
 case append s b x y=>simp only [bu];rw [e x (by simp +contextual [cV.rd]),e y (by simp +contextual [cV.rd])]
 case copy s x y=>simp only [bu];rw [e x (by simp +contextual [cV.rd]),e y (by simp +contextual [cV.rd])]
 case lookup c z x y=>simp only [bu];rw [e x (by simp +contextual [cV.rd]),e y (by simp +contextual [cV.rd])]
 case c4 s b z x y=>simp only [bu];rw [e x (by simp +contextual [cV.rd]),e y (by simp +contextual [cV.rd])]
 all_goals rfl
theorem GF{call:cO}{s:St}{r':T}{d:cV}(h:∀ p ∈ d.rd,s.aA.get p=r'.get p){v:V}{s':St}(b:eG call s d=ab (v,s')):eG call { s with aA:=r' } d=ab (v,{ s' with aA:=r' }):=by
 by_cases g:(∃ f xs h,d=.call f xs h)∨(∃ x xs h,d=.cj x xs h)∨d=.recover∨∃ x xs,d=.defer x xs
 ·rcases g with⟨f,xs,u,rfl⟩ | ⟨x,xs,u,rfl⟩ | rfl | ⟨x,xs,rfl⟩
  ·simp only [eG,IN,IT]at b ⊢;obtain⟨q,j,rfl,rfl⟩:=b;rw [fV h]at j;exact⟨q,j,rfl,rfl⟩
  ·simp only [eG]at b ⊢;rw [ld (x:=x) (r:=s.aA) (r':=r') (fun p g=>h p (by simp [cV.rd,g])),fV (xs:=xs) (r:=s.aA) (r':=r') (fun p g=>h p (by simp only [cV.rd,at9];exact .inr g))]at b;split at b
   ·simp only [IN,IT]at b ⊢;obtain⟨q,j,rfl,rfl⟩:=b;exact⟨q,j,rfl,rfl⟩
   ·simp at b
  ·simp only [eG,sh,IT]at b ⊢;obtain⟨rfl,rfl⟩:=b;exact⟨rfl,rfl⟩
  ·simp only [eG]at b ⊢;rw [ld (x:=x) (r:=s.aA) (r':=r') (fun p g=>h p (by simp [cV.rd,g])),fV (xs:=xs) (r:=s.aA) (r':=r') (fun p g=>h p (by simp only [cV.rd,at9];exact .inr g))]at b;split at b
   ·simp only [sh,IT]at b ⊢;obtain⟨rfl,rfl⟩:=b;exact⟨rfl,rfl⟩
   ·simp at b
 ·have l:(bu s.aA s.heap d).map (fun r=>(r.1,{ s with heap:=r.2 }))=ab (v,s'):=by
   cases d<;>first | exact b | (exfalso;apply g;simp)
  have m:eG call { s with aA:=r' } d=(bu r' s.heap d).map (fun r=>(r.1,{ s with aA:=r',heap:=r.2 })):=by
   cases d<;>first | rfl | (exfalso;apply g;simp)
  rw [m,←EY h];simp only [IN,IT]at l ⊢;obtain⟨q,j,rfl,rfl⟩:=l;exact⟨q,j,rfl,rfl⟩
theorem ai4{r:T}{b:cV}(d:cls b=.p)(H H':an):bu r H' b=(bu r H b).map fun q=>(q.1,H'):=by
 cases b<;>simp only [cls,reduceCtorEq]at d<;>simp only [bu]
 all_goals first
  | (simp [Function.comp_def];done)
  | (split<;>simp [Function.comp_def];done)
  | (split<;>(first | rfl | (split<;>rfl)))
section
theorem fg{H H':an}(m:c8 H H')(b:Nat):H[b]?=ae∨(∃ cs l g,H[b]?=ab (.box cs l)∧H'[b]?=ab (.box cs g)) ∨
  (∃ s cs l g e st,H[b]?=ab (.bR s cs l e st)∧H'[b]?=ab (.bR s cs g e st))∨∃ bp,H[b]?=ab bp∧H'[b]?=ab bp:=by
 cases q:H[b]? with
 | none=>exact .inl rfl
 | some bp=>
  obtain⟨blk',d,j⟩:=m b _ q;cases bp<;>cases blk'<;>simp only [de,reduceCtorEq]at j
  ·obtain⟨rfl,_⟩:=j;exact .inr (.inl ⟨_,_,_,rfl,d⟩)
  ·obtain⟨rfl,rfl,_,rfl,rfl⟩:=j;exact .inr (.inr (.inl ⟨_,_,_,_,_,_,rfl,d⟩))
  all_goals (rw [←j]at d;exact .inr (.inr (.inr ⟨_,rfl,d⟩)))
variable{H H':an}
theorem Bl(l:c8 H H'){x:C}{cs:List C}(h:aF H x=ab cs):aF H' x=ab cs:=by
 cases x with
 | ptr b off q=>
  simp only [aF]at h ⊢;rcases fg l b with e | ⟨cs,j,g,e,d⟩ | ⟨s,cs,j,g,m,st,e,d⟩ | ⟨bp,e,d⟩
  ·simp [e]at h
  ·rw [e]at h;rw [d];exact h
  ·rw [e]at h;rw [d];cases st<;>exact h
  ·rw [e]at h;rw [d];exact h
 | f x=>cases x<;>exact h
 | _=>simp [aF]at h
theorem aga(g:c8 H H'){n:Option Nat}{x:V}{v:V}(h:aV H n x=ab v):aV H' n x=ab v:=by
 cases x with
 | c x=>
  simp only [aV,Option.bind_eq_some_iff]at h ⊢;obtain⟨cs,b,d⟩:=h;exact⟨cs,Bl g b,d⟩
 | _=>simp [aV]at h
theorem x7(m:c8 H H'){x:C}{n:Nat}(h:bJ H x=ab n):bJ H' x=ab n:=by
 cases x with
 | sl b o l c u sz=>
  simp only [bJ]at h ⊢;rcases fg m b with e | ⟨cs,j,g,e,d⟩ | ⟨s,cs,j,g,q,st,e,d⟩ | ⟨bp,e,d⟩
  ·simp [e]at h
  all_goals (rw [e]at h;rw [d];exact h)
 | f x=>cases x<;>exact h
 | _=>simp [bJ]at h
theorem Ci(m:c8 H H'){sz:Nat}{x:C}{cs:List C}(h:cS H sz x=ab cs):cS H' sz x=ab cs:=by
 cases x with
 | sl b o l c u s=>
  simp only [cS]at h ⊢;rcases fg m b with e | ⟨cs,j,g,e,d⟩ | ⟨s,cs,j,g,q,st,e,d⟩ | ⟨bp,e,d⟩
  ·simp [e]at h
  all_goals (rw [e]at h;rw [d];exact h)
 | f x=>cases x<;>exact h
 | _=>simp [cS]at h
theorem oC(q:c8 H H'){k:MR}{x:C}{b:Bool}(h:isNil H k x=ab b):isNil H' k x=ab b:=by
 cases k<;>cases x<;>first | exact h | (simp [isNil]at h;done) | skip
 case sl.sl j o l c v s=>
  simp only [isNil]at h ⊢;rcases fg q j with e | ⟨cs,m,g,e,d⟩ | ⟨s,cs,m,g,u,st,e,d⟩ | ⟨bp,e,d⟩
  ·simp [e]at h
  all_goals (rw [e]at h;rw [d];exact h)
 all_goals (rename_i y;cases y<;>exact h)
theorem afF(d:c8 H H'){k:MR}{x y:V}{b:Bool}(h:z6 H k x y=ab b):z6 H' k x y=ab b:=by
 unfold z6 at h;split at h
 ·exact h
 ·exact h
 ·exact oC d h
 ·exact oC d h
 ·exact oC d h
 ·exact oC d h
 ·simp at h
theorem EO(l:c8 H H'){sz:Nat}{x:V}{lo hi mx:Option V}{v:V}(h:fH H sz x lo hi mx=ab v):fH H' sz x lo hi mx=ab v:=by
 unfold fH at h;split at h
 ·exact h
 ·exact h
 ·exact h
 ·rename_i b o n cap q s;simp only [fH];rcases fg l b with e | ⟨cs,j,g,e,d⟩ | ⟨s,cs,j,g,m,st,e,d⟩ | ⟨bp,e,d⟩
  ·simp [e]at h
  all_goals (rw [e]at h;rw [d];exact h)
 ·simp at h
theorem EM(l:c8 H H'){n sz:Nat}{x:V}{lo hi mx:Option V}{v:V}(h:jt H n sz x lo hi mx=ab v):jt H' n sz x lo hi mx=ab v:=by
 unfold jt at h;split at h
 ·rename_i b off q;simp only [jt];rcases fg l b with e | ⟨cs,j,g,e,d⟩ | ⟨s,cs,j,g,m,st,e,d⟩ | ⟨bp,e,d⟩
  ·simp [e]at h
  all_goals (rw [e]at h;rw [d];exact h)
 ·exact h
 ·simp at h
theorem Bz(q:c8 H H'){sz:Nat}{d:Option Nat}{x i:V}{v:V}(h:aL H sz d x i=ab v):aL H' sz d x i=ab v:=by
 unfold aL at h ⊢;split at h
 ·simp at h
 ·split at h
  ·rename_i hi;simp only [hi,if_true];split at h
   ·rename_i b o l c z s;split at h
    ·rename_i u;simp only [u,if_true];rcases fg q b with e | ⟨cs,m,j,e,g⟩ | ⟨s,cs,m,j,y,st,e,g⟩ | ⟨bp,e,g⟩
     ·simp [e]at h
     ·rw [e]at h;rw [g];exact h
     ·rw [e]at h;rw [g];cases st<;>exact h
     ·rw [e]at h;rw [g];exact h
    ·simp at h
   ·exact h
   ·exact h
   ·exact h
   ·simp at h
  ·simp at h
theorem BE(q:c8 H H'){j:CK}{z:FC}{m k:V}{v:V}(h:gw H j z m k=ab v):gw H' j z m k=ab v:=by
 unfold gw at h;split at h
 ·exact h
 ·rename_i b k;simp only [gw];rcases fg q b with e | ⟨cs,l,g,e,d⟩ | ⟨s,cs,l,g,u,st,e,d⟩ | ⟨bp,e,d⟩
  ·simp [e]at h
  all_goals (rw [e]at h;rw [d];exact h)
 ·simp at h
theorem Nf(d:c8 H H'){x v:V}(h:oX H x=ab v):oX H' x=ab v:=by
 cases x with
 | c x=>
  simp only [oX]at h ⊢;split at h
  ·rename_i n g;split at h
   ·rename_i cs b;rw [x7 d g,Ci d b];exact h
   ·simp at h
  ·simp at h
 | _=>simp [oX]at h
theorem Oo(m:c8 H H'){x:C}{n:Nat}(h:mR H x=ab n):mR H' x=ab n:=by
 cases x with
 | sl b o l c u sz=>
  simp only [mR]at h ⊢;rcases fg m b with e | ⟨cs,j,g,e,d⟩ | ⟨s,cs,j,g,q,st,e,d⟩ | ⟨bp,e,d⟩
  ·simp [e]at h
  ·rw [e]at h;rw [d];exact h
  ·rw [e]at h;rw [d];cases st<;>exact h
  ·rw [e]at h;rw [d];exact h
 | f x=>cases x<;>exact h
 | _=>simp [mR]at h
theorem agj(l:c8 H H'){b:Nat}{d:List (FC × C)}(h:H[b]?=ab (.map d)):H'[b]?=ab (.map d):=by
 obtain⟨blk',j,g⟩:=l b _ h;cases blk'<;>simp only [de,reduceCtorEq,c6.map.injEq]at g;subst g;exact j
theorem agl(l:c8 H H'){b m s:Nat}{d:Bool}(h:H[b]?=ab (.vw m s d)):H'[b]?=ab (.vw m s d):=by
 obtain⟨blk',j,g⟩:=l b _ h;cases blk'<;>simp only [de,reduceCtorEq,c6.vw.injEq]at g;obtain⟨rfl,rfl,rfl⟩:=g;exact j
theorem DL(b:c8 H H'){x v:V}(h:lW H x=ab v):lW H' x=ab v:=by
 unfold lW at h;split at h
 ·split at h
  ·rename_i d;split at h
   ·rename_i g;simp only [lW,agl b d,agj b g];exact h
   ·simp at h
  ·simp at h
 ·simp at h
theorem GG{r:T}{g:cV}(m:cls g=.r)(b:c8 H H'){v:V}{l:an}(h:bu r H g=ab (v,l)):l=H∧bu r H' g=ab (v,H'):=by
 cases g<;>first | (simp only [bu,reduceCtorEq]at h;done) | (simp only [cls,reduceCtorEq]at m;done) | simp only [bu]at h ⊢
 case len x=>
  split at h
  ·rename_i y s;split at h
   ·rename_i n j;simp only [sh,IT]at h;obtain⟨rfl,rfl⟩:=h;simp only [x7 b j];simp
   ·simp at h
  ·simp at h
 case cap x=>
  split at h
  ·rename_i y s;split at h
   ·rename_i n j;simp only [sh,IT]at h;obtain⟨rfl,rfl⟩:=h;simp only [Oo b j];simp
   ·simp at h
  ·simp at h
 all_goals
  simp only [IN,IT]at h;obtain⟨q,d,rfl,rfl⟩:=h;refine⟨rfl,?_⟩
 case entry=>rw [DL b d];rfl
 case load=>rw [aga b d];rfl
 case eq=>rw [afF b d];rfl
 case slice=>rw [EO b d];rfl
 case lK=>rw [EM b d];rfl
 case aS=>rw [Bz b d];rfl
 case lookup=>rw [BE b d];rfl
 case vJ=>rw [Nf b d];rfl
theorem aqF{r:T}{g:cV}(j:cls g=.a){v:V}{d:an}(h:bu r H g=ab (v,d)):d=H∨∃ bp,d=H++[bp]:=by
 cases g<;>first | (simp only [cls,reduceCtorEq]at j;done) | simp only [bu]at h
 case call=>simp at h
 case alloc zs=>simp only [sh,IT]at h;exact .inr ⟨_,h.2.symm⟩
 case kD=>simp only [sh,IT]at h;exact .inr ⟨_,h.2.symm⟩
 case box x=>
  split at h
  ·simp only [sh,IT]at h;exact .inr ⟨_,h.2.symm⟩
  ·simp at h
 case aR sz zs n ps=>
  split at h
  ·split at h
   ·simp only [sh,IT]at h;exact .inl h.2.symm
   ·simp at h
  ·simp only [IN,IT]at h;obtain⟨q,l,rfl,rfl⟩:=h;exact .inr ⟨_,rfl⟩
 case c4 sz b zs x y=>
  split at h
  ·split at h
   ·split at h
    ·simp only [sh,IT]at h;exact .inl h.2.symm
    ·simp only [sh,IT]at h;exact .inr ⟨_,h.2.symm⟩
   ·simp at h
  ·simp at h
end
section
variable{Q:Program}{σ:Nat→FuncId}{X:Wd}
theorem Fw(d:SR Q σ X)(m:X.B≤X.w.heap.size){n:Nat}{cs:List C}{g:Nat}(u:X.H[n]?=ab (.box cs g))(hr:X.cC n=ae){us:List Value}(h:A2 (CR σ X) cs us)(e:TypeId) :
  ∃ X',X'.w=X.w.alloc (.cells us.toArray e)∧X'.H=X.H∧SR Q σ X'∧Ext X.H.length X X'∧X'.cC n=ab ⟨X.w.heap.size,0⟩∧X'.B≤X'.w.heap.size∧∀ b,b≠n→X'.cC b=X.cC b:=by
 obtain⟨j,l⟩:=SR.fill d m u hr (dP.alloc X.w (.cells us.toArray e)) 0 (fun v=>⟨us,lI (dP.alloc _ _),A2.ext' σ v h,fun i _ s=>by
  have:=d.fb _ _ s;simp at this⟩)
 exact⟨{ X with cC:=fun b=>if b=n then ab ⟨X.w.heap.size,0⟩else X.cC b,w:=X.w.alloc (.cells us.toArray e) },rfl,rfl,j,l,by simp,by simp;omega,fun b q=>by simp [q]⟩
def Dq(Q:Program)(σ:Nat→FuncId)(X:Wd)(n:Nat)(v:V)(s:Sem Next)(e:Prop):Prop:=
 ∃ X' u,s.run Q X.w=.ok (.value u) X'.w∧rk Q σ X v X.H X' u∧(∀ b,b≠n→X'.cC b=X.cC b)∧(e→X'.cC=X.cC)
theorem Br(z:SR Q σ X)(y:X.B≤X.w.heap.size){n:Nat}{cs:List C}{j:Nat}(g:X.H[n]?=ab (.box cs j))(hr:X.cC n=ae){us:List Value}(h:A2 (CR σ X) cs us)(e:TypeId){s:Sem Next}{b:Prop}(A:¬ b)
  (B:s.run Q X.w=.ok (.value (.pointer (ab ⟨X.w.heap.size,0,ae⟩))) (X.w.alloc (.cells us.toArray e))):Dq Q σ X n (.c (.ptr n 0 0)) s b:=by
 obtain⟨X',l,d,m,q,u,v,x⟩:=Fw z y g hr h e;refine⟨X',_,by rw [l];exact B,⟨d,m,?_,q,v⟩,x,fun h=>absurd h A⟩;exact⟨_,u,by rw [d,g]⟩
theorem Fx(B:SR Q σ X)(A:X.B≤X.w.heap.size){n:Nat}{cs:List C}{m:Nat}(j:X.H[n]?=ab (.box cs m))(hr:X.cC n=ae){us:List Value}(h:A2 (CR σ X) cs us)(e:TypeId){s:Sem Next}{l c sz:Nat}(b:l≤c){d:Prop}(E:¬ d)
  (F:s.run Q X.w=.ok (.value (.slice (ab ⟨X.w.heap.size,0,ae⟩) l c)) (X.w.alloc (.cells us.toArray e))):Dq Q σ X n (.c (.sl n 0 l c 0 sz)) s d:=by
 obtain⟨X',q,g,u,v,x,y,z⟩:=Fw B A j hr h e;refine⟨X',_,by rw [q];exact F,⟨g,u,?_,v,y⟩,z,fun h=>absurd h E⟩;simp only [VR,ju,CR,fR,g,j];exact⟨_,x,b,rfl⟩
theorem qj{H b:an}{cs:List C}(h:c8 (H++[.box cs 0]) b):∃ g,b[H.length]?=ab (.box cs g):=by
 obtain⟨blk',j,d⟩:=h H.length (.box cs 0) (by simp);cases blk'<;>simp only [de,reduceCtorEq]at d;obtain⟨rfl,_⟩:=d;exact⟨_,j⟩
theorem Ch{w':World}{o:Obj}(g:SR Q σ X)(d:dP X.w w' o)(q:X.B≤X.w.heap.size):∃ X':Wd,X'.w=w'∧X'.H=X.H∧SR Q σ X'∧Ext X.H.length X X'∧X'.B≤X'.w.heap.size∧X'.cC=X.cC:=by
 have j:Ext X.H.length X { X with w:=w' }:=Ext.one g X.H.length rfl (fun _ _=>Iff.rfl) (fun k m _=>d.CE m)
  (fun L i h=>by rw [SR.rX g]at h;simp at h) (fun h=>absurd h (avp _)) (fun _ _ _=>rfl) (fun _ _=>rfl) (fun L h=>.inl ⟨L,h,rfl⟩) (by show _≤w'.heap.size;rw [d.size];omega) d.os d.tape d.output
 refine⟨{ X with w:=w' },rfl,rfl,SR.step Q σ g j X.H.length (fun _ _=>rfl) (fun _ _=>rfl) (fun b L _ l=>d.CE (g.br b L l).2.1)
  (fun _ _ _ _ _ h=>h) (fun L h=>by change X.cC X.H.length=ab L at h;rw [SR.rX g]at h;simp at h) (fun c i h=>?_),j,?_,rfl⟩
 ·have:=g.fb c i h;show c<w'.heap.size;rw [d.size];omega
 ·show X.B≤w'.heap.size;rw [d.size];omega
theorem af'(M:SR Q σ X)(L:X.B≤X.w.heap.size){a:Act}{aA:T}(hR:RR σ X aA a.tmps){o:Oper}{op:cV}(hc:cls op=.a)(d:dF Q σ o op=ag){H H1:an}{v:V}(h:bu aA H op=ab (v,H1))
  (hH:c8 H1 X.H) (hr:H1.length≠H.length→X.cC H.length=ae):Dq Q σ X H.length v (execOp a.eval o) (H1.length=H.length):=by
 cases op<;>first | (simp only [cls,reduceCtorEq]at hc;done) | skip
 case call f xs h'=>simp [bu]at h
 case alloc zs=>
  simp only [bu,sh,IT]at h;obtain⟨rfl,rfl⟩:=h;obtain⟨fl,F⟩:=qj hH;simp only [dF]at d;split at d
  ·rename_i t B;obtain⟨z,us,h1,K,h3,_⟩:=eF (σ:=σ) (X:=X) d X.w;refine Br M L F (hr (by simp)) h3 t (by simp) ?_;simp only [execOp,B];refine dZ ?_;simp [Instr.alloc,h1,newVar,newRow,K]
  ·simp at d
 case kD=>
  simp only [bu,sh,IT]at h;obtain⟨rfl,rfl⟩:=h;have F:X.H[H.length]?=ab (.map []):=by
   obtain⟨blk',hb,hl⟩:=hH H.length (.map []) (by simp);cases blk'<;>simp only [de,reduceCtorEq,c6.map.injEq]at hl;subst hl;exact hb
  simp only [dF]at d;split at d
  ·rename_i t B;have hr:=hr (by simp);obtain⟨h1,K⟩:=SR.fill M L F hr (dP.alloc X.w (.map #[] 0)) 0 (fun hx=>⟨[],(dP.alloc _ _).new,A2.nil,by simp⟩);refine⟨{ X with cC:=fun b=>if b=H.length then ab ⟨X.w.heap.size,0⟩else X.cC b,w:=X.w.alloc (.map #[] 0) },.map (ab X.w.heap.size),?_,⟨rfl,h1,⟨⟨X.w.heap.size,0⟩,by simp,⟨[],F⟩,rfl⟩,K,by show X.B≤_;simp;omega⟩,fun b hb=>by simp [hb],fun h=>by simp at h⟩;simp [execOp,B,Instr.makeMap]
  ·simp at d
 case box x=>
  simp only [bu]at h;split at h
  ·rename_i xs e_;simp only [sh,IT]at h;obtain⟨rfl,rfl⟩:=h;obtain⟨fl,F⟩:=qj hH;simp only [dF]at d;split at d
   ·rename_i t y B;obtain⟨us,K,h3⟩:=p_ (bS hR d) e_;refine Br M L F (hr (by simp)) h3 t (by simp) ?_;simp only [execOp,B];refine dZ ?_;simp [Instr.box,newVar,newRow,K]
   ·simp at d
  ·simp at h
 case aR sz zs n ps=>
  simp only [dF]at d;split at d
  ·rename_i t n' qs B;simp only [If,beq_iff_eq,decide_eq_true_eq]at d;obtain⟨⟨⟨⟨rfl,s⟩,E⟩,i_⟩,hq⟩:=d;obtain⟨e,hu,E⟩:=iU E;simp only [If,decide_eq_true_eq]at E;obtain⟨⟨j,hz⟩,f_⟩:=E;obtain⟨z,us,W,Y,A,_⟩:=eF (σ:=σ) (X:=X) hz X.w;have I:us.length=sz:=by have:=A.len;simp at this;omega
   simp only [bu]at h;split at h
   ·rename_i F;subst F;split at h
    ·rename_i b9;simp only [sh,IT]at h;obtain⟨rfl,rfl⟩:=h;have U:qs.toList=[]:=by
      have:=(ey hq).len;simp only [List.isEmpty_iff]at b9;rw [b9]at this;exact api this.symm
     have U:qs=#[]:=by apply Array.ext';simpa using U
     obtain⟨X',h1,K,h3,h4,h5,h6⟩:=Ch M (dP.alloc X.w (.cells #[] e)) L;refine⟨X',.slice (ab ⟨X.w.heap.size,0,ae⟩) 0 0,?_,⟨K,h3,cN.es _,h4,h5⟩,fun b _=>by rw [h6],fun _=>h6⟩;rw [h1];simp only [execOp,B];refine dZ ?_;simp [Instr.buildSlice,a5 hu,c5 j,U,Instr.fill,newRow,show Array.range 0=(#[]:Array Nat) from rfl]
    ·simp at h
   ·rename_i F;simp only [IN,IT]at h;obtain⟨cs,d7,rfl,rfl⟩:=h;obtain⟨fl,O⟩:=qj hH;obtain⟨j_,h5,h6⟩:=oy (place:=fun i=>ab (i*sz,sz)) (ps:=qs.toList) hR (qs:=ps.map fun p=>(p.1*sz,sz,p.2)) (A2.map ((ey hq).lR fun q p S=>by
     simp only [If,beq_iff_eq]at S;exact⟨by rw [S.1],S.2⟩)) (kj A n') d7
    refine Fx M L O (hr (by simp)) h6 e (aft _) (by simp) ?_;simp only [execOp,B];refine dZ ?_;have d8:n'*sz≠0:=by
     intro Z;rcases avq.1 Z with Z | Z<;>omega
    have d5:=jq us n' (by omega);rw [I]at d5;simp only [Instr.buildSlice,Sem.run_bind,a5 hu,c5 j,Result.andThen_ok,aY (show¬ n'*sz>2 ^ 24 by omega),Sem.run_ite,aY d8,W,Sem.run_pure,Y];simp only [Array.toList_map];rw [d5];simp [h5,newRow]
  ·simp at d
 case c4 sz bytes zs x y=>
  simp only [dF]at d;split at d
  ·rename_i t x' y' B;simp only [If,decide_eq_true_eq]at d;obtain⟨⟨⟨hx,hy⟩,E⟩,h_⟩:=d;have hx:=bS hR hx;have hy:=bS hR hy;obtain⟨e,hu,E⟩:=iU E;simp only [If]at E;obtain⟨⟨j,d6⟩,hz⟩:=E;obtain⟨z,us,W,Y,A,j9,j4,j7⟩:=eF (σ:=σ) (X:=X) hz X.w;obtain⟨j3,a7,a9⟩:=zG d6 X.w;simp only [bu]at h;split at h
   ·rename_i l c hl hc;obtain⟨kl,d_⟩:=jD hx hl;obtain⟨kc,f9⟩:=jD hy hc;split at h
    ·rename_i N;obtain⟨Z,j8,u,f_⟩:=N;unfold bU at u;simp only [If,decide_eq_true_eq]at u;have I:us.length=sz:=by have:=A.len;simp at this;omega
     have c_:=mF (n:=l) Z (by omega);have c9:=mF (n:=c) (by omega) (by omega);have g_:c.toNat*bytes≤2 ^ 48:=by
      have:c.toNat*bytes≤(2*c.toNat+768)*bytes:=auP _ (by omega);omega
     have s:¬ ((bytes:Int)*c>2 ^ 48):=by
      have e1:(bytes:Int)*c=((c.toNat*bytes:Nat):Int):=by
       rw [Int.natCast_mul,auY];congr 1;omega
      rw [e1];omega
     have b_:((Array.range (c.toNat*sz)).map fun i=>us.toArray[i % us.toArray.size]!)=(cP c.toNat us).toArray:=by
      have:=jq us c.toNat (by omega);rwa [I]at this
     have run:(execOp a.eval o).run Q X.w=.ok (.value (.slice (ab ⟨X.w.heap.size,0,ae⟩) l.toNat c.toNat)) (X.w.alloc (.cells (cP c.toNat us).toArray e)):=by
      simp only [execOp,B];refine dZ ?_;rw [d_,f9];have a_:¬ c<0:=by omega
      have b7:¬ l<0:=by omega
      have J:¬ l>c:=by omega
      by_cases m:c.toNat*sz=0
      ·have d9:cP c.toNat us=[]:=api (by rw [lG,I];exact m);have g:((decide (c<0)||decide ((bytes:Int)*c>2 ^ 48))||decide (l<0)||decide (l>c))=ah:=by rw [decide_eq_false a_,decide_eq_false b7,decide_eq_false J,decide_eq_false s];rfl
       simp only [Instr.makeSlice,Sem.run_bind,a5 hu,asInt,asIntOf,Sem.run_pure,Result.andThen_ok,a7,a9,c_,c9,run_askRoom,c5 j];simp only [g,atY,if_false,Sem.run_ite,bg m,Sem.run_bind,Result.andThen_ok,Sem.run_pure,run_askRoom,c5 j,newRow,run_newObj];rw [m,d9,show(Array.map (fun x=>(#[]:Array Value)[x % (#[]:Array Value).size]!) (Array.range 0))=#[] from by simp [show Array.range 0=(#[]:Array Nat) from rfl]];rfl
      ·simp only [Instr.makeSlice,Sem.run_bind,a5 hu,asInt,asIntOf,Sem.run_pure,Result.andThen_ok,a7,a9,c_,c9,run_askRoom,c5 j];have g:((decide (c<0)||decide ((bytes:Int)*c>2 ^ 48))||decide (l<0)||decide (l>c))=ah:=by rw [decide_eq_false a_,decide_eq_false b7,decide_eq_false J,decide_eq_false s];rfl
       simp only [g,atY,if_false,Sem.run_ite,aY m,Sem.run_bind,W,Y,Result.andThen_ok,Sem.run_pure,run_askRoom,c5 j,b_,newRow,run_newObj];rfl
     split at h
     ·rename_i m;subst m;simp only [sh,IT]at h;obtain⟨rfl,rfl⟩:=h;have:l=0:=by omega
      subst this;obtain⟨X',g1,g2,g3,g4,g5,g6⟩:=Ch M (dP.alloc X.w (.cells (cP (0:Int).toNat us).toArray e)) L;exact⟨X',_,by rw [g1];exact run,⟨g2,g3,cN.es _,g4,g5⟩,fun b _=>by rw [g6],fun _=>g6⟩
     ·simp only [sh,IT]at h;obtain⟨rfl,rfl⟩:=h;obtain⟨fl,O⟩:=qj hH;exact Fx M L O (hr (by simp)) (kj A c.toNat) e (by omega) (by simp) run
    ·simp at h
   ·simp at h
  ·simp at d
end
theorem D9{b:List Nat}{o:Oper}{i:Nat}:(nI b o).testBit i=ag↔∃ e ∈ o.after.toList,Region.binds .any e=ag∧(e.on=i∨(b.getD e.on 0).testBit i=ag):=by
 unfold nI;have key:∀(l:List Edge) (s:Nat),(l.foldl (fun s e=>if Region.binds .any e then s ||| 2 ^ e.on ||| b.getD e.on 0 else s) s).testBit i=ag ↔
   s.testBit i=ag∨∃ e ∈ l,Region.binds .any e=ag∧(e.on=i∨(b.getD e.on 0).testBit i=ag):=by
  intro l;induction l with
  | nil=>intro s;simp
  | cons e l g=>
   intro s;simp only [auV,g,aui,exists_eq_or_imp];by_cases d:Region.binds .any e=ag
   ·simp only [d,if_true,Nat.testBit_or,Bool.or_eq_true,Nat.testBit_two_pow,decide_eq_true_eq,true_and,or_assoc]
   ·simp [d]
 rw [key];simp
theorem xD:∀(os:List Oper) (b:List Nat),(du os b).length=b.length+os.length
 | [],b=>by simp [du]
 | o::os,b=>by rw [du,xD];simp;omega
theorem rR:∀(os:List Oper) (b:List Nat) (k:Nat),k<b.length→(du os b)[k]?=b[k]?
 | [],b,k,_=>rfl
 | o::os,b,k,h=>by
  rw [du,rR os _ k (by simp;omega),AI h]
theorem xE:∀(os:List Oper) (b:List Nat) (t:Nat) (o:Oper),os[t]?=ab o→(du os b)[b.length+t]?=ab (nI ((du os b).take (b.length+t)) o)
 | [],b,t,o,h=>by simp at h
 | o'::os,b,0,o,h=>by
  simp only [auS,sh]at h;subst h;have g:∀ k,k<b.length→(du os (b++[nI b o']))[k]?=b[k]?:=fun k j=>by rw [rR os _ k (by simp;omega),AI j]
  have d:(du os (b++[nI b o'])).take b.length=b:=by
   apply List.ext_getElem?;intro k;rw [auo];split
   ·rename_i j;exact g k j
   ·rename_i j;rw [avk (by omega)]
  rw [du,Nat.add_zero,d,rR os _ _ (by simp)];simp
 | o'::os,b,t+1,o,h=>by
  simp only [avh]at h;have:=xE os (b++[nI b o']) t o h;rw [du];rw [show b.length+(t+1)=(b++[nI b o']).length+t by simp;omega];exact this
theorem Fj{ops:List Oper}{i j:Nat}{o:Oper}(l:ops[j]?=ab o) :
  z5 (du ops []) i j=ag↔∃ e ∈ o.after.toList,Region.binds .any e=ag∧(e.on=i∨(e.on<j∧z5 (du ops []) i e.on=ag)):=by
 have h:=xE ops [] j o l;simp only [List.length_nil,auJ]at h;unfold z5;rw [aus,h,Option.getD_some,D9];have g:∀ k,((du ops []).take j).getD k 0=if k<j then(du ops []).getD k 0 else 0:=by
  intro k;simp only [aus,auo];split<;>simp
 constructor
 ·rintro⟨e,d,b,h⟩;refine⟨e,d,b,h.imp id fun h=>?_⟩;rw [g]at h;split at h
  ·rename_i m;exact⟨m,h⟩
  ·simp at h
 ·rintro⟨e,d,b,h⟩;refine⟨e,d,b,h.imp id fun h=>?_⟩;rw [g,bg h.1];exact h.2
def rj(ops:List Oper)(D:Nat→Prop):Prop:=∀ j o,D j→ops[j]?=ab o→∀ e ∈ o.after.toList,Region.binds .any e=ag→D e.on
theorem rj.below{ops:List Oper}{D:Nat→Prop}(h:rj ops D){i:Nat}:∀(j:Nat),D j→z5 (du ops []) i j=ag→D i:=by
 intro j;induction j using Nat.strongRecOn with
 | ind j s=>
  intro m b;cases ho:ops[j]? with
  | none=>
   exfalso;unfold Km.z5 at b;have:(du ops []).length≤j:=by rw [xD];simpa using auG.1 ho
   rw [aus,avk this]at b;simp at b
  | some o=>
   obtain⟨e,l,g,d | ⟨d,q⟩⟩:=(Fj ho).1 b
   ·exact d▸h j o m ho e l g
   ·exact s e.on d (h j o m ho e l g) q
theorem rj.ready{ops:List Oper}{D:Nat→Prop}(h:rj ops D){i j:Nat}{o:Oper}(ho:ops[j]?=ab o)(hr:∀ e ∈ o.after.toList,Region.binds .any e=ag→D e.on)(m:z5 (du ops []) i j=ag):D i:=by
 obtain⟨e,g,d,b | ⟨b,l⟩⟩:=(Fj ho).1 m
 ·exact b▸hr e g d
 ·exact h.below e.on (hr e g d) l
def FJ(aos:List aO)(j:Nat):Prop:=∃ y,aos[j]?=ab y∧cls y.op=.w
theorem nJ{aos:List aO}{j:Nat}:j ∈ oP aos↔FJ aos j:=by
 unfold oP FJ;rw [List.mem_filter,List.mem_range];constructor
 ·rintro⟨_,h⟩;split at h
  ·rename_i y b;exact⟨y,b,by simpa using h⟩
  ·simp at h
 ·rintro⟨y,b,d⟩;exact⟨(BY.1 b).1,by simp [b,d]⟩
theorem oa{g:Type}(p:g→Bool):∀(l:List g),(∀ k,k<(l.takeWhile p).length→∃ y,l[k]?=ab y∧p y=ag)∧((l.takeWhile p).length=l.length∨∃ y,l[(l.takeWhile p).length]?=ab y∧p y=ah)
 | []=>by simp
 | x::l=>by
  by_cases d:p x=ag
  ·rw [List.takeWhile_cons_of_pos d];obtain⟨j,b⟩:=oa p l;refine⟨fun k m=>?_,?_⟩
   ·cases k with
    | zero=>exact⟨x,rfl,d⟩| succ k=>exact j k (by simpa using m)
   ·rcases b with b | b
    ·exact .inl (by simp [b])
    ·exact .inr (by simpa using b)
  ·rw [List.takeWhile_cons_of_neg d];exact⟨by simp,.inr ⟨x,rfl,by simpa using d⟩⟩
theorem px{aos:List aO}{i:Nat}(hi:i≤aos.length):i≤phase aos i∧phase aos i≤aos.length∧(phase aos i=aos.length∨FJ aos (phase aos i))∧∀ j,i≤j→j<phase aos i→¬ FJ aos j:=by
 unfold phase;obtain⟨s,g⟩:=oa (fun y:aO=>decide (cls y.op≠.w)) (aos.drop i);have q:((aos.drop i).takeWhile fun y=>decide (cls y.op≠.w)).length≤(aos.drop i).length:=by
  rcases aut (aos.drop i).length ((aos.drop i).takeWhile fun y=>decide (cls y.op≠.w)).length with h | h
  ·obtain⟨y,b,_⟩:=s _ h;have:=(BY.1 b).1;omega
  ·exact h
 simp only [auK]at q g;refine⟨by omega,by omega,?_,fun j v u=>?_⟩
 ·rcases g with g | ⟨y,b,l⟩
  ·exact .inl (by omega)
  ·rw [at8]at b;exact .inr ⟨y,b,by simpa using l⟩
 ·obtain⟨y,b,l⟩:=s (j-i) (by omega);rw [at8,show i+(j-i)=j by omega]at b;rintro⟨x,d,m⟩;rw [b]at d;cases d;simp [m]at l
structure Ord(ops:List Oper)(aos:List aO)(iT:List (Nat × Nat)):Prop where
 back:∀ j o,j<aos.length→ops[j]?=ab o→∀ e ∈ o.after.toList,Region.binds .any e=ag→e.on<j
 two:∀ i j x y,i<j→aos[i]?=ab x→aos[j]?=ab y→z5 (du ops []) i j=ag∨(x.apart y=ag∧(ua x y=ag∨(j=lj (du ops []) aos∧cls x.op=.w)))
 ear:∀ y,aos[lj (du ops []) aos]?=ab y→(∃ zs,y.op=.alloc zs)∧y.g=ae∧∃ p,y.dst=ab p∧∀ i z,aos[i]?=ab z→p ∈ z.rd→∀ e,FJ aos e→e<lj (du ops []) aos→z5 (du ops []) e i=ag
 rd:∀ i x e,aos[i]?=ab x→cls x.op=.r→FJ aos e∨e=aos.length→FT (du ops []) aos i e=ag→e=phase aos i∨(i,e) ∈ iT
theorem N6{ops:List Oper}{aos:List aO}{iT:List (Nat × Nat)}(h:aaz ops aos iT=ag):Ord ops aos iT:=by
 simp only [aaz,If]at h;obtain⟨⟨⟨A,B⟩,g⟩,E⟩:=h;refine⟨fun j o L N e b J=>?_,fun i j x y s m q=>?_,fun y q=>?_,fun i x e m K b M=>?_⟩
 ·rw [at4]at A;have d:(o,j) ∈ ops.zip (List.range aos.length):=by
   refine List.mem_of_getElem? (i:=j) ?_;rw [List.getElem?_zip_eq_some];exact⟨N,by simp [L]⟩
  have:=A _ d;rw [at4]at this;simpa [J]using this e b
 ·rw [at4]at B;have:=B j (by simpa using (BY.1 q).1);rw [at4]at this;have:=this i (by simpa using s);rw [m,q]at this;simpa using this
 ·unfold Ft at g;rw [q]at g;simp only [If,Option.isNone_iff_eq_none]at g;obtain⟨⟨I,F⟩,l⟩:=g;refine⟨?_,I,?_⟩
  ·split at F
   ·exact⟨_,by assumption⟩
   ·simp at F
  ·split at l
   ·rename_i p O;refine⟨p,O,fun i z H v e b u=>?_⟩;rw [at4]at l;have:=l i (by simpa using (BY.1 H).1);rw [H]at this;simp only [Bool.or_eq_true,Bool.not_eq_true',List.contains_eq_mem,decide_eq_false_iff_not,at4]at this;rcases this with h | h
    ·exact absurd v h
    ·have:=h e (nJ.2 b);simpa [u]using this
   ·simp at l
 ·rw [at4]at E;have:=E i (by simpa using (BY.1 m).1);rw [m]at this;simp only [K,if_true]at this;rw [at4]at this;have:=this e (by
   rw [at9];rcases b with b | b
   ·exact .inl (nJ.2 b)
   ·exact .inr (by simp [b]))
  simpa [M]using this
section
variable{Q:Program}{σ:Nat→FuncId}{X:Wd}{call:cO}
theorem Ext.len{X X':Wd}(h:Ext X.H.length X X'):X.H.length≤X'.H.length:=by
 rcases aut X'.H.length X.H.length with b | g
 ·obtain⟨blk',d,_⟩:=h.cu X'.H.length b _ (AT b);have:=(BY.1 d).1;omega
 ·exact g
theorem yq{s s':St}{b:cV}{v:V}(h:eG call s b=ab (v,s')):s'.aA=s.aA:=by
 have:=GF (r':=s.aA) (fun _ _=>rfl) h;rw [show({ s with aA:=s.aA }:St)=s from rfl,h]at this;simp only [sh,IT,true_and]at this;rw [this]
theorem EZ{s s':St}{y:aO}(h:fA call s y=ab s'):∃ v,s'.aA=ka s.aA y.dst v:=by
 unfold fA at h;split at h
 ·split at h
  ·rename_i v d b;cases h;exact⟨v,by rw [yq b]⟩
  ·simp at h
 ·cases h;exact⟨_,rfl⟩
 ·simp at h
theorem uX{aA:T}{d:Option P}{v:V}{p:P}:(ka aA d v).get p=if d=ab p then v else aA.get p:=by
 cases d with
 | none=>simp [ka]| some q=>simp only [ka,T.qi,sh]
theorem pH{s s':St}{y:aO}(g:cls y.op≠.w)(h:fA call s y=ab s'):c8 s.heap s'.heap∧s'.defs=s.defs:=by
 unfold fA at h;split at h
 ·split at h
  ·rename_i v z b;cases h;by_cases j:(∃ f xs h,y.op=.call f xs h)∨(∃ x xs h,y.op=.cj x xs h)∨y.op=.recover∨∃ x xs,y.op=.defer x xs
   ·rcases j with⟨f,xs,q,e⟩ | ⟨x,xs,q,e⟩ | e | ⟨x,xs,e⟩
    ·rw [e]at b g;cases q
     ·simp only [eG,gG,atY,if_false,IN,IT]at b;obtain⟨⟨A,H'⟩,b,rfl,rfl⟩:=b;refine⟨?_,rfl⟩;unfold en at b;split at b
      ·simp at b
      ·split at b
       ·simp at b
       ·split at b
        ·simp at b
        ·simp only [sh,IT]at b;show c8 s.heap H';rw [←b.2];exact(oF _ _ _).ext
     ·exact absurd rfl g
    ·rw [e]at g;exact absurd rfl g
    ·rw [e]at g;exact absurd rfl g
    ·rw [e]at g;exact absurd rfl g
   ·have u:(bu s.aA s.heap y.op).map (fun r=>(r.1,{ s with heap:=r.2 }))=ab (v,z):=by
     generalize y.op=l at b j;cases l<;>first | exact b | (exfalso;apply j;simp)
    simp only [IN,IT]at u;obtain⟨⟨A,H'⟩,m,rfl,rfl⟩:=u;clear b;have b:=m;clear m;refine⟨?_,rfl⟩;show c8 s.heap H';cases d:cls y.op with
    | p=>
     have:=ai4 (r:=s.aA) d s.heap s.heap;rw [b]at this;simp only [auz,sh,IT]at this;rw [this.2];exact c8.refl _
    | r=>rw [(GG d (c8.refl _) b).1];exact c8.refl _
    | a=>
     rcases aqF d b with e | ⟨cs,e⟩
     ·rw [e];exact c8.refl _
     ·rw [e];exact c8.append _ _
    | c=>
     generalize y.op=l at b d;cases l<;>first | (simp only [cls,reduceCtorEq]at d;done) | (simp [bu]at b;done)
    | w=>exact absurd d g
  ·simp at h
 ·cases h;exact⟨c8.refl _,rfl⟩
 ·simp at h
def iO(aA:T)(ps:List P):T:=ps.foldl (fun t p=>t.set p (aA.get p)) .e
theorem u6(aA:T)(ps:List P)(p:P):(iO aA ps).get p=if p ∈ ps then aA.get p else .top:=by
 have key:∀(ps:List P) (t:T),(ps.foldl (fun t p=>t.set p (aA.get p)) t).get p=if p ∈ ps then aA.get p else t.get p:=by
  intro ps;induction ps with
  | nil=>intro t;simp
  | cons q ps g=>
   intro t;simp only [auV,g,T.qi,aui];by_cases b:p ∈ ps
   ·simp [b]
   ·by_cases d:q=p
    ·subst d;simp [b]
    ·have:¬ p=q:=fun e=>d e.symm;simp [b,d,this]
 have:=key ps .e;unfold iO;rw [this];rfl
structure ku(Q:Program)(σ:Nat→FuncId)(call:cO)(n:Nat)(ops:Array Oper)(aos:List aO)(iT:List (Nat × Nat))(st:Nat→St):Prop where
 akP:fK (lv Q σ n ops) ops.toList aos=ag
 ord:Ord ops.toList aos iT
 step:∀ i y,aos[i]?=ab y→fA call (st i) y=ab (st (i+1))
 arE:∀ i e y,(i,e) ∈ iT→aos[i]?=ab y→wanted (st i).aA y.g=ab ag→∃ v H1 H2,bu (st i).aA (st i).heap y.op=ab (v,H1)∧bu (st i).aA (st e).heap y.op=ab (v,H2)
structure kW(σ:Nat→FuncId)(X:Wd)(c:Nat)(zs:List FC):Prop where
 bp:∃ us t,X.w.heap[c]?=ab (.cells us.toArray t (0,0))∧A2 (CR σ X) (zs.map .f) us
 b:X.B≤c
 xp:∀ b L,X.cC b=ab L→L.c≠c
 f:∀ i,¬ X.F c i
theorem kW.lt{c:Nat}{zs:List FC}(h:kW σ X c zs):c<X.w.heap.size:=by
 obtain⟨us,t,b,_⟩:=h.bp;exact(Array.getElem?_eq_some_iff.1 b).1
theorem kW.ext{X X':Wd}(d:Ext X.H.length X X'){c:Nat}{zs:List FC}(h:kW σ X c zs):kW σ X' c zs:=by
 have j:=h.lt;obtain⟨us,t,m,q⟩:=h.bp;refine⟨⟨us,t,by rw [d.frame c j h.xp];exact m,A2.ext' σ d q⟩,by rw [d.B];exact h.b,fun b L s=>?_,fun i hi=>?_⟩
 ·rcases d.xp b L s with⟨b0,l,g1,g2⟩ | g1
  ·rw [←g2];exact h.xp b0 l g1
  ·omega
 ·rcases d.pT c i hi with g | g | ⟨b,L,g1,g2⟩
  ·exact h.f i g
  ·omega
  ·exact h.xp b L g1 g2
theorem SR.assign(s:SR Q σ X){n c:Nat}{zs:List FC}{y:Nat}(j:kW σ X c zs)(x:X.H[n]?=ab (.box (zs.map .f) y))(hr:X.cC n=ae) :
  SR Q σ { X with cC:=fun b=>if b=n then ab ⟨c,0⟩else X.cC b }∧pS X.H.length X { X with cC:=fun b=>if b=n then ab ⟨c,0⟩else X.cC b }∧VR σ { X with cC:=fun b=>if b=n then ab ⟨c,0⟩else X.cC b } (.c (.ptr n 0 0)) (.pointer (ab ⟨c,0,ae⟩)):=by
 have u:pS X.H.length X { X with cC:=fun b=>if b=n then ab ⟨c,0⟩else X.cC b }:=by
  refine⟨fun _ _ h=>h,fun _ _ _=>rfl,fun b _ bp g=>⟨bp,g,?_⟩⟩;have:∀ L,X.cC b=ab L→(if b=n then ab (⟨c,0⟩:Loc)else X.cC b)=ab L:=fun L q=>by
   by_cases e:b=n
   ·subst e;rw [hr]at q;simp at q
   ·rw [aY e];exact q
  cases bp<;>simp only [true_and,and_self]<;>first | exact this | (exact .inl ⟨trivial,trivial,this⟩) | (exact⟨rfl,.inl ⟨rfl,rfl,this⟩⟩) | (exact .inl this) | simpa using this
 obtain⟨us,t,z,A⟩:=j.bp;refine⟨⟨fun b L g=>?_,fun b m L v g d hc=>?_,s.fb⟩,u,⟨⟨c,0⟩,by simp,by rw [x]⟩⟩
 ·by_cases e:b=n
  ·subst e;simp only [if_true,sh]at g;subst g;exact⟨j.b,j.lt,_,x,us,⟨t,(0,0),z,fun i _=>by simp⟩,A2.dS σ u A,fun i _=>j.f i⟩
  ·simp only [e,if_false]at g;obtain⟨g1,g2,bp,g3,g4⟩:=s.br b L g;exact⟨g1,g2,bp,g3,BR.qg Q σ u rfl (fun _ h=>h) g4⟩
 ·simp only at g d;by_cases e:b=n<;>by_cases l:m=n
  ·rw [e,l]
  ·rw [bg e]at g;rw [aY l]at d;cases g;exact absurd hc.symm (j.xp m v d)
  ·rw [aY e]at g;rw [bg l]at d;cases d;exact absurd hc (j.xp b L g)
  ·rw [aY e]at g;rw [aY l]at d;exact s.inj b m L v g d hc
abbrev eJ(ops:Array Oper)(aos:List aO):Nat:=lj (du ops.toList []) aos
def ary(σ:Nat→FuncId)(X0:Wd)(ops:Array Oper)(aos:List aO)(E:Nat)(X:Wd)(a:Act)(p:P)(K:Nat):Prop:=
 ∃ y zs c,K=eJ ops aos+1∧E≤eJ ops aos∧aos[eJ ops aos]?=ab y∧y.dst=ab p∧y.op=.alloc zs∧a.tmps.getD p.toNat undef=.pointer (ab ⟨c,0,ae⟩)∧X0.w.heap.size≤c∧kW σ X c zs
structure Inv(Q:Program)(σ:Nat→FuncId)(X0:Wd)(n:Nat)(ops:Array Oper)(aos:List aO)(st:Nat→St)(D:Nat→Prop)(E:Nat)(X:Wd)(a:Act):Prop where
 closed:rj ops.toList D
 dlt:∀ j,D j→j<aos.length
 eN:E≤aos.length
 eW:E=aos.length∨FJ aos E
 eD:¬ D E
 wD:∀ j,FJ aos j→j<E→D j
 heap:X.H=(st E).heap
 ext:Ext X0.H.length X0 X
 sr:SR Q σ X
 b:X.B≤X.w.heap.size
 defs:fJ σ X (st E).defs a.defers
 size:n≤a.tmps.size
 abr:∀ p,∃ K,K≤aos.length∧(VR σ X ((st K).aA.get p) (a.tmps.getD p.toNat undef)∨ary σ X0 ops aos E X a p K)∧∀ j y,aos[j]?=ab y→y.dst=ab p→(j<K↔D j)
 xo:∀ j y,j<E→¬ D j→aos[j]?=ab y→cls y.op=.a→(st (j+1)).heap.length≠(st j).heap.length→X.cC (st j).heap.length=ae
section
variable{n:Nat}{ops:Array Oper}{aos:List aO}{iT:List (Nat × Nat)}{st:Nat→St}
theorem ku.my(R:ku Q σ call n ops aos iT st){p:P}{lo:Nat}:∀(hi:Nat),lo≤hi→hi≤aos.length→(∀ j y,lo≤j→j<hi→aos[j]?=ab y→y.dst≠ab p)→(st lo).aA.get p=(st hi).aA.get p
 | 0,h,_,_=>by rw [Nat.le_zero.1 h]
 | hi+1,h,q,d=>by
  rcases aut hi lo with b | b
  ·rw [show lo=hi+1 by omega]
  ·rw [ku.my R hi b (by omega) fun j y g m=>d j y g (by omega)];have hy:=AT (show hi<aos.length by omega);obtain⟨v,l⟩:=EZ (R.step hi _ hy);rw [l,uX,aY (d hi _ b (by omega) hy)]
theorem ku.cZ(R:ku Q σ call n ops aos iT st){lo:Nat}:∀(hi:Nat),lo≤hi→hi≤aos.length→(∀ j,lo≤j→j<hi→¬ FJ aos j)→c8 (st lo).heap (st hi).heap∧(st hi).defs=(st lo).defs
 | 0,h,_,_=>by rw [Nat.le_zero.1 h];exact⟨c8.refl _,rfl⟩
 | hi+1,h,s,d=>by
  rcases aut hi lo with b | b
  ·rw [show lo=hi+1 by omega];exact⟨c8.refl _,rfl⟩
  ·obtain⟨g1,g2⟩:=ku.cZ R hi b (by omega) fun j g q=>d j g (by omega);have hy:=AT (show hi<aos.length by omega);obtain⟨l,m⟩:=pH (fun hc=>d hi b (by omega) ⟨_,hy,hc⟩) (R.step hi _ hy);exact⟨g1.trans l,m.trans g2⟩
theorem ku.at(R:ku Q σ call n ops aos iT st){i:Nat}{y:aO}(hy:aos[i]?=ab y):∃ o,ops[i]?=ab o∧lv Q σ n ops o y=ag:=by
 have:=ey R.akP;have hi:i<ops.toList.length:=by rw [this.len];exact(BY.1 hy).1
 have b:=AT hi;refine⟨ops.toList[i],by rw [←Array.getElem?_toList];exact b,this.2 i _ _ b hy⟩
theorem ku.before(R:ku Q σ call n ops aos iT st){i j:Nat}{x y:aO}(g:i<j)(q:aos[i]?=ab x)(hy:aos[j]?=ab y)(h:x.apart y=ah∨(ua x y=ah∧(j=eJ ops aos→cls x.op≠.w))):z5 (du ops.toList []) i j=ag:=by
 rcases R.ord.two i j x y g q hy with d | ⟨d,b⟩
 ·exact d
 ·rcases h with h | ⟨h,l⟩
  ·rw [d]at h;simp at h
  ·rcases b with b | ⟨b,m⟩
   ·rw [b]at h;simp at h
   ·exact absurd m (l b)
theorem Ext.assign{X0 g:Wd}(h:Ext X0.H.length X0 g){n c:Nat}(j:pS g.H.length g { g with cC:=fun b=>if b=n then ab ⟨c,0⟩else g.cC b })(hc:X0.w.heap.size≤c):Ext X0.H.length X0 { g with cC:=fun b=>if b=n then ab ⟨c,0⟩else g.cC b } where
 B:=h.B
 F:=h.F
 pT:=h.pT
 fw:=h.fw
 cu:=fun b d=>(h.cu b d).trans (j.cu b (auI d h.len))
 xp:=fun b L d=>by
  simp only at d;by_cases e:b=n
  ·rw [bg e]at d;cases d;exact .inr hc
  ·rw [aY e]at d;exact h.xp b L d
 size:=h.size
 os:=h.os
 tape:=h.tape
 output:=h.output
 frame:=h.frame
theorem ku.ZU(R:ku Q σ call n ops aos iT st){y:aO}(hy:aos[eJ ops aos]?=ab y):cls y.op=.a:=by
 obtain⟨⟨zs,h⟩,_⟩:=R.ord.ear y hy;rw [h];rfl
theorem Zq{x y:aO}{p:P}(h:x.dst=ab p)(b:p ∈ y.rd):x.apart y=ah:=by
 simp [aO.apart,h,b]
theorem A_{x y:aO}{p:P}(h:x.dst=ab p)(b:y.dst=ab p):x.apart y=ah:=by
 simp [aO.apart,h,b]
theorem Zp{x y:aO}{p:P}(h:p ∈ x.rd)(b:y.dst=ab p):x.apart y=ah:=by
 simp [aO.apart,h,b]
structure kr(ops:Array Oper)(aos:List aO)(D:Nat→Prop)(i:Nat)(o:Oper)(y:aO):Prop where
 ho:ops[i]?=ab o
 hy:aos[i]?=ab y
 hD:¬ D i
 pre:∀ e ∈ o.after.toList,Region.binds .any e=ag→D e.on
variable{X0:Wd}{D:Nat→Prop}{E i:Nat}{a:Act}{o:Oper}{y:aO}
theorem kr.pj(b:Inv Q σ X0 n ops aos st D E X a)(hr:kr ops aos D i o y){j:Nat}(h:z5 (du ops.toList []) j i=ag):D j:=
 b.closed.ready (by simpa using hr.ho) hr.pre h
theorem kr.qB(b:Inv Q σ X0 n ops aos st D E X a)(hr:kr ops aos D i o y){j:Nat}(h:z5 (du ops.toList []) i j=ag):¬ D j:=
 fun d=>hr.hD (b.closed.below j d h)
theorem ku.reads(R:ku Q σ call n ops aos iT st)(l:Inv Q σ X0 n ops aos st D E X a)(hr:kr ops aos D i o y){p:P}(B:p ∈ y.rd):VR σ X ((st i).aA.get p) (a.tmps.getD p.toNat undef):=by
 obtain⟨K,L,m,I⟩:=l.abr p;have hi:i<aos.length:=(BY.1 hr.hy).1;have m:VR σ X ((st K).aA.get p) (a.tmps.getD p.toNat undef):=by
  rcases m with m | ⟨z,zs,c,_,S,b,d,_⟩
  ·exact m
  ·exfalso;obtain⟨_,_,U,v,g⟩:=R.ord.ear z b;rw [d]at v;cases v;have M:=(BY.1 b).1;rcases l.eW with O | u
   ·omega
   ·have N:E≠eJ ops aos:=by
     intro e;obtain⟨q,H,x⟩:=u;rw [e]at H;rw [R.ZU H]at x;cases x
    exact l.eD (hr.pj l (g i y hr.hy B E u (show E<eJ ops aos by omega)))
 rcases Nat.le_total K i with h | h
 ·rw [←R.my i h (by omega) fun j z J A b d=>?_]
  ·exact m
  ·have:=hr.pj l (R.before A b hr.hy (.inl (Zq d B)));have:=(I j z b d).2 this;omega
 ·rw [R.my K h L fun j z J A b d=>?_]
  ·exact m
  ·have s:=(I j z b d).1 A;rcases aut i j with F | F
   ·exact hr.qB l (R.before F hr.hy b (.inl (Zp B d))) s
   ·have:j=i:=by omega
    subst this;exact hr.hD s
theorem ku.fin(R:ku Q σ call n ops aos iT st)(B:Inv Q σ X0 n ops aos st D E X a)(hr:kr ops aos D i o y){l:Wd}{a1:Act}{u:Value}{v:V}{m:Nat}(hS:SR Q σ l)(hB:l.B≤l.w.heap.size)(a_:Ext X0.H.length X0 l)
  (hm:∀ v u,VR σ X v u→VR σ l v u) (a9:∀ y zs c p,E≤eJ ops aos→aos[eJ ops aos]?=ab y→y.op=.alloc zs→y.dst=ab p→D (eJ ops aos)→a.tmps.getD p.toNat undef=.pointer (ab ⟨c,0,ae⟩)→X0.w.heap.size≤c→kW σ X c zs→if m≤eJ ops aos then kW σ l c zs else VR σ l ((st (eJ ops aos+1)).aA.get p) (.pointer (ab ⟨c,0,ae⟩)))
  (hv:VR σ l v u∨(i=eJ ops aos∧m≤eJ ops aos∧∃ zs c,y.op=.alloc zs∧u=.pointer (ab ⟨c,0,ae⟩)∧X0.w.heap.size≤c∧kW σ l c zs))
  (ht:a1.tmps=(a.put o.dst u).tmps) (S:(st (i+1)).aA=ka (st i).aA y.dst v) (h1:m≤aos.length) (h2:m=aos.length∨FJ aos m) (h3:¬ (D m∨m=i)) (h4:∀ j,FJ aos j→j<m→D j∨j=i)
  (hH:l.H=(st m).heap) (hd:fJ σ l (st m).defs a1.defers)
  (hh:∀ j y,j<m→¬ (D j∨j=i)→aos[j]?=ab y→cls y.op=.a→(st (j+1)).heap.length≠(st j).heap.length→l.cC (st j).heap.length=ae) :
  Inv Q σ X0 n ops aos st (fun j=>D j∨j=i) m l a1:=by
 have hi:i<aos.length:=(BY.1 hr.hy).1;obtain⟨o',O,x⟩:=R.at hr.hy;rw [hr.ho]at O;cases O;have OC:(a.put o.dst u).tmps.size=a.tmps.size:=by cases o.dst<;>simp [Act.put]
 refine⟨fun j oj N A e he hb=>?_,fun j N=>N.elim (B.dlt j) fun h=>h▸hi,h1,h2,h3,h4,hH,a_,hS,hB,hd,by rw [ht,OC];exact B.size,fun p=>?_,hh⟩
 ·rcases N with N | rfl
  ·exact .inl (B.closed j oj N A e he hb)
  ·have:oj=o:=by have:=hr.ho;simp at A;rw [this]at A;cases A;rfl
   subst this;exact .inl (hr.pre e he hb)
 ·by_cases b:y.dst=ab p
  ·have q:a1.tmps.getD p.toNat undef=u:=by
    rw [ht];simp only [lv,If]at x;have g:=x.1.2;rw [b]at g;split at g
    ·rename_i d p' J I;simp only [If,beq_iff_eq,decide_eq_true_eq]at g;cases I;have Z:d<a.tmps.size:=auI g.2 B.size;rw [J,g.1];simp only [Act.put];simp [Z]
    ·rename_i I;simp at I
    ·simp at g
   refine⟨i+1,hi,?_,fun j z H s=>⟨fun h=>?_,fun h=>?_⟩⟩
   ·rcases hv with hv | ⟨M,Y,zs,c,g1,g2,g3,g4⟩
    ·left;rw [S,uX,bg b,q];exact hv
    ·right;exact⟨y,zs,c,by rw [M],Y,by rw [←M];exact hr.hy,b,g1,by rw [q];exact g2,g3,g4⟩
   ·rcases aut j i with L | L
    ·exact .inl (hr.pj B (R.before L H hr.hy (.inl (A_ s b))))
    ·exact .inr (by omega)
   ·rcases h with h | rfl
    ·rcases aut i j with L | L
     ·exact absurd h (hr.qB B (R.before L hr.hy H (.inl (A_ b s))))
     ·omega
    ·omega
  ·obtain⟨K,hK,F,hw⟩:=B.abr p;have e:a1.tmps.getD p.toNat undef=a.tmps.getD p.toNat undef:=by
    rw [ht];simp only [lv,If]at x;have g:=x.1.2;split at g
    ·rename_i d p' J I;simp only [If,beq_iff_eq,decide_eq_true_eq]at g;have a7:d≠p.toNat:=fun e=>b (by rw [I,P.toNat_inj (g.1.trans e)]);rw [J];simp [Act.put,Array.getD_eq_getD_getElem?,Array.getElem?_setIfInBounds_ne a7]
    ·rename_i J I;rw [J];rfl
    ·simp at g
   refine⟨K,hK,?_,fun j z H s=>?_⟩
   ·rcases F with F | ⟨z,zs,c,g1,g2,g3,g4,g5,U,g7,g8⟩
    ·left;rw [e];exact hm _ _ F
    ·have W:D (eJ ops aos):=(hw _ z g3 g4).1 (by omega);have:=a9 z zs c p g2 g3 g5 g4 W U g7 g8;split at this
     ·rename_i Y;right;exact⟨z,zs,c,g1,Y,g3,g4,g5,by rw [e];exact U,g7,this⟩
     ·left;rw [e,U,g1];exact this
   ·rw [hw j z H s];exact⟨.inl,fun h=>h.elim id fun h=>absurd (by rw [h]at H;rw [hr.hy]at H;cases H;exact s) b⟩
end
end
section
variable{Q:Program}{σ:Nat→FuncId}{X:Wd}{call:cO}
variable{n:Nat}{ops:Array Oper}{aos:List aO}{iT:List (Nat × Nat)}{st:Nat→St}
variable{X0:Wd}{D:Nat→Prop}{E i:Nat}{a:Act}{o:Oper}{y:aO}
theorem qa{x y:aO}(h:cls x.op=.w)(d:cls y.op≠.p)(b:cls y.op≠.r):ua x y=ah:=by
 unfold ua;rw [h];cases g:cls y.op<;>simp_all
theorem ub{x y:aO}(h:cls y.op=.w)(d:cls x.op≠.p)(b:cls x.op≠.r):ua x y=ah:=by
 unfold ua;rw [h];cases g:cls x.op<;>simp_all
theorem ku.uO(R:ku Q σ call n ops aos iT st){j:Nat}{z:aO}(b:aos[j]?=ab z)(hc:cls z.op≠.a):j≠eJ ops aos:=by
 rintro rfl;exact hc (R.ZU b)
theorem ku.amz(R:ku Q σ call n ops aos iT st)(b:Inv Q σ X0 n ops aos st D E X a)(hr:kr ops aos D i o y)(hc:cls y.op=.w):i=E:=by
 have hi:i<aos.length:=(BY.1 hr.hy).1;rcases auj i E with h | h | h
 ·exact absurd (b.wD i ⟨y,hr.hy,hc⟩ h) hr.hD
 ·exact h
 ·rcases b.eW with j | ⟨z,g,d⟩
  ·omega
  ·exact absurd (hr.pj b (R.before h g hr.hy (.inr ⟨qa d (by simp [hc]) (by simp [hc]),fun e=>absurd e (R.uO hr.hy (by simp [hc]))⟩))) b.eD
theorem ku.Zj(R:ku Q σ call n ops aos iT st)(d:Inv Q σ X0 n ops aos st D E X a)(hr:kr ops aos D i o y)(q:cls y.op≠.p)(s:cls y.op≠.r)(u:cls y.op≠.w)(A:i=eJ ops aos→i<E):i<E∧∀ j,i≤j→j<E→¬ FJ aos j:=by
 have hi:i<aos.length:=(BY.1 hr.hy).1;refine⟨?_,fun j B m v=>?_⟩
 ·rcases auj i E with h | h | h
  ·exact h
  ·rcases d.eW with x | ⟨z,g,b⟩
   ·omega
   ·rw [←h,hr.hy]at g;cases g;exact absurd b u
  ·rcases d.eW with x | ⟨z,g,b⟩
   ·omega
   ·exact absurd (hr.pj d (R.before h g hr.hy (.inr ⟨qa b q s,fun e=>by have:=A e;omega⟩))) d.eD
 ·have l:=d.wD j v m;obtain⟨z,g,b⟩:=v;rcases aut i j with h | h
  ·exact hr.qB d (R.before h hr.hy g (.inr ⟨ub b q s,fun _=>u⟩)) l
  ·have:j=i:=by omega
   subst this;exact hr.hD l
theorem ku.asW(R:ku Q σ call n ops aos iT st)(d:Inv Q σ X0 n ops aos st D E X a)(hr:kr ops aos D i o y)(hc:cls y.op=.r)(K:wanted (st i).aA y.g=ab ag){v:V}{B:an}(h:bu (st i).aA (st i).heap y.op=ab (v,B)) :
  B=(st i).heap∧bu (st i).aA X.H y.op=ab (v,X.H):=by
 have hi:i<aos.length:=(BY.1 hr.hy).1;refine⟨(GG hc (c8.refl _) h).1,?_⟩;have q:FT (du ops.toList []) aos i E=ag:=by
  unfold FT;rw [at4];intro j J;have l:=nJ.1 J;split
  ·rename_i m;have b:=d.wD j l m;cases u:z5 (du ops.toList []) i j with
   | false=>rfl| true=>exact absurd b (hr.qB d u)
  ·rename_i m;cases u:z5 (du ops.toList []) j i with
   | false=>rfl
   | true=>
    exfalso;have b:=hr.pj d u;rcases aut E j with F | F
    ·rcases d.eW with M | ⟨z,L,A⟩
     ·have:=d.dlt j b;omega
     ·obtain⟨O,s,g⟩:=l;exact d.eD (d.closed.below j b (R.before F L s (.inr ⟨qa A (by simp [g]) (by simp [g]),fun e=>absurd e (R.uO s (by simp [g]))⟩)))
    ·have:j=E:=by omega
     subst this;exact d.eD b
 rw [d.heap];rcases R.ord.rd i y E hr.hy hc (d.eW.symm) q with x | x
 ·obtain⟨p1,_,_,p4⟩:=px (aos:=aos) (i:=i) (by omega);rw [←x]at p1 p4;exact(GG hc (R.cZ E p1 d.eN p4).1 h).2
 ·obtain⟨N,H,I,g1,g2⟩:=R.arE i E y x hr.hy K;rw [h]at g1;cases g1;have:=(GG hc (c8.refl _) g2).1;rw [this]at g2;exact g2
theorem ku.afw(R:ku Q σ call n ops aos iT st){z:aO}(d:aos[eJ ops aos]?=ab z){zs:List FC}(b:z.op=.alloc zs){p:P}(g:z.dst=ab p) :
  (st (eJ ops aos+1)).heap=(st (eJ ops aos)).heap++[.box (zs.map .f) 0]∧(st (eJ ops aos+1)).aA.get p=.c (.ptr (st (eJ ops aos)).heap.length 0 0):=by
 obtain⟨_,hg,_⟩:=R.ord.ear z d;have h:=R.step _ z d;simp only [fA,hg,wanted,b,eG,bu,auz,sh]at h;rw [←h];exact⟨rfl,by rw [uX,bg g]⟩
theorem ku.Fi(R:ku Q σ call n ops aos iT st)(x:Inv Q σ X0 n ops aos st D E X a)(hr:kr ops aos D i o y)(hc:cls y.op=.w){d:Wd}{a1:Act}{u:Value}{v:V}(hS:SR Q σ d)(hB:d.B≤d.w.heap.size)(hx:Ext X.H.length X d)
  (hv:VR σ d v u) (ht:a1.tmps=(a.put o.dst u).tmps) (F:(st (i+1)).aA=ka (st i).aA y.dst v) (hH:d.H=(st (i+1)).heap) (hd:fJ σ d (st (i+1)).defs a1.defers) :
  ∃ E' X2,X2.w=d.w∧Inv Q σ X0 n ops aos st (fun j=>D j∨j=i) E' X2 a1:=by
 have hi:i<aos.length:=(BY.1 hr.hy).1;have a_:=R.amz x hr hc;subst a_;obtain⟨p1,p2,p3,p4⟩:=px (aos:=aos) (i:=i+1) (by omega);obtain⟨q1,q2⟩:=R.cZ _ p1 p2 p4;rw [←hH]at q1;obtain⟨k1,Z⟩:=SR.ahead hS q1;have l:Ext X.H.length X { d with H:=(st (phase aos (i+1))).heap }:=hx.trans (Z.mono hx.len);have J:Ext X0.H.length X0 { d with H:=(st (phase aos (i+1))).heap }:=x.ext.trans (l.mono x.ext.len);have K:¬ (D (phase aos (i+1))∨phase aos (i+1)=i):=by
  rintro(h | h)
  ·rcases p3 with g | ⟨z,hz,m⟩
   ·have:=x.dlt _ h;omega
   ·exact hr.qB x (R.before p1 hr.hy hz (.inr ⟨qa hc (by simp [m]) (by simp [m]),fun e=>absurd e (R.uO hz (by simp [m]))⟩)) h
  ·omega
 have N:∀ j,FJ aos j→j<phase aos (i+1)→D j∨j=i:=by
  intro j U hj;rcases auj j i with h | h | h
  ·exact .inl (x.wD j U h)
  ·exact .inr h
  ·exact absurd U (p4 j h hj)
 have S:fJ σ { d with H:=(st (phase aos (i+1))).heap } (st (phase aos (i+1))).defs a1.defers:=by rw [q2];exact hd.ext' Z
 have iJ:i≠eJ ops aos:=R.uO hr.hy (by simp [hc]);have xo:∀ j z,j<phase aos (i+1)→¬ (D j∨j=i)→aos[j]?=ab z→cls z.op=.a→(st (j+1)).heap.length≠(st j).heap.length→i<j∧d.cC (st j).heap.length=ae:=by
  intro j z hj hD hz m B;rcases auj j i with h | h | h
  ·exact absurd (.inl (hr.pj x (R.before h hz hr.hy (.inr ⟨ub hc (by simp [m]) (by simp [m]),fun e=>absurd e iJ⟩)))) hD
  ·exact absurd (.inr h) hD
  ·have I:=(R.cZ j h (by omega) fun k g A=>p4 k g (by omega)).1.len;rw [←hH]at I;refine⟨h,?_⟩;cases q:d.cC (st j).heap.length with
   | none=>rfl| some L=>have:=SR.lt hS q;omega
 by_cases hP:∃ z zs c p,i≤eJ ops aos∧eJ ops aos<phase aos (i+1)∧aos[eJ ops aos]?=ab z∧z.op=.alloc zs∧z.dst=ab p∧D (eJ ops aos)∧a.tmps.getD p.toNat undef=.pointer (ab ⟨c,0,ae⟩)∧X0.w.heap.size≤c∧kW σ X c zs
 ·obtain⟨z,zs,c,p,g1,g2,g3,g4,g5,g6,g7,g8,g9⟩:=hP;obtain⟨s1,s2⟩:=R.afw g3 g4 g5;have M:i<eJ ops aos:=by omega
  have b7:(st (i+1)).heap.length≤(st (eJ ops aos)).heap.length:=(R.cZ _ M (by omega) fun k g A=>p4 k g (by omega)).1.len;obtain⟨fl,O⟩:∃ fl,(st (phase aos (i+1))).heap[(st (eJ ops aos)).heap.length]?=ab (.box (zs.map .f) fl):=by
   have W:=(R.cZ (phase aos (i+1)) (show eJ ops aos+1≤_ by omega) p2 fun k g A=>p4 k (by omega) A).1;rw [s1]at W;exact qj W
  have b9:kW σ { d with H:=(st (phase aos (i+1))).heap } c zs:=g9.ext l;have b_:d.cC (st (eJ ops aos)).heap.length=ae:=by
   cases q:d.cC (st (eJ ops aos)).heap.length with
   | none=>rfl| some L=>have:=SR.lt hS q;rw [hH]at this;omega
  obtain⟨a7,s,a9⟩:=SR.assign k1 b9 O b_;refine⟨phase aos (i+1),{ d with H:=(st (phase aos (i+1))).heap,cC:=fun b=>if b=(st (eJ ops aos)).heap.length then ab ⟨c,0⟩else d.cC b },rfl,R.fin x hr a7 hB (J.assign s g8) (fun v u h=>VR.dS σ s (VR.ext' σ l h)) ?_ (.inl (VR.dS σ s (VR.ext' σ Z hv))) ht F p2 p3 K N rfl (fJ.dS s S) ?_⟩
  ·intro z' c9 c' p' _ e2 _ e4 _ e6 _ _;rw [g3]at e2;cases e2;rw [g5]at e4;cases e4;rw [g7]at e6;simp only [Value.pointer.injEq,sh,Addr.mk.injEq,true_and,and_true]at e6;subst e6;rw [aY (by omega),s2];exact a9
  ·intro j w hj hD hw Y B;obtain⟨f1,f2⟩:=xo j w hj hD hw Y B;show(if(st j).heap.length=(st (eJ ops aos)).heap.length then ab (⟨c,0⟩:Loc)else d.cC (st j).heap.length)=ae;rw [aY,f2];intro e;rcases auj j (eJ ops aos)with h | h | h
   ·have g:=(R.cZ (lo:=j+1) (eJ ops aos) h (by omega) fun k g A=>p4 k (by omega) (by omega)).1.len;have A:=(pH (by simp [Y]) (R.step j w hw)).1.len;clear J l k1 Z;omega
   ·exact hD (.inl (by rw [h];exact g6))
   ·have g:=(R.cZ (lo:=eJ ops aos+1) j h (by omega) fun k g A=>p4 k (by omega) (by omega)).1.len;rw [s1,at7]at g;simp only [List.length_cons,List.length_nil]at g;omega
 ·refine⟨phase aos (i+1),{ d with H:=(st (phase aos (i+1))).heap },rfl,R.fin x hr k1 hB J (fun v u h=>VR.ext' σ l h) ?_ (.inl (VR.ext' σ Z hv)) ht F p2 p3 K N rfl S (fun j z g A h3 h4 h5=>(xo j z g A h3 h4 h5).2)⟩;intro z zs c p g1 g2 g3 g4 g5 g6 g7 g8;by_cases I:phase aos (i+1)≤eJ ops aos
  ·rw [bg I];exact g8.ext l
  ·exact absurd ⟨z,zs,c,p,g1,by omega,g2,g3,g4,g5,g6,g7,g8⟩ hP
theorem ku.ou(R:ku Q σ call n ops aos iT st)(d:Inv Q σ X0 n ops aos st D E X a)(hr:kr ops aos D i o y)(hc:cls y.op≠.w){b:Wd}{a1:Act}{u:Value}{v:V}(H:SR Q σ b)(B:b.B≤b.w.heap.size)(l:Ext X.H.length X b)
  (L:VR σ b v u∨(i=eJ ops aos∧E≤eJ ops aos∧∃ zs c,y.op=.alloc zs∧u=.pointer (ab ⟨c,0,ae⟩)∧X0.w.heap.size≤c∧kW σ b c zs)) (K:a1.tmps=(a.put o.dst u).tmps) (g:(st (i+1)).aA=ka (st i).aA y.dst v) (F:b.H=X.H) (I:fJ σ b (st E).defs a1.defers)
  (J:∀ j z,j<E→¬ (D j∨j=i)→aos[j]?=ab z→cls z.op=.a→(st (j+1)).heap.length≠(st j).heap.length→b.cC (st j).heap.length=ae) :
  Inv Q σ X0 n ops aos st (fun j=>D j∨j=i) E b a1:=by
 refine R.fin d hr H B (d.ext.trans (l.mono d.ext.len)) (fun v u h=>VR.ext' σ l h) (fun z zs c p g1 _ _ _ _ _ _ x=>by rw [bg g1];exact x.ext l) L K g d.eN d.eW ?_ (fun j q A=>.inl (d.wD j q A)) (F.trans d.heap) I J;rintro(h | h)
 ·exact d.eD h
 ·have hi:i<aos.length:=(BY.1 hr.hy).1;rcases d.eW with q | ⟨z,s,m⟩
  ·omega
  ·rw [h,hr.hy]at s;cases s;exact hc m
theorem ku.iP(s:Inv Q σ X0 n ops aos st D E X a){b:Wd}(h:b.cC=X.cC):∀ j z,j<E→¬ (D j∨j=i)→aos[j]?=ab z→cls z.op=.a→(st (j+1)).heap.length≠(st j).heap.length→b.cC (st j).heap.length=ae:=
 fun j z d g l m q=>by rw [h];exact s.xo j z d (fun h=>g (.inl h)) l m q
theorem ku.El(R:ku Q σ call n ops aos iT st)(q:Inv Q σ X0 n ops aos st D E X a)(hr:kr ops aos D i o y)(hc:cls y.op=.a)(J:i=eJ ops aos→i<E)(m:(st (i+1)).heap.length≠(st i).heap.length){j:Nat}{z:aO}(M:j<E)(hD:¬ (D j∨j=i))(F:aos[j]?=ab z)(d:cls z.op=.a)
  (g:(st (j+1)).heap.length≠(st j).heap.length):(st j).heap.length≠(st i).heap.length:=by
 have hi:i<aos.length:=(BY.1 hr.hy).1;obtain⟨g1,g2⟩:=R.Zj q hr (by simp [hc]) (by simp [hc]) (by simp [hc]) J;have L:∀ k,j≤k→k<E→¬ FJ aos k:=by
  intro k B u s;have l:=q.wD k s u;obtain⟨w,v,x⟩:=s;rcases aut j k with h | h
  ·exact hD (.inl (q.closed.below k l (R.before h F v (.inr ⟨ub x (by simp [d]) (by simp [d]),fun _=>by simp [d]⟩))))
  ·have:k=j:=by omega
   subst this;exact hD (.inl l)
 have b:∀ k w,aos[k]?=ab w→cls w.op=.a→(st (k+1)).heap.length≠(st k).heap.length→(st k).heap.length<(st (k+1)).heap.length:=by
  intro k w s A K;have:=(pH (by simp [A]) (R.step k w s)).1.len;omega
 rcases auj j i with h | h | h
 ·have B:=b j z F d g;have u:(st (j+1)).heap.length≤(st i).heap.length:=(R.cZ i h (by omega) fun k H I=>L k (by omega) (by omega)).1.len;omega
 ·exact absurd (.inr h) hD
 ·have B:=b i y hr.hy hc m;have u:(st (i+1)).heap.length≤(st j).heap.length:=(R.cZ j h (by have:=q.eN;omega) fun k H I=>g2 k (by omega) (by omega)).1.len;omega
end
section
variable{Q:Program}{σ:Nat→FuncId}{X:Wd}{call:cO}
variable{n:Nat}{ops:Array Oper}{aos:List aO}{iT:List (Nat × Nat)}{st:Nat→St}
variable{X0:Wd}{D:Nat→Prop}{E i:Nat}{a:Act}{o:Oper}{y:aO}
theorem EJ{w':World}{ob:Obj}(g:SR Q σ X)(d:dP X.w w' ob):SR Q σ { X with w:=w' }∧Ext X.H.length X { X with w:=w' }:=by
 have j:Ext X.H.length X { X with w:=w' }:=Ext.one g X.H.length rfl (fun _ _=>Iff.rfl) (fun k m _=>d.CE m)
  (fun L i h=>by rw [SR.rX g]at h;simp at h) (fun h=>absurd h (avp _)) (fun _ _ _=>rfl) (fun _ _=>rfl) (fun L h=>.inl ⟨L,h,rfl⟩) (by show _≤w'.heap.size;rw [d.size];omega) d.os d.tape d.output
 refine⟨SR.step Q σ g j X.H.length (fun _ _=>rfl) (fun _ _=>rfl) (fun b L _ l=>d.CE (g.br b L l).2.1)
  (fun _ _ _ _ _ h=>h) (fun L h=>by change X.cC X.H.length=ab L at h;rw [SR.rX g]at h;simp at h) (fun c i h=>?_),j⟩
 have:=g.fb c i h;show c<w'.heap.size;rw [d.size];omega
theorem aay{y:aO}{p:P}(h:p ∈ y.op.rd):p ∈ y.rd:=by unfold aO.rd;exact at9.2 (.inr h)
theorem FD{y:aO}{p:P}{w:Bool}(h:y.g=ab (p,w)):p ∈ y.rd:=by unfold aO.rd;rw [h];simp
theorem ku.ahC(hC:eR Q σ call)(R:ku Q σ call n ops aos iT st)(d:Inv Q σ X0 n ops aos st D E X a)(hr:kr ops aos D i o y){b:Frame}{rest:List Nat}{k:List Item}{cs:List Frame}(hk:jE b cs)(j8:gF y.op b) :
  ∃ E' X' a',Steps Q (lone (b.atR a (.inRegion ops (i::rest)::k)) cs X.w) (lone (b.atR a' (.inRegion ops rest::k)) cs X'.w)∧Inv Q σ X0 n ops aos st (fun j=>D j∨j=i) E' X' a'∧a'.tmps.size=a.tmps.size:=by
 have hi:i<aos.length:=(BY.1 hr.hy).1;obtain⟨o',d8,hm⟩:=R.at hr.hy;rw [hr.ho]at d8;cases d8;have g:=R.step i y hr.hy;have O:∀ p ∈ y.rd,VR σ X ((st i).aA.get p) (a.tmps.getD p.toNat undef):=fun p hp=>R.reads d hr hp;have l:dF Q σ o y.op=ag:=by simp only [lv,If]at hm;exact hm.1.1
 have J:∀ u,(a.put o.dst u).tmps.size=a.tmps.size:=fun u=>by cases o.dst<;>simp [Act.put]
 have I:∀(a:Act) u,(a.put o.dst u).defers=a.defers:=fun a u=>by cases o.dst<;>rfl
 have f_:∀(a a':Act) u,a'.tmps=a.tmps→(a'.put o.dst u).tmps=(a.put o.dst u).tmps:=fun a a' u h=>by cases o.dst<;>simp [Act.put,h]
 unfold fA at g;split at g
 ·rename_i b_;have hw:=oQ hm (aA:=(st i).aA) (tmps:=a.tmps) (X:=X) (fun p w' hg=>O p (FD hg)) d.size b_;split at g
  ·rename_i v s1 h1;simp only [sh]at g;have A:(st (i+1)).aA=ka (st i).aA y.dst v:=by rw [←g,←yq h1]
   have q:(st (i+1)).heap=s1.heap:=by rw [←g]
   have M:(st (i+1)).defs=s1.defs:=by rw [←g]
   have B:∀ p ∈ y.op.rd,(st i).aA.get p=(iO (st i).aA y.op.rd).get p:=fun p hp=>by rw [u6,bg hp]
   have Y:RR σ X (iO (st i).aA y.op.rd) a.tmps:=fun p=>by
    rw [u6];split
    ·rename_i hp;exact O p (aay hp)
    ·trivial
   have K:=GF B h1;by_cases m:cls y.op=.w
   ·have a7:=R.amz d hr m;obtain⟨g1,g2⟩:=GD hC d.sr d.b (s:={ st i with aA:=iO (st i).aA y.op.rd }) (by rw [d.heap,←a7]) Y (by rw [a7];exact d.defs) l K;obtain⟨X1,u,a1,k1,⟨k2,k3,k4,k5,k6⟩,k7,k8⟩:=g1 b ops i rest k cs hr.ho hw hk j8;obtain⟨E',X2,q1,q2⟩:=R.Fi d hr m (a1:=a1.put o.dst u) k3 k6 k5 k4 (f_ a a1 u k7) A (by rw [k2,q]) (by rw [M,I];exact k8);exact⟨E',X2,a1.put o.dst u,by rw [q1];exact k1,q2,by rw [f_ a a1 u k7,J]⟩
   ·
    have j7:∀ c,o.op≠.defer c:=qu l (fun x xs e=>m (by rw [e];rfl)) (fun e=>by rw [e]at h1;simp [eG,bu]at h1);have one:∀ {u:Value} {w':World},(execOp a.eval o).run Q X.w=.ok (.value u) w'→Steps Q (lone (b.atR a (.inRegion ops (i::rest)::k)) cs X.w) (lone (b.atR (a.put o.dst u) (.inRegion ops rest::k)) cs w'):=by
     intro u w' a9;refine .one (step_lone_go ?_);rw [stepGR_op hr.ho hw,Oper.semAt_eq _ _ _ j7];have Z:=Frame.finish_atR b a ops i rest k u;rw [hr.ho]at Z;simp only [auf]at Z;rw [←Z];simp [stepG.apply,Sem.runT_eq,a9]
    by_cases F:cls y.op=.c
    ·
     obtain⟨f,xs,b9⟩:∃ f xs,y.op=.call f xs ah:=by
      generalize y.op=op at F;cases op<;>first | (simp only [cls,reduceCtorEq]at F;done) | skip
      rename_i f xs hh;cases hh
      ·exact⟨f,xs,rfl⟩
      ·simp [cls]at F
     have H:=Y;rw [b9]at K l H;simp only [eG,gG,atY,if_false,IN,IT]at K;obtain⟨⟨v',H'⟩,hp,rfl,d_⟩:=K;have j4:H'=(st (i+1)).heap:=by
      rw [q];simp only [St.mk.injEq]at d_;exact d_.2.2
     obtain⟨g1,g2⟩:=R.Zj d hr (by simp [F]) (by simp [F]) (by simp [F]) (fun e=>absurd e (R.uO hr.hy (by simp [F])));have c_:c8 H' X.H:=by
      rw [j4,d.heap];exact(R.cZ E g1 d.eN fun j h1 h2=>g2 j (by omega) h2).1
     obtain⟨X1,u,k1,⟨k2,k3,k4,k5,k6⟩,k7⟩:=yM hC d.sr d.b H l hp c_ b ops i rest k cs hr.ho hw;exact⟨E,X1,a.put o.dst u,k1,R.ou d hr m k3 k6 k5 (.inl k4) rfl A k2 (by rw [I];exact d.defs.ext' k5) (ku.iP d k7),J u⟩
    ·have hx:(bu (iO (st i).aA y.op.rd) (st i).heap y.op)=ab (v,s1.heap):=by
      have b7:¬ ((∃ f xs h,y.op=.call f xs h)∨(∃ x xs h,y.op=.cj x xs h)∨y.op=.recover∨∃ x xs,y.op=.defer x xs):=by
       rintro(⟨f,xs,hh,e⟩ | ⟨x,xs,hh,e⟩ | e | ⟨x,xs,e⟩)<;>rw [e]at m F
       ·cases hh
        ·exact F rfl
        ·exact m rfl
       ·exact m rfl
       ·exact m rfl
       ·exact m rfl
      have hx:(bu (iO (st i).aA y.op.rd) (st i).heap y.op).map (fun r=>(r.1,({ st i with aA:=iO (st i).aA y.op.rd,heap:=r.2 }:St)))=ab (v,{ s1 with aA:=iO (st i).aA y.op.rd }):=by
       generalize iO (st i).aA y.op.rd=r at K;generalize y.op=op at K b7;cases op<;>first | exact K | (exfalso;apply b7;simp)
      simp only [IN,IT,St.mk.injEq]at hx;obtain⟨⟨v',H'⟩,h2,rfl,_,_,h3⟩:=hx;rw [h2];simp only at h3;rw [h3]
     by_cases W:cls y.op=.a
     ·by_cases S:i=eJ ops aos∧E≤i
      ·
       obtain⟨d6,j3⟩:=S;obtain⟨⟨zs,b9⟩,_,_⟩:=R.ord.ear y (show aos[eJ ops aos]?=ab y from d6▸hr.hy);have d7:=hx;rw [b9]at d7 l;simp only [bu,sh,IT]at d7;obtain⟨rfl,_⟩:=d7;simp only [dF]at l;split at l
       ·rename_i t ho;obtain⟨z,us,g_,h_,i_,_⟩:=eF (σ:=σ) (X:=X) l X.w;have a9:(execOp a.eval o).run Q X.w=.ok (.value (.pointer (ab ⟨X.w.heap.size,0,ae⟩))) (X.w.alloc (.cells us.toArray t)):=by
         simp only [execOp,ho];refine dZ ?_;simp [Instr.alloc,g_,newVar,newRow,h_]
        obtain⟨e1,e2⟩:=EJ d.sr (dP.alloc X.w (.cells us.toArray t));refine⟨E,{ X with w:=X.w.alloc (.cells us.toArray t) },a.put o.dst (.pointer (ab ⟨X.w.heap.size,0,ae⟩)),one a9,R.ou d hr m e1 (by have:=d.b;simp;omega) e2 (.inr ⟨d6,by rw [←d6];exact j3,zs,X.w.heap.size,b9,rfl,d.ext.size,?_⟩) rfl A rfl (by rw [I];exact d.defs.ext' e2) (ku.iP d rfl),J _⟩;exact⟨⟨us,t,(dP.alloc X.w (.cells us.toArray t)).new,A2.ext' σ e2 i_⟩,d.b,fun b L hb=>by have:=(d.sr.br b L hb).2.1;omega,fun j hj=>by have:=d.sr.fb _ j hj;omega⟩
       ·simp at l
      have hJ:i=eJ ops aos→i<E:=fun e=>by
       rcases aut i E with h | h
       ·exact h
       ·exact absurd ⟨e,h⟩ S
      obtain⟨g1,g2⟩:=R.Zj d hr (by simp [W]) (by simp [W]) (by simp [W]) hJ;have c_:c8 s1.heap X.H:=by
       rw [←q,d.heap];exact(R.cZ E g1 d.eN fun j h1 h2=>g2 j (by omega) h2).1
      obtain⟨X1,u,k1,⟨k2,k3,k4,k5,k6⟩,k7,k8⟩:=af' d.sr d.b Y W l hx c_ (fun b7=>d.xo i y g1 hr.hD hr.hy W (by rw [q];exact b7));refine⟨E,X1,a.put o.dst u,one k1,R.ou d hr m k3 k6 k5 (.inl k4) rfl A k2 (by rw [I];exact d.defs.ext' k5) ?_,J u⟩;by_cases c9:(st (i+1)).heap.length=(st i).heap.length
      ·exact ku.iP d (k8 (by rw [←q];exact c9))
      ·intro j z h2 h3 h4 h5 h6;rw [k7 _ (R.El d hr W hJ c9 h2 h3 h4 h5 h6)];exact d.xo j z h2 (fun h=>h3 (.inl h)) h4 h5 h6
     ·
      have d9:cls y.op=.p∨cls y.op=.r:=by cases a_:cls y.op<;>simp_all
      have j_:bu (st i).aA (st i).heap y.op=ab (v,s1.heap):=by rw [EY B];exact hx
      have f9:bu (iO (st i).aA y.op.rd) X.H y.op=ab (v,X.H):=by
       rcases d9 with a_ | a_
       ·have:=ai4 (r:=iO (st i).aA y.op.rd) a_ (st i).heap X.H;rw [hx]at this;simpa using this
       ·rw [←EY B];exact(R.asW d hr a_ b_ j_).2
      cases d5:y.op.fsl
      case true=>
       have N:=l;have U:=f9;have H:=Y;obtain⟨rg,j9⟩:=aP (iO (st i).aA y.op.rd);rw [←j9]at U H;revert N U;generalize y.op=op at d5;cases op<;>simp only [cV.fsl,reduceCtorEq]at d5;intro N U;obtain⟨_,u,X1,k1,k2,k3,k4,k5,k6,k7⟩:=xl d.sr d.b H N U;exact⟨E,X1,a.put o.dst u,one k1,R.ou d hr m k3 k6 k5 (.inl k4) rfl A k2 (by rw [I];exact d.defs.ext' k5) (ku.iP d k7),J u⟩
      obtain⟨_,u,k1,k2⟩:=aiW d.sr Y l d9 d5 f9;exact⟨E,X,a.put o.dst u,one k1,R.ou d hr m d.sr d.b (Ext.refl _ _) (.inl k2) rfl A rfl (by rw [I];exact d.defs) (ku.iP d rfl),J u⟩
  ·simp at g
 ·rename_i b_;have hw:=oQ hm (aA:=(st i).aA) (tmps:=a.tmps) (X:=X) (fun p w' hg=>O p (FD hg)) d.size b_;simp only [sh]at g;have A:(st (i+1)).aA=ka (st i).aA y.dst (.t []):=by rw [←g]
  have q:(st (i+1)).heap=(st i).heap:=by rw [←g]
  have M:(st (i+1)).defs=(st i).defs:=by rw [←g]
  have e_:Steps Q (lone (b.atR a (.inRegion ops (i::rest)::k)) cs X.w) (lone (b.atR (a.put o.dst undef) (.inRegion ops rest::k)) cs X.w):=by
   refine .one ?_;have:=stepR_op_skip (P:=Q) (b:=b) (a:=a) (k:=k) (cs:=cs) (w:=X.w) (ops:=ops) (i:=i) (rest:=rest) (by simp [hr.ho,hw]);rw [hr.ho]at this;exact this
  by_cases m:cls y.op=.w
  ·have a7:=R.amz d hr m;obtain⟨E',X2,q1,q2⟩:=R.Fi d hr m (a1:=a.put o.dst undef) d.sr d.b (Ext.refl _ _) VR.undef rfl A (by rw [d.heap,q,a7]) (by rw [M,I,a7];exact d.defs);exact⟨E',X2,a.put o.dst undef,by rw [q1];exact e_,q2,J _⟩
  ·exact⟨E,X,a.put o.dst undef,e_,R.ou d hr m d.sr d.b (Ext.refl _ _) (.inl VR.undef) rfl A rfl (by rw [I];exact d.defs) (ku.iP d rfl),J _⟩
 ·simp at g
end
end Km
