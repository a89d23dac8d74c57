/-
  Our own small machine for Go code by value, held tq the model: part 2. No program in IW.
-/
import Derived.Test.YtmbjejcfadllnaaGreatK1
import Derived.AtR
import Derived.RangeFuncIn
import Derived.RangeFuncRecord
import Derived.Conc.MuLone
open Nat renaming le_max_left → av4, le_trans → avV, le_max_right → avY, mul_le_mul_right → awz, le_refl → aft, add_mul → awl, lt_or_ge → awj, lt_irrefl → aw9, mul_eq_zero → axa, zero_add → awn, lt_of_lt_of_le → awr, lt_trichotomy → av5
open Option.some renaming injEq → sh
open Prod.mk renaming injEq → IS
open List renaming getElem?_map → awx, length_map → av7, getElem?_toArray → aw3, getElem?_cons_zero → awD, getElem?_cons_succ → aw1, length_append → avR, getElem?_eq_some_iff → BY, getElem?_set_ne → By, getElem?_append_left → AT, length_drop → awt, eq_nil_of_length_eq_zero → api, getElem?_set → awX, getElem?_eq_getElem → AI, getElem?_eq_none_iff → awp, foldl_cons → awF, mem_cons → awf, getElem_mem → IT, getElem?_drop → avU, getElem?_of_mem → awq, drop_eq_nil_iff → axg, drop_eq_getElem_cons → avW, mem_flatMap → aw6, mem_append → av1, mem_map → av9, getElem?_take → av6, getElem?_eq_none → aw4, getD_eq_getElem?_getD → av8, all_eq_true → avP
open Option renaming map_eq_some_iff → IN, map_some → awg, bind_some → av3
open Bool renaming and_eq_true → If, false_eq_true → atN
open Int renaming toNat_natCast → av2, mul_comm → awP
set_option linter.unusedVariables false
set_option linter.unusedSimpArgs false
set_option linter.unusedSectionVars false
set_option maxRecDepth 100000
namespace Km
open Go
section
variable{Q:Program}{σ:Nat→FuncId}{X:Wd}
theorem xT(n:Nat):∀(r c:Nat),Builtin.growBy n r c≤Nat.max c (n+(n+768) / 4)
 | 0,c=>by simp [Builtin.growBy];exact av4 _ _
 | r+1,c=>by
  simp only [Builtin.growBy];split
  ·exact av4 _ _
  ·rename_i h;refine avV (xT n r _) ?_;apply Nat.max_le.2;exact⟨avV (by omega) (avY _ _),avY _ _⟩
theorem va{need cap:Nat}(h:cap<need):Builtin.nextslicecap need cap≤2*need+768:=by
 unfold Builtin.nextslicecap;split
 ·omega
 ·split
  ·omega
  ·refine avV (xT need 4 cap) ?_;apply Nat.max_le.2;omega
theorem Cn(K:SR Q σ X){sz:Nat}{y:V}{u:Value}(v:VR σ X y u){m:Nat}{ys:List C}(h:cM X.H sz y=some (m,ys)) :
  ∃ F,(Builtin.lenOf u).run Q X.w=.ok m X.w∧(Builtin.firstCells sz m u).run Q X.w=.ok F.toArray X.w∧A2 (CR σ X) ys F∧ys.length=m*sz:=by
 unfold cM at h;split at h
 ·rename_i s;have:=VR.str v;subst this;split at h
  case isFalse=>simp at h
  rename_i q;subst q;simp only [sh,IS]at h;obtain⟨rfl,rfl⟩:=h;have g:s.extract 0 s.size=s:=ByteArray.extract_zero_size;refine⟨s.data.toList.map fun b=>.int .u8 b.toNat,by simp [Builtin.lenOf],?_,?_,?_⟩
  ·simp only [Builtin.firstCells,g,Sem.run_pure]
   congr 1
   apply Array.ext';simp
  ·rw [ByteArray.toList_eq]
   exact⟨by simp,fun i x u E B=>by
    simp only [awx,IN]at E B;obtain⟨c,L,rfl⟩:=E;obtain⟨d,z,rfl⟩:=B;rw [L]at z;cases z
    exact cD.int _ _⟩
  ·rw [ByteArray.toList_eq];simp only [av7,Array.length_toList,Nat.mul_one];rfl
 ·rename_i x M;split at h
  ·rename_i l cs A j;simp only [sh,IS]at h;obtain⟨rfl,rfl⟩:=h;obtain⟨us,H,I,J⟩:=lE K v A j;obtain⟨a,c,rfl⟩:=kr v A;exact⟨us,by simp [Builtin.lenOf],H,I,J⟩
  ·simp at h
 ·simp at h
structure am7(Q:Program)(t t' e:TypeId)(sz bytes:Nat):Prop where
 hu:Q.underlying t=some (.slice e)
 hu':∃ d,Q.underlying t'=some d∧(∀ k,d≠.int k)
 O':c7 Q e sz=true
 hby:nh Q e bytes=true
 pos:0<sz
 zero:∃ i z,Q.info? e=some i∧i.zero=some z∧z.cells.size=sz
def sv(base:Option Addr)(k:Nat)(b:List Value):Sem Unit:=match base with
 | some a=>storeCells (a.add k) b
 | none=>pure ()
theorem jg{t O e:TypeId}{sz bytes:Nat}(j:am7 Q t O e sz bytes)(W:TypeId){base:Option Addr}{l cap m:Nat}{u:Value}{g:List Value}{w:World}
  (S:(Builtin.lenOf u).run Q w=.ok m w) (Y:(Builtin.firstCells sz m u).run Q w=.ok g.toArray w) :
  (l+m≤cap→(Builtin.append_ #[t,O] W #[.slice base l cap,u]).run Q w =
   ((sv base (l*sz) g).run Q w).andThen fun _ w'=>.ok (.slice base (l+m) cap) w') ∧
  (¬ l+m≤cap→bI (l+m) bytes=true→∀ os g:List Value,(Builtin.firstCells sz l (.slice base l cap)).run Q w.drew=.ok os.toArray w.drew→(Builtin.firstCells sz m u).run Q w.drew=.ok g.toArray w.drew →
   ∃ nc rest w',l+m≤nc∧(Builtin.append_ #[t,O] W #[.slice base l cap,u]).run Q w=.ok (.slice (some ⟨w.heap.size,0,none⟩) (l+m) nc) w' ∧
    dz w w' (.cells (os++g++rest).toArray e)∧rest.length=(nc-(l+m))*sz):=by
 obtain⟨d,U,F⟩:=j.hu';obtain⟨i,z,hi,hz,y⟩:=j.zero;obtain⟨q,s,B⟩:=AK j.hby w
 have A:((d matches .int _):Bool)=false:=by
  cases d with
  | int k=>exact absurd rfl (F k)
  | _=>rfl
 constructor
 ·intro I;simp only [Builtin.append_,aw3];simp [aR j.hu,aR U,cQ j.O',A,S,I,Y];cases base<;>simp [sv]
 ·intro H b os g Z h4;unfold bI at b;simp only [If,decide_eq_true_eq]at b
  have v:q=i:=by
   simp [typeInfo,hi]at s;exact s.symm
  subst v
  have J:¬ (Builtin.nextslicecap (l+m) cap*q.bytes>2 ^ 48):=by
   rw [B];have:=va (need:=l+m) (cap:=cap) (by omega)
   have:=awz bytes this;omega
  let nc:=(Question.appendCap (l+m) cap e).cut (w.tape w.drawn (.appendCap (l+m) cap e))
  have K:l+m≤nc:=by simp [nc,Question.cut]
  refine⟨nc,cF (nc-(l+m)) z.cells.toList,w.drew.alloc (.cells (os++g++cF (nc-(l+m)) z.cells.toList).toArray e),K,?_,⟨rfl,rfl,rfl,rfl⟩,by rw [kn];simp [y]⟩
  have E:(choose (.appendCap (l+m) cap e)).run Q w=.ok nc w.drew:=by
   simp [choose,Sem.run,Question.forced,nc]
  have M:Builtin.zeroCells z.cells (nc-(l+m))=(cF (nc-(l+m)) z.cells.toList).toArray:=by
   have:=hV z.cells.toList (nc-(l+m)) (by simp [y];exact j.pos)
   simpa [Builtin.zeroCells]using this
  have x:¬ (((l+m:Nat):Int)>IntKind.i64.max):=by
   have:IntKind.i64.max=9223372036854775807:=by decide
   rw [this];omega
  have N:∀ w',(zeroValue e).run Q w'=.ok z w':=fun w'=>by simp [zeroValue,typeInfo,hi,hz]
  have L:∀ w',(typeInfo e).run Q w'=.ok q w':=fun w'=>by simp [typeInfo,hi]
  simp only [Builtin.append_,Sem.run_bind,aR j.hu,aR U,cQ j.O',A,Result.andThen_ok,Sem.run_pure,atN,if_false,S,if_neg H,Sem.run_ite,L,x,false_and,J,E,run_askRoom,Z,
   Bool.not_false,if_true,h4,N,M,newRow,run_newObj,aw3,awD,aw1]
  have X:os.toArray++g.toArray++(cF (nc-(l+m)) z.cells.toList).toArray=(os++g++cF (nc-(l+m)) z.cells.toList).toArray:=by simp
  rw [X];rfl
theorem SR.drew(b:SR Q σ X):SR Q σ { X with w:=X.w.drew }∧Ext X.H.length X { X with w:=X.w.drew }:=by
 have d:Ext X.H.length X { X with w:=X.w.drew }:=Ext.one b X.H.length rfl (fun _ _=>Iff.rfl) (fun _ _ _=>rfl) (fun _ _ _ _=>rfl) (fun h=>by omega)
  (fun _ _ _=>rfl) (fun _ _=>rfl) (fun L h=>.inl ⟨L,h,rfl⟩) (aft _) rfl rfl rfl
 exact⟨SR.step Q σ b d X.H.length (fun _ _=>rfl) (fun _ _=>rfl) (fun _ _ _ _=>rfl) (fun _ _ _ _ _ h=>h) (fun L h=>by
  change X.bU X.H.length=some L at h;rw [SR.rU b]at h;simp at h) b.fb,d⟩
theorem aba(l:SR Q σ X)(A:X.B≤X.w.heap.size){sz:Nat}(d:0<sz){cs:List C}{us rest:List Value}(h:A2 (CR σ X) cs us){n nc:Nat}(q:cs.length=n*sz)(hr:rest.length=(nc-n)*sz)(E:n≤nc)
  {e:TypeId} {w':World} (s:dz X.w w' (.cells (us++rest).toArray e)) :
  ∃ X',X'.w=w'∧X'.H=X.H++[.bE sz cs 0 0 .loc]∧SR Q σ X'∧Ext X.H.length X X'∧VR σ X' (.c (.sl X.H.length 0 n 0 0 sz)) (.slice (some ⟨X.w.heap.size,0,none⟩) n nc)∧X'.B≤X'.w.heap.size:=by
 obtain⟨X',u,j,v,x,y,z⟩:=SR.new l A (.bE sz cs 0 0 .loc) s nc fun X' F g B _=>⟨rfl,us,rest,by rw [g];exact ko s,A2.ext' σ F h,by
  have:=h.len
  rw [avR,hr,←this,q,←awl];congr 1;show n+(nc-n)=nc;omega,d,⟨n,q⟩,fun i _ m=>by rw [B]at m;have:=l.fb _ _ m;simp at this⟩
 refine⟨X',u,j,v,x,?_,z⟩;have b:X'.H[X.H.length]?=some (.bE sz cs 0 0 .loc):=by rw [j];simp
 simp only [VR,ik,CR,fy,b];exact⟨aft _,fun _ _=>⟨_,y,0,by omega,by show 0+n≤nc;omega,by simp⟩,_,_,_,rfl⟩
theorem z9(q:SR Q σ X)(O:X.B≤X.w.heap.size){b sz:Nat}{cs:List C}{v u:Nat}{st:Os}(F:X.H[b]?=some (.bE sz cs v u st)){ys:List C}{us B rest:List Value}(I:A2 (CR σ X) cs us)(K:A2 (CR σ X) ys B)
  (A:0<sz) {n nc:Nat} (J:cs.length+ys.length=n*sz) (hr:rest.length=(nc-n)*sz) (U:n≤nc) {e:TypeId} {w':World} (j:dz X.w w' (.cells (us++B++rest).toArray e)) :
  ∃ X',X'.w=w'∧X'.H=X.H.set b (.bE sz (cs++ys) v (u+1) .loc)∧SR Q σ X'∧Ext X.H.length X X'∧VR σ X' (.c (.sl b 0 n 0 (u+1) sz)) (.slice (some ⟨X.w.heap.size,0,none⟩) n nc)∧X'.B≤X'.w.heap.size:=by
 have z:b<X.H.length:=(BY.1 F).1
 let X':Wd:={ X with H:=X.H.set b (.bE sz (cs++ys) v (u+1) .loc),bU:=fun k=>if k=b then some ⟨X.w.heap.size,nc⟩else X.bU k,w:=w' }
 have g:X'.H[b]?=some (.bE sz (cs++ys) v (u+1) .loc):=by simp [X',z]
 have l:X'.bU b=some ⟨X.w.heap.size,nc⟩:=by simp [X']
 have x:Ext X.H.length X X':=Ext.one q b rfl (fun _ _=>Iff.rfl) (fun k S _=>j.DZ S) (fun L i W y=>World.cell?_of_block (j.DZ (q.fb _ _ y)))
  (fun _ aX d=>⟨_,g,by rw [F]at d;simp only [sh]at d;subst d;exact⟨rfl,.inr ⟨by omega,rfl,_,l⟩⟩⟩)
  (fun m h _=>by simp [X',By (Ne.symm h)]) (fun m h=>by simp [X',h]) (fun L h=>by rw [l]at h;simp only [sh]at h;subst h;exact .inr (aft _)) (by show X.w.heap.size≤w'.heap.size;rw [j.size];omega) j.os j.tape j.output
 refine⟨X',rfl,rfl,SR.step Q σ q x b (fun m h=>by simp [X',By (Ne.symm h)]) (fun m h=>by simp [X',h]) (fun m L _ s=>j.DZ (q.br m L s).2.1) (fun _ _ _ _ _ h=>h) (fun L h=>?_) (fun c i h=>?_),x,?_,?_⟩
 ·rw [l]at h;simp only [sh]at h;subst h;refine⟨O,by show X.w.heap.size<w'.heap.size;rw [j.size];omega,⟨_,g,rfl,us++B,rest,ko j,(A2.ext' σ x I).append (A2.ext' σ x K),?_,A,⟨n,by simpa using J⟩,fun i _ y=>?_⟩,fun m E _ s=>?_⟩
  ·have M:=I.len;have N:=K.len;rw [avR,avR,hr,←M,←N,J,←awl];congr 1;show n+(nc-n)=nc;omega
  ·have:=q.fb _ _ y;simp at this
  ·have:=(q.br m E s).2.1;show E.c≠X.w.heap.size;omega
 ·have:=q.fb c i h;show c<w'.heap.size;rw [j.size];omega
 ·simp only [VR,ik,CR,fy,g];exact⟨aft _,fun _ _=>⟨_,l,0,by omega,by show 0+n≤nc;omega,by simp⟩,_,_,_,rfl⟩
 ·show X.B≤w'.heap.size;rw [j.size];omega
end
section
variable{Q:Program}{σ:Nat→FuncId}{X:Wd}
theorem abi{d:Type}(us rest b:List d)(h:b.length≤rest.length):over (us++rest) us.length b=us++b++rest.drop b.length:=by
 unfold over;rw [List.take_left',←List.drop_drop,List.drop_left']
 all_goals rfl
theorem amx(M:SR Q σ X){b sz:Nat}{cs:List C}{g l:Nat}{L:Loc}(A:X.H[b]?=some (.bE sz cs g l .loc))(z:X.bU b=some L){ys:List C}{q:List Value}(H:A2 (CR σ X) ys q)(Y:g≤cs.length)
  {n:Nat} (Z:cs.length+ys.length=n*sz) (s:n≤L.cap):∃ X',(storeCells ⟨L.c,cs.length,none⟩ q).run Q X.w=.ok () X'.w∧X'.H=X.H.set b (.bE sz (cs++ys) g (l+1) .loc)∧SR Q σ X' ∧
   Ext X.H.length X X'∧VR σ X' (.c (.sl b 0 n 0 (l+1) sz)) (.slice (some ⟨L.c,0,none⟩) n L.cap)∧X'.w.heap.size=X.w.heap.size∧X'.B=X.B:=by
 obtain⟨_,_,aX,m,B⟩:=M.br b L z;rw [A]at m;simp only [sh]at m;subst m;obtain⟨_,us,rest,hr,I,K,U,h8,J⟩:=B;have u:b<X.H.length:=(BY.1 A).1;have a8:=H.len;have j:=I.len;have F:n*sz≤L.cap*sz:=awz sz s;have E:q.length≤rest.length:=by simp only [avR]at K;omega
 obtain⟨N,s2,s3,s4,s5,y⟩:=iH hr q cs.length (by simp;omega)
 rw [j,abi _ _ _ E]at y;rw [←j]at y
 obtain⟨O,S⟩:=SR.turn M (blk':=.bE sz (cs++ys) g (l+1) .loc) A z N s2 (fun i W=>by
   have hi:i<g:=by
    rcases awj i g with h | h
    ·exact h
    ·exact absurd W (J i h)
   have:=dA y i;rw [j]at this ⊢
   rw [this,dA hr,List.append_assoc,AT (by omega),AT (by omega)]) s3 s4 s5
  (fun aX d=>⟨.bE sz (cs++ys) g (l+1) .loc,by simp [u],by rw [A]at d;simp only [sh]at d;subst d;exact⟨rfl,.inr ⟨by omega,rfl,L,z⟩⟩⟩)
  (fun x=>⟨rfl,us++q,rest.drop q.length,by rw [j]at y ⊢;exact y,(A2.ext' σ x I).append (A2.ext' σ x H),by simp only [avR,awt]at K ⊢;omega,U,⟨n,by simpa using Z⟩,J⟩)
 refine⟨_,sw hr q cs.length (by simp;omega) (A2.one H),rfl,O,S,?_,N,rfl⟩
 have v:(X.H.set b (.bE sz (cs++ys) g (l+1) .loc))[b]?=some (.bE sz (cs++ys) g (l+1) .loc):=by simp [u]
 simp only [VR,ik,CR,fy,v];exact⟨aft _,fun _ _=>⟨L,z,0,by omega,by omega,by simp⟩,_,_,_,rfl⟩
theorem Ak{c:Call}{sz bytes:Nat}{x y:Arg}(h:du Q σ c (.append sz bytes x y)=true):∃ u v t m e,c.callee=.builtin .append∧c.args=#[u,v]∧c.argTypes=#[t,m]∧mA σ x u=true∧mA σ y v=true ∧
  am7 Q t m e sz bytes:=by
 simp only [du]at h;split at h
 ·rename_i u v t m B E F;simp only [If]at h;obtain⟨⟨⟨I,J⟩,l⟩,g⟩:=h;obtain⟨e,H,l⟩:=gM l;simp only [If,decide_eq_true_eq]at l;obtain⟨⟨⟨s,q⟩,d⟩,j⟩:=l
  have A:∃ i z,Q.info? e=some i∧i.zero=some z∧z.cells.size=sz:=by
   cases hi:Q.info? e with
   | none=>simp [hi]at j
   | some i=>
    simp only [hi,Option.any_some]at j
    cases b:i.zero with
    | none=>simp [b]at j
    | some z=>simp [b]at j;exact⟨i,z,rfl,b,j⟩
  refine⟨u,v,t,m,e,B,afT E,afT F,I,J,⟨H,?_,s,q,d,A⟩⟩;split at g
  ·exact⟨_,by assumption,fun k=>by simp⟩
  ·exact⟨_,by assumption,fun k=>by simp⟩
  ·simp at g
 ·simp at h
theorem ND(W:SR Q σ X)(hB:X.B≤X.w.heap.size){a:Act}{au:T}(hR:RR σ X au a.tmps){o:Oper}{sz bytes:Nat}{x y:Arg}(hm:dp Q σ o (.append sz bytes x y)=true){v:V}{H':ai}
  (h:aZ au X.H (.append sz bytes x y)=some (v,H')):gr Q σ X v H' (execOp a.eval o):=by
 simp only [dp]at hm;split at hm
 ·rename_i c ho;obtain⟨u,v',t,t',e,h1,h2,h3,hx,hy,ht⟩:=Ak hm;have hx:=bF hR hx;have hy:=bF hR hy;simp only [aZ]at h;generalize m_:a.eval u=ux at hx;generalize n4:a.eval v'=uy at hy;generalize x.ev au=vx at hx h;generalize y.ev au=vy at hy h
  have a_:∀(r:Value) (w':World),(Builtin.append_ #[t,t'] o.type #[ux,uy]).run Q X.w=.ok r w'→(execOp a.eval o).run Q X.w=.ok (.value r) w':=by
   intro r w' hr;refine dg ho h1 fun cs=>?_
   simp [builtin,h2,h3,m_,n4,hr]
  unfold bz at h;split at h
  ·simp at h
  rename_i m ys d7;rw [if_neg (by have:=ht.pos;omega)]at h
  obtain⟨vs,b9,b7,c_,d6⟩:=Cn W hy d7;obtain⟨Y,i_⟩:=SR.drew W;obtain⟨a8,_,d5,j9,_⟩:=Cn Y (VR.ext' σ i_ hy) d7
  have B:A2 (CR σ X) ys a8:=by
   have c9:Ext X.H.length { X with w:=X.w.drew } X:=Ext.one Y X.H.length rfl (fun _ _=>Iff.rfl) (fun _ _ _=>rfl) (fun _ _ _ _=>rfl) (fun h=>absurd h (aw9 _))
    (fun _ _ _=>rfl) (fun _ _=>rfl) (fun L h=>.inl ⟨L,h,rfl⟩) (aft _) rfl rfl rfl
   exact A2.ext' σ (X:={ X with w:=X.w.drew }) c9 j9
  have H:∀ {base:Option Addr} {l cap:Nat} {os:List Value} {cs:List C},ux=.slice base l cap→¬ l+m≤cap→bI (l+m) bytes=true →
    (Builtin.firstCells sz l (.slice base l cap)).run Q X.w.drew=.ok os.toArray X.w.drew→A2 (CR σ X) cs os→cs.length=l*sz →
    gr Q σ X (.c (.sl X.H.length 0 (l+m) 0 0 sz)) (X.H++[.bE sz (cs++ys) 0 0 .loc]) (execOp a.eval o):=by
   intro base l cap os cs hu d_ d l_ l9 l7;obtain⟨nc,rest,w',J,j,g,K⟩:=(jg ht o.type (base:=base) (l:=l) (cap:=cap) b9 b7).2 d_ d os a8 l_ d5;obtain⟨X',N,I,O,S,U,g6⟩:=aba W hB ht.pos (cs:=cs++ys) (us:=os++a8) (l9.append B) (n:=l+m) (nc:=nc) (by rw [avR,l7,d6,awl]) K J g
   exact⟨_,X',.inl (by rw [N];exact a_ _ _ (by rw [hu];exact j)),I,O,U,S,g6⟩
  have A:∀ {base:Option Addr} {l cap:Nat} {X':Wd},ux=.slice base l cap→l+m≤cap→(sv base (l*sz) vs).run Q X.w=.ok () X'.w →
    (execOp a.eval o).run Q X.w=.ok (.value (.slice base (l+m) cap)) X'.w:=by
   intro base l cap X' hu q m9;refine a_ _ _ ?_;rw [hu,(jg ht o.type (base:=base) (l:=l) (cap:=cap) b9 b7).1 q,m9];rfl
  split at h
  ·
   cases (hx:cD σ X.F X.w .ay ux);split at h
   ·rename_i Z;subst Z;simp only [sh,IS]at h;obtain⟨rfl,rfl⟩:=h;exact⟨_,X,.inl (A (X':=X) rfl (by omega) rfl),rfl,W,cD.ay,Ext.refl _ _,hB⟩
   ·split at h
    ·rename_i d;simp only [sh,IS]at h;obtain⟨rfl,rfl⟩:=h;have:=H (base:=none) (l:=0) (cap:=0) (os:=[]) (cs:=[]) rfl (by omega) (by simpa using d) (by simp [Builtin.firstCells]) A2.nil (by simp)
     simpa using this
    ·simp at h
  ·
   cases (hx:cD σ X.F X.w .es ux);rename_i ad;split at h
   ·rename_i Z;subst Z;simp only [sh,IS]at h;obtain⟨rfl,rfl⟩:=h;have g_:vs=[]:=api (by rw [←c_.len,d6];simp)
    exact⟨_,X,.inl (A (X':=X) rfl (by omega) (by rw [g_];rfl)),rfl,W,cD.es _,Ext.refl _ _,hB⟩
   ·split at h
    ·rename_i d;simp only [sh,IS]at h;obtain⟨rfl,rfl⟩:=h;have:=H (base:=some ad) (l:=0) (cap:=0) (os:=[]) (cs:=[]) rfl (by omega) (by simpa using d) (by simp [Builtin.firstCells,loadCells,loadCellsFrom]) A2.nil (by simp)
     simpa using this
    ·simp at h
  ·rename_i b off l cap ep s;have h_:CR σ X (.sl b off l cap ep s) ux:=hx;simp only [VR,ik,CR,fy]at hx;split at h
   ·
    rename_i cs fl F;rw [F]at hx;obtain⟨L,hL,n7,rfl⟩:=hx;split at h
    ·rename_i q;split at h
     ·rename_i hc;simp only [sh,IS]at h;obtain⟨rfl,rfl⟩:=h;obtain⟨X',N,I,O,S,U,g6,g7⟩:=DS W F hL c_ hc.1 hc.2;refine⟨_,X',.inl (A rfl q (by simp only [sv,dL];exact N)),I,O,?_,S,by omega⟩
      have b_:X'.H[b]?=some (.box (over cs (off+l*sz) ys) fl):=by rw [I];simp [(BY.1 F).1]
      simp only [VR,ik,CR,fy,b_];exact⟨L,by rw [U];exact hL,q,rfl⟩
     ·simp at h
    ·rename_i d_;split at h
     ·rename_i hc;simp only [sh,IS]at h;obtain⟨rfl,rfl⟩:=h;have e_:cH X.H sz (.sl b off l cap ep s)=some ((cs.drop off).take (l*sz)):=by simp [cH,F,hc.2]
      have f_:bA X.H (.sl b off l cap ep s)=some l:=by simp [bA,F]
      obtain⟨os,q1,q2,q3⟩:=lE Y (CR.ext' σ i_ h_) f_ e_
      have j3:A2 (CR σ X) ((cs.drop off).take (l*sz)) os:=by
       have c9:Ext X.H.length { X with w:=X.w.drew } X:=Ext.one Y X.H.length rfl (fun _ _=>Iff.rfl) (fun _ _ _=>rfl) (fun _ _ _ _=>rfl) (fun h=>absurd h (aw9 _))
        (fun _ _ _=>rfl) (fun _ _=>rfl) (fun L h=>.inl ⟨L,h,rfl⟩) (aft _) rfl rfl rfl
       exact A2.ext' σ (X:={ X with w:=X.w.drew }) c9 q2
      exact H rfl d_ hc.1 q1 j3 q3
     ·simp at h
   ·
    rename_i s' cs fl e' st F;rw [F]at hx;split at h
    ·rename_i hc;obtain⟨rfl,rfl,rfl⟩:=hc;have M:=hx.2.1 rfl rfl;split at h
     ·
      rename_i Z;subst Z;simp only [sh,IS]at h;obtain⟨rfl,rfl⟩:=h;have g_:vs=[]:=api (by rw [←c_.len,d6];simp)
      obtain⟨base,n,cp,E⟩:=hx.2.2
      have m7:n=l∧l≤cp:=by
       cases st with
       | loc=>obtain⟨L,_,k,_,hk,h8⟩:=M;rw [E]at h8;simp only [Value.slice.injEq]at h8;omega
       | nil=>obtain⟨_,rfl,h8⟩:=M;rw [E]at h8;simp only [Value.slice.injEq]at h8;omega
       | es=>obtain⟨_,rfl,_,h8⟩:=M;rw [E]at h8;simp only [Value.slice.injEq]at h8;omega
      obtain⟨rfl,n6⟩:=m7;refine⟨.slice base (n+0) cp,X,.inl (A (X':=X) E (by omega) (by rw [g_];cases base<;>rfl)),rfl,W,?_,Ext.refl _ _,hB⟩
      rw [Nat.add_zero,←E];exact h_
     ·rename_i Z;split at h
      ·
       rename_i hc;obtain⟨rfl,z,j4⟩:=hc;split at h
       ·rename_i d;simp only [sh,IS]at h;obtain⟨rfl,rfl⟩:=h;have hn:cs.length+ys.length=(l+m)*s:=by rw [d6,←z,awl]
        cases st with
        | loc=>
         obtain⟨L,hL,k,m5,hk,rfl⟩:=M
         have j8:k=0:=by
          rcases axa.1 m5.symm with h8 | h8
          ·exact h8
          ·have:=ht.pos;omega
         subst j8;rw [Nat.sub_zero]at *;by_cases q:l+m≤L.cap
         ·obtain⟨X',N,I,O,S,U,g6,g7⟩:=amx W F hL c_ j4 hn q;exact⟨_,X',.inl (A rfl q (by simp only [sv,dL];rw [z,awn];exact N)),I,O,U,S,by omega⟩
         ·have e_:cH X.H s (.sl b 0 l cap ep s)=some ((cs.drop 0).take (l*s)):=by simp [cH,F,z]
          have f_:bA X.H (.sl b 0 l cap ep s)=some l:=by simp [bA,F]
          obtain⟨os,q1,q2,q3⟩:=lE Y (CR.ext' σ i_ h_) f_ e_
          have j3:A2 (CR σ X) cs os:=by
           have c9:Ext X.H.length { X with w:=X.w.drew } X:=Ext.one Y X.H.length rfl (fun _ _=>Iff.rfl) (fun _ _ _=>rfl) (fun _ _ _ _=>rfl) (fun h=>absurd h (aw9 _))
            (fun _ _ _=>rfl) (fun _ _=>rfl) (fun L h=>.inl ⟨L,h,rfl⟩) (aft _) rfl rfl rfl
           have:=A2.ext' σ (X:={ X with w:=X.w.drew }) c9 q2
           rwa [List.drop_zero,z,List.take_length]at this
          obtain⟨nc,rest,w',J,j,g,K⟩:=(jg ht o.type (base:=some ⟨L.c,0,none⟩) (l:=l) (cap:=L.cap) b9 b7).2 q d os a8 q1 d5;obtain⟨X',N,I,O,S,U,g6⟩:=z9 W hB F j3 B ht.pos hn K J g
          exact⟨_,X',.inl (by rw [N];exact a_ _ _ (by simpa using j)),I,O,U,S,g6⟩
        | nil=>
         obtain⟨_,rfl,rfl⟩:=M;have d9:cs=[]:=api (by simpa using z.symm)
         subst d9;obtain⟨nc,rest,w',J,j,g,K⟩:=(jg ht o.type (base:=none) (l:=0) (cap:=0) b9 b7).2 (by omega) d [] a8 (by simp [Builtin.firstCells]) d5
         obtain⟨X',N,I,O,S,U,g6⟩:=z9 W hB F (us:=[]) A2.nil B ht.pos hn K J g
         exact⟨_,X',.inl (by rw [N];exact a_ _ _ j),I,O,U,S,g6⟩
        | es=>
         obtain⟨_,rfl,ad,rfl⟩:=M;have d9:cs=[]:=api (by simpa using z.symm)
         subst d9;obtain⟨nc,rest,w',J,j,g,K⟩:=(jg ht o.type (base:=some ad) (l:=0) (cap:=0) b9 b7).2 (by omega) d [] a8 (by simp [Builtin.firstCells,loadCells,loadCellsFrom]) d5
         obtain⟨X',N,I,O,S,U,g6⟩:=z9 W hB F (us:=[]) A2.nil B ht.pos hn K J g;exact⟨_,X',.inl (by rw [N];exact a_ _ _ j),I,O,U,S,g6⟩
       ·simp at h
      ·split at h
       ·
        rename_i hc;obtain⟨rfl,j7,m4⟩:=hc;simp only [sh,IS]at h;obtain⟨rfl,rfl⟩:=h;obtain⟨L,hL,k,rfl,hk,rfl⟩:=M;obtain⟨_,_,aX,d8,k_⟩:=W.br b L hL;rw [F]at d8;simp only [sh]at d8;subst d8;obtain⟨_,us,rest,hr,j_,h6,h7,h8,n5⟩:=k_
        have q:l+m≤L.cap-k:=by
         have e1:(k+(l+m))*s≤L.cap*s:=by
          rw [awl,awl];have:=j_.len;simp only [avR]at h6;omega
         have:=Nat.le_of_mul_le_mul_right e1 h7;omega
        obtain⟨X',N,I,O,S,U,g6,g7⟩:=DT W F hL c_ j7 m4;refine⟨_,X',.inl (A rfl q (by simp only [sv,dL];exact N)),I,O,?_,S,by omega⟩
        have b_:X'.H[b]?=some (.bE s (over cs (k*s+l*s) ys) fl ep .loc):=by rw [I];simp [(BY.1 F).1]
        simp only [VR,ik,CR,fy,b_];exact⟨aft _,fun _ _=>⟨L,by rw [U];exact hL,k,rfl,by omega,rfl⟩,_,_,_,rfl⟩
       ·simp at h
    ·simp at h
   ·simp at h
  ·simp at h
 ·simp at hm
end
section
variable{Q:Program}{σ:Nat→FuncId}{X:Wd}
theorem Gc{c:Call}{sz bytes:Nat}{zs:List FC}{x y:Arg}(h:du Q σ c (.sZ sz bytes zs x y)=true):∃ u v t j e k,c.callee=.builtin .append∧c.args=#[u,v]∧c.argTypes=#[t,j]∧mA σ x u=true∧mA σ y v=true ∧
  Q.underlying t=some (.slice e)∧c7 Q e sz=true∧nh Q e bytes=true∧0<sz∧kz Q e zs=true∧Q.underlying j=some (.int k):=by
 simp only [du]at h;split at h
 ·rename_i u v t j q s z;simp only [If]at h;obtain⟨⟨⟨E,F⟩,g⟩,d⟩:=h;obtain⟨e,B,g⟩:=gM g;simp only [If,decide_eq_true_eq]at g;obtain⟨⟨⟨m,l⟩,b⟩,H⟩:=g;split at d
  ·rename_i k A;exact⟨u,v,t,j,e,k,q,afT s,afT z,E,F,B,m,l,b,H,A⟩
  ·simp at d
 ·simp at h
theorem ack{n:Nat}(h:n<2 ^ 48):IntKind.i64.wrap (n:Int)=n:=by
 simp only [IntKind.wrap,IntKind.bits,IntKind.signed];have b:(2 ^ 64:Int)=18446744073709551616:=by decide
 have d:(2 ^ (64-1):Int)=9223372036854775808:=by decide
 have g:(2:Nat) ^ 48=281474976710656:=by decide
 simp only [b,d,Bool.true_and,decide_eq_true_eq];split<;>omega
theorem vA{t Z e:TypeId}{sz bytes:Nat}{k k':IntKind}(hu:Q.underlying t=some (.slice e))(A:Q.underlying Z=some (.int k))(x:c7 Q e sz=true)(F:nh Q e bytes=true)(a8:0<sz)
  {z:Value} {us:List Value} {i:TypeInfo} (hi:Q.info? e=some i) (hz:i.zero=some z) (U:z.cells=us.toArray) (N:us.length=sz) (ty:TypeId) {base:Option Addr} {n:Nat} {w:World} :
  (n=0→(Builtin.append_ #[t,Z] ty #[.slice base 0 0,.int k' (n:Int)]).run Q w=.ok (.slice base 0 0) w) ∧
  (n≠0→bI n bytes=true→∃ nc rest w',n≤nc∧(Builtin.append_ #[t,Z] ty #[.slice base 0 0,.int k' (n:Int)]).run Q w=.ok (.slice (some ⟨w.heap.size,0,none⟩) n nc) w' ∧
   dz w w' (.cells (cF n us++rest).toArray e)∧rest.length=(nc-n)*sz):=by
 obtain⟨g,l,s⟩:=AK F w;have u:g=i:=by simp [typeInfo,hi]at l;exact l.symm
 subst u;have y:∀ w',(typeInfo e).run Q w'=.ok g w':=fun w'=>by simp [typeInfo,hi]
 have Y:∀ w',(zeroValue e).run Q w'=.ok z w':=fun w'=>by simp [zeroValue,typeInfo,hi,hz]
 have j:∀(q:Int) w',(asInt (.int k' q)).run Q w'=.ok q w':=fun q w'=>by simp [asInt,asIntOf]
 constructor
 ·rintro rfl;have O:IntKind.i64.wrap 0=0:=by decide
  simp only [Builtin.append_,aw3];simp [aR hu,aR A,cQ x,y,j,O];cases base<;>simp [storeCells]
 ·intro hn b;have E:=b;unfold bI at b;simp only [If,decide_eq_true_eq]at b;have S:=ack b.2
  have K:¬ (Builtin.nextslicecap n 0*g.bytes>2 ^ 48):=by
   rw [s];have:=va (need:=n) (cap:=0) (by omega)
   have:=awz bytes this;omega
  let nc:=(Question.appendCap n 0 e).cut (w.tape w.drawn (.appendCap n 0 e))
  have L:n≤nc:=by simp [nc,Question.cut]
  have H:(choose (.appendCap n 0 e)).run Q w=.ok nc w.drew:=by
   simp [choose,Sem.run,Question.forced,nc]
  have X:∀ m,Builtin.zeroCells z.cells m=(cF m us).toArray:=fun m=>by
   have:=hV us m (by omega)
   simpa [Builtin.zeroCells,U]using this
  have v:¬ ((n:Int)>IntKind.i64.max):=by
   have:IntKind.i64.max=9223372036854775807:=by decide
   have e3:(2:Nat) ^ 48=281474976710656:=by decide
   rw [this];omega
  have I:¬ ((n:Int)<0):=by omega
  have J:¬ ((n:Int)*(g.bytes:Int)>2 ^ 48):=by
   rw [s];have h1:n*bytes≤2 ^ 48:=avV (awz bytes (by omega:n≤2*n+768)) b.1
   have h2:((n*bytes:Nat):Int)≤2 ^ 48:=by
    have B:((2 ^ 48:Nat):Int)=2 ^ 48:=by decide
    rw [←B];exact Int.ofNat_le.2 h1
   rw [Int.natCast_mul]at h2;omega
  have d:(Builtin.firstCells sz 0 (.slice base 0 0)).run Q w.drew=.ok #[] w.drew:=by
   cases base<;>simp [Builtin.firstCells,loadCells,loadCellsFrom]
  have M:¬ (n*sz=0):=by
   intro h;rcases axa.1 h with h | h<;>omega
  refine⟨nc,cF (nc-n) us,w.drew.alloc (.cells (cF n us++cF (nc-n) us).toArray e),L,?_,⟨rfl,rfl,rfl,rfl⟩,by rw [kn,N]⟩
  have W:¬ (n≤0):=by omega
  have hint:((n:Int)).toNat=n:=by simp
  simp only [Builtin.append_,Sem.run_bind,aR hu,aR A,cQ x,Result.andThen_ok,Sem.run_pure,atN,if_false,Sem.run_ite,y,false_and,K,H,run_askRoom,
   Bool.not_true,if_true,Y,X,newRow,run_newObj,aw3,awD,aw1,j,S,I,J,hint,awn,W,v,M,d,true_or,and_true,Bool.true_eq]
  have B:#[]++(cF n us).toArray++(cF (nc-n) us).toArray=(cF n us++cF (nc-n) us).toArray:=by simp
  first
   | (rw [B];rfl)
   | (simp [B];rfl)
theorem afS(U:SR Q σ X)(S:X.B≤X.w.heap.size){a:Act}{au:T}(hR:RR σ X au a.tmps){o:Oper}{sz bytes:Nat}{zs:List FC}{x y:Arg}(N:dp Q σ o (.sZ sz bytes zs x y)=true){v:V}{H':ai}
  (h:aZ au X.H (.sZ sz bytes zs x y)=some (v,H')):gr Q σ X v H' (execOp a.eval o):=by
 simp only [dp]at N;split at N
 ·rename_i c ho;obtain⟨u,v',t,t',e,k,h1,h2,h3,J,L,hu,F,s,g,hz,W⟩:=Gc N;have J:=bF hR J;have L:=bF hR L;simp only [aZ]at h;generalize a8:a.eval u=O at J;generalize a_:a.eval v'=uy at L;generalize x.ev au=vx at J h;generalize y.ev au=vy at L h
  have l:∀(r:Value) (w':World),(Builtin.append_ #[t,t'] o.type #[O,uy]).run Q X.w=.ok r w'→(execOp a.eval o).run Q X.w=.ok (.value r) w':=by
   intro r w' hr;refine dg ho h1 fun cs=>?_
   simp [builtin,h2,h3,a8,a_,hr]
  unfold HB at h;split at h
  ·rename_i n hn;obtain⟨k',E⟩:=iy L hn;split at h
   ·rename_i hc;obtain⟨z,us,b7,I,M,i0,A,B⟩:=dY (σ:=σ) (X:=X) hz X.w;have H:us.length=sz:=by have:=M.len;simp at this;omega
    obtain⟨m,rfl⟩:∃ m:Nat,n=m:=⟨n.toNat,by omega⟩
    have j:∀ base,O=.slice base 0 0→(v,H')=(.c (.sl X.H.length 0 m 0 0 sz),X.H++[.bE sz ((cF m zs).map .f) 0 0 .loc])→m≠0→bI m bytes=true→gr Q σ X v H' (execOp a.eval o):=by
     intro base hb he d b;cases he;obtain⟨nc,rest,w',Y,K,q,Z⟩:=(vA (k':=k') hu W F s g A B I H o.type (base:=base) (n:=m)).2 d b;obtain⟨X',g1,g2,g3,g4,g5,g6⟩:=aba U S g (cs:=(cF m zs).map .f) (us:=cF m us) (ji M m) (n:=m) (nc:=nc) (by rw [av7,kn,hc.2]) Z Y q
     exact⟨_,X',.inl (by rw [g1];exact l _ _ (by rw [hb,E];exact K)),g2,g3,g5,g4,g6⟩
    split at h
    ·cases (J:cD σ X.F X.w .ay O);simp only [av2]at h;split at h
     ·rename_i d;simp only [sh,IS]at h;obtain⟨rfl,rfl⟩:=h;exact⟨_,X,.inl (l _ _ (by rw [E];exact(vA (k':=k') hu W F s g A B I H o.type (base:=none) (n:=m)).1 d)),rfl,U,cD.ay,Ext.refl _ _,S⟩
     ·rename_i d;split at h
      ·rename_i b;simp only [sh]at h;exact j none rfl h.symm d b
      ·simp at h
    ·cases (J:cD σ X.F X.w .es O);rename_i ad;simp only [av2]at h;split at h
     ·rename_i d;simp only [sh,IS]at h;obtain⟨rfl,rfl⟩:=h;exact⟨_,X,.inl (l _ _ (by rw [E];exact(vA (k':=k') hu W F s g A B I H o.type (base:=some ad) (n:=m)).1 d)),rfl,U,cD.es _,Ext.refl _ _,S⟩
     ·rename_i d;split at h
      ·rename_i b;simp only [sh]at h;exact j (some ad) rfl h.symm d b
      ·simp at h
    ·simp at h
   ·simp at h
  ·simp at h
 ·simp at N
end
section
variable{Q:Program}{σ:Nat→FuncId}{X:Wd}
theorem amg(s:SR Q σ X)(m:X.B≤X.w.heap.size){a:Act}{au:T}{o:Oper}{st:Os}{sz:Nat}(d:dp Q σ o (.pre st sz)=true){v:V}{H':ai}
  (h:aZ au X.H (.pre st sz)=some (v,H')):gr Q σ X v H' (execOp a.eval o):=by
 cases st with
 | nil=>
  simp only [aZ]at h;split at h
  ·simp at h
  ·simp only [sh,IS]at h;obtain⟨rfl,rfl⟩:=h;obtain⟨j,l⟩:=SR.grow s (.bE sz [] 0 0 .nil)
   have q:VR σ { X with H:=X.H++[.bE sz [] 0 0 .nil] } (.c (.sl X.H.length 0 0 0 0 sz)) (.slice none 0 0):=by
    have b:(X.H++[cU.bE sz [] 0 0 .nil])[X.H.length]?=some (.bE sz [] 0 0 .nil):=by simp
    simp only [VR,ik,CR,fy,b];exact⟨aft _,fun _ _=>by simp,_,_,_,rfl⟩
   simp only [dp]at d;split at d
   ·rename_i g;exact⟨.slice none 0 0,_,.inl (by simp [execOp,g,Act.eval]),rfl,j,q,l,m⟩
   ·rename_i g;exact⟨.slice none 0 0,_,.inl (by simp [execOp,g,Act.eval]),rfl,j,q,l,m⟩
   ·simp at d
 | _=>simp [dp]at d
theorem aa9(u:SR Q σ X)(s:X.B≤X.w.heap.size){a:Act}{o:Oper}(b:dp Q σ o .jz=true):gr Q σ X (.c (.mp X.H.length)) (X.H++[.map []]) (execOp a.eval o):=by
 simp only [dp]at b;split at b
 ·rename_i t v;obtain⟨X',g,d,j,l,m,q⟩:=SR.new u s (.map []) (dz.alloc X.w (.map #[] 0)) 0 fun X' z x y _=>⟨[],by rw [x];exact(dz.alloc _ _).new,A2.nil,by simp⟩
  exact⟨.map (some X.w.heap.size),X',.inl (by rw [g];simp [execOp,v,Instr.makeMap]),d,j,⟨_,m,⟨[],by rw [d];simp⟩,rfl⟩,l,q⟩
 ·simp at b
theorem abN(E:SR Q σ X)(A:X.B≤X.w.heap.size){a:Act}{au:T}(B:RR σ X au a.tmps){o:Oper}{x:Arg}(d:dp Q σ o (.range x)=true){v:V}{H':ai}
  (h:aZ au X.H (.range x)=some (v,H')):gr Q σ X v H' (execOp a.eval o):=by
 simp only [dp]at d;split at d
 ·rename_i t y F;simp only [If]at d;obtain⟨b,j⟩:=d;have b:=bF B b;simp only [aZ]at h;split at h
  ·rename_i s H;rw [H]at b;have b:=VR.str b;simp only [sh,IS]at h;obtain⟨rfl,rfl⟩:=h;split at j
   ·rename_i I
    obtain⟨X',l,g,m,q,u,z⟩:=SR.new E A (.it s 0) (dz.alloc X.w (.stringIter s 0)) 0 fun X' b J K _=>by
     show X'.w.heap[X.w.heap.size]?=_
     rw [J];exact(dz.alloc _ _).new
    exact⟨.pointer (some ⟨X.w.heap.size,0,none⟩),X',.inl (by rw [l];simp [execOp,F,Instr.range,aR I,b]),g,m,⟨_,u,⟨s,0,by rw [g];simp⟩,rfl⟩,q,z⟩
   ·simp at j
  ·simp at h
 ·simp at d
theorem SR.qJ(s:SR Q σ X){b:Nat}{aX blk':cU}{L:Loc}{o o':Obj}(x:X.H[b]?=some aX)(q:X.bU b=some L)(ho:X.w.heap[L.c]?=some o)(m:∀ c e f,o≠.cells c e f)(j:∀ c e f,o'≠.cells c e f)
  (d:lN X { X with H:=X.H.set b blk',w:={ X.w with heap:=X.w.heap.setIfInBounds L.c o' } } b)
  (l:∀ X',Ext X.H.length X X'→X'.w.heap[L.c]?=some o'→X'.F=X.F→X'.bU=X.bU→X'.H=X.H.set b blk'→BR Q σ X' blk' L) :
  SR Q σ { X with H:=X.H.set b blk',w:={ X.w with heap:=X.w.heap.setIfInBounds L.c o' } }∧Ext X.H.length X { X with H:=X.H.set b blk',w:={ X.w with heap:=X.w.heap.setIfInBounds L.c o' } }:=by
 have g:L.c<X.w.heap.size:=(s.br b L q).2.1;refine SR.turn s x q (by simp) (fun k y=>by simp [Array.getElem?_setIfInBounds_ne (Ne.symm y)]) (fun i _=>?_) rfl rfl rfl d (fun z=>l _ z (by simp [g]) rfl rfl rfl)
 have u:({ X.w with heap:=X.w.heap.setIfInBounds L.c o' }:World).cell? ⟨L.c,i,none⟩=none:=by
  simp only [World.cell?];rw [show(X.w.heap.setIfInBounds L.c o')[L.c]?=some o' by simp [g]]
  cases o'<;>simp at j ⊢
 have v:X.w.cell? ⟨L.c,i,none⟩=none:=by
  simp only [World.cell?,ho];cases o<;>simp at m ⊢
 rw [u,v]
theorem agU(q:SR Q σ X)(A:X.B≤X.w.heap.size){a:Act}{au:T}(M:RR σ X au a.tmps){o:Oper}{x:Arg}(m:dp Q σ o (.next x)=true){v:V}{H':ai}
  (h:aZ au X.H (.next x)=some (v,H')):gr Q σ X v H' (execOp a.eval o):=by
 simp only [dp]at m;split at m
 ·rename_i y E;have H:=bF M m;simp only [aZ]at h;unfold Ic at h;split at h
  ·rename_i b O;rw [O]at H;obtain⟨L,B,⟨S,p0,N⟩,F⟩:=H;split at h
   ·rename_i s pos l;obtain⟨_,_,aX,j,u⟩:=q.br b L B;rw [l]at j;simp only [sh]at j;subst j;have g:X.w.heap[L.c]?=some (.stringIter s pos):=u;split at h
    ·rename_i z;simp only [sh,IS]at h;obtain⟨rfl,rfl⟩:=h
     obtain⟨I,J⟩:=SR.qJ (o':=.stringIter s (pos+(Utf8.decode s pos).2)) (blk':=.it s (pos+(Utf8.decode s pos).2)) q l B g (by simp) (by simp)
      (fun aX d=>⟨.it s (pos+(Utf8.decode s pos).2),by simp [(BY.1 l).1],by rw [l]at d;simp only [sh]at d;subst d;exact fun L h=>h⟩)
      (fun X' _ K _ _ _=>K)
     refine⟨.tuple #[.bool true,.int .i64 pos,.int .i32 (Utf8.decode s pos).1],_,.inl ?_,rfl,I,⟨[.bool true,.int .i64 pos,.int .i32 (Utf8.decode s pos).1],rfl,?_⟩,J,by simpa using A⟩
     ·simp only [execOp,E];refine dF ?_;simp [Instr.next,F,getObj,setObj,Sem.run,g,z,goInt]
     ·exact A2.cons (cD.bool _) (A2.cons (cD.int _ _) (A2.cons (cD.int _ _) A2.nil))
    ·rename_i z;simp only [sh,IS]at h;obtain⟨rfl,rfl⟩:=h;refine⟨.tuple #[.bool false],X,.inl ?_,rfl,q,⟨[.bool false],rfl,A2.cons (cD.bool _) A2.nil⟩,Ext.refl _ _,A⟩;simp only [execOp,E];refine dF ?_;simp [Instr.next,F,getObj,Sem.run,g,z]
   ·simp at h
  ·simp at h
 ·simp at m
theorem C6{s:CK}{d:TypeDesc}(z:(s=.int∧∃ j,d=.int j)∨(s=.str∧d=.string)∨(s=.bool∧d=.bool)){F:Nat→Nat→Prop}{w:World}{k:FC}{v:C}{x:Value}(B:cD σ F w k x) :
  ∀ {R:C→Value→Prop} {l g:List (FC × C)} {b:List MapEntry},A2 (fun e m=>cD σ F w e.1 m.key∧R e.2 m.val) l b→∀(i:Nat),yD s k v l=some g →
  (Instr.findNow d x b i=some none∧g=l++[(k,v)])∨∃(j:Nat) (u:Value) (m:MapEntry),Instr.findNow d x b i=some (some (i+j,u))∧b[j]?=some m∧Instr.sameNow d x m.key=some true∧g=l.set j (k,v)
 | _,[],g,[],_,i,h=>by
  simp only [yD,sh]at h;subst h
  exact .inl ⟨rfl,rfl⟩
 | _,[],_,_::_,q,_,_=>by have:=q.len;simp at this
 | _,_::_,_,[],q,_,_=>by have:=q.len;simp at this
 | _,e::l,g,m::b,q,i,h=>by
  obtain⟨⟨H,N⟩,E⟩:=q.of_cons;simp only [yD]at h;split at h
  ·rename_i A;simp only [sh]at h;subst h;have:=uI z B H A;exact .inr ⟨0,m.val,m,by simp [Instr.findNow,this],rfl,this,rfl⟩
  ·rename_i A;simp only [IN]at h;obtain⟨I,J,rfl⟩:=h;have:=uI z B H A;rcases C6 z B E (i+1) J with⟨y,rfl⟩ | ⟨j,u,M,y,K,L,rfl⟩
   ·exact .inl ⟨by simp [Instr.findNow,this,y],rfl⟩
   ·exact .inr ⟨j+1,u,M,by simp [Instr.findNow,this,y];omega,by simpa using K,L,rfl⟩
  ·simp at h
theorem Dx{d:TypeDesc}{u v:Value}(h:Instr.sameNow d u v=some true)(n:Nat):Instr.sameBits n v u=true:=by
 unfold Instr.sameNow at h;split at h
 ·split at h
  ·rename_i b;subst b;simp only [sh,beq_iff_eq]at h;subst h;simp [Instr.sameBits]
  ·simp at h
 ·simp only [sh,beq_toListBytes,beq_iff_eq]at h;simp [Instr.sameBits,beq_toListBytes,h]
 ·simp only [sh,beq_iff_eq]at h;subst h;simp [Instr.sameBits]
 ·simp at h
theorem aoc{c:C}{u:Value}(h:VR σ X (mV c) u):ik σ X (mV c) u:=by
 cases c
 case cl f cs=>
  simp only [mV]at h ⊢;split at h
  ·rename_i b;rw [if_pos b];exact h
  ·rename_i b;rw [if_neg b];exact h
 all_goals exact h
theorem aa2(hS:SR Q σ X)(hB:X.B≤X.w.heap.size){a:Act}{au:T}(hR:RR σ X au a.tmps){o:Oper}{ck:CK}{x y z:Arg}(E:dp Q σ o (.jw ck x y z)=true){v:V}{H':ai}
  (h:aZ au X.H (.jw ck x y z)=some (v,H')):gr Q σ X v H' (execOp a.eval o):=by
 simp only [dp]at E;split at E
 ·rename_i t x' M Y ho;simp only [If]at E;obtain⟨⟨⟨hx,K⟩,W⟩,ht⟩:=E;have hx:=bF hR hx;have K:=bF hR K;have W:=bF hR W;split at ht
  ·rename_i kt e hu;simp only [aZ]at h;split at h
   ·rename_i b k vv c9 d7 d_;rw [c9]at hx;rw [d7]at K;rw [←aaZ d_]at W;have W:ik σ X (mV vv) (a.eval Y):=aoc W;obtain⟨L,hL,_,b_⟩:=hx;split at h
    ·rename_i es hb;split at h
     ·rename_i a_;simp only [IN,IS]at h;obtain⟨F,hp,rfl,rfl⟩:=h;obtain⟨_,_,aX,N,d5⟩:=hS.br b L hL;rw [hb]at N;simp only [sh]at N;subst N;obtain⟨q,I,h2,B⟩:=d5
      have go:∀ d,Q.underlying kt=some d→((ck=.int∧∃ j,d=.int j)∨(ck=.str∧d=.string)∨(ck=.bool∧d=.bool))→gr Q σ X .top (X.H.set b (.map F)) (execOp a.eval o):=by
       intro d A hd
       have a8:∀(l:List MapEntry),(Instr.mapUpdate t (a.eval x') (a.eval M) (a.eval Y)).run Q X.w=.ok () { X.w with heap:=X.w.heap.setIfInBounds L.c (.map l.toArray l.length) } →
         A2 (fun(e:FC × C) (m:MapEntry)=>cD σ X.F X.w e.1 m.key∧ik σ X (mV e.2) m.val) F l→(∀(i:Nat) m,l[i]?=some m→m.born=i)→gr Q σ X .top (X.H.set b (.map F)) (execOp a.eval o):=by
        intro l b9 hA c_
        obtain⟨g1,g2⟩:=SR.qJ (o':=.map l.toArray l.length) (blk':=.map F) hS hb hL I (by simp) (by simp)
         (fun aX H=>⟨.map F,by simp [(BY.1 hb).1],by rw [hb]at H;simp only [sh]at H;subst H;exact fun L h=>h⟩)
         (fun X' U h1 hF _ _=>⟨l,h1,hA.kC fun e m h=>⟨cD.mono U.F U.fw h.1,ik.ext' σ U h.2⟩,c_⟩)
        exact⟨undef,_,.inr ⟨by simp [execOp,ho,b9],rfl⟩,rfl,g1,trivial,g2,by simpa using hB⟩
       rcases C6 (R:=fun c u=>ik σ X (mV c) u) hd K h2 0 hp with⟨J,rfl⟩ | ⟨j,u,m,J,Z,h6,rfl⟩
       ·have O:A2 (fun(e:FC × C) (m:MapEntry)=>cD σ X.F X.w e.1 m.key∧ik σ X (mV e.2) m.val) [(k,vv)] [({ key:=a.eval M,val:=a.eval Y,born:=q.length }:MapEntry)]:=A2.cons (And.intro K W) A2.nil
        refine a8 (q++[{ key:=a.eval M,val:=a.eval Y,born:=q.length }]) ?_ (h2.append O) ?_
        rotate_left
        ·intro i m E;by_cases hi:i<q.length
         ·rw [AT hi]at E;exact B i m E
         ·rw [List.getElem?_append_right (by omega)]at E
          have d6:i-q.length=0:=by
           have:=(BY.1 E).1;simp at this;omega
          rw [d6]at E;simp only [awD,sh]at E;subst E;simp only;omega
        simp [Instr.mapUpdate,aR hu,b_,getObj,setObj,Sem.run,I,gT ht K a_,Instr.findKey,aR A,J]
       ·rw [awn]at J;refine a8 (q.set j { m with key:=a.eval M,val:=a.eval Y }) ?_ ?_ ?_
        ·have d9:(Instr.keyThatStays m.key (a.eval M)).run Q X.w=.ok (a.eval M) X.w:=by
          simp [Instr.keyThatStays,Dx h6 10000]
         have b7:q.modify j (fun e=>{ e with key:=a.eval M,val:=a.eval Y })=q.set j { m with key:=a.eval M,val:=a.eval Y }:=by
          apply List.ext_getElem?;intro i;simp only [List.getElem?_modify,awX];by_cases s:j=i
          ·subst s;have S:=(BY.1 Z).1;have d8:=(BY.1 Z).2;simp [Z,S,d8]
          ·simp [s]
         simp [Instr.mapUpdate,aR hu,b_,getObj,setObj,Sem.run,I,gT ht K a_,Instr.findKey,aR A,J,Z,d9,b7]
        ·refine⟨by simpa using h2.len,fun i e' m' he g=>?_⟩
         rw [awX]at he g;split at he
         ·rename_i s;subst s;simp only [if_true]at g;have S:=(BY.1 Z).1;have e_:=h2.len;rw [if_pos (by omega)]at he
          rw [if_pos S]at g;simp only [sh]at he g;subst he;subst g;exact⟨K,W⟩
         ·rename_i s;rw [if_neg s]at g;exact h2.2 i e' m' he g
        ·intro i m' g;rw [awX]at g;split at g
         ·rename_i s;subst s;split at g
          ·simp only [sh]at g;subst g;exact B j m Z
          ·simp at g
         ·exact B i m' g
      rcases kX ht with⟨J,j,A⟩ | ⟨J,A⟩ | ⟨J,A⟩
      ·exact go _ A (.inl ⟨J,j,rfl⟩)
      ·exact go _ A (.inr (.inl ⟨J,rfl⟩))
      ·exact go _ A (.inr (.inr ⟨J,rfl⟩))
     ·simp at h
    ·simp at h
   ·simp at h
  ·simp at ht
 ·simp at E
theorem C0{c:Call}{sz:Nat}{zs:List FC}{x:Arg}(h:du Q σ c (.clear sz zs x)=true):∃ y t e,c.callee=.builtin .clear∧c.args=#[y]∧c.argTypes=#[t]∧mA σ x y=true∧Q.underlying t=some (.slice e)∧c7 Q e sz=true∧kz Q e zs=true:=by
 simp only [du]at h;split at h
 ·rename_i y t d g j;simp only [If]at h;obtain⟨m,b⟩:=h;obtain⟨e,l,b⟩:=gM b;simp only [If]at b;exact⟨y,t,e,d,wg g,wg j,m,l,b.1,b.2⟩
 ·simp at h
theorem aan(hS:SR Q σ X)(hB:X.B≤X.w.heap.size){a:Act}{au:T}(hR:RR σ X au a.tmps){o:Oper}{sz:Nat}{zs:List FC}{x:Arg}(J:dp Q σ o (.clear sz zs x)=true){v:V}{H':ai}
  (h:aZ au X.H (.clear sz zs x)=some (v,H')):gr Q σ X v H' (execOp a.eval o):=by
 simp only [dp]at J;split at J
 ·rename_i c Y;obtain⟨y,t,e,M,N,O,j,hu,c9,hz⟩:=C0 J;have j:=bF hR j;simp only [aZ,IN,IS]at h;obtain⟨H2,d,rfl,rfl⟩:=h;have done:VR σ X (.t []) (.tuple #[]):=⟨[],rfl,A2.nil⟩;unfold uB at d;split at d
  ·rename_i p hp;rw [hp]at j;split at d
   ·rename_i U;simp only [sh]at d;subst d;obtain⟨ad,cp,g⟩:=kr j U;refine⟨.tuple #[],X,.inl (dg Y M fun cs=>?_),rfl,hS,done,Ext.refl _ _,hB⟩
    cases ad<;>simp [builtin,N,O,Builtin.clear_,aR hu,g]
   ·rename_i l W U;obtain⟨ad,cp,g⟩:=kr j U;split at d
    ·rename_i b7;obtain⟨z,us,F,H,I,_⟩:=dY (σ:=σ) (X:=X) hz X.w;have c_:us.length=zs.length:=by have:=I.len;simp at this;omega
     have u:l≠0:=fun e=>W (by rw [e])
     have key:∀(b o' A:Nat),(∃ q,CR σ X (.ptr b o' A) (.pointer (some q))∧ad=some q)→df X.H (.ptr b o' A) ((cF l zs).map .f)=some H2→gr Q σ X (.t []) H2 (execOp a.eval o):=by
      rintro b o' A ⟨q,hq,rfl⟩ Z;obtain⟨cc,off,X',g1,K,g3,g4,g5,g6,g7⟩:=ab_ hS hq (ji I l) Z;cases g1;by_cases b_:sz=0
      ·subst b_;have b9:zs=[]:=api b7;have a8:us=[]:=api (by omega)
       subst b9;subst a8;refine⟨.tuple #[],X',.inl (dg Y M fun cs=>?_),g3,g4,⟨[],rfl,A2.nil⟩,g5,by omega⟩
       have hr:cF l ([]:List Value)=[]:=by simp [cF]
       rw [hr]at K;simp [builtin,N,O,Builtin.clear_,aR hu,g,u,F,H,Builtin.zeroCells]
       cases l with
       | zero=>exact absurd rfl u
       | succ l=>simp [K]
      ·have a_:Builtin.zeroCells z.cells l=(cF l us).toArray:=by
        have:=hV us l (by omega)
        simpa [Builtin.zeroCells,H]using this
       refine⟨.tuple #[],X',.inl (dg Y M fun cs=>?_),g3,g4,⟨[],rfl,A2.nil⟩,g5,by omega⟩
       simp [builtin,N,O,Builtin.clear_,aR hu,g,F,a_]
       cases l with
       | zero=>exact absurd rfl u
       | succ l=>simp [K]
     split at d
     ·rename_i b o' l' cap A s;simp only [VR,ik,CR,fy]at j;split at d
      ·rename_i cs fl B;rw [B]at j;obtain⟨L,S,_,m⟩:=j;rw [g]at m;simp only [Value.slice.injEq]at m;refine key b o' A ⟨⟨L.c,o',none⟩,⟨L,S,by rw [B]⟩,m.1⟩ d
      ·rename_i s' cs fl e' B;split at d
       ·rename_i E;rw [B]at j;obtain⟨L,S,k,_,_,m⟩:=j.2.1 E.1 E.2;rw [g]at m;simp only [Value.slice.injEq]at m;refine key b o' A ⟨⟨L.c,o',none⟩,⟨L,S,?_⟩,m.1⟩ d;rw [B];exact⟨j.1,fun _=>rfl,_,rfl⟩
       ·simp at d
      ·simp at d
     ·simp at d
    ·simp at d
   ·simp at d
  ·simp at d
 ·simp at J
theorem OU(B:SR Q σ X)(S:X.B≤X.w.heap.size){a:Act}{au:T}(U:RR σ X au a.tmps){o:Oper}{x:Arg}(l:dp Q σ o (.lu x)=true){v:V}{H':ai}
  (h:aZ au X.H (.lu x)=some (v,H')):gr Q σ X v H' (execOp a.eval o):=by
 simp only [dp]at l;split at l
 ·rename_i t y Y;simp only [If]at l;obtain⟨j,E⟩:=l;have j:=bF U j;simp only [aZ]at h;unfold tE at h;split at h
  ·rename_i b hv;rw [hv]at j;obtain⟨L,A,_,Z⟩:=j;split at h
   ·rename_i u m;split at h
    ·rename_i hl;simp only [sh,IS]at h;obtain⟨rfl,rfl⟩:=h;obtain⟨_,_,aX,g,q⟩:=B.br b L A;rw [m]at g;simp only [sh]at g;subst g;obtain⟨d,H,I,_⟩:=q;split at E
     ·rename_i kt e s
      obtain⟨X',J,z,K,M,N,O⟩:=SR.new B S (.vV b u.length false) (dz.alloc X.w (.mapIter (some L.c) d.length #[] d.length)) 0 fun X' j hw hF hH=>by
       obtain⟨blk',k1,F⟩:=j.bN b (BY.1 m).1 _ m;cases blk'<;>simp only at F;refine⟨L,#[],d.length,F L A,⟨_,k1⟩,?_,rfl⟩;rw [I.len,hw];exact(dz.alloc _ _).new
      refine⟨.pointer (some ⟨X.w.heap.size,0,none⟩),X',.inl ?_,z,K,⟨_,N,⟨b,u.length,false,by rw [z];simp⟩,rfl⟩,M,O⟩
      have W:(getObj L.c).run Q X.w=.ok (.map d.toArray d.length) X.w:=by simp [getObj,Sem.run,H]
      rw [J];simp [execOp,Y,Instr.range,aR s,Z,W]
     ·simp at E
    ·simp at h
   ·simp at h
  ·simp at h
 ·simp at l
theorem abb(s:SR Q σ X)(N:X.B≤X.w.heap.size){a:Act}{au:T}(hR:RR σ X au a.tmps){o:Oper}{x:Arg}(E:dp Q σ o (.pU x)=true){v:V}{H':ai}
  (h:aZ au X.H (.pU x)=some (v,H')):gr Q σ X v H' (execOp a.eval o):=by
 simp only [dp]at E;split at E
 ·rename_i y S;have hx:=bF hR E;simp only [aZ]at h;unfold Ap at h;split at h
  ·rename_i b hv;rw [hv]at hx;obtain⟨L,hL,_,W⟩:=hx;split at h
   ·rename_i m a8 done u;obtain⟨_,_,aX,d,l⟩:=s.br b L hL;rw [u]at d;simp only [sh]at d;subst d;obtain⟨J,sn,st,M,_,B,q⟩:=l;split at h
    ·rename_i j;obtain⟨_,_,aX,d,l⟩:=s.br m J M;rw [j]at d;simp only [sh]at d;subst d;obtain⟨K,F,Z,_⟩:=l;have:K=[]:=api Z.len.symm;subst this;split at h
     ·simp at h
     ·rename_i z;simp only [sh,IS]at h;obtain⟨rfl,rfl⟩:=h;simp only [z,atN,if_false]at q;subst q;refine⟨.tuple #[.bool false],X,.inl ?_,rfl,s,⟨[.bool false],rfl,A2.cons (cD.bool _) A2.nil⟩,Ext.refl _ _,N⟩;simp only [execOp,S];refine dF ?_;simp [Instr.next,W,getObj,Sem.run,B,F,Result.andThen,choose,Question.forced]
    ·rename_i e j;obtain⟨H,F,Z,k3,k4⟩:=H8 s M j;split at h
     ·rename_i z;simp only [sh,IS]at h;obtain⟨rfl,rfl⟩:=h;simp only [z,if_true]at q;obtain⟨rfl,rfl⟩:=q;refine⟨.tuple #[.bool false],X,.inl ?_,rfl,s,⟨[.bool false],rfl,A2.cons (cD.bool _) A2.nil⟩,Ext.refl _ _,N⟩;simp only [execOp,S];refine dF ?_;simp [Instr.next,W,getObj,Sem.run,B,F,k4,Result.andThen,choose,Question.forced]
     ·rename_i z;split at h
      ·rename_i U;subst U;simp only [sh,IS]at h;obtain⟨rfl,rfl⟩:=h;simp only [z,atN,if_false]at q;subst q
       obtain⟨q1,I⟩:=SR.qJ (o':=.mapIter (some J.c) 1 #[0] 1) (blk':=.vV m 1 true) s u hL B (by simp) (by simp)
        (fun aX g=>⟨.vV m 1 true,by simp [(BY.1 u).1],by rw [u]at g;simp only [sh]at g;subst g;exact⟨⟨rfl,rfl⟩,fun L h=>h⟩⟩)
        (fun X' a_ Y _ A hH=>by
         have O:b≠m:=fun e=>by rw [e,j]at u;cases u
         exact⟨J,#[0],1,by rw [A];exact M,⟨_,by rw [hH,By O];exact j⟩,Y,rfl,rfl⟩)
       refine⟨.tuple #[.bool true,H.key,H.val],_,.inl ?_,rfl,q1,?_,I,by simpa using N⟩
       ·simp only [execOp,S];refine dF ?_;simp [Instr.next,W,getObj,setObj,Sem.run,B,F,k4,Result.andThen,choose,Question.forced]
       ·exact⟨[.bool true,H.key,H.val],rfl,A2.cons (cD.bool _) (A2.cons (cD.mono I.F I.fw Z) (A2.cons (ik.ext' σ I k3) A2.nil))⟩
      ·simp at h
    ·simp at h
   ·simp at h
  ·simp at h
 ·simp at E
end
section
variable{Q:Program}{σ:Nat→FuncId}{X:Wd}
def cV(a b:cU):Prop:=
 match a with
 | .box cs g=>(match b with
  | .box cs' d=>cs=cs'∧g≤d
  | _=>False)
 | .bE s cs g e st=>(match b with
  | .bE s' cs' d l j=>s=s'∧cs=cs'∧g≤d∧e=l∧st=j
  | _=>False)
 | a=>a=b
theorem cV.refl(a:cU):cV a a:=by cases a<;>simp [cV]
theorem cV.trans{a b c:cU}(h:cV a b)(k:cV b c):cV a c:=by
 cases a<;>cases b<;>simp only [cV,reduceCtorEq]at h<;>cases c<;>simp only [cV,reduceCtorEq]at k ⊢
 ·exact⟨h.1.trans k.1,avV h.2 k.2⟩
 ·exact⟨h.1.trans k.1,h.2.1.trans k.2.1,avV h.2.2.1 k.2.2.1,h.2.2.2.1.trans k.2.2.2.1,h.2.2.2.2.trans k.2.2.2.2⟩
 all_goals exact h.trans k
def fK(H H':ai):Prop:=H.length=H'.length∧∀(b:Nat) aX blk',H[b]?=some aX→H'[b]?=some blk'→cV aX blk'
theorem fK.refl(H:ai):fK H H:=⟨rfl,fun b aX blk' h d=>by rw [h]at d;cases d;exact cV.refl _⟩
theorem fK.get{H H':ai}(h:fK H H'){b:Nat}{aX:cU}(g:H[b]?=some aX):∃ blk',H'[b]?=some blk'∧cV aX blk':=by
 have j:=(BY.1 g).1;have d:b<H'.length:=by have:=h.1;omega
 exact⟨_,AI d,h.2 b _ _ g (AI d)⟩
theorem fK.trans{A B C:ai}(h:fK A B)(k:fK B C):fK A C:=
 ⟨h.1.trans k.1,fun b x z g j=>by obtain⟨y,hy,d⟩:=h.get g;exact d.trans (k.2 b y z hy j)⟩
theorem fK.none{H H':ai}(h:fK H H'){b:Nat}(d:H[b]?=none):H'[b]?=none:=by
 rw [awp]at d ⊢;have:=h.1;omega
theorem fK.set{H:ai}{b:Nat}{aX blk':cU}(g:H[b]?=some aX)(h:cV aX blk'):fK H (H.set b blk'):=by
 have j:=(BY.1 g).1;refine⟨by simp,fun i x y d hy=>?_⟩
 by_cases hi:i=b
 ·subst hi;simp only [awX,if_true,j]at hy;rw [g]at d;cases d;cases hy;exact h
 ·rw [By (Ne.symm hi)]at hy;rw [d]at hy;cases hy;exact cV.refl _
theorem fK.foldl{f:ai→C→ai}(b:∀ H x,fK H (f H x)):∀(xs:List C) (H:ai),fK H (xs.foldl f H)
 | [],H=>fK.refl H
 | x::xs,H=>(b H x).trans (fK.foldl b xs (f H x))
theorem jO:∀(n:Nat) (x:C) (H:ai),fK H (fZ n x H)
 | n,.f _,H=>by cases n<;>exact fK.refl H
 | 0,.ptr _ _ _,H=>fK.refl H
 | 0,.sl _ _ _ _ _ _,H=>fK.refl H
 | 0,.cl _ _,H=>fK.refl H
 | 0,.yl _,H=>fK.refl H
 | 0,.mp _,H=>fK.refl H
 | 0,.it _,H=>fK.refl H
 | 0,.bm _ _,H=>fK.refl H
 | 0,.mi _,H=>fK.refl H
 | n+1,.ptr b off m,H=>by
  simp only [fZ];split
  ·rename_i cs j d;exact(fK.set d (by exact⟨rfl,av4 _ _⟩)).trans (fK.foldl (fun H x=>jO n x H) _ _)
  ·exact fK.refl H
 | n+1,.sl b o l c m sz,H=>by
  simp only [fZ];split
  ·rename_i cs j d;exact(fK.set d (by exact⟨rfl,av4 _ _⟩)).trans (fK.foldl (fun H x=>jO n x H) _ _)
  ·rename_i s cs j e st d;exact(fK.set d (by exact⟨rfl,rfl,av4 _ _,rfl,rfl⟩)).trans (fK.foldl (fun H x=>jO n x H) _ _)
  ·exact fK.refl H
 | n+1,.cl f g,H=>fK.foldl (fun H x=>jO n x H) _ _
 | n+1,.yl _,H=>fK.refl H
 | n+1,.mp _,H=>fK.refl H
 | n+1,.it _,H=>fK.refl H
 | n+1,.bm _ _,H=>fK.refl H
 | n+1,.mi _,H=>fK.refl H
theorem er{b j:Type}{f g:b→Option j}:∀ {xs:List b},(∀ x ∈ xs,f x=g x)→aU f xs=aU g xs
 | [],_=>rfl
 | x::xs,h=>by rw [aU,aU,h x (by simp),er (xs:=xs) (fun y d=>h y (List.mem_cons_of_mem _ d))]
theorem mD:∀(n:Nat) {H H':ai},fK H H'→∀(x:C),cW n H' x=cW n H x
 | n,H,H',h,.f _=>by cases n<;>rfl
 | 0,H,H',h,.ptr _ _ _=>rfl
 | 0,H,H',h,.sl _ _ _ _ _ _=>rfl
 | 0,H,H',h,.cl _ _=>rfl
 | 0,H,H',h,.yl _=>rfl
 | 0,H,H',h,.mp _=>rfl
 | 0,H,H',h,.it _=>rfl
 | 0,H,H',h,.bm _ _=>rfl
 | 0,H,H',h,.mi _=>rfl
 | n+1,H,H',h,.ptr b off s=>by
  simp only [cW]
  cases m:H[b]? with
  | none=>rw [h.none m]
  | some aX=>
   obtain⟨blk',d,j⟩:=h.get m;rw [d];cases aX<;>cases blk'<;>simp only [cV,reduceCtorEq]at j
   ·obtain⟨rfl,_⟩:=j;simp only [er (g:=cW n H) fun x _=>mD n h x]
   all_goals rfl
 | n+1,H,H',h,.sl b o l c s sz=>by
  simp only [cW]
  cases m:H[b]? with
  | none=>rw [h.none m]
  | some aX=>
   obtain⟨blk',d,j⟩:=h.get m;rw [d];cases aX<;>cases blk'<;>simp only [cV,reduceCtorEq]at j
   ·obtain⟨rfl,_⟩:=j;simp only [er (g:=cW n H) fun x _=>mD n h x]
   ·obtain⟨rfl,rfl,u,rfl,rfl⟩:=j;clear u;rename_i st _;cases st<;>simp only [er (g:=cW n H) fun x _=>mD n h x]
   all_goals rfl
 | n+1,H,H',h,.cl f q=>by simp only [cW,er (g:=cW n H) fun x _=>mD n h x]
 | n+1,H,H',h,.yl _=>rfl
 | n+1,H,H',h,.mp _=>rfl
 | n+1,H,H',h,.it _=>rfl
 | n+1,H,H',h,.bm _ _=>rfl
 | n+1,H,H',h,.mi _=>rfl
def dj:Nat→ai→C→Prop
 | _,_,.f _=>True
 | 0,_,_=>True
 | n+1,H,.ptr b _ _=>∀ cs d,H[b]?=some (.box cs d)→cs.length≤d∧∀ x ∈ cs,dj n H x
 | n+1,H,.sl b o l _ _ sz=>∀ aX,H[b]?=some aX→match aX with
  | .box cs d=>o+l*sz≤d∧∀ x ∈ (cs.drop o).take (l*sz),dj n H x
  | .bE _ cs d _ .loc=>o+l*sz≤d∧∀ x ∈ (cs.drop o).take (l*sz),dj n H x
  | _=>True
 | n+1,H,.cl _ g=>∀ x ∈ g,dj n H x
 | _,_,_=>True
theorem dj.le:∀(n:Nat) {H H':ai},fK H H'→∀ {x:C},dj n H x→dj n H' x
 | n,H,H',h,.f _,_=>by cases n<;>trivial
 | 0,H,H',h,.ptr _ _ _,_=>trivial
 | 0,H,H',h,.sl _ _ _ _ _ _,_=>trivial
 | 0,H,H',h,.cl _ _,_=>trivial
 | 0,H,H',h,.yl _,_=>trivial
 | 0,H,H',h,.mp _,_=>trivial
 | 0,H,H',h,.it _,_=>trivial
 | 0,H,H',h,.bm _ _,_=>trivial
 | 0,H,H',h,.mi _,_=>trivial
 | n+1,H,H',h,.ptr b off A,v=>by
  intro cs F m;have y:=(BY.1 m).1;have s:b<H.length:=by have:=h.1;omega
  have d:=h.2 b _ _ (AI s) m;cases g:H[b]<;>rw [g]at d<;>simp only [cV,reduceCtorEq]at d;obtain⟨rfl,q⟩:=d;obtain⟨B,E⟩:=v _ _ (by rw [AI s,g])
  exact⟨avV B q,fun x u=>dj.le n h (E x u)⟩
 | n+1,H,H',h,.sl b o l c A sz,v=>by
  intro blk' m;have y:=(BY.1 m).1;have s:b<H.length:=by have:=h.1;omega
  have d:=h.2 b _ _ (AI s) m;have j:=v _ (AI s);cases g:H[b]<;>rw [g]at d j<;>cases blk'<;>simp only [cV,reduceCtorEq]at d<;>try simp only
  ·obtain⟨rfl,q⟩:=d;exact⟨avV j.1 q,fun x u=>dj.le n h (j.2 x u)⟩
  ·obtain⟨rfl,rfl,q,rfl,rfl⟩:=d;rename_i st _;cases st<;>simp only at j ⊢
   exact⟨avV j.1 q,fun x u=>dj.le n h (j.2 x u)⟩
 | n+1,H,H',h,.cl f z,v=>fun x u=>dj.le n h (v x u)
 | n+1,H,H',h,.yl _,_=>trivial
 | n+1,H,H',h,.mp _,_=>trivial
 | n+1,H,H',h,.it _,_=>trivial
 | n+1,H,H',h,.bm _ _,_=>trivial
 | n+1,H,H',h,.mi _,_=>trivial
theorem eE{n:Nat}(b:∀(x:C) (H:ai),dj n (fZ n x H) x):∀(xs:List C) (H:ai),∀ x ∈ xs,dj n (xs.foldl (fun H x=>fZ n x H) H) x
 | y::ys,H,x,d=>by
  simp only [awF];rcases awf.1 d with rfl | d
  ·exact dj.le n (fK.foldl (fun H x=>jO n x H) ys _) (b x H)
  ·exact eE b ys _ x d
theorem gC:∀(n:Nat) (x:C) (H:ai),dj n (fZ n x H) x
 | n,.f _,H=>by cases n<;>trivial
 | 0,.ptr _ _ _,H=>trivial
 | 0,.sl _ _ _ _ _ _,H=>trivial
 | 0,.cl _ _,H=>trivial
 | 0,.yl _,H=>trivial
 | 0,.mp _,H=>trivial
 | 0,.it _,H=>trivial
 | 0,.bm _ _,H=>trivial
 | 0,.mi _,H=>trivial
 | n+1,.ptr b off I,H=>by
  simp only [fZ]
  cases u:H[b]? with
  | none=>intro cs E h;exfalso;simp only at h;exact absurd (u.symm.trans h) (by simp)
  | some aX=>
   cases aX with
   | box d g=>
    intro cs E h;have s:=(BY.1 u).1;simp only at h ⊢;have z:=fK.foldl (fun H x=>jO n x H) d (H.set b (.box d (Nat.max g d.length)))
    obtain⟨blk',j,m⟩:=z.get (b:=b) (aX:=.box d (Nat.max g d.length)) (by simp [s])
    rw [h]at j;cases j;obtain⟨rfl,q⟩:=m
    exact⟨avV (avY _ _) q,fun x v=>eE (fun x H=>gC n x H) _ _ x v⟩
   | _=>intro cs E h;simp only at h;rw [u]at h;cases h
 | n+1,.sl b o l c I sz,H=>by
  simp only [fZ]
  cases u:H[b]? with
  | none=>intro aX h;exfalso;simp only at h;exact absurd (u.symm.trans h) (by simp)
  | some aX=>
   have s:=(BY.1 u).1
   cases aX with
   | box d g=>
    intro aX h;simp only at h ⊢;have z:=fK.foldl (fun H x=>jO n x H) ((d.drop o).take (l*sz)) (H.set b (.box d (Nat.max g (o+l*sz))))
    obtain⟨blk',j,m⟩:=z.get (b:=b) (aX:=.box d (Nat.max g (o+l*sz))) (by simp [s])
    rw [h]at j;cases j;cases aX<;>simp only [cV,reduceCtorEq]at m;obtain⟨rfl,q⟩:=m
    exact⟨avV (avY _ _) q,fun x v=>eE (fun x H=>gC n x H) _ _ x v⟩
   | bE F d g B y=>
    intro aX h;simp only at h ⊢;have z:=fK.foldl (fun H x=>jO n x H) ((d.drop o).take (l*sz)) (H.set b (.bE F d (Nat.max g (o+l*sz)) B y))
    obtain⟨blk',j,m⟩:=z.get (b:=b) (aX:=.bE F d (Nat.max g (o+l*sz)) B y) (by simp [s])
    rw [h]at j;cases j;cases aX<;>simp only [cV,reduceCtorEq]at m;obtain⟨rfl,rfl,q,rfl,rfl⟩:=m;cases y<;>simp only
    exact⟨avV (avY _ _) q,fun x v=>eE (fun x H=>gC n x H) _ _ x v⟩
   | _=>intro aX h;simp only at h;rw [u]at h;cases h;simp
 | n+1,.cl f A,H=>fun x v=>eE (fun x H=>gC n x H) _ _ x v
 | n+1,.yl _,H=>trivial
 | n+1,.mp _,H=>trivial
 | n+1,.it _,H=>trivial
 | n+1,.bm _ _,H=>trivial
 | n+1,.mi _,H=>trivial
end
section
variable{Q:Program}{σ:Nat→FuncId}{X:Wd}
def cS(H H':ai):Prop:=∀(b:Nat) aX,H[b]?=some aX→∃ blk',H'[b]?=some blk'∧cV aX blk'
theorem cS.refl(H:ai):cS H H:=fun _ aX h=>⟨aX,h,cV.refl _⟩
theorem cS.trans{A B C:ai}(h:cS A B)(k:cS B C):cS A C:=fun b x j=>by
 obtain⟨y,hy,d⟩:=h b x j;obtain⟨z,l,g⟩:=k b y hy;exact⟨z,l,d.trans g⟩
theorem fK.ext{H H':ai}(h:fK H H'):cS H H':=fun _ _ b=>h.get b
theorem cS.append(H H':ai):cS H (H++H'):=fun b aX d=>⟨aX,by rw [AT (BY.1 d).1];exact d,cV.refl _⟩
theorem cS.len{H H':ai}(h:cS H H'):H.length≤H'.length:=by
 rcases awj H'.length H.length with d | b
 ·obtain⟨y,hy,_⟩:=h H'.length _ (AI d);have:=(BY.1 hy).1;omega
 ·exact b
theorem SR.ahead(l:SR Q σ X){H':ai}(h:cS X.H H'):SR Q σ { X with H:=H' }∧Ext X.H.length X { X with H:=H' }:=by
 have u:Ext X.H.length X { X with H:=H' }:=
  {B:=rfl,F:=fun _ _ h=>h,oZ:=fun _ _ h=>.inl h,fw:=fun _ _ _=>rfl
   bN:=fun b _ aX m=>by
    obtain⟨blk',q,d⟩:=h b aX m;refine⟨blk',q,?_⟩;cases aX<;>cases blk'<;>simp only [cV,reduceCtorEq]at d<;>simp_all
   xV:=fun b L h=>.inl ⟨b,L,h,rfl⟩,size:=aft _,os:=rfl,tape:=rfl,output:=rfl,frame:=fun _ _ _=>rfl }
 refine⟨⟨fun b L m=>?_,l.inj,l.fb⟩,u⟩
 obtain⟨y,z,aX,A,E⟩:=l.br b L m;obtain⟨blk',I,g⟩:=h b aX A;refine⟨y,z,blk',I,?_⟩;have j:BR Q σ { X with H:=H' } aX L:=BR.ext Q σ u rfl (fun _ h=>h) E
 cases aX<;>cases blk'<;>simp only [cV,reduceCtorEq]at g
 ·obtain⟨rfl,d⟩:=g;obtain⟨us,g1,g2,g3⟩:=j;exact⟨us,g1,g2,fun i hi=>g3 i (avV d hi)⟩
 ·obtain⟨rfl,rfl,d,rfl,rfl⟩:=g;obtain⟨s,us,rest,g1,g2,g3,g4,v,x⟩:=j;exact⟨s,us,rest,g1,g2,g3,g4,v,fun i hi=>x i (avV d hi)⟩
 all_goals (rw [←g];exact j)
def zZ:cU→Nat→Prop
 | .box cs b,i=>i<b∧i<cs.length
 | .bE _ cs b _ _,i=>i<b∧i<cs.length
 | _,_=>False
def FL(X:Wd):Prop:=∀ b L i aX,X.bU b=some L→X.H[b]?=some aX→zZ aX i→X.F L.c i
def Wd.flag(X:Wd):Wd:={ X with F:=fun c i=>X.F c i∨∃ b L aX,X.bU b=some L∧L.c=c∧X.H[b]?=some aX∧zZ aX i }
theorem SR.flag(v:SR Q σ X):SR Q σ X.flag∧Ext X.H.length X X.flag∧FL X.flag:=by
 have g:Ext X.H.length X X.flag:=
  {B:=rfl,F:=fun _ _ h=>.inl h
   oZ:=fun c i h=>by
    rcases h with h | ⟨b,L,aX,j,l,_⟩
    ·exact .inl h
    ·exact .inr (.inr ⟨b,L,j,l⟩)
   fw:=fun _ _ _=>rfl
   bN:=fun b _=>by
    intro aX y;refine⟨aX,y,?_⟩;cases aX<;>simp [Wd.flag]
   xV:=fun b L h=>.inl ⟨b,L,h,rfl⟩,size:=aft _,os:=rfl,tape:=rfl,output:=rfl,frame:=fun _ _ _=>rfl }
 refine⟨⟨fun b L y=>?_,v.inj,fun c i h=>?_⟩,g,fun b L i aX j l x=>.inr ⟨b,L,aX,j,rfl,l,x⟩⟩
 ·obtain⟨j,l,aX,x,u⟩:=v.br b L y;refine⟨j,l,aX,x,?_⟩
  have key:∀ i,X.flag.F L.c i→X.F L.c i∨zZ aX i:=by
   rintro i (h | ⟨E,K,blk',g1,g2,g3,g4⟩)
   ·exact .inl h
   ·have:E=b:=v.inj _ _ _ _ g1 y g2;subst this;rw [x]at g3;cases g3;exact .inr g4
  cases aX with
  | box cs H=>
   obtain⟨us,g1,g2,g3⟩:=u
   exact⟨us,g1,A2.ext' σ g g2,fun i hi z=>(key i z).elim (g3 i hi) fun h=>by have:=h.1;omega⟩
  | bE sz cs H M st=>
   obtain⟨A,us,rest,g1,g2,g3,g4,I,J⟩:=u
   exact⟨A,us,rest,g1,A2.ext' σ g g2,g3,g4,I,fun i hi z=>(key i z).elim (J i hi) fun h=>by have:=h.1;omega⟩
  | map es=>exact BR.ext Q σ g rfl (fun i h=>(key i h).elim id False.elim) u
  | it s p=>exact BR.ext Q σ g rfl (fun i h=>(key i h).elim id False.elim) u
  | jM b=>exact BR.ext Q σ g rfl (fun i h=>(key i h).elim id False.elim) u
  | vV m s d=>exact BR.ext Q σ g rfl (fun i h=>(key i h).elim id False.elim) u
  | lp f t p a c st q d=>exact BR.ext Q σ g rfl (fun i h=>(key i h).elim id False.elim) u
 ·rcases h with h | ⟨b,L,aX,j,l,_⟩
  ·exact v.fb c i h
  ·rw [←l];exact(v.br b L j).2.1
theorem ft{d g:Type}{f:d→Option g}:∀ {xs:List d} {ys:List g},aU f xs=some ys→A2 (fun x y=>f x=some y) xs ys
 | [],ys,h=>by simp only [aU,sh]at h;subst h;exact A2.nil
 | x::xs,ys,h=>by
  simp only [aU]at h;split at h
  ·simp at h
  ·rename_i y j;split at h
   ·simp at h
   ·rename_i l b;simp only [sh]at h;subst h;exact A2.cons j (ft b)
theorem frz(hS:SR Q σ X)(hF:FL X){H:ai}(Y:cS H X.H):∀(n:Nat) {x:C} {y:FC} {v:Value},cW n H x=some y→dj n H x→CR σ X x v→cD σ X.F X.w y v
 | n,.f x,y,v,d,_,B=>by
  have:cW n H (.f x)=some x:=by cases n<;>rfl
  rw [this]at d;cases d
  exact B
 | 0,.ptr _ _ _,y,v,d,_,_=>by simp [cW]at d
 | 0,.sl _ _ _ _ _ _,y,v,d,_,_=>by simp [cW]at d
 | 0,.cl _ _,y,v,d,_,_=>by simp [cW]at d
 | 0,.yl _,y,v,d,_,_=>by simp [cW]at d
 | 0,.mp _,y,v,d,_,_=>by simp [cW]at d
 | 0,.it _,y,v,d,_,_=>by simp [cW]at d
 | 0,.bm _ _,y,v,d,_,_=>by simp [cW]at d
 | 0,.mi _,y,v,d,_,_=>by simp [cW]at d
 | n+1,.ptr b off ep,y,v,d,hm,B=>by
  simp only [cW]at d;split at d
  ·rename_i cs M K;simp only [IN]at d;obtain⟨ys,g,rfl⟩:=d;obtain⟨O,I⟩:=hm cs M K;obtain⟨blk',m,j⟩:=Y b _ K;cases blk'<;>simp only [cV,reduceCtorEq]at j;obtain⟨rfl,j⟩:=j;rename_i W;obtain⟨L,U,B⟩:=B;simp only [m]at B;subst B;obtain⟨_,_,aX,E,N⟩:=hS.br b L U;rw [m]at E;cases E;obtain⟨us,A,z,_⟩:=N;have g:=ft g
   have:=cD.fp (σ:=σ) (F:=X.F) (w:=X.w) ys off L.c 0 us (by rw [←z.len,g.len])
    (fun i hi=>by rw [awn];exact hF b L i _ U m ⟨by have:=g.len;omega,by have:=g.len;omega⟩)
    (fun i u S=>by rw [awn,dA A];exact S)
    (fun i y u hy S=>by
     have hi:i<cs.length:=by rw [g.len];exact(BY.1 hy).1
     have Z:=AI hi
     exact frz hS hF Y n (g.2 i _ _ Z hy) (I _ (IT hi)) (z.2 i _ _ Z S))
   rw [awn]at this;exact this
  ·simp at d
 | n+1,.sl b o l c ep sz,y,v,d,hm,B=>by
  have key:∀(cs:List C) (M:Nat) (blk':cU) (L:Loc) (us rest:List Value) (ys:List FC) (cap:Nat),o+l*sz≤cs.length→o+l*sz≤M →
    (∀ i,i<M→i<cs.length→zZ blk' i)→X.H[b]?=some blk'→X.bU b=some L→rowAt X.w L.c (us++rest)→A2 (CR σ X) cs us →
    (∀ x ∈ (cs.drop o).take (l*sz),dj n H x)→aU (cW n H) ((cs.drop o).take (l*sz))=some ys→l≤cap→cD σ X.F X.w (.fs ys l) (.slice (some ⟨L.c,o,none⟩) l cap):=by
   intro cs M blk' L us rest ys cap q O a8 m U A z I g J;have g:=ft g;have b_:=z.len;have b9:ys.length=l*sz:=by rw [←g.len];simp;omega
   have b7:=(z.drop o).take (l*sz);refine .fs ys l L.c o cap ((us.drop o).take (l*sz)) J (by rw [b9];simp;omega) (fun i hi=>hF b L _ _ U m (a8 _ (by omega) (by omega))) (fun i u S=>?_) (fun i y u hy S=>?_)
   ·have hi:i<l*sz:=by
     have:=(BY.1 S).1;simp at this;omega
    rw [dA A,AT (by omega)]
    rw [List.getElem?_take_of_lt hi,avU]at S;exact S
   ·have hi:i<((cs.drop o).take (l*sz)).length:=by rw [g.len];exact(BY.1 hy).1
    have Z:=AI hi;exact frz hS hF Y n (g.2 i _ _ Z hy) (I _ (IT hi)) (b7.2 i _ _ Z S)
  simp only [cW]at d;simp only [CR,fy]at B;split at d
  ·rename_i cs M K;split at d
   ·rename_i q;simp only [IN]at d;obtain⟨ys,g,rfl⟩:=d;obtain⟨O,I⟩:=hm _ K;obtain⟨blk',m,j⟩:=Y b _ K;cases blk'<;>simp only [cV,reduceCtorEq]at j;obtain⟨rfl,j⟩:=j;rename_i W;simp only [m]at B;obtain⟨L,U,J,rfl⟩:=B;obtain⟨_,_,aX,E,N⟩:=hS.br b L U;rw [m]at E;cases E;obtain⟨us,A,z,_⟩:=N;exact key cs M (.box cs W) L us [] ys c q O (fun i h1 h2=>⟨by omega,h2⟩) m U (by simpa using A) z I g J
   ·simp at d
  ·rename_i s cs M e K;split at d
   ·rename_i q;obtain⟨rfl,rfl,q⟩:=q;simp only [IN]at d;obtain⟨ys,g,rfl⟩:=d;obtain⟨O,I⟩:=hm _ K;obtain⟨blk',m,j⟩:=Y b _ K;cases blk'<;>simp only [cV,reduceCtorEq]at j;obtain⟨rfl,rfl,j,rfl,rfl⟩:=j;rename_i W;simp only [m]at B;obtain⟨L,U,k,ho,J,rfl⟩:=B.2.1 trivial trivial;obtain⟨_,_,aX,E,N⟩:=hS.br b L U;rw [m]at E;cases E;obtain⟨_,us,rest,A,z,_⟩:=N;exact key cs M (.bE sz cs W ep .loc) L us rest ys _ q O (fun i h1 h2=>⟨by omega,h2⟩) m U A z I g (by omega)
   ·simp at d
  ·rename_i s cs M e K;split at d
   ·rename_i q;obtain⟨rfl,rfl⟩:=q;cases d;obtain⟨blk',m,j⟩:=Y b _ K;cases blk'<;>simp only [cV,reduceCtorEq]at j;obtain⟨rfl,rfl,j,rfl,rfl⟩:=j;simp only [m]at B;obtain⟨_,_,rfl⟩:=B.2.1 trivial trivial;exact .ay
   ·simp at d
  ·rename_i s cs M e K;split at d
   ·rename_i q;obtain⟨rfl,rfl⟩:=q;cases d;obtain⟨blk',m,j⟩:=Y b _ K;cases blk'<;>simp only [cV,reduceCtorEq]at j;obtain⟨rfl,rfl,j,rfl,rfl⟩:=j;simp only [m]at B;obtain⟨_,_,a,rfl⟩:=B.2.1 trivial trivial;exact .es a
   ·simp at d
  ·simp at d
 | n+1,.cl f a_,y,v,d,hm,B=>by
  simp only [cW,IN]at d;obtain⟨ys,g,rfl⟩:=d;obtain⟨us,rfl,z⟩:=B;have g:=ft g;refine .fn f ys us (by rw [←z.len,g.len]) fun i y u hy S=>?_
  have hi:i<a_.length:=by rw [g.len];exact(BY.1 hy).1
  have Z:=AI hi
  exact frz hS hF Y n (g.2 i _ _ Z hy) (hm _ (IT hi)) (CR.of1 σ (z.2 i _ _ Z S))
 | n+1,.yl _,y,v,d,_,_=>by simp [cW]at d
 | n+1,.mp _,y,v,d,_,_=>by simp [cW]at d
 | n+1,.it _,y,v,d,_,_=>by simp [cW]at d
 | n+1,.bm _ _,y,v,d,_,_=>by simp [cW]at d
 | n+1,.mi _,y,v,d,_,_=>by simp [cW]at d
end
section
variable{Q:Program}{σ:Nat→FuncId}{X:Wd}
theorem SR.skip(g:SR Q σ X){w':World}{o:Obj}(d:dz X.w w' o)(q:X.B≤X.w.heap.size):∃ X':Wd,X'.w=w'∧X'.H=X.H∧SR Q σ X'∧Ext X.H.length X X'∧X'.B≤X'.w.heap.size:=by
 have j:Ext X.H.length X { X with w:=w' }:=Ext.one g X.H.length rfl (fun _ _=>Iff.rfl) (fun k m _=>d.DZ m)
  (fun L i h=>by rw [SR.rU g]at h;simp at h) (fun h=>absurd h (aw9 _)) (fun _ _ _=>rfl) (fun _ _=>rfl) (fun L h=>.inl ⟨L,h,rfl⟩) (by show _≤w'.heap.size;rw [d.size];omega) d.os d.tape d.output
 refine⟨{ X with w:=w' },rfl,rfl,SR.step Q σ g j X.H.length (fun _ _=>rfl) (fun _ _=>rfl) (fun b L _ l=>d.DZ (g.br b L l).2.1)
  (fun _ _ _ _ _ h=>h) (fun L h=>by change X.bU X.H.length=some L at h;rw [SR.rU g]at h;simp at h) (fun c i h=>?_),j,?_⟩
 ·have:=g.fb c i h;show c<w'.heap.size;rw [d.size];omega
 ·show X.B≤w'.heap.size;rw [d.size];omega
theorem lJ{n:Int}(b:0≤n)(d:n<2 ^ 63):IntKind.i64.wrap n=n:=by
 have:n % (2 ^ 64:Int)=n:=Int.emod_eq_of_lt b (by omega)
 simp only [IntKind.wrap,IntKind.bits,IntKind.signed,this,Bool.true_and,decide_eq_true_eq];rw [if_neg (by show¬ n≥2 ^ (64-1);omega)]
theorem Gn(hS:SR Q σ X)(hB:X.B≤X.w.heap.size){a:Act}{au:T}(hR:RR σ X au a.tmps){o:Oper}{sz bytes:Nat}{zs:List FC}{x y:Arg}(F:dp Q σ o (.cP sz bytes zs x y)=true){v:V}{H':ai}
  (h:aZ au X.H (.cP sz bytes zs x y)=some (v,H')):gr Q σ X v H' (execOp a.eval o):=by
 simp only [dp]at F;split at F
 ·rename_i t x' y' ho;simp only [If,decide_eq_true_eq]at F;obtain⟨⟨⟨hx,hy⟩,O⟩,c_⟩:=F;have hx:=bF hR hx;have hy:=bF hR hy;obtain⟨e,hu,O⟩:=gM O;simp only [If]at O;obtain⟨⟨j,Z⟩,hz⟩:=O;obtain⟨z,us,b9,b_,M,d_,d6,d7⟩:=dY (σ:=σ) (X:=X) hz X.w;obtain⟨d5,u,A⟩:=AK Z X.w;simp only [aZ]at h;split at h
  ·rename_i l c hl hc;obtain⟨kl,a_⟩:=iy hx hl;obtain⟨kc,b7⟩:=iy hy hc;split at h
   ·rename_i s;obtain⟨h0,d8,g,d9⟩:=s;unfold bI at g;simp only [If,decide_eq_true_eq]at g;have J:us.length=sz:=by have:=M.len;simp at this;omega
    have L:=lJ (n:=l) h0 (by omega)
    have K:=lJ (n:=c) (by omega) (by omega)
    have c9:c.toNat*bytes≤2 ^ 48:=by
     have:c.toNat*bytes≤(2*c.toNat+768)*bytes:=awz _ (by omega)
     omega
    have m:¬ ((bytes:Int)*c>2 ^ 48):=by
     have e1:(bytes:Int)*c=((c.toNat*bytes:Nat):Int):=by
      rw [Int.natCast_mul,awP];congr 1;omega
     rw [e1];omega
    have I:((Array.range (c.toNat*sz)).map fun i=>us.toArray[i % us.toArray.size]!)=(cF c.toNat us).toArray:=by
     have:=hV us c.toNat (by omega);rwa [J]at this
    have run:(execOp a.eval o).run Q X.w=.ok (.value (.slice (some ⟨X.w.heap.size,0,none⟩) l.toNat c.toNat)) (X.w.alloc (.cells (cF c.toNat us).toArray e)):=by
     simp only [execOp,ho];refine dF ?_;rw [a_,b7];have B:¬ c<0:=by omega
     have E:¬ l<0:=by omega
     have q:¬ l>c:=by omega
     by_cases d:c.toNat*sz=0
     ·have a8:cF c.toNat us=[]:=api (by rw [kn,J];exact d)
      have b:((decide (c<0)||decide ((bytes:Int)*c>2 ^ 48))||decide (l<0)||decide (l>c))=false:=by rw [decide_eq_false B,decide_eq_false E,decide_eq_false q,decide_eq_false m];rfl
      simp only [Instr.makeSlice,Sem.run_bind,aR hu,asInt,asIntOf,Sem.run_pure,Result.andThen_ok,u,A,L,K,run_askRoom,cQ j];simp only [b,atN,if_false,Sem.run_ite,if_pos d,Sem.run_bind,Result.andThen_ok,Sem.run_pure,run_askRoom,cQ j,newRow,run_newObj];rw [d,a8,show(Array.map (fun x=>(#[]:Array Value)[x % (#[]:Array Value).size]!) (Array.range 0))=#[] from by simp [show Array.range 0=(#[]:Array Nat) from rfl]];rfl
     ·simp only [Instr.makeSlice,Sem.run_bind,aR hu,asInt,asIntOf,Sem.run_pure,Result.andThen_ok,u,A,L,K,run_askRoom,cQ j];have b:((decide (c<0)||decide ((bytes:Int)*c>2 ^ 48))||decide (l<0)||decide (l>c))=false:=by rw [decide_eq_false B,decide_eq_false E,decide_eq_false q,decide_eq_false m];rfl
      simp only [b,atN,if_false,Sem.run_ite,if_neg d,Sem.run_bind,b9,b_,Result.andThen_ok,Sem.run_pure,run_askRoom,cQ j,I,newRow,run_newObj];rfl
    split at h
    ·rename_i d;subst d;simp only [sh,IS]at h;obtain⟨rfl,rfl⟩:=h;have:l=0:=by omega
     subst this;obtain⟨X',S,N,U,W,Y⟩:=SR.skip hS (dz.alloc X.w (.cells (cF (0:Int).toNat us).toArray e)) hB;exact⟨_,X',.inl (by rw [S];exact run),N,U,cD.es _,W,Y⟩
    ·simp only [sh,IS]at h;obtain⟨rfl,rfl⟩:=h;obtain⟨X',S,N,U,W,Y,g6⟩:=Gp hS hB (ji M c.toNat) e;refine⟨_,X',.inl (by rw [S];exact run),N,U,?_,W,g6⟩
     have H:X'.H[X.H.length]?=some (.box ((cF c.toNat zs).map .f) 0):=by rw [N];simp
     simp only [VR,ik,CR,fy,H];exact⟨_,Y,by omega,rfl⟩
   ·simp at h
  ·simp at h
 ·simp at F
theorem akm(H:ai):∀ x,cW 0 H x=fcC x:=fun x=>by cases x<;>rfl
theorem ah1(hS:SR Q σ X)(hB:X.B≤X.w.heap.size){a:Act}{au:T}(I:RR σ X au a.tmps){o:Oper}{sz:Nat}{x hi mx:Arg}(B:dp Q σ o (.wN sz x hi mx)=true){v:V}{H':ai}
  (h:aZ au X.H (.wN sz x hi mx)=some (v,H')):gr Q σ X v H' (execOp a.eval o):=by
 simp only [dp]at B;split at B
 ·rename_i t y S mx' ho;simp only [If,decide_eq_true_eq]at B;obtain⟨⟨⟨⟨z,h2⟩,h3⟩,he⟩,hz⟩:=B;obtain⟨e,hu,E⟩:=gM he;simp only [aZ]at h;unfold DD at h;have o1:OR X σ none none:=trivial;have o2:OR X σ (some (hi.ev au)) (some (a.eval S)):=bF I h2;have o3:OR X σ (some (mx.ev au)) (some (a.eval mx')):=bF I h3;have z:=bF I z;split at h
  ·rename_i v' hv;simp only [sh,IS]at h;obtain⟨rfl,rfl⟩:=h;obtain⟨r,F,h5⟩:=yX hu E z o1 o2 o3 hv;exact⟨r,X,.inl (by simp only [execOp,ho];exact dF F),rfl,hS,h5,Ext.refl _ _,hB⟩
  ·split at h
   ·rename_i b o' n c' l s b_;rw [b_]at z;simp only [VR,ik,CR,fy]at z;split at h
    ·rename_i s' cs q e' J;rw [J]at z;split at h
     ·rename_i M;obtain⟨rfl,rfl,rfl,rfl⟩:=M;split at h
      ·rename_i i j d Y;split at h
       ·rename_i W;obtain⟨rfl,d6,d5⟩:=W;split at h
        ·rename_i ys c9;simp only [sh,IS]at h;obtain⟨rfl,rfl⟩:=h;obtain⟨L,hL,k,hk,d8,b9⟩:=z.2.1 rfl rfl
         have Z:k=0:=by
          rcases Nat.eq_zero_or_pos k with h | h
          ·exact h
          ·have:=Nat.mul_pos h hz;omega
         subst Z
         have d7:i≤n:=by
          unfold DY at d;split at d
          ·split at d
           ·rename_i hh;simp only [sh]at d;omega
           ·simp at d
          ·simp at d
         have K:cA n n none (some (hi.ev au)) (some (mx.ev au))=some (0,i,i):=by
          have U:DY (hi.ev au) i=some i:=by
           unfold DY at d ⊢;split at d
           ·split at d
            ·rename_i hh;simp only [sh]at d;rw [if_pos ⟨hh.1,by omega⟩,d]
            ·simp at d
           ·simp at d
          simp [cA,Y,U]
         obtain⟨F,_,_,_⟩:=dx (Q:=Q) o1 o2 o3 K (cap:=L.cap) (by omega) (aft n) true X.w
         have h6:=ec (a:=some ⟨L.c,0,none⟩) hu E F;have a8:fK X.H (X.H.set b (.bE s' cs (Nat.max q (i*s')) l .loc)):=fK.set J ⟨rfl,rfl,av4 _ _,rfl,rfl⟩;obtain⟨g1,g2⟩:=SR.ahead hS a8.ext;obtain⟨g3,g4,g5⟩:=SR.flag g1;have a_:=(BY.1 J).1;have m:(X.H.set b (.bE s' cs (Nat.max q (i*s')) l .loc))[b]?=some (.bE s' cs (Nat.max q (i*s')) l .loc):=by simp [a_]
         have O:cW 1 (X.H.set b (.bE s' cs (Nat.max q (i*s')) l .loc)) (.sl b 0 i 0 l s')=some (.fs ys i):=by
          simp only [cW,m];rw [if_pos ⟨trivial,trivial,by omega⟩,er (g:=fcC) fun x _=>akm _ x,List.drop_zero,c9]
          rfl
         have b7:dj 1 (X.H.set b (.bE s' cs (Nat.max q (i*s')) l .loc)) (.sl b 0 i 0 l s'):=by
          intro aX u;rw [m]at u;cases u;refine⟨by have:=avY q (i*s');simp only [awn];exact this,fun x _=>?_⟩
          cases x<;>trivial
         have N:CR σ ({ X with H:=X.H.set b (.bE s' cs (Nat.max q (i*s')) l .loc) }:Wd).flag (.sl b 0 i 0 l s') (.slice (some ⟨L.c,0,none⟩) i L.cap):=by
          simp only [CR,fy,Wd.flag,m];exact⟨aft _,fun _ _=>⟨L,hL,0,by omega,by omega,by simp⟩,_,_,_,rfl⟩
         have hf:=frz g3 g5 (cS.refl _) 1 O b7 N
         have A:cD σ ({ X with H:=X.H.set b (.bE s' cs (Nat.max q (i*s')) l .loc) }:Wd).flag.F X.w (.fs ys i) (.slice (some ⟨L.c,0,none⟩) i i):=by
          cases hf with
          | fs _ _ c o2 cap us c_ hl hF M hr=>exact .fs _ _ _ _ _ us (aft _) hl hF M hr
          | fs0 a2 cap=>omega
         refine⟨.slice (some ⟨L.c,0,none⟩) i i,({ X with H:=X.H.set b (.bE s' cs (Nat.max q (i*s')) l .loc) }:Wd).flag,.inl ?_,rfl,g3,A,g2.trans (g4.mono (by simp)),hB⟩
         simp only [execOp,ho];refine dF ?_;rw [b9];simp [show i≠0 by omega,dL]at h6
         exact h6
        ·simp at h
       ·simp at h
      ·simp at h
     ·simp at h
    ·simp at h
   ·simp at h
 ·simp at B
theorem amC(d:SR Q σ X)(g:X.B≤X.w.heap.size){a:Act}{au:T}(j:RR σ X au a.tmps){o:Oper}{l:cK}(b:dp Q σ o l=true){v:V}{H':ai}
  (h:aZ au X.H l=some (v,H')):gr Q σ X v H' (execOp a.eval o):=by
 cases q:l.fsl
 case true=>
  cases l<;>simp only [cK.fsl,reduceCtorEq]at q;obtain⟨rfl,u,X',E,F,H,I,J,K,_⟩:=xR d g j b h;exact⟨u,X',.inl E,F,H,I,J,K⟩
 by_cases A:cls l=.p∨cls l=.r
 ·exact gr.apR g d (aiu d j b A q h)
 ·cases l with
  | pre st sz=>exact amg d g b h
  | alloc zs=>
   simp only [aZ,sh,IS]at h;obtain⟨rfl,rfl⟩:=h
   exact Z3 d g b
  | box x=>
   simp only [aZ]at h;split at h
   ·rename_i xs s;simp only [sh,IS]at h;obtain⟨rfl,rfl⟩:=h;exact aj0 d g j b s
   ·simp at h
  | aO sz zs n ps=>exact NH d g j b h
  | store n x y=>exact acb d g j b h
  | jz=>
   simp only [aZ,sh,IS]at h;obtain⟨rfl,rfl⟩:=h
   exact aa9 d g b
  | jw L x y z=>exact aa2 d g j b h
  | cP sz m zs x y=>exact Gn d g j b h
  | range x=>exact abN d g j b h
  | next x=>exact agU d g j b h
  | append sz m x y=>exact ND d g j b h
  | FU x=>simp [dp]at b
  | copy sz x y=>simp [dp]at b
  | clear sz zs x=>exact aan d g j b h
  | sZ sz m zs x y=>exact afS d g j b h
  | lu x=>exact OU d g j b h
  | wN sz x y z=>exact ah1 d g j b h
  | pU x=>exact abb d g j b h
  | call f xs B=>simp [aZ]at h
  | bR x xs B=>simp [aZ]at h
  | recover=>simp [aZ]at h
  | defer x xs=>simp [aZ]at h
  | bad=>simp [aZ]at h
  | _=>exact absurd (by simp [cls]) A
end
section
variable{Q:Program}{σ:Nat→FuncId}{X:Wd}
def kI(n:Nat)(H:ai):V→Prop
 | .c x=>dj n H x
 | .a xs=>∀ x ∈ xs,dj n H x
 | _=>True
theorem kI.le{n:Nat}{H H':ai}(h:fK H H'){v:V}(b:kI n H v):kI n H' v:=by
 cases v with
 | c x=>exact dj.le n h b
 | a xs=>exact fun x d=>dj.le n h (b x d)
 | _=>trivial
theorem akR(n:Nat)(v:V)(H:ai):fK H (mkV n H v):=by
 cases v with
 | c x=>exact jO n x H
 | a xs=>exact fK.foldl (fun H x=>jO n x H) xs H
 | _=>exact fK.refl H
theorem Gk(n:Nat)(v:V)(H:ai):kI n (mkV n H v) v:=by
 cases v with
 | c x=>exact gC n x H
 | a xs=>exact fun x b=>eE (fun x H=>gC n x H) xs H x b
 | _=>trivial
theorem nA(n:Nat):∀(b:List V) (H:ai),fK H (b.foldl (mkV n) H)
 | [],H=>fK.refl H
 | v::b,H=>(akR n v H).trans (nA n b _)
theorem sO(n:Nat):∀(b:List V) (H:ai),∀ v ∈ b,kI n (b.foldl (mkV n) H) v
 | u::b,H,v,d=>by
  rcases awf.1 d with rfl | d
  ·exact(Gk n v H).le (nA n b _)
  ·exact sO n b _ v d
def FV1(σ:Nat→FuncId)(F:Nat→Nat→Prop)(w:World)(v:V)(u:Value):Prop:=∀ X:Wd,X.F=F→X.w=w→ik σ X v u
def FV(σ:Nat→FuncId)(F:Nat→Nat→Prop)(w:World)(v:V)(u:Value):Prop:=∀ X:Wd,X.F=F→X.w=w→VR σ X v u
theorem aij(z:SR Q σ X)(q:FL X){H:ai}(s:cS H X.H){n:Nat}{v F:V}{u:Value}(d:bX n H v=some F)(A:kI n H v)(B:ik σ X v u):FV1 σ X.F X.w F u:=by
 intro Z g j
 cases v with
 | c x=>
  simp only [bX,IN]at d;obtain⟨y,m,rfl⟩:=d;have:=frz z q s n m A B;rw [←g,←j]at this
  exact this
 | a xs=>
  simp only [bX,IN]at d;obtain⟨ys,b,rfl⟩:=d;obtain⟨us,rfl,l⟩:=B;have b:=ft b;refine⟨us,rfl,A2.map ⟨by rw [←l.len,b.len],fun i y u m I=>?_⟩⟩
  have hi:i<xs.length:=by rw [b.len];exact(BY.1 m).1
  have E:=AI hi;have:=frz z q s n (b.2 i _ _ E m) (A _ (IT hi)) (l.2 i _ _ E I);rw [←g,←j]at this
  exact this
 | top=>simp [bX]at d
 | t J=>simp [bX]at d
def cU.full:cU→cU
 | .box cs d=>.box cs (Nat.max d cs.length)
 | .bE s cs d e st=>.bE s cs (Nat.max d cs.length) e st
 | b=>b
theorem z6(H:ai):fK H (H.map cU.full):=by
 refine⟨by simp,fun b x y g d=>?_⟩
 rw [awx,g]at d;simp only [awg,sh]at d;subst d;cases x<;>simp [cV,cU.full,av4]
theorem fF:∀(n:Nat) {H:ai} {x:C} {y:FC},cW n H x=some y→dj n (H.map cU.full) x
 | n,H,.f _,y,_=>by cases n<;>trivial
 | 0,H,.ptr _ _ _,y,_=>trivial
 | 0,H,.sl _ _ _ _ _ _,y,_=>trivial
 | 0,H,.cl _ _,y,_=>trivial
 | 0,H,.yl _,y,_=>trivial
 | 0,H,.mp _,y,_=>trivial
 | 0,H,.it _,y,_=>trivial
 | 0,H,.bm _ _,y,_=>trivial
 | 0,H,.mi _,y,_=>trivial
 | n+1,H,.ptr b off B,y,d=>by
  intro cs E j;rw [awx]at j;simp only [cW]at d;split at d
  ·rename_i cs' u g;rw [g]at j;simp only [awg,sh,cU.full,cU.box.injEq]at j;obtain⟨rfl,rfl⟩:=j;simp only [IN]at d;obtain⟨ys,m,rfl⟩:=d;refine⟨avY _ _,fun x v=>?_⟩
   obtain⟨i,hi⟩:=awq v;obtain⟨y,_,z⟩:=(ft m).get hi;exact fF n z
  ·simp at d
 | n+1,H,.sl b o l c B sz,y,d=>by
  intro aX j;rw [awx]at j;simp only [cW]at d;split at d
  ·rename_i cs' u g;rw [g]at j;simp only [awg,sh,cU.full]at j;subst j;split at d
   ·rename_i q;simp only [IN]at d;obtain⟨ys,m,rfl⟩:=d;refine⟨avV q (avY _ _),fun x v=>?_⟩
    obtain⟨i,hi⟩:=awq v;obtain⟨y,_,z⟩:=(ft m).get hi;exact fF n z
   ·simp at d
  ·rename_i s cs' u e g;rw [g]at j;simp only [awg,sh,cU.full]at j;subst j;split at d
   ·rename_i q;simp only [IN]at d;obtain⟨ys,m,rfl⟩:=d;refine⟨avV q.2.2 (avY _ _),fun x v=>?_⟩
    obtain⟨i,hi⟩:=awq v;obtain⟨y,_,z⟩:=(ft m).get hi;exact fF n z
   ·simp at d
  ·rename_i s cs' u e g;rw [g]at j;simp only [awg,sh,cU.full]at j;subst j;trivial
  ·rename_i s cs' u e g;rw [g]at j;simp only [awg,sh,cU.full]at j;subst j;trivial
  ·simp at d
 | n+1,H,.cl f A,y,d=>by
  simp only [cW,IN]at d;obtain⟨ys,m,rfl⟩:=d;intro x v;obtain⟨i,hi⟩:=awq v;obtain⟨y,_,z⟩:=(ft m).get hi
  exact fF n z
 | n+1,H,.yl _,y,d=>trivial
 | n+1,H,.mp _,y,d=>trivial
 | n+1,H,.it _,y,d=>trivial
 | n+1,H,.bm _ _,y,d=>trivial
 | n+1,H,.mi _,y,d=>trivial
theorem z7{n:Nat}{H:ai}{v l:V}(b:bX n H v=some l):kI n (H.map cU.full) v:=by
 cases v with
 | c x=>
  simp only [bX,IN]at b;obtain⟨y,d,rfl⟩:=b
  exact fF n d
 | a xs=>
  simp only [bX,IN]at b;obtain⟨ys,g,rfl⟩:=b;intro x j;obtain⟨i,hi⟩:=awq j;obtain⟨y,_,d⟩:=(ft g).get hi
  exact fF n d
 | _=>trivial
def Wd.inner(X:Wd):Wd:=⟨fun _=>none,X.F,[],X.w,X.w.heap.size⟩
theorem SR.inner(d:SR Q σ X):SR Q σ X.inner:=⟨fun b L h=>by simp [Wd.inner]at h,fun b j L g h=>by simp [Wd.inner]at h,d.fb⟩
def Wd.iW(Y:Wd):Wd:=Wd.flag { Y with H:=Y.H.map cU.full }
theorem SR.iW{Y:Wd}(m:SR Q σ Y):SR Q σ Y.iW∧Ext Y.H.length Y Y.iW∧FL Y.iW:=by
 obtain⟨b,d⟩:=SR.ahead m (z6 Y.H).ext;obtain⟨g,j,l⟩:=SR.flag b;exact⟨g,d.trans (j.mono (by simp)),l⟩
theorem F2{Y:Wd}(J:SR Q σ Y){n:Nat}{v g:V}{u:Value}(b:iN n Y.H v=some g)(A:VR σ Y v u):FV σ Y.iW.F Y.w g u:=by
 obtain⟨F,H,I⟩:=SR.iW J;have m:=VR.ext' σ H A
 have q:∀ {v g:V} {u:Value},bX n Y.H v=some g→ik σ Y.iW v u→FV1 σ Y.iW.F Y.w g u:=by
  intro v g u b A
  have z:bX n Y.iW.H v=some g:=by
   show bX n (Y.H.map cU.full) v=some g
   cases v with
   | c x=>simp only [bX]at b ⊢;rw [mD n (z6 Y.H)];exact b
   | a xs=>simp only [bX]at b ⊢;rw [er (fun x _=>mD n (z6 Y.H) x)];exact b
   | _=>simp [bX]at b
  exact aij F I (cS.refl _) z (z7 b) A
 intro Z j l
 cases v with
 | t L=>
  simp only [iN,IN]at b;obtain⟨M,d,rfl⟩:=b;obtain⟨us,rfl,s⟩:=m;have d:=ft d;refine⟨us,rfl,by rw [←s.len,d.len],fun i y u E K=>?_⟩
  have hi:i<L.length:=by rw [d.len];exact(BY.1 E).1
  have B:=AI hi
  exact q (d.2 i _ _ B E) (s.2 i _ _ B K) Z j l
 | c x=>exact VR.of1 σ (q (v:=.c x) b m Z j l)
 | a xs=>exact VR.of1 σ (q (v:=.a xs) b m Z j l)
 | top=>simp [iN,bX]at b
theorem SR.outer(u:SR Q σ X)(y:X.B≤X.w.heap.size){Y:Wd}(v:SR Q σ Y)(d:Ext 0 X.inner Y) :
  SR Q σ { X with F:=Y.iW.F,w:=Y.w }∧Ext X.H.length X { X with F:=Y.iW.F,w:=Y.w }∧X.B≤Y.w.heap.size:=by
 obtain⟨x,s,z⟩:=SR.iW v;have O':X.w.heap.size≤Y.w.heap.size:=d.size;have g:∀ k,k<X.w.heap.size→Y.w.heap[k]?=X.w.heap[k]?:=fun k q=>d.frame k q (fun b L h=>by simp [Wd.inner]at h)
 have l:∀ c i,Y.iW.F c i→X.F c i∨X.w.heap.size≤c:=by
  intro c i h;rcases s.oZ c i h with h | h | ⟨b,L,m,rfl⟩
  ·rcases d.oZ c i h with h | h | ⟨b,L,m,_⟩
   ·exact .inl h
   ·exact .inr h
   ·simp [Wd.inner]at m
  ·exact .inr (avV O' h)
  ·have:=(v.br b L m).1;rw [d.B]at this;exact .inr this
 have j:Ext X.H.length X { X with F:=Y.iW.F,w:=Y.w }:=
  {B:=rfl,F:=fun c i h=>s.F c i (d.F c i h)
   oZ:=fun c i h=>(l c i h).elim .inl fun h=>.inr (.inl h)
   fw:=fun c i h=>d.fw c i h
   bN:=fun b _ aX m=>⟨aX,m,by cases aX<;>simp⟩
   xV:=fun b L h=>.inl ⟨b,L,h,rfl⟩,size:=O',os:=d.os,tape:=d.tape,output:=d.output,frame:=fun k q _=>g k q }
 refine⟨⟨fun b L m=>?_,u.inj,fun c i h=>x.fb c i h⟩,j,avV y O'⟩
 obtain⟨g1,g2,aX,g3,g4⟩:=u.br b L m;refine⟨g1,awr g2 O',aX,g3,BR.ext Q σ j (g _ g2) (fun i h=>?_) g4⟩
 rcases l _ _ h with h | h
 ·exact h
 ·omega
end
section
variable{Q:Program}{σ:Nat→FuncId}{X:Wd}
def ry(Q:Program)(σ:Nat→FuncId)(X:Wd)(v:V)(H':ai)(X':Wd)(u:Value):Prop:=
 X'.H=H'∧SR Q σ X'∧VR σ X' v u∧Ext X.H.length X X'∧X'.B≤X'.w.heap.size
def oB(b:CallKind)(cs:List Frame):Prop:=b=.normal∨(b=.deferred∧∃ c rest,cs=c::rest∧c.mode=.returning)
def iC(b:Frame)(cs:List Frame):Prop:=oB b.kind cs
theorem oB.Ow{fr:Frame}{cs:List Frame}(h:oB fr.kind cs):tryRecover fr cs=none:=by
 unfold tryRecover;rcases h with h | ⟨h,c,rest,rfl,b⟩
 ·rw [h]
 ·rw [h];simp [b]
def Leaves(Q:Program)(f:FuncId)(b:CallKind)(fr:Frame)(u:Value)(w:World):Prop:=
 fr.mode=.returning∧fr.defers=[]∧fr.kind=b∧fr.fn=f∧∃ fn,Q.funcs[f]?=some fn∧(Go.results fn fr.tmps).run Q w=.ok u w
structure ei(Q:Program)(σ:Nat→FuncId)(call:cE):Prop where
 enters:∀ f args H r,call (.fn f) args H=some r→∀ as w,(callFunc (σ f) as).run Q w=.ok (.enter (σ f) as) w
 fn:∀ f args H r H',call (.fn f) args H=some (r,H')→∀(X:Wd) us kind cs,X.H=H→SR Q σ X→X.B≤X.w.heap.size→A2 (VR σ X) args us→oB kind cs →
  ∃ fr X' u,Steps Q (lone (Frame.enter Q (σ f) us.toArray kind) cs X.w) (lone fr cs X'.w)∧Leaves Q (σ f) kind fr u X'.w∧ry Q σ X r H' X' u
 yield:∀ b args H r H',call (.yield b) args H=some (r,H')→∀(X:Wd) us c cs L,X.H=H→SR Q σ X→X.B≤X.w.heap.size→A2 (VR σ X) args us→X.bU b=some L →
  ∃ f tmps as bd X' u,(Instr.yield L.c us.toArray).run Q X.w=.ok (.round L.c f tmps as bd) X.w ∧
   Steps Q (lone (Frame.round L.c f tmps as bd .normal) (c::cs) X.w) (lone (c.finish u) cs X'.w)∧ry Q σ X r H' X' u
def cL(Q:Program)(σ:Nat→FuncId)(X:Wd)(o:Oper)(a:Act)(v:V)(H':ai):Prop:=
 ∀(b:Frame) (ops:Array Oper) (i:Nat) (rest:List Nat) (k:List Item) (cs:List Frame),ops[i]?=some o→Region.wanted o (yielded ops a.tmps)=true→iC b cs →
  ∃ X' u,Steps Q (lone (b.atR a (.inRegion ops (i::rest)::k)) cs X.w) (lone (b.atR (a.put o.dst u) (.inRegion ops rest::k)) cs X'.w)∧ry Q σ X v H' X' u
theorem cL.apQ{o:Oper}{a:Act}{v:V}{H':ai}(x:∀ c,o.op≠.defer c)(h:gr Q σ X v H' (execOp a.eval o)):cL Q σ X o a v H':=by
 intro b ops i rest k cs ho y z;obtain⟨u,X',d,j,l,m,q,s⟩:=h;refine⟨X',u,.one (step_lone_go ?_),j,l,m,q,s⟩;rw [stepGR_op ho y,Oper.semAt_eq _ _ _ x];have g:=Frame.finish_atR b a ops i rest k u;rw [ho]at g;simp only [av3]at g;rw [←g];rcases d with d | ⟨d,rfl⟩<;>simp [stepG.apply,Sem.runT_eq,d]
theorem cL.vf{o:Oper}{a:Act}{v:V}{H':ai}(m:∀ c,o.op≠.defer c){f:FuncId}{us:Array Value}(g:(execOp a.eval o).run Q X.w=.ok (.enter f us) X.w)
  (h:∀ cs,∃ fr X' u,Steps Q (lone (Frame.enter Q f us .normal) cs X.w) (lone fr cs X'.w)∧Leaves Q f .normal fr u X'.w∧ry Q σ X v H' X' u):cL Q σ X o a v H':=by
 intro b ops i rest k cs ho q B;obtain⟨fr,X',u,j,⟨l1,s,x,y,fn,z,A⟩,l⟩:=h (b.atR a (.inRegion ops (i::rest)::k)::cs);refine⟨X',u,.head (step_lone_go (fr':=Frame.enter Q f us .normal) (cs':=b.atR a (.inRegion ops (i::rest)::k)::cs) (w':=X.w) ?_) (j.trans (.one ?_)),l⟩
 ·rw [stepGR_op ho q,Oper.semAt_eq _ _ _ m];simp [stepG.apply,Sem.runT_eq,g,Frame.atR]
 ·have d:=Frame.finish_atR b a ops i rest k u;rw [ho]at d;simp only [av3]at d;rw [←d];exact step_leave_returned ⟨l1,s,x,fn,by rw [y];exact z,A⟩
theorem cL.abd{o:Oper}{a:Act}{v:V}{H':ai}(q:∀ c,o.op≠.defer c){l:Nat}{f:FuncId}{tmps:Array Value}{as bd:Code}(g:(execOp a.eval o).run Q X.w=.ok (.round l f tmps as bd) X.w)
  (h:∀ c cs,∃ X' u,Steps Q (lone (Frame.round l f tmps as bd .normal) (c::cs) X.w) (lone (c.finish u) cs X'.w)∧ry Q σ X v H' X' u):cL Q σ X o a v H':=by
 intro b ops i rest k cs ho s x;obtain⟨X',u,j,m⟩:=h (b.atR a (.inRegion ops (i::rest)::k)) cs;refine⟨X',u,.head (step_lone_go (fr':=Frame.round l f tmps as bd .normal) (cs':=b.atR a (.inRegion ops (i::rest)::k)::cs) (w':=X.w) ?_) ?_,m⟩
 ·rw [stepGR_op ho s,Oper.semAt_eq _ _ _ q];simp [stepG.apply,Sem.runT_eq,g,Frame.atR]
 ·have d:=Frame.finish_atR b a ops i rest k u;rw [ho]at d;simp only [av3]at d;rw [←d];exact j
theorem ou{x:V}{u:Value}{args:List V}{us:List Value}{c:Callee}{d:List V}(j:bP x args=some (c,d))(l:VR σ X x u)(q:A2 (VR σ X) args us) :
  match c with
  | .fn f=>∃ fst cap:List Value,u=.func (.func (σ f)) fst.toArray cap.toArray∧A2 (VR σ X) d (fst++us++cap)
  | .yield b=>d=args∧∃ L,X.bU b=some L∧u=.func (.yield L.c) #[] #[]:=by
 unfold bP at j;split at j
 ·rename_i f m;cases j
  cases l with
  | fn _ _ cap y hr=>
   refine⟨[],cap,rfl,q.append (A2.map ⟨y.symm,fun i x u l z=>?_⟩)⟩
   exact hr i x u l z
 ·rename_i f m;cases j;obtain⟨cap,rfl,g⟩:=l;exact⟨[],cap,rfl,q.append (A2.map (g.kC fun x u h=>CR.of1 σ h))⟩
 ·rename_i b;cases j;obtain⟨L,v,_,rfl⟩:=l;exact⟨rfl,L,v,rfl⟩
 ·rename_i f first
  cases j;obtain⟨cap,rfl,g⟩:=l;have s:A2 (VR σ X) (first.map .c) cap:=A2.map (g.kC fun x u h=>CR.of1 σ h)
  exact⟨cap,[],rfl,by simpa using s.append q⟩
 ·simp at j
theorem gY{a:Act}{o:Oper}{cl:Call}{y:Operand}(b:o.op=.call cl)(g:cl.callee=.value y){w:World}{fn:Fn}{fst cap:Array Value}(d:a.eval y=.func fn fst cap) :
  (execOp a.eval o).run Q w=(invoke (.fn fn cap) (fst++cl.args.map a.eval)).run Q w:=by
 simp only [execOp,b,resolve,g,d,Deferred.ofValue,Sem.run_bind,Sem.run_pure,Result.andThen_ok]
theorem eb{f:FuncId}{cap as:Array Value}{w:World}(h:∀ as w,(callFunc f as).run Q w=.ok (.enter f as) w):(invoke (.fn (.func f) cap) as).run Q w=.ok (.enter f (as++cap)) w:=by
 simp only [invoke];exact h _ _
end
section
variable{Q:Program}{σ:Nat→FuncId}{X:Wd}{call:cE}
theorem agc{n:Nat}{H H':ai}(h:fK H H')(v:V):bX n H' v=bX n H v:=by
 cases v with
 | c x=>simp only [bX,mD n h]
 | a xs=>simp only [bX,er (fun x _=>mD n h x)]
 | _=>rfl
theorem AE(J:ei Q σ call)(hS:SR Q σ X)(hB:X.B≤X.w.heap.size){f:Nat}{args:List V}{us:List Value}{H H':ai}{r':V}(g:dQ call f args H=some (r',H'))(hH:cS H' X.H)(K:A2 (VR σ X) args us)(cs:List Frame) :
  (∀ as w,(callFunc (σ f) as).run Q w=.ok (.enter (σ f) as) w) ∧
  ∃ fr X' u,Steps Q (lone (Frame.enter Q (σ f) us.toArray .normal) cs X.w) (lone fr cs X'.w)∧Leaves Q (σ f) .normal fr u X'.w∧ry Q σ X r' X.H X' u∧X'.bU=X.bU:=by
 unfold dQ at g;split at g
 ·simp at g
 ·rename_i q d;split at g
  ·simp at g
  ·rename_i r N b;split at g
   ·simp at g
   ·rename_i a8 hr;simp only [sh,IS]at g;obtain⟨rfl,rfl⟩:=g;have z:=nA deep args H;have A:=sO deep args H;obtain⟨s,I,h3⟩:=SR.flag hS;have d:=ft d
    have v:A2 (VR σ X.flag.inner) q us:=by
     refine⟨by rw [←d.len];exact K.len,fun i y u M hu=>?_⟩
     have hi:i<args.length:=by rw [d.len];exact(BY.1 M).1
     have L:=AI hi;have l:bX deep H args[i]=some y:=d.2 i _ _ L M;have m:=VR.ext' σ I (K.2 i _ _ L hu);rw [←agc z]at l
     have B:ik σ X.flag args[i] u:=by
      cases j:args[i]with
      | c x=>rw [j]at m;exact m
      | a xs=>rw [j]at m;exact m
      | top=>trivial
      | t vs=>rw [j]at l;simp [bX]at l
     exact VR.of1 σ (aij s h3 hH l (A _ (IT hi)) B X.flag.inner rfl rfl)
    obtain⟨fr,Y,u,O,S,U,E,W,Z,g7⟩:=J.fn f q [] r N b X.flag.inner us .normal cs rfl (SR.inner s) (aft _) v (.inl rfl);obtain⟨k1,k2,k3⟩:=SR.outer s hB E Z;refine⟨J.enters f q [] _ b,fr,{ X.flag with F:=Y.iW.F,w:=Y.w },u,O,S,⟨rfl,k1,?_,I.trans (k2.mono (aft _)),k3⟩,rfl⟩;rw [←U]at hr;exact F2 E hr W _ rfl rfl
theorem mW{o:Oper}{f:Nat}{xs:List Arg}{h:Bool}(b:dp Q σ o (.call f xs h)=true):∃ c,o.op=.call c∧c.callee=.value (.func (σ f))∧mAs σ xs c.args=true:=by
 simp only [dp]at b;split at b
 ·rename_i c j;simp only [du]at b;split at b
  ·rename_i g d;simp only [If,beq_iff_eq]at b;exact⟨c,j,by rw [d,b.1],b.2⟩
  ·simp at b
 ·simp at b
theorem Av{o:Oper}{x:Arg}{xs:List Arg}{h:Bool}(b:dp Q σ o (.bR x xs h)=true):∃ c y,o.op=.call c∧c.callee=.value y∧mA σ x y=true∧mAs σ xs c.args=true:=by
 simp only [dp]at b;split at b
 ·rename_i c d;simp only [du]at b;split at b
  ·rename_i y g;simp only [If]at b;exact⟨c,y,d,g,b.1,b.2⟩
  ·simp at b
 ·simp at b
theorem kj{o:Oper}{c:Call}(h:o.op=.call c):∀ c,o.op≠.defer c:=fun b e=>by rw [h]at e;cases e
theorem Cy(l:ei Q σ call)(q:SR Q σ X)(j:X.B≤X.w.heap.size){a:Act}{au:T}(B:RR σ X au a.tmps){o:Oper}{f:Nat}{xs:List Arg}{h:Bool}(F:dp Q σ o (.call f xs h)=true)
  {H H':ai} {v:V} (y:dQ call f (c6 au xs) H=some (v,H')) (m:cS H' X.H):cL Q σ X o a v X.H:=by
 obtain⟨c,x,E,d⟩:=mW F;have s:=mM B d;have b:=(AE l q j y m s []).1;refine cL.vf (kj x) (f:=σ f) (us:=c.args.map a.eval) ?_ fun cs=>?_
 ·rw [gY x E (fn:=.func (σ f)) (fst:=#[]) (cap:=#[]) rfl,eb b];simp
 ·obtain⟨_,fr,X',u,g,z,A,_⟩:=AE l q j y m s cs;exact⟨fr,X',u,by rw [Array.toArray_toList]at g;exact g,z,A⟩
theorem zN(A:ei Q σ call)(F:SR Q σ X)(z:X.B≤X.w.heap.size){a:Act}{au:T}(E:RR σ X au a.tmps){o:Oper}{f:Nat}{xs:List Arg}{h:Bool}(K:dp Q σ o (.call f xs h)=true)
  {H H':ai} {v:V} (L:dQ call f (c6 au xs) H=some (v,H')) (B:cS H' X.H)
  (b:Frame) (ops:Array Oper) (i:Nat) (rest:List Nat) (k:List Item) (cs:List Frame) (g:ops[i]?=some o) (M:Region.wanted o (yielded ops a.tmps)=true) :
  ∃ X' u,Steps Q (lone (b.atR a (.inRegion ops (i::rest)::k)) cs X.w) (lone (b.atR (a.put o.dst u) (.inRegion ops rest::k)) cs X'.w)∧ry Q σ X v X.H X' u∧X'.bU=X.bU:=by
 obtain⟨c,s,J,m⟩:=mW K;have I:=mM E m;obtain⟨l,fr,X',u,q,⟨N,O,S,U,fn,W,Y⟩,x,y⟩:=AE A F z L B I (b.atR a (.inRegion ops (i::rest)::k)::cs);rw [Array.toArray_toList]at q
 have j:(execOp a.eval o).run Q X.w=.ok (.enter (σ f) (c.args.map a.eval)) X.w:=by
  rw [gY s J (fn:=.func (σ f)) (fst:=#[]) (cap:=#[]) rfl,eb l];simp
 refine⟨X',u,.head (step_lone_go (fr':=Frame.enter Q (σ f) (c.args.map a.eval) .normal) (cs':=b.atR a (.inRegion ops (i::rest)::k)::cs) (w':=X.w) ?_) (q.trans (.one ?_)),x,y⟩
 ·rw [stepGR_op g M,Oper.semAt_eq _ _ _ (kj s)];simp [stepG.apply,Sem.runT_eq,j,Frame.atR]
 ·have d:=Frame.finish_atR b a ops i rest k u;rw [g]at d;simp only [av3]at d;rw [←d];exact step_leave_returned ⟨N,O,S,fn,by rw [U];exact W,Y⟩
theorem Cx(j:ei Q σ call)(z:SR Q σ X)(x:X.B≤X.w.heap.size){a:Act}{au:T}(y:RR σ X au a.tmps){o:Oper}{f:Nat}{xs:List Arg}{h:Bool}(E:dp Q σ o (.call f xs h)=true)
  {H':ai} {v:V} (m:call (.fn f) (c6 au xs) X.H=some (v,H')):cL Q σ X o a v H':=by
 obtain⟨c,l,B,d⟩:=mW E;have A:=mM y d;have b:=j.enters _ _ _ _ m;refine cL.vf (kj l) (f:=σ f) (us:=c.args.map a.eval) ?_ fun cs=>?_
 ·rw [gY l B (fn:=.func (σ f)) (fst:=#[]) (cap:=#[]) rfl,eb b];simp
 ·obtain⟨fr,X',u,g,q,s⟩:=j.fn _ _ _ _ _ m X _ .normal cs rfl z x A (.inl rfl);exact⟨fr,X',u,by rw [Array.toArray_toList]at g;exact g,q,s⟩
theorem aal(A:ei Q σ call)(M:SR Q σ X)(J:X.B≤X.w.heap.size){a:Act}{au:T}(K:RR σ X au a.tmps){o:Oper}{x:Arg}{xs:List Arg}{h:Bool}(Z:dp Q σ o (.bR x xs h)=true)
  {H':ai} {v:V} {c:Callee} {args:List V} (m:bP (x.ev au) (c6 au xs)=some (c,args)) (E:call c args X.H=some (v,H')):cL Q σ X o a v H':=by
 obtain⟨cl,y,s,O,hy,H⟩:=Av Z;have N:=mM K H;have S:=ou m (bF K hy) N
 cases c with
 | fn f=>
  obtain⟨fst,cap,j,F⟩:=S;have B:=A.enters _ _ _ _ E;refine cL.vf (kj s) (f:=σ f) (us:=fst.toArray++cl.args.map a.eval++cap.toArray) ?_ fun cs=>?_
  ·rw [gY s O j,eb B]
  ·obtain⟨fr,X',u,q,z,W⟩:=A.fn _ _ _ _ _ E X _ .normal cs rfl M J F (.inl rfl);refine⟨fr,X',u,?_,z,W⟩;have e:(fst++(cl.args.map a.eval).toList++cap).toArray=fst.toArray++cl.args.map a.eval++cap.toArray:=by simp
   rw [e]at q;exact q
 | yield b=>
  obtain⟨rfl,L,Y,j⟩:=S;have key:=fun c cs=>A.yield b _ _ _ _ E X _ c cs L rfl M J N Y
  obtain⟨f,tmps,as,bd,_,_,g,_⟩:=key default [];refine cL.abd (kj s) (l:=L.c) (f:=f) (tmps:=tmps) (as:=as) (bd:=bd) ?_ fun c cs=>?_
  ·rw [gY s O j,Array.empty_append];rw [Array.toArray_toList]at g;exact g
  ·obtain⟨f',I,as',U,X',u,d,q,z⟩:=key c cs;rw [g]at d;simp only [Result.ok.injEq,Next.round.injEq,true_and,and_true]at d;obtain⟨rfl,rfl,rfl,rfl⟩:=d;exact⟨X',u,q,z⟩
end
section
variable{Q:Program}{σ:Nat→FuncId}{X:Wd}{call:cE}
def tU(σ:Nat→FuncId)(X:Wd):dt→Deferred→Prop
 | .py b,d=>∃ L o,X.bU b=some L∧X.H[b]?=some (.jM o)∧d = { target:=.collected L.c,args:=#[] }
 | .fn f args,d=>∃ us cap:Array Value,d = { target:=.fn (.func (σ f)) cap,args:=us }∧A2 (VR σ X) args (us.toList++cap.toList)
theorem tU.dB{X X':Wd}(m:oV X.H.length X X'){x:dt}{d:Deferred}(h:tU σ X x d):tU σ X' x d:=by
 cases x with
 | py b=>
  obtain⟨L,o,j,g,q⟩:=h;obtain⟨blk',s,l⟩:=m.bN b (BY.1 g).1 _ g;cases blk'<;>simp only at l
  exact⟨L,_,l L j,s,q⟩
 | fn f args=>
  obtain⟨us,cap,j,g⟩:=h;exact⟨us,cap,j,g.kC fun _ _ h=>VR.dB σ m h⟩
def eZ(σ:Nat→FuncId)(X:Wd)(ds:List dt)(b:List Deferred):Prop:=A2 (tU σ X) ds b
theorem tU.ext'{X X':Wd}(b:Ext X.H.length X X'){x:dt}{d:Deferred}(h:tU σ X x d):tU σ X' x d:=tU.dB b.W h
theorem eZ.dB{X X':Wd}(b:oV X.H.length X X'){ds:List dt}{ms:List Deferred}(h:eZ σ X ds ms):eZ σ X' ds ms:=h.kC fun _ _ h=>tU.dB b h
theorem eZ.ext'{X X':Wd}(b:Ext X.H.length X X'){ds:List dt}{ms:List Deferred}(h:eZ σ X ds ms):eZ σ X' ds ms:=h.kC fun _ _ h=>tU.ext' b h
def pe(Q:Program)(σ:Nat→FuncId)(X:Wd)(o:Oper)(a:Act)(d:Frame→Prop)(v:V)(H':ai)(ds:List dt):Prop:=
 ∀(b:Frame) (ops:Array Oper) (i:Nat) (rest:List Nat) (k:List Item) (cs:List Frame),ops[i]?=some o→Region.wanted o (yielded ops a.tmps)=true→iC b cs→d b →
  ∃(X':Wd) (u:Value) (a':Act),Steps Q (lone (b.atR a (.inRegion ops (i::rest)::k)) cs X.w) (lone (b.atR (a'.put o.dst u) (.inRegion ops rest::k)) cs X'.w)∧ry Q σ X v H' X' u∧a'.tmps=a.tmps∧eZ σ X' ds a'.defers
theorem cL.acj{o:Oper}{a:Act}{v:V}{H':ai}(h:cL Q σ X o a v H'){ds:List dt}(j:eZ σ X ds a.defers){ok:Frame→Prop}:pe Q σ X o a ok v H' ds:=by
 intro b ops i rest k cs ho m l _;obtain⟨X',u,g,d⟩:=h b ops i rest k cs ho m l;exact⟨X',u,a,g,d,rfl,j.ext' d.2.2.2.1⟩
theorem cL.ahead(y:SR Q σ X){d H':ai}(g:cS X.H d){o:Oper}{a:Act}{v:V}(h:cL Q σ { X with H:=d } o a v H'):cL Q σ X o a v H':=by
 intro b ops i rest k cs ho A z;obtain⟨X',u,j,l,m,q,s,x⟩:=h b ops i rest k cs ho A z;exact⟨X',u,j,l,m,q,(SR.ahead y g).2.trans (s.mono g.len),x⟩
def fV(d:cK)(b:Frame):Prop:=b.roundOf=none∨d.dJ=true
theorem GL(x:SR Q σ X)(v:X.B≤X.w.heap.size){a:Act}{o:Oper}(g:dp Q σ o .recover=true){ds:List dt}(y:eZ σ X ds a.defers):pe Q σ X o a (fV .recover) (.c (.f .lZ)) X.H ds:=by
 intro b ops i rest k cs u A z hr;have hr:b.roundOf=none:=hr.elim id fun h=>by simp [cK.dJ]at h
 simp only [dp]at g;split at g
 ·rename_i c s;simp only [du]at g;split at g
  ·rename_i j
   have l:(execOp a.eval o).run Q X.w=.ok .recover X.w:=by
    simp [execOp,s,resolve,j,invoke,builtin]
   refine⟨X,.nilIface,a,.one (step_lone_go ?_),⟨rfl,x,cD.lZ,Ext.refl _ _,v⟩,rfl,y⟩;rw [stepGR_op u A,Oper.semAt_eq _ _ _ (kj s)];have d:=Frame.finish_atR b a ops i rest k .nilIface;rw [u]at d;simp only [av3]at d;rw [←d];have m:tryRecover (b.atR a (.inRegion ops (i::rest)::k)) cs=none:=oB.Ow z;have q:(b.atR a (.inRegion ops (i::rest)::k)).roundOf=none:=hr;simp [stepG.apply,Sem.runT_eq,l,m,q]
  ·simp at g
 ·simp at g
theorem aaq(z:SR Q σ X)(v:X.B≤X.w.heap.size){a:Act}{au:T}(s:RR σ X au a.tmps){o:Oper}{x:Arg}{xs:List Arg}(g:dp Q σ o (.defer x xs)=true){ds:List dt}(B:eZ σ X ds a.defers)
  {f:Nat} {args:List V} (A:bP (x.ev au) (c6 au xs)=some (.fn f,args)):pe Q σ X o a (fV (.defer x xs)) .top X.H (.fn f args::ds):=by
 intro b ops i rest k cs u F I hr;have hr:b.roundOf=none:=hr.elim id fun h=>by simp [cK.dJ]at h
 simp only [dp]at g;split at g
 ·rename_i c j;split at g
  ·rename_i y H;simp only [If]at g;have E:=ou A (bF s g.1) (mM s g.2);obtain⟨fst,cap,m,q⟩:=E
   have l:(execOp a.eval o).run Q X.w=.ok (.defer { target:=.fn (.func (σ f)) cap.toArray,args:=fst.toArray++c.args.map a.eval }) X.w:=by
    simp [execOp,j,resolve,H,m,Deferred.ofValue]
   refine⟨X,undef,{ a with defers:={ target:=.fn (.func (σ f)) cap.toArray,args:=fst.toArray++c.args.map a.eval }::a.defers },.one (step_lone_go ?_),⟨rfl,z,trivial,Ext.refl _ _,v⟩,rfl,A2.cons ⟨_,_,rfl,by simpa using q⟩ B⟩
   rw [stepGR_op u F,hr,Oper.semAt_none];have d:=Frame.finish_atR b { a with defers:={ target:=.fn (.func (σ f)) cap.toArray,args:=fst.toArray++c.args.map a.eval }::a.defers } ops i rest k undef;rw [u]at d;simp only [av3]at d;rw [←d];simp [stepG.apply,Sem.runT_eq,l,Frame.atR]
  ·simp at g
 ·simp at g
theorem pR{o:Oper}{b:cK}(g:dp Q σ o b=true)(j:∀ x xs,b≠.defer x xs)(l:b≠.bad):∀ c,o.op≠.defer c:=by
 intro c d;cases b
 case pre o sz=>cases o<;>simp [dp,d]at g
 case defer x xs=>exact j _ _ rfl
 case bad=>exact l rfl
 all_goals simp [dp,d]at g
theorem I1(A:ei Q σ call)(j:SR Q σ X)(m:X.B≤X.w.heap.size){a:Act}{s s':St}(q:X.H=s.heap)(u:RR σ X s.au a.tmps)(y:eZ σ X s.defs a.defers){o:Oper}{g:cK}(l:dp Q σ o g=true){v:V}
  (h:dZ call s g=some (v,s')):pe Q σ X o a (fV g) v s'.heap s'.defs∧s'.au=s.au:=by
 by_cases E:(∃ f xs h,g=.call f xs h)∨(∃ x xs h,g=.bR x xs h)∨g=.recover∨∃ x xs,g=.defer x xs
 ·rcases E with⟨f,xs,L,rfl⟩ | ⟨x,xs,L,rfl⟩ | rfl | ⟨x,xs,rfl⟩
  ·simp only [dZ,IN,IS]at h;obtain⟨⟨I,H'⟩,d,rfl,rfl⟩:=h;refine⟨cL.acj ?_ y,rfl⟩;unfold fW at d;split at d
   ·exact Cx A j m u l (q▸d)
   ·have z:cS X.H H':=by
     have b:=d;unfold dQ at b;split at b
     ·simp at b
     ·split at b
      ·simp at b
      ·split at b
       ·simp at b
       ·simp only [sh,IS]at b;rw [←b.2,q];exact(nA _ _ _).ext
    obtain⟨J,K⟩:=SR.ahead j z;refine cL.ahead j z ?_;exact Cy A (X:={ X with H:=H' }) J m (u.ext' σ K) l d (cS.refl _)
  ·simp only [dZ]at h;split at h
   ·rename_i c args B;simp only [IN,IS]at h;obtain⟨⟨I,H'⟩,d,rfl,rfl⟩:=h;exact⟨cL.acj (aal A j m u l B (q▸d)) y,rfl⟩
   ·simp at h
  ·simp only [dZ,sh,IS]at h;obtain⟨rfl,rfl⟩:=h;rw [←q];exact⟨GL j m l y,rfl⟩
  ·simp only [dZ]at h;split at h
   ·rename_i f args B;simp only [sh,IS]at h;obtain⟨rfl,rfl⟩:=h;refine⟨?_,rfl⟩;rw [←q];exact aaq j m u l y B
   ·simp at h
 ·have F:(aZ s.au s.heap g).map (fun r=>(r.1,{ s with heap:=r.2 }))=some (v,s'):=by
   cases g<;>first | exact h | (exfalso;apply E;simp)
  simp only [IN,IS]at F;obtain⟨⟨I,H'⟩,d,rfl,rfl⟩:=F;refine⟨cL.acj (cL.apQ (pR l ?_ ?_) (amC j m u l (q▸d))) y,rfl⟩
  ·rintro x xs rfl;exact E (.inr (.inr (.inr ⟨x,xs,rfl⟩)))
  ·rintro rfl;simp [aZ]at d
end
section
variable{Q:Program}{σ:Nat→FuncId}{X:Wd}{call:cE}
structure Fr(Q:Program)(σ:Nat→FuncId)(n:Nat)(X:Wd)(s:St)(a:Act):Prop where
 heap:X.H=s.heap
 sr:SR Q σ X
 b:X.B≤X.w.heap.size
 au:RR σ X s.au a.tmps
 defs:eZ σ X s.defs a.defers
 size:n≤a.tmps.size
theorem nJ{n:Nat}{ops:Array Oper}{o:Oper}{m:aH}(F:kg Q σ n ops o m=true){au:T}{tmps:Array Value}(I:∀ p w',m.g=some (p,w')→VR σ X (au.get p) (tmps.getD p.toNat undef))(K:n≤tmps.size){w:Bool}(h:wanted au m.g=some w) :
  Region.wanted o (yielded ops tmps)=w:=by
 simp only [kg,If]at F;obtain⟨_,b⟩:=F;unfold Region.wanted
 cases x:o.guard with
 | none=>
  rw [x]at b
  cases g:m.g with
  | none=>rw [g]at h;simp only [wanted,sh]at h;simpa using h
  | some q=>rw [g]at b;simp at b
 | some L=>
  obtain⟨j,N⟩:=L;rw [x]at b
  cases g:m.g with
  | none=>rw [g]at b;simp at b
  | some q=>
   obtain⟨p,w'⟩:=q;rw [g]at b h;simp only [If,beq_iff_eq]at b;obtain⟨rfl,b⟩:=b;split at b
   ·rename_i d J;simp only [If,beq_iff_eq,decide_eq_true_eq]at b;obtain⟨B,A⟩:=b;have l:=I p _ g;rw [B]at l;have v:d<tmps.size:=awr A K;have s:tmps.getD d undef=tmps[d]:=by simp [Array.getD,v]
    rw [s]at l;simp only [wanted]at h;simp only [yielded,J,av3,Array.getElem?_eq_getElem v];split at h
    ·rename_i H z;rw [z]at l;simp only [sh]at h;have y:cD σ X.F X.w (.bool H) tmps[d]:=l;generalize tmps[d]=u at y;cases y;subst h;simp
    ·rename_i z;rw [z]at l;obtain⟨us,E,M⟩:=l;simp only [sh]at h;subst h;rw [E];simp
    ·simp at h
   ·simp at b
theorem abK{n:Nat}{ops:Array Oper}{o:Oper}{m:aH}(s:kg Q σ n ops o m=true){au:T}{a:Act}(q:RR σ X au a.tmps)(x:n≤a.tmps.size){v:V}{u:Value}(y:VR σ X v u) :
  RR σ X (je au m.dst v) (a.put o.dst u).tmps∧(a.put o.dst u).tmps.size=a.tmps.size∧(a.put o.dst u).defers=a.defers:=by
 simp only [kg,If]at s;obtain⟨⟨_,b⟩,_⟩:=s;split at b
 ·rename_i d p g j;simp only [If,beq_iff_eq,decide_eq_true_eq]at b;obtain⟨rfl,l⟩:=b;rw [g,j];exact⟨RR.set σ q (awr l x) y,by simp [Act.put],rfl⟩
 ·rename_i g j;rw [g,j];exact⟨q,rfl,rfl⟩
 ·simp at b
theorem VR.undef:VR σ X (.t []) undef:=⟨[],rfl,A2.nil⟩
theorem aco(L:ei Q σ call){n:Nat}{s s':St}{a:Act}(d:Fr Q σ n X s a){ops:Array Oper}{o:Oper}{m:aH}(j:kg Q σ n ops o m=true)(h:eR call s m=some s')
  {b:Frame} {i:Nat} {rest:List Nat} {k:List Item} {cs:List Frame} (x:ops[i]?=some o) (M:iC b cs) (hr:fV m.op b) :
  ∃ X' a',Steps Q (lone (b.atR a (.inRegion ops (i::rest)::k)) cs X.w) (lone (b.atR a' (.inRegion ops rest::k)) cs X'.w)∧Fr Q σ n X' s' a'∧Ext X.H.length X X'∧a'.tmps.size=a.tmps.size:=by
 unfold eR at h;split at h
 ·rename_i g;have g:=nJ j (fun p w' _=>d.au p) d.size g
  split at h
  ·rename_i v N I;simp only [sh]at h;subst h;have l:dp Q σ o m.op=true:=by simp only [kg,If]at j;exact j.1.1
   obtain⟨J,K⟩:=I1 L d.sr d.b d.heap d.au d.defs l I;obtain⟨X',u,a',z,⟨A,B,E,y,F⟩,q,H⟩:=J b ops i rest k cs x g M hr;obtain⟨p1,p2,p3⟩:=abK j (X:=X') (a:=a') (by rw [q];exact d.au.ext' σ y) (by rw [q];exact d.size) E
   refine⟨X',a'.put o.dst u,z,⟨A,B,F,?_,by rw [p3];exact H,by rw [p2,q];exact d.size⟩,y,by rw [p2,q]⟩
   simpa [K]using p1
  ·simp at h
 ·rename_i g;have g:=nJ j (fun p w' _=>d.au p) d.size g
  simp only [sh]at h;subst h;obtain⟨p1,p2,p3⟩:=abK j d.au d.size (VR.undef (σ:=σ) (X:=X));refine⟨X,a.put o.dst undef,.one ?_,⟨d.heap,d.sr,d.b,p1,by rw [p3];exact d.defs,by rw [p2];exact d.size⟩,Ext.refl _ _,p2⟩
  have:=stepR_op_skip (P:=Q) (b:=b) (a:=a) (k:=k) (cs:=cs) (w:=X.w) (ops:=ops) (i:=i) (rest:=rest) (by simp [x,g])
  rw [x]at this;exact this
 ·simp at h
theorem I4(H:ei Q σ call){n:Nat}{ops:Array Oper}{b:Frame}{k:List Item}{cs:List Frame}(I:iC b cs):∀(aos:List aH) (j:Nat) (X:Wd) (s s':St) (a:Act),Fr Q σ n X s a →
  ff (kg Q σ n ops) (ops.toList.drop j) aos=true→(∀ ao ∈ aos,fV ao.op b)→eO call aos s=some s' →
  ∃ X' a',Steps Q (lone (b.atR a (.inRegion ops ((List.range ops.size).drop j)::k)) cs X.w) (lone (b.atR a' k) cs X'.w)∧Fr Q σ n X' s' a'∧Ext X.H.length X X'∧a'.tmps.size=a.tmps.size
 | [],j,X,s,s',a,A,d,_,h=>by
  simp only [eO,sh]at h;subst h
  have O:(List.range ops.size).drop j=[]:=by
   cases g:ops.toList.drop j with
   | nil=>
    have:=axg.1 g;simp at this
    rw [axg];simpa using this
   | cons x xs=>rw [g]at d;simp [ff]at d
  rw [O]
  exact⟨X,a,.one stepR_region_end,A,Ext.refl _ _,rfl⟩
 | ao::aos,j,X,s,s',a,A,d,hr,h=>by
  cases g:ops.toList.drop j with
  | nil=>rw [g]at d;simp [ff]at d
  | cons o os=>
   rw [g]at d;simp only [ff,If]at d
   have v:j<ops.toList.length:=by
    rcases awj j ops.toList.length with q | q
    ·exact q
    ·rw [axg.2 q]at g;simp at g
   have l:=avW v;rw [g]at l;simp only [List.cons.injEq]at l;obtain⟨S,F⟩:=l;simp only [eO]at h;split at h
   ·rename_i s1 q
    have m:(List.range ops.size).drop j=j ::(List.range ops.size).drop (j+1):=by
     rw [avW (by simpa using v)];simp
    rw [m];obtain⟨y,a1,L,M,z,N⟩:=aco H A d.1 q (b:=b) (i:=j) (rest:=(List.range ops.size).drop (j+1)) (k:=k) (cs:=cs) (by simp at v;simp [v,S]) I (hr _ (by simp))
    obtain⟨J,K,U,W,Y,Z⟩:=I4 H I aos (j+1) y s1 s' a1 M (by rw [←F];exact d.2) (fun ao h=>hr ao (by simp [h])) h
    refine⟨J,K,L.trans U,W,z.trans (Y.mono ?_),Z.trans N⟩;have:=z.bN;rcases awj y.H.length X.H.length with u | E
    ·obtain⟨blk',B,_⟩:=z.bN y.H.length u _ (AI u);have:=(BY.1 B).1;omega
    ·exact E
   ·simp at h
end
section
theorem jZ{r r':T}{x:Arg}(h:∀ p ∈ x.rd,r.get p=r'.get p):x.ev r=x.ev r':=by
 cases x with
 | r p=>exact h p (by simp [Arg.rd])
 | k v=>rfl
theorem Oy{r r':T}{x:Option Arg}(h:∀ p ∈ oRd x,r.get p=r'.get p):x.map (·.ev r)=x.map (·.ev r'):=by
 cases x with
 | none=>rfl
 | some x=>simp only [awg];rw [jZ h]
theorem fE{r r':T}{xs:List Arg}(h:∀ p ∈ xs.flatMap Arg.rd,r.get p=r'.get p):c6 r xs=c6 r' xs:=by
 unfold c6;refine List.map_congr_left fun x d=>jZ fun p b=>h p (aw6.2 ⟨x,d,b⟩)
theorem iD{r r':T}:∀(ps:List (Nat × Nat × Arg)) (cs:List C),(∀ p ∈ ps.flatMap (fun q=>q.2.2.rd),r.get p=r'.get p)→dc r cs ps=dc r' cs ps
 | [],cs,_=>rfl
 | (off,n,x)::ps,cs,h=>by
  simp only [dc];rw [jZ (x:=x) (r:=r) (r':=r') fun p b=>h p (by simp [b])]
  split
  ·split
   ·exact iD ps _ fun p b=>h p (by simp only [List.flatMap_cons,av1];exact .inr b)
   ·rfl
  ·rfl
theorem G7{r r':T}{H:ai}{u:cK}(h:∀ p ∈ u.rd,r.get p=r'.get p):aZ r H u=aZ r' H u:=by
 have e:∀ x:Arg,(∀ p ∈ x.rd,p ∈ u.rd)→x.ev r=x.ev r':=fun x B=>jZ fun p d=>h p (B p d)
 have g:∀ x:Option Arg,(∀ p ∈ oRd x,p ∈ u.rd)→x.map (·.ev r)=x.map (·.ev r'):=fun x B=>Oy fun p d=>h p (B p d)
 cases u
 case build zs ps=>simp only [aZ];rw [iD ps _ h]
 case aO sz zs n ps=>
  simp only [aZ]
  rw [iD (r:=r) (r':=r') (ps.map fun p=>(p.1*sz,sz,p.2)) _ fun p d=>h p (by
   simp only [aw6,av9]at d;obtain⟨q,⟨q',j,rfl⟩,A⟩:=d
   exact aw6.2 ⟨q',j,A⟩)]
 case gv sz zs n ps=>
  simp only [aZ]
  rw [iD (r:=r) (r':=r') (ps.map fun p=>(p.1*sz,sz,p.2)) _ fun p d=>h p (by
   simp only [aw6,av9]at d;obtain⟨q,⟨q',j,rfl⟩,A⟩:=d
   exact aw6.2 ⟨q',j,A⟩)]
 case kh f xs=>simp only [aZ];rw [fE h]
 case pick c a b=>
  simp only [aZ];rw [e c (by simp +contextual [cK.rd])]
  split
  ·rename_i v _;cases v<;>simp [e a (by simp +contextual [cK.rd]),e b (by simp +contextual [cK.rd])]
  ·rfl
 case slice sz x lo hi mx=>simp only [aZ];rw [e x (by simp +contextual [cK.rd]),g lo (by simp +contextual [cK.rd]),g hi (by simp +contextual [cK.rd]),g mx (by simp +contextual [cK.rd])]
 case ku n sz x lo hi mx=>simp only [aZ];rw [e x (by simp +contextual [cK.rd]),g lo (by simp +contextual [cK.rd]),g hi (by simp +contextual [cK.rd]),g mx (by simp +contextual [cK.rd])]
 case qG x lo hi=>simp only [aZ];rw [e x (by simp +contextual [cK.rd]),g lo (by simp +contextual [cK.rd]),g hi (by simp +contextual [cK.rd])]
 case jw E m k v=>simp only [aZ];rw [e m (by simp +contextual [cK.rd]),e k (by simp +contextual [cK.rd]),e v (by simp +contextual [cK.rd])]
 case bf x=>simp only [aZ];rw [e x (by simp +contextual [cK.rd])]
 case box x=>simp only [aZ];rw [e x (by simp +contextual [cK.rd])]
 case load n x=>simp only [aZ];rw [e x (by simp +contextual [cK.rd])]
 case bh x=>simp only [aZ];rw [e x (by simp +contextual [cK.rd])]
 case un o x=>simp only [aZ];rw [e x (by simp +contextual [cK.rd])]
 case ek k x=>simp only [aZ];rw [e x (by simp +contextual [cK.rd])]
 case zQ x=>simp only [aZ];rw [e x (by simp +contextual [cK.rd])]
 case wq x=>simp only [aZ];rw [e x (by simp +contextual [cK.rd])]
 case FU x=>simp only [aZ];rw [e x (by simp +contextual [cK.rd])]
 case aw o x=>simp only [aZ];rw [e x (by simp +contextual [cK.rd])]
 case field o n x=>simp only [aZ];rw [e x (by simp +contextual [cK.rd])]
 case range x=>simp only [aZ];rw [e x (by simp +contextual [cK.rd])]
 case next x=>simp only [aZ];rw [e x (by simp +contextual [cK.rd])]
 case extract x i=>simp only [aZ];rw [e x (by simp +contextual [cK.rd])]
 case len x=>simp only [aZ];rw [e x (by simp +contextual [cK.rd])]
 case lens x=>simp only [aZ];rw [e x (by simp +contextual [cK.rd])]
 case cap x=>simp only [aZ];rw [e x (by simp +contextual [cK.rd])]
 case entry x=>simp only [aZ];rw [e x (by simp +contextual [cK.rd])]
 case lu x=>simp only [aZ];rw [e x (by simp +contextual [cK.rd])]
 case pU x=>simp only [aZ];rw [e x (by simp +contextual [cK.rd])]
 case clear s z x=>simp only [aZ];rw [e x (by simp +contextual [cK.rd])]
 case mP lo xs=>simp only [aZ];rw [fE h]
 case wv f xs=>simp only [aZ];rw [fE h]
 case wN s x y z=>simp only [aZ];rw [e x (by simp +contextual [cK.rd]),e y (by simp +contextual [cK.rd]),e z (by simp +contextual [cK.rd])]
 case sZ s b z x y=>simp only [aZ];rw [e x (by simp +contextual [cK.rd]),e y (by simp +contextual [cK.rd])]
 case store n x y=>simp only [aZ];rw [e x (by simp +contextual [cK.rd]),e y (by simp +contextual [cK.rd])]
 case bin o x y=>simp only [aZ];rw [e x (by simp +contextual [cK.rd]),e y (by simp +contextual [cK.rd])]
 case eq n k x y=>simp only [aZ];rw [e x (by simp +contextual [cK.rd]),e y (by simp +contextual [cK.rd])]
 case aP s a x y=>simp only [aZ];rw [e x (by simp +contextual [cK.rd]),e y (by simp +contextual [cK.rd])]
 case idxs x y=>simp only [aZ];rw [e x (by simp +contextual [cK.rd]),e y (by simp +contextual [cK.rd])]
 case pK l s n x y=>simp only [aZ];rw [e x (by simp +contextual [cK.rd]),e y (by simp +contextual [cK.rd])]
 case append s b x y=>simp only [aZ];rw [e x (by simp +contextual [cK.rd]),e y (by simp +contextual [cK.rd])]
 case copy s x y=>simp only [aZ];rw [e x (by simp +contextual [cK.rd]),e y (by simp +contextual [cK.rd])]
 case lookup c z x y=>simp only [aZ];rw [e x (by simp +contextual [cK.rd]),e y (by simp +contextual [cK.rd])]
 case cP s b z x y=>simp only [aZ];rw [e x (by simp +contextual [cK.rd]),e y (by simp +contextual [cK.rd])]
 all_goals rfl
theorem I2{call:cE}{s:St}{r':T}{d:cK}(h:∀ p ∈ d.rd,s.au.get p=r'.get p){v:V}{s':St}(b:dZ call s d=some (v,s')):dZ call { s with au:=r' } d=some (v,{ s' with au:=r' }):=by
 by_cases g:(∃ f xs h,d=.call f xs h)∨(∃ x xs h,d=.bR x xs h)∨d=.recover∨∃ x xs,d=.defer x xs
 ·rcases g with⟨f,xs,u,rfl⟩ | ⟨x,xs,u,rfl⟩ | rfl | ⟨x,xs,rfl⟩
  ·simp only [dZ,IN,IS]at b ⊢;obtain⟨q,j,rfl,rfl⟩:=b;rw [fE h]at j;exact⟨q,j,rfl,rfl⟩
  ·simp only [dZ]at b ⊢;rw [jZ (x:=x) (r:=s.au) (r':=r') (fun p g=>h p (by simp [cK.rd,g])),fE (xs:=xs) (r:=s.au) (r':=r') (fun p g=>h p (by simp only [cK.rd,av1];exact .inr g))]at b
   split at b
   ·simp only [IN,IS]at b ⊢;obtain⟨q,j,rfl,rfl⟩:=b;exact⟨q,j,rfl,rfl⟩
   ·simp at b
  ·simp only [dZ,sh,IS]at b ⊢;obtain⟨rfl,rfl⟩:=b;exact⟨rfl,rfl⟩
  ·simp only [dZ]at b ⊢;rw [jZ (x:=x) (r:=s.au) (r':=r') (fun p g=>h p (by simp [cK.rd,g])),fE (xs:=xs) (r:=s.au) (r':=r') (fun p g=>h p (by simp only [cK.rd,av1];exact .inr g))]at b
   split at b
   ·simp only [sh,IS]at b ⊢;obtain⟨rfl,rfl⟩:=b;exact⟨rfl,rfl⟩
   ·simp at b
 ·have l:(aZ s.au s.heap d).map (fun r=>(r.1,{ s with heap:=r.2 }))=some (v,s'):=by
   cases d<;>first | exact b | (exfalso;apply g;simp)
  have m:dZ call { s with au:=r' } d=(aZ r' s.heap d).map (fun r=>(r.1,{ s with au:=r',heap:=r.2 })):=by
   cases d<;>first | rfl | (exfalso;apply g;simp)
  rw [m,←G7 h];simp only [IN,IS]at l ⊢;obtain⟨q,j,rfl,rfl⟩:=l;exact⟨q,j,rfl,rfl⟩
theorem aiC{r:T}{b:cK}(d:cls b=.p)(H H':ai):aZ r H' b=(aZ r H b).map fun q=>(q.1,H'):=by
 cases b<;>simp only [cls,reduceCtorEq]at d<;>simp only [aZ]
 all_goals first
  | (simp [Function.comp_def];done)
  | (split<;>simp [Function.comp_def];done)
  | (split<;>(first | rfl | (split<;>rfl)))
end
section
theorem ez{H H':ai}(m:cS H H')(b:Nat):H[b]?=none∨(∃ cs l g,H[b]?=some (.box cs l)∧H'[b]?=some (.box cs g)) ∨
  (∃ s cs l g e st,H[b]?=some (.bE s cs l e st)∧H'[b]?=some (.bE s cs g e st))∨∃ aX,H[b]?=some aX∧H'[b]?=some aX:=by
 cases q:H[b]? with
 | none=>exact .inl rfl
 | some aX=>
  obtain⟨blk',d,j⟩:=m b _ q;cases aX<;>cases blk'<;>simp only [cV,reduceCtorEq]at j
  ·obtain⟨rfl,_⟩:=j;exact .inr (.inl ⟨_,_,_,rfl,d⟩)
  ·obtain⟨rfl,rfl,_,rfl,rfl⟩:=j;exact .inr (.inr (.inl ⟨_,_,_,_,_,_,rfl,d⟩))
  all_goals (rw [←j]at d;exact .inr (.inr (.inr ⟨_,rfl,d⟩)))
variable{H H':ai}
theorem CA(l:cS H H'){x:C}{cs:List C}(h:az H x=some cs):az H' x=some cs:=by
 cases x with
 | ptr b off q=>
  simp only [az]at h ⊢;rcases ez l b with e | ⟨cs,j,g,e,d⟩ | ⟨s,cs,j,g,m,st,e,d⟩ | ⟨aX,e,d⟩
  ·simp [e]at h
  ·rw [e]at h;rw [d];exact h
  ·rw [e]at h;rw [d];cases st<;>exact h
  ·rw [e]at h;rw [d];exact h
 | f x=>cases x<;>exact h
 | _=>simp [az]at h
theorem agI(g:cS H H'){n:Option Nat}{x:V}{v:V}(h:aQ H n x=some v):aQ H' n x=some v:=by
 cases x with
 | c x=>
  simp only [aQ,Option.bind_eq_some_iff]at h ⊢;obtain⟨cs,b,d⟩:=h
  exact⟨cs,CA g b,d⟩
 | _=>simp [aQ]at h
theorem yW(m:cS H H'){x:C}{n:Nat}(h:bA H x=some n):bA H' x=some n:=by
 cases x with
 | sl b o l c u sz=>
  simp only [bA]at h ⊢;rcases ez m b with e | ⟨cs,j,g,e,d⟩ | ⟨s,cs,j,g,q,st,e,d⟩ | ⟨aX,e,d⟩
  ·simp [e]at h
  all_goals (rw [e]at h;rw [d];exact h)
 | f x=>cases x<;>exact h
 | _=>simp [bA]at h
theorem DC(m:cS H H'){sz:Nat}{x:C}{cs:List C}(h:cH H sz x=some cs):cH H' sz x=some cs:=by
 cases x with
 | sl b o l c u s=>
  simp only [cH]at h ⊢;rcases ez m b with e | ⟨cs,j,g,e,d⟩ | ⟨s,cs,j,g,q,st,e,d⟩ | ⟨aX,e,d⟩
  ·simp [e]at h
  all_goals (rw [e]at h;rw [d];exact h)
 | f x=>cases x<;>exact h
 | _=>simp [cH]at h
theorem nz(q:cS H H'){k:Nr}{x:C}{b:Bool}(h:isNil H k x=some b):isNil H' k x=some b:=by
 cases k<;>cases x<;>first | exact h | (simp [isNil]at h;done) | skip
 case sl.sl j o l c v s=>
  simp only [isNil]at h ⊢;rcases ez q j with e | ⟨cs,m,g,e,d⟩ | ⟨s,cs,m,g,u,st,e,d⟩ | ⟨aX,e,d⟩
  ·simp [e]at h
  all_goals (rw [e]at h;rw [d];exact h)
 all_goals (rename_i y;cases y<;>exact h)
theorem aga(d:cS H H'){k:Nr}{x y:V}{b:Bool}(h:zW H k x y=some b):zW H' k x y=some b:=by
 unfold zW at h;split at h
 ·exact h
 ·exact h
 ·exact nz d h
 ·exact nz d h
 ·exact nz d h
 ·exact nz d h
 ·simp at h
theorem GX(l:cS H H'){sz:Nat}{x:V}{lo hi mx:Option V}{v:V}(h:eY H sz x lo hi mx=some v):eY H' sz x lo hi mx=some v:=by
 unfold eY at h;split at h
 ·exact h
 ·exact h
 ·exact h
 ·rename_i b o n cap q s;simp only [eY];rcases ez l b with e | ⟨cs,j,g,e,d⟩ | ⟨s,cs,j,g,m,st,e,d⟩ | ⟨aX,e,d⟩
  ·simp [e]at h
  all_goals (rw [e]at h;rw [d];exact h)
 ·simp at h
theorem GV(l:cS H H'){n sz:Nat}{x:V}{lo hi mx:Option V}{v:V}(h:ig H n sz x lo hi mx=some v):ig H' n sz x lo hi mx=some v:=by
 unfold ig at h;split at h
 ·rename_i b off q;simp only [ig];rcases ez l b with e | ⟨cs,j,g,e,d⟩ | ⟨s,cs,j,g,m,st,e,d⟩ | ⟨aX,e,d⟩
  ·simp [e]at h
  all_goals (rw [e]at h;rw [d];exact h)
 ·exact h
 ·simp at h
theorem CO(q:cS H H'){sz:Nat}{d:Option Nat}{x i:V}{v:V}(h:aG H sz d x i=some v):aG H' sz d x i=some v:=by
 unfold aG at h ⊢;split at h
 ·simp at h
 ·split at h
  ·rename_i hi;simp only [hi,if_true];split at h
   ·rename_i b o l c z s;split at h
    ·rename_i u;simp only [u,if_true];rcases ez q b with e | ⟨cs,m,j,e,g⟩ | ⟨s,cs,m,j,y,st,e,g⟩ | ⟨aX,e,g⟩
     ·simp [e]at h
     ·rw [e]at h;rw [g];exact h
     ·rw [e]at h;rw [g];cases st<;>exact h
     ·rw [e]at h;rw [g];exact h
    ·simp at h
   ·exact h
   ·exact h
   ·exact h
   ·simp at h
  ·simp at h
theorem CY(q:cS H H'){j:CK}{z:FC}{m k:V}{v:V}(h:fR H j z m k=some v):fR H' j z m k=some v:=by
 unfold fR at h;split at h
 ·exact h
 ·rename_i b k;simp only [fR];rcases ez q b with e | ⟨cs,l,g,e,d⟩ | ⟨s,cs,l,g,u,st,e,d⟩ | ⟨aX,e,d⟩
  ·simp [e]at h
  all_goals (rw [e]at h;rw [d];exact h)
 ·simp at h
theorem NQ(d:cS H H'){x v:V}(h:nU H x=some v):nU H' x=some v:=by
 cases x with
 | c x=>
  simp only [nU]at h ⊢;split at h
  ·rename_i n g;split at h
   ·rename_i cs b;rw [yW d g,DC d b];exact h
   ·simp at h
  ·simp at h
 | _=>simp [nU]at h
theorem OZ(m:cS H H'){x:C}{n:Nat}(h:lW H x=some n):lW H' x=some n:=by
 cases x with
 | sl b o l c u sz=>
  simp only [lW]at h ⊢;rcases ez m b with e | ⟨cs,j,g,e,d⟩ | ⟨s,cs,j,g,q,st,e,d⟩ | ⟨aX,e,d⟩
  ·simp [e]at h
  ·rw [e]at h;rw [d];exact h
  ·rw [e]at h;rw [d];cases st<;>exact h
  ·rw [e]at h;rw [d];exact h
 | f x=>cases x<;>exact h
 | _=>simp [lW]at h
theorem agP(l:cS H H'){b:Nat}{d:List (FC × C)}(h:H[b]?=some (.map d)):H'[b]?=some (.map d):=by
 obtain⟨blk',j,g⟩:=l b _ h;cases blk'<;>simp only [cV,reduceCtorEq,cU.map.injEq]at g;subst g;exact j
theorem agQ(l:cS H H'){b m s:Nat}{d:Bool}(h:H[b]?=some (.vV m s d)):H'[b]?=some (.vV m s d):=by
 obtain⟨blk',j,g⟩:=l b _ h;cases blk'<;>simp only [cV,reduceCtorEq,cU.vV.injEq]at g;obtain⟨rfl,rfl,rfl⟩:=g;exact j
theorem FX(b:cS H H'){x v:V}(h:kL H x=some v):kL H' x=some v:=by
 unfold kL at h;split at h
 ·split at h
  ·rename_i d;split at h
   ·rename_i g;simp only [kL,agQ b d,agP b g];exact h
   ·simp at h
  ·simp at h
 ·simp at h
theorem I3{r:T}{g:cK}(m:cls g=.r)(b:cS H H'){v:V}{l:ai}(h:aZ r H g=some (v,l)):l=H∧aZ r H' g=some (v,H'):=by
 cases g<;>first | (simp only [aZ,reduceCtorEq]at h;done) | (simp only [cls,reduceCtorEq]at m;done) | simp only [aZ]at h ⊢
 case len x=>
  split at h
  ·rename_i y s;split at h
   ·rename_i n j;simp only [sh,IS]at h;obtain⟨rfl,rfl⟩:=h;simp only [yW b j];simp
   ·simp at h
  ·simp at h
 case cap x=>
  split at h
  ·rename_i y s;split at h
   ·rename_i n j;simp only [sh,IS]at h;obtain⟨rfl,rfl⟩:=h;simp only [OZ b j];simp
   ·simp at h
  ·simp at h
 all_goals
  simp only [IN,IS]at h;obtain⟨q,d,rfl,rfl⟩:=h;refine⟨rfl,?_⟩
 case entry=>rw [FX b d];rfl
 case load=>rw [agI b d];rfl
 case eq=>rw [aga b d];rfl
 case slice=>rw [GX b d];rfl
 case ku=>rw [GV b d];rfl
 case aP=>rw [CO b d];rfl
 case lookup=>rw [CY b d];rfl
 case wq=>rw [NQ b d];rfl
theorem arA{r:T}{g:cK}(j:cls g=.a){v:V}{d:ai}(h:aZ r H g=some (v,d)):d=H∨∃ aX,d=H++[aX]:=by
 cases g<;>first | (simp only [cls,reduceCtorEq]at j;done) | simp only [aZ]at h
 case call=>simp at h
 case alloc zs=>simp only [sh,IS]at h;exact .inr ⟨_,h.2.symm⟩
 case jz=>simp only [sh,IS]at h;exact .inr ⟨_,h.2.symm⟩
 case box x=>
  split at h
  ·simp only [sh,IS]at h;exact .inr ⟨_,h.2.symm⟩
  ·simp at h
 case aO sz zs n ps=>
  split at h
  ·split at h
   ·simp only [sh,IS]at h;exact .inl h.2.symm
   ·simp at h
  ·simp only [IN,IS]at h;obtain⟨q,l,rfl,rfl⟩:=h;exact .inr ⟨_,rfl⟩
 case cP sz b zs x y=>
  split at h
  ·split at h
   ·split at h
    ·simp only [sh,IS]at h;exact .inl h.2.symm
    ·simp only [sh,IS]at h;exact .inr ⟨_,h.2.symm⟩
   ·simp at h
  ·simp at h
end
section
variable{Q:Program}{σ:Nat→FuncId}{X:Wd}
theorem HK(d:SR Q σ X)(m:X.B≤X.w.heap.size){n:Nat}{cs:List C}{g:Nat}(u:X.H[n]?=some (.box cs g))(hr:X.bU n=none){us:List Value}(h:A2 (CR σ X) cs us)(e:TypeId) :
  ∃ X',X'.w=X.w.alloc (.cells us.toArray e)∧X'.H=X.H∧SR Q σ X'∧Ext X.H.length X X'∧X'.bU n=some ⟨X.w.heap.size,0⟩∧X'.B≤X'.w.heap.size∧∀ b,b≠n→X'.bU b=X.bU b:=by
 obtain⟨j,l⟩:=SR.fill d m u hr (dz.alloc X.w (.cells us.toArray e)) 0 (fun v=>⟨us,ko (dz.alloc _ _),A2.ext' σ v h,fun i _ s=>by
  have:=d.fb _ _ s;simp at this⟩)
 exact⟨{ X with bU:=fun b=>if b=n then some ⟨X.w.heap.size,0⟩else X.bU b,w:=X.w.alloc (.cells us.toArray e) },rfl,rfl,j,l,by simp,by simp;omega,fun b q=>by simp [q]⟩
def Fw(Q:Program)(σ:Nat→FuncId)(X:Wd)(n:Nat)(v:V)(s:Sem Next)(e:Prop):Prop:=
 ∃ X' u,s.run Q X.w=.ok (.value u) X'.w∧ry Q σ X v X.H X' u∧(∀ b,b≠n→X'.bU b=X.bU b)∧(e→X'.bU=X.bU)
theorem CH(z:SR Q σ X)(y:X.B≤X.w.heap.size){n:Nat}{cs:List C}{j:Nat}(g:X.H[n]?=some (.box cs j))(hr:X.bU n=none){us:List Value}(h:A2 (CR σ X) cs us)(e:TypeId){s:Sem Next}{b:Prop}(A:¬ b)
  (B:s.run Q X.w=.ok (.value (.pointer (some ⟨X.w.heap.size,0,none⟩))) (X.w.alloc (.cells us.toArray e))):Fw Q σ X n (.c (.ptr n 0 0)) s b:=by
 obtain⟨X',l,d,m,q,u,v,x⟩:=HK z y g hr h e;refine⟨X',_,by rw [l];exact B,⟨d,m,?_,q,v⟩,x,fun h=>absurd h A⟩
 exact⟨_,u,by rw [d,g]⟩
theorem HL(B:SR Q σ X)(A:X.B≤X.w.heap.size){n:Nat}{cs:List C}{m:Nat}(j:X.H[n]?=some (.box cs m))(hr:X.bU n=none){us:List Value}(h:A2 (CR σ X) cs us)(e:TypeId){s:Sem Next}{l c sz:Nat}(b:l≤c){d:Prop}(E:¬ d)
  (F:s.run Q X.w=.ok (.value (.slice (some ⟨X.w.heap.size,0,none⟩) l c)) (X.w.alloc (.cells us.toArray e))):Fw Q σ X n (.c (.sl n 0 l c 0 sz)) s d:=by
 obtain⟨X',q,g,u,v,x,y,z⟩:=HK B A j hr h e;refine⟨X',_,by rw [q];exact F,⟨g,u,?_,v,y⟩,z,fun h=>absurd h E⟩
 simp only [VR,ik,CR,fy,g,j];exact⟨_,x,b,rfl⟩
theorem pJ{H b:ai}{cs:List C}(h:cS (H++[.box cs 0]) b):∃ g,b[H.length]?=some (.box cs g):=by
 obtain⟨blk',j,d⟩:=h H.length (.box cs 0) (by simp)
 cases blk'<;>simp only [cV,reduceCtorEq]at d;obtain⟨rfl,_⟩:=d;exact⟨_,j⟩
theorem DB{w':World}{o:Obj}(g:SR Q σ X)(d:dz X.w w' o)(q:X.B≤X.w.heap.size):∃ X':Wd,X'.w=w'∧X'.H=X.H∧SR Q σ X'∧Ext X.H.length X X'∧X'.B≤X'.w.heap.size∧X'.bU=X.bU:=by
 have j:Ext X.H.length X { X with w:=w' }:=Ext.one g X.H.length rfl (fun _ _=>Iff.rfl) (fun k m _=>d.DZ m)
  (fun L i h=>by rw [SR.rU g]at h;simp at h) (fun h=>absurd h (aw9 _)) (fun _ _ _=>rfl) (fun _ _=>rfl) (fun L h=>.inl ⟨L,h,rfl⟩) (by show _≤w'.heap.size;rw [d.size];omega) d.os d.tape d.output
 refine⟨{ X with w:=w' },rfl,rfl,SR.step Q σ g j X.H.length (fun _ _=>rfl) (fun _ _=>rfl) (fun b L _ l=>d.DZ (g.br b L l).2.1)
  (fun _ _ _ _ _ h=>h) (fun L h=>by change X.bU X.H.length=some L at h;rw [SR.rU g]at h;simp at h) (fun c i h=>?_),j,?_,rfl⟩
 ·have:=g.fb c i h;show c<w'.heap.size;rw [d.size];omega
 ·show X.B≤w'.heap.size;rw [d.size];omega
theorem agG(M:SR Q σ X)(L:X.B≤X.w.heap.size){a:Act}{au:T}(hR:RR σ X au a.tmps){o:Oper}{op:cK}(hc:cls op=.a)(d:dp Q σ o op=true){H H1:ai}{v:V}(h:aZ au H op=some (v,H1))
  (hH:cS H1 X.H) (hr:H1.length≠H.length→X.bU H.length=none):Fw Q σ X H.length v (execOp a.eval o) (H1.length=H.length):=by
 cases op<;>first | (simp only [cls,reduceCtorEq]at hc;done) | skip
 case call f xs h'=>simp [aZ]at h
 case alloc zs=>
  simp only [aZ,sh,IS]at h;obtain⟨rfl,rfl⟩:=h;obtain⟨fl,F⟩:=pJ hH;simp only [dp]at d;split at d
  ·rename_i t B;obtain⟨z,us,h1,K,h3,_⟩:=dY (σ:=σ) (X:=X) d X.w;refine CH M L F (hr (by simp)) h3 t (by simp) ?_
   simp only [execOp,B];refine dF ?_;simp [Instr.alloc,h1,newVar,newRow,K]
  ·simp at d
 case jz=>
  simp only [aZ,sh,IS]at h;obtain⟨rfl,rfl⟩:=h
  have F:X.H[H.length]?=some (.map []):=by
   obtain⟨blk',hb,hl⟩:=hH H.length (.map []) (by simp)
   cases blk'<;>simp only [cV,reduceCtorEq,cU.map.injEq]at hl;subst hl;exact hb
  simp only [dp]at d;split at d
  ·rename_i t B;have hr:=hr (by simp)
   obtain⟨h1,K⟩:=SR.fill M L F hr (dz.alloc X.w (.map #[] 0)) 0 (fun hx=>⟨[],(dz.alloc _ _).new,A2.nil,by simp⟩)
   refine⟨{ X with bU:=fun b=>if b=H.length then some ⟨X.w.heap.size,0⟩else X.bU b,w:=X.w.alloc (.map #[] 0) },.map (some X.w.heap.size),?_,⟨rfl,h1,⟨⟨X.w.heap.size,0⟩,by simp,⟨[],F⟩,rfl⟩,K,by show X.B≤_;simp;omega⟩,fun b hb=>by simp [hb],fun h=>by simp at h⟩
   simp [execOp,B,Instr.makeMap]
  ·simp at d
 case box x=>
  simp only [aZ]at h;split at h
  ·rename_i xs f_;simp only [sh,IS]at h;obtain⟨rfl,rfl⟩:=h;obtain⟨fl,F⟩:=pJ hH;simp only [dp]at d;split at d
   ·rename_i t y B;obtain⟨us,K,h3⟩:=po (bF hR d) f_;refine CH M L F (hr (by simp)) h3 t (by simp) ?_
    simp only [execOp,B];refine dF ?_;simp [Instr.box,newVar,newRow,K]
   ·simp at d
  ·simp at h
 case aO sz zs n ps=>
  simp only [dp]at d;split at d
  ·rename_i t n' qs B;simp only [If,beq_iff_eq,decide_eq_true_eq]at d;obtain⟨⟨⟨⟨rfl,s⟩,E⟩,j4⟩,hq⟩:=d;obtain⟨e,hu,E⟩:=gM E;simp only [If,decide_eq_true_eq]at E;obtain⟨⟨j,hz⟩,h_⟩:=E;obtain⟨z,us,W,Y,A,_⟩:=dY (σ:=σ) (X:=X) hz X.w;have I:us.length=sz:=by have:=A.len;simp at this;omega
   simp only [aZ]at h;split at h
   ·rename_i F;subst F;split at h
    ·rename_i b_;simp only [sh,IS]at h;obtain⟨rfl,rfl⟩:=h
     have U:qs.toList=[]:=by
      have:=(dV hq).len;simp only [List.isEmpty_iff]at b_;rw [b_]at this;exact api this.symm
     have U:qs=#[]:=by apply Array.ext';simpa using U
     obtain⟨X',h1,K,h3,h4,h5,h6⟩:=DB M (dz.alloc X.w (.cells #[] e)) L;refine⟨X',.slice (some ⟨X.w.heap.size,0,none⟩) 0 0,?_,⟨K,h3,cD.es _,h4,h5⟩,fun b _=>by rw [h6],fun _=>h6⟩
     rw [h1];simp only [execOp,B];refine dF ?_;simp [Instr.buildSlice,aR hu,cQ j,U,Instr.fill,newRow,show Array.range 0=(#[]:Array Nat) from rfl]
    ·simp at h
   ·rename_i F;simp only [IN,IS]at h;obtain⟨cs,d8,rfl,rfl⟩:=h;obtain⟨fl,O⟩:=pJ hH
    obtain⟨l7,h5,h6⟩:=nv (place:=fun i=>some (i*sz,sz)) (ps:=qs.toList) hR (qs:=ps.map fun p=>(p.1*sz,sz,p.2)) (A2.map ((dV hq).kC fun q p S=>by
     simp only [If,beq_iff_eq]at S
     exact⟨by rw [S.1],S.2⟩)) (ji A n') d8
    refine HL M L O (hr (by simp)) h6 e (aft _) (by simp) ?_
    simp only [execOp,B];refine dF ?_
    have d9:n'*sz≠0:=by
     intro Z;rcases axa.1 Z with Z | Z<;>omega
    have d6:=hV us n' (by omega)
    rw [I]at d6;simp only [Instr.buildSlice,Sem.run_bind,aR hu,cQ j,Result.andThen_ok,if_neg (show¬ n'*sz>2 ^ 24 by omega),Sem.run_ite,if_neg d9,W,Sem.run_pure,Y]
    simp only [Array.toList_map];rw [d6];simp [h5,newRow]
  ·simp at d
 case cP sz bytes zs x y=>
  simp only [dp]at d;split at d
  ·rename_i t x' y' B;simp only [If,decide_eq_true_eq]at d;obtain⟨⟨⟨hx,hy⟩,E⟩,j3⟩:=d;have hx:=bF hR hx;have hy:=bF hR hy;obtain⟨e,hu,E⟩:=gM E;simp only [If]at E;obtain⟨⟨j,d7⟩,hz⟩:=E;obtain⟨z,us,W,Y,A,k_,j8,j9⟩:=dY (σ:=σ) (X:=X) hz X.w;obtain⟨j7,a8,a_⟩:=AK d7 X.w;simp only [aZ]at h;split at h
   ·rename_i l c hl hc;obtain⟨kl,e_⟩:=iy hx hl;obtain⟨kc,g_⟩:=iy hy hc;split at h
    ·rename_i N;obtain⟨Z,j_,u,h_⟩:=N;unfold bI at u;simp only [If,decide_eq_true_eq]at u;have I:us.length=sz:=by have:=A.len;simp at this;omega
     have d5:=lJ (n:=l) Z (by omega)
     have c_:=lJ (n:=c) (by omega) (by omega)
     have i_:c.toNat*bytes≤2 ^ 48:=by
      have:c.toNat*bytes≤(2*c.toNat+768)*bytes:=awz _ (by omega)
      omega
     have s:¬ ((bytes:Int)*c>2 ^ 48):=by
      have e1:(bytes:Int)*c=((c.toNat*bytes:Nat):Int):=by
       rw [Int.natCast_mul,awP];congr 1;omega
      rw [e1];omega
     have c9:((Array.range (c.toNat*sz)).map fun i=>us.toArray[i % us.toArray.size]!)=(cF c.toNat us).toArray:=by
      have:=hV us c.toNat (by omega);rwa [I]at this
     have run:(execOp a.eval o).run Q X.w=.ok (.value (.slice (some ⟨X.w.heap.size,0,none⟩) l.toNat c.toNat)) (X.w.alloc (.cells (cF c.toNat us).toArray e)):=by
      simp only [execOp,B];refine dF ?_;rw [e_,g_];have b7:¬ c<0:=by omega
      have b9:¬ l<0:=by omega
      have J:¬ l>c:=by omega
      by_cases m:c.toNat*sz=0
      ·have d_:cF c.toNat us=[]:=api (by rw [kn,I];exact m)
       have g:((decide (c<0)||decide ((bytes:Int)*c>2 ^ 48))||decide (l<0)||decide (l>c))=false:=by rw [decide_eq_false b7,decide_eq_false b9,decide_eq_false J,decide_eq_false s];rfl
       simp only [Instr.makeSlice,Sem.run_bind,aR hu,asInt,asIntOf,Sem.run_pure,Result.andThen_ok,a8,a_,d5,c_,run_askRoom,cQ j];simp only [g,atN,if_false,Sem.run_ite,if_pos m,Sem.run_bind,Result.andThen_ok,Sem.run_pure,run_askRoom,cQ j,newRow,run_newObj];rw [m,d_,show(Array.map (fun x=>(#[]:Array Value)[x % (#[]:Array Value).size]!) (Array.range 0))=#[] from by simp [show Array.range 0=(#[]:Array Nat) from rfl]];rfl
      ·simp only [Instr.makeSlice,Sem.run_bind,aR hu,asInt,asIntOf,Sem.run_pure,Result.andThen_ok,a8,a_,d5,c_,run_askRoom,cQ j];have g:((decide (c<0)||decide ((bytes:Int)*c>2 ^ 48))||decide (l<0)||decide (l>c))=false:=by rw [decide_eq_false b7,decide_eq_false b9,decide_eq_false J,decide_eq_false s];rfl
       simp only [g,atN,if_false,Sem.run_ite,if_neg m,Sem.run_bind,W,Y,Result.andThen_ok,Sem.run_pure,run_askRoom,cQ j,c9,newRow,run_newObj];rfl
     split at h
     ·rename_i m;subst m;simp only [sh,IS]at h;obtain⟨rfl,rfl⟩:=h;have:l=0:=by omega
      subst this;obtain⟨X',g1,g2,g3,g4,g5,g6⟩:=DB M (dz.alloc X.w (.cells (cF (0:Int).toNat us).toArray e)) L;exact⟨X',_,by rw [g1];exact run,⟨g2,g3,cD.es _,g4,g5⟩,fun b _=>by rw [g6],fun _=>g6⟩
     ·simp only [sh,IS]at h;obtain⟨rfl,rfl⟩:=h;obtain⟨fl,O⟩:=pJ hH;exact HL M L O (hr (by simp)) (ji A c.toNat) e (by omega) (by simp) run
    ·simp at h
   ·simp at h
  ·simp at d
end
section
theorem Gh{b:List Nat}{o:Oper}{i:Nat}:(mN b o).testBit i=true↔∃ e ∈ o.after.toList,Region.binds .any e=true∧(e.on=i∨(b.getD e.on 0).testBit i=true):=by
 unfold mN
 have key:∀(l:List Edge) (s:Nat),(l.foldl (fun s e=>if Region.binds .any e then s ||| 2 ^ e.on ||| b.getD e.on 0 else s) s).testBit i=true ↔
   s.testBit i=true∨∃ e ∈ l,Region.binds .any e=true∧(e.on=i∨(b.getD e.on 0).testBit i=true):=by
  intro l
  induction l with
  | nil=>intro s;simp
  | cons e l g=>
   intro s;simp only [awF,g,awf,exists_eq_or_imp];by_cases d:Region.binds .any e=true
   ·simp only [d,if_true,Nat.testBit_or,Bool.or_eq_true,Nat.testBit_two_pow,decide_eq_true_eq,true_and,or_assoc]
   ·simp [d]
 rw [key];simp
theorem yv:∀(os:List Oper) (b:List Nat),(db os b).length=b.length+os.length
 | [],b=>by simp [db]
 | o::os,b=>by rw [db,yv];simp;omega
theorem rQ:∀(os:List Oper) (b:List Nat) (k:Nat),k<b.length→(db os b)[k]?=b[k]?
 | [],b,k,_=>rfl
 | o::os,b,k,h=>by
  rw [db,rQ os _ k (by simp;omega),AT h]
theorem yw:∀(os:List Oper) (b:List Nat) (t:Nat) (o:Oper),os[t]?=some o→(db os b)[b.length+t]?=some (mN ((db os b).take (b.length+t)) o)
 | [],b,t,o,h=>by simp at h
 | o'::os,b,0,o,h=>by
  simp only [awD,sh]at h;subst h;have g:∀ k,k<b.length→(db os (b++[mN b o']))[k]?=b[k]?:=fun k j=>by rw [rQ os _ k (by simp;omega),AT j]
  have d:(db os (b++[mN b o'])).take b.length=b:=by
   apply List.ext_getElem?;intro k;rw [av6];split
   ·rename_i j;exact g k j
   ·rename_i j;rw [aw4 (by omega)]
  rw [db,Nat.add_zero,d,rQ os _ _ (by simp)]
  simp
 | o'::os,b,t+1,o,h=>by
  simp only [aw1]at h;have:=yw os (b++[mN b o']) t o h;rw [db];rw [show b.length+(t+1)=(b++[mN b o']).length+t by simp;omega]
  exact this
theorem Hz{ops:List Oper}{i j:Nat}{o:Oper}(l:ops[j]?=some o) :
  A3 (db ops []) i j=true↔∃ e ∈ o.after.toList,Region.binds .any e=true∧(e.on=i∨(e.on<j∧A3 (db ops []) i e.on=true)):=by
 have h:=yw ops [] j o l;simp only [List.length_nil,awn]at h;unfold A3;rw [av8,h,Option.getD_some,Gh]
 have g:∀ k,((db ops []).take j).getD k 0=if k<j then(db ops []).getD k 0 else 0:=by
  intro k;simp only [av8,av6];split<;>simp
 constructor
 ·rintro⟨e,d,b,h⟩;refine⟨e,d,b,h.imp id fun h=>?_⟩
  rw [g]at h;split at h
  ·rename_i m;exact⟨m,h⟩
  ·simp at h
 ·rintro⟨e,d,b,h⟩;refine⟨e,d,b,h.imp id fun h=>?_⟩
  rw [g,if_pos h.1];exact h.2
def qZ(ops:List Oper)(D:Nat→Prop):Prop:=∀ j o,D j→ops[j]?=some o→∀ e ∈ o.after.toList,Region.binds .any e=true→D e.on
theorem qZ.below{ops:List Oper}{D:Nat→Prop}(h:qZ ops D){i:Nat}:∀(j:Nat),D j→A3 (db ops []) i j=true→D i:=by
 intro j
 induction j using Nat.strongRecOn with
 | ind j s=>
  intro m b
  cases ho:ops[j]? with
  | none=>
   exfalso;unfold Km.A3 at b;have:(db ops []).length≤j:=by rw [yv];simpa using awp.1 ho
   rw [av8,aw4 this]at b
   simp at b
  | some o=>
   obtain⟨e,l,g,d | ⟨d,q⟩⟩:=(Hz ho).1 b
   ·exact d▸h j o m ho e l g
   ·exact s e.on d (h j o m ho e l g) q
theorem qZ.ready{ops:List Oper}{D:Nat→Prop}(h:qZ ops D){i j:Nat}{o:Oper}(ho:ops[j]?=some o)(hr:∀ e ∈ o.after.toList,Region.binds .any e=true→D e.on)(m:A3 (db ops []) i j=true):D i:=by
 obtain⟨e,g,d,b | ⟨b,l⟩⟩:=(Hz ho).1 m
 ·exact b▸hr e g d
 ·exact h.below e.on (hr e g d) l
def HV(aos:List aH)(j:Nat):Prop:=∃ y,aos[j]?=some y∧cls y.op=.w
theorem mQ{aos:List aH}{j:Nat}:j ∈ nI aos↔HV aos j:=by
 unfold nI HV;rw [List.mem_filter,List.mem_range];constructor
 ·rintro⟨_,h⟩;split at h
  ·rename_i y b;exact⟨y,b,by simpa using h⟩
  ·simp at h
 ·rintro⟨y,b,d⟩;exact⟨(BY.1 b).1,by simp [b,d]⟩
theorem nk{g:Type}(p:g→Bool):∀(l:List g),(∀ k,k<(l.takeWhile p).length→∃ y,l[k]?=some y∧p y=true)∧((l.takeWhile p).length=l.length∨∃ y,l[(l.takeWhile p).length]?=some y∧p y=false)
 | []=>by simp
 | x::l=>by
  by_cases d:p x=true
  ·rw [List.takeWhile_cons_of_pos d];obtain⟨j,b⟩:=nk p l;refine⟨fun k m=>?_,?_⟩
   ·cases k with
    | zero=>exact⟨x,rfl,d⟩
    | succ k=>exact j k (by simpa using m)
   ·rcases b with b | b
    ·exact .inl (by simp [b])
    ·exact .inr (by simpa using b)
  ·rw [List.takeWhile_cons_of_neg d];exact⟨by simp,.inr ⟨x,rfl,by simpa using d⟩⟩
theorem oE{aos:List aH}{i:Nat}(hi:i≤aos.length):i≤phase aos i∧phase aos i≤aos.length∧(phase aos i=aos.length∨HV aos (phase aos i))∧∀ j,i≤j→j<phase aos i→¬ HV aos j:=by
 unfold phase;obtain⟨s,g⟩:=nk (fun y:aH=>decide (cls y.op≠.w)) (aos.drop i)
 have q:((aos.drop i).takeWhile fun y=>decide (cls y.op≠.w)).length≤(aos.drop i).length:=by
  rcases awj (aos.drop i).length ((aos.drop i).takeWhile fun y=>decide (cls y.op≠.w)).length with h | h
  ·obtain⟨y,b,_⟩:=s _ h;have:=(BY.1 b).1;omega
  ·exact h
 simp only [awt]at q g;refine⟨by omega,by omega,?_,fun j v u=>?_⟩
 ·rcases g with g | ⟨y,b,l⟩
  ·exact .inl (by omega)
  ·rw [avU]at b;exact .inr ⟨y,b,by simpa using l⟩
 ·obtain⟨y,b,l⟩:=s (j-i) (by omega)
  rw [avU,show i+(j-i)=j by omega]at b
  rintro⟨x,d,m⟩;rw [b]at d;cases d;simp [m]at l
structure Ord(ops:List Oper)(aos:List aH)(gL:List (Nat × Nat)):Prop where
 back:∀ j o,j<aos.length→ops[j]?=some o→∀ e ∈ o.after.toList,Region.binds .any e=true→e.on<j
 two:∀ i j x y,i<j→aos[i]?=some x→aos[j]?=some y→A3 (db ops []) i j=true∨(x.apart y=true∧(uC x y=true∨(j=kd (db ops []) aos∧cls x.op=.w)))
 ear:∀ y,aos[kd (db ops []) aos]?=some y→(∃ zs,y.op=.alloc zs)∧y.g=none∧∃ p,y.dst=some p∧∀ i z,aos[i]?=some z→p ∈ z.rd→∀ e,HV aos e→e<kd (db ops []) aos→A3 (db ops []) e i=true
 rd:∀ i x e,aos[i]?=some x→cls x.op=.r→HV aos e∨e=aos.length→H_ (db ops []) aos i e=true→e=phase aos i∨(i,e) ∈ gL
theorem OB{ops:List Oper}{aos:List aH}{gL:List (Nat × Nat)}(h:abf ops aos gL=true):Ord ops aos gL:=by
 simp only [abf,If]at h;obtain⟨⟨⟨A,B⟩,g⟩,E⟩:=h;refine⟨fun j o L N e b J=>?_,fun i j x y s m q=>?_,fun y q=>?_,fun i x e m K b M=>?_⟩
 ·rw [avP]at A
  have d:(o,j) ∈ ops.zip (List.range aos.length):=by
   refine List.mem_of_getElem? (i:=j) ?_;rw [List.getElem?_zip_eq_some];exact⟨N,by simp [L]⟩
  have:=A _ d;rw [avP]at this;simpa [J]using this e b
 ·rw [avP]at B;have:=B j (by simpa using (BY.1 q).1)
  rw [avP]at this;have:=this i (by simpa using s)
  rw [m,q]at this;simpa using this
 ·unfold HG at g;rw [q]at g;simp only [If,Option.isNone_iff_eq_none]at g;obtain⟨⟨I,F⟩,l⟩:=g;refine⟨?_,I,?_⟩
  ·split at F
   ·exact⟨_,by assumption⟩
   ·simp at F
  ·split at l
   ·rename_i p O;refine⟨p,O,fun i z H v e b u=>?_⟩
    rw [avP]at l;have:=l i (by simpa using (BY.1 H).1)
    rw [H]at this;simp only [Bool.or_eq_true,Bool.not_eq_true',List.contains_eq_mem,decide_eq_false_iff_not,avP]at this;rcases this with h | h
    ·exact absurd v h
    ·have:=h e (mQ.2 b);simpa [u]using this
   ·simp at l
 ·rw [avP]at E;have:=E i (by simpa using (BY.1 m).1)
  rw [m]at this;simp only [K,if_true]at this;rw [avP]at this
  have:=this e (by
   rw [av1];rcases b with b | b
   ·exact .inl (mQ.2 b)
   ·exact .inr (by simp [b]))
  simpa [M]using this
end
section
variable{Q:Program}{σ:Nat→FuncId}{X:Wd}{call:cE}
theorem Ext.len{X X':Wd}(h:Ext X.H.length X X'):X.H.length≤X'.H.length:=by
 rcases awj X'.H.length X.H.length with b | g
 ·obtain⟨blk',d,_⟩:=h.bN X'.H.length b _ (AI b);have:=(BY.1 d).1;omega
 ·exact g
theorem ze{s s':St}{b:cK}{v:V}(h:dZ call s b=some (v,s')):s'.au=s.au:=by
 have:=I2 (r':=s.au) (fun _ _=>rfl) h
 rw [show({ s with au:=s.au }:St)=s from rfl,h]at this
 simp only [sh,IS,true_and]at this;rw [this]
theorem G8{s s':St}{y:aH}(h:eR call s y=some s'):∃ v,s'.au=je s.au y.dst v:=by
 unfold eR at h;split at h
 ·split at h
  ·rename_i v d b;cases h;exact⟨v,by rw [ze b]⟩
  ·simp at h
 ·cases h;exact⟨_,rfl⟩
 ·simp at h
theorem vo{au:T}{d:Option P}{v:V}{p:P}:(je au d v).get p=if d=some p then v else au.get p:=by
 cases d with
 | none=>simp [je]
 | some q=>simp only [je,T.pI,sh]
theorem oN{s s':St}{y:aH}(g:cls y.op≠.w)(h:eR call s y=some s'):cS s.heap s'.heap∧s'.defs=s.defs:=by
 unfold eR at h;split at h
 ·split at h
  ·rename_i v z b;cases h;by_cases j:(∃ f xs h,y.op=.call f xs h)∨(∃ x xs h,y.op=.bR x xs h)∨y.op=.recover∨∃ x xs,y.op=.defer x xs
   ·rcases j with⟨f,xs,q,e⟩ | ⟨x,xs,q,e⟩ | e | ⟨x,xs,e⟩
    ·rw [e]at b g;cases q
     ·simp only [dZ,fW,atN,if_false,IN,IS]at b;obtain⟨⟨A,H'⟩,b,rfl,rfl⟩:=b;refine⟨?_,rfl⟩;unfold dQ at b;split at b
      ·simp at b
      ·split at b
       ·simp at b
       ·split at b
        ·simp at b
        ·simp only [sh,IS]at b
         show cS s.heap H'
         rw [←b.2];exact(nA _ _ _).ext
     ·exact absurd rfl g
    ·rw [e]at g;exact absurd rfl g
    ·rw [e]at g;exact absurd rfl g
    ·rw [e]at g;exact absurd rfl g
   ·have u:(aZ s.au s.heap y.op).map (fun r=>(r.1,{ s with heap:=r.2 }))=some (v,z):=by
     generalize y.op=l at b j;cases l<;>first | exact b | (exfalso;apply j;simp)
    simp only [IN,IS]at u;obtain⟨⟨A,H'⟩,m,rfl,rfl⟩:=u;clear b;have b:=m;clear m;refine⟨?_,rfl⟩
    show cS s.heap H'
    cases d:cls y.op with
    | p=>
     have:=aiC (r:=s.au) d s.heap s.heap;rw [b]at this;simp only [awg,sh,IS]at this
     rw [this.2];exact cS.refl _
    | r=>rw [(I3 d (cS.refl _) b).1];exact cS.refl _
    | a=>
     rcases arA d b with e | ⟨cs,e⟩
     ·rw [e];exact cS.refl _
     ·rw [e];exact cS.append _ _
    | c=>
     generalize y.op=l at b d
     cases l<;>first | (simp only [cls,reduceCtorEq]at d;done) | (simp [aZ]at b;done)
    | w=>exact absurd d g
  ·simp at h
 ·cases h;exact⟨cS.refl _,rfl⟩
 ·simp at h
def gF(au:T)(ps:List P):T:=ps.foldl (fun t p=>t.set p (au.get p)) .e
theorem vz(au:T)(ps:List P)(p:P):(gF au ps).get p=if p ∈ ps then au.get p else .top:=by
 have key:∀(ps:List P) (t:T),(ps.foldl (fun t p=>t.set p (au.get p)) t).get p=if p ∈ ps then au.get p else t.get p:=by
  intro ps
  induction ps with
  | nil=>intro t;simp
  | cons q ps g=>
   intro t;simp only [awF,g,T.pI,awf];by_cases b:p ∈ ps
   ·simp [b]
   ·by_cases d:q=p
    ·subst d;simp [b]
    ·have:¬ p=q:=fun e=>d e.symm
     simp [b,d,this]
 have:=key ps .e;unfold gF;rw [this];rfl
structure jr(Q:Program)(σ:Nat→FuncId)(call:cE)(n:Nat)(ops:Array Oper)(aos:List aH)(gL:List (Nat × Nat))(st:Nat→St):Prop where
 akS:ff (kg Q σ n ops) ops.toList aos=true
 ord:Ord ops.toList aos gL
 step:∀ i y,aos[i]?=some y→eR call (st i) y=some (st (i+1))
 asX:∀ i e y,(i,e) ∈ gL→aos[i]?=some y→wanted (st i).au y.g=some true→∃ v H1 H2,aZ (st i).au (st i).heap y.op=some (v,H1)∧aZ (st i).au (st e).heap y.op=some (v,H2)
structure jV(σ:Nat→FuncId)(X:Wd)(c:Nat)(zs:List FC):Prop where
 aX:∃ us t,X.w.heap[c]?=some (.cells us.toArray t (0,0))∧A2 (CR σ X) (zs.map .f) us
 b:X.B≤c
 xV:∀ b L,X.bU b=some L→L.c≠c
 f:∀ i,¬ X.F c i
theorem jV.lt{c:Nat}{zs:List FC}(h:jV σ X c zs):c<X.w.heap.size:=by
 obtain⟨us,t,b,_⟩:=h.aX;exact(Array.getElem?_eq_some_iff.1 b).1
theorem jV.ext{X X':Wd}(d:Ext X.H.length X X'){c:Nat}{zs:List FC}(h:jV σ X c zs):jV σ X' c zs:=by
 have j:=h.lt;obtain⟨us,t,m,q⟩:=h.aX;refine⟨⟨us,t,by rw [d.frame c j h.xV];exact m,A2.ext' σ d q⟩,by rw [d.B];exact h.b,fun b L s=>?_,fun i hi=>?_⟩
 ·rcases d.xV b L s with⟨b0,l,g1,g2⟩ | g1
  ·rw [←g2];exact h.xV b0 l g1
  ·omega
 ·rcases d.oZ c i hi with g | g | ⟨b,L,g1,g2⟩
  ·exact h.f i g
  ·omega
  ·exact h.xV b L g1 g2
theorem SR.assign(s:SR Q σ X){n c:Nat}{zs:List FC}{y:Nat}(j:jV σ X c zs)(x:X.H[n]?=some (.box (zs.map .f) y))(hr:X.bU n=none) :
  SR Q σ { X with bU:=fun b=>if b=n then some ⟨c,0⟩else X.bU b }∧oV X.H.length X { X with bU:=fun b=>if b=n then some ⟨c,0⟩else X.bU b }∧VR σ { X with bU:=fun b=>if b=n then some ⟨c,0⟩else X.bU b } (.c (.ptr n 0 0)) (.pointer (some ⟨c,0,none⟩)):=by
 have u:oV X.H.length X { X with bU:=fun b=>if b=n then some ⟨c,0⟩else X.bU b }:=by
  refine⟨fun _ _ h=>h,fun _ _ _=>rfl,fun b _ aX g=>⟨aX,g,?_⟩⟩
  have:∀ L,X.bU b=some L→(if b=n then some (⟨c,0⟩:Loc)else X.bU b)=some L:=fun L q=>by
   by_cases e:b=n
   ·subst e;rw [hr]at q;simp at q
   ·rw [if_neg e];exact q
  cases aX<;>simp only [true_and,and_self]<;>first | exact this | (exact .inl ⟨trivial,trivial,this⟩) | (exact⟨rfl,.inl ⟨rfl,rfl,this⟩⟩) | (exact .inl this) | simpa using this
 obtain⟨us,t,z,A⟩:=j.aX;refine⟨⟨fun b L g=>?_,fun b m L v g d hc=>?_,s.fb⟩,u,⟨⟨c,0⟩,by simp,by rw [x]⟩⟩
 ·by_cases e:b=n
  ·subst e;simp only [if_true,sh]at g;subst g;exact⟨j.b,j.lt,_,x,us,⟨t,(0,0),z,fun i _=>by simp⟩,A2.dB σ u A,fun i _=>j.f i⟩
  ·simp only [e,if_false]at g;obtain⟨g1,g2,aX,g3,g4⟩:=s.br b L g;exact⟨g1,g2,aX,g3,BR.pF Q σ u rfl (fun _ h=>h) g4⟩
 ·simp only at g d;by_cases e:b=n<;>by_cases l:m=n
  ·rw [e,l]
  ·rw [if_pos e]at g;rw [if_neg l]at d;cases g;exact absurd hc.symm (j.xV m v d)
  ·rw [if_neg e]at g;rw [if_pos l]at d;cases d;exact absurd hc (j.xV b L g)
  ·rw [if_neg e]at g;rw [if_neg l]at d;exact s.inj b m L v g d hc
abbrev eJ(ops:Array Oper)(aos:List aH):Nat:=kd (db ops.toList []) aos
def asR(σ:Nat→FuncId)(X0:Wd)(ops:Array Oper)(aos:List aH)(E:Nat)(X:Wd)(a:Act)(p:P)(K:Nat):Prop:=
 ∃ y zs c,K=eJ ops aos+1∧E≤eJ ops aos∧aos[eJ ops aos]?=some y∧y.dst=some p∧y.op=.alloc zs∧a.tmps.getD p.toNat undef=.pointer (some ⟨c,0,none⟩)∧X0.w.heap.size≤c∧jV σ X c zs
structure Inv(Q:Program)(σ:Nat→FuncId)(X0:Wd)(n:Nat)(ops:Array Oper)(aos:List aH)(st:Nat→St)(D:Nat→Prop)(E:Nat)(X:Wd)(a:Act):Prop where
 closed:qZ ops.toList D
 dlt:∀ j,D j→j<aos.length
 eN:E≤aos.length
 eW:E=aos.length∨HV aos E
 eD:¬ D E
 wD:∀ j,HV aos j→j<E→D j
 heap:X.H=(st E).heap
 ext:Ext X0.H.length X0 X
 sr:SR Q σ X
 b:X.B≤X.w.heap.size
 defs:eZ σ X (st E).defs a.defers
 size:n≤a.tmps.size
 ab6:∀ p,∃ K,K≤aos.length∧(VR σ X ((st K).au.get p) (a.tmps.getD p.toNat undef)∨asR σ X0 ops aos E X a p K)∧∀ j y,aos[j]?=some y→y.dst=some p→(j<K↔D j)
 xU:∀ j y,j<E→¬ D j→aos[j]?=some y→cls y.op=.a→(st (j+1)).heap.length≠(st j).heap.length→X.bU (st j).heap.length=none
section
variable{n:Nat}{ops:Array Oper}{aos:List aH}{gL:List (Nat × Nat)}{st:Nat→St}
theorem jr.lv(R:jr Q σ call n ops aos gL st){p:P}{lo:Nat}:∀(hi:Nat),lo≤hi→hi≤aos.length→(∀ j y,lo≤j→j<hi→aos[j]?=some y→y.dst≠some p)→(st lo).au.get p=(st hi).au.get p
 | 0,h,_,_=>by rw [Nat.le_zero.1 h]
 | hi+1,h,q,d=>by
  rcases awj hi lo with b | b
  ·rw [show lo=hi+1 by omega]
  ·rw [jr.lv R hi b (by omega) fun j y g m=>d j y g (by omega)]
   have hy:=AI (show hi<aos.length by omega)
   obtain⟨v,l⟩:=G8 (R.step hi _ hy);rw [l,vo,if_neg (d hi _ b (by omega) hy)]
theorem jr.cO(R:jr Q σ call n ops aos gL st){lo:Nat}:∀(hi:Nat),lo≤hi→hi≤aos.length→(∀ j,lo≤j→j<hi→¬ HV aos j)→cS (st lo).heap (st hi).heap∧(st hi).defs=(st lo).defs
 | 0,h,_,_=>by rw [Nat.le_zero.1 h];exact⟨cS.refl _,rfl⟩
 | hi+1,h,s,d=>by
  rcases awj hi lo with b | b
  ·rw [show lo=hi+1 by omega];exact⟨cS.refl _,rfl⟩
  ·obtain⟨g1,g2⟩:=jr.cO R hi b (by omega) fun j g q=>d j g (by omega)
   have hy:=AI (show hi<aos.length by omega)
   obtain⟨l,m⟩:=oN (fun hc=>d hi b (by omega) ⟨_,hy,hc⟩) (R.step hi _ hy)
   exact⟨g1.trans l,m.trans g2⟩
theorem jr.at(R:jr Q σ call n ops aos gL st){i:Nat}{y:aH}(hy:aos[i]?=some y):∃ o,ops[i]?=some o∧kg Q σ n ops o y=true:=by
 have:=dV R.akS;have hi:i<ops.toList.length:=by rw [this.len];exact(BY.1 hy).1
 have b:=AI hi;refine⟨ops.toList[i],by rw [←Array.getElem?_toList];exact b,this.2 i _ _ b hy⟩
theorem jr.before(R:jr Q σ call n ops aos gL st){i j:Nat}{x y:aH}(g:i<j)(q:aos[i]?=some x)(hy:aos[j]?=some y)(h:x.apart y=false∨(uC x y=false∧(j=eJ ops aos→cls x.op≠.w))):A3 (db ops.toList []) i j=true:=by
 rcases R.ord.two i j x y g q hy with d | ⟨d,b⟩
 ·exact d
 ·rcases h with h | ⟨h,l⟩
  ·rw [d]at h;simp at h
  ·rcases b with b | ⟨b,m⟩
   ·rw [b]at h;simp at h
   ·exact absurd m (l b)
theorem Ext.assign{X0 g:Wd}(h:Ext X0.H.length X0 g){n c:Nat}(j:oV g.H.length g { g with bU:=fun b=>if b=n then some ⟨c,0⟩else g.bU b })(hc:X0.w.heap.size≤c):Ext X0.H.length X0 { g with bU:=fun b=>if b=n then some ⟨c,0⟩else g.bU b } where
 B:=h.B
 F:=h.F
 oZ:=h.oZ
 fw:=h.fw
 bN:=fun b d=>(h.bN b d).trans (j.bN b (awr d h.len))
 xV:=fun b L d=>by
  simp only at d;by_cases e:b=n
  ·rw [if_pos e]at d;cases d;exact .inr hc
  ·rw [if_neg e]at d;exact h.xV b L d
 size:=h.size
 os:=h.os
 tape:=h.tape
 output:=h.output
 frame:=h.frame
theorem jr.aau(R:jr Q σ call n ops aos gL st){y:aH}(hy:aos[eJ ops aos]?=some y):cls y.op=.a:=by
 obtain⟨⟨zs,h⟩,_⟩:=R.ord.ear y hy;rw [h];rfl
theorem Z6{x y:aH}{p:P}(h:x.dst=some p)(b:p ∈ y.rd):x.apart y=false:=by
 simp [aH.apart,h,b]
theorem Cp{x y:aH}{p:P}(h:x.dst=some p)(b:y.dst=some p):x.apart y=false:=by
 simp [aH.apart,h,b]
theorem Z5{x y:aH}{p:P}(h:p ∈ x.rd)(b:y.dst=some p):x.apart y=false:=by
 simp [aH.apart,h,b]
structure jq(ops:Array Oper)(aos:List aH)(D:Nat→Prop)(i:Nat)(o:Oper)(y:aH):Prop where
 ho:ops[i]?=some o
 hy:aos[i]?=some y
 hD:¬ D i
 pre:∀ e ∈ o.after.toList,Region.binds .any e=true→D e.on
variable{X0:Wd}{D:Nat→Prop}{E i:Nat}{a:Act}{o:Oper}{y:aH}
theorem jq.oA(b:Inv Q σ X0 n ops aos st D E X a)(hr:jq ops aos D i o y){j:Nat}(h:A3 (db ops.toList []) j i=true):D j:=
 b.closed.ready (by simpa using hr.ho) hr.pre h
theorem jq.pW(b:Inv Q σ X0 n ops aos st D E X a)(hr:jq ops aos D i o y){j:Nat}(h:A3 (db ops.toList []) i j=true):¬ D j:=
 fun d=>hr.hD (b.closed.below j d h)
theorem jr.reads(R:jr Q σ call n ops aos gL st)(l:Inv Q σ X0 n ops aos st D E X a)(hr:jq ops aos D i o y){p:P}(B:p ∈ y.rd):VR σ X ((st i).au.get p) (a.tmps.getD p.toNat undef):=by
 obtain⟨K,L,m,I⟩:=l.ab6 p;have hi:i<aos.length:=(BY.1 hr.hy).1
 have m:VR σ X ((st K).au.get p) (a.tmps.getD p.toNat undef):=by
  rcases m with m | ⟨z,zs,c,_,S,b,d,_⟩
  ·exact m
  ·exfalso;obtain⟨_,_,U,v,g⟩:=R.ord.ear z b;rw [d]at v;cases v;have M:=(BY.1 b).1;rcases l.eW with O | u
   ·omega
   ·have N:E≠eJ ops aos:=by
     intro e;obtain⟨q,H,x⟩:=u;rw [e]at H;rw [R.aau H]at x;cases x
    exact l.eD (hr.oA l (g i y hr.hy B E u (show E<eJ ops aos by omega)))
 rcases Nat.le_total K i with h | h
 ·rw [←R.lv i h (by omega) fun j z J A b d=>?_]
  ·exact m
  ·have:=hr.oA l (R.before A b hr.hy (.inl (Z6 d B)));have:=(I j z b d).2 this;omega
 ·rw [R.lv K h L fun j z J A b d=>?_]
  ·exact m
  ·have s:=(I j z b d).1 A;rcases awj i j with F | F
   ·exact hr.pW l (R.before F hr.hy b (.inl (Z5 B d))) s
   ·have:j=i:=by omega
    subst this;exact hr.hD s
theorem jr.fin(R:jr Q σ call n ops aos gL st)(B:Inv Q σ X0 n ops aos st D E X a)(hr:jq ops aos D i o y){l:Wd}{a1:Act}{u:Value}{v:V}{m:Nat}(hS:SR Q σ l)(hB:l.B≤l.w.heap.size)(b7:Ext X0.H.length X0 l)
  (hm:∀ v u,VR σ X v u→VR σ l v u) (a_:∀ y zs c p,E≤eJ ops aos→aos[eJ ops aos]?=some y→y.op=.alloc zs→y.dst=some p→D (eJ ops aos)→a.tmps.getD p.toNat undef=.pointer (some ⟨c,0,none⟩)→X0.w.heap.size≤c→jV σ X c zs→if m≤eJ ops aos then jV σ l c zs else VR σ l ((st (eJ ops aos+1)).au.get p) (.pointer (some ⟨c,0,none⟩)))
  (hv:VR σ l v u∨(i=eJ ops aos∧m≤eJ ops aos∧∃ zs c,y.op=.alloc zs∧u=.pointer (some ⟨c,0,none⟩)∧X0.w.heap.size≤c∧jV σ l c zs))
  (ht:a1.tmps=(a.put o.dst u).tmps) (S:(st (i+1)).au=je (st i).au y.dst v) (h1:m≤aos.length) (h2:m=aos.length∨HV aos m) (h3:¬ (D m∨m=i)) (h4:∀ j,HV aos j→j<m→D j∨j=i)
  (hH:l.H=(st m).heap) (hd:eZ σ l (st m).defs a1.defers)
  (hh:∀ j y,j<m→¬ (D j∨j=i)→aos[j]?=some y→cls y.op=.a→(st (j+1)).heap.length≠(st j).heap.length→l.bU (st j).heap.length=none) :
  Inv Q σ X0 n ops aos st (fun j=>D j∨j=i) m l a1:=by
 have hi:i<aos.length:=(BY.1 hr.hy).1;obtain⟨o',O,x⟩:=R.at hr.hy;rw [hr.ho]at O;cases O;have O':(a.put o.dst u).tmps.size=a.tmps.size:=by cases o.dst<;>simp [Act.put]
 refine⟨fun j oj N A e he hb=>?_,fun j N=>N.elim (B.dlt j) fun h=>h▸hi,h1,h2,h3,h4,hH,b7,hS,hB,hd,by rw [ht,O'];exact B.size,fun p=>?_,hh⟩
 ·rcases N with N | rfl
  ·exact .inl (B.closed j oj N A e he hb)
  ·have:oj=o:=by have:=hr.ho;simp at A;rw [this]at A;cases A;rfl
   subst this;exact .inl (hr.pre e he hb)
 ·by_cases b:y.dst=some p
  ·have q:a1.tmps.getD p.toNat undef=u:=by
    rw [ht];simp only [kg,If]at x;have g:=x.1.2;rw [b]at g;split at g
    ·rename_i d p' J I;simp only [If,beq_iff_eq,decide_eq_true_eq]at g;cases I;have Z:d<a.tmps.size:=awr g.2 B.size;rw [J,g.1];simp only [Act.put];simp [Z]
    ·rename_i I;simp at I
    ·simp at g
   refine⟨i+1,hi,?_,fun j z H s=>⟨fun h=>?_,fun h=>?_⟩⟩
   ·rcases hv with hv | ⟨M,Y,zs,c,g1,g2,g3,g4⟩
    ·left;rw [S,vo,if_pos b,q];exact hv
    ·right;exact⟨y,zs,c,by rw [M],Y,by rw [←M];exact hr.hy,b,g1,by rw [q];exact g2,g3,g4⟩
   ·rcases awj j i with L | L
    ·exact .inl (hr.oA B (R.before L H hr.hy (.inl (Cp s b))))
    ·exact .inr (by omega)
   ·rcases h with h | rfl
    ·rcases awj i j with L | L
     ·exact absurd h (hr.pW B (R.before L hr.hy H (.inl (Cp b s))))
     ·omega
    ·omega
  ·obtain⟨K,hK,F,hw⟩:=B.ab6 p
   have e:a1.tmps.getD p.toNat undef=a.tmps.getD p.toNat undef:=by
    rw [ht];simp only [kg,If]at x;have g:=x.1.2;split at g
    ·rename_i d p' J I;simp only [If,beq_iff_eq,decide_eq_true_eq]at g;have a8:d≠p.toNat:=fun e=>b (by rw [I,P.toNat_inj (g.1.trans e)])
     rw [J];simp [Act.put,Array.getD_eq_getD_getElem?,Array.getElem?_setIfInBounds_ne a8]
    ·rename_i J I;rw [J];rfl
    ·simp at g
   refine⟨K,hK,?_,fun j z H s=>?_⟩
   ·rcases F with F | ⟨z,zs,c,g1,g2,g3,g4,g5,U,g7,g8⟩
    ·left;rw [e];exact hm _ _ F
    ·have W:D (eJ ops aos):=(hw _ z g3 g4).1 (by omega)
     have:=a_ z zs c p g2 g3 g5 g4 W U g7 g8;split at this
     ·rename_i Y
      right;exact⟨z,zs,c,g1,Y,g3,g4,g5,by rw [e];exact U,g7,this⟩
     ·left;rw [e,U,g1];exact this
   ·rw [hw j z H s];exact⟨.inl,fun h=>h.elim id fun h=>absurd (by rw [h]at H;rw [hr.hy]at H;cases H;exact s) b⟩
end
end
section
variable{Q:Program}{σ:Nat→FuncId}{X:Wd}{call:cE}
variable{n:Nat}{ops:Array Oper}{aos:List aH}{gL:List (Nat × Nat)}{st:Nat→St}
variable{X0:Wd}{D:Nat→Prop}{E i:Nat}{a:Act}{o:Oper}{y:aH}
theorem px{x y:aH}(h:cls x.op=.w)(d:cls y.op≠.p)(b:cls y.op≠.r):uC x y=false:=by
 unfold uC;rw [h];cases g:cls y.op<;>simp_all
theorem uD{x y:aH}(h:cls y.op=.w)(d:cls x.op≠.p)(b:cls x.op≠.r):uC x y=false:=by
 unfold uC;rw [h];cases g:cls x.op<;>simp_all
theorem jr.vc(R:jr Q σ call n ops aos gL st){j:Nat}{z:aH}(b:aos[j]?=some z)(hc:cls z.op≠.a):j≠eJ ops aos:=by
 rintro rfl;exact hc (R.aau b)
theorem jr.amB(R:jr Q σ call n ops aos gL st)(b:Inv Q σ X0 n ops aos st D E X a)(hr:jq ops aos D i o y)(hc:cls y.op=.w):i=E:=by
 have hi:i<aos.length:=(BY.1 hr.hy).1;rcases av5 i E with h | h | h
 ·exact absurd (b.wD i ⟨y,hr.hy,hc⟩ h) hr.hD
 ·exact h
 ·rcases b.eW with j | ⟨z,g,d⟩
  ·omega
  ·exact absurd (hr.oA b (R.before h g hr.hy (.inr ⟨px d (by simp [hc]) (by simp [hc]),fun e=>absurd e (R.vc hr.hy (by simp [hc]))⟩))) b.eD
theorem jr.ZZ(R:jr Q σ call n ops aos gL st)(d:Inv Q σ X0 n ops aos st D E X a)(hr:jq ops aos D i o y)(q:cls y.op≠.p)(s:cls y.op≠.r)(u:cls y.op≠.w)(A:i=eJ ops aos→i<E):i<E∧∀ j,i≤j→j<E→¬ HV aos j:=by
 have hi:i<aos.length:=(BY.1 hr.hy).1;refine⟨?_,fun j B m v=>?_⟩
 ·rcases av5 i E with h | h | h
  ·exact h
  ·rcases d.eW with x | ⟨z,g,b⟩
   ·omega
   ·rw [←h,hr.hy]at g;cases g;exact absurd b u
  ·rcases d.eW with x | ⟨z,g,b⟩
   ·omega
   ·exact absurd (hr.oA d (R.before h g hr.hy (.inr ⟨px b q s,fun e=>by have:=A e;omega⟩))) d.eD
 ·have l:=d.wD j v m;obtain⟨z,g,b⟩:=v;rcases awj i j with h | h
  ·exact hr.pW d (R.before h hr.hy g (.inr ⟨uD b q s,fun _=>u⟩)) l
  ·have:j=i:=by omega
   subst this;exact hr.hD l
theorem jr.auh(R:jr Q σ call n ops aos gL st)(d:Inv Q σ X0 n ops aos st D E X a)(hr:jq ops aos D i o y)(hc:cls y.op=.r)(K:wanted (st i).au y.g=some true){v:V}{B:ai}(h:aZ (st i).au (st i).heap y.op=some (v,B)) :
  B=(st i).heap∧aZ (st i).au X.H y.op=some (v,X.H):=by
 have hi:i<aos.length:=(BY.1 hr.hy).1;refine⟨(I3 hc (cS.refl _) h).1,?_⟩
 have q:H_ (db ops.toList []) aos i E=true:=by
  unfold H_;rw [avP];intro j J;have l:=mQ.1 J;split
  ·rename_i m;have b:=d.wD j l m
   cases u:A3 (db ops.toList []) i j with
   | false=>rfl
   | true=>exact absurd b (hr.pW d u)
  ·rename_i m
   cases u:A3 (db ops.toList []) j i with
   | false=>rfl
   | true=>
    exfalso;have b:=hr.oA d u;rcases awj E j with F | F
    ·rcases d.eW with M | ⟨z,L,A⟩
     ·have:=d.dlt j b;omega
     ·obtain⟨O,s,g⟩:=l;exact d.eD (d.closed.below j b (R.before F L s (.inr ⟨px A (by simp [g]) (by simp [g]),fun e=>absurd e (R.vc s (by simp [g]))⟩)))
    ·have:j=E:=by omega
     subst this;exact d.eD b
 rw [d.heap];rcases R.ord.rd i y E hr.hy hc (d.eW.symm) q with x | x
 ·obtain⟨p1,_,_,p4⟩:=oE (aos:=aos) (i:=i) (by omega)
  rw [←x]at p1 p4;exact(I3 hc (R.cO E p1 d.eN p4).1 h).2
 ·obtain⟨N,H,I,g1,g2⟩:=R.asX i E y x hr.hy K;rw [h]at g1;cases g1;have:=(I3 hc (cS.refl _) g2).1;rw [this]at g2;exact g2
theorem jr.af3(R:jr Q σ call n ops aos gL st){z:aH}(d:aos[eJ ops aos]?=some z){zs:List FC}(b:z.op=.alloc zs){p:P}(g:z.dst=some p) :
  (st (eJ ops aos+1)).heap=(st (eJ ops aos)).heap++[.box (zs.map .f) 0]∧(st (eJ ops aos+1)).au.get p=.c (.ptr (st (eJ ops aos)).heap.length 0 0):=by
 obtain⟨_,hg,_⟩:=R.ord.ear z d;have h:=R.step _ z d;simp only [eR,hg,wanted,b,dZ,aZ,awg,sh]at h;rw [←h];exact⟨rfl,by rw [vo,if_pos g]⟩
theorem jr.Hy(R:jr Q σ call n ops aos gL st)(x:Inv Q σ X0 n ops aos st D E X a)(hr:jq ops aos D i o y)(hc:cls y.op=.w){d:Wd}{a1:Act}{u:Value}{v:V}(hS:SR Q σ d)(hB:d.B≤d.w.heap.size)(hx:Ext X.H.length X d)
  (hv:VR σ d v u) (ht:a1.tmps=(a.put o.dst u).tmps) (F:(st (i+1)).au=je (st i).au y.dst v) (hH:d.H=(st (i+1)).heap) (hd:eZ σ d (st (i+1)).defs a1.defers) :
  ∃ E' X2,X2.w=d.w∧Inv Q σ X0 n ops aos st (fun j=>D j∨j=i) E' X2 a1:=by
 have hi:i<aos.length:=(BY.1 hr.hy).1;have b7:=R.amB x hr hc;subst b7;obtain⟨p1,p2,p3,p4⟩:=oE (aos:=aos) (i:=i+1) (by omega)
 obtain⟨q1,q2⟩:=R.cO _ p1 p2 p4;rw [←hH]at q1;obtain⟨k1,Z⟩:=SR.ahead hS q1;have l:Ext X.H.length X { d with H:=(st (phase aos (i+1))).heap }:=hx.trans (Z.mono hx.len);have J:Ext X0.H.length X0 { d with H:=(st (phase aos (i+1))).heap }:=x.ext.trans (l.mono x.ext.len)
 have K:¬ (D (phase aos (i+1))∨phase aos (i+1)=i):=by
  rintro(h | h)
  ·rcases p3 with g | ⟨z,hz,m⟩
   ·have:=x.dlt _ h;omega
   ·exact hr.pW x (R.before p1 hr.hy hz (.inr ⟨px hc (by simp [m]) (by simp [m]),fun e=>absurd e (R.vc hz (by simp [m]))⟩)) h
  ·omega
 have N:∀ j,HV aos j→j<phase aos (i+1)→D j∨j=i:=by
  intro j U hj;rcases av5 j i with h | h | h
  ·exact .inl (x.wD j U h)
  ·exact .inr h
  ·exact absurd U (p4 j h hj)
 have S:eZ σ { d with H:=(st (phase aos (i+1))).heap } (st (phase aos (i+1))).defs a1.defers:=by rw [q2];exact hd.ext' Z
 have iJ:i≠eJ ops aos:=R.vc hr.hy (by simp [hc])
 have xU:∀ j z,j<phase aos (i+1)→¬ (D j∨j=i)→aos[j]?=some z→cls z.op=.a→(st (j+1)).heap.length≠(st j).heap.length→i<j∧d.bU (st j).heap.length=none:=by
  intro j z hj hD hz m B;rcases av5 j i with h | h | h
  ·exact absurd (.inl (hr.oA x (R.before h hz hr.hy (.inr ⟨uD hc (by simp [m]) (by simp [m]),fun e=>absurd e iJ⟩)))) hD
  ·exact absurd (.inr h) hD
  ·have I:=(R.cO j h (by omega) fun k g A=>p4 k g (by omega)).1.len
   rw [←hH]at I;refine⟨h,?_⟩
   cases q:d.bU (st j).heap.length with
   | none=>rfl
   | some L=>have:=SR.lt hS q;omega
 by_cases hP:∃ z zs c p,i≤eJ ops aos∧eJ ops aos<phase aos (i+1)∧aos[eJ ops aos]?=some z∧z.op=.alloc zs∧z.dst=some p∧D (eJ ops aos)∧a.tmps.getD p.toNat undef=.pointer (some ⟨c,0,none⟩)∧X0.w.heap.size≤c∧jV σ X c zs
 ·obtain⟨z,zs,c,p,g1,g2,g3,g4,g5,g6,g7,g8,g9⟩:=hP;obtain⟨s1,s2⟩:=R.af3 g3 g4 g5;have M:i<eJ ops aos:=by omega
  have b9:(st (i+1)).heap.length≤(st (eJ ops aos)).heap.length:=(R.cO _ M (by omega) fun k g A=>p4 k g (by omega)).1.len
  obtain⟨fl,O⟩:∃ fl,(st (phase aos (i+1))).heap[(st (eJ ops aos)).heap.length]?=some (.box (zs.map .f) fl):=by
   have W:=(R.cO (phase aos (i+1)) (show eJ ops aos+1≤_ by omega) p2 fun k g A=>p4 k (by omega) A).1
   rw [s1]at W;exact pJ W
  have b_:jV σ { d with H:=(st (phase aos (i+1))).heap } c zs:=g9.ext l
  have c9:d.bU (st (eJ ops aos)).heap.length=none:=by
   cases q:d.bU (st (eJ ops aos)).heap.length with
   | none=>rfl
   | some L=>have:=SR.lt hS q;rw [hH]at this;omega
  obtain⟨a8,s,a_⟩:=SR.assign k1 b_ O c9;refine⟨phase aos (i+1),{ d with H:=(st (phase aos (i+1))).heap,bU:=fun b=>if b=(st (eJ ops aos)).heap.length then some ⟨c,0⟩else d.bU b },rfl,R.fin x hr a8 hB (J.assign s g8) (fun v u h=>VR.dB σ s (VR.ext' σ l h)) ?_ (.inl (VR.dB σ s (VR.ext' σ Z hv))) ht F p2 p3 K N rfl (eZ.dB s S) ?_⟩
  ·intro z' c_ c' p' _ e2 _ e4 _ e6 _ _;rw [g3]at e2;cases e2;rw [g5]at e4;cases e4;rw [g7]at e6;simp only [Value.pointer.injEq,sh,Addr.mk.injEq,true_and,and_true]at e6;subst e6;rw [if_neg (by omega),s2]
   exact a_
  ·intro j w hj hD hw Y B;obtain⟨f1,f2⟩:=xU j w hj hD hw Y B
   show(if(st j).heap.length=(st (eJ ops aos)).heap.length then some (⟨c,0⟩:Loc)else d.bU (st j).heap.length)=none
   rw [if_neg,f2];intro e;rcases av5 j (eJ ops aos)with h | h | h
   ·have g:=(R.cO (lo:=j+1) (eJ ops aos) h (by omega) fun k g A=>p4 k (by omega) (by omega)).1.len
    have A:=(oN (by simp [Y]) (R.step j w hw)).1.len
    clear J l k1 Z;omega
   ·exact hD (.inl (by rw [h];exact g6))
   ·have g:=(R.cO (lo:=eJ ops aos+1) j h (by omega) fun k g A=>p4 k (by omega) (by omega)).1.len
    rw [s1,avR]at g;simp only [List.length_cons,List.length_nil]at g;omega
 ·refine⟨phase aos (i+1),{ d with H:=(st (phase aos (i+1))).heap },rfl,R.fin x hr k1 hB J (fun v u h=>VR.ext' σ l h) ?_ (.inl (VR.ext' σ Z hv)) ht F p2 p3 K N rfl S (fun j z g A h3 h4 h5=>(xU j z g A h3 h4 h5).2)⟩
  intro z zs c p g1 g2 g3 g4 g5 g6 g7 g8;by_cases I:phase aos (i+1)≤eJ ops aos
  ·rw [if_pos I];exact g8.ext l
  ·exact absurd ⟨z,zs,c,p,g1,by omega,g2,g3,g4,g5,g6,g7,g8⟩ hP
theorem jr.nr(R:jr Q σ call n ops aos gL st)(d:Inv Q σ X0 n ops aos st D E X a)(hr:jq ops aos D i o y)(hc:cls y.op≠.w){b:Wd}{a1:Act}{u:Value}{v:V}(H:SR Q σ b)(B:b.B≤b.w.heap.size)(l:Ext X.H.length X b)
  (L:VR σ b v u∨(i=eJ ops aos∧E≤eJ ops aos∧∃ zs c,y.op=.alloc zs∧u=.pointer (some ⟨c,0,none⟩)∧X0.w.heap.size≤c∧jV σ b c zs)) (K:a1.tmps=(a.put o.dst u).tmps) (g:(st (i+1)).au=je (st i).au y.dst v) (F:b.H=X.H) (I:eZ σ b (st E).defs a1.defers)
  (J:∀ j z,j<E→¬ (D j∨j=i)→aos[j]?=some z→cls z.op=.a→(st (j+1)).heap.length≠(st j).heap.length→b.bU (st j).heap.length=none) :
  Inv Q σ X0 n ops aos st (fun j=>D j∨j=i) E b a1:=by
 refine R.fin d hr H B (d.ext.trans (l.mono d.ext.len)) (fun v u h=>VR.ext' σ l h) (fun z zs c p g1 _ _ _ _ _ _ x=>by rw [if_pos g1];exact x.ext l) L K g d.eN d.eW ?_ (fun j q A=>.inl (d.wD j q A)) (F.trans d.heap) I J
 rintro(h | h)
 ·exact d.eD h
 ·have hi:i<aos.length:=(BY.1 hr.hy).1;rcases d.eW with q | ⟨z,s,m⟩
  ·omega
  ·rw [h,hr.hy]at s;cases s;exact hc m
theorem jr.gG(s:Inv Q σ X0 n ops aos st D E X a){b:Wd}(h:b.bU=X.bU):∀ j z,j<E→¬ (D j∨j=i)→aos[j]?=some z→cls z.op=.a→(st (j+1)).heap.length≠(st j).heap.length→b.bU (st j).heap.length=none:=
 fun j z d g l m q=>by rw [h];exact s.xU j z d (fun h=>g (.inl h)) l m q
theorem jr.Gt(R:jr Q σ call n ops aos gL st)(q:Inv Q σ X0 n ops aos st D E X a)(hr:jq ops aos D i o y)(hc:cls y.op=.a)(J:i=eJ ops aos→i<E)(m:(st (i+1)).heap.length≠(st i).heap.length){j:Nat}{z:aH}(M:j<E)(hD:¬ (D j∨j=i))(F:aos[j]?=some z)(d:cls z.op=.a)
  (g:(st (j+1)).heap.length≠(st j).heap.length):(st j).heap.length≠(st i).heap.length:=by
 have hi:i<aos.length:=(BY.1 hr.hy).1;obtain⟨g1,g2⟩:=R.ZZ q hr (by simp [hc]) (by simp [hc]) (by simp [hc]) J
 have L:∀ k,j≤k→k<E→¬ HV aos k:=by
  intro k B u s;have l:=q.wD k s u;obtain⟨w,v,x⟩:=s;rcases awj j k with h | h
  ·exact hD (.inl (q.closed.below k l (R.before h F v (.inr ⟨uD x (by simp [d]) (by simp [d]),fun _=>by simp [d]⟩))))
  ·have:k=j:=by omega
   subst this;exact hD (.inl l)
 have b:∀ k w,aos[k]?=some w→cls w.op=.a→(st (k+1)).heap.length≠(st k).heap.length→(st k).heap.length<(st (k+1)).heap.length:=by
  intro k w s A K;have:=(oN (by simp [A]) (R.step k w s)).1.len
  omega
 rcases av5 j i with h | h | h
 ·have B:=b j z F d g;have u:(st (j+1)).heap.length≤(st i).heap.length:=(R.cO i h (by omega) fun k H I=>L k (by omega) (by omega)).1.len
  omega
 ·exact absurd (.inr h) hD
 ·have B:=b i y hr.hy hc m;have u:(st (i+1)).heap.length≤(st j).heap.length:=(R.cO j h (by have:=q.eN;omega) fun k H I=>g2 k (by omega) (by omega)).1.len
  omega
end
section
variable{Q:Program}{σ:Nat→FuncId}{X:Wd}{call:cE}
variable{n:Nat}{ops:Array Oper}{aos:List aH}{gL:List (Nat × Nat)}{st:Nat→St}
variable{X0:Wd}{D:Nat→Prop}{E i:Nat}{a:Act}{o:Oper}{y:aH}
theorem GQ{w':World}{ob:Obj}(g:SR Q σ X)(d:dz X.w w' ob):SR Q σ { X with w:=w' }∧Ext X.H.length X { X with w:=w' }:=by
 have j:Ext X.H.length X { X with w:=w' }:=Ext.one g X.H.length rfl (fun _ _=>Iff.rfl) (fun k m _=>d.DZ m)
  (fun L i h=>by rw [SR.rU g]at h;simp at h) (fun h=>absurd h (aw9 _)) (fun _ _ _=>rfl) (fun _ _=>rfl) (fun L h=>.inl ⟨L,h,rfl⟩) (by show _≤w'.heap.size;rw [d.size];omega) d.os d.tape d.output
 refine⟨SR.step Q σ g j X.H.length (fun _ _=>rfl) (fun _ _=>rfl) (fun b L _ l=>d.DZ (g.br b L l).2.1)
  (fun _ _ _ _ _ h=>h) (fun L h=>by change X.bU X.H.length=some L at h;rw [SR.rU g]at h;simp at h) (fun c i h=>?_),j⟩
 have:=g.fb c i h;show c<w'.heap.size;rw [d.size];omega
theorem abe{y:aH}{p:P}(h:p ∈ y.op.rd):p ∈ y.rd:=by unfold aH.rd;exact av1.2 (.inr h)
theorem HQ{y:aH}{p:P}{w:Bool}(h:y.g=some (p,w)):p ∈ y.rd:=by unfold aH.rd;rw [h];simp
theorem jr.ah5(hC:ei Q σ call)(R:jr Q σ call n ops aos gL st)(d:Inv Q σ X0 n ops aos st D E X a)(hr:jq ops aos D i o y){b:Frame}{rest:List Nat}{k:List Item}{cs:List Frame}(hk:iC b cs)(j_:fV y.op b) :
  ∃ E' X' a',Steps Q (lone (b.atR a (.inRegion ops (i::rest)::k)) cs X.w) (lone (b.atR a' (.inRegion ops rest::k)) cs X'.w)∧Inv Q σ X0 n ops aos st (fun j=>D j∨j=i) E' X' a'∧a'.tmps.size=a.tmps.size:=by
 have hi:i<aos.length:=(BY.1 hr.hy).1;obtain⟨o',d9,hm⟩:=R.at hr.hy;rw [hr.ho]at d9;cases d9;have g:=R.step i y hr.hy;have O:∀ p ∈ y.rd,VR σ X ((st i).au.get p) (a.tmps.getD p.toNat undef):=fun p hp=>R.reads d hr hp
 have l:dp Q σ o y.op=true:=by simp only [kg,If]at hm;exact hm.1.1
 have J:∀ u,(a.put o.dst u).tmps.size=a.tmps.size:=fun u=>by cases o.dst<;>simp [Act.put]
 have I:∀(a:Act) u,(a.put o.dst u).defers=a.defers:=fun a u=>by cases o.dst<;>rfl
 have h_:∀(a a':Act) u,a'.tmps=a.tmps→(a'.put o.dst u).tmps=(a.put o.dst u).tmps:=fun a a' u h=>by cases o.dst<;>simp [Act.put,h]
 unfold eR at g;split at g
 ·rename_i c9;have hw:=nJ hm (au:=(st i).au) (tmps:=a.tmps) (X:=X) (fun p w' hg=>O p (HQ hg)) d.size c9
  split at g
  ·rename_i v s1 h1;simp only [sh]at g;have A:(st (i+1)).au=je (st i).au y.dst v:=by rw [←g,←ze h1]
   have q:(st (i+1)).heap=s1.heap:=by rw [←g]
   have M:(st (i+1)).defs=s1.defs:=by rw [←g]
   have B:∀ p ∈ y.op.rd,(st i).au.get p=(gF (st i).au y.op.rd).get p:=fun p hp=>by rw [vz,if_pos hp]
   have Y:RR σ X (gF (st i).au y.op.rd) a.tmps:=fun p=>by
    rw [vz];split
    ·rename_i hp;exact O p (abe hp)
    ·trivial
   have K:=I2 B h1;by_cases m:cls y.op=.w
   ·have a8:=R.amB d hr m;obtain⟨g1,g2⟩:=I1 hC d.sr d.b (s:={ st i with au:=gF (st i).au y.op.rd }) (by rw [d.heap,←a8]) Y (by rw [a8];exact d.defs) l K
    obtain⟨X1,u,a1,k1,⟨k2,k3,k4,k5,k6⟩,k7,k8⟩:=g1 b ops i rest k cs hr.ho hw hk j_;obtain⟨E',X2,q1,q2⟩:=R.Hy d hr m (a1:=a1.put o.dst u) k3 k6 k5 k4 (h_ a a1 u k7) A (by rw [k2,q]) (by rw [M,I];exact k8)
    exact⟨E',X2,a1.put o.dst u,by rw [q1];exact k1,q2,by rw [h_ a a1 u k7,J]⟩
   ·
    have j9:∀ c,o.op≠.defer c:=pR l (fun x xs e=>m (by rw [e];rfl)) (fun e=>by rw [e]at h1;simp [dZ,aZ]at h1)
    have one:∀ {u:Value} {w':World},(execOp a.eval o).run Q X.w=.ok (.value u) w'→Steps Q (lone (b.atR a (.inRegion ops (i::rest)::k)) cs X.w) (lone (b.atR (a.put o.dst u) (.inRegion ops rest::k)) cs w'):=by
     intro u w' a_;refine .one (step_lone_go ?_);rw [stepGR_op hr.ho hw,Oper.semAt_eq _ _ _ j9];have Z:=Frame.finish_atR b a ops i rest k u;rw [hr.ho]at Z;simp only [av3]at Z;rw [←Z];simp [stepG.apply,Sem.runT_eq,a_]
    by_cases F:cls y.op=.c
    ·
     obtain⟨f,xs,b_⟩:∃ f xs,y.op=.call f xs false:=by
      generalize y.op=op at F;cases op<;>first | (simp only [cls,reduceCtorEq]at F;done) | skip
      rename_i f xs hh;cases hh
      ·exact⟨f,xs,rfl⟩
      ·simp [cls]at F
     have H:=Y;rw [b_]at K l H;simp only [dZ,fW,atN,if_false,IN,IS]at K;obtain⟨⟨v',H'⟩,hp,rfl,e_⟩:=K
     have j8:H'=(st (i+1)).heap:=by
      rw [q];simp only [St.mk.injEq]at e_;exact e_.2.2
     obtain⟨g1,g2⟩:=R.ZZ d hr (by simp [F]) (by simp [F]) (by simp [F]) (fun e=>absurd e (R.vc hr.hy (by simp [F])))
     have d5:cS H' X.H:=by
      rw [j8,d.heap];exact(R.cO E g1 d.eN fun j h1 h2=>g2 j (by omega) h2).1
     obtain⟨X1,u,k1,⟨k2,k3,k4,k5,k6⟩,k7⟩:=zN hC d.sr d.b H l hp d5 b ops i rest k cs hr.ho hw;exact⟨E,X1,a.put o.dst u,k1,R.nr d hr m k3 k6 k5 (.inl k4) rfl A k2 (by rw [I];exact d.defs.ext' k5) (jr.gG d k7),J u⟩
    ·have hx:(aZ (gF (st i).au y.op.rd) (st i).heap y.op)=some (v,s1.heap):=by
      have b9:¬ ((∃ f xs h,y.op=.call f xs h)∨(∃ x xs h,y.op=.bR x xs h)∨y.op=.recover∨∃ x xs,y.op=.defer x xs):=by
       rintro(⟨f,xs,hh,e⟩ | ⟨x,xs,hh,e⟩ | e | ⟨x,xs,e⟩)<;>rw [e]at m F
       ·cases hh
        ·exact F rfl
        ·exact m rfl
       ·exact m rfl
       ·exact m rfl
       ·exact m rfl
      have hx:(aZ (gF (st i).au y.op.rd) (st i).heap y.op).map (fun r=>(r.1,({ st i with au:=gF (st i).au y.op.rd,heap:=r.2 }:St)))=some (v,{ s1 with au:=gF (st i).au y.op.rd }):=by
       generalize gF (st i).au y.op.rd=r at K;generalize y.op=op at K b9;cases op<;>first | exact K | (exfalso;apply b9;simp)
      simp only [IN,IS,St.mk.injEq]at hx;obtain⟨⟨v',H'⟩,h2,rfl,_,_,h3⟩:=hx;rw [h2];simp only at h3;rw [h3]
     by_cases W:cls y.op=.a
     ·by_cases S:i=eJ ops aos∧E≤i
      ·
       obtain⟨d7,j7⟩:=S;obtain⟨⟨zs,b_⟩,_,_⟩:=R.ord.ear y (show aos[eJ ops aos]?=some y from d7▸hr.hy)
       have d8:=hx;rw [b_]at d8 l;simp only [aZ,sh,IS]at d8;obtain⟨rfl,_⟩:=d8;simp only [dp]at l;split at l
       ·rename_i t ho;obtain⟨z,us,i_,j3,j4,_⟩:=dY (σ:=σ) (X:=X) l X.w
        have a_:(execOp a.eval o).run Q X.w=.ok (.value (.pointer (some ⟨X.w.heap.size,0,none⟩))) (X.w.alloc (.cells us.toArray t)):=by
         simp only [execOp,ho];refine dF ?_;simp [Instr.alloc,i_,newVar,newRow,j3]
        obtain⟨e1,e2⟩:=GQ d.sr (dz.alloc X.w (.cells us.toArray t));refine⟨E,{ X with w:=X.w.alloc (.cells us.toArray t) },a.put o.dst (.pointer (some ⟨X.w.heap.size,0,none⟩)),one a_,R.nr d hr m e1 (by have:=d.b;simp;omega) e2 (.inr ⟨d7,by rw [←d7];exact j7,zs,X.w.heap.size,b_,rfl,d.ext.size,?_⟩) rfl A rfl (by rw [I];exact d.defs.ext' e2) (jr.gG d rfl),J _⟩
        exact⟨⟨us,t,(dz.alloc X.w (.cells us.toArray t)).new,A2.ext' σ e2 j4⟩,d.b,fun b L hb=>by have:=(d.sr.br b L hb).2.1;omega,fun j hj=>by have:=d.sr.fb _ j hj;omega⟩
       ·simp at l
      have hJ:i=eJ ops aos→i<E:=fun e=>by
       rcases awj i E with h | h
       ·exact h
       ·exact absurd ⟨e,h⟩ S
      obtain⟨g1,g2⟩:=R.ZZ d hr (by simp [W]) (by simp [W]) (by simp [W]) hJ
      have d5:cS s1.heap X.H:=by
       rw [←q,d.heap];exact(R.cO E g1 d.eN fun j h1 h2=>g2 j (by omega) h2).1
      obtain⟨X1,u,k1,⟨k2,k3,k4,k5,k6⟩,k7,k8⟩:=agG d.sr d.b Y W l hx d5 (fun b9=>d.xU i y g1 hr.hD hr.hy W (by rw [q];exact b9))
      refine⟨E,X1,a.put o.dst u,one k1,R.nr d hr m k3 k6 k5 (.inl k4) rfl A k2 (by rw [I];exact d.defs.ext' k5) ?_,J u⟩
      by_cases c_:(st (i+1)).heap.length=(st i).heap.length
      ·exact jr.gG d (k8 (by rw [←q];exact c_))
      ·intro j z h2 h3 h4 h5 h6;rw [k7 _ (R.Gt d hr W hJ c_ h2 h3 h4 h5 h6)];exact d.xU j z h2 (fun h=>h3 (.inl h)) h4 h5 h6
     ·
      have d_:cls y.op=.p∨cls y.op=.r:=by cases b7:cls y.op<;>simp_all
      have l7:aZ (st i).au (st i).heap y.op=some (v,s1.heap):=by rw [G7 B];exact hx
      have g_:aZ (gF (st i).au y.op.rd) X.H y.op=some (v,X.H):=by
       rcases d_ with b7 | b7
       ·have:=aiC (r:=gF (st i).au y.op.rd) b7 (st i).heap X.H;rw [hx]at this;simpa using this
       ·rw [←G7 B];exact(R.auh d hr b7 c9 l7).2
      cases d6:y.op.fsl
      case true=>
       have N:=l;have U:=g_;have H:=Y;obtain⟨rg,k_⟩:∃ rg,rg=gF (st i).au y.op.rd:=⟨_,rfl⟩;rw [←k_]at U H;revert N U;generalize y.op=op at d6;cases op<;>simp only [cK.fsl,reduceCtorEq]at d6;intro N U;obtain⟨_,u,X1,k1,k2,k3,k4,k5,k6,k7⟩:=xR d.sr d.b H N U;exact⟨E,X1,a.put o.dst u,one k1,R.nr d hr m k3 k6 k5 (.inl k4) rfl A k2 (by rw [I];exact d.defs.ext' k5) (jr.gG d k7),J u⟩
      obtain⟨_,u,k1,k2⟩:=aiu d.sr Y l d_ d6 g_;exact⟨E,X,a.put o.dst u,one k1,R.nr d hr m d.sr d.b (Ext.refl _ _) (.inl k2) rfl A rfl (by rw [I];exact d.defs) (jr.gG d rfl),J u⟩
  ·simp at g
 ·rename_i c9;have hw:=nJ hm (au:=(st i).au) (tmps:=a.tmps) (X:=X) (fun p w' hg=>O p (HQ hg)) d.size c9
  simp only [sh]at g;have A:(st (i+1)).au=je (st i).au y.dst (.t []):=by rw [←g]
  have q:(st (i+1)).heap=(st i).heap:=by rw [←g]
  have M:(st (i+1)).defs=(st i).defs:=by rw [←g]
  have f_:Steps Q (lone (b.atR a (.inRegion ops (i::rest)::k)) cs X.w) (lone (b.atR (a.put o.dst undef) (.inRegion ops rest::k)) cs X.w):=by
   refine .one ?_;have:=stepR_op_skip (P:=Q) (b:=b) (a:=a) (k:=k) (cs:=cs) (w:=X.w) (ops:=ops) (i:=i) (rest:=rest) (by simp [hr.ho,hw])
   rw [hr.ho]at this;exact this
  by_cases m:cls y.op=.w
  ·have a8:=R.amB d hr m;obtain⟨E',X2,q1,q2⟩:=R.Hy d hr m (a1:=a.put o.dst undef) d.sr d.b (Ext.refl _ _) VR.undef rfl A (by rw [d.heap,q,a8]) (by rw [M,I,a8];exact d.defs)
   exact⟨E',X2,a.put o.dst undef,by rw [q1];exact f_,q2,J _⟩
  ·exact⟨E,X,a.put o.dst undef,f_,R.nr d hr m d.sr d.b (Ext.refl _ _) (.inl VR.undef) rfl A rfl (by rw [I];exact d.defs) (jr.gG d rfl),J _⟩
 ·simp at g
end
end Km
