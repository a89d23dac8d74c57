/-
  Our own small machine for Go code by value, held tq the model: part 2. No program in Gl.
-/
import Derived.Test.YtmbjejcfadllnaaGreatK1
import Derived.AtR
import Derived.RangeFuncIn
import Derived.RangeFuncRecord
import Derived.Conc.MuLone
open Option renaming some → aa,none → ab
open Bool renaming true → ae,false → ag
open Nat renaming le_max_left → asa, le_trans → arZ, le_max_right → ar2, mul_le_mul_right → asE, le_refl → OF, add_mul → asv, lt_or_ge → ar9, lt_irrefl → ati, mul_eq_zero → atk, zero_add → aso, lt_of_lt_of_le → asA, lt_trichotomy → ash
open Option.some renaming injEq → sh
open Prod.mk renaming injEq → IS
open List renaming getElem?_map → asD, length_map → asn, getElem?_toArray → atd, getElem?_cons_zero → asI, getElem?_cons_succ → as8, length_append → api, getElem?_eq_some_iff → By, getElem?_set_ne → AI, getElem?_append_left → At, length_drop → arW, eq_nil_of_length_eq_zero → anc, drop_zero → asV, getElem?_set → as3, getElem?_eq_getElem → AT, getElem?_eq_none_iff → asJ, foldl_cons → asL, mem_cons → ass, getElem_mem → IT, getElem?_drop → arV, getElem?_of_mem → asz, drop_eq_nil_iff → atp, drop_eq_getElem_cons → ar5, mem_flatMap → atg, mem_append → ar3, mem_map → ase, getElem?_take → asb, getElem?_eq_none → asS, getD_eq_getElem?_getD → asl, all_eq_true → arX
open Option renaming map_eq_some_iff → IN, map_some → asm, bind_some → ar7
open Bool renaming and_eq_true → BY, false_eq_true → arQ
open Int renaming toNat_natCast → ar4, mul_comm → asO
set_option linter.unusedVariables false
set_option linter.constructorNameAsVariable false
set_option linter.unusedSimpArgs false
set_option linter.unusedSectionVars false
set_option maxRecDepth 100000
namespace Km
open Go
section
variable{Q:Program}{σ:Nat→FuncId}{X:Wd}
theorem xE(n:Nat):∀(r c:Nat),Builtin.growBy n r c≤Nat.max c (n+(n+768) / 4)
 | 0,c=>by simp [Builtin.growBy];exact asa _ _
 | r+1,c=>by
  simp only [Builtin.growBy];split
  ·exact asa _ _
  ·rename_i h;refine arZ (xE n r _) ?_;apply Nat.max_le.2;exact⟨arZ (by omega) (ar2 _ _),ar2 _ _⟩
theorem u7{need cap:Nat}(h:cap<need):Builtin.nextslicecap need cap≤2*need+768:=by
 unfold Builtin.nextslicecap;split
 ·omega
 ·split
  ·omega
  ·refine arZ (xE need 4 cap) ?_;apply Nat.max_le.2;omega
theorem Bh(K:SR Q σ X){sz:Nat}{y:V}{u:Value}(v:VR σ X y u){m:Nat}{ys:List C}(h:c4 X.H sz y=aa (m,ys)) :
  ∃ F,(Builtin.lenOf u).run Q X.w=.ok m X.w∧(Builtin.firstCells sz m u).run Q X.w=.ok F.toArray X.w∧A2 (CR σ X) ys F∧ys.length=m*sz:=by
 unfold c4 at h;split at h
 ·rename_i s;have:=VR.str v;subst this;split at h
  case isFalse=>simp at h
  rename_i q;subst q;simp only [sh,IS]at h;obtain⟨rfl,rfl⟩:=h;have g:s.extract 0 s.size=s:=ByteArray.extract_zero_size;refine⟨s.data.toList.map fun b=>.int .u8 b.toNat,by simp [Builtin.lenOf],?_,?_,?_⟩
  ·simp only [Builtin.firstCells,g,Sem.run_pure]
   congr 1
   apply Array.ext';simp
  ·rw [ByteArray.toList_eq];exact⟨by simp,fun i x u E B=>by
    simp only [asD,IN]at E B;obtain⟨c,L,rfl⟩:=E;obtain⟨d,z,rfl⟩:=B;rw [L]at z;cases z;exact cH.int _ _⟩
  ·rw [ByteArray.toList_eq];simp only [asn,Array.length_toList,Nat.mul_one];rfl
 ·rename_i x M;split at h
  ·rename_i l cs A j;simp only [sh,IS]at h;obtain⟨rfl,rfl⟩:=h;obtain⟨us,H,I,J⟩:=mr K v A j;obtain⟨a,c,rfl⟩:=iF v A;exact⟨us,by simp [Builtin.lenOf],H,I,J⟩
  ·simp at h
 ·simp at h
structure akx(Q:Program)(t t' e:TypeId)(sz bytes:Nat):Prop where
 hu:Q.underlying t=aa (.slice e)
 hu':∃ d,Q.underlying t'=aa d∧(∀ k,d≠.int k)
 uO:di Q e sz=ae
 hby:nT Q e bytes=ae
 pos:0<sz
 zero:∃ i z,Q.info? e=aa i∧i.zero=aa z∧z.cells.size=sz
def sf(base:Option Addr)(k:Nat)(b:List Value):Sem Unit:=match base with
 | some a=>storeCells (a.add k) b| none=>pure ()
theorem kh{t O e:TypeId}{sz bytes:Nat}(j:akx Q t O e sz bytes)(W:TypeId){base:Option Addr}{l cap m:Nat}{u:Value}{g:List Value}{w:World}
  (S:(Builtin.lenOf u).run Q w=.ok m w) (Y:(Builtin.firstCells sz m u).run Q w=.ok g.toArray w) :
  (l+m≤cap→(Builtin.append_ #[t,O] W #[.slice base l cap,u]).run Q w =
   ((sf base (l*sz) g).run Q w).andThen fun _ w'=>.ok (.slice base (l+m) cap) w') ∧
  (¬ l+m≤cap→bW (l+m) bytes=ae→∀ os g:List Value,(Builtin.firstCells sz l (.slice base l cap)).run Q w.drew=.ok os.toArray w.drew→(Builtin.firstCells sz m u).run Q w.drew=.ok g.toArray w.drew →
   ∃ nc rest w',l+m≤nc∧(Builtin.append_ #[t,O] W #[.slice base l cap,u]).run Q w=.ok (.slice (aa ⟨w.heap.size,0,ab⟩) (l+m) nc) w' ∧
    dI w w' (.cells (os++g++rest).toArray e)∧rest.length=(nc-(l+m))*sz):=by
 obtain⟨d,U,F⟩:=j.hu';obtain⟨i,z,hi,hz,y⟩:=j.zero;obtain⟨q,s,B⟩:=zM j.hby w;have A:((d matches .int _):Bool)=ag:=by
  cases d with
  | int k=>exact absurd rfl (F k)| _=>rfl
 constructor
 ·intro I;simp only [Builtin.append_,atd];simp [bj j.hu,bj U,cY j.uO,A,S,I,Y];cases base<;>simp [sf]
 ·intro H b os g Z h4;unfold bW at b;simp only [BY,decide_eq_true_eq]at b;have v:q=i:=by
   simp [typeInfo,hi]at s;exact s.symm
  subst v;have J:¬ (Builtin.nextslicecap (l+m) cap*q.bytes>2 ^ 48):=by
   rw [B];have:=u7 (need:=l+m) (cap:=cap) (by omega);have:=asE bytes this;omega
  let nc:=(Question.appendCap (l+m) cap e).cut (w.tape w.drawn (.appendCap (l+m) cap e))
  have K:l+m≤nc:=by simp [nc,Question.cut]
  refine⟨nc,cq (nc-(l+m)) z.cells.toList,w.drew.alloc (.cells (os++g++cq (nc-(l+m)) z.cells.toList).toArray e),K,?_,⟨rfl,rfl,rfl,rfl⟩,by rw [lJ];simp [y]⟩;have E:(choose (.appendCap (l+m) cap e)).run Q w=.ok nc w.drew:=by
   simp [choose,Sem.run,Question.forced,nc]
  have M:Builtin.zeroCells z.cells (nc-(l+m))=(cq (nc-(l+m)) z.cells.toList).toArray:=by
   have:=iI z.cells.toList (nc-(l+m)) (by simp [y];exact j.pos);simpa [Builtin.zeroCells]using this
  have x:¬ (((l+m:Nat):Int)>IntKind.i64.max):=by
   have:IntKind.i64.max=9223372036854775807:=by decide
   rw [this];omega
  have N:∀ w',(zeroValue e).run Q w'=.ok z w':=fun w'=>by simp [zeroValue,typeInfo,hi,hz]
  have L:∀ w',(typeInfo e).run Q w'=.ok q w':=fun w'=>by simp [typeInfo,hi]
  simp only [Builtin.append_,Sem.run_bind,bj j.hu,bj U,cY j.uO,A,Result.andThen_ok,Sem.run_pure,arQ,if_false,S,aZ H,Sem.run_ite,L,x,false_and,J,E,run_askRoom,Z,
   Bool.not_false,if_true,h4,N,M,newRow,run_newObj,atd,asI,as8]
  have X:os.toArray++g.toArray++(cq (nc-(l+m)) z.cells.toList).toArray=(os++g++cq (nc-(l+m)) z.cells.toList).toArray:=by simp
  rw [X];rfl
theorem SR.drew(b:SR Q σ X):SR Q σ { X with w:=X.w.drew }∧Ext X.H.length X { X with w:=X.w.drew }:=by
 have d:Ext X.H.length X { X with w:=X.w.drew }:=Ext.one b X.H.length rfl (fun _ _=>Iff.rfl) (fun _ _ _=>rfl) (fun _ _ _ _=>rfl) (fun h=>by omega)
  (fun _ _ _=>rfl) (fun _ _=>rfl) (fun L h=>.inl ⟨L,h,rfl⟩) (OF _) rfl rfl rfl
 exact⟨SR.step Q σ b d X.H.length (fun _ _=>rfl) (fun _ _=>rfl) (fun _ _ _ _=>rfl) (fun _ _ _ _ _ h=>h) (fun L h=>by
  change X.cr X.H.length=aa L at h;rw [SR.rY b]at h;simp at h) b.fb,d⟩
theorem Ye(l:SR Q σ X)(A:X.B≤X.w.heap.size){sz:Nat}(d:0<sz){cs:List C}{us rest:List Value}(h:A2 (CR σ X) cs us){n nc:Nat}(q:cs.length=n*sz)(hr:rest.length=(nc-n)*sz)(E:n≤nc)
  {e:TypeId} {w':World} (s:dI X.w w' (.cells (us++rest).toArray e)) :
  ∃ X',X'.w=w'∧X'.H=X.H++[.bM sz cs 0 0 .loc]∧SR Q σ X'∧Ext X.H.length X X'∧VR σ X' (.c (.sl X.H.length 0 n 0 0 sz)) (.slice (aa ⟨X.w.heap.size,0,ab⟩) n nc)∧X'.B≤X'.w.heap.size:=by
 obtain⟨X',u,j,v,x,y,z⟩:=SR.new l A (.bM sz cs 0 0 .loc) s nc fun X' F g B _=>⟨rfl,us,rest,by rw [g];exact jQ s,A2.ext' σ F h,by
  have:=h.len;rw [api,hr,←this,q,←asv];congr 1;show n+(nc-n)=nc;omega,d,⟨n,q⟩,fun i _ m=>by rw [B]at m;have:=l.fb _ _ m;simp at this⟩
 refine⟨X',u,j,v,x,?_,z⟩;have b:X'.H[X.H.length]?=aa (.bM sz cs 0 0 .loc):=by rw [j];simp
 simp only [VR,gU,CR,fD,b];exact⟨OF _,fun _ _=>⟨_,y,0,by omega,by show 0+n≤nc;omega,by simp⟩,_,_,_,rfl⟩
theorem tC(q:SR Q σ X)(S:X.B≤X.w.heap.size){b sz:Nat}{y cs:List C}{v u:Nat}{st:Os}(I:X.H[b]?=aa (.bM sz y v u st)){ys:List C}{us E rest:List Value}(J:A2 (CR σ X) cs us)(M:A2 (CR σ X) ys E)
  (B:0<sz) {n nc:Nat} (K:cs.length+ys.length=n*sz) (hr:rest.length=(nc-n)*sz) (W:n≤nc) {e:TypeId} {w':World} (j:dI X.w w' (.cells (us++E++rest).toArray e)) :
  ∃ X',X'.w=w'∧X'.H=X.H.set b (.bM sz (cs++ys) v (u+1) .loc)∧SR Q σ X'∧Ext X.H.length X X'∧VR σ X' (.c (.sl b 0 n 0 (u+1) sz)) (.slice (aa ⟨X.w.heap.size,0,ab⟩) n nc)∧X'.B≤X'.w.heap.size:=by
 have A:b<X.H.length:=(By.1 I).1
 let X':Wd:={ X with H:=X.H.set b (.bM sz (cs++ys) v (u+1) .loc),cr:=fun k=>if k=b then aa ⟨X.w.heap.size,nc⟩else X.cr k,w:=w' }
 have g:X'.H[b]?=aa (.bM sz (cs++ys) v (u+1) .loc):=by simp [X',A]
 have l:X'.cr b=aa ⟨X.w.heap.size,nc⟩:=by simp [X']
 have x:Ext X.H.length X X':=Ext.one q b rfl (fun _ _=>Iff.rfl) (fun k U _=>j.CP U) (fun L i Y z=>World.cell?_of_block (j.CP (q.fb _ _ z)))
  (fun _ bu d=>⟨_,g,by rw [I]at d;simp only [sh]at d;subst d;exact⟨rfl,.inr ⟨by omega,rfl,_,l⟩⟩⟩)
  (fun m h _=>by simp [X',AI (Ne.symm h)]) (fun m h=>by simp [X',h]) (fun L h=>by rw [l]at h;simp only [sh]at h;subst h;exact .inr (OF _)) (by show X.w.heap.size≤w'.heap.size;rw [j.size];omega) j.os j.tape j.output
 refine⟨X',rfl,rfl,SR.step Q σ q x b (fun m h=>by simp [X',AI (Ne.symm h)]) (fun m h=>by simp [X',h]) (fun m L _ s=>j.CP (q.br m L s).2.1) (fun _ _ _ _ _ h=>h) (fun L h=>?_) (fun c i h=>?_),x,?_,?_⟩
 ·rw [l]at h;simp only [sh]at h;subst h;refine⟨S,by show X.w.heap.size<w'.heap.size;rw [j.size];omega,⟨_,g,rfl,us++E,rest,jQ j,(A2.ext' σ x J).append (A2.ext' σ x M),?_,B,⟨n,by simpa using K⟩,fun i _ z=>?_⟩,fun m F _ s=>?_⟩
  ·have N:=J.len;have O:=M.len;rw [api,api,hr,←N,←O,K,←asv];congr 1;show n+(nc-n)=nc;omega
  ·have:=q.fb _ _ z;simp at this
  ·have:=(q.br m F s).2.1;show F.c≠X.w.heap.size;omega
 ·have:=q.fb c i h;show c<w'.heap.size;rw [j.size];omega
 ·simp only [VR,gU,CR,fD,g];exact⟨OF _,fun _ _=>⟨_,l,0,by omega,by show 0+n≤nc;omega,by simp⟩,_,_,_,rfl⟩
 ·show X.B≤w'.heap.size;rw [j.size];omega
end
section
variable{Q:Program}{σ:Nat→FuncId}{X:Wd}
theorem qw{d:Type}(us rest b:List d)(h:b.length≤rest.length):over (us++rest) us.length b=us++b++rest.drop b.length:=by
 unfold over;rw [List.take_left',←List.drop_drop,List.drop_left']
 all_goals rfl
theorem ajX(M:SR Q σ X){b sz:Nat}{cs:List C}{g l:Nat}{L:Loc}(A:X.H[b]?=aa (.bM sz cs g l .loc))(z:X.cr b=aa L){ys:List C}{q:List Value}(H:A2 (CR σ X) ys q)(Y:g≤cs.length)
  {n:Nat} (Z:cs.length+ys.length=n*sz) (s:n≤L.cap):∃ X',(storeCells ⟨L.c,cs.length,ab⟩ q).run Q X.w=.ok () X'.w∧X'.H=X.H.set b (.bM sz (cs++ys) g (l+1) .loc)∧SR Q σ X' ∧
   Ext X.H.length X X'∧VR σ X' (.c (.sl b 0 n 0 (l+1) sz)) (.slice (aa ⟨L.c,0,ab⟩) n L.cap)∧X'.w.heap.size=X.w.heap.size∧X'.B=X.B:=by
 obtain⟨_,_,bu,m,B⟩:=M.br b L z;rw [A]at m;simp only [sh]at m;subst m;obtain⟨_,us,rest,hr,I,K,U,o,J⟩:=B;have u:b<X.H.length:=(By.1 A).1;have a:=H.len;have j:=I.len;have F:n*sz≤L.cap*sz:=asE sz s;have E:q.length≤rest.length:=by simp only [api]at K;omega
 obtain⟨N,c,e,f,k,y⟩:=dX hr q cs.length (by simp;omega);rw [j,qw _ _ _ E]at y;rw [←j]at y;obtain⟨O,S⟩:=SR.turn M (blk':=.bM sz (cs++ys) g (l+1) .loc) A z N c (fun i W=>by
   have hi:i<g:=by
    rcases ar9 i g with h | h
    ·exact h
    ·exact absurd W (J i h)
   have:=dd y i;rw [j]at this ⊢;rw [this,dd hr,List.append_assoc,At (by omega),At (by omega)]) e f k
  (fun bu d=>⟨.bM sz (cs++ys) g (l+1) .loc,by simp [u],by rw [A]at d;simp only [sh]at d;subst d;exact⟨rfl,.inr ⟨by omega,rfl,L,z⟩⟩⟩)
  (fun x=>⟨rfl,us++q,rest.drop q.length,by rw [j]at y ⊢;exact y,(A2.ext' σ x I).append (A2.ext' σ x H),by simp only [api,arW]at K ⊢;omega,U,⟨n,by simpa using Z⟩,J⟩)
 refine⟨_,si hr q cs.length (by simp;omega) (A2.one H),rfl,O,S,?_,N,rfl⟩;have v:(X.H.set b (.bM sz (cs++ys) g (l+1) .loc))[b]?=aa (.bM sz (cs++ys) g (l+1) .loc):=by simp [u]
 simp only [VR,gU,CR,fD,v];exact⟨OF _,fun _ _=>⟨L,z,0,by omega,by omega,by simp⟩,_,_,_,rfl⟩
theorem zq{c:Call}{sz bytes:Nat}{x y:Arg}(h:dL Q σ c (.append sz bytes x y)=ae):∃ u v t m e,c.callee=.builtin .append∧c.args=#[u,v]∧c.argTypes=#[t,m]∧mA σ x u=ae∧mA σ y v=ae ∧
  akx Q t m e sz bytes:=by
 simp only [dL]at h;split at h
 ·rename_i u v t m B E F;simp only [BY]at h;obtain⟨⟨⟨I,J⟩,l⟩,g⟩:=h;obtain⟨e,H,l⟩:=gY l;simp only [BY,decide_eq_true_eq]at l;obtain⟨⟨⟨s,q⟩,d⟩,j⟩:=l;have A:∃ i z,Q.info? e=aa i∧i.zero=aa z∧z.cells.size=sz:=by
   cases hi:Q.info? e with
   | none=>simp [hi]at j
   | some i=>
    simp only [hi,Option.any_some]at j;cases b:i.zero with
    | none=>simp [b]at j| some z=>simp [b]at j;exact⟨i,z,rfl,b,j⟩
  refine⟨u,v,t,m,e,B,ada E,ada F,I,J,⟨H,?_,s,q,d,A⟩⟩;split at g
  ·exact⟨_,by assumption,fun k=>by simp⟩
  ·exact⟨_,by assumption,fun k=>by simp⟩
  ·simp at g
 ·simp at h
theorem xn(W:SR Q σ X)(hB:X.B≤X.w.heap.size){a:Act}{aA:T}(hR:RR σ X aA a.tmps){o:Oper}{sz bytes:Nat}{x y:Arg}(hm:dD Q σ o (.append sz bytes x y)=ae){v:V}{H':aj}
  (h:bz aA X.H (.append sz bytes x y)=aa (v,H')):gL Q σ X v H' (execOp a.eval o):=by
 simp only [dD]at hm;split at hm
 ·rename_i c ho;obtain⟨u,v',t,t',e,h1,h2,h3,hx,hy,ht⟩:=zq hm;have hx:=bN hR hx;have hy:=bN hR hy;simp only [bz]at h;generalize m_:a.eval u=ux at hx;generalize n4:a.eval v'=uy at hy;generalize x.ev aA=vx at hx h;generalize y.ev aA=vy at hy h;have a9:∀(r:Value) (w':World),(Builtin.append_ #[t,t'] o.type #[ux,uy]).run Q X.w=.ok r w'→(execOp a.eval o).run Q X.w=.ok (.value r) w':=by
   intro r w' hr;refine df ho h1 fun cs=>?_;simp [builtin,h2,h3,m_,n4,hr]
  unfold bU at h;split at h
  ·simp at h
  rename_i m ys d6;rw [aZ (by have:=ht.pos;omega)]at h;obtain⟨vs,b9,a_,c_,d5⟩:=Bh W hy d6;obtain⟨Y,g_⟩:=SR.drew W;obtain⟨a8,_,d3,j9,_⟩:=Bh Y (VR.ext' σ g_ hy) d6;have B:A2 (CR σ X) ys a8:=by
   have c9:Ext X.H.length { X with w:=X.w.drew } X:=Ext.one Y X.H.length rfl (fun _ _=>Iff.rfl) (fun _ _ _=>rfl) (fun _ _ _ _=>rfl) (fun h=>absurd h (ati _))
    (fun _ _ _=>rfl) (fun _ _=>rfl) (fun L h=>.inl ⟨L,h,rfl⟩) (OF _) rfl rfl rfl
   exact A2.ext' σ (X:={ X with w:=X.w.drew }) c9 j9
  have H:∀ {base:Option Addr} {l cap:Nat} {os:List Value} {cs:List C},ux=.slice base l cap→¬ l+m≤cap→bW (l+m) bytes=ae →
    (Builtin.firstCells sz l (.slice base l cap)).run Q X.w.drew=.ok os.toArray X.w.drew→A2 (CR σ X) cs os→cs.length=l*sz →
    gL Q σ X (.c (.sl X.H.length 0 (l+m) 0 0 sz)) (X.H++[.bM sz (cs++ys) 0 0 .loc]) (execOp a.eval o):=by
   intro base l cap os cs hu d9 d l_ l9 l7;obtain⟨nc,rest,w',J,j,g,K⟩:=(kh ht o.type (base:=base) (l:=l) (cap:=cap) b9 a_).2 d9 d os a8 l_ d3;obtain⟨X',N,I,O,S,U,g6⟩:=Ye W hB ht.pos (cs:=cs++ys) (us:=os++a8) (l9.append B) (n:=l+m) (nc:=nc) (by rw [api,l7,d5,asv]) K J g;exact⟨_,X',.inl (by rw [N];exact a9 _ _ (by rw [hu];exact j)),I,O,U,S,g6⟩
  have A:∀ {base:Option Addr} {l cap:Nat} {X':Wd},ux=.slice base l cap→l+m≤cap→(sf base (l*sz) vs).run Q X.w=.ok () X'.w →
    (execOp a.eval o).run Q X.w=.ok (.value (.slice base (l+m) cap)) X'.w:=by
   intro base l cap X' hu q m9;refine a9 _ _ ?_;rw [hu,(kh ht o.type (base:=base) (l:=l) (cap:=cap) b9 a_).1 q,m9];rfl
  split at h
  ·
   cases (hx:cH σ X.F X.w .aF ux);split at h
   ·rename_i Z;subst Z;simp only [sh,IS]at h;obtain⟨rfl,rfl⟩:=h;exact⟨_,X,.inl (A (X':=X) rfl (by omega) rfl),rfl,W,cH.aF,Ext.refl _ _,hB⟩
   ·split at h
    ·rename_i d;simp only [sh,IS]at h;obtain⟨rfl,rfl⟩:=h;have:=H (base:=ab) (l:=0) (cap:=0) (os:=[]) (cs:=[]) rfl (by omega) (by simpa using d) (by simp [Builtin.firstCells]) A2.nil (by simp);simpa using this
    ·simp at h
  ·
   cases (hx:cH σ X.F X.w .es ux);rename_i ad;split at h
   ·rename_i Z;subst Z;simp only [sh,IS]at h;obtain⟨rfl,rfl⟩:=h;have f9:vs=[]:=anc (by rw [←c_.len,d5];simp);exact⟨_,X,.inl (A (X':=X) rfl (by omega) (by rw [f9];rfl)),rfl,W,cH.es _,Ext.refl _ _,hB⟩
   ·split at h
    ·rename_i d;simp only [sh,IS]at h;obtain⟨rfl,rfl⟩:=h;have:=H (base:=aa ad) (l:=0) (cap:=0) (os:=[]) (cs:=[]) rfl (by omega) (by simpa using d) (by simp [Builtin.firstCells,loadCells,loadCellsFrom]) A2.nil (by simp);simpa using this
    ·simp at h
  ·rename_i b off l cap ep s;have f_:CR σ X (.sl b off l cap ep s) ux:=hx;simp only [VR,gU,CR,fD]at hx;split at h
   ·
    rename_i cs fl F;rw [F]at hx;obtain⟨L,hL,n7,rfl⟩:=hx;split at h
    ·rename_i q;split at h
     ·rename_i hc;simp only [sh,IS]at h;obtain⟨rfl,rfl⟩:=h;obtain⟨X',N,I,O,S,U,g6,g7⟩:=CJ W F hL c_ hc.1 hc.2;refine⟨_,X',.inl (A rfl q (by simp only [sf,eg];exact N)),I,O,?_,S,by omega⟩;have b_:X'.H[b]?=aa (.box (over cs (off+l*sz) ys) fl):=by rw [I];simp [(By.1 F).1]
      simp only [VR,gU,CR,fD,b_];exact⟨L,by rw [U];exact hL,q,rfl⟩
     ·simp at h
    ·rename_i d9;split at h
     ·rename_i hc;simp only [sh,IS]at h;obtain⟨rfl,rfl⟩:=h;have d_:cO X.H sz (.sl b off l cap ep s)=aa ((cs.drop off).take (l*sz)):=by simp [cO,F,hc.2]
      have e_:bH X.H (.sl b off l cap ep s)=aa l:=by simp [bH,F]
      obtain⟨os,q1,q2,q3⟩:=mr Y (CR.ext' σ g_ f_) e_ d_;have h_:A2 (CR σ X) ((cs.drop off).take (l*sz)) os:=by
       have c9:Ext X.H.length { X with w:=X.w.drew } X:=Ext.one Y X.H.length rfl (fun _ _=>Iff.rfl) (fun _ _ _=>rfl) (fun _ _ _ _=>rfl) (fun h=>absurd h (ati _))
        (fun _ _ _=>rfl) (fun _ _=>rfl) (fun L h=>.inl ⟨L,h,rfl⟩) (OF _) rfl rfl rfl
       exact A2.ext' σ (X:={ X with w:=X.w.drew }) c9 q2
      exact H rfl d9 hc.1 q1 h_ q3
     ·simp at h
   ·
    rename_i s' cs fl e' st F;rw [F]at hx;split at h
    ·rename_i hc;obtain⟨rfl,rfl,rfl⟩:=hc;have M:=hx.2.1 rfl rfl;split at h
     ·
      rename_i Z;subst Z;simp only [sh,IS]at h;obtain⟨rfl,rfl⟩:=h;have f9:vs=[]:=anc (by rw [←c_.len,d5];simp);obtain⟨base,n,cp,E⟩:=hx.2.2;have m7:n=l∧l≤cp:=by
       cases st with
       | loc=>obtain⟨L,_,k,_,hk,h8⟩:=M;rw [E]at h8;simp only [Value.slice.injEq]at h8;omega
       | nil=>obtain⟨_,rfl,h8⟩:=M;rw [E]at h8;simp only [Value.slice.injEq]at h8;omega
       | es=>obtain⟨_,rfl,_,h8⟩:=M;rw [E]at h8;simp only [Value.slice.injEq]at h8;omega
      obtain⟨rfl,n6⟩:=m7;refine⟨.slice base (n+0) cp,X,.inl (A (X':=X) E (by omega) (by rw [f9];cases base<;>rfl)),rfl,W,?_,Ext.refl _ _,hB⟩;rw [Nat.add_zero,←E];exact f_
     ·rename_i Z;split at h
      ·
       rename_i hc;obtain⟨rfl,z,i_⟩:=hc;split at h
       ·rename_i d;simp only [sh,IS]at h;obtain⟨rfl,rfl⟩:=h;have hn:cs.length+ys.length=(l+m)*s:=by rw [d5,←z,asv]
        cases st with
        | loc=>
         obtain⟨L,hL,k,m6,hk,rfl⟩:=M;have j8:k=0:=by
          rcases atk.1 m6.symm with h8 | h8
          ·exact h8
          ·have:=ht.pos;omega
         subst j8;rw [Nat.sub_zero]at *;by_cases q:l+m≤L.cap
         ·obtain⟨X',N,I,O,S,U,g6,g7⟩:=ajX W F hL c_ i_ hn q;exact⟨_,X',.inl (A rfl q (by simp only [sf,eg];rw [z,aso];exact N)),I,O,U,S,by omega⟩
         ·have d_:cO X.H s (.sl b 0 l cap ep s)=aa ((cs.drop 0).take (l*s)):=by simp [cO,F,z]
          have e_:bH X.H (.sl b 0 l cap ep s)=aa l:=by simp [bH,F]
          obtain⟨os,q1,q2,q3⟩:=mr Y (CR.ext' σ g_ f_) e_ d_;have h_:A2 (CR σ X) cs os:=by
           have c9:Ext X.H.length { X with w:=X.w.drew } X:=Ext.one Y X.H.length rfl (fun _ _=>Iff.rfl) (fun _ _ _=>rfl) (fun _ _ _ _=>rfl) (fun h=>absurd h (ati _))
            (fun _ _ _=>rfl) (fun _ _=>rfl) (fun L h=>.inl ⟨L,h,rfl⟩) (OF _) rfl rfl rfl
           have:=A2.ext' σ (X:={ X with w:=X.w.drew }) c9 q2;rwa [asV,z,List.take_length]at this
          obtain⟨nc,rest,w',J,j,g,K⟩:=(kh ht o.type (base:=aa ⟨L.c,0,ab⟩) (l:=l) (cap:=L.cap) b9 a_).2 q d os a8 q1 d3;obtain⟨X',N,I,O,S,U,g6⟩:=tC W hB F h_ B ht.pos hn K J g;exact⟨_,X',.inl (by rw [N];exact a9 _ _ (by simpa using j)),I,O,U,S,g6⟩
        | nil=>
         obtain⟨_,rfl,rfl⟩:=M;have d8:cs=[]:=anc (by simpa using z.symm);subst d8;obtain⟨nc,rest,w',J,j,g,K⟩:=(kh ht o.type (base:=ab) (l:=0) (cap:=0) b9 a_).2 (by omega) d [] a8 (by simp [Builtin.firstCells]) d3;obtain⟨X',N,I,O,S,U,g6⟩:=tC W hB F (us:=[]) A2.nil B ht.pos hn K J g;exact⟨_,X',.inl (by rw [N];exact a9 _ _ j),I,O,U,S,g6⟩
        | es=>
         obtain⟨_,rfl,ad,rfl⟩:=M;have d8:cs=[]:=anc (by simpa using z.symm);subst d8;obtain⟨nc,rest,w',J,j,g,K⟩:=(kh ht o.type (base:=aa ad) (l:=0) (cap:=0) b9 a_).2 (by omega) d [] a8 (by simp [Builtin.firstCells,loadCells,loadCellsFrom]) d3;obtain⟨X',N,I,O,S,U,g6⟩:=tC W hB F (us:=[]) A2.nil B ht.pos hn K J g;exact⟨_,X',.inl (by rw [N];exact a9 _ _ j),I,O,U,S,g6⟩
       ·simp at h
      ·split at h
       ·
        rename_i hc;obtain⟨rfl,j7,m4⟩:=hc;simp only [sh,IS]at h;obtain⟨rfl,rfl⟩:=h;obtain⟨L,hL,k,rfl,hk,rfl⟩:=M;obtain⟨_,_,bu,d7,k_⟩:=W.br b L hL;rw [F]at d7;simp only [sh]at d7;subst d7;obtain⟨_,us,rest,hr,j_,h6,h7,h8,n5⟩:=k_;have q:l+m≤L.cap-k:=by
         have e1:(k+(l+m))*s≤L.cap*s:=by
          rw [asv,asv];have:=j_.len;simp only [api]at h6;omega
         have:=Nat.le_of_mul_le_mul_right e1 h7;omega
        obtain⟨X',N,I,O,S,U,g6,g7⟩:=CL W F hL c_ j7 m4;refine⟨_,X',.inl (A rfl q (by simp only [sf,eg];exact N)),I,O,?_,S,by omega⟩;have b_:X'.H[b]?=aa (.bM s (over cs (k*s+l*s) ys) fl ep .loc):=by rw [I];simp [(By.1 F).1]
        simp only [VR,gU,CR,fD,b_];exact⟨OF _,fun _ _=>⟨L,by rw [U];exact hL,k,rfl,by omega,rfl⟩,_,_,_,rfl⟩
       ·simp at h
    ·simp at h
   ·simp at h
  ·simp at h
 ·simp at hm
end
section
variable{Q:Program}{σ:Nat→FuncId}{X:Wd}
theorem DU{c:Call}{sz bytes:Nat}{zs:List FC}{x y:Arg}(h:dL Q σ c (.sV sz bytes zs x y)=ae):∃ u v t j e k,c.callee=.builtin .append∧c.args=#[u,v]∧c.argTypes=#[t,j]∧mA σ x u=ae∧mA σ y v=ae ∧
  Q.underlying t=aa (.slice e)∧di Q e sz=ae∧nT Q e bytes=ae∧0<sz∧lN Q e zs=ae∧Q.underlying j=aa (.int k):=by
 simp only [dL]at h;split at h
 ·rename_i u v t j q s z;simp only [BY]at h;obtain⟨⟨⟨E,F⟩,g⟩,d⟩:=h;obtain⟨e,B,g⟩:=gY g;simp only [BY,decide_eq_true_eq]at g;obtain⟨⟨⟨m,l⟩,b⟩,H⟩:=g;split at d
  ·rename_i k A;exact⟨u,v,t,j,e,k,q,ada s,ada z,E,F,B,m,l,b,H,A⟩
  ·simp at d
 ·simp at h
theorem Zz{n:Nat}(h:n<2 ^ 48):IntKind.i64.wrap (n:Int)=n:=by
 simp only [IntKind.wrap,IntKind.bits,IntKind.signed];have b:(2 ^ 64:Int)=18446744073709551616:=by decide
 have d:(2 ^ (64-1):Int)=9223372036854775808:=by decide
 have g:(2:Nat) ^ 48=281474976710656:=by decide
 simp only [b,d,Bool.true_and,decide_eq_true_eq];split<;>omega
theorem vr{t Z e:TypeId}{sz bytes:Nat}{k k':IntKind}(c:Q.underlying t=aa (.slice e))(A:Q.underlying Z=aa (.int k))(x:di Q e sz=ae)(F:nT Q e bytes=ae)(a:0<sz)
  {z:Value} {us:List Value} {i:TypeInfo} (hi:Q.info? e=aa i) (r:i.zero=aa z) (U:z.cells=us.toArray) (N:us.length=sz) (f:TypeId) {base:Option Addr} {n:Nat} {w:World} :
  (n=0→(Builtin.append_ #[t,Z] f #[.slice base 0 0,.int k' (n:Int)]).run Q w=.ok (.slice base 0 0) w) ∧
  (n≠0→bW n bytes=ae→∃ nc rest w',n≤nc∧(Builtin.append_ #[t,Z] f #[.slice base 0 0,.int k' (n:Int)]).run Q w=.ok (.slice (aa ⟨w.heap.size,0,ab⟩) n nc) w' ∧
   dI w w' (.cells (cq n us++rest).toArray e)∧rest.length=(nc-n)*sz):=by
 obtain⟨g,l,s⟩:=zM F w;have u:g=i:=by simp [typeInfo,hi]at l;exact l.symm
 subst u;have y:∀ w',(typeInfo e).run Q w'=.ok g w':=fun w'=>by simp [typeInfo,hi]
 have Y:∀ w',(zeroValue e).run Q w'=.ok z w':=fun w'=>by simp [zeroValue,typeInfo,hi,r]
 have j:∀(q:Int) w',(asInt (.int k' q)).run Q w'=.ok q w':=fun q w'=>by simp [asInt,asIntOf]
 constructor
 ·rintro rfl;have O:IntKind.i64.wrap 0=0:=by decide
  simp only [Builtin.append_,atd];simp [bj c,bj A,cY x,y,j,O];cases base<;>simp [storeCells]
 ·intro hn b;have E:=b;unfold bW at b;simp only [BY,decide_eq_true_eq]at b;have S:=Zz b.2;have K:¬ (Builtin.nextslicecap n 0*g.bytes>2 ^ 48):=by
   rw [s];have:=u7 (need:=n) (cap:=0) (by omega);have:=asE bytes this;omega
  let nc:=(Question.appendCap n 0 e).cut (w.tape w.drawn (.appendCap n 0 e))
  have L:n≤nc:=by simp [nc,Question.cut]
  have H:(choose (.appendCap n 0 e)).run Q w=.ok nc w.drew:=by
   simp [choose,Sem.run,Question.forced,nc]
  have X:∀ m,Builtin.zeroCells z.cells m=(cq m us).toArray:=fun m=>by
   have:=iI us m (by omega);simpa [Builtin.zeroCells,U]using this
  have v:¬ ((n:Int)>IntKind.i64.max):=by
   have:IntKind.i64.max=9223372036854775807:=by decide
   have e3:(2:Nat) ^ 48=281474976710656:=by decide
   rw [this];omega
  have I:¬ ((n:Int)<0):=by omega
  have J:¬ ((n:Int)*(g.bytes:Int)>2 ^ 48):=by
   rw [s];have o:n*bytes≤2 ^ 48:=arZ (asE bytes (by omega:n≤2*n+768)) b.1;have p:((n*bytes:Nat):Int)≤2 ^ 48:=by
    have B:((2 ^ 48:Nat):Int)=2 ^ 48:=by decide
    rw [←B];exact Int.ofNat_le.2 o
   rw [Int.natCast_mul]at p;omega
  have d:(Builtin.firstCells sz 0 (.slice base 0 0)).run Q w.drew=.ok #[] w.drew:=by
   cases base<;>simp [Builtin.firstCells,loadCells,loadCellsFrom]
  have M:¬ (n*sz=0):=by
   intro h;rcases atk.1 h with h | h<;>omega
  refine⟨nc,cq (nc-n) us,w.drew.alloc (.cells (cq n us++cq (nc-n) us).toArray e),L,?_,⟨rfl,rfl,rfl,rfl⟩,by rw [lJ,N]⟩;have W:¬ (n≤0):=by omega
  have hint:((n:Int)).toNat=n:=by simp
  simp only [Builtin.append_,Sem.run_bind,bj c,bj A,cY x,Result.andThen_ok,Sem.run_pure,arQ,if_false,Sem.run_ite,y,false_and,K,H,run_askRoom,
   Bool.not_true,if_true,Y,X,newRow,run_newObj,atd,asI,as8,j,S,I,J,hint,aso,W,v,M,d,true_or,and_true,Bool.true_eq]
  have B:#[]++(cq n us).toArray++(cq (nc-n) us).toArray=(cq n us++cq (nc-n) us).toArray:=by simp
  first
   | (rw [B];rfl)
   | (simp [B];rfl)
theorem ac_(U:SR Q σ X)(S:X.B≤X.w.heap.size){a:Act}{aA:T}(w:RR σ X aA a.tmps){o:Oper}{sz bytes:Nat}{zs:List FC}{x y:Arg}(N:dD Q σ o (.sV sz bytes zs x y)=ae){v:V}{H':aj}
  (h:bz aA X.H (.sV sz bytes zs x y)=aa (v,H')):gL Q σ X v H' (execOp a.eval o):=by
 simp only [dD]at N;split at N
 ·rename_i c ho;obtain⟨u,v',t,t',e,k,h1,h2,h3,J,L,f,F,s,g,hz,W⟩:=DU N;have J:=bN w J;have L:=bN w L;simp only [bz]at h;generalize i:a.eval u=O at J;generalize p:a.eval v'=uy at L;generalize x.ev aA=vx at J h;generalize y.ev aA=vy at L h;have l:∀(r:Value) (w':World),(Builtin.append_ #[t,t'] o.type #[O,uy]).run Q X.w=.ok r w'→(execOp a.eval o).run Q X.w=.ok (.value r) w':=by
   intro r w' hr;refine df ho h1 fun cs=>?_;simp [builtin,h2,h3,i,p,hr]
  unfold Fi at h;split at h
  ·rename_i n hn;obtain⟨k',E⟩:=jr L hn;split at h
   ·rename_i hc;obtain⟨z,us,a8,I,M,i0,A,B⟩:=eH (σ:=σ) (X:=X) hz X.w;have H:us.length=sz:=by have:=M.len;simp at this;omega
    obtain⟨m,rfl⟩:∃ m:Nat,n=m:=⟨n.toNat,by omega⟩
    have j:∀ base,O=.slice base 0 0→(v,H')=(.c (.sl X.H.length 0 m 0 0 sz),X.H++[.bM sz ((cq m zs).map .f) 0 0 .loc])→m≠0→bW m bytes=ae→gL Q σ X v H' (execOp a.eval o):=by
     intro base hb he d b;cases he;obtain⟨nc,rest,w',Y,K,q,Z⟩:=(vr (k':=k') f W F s g A B I H o.type (base:=base) (n:=m)).2 d b;obtain⟨X',g1,g2,g3,g4,g5,g6⟩:=Ye U S g (cs:=(cq m zs).map .f) (us:=cq m us) (kk M m) (n:=m) (nc:=nc) (by rw [asn,lJ,hc.2]) Z Y q;exact⟨_,X',.inl (by rw [g1];exact l _ _ (by rw [hb,E];exact K)),g2,g3,g5,g4,g6⟩
    split at h
    ·cases (J:cH σ X.F X.w .aF O);simp only [ar4]at h;split at h
     ·rename_i d;simp only [sh,IS]at h;obtain⟨rfl,rfl⟩:=h;exact⟨_,X,.inl (l _ _ (by rw [E];exact(vr (k':=k') f W F s g A B I H o.type (base:=ab) (n:=m)).1 d)),rfl,U,cH.aF,Ext.refl _ _,S⟩
     ·rename_i d;split at h
      ·rename_i b;simp only [sh]at h;exact j ab rfl h.symm d b
      ·simp at h
    ·cases (J:cH σ X.F X.w .es O);rename_i ad;simp only [ar4]at h;split at h
     ·rename_i d;simp only [sh,IS]at h;obtain⟨rfl,rfl⟩:=h;exact⟨_,X,.inl (l _ _ (by rw [E];exact(vr (k':=k') f W F s g A B I H o.type (base:=aa ad) (n:=m)).1 d)),rfl,U,cH.es _,Ext.refl _ _,S⟩
     ·rename_i d;split at h
      ·rename_i b;simp only [sh]at h;exact j (aa ad) rfl h.symm d b
      ·simp at h
    ·simp at h
   ·simp at h
  ·simp at h
 ·simp at N
end
section
variable{Q:Program}{σ:Nat→FuncId}{X:Wd}
theorem ajE(s:SR Q σ X)(m:X.B≤X.w.heap.size){a:Act}{aA:T}{o:Oper}{st:Os}{sz:Nat}(d:dD Q σ o (.pre st sz)=ae){v:V}{H':aj}
  (h:bz aA X.H (.pre st sz)=aa (v,H')):gL Q σ X v H' (execOp a.eval o):=by
 cases st with
 | nil=>
  simp only [bz]at h;split at h
  ·simp at h
  ·simp only [sh,IS]at h;obtain⟨rfl,rfl⟩:=h;obtain⟨j,l⟩:=SR.grow s (.bM sz [] 0 0 .nil);have q:VR σ { X with H:=X.H++[.bM sz [] 0 0 .nil] } (.c (.sl X.H.length 0 0 0 0 sz)) (.slice ab 0 0):=by
    have b:(X.H++[cT.bM sz [] 0 0 .nil])[X.H.length]?=aa (.bM sz [] 0 0 .nil):=by simp
    simp only [VR,gU,CR,fD,b];exact⟨OF _,fun _ _=>by simp,_,_,_,rfl⟩
   simp only [dD]at d;split at d
   ·rename_i g;exact⟨.slice ab 0 0,_,.inl (by simp [execOp,g,Act.eval]),rfl,j,q,l,m⟩
   ·rename_i g;exact⟨.slice ab 0 0,_,.inl (by simp [execOp,g,Act.eval]),rfl,j,q,l,m⟩
   ·simp at d
 | _=>simp [dD]at d
theorem Yc(u:SR Q σ X)(s:X.B≤X.w.heap.size){a:Act}{o:Oper}(b:dD Q σ o .kI=ae):gL Q σ X (.c (.mp X.H.length)) (X.H++[.map []]) (execOp a.eval o):=by
 simp only [dD]at b;split at b
 ·rename_i t v;obtain⟨X',g,d,j,l,m,q⟩:=SR.new u s (.map []) (dI.alloc X.w (.map #[] 0)) 0 fun X' z x y _=>⟨[],by rw [x];exact(dI.alloc _ _).new,A2.nil,by simp⟩
  exact⟨.map (aa X.w.heap.size),X',.inl (by rw [g];simp [execOp,v,Instr.makeMap]),d,j,⟨_,m,⟨[],by rw [d];simp⟩,rfl⟩,l,q⟩
 ·simp at b
theorem YY(E:SR Q σ X)(A:X.B≤X.w.heap.size){a:Act}{aA:T}(B:RR σ X aA a.tmps){o:Oper}{x:Arg}(d:dD Q σ o (.range x)=ae){v:V}{H':aj}
  (h:bz aA X.H (.range x)=aa (v,H')):gL Q σ X v H' (execOp a.eval o):=by
 simp only [dD]at d;split at d
 ·rename_i t y F;simp only [BY]at d;obtain⟨b,j⟩:=d;have b:=bN B b;simp only [bz]at h;split at h
  ·rename_i s H;rw [H]at b;have b:=VR.str b;simp only [sh,IS]at h;obtain⟨rfl,rfl⟩:=h;split at j
   ·rename_i I;obtain⟨X',l,g,m,q,u,z⟩:=SR.new E A (.it s 0) (dI.alloc X.w (.stringIter s 0)) 0 fun X' b J K _=>by
     show X'.w.heap[X.w.heap.size]?=_;rw [J];exact(dI.alloc _ _).new
    exact⟨.pointer (aa ⟨X.w.heap.size,0,ab⟩),X',.inl (by rw [l];simp [execOp,F,Instr.range,bj I,b]),g,m,⟨_,u,⟨s,0,by rw [g];simp⟩,rfl⟩,q,z⟩
   ·simp at j
  ·simp at h
 ·simp at d
theorem SR.qL(s:SR Q σ X){b:Nat}{bu blk':cT}{L:Loc}{o o':Obj}(x:X.H[b]?=aa bu)(q:X.cr b=aa L)(ho:X.w.heap[L.c]?=aa o)(m:∀ c e f,o≠.cells c e f)(j:∀ c e f,o'≠.cells c e f)
  (d:mz X { X with H:=X.H.set b blk',w:={ X.w with heap:=X.w.heap.setIfInBounds L.c o' } } b)
  (l:∀ X',Ext X.H.length X X'→X'.w.heap[L.c]?=aa o'→X'.F=X.F→X'.cr=X.cr→X'.H=X.H.set b blk'→BR Q σ X' blk' L) :
  SR Q σ { X with H:=X.H.set b blk',w:={ X.w with heap:=X.w.heap.setIfInBounds L.c o' } }∧Ext X.H.length X { X with H:=X.H.set b blk',w:={ X.w with heap:=X.w.heap.setIfInBounds L.c o' } }:=by
 have g:L.c<X.w.heap.size:=(s.br b L q).2.1;refine SR.turn s x q (by simp) (fun k y=>by simp [Array.getElem?_setIfInBounds_ne (Ne.symm y)]) (fun i _=>?_) rfl rfl rfl d (fun z=>l _ z (by simp [g]) rfl rfl rfl);have u:({ X.w with heap:=X.w.heap.setIfInBounds L.c o' }:World).cell? ⟨L.c,i,ab⟩=ab:=by
  simp only [World.cell?];rw [show(X.w.heap.setIfInBounds L.c o')[L.c]?=aa o' by simp [g]];cases o'<;>simp at j ⊢
 have v:X.w.cell? ⟨L.c,i,ab⟩=ab:=by
  simp only [World.cell?,ho];cases o<;>simp at m ⊢
 rw [u,v]
theorem aee(q:SR Q σ X)(A:X.B≤X.w.heap.size){a:Act}{aA:T}(M:RR σ X aA a.tmps){o:Oper}{x:Arg}(m:dD Q σ o (.next x)=ae){v:V}{H':aj}
  (h:bz aA X.H (.next x)=aa (v,H')):gL Q σ X v H' (execOp a.eval o):=by
 simp only [dD]at m;split at m
 ·rename_i y E;have H:=bN M m;simp only [bz]at h;unfold FQ at h;split at h
  ·rename_i b O;rw [O]at H;obtain⟨L,B,⟨S,p0,N⟩,F⟩:=H;split at h
   ·rename_i s pos l;obtain⟨_,_,bu,j,u⟩:=q.br b L B;rw [l]at j;simp only [sh]at j;subst j;have g:X.w.heap[L.c]?=aa (.stringIter s pos):=u;split at h
    ·rename_i z;simp only [sh,IS]at h;obtain⟨rfl,rfl⟩:=h;obtain⟨I,J⟩:=SR.qL (o':=.stringIter s (pos+(Utf8.decode s pos).2)) (blk':=.it s (pos+(Utf8.decode s pos).2)) q l B g (by simp) (by simp)
      (fun bu d=>⟨.it s (pos+(Utf8.decode s pos).2),by simp [(By.1 l).1],by rw [l]at d;simp only [sh]at d;subst d;exact fun L h=>h⟩)
      (fun X' _ K _ _ _=>K)
     refine⟨.tuple #[.bool ae,.int .i64 pos,.int .i32 (Utf8.decode s pos).1],_,.inl ?_,rfl,I,⟨[.bool ae,.int .i64 pos,.int .i32 (Utf8.decode s pos).1],rfl,?_⟩,J,by simpa using A⟩
     ·simp only [execOp,E];refine eb ?_;simp [Instr.next,F,getObj,setObj,Sem.run,g,z,goInt]
     ·exact A2.cons (cH.bool _) (A2.cons (cH.int _ _) (A2.cons (cH.int _ _) A2.nil))
    ·rename_i z;simp only [sh,IS]at h;obtain⟨rfl,rfl⟩:=h;refine⟨.tuple #[.bool ag],X,.inl ?_,rfl,q,⟨[.bool ag],rfl,A2.cons (cH.bool _) A2.nil⟩,Ext.refl _ _,A⟩;simp only [execOp,E];refine eb ?_;simp [Instr.next,F,getObj,Sem.run,g,z]
   ·simp at h
  ·simp at h
 ·simp at m
theorem BW{s:CK}{d:TypeDesc}(z:(s=.int∧∃ j,d=.int j)∨(s=.str∧d=.string)∨(s=.bool∧d=.bool)){F:Nat→Nat→Prop}{w:World}{k:FC}{v:C}{x:Value}(B:cH σ F w k x) :
  ∀ {R:C→Value→Prop} {l g:List (FC × C)} {b:List MapEntry},A2 (fun e m=>cH σ F w e.1 m.key∧R e.2 m.val) l b→∀(i:Nat),xU s k v l=aa g →
  (Instr.findNow d x b i=aa ab∧g=l++[(k,v)])∨∃(j:Nat) (u:Value) (m:MapEntry),Instr.findNow d x b i=aa (aa (i+j,u))∧b[j]?=aa m∧Instr.sameNow d x m.key=aa ae∧g=l.set j (k,v)
 | _,[],g,[],_,i,h=>by
  simp only [xU,sh]at h;subst h;exact .inl ⟨rfl,rfl⟩
 | _,[],_,_::_,q,_,_=>by have:=q.len;simp at this
 | _,_::_,_,[],q,_,_=>by have:=q.len;simp at this
 | _,e::l,g,m::b,q,i,h=>by
  obtain⟨⟨H,N⟩,E⟩:=q.of_cons;simp only [xU]at h;split at h
  ·rename_i A;simp only [sh]at h;subst h;have:=uJ z B H A;exact .inr ⟨0,m.val,m,by simp [Instr.findNow,this],rfl,this,rfl⟩
  ·rename_i A;simp only [IN]at h;obtain⟨I,J,rfl⟩:=h;have:=uJ z B H A;rcases BW z B E (i+1) J with⟨y,rfl⟩ | ⟨j,u,M,y,K,L,rfl⟩
   ·exact .inl ⟨by simp [Instr.findNow,this,y],rfl⟩
   ·exact .inr ⟨j+1,u,M,by simp [Instr.findNow,this,y];omega,by simpa using K,L,rfl⟩
  ·simp at h
theorem Cm{d:TypeDesc}{u v:Value}(h:Instr.sameNow d u v=aa ae)(n:Nat):Instr.sameBits n v u=ae:=by
 unfold Instr.sameNow at h;split at h
 ·split at h
  ·rename_i b;subst b;simp only [sh,beq_iff_eq]at h;subst h;simp [Instr.sameBits]
  ·simp at h
 ·simp only [sh,beq_toListBytes,beq_iff_eq]at h;simp [Instr.sameBits,beq_toListBytes,h]
 ·simp only [sh,beq_iff_eq]at h;subst h;simp [Instr.sameBits]
 ·simp at h
theorem akK{c:C}{u:Value}(h:VR σ X (mV c) u):gU σ X (mV c) u:=by
 cases c
 case cl f cs=>
  simp only [mV]at h ⊢;split at h
  ·rename_i b;rw [bp b];exact h
  ·rename_i b;rw [aZ b];exact h
 all_goals exact h
theorem X7(hS:SR Q σ X)(hB:X.B≤X.w.heap.size){a:Act}{aA:T}(hR:RR σ X aA a.tmps){o:Oper}{ck:CK}{x y z:Arg}(E:dD Q σ o (.kG ck x y z)=ae){v:V}{H':aj}
  (h:bz aA X.H (.kG ck x y z)=aa (v,H')):gL Q σ X v H' (execOp a.eval o):=by
 simp only [dD]at E;split at E
 ·rename_i t x' M Y ho;simp only [BY]at E;obtain⟨⟨⟨hx,K⟩,W⟩,ht⟩:=E;have hx:=bN hR hx;have K:=bN hR K;have W:=bN hR W;split at ht
  ·rename_i kt e hu;simp only [bz]at h;split at h
   ·rename_i b k vv c9 d6 d9;rw [c9]at hx;rw [d6]at K;rw [←X5 d9]at W;have W:gU σ X (mV vv) (a.eval Y):=akK W;obtain⟨L,hL,_,b_⟩:=hx;split at h
    ·rename_i es hb;split at h
     ·rename_i a9;simp only [IN,IS]at h;obtain⟨F,hp,rfl,rfl⟩:=h;obtain⟨_,_,bu,N,d3⟩:=hS.br b L hL;rw [hb]at N;simp only [sh]at N;subst N;obtain⟨q,I,h2,B⟩:=d3;have go:∀ d,Q.underlying kt=aa d→((ck=.int∧∃ j,d=.int j)∨(ck=.str∧d=.string)∨(ck=.bool∧d=.bool))→gL Q σ X .top (X.H.set b (.map F)) (execOp a.eval o):=by
       intro d A hd;have a8:∀(l:List MapEntry),(Instr.mapUpdate t (a.eval x') (a.eval M) (a.eval Y)).run Q X.w=.ok () { X.w with heap:=X.w.heap.setIfInBounds L.c (.map l.toArray l.length) } →
         A2 (fun(e:FC × C) (m:MapEntry)=>cH σ X.F X.w e.1 m.key∧gU σ X (mV e.2) m.val) F l→(∀(i:Nat) m,l[i]?=aa m→m.born=i)→gL Q σ X .top (X.H.set b (.map F)) (execOp a.eval o):=by
        intro l b9 hA c_;obtain⟨g1,g2⟩:=SR.qL (o':=.map l.toArray l.length) (blk':=.map F) hS hb hL I (by simp) (by simp)
         (fun bu H=>⟨.map F,by simp [(By.1 hb).1],by rw [hb]at H;simp only [sh]at H;subst H;exact fun L h=>h⟩)
         (fun X' U h1 hF _ _=>⟨l,h1,hA.lP fun e m h=>⟨cH.mono U.F U.fw h.1,gU.ext' σ U h.2⟩,c_⟩)
        exact⟨undef,_,.inr ⟨by simp [execOp,ho,b9],rfl⟩,rfl,g1,trivial,g2,by simpa using hB⟩
       rcases BW (R:=fun c u=>gU σ X (mV c) u) hd K h2 0 hp with⟨J,rfl⟩ | ⟨j,u,m,J,Z,h6,rfl⟩
       ·have O:A2 (fun(e:FC × C) (m:MapEntry)=>cH σ X.F X.w e.1 m.key∧gU σ X (mV e.2) m.val) [(k,vv)] [({ key:=a.eval M,val:=a.eval Y,born:=q.length }:MapEntry)]:=A2.cons (And.intro K W) A2.nil;refine a8 (q++[{ key:=a.eval M,val:=a.eval Y,born:=q.length }]) ?_ (h2.append O) ?_
        rotate_left
        ·intro i m E;by_cases hi:i<q.length
         ·rw [At hi]at E;exact B i m E
         ·rw [List.getElem?_append_right (by omega)]at E;have d5:i-q.length=0:=by
           have:=(By.1 E).1;simp at this;omega
          rw [d5]at E;simp only [asI,sh]at E;subst E;simp only;omega
        simp [Instr.mapUpdate,bj hu,b_,getObj,setObj,Sem.run,I,iq ht K a9,Instr.findKey,bj A,J]
       ·rw [aso]at J;refine a8 (q.set j { m with key:=a.eval M,val:=a.eval Y }) ?_ ?_ ?_
        ·have d8:(Instr.keyThatStays m.key (a.eval M)).run Q X.w=.ok (a.eval M) X.w:=by
          simp [Instr.keyThatStays,Cm h6 10000]
         have a_:q.modify j (fun e=>{ e with key:=a.eval M,val:=a.eval Y })=q.set j { m with key:=a.eval M,val:=a.eval Y }:=by
          apply List.ext_getElem?;intro i;simp only [List.getElem?_modify,as3];by_cases s:j=i
          ·subst s;have S:=(By.1 Z).1;have d7:=(By.1 Z).2;simp [Z,S,d7]
          ·simp [s]
         simp [Instr.mapUpdate,bj hu,b_,getObj,setObj,Sem.run,I,iq ht K a9,Instr.findKey,bj A,J,Z,d8,a_]
        ·refine⟨by simpa using h2.len,fun i e' m' he g=>?_⟩;rw [as3]at he g;split at he
         ·rename_i s;subst s;simp only [if_true]at g;have S:=(By.1 Z).1;have d_:=h2.len;rw [bp (by omega)]at he;rw [bp S]at g;simp only [sh]at he g;subst he;subst g;exact⟨K,W⟩
         ·rename_i s;rw [aZ s]at g;exact h2.2 i e' m' he g
        ·intro i m' g;rw [as3]at g;split at g
         ·rename_i s;subst s;split at g
          ·simp only [sh]at g;subst g;exact B j m Z
          ·simp at g
         ·exact B i m' g
      rcases lZ ht with⟨J,j,A⟩ | ⟨J,A⟩ | ⟨J,A⟩
      ·exact go _ A (.inl ⟨J,j,rfl⟩)
      ·exact go _ A (.inr (.inl ⟨J,rfl⟩))
      ·exact go _ A (.inr (.inr ⟨J,rfl⟩))
     ·simp at h
    ·simp at h
   ·simp at h
  ·simp at ht
 ·simp at E
theorem BO{c:Call}{sz:Nat}{zs:List FC}{x:Arg}(h:dL Q σ c (.clear sz zs x)=ae):∃ y t e,c.callee=.builtin .clear∧c.args=#[y]∧c.argTypes=#[t]∧mA σ x y=ae∧Q.underlying t=aa (.slice e)∧di Q e sz=ae∧lN Q e zs=ae:=by
 simp only [dL]at h;split at h
 ·rename_i y t d g j;simp only [BY]at h;obtain⟨m,b⟩:=h;obtain⟨e,l,b⟩:=gY b;simp only [BY]at b;exact⟨y,t,e,d,vU g,vU j,m,l,b.1,b.2⟩
 ·simp at h
theorem Xo(hS:SR Q σ X)(hB:X.B≤X.w.heap.size){a:Act}{aA:T}(hR:RR σ X aA a.tmps){o:Oper}{sz:Nat}{zs:List FC}{x:Arg}(J:dD Q σ o (.clear sz zs x)=ae){v:V}{H':aj}
  (h:bz aA X.H (.clear sz zs x)=aa (v,H')):gL Q σ X v H' (execOp a.eval o):=by
 simp only [dD]at J;split at J
 ·rename_i c Y;obtain⟨y,t,e,M,N,O,j,hu,c9,hz⟩:=BO J;have j:=bN hR j;simp only [bz,IN,IS]at h;obtain⟨H2,d,rfl,rfl⟩:=h;have done:VR σ X (.t []) (.tuple #[]):=⟨[],rfl,A2.nil⟩
  unfold uA at d;split at d
  ·rename_i p hp;rw [hp]at j;split at d
   ·rename_i U;simp only [sh]at d;subst d;obtain⟨ad,cp,g⟩:=iF j U;refine⟨.tuple #[],X,.inl (df Y M fun cs=>?_),rfl,hS,done,Ext.refl _ _,hB⟩;cases ad<;>simp [builtin,N,O,Builtin.clear_,bj hu,g]
   ·rename_i l W U;obtain⟨ad,cp,g⟩:=iF j U;split at d
    ·rename_i a_;obtain⟨z,us,F,H,I,_⟩:=eH (σ:=σ) (X:=X) hz X.w;have c_:us.length=zs.length:=by have:=I.len;simp at this;omega
     have u:l≠0:=fun e=>W (by rw [e]);have key:∀(b o' A:Nat),(∃ q,CR σ X (.ptr b o' A) (.pointer (aa q))∧ad=aa q)→cE X.H (.ptr b o' A) ((cq l zs).map .f)=aa H2→gL Q σ X (.t []) H2 (execOp a.eval o):=by
      rintro b o' A ⟨q,hq,rfl⟩ Z;obtain⟨cc,off,X',g1,K,g3,g4,g5,g6,g7⟩:=Zo hS hq (kk I l) Z;cases g1;by_cases b_:sz=0
      ·subst b_;have b9:zs=[]:=anc a_;have a8:us=[]:=anc (by omega);subst b9;subst a8;refine⟨.tuple #[],X',.inl (df Y M fun cs=>?_),g3,g4,⟨[],rfl,A2.nil⟩,g5,by omega⟩;have hr:cq l ([]:List Value)=[]:=by simp [cq]
       rw [hr]at K;simp [builtin,N,O,Builtin.clear_,bj hu,g,u,F,H,Builtin.zeroCells];cases l with
       | zero=>exact absurd rfl u| succ l=>simp [K]
      ·have a9:Builtin.zeroCells z.cells l=(cq l us).toArray:=by
        have:=iI us l (by omega);simpa [Builtin.zeroCells,H]using this
       refine⟨.tuple #[],X',.inl (df Y M fun cs=>?_),g3,g4,⟨[],rfl,A2.nil⟩,g5,by omega⟩;simp [builtin,N,O,Builtin.clear_,bj hu,g,F,a9];cases l with
       | zero=>exact absurd rfl u| succ l=>simp [K]
     split at d
     ·rename_i b o' l' cap A s;simp only [VR,gU,CR,fD]at j;split at d
      ·rename_i cs fl B;rw [B]at j;obtain⟨L,S,_,m⟩:=j;rw [g]at m;simp only [Value.slice.injEq]at m;refine key b o' A ⟨⟨L.c,o',ab⟩,⟨L,S,by rw [B]⟩,m.1⟩ d
      ·rename_i s' cs fl e' B;split at d
       ·rename_i E;rw [B]at j;obtain⟨L,S,k,_,_,m⟩:=j.2.1 E.1 E.2;rw [g]at m;simp only [Value.slice.injEq]at m;refine key b o' A ⟨⟨L.c,o',ab⟩,⟨L,S,?_⟩,m.1⟩ d;rw [B];exact⟨j.1,fun _=>rfl,_,rfl⟩
       ·simp at d
      ·simp at d
     ·simp at d
    ·simp at d
   ·simp at d
  ·simp at d
 ·simp at J
theorem Mx(B:SR Q σ X)(S:X.B≤X.w.heap.size){a:Act}{aA:T}(U:RR σ X aA a.tmps){o:Oper}{x:Arg}(l:dD Q σ o (.mj x)=ae){v:V}{H':aj}
  (h:bz aA X.H (.mj x)=aa (v,H')):gL Q σ X v H' (execOp a.eval o):=by
 simp only [dD]at l;split at l
 ·rename_i t y Y;simp only [BY]at l;obtain⟨j,E⟩:=l;have j:=bN U j;simp only [bz]at h;unfold tK at h;split at h
  ·rename_i b c;rw [c]at j;obtain⟨L,A,_,Z⟩:=j;split at h
   ·rename_i u m;split at h
    ·rename_i p;simp only [sh,IS]at h;obtain⟨rfl,rfl⟩:=h;obtain⟨_,_,bu,g,q⟩:=B.br b L A;rw [m]at g;simp only [sh]at g;subst g;obtain⟨d,H,I,_⟩:=q;split at E
     ·rename_i kt e s;obtain⟨X',J,z,K,M,N,O⟩:=SR.new B S (.vP b u.length ag) (dI.alloc X.w (.mapIter (aa L.c) d.length #[] d.length)) 0 fun X' j f k n=>by
       obtain⟨blk',i,F⟩:=j.bT b (By.1 m).1 _ m;cases blk'<;>simp only at F;refine⟨L,#[],d.length,F L A,⟨_,i⟩,?_,rfl⟩;rw [I.len,f];exact(dI.alloc _ _).new
      refine⟨.pointer (aa ⟨X.w.heap.size,0,ab⟩),X',.inl ?_,z,K,⟨_,N,⟨b,u.length,ag,by rw [z];simp⟩,rfl⟩,M,O⟩;have W:(getObj L.c).run Q X.w=.ok (.map d.toArray d.length) X.w:=by simp [getObj,Sem.run,H]
      rw [J];simp [execOp,Y,Instr.range,bj s,Z,W]
     ·simp at E
    ·simp at h
   ·simp at h
  ·simp at h
 ·simp at l
theorem Yf(s:SR Q σ X)(N:X.B≤X.w.heap.size){a:Act}{aA:T}(p:RR σ X aA a.tmps){o:Oper}{x:Arg}(E:dD Q σ o (.qu x)=ae){v:V}{H':aj}
  (h:bz aA X.H (.qu x)=aa (v,H')):gL Q σ X v H' (execOp a.eval o):=by
 simp only [dD]at E;split at E
 ·rename_i y S;have i:=bN p E;simp only [bz]at h;unfold zy at h;split at h
  ·rename_i b r;rw [r]at i;obtain⟨L,f,_,W⟩:=i;split at h
   ·rename_i m c done u;obtain⟨_,_,bu,d,l⟩:=s.br b L f;rw [u]at d;simp only [sh]at d;subst d;obtain⟨J,sn,st,M,_,B,q⟩:=l;split at h
    ·rename_i j;obtain⟨_,_,bu,d,l⟩:=s.br m J M;rw [j]at d;simp only [sh]at d;subst d;obtain⟨K,F,Z,_⟩:=l;have:K=[]:=anc Z.len.symm;subst this;split at h
     ·simp at h
     ·rename_i z;simp only [sh,IS]at h;obtain⟨rfl,rfl⟩:=h;simp only [z,arQ,if_false]at q;subst q;refine⟨.tuple #[.bool ag],X,.inl ?_,rfl,s,⟨[.bool ag],rfl,A2.cons (cH.bool _) A2.nil⟩,Ext.refl _ _,N⟩;simp only [execOp,S];refine eb ?_;simp [Instr.next,W,getObj,Sem.run,B,F,Result.andThen,choose,Question.forced]
    ·rename_i e j;obtain⟨H,F,Z,w,k⟩:=FM s M j;split at h
     ·rename_i z;simp only [sh,IS]at h;obtain⟨rfl,rfl⟩:=h;simp only [z,if_true]at q;obtain⟨rfl,rfl⟩:=q;refine⟨.tuple #[.bool ag],X,.inl ?_,rfl,s,⟨[.bool ag],rfl,A2.cons (cH.bool _) A2.nil⟩,Ext.refl _ _,N⟩;simp only [execOp,S];refine eb ?_;simp [Instr.next,W,getObj,Sem.run,B,F,k,Result.andThen,choose,Question.forced]
     ·rename_i z;split at h
      ·rename_i U;subst U;simp only [sh,IS]at h;obtain⟨rfl,rfl⟩:=h;simp only [z,arQ,if_false]at q;subst q;obtain⟨q1,I⟩:=SR.qL (o':=.mapIter (aa J.c) 1 #[0] 1) (blk':=.vP m 1 ae) s u f B (by simp) (by simp)
        (fun bu g=>⟨.vP m 1 ae,by simp [(By.1 u).1],by rw [u]at g;simp only [sh]at g;subst g;exact⟨⟨rfl,rfl⟩,fun L h=>h⟩⟩)
        (fun X' t Y _ A n=>by
         have O:b≠m:=fun e=>by rw [e,j]at u;cases u
         exact⟨J,#[0],1,by rw [A];exact M,⟨_,by rw [n,AI O];exact j⟩,Y,rfl,rfl⟩)
       refine⟨.tuple #[.bool ae,H.key,H.val],_,.inl ?_,rfl,q1,?_,I,by simpa using N⟩
       ·simp only [execOp,S];refine eb ?_;simp [Instr.next,W,getObj,setObj,Sem.run,B,F,k,Result.andThen,choose,Question.forced]
       ·exact⟨[.bool ae,H.key,H.val],rfl,A2.cons (cH.bool _) (A2.cons (cH.mono I.F I.fw Z) (A2.cons (gU.ext' σ I w) A2.nil))⟩
      ·simp at h
    ·simp at h
   ·simp at h
  ·simp at h
 ·simp at E
end
section
variable{Q:Program}{σ:Nat→FuncId}{X:Wd}
def da(a b:cT):Prop:=
 match a with
 | .box cs g=>(match b with
  | .box cs' d=>cs=cs'∧g≤d
  | _=>False)
 | .bM s cs g e st=>(match b with
  | .bM s' cs' d l j=>s=s'∧cs=cs'∧g≤d∧e=l∧st=j
  | _=>False)
 | a=>a=b
theorem da.refl(a:cT):da a a:=by cases a<;>simp [da]
theorem da.trans{a b c:cT}(h:da a b)(k:da b c):da a c:=by
 cases a<;>cases b<;>simp only [da,reduceCtorEq]at h<;>cases c<;>simp only [da,reduceCtorEq]at k ⊢
 ·exact⟨h.1.trans k.1,arZ h.2 k.2⟩
 ·exact⟨h.1.trans k.1,h.2.1.trans k.2.1,arZ h.2.2.1 k.2.2.1,h.2.2.2.1.trans k.2.2.2.1,h.2.2.2.2.trans k.2.2.2.2⟩
 all_goals exact h.trans k
def gj(H H':aj):Prop:=H.length=H'.length∧∀(b:Nat) bu blk',H[b]?=aa bu→H'[b]?=aa blk'→da bu blk'
theorem gj.refl(H:aj):gj H H:=⟨rfl,fun b bu blk' h d=>by rw [h]at d;cases d;exact da.refl _⟩
theorem gj.get{H H':aj}(h:gj H H'){b:Nat}{bu:cT}(g:H[b]?=aa bu):∃ blk',H'[b]?=aa blk'∧da bu blk':=by
 have j:=(By.1 g).1;have d:b<H'.length:=by have:=h.1;omega
 exact⟨_,AT d,h.2 b _ _ g (AT d)⟩
theorem gj.trans{A B C:aj}(h:gj A B)(k:gj B C):gj A C:=
 ⟨h.1.trans k.1,fun b x z g j=>by obtain⟨y,hy,d⟩:=h.get g;exact d.trans (k.2 b y z hy j)⟩
theorem gj.none{H H':aj}(h:gj H H'){b:Nat}(d:H[b]?=ab):H'[b]?=ab:=by
 rw [asJ]at d ⊢;have:=h.1;omega
theorem gj.set{H:aj}{b:Nat}{bu blk':cT}(g:H[b]?=aa bu)(h:da bu blk'):gj H (H.set b blk'):=by
 have j:=(By.1 g).1;refine⟨by simp,fun i x y d hy=>?_⟩;by_cases hi:i=b
 ·subst hi;simp only [as3,if_true,j]at hy;rw [g]at d;cases d;cases hy;exact h
 ·rw [AI (Ne.symm hi)]at hy;rw [d]at hy;cases hy;exact da.refl _
theorem gj.foldl{f:aj→C→aj}(b:∀ H x,gj H (f H x)):∀(xs:List C) (H:aj),gj H (xs.foldl f H)
 | [],H=>gj.refl H| x::xs,H=>(b H x).trans (gj.foldl b xs (f H x))
theorem kV:∀(n:Nat) (x:C) (H:aj),gj H (jt n x H)
 | n,.f _,H=>by cases n<;>exact gj.refl H
 | 0,.ptr _ _ _,H=>gj.refl H| 0,.sl _ _ _ _ _ _,H=>gj.refl H| 0,.cl _ _,H=>gj.refl H| 0,.yl _,H=>gj.refl H| 0,.mp _,H=>gj.refl H| 0,.it _,H=>gj.refl H| 0,.bm _ _,H=>gj.refl H| 0,.mi _,H=>gj.refl H
 | n+1,.ptr b off m,H=>by
  simp only [jt];split
  ·rename_i cs j d;exact(gj.set d (by exact⟨rfl,asa _ _⟩)).trans (gj.foldl (fun H x=>kV n x H) _ _)
  ·exact gj.refl H
 | n+1,.sl b o l c m sz,H=>by
  simp only [jt];split
  ·rename_i cs j d;exact(gj.set d (by exact⟨rfl,asa _ _⟩)).trans (gj.foldl (fun H x=>kV n x H) _ _)
  ·rename_i s cs j e st d;exact(gj.set d (by exact⟨rfl,rfl,asa _ _,rfl,rfl⟩)).trans (gj.foldl (fun H x=>kV n x H) _ _)
  ·exact gj.refl H
 | n+1,.cl f g,H=>gj.foldl (fun H x=>kV n x H) _ _
 | n+1,.yl _,H=>gj.refl H| n+1,.mp _,H=>gj.refl H| n+1,.it _,H=>gj.refl H| n+1,.bm _ _,H=>gj.refl H| n+1,.mi _,H=>gj.refl H
theorem eZ{b j:Type}{f g:b→Option j}:∀ {xs:List b},(∀ x ∈ xs,f x=g x)→ba f xs=ba g xs
 | [],_=>rfl| x::xs,h=>by rw [ba,ba,h x (by simp),eZ (xs:=xs) (fun y d=>h y (List.mem_cons_of_mem _ d))]
theorem nu:∀(n:Nat) {H H':aj},gj H H'→∀(x:C),c8 n H' x=c8 n H x
 | n,H,H',h,.f _=>by cases n<;>rfl
 | 0,H,H',h,.ptr _ _ _=>rfl| 0,H,H',h,.sl _ _ _ _ _ _=>rfl| 0,H,H',h,.cl _ _=>rfl| 0,H,H',h,.yl _=>rfl| 0,H,H',h,.mp _=>rfl| 0,H,H',h,.it _=>rfl| 0,H,H',h,.bm _ _=>rfl| 0,H,H',h,.mi _=>rfl
 | n+1,H,H',h,.ptr b off s=>by
  simp only [c8];cases m:H[b]? with
  | none=>rw [h.none m]
  | some bu=>
   obtain⟨blk',d,j⟩:=h.get m;rw [d];cases bu<;>cases blk'<;>simp only [da,reduceCtorEq]at j
   ·obtain⟨rfl,_⟩:=j;simp only [eZ (g:=c8 n H) fun x _=>nu n h x]
   all_goals rfl
 | n+1,H,H',h,.sl b o l c s sz=>by
  simp only [c8];cases m:H[b]? with
  | none=>rw [h.none m]
  | some bu=>
   obtain⟨blk',d,j⟩:=h.get m;rw [d];cases bu<;>cases blk'<;>simp only [da,reduceCtorEq]at j
   ·obtain⟨rfl,_⟩:=j;simp only [eZ (g:=c8 n H) fun x _=>nu n h x]
   ·obtain⟨rfl,rfl,u,rfl,rfl⟩:=j;clear u;rename_i st _;cases st<;>simp only [eZ (g:=c8 n H) fun x _=>nu n h x]
   all_goals rfl
 | n+1,H,H',h,.cl f q=>by simp only [c8,eZ (g:=c8 n H) fun x _=>nu n h x]
 | n+1,H,H',h,.yl _=>rfl| n+1,H,H',h,.mp _=>rfl| n+1,H,H',h,.it _=>rfl| n+1,H,H',h,.bm _ _=>rfl| n+1,H,H',h,.mi _=>rfl
def dB:Nat→aj→C→Prop
 | _,_,.f _=>True| 0,_,_=>True| n+1,H,.ptr b _ _=>∀ cs d,H[b]?=aa (.box cs d)→cs.length≤d∧∀ x ∈ cs,dB n H x
 | n+1,H,.sl b o l _ _ sz=>∀ bu,H[b]?=aa bu→match bu with
  | .box cs d=>o+l*sz≤d∧∀ x ∈ (cs.drop o).take (l*sz),dB n H x| .bM _ cs d _ .loc=>o+l*sz≤d∧∀ x ∈ (cs.drop o).take (l*sz),dB n H x| _=>True
 | n+1,H,.cl _ g=>∀ x ∈ g,dB n H x| _,_,_=>True
theorem dB.le:∀(n:Nat) {H H':aj},gj H H'→∀ {x:C},dB n H x→dB n H' x
 | n,H,H',h,.f _,_=>by cases n<;>trivial
 | 0,H,H',h,.ptr _ _ _,_=>trivial| 0,H,H',h,.sl _ _ _ _ _ _,_=>trivial| 0,H,H',h,.cl _ _,_=>trivial| 0,H,H',h,.yl _,_=>trivial| 0,H,H',h,.mp _,_=>trivial| 0,H,H',h,.it _,_=>trivial| 0,H,H',h,.bm _ _,_=>trivial| 0,H,H',h,.mi _,_=>trivial
 | n+1,H,H',h,.ptr b off A,v=>by
  intro cs F m;have y:=(By.1 m).1;have s:b<H.length:=by have:=h.1;omega
  have d:=h.2 b _ _ (AT s) m;cases g:H[b]<;>rw [g]at d<;>simp only [da,reduceCtorEq]at d;obtain⟨rfl,q⟩:=d;obtain⟨B,E⟩:=v _ _ (by rw [AT s,g]);exact⟨arZ B q,fun x u=>dB.le n h (E x u)⟩
 | n+1,H,H',h,.sl b o l c A sz,v=>by
  intro blk' m;have y:=(By.1 m).1;have s:b<H.length:=by have:=h.1;omega
  have d:=h.2 b _ _ (AT s) m;have j:=v _ (AT s);cases g:H[b]<;>rw [g]at d j<;>cases blk'<;>simp only [da,reduceCtorEq]at d<;>try simp only
  ·obtain⟨rfl,q⟩:=d;exact⟨arZ j.1 q,fun x u=>dB.le n h (j.2 x u)⟩
  ·obtain⟨rfl,rfl,q,rfl,rfl⟩:=d;rename_i st _;cases st<;>simp only at j ⊢;exact⟨arZ j.1 q,fun x u=>dB.le n h (j.2 x u)⟩
 | n+1,H,H',h,.cl f z,v=>fun x u=>dB.le n h (v x u)
 | n+1,H,H',h,.yl _,_=>trivial| n+1,H,H',h,.mp _,_=>trivial| n+1,H,H',h,.it _,_=>trivial| n+1,H,H',h,.bm _ _,_=>trivial| n+1,H,H',h,.mi _,_=>trivial
theorem fo{n:Nat}(b:∀(x:C) (H:aj),dB n (jt n x H) x):∀(xs:List C) (H:aj),∀ x ∈ xs,dB n (xs.foldl (fun H x=>jt n x H) H) x
 | y::ys,H,x,d=>by
  simp only [asL];rcases ass.1 d with rfl | d
  ·exact dB.le n (gj.foldl (fun H x=>kV n x H) ys _) (b x H)
  ·exact fo b ys _ x d
theorem gN:∀(n:Nat) (x:C) (H:aj),dB n (jt n x H) x
 | n,.f _,H=>by cases n<;>trivial
 | 0,.ptr _ _ _,H=>trivial| 0,.sl _ _ _ _ _ _,H=>trivial| 0,.cl _ _,H=>trivial| 0,.yl _,H=>trivial| 0,.mp _,H=>trivial| 0,.it _,H=>trivial| 0,.bm _ _,H=>trivial| 0,.mi _,H=>trivial
 | n+1,.ptr b off I,H=>by
  simp only [jt];cases u:H[b]? with
  | none=>intro cs E h;exfalso;simp only at h;exact absurd (u.symm.trans h) (by simp)
  | some bu=>
   cases bu with
   | box d g=>
    intro cs E h;have s:=(By.1 u).1;simp only at h ⊢;have z:=gj.foldl (fun H x=>kV n x H) d (H.set b (.box d (Nat.max g d.length)));obtain⟨blk',j,m⟩:=z.get (b:=b) (bu:=.box d (Nat.max g d.length)) (by simp [s]);rw [h]at j;cases j;obtain⟨rfl,q⟩:=m;exact⟨arZ (ar2 _ _) q,fun x v=>fo (fun x H=>gN n x H) _ _ x v⟩
   | _=>intro cs E h;simp only at h;rw [u]at h;cases h
 | n+1,.sl b o l c I sz,H=>by
  simp only [jt];cases u:H[b]? with
  | none=>intro bu h;exfalso;simp only at h;exact absurd (u.symm.trans h) (by simp)
  | some bu=>
   have s:=(By.1 u).1;cases bu with
   | box d g=>
    intro bu h;simp only at h ⊢;have z:=gj.foldl (fun H x=>kV n x H) ((d.drop o).take (l*sz)) (H.set b (.box d (Nat.max g (o+l*sz))));obtain⟨blk',j,m⟩:=z.get (b:=b) (bu:=.box d (Nat.max g (o+l*sz))) (by simp [s]);rw [h]at j;cases j;cases bu<;>simp only [da,reduceCtorEq]at m;obtain⟨rfl,q⟩:=m;exact⟨arZ (ar2 _ _) q,fun x v=>fo (fun x H=>gN n x H) _ _ x v⟩
   | bM F d g B y=>
    intro bu h;simp only at h ⊢;have z:=gj.foldl (fun H x=>kV n x H) ((d.drop o).take (l*sz)) (H.set b (.bM F d (Nat.max g (o+l*sz)) B y));obtain⟨blk',j,m⟩:=z.get (b:=b) (bu:=.bM F d (Nat.max g (o+l*sz)) B y) (by simp [s]);rw [h]at j;cases j;cases bu<;>simp only [da,reduceCtorEq]at m;obtain⟨rfl,rfl,q,rfl,rfl⟩:=m;cases y<;>simp only;exact⟨arZ (ar2 _ _) q,fun x v=>fo (fun x H=>gN n x H) _ _ x v⟩
   | _=>intro bu h;simp only at h;rw [u]at h;cases h;simp
 | n+1,.cl f A,H=>fun x v=>fo (fun x H=>gN n x H) _ _ x v
 | n+1,.yl _,H=>trivial| n+1,.mp _,H=>trivial| n+1,.it _,H=>trivial| n+1,.bm _ _,H=>trivial| n+1,.mi _,H=>trivial
end
section
variable{Q:Program}{σ:Nat→FuncId}{X:Wd}
def cZ(H H':aj):Prop:=∀(b:Nat) bu,H[b]?=aa bu→∃ blk',H'[b]?=aa blk'∧da bu blk'
theorem cZ.refl(H:aj):cZ H H:=fun _ bu h=>⟨bu,h,da.refl _⟩
theorem cZ.trans{A B C:aj}(h:cZ A B)(k:cZ B C):cZ A C:=fun b x j=>by
 obtain⟨y,hy,d⟩:=h b x j;obtain⟨z,l,g⟩:=k b y hy;exact⟨z,l,d.trans g⟩
theorem gj.ext{H H':aj}(h:gj H H'):cZ H H':=fun _ _ b=>h.get b
theorem cZ.append(H H':aj):cZ H (H++H'):=fun b bu d=>⟨bu,by rw [At (By.1 d).1];exact d,da.refl _⟩
theorem cZ.len{H H':aj}(h:cZ H H'):H.length≤H'.length:=by
 rcases ar9 H'.length H.length with d | b
 ·obtain⟨y,hy,_⟩:=h H'.length _ (AT d);have:=(By.1 hy).1;omega
 ·exact b
theorem SR.ahead(l:SR Q σ X){H':aj}(h:cZ X.H H'):SR Q σ { X with H:=H' }∧Ext X.H.length X { X with H:=H' }:=by
 have u:Ext X.H.length X { X with H:=H' }:=
  {B:=rfl,F:=fun _ _ h=>h,pO:=fun _ _ h=>.inl h,fw:=fun _ _ _=>rfl
   bT:=fun b _ bu m=>by
    obtain⟨blk',q,d⟩:=h b bu m;refine⟨blk',q,?_⟩;cases bu<;>cases blk'<;>simp only [da,reduceCtorEq]at d<;>simp_all
   xH:=fun b L h=>.inl ⟨b,L,h,rfl⟩,size:=OF _,os:=rfl,tape:=rfl,output:=rfl,frame:=fun _ _ _=>rfl }
 refine⟨⟨fun b L m=>?_,l.inj,l.fb⟩,u⟩;obtain⟨y,z,bu,A,E⟩:=l.br b L m;obtain⟨blk',I,g⟩:=h b bu A;refine⟨y,z,blk',I,?_⟩;have j:BR Q σ { X with H:=H' } bu L:=BR.ext Q σ u rfl (fun _ h=>h) E;cases bu<;>cases blk'<;>simp only [da,reduceCtorEq]at g
 ·obtain⟨rfl,d⟩:=g;obtain⟨us,g1,g2,g3⟩:=j;exact⟨us,g1,g2,fun i hi=>g3 i (arZ d hi)⟩
 ·obtain⟨rfl,rfl,d,rfl,rfl⟩:=g;obtain⟨s,us,rest,g1,g2,g3,g4,v,x⟩:=j;exact⟨s,us,rest,g1,g2,g3,g4,v,fun i hi=>x i (arZ d hi)⟩
 all_goals (rw [←g];exact j)
def ze:cT→Nat→Prop
 | .box cs b,i=>i<b∧i<cs.length| .bM _ cs b _ _,i=>i<b∧i<cs.length| _,_=>False
def FL(X:Wd):Prop:=∀ b L i bu,X.cr b=aa L→X.H[b]?=aa bu→ze bu i→X.F L.c i
def Wd.flag(X:Wd):Wd:={ X with F:=fun c i=>X.F c i∨∃ b L bu,X.cr b=aa L∧L.c=c∧X.H[b]?=aa bu∧ze bu i }
theorem SR.flag(v:SR Q σ X):SR Q σ X.flag∧Ext X.H.length X X.flag∧FL X.flag:=by
 have g:Ext X.H.length X X.flag:=
  {B:=rfl,F:=fun _ _ h=>.inl h
   pO:=fun c i h=>by
    rcases h with h | ⟨b,L,bu,j,l,_⟩
    ·exact .inl h
    ·exact .inr (.inr ⟨b,L,j,l⟩)
   fw:=fun _ _ _=>rfl
   bT:=fun b _=>by
    intro bu y;refine⟨bu,y,?_⟩;cases bu<;>simp [Wd.flag]
   xH:=fun b L h=>.inl ⟨b,L,h,rfl⟩,size:=OF _,os:=rfl,tape:=rfl,output:=rfl,frame:=fun _ _ _=>rfl }
 refine⟨⟨fun b L y=>?_,v.inj,fun c i h=>?_⟩,g,fun b L i bu j l x=>.inr ⟨b,L,bu,j,rfl,l,x⟩⟩
 ·obtain⟨j,l,bu,x,u⟩:=v.br b L y;refine⟨j,l,bu,x,?_⟩;have key:∀ i,X.flag.F L.c i→X.F L.c i∨ze bu i:=by
   rintro i (h | ⟨E,K,blk',g1,g2,g3,g4⟩)
   ·exact .inl h
   ·have:E=b:=v.inj _ _ _ _ g1 y g2;subst this;rw [x]at g3;cases g3;exact .inr g4
  cases bu with
  | box cs H=>
   obtain⟨us,g1,g2,g3⟩:=u;exact⟨us,g1,A2.ext' σ g g2,fun i hi z=>(key i z).elim (g3 i hi) fun h=>by have:=h.1;omega⟩
  | bM sz cs H M st=>
   obtain⟨A,us,rest,g1,g2,g3,g4,I,J⟩:=u;exact⟨A,us,rest,g1,A2.ext' σ g g2,g3,g4,I,fun i hi z=>(key i z).elim (J i hi) fun h=>by have:=h.1;omega⟩
  | map es=>exact BR.ext Q σ g rfl (fun i h=>(key i h).elim id False.elim) u
  | it s p=>exact BR.ext Q σ g rfl (fun i h=>(key i h).elim id False.elim) u
  | kT b=>exact BR.ext Q σ g rfl (fun i h=>(key i h).elim id False.elim) u
  | vP m s d=>exact BR.ext Q σ g rfl (fun i h=>(key i h).elim id False.elim) u
  | lp f t p a c st q d=>exact BR.ext Q σ g rfl (fun i h=>(key i h).elim id False.elim) u
 ·rcases h with h | ⟨b,L,bu,j,l,_⟩
  ·exact v.fb c i h
  ·rw [←l];exact(v.br b L j).2.1
theorem fO{d g:Type}{f:d→Option g}:∀ {xs:List d} {ys:List g},ba f xs=aa ys→A2 (fun x y=>f x=aa y) xs ys
 | [],ys,h=>by simp only [ba,sh]at h;subst h;exact A2.nil
 | x::xs,ys,h=>by
  simp only [ba]at h;split at h
  ·simp at h
  ·rename_i y j;split at h
   ·simp at h
   ·rename_i l b;simp only [sh]at h;subst h;exact A2.cons j (fO b)
theorem frz(hS:SR Q σ X)(hF:FL X){H:aj}(Y:cZ H X.H):∀(n:Nat) {x:C} {y:FC} {v:Value},c8 n H x=aa y→dB n H x→CR σ X x v→cH σ X.F X.w y v
 | n,.f x,y,v,d,_,B=>by
  have:c8 n H (.f x)=aa x:=by cases n<;>rfl
  rw [this]at d;cases d;exact B
 | 0,.ptr _ _ _,y,v,d,_,_=>by simp [c8]at d
 | 0,.sl _ _ _ _ _ _,y,v,d,_,_=>by simp [c8]at d
 | 0,.cl _ _,y,v,d,_,_=>by simp [c8]at d
 | 0,.yl _,y,v,d,_,_=>by simp [c8]at d
 | 0,.mp _,y,v,d,_,_=>by simp [c8]at d
 | 0,.it _,y,v,d,_,_=>by simp [c8]at d
 | 0,.bm _ _,y,v,d,_,_=>by simp [c8]at d
 | 0,.mi _,y,v,d,_,_=>by simp [c8]at d
 | n+1,.ptr b off ep,y,v,d,hm,B=>by
  simp only [c8]at d;split at d
  ·rename_i cs M K;simp only [IN]at d;obtain⟨ys,g,rfl⟩:=d;obtain⟨O,I⟩:=hm cs M K;obtain⟨blk',m,j⟩:=Y b _ K;cases blk'<;>simp only [da,reduceCtorEq]at j;obtain⟨rfl,j⟩:=j;rename_i W;obtain⟨L,U,B⟩:=B;simp only [m]at B;subst B;obtain⟨_,_,bu,E,N⟩:=hS.br b L U;rw [m]at E;cases E;obtain⟨us,A,z,_⟩:=N;have g:=fO g;have:=cH.fp (σ:=σ) (F:=X.F) (w:=X.w) ys off L.c 0 us (by rw [←z.len,g.len])
    (fun i hi=>by rw [aso];exact hF b L i _ U m ⟨by have:=g.len;omega,by have:=g.len;omega⟩)
    (fun i u S=>by rw [aso,dd A];exact S)
    (fun i y u hy S=>by
     have hi:i<cs.length:=by rw [g.len];exact(By.1 hy).1
     have Z:=AT hi;exact frz hS hF Y n (g.2 i _ _ Z hy) (I _ (IT hi)) (z.2 i _ _ Z S))
   rw [aso]at this;exact this
  ·simp at d
 | n+1,.sl b o l c ep sz,y,v,d,hm,B=>by
  have key:∀(cs:List C) (M:Nat) (blk':cT) (L:Loc) (us rest:List Value) (ys:List FC) (cap:Nat),o+l*sz≤cs.length→o+l*sz≤M →
    (∀ i,i<M→i<cs.length→ze blk' i)→X.H[b]?=aa blk'→X.cr b=aa L→rowAt X.w L.c (us++rest)→A2 (CR σ X) cs us →
    (∀ x ∈ (cs.drop o).take (l*sz),dB n H x)→ba (c8 n H) ((cs.drop o).take (l*sz))=aa ys→l≤cap→cH σ X.F X.w (.fs ys l) (.slice (aa ⟨L.c,o,ab⟩) l cap):=by
   intro cs M blk' L us rest ys cap q O a8 m U A z I g J;have g:=fO g;have b_:=z.len;have b9:ys.length=l*sz:=by rw [←g.len];simp;omega
   have a_:=(z.drop o).take (l*sz);refine .fs ys l L.c o cap ((us.drop o).take (l*sz)) J (by rw [b9];simp;omega) (fun i hi=>hF b L _ _ U m (a8 _ (by omega) (by omega))) (fun i u S=>?_) (fun i y u hy S=>?_)
   ·have hi:i<l*sz:=by
     have:=(By.1 S).1;simp at this;omega
    rw [dd A,At (by omega)];rw [List.getElem?_take_of_lt hi,arV]at S;exact S
   ·have hi:i<((cs.drop o).take (l*sz)).length:=by rw [g.len];exact(By.1 hy).1
    have Z:=AT hi;exact frz hS hF Y n (g.2 i _ _ Z hy) (I _ (IT hi)) (a_.2 i _ _ Z S)
  simp only [c8]at d;simp only [CR,fD]at B;split at d
  ·rename_i cs M K;split at d
   ·rename_i q;simp only [IN]at d;obtain⟨ys,g,rfl⟩:=d;obtain⟨O,I⟩:=hm _ K;obtain⟨blk',m,j⟩:=Y b _ K;cases blk'<;>simp only [da,reduceCtorEq]at j;obtain⟨rfl,j⟩:=j;rename_i W;simp only [m]at B;obtain⟨L,U,J,rfl⟩:=B;obtain⟨_,_,bu,E,N⟩:=hS.br b L U;rw [m]at E;cases E;obtain⟨us,A,z,_⟩:=N;exact key cs M (.box cs W) L us [] ys c q O (fun i h1 h2=>⟨by omega,h2⟩) m U (by simpa using A) z I g J
   ·simp at d
  ·rename_i s cs M e K;split at d
   ·rename_i q;obtain⟨rfl,rfl,q⟩:=q;simp only [IN]at d;obtain⟨ys,g,rfl⟩:=d;obtain⟨O,I⟩:=hm _ K;obtain⟨blk',m,j⟩:=Y b _ K;cases blk'<;>simp only [da,reduceCtorEq]at j;obtain⟨rfl,rfl,j,rfl,rfl⟩:=j;rename_i W;simp only [m]at B;obtain⟨L,U,k,ho,J,rfl⟩:=B.2.1 trivial trivial;obtain⟨_,_,bu,E,N⟩:=hS.br b L U;rw [m]at E;cases E;obtain⟨_,us,rest,A,z,_⟩:=N;exact key cs M (.bM sz cs W ep .loc) L us rest ys _ q O (fun i h1 h2=>⟨by omega,h2⟩) m U A z I g (by omega)
   ·simp at d
  ·rename_i s cs M e K;split at d
   ·rename_i q;obtain⟨rfl,rfl⟩:=q;cases d;obtain⟨blk',m,j⟩:=Y b _ K;cases blk'<;>simp only [da,reduceCtorEq]at j;obtain⟨rfl,rfl,j,rfl,rfl⟩:=j;simp only [m]at B;obtain⟨_,_,rfl⟩:=B.2.1 trivial trivial;exact .aF
   ·simp at d
  ·rename_i s cs M e K;split at d
   ·rename_i q;obtain⟨rfl,rfl⟩:=q;cases d;obtain⟨blk',m,j⟩:=Y b _ K;cases blk'<;>simp only [da,reduceCtorEq]at j;obtain⟨rfl,rfl,j,rfl,rfl⟩:=j;simp only [m]at B;obtain⟨_,_,a,rfl⟩:=B.2.1 trivial trivial;exact .es a
   ·simp at d
  ·simp at d
 | n+1,.cl f a9,y,v,d,hm,B=>by
  simp only [c8,IN]at d;obtain⟨ys,g,rfl⟩:=d;obtain⟨us,rfl,z⟩:=B;have g:=fO g;refine .fn f ys us (by rw [←z.len,g.len]) fun i y u hy S=>?_;have hi:i<a9.length:=by rw [g.len];exact(By.1 hy).1
  have Z:=AT hi;exact frz hS hF Y n (g.2 i _ _ Z hy) (hm _ (IT hi)) (CR.ZS σ (z.2 i _ _ Z S))
 | n+1,.yl _,y,v,d,_,_=>by simp [c8]at d
 | n+1,.mp _,y,v,d,_,_=>by simp [c8]at d
 | n+1,.it _,y,v,d,_,_=>by simp [c8]at d
 | n+1,.bm _ _,y,v,d,_,_=>by simp [c8]at d
 | n+1,.mi _,y,v,d,_,_=>by simp [c8]at d
end
section
variable{Q:Program}{σ:Nat→FuncId}{X:Wd}
theorem SR.skip(g:SR Q σ X){w':World}{o:Obj}(d:dI X.w w' o)(q:X.B≤X.w.heap.size):∃ X':Wd,X'.w=w'∧X'.H=X.H∧SR Q σ X'∧Ext X.H.length X X'∧X'.B≤X'.w.heap.size:=by
 have j:Ext X.H.length X { X with w:=w' }:=Ext.one g X.H.length rfl (fun _ _=>Iff.rfl) (fun k m _=>d.CP m)
  (fun L i h=>by rw [SR.rY g]at h;simp at h) (fun h=>absurd h (ati _)) (fun _ _ _=>rfl) (fun _ _=>rfl) (fun L h=>.inl ⟨L,h,rfl⟩) (by show _≤w'.heap.size;rw [d.size];omega) d.os d.tape d.output
 refine⟨{ X with w:=w' },rfl,rfl,SR.step Q σ g j X.H.length (fun _ _=>rfl) (fun _ _=>rfl) (fun b L _ l=>d.CP (g.br b L l).2.1)
  (fun _ _ _ _ _ h=>h) (fun L h=>by change X.cr X.H.length=aa L at h;rw [SR.rY g]at h;simp at h) (fun c i h=>?_),j,?_⟩
 ·have:=g.fb c i h;show c<w'.heap.size;rw [d.size];omega
 ·show X.B≤w'.heap.size;rw [d.size];omega
theorem wrap_small{n:Int}(b:0≤n)(d:n<2 ^ 63):IntKind.i64.wrap n=n:=by
 have:n % (2 ^ 64:Int)=n:=Int.emod_eq_of_lt b (by omega);simp only [IntKind.wrap,IntKind.bits,IntKind.signed,this,Bool.true_and,decide_eq_true_eq];rw [aZ (by show¬ n≥2 ^ (64-1);omega)]
theorem D6(hS:SR Q σ X)(hB:X.B≤X.w.heap.size){a:Act}{aA:T}(hR:RR σ X aA a.tmps){o:Oper}{sz bytes:Nat}{zs:List FC}{x y:Arg}(F:dD Q σ o (.cM sz bytes zs x y)=ae){v:V}{H':aj}
  (h:bz aA X.H (.cM sz bytes zs x y)=aa (v,H')):gL Q σ X v H' (execOp a.eval o):=by
 simp only [dD]at F;split at F
 ·rename_i t x' y' ho;simp only [BY,decide_eq_true_eq]at F;obtain⟨⟨⟨k,r⟩,O⟩,b9⟩:=F;have k:=bN hR k;have r:=bN hR r;obtain⟨e,hu,O⟩:=gY O;simp only [BY]at O;obtain⟨⟨j,Z⟩,hz⟩:=O;obtain⟨z,us,a8,a9,M,d6,c9,c_⟩:=eH (σ:=σ) (X:=X) hz X.w;obtain⟨b_,u,A⟩:=zM Z X.w;simp only [bz]at h;split at h
  ·rename_i l c hl hc;obtain⟨kl,p⟩:=jr k hl;obtain⟨kc,w⟩:=jr r hc;split at h
   ·rename_i s;obtain⟨h0,d3,g,d5⟩:=s;unfold bW at g;simp only [BY,decide_eq_true_eq]at g;have J:us.length=sz:=by have:=M.len;simp at this;omega
    have L:=wrap_small (n:=l) h0 (by omega);have K:=wrap_small (n:=c) (by omega) (by omega);have a_:c.toNat*bytes≤2 ^ 48:=by
     have:c.toNat*bytes≤(2*c.toNat+768)*bytes:=asE _ (by omega);omega
    have m:¬ ((bytes:Int)*c>2 ^ 48):=by
     have e1:(bytes:Int)*c=((c.toNat*bytes:Nat):Int):=by
      rw [Int.natCast_mul,asO];congr 1;omega
     rw [e1];omega
    have I:((Array.range (c.toNat*sz)).map fun i=>us.toArray[i % us.toArray.size]!)=(cq c.toNat us).toArray:=by
     have:=iI us c.toNat (by omega);rwa [J]at this
    have run:(execOp a.eval o).run Q X.w=.ok (.value (.slice (aa ⟨X.w.heap.size,0,ab⟩) l.toNat c.toNat)) (X.w.alloc (.cells (cq c.toNat us).toArray e)):=by
     simp only [execOp,ho];refine eb ?_;rw [p,w];have B:¬ c<0:=by omega
     have E:¬ l<0:=by omega
     have q:¬ l>c:=by omega
     by_cases d:c.toNat*sz=0
     ·have f:cq c.toNat us=[]:=anc (by rw [lJ,J];exact d);have b:((decide (c<0)||decide ((bytes:Int)*c>2 ^ 48))||decide (l<0)||decide (l>c))=ag:=by rw [decide_eq_false B,decide_eq_false E,decide_eq_false q,decide_eq_false m];rfl
      simp only [Instr.makeSlice,Sem.run_bind,bj hu,asInt,asIntOf,Sem.run_pure,Result.andThen_ok,u,A,L,K,run_askRoom,cY j];simp only [b,arQ,if_false,Sem.run_ite,bp d,Sem.run_bind,Result.andThen_ok,Sem.run_pure,run_askRoom,cY j,newRow,run_newObj];rw [d,f,show(Array.map (fun x=>(#[]:Array Value)[x % (#[]:Array Value).size]!) (Array.range 0))=#[] from by simp [show Array.range 0=(#[]:Array Nat) from rfl]];rfl
     ·simp only [Instr.makeSlice,Sem.run_bind,bj hu,asInt,asIntOf,Sem.run_pure,Result.andThen_ok,u,A,L,K,run_askRoom,cY j];have b:((decide (c<0)||decide ((bytes:Int)*c>2 ^ 48))||decide (l<0)||decide (l>c))=ag:=by rw [decide_eq_false B,decide_eq_false E,decide_eq_false q,decide_eq_false m];rfl
      simp only [b,arQ,if_false,Sem.run_ite,aZ d,Sem.run_bind,a8,a9,Result.andThen_ok,Sem.run_pure,run_askRoom,cY j,I,newRow,run_newObj];rfl
    split at h
    ·rename_i d;subst d;simp only [sh,IS]at h;obtain⟨rfl,rfl⟩:=h;have:l=0:=by omega
     subst this;obtain⟨X',S,N,U,W,Y⟩:=SR.skip hS (dI.alloc X.w (.cells (cq (0:Int).toNat us).toArray e)) hB;exact⟨_,X',.inl (by rw [S];exact run),N,U,cH.es _,W,Y⟩
    ·simp only [sh,IS]at h;obtain⟨rfl,rfl⟩:=h;obtain⟨X',S,N,U,W,Y,g6⟩:=D8 hS hB (kk M c.toNat) e;refine⟨_,X',.inl (by rw [S];exact run),N,U,?_,W,g6⟩;have H:X'.H[X.H.length]?=aa (.box ((cq c.toNat zs).map .f) 0):=by rw [N];simp
     simp only [VR,gU,CR,fD,H];exact⟨_,Y,by omega,rfl⟩
   ·simp at h
  ·simp at h
 ·simp at F
theorem ahJ(H:aj):∀ x,c8 0 H x=fcC x:=fun x=>by cases x<;>rfl
theorem afl(hS:SR Q σ X)(hB:X.B≤X.w.heap.size){a:Act}{aA:T}(I:RR σ X aA a.tmps){o:Oper}{sz:Nat}{x hi mx:Arg}(B:dD Q σ o (.wu sz x hi mx)=ae){v:V}{H':aj}
  (h:bz aA X.H (.wu sz x hi mx)=aa (v,H')):gL Q σ X v H' (execOp a.eval o):=by
 simp only [dD]at B;split at B
 ·rename_i t y S mx' ho;simp only [BY,decide_eq_true_eq]at B;obtain⟨⟨⟨⟨z,h2⟩,h3⟩,he⟩,hz⟩:=B;obtain⟨e,hu,E⟩:=gY he;simp only [bz]at h;unfold Cs at h;have o1:OR X σ ab ab:=trivial;have o2:OR X σ (aa (hi.ev aA)) (aa (a.eval S)):=bN I h2;have o3:OR X σ (aa (mx.ev aA)) (aa (a.eval mx')):=bN I h3;have z:=bN I z;split at h
  ·rename_i v' hv;simp only [sh,IS]at h;obtain⟨rfl,rfl⟩:=h;obtain⟨r,F,h5⟩:=yu hu E z o1 o2 o3 hv;exact⟨r,X,.inl (by simp only [execOp,ho];exact eb F),rfl,hS,h5,Ext.refl _ _,hB⟩
  ·split at h
   ·rename_i b o' n c' l s b_;rw [b_]at z;simp only [VR,gU,CR,fD]at z;split at h
    ·rename_i s' cs q e' J;rw [J]at z;split at h
     ·rename_i M;obtain⟨rfl,rfl,rfl,rfl⟩:=M;split at h
      ·rename_i i j d Y;split at h
       ·rename_i W;obtain⟨rfl,d5,d3⟩:=W;split at h
        ·rename_i ys c9;simp only [sh,IS]at h;obtain⟨rfl,rfl⟩:=h;obtain⟨L,hL,k,hk,d7,b9⟩:=z.2.1 rfl rfl;have Z:k=0:=by
          rcases Nat.eq_zero_or_pos k with h | h
          ·exact h
          ·have:=Nat.mul_pos h hz;omega
         subst Z;have d6:i≤n:=by
          unfold Af at d;split at d
          ·split at d
           ·rename_i hh;simp only [sh]at d;omega
           ·simp at d
          ·simp at d
         have K:cj n n ab (aa (hi.ev aA)) (aa (mx.ev aA))=aa (0,i,i):=by
          have U:Af (hi.ev aA) i=aa i:=by
           unfold Af at d ⊢;split at d
           ·split at d
            ·rename_i hh;simp only [sh]at d;rw [bp ⟨hh.1,by omega⟩,d]
            ·simp at d
           ·simp at d
          simp [cj,Y,U]
         obtain⟨F,_,_,_⟩:=dR (Q:=Q) o1 o2 o3 K (cap:=L.cap) (by omega) (OF n) ae X.w;have h6:=eP (a:=aa ⟨L.c,0,ab⟩) hu E F;have a8:gj X.H (X.H.set b (.bM s' cs (Nat.max q (i*s')) l .loc)):=gj.set J ⟨rfl,rfl,asa _ _,rfl,rfl⟩;obtain⟨g1,g2⟩:=SR.ahead hS a8.ext;obtain⟨g3,g4,g5⟩:=SR.flag g1;have a9:=(By.1 J).1;have m:(X.H.set b (.bM s' cs (Nat.max q (i*s')) l .loc))[b]?=aa (.bM s' cs (Nat.max q (i*s')) l .loc):=by simp [a9]
         have O:c8 1 (X.H.set b (.bM s' cs (Nat.max q (i*s')) l .loc)) (.sl b 0 i 0 l s')=aa (.fs ys i):=by
          simp only [c8,m];rw [bp ⟨trivial,trivial,by omega⟩,eZ (g:=fcC) fun x _=>ahJ _ x,asV,c9];rfl
         have a_:dB 1 (X.H.set b (.bM s' cs (Nat.max q (i*s')) l .loc)) (.sl b 0 i 0 l s'):=by
          intro bu u;rw [m]at u;cases u;refine⟨by have:=ar2 q (i*s');simp only [aso];exact this,fun x _=>?_⟩;cases x<;>trivial
         have N:CR σ ({ X with H:=X.H.set b (.bM s' cs (Nat.max q (i*s')) l .loc) }:Wd).flag (.sl b 0 i 0 l s') (.slice (aa ⟨L.c,0,ab⟩) i L.cap):=by
          simp only [CR,fD,Wd.flag,m];exact⟨OF _,fun _ _=>⟨L,hL,0,by omega,by omega,by simp⟩,_,_,_,rfl⟩
         have hf:=frz g3 g5 (cZ.refl _) 1 O a_ N;have A:cH σ ({ X with H:=X.H.set b (.bM s' cs (Nat.max q (i*s')) l .loc) }:Wd).flag.F X.w (.fs ys i) (.slice (aa ⟨L.c,0,ab⟩) i i):=by
          cases hf with
          | fs _ _ c o2 cap us c_ hl hF M hr=>exact .fs _ _ _ _ _ us (OF _) hl hF M hr| fs0 a2 cap=>omega
         refine⟨.slice (aa ⟨L.c,0,ab⟩) i i,({ X with H:=X.H.set b (.bM s' cs (Nat.max q (i*s')) l .loc) }:Wd).flag,.inl ?_,rfl,g3,A,g2.trans (g4.mono (by simp)),hB⟩;simp only [execOp,ho];refine eb ?_;rw [b9];simp [show i≠0 by omega,eg]at h6;exact h6
        ·simp at h
       ·simp at h
      ·simp at h
     ·simp at h
    ·simp at h
   ·simp at h
 ·simp at B
theorem aj3(d:SR Q σ X)(g:X.B≤X.w.heap.size){a:Act}{aA:T}(j:RR σ X aA a.tmps){o:Oper}{op:cP}(b:dD Q σ o op=ae){v:V}{H':aj}
  (h:bz aA X.H op=aa (v,H')):gL Q σ X v H' (execOp a.eval o):=by
 cases m:op.fsl
 case true=>
  cases op<;>simp only [cP.fsl,reduceCtorEq]at m;obtain⟨rfl,u,X',B,E,F,H,I,J,_⟩:=xC d g j b h;exact⟨u,X',.inl B,E,F,H,I,J⟩
 by_cases s:cls op=.p∨cls op=.r
 ·exact gL.amv g d (agB d j b s m h)
 ·cases op with
  | pre st sz=>exact ajE d g b h
  | alloc zs=>
   simp only [bz,sh,IS]at h;obtain⟨rfl,rfl⟩:=h;exact W2 d g b
  | box x=>
   simp only [bz]at h;split at h
   ·rename_i xs q;simp only [sh,IS]at h;obtain⟨rfl,rfl⟩:=h;exact ahn d g j b q
   ·simp at h
  | aV sz zs n ps=>exact Li d g j b h| store n x y=>exact Zq d g j b h
  | kI=>
   simp only [bz,sh,IS]at h;obtain⟨rfl,rfl⟩:=h;exact Yc d g b
  | kG K x y z=>exact X7 d g j b h| cM sz l zs x y=>exact D6 d g j b h| range x=>exact YY d g j b h| next x=>exact aee d g j b h
  | append sz l x y=>exact xn d g j b h| DB x=>simp [dD]at b| copy sz x y=>simp [dD]at b| clear sz zs x=>exact Xo d g j b h| sV sz l zs x y=>exact ac_ d g j b h| mj x=>exact Mx d g j b h| wu sz x y z=>exact afl d g j b h| qu x=>exact Yf d g j b h| call f xs A=>simp [bz]at h| bY x xs A=>simp [bz]at h| recover=>simp [bz]at h| defer x xs=>simp [bz]at h| bad=>simp [bz]at h| _=>exact absurd (by simp [cls]) s
end
section
variable{Q:Program}{σ:Nat→FuncId}{X:Wd}
def lR(n:Nat)(H:aj):V→Prop
 | .c x=>dB n H x| .a xs=>∀ x ∈ xs,dB n H x| _=>True
theorem lR.le{n:Nat}{H H':aj}(h:gj H H'){v:V}(b:lR n H v):lR n H' v:=by
 cases v with
 | c x=>exact dB.le n h b| a xs=>exact fun x d=>dB.le n h (b x d)
 | _=>trivial
theorem aie(n:Nat)(v:V)(H:aj):gj H (ZR n H v):=by
 cases v with
 | c x=>exact kV n x H| a xs=>exact gj.foldl (fun H x=>kV n x H) xs H
 | _=>exact gj.refl H
theorem D3(n:Nat)(v:V)(H:aj):lR n (ZR n H v) v:=by
 cases v with
 | c x=>exact gN n x H| a xs=>exact fun x b=>fo (fun x H=>gN n x H) xs H x b
 | _=>trivial
theorem ot(n:Nat):∀(b:List V) (H:aj),gj H (b.foldl (ZR n) H)
 | [],H=>gj.refl H| v::b,H=>(aie n v H).trans (ot n b _)
theorem sH(n:Nat):∀(b:List V) (H:aj),∀ v ∈ b,lR n (b.foldl (ZR n) H) v
 | u::b,H,v,d=>by
  rcases ass.1 d with rfl | d
  ·exact(D3 n v H).le (ot n b _)
  ·exact sH n b _ v d
def FV1(σ:Nat→FuncId)(F:Nat→Nat→Prop)(w:World)(v:V)(u:Value):Prop:=∀ X:Wd,X.F=F→X.w=w→gU σ X v u
def FV(σ:Nat→FuncId)(F:Nat→Nat→Prop)(w:World)(v:V)(u:Value):Prop:=∀ X:Wd,X.F=F→X.w=w→VR σ X v u
theorem agp(z:SR Q σ X)(q:FL X){H:aj}(s:cZ H X.H){n:Nat}{v F:V}{u:Value}(d:bO n H v=aa F)(A:lR n H v)(B:gU σ X v u):FV1 σ X.F X.w F u:=by
 intro Z g j;cases v with
 | c x=>
  simp only [bO,IN]at d;obtain⟨y,m,rfl⟩:=d;have:=frz z q s n m A B;rw [←g,←j]at this;exact this
 | a xs=>
  simp only [bO,IN]at d;obtain⟨ys,b,rfl⟩:=d;obtain⟨us,rfl,l⟩:=B;have b:=fO b;refine⟨us,rfl,A2.map ⟨by rw [←l.len,b.len],fun i y u m I=>?_⟩⟩;have hi:i<xs.length:=by rw [b.len];exact(By.1 m).1
  have E:=AT hi;have:=frz z q s n (b.2 i _ _ E m) (A _ (IT hi)) (l.2 i _ _ E I);rw [←g,←j]at this;exact this
 | top=>simp [bO]at d| t J=>simp [bO]at d
def cT.full:cT→cT
 | .box cs d=>.box cs (Nat.max d cs.length)| .bM s cs d e st=>.bM s cs (Nat.max d cs.length) e st| b=>b
theorem zg(H:aj):gj H (H.map cT.full):=by
 refine⟨by simp,fun b x y g d=>?_⟩;rw [asD,g]at d;simp only [asm,sh]at d;subst d;cases x<;>simp [da,cT.full,asa]
theorem fZ:∀(n:Nat) {H:aj} {x:C} {y:FC},c8 n H x=aa y→dB n (H.map cT.full) x
 | n,H,.f _,y,_=>by cases n<;>trivial
 | 0,H,.ptr _ _ _,y,_=>trivial| 0,H,.sl _ _ _ _ _ _,y,_=>trivial| 0,H,.cl _ _,y,_=>trivial| 0,H,.yl _,y,_=>trivial| 0,H,.mp _,y,_=>trivial| 0,H,.it _,y,_=>trivial| 0,H,.bm _ _,y,_=>trivial| 0,H,.mi _,y,_=>trivial
 | n+1,H,.ptr b off B,y,d=>by
  intro cs E j;rw [asD]at j;simp only [c8]at d;split at d
  ·rename_i cs' u g;rw [g]at j;simp only [asm,sh,cT.full,cT.box.injEq]at j;obtain⟨rfl,rfl⟩:=j;simp only [IN]at d;obtain⟨ys,m,rfl⟩:=d;refine⟨ar2 _ _,fun x v=>?_⟩;obtain⟨i,hi⟩:=asz v;obtain⟨y,_,z⟩:=(fO m).get hi;exact fZ n z
  ·simp at d
 | n+1,H,.sl b o l c B sz,y,d=>by
  intro bu j;rw [asD]at j;simp only [c8]at d;split at d
  ·rename_i cs' u g;rw [g]at j;simp only [asm,sh,cT.full]at j;subst j;split at d
   ·rename_i q;simp only [IN]at d;obtain⟨ys,m,rfl⟩:=d;refine⟨arZ q (ar2 _ _),fun x v=>?_⟩;obtain⟨i,hi⟩:=asz v;obtain⟨y,_,z⟩:=(fO m).get hi;exact fZ n z
   ·simp at d
  ·rename_i s cs' u e g;rw [g]at j;simp only [asm,sh,cT.full]at j;subst j;split at d
   ·rename_i q;simp only [IN]at d;obtain⟨ys,m,rfl⟩:=d;refine⟨arZ q.2.2 (ar2 _ _),fun x v=>?_⟩;obtain⟨i,hi⟩:=asz v;obtain⟨y,_,z⟩:=(fO m).get hi;exact fZ n z
   ·simp at d
  ·rename_i s cs' u e g;rw [g]at j;simp only [asm,sh,cT.full]at j;subst j;trivial
  ·rename_i s cs' u e g;rw [g]at j;simp only [asm,sh,cT.full]at j;subst j;trivial
  ·simp at d
 | n+1,H,.cl f A,y,d=>by
  simp only [c8,IN]at d;obtain⟨ys,m,rfl⟩:=d;intro x v;obtain⟨i,hi⟩:=asz v;obtain⟨y,_,z⟩:=(fO m).get hi;exact fZ n z
 | n+1,H,.yl _,y,d=>trivial| n+1,H,.mp _,y,d=>trivial| n+1,H,.it _,y,d=>trivial| n+1,H,.bm _ _,y,d=>trivial| n+1,H,.mi _,y,d=>trivial
theorem zh{n:Nat}{H:aj}{v l:V}(b:bO n H v=aa l):lR n (H.map cT.full) v:=by
 cases v with
 | c x=>
  simp only [bO,IN]at b;obtain⟨y,d,rfl⟩:=b;exact fZ n d
 | a xs=>
  simp only [bO,IN]at b;obtain⟨ys,g,rfl⟩:=b;intro x j;obtain⟨i,hi⟩:=asz j;obtain⟨y,_,d⟩:=(fO g).get hi;exact fZ n d
 | _=>trivial
def Wd.inner(X:Wd):Wd:=⟨fun _=>ab,X.F,[],X.w,X.w.heap.size⟩
theorem SR.inner(d:SR Q σ X):SR Q σ X.inner:=⟨fun b L h=>by simp [Wd.inner]at h,fun b j L g h=>by simp [Wd.inner]at h,d.fb⟩
def Wd.jX(Y:Wd):Wd:=Wd.flag { Y with H:=Y.H.map cT.full }
theorem SR.jX{Y:Wd}(m:SR Q σ Y):SR Q σ Y.jX∧Ext Y.H.length Y Y.jX∧FL Y.jX:=by
 obtain⟨b,d⟩:=SR.ahead m (zg Y.H).ext;obtain⟨g,j,l⟩:=SR.flag b;exact⟨g,d.trans (j.mono (by simp)),l⟩
theorem DJ{Y:Wd}(J:SR Q σ Y){n:Nat}{v g:V}{u:Value}(b:fJ n Y.H v=aa g)(A:VR σ Y v u):FV σ Y.jX.F Y.w g u:=by
 obtain⟨F,H,I⟩:=SR.jX J;have m:=VR.ext' σ H A;have q:∀ {v g:V} {u:Value},bO n Y.H v=aa g→gU σ Y.jX v u→FV1 σ Y.jX.F Y.w g u:=by
  intro v g u b A;have z:bO n Y.jX.H v=aa g:=by
   show bO n (Y.H.map cT.full) v=aa g;cases v with
   | c x=>simp only [bO]at b ⊢;rw [nu n (zg Y.H)];exact b| a xs=>simp only [bO]at b ⊢;rw [eZ (fun x _=>nu n (zg Y.H) x)];exact b
   | _=>simp [bO]at b
  exact agp F I (cZ.refl _) z (zh b) A
 intro Z j l;cases v with
 | t L=>
  simp only [fJ,IN]at b;obtain⟨M,d,rfl⟩:=b;obtain⟨us,rfl,s⟩:=m;have d:=fO d;refine⟨us,rfl,by rw [←s.len,d.len],fun i y u E K=>?_⟩;have hi:i<L.length:=by rw [d.len];exact(By.1 E).1
  have B:=AT hi;exact q (d.2 i _ _ B E) (s.2 i _ _ B K) Z j l
 | c x=>exact VR.ZS σ (q (v:=.c x) b m Z j l)| a xs=>exact VR.ZS σ (q (v:=.a xs) b m Z j l)| top=>simp [fJ,bO]at b
theorem SR.outer(u:SR Q σ X)(y:X.B≤X.w.heap.size){Y:Wd}(v:SR Q σ Y)(d:Ext 0 X.inner Y) :
  SR Q σ { X with F:=Y.jX.F,w:=Y.w }∧Ext X.H.length X { X with F:=Y.jX.F,w:=Y.w }∧X.B≤Y.w.heap.size:=by
 obtain⟨x,s,z⟩:=SR.jX v;have uO:X.w.heap.size≤Y.w.heap.size:=d.size;have g:∀ k,k<X.w.heap.size→Y.w.heap[k]?=X.w.heap[k]?:=fun k q=>d.frame k q (fun b L h=>by simp [Wd.inner]at h);have l:∀ c i,Y.jX.F c i→X.F c i∨X.w.heap.size≤c:=by
  intro c i h;rcases s.pO c i h with h | h | ⟨b,L,m,rfl⟩
  ·rcases d.pO c i h with h | h | ⟨b,L,m,_⟩
   ·exact .inl h
   ·exact .inr h
   ·simp [Wd.inner]at m
  ·exact .inr (arZ uO h)
  ·have:=(v.br b L m).1;rw [d.B]at this;exact .inr this
 have j:Ext X.H.length X { X with F:=Y.jX.F,w:=Y.w }:=
  {B:=rfl,F:=fun c i h=>s.F c i (d.F c i h)
   pO:=fun c i h=>(l c i h).elim .inl fun h=>.inr (.inl h)
   fw:=fun c i h=>d.fw c i h
   bT:=fun b _ bu m=>⟨bu,m,by cases bu<;>simp⟩
   xH:=fun b L h=>.inl ⟨b,L,h,rfl⟩,size:=uO,os:=d.os,tape:=d.tape,output:=d.output,frame:=fun k q _=>g k q }
 refine⟨⟨fun b L m=>?_,u.inj,fun c i h=>x.fb c i h⟩,j,arZ y uO⟩;obtain⟨g1,g2,bu,g3,g4⟩:=u.br b L m;refine⟨g1,asA g2 uO,bu,g3,BR.ext Q σ j (g _ g2) (fun i h=>?_) g4⟩;rcases l _ _ h with h | h
 ·exact h
 ·omega
end
section
variable{Q:Program}{σ:Nat→FuncId}{X:Wd}
def na(Q:Program)(σ:Nat→FuncId)(X:Wd)(v:V)(H':aj)(X':Wd)(u:Value):Prop:=
 X'.H=H'∧SR Q σ X'∧VR σ X' v u∧Ext X.H.length X X'∧X'.B≤X'.w.heap.size
def ph(b:CallKind)(cs:List Frame):Prop:=b=.normal∨(b=.deferred∧∃ c rest,cs=c::rest∧c.mode=.returning)
def ju(b:Frame)(cs:List Frame):Prop:=ph b.kind cs
theorem ph.Mg{fr:Frame}{cs:List Frame}(h:ph fr.kind cs):tryRecover fr cs=ab:=by
 unfold tryRecover;rcases h with h | ⟨h,c,rest,rfl,b⟩
 ·rw [h]
 ·rw [h];simp [b]
def Leaves(Q:Program)(f:FuncId)(d:CallKind)(b:Frame)(u:Value)(w:World):Prop:=
 b.mode=.returning∧b.defers=[]∧b.kind=d∧b.fn=f∧∃ fn,Q.funcs[f]?=aa fn∧(Go.results fn b.tmps).run Q w=.ok u w
structure eY(Q:Program)(σ:Nat→FuncId)(call:cJ):Prop where
 enters:∀ f args H r,call (.fn f) args H=aa r→∀ as w,(callFunc (σ f) as).run Q w=.ok (.enter (σ f) as) w
 fn:∀ f args H r H',call (.fn f) args H=aa (r,H')→∀(X:Wd) us kind cs,X.H=H→SR Q σ X→X.B≤X.w.heap.size→A2 (VR σ X) args us→ph kind cs→kind=.normal∨f≠mN →
  ∃ fr X' u,Steps Q (lone (Frame.enter Q (σ f) us.toArray kind) cs X.w) (lone fr cs X'.w)∧Leaves Q (σ f) kind fr u X'.w∧na Q σ X r H' X' u
 yield:∀ b args H r H',call (.yield b) args H=aa (r,H')→∀(X:Wd) us c cs L,X.H=H→SR Q σ X→X.B≤X.w.heap.size→A2 (VR σ X) args us→X.cr b=aa L →
  ∃ f tmps as bd X' u,(Instr.yield L.c us.toArray).run Q X.w=.ok (.round L.c f tmps as bd) X.w ∧
   Steps Q (lone (Frame.round L.c f tmps as bd .normal) (c::cs) X.w) (lone (c.finish u) cs X'.w)∧na Q σ X r H' X' u
def cU(Q:Program)(σ:Nat→FuncId)(X:Wd)(o:Oper)(a:Act)(v:V)(H':aj):Prop:=
 ∀(b:Frame) (ops:Array Oper) (i:Nat) (rest:List Nat) (k:List Item) (cs:List Frame),ops[i]?=aa o→Region.wanted o (yielded ops a.tmps)=ae→ju b cs →
  ∃ X' u,Steps Q (lone (b.atR a (.inRegion ops (i::rest)::k)) cs X.w) (lone (b.atR (a.put o.dst u) (.inRegion ops rest::k)) cs X'.w)∧na Q σ X v H' X' u
theorem cU.amu{o:Oper}{a:Act}{v:V}{H':aj}(x:∀ c,o.op≠.defer c)(h:gL Q σ X v H' (execOp a.eval o)):cU Q σ X o a v H':=by
 intro b ops i rest k cs ho y z;obtain⟨u,X',d,j,l,m,q,s⟩:=h;refine⟨X',u,.one (step_lone_go ?_),j,l,m,q,s⟩;rw [stepGR_op ho y,Oper.semAt_eq _ _ _ x];have g:=Frame.finish_atR b a ops i rest k u;rw [ho]at g;simp only [ar7]at g;rw [←g];rcases d with d | ⟨d,rfl⟩<;>simp [stepG.apply,Sem.runT_eq,d]
theorem cU.vf{o:Oper}{a:Act}{v:V}{H':aj}(m:∀ c,o.op≠.defer c){f:FuncId}{us:Array Value}(g:(execOp a.eval o).run Q X.w=.ok (.enter f us) X.w)
  (h:∀ cs,∃ fr X' u,Steps Q (lone (Frame.enter Q f us .normal) cs X.w) (lone fr cs X'.w)∧Leaves Q f .normal fr u X'.w∧na Q σ X v H' X' u):cU Q σ X o a v H':=by
 intro b ops i rest k cs ho q A;obtain⟨fr,X',u,j,⟨l1,l2,s,x,fn,y,z⟩,l⟩:=h (b.atR a (.inRegion ops (i::rest)::k)::cs);refine⟨X',u,.head (step_lone_go (fr':=Frame.enter Q f us .normal) (cs':=b.atR a (.inRegion ops (i::rest)::k)::cs) (w':=X.w) ?_) (j.trans (.one ?_)),l⟩
 ·rw [stepGR_op ho q,Oper.semAt_eq _ _ _ m];simp [stepG.apply,Sem.runT_eq,g,Frame.atR]
 ·have d:=Frame.finish_atR b a ops i rest k u;rw [ho]at d;simp only [ar7]at d;rw [←d];exact step_leave_returned ⟨l1,l2,s,fn,by rw [x];exact y,z⟩
theorem cU.Yi{o:Oper}{a:Act}{v:V}{H':aj}(q:∀ c,o.op≠.defer c){l:Nat}{f:FuncId}{tmps:Array Value}{as bd:Code}(g:(execOp a.eval o).run Q X.w=.ok (.round l f tmps as bd) X.w)
  (h:∀ c cs,∃ X' u,Steps Q (lone (Frame.round l f tmps as bd .normal) (c::cs) X.w) (lone (c.finish u) cs X'.w)∧na Q σ X v H' X' u):cU Q σ X o a v H':=by
 intro b ops i rest k cs ho s x;obtain⟨X',u,j,m⟩:=h (b.atR a (.inRegion ops (i::rest)::k)) cs;refine⟨X',u,.head (step_lone_go (fr':=Frame.round l f tmps as bd .normal) (cs':=b.atR a (.inRegion ops (i::rest)::k)::cs) (w':=X.w) ?_) ?_,m⟩
 ·rw [stepGR_op ho s,Oper.semAt_eq _ _ _ q];simp [stepG.apply,Sem.runT_eq,g,Frame.atR]
 ·have d:=Frame.finish_atR b a ops i rest k u;rw [ho]at d;simp only [ar7]at d;rw [←d];exact j
theorem oY{x:V}{u:Value}{args:List V}{us:List Value}{c:Callee}{d:List V}(j:bZ x args=aa (c,d))(l:VR σ X x u)(q:A2 (VR σ X) args us) :
  match c with
  | .fn f=>∃ fst cap:List Value,u=.func (.func (σ f)) fst.toArray cap.toArray∧A2 (VR σ X) d (fst++us++cap)| .yield b=>d=args∧∃ L,X.cr b=aa L∧u=.func (.yield L.c) #[] #[]:=by
 unfold bZ at j;split at j
 ·rename_i f m;cases j;cases l with
  | fn _ _ cap y hr=>
   refine⟨[],cap,rfl,q.append (A2.map ⟨y.symm,fun i x u l z=>?_⟩)⟩;exact hr i x u l z
 ·rename_i f m;cases j;obtain⟨cap,rfl,g⟩:=l;exact⟨[],cap,rfl,q.append (A2.map (g.lP fun x u h=>CR.ZS σ h))⟩
 ·rename_i b;cases j;obtain⟨L,v,_,rfl⟩:=l;exact⟨rfl,L,v,rfl⟩
 ·rename_i f first
  cases j;obtain⟨cap,rfl,g⟩:=l;have s:A2 (VR σ X) (first.map .c) cap:=A2.map (g.lP fun x u h=>CR.ZS σ h);exact⟨cap,[],rfl,by simpa using s.append q⟩
 ·simp at j
theorem iC{a:Act}{o:Oper}{cl:Call}{y:Operand}(b:o.op=.call cl)(g:cl.callee=.value y){w:World}{fn:Fn}{fst cap:Array Value}(d:a.eval y=.func fn fst cap) :
  (execOp a.eval o).run Q w=(invoke (.fn fn cap) (fst++cl.args.map a.eval)).run Q w:=by
 simp only [execOp,b,resolve,g,d,Deferred.ofValue,Sem.run_bind,Sem.run_pure,Result.andThen_ok]
theorem eO{f:FuncId}{cap as:Array Value}{w:World}(h:∀ as w,(callFunc f as).run Q w=.ok (.enter f as) w):(invoke (.fn (.func f) cap) as).run Q w=.ok (.enter f (as++cap)) w:=by
 simp only [invoke];exact h _ _
end
section
variable{Q:Program}{σ:Nat→FuncId}{X:Wd}{call:cJ}
theorem ady{n:Nat}{H H':aj}(h:gj H H')(v:V):bO n H' v=bO n H v:=by
 cases v with
 | c x=>simp only [bO,nu n h]| a xs=>simp only [bO,eZ (fun x _=>nu n h x)]
 | _=>rfl
theorem zK(K:eY Q σ call)(hS:SR Q σ X)(hB:X.B≤X.w.heap.size){f:Nat}{args:List V}{us:List Value}{H H':aj}{r':V}(g:eo call f args H=aa (r',H'))(hH:cZ H' X.H)(L:A2 (VR σ X) args us)(cs:List Frame) :
  (∀ as w,(callFunc (σ f) as).run Q w=.ok (.enter (σ f) as) w) ∧
  ∃ l X' u,Steps Q (lone (Frame.enter Q (σ f) us.toArray .normal) cs X.w) (lone l cs X'.w)∧Leaves Q (σ f) .normal l u X'.w∧na Q σ X r' X.H X' u∧X'.cr=X.cr:=by
 unfold eo at g;split at g
 ·simp at g
 ·rename_i s d;split at g
  ·simp at g
  ·rename_i r O b;split at g
   ·simp at g
   ·rename_i a8 hr;simp only [sh,IS]at g;obtain⟨rfl,rfl⟩:=g;have A:=ot deep args H;have B:=sH deep args H;obtain⟨v,J,h3⟩:=SR.flag hS;have d:=fO d;have z:A2 (VR σ X.flag.inner) s us:=by
     refine⟨by rw [←d.len];exact L.len,fun i y u N hu=>?_⟩;have hi:i<args.length:=by rw [d.len];exact(By.1 N).1
     have M:=AT hi;have m:bO deep H args[i]=aa y:=d.2 i _ _ M N;have q:=VR.ext' σ J (L.2 i _ _ M hu);rw [←ady A]at m;have E:gU σ X.flag args[i] u:=by
      cases j:args[i]with
      | c x=>rw [j]at q;exact q| a xs=>rw [j]at q;exact q| top=>trivial| t vs=>rw [j]at m;simp [bO]at m
     exact VR.ZS σ (agp v h3 hH m (B _ (IT hi)) E X.flag.inner rfl rfl)
    obtain⟨l,Y,u,S,U,W,I,Z,g6,g7⟩:=K.fn f s [] r O b X.flag.inner us .normal cs rfl (SR.inner v) (OF _) z (.inl rfl) (.inl rfl);obtain⟨k1,k2,k3⟩:=SR.outer v hB I g6;refine⟨K.enters f s [] _ b,l,{ X.flag with F:=Y.jX.F,w:=Y.w },u,S,U,⟨rfl,k1,?_,J.trans (k2.mono (OF _)),k3⟩,rfl⟩;rw [←W]at hr;exact DJ I hr Z _ rfl rfl
theorem nJ{o:Oper}{f:Nat}{xs:List Arg}{h:Bool}(b:dD Q σ o (.call f xs h)=ae):∃ c,o.op=.call c∧c.callee=.value (.func (σ f))∧ZP σ xs c.args=ae:=by
 simp only [dD]at b;split at b
 ·rename_i c j;simp only [dL]at b;split at b
  ·rename_i g d;simp only [BY,beq_iff_eq]at b;exact⟨c,j,by rw [d,b.1],b.2⟩
  ·simp at b
 ·simp at b
theorem zE{o:Oper}{x:Arg}{xs:List Arg}{h:Bool}(b:dD Q σ o (.bY x xs h)=ae):∃ c y,o.op=.call c∧c.callee=.value y∧mA σ x y=ae∧ZP σ xs c.args=ae:=by
 simp only [dD]at b;split at b
 ·rename_i c d;simp only [dL]at b;split at b
  ·rename_i y g;simp only [BY]at b;exact⟨c,y,d,g,b.1,b.2⟩
  ·simp at b
 ·simp at b
theorem lH{o:Oper}{c:Call}(h:o.op=.call c):∀ c,o.op≠.defer c:=fun b e=>by rw [h]at e;cases e
theorem Bs(l:eY Q σ call)(q:SR Q σ X)(j:X.B≤X.w.heap.size){a:Act}{aA:T}(E:RR σ X aA a.tmps){o:Oper}{f:Nat}{xs:List Arg}{h:Bool}(I:dD Q σ o (.call f xs h)=ae)
  {H H':aj} {v:V} (y:eo call f (dh aA xs) H=aa (v,H')) (m:cZ H' X.H):cU Q σ X o a v X.H:=by
 obtain⟨c,x,F,d⟩:=nJ I;have s:=nB E d;have b:=(zK l q j y m s []).1;refine cU.vf (lH x) (f:=σ f) (us:=c.args.map a.eval) ?_ fun cs=>?_
 ·rw [iC x F (fn:=.func (σ f)) (fst:=#[]) (cap:=#[]) rfl,eO b];simp
 ·obtain⟨_,z,X',u,g,A,B,_⟩:=zK l q j y m s cs;exact⟨z,X',u,by rw [Array.toArray_toList]at g;exact g,A,B⟩
theorem yW(A:eY Q σ call)(F:SR Q σ X)(z:X.B≤X.w.heap.size){a:Act}{aA:T}(E:RR σ X aA a.tmps){o:Oper}{f:Nat}{xs:List Arg}{h:Bool}(K:dD Q σ o (.call f xs h)=ae)
  {H H':aj} {v:V} (L:eo call f (dh aA xs) H=aa (v,H')) (B:cZ H' X.H)
  (b:Frame) (ops:Array Oper) (i:Nat) (rest:List Nat) (k:List Item) (cs:List Frame) (g:ops[i]?=aa o) (M:Region.wanted o (yielded ops a.tmps)=ae) :
  ∃ X' u,Steps Q (lone (b.atR a (.inRegion ops (i::rest)::k)) cs X.w) (lone (b.atR (a.put o.dst u) (.inRegion ops rest::k)) cs X'.w)∧na Q σ X v X.H X' u∧X'.cr=X.cr:=by
 obtain⟨c,s,J,m⟩:=nJ K;have I:=nB E m;obtain⟨l,Z,X',u,q,⟨N,O,S,U,fn,W,Y⟩,x,y⟩:=zK A F z L B I (b.atR a (.inRegion ops (i::rest)::k)::cs);rw [Array.toArray_toList]at q;have j:(execOp a.eval o).run Q X.w=.ok (.enter (σ f) (c.args.map a.eval)) X.w:=by
  rw [iC s J (fn:=.func (σ f)) (fst:=#[]) (cap:=#[]) rfl,eO l];simp
 refine⟨X',u,.head (step_lone_go (fr':=Frame.enter Q (σ f) (c.args.map a.eval) .normal) (cs':=b.atR a (.inRegion ops (i::rest)::k)::cs) (w':=X.w) ?_) (q.trans (.one ?_)),x,y⟩
 ·rw [stepGR_op g M,Oper.semAt_eq _ _ _ (lH s)];simp [stepG.apply,Sem.runT_eq,j,Frame.atR]
 ·have d:=Frame.finish_atR b a ops i rest k u;rw [g]at d;simp only [ar7]at d;rw [←d];exact step_leave_returned ⟨N,O,S,fn,by rw [U];exact W,Y⟩
theorem Br(j:eY Q σ call)(A:SR Q σ X)(y:X.B≤X.w.heap.size){a:Act}{aA:T}(z:RR σ X aA a.tmps){o:Oper}{f:Nat}{xs:List Arg}{h:Bool}(F:dD Q σ o (.call f xs h)=ae)
  {H':aj} {v:V} (m:call (.fn f) (dh aA xs) X.H=aa (v,H')):cU Q σ X o a v H':=by
 obtain⟨c,l,E,d⟩:=nJ F;have B:=nB z d;have b:=j.enters _ _ _ _ m;refine cU.vf (lH l) (f:=σ f) (us:=c.args.map a.eval) ?_ fun cs=>?_
 ·rw [iC l E (fn:=.func (σ f)) (fst:=#[]) (cap:=#[]) rfl,eO b];simp
 ·obtain⟨q,X',u,g,s,x⟩:=j.fn _ _ _ _ _ m X _ .normal cs rfl A y B (.inl rfl) (.inl rfl);exact⟨q,X',u,by rw [Array.toArray_toList]at g;exact g,s,x⟩
theorem Xl(A:eY Q σ call)(M:SR Q σ X)(J:X.B≤X.w.heap.size){a:Act}{aA:T}(K:RR σ X aA a.tmps){o:Oper}{x:Arg}{xs:List Arg}{h:Bool}(hm:dD Q σ o (.bY x xs h)=ae)
  {H':aj} {v:V} {c:Callee} {args:List V} (m:bZ (x.ev aA) (dh aA xs)=aa (c,args)) (E:call c args X.H=aa (v,H')):cU Q σ X o a v H':=by
 obtain⟨cl,y,s,O,hy,H⟩:=zE hm;have N:=nB K H;have S:=oY m (bN K hy) N;cases c with
 | fn f=>
  obtain⟨fst,cap,j,F⟩:=S;have B:=A.enters _ _ _ _ E;refine cU.vf (lH s) (f:=σ f) (us:=fst.toArray++cl.args.map a.eval++cap.toArray) ?_ fun cs=>?_
  ·rw [iC s O j,eO B]
  ·obtain⟨W,X',u,q,z,Y⟩:=A.fn _ _ _ _ _ E X _ .normal cs rfl M J F (.inl rfl) (.inl rfl);refine⟨W,X',u,?_,z,Y⟩;have e:(fst++(cl.args.map a.eval).toList++cap).toArray=fst.toArray++cl.args.map a.eval++cap.toArray:=by simp
   rw [e]at q;exact q
 | yield b=>
  obtain⟨rfl,L,Z,j⟩:=S;have key:=fun c cs=>A.yield b _ _ _ _ E X _ c cs L rfl M J N Z;obtain⟨f,tmps,as,bd,_,_,g,_⟩:=key default [];refine cU.Yi (lH s) (l:=L.c) (f:=f) (tmps:=tmps) (as:=as) (bd:=bd) ?_ fun c cs=>?_
  ·rw [iC s O j,Array.empty_append];rw [Array.toArray_toList]at g;exact g
  ·obtain⟨f',I,as',U,X',u,d,q,z⟩:=key c cs;rw [g]at d;simp only [Result.ok.injEq,Next.round.injEq,true_and,and_true]at d;obtain⟨rfl,rfl,rfl,rfl⟩:=d;exact⟨X',u,q,z⟩
end
section
variable{Q:Program}{σ:Nat→FuncId}{X:Wd}{call:cJ}
def t_(σ:Nat→FuncId)(X:Wd):dH→Deferred→Prop
 | .pV b,d=>∃ L o,X.cr b=aa L∧X.H[b]?=aa (.kT o)∧d = { target:=.collected L.c,args:=#[] }| .fn f args,d=>∃ us cap:Array Value,d = { target:=.fn (.func (σ f)) cap,args:=us }∧A2 (VR σ X) args (us.toList++cap.toList)
theorem t_.dU{X X':Wd}(m:pN X.H.length X X'){x:dH}{d:Deferred}(h:t_ σ X x d):t_ σ X' x d:=by
 cases x with
 | pV b=>
  obtain⟨L,o,j,g,q⟩:=h;obtain⟨blk',s,l⟩:=m.bT b (By.1 g).1 _ g;cases blk'<;>simp only at l;exact⟨L,_,l L j,s,q⟩
 | fn f args=>
  obtain⟨us,cap,j,g⟩:=h;exact⟨us,cap,j,g.lP fun _ _ h=>VR.dU σ m h⟩
def fH(σ:Nat→FuncId)(X:Wd)(ds:List dH)(b:List Deferred):Prop:=A2 (t_ σ X) ds b
theorem t_.ext'{X X':Wd}(b:Ext X.H.length X X'){x:dH}{d:Deferred}(h:t_ σ X x d):t_ σ X' x d:=t_.dU b.W h
theorem fH.dU{X X':Wd}(b:pN X.H.length X X'){ds:List dH}{ms:List Deferred}(h:fH σ X ds ms):fH σ X' ds ms:=h.lP fun _ _ h=>t_.dU b h
theorem fH.ext'{X X':Wd}(b:Ext X.H.length X X'){ds:List dH}{ms:List Deferred}(h:fH σ X ds ms):fH σ X' ds ms:=h.lP fun _ _ h=>t_.ext' b h
def pP(Q:Program)(σ:Nat→FuncId)(X:Wd)(o:Oper)(a:Act)(d:Frame→Prop)(v:V)(H':aj)(ds:List dH):Prop:=
 ∀(b:Frame) (ops:Array Oper) (i:Nat) (rest:List Nat) (k:List Item) (cs:List Frame),ops[i]?=aa o→Region.wanted o (yielded ops a.tmps)=ae→ju b cs→d b →
  ∃(X':Wd) (u:Value) (a':Act),Steps Q (lone (b.atR a (.inRegion ops (i::rest)::k)) cs X.w) (lone (b.atR (a'.put o.dst u) (.inRegion ops rest::k)) cs X'.w)∧na Q σ X v H' X' u∧a'.tmps=a.tmps∧fH σ X' ds a'.defers
theorem cU.Zy{o:Oper}{a:Act}{v:V}{H':aj}(h:cU Q σ X o a v H'){ds:List dH}(j:fH σ X ds a.defers){ok:Frame→Prop}:pP Q σ X o a ok v H' ds:=by
 intro b ops i rest k cs ho m l _;obtain⟨X',u,g,d⟩:=h b ops i rest k cs ho m l;exact⟨X',u,a,g,d,rfl,j.ext' d.2.2.2.1⟩
theorem cU.ahead(y:SR Q σ X){d H':aj}(g:cZ X.H d){o:Oper}{a:Act}{v:V}(h:cU Q σ { X with H:=d } o a v H'):cU Q σ X o a v H':=by
 intro b ops i rest k cs ho A z;obtain⟨X',u,j,l,m,q,s,x⟩:=h b ops i rest k cs ho A z;exact⟨X',u,j,l,m,q,(SR.ahead y g).2.trans (s.mono g.len),x⟩
def gE(op:cP)(b:Frame):Prop:=b.roundOf=ab∨op.ee=ae
theorem EB(x:SR Q σ X)(v:X.B≤X.w.heap.size){a:Act}{o:Oper}(g:dD Q σ o .recover=ae){ds:List dH}(y:fH σ X ds a.defers):pP Q σ X o a (gE .recover) (.c (.f .mQ)) X.H ds:=by
 intro b ops i rest k cs u A z hr;have hr:b.roundOf=ab:=hr.elim id fun h=>by simp [cP.ee]at h
 simp only [dD]at g;split at g
 ·rename_i c s;simp only [dL]at g;split at g
  ·rename_i j;have l:(execOp a.eval o).run Q X.w=.ok .recover X.w:=by
    simp [execOp,s,resolve,j,invoke,builtin]
   refine⟨X,.nilIface,a,.one (step_lone_go ?_),⟨rfl,x,cH.mQ,Ext.refl _ _,v⟩,rfl,y⟩;rw [stepGR_op u A,Oper.semAt_eq _ _ _ (lH s)];have d:=Frame.finish_atR b a ops i rest k .nilIface;rw [u]at d;simp only [ar7]at d;rw [←d];have m:tryRecover (b.atR a (.inRegion ops (i::rest)::k)) cs=ab:=ph.Mg z;have q:(b.atR a (.inRegion ops (i::rest)::k)).roundOf=ab:=hr;simp [stepG.apply,Sem.runT_eq,l,m,q]
  ·simp at g
 ·simp at g
theorem Xs(z:SR Q σ X)(v:X.B≤X.w.heap.size){a:Act}{aA:T}(s:RR σ X aA a.tmps){o:Oper}{x:Arg}{xs:List Arg}(g:dD Q σ o (.defer x xs)=ae){ds:List dH}(B:fH σ X ds a.defers)
  {f:Nat} {args:List V} (A:bZ (x.ev aA) (dh aA xs)=aa (.fn f,args)):pP Q σ X o a (gE (.defer x xs)) .top X.H (.fn f args::ds):=by
 intro b ops i rest k cs u F I hr;have hr:b.roundOf=ab:=hr.elim id fun h=>by simp [cP.ee]at h
 simp only [dD]at g;split at g
 ·rename_i c j;split at g
  ·rename_i y H;simp only [BY]at g;have E:=oY A (bN s g.1) (nB s g.2);obtain⟨fst,cap,m,q⟩:=E;have l:(execOp a.eval o).run Q X.w=.ok (.defer { target:=.fn (.func (σ f)) cap.toArray,args:=fst.toArray++c.args.map a.eval }) X.w:=by
    simp [execOp,j,resolve,H,m,Deferred.ofValue]
   refine⟨X,undef,{ a with defers:={ target:=.fn (.func (σ f)) cap.toArray,args:=fst.toArray++c.args.map a.eval }::a.defers },.one (step_lone_go ?_),⟨rfl,z,trivial,Ext.refl _ _,v⟩,rfl,A2.cons ⟨_,_,rfl,by simpa using q⟩ B⟩;rw [stepGR_op u F,hr,Oper.semAt_none];have d:=Frame.finish_atR b { a with defers:={ target:=.fn (.func (σ f)) cap.toArray,args:=fst.toArray++c.args.map a.eval }::a.defers } ops i rest k undef;rw [u]at d;simp only [ar7]at d;rw [←d];simp [stepG.apply,Sem.runT_eq,l,Frame.atR]
  ·simp at g
 ·simp at g
theorem qp{o:Oper}{op:cP}(d:dD Q σ o op=ae)(g:∀ x xs,op≠.defer x xs)(j:op≠.bad):∀ c,o.op≠.defer c:=by
 intro c b;cases op
 case pre o sz=>cases o<;>simp [dD,b]at d
 case defer x xs=>exact g _ _ rfl
 case bad=>exact j rfl
 all_goals simp [dD,b]at d
theorem Gs(z:eY Q σ call)(g:SR Q σ X)(l:X.B≤X.w.heap.size){a:Act}{s s':St}(m:X.H=s.heap)(q:RR σ X s.aA a.tmps)(u:fH σ X s.defs a.defers){o:Oper}{op:cP}(j:dD Q σ o op=ae){v:V}
  (h:eI call s op=aa (v,s')):pP Q σ X o a (gE op) v s'.heap s'.defs∧s'.aA=s.aA:=by
 by_cases B:(∃ f xs h,op=.call f xs h)∨(∃ x xs h,op=.bY x xs h)∨op=.recover∨∃ x xs,op=.defer x xs
 ·rcases B with⟨f,xs,K,rfl⟩ | ⟨x,xs,K,rfl⟩ | rfl | ⟨x,xs,rfl⟩
  ·simp only [eI,IN,IS]at h;obtain⟨⟨F,H'⟩,d,rfl,rfl⟩:=h;refine⟨cU.Zy ?_ u,rfl⟩;unfold gF at d;split at d
   ·exact Br z g l q j (m▸d)
   ·have y:cZ X.H H':=by
     have b:=d;unfold eo at b;split at b
     ·simp at b
     ·split at b
      ·simp at b
      ·split at b
       ·simp at b
       ·simp only [sh,IS]at b;rw [←b.2,m];exact(ot _ _ _).ext
    obtain⟨I,J⟩:=SR.ahead g y;refine cU.ahead g y ?_;exact Bs z (X:={ X with H:=H' }) I l (q.ext' σ J) j d (cZ.refl _)
  ·simp only [eI]at h;split at h
   ·rename_i c args A;simp only [IN,IS]at h;obtain⟨⟨F,H'⟩,d,rfl,rfl⟩:=h;exact⟨cU.Zy (Xl z g l q j A (m▸d)) u,rfl⟩
   ·simp at h
  ·simp only [eI,sh,IS]at h;obtain⟨rfl,rfl⟩:=h;rw [←m];exact⟨EB g l j u,rfl⟩
  ·simp only [eI]at h;split at h
   ·rename_i f args A;simp only [sh,IS]at h;obtain⟨rfl,rfl⟩:=h;refine⟨?_,rfl⟩;rw [←m];exact Xs g l q j u A
   ·simp at h
 ·have E:(bz s.aA s.heap op).map (fun r=>(r.1,{ s with heap:=r.2 }))=aa (v,s'):=by
   cases op<;>first | exact h | (exfalso;apply B;simp)
  simp only [IN,IS]at E;obtain⟨⟨F,H'⟩,d,rfl,rfl⟩:=E;refine⟨cU.Zy (cU.amu (qp j ?_ ?_) (aj3 g l q j (m▸d))) u,rfl⟩
  ·rintro x xs rfl;exact B (.inr (.inr (.inr ⟨x,xs,rfl⟩)))
  ·rintro rfl;simp [bz]at d
end
section
variable{Q:Program}{σ:Nat→FuncId}{X:Wd}{call:cJ}
structure Fr(Q:Program)(σ:Nat→FuncId)(n:Nat)(X:Wd)(s:St)(a:Act):Prop where
 heap:X.H=s.heap
 sr:SR Q σ X
 b:X.B≤X.w.heap.size
 aA:RR σ X s.aA a.tmps
 defs:fH σ X s.defs a.defers
 size:n≤a.tmps.size
theorem oG{n:Nat}{ops:Array Oper}{o:Oper}{m:aS}(F:lF Q σ n ops o m=ae){aA:T}{tmps:Array Value}(I:∀ p w',m.g=aa (p,w')→VR σ X (aA.get p) (tmps.getD p.toNat undef))(K:n≤tmps.size){w:Bool}(h:wanted aA m.g=aa w) :
  Region.wanted o (yielded ops tmps)=w:=by
 simp only [lF,BY]at F;obtain⟨_,b⟩:=F;unfold Region.wanted;cases x:o.guard with
 | none=>
  rw [x]at b;cases g:m.g with
  | none=>rw [g]at h;simp only [wanted,sh]at h;simpa using h| some q=>rw [g]at b;simp at b
 | some L=>
  obtain⟨j,N⟩:=L;rw [x]at b;cases g:m.g with
  | none=>rw [g]at b;simp at b
  | some q=>
   obtain⟨p,w'⟩:=q;rw [g]at b h;simp only [BY,beq_iff_eq]at b;obtain⟨rfl,b⟩:=b;split at b
   ·rename_i d J;simp only [BY,beq_iff_eq,decide_eq_true_eq]at b;obtain⟨B,A⟩:=b;have l:=I p _ g;rw [B]at l;have v:d<tmps.size:=asA A K;have s:tmps.getD d undef=tmps[d]:=by simp [Array.getD,v]
    rw [s]at l;simp only [wanted]at h;simp only [yielded,J,ar7,Array.getElem?_eq_getElem v];split at h
    ·rename_i H z;rw [z]at l;simp only [sh]at h;have y:cH σ X.F X.w (.bool H) tmps[d]:=l;generalize tmps[d]=u at y;cases y;subst h;simp
    ·rename_i z;rw [z]at l;obtain⟨us,E,M⟩:=l;simp only [sh]at h;subst h;rw [E];simp
    ·simp at h
   ·simp at b
theorem YT{n:Nat}{ops:Array Oper}{o:Oper}{m:aS}(s:lF Q σ n ops o m=ae){aA:T}{a:Act}(q:RR σ X aA a.tmps)(x:n≤a.tmps.size){v:V}{u:Value}(y:VR σ X v u) :
  RR σ X (ke aA m.dst v) (a.put o.dst u).tmps∧(a.put o.dst u).tmps.size=a.tmps.size∧(a.put o.dst u).defers=a.defers:=by
 simp only [lF,BY]at s;obtain⟨⟨_,b⟩,_⟩:=s;split at b
 ·rename_i d p g j;simp only [BY,beq_iff_eq,decide_eq_true_eq]at b;obtain⟨rfl,l⟩:=b;rw [g,j];exact⟨RR.set σ q (asA l x) y,by simp [Act.put],rfl⟩
 ·rename_i g j;rw [g,j];exact⟨q,rfl,rfl⟩
 ·simp at b
theorem VR.undef:VR σ X (.t []) undef:=⟨[],rfl,A2.nil⟩
theorem ZC(L:eY Q σ call){n:Nat}{s s':St}{a:Act}(d:Fr Q σ n X s a){ops:Array Oper}{o:Oper}{m:aS}(j:lF Q σ n ops o m=ae)(h:fC call s m=aa s')
  {b:Frame} {i:Nat} {rest:List Nat} {k:List Item} {cs:List Frame} (x:ops[i]?=aa o) (M:ju b cs) (hr:gE m.op b) :
  ∃ X' a',Steps Q (lone (b.atR a (.inRegion ops (i::rest)::k)) cs X.w) (lone (b.atR a' (.inRegion ops rest::k)) cs X'.w)∧Fr Q σ n X' s' a'∧Ext X.H.length X X'∧a'.tmps.size=a.tmps.size:=by
 unfold fC at h;split at h
 ·rename_i g;have g:=oG j (fun p w' _=>d.aA p) d.size g;split at h
  ·rename_i v N I;simp only [sh]at h;subst h;have l:dD Q σ o m.op=ae:=by simp only [lF,BY]at j;exact j.1.1
   obtain⟨J,K⟩:=Gs L d.sr d.b d.heap d.aA d.defs l I;obtain⟨X',u,a',z,⟨A,B,E,y,F⟩,q,H⟩:=J b ops i rest k cs x g M hr;obtain⟨p1,p2,p3⟩:=YT j (X:=X') (a:=a') (by rw [q];exact d.aA.ext' σ y) (by rw [q];exact d.size) E;refine⟨X',a'.put o.dst u,z,⟨A,B,F,?_,by rw [p3];exact H,by rw [p2,q];exact d.size⟩,y,by rw [p2,q]⟩;simpa [K]using p1
  ·simp at h
 ·rename_i g;have g:=oG j (fun p w' _=>d.aA p) d.size g;simp only [sh]at h;subst h;obtain⟨p1,p2,p3⟩:=YT j d.aA d.size (VR.undef (σ:=σ) (X:=X));refine⟨X,a.put o.dst undef,.one ?_,⟨d.heap,d.sr,d.b,p1,by rw [p3];exact d.defs,by rw [p2];exact d.size⟩,Ext.refl _ _,p2⟩;have:=stepR_op_skip (P:=Q) (b:=b) (a:=a) (k:=k) (cs:=cs) (w:=X.w) (ops:=ops) (i:=i) (rest:=rest) (by simp [x,g]);rw [x]at this;exact this
 ·simp at h
theorem Gv(H:eY Q σ call){n:Nat}{ops:Array Oper}{b:Frame}{k:List Item}{cs:List Frame}(I:ju b cs):∀(aos:List aS) (j:Nat) (X:Wd) (s s':St) (a:Act),Fr Q σ n X s a →
  fI (lF Q σ n ops) (ops.toList.drop j) aos=ae→(∀ ao ∈ aos,gE ao.op b)→fx call aos s=aa s' →
  ∃ X' a',Steps Q (lone (b.atR a (.inRegion ops ((List.range ops.size).drop j)::k)) cs X.w) (lone (b.atR a' k) cs X'.w)∧Fr Q σ n X' s' a'∧Ext X.H.length X X'∧a'.tmps.size=a.tmps.size
 | [],j,X,s,s',a,A,d,_,h=>by
  simp only [fx,sh]at h;subst h;have O:(List.range ops.size).drop j=[]:=by
   cases g:ops.toList.drop j with
   | nil=>
    have:=atp.1 g;simp at this;rw [atp];simpa using this
   | cons x xs=>rw [g]at d;simp [fI]at d
  rw [O];exact⟨X,a,.one stepR_region_end,A,Ext.refl _ _,rfl⟩
 | ao::aos,j,X,s,s',a,A,d,hr,h=>by
  cases g:ops.toList.drop j with
  | nil=>rw [g]at d;simp [fI]at d
  | cons o os=>
   rw [g]at d;simp only [fI,BY]at d;have v:j<ops.toList.length:=by
    rcases ar9 j ops.toList.length with q | q
    ·exact q
    ·rw [atp.2 q]at g;simp at g
   have l:=ar5 v;rw [g]at l;simp only [List.cons.injEq]at l;obtain⟨S,F⟩:=l;simp only [fx]at h;split at h
   ·rename_i s1 q;have m:(List.range ops.size).drop j=j ::(List.range ops.size).drop (j+1):=by
     rw [ar5 (by simpa using v)];simp
    rw [m];obtain⟨y,a1,L,M,z,N⟩:=ZC H A d.1 q (b:=b) (i:=j) (rest:=(List.range ops.size).drop (j+1)) (k:=k) (cs:=cs) (by simp at v;simp [v,S]) I (hr _ (by simp));obtain⟨J,K,U,W,Y,Z⟩:=Gv H I aos (j+1) y s1 s' a1 M (by rw [←F];exact d.2) (fun ao h=>hr ao (by simp [h])) h;refine⟨J,K,L.trans U,W,z.trans (Y.mono ?_),Z.trans N⟩;have:=z.bT;rcases ar9 y.H.length X.H.length with u | E
    ·obtain⟨blk',B,_⟩:=z.bT y.H.length u _ (AT u);have:=(By.1 B).1;omega
    ·exact E
   ·simp at h
end
theorem lC{r r':T}{x:Arg}(h:∀ p ∈ x.rd,r.get p=r'.get p):x.ev r=x.ev r':=by
 cases x with
 | r p=>exact h p (by simp [Arg.rd])
 | k v=>rfl
theorem Mh{r r':T}{x:Option Arg}(h:∀ p ∈ oRd x,r.get p=r'.get p):x.map (·.ev r)=x.map (·.ev r'):=by
 cases x with
 | none=>rfl| some x=>simp only [asm];rw [lC h]
theorem fY{r r':T}{xs:List Arg}(h:∀ p ∈ xs.flatMap Arg.rd,r.get p=r'.get p):dh r xs=dh r' xs:=by
 unfold dh;refine List.map_congr_left fun x d=>lC fun p b=>h p (atg.2 ⟨x,d,b⟩)
theorem jv{r r':T}:∀(ps:List (Nat × Nat × Arg)) (cs:List C),(∀ p ∈ ps.flatMap (fun q=>q.2.2.rd),r.get p=r'.get p)→dv r cs ps=dv r' cs ps
 | [],cs,_=>rfl
 | (off,n,x)::ps,cs,h=>by
  simp only [dv];rw [lC (x:=x) (r:=r) (r':=r') fun p b=>h p (by simp [b])];split
  ·split
   ·exact jv ps _ fun p b=>h p (by simp only [List.flatMap_cons,ar3];exact .inr b)
   ·rfl
  ·rfl
theorem EV{r r':T}{H:aj}{op:cP}(h:∀ p ∈ op.rd,r.get p=r'.get p):bz r H op=bz r' H op:=by
 have e:∀ x:Arg,(∀ p ∈ x.rd,p ∈ op.rd)→x.ev r=x.ev r':=fun x A=>lC fun p d=>h p (A p d);have g:∀ x:Option Arg,(∀ p ∈ oRd x,p ∈ op.rd)→x.map (·.ev r)=x.map (·.ev r'):=fun x A=>Mh fun p d=>h p (A p d);cases op
 case build zs ps=>simp only [bz];rw [jv ps _ h]
 case aV sz zs n ps=>
  simp only [bz];rw [jv (r:=r) (r':=r') (ps.map fun p=>(p.1*sz,sz,p.2)) _ fun p d=>h p (by
   simp only [atg,ase]at d;obtain⟨q,⟨q',j,rfl⟩,u⟩:=d;exact atg.2 ⟨q',j,u⟩)]
 case fU sz zs n ps=>
  simp only [bz];rw [jv (r:=r) (r':=r') (ps.map fun p=>(p.1*sz,sz,p.2)) _ fun p d=>h p (by
   simp only [atg,ase]at d;obtain⟨q,⟨q',j,rfl⟩,u⟩:=d;exact atg.2 ⟨q',j,u⟩)]
 case lG f xs=>simp only [bz];rw [fY h]
 case pick c a b=>
  simp only [bz];rw [e c (by simp +contextual [cP.rd])];split
  ·rename_i v _;cases v<;>simp [e a (by simp +contextual [cP.rd]),e b (by simp +contextual [cP.rd])]
  ·rfl
 case slice sz x lo hi mx=>simp only [bz];rw [e x (by simp +contextual [cP.rd]),g lo (by simp +contextual [cP.rd]),g hi (by simp +contextual [cP.rd]),g mx (by simp +contextual [cP.rd])]
 case oU n sz x lo hi mx=>simp only [bz];rw [e x (by simp +contextual [cP.rd]),g lo (by simp +contextual [cP.rd]),g hi (by simp +contextual [cP.rd]),g mx (by simp +contextual [cP.rd])]
 case qH x lo hi=>simp only [bz];rw [e x (by simp +contextual [cP.rd]),g lo (by simp +contextual [cP.rd]),g hi (by simp +contextual [cP.rd])]
 case kG B m k v=>simp only [bz];rw [e m (by simp +contextual [cP.rd]),e k (by simp +contextual [cP.rd]),e v (by simp +contextual [cP.rd])]
 case bJ x=>simp only [bz];rw [e x (by simp +contextual [cP.rd])]
 case box x=>simp only [bz];rw [e x (by simp +contextual [cP.rd])]
 case load n x=>simp only [bz];rw [e x (by simp +contextual [cP.rd])]
 case bD x=>simp only [bz];rw [e x (by simp +contextual [cP.rd])]
 case un o x=>simp only [bz];rw [e x (by simp +contextual [cP.rd])]
 case fA k x=>simp only [bz];rw [e x (by simp +contextual [cP.rd])]
 case y6 x=>simp only [bz];rw [e x (by simp +contextual [cP.rd])]
 case vX x=>simp only [bz];rw [e x (by simp +contextual [cP.rd])]
 case DB x=>simp only [bz];rw [e x (by simp +contextual [cP.rd])]
 case aD o x=>simp only [bz];rw [e x (by simp +contextual [cP.rd])]
 case field o n x=>simp only [bz];rw [e x (by simp +contextual [cP.rd])]
 case range x=>simp only [bz];rw [e x (by simp +contextual [cP.rd])]
 case next x=>simp only [bz];rw [e x (by simp +contextual [cP.rd])]
 case extract x i=>simp only [bz];rw [e x (by simp +contextual [cP.rd])]
 case len x=>simp only [bz];rw [e x (by simp +contextual [cP.rd])]
 case lens x=>simp only [bz];rw [e x (by simp +contextual [cP.rd])]
 case cap x=>simp only [bz];rw [e x (by simp +contextual [cP.rd])]
 case entry x=>simp only [bz];rw [e x (by simp +contextual [cP.rd])]
 case mj x=>simp only [bz];rw [e x (by simp +contextual [cP.rd])]
 case qu x=>simp only [bz];rw [e x (by simp +contextual [cP.rd])]
 case clear s z x=>simp only [bz];rw [e x (by simp +contextual [cP.rd])]
 case mP lo xs=>simp only [bz];rw [fY h]
 case v7 f xs=>simp only [bz];rw [fY h]
 case wu s x y z=>simp only [bz];rw [e x (by simp +contextual [cP.rd]),e y (by simp +contextual [cP.rd]),e z (by simp +contextual [cP.rd])]
 case sV s b z x y=>simp only [bz];rw [e x (by simp +contextual [cP.rd]),e y (by simp +contextual [cP.rd])]
 case store n x y=>simp only [bz];rw [e x (by simp +contextual [cP.rd]),e y (by simp +contextual [cP.rd])]
 case bin o x y=>simp only [bz];rw [e x (by simp +contextual [cP.rd]),e y (by simp +contextual [cP.rd])]
 case eq n k x y=>simp only [bz];rw [e x (by simp +contextual [cP.rd]),e y (by simp +contextual [cP.rd])]
 case aW s a x y=>simp only [bz];rw [e x (by simp +contextual [cP.rd]),e y (by simp +contextual [cP.rd])]
 case idxs x y=>simp only [bz];rw [e x (by simp +contextual [cP.rd]),e y (by simp +contextual [cP.rd])]
 case qd l s n x y=>simp only [bz];rw [e x (by simp +contextual [cP.rd]),e y (by simp +contextual [cP.rd])]
 case append s b x y=>simp only [bz];rw [e x (by simp +contextual [cP.rd]),e y (by simp +contextual [cP.rd])]
 case copy s x y=>simp only [bz];rw [e x (by simp +contextual [cP.rd]),e y (by simp +contextual [cP.rd])]
 case lookup c z x y=>simp only [bz];rw [e x (by simp +contextual [cP.rd]),e y (by simp +contextual [cP.rd])]
 case cM s b z x y=>simp only [bz];rw [e x (by simp +contextual [cP.rd]),e y (by simp +contextual [cP.rd])]
 all_goals rfl
theorem Gt{call:cJ}{s:St}{r':T}{op:cP}(h:∀ p ∈ op.rd,s.aA.get p=r'.get p){v:V}{s':St}(b:eI call s op=aa (v,s')):eI call { s with aA:=r' } op=aa (v,{ s' with aA:=r' }):=by
 by_cases d:(∃ f xs h,op=.call f xs h)∨(∃ x xs h,op=.bY x xs h)∨op=.recover∨∃ x xs,op=.defer x xs
 ·rcases d with⟨f,xs,m,rfl⟩ | ⟨x,xs,m,rfl⟩ | rfl | ⟨x,xs,rfl⟩
  ·simp only [eI,IN,IS]at b ⊢;obtain⟨q,g,rfl,rfl⟩:=b;rw [fY h]at g;exact⟨q,g,rfl,rfl⟩
  ·simp only [eI]at b ⊢;rw [lC (x:=x) (r:=s.aA) (r':=r') (fun p d=>h p (by simp [cP.rd,d])),fY (xs:=xs) (r:=s.aA) (r':=r') (fun p d=>h p (by simp only [cP.rd,ar3];exact .inr d))]at b;split at b
   ·simp only [IN,IS]at b ⊢;obtain⟨q,g,rfl,rfl⟩:=b;exact⟨q,g,rfl,rfl⟩
   ·simp at b
  ·simp only [eI,sh,IS]at b ⊢;obtain⟨rfl,rfl⟩:=b;exact⟨rfl,rfl⟩
  ·simp only [eI]at b ⊢;rw [lC (x:=x) (r:=s.aA) (r':=r') (fun p d=>h p (by simp [cP.rd,d])),fY (xs:=xs) (r:=s.aA) (r':=r') (fun p d=>h p (by simp only [cP.rd,ar3];exact .inr d))]at b;split at b
   ·simp only [sh,IS]at b ⊢;obtain⟨rfl,rfl⟩:=b;exact⟨rfl,rfl⟩
   ·simp at b
 ·have j:(bz s.aA s.heap op).map (fun r=>(r.1,{ s with heap:=r.2 }))=aa (v,s'):=by
   cases op<;>first | exact b | (exfalso;apply d;simp)
  have l:eI call { s with aA:=r' } op=(bz r' s.heap op).map (fun r=>(r.1,{ s with aA:=r',heap:=r.2 })):=by
   cases op<;>first | rfl | (exfalso;apply d;simp)
  rw [l,←EV h];simp only [IN,IS]at j ⊢;obtain⟨q,g,rfl,rfl⟩:=j;exact⟨q,g,rfl,rfl⟩
theorem agJ{r:T}{op:cP}(b:cls op=.p)(H H':aj):bz r H' op=(bz r H op).map fun q=>(q.1,H'):=by
 cases op<;>simp only [cls,reduceCtorEq]at b<;>simp only [bz]
 all_goals first
  | (simp [Function.comp_def];done)
  | (split<;>simp [Function.comp_def];done)
  | (split<;>(first | rfl | (split<;>rfl)))
section
theorem fk{H H':aj}(m:cZ H H')(b:Nat):H[b]?=ab∨(∃ cs l g,H[b]?=aa (.box cs l)∧H'[b]?=aa (.box cs g)) ∨
  (∃ s cs l g e st,H[b]?=aa (.bM s cs l e st)∧H'[b]?=aa (.bM s cs g e st))∨∃ bu,H[b]?=aa bu∧H'[b]?=aa bu:=by
 cases q:H[b]? with
 | none=>exact .inl rfl
 | some bu=>
  obtain⟨blk',d,j⟩:=m b _ q;cases bu<;>cases blk'<;>simp only [da,reduceCtorEq]at j
  ·obtain⟨rfl,_⟩:=j;exact .inr (.inl ⟨_,_,_,rfl,d⟩)
  ·obtain⟨rfl,rfl,_,rfl,rfl⟩:=j;exact .inr (.inr (.inl ⟨_,_,_,_,_,_,rfl,d⟩))
  all_goals (rw [←j]at d;exact .inr (.inr (.inr ⟨_,rfl,d⟩)))
variable{H H':aj}
theorem Bu(l:cZ H H'){x:C}{cs:List C}(h:aC H x=aa cs):aC H' x=aa cs:=by
 cases x with
 | ptr b off q=>
  simp only [aC]at h ⊢;rcases fk l b with e | ⟨cs,j,g,e,d⟩ | ⟨s,cs,j,g,m,st,e,d⟩ | ⟨bu,e,d⟩
  ·simp [e]at h
  ·rw [e]at h;rw [d];exact h
  ·rw [e]at h;rw [d];cases st<;>exact h
  ·rw [e]at h;rw [d];exact h
 | f x=>cases x<;>exact h
 | _=>simp [aC]at h
theorem ad5(g:cZ H H'){n:Option Nat}{x:V}{v:V}(h:aU H n x=aa v):aU H' n x=aa v:=by
 cases x with
 | c x=>
  simp only [aU,Option.bind_eq_some_iff]at h ⊢;obtain⟨cs,b,d⟩:=h;exact⟨cs,Bu g b,d⟩
 | _=>simp [aU]at h
theorem yq(m:cZ H H'){x:C}{n:Nat}(h:bH H x=aa n):bH H' x=aa n:=by
 cases x with
 | sl b o l c u sz=>
  simp only [bH]at h ⊢;rcases fk m b with e | ⟨cs,j,g,e,d⟩ | ⟨s,cs,j,g,q,st,e,d⟩ | ⟨bu,e,d⟩
  ·simp [e]at h
  all_goals (rw [e]at h;rw [d];exact h)
 | f x=>cases x<;>exact h
 | _=>simp [bH]at h
theorem Cr(m:cZ H H'){sz:Nat}{x:C}{cs:List C}(h:cO H sz x=aa cs):cO H' sz x=aa cs:=by
 cases x with
 | sl b o l c u s=>
  simp only [cO]at h ⊢;rcases fk m b with e | ⟨cs,j,g,e,d⟩ | ⟨s,cs,j,g,q,st,e,d⟩ | ⟨bu,e,d⟩
  ·simp [e]at h
  all_goals (rw [e]at h;rw [d];exact h)
 | f x=>cases x<;>exact h
 | _=>simp [cO]at h
theorem oh(q:cZ H H'){k:K8}{x:C}{b:Bool}(h:isNil H k x=aa b):isNil H' k x=aa b:=by
 cases k<;>cases x<;>first | exact h | (simp [isNil]at h;done) | skip
 case sl.sl j o l c v s=>
  simp only [isNil]at h ⊢;rcases fk q j with e | ⟨cs,m,g,e,d⟩ | ⟨s,cs,m,g,u,st,e,d⟩ | ⟨bu,e,d⟩
  ·simp [e]at h
  all_goals (rw [e]at h;rw [d];exact h)
 all_goals (rename_i y;cases y<;>exact h)
theorem adv(d:cZ H H'){k:K8}{x y:V}{b:Bool}(h:za H k x y=aa b):za H' k x y=aa b:=by
 unfold za at h;split at h
 ·exact h
 ·exact h
 ·exact oh d h
 ·exact oh d h
 ·exact oh d h
 ·exact oh d h
 ·simp at h
theorem EL(l:cZ H H'){sz:Nat}{x:V}{lo hi mx:Option V}{v:V}(h:dw H sz x lo hi mx=aa v):dw H' sz x lo hi mx=aa v:=by
 unfold dw at h;split at h
 ·exact h
 ·exact h
 ·exact h
 ·rename_i b o n cap q s;simp only [dw];rcases fk l b with e | ⟨cs,j,g,e,d⟩ | ⟨s,cs,j,g,m,st,e,d⟩ | ⟨bu,e,d⟩
  ·simp [e]at h
  all_goals (rw [e]at h;rw [d];exact h)
 ·simp at h
theorem EJ(l:cZ H H'){n sz:Nat}{x:V}{lo hi mx:Option V}{v:V}(h:kZ H n sz x lo hi mx=aa v):kZ H' n sz x lo hi mx=aa v:=by
 unfold kZ at h;split at h
 ·rename_i b off q;simp only [kZ];rcases fk l b with e | ⟨cs,j,g,e,d⟩ | ⟨s,cs,j,g,m,st,e,d⟩ | ⟨bu,e,d⟩
  ·simp [e]at h
  all_goals (rw [e]at h;rw [d];exact h)
 ·exact h
 ·simp at h
theorem BF(q:cZ H H'){sz:Nat}{d:Option Nat}{x i:V}{v:V}(h:aP H sz d x i=aa v):aP H' sz d x i=aa v:=by
 unfold aP at h ⊢;split at h
 ·simp at h
 ·split at h
  ·rename_i hi;simp only [hi,if_true];split at h
   ·rename_i b o l c z s;split at h
    ·rename_i u;simp only [u,if_true];rcases fk q b with e | ⟨cs,m,j,e,g⟩ | ⟨s,cs,m,j,y,st,e,g⟩ | ⟨bu,e,g⟩
     ·simp [e]at h
     ·rw [e]at h;rw [g];exact h
     ·rw [e]at h;rw [g];cases st<;>exact h
     ·rw [e]at h;rw [g];exact h
    ·simp at h
   ·exact h
   ·exact h
   ·exact h
   ·simp at h
  ·simp at h
theorem BM(q:cZ H H'){j:CK}{z:FC}{m k:V}{v:V}(h:gv H j z m k=aa v):gv H' j z m k=aa v:=by
 unfold gv at h;split at h
 ·exact h
 ·rename_i b k;simp only [gv];rcases fk q b with e | ⟨cs,l,g,e,d⟩ | ⟨s,cs,l,g,u,st,e,d⟩ | ⟨bu,e,d⟩
  ·simp [e]at h
  all_goals (rw [e]at h;rw [d];exact h)
 ·simp at h
theorem Lo(d:cZ H H'){x v:V}(h:oO H x=aa v):oO H' x=aa v:=by
 cases x with
 | c x=>
  simp only [oO]at h ⊢;split at h
  ·rename_i n g;split at h
   ·rename_i cs b;rw [yq d g,Cr d b];exact h
   ·simp at h
  ·simp at h
 | _=>simp [oO]at h
theorem MB(m:cZ H H'){x:C}{n:Nat}(h:mH H x=aa n):mH H' x=aa n:=by
 cases x with
 | sl b o l c u sz=>
  simp only [mH]at h ⊢;rcases fk m b with e | ⟨cs,j,g,e,d⟩ | ⟨s,cs,j,g,q,st,e,d⟩ | ⟨bu,e,d⟩
  ·simp [e]at h
  ·rw [e]at h;rw [d];exact h
  ·rw [e]at h;rw [d];cases st<;>exact h
  ·rw [e]at h;rw [d];exact h
 | f x=>cases x<;>exact h
 | _=>simp [mH]at h
theorem aea(l:cZ H H'){b:Nat}{d:List (FC × C)}(h:H[b]?=aa (.map d)):H'[b]?=aa (.map d):=by
 obtain⟨blk',j,g⟩:=l b _ h;cases blk'<;>simp only [da,reduceCtorEq,cT.map.injEq]at g;subst g;exact j
theorem aeb(l:cZ H H'){b m s:Nat}{d:Bool}(h:H[b]?=aa (.vP m s d)):H'[b]?=aa (.vP m s d):=by
 obtain⟨blk',j,g⟩:=l b _ h;cases blk'<;>simp only [da,reduceCtorEq,cT.vP.injEq]at g;obtain⟨rfl,rfl,rfl⟩:=g;exact j
theorem DD(b:cZ H H'){x v:V}(h:lW H x=aa v):lW H' x=aa v:=by
 unfold lW at h;split at h
 ·split at h
  ·rename_i d;split at h
   ·rename_i g;simp only [lW,aeb b d,aea b g];exact h
   ·simp at h
  ·simp at h
 ·simp at h
theorem Gu{r:T}{op:cP}(l:cls op=.r)(b:cZ H H'){v:V}{j:aj}(h:bz r H op=aa (v,j)):j=H∧bz r H' op=aa (v,H'):=by
 cases op<;>first | (simp only [bz,reduceCtorEq]at h;done) | (simp only [cls,reduceCtorEq]at l;done) | simp only [bz]at h ⊢
 case len x=>
  split at h
  ·rename_i y m;split at h
   ·rename_i n g;simp only [sh,IS]at h;obtain⟨rfl,rfl⟩:=h;simp only [yq b g];simp
   ·simp at h
  ·simp at h
 case cap x=>
  split at h
  ·rename_i y m;split at h
   ·rename_i n g;simp only [sh,IS]at h;obtain⟨rfl,rfl⟩:=h;simp only [MB b g];simp
   ·simp at h
  ·simp at h
 all_goals
  simp only [IN,IS]at h;obtain⟨q,d,rfl,rfl⟩:=h;refine⟨rfl,?_⟩
 case entry=>rw [DD b d];rfl
 case load=>rw [ad5 b d];rfl
 case eq=>rw [adv b d];rfl
 case slice=>rw [EL b d];rfl
 case oU=>rw [EJ b d];rfl
 case aW=>rw [BF b d];rfl
 case lookup=>rw [BM b d];rfl
 case vX=>rw [Lo b d];rfl
theorem aoe{r:T}{op:cP}(g:cls op=.a){v:V}{d:aj}(h:bz r H op=aa (v,d)):d=H∨∃ bu,d=H++[bu]:=by
 cases op<;>first | (simp only [cls,reduceCtorEq]at g;done) | simp only [bz]at h
 case call=>simp at h
 case alloc zs=>simp only [sh,IS]at h;exact .inr ⟨_,h.2.symm⟩
 case kI=>simp only [sh,IS]at h;exact .inr ⟨_,h.2.symm⟩
 case box x=>
  split at h
  ·simp only [sh,IS]at h;exact .inr ⟨_,h.2.symm⟩
  ·simp at h
 case aV sz zs n ps=>
  split at h
  ·split at h
   ·simp only [sh,IS]at h;exact .inl h.2.symm
   ·simp at h
  ·simp only [IN,IS]at h;obtain⟨q,j,rfl,rfl⟩:=h;exact .inr ⟨_,rfl⟩
 case cM sz b zs x y=>
  split at h
  ·split at h
   ·split at h
    ·simp only [sh,IS]at h;exact .inl h.2.symm
    ·simp only [sh,IS]at h;exact .inr ⟨_,h.2.symm⟩
   ·simp at h
  ·simp at h
end
section
variable{Q:Program}{σ:Nat→FuncId}{X:Wd}
theorem Fu(d:SR Q σ X)(m:X.B≤X.w.heap.size){n:Nat}{cs:List C}{g:Nat}(u:X.H[n]?=aa (.box cs g))(hr:X.cr n=ab){us:List Value}(h:A2 (CR σ X) cs us)(e:TypeId) :
  ∃ X',X'.w=X.w.alloc (.cells us.toArray e)∧X'.H=X.H∧SR Q σ X'∧Ext X.H.length X X'∧X'.cr n=aa ⟨X.w.heap.size,0⟩∧X'.B≤X'.w.heap.size∧∀ b,b≠n→X'.cr b=X.cr b:=by
 obtain⟨j,l⟩:=SR.fill d m u hr (dI.alloc X.w (.cells us.toArray e)) 0 (fun v=>⟨us,jQ (dI.alloc _ _),A2.ext' σ v h,fun i _ s=>by
  have:=d.fb _ _ s;simp at this⟩)
 exact⟨{ X with cr:=fun b=>if b=n then aa ⟨X.w.heap.size,0⟩else X.cr b,w:=X.w.alloc (.cells us.toArray e) },rfl,rfl,j,l,by simp,by simp;omega,fun b q=>by simp [q]⟩
def Dh(Q:Program)(σ:Nat→FuncId)(X:Wd)(n:Nat)(v:V)(s:Sem Next)(e:Prop):Prop:=
 ∃ X' u,s.run Q X.w=.ok (.value u) X'.w∧na Q σ X v X.H X' u∧(∀ b,b≠n→X'.cr b=X.cr b)∧(e→X'.cr=X.cr)
theorem Bz(z:SR Q σ X)(y:X.B≤X.w.heap.size){n:Nat}{cs:List C}{j:Nat}(g:X.H[n]?=aa (.box cs j))(hr:X.cr n=ab){us:List Value}(h:A2 (CR σ X) cs us)(e:TypeId){s:Sem Next}{b:Prop}(A:¬ b)
  (B:s.run Q X.w=.ok (.value (.pointer (aa ⟨X.w.heap.size,0,ab⟩))) (X.w.alloc (.cells us.toArray e))):Dh Q σ X n (.c (.ptr n 0 0)) s b:=by
 obtain⟨X',l,d,m,q,u,v,x⟩:=Fu z y g hr h e;refine⟨X',_,by rw [l];exact B,⟨d,m,?_,q,v⟩,x,fun h=>absurd h A⟩;exact⟨_,u,by rw [d,g]⟩
theorem Fv(B:SR Q σ X)(A:X.B≤X.w.heap.size){n:Nat}{cs:List C}{m:Nat}(j:X.H[n]?=aa (.box cs m))(hr:X.cr n=ab){us:List Value}(h:A2 (CR σ X) cs us)(e:TypeId){s:Sem Next}{l c sz:Nat}(b:l≤c){d:Prop}(E:¬ d)
  (F:s.run Q X.w=.ok (.value (.slice (aa ⟨X.w.heap.size,0,ab⟩) l c)) (X.w.alloc (.cells us.toArray e))):Dh Q σ X n (.c (.sl n 0 l c 0 sz)) s d:=by
 obtain⟨X',q,g,u,v,x,y,z⟩:=Fu B A j hr h e;refine⟨X',_,by rw [q];exact F,⟨g,u,?_,v,y⟩,z,fun h=>absurd h E⟩;simp only [VR,gU,CR,fD,g,j];exact⟨_,x,b,rfl⟩
theorem qc{H b:aj}{cs:List C}(h:cZ (H++[.box cs 0]) b):∃ g,b[H.length]?=aa (.box cs g):=by
 obtain⟨blk',j,d⟩:=h H.length (.box cs 0) (by simp);cases blk'<;>simp only [da,reduceCtorEq]at d;obtain⟨rfl,_⟩:=d;exact⟨_,j⟩
theorem Cq{w':World}{o:Obj}(g:SR Q σ X)(d:dI X.w w' o)(q:X.B≤X.w.heap.size):∃ X':Wd,X'.w=w'∧X'.H=X.H∧SR Q σ X'∧Ext X.H.length X X'∧X'.B≤X'.w.heap.size∧X'.cr=X.cr:=by
 have j:Ext X.H.length X { X with w:=w' }:=Ext.one g X.H.length rfl (fun _ _=>Iff.rfl) (fun k m _=>d.CP m)
  (fun L i h=>by rw [SR.rY g]at h;simp at h) (fun h=>absurd h (ati _)) (fun _ _ _=>rfl) (fun _ _=>rfl) (fun L h=>.inl ⟨L,h,rfl⟩) (by show _≤w'.heap.size;rw [d.size];omega) d.os d.tape d.output
 refine⟨{ X with w:=w' },rfl,rfl,SR.step Q σ g j X.H.length (fun _ _=>rfl) (fun _ _=>rfl) (fun b L _ l=>d.CP (g.br b L l).2.1)
  (fun _ _ _ _ _ h=>h) (fun L h=>by change X.cr X.H.length=aa L at h;rw [SR.rY g]at h;simp at h) (fun c i h=>?_),j,?_,rfl⟩
 ·have:=g.fb c i h;show c<w'.heap.size;rw [d.size];omega
 ·show X.B≤w'.heap.size;rw [d.size];omega
theorem ad3(M:SR Q σ X)(L:X.B≤X.w.heap.size){a:Act}{aA:T}(hR:RR σ X aA a.tmps){o:Oper}{op:cP}(hc:cls op=.a)(d:dD Q σ o op=ae){H H1:aj}{v:V}(h:bz aA H op=aa (v,H1))
  (hH:cZ H1 X.H) (hr:H1.length≠H.length→X.cr H.length=ab):Dh Q σ X H.length v (execOp a.eval o) (H1.length=H.length):=by
 cases op<;>first | (simp only [cls,reduceCtorEq]at hc;done) | skip
 case call f xs h'=>simp [bz]at h
 case alloc zs=>
  simp only [bz,sh,IS]at h;obtain⟨rfl,rfl⟩:=h;obtain⟨fl,F⟩:=qc hH;simp only [dD]at d;split at d
  ·rename_i t B;obtain⟨z,us,h1,K,h3,_⟩:=eH (σ:=σ) (X:=X) d X.w;refine Bz M L F (hr (by simp)) h3 t (by simp) ?_;simp only [execOp,B];refine eb ?_;simp [Instr.alloc,h1,newVar,newRow,K]
  ·simp at d
 case kI=>
  simp only [bz,sh,IS]at h;obtain⟨rfl,rfl⟩:=h;have F:X.H[H.length]?=aa (.map []):=by
   obtain⟨blk',hb,hl⟩:=hH H.length (.map []) (by simp);cases blk'<;>simp only [da,reduceCtorEq,cT.map.injEq]at hl;subst hl;exact hb
  simp only [dD]at d;split at d
  ·rename_i t B;have hr:=hr (by simp);obtain⟨h1,K⟩:=SR.fill M L F hr (dI.alloc X.w (.map #[] 0)) 0 (fun hx=>⟨[],(dI.alloc _ _).new,A2.nil,by simp⟩);refine⟨{ X with cr:=fun b=>if b=H.length then aa ⟨X.w.heap.size,0⟩else X.cr b,w:=X.w.alloc (.map #[] 0) },.map (aa X.w.heap.size),?_,⟨rfl,h1,⟨⟨X.w.heap.size,0⟩,by simp,⟨[],F⟩,rfl⟩,K,by show X.B≤_;simp;omega⟩,fun b hb=>by simp [hb],fun h=>by simp at h⟩;simp [execOp,B,Instr.makeMap]
  ·simp at d
 case box x=>
  simp only [bz]at h;split at h
  ·rename_i xs e_;simp only [sh,IS]at h;obtain⟨rfl,rfl⟩:=h;obtain⟨fl,F⟩:=qc hH;simp only [dD]at d;split at d
   ·rename_i t y B;obtain⟨us,K,h3⟩:=pT (bN hR d) e_;refine Bz M L F (hr (by simp)) h3 t (by simp) ?_;simp only [execOp,B];refine eb ?_;simp [Instr.box,newVar,newRow,K]
   ·simp at d
  ·simp at h
 case aV sz zs n ps=>
  simp only [dD]at d;split at d
  ·rename_i t n' qs B;simp only [BY,beq_iff_eq,decide_eq_true_eq]at d;obtain⟨⟨⟨⟨rfl,s⟩,E⟩,i_⟩,hq⟩:=d;obtain⟨e,hu,E⟩:=gY E;simp only [BY,decide_eq_true_eq]at E;obtain⟨⟨j,hz⟩,f_⟩:=E;obtain⟨z,us,W,Y,A,_⟩:=eH (σ:=σ) (X:=X) hz X.w;have I:us.length=sz:=by have:=A.len;simp at this;omega
   simp only [bz]at h;split at h
   ·rename_i F;subst F;split at h
    ·rename_i b_;simp only [sh,IS]at h;obtain⟨rfl,rfl⟩:=h;have U:qs.toList=[]:=by
      have:=(ez hq).len;simp only [List.isEmpty_iff]at b_;rw [b_]at this;exact anc this.symm
     have U:qs=#[]:=by apply Array.ext';simpa using U
     obtain⟨X',h1,K,h3,h4,h5,h6⟩:=Cq M (dI.alloc X.w (.cells #[] e)) L;refine⟨X',.slice (aa ⟨X.w.heap.size,0,ab⟩) 0 0,?_,⟨K,h3,cH.es _,h4,h5⟩,fun b _=>by rw [h6],fun _=>h6⟩;rw [h1];simp only [execOp,B];refine eb ?_;simp [Instr.buildSlice,bj hu,cY j,U,Instr.fill,newRow,show Array.range 0=(#[]:Array Nat) from rfl]
    ·simp at h
   ·rename_i F;simp only [IN,IS]at h;obtain⟨cs,d7,rfl,rfl⟩:=h;obtain⟨fl,O⟩:=qc hH;obtain⟨l7,h5,h6⟩:=od (place:=fun i=>aa (i*sz,sz)) (ps:=qs.toList) hR (qs:=ps.map fun p=>(p.1*sz,sz,p.2)) (A2.map ((ez hq).lP fun q p S=>by
     simp only [BY,beq_iff_eq]at S;exact⟨by rw [S.1],S.2⟩)) (kk A n') d7
    refine Fv M L O (hr (by simp)) h6 e (OF _) (by simp) ?_;simp only [execOp,B];refine eb ?_;have d8:n'*sz≠0:=by
     intro Z;rcases atk.1 Z with Z | Z<;>omega
    have d5:=iI us n' (by omega);rw [I]at d5;simp only [Instr.buildSlice,Sem.run_bind,bj hu,cY j,Result.andThen_ok,aZ (show¬ n'*sz>2 ^ 24 by omega),Sem.run_ite,aZ d8,W,Sem.run_pure,Y];simp only [Array.toList_map];rw [d5];simp [h5,newRow]
  ·simp at d
 case cM sz bytes zs x y=>
  simp only [dD]at d;split at d
  ·rename_i t x' y' B;simp only [BY,decide_eq_true_eq]at d;obtain⟨⟨⟨hx,hy⟩,E⟩,h_⟩:=d;have hx:=bN hR hx;have hy:=bN hR hy;obtain⟨e,hu,E⟩:=gY E;simp only [BY]at E;obtain⟨⟨j,d6⟩,hz⟩:=E;obtain⟨z,us,W,Y,A,k_,j8,j9⟩:=eH (σ:=σ) (X:=X) hz X.w;obtain⟨j7,a8,a9⟩:=zM d6 X.w;simp only [bz]at h;split at h
   ·rename_i l c hl hc;obtain⟨kl,d_⟩:=jr hx hl;obtain⟨kc,f9⟩:=jr hy hc;split at h
    ·rename_i N;obtain⟨Z,j_,u,f_⟩:=N;unfold bW at u;simp only [BY,decide_eq_true_eq]at u;have I:us.length=sz:=by have:=A.len;simp at this;omega
     have d3:=wrap_small (n:=l) Z (by omega);have c_:=wrap_small (n:=c) (by omega) (by omega);have g_:c.toNat*bytes≤2 ^ 48:=by
      have:c.toNat*bytes≤(2*c.toNat+768)*bytes:=asE _ (by omega);omega
     have s:¬ ((bytes:Int)*c>2 ^ 48):=by
      have e1:(bytes:Int)*c=((c.toNat*bytes:Nat):Int):=by
       rw [Int.natCast_mul,asO];congr 1;omega
      rw [e1];omega
     have c9:((Array.range (c.toNat*sz)).map fun i=>us.toArray[i % us.toArray.size]!)=(cq c.toNat us).toArray:=by
      have:=iI us c.toNat (by omega);rwa [I]at this
     have run:(execOp a.eval o).run Q X.w=.ok (.value (.slice (aa ⟨X.w.heap.size,0,ab⟩) l.toNat c.toNat)) (X.w.alloc (.cells (cq c.toNat us).toArray e)):=by
      simp only [execOp,B];refine eb ?_;rw [d_,f9];have a_:¬ c<0:=by omega
      have b9:¬ l<0:=by omega
      have J:¬ l>c:=by omega
      by_cases m:c.toNat*sz=0
      ·have d9:cq c.toNat us=[]:=anc (by rw [lJ,I];exact m);have g:((decide (c<0)||decide ((bytes:Int)*c>2 ^ 48))||decide (l<0)||decide (l>c))=ag:=by rw [decide_eq_false a_,decide_eq_false b9,decide_eq_false J,decide_eq_false s];rfl
       simp only [Instr.makeSlice,Sem.run_bind,bj hu,asInt,asIntOf,Sem.run_pure,Result.andThen_ok,a8,a9,d3,c_,run_askRoom,cY j];simp only [g,arQ,if_false,Sem.run_ite,bp m,Sem.run_bind,Result.andThen_ok,Sem.run_pure,run_askRoom,cY j,newRow,run_newObj];rw [m,d9,show(Array.map (fun x=>(#[]:Array Value)[x % (#[]:Array Value).size]!) (Array.range 0))=#[] from by simp [show Array.range 0=(#[]:Array Nat) from rfl]];rfl
      ·simp only [Instr.makeSlice,Sem.run_bind,bj hu,asInt,asIntOf,Sem.run_pure,Result.andThen_ok,a8,a9,d3,c_,run_askRoom,cY j];have g:((decide (c<0)||decide ((bytes:Int)*c>2 ^ 48))||decide (l<0)||decide (l>c))=ag:=by rw [decide_eq_false a_,decide_eq_false b9,decide_eq_false J,decide_eq_false s];rfl
       simp only [g,arQ,if_false,Sem.run_ite,aZ m,Sem.run_bind,W,Y,Result.andThen_ok,Sem.run_pure,run_askRoom,cY j,c9,newRow,run_newObj];rfl
     split at h
     ·rename_i m;subst m;simp only [sh,IS]at h;obtain⟨rfl,rfl⟩:=h;have:l=0:=by omega
      subst this;obtain⟨X',g1,g2,g3,g4,g5,g6⟩:=Cq M (dI.alloc X.w (.cells (cq (0:Int).toNat us).toArray e)) L;exact⟨X',_,by rw [g1];exact run,⟨g2,g3,cH.es _,g4,g5⟩,fun b _=>by rw [g6],fun _=>g6⟩
     ·simp only [sh,IS]at h;obtain⟨rfl,rfl⟩:=h;obtain⟨fl,O⟩:=qc hH;exact Fv M L O (hr (by simp)) (kk A c.toNat) e (by omega) (by simp) run
    ·simp at h
   ·simp at h
  ·simp at d
end
theorem DZ{b:List Nat}{o:Oper}{i:Nat}:(nC b o).testBit i=ae↔∃ e ∈ o.after.toList,Region.binds .any e=ae∧(e.on=i∨(b.getD e.on 0).testBit i=ae):=by
 unfold nC;have key:∀(l:List Edge) (s:Nat),(l.foldl (fun s e=>if Region.binds .any e then s ||| 2 ^ e.on ||| b.getD e.on 0 else s) s).testBit i=ae ↔
   s.testBit i=ae∨∃ e ∈ l,Region.binds .any e=ae∧(e.on=i∨(b.getD e.on 0).testBit i=ae):=by
  intro l;induction l with
  | nil=>intro s;simp
  | cons e l g=>
   intro s;simp only [asL,g,ass,exists_eq_or_imp];by_cases d:Region.binds .any e=ae
   ·simp only [d,if_true,Nat.testBit_or,Bool.or_eq_true,Nat.testBit_two_pow,decide_eq_true_eq,true_and,or_assoc]
   ·simp [d]
 rw [key];simp
theorem xP:∀(os:List Oper) (b:List Nat),(dt os b).length=b.length+os.length
 | [],b=>by simp [dt]
 | o::os,b=>by rw [dt,xP];simp;omega
theorem rT:∀(os:List Oper) (b:List Nat) (k:Nat),k<b.length→(dt os b)[k]?=b[k]?
 | [],b,k,_=>rfl
 | o::os,b,k,h=>by
  rw [dt,rT os _ k (by simp;omega),At h]
theorem xQ:∀(os:List Oper) (b:List Nat) (t:Nat) (o:Oper),os[t]?=aa o→(dt os b)[b.length+t]?=aa (nC ((dt os b).take (b.length+t)) o)
 | [],b,t,o,h=>by simp at h
 | o'::os,b,0,o,h=>by
  simp only [asI,sh]at h;subst h;have g:∀ k,k<b.length→(dt os (b++[nC b o']))[k]?=b[k]?:=fun k j=>by rw [rT os _ k (by simp;omega),At j]
  have d:(dt os (b++[nC b o'])).take b.length=b:=by
   apply List.ext_getElem?;intro k;rw [asb];split
   ·rename_i j;exact g k j
   ·rename_i j;rw [asS (by omega)]
  rw [dt,Nat.add_zero,d,rT os _ _ (by simp)];simp
 | o'::os,b,t+1,o,h=>by
  simp only [as8]at h;have:=xQ os (b++[nC b o']) t o h;rw [dt];rw [show b.length+(t+1)=(b++[nC b o']).length+t by simp;omega];exact this
theorem Ff{ops:List Oper}{i j:Nat}{o:Oper}(l:ops[j]?=aa o) :
  Ae (dt ops []) i j=ae↔∃ e ∈ o.after.toList,Region.binds .any e=ae∧(e.on=i∨(e.on<j∧Ae (dt ops []) i e.on=ae)):=by
 have h:=xQ ops [] j o l;simp only [List.length_nil,aso]at h;unfold Ae;rw [asl,h,Option.getD_some,DZ];have g:∀ k,((dt ops []).take j).getD k 0=if k<j then(dt ops []).getD k 0 else 0:=by
  intro k;simp only [asl,asb];split<;>simp
 constructor
 ·rintro⟨e,d,b,h⟩;refine⟨e,d,b,h.imp id fun h=>?_⟩;rw [g]at h;split at h
  ·rename_i m;exact⟨m,h⟩
  ·simp at h
 ·rintro⟨e,d,b,h⟩;refine⟨e,d,b,h.imp id fun h=>?_⟩;rw [g,bp h.1];exact h.2
def rk(ops:List Oper)(D:Nat→Prop):Prop:=∀ j o,D j→ops[j]?=aa o→∀ e ∈ o.after.toList,Region.binds .any e=ae→D e.on
theorem rk.below{ops:List Oper}{D:Nat→Prop}(h:rk ops D){i:Nat}:∀(j:Nat),D j→Ae (dt ops []) i j=ae→D i:=by
 intro j;induction j using Nat.strongRecOn with
 | ind j s=>
  intro m b;cases ho:ops[j]? with
  | none=>
   exfalso;unfold Km.Ae at b;have:(dt ops []).length≤j:=by rw [xP];simpa using asJ.1 ho
   rw [asl,asS this]at b;simp at b
  | some o=>
   obtain⟨e,l,g,d | ⟨d,q⟩⟩:=(Ff ho).1 b
   ·exact d▸h j o m ho e l g
   ·exact s e.on d (h j o m ho e l g) q
theorem rk.ready{ops:List Oper}{D:Nat→Prop}(h:rk ops D){i j:Nat}{o:Oper}(ho:ops[j]?=aa o)(hr:∀ e ∈ o.after.toList,Region.binds .any e=ae→D e.on)(m:Ae (dt ops []) i j=ae):D i:=by
 obtain⟨e,g,d,b | ⟨b,l⟩⟩:=(Ff ho).1 m
 ·exact b▸hr e g d
 ·exact h.below e.on (hr e g d) l
def FH(aos:List aS)(j:Nat):Prop:=∃ y,aos[j]?=aa y∧cls y.op=.w
theorem nD{aos:List aS}{j:Nat}:j ∈ oF aos↔FH aos j:=by
 unfold oF FH;rw [List.mem_filter,List.mem_range];constructor
 ·rintro⟨_,h⟩;split at h
  ·rename_i y b;exact⟨y,b,by simpa using h⟩
  ·simp at h
 ·rintro⟨y,b,d⟩;exact⟨(By.1 b).1,by simp [b,d]⟩
theorem nU{g:Type}(p:g→Bool):∀(l:List g),(∀ k,k<(l.takeWhile p).length→∃ y,l[k]?=aa y∧p y=ae)∧((l.takeWhile p).length=l.length∨∃ y,l[(l.takeWhile p).length]?=aa y∧p y=ag)
 | []=>by simp
 | x::l=>by
  by_cases d:p x=ae
  ·rw [List.takeWhile_cons_of_pos d];obtain⟨j,b⟩:=nU p l;refine⟨fun k m=>?_,?_⟩
   ·cases k with
    | zero=>exact⟨x,rfl,d⟩| succ k=>exact j k (by simpa using m)
   ·rcases b with b | b
    ·exact .inl (by simp [b])
    ·exact .inr (by simpa using b)
  ·rw [List.takeWhile_cons_of_neg d];exact⟨by simp,.inr ⟨x,rfl,by simpa using d⟩⟩
theorem pj{aos:List aS}{i:Nat}(hi:i≤aos.length):i≤phase aos i∧phase aos i≤aos.length∧(phase aos i=aos.length∨FH aos (phase aos i))∧∀ j,i≤j→j<phase aos i→¬ FH aos j:=by
 unfold phase;obtain⟨s,g⟩:=nU (fun y:aS=>decide (cls y.op≠.w)) (aos.drop i);have q:((aos.drop i).takeWhile fun y=>decide (cls y.op≠.w)).length≤(aos.drop i).length:=by
  rcases ar9 (aos.drop i).length ((aos.drop i).takeWhile fun y=>decide (cls y.op≠.w)).length with h | h
  ·obtain⟨y,b,_⟩:=s _ h;have:=(By.1 b).1;omega
  ·exact h
 simp only [arW]at q g;refine⟨by omega,by omega,?_,fun j v u=>?_⟩
 ·rcases g with g | ⟨y,b,l⟩
  ·exact .inl (by omega)
  ·rw [arV]at b;exact .inr ⟨y,b,by simpa using l⟩
 ·obtain⟨y,b,l⟩:=s (j-i) (by omega);rw [arV,show i+(j-i)=j by omega]at b;rintro⟨x,d,m⟩;rw [b]at d;cases d;simp [m]at l
structure Ord(ops:List Oper)(aos:List aS)(gX:List (Nat × Nat)):Prop where
 back:∀ j o,j<aos.length→ops[j]?=aa o→∀ e ∈ o.after.toList,Region.binds .any e=ae→e.on<j
 two:∀ i j x y,i<j→aos[i]?=aa x→aos[j]?=aa y→Ae (dt ops []) i j=ae∨(x.apart y=ae∧(uC x y=ae∨(j=lE (dt ops []) aos∧cls x.op=.w)))
 ear:∀ y,aos[lE (dt ops []) aos]?=aa y→(∃ zs,y.op=.alloc zs)∧y.g=ab∧∃ p,y.dst=aa p∧∀ i z,aos[i]?=aa z→p ∈ z.rd→∀ e,FH aos e→e<lE (dt ops []) aos→Ae (dt ops []) e i=ae
 rd:∀ i x e,aos[i]?=aa x→cls x.op=.r→FH aos e∨e=aos.length→FO (dt ops []) aos i e=ae→e=phase aos i∨(i,e) ∈ gX
theorem Mj{ops:List Oper}{aos:List aS}{gX:List (Nat × Nat)}(h:Yl ops aos gX=ae):Ord ops aos gX:=by
 simp only [Yl,BY]at h;obtain⟨⟨⟨A,B⟩,g⟩,E⟩:=h;refine⟨fun j o L N e b J=>?_,fun i j x y s m q=>?_,fun y q=>?_,fun i x e m K b M=>?_⟩
 ·rw [arX]at A;have d:(o,j) ∈ ops.zip (List.range aos.length):=by
   refine List.mem_of_getElem? (i:=j) ?_;rw [List.getElem?_zip_eq_some];exact⟨N,by simp [L]⟩
  have:=A _ d;rw [arX]at this;simpa [J]using this e b
 ·rw [arX]at B;have:=B j (by simpa using (By.1 q).1);rw [arX]at this;have:=this i (by simpa using s);rw [m,q]at this;simpa using this
 ·unfold Fq at g;rw [q]at g;simp only [BY,Option.isNone_iff_eq_none]at g;obtain⟨⟨I,F⟩,l⟩:=g;refine⟨?_,I,?_⟩
  ·split at F
   ·exact⟨_,by assumption⟩
   ·simp at F
  ·split at l
   ·rename_i p O;refine⟨p,O,fun i z H v e b u=>?_⟩;rw [arX]at l;have:=l i (by simpa using (By.1 H).1);rw [H]at this;simp only [Bool.or_eq_true,Bool.not_eq_true',List.contains_eq_mem,decide_eq_false_iff_not,arX]at this;rcases this with h | h
    ·exact absurd v h
    ·have:=h e (nD.2 b);simpa [u]using this
   ·simp at l
 ·rw [arX]at E;have:=E i (by simpa using (By.1 m).1);rw [m]at this;simp only [K,if_true]at this;rw [arX]at this;have:=this e (by
   rw [ar3];rcases b with b | b
   ·exact .inl (nD.2 b)
   ·exact .inr (by simp [b]))
  simpa [M]using this
section
variable{Q:Program}{σ:Nat→FuncId}{X:Wd}{call:cJ}
theorem Ext.len{X X':Wd}(h:Ext X.H.length X X'):X.H.length≤X'.H.length:=by
 rcases ar9 X'.H.length X.H.length with b | g
 ·obtain⟨blk',d,_⟩:=h.bT X'.H.length b _ (AT b);have:=(By.1 d).1;omega
 ·exact g
theorem yD{s s':St}{op:cP}{v:V}(h:eI call s op=aa (v,s')):s'.aA=s.aA:=by
 have:=Gt (r':=s.aA) (fun _ _=>rfl) h;rw [show({ s with aA:=s.aA }:St)=s from rfl,h]at this;simp only [sh,IS,true_and]at this;rw [this]
theorem EW{s s':St}{y:aS}(h:fC call s y=aa s'):∃ v,s'.aA=ke s.aA y.dst v:=by
 unfold fC at h;split at h
 ·split at h
  ·rename_i v d b;cases h;exact⟨v,by rw [yD b]⟩
  ·simp at h
 ·cases h;exact⟨_,rfl⟩
 ·simp at h
theorem vm{aA:T}{d:Option P}{v:V}{p:P}:(ke aA d v).get p=if d=aa p then v else aA.get p:=by
 cases d with
 | none=>simp [ke]| some q=>simp only [ke,T.qb,sh]
theorem pE{s s':St}{y:aS}(g:cls y.op≠.w)(h:fC call s y=aa s'):cZ s.heap s'.heap∧s'.defs=s.defs:=by
 unfold fC at h;split at h
 ·split at h
  ·rename_i v u b;cases h;by_cases j:(∃ f xs h,y.op=.call f xs h)∨(∃ x xs h,y.op=.bY x xs h)∨y.op=.recover∨∃ x xs,y.op=.defer x xs
   ·rcases j with⟨f,xs,m,e⟩ | ⟨x,xs,m,e⟩ | e | ⟨x,xs,e⟩
    ·rw [e]at b g;cases m
     ·simp only [eI,gF,arQ,if_false,IN,IS]at b;obtain⟨⟨z,H'⟩,b,rfl,rfl⟩:=b;refine⟨?_,rfl⟩;unfold eo at b;split at b
      ·simp at b
      ·split at b
       ·simp at b
       ·split at b
        ·simp at b
        ·simp only [sh,IS]at b;show cZ s.heap H';rw [←b.2];exact(ot _ _ _).ext
     ·exact absurd rfl g
    ·rw [e]at g;exact absurd rfl g
    ·rw [e]at g;exact absurd rfl g
    ·rw [e]at g;exact absurd rfl g
   ·have q:(bz s.aA s.heap y.op).map (fun r=>(r.1,{ s with heap:=r.2 }))=aa (v,u):=by
     generalize y.op=op at b j;cases op<;>first | exact b | (exfalso;apply j;simp)
    simp only [IN,IS]at q;obtain⟨⟨z,H'⟩,l,rfl,rfl⟩:=q;clear b;have b:=l;clear l;refine⟨?_,rfl⟩;show cZ s.heap H';cases d:cls y.op with
    | p=>
     have:=agJ (r:=s.aA) d s.heap s.heap;rw [b]at this;simp only [asm,sh,IS]at this;rw [this.2];exact cZ.refl _
    | r=>rw [(Gu d (cZ.refl _) b).1];exact cZ.refl _
    | a=>
     rcases aoe d b with e | ⟨cs,e⟩
     ·rw [e];exact cZ.refl _
     ·rw [e];exact cZ.append _ _
    | c=>
     generalize y.op=op at b d;cases op<;>first | (simp only [cls,reduceCtorEq]at d;done) | (simp [bz]at b;done)
    | w=>exact absurd d g
  ·simp at h
 ·cases h;exact⟨cZ.refl _,rfl⟩
 ·simp at h
def gP(aA:T)(ps:List P):T:=ps.foldl (fun t p=>t.set p (aA.get p)) .e
theorem vp(aA:T)(ps:List P)(p:P):(gP aA ps).get p=if p ∈ ps then aA.get p else .top:=by
 have key:∀(ps:List P) (t:T),(ps.foldl (fun t p=>t.set p (aA.get p)) t).get p=if p ∈ ps then aA.get p else t.get p:=by
  intro ps;induction ps with
  | nil=>intro t;simp
  | cons q ps g=>
   intro t;simp only [asL,g,T.qb,ass];by_cases b:p ∈ ps
   ·simp [b]
   ·by_cases d:q=p
    ·subst d;simp [b]
    ·have:¬ p=q:=fun e=>d e.symm;simp [b,d,this]
 have:=key ps .e;unfold gP;rw [this];rfl
structure kz(Q:Program)(σ:Nat→FuncId)(call:cJ)(n:Nat)(ops:Array Oper)(aos:List aS)(gX:List (Nat × Nat))(st:Nat→St):Prop where
 aif:fI (lF Q σ n ops) ops.toList aos=ae
 ord:Ord ops.toList aos gX
 step:∀ i y,aos[i]?=aa y→fC call (st i) y=aa (st (i+1))
 ao_:∀ i e y,(i,e) ∈ gX→aos[i]?=aa y→wanted (st i).aA y.g=aa ae→∃ v H1 H2,bz (st i).aA (st i).heap y.op=aa (v,H1)∧bz (st i).aA (st e).heap y.op=aa (v,H2)
structure lh(σ:Nat→FuncId)(X:Wd)(c:Nat)(zs:List FC):Prop where
 bu:∃ us t,X.w.heap[c]?=aa (.cells us.toArray t (0,0))∧A2 (CR σ X) (zs.map .f) us
 b:X.B≤c
 xH:∀ b L,X.cr b=aa L→L.c≠c
 f:∀ i,¬ X.F c i
theorem lh.lt{c:Nat}{zs:List FC}(h:lh σ X c zs):c<X.w.heap.size:=by
 obtain⟨us,t,b,_⟩:=h.bu;exact(Array.getElem?_eq_some_iff.1 b).1
theorem lh.ext{X X':Wd}(d:Ext X.H.length X X'){c:Nat}{zs:List FC}(h:lh σ X c zs):lh σ X' c zs:=by
 have j:=h.lt;obtain⟨us,t,m,q⟩:=h.bu;refine⟨⟨us,t,by rw [d.frame c j h.xH];exact m,A2.ext' σ d q⟩,by rw [d.B];exact h.b,fun b L s=>?_,fun i hi=>?_⟩
 ·rcases d.xH b L s with⟨b0,l,g1,g2⟩ | g1
  ·rw [←g2];exact h.xH b0 l g1
  ·omega
 ·rcases d.pO c i hi with g | g | ⟨b,L,g1,g2⟩
  ·exact h.f i g
  ·omega
  ·exact h.xH b L g1 g2
theorem SR.assign(s:SR Q σ X){n c:Nat}{zs:List FC}{y:Nat}(j:lh σ X c zs)(x:X.H[n]?=aa (.box (zs.map .f) y))(hr:X.cr n=ab) :
  SR Q σ { X with cr:=fun b=>if b=n then aa ⟨c,0⟩else X.cr b }∧pN X.H.length X { X with cr:=fun b=>if b=n then aa ⟨c,0⟩else X.cr b }∧VR σ { X with cr:=fun b=>if b=n then aa ⟨c,0⟩else X.cr b } (.c (.ptr n 0 0)) (.pointer (aa ⟨c,0,ab⟩)):=by
 have u:pN X.H.length X { X with cr:=fun b=>if b=n then aa ⟨c,0⟩else X.cr b }:=by
  refine⟨fun _ _ h=>h,fun _ _ _=>rfl,fun b _ bu g=>⟨bu,g,?_⟩⟩;have:∀ L,X.cr b=aa L→(if b=n then aa (⟨c,0⟩:Loc)else X.cr b)=aa L:=fun L q=>by
   by_cases e:b=n
   ·subst e;rw [hr]at q;simp at q
   ·rw [aZ e];exact q
  cases bu<;>simp only [true_and,and_self]<;>first | exact this | (exact .inl ⟨trivial,trivial,this⟩) | (exact⟨rfl,.inl ⟨rfl,rfl,this⟩⟩) | (exact .inl this) | simpa using this
 obtain⟨us,t,z,A⟩:=j.bu;refine⟨⟨fun b L g=>?_,fun b m L v g d hc=>?_,s.fb⟩,u,⟨⟨c,0⟩,by simp,by rw [x]⟩⟩
 ·by_cases e:b=n
  ·subst e;simp only [if_true,sh]at g;subst g;exact⟨j.b,j.lt,_,x,us,⟨t,(0,0),z,fun i _=>by simp⟩,A2.dU σ u A,fun i _=>j.f i⟩
  ·simp only [e,if_false]at g;obtain⟨g1,g2,bu,g3,g4⟩:=s.br b L g;exact⟨g1,g2,bu,g3,BR.pZ Q σ u rfl (fun _ h=>h) g4⟩
 ·simp only at g d;by_cases e:b=n<;>by_cases l:m=n
  ·rw [e,l]
  ·rw [bp e]at g;rw [aZ l]at d;cases g;exact absurd hc.symm (j.xH m v d)
  ·rw [aZ e]at g;rw [bp l]at d;cases d;exact absurd hc (j.xH b L g)
  ·rw [aZ e]at g;rw [aZ l]at d;exact s.inj b m L v g d hc
abbrev eJ(ops:Array Oper)(aos:List aS):Nat:=lE (dt ops.toList []) aos
def ao6(σ:Nat→FuncId)(X0:Wd)(ops:Array Oper)(aos:List aS)(E:Nat)(X:Wd)(a:Act)(p:P)(K:Nat):Prop:=
 ∃ y zs c,K=eJ ops aos+1∧E≤eJ ops aos∧aos[eJ ops aos]?=aa y∧y.dst=aa p∧y.op=.alloc zs∧a.tmps.getD p.toNat undef=.pointer (aa ⟨c,0,ab⟩)∧X0.w.heap.size≤c∧lh σ X c zs
structure Inv(Q:Program)(σ:Nat→FuncId)(X0:Wd)(n:Nat)(ops:Array Oper)(aos:List aS)(st:Nat→St)(D:Nat→Prop)(E:Nat)(X:Wd)(a:Act):Prop where
 closed:rk ops.toList D
 dlt:∀ j,D j→j<aos.length
 eN:E≤aos.length
 eW:E=aos.length∨FH aos E
 eD:¬ D E
 wD:∀ j,FH aos j→j<E→D j
 heap:X.H=(st E).heap
 ext:Ext X0.H.length X0 X
 sr:SR Q σ X
 b:X.B≤X.w.heap.size
 defs:fH σ X (st E).defs a.defers
 size:n≤a.tmps.size
 Zi:∀ p,∃ K,K≤aos.length∧(VR σ X ((st K).aA.get p) (a.tmps.getD p.toNat undef)∨ao6 σ X0 ops aos E X a p K)∧∀ j y,aos[j]?=aa y→y.dst=aa p→(j<K↔D j)
 xF:∀ j y,j<E→¬ D j→aos[j]?=aa y→cls y.op=.a→(st (j+1)).heap.length≠(st j).heap.length→X.cr (st j).heap.length=ab
section
variable{n:Nat}{ops:Array Oper}{aos:List aS}{gX:List (Nat × Nat)}{st:Nat→St}
theorem kz.mn(R:kz Q σ call n ops aos gX st){p:P}{lo:Nat}:∀(hi:Nat),lo≤hi→hi≤aos.length→(∀ j y,lo≤j→j<hi→aos[j]?=aa y→y.dst≠aa p)→(st lo).aA.get p=(st hi).aA.get p
 | 0,h,_,_=>by rw [Nat.le_zero.1 h]
 | hi+1,h,q,d=>by
  rcases ar9 hi lo with b | b
  ·rw [show lo=hi+1 by omega]
  ·rw [kz.mn R hi b (by omega) fun j y g m=>d j y g (by omega)];have hy:=AT (show hi<aos.length by omega);obtain⟨v,l⟩:=EW (R.step hi _ hy);rw [l,vm,aZ (d hi _ b (by omega) hy)]
theorem kz.cW(R:kz Q σ call n ops aos gX st){lo:Nat}:∀(hi:Nat),lo≤hi→hi≤aos.length→(∀ j,lo≤j→j<hi→¬ FH aos j)→cZ (st lo).heap (st hi).heap∧(st hi).defs=(st lo).defs
 | 0,h,_,_=>by rw [Nat.le_zero.1 h];exact⟨cZ.refl _,rfl⟩
 | hi+1,h,s,d=>by
  rcases ar9 hi lo with b | b
  ·rw [show lo=hi+1 by omega];exact⟨cZ.refl _,rfl⟩
  ·obtain⟨g1,g2⟩:=kz.cW R hi b (by omega) fun j g q=>d j g (by omega);have hy:=AT (show hi<aos.length by omega);obtain⟨l,m⟩:=pE (fun hc=>d hi b (by omega) ⟨_,hy,hc⟩) (R.step hi _ hy);exact⟨g1.trans l,m.trans g2⟩
theorem kz.at(R:kz Q σ call n ops aos gX st){i:Nat}{y:aS}(hy:aos[i]?=aa y):∃ o,ops[i]?=aa o∧lF Q σ n ops o y=ae:=by
 have:=ez R.aif;have hi:i<ops.toList.length:=by rw [this.len];exact(By.1 hy).1
 have b:=AT hi;refine⟨ops.toList[i],by rw [←Array.getElem?_toList];exact b,this.2 i _ _ b hy⟩
theorem kz.before(R:kz Q σ call n ops aos gX st){i j:Nat}{x y:aS}(g:i<j)(q:aos[i]?=aa x)(hy:aos[j]?=aa y)(h:x.apart y=ag∨(uC x y=ag∧(j=eJ ops aos→cls x.op≠.w))):Ae (dt ops.toList []) i j=ae:=by
 rcases R.ord.two i j x y g q hy with d | ⟨d,b⟩
 ·exact d
 ·rcases h with h | ⟨h,l⟩
  ·rw [d]at h;simp at h
  ·rcases b with b | ⟨b,m⟩
   ·rw [b]at h;simp at h
   ·exact absurd m (l b)
theorem Ext.assign{X0 g:Wd}(h:Ext X0.H.length X0 g){n c:Nat}(j:pN g.H.length g { g with cr:=fun b=>if b=n then aa ⟨c,0⟩else g.cr b })(hc:X0.w.heap.size≤c):Ext X0.H.length X0 { g with cr:=fun b=>if b=n then aa ⟨c,0⟩else g.cr b } where
 B:=h.B
 F:=h.F
 pO:=h.pO
 fw:=h.fw
 bT:=fun b d=>(h.bT b d).trans (j.bT b (asA d h.len))
 xH:=fun b L d=>by
  simp only at d;by_cases e:b=n
  ·rw [bp e]at d;cases d;exact .inr hc
  ·rw [aZ e]at d;exact h.xH b L d
 size:=h.size
 os:=h.os
 tape:=h.tape
 output:=h.output
 frame:=h.frame
theorem kz.Xv(R:kz Q σ call n ops aos gX st){y:aS}(hy:aos[eJ ops aos]?=aa y):cls y.op=.a:=by
 obtain⟨⟨zs,h⟩,_⟩:=R.ord.ear y hy;rw [h];rfl
theorem W5{x y:aS}{p:P}(h:x.dst=aa p)(b:p ∈ y.rd):x.apart y=ag:=by
 simp [aS.apart,h,b]
theorem Bj{x y:aS}{p:P}(h:x.dst=aa p)(b:y.dst=aa p):x.apart y=ag:=by
 simp [aS.apart,h,b]
theorem W4{x y:aS}{p:P}(h:p ∈ x.rd)(b:y.dst=aa p):x.apart y=ag:=by
 simp [aS.apart,h,b]
structure ky(ops:Array Oper)(aos:List aS)(D:Nat→Prop)(i:Nat)(o:Oper)(y:aS):Prop where
 ho:ops[i]?=aa o
 hy:aos[i]?=aa y
 hD:¬ D i
 pre:∀ e ∈ o.after.toList,Region.binds .any e=ae→D e.on
variable{X0:Wd}{D:Nat→Prop}{E i:Nat}{a:Act}{o:Oper}{y:aS}
theorem ky.pg(b:Inv Q σ X0 n ops aos st D E X a)(hr:ky ops aos D i o y){j:Nat}(h:Ae (dt ops.toList []) j i=ae):D j:=
 b.closed.ready (by simpa using hr.ho) hr.pre h
theorem ky.qv(b:Inv Q σ X0 n ops aos st D E X a)(hr:ky ops aos D i o y){j:Nat}(h:Ae (dt ops.toList []) i j=ae):¬ D j:=
 fun d=>hr.hD (b.closed.below j d h)
theorem kz.reads(R:kz Q σ call n ops aos gX st)(l:Inv Q σ X0 n ops aos st D E X a)(hr:ky ops aos D i o y){p:P}(B:p ∈ y.rd):VR σ X ((st i).aA.get p) (a.tmps.getD p.toNat undef):=by
 obtain⟨K,L,m,I⟩:=l.Zi p;have hi:i<aos.length:=(By.1 hr.hy).1;have m:VR σ X ((st K).aA.get p) (a.tmps.getD p.toNat undef):=by
  rcases m with m | ⟨z,zs,c,_,S,b,d,_⟩
  ·exact m
  ·exfalso;obtain⟨_,_,U,v,g⟩:=R.ord.ear z b;rw [d]at v;cases v;have M:=(By.1 b).1;rcases l.eW with O | u
   ·omega
   ·have N:E≠eJ ops aos:=by
     intro e;obtain⟨q,H,x⟩:=u;rw [e]at H;rw [R.Xv H]at x;cases x
    exact l.eD (hr.pg l (g i y hr.hy B E u (show E<eJ ops aos by omega)))
 rcases Nat.le_total K i with h | h
 ·rw [←R.mn i h (by omega) fun j z J A b d=>?_]
  ·exact m
  ·have:=hr.pg l (R.before A b hr.hy (.inl (W5 d B)));have:=(I j z b d).2 this;omega
 ·rw [R.mn K h L fun j z J A b d=>?_]
  ·exact m
  ·have s:=(I j z b d).1 A;rcases ar9 i j with F | F
   ·exact hr.qv l (R.before F hr.hy b (.inl (W4 B d))) s
   ·have:j=i:=by omega
    subst this;exact hr.hD s
theorem kz.fin(R:kz Q σ call n ops aos gX st)(B:Inv Q σ X0 n ops aos st D E X a)(hr:ky ops aos D i o y){l:Wd}{a1:Act}{u:Value}{v:V}{m:Nat}(hS:SR Q σ l)(hB:l.B≤l.w.heap.size)(a_:Ext X0.H.length X0 l)
  (hm:∀ v u,VR σ X v u→VR σ l v u) (a9:∀ y zs c p,E≤eJ ops aos→aos[eJ ops aos]?=aa y→y.op=.alloc zs→y.dst=aa p→D (eJ ops aos)→a.tmps.getD p.toNat undef=.pointer (aa ⟨c,0,ab⟩)→X0.w.heap.size≤c→lh σ X c zs→if m≤eJ ops aos then lh σ l c zs else VR σ l ((st (eJ ops aos+1)).aA.get p) (.pointer (aa ⟨c,0,ab⟩)))
  (hv:VR σ l v u∨(i=eJ ops aos∧m≤eJ ops aos∧∃ zs c,y.op=.alloc zs∧u=.pointer (aa ⟨c,0,ab⟩)∧X0.w.heap.size≤c∧lh σ l c zs))
  (ht:a1.tmps=(a.put o.dst u).tmps) (S:(st (i+1)).aA=ke (st i).aA y.dst v) (h1:m≤aos.length) (h2:m=aos.length∨FH aos m) (h3:¬ (D m∨m=i)) (h4:∀ j,FH aos j→j<m→D j∨j=i)
  (hH:l.H=(st m).heap) (hd:fH σ l (st m).defs a1.defers)
  (hh:∀ j y,j<m→¬ (D j∨j=i)→aos[j]?=aa y→cls y.op=.a→(st (j+1)).heap.length≠(st j).heap.length→l.cr (st j).heap.length=ab) :
  Inv Q σ X0 n ops aos st (fun j=>D j∨j=i) m l a1:=by
 have hi:i<aos.length:=(By.1 hr.hy).1;obtain⟨o',O,x⟩:=R.at hr.hy;rw [hr.ho]at O;cases O;have uO:(a.put o.dst u).tmps.size=a.tmps.size:=by cases o.dst<;>simp [Act.put]
 refine⟨fun j oj N A e he hb=>?_,fun j N=>N.elim (B.dlt j) fun h=>h▸hi,h1,h2,h3,h4,hH,a_,hS,hB,hd,by rw [ht,uO];exact B.size,fun p=>?_,hh⟩
 ·rcases N with N | rfl
  ·exact .inl (B.closed j oj N A e he hb)
  ·have:oj=o:=by have:=hr.ho;simp at A;rw [this]at A;cases A;rfl
   subst this;exact .inl (hr.pre e he hb)
 ·by_cases b:y.dst=aa p
  ·have q:a1.tmps.getD p.toNat undef=u:=by
    rw [ht];simp only [lF,BY]at x;have g:=x.1.2;rw [b]at g;split at g
    ·rename_i d p' J I;simp only [BY,beq_iff_eq,decide_eq_true_eq]at g;cases I;have Z:d<a.tmps.size:=asA g.2 B.size;rw [J,g.1];simp only [Act.put];simp [Z]
    ·rename_i I;simp at I
    ·simp at g
   refine⟨i+1,hi,?_,fun j z H s=>⟨fun h=>?_,fun h=>?_⟩⟩
   ·rcases hv with hv | ⟨M,Y,zs,c,g1,g2,g3,g4⟩
    ·left;rw [S,vm,bp b,q];exact hv
    ·right;exact⟨y,zs,c,by rw [M],Y,by rw [←M];exact hr.hy,b,g1,by rw [q];exact g2,g3,g4⟩
   ·rcases ar9 j i with L | L
    ·exact .inl (hr.pg B (R.before L H hr.hy (.inl (Bj s b))))
    ·exact .inr (by omega)
   ·rcases h with h | rfl
    ·rcases ar9 i j with L | L
     ·exact absurd h (hr.qv B (R.before L hr.hy H (.inl (Bj b s))))
     ·omega
    ·omega
  ·obtain⟨K,hK,F,hw⟩:=B.Zi p;have e:a1.tmps.getD p.toNat undef=a.tmps.getD p.toNat undef:=by
    rw [ht];simp only [lF,BY]at x;have g:=x.1.2;split at g
    ·rename_i d p' J I;simp only [BY,beq_iff_eq,decide_eq_true_eq]at g;have a8:d≠p.toNat:=fun e=>b (by rw [I,P.toNat_inj (g.1.trans e)]);rw [J];simp [Act.put,Array.getD_eq_getD_getElem?,Array.getElem?_setIfInBounds_ne a8]
    ·rename_i J I;rw [J];rfl
    ·simp at g
   refine⟨K,hK,?_,fun j z H s=>?_⟩
   ·rcases F with F | ⟨z,zs,c,g1,g2,g3,g4,g5,U,g7,g8⟩
    ·left;rw [e];exact hm _ _ F
    ·have W:D (eJ ops aos):=(hw _ z g3 g4).1 (by omega);have:=a9 z zs c p g2 g3 g5 g4 W U g7 g8;split at this
     ·rename_i Y;right;exact⟨z,zs,c,g1,Y,g3,g4,g5,by rw [e];exact U,g7,this⟩
     ·left;rw [e,U,g1];exact this
   ·rw [hw j z H s];exact⟨.inl,fun h=>h.elim id fun h=>absurd (by rw [h]at H;rw [hr.hy]at H;cases H;exact s) b⟩
end
end
section
variable{Q:Program}{σ:Nat→FuncId}{X:Wd}{call:cJ}
variable{n:Nat}{ops:Array Oper}{aos:List aS}{gX:List (Nat × Nat)}{st:Nat→St}
variable{X0:Wd}{D:Nat→Prop}{E i:Nat}{a:Act}{o:Oper}{y:aS}
theorem pU{x y:aS}(h:cls x.op=.w)(d:cls y.op≠.p)(b:cls y.op≠.r):uC x y=ag:=by
 unfold uC;rw [h];cases g:cls y.op<;>simp_all
theorem uD{x y:aS}(h:cls y.op=.w)(d:cls x.op≠.p)(b:cls x.op≠.r):uC x y=ag:=by
 unfold uC;rw [h];cases g:cls x.op<;>simp_all
theorem kz.u9(R:kz Q σ call n ops aos gX st){j:Nat}{z:aS}(b:aos[j]?=aa z)(hc:cls z.op≠.a):j≠eJ ops aos:=by
 rintro rfl;exact hc (R.Xv b)
theorem kz.aj2(R:kz Q σ call n ops aos gX st)(b:Inv Q σ X0 n ops aos st D E X a)(hr:ky ops aos D i o y)(hc:cls y.op=.w):i=E:=by
 have hi:i<aos.length:=(By.1 hr.hy).1;rcases ash i E with h | h | h
 ·exact absurd (b.wD i ⟨y,hr.hy,hc⟩ h) hr.hD
 ·exact h
 ·rcases b.eW with j | ⟨z,g,d⟩
  ·omega
  ·exact absurd (hr.pg b (R.before h g hr.hy (.inr ⟨pU d (by simp [hc]) (by simp [hc]),fun e=>absurd e (R.u9 hr.hy (by simp [hc]))⟩))) b.eD
theorem kz.WZ(R:kz Q σ call n ops aos gX st)(d:Inv Q σ X0 n ops aos st D E X a)(hr:ky ops aos D i o y)(q:cls y.op≠.p)(s:cls y.op≠.r)(u:cls y.op≠.w)(A:i=eJ ops aos→i<E):i<E∧∀ j,i≤j→j<E→¬ FH aos j:=by
 have hi:i<aos.length:=(By.1 hr.hy).1;refine⟨?_,fun j B m v=>?_⟩
 ·rcases ash i E with h | h | h
  ·exact h
  ·rcases d.eW with x | ⟨z,g,b⟩
   ·omega
   ·rw [←h,hr.hy]at g;cases g;exact absurd b u
  ·rcases d.eW with x | ⟨z,g,b⟩
   ·omega
   ·exact absurd (hr.pg d (R.before h g hr.hy (.inr ⟨pU b q s,fun e=>by have:=A e;omega⟩))) d.eD
 ·have l:=d.wD j v m;obtain⟨z,g,b⟩:=v;rcases ar9 i j with h | h
  ·exact hr.qv d (R.before h hr.hy g (.inr ⟨uD b q s,fun _=>u⟩)) l
  ·have:j=i:=by omega
   subst this;exact hr.hD l
theorem kz.aqF(R:kz Q σ call n ops aos gX st)(d:Inv Q σ X0 n ops aos st D E X a)(hr:ky ops aos D i o y)(hc:cls y.op=.r)(K:wanted (st i).aA y.g=aa ae){v:V}{B:aj}(h:bz (st i).aA (st i).heap y.op=aa (v,B)) :
  B=(st i).heap∧bz (st i).aA X.H y.op=aa (v,X.H):=by
 have hi:i<aos.length:=(By.1 hr.hy).1;refine⟨(Gu hc (cZ.refl _) h).1,?_⟩;have q:FO (dt ops.toList []) aos i E=ae:=by
  unfold FO;rw [arX];intro j J;have l:=nD.1 J;split
  ·rename_i m;have b:=d.wD j l m;cases u:Ae (dt ops.toList []) i j with
   | false=>rfl| true=>exact absurd b (hr.qv d u)
  ·rename_i m;cases u:Ae (dt ops.toList []) j i with
   | false=>rfl
   | true=>
    exfalso;have b:=hr.pg d u;rcases ar9 E j with F | F
    ·rcases d.eW with M | ⟨z,L,A⟩
     ·have:=d.dlt j b;omega
     ·obtain⟨O,s,g⟩:=l;exact d.eD (d.closed.below j b (R.before F L s (.inr ⟨pU A (by simp [g]) (by simp [g]),fun e=>absurd e (R.u9 s (by simp [g]))⟩)))
    ·have:j=E:=by omega
     subst this;exact d.eD b
 rw [d.heap];rcases R.ord.rd i y E hr.hy hc (d.eW.symm) q with x | x
 ·obtain⟨p1,_,_,p4⟩:=pj (aos:=aos) (i:=i) (by omega);rw [←x]at p1 p4;exact(Gu hc (R.cW E p1 d.eN p4).1 h).2
 ·obtain⟨N,H,I,g1,g2⟩:=R.ao_ i E y x hr.hy K;rw [h]at g1;cases g1;have:=(Gu hc (cZ.refl _) g2).1;rw [this]at g2;exact g2
theorem kz.adm(R:kz Q σ call n ops aos gX st){z:aS}(d:aos[eJ ops aos]?=aa z){zs:List FC}(b:z.op=.alloc zs){p:P}(g:z.dst=aa p) :
  (st (eJ ops aos+1)).heap=(st (eJ ops aos)).heap++[.box (zs.map .f) 0]∧(st (eJ ops aos+1)).aA.get p=.c (.ptr (st (eJ ops aos)).heap.length 0 0):=by
 obtain⟨_,j,_⟩:=R.ord.ear z d;have h:=R.step _ z d;simp only [fC,j,wanted,b,eI,bz,asm,sh]at h;rw [←h];exact⟨rfl,by rw [vm,bp g]⟩
theorem kz.Fe(R:kz Q σ call n ops aos gX st)(x:Inv Q σ X0 n ops aos st D E X a)(hr:ky ops aos D i o y)(hc:cls y.op=.w){d:Wd}{a1:Act}{u:Value}{v:V}(hS:SR Q σ d)(hB:d.B≤d.w.heap.size)(hx:Ext X.H.length X d)
  (hv:VR σ d v u) (ht:a1.tmps=(a.put o.dst u).tmps) (F:(st (i+1)).aA=ke (st i).aA y.dst v) (hH:d.H=(st (i+1)).heap) (hd:fH σ d (st (i+1)).defs a1.defers) :
  ∃ E' X2,X2.w=d.w∧Inv Q σ X0 n ops aos st (fun j=>D j∨j=i) E' X2 a1:=by
 have hi:i<aos.length:=(By.1 hr.hy).1;have a_:=R.aj2 x hr hc;subst a_;obtain⟨p1,p2,p3,p4⟩:=pj (aos:=aos) (i:=i+1) (by omega);obtain⟨q1,q2⟩:=R.cW _ p1 p2 p4;rw [←hH]at q1;obtain⟨k1,Z⟩:=SR.ahead hS q1;have l:Ext X.H.length X { d with H:=(st (phase aos (i+1))).heap }:=hx.trans (Z.mono hx.len);have J:Ext X0.H.length X0 { d with H:=(st (phase aos (i+1))).heap }:=x.ext.trans (l.mono x.ext.len);have K:¬ (D (phase aos (i+1))∨phase aos (i+1)=i):=by
  rintro(h | h)
  ·rcases p3 with g | ⟨z,hz,m⟩
   ·have:=x.dlt _ h;omega
   ·exact hr.qv x (R.before p1 hr.hy hz (.inr ⟨pU hc (by simp [m]) (by simp [m]),fun e=>absurd e (R.u9 hz (by simp [m]))⟩)) h
  ·omega
 have N:∀ j,FH aos j→j<phase aos (i+1)→D j∨j=i:=by
  intro j U hj;rcases ash j i with h | h | h
  ·exact .inl (x.wD j U h)
  ·exact .inr h
  ·exact absurd U (p4 j h hj)
 have S:fH σ { d with H:=(st (phase aos (i+1))).heap } (st (phase aos (i+1))).defs a1.defers:=by rw [q2];exact hd.ext' Z
 have iJ:i≠eJ ops aos:=R.u9 hr.hy (by simp [hc]);have xF:∀ j z,j<phase aos (i+1)→¬ (D j∨j=i)→aos[j]?=aa z→cls z.op=.a→(st (j+1)).heap.length≠(st j).heap.length→i<j∧d.cr (st j).heap.length=ab:=by
  intro j z hj hD hz m B;rcases ash j i with h | h | h
  ·exact absurd (.inl (hr.pg x (R.before h hz hr.hy (.inr ⟨uD hc (by simp [m]) (by simp [m]),fun e=>absurd e iJ⟩)))) hD
  ·exact absurd (.inr h) hD
  ·have I:=(R.cW j h (by omega) fun k g A=>p4 k g (by omega)).1.len;rw [←hH]at I;refine⟨h,?_⟩;cases q:d.cr (st j).heap.length with
   | none=>rfl| some L=>have:=SR.lt hS q;omega
 by_cases hP:∃ z zs c p,i≤eJ ops aos∧eJ ops aos<phase aos (i+1)∧aos[eJ ops aos]?=aa z∧z.op=.alloc zs∧z.dst=aa p∧D (eJ ops aos)∧a.tmps.getD p.toNat undef=.pointer (aa ⟨c,0,ab⟩)∧X0.w.heap.size≤c∧lh σ X c zs
 ·obtain⟨z,zs,c,p,g1,g2,g3,g4,g5,g6,g7,g8,g9⟩:=hP;obtain⟨s1,s2⟩:=R.adm g3 g4 g5;have M:i<eJ ops aos:=by omega
  have b9:(st (i+1)).heap.length≤(st (eJ ops aos)).heap.length:=(R.cW _ M (by omega) fun k g A=>p4 k g (by omega)).1.len;obtain⟨fl,O⟩:∃ fl,(st (phase aos (i+1))).heap[(st (eJ ops aos)).heap.length]?=aa (.box (zs.map .f) fl):=by
   have W:=(R.cW (phase aos (i+1)) (show eJ ops aos+1≤_ by omega) p2 fun k g A=>p4 k (by omega) A).1;rw [s1]at W;exact qc W
  have b_:lh σ { d with H:=(st (phase aos (i+1))).heap } c zs:=g9.ext l;have c9:d.cr (st (eJ ops aos)).heap.length=ab:=by
   cases q:d.cr (st (eJ ops aos)).heap.length with
   | none=>rfl| some L=>have:=SR.lt hS q;rw [hH]at this;omega
  obtain⟨a8,s,a9⟩:=SR.assign k1 b_ O c9;refine⟨phase aos (i+1),{ d with H:=(st (phase aos (i+1))).heap,cr:=fun b=>if b=(st (eJ ops aos)).heap.length then aa ⟨c,0⟩else d.cr b },rfl,R.fin x hr a8 hB (J.assign s g8) (fun v u h=>VR.dU σ s (VR.ext' σ l h)) ?_ (.inl (VR.dU σ s (VR.ext' σ Z hv))) ht F p2 p3 K N rfl (fH.dU s S) ?_⟩
  ·intro z' c_ c' p' _ e2 _ e4 _ e6 _ _;rw [g3]at e2;cases e2;rw [g5]at e4;cases e4;rw [g7]at e6;simp only [Value.pointer.injEq,sh,Addr.mk.injEq,true_and,and_true]at e6;subst e6;rw [aZ (by omega),s2];exact a9
  ·intro j w hj hD hw Y B;obtain⟨f1,f2⟩:=xF j w hj hD hw Y B;show(if(st j).heap.length=(st (eJ ops aos)).heap.length then aa (⟨c,0⟩:Loc)else d.cr (st j).heap.length)=ab;rw [aZ,f2];intro e;rcases ash j (eJ ops aos)with h | h | h
   ·have g:=(R.cW (lo:=j+1) (eJ ops aos) h (by omega) fun k g A=>p4 k (by omega) (by omega)).1.len;have A:=(pE (by simp [Y]) (R.step j w hw)).1.len;clear J l k1 Z;omega
   ·exact hD (.inl (by rw [h];exact g6))
   ·have g:=(R.cW (lo:=eJ ops aos+1) j h (by omega) fun k g A=>p4 k (by omega) (by omega)).1.len;rw [s1,api]at g;simp only [List.length_cons,List.length_nil]at g;omega
 ·refine⟨phase aos (i+1),{ d with H:=(st (phase aos (i+1))).heap },rfl,R.fin x hr k1 hB J (fun v u h=>VR.ext' σ l h) ?_ (.inl (VR.ext' σ Z hv)) ht F p2 p3 K N rfl S (fun j z g A h3 h4 h5=>(xF j z g A h3 h4 h5).2)⟩;intro z zs c p g1 g2 g3 g4 g5 g6 g7 g8;by_cases I:phase aos (i+1)≤eJ ops aos
  ·rw [bp I];exact g8.ext l
  ·exact absurd ⟨z,zs,c,p,g1,by omega,g2,g3,g4,g5,g6,g7,g8⟩ hP
theorem kz.n8(R:kz Q σ call n ops aos gX st)(d:Inv Q σ X0 n ops aos st D E X a)(hr:ky ops aos D i o y)(hc:cls y.op≠.w){b:Wd}{a1:Act}{u:Value}{v:V}(H:SR Q σ b)(B:b.B≤b.w.heap.size)(l:Ext X.H.length X b)
  (L:VR σ b v u∨(i=eJ ops aos∧E≤eJ ops aos∧∃ zs c,y.op=.alloc zs∧u=.pointer (aa ⟨c,0,ab⟩)∧X0.w.heap.size≤c∧lh σ b c zs)) (K:a1.tmps=(a.put o.dst u).tmps) (g:(st (i+1)).aA=ke (st i).aA y.dst v) (F:b.H=X.H) (I:fH σ b (st E).defs a1.defers)
  (J:∀ j z,j<E→¬ (D j∨j=i)→aos[j]?=aa z→cls z.op=.a→(st (j+1)).heap.length≠(st j).heap.length→b.cr (st j).heap.length=ab) :
  Inv Q σ X0 n ops aos st (fun j=>D j∨j=i) E b a1:=by
 refine R.fin d hr H B (d.ext.trans (l.mono d.ext.len)) (fun v u h=>VR.ext' σ l h) (fun z zs c p g1 _ _ _ _ _ _ x=>by rw [bp g1];exact x.ext l) L K g d.eN d.eW ?_ (fun j q A=>.inl (d.wD j q A)) (F.trans d.heap) I J;rintro(h | h)
 ·exact d.eD h
 ·have hi:i<aos.length:=(By.1 hr.hy).1;rcases d.eW with q | ⟨z,s,m⟩
  ·omega
  ·rw [h,hr.hy]at s;cases s;exact hc m
theorem kz.gQ(s:Inv Q σ X0 n ops aos st D E X a){b:Wd}(h:b.cr=X.cr):∀ j z,j<E→¬ (D j∨j=i)→aos[j]?=aa z→cls z.op=.a→(st (j+1)).heap.length≠(st j).heap.length→b.cr (st j).heap.length=ab:=
 fun j z d g l m q=>by rw [h];exact s.xF j z d (fun h=>g (.inl h)) l m q
theorem kz.Ed(R:kz Q σ call n ops aos gX st)(q:Inv Q σ X0 n ops aos st D E X a)(hr:ky ops aos D i o y)(hc:cls y.op=.a)(J:i=eJ ops aos→i<E)(m:(st (i+1)).heap.length≠(st i).heap.length){j:Nat}{z:aS}(M:j<E)(hD:¬ (D j∨j=i))(F:aos[j]?=aa z)(d:cls z.op=.a)
  (g:(st (j+1)).heap.length≠(st j).heap.length):(st j).heap.length≠(st i).heap.length:=by
 have hi:i<aos.length:=(By.1 hr.hy).1;obtain⟨g1,g2⟩:=R.WZ q hr (by simp [hc]) (by simp [hc]) (by simp [hc]) J;have L:∀ k,j≤k→k<E→¬ FH aos k:=by
  intro k B u s;have l:=q.wD k s u;obtain⟨w,v,x⟩:=s;rcases ar9 j k with h | h
  ·exact hD (.inl (q.closed.below k l (R.before h F v (.inr ⟨uD x (by simp [d]) (by simp [d]),fun _=>by simp [d]⟩))))
  ·have:k=j:=by omega
   subst this;exact hD (.inl l)
 have b:∀ k w,aos[k]?=aa w→cls w.op=.a→(st (k+1)).heap.length≠(st k).heap.length→(st k).heap.length<(st (k+1)).heap.length:=by
  intro k w s A K;have:=(pE (by simp [A]) (R.step k w s)).1.len;omega
 rcases ash j i with h | h | h
 ·have B:=b j z F d g;have u:(st (j+1)).heap.length≤(st i).heap.length:=(R.cW i h (by omega) fun k H I=>L k (by omega) (by omega)).1.len;omega
 ·exact absurd (.inr h) hD
 ·have B:=b i y hr.hy hc m;have u:(st (i+1)).heap.length≤(st j).heap.length:=(R.cW j h (by have:=q.eN;omega) fun k H I=>g2 k (by omega) (by omega)).1.len;omega
end
section
variable{Q:Program}{σ:Nat→FuncId}{X:Wd}{call:cJ}
variable{n:Nat}{ops:Array Oper}{aos:List aS}{gX:List (Nat × Nat)}{st:Nat→St}
variable{X0:Wd}{D:Nat→Prop}{E i:Nat}{a:Act}{o:Oper}{y:aS}
theorem EG{w':World}{ob:Obj}(g:SR Q σ X)(d:dI X.w w' ob):SR Q σ { X with w:=w' }∧Ext X.H.length X { X with w:=w' }:=by
 have j:Ext X.H.length X { X with w:=w' }:=Ext.one g X.H.length rfl (fun _ _=>Iff.rfl) (fun k m _=>d.CP m)
  (fun L i h=>by rw [SR.rY g]at h;simp at h) (fun h=>absurd h (ati _)) (fun _ _ _=>rfl) (fun _ _=>rfl) (fun L h=>.inl ⟨L,h,rfl⟩) (by show _≤w'.heap.size;rw [d.size];omega) d.os d.tape d.output
 refine⟨SR.step Q σ g j X.H.length (fun _ _=>rfl) (fun _ _=>rfl) (fun b L _ l=>d.CP (g.br b L l).2.1)
  (fun _ _ _ _ _ h=>h) (fun L h=>by change X.cr X.H.length=aa L at h;rw [SR.rY g]at h;simp at h) (fun c i h=>?_),j⟩
 have:=g.fb c i h;show c<w'.heap.size;rw [d.size];omega
theorem Yk{y:aS}{p:P}(h:p ∈ y.op.rd):p ∈ y.rd:=by unfold aS.rd;exact ar3.2 (.inr h)
theorem FA{y:aS}{p:P}{w:Bool}(h:y.g=aa (p,w)):p ∈ y.rd:=by unfold aS.rd;rw [h];simp
theorem kz.afo(hC:eY Q σ call)(R:kz Q σ call n ops aos gX st)(d:Inv Q σ X0 n ops aos st D E X a)(hr:ky ops aos D i o y){b:Frame}{rest:List Nat}{k:List Item}{cs:List Frame}(hk:ju b cs)(j_:gE y.op b) :
  ∃ E' X' a',Steps Q (lone (b.atR a (.inRegion ops (i::rest)::k)) cs X.w) (lone (b.atR a' (.inRegion ops rest::k)) cs X'.w)∧Inv Q σ X0 n ops aos st (fun j=>D j∨j=i) E' X' a'∧a'.tmps.size=a.tmps.size:=by
 have hi:i<aos.length:=(By.1 hr.hy).1;obtain⟨o',d8,hm⟩:=R.at hr.hy;rw [hr.ho]at d8;cases d8;have g:=R.step i y hr.hy;have O:∀ p ∈ y.rd,VR σ X ((st i).aA.get p) (a.tmps.getD p.toNat undef):=fun p hp=>R.reads d hr hp;have l:dD Q σ o y.op=ae:=by simp only [lF,BY]at hm;exact hm.1.1
 have J:∀ u,(a.put o.dst u).tmps.size=a.tmps.size:=fun u=>by cases o.dst<;>simp [Act.put]
 have I:∀(a:Act) u,(a.put o.dst u).defers=a.defers:=fun a u=>by cases o.dst<;>rfl
 have f_:∀(a a':Act) u,a'.tmps=a.tmps→(a'.put o.dst u).tmps=(a.put o.dst u).tmps:=fun a a' u h=>by cases o.dst<;>simp [Act.put,h]
 unfold fC at g;split at g
 ·rename_i c9;have hw:=oG hm (aA:=(st i).aA) (tmps:=a.tmps) (X:=X) (fun p w' hg=>O p (FA hg)) d.size c9;split at g
  ·rename_i v s1 h1;simp only [sh]at g;have A:(st (i+1)).aA=ke (st i).aA y.dst v:=by rw [←g,←yD h1]
   have q:(st (i+1)).heap=s1.heap:=by rw [←g]
   have M:(st (i+1)).defs=s1.defs:=by rw [←g]
   have B:∀ p ∈ y.op.rd,(st i).aA.get p=(gP (st i).aA y.op.rd).get p:=fun p hp=>by rw [vp,bp hp]
   have Y:RR σ X (gP (st i).aA y.op.rd) a.tmps:=fun p=>by
    rw [vp];split
    ·rename_i hp;exact O p (Yk hp)
    ·trivial
   have K:=Gt B h1;by_cases m:cls y.op=.w
   ·have a8:=R.aj2 d hr m;obtain⟨g1,g2⟩:=Gs hC d.sr d.b (s:={ st i with aA:=gP (st i).aA y.op.rd }) (by rw [d.heap,←a8]) Y (by rw [a8];exact d.defs) l K;obtain⟨X1,u,a1,k1,⟨k2,k3,k4,k5,k6⟩,k7,k8⟩:=g1 b ops i rest k cs hr.ho hw hk j_;obtain⟨E',X2,q1,q2⟩:=R.Fe d hr m (a1:=a1.put o.dst u) k3 k6 k5 k4 (f_ a a1 u k7) A (by rw [k2,q]) (by rw [M,I];exact k8);exact⟨E',X2,a1.put o.dst u,by rw [q1];exact k1,q2,by rw [f_ a a1 u k7,J]⟩
   ·
    have j9:∀ c,o.op≠.defer c:=qp l (fun x xs e=>m (by rw [e];rfl)) (fun e=>by rw [e]at h1;simp [eI,bz]at h1);have one:∀ {u:Value} {w':World},(execOp a.eval o).run Q X.w=.ok (.value u) w'→Steps Q (lone (b.atR a (.inRegion ops (i::rest)::k)) cs X.w) (lone (b.atR (a.put o.dst u) (.inRegion ops rest::k)) cs w'):=by
     intro u w' a9;refine .one (step_lone_go ?_);rw [stepGR_op hr.ho hw,Oper.semAt_eq _ _ _ j9];have Z:=Frame.finish_atR b a ops i rest k u;rw [hr.ho]at Z;simp only [ar7]at Z;rw [←Z];simp [stepG.apply,Sem.runT_eq,a9]
    by_cases F:cls y.op=.c
    ·
     obtain⟨f,xs,b_⟩:∃ f xs,y.op=.call f xs ag:=by
      generalize y.op=op at F;cases op<;>first | (simp only [cls,reduceCtorEq]at F;done) | skip
      rename_i f xs hh;cases hh
      ·exact⟨f,xs,rfl⟩
      ·simp [cls]at F
     have H:=Y;rw [b_]at K l H;simp only [eI,gF,arQ,if_false,IN,IS]at K;obtain⟨⟨v',H'⟩,hp,rfl,d_⟩:=K;have j8:H'=(st (i+1)).heap:=by
      rw [q];simp only [St.mk.injEq]at d_;exact d_.2.2
     obtain⟨g1,g2⟩:=R.WZ d hr (by simp [F]) (by simp [F]) (by simp [F]) (fun e=>absurd e (R.u9 hr.hy (by simp [F])));have d3:cZ H' X.H:=by
      rw [j8,d.heap];exact(R.cW E g1 d.eN fun j h1 h2=>g2 j (by omega) h2).1
     obtain⟨X1,u,k1,⟨k2,k3,k4,k5,k6⟩,k7⟩:=yW hC d.sr d.b H l hp d3 b ops i rest k cs hr.ho hw;exact⟨E,X1,a.put o.dst u,k1,R.n8 d hr m k3 k6 k5 (.inl k4) rfl A k2 (by rw [I];exact d.defs.ext' k5) (kz.gQ d k7),J u⟩
    ·have hx:(bz (gP (st i).aA y.op.rd) (st i).heap y.op)=aa (v,s1.heap):=by
      have b9:¬ ((∃ f xs h,y.op=.call f xs h)∨(∃ x xs h,y.op=.bY x xs h)∨y.op=.recover∨∃ x xs,y.op=.defer x xs):=by
       rintro(⟨f,xs,hh,e⟩ | ⟨x,xs,hh,e⟩ | e | ⟨x,xs,e⟩)<;>rw [e]at m F
       ·cases hh
        ·exact F rfl
        ·exact m rfl
       ·exact m rfl
       ·exact m rfl
       ·exact m rfl
      have hx:(bz (gP (st i).aA y.op.rd) (st i).heap y.op).map (fun r=>(r.1,({ st i with aA:=gP (st i).aA y.op.rd,heap:=r.2 }:St)))=aa (v,{ s1 with aA:=gP (st i).aA y.op.rd }):=by
       generalize gP (st i).aA y.op.rd=r at K;generalize y.op=op at K b9;cases op<;>first | exact K | (exfalso;apply b9;simp)
      simp only [IN,IS,St.mk.injEq]at hx;obtain⟨⟨v',H'⟩,h2,rfl,_,_,h3⟩:=hx;rw [h2];simp only at h3;rw [h3]
     by_cases W:cls y.op=.a
     ·by_cases S:i=eJ ops aos∧E≤i
      ·
       obtain⟨d6,j7⟩:=S;obtain⟨⟨zs,b_⟩,_,_⟩:=R.ord.ear y (show aos[eJ ops aos]?=aa y from d6▸hr.hy);have d7:=hx;rw [b_]at d7 l;simp only [bz,sh,IS]at d7;obtain⟨rfl,_⟩:=d7;simp only [dD]at l;split at l
       ·rename_i t ho;obtain⟨z,us,g_,h_,i_,_⟩:=eH (σ:=σ) (X:=X) l X.w;have a9:(execOp a.eval o).run Q X.w=.ok (.value (.pointer (aa ⟨X.w.heap.size,0,ab⟩))) (X.w.alloc (.cells us.toArray t)):=by
         simp only [execOp,ho];refine eb ?_;simp [Instr.alloc,g_,newVar,newRow,h_]
        obtain⟨e1,e2⟩:=EG d.sr (dI.alloc X.w (.cells us.toArray t));refine⟨E,{ X with w:=X.w.alloc (.cells us.toArray t) },a.put o.dst (.pointer (aa ⟨X.w.heap.size,0,ab⟩)),one a9,R.n8 d hr m e1 (by have:=d.b;simp;omega) e2 (.inr ⟨d6,by rw [←d6];exact j7,zs,X.w.heap.size,b_,rfl,d.ext.size,?_⟩) rfl A rfl (by rw [I];exact d.defs.ext' e2) (kz.gQ d rfl),J _⟩;exact⟨⟨us,t,(dI.alloc X.w (.cells us.toArray t)).new,A2.ext' σ e2 i_⟩,d.b,fun b L hb=>by have:=(d.sr.br b L hb).2.1;omega,fun j hj=>by have:=d.sr.fb _ j hj;omega⟩
       ·simp at l
      have hJ:i=eJ ops aos→i<E:=fun e=>by
       rcases ar9 i E with h | h
       ·exact h
       ·exact absurd ⟨e,h⟩ S
      obtain⟨g1,g2⟩:=R.WZ d hr (by simp [W]) (by simp [W]) (by simp [W]) hJ;have d3:cZ s1.heap X.H:=by
       rw [←q,d.heap];exact(R.cW E g1 d.eN fun j h1 h2=>g2 j (by omega) h2).1
      obtain⟨X1,u,k1,⟨k2,k3,k4,k5,k6⟩,k7,k8⟩:=ad3 d.sr d.b Y W l hx d3 (fun b9=>d.xF i y g1 hr.hD hr.hy W (by rw [q];exact b9));refine⟨E,X1,a.put o.dst u,one k1,R.n8 d hr m k3 k6 k5 (.inl k4) rfl A k2 (by rw [I];exact d.defs.ext' k5) ?_,J u⟩;by_cases c_:(st (i+1)).heap.length=(st i).heap.length
      ·exact kz.gQ d (k8 (by rw [←q];exact c_))
      ·intro j z h2 h3 h4 h5 h6;rw [k7 _ (R.Ed d hr W hJ c_ h2 h3 h4 h5 h6)];exact d.xF j z h2 (fun h=>h3 (.inl h)) h4 h5 h6
     ·
      have d9:cls y.op=.p∨cls y.op=.r:=by cases a_:cls y.op<;>simp_all
      have l7:bz (st i).aA (st i).heap y.op=aa (v,s1.heap):=by rw [EV B];exact hx
      have f9:bz (gP (st i).aA y.op.rd) X.H y.op=aa (v,X.H):=by
       rcases d9 with a_ | a_
       ·have:=agJ (r:=gP (st i).aA y.op.rd) a_ (st i).heap X.H;rw [hx]at this;simpa using this
       ·rw [←EV B];exact(R.aqF d hr a_ c9 l7).2
      cases d5:y.op.fsl
      case true=>
       have N:=l;have U:=f9;have H:=Y;obtain⟨rg,k_⟩:=aO (gP (st i).aA y.op.rd);rw [←k_]at U H;revert N U;generalize y.op=op at d5;cases op<;>simp only [cP.fsl,reduceCtorEq]at d5;intro N U;obtain⟨_,u,X1,k1,k2,k3,k4,k5,k6,k7⟩:=xC d.sr d.b H N U;exact⟨E,X1,a.put o.dst u,one k1,R.n8 d hr m k3 k6 k5 (.inl k4) rfl A k2 (by rw [I];exact d.defs.ext' k5) (kz.gQ d k7),J u⟩
      obtain⟨_,u,k1,k2⟩:=agB d.sr Y l d9 d5 f9;exact⟨E,X,a.put o.dst u,one k1,R.n8 d hr m d.sr d.b (Ext.refl _ _) (.inl k2) rfl A rfl (by rw [I];exact d.defs) (kz.gQ d rfl),J u⟩
  ·simp at g
 ·rename_i c9;have hw:=oG hm (aA:=(st i).aA) (tmps:=a.tmps) (X:=X) (fun p w' hg=>O p (FA hg)) d.size c9;simp only [sh]at g;have A:(st (i+1)).aA=ke (st i).aA y.dst (.t []):=by rw [←g]
  have q:(st (i+1)).heap=(st i).heap:=by rw [←g]
  have M:(st (i+1)).defs=(st i).defs:=by rw [←g]
  have e_:Steps Q (lone (b.atR a (.inRegion ops (i::rest)::k)) cs X.w) (lone (b.atR (a.put o.dst undef) (.inRegion ops rest::k)) cs X.w):=by
   refine .one ?_;have:=stepR_op_skip (P:=Q) (b:=b) (a:=a) (k:=k) (cs:=cs) (w:=X.w) (ops:=ops) (i:=i) (rest:=rest) (by simp [hr.ho,hw]);rw [hr.ho]at this;exact this
  by_cases m:cls y.op=.w
  ·have a8:=R.aj2 d hr m;obtain⟨E',X2,q1,q2⟩:=R.Fe d hr m (a1:=a.put o.dst undef) d.sr d.b (Ext.refl _ _) VR.undef rfl A (by rw [d.heap,q,a8]) (by rw [M,I,a8];exact d.defs);exact⟨E',X2,a.put o.dst undef,by rw [q1];exact e_,q2,J _⟩
  ·exact⟨E,X,a.put o.dst undef,e_,R.n8 d hr m d.sr d.b (Ext.refl _ _) (.inl VR.undef) rfl A rfl (by rw [I];exact d.defs) (kz.gQ d rfl),J _⟩
 ·simp at g
end
end Km
