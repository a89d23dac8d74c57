/-
  Our own small machine for Go code by value, held Al ug model: part 2. No program in Pz.
-/
import Derived.Test.YtnaofdffomdmhaaGreatK1
import Derived.AtR
import Derived.RangeFuncIn
import Derived.RangeFuncRecord
import Derived.Conc.MuLone
open Option renaming some->aa,none->ab
open Bool renaming true->ae,false->ag
open Nat renaming le_max_left->agf, le_trans->af1, le_max_right->af8, mul_le_mul_right->agx, le_refl->afJ, add_mul->agn, lt_or_ge->agq, lt_irrefl->ahm, add_zero->ahc, mul_eq_zero->ahn, zero_add->agj, lt_of_lt_of_le->af9, lt_trichotomy->agN
open Option.some renaming injEq->At
open Prod.mk renaming injEq->afG
open List renaming getElem?_map->agl, length_map->afT, getElem?_toArray->ahh, getElem?_cons_zero->ag8, getElem?_cons_succ->ahe, length_append->afK, getElem?_eq_some_iff->afD, getElem?_set_ne->ae2, getElem?_append_left->afy, length_drop->afX, eq_nil_of_length_eq_zero->afV, drop_zero->ag5, getElem?_set->ahi, getElem?_eq_getElem->afB, foldl_cons->ag7, mem_cons->afZ, getElem_mem->afH, getElem?_drop->af0, getElem?_of_mem->agG, drop_eq_nil_iff->ahs, drop_eq_getElem_cons->afL, mem_flatMap->agE, mem_append->afY, mem_map->af6, getElem?_take->ago, getElem?_eq_none->agP, length_nil->agQ, getD_eq_getElem?_getD->aha, all_eq_true->af4
open Option renaming map_eq_some_iff->afF, map_some->agv, bind_some->agr
open Bool renaming and_eq_true->afE, false_eq_true->afR, true_and->agi
open Int renaming natCast_mul->ahf, toNat_natCast->afU
set_option linter.unusedVariables false
set_option linter.constructorNameAsVariable false
set_option linter.unusedSimpArgs false
set_option linter.unusedSectionVars false
set_option maxRecDepth 100000
namespace Km
open Go
section
variable{Q:Program}{σ:Nat->FuncId}{X:Wd}
theorem yV(n:Nat):∀(r c:Nat),Builtin.growBy n r c<=Nat.max c (n+(n+768) / 4)
 |0,c=>by simp[Builtin.growBy];exact agf _ _
 |r+1,c=>by
  simp only[Builtin.growBy];split
  .exact agf _ _
  .rename_i h;refine af1 (yV n r _) ?_;apply Nat.max_le.2;exact⟨af1 (by omega) (af8 _ _),af8 _ _⟩
theorem wm{need cap:Nat}(h:cap<need):Builtin.nextslicecap need cap<=2*need+768:=by
 unfold Builtin.nextslicecap;split
 .omega
 .split
  .omega
  .refine af1 (yV need 4 cap) ?_;apply Nat.max_le.2;omega
theorem Bv(K:SR Q σ X){sz:Nat}{y:V}{u:Value}(v:VR σ X y u){m:Nat}{ys:List C}(h:cS X.H sz y=aa (m,ys)) :
  ∃F,(Builtin.lenOf u).run Q X.w=.ok m X.w/\(Builtin.firstCells sz m u).run Q X.w=.ok F.toArray X.w/\A2 (CR σ X) ys F/\ys.length=m*sz:=by
 unfold cS at h;split at h
 .rename_i s;have:=VR.str v;subst this;split at h
  case isFalse=>simp at h
  rename_i q;subst q;simp only[At,afG]at h;obtain⟨rfl,rfl⟩:=h;have g:s.extract 0 s.size=s:=ByteArray.extract_zero_size;refine⟨s.data.toList.map λb=>.int .u8 b.toNat,by simp[Builtin.lenOf],?_,?_,?_⟩
  .simp only[Builtin.firstCells,g,Sem.run_pure]
   congr 1
   apply Array.ext';simp
  .rw[ByteArray.toList_eq];exact⟨by simp,λi x u E B=>by
    simp only[agl,afF]at E B;obtain⟨c,L,rfl⟩:=E;obtain⟨d,z,rfl⟩:=B;rw[L]at z;cases z;exact cX.int _ _⟩
  .rw[ByteArray.toList_eq];simp only[afT,Array.length_toList,Nat.mul_one];rfl
 .rename_i x M;split at h
  .rename_i l cs A j;simp only[At,afG]at h;obtain⟨rfl,rfl⟩:=h;obtain⟨us,H,I,J⟩:=nM K v A j;obtain⟨a,c,rfl⟩:=kd v A;exact⟨us,by simp[Builtin.lenOf],H,I,J⟩
  .simp at h
 .simp at h
structure Z2(Q:Program)(t t' e:TypeId)(sz bytes:Nat):Prop where
 hu:Q.underlying t=aa (.slice e)
 hu':∃d,Q.underlying t'=aa d/\(∀k,d≠.int k)
 oe:dJ Q e sz=ae
 hby:pk Q e bytes=ae
 pos:0<sz
 zero:∃i z,Q.info? e=aa i/\i.zero=aa z/\z.cells.size=sz
def tG(base:Option Addr)(k:Nat)(b:List Value):Sem Unit:=match base with
 |some a=>storeCells (a.add k) b| none=>pure ()
theorem lW{t O e:TypeId}{sz bytes:Nat}(j:Z2 Q t O e sz bytes)(W:TypeId){base:Option Addr}{l cap m:Nat}{u:Value}{g:List Value}{w:World}
  (S:(Builtin.lenOf u).run Q w=.ok m w) (Y:(Builtin.firstCells sz m u).run Q w=.ok g.toArray w) :
  (l+m<=cap->(Builtin.append_ #[t,O] W #[.slice base l cap,u]).run Q w =
   ((tG base (l*sz) g).run Q w).andThen λ_ w'=>.ok (.slice base (l+m) cap) w')/\
  (¬ l+m<=cap->bU (l+m) bytes=ae->∀os g:List Value,(Builtin.firstCells sz l (.slice base l cap)).run Q w.drew=.ok os.toArray w.drew->(Builtin.firstCells sz m u).run Q w.drew=.ok g.toArray w.drew->
   ∃nc rest w',l+m<=nc/\(Builtin.append_ #[t,O] W #[.slice base l cap,u]).run Q w=.ok (.slice (aa ⟨w.heap.size,0,ab⟩) (l+m) nc) w'/\
    ef w w' (.cells (os++g++rest).toArray e)/\rest.length=(nc-(l+m))*sz):=by
 obtain⟨d,U,F⟩:=j.hu';obtain⟨i,z,hi,hz,y⟩:=j.zero;obtain⟨q,s,B⟩:=A9 j.hby w;have A:((d matches .int _):Bool)=ag:=by
  cases d with
  |int k=>exact absurd rfl (F k)| _=>rfl
 constructor
 .intro I;simp only[Builtin.append_,ahh];simp[bl j.hu,bl U,dq j.oe,A,S,I,Y];cases base<;>simp[tG]
 .intro H b os g Z h4;unfold bU at b;simp only[afE,decide_eq_true_eq]at b;have v:q=i:=by
   simp[typeInfo,hi]at s;exact s.symm
  subst v;have J:¬ (Builtin.nextslicecap (l+m) cap*q.bytes>2 ^ 48):=by
   rw[B];have:=wm (need:=l+m) (cap:=cap) (by omega);have:=agx bytes this;omega
  let nc:=(Question.appendCap (l+m) cap e).cut (w.tape w.drawn (.appendCap (l+m) cap e))
  have K:l+m<=nc:=by simp[nc,Question.cut]
  refine⟨nc,cP (nc-(l+m)) z.cells.toList,w.drew.alloc (.cells (os++g++cP (nc-(l+m)) z.cells.toList).toArray e),K,?_,⟨rfl,rfl,rfl,rfl⟩,by rw[ni];simp[y]⟩;have E:(choose (.appendCap (l+m) cap e)).run Q w=.ok nc w.drew:=by
   simp[choose,Sem.run,Question.forced,nc]
  have M:Builtin.zeroCells z.cells (nc-(l+m))=(cP (nc-(l+m)) z.cells.toList).toArray:=by
   have:=kg z.cells.toList (nc-(l+m)) (by simp[y];exact j.pos);simpa[Builtin.zeroCells]using this
  have x:¬ (((l+m:Nat):Int)>IntKind.i64.max):=by
   have:IntKind.i64.max=9223372036854775807:=by decide
   rw[this];omega
  have N:∀w',(zeroValue e).run Q w'=.ok z w':=λw'=>by simp[zeroValue,typeInfo,hi,hz]
  have L:∀w',(typeInfo e).run Q w'=.ok q w':=λw'=>by simp[typeInfo,hi]
  simp only[Builtin.append_,Sem.run_bind,bl j.hu,bl U,dq j.oe,A,Result.andThen_ok,Sem.run_pure,afR,if_false,S,bG H,Sem.run_ite,L,x,false_and,J,E,run_askRoom,Z,
   Bool.not_false,if_true,h4,N,M,newRow,run_newObj,ahh,ag8,ahe]
  have X:os.toArray++g.toArray++(cP (nc-(l+m)) z.cells.toList).toArray=(os++g++cP (nc-(l+m)) z.cells.toList).toArray:=by simp
  rw[X];rfl
theorem SR.drew(b:SR Q σ X):SR Q σ { X with w:=X.w.drew }/\Ext X.H.length X { X with w:=X.w.drew }:=by
 have d:Ext X.H.length X { X with w:=X.w.drew }:=Ext.one b X.H.length rfl (λ_ _=>Iff.rfl) (λ_ _ _=>rfl) (λ_ _ _ _=>rfl) (λh=>by omega)
  (λ_ _ _=>rfl) (λ_ _=>rfl) (λL h=>.inl ⟨L,h,rfl⟩) (afJ _) rfl rfl rfl
 exact⟨SR.step Q σ b d X.H.length (λ_ _=>rfl) (λ_ _=>rfl) (λ_ _ _ _=>rfl) (λ_ _ _ _ _ h=>h) (λL h=>by
  change X.cI X.H.length=aa L at h;rw[SR.tC b]at h;simp at h) b.fb,d⟩
theorem OC(l:SR Q σ X)(A:X.B<=X.w.heap.size){sz:Nat}(d:0<sz){cs:List C}{us rest:List Value}(h:A2 (CR σ X) cs us){n nc:Nat}(q:cs.length=n*sz)(F:rest.length=(nc-n)*sz)(E:n<=nc)
  {e:TypeId} {w':World} (s:ef X.w w' (.cells (us++rest).toArray e)) :
  ∃X',X'.w=w'/\X'.H=X.H++[.ct sz cs 0 0 .loc]/\SR Q σ X'/\Ext X.H.length X X'/\VR σ X' (.c (.sl X.H.length 0 n 0 0 sz)) (.slice (aa ⟨X.w.heap.size,0,ab⟩) n nc)/\X'.B<=X'.w.heap.size:=by
 obtain⟨X',u,j,v,x,y,z⟩:=SR.new l A (.ct sz cs 0 0 .loc) s nc λX' H g B _=>⟨rfl,us,rest,by rw[g];exact lH s,A2.ext' σ H h,by
  have:=h.len;rw[afK,F,<-this,q,<-agn];congr 1;show n+(nc-n)=nc;omega,d,⟨n,q⟩,λi _ m=>by rw[B]at m;have:=l.fb _ _ m;simp at this⟩
 refine⟨X',u,j,v,x,?_,z⟩;have b:X'.H[X.H.length]?=aa (.ct sz cs 0 0 .loc):=by rw[j];simp
 simp only[VR,iS,CR,fZ,b];exact⟨afJ _,λ_ _=>⟨_,y,0,by omega,by show 0+n<=nc;omega,by simp⟩,_,_,_,rfl⟩
theorem uG(q:SR Q σ X)(N:X.B<=X.w.heap.size){b sz:Nat}{v cs:List C}{fl ep:Nat}{st:Os}(E:X.H[b]?=aa (.ct sz v fl ep st)){ys:List C}{us A rest:List Value}(F:A2 (CR σ X) cs us)(J:A2 (CR σ X) ys A)
  (z:0<sz) {n nc:Nat} (I:cs.length+ys.length=n*sz) (U:rest.length=(nc-n)*sz) (S:n<=nc) {e:TypeId} {w':World} (j:ef X.w w' (.cells (us++A++rest).toArray e)) :
  ∃X',X'.w=w'/\X'.H=X.H.set b (.ct sz (cs++ys) fl (ep+1) .loc)/\SR Q σ X'/\Ext X.H.length X X'/\VR σ X' (.c (.sl b 0 n 0 (ep+1) sz)) (.slice (aa ⟨X.w.heap.size,0,ab⟩) n nc)/\X'.B<=X'.w.heap.size:=by
 have y:b<X.H.length:=(afD.1 E).1
 let X':Wd:={ X with H:=X.H.set b (.ct sz (cs++ys) fl (ep+1) .loc),cI:=λk=>if k=b then aa ⟨X.w.heap.size,nc⟩else X.cI k,w:=w' }
 have g:X'.H[b]?=aa (.ct sz (cs++ys) fl (ep+1) .loc):=by simp[X',y]
 have l:X'.cI b=aa ⟨X.w.heap.size,nc⟩:=by simp[X']
 have u:Ext X.H.length X X':=Ext.one q b rfl (λ_ _=>Iff.rfl) (λk O _=>j.Dm O) (λL i W x=>World.cell?_of_block (j.Dm (q.fb _ _ x)))
  (λ_ bz d=>⟨_,g,by rw[E]at d;simp only[At]at d;subst d;exact⟨rfl,.inr ⟨by omega,rfl,_,l⟩⟩⟩)
  (λm h _=>by simp[X',ae2 (Ne.symm h)]) (λm h=>by simp[X',h]) (λL h=>by rw[l]at h;simp only[At]at h;subst h;exact .inr (afJ _)) (by show X.w.heap.size<=w'.heap.size;rw[j.size];omega) j.os j.tape j.output
 refine⟨X',rfl,rfl,SR.step Q σ q u b (λm h=>by simp[X',ae2 (Ne.symm h)]) (λm h=>by simp[X',h]) (λm L _ s=>j.Dm (q.br m L s).2.1) (λ_ _ _ _ _ h=>h) (λL h=>?_) (λc i h=>?_),u,?_,?_⟩
 .rw[l]at h;simp only[At]at h;subst h;refine⟨N,by show X.w.heap.size<w'.heap.size;rw[j.size];omega,⟨_,g,rfl,us++A,rest,lH j,(A2.ext' σ u F).append (A2.ext' σ u J),?_,z,⟨n,by simpa using I⟩,λi _ x=>?_⟩,λm B _ s=>?_⟩
  .have K:=F.len;have M:=J.len;rw[afK,afK,U,<-K,<-M,I,<-agn];congr 1;show n+(nc-n)=nc;omega
  .have:=q.fb _ _ x;simp at this
  .have:=(q.br m B s).2.1;show B.c≠X.w.heap.size;omega
 .have:=q.fb c i h;show c<w'.heap.size;rw[j.size];omega
 .simp only[VR,iS,CR,fZ,g];exact⟨afJ _,λ_ _=>⟨_,l,0,by omega,by show 0+n<=nc;omega,by simp⟩,_,_,_,rfl⟩
 .show X.B<=w'.heap.size;rw[j.size];omega
end
section
variable{Q:Program}{σ:Nat->FuncId}{X:Wd}
theorem wC{d:Type}(us rest b:List d)(h:b.length<=rest.length):bp (us++rest) us.length b=us++b++rest.drop b.length:=by
 unfold bp;rw[List.take_left',<-List.drop_drop,List.drop_left']
 all_goals rfl
theorem Yr(K:SR Q σ X){b sz:Nat}{cs:List C}{fl ep:Nat}{L:Loc}(y:X.H[b]?=aa (.ct sz cs fl ep .loc))(x:X.cI b=aa L){ys:List C}{l:List Value}(F:A2 (CR σ X) ys l)(W:fl<=cs.length)
  {n:Nat} (Y:cs.length+ys.length=n*sz) (m:n<=L.cap):∃X',(storeCells ⟨L.c,cs.length,ab⟩ l).run Q X.w=.ok () X'.w/\X'.H=X.H.set b (.ct sz (cs++ys) fl (ep+1) .loc)/\SR Q σ X'/\
   Ext X.H.length X X'/\VR σ X' (.c (.sl b 0 n 0 (ep+1) sz)) (.slice (aa ⟨L.c,0,ab⟩) n L.cap)/\X'.w.heap.size=X.w.heap.size/\X'.B=X.B:=by
 obtain⟨_,_,bz,j,z⟩:=K.br b L x;rw[y]at j;simp only[At]at j;subst j;obtain⟨_,us,rest,A,H,J,S,k,I⟩:=z;have q:b<X.H.length:=(afD.1 y).1;have Z:=F.len;have g:=H.len;have E:n*sz<=L.cap*sz:=agx sz m;have B:l.length<=rest.length:=by simp only[afK]at J;omega
 obtain⟨M,a,c,e,f,v⟩:=eo A l cs.length (by simp;omega);rw[g,wC _ _ _ B]at v;rw[<-g]at v;obtain⟨N,O⟩:=SR.PW K (blk':=.ct sz (cs++ys) fl (ep+1) .loc) y x M a (λi U=>by
   have hi:i<fl:=by
    rcases agq i fl with h|h
    .exact h
    .exact absurd U (I i h)
   have:=dD v i;rw[g]at this ⊢;rw[this,dD A,List.append_assoc,afy (by omega),afy (by omega)]) c e f
  (λbz d=>⟨.ct sz (cs++ys) fl (ep+1) .loc,by simp[q],by rw[y]at d;simp only[At]at d;subst d;exact⟨rfl,.inr ⟨by omega,rfl,L,x⟩⟩⟩)
  (λu=>⟨rfl,us++l,rest.drop l.length,by rw[g]at v ⊢;exact v,(A2.ext' σ u H).append (A2.ext' σ u F),by simp only[afK,afX]at J ⊢;omega,S,⟨n,by simpa using Y⟩,I⟩)
 refine⟨_,tH A l cs.length (by simp;omega) (A2.one F),rfl,N,O,?_,M,rfl⟩;have s:(X.H.set b (.ct sz (cs++ys) fl (ep+1) .loc))[b]?=aa (.ct sz (cs++ys) fl (ep+1) .loc):=by simp[q]
 simp only[VR,iS,CR,fZ,s];exact⟨afJ _,λ_ _=>⟨L,x,0,by omega,by omega,by simp⟩,_,_,_,rfl⟩
theorem AT{c:Call}{sz bytes:Nat}{x y:Arg}(h:eh Q σ c (.append sz bytes x y)=ae):∃u v t m e,c.callee=.builtin .append/\c.args=#[u,v]/\c.argTypes=#[t,m]/\mA σ x u=ae/\mA σ y v=ae/\
  Z2 Q t m e sz bytes:=by
 simp only[eh]at h;split at h
 .rename_i u v t m B E F;simp only[afE]at h;obtain⟨⟨⟨I,J⟩,l⟩,g⟩:=h;obtain⟨e,H,l⟩:=jH l;simp only[afE,decide_eq_true_eq]at l;obtain⟨⟨⟨s,q⟩,d⟩,j⟩:=l;have A:∃i z,Q.info? e=aa i/\i.zero=aa z/\z.cells.size=sz:=by
   cases hi:Q.info? e with
   |none=>simp[hi]at j
   |some i=>
    simp only[hi,Option.any_some]at j;cases b:i.zero with
    |none=>simp[b]at j| some z=>simp[b]at j;exact⟨i,z,rfl,b,j⟩
  refine⟨u,v,t,m,e,B,QN E,QN F,I,J,⟨H,?_,s,q,d,A⟩⟩;split at g
  .exact⟨_,by assumption,λk=>by simp⟩
  .exact⟨_,by assumption,λk=>by simp⟩
  .simp at g
 .simp at h
theorem yD(W:SR Q σ X)(hB:X.B<=X.w.heap.size){a:Act}{aF:T}(hR:RR σ X aF a.tmps){o:Oper}{sz bytes:Nat}{x y:Arg}(hm:dZ Q σ o (.append sz bytes x y)=ae){v:V}{H':aj}
  (h:bF aF X.H (.append sz bytes x y)=aa (v,H')):iX Q σ X v H' (execOp a.eval o):=by
 simp only[dZ]at hm;split at hm
 .rename_i c ho;obtain⟨u,v',t,t',e,h1,h2,h3,hx,hy,ht⟩:=AT hm;have hx:=cf hR hx;have hy:=cf hR hy;simp only[bF]at h;generalize m9:a.eval u=ux at hx;generalize m_:a.eval v'=uy at hy;generalize x.ev aF=vx at hx h;generalize y.ev aF=vy at hy h;have a9:∀(r:Value) (w':World),(Builtin.append_ #[t,t'] o.type #[ux,uy]).run Q X.w=.ok r w'->(execOp a.eval o).run Q X.w=.ok (.value r) w':=by
   intro r w' hr;refine dG ho h1 λcs=>?_;simp[builtin,h2,h3,m9,m_,hr]
  unfold cw at h;split at h
  .simp at h
  rename_i m ys e_;rw[bG (by have:=ht.pos;omega)]at h;obtain⟨vs,b9,a_,d9,e9⟩:=Bv W hy e_;obtain⟨Y,i6⟩:=SR.drew W;obtain⟨a8,_,d_,j4,_⟩:=Bv Y (VR.ext' σ i6 hy) e_;have B:A2 (CR σ X) ys a8:=by
   have c_:Ext X.H.length { X with w:=X.w.drew } X:=Ext.one Y X.H.length rfl (λ_ _=>Iff.rfl) (λ_ _ _=>rfl) (λ_ _ _ _=>rfl) (λh=>absurd h (ahm _))
    (λ_ _ _=>rfl) (λ_ _=>rfl) (λL h=>.inl ⟨L,h,rfl⟩) (afJ _) rfl rfl rfl
   exact A2.ext' σ (X:={ X with w:=X.w.drew }) c_ j4
  have H:∀{base:Option Addr} {l cap:Nat} {os:List Value} {cs:List C},ux=.slice base l cap->¬ l+m<=cap->bU (l+m) bytes=ae->
    (Builtin.firstCells sz l (.slice base l cap)).run Q X.w.drew=.ok os.toArray X.w.drew->A2 (CR σ X) cs os->cs.length=l*sz->
    iX Q σ X (.c (.sl X.H.length 0 (l+m) 0 0 sz)) (X.H++[.ct sz (cs++ys) 0 0 .loc]) (execOp a.eval o):=by
   intro base l cap os cs hu f_ d j9 j8 j7;obtain⟨nc,rest,w',J,j,g,K⟩:=(lW ht o.type (base:=base) (l:=l) (cap:=cap) b9 a_).2 f_ d os a8 j9 d_;obtain⟨X',N,I,O,S,U,g6⟩:=OC W hB ht.pos (cs:=cs++ys) (us:=os++a8) (j8.append B) (n:=l+m) (nc:=nc) (by rw[afK,j7,e9,agn]) K J g;exact⟨_,X',.inl (by rw[N];exact a9 _ _ (by rw[hu];exact j)),I,O,U,S,g6⟩
  have A:∀{base:Option Addr} {l cap:Nat} {X':Wd},ux=.slice base l cap->l+m<=cap->(tG base (l*sz) vs).run Q X.w=.ok () X'.w->
    (execOp a.eval o).run Q X.w=.ok (.value (.slice base (l+m) cap)) X'.w:=by
   intro base l cap X' hu q m4;refine a9 _ _ ?_;rw[hu,(lW ht o.type (base:=base) (l:=l) (cap:=cap) b9 a_).1 q,m4];rfl
  split at h
  .
   cases (hx:cX σ X.F X.w .aK ux);split at h
   .rename_i Z;subst Z;simp only[At,afG]at h;obtain⟨rfl,rfl⟩:=h;exact⟨_,X,.inl (A (X':=X) rfl (by omega) rfl),rfl,W,cX.aK,Ext.refl _ _,hB⟩
   .split at h
    .rename_i d;simp only[At,afG]at h;obtain⟨rfl,rfl⟩:=h;have:=H (base:=ab) (l:=0) (cap:=0) (os:=[]) (cs:=[]) rfl (by omega) (by simpa using d) (by simp[Builtin.firstCells]) A2.nil (by simp);simpa using this
    .simp at h
  .
   cases (hx:cX σ X.F X.w .es ux);rename_i ad;split at h
   .rename_i Z;subst Z;simp only[At,afG]at h;obtain⟨rfl,rfl⟩:=h;have i4:vs=[]:=afV (by rw[<-d9.len,e9];simp);exact⟨_,X,.inl (A (X':=X) rfl (by omega) (by rw[i4];rfl)),rfl,W,cX.es _,Ext.refl _ _,hB⟩
   .split at h
    .rename_i d;simp only[At,afG]at h;obtain⟨rfl,rfl⟩:=h;have:=H (base:=aa ad) (l:=0) (cap:=0) (os:=[]) (cs:=[]) rfl (by omega) (by simpa using d) (by simp[Builtin.firstCells,loadCells,loadCellsFrom]) A2.nil (by simp);simpa using this
    .simp at h
  .rename_i b off l cap ep s;have i5:CR σ X (.sl b off l cap ep s) ux:=hx;simp only[VR,iS,CR,fZ]at hx;split at h
   .
    rename_i cs fl F;rw[F]at hx;obtain⟨L,hL,n_,rfl⟩:=hx;split at h
    .rename_i q;split at h
     .rename_i hc;simp only[At,afG]at h;obtain⟨rfl,rfl⟩:=h;obtain⟨X',N,I,O,S,U,g6,g7⟩:=Dg W F hL d9 hc.1 hc.2;refine⟨_,X',.inl (A rfl q (by simp only[tG,ew];exact N)),I,O,?_,S,by omega⟩;have b_:X'.H[b]?=aa (.box (bp cs (off+l*sz) ys) fl):=by rw[I];simp[(afD.1 F).1]
      simp only[VR,iS,CR,fZ,b_];exact⟨L,by rw[U];exact hL,q,rfl⟩
     .simp at h
    .rename_i f_;split at h
     .rename_i hc;simp only[At,afG]at h;obtain⟨rfl,rfl⟩:=h;have g_:cR X.H sz (.sl b off l cap ep s)=aa ((cs.drop off).take (l*sz)):=by simp[cR,F,hc.2]
      have h_:bo X.H (.sl b off l cap ep s)=aa l:=by simp[bo,F]
      obtain⟨os,q1,q2,q3⟩:=nM Y (CR.ext' σ i6 i5) h_ g_;have i7:A2 (CR σ X) ((cs.drop off).take (l*sz)) os:=by
       have c_:Ext X.H.length { X with w:=X.w.drew } X:=Ext.one Y X.H.length rfl (λ_ _=>Iff.rfl) (λ_ _ _=>rfl) (λ_ _ _ _=>rfl) (λh=>absurd h (ahm _))
        (λ_ _ _=>rfl) (λ_ _=>rfl) (λL h=>.inl ⟨L,h,rfl⟩) (afJ _) rfl rfl rfl
       exact A2.ext' σ (X:={ X with w:=X.w.drew }) c_ q2
      exact H rfl f_ hc.1 q1 i7 q3
     .simp at h
   .
    rename_i s' cs fl e' st F;rw[F]at hx;split at h
    .rename_i hc;obtain⟨rfl,rfl,rfl⟩:=hc;have M:=hx.2.1 rfl rfl;split at h
     .
      rename_i Z;subst Z;simp only[At,afG]at h;obtain⟨rfl,rfl⟩:=h;have i4:vs=[]:=afV (by rw[<-d9.len,e9];simp);obtain⟨base,n,cp,E⟩:=hx.2.2;have l_:n=l/\l<=cp:=by
       cases st with
       |loc=>obtain⟨L,_,k,_,hk,h8⟩:=M;rw[E]at h8;simp only[Value.slice.injEq]at h8;omega
       |nil=>obtain⟨_,rfl,h8⟩:=M;rw[E]at h8;simp only[Value.slice.injEq]at h8;omega
       |es=>obtain⟨_,rfl,_,h8⟩:=M;rw[E]at h8;simp only[Value.slice.injEq]at h8;omega
      obtain⟨rfl,n9⟩:=l_;refine⟨.slice base (n+0) cp,X,.inl (A (X':=X) E (by omega) (by rw[i4];cases base<;>rfl)),rfl,W,?_,Ext.refl _ _,hB⟩;rw[ahc,<-E];exact i5
     .rename_i Z;split at h
      .
       rename_i hc;obtain⟨rfl,z,i8⟩:=hc;split at h
       .rename_i d;simp only[At,afG]at h;obtain⟨rfl,rfl⟩:=h;have hn:cs.length+ys.length=(l+m)*s:=by rw[e9,<-z,agn]
        cases st with
        |loc=>
         obtain⟨L,hL,k,k_,hk,rfl⟩:=M;have i_:k=0:=by
          rcases ahn.1 k_.symm with h8|h8
          .exact h8
          .have:=ht.pos;omega
         subst i_;rw[Nat.sub_zero]at *;by_cases q:l+m<=L.cap
         .obtain⟨X',N,I,O,S,U,g6,g7⟩:=Yr W F hL d9 i8 hn q;exact⟨_,X',.inl (A rfl q (by simp only[tG,ew];rw[z,agj];exact N)),I,O,U,S,by omega⟩
         .have g_:cR X.H s (.sl b 0 l cap ep s)=aa ((cs.drop 0).take (l*s)):=by simp[cR,F,z]
          have h_:bo X.H (.sl b 0 l cap ep s)=aa l:=by simp[bo,F]
          obtain⟨os,q1,q2,q3⟩:=nM Y (CR.ext' σ i6 i5) h_ g_;have i7:A2 (CR σ X) cs os:=by
           have c_:Ext X.H.length { X with w:=X.w.drew } X:=Ext.one Y X.H.length rfl (λ_ _=>Iff.rfl) (λ_ _ _=>rfl) (λ_ _ _ _=>rfl) (λh=>absurd h (ahm _))
            (λ_ _ _=>rfl) (λ_ _=>rfl) (λL h=>.inl ⟨L,h,rfl⟩) (afJ _) rfl rfl rfl
           have:=A2.ext' σ (X:={ X with w:=X.w.drew }) c_ q2;rwa[ag5,z,List.take_length]at this
          obtain⟨nc,rest,w',J,j,g,K⟩:=(lW ht o.type (base:=aa ⟨L.c,0,ab⟩) (l:=l) (cap:=L.cap) b9 a_).2 q d os a8 q1 d_;obtain⟨X',N,I,O,S,U,g6⟩:=uG W hB F i7 B ht.pos hn K J g;exact⟨_,X',.inl (by rw[N];exact a9 _ _ (by simpa using j)),I,O,U,S,g6⟩
        |nil=>
         obtain⟨_,rfl,rfl⟩:=M;have f8:cs=[]:=afV (by simpa using z.symm);subst f8;obtain⟨nc,rest,w',J,j,g,K⟩:=(lW ht o.type (base:=ab) (l:=0) (cap:=0) b9 a_).2 (by omega) d [] a8 (by simp[Builtin.firstCells]) d_;obtain⟨X',N,I,O,S,U,g6⟩:=uG W hB F (us:=[]) A2.nil B ht.pos hn K J g;exact⟨_,X',.inl (by rw[N];exact a9 _ _ j),I,O,U,S,g6⟩
        |es=>
         obtain⟨_,rfl,ad,rfl⟩:=M;have f8:cs=[]:=afV (by simpa using z.symm);subst f8;obtain⟨nc,rest,w',J,j,g,K⟩:=(lW ht o.type (base:=aa ad) (l:=0) (cap:=0) b9 a_).2 (by omega) d [] a8 (by simp[Builtin.firstCells,loadCells,loadCellsFrom]) d_;obtain⟨X',N,I,O,S,U,g6⟩:=uG W hB F (us:=[]) A2.nil B ht.pos hn K J g;exact⟨_,X',.inl (by rw[N];exact a9 _ _ j),I,O,U,S,g6⟩
       .simp at h
      .split at h
       .
        rename_i hc;obtain⟨rfl,i9,j_⟩:=hc;simp only[At,afG]at h;obtain⟨rfl,rfl⟩:=h;obtain⟨L,hL,k,rfl,hk,rfl⟩:=M;obtain⟨_,_,bz,f7,j6⟩:=W.br b L hL;rw[F]at f7;simp only[At]at f7;subst f7;obtain⟨_,us,rest,hr,j5,h6,h7,h8,n8⟩:=j6;have q:l+m<=L.cap-k:=by
         have e1:(k+(l+m))*s<=L.cap*s:=by
          rw[agn,agn];have:=j5.len;simp only[afK]at h6;omega
         have:=Nat.le_of_mul_le_mul_right e1 h7;omega
        obtain⟨X',N,I,O,S,U,g6,g7⟩:=Dh W F hL d9 i9 j_;refine⟨_,X',.inl (A rfl q (by simp only[tG,ew];exact N)),I,O,?_,S,by omega⟩;have b_:X'.H[b]?=aa (.ct s (bp cs (k*s+l*s) ys) fl ep .loc):=by rw[I];simp[(afD.1 F).1]
        simp only[VR,iS,CR,fZ,b_];exact⟨afJ _,λ_ _=>⟨L,by rw[U];exact hL,k,rfl,by omega,rfl⟩,_,_,_,rfl⟩
       .simp at h
    .simp at h
   .simp at h
  .simp at h
 .simp at hm
end
section
variable{Q:Program}{σ:Nat->FuncId}{X:Wd}
theorem EL{c:Call}{sz bytes:Nat}{zs:List FC}{x y:Arg}(h:eh Q σ c (.oC sz bytes zs x y)=ae):∃u v t j e k,c.callee=.builtin .append/\c.args=#[u,v]/\c.argTypes=#[t,j]/\mA σ x u=ae/\mA σ y v=ae/\
  Q.underlying t=aa (.slice e)/\dJ Q e sz=ae/\pk Q e bytes=ae/\0<sz/\nk Q e zs=ae/\Q.underlying j=aa (.int k):=by
 simp only[eh]at h;split at h
 .rename_i u v t j q s z;simp only[afE]at h;obtain⟨⟨⟨E,F⟩,g⟩,d⟩:=h;obtain⟨e,B,g⟩:=jH g;simp only[afE,decide_eq_true_eq]at g;obtain⟨⟨⟨m,l⟩,b⟩,H⟩:=g;split at d
  .rename_i k A;exact⟨u,v,t,j,e,k,q,QN s,QN z,E,F,B,m,l,b,H,A⟩
  .simp at d
 .simp at h
theorem P8{n:Nat}(h:n<2 ^ 48):IntKind.i64.wrap (n:Int)=n:=by
 simp only[IntKind.wrap,IntKind.bits,IntKind.signed];have b:(2 ^ 64:Int)=18446744073709551616:=by decide
 have d:(2 ^ (64-1):Int)=9223372036854775808:=by decide
 have g:(2:Nat) ^ 48=281474976710656:=by decide
 simp only[b,d,agi,decide_eq_true_eq];split<;>omega
theorem wR{t Z e:TypeId}{sz bytes:Nat}{k k':IntKind}(c:Q.underlying t=aa (.slice e))(A:Q.underlying Z=aa (.int k))(x:dJ Q e sz=ae)(F:pk Q e bytes=ae)(a:0<sz)
  {z:Value} {us:List Value} {i:TypeInfo} (hi:Q.info? e=aa i) (r:i.zero=aa z) (U:z.cells=us.toArray) (N:us.length=sz) (f:TypeId) {base:Option Addr} {n:Nat} {w:World} :
  (n=0->(Builtin.append_ #[t,Z] f #[.slice base 0 0,.int k' (n:Int)]).run Q w=.ok (.slice base 0 0) w)/\
  (n≠0->bU n bytes=ae->∃nc rest w',n<=nc/\(Builtin.append_ #[t,Z] f #[.slice base 0 0,.int k' (n:Int)]).run Q w=.ok (.slice (aa ⟨w.heap.size,0,ab⟩) n nc) w'/\
   ef w w' (.cells (cP n us++rest).toArray e)/\rest.length=(nc-n)*sz):=by
 obtain⟨g,l,s⟩:=A9 F w;have u:g=i:=by simp[typeInfo,hi]at l;exact l.symm
 subst u;have y:∀w',(typeInfo e).run Q w'=.ok g w':=λw'=>by simp[typeInfo,hi]
 have Y:∀w',(zeroValue e).run Q w'=.ok z w':=λw'=>by simp[zeroValue,typeInfo,hi,r]
 have j:∀(q:Int) w',(asInt (.int k' q)).run Q w'=.ok q w':=λq w'=>by simp[asInt,asIntOf]
 constructor
 .rintro rfl;have O:IntKind.i64.wrap 0=0:=by decide
  simp only[Builtin.append_,ahh];simp[bl c,bl A,dq x,y,j,O];cases base<;>simp[storeCells]
 .intro hn b;have E:=b;unfold bU at b;simp only[afE,decide_eq_true_eq]at b;have S:=P8 b.2;have K:¬ (Builtin.nextslicecap n 0*g.bytes>2 ^ 48):=by
   rw[s];have:=wm (need:=n) (cap:=0) (by omega);have:=agx bytes this;omega
  let nc:=(Question.appendCap n 0 e).cut (w.tape w.drawn (.appendCap n 0 e))
  have L:n<=nc:=by simp[nc,Question.cut]
  have H:(choose (.appendCap n 0 e)).run Q w=.ok nc w.drew:=by
   simp[choose,Sem.run,Question.forced,nc]
  have X:∀m,Builtin.zeroCells z.cells m=(cP m us).toArray:=λm=>by
   have:=kg us m (by omega);simpa[Builtin.zeroCells,U]using this
  have v:¬ ((n:Int)>IntKind.i64.max):=by
   have:IntKind.i64.max=9223372036854775807:=by decide
   have e3:(2:Nat) ^ 48=281474976710656:=by decide
   rw[this];omega
  have I:¬ ((n:Int)<0):=by omega
  have J:¬ ((n:Int)*(g.bytes:Int)>2 ^ 48):=by
   rw[s];have o:n*bytes<=2 ^ 48:=af1 (agx bytes (by omega:n<=2*n+768)) b.1;have p:((n*bytes:Nat):Int)<=2 ^ 48:=by
    have B:((2 ^ 48:Nat):Int)=2 ^ 48:=by decide
    rw[<-B];exact Int.ofNat_le.2 o
   rw[ahf]at p;omega
  have d:(Builtin.firstCells sz 0 (.slice base 0 0)).run Q w.drew=.ok #[] w.drew:=by
   cases base<;>simp[Builtin.firstCells,loadCells,loadCellsFrom]
  have M:¬ (n*sz=0):=by
   intro h;rcases ahn.1 h with h|h<;>omega
  refine⟨nc,cP (nc-n) us,w.drew.alloc (.cells (cP n us++cP (nc-n) us).toArray e),L,?_,⟨rfl,rfl,rfl,rfl⟩,by rw[ni,N]⟩;have W:¬ (n<=0):=by omega
  have hint:((n:Int)).toNat=n:=by simp
  simp only[Builtin.append_,Sem.run_bind,bl c,bl A,dq x,Result.andThen_ok,Sem.run_pure,afR,if_false,Sem.run_ite,y,false_and,K,H,run_askRoom,
   Bool.not_true,if_true,Y,X,newRow,run_newObj,ahh,ag8,ahe,j,S,I,J,hint,agj,W,v,M,d,true_or,and_true,Bool.true_eq]
  have B:#[]++(cP n us).toArray++(cP (nc-n) us).toArray=(cP n us++cP (nc-n) us).toArray:=by simp
  first
   |(rw[B];rfl)
   |(simp[B];rfl)
theorem QM(U:SR Q σ X)(S:X.B<=X.w.heap.size){a:Act}{aF:T}(hR:RR σ X aF a.tmps){o:Oper}{sz bytes:Nat}{zs:List FC}{x y:Arg}(N:dZ Q σ o (.oC sz bytes zs x y)=ae){v:V}{H':aj}
  (h:bF aF X.H (.oC sz bytes zs x y)=aa (v,H')):iX Q σ X v H' (execOp a.eval o):=by
 simp only[dZ]at N;split at N
 .rename_i c ho;obtain⟨u,v',t,t',e,k,h1,h2,h3,J,L,f,F,s,g,hz,W⟩:=EL N;have J:=cf hR J;have L:=cf hR L;simp only[bF]at h;generalize i:a.eval u=O at J;generalize p:a.eval v'=uy at L;generalize x.ev aF=vx at J h;generalize y.ev aF=vy at L h;have l:∀(r:Value) (w':World),(Builtin.append_ #[t,t'] o.type #[O,uy]).run Q X.w=.ok r w'->(execOp a.eval o).run Q X.w=.ok (.value r) w':=by
   intro r w' hr;refine dG ho h1 λcs=>?_;simp[builtin,h2,h3,i,p,hr]
  unfold vr at h;split at h
  .rename_i n hn;obtain⟨k',E⟩:=kS L hn;split at h
   .rename_i hc;obtain⟨z,us,a8,I,M,i0,A,B⟩:=fG (σ:=σ) (X:=X) hz X.w;have H:us.length=sz:=by have:=M.len;simp at this;omega
    obtain⟨m,rfl⟩:∃m:Nat,n=m:=⟨n.toNat,by omega⟩
    have j:∀base,O=.slice base 0 0->(v,H')=(.c (.sl X.H.length 0 m 0 0 sz),X.H++[.ct sz ((cP m zs).map .f) 0 0 .loc])->m≠0->bU m bytes=ae->iX Q σ X v H' (execOp a.eval o):=by
     intro base hb he d b;cases he;obtain⟨nc,rest,w',Y,K,q,Z⟩:=(wR (k':=k') f W F s g A B I H o.type (base:=base) (n:=m)).2 d b;obtain⟨X',g1,g2,g3,g4,g5,g6⟩:=OC U S g (cs:=(cP m zs).map .f) (us:=cP m us) (lY M m) (n:=m) (nc:=nc) (by rw[afT,ni,hc.2]) Z Y q;exact⟨_,X',.inl (by rw[g1];exact l _ _ (by rw[hb,E];exact K)),g2,g3,g5,g4,g6⟩
    split at h
    .cases (J:cX σ X.F X.w .aK O);simp only[afU]at h;split at h
     .rename_i d;simp only[At,afG]at h;obtain⟨rfl,rfl⟩:=h;exact⟨_,X,.inl (l _ _ (by rw[E];exact(wR (k':=k') f W F s g A B I H o.type (base:=ab) (n:=m)).1 d)),rfl,U,cX.aK,Ext.refl _ _,S⟩
     .rename_i d;split at h
      .rename_i b;simp only[At]at h;exact j ab rfl h.symm d b
      .simp at h
    .cases (J:cX σ X.F X.w .es O);rename_i w;simp only[afU]at h;split at h
     .rename_i d;simp only[At,afG]at h;obtain⟨rfl,rfl⟩:=h;exact⟨_,X,.inl (l _ _ (by rw[E];exact(wR (k':=k') f W F s g A B I H o.type (base:=aa w) (n:=m)).1 d)),rfl,U,cX.es _,Ext.refl _ _,S⟩
     .rename_i d;split at h
      .rename_i b;simp only[At]at h;exact j (aa w) rfl h.symm d b
      .simp at h
    .simp at h
   .simp at h
  .simp at h
 .simp at N
end
section
variable{Q:Program}{σ:Nat->FuncId}{X:Wd}
theorem X9(s:SR Q σ X)(m:X.B<=X.w.heap.size){a:Act}{aF:T}{o:Oper}{st:Os}{sz:Nat}(d:dZ Q σ o (.pre st sz)=ae){v:V}{H':aj}
  (h:bF aF X.H (.pre st sz)=aa (v,H')):iX Q σ X v H' (execOp a.eval o):=by
 cases st with
 |nil=>
  simp only[bF]at h;split at h
  .simp at h
  .simp only[At,afG]at h;obtain⟨rfl,rfl⟩:=h;obtain⟨j,l⟩:=SR.grow s (.ct sz [] 0 0 .nil);have q:VR σ { X with H:=X.H++[.ct sz [] 0 0 .nil] } (.c (.sl X.H.length 0 0 0 0 sz)) (.slice ab 0 0):=by
    have b:(X.H++[bB.ct sz [] 0 0 .nil])[X.H.length]?=aa (.ct sz [] 0 0 .nil):=by simp
    simp only[VR,iS,CR,fZ,b];exact⟨afJ _,λ_ _=>by simp,_,_,_,rfl⟩
   simp only[dZ]at d;split at d
   .rename_i g;exact⟨.slice ab 0 0,_,.inl (by simp[execOp,g,Act.eval]),rfl,j,q,l,m⟩
   .rename_i g;exact⟨.slice ab 0 0,_,.inl (by simp[execOp,g,Act.eval]),rfl,j,q,l,m⟩
   .simp at d
 |_=>simp[dZ]at d
theorem Oz(u:SR Q σ X)(s:X.B<=X.w.heap.size){a:Act}{o:Oper}(b:dZ Q σ o .mr=ae):iX Q σ X (.c (.mp X.H.length)) (X.H++[.map []]) (execOp a.eval o):=by
 simp only[dZ]at b;split at b
 .rename_i t v;obtain⟨X',g,d,j,l,m,q⟩:=SR.new u s (.map []) (ef.alloc X.w (.map #[] 0)) 0 λX' z x y _=>⟨[],by rw[x];exact(ef.alloc _ _).new,A2.nil,by simp⟩
  exact⟨.map (aa X.w.heap.size),X',.inl (by rw[g];simp[execOp,v,Instr.makeMap]),d,j,⟨_,m,⟨[],by rw[d];simp⟩,rfl⟩,l,q⟩
 .simp at b
theorem O1(E:SR Q σ X)(A:X.B<=X.w.heap.size){a:Act}{aF:T}(B:RR σ X aF a.tmps){o:Oper}{x:Arg}(d:dZ Q σ o (.range x)=ae){v:V}{H':aj}
  (h:bF aF X.H (.range x)=aa (v,H')):iX Q σ X v H' (execOp a.eval o):=by
 simp only[dZ]at d;split at d
 .rename_i t y F;simp only[afE]at d;obtain⟨b,j⟩:=d;have b:=cf B b;simp only[bF]at h;split at h
  .rename_i s H;rw[H]at b;have b:=VR.str b;simp only[At,afG]at h;obtain⟨rfl,rfl⟩:=h;split at j
   .rename_i I;obtain⟨X',l,g,m,q,u,z⟩:=SR.new E A (.it s 0) (ef.alloc X.w (.stringIter s 0)) 0 λX' b J K _=>by
     show X'.w.heap[X.w.heap.size]?=_;rw[J];exact(ef.alloc _ _).new
    exact⟨.pointer (aa ⟨X.w.heap.size,0,ab⟩),X',.inl (by rw[l];simp[execOp,F,Instr.range,bl I,b]),g,m,⟨_,u,⟨s,0,by rw[g];simp⟩,rfl⟩,q,z⟩
   .simp at j
  .simp at h
 .simp at d
theorem SR.sj(s:SR Q σ X){b:Nat}{bz blk':bB}{L:Loc}{o o':Obj}(x:X.H[b]?=aa bz)(q:X.cI b=aa L)(ho:X.w.heap[L.c]?=aa o)(m:∀c e f,o≠.cells c e f)(j:∀c e f,o'≠.cells c e f)
  (d:nT X { X with H:=X.H.set b blk',w:={ X.w with heap:=X.w.heap.setIfInBounds L.c o' } } b)
  (l:∀X',Ext X.H.length X X'->X'.w.heap[L.c]?=aa o'->X'.F=X.F->X'.cI=X.cI->X'.H=X.H.set b blk'->BR Q σ X' blk' L) :
  SR Q σ { X with H:=X.H.set b blk',w:={ X.w with heap:=X.w.heap.setIfInBounds L.c o' } }/\Ext X.H.length X { X with H:=X.H.set b blk',w:={ X.w with heap:=X.w.heap.setIfInBounds L.c o' } }:=by
 have g:L.c<X.w.heap.size:=(s.br b L q).2.1;refine SR.PW s x q (by simp) (λk y=>by simp[Array.getElem?_setIfInBounds_ne (Ne.symm y)]) (λi _=>?_) rfl rfl rfl d (λz=>l _ z (by simp[g]) rfl rfl rfl);have u:({ X.w with heap:=X.w.heap.setIfInBounds L.c o' }:World).cell? ⟨L.c,i,ab⟩=ab:=by
  simp only[World.cell?];rw[show(X.w.heap.setIfInBounds L.c o')[L.c]?=aa o' by simp[g]];cases o'<;>simp at j ⊢
 have v:X.w.cell? ⟨L.c,i,ab⟩=ab:=by
  simp only[World.cell?,ho];cases o<;>simp at m ⊢
 rw[u,v]
theorem RT(q:SR Q σ X)(A:X.B<=X.w.heap.size){a:Act}{aF:T}(M:RR σ X aF a.tmps){o:Oper}{x:Arg}(m:dZ Q σ o (.next x)=ae){v:V}{H':aj}
  (h:bF aF X.H (.next x)=aa (v,H')):iX Q σ X v H' (execOp a.eval o):=by
 simp only[dZ]at m;split at m
 .rename_i y E;have H:=cf M m;simp only[bF]at h;unfold GL at h;split at h
  .rename_i b O;rw[O]at H;obtain⟨L,B,⟨U,S,N⟩,F⟩:=H;split at h
   .rename_i s pos l;obtain⟨_,_,bz,j,u⟩:=q.br b L B;rw[l]at j;simp only[At]at j;subst j;have g:X.w.heap[L.c]?=aa (.stringIter s pos):=u;split at h
    .rename_i z;simp only[At,afG]at h;obtain⟨rfl,rfl⟩:=h;obtain⟨I,J⟩:=SR.sj (o':=.stringIter s (pos+(Utf8.decode s pos).2)) (blk':=.it s (pos+(Utf8.decode s pos).2)) q l B g (by simp) (by simp)
      (λbz d=>⟨.it s (pos+(Utf8.decode s pos).2),by simp[(afD.1 l).1],by rw[l]at d;simp only[At]at d;subst d;exact λL h=>h⟩)
      (λX' _ K _ _ _=>K)
     refine⟨.tuple #[.bool ae,.int .i64 pos,.int .i32 (Utf8.decode s pos).1],_,.inl ?_,rfl,I,⟨[.bool ae,.int .i64 pos,.int .i32 (Utf8.decode s pos).1],rfl,?_⟩,J,by simpa using A⟩
     .simp only[execOp,E];refine ey ?_;simp[Instr.next,F,getObj,setObj,Sem.run,g,z,goInt]
     .exact A2.cons (cX.bool _) (A2.cons (cX.int _ _) (A2.cons (cX.int _ _) A2.nil))
    .rename_i z;simp only[At,afG]at h;obtain⟨rfl,rfl⟩:=h;refine⟨.tuple #[.bool ag],X,.inl ?_,rfl,q,⟨[.bool ag],rfl,A2.cons (cX.bool _) A2.nil⟩,Ext.refl _ _,A⟩;simp only[execOp,E];refine ey ?_;simp[Instr.next,F,getObj,Sem.run,g,z]
   .simp at h
  .simp at h
 .simp at m
theorem Co{s:CK}{d:TypeDesc}(z:(s=.int/\∃j,d=.int j)\/(s=.str/\d=.string)\/(s=.bool/\d=.bool)){F:Nat->Nat->Prop}{w:World}{k:FC}{v:C}{x:Value}(B:cX σ F w k x) :
  ∀{R:C->Value->Prop} {l g:List (FC × C)} {b:List MapEntry},A2 (λe m=>cX σ F w e.1 m.key/\R e.2 m.val) l b->∀(i:Nat),rO s k v l=aa g->
  (Instr.findNow d x b i=aa ab/\g=l++[(k,v)])\/∃(j:Nat) (u:Value) (m:MapEntry),Instr.findNow d x b i=aa (aa (i+j,u))/\b[j]?=aa m/\Instr.sameNow d x m.key=aa ae/\g=l.set j (k,v)
 |_,[],g,[],_,i,h=>by
  simp only[rO,At]at h;subst h;exact .inl ⟨rfl,rfl⟩
 |_,[],_,_::_,q,_,_=>by have:=q.len;simp at this
 |_,_::_,_,[],q,_,_=>by have:=q.len;simp at this
 |_,e::l,g,m::b,q,i,h=>by
  obtain⟨⟨H,N⟩,E⟩:=q.of_cons;simp only[rO]at h;split at h
  .rename_i A;simp only[At]at h;subst h;have:=vI z B H A;exact .inr ⟨0,m.val,m,by simp[Instr.findNow,this],rfl,this,rfl⟩
  .rename_i A;simp only[afF]at h;obtain⟨I,J,rfl⟩:=h;have:=vI z B H A;rcases Co z B E (i+1) J with⟨y,rfl⟩|⟨j,u,M,y,K,L,rfl⟩
   .exact .inl ⟨by simp[Instr.findNow,this,y],rfl⟩
   .exact .inr ⟨j+1,u,M,by simp[Instr.findNow,this,y];omega,by simpa using K,L,rfl⟩
  .simp at h
theorem CU{d:TypeDesc}{u v:Value}(h:Instr.sameNow d u v=aa ae)(n:Nat):Instr.sameBits n v u=ae:=by
 unfold Instr.sameNow at h;split at h
 .split at h
  .rename_i b;subst b;simp only[At,beq_iff_eq]at h;subst h;simp[Instr.sameBits]
  .simp at h
 .simp only[At,beq_toListBytes,beq_iff_eq]at h;simp[Instr.sameBits,beq_toListBytes,h]
 .simp only[At,beq_iff_eq]at h;subst h;simp[Instr.sameBits]
 .simp at h
theorem aaz{c:C}{u:Value}(h:VR σ X (mV c) u):iS σ X (mV c) u:=by
 cases c
 case cl f cs=>
  simp only[mV]at h ⊢;split at h
  .rename_i b;rw[bu b];exact h
  .rename_i b;rw[bG b];exact h
 all_goals exact h
theorem Oq(hS:SR Q σ X)(hB:X.B<=X.w.heap.size){a:Act}{aF:T}(hR:RR σ X aF a.tmps){o:Oper}{ck:CK}{x y z:Arg}(E:dZ Q σ o (.mq ck x y z)=ae){v:V}{H':aj}
  (h:bF aF X.H (.mq ck x y z)=aa (v,H')):iX Q σ X v H' (execOp a.eval o):=by
 simp only[dZ]at E;split at E
 .rename_i t x' M Y ho;simp only[afE]at E;obtain⟨⟨⟨hx,K⟩,W⟩,ht⟩:=E;have hx:=cf hR hx;have K:=cf hR K;have W:=cf hR W;split at ht
  .rename_i kt e hu;simp only[bF]at h;split at h
   .rename_i b k vv c_ e_ f_;rw[c_]at hx;rw[e_]at K;rw[<-Oo f_]at W;have W:iS σ X (mV vv) (a.eval Y):=aaz W;obtain⟨L,hL,_,b_⟩:=hx;split at h
    .rename_i es hb;split at h
     .rename_i a9;simp only[afF,afG]at h;obtain⟨F,hp,rfl,rfl⟩:=h;obtain⟨_,_,bz,N,d_⟩:=hS.br b L hL;rw[hb]at N;simp only[At]at N;subst N;obtain⟨q,I,h2,B⟩:=d_;have go:∀d,Q.underlying kt=aa d->((ck=.int/\∃j,d=.int j)\/(ck=.str/\d=.string)\/(ck=.bool/\d=.bool))->iX Q σ X .top (X.H.set b (.map F)) (execOp a.eval o):=by
       intro d A hd;have a8:∀(l:List MapEntry),(Instr.mapUpdate t (a.eval x') (a.eval M) (a.eval Y)).run Q X.w=.ok () { X.w with heap:=X.w.heap.setIfInBounds L.c (.map l.toArray l.length) }->
         A2 (λ(e:FC × C) (m:MapEntry)=>cX σ X.F X.w e.1 m.key/\iS σ X (mV e.2) m.val) F l->(∀(i:Nat) m,l[i]?=aa m->m.born=i)->iX Q σ X .top (X.H.set b (.map F)) (execOp a.eval o):=by
        intro l b9 hA d9;obtain⟨g1,g2⟩:=SR.sj (o':=.map l.toArray l.length) (blk':=.map F) hS hb hL I (by simp) (by simp)
         (λbz H=>⟨.map F,by simp[(afD.1 hb).1],by rw[hb]at H;simp only[At]at H;subst H;exact λL h=>h⟩)
         (λX' U h1 hF _ _=>⟨l,h1,hA.nm λe m h=>⟨cX.mono U.F U.fw h.1,iS.ext' σ U h.2⟩,d9⟩)
        exact⟨undef,_,.inr ⟨by simp[execOp,ho,b9],rfl⟩,rfl,g1,trivial,g2,by simpa using hB⟩
       rcases Co (R:=λc u=>iS σ X (mV c) u) hd K h2 0 hp with⟨J,rfl⟩|⟨j,u,m,J,Z,h6,rfl⟩
       .have O:A2 (λ(e:FC × C) (m:MapEntry)=>cX σ X.F X.w e.1 m.key/\iS σ X (mV e.2) m.val) [(k,vv)] [({ key:=a.eval M,val:=a.eval Y,born:=q.length }:MapEntry)]:=A2.cons (And.intro K W) A2.nil;refine a8 (q++[{ key:=a.eval M,val:=a.eval Y,born:=q.length }]) ?_ (h2.append O) ?_
        rotate_left
        .intro i m E;by_cases hi:i<q.length
         .rw[afy hi]at E;exact B i m E
         .rw[List.getElem?_append_right (by omega)]at E;have e9:i-q.length=0:=by
           have:=(afD.1 E).1;simp at this;omega
          rw[e9]at E;simp only[ag8,At]at E;subst E;simp only;omega
        simp[Instr.mapUpdate,bl hu,b_,getObj,setObj,Sem.run,I,jM ht K a9,Instr.findKey,bl A,J]
       .rw[agj]at J;refine a8 (q.set j { m with key:=a.eval M,val:=a.eval Y }) ?_ ?_ ?_
        .have f8:(Instr.keyThatStays m.key (a.eval M)).run Q X.w=.ok (a.eval M) X.w:=by
          simp[Instr.keyThatStays,CU h6 10000]
         have a_:q.modify j (λe=>{ e with key:=a.eval M,val:=a.eval Y })=q.set j { m with key:=a.eval M,val:=a.eval Y }:=by
          apply List.ext_getElem?;intro i;simp only[List.getElem?_modify,ahi];by_cases s:j=i
          .subst s;have S:=(afD.1 Z).1;have f7:=(afD.1 Z).2;simp[Z,S,f7]
          .simp[s]
         simp[Instr.mapUpdate,bl hu,b_,getObj,setObj,Sem.run,I,jM ht K a9,Instr.findKey,bl A,J,Z,f8,a_]
        .refine⟨by simpa using h2.len,λi e' m' he g=>?_⟩;rw[ahi]at he g;split at he
         .rename_i s;subst s;simp only[if_true]at g;have S:=(afD.1 Z).1;have g_:=h2.len;rw[bu (by omega)]at he;rw[bu S]at g;simp only[At]at he g;subst he;subst g;exact⟨K,W⟩
         .rename_i s;rw[bG s]at g;exact h2.2 i e' m' he g
        .intro i m' g;rw[ahi]at g;split at g
         .rename_i s;subst s;split at g
          .simp only[At]at g;subst g;exact B j m Z
          .simp at g
         .exact B i m' g
      rcases nF ht with⟨J,j,A⟩|⟨J,A⟩|⟨J,A⟩
      .exact go _ A (.inl ⟨J,j,rfl⟩)
      .exact go _ A (.inr (.inl ⟨J,rfl⟩))
      .exact go _ A (.inr (.inr ⟨J,rfl⟩))
     .simp at h
    .simp at h
   .simp at h
  .simp at ht
 .simp at E
theorem Ck{c:Call}{sz:Nat}{zs:List FC}{x:Arg}(h:eh Q σ c (.clear sz zs x)=ae):∃y t e,c.callee=.builtin .clear/\c.args=#[y]/\c.argTypes=#[t]/\mA σ x y=ae/\Q.underlying t=aa (.slice e)/\dJ Q e sz=ae/\nk Q e zs=ae:=by
 simp only[eh]at h;split at h
 .rename_i y t d g j;simp only[afE]at h;obtain⟨m,b⟩:=h;obtain⟨e,l,b⟩:=jH b;simp only[afE]at b;exact⟨y,t,e,d,xz g,xz j,m,l,b.1,b.2⟩
 .simp at h
theorem Nr(hS:SR Q σ X)(hB:X.B<=X.w.heap.size){a:Act}{aF:T}(hR:RR σ X aF a.tmps){o:Oper}{sz:Nat}{zs:List FC}{x:Arg}(I:dZ Q σ o (.clear sz zs x)=ae){v:V}{H':aj}
  (h:bF aF X.H (.clear sz zs x)=aa (v,H')):iX Q σ X v H' (execOp a.eval o):=by
 simp only[dZ]at I;split at I
 .rename_i c Y;obtain⟨y,t,e,M,N,O,j,hu,c_,hz⟩:=Ck I;have j:=cf hR j;simp only[bF,afF,afG]at h;obtain⟨H2,d,rfl,rfl⟩:=h;have done:VR σ X (.t []) (.tuple #[]):=⟨[],rfl,A2.nil⟩
  unfold qH at d;split at d
  .rename_i p hp;rw[hp]at j;split at d
   .rename_i U;simp only[At]at d;subst d;obtain⟨J,cp,g⟩:=kd j U;refine⟨.tuple #[],X,.inl (dG Y M λcs=>?_),rfl,hS,done,Ext.refl _ _,hB⟩;cases J<;>simp[builtin,N,O,Builtin.clear_,bl hu,g]
   .rename_i l W U;obtain⟨J,cp,g⟩:=kd j U;split at d
    .rename_i a_;obtain⟨z,us,E,F,H,_⟩:=fG (σ:=σ) (X:=X) hz X.w;have d9:us.length=zs.length:=by have:=H.len;simp at this;omega
     have u:l≠0:=λe=>W (by rw[e]);have key:∀(b o' ep:Nat),(∃q,CR σ X (.ptr b o' ep) (.pointer (aa q))/\J=aa q)->cz X.H (.ptr b o' ep) ((cP l zs).map .f)=aa H2->iX Q σ X (.t []) H2 (execOp a.eval o):=by
      rintro b o' ep ⟨q,hq,rfl⟩ Z;obtain⟨cc,off,X',g1,K,g3,g4,g5,g6,g7⟩:=PH hS hq (lY H l) Z;cases g1;by_cases b_:sz=0
      .subst b_;have b9:zs=[]:=afV a_;have a8:us=[]:=afV (by omega);subst b9;subst a8;refine⟨.tuple #[],X',.inl (dG Y M λcs=>?_),g3,g4,⟨[],rfl,A2.nil⟩,g5,by omega⟩;have hr:cP l ([]:List Value)=[]:=by simp[cP]
       rw[hr]at K;simp[builtin,N,O,Builtin.clear_,bl hu,g,u,E,F,Builtin.zeroCells];cases l with
       |zero=>exact absurd rfl u| succ l=>simp[K]
      .have a9:Builtin.zeroCells z.cells l=(cP l us).toArray:=by
        have:=kg us l (by omega);simpa[Builtin.zeroCells,F]using this
       refine⟨.tuple #[],X',.inl (dG Y M λcs=>?_),g3,g4,⟨[],rfl,A2.nil⟩,g5,by omega⟩;simp[builtin,N,O,Builtin.clear_,bl hu,g,E,a9];cases l with
       |zero=>exact absurd rfl u| succ l=>simp[K]
     split at d
     .rename_i b o' l' cap ep s;simp only[VR,iS,CR,fZ]at j;split at d
      .rename_i cs fl A;rw[A]at j;obtain⟨L,S,_,m⟩:=j;rw[g]at m;simp only[Value.slice.injEq]at m;refine key b o' ep ⟨⟨L.c,o',ab⟩,⟨L,S,by rw[A]⟩,m.1⟩ d
      .rename_i s' cs fl e' A;split at d
       .rename_i B;rw[A]at j;obtain⟨L,S,k,_,_,m⟩:=j.2.1 B.1 B.2;rw[g]at m;simp only[Value.slice.injEq]at m;refine key b o' ep ⟨⟨L.c,o',ab⟩,⟨L,S,?_⟩,m.1⟩ d;rw[A];exact⟨j.1,λ_=>rfl,_,rfl⟩
       .simp at d
      .simp at d
     .simp at d
    .simp at d
   .simp at d
  .simp at d
 .simp at I
theorem JZ(B:SR Q σ X)(S:X.B<=X.w.heap.size){a:Act}{aF:T}(U:RR σ X aF a.tmps){o:Oper}{x:Arg}(l:dZ Q σ o (.mF x)=ae){v:V}{H':aj}
  (h:bF aF X.H (.mF x)=aa (v,H')):iX Q σ X v H' (execOp a.eval o):=by
 simp only[dZ]at l;split at l
 .rename_i t y Y;simp only[afE]at l;obtain⟨j,E⟩:=l;have j:=cf U j;simp only[bF]at h;unfold uM at h;split at h
  .rename_i b c;rw[c]at j;obtain⟨L,A,_,Z⟩:=j;split at h
   .rename_i u m;split at h
    .rename_i p;simp only[At,afG]at h;obtain⟨rfl,rfl⟩:=h;obtain⟨_,_,bz,g,q⟩:=B.br b L A;rw[m]at g;simp only[At]at g;subst g;obtain⟨d,H,I,_⟩:=q;split at E
     .rename_i kt e s;obtain⟨X',J,z,K,M,N,O⟩:=SR.new B S (.xw b u.length ag) (ef.alloc X.w (.mapIter (aa L.c) d.length #[] d.length)) 0 λX' j f k n=>by
       obtain⟨blk',i,F⟩:=j.cZ b (afD.1 m).1 _ m;cases blk'<;>simp only at F;refine⟨L,#[],d.length,F L A,⟨_,i⟩,?_,rfl⟩;rw[I.len,f];exact(ef.alloc _ _).new
      refine⟨.pointer (aa ⟨X.w.heap.size,0,ab⟩),X',.inl ?_,z,K,⟨_,N,⟨b,u.length,ag,by rw[z];simp⟩,rfl⟩,M,O⟩;have W:(getObj L.c).run Q X.w=.ok (.map d.toArray d.length) X.w:=by simp[getObj,Sem.run,H]
      rw[J];simp[execOp,Y,Instr.range,bl s,Z,W]
     .simp at E
    .simp at h
   .simp at h
  .simp at h
 .simp at l
theorem OE(s:SR Q σ X)(N:X.B<=X.w.heap.size){a:Act}{aF:T}(p:RR σ X aF a.tmps){o:Oper}{x:Arg}(E:dZ Q σ o (.qi x)=ae){v:V}{H':aj}
  (h:bF aF X.H (.qi x)=aa (v,H')):iX Q σ X v H' (execOp a.eval o):=by
 simp only[dZ]at E;split at E
 .rename_i y S;have i:=cf p E;simp only[bF]at h;unfold AV at h;split at h
  .rename_i b r;rw[r]at i;obtain⟨L,f,_,W⟩:=i;split at h
   .rename_i m c done u;obtain⟨_,_,bz,d,l⟩:=s.br b L f;rw[u]at d;simp only[At]at d;subst d;obtain⟨J,sn,st,M,_,B,q⟩:=l;split at h
    .rename_i j;obtain⟨_,_,bz,d,l⟩:=s.br m J M;rw[j]at d;simp only[At]at d;subst d;obtain⟨K,F,Z,_⟩:=l;have:K=[]:=afV Z.len.symm;subst this;split at h
     .simp at h
     .rename_i z;simp only[At,afG]at h;obtain⟨rfl,rfl⟩:=h;simp only[z,afR,if_false]at q;subst q;refine⟨.tuple #[.bool ag],X,.inl ?_,rfl,s,⟨[.bool ag],rfl,A2.cons (cX.bool _) A2.nil⟩,Ext.refl _ _,N⟩;simp only[execOp,S];refine ey ?_;simp[Instr.next,W,getObj,Sem.run,B,F,Result.andThen,choose,Question.forced]
    .rename_i e j;obtain⟨H,F,Z,w,k⟩:=GK s M j;split at h
     .rename_i z;simp only[At,afG]at h;obtain⟨rfl,rfl⟩:=h;simp only[z,if_true]at q;obtain⟨rfl,rfl⟩:=q;refine⟨.tuple #[.bool ag],X,.inl ?_,rfl,s,⟨[.bool ag],rfl,A2.cons (cX.bool _) A2.nil⟩,Ext.refl _ _,N⟩;simp only[execOp,S];refine ey ?_;simp[Instr.next,W,getObj,Sem.run,B,F,k,Result.andThen,choose,Question.forced]
     .rename_i z;split at h
      .rename_i U;subst U;simp only[At,afG]at h;obtain⟨rfl,rfl⟩:=h;simp only[z,afR,if_false]at q;subst q;obtain⟨q1,I⟩:=SR.sj (o':=.mapIter (aa J.c) 1 #[0] 1) (blk':=.xw m 1 ae) s u f B (by simp) (by simp)
        (λbz g=>⟨.xw m 1 ae,by simp[(afD.1 u).1],by rw[u]at g;simp only[At]at g;subst g;exact⟨⟨rfl,rfl⟩,λL h=>h⟩⟩)
        (λX' t Y _ A n=>by
         have O:b≠m:=λe=>by rw[e,j]at u;cases u
         exact⟨J,#[0],1,by rw[A];exact M,⟨_,by rw[n,ae2 O];exact j⟩,Y,rfl,rfl⟩)
       refine⟨.tuple #[.bool ae,H.key,H.val],_,.inl ?_,rfl,q1,?_,I,by simpa using N⟩
       .simp only[execOp,S];refine ey ?_;simp[Instr.next,W,getObj,setObj,Sem.run,B,F,k,Result.andThen,choose,Question.forced]
       .exact⟨[.bool ae,H.key,H.val],rfl,A2.cons (cX.bool _) (A2.cons (cX.mono I.F I.fw Z) (A2.cons (iS.ext' σ I w) A2.nil))⟩
      .simp at h
    .simp at h
   .simp at h
  .simp at h
 .simp at E
end
section
variable{Q:Program}{σ:Nat->FuncId}{X:Wd}
def dz(a b:bB):Prop:=
 match a with
 | .box cs fl=>(match b with
  | .box cs' d=>cs=cs'/\fl<=d
  |_=>False)
 | .ct s cs fl e st=>(match b with
  | .ct s' cs' d j g=>s=s'/\cs=cs'/\fl<=d/\e=j/\st=g
  |_=>False)
 |a=>a=b
theorem dz.refl(a:bB):dz a a:=by cases a<;>simp[dz]
theorem dz.trans{a b c:bB}(h:dz a b)(k:dz b c):dz a c:=by
 cases a<;>cases b<;>simp only[dz,reduceCtorEq]at h<;>cases c<;>simp only[dz,reduceCtorEq]at k ⊢
 .exact⟨h.1.trans k.1,af1 h.2 k.2⟩
 .exact⟨h.1.trans k.1,h.2.1.trans k.2.1,af1 h.2.2.1 k.2.2.1,h.2.2.2.1.trans k.2.2.2.1,h.2.2.2.2.trans k.2.2.2.2⟩
 all_goals exact h.trans k
def iB(H H':aj):Prop:=H.length=H'.length/\∀(b:Nat) bz blk',H[b]?=aa bz->H'[b]?=aa blk'->dz bz blk'
theorem iB.refl(H:aj):iB H H:=⟨rfl,λb bz blk' h d=>by rw[h]at d;cases d;exact dz.refl _⟩
theorem iB.get{H H':aj}(h:iB H H'){b:Nat}{bz:bB}(g:H[b]?=aa bz):∃blk',H'[b]?=aa blk'/\dz bz blk':=by
 have j:=(afD.1 g).1;have d:b<H'.length:=by have:=h.1;omega
 exact⟨_,afB d,h.2 b _ _ g (afB d)⟩
theorem iB.trans{A B C:aj}(h:iB A B)(k:iB B C):iB A C:=
 ⟨h.1.trans k.1,λb x z d g=>by obtain⟨y,hy,h1⟩:=h.get d;exact h1.trans (k.2 b y z hy g)⟩
theorem iB.none{H H':aj}(h:iB H H'){b:Nat}(d:H[b]?=ab):H'[b]?=ab:=by
 rw[List.getElem?_eq_none_iff]at d ⊢;have:=h.1;omega
theorem iB.set{H:aj}{b:Nat}{bz blk':bB}(g:H[b]?=aa bz)(h:dz bz blk'):iB H (H.set b blk'):=by
 have j:=(afD.1 g).1;refine⟨by simp,λi x y d hy=>?_⟩;by_cases hi:i=b
 .subst hi;simp only[ahi,if_true,j]at hy;rw[g]at d;cases d;cases hy;exact h
 .rw[ae2 (Ne.symm hi)]at hy;rw[d]at hy;cases hy;exact dz.refl _
theorem iB.foldl{f:aj->C->aj}(b:∀H x,iB H (f H x)):∀(xs:List C) (H:aj),iB H (xs.foldl f H)
 |[],H=>iB.refl H| x::xs,H=>(b H x).trans (iB.foldl b xs (f H x))
theorem mE:∀(n:Nat) (x:C) (H:aj),iB H (ic n x H)
 |n,.f _,H=>by cases n<;>exact iB.refl H
 |0,.ptr _ _ _,H=>iB.refl H| 0,.sl _ _ _ _ _ _,H=>iB.refl H| 0,.cl _ _,H=>iB.refl H| 0,.yl _,H=>iB.refl H| 0,.mp _,H=>iB.refl H| 0,.it _,H=>iB.refl H| 0,.bm _ _,H=>iB.refl H| 0,.mi _,H=>iB.refl H
 |n+1,.ptr b off ep,H=>by
  simp only[ic];split
  .rename_i cs fl d;exact(iB.set d (by exact⟨rfl,agf _ _⟩)).trans (iB.foldl (λH x=>mE n x H) _ _)
  .exact iB.refl H
 |n+1,.sl b o l c ep sz,H=>by
  simp only[ic];split
  .rename_i cs fl d;exact(iB.set d (by exact⟨rfl,agf _ _⟩)).trans (iB.foldl (λH x=>mE n x H) _ _)
  .rename_i s cs fl e st d;exact(iB.set d (by exact⟨rfl,rfl,agf _ _,rfl,rfl⟩)).trans (iB.foldl (λH x=>mE n x H) _ _)
  .exact iB.refl H
 |n+1,.cl f g,H=>iB.foldl (λH x=>mE n x H) _ _
 |n+1,.yl _,H=>iB.refl H| n+1,.mp _,H=>iB.refl H| n+1,.it _,H=>iB.refl H| n+1,.bm _ _,H=>iB.refl H| n+1,.mi _,H=>iB.refl H
theorem fV{b j:Type}{f g:b->Option j}:∀{xs:List b},(∀x∈xs,f x=g x)->aZ f xs=aZ g xs
 |[],_=>rfl| x::xs,h=>by rw[aZ,aZ,h x (by simp),fV (xs:=xs) (λy d=>h y (List.mem_cons_of_mem _ d))]
theorem oI:∀(n:Nat) {H H':aj},iB H H'->∀(x:C),eg n H' x=eg n H x
 |n,H,H',h,.f _=>by cases n<;>rfl
 |0,H,H',h,.ptr _ _ _=>rfl| 0,H,H',h,.sl _ _ _ _ _ _=>rfl| 0,H,H',h,.cl _ _=>rfl| 0,H,H',h,.yl _=>rfl| 0,H,H',h,.mp _=>rfl| 0,H,H',h,.it _=>rfl| 0,H,H',h,.bm _ _=>rfl| 0,H,H',h,.mi _=>rfl
 |n+1,H,H',h,.ptr b off ep=>by
  simp only[eg];cases m:H[b]? with
  |none=>rw[h.none m]
  |some bz=>
   obtain⟨blk',d,j⟩:=h.get m;rw[d];cases bz<;>cases blk'<;>simp only[dz,reduceCtorEq]at j
   .obtain⟨rfl,_⟩:=j;simp only[fV (g:=eg n H) λx _=>oI n h x]
   all_goals rfl
 |n+1,H,H',h,.sl b o l c ep sz=>by
  simp only[eg];cases m:H[b]? with
  |none=>rw[h.none m]
  |some bz=>
   obtain⟨blk',d,j⟩:=h.get m;rw[d];cases bz<;>cases blk'<;>simp only[dz,reduceCtorEq]at j
   .obtain⟨rfl,_⟩:=j;simp only[fV (g:=eg n H) λx _=>oI n h x]
   .obtain⟨rfl,rfl,s,rfl,rfl⟩:=j;clear s;rename_i st _;cases st<;>simp only[fV (g:=eg n H) λx _=>oI n h x]
   all_goals rfl
 |n+1,H,H',h,.cl f q=>by simp only[eg,fV (g:=eg n H) λx _=>oI n h x]
 |n+1,H,H',h,.yl _=>rfl| n+1,H,H',h,.mp _=>rfl| n+1,H,H',h,.it _=>rfl| n+1,H,H',h,.bm _ _=>rfl| n+1,H,H',h,.mi _=>rfl
def dU:Nat->aj->C->Prop
 |_,_,.f _=>True| 0,_,_=>True| n+1,H,.ptr b _ _=>∀cs fl,H[b]?=aa (.box cs fl)->cs.length<=fl/\∀x∈cs,dU n H x
 |n+1,H,.sl b o l _ _ sz=>∀bz,H[b]?=aa bz->match bz with
  | .box cs fl=>o+l*sz<=fl/\∀x∈(cs.drop o).take (l*sz),dU n H x| .ct _ cs fl _ .loc=>o+l*sz<=fl/\∀x∈(cs.drop o).take (l*sz),dU n H x| _=>True
 |n+1,H,.cl _ d=>∀x∈d,dU n H x| _,_,_=>True
theorem dU.le:∀(n:Nat) {H H':aj},iB H H'->∀{x:C},dU n H x->dU n H' x
 |n,H,H',h,.f _,_=>by cases n<;>trivial
 |0,H,H',h,.ptr _ _ _,_=>trivial| 0,H,H',h,.sl _ _ _ _ _ _,_=>trivial| 0,H,H',h,.cl _ _,_=>trivial| 0,H,H',h,.yl _,_=>trivial| 0,H,H',h,.mp _,_=>trivial| 0,H,H',h,.it _,_=>trivial| 0,H,H',h,.bm _ _,_=>trivial| 0,H,H',h,.mi _,_=>trivial
 |n+1,H,H',h,.ptr b off ep,v=>by
  intro cs fl m;have y:=(afD.1 m).1;have s:b<H.length:=by have:=h.1;omega
  have d:=h.2 b _ _ (afB s) m;cases g:H[b]<;>rw[g]at d<;>simp only[dz,reduceCtorEq]at d;obtain⟨rfl,q⟩:=d;obtain⟨h1,h2⟩:=v _ _ (by rw[afB s,g]);exact⟨af1 h1 q,λx u=>dU.le n h (h2 x u)⟩
 |n+1,H,H',h,.sl b o l c ep sz,v=>by
  intro blk' m;have y:=(afD.1 m).1;have s:b<H.length:=by have:=h.1;omega
  have d:=h.2 b _ _ (afB s) m;have j:=v _ (afB s);cases g:H[b]<;>rw[g]at d j<;>cases blk'<;>simp only[dz,reduceCtorEq]at d<;>try simp only
  .obtain⟨rfl,q⟩:=d;exact⟨af1 j.1 q,λx u=>dU.le n h (j.2 x u)⟩
  .obtain⟨rfl,rfl,q,rfl,rfl⟩:=d;rename_i st _;cases st<;>simp only at j ⊢;exact⟨af1 j.1 q,λx u=>dU.le n h (j.2 x u)⟩
 |n+1,H,H',h,.cl f z,v=>λx u=>dU.le n h (v x u)
 |n+1,H,H',h,.yl _,_=>trivial| n+1,H,H',h,.mp _,_=>trivial| n+1,H,H',h,.it _,_=>trivial| n+1,H,H',h,.bm _ _,_=>trivial| n+1,H,H',h,.mi _,_=>trivial
theorem gn{n:Nat}(b:∀(x:C) (H:aj),dU n (ic n x H) x):∀(xs:List C) (H:aj),∀x∈xs,dU n (xs.foldl (λH x=>ic n x H) H) x
 |y::ys,H,x,d=>by
  simp only[ag7];rcases afZ.1 d with rfl|d
  .exact dU.le n (iB.foldl (λH x=>mE n x H) ys _) (b x H)
  .exact gn b ys _ x d
theorem ju:∀(n:Nat) (x:C) (H:aj),dU n (ic n x H) x
 |n,.f _,H=>by cases n<;>trivial
 |0,.ptr _ _ _,H=>trivial| 0,.sl _ _ _ _ _ _,H=>trivial| 0,.cl _ _,H=>trivial| 0,.yl _,H=>trivial| 0,.mp _,H=>trivial| 0,.it _,H=>trivial| 0,.bm _ _,H=>trivial| 0,.mi _,H=>trivial
 |n+1,.ptr b off ep,H=>by
  simp only[ic];cases u:H[b]? with
  |none=>intro cs fl h;exfalso;simp only at h;exact absurd (u.symm.trans h) (by simp)
  |some bz=>
   cases bz with
   |box d g=>
    intro cs fl h;have s:=(afD.1 u).1;simp only at h ⊢;have z:=iB.foldl (λH x=>mE n x H) d (H.set b (.box d (Nat.max g d.length)));obtain⟨blk',j,m⟩:=z.get (b:=b) (bz:=.box d (Nat.max g d.length)) (by simp[s]);rw[h]at j;cases j;obtain⟨rfl,q⟩:=m;exact⟨af1 (af8 _ _) q,λx v=>gn (λx H=>ju n x H) _ _ x v⟩
   |_=>intro cs fl h;simp only at h;rw[u]at h;cases h
 |n+1,.sl b o l c ep sz,H=>by
  simp only[ic];cases u:H[b]? with
  |none=>intro bz h;exfalso;simp only at h;exact absurd (u.symm.trans h) (by simp)
  |some bz=>
   have s:=(afD.1 u).1;cases bz with
   |box d g=>
    intro bz h;simp only at h ⊢;have z:=iB.foldl (λH x=>mE n x H) ((d.drop o).take (l*sz)) (H.set b (.box d (Nat.max g (o+l*sz))));obtain⟨blk',j,m⟩:=z.get (b:=b) (bz:=.box d (Nat.max g (o+l*sz))) (by simp[s]);rw[h]at j;cases j;cases bz<;>simp only[dz,reduceCtorEq]at m;obtain⟨rfl,q⟩:=m;exact⟨af1 (af8 _ _) q,λx v=>gn (λx H=>ju n x H) _ _ x v⟩
   |ct E d g B y=>
    intro bz h;simp only at h ⊢;have z:=iB.foldl (λH x=>mE n x H) ((d.drop o).take (l*sz)) (H.set b (.ct E d (Nat.max g (o+l*sz)) B y));obtain⟨blk',j,m⟩:=z.get (b:=b) (bz:=.ct E d (Nat.max g (o+l*sz)) B y) (by simp[s]);rw[h]at j;cases j;cases bz<;>simp only[dz,reduceCtorEq]at m;obtain⟨rfl,rfl,q,rfl,rfl⟩:=m;cases y<;>simp only;exact⟨af1 (af8 _ _) q,λx v=>gn (λx H=>ju n x H) _ _ x v⟩
   |_=>intro bz h;simp only at h;rw[u]at h;cases h;simp
 |n+1,.cl f A,H=>λx v=>gn (λx H=>ju n x H) _ _ x v
 |n+1,.yl _,H=>trivial| n+1,.mp _,H=>trivial| n+1,.it _,H=>trivial| n+1,.bm _ _,H=>trivial| n+1,.mi _,H=>trivial
end
section
variable{Q:Program}{σ:Nat->FuncId}{X:Wd}
def dv(H H':aj):Prop:=∀(b:Nat) bz,H[b]?=aa bz->∃blk',H'[b]?=aa blk'/\dz bz blk'
theorem dv.refl(H:aj):dv H H:=λ_ bz h=>⟨bz,h,dz.refl _⟩
theorem dv.trans{A B C:aj}(h:dv A B)(k:dv B C):dv A C:=λb x d=>by
 obtain⟨y,hy,h1⟩:=h b x d;obtain⟨z,g,h2⟩:=k b y hy;exact⟨z,g,h1.trans h2⟩
theorem iB.ext{H H':aj}(h:iB H H'):dv H H':=λ_ _ b=>h.get b
theorem dv.append(H H':aj):dv H (H++H'):=λb bz d=>⟨bz,by rw[afy (afD.1 d).1];exact d,dz.refl _⟩
theorem dv.len{H H':aj}(h:dv H H'):H.length<=H'.length:=by
 rcases agq H'.length H.length with d|b
 .obtain⟨y,hy,_⟩:=h H'.length _ (afB d);have:=(afD.1 hy).1;omega
 .exact b
theorem SR.ahead(g:SR Q σ X){H':aj}(h:dv X.H H'):SR Q σ { X with H:=H' }/\Ext X.H.length X { X with H:=H' }:=by
 have q:Ext X.H.length X { X with H:=H' }:=
  {B:=rfl,F:=λ_ _ h=>h,re:=λ_ _ h=>.inl h,fw:=λ_ _ _=>rfl
   cZ:=λb _ bz j=>by
    obtain⟨blk',l,d⟩:=h b bz j;refine⟨blk',l,?_⟩;cases bz<;>cases blk'<;>simp only[dz,reduceCtorEq]at d<;>simp_all
   yZ:=λb L h=>.inl ⟨b,L,h,rfl⟩,size:=afJ _,os:=rfl,tape:=rfl,output:=rfl,frame:=λ_ _ _=>rfl }
 refine⟨⟨λb L j=>?_,g.inj,g.fb⟩,q⟩;obtain⟨h1,h2,bz,h3,h4⟩:=g.br b L j;obtain⟨blk',h5,h6⟩:=h b bz h3;refine⟨h1,h2,blk',h5,?_⟩;have h7:BR Q σ { X with H:=H' } bz L:=BR.ext Q σ q rfl (λ_ h=>h) h4;cases bz<;>cases blk'<;>simp only[dz,reduceCtorEq]at h6
 .obtain⟨rfl,d⟩:=h6;obtain⟨us,g1,g2,g3⟩:=h7;exact⟨us,g1,g2,λi hi=>g3 i (af1 d hi)⟩
 .obtain⟨rfl,rfl,d,rfl,rfl⟩:=h6;obtain⟨m,us,rest,g1,g2,g3,g4,g5,g6⟩:=h7;exact⟨m,us,rest,g1,g2,g3,g4,g5,λi hi=>g6 i (af1 d hi)⟩
 all_goals (rw[<-h6];exact h7)
def AB:bB->Nat->Prop
 | .box cs fl,i=>i<fl/\i<cs.length| .ct _ cs fl _ _,i=>i<fl/\i<cs.length| _,_=>False
def FL(X:Wd):Prop:=∀b L i bz,X.cI b=aa L->X.H[b]?=aa bz->AB bz i->X.F L.c i
def Wd.flag(X:Wd):Wd:={ X with F:=λc i=>X.F c i\/∃b L bz,X.cI b=aa L/\L.c=c/\X.H[b]?=aa bz/\AB bz i }
theorem SR.flag(j:SR Q σ X):SR Q σ X.flag/\Ext X.H.length X X.flag/\FL X.flag:=by
 have g:Ext X.H.length X X.flag:=
  {B:=rfl,F:=λ_ _ h=>.inl h
   re:=λc i h=>by
    rcases h with h|⟨b,L,bz,h1,h2,_⟩
    .exact .inl h
    .exact .inr (.inr ⟨b,L,h1,h2⟩)
   fw:=λ_ _ _=>rfl
   cZ:=λb _=>by
    intro bz l;refine⟨bz,l,?_⟩;cases bz<;>simp[Wd.flag]
   yZ:=λb L h=>.inl ⟨b,L,h,rfl⟩,size:=afJ _,os:=rfl,tape:=rfl,output:=rfl,frame:=λ_ _ _=>rfl }
 refine⟨⟨λb L l=>?_,j.inj,λc i h=>?_⟩,g,λb L i bz h1 h2 h3=>.inr ⟨b,L,bz,h1,rfl,h2,h3⟩⟩
 .obtain⟨h1,h2,bz,h3,h4⟩:=j.br b L l;refine⟨h1,h2,bz,h3,?_⟩;have key:∀i,X.flag.F L.c i->X.F L.c i\/AB bz i:=by
   rintro i (h|⟨x,y,blk',g1,g2,g3,g4⟩)
   .exact .inl h
   .have:x=b:=j.inj _ _ _ _ g1 l g2;subst this;rw[h3]at g3;cases g3;exact .inr g4
  cases bz with
  |box cs fl=>
   obtain⟨us,g1,g2,g3⟩:=h4;exact⟨us,g1,A2.ext' σ g g2,λi hi u=>(key i u).elim (g3 i hi) λh=>by have:=h.1;omega⟩
  |ct sz cs fl ep st=>
   obtain⟨v,us,rest,g1,g2,g3,g4,g5,g6⟩:=h4;exact⟨v,us,rest,g1,A2.ext' σ g g2,g3,g4,g5,λi hi u=>(key i u).elim (g6 i hi) λh=>by have:=h.1;omega⟩
  |map es=>exact BR.ext Q σ g rfl (λi h=>(key i h).elim id False.elim) h4
  |it s p=>exact BR.ext Q σ g rfl (λi h=>(key i h).elim id False.elim) h4
  |gI b=>exact BR.ext Q σ g rfl (λi h=>(key i h).elim id False.elim) h4
  |xw m s d=>exact BR.ext Q σ g rfl (λi h=>(key i h).elim id False.elim) h4
  |lp f t p a c st q d=>exact BR.ext Q σ g rfl (λi h=>(key i h).elim id False.elim) h4
 .rcases h with h|⟨b,L,bz,h1,h2,_⟩
  .exact j.fb c i h
  .rw[<-h2];exact(j.br b L h1).2.1
theorem gS{d g:Type}{f:d->Option g}:∀{xs:List d} {ys:List g},aZ f xs=aa ys->A2 (λx y=>f x=aa y) xs ys
 |[],ys,h=>by simp only[aZ,At]at h;subst h;exact A2.nil
 |x::xs,ys,h=>by
  simp only[aZ]at h;split at h
  .simp at h
  .rename_i y j;split at h
   .simp at h
   .rename_i l b;simp only[At]at h;subst h;exact A2.cons j (gS b)
theorem YM(hS:SR Q σ X)(hF:FL X){H:aj}(W:dv H X.H):∀(n:Nat) {x:C} {y:FC} {v:Value},eg n H x=aa y->dU n H x->CR σ X x v->cX σ X.F X.w y v
 |n,.f x,y,v,d,_,B=>by
  have:eg n H (.f x)=aa x:=by cases n<;>rfl
  rw[this]at d;cases d;exact B
 |0,.ptr _ _ _,y,v,d,_,_=>by simp[eg]at d
 |0,.sl _ _ _ _ _ _,y,v,d,_,_=>by simp[eg]at d
 |0,.cl _ _,y,v,d,_,_=>by simp[eg]at d
 |0,.yl _,y,v,d,_,_=>by simp[eg]at d
 |0,.mp _,y,v,d,_,_=>by simp[eg]at d
 |0,.it _,y,v,d,_,_=>by simp[eg]at d
 |0,.bm _ _,y,v,d,_,_=>by simp[eg]at d
 |0,.mi _,y,v,d,_,_=>by simp[eg]at d
 |n+1,.ptr b off ep,y,v,d,hm,B=>by
  simp only[eg]at d;split at d
  .rename_i cs fl K;simp only[afF]at d;obtain⟨ys,g,rfl⟩:=d;obtain⟨N,I⟩:=hm cs fl K;obtain⟨blk',m,j⟩:=W b _ K;cases blk'<;>simp only[dz,reduceCtorEq]at j;obtain⟨rfl,j⟩:=j;rename_i U;obtain⟨L,S,B⟩:=B;simp only[m]at B;subst B;obtain⟨_,_,bz,E,M⟩:=hS.br b L S;rw[m]at E;cases E;obtain⟨us,A,z,_⟩:=M;have g:=gS g;have:=cX.fp (σ:=σ) (F:=X.F) (w:=X.w) ys off L.c 0 us (by rw[<-z.len,g.len])
    (λi hi=>by rw[agj];exact hF b L i _ S m ⟨by have:=g.len;omega,by have:=g.len;omega⟩)
    (λi u O=>by rw[agj,dD A];exact O)
    (λi y u Z O=>by
     have hi:i<cs.length:=by rw[g.len];exact(afD.1 Z).1
     have Y:=afB hi;exact YM hS hF W n (g.2 i _ _ Y Z) (I _ (afH hi)) (z.2 i _ _ Y O))
   rw[agj]at this;exact this
  .simp at d
 |n+1,.sl b o l c ep sz,y,v,d,hm,B=>by
  have key:∀(cs:List C) (fl:Nat) (blk':bB) (L:Loc) (us rest:List Value) (ys:List FC) (cap:Nat),o+l*sz<=cs.length->o+l*sz<=fl->
    (∀i,i<fl->i<cs.length->AB blk' i)->X.H[b]?=aa blk'->X.cI b=aa L->rowAt X.w L.c (us++rest)->A2 (CR σ X) cs us->
    (∀x∈(cs.drop o).take (l*sz),dU n H x)->aZ (eg n H) ((cs.drop o).take (l*sz))=aa ys->l<=cap->cX σ X.F X.w (.fs ys l) (.slice (aa ⟨L.c,o,ab⟩) l cap):=by
   intro cs fl blk' L us rest ys cap q N a8 m S A z I g J;have g:=gS g;have b_:=z.len;have b9:ys.length=l*sz:=by rw[<-g.len];simp;omega
   have a_:=(z.drop o).take (l*sz);refine .fs ys l L.c o cap ((us.drop o).take (l*sz)) J (by rw[b9];simp;omega) (λi hi=>hF b L _ _ S m (a8 _ (by omega) (by omega))) (λi u O=>?_) (λi y u Z O=>?_)
   .have hi:i<l*sz:=by
     have:=(afD.1 O).1;simp at this;omega
    rw[dD A,afy (by omega)];rw[List.getElem?_take_of_lt hi,af0]at O;exact O
   .have hi:i<((cs.drop o).take (l*sz)).length:=by rw[g.len];exact(afD.1 Z).1
    have Y:=afB hi;exact YM hS hF W n (g.2 i _ _ Y Z) (I _ (afH hi)) (a_.2 i _ _ Y O)
  simp only[eg]at d;simp only[CR,fZ]at B;split at d
  .rename_i cs fl K;split at d
   .rename_i q;simp only[afF]at d;obtain⟨ys,g,rfl⟩:=d;obtain⟨N,I⟩:=hm _ K;obtain⟨blk',m,j⟩:=W b _ K;cases blk'<;>simp only[dz,reduceCtorEq]at j;obtain⟨rfl,j⟩:=j;rename_i U;simp only[m]at B;obtain⟨L,S,J,rfl⟩:=B;obtain⟨_,_,bz,E,M⟩:=hS.br b L S;rw[m]at E;cases E;obtain⟨us,A,z,_⟩:=M;exact key cs fl (.box cs U) L us [] ys c q N (λi h1 h2=>⟨by omega,h2⟩) m S (by simpa using A) z I g J
   .simp at d
  .rename_i s cs fl e K;split at d
   .rename_i q;obtain⟨rfl,rfl,q⟩:=q;simp only[afF]at d;obtain⟨ys,g,rfl⟩:=d;obtain⟨N,I⟩:=hm _ K;obtain⟨blk',m,j⟩:=W b _ K;cases blk'<;>simp only[dz,reduceCtorEq]at j;obtain⟨rfl,rfl,j,rfl,rfl⟩:=j;rename_i U;simp only[m]at B;obtain⟨L,S,k,ho,J,rfl⟩:=B.2.1 trivial trivial;obtain⟨_,_,bz,E,M⟩:=hS.br b L S;rw[m]at E;cases E;obtain⟨_,us,rest,A,z,_⟩:=M;exact key cs fl (.ct sz cs U ep .loc) L us rest ys _ q N (λi h1 h2=>⟨by omega,h2⟩) m S A z I g (by omega)
   .simp at d
  .rename_i s cs fl e K;split at d
   .rename_i q;obtain⟨rfl,rfl⟩:=q;cases d;obtain⟨blk',m,j⟩:=W b _ K;cases blk'<;>simp only[dz,reduceCtorEq]at j;obtain⟨rfl,rfl,j,rfl,rfl⟩:=j;simp only[m]at B;obtain⟨_,_,rfl⟩:=B.2.1 trivial trivial;exact .aK
   .simp at d
  .rename_i s cs fl e K;split at d
   .rename_i q;obtain⟨rfl,rfl⟩:=q;cases d;obtain⟨blk',m,j⟩:=W b _ K;cases blk'<;>simp only[dz,reduceCtorEq]at j;obtain⟨rfl,rfl,j,rfl,rfl⟩:=j;simp only[m]at B;obtain⟨_,_,a,rfl⟩:=B.2.1 trivial trivial;exact .es a
   .simp at d
  .simp at d
 |n+1,.cl f a9,y,v,d,hm,B=>by
  simp only[eg,afF]at d;obtain⟨ys,g,rfl⟩:=d;obtain⟨us,rfl,z⟩:=B;have g:=gS g;refine .fn f ys us (by rw[<-z.len,g.len]) λi y u Z O=>?_;have hi:i<a9.length:=by rw[g.len];exact(afD.1 Z).1
  have Y:=afB hi;exact YM hS hF W n (g.2 i _ _ Y Z) (hm _ (afH hi)) (CR.Qg σ (z.2 i _ _ Y O))
 |n+1,.yl _,y,v,d,_,_=>by simp[eg]at d
 |n+1,.mp _,y,v,d,_,_=>by simp[eg]at d
 |n+1,.it _,y,v,d,_,_=>by simp[eg]at d
 |n+1,.bm _ _,y,v,d,_,_=>by simp[eg]at d
 |n+1,.mi _,y,v,d,_,_=>by simp[eg]at d
end
section
variable{Q:Program}{σ:Nat->FuncId}{X:Wd}
theorem SR.skip(g:SR Q σ X){w':World}{o:Obj}(d:ef X.w w' o)(q:X.B<=X.w.heap.size):∃X':Wd,X'.w=w'/\X'.H=X.H/\SR Q σ X'/\Ext X.H.length X X'/\X'.B<=X'.w.heap.size:=by
 have j:Ext X.H.length X { X with w:=w' }:=Ext.one g X.H.length rfl (λ_ _=>Iff.rfl) (λk m _=>d.Dm m)
  (λL i h=>by rw[SR.tC g]at h;simp at h) (λh=>absurd h (ahm _)) (λ_ _ _=>rfl) (λ_ _=>rfl) (λL h=>.inl ⟨L,h,rfl⟩) (by show _<=w'.heap.size;rw[d.size];omega) d.os d.tape d.output
 refine⟨{ X with w:=w' },rfl,rfl,SR.step Q σ g j X.H.length (λ_ _=>rfl) (λ_ _=>rfl) (λb L _ l=>d.Dm (g.br b L l).2.1)
  (λ_ _ _ _ _ h=>h) (λL h=>by change X.cI X.H.length=aa L at h;rw[SR.tC g]at h;simp at h) (λc i h=>?_),j,?_⟩
 .have:=g.fb c i h;show c<w'.heap.size;rw[d.size];omega
 .show X.B<=w'.heap.size;rw[d.size];omega
theorem wrap_small{n:Int}(h0:0<=n)(b:n<2 ^ 63):IntKind.i64.wrap n=n:=by
 have:n % (2 ^ 64:Int)=n:=Int.emod_eq_of_lt h0 (by omega);simp only[IntKind.wrap,IntKind.bits,IntKind.signed,this,agi,decide_eq_true_eq];rw[bG (by show¬ n≥2 ^ (64-1);omega)]
theorem EZ(hS:SR Q σ X)(hB:X.B<=X.w.heap.size){a:Act}{aF:T}(hR:RR σ X aF a.tmps){o:Oper}{sz bytes:Nat}{zs:List FC}{x y:Arg}(F:dZ Q σ o (.fQ sz bytes zs x y)=ae){v:V}{H':aj}
  (h:bF aF X.H (.fQ sz bytes zs x y)=aa (v,H')):iX Q σ X v H' (execOp a.eval o):=by
 simp only[dZ]at F;split at F
 .rename_i t x' y' ho;simp only[afE,decide_eq_true_eq]at F;obtain⟨⟨⟨k,r⟩,O⟩,b9⟩:=F;have k:=cf hR k;have r:=cf hR r;obtain⟨e,hu,O⟩:=jH O;simp only[afE]at O;obtain⟨⟨j,Z⟩,hz⟩:=O;obtain⟨z,us,a8,a9,M,e_,c_,d9⟩:=fG (σ:=σ) (X:=X) hz X.w;obtain⟨b_,u,A⟩:=A9 Z X.w;simp only[bF]at h;split at h
  .rename_i l c hl hc;obtain⟨kl,p⟩:=kS k hl;obtain⟨kc,w⟩:=kS r hc;split at h
   .rename_i s;obtain⟨h0,d_,g,e9⟩:=s;unfold bU at g;simp only[afE,decide_eq_true_eq]at g;have J:us.length=sz:=by have:=M.len;simp at this;omega
    have L:=wrap_small (n:=l) h0 (by omega);have K:=wrap_small (n:=c) (by omega) (by omega);have a_:c.toNat*bytes<=2 ^ 48:=by
     have:c.toNat*bytes<=(2*c.toNat+768)*bytes:=agx _ (by omega);omega
    have m:¬ ((bytes:Int)*c>2 ^ 48):=by
     have e1:(bytes:Int)*c=((c.toNat*bytes:Nat):Int):=by
      rw[ahf,Int.mul_comm];congr 1;omega
     rw[e1];omega
    have I:((Array.range (c.toNat*sz)).map λi=>us.toArray[i % us.toArray.size]!)=(cP c.toNat us).toArray:=by
     have:=kg us c.toNat (by omega);rwa[J]at this
    have run:(execOp a.eval o).run Q X.w=.ok (.value (.slice (aa ⟨X.w.heap.size,0,ab⟩) l.toNat c.toNat)) (X.w.alloc (.cells (cP c.toNat us).toArray e)):=by
     simp only[execOp,ho];refine ey ?_;rw[p,w];have B:¬ c<0:=by omega
     have E:¬ l<0:=by omega
     have q:¬ l>c:=by omega
     by_cases d:c.toNat*sz=0
     .have f:cP c.toNat us=[]:=afV (by rw[ni,J];exact d);have b:((decide (c<0)||decide ((bytes:Int)*c>2 ^ 48))||decide (l<0)||decide (l>c))=ag:=by rw[decide_eq_false B,decide_eq_false E,decide_eq_false q,decide_eq_false m];rfl
      simp only[Instr.makeSlice,Sem.run_bind,bl hu,asInt,asIntOf,Sem.run_pure,Result.andThen_ok,u,A,L,K,run_askRoom,dq j];simp only[b,afR,if_false,Sem.run_ite,bu d,Sem.run_bind,Result.andThen_ok,Sem.run_pure,run_askRoom,dq j,newRow,run_newObj];rw[d,f,show(Array.map (λx=>(#[]:Array Value)[x % (#[]:Array Value).size]!) (Array.range 0))=#[] from by simp[show Array.range 0=(#[]:Array Nat) from rfl]];rfl
     .simp only[Instr.makeSlice,Sem.run_bind,bl hu,asInt,asIntOf,Sem.run_pure,Result.andThen_ok,u,A,L,K,run_askRoom,dq j];have b:((decide (c<0)||decide ((bytes:Int)*c>2 ^ 48))||decide (l<0)||decide (l>c))=ag:=by rw[decide_eq_false B,decide_eq_false E,decide_eq_false q,decide_eq_false m];rfl
      simp only[b,afR,if_false,Sem.run_ite,bG d,Sem.run_bind,a8,a9,Result.andThen_ok,Sem.run_pure,run_askRoom,dq j,I,newRow,run_newObj];rfl
    split at h
    .rename_i d;subst d;simp only[At,afG]at h;obtain⟨rfl,rfl⟩:=h;have:l=0:=by omega
     subst this;obtain⟨X',S,N,U,W,Y⟩:=SR.skip hS (ef.alloc X.w (.cells (cP (0:Int).toNat us).toArray e)) hB;exact⟨_,X',.inl (by rw[S];exact run),N,U,cX.es _,W,Y⟩
    .simp only[At,afG]at h;obtain⟨rfl,rfl⟩:=h;obtain⟨X',S,N,U,W,Y,g6⟩:=E0 hS hB (lY M c.toNat) e;refine⟨_,X',.inl (by rw[S];exact run),N,U,?_,W,g6⟩;have H:X'.H[X.H.length]?=aa (.box ((cP c.toNat zs).map .f) 0):=by rw[N];simp
     simp only[VR,iS,CR,fZ,H];exact⟨_,Y,by omega,rfl⟩
   .simp at h
  .simp at h
 .simp at F
theorem W6(H:aj):∀x,eg 0 H x=fcC x:=λx=>by cases x<;>rfl
theorem R_(F:SR Q σ X)(hB:X.B<=X.w.heap.size){a:Act}{aF:T}(E:RR σ X aF a.tmps){o:Oper}{sz:Nat}{x hi mx:Arg}(z:dZ Q σ o (.wW sz x hi mx)=ae){v:V}{H':aj}
  (h:bF aF X.H (.wW sz x hi mx)=aa (v,H')):iX Q σ X v H' (execOp a.eval o):=by
 simp only[dZ]at z;split at z
 .rename_i t y O mx' ho;simp only[afE,decide_eq_true_eq]at z;obtain⟨⟨⟨⟨q,h2⟩,h3⟩,he⟩,hz⟩:=z;obtain⟨e,hu,A⟩:=jH he;simp only[bF]at h;unfold C0 at h;have o1:OR X σ ab ab:=trivial;have o2:OR X σ (aa (hi.ev aF)) (aa (a.eval O)):=cf E h2;have o3:OR X σ (aa (mx.ev aF)) (aa (a.eval mx')):=cf E h3;have q:=cf E q;split at h
  .rename_i v' hv;simp only[At,afG]at h;obtain⟨rfl,rfl⟩:=h;obtain⟨r,B,h5⟩:=zD F hu A q o1 o2 o3 hv;exact⟨r,X,.inl (by simp only[execOp,ho];exact ey B),rfl,F,h5,Ext.refl _ _,hB⟩
  .split at h
   .rename_i b o' n c' ep s b9;rw[b9]at q;simp only[VR,iS,CR,fZ]at q;split at h
    .rename_i s' cs fl e' I;rw[I]at q;split at h
     .rename_i K;obtain⟨rfl,rfl,rfl,rfl⟩:=K;split at h
      .rename_i i j d W;split at h
       .rename_i U;obtain⟨rfl,d_,d9⟩:=U;split at h
        .rename_i ys b_;simp only[At,afG]at h;obtain⟨rfl,rfl⟩:=h;obtain⟨L,hL,k,hk,e_,a_⟩:=q.2.1 rfl rfl;have Y:k=0:=by
          rcases Nat.eq_zero_or_pos k with h|h
          .exact h
          .have:=Nat.mul_pos h hz;omega
         subst Y;have e9:i<=n:=by
          unfold BF at d;split at d
          .split at d
           .rename_i hh;simp only[At]at d;omega
           .simp at d
          .simp at d
         have J:ch n n ab (aa (hi.ev aF)) (aa (mx.ev aF))=aa (0,i,i):=by
          have S:BF (hi.ev aF) i=aa i:=by
           unfold BF at d ⊢;split at d
           .split at d
            .rename_i hh;simp only[At]at d;rw[bu ⟨hh.1,by omega⟩,d]
            .simp at d
           .simp at d
          simp[ch,W,S]
         obtain⟨B,_,_,_⟩:=dQ (Q:=Q) o1 o2 o3 J (cap:=L.cap) (by omega) (afJ n) ae X.w;have h6:=eT (a:=aa ⟨L.c,0,ab⟩) hu A B;have Z:iB X.H (X.H.set b (.ct s' cs (Nat.max fl (i*s')) ep .loc)):=iB.set I ⟨rfl,rfl,agf _ _,rfl,rfl⟩;obtain⟨g1,g2⟩:=SR.ahead F Z.ext;obtain⟨g3,g4,g5⟩:=SR.flag g1;have a8:=(afD.1 I).1;have l:(X.H.set b (.ct s' cs (Nat.max fl (i*s')) ep .loc))[b]?=aa (.ct s' cs (Nat.max fl (i*s')) ep .loc):=by simp[a8]
         have N:eg 1 (X.H.set b (.ct s' cs (Nat.max fl (i*s')) ep .loc)) (.sl b 0 i 0 ep s')=aa (.fs ys i):=by
          simp only[eg,l];rw[bu ⟨trivial,trivial,by omega⟩,fV (g:=fcC) λx _=>W6 _ x,ag5,b_];rfl
         have a9:dU 1 (X.H.set b (.ct s' cs (Nat.max fl (i*s')) ep .loc)) (.sl b 0 i 0 ep s'):=by
          intro bz m;rw[l]at m;cases m;refine⟨by have:=af8 fl (i*s');simp only[agj];exact this,λx _=>?_⟩;cases x<;>trivial
         have M:CR σ ({ X with H:=X.H.set b (.ct s' cs (Nat.max fl (i*s')) ep .loc) }:Wd).flag (.sl b 0 i 0 ep s') (.slice (aa ⟨L.c,0,ab⟩) i L.cap):=by
          simp only[CR,fZ,Wd.flag,l];exact⟨afJ _,λ_ _=>⟨L,hL,0,by omega,by omega,by simp⟩,_,_,_,rfl⟩
         have hf:=YM g3 g5 (dv.refl _) 1 N a9 M;have u:cX σ ({ X with H:=X.H.set b (.ct s' cs (Nat.max fl (i*s')) ep .loc) }:Wd).flag.F X.w (.fs ys i) (.slice (aa ⟨L.c,0,ab⟩) i i):=by
          cases hf with
          |fs _ _ c o2 cap us c_ hl hF K hr=>exact .fs _ _ _ _ _ us (afJ _) hl hF K hr| Tb a2 cap=>omega
         refine⟨.slice (aa ⟨L.c,0,ab⟩) i i,({ X with H:=X.H.set b (.ct s' cs (Nat.max fl (i*s')) ep .loc) }:Wd).flag,.inl ?_,rfl,g3,u,g2.trans (g4.mono (by simp)),hB⟩;simp only[execOp,ho];refine ey ?_;rw[a_];simp[show i≠0 by omega,ew]at h6;exact h6
        .simp at h
       .simp at h
      .simp at h
     .simp at h
    .simp at h
   .simp at h
 .simp at z
theorem Yx(d:SR Q σ X)(g:X.B<=X.w.heap.size){a:Act}{aF:T}(j:RR σ X aF a.tmps){o:Oper}{op:dd}(b:dZ Q σ o op=ae){v:V}{H':aj}
  (h:bF aF X.H op=aa (v,H')):iX Q σ X v H' (execOp a.eval o):=by
 cases m:op.YN
 case true=>
  cases op<;>simp only[dd.YN,reduceCtorEq]at m;obtain⟨rfl,u,X',B,E,F,H,I,J,_⟩:=yT d g j b h;exact⟨u,X',.inl B,E,F,H,I,J⟩
 by_cases s:cls op=.p\/cls op=.r
 .exact iX.abe g d (Tv d j b s m h)
 .cases op with
  |pre st sz=>exact X9 d g b h
  |alloc zs=>
   simp only[bF,At,afG]at h;obtain⟨rfl,rfl⟩:=h;exact Na d g b
  |box x=>
   simp only[bF]at h;split at h
   .rename_i xs q;simp only[At,afG]at h;obtain⟨rfl,rfl⟩:=h;exact WN d g j b q
   .simp at h
  |dX sz zs n ps=>exact IF d g j b h| store n x y=>exact PQ d g j b h
  |mr=>
   simp only[bF,At,afG]at h;obtain⟨rfl,rfl⟩:=h;exact Oz d g b
  |mq K x y z=>exact Oq d g j b h| fQ sz l zs x y=>exact EZ d g j b h| range x=>exact O1 d g j b h| next x=>exact RT d g j b h
  |append sz l x y=>exact yD d g j b h| Ej x=>simp[dZ]at b| copy sz x y=>simp[dZ]at b| clear sz zs x=>exact Nr d g j b h| oC sz l zs x y=>exact QM d g j b h| mF x=>exact JZ d g j b h| wW sz x y z=>exact R_ d g j b h| qi x=>exact OE d g j b h| call f xs A=>simp[bF]at h| gN x xs A=>simp[bF]at h| recover=>simp[bF]at h| defer x xs=>simp[bF]at h| bad=>simp[bF]at h| _=>exact absurd (by simp[cls]) s
end
section
variable{Q:Program}{σ:Nat->FuncId}{X:Wd}
def nu(n:Nat)(H:aj):V->Prop
 | .c x=>dU n H x| .a xs=>∀x∈xs,dU n H x| _=>True
theorem nu.le{n:Nat}{H H':aj}(h:iB H H'){v:V}(b:nu n H v):nu n H' v:=by
 cases v with
 |c x=>exact dU.le n h b| a xs=>exact λx d=>dU.le n h (b x d)
 |_=>trivial
theorem XB(n:Nat)(v:V)(H:aj):iB H (Qf n H v):=by
 cases v with
 |c x=>exact mE n x H| a xs=>exact iB.foldl (λH x=>mE n x H) xs H
 |_=>exact iB.refl H
theorem EW(n:Nat)(v:V)(H:aj):nu n (Qf n H v) v:=by
 cases v with
 |c x=>exact ju n x H| a xs=>exact λx b=>gn (λx H=>ju n x H) xs H x b
 |_=>trivial
theorem pJ(n:Nat):∀(b:List V) (H:aj),iB H (b.foldl (Qf n) H)
 |[],H=>iB.refl H| v::b,H=>(XB n v H).trans (pJ n b _)
theorem tY(n:Nat):∀(b:List V) (H:aj),∀v∈b,nu n (b.foldl (Qf n) H) v
 |u::b,H,v,d=>by
  rcases afZ.1 d with rfl|d
  .exact(EW n v H).le (pJ n b _)
  .exact tY n b _ v d
def FV1(σ:Nat->FuncId)(F:Nat->Nat->Prop)(w:World)(v:V)(u:Value):Prop:=∀X:Wd,X.F=F->X.w=w->iS σ X v u
def FV(σ:Nat->FuncId)(F:Nat->Nat->Prop)(w:World)(v:V)(u:Value):Prop:=∀X:Wd,X.F=F->X.w=w->VR σ X v u
theorem Ta(z:SR Q σ X)(q:FL X){H:aj}(s:dv H X.H){n:Nat}{v F:V}{u:Value}(d:bX n H v=aa F)(A:nu n H v)(B:iS σ X v u):FV1 σ X.F X.w F u:=by
 intro Z g j;cases v with
 |c x=>
  simp only[bX,afF]at d;obtain⟨y,m,rfl⟩:=d;have:=YM z q s n m A B;rw[<-g,<-j]at this;exact this
 |a xs=>
  simp only[bX,afF]at d;obtain⟨ys,b,rfl⟩:=d;obtain⟨us,rfl,l⟩:=B;have b:=gS b;refine⟨us,rfl,A2.map ⟨by rw[<-l.len,b.len],λi y u m I=>?_⟩⟩;have hi:i<xs.length:=by rw[b.len];exact(afD.1 m).1
  have E:=afB hi;have:=YM z q s n (b.2 i _ _ E m) (A _ (afH hi)) (l.2 i _ _ E I);rw[<-g,<-j]at this;exact this
 |top=>simp[bX]at d| t J=>simp[bX]at d
def bB.full:bB->bB
 | .box cs fl=>.box cs (Nat.max fl cs.length)| .ct s cs fl e st=>.ct s cs (Nat.max fl cs.length) e st| b=>b
theorem AG(H:aj):iB H (H.map bB.full):=by
 refine⟨by simp,λb x y g d=>?_⟩;rw[agl,g]at d;simp only[agv,At]at d;subst d;cases x<;>simp[dz,bB.full,agf]
theorem im:∀(n:Nat) {H:aj} {x:C} {y:FC},eg n H x=aa y->dU n (H.map bB.full) x
 |n,H,.f _,y,_=>by cases n<;>trivial
 |0,H,.ptr _ _ _,y,_=>trivial| 0,H,.sl _ _ _ _ _ _,y,_=>trivial| 0,H,.cl _ _,y,_=>trivial| 0,H,.yl _,y,_=>trivial| 0,H,.mp _,y,_=>trivial| 0,H,.it _,y,_=>trivial| 0,H,.bm _ _,y,_=>trivial| 0,H,.mi _,y,_=>trivial
 |n+1,H,.ptr b off ep,y,d=>by
  intro cs fl j;rw[agl]at j;simp only[eg]at d;split at d
  .rename_i cs' u g;rw[g]at j;simp only[agv,At,bB.full,bB.box.injEq]at j;obtain⟨rfl,rfl⟩:=j;simp only[afF]at d;obtain⟨ys,m,rfl⟩:=d;refine⟨af8 _ _,λx v=>?_⟩;obtain⟨i,hi⟩:=agG v;obtain⟨y,_,z⟩:=(gS m).get hi;exact im n z
  .simp at d
 |n+1,H,.sl b o l c ep sz,y,d=>by
  intro bz j;rw[agl]at j;simp only[eg]at d;split at d
  .rename_i cs' u g;rw[g]at j;simp only[agv,At,bB.full]at j;subst j;split at d
   .rename_i q;simp only[afF]at d;obtain⟨ys,m,rfl⟩:=d;refine⟨af1 q (af8 _ _),λx v=>?_⟩;obtain⟨i,hi⟩:=agG v;obtain⟨y,_,z⟩:=(gS m).get hi;exact im n z
   .simp at d
  .rename_i s cs' u e g;rw[g]at j;simp only[agv,At,bB.full]at j;subst j;split at d
   .rename_i q;simp only[afF]at d;obtain⟨ys,m,rfl⟩:=d;refine⟨af1 q.2.2 (af8 _ _),λx v=>?_⟩;obtain⟨i,hi⟩:=agG v;obtain⟨y,_,z⟩:=(gS m).get hi;exact im n z
   .simp at d
  .rename_i s cs' u e g;rw[g]at j;simp only[agv,At,bB.full]at j;subst j;trivial
  .rename_i s cs' u e g;rw[g]at j;simp only[agv,At,bB.full]at j;subst j;trivial
  .simp at d
 |n+1,H,.cl f A,y,d=>by
  simp only[eg,afF]at d;obtain⟨ys,m,rfl⟩:=d;intro x v;obtain⟨i,hi⟩:=agG v;obtain⟨y,_,z⟩:=(gS m).get hi;exact im n z
 |n+1,H,.yl _,y,d=>trivial| n+1,H,.mp _,y,d=>trivial| n+1,H,.it _,y,d=>trivial| n+1,H,.bm _ _,y,d=>trivial| n+1,H,.mi _,y,d=>trivial
theorem AH{n:Nat}{H:aj}{v l:V}(b:bX n H v=aa l):nu n (H.map bB.full) v:=by
 cases v with
 |c x=>
  simp only[bX,afF]at b;obtain⟨y,d,rfl⟩:=b;exact im n d
 |a xs=>
  simp only[bX,afF]at b;obtain⟨ys,g,rfl⟩:=b;intro x j;obtain⟨i,hi⟩:=agG j;obtain⟨y,_,d⟩:=(gS g).get hi;exact im n d
 |_=>trivial
def Wd.inner(X:Wd):Wd:=⟨λ_=>ab,X.F,[],X.w,X.w.heap.size⟩
theorem SR.inner(d:SR Q σ X):SR Q σ X.inner:=⟨λb L h=>by simp[Wd.inner]at h,λb j L g h=>by simp[Wd.inner]at h,d.fb⟩
def Wd.lO(Y:Wd):Wd:=Wd.flag { Y with H:=Y.H.map bB.full }
theorem SR.lO{Y:Wd}(b:SR Q σ Y):SR Q σ Y.lO/\Ext Y.H.length Y Y.lO/\FL Y.lO:=by
 obtain⟨h1,h2⟩:=SR.ahead b (AG Y.H).ext;obtain⟨h3,h4,h5⟩:=SR.flag h1;exact⟨h3,h2.trans (h4.mono (by simp)),h5⟩
theorem Ew{Y:Wd}(J:SR Q σ Y){n:Nat}{v g:V}{u:Value}(b:fC n Y.H v=aa g)(A:VR σ Y v u):FV σ Y.lO.F Y.w g u:=by
 obtain⟨F,H,I⟩:=SR.lO J;have m:=VR.ext' σ H A;have q:∀{v g:V} {u:Value},bX n Y.H v=aa g->iS σ Y.lO v u->FV1 σ Y.lO.F Y.w g u:=by
  intro v g u b A;have z:bX n Y.lO.H v=aa g:=by
   show bX n (Y.H.map bB.full) v=aa g;cases v with
   |c x=>simp only[bX]at b ⊢;rw[oI n (AG Y.H)];exact b| a xs=>simp only[bX]at b ⊢;rw[fV (λx _=>oI n (AG Y.H) x)];exact b
   |_=>simp[bX]at b
  exact Ta F I (dv.refl _) z (AH b) A
 intro Z j l;cases v with
 |t L=>
  simp only[fC,afF]at b;obtain⟨M,d,rfl⟩:=b;obtain⟨us,rfl,s⟩:=m;have d:=gS d;refine⟨us,rfl,by rw[<-s.len,d.len],λi y u E K=>?_⟩;have hi:i<L.length:=by rw[d.len];exact(afD.1 E).1
  have B:=afB hi;exact q (d.2 i _ _ B E) (s.2 i _ _ B K) Z j l
 |c x=>exact VR.Qg σ (q (v:=.c x) b m Z j l)| a xs=>exact VR.Qg σ (q (v:=.a xs) b m Z j l)| top=>simp[fC,bX]at b
theorem SR.outer(s:SR Q σ X)(v:X.B<=X.w.heap.size){Y:Wd}(u:SR Q σ Y)(d:Ext 0 X.inner Y) :
  SR Q σ { X with F:=Y.lO.F,w:=Y.w }/\Ext X.H.length X { X with F:=Y.lO.F,w:=Y.w }/\X.B<=Y.w.heap.size:=by
 obtain⟨h1,h2,h3⟩:=SR.lO u;have oe:X.w.heap.size<=Y.w.heap.size:=d.size;have g:∀k,k<X.w.heap.size->Y.w.heap[k]?=X.w.heap[k]?:=λk q=>d.frame k q (λb L h=>by simp[Wd.inner]at h);have l:∀c i,Y.lO.F c i->X.F c i\/X.w.heap.size<=c:=by
  intro c i h;rcases h2.re c i h with h|h|⟨b,L,m,rfl⟩
  .rcases d.re c i h with h|h|⟨b,L,m,_⟩
   .exact .inl h
   .exact .inr h
   .simp[Wd.inner]at m
  .exact .inr (af1 oe h)
  .have:=(u.br b L m).1;rw[d.B]at this;exact .inr this
 have j:Ext X.H.length X { X with F:=Y.lO.F,w:=Y.w }:=
  {B:=rfl,F:=λc i h=>h2.F c i (d.F c i h)
   re:=λc i h=>(l c i h).elim .inl λh=>.inr (.inl h)
   fw:=λc i h=>d.fw c i h
   cZ:=λb _ bz m=>⟨bz,m,by cases bz<;>simp⟩
   yZ:=λb L h=>.inl ⟨b,L,h,rfl⟩,size:=oe,os:=d.os,tape:=d.tape,output:=d.output,frame:=λk q _=>g k q }
 refine⟨⟨λb L m=>?_,s.inj,λc i h=>h1.fb c i h⟩,j,af1 v oe⟩;obtain⟨g1,g2,bz,g3,g4⟩:=s.br b L m;refine⟨g1,af9 g2 oe,bz,g3,BR.ext Q σ j (g _ g2) (λi h=>?_) g4⟩;rcases l _ _ h with h|h
 .exact h
 .omega
end
section
variable{Q:Program}{σ:Nat->FuncId}{X:Wd}
def oz(Q:Program)(σ:Nat->FuncId)(X:Wd)(v:V)(H':aj)(X':Wd)(u:Value):Prop:=
 X'.H=H'/\SR Q σ X'/\VR σ X' v u/\Ext X.H.length X X'/\X'.B<=X'.w.heap.size
def qP(b:CallKind)(cs:List Frame):Prop:=b=.normal\/(b=.deferred/\∃c rest,cs=c::rest/\c.mode=.returning)
def kY(b:Frame)(cs:List Frame):Prop:=qP b.kind cs
theorem qP.JN{fr:Frame}{cs:List Frame}(h:qP fr.kind cs):tryRecover fr cs=ab:=by
 unfold tryRecover;rcases h with h|⟨h,c,rest,rfl,b⟩
 .rw[h]
 .rw[h];simp[b]
def Leaves(Q:Program)(f:FuncId)(d:CallKind)(b:Frame)(u:Value)(w:World):Prop:=
 b.mode=.returning/\b.defers=[]/\b.kind=d/\b.fn=f/\∃fn,Q.funcs[f]?=aa fn/\(Go.results fn b.tmps).run Q w=.ok u w
structure fS(Q:Program)(σ:Nat->FuncId)(call:cU):Prop where
 enters:∀f args H r,call (.fn f) args H=aa r->∀as w,(callFunc (σ f) as).run Q w=.ok (.enter (σ f) as) w
 fn:∀f args H r H',call (.fn f) args H=aa (r,H')->∀(X:Wd) us kind cs,X.H=H->SR Q σ X->X.B<=X.w.heap.size->A2 (VR σ X) args us->qP kind cs->kind=.normal\/f≠gk->
  ∃fr X' u,Steps Q (lone (Frame.enter Q (σ f) us.toArray kind) cs X.w) (lone fr cs X'.w)/\Leaves Q (σ f) kind fr u X'.w/\oz Q σ X r H' X' u
 yield:∀b args H r H',call (.yield b) args H=aa (r,H')->∀(X:Wd) us c cs L,X.H=H->SR Q σ X->X.B<=X.w.heap.size->A2 (VR σ X) args us->X.cI b=aa L->
  ∃f tmps as bd X' u,(Instr.yield L.c us.toArray).run Q X.w=.ok (.round L.c f tmps as bd) X.w/\
   Steps Q (lone (Frame.round L.c f tmps as bd .normal) (c::cs) X.w) (lone (c.finish u) cs X'.w)/\oz Q σ X r H' X' u
def dh(Q:Program)(σ:Nat->FuncId)(X:Wd)(o:Oper)(a:Act)(v:V)(H':aj):Prop:=
 ∀(b:Frame) (ops:Array Oper) (i:Nat) (rest:List Nat) (k:List Item) (cs:List Frame),ops[i]?=aa o->Region.wanted o (yielded ops a.tmps)=ae->kY b cs->
  ∃X' u,Steps Q (lone (b.atR a (.inRegion ops (i::rest)::k)) cs X.w) (lone (b.atR (a.put o.dst u) (.inRegion ops rest::k)) cs X'.w)/\oz Q σ X v H' X' u
theorem dh.abd{o:Oper}{a:Act}{v:V}{H':aj}(j:∀c,o.op≠.defer c)(h:iX Q σ X v H' (execOp a.eval o)):dh Q σ X o a v H':=by
 intro b ops i rest k cs ho l m;obtain⟨u,X',d,h1,h2,h3,h4,h5⟩:=h;refine⟨X',u,.one (step_lone_go ?_),h1,h2,h3,h4,h5⟩;rw[stepGR_op ho l,Oper.semAt_eq _ _ _ j];have g:=Frame.finish_atR b a ops i rest k u;rw[ho]at g;simp only[agr]at g;rw[<-g];rcases d with d|⟨d,rfl⟩<;>simp[stepG.apply,Sem.runT_eq,d]
theorem dh.wx{o:Oper}{a:Act}{v:V}{H':aj}(j:∀c,o.op≠.defer c){f:FuncId}{us:Array Value}(g:(execOp a.eval o).run Q X.w=.ok (.enter f us) X.w)
  (h:∀cs,∃fr X' u,Steps Q (lone (Frame.enter Q f us .normal) cs X.w) (lone fr cs X'.w)/\Leaves Q f .normal fr u X'.w/\oz Q σ X v H' X' u):dh Q σ X o a v H':=by
 intro b ops i rest k cs ho l z;obtain⟨fr,X',u,h1,⟨l1,m,q,s,fn,x,y⟩,h3⟩:=h (b.atR a (.inRegion ops (i::rest)::k)::cs);refine⟨X',u,.head (step_lone_go (fr':=Frame.enter Q f us .normal) (cs':=b.atR a (.inRegion ops (i::rest)::k)::cs) (w':=X.w) ?_) (h1.trans (.one ?_)),h3⟩
 .rw[stepGR_op ho l,Oper.semAt_eq _ _ _ j];simp[stepG.apply,Sem.runT_eq,g,Frame.atR]
 .have d:=Frame.finish_atR b a ops i rest k u;rw[ho]at d;simp only[agr]at d;rw[<-d];exact step_leave_returned ⟨l1,m,q,fn,by rw[s];exact x,y⟩
theorem dh.OF{o:Oper}{a:Act}{v:V}{H':aj}(j:∀c,o.op≠.defer c){l:Nat}{f:FuncId}{tmps:Array Value}{as bd:Code}(g:(execOp a.eval o).run Q X.w=.ok (.round l f tmps as bd) X.w)
  (h:∀c cs,∃X' u,Steps Q (lone (Frame.round l f tmps as bd .normal) (c::cs) X.w) (lone (c.finish u) cs X'.w)/\oz Q σ X v H' X' u):dh Q σ X o a v H':=by
 intro b ops i rest k cs ho m q;obtain⟨X',u,h1,h3⟩:=h (b.atR a (.inRegion ops (i::rest)::k)) cs;refine⟨X',u,.head (step_lone_go (fr':=Frame.round l f tmps as bd .normal) (cs':=b.atR a (.inRegion ops (i::rest)::k)::cs) (w':=X.w) ?_) ?_,h3⟩
 .rw[stepGR_op ho m,Oper.semAt_eq _ _ _ j];simp[stepG.apply,Sem.runT_eq,g,Frame.atR]
 .have d:=Frame.finish_atR b a ops i rest k u;rw[ho]at d;simp only[agr]at d;rw[<-d];exact h1
theorem qF{x:V}{u:Value}{args:List V}{us:List Value}{c:Callee}{d:List V}(j:cL x args=aa (c,d))(l:VR σ X x u)(q:A2 (VR σ X) args us) :
  match c with
  | .fn f=>∃fst cap:List Value,u=.func (.func (σ f)) fst.toArray cap.toArray/\A2 (VR σ X) d (fst++us++cap)| .yield b=>d=args/\∃L,X.cI b=aa L/\u=.func (.yield L.c) #[] #[]:=by
 unfold cL at j;split at j
 .rename_i f m;cases j;cases l with
  |fn _ _ cap y z=>
   refine⟨[],cap,rfl,q.append (A2.map ⟨y.symm,λi x u l A=>?_⟩)⟩;exact z i x u l A
 .rename_i f m;cases j;obtain⟨cap,rfl,g⟩:=l;exact⟨[],cap,rfl,q.append (A2.map (g.nm λx u h=>CR.Qg σ h))⟩
 .rename_i b;cases j;obtain⟨L,v,_,rfl⟩:=l;exact⟨rfl,L,v,rfl⟩
 .rename_i f first
  cases j;obtain⟨cap,rfl,g⟩:=l;have s:A2 (VR σ X) (first.map .c) cap:=A2.map (g.nm λx u h=>CR.Qg σ h);exact⟨cap,[],rfl,by simpa using s.append q⟩
 .simp at j
theorem ka{a:Act}{o:Oper}{cl:Call}{y:Operand}(b:o.op=.call cl)(g:cl.callee=.value y){w:World}{fn:Fn}{fst cap:Array Value}(d:a.eval y=.func fn fst cap) :
  (execOp a.eval o).run Q w=(invoke (.fn fn cap) (fst++cl.args.map a.eval)).run Q w:=by
 simp only[execOp,b,resolve,g,d,Deferred.ofValue,Sem.run_bind,Sem.run_pure,Result.andThen_ok]
theorem fJ{f:FuncId}{cap as:Array Value}{w:World}(h:∀as w,(callFunc f as).run Q w=.ok (.enter f as) w):(invoke (.fn (.func f) cap) as).run Q w=.ok (.enter f (as++cap)) w:=by
 simp only[invoke];exact h _ _
end
section
variable{Q:Program}{σ:Nat->FuncId}{X:Wd}{call:cU}
theorem Q9{n:Nat}{H H':aj}(h:iB H H')(v:V):bX n H' v=bX n H v:=by
 cases v with
 |c x=>simp only[bX,oI n h]| a xs=>simp only[bX,fV (λx _=>oI n h x)]
 |_=>rfl
theorem A4(K:fS Q σ call)(hS:SR Q σ X)(hB:X.B<=X.w.heap.size){f:Nat}{args:List V}{us:List Value}{H H':aj}{r':V}(g:eQ call f args H=aa (r',H'))(hH:dv H' X.H)(L:A2 (VR σ X) args us)(cs:List Frame) :
  (∀as w,(callFunc (σ f) as).run Q w=.ok (.enter (σ f) as) w)/\
  ∃l X' u,Steps Q (lone (Frame.enter Q (σ f) us.toArray .normal) cs X.w) (lone l cs X'.w)/\Leaves Q (σ f) .normal l u X'.w/\oz Q σ X r' X.H X' u/\X'.cI=X.cI:=by
 unfold eQ at g;split at g
 .simp at g
 .rename_i s d;split at g
  .simp at g
  .rename_i r S b;split at g
   .simp at g
   .rename_i a8 M;simp only[At,afG]at g;obtain⟨rfl,rfl⟩:=g;have A:=pJ deep args H;have B:=tY deep args H;obtain⟨v,J,h3⟩:=SR.flag hS;have d:=gS d;have z:A2 (VR σ X.flag.inner) s us:=by
     refine⟨by rw[<-d.len];exact L.len,λi y u O hu=>?_⟩;have hi:i<args.length:=by rw[d.len];exact(afD.1 O).1
     have N:=afB hi;have m:bX deep H args[i]=aa y:=d.2 i _ _ N O;have q:=VR.ext' σ J (L.2 i _ _ N hu);rw[<-Q9 A]at m;have E:iS σ X.flag args[i] u:=by
      cases j:args[i]with
      |c x=>rw[j]at q;exact q| a xs=>rw[j]at q;exact q| top=>trivial| t vs=>rw[j]at m;simp[bX]at m
     exact VR.Qg σ (Ta v h3 hH m (B _ (afH hi)) E X.flag.inner rfl rfl)
    obtain⟨l,Y,u,U,W,Z,I,g5,g6,g7⟩:=K.fn f s [] r S b X.flag.inner us .normal cs rfl (SR.inner v) (afJ _) z (.inl rfl) (.inl rfl);obtain⟨k1,k2,k3⟩:=SR.outer v hB I g6;refine⟨K.enters f s [] _ b,l,{ X.flag with F:=Y.lO.F,w:=Y.w },u,U,W,⟨rfl,k1,?_,J.trans (k2.mono (afJ _)),k3⟩,rfl⟩;rw[<-Z]at M;exact Ew I M g5 _ rfl rfl
theorem oU{o:Oper}{f:Nat}{xs:List Arg}{h:Bool}(b:dZ Q σ o (.call f xs h)=ae):∃c,o.op=.call c/\c.callee=.value (.func (σ f))/\Qe σ xs c.args=ae:=by
 simp only[dZ]at b;split at b
 .rename_i c j;simp only[eh]at b;split at b
  .rename_i g d;simp only[afE,beq_iff_eq]at b;exact⟨c,j,by rw[d,b.1],b.2⟩
  .simp at b
 .simp at b
theorem AY{o:Oper}{x:Arg}{xs:List Arg}{h:Bool}(b:dZ Q σ o (.gN x xs h)=ae):∃c y,o.op=.call c/\c.callee=.value y/\mA σ x y=ae/\Qe σ xs c.args=ae:=by
 simp only[dZ]at b;split at b
 .rename_i c d;simp only[eh]at b;split at b
  .rename_i y g;simp only[afE]at b;exact⟨c,y,d,g,b.1,b.2⟩
  .simp at b
 .simp at b
theorem nf{o:Oper}{c:Call}(h:o.op=.call c):∀c,o.op≠.defer c:=λb e=>by rw[h]at e;cases e
theorem BJ(l:fS Q σ call)(q:SR Q σ X)(j:X.B<=X.w.heap.size){a:Act}{aF:T}(E:RR σ X aF a.tmps){o:Oper}{f:Nat}{xs:List Arg}{h:Bool}(I:dZ Q σ o (.call f xs h)=ae)
  {H H':aj} {v:V} (y:eQ call f (dH aF xs) H=aa (v,H')) (m:dv H' X.H):dh Q σ X o a v X.H:=by
 obtain⟨c,x,F,d⟩:=oU I;have s:=oO E d;have b:=(A4 l q j y m s []).1;refine dh.wx (nf x) (f:=σ f) (us:=c.args.map a.eval) ?_ λcs=>?_
 .rw[ka x F (fn:=.func (σ f)) (fst:=#[]) (cap:=#[]) rfl,fJ b];simp
 .obtain⟨_,z,X',u,g,A,B,_⟩:=A4 l q j y m s cs;exact⟨z,X',u,by rw[Array.toArray_toList]at g;exact g,A,B⟩
theorem Ar(A:fS Q σ call)(F:SR Q σ X)(z:X.B<=X.w.heap.size){a:Act}{aF:T}(E:RR σ X aF a.tmps){o:Oper}{f:Nat}{xs:List Arg}{h:Bool}(K:dZ Q σ o (.call f xs h)=ae)
  {H H':aj} {v:V} (L:eQ call f (dH aF xs) H=aa (v,H')) (B:dv H' X.H)
  (b:Frame) (ops:Array Oper) (i:Nat) (rest:List Nat) (k:List Item) (cs:List Frame) (g:ops[i]?=aa o) (M:Region.wanted o (yielded ops a.tmps)=ae) :
  ∃X' u,Steps Q (lone (b.atR a (.inRegion ops (i::rest)::k)) cs X.w) (lone (b.atR (a.put o.dst u) (.inRegion ops rest::k)) cs X'.w)/\oz Q σ X v X.H X' u/\X'.cI=X.cI:=by
 obtain⟨c,s,J,m⟩:=oU K;have I:=oO E m;obtain⟨l,Z,X',u,q,⟨N,O,S,U,fn,W,Y⟩,x,y⟩:=A4 A F z L B I (b.atR a (.inRegion ops (i::rest)::k)::cs);rw[Array.toArray_toList]at q;have j:(execOp a.eval o).run Q X.w=.ok (.enter (σ f) (c.args.map a.eval)) X.w:=by
  rw[ka s J (fn:=.func (σ f)) (fst:=#[]) (cap:=#[]) rfl,fJ l];simp
 refine⟨X',u,.head (step_lone_go (fr':=Frame.enter Q (σ f) (c.args.map a.eval) .normal) (cs':=b.atR a (.inRegion ops (i::rest)::k)::cs) (w':=X.w) ?_) (q.trans (.one ?_)),x,y⟩
 .rw[stepGR_op g M,Oper.semAt_eq _ _ _ (nf s)];simp[stepG.apply,Sem.runT_eq,j,Frame.atR]
 .have d:=Frame.finish_atR b a ops i rest k u;rw[g]at d;simp only[agr]at d;rw[<-d];exact step_leave_returned ⟨N,O,S,fn,by rw[U];exact W,Y⟩
theorem BI(j:fS Q σ call)(A:SR Q σ X)(y:X.B<=X.w.heap.size){a:Act}{aF:T}(z:RR σ X aF a.tmps){o:Oper}{f:Nat}{xs:List Arg}{h:Bool}(F:dZ Q σ o (.call f xs h)=ae)
  {H':aj} {v:V} (m:call (.fn f) (dH aF xs) X.H=aa (v,H')):dh Q σ X o a v H':=by
 obtain⟨c,l,E,d⟩:=oU F;have B:=oO z d;have b:=j.enters _ _ _ _ m;refine dh.wx (nf l) (f:=σ f) (us:=c.args.map a.eval) ?_ λcs=>?_
 .rw[ka l E (fn:=.func (σ f)) (fst:=#[]) (cap:=#[]) rfl,fJ b];simp
 .obtain⟨q,X',u,g,s,x⟩:=j.fn _ _ _ _ _ m X _ .normal cs rfl A y B (.inl rfl) (.inl rfl);exact⟨q,X',u,by rw[Array.toArray_toList]at g;exact g,s,x⟩
theorem Nn(A:fS Q σ call)(M:SR Q σ X)(J:X.B<=X.w.heap.size){a:Act}{aF:T}(K:RR σ X aF a.tmps){o:Oper}{x:Arg}{xs:List Arg}{h:Bool}(hm:dZ Q σ o (.gN x xs h)=ae)
  {H':aj} {v:V} {c:Callee} {args:List V} (m:cL (x.ev aF) (dH aF xs)=aa (c,args)) (E:call c args X.H=aa (v,H')):dh Q σ X o a v H':=by
 obtain⟨cl,y,s,O,hy,H⟩:=AY hm;have N:=oO K H;have S:=qF m (cf K hy) N;cases c with
 |fn f=>
  obtain⟨fst,cap,j,F⟩:=S;have B:=A.enters _ _ _ _ E;refine dh.wx (nf s) (f:=σ f) (us:=fst.toArray++cl.args.map a.eval++cap.toArray) ?_ λcs=>?_
  .rw[ka s O j,fJ B]
  .obtain⟨W,X',u,q,z,Y⟩:=A.fn _ _ _ _ _ E X _ .normal cs rfl M J F (.inl rfl) (.inl rfl);refine⟨W,X',u,?_,z,Y⟩;have e:(fst++(cl.args.map a.eval).toList++cap).toArray=fst.toArray++cl.args.map a.eval++cap.toArray:=by simp
   rw[e]at q;exact q
 |yield b=>
  obtain⟨rfl,L,Z,j⟩:=S;have key:=λc cs=>A.yield b _ _ _ _ E X _ c cs L rfl M J N Z;obtain⟨f,tmps,as,bd,_,_,g,_⟩:=key default [];refine dh.OF (nf s) (l:=L.c) (f:=f) (tmps:=tmps) (as:=as) (bd:=bd) ?_ λc cs=>?_
  .rw[ka s O j,Array.empty_append];rw[Array.toArray_toList]at g;exact g
  .obtain⟨f',I,as',U,X',u,d,q,z⟩:=key c cs;rw[g]at d;simp only[Result.ok.injEq,Next.round.injEq,true_and,and_true]at d;obtain⟨rfl,rfl,rfl,rfl⟩:=d;exact⟨X',u,q,z⟩
end
section
variable{Q:Program}{σ:Nat->FuncId}{X:Wd}{call:cU}
def uV(σ:Nat->FuncId)(X:Wd):dS->Deferred->Prop
 | .iM b,d=>∃L o,X.cI b=aa L/\X.H[b]?=aa (.gI o)/\d = { target:=.collected L.c,args:=#[] }| .fn f args,d=>∃us cap:Array Value,d = { target:=.fn (.func (σ f)) cap,args:=us }/\A2 (VR σ X) args (us.toList++cap.toList)
theorem uV.ej{X X':Wd}(g:q8 X.H.length X X'){x:dS}{d:Deferred}(h:uV σ X x d):uV σ X' x d:=by
 cases x with
 |iM b=>
  obtain⟨L,o,h1,h2,h3⟩:=h;obtain⟨blk',h4,h5⟩:=g.cZ b (afD.1 h2).1 _ h2;cases blk'<;>simp only at h5;exact⟨L,_,h5 L h1,h4,h3⟩
 |fn f args=>
  obtain⟨us,cap,h1,h2⟩:=h;exact⟨us,cap,h1,h2.nm λ_ _ h=>VR.ej σ g h⟩
def gM(σ:Nat->FuncId)(X:Wd)(ds:List dS)(b:List Deferred):Prop:=A2 (uV σ X) ds b
theorem uV.ext'{X X':Wd}(b:Ext X.H.length X X'){x:dS}{d:Deferred}(h:uV σ X x d):uV σ X' x d:=uV.ej b.W h
theorem gM.ej{X X':Wd}(d:q8 X.H.length X X'){ds:List dS}{b:List Deferred}(h:gM σ X ds b):gM σ X' ds b:=h.nm λ_ _ h=>uV.ej d h
theorem gM.ext'{X X':Wd}(d:Ext X.H.length X X'){ds:List dS}{b:List Deferred}(h:gM σ X ds b):gM σ X' ds b:=h.nm λ_ _ h=>uV.ext' d h
def rh(Q:Program)(σ:Nat->FuncId)(X:Wd)(o:Oper)(a:Act)(ok:Frame->Prop)(v:V)(H':aj)(ds:List dS):Prop:=
 ∀(b:Frame) (ops:Array Oper) (i:Nat) (rest:List Nat) (k:List Item) (cs:List Frame),ops[i]?=aa o->Region.wanted o (yielded ops a.tmps)=ae->kY b cs->ok b->
  ∃(X':Wd) (u:Value) (a':Act),Steps Q (lone (b.atR a (.inRegion ops (i::rest)::k)) cs X.w) (lone (b.atR (a'.put o.dst u) (.inRegion ops rest::k)) cs X'.w)/\oz Q σ X v H' X' u/\a'.tmps=a.tmps/\gM σ X' ds a'.defers
theorem dh.P6{o:Oper}{a:Act}{v:V}{H':aj}(h:dh Q σ X o a v H'){ds:List dS}(d:gM σ X ds a.defers){ok:Frame->Prop}:rh Q σ X o a ok v H' ds:=by
 intro b ops i rest k cs ho j g _;obtain⟨X',u,h1,h2⟩:=h b ops i rest k cs ho j g;exact⟨X',u,a,h1,h2,rfl,d.ext' h2.2.2.2.1⟩
theorem dh.ahead(j:SR Q σ X){d H':aj}(g:dv X.H d){o:Oper}{a:Act}{v:V}(h:dh Q σ { X with H:=d } o a v H'):dh Q σ X o a v H':=by
 intro b ops i rest k cs ho m l;obtain⟨X',u,h1,h2,h3,h4,h5,h6⟩:=h b ops i rest k cs ho m l;exact⟨X',u,h1,h2,h3,h4,(SR.ahead j g).2.trans (h5.mono g.len),h6⟩
def iH(op:dd)(b:Frame):Prop:=b.roundOf=ab\/op.dB=ae
theorem Ff(y:SR Q σ X)(x:X.B<=X.w.heap.size){a:Act}{o:Oper}(g:dZ Q σ o .recover=ae){ds:List dS}(z:gM σ X ds a.defers):rh Q σ X o a (iH .recover) (.c (.f .oi)) X.H ds:=by
 intro b ops i rest k cs v B A q;have q:b.roundOf=ab:=q.elim id λh=>by simp[dd.dB]at h
 simp only[dZ]at g;split at g
 .rename_i c u;simp only[eh]at g;split at g
  .rename_i j;have l:(execOp a.eval o).run Q X.w=.ok .recover X.w:=by
    simp[execOp,u,resolve,j,invoke,builtin]
   refine⟨X,.nilIface,a,.one (step_lone_go ?_),⟨rfl,y,cX.oi,Ext.refl _ _,x⟩,rfl,z⟩;rw[stepGR_op v B,Oper.semAt_eq _ _ _ (nf u)];have d:=Frame.finish_atR b a ops i rest k .nilIface;rw[v]at d;simp only[agr]at d;rw[<-d];have m:tryRecover (b.atR a (.inRegion ops (i::rest)::k)) cs=ab:=qP.JN A;have s:(b.atR a (.inRegion ops (i::rest)::k)).roundOf=ab:=q;simp[stepG.apply,Sem.runT_eq,l,m,s]
  .simp at g
 .simp at g
theorem NA(A:SR Q σ X)(z:X.B<=X.w.heap.size){a:Act}{aF:T}(u:RR σ X aF a.tmps){o:Oper}{x:Arg}{xs:List Arg}(g:dZ Q σ o (.defer x xs)=ae){ds:List dS}(E:gM σ X ds a.defers)
  {f:Nat} {args:List V} (B:cL (x.ev aF) (dH aF xs)=aa (.fn f,args)):rh Q σ X o a (iH (.defer x xs)) .top X.H (.fn f args::ds):=by
 intro b ops i rest k cs v H J m;have m:b.roundOf=ab:=m.elim id λh=>by simp[dd.dB]at h
 simp only[dZ]at g;split at g
 .rename_i c j;split at g
  .rename_i y I;simp only[afE]at g;have F:=qF B (cf u g.1) (oO u g.2);obtain⟨fst,cap,q,s⟩:=F;have l:(execOp a.eval o).run Q X.w=.ok (.defer { target:=.fn (.func (σ f)) cap.toArray,args:=fst.toArray++c.args.map a.eval }) X.w:=by
    simp[execOp,j,resolve,I,q,Deferred.ofValue]
   refine⟨X,undef,{ a with defers:={ target:=.fn (.func (σ f)) cap.toArray,args:=fst.toArray++c.args.map a.eval }::a.defers },.one (step_lone_go ?_),⟨rfl,A,trivial,Ext.refl _ _,z⟩,rfl,A2.cons ⟨_,_,rfl,by simpa using s⟩ E⟩;rw[stepGR_op v H,m,Oper.semAt_none];have d:=Frame.finish_atR b { a with defers:={ target:=.fn (.func (σ f)) cap.toArray,args:=fst.toArray++c.args.map a.eval }::a.defers } ops i rest k undef;rw[v]at d;simp only[agr]at d;rw[<-d];simp[stepG.apply,Sem.runT_eq,l,Frame.atR]
  .simp at g
 .simp at g
theorem rN{o:Oper}{op:dd}(d:dZ Q σ o op=ae)(g:∀x xs,op≠.defer x xs)(j:op≠.bad):∀c,o.op≠.defer c:=by
 intro c b;cases op
 case pre o sz=>cases o<;>simp[dZ,b]at d
 case defer x xs=>exact g _ _ rfl
 case bad=>exact j rfl
 all_goals simp[dZ,b]at d
theorem Hi(z:fS Q σ call)(g:SR Q σ X)(l:X.B<=X.w.heap.size){a:Act}{s s':St}(m:X.H=s.heap)(q:RR σ X s.aF a.tmps)(u:gM σ X s.defs a.defers){o:Oper}{op:dd}(j:dZ Q σ o op=ae){v:V}
  (h:fH call s op=aa (v,s')):rh Q σ X o a (iH op) v s'.heap s'.defs/\s'.aF=s.aF:=by
 by_cases B:(∃f xs h,op=.call f xs h)\/(∃x xs h,op=.gN x xs h)\/op=.recover\/∃x xs,op=.defer x xs
 .rcases B with⟨f,xs,K,rfl⟩|⟨x,xs,K,rfl⟩|rfl|⟨x,xs,rfl⟩
  .simp only[fH,afF,afG]at h;obtain⟨⟨F,H'⟩,d,rfl,rfl⟩:=h;refine⟨dh.P6 ?_ u,rfl⟩;unfold iI at d;split at d
   .exact BI z g l q j (m▸d)
   .have y:dv X.H H':=by
     have b:=d;unfold eQ at b;split at b
     .simp at b
     .split at b
      .simp at b
      .split at b
       .simp at b
       .simp only[At,afG]at b;rw[<-b.2,m];exact(pJ _ _ _).ext
    obtain⟨I,J⟩:=SR.ahead g y;refine dh.ahead g y ?_;exact BJ z (X:={ X with H:=H' }) I l (q.ext' σ J) j d (dv.refl _)
  .simp only[fH]at h;split at h
   .rename_i c args A;simp only[afF,afG]at h;obtain⟨⟨F,H'⟩,d,rfl,rfl⟩:=h;exact⟨dh.P6 (Nn z g l q j A (m▸d)) u,rfl⟩
   .simp at h
  .simp only[fH,At,afG]at h;obtain⟨rfl,rfl⟩:=h;rw[<-m];exact⟨Ff g l j u,rfl⟩
  .simp only[fH]at h;split at h
   .rename_i f args A;simp only[At,afG]at h;obtain⟨rfl,rfl⟩:=h;refine⟨?_,rfl⟩;rw[<-m];exact NA g l q j u A
   .simp at h
 .have E:(bF s.aF s.heap op).map (λr=>(r.1,{ s with heap:=r.2 }))=aa (v,s'):=by
   cases op<;>first|exact h|(exfalso;apply B;simp)
  simp only[afF,afG]at E;obtain⟨⟨F,H'⟩,d,rfl,rfl⟩:=E;refine⟨dh.P6 (dh.abd (rN j ?_ ?_) (Yx g l q j (m▸d))) u,rfl⟩
  .rintro x xs rfl;exact B (.inr (.inr (.inr ⟨x,xs,rfl⟩)))
  .rintro rfl;simp[bF]at d
end
section
variable{Q:Program}{σ:Nat->FuncId}{X:Wd}{call:cU}
structure Fr(Q:Program)(σ:Nat->FuncId)(n:Nat)(X:Wd)(s:St)(a:Act):Prop where
 heap:X.H=s.heap
 sr:SR Q σ X
 b:X.B<=X.w.heap.size
 aF:RR σ X s.aF a.tmps
 defs:gM σ X s.defs a.defers
 size:n<=a.tmps.size
theorem pR{n:Nat}{ops:Array Oper}{o:Oper}{m:aV}(F:nb Q σ n ops o m=ae){aF:T}{tmps:Array Value}(I:∀p w',m.g=aa (p,w')->VR σ X (aF.get p) (tmps.getD p.toNat undef))(K:n<=tmps.size){w:Bool}(h:wanted aF m.g=aa w) :
  Region.wanted o (yielded ops tmps)=w:=by
 simp only[nb,afE]at F;obtain⟨_,b⟩:=F;unfold Region.wanted;cases x:o.guard with
 |none=>
  rw[x]at b;cases g:m.g with
  |none=>rw[g]at h;simp only[wanted,At]at h;simpa using h| some q=>rw[g]at b;simp at b
 |some L=>
  obtain⟨j,N⟩:=L;rw[x]at b;cases g:m.g with
  |none=>rw[g]at b;simp at b
  |some q=>
   obtain⟨p,w'⟩:=q;rw[g]at b h;simp only[afE,beq_iff_eq]at b;obtain⟨rfl,b⟩:=b;split at b
   .rename_i d J;simp only[afE,beq_iff_eq,decide_eq_true_eq]at b;obtain⟨B,A⟩:=b;have l:=I p _ g;rw[B]at l;have v:d<tmps.size:=af9 A K;have s:tmps.getD d undef=tmps[d]:=by simp[Array.getD,v]
    rw[s]at l;simp only[wanted]at h;simp only[yielded,J,agr,Array.getElem?_eq_getElem v];split at h
    .rename_i H z;rw[z]at l;simp only[At]at h;have y:cX σ X.F X.w (.bool H) tmps[d]:=l;generalize tmps[d]=u at y;cases y;subst h;simp
    .rename_i z;rw[z]at l;obtain⟨us,E,M⟩:=l;simp only[At]at h;subst h;rw[E];simp
    .simp at h
   .simp at b
theorem OY{n:Nat}{ops:Array Oper}{o:Oper}{m:aV}(s:nb Q σ n ops o m=ae){aF:T}{a:Act}(q:RR σ X aF a.tmps)(x:n<=a.tmps.size){v:V}{u:Value}(y:VR σ X v u) :
  RR σ X (lS aF m.dst v) (a.put o.dst u).tmps/\(a.put o.dst u).tmps.size=a.tmps.size/\(a.put o.dst u).defers=a.defers:=by
 simp only[nb,afE]at s;obtain⟨⟨_,b⟩,_⟩:=s;split at b
 .rename_i d p g j;simp only[afE,beq_iff_eq,decide_eq_true_eq]at b;obtain⟨rfl,l⟩:=b;rw[g,j];exact⟨RR.set σ q (af9 l x) y,by simp[Act.put],rfl⟩
 .rename_i g j;rw[g,j];exact⟨q,rfl,rfl⟩
 .simp at b
theorem VR.undef:VR σ X (.t []) undef:=⟨[],rfl,A2.nil⟩
theorem P'(O:fS Q σ call){n:Nat}{s s':St}{a:Act}(d:Fr Q σ n X s a){ops:Array Oper}{o:Oper}{q:aV}(j:nb Q σ n ops o q=ae)(h:gE call s q=aa s')
  {b:Frame} {i:Nat} {rest:List Nat} {k:List Item} {cs:List Frame} (y:ops[i]?=aa o) (S:kY b cs) (U:iH q.op b) :
  ∃X' a',Steps Q (lone (b.atR a (.inRegion ops (i::rest)::k)) cs X.w) (lone (b.atR a' (.inRegion ops rest::k)) cs X'.w)/\Fr Q σ n X' s' a'/\Ext X.H.length X X'/\a'.tmps.size=a.tmps.size:=by
 unfold gE at h;split at h
 .rename_i g;have g:=pR j (λp w' _=>d.aF p) d.size g;split at h
  .rename_i v W L;simp only[At]at h;subst h;have l:dZ Q σ o q.op=ae:=by simp only[nb,afE]at j;exact j.1.1
   obtain⟨M,N⟩:=Hi O d.sr d.b d.heap d.aF d.defs l L;obtain⟨X',u,a',E,⟨F,H,I,B,J⟩,x,K⟩:=M b ops i rest k cs y g S U;obtain⟨z,m,A⟩:=OY j (X:=X') (a:=a') (by rw[x];exact d.aF.ext' σ B) (by rw[x];exact d.size) I;refine⟨X',a'.put o.dst u,E,⟨F,H,J,?_,by rw[A];exact K,by rw[m,x];exact d.size⟩,B,by rw[m,x]⟩;simpa[N]using z
  .simp at h
 .rename_i g;have g:=pR j (λp w' _=>d.aF p) d.size g;simp only[At]at h;subst h;obtain⟨z,m,A⟩:=OY j d.aF d.size (VR.undef (σ:=σ) (X:=X));refine⟨X,a.put o.dst undef,.one ?_,⟨d.heap,d.sr,d.b,z,by rw[A];exact d.defs,by rw[m];exact d.size⟩,Ext.refl _ _,m⟩;have:=stepR_op_skip (P:=Q) (b:=b) (a:=a) (k:=k) (cs:=cs) (w:=X.w) (ops:=ops) (i:=i) (rest:=rest) (by simp[y,g]);rw[y]at this;exact this
 .simp at h
theorem Hl(H:fS Q σ call){n:Nat}{ops:Array Oper}{b:Frame}{k:List Item}{cs:List Frame}(I:kY b cs):∀(aos:List aV) (j:Nat) (X:Wd) (s s':St) (a:Act),Fr Q σ n X s a->
  gd (nb Q σ n ops) (ops.toList.drop j) aos=ae->(∀ao∈aos,iH ao.op b)->gz call aos s=aa s'->
  ∃X' a',Steps Q (lone (b.atR a (.inRegion ops ((List.range ops.size).drop j)::k)) cs X.w) (lone (b.atR a' k) cs X'.w)/\Fr Q σ n X' s' a'/\Ext X.H.length X X'/\a'.tmps.size=a.tmps.size
 |[],j,X,s,s',a,A,d,_,h=>by
  simp only[gz,At]at h;subst h;have S:(List.range ops.size).drop j=[]:=by
   cases g:ops.toList.drop j with
   |nil=>
    have:=ahs.1 g;simp at this;rw[ahs];simpa using this
   |cons x xs=>rw[g]at d;simp[gd]at d
  rw[S];exact⟨X,a,.one stepR_region_end,A,Ext.refl _ _,rfl⟩
 |ao::aos,j,X,s,s',a,A,d,J,h=>by
  cases g:ops.toList.drop j with
  |nil=>rw[g]at d;simp[gd]at d
  |cons o os=>
   rw[g]at d;simp only[gd,afE]at d;have v:j<ops.toList.length:=by
    rcases agq j ops.toList.length with q|q
    .exact q
    .rw[ahs.2 q]at g;simp at g
   have l:=afL v;rw[g]at l;simp only[List.cons.injEq]at l;obtain⟨U,F⟩:=l;simp only[gz]at h;split at h
   .rename_i s1 q;have m:(List.range ops.size).drop j=j ::(List.range ops.size).drop (j+1):=by
     rw[afL (by simpa using v)];simp
    rw[m];obtain⟨y,a1,M,N,z,O⟩:=P' H A d.1 q (b:=b) (i:=j) (rest:=(List.range ops.size).drop (j+1)) (k:=k) (cs:=cs) (by simp at v;simp[v,U]) I (J _ (by simp));obtain⟨K,L,W,Y,Z,k4⟩:=Hl H I aos (j+1) y s1 s' a1 N (by rw[<-F];exact d.2) (λao h=>J ao (by simp[h])) h;refine⟨K,L,M.trans W,Y,z.trans (Z.mono ?_),k4.trans O⟩;have:=z.cZ;rcases agq y.H.length X.H.length with u|E
    .obtain⟨blk',B,_⟩:=z.cZ y.H.length u _ (afB u);have:=(afD.1 B).1;omega
    .exact E
   .simp at h
end
theorem mS{r r':T}{x:Arg}(h:∀p∈x.rd,r.get p=r'.get p):x.ev r=x.ev r':=by
 cases x with
 |r p=>exact h p (by simp[Arg.rd])
 |k v=>rfl
theorem JQ{r r':T}{x:Option Arg}(h:∀p∈XL x,r.get p=r'.get p):x.map (·.ev r)=x.map (·.ev r'):=by
 cases x with
 |none=>rfl| some x=>simp only[agv];rw[mS h]
theorem ij{r r':T}{xs:List Arg}(h:∀p∈xs.flatMap Arg.rd,r.get p=r'.get p):dH r xs=dH r' xs:=by
 unfold dH;refine List.map_congr_left λx d=>mS λp b=>h p (agE.2 ⟨x,d,b⟩)
theorem lk{r r':T}:∀(ps:List (Nat × Nat × Arg)) (cs:List C),(∀p∈ps.flatMap (λq=>q.2.2.rd),r.get p=r'.get p)->dO r cs ps=dO r' cs ps
 |[],cs,_=>rfl
 |(off,n,x)::ps,cs,h=>by
  simp only[dO];rw[mS (x:=x) (r:=r) (r':=r') λp b=>h p (by simp[b])];split
  .split
   .exact lk ps _ λp b=>h p (by simp only[List.flatMap_cons,afY];exact .inr b)
   .rfl
  .rfl
theorem FJ{r r':T}{H:aj}{op:dd}(h:∀p∈op.rd,r.get p=r'.get p):bF r H op=bF r' H op:=by
 have e:∀x:Arg,(∀p∈x.rd,p∈op.rd)->x.ev r=x.ev r':=λx A=>mS λp d=>h p (A p d);have g:∀x:Option Arg,(∀p∈XL x,p∈op.rd)->x.map (·.ev r)=x.map (·.ev r'):=λx A=>JQ λp d=>h p (A p d);cases op
 case build zs ps=>simp only[bF];rw[lk ps _ h]
 case dX sz zs n ps=>
  simp only[bF];rw[lk (r:=r) (r':=r') (ps.map λp=>(p.1*sz,sz,p.2)) _ λp d=>h p (by
   simp only[agE,af6]at d;obtain⟨q,⟨q',j,rfl⟩,u⟩:=d;exact agE.2 ⟨q',j,u⟩)]
 case ib sz zs n ps=>
  simp only[bF];rw[lk (r:=r) (r':=r') (ps.map λp=>(p.1*sz,sz,p.2)) _ λp d=>h p (by
   simp only[agE,af6]at d;obtain⟨q,⟨q',j,rfl⟩,u⟩:=d;exact agE.2 ⟨q',j,u⟩)]
 case tt f xs=>simp only[bF];rw[ij h]
 case pick c a b=>
  simp only[bF];rw[e c (by simp +contextual [dd.rd])];split
  .rename_i v _;cases v<;>simp[e a (by simp +contextual [dd.rd]),e b (by simp +contextual [dd.rd])]
  .rfl
 case slice sz x lo hi mx=>simp only[bF];rw[e x (by simp +contextual [dd.rd]),g lo (by simp +contextual [dd.rd]),g hi (by simp +contextual [dd.rd]),g mx (by simp +contextual [dd.rd])]
 case pc n sz x lo hi mx=>simp only[bF];rw[e x (by simp +contextual [dd.rd]),g lo (by simp +contextual [dd.rd]),g hi (by simp +contextual [dd.rd]),g mx (by simp +contextual [dd.rd])]
 case qo x lo hi=>simp only[bF];rw[e x (by simp +contextual [dd.rd]),g lo (by simp +contextual [dd.rd]),g hi (by simp +contextual [dd.rd])]
 case mq B m k v=>simp only[bF];rw[e m (by simp +contextual [dd.rd]),e k (by simp +contextual [dd.rd]),e v (by simp +contextual [dd.rd])]
 case dr x=>simp only[bF];rw[e x (by simp +contextual [dd.rd])]
 case box x=>simp only[bF];rw[e x (by simp +contextual [dd.rd])]
 case load n x=>simp only[bF];rw[e x (by simp +contextual [dd.rd])]
 case jx x=>simp only[bF];rw[e x (by simp +contextual [dd.rd])]
 case un o x=>simp only[bF];rw[e x (by simp +contextual [dd.rd])]
 case I' k x=>simp only[bF];rw[e x (by simp +contextual [dd.rd])]
 case xC x=>simp only[bF];rw[e x (by simp +contextual [dd.rd])]
 case xB x=>simp only[bF];rw[e x (by simp +contextual [dd.rd])]
 case Ej x=>simp only[bF];rw[e x (by simp +contextual [dd.rd])]
 case fL o x=>simp only[bF];rw[e x (by simp +contextual [dd.rd])]
 case field o n x=>simp only[bF];rw[e x (by simp +contextual [dd.rd])]
 case range x=>simp only[bF];rw[e x (by simp +contextual [dd.rd])]
 case next x=>simp only[bF];rw[e x (by simp +contextual [dd.rd])]
 case extract x i=>simp only[bF];rw[e x (by simp +contextual [dd.rd])]
 case len x=>simp only[bF];rw[e x (by simp +contextual [dd.rd])]
 case lens x=>simp only[bF];rw[e x (by simp +contextual [dd.rd])]
 case cap x=>simp only[bF];rw[e x (by simp +contextual [dd.rd])]
 case entry x=>simp only[bF];rw[e x (by simp +contextual [dd.rd])]
 case mF x=>simp only[bF];rw[e x (by simp +contextual [dd.rd])]
 case qi x=>simp only[bF];rw[e x (by simp +contextual [dd.rd])]
 case clear s z x=>simp only[bF];rw[e x (by simp +contextual [dd.rd])]
 case pW lo xs=>simp only[bF];rw[ij h]
 case tq f xs=>simp only[bF];rw[ij h]
 case wW s x y z=>simp only[bF];rw[e x (by simp +contextual [dd.rd]),e y (by simp +contextual [dd.rd]),e z (by simp +contextual [dd.rd])]
 case oC s b z x y=>simp only[bF];rw[e x (by simp +contextual [dd.rd]),e y (by simp +contextual [dd.rd])]
 case store n x y=>simp only[bF];rw[e x (by simp +contextual [dd.rd]),e y (by simp +contextual [dd.rd])]
 case bin o x y=>simp only[bF];rw[e x (by simp +contextual [dd.rd]),e y (by simp +contextual [dd.rd])]
 case eq n k x y=>simp only[bF];rw[e x (by simp +contextual [dd.rd]),e y (by simp +contextual [dd.rd])]
 case ez s a x y=>simp only[bF];rw[e x (by simp +contextual [dd.rd]),e y (by simp +contextual [dd.rd])]
 case idxs x y=>simp only[bF];rw[e x (by simp +contextual [dd.rd]),e y (by simp +contextual [dd.rd])]
 case xD l s n x y=>simp only[bF];rw[e x (by simp +contextual [dd.rd]),e y (by simp +contextual [dd.rd])]
 case append s b x y=>simp only[bF];rw[e x (by simp +contextual [dd.rd]),e y (by simp +contextual [dd.rd])]
 case copy s x y=>simp only[bF];rw[e x (by simp +contextual [dd.rd]),e y (by simp +contextual [dd.rd])]
 case lookup c z x y=>simp only[bF];rw[e x (by simp +contextual [dd.rd]),e y (by simp +contextual [dd.rd])]
 case fQ s b z x y=>simp only[bF];rw[e x (by simp +contextual [dd.rd]),e y (by simp +contextual [dd.rd])]
 all_goals rfl
theorem Hj{call:cU}{s:St}{r':T}{op:dd}(h:∀p∈op.rd,s.aF.get p=r'.get p){v:V}{s':St}(b:fH call s op=aa (v,s')):fH call { s with aF:=r' } op=aa (v,{ s' with aF:=r' }):=by
 by_cases d:(∃f xs h,op=.call f xs h)\/(∃x xs h,op=.gN x xs h)\/op=.recover\/∃x xs,op=.defer x xs
 .rcases d with⟨f,xs,m,rfl⟩|⟨x,xs,m,rfl⟩|rfl|⟨x,xs,rfl⟩
  .simp only[fH,afF,afG]at b ⊢;obtain⟨q,g,rfl,rfl⟩:=b;rw[ij h]at g;exact⟨q,g,rfl,rfl⟩
  .simp only[fH]at b ⊢;rw[mS (x:=x) (r:=s.aF) (r':=r') (λp d=>h p (by simp[dd.rd,d])),ij (xs:=xs) (r:=s.aF) (r':=r') (λp d=>h p (by simp only[dd.rd,afY];exact .inr d))]at b;split at b
   .simp only[afF,afG]at b ⊢;obtain⟨q,g,rfl,rfl⟩:=b;exact⟨q,g,rfl,rfl⟩
   .simp at b
  .simp only[fH,At,afG]at b ⊢;obtain⟨rfl,rfl⟩:=b;exact⟨rfl,rfl⟩
  .simp only[fH]at b ⊢;rw[mS (x:=x) (r:=s.aF) (r':=r') (λp d=>h p (by simp[dd.rd,d])),ij (xs:=xs) (r:=s.aF) (r':=r') (λp d=>h p (by simp only[dd.rd,afY];exact .inr d))]at b;split at b
   .simp only[At,afG]at b ⊢;obtain⟨rfl,rfl⟩:=b;exact⟨rfl,rfl⟩
   .simp at b
 .have j:(bF s.aF s.heap op).map (λr=>(r.1,{ s with heap:=r.2 }))=aa (v,s'):=by
   cases op<;>first|exact b|(exfalso;apply d;simp)
  have l:fH call { s with aF:=r' } op=(bF r' s.heap op).map (λr=>(r.1,{ s with aF:=r',heap:=r.2 })):=by
   cases op<;>first|rfl|(exfalso;apply d;simp)
  rw[l,<-FJ h];simp only[afF,afG]at j ⊢;obtain⟨q,g,rfl,rfl⟩:=j;exact⟨q,g,rfl,rfl⟩
theorem TD{r:T}{op:dd}(b:cls op=.p)(H H':aj):bF r H' op=(bF r H op).map λq=>(q.1,H'):=by
 cases op<;>simp only[cls,reduceCtorEq]at b<;>simp only[bF]
 all_goals first
  |(simp[Function.comp_def];done)
  |(split<;>simp[Function.comp_def];done)
  |(split<;>(first|rfl|(split<;>rfl)))
section
theorem gj{H H':aj}(l:dv H H')(b:Nat):H[b]?=ab\/(∃cs fl g,H[b]?=aa (.box cs fl)/\H'[b]?=aa (.box cs g))\/
  (∃s cs fl g e st,H[b]?=aa (.ct s cs fl e st)/\H'[b]?=aa (.ct s cs g e st))\/∃bz,H[b]?=aa bz/\H'[b]?=aa bz:=by
 cases m:H[b]? with
 |none=>exact .inl rfl
 |some bz=>
  obtain⟨blk',d,j⟩:=l b _ m;cases bz<;>cases blk'<;>simp only[dz,reduceCtorEq]at j
  .obtain⟨rfl,_⟩:=j;exact .inr (.inl ⟨_,_,_,rfl,d⟩)
  .obtain⟨rfl,rfl,_,rfl,rfl⟩:=j;exact .inr (.inr (.inl ⟨_,_,_,_,_,_,rfl,d⟩))
  all_goals (rw[<-j]at d;exact .inr (.inr (.inr ⟨_,rfl,d⟩)))
variable{H H':aj}
theorem BM(j:dv H H'){x:C}{cs:List C}(h:aw H x=aa cs):aw H' x=aa cs:=by
 cases x with
 |ptr b off ep=>
  simp only[aw]at h ⊢;rcases gj j b with e|⟨cs,fl,g,e,d⟩|⟨s,cs,fl,g,l,st,e,d⟩|⟨bz,e,d⟩
  .simp[e]at h
  .rw[e]at h;rw[d];exact h
  .rw[e]at h;rw[d];cases st<;>exact h
  .rw[e]at h;rw[d];exact h
 |f x=>cases x<;>exact h
 |_=>simp[aw]at h
theorem Rz(g:dv H H'){n:Option Nat}{x:V}{v:V}(h:aQ H n x=aa v):aQ H' n x=aa v:=by
 cases x with
 |c x=>
  simp only[aQ,Option.bind_eq_some_iff]at h ⊢;obtain⟨cs,b,d⟩:=h;exact⟨cs,BM g b,d⟩
 |_=>simp[aQ]at h
theorem zC(j:dv H H'){x:C}{n:Nat}(h:bo H x=aa n):bo H' x=aa n:=by
 cases x with
 |sl b o l c ep sz=>
  simp only[bo]at h ⊢;rcases gj j b with e|⟨cs,fl,g,e,d⟩|⟨s,cs,fl,g,m,st,e,d⟩|⟨bz,e,d⟩
  .simp[e]at h
  all_goals (rw[e]at h;rw[d];exact h)
 |f x=>cases x<;>exact h
 |_=>simp[bo]at h
theorem CZ(j:dv H H'){sz:Nat}{x:C}{cs:List C}(h:cR H sz x=aa cs):cR H' sz x=aa cs:=by
 cases x with
 |sl b o l c ep s=>
  simp only[cR]at h ⊢;rcases gj j b with e|⟨cs,fl,g,e,d⟩|⟨s,cs,fl,g,m,st,e,d⟩|⟨bz,e,d⟩
  .simp[e]at h
  all_goals (rw[e]at h;rw[d];exact h)
 |f x=>cases x<;>exact h
 |_=>simp[cR]at h
theorem pG(j:dv H H'){k:FR}{x:C}{b:Bool}(h:isNil H k x=aa b):isNil H' k x=aa b:=by
 cases k<;>cases x<;>first|exact h|(simp[isNil]at h;done)|skip
 case sl.sl bb o l c ep s=>
  simp only[isNil]at h ⊢;rcases gj j bb with e|⟨cs,fl,g,e,d⟩|⟨s,cs,fl,g,m,st,e,d⟩|⟨bz,e,d⟩
  .simp[e]at h
  all_goals (rw[e]at h;rw[d];exact h)
 all_goals (rename_i y;cases y<;>exact h)
theorem Q7(d:dv H H'){k:FR}{x y:V}{b:Bool}(h:Dk H k x y=aa b):Dk H' k x y=aa b:=by
 unfold Dk at h;split at h
 .exact h
 .exact h
 .exact pG d h
 .exact pG d h
 .exact pG d h
 .exact pG d h
 .simp at h
theorem FA(j:dv H H'){sz:Nat}{x:V}{lo hi mx:Option V}{v:V}(h:ea H sz x lo hi mx=aa v):ea H' sz x lo hi mx=aa v:=by
 unfold ea at h;split at h
 .exact h
 .exact h
 .exact h
 .rename_i b o n cap ep s;simp only[ea];rcases gj j b with e|⟨cs,fl,g,e,d⟩|⟨s,cs,fl,g,l,st,e,d⟩|⟨bz,e,d⟩
  .simp[e]at h
  all_goals (rw[e]at h;rw[d];exact h)
 .simp at h
theorem Fy(j:dv H H'){n sz:Nat}{x:V}{lo hi mx:Option V}{v:V}(h:mH H n sz x lo hi mx=aa v):mH H' n sz x lo hi mx=aa v:=by
 unfold mH at h;split at h
 .rename_i b off ep;simp only[mH];rcases gj j b with e|⟨cs,fl,g,e,d⟩|⟨s,cs,fl,g,l,st,e,d⟩|⟨bz,e,d⟩
  .simp[e]at h
  all_goals (rw[e]at h;rw[d];exact h)
 .exact h
 .simp at h
theorem Cd(m:dv H H'){sz:Nat}{d:Option Nat}{x i:V}{v:V}(h:bw H sz d x i=aa v):bw H' sz d x i=aa v:=by
 unfold bw at h ⊢;split at h
 .simp at h
 .split at h
  .rename_i hi;simp only[hi,if_true];split at h
   .rename_i b o l c ep s;split at h
    .rename_i q;simp only[q,if_true];rcases gj m b with e|⟨cs,fl,j,e,g⟩|⟨s,cs,fl,j,u,st,e,g⟩|⟨bz,e,g⟩
     .simp[e]at h
     .rw[e]at h;rw[g];exact h
     .rw[e]at h;rw[g];cases st<;>exact h
     .rw[e]at h;rw[g];exact h
    .simp at h
   .exact h
   .exact h
   .exact h
   .simp at h
  .simp at h
theorem Cj(l:dv H H'){j:CK}{z:FC}{m k:V}{v:V}(h:gR H j z m k=aa v):gR H' j z m k=aa v:=by
 unfold gR at h;split at h
 .exact h
 .rename_i b k;simp only[gR];rcases gj l b with e|⟨cs,fl,g,e,d⟩|⟨s,cs,fl,g,q,st,e,d⟩|⟨bz,e,d⟩
  .simp[e]at h
  all_goals (rw[e]at h;rw[d];exact h)
 .simp at h
theorem I9(d:dv H H'){x v:V}(h:qe H x=aa v):qe H' x=aa v:=by
 cases x with
 |c x=>
  simp only[qe]at h ⊢;split at h
  .rename_i n g;split at h
   .rename_i cs b;rw[zC d g,CZ d b];exact h
   .simp at h
  .simp at h
 |_=>simp[qe]at h
theorem Ku(j:dv H H'){x:C}{n:Nat}(h:kE H x=aa n):kE H' x=aa n:=by
 cases x with
 |sl b o l c ep sz=>
  simp only[kE]at h ⊢;rcases gj j b with e|⟨cs,fl,g,e,d⟩|⟨s,cs,fl,g,m,st,e,d⟩|⟨bz,e,d⟩
  .simp[e]at h
  .rw[e]at h;rw[d];exact h
  .rw[e]at h;rw[d];cases st<;>exact h
  .rw[e]at h;rw[d];exact h
 |f x=>cases x<;>exact h
 |_=>simp[kE]at h
theorem RJ(l:dv H H'){b:Nat}{d:List (FC × C)}(h:H[b]?=aa (.map d)):H'[b]?=aa (.map d):=by
 obtain⟨blk',j,g⟩:=l b _ h;cases blk'<;>simp only[dz,reduceCtorEq,bB.map.injEq]at g;subst g;exact j
theorem RN(l:dv H H'){b m s:Nat}{d:Bool}(h:H[b]?=aa (.xw m s d)):H'[b]?=aa (.xw m s d):=by
 obtain⟨blk',j,g⟩:=l b _ h;cases blk'<;>simp only[dz,reduceCtorEq,bB.xw.injEq]at g;obtain⟨rfl,rfl,rfl⟩:=g;exact j
theorem Em(b:dv H H'){x v:V}(h:ny H x=aa v):ny H' x=aa v:=by
 unfold ny at h;split at h
 .split at h
  .rename_i d;split at h
   .rename_i g;simp only[ny,RN b d,RJ b g];exact h
   .simp at h
  .simp at h
 .simp at h
theorem Hk{r:T}{op:dd}(l:cls op=.r)(b:dv H H'){v:V}{j:aj}(h:bF r H op=aa (v,j)):j=H/\bF r H' op=aa (v,H'):=by
 cases op<;>first|(simp only[bF,reduceCtorEq]at h;done)|(simp only[cls,reduceCtorEq]at l;done)|simp only[bF]at h ⊢
 case len x=>
  split at h
  .rename_i y m;split at h
   .rename_i n g;simp only[At,afG]at h;obtain⟨rfl,rfl⟩:=h;simp only[zC b g];simp
   .simp at h
  .simp at h
 case cap x=>
  split at h
  .rename_i y m;split at h
   .rename_i n g;simp only[At,afG]at h;obtain⟨rfl,rfl⟩:=h;simp only[Ku b g];simp
   .simp at h
  .simp at h
 all_goals
  simp only[afF,afG]at h;obtain⟨q,d,rfl,rfl⟩:=h;refine⟨rfl,?_⟩
 case entry=>rw[Em b d];rfl
 case load=>rw[Rz b d];rfl
 case eq=>rw[Q7 b d];rfl
 case slice=>rw[FA b d];rfl
 case pc=>rw[Fy b d];rfl
 case ez=>rw[Cd b d];rfl
 case lookup=>rw[Cj b d];rfl
 case xB=>rw[I9 b d];rfl
theorem abC{r:T}{op:dd}(g:cls op=.a){v:V}{d:aj}(h:bF r H op=aa (v,d)):d=H\/∃bz,d=H++[bz]:=by
 cases op<;>first|(simp only[cls,reduceCtorEq]at g;done)|simp only[bF]at h
 case call=>simp at h
 case alloc zs=>simp only[At,afG]at h;exact .inr ⟨_,h.2.symm⟩
 case mr=>simp only[At,afG]at h;exact .inr ⟨_,h.2.symm⟩
 case box x=>
  split at h
  .simp only[At,afG]at h;exact .inr ⟨_,h.2.symm⟩
  .simp at h
 case dX sz zs n ps=>
  split at h
  .split at h
   .simp only[At,afG]at h;exact .inl h.2.symm
   .simp at h
  .simp only[afF,afG]at h;obtain⟨q,j,rfl,rfl⟩:=h;exact .inr ⟨_,rfl⟩
 case fQ sz b zs x y=>
  split at h
  .split at h
   .split at h
    .simp only[At,afG]at h;exact .inl h.2.symm
    .simp only[At,afG]at h;exact .inr ⟨_,h.2.symm⟩
   .simp at h
  .simp at h
end
section
variable{Q:Program}{σ:Nat->FuncId}{X:Wd}
theorem Gm(d:SR Q σ X)(l:X.B<=X.w.heap.size){n:Nat}{cs:List C}{fl:Nat}(s:X.H[n]?=aa (.box cs fl))(u:X.cI n=ab){us:List Value}(h:A2 (CR σ X) cs us)(e:TypeId) :
  ∃X',X'.w=X.w.alloc (.cells us.toArray e)/\X'.H=X.H/\SR Q σ X'/\Ext X.H.length X X'/\X'.cI n=aa ⟨X.w.heap.size,0⟩/\X'.B<=X'.w.heap.size/\∀b,b≠n->X'.cI b=X.cI b:=by
 obtain⟨g,j⟩:=SR.fill d l s u (ef.alloc X.w (.cells us.toArray e)) 0 (λv=>⟨us,lH (ef.alloc _ _),A2.ext' σ v h,λi _ q=>by
  have:=d.fb _ _ q;simp at this⟩)
 exact⟨{ X with cI:=λb=>if b=n then aa ⟨X.w.heap.size,0⟩else X.cI b,w:=X.w.alloc (.cells us.toArray e) },rfl,rfl,g,j,by simp,by simp;omega,λb m=>by simp[m]⟩
def DY(Q:Program)(σ:Nat->FuncId)(X:Wd)(n:Nat)(v:V)(s:Sem Next)(e:Prop):Prop:=
 ∃X' u,s.run Q X.w=.ok (.value u) X'.w/\oz Q σ X v X.H X' u/\(∀b,b≠n->X'.cI b=X.cI b)/\(e->X'.cI=X.cI)
theorem B6(y:SR Q σ X)(x:X.B<=X.w.heap.size){n:Nat}{cs:List C}{fl:Nat}(g:X.H[n]?=aa (.box cs fl))(A:X.cI n=ab){us:List Value}(h:A2 (CR σ X) cs us)(e:TypeId){s:Sem Next}{b:Prop}(z:¬ b)
  (B:s.run Q X.w=.ok (.value (.pointer (aa ⟨X.w.heap.size,0,ab⟩))) (X.w.alloc (.cells us.toArray e))):DY Q σ X n (.c (.ptr n 0 0)) s b:=by
 obtain⟨X',j,d,l,m,q,u,v⟩:=Gm y x g A h e;refine⟨X',_,by rw[j];exact B,⟨d,l,?_,m,u⟩,v,λh=>absurd h z⟩;exact⟨_,q,by rw[d,g]⟩
theorem Gn(A:SR Q σ X)(z:X.B<=X.w.heap.size){n:Nat}{cs:List C}{fl:Nat}(j:X.H[n]?=aa (.box cs fl))(E:X.cI n=ab){us:List Value}(h:A2 (CR σ X) cs us)(e:TypeId){s:Sem Next}{l c sz:Nat}(b:l<=c){d:Prop}(B:¬ d)
  (F:s.run Q X.w=.ok (.value (.slice (aa ⟨X.w.heap.size,0,ab⟩) l c)) (X.w.alloc (.cells us.toArray e))):DY Q σ X n (.c (.sl n 0 l c 0 sz)) s d:=by
 obtain⟨X',m,g,q,u,v,x,y⟩:=Gm A z j E h e;refine⟨X',_,by rw[m];exact F,⟨g,q,?_,u,x⟩,y,λh=>absurd h B⟩;simp only[VR,iS,CR,fZ,g,j];exact⟨_,v,b,rfl⟩
theorem rF{H b:aj}{cs:List C}(h:dv (H++[.box cs 0]) b):∃fl,b[H.length]?=aa (.box cs fl):=by
 obtain⟨blk',g,d⟩:=h H.length (.box cs 0) (by simp);cases blk'<;>simp only[dz,reduceCtorEq]at d;obtain⟨rfl,_⟩:=d;exact⟨_,g⟩
theorem CY{w':World}{o:Obj}(g:SR Q σ X)(d:ef X.w w' o)(q:X.B<=X.w.heap.size):∃X':Wd,X'.w=w'/\X'.H=X.H/\SR Q σ X'/\Ext X.H.length X X'/\X'.B<=X'.w.heap.size/\X'.cI=X.cI:=by
 have j:Ext X.H.length X { X with w:=w' }:=Ext.one g X.H.length rfl (λ_ _=>Iff.rfl) (λk m _=>d.Dm m)
  (λL i h=>by rw[SR.tC g]at h;simp at h) (λh=>absurd h (ahm _)) (λ_ _ _=>rfl) (λ_ _=>rfl) (λL h=>.inl ⟨L,h,rfl⟩) (by show _<=w'.heap.size;rw[d.size];omega) d.os d.tape d.output
 refine⟨{ X with w:=w' },rfl,rfl,SR.step Q σ g j X.H.length (λ_ _=>rfl) (λ_ _=>rfl) (λb L _ l=>d.Dm (g.br b L l).2.1)
  (λ_ _ _ _ _ h=>h) (λL h=>by change X.cI X.H.length=aa L at h;rw[SR.tC g]at h;simp at h) (λc i h=>?_),j,?_,rfl⟩
 .have:=g.fb c i h;show c<w'.heap.size;rw[d.size];omega
 .show X.B<=w'.heap.size;rw[d.size];omega
theorem Rx(M:SR Q σ X)(L:X.B<=X.w.heap.size){a:Act}{aF:T}(hR:RR σ X aF a.tmps){o:Oper}{op:dd}(hc:cls op=.a)(d:dZ Q σ o op=ae){H H1:aj}{v:V}(h:bF aF H op=aa (v,H1))
  (hH:dv H1 X.H) (W:H1.length≠H.length->X.cI H.length=ab):DY Q σ X H.length v (execOp a.eval o) (H1.length=H.length):=by
 cases op<;>first|(simp only[cls,reduceCtorEq]at hc;done)|skip
 case call f xs h'=>simp[bF]at h
 case alloc zs=>
  simp only[bF,At,afG]at h;obtain⟨rfl,rfl⟩:=h;obtain⟨fl,F⟩:=rF hH;simp only[dZ]at d;split at d
  .rename_i t B;obtain⟨z,us,h1,K,h3,_⟩:=fG (σ:=σ) (X:=X) d X.w;refine B6 M L F (W (by simp)) h3 t (by simp) ?_;simp only[execOp,B];refine ey ?_;simp[Instr.alloc,h1,newVar,newRow,K]
  .simp at d
 case mr=>
  simp only[bF,At,afG]at h;obtain⟨rfl,rfl⟩:=h;have F:X.H[H.length]?=aa (.map []):=by
   obtain⟨blk',hb,hl⟩:=hH H.length (.map []) (by simp);cases blk'<;>simp only[dz,reduceCtorEq,bB.map.injEq]at hl;subst hl;exact hb
  simp only[dZ]at d;split at d
  .rename_i t B;have W:=W (by simp);obtain⟨h1,K⟩:=SR.fill M L F W (ef.alloc X.w (.map #[] 0)) 0 (λhx=>⟨[],(ef.alloc _ _).new,A2.nil,by simp⟩);refine⟨{ X with cI:=λb=>if b=H.length then aa ⟨X.w.heap.size,0⟩else X.cI b,w:=X.w.alloc (.map #[] 0) },.map (aa X.w.heap.size),?_,⟨rfl,h1,⟨⟨X.w.heap.size,0⟩,by simp,⟨[],F⟩,rfl⟩,K,by show X.B<=_;simp;omega⟩,λb hb=>by simp[hb],λh=>by simp at h⟩;simp[execOp,B,Instr.makeMap]
  .simp at d
 case box x=>
  simp only[bF]at h;split at h
  .rename_i xs h_;simp only[At,afG]at h;obtain⟨rfl,rfl⟩:=h;obtain⟨fl,F⟩:=rF hH;simp only[dZ]at d;split at d
   .rename_i t y B;obtain⟨us,K,h3⟩:=rq (cf hR d) h_;refine B6 M L F (W (by simp)) h3 t (by simp) ?_;simp only[execOp,B];refine ey ?_;simp[Instr.box,newVar,newRow,K]
   .simp at d
  .simp at h
 case dX sz zs n ps=>
  simp only[dZ]at d;split at d
  .rename_i t n' qs B;simp only[afE,beq_iff_eq,decide_eq_true_eq]at d;obtain⟨⟨⟨⟨rfl,s⟩,E⟩,i8⟩,hq⟩:=d;obtain⟨e,hu,E⟩:=jH E;simp only[afE,decide_eq_true_eq]at E;obtain⟨⟨j,hz⟩,i5⟩:=E;obtain⟨z,us,Y,Z,A,_⟩:=fG (σ:=σ) (X:=X) hz X.w;have I:us.length=sz:=by have:=A.len;simp at this;omega
   simp only[bF]at h;split at h
   .rename_i F;subst F;split at h
    .rename_i b_;simp only[At,afG]at h;obtain⟨rfl,rfl⟩:=h;have U:qs.toList=[]:=by
      have:=(ff hq).len;simp only[List.isEmpty_iff]at b_;rw[b_]at this;exact afV this.symm
     have U:qs=#[]:=by apply Array.ext';simpa using U
     obtain⟨X',h1,K,h3,h4,h5,h6⟩:=CY M (ef.alloc X.w (.cells #[] e)) L;refine⟨X',.slice (aa ⟨X.w.heap.size,0,ab⟩) 0 0,?_,⟨K,h3,cX.es _,h4,h5⟩,λb _=>by rw[h6],λ_=>h6⟩;rw[h1];simp only[execOp,B];refine ey ?_;simp[Instr.buildSlice,bl hu,dq j,U,Instr.fill,newRow,show Array.range 0=(#[]:Array Nat) from rfl]
    .simp at h
   .rename_i F;simp only[afF,afG]at h;obtain⟨cs,f7,rfl,rfl⟩:=h;obtain⟨fl,O⟩:=rF hH;obtain⟨j7,h5,h6⟩:=pC (place:=λi=>aa (i*sz,sz)) (ps:=qs.toList) hR (qs:=ps.map λp=>(p.1*sz,sz,p.2)) (A2.map ((ff hq).nm λq p S=>by
     simp only[afE,beq_iff_eq]at S;exact⟨by rw[S.1],S.2⟩)) (lY A n') f7
    refine Gn M L O (W (by simp)) h6 e (afJ _) (by simp) ?_;simp only[execOp,B];refine ey ?_;have f8:n'*sz≠0:=by
     intro h0;rcases ahn.1 h0 with h0|h0<;>omega
    have e9:=kg us n' (by omega);rw[I]at e9;simp only[Instr.buildSlice,Sem.run_bind,bl hu,dq j,Result.andThen_ok,bG (show¬ n'*sz>2 ^ 24 by omega),Sem.run_ite,bG f8,Y,Sem.run_pure,Z];simp only[Array.toList_map];rw[e9];simp[h5,newRow]
  .simp at d
 case fQ sz bytes zs x y=>
  simp only[dZ]at d;split at d
  .rename_i t x' y' B;simp only[afE,decide_eq_true_eq]at d;obtain⟨⟨⟨hx,hy⟩,E⟩,i7⟩:=d;have hx:=cf hR hx;have hy:=cf hR hy;obtain⟨e,hu,E⟩:=jH E;simp only[afE]at E;obtain⟨⟨j,e_⟩,hz⟩:=E;obtain⟨z,us,Y,Z,A,j6,i_,j4⟩:=fG (σ:=σ) (X:=X) hz X.w;obtain⟨i9,a8,a9⟩:=A9 e_ X.w;simp only[bF]at h;split at h
   .rename_i l c hl hc;obtain⟨kl,g_⟩:=kS hx hl;obtain⟨kc,i4⟩:=kS hy hc;split at h
    .rename_i N;obtain⟨h0,j5,u,i5⟩:=N;unfold bU at u;simp only[afE,decide_eq_true_eq]at u;have I:us.length=sz:=by have:=A.len;simp at this;omega
     have d_:=wrap_small (n:=l) h0 (by omega);have d9:=wrap_small (n:=c) (by omega) (by omega);have i6:c.toNat*bytes<=2 ^ 48:=by
      have:c.toNat*bytes<=(2*c.toNat+768)*bytes:=agx _ (by omega);omega
     have s:¬ ((bytes:Int)*c>2 ^ 48):=by
      have e1:(bytes:Int)*c=((c.toNat*bytes:Nat):Int):=by
       rw[ahf,Int.mul_comm];congr 1;omega
      rw[e1];omega
     have c_:((Array.range (c.toNat*sz)).map λi=>us.toArray[i % us.toArray.size]!)=(cP c.toNat us).toArray:=by
      have:=kg us c.toNat (by omega);rwa[I]at this
     have run:(execOp a.eval o).run Q X.w=.ok (.value (.slice (aa ⟨X.w.heap.size,0,ab⟩) l.toNat c.toNat)) (X.w.alloc (.cells (cP c.toNat us).toArray e)):=by
      simp only[execOp,B];refine ey ?_;rw[g_,i4];have a_:¬ c<0:=by omega
      have b9:¬ l<0:=by omega
      have J:¬ l>c:=by omega
      by_cases m:c.toNat*sz=0
      .have f_:cP c.toNat us=[]:=afV (by rw[ni,I];exact m);have g:((decide (c<0)||decide ((bytes:Int)*c>2 ^ 48))||decide (l<0)||decide (l>c))=ag:=by rw[decide_eq_false a_,decide_eq_false b9,decide_eq_false J,decide_eq_false s];rfl
       simp only[Instr.makeSlice,Sem.run_bind,bl hu,asInt,asIntOf,Sem.run_pure,Result.andThen_ok,a8,a9,d_,d9,run_askRoom,dq j];simp only[g,afR,if_false,Sem.run_ite,bu m,Sem.run_bind,Result.andThen_ok,Sem.run_pure,run_askRoom,dq j,newRow,run_newObj];rw[m,f_,show(Array.map (λx=>(#[]:Array Value)[x % (#[]:Array Value).size]!) (Array.range 0))=#[] from by simp[show Array.range 0=(#[]:Array Nat) from rfl]];rfl
      .simp only[Instr.makeSlice,Sem.run_bind,bl hu,asInt,asIntOf,Sem.run_pure,Result.andThen_ok,a8,a9,d_,d9,run_askRoom,dq j];have g:((decide (c<0)||decide ((bytes:Int)*c>2 ^ 48))||decide (l<0)||decide (l>c))=ag:=by rw[decide_eq_false a_,decide_eq_false b9,decide_eq_false J,decide_eq_false s];rfl
       simp only[g,afR,if_false,Sem.run_ite,bG m,Sem.run_bind,Y,Z,Result.andThen_ok,Sem.run_pure,run_askRoom,dq j,c_,newRow,run_newObj];rfl
     split at h
     .rename_i m;subst m;simp only[At,afG]at h;obtain⟨rfl,rfl⟩:=h;have:l=0:=by omega
      subst this;obtain⟨X',g1,g2,g3,g4,g5,g6⟩:=CY M (ef.alloc X.w (.cells (cP (0:Int).toNat us).toArray e)) L;exact⟨X',_,by rw[g1];exact run,⟨g2,g3,cX.es _,g4,g5⟩,λb _=>by rw[g6],λ_=>g6⟩
     .simp only[At,afG]at h;obtain⟨rfl,rfl⟩:=h;obtain⟨fl,O⟩:=rF hH;exact Gn M L O (W (by simp)) (lY A c.toNat) e (by omega) (by simp) run
    .simp at h
   .simp at h
  .simp at d
end
theorem ES{acc:List Nat}{o:Oper}{i:Nat}:(oP acc o).testBit i=ae↔∃e∈o.after.toList,Region.binds .any e=ae/\(e.on=i\/(acc.getD e.on 0).testBit i=ae):=by
 unfold oP;have key:∀(l:List Edge) (s:Nat),(l.foldl (λs e=>if Region.binds .any e then s ||| 2 ^ e.on ||| acc.getD e.on 0 else s) s).testBit i=ae ↔
   s.testBit i=ae\/∃e∈l,Region.binds .any e=ae/\(e.on=i\/(acc.getD e.on 0).testBit i=ae):=by
  intro l;induction l with
  |nil=>intro s;simp
  |cons e l d=>
   intro s;simp only[ag7,d,afZ,exists_eq_or_imp];by_cases b:Region.binds .any e=ae
   .simp only[b,if_true,Nat.testBit_or,Bool.or_eq_true,Nat.testBit_two_pow,decide_eq_true_eq,true_and,or_assoc]
   .simp[b]
 rw[key];simp
theorem zd:∀(os:List Oper) (acc:List Nat),(dI os acc).length=acc.length+os.length
 |[],acc=>by simp[dI]
 |o::os,acc=>by rw[dI,zd];simp;omega
theorem tp:∀(os:List Oper) (acc:List Nat) (k:Nat),k<acc.length->(dI os acc)[k]?=acc[k]?
 |[],acc,k,_=>rfl
 |o::os,acc,k,h=>by
  rw[dI,tp os _ k (by simp;omega),afy h]
theorem ze:∀(os:List Oper) (acc:List Nat) (t:Nat) (o:Oper),os[t]?=aa o->(dI os acc)[acc.length+t]?=aa (oP ((dI os acc).take (acc.length+t)) o)
 |[],acc,t,o,h=>by simp at h
 |o'::os,acc,0,o,h=>by
  simp only[ag8,At]at h;subst h;have d:∀k,k<acc.length->(dI os (acc++[oP acc o']))[k]?=acc[k]?:=λk g=>by rw[tp os _ k (by simp;omega),afy g]
  have b:(dI os (acc++[oP acc o'])).take acc.length=acc:=by
   apply List.ext_getElem?;intro k;rw[ago];split
   .rename_i g;exact d k g
   .rename_i g;rw[agP (by omega)]
  rw[dI,ahc,b,tp os _ _ (by simp)];simp
 |o'::os,acc,t+1,o,h=>by
  simp only[ahe]at h;have:=ze os (acc++[oP acc o']) t o h;rw[dI];rw[show acc.length+(t+1)=(acc++[oP acc o']).length+t by simp;omega];exact this
theorem F2{ops:List Oper}{i j:Nat}{o:Oper}(l:ops[j]?=aa o) :
  Bl (dI ops []) i j=ae↔∃e∈o.after.toList,Region.binds .any e=ae/\(e.on=i\/(e.on<j/\Bl (dI ops []) i e.on=ae)):=by
 have h:=ze ops [] j o l;simp only[agQ,agj]at h;unfold Bl;rw[aha,h,Option.getD_some,ES];have g:∀k,((dI ops []).take j).getD k 0=if k<j then(dI ops []).getD k 0 else 0:=by
  intro k;simp only[aha,ago];split<;>simp
 constructor
 .rintro⟨e,d,b,h⟩;refine⟨e,d,b,h.imp id λh=>?_⟩;rw[g]at h;split at h
  .rename_i m;exact⟨m,h⟩
  .simp at h
 .rintro⟨e,d,b,h⟩;refine⟨e,d,b,h.imp id λh=>?_⟩;rw[g,bu h.1];exact h.2
def sN(ops:List Oper)(D:Nat->Prop):Prop:=∀j o,D j->ops[j]?=aa o->∀e∈o.after.toList,Region.binds .any e=ae->D e.on
theorem sN.below{ops:List Oper}{D:Nat->Prop}(h:sN ops D){i:Nat}:∀(j:Nat),D j->Bl (dI ops []) i j=ae->D i:=by
 intro j;induction j using Nat.strongRecOn with
 |ind j m=>
  intro l b;cases ho:ops[j]? with
  |none=>
   exfalso;unfold Km.Bl at b;have:(dI ops []).length<=j:=by rw[zd];simpa using List.getElem?_eq_none_iff.1 ho
   rw[aha,agP this]at b;simp at b
  |some o=>
   obtain⟨e,g,d,h1|⟨h1,h2⟩⟩:=(F2 ho).1 b
   .exact h1▸h j o l ho e g d
   .exact m e.on h1 (h j o l ho e g d) h2
theorem sN.ready{ops:List Oper}{D:Nat->Prop}(h:sN ops D){i j:Nat}{o:Oper}(ho:ops[j]?=aa o)(g:∀e∈o.after.toList,Region.binds .any e=ae->D e.on)(l:Bl (dI ops []) i j=ae):D i:=by
 obtain⟨e,d,b,h1|⟨h1,h2⟩⟩:=(F2 ho).1 l
 .exact h1▸g e d b
 .exact h.below e.on (g e d b) h2
def Gz(aos:List aV)(j:Nat):Prop:=∃y,aos[j]?=aa y/\cls y.op=.w
theorem oQ{aos:List aV}{j:Nat}:j∈nQ aos↔Gz aos j:=by
 unfold nQ Gz;rw[List.mem_filter,List.mem_range];constructor
 .rintro⟨_,h⟩;split at h
  .rename_i y b;exact⟨y,b,by simpa using h⟩
  .simp at h
 .rintro⟨y,b,d⟩;exact⟨(afD.1 b).1,by simp[b,d]⟩
theorem pn{g:Type}(p:g->Bool):∀(l:List g),(∀k,k<(l.takeWhile p).length->∃y,l[k]?=aa y/\p y=ae)/\((l.takeWhile p).length=l.length\/∃y,l[(l.takeWhile p).length]?=aa y/\p y=ag)
 |[]=>by simp
 |x::l=>by
  by_cases d:p x=ae
  .rw[List.takeWhile_cons_of_pos d];obtain⟨j,b⟩:=pn p l;refine⟨λk m=>?_,?_⟩
   .cases k with
    |zero=>exact⟨x,rfl,d⟩| succ k=>exact j k (by simpa using m)
   .rcases b with b|b
    .exact .inl (by simp[b])
    .exact .inr (by simpa using b)
  .rw[List.takeWhile_cons_of_neg d];exact⟨by simp,.inr ⟨x,rfl,by simpa using d⟩⟩
theorem qQ{aos:List aV}{i:Nat}(hi:i<=aos.length):i<=phase aos i/\phase aos i<=aos.length/\(phase aos i=aos.length\/Gz aos (phase aos i))/\∀j,i<=j->j<phase aos i->¬ Gz aos j:=by
 unfold phase;obtain⟨s,g⟩:=pn (λy:aV=>decide (cls y.op≠.w)) (aos.drop i);have q:((aos.drop i).takeWhile λy=>decide (cls y.op≠.w)).length<=(aos.drop i).length:=by
  rcases agq (aos.drop i).length ((aos.drop i).takeWhile λy=>decide (cls y.op≠.w)).length with h|h
  .obtain⟨y,b,_⟩:=s _ h;have:=(afD.1 b).1;omega
  .exact h
 simp only[afX]at q g;refine⟨by omega,by omega,?_,λj v u=>?_⟩
 .rcases g with g|⟨y,b,l⟩
  .exact .inl (by omega)
  .rw[af0]at b;exact .inr ⟨y,b,by simpa using l⟩
 .obtain⟨y,b,l⟩:=s (j-i) (by omega);rw[af0,show i+(j-i)=j by omega]at b;rintro⟨x,d,m⟩;rw[b]at d;cases d;simp[m]at l
structure Ord(ops:List Oper)(aos:List aV)(jG:List (Nat × Nat)):Prop where
 back:∀j o,j<aos.length->ops[j]?=aa o->∀e∈o.after.toList,Region.binds .any e=ae->e.on<j
 two:∀i j x y,i<j->aos[i]?=aa x->aos[j]?=aa y->Bl (dI ops []) i j=ae\/(x.apart y=ae/\(vB x y=ae\/(j=mU (dI ops []) aos/\cls x.op=.w)))
 ear:∀y,aos[mU (dI ops []) aos]?=aa y->(∃zs,y.op=.alloc zs)/\y.g=ab/\∃p,y.dst=aa p/\∀i z,aos[i]?=aa z->p∈z.rd->∀e,Gz aos e->e<mU (dI ops []) aos->Bl (dI ops []) e i=ae
 rd:∀i x e,aos[i]?=aa x->cls x.op=.r->Gz aos e\/e=aos.length->Cn (dI ops []) aos i e=ae->e=phase aos i\/(i,e)∈jG
theorem JS{ops:List Oper}{aos:List aV}{jG:List (Nat × Nat)}(h:OK ops aos jG=ae):Ord ops aos jG:=by
 simp only[OK,afE]at h;obtain⟨⟨⟨A,B⟩,g⟩,E⟩:=h;refine⟨λj o L N e b J=>?_,λi j x y s m q=>?_,λy q=>?_,λi x e m K b M=>?_⟩
 .rw[af4]at A;have d:(o,j)∈ops.zip (List.range aos.length):=by
   refine List.mem_of_getElem? (i:=j) ?_;rw[List.getElem?_zip_eq_some];exact⟨N,by simp[L]⟩
  have:=A _ d;rw[af4]at this;simpa[J]using this e b
 .rw[af4]at B;have:=B j (by simpa using (afD.1 q).1);rw[af4]at this;have:=this i (by simpa using s);rw[m,q]at this;simpa using this
 .unfold Ge at g;rw[q]at g;simp only[afE,Option.isNone_iff_eq_none]at g;obtain⟨⟨I,F⟩,l⟩:=g;refine⟨?_,I,?_⟩
  .split at F
   .exact⟨_,by assumption⟩
   .simp at F
  .split at l
   .rename_i p O;refine⟨p,O,λi z H v e b u=>?_⟩;rw[af4]at l;have:=l i (by simpa using (afD.1 H).1);rw[H]at this;simp only[Bool.or_eq_true,Bool.not_eq_true',List.contains_eq_mem,decide_eq_false_iff_not,af4]at this;rcases this with h|h
    .exact absurd v h
    .have:=h e (oQ.2 b);simpa[u]using this
   .simp at l
 .rw[af4]at E;have:=E i (by simpa using (afD.1 m).1);rw[m]at this;simp only[K,if_true]at this;rw[af4]at this;have:=this e (by
   rw[afY];rcases b with b|b
   .exact .inl (oQ.2 b)
   .exact .inr (by simp[b]))
  simpa[M]using this
section
variable{Q:Program}{σ:Nat->FuncId}{X:Wd}{call:cU}
theorem Ext.len{X X':Wd}(h:Ext X.H.length X X'):X.H.length<=X'.H.length:=by
 rcases agq X'.H.length X.H.length with b|g
 .obtain⟨blk',d,_⟩:=h.cZ X'.H.length b _ (afB b);have:=(afD.1 d).1;omega
 .exact g
theorem zL{s s':St}{op:dd}{v:V}(h:fH call s op=aa (v,s')):s'.aF=s.aF:=by
 have:=Hj (r':=s.aF) (λ_ _=>rfl) h;rw[show({ s with aF:=s.aF }:St)=s from rfl,h]at this;simp only[At,afG,true_and]at this;rw[this]
theorem FK{s s':St}{y:aV}(h:gE call s y=aa s'):∃v,s'.aF=lS s.aF y.dst v:=by
 unfold gE at h;split at h
 .split at h
  .rename_i v d b;cases h;exact⟨v,by rw[zL b]⟩
  .simp at h
 .cases h;exact⟨_,rfl⟩
 .simp at h
theorem wI{aF:T}{d:Option P}{v:V}{p:P}:(lS aF d v).get p=if d=aa p then v else aF.get p:=by
 cases d with
 |none=>simp[lS]| some q=>simp only[lS,T.rE,At]
theorem qW{s s':St}{y:aV}(g:cls y.op≠.w)(h:gE call s y=aa s'):dv s.heap s'.heap/\s'.defs=s.defs:=by
 unfold gE at h;split at h
 .split at h
  .rename_i v u b;cases h;by_cases j:(∃f xs h,y.op=.call f xs h)\/(∃x xs h,y.op=.gN x xs h)\/y.op=.recover\/∃x xs,y.op=.defer x xs
   .rcases j with⟨f,xs,m,e⟩|⟨x,xs,m,e⟩|e|⟨x,xs,e⟩
    .rw[e]at b g;cases m
     .simp only[fH,iI,afR,if_false,afF,afG]at b;obtain⟨⟨z,H'⟩,b,rfl,rfl⟩:=b;refine⟨?_,rfl⟩;unfold eQ at b;split at b
      .simp at b
      .split at b
       .simp at b
       .split at b
        .simp at b
        .simp only[At,afG]at b;show dv s.heap H';rw[<-b.2];exact(pJ _ _ _).ext
     .exact absurd rfl g
    .rw[e]at g;exact absurd rfl g
    .rw[e]at g;exact absurd rfl g
    .rw[e]at g;exact absurd rfl g
   .have q:(bF s.aF s.heap y.op).map (λr=>(r.1,{ s with heap:=r.2 }))=aa (v,u):=by
     generalize y.op=op at b j;cases op<;>first|exact b|(exfalso;apply j;simp)
    simp only[afF,afG]at q;obtain⟨⟨z,H'⟩,l,rfl,rfl⟩:=q;clear b;have b:=l;clear l;refine⟨?_,rfl⟩;show dv s.heap H';cases d:cls y.op with
    |p=>
     have:=TD (r:=s.aF) d s.heap s.heap;rw[b]at this;simp only[agv,At,afG]at this;rw[this.2];exact dv.refl _
    |r=>rw[(Hk d (dv.refl _) b).1];exact dv.refl _
    |a=>
     rcases abC d b with e|⟨cs,e⟩
     .rw[e];exact dv.refl _
     .rw[e];exact dv.append _ _
    |c=>
     generalize y.op=op at b d;cases op<;>first|(simp only[cls,reduceCtorEq]at d;done)|(simp[bF]at b;done)
    |w=>exact absurd d g
  .simp at h
 .cases h;exact⟨dv.refl _,rfl⟩
 .simp at h
def jA(aF:T)(ps:List P):T:=ps.foldl (λt p=>t.set p (aF.get p)) .e
theorem wM(aF:T)(ps:List P)(p:P):(jA aF ps).get p=if p∈ps then aF.get p else .top:=by
 have key:∀(ps:List P) (t:T),(ps.foldl (λt p=>t.set p (aF.get p)) t).get p=if p∈ps then aF.get p else t.get p:=by
  intro ps;induction ps with
  |nil=>intro t;simp
  |cons q ps g=>
   intro t;simp only[ag7,g,T.rE,afZ];by_cases b:p∈ps
   .simp[b]
   .by_cases d:q=p
    .subst d;simp[b]
    .have:¬ p=q:=λe=>d e.symm;simp[b,d,this]
 have:=key ps .e;unfold jA;rw[this];rfl
structure mf(Q:Program)(σ:Nat->FuncId)(call:cU)(n:Nat)(ops:Array Oper)(aos:List aV)(jG:List (Nat × Nat))(st:Nat->St):Prop where
 XE:gd (nb Q σ n ops) ops.toList aos=ae
 ord:Ord ops.toList aos jG
 step:∀i y,aos[i]?=aa y->gE call (st i) y=aa (st (i+1))
 adH:∀i e y,(i,e)∈jG->aos[i]?=aa y->wanted (st i).aF y.g=aa ae->∃v H1 H2,bF (st i).aF (st i).heap y.op=aa (v,H1)/\bF (st i).aF (st e).heap y.op=aa (v,H2)
structure mN(σ:Nat->FuncId)(X:Wd)(c:Nat)(zs:List FC):Prop where
 bz:∃us t,X.w.heap[c]?=aa (.cells us.toArray t (0,0))/\A2 (CR σ X) (zs.map .f) us
 b:X.B<=c
 yZ:∀b L,X.cI b=aa L->L.c≠c
 f:∀i,¬ X.F c i
theorem mN.lt{c:Nat}{zs:List FC}(h:mN σ X c zs):c<X.w.heap.size:=by
 obtain⟨us,t,h1,_⟩:=h.bz;exact(Array.getElem?_eq_some_iff.1 h1).1
theorem mN.ext{X X':Wd}(d:Ext X.H.length X X'){c:Nat}{zs:List FC}(h:mN σ X c zs):mN σ X' c zs:=by
 have j:=h.lt;obtain⟨us,t,h1,h2⟩:=h.bz;refine⟨⟨us,t,by rw[d.frame c j h.yZ];exact h1,A2.ext' σ d h2⟩,by rw[d.B];exact h.b,λb L m=>?_,λi hi=>?_⟩
 .rcases d.yZ b L m with⟨b0,l,g1,g2⟩|g1
  .rw[<-g2];exact h.yZ b0 l g1
  .omega
 .rcases d.re c i hi with g|g|⟨b,L,g1,g2⟩
  .exact h.f i g
  .omega
  .exact h.yZ b L g1 g2
theorem SR.assign(s:SR Q σ X){n c:Nat}{zs:List FC}{fl:Nat}(j:mN σ X c zs)(x:X.H[n]?=aa (.box (zs.map .f) fl))(y:X.cI n=ab) :
  SR Q σ { X with cI:=λb=>if b=n then aa ⟨c,0⟩else X.cI b }/\q8 X.H.length X { X with cI:=λb=>if b=n then aa ⟨c,0⟩else X.cI b }/\VR σ { X with cI:=λb=>if b=n then aa ⟨c,0⟩else X.cI b } (.c (.ptr n 0 0)) (.pointer (aa ⟨c,0,ab⟩)):=by
 have u:q8 X.H.length X { X with cI:=λb=>if b=n then aa ⟨c,0⟩else X.cI b }:=by
  refine⟨λ_ _ h=>h,λ_ _ _=>rfl,λb _ bz g=>⟨bz,g,?_⟩⟩;have:∀L,X.cI b=aa L->(if b=n then aa (⟨c,0⟩:Loc)else X.cI b)=aa L:=λL q=>by
   by_cases e:b=n
   .subst e;rw[y]at q;simp at q
   .rw[bG e];exact q
  cases bz<;>simp only[true_and,and_self]<;>first|exact this|(exact .inl ⟨trivial,trivial,this⟩)|(exact⟨rfl,.inl ⟨rfl,rfl,this⟩⟩)|(exact .inl this)|simpa using this
 obtain⟨us,t,h1,h2⟩:=j.bz;refine⟨⟨λb L g=>?_,λb m L v g d hc=>?_,s.fb⟩,u,⟨⟨c,0⟩,by simp,by rw[x]⟩⟩
 .by_cases e:b=n
  .subst e;simp only[if_true,At]at g;subst g;exact⟨j.b,j.lt,_,x,us,⟨t,(0,0),h1,λi _=>by simp⟩,A2.ej σ u h2,λi _=>j.f i⟩
  .simp only[e,if_false]at g;obtain⟨g1,g2,bz,g3,g4⟩:=s.br b L g;exact⟨g1,g2,bz,g3,BR.rA Q σ u rfl (λ_ h=>h) g4⟩
 .simp only at g d;by_cases e:b=n<;>by_cases l:m=n
  .rw[e,l]
  .rw[bu e]at g;rw[bG l]at d;cases g;exact absurd hc.symm (j.yZ m v d)
  .rw[bG e]at g;rw[bu l]at d;cases d;exact absurd hc (j.yZ b L g)
  .rw[bG e]at g;rw[bG l]at d;exact s.inj b m L v g d hc
abbrev eJ(ops:Array Oper)(aos:List aV):Nat:=mU (dI ops.toList []) aos
def ady(σ:Nat->FuncId)(X0:Wd)(ops:Array Oper)(aos:List aV)(E:Nat)(X:Wd)(a:Act)(p:P)(K:Nat):Prop:=
 ∃y zs c,K=eJ ops aos+1/\E<=eJ ops aos/\aos[eJ ops aos]?=aa y/\y.dst=aa p/\y.op=.alloc zs/\a.tmps.getD p.toNat undef=.pointer (aa ⟨c,0,ab⟩)/\X0.w.heap.size<=c/\mN σ X c zs
structure Inv(Q:Program)(σ:Nat->FuncId)(X0:Wd)(n:Nat)(ops:Array Oper)(aos:List aV)(st:Nat->St)(D:Nat->Prop)(E:Nat)(X:Wd)(a:Act):Prop where
 closed:sN ops.toList D
 dlt:∀j,D j->j<aos.length
 eN:E<=aos.length
 eW:E=aos.length\/Gz aos E
 eD:¬ D E
 wD:∀j,Gz aos j->j<E->D j
 heap:X.H=(st E).heap
 ext:Ext X0.H.length X0 X
 sr:SR Q σ X
 b:X.B<=X.w.heap.size
 defs:gM σ X (st E).defs a.defers
 size:n<=a.tmps.size
 PD:∀p,∃K,K<=aos.length/\(VR σ X ((st K).aF.get p) (a.tmps.getD p.toNat undef)\/ady σ X0 ops aos E X a p K)/\∀j y,aos[j]?=aa y->y.dst=aa p->(j<K↔D j)
 yX:∀j y,j<E->¬ D j->aos[j]?=aa y->cls y.op=.a->(st (j+1)).heap.length≠(st j).heap.length->X.cI (st j).heap.length=ab
section
variable{n:Nat}{ops:Array Oper}{aos:List aV}{jG:List (Nat × Nat)}{st:Nat->St}
theorem mf.nI(R:mf Q σ call n ops aos jG st){p:P}{lo:Nat}:∀(hi:Nat),lo<=hi->hi<=aos.length->(∀j y,lo<=j->j<hi->aos[j]?=aa y->y.dst≠aa p)->(st lo).aF.get p=(st hi).aF.get p
 |0,h,_,_=>by rw[Nat.le_zero.1 h]
 |hi+1,h,g,b=>by
  rcases agq hi lo with h1|h1
  .rw[show lo=hi+1 by omega]
  .rw[mf.nI R hi h1 (by omega) λj y h2 h3=>b j y h2 (by omega)];have hy:=afB (show hi<aos.length by omega);obtain⟨v,d⟩:=FK (R.step hi _ hy);rw[d,wI,bG (b hi _ h1 (by omega) hy)]
theorem mf.dp(R:mf Q σ call n ops aos jG st){lo:Nat}:∀(hi:Nat),lo<=hi->hi<=aos.length->(∀j,lo<=j->j<hi->¬ Gz aos j)->dv (st lo).heap (st hi).heap/\(st hi).defs=(st lo).defs
 |0,h,_,_=>by rw[Nat.le_zero.1 h];exact⟨dv.refl _,rfl⟩
 |hi+1,h,l,b=>by
  rcases agq hi lo with h1|h1
  .rw[show lo=hi+1 by omega];exact⟨dv.refl _,rfl⟩
  .obtain⟨g1,g2⟩:=mf.dp R hi h1 (by omega) λj h2 h3=>b j h2 (by omega);have hy:=afB (show hi<aos.length by omega);obtain⟨d,g⟩:=qW (λhc=>b hi h1 (by omega) ⟨_,hy,hc⟩) (R.step hi _ hy);exact⟨g1.trans d,g.trans g2⟩
theorem mf.at(R:mf Q σ call n ops aos jG st){i:Nat}{y:aV}(hy:aos[i]?=aa y):∃o,ops[i]?=aa o/\nb Q σ n ops o y=ae:=by
 have:=ff R.XE;have hi:i<ops.toList.length:=by rw[this.len];exact(afD.1 hy).1
 have b:=afB hi;refine⟨ops.toList[i],by rw[<-Array.getElem?_toList];exact b,this.2 i _ _ b hy⟩
theorem mf.before(R:mf Q σ call n ops aos jG st){i j:Nat}{x y:aV}(b:i<j)(g:aos[i]?=aa x)(hy:aos[j]?=aa y)(h:x.apart y=ag\/(vB x y=ag/\(j=eJ ops aos->cls x.op≠.w))):Bl (dI ops.toList []) i j=ae:=by
 rcases R.ord.two i j x y b g hy with h1|⟨h1,h2⟩
 .exact h1
 .rcases h with h|⟨h,d⟩
  .rw[h1]at h;simp at h
  .rcases h2 with h2|⟨h2,h3⟩
   .rw[h2]at h;simp at h
   .exact absurd h3 (d h2)
theorem Ext.assign{X0 g:Wd}(h:Ext X0.H.length X0 g){n c:Nat}(j:q8 g.H.length g { g with cI:=λb=>if b=n then aa ⟨c,0⟩else g.cI b })(hc:X0.w.heap.size<=c):Ext X0.H.length X0 { g with cI:=λb=>if b=n then aa ⟨c,0⟩else g.cI b } where
 B:=h.B
 F:=h.F
 re:=h.re
 fw:=h.fw
 cZ:=λb d=>(h.cZ b d).trans (j.cZ b (af9 d h.len))
 yZ:=λb L d=>by
  simp only at d;by_cases e:b=n
  .rw[bu e]at d;cases d;exact .inr hc
  .rw[bG e]at d;exact h.yZ b L d
 size:=h.size
 os:=h.os
 tape:=h.tape
 output:=h.output
 frame:=h.frame
theorem mf.ND(R:mf Q σ call n ops aos jG st){y:aV}(hy:aos[eJ ops aos]?=aa y):cls y.op=.a:=by
 obtain⟨⟨zs,h⟩,_⟩:=R.ord.ear y hy;rw[h];rfl
theorem Nd{x y:aV}{p:P}(h:x.dst=aa p)(b:p∈y.rd):x.apart y=ag:=by
 simp[aV.apart,h,b]
theorem BA{x y:aV}{p:P}(h:x.dst=aa p)(b:y.dst=aa p):x.apart y=ag:=by
 simp[aV.apart,h,b]
theorem Nc{x y:aV}{p:P}(h:p∈x.rd)(b:y.dst=aa p):x.apart y=ag:=by
 simp[aV.apart,h,b]
structure me(ops:Array Oper)(aos:List aV)(D:Nat->Prop)(i:Nat)(o:Oper)(y:aV):Prop where
 ho:ops[i]?=aa o
 hy:aos[i]?=aa y
 hD:¬ D i
 pre:∀e∈o.after.toList,Region.binds .any e=ae->D e.on
variable{X0:Wd}{D:Nat->Prop}{E i:Nat}{a:Act}{o:Oper}{y:aV}
theorem me.qO(d:Inv Q σ X0 n ops aos st D E X a)(b:me ops aos D i o y){j:Nat}(h:Bl (dI ops.toList []) j i=ae):D j:=
 d.closed.ready (by simpa using b.ho) b.pre h
theorem me.rQ(b:Inv Q σ X0 n ops aos st D E X a)(g:me ops aos D i o y){j:Nat}(h:Bl (dI ops.toList []) i j=ae):¬ D j:=
 λd=>g.hD (b.closed.below j d h)
theorem mf.reads(R:mf Q σ call n ops aos jG st)(m:Inv Q σ X0 n ops aos st D E X a)(b:me ops aos D i o y){p:P}(B:p∈y.rd):VR σ X ((st i).aF.get p) (a.tmps.getD p.toNat undef):=by
 obtain⟨K,I,s,H⟩:=m.PD p;have hi:i<aos.length:=(afD.1 b.hy).1;have s:VR σ X ((st K).aF.get p) (a.tmps.getD p.toNat undef):=by
  rcases s with s|⟨z,zs,c,_,M,d,g,_⟩
  .exact s
  .exfalso;obtain⟨_,_,N,x,l⟩:=R.ord.ear z d;rw[g]at x;cases x;have J:=(afD.1 d).1;rcases m.eW with h4|v
   .omega
   .have L:E≠eJ ops aos:=by
     intro e;obtain⟨q,F,A⟩:=v;rw[e]at F;rw[R.ND F]at A;cases A
    exact m.eD (b.qO m (l i y b.hy B E v (show E<eJ ops aos by omega)))
 rcases Nat.le_total K i with h|h
 .rw[<-R.nI i h (by omega) λj z h1 h2 d g=>?_]
  .exact s
  .have:=b.qO m (R.before h2 d b.hy (.inl (Nd g B)));have:=(H j z d g).2 this;omega
 .rw[R.nI K h I λj z h1 h2 d g=>?_]
  .exact s
  .have u:=(H j z d g).1 h2;rcases agq i j with h3|h3
   .exact b.rQ m (R.before h3 b.hy d (.inl (Nc B g))) u
   .have:j=i:=by omega
    subst this;exact b.hD u
theorem mf.fin(R:mf Q σ call n ops aos jG st)(F:Inv Q σ X0 n ops aos st D E X a)(q:me ops aos D i o y){l:Wd}{a1:Act}{u:Value}{v:V}{m:Nat}(hS:SR Q σ l)(hB:l.B<=l.w.heap.size)(a_:Ext X0.H.length X0 l)
  (hm:∀v u,VR σ X v u->VR σ l v u) (a9:∀y zs c p,E<=eJ ops aos->aos[eJ ops aos]?=aa y->y.op=.alloc zs->y.dst=aa p->D (eJ ops aos)->a.tmps.getD p.toNat undef=.pointer (aa ⟨c,0,ab⟩)->X0.w.heap.size<=c->mN σ X c zs->if m<=eJ ops aos then mN σ l c zs else VR σ l ((st (eJ ops aos+1)).aF.get p) (.pointer (aa ⟨c,0,ab⟩)))
  (hv:VR σ l v u\/(i=eJ ops aos/\m<=eJ ops aos/\∃zs c,y.op=.alloc zs/\u=.pointer (aa ⟨c,0,ab⟩)/\X0.w.heap.size<=c/\mN σ l c zs))
  (ht:a1.tmps=(a.put o.dst u).tmps) (U:(st (i+1)).aF=lS (st i).aF y.dst v) (h1:m<=aos.length) (h2:m=aos.length\/Gz aos m) (h3:¬ (D m\/m=i)) (h4:∀j,Gz aos j->j<m->D j\/j=i)
  (hH:l.H=(st m).heap) (hd:gM σ l (st m).defs a1.defers)
  (hh:∀j y,j<m->¬ (D j\/j=i)->aos[j]?=aa y->cls y.op=.a->(st (j+1)).heap.length≠(st j).heap.length->l.cI (st j).heap.length=ab) :
  Inv Q σ X0 n ops aos st (λj=>D j\/j=i) m l a1:=by
 have hi:i<aos.length:=(afD.1 q.hy).1;obtain⟨o',S,A⟩:=R.at q.hy;rw[q.ho]at S;cases S;have oe:(a.put o.dst u).tmps.size=a.tmps.size:=by cases o.dst<;>simp[Act.put]
 refine⟨λj oj O B e he hb=>?_,λj O=>O.elim (F.dlt j) λh=>h▸hi,h1,h2,h3,h4,hH,a_,hS,hB,hd,by rw[ht,oe];exact F.size,λp=>?_,hh⟩
 .rcases O with O|rfl
  .exact .inl (F.closed j oj O B e he hb)
  .have:oj=o:=by have:=q.ho;simp at B;rw[this]at B;cases B;rfl
   subst this;exact .inl (q.pre e he hb)
 .by_cases b:y.dst=aa p
  .have s:a1.tmps.getD p.toNat undef=u:=by
    rw[ht];simp only[nb,afE]at A;have g:=A.1.2;rw[b]at g;split at g
    .rename_i d p' L J;simp only[afE,beq_iff_eq,decide_eq_true_eq]at g;cases J;have Z:d<a.tmps.size:=af9 g.2 F.size;rw[L,g.1];simp only[Act.put];simp[Z]
    .rename_i J;simp at J
    .simp at g
   refine⟨i+1,hi,?_,λj z I x=>⟨λh=>?_,λh=>?_⟩⟩
   .rcases hv with hv|⟨N,Y,zs,c,g1,g2,g3,g4⟩
    .left;rw[U,wI,bu b,s];exact hv
    .right;exact⟨y,zs,c,by rw[N],Y,by rw[<-N];exact q.hy,b,g1,by rw[s];exact g2,g3,g4⟩
   .rcases agq j i with M|M
    .exact .inl (q.qO F (R.before M I q.hy (.inl (BA x b))))
    .exact .inr (by omega)
   .rcases h with h|rfl
    .rcases agq i j with M|M
     .exact absurd h (q.rQ F (R.before M q.hy I (.inl (BA b x))))
     .omega
    .omega
  .obtain⟨K,hK,H,hw⟩:=F.PD p;have e:a1.tmps.getD p.toNat undef=a.tmps.getD p.toNat undef:=by
    rw[ht];simp only[nb,afE]at A;have g:=A.1.2;split at g
    .rename_i d p' L J;simp only[afE,beq_iff_eq,decide_eq_true_eq]at g;have a8:d≠p.toNat:=λe=>b (by rw[J,P.toNat_inj (g.1.trans e)]);rw[L];simp[Act.put,Array.getD_eq_getD_getElem?,Array.getElem?_setIfInBounds_ne a8]
    .rename_i L J;rw[L];rfl
    .simp at g
   refine⟨K,hK,?_,λj z I x=>?_⟩
   .rcases H with H|⟨z,zs,c,g1,g2,g3,g4,g5,g6,g7,g8⟩
    .left;rw[e];exact hm _ _ H
    .have W:D (eJ ops aos):=(hw _ z g3 g4).1 (by omega);have:=a9 z zs c p g2 g3 g5 g4 W g6 g7 g8;split at this
     .rename_i Y;right;exact⟨z,zs,c,g1,Y,g3,g4,g5,by rw[e];exact g6,g7,this⟩
     .left;rw[e,g6,g1];exact this
   .rw[hw j z I x];exact⟨.inl,λh=>h.elim id λh=>absurd (by rw[h]at I;rw[q.hy]at I;cases I;exact x) b⟩
end
end
section
variable{Q:Program}{σ:Nat->FuncId}{X:Wd}{call:cU}
variable{n:Nat}{ops:Array Oper}{aos:List aV}{jG:List (Nat × Nat)}{st:Nat->St}
variable{X0:Wd}{D:Nat->Prop}{E i:Nat}{a:Act}{o:Oper}{y:aV}
theorem ru{x y:aV}(h:cls x.op=.w)(d:cls y.op≠.p)(b:cls y.op≠.r):vB x y=ag:=by
 unfold vB;rw[h];cases g:cls y.op<;>simp_all
theorem vC{x y:aV}(h:cls y.op=.w)(d:cls x.op≠.p)(b:cls x.op≠.r):vB x y=ag:=by
 unfold vB;rw[h];cases g:cls x.op<;>simp_all
theorem mf.wo(R:mf Q σ call n ops aos jG st){j:Nat}{z:aV}(b:aos[j]?=aa z)(hc:cls z.op≠.a):j≠eJ ops aos:=by
 rintro rfl;exact hc (R.ND b)
theorem mf.Yu(R:mf Q σ call n ops aos jG st)(d:Inv Q σ X0 n ops aos st D E X a)(b:me ops aos D i o y)(hc:cls y.op=.w):i=E:=by
 have hi:i<aos.length:=(afD.1 b.hy).1;rcases agN i E with h|h|h
 .exact absurd (d.wD i ⟨y,b.hy,hc⟩ h) b.hD
 .exact h
 .rcases d.eW with h1|⟨z,j,g⟩
  .omega
  .exact absurd (b.qO d (R.before h j b.hy (.inr ⟨ru g (by simp[hc]) (by simp[hc]),λe=>absurd e (R.wo b.hy (by simp[hc]))⟩))) d.eD
theorem mf.M7(R:mf Q σ call n ops aos jG st)(g:Inv Q σ X0 n ops aos st D E X a)(d:me ops aos D i o y)(h1:cls y.op≠.p)(h2:cls y.op≠.r)(h3:cls y.op≠.w)(u:i=eJ ops aos->i<E):i<E/\∀j,i<=j->j<E->¬ Gz aos j:=by
 have hi:i<aos.length:=(afD.1 d.hy).1;refine⟨?_,λj v q s=>?_⟩
 .rcases agN i E with h|h|h
  .exact h
  .rcases g.eW with h4|⟨z,l,b⟩
   .omega
   .rw[<-h,d.hy]at l;cases l;exact absurd b h3
  .rcases g.eW with h4|⟨z,l,b⟩
   .omega
   .exact absurd (d.qO g (R.before h l d.hy (.inr ⟨ru b h1 h2,λe=>by have:=u e;omega⟩))) g.eD
 .have m:=g.wD j s q;obtain⟨z,l,b⟩:=s;rcases agq i j with h|h
  .exact d.rQ g (R.before h d.hy l (.inr ⟨vC b h1 h2,λ_=>h3⟩)) m
  .have:j=i:=by omega
   subst this;exact d.hD m
theorem mf.ad5(R:mf Q σ call n ops aos jG st)(d:Inv Q σ X0 n ops aos st D E X a)(s:me ops aos D i o y)(hc:cls y.op=.r)(L:wanted (st i).aF y.g=aa ae){v:V}{F:aj}(h:bF (st i).aF (st i).heap y.op=aa (v,F)) :
  F=(st i).heap/\bF (st i).aF X.H y.op=aa (v,X.H):=by
 have hi:i<aos.length:=(afD.1 s.hy).1;refine⟨(Hk hc (dv.refl _) h).1,?_⟩;have q:Cn (dI ops.toList []) aos i E=ae:=by
  unfold Cn;rw[af4];intro j K;have l:=oQ.1 K;split
  .rename_i m;have b:=d.wD j l m;cases x:Bl (dI ops.toList []) i j with
   |false=>rfl| true=>exact absurd b (s.rQ d x)
  .rename_i m;cases x:Bl (dI ops.toList []) j i with
   |false=>rfl
   |true=>
    exfalso;have b:=s.qO d x;rcases agq E j with h1|h1
    .rcases d.eW with h4|⟨z,M,B⟩
     .have:=d.dlt j b;omega
     .obtain⟨O,u,g⟩:=l;exact d.eD (d.closed.below j b (R.before h1 M u (.inr ⟨ru B (by simp[g]) (by simp[g]),λe=>absurd e (R.wo u (by simp[g]))⟩)))
    .have:j=E:=by omega
     subst this;exact d.eD b
 rw[d.heap];rcases R.ord.rd i y E s.hy hc (d.eW.symm) q with A|A
 .obtain⟨p1,_,_,H⟩:=qQ (aos:=aos) (i:=i) (by omega);rw[<-A]at p1 H;exact(Hk hc (R.dp E p1 d.eN H).1 h).2
 .obtain⟨N,I,J,g1,g2⟩:=R.adH i E y A s.hy L;rw[h]at g1;cases g1;have:=(Hk hc (dv.refl _) g2).1;rw[this]at g2;exact g2
theorem mf.QZ(R:mf Q σ call n ops aos jG st){z:aV}(d:aos[eJ ops aos]?=aa z){zs:List FC}(b:z.op=.alloc zs){p:P}(g:z.dst=aa p) :
  (st (eJ ops aos+1)).heap=(st (eJ ops aos)).heap++[.box (zs.map .f) 0]/\(st (eJ ops aos+1)).aF.get p=.c (.ptr (st (eJ ops aos)).heap.length 0 0):=by
 obtain⟨_,hg,_⟩:=R.ord.ear z d;have h:=R.step _ z d;simp only[gE,hg,wanted,b,fH,bF,agv,At]at h;rw[<-h];exact⟨rfl,by rw[wI,bu g]⟩
theorem mf.FZ(R:mf Q σ call n ops aos jG st)(s:Inv Q σ X0 n ops aos st D E X a)(x:me ops aos D i o y)(hc:cls y.op=.w){d:Wd}{a1:Act}{u:Value}{v:V}(hS:SR Q σ d)(hB:d.B<=d.w.heap.size)(hx:Ext X.H.length X d)
  (hv:VR σ d v u) (ht:a1.tmps=(a.put o.dst u).tmps) (B:(st (i+1)).aF=lS (st i).aF y.dst v) (hH:d.H=(st (i+1)).heap) (hd:gM σ d (st (i+1)).defs a1.defers) :
  ∃E' X2,X2.w=d.w/\Inv Q σ X0 n ops aos st (λj=>D j\/j=i) E' X2 a1:=by
 have hi:i<aos.length:=(afD.1 x.hy).1;have a_:=R.Yu s x hc;subst a_;obtain⟨p1,p2,p3,J⟩:=qQ (aos:=aos) (i:=i+1) (by omega);obtain⟨q1,q2⟩:=R.dp _ p1 p2 J;rw[<-hH]at q1;obtain⟨k1,Z⟩:=SR.ahead hS q1;have g:Ext X.H.length X { d with H:=(st (phase aos (i+1))).heap }:=hx.trans (Z.mono hx.len);have I:Ext X0.H.length X0 { d with H:=(st (phase aos (i+1))).heap }:=s.ext.trans (g.mono s.ext.len);have K:¬ (D (phase aos (i+1))\/phase aos (i+1)=i):=by
  rintro(h|h)
  .rcases p3 with h1|⟨z,hz,l⟩
   .have:=s.dlt _ h;omega
   .exact x.rQ s (R.before p1 x.hy hz (.inr ⟨ru hc (by simp[l]) (by simp[l]),λe=>absurd e (R.wo hz (by simp[l]))⟩)) h
  .omega
 have N:∀j,Gz aos j->j<phase aos (i+1)->D j\/j=i:=by
  intro j U hj;rcases agN j i with h|h|h
  .exact .inl (s.wD j U h)
  .exact .inr h
  .exact absurd U (J j h hj)
 have S:gM σ { d with H:=(st (phase aos (i+1))).heap } (st (phase aos (i+1))).defs a1.defers:=by rw[q2];exact hd.ext' Z
 have iJ:i≠eJ ops aos:=R.wo x.hy (by simp[hc]);have yX:∀j z,j<phase aos (i+1)->¬ (D j\/j=i)->aos[j]?=aa z->cls z.op=.a->(st (j+1)).heap.length≠(st j).heap.length->i<j/\d.cI (st j).heap.length=ab:=by
  intro j z hj hD hz l A;rcases agN j i with h|h|h
  .exact absurd (.inl (x.qO s (R.before h hz x.hy (.inr ⟨vC hc (by simp[l]) (by simp[l]),λe=>absurd e iJ⟩)))) hD
  .exact absurd (.inr h) hD
  .have F:=(R.dp j h (by omega) λk h1 h2=>J k h1 (by omega)).1.len;rw[<-hH]at F;refine⟨h,?_⟩;cases m:d.cI (st j).heap.length with
   |none=>rfl| some L=>have:=SR.lt hS m;omega
 by_cases hP:∃z zs c p,i<=eJ ops aos/\eJ ops aos<phase aos (i+1)/\aos[eJ ops aos]?=aa z/\z.op=.alloc zs/\z.dst=aa p/\D (eJ ops aos)/\a.tmps.getD p.toNat undef=.pointer (aa ⟨c,0,ab⟩)/\X0.w.heap.size<=c/\mN σ X c zs
 .obtain⟨z,zs,c,p,g1,g2,g3,g4,g5,g6,g7,g8,g9⟩:=hP;obtain⟨s1,s2⟩:=R.QZ g3 g4 g5;have M:i<eJ ops aos:=by omega
  have b9:(st (i+1)).heap.length<=(st (eJ ops aos)).heap.length:=(R.dp _ M (by omega) λk h1 h2=>J k h1 (by omega)).1.len;obtain⟨fl,O⟩:∃fl,(st (phase aos (i+1))).heap[(st (eJ ops aos)).heap.length]?=aa (.box (zs.map .f) fl):=by
   have W:=(R.dp (phase aos (i+1)) (show eJ ops aos+1<=_ by omega) p2 λk h1 h2=>J k (by omega) h2).1;rw[s1]at W;exact rF W
  have b_:mN σ { d with H:=(st (phase aos (i+1))).heap } c zs:=g9.ext g;have c_:d.cI (st (eJ ops aos)).heap.length=ab:=by
   cases m:d.cI (st (eJ ops aos)).heap.length with
   |none=>rfl| some L=>have:=SR.lt hS m;rw[hH]at this;omega
  obtain⟨a8,q,a9⟩:=SR.assign k1 b_ O c_;refine⟨phase aos (i+1),{ d with H:=(st (phase aos (i+1))).heap,cI:=λb=>if b=(st (eJ ops aos)).heap.length then aa ⟨c,0⟩else d.cI b },rfl,R.fin s x a8 hB (I.assign q g8) (λv u h=>VR.ej σ q (VR.ext' σ g h)) ?_ (.inl (VR.ej σ q (VR.ext' σ Z hv))) ht B p2 p3 K N rfl (gM.ej q S) ?_⟩
  .intro z' d9 c' p' _ e2 _ e4 _ e6 _ _;rw[g3]at e2;cases e2;rw[g5]at e4;cases e4;rw[g7]at e6;simp only[Value.pointer.injEq,At,Addr.mk.injEq,true_and,and_true]at e6;subst e6;rw[bG (by omega),s2];exact a9
  .intro j w hj hD hw Y A;obtain⟨f1,f2⟩:=yX j w hj hD hw Y A;show(if(st j).heap.length=(st (eJ ops aos)).heap.length then aa (⟨c,0⟩:Loc)else d.cI (st j).heap.length)=ab;rw[bG,f2];intro e;rcases agN j (eJ ops aos)with h|h|h
   .have h1:=(R.dp (lo:=j+1) (eJ ops aos) h (by omega) λk h1 h2=>J k (by omega) (by omega)).1.len;have h2:=(qW (by simp[Y]) (R.step j w hw)).1.len;clear I g k1 Z;omega
   .exact hD (.inl (by rw[h];exact g6))
   .have h1:=(R.dp (lo:=eJ ops aos+1) j h (by omega) λk h1 h2=>J k (by omega) (by omega)).1.len;rw[s1,afK]at h1;simp only[List.length_cons,agQ]at h1;omega
 .refine⟨phase aos (i+1),{ d with H:=(st (phase aos (i+1))).heap },rfl,R.fin s x k1 hB I (λv u h=>VR.ext' σ g h) ?_ (.inl (VR.ext' σ Z hv)) ht B p2 p3 K N rfl S (λj z h1 h2 h3 h4 h5=>(yX j z h1 h2 h3 h4 h5).2)⟩;intro z zs c p g1 g2 g3 g4 g5 g6 g7 g8;by_cases F:phase aos (i+1)<=eJ ops aos
  .rw[bu F];exact g8.ext g
  .exact absurd ⟨z,zs,c,p,g1,by omega,g2,g3,g4,g5,g6,g7,g8⟩ hP
theorem mf.pA(R:mf Q σ call n ops aos jG st)(d:Inv Q σ X0 n ops aos st D E X a)(l:me ops aos D i o y)(hc:cls y.op≠.w){b:Wd}{a1:Act}{u:Value}{v:V}(F:SR Q σ b)(A:b.B<=b.w.heap.size)(m:Ext X.H.length X b)
  (K:VR σ b v u\/(i=eJ ops aos/\E<=eJ ops aos/\∃zs c,y.op=.alloc zs/\u=.pointer (aa ⟨c,0,ab⟩)/\X0.w.heap.size<=c/\mN σ b c zs)) (J:a1.tmps=(a.put o.dst u).tmps) (g:(st (i+1)).aF=lS (st i).aF y.dst v) (B:b.H=X.H) (H:gM σ b (st E).defs a1.defers)
  (I:∀j z,j<E->¬ (D j\/j=i)->aos[j]?=aa z->cls z.op=.a->(st (j+1)).heap.length≠(st j).heap.length->b.cI (st j).heap.length=ab) :
  Inv Q σ X0 n ops aos st (λj=>D j\/j=i) E b a1:=by
 refine R.fin d l F A (d.ext.trans (m.mono d.ext.len)) (λv u h=>VR.ext' σ m h) (λz zs c p g1 _ _ _ _ _ _ x=>by rw[bu g1];exact x.ext m) K J g d.eN d.eW ?_ (λj h1 h2=>.inl (d.wD j h1 h2)) (B.trans d.heap) H I;rintro(h|h)
 .exact d.eD h
 .have hi:i<aos.length:=(afD.1 l.hy).1;rcases d.eW with h1|⟨z,s,q⟩
  .omega
  .rw[h,l.hy]at s;cases s;exact hc q
theorem mf.jB(d:Inv Q σ X0 n ops aos st D E X a){b:Wd}(h:b.cI=X.cI):∀j z,j<E->¬ (D j\/j=i)->aos[j]?=aa z->cls z.op=.a->(st (j+1)).heap.length≠(st j).heap.length->b.cI (st j).heap.length=ab:=
 λj z h1 h2 h3 h4 h5=>by rw[h];exact d.yX j z h1 (λh=>h2 (.inl h)) h3 h4 h5
theorem mf.E8(R:mf Q σ call n ops aos jG st)(q:Inv Q σ X0 n ops aos st D E X a)(u:me ops aos D i o y)(hc:cls y.op=.a)(F:i=eJ ops aos->i<E)(m:(st (i+1)).heap.length≠(st i).heap.length){j:Nat}{z:aV}(J:j<E)(hD:¬ (D j\/j=i))(B:aos[j]?=aa z)(d:cls z.op=.a)
  (g:(st (j+1)).heap.length≠(st j).heap.length):(st j).heap.length≠(st i).heap.length:=by
 have hi:i<aos.length:=(afD.1 u.hy).1;obtain⟨g1,g2⟩:=R.M7 q u (by simp[hc]) (by simp[hc]) (by simp[hc]) F;have I:∀k,j<=k->k<E->¬ Gz aos k:=by
  intro k h1 h2 s;have l:=q.wD k s h2;obtain⟨w,v,x⟩:=s;rcases agq j k with h|h
  .exact hD (.inl (q.closed.below k l (R.before h B v (.inr ⟨vC x (by simp[d]) (by simp[d]),λ_=>by simp[d]⟩))))
  .have:k=j:=by omega
   subst this;exact hD (.inl l)
 have b:∀k w,aos[k]?=aa w->cls w.op=.a->(st (k+1)).heap.length≠(st k).heap.length->(st k).heap.length<(st (k+1)).heap.length:=by
  intro k w s A H;have:=(qW (by simp[A]) (R.step k w s)).1.len;omega
 rcases agN j i with h|h|h
 .have h1:=b j z B d g;have h2:(st (j+1)).heap.length<=(st i).heap.length:=(R.dp i h (by omega) λk h3 h4=>I k (by omega) (by omega)).1.len;omega
 .exact absurd (.inr h) hD
 .have h1:=b i y u.hy hc m;have h2:(st (i+1)).heap.length<=(st j).heap.length:=(R.dp j h (by have:=q.eN;omega) λk h3 h4=>g2 k (by omega) (by omega)).1.len;omega
end
section
variable{Q:Program}{σ:Nat->FuncId}{X:Wd}{call:cU}
variable{n:Nat}{ops:Array Oper}{aos:List aV}{jG:List (Nat × Nat)}{st:Nat->St}
variable{X0:Wd}{D:Nat->Prop}{E i:Nat}{a:Act}{o:Oper}{y:aV}
theorem Fv{w':World}{q:Obj}(g:SR Q σ X)(d:ef X.w w' q):SR Q σ { X with w:=w' }/\Ext X.H.length X { X with w:=w' }:=by
 have j:Ext X.H.length X { X with w:=w' }:=Ext.one g X.H.length rfl (λ_ _=>Iff.rfl) (λk m _=>d.Dm m)
  (λL i h=>by rw[SR.tC g]at h;simp at h) (λh=>absurd h (ahm _)) (λ_ _ _=>rfl) (λ_ _=>rfl) (λL h=>.inl ⟨L,h,rfl⟩) (by show _<=w'.heap.size;rw[d.size];omega) d.os d.tape d.output
 refine⟨SR.step Q σ g j X.H.length (λ_ _=>rfl) (λ_ _=>rfl) (λb L _ l=>d.Dm (g.br b L l).2.1)
  (λ_ _ _ _ _ h=>h) (λL h=>by change X.cI X.H.length=aa L at h;rw[SR.tC g]at h;simp at h) (λc i h=>?_),j⟩
 have:=g.fb c i h;show c<w'.heap.size;rw[d.size];omega
theorem OH{y:aV}{p:P}(h:p∈y.op.rd):p∈y.rd:=by unfold aV.rd;exact afY.2 (.inr h)
theorem Gs{y:aV}{p:P}{w:Bool}(h:y.g=aa (p,w)):p∈y.rd:=by unfold aV.rd;rw[h];simp
theorem mf.Sr(hC:fS Q σ call)(R:mf Q σ call n ops aos jG st)(d:Inv Q σ X0 n ops aos st D E X a)(A:me ops aos D i o y){b:Frame}{rest:List Nat}{k:List Item}{cs:List Frame}(hk:kY b cs)(j6:iH y.op b) :
  ∃E' X' a',Steps Q (lone (b.atR a (.inRegion ops (i::rest)::k)) cs X.w) (lone (b.atR a' (.inRegion ops rest::k)) cs X'.w)/\Inv Q σ X0 n ops aos st (λj=>D j\/j=i) E' X' a'/\a'.tmps.size=a.tmps.size:=by
 have hi:i<aos.length:=(afD.1 A.hy).1;obtain⟨o',f_,hm⟩:=R.at A.hy;rw[A.ho]at f_;cases f_;have g:=R.step i y A.hy;have S:∀p∈y.rd,VR σ X ((st i).aF.get p) (a.tmps.getD p.toNat undef):=λp hp=>R.reads d A hp;have l:dZ Q σ o y.op=ae:=by simp only[nb,afE]at hm;exact hm.1.1
 have K:∀u,(a.put o.dst u).tmps.size=a.tmps.size:=λu=>by cases o.dst<;>simp[Act.put]
 have J:∀(a:Act) u,(a.put o.dst u).defers=a.defers:=λa u=>by cases o.dst<;>rfl
 have i6:∀(a a':Act) u,a'.tmps=a.tmps->(a'.put o.dst u).tmps=(a.put o.dst u).tmps:=λa a' u h=>by cases o.dst<;>simp[Act.put,h]
 unfold gE at g;split at g
 .rename_i d9;have hw:=pR hm (aF:=(st i).aF) (tmps:=a.tmps) (X:=X) (λp w' hg=>S p (Gs hg)) d.size d9;split at g
  .rename_i v s1 h1;simp only[At]at g;have B:(st (i+1)).aF=lS (st i).aF y.dst v:=by rw[<-g,<-zL h1]
   have q:(st (i+1)).heap=s1.heap:=by rw[<-g]
   have N:(st (i+1)).defs=s1.defs:=by rw[<-g]
   have F:∀p∈y.op.rd,(st i).aF.get p=(jA (st i).aF y.op.rd).get p:=λp hp=>by rw[wM,bu hp]
   have Z:RR σ X (jA (st i).aF y.op.rd) a.tmps:=λp=>by
    rw[wM];split
    .rename_i hp;exact S p (OH hp)
    .trivial
   have M:=Hj F h1;by_cases m:cls y.op=.w
   .have a9:=R.Yu d A m;obtain⟨g1,g2⟩:=Hi hC d.sr d.b (s:={ st i with aF:=jA (st i).aF y.op.rd }) (by rw[d.heap,<-a9]) Z (by rw[a9];exact d.defs) l M;obtain⟨X1,u,a1,k1,⟨k2,k3,k4,k5,k6⟩,k7,k8⟩:=g1 b ops i rest k cs A.ho hw hk j6;obtain⟨E',X2,q1,q2⟩:=R.FZ d A m (a1:=a1.put o.dst u) k3 k6 k5 k4 (i6 a a1 u k7) B (by rw[k2,q]) (by rw[N,J];exact k8);exact⟨E',X2,a1.put o.dst u,by rw[q1];exact k1,q2,by rw[i6 a a1 u k7,K]⟩
   .
    have j5:∀c,o.op≠.defer c:=rN l (λx xs e=>m (by rw[e];rfl)) (λe=>by rw[e]at h1;simp[fH,bF]at h1);have one:∀{u:Value} {w':World},(execOp a.eval o).run Q X.w=.ok (.value u) w'->Steps Q (lone (b.atR a (.inRegion ops (i::rest)::k)) cs X.w) (lone (b.atR (a.put o.dst u) (.inRegion ops rest::k)) cs w'):=by
     intro u w' a_;refine .one (step_lone_go ?_);rw[stepGR_op A.ho hw,Oper.semAt_eq _ _ _ j5];have a8:=Frame.finish_atR b a ops i rest k u;rw[A.ho]at a8;simp only[agr]at a8;rw[<-a8];simp[stepG.apply,Sem.runT_eq,a_]
    by_cases H:cls y.op=.c
    .
     obtain⟨f,xs,c_⟩:∃f xs,y.op=.call f xs ag:=by
      generalize y.op=op at H;cases op<;>first|(simp only[cls,reduceCtorEq]at H;done)|skip
      rename_i f xs hh;cases hh
      .exact⟨f,xs,rfl⟩
      .simp[cls]at H
     have I:=Z;rw[c_]at M l I;simp only[fH,iI,afR,if_false,afF,afG]at M;obtain⟨⟨v',H'⟩,hp,rfl,h_⟩:=M;have j4:H'=(st (i+1)).heap:=by
      rw[q];simp only[St.mk.injEq]at h_;exact h_.2.2
     obtain⟨g1,g2⟩:=R.M7 d A (by simp[H]) (by simp[H]) (by simp[H]) (λe=>absurd e (R.wo A.hy (by simp[H])));have e9:dv H' X.H:=by
      rw[j4,d.heap];exact(R.dp E g1 d.eN λj h1 h2=>g2 j (by omega) h2).1
     obtain⟨X1,u,k1,⟨k2,k3,k4,k5,k6⟩,k7⟩:=Ar hC d.sr d.b I l hp e9 b ops i rest k cs A.ho hw;exact⟨E,X1,a.put o.dst u,k1,R.pA d A m k3 k6 k5 (.inl k4) rfl B k2 (by rw[J];exact d.defs.ext' k5) (mf.jB d k7),K u⟩
    .have hx:(bF (jA (st i).aF y.op.rd) (st i).heap y.op)=aa (v,s1.heap):=by
      have b_:¬ ((∃f xs h,y.op=.call f xs h)\/(∃x xs h,y.op=.gN x xs h)\/y.op=.recover\/∃x xs,y.op=.defer x xs):=by
       rintro(⟨f,xs,hh,e⟩|⟨x,xs,hh,e⟩|e|⟨x,xs,e⟩)<;>rw[e]at m H
       .cases hh
        .exact H rfl
        .exact m rfl
       .exact m rfl
       .exact m rfl
       .exact m rfl
      have hx:(bF (jA (st i).aF y.op.rd) (st i).heap y.op).map (λr=>(r.1,({ st i with aF:=jA (st i).aF y.op.rd,heap:=r.2 }:St)))=aa (v,{ s1 with aF:=jA (st i).aF y.op.rd }):=by
       generalize jA (st i).aF y.op.rd=r at M;generalize y.op=op at M b_;cases op<;>first|exact M|(exfalso;apply b_;simp)
      simp only[afF,afG,St.mk.injEq]at hx;obtain⟨⟨v',H'⟩,h2,rfl,_,_,h3⟩:=hx;rw[h2];simp only at h3;rw[h3]
     by_cases Y:cls y.op=.a
     .by_cases U:i=eJ ops aos/\E<=i
      .
       obtain⟨f7,i_⟩:=U;obtain⟨⟨zs,c_⟩,_,_⟩:=R.ord.ear y (show aos[eJ ops aos]?=aa y from f7▸A.hy);have f8:=hx;rw[c_]at f8 l;simp only[bF,At,afG]at f8;obtain⟨rfl,_⟩:=f8;simp only[dZ]at l;split at l
       .rename_i t ho;obtain⟨z,us,i7,i8,i9,_⟩:=fG (σ:=σ) (X:=X) l X.w;have a_:(execOp a.eval o).run Q X.w=.ok (.value (.pointer (aa ⟨X.w.heap.size,0,ab⟩))) (X.w.alloc (.cells us.toArray t)):=by
         simp only[execOp,ho];refine ey ?_;simp[Instr.alloc,i7,newVar,newRow,i8]
        obtain⟨e1,e2⟩:=Fv d.sr (ef.alloc X.w (.cells us.toArray t));refine⟨E,{ X with w:=X.w.alloc (.cells us.toArray t) },a.put o.dst (.pointer (aa ⟨X.w.heap.size,0,ab⟩)),one a_,R.pA d A m e1 (by have:=d.b;simp;omega) e2 (.inr ⟨f7,by rw[<-f7];exact i_,zs,X.w.heap.size,c_,rfl,d.ext.size,?_⟩) rfl B rfl (by rw[J];exact d.defs.ext' e2) (mf.jB d rfl),K _⟩;exact⟨⟨us,t,(ef.alloc X.w (.cells us.toArray t)).new,A2.ext' σ e2 i9⟩,d.b,λb L hb=>by have:=(d.sr.br b L hb).2.1;omega,λj hj=>by have:=d.sr.fb _ j hj;omega⟩
       .simp at l
      have hJ:i=eJ ops aos->i<E:=λe=>by
       rcases agq i E with h|h
       .exact h
       .exact absurd ⟨e,h⟩ U
      obtain⟨g1,g2⟩:=R.M7 d A (by simp[Y]) (by simp[Y]) (by simp[Y]) hJ;have e9:dv s1.heap X.H:=by
       rw[<-q,d.heap];exact(R.dp E g1 d.eN λj h1 h2=>g2 j (by omega) h2).1
      obtain⟨X1,u,k1,⟨k2,k3,k4,k5,k6⟩,k7,k8⟩:=Rx d.sr d.b Z Y l hx e9 (λb_=>d.yX i y g1 A.hD A.hy Y (by rw[q];exact b_));refine⟨E,X1,a.put o.dst u,one k1,R.pA d A m k3 k6 k5 (.inl k4) rfl B k2 (by rw[J];exact d.defs.ext' k5) ?_,K u⟩;by_cases d_:(st (i+1)).heap.length=(st i).heap.length
      .exact mf.jB d (k8 (by rw[<-q];exact d_))
      .intro j z h2 h3 h4 h5 h6;rw[k7 _ (R.E8 d A Y hJ d_ h2 h3 h4 h5 h6)];exact d.yX j z h2 (λh=>h3 (.inl h)) h4 h5 h6
     .
      have g_:cls y.op=.p\/cls y.op=.r:=by cases b9:cls y.op<;>simp_all
      have j8:bF (st i).aF (st i).heap y.op=aa (v,s1.heap):=by rw[FJ F];exact hx
      have i5:bF (jA (st i).aF y.op.rd) X.H y.op=aa (v,X.H):=by
       rcases g_ with b9|b9
       .have:=TD (r:=jA (st i).aF y.op.rd) b9 (st i).heap X.H;rw[hx]at this;simpa using this
       .rw[<-FJ F];exact(R.ad5 d A b9 d9 j8).2
      cases e_:y.op.YN
      case true=>
       have O:=l;have W:=i5;have I:=Z;obtain⟨rg,j7⟩:=aD (jA (st i).aF y.op.rd);rw[<-j7]at W I;revert O W;generalize y.op=op at e_;cases op<;>simp only[dd.YN,reduceCtorEq]at e_;intro O W;obtain⟨_,u,X1,k1,k2,k3,k4,k5,k6,k7⟩:=yT d.sr d.b I O W;exact⟨E,X1,a.put o.dst u,one k1,R.pA d A m k3 k6 k5 (.inl k4) rfl B k2 (by rw[J];exact d.defs.ext' k5) (mf.jB d k7),K u⟩
      obtain⟨_,u,k1,k2⟩:=Tv d.sr Z l g_ e_ i5;exact⟨E,X,a.put o.dst u,one k1,R.pA d A m d.sr d.b (Ext.refl _ _) (.inl k2) rfl B rfl (by rw[J];exact d.defs) (mf.jB d rfl),K u⟩
  .simp at g
 .rename_i d9;have hw:=pR hm (aF:=(st i).aF) (tmps:=a.tmps) (X:=X) (λp w' hg=>S p (Gs hg)) d.size d9;simp only[At]at g;have B:(st (i+1)).aF=lS (st i).aF y.dst (.t []):=by rw[<-g]
  have q:(st (i+1)).heap=(st i).heap:=by rw[<-g]
  have N:(st (i+1)).defs=(st i).defs:=by rw[<-g]
  have i4:Steps Q (lone (b.atR a (.inRegion ops (i::rest)::k)) cs X.w) (lone (b.atR (a.put o.dst undef) (.inRegion ops rest::k)) cs X.w):=by
   refine .one ?_;have:=stepR_op_skip (P:=Q) (b:=b) (a:=a) (k:=k) (cs:=cs) (w:=X.w) (ops:=ops) (i:=i) (rest:=rest) (by simp[A.ho,hw]);rw[A.ho]at this;exact this
  by_cases m:cls y.op=.w
  .have a9:=R.Yu d A m;obtain⟨E',X2,q1,q2⟩:=R.FZ d A m (a1:=a.put o.dst undef) d.sr d.b (Ext.refl _ _) VR.undef rfl B (by rw[d.heap,q,a9]) (by rw[N,J,a9];exact d.defs);exact⟨E',X2,a.put o.dst undef,by rw[q1];exact i4,q2,K _⟩
  .exact⟨E,X,a.put o.dst undef,i4,R.pA d A m d.sr d.b (Ext.refl _ _) (.inl VR.undef) rfl B rfl (by rw[J];exact d.defs) (mf.jB d rfl),K _⟩
 .simp at g
end
end Km
