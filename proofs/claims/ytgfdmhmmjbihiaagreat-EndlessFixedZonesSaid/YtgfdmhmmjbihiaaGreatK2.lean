/-
  Our own small machine for Go code by value, held qH sV model: part 2. No program in BQ.
-/
import Derived.Test.YtgfdmhmmjbihiaaGreatK1
import Derived.AtR
import Derived.RangeFuncIn
import Derived.RangeFuncRecord
import Derived.Conc.MuLone
open Option renaming some->aa,none->ab
open Bool renaming true->ae,false->ag
open Nat renaming le_max_left->arV, le_trans->arB, le_max_right->arK, mul_le_mul_right->arL, le_refl->aq9, add_mul->arF, lt_or_ge->arI, lt_irrefl->atv, mul_eq_zero->atz, zero_add->asd, lt_of_lt_of_le->asg, lt_trichotomy->asz
open Option.some renaming injEq->anc
open Prod.mk renaming injEq->aq8
open List renaming getElem?_map->asf, length_map->aro, getElem?_toArray->ato, getElem?_cons_zero->as0, getElem?_cons_succ->atj, length_append->ara, getElem?_eq_some_iff->aq4, getElem?_set_ne->aq0, getElem?_append_left->aq1, length_drop->aru, eq_nil_of_length_eq_zero->ark, drop_zero->asp, getElem?_set->atp, getElem?_eq_getElem->aq2, getElem?_eq_none_iff->asQ, foldl_cons->asU, mem_cons->arM, getElem_mem->aq7, getElem?_drop->arC, getElem?_of_mem->asl, drop_eq_nil_iff->atN, drop_eq_getElem_cons->arp, mem_flatMap->ats, mem_append->ard, mem_map->arx, getElem?_take->arX, getElem?_eq_none->asJ, getD_eq_getElem?_getD->as5, all_eq_true->ars
open Option renaming map_eq_some_iff->aq5, map_some->arN, bind_some->arG
open Bool renaming and_eq_true->aq3, false_eq_true->arq, true_and->ash
open Int renaming natCast_mul->atm, toNat_natCast->ar7, mul_comm->ar6
set_option linter.unusedVariables false
set_option linter.constructorNameAsVariable false
set_option linter.unusedSimpArgs false
set_option linter.unusedSectionVars false
set_option maxRecDepth 100000
namespace Km
open Go
section
variable{Q:Program}{σ:Nat->FuncId}{X:Wd}
theorem ub(n:Nat):∀(r c:Nat),Builtin.growBy n r c<=Nat.max c (n+(n+768) / 4)
 |0,c=>by simp[Builtin.growBy];exact arV _ _
 |r+1,c=>by
  simp only[Builtin.growBy];split
  .exact arV _ _
  .rename_i h;refine arB (ub n r _) ?_;apply Nat.max_le.2;exact⟨arB (by omega) (arK _ _),arK _ _⟩
theorem rR{need cap:Nat}(h:cap<need):Builtin.nextslicecap need cap<=2*need+768:=by
 unfold Builtin.nextslicecap;split
 .omega
 .split
  .omega
  .refine arB (ub need 4 cap) ?_;apply Nat.max_le.2;omega
theorem wY(K:SR Q σ X){sz:Nat}{y:V}{u:Value}(v:VR σ X y u){m:Nat}{ys:List C}(h:cN X.H sz y=aa (m,ys)) :
  ∃F,(Builtin.lenOf u).run Q X.w=.ok m X.w/\(Builtin.firstCells sz m u).run Q X.w=.ok F.toArray X.w/\A2 (CR σ X) ys F/\ys.length=m*sz:=by
 unfold cN at h;split at h
 .rename_i s;have:=VR.str v;subst this;split at h
  case isFalse=>simp at h
  rename_i q;subst q;simp only[anc,aq8]at h;obtain⟨rfl,rfl⟩:=h;have g:s.extract 0 s.size=s:=ByteArray.extract_zero_size;refine⟨s.data.toList.map λb=>.int .u8 b.toNat,by simp[Builtin.lenOf],?_,?_,?_⟩
  .simp only[Builtin.firstCells,g,Sem.run_pure]
   congr 1
   apply Array.ext';simp
  .rw[ByteArray.toList_eq];exact⟨by simp,λi x u E B=>by
    simp only[asf,aq5]at E B;obtain⟨c,L,rfl⟩:=E;obtain⟨d,z,rfl⟩:=B;rw[L]at z;cases z;exact cS.int _ _⟩
  .rw[ByteArray.toList_eq];simp only[aro,Array.length_toList,Nat.mul_one];rfl
 .rename_i x M;split at h
  .rename_i l cs A j;simp only[anc,aq8]at h;obtain⟨rfl,rfl⟩:=h;obtain⟨us,H,I,J⟩:=lL K v A j;obtain⟨a,c,rfl⟩:=kB v A;exact⟨us,by simp[Builtin.lenOf],H,I,J⟩
  .simp at h
 .simp at h
structure am_(Q:Program)(t t' e:TypeId)(sz bytes:Nat):Prop where
 hu:Q.underlying t=aa (.slice e)
 hu':∃d,Q.underlying t'=aa d/\(∀k,d≠.int k)
 yY:dF Q e sz=ae
 hby:mL Q e bytes=ae
 pos:0<sz
 zero:∃i z,Q.info? e=aa i/\i.zero=aa z/\z.cells.size=sz
def pZ(base:Option Addr)(k:Nat)(b:List Value):Sem Unit:=match base with
 |some a=>storeCells (a.add k) b| none=>pure ()
theorem iP{t O e:TypeId}{sz bytes:Nat}(j:am_ Q t O e sz bytes)(W:TypeId){base:Option Addr}{l cap m:Nat}{u:Value}{g:List Value}{w:World}
  (S:(Builtin.lenOf u).run Q w=.ok m w) (Y:(Builtin.firstCells sz m u).run Q w=.ok g.toArray w) :
  (l+m<=cap->(Builtin.append_ #[t,O] W #[.slice base l cap,u]).run Q w =
   ((pZ base (l*sz) g).run Q w).andThen λ_ w'=>.ok (.slice base (l+m) cap) w')/\
  (¬ l+m<=cap->cJ (l+m) bytes=ae->∀os g:List Value,(Builtin.firstCells sz l (.slice base l cap)).run Q w.drew=.ok os.toArray w.drew->(Builtin.firstCells sz m u).run Q w.drew=.ok g.toArray w.drew->
   ∃nc rest w',l+m<=nc/\(Builtin.append_ #[t,O] W #[.slice base l cap,u]).run Q w=.ok (.slice (aa ⟨w.heap.size,0,ab⟩) (l+m) nc) w'/\
    dZ w w' (.cells (os++g++rest).toArray e)/\rest.length=(nc-(l+m))*sz):=by
 obtain⟨d,U,F⟩:=j.hu';obtain⟨i,z,hi,hz,y⟩:=j.zero;obtain⟨q,s,B⟩:=vV j.hby w;have A:((d matches .int _):Bool)=ag:=by
  cases d with
  |int k=>exact absurd rfl (F k)| _=>rfl
 constructor
 .intro I;simp only[Builtin.append_,ato];simp[aW j.hu,aW U,dj j.yY,A,S,I,Y];cases base<;>simp[pZ]
 .intro H b os g Z h4;unfold cJ at b;simp only[aq3,decide_eq_true_eq]at b;have v:q=i:=by
   simp[typeInfo,hi]at s;exact s.symm
  subst v;have J:¬ (Builtin.nextslicecap (l+m) cap*q.bytes>2 ^ 48):=by
   rw[B];have:=rR (need:=l+m) (cap:=cap) (by omega);have:=arL bytes this;omega
  let nc:=(Question.appendCap (l+m) cap e).cut (w.tape w.drawn (.appendCap (l+m) cap e))
  have K:l+m<=nc:=by simp[nc,Question.cut]
  refine⟨nc,cQ (nc-(l+m)) z.cells.toList,w.drew.alloc (.cells (os++g++cQ (nc-(l+m)) z.cells.toList).toArray e),K,?_,⟨rfl,rfl,rfl,rfl⟩,by rw[kv];simp[y]⟩;have E:(choose (.appendCap (l+m) cap e)).run Q w=.ok nc w.drew:=by
   simp[choose,Sem.run,Question.forced,nc]
  have M:Builtin.zeroCells z.cells (nc-(l+m))=(cQ (nc-(l+m)) z.cells.toList).toArray:=by
   have:=hZ z.cells.toList (nc-(l+m)) (by simp[y];exact j.pos);simpa[Builtin.zeroCells]using this
  have x:¬ (((l+m:Nat):Int)>IntKind.i64.max):=by
   have:IntKind.i64.max=9223372036854775807:=by decide
   rw[this];omega
  have N:∀w',(zeroValue e).run Q w'=.ok z w':=λw'=>by simp[zeroValue,typeInfo,hi,hz]
  have L:∀w',(typeInfo e).run Q w'=.ok q w':=λw'=>by simp[typeInfo,hi]
  simp only[Builtin.append_,Sem.run_bind,aW j.hu,aW U,dj j.yY,A,Result.andThen_ok,Sem.run_pure,arq,if_false,S,aR H,Sem.run_ite,L,x,false_and,J,E,run_askRoom,Z,
   Bool.not_false,if_true,h4,N,M,newRow,run_newObj,ato,as0,atj]
  have X:os.toArray++g.toArray++(cQ (nc-(l+m)) z.cells.toList).toArray=(os++g++cQ (nc-(l+m)) z.cells.toList).toArray:=by simp
  rw[X];rfl
theorem SR.drew(b:SR Q σ X):SR Q σ { X with w:=X.w.drew }/\Ext X.H.length X { X with w:=X.w.drew }:=by
 have d:Ext X.H.length X { X with w:=X.w.drew }:=Ext.one b X.H.length rfl (λ_ _=>Iff.rfl) (λ_ _ _=>rfl) (λ_ _ _ _=>rfl) (λh=>by omega)
  (λ_ _ _=>rfl) (λ_ _=>rfl) (λL h=>.inl ⟨L,h,rfl⟩) (aq9 _) rfl rfl rfl
 exact⟨SR.step Q σ b d X.H.length (λ_ _=>rfl) (λ_ _=>rfl) (λ_ _ _ _=>rfl) (λ_ _ _ _ _ h=>h) (λL h=>by
  change X.cE X.H.length=aa L at h;rw[SR.pU b]at h;simp at h) b.fb,d⟩
theorem Zq(l:SR Q σ X)(A:X.B<=X.w.heap.size){sz:Nat}(d:0<sz){cs:List C}{us rest:List Value}(h:A2 (CR σ X) cs us){n nc:Nat}(q:cs.length=n*sz)(F:rest.length=(nc-n)*sz)(E:n<=nc)
  {e:TypeId} {w':World} (s:dZ X.w w' (.cells (us++rest).toArray e)) :
  ∃X',X'.w=w'/\X'.H=X.H++[.cK sz cs 0 0 .loc]/\SR Q σ X'/\Ext X.H.length X X'/\VR σ X' (.c (.sl X.H.length 0 n 0 0 sz)) (.slice (aa ⟨X.w.heap.size,0,ab⟩) n nc)/\X'.B<=X'.w.heap.size:=by
 obtain⟨X',u,j,v,x,y,z⟩:=SR.new l A (.cK sz cs 0 0 .loc) s nc λX' H g B _=>⟨rfl,us,rest,by rw[g];exact ky s,A2.ext' σ H h,by
  have:=h.len;rw[ara,F,<-this,q,<-arF];congr 1;show n+(nc-n)=nc;omega,d,⟨n,q⟩,λi _ m=>by rw[B]at m;have:=l.fb _ _ m;simp at this⟩
 refine⟨X',u,j,v,x,?_,z⟩;have b:X'.H[X.H.length]?=aa (.cK sz cs 0 0 .loc):=by rw[j];simp
 simp only[VR,ib,CR,fM,b];exact⟨aq9 _,λ_ _=>⟨_,y,0,by omega,by show 0+n<=nc;omega,by simp⟩,_,_,_,rfl⟩
theorem vw(q:SR Q σ X)(S:X.B<=X.w.heap.size){b sz:Nat}{y cs:List C}{v u:Nat}{st:Os}(I:X.H[b]?=aa (.cK sz y v u st)){ys:List C}{us E rest:List Value}(J:A2 (CR σ X) cs us)(M:A2 (CR σ X) ys E)
  (B:0<sz) {n nc:Nat} (K:cs.length+ys.length=n*sz) (Y:rest.length=(nc-n)*sz) (W:n<=nc) {e:TypeId} {w':World} (j:dZ X.w w' (.cells (us++E++rest).toArray e)) :
  ∃X',X'.w=w'/\X'.H=X.H.set b (.cK sz (cs++ys) v (u+1) .loc)/\SR Q σ X'/\Ext X.H.length X X'/\VR σ X' (.c (.sl b 0 n 0 (u+1) sz)) (.slice (aa ⟨X.w.heap.size,0,ab⟩) n nc)/\X'.B<=X'.w.heap.size:=by
 have A:b<X.H.length:=(aq4.1 I).1
 let X':Wd:={ X with H:=X.H.set b (.cK sz (cs++ys) v (u+1) .loc),cE:=λk=>if k=b then aa ⟨X.w.heap.size,nc⟩else X.cE k,w:=w' }
 have g:X'.H[b]?=aa (.cK sz (cs++ys) v (u+1) .loc):=by simp[X',A]
 have l:X'.cE b=aa ⟨X.w.heap.size,nc⟩:=by simp[X']
 have x:Ext X.H.length X X':=Ext.one q b rfl (λ_ _=>Iff.rfl) (λk U _=>j.yZ U) (λL i Z z=>World.cell?_of_block (j.yZ (q.fb _ _ z)))
  (λ_ bY d=>⟨_,g,by rw[I]at d;simp only[anc]at d;subst d;exact⟨rfl,.inr ⟨by omega,rfl,_,l⟩⟩⟩)
  (λm h _=>by simp[X',aq0 (Ne.symm h)]) (λm h=>by simp[X',h]) (λL h=>by rw[l]at h;simp only[anc]at h;subst h;exact .inr (aq9 _)) (by show X.w.heap.size<=w'.heap.size;rw[j.size];omega) j.os j.tape j.output
 refine⟨X',rfl,rfl,SR.step Q σ q x b (λm h=>by simp[X',aq0 (Ne.symm h)]) (λm h=>by simp[X',h]) (λm L _ s=>j.yZ (q.br m L s).2.1) (λ_ _ _ _ _ h=>h) (λL h=>?_) (λc i h=>?_),x,?_,?_⟩
 .rw[l]at h;simp only[anc]at h;subst h;refine⟨S,by show X.w.heap.size<w'.heap.size;rw[j.size];omega,⟨_,g,rfl,us++E,rest,ky j,(A2.ext' σ x J).append (A2.ext' σ x M),?_,B,⟨n,by simpa using K⟩,λi _ z=>?_⟩,λm F _ s=>?_⟩
  .have N:=J.len;have O:=M.len;rw[ara,ara,Y,<-N,<-O,K,<-arF];congr 1;show n+(nc-n)=nc;omega
  .have:=q.fb _ _ z;simp at this
  .have:=(q.br m F s).2.1;show F.c≠X.w.heap.size;omega
 .have:=q.fb c i h;show c<w'.heap.size;rw[j.size];omega
 .simp only[VR,ib,CR,fM,g];exact⟨aq9 _,λ_ _=>⟨_,l,0,by omega,by show 0+n<=nc;omega,by simp⟩,_,_,_,rfl⟩
 .show X.B<=w'.heap.size;rw[j.size];omega
end
section
variable{Q:Program}{σ:Nat->FuncId}{X:Wd}
theorem ZC{d:Type}(us rest b:List d)(h:b.length<=rest.length):bR (us++rest) us.length b=us++b++rest.drop b.length:=by
 unfold bR;rw[List.take_left',<-List.drop_drop,List.drop_left']
 all_goals rfl
theorem als(N:SR Q σ X){b sz:Nat}{cs:List C}{g l:Nat}{L:Loc}(A:X.H[b]?=aa (.cK sz cs g l .loc))(z:X.cE b=aa L){ys:List C}{q:List Value}(I:A2 (CR σ X) ys q)(Z:g<=cs.length)
  {n:Nat} (a:cs.length+ys.length=n*sz) (s:n<=L.cap):∃X',(storeCells ⟨L.c,cs.length,ab⟩ q).run Q X.w=.ok () X'.w/\X'.H=X.H.set b (.cK sz (cs++ys) g (l+1) .loc)/\SR Q σ X'/\
   Ext X.H.length X X'/\VR σ X' (.c (.sl b 0 n 0 (l+1) sz)) (.slice (aa ⟨L.c,0,ab⟩) n L.cap)/\X'.w.heap.size=X.w.heap.size/\X'.B=X.B:=by
 obtain⟨_,_,bY,m,B⟩:=N.br b L z;rw[A]at m;simp only[anc]at m;subst m;obtain⟨_,us,rest,E,J,M,W,p,K⟩:=B;have u:b<X.H.length:=(aq4.1 A).1;have c:=I.len;have j:=J.len;have H:n*sz<=L.cap*sz:=arL sz s;have F:q.length<=rest.length:=by simp only[ara]at M;omega
 obtain⟨O,e,f,k,o,y⟩:=iv E q cs.length (by simp;omega);rw[j,ZC _ _ _ F]at y;rw[<-j]at y;obtain⟨S,U⟩:=SR.ag1 N (blk':=.cK sz (cs++ys) g (l+1) .loc) A z O e (λi Y=>by
   have hi:i<g:=by
    rcases arI i g with h|h
    .exact h
    .exact absurd Y (K i h)
   have:=ec y i;rw[j]at this ⊢;rw[this,ec E,List.append_assoc,aq1 (by omega),aq1 (by omega)]) f k o
  (λbY d=>⟨.cK sz (cs++ys) g (l+1) .loc,by simp[u],by rw[A]at d;simp only[anc]at d;subst d;exact⟨rfl,.inr ⟨by omega,rfl,L,z⟩⟩⟩)
  (λx=>⟨rfl,us++q,rest.drop q.length,by rw[j]at y ⊢;exact y,(A2.ext' σ x J).append (A2.ext' σ x I),by simp only[ara,aru]at M ⊢;omega,W,⟨n,by simpa using a⟩,K⟩)
 refine⟨_,qd E q cs.length (by simp;omega) (A2.one I),rfl,S,U,?_,O,rfl⟩;have v:(X.H.set b (.cK sz (cs++ys) g (l+1) .loc))[b]?=aa (.cK sz (cs++ys) g (l+1) .loc):=by simp[u]
 simp only[VR,ib,CR,fM,v];exact⟨aq9 _,λ_ _=>⟨L,z,0,by omega,by omega,by simp⟩,_,_,_,rfl⟩
theorem vD{c:Call}{sz bytes:Nat}{x y:Arg}(h:dX Q σ c (.append sz bytes x y)=ae):∃u v t m e,c.callee=.builtin .append/\c.args=#[u,v]/\c.argTypes=#[t,m]/\mA σ x u=ae/\mA σ y v=ae/\
  am_ Q t m e sz bytes:=by
 simp only[dX]at h;split at h
 .rename_i u v t m B E F;simp only[aq3]at h;obtain⟨⟨⟨I,J⟩,l⟩,g⟩:=h;obtain⟨e,H,l⟩:=gM l;simp only[aq3,decide_eq_true_eq]at l;obtain⟨⟨⟨s,q⟩,d⟩,j⟩:=l;have A:∃i z,Q.info? e=aa i/\i.zero=aa z/\z.cells.size=sz:=by
   cases hi:Q.info? e with
   |none=>simp[hi]at j
   |some i=>
    simp only[hi,Option.any_some]at j;cases b:i.zero with
    |none=>simp[b]at j| some z=>simp[b]at j;exact⟨i,z,rfl,b,j⟩
  refine⟨u,v,t,m,e,B,aeT E,aeT F,I,J,⟨H,?_,s,q,d,A⟩⟩;split at g
  .exact⟨_,by assumption,λk=>by simp⟩
  .exact⟨_,by assumption,λk=>by simp⟩
  .simp at g
 .simp at h
theorem JZ(W:SR Q σ X)(hB:X.B<=X.w.heap.size){a:Act}{aF:T}(hR:RR σ X aF a.tmps){o:Oper}{sz bytes:Nat}{x y:Arg}(hm:dV Q σ o (.append sz bytes x y)=ae){v:V}{H':aj}
  (h:bG aF X.H (.append sz bytes x y)=aa (v,H')):gF Q σ X v H' (execOp a.eval o):=by
 simp only[dV]at hm;split at hm
 .rename_i c ho;obtain⟨u,v',t,t',e,h1,h2,h3,hx,hy,ht⟩:=vD hm;have hx:=bV hR hx;have hy:=bV hR hy;simp only[bG]at h;generalize m8:a.eval u=ux at hx;generalize m9:a.eval v'=uy at hy;generalize x.ev aF=vx at hx h;generalize y.ev aF=vy at hy h;have b7:∀(r:Value) (w':World),(Builtin.append_ #[t,t'] o.type #[ux,uy]).run Q X.w=.ok r w'->(execOp a.eval o).run Q X.w=.ok (.value r) w':=by
   intro r w' hr;refine dM ho h1 λcs=>?_;simp[builtin,h2,h3,m8,m9,hr]
  unfold bJ at h;split at h
  .simp at h
  rename_i m ys d7;rw[aR (by have:=ht.pos;omega)]at h;obtain⟨vs,c5,b_,c_,d6⟩:=wY W hy d7;obtain⟨Y,g_⟩:=SR.drew W;obtain⟨a_,_,d5,i9,_⟩:=wY Y (VR.ext' σ g_ hy) d7;have B:A2 (CR σ X) ys a_:=by
   have c9:Ext X.H.length { X with w:=X.w.drew } X:=Ext.one Y X.H.length rfl (λ_ _=>Iff.rfl) (λ_ _ _=>rfl) (λ_ _ _ _=>rfl) (λh=>absurd h (atv _))
    (λ_ _ _=>rfl) (λ_ _=>rfl) (λL h=>.inl ⟨L,h,rfl⟩) (aq9 _) rfl rfl rfl
   exact A2.ext' σ (X:={ X with w:=X.w.drew }) c9 i9
  have H:∀{base:Option Addr} {l cap:Nat} {os:List Value} {cs:List C},ux=.slice base l cap->¬ l+m<=cap->cJ (l+m) bytes=ae->
    (Builtin.firstCells sz l (.slice base l cap)).run Q X.w.drew=.ok os.toArray X.w.drew->A2 (CR σ X) cs os->cs.length=l*sz->
    gF Q σ X (.c (.sl X.H.length 0 (l+m) 0 0 sz)) (X.H++[.cK sz (cs++ys) 0 0 .loc]) (execOp a.eval o):=by
   intro base l cap os cs hu d_ d j9 j8 j7;obtain⟨nc,rest,w',J,j,g,K⟩:=(iP ht o.type (base:=base) (l:=l) (cap:=cap) c5 b_).2 d_ d os a_ j9 d5;obtain⟨X',N,I,O,S,U,g6⟩:=Zq W hB ht.pos (cs:=cs++ys) (us:=os++a_) (j8.append B) (n:=l+m) (nc:=nc) (by rw[ara,j7,d6,arF]) K J g;exact⟨_,X',.inl (by rw[N];exact b7 _ _ (by rw[hu];exact j)),I,O,U,S,g6⟩
  have A:∀{base:Option Addr} {l cap:Nat} {X':Wd},ux=.slice base l cap->l+m<=cap->(pZ base (l*sz) vs).run Q X.w=.ok () X'.w->
    (execOp a.eval o).run Q X.w=.ok (.value (.slice base (l+m) cap)) X'.w:=by
   intro base l cap X' hu q m7;refine b7 _ _ ?_;rw[hu,(iP ht o.type (base:=base) (l:=l) (cap:=cap) c5 b_).1 q,m7];rfl
  split at h
  .
   cases (hx:cS σ X.F X.w .aw ux);split at h
   .rename_i Z;subst Z;simp only[anc,aq8]at h;obtain⟨rfl,rfl⟩:=h;exact⟨_,X,.inl (A (X':=X) rfl (by omega) rfl),rfl,W,cS.aw,Ext.refl _ _,hB⟩
   .split at h
    .rename_i d;simp only[anc,aq8]at h;obtain⟨rfl,rfl⟩:=h;have:=H (base:=ab) (l:=0) (cap:=0) (os:=[]) (cs:=[]) rfl (by omega) (by simpa using d) (by simp[Builtin.firstCells]) A2.nil (by simp);simpa using this
    .simp at h
  .
   cases (hx:cS σ X.F X.w .es ux);rename_i ad;split at h
   .rename_i Z;subst Z;simp only[anc,aq8]at h;obtain⟨rfl,rfl⟩:=h;have f9:vs=[]:=ark (by rw[<-c_.len,d6];simp);exact⟨_,X,.inl (A (X':=X) rfl (by omega) (by rw[f9];rfl)),rfl,W,cS.es _,Ext.refl _ _,hB⟩
   .split at h
    .rename_i d;simp only[anc,aq8]at h;obtain⟨rfl,rfl⟩:=h;have:=H (base:=aa ad) (l:=0) (cap:=0) (os:=[]) (cs:=[]) rfl (by omega) (by simpa using d) (by simp[Builtin.firstCells,loadCells,loadCellsFrom]) A2.nil (by simp);simpa using this
    .simp at h
  .rename_i b a8 l cap ep s;have f_:CR σ X (.sl b a8 l cap ep s) ux:=hx;simp only[VR,ib,CR,fM]at hx;split at h
   .
    rename_i cs fl F;rw[F]at hx;obtain⟨L,hL,n6,rfl⟩:=hx;split at h
    .rename_i q;split at h
     .rename_i hc;simp only[anc,aq8]at h;obtain⟨rfl,rfl⟩:=h;obtain⟨X',N,I,O,S,U,g6,g7⟩:=yS W F hL c_ hc.1 hc.2;refine⟨_,X',.inl (A rfl q (by simp only[pZ,eo];exact N)),I,O,?_,S,by omega⟩;have c6:X'.H[b]?=aa (.box (bR cs (a8+l*sz) ys) fl):=by rw[I];simp[(aq4.1 F).1]
      simp only[VR,ib,CR,fM,c6];exact⟨L,by rw[U];exact hL,q,rfl⟩
     .simp at h
    .rename_i d_;split at h
     .rename_i hc;simp only[anc,aq8]at h;obtain⟨rfl,rfl⟩:=h;have e_:cA X.H sz (.sl b a8 l cap ep s)=aa ((cs.drop a8).take (l*sz)):=by simp[cA,F,hc.2]
      have f8:aV X.H (.sl b a8 l cap ep s)=aa l:=by simp[aV,F]
      obtain⟨os,q1,q2,q3⟩:=lL Y (CR.ext' σ g_ f_) f8 e_;have h_:A2 (CR σ X) ((cs.drop a8).take (l*sz)) os:=by
       have c9:Ext X.H.length { X with w:=X.w.drew } X:=Ext.one Y X.H.length rfl (λ_ _=>Iff.rfl) (λ_ _ _=>rfl) (λ_ _ _ _=>rfl) (λh=>absurd h (atv _))
        (λ_ _ _=>rfl) (λ_ _=>rfl) (λL h=>.inl ⟨L,h,rfl⟩) (aq9 _) rfl rfl rfl
       exact A2.ext' σ (X:={ X with w:=X.w.drew }) c9 q2
      exact H rfl d_ hc.1 q1 h_ q3
     .simp at h
   .
    rename_i s' cs fl e' st F;rw[F]at hx;split at h
    .rename_i hc;obtain⟨rfl,rfl,rfl⟩:=hc;have M:=hx.2.1 rfl rfl;split at h
     .
      rename_i Z;subst Z;simp only[anc,aq8]at h;obtain⟨rfl,rfl⟩:=h;have f9:vs=[]:=ark (by rw[<-c_.len,d6];simp);obtain⟨base,n,cp,E⟩:=hx.2.2;have l_:n=l/\l<=cp:=by
       cases st with
       |loc=>obtain⟨L,_,k,_,hk,h8⟩:=M;rw[E]at h8;simp only[Value.slice.injEq]at h8;omega
       |nil=>obtain⟨_,rfl,h8⟩:=M;rw[E]at h8;simp only[Value.slice.injEq]at h8;omega
       |es=>obtain⟨_,rfl,_,h8⟩:=M;rw[E]at h8;simp only[Value.slice.injEq]at h8;omega
      obtain⟨rfl,n5⟩:=l_;refine⟨.slice base (n+0) cp,X,.inl (A (X':=X) E (by omega) (by rw[f9];cases base<;>rfl)),rfl,W,?_,Ext.refl _ _,hB⟩;rw[Nat.add_zero,<-E];exact f_
     .rename_i Z;split at h
      .
       rename_i hc;obtain⟨rfl,z,i6⟩:=hc;split at h
       .rename_i d;simp only[anc,aq8]at h;obtain⟨rfl,rfl⟩:=h;have hn:cs.length+ys.length=(l+m)*s:=by rw[d6,<-z,arF]
        cases st with
        |loc=>
         obtain⟨L,hL,k,k_,hk,rfl⟩:=M;have i8:k=0:=by
          rcases atz.1 k_.symm with h8|h8
          .exact h8
          .have:=ht.pos;omega
         subst i8;rw[Nat.sub_zero]at *;by_cases q:l+m<=L.cap
         .obtain⟨X',N,I,O,S,U,g6,g7⟩:=als W F hL c_ i6 hn q;exact⟨_,X',.inl (A rfl q (by simp only[pZ,eo];rw[z,asd];exact N)),I,O,U,S,by omega⟩
         .have e_:cA X.H s (.sl b 0 l cap ep s)=aa ((cs.drop 0).take (l*s)):=by simp[cA,F,z]
          have f8:aV X.H (.sl b 0 l cap ep s)=aa l:=by simp[aV,F]
          obtain⟨os,q1,q2,q3⟩:=lL Y (CR.ext' σ g_ f_) f8 e_;have h_:A2 (CR σ X) cs os:=by
           have c9:Ext X.H.length { X with w:=X.w.drew } X:=Ext.one Y X.H.length rfl (λ_ _=>Iff.rfl) (λ_ _ _=>rfl) (λ_ _ _ _=>rfl) (λh=>absurd h (atv _))
            (λ_ _ _=>rfl) (λ_ _=>rfl) (λL h=>.inl ⟨L,h,rfl⟩) (aq9 _) rfl rfl rfl
           have:=A2.ext' σ (X:={ X with w:=X.w.drew }) c9 q2;rwa[asp,z,List.take_length]at this
          obtain⟨nc,rest,w',J,j,g,K⟩:=(iP ht o.type (base:=aa ⟨L.c,0,ab⟩) (l:=l) (cap:=L.cap) c5 b_).2 q d os a_ q1 d5;obtain⟨X',N,I,O,S,U,g6⟩:=vw W hB F h_ B ht.pos hn K J g;exact⟨_,X',.inl (by rw[N];exact b7 _ _ (by simpa using j)),I,O,U,S,g6⟩
        |nil=>
         obtain⟨_,rfl,rfl⟩:=M;have d9:cs=[]:=ark (by simpa using z.symm);subst d9;obtain⟨nc,rest,w',J,j,g,K⟩:=(iP ht o.type (base:=ab) (l:=0) (cap:=0) c5 b_).2 (by omega) d [] a_ (by simp[Builtin.firstCells]) d5;obtain⟨X',N,I,O,S,U,g6⟩:=vw W hB F (us:=[]) A2.nil B ht.pos hn K J g;exact⟨_,X',.inl (by rw[N];exact b7 _ _ j),I,O,U,S,g6⟩
        |es=>
         obtain⟨_,rfl,ad,rfl⟩:=M;have d9:cs=[]:=ark (by simpa using z.symm);subst d9;obtain⟨nc,rest,w',J,j,g,K⟩:=(iP ht o.type (base:=aa ad) (l:=0) (cap:=0) c5 b_).2 (by omega) d [] a_ (by simp[Builtin.firstCells,loadCells,loadCellsFrom]) d5;obtain⟨X',N,I,O,S,U,g6⟩:=vw W hB F (us:=[]) A2.nil B ht.pos hn K J g;exact⟨_,X',.inl (by rw[N];exact b7 _ _ j),I,O,U,S,g6⟩
       .simp at h
      .split at h
       .
        rename_i hc;obtain⟨rfl,i7,j_⟩:=hc;simp only[anc,aq8]at h;obtain⟨rfl,rfl⟩:=h;obtain⟨L,hL,k,rfl,hk,rfl⟩:=M;obtain⟨_,_,bY,d8,j4⟩:=W.br b L hL;rw[F]at d8;simp only[anc]at d8;subst d8;obtain⟨_,us,rest,hr,i_,h6,h7,h8,m_⟩:=j4;have q:l+m<=L.cap-k:=by
         have e1:(k+(l+m))*s<=L.cap*s:=by
          rw[arF,arF];have:=i_.len;simp only[ara]at h6;omega
         have:=Nat.le_of_mul_le_mul_right e1 h7;omega
        obtain⟨X',N,I,O,S,U,g6,g7⟩:=yT W F hL c_ i7 j_;refine⟨_,X',.inl (A rfl q (by simp only[pZ,eo];exact N)),I,O,?_,S,by omega⟩;have c6:X'.H[b]?=aa (.cK s (bR cs (k*s+l*s) ys) fl ep .loc):=by rw[I];simp[(aq4.1 F).1]
        simp only[VR,ib,CR,fM,c6];exact⟨aq9 _,λ_ _=>⟨L,by rw[U];exact hL,k,rfl,by omega,rfl⟩,_,_,_,rfl⟩
       .simp at h
    .simp at h
   .simp at h
  .simp at h
 .simp at hm
end
section
variable{Q:Program}{σ:Nat->FuncId}{X:Wd}
theorem zZ{c:Call}{sz bytes:Nat}{zs:List FC}{x y:Arg}(h:dX Q σ c (.lV sz bytes zs x y)=ae):∃u v t j e k,c.callee=.builtin .append/\c.args=#[u,v]/\c.argTypes=#[t,j]/\mA σ x u=ae/\mA σ y v=ae/\
  Q.underlying t=aa (.slice e)/\dF Q e sz=ae/\mL Q e bytes=ae/\0<sz/\kD Q e zs=ae/\Q.underlying j=aa (.int k):=by
 simp only[dX]at h;split at h
 .rename_i u v t j q s z;simp only[aq3]at h;obtain⟨⟨⟨E,F⟩,g⟩,d⟩:=h;obtain⟨e,B,g⟩:=gM g;simp only[aq3,decide_eq_true_eq]at g;obtain⟨⟨⟨m,l⟩,b⟩,H⟩:=g;split at d
  .rename_i k A;exact⟨u,v,t,j,e,k,q,aeT s,aeT z,E,F,B,m,l,b,H,A⟩
  .simp at d
 .simp at h
theorem aaq{n:Nat}(h:n<2 ^ 48):IntKind.i64.wrap (n:Int)=n:=by
 simp only[IntKind.wrap,IntKind.bits,IntKind.signed];have b:(2 ^ 64:Int)=18446744073709551616:=by decide
 have d:(2 ^ (64-1):Int)=9223372036854775808:=by decide
 have g:(2:Nat) ^ 48=281474976710656:=by decide
 simp only[b,d,ash,decide_eq_true_eq];split<;>omega
theorem sF{t Z e:TypeId}{sz bytes:Nat}{k k':IntKind}(c:Q.underlying t=aa (.slice e))(A:Q.underlying Z=aa (.int k))(x:dF Q e sz=ae)(F:mL Q e bytes=ae)(a:0<sz)
  {z:Value} {us:List Value} {i:TypeInfo} (hi:Q.info? e=aa i) (r:i.zero=aa z) (U:z.cells=us.toArray) (N:us.length=sz) (f:TypeId) {base:Option Addr} {n:Nat} {w:World} :
  (n=0->(Builtin.append_ #[t,Z] f #[.slice base 0 0,.int k' (n:Int)]).run Q w=.ok (.slice base 0 0) w)/\
  (n≠0->cJ n bytes=ae->∃nc rest w',n<=nc/\(Builtin.append_ #[t,Z] f #[.slice base 0 0,.int k' (n:Int)]).run Q w=.ok (.slice (aa ⟨w.heap.size,0,ab⟩) n nc) w'/\
   dZ w w' (.cells (cQ n us++rest).toArray e)/\rest.length=(nc-n)*sz):=by
 obtain⟨g,l,s⟩:=vV F w;have u:g=i:=by simp[typeInfo,hi]at l;exact l.symm
 subst u;have y:∀w',(typeInfo e).run Q w'=.ok g w':=λw'=>by simp[typeInfo,hi]
 have Y:∀w',(zeroValue e).run Q w'=.ok z w':=λw'=>by simp[zeroValue,typeInfo,hi,r]
 have j:∀(q:Int) w',(asInt (.int k' q)).run Q w'=.ok q w':=λq w'=>by simp[asInt,asIntOf]
 constructor
 .rintro rfl;have O:IntKind.i64.wrap 0=0:=by decide
  simp only[Builtin.append_,ato];simp[aW c,aW A,dj x,y,j,O];cases base<;>simp[storeCells]
 .intro hn b;have E:=b;unfold cJ at b;simp only[aq3,decide_eq_true_eq]at b;have S:=aaq b.2;have K:¬ (Builtin.nextslicecap n 0*g.bytes>2 ^ 48):=by
   rw[s];have:=rR (need:=n) (cap:=0) (by omega);have:=arL bytes this;omega
  let nc:=(Question.appendCap n 0 e).cut (w.tape w.drawn (.appendCap n 0 e))
  have L:n<=nc:=by simp[nc,Question.cut]
  have H:(choose (.appendCap n 0 e)).run Q w=.ok nc w.drew:=by
   simp[choose,Sem.run,Question.forced,nc]
  have X:∀m,Builtin.zeroCells z.cells m=(cQ m us).toArray:=λm=>by
   have:=hZ us m (by omega);simpa[Builtin.zeroCells,U]using this
  have v:¬ ((n:Int)>IntKind.i64.max):=by
   have:IntKind.i64.max=9223372036854775807:=by decide
   have e3:(2:Nat) ^ 48=281474976710656:=by decide
   rw[this];omega
  have I:¬ ((n:Int)<0):=by omega
  have J:¬ ((n:Int)*(g.bytes:Int)>2 ^ 48):=by
   rw[s];have o:n*bytes<=2 ^ 48:=arB (arL bytes (by omega:n<=2*n+768)) b.1;have p:((n*bytes:Nat):Int)<=2 ^ 48:=by
    have B:((2 ^ 48:Nat):Int)=2 ^ 48:=by decide
    rw[<-B];exact Int.ofNat_le.2 o
   rw[atm]at p;omega
  have d:(Builtin.firstCells sz 0 (.slice base 0 0)).run Q w.drew=.ok #[] w.drew:=by
   cases base<;>simp[Builtin.firstCells,loadCells,loadCellsFrom]
  have M:¬ (n*sz=0):=by
   intro h;rcases atz.1 h with h|h<;>omega
  refine⟨nc,cQ (nc-n) us,w.drew.alloc (.cells (cQ n us++cQ (nc-n) us).toArray e),L,?_,⟨rfl,rfl,rfl,rfl⟩,by rw[kv,N]⟩;have W:¬ (n<=0):=by omega
  have hint:((n:Int)).toNat=n:=by simp
  simp only[Builtin.append_,Sem.run_bind,aW c,aW A,dj x,Result.andThen_ok,Sem.run_pure,arq,if_false,Sem.run_ite,y,false_and,K,H,run_askRoom,
   Bool.not_true,if_true,Y,X,newRow,run_newObj,ato,as0,atj,j,S,I,J,hint,asd,W,v,M,d,true_or,and_true,Bool.true_eq]
  have B:#[]++(cQ n us).toArray++(cQ (nc-n) us).toArray=(cQ n us++cQ (nc-n) us).toArray:=by simp
  first
   |(rw[B];rfl)
   |(simp[B];rfl)
theorem aeS(U:SR Q σ X)(S:X.B<=X.w.heap.size){a:Act}{aF:T}(hR:RR σ X aF a.tmps){o:Oper}{sz bytes:Nat}{zs:List FC}{x y:Arg}(N:dV Q σ o (.lV sz bytes zs x y)=ae){v:V}{H':aj}
  (h:bG aF X.H (.lV sz bytes zs x y)=aa (v,H')):gF Q σ X v H' (execOp a.eval o):=by
 simp only[dV]at N;split at N
 .rename_i c ho;obtain⟨u,v',t,t',e,k,h1,h2,h3,J,L,f,F,s,g,hz,W⟩:=zZ N;have J:=bV hR J;have L:=bV hR L;simp only[bG]at h;generalize i:a.eval u=O at J;generalize p:a.eval v'=uy at L;generalize x.ev aF=vx at J h;generalize y.ev aF=vy at L h;have l:∀(r:Value) (w':World),(Builtin.append_ #[t,t'] o.type #[O,uy]).run Q X.w=.ok r w'->(execOp a.eval o).run Q X.w=.ok (.value r) w':=by
   intro r w' hr;refine dM ho h1 λcs=>?_;simp[builtin,h2,h3,i,p,hr]
  unfold xd at h;split at h
  .rename_i n hn;obtain⟨k',E⟩:=il L hn;split at h
   .rename_i hc;obtain⟨z,us,a8,I,M,i0,A,B⟩:=eV (σ:=σ) (X:=X) hz X.w;have H:us.length=sz:=by have:=M.len;simp at this;omega
    obtain⟨m,rfl⟩:∃m:Nat,n=m:=⟨n.toNat,by omega⟩
    have j:∀base,O=.slice base 0 0->(v,H')=(.c (.sl X.H.length 0 m 0 0 sz),X.H++[.cK sz ((cQ m zs).map .f) 0 0 .loc])->m≠0->cJ m bytes=ae->gF Q σ X v H' (execOp a.eval o):=by
     intro base hb he d b;cases he;obtain⟨nc,rest,w',Y,K,q,Z⟩:=(sF (k':=k') f W F s g A B I H o.type (base:=base) (n:=m)).2 d b;obtain⟨X',g1,g2,g3,g4,g5,g6⟩:=Zq U S g (cs:=(cQ m zs).map .f) (us:=cQ m us) (iS M m) (n:=m) (nc:=nc) (by rw[aro,kv,hc.2]) Z Y q;exact⟨_,X',.inl (by rw[g1];exact l _ _ (by rw[hb,E];exact K)),g2,g3,g5,g4,g6⟩
    split at h
    .cases (J:cS σ X.F X.w .aw O);simp only[ar7]at h;split at h
     .rename_i d;simp only[anc,aq8]at h;obtain⟨rfl,rfl⟩:=h;exact⟨_,X,.inl (l _ _ (by rw[E];exact(sF (k':=k') f W F s g A B I H o.type (base:=ab) (n:=m)).1 d)),rfl,U,cS.aw,Ext.refl _ _,S⟩
     .rename_i d;split at h
      .rename_i b;simp only[anc]at h;exact j ab rfl h.symm d b
      .simp at h
    .cases (J:cS σ X.F X.w .es O);rename_i w;simp only[ar7]at h;split at h
     .rename_i d;simp only[anc,aq8]at h;obtain⟨rfl,rfl⟩:=h;exact⟨_,X,.inl (l _ _ (by rw[E];exact(sF (k':=k') f W F s g A B I H o.type (base:=aa w) (n:=m)).1 d)),rfl,U,cS.es _,Ext.refl _ _,S⟩
     .rename_i d;split at h
      .rename_i b;simp only[anc]at h;exact j (aa w) rfl h.symm d b
      .simp at h
    .simp at h
   .simp at h
  .simp at h
 .simp at N
end
section
variable{Q:Program}{σ:Nat->FuncId}{X:Wd}
theorem ak_(s:SR Q σ X)(m:X.B<=X.w.heap.size){a:Act}{aF:T}{o:Oper}{st:Os}{sz:Nat}(d:dV Q σ o (.pre st sz)=ae){v:V}{H':aj}
  (h:bG aF X.H (.pre st sz)=aa (v,H')):gF Q σ X v H' (execOp a.eval o):=by
 cases st with
 |nil=>
  simp only[bG]at h;split at h
  .simp at h
  .simp only[anc,aq8]at h;obtain⟨rfl,rfl⟩:=h;obtain⟨j,l⟩:=SR.grow s (.cK sz [] 0 0 .nil);have q:VR σ { X with H:=X.H++[.cK sz [] 0 0 .nil] } (.c (.sl X.H.length 0 0 0 0 sz)) (.slice ab 0 0):=by
    have b:(X.H++[cH.cK sz [] 0 0 .nil])[X.H.length]?=aa (.cK sz [] 0 0 .nil):=by simp
    simp only[VR,ib,CR,fM,b];exact⟨aq9 _,λ_ _=>by simp,_,_,_,rfl⟩
   simp only[dV]at d;split at d
   .rename_i g;exact⟨.slice ab 0 0,_,.inl (by simp[execOp,g,Act.eval]),rfl,j,q,l,m⟩
   .rename_i g;exact⟨.slice ab 0 0,_,.inl (by simp[execOp,g,Act.eval]),rfl,j,q,l,m⟩
   .simp at d
 |_=>simp[dV]at d
theorem Zn(u:SR Q σ X)(s:X.B<=X.w.heap.size){a:Act}{o:Oper}(b:dV Q σ o .ik=ae):gF Q σ X (.c (.mp X.H.length)) (X.H++[.map []]) (execOp a.eval o):=by
 simp only[dV]at b;split at b
 .rename_i t v;obtain⟨X',g,d,j,l,m,q⟩:=SR.new u s (.map []) (dZ.alloc X.w (.map #[] 0)) 0 λX' z x y _=>⟨[],by rw[x];exact(dZ.alloc _ _).new,A2.nil,by simp⟩
  exact⟨.map (aa X.w.heap.size),X',.inl (by rw[g];simp[execOp,v,Instr.makeMap]),d,j,⟨_,m,⟨[],by rw[d];simp⟩,rfl⟩,l,q⟩
 .simp at b
theorem ZX(E:SR Q σ X)(A:X.B<=X.w.heap.size){a:Act}{aF:T}(B:RR σ X aF a.tmps){o:Oper}{x:Arg}(d:dV Q σ o (.range x)=ae){v:V}{H':aj}
  (h:bG aF X.H (.range x)=aa (v,H')):gF Q σ X v H' (execOp a.eval o):=by
 simp only[dV]at d;split at d
 .rename_i t y F;simp only[aq3]at d;obtain⟨b,j⟩:=d;have b:=bV B b;simp only[bG]at h;split at h
  .rename_i s H;rw[H]at b;have b:=VR.str b;simp only[anc,aq8]at h;obtain⟨rfl,rfl⟩:=h;split at j
   .rename_i I;obtain⟨X',l,g,m,q,u,z⟩:=SR.new E A (.it s 0) (dZ.alloc X.w (.stringIter s 0)) 0 λX' b J K _=>by
     show X'.w.heap[X.w.heap.size]?=_;rw[J];exact(dZ.alloc _ _).new
    exact⟨.pointer (aa ⟨X.w.heap.size,0,ab⟩),X',.inl (by rw[l];simp[execOp,F,Instr.range,aW I,b]),g,m,⟨_,u,⟨s,0,by rw[g];simp⟩,rfl⟩,q,z⟩
   .simp at j
  .simp at h
 .simp at d
theorem SR.pg(s:SR Q σ X){b:Nat}{bY blk':cH}{L:Loc}{o o':Obj}(hb:X.H[b]?=aa bY)(q:X.cE b=aa L)(ho:X.w.heap[L.c]?=aa o)(m:∀c e f,o≠.cells c e f)(j:∀c e f,o'≠.cells c e f)
  (d:lO X { X with H:=X.H.set b blk',w:={ X.w with heap:=X.w.heap.setIfInBounds L.c o' } } b)
  (l:∀X',Ext X.H.length X X'->X'.w.heap[L.c]?=aa o'->X'.F=X.F->X'.cE=X.cE->X'.H=X.H.set b blk'->BR Q σ X' blk' L) :
  SR Q σ { X with H:=X.H.set b blk',w:={ X.w with heap:=X.w.heap.setIfInBounds L.c o' } }/\Ext X.H.length X { X with H:=X.H.set b blk',w:={ X.w with heap:=X.w.heap.setIfInBounds L.c o' } }:=by
 have g:L.c<X.w.heap.size:=(s.br b L q).2.1;refine SR.ag1 s hb q (by simp) (λk x=>by simp[Array.getElem?_setIfInBounds_ne (Ne.symm x)]) (λi _=>?_) rfl rfl rfl d (λy=>l _ y (by simp[g]) rfl rfl rfl);have u:({ X.w with heap:=X.w.heap.setIfInBounds L.c o' }:World).cell? ⟨L.c,i,ab⟩=ab:=by
  simp only[World.cell?];rw[show(X.w.heap.setIfInBounds L.c o')[L.c]?=aa o' by simp[g]];cases o'<;>simp at j ⊢
 have v:X.w.cell? ⟨L.c,i,ab⟩=ab:=by
  simp only[World.cell?,ho];cases o<;>simp at m ⊢
 rw[u,v]
theorem afV(q:SR Q σ X)(A:X.B<=X.w.heap.size){a:Act}{aF:T}(M:RR σ X aF a.tmps){o:Oper}{x:Arg}(m:dV Q σ o (.next x)=ae){v:V}{H':aj}
  (h:bG aF X.H (.next x)=aa (v,H')):gF Q σ X v H' (execOp a.eval o):=by
 simp only[dV]at m;split at m
 .rename_i y E;have H:=bV M m;simp only[bG]at h;unfold ahg at h;split at h
  .rename_i b O;rw[O]at H;obtain⟨L,B,⟨U,S,N⟩,F⟩:=H;split at h
   .rename_i s pos l;obtain⟨_,_,bY,j,u⟩:=q.br b L B;rw[l]at j;simp only[anc]at j;subst j;have g:X.w.heap[L.c]?=aa (.stringIter s pos):=u;split at h
    .rename_i z;simp only[anc,aq8]at h;obtain⟨rfl,rfl⟩:=h;obtain⟨I,J⟩:=SR.pg (o':=.stringIter s (pos+(Utf8.decode s pos).2)) (blk':=.it s (pos+(Utf8.decode s pos).2)) q l B g (by simp) (by simp)
      (λbY d=>⟨.it s (pos+(Utf8.decode s pos).2),by simp[(aq4.1 l).1],by rw[l]at d;simp only[anc]at d;subst d;exact λL h=>h⟩)
      (λX' _ K _ _ _=>K)
     refine⟨.tuple #[.bool ae,.int .i64 pos,.int .i32 (Utf8.decode s pos).1],_,.inl ?_,rfl,I,⟨[.bool ae,.int .i64 pos,.int .i32 (Utf8.decode s pos).1],rfl,?_⟩,J,by simpa using A⟩
     .simp only[execOp,E];refine er ?_;simp[Instr.next,F,getObj,setObj,Sem.run,g,z,goInt]
     .exact A2.cons (cS.bool _) (A2.cons (cS.int _ _) (A2.cons (cS.int _ _) A2.nil))
    .rename_i z;simp only[anc,aq8]at h;obtain⟨rfl,rfl⟩:=h;refine⟨.tuple #[.bool ag],X,.inl ?_,rfl,q,⟨[.bool ag],rfl,A2.cons (cS.bool _) A2.nil⟩,Ext.refl _ _,A⟩;simp only[execOp,E];refine er ?_;simp[Instr.next,F,getObj,Sem.run,g,z]
   .simp at h
  .simp at h
 .simp at m
theorem yc{s:CK}{d:TypeDesc}(z:(s=.int/\∃j,d=.int j)\/(s=.str/\d=.string)\/(s=.bool/\d=.bool)){F:Nat->Nat->Prop}{w:World}{k:FC}{v:C}{x:Value}(B:cS σ F w k x) :
  ∀{R:C->Value->Prop} {l g:List (FC × C)} {b:List MapEntry},A2 (λe m=>cS σ F w e.1 m.key/\R e.2 m.val) l b->∀(i:Nat),lS s k v l=aa g->
  (Instr.findNow d x b i=aa ab/\g=l++[(k,v)])\/∃(j:Nat) (u:Value) (m:MapEntry),Instr.findNow d x b i=aa (aa (i+j,u))/\b[j]?=aa m/\Instr.sameNow d x m.key=aa ae/\g=l.set j (k,v)
 |_,[],g,[],_,i,h=>by
  simp only[lS,anc]at h;subst h;exact .inl ⟨rfl,rfl⟩
 |_,[],_,_::_,q,_,_=>by have:=q.len;simp at this
 |_,_::_,_,[],q,_,_=>by have:=q.len;simp at this
 |_,e::l,g,m::b,q,i,h=>by
  obtain⟨⟨H,N⟩,E⟩:=q.of_cons;simp only[lS]at h;split at h
  .rename_i A;simp only[anc]at h;subst h;have:=rD z B H A;exact .inr ⟨0,m.val,m,by simp[Instr.findNow,this],rfl,this,rfl⟩
  .rename_i A;simp only[aq5]at h;obtain⟨I,J,rfl⟩:=h;have:=rD z B H A;rcases yc z B E (i+1) J with⟨y,rfl⟩|⟨j,u,M,y,K,L,rfl⟩
   .exact .inl ⟨by simp[Instr.findNow,this,y],rfl⟩
   .exact .inr ⟨j+1,u,M,by simp[Instr.findNow,this,y];omega,by simpa using K,L,rfl⟩
  .simp at h
theorem yH{d:TypeDesc}{u v:Value}(h:Instr.sameNow d u v=aa ae)(n:Nat):Instr.sameBits n v u=ae:=by
 unfold Instr.sameNow at h;split at h
 .split at h
  .rename_i b;subst b;simp only[anc,beq_iff_eq]at h;subst h;simp[Instr.sameBits]
  .simp at h
 .simp only[anc,beq_toListBytes,beq_iff_eq]at h;simp[Instr.sameBits,beq_toListBytes,h]
 .simp only[anc,beq_iff_eq]at h;subst h;simp[Instr.sameBits]
 .simp at h
theorem ann{c:C}{u:Value}(h:VR σ X (mV c) u):ib σ X (mV c) u:=by
 cases c
 case cl f cs=>
  simp only[mV]at h ⊢;split at h
  .rename_i b;rw[bw b];exact h
  .rename_i b;rw[aR b];exact h
 all_goals exact h
theorem Ze(hS:SR Q σ X)(hB:X.B<=X.w.heap.size){a:Act}{aF:T}(hR:RR σ X aF a.tmps){o:Oper}{ck:CK}{x y z:Arg}(E:dV Q σ o (.iO ck x y z)=ae){v:V}{H':aj}
  (h:bG aF X.H (.iO ck x y z)=aa (v,H')):gF Q σ X v H' (execOp a.eval o):=by
 simp only[dV]at E;split at E
 .rename_i t x' M Y ho;simp only[aq3]at E;obtain⟨⟨⟨hx,K⟩,W⟩,ht⟩:=E;have hx:=bV hR hx;have K:=bV hR K;have W:=bV hR W;split at ht
  .rename_i kt e hu;simp only[bG]at h;split at h
   .rename_i b k vv c6 d6 d9;rw[c6]at hx;rw[d6]at K;rw[<-Zc d9]at W;have W:ib σ X (mV vv) (a.eval Y):=ann W;obtain⟨L,hL,_,c5⟩:=hx;split at h
    .rename_i es hb;split at h
     .rename_i a_;simp only[aq5,aq8]at h;obtain⟨F,hp,rfl,rfl⟩:=h;obtain⟨_,_,bY,N,c_⟩:=hS.br b L hL;rw[hb]at N;simp only[anc]at N;subst N;obtain⟨q,I,h2,B⟩:=c_;have go:∀d,Q.underlying kt=aa d->((ck=.int/\∃j,d=.int j)\/(ck=.str/\d=.string)\/(ck=.bool/\d=.bool))->gF Q σ X .top (X.H.set b (.map F)) (execOp a.eval o):=by
       intro d A hd;have a8:∀(l:List MapEntry),(Instr.mapUpdate t (a.eval x') (a.eval M) (a.eval Y)).run Q X.w=.ok () { X.w with heap:=X.w.heap.setIfInBounds L.c (.map l.toArray l.length) }->
         A2 (λ(e:FC × C) (m:MapEntry)=>cS σ X.F X.w e.1 m.key/\ib σ X (mV e.2) m.val) F l->(∀(i:Nat) m,l[i]?=aa m->m.born=i)->gF Q σ X .top (X.H.set b (.map F)) (execOp a.eval o):=by
        intro l b_ hA c9;obtain⟨g1,g2⟩:=SR.pg (o':=.map l.toArray l.length) (blk':=.map F) hS hb hL I (by simp) (by simp)
         (λbY H=>⟨.map F,by simp[(aq4.1 hb).1],by rw[hb]at H;simp only[anc]at H;subst H;exact λL h=>h⟩)
         (λX' U h1 hF _ _=>⟨l,h1,hA.kH λe m h=>⟨cS.mono U.F U.fw h.1,ib.ext' σ U h.2⟩,c9⟩)
        exact⟨undef,_,.inr ⟨by simp[execOp,ho,b_],rfl⟩,rfl,g1,trivial,g2,by simpa using hB⟩
       rcases yc (R:=λc u=>ib σ X (mV c) u) hd K h2 0 hp with⟨J,rfl⟩|⟨j,u,m,J,Z,h6,rfl⟩
       .have O:A2 (λ(e:FC × C) (m:MapEntry)=>cS σ X.F X.w e.1 m.key/\ib σ X (mV e.2) m.val) [(k,vv)] [({ key:=a.eval M,val:=a.eval Y,born:=q.length }:MapEntry)]:=A2.cons (And.intro K W) A2.nil;refine a8 (q++[{ key:=a.eval M,val:=a.eval Y,born:=q.length }]) ?_ (h2.append O) ?_
        rotate_left
        .intro i m E;by_cases hi:i<q.length
         .rw[aq1 hi]at E;exact B i m E
         .rw[List.getElem?_append_right (by omega)]at E;have d5:i-q.length=0:=by
           have:=(aq4.1 E).1;simp at this;omega
          rw[d5]at E;simp only[as0,anc]at E;subst E;simp only;omega
        simp[Instr.mapUpdate,aW hu,c5,getObj,setObj,Sem.run,I,gR ht K a_,Instr.findKey,aW A,J]
       .rw[asd]at J;refine a8 (q.set j { m with key:=a.eval M,val:=a.eval Y }) ?_ ?_ ?_
        .have d8:(Instr.keyThatStays m.key (a.eval M)).run Q X.w=.ok (a.eval M) X.w:=by
          simp[Instr.keyThatStays,yH h6 10000]
         have b7:q.modify j (λe=>{ e with key:=a.eval M,val:=a.eval Y })=q.set j { m with key:=a.eval M,val:=a.eval Y }:=by
          apply List.ext_getElem?;intro i;simp only[List.getElem?_modify,atp];by_cases s:j=i
          .subst s;have S:=(aq4.1 Z).1;have d7:=(aq4.1 Z).2;simp[Z,S,d7]
          .simp[s]
         simp[Instr.mapUpdate,aW hu,c5,getObj,setObj,Sem.run,I,gR ht K a_,Instr.findKey,aW A,J,Z,d8,b7]
        .refine⟨by simpa using h2.len,λi e' m' he g=>?_⟩;rw[atp]at he g;split at he
         .rename_i s;subst s;simp only[if_true]at g;have S:=(aq4.1 Z).1;have d_:=h2.len;rw[bw (by omega)]at he;rw[bw S]at g;simp only[anc]at he g;subst he;subst g;exact⟨K,W⟩
         .rename_i s;rw[aR s]at g;exact h2.2 i e' m' he g
        .intro i m' g;rw[atp]at g;split at g
         .rename_i s;subst s;split at g
          .simp only[anc]at g;subst g;exact B j m Z
          .simp at g
         .exact B i m' g
      rcases lF ht with⟨J,j,A⟩|⟨J,A⟩|⟨J,A⟩
      .exact go _ A (.inl ⟨J,j,rfl⟩)
      .exact go _ A (.inr (.inl ⟨J,rfl⟩))
      .exact go _ A (.inr (.inr ⟨J,rfl⟩))
     .simp at h
    .simp at h
   .simp at h
  .simp at ht
 .simp at E
theorem xW{c:Call}{sz:Nat}{zs:List FC}{x:Arg}(h:dX Q σ c (.clear sz zs x)=ae):∃y t e,c.callee=.builtin .clear/\c.args=#[y]/\c.argTypes=#[t]/\mA σ x y=ae/\Q.underlying t=aa (.slice e)/\dF Q e sz=ae/\kD Q e zs=ae:=by
 simp only[dX]at h;split at h
 .rename_i y t d g j;simp only[aq3]at h;obtain⟨m,b⟩:=h;obtain⟨e,l,b⟩:=gM b;simp only[aq3]at b;exact⟨y,t,e,d,sZ g,sZ j,m,l,b.1,b.2⟩
 .simp at h
theorem YA(hS:SR Q σ X)(hB:X.B<=X.w.heap.size){a:Act}{aF:T}(hR:RR σ X aF a.tmps){o:Oper}{sz:Nat}{zs:List FC}{x:Arg}(J:dV Q σ o (.clear sz zs x)=ae){v:V}{H':aj}
  (h:bG aF X.H (.clear sz zs x)=aa (v,H')):gF Q σ X v H' (execOp a.eval o):=by
 simp only[dV]at J;split at J
 .rename_i c Z;obtain⟨y,t,e,N,O,S,j,hu,c9,hz⟩:=xW J;have j:=bV hR j;simp only[bG,aq5,aq8]at h;obtain⟨H2,d,rfl,rfl⟩:=h;have done:VR σ X (.t []) (.tuple #[]):=⟨[],rfl,A2.nil⟩
  unfold jm at d;split at d
  .rename_i p hp;rw[hp]at j;split at d
   .rename_i W;simp only[anc]at d;subst d;obtain⟨K,cp,g⟩:=kB j W;refine⟨.tuple #[],X,.inl (dM Z N λcs=>?_),rfl,hS,done,Ext.refl _ _,hB⟩;cases K<;>simp[builtin,O,S,Builtin.clear_,aW hu,g]
   .rename_i l Y W;obtain⟨K,cp,g⟩:=kB j W;split at d
    .rename_i b_;obtain⟨z,us,F,H,I,_⟩:=eV (σ:=σ) (X:=X) hz X.w;have c_:us.length=zs.length:=by have:=I.len;simp at this;omega
     have u:l≠0:=λe=>Y (by rw[e]);have key:∀(b o' A:Nat),(∃q,CR σ X (.ptr b o' A) (.pointer (aa q))/\K=aa q)->dC X.H (.ptr b o' A) ((cQ l zs).map .f)=aa H2->gF Q σ X (.t []) H2 (execOp a.eval o):=by
      rintro b o' A ⟨q,hq,rfl⟩ a8;obtain⟨cc,d5,X',g1,M,g3,g4,g5,g6,g7⟩:=aag hS hq (iS I l) a8;cases g1;by_cases c6:sz=0
      .subst c6;have c5:zs=[]:=ark b_;have a_:us=[]:=ark (by omega);subst c5;subst a_;refine⟨.tuple #[],X',.inl (dM Z N λcs=>?_),g3,g4,⟨[],rfl,A2.nil⟩,g5,by omega⟩;have hr:cQ l ([]:List Value)=[]:=by simp[cQ]
       rw[hr]at M;simp[builtin,O,S,Builtin.clear_,aW hu,g,u,F,H,Builtin.zeroCells];cases l with
       |zero=>exact absurd rfl u| succ l=>simp[M]
      .have b7:Builtin.zeroCells z.cells l=(cQ l us).toArray:=by
        have:=hZ us l (by omega);simpa[Builtin.zeroCells,H]using this
       refine⟨.tuple #[],X',.inl (dM Z N λcs=>?_),g3,g4,⟨[],rfl,A2.nil⟩,g5,by omega⟩;simp[builtin,O,S,Builtin.clear_,aW hu,g,F,b7];cases l with
       |zero=>exact absurd rfl u| succ l=>simp[M]
     split at d
     .rename_i b o' l' cap A s;simp only[VR,ib,CR,fM]at j;split at d
      .rename_i cs fl B;rw[B]at j;obtain⟨L,U,_,m⟩:=j;rw[g]at m;simp only[Value.slice.injEq]at m;refine key b o' A ⟨⟨L.c,o',ab⟩,⟨L,U,by rw[B]⟩,m.1⟩ d
      .rename_i s' cs fl e' B;split at d
       .rename_i E;rw[B]at j;obtain⟨L,U,k,_,_,m⟩:=j.2.1 E.1 E.2;rw[g]at m;simp only[Value.slice.injEq]at m;refine key b o' A ⟨⟨L.c,o',ab⟩,⟨L,U,?_⟩,m.1⟩ d;rw[B];exact⟨j.1,λ_=>rfl,_,rfl⟩
       .simp at d
      .simp at d
     .simp at d
    .simp at d
   .simp at d
  .simp at d
 .simp at J
theorem Ln(B:SR Q σ X)(S:X.B<=X.w.heap.size){a:Act}{aF:T}(U:RR σ X aF a.tmps){o:Oper}{x:Arg}(l:dV Q σ o (.ig x)=ae){v:V}{H':aj}
  (h:bG aF X.H (.ig x)=aa (v,H')):gF Q σ X v H' (execOp a.eval o):=by
 simp only[dV]at l;split at l
 .rename_i t y Y;simp only[aq3]at l;obtain⟨j,E⟩:=l;have j:=bV U j;simp only[bG]at h;unfold qQ at h;split at h
  .rename_i b c;rw[c]at j;obtain⟨L,A,_,Z⟩:=j;split at h
   .rename_i u m;split at h
    .rename_i p;simp only[anc,aq8]at h;obtain⟨rfl,rfl⟩:=h;obtain⟨_,_,bY,g,q⟩:=B.br b L A;rw[m]at g;simp only[anc]at g;subst g;obtain⟨d,H,I,_⟩:=q;split at E
     .rename_i kt e s;obtain⟨X',J,z,K,M,N,O⟩:=SR.new B S (.x6 b u.length ag) (dZ.alloc X.w (.mapIter (aa L.c) d.length #[] d.length)) 0 λX' j f k n=>by
       obtain⟨blk',i,F⟩:=j.bE b (aq4.1 m).1 _ m;cases blk'<;>simp only at F;refine⟨L,#[],d.length,F L A,⟨_,i⟩,?_,rfl⟩;rw[I.len,f];exact(dZ.alloc _ _).new
      refine⟨.pointer (aa ⟨X.w.heap.size,0,ab⟩),X',.inl ?_,z,K,⟨_,N,⟨b,u.length,ag,by rw[z];simp⟩,rfl⟩,M,O⟩;have W:(getObj L.c).run Q X.w=.ok (.map d.toArray d.length) X.w:=by simp[getObj,Sem.run,H]
      rw[J];simp[execOp,Y,Instr.range,aW s,Z,W]
     .simp at E
    .simp at h
   .simp at h
  .simp at h
 .simp at l
theorem Zs(s:SR Q σ X)(N:X.B<=X.w.heap.size){a:Act}{aF:T}(p:RR σ X aF a.tmps){o:Oper}{x:Arg}(E:dV Q σ o (.lT x)=ae){v:V}{H':aj}
  (h:bG aF X.H (.lT x)=aa (v,H')):gF Q σ X v H' (execOp a.eval o):=by
 simp only[dV]at E;split at E
 .rename_i y S;have i:=bV p E;simp only[bG]at h;unfold vH at h;split at h
  .rename_i b r;rw[r]at i;obtain⟨L,f,_,W⟩:=i;split at h
   .rename_i m c done u;obtain⟨_,_,bY,d,l⟩:=s.br b L f;rw[u]at d;simp only[anc]at d;subst d;obtain⟨J,sn,st,M,_,B,q⟩:=l;split at h
    .rename_i j;obtain⟨_,_,bY,d,l⟩:=s.br m J M;rw[j]at d;simp only[anc]at d;subst d;obtain⟨K,F,Z,_⟩:=l;have:K=[]:=ark Z.len.symm;subst this;split at h
     .simp at h
     .rename_i z;simp only[anc,aq8]at h;obtain⟨rfl,rfl⟩:=h;simp only[z,arq,if_false]at q;subst q;refine⟨.tuple #[.bool ag],X,.inl ?_,rfl,s,⟨[.bool ag],rfl,A2.cons (cS.bool _) A2.nil⟩,Ext.refl _ _,N⟩;simp only[execOp,S];refine er ?_;simp[Instr.next,W,getObj,Sem.run,B,F,Result.andThen,choose,Question.forced]
    .rename_i e j;obtain⟨H,F,Z,w,k⟩:=Bm s M j;split at h
     .rename_i z;simp only[anc,aq8]at h;obtain⟨rfl,rfl⟩:=h;simp only[z,if_true]at q;obtain⟨rfl,rfl⟩:=q;refine⟨.tuple #[.bool ag],X,.inl ?_,rfl,s,⟨[.bool ag],rfl,A2.cons (cS.bool _) A2.nil⟩,Ext.refl _ _,N⟩;simp only[execOp,S];refine er ?_;simp[Instr.next,W,getObj,Sem.run,B,F,k,Result.andThen,choose,Question.forced]
     .rename_i z;split at h
      .rename_i U;subst U;simp only[anc,aq8]at h;obtain⟨rfl,rfl⟩:=h;simp only[z,arq,if_false]at q;subst q;obtain⟨q1,I⟩:=SR.pg (o':=.mapIter (aa J.c) 1 #[0] 1) (blk':=.x6 m 1 ae) s u f B (by simp) (by simp)
        (λbY g=>⟨.x6 m 1 ae,by simp[(aq4.1 u).1],by rw[u]at g;simp only[anc]at g;subst g;exact⟨⟨rfl,rfl⟩,λL h=>h⟩⟩)
        (λX' t Y _ A n=>by
         have O:b≠m:=λe=>by rw[e,j]at u;cases u
         exact⟨J,#[0],1,by rw[A];exact M,⟨_,by rw[n,aq0 O];exact j⟩,Y,rfl,rfl⟩)
       refine⟨.tuple #[.bool ae,H.key,H.val],_,.inl ?_,rfl,q1,?_,I,by simpa using N⟩
       .simp only[execOp,S];refine er ?_;simp[Instr.next,W,getObj,setObj,Sem.run,B,F,k,Result.andThen,choose,Question.forced]
       .exact⟨[.bool ae,H.key,H.val],rfl,A2.cons (cS.bool _) (A2.cons (cS.mono I.F I.fw Z) (A2.cons (ib.ext' σ I w) A2.nil))⟩
      .simp at h
    .simp at h
   .simp at h
  .simp at h
 .simp at E
end
section
variable{Q:Program}{σ:Nat->FuncId}{X:Wd}
def dy(a b:cH):Prop:=
 match a with
 | .box cs g=>(match b with
  | .box cs' d=>cs=cs'/\g<=d
  |_=>False)
 | .cK s cs g e st=>(match b with
  | .cK l cs' d j st'=>s=l/\cs=cs'/\g<=d/\e=j/\st=st'
  |_=>False)
 |a=>a=b
theorem dy.refl(a:cH):dy a a:=by cases a<;>simp[dy]
theorem dy.trans{a b c:cH}(h:dy a b)(k:dy b c):dy a c:=by
 cases a<;>cases b<;>simp only[dy,reduceCtorEq]at h<;>cases c<;>simp only[dy,reduceCtorEq]at k ⊢
 .exact⟨h.1.trans k.1,arB h.2 k.2⟩
 .exact⟨h.1.trans k.1,h.2.1.trans k.2.1,arB h.2.2.1 k.2.2.1,h.2.2.2.1.trans k.2.2.2.1,h.2.2.2.2.trans k.2.2.2.2⟩
 all_goals exact h.trans k
def gm(H H':aj):Prop:=H.length=H'.length/\∀(b:Nat) bY blk',H[b]?=aa bY->H'[b]?=aa blk'->dy bY blk'
theorem gm.refl(H:aj):gm H H:=⟨rfl,λb bY blk' h d=>by rw[h]at d;cases d;exact dy.refl _⟩
theorem gm.get{H H':aj}(h:gm H H'){b:Nat}{bY:cH}(hb:H[b]?=aa bY):∃blk',H'[b]?=aa blk'/\dy bY blk':=by
 have hl:=(aq4.1 hb).1;have d:b<H'.length:=by have:=h.1;omega
 exact⟨_,aq2 d,h.2 b _ _ hb (aq2 d)⟩
theorem gm.trans{A B C:aj}(h:gm A B)(k:gm B C):gm A C:=
 ⟨h.1.trans k.1,λb x z d g=>by obtain⟨y,hy,h1⟩:=h.get d;exact h1.trans (k.2 b y z hy g)⟩
theorem gm.none{H H':aj}(h:gm H H'){b:Nat}(hb:H[b]?=ab):H'[b]?=ab:=by
 rw[asQ]at hb ⊢;have:=h.1;omega
theorem gm.set{H:aj}{b:Nat}{bY blk':cH}(hb:H[b]?=aa bY)(h:dy bY blk'):gm H (H.set b blk'):=by
 have hl:=(aq4.1 hb).1;refine⟨by simp,λi x y d hy=>?_⟩;by_cases hi:i=b
 .subst hi;simp only[atp,if_true,hl]at hy;rw[hb]at d;cases d;cases hy;exact h
 .rw[aq0 (Ne.symm hi)]at hy;rw[d]at hy;cases hy;exact dy.refl _
theorem gm.foldl{f:aj->C->aj}(b:∀H x,gm H (f H x)):∀(xs:List C) (H:aj),gm H (xs.foldl f H)
 |[],H=>gm.refl H| x::xs,H=>(b H x).trans (gm.foldl b xs (f H x))
theorem ju:∀(n:Nat) (x:C) (H:aj),gm H (fk n x H)
 |n,.f _,H=>by cases n<;>exact gm.refl H
 |0,.ptr _ _ _,H=>gm.refl H| 0,.sl _ _ _ _ _ _,H=>gm.refl H| 0,.cl _ _,H=>gm.refl H| 0,.yl _,H=>gm.refl H| 0,.mp _,H=>gm.refl H| 0,.it _,H=>gm.refl H| 0,.bm _ _,H=>gm.refl H| 0,.mi _,H=>gm.refl H
 |n+1,.ptr b q m,H=>by
  simp only[fk];split
  .rename_i cs j d;exact(gm.set d (by exact⟨rfl,arV _ _⟩)).trans (gm.foldl (λH x=>ju n x H) _ _)
  .exact gm.refl H
 |n+1,.sl b o l c m sz,H=>by
  simp only[fk];split
  .rename_i cs j d;exact(gm.set d (by exact⟨rfl,arV _ _⟩)).trans (gm.foldl (λH x=>ju n x H) _ _)
  .rename_i s cs j e st d;exact(gm.set d (by exact⟨rfl,rfl,arV _ _,rfl,rfl⟩)).trans (gm.foldl (λH x=>ju n x H) _ _)
  .exact gm.refl H
 |n+1,.cl f g,H=>gm.foldl (λH x=>ju n x H) _ _
 |n+1,.yl _,H=>gm.refl H| n+1,.mp _,H=>gm.refl H| n+1,.it _,H=>gm.refl H| n+1,.bm _ _,H=>gm.refl H| n+1,.mi _,H=>gm.refl H
theorem ft{b j:Type}{f g:b->Option j}:∀{xs:List b},(∀x∈xs,f x=g x)->aX f xs=aX g xs
 |[],_=>rfl| x::xs,h=>by rw[aX,aX,h x (by simp),ft (xs:=xs) (λy d=>h y (List.mem_cons_of_mem _ d))]
theorem mf:∀(n:Nat) {H H':aj},gm H H'->∀(x:C),eT n H' x=eT n H x
 |n,H,H',h,.f _=>by cases n<;>rfl
 |0,H,H',h,.ptr _ _ _=>rfl| 0,H,H',h,.sl _ _ _ _ _ _=>rfl| 0,H,H',h,.cl _ _=>rfl| 0,H,H',h,.yl _=>rfl| 0,H,H',h,.mp _=>rfl| 0,H,H',h,.it _=>rfl| 0,H,H',h,.bm _ _=>rfl| 0,H,H',h,.mi _=>rfl
 |n+1,H,H',h,.ptr b v s=>by
  simp only[eT];cases m:H[b]? with
  |none=>rw[h.none m]
  |some bY=>
   obtain⟨blk',d,j⟩:=h.get m;rw[d];cases bY<;>cases blk'<;>simp only[dy,reduceCtorEq]at j
   .obtain⟨rfl,_⟩:=j;simp only[ft (g:=eT n H) λx _=>mf n h x]
   all_goals rfl
 |n+1,H,H',h,.sl b o l c s sz=>by
  simp only[eT];cases m:H[b]? with
  |none=>rw[h.none m]
  |some bY=>
   obtain⟨blk',d,j⟩:=h.get m;rw[d];cases bY<;>cases blk'<;>simp only[dy,reduceCtorEq]at j
   .obtain⟨rfl,_⟩:=j;simp only[ft (g:=eT n H) λx _=>mf n h x]
   .obtain⟨rfl,rfl,u,rfl,rfl⟩:=j;clear u;rename_i st _;cases st<;>simp only[ft (g:=eT n H) λx _=>mf n h x]
   all_goals rfl
 |n+1,H,H',h,.cl f q=>by simp only[eT,ft (g:=eT n H) λx _=>mf n h x]
 |n+1,H,H',h,.yl _=>rfl| n+1,H,H',h,.mp _=>rfl| n+1,H,H',h,.it _=>rfl| n+1,H,H',h,.bm _ _=>rfl| n+1,H,H',h,.mi _=>rfl
def dQ:Nat->aj->C->Prop
 |_,_,.f _=>True| 0,_,_=>True| n+1,H,.ptr b _ _=>∀cs d,H[b]?=aa (.box cs d)->cs.length<=d/\∀x∈cs,dQ n H x
 |n+1,H,.sl b o l _ _ sz=>∀bY,H[b]?=aa bY->match bY with
  | .box cs d=>o+l*sz<=d/\∀x∈(cs.drop o).take (l*sz),dQ n H x| .cK _ cs d _ .loc=>o+l*sz<=d/\∀x∈(cs.drop o).take (l*sz),dQ n H x| _=>True
 |n+1,H,.cl _ g=>∀x∈g,dQ n H x| _,_,_=>True
theorem dQ.le:∀(n:Nat) {H H':aj},gm H H'->∀{x:C},dQ n H x->dQ n H' x
 |n,H,H',h,.f _,_=>by cases n<;>trivial
 |0,H,H',h,.ptr _ _ _,_=>trivial| 0,H,H',h,.sl _ _ _ _ _ _,_=>trivial| 0,H,H',h,.cl _ _,_=>trivial| 0,H,H',h,.yl _,_=>trivial| 0,H,H',h,.mp _,_=>trivial| 0,H,H',h,.it _,_=>trivial| 0,H,H',h,.bm _ _,_=>trivial| 0,H,H',h,.mi _,_=>trivial
 |n+1,H,H',h,.ptr b off A,v=>by
  intro cs B m;have y:=(aq4.1 m).1;have s:b<H.length:=by have:=h.1;omega
  have d:=h.2 b _ _ (aq2 s) m;cases g:H[b]<;>rw[g]at d<;>simp only[dy,reduceCtorEq]at d;obtain⟨rfl,q⟩:=d;obtain⟨h1,h2⟩:=v _ _ (by rw[aq2 s,g]);exact⟨arB h1 q,λx u=>dQ.le n h (h2 x u)⟩
 |n+1,H,H',h,.sl b o l c A sz,v=>by
  intro blk' m;have y:=(aq4.1 m).1;have s:b<H.length:=by have:=h.1;omega
  have d:=h.2 b _ _ (aq2 s) m;have j:=v _ (aq2 s);cases g:H[b]<;>rw[g]at d j<;>cases blk'<;>simp only[dy,reduceCtorEq]at d<;>try simp only
  .obtain⟨rfl,q⟩:=d;exact⟨arB j.1 q,λx u=>dQ.le n h (j.2 x u)⟩
  .obtain⟨rfl,rfl,q,rfl,rfl⟩:=d;rename_i st _;cases st<;>simp only at j ⊢;exact⟨arB j.1 q,λx u=>dQ.le n h (j.2 x u)⟩
 |n+1,H,H',h,.cl f z,v=>λx u=>dQ.le n h (v x u)
 |n+1,H,H',h,.yl _,_=>trivial| n+1,H,H',h,.mp _,_=>trivial| n+1,H,H',h,.it _,_=>trivial| n+1,H,H',h,.bm _ _,_=>trivial| n+1,H,H',h,.mi _,_=>trivial
theorem fG{n:Nat}(b:∀(x:C) (H:aj),dQ n (fk n x H) x):∀(xs:List C) (H:aj),∀x∈xs,dQ n (xs.foldl (λH x=>fk n x H) H) x
 |y::ys,H,x,d=>by
  simp only[asU];rcases arM.1 d with rfl|d
  .exact dQ.le n (gm.foldl (λH x=>ju n x H) ys _) (b x H)
  .exact fG b ys _ x d
theorem gI:∀(n:Nat) (x:C) (H:aj),dQ n (fk n x H) x
 |n,.f _,H=>by cases n<;>trivial
 |0,.ptr _ _ _,H=>trivial| 0,.sl _ _ _ _ _ _,H=>trivial| 0,.cl _ _,H=>trivial| 0,.yl _,H=>trivial| 0,.mp _,H=>trivial| 0,.it _,H=>trivial| 0,.bm _ _,H=>trivial| 0,.mi _,H=>trivial
 |n+1,.ptr b J I,H=>by
  simp only[fk];cases u:H[b]? with
  |none=>intro cs E h;exfalso;simp only at h;exact absurd (u.symm.trans h) (by simp)
  |some bY=>
   cases bY with
   |box d g=>
    intro cs E h;have s:=(aq4.1 u).1;simp only at h ⊢;have z:=gm.foldl (λH x=>ju n x H) d (H.set b (.box d (Nat.max g d.length)));obtain⟨blk',j,m⟩:=z.get (b:=b) (bY:=.box d (Nat.max g d.length)) (by simp[s]);rw[h]at j;cases j;obtain⟨rfl,q⟩:=m;exact⟨arB (arK _ _) q,λx v=>fG (λx H=>gI n x H) _ _ x v⟩
   |_=>intro cs E h;simp only at h;rw[u]at h;cases h
 |n+1,.sl b o l c I sz,H=>by
  simp only[fk];cases u:H[b]? with
  |none=>intro bY h;exfalso;simp only at h;exact absurd (u.symm.trans h) (by simp)
  |some bY=>
   have s:=(aq4.1 u).1;cases bY with
   |box d g=>
    intro bY h;simp only at h ⊢;have z:=gm.foldl (λH x=>ju n x H) ((d.drop o).take (l*sz)) (H.set b (.box d (Nat.max g (o+l*sz))));obtain⟨blk',j,m⟩:=z.get (b:=b) (bY:=.box d (Nat.max g (o+l*sz))) (by simp[s]);rw[h]at j;cases j;cases bY<;>simp only[dy,reduceCtorEq]at m;obtain⟨rfl,q⟩:=m;exact⟨arB (arK _ _) q,λx v=>fG (λx H=>gI n x H) _ _ x v⟩
   |cK F d g B y=>
    intro bY h;simp only at h ⊢;have z:=gm.foldl (λH x=>ju n x H) ((d.drop o).take (l*sz)) (H.set b (.cK F d (Nat.max g (o+l*sz)) B y));obtain⟨blk',j,m⟩:=z.get (b:=b) (bY:=.cK F d (Nat.max g (o+l*sz)) B y) (by simp[s]);rw[h]at j;cases j;cases bY<;>simp only[dy,reduceCtorEq]at m;obtain⟨rfl,rfl,q,rfl,rfl⟩:=m;cases y<;>simp only;exact⟨arB (arK _ _) q,λx v=>fG (λx H=>gI n x H) _ _ x v⟩
   |_=>intro bY h;simp only at h;rw[u]at h;cases h;simp
 |n+1,.cl f A,H=>λx v=>fG (λx H=>gI n x H) _ _ x v
 |n+1,.yl _,H=>trivial| n+1,.mp _,H=>trivial| n+1,.it _,H=>trivial| n+1,.bm _ _,H=>trivial| n+1,.mi _,H=>trivial
end
section
variable{Q:Program}{σ:Nat->FuncId}{X:Wd}
def dp(H H':aj):Prop:=∀(b:Nat) bY,H[b]?=aa bY->∃blk',H'[b]?=aa blk'/\dy bY blk'
theorem dp.refl(H:aj):dp H H:=λ_ bY h=>⟨bY,h,dy.refl _⟩
theorem dp.trans{A B C:aj}(h:dp A B)(k:dp B C):dp A C:=λb x d=>by
 obtain⟨y,hy,h1⟩:=h b x d;obtain⟨z,g,h2⟩:=k b y hy;exact⟨z,g,h1.trans h2⟩
theorem gm.ext{H H':aj}(h:gm H H'):dp H H':=λ_ _ hb=>h.get hb
theorem dp.append(H H':aj):dp H (H++H'):=λb bY hb=>⟨bY,by rw[aq1 (aq4.1 hb).1];exact hb,dy.refl _⟩
theorem dp.len{H H':aj}(h:dp H H'):H.length<=H'.length:=by
 rcases arI H'.length H.length with d|b
 .obtain⟨y,hy,_⟩:=h H'.length _ (aq2 d);have:=(aq4.1 hy).1;omega
 .exact b
theorem SR.ahead(j:SR Q σ X){H':aj}(h:dp X.H H'):SR Q σ { X with H:=H' }/\Ext X.H.length X { X with H:=H' }:=by
 have q:Ext X.H.length X { X with H:=H' }:=
  {B:=rfl,F:=λ_ _ h=>h,ov:=λ_ _ h=>.inl h,fw:=λ_ _ _=>rfl
   bE:=λb _ bY hb=>by
    obtain⟨blk',l,hl⟩:=h b bY hb;refine⟨blk',l,?_⟩;cases bY<;>cases blk'<;>simp only[dy,reduceCtorEq]at hl<;>simp_all
   ue:=λb L h=>.inl ⟨b,L,h,rfl⟩,size:=aq9 _,os:=rfl,tape:=rfl,output:=rfl,frame:=λ_ _ _=>rfl }
 refine⟨⟨λb L hb=>?_,j.inj,j.fb⟩,q⟩;obtain⟨h1,h2,bY,h3,s⟩:=j.br b L hb;obtain⟨blk',u,d⟩:=h b bY h3;refine⟨h1,h2,blk',u,?_⟩;have g:BR Q σ { X with H:=H' } bY L:=BR.ext Q σ q rfl (λ_ h=>h) s;cases bY<;>cases blk'<;>simp only[dy,reduceCtorEq]at d
 .obtain⟨rfl,hl⟩:=d;obtain⟨us,g1,g2,g3⟩:=g;exact⟨us,g1,g2,λi hi=>g3 i (arB hl hi)⟩
 .obtain⟨rfl,rfl,hl,rfl,rfl⟩:=d;obtain⟨m,us,rest,g1,g2,g3,g4,g5,g6⟩:=g;exact⟨m,us,rest,g1,g2,g3,g4,g5,λi hi=>g6 i (arB hl hi)⟩
 all_goals (rw[<-d];exact g)
def vq:cH->Nat->Prop
 | .box cs b,i=>i<b/\i<cs.length| .cK _ cs b _ _,i=>i<b/\i<cs.length| _,_=>False
def FL(X:Wd):Prop:=∀b L i bY,X.cE b=aa L->X.H[b]?=aa bY->vq bY i->X.F L.c i
def Wd.flag(X:Wd):Wd:={ X with F:=λc i=>X.F c i\/∃b L bY,X.cE b=aa L/\L.c=c/\X.H[b]?=aa bY/\vq bY i }
theorem SR.flag(l:SR Q σ X):SR Q σ X.flag/\Ext X.H.length X X.flag/\FL X.flag:=by
 have g:Ext X.H.length X X.flag:=
  {B:=rfl,F:=λ_ _ h=>.inl h
   ov:=λc i h=>by
    rcases h with h|⟨b,L,bY,h1,h2,_⟩
    .exact .inl h
    .exact .inr (.inr ⟨b,L,h1,h2⟩)
   fw:=λ_ _ _=>rfl
   bE:=λb _=>by
    intro bY hb;refine⟨bY,hb,?_⟩;cases bY<;>simp[Wd.flag]
   ue:=λb L h=>.inl ⟨b,L,h,rfl⟩,size:=aq9 _,os:=rfl,tape:=rfl,output:=rfl,frame:=λ_ _ _=>rfl }
 refine⟨⟨λb L hb=>?_,l.inj,λc i h=>?_⟩,g,λb L i bY h1 h2 h3=>.inr ⟨b,L,bY,h1,rfl,h2,h3⟩⟩
 .obtain⟨h1,h2,bY,h3,j⟩:=l.br b L hb;refine⟨h1,h2,bY,h3,?_⟩;have key:∀i,X.flag.F L.c i->X.F L.c i\/vq bY i:=by
   rintro i (h|⟨x,z,blk',g1,g2,g3,g4⟩)
   .exact .inl h
   .have:x=b:=l.inj _ _ _ _ g1 hb g2;subst this;rw[h3]at g3;cases g3;exact .inr g4
  cases bY with
  |box cs y=>
   obtain⟨us,g1,g2,g3⟩:=j;exact⟨us,g1,A2.ext' σ g g2,λi hi u=>(key i u).elim (g3 i hi) λh=>by have:=h.1;omega⟩
  |cK sz cs y A st=>
   obtain⟨v,us,rest,g1,g2,g3,g4,g5,g6⟩:=j;exact⟨v,us,rest,g1,A2.ext' σ g g2,g3,g4,g5,λi hi u=>(key i u).elim (g6 i hi) λh=>by have:=h.1;omega⟩
  |map es=>exact BR.ext Q σ g rfl (λi h=>(key i h).elim id False.elim) j
  |it s p=>exact BR.ext Q σ g rfl (λi h=>(key i h).elim id False.elim) j
  |fj b=>exact BR.ext Q σ g rfl (λi h=>(key i h).elim id False.elim) j
  |x6 m s d=>exact BR.ext Q σ g rfl (λi h=>(key i h).elim id False.elim) j
  |lp f t p a c st q d=>exact BR.ext Q σ g rfl (λi h=>(key i h).elim id False.elim) j
 .rcases h with h|⟨b,L,bY,h1,h2,_⟩
  .exact l.fb c i h
  .rw[<-h2];exact(l.br b L h1).2.1
theorem fR{d g:Type}{f:d->Option g}:∀{xs:List d} {ys:List g},aX f xs=aa ys->A2 (λx y=>f x=aa y) xs ys
 |[],ys,h=>by simp only[aX,anc]at h;subst h;exact A2.nil
 |x::xs,ys,h=>by
  simp only[aX]at h;split at h
  .simp at h
  .rename_i y j;split at h
   .simp at h
   .rename_i l b;simp only[anc]at h;subst h;exact A2.cons j (fR b)
theorem frz(hS:SR Q σ X)(hF:FL X){H:aj}(Y:dp H X.H):∀(n:Nat) {x:C} {y:FC} {v:Value},eT n H x=aa y->dQ n H x->CR σ X x v->cS σ X.F X.w y v
 |n,.f x,y,v,d,_,B=>by
  have:eT n H (.f x)=aa x:=by cases n<;>rfl
  rw[this]at d;cases d;exact B
 |0,.ptr _ _ _,y,v,d,_,_=>by simp[eT]at d
 |0,.sl _ _ _ _ _ _,y,v,d,_,_=>by simp[eT]at d
 |0,.cl _ _,y,v,d,_,_=>by simp[eT]at d
 |0,.yl _,y,v,d,_,_=>by simp[eT]at d
 |0,.mp _,y,v,d,_,_=>by simp[eT]at d
 |0,.it _,y,v,d,_,_=>by simp[eT]at d
 |0,.bm _ _,y,v,d,_,_=>by simp[eT]at d
 |0,.mi _,y,v,d,_,_=>by simp[eT]at d
 |n+1,.ptr b c5 ep,y,v,d,hm,B=>by
  simp only[eT]at d;split at d
  .rename_i cs M K;simp only[aq5]at d;obtain⟨ys,g,rfl⟩:=d;obtain⟨O,I⟩:=hm cs M K;obtain⟨blk',m,j⟩:=Y b _ K;cases blk'<;>simp only[dy,reduceCtorEq]at j;obtain⟨rfl,j⟩:=j;rename_i W;obtain⟨L,U,B⟩:=B;simp only[m]at B;subst B;obtain⟨_,_,bY,E,N⟩:=hS.br b L U;rw[m]at E;cases E;obtain⟨us,A,z,_⟩:=N;have g:=fR g;have:=cS.fp (σ:=σ) (F:=X.F) (w:=X.w) ys c5 L.c 0 us (by rw[<-z.len,g.len])
    (λi hi=>by rw[asd];exact hF b L i _ U m ⟨by have:=g.len;omega,by have:=g.len;omega⟩)
    (λi u S=>by rw[asd,ec A];exact S)
    (λi y u hy S=>by
     have hi:i<cs.length:=by rw[g.len];exact(aq4.1 hy).1
     have Z:=aq2 hi;exact frz hS hF Y n (g.2 i _ _ Z hy) (I _ (aq7 hi)) (z.2 i _ _ Z S))
   rw[asd]at this;exact this
  .simp at d
 |n+1,.sl b o l c ep sz,y,v,d,hm,B=>by
  have key:∀(cs:List C) (M:Nat) (blk':cH) (L:Loc) (us rest:List Value) (ys:List FC) (cap:Nat),o+l*sz<=cs.length->o+l*sz<=M->
    (∀i,i<M->i<cs.length->vq blk' i)->X.H[b]?=aa blk'->X.cE b=aa L->rowAt X.w L.c (us++rest)->A2 (CR σ X) cs us->
    (∀x∈(cs.drop o).take (l*sz),dQ n H x)->aX (eT n H) ((cs.drop o).take (l*sz))=aa ys->l<=cap->cS σ X.F X.w (.fs ys l) (.slice (aa ⟨L.c,o,ab⟩) l cap):=by
   intro cs M blk' L us rest ys cap q O a8 m U A z I g J;have g:=fR g;have c6:=z.len;have b_:ys.length=l*sz:=by rw[<-g.len];simp;omega
   have b7:=(z.drop o).take (l*sz);refine .fs ys l L.c o cap ((us.drop o).take (l*sz)) J (by rw[b_];simp;omega) (λi hi=>hF b L _ _ U m (a8 _ (by omega) (by omega))) (λi u S=>?_) (λi y u hy S=>?_)
   .have hi:i<l*sz:=by
     have:=(aq4.1 S).1;simp at this;omega
    rw[ec A,aq1 (by omega)];rw[List.getElem?_take_of_lt hi,arC]at S;exact S
   .have hi:i<((cs.drop o).take (l*sz)).length:=by rw[g.len];exact(aq4.1 hy).1
    have Z:=aq2 hi;exact frz hS hF Y n (g.2 i _ _ Z hy) (I _ (aq7 hi)) (b7.2 i _ _ Z S)
  simp only[eT]at d;simp only[CR,fM]at B;split at d
  .rename_i cs M K;split at d
   .rename_i q;simp only[aq5]at d;obtain⟨ys,g,rfl⟩:=d;obtain⟨O,I⟩:=hm _ K;obtain⟨blk',m,j⟩:=Y b _ K;cases blk'<;>simp only[dy,reduceCtorEq]at j;obtain⟨rfl,j⟩:=j;rename_i W;simp only[m]at B;obtain⟨L,U,J,rfl⟩:=B;obtain⟨_,_,bY,E,N⟩:=hS.br b L U;rw[m]at E;cases E;obtain⟨us,A,z,_⟩:=N;exact key cs M (.box cs W) L us [] ys c q O (λi h1 h2=>⟨by omega,h2⟩) m U (by simpa using A) z I g J
   .simp at d
  .rename_i s cs M e K;split at d
   .rename_i q;obtain⟨rfl,rfl,q⟩:=q;simp only[aq5]at d;obtain⟨ys,g,rfl⟩:=d;obtain⟨O,I⟩:=hm _ K;obtain⟨blk',m,j⟩:=Y b _ K;cases blk'<;>simp only[dy,reduceCtorEq]at j;obtain⟨rfl,rfl,j,rfl,rfl⟩:=j;rename_i W;simp only[m]at B;obtain⟨L,U,k,ho,J,rfl⟩:=B.2.1 trivial trivial;obtain⟨_,_,bY,E,N⟩:=hS.br b L U;rw[m]at E;cases E;obtain⟨_,us,rest,A,z,_⟩:=N;exact key cs M (.cK sz cs W ep .loc) L us rest ys _ q O (λi h1 h2=>⟨by omega,h2⟩) m U A z I g (by omega)
   .simp at d
  .rename_i s cs M e K;split at d
   .rename_i q;obtain⟨rfl,rfl⟩:=q;cases d;obtain⟨blk',m,j⟩:=Y b _ K;cases blk'<;>simp only[dy,reduceCtorEq]at j;obtain⟨rfl,rfl,j,rfl,rfl⟩:=j;simp only[m]at B;obtain⟨_,_,rfl⟩:=B.2.1 trivial trivial;exact .aw
   .simp at d
  .rename_i s cs M e K;split at d
   .rename_i q;obtain⟨rfl,rfl⟩:=q;cases d;obtain⟨blk',m,j⟩:=Y b _ K;cases blk'<;>simp only[dy,reduceCtorEq]at j;obtain⟨rfl,rfl,j,rfl,rfl⟩:=j;simp only[m]at B;obtain⟨_,_,a,rfl⟩:=B.2.1 trivial trivial;exact .es a
   .simp at d
  .simp at d
 |n+1,.cl f a_,y,v,d,hm,B=>by
  simp only[eT,aq5]at d;obtain⟨ys,g,rfl⟩:=d;obtain⟨us,rfl,z⟩:=B;have g:=fR g;refine .fn f ys us (by rw[<-z.len,g.len]) λi y u hy S=>?_;have hi:i<a_.length:=by rw[g.len];exact(aq4.1 hy).1
  have Z:=aq2 hi;exact frz hS hF Y n (g.2 i _ _ Z hy) (hm _ (aq7 hi)) (CR.of1 σ (z.2 i _ _ Z S))
 |n+1,.yl _,y,v,d,_,_=>by simp[eT]at d
 |n+1,.mp _,y,v,d,_,_=>by simp[eT]at d
 |n+1,.it _,y,v,d,_,_=>by simp[eT]at d
 |n+1,.bm _ _,y,v,d,_,_=>by simp[eT]at d
 |n+1,.mi _,y,v,d,_,_=>by simp[eT]at d
end
section
variable{Q:Program}{σ:Nat->FuncId}{X:Wd}
theorem SR.skip(g:SR Q σ X){w':World}{o:Obj}(d:dZ X.w w' o)(m:X.B<=X.w.heap.size):∃X':Wd,X'.w=w'/\X'.H=X.H/\SR Q σ X'/\Ext X.H.length X X'/\X'.B<=X'.w.heap.size:=by
 have j:Ext X.H.length X { X with w:=w' }:=Ext.one g X.H.length rfl (λ_ _=>Iff.rfl) (λk l _=>d.yZ l)
  (λL i h=>by rw[SR.pU g]at h;simp at h) (λh=>absurd h (atv _)) (λ_ _ _=>rfl) (λ_ _=>rfl) (λL h=>.inl ⟨L,h,rfl⟩) (by show _<=w'.heap.size;rw[d.size];omega) d.os d.tape d.output
 refine⟨{ X with w:=w' },rfl,rfl,SR.step Q σ g j X.H.length (λ_ _=>rfl) (λ_ _=>rfl) (λb L _ hb=>d.yZ (g.br b L hb).2.1)
  (λ_ _ _ _ _ h=>h) (λL h=>by change X.cE X.H.length=aa L at h;rw[SR.pU g]at h;simp at h) (λc i h=>?_),j,?_⟩
 .have:=g.fb c i h;show c<w'.heap.size;rw[d.size];omega
 .show X.B<=w'.heap.size;rw[d.size];omega
theorem lN{n:Int}(b:0<=n)(d:n<2 ^ 63):IntKind.i64.wrap n=n:=by
 have:n % (2 ^ 64:Int)=n:=Int.emod_eq_of_lt b (by omega);simp only[IntKind.wrap,IntKind.bits,IntKind.signed,this,ash,decide_eq_true_eq];rw[aR (by show¬ n≥2 ^ (64-1);omega)]
theorem Ah(hS:SR Q σ X)(hB:X.B<=X.w.heap.size){a:Act}{aF:T}(hR:RR σ X aF a.tmps){o:Oper}{sz bytes:Nat}{zs:List FC}{x y:Arg}(F:dV Q σ o (.eh sz bytes zs x y)=ae){v:V}{H':aj}
  (h:bG aF X.H (.eh sz bytes zs x y)=aa (v,H')):gF Q σ X v H' (execOp a.eval o):=by
 simp only[dV]at F;split at F
 .rename_i t x' y' ho;simp only[aq3,decide_eq_true_eq]at F;obtain⟨⟨⟨k,r⟩,O⟩,b_⟩:=F;have k:=bV hR k;have r:=bV hR r;obtain⟨e,hu,O⟩:=gM O;simp only[aq3]at O;obtain⟨⟨j,Z⟩,hz⟩:=O;obtain⟨z,us,a8,a_,M,d6,c6,c9⟩:=eV (σ:=σ) (X:=X) hz X.w;obtain⟨c5,u,A⟩:=vV Z X.w;simp only[bG]at h;split at h
  .rename_i l c hl hc;obtain⟨kl,p⟩:=il k hl;obtain⟨kc,w⟩:=il r hc;split at h
   .rename_i s;obtain⟨h0,c_,g,d5⟩:=s;unfold cJ at g;simp only[aq3,decide_eq_true_eq]at g;have J:us.length=sz:=by have:=M.len;simp at this;omega
    have L:=lN (n:=l) h0 (by omega);have K:=lN (n:=c) (by omega) (by omega);have b7:c.toNat*bytes<=2 ^ 48:=by
     have:c.toNat*bytes<=(2*c.toNat+768)*bytes:=arL _ (by omega);omega
    have m:¬ ((bytes:Int)*c>2 ^ 48):=by
     have e1:(bytes:Int)*c=((c.toNat*bytes:Nat):Int):=by
      rw[atm,ar6];congr 1;omega
     rw[e1];omega
    have I:((Array.range (c.toNat*sz)).map λi=>us.toArray[i % us.toArray.size]!)=(cQ c.toNat us).toArray:=by
     have:=hZ us c.toNat (by omega);rwa[J]at this
    have run:(execOp a.eval o).run Q X.w=.ok (.value (.slice (aa ⟨X.w.heap.size,0,ab⟩) l.toNat c.toNat)) (X.w.alloc (.cells (cQ c.toNat us).toArray e)):=by
     simp only[execOp,ho];refine er ?_;rw[p,w];have B:¬ c<0:=by omega
     have E:¬ l<0:=by omega
     have q:¬ l>c:=by omega
     by_cases d:c.toNat*sz=0
     .have f:cQ c.toNat us=[]:=ark (by rw[kv,J];exact d);have b:((decide (c<0)||decide ((bytes:Int)*c>2 ^ 48))||decide (l<0)||decide (l>c))=ag:=by rw[decide_eq_false B,decide_eq_false E,decide_eq_false q,decide_eq_false m];rfl
      simp only[Instr.makeSlice,Sem.run_bind,aW hu,asInt,asIntOf,Sem.run_pure,Result.andThen_ok,u,A,L,K,run_askRoom,dj j];simp only[b,arq,if_false,Sem.run_ite,bw d,Sem.run_bind,Result.andThen_ok,Sem.run_pure,run_askRoom,dj j,newRow,run_newObj];rw[d,f,show(Array.map (λx=>(#[]:Array Value)[x % (#[]:Array Value).size]!) (Array.range 0))=#[] from by simp[show Array.range 0=(#[]:Array Nat) from rfl]];rfl
     .simp only[Instr.makeSlice,Sem.run_bind,aW hu,asInt,asIntOf,Sem.run_pure,Result.andThen_ok,u,A,L,K,run_askRoom,dj j];have b:((decide (c<0)||decide ((bytes:Int)*c>2 ^ 48))||decide (l<0)||decide (l>c))=ag:=by rw[decide_eq_false B,decide_eq_false E,decide_eq_false q,decide_eq_false m];rfl
      simp only[b,arq,if_false,Sem.run_ite,aR d,Sem.run_bind,a8,a_,Result.andThen_ok,Sem.run_pure,run_askRoom,dj j,I,newRow,run_newObj];rfl
    split at h
    .rename_i d;subst d;simp only[anc,aq8]at h;obtain⟨rfl,rfl⟩:=h;have:l=0:=by omega
     subst this;obtain⟨X',S,N,U,W,Y⟩:=SR.skip hS (dZ.alloc X.w (.cells (cQ (0:Int).toNat us).toArray e)) hB;exact⟨_,X',.inl (by rw[S];exact run),N,U,cS.es _,W,Y⟩
    .simp only[anc,aq8]at h;obtain⟨rfl,rfl⟩:=h;obtain⟨X',S,N,U,W,Y,g6⟩:=Aj hS hB (iS M c.toNat) e;refine⟨_,X',.inl (by rw[S];exact run),N,U,?_,W,g6⟩;have H:X'.H[X.H.length]?=aa (.box ((cQ c.toNat zs).map .f) 0):=by rw[N];simp
     simp only[VR,ib,CR,fM,H];exact⟨_,Y,by omega,rfl⟩
   .simp at h
  .simp at h
 .simp at F
theorem aju(H:aj):∀x,eT 0 H x=fcC x:=λx=>by cases x<;>rfl
theorem agU(K:SR Q σ X)(hB:X.B<=X.w.heap.size){a:Act}{aF:T}(J:RR σ X aF a.tmps){o:Oper}{sz:Nat}{x hi mx:Arg}(E:dV Q σ o (.qF sz x hi mx)=ae){v:V}{H':aj}
  (h:bG aF X.H (.qF sz x hi mx)=aa (v,H')):gF Q σ X v H' (execOp a.eval o):=by
 simp only[dV]at E;split at E
 .rename_i t y W mx' ho;simp only[aq3,decide_eq_true_eq]at E;obtain⟨⟨⟨⟨A,h2⟩,h3⟩,he⟩,hz⟩:=E;obtain⟨e,hu,F⟩:=gM he;simp only[bG]at h;unfold uQ at h;have o1:OR X σ ab ab:=trivial;have o2:OR X σ (aa (hi.ev aF)) (aa (a.eval W)):=bV J h2;have o3:OR X σ (aa (mx.ev aF)) (aa (a.eval mx')):=bV J h3;have A:=bV J A;split at h
  .rename_i v' hv;simp only[anc,aq8]at h;obtain⟨rfl,rfl⟩:=h;obtain⟨r,I,h5⟩:=uR K hu F A o1 o2 o3 hv;exact⟨r,X,.inl (by simp only[execOp,ho];exact er I),rfl,K,h5,Ext.refl _ _,hB⟩
  .split at h
   .rename_i b o' n c' m s c9;rw[c9]at A;simp only[VR,ib,CR,fM]at A;split at h
    .rename_i l cs u e' M;rw[M]at A;split at h
     .rename_i O;obtain⟨rfl,rfl,rfl,rfl⟩:=O;split at h
      .rename_i i j d a8;split at h
       .rename_i Z;obtain⟨rfl,d7,d6⟩:=Z;split at h
        .rename_i ys c_;simp only[anc,aq8]at h;obtain⟨rfl,rfl⟩:=h;obtain⟨L,hL,k,hk,d9,c6⟩:=A.2.1 rfl rfl;have a_:k=0:=by
          rcases Nat.eq_zero_or_pos k with h|h
          .exact h
          .have:=Nat.mul_pos h hz;omega
         subst a_;have d8:i<=n:=by
          unfold yX at d;split at d
          .split at d
           .rename_i hh;simp only[anc]at d;omega
           .simp at d
          .simp at d
         have N:bM n n ab (aa (hi.ev aF)) (aa (mx.ev aF))=aa (0,i,i):=by
          have Y:yX (hi.ev aF) i=aa i:=by
           unfold yX at d ⊢;split at d
           .split at d
            .rename_i hh;simp only[anc]at d;rw[bw ⟨hh.1,by omega⟩,d]
            .simp at d
           .simp at d
          simp[bM,a8,Y]
         obtain⟨I,_,_,_⟩:=dN (Q:=Q) o1 o2 o3 N (cap:=L.cap) (by omega) (aq9 n) ae X.w;have h6:=eE (a:=aa ⟨L.c,0,ab⟩) hu F I;have b7:gm X.H (X.H.set b (.cK l cs (Nat.max u (i*l)) m .loc)):=gm.set M ⟨rfl,rfl,arV _ _,rfl,rfl⟩;obtain⟨g1,g2⟩:=SR.ahead K b7.ext;obtain⟨g3,g4,g5⟩:=SR.flag g1;have b_:=(aq4.1 M).1;have q:(X.H.set b (.cK l cs (Nat.max u (i*l)) m .loc))[b]?=aa (.cK l cs (Nat.max u (i*l)) m .loc):=by simp[b_]
         have U:eT 1 (X.H.set b (.cK l cs (Nat.max u (i*l)) m .loc)) (.sl b 0 i 0 m l)=aa (.fs ys i):=by
          simp only[eT,q];rw[bw ⟨trivial,trivial,by omega⟩,ft (g:=fcC) λx _=>aju _ x,asp,c_];rfl
         have c5:dQ 1 (X.H.set b (.cK l cs (Nat.max u (i*l)) m .loc)) (.sl b 0 i 0 m l):=by
          intro bY z;rw[q]at z;cases z;refine⟨by have:=arK u (i*l);simp only[asd];exact this,λx _=>?_⟩;cases x<;>trivial
         have S:CR σ ({ X with H:=X.H.set b (.cK l cs (Nat.max u (i*l)) m .loc) }:Wd).flag (.sl b 0 i 0 m l) (.slice (aa ⟨L.c,0,ab⟩) i L.cap):=by
          simp only[CR,fM,Wd.flag,q];exact⟨aq9 _,λ_ _=>⟨L,hL,0,by omega,by omega,by simp⟩,_,_,_,rfl⟩
         have hf:=frz g3 g5 (dp.refl _) 1 U c5 S;have B:cS σ ({ X with H:=X.H.set b (.cK l cs (Nat.max u (i*l)) m .loc) }:Wd).flag.F X.w (.fs ys i) (.slice (aa ⟨L.c,0,ab⟩) i i):=by
          cases hf with
          |fs _ _ c o2 cap us d5 hl hF O hr=>exact .fs _ _ _ _ _ us (aq9 _) hl hF O hr| fs0 a2 cap=>omega
         refine⟨.slice (aa ⟨L.c,0,ab⟩) i i,({ X with H:=X.H.set b (.cK l cs (Nat.max u (i*l)) m .loc) }:Wd).flag,.inl ?_,rfl,g3,B,g2.trans (g4.mono (by simp)),hB⟩;simp only[execOp,ho];refine er ?_;rw[c6];simp[show i≠0 by omega,eo]at h6;exact h6
        .simp at h
       .simp at h
      .simp at h
     .simp at h
    .simp at h
   .simp at h
 .simp at E
theorem alA(d:SR Q σ X)(g:X.B<=X.w.heap.size){a:Act}{aF:T}(j:RR σ X aF a.tmps){o:Oper}{op:dn}(b:dV Q σ o op=ae){v:V}{H':aj}
  (h:bG aF X.H op=aa (v,H')):gF Q σ X v H' (execOp a.eval o):=by
 cases m:op.fsl
 case true=>
  cases op<;>simp only[dn.fsl,reduceCtorEq]at m;obtain⟨rfl,u,X',B,E,F,H,I,J,_⟩:=tZ d g j b h;exact⟨u,X',.inl B,E,F,H,I,J⟩
 by_cases s:cls op=.p\/cls op=.r
 .exact gF.aoi g d (ahn d j b s m h)
 .cases op with
  |pre st sz=>exact ak_ d g b h
  |alloc zs=>
   simp only[bG,anc,aq8]at h;obtain⟨rfl,rfl⟩:=h;exact Yj d g b
  |box x=>
   simp only[bG]at h;split at h
   .rename_i xs q;simp only[anc,aq8]at h;obtain⟨rfl,rfl⟩:=h;exact ajc d g j b q
   .simp at h
  |bN sz zs n ps=>exact J6 d g j b h| store n x y=>exact aai d g j b h
  |ik=>
   simp only[bG,anc,aq8]at h;obtain⟨rfl,rfl⟩:=h;exact Zn d g b
  |iO K x y z=>exact Ze d g j b h| eh sz l zs x y=>exact Ah d g j b h| range x=>exact ZX d g j b h| next x=>exact afV d g j b h
  |append sz l x y=>exact JZ d g j b h| ae1 x=>simp[dV]at b| copy sz x y=>simp[dV]at b| clear sz zs x=>exact YA d g j b h| lV sz l zs x y=>exact aeS d g j b h| ig x=>exact Ln d g j b h| qF sz x y z=>exact agU d g j b h| lT x=>exact Zs d g j b h| call f xs A=>simp[bG]at h| bZ x xs A=>simp[bG]at h| recover=>simp[bG]at h| defer x xs=>simp[bG]at h| bad=>simp[bG]at h| _=>exact absurd (by simp[cls]) s
end
section
variable{Q:Program}{σ:Nat->FuncId}{X:Wd}
def kI(n:Nat)(H:aj):V->Prop
 | .c x=>dQ n H x| .a xs=>∀x∈xs,dQ n H x| _=>True
theorem kI.le{n:Nat}{H H':aj}(h:gm H H'){v:V}(b:kI n H v):kI n H' v:=by
 cases v with
 |c x=>exact dQ.le n h b| a xs=>exact λx d=>dQ.le n h (b x d)
 |_=>trivial
theorem ajT(n:Nat)(v:V)(H:aj):gm H (mkV n H v):=by
 cases v with
 |c x=>exact ju n x H| a xs=>exact gm.foldl (λH x=>ju n x H) xs H
 |_=>exact gm.refl H
theorem Af(n:Nat)(v:V)(H:aj):kI n (mkV n H v) v:=by
 cases v with
 |c x=>exact gI n x H| a xs=>exact λx b=>fG (λx H=>gI n x H) xs H x b
 |_=>trivial
theorem oS(n:Nat):∀(b:List V) (H:aj),gm H (b.foldl (mkV n) H)
 |[],H=>gm.refl H| v::b,H=>(ajT n v H).trans (oS n b _)
theorem qv(n:Nat):∀(b:List V) (H:aj),∀v∈b,kI n (b.foldl (mkV n) H) v
 |u::b,H,v,d=>by
  rcases arM.1 d with rfl|d
  .exact(Af n v H).le (oS n b _)
  .exact qv n b _ v d
def FV1(σ:Nat->FuncId)(F:Nat->Nat->Prop)(w:World)(v:V)(u:Value):Prop:=∀X:Wd,X.F=F->X.w=w->ib σ X v u
def FV(σ:Nat->FuncId)(F:Nat->Nat->Prop)(w:World)(v:V)(u:Value):Prop:=∀X:Wd,X.F=F->X.w=w->VR σ X v u
theorem ag_(z:SR Q σ X)(q:FL X){H:aj}(s:dp H X.H){n:Nat}{v F:V}{u:Value}(d:de n H v=aa F)(A:kI n H v)(B:ib σ X v u):FV1 σ X.F X.w F u:=by
 intro Z g j;cases v with
 |c x=>
  simp only[de,aq5]at d;obtain⟨y,m,rfl⟩:=d;have:=frz z q s n m A B;rw[<-g,<-j]at this;exact this
 |a xs=>
  simp only[de,aq5]at d;obtain⟨ys,b,rfl⟩:=d;obtain⟨us,rfl,l⟩:=B;have b:=fR b;refine⟨us,rfl,A2.map ⟨by rw[<-l.len,b.len],λi y u m I=>?_⟩⟩;have hi:i<xs.length:=by rw[b.len];exact(aq4.1 m).1
  have E:=aq2 hi;have:=frz z q s n (b.2 i _ _ E m) (A _ (aq7 hi)) (l.2 i _ _ E I);rw[<-g,<-j]at this;exact this
 |top=>simp[de]at d| t J=>simp[de]at d
def cH.full:cH->cH
 | .box cs d=>.box cs (Nat.max d cs.length)| .cK s cs d e st=>.cK s cs (Nat.max d cs.length) e st| b=>b
theorem vr(H:aj):gm H (H.map cH.full):=by
 refine⟨by simp,λb x y g d=>?_⟩;rw[asf,g]at d;simp only[arN,anc]at d;subst d;cases x<;>simp[dy,cH.full,arV]
theorem gj:∀(n:Nat) {H:aj} {x:C} {y:FC},eT n H x=aa y->dQ n (H.map cH.full) x
 |n,H,.f _,y,_=>by cases n<;>trivial
 |0,H,.ptr _ _ _,y,_=>trivial| 0,H,.sl _ _ _ _ _ _,y,_=>trivial| 0,H,.cl _ _,y,_=>trivial| 0,H,.yl _,y,_=>trivial| 0,H,.mp _,y,_=>trivial| 0,H,.it _,y,_=>trivial| 0,H,.bm _ _,y,_=>trivial| 0,H,.mi _,y,_=>trivial
 |n+1,H,.ptr b E B,y,d=>by
  intro cs F j;rw[asf]at j;simp only[eT]at d;split at d
  .rename_i cs' u g;rw[g]at j;simp only[arN,anc,cH.full,cH.box.injEq]at j;obtain⟨rfl,rfl⟩:=j;simp only[aq5]at d;obtain⟨ys,m,rfl⟩:=d;refine⟨arK _ _,λx v=>?_⟩;obtain⟨i,hi⟩:=asl v;obtain⟨y,_,z⟩:=(fR m).get hi;exact gj n z
  .simp at d
 |n+1,H,.sl b o l c B sz,y,d=>by
  intro bY j;rw[asf]at j;simp only[eT]at d;split at d
  .rename_i cs' u g;rw[g]at j;simp only[arN,anc,cH.full]at j;subst j;split at d
   .rename_i q;simp only[aq5]at d;obtain⟨ys,m,rfl⟩:=d;refine⟨arB q (arK _ _),λx v=>?_⟩;obtain⟨i,hi⟩:=asl v;obtain⟨y,_,z⟩:=(fR m).get hi;exact gj n z
   .simp at d
  .rename_i s cs' u e g;rw[g]at j;simp only[arN,anc,cH.full]at j;subst j;split at d
   .rename_i q;simp only[aq5]at d;obtain⟨ys,m,rfl⟩:=d;refine⟨arB q.2.2 (arK _ _),λx v=>?_⟩;obtain⟨i,hi⟩:=asl v;obtain⟨y,_,z⟩:=(fR m).get hi;exact gj n z
   .simp at d
  .rename_i s cs' u e g;rw[g]at j;simp only[arN,anc,cH.full]at j;subst j;trivial
  .rename_i s cs' u e g;rw[g]at j;simp only[arN,anc,cH.full]at j;subst j;trivial
  .simp at d
 |n+1,H,.cl f A,y,d=>by
  simp only[eT,aq5]at d;obtain⟨ys,m,rfl⟩:=d;intro x v;obtain⟨i,hi⟩:=asl v;obtain⟨y,_,z⟩:=(fR m).get hi;exact gj n z
 |n+1,H,.yl _,y,d=>trivial| n+1,H,.mp _,y,d=>trivial| n+1,H,.it _,y,d=>trivial| n+1,H,.bm _ _,y,d=>trivial| n+1,H,.mi _,y,d=>trivial
theorem vt{n:Nat}{H:aj}{v l:V}(b:de n H v=aa l):kI n (H.map cH.full) v:=by
 cases v with
 |c x=>
  simp only[de,aq5]at b;obtain⟨y,d,rfl⟩:=b;exact gj n d
 |a xs=>
  simp only[de,aq5]at b;obtain⟨ys,g,rfl⟩:=b;intro x j;obtain⟨i,hi⟩:=asl j;obtain⟨y,_,d⟩:=(fR g).get hi;exact gj n d
 |_=>trivial
def Wd.inner(X:Wd):Wd:=⟨λ_=>ab,X.F,[],X.w,X.w.heap.size⟩
theorem SR.inner(d:SR Q σ X):SR Q σ X.inner:=⟨λb L h=>by simp[Wd.inner]at h,λb j L g h=>by simp[Wd.inner]at h,d.fb⟩
def Wd.iI(Y:Wd):Wd:=Wd.flag { Y with H:=Y.H.map cH.full }
theorem SR.iI{Y:Wd}(g:SR Q σ Y):SR Q σ Y.iI/\Ext Y.H.length Y Y.iI/\FL Y.iI:=by
 obtain⟨h1,h2⟩:=SR.ahead g (vr Y.H).ext;obtain⟨h3,b,d⟩:=SR.flag h1;exact⟨h3,h2.trans (b.mono (by simp)),d⟩
theorem zL{Y:Wd}(J:SR Q σ Y){n:Nat}{v g:V}{u:Value}(b:jy n Y.H v=aa g)(A:VR σ Y v u):FV σ Y.iI.F Y.w g u:=by
 obtain⟨F,H,I⟩:=SR.iI J;have m:=VR.ext' σ H A;have q:∀{v g:V} {u:Value},de n Y.H v=aa g->ib σ Y.iI v u->FV1 σ Y.iI.F Y.w g u:=by
  intro v g u b A;have z:de n Y.iI.H v=aa g:=by
   show de n (Y.H.map cH.full) v=aa g;cases v with
   |c x=>simp only[de]at b ⊢;rw[mf n (vr Y.H)];exact b| a xs=>simp only[de]at b ⊢;rw[ft (λx _=>mf n (vr Y.H) x)];exact b
   |_=>simp[de]at b
  exact ag_ F I (dp.refl _) z (vt b) A
 intro Z j l;cases v with
 |t L=>
  simp only[jy,aq5]at b;obtain⟨M,d,rfl⟩:=b;obtain⟨us,rfl,s⟩:=m;have d:=fR d;refine⟨us,rfl,by rw[<-s.len,d.len],λi y u E K=>?_⟩;have hi:i<L.length:=by rw[d.len];exact(aq4.1 E).1
  have B:=aq2 hi;exact q (d.2 i _ _ B E) (s.2 i _ _ B K) Z j l
 |c x=>exact VR.of1 σ (q (v:=.c x) b m Z j l)| a xs=>exact VR.of1 σ (q (v:=.a xs) b m Z j l)| top=>simp[jy,de]at b
theorem SR.outer(q:SR Q σ X)(u:X.B<=X.w.heap.size){Y:Wd}(s:SR Q σ Y)(d:Ext 0 X.inner Y) :
  SR Q σ { X with F:=Y.iI.F,w:=Y.w }/\Ext X.H.length X { X with F:=Y.iI.F,w:=Y.w }/\X.B<=Y.w.heap.size:=by
 obtain⟨h1,h2,h3⟩:=SR.iI s;have yY:X.w.heap.size<=Y.w.heap.size:=d.size;have g:∀k,k<X.w.heap.size->Y.w.heap[k]?=X.w.heap[k]?:=λk m=>d.frame k m (λb L h=>by simp[Wd.inner]at h);have l:∀c i,Y.iI.F c i->X.F c i\/X.w.heap.size<=c:=by
  intro c i h;rcases h2.ov c i h with h|h|⟨b,L,hb,rfl⟩
  .rcases d.ov c i h with h|h|⟨b,L,hb,_⟩
   .exact .inl h
   .exact .inr h
   .simp[Wd.inner]at hb
  .exact .inr (arB yY h)
  .have:=(s.br b L hb).1;rw[d.B]at this;exact .inr this
 have j:Ext X.H.length X { X with F:=Y.iI.F,w:=Y.w }:=
  {B:=rfl,F:=λc i h=>h2.F c i (d.F c i h)
   ov:=λc i h=>(l c i h).elim .inl λh=>.inr (.inl h)
   fw:=λc i h=>d.fw c i h
   bE:=λb _ bY hb=>⟨bY,hb,by cases bY<;>simp⟩
   ue:=λb L h=>.inl ⟨b,L,h,rfl⟩,size:=yY,os:=d.os,tape:=d.tape,output:=d.output,frame:=λk m _=>g k m }
 refine⟨⟨λb L hb=>?_,q.inj,λc i h=>h1.fb c i h⟩,j,arB u yY⟩;obtain⟨g1,g2,bY,g3,g4⟩:=q.br b L hb;refine⟨g1,asg g2 yY,bY,g3,BR.ext Q σ j (g _ g2) (λi h=>?_) g4⟩;rcases l _ _ h with h|h
 .exact h
 .omega
end
section
variable{Q:Program}{σ:Nat->FuncId}{X:Wd}
def fO(Q:Program)(σ:Nat->FuncId)(X:Wd)(v:V)(H':aj)(X':Wd)(u:Value):Prop:=
 X'.H=H'/\SR Q σ X'/\VR σ X' v u/\Ext X.H.length X X'/\X'.B<=X'.w.heap.size
def nW(b:CallKind)(cs:List Frame):Prop:=b=.normal\/(b=.deferred/\∃c rest,cs=c::rest/\c.mode=.returning)
def iq(b:Frame)(cs:List Frame):Prop:=nW b.kind cs
theorem nW.Lc{fr:Frame}{cs:List Frame}(h:nW fr.kind cs):tryRecover fr cs=ab:=by
 unfold tryRecover;rcases h with h|⟨h,c,rest,rfl,b⟩
 .rw[h]
 .rw[h];simp[b]
def Leaves(Q:Program)(f:FuncId)(d:CallKind)(b:Frame)(u:Value)(w:World):Prop:=
 b.mode=.returning/\b.defers=[]/\b.kind=d/\b.fn=f/\∃fn,Q.funcs[f]?=aa fn/\(Go.results fn b.tmps).run Q w=.ok u w
structure fo(Q:Program)(σ:Nat->FuncId)(call:dw):Prop where
 enters:∀f args H r,call (.fn f) args H=aa r->∀as w,(callFunc (σ f) as).run Q w=.ok (.enter (σ f) as) w
 fn:∀f args H r H',call (.fn f) args H=aa (r,H')->∀(X:Wd) us kind cs,X.H=H->SR Q σ X->X.B<=X.w.heap.size->A2 (VR σ X) args us->nW kind cs->kind=.normal\/f≠vB->
  ∃fr X' u,Steps Q (lone (Frame.enter Q (σ f) us.toArray kind) cs X.w) (lone fr cs X'.w)/\Leaves Q (σ f) kind fr u X'.w/\fO Q σ X r H' X' u
 yield:∀b args H r H',call (.yield b) args H=aa (r,H')->∀(X:Wd) us c cs L,X.H=H->SR Q σ X->X.B<=X.w.heap.size->A2 (VR σ X) args us->X.cE b=aa L->
  ∃f tmps as bd X' u,(Instr.yield L.c us.toArray).run Q X.w=.ok (.round L.c f tmps as bd) X.w/\
   Steps Q (lone (Frame.round L.c f tmps as bd .normal) (c::cs) X.w) (lone (c.finish u) cs X'.w)/\fO Q σ X r H' X' u
def cZ(Q:Program)(σ:Nat->FuncId)(X:Wd)(o:Oper)(a:Act)(v:V)(H':aj):Prop:=
 ∀(b:Frame) (ops:Array Oper) (i:Nat) (rest:List Nat) (k:List Item) (cs:List Frame),ops[i]?=aa o->Region.wanted o (yielded ops a.tmps)=ae->iq b cs->
  ∃X' u,Steps Q (lone (b.atR a (.inRegion ops (i::rest)::k)) cs X.w) (lone (b.atR (a.put o.dst u) (.inRegion ops rest::k)) cs X'.w)/\fO Q σ X v H' X' u
theorem cZ.aoh{o:Oper}{a:Act}{v:V}{H':aj}(m:∀c,o.op≠.defer c)(h:gF Q σ X v H' (execOp a.eval o)):cZ Q σ X o a v H':=by
 intro b ops i rest k cs ho q s;obtain⟨u,X',d,h1,h2,h3,j,l⟩:=h;refine⟨X',u,.one (step_lone_go ?_),h1,h2,h3,j,l⟩;rw[stepGR_op ho q,Oper.semAt_eq _ _ _ m];have g:=Frame.finish_atR b a ops i rest k u;rw[ho]at g;simp only[arG]at g;rw[<-g];rcases d with d|⟨d,rfl⟩<;>simp[stepG.apply,Sem.runT_eq,d]
theorem cZ.rU{o:Oper}{a:Act}{v:V}{H':aj}(j:∀c,o.op≠.defer c){f:FuncId}{us:Array Value}(g:(execOp a.eval o).run Q X.w=.ok (.enter f us) X.w)
  (h:∀cs,∃fr X' u,Steps Q (lone (Frame.enter Q f us .normal) cs X.w) (lone fr cs X'.w)/\Leaves Q f .normal fr u X'.w/\fO Q σ X v H' X' u):cZ Q σ X o a v H':=by
 intro b ops i rest k cs ho l y;obtain⟨fr,X',u,h1,⟨l1,l2,m,q,fn,s,x⟩,h3⟩:=h (b.atR a (.inRegion ops (i::rest)::k)::cs);refine⟨X',u,.head (step_lone_go (fr':=Frame.enter Q f us .normal) (cs':=b.atR a (.inRegion ops (i::rest)::k)::cs) (w':=X.w) ?_) (h1.trans (.one ?_)),h3⟩
 .rw[stepGR_op ho l,Oper.semAt_eq _ _ _ j];simp[stepG.apply,Sem.runT_eq,g,Frame.atR]
 .have d:=Frame.finish_atR b a ops i rest k u;rw[ho]at d;simp only[arG]at d;rw[<-d];exact step_leave_returned ⟨l1,l2,m,fn,by rw[q];exact s,x⟩
theorem cZ.Zw{o:Oper}{a:Act}{v:V}{H':aj}(j:∀c,o.op≠.defer c){l:Nat}{f:FuncId}{tmps:Array Value}{as bd:Code}(g:(execOp a.eval o).run Q X.w=.ok (.round l f tmps as bd) X.w)
  (h:∀c cs,∃X' u,Steps Q (lone (Frame.round l f tmps as bd .normal) (c::cs) X.w) (lone (c.finish u) cs X'.w)/\fO Q σ X v H' X' u):cZ Q σ X o a v H':=by
 intro b ops i rest k cs ho m q;obtain⟨X',u,h1,h3⟩:=h (b.atR a (.inRegion ops (i::rest)::k)) cs;refine⟨X',u,.head (step_lone_go (fr':=Frame.round l f tmps as bd .normal) (cs':=b.atR a (.inRegion ops (i::rest)::k)::cs) (w':=X.w) ?_) ?_,h3⟩
 .rw[stepGR_op ho m,Oper.semAt_eq _ _ _ j];simp[stepG.apply,Sem.runT_eq,g,Frame.atR]
 .have d:=Frame.finish_atR b a ops i rest k u;rw[ho]at d;simp only[arG]at d;rw[<-d];exact h1
theorem nN{x:V}{u:Value}{args:List V}{us:List Value}{c:Callee}{d:List V}(j:bX x args=aa (c,d))(l:VR σ X x u)(q:A2 (VR σ X) args us) :
  match c with
  | .fn f=>∃fst cap:List Value,u=.func (.func (σ f)) fst.toArray cap.toArray/\A2 (VR σ X) d (fst++us++cap)| .yield b=>d=args/\∃L,X.cE b=aa L/\u=.func (.yield L.c) #[] #[]:=by
 unfold bX at j;split at j
 .rename_i f m;cases j;cases l with
  |fn _ _ cap y z=>
   refine⟨[],cap,rfl,q.append (A2.map ⟨y.symm,λi x u l A=>?_⟩)⟩;exact z i x u l A
 .rename_i f m;cases j;obtain⟨cap,rfl,g⟩:=l;exact⟨[],cap,rfl,q.append (A2.map (g.kH λx u h=>CR.of1 σ h))⟩
 .rename_i b;cases j;obtain⟨L,v,_,rfl⟩:=l;exact⟨rfl,L,v,rfl⟩
 .rename_i f first
  cases j;obtain⟨cap,rfl,g⟩:=l;have s:A2 (VR σ X) (first.map .c) cap:=A2.map (g.kH λx u h=>CR.of1 σ h);exact⟨cap,[],rfl,by simpa using s.append q⟩
 .simp at j
theorem gW{a:Act}{o:Oper}{cl:Call}{y:Operand}(b:o.op=.call cl)(g:cl.callee=.value y){w:World}{fn:Fn}{fst cap:Array Value}(d:a.eval y=.func fn fst cap) :
  (execOp a.eval o).run Q w=(invoke (.fn fn cap) (fst++cl.args.map a.eval)).run Q w:=by
 simp only[execOp,b,resolve,g,d,Deferred.ofValue,Sem.run_bind,Sem.run_pure,Result.andThen_ok]
theorem eY{f:FuncId}{cap as:Array Value}{w:World}(h:∀as w,(callFunc f as).run Q w=.ok (.enter f as) w):(invoke (.fn (.func f) cap) as).run Q w=.ok (.enter f (as++cap)) w:=by
 simp only[invoke];exact h _ _
end
section
variable{Q:Program}{σ:Nat->FuncId}{X:Wd}{call:dw}
theorem afb{n:Nat}{H H':aj}(h:gm H H')(v:V):de n H' v=de n H v:=by
 cases v with
 |c x=>simp only[de,mf n h]| a xs=>simp only[de,ft (λx _=>mf n h x)]
 |_=>rfl
theorem vR(K:fo Q σ call)(hS:SR Q σ X)(hB:X.B<=X.w.heap.size){f:Nat}{args:List V}{us:List Value}{H H':aj}{r':V}(g:eU call f args H=aa (r',H'))(hH:dp H' X.H)(L:A2 (VR σ X) args us)(cs:List Frame) :
  (∀as w,(callFunc (σ f) as).run Q w=.ok (.enter (σ f) as) w)/\
  ∃l X' u,Steps Q (lone (Frame.enter Q (σ f) us.toArray .normal) cs X.w) (lone l cs X'.w)/\Leaves Q (σ f) .normal l u X'.w/\fO Q σ X r' X.H X' u/\X'.cE=X.cE:=by
 unfold eU at g;split at g
 .simp at g
 .rename_i s d;split at g
  .simp at g
  .rename_i r S b;split at g
   .simp at g
   .rename_i a8 M;simp only[anc,aq8]at g;obtain⟨rfl,rfl⟩:=g;have A:=oS deep args H;have B:=qv deep args H;obtain⟨v,J,h3⟩:=SR.flag hS;have d:=fR d;have z:A2 (VR σ X.flag.inner) s us:=by
     refine⟨by rw[<-d.len];exact L.len,λi y u O hu=>?_⟩;have hi:i<args.length:=by rw[d.len];exact(aq4.1 O).1
     have N:=aq2 hi;have m:de deep H args[i]=aa y:=d.2 i _ _ N O;have q:=VR.ext' σ J (L.2 i _ _ N hu);rw[<-afb A]at m;have E:ib σ X.flag args[i] u:=by
      cases j:args[i]with
      |c x=>rw[j]at q;exact q| a xs=>rw[j]at q;exact q| top=>trivial| t vs=>rw[j]at m;simp[de]at m
     exact VR.of1 σ (ag_ v h3 hH m (B _ (aq7 hi)) E X.flag.inner rfl rfl)
    obtain⟨l,Y,u,U,W,Z,I,g5,g6,g7⟩:=K.fn f s [] r S b X.flag.inner us .normal cs rfl (SR.inner v) (aq9 _) z (.inl rfl) (.inl rfl);obtain⟨k1,k2,k3⟩:=SR.outer v hB I g6;refine⟨K.enters f s [] _ b,l,{ X.flag with F:=Y.iI.F,w:=Y.w },u,U,W,⟨rfl,k1,?_,J.trans (k2.mono (aq9 _)),k3⟩,rfl⟩;rw[<-Z]at M;exact zL I M g5 _ rfl rfl
theorem mD{o:Oper}{f:Nat}{xs:List Arg}{h:Bool}(b:dV Q σ o (.call f xs h)=ae):∃c,o.op=.call c/\c.callee=.value (.func (σ f))/\mAs σ xs c.args=ae:=by
 simp only[dV]at b;split at b
 .rename_i c j;simp only[dX]at b;split at b
  .rename_i g d;simp only[aq3,beq_iff_eq]at b;exact⟨c,j,by rw[d,b.1],b.2⟩
  .simp at b
 .simp at b
theorem vK{o:Oper}{x:Arg}{xs:List Arg}{h:Bool}(b:dV Q σ o (.bZ x xs h)=ae):∃c y,o.op=.call c/\c.callee=.value y/\mA σ x y=ae/\mAs σ xs c.args=ae:=by
 simp only[dV]at b;split at b
 .rename_i c d;simp only[dX]at b;split at b
  .rename_i y g;simp only[aq3]at b;exact⟨c,y,d,g,b.1,b.2⟩
  .simp at b
 .simp at b
theorem ku{o:Oper}{c:Call}(h:o.op=.call c):∀c,o.op≠.defer c:=λb e=>by rw[h]at e;cases e
theorem xp(l:fo Q σ call)(q:SR Q σ X)(j:X.B<=X.w.heap.size){a:Act}{aF:T}(E:RR σ X aF a.tmps){o:Oper}{f:Nat}{xs:List Arg}{h:Bool}(I:dV Q σ o (.call f xs h)=ae)
  {H H':aj} {v:V} (y:eU call f (dx aF xs) H=aa (v,H')) (m:dp H' X.H):cZ Q σ X o a v X.H:=by
 obtain⟨c,x,F,d⟩:=mD I;have s:=mr E d;have b:=(vR l q j y m s []).1;refine cZ.rU (ku x) (f:=σ f) (us:=c.args.map a.eval) ?_ λcs=>?_
 .rw[gW x F (fn:=.func (σ f)) (fst:=#[]) (cap:=#[]) rfl,eY b];simp
 .obtain⟨_,z,X',u,g,A,B,_⟩:=vR l q j y m s cs;exact⟨z,X',u,by rw[Array.toArray_toList]at g;exact g,A,B⟩
theorem vj(A:fo Q σ call)(F:SR Q σ X)(z:X.B<=X.w.heap.size){a:Act}{aF:T}(E:RR σ X aF a.tmps){o:Oper}{f:Nat}{xs:List Arg}{h:Bool}(K:dV Q σ o (.call f xs h)=ae)
  {H H':aj} {v:V} (L:eU call f (dx aF xs) H=aa (v,H')) (B:dp H' X.H)
  (b:Frame) (ops:Array Oper) (i:Nat) (rest:List Nat) (k:List Item) (cs:List Frame) (g:ops[i]?=aa o) (M:Region.wanted o (yielded ops a.tmps)=ae) :
  ∃X' u,Steps Q (lone (b.atR a (.inRegion ops (i::rest)::k)) cs X.w) (lone (b.atR (a.put o.dst u) (.inRegion ops rest::k)) cs X'.w)/\fO Q σ X v X.H X' u/\X'.cE=X.cE:=by
 obtain⟨c,s,J,m⟩:=mD K;have I:=mr E m;obtain⟨l,Z,X',u,q,⟨N,O,S,U,fn,W,Y⟩,x,y⟩:=vR A F z L B I (b.atR a (.inRegion ops (i::rest)::k)::cs);rw[Array.toArray_toList]at q;have j:(execOp a.eval o).run Q X.w=.ok (.enter (σ f) (c.args.map a.eval)) X.w:=by
  rw[gW s J (fn:=.func (σ f)) (fst:=#[]) (cap:=#[]) rfl,eY l];simp
 refine⟨X',u,.head (step_lone_go (fr':=Frame.enter Q (σ f) (c.args.map a.eval) .normal) (cs':=b.atR a (.inRegion ops (i::rest)::k)::cs) (w':=X.w) ?_) (q.trans (.one ?_)),x,y⟩
 .rw[stepGR_op g M,Oper.semAt_eq _ _ _ (ku s)];simp[stepG.apply,Sem.runT_eq,j,Frame.atR]
 .have d:=Frame.finish_atR b a ops i rest k u;rw[g]at d;simp only[arG]at d;rw[<-d];exact step_leave_returned ⟨N,O,S,fn,by rw[U];exact W,Y⟩
theorem xo(j:fo Q σ call)(A:SR Q σ X)(y:X.B<=X.w.heap.size){a:Act}{aF:T}(z:RR σ X aF a.tmps){o:Oper}{f:Nat}{xs:List Arg}{h:Bool}(F:dV Q σ o (.call f xs h)=ae)
  {H':aj} {v:V} (m:call (.fn f) (dx aF xs) X.H=aa (v,H')):cZ Q σ X o a v H':=by
 obtain⟨c,l,E,d⟩:=mD F;have B:=mr z d;have b:=j.enters _ _ _ _ m;refine cZ.rU (ku l) (f:=σ f) (us:=c.args.map a.eval) ?_ λcs=>?_
 .rw[gW l E (fn:=.func (σ f)) (fst:=#[]) (cap:=#[]) rfl,eY b];simp
 .obtain⟨q,X',u,g,s,x⟩:=j.fn _ _ _ _ _ m X _ .normal cs rfl A y B (.inl rfl) (.inl rfl);exact⟨q,X',u,by rw[Array.toArray_toList]at g;exact g,s,x⟩
theorem Yy(A:fo Q σ call)(M:SR Q σ X)(J:X.B<=X.w.heap.size){a:Act}{aF:T}(K:RR σ X aF a.tmps){o:Oper}{x:Arg}{xs:List Arg}{h:Bool}(hm:dV Q σ o (.bZ x xs h)=ae)
  {H':aj} {v:V} {c:Callee} {args:List V} (m:bX (x.ev aF) (dx aF xs)=aa (c,args)) (E:call c args X.H=aa (v,H')):cZ Q σ X o a v H':=by
 obtain⟨cl,y,s,O,hy,H⟩:=vK hm;have N:=mr K H;have S:=nN m (bV K hy) N;cases c with
 |fn f=>
  obtain⟨fst,cap,j,F⟩:=S;have B:=A.enters _ _ _ _ E;refine cZ.rU (ku s) (f:=σ f) (us:=fst.toArray++cl.args.map a.eval++cap.toArray) ?_ λcs=>?_
  .rw[gW s O j,eY B]
  .obtain⟨W,X',u,q,z,Y⟩:=A.fn _ _ _ _ _ E X _ .normal cs rfl M J F (.inl rfl) (.inl rfl);refine⟨W,X',u,?_,z,Y⟩;have e:(fst++(cl.args.map a.eval).toList++cap).toArray=fst.toArray++cl.args.map a.eval++cap.toArray:=by simp
   rw[e]at q;exact q
 |yield b=>
  obtain⟨rfl,L,Z,j⟩:=S;have key:=λc cs=>A.yield b _ _ _ _ E X _ c cs L rfl M J N Z;obtain⟨f,tmps,as,bd,_,_,g,_⟩:=key default [];refine cZ.Zw (ku s) (l:=L.c) (f:=f) (tmps:=tmps) (as:=as) (bd:=bd) ?_ λc cs=>?_
  .rw[gW s O j,Array.empty_append];rw[Array.toArray_toList]at g;exact g
  .obtain⟨f',I,as',U,X',u,d,q,z⟩:=key c cs;rw[g]at d;simp only[Result.ok.injEq,Next.round.injEq,true_and,and_true]at d;obtain⟨rfl,rfl,rfl,rfl⟩:=d;exact⟨X',u,q,z⟩
end
section
variable{Q:Program}{σ:Nat->FuncId}{X:Wd}{call:dw}
def ra(σ:Nat->FuncId)(X:Wd):fL->Deferred->Prop
 | .gB b,d=>∃L o,X.cE b=aa L/\X.H[b]?=aa (.fj o)/\d = { target:=.collected L.c,args:=#[] }| .fn f args,d=>∃us cap:Array Value,d = { target:=.fn (.func (σ f)) cap,args:=us }/\A2 (VR σ X) args (us.toList++cap.toList)
theorem ra.eg{X X':Wd}(j:ot X.H.length X X'){x:fL}{d:Deferred}(h:ra σ X x d):ra σ X' x d:=by
 cases x with
 |gB b=>
  obtain⟨L,o,h1,h2,h3⟩:=h;obtain⟨blk',l,g⟩:=j.bE b (aq4.1 h2).1 _ h2;cases blk'<;>simp only at g;exact⟨L,_,g L h1,l,h3⟩
 |fn f args=>
  obtain⟨us,cap,h1,h2⟩:=h;exact⟨us,cap,h1,h2.kH λ_ _ h=>VR.eg σ j h⟩
def fN(σ:Nat->FuncId)(X:Wd)(b:List fL)(d:List Deferred):Prop:=A2 (ra σ X) b d
theorem ra.ext'{X X':Wd}(b:Ext X.H.length X X'){x:fL}{d:Deferred}(h:ra σ X x d):ra σ X' x d:=ra.eg b.W h
theorem fN.eg{X X':Wd}(g:ot X.H.length X X'){b:List fL}{d:List Deferred}(h:fN σ X b d):fN σ X' b d:=h.kH λ_ _ h=>ra.eg g h
theorem fN.ext'{X X':Wd}(g:Ext X.H.length X X'){b:List fL}{d:List Deferred}(h:fN σ X b d):fN σ X' b d:=h.kH λ_ _ h=>ra.ext' g h
def ow(Q:Program)(σ:Nat->FuncId)(X:Wd)(o:Oper)(a:Act)(ok:Frame->Prop)(v:V)(H':aj)(d:List fL):Prop:=
 ∀(b:Frame) (ops:Array Oper) (i:Nat) (rest:List Nat) (k:List Item) (cs:List Frame),ops[i]?=aa o->Region.wanted o (yielded ops a.tmps)=ae->iq b cs->ok b->
  ∃(X':Wd) (u:Value) (a':Act),Steps Q (lone (b.atR a (.inRegion ops (i::rest)::k)) cs X.w) (lone (b.atR (a'.put o.dst u) (.inRegion ops rest::k)) cs X'.w)/\fO Q σ X v H' X' u/\a'.tmps=a.tmps/\fN σ X' d a'.defers
theorem cZ.aap{o:Oper}{a:Act}{v:V}{H':aj}(h:cZ Q σ X o a v H'){d:List fL}(g:fN σ X d a.defers){ok:Frame->Prop}:ow Q σ X o a ok v H' d:=by
 intro b ops i rest k cs ho l j _;obtain⟨X',u,h1,h2⟩:=h b ops i rest k cs ho l j;exact⟨X',u,a,h1,h2,rfl,g.ext' h2.2.2.2.1⟩
theorem cZ.ahead(q:SR Q σ X){d H':aj}(g:dp X.H d){o:Oper}{a:Act}{v:V}(h:cZ Q σ { X with H:=d } o a v H'):cZ Q σ X o a v H':=by
 intro b ops i rest k cs ho x s;obtain⟨X',u,h1,h2,h3,j,l,m⟩:=h b ops i rest k cs ho x s;exact⟨X',u,h1,h2,h3,j,(SR.ahead q g).2.trans (l.mono g.len),m⟩
def gu(op:dn)(b:Frame):Prop:=b.roundOf=ab\/op.fH=ae
theorem At(z:SR Q σ X)(y:X.B<=X.w.heap.size){a:Act}{o:Oper}(g:dV Q σ o .recover=ae){u:List fL}(A:fN σ X u a.defers):ow Q σ X o a (gu .recover) (.c (.f .nT)) X.H u:=by
 intro b ops i rest k cs x E B q;have q:b.roundOf=ab:=q.elim id λh=>by simp[dn.fH]at h
 simp only[dV]at g;split at g
 .rename_i c v;simp only[dX]at g;split at g
  .rename_i j;have l:(execOp a.eval o).run Q X.w=.ok .recover X.w:=by
    simp[execOp,v,resolve,j,invoke,builtin]
   refine⟨X,.nilIface,a,.one (step_lone_go ?_),⟨rfl,z,cS.nT,Ext.refl _ _,y⟩,rfl,A⟩;rw[stepGR_op x E,Oper.semAt_eq _ _ _ (ku v)];have d:=Frame.finish_atR b a ops i rest k .nilIface;rw[x]at d;simp only[arG]at d;rw[<-d];have m:tryRecover (b.atR a (.inRegion ops (i::rest)::k)) cs=ab:=nW.Lc B;have s:(b.atR a (.inRegion ops (i::rest)::k)).roundOf=ab:=q;simp[stepG.apply,Sem.runT_eq,l,m,s]
  .simp at g
 .simp at g
theorem YJ(B:SR Q σ X)(A:X.B<=X.w.heap.size){a:Act}{aF:T}(v:RR σ X aF a.tmps){o:Oper}{x:Arg}{xs:List Arg}(g:dV Q σ o (.defer x xs)=ae){u:List fL}(F:fN σ X u a.defers)
  {f:Nat} {args:List V} (E:bX (x.ev aF) (dx aF xs)=aa (.fn f,args)):ow Q σ X o a (gu (.defer x xs)) .top X.H (.fn f args::u):=by
 intro b ops i rest k cs z I K m;have m:b.roundOf=ab:=m.elim id λh=>by simp[dn.fH]at h
 simp only[dV]at g;split at g
 .rename_i c j;split at g
  .rename_i y J;simp only[aq3]at g;have H:=nN E (bV v g.1) (mr v g.2);obtain⟨fst,cap,q,s⟩:=H;have l:(execOp a.eval o).run Q X.w=.ok (.defer { target:=.fn (.func (σ f)) cap.toArray,args:=fst.toArray++c.args.map a.eval }) X.w:=by
    simp[execOp,j,resolve,J,q,Deferred.ofValue]
   refine⟨X,undef,{ a with defers:={ target:=.fn (.func (σ f)) cap.toArray,args:=fst.toArray++c.args.map a.eval }::a.defers },.one (step_lone_go ?_),⟨rfl,B,trivial,Ext.refl _ _,A⟩,rfl,A2.cons ⟨_,_,rfl,by simpa using s⟩ F⟩;rw[stepGR_op z I,m,Oper.semAt_none];have d:=Frame.finish_atR b { a with defers:={ target:=.fn (.func (σ f)) cap.toArray,args:=fst.toArray++c.args.map a.eval }::a.defers } ops i rest k undef;rw[z]at d;simp only[arG]at d;rw[<-d];simp[stepG.apply,Sem.runT_eq,l,Frame.atR]
  .simp at g
 .simp at g
theorem oO{o:Oper}{op:dn}(d:dV Q σ o op=ae)(g:∀x xs,op≠.defer x xs)(j:op≠.bad):∀c,o.op≠.defer c:=by
 intro c b;cases op
 case pre o sz=>cases o<;>simp[dV,b]at d
 case defer x xs=>exact g _ _ rfl
 case bad=>exact j rfl
 all_goals simp[dV,b]at d
theorem BV(A:fo Q σ call)(g:SR Q σ X)(l:X.B<=X.w.heap.size){a:Act}{s z:St}(m:X.H=s.heap)(q:RR σ X s.aF a.tmps)(u:fN σ X s.defs a.defers){o:Oper}{op:dn}(j:dV Q σ o op=ae){v:V}
  (h:eH call s op=aa (v,z)):ow Q σ X o a (gu op) v z.heap z.defs/\z.aF=s.aF:=by
 by_cases E:(∃f xs h,op=.call f xs h)\/(∃x xs h,op=.bZ x xs h)\/op=.recover\/∃x xs,op=.defer x xs
 .rcases E with⟨f,xs,L,rfl⟩|⟨x,xs,L,rfl⟩|rfl|⟨x,xs,rfl⟩
  .simp only[eH,aq5,aq8]at h;obtain⟨⟨I,H'⟩,d,rfl,rfl⟩:=h;refine⟨cZ.aap ?_ u,rfl⟩;unfold gv at d;split at d
   .exact xo A g l q j (m▸d)
   .have y:dp X.H H':=by
     have b:=d;unfold eU at b;split at b
     .simp at b
     .split at b
      .simp at b
      .split at b
       .simp at b
       .simp only[anc,aq8]at b;rw[<-b.2,m];exact(oS _ _ _).ext
    obtain⟨J,K⟩:=SR.ahead g y;refine cZ.ahead g y ?_;exact xp A (X:={ X with H:=H' }) J l (q.ext' σ K) j d (dp.refl _)
  .simp only[eH]at h;split at h
   .rename_i c args B;simp only[aq5,aq8]at h;obtain⟨⟨I,H'⟩,d,rfl,rfl⟩:=h;exact⟨cZ.aap (Yy A g l q j B (m▸d)) u,rfl⟩
   .simp at h
  .simp only[eH,anc,aq8]at h;obtain⟨rfl,rfl⟩:=h;rw[<-m];exact⟨At g l j u,rfl⟩
  .simp only[eH]at h;split at h
   .rename_i f args B;simp only[anc,aq8]at h;obtain⟨rfl,rfl⟩:=h;refine⟨?_,rfl⟩;rw[<-m];exact YJ g l q j u B
   .simp at h
 .have F:(bG s.aF s.heap op).map (λr=>(r.1,{ s with heap:=r.2 }))=aa (v,z):=by
   cases op<;>first|exact h|(exfalso;apply E;simp)
  simp only[aq5,aq8]at F;obtain⟨⟨I,H'⟩,d,rfl,rfl⟩:=F;refine⟨cZ.aap (cZ.aoh (oO j ?_ ?_) (alA g l q j (m▸d))) u,rfl⟩
  .rintro x xs rfl;exact E (.inr (.inr (.inr ⟨x,xs,rfl⟩)))
  .rintro rfl;simp[bG]at d
end
section
variable{Q:Program}{σ:Nat->FuncId}{X:Wd}{call:dw}
structure Fr(Q:Program)(σ:Nat->FuncId)(n:Nat)(X:Wd)(s:St)(a:Act):Prop where
 heap:X.H=s.heap
 sr:SR Q σ X
 b:X.B<=X.w.heap.size
 aF:RR σ X s.aF a.tmps
 defs:fN σ X s.defs a.defers
 size:n<=a.tmps.size
theorem nA{n:Nat}{ops:Array Oper}{o:Oper}{m:aN}(F:kn Q σ n ops o m=ae){aF:T}{tmps:Array Value}(I:∀p w',m.g=aa (p,w')->VR σ X (aF.get p) (tmps.getD p.toNat undef))(K:n<=tmps.size){w:Bool}(h:wanted aF m.g=aa w) :
  Region.wanted o (yielded ops tmps)=w:=by
 simp only[kn,aq3]at F;obtain⟨_,b⟩:=F;unfold Region.wanted;cases x:o.guard with
 |none=>
  rw[x]at b;cases g:m.g with
  |none=>rw[g]at h;simp only[wanted,anc]at h;simpa using h| some q=>rw[g]at b;simp at b
 |some L=>
  obtain⟨j,N⟩:=L;rw[x]at b;cases g:m.g with
  |none=>rw[g]at b;simp at b
  |some q=>
   obtain⟨p,w'⟩:=q;rw[g]at b h;simp only[aq3,beq_iff_eq]at b;obtain⟨rfl,b⟩:=b;split at b
   .rename_i d J;simp only[aq3,beq_iff_eq,decide_eq_true_eq]at b;obtain⟨B,A⟩:=b;have l:=I p _ g;rw[B]at l;have v:d<tmps.size:=asg A K;have s:tmps.getD d undef=tmps[d]:=by simp[Array.getD,v]
    rw[s]at l;simp only[wanted]at h;simp only[yielded,J,arG,Array.getElem?_eq_getElem v];split at h
    .rename_i H z;rw[z]at l;simp only[anc]at h;have y:cS σ X.F X.w (.bool H) tmps[d]:=l;generalize tmps[d]=u at y;cases y;subst h;simp
    .rename_i z;rw[z]at l;obtain⟨us,E,M⟩:=l;simp only[anc]at h;subst h;rw[E];simp
    .simp at h
   .simp at b
theorem ZW{n:Nat}{ops:Array Oper}{o:Oper}{m:aN}(s:kn Q σ n ops o m=ae){aF:T}{a:Act}(q:RR σ X aF a.tmps)(x:n<=a.tmps.size){v:V}{u:Value}(y:VR σ X v u) :
  RR σ X (gV aF m.dst v) (a.put o.dst u).tmps/\(a.put o.dst u).tmps.size=a.tmps.size/\(a.put o.dst u).defers=a.defers:=by
 simp only[kn,aq3]at s;obtain⟨⟨_,b⟩,_⟩:=s;split at b
 .rename_i d p g j;simp only[aq3,beq_iff_eq,decide_eq_true_eq]at b;obtain⟨rfl,l⟩:=b;rw[g,j];exact⟨RR.set σ q (asg l x) y,by simp[Act.put],rfl⟩
 .rename_i g j;rw[g,j];exact⟨q,rfl,rfl⟩
 .simp at b
theorem VR.undef:VR σ X (.t []) undef:=⟨[],rfl,A2.nil⟩
theorem aar(S:fo Q σ call){n:Nat}{s E:St}{a:Act}(d:Fr Q σ n X s a){ops:Array Oper}{o:Oper}{q:aN}(j:kn Q σ n ops o q=ae)(h:fh call s q=aa E)
  {b:Frame} {i:Nat} {rest:List Nat} {k:List Item} {cs:List Frame} (y:ops[i]?=aa o) (U:iq b cs) (W:gu q.op b) :
  ∃X' a',Steps Q (lone (b.atR a (.inRegion ops (i::rest)::k)) cs X.w) (lone (b.atR a' (.inRegion ops rest::k)) cs X'.w)/\Fr Q σ n X' E a'/\Ext X.H.length X X'/\a'.tmps.size=a.tmps.size:=by
 unfold fh at h;split at h
 .rename_i g;have g:=nA j (λp w' _=>d.aF p) d.size g;split at h
  .rename_i v Y M;simp only[anc]at h;subst h;have l:dV Q σ o q.op=ae:=by simp only[kn,aq3]at j;exact j.1.1
   obtain⟨N,O⟩:=BV S d.sr d.b d.heap d.aF d.defs l M;obtain⟨X',u,a',F,⟨H,I,J,B,K⟩,x,L⟩:=N b ops i rest k cs y g U W;obtain⟨z,m,A⟩:=ZW j (X:=X') (a:=a') (by rw[x];exact d.aF.ext' σ B) (by rw[x];exact d.size) J;refine⟨X',a'.put o.dst u,F,⟨H,I,K,?_,by rw[A];exact L,by rw[m,x];exact d.size⟩,B,by rw[m,x]⟩;simpa[O]using z
  .simp at h
 .rename_i g;have g:=nA j (λp w' _=>d.aF p) d.size g;simp only[anc]at h;subst h;obtain⟨z,m,A⟩:=ZW j d.aF d.size (VR.undef (σ:=σ) (X:=X));refine⟨X,a.put o.dst undef,.one ?_,⟨d.heap,d.sr,d.b,z,by rw[A];exact d.defs,by rw[m];exact d.size⟩,Ext.refl _ _,m⟩;have:=stepR_op_skip (P:=Q) (b:=b) (a:=a) (k:=k) (cs:=cs) (w:=X.w) (ops:=ops) (i:=i) (rest:=rest) (by simp[y,g]);rw[y]at this;exact this
 .simp at h
theorem BZ(I:fo Q σ call){n:Nat}{ops:Array Oper}{b:Frame}{k:List Item}{cs:List Frame}(J:iq b cs):∀(aos:List aN) (j:Nat) (X:Wd) (s v:St) (a:Act),Fr Q σ n X s a->
  fC (kn Q σ n ops) (ops.toList.drop j) aos=ae->(∀ao∈aos,gu ao.op b)->fz call aos s=aa v->
  ∃X' a',Steps Q (lone (b.atR a (.inRegion ops ((List.range ops.size).drop j)::k)) cs X.w) (lone (b.atR a' k) cs X'.w)/\Fr Q σ n X' v a'/\Ext X.H.length X X'/\a'.tmps.size=a.tmps.size
 |[],j,X,s,v,a,B,d,_,h=>by
  simp only[fz,anc]at h;subst h;have U:(List.range ops.size).drop j=[]:=by
   cases g:ops.toList.drop j with
   |nil=>
    have:=atN.1 g;simp at this;rw[atN];simpa using this
   |cons x xs=>rw[g]at d;simp[fC]at d
  rw[U];exact⟨X,a,.one stepR_region_end,B,Ext.refl _ _,rfl⟩
 |ao::aos,j,X,s,v,a,B,d,K,h=>by
  cases g:ops.toList.drop j with
  |nil=>rw[g]at d;simp[fC]at d
  |cons o os=>
   rw[g]at d;simp only[fC,aq3]at d;have y:j<ops.toList.length:=by
    rcases arI j ops.toList.length with q|q
    .exact q
    .rw[atN.2 q]at g;simp at g
   have l:=arp y;rw[g]at l;simp only[List.cons.injEq]at l;obtain⟨W,H⟩:=l;simp only[fz]at h;split at h
   .rename_i s1 q;have m:(List.range ops.size).drop j=j ::(List.range ops.size).drop (j+1):=by
     rw[arp (by simpa using y)];simp
    rw[m];obtain⟨z,a1,N,O,A,S⟩:=aar I B d.1 q (b:=b) (i:=j) (rest:=(List.range ops.size).drop (j+1)) (k:=k) (cs:=cs) (by simp at y;simp[y,W]) J (K _ (by simp));obtain⟨L,M,Y,Z,k3,k4⟩:=BZ I J aos (j+1) z s1 v a1 O (by rw[<-H];exact d.2) (λao h=>K ao (by simp[h])) h;refine⟨L,M,N.trans Y,Z,A.trans (k3.mono ?_),k4.trans S⟩;have:=A.bE;rcases arI z.H.length X.H.length with u|F
    .obtain⟨blk',E,_⟩:=A.bE z.H.length u _ (aq2 u);have:=(aq4.1 E).1;omega
    .exact F
   .simp at h
end
theorem ke{r r':T}{x:Arg}(h:∀p∈x.rd,r.get p=r'.get p):x.ev r=x.ev r':=by
 cases x with
 |r p=>exact h p (by simp[Arg.rd])
 |k v=>rfl
theorem Lg{r r':T}{x:Option Arg}(h:∀p∈oRd x,r.get p=r'.get p):x.map (·.ev r)=x.map (·.ev r'):=by
 cases x with
 |none=>rfl| some x=>simp only[arN];rw[ke h]
theorem fZ{r r':T}{xs:List Arg}(h:∀p∈xs.flatMap Arg.rd,r.get p=r'.get p):dx r xs=dx r' xs:=by
 unfold dx;refine List.map_congr_left λx d=>ke λp b=>h p (ats.2 ⟨x,d,b⟩)
theorem ir{r r':T}:∀(ps:List (Nat × Nat × Arg)) (cs:List C),(∀p∈ps.flatMap (λq=>q.2.2.rd),r.get p=r'.get p)->fv r cs ps=fv r' cs ps
 |[],cs,_=>rfl
 |(d,n,x)::ps,cs,h=>by
  simp only[fv];rw[ke (x:=x) (r:=r) (r':=r') λp b=>h p (by simp[b])];split
  .split
   .exact ir ps _ λp b=>h p (by simp only[List.flatMap_cons,ard];exact .inr b)
   .rfl
  .rfl
theorem AK{r r':T}{H:aj}{op:dn}(h:∀p∈op.rd,r.get p=r'.get p):bG r H op=bG r' H op:=by
 have e:∀x:Arg,(∀p∈x.rd,p∈op.rd)->x.ev r=x.ev r':=λx A=>ke λp d=>h p (A p d);have g:∀x:Option Arg,(∀p∈oRd x,p∈op.rd)->x.map (·.ev r)=x.map (·.ev r'):=λx A=>Lg λp d=>h p (A p d);cases op
 case build zs ps=>simp only[bG];rw[ir ps _ h]
 case bN sz zs n ps=>
  simp only[bG];rw[ir (r:=r) (r':=r') (ps.map λp=>(p.1*sz,sz,p.2)) _ λp d=>h p (by
   simp only[ats,arx]at d;obtain⟨q,⟨q',j,rfl⟩,u⟩:=d;exact ats.2 ⟨q',j,u⟩)]
 case jr sz zs n ps=>
  simp only[bG];rw[ir (r:=r) (r':=r') (ps.map λp=>(p.1*sz,sz,p.2)) _ λp d=>h p (by
   simp only[ats,arx]at d;obtain⟨q,⟨q',j,rfl⟩,u⟩:=d;exact ats.2 ⟨q',j,u⟩)]
 case im f xs=>simp only[bG];rw[fZ h]
 case pick c a b=>
  simp only[bG];rw[e c (by simp +contextual [dn.rd])];split
  .rename_i v _;cases v<;>simp[e a (by simp +contextual [dn.rd]),e b (by simp +contextual [dn.rd])]
  .rfl
 case slice sz x lo hi mx=>simp only[bG];rw[e x (by simp +contextual [dn.rd]),g lo (by simp +contextual [dn.rd]),g hi (by simp +contextual [dn.rd]),g mx (by simp +contextual [dn.rd])]
 case pe n sz x lo hi mx=>simp only[bG];rw[e x (by simp +contextual [dn.rd]),g lo (by simp +contextual [dn.rd]),g hi (by simp +contextual [dn.rd]),g mx (by simp +contextual [dn.rd])]
 case qy x lo hi=>simp only[bG];rw[e x (by simp +contextual [dn.rd]),g lo (by simp +contextual [dn.rd]),g hi (by simp +contextual [dn.rd])]
 case iO B m k v=>simp only[bG];rw[e m (by simp +contextual [dn.rd]),e k (by simp +contextual [dn.rd]),e v (by simp +contextual [dn.rd])]
 case cP x=>simp only[bG];rw[e x (by simp +contextual [dn.rd])]
 case box x=>simp only[bG];rw[e x (by simp +contextual [dn.rd])]
 case load n x=>simp only[bG];rw[e x (by simp +contextual [dn.rd])]
 case bB x=>simp only[bG];rw[e x (by simp +contextual [dn.rd])]
 case un o x=>simp only[bG];rw[e x (by simp +contextual [dn.rd])]
 case gG k x=>simp only[bG];rw[e x (by simp +contextual [dn.rd])]
 case zB x=>simp only[bG];rw[e x (by simp +contextual [dn.rd])]
 case xA x=>simp only[bG];rw[e x (by simp +contextual [dn.rd])]
 case ae1 x=>simp only[bG];rw[e x (by simp +contextual [dn.rd])]
 case aO o x=>simp only[bG];rw[e x (by simp +contextual [dn.rd])]
 case field o n x=>simp only[bG];rw[e x (by simp +contextual [dn.rd])]
 case range x=>simp only[bG];rw[e x (by simp +contextual [dn.rd])]
 case next x=>simp only[bG];rw[e x (by simp +contextual [dn.rd])]
 case extract x i=>simp only[bG];rw[e x (by simp +contextual [dn.rd])]
 case len x=>simp only[bG];rw[e x (by simp +contextual [dn.rd])]
 case lens x=>simp only[bG];rw[e x (by simp +contextual [dn.rd])]
 case cap x=>simp only[bG];rw[e x (by simp +contextual [dn.rd])]
 case entry x=>simp only[bG];rw[e x (by simp +contextual [dn.rd])]
 case ig x=>simp only[bG];rw[e x (by simp +contextual [dn.rd])]
 case lT x=>simp only[bG];rw[e x (by simp +contextual [dn.rd])]
 case clear s z x=>simp only[bG];rw[e x (by simp +contextual [dn.rd])]
 case fu lo xs=>simp only[bG];rw[fZ h]
 case x7 f xs=>simp only[bG];rw[fZ h]
 case qF s x y z=>simp only[bG];rw[e x (by simp +contextual [dn.rd]),e y (by simp +contextual [dn.rd]),e z (by simp +contextual [dn.rd])]
 case lV s b z x y=>simp only[bG];rw[e x (by simp +contextual [dn.rd]),e y (by simp +contextual [dn.rd])]
 case store n x y=>simp only[bG];rw[e x (by simp +contextual [dn.rd]),e y (by simp +contextual [dn.rd])]
 case bin o x y=>simp only[bG];rw[e x (by simp +contextual [dn.rd]),e y (by simp +contextual [dn.rd])]
 case eq n k x y=>simp only[bG];rw[e x (by simp +contextual [dn.rd]),e y (by simp +contextual [dn.rd])]
 case bu s a x y=>simp only[bG];rw[e x (by simp +contextual [dn.rd]),e y (by simp +contextual [dn.rd])]
 case idxs x y=>simp only[bG];rw[e x (by simp +contextual [dn.rd]),e y (by simp +contextual [dn.rd])]
 case xN l s n x y=>simp only[bG];rw[e x (by simp +contextual [dn.rd]),e y (by simp +contextual [dn.rd])]
 case append s b x y=>simp only[bG];rw[e x (by simp +contextual [dn.rd]),e y (by simp +contextual [dn.rd])]
 case copy s x y=>simp only[bG];rw[e x (by simp +contextual [dn.rd]),e y (by simp +contextual [dn.rd])]
 case lookup c z x y=>simp only[bG];rw[e x (by simp +contextual [dn.rd]),e y (by simp +contextual [dn.rd])]
 case eh s b z x y=>simp only[bG];rw[e x (by simp +contextual [dn.rd]),e y (by simp +contextual [dn.rd])]
 all_goals rfl
theorem BW{call:dw}{s:St}{r':T}{op:dn}(h:∀p∈op.rd,s.aF.get p=r'.get p){v:V}{m:St}(b:eH call s op=aa (v,m)):eH call { s with aF:=r' } op=aa (v,{ m with aF:=r' }):=by
 by_cases d:(∃f xs h,op=.call f xs h)\/(∃x xs h,op=.bZ x xs h)\/op=.recover\/∃x xs,op=.defer x xs
 .rcases d with⟨f,xs,u,rfl⟩|⟨x,xs,u,rfl⟩|rfl|⟨x,xs,rfl⟩
  .simp only[eH,aq5,aq8]at b ⊢;obtain⟨q,g,rfl,rfl⟩:=b;rw[fZ h]at g;exact⟨q,g,rfl,rfl⟩
  .simp only[eH]at b ⊢;rw[ke (x:=x) (r:=s.aF) (r':=r') (λp d=>h p (by simp[dn.rd,d])),fZ (xs:=xs) (r:=s.aF) (r':=r') (λp d=>h p (by simp only[dn.rd,ard];exact .inr d))]at b;split at b
   .simp only[aq5,aq8]at b ⊢;obtain⟨q,g,rfl,rfl⟩:=b;exact⟨q,g,rfl,rfl⟩
   .simp at b
  .simp only[eH,anc,aq8]at b ⊢;obtain⟨rfl,rfl⟩:=b;exact⟨rfl,rfl⟩
  .simp only[eH]at b ⊢;rw[ke (x:=x) (r:=s.aF) (r':=r') (λp d=>h p (by simp[dn.rd,d])),fZ (xs:=xs) (r:=s.aF) (r':=r') (λp d=>h p (by simp only[dn.rd,ard];exact .inr d))]at b;split at b
   .simp only[anc,aq8]at b ⊢;obtain⟨rfl,rfl⟩:=b;exact⟨rfl,rfl⟩
   .simp at b
 .have j:(bG s.aF s.heap op).map (λr=>(r.1,{ s with heap:=r.2 }))=aa (v,m):=by
   cases op<;>first|exact b|(exfalso;apply d;simp)
  have l:eH call { s with aF:=r' } op=(bG r' s.heap op).map (λr=>(r.1,{ s with aF:=r',heap:=r.2 })):=by
   cases op<;>first|rfl|(exfalso;apply d;simp)
  rw[l,<-AK h];simp only[aq5,aq8]at j ⊢;obtain⟨q,g,rfl,rfl⟩:=j;exact⟨q,g,rfl,rfl⟩
theorem ahu{r:T}{op:dn}(b:cls op=.p)(H H':aj):bG r H' op=(bG r H op).map λq=>(q.1,H'):=by
 cases op<;>simp only[cls,reduceCtorEq]at b<;>simp only[bG]
 all_goals first
  |(simp[Function.comp_def];done)
  |(split<;>simp[Function.comp_def];done)
  |(split<;>(first|rfl|(split<;>rfl)))
section
theorem fD{H H':aj}(m:dp H H')(b:Nat):H[b]?=ab\/(∃cs l g,H[b]?=aa (.box cs l)/\H'[b]?=aa (.box cs g))\/
  (∃s cs l g e st,H[b]?=aa (.cK s cs l e st)/\H'[b]?=aa (.cK s cs g e st))\/∃bY,H[b]?=aa bY/\H'[b]?=aa bY:=by
 cases q:H[b]? with
 |none=>exact .inl rfl
 |some bY=>
  obtain⟨blk',d,j⟩:=m b _ q;cases bY<;>cases blk'<;>simp only[dy,reduceCtorEq]at j
  .obtain⟨rfl,_⟩:=j;exact .inr (.inl ⟨_,_,_,rfl,d⟩)
  .obtain⟨rfl,rfl,_,rfl,rfl⟩:=j;exact .inr (.inr (.inl ⟨_,_,_,_,_,_,rfl,d⟩))
  all_goals (rw[<-j]at d;exact .inr (.inr (.inr ⟨_,rfl,d⟩)))
variable{H H':aj}
theorem xq(l:dp H H'){x:C}{cs:List C}(h:aK H x=aa cs):aK H' x=aa cs:=by
 cases x with
 |ptr b m u=>
  simp only[aK]at h ⊢;rcases fD l b with e|⟨cs,j,g,e,d⟩|⟨s,cs,j,g,q,st,e,d⟩|⟨bY,e,d⟩
  .simp[e]at h
  .rw[e]at h;rw[d];exact h
  .rw[e]at h;rw[d];cases st<;>exact h
  .rw[e]at h;rw[d];exact h
 |f x=>cases x<;>exact h
 |_=>simp[aK]at h
theorem afH(g:dp H H'){n:Option Nat}{x:V}{v:V}(h:bF H n x=aa v):bF H' n x=aa v:=by
 cases x with
 |c x=>
  simp only[bF,Option.bind_eq_some_iff]at h ⊢;obtain⟨cs,b,d⟩:=h;exact⟨cs,xq g b,d⟩
 |_=>simp[bF]at h
theorem uP(m:dp H H'){x:C}{n:Nat}(h:aV H x=aa n):aV H' x=aa n:=by
 cases x with
 |sl b o l c u sz=>
  simp only[aV]at h ⊢;rcases fD m b with e|⟨cs,j,g,e,d⟩|⟨s,cs,j,g,q,st,e,d⟩|⟨bY,e,d⟩
  .simp[e]at h
  all_goals (rw[e]at h;rw[d];exact h)
 |f x=>cases x<;>exact h
 |_=>simp[aV]at h
theorem yL(m:dp H H'){sz:Nat}{x:C}{cs:List C}(h:cA H sz x=aa cs):cA H' sz x=aa cs:=by
 cases x with
 |sl b o l c u s=>
  simp only[cA]at h ⊢;rcases fD m b with e|⟨cs,j,g,e,d⟩|⟨s,cs,j,g,q,st,e,d⟩|⟨bY,e,d⟩
  .simp[e]at h
  all_goals (rw[e]at h;rw[d];exact h)
 |f x=>cases x<;>exact h
 |_=>simp[cA]at h
theorem mZ(q:dp H H'){k:LI}{x:C}{b:Bool}(h:isNil H k x=aa b):isNil H' k x=aa b:=by
 cases k<;>cases x<;>first|exact h|(simp[isNil]at h;done)|skip
 case sl.sl j o l c v s=>
  simp only[isNil]at h ⊢;rcases fD q j with e|⟨cs,m,g,e,d⟩|⟨s,cs,m,g,u,st,e,d⟩|⟨bY,e,d⟩
  .simp[e]at h
  all_goals (rw[e]at h;rw[d];exact h)
 all_goals (rename_i y;cases y<;>exact h)
theorem ae_(d:dp H H'){k:LI}{x y:V}{b:Bool}(h:LK H k x y=aa b):LK H' k x y=aa b:=by
 unfold LK at h;split at h
 .exact h
 .exact h
 .exact mZ d h
 .exact mZ d h
 .exact mZ d h
 .exact mZ d h
 .simp at h
theorem AE(l:dp H H'){sz:Nat}{x:V}{lo hi mx:Option V}{v:V}(h:bS H sz x lo hi mx=aa v):bS H' sz x lo hi mx=aa v:=by
 unfold bS at h;split at h
 .exact h
 .exact h
 .exact h
 .rename_i b o n cap q s;simp only[bS];rcases fD l b with e|⟨cs,j,g,e,d⟩|⟨s,cs,j,g,m,st,e,d⟩|⟨bY,e,d⟩
  .simp[e]at h
  all_goals (rw[e]at h;rw[d];exact h)
 .simp at h
theorem AD(l:dp H H'){n sz:Nat}{x:V}{lo hi mx:Option V}{v:V}(h:mI H n sz x lo hi mx=aa v):mI H' n sz x lo hi mx=aa v:=by
 unfold mI at h;split at h
 .rename_i b m u;simp only[mI];rcases fD l b with e|⟨cs,j,g,e,d⟩|⟨s,cs,j,g,q,st,e,d⟩|⟨bY,e,d⟩
  .simp[e]at h
  all_goals (rw[e]at h;rw[d];exact h)
 .exact h
 .simp at h
theorem xP(q:dp H H'){sz:Nat}{d:Option Nat}{x i:V}{v:V}(h:bg H sz d x i=aa v):bg H' sz d x i=aa v:=by
 unfold bg at h ⊢;split at h
 .simp at h
 .split at h
  .rename_i hi;simp only[hi,if_true];split at h
   .rename_i b o l c z s;split at h
    .rename_i u;simp only[u,if_true];rcases fD q b with e|⟨cs,m,j,e,g⟩|⟨s,cs,m,j,y,st,e,g⟩|⟨bY,e,g⟩
     .simp[e]at h
     .rw[e]at h;rw[g];exact h
     .rw[e]at h;rw[g];cases st<;>exact h
     .rw[e]at h;rw[g];exact h
    .simp at h
   .exact h
   .exact h
   .exact h
   .simp at h
  .simp at h
theorem xV(q:dp H H'){j:CK}{z:FC}{m k:V}{v:V}(h:eO H j z m k=aa v):eO H' j z m k=aa v:=by
 unfold eO at h;split at h
 .exact h
 .rename_i b k;simp only[eO];rcases fD q b with e|⟨cs,l,g,e,d⟩|⟨s,cs,l,g,u,st,e,d⟩|⟨bY,e,d⟩
  .simp[e]at h
  all_goals (rw[e]at h;rw[d];exact h)
 .simp at h
theorem Ky(d:dp H H'){x v:V}(h:ql H x=aa v):ql H' x=aa v:=by
 cases x with
 |c x=>
  simp only[ql]at h ⊢;split at h
  .rename_i n g;split at h
   .rename_i cs b;rw[uP d g,yL d b];exact h
   .simp at h
  .simp at h
 |_=>simp[ql]at h
theorem Lw(m:dp H H'){x:C}{n:Nat}(h:kz H x=aa n):kz H' x=aa n:=by
 cases x with
 |sl b o l c u sz=>
  simp only[kz]at h ⊢;rcases fD m b with e|⟨cs,j,g,e,d⟩|⟨s,cs,j,g,q,st,e,d⟩|⟨bY,e,d⟩
  .simp[e]at h
  .rw[e]at h;rw[d];exact h
  .rw[e]at h;rw[d];cases st<;>exact h
  .rw[e]at h;rw[d];exact h
 |f x=>cases x<;>exact h
 |_=>simp[kz]at h
theorem afP(l:dp H H'){b:Nat}{d:List (FC × C)}(h:H[b]?=aa (.map d)):H'[b]?=aa (.map d):=by
 obtain⟨blk',j,g⟩:=l b _ h;cases blk'<;>simp only[dy,reduceCtorEq,cH.map.injEq]at g;subst g;exact j
theorem afT(l:dp H H'){b m s:Nat}{d:Bool}(h:H[b]?=aa (.x6 m s d)):H'[b]?=aa (.x6 m s d):=by
 obtain⟨blk',j,g⟩:=l b _ h;cases blk'<;>simp only[dy,reduceCtorEq,cH.x6.injEq]at g;obtain⟨rfl,rfl,rfl⟩:=g;exact j
theorem zD(b:dp H H'){x v:V}(h:ld H x=aa v):ld H' x=aa v:=by
 unfold ld at h;split at h
 .split at h
  .rename_i d;split at h
   .rename_i g;simp only[ld,afT b d,afP b g];exact h
   .simp at h
  .simp at h
 .simp at h
theorem BY{r:T}{op:dn}(l:cls op=.r)(b:dp H H'){v:V}{j:aj}(h:bG r H op=aa (v,j)):j=H/\bG r H' op=aa (v,H'):=by
 cases op<;>first|(simp only[bG,reduceCtorEq]at h;done)|(simp only[cls,reduceCtorEq]at l;done)|simp only[bG]at h ⊢
 case len x=>
  split at h
  .rename_i y m;split at h
   .rename_i n g;simp only[anc,aq8]at h;obtain⟨rfl,rfl⟩:=h;simp only[uP b g];simp
   .simp at h
  .simp at h
 case cap x=>
  split at h
  .rename_i y m;split at h
   .rename_i n g;simp only[anc,aq8]at h;obtain⟨rfl,rfl⟩:=h;simp only[Lw b g];simp
   .simp at h
  .simp at h
 all_goals
  simp only[aq5,aq8]at h;obtain⟨q,d,rfl,rfl⟩:=h;refine⟨rfl,?_⟩
 case entry=>rw[zD b d];rfl
 case load=>rw[afH b d];rfl
 case eq=>rw[ae_ b d];rfl
 case slice=>rw[AE b d];rfl
 case pe=>rw[AD b d];rfl
 case bu=>rw[xP b d];rfl
 case lookup=>rw[xV b d];rfl
 case xA=>rw[Ky b d];rfl
theorem ao5{r:T}{op:dn}(g:cls op=.a){v:V}{d:aj}(h:bG r H op=aa (v,d)):d=H\/∃bY,d=H++[bY]:=by
 cases op<;>first|(simp only[cls,reduceCtorEq]at g;done)|simp only[bG]at h
 case call=>simp at h
 case alloc zs=>simp only[anc,aq8]at h;exact .inr ⟨_,h.2.symm⟩
 case ik=>simp only[anc,aq8]at h;exact .inr ⟨_,h.2.symm⟩
 case box x=>
  split at h
  .simp only[anc,aq8]at h;exact .inr ⟨_,h.2.symm⟩
  .simp at h
 case bN sz zs n ps=>
  split at h
  .split at h
   .simp only[anc,aq8]at h;exact .inl h.2.symm
   .simp at h
  .simp only[aq5,aq8]at h;obtain⟨q,j,rfl,rfl⟩:=h;exact .inr ⟨_,rfl⟩
 case eh sz b zs x y=>
  split at h
  .split at h
   .split at h
    .simp only[anc,aq8]at h;exact .inl h.2.symm
    .simp only[anc,aq8]at h;exact .inr ⟨_,h.2.symm⟩
   .simp at h
  .simp at h
end
section
variable{Q:Program}{σ:Nat->FuncId}{X:Wd}
theorem A6(d:SR Q σ X)(m:X.B<=X.w.heap.size){n:Nat}{cs:List C}{g:Nat}(u:X.H[n]?=aa (.box cs g))(v:X.cE n=ab){us:List Value}(h:A2 (CR σ X) cs us)(e:TypeId) :
  ∃X',X'.w=X.w.alloc (.cells us.toArray e)/\X'.H=X.H/\SR Q σ X'/\Ext X.H.length X X'/\X'.cE n=aa ⟨X.w.heap.size,0⟩/\X'.B<=X'.w.heap.size/\∀b,b≠n->X'.cE b=X.cE b:=by
 obtain⟨j,l⟩:=SR.fill d m u v (dZ.alloc X.w (.cells us.toArray e)) 0 (λx=>⟨us,ky (dZ.alloc _ _),A2.ext' σ x h,λi _ s=>by
  have:=d.fb _ _ s;simp at this⟩)
 exact⟨{ X with cE:=λb=>if b=n then aa ⟨X.w.heap.size,0⟩else X.cE b,w:=X.w.alloc (.cells us.toArray e) },rfl,rfl,j,l,by simp,by simp;omega,λb q=>by simp[q]⟩
def zh(Q:Program)(σ:Nat->FuncId)(X:Wd)(n:Nat)(v:V)(s:Sem Next)(e:Prop):Prop:=
 ∃X' u,s.run Q X.w=.ok (.value u) X'.w/\fO Q σ X v X.H X' u/\(∀b,b≠n->X'.cE b=X.cE b)/\(e->X'.cE=X.cE)
theorem xG(z:SR Q σ X)(y:X.B<=X.w.heap.size){n:Nat}{cs:List C}{j:Nat}(g:X.H[n]?=aa (.box cs j))(B:X.cE n=ab){us:List Value}(h:A2 (CR σ X) cs us)(e:TypeId){s:Sem Next}{b:Prop}(A:¬ b)
  (E:s.run Q X.w=.ok (.value (.pointer (aa ⟨X.w.heap.size,0,ab⟩))) (X.w.alloc (.cells us.toArray e))):zh Q σ X n (.c (.ptr n 0 0)) s b:=by
 obtain⟨X',l,d,m,q,u,v,x⟩:=A6 z y g B h e;refine⟨X',_,by rw[l];exact E,⟨d,m,?_,q,v⟩,x,λh=>absurd h A⟩;exact⟨_,u,by rw[d,g]⟩
theorem A7(B:SR Q σ X)(A:X.B<=X.w.heap.size){n:Nat}{cs:List C}{m:Nat}(j:X.H[n]?=aa (.box cs m))(F:X.cE n=ab){us:List Value}(h:A2 (CR σ X) cs us)(e:TypeId){s:Sem Next}{l c sz:Nat}(b:l<=c){d:Prop}(E:¬ d)
  (H:s.run Q X.w=.ok (.value (.slice (aa ⟨X.w.heap.size,0,ab⟩) l c)) (X.w.alloc (.cells us.toArray e))):zh Q σ X n (.c (.sl n 0 l c 0 sz)) s d:=by
 obtain⟨X',q,g,u,v,x,y,z⟩:=A6 B A j F h e;refine⟨X',_,by rw[q];exact H,⟨g,u,?_,v,y⟩,z,λh=>absurd h E⟩;simp only[VR,ib,CR,fM,g,j];exact⟨_,x,b,rfl⟩
theorem oJ{H b:aj}{cs:List C}(h:dp (H++[.box cs 0]) b):∃g,b[H.length]?=aa (.box cs g):=by
 obtain⟨blk',j,d⟩:=h H.length (.box cs 0) (by simp);cases blk'<;>simp only[dy,reduceCtorEq]at d;obtain⟨rfl,_⟩:=d;exact⟨_,j⟩
theorem yK{w':World}{o:Obj}(g:SR Q σ X)(d:dZ X.w w' o)(q:X.B<=X.w.heap.size):∃X':Wd,X'.w=w'/\X'.H=X.H/\SR Q σ X'/\Ext X.H.length X X'/\X'.B<=X'.w.heap.size/\X'.cE=X.cE:=by
 have j:Ext X.H.length X { X with w:=w' }:=Ext.one g X.H.length rfl (λ_ _=>Iff.rfl) (λk m _=>d.yZ m)
  (λL i h=>by rw[SR.pU g]at h;simp at h) (λh=>absurd h (atv _)) (λ_ _ _=>rfl) (λ_ _=>rfl) (λL h=>.inl ⟨L,h,rfl⟩) (by show _<=w'.heap.size;rw[d.size];omega) d.os d.tape d.output
 refine⟨{ X with w:=w' },rfl,rfl,SR.step Q σ g j X.H.length (λ_ _=>rfl) (λ_ _=>rfl) (λb L _ l=>d.yZ (g.br b L l).2.1)
  (λ_ _ _ _ _ h=>h) (λL h=>by change X.cE X.H.length=aa L at h;rw[SR.pU g]at h;simp at h) (λc i h=>?_),j,?_,rfl⟩
 .have:=g.fb c i h;show c<w'.heap.size;rw[d.size];omega
 .show X.B<=w'.heap.size;rw[d.size];omega
theorem afF(M:SR Q σ X)(L:X.B<=X.w.heap.size){a:Act}{aF:T}(hR:RR σ X aF a.tmps){o:Oper}{op:dn}(hc:cls op=.a)(d:dV Q σ o op=ae){H H1:aj}{v:V}(h:bG aF H op=aa (v,H1))
  (hH:dp H1 X.H) (W:H1.length≠H.length->X.cE H.length=ab):zh Q σ X H.length v (execOp a.eval o) (H1.length=H.length):=by
 cases op<;>first|(simp only[cls,reduceCtorEq]at hc;done)|skip
 case call f xs h'=>simp[bG]at h
 case alloc zs=>
  simp only[bG,anc,aq8]at h;obtain⟨rfl,rfl⟩:=h;obtain⟨fl,F⟩:=oJ hH;simp only[dV]at d;split at d
  .rename_i t B;obtain⟨z,us,h1,K,h3,_⟩:=eV (σ:=σ) (X:=X) d X.w;refine xG M L F (W (by simp)) h3 t (by simp) ?_;simp only[execOp,B];refine er ?_;simp[Instr.alloc,h1,newVar,newRow,K]
  .simp at d
 case ik=>
  simp only[bG,anc,aq8]at h;obtain⟨rfl,rfl⟩:=h;have F:X.H[H.length]?=aa (.map []):=by
   obtain⟨blk',hb,hl⟩:=hH H.length (.map []) (by simp);cases blk'<;>simp only[dy,reduceCtorEq,cH.map.injEq]at hl;subst hl;exact hb
  simp only[dV]at d;split at d
  .rename_i t B;have W:=W (by simp);obtain⟨h1,K⟩:=SR.fill M L F W (dZ.alloc X.w (.map #[] 0)) 0 (λhx=>⟨[],(dZ.alloc _ _).new,A2.nil,by simp⟩);refine⟨{ X with cE:=λb=>if b=H.length then aa ⟨X.w.heap.size,0⟩else X.cE b,w:=X.w.alloc (.map #[] 0) },.map (aa X.w.heap.size),?_,⟨rfl,h1,⟨⟨X.w.heap.size,0⟩,by simp,⟨[],F⟩,rfl⟩,K,by show X.B<=_;simp;omega⟩,λb hb=>by simp[hb],λh=>by simp at h⟩;simp[execOp,B,Instr.makeMap]
  .simp at d
 case box x=>
  simp only[bG]at h;split at h
  .rename_i xs e_;simp only[anc,aq8]at h;obtain⟨rfl,rfl⟩:=h;obtain⟨fl,F⟩:=oJ hH;simp only[dV]at d;split at d
   .rename_i t y B;obtain⟨us,K,h3⟩:=oz (bV hR d) e_;refine xG M L F (W (by simp)) h3 t (by simp) ?_;simp only[execOp,B];refine er ?_;simp[Instr.box,newVar,newRow,K]
   .simp at d
  .simp at h
 case bN sz zs n ps=>
  simp only[dV]at d;split at d
  .rename_i t n' qs B;simp only[aq3,beq_iff_eq,decide_eq_true_eq]at d;obtain⟨⟨⟨⟨rfl,s⟩,E⟩,h_⟩,hq⟩:=d;obtain⟨e,hu,E⟩:=gM E;simp only[aq3,decide_eq_true_eq]at E;obtain⟨⟨j,hz⟩,f9⟩:=E;obtain⟨z,us,Y,Z,A,_⟩:=eV (σ:=σ) (X:=X) hz X.w;have I:us.length=sz:=by have:=A.len;simp at this;omega
   simp only[bG]at h;split at h
   .rename_i F;subst F;split at h
    .rename_i c5;simp only[anc,aq8]at h;obtain⟨rfl,rfl⟩:=h;have U:qs.toList=[]:=by
      have:=(eM hq).len;simp only[List.isEmpty_iff]at c5;rw[c5]at this;exact ark this.symm
     have U:qs=#[]:=by apply Array.ext';simpa using U
     obtain⟨X',h1,K,h3,h4,h5,h6⟩:=yK M (dZ.alloc X.w (.cells #[] e)) L;refine⟨X',.slice (aa ⟨X.w.heap.size,0,ab⟩) 0 0,?_,⟨K,h3,cS.es _,h4,h5⟩,λb _=>by rw[h6],λ_=>h6⟩;rw[h1];simp only[execOp,B];refine er ?_;simp[Instr.buildSlice,aW hu,dj j,U,Instr.fill,newRow,show Array.range 0=(#[]:Array Nat) from rfl]
    .simp at h
   .rename_i F;simp only[aq5,aq8]at h;obtain⟨cs,d7,rfl,rfl⟩:=h;obtain⟨fl,O⟩:=oJ hH;obtain⟨j4,h5,h6⟩:=mY (place:=λi=>aa (i*sz,sz)) (ps:=qs.toList) hR (qs:=ps.map λp=>(p.1*sz,sz,p.2)) (A2.map ((eM hq).kH λq p S=>by
     simp only[aq3,beq_iff_eq]at S;exact⟨by rw[S.1],S.2⟩)) (iS A n') d7
    refine A7 M L O (W (by simp)) h6 e (aq9 _) (by simp) ?_;simp only[execOp,B];refine er ?_;have d8:n'*sz≠0:=by
     intro h0;rcases atz.1 h0 with h0|h0<;>omega
    have d5:=hZ us n' (by omega);rw[I]at d5;simp only[Instr.buildSlice,Sem.run_bind,aW hu,dj j,Result.andThen_ok,aR (show¬ n'*sz>2 ^ 24 by omega),Sem.run_ite,aR d8,Y,Sem.run_pure,Z];simp only[Array.toList_map];rw[d5];simp[h5,newRow]
  .simp at d
 case eh sz bytes zs x y=>
  simp only[dV]at d;split at d
  .rename_i t x' y' B;simp only[aq3,decide_eq_true_eq]at d;obtain⟨⟨⟨hx,hy⟩,E⟩,g_⟩:=d;have hx:=bV hR hx;have hy:=bV hR hy;obtain⟨e,hu,E⟩:=gM E;simp only[aq3]at E;obtain⟨⟨j,d6⟩,hz⟩:=E;obtain⟨z,us,Y,Z,A,i_,i7,i8⟩:=eV (σ:=σ) (X:=X) hz X.w;obtain⟨i6,a8,a_⟩:=vV d6 X.w;simp only[bG]at h;split at h
   .rename_i l c hl hc;obtain⟨kl,d_⟩:=il hx hl;obtain⟨kc,f8⟩:=il hy hc;split at h
    .rename_i N;obtain⟨h0,i9,u,f9⟩:=N;unfold cJ at u;simp only[aq3,decide_eq_true_eq]at u;have I:us.length=sz:=by have:=A.len;simp at this;omega
     have c_:=lN (n:=l) h0 (by omega);have c9:=lN (n:=c) (by omega) (by omega);have f_:c.toNat*bytes<=2 ^ 48:=by
      have:c.toNat*bytes<=(2*c.toNat+768)*bytes:=arL _ (by omega);omega
     have s:¬ ((bytes:Int)*c>2 ^ 48):=by
      have e1:(bytes:Int)*c=((c.toNat*bytes:Nat):Int):=by
       rw[atm,ar6];congr 1;omega
      rw[e1];omega
     have c6:((Array.range (c.toNat*sz)).map λi=>us.toArray[i % us.toArray.size]!)=(cQ c.toNat us).toArray:=by
      have:=hZ us c.toNat (by omega);rwa[I]at this
     have run:(execOp a.eval o).run Q X.w=.ok (.value (.slice (aa ⟨X.w.heap.size,0,ab⟩) l.toNat c.toNat)) (X.w.alloc (.cells (cQ c.toNat us).toArray e)):=by
      simp only[execOp,B];refine er ?_;rw[d_,f8];have b7:¬ c<0:=by omega
      have b_:¬ l<0:=by omega
      have J:¬ l>c:=by omega
      by_cases m:c.toNat*sz=0
      .have d9:cQ c.toNat us=[]:=ark (by rw[kv,I];exact m);have g:((decide (c<0)||decide ((bytes:Int)*c>2 ^ 48))||decide (l<0)||decide (l>c))=ag:=by rw[decide_eq_false b7,decide_eq_false b_,decide_eq_false J,decide_eq_false s];rfl
       simp only[Instr.makeSlice,Sem.run_bind,aW hu,asInt,asIntOf,Sem.run_pure,Result.andThen_ok,a8,a_,c_,c9,run_askRoom,dj j];simp only[g,arq,if_false,Sem.run_ite,bw m,Sem.run_bind,Result.andThen_ok,Sem.run_pure,run_askRoom,dj j,newRow,run_newObj];rw[m,d9,show(Array.map (λx=>(#[]:Array Value)[x % (#[]:Array Value).size]!) (Array.range 0))=#[] from by simp[show Array.range 0=(#[]:Array Nat) from rfl]];rfl
      .simp only[Instr.makeSlice,Sem.run_bind,aW hu,asInt,asIntOf,Sem.run_pure,Result.andThen_ok,a8,a_,c_,c9,run_askRoom,dj j];have g:((decide (c<0)||decide ((bytes:Int)*c>2 ^ 48))||decide (l<0)||decide (l>c))=ag:=by rw[decide_eq_false b7,decide_eq_false b_,decide_eq_false J,decide_eq_false s];rfl
       simp only[g,arq,if_false,Sem.run_ite,aR m,Sem.run_bind,Y,Z,Result.andThen_ok,Sem.run_pure,run_askRoom,dj j,c6,newRow,run_newObj];rfl
     split at h
     .rename_i m;subst m;simp only[anc,aq8]at h;obtain⟨rfl,rfl⟩:=h;have:l=0:=by omega
      subst this;obtain⟨X',g1,g2,g3,g4,g5,g6⟩:=yK M (dZ.alloc X.w (.cells (cQ (0:Int).toNat us).toArray e)) L;exact⟨X',_,by rw[g1];exact run,⟨g2,g3,cS.es _,g4,g5⟩,λb _=>by rw[g6],λ_=>g6⟩
     .simp only[anc,aq8]at h;obtain⟨rfl,rfl⟩:=h;obtain⟨fl,O⟩:=oJ hH;exact A7 M L O (W (by simp)) (iS A c.toNat) e (by omega) (by simp) run
    .simp at h
   .simp at h
  .simp at d
end
theorem z_{b:List Nat}{o:Oper}{i:Nat}:(mw b o).testBit i=ae↔∃e∈o.after.toList,Region.binds .any e=ae/\(e.on=i\/(b.getD e.on 0).testBit i=ae):=by
 unfold mw;have key:∀(l:List Edge) (s:Nat),(l.foldl (λs e=>if Region.binds .any e then s ||| 2 ^ e.on ||| b.getD e.on 0 else s) s).testBit i=ae ↔
   s.testBit i=ae\/∃e∈l,Region.binds .any e=ae/\(e.on=i\/(b.getD e.on 0).testBit i=ae):=by
  intro l;induction l with
  |nil=>intro s;simp
  |cons e l g=>
   intro s;simp only[asU,g,arM,exists_eq_or_imp];by_cases d:Region.binds .any e=ae
   .simp only[d,if_true,Nat.testBit_or,Bool.or_eq_true,Nat.testBit_two_pow,decide_eq_true_eq,true_and,or_assoc]
   .simp[d]
 rw[key];simp
theorem uz:∀(os:List Oper) (b:List Nat),(dD os b).length=b.length+os.length
 |[],b=>by simp[dD]
 |o::os,b=>by rw[dD,uz];simp;omega
theorem pO:∀(os:List Oper) (b:List Nat) (k:Nat),k<b.length->(dD os b)[k]?=b[k]?
 |[],b,k,_=>rfl
 |o::os,b,k,h=>by
  rw[dD,pO os _ k (by simp;omega),aq1 h]
theorem uA:∀(os:List Oper) (b:List Nat) (t:Nat) (o:Oper),os[t]?=aa o->(dD os b)[b.length+t]?=aa (mw ((dD os b).take (b.length+t)) o)
 |[],b,t,o,h=>by simp at h
 |o'::os,b,0,o,h=>by
  simp only[as0,anc]at h;subst h;have g:∀k,k<b.length->(dD os (b++[mw b o']))[k]?=b[k]?:=λk j=>by rw[pO os _ k (by simp;omega),aq1 j]
  have d:(dD os (b++[mw b o'])).take b.length=b:=by
   apply List.ext_getElem?;intro k;rw[arX];split
   .rename_i j;exact g k j
   .rename_i j;rw[asJ (by omega)]
  rw[dD,Nat.add_zero,d,pO os _ _ (by simp)];simp
 |o'::os,b,t+1,o,h=>by
  simp only[atj]at h;have:=uA os (b++[mw b o']) t o h;rw[dD];rw[show b.length+(t+1)=(b++[mw b o']).length+t by simp;omega];exact this
theorem AW{ops:List Oper}{i j:Nat}{o:Oper}(l:ops[j]?=aa o) :
  wh (dD ops []) i j=ae↔∃e∈o.after.toList,Region.binds .any e=ae/\(e.on=i\/(e.on<j/\wh (dD ops []) i e.on=ae)):=by
 have h:=uA ops [] j o l;simp only[List.length_nil,asd]at h;unfold wh;rw[as5,h,Option.getD_some,z_];have g:∀k,((dD ops []).take j).getD k 0=if k<j then(dD ops []).getD k 0 else 0:=by
  intro k;simp only[as5,arX];split<;>simp
 constructor
 .rintro⟨e,d,b,h⟩;refine⟨e,d,b,h.imp id λh=>?_⟩;rw[g]at h;split at h
  .rename_i m;exact⟨m,h⟩
  .simp at h
 .rintro⟨e,d,b,h⟩;refine⟨e,d,b,h.imp id λh=>?_⟩;rw[g,bw h.1];exact h.2
def pH(ops:List Oper)(D:Nat->Prop):Prop:=∀j o,D j->ops[j]?=aa o->∀e∈o.after.toList,Region.binds .any e=ae->D e.on
theorem pH.below{ops:List Oper}{D:Nat->Prop}(h:pH ops D){i:Nat}:∀(j:Nat),D j->wh (dD ops []) i j=ae->D i:=by
 intro j;induction j using Nat.strongRecOn with
 |ind j l=>
  intro g b;cases ho:ops[j]? with
  |none=>
   exfalso;unfold Km.wh at b;have:(dD ops []).length<=j:=by rw[uz];simpa using asQ.1 ho
   rw[as5,asJ this]at b;simp at b
  |some o=>
   obtain⟨e,d,hb,h1|⟨h1,h2⟩⟩:=(AW ho).1 b
   .exact h1▸h j o g ho e d hb
   .exact l e.on h1 (h j o g ho e d hb) h2
theorem pH.ready{ops:List Oper}{D:Nat->Prop}(h:pH ops D){i j:Nat}{o:Oper}(ho:ops[j]?=aa o)(d:∀e∈o.after.toList,Region.binds .any e=ae->D e.on)(g:wh (dD ops []) i j=ae):D i:=by
 obtain⟨e,b,hb,h1|⟨h1,h2⟩⟩:=(AW ho).1 g
 .exact h1▸d e b hb
 .exact h.below e.on (d e b hb) h2
def Bi(aos:List aN)(j:Nat):Prop:=∃y,aos[j]?=aa y/\cls y.op=.w
theorem my{aos:List aN}{j:Nat}:j∈lM aos↔Bi aos j:=by
 unfold lM Bi;rw[List.mem_filter,List.mem_range];constructor
 .rintro⟨_,h⟩;split at h
  .rename_i y b;exact⟨y,b,by simpa using h⟩
  .simp at h
 .rintro⟨y,b,d⟩;exact⟨(aq4.1 b).1,by simp[b,d]⟩
theorem mN{g:Type}(p:g->Bool):∀(l:List g),(∀k,k<(l.takeWhile p).length->∃y,l[k]?=aa y/\p y=ae)/\((l.takeWhile p).length=l.length\/∃y,l[(l.takeWhile p).length]?=aa y/\p y=ag)
 |[]=>by simp
 |x::l=>by
  by_cases d:p x=ae
  .rw[List.takeWhile_cons_of_pos d];obtain⟨j,b⟩:=mN p l;refine⟨λk m=>?_,?_⟩
   .cases k with
    |zero=>exact⟨x,rfl,d⟩| succ k=>exact j k (by simpa using m)
   .rcases b with b|b
    .exact .inl (by simp[b])
    .exact .inr (by simpa using b)
  .rw[List.takeWhile_cons_of_neg d];exact⟨by simp,.inr ⟨x,rfl,by simpa using d⟩⟩
theorem oa{aos:List aN}{i:Nat}(hi:i<=aos.length):i<=phase aos i/\phase aos i<=aos.length/\(phase aos i=aos.length\/Bi aos (phase aos i))/\∀j,i<=j->j<phase aos i->¬ Bi aos j:=by
 unfold phase;obtain⟨s,g⟩:=mN (λy:aN=>decide (cls y.op≠.w)) (aos.drop i);have q:((aos.drop i).takeWhile λy=>decide (cls y.op≠.w)).length<=(aos.drop i).length:=by
  rcases arI (aos.drop i).length ((aos.drop i).takeWhile λy=>decide (cls y.op≠.w)).length with h|h
  .obtain⟨y,b,_⟩:=s _ h;have:=(aq4.1 b).1;omega
  .exact h
 simp only[aru]at q g;refine⟨by omega,by omega,?_,λj v u=>?_⟩
 .rcases g with g|⟨y,b,l⟩
  .exact .inl (by omega)
  .rw[arC]at b;exact .inr ⟨y,b,by simpa using l⟩
 .obtain⟨y,b,l⟩:=s (j-i) (by omega);rw[arC,show i+(j-i)=j by omega]at b;rintro⟨x,d,m⟩;rw[b]at d;cases d;simp[m]at l
structure Ord(ops:List Oper)(aos:List aN)(iD:List (Nat × Nat)):Prop where
 back:∀j o,j<aos.length->ops[j]?=aa o->∀e∈o.after.toList,Region.binds .any e=ae->e.on<j
 two:∀i j x y,i<j->aos[i]?=aa x->aos[j]?=aa y->wh (dD ops []) i j=ae\/(x.apart y=ae/\(rz x y=ae\/(j=kj (dD ops []) aos/\cls x.op=.w)))
 ear:∀y,aos[kj (dD ops []) aos]?=aa y->(∃zs,y.op=.alloc zs)/\y.g=ab/\∃p,y.dst=aa p/\∀i z,aos[i]?=aa z->p∈z.rd->∀e,Bi aos e->e<kj (dD ops []) aos->wh (dD ops []) e i=ae
 rd:∀i x e,aos[i]?=aa x->cls x.op=.r->Bi aos e\/e=aos.length->xZ (dD ops []) aos i e=ae->e=phase aos i\/(i,e)∈iD
theorem Lh{ops:List Oper}{aos:List aN}{iD:List (Nat × Nat)}(h:Zz ops aos iD=ae):Ord ops aos iD:=by
 simp only[Zz,aq3]at h;obtain⟨⟨⟨A,B⟩,g⟩,E⟩:=h;refine⟨λj o L N e b J=>?_,λi j x y s m q=>?_,λy q=>?_,λi x e m K b M=>?_⟩
 .rw[ars]at A;have d:(o,j)∈ops.zip (List.range aos.length):=by
   refine List.mem_of_getElem? (i:=j) ?_;rw[List.getElem?_zip_eq_some];exact⟨N,by simp[L]⟩
  have:=A _ d;rw[ars]at this;simpa[J]using this e b
 .rw[ars]at B;have:=B j (by simpa using (aq4.1 q).1);rw[ars]at this;have:=this i (by simpa using s);rw[m,q]at this;simpa using this
 .unfold A4 at g;rw[q]at g;simp only[aq3,Option.isNone_iff_eq_none]at g;obtain⟨⟨I,F⟩,l⟩:=g;refine⟨?_,I,?_⟩
  .split at F
   .exact⟨_,by assumption⟩
   .simp at F
  .split at l
   .rename_i p O;refine⟨p,O,λi z H v e b u=>?_⟩;rw[ars]at l;have:=l i (by simpa using (aq4.1 H).1);rw[H]at this;simp only[Bool.or_eq_true,Bool.not_eq_true',List.contains_eq_mem,decide_eq_false_iff_not,ars]at this;rcases this with h|h
    .exact absurd v h
    .have:=h e (my.2 b);simpa[u]using this
   .simp at l
 .rw[ars]at E;have:=E i (by simpa using (aq4.1 m).1);rw[m]at this;simp only[K,if_true]at this;rw[ars]at this;have:=this e (by
   rw[ard];rcases b with b|b
   .exact .inl (my.2 b)
   .exact .inr (by simp[b]))
  simpa[M]using this
section
variable{Q:Program}{σ:Nat->FuncId}{X:Wd}{call:dw}
theorem Ext.len{X X':Wd}(h:Ext X.H.length X X'):X.H.length<=X'.H.length:=by
 rcases arI X'.H.length X.H.length with b|g
 .obtain⟨blk',d,_⟩:=h.bE X'.H.length b _ (aq2 b);have:=(aq4.1 d).1;omega
 .exact g
theorem uY{s b:St}{op:dn}{v:V}(h:eH call s op=aa (v,b)):b.aF=s.aF:=by
 have:=BW (r':=s.aF) (λ_ _=>rfl) h;rw[show({ s with aF:=s.aF }:St)=s from rfl,h]at this;simp only[anc,aq8,true_and]at this;rw[this]
theorem AL{s b:St}{y:aN}(h:fh call s y=aa b):∃v,b.aF=gV s.aF y.dst v:=by
 unfold fh at h;split at h
 .split at h
  .rename_i v g d;cases h;exact⟨v,by rw[uY d]⟩
  .simp at h
 .cases h;exact⟨_,rfl⟩
 .simp at h
theorem sv{aF:T}{d:Option P}{v:V}{p:P}:(gV aF d v).get p=if d=aa p then v else aF.get p:=by
 cases d with
 |none=>simp[gV]| some q=>simp only[gV,T.oH,anc]
theorem oh{s l:St}{y:aN}(g:cls y.op≠.w)(h:fh call s y=aa l):dp s.heap l.heap/\l.defs=s.defs:=by
 unfold fh at h;split at h
 .split at h
  .rename_i v z b;cases h;by_cases j:(∃f xs h,y.op=.call f xs h)\/(∃x xs h,y.op=.bZ x xs h)\/y.op=.recover\/∃x xs,y.op=.defer x xs
   .rcases j with⟨f,xs,q,e⟩|⟨x,xs,q,e⟩|e|⟨x,xs,e⟩
    .rw[e]at b g;cases q
     .simp only[eH,gv,arq,if_false,aq5,aq8]at b;obtain⟨⟨A,H'⟩,b,rfl,rfl⟩:=b;refine⟨?_,rfl⟩;unfold eU at b;split at b
      .simp at b
      .split at b
       .simp at b
       .split at b
        .simp at b
        .simp only[anc,aq8]at b;show dp s.heap H';rw[<-b.2];exact(oS _ _ _).ext
     .exact absurd rfl g
    .rw[e]at g;exact absurd rfl g
    .rw[e]at g;exact absurd rfl g
    .rw[e]at g;exact absurd rfl g
   .have u:(bG s.aF s.heap y.op).map (λr=>(r.1,{ s with heap:=r.2 }))=aa (v,z):=by
     generalize y.op=op at b j;cases op<;>first|exact b|(exfalso;apply j;simp)
    simp only[aq5,aq8]at u;obtain⟨⟨A,H'⟩,m,rfl,rfl⟩:=u;clear b;have b:=m;clear m;refine⟨?_,rfl⟩;show dp s.heap H';cases d:cls y.op with
    |p=>
     have:=ahu (r:=s.aF) d s.heap s.heap;rw[b]at this;simp only[arN,anc,aq8]at this;rw[this.2];exact dp.refl _
    |r=>rw[(BY d (dp.refl _) b).1];exact dp.refl _
    |a=>
     rcases ao5 d b with e|⟨cs,e⟩
     .rw[e];exact dp.refl _
     .rw[e];exact dp.append _ _
    |c=>
     generalize y.op=op at b d;cases op<;>first|(simp only[cls,reduceCtorEq]at d;done)|(simp[bG]at b;done)
    |w=>exact absurd d g
  .simp at h
 .cases h;exact⟨dp.refl _,rfl⟩
 .simp at h
def gK(aF:T)(ps:List P):T:=ps.foldl (λt p=>t.set p (aF.get p)) .e
theorem sw(aF:T)(ps:List P)(p:P):(gK aF ps).get p=if p∈ps then aF.get p else .top:=by
 have key:∀(ps:List P) (t:T),(ps.foldl (λt p=>t.set p (aF.get p)) t).get p=if p∈ps then aF.get p else t.get p:=by
  intro ps;induction ps with
  |nil=>intro t;simp
  |cons q ps g=>
   intro t;simp only[asU,g,T.oH,arM];by_cases b:p∈ps
   .simp[b]
   .by_cases d:q=p
    .subst d;simp[b]
    .have:¬ p=q:=λe=>d e.symm;simp[b,d,this]
 have:=key ps .e;unfold gK;rw[this];rfl
structure iX(Q:Program)(σ:Nat->FuncId)(call:dw)(n:Nat)(ops:Array Oper)(aos:List aN)(iD:List (Nat × Nat))(st:Nat->St):Prop where
 ajU:fC (kn Q σ n ops) ops.toList aos=ae
 ord:Ord ops.toList aos iD
 step:∀i y,aos[i]?=aa y->fh call (st i) y=aa (st (i+1))
 ap1:∀i e y,(i,e)∈iD->aos[i]?=aa y->wanted (st i).aF y.g=aa ae->∃v H1 H2,bG (st i).aF (st i).heap y.op=aa (v,H1)/\bG (st i).aF (st e).heap y.op=aa (v,H2)
structure jE(σ:Nat->FuncId)(X:Wd)(c:Nat)(zs:List FC):Prop where
 bY:∃us t,X.w.heap[c]?=aa (.cells us.toArray t (0,0))/\A2 (CR σ X) (zs.map .f) us
 b:X.B<=c
 ue:∀b L,X.cE b=aa L->L.c≠c
 f:∀i,¬ X.F c i
theorem jE.lt{c:Nat}{zs:List FC}(h:jE σ X c zs):c<X.w.heap.size:=by
 obtain⟨us,t,h1,_⟩:=h.bY;exact(Array.getElem?_eq_some_iff.1 h1).1
theorem jE.ext{X X':Wd}(d:Ext X.H.length X X'){c:Nat}{zs:List FC}(h:jE σ X c zs):jE σ X' c zs:=by
 have j:=h.lt;obtain⟨us,t,h1,h2⟩:=h.bY;refine⟨⟨us,t,by rw[d.frame c j h.ue];exact h1,A2.ext' σ d h2⟩,by rw[d.B];exact h.b,λb L hb=>?_,λi hi=>?_⟩
 .rcases d.ue b L hb with⟨b0,L0,g1,g2⟩|g1
  .rw[<-g2];exact h.ue b0 L0 g1
  .omega
 .rcases d.ov c i hi with g|g|⟨b,L,g1,g2⟩
  .exact h.f i g
  .omega
  .exact h.ue b L g1 g2
theorem SR.assign(q:SR Q σ X){n c:Nat}{zs:List FC}{x:Nat}(g:jE σ X c zs)(v:X.H[n]?=aa (.box (zs.map .f) x))(y:X.cE n=ab) :
  SR Q σ { X with cE:=λb=>if b=n then aa ⟨c,0⟩else X.cE b }/\ot X.H.length X { X with cE:=λb=>if b=n then aa ⟨c,0⟩else X.cE b }/\VR σ { X with cE:=λb=>if b=n then aa ⟨c,0⟩else X.cE b } (.c (.ptr n 0 0)) (.pointer (aa ⟨c,0,ab⟩)):=by
 have s:ot X.H.length X { X with cE:=λb=>if b=n then aa ⟨c,0⟩else X.cE b }:=by
  refine⟨λ_ _ h=>h,λ_ _ _=>rfl,λb _ bY hb=>⟨bY,hb,?_⟩⟩;have:∀L,X.cE b=aa L->(if b=n then aa (⟨c,0⟩:Loc)else X.cE b)=aa L:=λL m=>by
   by_cases e:b=n
   .subst e;rw[y]at m;simp at m
   .rw[aR e];exact m
  cases bY<;>simp only[true_and,and_self]<;>first|exact this|(exact .inl ⟨trivial,trivial,this⟩)|(exact⟨rfl,.inl ⟨rfl,rfl,this⟩⟩)|(exact .inl this)|simpa using this
 obtain⟨us,t,h1,h2⟩:=g.bY;refine⟨⟨λb L hb=>?_,λb l L u hb d hc=>?_,q.fb⟩,s,⟨⟨c,0⟩,by simp,by rw[v]⟩⟩
 .by_cases e:b=n
  .subst e;simp only[if_true,anc]at hb;subst hb;exact⟨g.b,g.lt,_,v,us,⟨t,(0,0),h1,λi _=>by simp⟩,A2.eg σ s h2,λi _=>g.f i⟩
  .simp only[e,if_false]at hb;obtain⟨g1,g2,bY,g3,g4⟩:=q.br b L hb;exact⟨g1,g2,bY,g3,BR.oF Q σ s rfl (λ_ h=>h) g4⟩
 .simp only at hb d;by_cases e:b=n<;>by_cases j:l=n
  .rw[e,j]
  .rw[bw e]at hb;rw[aR j]at d;cases hb;exact absurd hc.symm (g.ue l u d)
  .rw[aR e]at hb;rw[bw j]at d;cases d;exact absurd hc (g.ue b L hb)
  .rw[aR e]at hb;rw[aR j]at d;exact q.inj b l L u hb d hc
abbrev eJ(ops:Array Oper)(aos:List aN):Nat:=kj (dD ops.toList []) aos
def apY(σ:Nat->FuncId)(X0:Wd)(ops:Array Oper)(aos:List aN)(E:Nat)(X:Wd)(a:Act)(p:P)(K:Nat):Prop:=
 ∃y zs c,K=eJ ops aos+1/\E<=eJ ops aos/\aos[eJ ops aos]?=aa y/\y.dst=aa p/\y.op=.alloc zs/\a.tmps.getD p.toNat undef=.pointer (aa ⟨c,0,ab⟩)/\X0.w.heap.size<=c/\jE σ X c zs
structure Inv(Q:Program)(σ:Nat->FuncId)(X0:Wd)(n:Nat)(ops:Array Oper)(aos:List aN)(st:Nat->St)(D:Nat->Prop)(E:Nat)(X:Wd)(a:Act):Prop where
 closed:pH ops.toList D
 dlt:∀j,D j->j<aos.length
 eN:E<=aos.length
 eW:E=aos.length\/Bi aos E
 eD:¬ D E
 wD:∀j,Bi aos j->j<E->D j
 heap:X.H=(st E).heap
 ext:Ext X0.H.length X0 X
 sr:SR Q σ X
 b:X.B<=X.w.heap.size
 defs:fN σ X (st E).defs a.defers
 size:n<=a.tmps.size
 aab:∀p,∃K,K<=aos.length/\(VR σ X ((st K).aF.get p) (a.tmps.getD p.toNat undef)\/apY σ X0 ops aos E X a p K)/\∀j y,aos[j]?=aa y->y.dst=aa p->(j<K↔D j)
 uc:∀j y,j<E->¬ D j->aos[j]?=aa y->cls y.op=.a->(st (j+1)).heap.length≠(st j).heap.length->X.cE (st j).heap.length=ab
section
variable{n:Nat}{ops:Array Oper}{aos:List aN}{iD:List (Nat × Nat)}{st:Nat->St}
theorem iX.lI(R:iX Q σ call n ops aos iD st){p:P}{lo:Nat}:∀(hi:Nat),lo<=hi->hi<=aos.length->(∀j y,lo<=j->j<hi->aos[j]?=aa y->y.dst≠aa p)->(st lo).aF.get p=(st hi).aF.get p
 |0,h,_,_=>by rw[Nat.le_zero.1 h]
 |hi+1,h,g,b=>by
  rcases arI hi lo with h1|h1
  .rw[show lo=hi+1 by omega]
  .rw[iX.lI R hi h1 (by omega) λj y h2 h3=>b j y h2 (by omega)];have hy:=aq2 (show hi<aos.length by omega);obtain⟨v,d⟩:=AL (R.step hi _ hy);rw[d,sv,aR (b hi _ h1 (by omega) hy)]
theorem iX.di(R:iX Q σ call n ops aos iD st){lo:Nat}:∀(hi:Nat),lo<=hi->hi<=aos.length->(∀j,lo<=j->j<hi->¬ Bi aos j)->dp (st lo).heap (st hi).heap/\(st hi).defs=(st lo).defs
 |0,h,_,_=>by rw[Nat.le_zero.1 h];exact⟨dp.refl _,rfl⟩
 |hi+1,h,l,b=>by
  rcases arI hi lo with h1|h1
  .rw[show lo=hi+1 by omega];exact⟨dp.refl _,rfl⟩
  .obtain⟨g1,g2⟩:=iX.di R hi h1 (by omega) λj h2 h3=>b j h2 (by omega);have hy:=aq2 (show hi<aos.length by omega);obtain⟨d,g⟩:=oh (λhc=>b hi h1 (by omega) ⟨_,hy,hc⟩) (R.step hi _ hy);exact⟨g1.trans d,g.trans g2⟩
theorem iX.at(R:iX Q σ call n ops aos iD st){i:Nat}{y:aN}(hy:aos[i]?=aa y):∃o,ops[i]?=aa o/\kn Q σ n ops o y=ae:=by
 have:=eM R.ajU;have hi:i<ops.toList.length:=by rw[this.len];exact(aq4.1 hy).1
 have b:=aq2 hi;refine⟨ops.toList[i],by rw[<-Array.getElem?_toList];exact b,this.2 i _ _ b hy⟩
theorem iX.before(R:iX Q σ call n ops aos iD st){i j:Nat}{x y:aN}(b:i<j)(g:aos[i]?=aa x)(hy:aos[j]?=aa y)(h:x.apart y=ag\/(rz x y=ag/\(j=eJ ops aos->cls x.op≠.w))):wh (dD ops.toList []) i j=ae:=by
 rcases R.ord.two i j x y b g hy with h1|⟨h1,h2⟩
 .exact h1
 .rcases h with h|⟨h,d⟩
  .rw[h1]at h;simp at h
  .rcases h2 with h2|⟨h2,h3⟩
   .rw[h2]at h;simp at h
   .exact absurd h3 (d h2)
theorem Ext.assign{X0 d:Wd}(h:Ext X0.H.length X0 d){n c:Nat}(g:ot d.H.length d { d with cE:=λb=>if b=n then aa ⟨c,0⟩else d.cE b })(hc:X0.w.heap.size<=c):Ext X0.H.length X0 { d with cE:=λb=>if b=n then aa ⟨c,0⟩else d.cE b } where
 B:=h.B
 F:=h.F
 ov:=h.ov
 fw:=h.fw
 bE:=λb hb=>(h.bE b hb).trans (g.bE b (asg hb h.len))
 ue:=λb L hb=>by
  simp only at hb;by_cases e:b=n
  .rw[bw e]at hb;cases hb;exact .inr hc
  .rw[aR e]at hb;exact h.ue b L hb
 size:=h.size
 os:=h.os
 tape:=h.tape
 output:=h.output
 frame:=h.frame
theorem iX.YM(R:iX Q σ call n ops aos iD st){y:aN}(hy:aos[eJ ops aos]?=aa y):cls y.op=.a:=by
 obtain⟨⟨zs,h⟩,_⟩:=R.ord.ear y hy;rw[h];rfl
theorem Yn{x y:aN}{p:P}(h:x.dst=aa p)(b:p∈y.rd):x.apart y=ag:=by
 simp[aN.apart,h,b]
theorem xc{x y:aN}{p:P}(h:x.dst=aa p)(b:y.dst=aa p):x.apart y=ag:=by
 simp[aN.apart,h,b]
theorem Ym{x y:aN}{p:P}(h:p∈x.rd)(b:y.dst=aa p):x.apart y=ag:=by
 simp[aN.apart,h,b]
structure iW(ops:Array Oper)(aos:List aN)(D:Nat->Prop)(i:Nat)(o:Oper)(y:aN):Prop where
 ho:ops[i]?=aa o
 hy:aos[i]?=aa y
 hD:¬ D i
 pre:∀e∈o.after.toList,Region.binds .any e=ae->D e.on
variable{X0:Wd}{D:Nat->Prop}{E i:Nat}{a:Act}{o:Oper}{y:aN}
theorem iW.nV(d:Inv Q σ X0 n ops aos st D E X a)(b:iW ops aos D i o y){j:Nat}(h:wh (dD ops.toList []) j i=ae):D j:=
 d.closed.ready (by simpa using b.ho) b.pre h
theorem iW.oW(b:Inv Q σ X0 n ops aos st D E X a)(g:iW ops aos D i o y){j:Nat}(h:wh (dD ops.toList []) i j=ae):¬ D j:=
 λd=>g.hD (b.closed.below j d h)
theorem iX.reads(R:iX Q σ call n ops aos iD st)(m:Inv Q σ X0 n ops aos st D E X a)(b:iW ops aos D i o y){p:P}(B:p∈y.rd):VR σ X ((st i).aF.get p) (a.tmps.getD p.toNat undef):=by
 obtain⟨K,I,s,H⟩:=m.aab p;have hi:i<aos.length:=(aq4.1 b.hy).1;have s:VR σ X ((st K).aF.get p) (a.tmps.getD p.toNat undef):=by
  rcases s with s|⟨z,zs,c,_,N,d,g,_⟩
  .exact s
  .exfalso;obtain⟨_,_,O,x,l⟩:=R.ord.ear z d;rw[g]at x;cases x;have J:=(aq4.1 d).1;rcases m.eW with M|v
   .omega
   .have L:E≠eJ ops aos:=by
     intro e;obtain⟨q,F,A⟩:=v;rw[e]at F;rw[R.YM F]at A;cases A
    exact m.eD (b.nV m (l i y b.hy B E v (show E<eJ ops aos by omega)))
 rcases Nat.le_total K i with h|h
 .rw[<-R.lI i h (by omega) λj z h1 h2 d g=>?_]
  .exact s
  .have:=b.nV m (R.before h2 d b.hy (.inl (Yn g B)));have:=(H j z d g).2 this;omega
 .rw[R.lI K h I λj z h1 h2 d g=>?_]
  .exact s
  .have u:=(H j z d g).1 h2;rcases arI i j with h3|h3
   .exact b.oW m (R.before h3 b.hy d (.inl (Ym B g))) u
   .have:j=i:=by omega
    subst this;exact b.hD u
theorem iX.fin(R:iX Q σ call n ops aos iD st)(F:Inv Q σ X0 n ops aos st D E X a)(q:iW ops aos D i o y){l:Wd}{a1:Act}{u:Value}{v:V}{m:Nat}(hS:SR Q σ l)(hB:l.B<=l.w.heap.size)(b7:Ext X0.H.length X0 l)
  (hm:∀v u,VR σ X v u->VR σ l v u) (a_:∀y zs c p,E<=eJ ops aos->aos[eJ ops aos]?=aa y->y.op=.alloc zs->y.dst=aa p->D (eJ ops aos)->a.tmps.getD p.toNat undef=.pointer (aa ⟨c,0,ab⟩)->X0.w.heap.size<=c->jE σ X c zs->if m<=eJ ops aos then jE σ l c zs else VR σ l ((st (eJ ops aos+1)).aF.get p) (.pointer (aa ⟨c,0,ab⟩)))
  (hv:VR σ l v u\/(i=eJ ops aos/\m<=eJ ops aos/\∃zs c,y.op=.alloc zs/\u=.pointer (aa ⟨c,0,ab⟩)/\X0.w.heap.size<=c/\jE σ l c zs))
  (ht:a1.tmps=(a.put o.dst u).tmps) (U:(st (i+1)).aF=gV (st i).aF y.dst v) (h1:m<=aos.length) (h2:m=aos.length\/Bi aos m) (h3:¬ (D m\/m=i)) (h4:∀j,Bi aos j->j<m->D j\/j=i)
  (hH:l.H=(st m).heap) (hd:fN σ l (st m).defs a1.defers)
  (hh:∀j y,j<m->¬ (D j\/j=i)->aos[j]?=aa y->cls y.op=.a->(st (j+1)).heap.length≠(st j).heap.length->l.cE (st j).heap.length=ab) :
  Inv Q σ X0 n ops aos st (λj=>D j\/j=i) m l a1:=by
 have hi:i<aos.length:=(aq4.1 q.hy).1;obtain⟨o',S,A⟩:=R.at q.hy;rw[q.ho]at S;cases S;have yY:(a.put o.dst u).tmps.size=a.tmps.size:=by cases o.dst<;>simp[Act.put]
 refine⟨λj oj O B e he hb=>?_,λj O=>O.elim (F.dlt j) λh=>h▸hi,h1,h2,h3,h4,hH,b7,hS,hB,hd,by rw[ht,yY];exact F.size,λp=>?_,hh⟩
 .rcases O with O|rfl
  .exact .inl (F.closed j oj O B e he hb)
  .have:oj=o:=by have:=q.ho;simp at B;rw[this]at B;cases B;rfl
   subst this;exact .inl (q.pre e he hb)
 .by_cases b:y.dst=aa p
  .have s:a1.tmps.getD p.toNat undef=u:=by
    rw[ht];simp only[kn,aq3]at A;have g:=A.1.2;rw[b]at g;split at g
    .rename_i d p' L J;simp only[aq3,beq_iff_eq,decide_eq_true_eq]at g;cases J;have Z:d<a.tmps.size:=asg g.2 F.size;rw[L,g.1];simp only[Act.put];simp[Z]
    .rename_i J;simp at J
    .simp at g
   refine⟨i+1,hi,?_,λj z I x=>⟨λh=>?_,λh=>?_⟩⟩
   .rcases hv with hv|⟨N,Y,zs,c,g1,g2,g3,g4⟩
    .left;rw[U,sv,bw b,s];exact hv
    .right;exact⟨y,zs,c,by rw[N],Y,by rw[<-N];exact q.hy,b,g1,by rw[s];exact g2,g3,g4⟩
   .rcases arI j i with M|M
    .exact .inl (q.nV F (R.before M I q.hy (.inl (xc x b))))
    .exact .inr (by omega)
   .rcases h with h|rfl
    .rcases arI i j with M|M
     .exact absurd h (q.oW F (R.before M q.hy I (.inl (xc b x))))
     .omega
    .omega
  .obtain⟨K,hK,H,hw⟩:=F.aab p;have e:a1.tmps.getD p.toNat undef=a.tmps.getD p.toNat undef:=by
    rw[ht];simp only[kn,aq3]at A;have g:=A.1.2;split at g
    .rename_i d p' L J;simp only[aq3,beq_iff_eq,decide_eq_true_eq]at g;have a8:d≠p.toNat:=λe=>b (by rw[J,P.toNat_inj (g.1.trans e)]);rw[L];simp[Act.put,Array.getD_eq_getD_getElem?,Array.getElem?_setIfInBounds_ne a8]
    .rename_i L J;rw[L];rfl
    .simp at g
   refine⟨K,hK,?_,λj z I x=>?_⟩
   .rcases H with H|⟨z,zs,c,g1,g2,g3,g4,g5,g6,g7,g8⟩
    .left;rw[e];exact hm _ _ H
    .have W:D (eJ ops aos):=(hw _ z g3 g4).1 (by omega);have:=a_ z zs c p g2 g3 g5 g4 W g6 g7 g8;split at this
     .rename_i Y;right;exact⟨z,zs,c,g1,Y,g3,g4,g5,by rw[e];exact g6,g7,this⟩
     .left;rw[e,g6,g1];exact this
   .rw[hw j z I x];exact⟨.inl,λh=>h.elim id λh=>absurd (by rw[h]at I;rw[q.hy]at I;cases I;exact x) b⟩
end
end
section
variable{Q:Program}{σ:Nat->FuncId}{X:Wd}{call:dw}
variable{n:Nat}{ops:Array Oper}{aos:List aN}{iD:List (Nat × Nat)}{st:Nat->St}
variable{X0:Wd}{D:Nat->Prop}{E i:Nat}{a:Act}{o:Oper}{y:aN}
theorem oB{x y:aN}(h:cls x.op=.w)(d:cls y.op≠.p)(b:cls y.op≠.r):rz x y=ag:=by
 unfold rz;rw[h];cases g:cls y.op<;>simp_all
theorem rA{x y:aN}(h:cls y.op=.w)(d:cls x.op≠.p)(b:cls x.op≠.r):rz x y=ag:=by
 unfold rz;rw[h];cases g:cls x.op<;>simp_all
theorem iX.rT(R:iX Q σ call n ops aos iD st){j:Nat}{z:aN}(b:aos[j]?=aa z)(hc:cls z.op≠.a):j≠eJ ops aos:=by
 rintro rfl;exact hc (R.YM b)
theorem iX.aly(R:iX Q σ call n ops aos iD st)(d:Inv Q σ X0 n ops aos st D E X a)(b:iW ops aos D i o y)(hc:cls y.op=.w):i=E:=by
 have hi:i<aos.length:=(aq4.1 b.hy).1;rcases asz i E with h|h|h
 .exact absurd (d.wD i ⟨y,b.hy,hc⟩ h) b.hD
 .exact h
 .rcases d.eW with h1|⟨z,j,g⟩
  .omega
  .exact absurd (b.nV d (R.before h j b.hy (.inr ⟨oB g (by simp[hc]) (by simp[hc]),λe=>absurd e (R.rT b.hy (by simp[hc]))⟩))) d.eD
theorem iX.Yd(R:iX Q σ call n ops aos iD st)(g:Inv Q σ X0 n ops aos st D E X a)(d:iW ops aos D i o y)(h1:cls y.op≠.p)(h2:cls y.op≠.r)(h3:cls y.op≠.w)(v:i=eJ ops aos->i<E):i<E/\∀j,i<=j->j<E->¬ Bi aos j:=by
 have hi:i<aos.length:=(aq4.1 d.hy).1;refine⟨?_,λj x q s=>?_⟩
 .rcases asz i E with h|h|h
  .exact h
  .rcases g.eW with u|⟨z,l,b⟩
   .omega
   .rw[<-h,d.hy]at l;cases l;exact absurd b h3
  .rcases g.eW with u|⟨z,l,b⟩
   .omega
   .exact absurd (d.nV g (R.before h l d.hy (.inr ⟨oB b h1 h2,λe=>by have:=v e;omega⟩))) g.eD
 .have m:=g.wD j s q;obtain⟨z,l,b⟩:=s;rcases arI i j with h|h
  .exact d.oW g (R.before h d.hy l (.inr ⟨rA b h1 h2,λ_=>h3⟩)) m
  .have:j=i:=by omega
   subst this;exact d.hD m
theorem iX.aqd(R:iX Q σ call n ops aos iD st)(d:Inv Q σ X0 n ops aos st D E X a)(s:iW ops aos D i o y)(hc:cls y.op=.r)(L:wanted (st i).aF y.g=aa ae){v:V}{F:aj}(h:bG (st i).aF (st i).heap y.op=aa (v,F)) :
  F=(st i).heap/\bG (st i).aF X.H y.op=aa (v,X.H):=by
 have hi:i<aos.length:=(aq4.1 s.hy).1;refine⟨(BY hc (dp.refl _) h).1,?_⟩;have q:xZ (dD ops.toList []) aos i E=ae:=by
  unfold xZ;rw[ars];intro j K;have l:=my.1 K;split
  .rename_i m;have b:=d.wD j l m;cases x:wh (dD ops.toList []) i j with
   |false=>rfl| true=>exact absurd b (s.oW d x)
  .rename_i m;cases x:wh (dD ops.toList []) j i with
   |false=>rfl
   |true=>
    exfalso;have b:=s.nV d x;rcases arI E j with h1|h1
    .rcases d.eW with N|⟨z,M,B⟩
     .have:=d.dlt j b;omega
     .obtain⟨S,u,g⟩:=l;exact d.eD (d.closed.below j b (R.before h1 M u (.inr ⟨oB B (by simp[g]) (by simp[g]),λe=>absurd e (R.rT u (by simp[g]))⟩)))
    .have:j=E:=by omega
     subst this;exact d.eD b
 rw[d.heap];rcases R.ord.rd i y E s.hy hc (d.eW.symm) q with A|A
 .obtain⟨p1,_,_,H⟩:=oa (aos:=aos) (i:=i) (by omega);rw[<-A]at p1 H;exact(BY hc (R.di E p1 d.eN H).1 h).2
 .obtain⟨O,I,J,g1,g2⟩:=R.ap1 i E y A s.hy L;rw[h]at g1;cases g1;have:=(BY hc (dp.refl _) g2).1;rw[this]at g2;exact g2
theorem iX.ae5(R:iX Q σ call n ops aos iD st){z:aN}(d:aos[eJ ops aos]?=aa z){zs:List FC}(b:z.op=.alloc zs){p:P}(g:z.dst=aa p) :
  (st (eJ ops aos+1)).heap=(st (eJ ops aos)).heap++[.box (zs.map .f) 0]/\(st (eJ ops aos+1)).aF.get p=.c (.ptr (st (eJ ops aos)).heap.length 0 0):=by
 obtain⟨_,hg,_⟩:=R.ord.ear z d;have h:=R.step _ z d;simp only[fh,hg,wanted,b,eH,bG,arN,anc]at h;rw[<-h];exact⟨rfl,by rw[sv,bw g]⟩
theorem iX.AV(R:iX Q σ call n ops aos iD st)(s:Inv Q σ X0 n ops aos st D E X a)(x:iW ops aos D i o y)(hc:cls y.op=.w){d:Wd}{a1:Act}{u:Value}{v:V}(hS:SR Q σ d)(hB:d.B<=d.w.heap.size)(hx:Ext X.H.length X d)
  (hv:VR σ d v u) (ht:a1.tmps=(a.put o.dst u).tmps) (B:(st (i+1)).aF=gV (st i).aF y.dst v) (hH:d.H=(st (i+1)).heap) (hd:fN σ d (st (i+1)).defs a1.defers) :
  ∃E' X2,X2.w=d.w/\Inv Q σ X0 n ops aos st (λj=>D j\/j=i) E' X2 a1:=by
 have hi:i<aos.length:=(aq4.1 x.hy).1;have b7:=R.aly s x hc;subst b7;obtain⟨p1,p2,p3,J⟩:=oa (aos:=aos) (i:=i+1) (by omega);obtain⟨q1,q2⟩:=R.di _ p1 p2 J;rw[<-hH]at q1;obtain⟨k1,Z⟩:=SR.ahead hS q1;have g:Ext X.H.length X { d with H:=(st (phase aos (i+1))).heap }:=hx.trans (Z.mono hx.len);have I:Ext X0.H.length X0 { d with H:=(st (phase aos (i+1))).heap }:=s.ext.trans (g.mono s.ext.len);have K:¬ (D (phase aos (i+1))\/phase aos (i+1)=i):=by
  rintro(h|h)
  .rcases p3 with h1|⟨z,hz,l⟩
   .have:=s.dlt _ h;omega
   .exact x.oW s (R.before p1 x.hy hz (.inr ⟨oB hc (by simp[l]) (by simp[l]),λe=>absurd e (R.rT hz (by simp[l]))⟩)) h
  .omega
 have N:∀j,Bi aos j->j<phase aos (i+1)->D j\/j=i:=by
  intro j U hj;rcases asz j i with h|h|h
  .exact .inl (s.wD j U h)
  .exact .inr h
  .exact absurd U (J j h hj)
 have S:fN σ { d with H:=(st (phase aos (i+1))).heap } (st (phase aos (i+1))).defs a1.defers:=by rw[q2];exact hd.ext' Z
 have iJ:i≠eJ ops aos:=R.rT x.hy (by simp[hc]);have uc:∀j z,j<phase aos (i+1)->¬ (D j\/j=i)->aos[j]?=aa z->cls z.op=.a->(st (j+1)).heap.length≠(st j).heap.length->i<j/\d.cE (st j).heap.length=ab:=by
  intro j z hj hD hz l A;rcases asz j i with h|h|h
  .exact absurd (.inl (x.nV s (R.before h hz x.hy (.inr ⟨rA hc (by simp[l]) (by simp[l]),λe=>absurd e iJ⟩)))) hD
  .exact absurd (.inr h) hD
  .have F:=(R.di j h (by omega) λk h1 h2=>J k h1 (by omega)).1.len;rw[<-hH]at F;refine⟨h,?_⟩;cases m:d.cE (st j).heap.length with
   |none=>rfl| some L=>have:=SR.lt hS m;omega
 by_cases hP:∃z zs c p,i<=eJ ops aos/\eJ ops aos<phase aos (i+1)/\aos[eJ ops aos]?=aa z/\z.op=.alloc zs/\z.dst=aa p/\D (eJ ops aos)/\a.tmps.getD p.toNat undef=.pointer (aa ⟨c,0,ab⟩)/\X0.w.heap.size<=c/\jE σ X c zs
 .obtain⟨z,zs,c,p,g1,g2,g3,g4,g5,g6,g7,g8,g9⟩:=hP;obtain⟨s1,s2⟩:=R.ae5 g3 g4 g5;have M:i<eJ ops aos:=by omega
  have b_:(st (i+1)).heap.length<=(st (eJ ops aos)).heap.length:=(R.di _ M (by omega) λk h1 h2=>J k h1 (by omega)).1.len;obtain⟨fl,O⟩:∃fl,(st (phase aos (i+1))).heap[(st (eJ ops aos)).heap.length]?=aa (.box (zs.map .f) fl):=by
   have W:=(R.di (phase aos (i+1)) (show eJ ops aos+1<=_ by omega) p2 λk h1 h2=>J k (by omega) h2).1;rw[s1]at W;exact oJ W
  have c5:jE σ { d with H:=(st (phase aos (i+1))).heap } c zs:=g9.ext g;have c6:d.cE (st (eJ ops aos)).heap.length=ab:=by
   cases m:d.cE (st (eJ ops aos)).heap.length with
   |none=>rfl| some L=>have:=SR.lt hS m;rw[hH]at this;omega
  obtain⟨a8,q,a_⟩:=SR.assign k1 c5 O c6;refine⟨phase aos (i+1),{ d with H:=(st (phase aos (i+1))).heap,cE:=λb=>if b=(st (eJ ops aos)).heap.length then aa ⟨c,0⟩else d.cE b },rfl,R.fin s x a8 hB (I.assign q g8) (λv u h=>VR.eg σ q (VR.ext' σ g h)) ?_ (.inl (VR.eg σ q (VR.ext' σ Z hv))) ht B p2 p3 K N rfl (fN.eg q S) ?_⟩
  .intro z' c9 c' p' _ e2 _ e4 _ e6 _ _;rw[g3]at e2;cases e2;rw[g5]at e4;cases e4;rw[g7]at e6;simp only[Value.pointer.injEq,anc,Addr.mk.injEq,true_and,and_true]at e6;subst e6;rw[aR (by omega),s2];exact a_
  .intro j w hj hD hw Y A;obtain⟨f1,f2⟩:=uc j w hj hD hw Y A;show(if(st j).heap.length=(st (eJ ops aos)).heap.length then aa (⟨c,0⟩:Loc)else d.cE (st j).heap.length)=ab;rw[aR,f2];intro e;rcases asz j (eJ ops aos)with h|h|h
   .have h1:=(R.di (lo:=j+1) (eJ ops aos) h (by omega) λk h1 h2=>J k (by omega) (by omega)).1.len;have h2:=(oh (by simp[Y]) (R.step j w hw)).1.len;clear I g k1 Z;omega
   .exact hD (.inl (by rw[h];exact g6))
   .have h1:=(R.di (lo:=eJ ops aos+1) j h (by omega) λk h1 h2=>J k (by omega) (by omega)).1.len;rw[s1,ara]at h1;simp only[List.length_cons,List.length_nil]at h1;omega
 .refine⟨phase aos (i+1),{ d with H:=(st (phase aos (i+1))).heap },rfl,R.fin s x k1 hB I (λv u h=>VR.ext' σ g h) ?_ (.inl (VR.ext' σ Z hv)) ht B p2 p3 K N rfl S (λj z h1 h2 h3 h4 h5=>(uc j z h1 h2 h3 h4 h5).2)⟩;intro z zs c p g1 g2 g3 g4 g5 g6 g7 g8;by_cases F:phase aos (i+1)<=eJ ops aos
  .rw[bw F];exact g8.ext g
  .exact absurd ⟨z,zs,c,p,g1,by omega,g2,g3,g4,g5,g6,g7,g8⟩ hP
theorem iX.mS(R:iX Q σ call n ops aos iD st)(d:Inv Q σ X0 n ops aos st D E X a)(l:iW ops aos D i o y)(hc:cls y.op≠.w){b:Wd}{a1:Act}{u:Value}{v:V}(B:SR Q σ b)(x:b.B<=b.w.heap.size)(m:Ext X.H.length X b)
  (J:VR σ b v u\/(i=eJ ops aos/\E<=eJ ops aos/\∃zs c,y.op=.alloc zs/\u=.pointer (aa ⟨c,0,ab⟩)/\X0.w.heap.size<=c/\jE σ b c zs)) (I:a1.tmps=(a.put o.dst u).tmps) (g:(st (i+1)).aF=gV (st i).aF y.dst v) (A:b.H=X.H) (F:fN σ b (st E).defs a1.defers)
  (H:∀j z,j<E->¬ (D j\/j=i)->aos[j]?=aa z->cls z.op=.a->(st (j+1)).heap.length≠(st j).heap.length->b.cE (st j).heap.length=ab) :
  Inv Q σ X0 n ops aos st (λj=>D j\/j=i) E b a1:=by
 refine R.fin d l B x (d.ext.trans (m.mono d.ext.len)) (λv u h=>VR.ext' σ m h) (λz zs c p g1 _ _ _ _ _ _ g8=>by rw[bw g1];exact g8.ext m) J I g d.eN d.eW ?_ (λj h1 h2=>.inl (d.wD j h1 h2)) (A.trans d.heap) F H;rintro(h|h)
 .exact d.eD h
 .have hi:i<aos.length:=(aq4.1 l.hy).1;rcases d.eW with h1|⟨z,s,q⟩
  .omega
  .rw[h,l.hy]at s;cases s;exact hc q
theorem iX.gL(l:Inv Q σ X0 n ops aos st D E X a){b:Wd}(h:b.cE=X.cE):∀j z,j<E->¬ (D j\/j=i)->aos[j]?=aa z->cls z.op=.a->(st (j+1)).heap.length≠(st j).heap.length->b.cE (st j).heap.length=ab:=
 λj z h1 h2 h3 d g=>by rw[h];exact l.uc j z h1 (λh=>h2 (.inl h)) h3 d g
theorem iX.Am(R:iX Q σ call n ops aos iD st)(q:Inv Q σ X0 n ops aos st D E X a)(u:iW ops aos D i o y)(hc:cls y.op=.a)(H:i=eJ ops aos->i<E)(m:(st (i+1)).heap.length≠(st i).heap.length){j:Nat}{z:aN}(K:j<E)(hD:¬ (D j\/j=i))(B:aos[j]?=aa z)(d:cls z.op=.a)
  (g:(st (j+1)).heap.length≠(st j).heap.length):(st j).heap.length≠(st i).heap.length:=by
 have hi:i<aos.length:=(aq4.1 u.hy).1;obtain⟨g1,g2⟩:=R.Yd q u (by simp[hc]) (by simp[hc]) (by simp[hc]) H;have J:∀k,j<=k->k<E->¬ Bi aos k:=by
  intro k h1 h2 s;have l:=q.wD k s h2;obtain⟨w,v,x⟩:=s;rcases arI j k with h|h
  .exact hD (.inl (q.closed.below k l (R.before h B v (.inr ⟨rA x (by simp[d]) (by simp[d]),λ_=>by simp[d]⟩))))
  .have:k=j:=by omega
   subst this;exact hD (.inl l)
 have b:∀k w,aos[k]?=aa w->cls w.op=.a->(st (k+1)).heap.length≠(st k).heap.length->(st k).heap.length<(st (k+1)).heap.length:=by
  intro k w s A I;have:=(oh (by simp[A]) (R.step k w s)).1.len;omega
 rcases asz j i with h|h|h
 .have h1:=b j z B d g;have h2:(st (j+1)).heap.length<=(st i).heap.length:=(R.di i h (by omega) λk h3 F=>J k (by omega) (by omega)).1.len;omega
 .exact absurd (.inr h) hD
 .have h1:=b i y u.hy hc m;have h2:(st (i+1)).heap.length<=(st j).heap.length:=(R.di j h (by have:=q.eN;omega) λk h3 F=>g2 k (by omega) (by omega)).1.len;omega
end
section
variable{Q:Program}{σ:Nat->FuncId}{X:Wd}{call:dw}
variable{n:Nat}{ops:Array Oper}{aos:List aN}{iD:List (Nat × Nat)}{st:Nat->St}
variable{X0:Wd}{D:Nat->Prop}{E i:Nat}{a:Act}{o:Oper}{y:aN}
theorem AB{w':World}{q:Obj}(g:SR Q σ X)(d:dZ X.w w' q):SR Q σ { X with w:=w' }/\Ext X.H.length X { X with w:=w' }:=by
 have j:Ext X.H.length X { X with w:=w' }:=Ext.one g X.H.length rfl (λ_ _=>Iff.rfl) (λk m _=>d.yZ m)
  (λL i h=>by rw[SR.pU g]at h;simp at h) (λh=>absurd h (atv _)) (λ_ _ _=>rfl) (λ_ _=>rfl) (λL h=>.inl ⟨L,h,rfl⟩) (by show _<=w'.heap.size;rw[d.size];omega) d.os d.tape d.output
 refine⟨SR.step Q σ g j X.H.length (λ_ _=>rfl) (λ_ _=>rfl) (λb L _ l=>d.yZ (g.br b L l).2.1)
  (λ_ _ _ _ _ h=>h) (λL h=>by change X.cE X.H.length=aa L at h;rw[SR.pU g]at h;simp at h) (λc i h=>?_),j⟩
 have:=g.fb c i h;show c<w'.heap.size;rw[d.size];omega
theorem Zx{y:aN}{p:P}(h:p∈y.op.rd):p∈y.rd:=by unfold aN.rd;exact ard.2 (.inr h)
theorem Ba{y:aN}{p:P}{w:Bool}(h:y.g=aa (p,w)):p∈y.rd:=by unfold aN.rd;rw[h];simp
theorem iX.agX(hC:fo Q σ call)(R:iX Q σ call n ops aos iD st)(d:Inv Q σ X0 n ops aos st D E X a)(A:iW ops aos D i o y){b:Frame}{rest:List Nat}{k:List Item}{cs:List Frame}(hk:iq b cs)(i_:gu y.op b) :
  ∃E' X' a',Steps Q (lone (b.atR a (.inRegion ops (i::rest)::k)) cs X.w) (lone (b.atR a' (.inRegion ops rest::k)) cs X'.w)/\Inv Q σ X0 n ops aos st (λj=>D j\/j=i) E' X' a'/\a'.tmps.size=a.tmps.size:=by
 have hi:i<aos.length:=(aq4.1 A.hy).1;obtain⟨o',d9,hm⟩:=R.at A.hy;rw[A.ho]at d9;cases d9;have g:=R.step i y A.hy;have S:∀p∈y.rd,VR σ X ((st i).aF.get p) (a.tmps.getD p.toNat undef):=λp hp=>R.reads d A hp;have l:dV Q σ o y.op=ae:=by simp only[kn,aq3]at hm;exact hm.1.1
 have K:∀u,(a.put o.dst u).tmps.size=a.tmps.size:=λu=>by cases o.dst<;>simp[Act.put]
 have J:∀(a:Act) u,(a.put o.dst u).defers=a.defers:=λa u=>by cases o.dst<;>rfl
 have f_:∀(a a':Act) u,a'.tmps=a.tmps->(a'.put o.dst u).tmps=(a.put o.dst u).tmps:=λa a' u h=>by cases o.dst<;>simp[Act.put,h]
 unfold fh at g;split at g
 .rename_i c9;have hw:=nA hm (aF:=(st i).aF) (tmps:=a.tmps) (X:=X) (λp w' hg=>S p (Ba hg)) d.size c9;split at g
  .rename_i v s1 h1;simp only[anc]at g;have B:(st (i+1)).aF=gV (st i).aF y.dst v:=by rw[<-g,<-uY h1]
   have q:(st (i+1)).heap=s1.heap:=by rw[<-g]
   have N:(st (i+1)).defs=s1.defs:=by rw[<-g]
   have F:∀p∈y.op.rd,(st i).aF.get p=(gK (st i).aF y.op.rd).get p:=λp hp=>by rw[sw,bw hp]
   have Z:RR σ X (gK (st i).aF y.op.rd) a.tmps:=λp=>by
    rw[sw];split
    .rename_i hp;exact S p (Zx hp)
    .trivial
   have M:=BW F h1;by_cases m:cls y.op=.w
   .have a_:=R.aly d A m;obtain⟨g1,g2⟩:=BV hC d.sr d.b (s:={ st i with aF:=gK (st i).aF y.op.rd }) (by rw[d.heap,<-a_]) Z (by rw[a_];exact d.defs) l M;obtain⟨X1,u,a1,k1,⟨k2,k3,k4,k5,k6⟩,k7,k8⟩:=g1 b ops i rest k cs A.ho hw hk i_;obtain⟨E',X2,q1,q2⟩:=R.AV d A m (a1:=a1.put o.dst u) k3 k6 k5 k4 (f_ a a1 u k7) B (by rw[k2,q]) (by rw[N,J];exact k8);exact⟨E',X2,a1.put o.dst u,by rw[q1];exact k1,q2,by rw[f_ a a1 u k7,K]⟩
   .
    have i9:∀c,o.op≠.defer c:=oO l (λx xs e=>m (by rw[e];rfl)) (λe=>by rw[e]at h1;simp[eH,bG]at h1);have one:∀{u:Value} {w':World},(execOp a.eval o).run Q X.w=.ok (.value u) w'->Steps Q (lone (b.atR a (.inRegion ops (i::rest)::k)) cs X.w) (lone (b.atR (a.put o.dst u) (.inRegion ops rest::k)) cs w'):=by
     intro u w' b7;refine .one (step_lone_go ?_);rw[stepGR_op A.ho hw,Oper.semAt_eq _ _ _ i9];have a8:=Frame.finish_atR b a ops i rest k u;rw[A.ho]at a8;simp only[arG]at a8;rw[<-a8];simp[stepG.apply,Sem.runT_eq,b7]
    by_cases H:cls y.op=.c
    .
     obtain⟨f,xs,c6⟩:∃f xs,y.op=.call f xs ag:=by
      generalize y.op=op at H;cases op<;>first|(simp only[cls,reduceCtorEq]at H;done)|skip
      rename_i f xs hh;cases hh
      .exact⟨f,xs,rfl⟩
      .simp[cls]at H
     have I:=Z;rw[c6]at M l I;simp only[eH,gv,arq,if_false,aq5,aq8]at M;obtain⟨⟨v',H'⟩,hp,rfl,e_⟩:=M;have i8:H'=(st (i+1)).heap:=by
      rw[q];simp only[St.mk.injEq]at e_;exact e_.2.2
     obtain⟨g1,g2⟩:=R.Yd d A (by simp[H]) (by simp[H]) (by simp[H]) (λe=>absurd e (R.rT A.hy (by simp[H])));have d5:dp H' X.H:=by
      rw[i8,d.heap];exact(R.di E g1 d.eN λj h1 h2=>g2 j (by omega) h2).1
     obtain⟨X1,u,k1,⟨k2,k3,k4,k5,k6⟩,k7⟩:=vj hC d.sr d.b I l hp d5 b ops i rest k cs A.ho hw;exact⟨E,X1,a.put o.dst u,k1,R.mS d A m k3 k6 k5 (.inl k4) rfl B k2 (by rw[J];exact d.defs.ext' k5) (iX.gL d k7),K u⟩
    .have hx:(bG (gK (st i).aF y.op.rd) (st i).heap y.op)=aa (v,s1.heap):=by
      have c5:¬ ((∃f xs h,y.op=.call f xs h)\/(∃x xs h,y.op=.bZ x xs h)\/y.op=.recover\/∃x xs,y.op=.defer x xs):=by
       rintro(⟨f,xs,hh,e⟩|⟨x,xs,hh,e⟩|e|⟨x,xs,e⟩)<;>rw[e]at m H
       .cases hh
        .exact H rfl
        .exact m rfl
       .exact m rfl
       .exact m rfl
       .exact m rfl
      have hx:(bG (gK (st i).aF y.op.rd) (st i).heap y.op).map (λr=>(r.1,({ st i with aF:=gK (st i).aF y.op.rd,heap:=r.2 }:St)))=aa (v,{ s1 with aF:=gK (st i).aF y.op.rd }):=by
       generalize gK (st i).aF y.op.rd=r at M;generalize y.op=op at M c5;cases op<;>first|exact M|(exfalso;apply c5;simp)
      simp only[aq5,aq8,St.mk.injEq]at hx;obtain⟨⟨v',H'⟩,h2,rfl,_,_,h3⟩:=hx;rw[h2];simp only at h3;rw[h3]
     by_cases Y:cls y.op=.a
     .by_cases U:i=eJ ops aos/\E<=i
      .
       obtain⟨d7,i7⟩:=U;obtain⟨⟨zs,c6⟩,_,_⟩:=R.ord.ear y (show aos[eJ ops aos]?=aa y from d7▸A.hy);have d8:=hx;rw[c6]at d8 l;simp only[bG,anc,aq8]at d8;obtain⟨rfl,_⟩:=d8;simp only[dV]at l;split at l
       .rename_i t ho;obtain⟨z,us,g_,h_,i6,_⟩:=eV (σ:=σ) (X:=X) l X.w;have b7:(execOp a.eval o).run Q X.w=.ok (.value (.pointer (aa ⟨X.w.heap.size,0,ab⟩))) (X.w.alloc (.cells us.toArray t)):=by
         simp only[execOp,ho];refine er ?_;simp[Instr.alloc,g_,newVar,newRow,h_]
        obtain⟨e1,e2⟩:=AB d.sr (dZ.alloc X.w (.cells us.toArray t));refine⟨E,{ X with w:=X.w.alloc (.cells us.toArray t) },a.put o.dst (.pointer (aa ⟨X.w.heap.size,0,ab⟩)),one b7,R.mS d A m e1 (by have:=d.b;simp;omega) e2 (.inr ⟨d7,by rw[<-d7];exact i7,zs,X.w.heap.size,c6,rfl,d.ext.size,?_⟩) rfl B rfl (by rw[J];exact d.defs.ext' e2) (iX.gL d rfl),K _⟩;exact⟨⟨us,t,(dZ.alloc X.w (.cells us.toArray t)).new,A2.ext' σ e2 i6⟩,d.b,λb L hb=>by have:=(d.sr.br b L hb).2.1;omega,λj hj=>by have:=d.sr.fb _ j hj;omega⟩
       .simp at l
      have hJ:i=eJ ops aos->i<E:=λe=>by
       rcases arI i E with h|h
       .exact h
       .exact absurd ⟨e,h⟩ U
      obtain⟨g1,g2⟩:=R.Yd d A (by simp[Y]) (by simp[Y]) (by simp[Y]) hJ;have d5:dp s1.heap X.H:=by
       rw[<-q,d.heap];exact(R.di E g1 d.eN λj h1 h2=>g2 j (by omega) h2).1
      obtain⟨X1,u,k1,⟨k2,k3,k4,k5,k6⟩,k7,k8⟩:=afF d.sr d.b Z Y l hx d5 (λc5=>d.uc i y g1 A.hD A.hy Y (by rw[q];exact c5));refine⟨E,X1,a.put o.dst u,one k1,R.mS d A m k3 k6 k5 (.inl k4) rfl B k2 (by rw[J];exact d.defs.ext' k5) ?_,K u⟩;by_cases c_:(st (i+1)).heap.length=(st i).heap.length
      .exact iX.gL d (k8 (by rw[<-q];exact c_))
      .intro j z h2 h3 h4 h5 h6;rw[k7 _ (R.Am d A Y hJ c_ h2 h3 h4 h5 h6)];exact d.uc j z h2 (λh=>h3 (.inl h)) h4 h5 h6
     .
      have d_:cls y.op=.p\/cls y.op=.r:=by cases b_:cls y.op<;>simp_all
      have j7:bG (st i).aF (st i).heap y.op=aa (v,s1.heap):=by rw[AK F];exact hx
      have f9:bG (gK (st i).aF y.op.rd) X.H y.op=aa (v,X.H):=by
       rcases d_ with b_|b_
       .have:=ahu (r:=gK (st i).aF y.op.rd) b_ (st i).heap X.H;rw[hx]at this;simpa using this
       .rw[<-AK F];exact(R.aqd d A b_ c9 j7).2
      cases d6:y.op.fsl
      case true=>
       have O:=l;have W:=f9;have I:=Z;obtain⟨rg,j4⟩:=aQ (gK (st i).aF y.op.rd);rw[<-j4]at W I;revert O W;generalize y.op=op at d6;cases op<;>simp only[dn.fsl,reduceCtorEq]at d6;intro O W;obtain⟨_,u,X1,k1,k2,k3,k4,k5,k6,k7⟩:=tZ d.sr d.b I O W;exact⟨E,X1,a.put o.dst u,one k1,R.mS d A m k3 k6 k5 (.inl k4) rfl B k2 (by rw[J];exact d.defs.ext' k5) (iX.gL d k7),K u⟩
      obtain⟨_,u,k1,k2⟩:=ahn d.sr Z l d_ d6 f9;exact⟨E,X,a.put o.dst u,one k1,R.mS d A m d.sr d.b (Ext.refl _ _) (.inl k2) rfl B rfl (by rw[J];exact d.defs) (iX.gL d rfl),K u⟩
  .simp at g
 .rename_i c9;have hw:=nA hm (aF:=(st i).aF) (tmps:=a.tmps) (X:=X) (λp w' hg=>S p (Ba hg)) d.size c9;simp only[anc]at g;have B:(st (i+1)).aF=gV (st i).aF y.dst (.t []):=by rw[<-g]
  have q:(st (i+1)).heap=(st i).heap:=by rw[<-g]
  have N:(st (i+1)).defs=(st i).defs:=by rw[<-g]
  have f8:Steps Q (lone (b.atR a (.inRegion ops (i::rest)::k)) cs X.w) (lone (b.atR (a.put o.dst undef) (.inRegion ops rest::k)) cs X.w):=by
   refine .one ?_;have:=stepR_op_skip (P:=Q) (b:=b) (a:=a) (k:=k) (cs:=cs) (w:=X.w) (ops:=ops) (i:=i) (rest:=rest) (by simp[A.ho,hw]);rw[A.ho]at this;exact this
  by_cases m:cls y.op=.w
  .have a_:=R.aly d A m;obtain⟨E',X2,q1,q2⟩:=R.AV d A m (a1:=a.put o.dst undef) d.sr d.b (Ext.refl _ _) VR.undef rfl B (by rw[d.heap,q,a_]) (by rw[N,J,a_];exact d.defs);exact⟨E',X2,a.put o.dst undef,by rw[q1];exact f8,q2,K _⟩
  .exact⟨E,X,a.put o.dst undef,f8,R.mS d A m d.sr d.b (Ext.refl _ _) (.inl VR.undef) rfl B rfl (by rw[J];exact d.defs) (iX.gL d rfl),K _⟩
 .simp at g
end
end Km
