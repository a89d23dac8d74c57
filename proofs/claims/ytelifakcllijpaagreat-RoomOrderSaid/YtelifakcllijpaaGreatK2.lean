/-
  Our own small machine for Go code by value, held BU the model: part 2. No program in R6.
-/
import Derived.Test.YtelifakcllijpaaGreatK1
import Derived.AtR
import Derived.RangeFuncIn
import Derived.RangeFuncRecord
import Derived.Conc.MuLone
import Derived.Orders
open Option renaming some->aa,none->ab
open Bool renaming true->ae,false->ag
open Option.some renaming injEq->AT
open List renaming getElem?_eq_some_iff->OF, length_append->aft, getElem?_append_left->AI, length_drop->agF, eq_nil_of_length_eq_zero->agC, getElem?_toArray->aic, getElem?_cons_zero->ag2, getElem?_cons_succ->agX, getElem?_set_ne->sh, getElem?_eq_getElem->By, foldl_cons->aid, mem_cons->agA, getElem_mem->IN, getElem?_map->ahp, getElem?_of_mem->ahI, drop_eq_getElem_cons->ags, mem_flatMap->ais, mem_append->agl, mem_map->agt, getElem?_drop->ahk, all_eq_true->agJ, mem_of_getElem?->agU, mem_filter->agT
open Nat renaming mul_le_mul_right->ag9, le_refl->agn, lt_irrefl->aiu, add_mul->agS, mul_eq_zero->aiz, zero_add->ahg, le_max_left->ahc, le_trans->agK, le_max_right->ag4, lt_or_ge->ahj, lt_of_lt_of_le->ahz, lt_trichotomy->ah6, zero_le->ahN
open Bool renaming and_eq_true->IS, false_eq_true->agH, not_eq_true'->ahP
open Prod.mk renaming injEq->agk
open Int renaming toNat_natCast->agD
open Option renaming map_eq_some_iff->IT, map_some->ag1, bind_some->ag8, getD_some->aiU
set_option linter.unusedVariables false
set_option linter.constructorNameAsVariable false
set_option linter.unusedSimpArgs false
set_option linter.unusedSectionVars false
set_option maxRecDepth 100000
namespace Km
open Go
section
variable{Q:Program}{σ:Nat->FuncId}{X:Wd}
theorem RF{d:Type}(us rest b:List d)(h:b.length<=rest.length):over (us++rest) us.length b=us++b++rest.drop b.length:=by
 unfold over;simp
theorem ZH(K:SR Q σ X){b sz:Nat}{cs:List C}{fl j:Nat}{L:Loc}(z:X.H[b]?=aa (.dj sz cs fl j .loc))(y:X.di b=aa L){ys:List C}{m:List Value}(H:A2 (CR σ X) ys m)(W:fl<=cs.length)
  {n:Nat} (Y:cs.length+ys.length=n*sz) (q:n<=L.cap):∃X',(storeCells ⟨L.c,cs.length,ab⟩ m).run Q X.w=.ok () X'.w/\X'.H=X.H.set b (.dj sz (cs++ys) fl (j+1) .loc)/\SR Q σ X'/\
   Ext X.H.length X X'/\VR σ X' (.c (.sl b 0 n 0 (j+1) sz)) (.slice (aa ⟨L.c,0,ab⟩) n L.cap)/\X'.w.heap.size=X.w.heap.size/\X'.B=X.B:=by
 obtain⟨_,_,cP,l,A⟩:=K.br b L y;rw[z]at l;simp only[AT]at l;subst l;obtain⟨_,us,rest,B,I,J,U,h,N⟩:=A;have s:b<X.H.length:=(OF.1 z).1;have Z:=H.len;have g:=I.len;have F:n*sz<=L.cap*sz:=ag9 sz q;have E:m.length<=rest.length:=by simp only[aft]at J;omega
 obtain⟨M,a,c,e,f,x⟩:=lS B m cs.length ge;rw[g,RF _ _ _ E]at x;rw[<-g]at x;obtain⟨O,S⟩:=SR.turn K (blk':=.dj sz (cs++ys) fl (j+1) .loc) z y M a (λi k=>by
   have hi:i<fl:=by
    grind
   have:=fC x i;rw[g]at this ⊢;rw[this,fC B,List.append_assoc,AI ap,AI ap]) c e f
  (λcP d=>⟨.dj sz (cs++ys) fl (j+1) .loc,by simp[s],by rw[z]at d;simp only[AT]at d;subst d;exact⟨rfl,.inr ⟨ap,rfl,L,y⟩⟩⟩)
  (λv=>⟨rfl,us++m,rest.drop m.length,by rw[g]at x ⊢;exact x,(A2.ext' σ v I).append (A2.ext' σ v H),by simp only[aft,agF]at J ⊢;omega,U,⟨n,by simpa using Y⟩,N⟩)
 refine⟨_,uY B m cs.length ge (A2.one H),rfl,O,S,?_,M,rfl⟩;have u:(X.H.set b (.dj sz (cs++ys) fl (j+1) .loc))[b]?=aa (.dj sz (cs++ys) fl (j+1) .loc):=by simp[s]
 simp only[VR,jO,CR,iL,u];exact⟨agn _,λ_ _=>⟨L,y,0,ap,ap,bv⟩,_,_,_,rfl⟩
theorem Cl{c:Call}{sz bytes:Nat}{x y:Arg}(h:fo Q σ c (.append sz bytes x y)=ae):∃u v t l e,c.callee=.builtin .append/\c.args=#[u,v]/\c.argTypes=#[t,l]/\mA σ x u=ae/\mA σ y v=ae/\
  abp Q t l e sz bytes:=by
 simp only[fo]at h;split at h
 .rename_i u v t l A B E;simp only[IS]at h;obtain⟨⟨⟨I,J⟩,j⟩,F⟩:=h;obtain⟨e,H,j⟩:=kh j;simp only[IS,decide_eq_true_eq]at j;obtain⟨⟨⟨q,m⟩,d⟩,g⟩:=j;have s:∃i z,Q.info? e=aa i/\i.zero=aa z/\z.cells.size=sz:=by
   cases hi:Q.info? e with
   |none=>simp[hi]at g
   |some i=>
    simp only[hi,Option.any_some]at g;cases b:i.zero with
    |none=>simp[b]at g| some z=>simp[b]at g;exact⟨i,z,rfl,b,g⟩
  refine⟨u,v,t,l,e,A,Te B,Te E,I,J,⟨H,?_,q,m,d,s⟩⟩
  grind
 .simp at h
theorem KK(N:SR Q σ X)(hB:X.B<=X.w.heap.size){a:Act}{aN:T}(hR:RR σ X aN a.tmps){o:Oper}{sz bytes:Nat}{x y:Arg}(hm:fk Q σ o (.append sz bytes x y)=ae){v:V}{H':an}
  (h:cm aN X.H (.append sz bytes x y)=aa (v,H')):jN Q σ X v H' (execOp a.eval o):=by
 simp only[fk]at hm;split at hm
 .rename_i c ho;obtain⟨u,v',t,t',e,h1,h2,h3,U,hy,ht⟩:=Cl hm;have U:=cK hR U;have hy:=cK hR hy;simp only[cm]at h;generalize r6:a.eval u=ux at U;generalize r7:a.eval v'=uy at hy;generalize x.ev aN=vx at U h;generalize y.ev aN=vy at hy h;have Z:∀(r:Value) (w':World),(Builtin.append_ #[t,t'] o.type #[ux,uy]).run Q X.w=.ok r w'->(execOp a.eval o).run Q X.w=.ok (.value r) w':=by
   intro r w' hr;refine eM ho h1 λcs=>?_;simp[builtin,h2,h3,r6,r7,hr]
  unfold bT at h;split at h
  .simp at h
  rename_i m ys h_;rw[ct (by have:=ht.pos;omega)]at h;obtain⟨vs,c9,b_,d_,g_⟩:=Di N hy h_;obtain⟨O,j7⟩:=SR.drew N;obtain⟨Y,_,e_,l_,_⟩:=Di O (VR.ext' σ j7 hy) h_;have A:A2 (CR σ X) ys Y:=by
   have d9:Ext X.H.length { X with w:=X.w.drew } X:=Ext.one O X.H.length rfl (λ_ _=>Iff.rfl) (λ_ _ _=>rfl) (λ_ _ _ _=>rfl) (λh=>absurd h (aiu _))
    (λ_ _ _=>rfl) (λ_ _=>rfl) (λL h=>.inl ⟨L,h,rfl⟩) (agn _) rfl rfl rfl
   exact A2.ext' σ (X:={ X with w:=X.w.drew }) d9 l_
  have a_:∀{base:Option Addr} {l cap:Nat} {os:List Value} {cs:List C},ux=.slice base l cap->¬ l+m<=cap->cD (l+m) bytes=ae->
    (Builtin.firstCells sz l (.slice base l cap)).run Q X.w.drew=.ok os.toArray X.w.drew->A2 (CR σ X) cs os->cs.length=l*sz->
    jN Q σ X (.c (.sl X.H.length 0 (l+m) 0 0 sz)) (X.H++[.dj sz (cs++ys) 0 0 .loc]) (execOp a.eval o):=by
   intro base l cap os cs hu j_ d o_ n_ n9;obtain⟨nc,rest,w',H,j,g,I⟩:=(mu ht o.type (base:=base) (l:=l) (cap:=cap) c9 b_).2 j_ d os Y o_ e_;obtain⟨X',J,F,K,M,g5,g6⟩:=Rn N hB ht.pos (cs:=cs++ys) (us:=os++Y) (n_.append A) (n:=l+m) (nc:=nc) (by rw[aft,n9,g_,agS]) I H g;exact⟨_,X',.inl (by rw[J];exact Z _ _ (by rw[hu];exact j)),F,K,g5,M,g6⟩
  have q:∀{base:Option Addr} {l cap:Nat} {X':Wd},ux=.slice base l cap->l+m<=cap->(uW base (l*sz) vs).run Q X.w=.ok () X'.w->
    (execOp a.eval o).run Q X.w=.ok (.value (.slice base (l+m) cap)) X'.w:=by
   intro base l cap X' hu z r5;refine Z _ _ ?_;rw[hu,(mu ht o.type (base:=base) (l:=l) (cap:=cap) c9 b_).1 z,r5];rfl
  split at h
  .
   cases (U:dC σ X.F X.w .aJ ux);split at h
   .rename_i S;subst S;simp only[AT,agk]at h;obtain⟨rfl,rfl⟩:=h;exact⟨_,X,.inl (q (X':=X) rfl ap rfl),rfl,N,dC.aJ,Ext.refl _ _,hB⟩
   .split at h
    .rename_i d;simp only[AT,agk]at h;obtain⟨rfl,rfl⟩:=h;have:=a_ (base:=ab) (l:=0) (cap:=0) (os:=[]) (cs:=[]) rfl ap (by simpa using d) (by simp[Builtin.firstCells]) A2.nil bv;simp_all
    .simp_all
  .
   cases (U:dC σ X.F X.w .es ux);rename_i ad;split at h
   .rename_i S;subst S;simp only[AT,agk]at h;obtain⟨rfl,rfl⟩:=h;have j5:vs=[]:=agC (by rw[<-d_.len,g_];simp);exact⟨_,X,.inl (q (X':=X) rfl ap (by rw[j5];rfl)),rfl,N,dC.es _,Ext.refl _ _,hB⟩
   .split at h
    .rename_i d;simp only[AT,agk]at h;obtain⟨rfl,rfl⟩:=h;have:=a_ (base:=aa ad) (l:=0) (cap:=0) (os:=[]) (cs:=[]) rfl ap (by simpa using d) (by simp[Builtin.firstCells,loadCells,loadCellsFrom]) A2.nil bv;simp_all
    .simp_all
  .rename_i b W l cap ep s;have j6:CR σ X (.sl b W l cap ep s) ux:=U;simp only[VR,jO,CR,iL]at U;split at h
   .
    rename_i cs fl E;rw[E]at U;obtain⟨L,hL,s7,rfl⟩:=U;split at h
    .rename_i z;split at h
     .rename_i hc;simp only[AT,agk]at h;obtain⟨rfl,rfl⟩:=h;obtain⟨X',J,F,K,M,g5,g6,g7⟩:=Fa N E hL d_ hc.1 hc.2;refine⟨_,X',.inl (q rfl z (by simp only[uW,fK];exact J)),F,K,?_,M,ap⟩;have c_:X'.H[b]?=aa (.box (over cs (W+l*sz) ys) fl):=by rw[F];simp[(OF.1 E).1]
      simp only[VR,jO,CR,iL,c_];simp_all
     .simp_all
    .rename_i j_;split at h
     .rename_i hc;simp only[AT,agk]at h;obtain⟨rfl,rfl⟩:=h;have i9:dg X.H sz (.sl b W l cap ep s)=aa ((cs.drop W).take (l*sz)):=by simp[dg,E,hc.2]
      have i_:bh X.H (.sl b W l cap ep s)=aa l:=by simp[bh,E]
      obtain⟨os,q1,q2,q3⟩:=oH O (CR.ext' σ j7 j6) i_ i9;have m9:A2 (CR σ X) ((cs.drop W).take (l*sz)) os:=by
       have d9:Ext X.H.length { X with w:=X.w.drew } X:=Ext.one O X.H.length rfl (λ_ _=>Iff.rfl) (λ_ _ _=>rfl) (λ_ _ _ _=>rfl) (λh=>absurd h (aiu _))
        (λ_ _ _=>rfl) (λ_ _=>rfl) (λL h=>.inl ⟨L,h,rfl⟩) (agn _) rfl rfl rfl
       exact A2.ext' σ (X:={ X with w:=X.w.drew }) d9 q2
      simp_all
     .simp_all
   .
    rename_i s' cs fl e' st E;rw[E]at U;split at h
    .rename_i hc;obtain⟨rfl,rfl,rfl⟩:=hc;have f_:=U.2.1 rfl rfl;split at h
     .
      rename_i S;subst S;simp only[AT,agk]at h;obtain⟨rfl,rfl⟩:=h;have j5:vs=[]:=agC (by rw[<-d_.len,g_];simp);obtain⟨base,n,cp,i6⟩:=U.2.2;have q_:n=l/\l<=cp:=by
       grind
      obtain⟨rfl,r_⟩:=q_;refine⟨.slice base (n+0) cp,X,.inl (q (X':=X) i6 ap (by rw[j5];cases base<;>rfl)),rfl,N,?_,Ext.refl _ _,hB⟩;rw[Nat.add_zero,<-i6];exact j6
     .rename_i S;split at h
      .
       rename_i hc;obtain⟨rfl,B,j8⟩:=hc;split at h
       .rename_i d;simp only[AT,agk]at h;obtain⟨rfl,rfl⟩:=h;have hn:cs.length+ys.length=(l+m)*s:=by rw[g_,<-B,agS]
        cases st with
        |loc=>
         obtain⟨L,hL,k,p_,hk,rfl⟩:=f_;have k_:k=0:=by
          rcases aiz.1 p_.symm with h8|h8
          .omega
          .have:=ht.pos;omega
         subst k_;rw[Nat.sub_zero]at *;by_cases z:l+m<=L.cap
         .obtain⟨X',J,F,K,M,g5,g6,g7⟩:=ZH N E hL d_ j8 hn z;exact⟨_,X',.inl (q rfl z (by simp only[uW,fK];rw[B,ahg];exact J)),F,K,g5,M,ap⟩
         .have i9:dg X.H s (.sl b 0 l cap ep s)=aa ((cs.drop 0).take (l*s)):=by simp[dg,E,B]
          have i_:bh X.H (.sl b 0 l cap ep s)=aa l:=by simp[bh,E]
          obtain⟨os,q1,q2,q3⟩:=oH O (CR.ext' σ j7 j6) i_ i9;have m9:A2 (CR σ X) cs os:=by
           have d9:Ext X.H.length { X with w:=X.w.drew } X:=Ext.one O X.H.length rfl (λ_ _=>Iff.rfl) (λ_ _ _=>rfl) (λ_ _ _ _=>rfl) (λh=>absurd h (aiu _))
            (λ_ _ _=>rfl) (λ_ _=>rfl) (λL h=>.inl ⟨L,h,rfl⟩) (agn _) rfl rfl rfl
           have:=A2.ext' σ (X:={ X with w:=X.w.drew }) d9 q2
           grind
          obtain⟨nc,rest,w',H,j,g,I⟩:=(mu ht o.type (base:=aa ⟨L.c,0,ab⟩) (l:=l) (cap:=L.cap) c9 b_).2 z d os Y q1 e_;obtain⟨X',J,F,K,M,g5,g6⟩:=Cc N hB E m9 A ht.pos hn I H g;exact⟨_,X',.inl (by rw[J];exact Z _ _ (by simpa using j)),F,K,g5,M,g6⟩
        |nil=>
         obtain⟨_,rfl,rfl⟩:=f_;have i8:cs=[]:=agC (by simpa using B.symm);subst i8;obtain⟨nc,rest,w',H,j,g,I⟩:=(mu ht o.type (base:=ab) (l:=0) (cap:=0) c9 b_).2 ap d [] Y (by simp[Builtin.firstCells]) e_;obtain⟨X',J,F,K,M,g5,g6⟩:=Cc N hB E (us:=[]) A2.nil A ht.pos hn I H g;exact⟨_,X',.inl (by rw[J];exact Z _ _ j),F,K,g5,M,g6⟩
        |es=>
         obtain⟨_,rfl,ad,rfl⟩:=f_;have i8:cs=[]:=agC (by simpa using B.symm);subst i8;obtain⟨nc,rest,w',H,j,g,I⟩:=(mu ht o.type (base:=aa ad) (l:=0) (cap:=0) c9 b_).2 ap d [] Y (by simp[Builtin.firstCells,loadCells,loadCellsFrom]) e_;obtain⟨X',J,F,K,M,g5,g6⟩:=Cc N hB E (us:=[]) A2.nil A ht.pos hn I H g;exact⟨_,X',.inl (by rw[J];exact Z _ _ j),F,K,g5,M,g6⟩
       .simp_all
      .split at h
       .
        rename_i hc;obtain⟨rfl,j9,p9⟩:=hc;simp only[AT,agk]at h;obtain⟨rfl,rfl⟩:=h;obtain⟨L,hL,k,rfl,hk,rfl⟩:=f_;obtain⟨_,_,cP,i7,n8⟩:=N.br b L hL;rw[E]at i7;simp only[AT]at i7;subst i7;obtain⟨_,us,rest,hr,m_,h6,h7,h8,r9⟩:=n8;have z:l+m<=L.cap-k:=by
         have e1:(k+(l+m))*s<=L.cap*s:=by
          rw[agS,agS];have:=m_.len
          grind
         have:=Nat.le_of_mul_le_mul_right e1 h7;omega
        obtain⟨X',J,F,K,M,g5,g6,g7⟩:=Fb N E hL d_ j9 p9;refine⟨_,X',.inl (q rfl z (by simp only[uW,fK];exact J)),F,K,?_,M,ap⟩;have c_:X'.H[b]?=aa (.dj s (over cs (k*s+l*s) ys) fl ep .loc):=by rw[F];simp[(OF.1 E).1]
        simp only[VR,jO,CR,iL,c_]
        grind
       .simp_all
    .simp_all
   .simp at h
  .simp at h
 .simp at hm
end
section
variable{Q:Program}{σ:Nat->FuncId}{X:Wd}
theorem GV{c:Call}{sz bytes:Nat}{zs:List FC}{x y:Arg}(h:fo Q σ c (.rD sz bytes zs x y)=ae):∃u v t j e k,c.callee=.builtin .append/\c.args=#[u,v]/\c.argTypes=#[t,j]/\mA σ x u=ae/\mA σ y v=ae/\
  Q.underlying t=aa (.slice e)/\eB Q e sz=ae/\qd Q e bytes=ae/\0<sz/\nX Q e zs=ae/\Q.underlying j=aa (.int k):=by
 simp only[fo]at h;split at h
 .rename_i u v t j q s z;simp only[IS]at h;obtain⟨⟨⟨E,F⟩,g⟩,d⟩:=h;obtain⟨e,B,g⟩:=kh g;simp only[IS,decide_eq_true_eq]at g;obtain⟨⟨⟨m,l⟩,b⟩,H⟩:=g;split at d
  .rename_i k A;exact⟨u,v,t,j,e,k,q,Te s,Te z,E,F,B,m,l,b,H,A⟩
  .simp at d
 .simp at h
theorem Sv{n:Nat}(h:n<2 ^ 48):IntKind.i64.wrap (n:Int)=n:=by
 simp only[IntKind.wrap,IntKind.bits,IntKind.signed]
 grind
theorem yP{t Y e:TypeId}{sz bytes:Nat}{k k':IntKind}(c:Q.underlying t=aa (.slice e))(y:Q.underlying Y=aa (.int k))(v:eB Q e sz=ae)(E:qd Q e bytes=ae)(a:0<sz)
  {z:Value} {us:List Value} {i:TypeInfo} (hi:Q.info? e=aa i) (o:i.zero=aa z) (S:z.cells=us.toArray) (M:us.length=sz) (f:TypeId) {base:Option Addr} {n:Nat} {w:World} :
  (n=0->(Builtin.append_ #[t,Y] f #[.slice base 0 0,.int k' (n:Int)]).run Q w=.ok (.slice base 0 0) w)/\
  (n≠0->cD n bytes=ae->∃nc rest w',n<=nc/\(Builtin.append_ #[t,Y] f #[.slice base 0 0,.int k' (n:Int)]).run Q w=.ok (.slice (aa ⟨w.heap.size,0,ab⟩) n nc) w'/\
   fA w w' (.cells (dJ n us++rest).toArray e)/\rest.length=(nc-n)*sz):=by
 obtain⟨g,l,B⟩:=CI E w;have s:g=i:=by simp[typeInfo,hi]at l;exact l.symm
 subst s;have x:∀w',(typeInfo e).run Q w'=.ok g w':=λw'=>by simp[typeInfo,hi]
 have X:∀w',(zeroValue e).run Q w'=.ok z w':=λw'=>by simp[zeroValue,typeInfo,hi,o]
 have j:∀(q:Int) w',(asInt (.int k' q)).run Q w'=.ok q w':=λq w'=>by simp[asInt,asIntOf]
 constructor
 .rintro rfl;have N:IntKind.i64.wrap 0=0:=by decide
  simp only[Builtin.append_,aic];simp[bI c,bI y,dS v,x,j,N];cases base<;>simp[storeCells]
 .intro p b;have A:=b;unfold cD at b;simp only[IS,decide_eq_true_eq]at b;have O:=Sv b.2;have J:¬ (Builtin.nextslicecap n 0*g.bytes>2 ^ 48):=by
   rw[B];have:=yd (need:=n) (cap:=0) ap;have:=ag9 bytes this;omega
  let nc:=(Question.appendCap n 0 e).cut (w.tape w.drawn (.appendCap n 0 e))
  have K:n<=nc:=by simp[nc,Question.cut]
  have F:(choose (.appendCap n 0 e)).run Q w=.ok nc w.drew:=by
   rfl
  have W:∀m,Builtin.zeroCells z.cells m=(dJ m us).toArray:=λm=>by
   have:=kQ us m ap;simpa[Builtin.zeroCells,S]using this
  have u:¬ ((n:Int)>IntKind.i64.max):=by
   have:IntKind.i64.max=9223372036854775807:=by decide
   omega
  have H:¬ ((n:Int)<0):=by omega
  have I:¬ ((n:Int)*(g.bytes:Int)>2 ^ 48):=by
   grind
  have d:(Builtin.firstCells sz 0 (.slice base 0 0)).run Q w.drew=.ok #[] w.drew:=by
   cases base<;>simp[Builtin.firstCells,loadCells,loadCellsFrom]
  have L:¬ (n*sz=0):=by
   intro h;rcases aiz.1 h with h|h<;>omega
  refine⟨nc,dJ (nc-n) us,w.drew.alloc (.cells (dJ n us++dJ (nc-n) us).toArray e),K,?_,⟨rfl,rfl,rfl,rfl⟩,by rw[nT,M]⟩;have U:¬ (n<=0):=by omega
  have hint:((n:Int)).toNat=n:=by simp
  simp only[Builtin.append_,Sem.run_bind,bI c,bI y,dS v,Result.andThen_ok,Sem.run_pure,agH,if_false,Sem.run_ite,x,false_and,J,F,run_askRoom,
   Bool.not_true,if_true,X,W,newRow,run_newObj,aic,ag2,agX,j,O,H,I,hint,ahg,U,u,L,d,true_or,and_true,Bool.true_eq]
  have Z:#[]++(dJ n us).toArray++(dJ (nc-n) us).toArray=(dJ n us++dJ (nc-n) us).toArray:=by simp
  first
   |(rw[Z];rfl)
   |(simp[Z];rfl)
theorem Td(U:SR Q σ X)(S:X.B<=X.w.heap.size){a:Act}{aN:T}(w:RR σ X aN a.tmps){o:Oper}{sz bytes:Nat}{zs:List FC}{x y:Arg}(M:fk Q σ o (.rD sz bytes zs x y)=ae){v:V}{H':an}
  (h:cm aN X.H (.rD sz bytes zs x y)=aa (v,H')):jN Q σ X v H' (execOp a.eval o):=by
 simp only[fk]at M;split at M
 .rename_i c ho;obtain⟨u,v',t,t',e,k,h1,h2,h3,I,K,f,E,l,b,hz,W⟩:=GV M;have I:=cK w I;have K:=cK w K;simp only[cm]at h;generalize i:a.eval u=N at I;generalize p:a.eval v'=uy at K;generalize x.ev aN=vx at I h;generalize y.ev aN=vy at K h;have g:∀(r:Value) (w':World),(Builtin.append_ #[t,t'] o.type #[N,uy]).run Q X.w=.ok r w'->(execOp a.eval o).run Q X.w=.ok (.value r) w':=by
   intro r w' hr;refine eM ho h1 λcs=>?_;simp[builtin,h2,h3,i,p,hr]
  unfold Dr at h;split at h
  .rename_i n hn;obtain⟨k',A⟩:=lI K hn;split at h
   .rename_i hc;obtain⟨z,us,a_,H,L,i0,q,s⟩:=gH (σ:=σ) (X:=X) hz X.w;have F:us.length=sz:=by have:=L.len;simp at this;omega
    obtain⟨m,rfl⟩:∃m:Nat,n=m:=⟨n.toNat,ap⟩
    have O:∀base,N=.slice base 0 0->(v,H')=(.c (.sl X.H.length 0 m 0 0 sz),X.H++[.dj sz ((dJ m zs).map .f) 0 0 .loc])->m≠0->cD m bytes=ae->jN Q σ X v H' (execOp a.eval o):=by
     intro base hb he d B;cases he;obtain⟨nc,rest,w',Y,J,j,Z⟩:=(yP (k':=k') f W E l b q s H F o.type (base:=base) (n:=m)).2 d B;obtain⟨X',g1,g2,g3,g4,g5,g6⟩:=Rn U S b (cs:=(dJ m zs).map .f) (us:=dJ m us) (mz L m) (n:=m) (nc:=nc) (by rw[List.length_map,nT,hc.2]) Z Y j;exact⟨_,X',.inl (by rw[g1];exact g _ _ (by rw[hb,A];exact J)),g2,g3,g5,g4,g6⟩
    split at h
    .cases (I:dC σ X.F X.w .aJ N);simp only[agD]at h;split at h
     .rename_i d;simp only[AT,agk]at h;obtain⟨rfl,rfl⟩:=h;exact⟨_,X,.inl (g _ _ (by rw[A];exact(yP (k':=k') f W E l b q s H F o.type (base:=ab) (n:=m)).1 d)),rfl,U,dC.aJ,Ext.refl _ _,S⟩
     .simp_all
    .cases (I:dC σ X.F X.w .es N);rename_i ad;simp only[agD]at h;split at h
     .rename_i d;simp only[AT,agk]at h;obtain⟨rfl,rfl⟩:=h;exact⟨_,X,.inl (g _ _ (by rw[A];exact(yP (k':=k') f W E l b q s H F o.type (base:=aa ad) (n:=m)).1 d)),rfl,U,dC.es _,Ext.refl _ _,S⟩
     .simp_all
    .simp_all
   .simp at h
  .simp at h
 .simp at M
end
section
variable{Q:Program}{σ:Nat->FuncId}{X:Wd}
theorem Zu(s:SR Q σ X)(m:X.B<=X.w.heap.size){a:Act}{aN:T}{o:Oper}{st:Os}{sz:Nat}(d:fk Q σ o (.pre st sz)=ae){v:V}{H':an}
  (h:cm aN X.H (.pre st sz)=aa (v,H')):jN Q σ X v H' (execOp a.eval o):=by
 cases st with
 |nil=>
  simp only[cm]at h;split at h
  .simp at h
  .simp only[AT,agk]at h;obtain⟨rfl,rfl⟩:=h;obtain⟨j,l⟩:=SR.grow s (.dj sz [] 0 0 .nil);have q:VR σ { X with H:=X.H++[.dj sz [] 0 0 .nil] } (.c (.sl X.H.length 0 0 0 0 sz)) (.slice ab 0 0):=by
    have b:(X.H++[bO.dj sz [] 0 0 .nil])[X.H.length]?=aa (.dj sz [] 0 0 .nil):=by simp
    simp only[VR,jO,CR,iL,b];simp
   simp only[fk]at d;split at d
   .rename_i g;exact⟨.slice ab 0 0,_,.inl (by simp[execOp,g,Act.eval]),rfl,j,q,l,m⟩
   .rename_i g;exact⟨.slice ab 0 0,_,.inl (by simp[execOp,g,Act.eval]),rfl,j,q,l,m⟩
   .simp_all
 |_=>simp[fk]at d
theorem Rk(u:SR Q σ X)(s:X.B<=X.w.heap.size){a:Act}{o:Oper}(b:fk Q σ o .oS=ae):jN Q σ X (.c (.mp X.H.length)) (X.H++[.map []]) (execOp a.eval o):=by
 simp only[fk]at b;split at b
 .rename_i t v;obtain⟨X',g,d,j,l,m,q⟩:=SR.new u s (.map []) (fA.alloc X.w (.map #[] 0)) 0 λX' z x y _=>⟨[],by rw[x];exact(fA.alloc _ _).new,A2.nil,bv⟩
  exact⟨.map (aa X.w.heap.size),X',.inl (by rw[g];simp[execOp,v,Instr.makeMap]),d,j,⟨_,m,⟨[],by rw[d];simp⟩,rfl⟩,l,q⟩
 .simp at b
theorem RM(B:SR Q σ X)(z:X.B<=X.w.heap.size){a:Act}{aN:T}(A:RR σ X aN a.tmps){o:Oper}{x:Arg}(d:fk Q σ o (.range x)=ae){v:V}{H':an}
  (h:cm aN X.H (.range x)=aa (v,H')):jN Q σ X v H' (execOp a.eval o):=by
 simp only[fk]at d;split at d
 .rename_i t y E;simp only[IS]at d;obtain⟨b,H⟩:=d;have b:=cK A b;simp only[cm]at h;split at h
  .rename_i s F;rw[F]at b;have b:=VR.str b;simp only[AT,agk]at h;obtain⟨rfl,rfl⟩:=h;split at H
   .rename_i I;obtain⟨X',j,g,l,m,q,u⟩:=SR.new B z (.it s 0) (fA.alloc X.w (.stringIter s 0)) 0 λX' b J K _=>by
     show X'.w.heap[X.w.heap.size]?=_;rw[J];exact(fA.alloc _ _).new
    exact⟨.pointer (aa ⟨X.w.heap.size,0,ab⟩),X',.inl (by rw[j];simp[execOp,E,Instr.range,bI I,b]),g,l,⟨_,q,⟨s,0,by rw[g];simp⟩,rfl⟩,m,u⟩
   .simp_all
  .simp at h
 .simp at d
theorem SR.tK(m:SR Q σ X){b:Nat}{cP blk':bO}{L:Loc}{o o':Obj}(hb:X.H[b]?=aa cP)(l:X.di b=aa L)(ho:X.w.heap[L.c]?=aa o)(x:∀c e f,o≠.cells c e f)(q:∀c e f,o'≠.cells c e f)
  (d:oO X { X with H:=X.H.set b blk',w:={ X.w with heap:=X.w.heap.setIfInBounds L.c o' } } b)
  (g:∀X',Ext X.H.length X X'->X'.w.heap[L.c]?=aa o'->X'.F=X.F->X'.di=X.di->X'.H=X.H.set b blk'->BR Q σ X' blk' L) :
  SR Q σ { X with H:=X.H.set b blk',w:={ X.w with heap:=X.w.heap.setIfInBounds L.c o' } }/\Ext X.H.length X { X with H:=X.H.set b blk',w:={ X.w with heap:=X.w.heap.setIfInBounds L.c o' } }:=by
 have j:L.c<X.w.heap.size:=(m.br b L l).2.1;refine SR.turn m hb l bv (λk v=>by simp[Array.getElem?_setIfInBounds_ne (Ne.symm v)]) (λi _=>?_) rfl rfl rfl d (λy=>g _ y (by simp[j]) rfl rfl rfl);have s:({ X.w with heap:=X.w.heap.setIfInBounds L.c o' }:World).cell? ⟨L.c,i,ab⟩=ab:=by
  simp only[World.cell?];simp_all
 have u:X.w.cell? ⟨L.c,i,ab⟩=ab:=by
  simp only[World.cell?,ho];simp_all
 rw[s,u]
theorem Uq(u:SR Q σ X)(B:X.B<=X.w.heap.size){a:Act}{aN:T}(N:RR σ X aN a.tmps){o:Oper}{x:Arg}(q:fk Q σ o (.next x)=ae){v:V}{H':an}
  (h:cm aN X.H (.next x)=aa (v,H')):jN Q σ X v H' (execOp a.eval o):=by
 simp only[fk]at q;split at q
 .rename_i y F;have I:=cK N q;simp only[cm]at h;unfold Vx at h;split at h
  .rename_i b S;rw[S]at I;obtain⟨L,E,⟨W,U,O⟩,H⟩:=I;split at h
   .rename_i s d m;obtain⟨_,_,cP,l,z⟩:=u.br b L E;rw[m]at l;simp only[AT]at l;subst l;have j:X.w.heap[L.c]?=aa (.stringIter s d):=z;split at h
    .rename_i A;simp only[AT,agk]at h;obtain⟨rfl,rfl⟩:=h;obtain⟨J,K⟩:=SR.tK (o':=.stringIter s (d+(Utf8.decode s d).2)) (blk':=.it s (d+(Utf8.decode s d).2)) u m E j bv bv
      (λcP g=>⟨.it s (d+(Utf8.decode s d).2),by simp[(OF.1 m).1],by rw[m]at g;simp only[AT]at g;subst g;exact λL h=>h⟩)
      (λX' _ M _ _ _=>M)
     refine⟨.tuple #[.bool ae,.int .i64 d,.int .i32 (Utf8.decode s d).1],_,.inl ?_,rfl,J,⟨[.bool ae,.int .i64 d,.int .i32 (Utf8.decode s d).1],rfl,?_⟩,K,by simpa using B⟩
     .simp only[execOp,F];refine fL ?_;simp[Instr.next,H,getObj,setObj,Sem.run,j,A,goInt]
     .exact A2.cons (dC.bool _) (A2.cons (dC.int _ _) (A2.cons (dC.int _ _) A2.nil))
    .rename_i A;simp only[AT,agk]at h;obtain⟨rfl,rfl⟩:=h;refine⟨.tuple #[.bool ag],X,.inl ?_,rfl,u,⟨[.bool ag],rfl,A2.cons (dC.bool _) A2.nil⟩,Ext.refl _ _,B⟩;simp only[execOp,F];refine fL ?_;simp[Instr.next,H,getObj,Sem.run,j,A]
   .simp at h
  .simp at h
 .simp at q
theorem Ei{s:CK}{d:TypeDesc}(z:(s=.int/\∃j,d=.int j)\/(s=.str/\d=.string)\/(s=.bool/\d=.bool)){F:Nat->Nat->Prop}{w:World}{k:FC}{v:C}{x:Value}(B:dC σ F w k x) :
  ∀{R:C->Value->Prop} {l g:List (FC × C)} {b:List MapEntry},A2 (λe m=>dC σ F w e.1 m.key/\R e.2 m.val) l b->∀(i:Nat),pR s k v l=aa g->
  (Instr.findNow d x b i=aa ab/\g=l++[(k,v)])\/∃(j:Nat) (u:Value) (m:MapEntry),Instr.findNow d x b i=aa (aa (i+j,u))/\b[j]?=aa m/\Instr.sameNow d x m.key=aa ae/\g=l.set j (k,v)
 |_,[],g,[],_,i,h=>by
  simp only[pR,AT]at h;subst h;exact .inl ⟨rfl,rfl⟩
 |_,[],_,_::_,q,_,_=>by have:=q.len;simp at this
 |_,_::_,_,[],q,_,_=>by have:=q.len;simp at this
 |_,e::l,g,m::b,q,i,h=>by
  obtain⟨⟨H,N⟩,E⟩:=q.of_cons;simp only[pR]at h;split at h
  .rename_i A;simp only[AT]at h;subst h;have:=xD z B H A;exact .inr ⟨0,m.val,m,by simp[Instr.findNow,this],rfl,this,rfl⟩
  .rename_i A;simp only[IT]at h;obtain⟨I,J,rfl⟩:=h;have:=xD z B H A;rcases Ei z B E (i+1) J with⟨y,rfl⟩|⟨j,u,M,y,K,L,rfl⟩
   .exact .inl ⟨by simp[Instr.findNow,this,y],rfl⟩
   .exact .inr ⟨j+1,u,M,by simp[Instr.findNow,this,y];omega,by simpa using K,L,rfl⟩
  .simp at h
theorem ER{d:TypeDesc}{u v:Value}(h:Instr.sameNow d u v=aa ae)(n:Nat):Instr.sameBits n v u=ae:=by
 unfold Instr.sameNow at h;split at h
 .split at h
  .rename_i b;subst b;simp only[AT,beq_iff_eq]at h;subst h;simp[Instr.sameBits]
  .simp at h
 .simp only[AT,beq_toListBytes,beq_iff_eq]at h;simp[Instr.sameBits,beq_toListBytes,h]
 .simp only[AT,beq_iff_eq]at h;subst h;simp[Instr.sameBits]
 .simp at h
theorem acd{c:C}{u:Value}(h:VR σ X (mV c) u):jO σ X (mV c) u:=by
 cases c
 case cl f cs=>
  simp only[mV]at h ⊢;split at h
  .rename_i b;rw[bZ b];exact h
  .rename_i b;rw[ct b];exact h
 all_goals exact h
theorem Re(hS:SR Q σ X)(hB:X.B<=X.w.heap.size){a:Act}{aN:T}(hR:RR σ X aN a.tmps){o:Oper}{W:CK}{x y z:Arg}(hm:fk Q σ o (.pO W x y z)=ae){v:V}{H':an}
  (h:cm aN X.H (.pO W x y z)=aa (v,H')):jN Q σ X v H' (execOp a.eval o):=by
 simp only[fk]at hm;split at hm
 .rename_i t x' H S ho;simp only[IS]at hm;obtain⟨⟨⟨hx,F⟩,O⟩,ht⟩:=hm;have hx:=cK hR hx;have F:=cK hR F;have O:=cK hR O;split at ht
  .rename_i kt e hu;simp only[cm]at h;split at h
   .rename_i b k vv d9 g_ i7;rw[d9]at hx;rw[g_]at F;rw[<-Q_ i7]at O;have O:jO σ X (mV vv) (a.eval S):=acd O;obtain⟨L,hL,_,c_⟩:=hx;split at h
    .rename_i es hb;split at h
     .rename_i a_;simp only[IT,agk]at h;obtain⟨s,hp,rfl,rfl⟩:=h;obtain⟨_,_,cP,J,f_⟩:=hS.br b L hL;rw[hb]at J;simp only[AT]at J;subst J;obtain⟨q,E,Z,e_⟩:=f_;have go:∀d,Q.underlying kt=aa d->((W=.int/\∃j,d=.int j)\/(W=.str/\d=.string)\/(W=.bool/\d=.bool))->jN Q σ X .top (X.H.set b (.map s)) (execOp a.eval o):=by
       intro d B hd;have Y:∀(g:List MapEntry),(Instr.mapUpdate t (a.eval x') (a.eval H) (a.eval S)).run Q X.w=.ok () { X.w with heap:=X.w.heap.setIfInBounds L.c (.map g.toArray g.length) }->
         A2 (λ(e:FC × C) (m:MapEntry)=>dC σ X.F X.w e.1 m.key/\jO σ X (mV e.2) m.val) s g->(∀(i:Nat) m,g[i]?=aa m->m.born=i)->jN Q σ X .top (X.H.set b (.map s)) (execOp a.eval o):=by
        intro g c9 hA d_;obtain⟨g1,g2⟩:=SR.tK (o':=.map g.toArray g.length) (blk':=.map s) hS hb hL E bv bv
         (λcP A=>⟨.map s,by simp[(OF.1 hb).1],by rw[hb]at A;simp only[AT]at A;subst A;exact λL h=>h⟩)
         (λX' N h1 hF _ _=>⟨g,h1,hA.nZ λe m h=>⟨dC.mono N.F N.fw h.1,jO.ext' σ N h.2⟩,d_⟩)
        exact⟨undef,_,.inr ⟨by simp[execOp,ho,c9],rfl⟩,rfl,g1,trivial,g2,by simpa using hB⟩
       rcases Ei (R:=λc u=>jO σ X (mV c) u) hd F Z 0 hp with⟨I,rfl⟩|⟨j,u,m,I,h5,h6,rfl⟩
       .have K:A2 (λ(e:FC × C) (m:MapEntry)=>dC σ X.F X.w e.1 m.key/\jO σ X (mV e.2) m.val) [(k,vv)] [({ key:=a.eval H,val:=a.eval S,born:=q.length }:MapEntry)]:=A2.cons (And.intro F O) A2.nil;refine Y (q++[{ key:=a.eval H,val:=a.eval S,born:=q.length }]) ?_ (Z.append K) ?_
        rotate_left
        .grind
        simp[Instr.mapUpdate,bI hu,c_,getObj,setObj,Sem.run,E,kz ht F a_,Instr.findKey,bI B,I]
       .rw[ahg]at I;refine Y (q.set j { m with key:=a.eval H,val:=a.eval S }) ?_ ?_ ?_
        .have i6:(Instr.keyThatStays m.key (a.eval H)).run Q X.w=.ok (a.eval H) X.w:=by
          simp[Instr.keyThatStays,ER h6 10000]
         have b_:q.modify j (λe=>{ e with key:=a.eval H,val:=a.eval S })=q.set j { m with key:=a.eval H,val:=a.eval S }:=by
          apply List.ext_getElem?
          grind
         simp[Instr.mapUpdate,bI hu,c_,getObj,setObj,Sem.run,E,kz ht F a_,Instr.findKey,bI B,I,h5,i6,b_]
        .refine⟨by simpa using Z.len,λi e' m' U l=>?_⟩;rw[List.getElem?_set]at U l;split at U
         .rename_i M;subst M;simp only[if_true]at l;have h_:=(OF.1 h5).1;have i8:=Z.len;rw[bZ ap]at U;rw[bZ h_]at l;simp only[AT]at U l;subst U;subst l;exact⟨F,O⟩
         .rename_i M;rw[ct M]at l;exact Z.2 i e' m' U l
        .grind
      rcases oA ht with⟨I,j,B⟩|⟨I,B⟩|⟨I,B⟩
      .simp_all
      .simp_all
      .simp_all
     .simp_all
    .simp_all
   .simp at h
  .simp at ht
 .simp at hm
theorem Ea{c:Call}{sz:Nat}{zs:List FC}{x:Arg}(h:fo Q σ c (.clear sz zs x)=ae):∃y t e,c.callee=.builtin .clear/\c.args=#[y]/\c.argTypes=#[t]/\mA σ x y=ae/\Q.underlying t=aa (.slice e)/\eB Q e sz=ae/\nX Q e zs=ae:=by
 simp only[fo]at h;split at h
 .rename_i y t d g j;simp only[IS]at h;obtain⟨m,b⟩:=h;obtain⟨e,l,b⟩:=kh b
  grind
 .simp at h
theorem Qf(hS:SR Q σ X)(hB:X.B<=X.w.heap.size){a:Act}{aN:T}(hR:RR σ X aN a.tmps){o:Oper}{sz:Nat}{zs:List FC}{x:Arg}(I:fk Q σ o (.clear sz zs x)=ae){v:V}{H':an}
  (h:cm aN X.H (.clear sz zs x)=aa (v,H')):jN Q σ X v H' (execOp a.eval o):=by
 simp only[fk]at I;split at I
 .rename_i c Y;obtain⟨y,t,e,K,M,N,j,f,b_,hz⟩:=Ea I;have j:=cK hR j;simp only[cm,IT,agk]at h;obtain⟨H2,g,rfl,rfl⟩:=h;have done:VR σ X (.t []) (.tuple #[]):=⟨[],rfl,A2.nil⟩
  unfold ng at g;split at g
  .rename_i p hp;rw[hp]at j;split at g
   .rename_i S;simp only[AT]at g;subst g;obtain⟨J,cp,d⟩:=mv j S;refine⟨.tuple #[],X,.inl (eM Y K λcs=>?_),rfl,hS,done,Ext.refl _ _,hB⟩;cases J<;>simp[builtin,M,N,Builtin.clear_,bI f,d]
   .rename_i l U S;obtain⟨J,cp,d⟩:=mv j S;split at g
    .rename_i r;obtain⟨z,us,B,E,F,_⟩:=gH (σ:=σ) (X:=X) hz X.w;have c9:us.length=zs.length:=by have:=F.len;simp at this;omega
     have W:l≠0:=λe=>U (by rw[e]);have key:∀(b o' u:Nat),(∃q,CR σ X (.ptr b o' u) (.pointer (aa q))/\J=aa q)->cY X.H (.ptr b o' u) ((dJ l zs).map .f)=aa H2->jN Q σ X (.t []) H2 (execOp a.eval o):=by
      rintro b o' u ⟨q,hq,rfl⟩ Z;obtain⟨cc,c_,X',g1,g2,g3,g4,g5,g6,g7⟩:=Sf hS hq (mz F l) Z;cases g1;by_cases a_:sz=0
      .subst a_;have w:zs=[]:=agC r;have i:us=[]:=agC ap;subst w;subst i;refine⟨.tuple #[],X',.inl (eM Y K λcs=>?_),g3,g4,⟨[],rfl,A2.nil⟩,g5,ap⟩;have hr:dJ l ([]:List Value)=[]:=by simp[dJ]
       rw[hr]at g2;simp[builtin,M,N,Builtin.clear_,bI f,d,W,B,E,Builtin.zeroCells];simp_all
      .have n:Builtin.zeroCells z.cells l=(dJ l us).toArray:=by
        have:=kQ us l ap;simpa[Builtin.zeroCells,E]using this
       refine⟨.tuple #[],X',.inl (eM Y K λcs=>?_),g3,g4,⟨[],rfl,A2.nil⟩,g5,ap⟩;simp[builtin,M,N,Builtin.clear_,bI f,d,B,n];simp_all
     split at g
     .rename_i b o' l' cap u s;simp only[VR,jO,CR,iL]at j;split at g
      .rename_i cs fl H;rw[H]at j;obtain⟨L,O,_,m⟩:=j;rw[d]at m;simp only[Value.slice.injEq]at m;refine key b o' u ⟨⟨L.c,o',ab⟩,⟨L,O,by rw[H]⟩,m.1⟩ g
      .rename_i s' cs fl e' H;split at g
       .rename_i A;rw[H]at j;obtain⟨L,O,k,_,_,m⟩:=j.2.1 A.1 A.2;rw[d]at m;simp only[Value.slice.injEq]at m;refine key b o' u ⟨⟨L.c,o',ab⟩,⟨L,O,?_⟩,m.1⟩ g;simp_all
       .simp_all
      .simp_all
     .simp_all
    .simp_all
   .simp_all
  .simp at g
 .simp at I
theorem Mw(B:SR Q σ X)(O:X.B<=X.w.heap.size){a:Act}{aN:T}(S:RR σ X aN a.tmps){o:Oper}{x:Arg}(l:fk Q σ o (.mq x)=ae){v:V}{H':an}
  (h:cm aN X.H (.mq x)=aa (v,H')):jN Q σ X v H' (execOp a.eval o):=by
 simp only[fk]at l;split at l
 .rename_i t y W;simp only[IS]at l;obtain⟨j,Y⟩:=l;have j:=cK S j;simp only[cm]at h;unfold wO at h;split at h
  .rename_i b c;rw[c]at j;obtain⟨L,A,_,Z⟩:=j;split at h
   .rename_i u m;split at h
    .rename_i p;simp only[AT,agk]at h;obtain⟨rfl,rfl⟩:=h;obtain⟨_,_,cP,g,q⟩:=B.br b L A;rw[m]at g;simp only[AT]at g;subst g;obtain⟨d,F,H,_⟩:=q;split at Y
     .rename_i kt e s;obtain⟨X',I,z,J,K,M,N⟩:=SR.new B O (.Ff b u.length ag) (fA.alloc X.w (.mapIter (aa L.c) d.length #[] d.length)) 0 λX' j f k n=>by
       obtain⟨blk',i,E⟩:=j.bH b (OF.1 m).1 _ m;cases blk'<;>simp only at E;refine⟨L,#[],d.length,E L A,⟨_,i⟩,?_,rfl⟩;rw[H.len,f];exact(fA.alloc _ _).new
      refine⟨.pointer (aa ⟨X.w.heap.size,0,ab⟩),X',.inl ?_,z,J,⟨_,M,⟨b,u.length,ag,by rw[z];simp⟩,rfl⟩,K,N⟩;have U:(getObj L.c).run Q X.w=.ok (.map d.toArray d.length) X.w:=by simp[getObj,Sem.run,F]
      rw[I];simp[execOp,W,Instr.range,bI s,Z,U]
     .simp_all
    .simp_all
   .simp at h
  .simp at h
 .simp at l
theorem Rp(s:SR Q σ X)(N:X.B<=X.w.heap.size){a:Act}{aN:T}(p:RR σ X aN a.tmps){o:Oper}{x:Arg}(E:fk Q σ o (.pS x)=ae){v:V}{H':an}
  (h:cm aN X.H (.pS x)=aa (v,H')):jN Q σ X v H' (execOp a.eval o):=by
 simp only[fk]at E;split at E
 .rename_i y S;have i:=cK p E;simp only[cm]at h;unfold Cp at h;split at h
  .rename_i b r;rw[r]at i;obtain⟨L,f,_,W⟩:=i;split at h
   .rename_i m c done u;obtain⟨_,_,cP,d,l⟩:=s.br b L f;rw[u]at d;simp only[AT]at d;subst d;obtain⟨J,sn,st,M,_,B,q⟩:=l;split at h
    .rename_i j;obtain⟨_,_,cP,d,l⟩:=s.br m J M;rw[j]at d;simp only[AT]at d;subst d;obtain⟨K,F,Z,_⟩:=l;have:K=[]:=agC Z.len.symm;subst this;split at h
     .simp_all
     .rename_i z;simp only[AT,agk]at h;obtain⟨rfl,rfl⟩:=h;simp only[z,agH,if_false]at q;subst q;refine⟨.tuple #[.bool ag],X,.inl ?_,rfl,s,⟨[.bool ag],rfl,A2.cons (dC.bool _) A2.nil⟩,Ext.refl _ _,N⟩;simp only[execOp,S];refine fL ?_;simp[Instr.next,W,getObj,Sem.run,B,F,Result.andThen,choose,Question.forced]
    .rename_i e j;obtain⟨H,F,Z,w,k⟩:=I1 s M j;split at h
     .rename_i z;simp only[AT,agk]at h;obtain⟨rfl,rfl⟩:=h;simp only[z,if_true]at q;obtain⟨rfl,rfl⟩:=q;refine⟨.tuple #[.bool ag],X,.inl ?_,rfl,s,⟨[.bool ag],rfl,A2.cons (dC.bool _) A2.nil⟩,Ext.refl _ _,N⟩;simp only[execOp,S];refine fL ?_;simp[Instr.next,W,getObj,Sem.run,B,F,k,Result.andThen,choose,Question.forced]
     .rename_i z;split at h
      .rename_i U;subst U;simp only[AT,agk]at h;obtain⟨rfl,rfl⟩:=h;simp only[z,agH,if_false]at q;subst q;obtain⟨q1,I⟩:=SR.tK (o':=.mapIter (aa J.c) 1 #[0] 1) (blk':=.Ff m 1 ae) s u f B bv bv
        (λcP g=>⟨.Ff m 1 ae,by simp[(OF.1 u).1],by rw[u]at g;simp only[AT]at g;subst g;exact⟨⟨rfl,rfl⟩,λL h=>h⟩⟩)
        (λX' t Y _ A n=>by
         have O:b≠m:=λe=>by rw[e,j]at u;cases u
         exact⟨J,#[0],1,by rw[A];exact M,⟨_,by rw[n,sh O];exact j⟩,Y,rfl,rfl⟩)
       refine⟨.tuple #[.bool ae,H.key,H.val],_,.inl ?_,rfl,q1,?_,I,by simpa using N⟩
       .simp only[execOp,S];refine fL ?_;simp[Instr.next,W,getObj,setObj,Sem.run,B,F,k,Result.andThen,choose,Question.forced]
       .exact⟨[.bool ae,H.key,H.val],rfl,A2.cons (dC.bool _) (A2.cons (dC.mono I.F I.fw Z) (A2.cons (jO.ext' σ I w) A2.nil))⟩
      .simp_all
    .simp_all
   .simp at h
  .simp at h
 .simp at E
end
section
variable{Q:Program}{σ:Nat->FuncId}{X:Wd}
def eh(a b:bO):Prop:=
 match a with
 | .box cs fl=>(match b with
  | .box cs' fl'=>cs=cs'/\fl<=fl'
  |_=>False)
 | .dj s cs fl e st=>(match b with
  | .dj g cs' fl' d st'=>s=g/\cs=cs'/\fl<=fl'/\e=d/\st=st'
  |_=>False)
 |a=>a=b
theorem eh.refl(a:bO):eh a a:=by cases a<;>simp[eh]
theorem eh.trans{a b c:bO}(h:eh a b)(k:eh b c):eh a c:=by
 cases a<;>cases b<;>simp only[eh,reduceCtorEq]at h<;>cases c<;>simp only[eh,reduceCtorEq]at k ⊢
 .grind
 .grind
 all_goals exact h.trans k
def jq(H H':an):Prop:=H.length=H'.length/\∀(b:Nat) cP blk',H[b]?=aa cP->H'[b]?=aa blk'->eh cP blk'
theorem jq.refl(H:an):jq H H:=⟨rfl,λb cP blk' h d=>by rw[h]at d;cases d;exact eh.refl _⟩
theorem jq.get{H H':an}(h:jq H H'){b:Nat}{cP:bO}(hb:H[b]?=aa cP):∃blk',H'[b]?=aa blk'/\eh cP blk':=by
 have hl:=(OF.1 hb).1;have d:b<H'.length:=by have:=h.1;omega
 exact⟨_,By d,h.2 b _ _ hb (By d)⟩
theorem jq.trans{A B C:an}(h:jq A B)(k:jq B C):jq A C:=
 ⟨h.1.trans k.1,λb x z d g=>by obtain⟨y,hy,h1⟩:=h.get d;exact h1.trans (k.2 b y z hy g)⟩
theorem jq.none{H H':an}(h:jq H H'){b:Nat}(hb:H[b]?=ab):H'[b]?=ab:=by
 rw[List.getElem?_eq_none_iff]at hb ⊢;have:=h.1;omega
theorem jq.set{H:an}{b:Nat}{cP blk':bO}(hb:H[b]?=aa cP)(h:eh cP blk'):jq H (H.set b blk'):=by
 have hl:=(OF.1 hb).1;refine⟨bv,λi x y d hy=>?_⟩;by_cases hi:i=b
 .simp_all
 .rw[sh (Ne.symm hi)]at hy;rw[d]at hy;cases hy;exact eh.refl _
theorem jq.foldl{f:an->C->an}(b:∀H x,jq H (f H x)):∀(xs:List C) (H:an),jq H (xs.foldl f H)
 |[],H=>jq.refl H| x::xs,H=>(b H x).trans (jq.foldl b xs (f H x))
theorem nj:∀(n:Nat) (x:C) (H:an),jq H (ef n x H)
 |n,.f _,H=>by cases n<;>exact jq.refl H
 |0,.ptr _ _ _,H=>jq.refl H| 0,.sl _ _ _ _ _ _,H=>jq.refl H| 0,.cl _ _,H=>jq.refl H| 0,.yl _,H=>jq.refl H| 0,.mp _,H=>jq.refl H| 0,.it _,H=>jq.refl H| 0,.bm _ _,H=>jq.refl H| 0,.mi _,H=>jq.refl H
 |n+1,.ptr b m j,H=>by
  simp only[ef];split
  .rename_i cs fl d;exact(jq.set d (by exact⟨rfl,ahc _ _⟩)).trans (jq.foldl (λH x=>nj n x H) _ _)
  .exact jq.refl H
 |n+1,.sl b o l c j sz,H=>by
  simp only[ef];split
  .rename_i cs fl d;exact(jq.set d (by exact⟨rfl,ahc _ _⟩)).trans (jq.foldl (λH x=>nj n x H) _ _)
  .rename_i s cs fl e st d;exact(jq.set d (by exact⟨rfl,rfl,ahc _ _,rfl,rfl⟩)).trans (jq.foldl (λH x=>nj n x H) _ _)
  .exact jq.refl H
 |n+1,.cl f g,H=>jq.foldl (λH x=>nj n x H) _ _
 |n+1,.yl _,H=>jq.refl H| n+1,.mp _,H=>jq.refl H| n+1,.it _,H=>jq.refl H| n+1,.bm _ _,H=>jq.refl H| n+1,.mi _,H=>jq.refl H
theorem ij{b j:Type}{f g:b->Option j}:∀{xs:List b},(∀x∈xs,f x=g x)->bu f xs=bu g xs
 |[],_=>rfl| x::xs,h=>by rw[bu,bu,h x bv,ij (xs:=xs) (λy d=>h y (List.mem_cons_of_mem _ d))]
theorem pG:∀(n:Nat) {H H':an},jq H H'->∀(x:C),fh n H' x=fh n H x
 |n,H,H',h,.f _=>by cases n<;>rfl
 |0,H,H',h,.ptr _ _ _=>rfl| 0,H,H',h,.sl _ _ _ _ _ _=>rfl| 0,H,H',h,.cl _ _=>rfl| 0,H,H',h,.yl _=>rfl| 0,H,H',h,.mp _=>rfl| 0,H,H',h,.it _=>rfl| 0,H,H',h,.bm _ _=>rfl| 0,H,H',h,.mi _=>rfl
 |n+1,H,H',h,.ptr b v s=>by
  simp only[fh];cases m:H[b]? with
  |none=>rw[h.none m]
  |some cP=>
   obtain⟨blk',d,j⟩:=h.get m;rw[d];cases cP<;>cases blk'<;>simp only[eh,reduceCtorEq]at j
   .obtain⟨rfl,_⟩:=j;simp only[ij (g:=fh n H) λx _=>pG n h x]
   all_goals rfl
 |n+1,H,H',h,.sl b o l c s sz=>by
  simp only[fh];cases m:H[b]? with
  |none=>rw[h.none m]
  |some cP=>
   obtain⟨blk',d,j⟩:=h.get m;rw[d];cases cP<;>cases blk'<;>simp only[eh,reduceCtorEq]at j
   .obtain⟨rfl,_⟩:=j;simp only[ij (g:=fh n H) λx _=>pG n h x]
   .obtain⟨rfl,rfl,u,rfl,rfl⟩:=j;clear u;rename_i st _;cases st<;>simp only[ij (g:=fh n H) λx _=>pG n h x]
   all_goals rfl
 |n+1,H,H',h,.cl f q=>by simp only[fh,ij (g:=fh n H) λx _=>pG n h x]
 |n+1,H,H',h,.yl _=>rfl| n+1,H,H',h,.mp _=>rfl| n+1,H,H',h,.it _=>rfl| n+1,H,H',h,.bm _ _=>rfl| n+1,H,H',h,.mi _=>rfl
def eU:Nat->an->C->Prop
 |_,_,.f _=>True| 0,_,_=>True| n+1,H,.ptr b _ _=>∀cs fl,H[b]?=aa (.box cs fl)->cs.length<=fl/\∀x∈cs,eU n H x
 |n+1,H,.sl b o l _ _ sz=>∀cP,H[b]?=aa cP->match cP with
  | .box cs fl=>o+l*sz<=fl/\∀x∈(cs.drop o).take (l*sz),eU n H x| .dj _ cs fl _ .loc=>o+l*sz<=fl/\∀x∈(cs.drop o).take (l*sz),eU n H x| _=>True
 |n+1,H,.cl _ d=>∀x∈d,eU n H x| _,_,_=>True
theorem eU.le:∀(n:Nat) {H H':an},jq H H'->∀{x:C},eU n H x->eU n H' x
 |n,H,H',h,.f _,_=>by cases n<;>trivial
 |0,H,H',h,.ptr _ _ _,_=>trivial| 0,H,H',h,.sl _ _ _ _ _ _,_=>trivial| 0,H,H',h,.cl _ _,_=>trivial| 0,H,H',h,.yl _,_=>trivial| 0,H,H',h,.mp _,_=>trivial| 0,H,H',h,.it _,_=>trivial| 0,H,H',h,.bm _ _,_=>trivial| 0,H,H',h,.mi _,_=>trivial
 |n+1,H,H',h,.ptr b off A,v=>by
  intro cs fl m;have y:=(OF.1 m).1;have s:b<H.length:=by have:=h.1;omega
  have d:=h.2 b _ _ (By s) m;cases g:H[b]<;>rw[g]at d<;>simp only[eh,reduceCtorEq]at d;obtain⟨rfl,q⟩:=d;obtain⟨h1,h2⟩:=v _ _ (by rw[By s,g]);exact⟨agK h1 q,λx u=>eU.le n h (h2 x u)⟩
 |n+1,H,H',h,.sl b o l c A sz,v=>by
  intro blk' m;have y:=(OF.1 m).1;have s:b<H.length:=by have:=h.1;omega
  have d:=h.2 b _ _ (By s) m;have j:=v _ (By s);cases g:H[b]<;>rw[g]at d j<;>cases blk'<;>simp only[eh,reduceCtorEq]at d<;>try simp only
  .obtain⟨rfl,q⟩:=d;exact⟨agK j.1 q,λx u=>eU.le n h (j.2 x u)⟩
  .obtain⟨rfl,rfl,q,rfl,rfl⟩:=d;rename_i st _;cases st<;>simp only at j ⊢;exact⟨agK j.1 q,λx u=>eU.le n h (j.2 x u)⟩
 |n+1,H,H',h,.cl f z,v=>λx u=>eU.le n h (v x u)
 |n+1,H,H',h,.yl _,_=>trivial| n+1,H,H',h,.mp _,_=>trivial| n+1,H,H',h,.it _,_=>trivial| n+1,H,H',h,.bm _ _,_=>trivial| n+1,H,H',h,.mi _,_=>trivial
theorem iB{n:Nat}(b:∀(x:C) (H:an),eU n (ef n x H) x):∀(xs:List C) (H:an),∀x∈xs,eU n (xs.foldl (λH x=>ef n x H) H) x
 |y::ys,H,x,d=>by
  simp only[aid];rcases agA.1 d with rfl|d
  .exact eU.le n (jq.foldl (λH x=>nj n x H) ys _) (b x H)
  .exact iB b ys _ x d
theorem jW:∀(n:Nat) (x:C) (H:an),eU n (ef n x H) x
 |n,.f _,H=>by cases n<;>trivial
 |0,.ptr _ _ _,H=>trivial| 0,.sl _ _ _ _ _ _,H=>trivial| 0,.cl _ _,H=>trivial| 0,.yl _,H=>trivial| 0,.mp _,H=>trivial| 0,.it _,H=>trivial| 0,.bm _ _,H=>trivial| 0,.mi _,H=>trivial
 |n+1,.ptr b I F,H=>by
  simp only[ef];cases u:H[b]? with
  |none=>intro cs fl h;exfalso;simp only at h;exact absurd (u.symm.trans h) bv
  |some cP=>
   cases cP with
   |box d g=>
    intro cs fl h;have s:=(OF.1 u).1;simp only at h ⊢;have z:=jq.foldl (λH x=>nj n x H) d (H.set b (.box d (Nat.max g d.length)));obtain⟨blk',j,m⟩:=z.get (b:=b) (cP:=.box d (Nat.max g d.length)) (by simp[s]);rw[h]at j;cases j;obtain⟨rfl,q⟩:=m;exact⟨agK (ag4 _ _) q,λx v=>iB (λx H=>jW n x H) _ _ x v⟩
   |_=>intro cs fl h;simp only at h;rw[u]at h;cases h
 |n+1,.sl b o l c F sz,H=>by
  simp only[ef];cases u:H[b]? with
  |none=>intro cP h;exfalso;simp only at h;exact absurd (u.symm.trans h) bv
  |some cP=>
   have s:=(OF.1 u).1;cases cP with
   |box d g=>
    intro cP h;simp only at h ⊢;have z:=jq.foldl (λH x=>nj n x H) ((d.drop o).take (l*sz)) (H.set b (.box d (Nat.max g (o+l*sz))));obtain⟨blk',j,m⟩:=z.get (b:=b) (cP:=.box d (Nat.max g (o+l*sz))) (by simp[s]);rw[h]at j;cases j;cases cP<;>simp only[eh,reduceCtorEq]at m;obtain⟨rfl,q⟩:=m;exact⟨agK (ag4 _ _) q,λx v=>iB (λx H=>jW n x H) _ _ x v⟩
   |dj E d g B y=>
    intro cP h;simp only at h ⊢;have z:=jq.foldl (λH x=>nj n x H) ((d.drop o).take (l*sz)) (H.set b (.dj E d (Nat.max g (o+l*sz)) B y));obtain⟨blk',j,m⟩:=z.get (b:=b) (cP:=.dj E d (Nat.max g (o+l*sz)) B y) (by simp[s]);rw[h]at j;cases j;cases cP<;>simp only[eh,reduceCtorEq]at m;obtain⟨rfl,rfl,q,rfl,rfl⟩:=m;cases y<;>simp only;exact⟨agK (ag4 _ _) q,λx v=>iB (λx H=>jW n x H) _ _ x v⟩
   |_=>intro cP h;simp only at h;rw[u]at h;cases h;simp
 |n+1,.cl f A,H=>λx v=>iB (λx H=>jW n x H) _ _ x v
 |n+1,.yl _,H=>trivial| n+1,.mp _,H=>trivial| n+1,.it _,H=>trivial| n+1,.bm _ _,H=>trivial| n+1,.mi _,H=>trivial
end
section
variable{Q:Program}{σ:Nat->FuncId}{X:Wd}
def dV(H H':an):Prop:=∀(b:Nat) cP,H[b]?=aa cP->∃blk',H'[b]?=aa blk'/\eh cP blk'
theorem dV.refl(H:an):dV H H:=λ_ cP h=>⟨cP,h,eh.refl _⟩
theorem dV.trans{A B C:an}(h:dV A B)(k:dV B C):dV A C:=λb x d=>by
 obtain⟨y,hy,h1⟩:=h b x d;obtain⟨z,g,h2⟩:=k b y hy;exact⟨z,g,h1.trans h2⟩
theorem jq.ext{H H':an}(h:jq H H'):dV H H':=λ_ _ hb=>h.get hb
theorem dV.append(H H':an):dV H (H++H'):=λb cP hb=>⟨cP,by rw[AI (OF.1 hb).1];exact hb,eh.refl _⟩
theorem dV.len{H H':an}(h:dV H H'):H.length<=H'.length:=by
 rcases ahj H'.length H.length with d|b
 .obtain⟨y,hy,_⟩:=h H'.length _ (By d);simp_all
 .exact b
theorem SR.ahead(d:SR Q σ X){H':an}(h:dV X.H H'):SR Q σ { X with H:=H' }/\Ext X.H.length X { X with H:=H' }:=by
 have l:Ext X.H.length X { X with H:=H' }:=
  {B:=rfl,F:=λ_ _ h=>h,sy:=λ_ _ h=>.inl h,fw:=λ_ _ _=>rfl
   bH:=λb _ cP hb=>by
    obtain⟨blk',g,hl⟩:=h b cP hb;refine⟨blk',g,?_⟩;cases cP<;>cases blk'<;>simp only[eh,reduceCtorEq]at hl<;>simp_all
   AH:=λb L h=>.inl ⟨b,L,h,rfl⟩,size:=agn _,os:=rfl,tape:=rfl,output:=rfl,frame:=λ_ _ _=>rfl }
 refine⟨⟨λb L hb=>?_,d.inj,d.fb⟩,l⟩;obtain⟨h1,h2,cP,h3,h4⟩:=d.br b L hb;obtain⟨blk',h5,h6⟩:=h b cP h3;refine⟨h1,h2,blk',h5,?_⟩;have h7:BR Q σ { X with H:=H' } cP L:=BR.ext Q σ l rfl (λ_ h=>h) h4;cases cP<;>cases blk'<;>simp only[eh,reduceCtorEq]at h6
 .obtain⟨rfl,hl⟩:=h6;obtain⟨us,g1,g2,g3⟩:=h7;exact⟨us,g1,g2,λi hi=>g3 i (agK hl hi)⟩
 .obtain⟨rfl,rfl,hl,rfl,rfl⟩:=h6;obtain⟨j,us,rest,g1,g2,g3,g4,g5,g6⟩:=h7;exact⟨j,us,rest,g1,g2,g3,g4,g5,λi hi=>g6 i (agK hl hi)⟩
 all_goals (rw[<-h6];exact h7)
def B_:bO->Nat->Prop
 | .box cs fl,i=>i<fl/\i<cs.length| .dj _ cs fl _ _,i=>i<fl/\i<cs.length| _,_=>False
def FL(X:Wd):Prop:=∀b L i cP,X.di b=aa L->X.H[b]?=aa cP->B_ cP i->X.F L.c i
def Wd.flag(X:Wd):Wd:={ X with F:=λc i=>X.F c i\/∃b L cP,X.di b=aa L/\L.c=c/\X.H[b]?=aa cP/\B_ cP i }
theorem SR.flag(j:SR Q σ X):SR Q σ X.flag/\Ext X.H.length X X.flag/\FL X.flag:=by
 have g:Ext X.H.length X X.flag:=
  {B:=rfl,F:=λ_ _ h=>.inl h
   sy:=λc i h=>by
    rcases h with h|⟨b,L,cP,h1,h2,_⟩
    .simp_all
    .grind
   fw:=λ_ _ _=>rfl
   bH:=λb _=>by
    intro cP hb;refine⟨cP,hb,?_⟩;cases cP<;>simp[Wd.flag]
   AH:=λb L h=>.inl ⟨b,L,h,rfl⟩,size:=agn _,os:=rfl,tape:=rfl,output:=rfl,frame:=λ_ _ _=>rfl }
 refine⟨⟨λb L hb=>?_,j.inj,λc i h=>?_⟩,g,λb L i cP h1 h2 h3=>.inr ⟨b,L,cP,h1,rfl,h2,h3⟩⟩
 .obtain⟨h1,h2,cP,h3,h4⟩:=j.br b L hb;refine⟨h1,h2,cP,h3,?_⟩;have key:∀i,X.flag.F L.c i->X.F L.c i\/B_ cP i:=by
   rintro i (h|⟨v,x,blk',g1,g2,g3,g4⟩)
   .simp_all
   .have:v=b:=j.inj _ _ _ _ g1 hb g2;simp_all
  cases cP with
  |box cs fl=>
   obtain⟨us,g1,g2,g3⟩:=h4;exact⟨us,g1,A2.ext' σ g g2,λi hi l=>(key i l).elim (g3 i hi) λh=>by have:=h.1;omega⟩
  |dj sz cs fl y st=>
   obtain⟨u,us,rest,g1,g2,g3,g4,g5,g6⟩:=h4;exact⟨u,us,rest,g1,A2.ext' σ g g2,g3,g4,g5,λi hi l=>(key i l).elim (g6 i hi) λh=>by have:=h.1;omega⟩
  |map es=>exact BR.ext Q σ g rfl (λi h=>(key i h).elim id False.elim) h4
  |it s p=>exact BR.ext Q σ g rfl (λi h=>(key i h).elim id False.elim) h4
  |dQ b=>exact BR.ext Q σ g rfl (λi h=>(key i h).elim id False.elim) h4
  |Ff m s d=>exact BR.ext Q σ g rfl (λi h=>(key i h).elim id False.elim) h4
  |lp f t p a c st q d=>exact BR.ext Q σ g rfl (λi h=>(key i h).elim id False.elim) h4
 .rcases h with h|⟨b,L,cP,h1,h2,_⟩
  .exact j.fb c i h
  .rw[<-h2];exact(j.br b L h1).2.1
theorem iU{d g:Type}{f:d->Option g}:∀{xs:List d} {ys:List g},bu f xs=aa ys->A2 (λx y=>f x=aa y) xs ys
 |[],ys,h=>by simp only[bu,AT]at h;subst h;exact A2.nil
 |x::xs,ys,h=>by
  simp only[bu]at h;split at h
  .simp at h
  .rename_i y j;split at h
   .simp at h
   .rename_i l b;simp only[AT]at h;subst h;exact A2.cons j (iU b)
theorem Z3(hS:SR Q σ X)(hF:FL X){H:an}(S:dV H X.H):∀(n:Nat) {x:C} {y:FC} {v:Value},fh n H x=aa y->eU n H x->CR σ X x v->dC σ X.F X.w y v
 |n,.f x,y,v,d,_,B=>by
  have:fh n H (.f x)=aa x:=by cases n<;>rfl
  rw[this]at d;cases d;exact B
 |0,.ptr _ _ _,y,v,d,_,_=>by simp[fh]at d
 |0,.sl _ _ _ _ _ _,y,v,d,_,_=>by simp[fh]at d
 |0,.cl _ _,y,v,d,_,_=>by simp[fh]at d
 |0,.yl _,y,v,d,_,_=>by simp[fh]at d
 |0,.mp _,y,v,d,_,_=>by simp[fh]at d
 |0,.it _,y,v,d,_,_=>by simp[fh]at d
 |0,.bm _ _,y,v,d,_,_=>by simp[fh]at d
 |0,.mi _,y,v,d,_,_=>by simp[fh]at d
 |n+1,.ptr b c_ ep,y,v,d,hm,B=>by
  simp only[fh]at d;split at d
  .rename_i cs fl K;simp only[IT]at d;obtain⟨ys,g,rfl⟩:=d;obtain⟨N,I⟩:=hm cs fl K;obtain⟨blk',m,j⟩:=S b _ K;cases blk'<;>simp only[eh,reduceCtorEq]at j;obtain⟨rfl,j⟩:=j;rename_i fl';obtain⟨L,O,B⟩:=B;simp only[m]at B;subst B;obtain⟨_,_,cP,E,M⟩:=hS.br b L O;rw[m]at E;cases E;obtain⟨us,A,z,_⟩:=M;have g:=iU g;have:=dC.fp (σ:=σ) (F:=X.F) (w:=X.w) ys c_ L.c 0 us (by rw[<-z.len,g.len])
    (λi hi=>by rw[ahg];exact hF b L i _ O m ⟨by have:=g.len;omega,by have:=g.len;omega⟩)
    (λi u U=>by rw[ahg,fC A];exact U)
    (λi y u Y U=>by
     have hi:i<cs.length:=by rw[g.len];exact(OF.1 Y).1
     have W:=By hi;exact Z3 hS hF S n (g.2 i _ _ W Y) (I _ (IN hi)) (z.2 i _ _ W U))
   simp_all
  .simp at d
 |n+1,.sl b o l c ep sz,y,v,d,hm,B=>by
  have key:∀(cs:List C) (fl:Nat) (blk':bO) (L:Loc) (us rest:List Value) (ys:List FC) (cap:Nat),o+l*sz<=cs.length->o+l*sz<=fl->
    (∀i,i<fl->i<cs.length->B_ blk' i)->X.H[b]?=aa blk'->X.di b=aa L->rowAt X.w L.c (us++rest)->A2 (CR σ X) cs us->
    (∀x∈(cs.drop o).take (l*sz),eU n H x)->bu (fh n H) ((cs.drop o).take (l*sz))=aa ys->l<=cap->dC σ X.F X.w (.fs ys l) (.slice (aa ⟨L.c,o,ab⟩) l cap):=by
   intro cs fl blk' L us rest ys cap q N Z m O A z I g J;have g:=iU g;have d9:=z.len;have c9:ys.length=l*sz:=by rw[<-g.len];simp;omega
   have b_:=(z.drop o).take (l*sz);refine .fs ys l L.c o cap ((us.drop o).take (l*sz)) J (by rw[c9];simp;omega) (λi hi=>hF b L _ _ O m (Z _ ap ap)) (λi u U=>?_) (λi y u Y U=>?_)
   .have hi:i<l*sz:=by
     grind
    rw[fC A,AI ap];simp_all
   .have hi:i<((cs.drop o).take (l*sz)).length:=by rw[g.len];exact(OF.1 Y).1
    have W:=By hi;exact Z3 hS hF S n (g.2 i _ _ W Y) (I _ (IN hi)) (b_.2 i _ _ W U)
  simp only[fh]at d;simp only[CR,iL]at B;split at d
  .rename_i cs fl K;split at d
   .rename_i q;simp only[IT]at d;obtain⟨ys,g,rfl⟩:=d;obtain⟨N,I⟩:=hm _ K;obtain⟨blk',m,j⟩:=S b _ K;cases blk'<;>simp only[eh,reduceCtorEq]at j;obtain⟨rfl,j⟩:=j;rename_i fl';simp only[m]at B;obtain⟨L,O,J,rfl⟩:=B;obtain⟨_,_,cP,E,M⟩:=hS.br b L O;rw[m]at E;cases E;obtain⟨us,A,z,_⟩:=M;exact key cs fl (.box cs fl') L us [] ys c q N (λi h1 h2=>⟨ap,h2⟩) m O (by simpa using A) z I g J
   .simp_all
  .rename_i s cs fl e K;split at d
   .rename_i q;obtain⟨rfl,rfl,q⟩:=q;simp only[IT]at d;obtain⟨ys,g,rfl⟩:=d;obtain⟨N,I⟩:=hm _ K;obtain⟨blk',m,j⟩:=S b _ K;cases blk'<;>simp only[eh,reduceCtorEq]at j;obtain⟨rfl,rfl,j,rfl,rfl⟩:=j;rename_i fl';simp only[m]at B;obtain⟨L,O,k,ho,J,rfl⟩:=B.2.1 trivial trivial;obtain⟨_,_,cP,E,M⟩:=hS.br b L O;rw[m]at E;cases E;obtain⟨_,us,rest,A,z,_⟩:=M;exact key cs fl (.dj sz cs fl' ep .loc) L us rest ys _ q N (λi h1 h2=>⟨ap,h2⟩) m O A z I g ap
   .simp_all
  .rename_i s cs fl e K;split at d
   .rename_i q;obtain⟨rfl,rfl⟩:=q;cases d;obtain⟨blk',m,j⟩:=S b _ K;cases blk'<;>simp only[eh,reduceCtorEq]at j;obtain⟨rfl,rfl,j,rfl,rfl⟩:=j;simp only[m]at B;obtain⟨_,_,rfl⟩:=B.2.1 trivial trivial;exact .aJ
   .simp_all
  .rename_i s cs fl e K;split at d
   .rename_i q;obtain⟨rfl,rfl⟩:=q;cases d;obtain⟨blk',m,j⟩:=S b _ K;cases blk'<;>simp only[eh,reduceCtorEq]at j;obtain⟨rfl,rfl,j,rfl,rfl⟩:=j;simp only[m]at B;obtain⟨_,_,a,rfl⟩:=B.2.1 trivial trivial;exact .es a
   .simp_all
  .simp at d
 |n+1,.cl f a_,y,v,d,hm,B=>by
  simp only[fh,IT]at d;obtain⟨ys,g,rfl⟩:=d;obtain⟨us,rfl,z⟩:=B;have g:=iU g;refine .fn f ys us (by rw[<-z.len,g.len]) λi y u Y U=>?_;have hi:i<a_.length:=by rw[g.len];exact(OF.1 Y).1
  have W:=By hi;exact Z3 hS hF S n (g.2 i _ _ W Y) (hm _ (IN hi)) (CR.SD σ (z.2 i _ _ W U))
 |n+1,.yl _,y,v,d,_,_=>by simp[fh]at d
 |n+1,.mp _,y,v,d,_,_=>by simp[fh]at d
 |n+1,.it _,y,v,d,_,_=>by simp[fh]at d
 |n+1,.bm _ _,y,v,d,_,_=>by simp[fh]at d
 |n+1,.mi _,y,v,d,_,_=>by simp[fh]at d
end
section
variable{Q:Program}{σ:Nat->FuncId}{X:Wd}
theorem SR.skip(g:SR Q σ X){w':World}{o:Obj}(d:fA X.w w' o)(m:X.B<=X.w.heap.size):∃X':Wd,X'.w=w'/\X'.H=X.H/\SR Q σ X'/\Ext X.H.length X X'/\X'.B<=X'.w.heap.size:=by
 have j:Ext X.H.length X { X with w:=w' }:=Ext.one g X.H.length rfl (λ_ _=>Iff.rfl) (λk l _=>d.Fg l)
  (λL i h=>by rw[SR.uS g]at h;simp at h) (λh=>absurd h (aiu _)) (λ_ _ _=>rfl) (λ_ _=>rfl) (λL h=>.inl ⟨L,h,rfl⟩) (by show _<=w'.heap.size;rw[d.size];omega) d.os d.tape d.output
 refine⟨{ X with w:=w' },rfl,rfl,SR.step Q σ g j X.H.length (λ_ _=>rfl) (λ_ _=>rfl) (λb L _ hb=>d.Fg (g.br b L hb).2.1)
  (λ_ _ _ _ _ h=>h) (λL h=>by change X.di X.H.length=aa L at h;rw[SR.uS g]at h;simp at h) (λc i h=>?_),j,?_⟩
 .have:=g.fb c i h;show c<w'.heap.size;rw[d.size];omega
 .show X.B<=w'.heap.size;rw[d.size];omega
theorem wrap_small{n:Int}(b:0<=n)(d:n<2 ^ 63):IntKind.i64.wrap n=n:=by
 have:n % (2 ^ 64:Int)=n:=Int.emod_eq_of_lt b ap;simp only[IntKind.wrap,IntKind.bits,IntKind.signed,this,Bool.true_and,decide_eq_true_eq];omega
theorem G5(hS:SR Q σ X)(hB:X.B<=X.w.heap.size){a:Act}{aN:T}(hR:RR σ X aN a.tmps){o:Oper}{sz bytes:Nat}{zs:List FC}{x y:Arg}(F:fk Q σ o (.fI sz bytes zs x y)=ae){v:V}{H':an}
  (h:cm aN X.H (.fI sz bytes zs x y)=aa (v,H')):jN Q σ X v H' (execOp a.eval o):=by
 simp only[fk]at F;split at F
 .rename_i t x' y' ho;simp only[IS,decide_eq_true_eq]at F;obtain⟨⟨⟨f,p⟩,O⟩,c9⟩:=F;have f:=cK hR f;have p:=cK hR p;obtain⟨e,hu,O⟩:=kh O;simp only[IS]at O;obtain⟨⟨j,Y⟩,hz⟩:=O;obtain⟨z,us,w,a_,M,g_,d9,d_⟩:=gH (σ:=σ) (X:=X) hz X.w;obtain⟨c_,u,A⟩:=CI Y X.w;simp only[cm]at h;split at h
  .rename_i l c hl hc;obtain⟨kl,k⟩:=lI f hl;obtain⟨kc,r⟩:=lI p hc;split at h
   .rename_i s;obtain⟨h0,e_,g,f_⟩:=s;unfold cD at g;simp only[IS,decide_eq_true_eq]at g;have J:us.length=sz:=by have:=M.len;simp at this;omega
    have L:=wrap_small (n:=l) h0 ap;have K:=wrap_small (n:=c) ap ap;have b_:c.toNat*bytes<=2 ^ 48:=by
     grind
    have m:¬ ((bytes:Int)*c>2 ^ 48):=by
     grind
    have I:((Array.range (c.toNat*sz)).map λi=>us.toArray[i % us.toArray.size]!)=(dJ c.toNat us).toArray:=by
     have:=kQ us c.toNat ap;rwa[J]at this
    have run:(execOp a.eval o).run Q X.w=.ok (.value (.slice (aa ⟨X.w.heap.size,0,ab⟩) l.toNat c.toNat)) (X.w.alloc (.cells (dJ c.toNat us).toArray e)):=by
     simp only[execOp,ho];refine fL ?_;rw[k,r];have B:¬ c<0:=by omega
     have E:¬ l<0:=by omega
     have q:¬ l>c:=by omega
     by_cases d:c.toNat*sz=0
     .have Z:dJ c.toNat us=[]:=agC (by rw[nT,J];exact d);have b:((decide (c<0)||decide ((bytes:Int)*c>2 ^ 48))||decide (l<0)||decide (l>c))=ag:=by rw[decide_eq_false B,decide_eq_false E,decide_eq_false q,decide_eq_false m];rfl
      simp only[Instr.makeSlice,Sem.run_bind,bI hu,asInt,asIntOf,Sem.run_pure,Result.andThen_ok,u,A,L,K,run_askRoom,dS j];simp only[b,agH,if_false,Sem.run_ite,bZ d,Sem.run_bind,Result.andThen_ok,Sem.run_pure,run_askRoom,dS j,newRow,run_newObj];rw[d,Z,show(Array.map (λx=>(#[]:Array Value)[x % (#[]:Array Value).size]!) (Array.range 0))=#[] from by simp[show Array.range 0=(#[]:Array Nat) from rfl]];rfl
     .simp only[Instr.makeSlice,Sem.run_bind,bI hu,asInt,asIntOf,Sem.run_pure,Result.andThen_ok,u,A,L,K,run_askRoom,dS j];have b:((decide (c<0)||decide ((bytes:Int)*c>2 ^ 48))||decide (l<0)||decide (l>c))=ag:=by rw[decide_eq_false B,decide_eq_false E,decide_eq_false q,decide_eq_false m];rfl
      simp only[b,agH,if_false,Sem.run_ite,ct d,Sem.run_bind,w,a_,Result.andThen_ok,Sem.run_pure,run_askRoom,dS j,I,newRow,run_newObj];rfl
    split at h
    .rename_i d;subst d;simp only[AT,agk]at h;obtain⟨rfl,rfl⟩:=h;have:l=0:=by omega
     subst this;obtain⟨X',S,N,U,W,g5⟩:=SR.skip hS (fA.alloc X.w (.cells (dJ (0:Int).toNat us).toArray e)) hB;exact⟨_,X',.inl (by rw[S];exact run),N,U,dC.es _,W,g5⟩
    .simp only[AT,agk]at h;obtain⟨rfl,rfl⟩:=h;obtain⟨X',S,N,U,W,g5,g6⟩:=G7 hS hB (mz M c.toNat) e;refine⟨_,X',.inl (by rw[S];exact run),N,U,?_,W,g6⟩;have H:X'.H[X.H.length]?=aa (.box ((dJ c.toNat zs).map .f) 0):=by rw[N];simp
     simp only[VR,jO,CR,iL,H]
     grind
   .simp at h
  .simp at h
 .simp at F
theorem YL(H:an):∀x,fh 0 H x=fcC x:=λx=>by cases x<;>rfl
theorem UD(J:SR Q σ X)(hB:X.B<=X.w.heap.size){a:Act}{aN:T}(I:RR σ X aN a.tmps){o:Oper}{sz:Nat}{x hi mx:Arg}(B:fk Q σ o (.yT sz x hi mx)=ae){v:V}{H':an}
  (h:cm aN X.H (.yT sz x hi mx)=aa (v,H')):jN Q σ X v H' (execOp a.eval o):=by
 simp only[fk]at B;split at B
 .rename_i t y U mx' ho;simp only[IS,decide_eq_true_eq]at B;obtain⟨⟨⟨⟨u,h2⟩,h3⟩,he⟩,hz⟩:=B;obtain⟨e,hu,E⟩:=kh he;simp only[cm]at h;unfold Bl at h;have o1:OR X σ ab ab:=trivial;have o2:OR X σ (aa (hi.ev aN)) (aa (a.eval U)):=cK I h2;have o3:OR X σ (aa (mx.ev aN)) (aa (a.eval mx')):=cK I h3;have u:=cK I u;split at h
  .rename_i v' hv;simp only[AT,agk]at h;obtain⟨rfl,rfl⟩:=h;obtain⟨r,F,h5⟩:=Bm J hu E u o1 o2 o3 hv;exact⟨r,X,.inl (by simp only[execOp,ho];exact fL F),rfl,J,h5,Ext.refl _ _,hB⟩
  .split at h
   .rename_i b o' n c' l s d_;rw[d_]at u;simp only[VR,jO,CR,iL]at u;split at h
    .rename_i d cs fl e' K;rw[K]at u;split at h
     .rename_i N;obtain⟨rfl,rfl,rfl,rfl⟩:=N;split at h
      .rename_i i j A Z;split at h
       .rename_i Y;obtain⟨rfl,h_,g_⟩:=Y;split at h
        .rename_i ys e_;simp only[AT,agk]at h;obtain⟨rfl,rfl⟩:=h;obtain⟨L,hL,k,hk,i7,d9⟩:=u.2.1 rfl rfl;have a_:k=0:=by
          rcases Nat.eq_zero_or_pos k with h|h
          .omega
          .have:=Nat.mul_pos h hz;omega
         subst a_;have i6:i<=n:=by
          unfold Dx at A
          grind
         have M:cz n n ab (aa (hi.ev aN)) (aa (mx.ev aN))=aa (0,i,i):=by
          have W:Dx (hi.ev aN) i=aa i:=by
           unfold Dx at A ⊢
           grind
          simp[cz,Z,W]
         obtain⟨F,_,_,_⟩:=eQ (Q:=Q) o1 o2 o3 M (cap:=L.cap) ap (agn n) ae X.w;have h6:=fZ (a:=aa ⟨L.c,0,ab⟩) hu E F;have b_:jq X.H (X.H.set b (.dj d cs (Nat.max fl (i*d)) l .loc)):=jq.set K ⟨rfl,rfl,ahc _ _,rfl,rfl⟩;obtain⟨g1,g2⟩:=SR.ahead J b_.ext;obtain⟨g3,g4,g5⟩:=SR.flag g1;have c9:=(OF.1 K).1;have m:(X.H.set b (.dj d cs (Nat.max fl (i*d)) l .loc))[b]?=aa (.dj d cs (Nat.max fl (i*d)) l .loc):=by simp[c9]
         have S:fh 1 (X.H.set b (.dj d cs (Nat.max fl (i*d)) l .loc)) (.sl b 0 i 0 l d)=aa (.fs ys i):=by
          simp only[fh,m];rw[bZ ⟨trivial,trivial,ap⟩,ij (g:=fcC) λx _=>YL _ x,List.drop_zero,e_];rfl
         have c_:eU 1 (X.H.set b (.dj d cs (Nat.max fl (i*d)) l .loc)) (.sl b 0 i 0 l d):=by
          intro cP q;rw[m]at q;cases q;refine⟨by have:=ag4 fl (i*d);simp only[ahg];exact this,λx _=>?_⟩;cases x<;>trivial
         have O:CR σ ({ X with H:=X.H.set b (.dj d cs (Nat.max fl (i*d)) l .loc) }:Wd).flag (.sl b 0 i 0 l d) (.slice (aa ⟨L.c,0,ab⟩) i L.cap):=by
          simp only[CR,iL,Wd.flag,m];exact⟨agn _,λ_ _=>⟨L,hL,0,ap,ap,bv⟩,_,_,_,rfl⟩
         have hf:=Z3 g3 g5 (dV.refl _) 1 S c_ O;have z:dC σ ({ X with H:=X.H.set b (.dj d cs (Nat.max fl (i*d)) l .loc) }:Wd).flag.F X.w (.fs ys i) (.slice (aa ⟨L.c,0,ab⟩) i i):=by
          cases hf with
          |fs _ _ c o2 cap us f_ hl hF N hr=>exact .fs _ _ _ _ _ us (agn _) hl hF N hr| Vn a2 cap=>omega
         refine⟨.slice (aa ⟨L.c,0,ab⟩) i i,({ X with H:=X.H.set b (.dj d cs (Nat.max fl (i*d)) l .loc) }:Wd).flag,.inl ?_,rfl,g3,z,g2.trans (g4.mono bv),hB⟩;simp only[execOp,ho];refine fL ?_;rw[d9];simp[show i≠0 by omega,fK]at h6
         assumption
        .simp_all
       .simp_all
      .simp_all
     .simp_all
    .simp_all
   .simp at h
 .simp at B
theorem ZM(d:SR Q σ X)(g:X.B<=X.w.heap.size){a:Act}{aN:T}(j:RR σ X aN a.tmps){o:Oper}{op:dW}(b:fk Q σ o op=ae){v:V}{H':an}
  (h:cm aN X.H op=aa (v,H')):jN Q σ X v H' (execOp a.eval o):=by
 cases m:op.Z4
 case true=>
  cases op<;>simp only[dW.Z4,reduceCtorEq]at m;obtain⟨rfl,u,X',B,E,F,H,I,J,_⟩:=AD d g j b h;exact⟨u,X',.inl B,E,F,H,I,J⟩
 by_cases s:cls op=.p\/cls op=.r
 .exact jN.acQ g d (VC d j b s m h)
 .cases op with
  |pre st sz=>exact Zu d g b h
  |alloc zs=>
   simp only[cm,AT,agk]at h;obtain⟨rfl,rfl⟩:=h;exact P3 d g b
  |box x=>
   simp only[cm]at h;split at h
   .rename_i xs q;simp only[AT,agk]at h;obtain⟨rfl,rfl⟩:=h;exact Yu d g j b q
   .simp at h
  |ft sz zs n ps=>exact KM d g j b h| store n x y=>exact Si d g j b h
  |oS=>
   simp only[cm,AT,agk]at h;obtain⟨rfl,rfl⟩:=h;exact Rk d g b
  |pO K x y z=>exact Re d g j b h| fI sz l zs x y=>exact G5 d g j b h| range x=>exact RM d g j b h| next x=>exact Uq d g j b h
  |append sz l x y=>exact KK d g j b h| Tw x=>simp[fk]at b| copy sz x y=>simp[fk]at b| clear sz zs x=>exact Qf d g j b h| rD sz l zs x y=>exact Td d g j b h| mq x=>exact Mw d g j b h| yT sz x y z=>exact UD d g j b h| pS x=>exact Rp d g j b h| call f xs A=>simp[cm]at h| jc x xs A=>simp[cm]at h| recover=>simp[cm]at h| defer x xs=>simp[cm]at h| bad=>simp[cm]at h| _=>exact absurd (by simp[cls]) s
end
section
variable{Q:Program}{σ:Nat->FuncId}{X:Wd}
def oh(n:Nat)(H:an):V->Prop
 | .c x=>eU n H x| .a xs=>∀x∈xs,eU n H x| _=>True
theorem oh.le{n:Nat}{H H':an}(h:jq H H'){v:V}(b:oh n H v):oh n H' v:=by
 cases v with
 |c x=>exact eU.le n h b| a xs=>exact λx d=>eU.le n h (b x d)
 |_=>trivial
theorem Y7(n:Nat)(v:V)(H:an):jq H (Um n H v):=by
 cases v with
 |c x=>exact nj n x H| a xs=>exact jq.foldl (λH x=>nj n x H) xs H
 |_=>exact jq.refl H
theorem G4(n:Nat)(v:V)(H:an):oh n (Um n H v) v:=by
 cases v with
 |c x=>exact jW n x H| a xs=>exact λx b=>iB (λx H=>jW n x H) xs H x b
 |_=>trivial
theorem tn(n:Nat):∀(b:List V) (H:an),jq H (b.foldl (Um n) H)
 |[],H=>jq.refl H| v::b,H=>(Y7 n v H).trans (tn n b _)
theorem vJ(n:Nat):∀(b:List V) (H:an),∀v∈b,oh n (b.foldl (Um n) H) v
 |u::b,H,v,d=>by
  rcases agA.1 d with rfl|d
  .exact(G4 n v H).le (tn n b _)
  .exact vJ n b _ v d
def FV1(σ:Nat->FuncId)(F:Nat->Nat->Prop)(w:World)(v:V)(u:Value):Prop:=∀X:Wd,X.F=F->X.w=w->jO σ X v u
def FV(σ:Nat->FuncId)(F:Nat->Nat->Prop)(w:World)(v:V)(u:Value):Prop:=∀X:Wd,X.F=F->X.w=w->VR σ X v u
theorem Vm(z:SR Q σ X)(q:FL X){H:an}(s:dV H X.H){n:Nat}{v F:V}{u:Value}(d:dq n H v=aa F)(A:oh n H v)(B:jO σ X v u):FV1 σ X.F X.w F u:=by
 intro Z g j;cases v with
 |c x=>
  simp only[dq,IT]at d;obtain⟨y,m,rfl⟩:=d;have:=Z3 z q s n m A B;rw[<-g,<-j]at this;exact this
 |a xs=>
  simp only[dq,IT]at d;obtain⟨ys,b,rfl⟩:=d;obtain⟨us,rfl,l⟩:=B;have b:=iU b;refine⟨us,rfl,A2.map ⟨by rw[<-l.len,b.len],λi y u m I=>?_⟩⟩;have hi:i<xs.length:=by rw[b.len];exact(OF.1 m).1
  have E:=By hi;have:=Z3 z q s n (b.2 i _ _ E m) (A _ (IN hi)) (l.2 i _ _ E I);rw[<-g,<-j]at this;exact this
 |top=>simp[dq]at d| t J=>simp[dq]at d
def bO.full:bO->bO
 | .box cs fl=>.box cs (Nat.max fl cs.length)| .dj s cs fl e st=>.dj s cs (Nat.max fl cs.length) e st| b=>b
theorem Ca(H:an):jq H (H.map bO.full):=by
 refine⟨bv,λb x y g d=>?_⟩;rw[ahp,g]at d;simp only[ag1,AT]at d;subst d;cases x<;>simp[eh,bO.full,ahc]
theorem jd:∀(n:Nat) {H:an} {x:C} {y:FC},fh n H x=aa y->eU n (H.map bO.full) x
 |n,H,.f _,y,_=>by cases n<;>trivial
 |0,H,.ptr _ _ _,y,_=>trivial| 0,H,.sl _ _ _ _ _ _,y,_=>trivial| 0,H,.cl _ _,y,_=>trivial| 0,H,.yl _,y,_=>trivial| 0,H,.mp _,y,_=>trivial| 0,H,.it _,y,_=>trivial| 0,H,.bm _ _,y,_=>trivial| 0,H,.mi _,y,_=>trivial
 |n+1,H,.ptr b B A,y,d=>by
  intro cs fl j;rw[ahp]at j;simp only[fh]at d;split at d
  .rename_i cs' fl' g;rw[g]at j;simp only[ag1,AT,bO.full,bO.box.injEq]at j;obtain⟨rfl,rfl⟩:=j;simp only[IT]at d;obtain⟨ys,m,rfl⟩:=d;refine⟨ag4 _ _,λx u=>?_⟩;obtain⟨i,hi⟩:=ahI u;obtain⟨y,_,v⟩:=(iU m).get hi;exact jd n v
  .simp at d
 |n+1,H,.sl b o l c A sz,y,d=>by
  intro cP j;rw[ahp]at j;simp only[fh]at d;split at d
  .rename_i cs' fl' g;rw[g]at j;simp only[ag1,AT,bO.full]at j;subst j;split at d
   .rename_i q;simp only[IT]at d;obtain⟨ys,m,rfl⟩:=d;refine⟨agK q (ag4 _ _),λx u=>?_⟩;obtain⟨i,hi⟩:=ahI u;obtain⟨y,_,v⟩:=(iU m).get hi;exact jd n v
   .simp_all
  .rename_i s cs' fl' e g;rw[g]at j;simp only[ag1,AT,bO.full]at j;subst j;split at d
   .rename_i q;simp only[IT]at d;obtain⟨ys,m,rfl⟩:=d;refine⟨agK q.2.2 (ag4 _ _),λx u=>?_⟩;obtain⟨i,hi⟩:=ahI u;obtain⟨y,_,v⟩:=(iU m).get hi;exact jd n v
   .simp_all
  .rename_i s cs' fl' e g;rw[g]at j;simp only[ag1,AT,bO.full]at j
   grind
  .rename_i s cs' fl' e g;rw[g]at j;simp only[ag1,AT,bO.full]at j
   grind
  .simp at d
 |n+1,H,.cl f z,y,d=>by
  simp only[fh,IT]at d;obtain⟨ys,m,rfl⟩:=d;intro x u;obtain⟨i,hi⟩:=ahI u;obtain⟨y,_,v⟩:=(iU m).get hi;exact jd n v
 |n+1,H,.yl _,y,d=>trivial| n+1,H,.mp _,y,d=>trivial| n+1,H,.it _,y,d=>trivial| n+1,H,.bm _ _,y,d=>trivial| n+1,H,.mi _,y,d=>trivial
theorem Cb{n:Nat}{H:an}{v l:V}(b:dq n H v=aa l):oh n (H.map bO.full) v:=by
 cases v with
 |c x=>
  simp only[dq,IT]at b;obtain⟨y,d,rfl⟩:=b;exact jd n d
 |a xs=>
  simp only[dq,IT]at b;obtain⟨ys,g,rfl⟩:=b;intro x j;obtain⟨i,hi⟩:=ahI j;obtain⟨y,_,d⟩:=(iU g).get hi;exact jd n d
 |_=>trivial
def Wd.inner(X:Wd):Wd:=⟨λ_=>ab,X.F,[],X.w,X.w.heap.size⟩
theorem SR.inner(d:SR Q σ X):SR Q σ X.inner:=⟨λb L h=>by simp[Wd.inner]at h,λb j L g h=>by simp[Wd.inner]at h,d.fb⟩
def Wd.mn(Y:Wd):Wd:=Wd.flag { Y with H:=Y.H.map bO.full }
theorem SR.mn{Y:Wd}(b:SR Q σ Y):SR Q σ Y.mn/\Ext Y.H.length Y Y.mn/\FL Y.mn:=by
 obtain⟨h1,h2⟩:=SR.ahead b (Ca Y.H).ext;obtain⟨h3,h4,h5⟩:=SR.flag h1;exact⟨h3,h2.trans (h4.mono bv),h5⟩
theorem Gy{Y:Wd}(I:SR Q σ Y){n:Nat}{v g:V}{u:Value}(b:jh n Y.H v=aa g)(z:VR σ Y v u):FV σ Y.mn.F Y.w g u:=by
 obtain⟨E,F,H⟩:=SR.mn I;have m:=VR.ext' σ F z;have one:∀{v g:V} {u:Value},dq n Y.H v=aa g->jO σ Y.mn v u->FV1 σ Y.mn.F Y.w g u:=by
  intro v g u b z;have s:dq n Y.mn.H v=aa g:=by
   show dq n (Y.H.map bO.full) v=aa g;cases v with
   |c x=>simp only[dq]at b ⊢;rw[pG n (Ca Y.H)];exact b| a xs=>simp only[dq]at b ⊢;rw[ij (λx _=>pG n (Ca Y.H) x)];exact b
   |_=>simp[dq]at b
  exact Vm E H (dV.refl _) s (Cb b) z
 intro Z j l;cases v with
 |t K=>
  simp only[jh,IT]at b;obtain⟨L,d,rfl⟩:=b;obtain⟨us,rfl,q⟩:=m;have d:=iU d;refine⟨us,rfl,by rw[<-q.len,d.len],λi y u B J=>?_⟩;have hi:i<K.length:=by rw[d.len];exact(OF.1 B).1
  have A:=By hi;exact one (d.2 i _ _ A B) (q.2 i _ _ A J) Z j l
 |c x=>exact VR.SD σ (one (v:=.c x) b m Z j l)| a xs=>exact VR.SD σ (one (v:=.a xs) b m Z j l)| top=>simp[jh,dq]at b
theorem SR.outer(q:SR Q σ X)(u:X.B<=X.w.heap.size){Y:Wd}(s:SR Q σ Y)(d:Ext 0 X.inner Y) :
  SR Q σ { X with F:=Y.mn.F,w:=Y.w }/\Ext X.H.length X { X with F:=Y.mn.F,w:=Y.w }/\X.B<=Y.w.heap.size:=by
 obtain⟨h1,h2,h3⟩:=SR.mn s;have vW:X.w.heap.size<=Y.w.heap.size:=d.size;have g:∀k,k<X.w.heap.size->Y.w.heap[k]?=X.w.heap[k]?:=λk m=>d.frame k m (λb L h=>by simp[Wd.inner]at h);have l:∀c i,Y.mn.F c i->X.F c i\/X.w.heap.size<=c:=by
  intro c i h;rcases h2.sy c i h with h|h|⟨b,L,hb,rfl⟩
  .rcases d.sy c i h with h|h|⟨b,L,hb,_⟩
   .exact .inl h
   .exact .inr h
   .simp[Wd.inner]at hb
  .omega
  .have:=(s.br b L hb).1;rw[d.B]at this;exact .inr this
 have j:Ext X.H.length X { X with F:=Y.mn.F,w:=Y.w }:=
  {B:=rfl,F:=λc i h=>h2.F c i (d.F c i h)
   sy:=λc i h=>(l c i h).elim .inl λh=>.inr (.inl h)
   fw:=λc i h=>d.fw c i h
   bH:=λb _ cP hb=>⟨cP,hb,by cases cP<;>simp⟩
   AH:=λb L h=>.inl ⟨b,L,h,rfl⟩,size:=vW,os:=d.os,tape:=d.tape,output:=d.output,frame:=λk m _=>g k m }
 refine⟨⟨λb L hb=>?_,q.inj,λc i h=>h1.fb c i h⟩,j,agK u vW⟩;obtain⟨g1,g2,cP,g3,g4⟩:=q.br b L hb;refine⟨g1,ahz g2 vW,cP,g3,BR.ext Q σ j (g _ g2) (λi h=>?_) g4⟩
 grind
end
section
variable{Q:Program}{σ:Nat->FuncId}{X:Wd}
def iw(Q:Program)(σ:Nat->FuncId)(X:Wd)(v:V)(H':an)(X':Wd)(u:Value):Prop:=
 X'.H=H'/\SR Q σ X'/\VR σ X' v u/\Ext X.H.length X X'/\X'.B<=X'.w.heap.size
def rU(b:CallKind)(cs:List Frame):Prop:=b=.normal\/(b=.deferred/\∃c rest,cs=c::rest/\c.mode=.returning)
def lN(b:Frame)(cs:List Frame):Prop:=rU b.kind cs
theorem rU.Mn{fr:Frame}{cs:List Frame}(h:rU fr.kind cs):tryRecover fr cs=ab:=by
 unfold tryRecover;rcases h with h|⟨h,c,rest,rfl,b⟩
 .rw[h]
 .simp_all
def Leaves(Q:Program)(f:FuncId)(d:CallKind)(b:Frame)(u:Value)(w:World):Prop:=
 b.mode=.returning/\b.defers=[]/\b.kind=d/\b.fn=f/\∃fn,Q.funcs[f]?=aa fn/\(Go.results fn b.tmps).run Q w=.ok u w
structure gZ(Q:Program)(σ:Nat->FuncId)(call:ey):Prop where
 enters:∀f args H r,call (.fn f) args H=aa r->∀as w,(callFunc (σ f) as).run Q w=.ok (.enter (σ f) as) w
 fn:∀f args H r H',call (.fn f) args H=aa (r,H')->∀(X:Wd) us kind cs,X.H=H->SR Q σ X->X.B<=X.w.heap.size->A2 (VR σ X) args us->rU kind cs->kind=.normal\/f≠uF->
  ∃fr X' u,Steps Q (lone (Frame.enter Q (σ f) us.toArray kind) cs X.w) (lone fr cs X'.w)/\Leaves Q (σ f) kind fr u X'.w/\iw Q σ X r H' X' u
 yield:∀b args H r H',call (.yield b) args H=aa (r,H')->∀(X:Wd) us c cs L,X.H=H->SR Q σ X->X.B<=X.w.heap.size->A2 (VR σ X) args us->X.di b=aa L->
  ∃f tmps as bd X' u,(Instr.yield L.c us.toArray).run Q X.w=.ok (.round L.c f tmps as bd) X.w/\
   Steps Q (lone (Frame.round L.c f tmps as bd .normal) (c::cs) X.w) (lone (c.finish u) cs X'.w)/\iw Q σ X r H' X' u
def dO(Q:Program)(σ:Nat->FuncId)(X:Wd)(o:Oper)(a:Act)(v:V)(H':an):Prop:=
 ∀(b:Frame) (ops:Array Oper) (i:Nat) (rest:List Nat) (k:List Item) (cs:List Frame),ops[i]?=aa o->Region.wanted o (yielded ops a.tmps)=ae->lN b cs->
  ∃X' u,Steps Q (lone (b.atR a (.inRegion ops (i::rest)::k)) cs X.w) (lone (b.atR (a.put o.dst u) (.inRegion ops rest::k)) cs X'.w)/\iw Q σ X v H' X' u
theorem dO.acP{o:Oper}{a:Act}{v:V}{H':an}(hd:∀c,o.op≠.defer c)(h:jN Q σ X v H' (execOp a.eval o)):dO Q σ X o a v H':=by
 intro b ops i rest k cs ho j l;obtain⟨u,X',d,h1,h2,h3,h4,h5⟩:=h;refine⟨X',u,.one (step_lone_go ?_),h1,h2,h3,h4,h5⟩;rw[stepGR_op ho j,Oper.semAt_eq _ _ _ hd];have g:=Frame.finish_atR b a ops i rest k u;rw[ho]at g;simp only[ag8]at g;rw[<-g];rcases d with d|⟨d,rfl⟩<;>simp[stepG.apply,Sem.runT_eq,d]
theorem dO.yk{o:Oper}{a:Act}{v:V}{H':an}(hd:∀c,o.op≠.defer c){f:FuncId}{us:Array Value}(g:(execOp a.eval o).run Q X.w=.ok (.enter f us) X.w)
  (h:∀cs,∃fr X' u,Steps Q (lone (Frame.enter Q f us .normal) cs X.w) (lone fr cs X'.w)/\Leaves Q f .normal fr u X'.w/\iw Q σ X v H' X' u):dO Q σ X o a v H':=by
 intro b ops i rest k cs ho j x;obtain⟨fr,X',u,h1,⟨l1,l2,l,m,fn,q,s⟩,h3⟩:=h (b.atR a (.inRegion ops (i::rest)::k)::cs);refine⟨X',u,.head (step_lone_go (fr':=Frame.enter Q f us .normal) (cs':=b.atR a (.inRegion ops (i::rest)::k)::cs) (w':=X.w) ?_) (h1.trans (.one ?_)),h3⟩
 .rw[stepGR_op ho j,Oper.semAt_eq _ _ _ hd];simp[stepG.apply,Sem.runT_eq,g,Frame.atR]
 .have d:=Frame.finish_atR b a ops i rest k u;rw[ho]at d;simp only[ag8]at d;rw[<-d];exact step_leave_returned ⟨l1,l2,l,fn,by rw[m];exact q,s⟩
theorem dO.Ru{o:Oper}{a:Act}{v:V}{H':an}(hd:∀c,o.op≠.defer c){l:Nat}{f:FuncId}{tmps:Array Value}{as bd:Code}(d:(execOp a.eval o).run Q X.w=.ok (.round l f tmps as bd) X.w)
  (h:∀c cs,∃X' u,Steps Q (lone (Frame.round l f tmps as bd .normal) (c::cs) X.w) (lone (c.finish u) cs X'.w)/\iw Q σ X v H' X' u):dO Q σ X o a v H':=by
 intro b ops i rest k cs ho j m;obtain⟨X',u,h1,h3⟩:=h (b.atR a (.inRegion ops (i::rest)::k)) cs;refine⟨X',u,.head (step_lone_go (fr':=Frame.round l f tmps as bd .normal) (cs':=b.atR a (.inRegion ops (i::rest)::k)::cs) (w':=X.w) ?_) ?_,h3⟩
 .rw[stepGR_op ho j,Oper.semAt_eq _ _ _ hd];simp[stepG.apply,Sem.runT_eq,d,Frame.atR]
 .have g:=Frame.finish_atR b a ops i rest k u;simp_all
theorem rE{x:V}{u:Value}{args:List V}{us:List Value}{c:Callee}{d:List V}(j:cr x args=aa (c,d))(l:VR σ X x u)(q:A2 (VR σ X) args us) :
  match c with
  | .fn f=>∃fst cap:List Value,u=.func (.func (σ f)) fst.toArray cap.toArray/\A2 (VR σ X) d (fst++us++cap)| .yield b=>d=args/\∃L,X.di b=aa L/\u=.func (.yield L.c) #[] #[]:=by
 unfold cr at j;split at j
 .rename_i f m;cases j;cases l with
  |fn _ _ cap v y=>
   refine⟨[],cap,rfl,q.append (A2.map ⟨v.symm,λi x u l z=>?_⟩)⟩;exact y i x u l z
 .rename_i f m;cases j;obtain⟨cap,rfl,g⟩:=l;exact⟨[],cap,rfl,q.append (A2.map (g.nZ λx u h=>CR.SD σ h))⟩
 .rename_i b;cases j;obtain⟨L,A,_,rfl⟩:=l;simp_all
 .rename_i f first
  cases j;obtain⟨cap,rfl,g⟩:=l;have s:A2 (VR σ X) (first.map .c) cap:=A2.map (g.nZ λx u h=>CR.SD σ h);exact⟨cap,[],rfl,by simpa using s.append q⟩
 .simp at j
theorem kI{a:Act}{o:Oper}{cl:Call}{y:Operand}(b:o.op=.call cl)(g:cl.callee=.value y){w:World}{fn:Fn}{fst cap:Array Value}(d:a.eval y=.func fn fst cap) :
  (execOp a.eval o).run Q w=(invoke (.fn fn cap) (fst++cl.args.map a.eval)).run Q w:=by
 simp only[execOp,b,resolve,g,d,Deferred.ofValue,Sem.run_bind,Sem.run_pure,Result.andThen_ok]
theorem gM{f:FuncId}{cap as:Array Value}{w:World}(h:∀as w,(callFunc f as).run Q w=.ok (.enter f as) w):(invoke (.fn (.func f) cap) as).run Q w=.ok (.enter f (as++cap)) w:=by
 simp only[invoke];exact h _ _
end
section
variable{Q:Program}{σ:Nat->FuncId}{X:Wd}{call:ey}
theorem TM{n:Nat}{H H':an}(h:jq H H')(v:V):dq n H' v=dq n H v:=by
 cases v with
 |c x=>simp only[dq,pG n h]| a xs=>simp only[dq,ij (λx _=>pG n h x)]
 |_=>rfl
theorem CB(K:gZ Q σ call)(hS:SR Q σ X)(hB:X.B<=X.w.heap.size){f:Nat}{args:List V}{us:List Value}{H H':an}{r':V}(g:il call f args H=aa (r',H'))(hH:dV H' X.H)(L:A2 (VR σ X) args us)(cs:List Frame) :
  (∀as w,(callFunc (σ f) as).run Q w=.ok (.enter (σ f) as) w)/\
  ∃l X' u,Steps Q (lone (Frame.enter Q (σ f) us.toArray .normal) cs X.w) (lone l cs X'.w)/\Leaves Q (σ f) .normal l u X'.w/\iw Q σ X r' X.H X' u/\X'.di=X.di:=by
 unfold il at g;split at g
 .simp at g
 .rename_i s d;split at g
  .simp at g
  .rename_i r S b;split at g
   .simp_all
   .rename_i a_ M;simp only[AT,agk]at g;obtain⟨rfl,rfl⟩:=g;have A:=tn deep args H;have B:=vJ deep args H;obtain⟨v,J,h3⟩:=SR.flag hS;have d:=iU d;have z:A2 (VR σ X.flag.inner) s us:=by
     refine⟨by rw[<-d.len];exact L.len,λi y u O hu=>?_⟩;have hi:i<args.length:=by rw[d.len];exact(OF.1 O).1
     have N:=By hi;have m:dq deep H args[i]=aa y:=d.2 i _ _ N O;have q:=VR.ext' σ J (L.2 i _ _ N hu);rw[<-TM A]at m;have E:jO σ X.flag args[i] u:=by
      cases j:args[i]with
      |c x=>rw[j]at q;exact q| a xs=>rw[j]at q;exact q| top=>trivial| t vs=>rw[j]at m;simp[dq]at m
     exact VR.SD σ (Vm v h3 hH m (B _ (IN hi)) E X.flag.inner rfl rfl)
    obtain⟨l,Y,u,U,W,Z,I,g5,g6,g7⟩:=K.fn f s [] r S b X.flag.inner us .normal cs rfl (SR.inner v) (agn _) z (.inl rfl) (.inl rfl);obtain⟨k1,k2,k3⟩:=SR.outer v hB I g6;refine⟨K.enters f s [] _ b,l,{ X.flag with F:=Y.mn.F,w:=Y.w },u,U,W,⟨rfl,k1,?_,J.trans (k2.mono (agn _)),k3⟩,rfl⟩;rw[<-Z]at M;exact Gy I M g5 _ rfl rfl
theorem pT{o:Oper}{f:Nat}{xs:List Arg}{h:Bool}(b:fk Q σ o (.call f xs h)=ae):∃c,o.op=.call c/\c.callee=.value (.func (σ f))/\SC σ xs c.args=ae:=by
 simp only[fk]at b;split at b
 .rename_i c d;simp only[fo]at b
  grind
 .simp at b
theorem Cs{o:Oper}{x:Arg}{xs:List Arg}{h:Bool}(b:fk Q σ o (.jc x xs h)=ae):∃c y,o.op=.call c/\c.callee=.value y/\mA σ x y=ae/\SC σ xs c.args=ae:=by
 simp only[fk]at b;split at b
 .rename_i c d;simp only[fo]at b
  grind
 .simp at b
theorem nO{o:Oper}{c:Call}(h:o.op=.call c):∀c,o.op≠.defer c:=λb e=>by rw[h]at e;cases e
theorem DA(l:gZ Q σ call)(q:SR Q σ X)(j:X.B<=X.w.heap.size){a:Act}{aN:T}(E:RR σ X aN a.tmps){o:Oper}{f:Nat}{xs:List Arg}{h:Bool}(I:fk Q σ o (.call f xs h)=ae)
  {H H':an} {v:V} (y:il call f (fm aN xs) H=aa (v,H')) (m:dV H' X.H):dO Q σ X o a v X.H:=by
 obtain⟨c,x,F,d⟩:=pT I;have s:=pM E d;have b:=(CB l q j y m s []).1;refine dO.yk (nO x) (f:=σ f) (us:=c.args.map a.eval) ?_ λcs=>?_
 .rw[kI x F (fn:=.func (σ f)) (fst:=#[]) (cap:=#[]) rfl,gM b];simp
 .obtain⟨_,z,X',u,g,A,B,_⟩:=CB l q j y m s cs;exact⟨z,X',u,by rw[Array.toArray_toList]at g;exact g,A,B⟩
theorem BW(A:gZ Q σ call)(F:SR Q σ X)(z:X.B<=X.w.heap.size){a:Act}{aN:T}(E:RR σ X aN a.tmps){o:Oper}{f:Nat}{xs:List Arg}{h:Bool}(K:fk Q σ o (.call f xs h)=ae)
  {H H':an} {v:V} (L:il call f (fm aN xs) H=aa (v,H')) (B:dV H' X.H)
  (b:Frame) (ops:Array Oper) (i:Nat) (rest:List Nat) (k:List Item) (cs:List Frame) (g:ops[i]?=aa o) (M:Region.wanted o (yielded ops a.tmps)=ae) :
  ∃X' u,Steps Q (lone (b.atR a (.inRegion ops (i::rest)::k)) cs X.w) (lone (b.atR (a.put o.dst u) (.inRegion ops rest::k)) cs X'.w)/\iw Q σ X v X.H X' u/\X'.di=X.di:=by
 obtain⟨c,s,J,m⟩:=pT K;have I:=pM E m;obtain⟨l,Z,X',u,q,⟨N,O,S,U,fn,W,Y⟩,x,y⟩:=CB A F z L B I (b.atR a (.inRegion ops (i::rest)::k)::cs);rw[Array.toArray_toList]at q;have j:(execOp a.eval o).run Q X.w=.ok (.enter (σ f) (c.args.map a.eval)) X.w:=by
  rw[kI s J (fn:=.func (σ f)) (fst:=#[]) (cap:=#[]) rfl,gM l];simp
 refine⟨X',u,.head (step_lone_go (fr':=Frame.enter Q (σ f) (c.args.map a.eval) .normal) (cs':=b.atR a (.inRegion ops (i::rest)::k)::cs) (w':=X.w) ?_) (q.trans (.one ?_)),x,y⟩
 .rw[stepGR_op g M,Oper.semAt_eq _ _ _ (nO s)];simp[stepG.apply,Sem.runT_eq,j,Frame.atR]
 .have d:=Frame.finish_atR b a ops i rest k u;rw[g]at d;simp only[ag8]at d;rw[<-d];exact step_leave_returned ⟨N,O,S,fn,by rw[U];exact W,Y⟩
theorem Dz(j:gZ Q σ call)(A:SR Q σ X)(y:X.B<=X.w.heap.size){a:Act}{aN:T}(z:RR σ X aN a.tmps){o:Oper}{f:Nat}{xs:List Arg}{h:Bool}(F:fk Q σ o (.call f xs h)=ae)
  {H':an} {v:V} (m:call (.fn f) (fm aN xs) X.H=aa (v,H')):dO Q σ X o a v H':=by
 obtain⟨c,l,E,d⟩:=pT F;have B:=pM z d;have b:=j.enters _ _ _ _ m;refine dO.yk (nO l) (f:=σ f) (us:=c.args.map a.eval) ?_ λcs=>?_
 .rw[kI l E (fn:=.func (σ f)) (fst:=#[]) (cap:=#[]) rfl,gM b];simp
 .obtain⟨q,X',u,g,s,x⟩:=j.fn _ _ _ _ _ m X _ .normal cs rfl A y B (.inl rfl) (.inl rfl);exact⟨q,X',u,by rw[Array.toArray_toList]at g;exact g,s,x⟩
theorem Qc(q:gZ Q σ call)(K:SR Q σ X)(I:X.B<=X.w.heap.size){a:Act}{aN:T}(J:RR σ X aN a.tmps){o:Oper}{x:Arg}{xs:List Arg}{h:Bool}(hm:fk Q σ o (.jc x xs h)=ae)
  {H':an} {v:V} {c:Callee} {args:List V} (j:cr (x.ev aN) (fm aN xs)=aa (c,args)) (z:call c args X.H=aa (v,H')):dO Q σ X o a v H':=by
 obtain⟨cl,y,m,N,hy,E⟩:=Cs hm;have M:=pM J E;have O:=rE j (cK J hy) M;cases c with
 |fn f=>
  obtain⟨fst,cap,g,B⟩:=O;have s:=q.enters _ _ _ _ z;refine dO.yk (nO m) (f:=σ f) (us:=fst.toArray++cl.args.map a.eval++cap.toArray) ?_ λcs=>?_
  .rw[kI m N g,gM s]
  .obtain⟨U,X',u,W,H,Y⟩:=q.fn _ _ _ _ _ z X _ .normal cs rfl K I B (.inl rfl) (.inl rfl);refine⟨U,X',u,?_,H,Y⟩;have e:(fst++(cl.args.map a.eval).toList++cap).toArray=fst.toArray++cl.args.map a.eval++cap.toArray:=by simp
   grind
 |yield b=>
  obtain⟨rfl,L,Z,g⟩:=O;have key:=λc cs=>q.yield b _ _ _ _ z X _ c cs L rfl K I M Z;obtain⟨f,tmps,as,bd,_,_,d,_⟩:=key default [];refine dO.Ru (nO m) (l:=L.c) (f:=f) (tmps:=tmps) (as:=as) (bd:=bd) ?_ λc cs=>?_
  .rw[kI m N g,Array.empty_append];rw[Array.toArray_toList]at d;exact d
  .obtain⟨f',F,as',S,X',u,A,W,H⟩:=key c cs
   grind
end
section
variable{Q:Program}{σ:Nat->FuncId}{X:Wd}{call:ey}
def wT(σ:Nat->FuncId)(X:Wd):gX->Deferred->Prop
 | .dY b,d=>∃L o,X.di b=aa L/\X.H[b]?=aa (.dQ o)/\d = { target:=.collected L.c,args:=#[] }| .fn f args,d=>∃us cap:Array Value,d = { target:=.fn (.func (σ f)) cap,args:=us }/\A2 (VR σ X) args (us.toList++cap.toList)
theorem wT.fE{X X':Wd}(g:sx X.H.length X X'){x:gX}{d:Deferred}(h:wT σ X x d):wT σ X' x d:=by
 cases x with
 |dY b=>
  obtain⟨L,o,h1,h2,h3⟩:=h;obtain⟨blk',h4,h5⟩:=g.bH b (OF.1 h2).1 _ h2;cases blk'<;>simp only at h5;exact⟨L,_,h5 L h1,h4,h3⟩
 |fn f args=>
  obtain⟨us,cap,h1,h2⟩:=h;exact⟨us,cap,h1,h2.nZ λ_ _ h=>VR.fE σ g h⟩
def iO(σ:Nat->FuncId)(X:Wd)(b:List gX)(d:List Deferred):Prop:=A2 (wT σ X) b d
theorem wT.ext'{X X':Wd}(b:Ext X.H.length X X'){x:gX}{d:Deferred}(h:wT σ X x d):wT σ X' x d:=wT.fE b.W h
theorem iO.fE{X X':Wd}(g:sx X.H.length X X'){b:List gX}{d:List Deferred}(h:iO σ X b d):iO σ X' b d:=h.nZ λ_ _ h=>wT.fE g h
theorem iO.ext'{X X':Wd}(g:Ext X.H.length X X'){b:List gX}{d:List Deferred}(h:iO σ X b d):iO σ X' b d:=h.nZ λ_ _ h=>wT.ext' g h
def sE(Q:Program)(σ:Nat->FuncId)(X:Wd)(o:Oper)(a:Act)(ok:Frame->Prop)(v:V)(H':an)(d:List gX):Prop:=
 ∀(b:Frame) (ops:Array Oper) (i:Nat) (rest:List Nat) (k:List Item) (cs:List Frame),ops[i]?=aa o->Region.wanted o (yielded ops a.tmps)=ae->lN b cs->ok b->
  ∃(X':Wd) (u:Value) (a':Act),Steps Q (lone (b.atR a (.inRegion ops (i::rest)::k)) cs X.w) (lone (b.atR (a'.put o.dst u) (.inRegion ops rest::k)) cs X'.w)/\iw Q σ X v H' X' u/\a'.tmps=a.tmps/\iO σ X' d a'.defers
theorem dO.Su{o:Oper}{a:Act}{v:V}{H':an}(h:dO Q σ X o a v H'){d:List gX}(hd:iO σ X d a.defers){ok:Frame->Prop}:sE Q σ X o a ok v H' d:=by
 intro b ops i rest k cs ho j g _;obtain⟨X',u,h1,h2⟩:=h b ops i rest k cs ho j g;exact⟨X',u,a,h1,h2,rfl,hd.ext' h2.2.2.2.1⟩
theorem dO.ahead(j:SR Q σ X){d H':an}(g:dV X.H d){o:Oper}{a:Act}{v:V}(h:dO Q σ { X with H:=d } o a v H'):dO Q σ X o a v H':=by
 intro b ops i rest k cs ho m l;obtain⟨X',u,h1,h2,h3,h4,h5,h6⟩:=h b ops i rest k cs ho m l;exact⟨X',u,h1,h2,h3,h4,(SR.ahead j g).2.trans (h5.mono g.len),h6⟩
def jA(op:dW)(b:Frame):Prop:=b.roundOf=ab\/op.fJ=ae
theorem Hg(z:SR Q σ X)(y:X.B<=X.w.heap.size){a:Act}{o:Oper}(g:fk Q σ o .recover=ae){u:List gX}(A:iO σ X u a.defers):sE Q σ X o a (jA .recover) (.c (.f .rQ)) X.H u:=by
 intro b ops i rest k cs x E B q;have q:b.roundOf=ab:=q.elim id λh=>by simp[dW.fJ]at h
 simp only[fk]at g;split at g
 .rename_i c v;simp only[fo]at g;split at g
  .rename_i j;have l:(execOp a.eval o).run Q X.w=.ok .recover X.w:=by
    simp[execOp,v,resolve,j,invoke,builtin]
   refine⟨X,.nilIface,a,.one (step_lone_go ?_),⟨rfl,z,dC.rQ,Ext.refl _ _,y⟩,rfl,A⟩;rw[stepGR_op x E,Oper.semAt_eq _ _ _ (nO v)];have d:=Frame.finish_atR b a ops i rest k .nilIface;rw[x]at d;simp only[ag8]at d;rw[<-d];have m:tryRecover (b.atR a (.inRegion ops (i::rest)::k)) cs=ab:=rU.Mn B;have s:(b.atR a (.inRegion ops (i::rest)::k)).roundOf=ab:=q;simp[stepG.apply,Sem.runT_eq,l,m,s]
  .simp at g
 .simp at g
theorem Qr(B:SR Q σ X)(A:X.B<=X.w.heap.size){a:Act}{aN:T}(v:RR σ X aN a.tmps){o:Oper}{x:Arg}{xs:List Arg}(g:fk Q σ o (.defer x xs)=ae){u:List gX}(F:iO σ X u a.defers)
  {f:Nat} {args:List V} (E:cr (x.ev aN) (fm aN xs)=aa (.fn f,args)):sE Q σ X o a (jA (.defer x xs)) .top X.H (.fn f args::u):=by
 intro b ops i rest k cs z I K m;have m:b.roundOf=ab:=m.elim id λh=>by simp[dW.fJ]at h
 simp only[fk]at g;split at g
 .rename_i c j;split at g
  .rename_i y J;simp only[IS]at g;have H:=rE E (cK v g.1) (pM v g.2);obtain⟨fst,cap,q,s⟩:=H;have l:(execOp a.eval o).run Q X.w=.ok (.defer { target:=.fn (.func (σ f)) cap.toArray,args:=fst.toArray++c.args.map a.eval }) X.w:=by
    simp[execOp,j,resolve,J,q,Deferred.ofValue]
   refine⟨X,undef,{ a with defers:={ target:=.fn (.func (σ f)) cap.toArray,args:=fst.toArray++c.args.map a.eval }::a.defers },.one (step_lone_go ?_),⟨rfl,B,trivial,Ext.refl _ _,A⟩,rfl,A2.cons ⟨_,_,rfl,by simpa using s⟩ F⟩;rw[stepGR_op z I,m,Oper.semAt_none];have d:=Frame.finish_atR b { a with defers:={ target:=.fn (.func (σ f)) cap.toArray,args:=fst.toArray++c.args.map a.eval }::a.defers } ops i rest k undef;rw[z]at d;simp only[ag8]at d;rw[<-d];simp[stepG.apply,Sem.runT_eq,l,Frame.atR]
  .simp at g
 .simp at g
theorem td{o:Oper}{op:dW}(d:fk Q σ o op=ae)(g:∀x xs,op≠.defer x xs)(j:op≠.bad):∀c,o.op≠.defer c:=by
 intro c b;cases op
 case pre o sz=>cases o<;>simp[fk,b]at d
 case defer x xs=>exact g _ _ rfl
 case bad=>exact j rfl
 all_goals simp[fk,b]at d
theorem Jh(A:gZ Q σ call)(g:SR Q σ X)(l:X.B<=X.w.heap.size){a:Act}{s z:St}(m:X.H=s.heap)(q:RR σ X s.aN a.tmps)(u:iO σ X s.defs a.defers){o:Oper}{op:dW}(j:fk Q σ o op=ae){v:V}
  (h:jE call s op=aa (v,z)):sE Q σ X o a (jA op) v z.heap z.defs/\z.aN=s.aN:=by
 by_cases E:(∃f xs h,op=.call f xs h)\/(∃x xs h,op=.jc x xs h)\/op=.recover\/∃x xs,op=.defer x xs
 .rcases E with⟨f,xs,L,rfl⟩|⟨x,xs,L,rfl⟩|rfl|⟨x,xs,rfl⟩
  .simp only[jE,IT,agk]at h;obtain⟨⟨I,H'⟩,d,rfl,rfl⟩:=h;refine⟨dO.Su ?_ u,rfl⟩;unfold lO at d;split at d
   .exact Dz A g l q j (m▸d)
   .have y:dV X.H H':=by
     have b:=d;unfold il at b;split at b
     .simp_all
     .split at b
      .simp_all
      .split at b
       .simp_all
       .simp only[AT,agk]at b;rw[<-b.2,m];exact(tn _ _ _).ext
    obtain⟨J,K⟩:=SR.ahead g y;refine dO.ahead g y ?_;exact DA A (X:={ X with H:=H' }) J l (q.ext' σ K) j d (dV.refl _)
  .simp only[jE]at h;split at h
   .rename_i c args B;simp only[IT,agk]at h;obtain⟨⟨I,H'⟩,d,rfl,rfl⟩:=h;exact⟨dO.Su (Qc A g l q j B (m▸d)) u,rfl⟩
   .simp at h
  .simp only[jE,AT,agk]at h;obtain⟨rfl,rfl⟩:=h;rw[<-m];exact⟨Hg g l j u,rfl⟩
  .simp only[jE]at h;split at h
   .rename_i f args B;simp only[AT,agk]at h;obtain⟨rfl,rfl⟩:=h;refine⟨?_,rfl⟩;rw[<-m];exact Qr g l q j u B
   .simp at h
 .have F:(cm s.aN s.heap op).map (λr=>(r.1,{ s with heap:=r.2 }))=aa (v,z):=by
   cases op<;>first|exact h|(exfalso;apply E;simp)
  simp only[IT,agk]at F;obtain⟨⟨I,H'⟩,d,rfl,rfl⟩:=F;refine⟨dO.Su (dO.acP (td j ?_ ?_) (ZM g l q j (m▸d))) u,rfl⟩
  .simp_all
  .rintro rfl;simp[cm]at d
end
section
variable{Q:Program}{σ:Nat->FuncId}{X:Wd}{call:ey}
structure Fr(Q:Program)(σ:Nat->FuncId)(n:Nat)(X:Wd)(s:St)(a:Act):Prop where
 heap:X.H=s.heap
 sr:SR Q σ X
 b:X.B<=X.w.heap.size
 aN:RR σ X s.aN a.tmps
 defs:iO σ X s.defs a.defers
 size:n<=a.tmps.size
theorem qS{n:Nat}{ops:Array Oper}{o:Oper}{m:ba}(E:nN Q σ n ops o m=ae){aN:T}{tmps:Array Value}(H:∀p w',m.g=aa (p,w')->VR σ X (aN.get p) (tmps.getD p.toNat undef))(J:n<=tmps.size){w:Bool}(h:wanted aN m.g=aa w) :
  Region.wanted o (yielded ops tmps)=w:=by
 simp only[nN,IS]at E;obtain⟨_,g⟩:=E;unfold Region.wanted;cases x:o.guard with
 |none=>
  rw[x]at g;cases b:m.g with
  |none=>rw[b]at h;simp only[wanted,AT]at h;simpa using h| some q=>rw[b]at g;simp at g
 |some L=>
  obtain⟨j,N⟩:=L;rw[x]at g;cases b:m.g with
  |none=>rw[b]at g;simp at g
  |some q=>
   obtain⟨p,w'⟩:=q;rw[b]at g h;simp only[IS,beq_iff_eq]at g;obtain⟨rfl,g⟩:=g;split at g
   .rename_i d I;simp only[IS,beq_iff_eq,decide_eq_true_eq]at g;obtain⟨B,A⟩:=g;have l:=H p _ b;rw[B]at l;have v:d<tmps.size:=ahz A J;have s:tmps.getD d undef=tmps[d]:=by simp[Array.getD,v]
    rw[s]at l;simp only[wanted]at h;simp only[yielded,I,ag8,Array.getElem?_eq_getElem v];split at h
    .rename_i F z;rw[z]at l;simp only[AT]at h;have y:dC σ X.F X.w (.bool F) tmps[d]:=l;generalize tmps[d]=u at y;cases y
     assumption
    .rename_i z;rw[z]at l;obtain⟨us,K,M⟩:=l;simp_all
    .simp_all
   .simp_all
theorem RK{n:Nat}{ops:Array Oper}{o:Oper}{m:ba}(s:nN Q σ n ops o m=ae){aN:T}{a:Act}(q:RR σ X aN a.tmps)(x:n<=a.tmps.size){v:V}{u:Value}(y:VR σ X v u) :
  RR σ X (nS aN m.dst v) (a.put o.dst u).tmps/\(a.put o.dst u).tmps.size=a.tmps.size/\(a.put o.dst u).defers=a.defers:=by
 simp only[nN,IS]at s;obtain⟨⟨_,b⟩,_⟩:=s;split at b
 .rename_i d p g j;simp only[IS,beq_iff_eq,decide_eq_true_eq]at b;obtain⟨rfl,l⟩:=b;rw[g,j];exact⟨RR.set σ q (ahz l x) y,by simp[Act.put],rfl⟩
 .rename_i g j;rw[g,j];exact⟨q,rfl,rfl⟩
 .simp at b
theorem VR.undef:VR σ X (.t []) undef:=⟨[],rfl,A2.nil⟩
theorem Sw(O:gZ Q σ call){n:Nat}{s E:St}{a:Act}(d:Fr Q σ n X s a){ops:Array Oper}{o:Oper}{q:ba}(j:nN Q σ n ops o q=ae)(h:jF call s q=aa E)
  {b:Frame} {i:Nat} {rest:List Nat} {k:List Item} {cs:List Frame} (A:ops[i]?=aa o) (S:lN b cs) (U:jA q.op b) :
  ∃X' a',Steps Q (lone (b.atR a (.inRegion ops (i::rest)::k)) cs X.w) (lone (b.atR a' (.inRegion ops rest::k)) cs X'.w)/\Fr Q σ n X' E a'/\Ext X.H.length X X'/\a'.tmps.size=a.tmps.size:=by
 unfold jF at h;split at h
 .rename_i g;have g:=qS j (λp w' _=>d.aN p) d.size g;split at h
  .rename_i v Y M;simp only[AT]at h;subst h;have l:fk Q σ o q.op=ae:=by simp only[nN,IS]at j;exact j.1.1
   obtain⟨N,W⟩:=Jh O d.sr d.b d.heap d.aN d.defs l M;obtain⟨X',u,a',F,⟨H,I,J,z,K⟩,x,L⟩:=N b ops i rest k cs A g S U;obtain⟨B,m,y⟩:=RK j (X:=X') (a:=a') (by rw[x];exact d.aN.ext' σ z) (by rw[x];exact d.size) J;refine⟨X',a'.put o.dst u,F,⟨H,I,K,?_,by rw[y];exact L,by rw[m,x];exact d.size⟩,z,by rw[m,x]⟩;simp_all
  .simp at h
 .rename_i g;have g:=qS j (λp w' _=>d.aN p) d.size g;simp only[AT]at h;subst h;obtain⟨B,m,y⟩:=RK j d.aN d.size (VR.undef (σ:=σ) (X:=X));refine⟨X,a.put o.dst undef,.one ?_,⟨d.heap,d.sr,d.b,B,by rw[y];exact d.defs,by rw[m];exact d.size⟩,Ext.refl _ _,m⟩;have:=stepR_op_skip (P:=Q) (b:=b) (a:=a) (k:=k) (cs:=cs) (w:=X.w) (ops:=ops) (i:=i) (rest:=rest) (by simp[A,g]);simp_all
 .simp at h
theorem Jk(F:gZ Q σ call){n:Nat}{ops:Array Oper}{b:Frame}{k:List Item}{cs:List Frame}(H:lN b cs):∀(aos:List ba) (j:Nat) (X:Wd) (s u:St) (a:Act),Fr Q σ n X s a->
  iy (nN Q σ n ops) (ops.toList.drop j) aos=ae->(∀ao∈aos,jA ao.op b)->iS call aos s=aa u->
  ∃X' a',Steps Q (lone (b.atR a (.inRegion ops ((List.range ops.size).drop j)::k)) cs X.w) (lone (b.atR a' k) cs X'.w)/\Fr Q σ n X' u a'/\Ext X.H.length X X'/\a'.tmps.size=a.tmps.size
 |[],j,X,s,u,a,B,d,_,h=>by
  simp only[iS,AT]at h;subst h;have U:(List.range ops.size).drop j=[]:=by
   cases g:ops.toList.drop j with
   |nil=>
    simp_all
   |cons x xs=>rw[g]at d;simp[iy]at d
  rw[U];exact⟨X,a,.one stepR_region_end,B,Ext.refl _ _,rfl⟩
 |ao::aos,j,X,s,u,a,B,d,I,h=>by
  cases g:ops.toList.drop j with
  |nil=>rw[g]at d;simp[iy]at d
  |cons o os=>
   rw[g]at d;simp only[iy,IS]at d;have y:j<ops.toList.length:=by
    rcases ahj j ops.toList.length with v|v
    .omega
    .rw[List.drop_eq_nil_iff.2 v]at g;simp at g
   have l:=ags y;rw[g]at l;simp only[List.cons.injEq]at l;obtain⟨W,E⟩:=l;simp only[iS]at h;split at h
   .rename_i s1 v;have m:(List.range ops.size).drop j=j ::(List.range ops.size).drop (j+1):=by
     rw[ags (by simpa using y)];simp
    rw[m];obtain⟨z,a1,L,M,A,N⟩:=Sw F B d.1 v (b:=b) (i:=j) (rest:=(List.range ops.size).drop (j+1)) (k:=k) (cs:=cs) (by simp at y;simp[y,W]) H (I _ bv);obtain⟨J,K,Y,Z,k3,k4⟩:=Jk F H aos (j+1) z s1 u a1 M (by rw[<-E];exact d.2) (λao h=>I ao (by simp[h])) h;refine⟨J,K,L.trans Y,Z,A.trans (k3.mono ?_),k4.trans N⟩;have:=A.bH;rcases ahj z.H.length X.H.length with q|S
    .obtain⟨blk',O,_⟩:=A.bH z.H.length q _ (By q);simp_all
    .omega
   .simp at h
end
theorem nI{r r':T}{x:Arg}(h:∀p∈x.rd,r.get p=r'.get p):x.ev r=x.ev r':=by
 cases x with
 |r p=>exact h p (by simp[Arg.rd])
 |k v=>rfl
theorem Mp{r r':T}{x:Option Arg}(h:∀p∈Zc x,r.get p=r'.get p):x.map (·.ev r)=x.map (·.ev r'):=by
 cases x with
 |none=>rfl| some x=>simp only[ag1];rw[nI h]
theorem jb{r r':T}{xs:List Arg}(h:∀p∈xs.flatMap Arg.rd,r.get p=r'.get p):fm r xs=fm r' xs:=by
 unfold fm;refine List.map_congr_left λx d=>nI λp b=>h p (ais.2 ⟨x,d,b⟩)
theorem lP{r r':T}:∀(ps:List (Nat × Nat × Arg)) (cs:List C),(∀p∈ps.flatMap (λq=>q.2.2.rd),r.get p=r'.get p)->ik r cs ps=ik r' cs ps
 |[],cs,_=>rfl
 |(d,n,x)::ps,cs,h=>by
  simp only[ik];rw[nI (x:=x) (r:=r) (r':=r') λp b=>h p (by simp[b])];split
  .split
   .exact lP ps _ λp b=>h p (by simp only[List.flatMap_cons,agl];exact .inr b)
   .rfl
  .rfl
theorem Hz{r r':T}{H:an}{op:dW}(h:∀p∈op.rd,r.get p=r'.get p):cm r H op=cm r' H op:=by
 have e:∀x:Arg,(∀p∈x.rd,p∈op.rd)->x.ev r=x.ev r':=λx A=>nI λp d=>h p (A p d);have g:∀x:Option Arg,(∀p∈Zc x,p∈op.rd)->x.map (·.ev r)=x.map (·.ev r'):=λx A=>Mp λp d=>h p (A p d);cases op
 case build zs ps=>simp only[cm];rw[lP ps _ h]
 case ft sz zs n ps=>
  simp only[cm];rw[lP (r:=r) (r':=r') (ps.map λp=>(p.1*sz,sz,p.2)) _ λp d=>h p (by
   simp only[ais,agt]at d;obtain⟨q,⟨q',j,rfl⟩,u⟩:=d;exact ais.2 ⟨q',j,u⟩)]
 case kY sz zs n ps=>
  simp only[cm];rw[lP (r:=r) (r':=r') (ps.map λp=>(p.1*sz,sz,p.2)) _ λp d=>h p (by
   simp only[ais,agt]at d;obtain⟨q,⟨q',j,rfl⟩,u⟩:=d;exact ais.2 ⟨q',j,u⟩)]
 case zx f xs=>simp only[cm];rw[jb h]
 case pick c a b=>
  simp only[cm];rw[e c (by simp +contextual [dW.rd])];split
  .rename_i v _;cases v<;>simp[e a (by simp +contextual [dW.rd]),e b (by simp +contextual [dW.rd])]
  .rfl
 case slice sz x lo hi mx=>simp only[cm];rw[e x (by simp +contextual [dW.rd]),g lo (by simp +contextual [dW.rd]),g hi (by simp +contextual [dW.rd]),g mx (by simp +contextual [dW.rd])]
 case tH n sz x lo hi mx=>simp only[cm];rw[e x (by simp +contextual [dW.rd]),g lo (by simp +contextual [dW.rd]),g hi (by simp +contextual [dW.rd]),g mx (by simp +contextual [dW.rd])]
 case vQ x lo hi=>simp only[cm];rw[e x (by simp +contextual [dW.rd]),g lo (by simp +contextual [dW.rd]),g hi (by simp +contextual [dW.rd])]
 case pO B m k v=>simp only[cm];rw[e m (by simp +contextual [dW.rd]),e k (by simp +contextual [dW.rd]),e v (by simp +contextual [dW.rd])]
 case iV x=>simp only[cm];rw[e x (by simp +contextual [dW.rd])]
 case box x=>simp only[cm];rw[e x (by simp +contextual [dW.rd])]
 case load n x=>simp only[cm];rw[e x (by simp +contextual [dW.rd])]
 case nq x=>simp only[cm];rw[e x (by simp +contextual [dW.rd])]
 case un o x=>simp only[cm];rw[e x (by simp +contextual [dW.rd])]
 case Qo k x=>simp only[cm];rw[e x (by simp +contextual [dW.rd])]
 case Gm x=>simp only[cm];rw[e x (by simp +contextual [dW.rd])]
 case DL x=>simp only[cm];rw[e x (by simp +contextual [dW.rd])]
 case Tw x=>simp only[cm];rw[e x (by simp +contextual [dW.rd])]
 case mj o x=>simp only[cm];rw[e x (by simp +contextual [dW.rd])]
 case field o n x=>simp only[cm];rw[e x (by simp +contextual [dW.rd])]
 case range x=>simp only[cm];rw[e x (by simp +contextual [dW.rd])]
 case next x=>simp only[cm];rw[e x (by simp +contextual [dW.rd])]
 case extract x i=>simp only[cm];rw[e x (by simp +contextual [dW.rd])]
 case len x=>simp only[cm];rw[e x (by simp +contextual [dW.rd])]
 case lens x=>simp only[cm];rw[e x (by simp +contextual [dW.rd])]
 case cap x=>simp only[cm];rw[e x (by simp +contextual [dW.rd])]
 case entry x=>simp only[cm];rw[e x (by simp +contextual [dW.rd])]
 case mq x=>simp only[cm];rw[e x (by simp +contextual [dW.rd])]
 case pS x=>simp only[cm];rw[e x (by simp +contextual [dW.rd])]
 case clear s z x=>simp only[cm];rw[e x (by simp +contextual [dW.rd])]
 case tj lo xs=>simp only[cm];rw[jb h]
 case zw f xs=>simp only[cm];rw[jb h]
 case yT s x y z=>simp only[cm];rw[e x (by simp +contextual [dW.rd]),e y (by simp +contextual [dW.rd]),e z (by simp +contextual [dW.rd])]
 case rD s b z x y=>simp only[cm];rw[e x (by simp +contextual [dW.rd]),e y (by simp +contextual [dW.rd])]
 case store n x y=>simp only[cm];rw[e x (by simp +contextual [dW.rd]),e y (by simp +contextual [dW.rd])]
 case bin o x y=>simp only[cm];rw[e x (by simp +contextual [dW.rd]),e y (by simp +contextual [dW.rd])]
 case eq n k x y=>simp only[cm];rw[e x (by simp +contextual [dW.rd]),e y (by simp +contextual [dW.rd])]
 case eZ s a x y=>simp only[cm];rw[e x (by simp +contextual [dW.rd]),e y (by simp +contextual [dW.rd])]
 case idxs x y=>simp only[cm];rw[e x (by simp +contextual [dW.rd]),e y (by simp +contextual [dW.rd])]
 case D3 l s n x y=>simp only[cm];rw[e x (by simp +contextual [dW.rd]),e y (by simp +contextual [dW.rd])]
 case append s b x y=>simp only[cm];rw[e x (by simp +contextual [dW.rd]),e y (by simp +contextual [dW.rd])]
 case copy s x y=>simp only[cm];rw[e x (by simp +contextual [dW.rd]),e y (by simp +contextual [dW.rd])]
 case lookup c z x y=>simp only[cm];rw[e x (by simp +contextual [dW.rd]),e y (by simp +contextual [dW.rd])]
 case fI s b z x y=>simp only[cm];rw[e x (by simp +contextual [dW.rd]),e y (by simp +contextual [dW.rd])]
 all_goals rfl
theorem Ji{call:ey}{s:St}{r':T}{op:dW}(h:∀p∈op.rd,s.aN.get p=r'.get p){v:V}{l:St}(d:jE call s op=aa (v,l)):jE call { s with aN:=r' } op=aa (v,{ l with aN:=r' }):=by
 by_cases b:(∃f xs h,op=.call f xs h)\/(∃x xs h,op=.jc x xs h)\/op=.recover\/∃x xs,op=.defer x xs
 .rcases b with⟨f,xs,u,rfl⟩|⟨x,xs,u,rfl⟩|rfl|⟨x,xs,rfl⟩
  .simp only[jE,IT,agk]at d ⊢;obtain⟨q,m,rfl,rfl⟩:=d;rw[jb h]at m;simp_all
  .simp only[jE]at d ⊢;rw[nI (x:=x) (r:=s.aN) (r':=r') (λp b=>h p (by simp[dW.rd,b])),jb (xs:=xs) (r:=s.aN) (r':=r') (λp b=>h p (by simp only[dW.rd,agl];exact .inr b))]at d;split at d
   .simp only[IT,agk]at d ⊢
    grind
   .simp_all
  .simp only[jE,AT,agk]at d ⊢;simp_all
  .simp only[jE]at d ⊢;rw[nI (x:=x) (r:=s.aN) (r':=r') (λp b=>h p (by simp[dW.rd,b])),jb (xs:=xs) (r:=s.aN) (r':=r') (λp b=>h p (by simp only[dW.rd,agl];exact .inr b))]at d;split at d
   .grind
   .simp_all
 .have g:(cm s.aN s.heap op).map (λr=>(r.1,{ s with heap:=r.2 }))=aa (v,l):=by
   cases op<;>first|exact d|(exfalso;apply b;simp)
  have j:jE call { s with aN:=r' } op=(cm r' s.heap op).map (λr=>(r.1,{ s with aN:=r',heap:=r.2 })):=by
   cases op<;>first|rfl|(exfalso;apply b;simp)
  rw[j,<-Hz h];simp only[IT,agk]at g ⊢
  grind
theorem VI{r:T}{op:dW}(b:cls op=.p)(H H':an):cm r H' op=(cm r H op).map λq=>(q.1,H'):=by
 cases op<;>simp only[cls,reduceCtorEq]at b<;>simp only[cm]
 all_goals first
  |(simp[Function.comp_def];done)
  |(split<;>simp[Function.comp_def];done)
  |(split<;>(first|rfl|(split<;>rfl)))
section
theorem iA{H H':an}(j:dV H H')(b:Nat):H[b]?=ab\/(∃cs fl fl',H[b]?=aa (.box cs fl)/\H'[b]?=aa (.box cs fl'))\/
  (∃s cs fl fl' e st,H[b]?=aa (.dj s cs fl e st)/\H'[b]?=aa (.dj s cs fl' e st))\/∃cP,H[b]?=aa cP/\H'[b]?=aa cP:=by
 cases l:H[b]? with
 |none=>exact .inl rfl
 |some cP=>
  obtain⟨blk',d,g⟩:=j b _ l;cases cP<;>cases blk'<;>simp only[eh,reduceCtorEq]at g
  .simp_all
  .grind
  all_goals (rw[<-g]at d;exact .inr (.inr (.inr ⟨_,rfl,d⟩)))
variable{H H':an}
theorem DC(g:dV H H'){x:C}{cs:List C}(h:aA H x=aa cs):aA H' x=aa cs:=by
 cases x with
 |ptr b j m=>
  simp only[aA]at h ⊢;rcases iA g b with e|⟨cs,fl,fl',e,d⟩|⟨s,cs,fl,fl',l,st,e,d⟩|⟨cP,e,d⟩
  .simp_all
  .simp_all
  .grind
  .simp_all
 |f x=>cases x<;>exact h
 |_=>simp[aA]at h
theorem T9(g:dV H H'){n:Option Nat}{x:V}{v:V}(h:aV H n x=aa v):aV H' n x=aa v:=by
 cases x with
 |c x=>
  simp only[aV,Option.bind_eq_some_iff]at h ⊢;obtain⟨cs,b,d⟩:=h;exact⟨cs,DC g b,d⟩
 |_=>simp[aV]at h
theorem Bk(g:dV H H'){x:C}{n:Nat}(h:bh H x=aa n):bh H' x=aa n:=by
 cases x with
 |sl b o l c m sz=>
  simp only[bh]at h ⊢;rcases iA g b with e|⟨cs,fl,fl',e,d⟩|⟨s,cs,fl,fl',j,st,e,d⟩|⟨cP,e,d⟩
  .simp_all
  all_goals (rw[e]at h;rw[d];exact h)
 |f x=>cases x<;>exact h
 |_=>simp[bh]at h
theorem EW(g:dV H H'){sz:Nat}{x:C}{cs:List C}(h:dg H sz x=aa cs):dg H' sz x=aa cs:=by
 cases x with
 |sl b o l c m s=>
  simp only[dg]at h ⊢;rcases iA g b with e|⟨cs,fl,fl',e,d⟩|⟨s,cs,fl,fl',j,st,e,d⟩|⟨cP,e,d⟩
  .simp_all
  all_goals (rw[e]at h;rw[d];exact h)
 |f x=>cases x<;>exact h
 |_=>simp[dg]at h
theorem qE(g:dV H H'){k:MX}{x:C}{b:Bool}(h:isNil H k x=aa b):isNil H' k x=aa b:=by
 cases k<;>cases x<;>first|exact h|(simp[isNil]at h;done)|skip
 case sl.sl bb o l c m s=>
  simp only[isNil]at h ⊢;rcases iA g bb with e|⟨cs,fl,fl',e,d⟩|⟨s,cs,fl,fl',j,st,e,d⟩|⟨cP,e,d⟩
  .simp_all
  all_goals (rw[e]at h;rw[d];exact h)
 all_goals (rename_i y;cases y<;>exact h)
theorem TI(d:dV H H'){k:MX}{x y:V}{b:Bool}(h:MZ H k x y=aa b):MZ H' k x y=aa b:=by
 unfold MZ at h;split at h
 .exact h
 .exact h
 .exact qE d h
 .exact qE d h
 .exact qE d h
 .exact qE d h
 .simp at h
theorem Hs(g:dV H H'){sz:Nat}{x:V}{lo hi mx:Option V}{v:V}(h:cu H sz x lo hi mx=aa v):cu H' sz x lo hi mx=aa v:=by
 unfold cu at h;split at h
 .exact h
 .exact h
 .exact h
 .rename_i b o n cap l s;simp only[cu];rcases iA g b with e|⟨cs,fl,fl',e,d⟩|⟨s,cs,fl,fl',j,st,e,d⟩|⟨cP,e,d⟩
  .simp_all
  all_goals (rw[e]at h;rw[d];exact h)
 .simp at h
theorem Hr(g:dV H H'){n sz:Nat}{x:V}{lo hi mx:Option V}{v:V}(h:pY H n sz x lo hi mx=aa v):pY H' n sz x lo hi mx=aa v:=by
 unfold pY at h;split at h
 .rename_i b j m;simp only[pY];rcases iA g b with e|⟨cs,fl,fl',e,d⟩|⟨s,cs,fl,fl',l,st,e,d⟩|⟨cP,e,d⟩
  .simp_all
  all_goals (rw[e]at h;rw[d];exact h)
 .exact h
 .simp at h
theorem D5(j:dV H H'){sz:Nat}{d:Option Nat}{x i:V}{v:V}(h:bG H sz d x i=aa v):bG H' sz d x i=aa v:=by
 unfold bG at h ⊢;split at h
 .simp at h
 .split at h
  .rename_i hi;simp only[hi,if_true];split at h
   .rename_i b o l c u s;split at h
    .rename_i m;simp only[m,if_true];rcases iA j b with e|⟨cs,fl,fl',e,g⟩|⟨s,cs,fl,fl',q,st,e,g⟩|⟨cP,e,g⟩
     .simp_all
     .simp_all
     .grind
     .simp_all
    .simp_all
   .omega
   .omega
   .omega
   .omega
  .simp at h
theorem D_(j:dV H H'){g:CK}{z:FC}{m k:V}{v:V}(h:gC H g z m k=aa v):gC H' g z m k=aa v:=by
 unfold gC at h;split at h
 .exact h
 .rename_i b k;simp only[gC];rcases iA j b with e|⟨cs,fl,fl',e,d⟩|⟨s,cs,fl,fl',l,st,e,d⟩|⟨cP,e,d⟩
  .simp_all
  all_goals (rw[e]at h;rw[d];exact h)
 .simp at h
theorem Lq(d:dV H H'){x v:V}(h:vr H x=aa v):vr H' x=aa v:=by
 cases x with
 |c x=>
  simp only[vr]at h ⊢;split at h
  .rename_i n g;split at h
   .rename_i cs b;rw[Bk d g,EW d b];exact h
   .simp at h
  .simp at h
 |_=>simp[vr]at h
theorem MK(g:dV H H'){x:C}{n:Nat}(h:nU H x=aa n):nU H' x=aa n:=by
 cases x with
 |sl b o l c m sz=>
  simp only[nU]at h ⊢;rcases iA g b with e|⟨cs,fl,fl',e,d⟩|⟨s,cs,fl,fl',j,st,e,d⟩|⟨cP,e,d⟩
  .simp_all
  .simp_all
  .grind
  .simp_all
 |f x=>cases x<;>exact h
 |_=>simp[nU]at h
theorem Uj(j:dV H H'){b:Nat}{d:List (FC × C)}(h:H[b]?=aa (.map d)):H'[b]?=aa (.map d):=by
 obtain⟨blk',l,g⟩:=j b _ h;cases blk'<;>simp only[eh,reduceCtorEq,bO.map.injEq]at g;simp_all
theorem Ul(j:dV H H'){b m s:Nat}{d:Bool}(h:H[b]?=aa (.Ff m s d)):H'[b]?=aa (.Ff m s d):=by
 obtain⟨blk',l,g⟩:=j b _ h;cases blk'<;>simp only[eh,reduceCtorEq,bO.Ff.injEq]at g;simp_all
theorem Gr(b:dV H H'){x v:V}(h:ot H x=aa v):ot H' x=aa v:=by
 unfold ot at h;split at h
 .split at h
  .rename_i d;split at h
   .rename_i g;simp only[ot,Ul b d,Uj b g];exact h
   .simp at h
  .simp at h
 .simp at h
theorem Jj{r:T}{op:dW}(l:cls op=.r)(b:dV H H'){v:V}{j:an}(h:cm r H op=aa (v,j)):j=H/\cm r H' op=aa (v,H'):=by
 cases op<;>first|(simp only[cm,reduceCtorEq]at h;done)|(simp only[cls,reduceCtorEq]at l;done)|simp only[cm]at h ⊢
 case len x=>
  split at h
  .rename_i y m;split at h
   .rename_i n g;simp only[AT,agk]at h;obtain⟨rfl,rfl⟩:=h;simp only[Bk b g];simp
   .simp at h
  .simp at h
 case cap x=>
  split at h
  .rename_i y m;split at h
   .rename_i n g;simp only[AT,agk]at h;obtain⟨rfl,rfl⟩:=h;simp only[MK b g];simp
   .simp at h
  .simp at h
 all_goals
  simp only[IT,agk]at h;obtain⟨q,d,rfl,rfl⟩:=h;refine⟨rfl,?_⟩
 case entry=>rw[Gr b d];rfl
 case load=>rw[T9 b d];rfl
 case eq=>rw[TI b d];rfl
 case slice=>rw[Hs b d];rfl
 case tH=>rw[Hr b d];rfl
 case eZ=>rw[D5 b d];rfl
 case lookup=>rw[D_ b d];rfl
 case DL=>rw[Lq b d];rfl
theorem ac_{r:T}{op:dW}(g:cls op=.a){v:V}{d:an}(h:cm r H op=aa (v,d)):d=H\/∃cP,d=H++[cP]:=by
 cases op<;>first|(simp only[cls,reduceCtorEq]at g;done)|simp only[cm]at h
 case call=>simp at h
 case alloc zs=>simp only[AT,agk]at h;exact .inr ⟨_,h.2.symm⟩
 case oS=>simp only[AT,agk]at h;exact .inr ⟨_,h.2.symm⟩
 case box x=>
  grind
 case ft sz zs n ps=>
  split at h
  .simp_all
  .simp only[IT,agk]at h
   grind
 case fI sz b zs x y=>
  grind
end
section
variable{Q:Program}{σ:Nat->FuncId}{X:Wd}
theorem Iz(d:SR Q σ X)(l:X.B<=X.w.heap.size){n:Nat}{cs:List C}{fl:Nat}(s:X.H[n]?=aa (.box cs fl))(u:X.di n=ab){us:List Value}(h:A2 (CR σ X) cs us)(e:TypeId) :
  ∃X',X'.w=X.w.alloc (.cells us.toArray e)/\X'.H=X.H/\SR Q σ X'/\Ext X.H.length X X'/\X'.di n=aa ⟨X.w.heap.size,0⟩/\X'.B<=X'.w.heap.size/\∀b,b≠n->X'.di b=X.di b:=by
 obtain⟨g,j⟩:=SR.fill d l s u (fA.alloc X.w (.cells us.toArray e)) 0 (λv=>⟨us,qO (fA.alloc _ _),A2.ext' σ v h,λi _ q=>by
  have:=d.fb _ _ q;simp at this⟩)
 exact⟨{ X with di:=λb=>if b=n then aa ⟨X.w.heap.size,0⟩else X.di b,w:=X.w.alloc (.cells us.toArray e) },rfl,rfl,g,j,bv,ge,λb m=>by simp[m]⟩
def F2(Q:Program)(σ:Nat->FuncId)(X:Wd)(n:Nat)(v:V)(s:Sem Next)(e:Prop):Prop:=
 ∃X' u,s.run Q X.w=.ok (.value u) X'.w/\iw Q σ X v X.H X' u/\(∀b,b≠n->X'.di b=X.di b)/\(e->X'.di=X.di)
theorem DT(y:SR Q σ X)(x:X.B<=X.w.heap.size){n:Nat}{cs:List C}{fl:Nat}(g:X.H[n]?=aa (.box cs fl))(A:X.di n=ab){us:List Value}(h:A2 (CR σ X) cs us)(e:TypeId){s:Sem Next}{b:Prop}(z:¬ b)
  (B:s.run Q X.w=.ok (.value (.pointer (aa ⟨X.w.heap.size,0,ab⟩))) (X.w.alloc (.cells us.toArray e))):F2 Q σ X n (.c (.ptr n 0 0)) s b:=by
 obtain⟨X',j,d,l,m,q,u,v⟩:=Iz y x g A h e;refine⟨X',_,by rw[j];exact B,⟨d,l,?_,m,u⟩,v,λh=>absurd h z⟩;exact⟨_,q,by rw[d,g]⟩
theorem IA(y:SR Q σ X)(x:X.B<=X.w.heap.size){n:Nat}{cs:List C}{fl:Nat}(g:X.H[n]?=aa (.box cs fl))(B:X.di n=ab){us:List Value}(h:A2 (CR σ X) cs us)(e:TypeId){s:Sem Next}{l c sz:Nat}(A:l<=c){b:Prop}(z:¬ b)
  (E:s.run Q X.w=.ok (.value (.slice (aa ⟨X.w.heap.size,0,ab⟩) l c)) (X.w.alloc (.cells us.toArray e))):F2 Q σ X n (.c (.sl n 0 l c 0 sz)) s b:=by
 obtain⟨X',j,d,m,q,F,u,v⟩:=Iz y x g B h e;refine⟨X',_,by rw[j];exact E,⟨d,m,?_,q,u⟩,v,λh=>absurd h z⟩;simp only[VR,jO,CR,iL,d,g];simp_all
theorem sU{H b:an}{cs:List C}(h:dV (H++[.box cs 0]) b):∃fl,b[H.length]?=aa (.box cs fl):=by
 obtain⟨blk',g,d⟩:=h H.length (.box cs 0) bv;cases blk'<;>simp only[eh,reduceCtorEq]at d;simp_all
theorem EV{w':World}{o:Obj}(g:SR Q σ X)(d:fA X.w w' o)(q:X.B<=X.w.heap.size):∃X':Wd,X'.w=w'/\X'.H=X.H/\SR Q σ X'/\Ext X.H.length X X'/\X'.B<=X'.w.heap.size/\X'.di=X.di:=by
 have j:Ext X.H.length X { X with w:=w' }:=Ext.one g X.H.length rfl (λ_ _=>Iff.rfl) (λk m _=>d.Fg m)
  (λL i h=>by rw[SR.uS g]at h;simp at h) (λh=>absurd h (aiu _)) (λ_ _ _=>rfl) (λ_ _=>rfl) (λL h=>.inl ⟨L,h,rfl⟩) (by show _<=w'.heap.size;rw[d.size];omega) d.os d.tape d.output
 refine⟨{ X with w:=w' },rfl,rfl,SR.step Q σ g j X.H.length (λ_ _=>rfl) (λ_ _=>rfl) (λb L _ l=>d.Fg (g.br b L l).2.1)
  (λ_ _ _ _ _ h=>h) (λL h=>by change X.di X.H.length=aa L at h;rw[SR.uS g]at h;simp at h) (λc i h=>?_),j,?_,rfl⟩
 .have:=g.fb c i h;show c<w'.heap.size;rw[d.size];omega
 .show X.B<=w'.heap.size;rw[d.size];omega
theorem T7(M:SR Q σ X)(L:X.B<=X.w.heap.size){a:Act}{aN:T}(hR:RR σ X aN a.tmps){o:Oper}{op:dW}(hc:cls op=.a)(d:fk Q σ o op=ae){H H1:an}{v:V}(h:cm aN H op=aa (v,H1))
  (hH:dV H1 X.H) (W:H1.length≠H.length->X.di H.length=ab):F2 Q σ X H.length v (execOp a.eval o) (H1.length=H.length):=by
 cases op<;>first|(simp only[cls,reduceCtorEq]at hc;done)|skip
 case call f xs h'=>simp[cm]at h
 case alloc zs=>
  simp only[cm,AT,agk]at h;obtain⟨rfl,rfl⟩:=h;obtain⟨fl,F⟩:=sU hH;simp only[fk]at d;split at d
  .rename_i t B;obtain⟨z,us,h1,K,h3,_⟩:=gH (σ:=σ) (X:=X) d X.w;refine DT M L F (W bv) h3 t bv ?_;simp only[execOp,B];refine fL ?_;simp[Instr.alloc,h1,newVar,newRow,K]
  .simp at d
 case oS=>
  simp only[cm,AT,agk]at h;obtain⟨rfl,rfl⟩:=h;have F:X.H[H.length]?=aa (.map []):=by
   obtain⟨blk',hb,hl⟩:=hH H.length (.map []) bv;cases blk'<;>simp only[eh,reduceCtorEq,bO.map.injEq]at hl;simp_all
  simp only[fk]at d;split at d
  .rename_i t B;have W:=W bv;obtain⟨h1,K⟩:=SR.fill M L F W (fA.alloc X.w (.map #[] 0)) 0 (λhx=>⟨[],(fA.alloc _ _).new,A2.nil,bv⟩);refine⟨{ X with di:=λb=>if b=H.length then aa ⟨X.w.heap.size,0⟩else X.di b,w:=X.w.alloc (.map #[] 0) },.map (aa X.w.heap.size),?_,⟨rfl,h1,⟨⟨X.w.heap.size,0⟩,bv,⟨[],F⟩,rfl⟩,K,by show X.B<=_;simp;omega⟩,λb hb=>by simp[hb],λh=>by simp at h⟩;simp[execOp,B,Instr.makeMap]
  .simp at d
 case box x=>
  simp only[cm]at h;split at h
  .rename_i xs i9;simp only[AT,agk]at h;obtain⟨rfl,rfl⟩:=h;obtain⟨fl,F⟩:=sU hH;simp only[fk]at d;split at d
   .rename_i t y B;obtain⟨us,K,h3⟩:=sI (cK hR d) i9;refine DT M L F (W bv) h3 t bv ?_;simp only[execOp,B];refine fL ?_;simp[Instr.box,newVar,newRow,K]
   .simp_all
  .simp at h
 case ft sz zs n ps=>
  simp only[fk]at d;split at d
  .rename_i t n' qs B;simp only[IS,beq_iff_eq,decide_eq_true_eq]at d;obtain⟨⟨⟨⟨rfl,s⟩,E⟩,j8⟩,hq⟩:=d;obtain⟨e,hu,E⟩:=kh E;simp only[IS,decide_eq_true_eq]at E;obtain⟨⟨j,hz⟩,j5⟩:=E;obtain⟨z,us,Y,Z,A,_⟩:=gH (σ:=σ) (X:=X) hz X.w;have I:us.length=sz:=by have:=A.len;simp at this;omega
   simp only[cm]at h;split at h
   .rename_i F;subst F;split at h
    .rename_i m9;simp only[AT,agk]at h;obtain⟨rfl,rfl⟩:=h;have U:qs.toList=[]:=by
      have:=(gn hq).len
      grind
     have U:qs=#[]:=by apply Array.ext';simpa using U
     obtain⟨X',h1,K,h3,h4,h5,h6⟩:=EV M (fA.alloc X.w (.cells #[] e)) L;refine⟨X',.slice (aa ⟨X.w.heap.size,0,ab⟩) 0 0,?_,⟨K,h3,dC.es _,h4,h5⟩,λb _=>by rw[h6],λ_=>h6⟩;rw[h1];simp only[execOp,B];refine fL ?_;simp[Instr.buildSlice,bI hu,dS j,U,Instr.fill,newRow,show Array.range 0=(#[]:Array Nat) from rfl]
    .simp_all
   .rename_i F;simp only[IT,agk]at h;obtain⟨cs,h_,rfl,rfl⟩:=h;obtain⟨fl,O⟩:=sU hH;obtain⟨n8,h5,h6⟩:=qB (place:=λi=>aa (i*sz,sz)) (ps:=qs.toList) hR (qs:=ps.map λp=>(p.1*sz,sz,p.2)) (A2.map ((gn hq).nZ λq p S=>by
     simp only[IS,beq_iff_eq]at S;exact⟨by rw[S.1],S.2⟩)) (mz A n') h_
    refine IA M L O (W bv) h6 e (agn _) bv ?_;simp only[execOp,B];refine fL ?_;have i6:n'*sz≠0:=by
     intro h0;rcases aiz.1 h0 with h0|h0<;>omega
    have f_:=kQ us n' ap;rw[I]at f_;simp only[Instr.buildSlice,Sem.run_bind,bI hu,dS j,Result.andThen_ok,ct (show¬ n'*sz>2 ^ 24 by omega),Sem.run_ite,ct i6,Y,Sem.run_pure,Z];simp only[Array.toList_map];rw[f_];simp[h5,newRow]
  .simp at d
 case fI sz bytes zs x y=>
  simp only[fk]at d;split at d
  .rename_i t x' y' B;simp only[IS,decide_eq_true_eq]at d;obtain⟨⟨⟨hx,hy⟩,E⟩,j7⟩:=d;have hx:=cK hR hx;have hy:=cK hR hy;obtain⟨e,hu,E⟩:=kh E;simp only[IS]at E;obtain⟨⟨j,g_⟩,hz⟩:=E;obtain⟨z,us,Y,Z,A,m_,j_,k_⟩:=gH (σ:=σ) (X:=X) hz X.w;obtain⟨j9,a_,b_⟩:=CI g_ X.w;simp only[cm]at h;split at h
   .rename_i l c hl hc;obtain⟨kl,i8⟩:=lI hx hl;obtain⟨kc,i_⟩:=lI hy hc;split at h
    .rename_i N;obtain⟨h0,l_,u,j5⟩:=N;unfold cD at u;simp only[IS,decide_eq_true_eq]at u;have I:us.length=sz:=by have:=A.len;simp at this;omega
     have e_:=wrap_small (n:=l) h0 ap;have d_:=wrap_small (n:=c) ap ap;have j6:c.toNat*bytes<=2 ^ 48:=by
      grind
     have s:¬ ((bytes:Int)*c>2 ^ 48):=by
      grind
     have d9:((Array.range (c.toNat*sz)).map λi=>us.toArray[i % us.toArray.size]!)=(dJ c.toNat us).toArray:=by
      have:=kQ us c.toNat ap;rwa[I]at this
     have run:(execOp a.eval o).run Q X.w=.ok (.value (.slice (aa ⟨X.w.heap.size,0,ab⟩) l.toNat c.toNat)) (X.w.alloc (.cells (dJ c.toNat us).toArray e)):=by
      simp only[execOp,B];refine fL ?_;rw[i8,i_];have c9:¬ c<0:=by omega
      have c_:¬ l<0:=by omega
      have J:¬ l>c:=by omega
      by_cases m:c.toNat*sz=0
      .have i7:dJ c.toNat us=[]:=agC (by rw[nT,I];exact m);have g:((decide (c<0)||decide ((bytes:Int)*c>2 ^ 48))||decide (l<0)||decide (l>c))=ag:=by rw[decide_eq_false c9,decide_eq_false c_,decide_eq_false J,decide_eq_false s];rfl
       simp only[Instr.makeSlice,Sem.run_bind,bI hu,asInt,asIntOf,Sem.run_pure,Result.andThen_ok,a_,b_,e_,d_,run_askRoom,dS j];simp only[g,agH,if_false,Sem.run_ite,bZ m,Sem.run_bind,Result.andThen_ok,Sem.run_pure,run_askRoom,dS j,newRow,run_newObj];rw[m,i7,show(Array.map (λx=>(#[]:Array Value)[x % (#[]:Array Value).size]!) (Array.range 0))=#[] from by simp[show Array.range 0=(#[]:Array Nat) from rfl]];rfl
      .simp only[Instr.makeSlice,Sem.run_bind,bI hu,asInt,asIntOf,Sem.run_pure,Result.andThen_ok,a_,b_,e_,d_,run_askRoom,dS j];have g:((decide (c<0)||decide ((bytes:Int)*c>2 ^ 48))||decide (l<0)||decide (l>c))=ag:=by rw[decide_eq_false c9,decide_eq_false c_,decide_eq_false J,decide_eq_false s];rfl
       simp only[g,agH,if_false,Sem.run_ite,ct m,Sem.run_bind,Y,Z,Result.andThen_ok,Sem.run_pure,run_askRoom,dS j,d9,newRow,run_newObj];rfl
     split at h
     .rename_i m;subst m;simp only[AT,agk]at h;obtain⟨rfl,rfl⟩:=h;have:l=0:=by omega
      subst this;obtain⟨X',g1,g2,g3,g4,g5,g6⟩:=EV M (fA.alloc X.w (.cells (dJ (0:Int).toNat us).toArray e)) L;exact⟨X',_,by rw[g1];exact run,⟨g2,g3,dC.es _,g4,g5⟩,λb _=>by rw[g6],λ_=>g6⟩
     .simp only[AT,agk]at h;obtain⟨rfl,rfl⟩:=h;obtain⟨fl,O⟩:=sU hH;exact IA M L O (W bv) (mz A c.toNat) e ap bv run
    .simp_all
   .simp at h
  .simp at d
end
theorem G0{b:List Nat}{o:Oper}{i:Nat}:(rN b o).testBit i=ae↔∃e∈o.after.toList,Region.binds .any e=ae/\(e.on=i\/(b.getD e.on 0).testBit i=ae):=by
 unfold rN;have key:∀(l:List Edge) (s:Nat),(l.foldl (λs e=>if Region.binds .any e then s ||| 2 ^ e.on ||| b.getD e.on 0 else s) s).testBit i=ae ↔
   s.testBit i=ae\/∃e∈l,Region.binds .any e=ae/\(e.on=i\/(b.getD e.on 0).testBit i=ae):=by
  intro l;induction l with
  |nil=>intro s;simp
  |cons e l d=>
   grind
 grind
theorem AY:∀(os:List Oper) (b:List Nat),(eL os b).length=b.length+os.length
 |[],b=>by simp[eL]
 |o::os,b=>by rw[eL,AY];simp;omega
theorem uI:∀(os:List Oper) (b:List Nat) (k:Nat),k<b.length->(eL os b)[k]?=b[k]?
 |[],b,k,_=>rfl
 |o::os,b,k,h=>by
  rw[eL,uI os _ k ge,AI h]
theorem AZ:∀(os:List Oper) (b:List Nat) (t:Nat) (o:Oper),os[t]?=aa o->(eL os b)[b.length+t]?=aa (rN ((eL os b).take (b.length+t)) o)
 |[],b,t,o,h=>by simp at h
 |o'::os,b,0,o,h=>by
  simp only[ag2,AT]at h;subst h;have g:∀k,k<b.length->(eL os (b++[rN b o']))[k]?=b[k]?:=λk j=>by rw[uI os _ k ge,AI j]
  have d:(eL os (b++[rN b o'])).take b.length=b:=by
   apply List.ext_getElem?
   grind
  rw[eL,Nat.add_zero,d,uI os _ _ bv];simp
 |o'::os,b,t+1,o,h=>by
  simp only[agX]at h;have:=AZ os (b++[rN b o']) t o h;rw[eL]
  grind
theorem Il{ops:List Oper}{i j:Nat}{o:Oper}(b:ops[j]?=aa o) :
  C0 (eL ops []) i j=ae↔∃e∈o.after.toList,Region.binds .any e=ae/\(e.on=i\/(e.on<j/\C0 (eL ops []) i e.on=ae)):=by
 have h:=AZ ops [] j o b;simp only[List.length_nil,ahg]at h;unfold C0;rw[List.getD_eq_getElem?_getD,h,aiU,G0]
 grind
def ua(ops:List Oper)(D:Nat->Prop):Prop:=∀j o,D j->ops[j]?=aa o->∀e∈o.after.toList,Region.binds .any e=ae->D e.on
theorem ua.below{ops:List Oper}{D:Nat->Prop}(h:ua ops D){i:Nat}:∀(j:Nat),D j->C0 (eL ops []) i j=ae->D i:=by
 intro j;induction j using Nat.strongRecOn with
 |ind j l=>
  intro g b;cases ho:ops[j]? with
  |none=>
   exfalso;unfold Km.C0 at b;have:(eL ops []).length<=j:=by rw[AY];simpa using List.getElem?_eq_none_iff.1 ho
   simp_all
  |some o=>
   obtain⟨e,d,hb,h1|⟨h1,h2⟩⟩:=(Il ho).1 b
   .exact h1▸h j o g ho e d hb
   .exact l e.on h1 (h j o g ho e d hb) h2
theorem ua.ready{ops:List Oper}{D:Nat->Prop}(h:ua ops D){i j:Nat}{o:Oper}(ho:ops[j]?=aa o)(g:∀e∈o.after.toList,Region.binds .any e=ae->D e.on)(b:C0 (eL ops []) i j=ae):D i:=by
 obtain⟨e,d,hb,h1|⟨h1,h2⟩⟩:=(Il ho).1 b
 .grind
 .exact h.below e.on (g e d hb) h2
def IQ(aos:List ba)(j:Nat):Prop:=∃y,aos[j]?=aa y/\cls y.op=.w
theorem pQ{aos:List ba}{j:Nat}:j∈oK aos↔IQ aos j:=by
 unfold oK IQ
 grind
theorem qf{d:Type}(p:d->Bool):∀(l:List d),(∀k,k<(l.takeWhile p).length->∃y,l[k]?=aa y/\p y=ae)/\((l.takeWhile p).length=l.length\/∃y,l[(l.takeWhile p).length]?=aa y/\p y=ag)
 |[]=>by simp
 |x::l=>by
  by_cases b:p x=ae
  .rw[List.takeWhile_cons_of_pos b];obtain⟨g,m⟩:=qf p l;refine⟨λk j=>?_,?_⟩
   .cases k with
    |zero=>exact⟨x,rfl,b⟩| succ k=>exact g k (by simpa using j)
   .simp_all
  .simp_all
theorem rW{aos:List ba}{i:Nat}(hi:i<=aos.length):i<=phase aos i/\phase aos i<=aos.length/\(phase aos i=aos.length\/IQ aos (phase aos i))/\∀j,i<=j->j<phase aos i->¬ IQ aos j:=by
 unfold phase;obtain⟨m,d⟩:=qf (λy:ba=>decide (cls y.op≠.w)) (aos.drop i);have g:((aos.drop i).takeWhile λy=>decide (cls y.op≠.w)).length<=(aos.drop i).length:=by
  grind
 simp only[agF]at g d;refine⟨ap,ap,?_,λj v s=>?_⟩
 .rcases d with d|⟨y,b,l⟩
  .omega
  .rw[ahk]at b;exact .inr ⟨y,b,by simpa using l⟩
 .obtain⟨y,b,l⟩:=m (j-i) ap;rw[ahk,show i+(j-i)=j by omega]at b;rintro⟨x,u,q⟩;simp_all
structure Ord(ops:List Oper)(aos:List ba)(oW:List (Nat × Nat)):Prop where
 back:∀j o,j<aos.length->ops[j]?=aa o->∀e∈o.after.toList,Region.binds .any e=ae->e.on<j
 two:∀i j x y,i<j->aos[i]?=aa x->aos[j]?=aa y->C0 (eL ops []) i j=ae\/(x.apart y=ae/\(xv x y=ae\/(j=nJ (eL ops []) aos/\cls x.op=.w)))
 ear:∀y,aos[nJ (eL ops []) aos]?=aa y->(∃zs,y.op=.alloc zs)/\y.g=ab/\∃p,y.dst=aa p/\∀i z,aos[i]?=aa z->p∈z.rd->∀e,IQ aos e->e<nJ (eL ops []) aos->C0 (eL ops []) e i=ae
 rd:∀i x e,aos[i]?=aa x->cls x.op=.r->IQ aos e\/e=aos.length->Ee (eL ops []) aos i e=ae->e=phase aos i\/(i,e)∈oW
theorem Ms{ops:List Oper}{aos:List ba}{oW:List (Nat × Nat)}(h:Rz ops aos oW=ae):Ord ops aos oW:=by
 simp only[Rz,IS]at h;obtain⟨⟨⟨v,J⟩,d⟩,m⟩:=h;refine⟨λj o M O e b L=>?_,λi j x y E l s=>?_,λy s=>?_,λi x e l B b N=>?_⟩
 .rw[agJ]at v;have q:(o,j)∈ops.zip (List.range aos.length):=by
   refine agU (i:=j) ?_
   grind
  grind
 .grind
 .unfold Iw at d;rw[s]at d;simp only[IS,Option.isNone_iff_eq_none]at d;obtain⟨⟨A,K⟩,g⟩:=d;refine⟨?_,A,?_⟩
  .grind
  .split at g
   .rename_i p H;refine⟨p,H,λi z u I e b F=>?_⟩;rw[agJ]at g;have:=g i (by simpa using (OF.1 u).1);rw[u]at this;simp only[Bool.or_eq_true,ahP,List.contains_eq_mem,decide_eq_false_iff_not,agJ]at this;rcases this with h|h
    .simp_all
    .have:=h e (pQ.2 b);simp_all
   .simp_all
 .rw[agJ]at m;have:=m i (by simpa using (OF.1 l).1);rw[l]at this;simp only[B,if_true]at this;rw[agJ]at this;have:=this e (by
   rw[agl];rcases b with b|b
   .exact .inl (pQ.2 b)
   .simp_all)
  simp_all
section
variable{Q:Program}{σ:Nat->FuncId}{X:Wd}{call:ey}
theorem Ext.len{X X':Wd}(h:Ext X.H.length X X'):X.H.length<=X'.H.length:=by
 rcases ahj X'.H.length X.H.length with b|d
 .obtain⟨blk',g,_⟩:=h.bH X'.H.length b _ (By b);simp_all
 .exact d
theorem Bx{s b:St}{op:dW}{v:V}(h:jE call s op=aa (v,b)):b.aN=s.aN:=by
 have:=Ji (r':=s.aN) (λ_ _=>rfl) h;rw[show({ s with aN:=s.aN }:St)=s from rfl,h]at this
 grind
theorem HI{s b:St}{y:ba}(h:jF call s y=aa b):∃v,b.aN=nS s.aN y.dst v:=by
 unfold jF at h;split at h
 .split at h
  .rename_i v g d;cases h;exact⟨v,by rw[Bx d]⟩
  .simp at h
 .grind
 .simp at h
theorem yA{aN:T}{d:Option P}{v:V}{p:P}:(nS aN d v).get p=if d=aa p then v else aN.get p:=by
 cases d with
 |none=>simp[nS]| some q=>simp only[nS,T.sT,AT]
theorem se{s l:St}{y:ba}(g:cls y.op≠.w)(h:jF call s y=aa l):dV s.heap l.heap/\l.defs=s.defs:=by
 unfold jF at h;split at h
 .split at h
  .rename_i v z b;cases h;by_cases j:(∃f xs h,y.op=.call f xs h)\/(∃x xs h,y.op=.jc x xs h)\/y.op=.recover\/∃x xs,y.op=.defer x xs
   .rcases j with⟨f,xs,q,e⟩|⟨x,xs,q,e⟩|e|⟨x,xs,e⟩
    .rw[e]at b g;cases q
     .simp only[jE,lO,agH,if_false,IT,agk]at b;obtain⟨⟨A,H'⟩,b,rfl,rfl⟩:=b;refine⟨?_,rfl⟩;unfold il at b;split at b
      .simp_all
      .split at b
       .simp_all
       .split at b
        .simp_all
        .simp only[AT,agk]at b;show dV s.heap H';rw[<-b.2];exact(tn _ _ _).ext
     .exact absurd rfl g
    .rw[e]at g;exact absurd rfl g
    .rw[e]at g;exact absurd rfl g
    .rw[e]at g;exact absurd rfl g
   .have u:(cm s.aN s.heap y.op).map (λr=>(r.1,{ s with heap:=r.2 }))=aa (v,z):=by
     generalize y.op=op at b j;cases op<;>first|exact b|(exfalso;apply j;simp)
    simp only[IT,agk]at u;obtain⟨⟨A,H'⟩,m,rfl,rfl⟩:=u;clear b;have b:=m;clear m;refine⟨?_,rfl⟩;show dV s.heap H';cases d:cls y.op with
    |p=>
     have:=VI (r:=s.aN) d s.heap s.heap;rw[b]at this;simp only[ag1,AT,agk]at this;rw[this.2];exact dV.refl _
    |r=>rw[(Jj d (dV.refl _) b).1];exact dV.refl _
    |a=>
     rcases ac_ d b with e|⟨cs,e⟩
     .rw[e];exact dV.refl _
     .rw[e];exact dV.append _ _
    |c=>
     generalize y.op=op at b d;cases op<;>first|(simp only[cls,reduceCtorEq]at d;done)|(simp[cm]at b;done)
    |w=>exact absurd d g
  .simp at h
 .cases h;exact⟨dV.refl _,rfl⟩
 .simp at h
def lz(aN:T)(ps:List P):T:=ps.foldl (λt p=>t.set p (aN.get p)) .e
theorem yB(aN:T)(ps:List P)(p:P):(lz aN ps).get p=if p∈ps then aN.get p else .top:=by
 have key:∀(ps:List P) (t:T),(ps.foldl (λt p=>t.set p (aN.get p)) t).get p=if p∈ps then aN.get p else t.get p:=by
  intro ps;induction ps with
  |nil=>intro t;simp
  |cons q ps b=>
   intro t;simp only[aid,b,T.sT,agA]
   grind
 have:=key ps .e
 assumption
structure mP(Q:Program)(σ:Nat->FuncId)(call:ey)(n:Nat)(ops:Array Oper)(aos:List ba)(oW:List (Nat × Nat))(st:Nat->St):Prop where
 Y8:iy (nN Q σ n ops) ops.toList aos=ae
 ord:Ord ops.toList aos oW
 step:∀i y,aos[i]?=aa y->jF call (st i) y=aa (st (i+1))
 aeS:∀i e y,(i,e)∈oW->aos[i]?=aa y->wanted (st i).aN y.g=aa ae->∃v H1 H2,cm (st i).aN (st i).heap y.op=aa (v,H1)/\cm (st i).aN (st e).heap y.op=aa (v,H2)
structure nF(σ:Nat->FuncId)(X:Wd)(c:Nat)(zs:List FC):Prop where
 cP:∃us t,X.w.heap[c]?=aa (.cells us.toArray t (0,0))/\A2 (CR σ X) (zs.map .f) us
 b:X.B<=c
 AH:∀b L,X.di b=aa L->L.c≠c
 f:∀i,¬ X.F c i
theorem nF.lt{c:Nat}{zs:List FC}(h:nF σ X c zs):c<X.w.heap.size:=by
 obtain⟨us,t,h1,_⟩:=h.cP
 grind
theorem nF.ext{X X':Wd}(d:Ext X.H.length X X'){c:Nat}{zs:List FC}(h:nF σ X c zs):nF σ X' c zs:=by
 have j:=h.lt;obtain⟨us,t,h1,h2⟩:=h.cP;refine⟨⟨us,t,by rw[d.frame c j h.AH];exact h1,A2.ext' σ d h2⟩,by rw[d.B];exact h.b,λb L hb=>?_,λi hi=>?_⟩
 .rcases d.AH b L hb with⟨b0,L0,g1,g2⟩|g1
  .rw[<-g2];exact h.AH b0 L0 g1
  .omega
 .rcases d.sy c i hi with g|g|⟨b,L,g1,g2⟩
  .exact h.f i g
  .omega
  .exact h.AH b L g1 g2
theorem SR.assign(m:SR Q σ X){n c:Nat}{zs:List FC}{fl:Nat}(g:nF σ X c zs)(u:X.H[n]?=aa (.box (zs.map .f) fl))(x:X.di n=ab) :
  SR Q σ { X with di:=λb=>if b=n then aa ⟨c,0⟩else X.di b }/\sx X.H.length X { X with di:=λb=>if b=n then aa ⟨c,0⟩else X.di b }/\VR σ { X with di:=λb=>if b=n then aa ⟨c,0⟩else X.di b } (.c (.ptr n 0 0)) (.pointer (aa ⟨c,0,ab⟩)):=by
 have q:sx X.H.length X { X with di:=λb=>if b=n then aa ⟨c,0⟩else X.di b }:=by
  refine⟨λ_ _ h=>h,λ_ _ _=>rfl,λb _ cP hb=>⟨cP,hb,?_⟩⟩;have:∀L,X.di b=aa L->(if b=n then aa (⟨c,0⟩:Loc)else X.di b)=aa L:=λL v=>by
   grind
  cases cP<;>simp only[true_and,and_self]<;>first|exact this|(exact .inl ⟨trivial,trivial,this⟩)|(exact⟨rfl,.inl ⟨rfl,rfl,this⟩⟩)|(exact .inl this)|simpa using this
 obtain⟨us,t,h1,h2⟩:=g.cP;refine⟨⟨λb L hb=>?_,λb j L s hb d hc=>?_,m.fb⟩,q,⟨⟨c,0⟩,bv,by rw[u]⟩⟩
 .by_cases e:b=n
  .subst e;simp only[if_true,AT]at hb;subst hb;exact⟨g.b,g.lt,_,u,us,⟨t,(0,0),h1,λi _=>by simp⟩,A2.fE σ q h2,λi _=>g.f i⟩
  .simp only[e,if_false]at hb;obtain⟨g1,g2,cP,g3,g4⟩:=m.br b L hb;exact⟨g1,g2,cP,g3,BR.sP Q σ q rfl (λ_ h=>h) g4⟩
 .simp only at hb d;by_cases e:b=n<;>by_cases l:j=n
  .omega
  .rw[bZ e]at hb;rw[ct l]at d;cases hb;exact absurd hc.symm (g.AH j s d)
  .rw[ct e]at hb;rw[bZ l]at d;cases d;exact absurd hc (g.AH b L hb)
  .rw[ct e]at hb;rw[ct l]at d;exact m.inj b j L s hb d hc
abbrev eJ(ops:Array Oper)(aos:List ba):Nat:=nJ (eL ops.toList []) aos
def aez(σ:Nat->FuncId)(X0:Wd)(ops:Array Oper)(aos:List ba)(E:Nat)(X:Wd)(a:Act)(p:P)(K:Nat):Prop:=
 ∃y zs c,K=eJ ops aos+1/\E<=eJ ops aos/\aos[eJ ops aos]?=aa y/\y.dst=aa p/\y.op=.alloc zs/\a.tmps.getD p.toNat undef=.pointer (aa ⟨c,0,ab⟩)/\X0.w.heap.size<=c/\nF σ X c zs
structure Inv(Q:Program)(σ:Nat->FuncId)(X0:Wd)(n:Nat)(ops:Array Oper)(aos:List ba)(st:Nat->St)(D:Nat->Prop)(E:Nat)(X:Wd)(a:Act):Prop where
 closed:ua ops.toList D
 dlt:∀j,D j->j<aos.length
 eN:E<=aos.length
 eW:E=aos.length\/IQ aos E
 eD:¬ D E
 wD:∀j,IQ aos j->j<E->D j
 heap:X.H=(st E).heap
 ext:Ext X0.H.length X0 X
 sr:SR Q σ X
 b:X.B<=X.w.heap.size
 defs:iO σ X (st E).defs a.defers
 size:n<=a.tmps.size
 R_:∀p,∃K,K<=aos.length/\(VR σ X ((st K).aN.get p) (a.tmps.getD p.toNat undef)\/aez σ X0 ops aos E X a p K)/\∀j y,aos[j]?=aa y->y.dst=aa p->(j<K↔D j)
 AG:∀j y,j<E->¬ D j->aos[j]?=aa y->cls y.op=.a->(st (j+1)).heap.length≠(st j).heap.length->X.di (st j).heap.length=ab
section
variable{n:Nat}{ops:Array Oper}{aos:List ba}{oW:List (Nat × Nat)}{st:Nat->St}
theorem mP.oF(R:mP Q σ call n ops aos oW st){p:P}{lo:Nat}:∀(hi:Nat),lo<=hi->hi<=aos.length->(∀j y,lo<=j->j<hi->aos[j]?=aa y->y.dst≠aa p)->(st lo).aN.get p=(st hi).aN.get p
 |0,h,_,_=>by rw[Nat.le_zero.1 h]
 |hi+1,h,g,b=>by
  rcases ahj hi lo with h1|h1
  .grind
  .rw[mP.oF R hi h1 ap λj y h2 h3=>b j y h2 ap];have hy:=By (show hi<aos.length by omega);obtain⟨v,d⟩:=HI (R.step hi _ hy);rw[d,yA,ct (b hi _ h1 ap hy)]
theorem mP.dR(R:mP Q σ call n ops aos oW st){lo:Nat}:∀(hi:Nat),lo<=hi->hi<=aos.length->(∀j,lo<=j->j<hi->¬ IQ aos j)->dV (st lo).heap (st hi).heap/\(st hi).defs=(st lo).defs
 |0,h,_,_=>by rw[Nat.le_zero.1 h];exact⟨dV.refl _,rfl⟩
 |hi+1,h,l,b=>by
  rcases ahj hi lo with h1|h1
  .rw[show lo=hi+1 by omega];exact⟨dV.refl _,rfl⟩
  .obtain⟨g1,g2⟩:=mP.dR R hi h1 ap λj h2 h3=>b j h2 ap;have hy:=By (show hi<aos.length by omega);obtain⟨d,g⟩:=se (λhc=>b hi h1 ap ⟨_,hy,hc⟩) (R.step hi _ hy);exact⟨g1.trans d,g.trans g2⟩
theorem mP.at(R:mP Q σ call n ops aos oW st){i:Nat}{y:ba}(hy:aos[i]?=aa y):∃o,ops[i]?=aa o/\nN Q σ n ops o y=ae:=by
 have:=gn R.Y8;have hi:i<ops.toList.length:=by rw[this.len];exact(OF.1 hy).1
 have b:=By hi;refine⟨ops.toList[i],by rw[<-Array.getElem?_toList];exact b,this.2 i _ _ b hy⟩
theorem mP.before(R:mP Q σ call n ops aos oW st){i j:Nat}{x y:ba}(b:i<j)(d:aos[i]?=aa x)(hy:aos[j]?=aa y)(h:x.apart y=ag\/(xv x y=ag/\(j=eJ ops aos->cls x.op≠.w))):C0 (eL ops.toList []) i j=ae:=by
 rcases R.ord.two i j x y b d hy with h1|⟨h1,h2⟩
 .exact h1
 .simp_all
theorem Ext.assign{X0 d:Wd}(h:Ext X0.H.length X0 d){n c:Nat}(g:sx d.H.length d { d with di:=λb=>if b=n then aa ⟨c,0⟩else d.di b })(hc:X0.w.heap.size<=c):Ext X0.H.length X0 { d with di:=λb=>if b=n then aa ⟨c,0⟩else d.di b } where
 B:=h.B
 F:=h.F
 sy:=h.sy
 fw:=h.fw
 bH:=λb hb=>(h.bH b hb).trans (g.bH b (ahz hb h.len))
 AH:=λb L hb=>by
  simp only at hb;by_cases e:b=n
  .grind
  .rw[ct e]at hb;exact h.AH b L hb
 size:=h.size
 os:=h.os
 tape:=h.tape
 output:=h.output
 frame:=h.frame
theorem mP.Qu(R:mP Q σ call n ops aos oW st){y:ba}(hy:aos[eJ ops aos]?=aa y):cls y.op=.a:=by
 obtain⟨⟨zs,h⟩,_⟩:=R.ord.ear y hy;rw[h];rfl
theorem P6{x y:ba}{p:P}(h:x.dst=aa p)(b:p∈y.rd):x.apart y=ag:=by
 simp[ba.apart,h,b]
theorem Dq{x y:ba}{p:P}(h:x.dst=aa p)(b:y.dst=aa p):x.apart y=ag:=by
 simp[ba.apart,h,b]
theorem P5{x y:ba}{p:P}(h:p∈x.rd)(b:y.dst=aa p):x.apart y=ag:=by
 simp[ba.apart,h,b]
structure mM(ops:Array Oper)(aos:List ba)(D:Nat->Prop)(i:Nat)(o:Oper)(y:ba):Prop where
 ho:ops[i]?=aa o
 hy:aos[i]?=aa y
 hD:¬ D i
 pre:∀e∈o.after.toList,Region.binds .any e=ae->D e.on
variable{X0:Wd}{D:Nat->Prop}{E i:Nat}{a:Act}{o:Oper}{y:ba}
theorem mM.rT(d:Inv Q σ X0 n ops aos st D E X a)(b:mM ops aos D i o y){j:Nat}(h:C0 (eL ops.toList []) j i=ae):D j:=
 d.closed.ready (by simpa using b.ho) b.pre h
theorem mM.tv(b:Inv Q σ X0 n ops aos st D E X a)(g:mM ops aos D i o y){j:Nat}(h:C0 (eL ops.toList []) i j=ae):¬ D j:=
 λd=>g.hD (b.closed.below j d h)
theorem mP.reads(R:mP Q σ call n ops aos oW st)(l:Inv Q σ X0 n ops aos st D E X a)(b:mM ops aos D i o y){p:P}(A:p∈y.rd):VR σ X ((st i).aN.get p) (a.tmps.getD p.toNat undef):=by
 obtain⟨K,H,m,F⟩:=l.R_ p;have hi:i<aos.length:=(OF.1 b.hy).1;have m:VR σ X ((st K).aN.get p) (a.tmps.getD p.toNat undef):=by
  rcases m with m|⟨z,zs,c,_,L,d,hd,_⟩
  .exact m
  .exfalso;obtain⟨_,_,M,v,g⟩:=R.ord.ear z d;rw[hd]at v;cases v;have I:=(OF.1 d).1;rcases l.eW with h4|u
   .omega
   .have J:E≠eJ ops aos:=by
     intro e;obtain⟨q,B,x⟩:=u;rw[e]at B;rw[R.Qu B]at x;cases x
    exact l.eD (b.rT l (g i y b.hy A E u (show E<eJ ops aos by omega)))
 rcases Nat.le_total K i with h|h
 .rw[<-R.oF i h ap λj z h1 h2 d hd=>?_]
  .exact m
  .have:=b.rT l (R.before h2 d b.hy (.inl (P6 hd A)));have:=(F j z d hd).2 this;omega
 .rw[R.oF K h H λj z h1 h2 d hd=>?_]
  .exact m
  .have s:=(F j z d hd).1 h2;rcases ahj i j with h3|h3
   .exact b.tv l (R.before h3 b.hy d (.inl (P5 A hd))) s
   .have:j=i:=by omega
    subst this;exact b.hD s
theorem mP.fin(R:mP Q σ call n ops aos oW st)(F:Inv Q σ X0 n ops aos st D E X a)(q:mM ops aos D i o y){l:Wd}{a1:Act}{u:Value}{v:V}{m:Nat}(hS:SR Q σ l)(hB:l.B<=l.w.heap.size)(c9:Ext X0.H.length X0 l)
  (hm:∀v u,VR σ X v u->VR σ l v u) (b_:∀y zs c p,E<=eJ ops aos->aos[eJ ops aos]?=aa y->y.op=.alloc zs->y.dst=aa p->D (eJ ops aos)->a.tmps.getD p.toNat undef=.pointer (aa ⟨c,0,ab⟩)->X0.w.heap.size<=c->nF σ X c zs->if m<=eJ ops aos then nF σ l c zs else VR σ l ((st (eJ ops aos+1)).aN.get p) (.pointer (aa ⟨c,0,ab⟩)))
  (hv:VR σ l v u\/(i=eJ ops aos/\m<=eJ ops aos/\∃zs c,y.op=.alloc zs/\u=.pointer (aa ⟨c,0,ab⟩)/\X0.w.heap.size<=c/\nF σ l c zs))
  (ht:a1.tmps=(a.put o.dst u).tmps) (U:(st (i+1)).aN=nS (st i).aN y.dst v) (h1:m<=aos.length) (h2:m=aos.length\/IQ aos m) (h3:¬ (D m\/m=i)) (h4:∀j,IQ aos j->j<m->D j\/j=i)
  (hH:l.H=(st m).heap) (hd:iO σ l (st m).defs a1.defers)
  (hh:∀j y,j<m->¬ (D j\/j=i)->aos[j]?=aa y->cls y.op=.a->(st (j+1)).heap.length≠(st j).heap.length->l.di (st j).heap.length=ab) :
  Inv Q σ X0 n ops aos st (λj=>D j\/j=i) m l a1:=by
 have hi:i<aos.length:=(OF.1 q.hy).1;obtain⟨o',S,A⟩:=R.at q.hy;rw[q.ho]at S;cases S;have vW:(a.put o.dst u).tmps.size=a.tmps.size:=by cases o.dst<;>simp[Act.put]
 refine⟨λj oj O B e he hb=>?_,λj O=>O.elim (F.dlt j) λh=>h▸hi,h1,h2,h3,h4,hH,c9,hS,hB,hd,by rw[ht,vW];exact F.size,λp=>?_,hh⟩
 .rcases O with O|rfl
  .exact .inl (F.closed j oj O B e he hb)
  .have:oj=o:=by have:=q.ho;simp at B;rw[this]at B;cases B;rfl
   subst this;exact .inl (q.pre e he hb)
 .by_cases b:y.dst=aa p
  .have s:a1.tmps.getD p.toNat undef=u:=by
    rw[ht];simp only[nN,IS]at A;have g:=A.1.2;rw[b]at g;split at g
    .rename_i d p' L J;simp only[IS,beq_iff_eq,decide_eq_true_eq]at g;cases J;have Z:d<a.tmps.size:=ahz g.2 F.size;rw[L,g.1];simp only[Act.put];simp[Z]
    .rename_i J;simp at J
    .simp at g
   refine⟨i+1,hi,?_,λj z I x=>⟨λh=>?_,λh=>?_⟩⟩
   .rcases hv with hv|⟨N,Y,zs,c,g1,g2,g3,g4⟩
    .left;rw[U,yA,bZ b,s];exact hv
    .right;exact⟨y,zs,c,by rw[N],Y,by rw[<-N];exact q.hy,b,g1,by rw[s];exact g2,g3,g4⟩
   .rcases ahj j i with M|M
    .exact .inl (q.rT F (R.before M I q.hy (.inl (Dq x b))))
    .exact .inr ap
   .rcases h with h|rfl
    .rcases ahj i j with M|M
     .exact absurd h (q.tv F (R.before M q.hy I (.inl (Dq b x))))
     .omega
    .omega
  .obtain⟨K,hK,H,hw⟩:=F.R_ p;have e:a1.tmps.getD p.toNat undef=a.tmps.getD p.toNat undef:=by
    rw[ht];simp only[nN,IS]at A;have g:=A.1.2;split at g
    .rename_i d p' L J;simp only[IS,beq_iff_eq,decide_eq_true_eq]at g;have a_:d≠p.toNat:=λe=>b (by rw[J,P.toNat_inj (g.1.trans e)]);rw[L];simp[Act.put,Array.getD_eq_getD_getElem?,Array.getElem?_setIfInBounds_ne a_]
    .rename_i L J;rw[L];rfl
    .simp at g
   refine⟨K,hK,?_,λj z I x=>?_⟩
   .rcases H with H|⟨z,zs,c,g1,g2,g3,g4,g5,g6,g7,g8⟩
    .left;rw[e];exact hm _ _ H
    .have W:D (eJ ops aos):=(hw _ z g3 g4).1 ap;have:=b_ z zs c p g2 g3 g5 g4 W g6 g7 g8;split at this
     .rename_i Y;right;exact⟨z,zs,c,g1,Y,g3,g4,g5,by rw[e];exact g6,g7,this⟩
     .left;rw[e,g6,g1];exact this
   .rw[hw j z I x];exact⟨.inl,λh=>h.elim id λh=>absurd (by rw[h]at I;rw[q.hy]at I;cases I;exact x) b⟩
end
end
section
variable{Q:Program}{σ:Nat->FuncId}{X:Wd}{call:ey}
variable{n:Nat}{ops:Array Oper}{aos:List ba}{oW:List (Nat × Nat)}{st:Nat->St}
variable{X0:Wd}{D:Nat->Prop}{E i:Nat}{a:Act}{o:Oper}{y:ba}
theorem sL{x y:ba}(h:cls x.op=.w)(d:cls y.op≠.p)(b:cls y.op≠.r):xv x y=ag:=by
 unfold xv;rw[h];cases g:cls y.op<;>simp_all
theorem xw{x y:ba}(h:cls y.op=.w)(d:cls x.op≠.p)(b:cls x.op≠.r):xv x y=ag:=by
 unfold xv;rw[h];cases g:cls x.op<;>simp_all
theorem mP.yg(R:mP Q σ call n ops aos oW st){j:Nat}{z:ba}(b:aos[j]?=aa z)(hc:cls z.op≠.a):j≠eJ ops aos:=by
 rintro rfl;exact hc (R.Qu b)
theorem mP.ZL(R:mP Q σ call n ops aos oW st)(d:Inv Q σ X0 n ops aos st D E X a)(b:mM ops aos D i o y)(hc:cls y.op=.w):i=E:=by
 have hi:i<aos.length:=(OF.1 b.hy).1;rcases ah6 i E with h|h|h
 .exact absurd (d.wD i ⟨y,b.hy,hc⟩ h) b.hD
 .exact h
 .rcases d.eW with h1|⟨z,j,g⟩
  .omega
  .exact absurd (b.rT d (R.before h j b.hy (.inr ⟨sL g (by simp[hc]) (by simp[hc]),λe=>absurd e (R.yg b.hy (by simp[hc]))⟩))) d.eD
theorem mP.PU(R:mP Q σ call n ops aos oW st)(g:Inv Q σ X0 n ops aos st D E X a)(d:mM ops aos D i o y)(h1:cls y.op≠.p)(h2:cls y.op≠.r)(h3:cls y.op≠.w)(u:i=eJ ops aos->i<E):i<E/\∀j,i<=j->j<E->¬ IQ aos j:=by
 have hi:i<aos.length:=(OF.1 d.hy).1;refine⟨?_,λj v q s=>?_⟩
 .rcases ah6 i E with h|h|h
  .exact h
  .rcases g.eW with h4|⟨z,l,b⟩
   .omega
   .rw[<-h,d.hy]at l;cases l;exact absurd b h3
  .rcases g.eW with h4|⟨z,l,b⟩
   .omega
   .exact absurd (d.rT g (R.before h l d.hy (.inr ⟨sL b h1 h2,λe=>by have:=u e;omega⟩))) g.eD
 .have m:=g.wD j s q;obtain⟨z,l,b⟩:=s;rcases ahj i j with h|h
  .exact d.tv g (R.before h d.hy l (.inr ⟨xw b h1 h2,λ_=>h3⟩)) m
  .have:j=i:=by omega
   subst this;exact d.hD m
theorem mP.afe(R:mP Q σ call n ops aos oW st)(d:Inv Q σ X0 n ops aos st D E X a)(s:mM ops aos D i o y)(hc:cls y.op=.r)(L:wanted (st i).aN y.g=aa ae){v:V}{F:an}(h:cm (st i).aN (st i).heap y.op=aa (v,F)) :
  F=(st i).heap/\cm (st i).aN X.H y.op=aa (v,X.H):=by
 have hi:i<aos.length:=(OF.1 s.hy).1;refine⟨(Jj hc (dV.refl _) h).1,?_⟩;have q:Ee (eL ops.toList []) aos i E=ae:=by
  unfold Ee;rw[agJ];intro j K;have l:=pQ.1 K;split
  .rename_i m;have b:=d.wD j l m;cases x:C0 (eL ops.toList []) i j with
   |false=>rfl| true=>exact absurd b (s.tv d x)
  .rename_i m;cases x:C0 (eL ops.toList []) j i with
   |false=>rfl
   |true=>
    exfalso;have b:=s.rT d x;rcases ahj E j with h1|h1
    .rcases d.eW with h4|⟨z,M,B⟩
     .have:=d.dlt j b;omega
     .obtain⟨O,u,g⟩:=l;exact d.eD (d.closed.below j b (R.before h1 M u (.inr ⟨sL B (by simp[g]) (by simp[g]),λe=>absurd e (R.yg u (by simp[g]))⟩)))
    .have:j=E:=by omega
     subst this;exact d.eD b
 rw[d.heap];rcases R.ord.rd i y E s.hy hc (d.eW.symm) q with A|A
 .obtain⟨p1,_,_,H⟩:=rW (aos:=aos) (i:=i) ap;rw[<-A]at p1 H;exact(Jj hc (R.dR E p1 d.eN H).1 h).2
 .obtain⟨N,I,J,g1,g2⟩:=R.aeS i E y A s.hy L;rw[h]at g1;cases g1;have:=(Jj hc (dV.refl _) g2).1;simp_all
theorem mP.TA(R:mP Q σ call n ops aos oW st){z:ba}(d:aos[eJ ops aos]?=aa z){zs:List FC}(b:z.op=.alloc zs){p:P}(hd:z.dst=aa p) :
  (st (eJ ops aos+1)).heap=(st (eJ ops aos)).heap++[.box (zs.map .f) 0]/\(st (eJ ops aos+1)).aN.get p=.c (.ptr (st (eJ ops aos)).heap.length 0 0):=by
 obtain⟨_,hg,_⟩:=R.ord.ear z d;have h:=R.step _ z d;simp only[jF,hg,wanted,b,jE,cm,ag1,AT]at h;rw[<-h];exact⟨rfl,by rw[yA,bZ hd]⟩
theorem mP.Ik(R:mP Q σ call n ops aos oW st)(s:Inv Q σ X0 n ops aos st D E X a)(x:mM ops aos D i o y)(hc:cls y.op=.w){d:Wd}{a1:Act}{u:Value}{v:V}(hS:SR Q σ d)(hB:d.B<=d.w.heap.size)(hx:Ext X.H.length X d)
  (hv:VR σ d v u) (ht:a1.tmps=(a.put o.dst u).tmps) (B:(st (i+1)).aN=nS (st i).aN y.dst v) (hH:d.H=(st (i+1)).heap) (hd:iO σ d (st (i+1)).defs a1.defers) :
  ∃E' X2,X2.w=d.w/\Inv Q σ X0 n ops aos st (λj=>D j\/j=i) E' X2 a1:=by
 have hi:i<aos.length:=(OF.1 x.hy).1;have b_:=R.ZL s x hc;subst b_;obtain⟨p1,p2,p3,I⟩:=rW (aos:=aos) (i:=i+1) ap;obtain⟨q1,q2⟩:=R.dR _ p1 p2 I;rw[<-hH]at q1;obtain⟨k1,Z⟩:=SR.ahead hS q1;have m:Ext X.H.length X { d with H:=(st (phase aos (i+1))).heap }:=hx.trans (Z.mono hx.len);have W:Ext X0.H.length X0 { d with H:=(st (phase aos (i+1))).heap }:=s.ext.trans (m.mono s.ext.len);have J:¬ (D (phase aos (i+1))\/phase aos (i+1)=i):=by
  rintro(h|h)
  .rcases p3 with h1|⟨z,Y,g⟩
   .have:=s.dlt _ h;omega
   .exact x.tv s (R.before p1 x.hy Y (.inr ⟨sL hc (by simp[g]) (by simp[g]),λe=>absurd e (R.yg Y (by simp[g]))⟩)) h
  .omega
 have M:∀j,IQ aos j->j<phase aos (i+1)->D j\/j=i:=by
  intro j c9 hj;rcases ah6 j i with h|h|h
  .exact .inl (s.wD j c9 h)
  .omega
  .grind
 have O:iO σ { d with H:=(st (phase aos (i+1))).heap } (st (phase aos (i+1))).defs a1.defers:=by rw[q2];exact hd.ext' Z
 have iJ:i≠eJ ops aos:=R.yg x.hy (by simp[hc]);have AG:∀j z,j<phase aos (i+1)->¬ (D j\/j=i)->aos[j]?=aa z->cls z.op=.a->(st (j+1)).heap.length≠(st j).heap.length->i<j/\d.di (st j).heap.length=ab:=by
  intro j z hj hD Y g A;rcases ah6 j i with h|h|h
  .exact absurd (.inl (x.rT s (R.before h Y x.hy (.inr ⟨xw hc (by simp[g]) (by simp[g]),λe=>absurd e iJ⟩)))) hD
  .omega
  .have F:=(R.dR j h ap λk h1 h2=>I k h1 ap).1.len;rw[<-hH]at F;refine⟨h,?_⟩;cases l:d.di (st j).heap.length with
   |none=>rfl| some L=>have:=SR.lt hS l;omega
 by_cases hP:∃z zs c p,i<=eJ ops aos/\eJ ops aos<phase aos (i+1)/\aos[eJ ops aos]?=aa z/\z.op=.alloc zs/\z.dst=aa p/\D (eJ ops aos)/\a.tmps.getD p.toNat undef=.pointer (aa ⟨c,0,ab⟩)/\X0.w.heap.size<=c/\nF σ X c zs
 .obtain⟨z,zs,c,p,g1,g2,g3,g4,g5,g6,g7,g8,g9⟩:=hP;obtain⟨s1,s2⟩:=R.TA g3 g4 g5;have K:i<eJ ops aos:=by omega
  have c_:(st (i+1)).heap.length<=(st (eJ ops aos)).heap.length:=(R.dR _ K ap λk h1 h2=>I k h1 ap).1.len;obtain⟨fl,N⟩:∃fl,(st (phase aos (i+1))).heap[(st (eJ ops aos)).heap.length]?=aa (.box (zs.map .f) fl):=by
   have S:=(R.dR (phase aos (i+1)) (show eJ ops aos+1<=_ by omega) p2 λk h1 h2=>I k ap h2).1;rw[s1]at S;exact sU S
  have d9:nF σ { d with H:=(st (phase aos (i+1))).heap } c zs:=g9.ext m;have d_:d.di (st (eJ ops aos)).heap.length=ab:=by
   cases l:d.di (st (eJ ops aos)).heap.length with
   |none=>rfl| some L=>have:=SR.lt hS l;rw[hH]at this;omega
  obtain⟨a_,q,e_⟩:=SR.assign k1 d9 N d_;refine⟨phase aos (i+1),{ d with H:=(st (phase aos (i+1))).heap,di:=λb=>if b=(st (eJ ops aos)).heap.length then aa ⟨c,0⟩else d.di b },rfl,R.fin s x a_ hB (W.assign q g8) (λv u h=>VR.fE σ q (VR.ext' σ m h)) ?_ (.inl (VR.fE σ q (VR.ext' σ Z hv))) ht B p2 p3 J M rfl (iO.fE q O) ?_⟩
  .grind
  .intro j w hj hD hw U A;obtain⟨f1,f2⟩:=AG j w hj hD hw U A;show(if(st j).heap.length=(st (eJ ops aos)).heap.length then aa (⟨c,0⟩:Loc)else d.di (st j).heap.length)=ab;rw[ct,f2];intro e;rcases ah6 j (eJ ops aos)with h|h|h
   .have h1:=(R.dR (lo:=j+1) (eJ ops aos) h ap λk h1 h2=>I k ap ap).1.len;have h2:=(se (by simp[U]) (R.step j w hw)).1.len;omega
   .simp_all
   .have h1:=(R.dR (lo:=eJ ops aos+1) j h ap λk h1 h2=>I k ap ap).1.len
    grind
 .refine⟨phase aos (i+1),{ d with H:=(st (phase aos (i+1))).heap },rfl,R.fin s x k1 hB W (λv u h=>VR.ext' σ m h) ?_ (.inl (VR.ext' σ Z hv)) ht B p2 p3 J M rfl O (λj z h1 h2 h3 h4 h5=>(AG j z h1 h2 h3 h4 h5).2)⟩;intro z zs c p g1 g2 g3 g4 g5 g6 g7 g8;by_cases F:phase aos (i+1)<=eJ ops aos
  .rw[bZ F];exact g8.ext m
  .simp_all
theorem mP.qw(R:mP Q σ call n ops aos oW st)(d:Inv Q σ X0 n ops aos st D E X a)(l:mM ops aos D i o y)(hc:cls y.op≠.w){b:Wd}{a1:Act}{u:Value}{v:V}(B:SR Q σ b)(x:b.B<=b.w.heap.size)(m:Ext X.H.length X b)
  (I:VR σ b v u\/(i=eJ ops aos/\E<=eJ ops aos/\∃zs c,y.op=.alloc zs/\u=.pointer (aa ⟨c,0,ab⟩)/\X0.w.heap.size<=c/\nF σ b c zs)) (H:a1.tmps=(a.put o.dst u).tmps) (g:(st (i+1)).aN=nS (st i).aN y.dst v) (A:b.H=X.H) (hd:iO σ b (st E).defs a1.defers)
  (F:∀j z,j<E->¬ (D j\/j=i)->aos[j]?=aa z->cls z.op=.a->(st (j+1)).heap.length≠(st j).heap.length->b.di (st j).heap.length=ab) :
  Inv Q σ X0 n ops aos st (λj=>D j\/j=i) E b a1:=by
 refine R.fin d l B x (d.ext.trans (m.mono d.ext.len)) (λv u h=>VR.ext' σ m h) (λz zs c p g1 _ _ _ _ _ _ g8=>by rw[bZ g1];exact g8.ext m) I H g d.eN d.eW ?_ (λj h1 h2=>.inl (d.wD j h1 h2)) (A.trans d.heap) hd F;rintro(h|h)
 .exact d.eD h
 .have hi:i<aos.length:=(OF.1 l.hy).1;rcases d.eW with h1|⟨z,s,q⟩
  .omega
  .rw[h,l.hy]at s;cases s;exact hc q
theorem mP.jZ(d:Inv Q σ X0 n ops aos st D E X a){b:Wd}(h:b.di=X.di):∀j z,j<E->¬ (D j\/j=i)->aos[j]?=aa z->cls z.op=.a->(st (j+1)).heap.length≠(st j).heap.length->b.di (st j).heap.length=ab:=
 λj z h1 h2 h3 h4 h5=>by rw[h];exact d.AG j z h1 (λh=>h2 (.inl h)) h3 h4 h5
theorem mP.G_(R:mP Q σ call n ops aos oW st)(m:Inv Q σ X0 n ops aos st D E X a)(u:mM ops aos D i o y)(hc:cls y.op=.a)(F:i=eJ ops aos->i<E)(l:(st (i+1)).heap.length≠(st i).heap.length){j:Nat}{z:ba}(J:j<E)(hD:¬ (D j\/j=i))(B:aos[j]?=aa z)(d:cls z.op=.a)
  (g:(st (j+1)).heap.length≠(st j).heap.length):(st j).heap.length≠(st i).heap.length:=by
 have hi:i<aos.length:=(OF.1 u.hy).1;obtain⟨g1,g2⟩:=R.PU m u (by simp[hc]) (by simp[hc]) (by simp[hc]) F;have I:∀k,j<=k->k<E->¬ IQ aos k:=by
  intro k h1 h2 q;have s:=m.wD k q h2;obtain⟨w,v,x⟩:=q;rcases ahj j k with h|h
  .exact hD (.inl (m.closed.below k s (R.before h B v (.inr ⟨xw x (by simp[d]) (by simp[d]),λ_=>by simp[d]⟩))))
  .grind
 have b:∀k w,aos[k]?=aa w->cls w.op=.a->(st (k+1)).heap.length≠(st k).heap.length->(st k).heap.length<(st (k+1)).heap.length:=by
  intro k w q A H;have:=(se (by simp[A]) (R.step k w q)).1.len;omega
 rcases ah6 j i with h|h|h
 .have h1:=b j z B d g;have h2:(st (j+1)).heap.length<=(st i).heap.length:=(R.dR i h ap λk h3 h4=>I k ap ap).1.len;omega
 .omega
 .have h1:=b i y u.hy hc l;have h2:(st (i+1)).heap.length<=(st j).heap.length:=(R.dR j h (by have:=m.eN;omega) λk h3 h4=>g2 k ap ap).1.len;omega
end
section
variable{Q:Program}{σ:Nat->FuncId}{X:Wd}{call:ey}
variable{n:Nat}{ops:Array Oper}{aos:List ba}{oW:List (Nat × Nat)}{st:Nat->St}
variable{X0:Wd}{D:Nat->Prop}{E i:Nat}{a:Act}{o:Oper}{y:ba}
theorem Hq{w':World}{q:Obj}(g:SR Q σ X)(d:fA X.w w' q):SR Q σ { X with w:=w' }/\Ext X.H.length X { X with w:=w' }:=by
 have j:Ext X.H.length X { X with w:=w' }:=Ext.one g X.H.length rfl (λ_ _=>Iff.rfl) (λk m _=>d.Fg m)
  (λL i h=>by rw[SR.uS g]at h;simp at h) (λh=>absurd h (aiu _)) (λ_ _ _=>rfl) (λ_ _=>rfl) (λL h=>.inl ⟨L,h,rfl⟩) (by show _<=w'.heap.size;rw[d.size];omega) d.os d.tape d.output
 refine⟨SR.step Q σ g j X.H.length (λ_ _=>rfl) (λ_ _=>rfl) (λb L _ l=>d.Fg (g.br b L l).2.1)
  (λ_ _ _ _ _ h=>h) (λL h=>by change X.di X.H.length=aa L at h;rw[SR.uS g]at h;simp at h) (λc i h=>?_),j⟩
 have:=g.fb c i h;show c<w'.heap.size;rw[d.size];omega
theorem Rw{y:ba}{p:P}(h:p∈y.op.rd):p∈y.rd:=by unfold ba.rd;exact agl.2 (.inr h)
theorem IF{y:ba}{p:P}{w:Bool}(h:y.g=aa (p,w)):p∈y.rd:=by unfold ba.rd;rw[h];simp
theorem mP.UH(hC:gZ Q σ call)(R:mP Q σ call n ops aos oW st)(d:Inv Q σ X0 n ops aos st D E X a)(q:mM ops aos D i o y){b:Frame}{rest:List Nat}{k:List Item}{cs:List Frame}(hk:lN b cs)(k_:jA y.op b) :
  ∃E' X' a',Steps Q (lone (b.atR a (.inRegion ops (i::rest)::k)) cs X.w) (lone (b.atR a' (.inRegion ops rest::k)) cs X'.w)/\Inv Q σ X0 n ops aos st (λj=>D j\/j=i) E' X' a'/\a'.tmps.size=a.tmps.size:=by
 have hi:i<aos.length:=(OF.1 q.hy).1;obtain⟨o',i8,hm⟩:=R.at q.hy;rw[q.ho]at i8;cases i8;have g:=R.step i y q.hy;have O:∀p∈y.rd,VR σ X ((st i).aN.get p) (a.tmps.getD p.toNat undef):=λp hp=>R.reads d q hp;have m:fk Q σ o y.op=ae:=by simp only[nN,IS]at hm;exact hm.1.1
 have W:∀u,(a.put o.dst u).tmps.size=a.tmps.size:=λu=>by cases o.dst<;>simp[Act.put]
 have J:∀(a:Act) u,(a.put o.dst u).defers=a.defers:=λa u=>by cases o.dst<;>rfl
 have n8:∀(a a':Act) u,a'.tmps=a.tmps->(a'.put o.dst u).tmps=(a.put o.dst u).tmps:=λa a' u h=>by cases o.dst<;>simp[Act.put,h]
 unfold jF at g;split at g
 .rename_i e_;have hw:=qS hm (aN:=(st i).aN) (tmps:=a.tmps) (X:=X) (λp w' hg=>O p (IF hg)) d.size e_;split at g
  .rename_i v s1 h1;simp only[AT]at g;have A:(st (i+1)).aN=nS (st i).aN y.dst v:=by rw[<-g,<-Bx h1]
   have B:(st (i+1)).heap=s1.heap:=by rw[<-g]
   have M:(st (i+1)).defs=s1.defs:=by rw[<-g]
   have F:∀p∈y.op.rd,(st i).aN.get p=(lz (st i).aN y.op.rd).get p:=λp hp=>by rw[yB,bZ hp]
   have Y:RR σ X (lz (st i).aN y.op.rd) a.tmps:=λp=>by
    rw[yB];split
    .rename_i hp;exact O p (Rw hp)
    .trivial
   have K:=Ji F h1;by_cases l:cls y.op=.w
   .have a_:=R.ZL d q l;obtain⟨g1,g2⟩:=Jh hC d.sr d.b (s:={ st i with aN:=lz (st i).aN y.op.rd }) (by rw[d.heap,<-a_]) Y (by rw[a_];exact d.defs) m K;obtain⟨X1,u,a1,k1,⟨k2,k3,k4,k5,k6⟩,k7,k8⟩:=g1 b ops i rest k cs q.ho hw hk k_;obtain⟨E',X2,q1,q2⟩:=R.Ik d q l (a1:=a1.put o.dst u) k3 k6 k5 k4 (n8 a a1 u k7) A (by rw[k2,B]) (by rw[M,J];exact k8)
    grind
   .
    have j_:∀c,o.op≠.defer c:=td m (λx xs e=>l (by rw[e];rfl)) (λe=>by rw[e]at h1;simp[jE,cm]at h1);have one:∀{u:Value} {w':World},(execOp a.eval o).run Q X.w=.ok (.value u) w'->Steps Q (lone (b.atR a (.inRegion ops (i::rest)::k)) cs X.w) (lone (b.atR (a.put o.dst u) (.inRegion ops rest::k)) cs w'):=by
     intro u w' b_;refine .one (step_lone_go ?_);rw[stepGR_op q.ho hw,Oper.semAt_eq _ _ _ j_];have Z:=Frame.finish_atR b a ops i rest k u;rw[q.ho]at Z;simp only[ag8]at Z;rw[<-Z];simp[stepG.apply,Sem.runT_eq,b_]
    by_cases H:cls y.op=.c
    .
     obtain⟨f,xs,d_⟩:∃f xs,y.op=.call f xs ag:=by
      generalize y.op=op at H;cases op<;>first|(simp only[cls,reduceCtorEq]at H;done)|skip
      rename_i f xs hh;cases hh
      .simp
      .simp[cls]at H
     have I:=Y;rw[d_]at K m I;simp only[jE,lO,agH,if_false,IT,agk]at K;obtain⟨⟨v',H'⟩,hp,rfl,n9⟩:=K;have j9:H'=(st (i+1)).heap:=by
      simp_all
     obtain⟨g1,g2⟩:=R.PU d q (by simp[H]) (by simp[H]) (by simp[H]) (λe=>absurd e (R.yg q.hy (by simp[H])));have g_:dV H' X.H:=by
      rw[j9,d.heap];exact(R.dR E g1 d.eN λj h1 h2=>g2 j ap h2).1
     obtain⟨X1,u,k1,⟨k2,k3,k4,k5,k6⟩,k7⟩:=BW hC d.sr d.b I m hp g_ b ops i rest k cs q.ho hw;exact⟨E,X1,a.put o.dst u,k1,R.qw d q l k3 k6 k5 (.inl k4) rfl A k2 (by rw[J];exact d.defs.ext' k5) (mP.jZ d k7),W u⟩
    .have hx:(cm (lz (st i).aN y.op.rd) (st i).heap y.op)=aa (v,s1.heap):=by
      have d9:¬ ((∃f xs h,y.op=.call f xs h)\/(∃x xs h,y.op=.jc x xs h)\/y.op=.recover\/∃x xs,y.op=.defer x xs):=by
       rintro(⟨f,xs,hh,e⟩|⟨x,xs,hh,e⟩|e|⟨x,xs,e⟩)<;>rw[e]at l H
       .cases hh
        .exact H rfl
        .exact l rfl
       .exact l rfl
       .exact l rfl
       .exact l rfl
      have hx:(cm (lz (st i).aN y.op.rd) (st i).heap y.op).map (λr=>(r.1,({ st i with aN:=lz (st i).aN y.op.rd,heap:=r.2 }:St)))=aa (v,{ s1 with aN:=lz (st i).aN y.op.rd }):=by
       generalize lz (st i).aN y.op.rd=r at K;generalize y.op=op at K d9;cases op<;>first|exact K|(exfalso;apply d9;simp)
      simp only[IT,agk,St.mk.injEq]at hx
      grind
     by_cases U:cls y.op=.a
     .by_cases c_:i=eJ ops aos/\E<=i
      .
       obtain⟨i6,j8⟩:=c_;obtain⟨⟨zs,d_⟩,_,_⟩:=R.ord.ear y (show aos[eJ ops aos]?=aa y from i6▸q.hy);have i7:=hx;rw[d_]at i7 m;simp only[cm,AT,agk]at i7;obtain⟨rfl,_⟩:=i7;simp only[fk]at m;split at m
       .rename_i t ho;obtain⟨z,us,j5,j6,j7,_⟩:=gH (σ:=σ) (X:=X) m X.w;have b_:(execOp a.eval o).run Q X.w=.ok (.value (.pointer (aa ⟨X.w.heap.size,0,ab⟩))) (X.w.alloc (.cells us.toArray t)):=by
         simp only[execOp,ho];refine fL ?_;simp[Instr.alloc,j5,newVar,newRow,j6]
        obtain⟨e1,e2⟩:=Hq d.sr (fA.alloc X.w (.cells us.toArray t));refine⟨E,{ X with w:=X.w.alloc (.cells us.toArray t) },a.put o.dst (.pointer (aa ⟨X.w.heap.size,0,ab⟩)),one b_,R.qw d q l e1 (by have:=d.b;simp;omega) e2 (.inr ⟨i6,by rw[<-i6];exact j8,zs,X.w.heap.size,d_,rfl,d.ext.size,?_⟩) rfl A rfl (by rw[J];exact d.defs.ext' e2) (mP.jZ d rfl),W _⟩;exact⟨⟨us,t,(fA.alloc X.w (.cells us.toArray t)).new,A2.ext' σ e2 j7⟩,d.b,λb L hb=>by have:=(d.sr.br b L hb).2.1;omega,λj hj=>by have:=d.sr.fb _ j hj;omega⟩
       .simp_all
      have hJ:i=eJ ops aos->i<E:=λe=>by
       omega
      obtain⟨g1,g2⟩:=R.PU d q (by simp[U]) (by simp[U]) (by simp[U]) hJ;have g_:dV s1.heap X.H:=by
       rw[<-B,d.heap];exact(R.dR E g1 d.eN λj h1 h2=>g2 j ap h2).1
      obtain⟨X1,u,k1,⟨k2,k3,k4,k5,k6⟩,k7,k8⟩:=T7 d.sr d.b Y U m hx g_ (λd9=>d.AG i y g1 q.hD q.hy U (by rw[B];exact d9));refine⟨E,X1,a.put o.dst u,one k1,R.qw d q l k3 k6 k5 (.inl k4) rfl A k2 (by rw[J];exact d.defs.ext' k5) ?_,W u⟩;by_cases f_:(st (i+1)).heap.length=(st i).heap.length
      .exact mP.jZ d (k8 (by rw[<-B];exact f_))
      .intro j z h2 h3 h4 h5 h6;rw[k7 _ (R.G_ d q U hJ f_ h2 h3 h4 h5 h6)];exact d.AG j z h2 (λh=>h3 (.inl h)) h4 h5 h6
     .
      have i9:cls y.op=.p\/cls y.op=.r:=by cases c9:cls y.op<;>simp_all
      have m_:cm (st i).aN (st i).heap y.op=aa (v,s1.heap):=by rw[Hz F];exact hx
      have i_:cm (lz (st i).aN y.op.rd) X.H y.op=aa (v,X.H):=by
       rcases i9 with c9|c9
       .have:=VI (r:=lz (st i).aN y.op.rd) c9 (st i).heap X.H;simp_all
       .rw[<-Hz F];exact(R.afe d q c9 e_ m_).2
      cases h_:y.op.Z4
      case true=>
       have N:=m;have S:=i_;have I:=Y;obtain⟨rg,l_⟩:=aI (lz (st i).aN y.op.rd);rw[<-l_]at S I;revert N S;generalize y.op=op at h_;cases op<;>simp only[dW.Z4,reduceCtorEq]at h_;intro N S;obtain⟨_,u,X1,k1,k2,k3,k4,k5,k6,k7⟩:=AD d.sr d.b I N S;exact⟨E,X1,a.put o.dst u,one k1,R.qw d q l k3 k6 k5 (.inl k4) rfl A k2 (by rw[J];exact d.defs.ext' k5) (mP.jZ d k7),W u⟩
      obtain⟨_,u,k1,k2⟩:=VC d.sr Y m i9 h_ i_;exact⟨E,X,a.put o.dst u,one k1,R.qw d q l d.sr d.b (Ext.refl _ _) (.inl k2) rfl A rfl (by rw[J];exact d.defs) (mP.jZ d rfl),W u⟩
  .simp_all
 .rename_i e_;have hw:=qS hm (aN:=(st i).aN) (tmps:=a.tmps) (X:=X) (λp w' hg=>O p (IF hg)) d.size e_;simp only[AT]at g;have A:(st (i+1)).aN=nS (st i).aN y.dst (.t []):=by rw[<-g]
  have B:(st (i+1)).heap=(st i).heap:=by rw[<-g]
  have M:(st (i+1)).defs=(st i).defs:=by rw[<-g]
  have m9:Steps Q (lone (b.atR a (.inRegion ops (i::rest)::k)) cs X.w) (lone (b.atR (a.put o.dst undef) (.inRegion ops rest::k)) cs X.w):=by
   refine .one ?_;have:=stepR_op_skip (P:=Q) (b:=b) (a:=a) (k:=k) (cs:=cs) (w:=X.w) (ops:=ops) (i:=i) (rest:=rest) (by simp[q.ho,hw]);rw[q.ho]at this;exact this
  by_cases l:cls y.op=.w
  .have a_:=R.ZL d q l;obtain⟨E',X2,q1,q2⟩:=R.Ik d q l (a1:=a.put o.dst undef) d.sr d.b (Ext.refl _ _) VR.undef rfl A (by rw[d.heap,B,a_]) (by rw[M,J,a_];exact d.defs)
   grind
  .exact⟨E,X,a.put o.dst undef,m9,R.qw d q l d.sr d.b (Ext.refl _ _) (.inl VR.undef) rfl A rfl (by rw[J];exact d.defs) (mP.jZ d rfl),W _⟩
 .simp at g
end
section
variable{Q:Program}{σ:Nat->FuncId}{X:Wd}{call:ey}
variable{n:Nat}{ops:Array Oper}{aos:List ba}{oW:List (Nat × Nat)}{st:Nat->St}
def LD(b:Array Bool)(j:Nat):Prop:=b.getD j ag=ae
theorem PK{b:Array Bool}{i:Nat}(hi:i<b.size):LD (b.setIfInBounds i ae)=λj=>LD b j\/j=i:=by
 funext j;apply propext;unfold LD;by_cases h:i=j
 .simp_all
 .have:j≠i:=λe=>h e.symm;simp_all
theorem G1{b:Array Bool}{i:Nat}(h:i∈Region.ready .any ops b):i<ops.size/\¬ LD b i/\∃o,ops[i]?=aa o/\∀e∈o.after.toList,Region.binds .any e=ae->LD b e.on:=by
 unfold Region.ready at h;simp only[agT,List.mem_range,IS,ahP]at h;obtain⟨g,s,d⟩:=h;refine⟨g,λm=>?_,?_⟩
 .unfold LD at m
  grind
 .have j:=Array.getElem?_eq_getElem g;rw[j]at d;simp only[ag1,aiU]at d;refine⟨ops[i],j,λe q l=>?_⟩;rw[<-Array.all_toList,agJ]at d;have:=d e q;simpa[l,LD]using this
theorem RO(g:Ord ops.toList aos oW)(B:aos.length=ops.size){b:Array Bool}(y:b.size=ops.size){j:Nat}(A:j<ops.size)(z:¬ LD b j):Region.ready .any ops b≠[]:=by
 have key:∀m,m<ops.size->¬ LD b m->∃i,i∈Region.ready .any ops b:=by
  intro m;induction m using Nat.strongRecOn with
  |ind m E=>
   intro s u;have x:=Array.getElem?_eq_getElem s;by_cases d:∀e∈ops[m].after.toList,Region.binds .any e=ae->LD b e.on
   .refine⟨m,?_⟩;unfold Region.ready;simp only[agT,List.mem_range,IS,ahP,x,ag1,aiU];refine⟨s,?_,?_⟩
    .unfold LD at u;simp_all
    .rw[<-Array.all_toList,agJ];intro e q;by_cases l:Region.binds .any e=ae
     .have:=d e q l;unfold LD at this;simp[this]
     .simp_all
   .simp only[Classical.not_forall]at d;obtain⟨e,q,l,v⟩:=d;have:=g.back m ops[m] ap (by simp[s]) e q l
    grind
 grind
theorem Qs(W:gZ Q σ call)(R:mP Q σ call n ops aos oW st){b:Frame}{k:List Item}{cs:List Frame}(Y:lN b cs)(H:∀y∈aos,jA y.op b) :
  ∀(X0:Wd) (fuel t:Nat) (d:Array Bool) (U:List Nat) (E:Nat) (X:Wd) (a:Act),d.size=ops.size->U.Nodup->(∀j,j<ops.size->(¬ LD d j↔j∈U))->U.length<=fuel->Inv Q σ X0 n ops aos st (LD d) E X a->
  ∃m v X' a',Steps Q (lone (b.atR a (.inRegion ops (Region.linearise.go .any ops fuel t d [])::k)) cs X.w) (lone (b.atR a' k) cs X'.w)/\Inv Q σ X0 n ops aos st m v X' a'/\(∀j,j<ops.size->m j)/\a'.tmps.size=a.tmps.size:=by
 have q:aos.length=ops.size:=by have:=(gn R.Y8).len;simpa using this.symm
 intro X0 fuel;induction fuel with
 |zero=>
  intro t d U E X a l B g F z;refine⟨LD d,E,X,a,?_,z,λj A=>?_,rfl⟩
  .simp only[Region.linearise.go,List.reverse_nil];exact .one stepR_region_end
  .simp_all
 |succ fuel ih=>
  intro t d U E X a l B g F z;simp only[Region.linearise.go];change ∃m v X' a',Steps Q (lone (b.atR a (.inRegion ops (match (Region.ready .any ops d)[t % (Region.ready .any ops d).length]? with
   |some i=>Region.linearise.go .any ops fuel (t / (Region.ready .any ops d).length) (d.setIfInBounds i ae) [i]
   |none=>[].reverse)::k)) cs X.w) _/\_
  cases hi:(Region.ready .any ops d)[t % (Region.ready .any ops d).length]? with
  |none=>
   have u:Region.ready .any ops d=[]:=by
    cases I:Region.ready .any ops d with
    |nil=>rfl
    |cons x xs=>
     rw[I]at hi;have Z:t % (x::xs).length<(x::xs).length:=Nat.mod_lt _ bv
     grind
   refine⟨LD d,E,X,a,?_,z,λj A=>?_,rfl⟩
   .exact .one stepR_region_end
   .exact Classical.byContradiction λh=>RO R.ord q l A h u
  |some i=>
   simp only[];rw[linearise_go_acc,List.reverse_singleton,List.singleton_append];obtain⟨r1,K,o,r3,r4⟩:=G1 (agU hi);have hy:=By (show i<aos.length by omega);have I:mM ops aos (LD d) i o aos[i]:=⟨r3,hy,K,r4⟩
   obtain⟨v,L,a1,O,J,S⟩:=R.UH W z I (b:=b) (rest:=Region.linearise.go .any ops fuel (t / (Region.ready .any ops d).length) (d.setIfInBounds i ae) []) (k:=k) (cs:=cs) Y (H _ (IN _));rw[<-PK ap]at J;have s:i∈U:=(g i r1).1 K;obtain⟨m,E2,M,N,k1,k2,k3,k5⟩:=ih (t / (Region.ready .any ops d).length) (d.setIfInBounds i ae) (U.erase i) v L a1 (by simpa using l) (B.erase i)
    (λj A=>by
     rw[B.mem_erase_iff,<-g j A,PK ap]
     grind)
    (by rw[List.length_erase_of_mem s];omega) J
   exact⟨m,E2,M,N,O.trans k1,k2,k3,k5.trans S⟩
theorem Qt(hC:gZ Q σ call)(u:Q.follows .mixedOrders=ae)(R:mP Q σ call n ops aos oW st){b:Frame}{k:List Item}{cs:List Frame}(hk:lN b cs)(M:∀y∈aos,jA y.op b){X:Wd}{a:Act}(g:Fr Q σ n X (st 0) a)(id:Nat) :
  ∃X' a',Steps Q (lone (b.atR a (.code (.region id ops ae)::k)) cs X.w) (lone (b.atR a' k) cs X'.w)/\Fr Q σ n X' (st aos.length) a'/\Ext X.H.length X X'/\a'.tmps.size=a.tmps.size:=by
 have Y:aos.length=ops.size:=by have:=(gn R.Y8).len;simpa using this.symm
 let X0:Wd:={ X with w:={ X.w with drawn:=X.w.drawn+1 } }
 have x:Ext X.H.length X X0:=
  {B:=rfl,F:=λ_ _ h=>h,sy:=λ_ _ h=>.inl h,fw:=λ_ _ _=>rfl,bH:=λb _ cP J=>⟨cP,J,by cases cP<;>simp[X0]⟩
   AH:=λb L h=>.inl ⟨b,L,h,rfl⟩,size:=agn _,os:=rfl,tape:=rfl,output:=rfl,frame:=λ_ _ _=>rfl }
 have I:SR Q σ X0:=by
  refine⟨λb L J=>?_,g.sr.inj,g.sr.fb⟩;obtain⟨q,s,cP,S,U⟩:=g.sr.br b L J;exact⟨q,s,cP,S,BR.ext Q σ x rfl (λ_ h=>h) U⟩
 obtain⟨p1,p2,p3,N⟩:=rW (aos:=aos) (i:=0) ap;obtain⟨q1,q2⟩:=R.dR _ p1 p2 N;have E:X0.H=(st 0).heap:=g.heap;rw[<-E]at q1;obtain⟨k1,k2⟩:=SR.ahead I q1;have m:Ext X.H.length X { X0 with H:=(st (phase aos 0)).heap }:=x.trans k2;have d:∀j,¬ LD (Array.replicate ops.size ag) j:=λj h=>by
  unfold LD at h;simp only[Array.getD_eq_getD_getElem?,Array.getElem?_replicate]at h
  grind
 have hI:Inv Q σ { X0 with H:=(st (phase aos 0)).heap } n ops aos st (LD (Array.replicate ops.size ag)) (phase aos 0) { X0 with H:=(st (phase aos 0)).heap } a:=by
  refine⟨λj o h=>absurd h (d j),λj h=>absurd h (d j),p2,p3,d _,λj q s=>absurd q (N j (ahN _) s),rfl,Ext.refl _ _,k1,g.b,by rw[q2];exact g.defs.ext' m,g.size,
   λp=>⟨0,ahN _,.inl (VR.ext' σ m (g.aN p)),λj y _ _=>⟨λh=>by omega,λh=>absurd h (d j)⟩⟩,λj y q _ S U h5=>?_⟩
  show X.di _=ab;have a_:=(R.dR j (ahN _) ap λk q s=>N k q ap).1.len;cases v:X.di (st j).heap.length with
  |none=>rfl| some L=>have:=SR.lt g.sr v;rw[g.heap]at this;omega
 obtain⟨D',O,X',a',g1,l,g3,g5⟩:=Qs hC R hk M (k:=k) { X0 with H:=(st (phase aos 0)).heap } ops.size (X.w.tape X.w.drawn (.order b.fn id)) (Array.replicate ops.size ag) (List.range ops.size) (phase aos 0) { X0 with H:=(st (phase aos 0)).heap } a bv List.nodup_range
  (λj hj=>⟨λ_=>by simpa using hj,λ_=>d j⟩) bv hI
 have W:O=aos.length:=by
  rcases l.eW with h|⟨z,Z,_⟩
  .exact h
  .exact absurd (g3 O (by have:=(OF.1 Z).1;omega)) l.eD
 subst W;refine⟨X',a',.head stepR_region_draw ?_,⟨l.heap,l.sr,l.b,λp=>?_,l.defs,l.size⟩,m.trans (l.ext.mono (m.len)),g5⟩
 .simp only[Region.schedule,u,Bool.true_or,if_true];exact g1
 .obtain⟨K,hK,A,hw⟩:=l.R_ p;have A:VR σ X' ((st K).aN.get p) (a'.tmps.getD p.toNat undef):=by
   rcases A with A|⟨z,zs,c,_,W,Z,_⟩
   .omega
   .omega
  rw[<-R.oF aos.length hK (agn _) λj y q s hy hd=>?_]
  .exact A
  .grind
end
section
variable{Q:Program}{σ:Nat->FuncId}{X:Wd}{call:ey}
theorem Dk{b:Type}{f:b->b->Bool}(d:∀x y,f x y=ae->x=y):∀{xs ys:List b},jJ f xs ys=ae->xs=ys
 |[],[],_=>rfl
 |x::xs,y::ys,h=>by
  simp only[jJ,IS]at h;rw[d x y h.1,Dk d h.2]
 |[],_::_,h=>by simp[jJ]at h
 |_::_,[],h=>by simp[jJ]at h
theorem FC.beq_eq:∀(n:Nat) (a b:FC),FC.beq n a b=ae->a=b:=by
 intro n;induction n with
 |zero=>
  intro a b h;cases a<;>cases b<;>simp_all [FC.beq]
 |succ n d=>
  intro a b h;cases a<;>cases b<;>simp_all [FC.beq]
  all_goals exact Dk d h.2
theorem C.beq_eq{a b:C}(h:a.beq b=ae):a=b:=by
 cases a<;>cases b<;>simp_all [C.beq];exact FC.beq_eq _ _ _ h
theorem V.beq_eq{a b:V}(h:a.beq b=ae):a=b:=by
 cases a<;>cases b<;>simp only[V.beq,agH]at h
 .rw[C.beq_eq h]
 .rename_i xs ys;simp only[IS,beq_iff_eq,agJ]at h
  congr 1
  refine List.ext_getElem h.1 λi h1 h2=>C.beq_eq (h.2 (xs[i],ys[i]) ?_);exact agU (i:=i) (by rw[List.getElem?_zip_eq_some];exact⟨By h1,By h2⟩)
theorem Bq:∀{aos:List ba} {s b:St},iS call aos s=aa b->∃ss:List St,fT call aos s=aa ss/\ss.getLast?=aa b
 |[],s,b,h=>by simp only[iS,AT]at h;subst h;exact⟨[s],rfl,rfl⟩
 |o::os,s,b,h=>by
  simp only[iS]at h;split at h
  .rename_i l d;obtain⟨ss,g,j⟩:=Bq h;refine⟨s::ss,by simp[fT,d,g],?_⟩
   grind
  .simp at h
theorem qc:∀{aos:List ba} {s:St} {ss:List St},fT call aos s=aa ss->ss.length=aos.length+1/\ss[0]?=aa s/\
  ∀i y,aos[i]?=aa y->∃u v,ss[i]?=aa u/\ss[i+1]?=aa v/\jF call u y=aa v
 |[],s,ss,h=>by
  simp only[fT,AT]at h;subst h;simp
 |o::os,s,ss,h=>by
  simp only[fT]at h;split at h
  .rename_i q m;split at h
   .rename_i d b;simp only[AT]at h;subst h;obtain⟨g,j,l⟩:=qc b
    grind
   .simp at h
  .simp at h
theorem yW:∀{aos:List ba} {s:St} {ss:List St} {b:St},fT call aos s=aa ss->ss.getLast?=aa b->iS call aos s=aa b
 |[],s,ss,b,h,g=>by simp only[fT,AT]at h;subst h;simpa[iS]using g
 |o::os,s,ss,b,h,g=>by
  simp only[fT]at h;split at h
  .rename_i m j;split at h
   .rename_i l d;simp only[AT]at h;subst h;have:=(qc d).1;simp only[iS,j];refine yW d ?_
    grind
   .simp at h
  .simp at h
theorem My(I:gZ Q σ call)(m:Q.follows .mixedOrders=ae){n:Nat}{id:Nat}{ops:Array Oper}{d:Bool}{aos:List ba}{oW:List (Nat × Nat)}(K:cJ Q σ n (.region id ops d) (.region aos oW)=ae)
  {b:Frame} {k:List Item} {cs:List Frame} (J:lN b cs) (q:∀y∈aos,jA y.op b) {X:Wd} {a:Act} {s z:St} (F:Fr Q σ n X s a) (h:kr call aos oW s=aa z) :
  ∃X' a',Steps Q (lone (b.atR a (.code (.region id ops d)::k)) cs X.w) (lone (b.atR a' k) cs X'.w)/\Fr Q σ n X' z a'/\Ext X.H.length X X'/\a'.tmps.size=a.tmps.size:=by
 simp only[cJ,IS,Bool.or_eq_true,ahP]at K;obtain⟨j,x⟩:=K;obtain⟨ss,H,E,Y⟩:∃ss:List St,fT call aos s=aa ss/\ss.getLast?=aa z/\∀c∈oW,sameAt aos ss c=ae:=by
  unfold kr at h;split at h
  .obtain⟨ss,A,B⟩:=Bq h;simp_all
  .grind
 cases d with
 |false=>
  obtain⟨X',a',A,B⟩:=Jk I J (k:=k) aos 0 X s z a F (by simpa using j) q (yW H E);exact⟨X',a',.head stepR_region (by simpa using A),B⟩
 |true=>
  obtain⟨A,B,g3⟩:=qc H
  let st:Nat->St:=λi=>ss.getD i s
  have g:∀i u,ss[i]?=aa u->st i=u:=λi u hu=>by simp[st,List.getD_eq_getElem?_getD,hu]
  have R:mP Q σ call n ops aos oW st:=by
   refine⟨j,Ms (x.resolve_left bv),λi y M=>?_,λi e y hc M L=>?_⟩
   .grind
   .have l:=Y _ hc;simp only[sameAt,M]at l;split at l
    .rename_i o s1 s2 N O S;cases N;rw[g _ _ O]at L ⊢;rw[g _ _ S];rw[L]at l;simp only at l;split at l
     .rename_i v x1 v' x2 e4 U;rw[<-V.beq_eq l]at U;simp_all
     .simp_all
    .simp_all
  have W:st 0=s:=g 0 s B;have Z:st aos.length=z:=g _ _ (by rw[List.getLast?_eq_getElem?,A]at E;simpa using E);rw[<-W]at F;rw[<-Z];exact Qt I m R J q F id
end
section
variable{Q:Program}{σ:Nat->FuncId}{X:Wd}{call:ey}
def GK(X:Wd)(b:Nat):Prop:=∃f t p a c s q d,X.H[b]?=aa (.lp f t p a c s q d)
theorem GK.ext{X X':Wd}(l:Ext X.H.length X X'){b:Nat}(h:GK X b):GK X' b/\∀L,X.di b=aa L->X'.di b=aa L:=by
 obtain⟨f,t,p,a,c,s,q,d,hb⟩:=h;obtain⟨blk',g,j⟩:=l.bH b (OF.1 hb).1 _ hb;cases blk'<;>simp only at j;exact⟨⟨_,_,_,_,_,_,_,_,g⟩,j.2⟩
inductive jI(Q:Program)(σ:Nat->FuncId)(n:Nat)(X:Wd):dU->Item->Prop
 |code {a:aE} {c:Code} (h:cJ Q σ n c a=ae):jI Q σ n X (.code a) (.code c)
 |inBlock (id:Nat):jI Q σ n X (.inBlock id) (.inBlock id)
 |inLoop {a:aE} {c:Code} (h:cJ Q σ n c a=ae):jI Q σ n X (.inLoop a) (.inLoop c)
 |mh {b:Nat} {L:Loc} (h:X.di b=aa L) (hl:GK X b):jI Q σ n X (.mh b) (.endRangeFunc L.c)
 |qX:jI Q σ n X .qX .beginRound
 |inScope {a:aE} {c:Code} (h:cJ Q σ n c a=ae) (hs:mY a=ae):jI Q σ n X (.inScope a) (.inScope c)
theorem jI.ext{n:Nat}{X X':Wd}(b:Ext X.H.length X X'){x:dU}{y:Item}(h:jI Q σ n X x y):jI Q σ n X' x y:=by
 cases h with
 |code h=>exact .code h| inBlock id=>exact .inBlock id| inLoop h=>exact .inLoop h| mh h hl=>exact .mh ((hl.ext b).2 _ h) (hl.ext b).1| qX=>exact .qX| inScope h d=>exact .inScope h d
def RoR(X:Wd):Option Nat->Option Nat->Prop
 |none,ab=>True| some b,aa l=>∃L,X.di b=aa L/\L.c=l/\GK X b| _,_=>False
theorem RoR.ext{X X':Wd}(d:Ext X.H.length X X'){ro b:Option Nat}(h:RoR X ro b):RoR X' ro b:=by
 cases ro<;>cases b<;>simp only[RoR]at h ⊢;obtain⟨L,h1,h2,h3⟩:=h;exact⟨L,(h3.ext d).2 _ h1,h2,(h3.ext d).1⟩
theorem Ay{n:Nat}(id:Nat):∀(k:List dU) (b:List Item),A2 (jI Q σ n X) k b->
  match Km.exitTo id k with
  |some k'=>∃d,Go.exitTo id b=aa d/\A2 (jI Q σ n X) k' d| none=>Go.exitTo id b=ab
 |[],b,h=>by
  have:b=[]:=agC h.len.symm;subst this;rfl
 |x::k,[],h=>by have:=h.len;simp at this
 |x::k,y::b,h=>by
  obtain⟨g,j⟩:=h.of_cons;have m:=Ay id k b j;cases g with
  |inBlock l=>
   simp only[Km.exitTo,Go.exitTo]
   grind
  |_=>exact m
theorem B7{n:Nat}(l:Nat):∀(a:aE) (c:Code),cJ Q σ n c a=ae->mY a=ae->
  match Km.findLabel a l with
  |some r=>∃r',Go.findLabel c l=aa r'/\cJ Q σ n r' r=ae| none=>Go.findLabel c l=ab:=by
 intro a;induction a with
 |seq a b j x=>
  intro c h g;simp only[mY,IS]at g;cases c with
  |seq c d=>
   simp only[cJ,IS]at h;have m:=j c h.1 g.1;simp only[Km.findLabel,Go.findLabel];cases v:Km.findLabel a l with
   |some r=>
    rw[v]at m;obtain⟨r',q,s⟩:=m;simp only[q];exact⟨_,rfl,by simp[cJ,s,h.2]⟩
   |none=>
    simp_all
  |_=>simp[cJ]at h
 |label z=>
  intro c h _;cases c with
  |label y=>
   simp only[cJ,beq_iff_eq]at h;subst h;simp only[Km.findLabel,Go.findLabel];by_cases u:(y == l)=ae
   .simp only[u,if_true];exact⟨_,rfl,by simp[cJ]⟩
   .simp_all
  |_=>simp[cJ]at h
 |bad=>intro c h g;simp[mY]at g| _=>intro c h _;cases c<;>simp_all [cJ,Km.findLabel,Go.findLabel]
theorem AE{n:Nat}(l:Nat):∀(k:List dU) (b:List Item),A2 (jI Q σ n X) k b->
  match Km.gotoIn l k with
  |some k'=>∃d,Go.gotoIn l b=aa d/\A2 (jI Q σ n X) k' d| none=>Go.gotoIn l b=ab
 |[],b,h=>by
  have:b=[]:=agC h.len.symm;subst this;rfl
 |x::k,[],h=>by have:=h.len;simp at this
 |x::k,y::b,h=>by
  obtain⟨s,g⟩:=h.of_cons;have A:=AE l k b g;cases s with
  |inScope m q=>
   rename_i a c;have j:=B7 (Q:=Q) (σ:=σ) l a c m q;simp only[Km.gotoIn,Go.gotoIn];cases z:Km.findLabel a l with
   |some r=>
    rw[z]at j;obtain⟨r',u,v⟩:=j;simp only[u];exact⟨_,rfl,A2.cons (.code v) (A2.cons (.inScope m q) g)⟩
   |none=>
    simp_all
  |_=>exact A
def W6:Option aE->List Item->Prop
 |none,b=>b=[]| some .ret,b=>∃k,b=.code .ret::k| some (.exit id),b=>∃k,b=.code (.exit id)::k/\Go.exitTo id k=ab| _,_=>False
end
section
variable{Q:Program}{σ:Nat->FuncId}{X:Wd}{call:ey}
theorem tc{b:Nat}{L:Loc}(x:SR Q σ X)(v:X.di b=aa L){f:Nat}{t:T}{ps:List P}{as bd:aE}{q:dt}{g:Option aE}{d:Nat}(y:X.H[b]?=aa (.lp f t ps as bd q g d)) :
  ∃(n:Nat) (us:Array Value) (m:Array Tmp) (as' j:Code) (pend':Option Code) (u:Loc),
   X.w.heap[L.c]?=aa (.loop { state:=q.of,pending:=pend',fn:=σ f,tmps:=us,params:=m,assign:=as',body:=j,defers:=u.c })/\
   n<=us.size/\RR σ X t us/\iy (λp (q:P)=>q.toNat == p&&decide (p<n)) m.toList ps=ae/\cJ Q σ n as' as=ae/\cJ Q σ n j bd=ae/\AX Q σ n g pend'/\X.di d=aa u/\∃o,X.H[d]?=aa (.dQ o):=by
 obtain⟨_,_,cP,l,s⟩:=x.br b L v;rw[y]at l;cases l;exact s
theorem CW(I:SR Q σ X){b:Nat}{L:Loc}(F:X.di b=aa L){f:Nat}{t:T}{ps:List P}{as bd:aE}{q q':dt}{x pend1:Option aE}{d:Nat}(y:X.H[b]?=aa (.lp f t ps as bd q x d))
  {n:Nat} {us:Array Value} {j:Array Tmp} {as' g:Code} {pend':Option Code} {s:Loc}
  (N:n<=us.size) (O:RR σ X t us) (S:iy (λp (q:P)=>q.toNat == p&&decide (p<n)) j.toList ps=ae) (U:cJ Q σ n as' as=ae) (W:cJ Q σ n g bd=ae) (Y:AX Q σ n pend1 pend') (Z:X.di d=aa s) (E:∃o,X.H[d]?=aa (.dQ o)) :
  SR Q σ { X with H:=X.H.set b (.lp f t ps as bd q' pend1 d),w:=X.w.putObj L.c (.loop { state:=q'.of,pending:=pend',fn:=σ f,tmps:=us,params:=j,assign:=as',body:=g,defers:=s.c }) }/\
  Ext X.H.length X { X with H:=X.H.set b (.lp f t ps as bd q' pend1 d),w:=X.w.putObj L.c (.loop { state:=q'.of,pending:=pend',fn:=σ f,tmps:=us,params:=j,assign:=as',body:=g,defers:=s.c }) }:=by
 obtain⟨m,e,c,K,M,a,J,u,_⟩:=tc I F y;have z:b<X.H.length:=(OF.1 y).1;refine SR.tK (o':=.loop { state:=q'.of,pending:=pend',fn:=σ f,tmps:=us,params:=j,assign:=as',body:=g,defers:=s.c }) (blk':=.lp f t ps as bd q' pend1 d) I y F u bv bv
  (λcP l=>⟨.lp f t ps as bd q' pend1 d,by simp[z],by rw[y]at l;cases l;exact⟨⟨rfl,rfl,rfl,rfl,rfl,rfl⟩,λL h=>h⟩⟩)
  (λX' B A _ v i=>?_)
 obtain⟨o,E⟩:=E;refine⟨n,us,j,as',g,pend',s,A,N,RR.ext' σ B O,S,U,W,Y,by rw[v];exact Z,o,?_⟩
 grind
end
end Km
