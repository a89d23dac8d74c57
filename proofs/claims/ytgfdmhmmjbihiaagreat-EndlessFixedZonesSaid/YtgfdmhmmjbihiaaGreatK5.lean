/-
  Our own small machine for Go code by value, held qH sV model: part 5. No program in BQ.
-/
import Derived.Test.YtgfdmhmmjbihiaaGreatK4
import Derived.Test.YtgfdmhmmjbihiaaGreatK3
import Derived.Test.YtgfdmhmmjbihiaaGreatK1
open Option renaming some->aa,none->ab
open Bool renaming true->ae,false->ag
open List renaming mem_map->arx, length_eq_zero_iff->asi, length_map->aro, getElem?_eq_getElem->aq2, getElem_map->as2, length_append->ara, drop_append->ath, drop_of_length_le->asH, getElem?_set_self->aq6, flatten_append->asx, length_drop->aru, getElem?_set_ne->aq0, map_append->asI, flatten_cons->arv, append_nil->asq, take_append_drop->ar8, mem_of_mem_take->ass, take_length->arz, getElem_mem->aq7, mem_cons_of_mem->arj, mem_cons_self->arl, take_of_length_le->arw, nil_append->asu, mem_of_mem_drop->ar5, length_take->arT, take_append_of_le_length->arO, drop_append_of_le_length->asj
open Option renaming bind_some->arG, bind_eq_some_iff->arH
open Option.some renaming injEq->anc
open Nat renaming le_refl->aq9, succ_mul->atE, zero_le->ast, add_mul->arF, mul_le_mul_right->arL, zero_add->asd, one_mul->atg
open Bool renaming and_eq_true->aq3
set_option linter.unusedVariables false
set_option linter.constructorNameAsVariable false
set_option linter.unusedSimpArgs false
set_option linter.unusedSectionVars false
set_option maxRecDepth 100000
namespace Km.Ord
open Go
def BS(σ:gE):aG:=⟨[P.nat 0],[],.seq (.region [ym 3 0,yn 4 (.len (R 3)),ym 2 4] [])
 (.region [⟨D 5,.cP (R 0),ab⟩,⟨D 6,.cP (R 2),ab⟩,⟨D 7,.cP (R 2),ab⟩,⟨D 8,.gG .u64 (R 7),ab⟩,⟨D 9,.call σ.len [(R 8)] ag,ab⟩,⟨D 10,.call σ.sh [(R 5),(.k (.c (.f (.int .i64 0)))),(R 6),(R 9)] ae,ab⟩] [])⟩
def isI(r:List FC):Prop:=∃n:Int,r=[fi n]
def vm:List FC->Int
 |[.int _ n]=>n| _=>0
def cI(x y:List FC):Int:=if vm x<vm y then -1 else 0
theorem Yw{x y:List FC}:cI x y<0↔vm x<vm y:=by unfold cI;split<;>omega
theorem anz:sW isI cI where
 zo:=λ_ _ h b=>by rw[Yw]at *;omega
 trans:=λ_ _ _ h b=>by rw[Yw]at *;omega
theorem xQ(l:List Int):∀r∈ints l,isI r:=λr b=>by
 obtain⟨n,-,rfl⟩:=arx.1 b;exact⟨n,rfl⟩
theorem afx{rows:List (List FC)}(h:∀r∈rows,isI r):rows=ints (rows.map vm):=by
 unfold ints;rw[List.map_map]
 conv=>lhs;rw[<-List.map_id rows]
 exact List.map_congr_left λr b=>by obtain⟨n,rfl⟩:=h r b;rfl
theorem KB(l:List Int):(ints l).map vm=l:=by
 unfold ints;rw[List.map_map]
 conv=>rhs;rw[<-List.map_id l]
 exact List.map_congr_left λr _=>rfl
theorem cr(l:List Int):cd 1 (ints l):=cd.map λ_=>rfl
section
variable{tab:TB}{σ:gE}{N:Nat}
theorem zm.of(h1:((List.range 15).all λi=>(((zE σ)[i]?).bind (trF σ (YB (3*i+1)))).isSome)=ae)(h2:(List.range 15).map (λi=>tab ((nmI σ).getD i 0))=(List.range 15).map λi=>aa (xF σ i)):zm tab σ:=λi a d=>by
 have hi:i<15:=(List.getElem?_eq_some_iff.1 d).1;have:=List.all_eq_true.1 h1 i (List.mem_range.2 hi);rw[d,arG,Option.isSome_iff_exists]at this;obtain⟨b,hb⟩:=this;refine⟨b,hb,?_⟩;have e:=congrArg (λl=>l[i]?) h2;simp only[List.getElem?_map,List.getElem?_range hi,Option.map_some,anc]at e;rw[e,xF,d,arG,hb];rfl
theorem dR{a:aG}(i:Nat)(h:(zE σ)[i]?=aa a):(mM tab σ).get (3*i+1)=aa a:=by
 show(if(3*i+1) % 3=1 then(zE σ)[(3*i+1) / 3]? else ab)=_;rw[bw (by omega),show(3*i+1) / 3=i by omega];exact h
theorem AF:anj (mM tab σ) (agW σ) 1:=⟨dR 0 rfl,dR 1 rfl,dR 2 rfl,dR 3 rfl,dR 4 rfl,dR 5 rfl,dR 6 rfl,dR 7 rfl,dR 8 rfl,dR 9 rfl,dR 10 rfl,dR 11 rfl,dR 12 rfl,dR 13 rfl,dR 14 rfl⟩
theorem Lk{f:Nat}{args:List V}{H d:aj}{r:V}(h:Ev tab (.fn f) args H r d):Ev (mM tab σ) (.fn (3*f)) args H r d:=by
 have h:Ev tab (.fn (3*f / 3)) args H r d:=by rw[Nat.mul_div_cancel_left _ (by omega)];exact h
 have b:∃x:V × aj,Ev tab (.fn (3*f / 3)) args H x.1 x.2:=⟨(r,d),h⟩
 have l:(mM tab σ).wi (3*f) args H=aa (aa b.choose):=by
  show qE tab σ _ args H=_;unfold qE;rw[bw (by omega),dif_pos b]
 obtain⟨g,j⟩:=h.det b.choose_spec;refine⟨0,1,?_⟩;simp only[CF,eK,l,g,j]
theorem ZU{x y:C}{b:Bool}{H g:aj}(h:Ev tab (.fn σ.swr) [.c x,.c y] H (vb b) g):Ev (mM tab σ) (.fn 2) [.a [x],.a [y]] H (vi (if b then -1 else 0)) g:=by
 have d:∃p:Bool × aj,Ev tab (.fn σ.swr) [.c x,.c y] H (vb p.1) p.2:=⟨(b,g),h⟩
 have m:(mM tab σ).wi 2 [.a [x],.a [y]] H=aa (aa (vi (if d.choose.1 then -1 else 0),d.choose.2)):=by
  show qE tab σ 2 [.a [x],.a [y]] H=_;unfold qE;rw[aR (by omega),bw rfl];dsimp only;rw[dif_pos d]
 obtain⟨j,l⟩:=h.det d.choose_spec;simp only[V.c.injEq,C.f.injEq,FC.bool.injEq]at j;refine⟨0,1,?_⟩;simp only[CF,eK,m,<-j,<-l]
theorem agm{H:aj}{l:List Int}(Z:zm tab σ)(s:∀(a b:Int) (H:aj),∃J,Ev tab (.fn σ.swr) [vi a,vi b] H (vb (decide (a<b))) (H++J))(hN:N<=1000000000)(z:X6 tab σ N)
  {v:C} {k:Int} (hr:LR H v 1 (ints l)) (hn:l.length<=N) :
  ∃r g,Ev tab (.fn σ.sh) [.c v,vi 0,vi l.length,vi k] H r g/\(r=.t []/\Kb H g v/\∃u,LR g v 1 u/\u.Perm (ints l)/\Up cI 0 u.length u):=by
 have I:Cv (mM tab σ) (.c (.f (.fn 2 []))) isI cI:=by
  rintro x y ⟨a,rfl⟩ ⟨b,rfl⟩ H;obtain⟨J,Y⟩:=s a b H;refine⟨2,_,J,rfl,?_⟩;have e:cI [fi a] [fi b]=if decide (a<b)then -1 else 0:=by by_cases h:a<b<;>simp[cI,vm,h]
  rw[e];exact ZU Y
 have F:X6 (mM tab σ) (agW σ) N:=λL M=>by
  obtain⟨k,S,E⟩:=z L M;have U:bH tab σ.len [vu L] (vi k):=by rw[S]
  obtain⟨r0,g,W,X⟩:=U;exact⟨k,bH.eq ⟨r0,g,Lk W,X⟩,E⟩
 have j:(ints l).length=l.length:=by simp[ints]
 have q:∀{v:C} {r g},Ev (mM tab σ) (.fn (agW σ).sh) [.c v,vi 0,vi l.length,vi k,.c (.f (.fn 2 []))] H r g->Ev tab (.fn σ.sh) [.c v,vi 0,vi l.length,vi k] H r g:=λ⟨m,d,h⟩=>
  (ao0 Z m d).fn (f:=1) (by decide) h ⟨_,rfl,.inl rfl⟩
 rcases hr with⟨Q,h⟩|⟨K,b,O,rfl,E⟩
 .have:l=[]:=by cases l with
   |nil=>rfl| cons a l=>simp[ints]at Q
  subst this;exact⟨_,_,q (Bt AF.sh AF.ins),rfl,⟨aq9 _,λi y A _=>A⟩,[],.inl ⟨rfl,h⟩,.refl _,Up.one (by simp)⟩
 .rw[j];obtain⟨r,g,he,rfl,f,u,r',B,u'⟩:=akH AF I anz (n:=l.length) (by omega) (λL M=>F L (by omega)) _ 0 l.length H (ints l) k rfl (by omega) (aq9 _) j E (cr l) (xQ l) (λk h=>absurd h (by omega));refine⟨_,_,q he,rfl,⟨f.1,λi y A hi=>?_⟩,u,.inr ⟨?_,b,O,by rw[B.len,j],r'⟩,B.1,by rw[B.len,j];exact u'⟩
  .rw[f.2 i (λe=>hi (by rw[e];rfl)) (av A)];exact A
  .rintro rfl;have:=B.len;exact K (asi.1 this.symm)
theorem aae{F:Nat}(S:tab F=aa (BS σ))(X:zm tab σ)(m:∀(a b:Int) (H:aj),∃J,Ev tab (.fn σ.swr) [vi a,vi b] H (vb (decide (a<b))) (H++J))(U:N<=1000000000)(d:X6 tab σ N)
  {H:aj} {v:C} {l:List Int} (u:LR H v 1 (ints l)) (L:l.length<=N) :
  ∃r s,Ev tab (.fn F) [.c v] H r s/\(r=.t []/\Kb H s v/\∃g,LR s v 1 (ints g)/\g.Perm l/\g.Pairwise (·<=·)):=by
 have A:(ints l).length=l.length:=by simp[ints]
 obtain⟨k,Y,-,-⟩:=d l.length L;have E:IntKind.wrap .u64 (l.length:Int)=l.length:=by rw[uW];omega
 obtain⟨r,s,x,rfl,B,g,M,I,O⟩:=agm X m U d (k:=k) u L;have x:=x.eq;have y:∀r∈g,isI r:=λr u=>xQ l r (I.mem_iff.1 u);have q:=u.len;rw[A]at q;refine cz S rfl λQ W=>?_;apply ai;simp[q];refine aq (.inl rfl) ?_;simp[E,Y,x];refine cW (W _ _ (.t []) rfl rfl ⟨rfl,B,g.map vm,?_,?_,?_⟩)
 .rw[<-afx y];exact M
 .have:=I.map vm;rwa[KB]at this
 .rw[List.pairwise_iff_getElem];intro i j hi K z;simp only[aro]at hi K;have:=O i j g[i] g[j] (by omega) z (by omega) (aq2 hi) (aq2 K);rw[as2,as2];rw[Yw]at this;omega
end
end Km.Ord
section
set_option linter.unusedVariables false
namespace Km
open Go
def ajy(sz bytes:Nat)(zs:List FC):ax:=yr [yn 7 (.bad),⟨ab,.bad,ab⟩]
def afg(sz bytes:Nat)(zs:List FC):ax:=yr [ym 17 0,ym 18 0,yn 19 (.cap (R 18)),yn 20 (.slice sz (R 17) ab (aa (R 19)) ab),ym 21 1,yn 22 (.lV sz bytes zs (R 20) (R 21)),ym 23 0,yn 24 (.len (R 23)),yn 25 (.slice sz (R 22) ab (aa (R 24)) ab),ym 0 25]
def aff(sz bytes:Nat)(zs:List FC):ax:=.seq (yr [ym 15 1,yn 16 (.bin .gtr (R 15) (yi 0))]) (.cond (R 16) (afg sz bytes zs) .skip)
def afh(sz bytes:Nat)(zs:List FC):ax:=.seq (yr [ym 26 0,ym 4 26]) .ret
def ajz(sz bytes:Nat)(zs:List FC):ax:=.seq (.seq (yr [ym 8 1,ym 9 0,yn 10 (.cap (R 9)),ym 11 0,yn 12 (.len (R 11)),yb 13 .sub 10 12,yb 14 .sub 8 13,ym 1 14]) (aff sz bytes zs)) (afh sz bytes zs)
def ajx(sz bytes:Nat)(zs:List FC):ax:=.seq (.seq (yr [ym 5 1,yn 6 (.bin .lss (R 5) (yi 0))]) (.cond (R 6) (ajy sz bytes zs) .skip)) (ajz sz bytes zs)
def ajw(sz bytes:Nat)(zs:List FC):ax:=.seq (yr [yn 4 (.cP (.k (.c (.f .aw))))]) (ajx sz bytes zs)
def aha(sz bytes:Nat)(zs:List FC):aG:=⟨[P.nat 0,P.nat 1],[.tmp (P.nat 4)],(ajw sz bytes zs)⟩
def Kj(G sz bytes:Nat):ax:=yr [yn 21 (.bad),⟨ab,.bad,ab⟩]
def Ki(G sz bytes:Nat):ax:=.seq (yr [ym 19 3,yn 20 (.bin .lss (R 19) (yi 0))]) (.cond (R 20) (Kj G sz bytes) .skip)
def Kh(G sz bytes:Nat):ax:=.seq (yr [ym 15 3,ym 16 5,yn 17 (.len (R 16)),yb 18 .add 15 17,ym 3 18]) (Ki G sz bytes)
def Kg(G sz bytes:Nat):ax:=.seq (yr [ya 13 1 9 11,yn 14 (.load ab (R 13)),ym 5 14]) (Kh G sz bytes)
def Kk(G sz bytes:Nat):ax:=yr [yn 22 (.bin .add (R 11) (yi 1)),ym 11 22]
def Ke(G sz bytes:Nat):ax:=.seq (.block 1 (Kg G sz bytes)) (Kk G sz bytes)
def Kd(G sz bytes:Nat):ax:=.seq (.cond (R 12) .skip (.exit 0)) (Ke G sz bytes)
def YF(G sz bytes:Nat):ax:=.seq (yr [yb 12 .lss 11 10]) (Kd G sz bytes)
def Ku(G sz bytes:Nat):ax:=yr [ym 31 6,ym 32 8,yn 33 (.append sz bytes (R 31) (R 32)),ym 6 33]
def Kt(G sz bytes:Nat):ax:=.seq (yr [ya 29 1 25 27,yn 30 (.load ab (R 29)),ym 8 30]) (Ku G sz bytes)
def Kv(G sz bytes:Nat):ax:=yr [yn 34 (.bin .add (R 27) (yi 1)),ym 27 34]
def Ks(G sz bytes:Nat):ax:=.seq (.block 3 (Kt G sz bytes)) (Kv G sz bytes)
def Kr(G sz bytes:Nat):ax:=.seq (.cond (R 28) .skip (.exit 2)) (Ks G sz bytes)
def Kq(G sz bytes:Nat):ax:=.seq (yr [yb 28 .lss 27 26]) (Kr G sz bytes)
def Ko(G sz bytes:Nat):ax:=.block 2 (.loop (Kq G sz bytes))
def Kw(G sz bytes:Nat):ax:=.seq (yr [ym 35 6,ym 2 35]) .ret
def Kn(G sz bytes:Nat):ax:=.seq (.seq (yr [ym 25 0,yn 26 (.len (R 25)),yn 27 (.cP (yi 0))]) (Ko G sz bytes)) (Kw G sz bytes)
def Kl(G sz bytes:Nat):ax:=.seq (yr [ym 23 3,yn 24 (.call G [(.k (.c (.f .aw))),R 23] ae),ym 6 24]) (Kn G sz bytes)
def YE(G sz bytes:Nat):ax:=.seq (.seq (yr [ym 9 0,yn 10 (.len (R 9)),yn 11 (.cP (yi 0))]) (.block 0 (.loop (YF G sz bytes)))) (Kl G sz bytes)
def YD(G sz bytes:Nat):ax:=.seq (yr [yn 3 (.cP (yi 0))]) (YE G sz bytes)
def YC(G sz bytes:Nat):ax:=.seq (yr [yn 2 (.cP (.k (.c (.f .aw))))]) (YD G sz bytes)
def ae0(G sz bytes:Nat):aG:=⟨[P.nat 0],[.tmp (P.nat 2)],(YC G sz bytes)⟩
section
variable{tab:TB}{F G sz bytes:Nat}{zs:List FC}{H:aj}
theorem ag3(t:T)(H:aj)(sz bytes:Nat)(zs:List FC)(x n:Arg):bG t H (.lV sz bytes zs x n)=xd H sz bytes zs (x.ev t) (n.ev t):=rfl
theorem Lq{d:Type}(n:Nat)(xs:List d):(cQ n xs).length=n*xs.length:=by
 induction n with
 |zero=>simp[cQ]
 |succ n b=>
  have:cQ (n+1) xs=xs++cQ n xs:=by simp[cQ,List.replicate_succ]
  rw[this,ara,b,atE,Nat.add_comm]
def GR(H:aj)(c:C)(sz n:Nat)(rows:List (List FC)):Prop:=(n=0/\rows=[]/\c=.f .aw)\/(0<n/\∃b rest,c=.sl b 0 rows.length 0 0 sz/\H[b]?=aa (.cK sz (rows.flatten.map .f++rest) 0 0 .loc)/\(rows.flatten.map C.f++rest).length=n*sz)
theorem afi(v:tab F=aa (aha sz bytes zs))(z:sz≠0)(q:zs.length=sz)(n:Nat)(A:n<=1000000)(d:cJ n bytes=ae):∃r b,Ev tab (.fn F) [.c (.f .aw),vi n] H r b/\
  ∃c,r=.c c/\GR b c sz n []/\(∀i:Nat,i<H.length->b[i]?=H[i]?)/\H.length<=b.length/\∀i,aT c=aa i->H.length<=i:=by
 refine cz (C:=λr b=>∃c,r=.c c/\GR b c sz n []/\(∀i:Nat,i<H.length->b[i]?=H[i]?)/\H.length<=b.length/\∀i,aT c=aa i->H.length<=i) v rfl λQ m=>?_;apply ai;simp;apply an;apply ai;simp[show¬ (n:Int)<0 by omega];refine ba (by simp) ?_;apply an;apply ai;simp[aV,kz,wrap64 (n:=(0:Int)) (by decide) (by decide),aM (n:=(n:Int))];apply ai;simp;rcases Nat.eq_zero_or_pos n with rfl|y
 .refine ba (by simp) ?_;apply ai;simp;exact aB (m _ _ (.c (.f .aw)) rfl (by simp[Km.results,aX]) ⟨.f .aw,rfl,.inl ⟨rfl,rfl,rfl⟩,λ_ _=>rfl,aq9 _,λ_ h=>by cases h⟩)
 .refine au (by simp;omega) ?_;have s:bS H sz (.c (.f .aw)) ab (aa (vi 0)) ab=aa (.c (.f .aw)):=rfl;have g:∃cs:List C,cs.length=n*sz/\xd H sz bytes zs (.c (.f .aw)) (vi n)=aa (.c (.sl H.length 0 n 0 0 sz),H++[.cK sz cs 0 0 .loc]):=by
   refine⟨(cQ n zs).map .f,by rw[aro,Lq,q],?_⟩;have hi:fE (vi n)=aa (n:Int):=rfl;simp[xd,hi,q,show¬ n=0 by omega,show¬ (n:Int)<=0 by omega,d]
  obtain⟨cs,l,g⟩:=g;have u:bS (H++[.cK sz cs 0 0 .loc]) sz (.c (.sl H.length 0 n 0 0 sz)) ab (aa (vi 0)) ab=aa (.c (.sl H.length 0 0 0 0 sz)):=by
   have x:bM n n ab (aa (vi ((0:Nat):Int))) ab=aa (0,0,n):=by simp only[bM,fe (ast n)];rfl
   have j:(H++[cH.cK sz cs 0 0 .loc])[H.length]?=aa (cH.cK sz cs 0 0 .loc):=by simp
   simp only[bS,j,and_self,if_true];rw[show(vi 0:V)=vi ((0:Nat):Int) from rfl,x];simp
  refine aq (.inl rfl) ?_;simp[aV,kz,s,ag3,g,u];apply ai;simp;exact aB (m _ _ (.c (.sl H.length 0 0 0 0 sz)) rfl (by simp[Km.results,aX]) ⟨_,rfl,.inr ⟨y,H.length,cs,rfl,by simp,by simpa using l⟩,λi hi=>List.getElem?_append_left hi,by simp,λi h=>by cases h;exact aq9 _⟩)
theorem GR.app{c:C}{n:Nat}{rows ys:List (List FC)}(h:GR H c sz n rows)(hg:cd sz rows)(hy:cd sz ys)(yY:sz≠0)(q:rows.length+ys.length<=n){x:C}(A:cN H sz (.c x)=aa (ys.length,ys.flatten.map .f)) :
  ∃m j,bJ H sz bytes (.c c) (.c x)=aa (.c m,j)/\GR j m sz n (rows++ys)/\aT m=aT c/\j.length=H.length/\∀(i:Nat) y,H[i]?=aa y->aT c≠aa i->j[i]?=aa y:=by
 rcases h with⟨rfl,rfl,rfl⟩|⟨F,b,rest,rfl,hb,d⟩
 .have:ys=[]:=asi.1 (by omega);subst this;exact⟨.f .aw,H,by simp only[bJ,A,yY,if_false];simp,.inl ⟨rfl,rfl,rfl⟩,rfl,rfl,λ_ _ h _=>h⟩
 .by_cases E:ys.length=0
  .have:ys=[]:=asi.1 E;subst this;refine⟨.sl b 0 rows.length 0 0 sz,H,?_,.inr ⟨F,b,rest,by simp,by simpa using hb,by simpa using d⟩,rfl,rfl,λ_ _ h _=>h⟩;simp only[bJ,A,yY,if_false,hb,and_self,if_true,List.length_nil]
  .have v:rows.flatten.length=rows.length*sz:=dA hg;have g:ys.flatten.length=ys.length*sz:=dA hy;have B:rows.length*sz+ys.length*sz<=n*sz:=by rw[<-arF];exact arL sz q
   have I:0<ys.length*sz:=Nat.mul_pos (by omega) (by omega);have u:bR (rows.flatten.map C.f++rest) (rows.length*sz) (ys.flatten.map C.f)=(rows++ys).flatten.map C.f++rest.drop (ys.length*sz):=by
    have e:rows.length*sz=(rows.flatten.map C.f).length:=by rw[aro,v]
    simp only[bR];rw[e,List.take_left,ath,aro,aro,g];rw[asH (l:=rows.flatten.map C.f) (by rw[aro];omega)];simp
   have z:rest.length=n*sz-rows.length*sz:=by rw[ara,aro,v]at d;omega
   refine⟨.sl b 0 (rows.length+ys.length) 0 0 sz,H.set b (.cK sz ((rows++ys).flatten.map .f++rest.drop (ys.length*sz)) 0 0 .loc),?_,.inr ⟨F,b,rest.drop (ys.length*sz),by simp,aq6 (av hb),?_⟩,rfl,by simp,λi y hy s=>?_⟩
   .simp only[bJ,A,yY,if_false,hb,and_self,if_true,E];rw[aR (by rw[d];rintro⟨_,h,_⟩;omega),bw ⟨trivial,ast _,by rw[d,aro,g];omega⟩];simp only[asd,u]
   .rw[ara,aro,asx,ara,aru,v,g,z];omega
   .have:b≠i:=by rintro rfl;exact s rfl
    rw[aq0 this];exact hy
theorem GR.lr{c:C}{rows:List (List FC)}(h:GR H c sz rows.length rows)(hg:cd sz rows):LR H c sz rows:=by
 rcases h with⟨_,h1,rfl⟩|⟨g,b,rest,rfl,hb,d⟩
 .rw[h1];exact LR.nil _ _
 .have j:rows.flatten.length=rows.length*sz:=dA hg;have:rest=[]:=asi.1 (by rw[ara,aro,j]at d;omega);subst this;exact .inr ⟨λe=>by rw[e]at g;simp at g,b,0,rfl,by simpa[RB]using hb⟩
theorem pL(hT:tab F=aa (ae0 G sz bytes))(hG:tab G=aa (aha sz bytes zs))(U:sz≠0)(hz:zs.length=sz){b:Nat}(xs:List (C × List (List FC)))(hb:H[b]?=aa (.box (xs.map (·.1)) 0))(d6:xs.length<=1000000)
  (hx:∀x∈xs,cd sz x.2/\∀d:aj,(∀i:Nat,i<H.length->d[i]?=H[i]?)->aV d x.1=aa x.2.length/\cN d sz (.c x.1)=aa (x.2.length,x.2.flatten.map .f))
  (X:((xs.map (·.2)).flatten).length<=1000000) (g:cJ ((xs.map (·.2)).flatten).length bytes=ae) :
  ∃r d,Ev tab (.fn F) [.c (.sl b 0 xs.length xs.length 0 1)] H r d/\∃c,r=.c c/\LR d c sz (xs.map (·.2)).flatten/\(∀i:Nat,i<H.length->d[i]?=H[i]?)/\H.length<=d.length/\∀i,aT c=aa i->H.length<=i:=by
 have O:=av hb;have Z:∀(d:aj),(∀i:Nat,i<H.length->d[i]?=H[i]?)->∀j:Nat,(h:j<xs.length)->bg d 1 ab (.c (.sl b 0 xs.length xs.length 0 1)) (vi j)=aa (.c (.ptr b j 0))/\bF d ab (.c (.ptr b j 0))=aa (.c xs[j].1):=λd y j h=>by
  have q:d[b]?=aa (.box (xs.map (·.1)) 0):=by rw[y b O];exact hb
  refine⟨?_,?_⟩
  .simp[bg,show fE (vi j)=aa (j:Int) from rfl,q,h]
  .simp[bF,aK,q,bf,h,List.drop_eq_getElem_cons]
 have a8:∀(d:aj),(∀i:Nat,i<H.length->d[i]?=H[i]?)->aV d (.sl b 0 xs.length xs.length 0 1)=aa xs.length:=λd y=>by
  have q:d[b]?=aa (.box (xs.map (·.1)) 0):=by rw[y b O];exact hb
  simp[aV,q]
 have tk:∀j (h:j<xs.length),((xs.take (j+1)).map (·.2)).flatten=((xs.take j).map (·.2)).flatten++xs[j].2:=λj h=>by
  rw[List.take_add_one,aq2 h];simp only[Option.toList_some,asI,List.map_cons,List.map_nil,asx,arv,List.flatten_nil,asq]
 have c_:∀j,((xs.take j).map (·.2)).flatten.length<=((xs.map (·.2)).flatten).length:=λj=>by
  conv=>rhs;rw[<-ar8 j xs,asI,asx,ara]
  omega
 have a_:∀j,cd sz ((xs.take j).map (·.2)).flatten:=λj r hr=>by
  obtain⟨l,hl,hr⟩:=List.mem_flatten.1 hr;obtain⟨x,c9,rfl⟩:=arx.1 hl;exact(hx x (ass c9)).1 r hr
 refine cz (H:=H) (args:=[.c (.sl b 0 xs.length xs.length 0 1)]) (C:=λr d=>∃c,r=.c c/\LR d c sz (xs.map (·.2)).flatten/\(∀i:Nat,i<H.length->d[i]?=H[i]?)/\H.length<=d.length/\∀i,aT c=aa i->H.length<=i) hT rfl λQ hQ=>?_;apply ai;simp;apply ai;simp;apply an;apply ai;simp[a8 H λ_ _=>rfl];obtain⟨L,E⟩:∃L:Nat->Nat,∀j,L j=((xs.take j).map (·.2)).flatten.length:=⟨_,λ_=>rfl⟩
 have L0:L 0=0:=by rw[E];rfl
 have Ls:∀j (h:j<xs.length),L (j+1)=L j+xs[j].2.length:=λj h=>by rw[E,E,tk j h,ara]
 have Ll:∀j,L j<=((xs.map (·.2)).flatten).length:=λj=>by rw[E];exact c_ j
 have Le:L xs.length=((xs.map (·.2)).flatten).length:=by rw[E,arz]
 obtain⟨N,hN⟩:=aQ (((xs.map (·.2)).flatten).length);rw[<-hN]at X g Ll Le;refine cC xs.length (λj t J=>J=H/\t.g 0=.c (.sl b 0 xs.length xs.length 0 1)/\t.g 9=.c (.sl b 0 xs.length xs.length 0 1)/\t.g 3=vi (L j)) (by omega) (by decide) (by decide) (by simp) (by simp) ⟨rfl,by simp,by simp,by simp[L0]⟩ ?_ ?_
 .rintro j t J v ⟨rfl,g0,g9,g3⟩ K A next
  obtain⟨i1,Y⟩:=Z J (λ_ _=>rfl) j v;obtain⟨h2,h3⟩:=(hx _ (aq7 v)).2 J λ_ _=>rfl;have h5:=Ls j v;have h6:=Ll (j+1);obtain⟨x,B⟩:=aQ (xs[j]);rw[<-B]at Y h2 h3 h5;refine az ?_;apply ai;simp[K,g9,i1,Y,-aD];apply ai;simp[g3,h2,aM (n:=(L j:Int)+x.2.length)];apply ai;simp[show¬ (L j:Int)+x.2.length<0 by omega];exact aA (by simp) (aJ (ay (next _ _ ⟨rfl,by simp[g0],by simp[g9],by simp[h5]⟩ (by simp[K]) (by simp[A]))))
 .rintro t J ⟨rfl,g0,g9,g3⟩ - -;obtain⟨r,H2,u,c0,rfl,b7,S,c6,b_⟩:=afi (H:=J) hG U hz N (by omega) g;rw[Le]at g3;apply ai;simp[g3,u.eq];apply an;apply ai;simp[g0,a8 H2 S];refine cC xs.length (λj t J'=>t.g 25=.c (.sl b 0 xs.length xs.length 0 1)/\∃c,t.g 6=.c c/\GR J' c sz N ((xs.take j).map (·.2)).flatten/\(∀i:Nat,i<J.length->J'[i]?=J[i]?)/\J.length<=J'.length/\∀i,aT c=aa i->J.length<=i) (by omega) (by decide) (by decide) (by simp) (by simp) ⟨by simp,c0,by simp,by simpa using b7,S,c6,b_⟩ ?_ ?_
  .rintro j t J' v ⟨z,c,g6,m,y,hl,s⟩ K A next
   obtain⟨i1,Y⟩:=Z J' y j v;obtain⟨h2,h3⟩:=(hx _ (aq7 v)).2 J' y;have u:=(hx _ (aq7 v)).1;have h5:=Ls j v;have h6:=Ll (j+1);have W:=tk j v;obtain⟨x,B⟩:=aQ (xs[j]);rw[<-B]at Y h2 h3 h5 W u;obtain⟨c',d,M,I,hs,d5,c5⟩:=m.app (bytes:=bytes) (a_ j) u U (by rw[<-E];omega) h3;rw[<-W]at I;refine az ?_;apply ai;simp[K,z,i1,Y,-aD];refine aq (.inl rfl) ?_;simp[g6,M];refine ay (next _ _ ⟨by simp[z],c',by simp,I,λi hi=>?_,by omega,λi hi=>s i (by rw[<-hs];exact hi)⟩ (by simp[K]) (by simp[A]));rw[<-y i hi];have hy:J'[i]?=aa (J'[i]'(by omega)):=aq2 (by omega);rw[hy];exact c5 i _ hy λe=>by have:=s i e;omega
  .rintro t J' ⟨z,c,g6,m,y,hl,s⟩ - -;rw[arz,hN]at m;have hg:=a_ xs.length;rw[arz]at hg;apply ai;simp[g6];exact aB (hQ _ _ (.c c) rfl (by simp[Km.results,aX]) ⟨c,rfl,m.lr hg,y,hl,s⟩)
end
end Km
end
section
set_option linter.unusedVariables false
namespace Km
open Go
def anE(sz bytes:Nat)(zs:List FC):ax:=.seq (yr [ym 17 0,ym 6 17]) .ret
def ajq(sz bytes:Nat)(zs:List FC):ax:=.seq (yr [ym 32 0,ym 6 32]) .ret
def ajp(sz bytes:Nat)(zs:List FC):ax:=.seq (yr [ym 27 0,ym 28 0,yn 29 (.len (R 28)),ym 30 7,yn 31 (.slice sz (R 27) (aa (R 29)) (aa (R 30)) ab),⟨ab,.clear sz zs (R 31),ab⟩]) (ajq sz bytes zs)
def ajo(sz bytes:Nat)(zs:List FC):ax:=.seq (yr [ym 20 0,ym 21 1,yn 22 (.slice sz (R 20) ab (aa (R 21)) ab),ym 23 0,ym 24 2,yn 25 (.slice sz (R 23) (aa (R 24)) ab ab),yn 26 (.append sz bytes (R 22) (R 25)),ym 0 26]) (ajp sz bytes zs)
def ajn(sz bytes:Nat)(zs:List FC):ax:=.seq (yr [ym 18 0,yn 19 (.len (R 18)),ym 7 19]) (ajo sz bytes zs)
def anD(sz bytes:Nat)(zs:List FC):ax:=.seq (.seq (yr [ym 14 1,ym 15 2,yb 16 .eql 14 15]) (.cond (R 16) (anE sz bytes zs) .skip)) (ajn sz bytes zs)
def anC(sz bytes:Nat)(zs:List FC):ax:=.seq (yr [ym 8 0,ym 9 1,ym 10 2,ym 11 0,yn 12 (.len (R 11)),yn 13 (.slice sz (R 8) (aa (R 9)) (aa (R 10)) (aa (R 12)))]) (anD sz bytes zs)
def anB(sz bytes:Nat)(zs:List FC):ax:=.seq (yr [yn 6 (.cP (.k (.c (.f .aw))))]) (anC sz bytes zs)
def ajm(sz bytes:Nat)(zs:List FC):aG:=⟨[P.nat 0,P.nat 1,P.nat 2],[.tmp (P.nat 6)],(anB sz bytes zs)⟩
section
variable{tab:TB}{F sz bytes:Nat}{zs:List FC}{H:aj}
theorem xB(B:tab F=aa (ajm sz bytes zs)){c b:C}{j n:Nat}{K u v x:V}{g l:aj}(L:j<n)(M:n<=1000000)(m:aV H c=aa n)(q:bS H sz (.c c) (aa (vi j)) (aa (vi (j+1:Nat))) (aa (vi n))=aa K)
  (I:bS H sz (.c c) ab (aa (vi j)) ab=aa u) (s:bS H sz (.c c) (aa (vi (j+1:Nat))) ab ab=aa v) (y:bJ H sz bytes u v=aa (.c b,g)) (E:aV g b=aa (n-1)) (J:bS g sz (.c b) (aa (vi (n-1:Nat))) (aa (vi n)) ab=aa x) (cl:jm g sz zs x=aa l) :
  ∃r d,Ev tab (.fn F) [.c c,vi j,vi (j+1:Nat)] H r d/\(r=.c b/\d=l):=by
 refine cz (H:=H) (args:=[.c c,vi j,vi (j+1:Nat)]) (C:=λr d=>r=.c b/\d=l) B rfl λQ A=>?_;apply ai;simp;have z:((j+1:Nat):Int)=(j:Int)+1:=by omega
 rw[z]at q s;apply ai;simp[m,q];apply an;apply ai;simp[show¬ (j:Int)=(j:Int)+1 by omega];refine ba (by simp) ?_;apply ai;simp[m];apply ai;simp[I,s,y];apply ai;simp[E,J,cl];apply ai;simp;exact aB (A _ _ _ rfl (cV (by simp)) ⟨rfl,rfl⟩)
def qh(sz:Nat)(rows:List (List C)):Prop:=∀r∈rows,r.length=sz
theorem dm{sz:Nat}:∀{rows:List (List C)},qh sz rows->rows.flatten.length=rows.length*sz
 |[],_=>by simp
 |r::g,h=>by
  have d:=dm (rows:=g) λx b=>h x (arj _ b);rw[arv,ara,d,h r arl,List.length_cons,atE,Nat.add_comm]
theorem rK{sz:Nat}:∀{rows:List (List C)} (k:Nat),qh sz rows->rows.flatten.take (k*sz)=(rows.take k).flatten
 |[],_,_=>by simp
 |r::b,0,_=>by simp
 |r::b,k+1,h=>by
  have j:=rK (rows:=b) k λx g=>h x (arj _ g);have d:=h r arl;rw[arv,List.take_succ_cons,arv,List.take_append,d,atE,Nat.add_sub_cancel,j,arw (by omega)]
theorem lz{sz:Nat}:∀{rows:List (List C)} (k:Nat),qh sz rows->rows.flatten.drop (k*sz)=(rows.drop k).flatten
 |[],_,_=>by simp
 |r::b,0,_=>by simp
 |r::b,k+1,h=>by
  have j:=lz (rows:=b) k λx g=>h x (arj _ g);have d:=h r arl;rw[arv,List.drop_succ_cons,ath,d,atE,Nat.add_sub_cancel,j,asH (by omega),asu]
theorem yu(A D ys:List C):bR (A++D) A.length ys=A++ys++D.drop ys.length:=by
 simp only[bR];rw[List.take_left,ath,asH (by omega),asu,Nat.add_sub_cancel_left]
theorem tU{sz j n:Nat}{rows:List (List C)}{rest ys:List C}(g:qh sz rows)(m:rows.length=n)(H:j<n)(x:ys.length=sz):∃b,bR (bR (rows.flatten++rest) (j*sz) (rows.drop (j+1)).flatten) ((n-1)*sz) ys=(rows.eraseIdx j).flatten++b/\((rows.eraseIdx j).flatten++b).length=(rows.flatten++rest).length:=by
 have l:(rows.drop (j+1)).flatten.length=(n-(j+1))*sz:=by
  rw[dm λr s=>g r (ar5 s),aru,m]
 have E:(rows.take j).flatten.length=j*sz:=by
  rw[dm λr s=>g r (ass s),arT,m,Nat.min_eq_left (by omega)]
 have d:=dm g;have v:rows.eraseIdx j=rows.take j++rows.drop (j+1):=List.eraseIdx_eq_take_drop_succ _ _;obtain⟨q,B⟩:∃q,n=j+1+q:=⟨n-j-1,by omega⟩
 subst B;have y:(j+1+q-(j+1))*sz=q*sz:=by congr 1;omega
 have z:(j+1+q-1)*sz=j*sz+q*sz:=by rw[<-arF];congr 1;omega
 have A:(j+1+q)*sz=j*sz+sz+q*sz:=by rw[arF,arF,atg]
 rw[m,A]at d;rw[y]at l;have F:bR (rows.flatten++rest) (j*sz) (rows.drop (j+1)).flatten=(rows.take j).flatten++(rows.drop (j+1)).flatten++(rows.flatten++rest).drop (j*sz+q*sz):=by
  simp only[bR,l];rw[arO (by omega),rK j g]
 have u:((rows.take j).flatten++(rows.drop (j+1)).flatten).length=j*sz+q*sz:=by rw[ara,E,l]
 refine⟨ys++((rows.flatten++rest).drop (j*sz+q*sz)).drop sz,?_,?_⟩
 .rw[F,z,v,asx];rw[<-u,yu,x,List.append_assoc _ ys]
 .rw[v,asx,ara,u,ara,x,aru,aru,ara,d];omega
theorem tS{n k:Nat}(m:Nat)(h:k<=m):bM n m ab (aa (vi k)) ab=aa (0,k,m):=by simp[bM,fe h]
theorem mc{n m k:Nat}(h:k<=n):bM n m (aa (vi k)) ab ab=aa (k,n,m):=by simp[bM,fe h]
theorem tR{n m j k:Nat}(h:j<=k)(b:k<=m):bM n m (aa (vi j)) (aa (vi k)) ab=aa (j,k,m):=by simp[bM,fe h,fe b]
theorem ru{n m j k l:Nat}(h:j<=k)(b:k<=l)(d:l<=m):bM n m (aa (vi j)) (aa (vi k)) (aa (vi l))=aa (j,k,l):=by simp[bM,fe h,fe b,fe d]
theorem ae3(X:tab F=aa (ajm sz bytes zs))(M:0<sz)(N:zs.length=sz){b cap j:Nat}{rows:List (List C)}{rest:List C}(A:qh sz rows)(s:H[b]?=aa (.box (rows.flatten++rest) 0))(l:(rows.flatten++rest).length=cap*sz)(J:j<rows.length)(p:cap<=1000000) :
  ∃r E,Ev tab (.fn F) [.c (.sl b 0 rows.length cap 0 sz),vi j,vi (j+1:Nat)] H r E/\(r=.c (.sl b 0 (rows.length-1) cap 0 sz)/\∃d,E=H.set b (.box ((rows.eraseIdx j).flatten++d) 0)/\((rows.eraseIdx j).flatten++d).length=cap*sz):=by
 obtain⟨n,v⟩:=aQ (rows.length);have y:=dm A;rw[<-v]at J y ⊢;have u:n<=cap:=by
  rw[ara,y]at l;exact Nat.le_of_mul_le_mul_right (show n*sz<=cap*sz by omega) M
 have S:n*sz<=cap*sz:=arL sz u;have Y:(rows.drop (j+1)).flatten.length=(n-(j+1))*sz:=by
  rw[dm λr L=>A r (ar5 L),aru,v]
 obtain⟨d,U,K⟩:=tU (ys:=zs.map C.f) (rest:=rest) A v.symm J (by rw[aro,N]);have c:j*sz+(n-(j+1))*sz<=n*sz:=by rw[<-arF];exact arL sz (by omega)
 have h:(n-1)*sz+sz<=n*sz:=by
  have:(n-1+1)*sz=n*sz:=by congr 1;omega
  rw[arF,atg]at this;omega
 obtain⟨g,q⟩:=aQ (bR (rows.flatten++rest) (j*sz) (rows.drop (j+1)).flatten);have f:g.length=cap*sz:=by
  rw[q];simp only[bR,ara,arT,aru];rw[ara]at l;omega
 rw[<-q]at U;have m:(H.set b (.box g 0))[b]?=aa (.box g 0):=aq6 (av s);have O:∃B,bS H sz (.c (.sl b 0 n cap 0 sz)) (aa (vi (j+1:Nat))) ab ab=aa B/\cN H sz B=aa (n-(j+1),(rows.drop (j+1)).flatten):=by
  simp only[bS,s,mc (show j+1<=n by omega)];by_cases Q:cap=j+1
  .rw[bw Q];refine⟨_,rfl,?_⟩;have:rows.drop (j+1)=[]:=asH (by omega);rw[this,show n-(j+1)=0 by omega];simp[cN,aV,cA]
  .rw[aR Q];refine⟨_,rfl,?_⟩;have hs:aV H (.sl b (0+(j+1)*sz) (n-(j+1)) (cap-(j+1)) 0 sz)=aa (n-(j+1)):=by simp[aV,s]
   have a:(j+1)*sz+(n-(j+1))*sz=n*sz:=by rw[<-arF];congr 1;omega
   have I:cA H sz (.sl b (0+(j+1)*sz) (n-(j+1)) (cap-(j+1)) 0 sz)=aa (rows.drop (j+1)).flatten:=by
    simp only[cA,s];have z:(rows.flatten++rest).length=rows.flatten.length+rest.length:=ara;have e:((rows.flatten++rest).drop (0+(j+1)*sz)).take ((n-(j+1))*sz)=(rows.drop (j+1)).flatten:=by
     rw[asd,asj (by omega),arO (by rw[aru];omega),lz (j+1) A,arw (by omega)]
    rw[e];rw[bw (by rw[z];omega)]
   simp only[cN,hs,I]
 obtain⟨B,O,x⟩:=O;have k:bS H sz (.c (.sl b 0 n cap 0 sz)) ab (aa (vi j)) ab=aa (.c (.sl b 0 j cap 0 sz)):=by
  simp only[bS,s,tS cap (show j<=cap by omega)];rw[aR (by omega)];simp
 have i:bS H sz (.c (.sl b 0 n cap 0 sz)) (aa (vi j)) (aa (vi (j+1:Nat))) (aa (vi n))=aa (.c (.sl b (0+j*sz) (j+1-j) (n-j) 0 sz)):=by
  simp only[bS,s,ru (show j<=j+1 by omega) (show j+1<=n by omega) u];rw[aR (by omega)]
 have W:bJ H sz bytes (.c (.sl b 0 j cap 0 sz)) B=aa (.c (.sl b 0 (n-1) cap 0 sz),H.set b (.box g 0)):=by
  simp only[bJ,x,s];rw[aR (by omega),bw (show j+(n-(j+1))<=cap by omega),bw ⟨ast _,by rw[Y,l];omega⟩];simp only[asd,<-q];rw[show j+(n-(j+1))=n-1 by omega]
 have o:bS (H.set b (.box g 0)) sz (.c (.sl b 0 (n-1) cap 0 sz)) (aa (vi (n-1:Nat))) (aa (vi n)) ab=aa (.c (.sl b (0+(n-1)*sz) (n-(n-1)) (cap-(n-1)) 0 sz)):=by
  simp only[bS,m,tR (show n-1<=n by omega) u];rw[aR (by omega)]
 have cl:jm (H.set b (.box g 0)) sz zs (.c (.sl b (0+(n-1)*sz) (n-(n-1)) (cap-(n-1)) 0 sz))=aa (H.set b (.box ((rows.eraseIdx j).flatten++d) 0)):=by
  have hs:aV (H.set b (.box g 0)) (.sl b (0+(n-1)*sz) (n-(n-1)) (cap-(n-1)) 0 sz)=aa 1:=by simp[aV,m];omega
  simp only[jm,hs,N,if_true,m];have L:cQ 1 zs=zs:=by simp[cQ]
  rw[L];simp only[dC,m,aro,N,asd];rw[bw ⟨ast _,by omega⟩,U,List.set_set]
 obtain⟨r,E,Z,rfl,rfl⟩:=xB X J (by omega) (by simp[aV,s]) i k O W (by simp[aV,m]) o cl;exact⟨_,_,Z,rfl,d,rfl,by rw[K,l]⟩
theorem ae4(c:tab F=aa (ajm sz bytes zs))(S:0<sz)(U:zs.length=sz){b d j:Nat}{rows:List (List C)}{rest:List C}(B:qh sz rows)(q:H[b]?=aa (.cK sz (rows.flatten++rest) 0 d .loc))(J:j<rows.length)(K:0<j)(Y:rows.length<=1000000) :
  ∃r y,Ev tab (.fn F) [.c (.sl b 0 rows.length 0 d sz),vi j,vi (j+1:Nat)] H r y/\(r=.c (.sl b 0 (rows.length-1) 0 d sz)/\∃g,y[b]?=aa (.cK sz ((rows.eraseIdx j).flatten++g) 0 d .loc)/\y.length=H.length/\∀i:Nat,i≠b->y[i]?=H[i]?):=by
 obtain⟨n,x⟩:=aQ (rows.length);have I:=dm B;rw[<-x]at J I Y ⊢;have k:(rows.drop (j+1)).flatten.length=(n-(j+1))*sz:=by
  rw[dm λr Q=>B r (ar5 Q),aru,x]
 obtain⟨g,Z,a_⟩:=tU (ys:=zs.map C.f) (rest:=rest) B x.symm J (by rw[aro,U]);have t:j*sz+(n-(j+1))*sz<=n*sz:=by rw[<-arF];exact arL sz (by omega)
 have a8:(n-1)*sz+sz<=n*sz:=by
  have:(n-1+1)*sz=n*sz:=by congr 1;omega
  rw[arF,atg]at this;omega
 have w:j*sz+sz<=n*sz:=by rw[<-atE];exact arL sz (by omega)
 obtain⟨v,l⟩:=aQ (bR (rows.flatten++rest) (j*sz) (rows.drop (j+1)).flatten);have m:(rows.flatten++rest).length=rows.flatten.length+rest.length:=ara;have M:v.length=(rows.flatten++rest).length:=by
  rw[l];simp only[bR,ara,arT,aru];omega
 rw[<-l]at Z;have W:∃X u,bS H sz (.c (.sl b 0 n 0 d sz)) (aa (vi (j+1:Nat))) ab ab=aa X/\bJ H sz bytes (.c (.sl b 0 j 0 d sz)) X=aa (.c (.sl b 0 (n-1) 0 d sz),u)/\u[b]?=aa (.cK sz v 0 d .loc)/\u.length=H.length/\∀i:Nat,i≠b->u[i]?=H[i]?:=by
  by_cases h:j+1=n
  .refine⟨.c (.f (.fs [] 0)),H,?_,?_,?_,rfl,λ_ _=>rfl⟩
   .simp only[bS,q,and_self,if_true,mc (show j+1<=n by omega)];rw[aR (by simp),bw ⟨h,by omega⟩]
   .have f:cN H sz (.c (.f (.fs [] 0)))=aa (0,[]):=by simp[cN,aV,cA]
    simp only[bJ,f,q,and_self,if_true];rw[aR (by omega),show j=n-1 by omega]
   .have:rows.drop (j+1)=[]:=asH (by omega);rw[l,this];simp only[bR,List.flatten_nil,asq,List.length_nil,Nat.add_zero,ar8];exact q
  .have hs:aV H (.sl b (0+(j+1)*sz) (n-(j+1)) 0 d sz)=aa (n-(j+1)):=by simp[aV,q]
   have p:(j+1)*sz+(n-(j+1))*sz=n*sz:=by rw[<-arF];congr 1;omega
   have E:cA H sz (.sl b (0+(j+1)*sz) (n-(j+1)) 0 d sz)=aa (rows.drop (j+1)).flatten:=by
    have e:((rows.flatten++rest).drop (0+(j+1)*sz)).take ((n-(j+1))*sz)=(rows.drop (j+1)).flatten:=by
     rw[asd,asj (by omega),arO (by rw[aru];omega),lz (j+1) B,arw (by omega)]
    simp only[cA,q,e];rw[bw ⟨trivial,trivial,by rw[m];omega⟩]
   have z:cN H sz (.c (.sl b (0+(j+1)*sz) (n-(j+1)) 0 d sz))=aa (n-(j+1),(rows.drop (j+1)).flatten):=by simp only[cN,hs,E]
   refine⟨.c (.sl b (0+(j+1)*sz) (n-(j+1)) 0 d sz),H.set b (.cK sz v 0 d .loc),?_,?_,aq6 (av q),by simp,λi hi=>by rw[aq0 (Ne.symm hi)]⟩
   .simp only[bS,q,and_self,if_true,mc (show j+1<=n by omega)];rw[aR (by simp),aR (by omega),aR (by simp)]
   .simp only[bJ,z,q,and_self,if_true];rw[aR (by omega),aR (by omega),aR (by rw[m];omega),bw ⟨trivial,ast _,by rw[k,m];omega⟩];simp only[asd,<-l];rw[show j+(n-(j+1))=n-1 by omega]
 obtain⟨X,u,W,a,s,N,L⟩:=W;have s2:bS H sz (.c (.sl b 0 n 0 d sz)) ab (aa (vi j)) ab=aa (.c (.sl b 0 j 0 d sz)):=by
  simp only[bS,q,and_self,if_true,tS n (show j<=n by omega)];rw[aR (by simp),aR (by omega),aR (by simp)];simp
 have s1:bS H sz (.c (.sl b 0 n 0 d sz)) (aa (vi j)) (aa (vi (j+1:Nat))) (aa (vi n))=aa (.c (.sl b 0 0 0 d (sz+1))):=by
  simp only[bS,q,and_self,if_true,ru (show j<=j+1 by omega) (show j+1<=n by omega) (aq9 n)];rw[aR (by omega),aR (by omega)];simp[K]
 have s5:bS u sz (.c (.sl b 0 (n-1) 0 d sz)) (aa (vi (n-1:Nat))) (aa (vi n)) ab=aa (.c (.sl b (0+(n-1)*sz) (n-(n-1)) 0 d sz)):=by
  have O:bM (n-1) (n-1) (aa (vi (n-1:Nat))) (aa (vi n)) ab=ab:=by
   have:yX (vi (n:Nat)) (n-1)=ab:=by simp[yX,fE];omega
   simp[bM,this]
  have A:n<=(v.length-0) / sz:=by rw[Nat.le_div_iff_mul_le S,Nat.sub_zero,M,m];omega
  simp only[bS,s,and_self,if_true,O,tR (show n-1<=n by omega) A];rw[bw ⟨by omega,by omega⟩]
 have cl:jm u sz zs (.c (.sl b (0+(n-1)*sz) (n-(n-1)) 0 d sz))=aa (u.set b (.cK sz ((rows.eraseIdx j).flatten++g) 0 d .loc)):=by
  have hs:aV u (.sl b (0+(n-1)*sz) (n-(n-1)) 0 d sz)=aa 1:=by simp[aV,s];omega
  have Q:cQ 1 zs=zs:=by simp[cQ]
  simp only[jm,hs,U,if_true,s,and_self,Q];simp only[bC,s,ast,true_and,aro,U,asd];rw[bw (by omega),Z]
 obtain⟨r,y,o,rfl,rfl⟩:=xB c J Y (by simp[aV,q]) s1 s2 W a (by simp[aV,s]) s5 cl;exact⟨_,_,o,rfl,g,aq6 (by have:=av q;omega),by simp[N],λi hi=>by rw[aq0 (Ne.symm hi),L i hi]⟩
end
end Km
end
namespace Km
open Go
section
variable(Q:Program)(pr:Nat)(hs:List Nat)
def afz(f:Nat):Nat:=if f=pr then vB else f
def Bj(f:Nat):FuncId:=if f=vB then pr else f
def kV1:Value->Option FC
 | .bool b=>aa (.bool b)| .int k n=>aa (.int k n)| .string s=>aa (.str s)| .pointer ab=>aa .kr| .slice ab 0 0=>aa .aw| .map ab=>aa .nD| .nilFunc=>aa .jw| .nilIface=>aa .nT| _=>ab
def kV:Value->Option V
 | .agg cs=>(aX kV1 cs.toList).map λxs=>.a (xs.map .f)
 | .tuple cs=>if cs.isEmpty then aa .top else ab| v=>(kV1 v).map λx=>.c (.f x)
def kA:Operand->Option Arg
 | .tmp t=>aa (.r (.nat t))| .const v=>(kV v).map .k| .func f=>aa (.k (.c (.f (.fn (afz pr f) []))))| _=>ab
def kO:Option Operand->Option (Option Arg)
 |none=>aa ab| some x=>(kA pr x).map aa
def zR(t:TypeId):Option Nat:=(Q.info? t).map (·.size)
def kBy(t:TypeId):Option Nat:=(Q.info? t).map (·.bytes)
def kZ(t:TypeId):Option (List FC):=do aX kV1 (<-(<-Q.info? t).zero).cells.toList
def kAg(t:TypeId):Option (Option Nat):=match Q.underlying t with
 |some (.struct _)|some (.array _ _)=>(zR Q t).map aa| some _=>aa ab| none=>ab
def kCK(t:TypeId):Option CK:=match Q.underlying t with
 |some (.int _)=>aa .int| some .string=>aa .str| some .bool=>aa .bool| _=>ab
def kEq(t:TypeId):Option LI:=match Q.underlying t with
 |some .bool=>aa .bool| some (.pointer _)=>aa .ptr| some (.slice _)=>aa .sl| some (.func _ _ _)=>aa .fn| some (.interface _)=>aa .ifc| some (.struct _)=>(gJ Q 20 t).map .st| _=>ab
def anS(c:Call):Option dn:=
 let A:=kA pr
 let u:=Q.underlying (c.argTypes.getD 0 0)
 let x:=A (c.args.getD 0 default)
 match c.callee with
 | .builtin .len=>match u with
  |some (.slice _)=>do pure (.len (<-x))
  |some .string=>do pure (.lens (<-x))
  |some (.array n _)=>aa (.te n)| _=>ab
 | .builtin .append=>match u,Q.underlying (c.argTypes.getD 1 0)with
  |some (.slice e),aa (.int _)=>do pure (.lV (<-zR Q e) (<-kBy Q e) (<-kZ Q e) (<-x) (<-A (c.args.getD 1 default)))
  |some (.slice e),_=>do pure (.append (<-zR Q e) (<-kBy Q e) (<-x) (<-A (c.args.getD 1 default)))
  |_,_=>ab
 | .builtin .max=>do pure (.fu ag (<-aX A c.args.toList))
 | .builtin .min=>do pure (.fu ae (<-aX A c.args.toList))
 | .builtin .cap=>do pure (.cap (<-x))
 | .builtin .clear=>match u with
  |some (.slice e)=>do pure (.clear (<-zR Q e) (<-kZ Q e) (<-x))
  |_=>ab
 | .builtin .recover=>aa .recover| .value (.func f)=>do pure (.call (afz pr f) (<-aX A c.args.toList) (hs.contains f))
 | .value y=>do pure (.bZ (<-A y) (<-aX A c.args.toList) ae)
 |_=>ab
def kOp(o:Op):Option dn:=
 let A:=kA pr
 let U:=Q.underlying
 let ps (l:Array (Nat × Operand)):=aX (λp:Nat × Operand=>(A p.2).map λx=>(p.1,x)) l.toList
 match o with
 | .move x| .assign x=>do pure (.cP (<-A x))
 | .pick c a b=>do pure (.pick (<-A c) (<-A a) (<-A b))
 | .alloc t=>do pure (.alloc (<-kZ Q t))
 | .box _ x=>do pure (.box (<-A x))
 | .build t l=>match U t with
  |some (.struct j)=>do pure (.build (<-kZ Q t) (<-aX (λp:Nat × Operand=>do
    let f <-j[p.1]?
    pure (f.offset,<-zR Q f.type,<-A p.2)) l.toList))
  |some (.array _ e)=>do
    let s <-zR Q e
    pure (.build (<-kZ Q t) (<-aX (λp:Nat × Operand=>do pure (p.1*s,s,<-A p.2)) l.toList))
  |_=>ab
 | .buildSlice t n l=>match U t with
  |some (.slice e)=>do pure (.bN (<-zR Q e) (<-kZ Q e) n (<-ps l))
  |_=>ab
 | .load t x=>do pure (.load (<-kAg Q t) (<-A x))
 | .store t x y=>do pure (.store (<-zR Q t) (<-A x) (<-A y))
 | .nilCheck x=>do pure (.bB (<-A x))
 | .binOp op t x y _=>do
  let a <-A x
  let b <-A y
  pure (match if op=.eql\/op=.neq then kEq Q t else ab with
  |some k=>.eq (op=.neq) k a b
  |none=>.bin op a b)
 | .unOp op _ x=>do pure (.un op (<-A x))
 | .convert s d x=>match U s,U d with
  |some (.int _),aa (.int k)=>do pure (.gG k (<-A x))
  |some .string,aa .string=>do pure (.zB (<-A x))
  |some (.slice _),aa .string=>do pure (.xA (<-A x))
  |_,_=>ab
 | .makeFunc (.func f) fst g=>if fst.isEmpty then do pure (.im (afz pr f) (<-aX A g.toList))else do pure (.x7 (afz pr f) (<-aX A fst.toList))
 | .makeMap _ ab=>aa .ik
 | .makeSlice t l c=>match U t with
  |some (.slice e)=>do pure (.eh (<-zR Q e) (<-kBy Q e) (<-kZ Q e) (<-A l) (<-A c))
  |_=>ab
 | .slice t x lo hi mx=>match U t with
  |some (.slice e)=>match lo,hi,mx with
   |none,aa hi,aa mx=>do pure (.qF (<-zR Q e) (<-A x) (<-A hi) (<-A mx))
   |_,_,_=>do pure (.slice (<-zR Q e) (<-A x) (<-kO pr lo) (<-kO pr hi) (<-kO pr mx))
  |some .string=>do pure (.qy (<-A x) (<-kO pr lo) (<-kO pr hi))
  |some (.array n e)=>do pure (.pe n (<-zR Q e) (<-A x) (<-kO pr lo) (<-kO pr hi) (<-kO pr mx))
  |_=>ab
 | .fieldAddr t x i=>match U t with
  |some (.struct j)=>do pure (.aO (<-j[i]?).offset (<-A x))
  |_=>ab
 | .field t x i=>match U t with
  |some (.struct j)=>do
   let f <-j[i]?
   pure (.field f.offset (<-kAg Q f.type) (<-A x))
  |_=>ab
 | .indexAddr t x i=>match U t with
  |some (.slice e)=>do pure (.bu (<-zR Q e) ab (<-A x) (<-A i))
  |some (.array n e)=>do pure (.bu (<-zR Q e) (aa n) (<-A x) (<-A i))
  |_=>ab
 | .index t x i=>match U t with
  |some .string=>do pure (.idxs (<-A x) (<-A i))
  |some (.array n e)=>do pure (.xN n (<-zR Q e) (<-kAg Q e) (<-A x) (<-A i))
  |_=>ab
 | .lookup t m k ok=>match U t with
  |some (.map kt e)=>do
   let zs <-kZ Q e
   let z <-match <-kAg Q e,zs with
    |some _,_=>aa (FC.fn jG zs)| none,[z]=>aa z| _,_=>ab
   pure (.lookup (<-kCK Q kt) (if ok then .fp [z] 77 else z) (<-A m) (<-A k))
  |_=>ab
 | .mapUpdate t m k v=>match U t with
  |some (.map kt _)=>do pure (.iO (<-kCK Q kt) (<-A m) (<-A k) (<-A v))
  |_=>ab
 | .range t x=>match U t with
  |some .string=>do pure (.range (<-A x))
  |some (.map _ _)=>do pure (.ig (<-A x))
  |_=>ab
 | .next x s=>(A x).map (if s then .next else .lT)| .extract x i=>do pure (.extract (<-A x) i)
 | .entry x=>do pure (.entry (<-A x))
 | .call c=>anS Q pr hs c
 | .defer c=>match c.callee with
  | .value x=>do pure (.defer (<-A x) (<-aX A c.args.toList))
  |_=>ab
 |_=>ab
def ap9(ops:Array Oper):List aN:=ops.toList.map λo=>
 ⟨o.dst.map .nat,(kOp Q pr hs o.op).getD .bad,match o.guard with
  |some (j,w)=>((ops[j]?).bind (·.dst)).map λd=>(.nat d,w)
  |none=>ab⟩
def ap8(ops:Array Oper)(aos:List aN)(b:Bool):List (Nat × Nat):=
 if !b then []else
 let d:=dD ops.toList []
 (List.range aos.length).flatMap λi=>match aos[i]? with
  |some x=>if cls x.op=.r then((lM aos++[aos.length]).filter λe=>!(e == phase aos i||!xZ d aos i e)).map λe=>(i,e)else []
  |none=>[]
def afA(n i:Nat)(ops:Array Oper)(b:Bool)(aos:List aN)(d:ax):ax:=
 let c:=.region aos (ap8 ops aos b)
 if bU Q (Bj pr) n (.region i ops b) c then c else d
def kC(n:Nat):Code->ax
 | .skip=>.skip
 | .region i ops d=>let aos:=ap9 Q pr hs ops
  afA Q pr n i ops d aos (afA Q pr n i ops d (aos.map λa=>match a.op with| .bN s z n ps=>{ a with op:=.jr s z n ps } | _=>a) .bad)
 | .seq a b=>.seq (kC n a) (kC n b)
 | .cond c a b=>match kA pr c with
  |some j=>if mA (Bj pr) j c then .cond j (kC n a) (kC n b)else .bad| none=>.bad
 | .block i a=>.block i (kC n a)| .loop a=>.loop (kC n a)
 | .rangeFunc f ps a b=>match kA pr f with
  |some m=>let g:=ps.toList.map .nat
   if mA (Bj pr) m f&&fC (λp (q:P)=>q.toNat == p&&decide (p<n)) ps.toList g then .fK m g (kC n a) (kC n b)else .bad
  |none=>.bad
 | .exit i=>.exit i| .ret=>.ret
 | .scope a=>let a':=kC n a
  if ji a' then .scope a' else .bad
 | .label l=>.label l| .goto l=>.goto l| .refuse _=>.bad
def kF(f:Func):Option aG:=f.body.bind λb=>
 let rs:=f.results.toList.map fun| .tmp t=>gl.tmp (.nat t)| .cell a t=>.cell (.nat a) ((kAg Q t).getD ab)
 if f.name != "runtime.NumGoroutine"&&fC (th Q f.ntmps) f.results.toList rs then aa ⟨(List.range (f.params.size+f.nfree)).map .nat,rs,kC Q pr hs f.ntmps b⟩else ab
def kT(f:Nat):Option aG:=if f=vB then ab else(Q.funcs[f]?).bind (kF Q pr hs)
theorem Bk{n i:Nat}{ops:Array Oper}{b:Bool}{aos:List aN}{d:ax}(h:bU Q (Bj pr) n (.region i ops b) d=ae):bU Q (Bj pr) n (.region i ops b) (afA Q pr n i ops b aos d)=ae:=by
 unfold afA;dsimp only;split<;>assumption
theorem nM{n:Nat}{c:Code}:bU Q (Bj pr) n c .bad=ae:=by cases c<;>rfl
theorem oM(n:Nat):∀c:Code,bU Q (Bj pr) n c (kC Q pr hs n c)=ae
 | .skip| .exit _| .ret| .label _| .goto _=>by simp[kC,bU]
 | .refuse _=>nM Q pr| .region i ops d=>Bk Q pr (Bk Q pr (nM Q pr))| .seq a b=>by simp[kC,bU,oM n a,oM n b]
 | .cond c a b=>by
  unfold kC;split
  .split
   .simp[bU,oM n a,oM n b, *]
   .exact nM Q pr
  .exact nM Q pr
 | .block i a| .loop a=>by simp[kC,bU,oM n a]
 | .rangeFunc f ps a b=>by
  unfold kC;split
  .dsimp only;split
   .rename_i h;simp only[aq3]at h;simp only[bU,oM n a,oM n b,h.1,h.2,Bool.and_self]
   .exact nM Q pr
  .exact nM Q pr
 | .scope a=>by
  unfold kC;dsimp only;split
  .simp[bU,oM n a, *]
  .exact nM Q pr
theorem anT{f:Func}{a:aG}(h:kF Q pr hs f=aa a):ur Q (Bj pr) f a=ae:=by
 unfold kF at h;rw[arH]at h;obtain⟨b,g,h⟩:=h;dsimp only at h;split at h
 .rename_i d;cases h;simp only[aq3]at d;simp only[ur,g,oM,d.1,d.2,Bool.and_self,Bool.true_and,decide_eq_true_eq,List.map_map,aro,List.length_range];refine(List.map_congr_left λn _=>gk n).trans (List.map_id _)
 .cases h
theorem ahc{f:Nat}{a:aG}(h:kT Q pr hs f=aa a):∃fn,Q.funcs[Bj pr f]?=aa fn/\ur Q (Bj pr) fn a=ae:=by
 unfold kT at h;split at h
 .cases h
 .rename_i g;rw[arH]at h;obtain⟨fn,b,d⟩:=h;exact⟨fn,by rw[Bj,aR g];exact b,anT Q pr hs d⟩
inductive LT where
 |e
 |n (l:LT) (k:Nat) (a:aG) (r:LT)
def LT.get:LT->Nat->Option aG
 | .e,_=>ab| .n l k a r,f=>bif Nat.beq f k then aa a else bif Nat.ble f k then l.get f else r.get f
inductive LT.All:LT->Prop
 |e:LT.All .e
 |n {l:LT} {k:Nat} {a:aG} {r:LT} (hl:LT.All l) (h:kT Q pr hs k=aa a) (hr:LT.All r):LT.All (.n l k a r)
theorem LT.All.get:∀{t:LT} {f:Nat} {a:aG},LT.All Q pr hs t->t.get f=aa a->kT Q pr hs f=aa a
 | .e,_,_,_,h=>by cases h
 | .n l k b r,f,a,.n hl j m,h=>by
  unfold LT.get at h;cases d:Nat.beq f k with
  |true=>
   rw[d]at h;cases h;rw[Nat.eq_of_beq_eq_true d];exact j
  |false=>
   rw[d]at h;cases g:Nat.ble f k with
   |true=>rw[g]at h;exact hl.get h| false=>rw[g]at h;exact m.get h
end
def LT.fn(t:LT)(Q:Program)(pr:Nat)(hs:List Nat)(f:Nat):Option aG:=match t.get f with
 |some a=>aa a| none=>kT Q pr hs f
def LT.tb(t:LT)(Q:Program)(pr:Nat)(hs:List Nat):TB where
 get:=t.fn Q pr hs
 wi:=λf args H=>match t.fn Q pr hs f with
  |some _=>ab| none=>Km.wi f args H
 ok:=λf a h args H=>by simp[h]
theorem LT.env{t:LT}{Q:Program}{pr:Nat}{hs:List Nat}(h:LT.All Q pr hs t)(g:Q.follows .mixedOrders=ae)(j:X9 Q (Bj pr) Km.wi):Env Q (Bj pr) (t.tb Q pr hs).get (t.tb Q pr hs).wi:=by
 refine⟨g,λf a b=>?_,λf args H r d b=>?_⟩
 .have b:t.fn Q pr hs f=aa a:=b;unfold LT.fn at b;split at b
  .rename_i e;cases b;exact ahc _ _ _ (h.get _ _ _ e)
  .exact ahc _ _ _ b
 .have b:(match t.fn Q pr hs f with
  |some _=>ab
  |none=>Km.wi f args H)=aa (aa (r,d)):=b
  split at b
  .cases b
  .exact j f args H r d b
end Km
namespace Km
open Go
theorem ajX:∀(k n:Nat),n<=k->P.iV (k+1) (2*n+1)=.o (P.iV k n):=λk n h=>by
 rw[P.iV,aR (by omega),bw (by omega),show(2*n+1-1) / 2=n by omega]
theorem ajW:∀(k n:Nat),n<=k->P.iV (k+1) (2*n+2)=.i (P.iV k n):=λk n h=>by
 rw[P.iV,aR (by omega),aR (by omega),show(2*n+2-2) / 2=n by omega]
theorem pQ:∀(k n:Nat),n<=k->P.iV (k+1) n=P.iV k n
 |0,n,h=>by
  obtain rfl:n=0:=by omega
  rfl
 |k+1,n,h=>by
  show(if n=0 then P.h else if n % 2=1 then .o (P.iV (k+1) ((n-1) / 2))else .i (P.iV (k+1) ((n-2) / 2)))=(if n=0 then P.h else if n % 2=1 then .o (P.iV k ((n-1) / 2))else .i (P.iV k ((n-2) / 2)));rw[pQ k ((n-1) / 2) (by omega),pQ k ((n-2) / 2) (by omega)]
theorem rP:∀(j k n:Nat),n<=k->P.iV (k+j) n=P.iV k n
 |0,_,_,_=>rfl| j+1,k,n,h=>by rw[<-Nat.add_assoc,pQ _ _ (by omega),rP j k n h]
theorem Po(n:Nat):P.o (P.nat n)=P.nat (2*n+1):=by
 unfold P.nat;rw[show P.iV (2*n+1) (2*n+1)=P.iV (2*n+1) (2*n+1) from rfl,ajX (2*n) n (by omega),show 2*n=n+n by omega,rP n n n (aq9 _)]
theorem Pi(n:Nat):P.i (P.nat n)=P.nat (2*n+2):=by
 unfold P.nat;rw[ajW (2*n+1) n (by omega),show 2*n+1=n+(n+1) by omega,rP (n+1) n n (aq9 _)]
theorem Ph:P.h=P.nat 0:=rfl
theorem Rr(n:Nat):Arg.r (P.nat n)=R n:=rfl
theorem Dd(n:Nat):aa (P.nat n)=D n:=rfl
theorem Gg(n:Nat)(b:Bool):aa (P.nat n,b)=G n b:=rfl
end Km
