/-
  Our own small machine for Go code by value, held BU the model: part 4. No program in R6.
-/
import Derived.Test.YtelifakcllijpaaGreatK3
import Derived.Test.YtelifakcllijpaaGreatK1
open Option renaming some->aa,none->ab
open Bool renaming true->ae,false->ag
open Nat renaming le_refl->agn, zero_le->ahN, add_mul->agS, mul_le_mul_right->ag9, zero_add->ahg
open List renaming length_map->agq, length_eq_zero_iff->ahx, length_append->aft, getElem?_set_self->BY, map_append->ahl, flatten_append->ahM, flatten_cons->agG, mem_of_mem_take->ahn, take_length->agu, getElem_mem->IN, mem_cons_of_mem->agr, mem_cons_self->ago, take_of_length_le->agw, mem_of_mem_drop->ahd, length_drop->agF, length_take->agO, take_append_of_le_length->ahq, drop_append_of_le_length->ahS, getElem?_set_ne->sh
open Bool renaming and_eq_true->IS
open Option renaming bind_eq_some_iff->agR
set_option linter.unusedVariables false
set_option linter.constructorNameAsVariable false
set_option linter.unusedSimpArgs false
set_option linter.unusedSectionVars false
set_option maxRecDepth 100000
namespace Km
open Go
section
set_option linter.unusedVariables false
def YR(sz bytes:Nat)(zs:List FC):aE:=yr [yn 7 (.bad),⟨ab,.bad,ab⟩]
def TR(sz bytes:Nat)(zs:List FC):aE:=yr [ym 17 0,ym 18 0,yn 19 (.cap (R 18)),yn 20 (.slice sz (R 17) ab (aa (R 19)) ab),ym 21 1,yn 22 (.rD sz bytes zs (R 20) (R 21)),ym 23 0,yn 24 (.len (R 23)),yn 25 (.slice sz (R 22) ab (aa (R 24)) ab),ym 0 25]
def TQ(sz bytes:Nat)(zs:List FC):aE:=.seq (yr [ym 15 1,yn 16 (.bin .gtr (R 15) (yi 0))]) (.cond (R 16) (TR sz bytes zs) .skip)
def TS(sz bytes:Nat)(zs:List FC):aE:=.seq (yr [ym 26 0,ym 4 26]) .ret
def YT(sz bytes:Nat)(zs:List FC):aE:=.seq (.seq (yr [ym 8 1,ym 9 0,yn 10 (.cap (R 9)),ym 11 0,yn 12 (.len (R 11)),yb 13 .sub 10 12,yb 14 .sub 8 13,ym 1 14]) (TQ sz bytes zs)) (TS sz bytes zs)
def YQ(sz bytes:Nat)(zs:List FC):aE:=.seq (.seq (yr [ym 5 1,yn 6 (.bin .lss (R 5) (yi 0))]) (.cond (R 6) (YR sz bytes zs) .skip)) (YT sz bytes zs)
def YP(sz bytes:Nat)(zs:List FC):aE:=.seq (yr [yn 4 (.iV (.k (.c (.f .aJ))))]) (YQ sz bytes zs)
def Vo(sz bytes:Nat)(zs:List FC):aM:=⟨[P.nat 0,P.nat 1],[.tmp (P.nat 4)],(YP sz bytes zs)⟩
def K_(G sz bytes:Nat):aE:=yr [yn 21 (.bad),⟨ab,.bad,ab⟩]
def K9(G sz bytes:Nat):aE:=.seq (yr [ym 19 3,yn 20 (.bin .lss (R 19) (yi 0))]) (.cond (R 20) (K_ G sz bytes) .skip)
def K8(G sz bytes:Nat):aE:=.seq (yr [ym 15 3,ym 16 5,yn 17 (.len (R 16)),yb 18 .add 15 17,ym 3 18]) (K9 G sz bytes)
def K7(G sz bytes:Nat):aE:=.seq (yr [ya 13 1 9 11,yn 14 (.load ab (R 13)),ym 5 14]) (K8 G sz bytes)
def La(G sz bytes:Nat):aE:=yr [yn 22 (.bin .add (R 11) (yi 1)),ym 11 22]
def K6(G sz bytes:Nat):aE:=.seq (.block 1 (K7 G sz bytes)) (La G sz bytes)
def KZ(G sz bytes:Nat):aE:=.seq (.cond (R 12) .skip (.exit 0)) (K6 G sz bytes)
def Ql(G sz bytes:Nat):aE:=.seq (yr [yb 12 .lss 11 10]) (KZ G sz bytes)
def Lk(G sz bytes:Nat):aE:=yr [ym 31 6,ym 32 8,yn 33 (.append sz bytes (R 31) (R 32)),ym 6 33]
def Lj(G sz bytes:Nat):aE:=.seq (yr [ya 29 1 25 27,yn 30 (.load ab (R 29)),ym 8 30]) (Lk G sz bytes)
def Lm(G sz bytes:Nat):aE:=yr [yn 34 (.bin .add (R 27) (yi 1)),ym 27 34]
def Li(G sz bytes:Nat):aE:=.seq (.block 3 (Lj G sz bytes)) (Lm G sz bytes)
def Lh(G sz bytes:Nat):aE:=.seq (.cond (R 28) .skip (.exit 2)) (Li G sz bytes)
def Lg(G sz bytes:Nat):aE:=.seq (yr [yb 28 .lss 27 26]) (Lh G sz bytes)
def Lf(G sz bytes:Nat):aE:=.block 2 (.loop (Lg G sz bytes))
def Ln(G sz bytes:Nat):aE:=.seq (yr [ym 35 6,ym 2 35]) .ret
def Lc(G sz bytes:Nat):aE:=.seq (.seq (yr [ym 25 0,yn 26 (.len (R 25)),yn 27 (.iV (yi 0))]) (Lf G sz bytes)) (Ln G sz bytes)
def Lb(G sz bytes:Nat):aE:=.seq (yr [ym 23 3,yn 24 (.call G [(.k (.c (.f .aJ))),R 23] ae),ym 6 24]) (Lc G sz bytes)
def Qk(G sz bytes:Nat):aE:=.seq (.seq (yr [ym 9 0,yn 10 (.len (R 9)),yn 11 (.iV (yi 0))]) (.block 0 (.loop (Ql G sz bytes)))) (Lb G sz bytes)
def Qj(G sz bytes:Nat):aE:=.seq (yr [yn 3 (.iV (yi 0))]) (Qk G sz bytes)
def Qi(G sz bytes:Nat):aE:=.seq (yr [yn 2 (.iV (.k (.c (.f .aJ))))]) (Qj G sz bytes)
def Tu(G sz bytes:Nat):aM:=⟨[P.nat 0],[.tmp (P.nat 2)],(Qi G sz bytes)⟩
section
variable{tab:TB}{F G sz bytes:Nat}{zs:List FC}{H:an}
theorem UO(t:T)(H:an)(sz bytes:Nat)(zs:List FC)(x n:Arg):cm t H (.rD sz bytes zs x n)=Dr H sz bytes zs (x.ev t) (n.ev t):=rfl
theorem Mz{b:Type}(n:Nat)(xs:List b):(dJ n xs).length=n*xs.length:=by
 simp
def GR(H:an)(c:C)(sz n:Nat)(rows:List (List FC)):Prop:=(n=0/\rows=[]/\c=.f .aJ)\/(0<n/\∃b rest,c=.sl b 0 rows.length 0 0 sz/\H[b]?=aa (.dj sz (rows.flatten.map .f++rest) 0 0 .loc)/\(rows.flatten.map C.f++rest).length=n*sz)
theorem TT(u:tab F=aa (Vo sz bytes zs))(x:sz≠0)(m:zs.length=sz)(n:Nat)(z:n<=1000000)(b:cD n bytes=ae):∃r H',Ev tab (.fn F) [.c (.f .aJ),vi n] H r H'/\
  ∃c,r=.c c/\GR H' c sz n []/\(∀i:Nat,i<H.length->H'[i]?=H[i]?)/\H.length<=H'.length/\∀i,bf c=aa i->H.length<=i:=by
 refine de (C:=λr H'=>∃c,r=.c c/\GR H' c sz n []/\(∀i:Nat,i<H.length->H'[i]?=H[i]?)/\H.length<=H'.length/\∀i,bf c=aa i->H.length<=i) u rfl λQ l=>?_;apply ai;simp;apply au;apply ai;simp[show¬ (n:Int)<0 by omega];refine bE bv ?_;apply au;apply ai;simp[bh,nU,wrap64 (n:=(0:Int)) ce ce,aZ (n:=(n:Int))];apply ai;simp;rcases Nat.eq_zero_or_pos n with rfl|v
 .refine bE bv ?_;apply ai;simp;exact az (l _ _ (.c (.f .aJ)) rfl (by simp[Km.results,bu]) ⟨.f .aJ,rfl,.inl ⟨rfl,rfl,rfl⟩,λ_ _=>rfl,agn _,λ_ h=>by cases h⟩)
 .refine aw ge ?_;have q:cu H sz (.c (.f .aJ)) ab (aa (vi 0)) ab=aa (.c (.f .aJ)):=rfl;have d:∃cs:List C,cs.length=n*sz/\Dr H sz bytes zs (.c (.f .aJ)) (vi n)=aa (.c (.sl H.length 0 n 0 0 sz),H++[.dj sz cs 0 0 .loc]):=by
   refine⟨(dJ n zs).map .f,by rw[agq,Mz,m],?_⟩;have hi:fG (vi n)=aa (n:Int):=rfl;simp[Dr,hi,m,show¬ n=0 by omega,show¬ (n:Int)<=0 by omega,b]
  obtain⟨cs,j,d⟩:=d;have s:cu (H++[.dj sz cs 0 0 .loc]) sz (.c (.sl H.length 0 n 0 0 sz)) ab (aa (vi 0)) ab=aa (.c (.sl H.length 0 0 0 0 sz)):=by
   have y:cz n n ab (aa (vi ((0:Nat):Int))) ab=aa (0,0,n):=by simp only[cz,gS (ahN n)];rfl
   have g:(H++[bO.dj sz cs 0 0 .loc])[H.length]?=aa (bO.dj sz cs 0 0 .loc):=by simp
   simp only[cu,g,and_self,if_true];simp_all
  refine aq (.inl rfl) ?_;simp[bh,nU,q,UO,d,s];apply ai;simp;exact az (l _ _ (.c (.sl H.length 0 0 0 0 sz)) rfl (by simp[Km.results,bu]) ⟨_,rfl,.inr ⟨v,H.length,cs,rfl,bv,by simpa using j⟩,λi hi=>List.getElem?_append_left hi,bv,λi h=>by cases h;exact agn _⟩)
theorem GR.app{c:C}{n:Nat}{rows ys:List (List FC)}(h:GR H c sz n rows)(hg:cR sz rows)(hy:cR sz ys)(vW:sz≠0)(j:rows.length+ys.length<=n){x:C}(m:dG H sz (.c x)=aa (ys.length,ys.flatten.map .f)) :
  ∃g H',bT H sz bytes (.c c) (.c x)=aa (.c g,H')/\GR H' g sz n (rows++ys)/\bf g=bf c/\H'.length=H.length/\∀(i:Nat) y,H[i]?=aa y->bf c≠aa i->H'[i]?=aa y:=by
 rcases h with⟨rfl,rfl,rfl⟩|⟨v,b,rest,rfl,hb,d⟩
 .have:ys=[]:=ahx.1 ap;subst this;exact⟨.f .aJ,H,by simp only[bT,m,vW,if_false];simp,.inl ⟨rfl,rfl,rfl⟩,rfl,rfl,λ_ _ h _=>h⟩
 .by_cases u:ys.length=0
  .have:ys=[]:=ahx.1 u;subst this;refine⟨.sl b 0 rows.length 0 0 sz,H,?_,.inr ⟨v,b,rest,bv,by simpa using hb,by simpa using d⟩,rfl,rfl,λ_ _ h _=>h⟩;simp only[bT,m,vW,if_false,hb,and_self,if_true,List.length_nil]
  .have A:rows.flatten.length=rows.length*sz:=cA hg;have q:ys.flatten.length=ys.length*sz:=cA hy;have s:rows.length*sz+ys.length*sz<=n*sz:=by rw[<-agS];exact ag9 sz j
   have z:0<ys.length*sz:=Nat.mul_pos ap ap;have B:over (rows.flatten.map C.f++rest) (rows.length*sz) (ys.flatten.map C.f)=(rows++ys).flatten.map C.f++rest.drop (ys.length*sz):=by
    have e:rows.length*sz=(rows.flatten.map C.f).length:=by rw[agq,A]
    simp only[over];rw[e,List.take_left,List.drop_append,agq,agq,q];simp_all
   have E:rest.length=n*sz-rows.length*sz:=by rw[aft,agq,A]at d;omega
   refine⟨.sl b 0 (rows.length+ys.length) 0 0 sz,H.set b (.dj sz ((rows++ys).flatten.map .f++rest.drop (ys.length*sz)) 0 0 .loc),?_,.inr ⟨v,b,rest.drop (ys.length*sz),bv,BY (aj hb),?_⟩,rfl,bv,λi y hy l=>?_⟩
   .simp only[bT,m,vW,if_false,hb,and_self,if_true,u]
    grind
   .grind
   .have:b≠i:=by rintro rfl;exact l rfl
    simp_all
theorem GR.lr{c:C}{rows:List (List FC)}(h:GR H c sz rows.length rows)(hg:cR sz rows):LR H c sz rows:=by
 rcases h with⟨_,h1,rfl⟩|⟨g,b,rest,rfl,hb,d⟩
 .rw[h1];exact LR.nil _ _
 .have j:rows.flatten.length=rows.length*sz:=cA hg;have:rest=[]:=ahx.1 (by rw[aft,agq,j]at d;omega);subst this;exact .inr ⟨λe=>by rw[e]at g;simp at g,b,0,rfl,by simpa[RB]using hb⟩
theorem uC(hT:tab F=aa (Tu G sz bytes))(hG:tab G=aa (Vo sz bytes zs))(S:sz≠0)(hz:zs.length=sz){b:Nat}(xs:List (C × List (List FC)))(hb:H[b]?=aa (.box (xs.map (·.1)) 0))(g_:xs.length<=1000000)
  (hx:∀x∈xs,cR sz x.2/\∀H':an,(∀i:Nat,i<H.length->H'[i]?=H[i]?)->bh H' x.1=aa x.2.length/\dG H' sz (.c x.1)=aa (x.2.length,x.2.flatten.map .f))
  (W:((xs.map (·.2)).flatten).length<=1000000) (d:cD ((xs.map (·.2)).flatten).length bytes=ae) :
  ∃r H',Ev tab (.fn F) [.c (.sl b 0 xs.length xs.length 0 1)] H r H'/\∃c,r=.c c/\LR H' c sz (xs.map (·.2)).flatten/\(∀i:Nat,i<H.length->H'[i]?=H[i]?)/\H.length<=H'.length/\∀i,bf c=aa i->H.length<=i:=by
 have M:=aj hb;have Y:∀(H':an),(∀i:Nat,i<H.length->H'[i]?=H[i]?)->∀j:Nat,(h:j<xs.length)->bG H' 1 ab (.c (.sl b 0 xs.length xs.length 0 1)) (vi j)=aa (.c (.ptr b j 0))/\aV H' ab (.c (.ptr b j 0))=aa (.c xs[j].1):=λH' u j h=>by
  have m:H'[b]?=aa (.box (xs.map (·.1)) 0):=by rw[u b M];exact hb
  refine⟨?_,?_⟩
  .simp[bG,show fG (vi j)=aa (j:Int) from rfl,m,h]
  .simp[aV,aA,m,aW,h,List.drop_eq_getElem_cons]
 have Z:∀(H':an),(∀i:Nat,i<H.length->H'[i]?=H[i]?)->bh H' (.sl b 0 xs.length xs.length 0 1)=aa xs.length:=λH' u=>by
  have m:H'[b]?=aa (.box (xs.map (·.1)) 0):=by rw[u b M];exact hb
  simp[bh,m]
 have tk:∀j (h:j<xs.length),((xs.take (j+1)).map (·.2)).flatten=((xs.take j).map (·.2)).flatten++xs[j].2:=λj h=>by
  rw[List.take_add_one,List.getElem?_eq_getElem h];simp only[Option.toList_some,ahl,List.map_cons,List.map_nil,ahM,agG,List.flatten_nil,List.append_nil]
 have d_:∀j,((xs.take j).map (·.2)).flatten.length<=((xs.map (·.2)).flatten).length:=λj=>by
  conv=>rhs;rw[<-List.take_append_drop j xs,ahl,ahM,aft]
  omega
 have a_:∀j,cR sz ((xs.take j).map (·.2)).flatten:=λj r hr=>by
  obtain⟨l,hl,hr⟩:=List.mem_flatten.1 hr;obtain⟨x,d9,rfl⟩:=List.mem_map.1 hl;exact(hx x (ahn d9)).1 r hr
 refine de (H:=H) (args:=[.c (.sl b 0 xs.length xs.length 0 1)]) (C:=λr H'=>∃c,r=.c c/\LR H' c sz (xs.map (·.2)).flatten/\(∀i:Nat,i<H.length->H'[i]?=H[i]?)/\H.length<=H'.length/\∀i,bf c=aa i->H.length<=i) hT rfl λQ hQ=>?_;apply ai;simp;apply ai;simp;apply au;apply ai;simp[Z H λ_ _=>rfl];obtain⟨L,B⟩:∃L:Nat->Nat,∀j,L j=((xs.take j).map (·.2)).flatten.length:=⟨_,λ_=>rfl⟩
 have L0:L 0=0:=by rw[B];rfl
 have Ls:∀j (h:j<xs.length),L (j+1)=L j+xs[j].2.length:=λj h=>by rw[B,B,tk j h,aft]
 have Ll:∀j,L j<=((xs.map (·.2)).flatten).length:=λj=>by rw[B];exact d_ j
 have Le:L xs.length=((xs.map (·.2)).flatten).length:=by rw[B,agu]
 obtain⟨N,hN⟩:=aI (((xs.map (·.2)).flatten).length);rw[<-hN]at W d Ll Le;refine bS xs.length (λj t J=>J=H/\t.g 0=.c (.sl b 0 xs.length xs.length 0 1)/\t.g 9=.c (.sl b 0 xs.length xs.length 0 1)/\t.g 3=vi (L j)) ap ce ce bv bv ⟨rfl,bv,bv,by simp[L0]⟩ ?_ ?_
 .rintro j t J s ⟨rfl,g0,g9,g3⟩ I y next
  obtain⟨i1,X⟩:=Y J (λ_ _=>rfl) j s;obtain⟨h2,h3⟩:=(hx _ (IN s)).2 J λ_ _=>rfl;have h5:=Ls j s;have h6:=Ll (j+1);obtain⟨x,A⟩:=aI (xs[j]);rw[<-A]at X h2 h3 h5;refine ay ?_;apply ai;simp[I,g9,i1,X,-ax];apply ai;simp[g3,h2,aZ (n:=(L j:Int)+x.2.length)];apply ai;simp[show¬ (L j:Int)+x.2.length<0 by omega];exact aD bv (aR (av (next _ _ ⟨rfl,by simp[g0],by simp[g9],by simp[h5]⟩ (by simp[I]) (by simp[y]))))
 .rintro t J ⟨rfl,g0,g9,g3⟩ - -;obtain⟨r,H2,q,c0,rfl,b_,O,c_,c9⟩:=TT (H:=J) hG S hz N ap d;rw[Le]at g3;apply ai;simp[g3,q.eq];apply au;apply ai;simp[g0,Z H2 O];refine bS xs.length (λj t J'=>t.g 25=.c (.sl b 0 xs.length xs.length 0 1)/\∃c,t.g 6=.c c/\GR J' c sz N ((xs.take j).map (·.2)).flatten/\(∀i:Nat,i<J.length->J'[i]?=J[i]?)/\J.length<=J'.length/\∀i,bf c=aa i->J.length<=i) ap ce ce bv bv ⟨bv,c0,bv,by simpa using b_,O,c_,c9⟩ ?_ ?_
  .rintro j t J' s ⟨v,c,g6,g,u,hl,z⟩ I y next
   obtain⟨i1,X⟩:=Y J' u j s;obtain⟨h2,h3⟩:=(hx _ (IN s)).2 J' u;have q:=(hx _ (IN s)).1;have h5:=Ls j s;have h6:=Ll (j+1);have U:=tk j s;obtain⟨x,A⟩:=aI (xs[j]);rw[<-A]at X h2 h3 h5 U q;obtain⟨c',H',K,E,hs,f_,e_⟩:=g.app (bytes:=bytes) (a_ j) q S (by rw[<-B];omega) h3;rw[<-U]at E;refine ay ?_;apply ai;simp[I,v,i1,X,-ax];refine aq (.inl rfl) ?_;simp[g6,K];refine av (next _ _ ⟨by simp[v],c',bv,E,λi hi=>?_,ap,λi hi=>z i (by rw[<-hs];exact hi)⟩ (by simp[I]) (by simp[y]))
   grind
  .rintro t J' ⟨v,c,g6,g,u,hl,z⟩ - -;rw[agu,hN]at g;have hg:=a_ xs.length;rw[agu]at hg;apply ai;simp[g6];exact az (hQ _ _ (.c c) rfl (by simp[Km.results,bu]) ⟨c,rfl,g.lr hg,u,hl,z⟩)
end
end
section
set_option linter.unusedVariables false
def acn(sz bytes:Nat)(zs:List FC):aE:=.seq (yr [ym 17 0,ym 6 17]) .ret
def YE(sz bytes:Nat)(zs:List FC):aE:=.seq (yr [ym 32 0,ym 6 32]) .ret
def YD(sz bytes:Nat)(zs:List FC):aE:=.seq (yr [ym 27 0,ym 28 0,yn 29 (.len (R 28)),ym 30 7,yn 31 (.slice sz (R 27) (aa (R 29)) (aa (R 30)) ab),⟨ab,.clear sz zs (R 31),ab⟩]) (YE sz bytes zs)
def YC(sz bytes:Nat)(zs:List FC):aE:=.seq (yr [ym 20 0,ym 21 1,yn 22 (.slice sz (R 20) ab (aa (R 21)) ab),ym 23 0,ym 24 2,yn 25 (.slice sz (R 23) (aa (R 24)) ab ab),yn 26 (.append sz bytes (R 22) (R 25)),ym 0 26]) (YD sz bytes zs)
def YB(sz bytes:Nat)(zs:List FC):aE:=.seq (yr [ym 18 0,yn 19 (.len (R 18)),ym 7 19]) (YC sz bytes zs)
def acm(sz bytes:Nat)(zs:List FC):aE:=.seq (.seq (yr [ym 14 1,ym 15 2,yb 16 .eql 14 15]) (.cond (R 16) (acn sz bytes zs) .skip)) (YB sz bytes zs)
def ack(sz bytes:Nat)(zs:List FC):aE:=.seq (yr [ym 8 0,ym 9 1,ym 10 2,ym 11 0,yn 12 (.len (R 11)),yn 13 (.slice sz (R 8) (aa (R 9)) (aa (R 10)) (aa (R 12)))]) (acm sz bytes zs)
def acj(sz bytes:Nat)(zs:List FC):aE:=.seq (yr [yn 6 (.iV (.k (.c (.f .aJ))))]) (ack sz bytes zs)
def YA(sz bytes:Nat)(zs:List FC):aM:=⟨[P.nat 0,P.nat 1,P.nat 2],[.tmp (P.nat 6)],(acj sz bytes zs)⟩
section
variable{tab:TB}{F sz bytes:Nat}{zs:List FC}{H:an}
theorem DM(y:tab F=aa (YA sz bytes zs)){c b:C}{j n:Nat}{E s v3 v5:V}{d g:an}(I:j<n)(J:n<=1000000)(l:bh H c=aa n)(m:cu H sz (.c c) (aa (vi j)) (aa (vi (j+1:Nat))) (aa (vi n))=aa E)
  (A:cu H sz (.c c) ab (aa (vi j)) ab=aa s) (q:cu H sz (.c c) (aa (vi (j+1:Nat))) ab ab=aa v3) (u:bT H sz bytes s v3=aa (.c b,d)) (z:bh d b=aa (n-1)) (B:cu d sz (.c b) (aa (vi (n-1:Nat))) (aa (vi n)) ab=aa v5) (cl:ng d sz zs v5=aa g) :
  ∃r H',Ev tab (.fn F) [.c c,vi j,vi (j+1:Nat)] H r H'/\(r=.c b/\H'=g):=by
 refine de (H:=H) (args:=[.c c,vi j,vi (j+1:Nat)]) (C:=λr H'=>r=.c b/\H'=g) y rfl λQ x=>?_;apply ai;simp;have v:((j+1:Nat):Int)=(j:Int)+1:=by omega
 rw[v]at m q;apply ai;simp[l,m];apply au;apply ai;simp[show¬ (j:Int)=(j:Int)+1 by omega];refine bE bv ?_;apply ai;simp[l];apply ai;simp[A,q,u];apply ai;simp[z,B,cl];apply ai;simp;exact az (x _ _ _ rfl (dy bv) ⟨rfl,rfl⟩)
def vn(sz:Nat)(rows:List (List C)):Prop:=∀r∈rows,r.length=sz
theorem dT{sz:Nat}:∀{rows:List (List C)},vn sz rows->rows.flatten.length=rows.length*sz
 |[],_=>by simp
 |r::g,h=>by
  have d:=dT (rows:=g) λx b=>h x (agr _ b);rw[agG,aft,d,h r ago,List.length_cons,Nat.succ_mul,Nat.add_comm]
theorem xN{sz:Nat}:∀{rows:List (List C)} (k:Nat),vn sz rows->rows.flatten.take (k*sz)=(rows.take k).flatten
 |[],_,_=>by simp
 |r::b,0,_=>by simp
 |r::b,k+1,h=>by
  have j:=xN (rows:=b) k λx g=>h x (agr _ g);have d:=h r ago;rw[agG,List.take_succ_cons,agG,List.take_append,d,Nat.succ_mul,Nat.add_sub_cancel,j,agw ap]
theorem ov{sz:Nat}:∀{rows:List (List C)} (k:Nat),vn sz rows->rows.flatten.drop (k*sz)=(rows.drop k).flatten
 |[],_,_=>by simp
 |r::b,0,_=>by simp
 |r::b,k+1,h=>by
  have j:=ov (rows:=b) k λx g=>h x (agr _ g);have d:=h r ago;rw[agG,List.drop_succ_cons,List.drop_append,d,Nat.succ_mul,Nat.add_sub_cancel,j,List.drop_of_length_le ap,List.nil_append]
theorem Ew(A D ys:List C):over (A++D) A.length ys=A++ys++D.drop ys.length:=by
 simp
theorem Av{sz j n:Nat}{rows:List (List C)}{rest ys:List C}(d:vn sz rows)(m:rows.length=n)(H:j<n)(E:ys.length=sz):∃b,over (over (rows.flatten++rest) (j*sz) (rows.drop (j+1)).flatten) ((n-1)*sz) ys=(rows.eraseIdx j).flatten++b/\((rows.eraseIdx j).flatten++b).length=(rows.flatten++rest).length:=by
 have g:(rows.drop (j+1)).flatten.length=(n-(j+1))*sz:=by
  rw[dT λr s=>d r (ahd s),agF,m]
 have B:(rows.take j).flatten.length=j*sz:=by
  rw[dT λr s=>d r (ahn s),agO,m,Nat.min_eq_left ap]
 have l:=dT d;have z:rows.eraseIdx j=rows.take j++rows.drop (j+1):=List.eraseIdx_eq_take_drop_succ _ _;obtain⟨q,A⟩:∃q,n=j+1+q:=⟨n-j-1,ap⟩
 subst A;have u:(j+1+q-(j+1))*sz=q*sz:=by congr 1;omega
 have v:(j+1+q-1)*sz=j*sz+q*sz:=by rw[<-agS];congr 1;omega
 have x:(j+1+q)*sz=j*sz+sz+q*sz:=by rw[agS,agS,Nat.one_mul]
 rw[m,x]at l;rw[u]at g;have F:over (rows.flatten++rest) (j*sz) (rows.drop (j+1)).flatten=(rows.take j).flatten++(rows.drop (j+1)).flatten++(rows.flatten++rest).drop (j*sz+q*sz):=by
  simp only[over,g];rw[ahq ap,xN j d]
 have y:((rows.take j).flatten++(rows.drop (j+1)).flatten).length=j*sz+q*sz:=by rw[aft,B,g]
 refine⟨ys++((rows.flatten++rest).drop (j*sz+q*sz)).drop sz,?_,?_⟩
 .rw[F,v,z,ahM];rw[<-y,Ew,E,List.append_assoc _ ys]
 .grind
theorem Ar{n k:Nat}(m:Nat)(h:k<=m):cz n m ab (aa (vi k)) ab=aa (0,k,m):=by simp[cz,gS h]
theorem pB{n m k:Nat}(h:k<=n):cz n m (aa (vi k)) ab ab=aa (k,n,m):=by simp[cz,gS h]
theorem Aq{n m j k:Nat}(h:j<=k)(b:k<=m):cz n m (aa (vi j)) (aa (vi k)) ab=aa (j,k,m):=by simp[cz,gS h,gS b]
theorem xq{n m j k l:Nat}(h:j<=k)(b:k<=l)(d:l<=m):cz n m (aa (vi j)) (aa (vi k)) (aa (vi l))=aa (j,k,l):=by simp[cz,gS h,gS b,gS d]
theorem Tx(S:tab F=aa (YA sz bytes zs))(I:0<sz)(J:zs.length=sz){b cap j:Nat}{rows:List (List C)}{rest:List C}(z:vn sz rows)(m:H[b]?=aa (.box (rows.flatten++rest) 0))(x:(rows.flatten++rest).length=cap*sz)(B:j<rows.length)(k:cap<=1000000) :
  ∃r H',Ev tab (.fn F) [.c (.sl b 0 rows.length cap 0 sz),vi j,vi (j+1:Nat)] H r H'/\(r=.c (.sl b 0 (rows.length-1) cap 0 sz)/\∃d,H'=H.set b (.box ((rows.eraseIdx j).flatten++d) 0)/\((rows.eraseIdx j).flatten++d).length=cap*sz):=by
 obtain⟨n,u⟩:=aI (rows.length);have y:=dT z;rw[<-u]at B y ⊢;have s:n<=cap:=by
  rw[aft,y]at x;exact Nat.le_of_mul_le_mul_right (show n*sz<=cap*sz by omega) I
 have N:n*sz<=cap*sz:=ag9 sz s;have h:(rows.drop (j+1)).flatten.length=(n-(j+1))*sz:=by
  rw[dT λr E=>z r (ahd E),agF,u]
 obtain⟨d,O,Z⟩:=Av (ys:=zs.map C.f) (rest:=rest) z u.symm B (by rw[agq,J]);have W:j*sz+(n-(j+1))*sz<=n*sz:=by rw[<-agS];exact ag9 sz ap
 have Y:(n-1)*sz+sz<=n*sz:=by
  have:(n-1+1)*sz=n*sz:=by congr 1;omega
  grind
 obtain⟨g,q⟩:=aI (over (rows.flatten++rest) (j*sz) (rows.drop (j+1)).flatten);have X:g.length=cap*sz:=by
  rw[q];simp only[over,aft,agO,agF]
  grind
 rw[<-q]at O;have l:(H.set b (.box g 0))[b]?=aa (.box g 0):=BY (aj m);have K:∃v3,cu H sz (.c (.sl b 0 n cap 0 sz)) (aa (vi (j+1:Nat))) ab ab=aa v3/\dG H sz v3=aa (n-(j+1),(rows.drop (j+1)).flatten):=by
  simp only[cu,m,pB (show j+1<=n by omega)];by_cases L:cap=j+1
  .rw[bZ L];refine⟨_,rfl,?_⟩;have:rows.drop (j+1)=[]:=List.drop_of_length_le ap;rw[this,show n-(j+1)=0 by omega];rfl
  .rw[ct L];refine⟨_,rfl,?_⟩;have hs:bh H (.sl b (0+(j+1)*sz) (n-(j+1)) (cap-(j+1)) 0 sz)=aa (n-(j+1)):=by simp[bh,m]
   have U:(j+1)*sz+(n-(j+1))*sz=n*sz:=by rw[<-agS];congr 1;omega
   have A:dg H sz (.sl b (0+(j+1)*sz) (n-(j+1)) (cap-(j+1)) 0 sz)=aa (rows.drop (j+1)).flatten:=by
    simp only[dg,m];have M:(rows.flatten++rest).length=rows.flatten.length+rest.length:=aft;have e:((rows.flatten++rest).drop (0+(j+1)*sz)).take ((n-(j+1))*sz)=(rows.drop (j+1)).flatten:=by
     rw[ahg,ahS ap,ahq (by rw[agF];omega),ov (j+1) z,agw ap]
    simp_all
   simp only[dG,hs,A]
 obtain⟨v3,K,v⟩:=K;have c:cu H sz (.c (.sl b 0 n cap 0 sz)) ab (aa (vi j)) ab=aa (.c (.sl b 0 j cap 0 sz)):=by
  simp only[cu,m,Ar cap (show j<=cap by omega)]
  grind
 have a:cu H sz (.c (.sl b 0 n cap 0 sz)) (aa (vi j)) (aa (vi (j+1:Nat))) (aa (vi n))=aa (.c (.sl b (0+j*sz) (j+1-j) (n-j) 0 sz)):=by
  simp only[cu,m,xq (show j<=j+1 by omega) (show j+1<=n by omega) s]
  grind
 have Q:bT H sz bytes (.c (.sl b 0 j cap 0 sz)) v3=aa (.c (.sl b 0 (n-1) cap 0 sz),H.set b (.box g 0)):=by
  simp only[bT,v,m]
  grind
 have f:cu (H.set b (.box g 0)) sz (.c (.sl b 0 (n-1) cap 0 sz)) (aa (vi (n-1:Nat))) (aa (vi n)) ab=aa (.c (.sl b (0+(n-1)*sz) (n-(n-1)) (cap-(n-1)) 0 sz)):=by
  simp only[cu,l,Aq (show n-1<=n by omega) s]
  grind
 have cl:ng (H.set b (.box g 0)) sz zs (.c (.sl b (0+(n-1)*sz) (n-(n-1)) (cap-(n-1)) 0 sz))=aa (H.set b (.box ((rows.eraseIdx j).flatten++d) 0)):=by
  have hs:bh (H.set b (.box g 0)) (.sl b (0+(n-1)*sz) (n-(n-1)) (cap-(n-1)) 0 sz)=aa 1:=by simp[bh,l];omega
  simp only[ng,hs,J,if_true,l];have E:dJ 1 zs=zs:=by simp[dJ]
  rw[E];simp only[cY,l,agq,J,ahg];rw[bZ ⟨ahN _,ap⟩,O,List.set_set]
 obtain⟨r,H',i,rfl,rfl⟩:=DM S B ap (by simp[bh,m]) a c K Q (by simp[bh,l]) f cl
 grind
theorem Ty(X:tab F=aa (YA sz bytes zs))(O:0<sz)(Q:zs.length=sz){b d j:Nat}{rows:List (List C)}{rest:List C}(A:vn sz rows)(l:H[b]?=aa (.dj sz (rows.flatten++rest) 0 d .loc))(I:j<rows.length)(c:0<j)(U:rows.length<=1000000) :
  ∃r H',Ev tab (.fn F) [.c (.sl b 0 rows.length 0 d sz),vi j,vi (j+1:Nat)] H r H'/\(r=.c (.sl b 0 (rows.length-1) 0 d sz)/\∃g,H'[b]?=aa (.dj sz ((rows.eraseIdx j).flatten++g) 0 d .loc)/\H'.length=H.length/\∀i:Nat,i≠b->H'[i]?=H[i]?):=by
 obtain⟨n,v⟩:=aI (rows.length);have E:=dT A;rw[<-v]at I E U ⊢;have hd:(rows.drop (j+1)).flatten.length=(n-(j+1))*sz:=by
  rw[dT λr N=>A r (ahd N),agF,v]
 obtain⟨g,o,p⟩:=Av (ys:=zs.map C.f) (rest:=rest) A v.symm I (by rw[agq,Q]);have f:j*sz+(n-(j+1))*sz<=n*sz:=by rw[<-agS];exact ag9 sz ap
 have k:(n-1)*sz+sz<=n*sz:=by
  have:(n-1+1)*sz=n*sz:=by congr 1;omega
  grind
 have h:j*sz+sz<=n*sz:=by rw[<-Nat.succ_mul];exact ag9 sz ap
 obtain⟨s,u⟩:=aI (over (rows.flatten++rest) (j*sz) (rows.drop (j+1)).flatten);have z:(rows.flatten++rest).length=rows.flatten.length+rest.length:=aft;have K:s.length=(rows.flatten++rest).length:=by
  rw[u];simp only[over,aft,agO,agF];omega
 rw[<-u]at o;have S:∃v3 q,cu H sz (.c (.sl b 0 n 0 d sz)) (aa (vi (j+1:Nat))) ab ab=aa v3/\bT H sz bytes (.c (.sl b 0 j 0 d sz)) v3=aa (.c (.sl b 0 (n-1) 0 d sz),q)/\q[b]?=aa (.dj sz s 0 d .loc)/\q.length=H.length/\∀i:Nat,i≠b->q[i]?=H[i]?:=by
  by_cases hc:j+1=n
  .refine⟨.c (.f (.fs [] 0)),H,?_,?_,?_,rfl,λ_ _=>rfl⟩
   .simp only[cu,l,and_self,if_true,pB (show j+1<=n by omega)]
    grind
   .have Y:dG H sz (.c (.f (.fs [] 0)))=aa (0,[]):=by simp[dG,bh,dg]
    simp only[bT,Y,l,and_self,if_true]
    grind
   .simp_all
  .have hs:bh H (.sl b (0+(j+1)*sz) (n-(j+1)) 0 d sz)=aa (n-(j+1)):=by simp[bh,l]
   have a:(j+1)*sz+(n-(j+1))*sz=n*sz:=by rw[<-agS];congr 1;omega
   have B:dg H sz (.sl b (0+(j+1)*sz) (n-(j+1)) 0 d sz)=aa (rows.drop (j+1)).flatten:=by
    have e:((rows.flatten++rest).drop (0+(j+1)*sz)).take ((n-(j+1))*sz)=(rows.drop (j+1)).flatten:=by
     rw[ahg,ahS ap,ahq (by rw[agF];omega),ov (j+1) A,agw ap]
    simp only[dg,l,e];simp_all
   have x:dG H sz (.c (.sl b (0+(j+1)*sz) (n-(j+1)) 0 d sz))=aa (n-(j+1),(rows.drop (j+1)).flatten):=by simp only[dG,hs,B]
   refine⟨.c (.sl b (0+(j+1)*sz) (n-(j+1)) 0 d sz),H.set b (.dj sz s 0 d .loc),?_,?_,BY (aj l),bv,λi hi=>by rw[sh (Ne.symm hi)]⟩
   .simp only[cu,l,and_self,if_true,pB (show j+1<=n by omega)];simp_all
   .simp only[bT,x,l,and_self,if_true]
    grind
 obtain⟨v3,q,S,W,m,L,J⟩:=S;have w:cu H sz (.c (.sl b 0 n 0 d sz)) ab (aa (vi j)) ab=aa (.c (.sl b 0 j 0 d sz)):=by
  simp only[cu,l,and_self,if_true,Ar n (show j<=n by omega)];simp
 have t:cu H sz (.c (.sl b 0 n 0 d sz)) (aa (vi j)) (aa (vi (j+1:Nat))) (aa (vi n))=aa (.c (.sl b 0 0 0 d (sz+1))):=by
  simp only[cu,l,and_self,if_true,xq (show j<=j+1 by omega) (show j+1<=n by omega) (agn n)]
  grind
 have s5:cu q sz (.c (.sl b 0 (n-1) 0 d sz)) (aa (vi (n-1:Nat))) (aa (vi n)) ab=aa (.c (.sl b (0+(n-1)*sz) (n-(n-1)) 0 d sz)):=by
  have M:cz (n-1) (n-1) (aa (vi (n-1:Nat))) (aa (vi n)) ab=ab:=by
   have:Dx (vi (n:Nat)) (n-1)=ab:=by simp[Dx,fG];omega
   simp[cz,this]
  have y:n<=(s.length-0) / sz:=by rw[Nat.le_div_iff_mul_le O,Nat.sub_zero,K,z];omega
  simp only[cu,m,and_self,if_true,M,Aq (show n-1<=n by omega) y]
  grind
 have cl:ng q sz zs (.c (.sl b (0+(n-1)*sz) (n-(n-1)) 0 d sz))=aa (q.set b (.dj sz ((rows.eraseIdx j).flatten++g) 0 d .loc)):=by
  have hs:bh q (.sl b (0+(n-1)*sz) (n-(n-1)) 0 d sz)=aa 1:=by simp[bh,m];omega
  have N:dJ 1 zs=zs:=by simp[dJ]
  simp only[ng,hs,Q,if_true,m,and_self,N];simp only[bw,m,ahN,true_and,agq,Q,ahg]
  grind
 obtain⟨r,H',Z,rfl,rfl⟩:=DM X I U (by simp[bh,l]) t w S W (by simp[bh,m]) s5 cl;exact⟨_,_,Z,rfl,g,BY (by have:=aj l;omega),by simp[L],λi hi=>by rw[sh (Ne.symm hi),J i hi]⟩
end
end
section
variable(Q:Program)(pr:Nat)(hs:List Nat)
def T2(f:Nat):Nat:=if f=pr then uF else f
def IU(f:Nat):FuncId:=if f=uF then pr else f
def kV1:Value->Option FC
 | .bool b=>aa (.bool b)| .int k n=>aa (.int k n)| .string s=>aa (.str s)| .pointer ab=>aa .ye| .slice ab 0 0=>aa .aJ| .map ab=>aa .zy| .nilFunc=>aa .vX| .nilIface=>aa .rQ| _=>ab
def kV:Value->Option V
 | .agg cs=>(bu kV1 cs.toList).map λxs=>.a (xs.map .f)
 | .tuple cs=>if cs.isEmpty then aa .top else ab| v=>(kV1 v).map λx=>.c (.f x)
def kA:Operand->Option Arg
 | .tmp t=>aa (.r (.nat t))| .const v=>(kV v).map .k| .func f=>aa (.k (.c (.f (.fn (T2 pr f) []))))| _=>ab
def kO:Option Operand->Option (Option Arg)
 |none=>aa ab| some x=>(kA pr x).map aa
def GL(t:TypeId):Option Nat:=(Q.info? t).map (·.size)
def kBy(t:TypeId):Option Nat:=(Q.info? t).map (·.bytes)
def kZ(t:TypeId):Option (List FC):=do bu kV1 (<-(<-Q.info? t).zero).cells.toList
def kAg(t:TypeId):Option (Option Nat):=match Q.underlying t with
 |some (.struct _)|some (.array _ _)=>(GL Q t).map aa| some _=>aa ab| none=>ab
def kCK(t:TypeId):Option CK:=match Q.underlying t with
 |some (.int _)=>aa .int| some .string=>aa .str| some .bool=>aa .bool| _=>ab
def kEq(t:TypeId):Option MX:=match Q.underlying t with
 |some .bool=>aa .bool| some (.pointer _)=>aa .ptr| some (.slice _)=>aa .sl| some (.func _ _ _)=>aa .fn| some (.interface _)=>aa .Z5| some (.struct _)=>(jX Q 20 t).map .st| _=>ab
def acE(c:Call):Option dW:=
 let A:=kA pr
 let u:=Q.underlying (c.argTypes.getD 0 0)
 let x:=A (c.args.getD 0 default)
 match c.callee with
 | .builtin .len=>match u with
  |some (.slice _)=>do pure (.len (<-x))
  |some .string=>do pure (.lens (<-x))
  |some (.array n _)=>aa (.qZ n)| _=>ab
 | .builtin .append=>match u,Q.underlying (c.argTypes.getD 1 0)with
  |some (.slice e),aa (.int _)=>do pure (.rD (<-GL Q e) (<-kBy Q e) (<-kZ Q e) (<-x) (<-A (c.args.getD 1 default)))
  |some (.slice e),_=>do pure (.append (<-GL Q e) (<-kBy Q e) (<-x) (<-A (c.args.getD 1 default)))
  |_,_=>ab
 | .builtin .max=>do pure (.tj ag (<-bu A c.args.toList))
 | .builtin .min=>do pure (.tj ae (<-bu A c.args.toList))
 | .builtin .cap=>do pure (.cap (<-x))
 | .builtin .clear=>match u with
  |some (.slice e)=>do pure (.clear (<-GL Q e) (<-kZ Q e) (<-x))
  |_=>ab
 | .builtin .recover=>aa .recover| .value (.func f)=>do pure (.call (T2 pr f) (<-bu A c.args.toList) (hs.contains f))
 | .value y=>do pure (.jc (<-A y) (<-bu A c.args.toList) ae)
 |_=>ab
def kOp(o:Op):Option dW:=
 let A:=kA pr
 let U:=Q.underlying
 let ps (l:Array (Nat × Operand)):=bu (λp:Nat × Operand=>(A p.2).map λx=>(p.1,x)) l.toList
 match o with
 | .move x| .assign x=>do pure (.iV (<-A x))
 | .pick c a b=>do pure (.pick (<-A c) (<-A a) (<-A b))
 | .alloc t=>do pure (.alloc (<-kZ Q t))
 | .box _ x=>do pure (.box (<-A x))
 | .build t l=>match U t with
  |some (.struct j)=>do pure (.build (<-kZ Q t) (<-bu (λp:Nat × Operand=>do
    let f <-j[p.1]?
    pure (f.offset,<-GL Q f.type,<-A p.2)) l.toList))
  |some (.array _ e)=>do
    let s <-GL Q e
    pure (.build (<-kZ Q t) (<-bu (λp:Nat × Operand=>do pure (p.1*s,s,<-A p.2)) l.toList))
  |_=>ab
 | .buildSlice t n l=>match U t with
  |some (.slice e)=>do pure (.ft (<-GL Q e) (<-kZ Q e) n (<-ps l))
  |_=>ab
 | .load t x=>do pure (.load (<-kAg Q t) (<-A x))
 | .store t x y=>do pure (.store (<-GL Q t) (<-A x) (<-A y))
 | .nilCheck x=>do pure (.nq (<-A x))
 | .binOp op t x y _=>do
  let a <-A x
  let b <-A y
  pure (match if op=.eql\/op=.neq then kEq Q t else ab with
  |some k=>.eq (op=.neq) k a b
  |none=>.bin op a b)
 | .unOp op _ x=>do pure (.un op (<-A x))
 | .convert s d x=>match U s,U d with
  |some (.int _),aa (.int k)=>do pure (.Qo k (<-A x))
  |some .string,aa .string=>do pure (.Gm (<-A x))
  |some (.slice _),aa .string=>do pure (.DL (<-A x))
  |_,_=>ab
 | .makeFunc (.func f) fst g=>if fst.isEmpty then do pure (.zx (T2 pr f) (<-bu A g.toList))else do pure (.zw (T2 pr f) (<-bu A fst.toList))
 | .makeMap _ ab=>aa .oS
 | .makeSlice t l c=>match U t with
  |some (.slice e)=>do pure (.fI (<-GL Q e) (<-kBy Q e) (<-kZ Q e) (<-A l) (<-A c))
  |_=>ab
 | .slice t x lo hi mx=>match U t with
  |some (.slice e)=>match lo,hi,mx with
   |none,aa hi,aa mx=>do pure (.yT (<-GL Q e) (<-A x) (<-A hi) (<-A mx))
   |_,_,_=>do pure (.slice (<-GL Q e) (<-A x) (<-kO pr lo) (<-kO pr hi) (<-kO pr mx))
  |some .string=>do pure (.vQ (<-A x) (<-kO pr lo) (<-kO pr hi))
  |some (.array n e)=>do pure (.tH n (<-GL Q e) (<-A x) (<-kO pr lo) (<-kO pr hi) (<-kO pr mx))
  |_=>ab
 | .fieldAddr t x i=>match U t with
  |some (.struct j)=>do pure (.mj (<-j[i]?).offset (<-A x))
  |_=>ab
 | .field t x i=>match U t with
  |some (.struct j)=>do
   let f <-j[i]?
   pure (.field f.offset (<-kAg Q f.type) (<-A x))
  |_=>ab
 | .indexAddr t x i=>match U t with
  |some (.slice e)=>do pure (.eZ (<-GL Q e) ab (<-A x) (<-A i))
  |some (.array n e)=>do pure (.eZ (<-GL Q e) (aa n) (<-A x) (<-A i))
  |_=>ab
 | .index t x i=>match U t with
  |some .string=>do pure (.idxs (<-A x) (<-A i))
  |some (.array n e)=>do pure (.D3 n (<-GL Q e) (<-kAg Q e) (<-A x) (<-A i))
  |_=>ab
 | .lookup t m k ok=>match U t with
  |some (.map kt e)=>do
   let zs <-kZ Q e
   let z <-match <-kAg Q e,zs with
    |some _,_=>aa (FC.fn zm zs)| none,[z]=>aa z| _,_=>ab
   pure (.lookup (<-kCK Q kt) (if ok then .fp [z] 77 else z) (<-A m) (<-A k))
  |_=>ab
 | .mapUpdate t m k v=>match U t with
  |some (.map kt _)=>do pure (.pO (<-kCK Q kt) (<-A m) (<-A k) (<-A v))
  |_=>ab
 | .range t x=>match U t with
  |some .string=>do pure (.range (<-A x))
  |some (.map _ _)=>do pure (.mq (<-A x))
  |_=>ab
 | .next x s=>(A x).map (if s then .next else .pS)| .extract x i=>do pure (.extract (<-A x) i)
 | .entry x=>do pure (.entry (<-A x))
 | .call c=>acE Q pr hs c
 | .defer c=>match c.callee with
  | .value x=>do pure (.defer (<-A x) (<-bu A c.args.toList))
  |_=>ab
 |_=>ab
def ae6(ops:Array Oper):List ba:=ops.toList.map λo=>
 ⟨o.dst.map .nat,(kOp Q pr hs o.op).getD .bad,match o.guard with
  |some (j,w)=>((ops[j]?).bind (·.dst)).map λd=>(.nat d,w)
  |none=>ab⟩
def ae5(ops:Array Oper)(aos:List ba)(b:Bool):List (Nat × Nat):=
 if !b then []else
 let d:=eL ops.toList []
 (List.range aos.length).flatMap λi=>match aos[i]? with
  |some x=>if cls x.op=.r then((oK aos++[aos.length]).filter λe=>!(e == phase aos i||!Ee d aos i e)).map λe=>(i,e)else []
  |none=>[]
def T3(n i:Nat)(ops:Array Oper)(b:Bool)(aos:List ba)(d:aE):aE:=
 let c:=.region aos (ae5 ops aos b)
 if cJ Q (IU pr) n (.region i ops b) c then c else d
def kC(n:Nat):Code->aE
 | .skip=>.skip
 | .region i ops d=>let aos:=ae6 Q pr hs ops
  T3 Q pr n i ops d aos (T3 Q pr n i ops d (aos.map λa=>match a.op with| .ft s z n ps=>{ a with op:=.kY s z n ps } | _=>a) .bad)
 | .seq a b=>.seq (kC n a) (kC n b)
 | .cond c a b=>match kA pr c with
  |some j=>if mA (IU pr) j c then .cond j (kC n a) (kC n b)else .bad| none=>.bad
 | .block i a=>.block i (kC n a)| .loop a=>.loop (kC n a)
 | .rangeFunc f ps a b=>match kA pr f with
  |some m=>let g:=ps.toList.map .nat
   if mA (IU pr) m f&&iy (λp (q:P)=>q.toNat == p&&decide (p<n)) ps.toList g then .oE m g (kC n a) (kC n b)else .bad
  |none=>.bad
 | .exit i=>.exit i| .ret=>.ret
 | .scope a=>let a':=kC n a
  if mY a' then .scope a' else .bad
 | .label l=>.label l| .goto l=>.goto l| .refuse _=>.bad
def kF(f:Func):Option aM:=f.body.bind λb=>
 let rs:=f.results.toList.map fun| .tmp t=>ku.tmp (.nat t)| .cell a t=>.cell (.nat a) ((kAg Q t).getD ab)
 if f.name != "runtime.NumGoroutine"&&iy (zv Q f.ntmps) f.results.toList rs then aa ⟨(List.range (f.params.size+f.nfree)).map .nat,rs,kC Q pr hs f.ntmps b⟩else ab
def kT(f:Nat):Option aM:=if f=uF then ab else(Q.funcs[f]?).bind (kF Q pr hs)
theorem IV{n i:Nat}{ops:Array Oper}{b:Bool}{aos:List ba}{d:aE}(h:cJ Q (IU pr) n (.region i ops b) d=ae):cJ Q (IU pr) n (.region i ops b) (T3 Q pr n i ops b aos d)=ae:=by
 unfold T3;dsimp only;split<;>assumption
theorem P_{n:Nat}{c:Code}:cJ Q (IU pr) n c .bad=ae:=by cases c<;>rfl
theorem sY(n:Nat):∀c:Code,cJ Q (IU pr) n c (kC Q pr hs n c)=ae
 | .skip| .exit _| .ret| .label _| .goto _=>by simp[kC,cJ]
 | .refuse _=>P_ Q pr| .region i ops d=>IV Q pr (IV Q pr (P_ Q pr))| .seq a b=>by simp[kC,cJ,sY n a,sY n b]
 | .cond c a b=>by
  unfold kC;split
  .split
   .simp[cJ,sY n a,sY n b, *]
   .rfl
  .rfl
 | .block i a| .loop a=>by simp[kC,cJ,sY n a]
 | .rangeFunc f ps a b=>by
  unfold kC;split
  .dsimp only;split
   .rename_i h;simp only[IS]at h;simp only[cJ,sY n a,sY n b,h.1,h.2,Bool.and_self]
   .rfl
  .rfl
 | .scope a=>by
  unfold kC;dsimp only;split
  .simp[cJ,sY n a, *]
  .rfl
theorem acF{f:Func}{a:aM}(h:kF Q pr hs f=aa a):AW Q (IU pr) f a=ae:=by
 unfold kF at h;rw[agR]at h;obtain⟨b,g,h⟩:=h;dsimp only at h;split at h
 .rename_i d;cases h;simp only[IS]at d;simp only[AW,g,sY,d.1,d.2,Bool.and_self,Bool.true_and,decide_eq_true_eq,List.map_map,agq,List.length_range];refine(List.map_congr_left λn _=>uO n).trans (List.map_id _)
 .cases h
theorem Vr{f:Nat}{a:aM}(h:kT Q pr hs f=aa a):∃fn,Q.funcs[IU pr f]?=aa fn/\AW Q (IU pr) fn a=ae:=by
 unfold kT at h;split at h
 .cases h
 .rename_i g;rw[agR]at h;obtain⟨fn,b,d⟩:=h;exact⟨fn,by rw[IU,ct g];exact b,acF Q pr hs d⟩
inductive LT where
 |e
 |n (l:LT) (k:Nat) (a:aM) (r:LT)
def LT.get:LT->Nat->Option aM
 | .e,_=>ab| .n l k a r,f=>bif Nat.beq f k then aa a else bif Nat.ble f k then l.get f else r.get f
inductive LT.U1:LT->Prop
 |e:LT.U1 .e
 |n {l:LT} {k:Nat} {a:aM} {r:LT} (hl:LT.U1 l) (h:kT Q pr hs k=aa a) (hr:LT.U1 r):LT.U1 (.n l k a r)
theorem LT.U1.get:∀{t:LT} {f:Nat} {a:aM},LT.U1 Q pr hs t->t.get f=aa a->kT Q pr hs f=aa a
 | .e,_,_,_,h=>by cases h
 | .n l k b r,f,a,.n hl m j,h=>by
  unfold LT.get at h;cases g:Nat.beq f k with
  |true=>
   simp_all
  |false=>
   rw[g]at h;cases d:Nat.ble f k with
   |true=>rw[d]at h;exact hl.get h| false=>rw[d]at h;exact j.get h
end
def LT.fn(t:LT)(Q:Program)(pr:Nat)(hs:List Nat)(f:Nat):Option aM:=match t.get f with
 |some a=>aa a| none=>kT Q pr hs f
def LT.tb(t:LT)(Q:Program)(pr:Nat)(hs:List Nat):TB where
 get:=t.fn Q pr hs
 Fh:=λf args H=>match t.fn Q pr hs f with
  |some _=>ab| none=>Km.Fh f args H
 ok:=λf a h args H=>by simp[h]
theorem LT.env{t:LT}{Q:Program}{pr:Nat}{hs:List Nat}(h:LT.U1 Q pr hs t)(d:Q.follows .mixedOrders=ae)(g:F7 Q (IU pr) Km.Fh):Env Q (IU pr) (t.tb Q pr hs).get (t.tb Q pr hs).Fh:=by
 refine⟨d,λf a b=>?_,λf args H r H' b=>?_⟩
 .have b:t.fn Q pr hs f=aa a:=b;unfold LT.fn at b;split at b
  .rename_i e;cases b;exact Vr _ _ _ (h.get _ _ _ e)
  .exact Vr _ _ _ b
 .have b:(match t.fn Q pr hs f with
  |some _=>ab
  |none=>Km.Fh f args H)=aa (aa (r,H')):=b
  split at b
  .cases b
  .exact g f args H r H' b
theorem Y_:∀(k n:Nat),n<=k->P.mG (k+1) (2*n+1)=.o (P.mG k n):=λk n h=>by
 rw[P.mG,ct ap,bZ ap,show(2*n+1-1) / 2=n by omega]
theorem Y9:∀(k n:Nat),n<=k->P.mG (k+1) (2*n+2)=.i (P.mG k n):=λk n h=>by
 rw[P.mG,ct ap,ct ap,show(2*n+2-2) / 2=n by omega]
theorem uN:∀(k n:Nat),n<=k->P.mG (k+1) n=P.mG k n
 |0,n,h=>by
  obtain rfl:n=0:=by omega
  rfl
 |k+1,n,h=>by
  show(if n=0 then P.h else if n % 2=1 then .o (P.mG (k+1) ((n-1) / 2))else .i (P.mG (k+1) ((n-2) / 2)))=(if n=0 then P.h else if n % 2=1 then .o (P.mG k ((n-1) / 2))else .i (P.mG k ((n-2) / 2)));rw[uN k ((n-1) / 2) ap,uN k ((n-2) / 2) ap]
theorem xZ:∀(j k n:Nat),n<=k->P.mG (k+j) n=P.mG k n
 |0,_,_,_=>rfl| j+1,k,n,h=>by rw[<-Nat.add_assoc,uN _ _ ap,xZ j k n h]
theorem Po(n:Nat):P.o (P.nat n)=P.nat (2*n+1):=by
 unfold P.nat;rw[show P.mG (2*n+1) (2*n+1)=P.mG (2*n+1) (2*n+1) from rfl,Y_ (2*n) n ap,show 2*n=n+n by omega,xZ n n n (agn _)]
theorem Pi(n:Nat):P.i (P.nat n)=P.nat (2*n+2):=by
 unfold P.nat;rw[Y9 (2*n+1) n ap,show 2*n+1=n+(n+1) by omega,xZ (n+1) n n (agn _)]
theorem Ph:P.h=P.nat 0:=rfl
theorem Rr(n:Nat):Arg.r (P.nat n)=R n:=rfl
theorem Dd(n:Nat):aa (P.nat n)=D n:=rfl
theorem Gg(n:Nat)(b:Bool):aa (P.nat n,b)=G n b:=rfl
def bL(B:aE):List Nat->aE
 |[]=>B
 |i::p=>match bL B p with
  | .seq a b=>if i=0 then a else b| .cond _ a b=>if i=0 then a else b| .block _ a=>a| .loop a=>a| .scope a=>a| .oE _ _ a b=>if i=0 then a else b| c=>c
section
variable{tab:TB}{f:Nat}{args:List V}{fn:Nat}{k:List dU}{t:T}{ds:List gX}{H:an}{Q:Option aE->St->Prop}{K:V->St->Prop}
theorem Vs{ps:List P}{b:List ku}{body:aE}(x:tab f=aa ⟨ps,b,body⟩)(v:args.length=ps.length)
  (h:WP tab f ab [.code body] ⟨dm ps args .e,[],H⟩ (λ_ s=>s.defs=[]/\∃r,results s.aN s.heap b=aa r/\K r ⟨t,ds,s.heap⟩)):KE (Ev tab (.fn f) args H) t ds K:=by
 obtain⟨n,m,d,j,s,g,u,r,l,q⟩:=h;exact⟨r,s.heap,rj x v ⟨n,m,d,j,s,g,0,0,s.heap,by rw[u];rfl,l,rfl⟩,q⟩
theorem QX{b A d:Nat}{tm:T}{ps:List P}{as bd:aE}{st:dt}{M:Option aE}(I:H[b]?=aa (.lp A tm ps as bd st M d))(L:args.length=ps.length)
  (h:WP tab A (aa b) [.code as,.qX,.code bd] ⟨dm ps args tm,[],H⟩ (λj s=>s.defs=[]/\∃z u q g l x v y,s.heap[b]?=aa (.lp z u q g l x v y)/\K (.c (.f (.bool j.isNone))) ⟨t,ds,s.heap.set b (.lp z u q g l (if j.isNone then .ready else .done) j y)⟩)) :
  KE (Ev tab (.yield b) args H) t ds K:=by
 obtain⟨n,m,d',j,s,B,J,z,u,q,g,l,x,v,y,E,F⟩:=h;exact⟨_,_,DQ I L ⟨n,m,d',j,s,B,J,z,u,q,g,l,x,v,y,E,rfl,rfl⟩,F⟩
theorem D7{x:Arg}{ps:List P}{as bd:aE}{g:Nat}{q:List V}{b:List P}{l:List ku}{body:aE}(A:cr (x.ev t) [.c (.yl (H.length+1))]=aa (.fn g,q))(E:tab g=aa ⟨b,l,body⟩)(B:q.length=b.length)
  (h:WP tab g ab [.code body] ⟨dm b q .e,[],H++[.dQ ae,.lp fn t ps as bd .ready ab H.length]⟩ (λ_ s=>s.defs=[]/\∃r,results s.aN s.heap l=aa r/\WP tab fn ab (.mh (H.length+1)::k) ⟨t,.dY H.length::ds,s.heap⟩ Q)) :
  WP tab fn ab (.code (.oE x ps as bd)::k) ⟨t,ds,H⟩ Q:=by
 obtain⟨n,m,d,j,s,u,z,r,v,y⟩:=h;exact dK A (rj E B ⟨n,m,d,j,s,u,0,0,s.heap,by rw[z];rfl,v,rfl⟩) y
end
end Km
