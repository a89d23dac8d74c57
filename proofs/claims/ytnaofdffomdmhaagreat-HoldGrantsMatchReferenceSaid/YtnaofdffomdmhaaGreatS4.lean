/-
  QI ug nh lF and ug mu answer, for all arguments of G_ kind, in ug small machine: part 4.
-/
import Derived.Test.YtnaofdffomdmhaaGreatS3
import Derived.Test.YtnaofdffomdmhaaGreatK4
import Derived.Test.YtnaofdffomdmhaaGreatS1
import Derived.Test.YtnaofdffomdmhaaGreatS2
open Option renaming some->aa,none->ab
open Bool renaming true->ae,false->ag
open List renaming getElem?_append_left->afy, map_cons->afS, map_nil->afW, getElem?_eq_getElem->afB, mem_append->afY, mem_singleton->afO, map_inj_left->agb, mem_flatMap->agE, mem_map->af6, mem_filter->agB, mem_range->agz, cons_append->agu, nil_append->agK, take_of_length_le->afM, getElem?_set_ne->ae2, getElem?_set_self->afC, mem_cons_self->afN, mem_of_mem_take->agD, length_take->af2, any_eq_false->agW, getElem_mem->afH, drop_eq_getElem_cons->afL, getElem_of_mem->agd, getElem?_append_right->afI, take_length->agc, length_map->afT, drop_length->agF, take_succ_eq_append_getElem->agh, append_nil->agp
open Prod.mk renaming inj->afP, injEq->afG
open Bool renaming false_or->ahr, false_eq_true->afR
open Int renaming toNat_natCast->afU, toNat_of_nonneg->ag0, emod_nonneg->agL, tmod_eq_emod_of_nonneg->ag1, natCast_mul->ahf
open Option.some renaming inj->ahg
open Nat renaming lcm->agU
set_option linter.unusedVariables false
set_option linter.constructorNameAsVariable false
set_option linter.unusedSimpArgs false
set_option linter.unusedSectionVars false
set_option linter.unnecessarySimpa false
set_option maxRecDepth 100000
namespace Go.Proofs.YtnaofdffomdmhaaGreat
open Go Km
theorem wK(b g j:FC)(len mi d:Int)(m:fK len)(q:fK mi)(s:fK d) :
  aX tab Vy [.a [.f b,.f (fi len),.f g],.a [.f j,.f (fi mi)],vi d]=Eq (.a ((cm len mi d).row.map .f)):=aX.eq (Kf.A3 (by
 unfold fK at *;refine cr rfl rfl λH Q l=>?_;apply ai;simp;apply ai;simp[bg (n:=d*1440),bg (n:=d*1440+mi)];apply ai;simp[bg (n:=d*1440+mi+len)];refine az (l _ _ ?_);simp[cm,aE.row,fC,bX,aZ]))
theorem O2(a b c d:Int):aX tab Vz [.a [.f (fi a),.f (fi b)],.a [.f (fi c),.f (fi d)]]=Eq (vb (yI a b c d)):=Kf.eq (by
 refine cr rfl rfl λH Q g=>?_;apply ai;simp;by_cases k:a<d
 .apply ai;simp[k];refine az (g _ _ ?_);simp[yI,k]
 .apply ai;simp[k];refine az (g _ _ ?_);simp[yI,k])
def fM(a b:aN)(d g:bK)(k:Int):List FC:=[sl d.mg (aT d.ts),fi d.min,sl g.mg (aT g.ts),fi g.min,fi k,fi a.len,fi b.len]
def cH(a b:aN)(d g:bK)(j:List Int):List (List FC):=j.map (fM a b d g)
theorem lu(a b:aN)(d g:bK)(j:List Int):cA 7 (cH a b d g j):=cA.map λ_=>rfl
@[simp] theorem Tz (a b:aN) (g j:bK) (d:List Int):(cH a b g j d).length=d.length:=by simp[cH]
theorem xn{a b:aN}{g l:bK}{d:List Int}{j:Nat}(m:j<d.length):(cH a b g l d)[j]?=aa (fM a b g l d[j]):=by simp[cH,m]
def gP(a b:aN)(d g:bK)(k:Int):Bool:=yI (100*1440+d.min) (100*1440+d.min+a.len) ((100+k)*1440+g.min) ((100+k)*1440+g.min+b.len)
structure oy(a:aN)(c:bK):Prop where
 cs:a.cs=[c]
 xs:a.xs=[]
 m0:0<=c.min
 m1:c.min<=1180
 l0:1<=a.len
 l1:a.len<=400
theorem Hf(a b:aN)(l q:bK)(E:oy a l)(hb:oy b q):∃g d,(d.length<=31/\∀k,k∈d↔-15<=k/\k<=15/\gP a b l q k=ae)/\aX tab zW [.a (a.row.map .f),.a (b.row.map .f)]=Eq (.c (.f (sl g (cH a b l q d)))):=by
 have key:∃r,(∃g d,(d.length<=31/\∀k,k∈d↔-15<=k/\k<=15/\gP a b l q k=ae)/\r=.c (.f (sl g (cH a b l q d))))/\aX tab zW [.a (a.row.map .f),.a (b.row.map .f)] r:=by
  refine cN rfl rfl λQ hQ=>?_;have p_:=E.m0;have q_:=E.m1;have n_:=E.l0;have o_:=E.l1;have s7:=hb.m0;have s9:=hb.m1;have r5:=hb.l0;have r_:=hb.l1;obtain⟨A,hA⟩:=aD (sl a.cg (aP a.cs));obtain⟨B,hB⟩:=aD (sl b.cg (aP b.cs));obtain⟨X,hX⟩:=aD (sl a.xg (aC a.xs));obtain⟨Y,hY⟩:=aD (sl b.xg (aC b.xs));have l_:a.row=[A,fi a.len,X]:=by rw[hA,hX];rfl
  have m4:b.row=[B,fi b.len,Y]:=by rw[hB,hY];rfl
  have iP:∀K:aj,bo K (.f A)=aa 1:=λK=>by rw[hA,E.cs];rfl
  have j4:∀K:aj,bo K (.f B)=aa 1:=λK=>by rw[hB,hb.cs];rfl
  have i8:∀K:aj,bw K 2 ab (.c (.f A)) (vi 0)=aa (.c (.f (.fp l.row 0))):=λK=>by rw[hA,E.cs];rfl
  have i9:∀K:aj,bw K 2 ab (.c (.f B)) (vi 0)=aa (.c (.f (.fp q.row 0))):=λK=>by rw[hB,hb.cs];rfl
  have i_:∀(c:bK) (K:aj),aQ K (aa 2) (.c (.f (.fp c.row 0)))=aa (.a [.f (sl c.mg (aT c.ts)),.f (fi c.min)]):=λc K=>rfl;have f8:=i_ l;have f_:=i_ q;rw[l_,m4];obtain⟨ra,n8⟩:=aD (l.row);obtain⟨rb,n9⟩:=aD (q.row);rw[<-n8]at i8 f8;rw[<-n9]at i9 f_;obtain⟨tA,i6⟩:=aD (sl l.mg (aT l.ts));obtain⟨tB,i7⟩:=aD (sl q.mg (aT q.ts));rw[<-i6]at f8;rw[<-i7]at f_;apply ai;simp;obtain⟨K0,b_⟩:=aD ([.box [.f A,.f (fi a.len),.f X] 0,.box [.f B,.f (fi b.len),.f Y] 0]:aj);have b0:K0[0]?=aa (.box [.f A,.f (fi a.len),.f X] 0):=by rw[b_];rfl
  have b1:K0[1]?=aa (.box [.f B,.f (fi b.len),.f Y] 0):=by rw[b_];rfl
  have n0:K0.length=2:=by rw[b_];rfl
  rw[<-b_];have c_:∀K:aj,K[0]?=aa (.box [.f A,.f (fi a.len),.f X] 0)->aQ K ab (.c (.ptr 0 0 0))=aa (.c (.f A))/\aQ K (aa 3) (.c (.ptr 0 0 0))=aa (.a [.f A,.f (fi a.len),.f X])/\aQ K ab (.c (.ptr 0 1 0))=aa (vi a.len):=λK h=>by
   refine⟨?_,?_,?_⟩<;>simp[aQ,aw,h,aO]
  have d9:∀K:aj,K[1]?=aa (.box [.f B,.f (fi b.len),.f Y] 0)->aQ K ab (.c (.ptr 1 0 0))=aa (.c (.f B))/\aQ K (aa 3) (.c (.ptr 1 0 0))=aa (.a [.f B,.f (fi b.len),.f Y])/\aQ K ab (.c (.ptr 1 1 0))=aa (vi b.len):=λK h=>by
   refine⟨?_,?_,?_⟩<;>simp[aQ,aw,h,aO]
  apply ai;simp;apply ak;apply ai;simp;have j_:∀(t:T) (K:aj) (c:C) (d:List Int),t.g 5=.c c->LR K c 7 (cH a b l q d)->(d.length<=31/\∀k,k∈d↔-15<=k/\k<=15/\gP a b l q k=ae)->WP tab zW ab [.code sF] ⟨t,[],K⟩ Q:=by
   intro t K c d z M s;obtain⟨g,hg⟩:=M.ex (lu _ _ _ _ _) 63;change eg deep K c=_ at hg;apply ai;simp[z];refine az (hQ _ _ _ ⟨g,d,s,rfl⟩ ?_);simp[hg]
  refine bA 1 (λj t K=>t.g 2=.c (.ptr 0 0 0)/\t.g 3=.c (.ptr 1 0 0)/\K[0]?=aa (.box [.f A,.f (fi a.len),.f X] 0)/\K[1]?=aa (.box [.f B,.f (fi b.len),.f Y] 0)/\(j=0->t.g 5=.c (.f .es)/\K=K0)/\(j=1->∃c d,t.g 5=.c c/\LR K c 7 (cH a b l q d)/\(d.length<=31/\∀k,k∈d↔-15<=k/\k<=15/\gP a b l q k=ae))) (by omega) rfl (by simp)
   ⟨by simp,by simp,b0,b1,λ_=>⟨by simp,rfl⟩,by omega⟩ ?_ ?_ ?_
  .rintro j t K L hj ⟨u,v,k0,J,h0,y⟩ E M;simp[E,u,(c_ K k0).1,iP,-aq];exact M _ ⟨by simp[u],by simp[v],k0,J,λe=>⟨by simp[(h0 e).1],(h0 e).2⟩,λe=>by obtain⟨c,d,z,h⟩:=y e;exact⟨c,d,by simp[z],h⟩⟩ (by simp[E]) (by simp)
  .rintro j t K hj ⟨u,v,k0,J,h0,-⟩ E next
   have e_:j=0:=by omega
   subst e_;obtain⟨z,hK⟩:=h0 rfl;rw[hK]at k0 J ⊢;clear hK h0 K;simp only[Int.natCast_zero]at E;refine aI ?_;apply ai;simp;refine bA 1 (λj t K=>t.g 2=.c (.ptr 0 0 0)/\t.g 3=.c (.ptr 1 0 0)/\t.g 6=vi 0/\K[0]?=aa (.box [.f A,.f (fi a.len),.f X] 0)/\K[1]?=aa (.box [.f B,.f (fi b.len),.f Y] 0)/\(j=0->t.g 5=.c (.f .es)/\K=K0)/\(j=1->∃c d,t.g 5=.c c/\LR K c 7 (cH a b l q d)/\(d.length<=31/\∀k,k∈d↔-15<=k/\k<=15/\gP a b l q k=ae))) (by omega) rfl (by simp)
    ⟨by simp[u],by simp[v],by simp[E],k0,J,λ_=>⟨by simp[z],rfl⟩,by omega⟩ ?_ ?_ ?_
   .rintro j t K L hj ⟨u,v,N,k0,J,h0,y⟩ E M;simp[E,v,(d9 K J).1,j4,-aq];exact M _ ⟨by simp[u],by simp[v],by simp[N],k0,J,λe=>⟨by simp[(h0 e).1],(h0 e).2⟩,λe=>by obtain⟨c,d,z,h⟩:=y e;exact⟨c,d,by simp[z],h⟩⟩ (by simp[E]) (by simp)
   .rintro j t K hj ⟨u,v,N,k0,J,h0,-⟩ E nx;have e_:j=0:=by omega
    subst e_;obtain⟨z,hK⟩:=h0 rfl;rw[hK]at k0 J ⊢;clear hK h0 K;simp only[Int.natCast_zero]at E;obtain⟨K1,Z⟩:=aD (K0++[bB.box [.f tA,.f (fi l.min)] 0]);obtain⟨K2,S⟩:=aD (K1++[bB.box [.f tB,.f (fi q.min)] 0]);have n1:K1.length=3:=by rw[Z];simp[n0]
    have n2:K2.length=4:=by rw[S];simp[n1]
    have j0:K1[0]?=aa (.box [.f A,.f (fi a.len),.f X] 0):=by rw[Z,afy (by omega)];exact k0
    have j1:K1[1]?=aa (.box [.f B,.f (fi b.len),.f Y] 0):=by rw[Z,afy (by omega)];exact J
    have i0:K2[0]?=aa (.box [.f A,.f (fi a.len),.f X] 0):=by rw[S,afy (by omega)];exact j0
    have i1:K2[1]?=aa (.box [.f B,.f (fi b.len),.f Y] 0):=by rw[S,afy (by omega)];exact j1
    have i2:K2[2]?=aa (.box [.f tA,.f (fi l.min)] 0):=by rw[S,afy (by omega),Z,<-n0];simp
    have i3:K2[3]?=aa (.box [.f tB,.f (fi q.min)] 0):=by rw[S,<-n1];simp
    refine aI ?_;apply ai;simp[u,N,(c_ K0 k0).1,i8,f8,n0,-aq];rw[<-Z];apply ai;simp[v,E,(d9 K1 j1).1,i9,f_,n1,-aq];rw[<-S];apply ai;simp;refine aI ?_;refine dx (λm st=>∃(k:Int) (t:T) (H:aj) (c:C) (d:List Int),st=⟨t,[],H⟩/\(m:Int)=16-k/\-15<=k/\k<=16/\t.g 2=.c (.ptr 0 0 0)/\t.g 3=.c (.ptr 1 0 0)/\t.g 6=vi 0/\t.g 7=vi 0/\t.g 8=.c (.ptr 2 0 0)/\t.g 9=.c (.ptr 3 0 0)/\t.g 10=vi k/\t.g 5=.c c/\
     H[0]?=aa (.box [.f A,.f (fi a.len),.f X] 0)/\H[1]?=aa (.box [.f B,.f (fi b.len),.f Y] 0)/\H[2]?=aa (.box [.f tA,.f (fi l.min)] 0)/\H[3]?=aa (.box [.f tB,.f (fi q.min)] 0)/\LR H c 7 (cH a b l q d)/\(∀i,bt c=aa i->4<=i)/\(d.length:Int)<=k+15/\∀x,x∈d↔-15<=x/\x<k/\gP a b l q x=ae) 31
     ⟨-15,_,K2,.f .es,[],rfl,by omega,by omega,by omega,by simp[u],by simp[v],by simp[N],by simp[E],by simp,by simp,by simp,by simp[z],i0,i1,i2,i3,.inl ⟨rfl,.inr rfl⟩,by simp[bt],by simp,λx=>by simp;omega⟩ ?_
    clear u v z N E i0 i1 i2 i3 j0 j1 k0 J;rintro m st ⟨k,t,H,c,d,rfl,hm,k0,J,u,v,N,g7,g8,g9,I,z,i0,i1,i2,i3,M,a9,m_,s⟩ ih;apply ak;apply ai;simp[I];by_cases hk:k<=15
    case neg=>
     refine aG (by simp;omega) (bT (k':=[.inBlock 3,.code (mo 7 26 27),.inLoop (gU 2 7 25 26 27 [⟨D 21,.dr (R 7),ab⟩,⟨D 22,.fL 0 (R 3),ab⟩,⟨D 23,.load ab (R 22),ab⟩,⟨D 24,.len (R 23),ab⟩,⟨D 25,.bin .lss (R 21) (R 24),ab⟩] xX),.inBlock 2,.inBlock 1,.code (mo 6 19 20),.inLoop (gU 0 6 18 19 20 [⟨D 14,.dr (R 6),ab⟩,⟨D 15,.fL 0 (R 2),ab⟩,⟨D 16,.load ab (R 15),ab⟩,⟨D 17,.len (R 16),ab⟩,⟨D 18,.bin .lss (R 14) (R 17),ab⟩] xW),.inBlock 0,.code sF]) rfl ?_);refine aA (nx _ _ ⟨by simp[u],by simp[v],by simp[N],i0,i1,by omega,λ_=>⟨c,d,by simp[z],M,by omega,λx=>?_⟩⟩ (by simp[g7]));rw[s];constructor
     .rintro⟨y,h2,O⟩;exact⟨y,by omega,O⟩
     .rintro⟨y,h2,O⟩;exact⟨y,by omega,O⟩
    refine al (by simp[hk]) (aS ?_);have d_:=wK A X tA a.len l.min 100 (by unfold fK;omega) (by unfold fK;omega) (by unfold fK;omega);have e9:=wK B Y tB b.len q.min (100+k) (by unfold fK;omega) (by unfold fK;omega) (by unfold fK;omega);simp[cm,aE.row]at d_ e9;have c2:aQ H (aa 2) (.c (.ptr 2 0 0))=aa (.a [.f tA,.f (fi l.min)]):=by simp[aQ,aw,i2,aO]
    have c3:∀K:aj,K[3]?=aa (.box [.f tB,.f (fi q.min)] 0)->aQ K (aa 2) (.c (.ptr 3 0 0))=aa (.a [.f tB,.f (fi q.min)]):=λK h=>by simp[aQ,aw,h,aO]
    obtain⟨U,h_⟩:=aD (144000+l.min:Int);obtain⟨f2,i4⟩:=aD ((100+k)*1440+q.min:Int);rw[<-h_]at d_;rw[<-i4]at e9;obtain⟨n,hn⟩:=aD (H.length);obtain⟨H1,W⟩:=aD (H++[bB.box [.f (fi 100),.f (fi U),.f (fi (U+a.len))] 0]);obtain⟨F,b9⟩:=aD (H1++[bB.box [.f (fi (100+k)),.f (fi f2),.f (fi (f2+b.len))] 0]);have j5:H1.length=n+1:=by rw[W,hn];simp
    have d1:H1[n]?=aa (.box [.f (fi 100),.f (fi U),.f (fi (U+a.len))] 0):=by rw[W,hn];simp
    have p1:∀i:Nat,i<H.length->H1[i]?=H[i]?:=λi hi=>by rw[W,afy hi]
    have p2:∀i:Nat,i<H1.length->F[i]?=H1[i]?:=λi hi=>by rw[b9,afy hi]
    have j7:F[n]?=aa (.box [.f (fi 100),.f (fi U),.f (fi (U+a.len))] 0):=(p2 n (by omega)).trans d1;have d2:F[n+1]?=aa (.box [.f (fi (100+k)),.f (fi f2),.f (fi (f2+b.len))] 0):=by rw[b9,<-j5];simp
    have j8:aQ F (aa 2) (.c (.ptr n 1 0))=aa (.a [.f (fi U),.f (fi (U+a.len))]):=by simp[aQ,aw,j7,aO]
    have j9:aQ F (aa 2) (.c (.ptr (n+1) 1 0))=aa (.a [.f (fi f2),.f (fi (f2+b.len))]):=by simp[aQ,aw,d2,aO]
    have q1:∀i:Nat,i<4->H1[i]?=H[i]?:=λi hi=>p1 i (by have:=au i3;omega);have q2:∀i:Nat,i<4->F[i]?=H[i]?:=λi hi=>(p2 i (by have:=au i3;omega)).trans (q1 i hi);have g_:LR F c 7 (cH a b l q d):=by rw[b9,W];exact(M.push _).push _
    have a8:=O2 U (U+a.len) f2 (f2+b.len);have m9:yI U (U+a.len) f2 (f2+b.len)=gP a b l q k:=by
     unfold gP;rw[h_,i4];rfl
    rw[m9]at a8;apply ak;refine aI ?_;apply ai;simp[u,g8,(c_ H i0).2.1,c2,d_,-aq];rw[<-W,<-hn];apply ai;simp[v,g9,I,(d9 H1 ((q1 1 (by omega)).trans i1)).2.1,c3 H1 ((q1 3 (by omega)).trans i3),bg (n:=100+k),e9,-aq];rw[<-b9,j5];apply ai;simp[j8,j9,a8,-aq];have go:∀(t:T) (K:aj) (c':C) (a_:List Int),t.g 2=.c (.ptr 0 0 0)->t.g 3=.c (.ptr 1 0 0)->t.g 6=vi 0->t.g 7=vi 0->t.g 8=.c (.ptr 2 0 0)->t.g 9=.c (.ptr 3 0 0)->t.g 10=vi k->t.g 5=.c c'->(∀i:Nat,i<4->K[i]?=H[i]?)->LR K c' 7 (cH a b l q a_)->(∀i,bt c'=aa i->4<=i)->(a_.length:Int)<=k+16->(∀x,x∈a_↔-15<=x/\x<k+1/\gP a b l q x=ae)->
      WP tab zW ab [.inBlock 5,.code HG,.inLoop HF,.inBlock 4,.inBlock 3,.code (mo 7 26 27),.inLoop (gU 2 7 25 26 27 [⟨D 21,.dr (R 7),ab⟩,⟨D 22,.fL 0 (R 3),ab⟩,⟨D 23,.load ab (R 22),ab⟩,⟨D 24,.len (R 23),ab⟩,⟨D 25,.bin .lss (R 21) (R 24),ab⟩] xX),.inBlock 2,.inBlock 1,.code (mo 6 19 20),.inLoop (gU 0 6 18 19 20 [⟨D 14,.dr (R 6),ab⟩,⟨D 15,.fL 0 (R 2),ab⟩,⟨D 16,.load ab (R 15),ab⟩,⟨D 17,.len (R 16),ab⟩,⟨D 18,.bin .lss (R 14) (R 17),ab⟩] xW),.inBlock 0,.code sF] ⟨t,[],K⟩ Q:=by
     intro t K c' a_ u v N g7 g8 g9 I z hK M a9 m_ s;refine aA (av (.inl rfl) ?_);simp[I,bg (n:=k+1)];exact ih (16-(k+1)).toNat _ (by omega) ⟨k+1,_,K,c',a_,rfl,by omega,by omega,by omega,by simp[u],by simp[v],by simp[N],by simp[g7],by simp[g8],by simp[g9],by simp,by simp[z],(hK 0 (by omega)).trans i0,(hK 1 (by omega)).trans i1,(hK 2 (by omega)).trans i2,(hK 3 (by omega)).trans i3,M,a9,by omega,s⟩
    cases hc:gP a b l q k with
    |false=>
     refine aG (by simp) (aS (go _ F c d (by simp[u]) (by simp[v]) (by simp[N]) (by simp[g7]) (by simp[g8]) (by simp[g9]) (by simp[I]) (by simp[z]) q2 g_ a9 (by omega) λx=>?_));rw[s];constructor
     .rintro⟨y,h2,O⟩;exact⟨y,by omega,O⟩
     .rintro⟨y,h2,O⟩;by_cases e:x=k
      .subst e;rw[hc]at O;cases O
      .exact⟨y,by omega,O⟩
    |true=>
     have k_:=g_.push [bB.box ((fM a b l q k).map .f) 0];have d3:(F++[bB.box ((fM a b l q k).map .f) 0])[F.length]?=aa (.box ((fM a b l q k).map .f) 0):=by simp
     obtain⟨c',K',e1,e2,e3,e4⟩:=k_.app (lu _ _ _ _ _) (by decide) (row:=fM a b l q k) rfl (bytes:=88) (by simp[bU];omega) d3;have er:cH a b l q d++[fM a b l q k]=cH a b l q (d++[k]):=by simp[cH]
     rw[er]at e2;unfold fM at e1;rw[<-i6,<-i7]at e1;simp only[afS,afW]at e1;have j6:aQ F (aa 2) (.c (.ptr 2 0 0))=aa (.a [.f tA,.f (fi l.min)]):=by simp[aQ,aw,(q2 2 (by omega)).trans i2,aO]
     refine al (by simp) (av (.inl rfl) ?_);simp[u,v,z,g8,g9,I,j6,c3 F ((q2 3 (by omega)).trans i3),(c_ F ((q2 0 (by omega)).trans i0)).2.2,(d9 F ((q2 1 (by omega)).trans i1)).2.2,e1,-aq];refine go _ K' c' (d++[k]) (by simp[u]) (by simp[v]) (by simp[N]) (by simp[g7]) (by simp[g8]) (by simp[g9]) (by simp[I]) (by simp) (λi hi=>?_) e2 (λi hi=>?_) (by simp;omega) λx=>?_
     .have f7:i<F.length:=by have:=au d2;have:=au i3;omega
      have i5:=q2 i hi;rw[<-i5];rw[afB f7];exact e3.2 i _ (by rw[afy f7,afB f7]) λh=>by have:=a9 i h;omega
     .rcases e4 with h|h
      .exact a9 i (by rw[<-h];exact hi)
      .rw[h]at hi;cases hi;have:=au d2;have:=au i3;simp;omega
     .rw[afY,afO,s];constructor
      .rintro(⟨y,h2,O⟩|rfl)
       .exact⟨y,by omega,O⟩
       .exact⟨by omega,by omega,hc⟩
      .rintro⟨y,h2,O⟩;by_cases e:x=k
       .exact .inr e
       .exact .inl ⟨y,by omega,O⟩
   .rintro t K ⟨u,v,N,k0,J,-,y⟩ -;obtain⟨c,d,z,M,s⟩:=y rfl;exact aA (next _ _ ⟨by simp[u],by simp[v],k0,J,by omega,λ_=>⟨c,d,by simp[z],M,s⟩⟩ (by simp[N]))
  .rintro t K ⟨u,v,k0,J,-,y⟩ -;obtain⟨c,d,z,M,s⟩:=y rfl;exact j_ t K c d z M s
 obtain⟨r,⟨g,d,y,rfl⟩,h⟩:=key;exact⟨g,d,y,h.eq⟩
section
variable{n p:Int}(h:mP n p)
include h
theorem A':aX tab Mo [mx n p]=Eq (vb ae):=du (afP (agb.1 lT _ (dn h))).1
theorem zy:aX tab 299 [mx n p,vi (-1)]=Eq (.t [mx n (A_ n p),vi 0]):=du (afP (afP (agb.1 lT _ (dn h))).2).1
theorem Pb:aX tab 160 [mx n p]=Eq (.t [KJ n p,vi 0]):=du (afP (afP (afP (agb.1 lT _ (dn h))).2).2).1
theorem Pg:aX tab 150 [mx n p,eS]=Eq (.t [gJ,vi 0]):=du (afP (afP (afP (afP (agb.1 lT _ (dn h))).2).2).2).1
theorem Pj:aX tab 150 [mx n p,gJ]=Eq (.t [mx n p,vi 0]):=du (afP (afP (afP (afP (afP (agb.1 lT _ (dn h))).2).2).2).2).1
theorem Ka:aX tab 151 [mx n p]=Eq (vb ag):=du (afP (afP (afP (afP (afP (afP (agb.1 lT _ (dn h))).2).2).2).2).2).1
theorem Pk:aX tab 232 [mx n p,vi 0]=Eq (.t [vi p,vb ae]):=du (afP (afP (afP (afP (afP (afP (agb.1 lT _ (dn h))).2).2).2).2).2).2
end
theorem zu{n p m q:Int}(h:mP n p)(b:mP m q):aX tab 240 [mx n p,mx m q,vi 0]=Eq (.t [vi (iQ (n,p) (m,q)),vb (pV (n,p) (m,q))]):=
 nN (x:=((n,p),(m,q))) Fo (by
  unfold Jc;exact agE.2 ⟨(n,p),dn h,af6.2 ⟨(m,q),dn b,rfl⟩⟩)
theorem R0{n p m q:Int}(h:mP n p)(b:mP m q)(d:pV (n,p) (m,q)=ag):aX tab 241 [mx n p,mx m q]=Eq (.t [gJ,vi 0]):=
 nN (x:=((n,p),(m,q))) O0 (by
  unfold inc;exact agE.2 ⟨(n,p),dn h,af6.2 ⟨(m,q),agB.2 ⟨dn b,by rw[d];rfl⟩,rfl⟩⟩)
theorem Fk:aX tab 151 [gJ]=Eq (vb ae):=du (List.cons.inj (afP pL).1).1
def mJ(k n p:Int):Int:=if k<0 then A_ n p else p
def mL(k m q:Int):Int:=if 0<k then A_ m q else q
theorem oY{k n p:Int}(h:mP n p):mP n (mJ k n p):=by unfold mJ;split;exact(iK h).1;exact h
theorem oZ{k m q:Int}(h:mP m q):mP m (mL k m q):=by unfold mL;split;exact(iK h).1;exact h
structure qx(c:bK)(n p:Int):Prop where
 ts:c.ts=[td n p]
 sm:mP n p
theorem wV(a b:aN)(v x:bK){n p m q:Int}(L:qx v n p)(M:qx x m q)(k:Int)(U:-1<=k)(W:k<=1) :
  aX tab VF [.a ((fM a b v x k).map .f)]=Eq (.t [mx n (mJ k n p),mx m (mL k m q),vi (max 0 (-k))]):=aX.eq (by
 refine bH rfl rfl λQ y=>?_;have O:sl v.mg (aT v.ts)=fY n p:=by rw[L.ts];exact ue _ _ _
 have S:sl x.mg (aT x.ts)=fY m q:=by rw[M.ts];exact ue _ _ _
 have z:fM a b v x k=[fY n p,fi v.min,fY m q,fi x.min,fi k,fi a.len,fi b.len]:=by unfold fM;rw[O,S]
 have s:=zy L.sm;have u:=zy M.sm;have N:∀n p,mx n p=.a [.f (fY n p)]:=λ_ _=>rfl;simp only[N]at s u y;rw[z];obtain⟨A,F⟩:∃A:Int->FC,A=λp=>fY n p:=⟨_,rfl⟩
 obtain⟨B,H⟩:∃B:Int->FC,B=λq=>fY m q:=⟨_,rfl⟩
 have J:∀p,fY n p=A p:=λp=>by rw[F]
 have K:∀q,fY m q=B q:=λq=>by rw[H]
 simp only[J]at s y ⊢;simp only[K]at u y ⊢;have I:PZ .neg (.c (.f (fi 1)))=aa (vi (-1)):=rfl;have E:PZ .neg (.c (.f (fi (-1))))=aa (vi 1):=rfl;have j:∀p,V.beq (.a [.f (A p)]) (.a [.f (A p)])=ae:=λp=>by rw[<-J];simp[fY,V.beq,iT,C.beq,FC.beq]
 have l:∀q,V.beq (.a [.f (B q)]) (.a [.f (B q)])=ae:=λp=>by rw[<-K];simp[fY,V.beq,iT,C.beq,FC.beq]
 apply ai;simp;apply ak;apply ai;obtain rfl|rfl|rfl:k=1\/k=0\/k = -1:=by omega
 .simp;refine al (by simp) ?_;apply ai;simp[u,I];refine ak (dy (.inl rfl) ?_ ?_)
  case refine_2=>
   intro cc g;have d:cc=(3,5):=by simpa using g
   rw[d];refine⟨by decide,_,rfl,.inl ⟨by decide,?_⟩⟩;simp[fO,j,l]
  simp;refine az (y _ _ ?_);simp[mJ,mL,fC,bX,aZ,Km.results,deep]<;>decide
 .simp;refine bc (by simp) ?_;apply ak;apply ai;simp;refine bc (by simp) ?_;refine ak (dy (.inl rfl) ?_ ?_)
  case refine_2=>
   intro cc g;have d:cc=(5,7):=by simpa using g
   rw[d];refine⟨by decide,_,rfl,.inl ⟨by decide,?_⟩⟩;simp[fO,j,l]
  simp;refine az (y _ _ ?_);simp[mJ,mL,fC,bX,aZ,Km.results,deep]
 .simp;refine bc (by simp) ?_;apply ak;apply ai;simp;refine al (by simp) ?_;apply ai;simp[s];refine ak (dy (.inl rfl) ?_ ?_)
  case refine_2=>
   intro cc g;have d:cc=(3,8)\/cc=(5,8)\/cc=(5,10):=by simpa using g
   rcases d with rfl|rfl|rfl
   all_goals
    refine⟨by decide,_,rfl,.inl ⟨by decide,?_⟩⟩;simp[fO,j,l,E]
    try simp[V.beq,C.beq,FC.beq]
  simp[E];refine az (y _ _ ?_);simp[mJ,mL,fC,bX,aZ,Km.results,deep]<;>decide)
theorem zt(a b:aN)(l:a.xs=[]):aX tab VC [.a (a.row.map .f),.a (b.row.map .f)]=Eq (vb ag):=aX.eq (by
 refine bH rfl rfl λQ u=>?_;have d:∀K:aj,bo K (.f (sl a.xg (aC a.xs)))=aa 0:=λK=>by rw[l];cases a.xg<;>rfl
 apply ai;simp[aN.row];obtain⟨X,v⟩:=aD (sl a.xg (aC a.xs));rw[<-v]at d ⊢;obtain⟨q,g⟩:=aD ([.box [.f (sl a.cg (aP a.cs)),.f (fi a.len),.f X] 0,.box [.f (sl b.cg (aP b.cs)),.f (fi b.len),.f (sl b.xg (aC b.xs))] 0]:aj);have l0:aQ q ab (.c (.ptr 0 2 0))=aa (.c (.f X)):=by rw[g];rfl
 rw[<-g];apply ak;apply ai;simp;refine bA 0 (λj t K=>t.g 2=.c (.ptr 0 0 0)/\K=q) (by omega) rfl (by simp) ⟨by simp,rfl⟩ ?_ (λj t K x=>by omega) ?_
 .rintro j t K L x ⟨m,rfl⟩ l s;simp[l,m,l0,d,-aq];exact s _ ⟨by simp[m],rfl⟩ (by simp[l]) (by simp)
 .rintro t K ⟨m,rfl⟩ l;apply ai;simp;refine az (u _ _ ?_);simp)
theorem th{a b:aN}{d g:bK}{k:Int}:gP a b d g k=ae↔vZ a.len b.len d g<=k/\k<=vT a.len b.len d g:=by
 unfold gP yI vZ vT;simp only[Bool.and_eq_true,decide_eq_true_eq];omega
theorem BW{n p m q k:Int}{s u:bK}(j:qx s n p)(l:qx u m q)(z:-1<=k)(A:k<=1):pV (n,mJ k n p) (m,mL k m q)=ae↔Mh s u k:=by
 have v:∀x:Int,x % n=mJ k n p↔(x+max 0 (-k)) % n=p:=λx=>by
  unfold mJ;split
  .rw[(iK j.sm).2,show max 0 (-k)=1 by omega]
  .rw[show x+max 0 (-k)=x by omega]
 have y:∀x:Int,x % m=mL k m q↔(x+max 0 k) % m=q:=λx=>by
  unfold mL;split
  .rw[(iK l.sm).2,show max 0 k=1 by omega]
  .rw[show x+max 0 k=x by omega]
 unfold Mh;rw[j.ts,l.ts];simp only[fg];constructor
 .intro h;obtain⟨d,h0,-,b,g⟩:=Ga h;exact⟨d,h0,(v d).1 b,(y d).1 g⟩
 .rintro⟨x,h0,b,g⟩;exact Ed h0 ((v x).2 b) ((y x).2 g) (oY j.sm) (oZ l.sm)
theorem G0:aX tab 151 [gJ]=Eq (vb ae)/\aX tab 232 [gJ,vi 0]=Eq (.t [vi 0,vb ag])/\aX tab zX [Cs]=Eq (vi 0)/\aX tab VJ [.c (.f .aK)]=Eq gJ/\aX tab 227 [gJ,eS]=Eq (.t [eS,vi 0])/\aX tab 227 [eS,gJ]=Eq (.t [eS,vi 0])/\aX tab 227 [gJ,gJ]=Eq (.t [gJ,vi 0])/\aX tab 150 [eS,gJ]=Eq (.t [eS,vi 0])/\aX tab 299 [eS,vi 0]=Eq (.t [eS,vi 0])/\aX tab 300 [KJ 1 0]=Eq eS/\aX tab 241 [eS,eS]=Eq (.t [eS,vi 0]):=by
 have h0:=List.cons.inj (afP pL).1;have d:=List.cons.inj h0.2;have g:=List.cons.inj d.2;have j:=List.cons.inj g.2;have l:=List.cons.inj j.2;have m:=List.cons.inj l.2;have q:=List.cons.inj m.2;have s:=List.cons.inj q.2;have u:=List.cons.inj s.2;have v:=List.cons.inj u.2;have b:=List.cons.inj v.2;exact⟨du h0.1,du d.1,du g.1,du j.1,du l.1,du m.1,du q.1,du s.1,du u.1,du v.1,du b.1⟩
theorem Yf{k:Nat}(h:k<60):aX tab 225 [Qb,vi (20*k:Nat)]=Eq (.t [.c (.f (.fs [fi 0,.aK,fi 0,fi 1,.fs [fi 0] 1] 1)),vi 0])/\aX tab VI [vi (20*k:Nat)]=Eq (vi 0)/\aX tab Mm [vi (20*k:Nat),vi 1440]=Eq (vi (20*k:Nat)):=by
 have b:=afP (agb.1 (afP (afP pL).2).1 k (agz.2 h));have d:=afP b.2;exact⟨du b.1,du d.1,du d.2⟩
def Xs(m le:Int):List FC:=cQ++[fY 1 0,fi 0,fi 1440]++[fi 0,.aK,fi 0,fi 1,.fs [fi 0] 1]++[fi m,fi 0,fi le]++[fi 0]
theorem ng0:PZ .neg (.c (.f (fi 0)))=aa (vi 0):=rfl
theorem R5(m le:Int):aX tab VL [.a ((Xs m le).map .f)]=Eq (.t [eS,vi 0]):=aX.eq (by
 refine bH rfl rfl λQ s=>?_;obtain⟨-,-,-,j,-,-,-,b,d,g,l⟩:=G0;obtain⟨E,q⟩:=aD (fY 1 0);have u:eS=.a [.f E]:=by rw[q];rfl
 have v:gJ=.a [.f .aK]:=rfl;rw[u]at b d g l s;rw[v]at j b;simp only[KJ]at g;unfold Xs;rw[<-q];simp only[cQ,agu,agK,afS,afW];apply ai;simp;apply ai;simp[j,b];apply ak;apply ai;simp;refine bc (by simp) ?_;apply ai;simp[ng0,d];apply ak;apply ai;simp;refine bc (by simp) ?_;apply ai;simp[g,l];apply ak;apply ai;simp;refine bc (by simp) ?_;apply ai;simp[ng0,d];refine az (s _ _ ?_);simp[fC,bX,aZ,Km.results,deep,q,fY])
def dC(m le:Int):FC:=if m+le<=1440 then fY 1 0 else .aK
def XM:FC:=.fs [fi 0,.aK,fi 0,fi 1,.fs [fi 0] 1] 1
theorem O3{k:Nat}(hk:k<60)(le:Int)(e0:1<=le)(e1:le<=10080):aX tab VG [.a (cQ.map .f),vi (20*k:Nat),vi le]=Eq (.t [.a [.f (dC (20*k:Nat) le)],vi 0]):=aX.eq (by
 refine bH rfl rfl λQ hQ=>?_;obtain⟨-,-,X,i,a8,a9,a_,-⟩:=G0;obtain⟨M,hq,W⟩:=Yf hk;obtain⟨m,hm⟩:=aD (20*k:Nat);rw[<-hm]at M hq W hQ ⊢;have i9:m<=1180:=by omega
 have A:=R5 m le;obtain⟨E,hE⟩:=aD (fY 1 0);have eE:eS=.a [.f E]:=by rw[hE];rfl
 have eN:gJ=.a [.f .aK]:=rfl;have eO:Cs=.a (cQ.map .f):=rfl;have eZ:Qb=.a [.f (fi 0),.f (.fs [fi 3] 1),.f (fi (-1)),.f .aK,.f (fi 0),.f .aK,.f (fi 0),.f .aK]:=rfl;rw[eO]at X;rw[eZ]at M;rw[eE,eN]at a8 a9;rw[eN]at a_ i;rw[eE]at A;simp only[Xs,<-hE,cQ,agu,agK,afS,afW]at A;obtain⟨D,o⟩:=aD (dC (m:Int) le);rw[<-o]at hQ;unfold dC at o;rw[<-hE]at o;have i6:aX tab 227 [.a [.f D],.a [.f .aK]]=Eq (.t [.a [.f D],vi 0]):=by rw[o];split;exact a9;exact a_
 obtain⟨O,hO⟩:=aD (cQ:List FC);have y:∀K:aj,K[0]?=aa (.box (O.map .f) 0)->aQ K (aa 10) (.c (.ptr 0 0 0))=aa (.a (O.map .f))/\aQ K (aa 8) (.c (.ptr 0 0 0))=aa (.a [.f (fi 0),.f (.fs [fi 3] 1),.f (fi (-1)),.f .aK,.f (fi 0),.f .aK,.f (fi 0),.f .aK])/\aQ K ab (.c (.ptr 0 8 0))=aa (.c (.f iG)):=λK h=>by
  rw[hO]at h ⊢;refine⟨?_,?_,?_⟩<;>simp[aQ,aw,h,cQ,aO]
 have l2:∀K:aj,K[2]?=aa (.box [.f (fi m),.f (fi 0),.f (fi le)] 0)->aQ K (aa 3) (.c (.ptr 2 0 0))=aa (.a [.f (fi m),.f (fi 0),.f (fi le)])/\aQ K ab (.c (.ptr 2 0 0))=aa (vi m)/\aQ K ab (.c (.ptr 2 1 0))=aa (vi 0):=λK h=>by refine⟨?_,?_,?_⟩<;>simp[aQ,aw,h,aO]
 have l1:∀(K:aj) (b:Nat) (F:FC),K[b]?=aa (.box [.f F] 0)->aQ K (aa 1) (.c (.ptr b 0 0))=aa (.a [.f F]):=λK b F h=>by simp[aQ,aw,h,aO]
 have i5:O.length=10:=by rw[hO];rfl
 rw[<-hO]at X ⊢;apply ai;simp;obtain⟨K0,c⟩:=aD ([.box (O.map .f) 0,.box [.f .aK] 0]:aj);have z0:K0[0]?=aa (.box (O.map .f) 0):=by rw[c];rfl
 have n0:K0.length=2:=by rw[c];rfl
 rw[<-c];apply ak;apply ai;simp[(y K0 z0).1,X,show¬ ((m:Int) < -4320) by omega,show¬ (4320<(m:Int)) by omega,show¬ (le<1) by omega,show¬ (10080<le) by omega,-aq];refine bc (by simp) ?_;obtain⟨K1,e⟩:=aD ([.box (O.map .f) 0,.box [.f .aK] 0,.box [.f (fi m),.f (fi 0),.f (fi le)] 0]:aj);have y0:K1[0]?=aa (.box (O.map .f) 0):=by rw[e];rfl
 have y2:K1[2]?=aa (.box [.f (fi m),.f (fi 0),.f (fi le)] 0):=by rw[e];rfl
 apply ai;simp[W,hq,c];rw[<-e];apply ai;simp[(y K1 y0).2.1,(l2 K1 y2).2.1,M,-aq];apply ak;apply ai;simp;refine bc (by simp) ?_;obtain⟨K2,d9⟩:=aD ([.box (O.map .f) 0,.box [.f .aK] 0,.box [.f (fi m),.f (fi 0),.f (fi le)] 0,.box [.f .aK] 0]:aj);apply ai;simp[e];rw[<-d9];apply ak;apply ai;simp;obtain⟨P,hP⟩:∃P:aj->FC->Prop,P=λK F=>4<=K.length/\K[0]?=aa (.box (O.map .f) 0)/\K[1]?=aa (.box [.f .aK] 0)/\K[2]?=aa (.box [.f (fi m),.f (fi 0),.f (fi le)] 0)/\K[3]?=aa (.box [.f F] 0):=⟨_,rfl⟩
 have f_:P K2 .aK:=by rw[hP,d9];exact⟨by simp,rfl,rfl,rfl,rfl⟩
 have pp:∀K J F,P K F->P (K++J) F:=λK J F h=>by
  rw[hP]at h ⊢;obtain⟨h,h0,h1,h2,h3⟩:=h;exact⟨by simp;omega,by rw[afy (by omega)];exact h0,by rw[afy (by omega)];exact h1,by rw[afy (by omega)];exact h2,by rw[afy (by omega)];exact h3⟩
 have e3:P=λK F=>4<=K.length/\K[0]?=aa (.box (O.map .f) 0)/\K[1]?=aa (.box [.f .aK] 0)/\K[2]?=aa (.box [.f (fi m),.f (fi 0),.f (fi le)] 0)/\K[3]?=aa (.box [.f F] 0):=hP;clear hP;have lo:∀K:aj,bo K (.f XM)=aa 1/\bw K 5 ab (.c (.f XM)) (vi 0)=aa (.c (.f (.fp [fi 0,.aK,fi 0,fi 1,.fs [fi 0] 1] 0))):=λK=>⟨rfl,rfl⟩
 have lh:∀K:aj,bo K (.f iG)=aa 1/\bw K 3 ab (.c (.f iG)) (vi 0)=aa (.c (.f (.fp [E,fi 0,fi 1440] 0))):=λK=>by rw[hE];exact⟨rfl,rfl⟩
 have p5:∀K:aj,aQ K (aa 5) (.c (.f (.fp [fi 0,.aK,fi 0,fi 1,.fs [fi 0] 1] 0)))=aa (.a [.f (fi 0),.f .aK,.f (fi 0),.f (fi 1),.f (.fs [fi 0] 1)])/\aQ K ab (.c (.f (.fp [fi 0,.aK,fi 0,fi 1,.fs [fi 0] 1] 0)))=aa (vi 0):=λK=>⟨rfl,rfl⟩
 have p3:∀K:aj,aQ K (aa 3) (.c (.f (.fp [E,fi 0,fi 1440] 0)))=aa (.a [.f E,.f (fi 0),.f (fi 1440)])/\aQ K ab (.c (.f (.fp [E,fi 0,fi 1440] 1)))=aa (vi 0)/\aQ K ab (.c (.f (.fp [E,fi 0,fi 1440] 2)))=aa (vi 1440):=λK=>⟨rfl,rfl,rfl⟩
 generalize f8:(FC.fs [fi 0,.aK,fi 0,fi 1,.fs [fi 0] 1] 1)=EO;have f7:XM=EO:=f8;rw[f7]at lo;refine bA 1 (λj t K=>t.g 1=vi m/\t.g 2=vi le/\t.g 3=.c (.ptr 0 0 0)/\t.g 6=.c (.ptr 1 0 0)/\t.g 8=.c (.ptr 2 0 0)/\t.g 9=.c (.f EO)/\t.g 11=.c (.ptr 3 0 0)/\P K (if j=0 then .aK else D)) (by omega) rfl (by simp) ⟨by simp,by simp,by simp,by simp,by simp,by simp,by simp,f_⟩ ?_ ?_ ?_
 .rintro j t K L hj ⟨I,H,x,l,g,z,d,s⟩ ha hL;simp[ha,z,(lo K).1];exact hL _ ⟨by simp[I],by simp[H],by simp[x],by simp[l],by simp[g],by simp[z],by simp[d],s⟩ (by simp[ha]) (by simp<;>omega)
 .rintro j t K hj ⟨I,H,x,l,g,z,d,s⟩ ha next
  obtain rfl:j=0:=by omega
  have q:=s;rw[e3]at q;obtain⟨U,k0,k1,k2,k3⟩:=q;have e9:t.g 12=vi 0:=ha;refine aI ?_;apply ai;simp[g,z,e9,(l2 K k2).2.1,(lo K).2,(p5 K).2,bg (n:=(m:Int)),W,hq,-aq];apply ai;simp;refine bA 1 (λj t J=>t.g 1=vi m/\t.g 2=vi le/\t.g 3=.c (.ptr 0 0 0)/\t.g 6=.c (.ptr 1 0 0)/\t.g 8=.c (.ptr 2 0 0)/\t.g 9=.c (.f EO)/\t.g 11=.c (.ptr 3 0 0)/\t.g 12=vi 0/\t.g 13=vi 0/\t.g 14=vi m/\P J (if j=0 then .aK else D)) (by omega) rfl (by simp) ⟨by simp[I],by simp[H],by simp[x],by simp[l],by simp[g],by simp[z],by simp[d],by simp[e9],by simp,by simp,s⟩ ?_ ?_ ?_
  .rintro j t J L hj ⟨I,H,x,l,g,z,d,u,B,v,s⟩ f hL;have q:=s;rw[e3]at q;obtain⟨U,k0,k1,k2,k3⟩:=q;simp[f,x,(y J k0).2.2,(lh J).1,-aq];exact hL _ ⟨by simp[I],by simp[H],by simp[x],by simp[l],by simp[g],by simp[z],by simp[d],by simp[u],by simp[B],by simp[v],s⟩ (by simp[f]) (by simp<;>omega)
  .rintro j t J hj ⟨I,H,x,l,g,z,d,u,B,v,s⟩ f Y;obtain rfl:j=0:=by omega
   have q:=s;rw[e3]at q;obtain⟨U,k0,k1,k2,k3⟩:=q;have S:t.g 15=vi 0:=f;refine aI ?_;apply ak;apply ai;by_cases w:(m:Int)+le<=1440
   .rw[bu w]at o;simp[x,v,H,S,(y J k0).2.2,(lh J).2,(p3 J).2.1,(p3 J).2.2,show¬ ((m:Int)<0) by omega,bg (n:=(m:Int)+le),show¬ (1440<(m:Int)+le) by omega,-aq];refine bc (by simp) ?_;obtain⟨N,hN⟩:=aD (J.length);obtain⟨jl,e_⟩:=aD ([fi 0,.fs [fi 3] 1,fi (-1),.aK,fi 0,.aK,fi 0,.aK,iG,.aK,E,fi 0,fi 1440,fi 0,.aK,fi 0,fi 1,.fs [fi 0] 1,fi m,fi 0,fi le,fi 0]:List FC);have c_:[C.f (fi 0),.f (.fs [fi 3] 1),.f (fi (-1)),.f .aK,.f (fi 0),.f .aK,.f (fi 0),.f .aK,.f iG,.f .aK,.f E,.f (fi 0),.f (fi 1440),.f (fi 0),.f .aK,.f (fi 0),.f (fi 1),.f (.fs [fi 0] 1),.f (fi m),.f (fi 0),.f (fi le),.f (fi 0)]=jl.map .f:=by rw[e_];rfl
    rw[c_]at A;have i4:(jl.map C.f).length=22:=by rw[<-c_];rfl
    apply ai;simp[x,z,g,B,S,u,(y J k0).1,(y J k0).2.2,(lh J).2,(p3 J).1,(lo J).2,(p5 J).1,(l2 J k2).1,i5,hO,cQ,-aq];obtain⟨J1,Z⟩:=aD (J++[bB.box (jl.map .f) 0]:aj);rw[c_,<-Z,<-hN];have d1:J1[N]?=aa (.box (jl.map .f) 0):=by rw[Z,hN];simp
    have m1:J1.length=N+1:=by rw[Z,hN];simp
    have i7:aQ J1 (aa 22) (.c (.ptr N 0 0))=aa (.a (jl.map .f)):=by simp only[aQ,aw,d1,aO];simp[show jl.length=22 by simpa using i4,afM]
    have g_:P J1 .aK:=by rw[Z];exact pp _ _ _ s
    obtain⟨J2,a⟩:=aD (J1++[bB.box [.f E] 0]:aj);have d_:P J2 .aK:=by rw[a];exact pp _ _ _ g_
    have d2:J2[N+1]?=aa (.box [.f E] 0):=by rw[a,<-m1];simp
    have m2:J2.length=N+2:=by rw[a];simp[m1]
    apply ai;simp[i7,A,m1,-aq];rw[<-a];apply ak;apply ai;simp;refine bc (by simp) ?_;have p:=d_;rw[e3]at p;obtain⟨-,q0,q1,q2,q3⟩:=p;obtain⟨J3,b_⟩:=aD (J2++[bB.box [.f E] 0]:aj);have h_:P J3 .aK:=by rw[b_];exact pp _ _ _ d_
    have d3:J3[N+2]?=aa (.box [.f E] 0):=by rw[b_,<-m2];simp
    apply ai;simp[d,l1 J2 3 _ q3,l1 J2 (N+1) _ d2,a8,m2,-aq];rw[<-b_];apply ak;apply ai;simp;refine bc (by simp) ?_;have r:=h_;rw[e3]at r;obtain⟨n3,r0,r1,r2,r3⟩:=r;have s3:cz J3 (.ptr 3 0 0) [.f E]=aa (J3.set 3 (.box [.f E] 0)):=by simp[cz,r3,bp]
    refine av (.inl rfl) ?_;simp[d,l1 J3 (N+2) _ d3,s3,-aq,-aU];refine aA (Y _ _ ⟨by simp[I],by simp[H],by simp[x],by simp[l],by simp[g],by simp[z],by simp[d],by simp[u],by simp[B],by simp[v],?_⟩ (by simp[S]));rw[e3,bG (by omega),o];exact⟨by simp;omega,by rw[ae2 (by omega)];exact r0,by rw[ae2 (by omega)];exact r1,by rw[ae2 (by omega)];exact r2,afC (au r3)⟩
   .rw[bG w]at o;simp[x,v,H,S,(y J k0).2.2,(lh J).2,(p3 J).2.1,(p3 J).2.2,show¬ ((m:Int)<0) by omega,bg (n:=(m:Int)+le),show 1440<(m:Int)+le by omega,-aq];refine al (by simp) (bT rfl ?_);exact Y _ _ ⟨by simp[I],by simp[H],by simp[x],by simp[l],by simp[g],by simp[z],by simp[d],by simp[u],by simp[B],by simp[v],by rw[bG (by omega),o];exact s⟩ (by simp[S])
  .rintro t J ⟨I,H,x,l,g,z,d,u,B,v,s⟩ f;exact aA (next _ _ ⟨by simp[I],by simp[H],by simp[x],by simp[l],by simp[g],by simp[z],by simp[d],s⟩ (by simp[u]))
 .rintro t K ⟨I,H,x,l,g,z,d,s⟩ ha;rw[bG (by omega),e3]at s;obtain⟨U,k0,k1,k2,k3⟩:=s;apply ai;simp;apply ak;apply ai;simp;refine bA 0 (λj t J=>t.g 6=.c (.ptr 1 0 0)/\t.g 8=.c (.ptr 2 0 0)/\t.g 11=.c (.ptr 3 0 0)/\t.g 21=.c (.f .aK)/\J=K) (by omega) rfl (by simp) ⟨by simp[l],by simp[g],by simp[d],by simp,rfl⟩ ?_ (λj t K hj=>by omega) ?_
  .rintro j t J L hj ⟨l,g,d,b9,rfl⟩ f hL;simp[f,g,(l2 J k2).2.2,ng0,-aq];exact hL _ ⟨by simp[l],by simp[g],by simp[d],by simp[b9],rfl⟩ (by simp[f]) (by simp)
  .rintro t J ⟨l,g,d,b9,rfl⟩ f;have s1:cz J (.ptr 1 0 0) [.f D]=aa (J.set 1 (.box [.f D] 0)):=by simp[cz,k1,bp]
   have w1:(J.set 1 (.box [.f D] 0))[1]?=aa (.box [.f D] 0):=afC (au k1);apply ai;simp[l,d,b9,l1 J 3 _ k3,i,i6,s1,-aq,-aU];refine az (hQ _ _ ?_);have i8:fC 64 (J.set 1 (.box [.f D] 0)) (.a [.f D])=aa (.a [.f D]):=by simp[fC,bX,aZ,deep]
   simp[Km.results,aZ,cu,l,aQ,aw,w1,aO,fC,bX,deep])
def Jn:bR:=⟨100,5,.nil,[]⟩
theorem Xc:nS Jn:=⟨by decide,by decide,by decide,rfl,λx b=>by simp[Jn]at b⟩
theorem Cy(p:jJ)(h:qB p):nw p.l0:=by
 obtain⟨a,b,c⟩:=aa7 p h;exact⟨a,b,c⟩
theorem ad7:aX tab SS []=Eq (vb ae):=du (by kernel_rfl)
theorem KA{x:aB}(h0:1<=x.meet)(b:0<=x.room/\x.room<=2)(d:0<=x.dg/\x.dg<=2)(g:1<=x.size/\x.size<=12)(h:da x.st=ae):ie 3 x=ae:=by
 simp[ie,bj,h];omega
theorem G8{x:aB}(h:iL x):ie 3 x=ae:=by
 obtain⟨m,r,t,z,n,p,mi,le,rfl,b⟩:=h;obtain⟨k,g,d⟩:=b.i0;exact KA b.m0 ⟨b.r0,b.r1⟩ ⟨b.t0,b.t1⟩ ⟨b.z0,b.z1⟩ (nz ⟨b.n0,b.n1,b.p0,b.p1⟩ (by omega) (by omega) (by have:=b.l0;omega) (by have:=b.l1;omega))
theorem Bi(af b:Int)(d:0<=af)(a1:af<=39)(g:0<=b)(j:b<=10080):ft (bQ af b)=0:=by
 simp[ft,bQ,kG,qn,eL,cG,bj,fk,jy,CB];omega
theorem QV{x y:aB}(h:fP x y):oF x y<0:=by
 unfold fP at h;rcases h with h|⟨h,b⟩
 .simp[oF,wz,dk,h]
 .simp[oF,wz,dk,h,b]
theorem C3:∀{L:List aB} {b:Option aB},L.Pairwise fP->(∀s∈L,iL s)->(∀m,b=aa m->∀s∈L,fP m s)->gw 3 b L=ae
 |[],_,_,_,_=>rfl
 |s::r,b,u,j,q=>by
  have g:=List.pairwise_cons.1 u;unfold gw;rw[G8 (j s afN),C3 g.2 (λx d=>j x (List.mem_cons_of_mem _ d)) λm l x d=>by cases l;exact g.1 x d];cases b with
  |none=>rfl| some m=>simpa using QV (q m rfl s afN)
theorem Xy(af b:Int)(d:0<=af)(a1:af<=39)(q:0<=b)(u:b<=10080){L:List aB}(v:L.length<=1000)(l:L.Pairwise fP)(g:∀s∈L,iL s):qh (bQ af b) L=ae:=by
 unfold qh;rw[Bi af b d a1 q u,show(bQ af b).length=3 from rfl,C3 l g (λm j=>by cases j)];simp;omega
theorem tI{sz:Nat}{rows:List (List FC)}(k:Nat)(b:cA sz rows)(d:k<=rows.length):rows.flatten.take (k*sz)=(rows.take k).flatten:=by
 have e:rows.flatten=(rows.take k).flatten++(rows.drop k).flatten:=by rw[<-List.flatten_append,List.take_append_drop]
 have g:(rows.take k).flatten.length=k*sz:=by rw[bW (λr j=>b r (agD j)),af2,Nat.min_eq_left d]
 rw[e,<-g,List.take_left]
def py(r:bZ):Prop:=aX tab zX [.a r.op] (vi 0)
def gW(l:List bZ)(a b:Int):Bool:=
 decide (ft l=0)&&bj a 0 ((l.length:Int)-1)&&bj b 0 ((l.length:Int)-1) &&
  match l[a.toNat]?,l[b.toNat]? with
  |some d,aa g=>gu a.toNat b.toNat d g| _,_=>ag
theorem sq{l:List bZ}(h:ft l=0){i:Nat}(hi:i<l.length):l[i].q.length<=64/\l[i].p.length<=64:=by
 have b:l.any kG=ag:=by
  cases b:l.any kG
  .rfl
  .simp[ft,b]at h
 have:=agW.1 b l[i] (afH hi);simp[kG]at this;omega
theorem O'(g:Tg)(l:List Int)(v:Int)(y:l.length<=9223372036854775807) :
  Kf tab Mr [.c (.f (sl g (ints l))),vi v] (vb (l.any (· == v))):=by
 refine cr rfl rfl λH Q s=>?_;apply ai;simp;apply ak;apply ai;simp;refine bA l.length (λj t H'=>t.g 0=.c (.f (sl g (ints l)))/\t.g 1=vi v/\H'=H/\l.any (· == v)=(l.drop j).any (· == v)) y rfl (by simp) (by simp) ?_ ?_ ?_
 .rintro j t _ L q ⟨h0,m,rfl,b⟩ d x;simp[d,h0];exact x _ (by simp[h0,m,b]) (by simp[d]) (by simp)
 .rintro j t _ q ⟨h0,m,rfl,b⟩ d next
  rw[afL q,List.any_cons]at b;refine aI ?_;apply ai;simp[h0,m,d,a7,q,kr];by_cases h:l[j]=v
  .refine al (by simp[h]) ?_;apply ai;simp;refine az (s _ _ ?_);simp[b,h]
  .refine aG (by simp[h]) ?_;refine aS (aA (next _ _ ?_ (by simp[d])));have u:(l[j] == v)=ag:=by simpa using h
   rw[u,ahr]at b;exact⟨by simp[h0],by simp[m],rfl,b⟩
 .rintro t _ ⟨h0,m,rfl,b⟩ d;apply ai;simp;refine az (s _ _ ?_);rw[b];simp
theorem wO(g:Tg)(l:List Int)(v:Int)(b:l.length<=9223372036854775807) :
  aX tab Mr [.c (.f (sl g (ints l))),vi v]=Eq (vb (l.any (· == v))):=(O' g l v b).eq
theorem cY{n lo hi:Int}(h:n<lo\/hi<n):bj n lo hi=ag:=by
 simp[bj];omega
theorem iq{n lo hi:Int}(h:lo<=n)(b:n<=hi):bj n lo hi=ae:=by
 simp[bj];omega
theorem Fp(g:Tg)(l:List bZ)(i:Nat)(hi:i<l.length)(hl:l.length<=6)(ho:∀r∈l,py r)(hq:l[i].q.length<=64)(hp:l[i].p.length<=64) :
  Kf tab Aa [.c (.f (sl g (rows l))),vi i] (vb (cG l i l[i])):=by
 refine cr rfl rfl λH Q hQ=>?_;obtain⟨r,hr⟩:=aD (l[i]);have hv:=aX.eq (ho _ (afH hi));rw[<-hr]at hv hq hp hQ;simp only[bZ.op]at hv;have a8:=bE (H:=H) (dt l) (gV hi);rw[<-hr]at a8;have fail:cG l i r=ag->∀t (J:aj) a,WP tab Aa ab (.code (.region [⟨D 4,.dr (.k (.c (.f (.bool ag)))),ab⟩] [])::.code .ret::a) ⟨t,[],H++J⟩ Q:=by
  intro hf t J a;refine av (.inl rfl) ?_;simp;refine az (hQ _ _ ?_);simp[hf]
 apply ai;simp;apply ai;simp[a7,hi,a8,bZ.row];apply ak;apply ai;simp;by_cases h1:r.cap<1
 .simp[h1];exact al (by simp) (ak (fail (by simp[cG,cY (.inl h1)]) _ _ _))
 simp[h1];by_cases h2:512<r.cap
 .simp[h2];exact al (by simp) (ak (fail (by simp[cG,cY (.inr h2)]) _ _ _))
 simp[h2];by_cases h3:r.jK<0
 .simp[h3];exact al (by simp) (ak (fail (by simp[cG,cY (.inl h3)]) _ _ _))
 simp[h3];by_cases h4:1440<r.jK
 .simp[h4];exact al (by simp) (ak (fail (by simp[cG,cY (.inr h4)]) _ _ _))
 simp[h4];by_cases h5:r.oA<0
 .simp[h5];exact al (by simp) (ak (fail (by simp[cG,cY (.inl h5)]) _ _ _))
 simp[h5];by_cases h6:1440<r.oA
 .simp[h6];exact al (by simp) (ak (fail (by simp[cG,cY (.inr h6)]) _ _ _))
 simp[h6,hv];have K:bj r.cap 1 512=ae/\bj r.jK 0 1440=ae/\bj r.oA 0 1440=ae:=⟨iq (by omega) (by omega),iq (by omega) (by omega),iq (by omega) (by omega)⟩
 refine aG (by simp) ?_;refine aS ?_;apply ak;obtain⟨z,E⟩:=aD ([C.f (fi r.cap),C.f (fi r.jK),C.f (fi r.oA),C.f r.o0,C.f r.o1,C.f r.o2,C.f r.o3,C.f r.o4,C.f r.o5,C.f r.o6,C.f r.o7,C.f r.o8,C.f r.o9,C.f (sl r.qg (fW r.q)),C.f (sl r.pg (ints r.p))]);rw[<-E];have F:z.drop 13=[C.f (sl r.qg (fW r.q)),C.f (sl r.pg (ints r.p))]:=by rw[E];rfl
 have I:z.drop 14=[C.f (sl r.pg (ints r.p))]:=by rw[E];rfl
 apply ai;simp;refine bA r.q.length (λj t H'=>t.g 0=.c (.f (sl g (rows l)))/\t.g 1=vi i/\t.g 5=.c (.ptr H.length 0 0)/\(∃J,H'=H++(.box z 0::J))/\
  ∃b,-1<=b/\b<=63/\(∀m,j=m+1->∀h:m<r.q.length,b=(r.q[m]'h).1)/\(j=0->b = -1)/\fk (-1) r.q=fk b (r.q.drop j)) (by omega) rfl (by simp) ⟨by simp,by simp,by simp,⟨[],by simp⟩,-1,by omega,by omega,by omega,λ_=>rfl,by simp⟩ ?_ ?_ ?_
 .rintro j t _ L S ⟨h0,B,x,⟨J,rfl⟩,b,Z,l2,M,N,y⟩ v hL;simp[v,x,F];exact hL _ ⟨by simp[h0],by simp[B],by simp[x],⟨_,rfl⟩,b,Z,l2,M,N,y⟩ (by simp[v]) (by simp)
 .rintro j t _ S ⟨h0,B,x,⟨J,rfl⟩,b,Z,l2,M,N,y⟩ v next
  rw[rW S]at y;have q:bj r.q[j].1 (b+1) 63=ag\/bj r.q[j].2 0 10080=ag->cG l i r=ag:=by
   intro h;rcases h with h|h<;>simp[cG,y,h]
  refine aI ?_;apply ai;simp[v,x,F,a7,S,bE (nH r.q) (rT S)];apply ai;simp;by_cases k1:r.q[j].1<0
  .simp[k1];exact al (by simp) (ak (fail (q (.inl (cY (by omega)))) _ _ _))
  simp[k1];by_cases k2:63<r.q[j].1
  .simp[k2];exact al (by simp) (ak (fail (q (.inl (cY (by omega)))) _ _ _))
  simp[k2];by_cases Y:r.q[j].2<0
  .simp[Y];exact al (by simp) (ak (fail (q (.inr (cY (by omega)))) _ _ _))
  simp[Y];by_cases k4:10080<r.q[j].2
  .simp[k4];exact al (by simp) (ak (fail (q (.inr (cY (by omega)))) _ _ _))
  simp[k4,v];have go:b<r.q[j].1->∃s,-1<=s/\s<=63/\(∀m,j+1=m+1->∀h:m<r.q.length,s=(r.q[m]'h).1)/\(j+1=0->s = -1)/\fk (-1) r.q=fk s (r.q.drop (j+1)):=by
   intro b_;rw[iq (by omega) (by omega),iq (by omega) (by omega)]at y;refine⟨r.q[j].1,by omega,by omega,λm U h=>?_,by omega,by simpa using y⟩;have:m=j:=by omega
   subst this;rfl
  cases j with
  |zero=>
   simp;refine aG (by simp) ?_;refine aS (aA (next _ _ ?_ (by simp[v])));exact⟨by simp[h0],by simp[B],by simp[x],⟨_,rfl⟩,go (by have:=N rfl;omega)⟩
  |succ m=>
   have U:m<r.q.length:=by omega
   have b9:=M m rfl U;have A:=kU (H:=H++(bB.box z 0 ::(J++[bB.box [C.f (fi r.q[m+1].1),C.f (fi r.q[m+1].2)] 0]))) (nH r.q) (rT U) rfl;have e1:((m+1:Nat):Int)-1=m:=by omega
   simp[show 0<m+1 by omega,v,e1,bg (n:=(m:Int)),x,F,a7,U,A];by_cases k5:r.q[m+1].1<=r.q[m].1
   .simp[k5];exact al (by simp) (ak (fail (q (.inl (cY (by omega)))) _ _ _))
   .simp[k5];refine aG (by simp) ?_;refine aS (aA (next _ _ ?_ (by simp[v])));exact⟨by simp[h0],by simp[B],by simp[x],⟨_,rfl⟩,go (by omega)⟩
 .rintro t _ ⟨h0,B,x,⟨J,rfl⟩,b,Z,l2,M,N,y⟩ v;have a_:fk (-1) r.q=ae:=by rw[y];simp[fk]
  apply ak;apply ai;simp;refine bA r.p.length (λj t H'=>t.g 0=.c (.f (sl g (rows l)))/\t.g 1=vi i/\t.g 5=.c (.ptr H.length 0 0)/\(∃J,H'=H++(.box z 0::J))/\
   ∃b,-1<=b/\b<=6/\(∀m,j=m+1->∀h:m<r.p.length,b=r.p[m]'h)/\(j=0->b = -1)/\jy l i (-1) r.p=jy l i b (r.p.drop j)) (by omega) rfl (by simp)
   ⟨by simp[h0],by simp[B],by simp[x],⟨J,rfl⟩,-1,by omega,by omega,by omega,λ_=>rfl,by simp⟩ ?_ ?_ ?_
  .rintro j t _ L S ⟨h0,B,x,⟨J,rfl⟩,b,Z,l2,M,N,y⟩ v hL;simp[v,x,I];exact hL _ ⟨by simp[h0],by simp[B],by simp[x],⟨_,rfl⟩,b,Z,l2,M,N,y⟩ (by simp[v]) (by simp)
  .rintro j t _ S ⟨h0,B,x,⟨J,rfl⟩,b,Z,l2,M,N,y⟩ v next
   rw[ua S]at y;have d:bj r.p[j] (b+1) ((l.length:Int)-1)=ag\/r.p[j]=i\/CB l r.p[j]≠0->cG l i r=ag:=by
    intro h;rcases h with h|h|h<;>simp[cG,y,h]
   refine aI ?_;apply ai;simp[v,x,I,a7,S,kr];apply ai;simp;by_cases k1:r.p[j]<0
   .simp[k1];exact al (by simp) (ak (fail (d (.inl (cY (by omega)))) _ _ _))
   simp[k1,h0];by_cases k2:(l.length:Int)<=r.p[j]
   .simp[k2];exact al (by simp) (ak (fail (d (.inl (cY (by omega)))) _ _ _))
   simp[k2,B];by_cases Y:r.p[j]=i
   .simp[Y];exact al (by simp) (ak (fail (d (.inr (.inl Y))) _ _ _))
   simp[Y,v];have hk:r.p[j].toNat<l.length:=by omega
   have A:=dw (H:=H++(.box z 0::J)) (k:=14) (dt l) (gV hk) rfl;have c_:=GV (l:=l) (p:=r.p[j]) (by omega) hk;have O:=λH:aj=>a7 (H:=H) (g:=g) (rows:=rows l) (sz:=15) (k:=.i64) (i:=r.p[j]) (by omega) (by simp;omega);have u:∀T:T,T.g 0=.c (.f (sl g (rows l)))->T.g 1=vi i->T.g 5=.c (.ptr H.length 0 0)->T.g 8=vi j->T.g 141=vb (decide (0<(l[r.p[j].toNat].p.length:Int)))->b<r.p[j]->
     WP tab Aa ab (.code HI::.inBlock 3::.code (mo 8 99 100)::.inLoop (gU 2 8 98 99 100 [⟨D 94,.dr (R 8),ab⟩,⟨D 95,.fL 14 (R 5),ab⟩,⟨D 96,.load ab (R 95),ab⟩,⟨D 97,.len (R 96),ab⟩,⟨D 98,.bin .lss (R 94) (R 97),ab⟩] HH)::.inBlock 2::[.code HK]) ⟨T,[],H++(.box z 0::J)⟩ Q:=by
    intro T t0 t1 t5 t8 W b_;by_cases k6:CB l r.p[j]=0
    .have X:l[r.p[j].toNat].p.length=0:=by omega
     refine aG (by simp[W,X]) ?_;refine aS (aA (next _ _ ?_ t8));rw[iq (by omega) (by omega)]at y;simp[Y,k6]at y;refine⟨by simp[t0],by simp[t1],by simp[t5],⟨_,rfl⟩,r.p[j],by omega,by omega,λm U h=>?_,by omega,y⟩;have:m=j:=by omega
     subst this;rfl
    .have X:0<(l[r.p[j].toNat].p.length:Int):=by omega
     exact al (by rw[Iv,W,decide_eq_true X]) (ak (fail (d (.inr (.inr k6))) _ _ _))
   cases j with
   |zero=>
    simp[h0,O,A];exact u _ (by simp[h0]) (by simp[B]) (by simp[x]) (by simp[v]) (by simp) (by have:=N rfl;omega)
   |succ m=>
    have U:m<r.p.length:=by omega
    have b9:=M m rfl U;have e1:((m+1:Nat):Int)-1=m:=by omega
    simp[show 0<m+1 by omega,v,e1,bg (n:=(m:Int)),x,I,a7,U,kr];by_cases k5:r.p[m+1]<=r.p[m]
    .simp[k5];exact al (by simp) (ak (fail (d (.inl (cY (by omega)))) _ _ _))
    .simp[k5,h0,O,A];exact u _ (by simp[h0]) (by simp[B]) (by simp[x]) (by simp[v]) (by simp) (by omega)
  .rintro t _ ⟨h0,B,x,⟨J,rfl⟩,b,Z,l2,M,N,y⟩ v;have a9:jy l i (-1) r.p=ae:=by rw[y];simp[jy]
   apply ai;simp;refine az (hQ _ _ ?_);simp[cG,K,a_,a9]
theorem Fq(g:Tg)(l:List bZ)(i:Nat)(hi:i<l.length)(b:l.length<=6)(d:∀r∈l,py r)(m:l[i].q.length<=64)(j:l[i].p.length<=64) :
  aX tab Aa [.c (.f (sl g (rows l))),vi i]=Eq (vb (cG l i l[i])):=(Fp g l i hi b d m j).eq
theorem By{b:Type}{l:List b}{p:b->Bool}{j:Nat}(d:j<l.length):(l.drop j).any p=(p l[j]||(l.drop (j+1)).any p):=by
 rw[afL d,List.any_cons]
theorem Kn(g:Tg)(l:List bZ)(K:l.length<=6)(B:∀r∈l,py r):Kf tab DA [.c (.f (sl g (rows l)))] (vi (ft l)):=by
 refine cr rfl rfl λH Q s=>?_;apply ai;simp;apply ak;apply ai;have q:¬ (256:Int)<l.length:=by omega
 simp[q];refine aG (by simp) ?_;refine aS ?_;apply ak;apply ai;simp;refine bA l.length (λj t H'=>t.g 0=.c (.f (sl g (rows l)))/\H=H'/\l.any kG=(l.drop j).any kG) (by omega) rfl (by simp) (by simp) ?_ ?_ ?_
 .rintro j t _ L m ⟨h0,rfl,b⟩ d u;simp[d,h0];exact u _ ⟨by simp[h0],rfl,b⟩ (by simp[d]) (by simp)
 .rintro j t _ m ⟨h0,rfl,b⟩ d next
  rw[By m]at b;have F:=aX.eq (B _ (afH m));have I:=dw (H:=H) (k:=13) (dt l) (gV m) rfl;have J:=dw (H:=H) (k:=14) (dt l) (gV m) rfl;have A:=uI (H:=H) (k:=3) (n:=10) (dt l) (gV m) (by omega);simp only[bZ.row,List.drop_succ_cons,List.drop_zero,List.take_succ_cons,List.take_zero,afS,afW]at A;simp only[bZ.op]at F;refine aI ?_;apply ai;simp[h0,d,a7,m,I];by_cases y:(64:Int)<l[j].q.length
  .simp[y];refine al (by simp) ?_;apply ai;simp;refine az (s _ _ ?_);simp[ft,b,kG,y]
  simp[y,h0,d,a7,m,J];by_cases z:(64:Int)<l[j].p.length
  .simp[z];refine al (by simp) ?_;apply ai;simp;refine az (s _ _ ?_);simp[ft,b,kG,z]
  simp[z,h0,d,a7,m,A,F];refine aG (by simp) ?_;refine aS (aA (next _ _ ?_ (by simp[d])));refine⟨by simp[h0],rfl,?_⟩;have:kG l[j]=ag:=by simp[kG];omega
  rw[b,this];rfl
 .rintro t _ ⟨h0,rfl,b⟩ d;have v:l.any kG=ag:=by rw[b];simp
  apply ak;apply ai;simp;refine bA l.length (λj t H'=>t.g 0=.c (.f (sl g (rows l)))/\H=H'/\eL l 0 l=eL l j (l.drop j)) (by omega) rfl (by simp) (by simp[h0]) ?_ ?_ ?_
  .rintro j t _ L m ⟨h0,rfl,b⟩ d u;simp[d,h0];exact u _ ⟨by simp[h0],rfl,b⟩ (by simp[d]) (by simp)
  .rintro j t _ m ⟨h0,rfl,b⟩ d next
   rw[oB m]at b;have x:kG l[j]=ag:=by
    have:=agW.1 v l[j] (afH m);simpa using this
   simp only[kG,Bool.or_eq_false_iff,decide_eq_false_iff_not]at x;refine aI ?_;apply ai;simp[h0,d,Fq g l j m K B (by omega) (by omega)];cases E:cG l j l[j]
   .refine al (by simp) ?_;apply ai;simp;refine az (s _ _ ?_);simp[ft,v,b,E]
   .refine aG (by simp) ?_;refine aS (aA (next _ _ ?_ (by simp[d])));simp[E]at b;exact⟨by simp[h0],rfl,b⟩
  .rintro t _ ⟨h0,rfl,b⟩ d;apply ai;simp;refine az (s _ _ ?_);simp[ft,v,b,eL]
theorem zw(g:Tg)(l:List bZ)(b:l.length<=6)(d:∀r∈l,py r):aX tab DA [.c (.f (sl g (rows l)))]=Eq (vi (ft l)):=(Kn g l b d).eq
theorem Fe(g:Tg)(l:List bZ)(a b:Int)(Z:l.length<=6)(ho:∀r∈l,py r) :
  Kf tab zZ [.c (.f (sl g (rows l))),vi a,vi b] (vb (gW l a b)):=by
 refine cr rfl rfl λH Q O=>?_;have fail:gW l a b=ag->∀t k,WP tab zZ ab (.code (.region [⟨D 6,.dr (.k (.c (.f (.bool ag)))),ab⟩] [])::.code .ret::k) ⟨t,[],H⟩ Q:=by
  intro E t k;refine av (.inl rfl) ?_;simp;refine az (O _ _ ?_);simp[E]
 have d:gW l a b=ae->∀t k,WP tab zZ ab (.code (.region [⟨D 6,.dr (.k (.c (.f (.bool ae)))),ab⟩] [])::.code .ret::k) ⟨t,[],H⟩ Q:=by
  intro E t k;refine av (.inl rfl) ?_;simp;refine az (O _ _ ?_);simp[E]
 apply ai;simp;apply ak;apply ai;simp[zw g l Z ho];by_cases u:ft l=0
 case neg=>
  simp[u];exact al (by simp) (ak (fail (by simp[gW,u]) _ _))
 simp[u];by_cases I:a<0
 .simp[I];exact al (by simp) (ak (fail (by simp[gW,cY (.inl I)]) _ _))
 simp[I];by_cases S:(l.length:Int)<=a
 .simp[S];exact al (by simp) (ak (fail (by simp[gW,cY (n:=a) (lo:=0) (hi:=(l.length:Int)-1) (by omega)]) _ _))
 simp[S];by_cases U:b<0
 .simp[U];exact al (by simp) (ak (fail (by simp[gW,cY (n:=b) (lo:=0) (hi:=(l.length:Int)-1) (by omega)]) _ _))
 simp[U];by_cases W:(l.length:Int)<=b
 .simp[W];exact al (by simp) (ak (fail (by simp[gW,cY (n:=b) (lo:=0) (hi:=(l.length:Int)-1) (by omega)]) _ _))
 simp[W];refine aG (by simp) ?_;refine aS ?_;obtain⟨i,rfl⟩:∃i:Nat,a=i:=⟨a.toNat,by omega⟩
 obtain⟨k,rfl⟩:∃k:Nat,b=k:=⟨b.toNat,by omega⟩
 have hi:i<l.length:=by omega
 have y:k<l.length:=by omega
 have X:gW l i k=gu i k l[i] l[k]:=by
  simp[gW,u,iq (n:=(i:Int)) (lo:=0) (hi:=(l.length:Int)-1) (by omega) (by omega),iq (n:=(k:Int)) (lo:=0) (hi:=(l.length:Int)-1) (by omega) (by omega),hi,y]
 rw[X]at fail d;have q1:=(sq u hi).2;have q2:=(sq u y).2;have A:=dw (H:=H) (k:=14) (dt l) (gV hi) rfl;have N:=dw (H:=H) (k:=14) (dt l) (gV y) rfl;apply ak;apply ai;simp;by_cases z:i=k
 .simp[z];exact al (by simp) (ak (d (by simp[gu,z]) _ _))
 simp[z,a7,hi,A,wO _ l[i].p _ (by omega)];cases J:l[i].p.any (· ==(k:Int))
 case true=>
  simp;exact al (by simp) (ak (d (by simp[gu,J]) _ _))
 simp[a7,y,N,wO _ l[k].p _ (by omega)];cases K:l[k].p.any (· ==(i:Int))
 case true=>
  exact al (by simp) (ak (d (by simp[gu,K]) _ _))
 refine aG (by simp) ?_;refine aS ?_;apply ak;apply ai;simp;refine bA l[i].p.length (λj t H'=>t.g 0=.c (.f (sl g (rows l)))/\t.g 1=vi i/\t.g 2=vi k/\H=H'/\(l[i].p.any λx=>l[k].p.any (· == x))=(l[i].p.drop j).any λx=>l[k].p.any (· == x)) (by omega) rfl (by simp) (by simp) ?_ ?_ ?_
 .rintro j t _ L F ⟨h0,q,v,rfl,m⟩ s Y;simp[s,h0,q,a7,hi,A];exact Y _ ⟨by simp[h0],by simp[q],by simp[v],rfl,m⟩ (by simp[s]) (by simp)
 .rintro j t _ F ⟨h0,q,v,rfl,m⟩ s next
  rw[By F]at m;refine aI ?_;apply ai;simp[h0,q,v,s,a7,hi,y,A,N,F,kr,wO _ l[k].p _ (by omega)];cases M:l[k].p.any (· == l[i].p[j])
  .refine aG (by simp) ?_;refine aS (aA (next _ _ ?_ (by simp[s])));rw[M,ahr]at m;exact⟨by simp[h0],by simp[q],by simp[v],rfl,m⟩
  .exact al (by simp) (ak (d (by simp[gu,m,M]) _ _))
 .rintro t _ ⟨h0,q,v,rfl,m⟩ s;have B:(l[i].p.any λx=>l[k].p.any (· == x))=ag:=by rw[m];simp
  exact ak (fail (by simp[gu,z,J,K,B]) _ _)
def yK(x y:aB):Bool:=decide (x.meet<y.meet)||(decide (x.meet=y.meet)&&decide (x.room<y.room))
theorem NF(x y:aB):aX tab VO [.a (x.row.map .f),.a (y.row.map .f)]=Eq (vb (yK x y)):=by
 refine Kf.eq (cr rfl rfl λH Q g=>?_);apply ai;simp[aB.row];apply ai;by_cases b:x.meet<y.meet
 .simp[b];refine az (g _ _ ?_);simp[yK,b]
 .by_cases d:x.meet=y.meet
  .simp[b,d];refine az (g _ _ ?_);simp[yK,b,d]
  .simp[b,d];refine az (g _ _ ?_);simp[yK,b,d]
theorem JB(g:Tg)(l:List aB)(X:l.length<=1000)(s:aB):aX tab VS [.c (.f (sl g (an l))),.a (s.row.map .f)]=Eq (vb (l.any λx=>cj x s)):=Kf.eq (by
 refine cr rfl rfl λH Q M=>?_;apply ai;simp[aB.row];obtain⟨I,u⟩:=aD (H++[.box [.f (fi s.meet),.f (fi s.room),.f (fi s.dg),.f (fi s.size),.f (sl s.st.cg (aP s.st.cs)),.f (fi s.st.len),.f (sl s.st.xg (aC s.st.xs))] 0]:aj);have K:I[H.length]?=aa (.box [.f (fi s.meet),.f (fi s.room),.f (fi s.dg),.f (fi s.size),.f (sl s.st.cg (aP s.st.cs)),.f (fi s.st.len),.f (sl s.st.xg (aC s.st.xs))] 0):=by rw[u];simp
 have z:∃J,I=H++J:=⟨_,u⟩
 rw[<-u];apply ak;apply ai;simp;refine bA l.length (λj t H'=>t.g 0=.c (.f (sl g (an l)))/\t.g 3=.c (.ptr H.length 0 0)/\H'=I/\∀(q:Nat) (y:q<l.length),q<j->cj l[q] s=ag) (by omega) rfl (by simp) ⟨by simp,by simp,rfl,by simp⟩ ?_ ?_ ?_
 .rintro j t _ L v ⟨g0,m,rfl,b⟩ d O;simp[d,g0];exact O _ ⟨by simp[g0],by simp[m],rfl,b⟩ (by simp[d]) (by simp)
 .rintro j t _ v ⟨g0,m,rfl,b⟩ d next
  have E:=λH:aj=>kU (H:=H) (aR l) (bD v) rfl;have F:=λH:aj=>dw (H:=H) (k:=1) (aR l) (bD v) rfl
  try simp at E F
  have N:cj l[j] s=ag->∀(q:Nat) (y:q<l.length),q<j+1->cj l[q] s=ag:=λS q y U=>by
   by_cases e:q=j
   .subst e;exact S
   .exact b q y (by omega)
  refine aI ?_;apply ai;by_cases A:l[j].meet=s.meet
  .by_cases B:l[j].room=s.room
   .simp[d,g0,m,K,a7,v,E,F,A,B];refine al (by simp) (ai ?_);simp;refine az (M _ _ ?_);have:(l.any λx=>cj x s)=ae:=by
     rw[List.any_eq_true];exact⟨l[j],afH v,pH.2 ⟨A,B⟩⟩
    simp[this,z]
   .simp[d,g0,m,K,a7,v,E,F,A,B];refine aG (by simp) (aS (aA (next _ _ ⟨by simp[g0],by simp[m],rfl,N ?_⟩ (by simp[d]))));simp[cj,B]
  .simp[d,g0,m,K,a7,v,E,F,A];refine aG (by simp) (aS (aA (next _ _ ⟨by simp[g0],by simp[m],rfl,N ?_⟩ (by simp[d]))));simp[cj,A]
 .rintro t _ ⟨g0,m,rfl,b⟩ d;apply ai;simp;refine az (M _ _ ?_);have:(l.any λx=>cj x s)=ag:=by
   rw[agW];intro x W;obtain⟨q,y,rfl⟩:=agd W;simp[b q y y]
  simp[this,z])
def f17(p mi le:Int)(ok:Bool):aE:=if ok then⟨p,p*1440+mi,p*1440+mi+le⟩else⟨0,0,0⟩
theorem R3(j l m B:FC)(p mi le:Int)(ok:Bool)(q:aX tab 232 [.a [.f B],vi 0]=Eq (.t [vi p,vb ok]))(x:0<=p)(y:p<=100)(u:0<=mi)(v:mi<=2000)(l0:0<=le)(s:le<=20000) :
  aX tab VK [.a [.f j,.f (fi le),.f l],.a [.f m,.f (fi mi)],.a [.f B]]=Eq (.t [.a ((f17 p mi le ok).row.map .f),vb ok]):=aX.eq (by
 refine bH rfl rfl λQ g=>?_;apply ai;simp;apply ai;simp[q];apply ak;apply ai;cases ok with
 |false=>
  simp;refine al (by simp) ?_;apply ai;simp;refine az (g _ _ ?_);simp[f17,aE.row,fC,bX,aZ,Km.results,deep]
 |true=>
  simp[show¬ (2199023255552<p) by omega];refine bc (by simp) ?_;apply ai;simp[bg (n:=p*1440),bg (n:=p*1440+mi)];apply ai;simp[bg (n:=p*1440+mi+le)];refine ak (dy (.inl rfl) ?_ ?_)
  case refine_2=>
   intro cc d;have b:cc=(3,7):=by simpa using d
   rw[b];refine⟨by decide,_,rfl,.inl ⟨by decide,?_⟩⟩;simp[fO,V.beq,C.beq,FC.beq]
  simp;refine az (g _ _ ?_);simp[f17,aE.row,fC,bX,aZ,Km.results,deep];omega)
theorem Tw{m r t z n p mi le:Int}(h:mP n p)(j:0<=mi)(l:mi<=1180)(b:1<=le)(d:le<=10080):aX tab ns [.a ((jv m r t z n p mi le).st.row.map .f)]=Eq (vb ae):=by
 rw[wP _ (Az m r t z n p mi le) λc g=>by
  rw[show c=⟨.fs,[td n p],mi⟩ from afO.1 g];rw[FG h];exact A' h,nz h j l b d]
theorem XV{l:List aE}{x:aE}(b:l.length<=1)(h:∀y,y∈l↔y=x\/y∈([]:List aE)):l=[x]:=by
 match l,b with
 |[],_=>exact absurd ((h x).2 (.inl rfl)) (by simp)
 |[y],_=>
  have:=(h y).1 (by simp);simp at this;rw[this]
theorem Kk{n p:Int}(hs:mP n p){k:Nat}(hk:k<60)(le:Int)(e0:1<=le)(e1:le<=10080) :
  aX tab VH [.a (cQ.map .f),.a ((qU n p (20*k:Nat) le).map .f)]=Eq (.t [vb (decide ((20*k:Nat)+le<=1440)),.a ((fU n p (20*k:Nat) le).row.map .f),vi 0]):=aX.eq (by
 obtain⟨m,hm⟩:=aD (20*k:Nat);have hd:=O3 hk le e0 e1;have W:=Tw (m:=1) (r:=0) (t:=0) (z:=1) hs (mi:=(20*k:Nat)) (le:=le) (by omega) (by omega) e0 e1;rw[G9]at W;rw[<-hm]at hd W ⊢;have i9:m<=1180:=by omega
 obtain⟨b1,b2,b3,b4⟩:=hs;have hs:mP n p:=⟨b1,b2,b3,b4⟩
 obtain⟨f_,i4,X,-⟩:=G0;have eO:Cs=.a (cQ.map .f):=rfl;rw[eO]at X;obtain⟨ok,d_⟩:=aD (decide ((m:Int)+le<=1440):Bool);obtain⟨B,hB⟩:=aD (if ok then .aK else fY n p:FC);obtain⟨D,hD⟩:=aD (dC (m:Int) le);rw[<-hD]at hd;have f7:aX tab 150 [.a [.f (fY n p)],.a [.f D]]=Eq (.t [.a [.f B],vi 0]):=by
  rw[hD,hB,d_];unfold dC;by_cases h:(m:Int)+le<=1440
  .simp only[h,if_true,decide_true];exact Pg hs
  .simp only[h,if_false,decide_false,afR];exact Pj hs
 have e9:aX tab 151 [.a [.f B]]=Eq (vb ok):=by
  rw[hB];cases ok with
  |true=>exact f_| false=>exact Ka hs
 have d9:aX tab 232 [.a [.f B],vi 0]=Eq (.t [vi (if ok then 0 else p),vb (!ok)]):=by
  rw[hB];cases ok with
  |true=>exact i4| false=>exact Pk hs
 obtain⟨x,hx⟩:=aD (f17 (if ok then 0 else p) m le (!ok));have hf:=R3 (.fs [fY n p,fi m] 1) .aK (fY n p) B _ m le _ d9 (by split<;>omega) (by split<;>omega) (by omega) (by omega) (by omega) (by omega);rw[<-hx]at hf;have i7:x=fU n p m le:=by
  rw[hx];unfold f17 fU;by_cases h:(m:Int)+le<=1440<;>simp[d_,h]
 rw[<-i7,<-d_];obtain⟨g',l',U,⟨-,g_⟩,I⟩:=GZ .nil [] x (by decide) List.Pairwise.nil;rw[XV U g_]at I;refine bH rfl rfl λQ hQ=>?_;obtain⟨O,hO⟩:=aD (cQ:List FC);have i5:O.length=10:=by rw[hO];rfl
 rw[<-hO]at X hd ⊢;obtain⟨S,hS⟩:=aD (qU n p m le);rw[<-hS]at W ⊢;obtain⟨M,hM⟩:=aD (fY n p);have sE:S.map C.f=[.f (.fs [M,fi m] 1),.f (fi le),.f .aK]:=by rw[hS,hM];rfl
 rw[<-hM]at f7 hf;clear hS hB;have i8:x.row.map C.f=[.f (fi x.day),.f (fi x.fr),.f (fi x.to)]:=rfl;rw[i8]at hf I hQ;have f8:∀K:aj,K[0]?=aa (.box (O.map .f) 0)->aQ K (aa 10) (.c (.ptr 0 0 0))=aa (.a (O.map .f)):=λK h=>by simp[aQ,aw,h,aO,i5,afM]
 have l3:∀K:aj,K[1]?=aa (.box (S.map .f) 0)->aQ K (aa 3) (.c (.ptr 1 0 0))=aa (.a (S.map .f))/\aQ K ab (.c (.ptr 1 0 0))=aa (.c (.f (.fs [M,fi m] 1)))/\aQ K ab (.c (.ptr 1 1 0))=aa (vi le)/\aQ K ab (.c (.ptr 1 2 0))=aa (.c (.f .aK)):=λK h=>by
  rw[sE]at h ⊢;refine⟨?_,?_,?_,?_⟩<;>simp[aQ,aw,h,aO]
 have l1:∀(K:aj) (b:Nat) (F:FC),K[b]?=aa (.box [.f F] 0)->aQ K (aa 1) (.c (.ptr b 0 0))=aa (.a [.f F]):=λK b F h=>by simp[aQ,aw,h,aO]
 have l5:∀(K:aj) (b:Nat),K[b]?=aa (.box [.f M,.f (fi m)] 0)->aQ K ab (.c (.ptr b 1 0))=aa (vi m)/\aQ K (aa 1) (.c (.ptr b 0 0))=aa (.a [.f M])/\aQ K (aa 2) (.c (.ptr b 0 0))=aa (.a [.f M,.f (fi m)]):=λK b h=>by refine⟨?_,?_,?_⟩<;>simp[aQ,aw,h,aO]
 rw[sE]at l3 W ⊢;apply ai;simp;obtain⟨H0,u⟩:=aD ([.box (O.map .f) 0,.box [.f (.fs [M,fi m] 1),.f (fi le),.f .aK] 0,.box [.f (fi 0),.f (fi 0),.f (fi 0)] 0]:aj);have n0:H0.length=3:=by rw[u];rfl
 have z0:H0[0]?=aa (.box (O.map .f) 0):=by rw[u];rfl
 have z1:H0[1]?=aa (.box [.f (.fs [M,fi m] 1),.f (fi le),.f .aK] 0):=by rw[u];rfl
 have z2:H0[2]?=aa (.box [.f (fi 0),.f (fi 0),.f (fi 0)] 0):=by rw[u];rfl
 rw[<-u];apply ak;apply ai;simp[f8 _ z0,X,(l3 _ z1).1,W,-aq];refine bc (by simp) ?_;apply ai;simp;apply ai;simp;apply ak;apply ai;simp;have U:∀K:aj,bo K (.f (.fs [M,fi m] 1))=aa 1/\bw K 2 ab (.c (.f (.fs [M,fi m] 1))) (vi 0)=aa (.c (.f (.fp [M,fi m] 0)))/\aQ K (aa 2) (.c (.f (.fp [M,fi m] 0)))=aa (.a [.f M,.f (fi m)]):=λK=>⟨rfl,rfl,rfl⟩
 obtain⟨L,A⟩:∃L:Nat->FC,L=λj=>if j=0 then .aK else if ok then .aK else sl g' (aC [x]):=⟨_,rfl⟩
 refine bA 1 (λj t K=>t.g 2=.c (.ptr 0 0 0)/\t.g 3=.c (.ptr 1 0 0)/\t.g 5=.c (.ptr 2 0 0)/\t.g 7=vb (decide (j=0)||ok)/\t.g 8=.c (.f (L j))/\Kp H0 K) (by omega) rfl (by simp) ⟨by simp,by simp,by simp,by simp,by simp[A],Kp.refl _⟩ ?_ ?_ ?_
 .rintro j t K J hj ⟨g2,l,s,d,q,hK⟩ ha hL;simp[ha,l,(l3 K (hK.get z1)).2.1,(U K).1,-aq];exact hL _ ⟨by simp[g2],by simp[l],by simp[s],by simp[d],by simp[q],hK⟩ (by simp[ha]) (by simp<;>omega)
 .rintro j t K hj ⟨g2,l,s,d,q,hK⟩ ha next
  obtain rfl:j=0:=by omega
  have b_:t.g 9=vi 0:=ha;have Y:t.g 8=.c (.f .aK):=by rw[q,A];rfl
  have a_:t.g 7=vb ae:=by rw[d];rfl
  obtain⟨N,hN⟩:=aD (K.length);obtain⟨K1,Z⟩:=aD (K++[bB.box [.f M,.f (fi m)] 0]:aj);have k1:Kp K K1:=by rw[Z];exact Kp.push _ _
  have d1:K1[N]?=aa (.box [.f M,.f (fi m)] 0):=by rw[Z,hN];simp
  have m1:K1.length=N+1:=by rw[Z,hN];simp
  refine aI ?_;apply ai;simp[l,b_,(l3 K (hK.get z1)).2.1,(U K).2.1,(U K).2.2,-aq];rw[<-Z,<-hN];have v:=hK.tr k1;obtain⟨K2,a8⟩:=aD (K1++[bB.box [.f D] 0]:aj);have k2:Kp K1 K2:=by rw[a8];exact Kp.push _ _
  have d2:K2[N+1]?=aa (.box [.f D] 0):=by rw[a8,<-m1];simp
  have m2:K2.length=N+2:=by rw[a8];simp[m1]
  apply ai;simp[g2,l,f8 _ (v.get z0),(l5 _ _ d1).1,(l3 K1 (v.get z1)).2.2.1,hd,m1,-aq];rw[<-a8];apply ak;apply ai;simp;refine bc (by simp) ?_;obtain⟨K3,a9⟩:=aD (K2++[bB.box [.f B] 0]:aj);have k3:Kp K2 K3:=by rw[a9];exact Kp.push _ _
  have d3:K3[N+2]?=aa (.box [.f B] 0):=by rw[a9,<-m2];simp
  have m3:K3.length=N+3:=by rw[a9];simp[m2]
  apply ai;simp[(l5 _ _ (k2.get d1)).2.1,l1 _ _ _ d2,f7,m2,-aq];rw[<-a9];apply ak;apply ai;simp;refine bc (by simp) ?_;have y:=(v.tr k2).tr k3;apply ai;simp[a_,l1 _ _ _ d3,e9,-aq];obtain⟨K4,b9⟩:=aD (K3++[bB.box [.f (fi x.day),.f (fi x.fr),.f (fi x.to)] 0]:aj);have k4:Kp K3 K4:=by rw[b9];exact Kp.push _ _
  have d4:K4[N+3]?=aa (.box [.f (fi x.day),.f (fi x.fr),.f (fi x.to)] 0):=by rw[b9,<-m3];simp
  have l4:aQ K4 (aa 3) (.c (.ptr (N+3) 0 0))=aa (.a [.f (fi x.day),.f (fi x.fr),.f (fi x.to)]):=by simp[aQ,aw,d4,aO]
  apply ai;simp[l,(l3 K3 (y.get z1)).1,(l5 _ _ ((k2.tr k3).get d1)).2.2,l1 _ _ _ d3,hf,m3,-aq];rw[<-b9];apply ai;cases hb:ok with
  |true=>
   simp;refine aG (by simp) (aS (aA (next _ _ ⟨by simp[g2],by simp[l],by simp[s],by simp[hb],by simp[Y,A,hb],y.tr k4⟩ (by simp[b_]))))
  |false=>
   simp;refine al (by simp) ?_;refine av (.inl rfl) ?_;have c_:aX tab zT [.c (.f .aK),.a [.f (fi x.day),.f (fi x.fr),.f (fi x.to)]]=Eq (.c (.f (sl g' (aC [x])))):=I;simp[Y,l4,c_,-aq];refine aA (next _ _ ⟨by simp[g2],by simp[l],by simp[s],by simp[hb],by simp[A,hb],y.tr k4⟩ (by simp[b_]))
 .rintro t K ⟨g2,l,s,d,q,hK⟩ ha;have a_:t.g 7=vb ok:=by rw[d];rfl
  have Y:t.g 8=.c (.f (if ok then .aK else sl g' (aC [x]))):=by rw[q,A];rfl
  clear d q;apply ak;apply ai;simp;refine bA 0 (λj t J=>t.g 5=.c (.ptr 2 0 0)/\t.g 3=.c (.ptr 1 0 0)/\t.g 7=vb ok/\t.g 8=.c (.f (if ok then .aK else sl g' (aC [x])))/\J=K) (by omega) rfl (by simp) ⟨by simp[s],by simp[l],by simp[a_],by simp[Y],rfl⟩ ?_ (λj t K hj=>by omega) ?_
  .rintro j t J L hj ⟨s,l,d,q,rfl⟩ hb hL;have h_:bo J (.f .aK)=aa 0:=rfl;simp[hb,l,(l3 J (hK.get z1)).2.2.2,h_,-aq];exact hL _ ⟨by simp[s],by simp[l],by simp[d],by simp[q],rfl⟩ (by simp[hb]) (by simp)
  .rintro t J ⟨s,l,d,q,rfl⟩ hb;have y2:=hK.get z2;have s2:∀a b c:FC,cz J (.ptr 2 0 0) [.f a,.f b,.f c]=aa (J.set 2 (.box [.f a,.f b,.f c] 0)):=λa b c=>by simp[cz,y2,bp]
   have w2:∀a b c:FC,(J.set 2 (.box [.f a,.f b,.f c] 0))[2]?=aa (.box [.f a,.f b,.f c] 0):=λa b c=>afC (au y2);apply ak;apply ai;cases E:ok with
   |true=>
    rw[E]at d q;simp[d];refine al (by simp) ?_;apply ai;simp[d,s,s2,-aU];refine az (hQ _ _ ?_);have i6:x=⟨0,0,0⟩:=by rw[hx,E];rfl
    rw[i6,E];simp[Km.results,aZ,cu,s,aQ,aw,w2,aO,fC,bX,deep]
   |false=>
    rw[E]at d q;have e_:∀K:aj,bo K (.f (sl g' (aC [x])))=aa 1:=λK=>by simp
    have ix:∀K:aj,bw K 3 ab (.c (.f (sl g' (aC [x])))) (vi 0)=aa (.c (.f (.fp (aC [x]).flatten 0))):=λK=>a7 (H:=K) (g:=g') (rows:=aC [x]) (sz:=3) (k:=.i64) (i:=0) (by omega) (by simp);have ld:∀K:aj,aQ K (aa 3) (.c (.f (.fp (aC [x]).flatten 0)))=aa (.a [.f (fi x.day),.f (fi x.fr),.f (fi x.to)]):=λK=>rfl;simp at q;simp[d,q,e_];refine bc (by simp) ?_;apply ai;simp[d,q,s,ix,ld,s2,-aU];refine az (hQ _ _ ?_);rw[E];simp[Km.results,aZ,cu,s,aQ,aw,w2,aO,fC,bX,deep])
theorem zh{a b:aN}{g j:bK}(s:oy a g)(u:oy b j):mM a b↔∃k,gP a b g j k=ae/\Mh g j k:=by
 unfold mM;rw[s.cs,u.cs];simp only[afO,th];constructor
 .rintro⟨c,rfl,d,rfl,k,l,m,q⟩;exact⟨k,⟨l,m⟩,q⟩
 .rintro⟨k,⟨l,m⟩,q⟩;exact⟨g,rfl,j,rfl,k,l,m,q⟩
theorem kM{a b:aN}{j l:bK}(d:oy a j)(g:oy b l){k:Int}(h:gP a b j l k=ae):-1<=k/\k<=1:=by
 rw[th]at h;have:=d.m0;have:=d.m1;have:=d.l1;have:=g.m0;have:=g.m1;have:=g.l1;unfold vZ vT at h;omega
theorem Pf(a b:aN){s u:bK}{n p m q:Int}(S:oy a s)(U:oy b u)(A:qx s n p)(B:qx u m q)
  (va:aX tab ns [.a (a.row.map .f)]=Eq (vb ae)) (i7:aX tab ns [.a (b.row.map .f)]=Eq (vb ae)) :
  ∃r:Bool,(r=ae↔mM a b)/\aX tab Dw [.a (a.row.map .f),.a (b.row.map .f)]=Eq (.t [vb r,vi 0]):=by
 obtain⟨v,⟨r,hr,rfl⟩,h⟩:∃v,(∃r:Bool,(r=ae↔mM a b)/\v=.t [vb r,vi 0])/\aX tab Dw [.a (a.row.map .f),.a (b.row.map .f)] v:=by
  refine cN rfl rfl λQ hQ=>?_;have Z:=zt a b S.xs;have a8:=zt b a U.xs;obtain⟨g,d,⟨j8,c_⟩,d_⟩:=Hf a b s u S U;have i5:∀k∈d,-1<=k/\k<=1:=λk x=>kM S U ((c_ k).1 x).2.2;have f7:∀k,gP a b s u k=ae->k∈d:=λk x=>(c_ k).2 ⟨by have:=kM S U x;omega,by have:=kM S U x;omega,x⟩;have X:∀K:aj,bo K (.f (sl g (cH a b s u d)))=aa d.length:=λK=>by simp
  obtain⟨ar,f8⟩:=aD (a.row);obtain⟨br,g_⟩:=aD (b.row);have e_:ar.length=3:=by rw[f8];rfl
  have f_:br.length=3:=by rw[g_];rfl
  rw[<-f8]at va Z a8 d_ ⊢;rw[<-g_]at i7 Z a8 d_ ⊢;have i6:∀(K:aj) (b m:Nat) (r:List FC),K[b]?=aa (.box (r.map .f) 0)->r.length=m->aQ K (aa m) (.c (.ptr b 0 0))=aa (.a (r.map .f)):=λK b m r hK hm=>by
   simp[aQ,aw,hK,aO,hm,afM]
  obtain⟨K0,a9⟩:=aD ([.box (ar.map .f) 0,.box (br.map .f) 0]:aj);have l0:=i6 K0 0 3 ar (by rw[a9];rfl) e_;have l1:=i6 K0 1 3 br (by rw[a9];rfl) f_;apply ai;simp[e_,f_];rw[<-a9];apply ak;apply ai;simp[l0,l1,va,i7,-aq];refine bc (by simp) ?_;apply ak;apply ai;simp[l0,l1,Z,a8,-aq];refine bc (by simp) ?_;apply ai;simp[l0,l1,d_,-aq];apply ak;apply ai;simp;have Y:∀(j:Nat) (E:j<d.length),(∀H:aj,bw H 7 ab (.c (.f (sl g (cH a b s u d)))) (vi (j:Int))=aa (.c (.f (.fp (cH a b s u d).flatten (j*7)))))/\(∀H:aj,aQ H (aa 7) (.c (.f (.fp (cH a b s u d).flatten (j*7))))=aa (.a ((fM a b s u d[j]).map .f))):=λj E=>by
   have W:=λH:aj=>a7 (H:=H) (g:=g) (rows:=cH a b s u d) (sz:=7) (k:=.i64) (i:=(j:Int)) (by omega) (by simp;omega);have j5:=λH:aj=>bE (H:=H) (lu a b s u d) (xn E);simp only[afU]at W;exact⟨W,j5⟩
  refine bA d.length (λj t _=>t.g 6=.c (.f (sl g (cH a b s u d)))/\∀i (hi:i<d.length),i<j->pV (n,mJ d[i] n p) (m,mL d[i] m q)=ag) (by omega) rfl (by simp) ⟨by simp,λi _ h=>by omega⟩ ?_ ?_ ?_
  .rintro j t K L E ⟨z,F⟩ l hL;simp[l,z,X];exact hL _ ⟨by simp[z],F⟩ (by simp[l]) (by simp)
  .rintro j t K E ⟨z,F⟩ l next
   obtain⟨ix,ld⟩:=Y j E;have x:=i5 _ (afH E);have i9:=(c_ _).1 (afH E);have M:=wV a b s u A B d[j] x.1 x.2;have i4:=zu (oY (k:=d[j]) A.sm) (oZ (k:=d[j]) B.sm);have i8:=BW A B x.1 x.2;have j4:pV (n,mJ d[j] n p) (m,mL d[j] m q)=ag->∀i (hi:i<d.length),i<j+1->pV (n,mJ d[i] n p) (m,mL d[i] m q)=ag:=λh i hi j7=>by
    by_cases e:i=j
    .subst e;exact h
    .exact F i hi (by omega)
   generalize d[j]=k at *;obtain⟨N,a_⟩:=aD (fY n (mJ k n p));obtain⟨O,b9⟩:=aD (fY m (mL k m q));have eX:mx n (mJ k n p)=.a [.f N]:=by rw[a_];rfl
   have eY:mx m (mL k m q)=.a [.f O]:=by rw[b9];rfl
   rw[eX,eY]at M i4;have d9:(fM a b s u k).length=7:=rfl;generalize fM a b s u k=j6 at *;obtain⟨I,y⟩:=aD (K++[bB.box [.f N] 0,bB.box [.f O] 0]);have d1:I[K.length]?=aa (.box [.f N] 0):=by rw[y];simp
   have d2:I[K.length+1]?=aa (.box [.f O] 0):=by rw[y,afI (by omega)];simp
   have v1:aQ I (aa 1) (.c (.ptr K.length 0 0))=aa (.a [.f N]):=by simp[aQ,aw,d1,aO]
   have v2:aQ I (aa 1) (.c (.ptr (K.length+1) 0 0))=aa (.a [.f O]):=by simp[aQ,aw,d2,aO]
   refine aI ?_;apply ai;simp[l,z,ix,ld,d9,M,-aq];rw[<-y];apply ai;simp[v1,v2,i4,-aq];apply ak;refine av (.inl rfl) ?_;simp;cases hc:pV (n,mJ k n p) (m,mL k m q)with
   |false=>
    exact aG (by simp) (aS (aA (next _ _ ⟨by simp[z],j4 hc⟩ (by simp[l]))))
   |true=>
    refine al (by simp) ?_;apply ai;simp;refine az (hQ _ _ _ ⟨ae,?_,rfl⟩ ?_)
    .simp only[true_iff];exact(zh S U).2 ⟨k,i9.2.2,i8.1 hc⟩
    .simp[Km.results,aZ]
  .rintro t K ⟨z,F⟩ -;have i_:¬ mM a b:=λhM=>by
    obtain⟨k,h1,h2⟩:=(zh S U).1 hM;have x:=kM S U h1;obtain⟨i,hi,he⟩:=agd (f7 k h1);have:=F i hi hi;rw[he,(BW A B x.1 x.2).2 h2]at this;cases this
   apply ai;simp;apply ak;apply ai;simp;refine bA d.length (λj t _=>t.g 6=.c (.f (sl g (cH a b s u d)))/\t.g 13=vb ag) (by omega) rfl (by simp) ⟨by simp[z],by simp⟩ ?_ ?_ ?_
   .rintro j t K L E ⟨z,J⟩ l hL;simp[l,z,X];exact hL _ ⟨by simp[z],by simp[J]⟩ (by simp[l]) (by simp)
   .rintro j t K E ⟨z,J⟩ l next
    obtain⟨ix,ld⟩:=Y j E;have x:=i5 _ (afH E);have M:=wV a b s u A B d[j] x.1 x.2;have b_:=R0 (oY (k:=d[j]) A.sm) (oZ (k:=d[j]) B.sm) (F j E E);have h_:=Fk;change aX tab 151 [.a [.f .aK]]=_ at h_;change aX tab 241 _=Eq (.t [.a [.f .aK],vi 0])at b_;generalize d[j]=k at *;obtain⟨N,a_⟩:=aD (fY n (mJ k n p));obtain⟨O,b9⟩:=aD (fY m (mL k m q));have eX:mx n (mJ k n p)=.a [.f N]:=by rw[a_];rfl
    have eY:mx m (mL k m q)=.a [.f O]:=by rw[b9];rfl
    rw[eX,eY]at M b_;have d9:(fM a b s u k).length=7:=rfl;generalize fM a b s u k=j6 at *;obtain⟨I,y⟩:=aD (K++[bB.box [.f N] 0,bB.box [.f O] 0]);have d1:I[K.length]?=aa (.box [.f N] 0):=by rw[y];simp
    have d2:I[K.length+1]?=aa (.box [.f O] 0):=by rw[y,afI (by omega)];simp
    have v1:aQ I (aa 1) (.c (.ptr K.length 0 0))=aa (.a [.f N]):=by simp[aQ,aw,d1,aO]
    have v2:aQ I (aa 1) (.c (.ptr (K.length+1) 0 0))=aa (.a [.f O]):=by simp[aQ,aw,d2,aO]
    obtain⟨K2,e9⟩:=aD (I++[bB.box [.f FC.aK] 0]);have d3:K2[I.length]?=aa (.box [.f FC.aK] 0):=by rw[e9];simp
    have v3:aQ K2 (aa 1) (.c (.ptr I.length 0 0))=aa (.a [.f FC.aK]):=by simp[aQ,aw,d3,aO]
    refine aI ?_;apply ai;simp[l,z,ix,ld,d9,M,-aq];rw[<-y];apply ai;simp[v1,v2,b_,-aq];rw[<-e9];apply ak;apply ai;simp;refine bc (by simp) ?_;refine av (.inl rfl) ?_;simp[J,v3,h_,-aq];exact aA (next _ _ ⟨by simp[z],by simp⟩ (by simp[l]))
   .rintro t K ⟨z,J⟩ -;apply ai;simp[J];refine az (hQ _ _ _ ⟨ag,?_,rfl⟩ ?_)
    .simp only[afR,false_iff];exact i_
    .simp[Km.results,aZ]
 exact⟨r,hr,h.eq⟩
def cT(t:Int)(x y:aE):List FC:=fi t ::(x.row++y.row)
def ed(ps:List (aE × aE)):List (List FC):=ps.map λp=>cT 0 p.1 p.2
@[simp] theorem Th (ps:List (aE × aE)):(ed ps).length=ps.length:=by simp[ed]
theorem nC(ps:List (aE × aE)):cA 7 (ed ps):=cA.map λ_=>rfl
theorem Ez{ps:List (aE × aE)}{j:Nat}(b:j<ps.length):(ed ps)[j]?=aa (cT 0 ps[j].1 ps[j].2):=by simp[ed,b]
theorem AJ(ps:List (aE × aE))(x y:aE):ed ps++[cT 0 x y]=ed (ps++[(x,y)]):=by simp[ed]
def vH(t:Int)(x y:aE)(T:Int)(X Y:aE):Bool:=if t=T then(if x=X then qf y Y else qf x X)else decide (t<T)
theorem BZ(b:Int)(x y X Y:aE):vH (mI b x y) x y (mI b X Y) X Y=ae↔wE b x y X Y:=by
 unfold vH wE;by_cases d:mI b x y=mI b X Y
 .rw[bu d];by_cases g:x=X
  .rw[bu g,na];subst g;constructor
   .intro h;exact .inr ⟨d,.inr ⟨⟨rfl,rfl,rfl⟩,h⟩⟩
   .rintro(h|⟨-,h|⟨-,h⟩⟩)
    .omega
    .exact absurd h aE.AS
    .exact h
  .rw[bG g,na];constructor
   .intro h;exact .inr ⟨d,.inl h⟩
   .rintro(h|⟨-,h|⟨⟨j,l,m⟩,-⟩⟩)
    .omega
    .exact h
    .exfalso;apply g;cases x;cases X;simp only at j l m;subst j l m;rfl
 .rw[bG d];simp only[decide_eq_true_eq];constructor
  .exact .inl
  .rintro(h|⟨h,-⟩)
   .exact h
   .exact absurd h d
theorem Ek(t T:Int)(x y X Y:aE):aX tab VA [.a ((cT t x y).map .f),.a ((cT T X Y).map .f)]=Eq (vb (vH t x y T X Y)):=Kf.eq (by
 refine cr rfl rfl λH Q g=>?_;have m:=pK x X;have q:=pK y Y;simp only[aE.row,afS,afW]at m q;apply ai;simp[cT,aE.row];apply ak;apply ai;simp;by_cases b:t=T
 .refine bc (by simp[b]) ?_;apply ak;apply ai;simp;by_cases d:x=X
  .refine bc (by simp[d]) ?_;apply ai;simp[q];refine az (g _ _ ?_);simp[vH,b,d]
  .have s:¬ ((x.day=X.day/\x.fr=X.fr/\x.to=X.to)):=λ⟨a1,j,l⟩=>d (by cases x;cases X;simp only at a1 j l;subst a1 j l;rfl);refine al (by simp;omega) ?_;apply ai;simp[m];refine az (g _ _ ?_);simp[vH,b,d]
 .refine al (by simp[b]) ?_;apply ai;simp;refine az (g _ _ ?_);simp[vH,b])
theorem fA.upd{fr:Int}{S:aE->aE->Prop}{s:FS}(h:fA fr S s){x y:aE}(b:okB fr x y)(hu:s.found=ag\/vH (mI fr x y) x y s.eM s.X s.Y=ae):fA fr (λd g=>S d g\/(d=x/\g=y)) ⟨mI fr x y,ae,x,y⟩:=by
 have j:ig fr s.eM s.found x y s.X s.Y=ae:=by
  unfold ig;simp only[decide_eq_true_eq];refine⟨b,?_⟩;rcases h with⟨h1,-⟩|⟨h1,h2,h3,h4,h5⟩
  .exact .inl h1
  .rcases hu with hu|hu
   .exact .inl hu
   .rw[h4]at hu ⊢;exact .inr ((AR fr x y s.X s.Y).2 ((BZ fr x y s.X s.Y).1 hu))
 have:=h.one x y;simpa[fX,j]using this
theorem fA.not{fr:Int}{S:aE->aE->Prop}{s:FS}(h:fA fr S s){x y:aE}(b:¬ okB fr x y\/(s.found=ae/\vH (mI fr x y) x y s.eM s.X s.Y=ag)):fA fr (λg j=>S g j\/(g=x/\j=y)) s:=by
 have l:ig fr s.eM s.found x y s.X s.Y=ag:=by
  unfold ig;simp only[decide_eq_false_iff_not];rintro⟨m,d⟩;rcases b with b|⟨f,b⟩
  .exact b m
  .rcases h with⟨h1,-⟩|⟨h1,h2,h3,h4,h5⟩
   .rw[h1]at f;cases f
   .rcases d with d|d
    .rw[h1]at d;cases d
    .rw[h4]at b d;have:=(BZ fr x y s.X s.Y).2 ((AR fr x y s.X s.Y).1 d);rw[b]at this;cases this
 have:=h.one x y;simpa[fX,l]using this
theorem QO(g:Tg)(ps:List (aE × aE))(hl:ps.length<=1000000)(z:Int) :
  ∃s:FS,fA z (λx y=>(x,y)∈ps) s/\aX tab zS [.c (.f (sl g (ed ps))),vi z]=Eq (.t [.a ((cT s.eM s.X s.Y).map .f),vb s.found]):=by
 obtain⟨r,⟨s,h1,rfl⟩,h⟩:∃r,(∃s:FS,fA z (λx y=>(x,y)∈ps) s/\r=.t [.a ((cT s.eM s.X s.Y).map .f),vb s.found])/\aX tab zS [.c (.f (sl g (ed ps))),vi z] r:=by
  refine cN rfl rfl λQ hQ=>?_;apply ai;simp;apply ai;simp;apply ai;simp;refine ak (ai ?_);simp;refine bA ps.length (λj t J=>t.g 0=.c (.f (sl g (ed ps)))/\t.g 1=vi z/\t.g 4=.c (.ptr 0 0 0)/\t.g 6=.c (.ptr 1 0 0)/\J[0]?=aa (.box [.f (fi 0),.f (fi 0),.f (fi 0),.f (fi 0),.f (fi 0),.f (fi 0),.f (fi 0)] 0)/\
   ∃s:FS,t.g 7=vb s.found/\J[1]?=aa (.box ((cT s.eM s.X s.Y).map .f) 0)/\fA z (λx y=>(x,y)∈ps.take j) s) (by omega) (by decide) (by simp)
   ⟨by simp,by simp,by simp,by simp,rfl,⟨0,ag,⟨0,0,0⟩,⟨0,0,0⟩⟩,by simp,rfl,.inl ⟨rfl,rfl,rfl,by simp⟩⟩ ?_ ?_ ?_
  .rintro j t J L hj ⟨g0,A,q,m,j0,s,l,j1,Z⟩ E e_;simp[E,g0];exact e_ _ ⟨by simp[g0],by simp[A],by simp[q],by simp[m],j0,s,by simp[l],j1,Z⟩ (by simp[E]) (by simp)
  .rintro j t J hj ⟨g0,A,q,m,j0,s,l,j1,Z⟩ E nx;have c_:ps.take (j+1)=ps.take j++[ps[j]]:=by rw[List.take_add_one,afB hj];rfl
   have d9:=λH:aj=>a7 (H:=H) (g:=g) (rows:=ed ps) (sz:=7) (k:=.i64) (i:=(j:Int)) (by omega) (by simp;omega);have a8:=λH:aj=>bE (H:=H) (nC ps) (Ez hj);obtain⟨x,y,f7⟩:∃x y,(x,y)=ps[j]:=⟨_,_,rfl⟩
   rw[<-f7]at a8 c_;simp only[afU]at d9;simp[cT,aE.row]at a8;have S:∀U W,(U,W)∈ps.take (j+1)↔(U,W)∈ps.take j\/(U=x/\W=y):=λU W=>by
    rw[c_,afY,afO,afG]
   have b9:max (max x.fr y.fr) z=mI z x y:=rfl;have l0:=au j0;have l1:=au j1;obtain⟨b,hb⟩:=aD (J.length);obtain⟨J1,Y⟩:=aD (J++[.box [.f (fi 0),.f (fi x.day),.f (fi x.fr),.f (fi x.to),.f (fi y.day),.f (fi y.fr),.f (fi y.to)] 0]:aj);obtain⟨d,N⟩:=aD (mI z x y);obtain⟨v,M⟩:=aD (J++[.box [.f (fi d),.f (fi x.day),.f (fi x.fr),.f (fi x.to),.f (fi y.day),.f (fi y.fr),.f (fi y.to)] 0]:aj);have b1:J1[b]?=aa (.box [.f (fi 0),.f (fi x.day),.f (fi x.fr),.f (fi x.to),.f (fi y.day),.f (fi y.fr),.f (fi y.to)] 0):=by rw[Y,hb];simp
   have b2:v[b]?=aa (.box [.f (fi d),.f (fi x.day),.f (fi x.fr),.f (fi x.to),.f (fi y.day),.f (fi y.fr),.f (fi y.to)] 0):=by rw[M,hb];simp
   have f8:cz J1 (.ptr b 0 0) [.f (fi d)]=aa v:=by
    simp only[cz,b1];rw[Y,M,hb];simp[bp]
   have q0:v[0]?=aa (.box [.f (fi 0),.f (fi 0),.f (fi 0),.f (fi 0),.f (fi 0),.f (fi 0),.f (fi 0)] 0):=by rw[M,afy l0];exact j0
   have q1:v[1]?=aa (.box ((cT s.eM s.X s.Y).map .f) 0):=by rw[M,afy l1];exact j1
   rw[<-N]at b9;have l2:b<v.length:=au b2;have m1:aQ J1 ab (.c (.ptr b 2 0))=aa (vi x.fr)/\aQ J1 ab (.c (.ptr b 5 0))=aa (vi y.fr):=by refine⟨?_,?_⟩<;>simp[aQ,aw,b1]
   have m2:aQ v ab (.c (.ptr b 0 0))=aa (vi d)/\aQ v ab (.c (.ptr b 3 0))=aa (vi x.to)/\aQ v ab (.c (.ptr b 6 0))=aa (vi y.to)/\aQ v (aa 7) (.c (.ptr b 0 0))=aa (.a [.f (fi d),.f (fi x.day),.f (fi x.fr),.f (fi x.to),.f (fi y.day),.f (fi y.fr),.f (fi y.to)]):=by refine⟨?_,?_,?_,?_⟩<;>simp[aQ,aw,b2,aO]
   obtain⟨F,I,K,d_⟩:=m2;have m3:aQ v (aa 7) (.c (.ptr 1 0 0))=aa (.a [.f (fi s.eM),.f (fi s.X.day),.f (fi s.X.fr),.f (fi s.X.to),.f (fi s.Y.day),.f (fi s.Y.fr),.f (fi s.Y.to)]):=by simp[aQ,aw,q1,aO,cT,aE.row]
   have a_:=Ek d s.eM x y s.X s.Y;simp[cT,aE.row]at a_;refine aI ?_;apply ai;simp[g0,E,d9,a8,-aq];rw[<-Y,<-hb];apply ai;simp[A,m1.1,m1.2,-aq,zg,b9,f8,-aU];have no:∀t:T,t.g 0=.c (.f (sl g (ed ps)))->t.g 1=vi z->t.g 4=.c (.ptr 0 0 0)->t.g 6=.c (.ptr 1 0 0)->t.g 7=vb s.found->t.g 8=vi j->(¬ okB z x y\/(s.found=ae/\vH d x y s.eM s.X s.Y=ag))->
     WP tab zS ab [.inBlock 1,.code (mo 8 15 16),.inLoop xQ,.inBlock 0,.code xR] ⟨t,[],v⟩ Q:=by
    intro t g0 A q m l g8 b_;refine aA (nx _ _ ⟨by simp[g0],by simp[A],by simp[q],by simp[m],q0,s,by simp[l],q1,?_⟩ (by simp[g8]));rw[N]at b_;exact(Z.not b_).iff λU W _=>S U W
   have e9:∀t:T,t.g 0=.c (.f (sl g (ed ps)))->t.g 1=vi z->t.g 4=.c (.ptr 0 0 0)->t.g 6=.c (.ptr 1 0 0)->t.g 8=vi j->t.g 9=.c (.ptr b 0 0)->okB z x y->(s.found=ag\/vH d x y s.eM s.X s.Y=ae)->
     WP tab zS ab [.code Hn,.inBlock 1,.code (mo 8 15 16),.inLoop xQ,.inBlock 0,.code xR] ⟨t,[],v⟩ Q:=by
    intro t g0 A q m g8 g9 u hu;obtain⟨J3,B⟩:=aD (v.set 1 (.box ((cT d x y).map .f) 0):aj);have a9:cz v (.ptr 1 0 0) [.f (fi d),.f (fi x.day),.f (fi x.fr),.f (fi x.to),.f (fi y.day),.f (fi y.fr),.f (fi y.to)]=aa J3:=by
     simp only[cz,q1];rw[B];simp[bp,cT,aE.row]
    apply ai;simp[m,g9,d_,a9,-aq,-aU];refine av (.inl rfl) ?_;simp;refine aA (nx _ _ ⟨by simp[g0],by simp[A],by simp[q],by simp[m],by rw[B,ae2 (by decide)];exact q0,⟨d,ae,x,y⟩,by simp,by rw[B];exact afC (au q1),?_⟩ (by simp[g8]));rw[N]at hu ⊢;exact(Z.upd u hu).iff λU W _=>S U W
   have u:okB z x y↔(x.to<=2251799813685248/\y.to<=2251799813685248/\d<min x.to y.to):=by rw[N];rfl
   apply ai;by_cases O:x.to<=2251799813685248
   .by_cases X:y.to<=2251799813685248
    .by_cases c3:d<min x.to y.to
     .cases hf:s.found with
      |false=>
       rw[hf]at l;simp[l,F,I,K,O,X,c3,-aq];refine al (by simp) ?_;exact e9 _ (by simp[g0]) (by simp[A]) (by simp[q]) (by simp[m]) (by simp[E]) (by simp) (u.2 ⟨O,X,c3⟩) (.inl hf)
      |true=>
       rw[hf]at l no;simp[m,l,F,I,K,d_,m3,O,X,c3,a_,-aq];cases he:vH d x y s.eM s.X s.Y with
       |true=>
        refine al (by simp) ?_;exact e9 _ (by simp[g0]) (by simp[A]) (by simp[q]) (by simp[m]) (by simp[E]) (by simp) (u.2 ⟨O,X,c3⟩) (.inr he)
       |false=>
        refine bc (by simp) ?_;exact no _ (by simp[g0]) (by simp[A]) (by simp[q]) (by simp[m]) (by simp[l]) (by simp[E]) (.inr ⟨rfl,he⟩)
     .simp[l,F,I,K,O,X,c3,-aq];refine bc (by simp) ?_;exact no _ (by simp[g0]) (by simp[A]) (by simp[q]) (by simp[m]) (by simp[l]) (by simp[E]) (.inl λh=>c3 (u.1 h).2.2)
    .simp[l,F,I,K,O,X,-aq];refine bc (by simp) ?_;exact no _ (by simp[g0]) (by simp[A]) (by simp[q]) (by simp[m]) (by simp[l]) (by simp[E]) (.inl λh=>X (u.1 h).2.1)
   .simp[l,F,I,K,O,-aq];refine bc (by simp) ?_;exact no _ (by simp[g0]) (by simp[A]) (by simp[q]) (by simp[m]) (by simp[l]) (by simp[E]) (.inl λh=>O (u.1 h).1)
  .rintro t J ⟨g0,A,q,m,j0,s,l,j1,Z⟩ E;rw[agc]at Z;have m3:aQ J (aa 7) (.c (.ptr 1 0 0))=aa (.a [.f (fi s.eM),.f (fi s.X.day),.f (fi s.X.fr),.f (fi s.X.to),.f (fi s.Y.day),.f (fi s.Y.fr),.f (fi s.Y.to)]):=by simp[aQ,aw,j1,aO,cT,aE.row]
   obtain⟨J3,B⟩:=aD (J.set 0 (.box ((cT s.eM s.X s.Y).map .f) 0):aj);have a9:cz J (.ptr 0 0 0) [.f (fi s.eM),.f (fi s.X.day),.f (fi s.X.fr),.f (fi s.X.to),.f (fi s.Y.day),.f (fi s.Y.fr),.f (fi s.Y.to)]=aa J3:=by
    simp only[cz,j0];rw[B];simp[bp,cT,aE.row]
   have e0:J3[0]?=aa (.box ((cT s.eM s.X s.Y).map .f) 0):=by rw[B];exact afC (au j0)
   apply ai;simp[q,m,l,m3,a9,-aq,-aU];refine az (hQ _ _ _ ⟨s,Z,rfl⟩ ⟨rfl,.t [.a ((cT s.eM s.X s.Y).map .f),vb s.found],?_,?_⟩)
   .simp[Km.results,cu,aZ,q,aQ,aw,e0,aO,cT,aE.row]
   .simp[fC,bX,aZ,deep,eg,cT,aE.row]
 exact⟨s,h1,h.eq⟩
theorem Ke(a:Int)(h0:-4000000000000000<=a)(g:a<=4000000000000000):aX tab Vu [vi a,vi 1440]=Eq (vi (a / 1440)):=aX.eq (by
 refine bH rfl rfl λQ d=>?_;apply ai;simp;apply ak;apply ai;by_cases h:0<=a
 .simp[h];refine al (by simp) ?_;apply ai;simp[qR (a:=a) (b:=1440) (by omega) (by omega) (by omega)];refine az (d _ _ ?_);simp
 .simp[h];refine bc (by simp) ?_;apply ai;simp[bg (n:=-1-a),qR (a:=-1-a) (b:=1440) (by omega) (by omega) (by omega),bg (n:=-1-(-1-a) / 1440)];refine az (d _ _ ?_);simp;omega)
def qJ(a:aN)(b:bK)(n p m q k:Int):aE:=cm a.len b.min (iQ (n,mJ k n p) (m,mL k m q)+max 0 (-k))
def qK(b:aN)(d:bK)(n p m q k:Int):aE:=cm b.len d.min (iQ (n,mJ k n p) (m,mL k m q)+max 0 (-k)+k)
theorem Rj{a b:aN}{j l:bK}{n p m q:Int}(v:oy a j)(x:oy b l)(d:qx j n p)(g:qx l m q){k:Int}(z:gP a b j l k=ae)(y:pV (n,mJ k n p) (m,mL k m q)=ae) :
  fR a (qJ a j n p m q k)/\fR b (qK b l n p m q k):=by
 have A:=kM v x z;obtain⟨⟨l0,-⟩,s,u,-⟩:=pI (oY d.sm) (oZ g.sm) y;have B:(iQ (n,mJ k n p) (m,mL k m q)+max 0 (-k)) % n=p:=by
  generalize iQ (n,mJ k n p) (m,mL k m q)=L at l0 s ⊢;unfold mJ at s;split at s
  .rename_i h;rw[show max 0 (-k)=1 by omega];exact((iK d.sm).2 _).1 s
  .rename_i h;rw[show max 0 (-k)=0 by omega,Int.add_zero];exact s
 have E:(iQ (n,mJ k n p) (m,mL k m q)+max 0 (-k)+k) % m=q:=by
  rw[show iQ (n,mJ k n p) (m,mL k m q)+max 0 (-k)+k=iQ (n,mJ k n p) (m,mL k m q)+max 0 k by omega];generalize iQ (n,mJ k n p) (m,mL k m q)=L at l0 u ⊢;unfold mL at u;split at u
  .rename_i h;rw[show max 0 k=1 by omega];exact((iK g.sm).2 _).1 u
  .rename_i h;rw[show max 0 k=0 by omega,Int.add_zero];exact u
 refine⟨⟨j,by rw[v.cs];simp,_,by omega,by rw[d.ts];exact fg.2 B,rfl⟩,⟨l,by rw[x.cs];simp,_,by omega,by rw[g.ts];exact fg.2 E,rfl⟩⟩
theorem B_{a b:aN}{v z:bK}{n p m q:Int}(I:oy a v)(J:oy b z)(g:qx v n p)(j:qx z m q){x y:aE}(f:fR a x)(h:fR b y)(Y:okB (-2251799813685248) x y) :
  ∃k,gP a b v z k=ae/\pV (n,mJ k n p) (m,mL k m q)=ae/\okB (-2251799813685248) (qJ a v n p m q k) (qK b z n p m q k)/\¬ wE (-2251799813685248) x y (qJ a v n p m q k) (qK b z n p m q k):=by
 obtain⟨c,O,A,w,E,rfl⟩:=f;obtain⟨d,Q,H,y0,F,rfl⟩:=h;rw[I.cs,afO]at O;rw[J.cs,afO]at Q;subst O;subst Q;rw[g.ts]at E;rw[j.ts]at F;have E:=fg.1 E;have F:=fg.1 F;obtain⟨i,o,r⟩:=Y;simp only[mI,cm]at i o r;have u:gP a b c d (H-A)=ae:=th.2 ⟨by unfold vZ;omega,by unfold vT;omega⟩;obtain⟨k,K⟩:=aD (H-A);rw[<-K]at u;have Z:=kM I J u;have U:=I.m0;have X:=J.m0;have S:=I.l0;have W:=J.l0;obtain⟨e,t⟩:=aD (A-max 0 (-k));have L:0<=e:=by omega
 have M:e % n=mJ k n p:=by
  unfold mJ;split
  .exact((iK g.sm).2 e).2 (by rw[show e+1=A by omega];exact E)
  .rw[show e=A by omega];exact E
 have N:e % m=mL k m q:=by
  unfold mL;split
  .exact((iK j.sm).2 e).2 (by rw[show e+1=H by omega];exact F)
  .rw[show e=H by omega];exact F
 have s:=Ed L M N (oY g.sm) (oZ j.sm);obtain⟨⟨l0,-⟩,-,-,B⟩:=pI (oY (k:=k) g.sm) (oZ (k:=k) j.sm) s;have B:=B e L M N;refine⟨k,u,s,?_,?_⟩
 .unfold okB mI qJ qK cm;simp only;generalize iQ (n,mJ k n p) (m,mL k m q)=l at *;omega
 .unfold wE aE.lt mI qJ qK cm;simp only;generalize iQ (n,mJ k n p) (m,mL k m q)=l at *;omega
theorem NX{a b:aN}{u v:bK}{n p m q:Int}(F:oy a u)(H:oy b v)(d:qx u n p)(g:qx v m q){ps:List (aE × aE)}(l:∀x y,(x,y)∈ps↔∃k,gP a b u v k=ae/\pV (n,mJ k n p) (m,mL k m q)=ae/\x=qJ a u n p m q k/\y=qK b v n p m q k)
  {s:FS} (h:fA (-2251799813685248) (λx y=>(x,y)∈ps) s):fA (-2251799813685248) (λx y=>fR a x/\fR b y) s:=by
 rcases h with⟨z,A,B,E⟩|⟨z,A,B,E,f⟩
 .refine .inl ⟨z,A,B,λx y ⟨J,K⟩ I=>?_⟩;obtain⟨k,L,N,i,-⟩:=B_ F H d g J K I;exact E _ _ ((l _ _).2 ⟨k,L,N,rfl,rfl⟩) i
 .obtain⟨k,L,N,X,Y⟩:=(l _ _).1 A;have W:=Rj F H d g L N;rw[<-X,<-Y]at W;refine .inr ⟨z,W,B,E,λx y ⟨J,K⟩ I j=>?_⟩;obtain⟨k',M,O,Q,S⟩:=B_ F H d g J K I;have U:=f _ _ ((l _ _).2 ⟨k',M,O,rfl,rfl⟩) Q;by_cases e:wE (-2251799813685248) (qJ a u n p m q k') (qK b v n p m q k') x y
  .exact U (tx e j)
  .obtain⟨Z,c⟩:=A1 S e;rw[Z,c]at j;exact U j
theorem fA.uniq{fr:Int}{S:aE->aE->Prop}{s t:FS}(h:fA fr S s)(l:fA fr S t):s.found=t.found/\s.X=t.X/\s.Y=t.Y:=by
 rcases h with⟨h1,h2,h3,h4⟩|⟨h1,h2,h3,h4,h5⟩
 .rcases l with⟨g,b,d,j⟩|⟨g,b,d,j,m⟩
  .exact⟨by rw[h1,g],by rw[h2,b],by rw[h3,d]⟩
  .exact absurd d (h4 _ _ b)
 .rcases l with⟨g,b,d,j⟩|⟨g,b,d,j,m⟩
  .exact absurd h3 (j _ _ h2)
  .obtain⟨q,u⟩:=A1 (m _ _ h2 h3) (h5 _ _ b d);exact⟨by rw[h1,g],q,u⟩
theorem CL(a b:aN){l d:bK}{n p m q:Int}(ha:oy a l)(hb:oy b d)(h_:qx l n p)(i4:qx d m q)
  (va:aX tab ns [.a (a.row.map .f)]=Eq (vb ae)) (m_:aX tab ns [.a (b.row.map .f)]=Eq (vb ae)) :
  ∃s:FS,fA (-2251799813685248) (λx y=>fR a x/\fR b y) s/\aX tab uX [.a (a.row.map .f),.a (b.row.map .f),vi (-2251799813685248)]=Eq (.t [.a (s.X.row.map .f),.a (s.Y.row.map .f),vb s.found]):=by
 obtain⟨v,⟨s,hs,rfl⟩,h⟩:∃v,(∃s:FS,fA (-2251799813685248) (λx y=>fR a x/\fR b y) s/\v=.t [.a (s.X.row.map .f),.a (s.Y.row.map .f),vb s.found])/\aX tab uX [.a (a.row.map .f),.a (b.row.map .f),vi (-2251799813685248)] v:=by
  refine cN rfl rfl λQ hQ=>?_;have am0:=ha.m0;have am1:=ha.m1;have al0:=ha.l0;have al1:=ha.l1;have bm0:=hb.m0;have bm1:=hb.m1;have bl0:=hb.l0;have bl1:=hb.l1;obtain⟨g,z,⟨hkl,k_⟩,i8⟩:=Hf a b l d ha hb;have z_:∀k∈z,-1<=k/\k<=1:=λk hk=>kM ha hb ((k_ k).1 hk).2.2;have n_:∀k,gP a b l d k=ae->k∈z:=λk hk=>(k_ k).2 ⟨by have:=kM ha hb hk;omega,by have:=kM ha hb hk;omega,hk⟩;have q_:∀K:aj,bo K (.f (sl g (cH a b l d z)))=aa z.length:=λK=>by simp
  have t7:∀(j:Nat) (hj:j<z.length),(∀H:aj,bw H 7 ab (.c (.f (sl g (cH a b l d z)))) (vi (j:Int))=aa (.c (.f (.fp (cH a b l d z).flatten (j*7)))))/\(∀H:aj,aQ H (aa 7) (.c (.f (.fp (cH a b l d z).flatten (j*7))))=aa (.a ((fM a b l d z[j]).map .f))):=λj hj=>by
   have j4:=λH:aj=>a7 (H:=H) (g:=g) (rows:=cH a b l d z) (sz:=7) (k:=.i64) (i:=(j:Int)) (by omega) (by simp;omega);have hrw:=λH:aj=>bE (H:=H) (lu a b l d z) (xn hj);simp only[afU]at j4;exact⟨j4,hrw⟩
  obtain⟨A,hA⟩:=aD (sl a.cg (aP a.cs));obtain⟨B,hB⟩:=aD (sl b.cg (aP b.cs));obtain⟨X,hX⟩:=aD (sl a.xg (aC a.xs));obtain⟨Y,hY⟩:=aD (sl b.xg (aC b.xs));have u6:∀K:aj,bo K (.f X)=aa 0:=λK=>by rw[hX,ha.xs];cases a.xg<;>rfl
  have u7:∀K:aj,bo K (.f Y)=aa 0:=λK=>by rw[hY,hb.xs];cases b.xg<;>rfl
  have x8:a.row=[A,fi a.len,X]:=by rw[hA,hX];rfl
  have x9:b.row=[B,fi b.len,Y]:=by rw[hB,hY];rfl
  rw[x8]at va i8 ⊢;rw[x9]at m_ i8 ⊢;simp only[afS,afW]at va m_ i8;obtain⟨tA,htA⟩:=aD (sl l.mg (aT l.ts));obtain⟨tB,htB⟩:=aD (sl d.mg (aT d.ts));have hz3:List.map C.f (⟨0,0,0⟩:aE).row=[.f (fi 0),.f (fi 0),.f (fi 0)]:=rfl;apply ai;simp;obtain⟨K0,j6⟩:=aD ([.box [.f A,.f (fi a.len),.f X] 0,.box [.f B,.f (fi b.len),.f Y] 0,.box [.f (fi 0),.f (fi 0),.f (fi 0)] 0,.box [.f (fi 0),.f (fi 0),.f (fi 0)] 0]:aj);have n0:K0.length=4:=by rw[j6];rfl
  obtain⟨PK,d_⟩:∃PK:aj->Prop,PK=λK=>K[0]?=aa (.box [.f A,.f (fi a.len),.f X] 0)/\K[1]?=aa (.box [.f B,.f (fi b.len),.f Y] 0)/\K[2]?=aa (.box [.f (fi 0),.f (fi 0),.f (fi 0)] 0)/\K[3]?=aa (.box [.f (fi 0),.f (fi 0),.f (fi 0)] 0):=⟨_,rfl⟩
  have u9:PK K0:=by rw[d_,j6];exact⟨rfl,rfl,rfl,rfl⟩
  have i9:∀K K':aj,PK K->(∀i:Nat,i<4->K'[i]?=K[i]?)->PK K':=λK K' h hk=>by
   rw[d_]at h ⊢;exact⟨(hk 0 (by omega)).trans h.1,(hk 1 (by omega)).trans h.2.1,(hk 2 (by omega)).trans h.2.2.1,(hk 3 (by omega)).trans h.2.2.2⟩
  have pl:∀K:aj,PK K->4<=K.length:=λK h=>by
   rw[d_]at h;have:=au h.2.2.2;omega
  have e_:∀K:aj,PK K->aQ K (aa 3) (.c (.ptr 0 0 0))=aa (.a [.f A,.f (fi a.len),.f X])/\aQ K ab (.c (.ptr 0 1 0))=aa (vi a.len)/\aQ K ab (.c (.ptr 0 2 0))=aa (.c (.f X))/\aQ K (aa 3) (.c (.ptr 1 0 0))=aa (.a [.f B,.f (fi b.len),.f Y])/\aQ K ab (.c (.ptr 1 1 0))=aa (vi b.len)/\aQ K ab (.c (.ptr 1 2 0))=aa (.c (.f Y)):=λK h=>by
   rw[d_]at h;refine⟨?_,?_,?_,?_,?_,?_⟩<;>simp[aQ,aw,h.1,h.2.1,aO]
  obtain⟨e1,e2,e3,e4,e5,e6⟩:=e_ K0 u9;rw[<-j6];apply ak;apply ai;simp[e1,e4,va,m_,-aq];refine bc (by simp) ?_;apply ai;simp;apply ai;simp;apply ai;simp[e1,e4,i8,-aq];apply ak;apply ai;simp;have v8:∀(t:T) (K:aj) (c:C) (ps:List (aE × aE)),t.g 2=vi (-2251799813685248)->t.g 3=.c (.ptr 0 0 0)->t.g 4=.c (.ptr 1 0 0)->t.g 6=.c (.ptr 2 0 0)->t.g 7=.c (.ptr 3 0 0)->t.g 9=.c c->PK K->LR K c 7 (ed ps)->(∀i,bt c=aa i->4<=i)->ps.length<=40->
    (∀x y,(x,y)∈ps↔∃k,gP a b l d k=ae/\pV (n,mJ k n p) (m,mL k m q)=ae/\x=qJ a l n p m q k/\y=qK b d n p m q k)->WP tab uX ab [.code xS] ⟨t,[],K⟩ Q:=by
   intro t K c ps M E F I J O hK hL W i7 a9;apply ak;apply ai;simp;refine bA 0 (λj t K'=>t.g 2=vi (-2251799813685248)/\t.g 3=.c (.ptr 0 0 0)/\t.g 4=.c (.ptr 1 0 0)/\t.g 6=.c (.ptr 2 0 0)/\t.g 7=.c (.ptr 3 0 0)/\t.g 9=.c c/\K'=K) (by omega) rfl (by simp) ⟨by simp[M],by simp[E],by simp[F],by simp[I],by simp[J],by simp[O],rfl⟩ ?_ (λj t K hj=>by omega) ?_
   .rintro j t K' L hj ⟨M,E,F,I,J,O,rfl⟩ u a8;simp[u,E,(e_ _ hK).2.2.1,u6,-aq];exact a8 _ ⟨by simp[M],by simp[E],by simp[F],by simp[I],by simp[J],by simp[O],rfl⟩ (by simp[u]) (by simp)
   clear M E F I J O;rintro t K' ⟨M,E,F,I,J,O,rfl⟩ u;apply ak;apply ai;simp;refine bA 0 (λj t S=>t.g 2=vi (-2251799813685248)/\t.g 3=.c (.ptr 0 0 0)/\t.g 4=.c (.ptr 1 0 0)/\t.g 6=.c (.ptr 2 0 0)/\t.g 7=.c (.ptr 3 0 0)/\t.g 9=.c c/\S=K') (by omega) rfl (by simp) ⟨by simp[M],by simp[E],by simp[F],by simp[I],by simp[J],by simp[O],rfl⟩ ?_ (λj t K hj=>by omega) ?_
   .rintro j t S L hj ⟨M,E,F,I,J,O,rfl⟩ u a8;simp[u,F,(e_ _ hK).2.2.2.2.2,u7,-aq];exact a8 _ ⟨by simp[M],by simp[E],by simp[F],by simp[I],by simp[J],by simp[O],rfl⟩ (by simp[u]) (by simp)
   clear M E F I J O u;rintro t S ⟨M,E,F,I,J,O,rfl⟩ u;obtain⟨gh,p_⟩:=hL.ex (nC _) 63;change eg deep S c=_ at p_;obtain⟨s,hm,j9⟩:=QO gh ps (by omega) (-2251799813685248);have s7:=NX ha hb h_ i4 a9 hm;obtain⟨K3,n8⟩:=aD (ic deep c S);have k3:∀i:Nat,i<4->K3[i]?=S[i]?:=λi hi=>by
    rw[n8];rcases hL.x.mkH 63 with e|⟨b,ep,fl,fl',h1,h2,h3⟩
    .change ic deep c S=S at e;rw[e]
    .change ic deep c S=_ at h3;rw[h3,ae2 (by have:=W b h1;omega)]
   have i_:=i9 _ _ hK k3;have l4:=pl _ i_;obtain⟨K4,j7⟩:=aD (K3++[bB.box ((cT s.eM s.X s.Y).map .f) 0]);have d4:K4[K3.length]?=aa (.box ((cT s.eM s.X s.Y).map .f) 0):=by rw[j7];simp
   have z8:(cT s.eM s.X s.Y).length=7:=rfl;have v1:aQ K4 (aa 3) (.c (.ptr K3.length 1 0))=aa (.a (s.X.row.map .f))/\aQ K4 (aa 3) (.c (.ptr K3.length 4 0))=aa (.a (s.Y.row.map .f)):=by
    refine⟨?_,?_⟩<;>simp[aQ,aw,d4,aO,cT,aE.row]
   have b9:=i9 _ K4 i_ λi hi=>by rw[j7,afy (by omega)]
   rw[d_]at b9;obtain⟨K5,g_⟩:=aD (K4.set 2 (.box (s.X.row.map .f) 0));obtain⟨K6,j8⟩:=aD (K5.set 3 (.box (s.Y.row.map .f) 0));have s5:cz K4 (.ptr 2 0 0) (s.X.row.map .f)=aa K5:=by rw[g_];simp[cz,b9.2.2.1,bp,aE.row]
   have z3:K5[3]?=aa (.box [.f (fi 0),.f (fi 0),.f (fi 0)] 0):=by rw[g_,ae2 (by omega)];exact b9.2.2.2
   have s6:cz K5 (.ptr 3 0 0) (s.Y.row.map .f)=aa K6:=by rw[j8];simp[cz,z3,bp,aE.row]
   have y2:K6[2]?=aa (.box (s.X.row.map .f) 0):=by rw[j8,ae2 (by omega),g_];exact afC (au b9.2.2.1)
   have y3:K6[3]?=aa (.box (s.Y.row.map .f) 0):=by rw[j8];exact afC (au z3)
   have t9:s.X.row.length=3:=rfl;have t_:s.Y.row.length=3:=rfl;apply ai;simp[M,O,p_,j9,z8,<-n8];rw[<-j7];have m9:aQ K5 (aa 3) (.c (.ptr K3.length 4 0))=aa (.a (s.Y.row.map .f)):=by
    have:K5[K3.length]?=aa (.box ((cT s.eM s.X s.Y).map .f) 0):=by rw[g_,ae2 (by omega)];exact d4
    simp[aQ,aw,this,aO,cT,aE.row]
   have u_:=s5;have v6:=s6;have j5:=m9;simp only[aE.row,afS,afW]at u_ v6 j5;refine ak (dy (.inl rfl) ?_ ?_)
   case refine_2=>
    intro cc y7;have x_:cc=(3,6):=by simpa using y7
    rw[x_];refine⟨by decide,_,rfl,.inl ⟨by decide,?_⟩⟩;simp[I,J,v1.1,v1.2,m9,j5,s5,s6,u_,v6,t9,t_,fO,aE.row,V.beq,iT,C.beq,FC.beq,-aq,-aU]
   simp[I,J,v1.1,v1.2,m9,s5,s6,t9,t_,-aq,-aU];refine az (hQ _ _ _ ⟨s,s7,rfl⟩ ?_);simp[Km.results,cu,aZ,I,J,aQ,aw,y2,y3,aO,aE.row,fC,bX]
  refine bA z.length (λj t K=>t.g 2=vi (-2251799813685248)/\t.g 3=.c (.ptr 0 0 0)/\t.g 4=.c (.ptr 1 0 0)/\t.g 6=.c (.ptr 2 0 0)/\t.g 7=.c (.ptr 3 0 0)/\t.g 10=.c (.f (sl g (cH a b l d z)))/\PK K/\∃c ps,t.g 9=.c c/\LR K c 7 (ed ps)/\(∀i,bt c=aa i->4<=i)/\ps.length<=j/\
   (∀x y,(x,y)∈ps↔∃k,(∃i,∃(hi:i<z.length),i<j/\k=z[i])/\pV (n,mJ k n p) (m,mL k m q)=ae/\x=qJ a l n p m q k/\y=qK b d n p m q k)) (by omega) rfl (by simp)
   ⟨by simp,by simp,by simp,by simp,by simp,by simp,u9,.f .es,[],by simp,.inl ⟨rfl,.inr rfl⟩,by simp[bt],by simp,λx y=>by simp⟩ ?_ ?_ ?_
  .rintro j t K L hj ⟨M,E,F,I,J,U,hK,c,ps,O,hL,W,i7,a9⟩ u a8;simp[u,U,q_];exact a8 _ ⟨by simp[M],by simp[E],by simp[F],by simp[I],by simp[J],by simp[U],hK,c,ps,by simp[O],hL,W,i7,a9⟩ (by simp[u]) (by simp)
  .rintro j t K hj ⟨M,E,F,I,J,U,hK,c,ps,O,hL,W,i7,a9⟩ u next
   obtain⟨ix,ld⟩:=t7 j hj;have hk:=z_ _ (afH hj);have e9:=wV a b l d h_ i4 z[j] hk.1 hk.2;have o_:=zu (oY (k:=z[j]) h_.sm) (oZ (k:=z[j]) i4.sm);have r_:=pI (oY (k:=z[j]) h_.sm) (oZ (k:=z[j]) i4.sm);have m4:∀x y:aE,(∃k,(∃i,∃(hi:i<z.length),i<j+1/\k=z[i])/\pV (n,mJ k n p) (m,mL k m q)=ae/\x=qJ a l n p m q k/\y=qK b d n p m q k)↔((x,y)∈ps\/(pV (n,mJ z[j] n p) (m,mL z[j] m q)=ae/\x=qJ a l n p m q z[j]/\y=qK b d n p m q z[j])):=λx y=>by
    rw[a9];constructor
    .rintro⟨k,⟨i,hi,z9,rfl⟩,h⟩;by_cases e:i=j
     .subst e;exact .inr h
     .exact .inl ⟨_,⟨i,hi,by omega,rfl⟩,h⟩
    .rintro(⟨k,⟨i,hi,z9,rfl⟩,h⟩|h)
     .exact⟨_,⟨i,hi,by omega,rfl⟩,h⟩
     .exact⟨_,⟨j,hj,by omega,rfl⟩,h⟩
   have htr:fM a b l d z[j]=[tA,fi l.min,tB,fi d.min,fi z[j],fi a.len,fi b.len]:=by rw[htA,htB];rfl
   rw[htr]at ld e9;generalize z[j]=k at *;obtain⟨XF,w_⟩:=aD (fY n (mJ k n p));obtain⟨YF,x6⟩:=aD (fY m (mL k m q));have eX:mx n (mJ k n p)=.a [.f XF]:=by rw[w_];rfl
   have eY:mx m (mL k m q)=.a [.f YF]:=by rw[x6];rfl
   rw[eX,eY]at e9 o_;simp only[afS,afW]at ld e9;obtain⟨e1,e2,e3,e4,e5,e6⟩:=e_ K hK;obtain⟨K1,c_⟩:=aD (K++[bB.box [.f tA,.f (fi l.min),.f tB,.f (fi d.min),.f (fi k),.f (fi a.len),.f (fi b.len)] 0]);obtain⟨N,hN⟩:=aD (K.length);have hN4:=pl K hK;have m1:K1.length=N+1:=by rw[c_,hN];simp
   have d1:K1[N]?=aa (.box [.f tA,.f (fi l.min),.f tB,.f (fi d.min),.f (fi k),.f (fi a.len),.f (fi b.len)] 0):=by rw[c_,hN];simp
   obtain⟨Z,d9⟩:=aD (K1++[bB.box [.f XF] 0,bB.box [.f YF] 0]);have p1:∀i:Nat,i<K.length->K1[i]?=K[i]?:=λi hi=>by rw[c_,afy hi]
   have p2:∀i:Nat,i<K1.length->Z[i]?=K1[i]?:=λi hi=>by rw[d9,afy hi]
   have b_:=(p2 N (by omega)).trans d1;have d2:Z[N+1]?=aa (.box [.f XF] 0):=by rw[d9,afI (by omega),m1];simp
   have d3:Z[N+2]?=aa (.box [.f YF] 0):=by rw[d9,afI (by omega),m1];simp
   have a_:=i9 _ Z hK λi hi=>(p2 i (by omega)).trans (p1 i (by omega));obtain⟨f1,f2,f3,f4,f5,f6⟩:=e_ Z a_;have c7:aQ K1 (aa 7) (.c (.ptr N 0 0))=aa (.a [.f tA,.f (fi l.min),.f tB,.f (fi d.min),.f (fi k),.f (fi a.len),.f (fi b.len)]):=by simp[aQ,aw,d1,aO]
   have r0:aQ Z (aa 2) (.c (.ptr N 0 0))=aa (.a [.f tA,.f (fi l.min)]):=by simp[aQ,aw,b_,aO]
   have r1:aQ Z ab (.c (.ptr N 1 0))=aa (vi l.min):=by simp[aQ,aw,b_]
   have r2:aQ Z (aa 2) (.c (.ptr N 2 0))=aa (.a [.f tB,.f (fi d.min)]):=by simp[aQ,aw,b_,aO]
   have r3:aQ Z ab (.c (.ptr N 3 0))=aa (vi d.min):=by simp[aQ,aw,b_]
   have r4:aQ Z ab (.c (.ptr N 4 0))=aa (vi k):=by simp[aQ,aw,b_]
   have v1:aQ Z (aa 1) (.c (.ptr (N+1) 0 0))=aa (.a [.f XF]):=by simp[aQ,aw,d2,aO]
   have v2:aQ Z (aa 1) (.c (.ptr (N+1+1) 0 0))=aa (.a [.f YF]):=by simp[aQ,aw,d3,aO]
   obtain⟨en,y8⟩:=aD (min (l.min+a.len) (k*1440+d.min+b.len));have afn:-10000<=en/\en<=10000:=by omega
   have y_:=Ke (-2251799813685248-en) (by omega) (by omega);obtain⟨bf,j_⟩:=aD (max 0 (-k));have afk:0<=bf/\bf<=1:=by omega
   rw[<-j_]at e9;have hmx:max 0 ((-2251799813685248-en) / 1440+1-bf)=0:=by omega
   have n9:LR Z c 7 (ed ps):=by rw[d9,c_];exact(hL.push _).push _
   refine aI ?_;apply ai;simp[u,U,ix,ld,-aq];rw[<-c_,<-hN];apply ai;simp[c7,e9,-aq];rw[<-d9,m1];apply ai;simp[E,F,r1,r3,r4,f2,f5,bg (n:=l.min+a.len),bg (n:=k*1440),bg (n:=k*1440+d.min),bg (n:=k*1440+d.min+b.len),<-y8,-aq];apply ai;simp[M,v1,v2,bg (n:=-2251799813685248-en),y_,bg (n:=(-2251799813685248-en) / 1440+1),bg (n:=(-2251799813685248-en) / 1440+1-bf),hmx,o_,-aq];apply ak;have go:∀(t:T) (K':aj) (c':C) (f7:List (aE × aE)),t.g 2=vi (-2251799813685248)->t.g 3=.c (.ptr 0 0 0)->t.g 4=.c (.ptr 1 0 0)->t.g 6=.c (.ptr 2 0 0)->t.g 7=.c (.ptr 3 0 0)->t.g 10=.c (.f (sl g (cH a b l d z)))->t.g 11=vi j->t.g 9=.c c'->PK K'->LR K' c' 7 (ed f7)->(∀i,bt c'=aa i->4<=i)->f7.length<=j+1->
     (∀x y,(x,y)∈f7↔((x,y)∈ps\/(pV (n,mJ k n p) (m,mL k m q)=ae/\x=qJ a l n p m q k/\y=qK b d n p m q k)))->WP tab uX ab [.inBlock 1,.code (mo 11 51 52),.inLoop (gU 0 11 50 51 52 [⟨D 47,.dr (R 11),ab⟩,⟨D 48,.dr (R 10),ab⟩,⟨D 49,.len (R 48),ab⟩,⟨D 50,.bin .lss (R 47) (R 49),ab⟩] Hq),.inBlock 0,.code xS] ⟨t,[],K'⟩ Q:=by
    intro t K' c' f7 M E F I J U v9 O v_ a8 r5 s9 s_;exact aA (next _ _ ⟨by simp[M],by simp[E],by simp[F],by simp[I],by simp[J],by simp[U],v_,c',f7,by simp[O],a8,r5,s9,λx y=>by rw[s_,m4]⟩ (by simp[v9]))
   refine av (.inl rfl) ?_;cases hc:pV (n,mJ k n p) (m,mL k m q)with
   |false=>
    simp;refine aG (by simp) (aS (go _ Z c ps (by simp[M]) (by simp[E]) (by simp[F]) (by simp[I]) (by simp[J]) (by simp[U]) (by simp[u]) (by simp[O]) a_ n9 W (by omega) λx y=>?_));simp[hc]
   |true=>
    obtain⟨⟨l0,l1⟩,-,-,-⟩:=r_ hc;obtain⟨e,he⟩:=aD (iQ (n,mJ k n p) (m,mL k m q));rw[<-he]at l0 l1;have f8:=wK A X tA a.len l.min (e+bf) (by unfold fK;omega) (by unfold fK;omega) (by unfold fK;omega);have f_:=wK B Y tB b.len d.min (e+bf+k) (by unfold fK;omega) (by unfold fK;omega) (by unfold fK;omega);have i5:cm a.len l.min (e+bf)=qJ a l n p m q k:=by unfold qJ;rw[he,j_]
    have i6:cm b.len d.min (e+bf+k)=qK b d n p m q k:=by unfold qK;rw[he,j_]
    rw[i5]at f8;rw[i6]at f_;obtain⟨hx,i5⟩:=aD (qJ a l n p m q k);obtain⟨hy,i6⟩:=aD (qK b d n p m q k);rw[<-i5]at f8;rw[<-i6]at f_;simp only[aE.row,afS,afW]at f8 f_;have w9:=n9.push [bB.box ((cT 0 hx hy).map .f) 0];have d4:(Z++[bB.box ((cT 0 hx hy).map .f) 0])[Z.length]?=aa (.box ((cT 0 hx hy).map .f) 0):=by simp
    obtain⟨c',K',x1,x2,x3,x4⟩:=w9.app (nC _) (by decide) (row:=cT 0 hx hy) rfl (bytes:=56) (by simp[bU];omega) d4;rw[AJ]at x2;simp only[cT,aE.row,afS,afW,agu,agK]at x1;have hle:¬ (1563749870644<e):=by omega
    simp[<-he,show e<=1563749870644 by omega];refine al (by simp) (av (.inl rfl) ?_);simp[E,F,O,f1,f4,r0,r2,r4,bg (n:=e+bf),bg (n:=e+bf+k),f8,f_,x1,-aq];have k2l:4<=Z.length:=pl _ a_;refine go _ K' c' (ps++[(hx,hy)]) (by simp[M]) (by simp[E]) (by simp[F]) (by simp[I]) (by simp[J]) (by simp[U]) (by simp[u]) (by simp) (i9 _ _ a_ λi hi=>?_) x2 (λi hi=>?_) (by simp;omega) λx y=>?_
    .have l_:i<Z.length:=by omega
     rw[afB l_];exact x3.2 i _ (by rw[afy l_,afB l_]) λh=>by have:=W i h;omega
    .rcases x4 with h|h
     .exact W i (by rw[<-h];exact hi)
     .rw[h]at hi;cases hi;simp;omega
    .rw[afY,afO,afG,i5,i6];simp[hc]
  .rintro t K ⟨M,E,F,I,J,U,hK,c,ps,O,hL,W,i7,a9⟩ -;refine v8 t K c ps M E F I J O hK hL W (by omega) λx y=>?_;rw[a9];constructor
   .rintro⟨k,⟨i,hi,-,rfl⟩,h⟩;exact⟨_,((k_ _).1 (afH hi)).2.2,h⟩
   .rintro⟨k,hk,h⟩;obtain⟨i,hi,he⟩:=agd (n_ k hk);exact⟨k,⟨i,hi,hi,he.symm⟩,h⟩
 exact⟨s,hs,h.eq⟩
theorem A6(af b r:Int)(h0:0<=r)(l:r<=2):∃d:bZ,bI af b r=d/\d.jK=0/\d.oA=af/\d.cap=10/\d.op=cQ.map .f/\d.row.length=15/\
  (∀H:aj,bw H 15 ab (.c (.f (eI af b))) (vi r)=aa (.c (.f (.fp (rows (bQ af b)).flatten (r.toNat*15)))))/\
  (∀H:aj,aQ H (aa 15) (.c (.f (.fp (rows (bQ af b)).flatten (r.toNat*15))))=aa (.a (d.row.map .f))):=by
 have m:=j3 af b h0 l;refine⟨_,rfl,?_,?_,?_,?_,rfl,λH=>?_,λH=>?_⟩
 .unfold bI;split<;>(try split)<;>rfl
 .unfold bI;split<;>(try split)<;>rfl
 .unfold bI;split<;>(try split)<;>rfl
 .unfold bI;split<;>(try split)<;>rfl
 .exact a7 (H:=H) (g:=.fs) (rows:=rows (bQ af b)) (sz:=15) (k:=.i64) (i:=r) h0 (by simp[bQ];omega)
 .exact bE (H:=H) (dt (bQ af b)) (j:=r.toNat) (row:=(bI af b r).row) (by rw[rows,List.getElem?_map,m];rfl)
theorem R6(af qu:Int)(a0:0<=af)(a1:af<=39)(s:aB)(hs:iL s):∃H,aX tab zY [.c (.f (eI af qu)),.a (s.row.map .f)]=Eq (.a ((gq af s H .nil).row.map .f)):=by
 obtain⟨v,⟨H,rfl⟩,hp⟩:∃v,(∃H,v=.a ((gq af s H .nil).row.map .f))/\aX tab zY [.c (.f (eI af qu)),.a (s.row.map .f)] v:=by
  obtain⟨m,r,Z,z,n,p,mi,le,rfl,b⟩:=hs;obtain⟨k,hk,i4⟩:=b.i0;have e0:=b.l0;have e1:=b.l1;obtain⟨rr,-,rb,ra,-,-,rl,a9,a_⟩:=A6 af qu r b.r0 b.r1;obtain⟨rm,f_⟩:=aD (eI af qu);rw[<-f_]at a9 ⊢;obtain⟨M,hM⟩:=aD (fY n p);have b_:(jv m r Z z n p mi le).row.map C.f=[.f (fi m),.f (fi r),.f (fi Z),.f (fi z),.f (.fs [M,fi mi] 1),.f (fi le),.f .aK]:=by rw[hM];rfl
  have b9:∀H,(gq af (jv m r Z z n p mi le) H .nil).row.map C.f=[.f (sl H [[M,fi mi]]),.f (fi (le+af)),.f .aK]:=λH=>by
   rw[hM];simp[gq,jv,aN.row,aP,om,bK.row,aC,sl,Tg.fc,aT,dV.row,gr,fB.row,fY,ints]
  rw[b_];simp only[b9];refine cN rfl rfl λQ hQ=>?_;have c_:rr.row.map C.f=.f (fi rr.cap)::.f (fi 0)::.f (fi af) ::(rr.row.drop 3).map .f:=by rw[<-rb,<-ra];rfl
  obtain⟨R,f⟩:=aD (rr.row.map C.f);rw[<-f]at a_ c_;have e_:R.length=15:=by rw[f,afT,rl]
  apply ai;simp;obtain⟨B,I⟩:=aD ([.box [.f (fi m),.f (fi r),.f (fi Z),.f (fi z),.f (.fs [M,fi mi] 1),.f (fi le),.f .aK] 0,.box [.f .aK,.f (fi 0),.f .aK] 0]:aj);have W:B[0]?=aa (.box [.f (fi m),.f (fi r),.f (fi Z),.f (fi z),.f (.fs [M,fi mi] 1),.f (fi le),.f .aK] 0):=by rw[I];rfl
  have z1:B[1]?=aa (.box [.f .aK,.f (fi 0),.f .aK] 0):=by rw[I];rfl
  have n0:B.length=2:=by rw[I];rfl
  rw[<-I];have ls:∀K:aj,K[0]?=aa (.box [.f (fi m),.f (fi r),.f (fi Z),.f (fi z),.f (.fs [M,fi mi] 1),.f (fi le),.f .aK] 0)->aQ K ab (.c (.ptr 0 1 0))=aa (vi r)/\aQ K ab (.c (.ptr 0 4 0))=aa (.c (.f (.fs [M,fi mi] 1)))/\aQ K ab (.c (.ptr 0 5 0))=aa (vi le)/\aQ K ab (.c (.ptr 0 6 0))=aa (.c (.f .aK)):=λK h=>by refine⟨?_,?_,?_,?_⟩<;>simp[aQ,aw,h]
  obtain⟨U,N⟩:=aD (B++[.box R 0]:aj);have k1:Kp B U:=by rw[N];exact Kp.push _ _
  have n1:U.length=3:=by rw[N];simp[n0]
  have z2:U[2]?=aa (.box R 0):=by rw[N,<-n0];simp
  have lr:∀K:aj,K[2]?=aa (.box R 0)->aQ K ab (.c (.ptr 2 1 0))=aa (vi 0)/\aQ K ab (.c (.ptr 2 2 0))=aa (vi af):=λK h=>by
   rw[c_]at h;refine⟨?_,?_⟩<;>simp[aQ,aw,h]
  apply ai;simp[(ls B W).1,a9,a_,e_,n0,-aq];rw[<-N];obtain⟨F,O⟩:=aD (U++[.box [.f .aK,.f (fi (le+af)),.f .aK] 0]:aj);have k2:Kp U F:=by rw[O];exact Kp.push _ _
  have n2:F.length=4:=by rw[O];simp[n1]
  have z3:F[3]?=aa (.box [.f .aK,.f (fi (le+af)),.f .aK] 0):=by rw[O,<-n1];simp
  apply ai;simp[(ls U (k1.get W)).2.2.1,(lr U z2).1,(lr U z2).2,bg (n:=le),bg (n:=le+af),n1,-aq];rw[<-O];have kk:=k1.tr k2;have y2:=k2.get z2;apply ak;apply ai;simp;have Y:∀K:aj,bo K (.f (.fs [M,fi mi] 1))=aa 1/\bw K 2 ab (.c (.f (.fs [M,fi mi] 1))) (vi 0)=aa (.c (.f (.fp [M,fi mi] 0)))/\aQ K (aa 2) (.c (.f (.fp [M,fi mi] 0)))=aa (.a [.f M,.f (fi mi)]):=λK=>⟨rfl,rfl,rfl⟩
  refine bA 1 (λj t K=>t.g 3=.c (.ptr 0 0 0)/\t.g 4=.c (.ptr 1 0 0)/\t.g 5=.c (.ptr 2 0 0)/\t.g 6=.c (.ptr 3 0 0)/\(j=0->K=F)/\(j=1->K[0]?=B[0]?/\K[1]?=B[1]?/\∃c,K[3]?=aa (.box [c,.f (fi (le+af)),.f .aK] 0)/\LR K c 2 [[M,fi mi]])) (by omega) rfl (by simp) ⟨by simp,by simp,by simp,by simp,λ_=>rfl,by omega⟩ ?_ ?_ ?_
  .rintro j t K L hj ⟨q,E,g5,u,h0,h1⟩ ha a;have f7:K[0]?=aa (.box [.f (fi m),.f (fi r),.f (fi Z),.f (fi z),.f (.fs [M,fi mi] 1),.f (fi le),.f .aK] 0):=by
    obtain rfl|rfl:j=0\/j=1:=by omega
    .rw[h0 rfl];exact kk.get W
    .rw[(h1 rfl).1];exact W
   simp[ha,q,(ls K f7).2.1,(Y K).1,-aq];exact a _ ⟨by simp[q],by simp[E],by simp[g5],by simp[u],h0,h1⟩ (by simp[ha]) (by simp<;>omega)
  .rintro j t K hj ⟨q,E,g5,u,h0,-⟩ ha next
   obtain rfl:j=0:=by omega
   rw[h0 rfl];have a8:t.g 7=vi 0:=ha;obtain⟨d,S⟩:=aD (F++[.box [.f M,.f (fi mi)] 0]:aj);have k3:Kp F d:=by rw[S];exact Kp.push _ _
   have n3:d.length=5:=by rw[S];simp[n2]
   have z4:d[4]?=aa (.box [.f M,.f (fi mi)] 0):=by rw[S,<-n2];simp
   have l4:aQ d ab (.c (.ptr 4 1 0))=aa (vi mi)/\aQ d (aa 2) (.c (.ptr 4 0 0))=aa (.a [.f M,.f (fi mi)]):=by refine⟨?_,?_⟩<;>simp[aQ,aw,z4,aO]
   have s4:cz d (.ptr 4 1 0) [.f (fi mi)]=aa d:=by
    have:cz d (.ptr 4 1 0) [.f (fi mi)]=aa (d.set 4 (.box [.f M,.f (fi mi)] 0)):=by simp[cz,z4,bp]
    rw[this,sf z4]
   refine aI ?_;apply ai;simp[q,a8,(ls F (kk.get W)).2.1,(Y F).2.1,(Y F).2.2,n2,-aq];rw[<-S];apply ai;simp[g5,l4.1,(lr d (k3.get y2)).1,bg (n:=mi),s4,-aq,-aU];refine av (.inl rfl) ?_;have y3:=k3.get z3;have l3:aQ d ab (.c (.ptr 3 0 0))=aa (.c (.f .aK)):=by simp[aQ,aw,y3]
   obtain⟨o,l⟩:=aD (d++[.box [.f M,.f (fi mi)] 0]:aj);have d4:o[5]?=aa (.box ([M,fi mi].map .f) 0):=by rw[l,<-n3];simp
   have e9:LR o (.f .aK) 2 []:=.inl ⟨rfl,.inl rfl⟩;obtain⟨c',w,x1,x2,x3,x4⟩:=e9.app (by simp[cA]) (by decide) (row:=[M,fi mi]) rfl (bytes:=32) (by decide) d4;have d9:w[3]?=aa (.box [.f .aK,.f (fi (le+af)),.f .aK] 0):=x3.2 3 _ ((by rw[l];exact Kp.push _ _:Kp d o).get y3) (by simp[bt]);have g_:w[0]?=B[0]?:=by rw[x3.2 0 _ ((by rw[l];exact Kp.push _ _:Kp d o).get (k3.get (kk.get W))) (by simp[bt]),W]
   have h_:w[1]?=B[1]?:=by rw[x3.2 1 _ ((by rw[l];exact Kp.push _ _:Kp d o).get (k3.get (kk.get z1))) (by simp[bt]),z1]
   obtain⟨K6,A⟩:=aD (w.set 3 (.box [c',.f (fi (le+af)),.f .aK] 0):aj);have s3:cz w (.ptr 3 0 0) [c']=aa K6:=by rw[A];simp[cz,d9,bp]
   simp only[afS,afW]at d4;simp[u,l3,l4.2,n3,-aq,-aU];rw[<-l];simp[x1,u,s3,-aq,-aU];refine aA (next _ _ ⟨by simp[q],by simp[E],by simp[g5],by simp[u],by omega,λ_=>⟨?_,?_,c',?_,?_⟩⟩ (by simp[a8]))
   .rw[A,ae2 (by omega)];exact g_
   .rw[A,ae2 (by omega)];exact h_
   .rw[A];exact afC (au d9)
   .rw[A];exact x2.cZ λi y hy hi=>by
     rw[ae2]
     .exact hy
     .rintro rfl;rcases x4 with h|h
      .rw[h]at hi;cases hi
      .rw[h]at hi;have:=ahg hi;rw[l]at this;simp[n3]at this
  .rintro t K ⟨q,E,g5,u,-,h1⟩ ha;obtain⟨y0,y1,c,y3,a⟩:=h1 rfl;rw[W]at y0;rw[z1]at y1;have f8:bo K (.f .aK)=aa 0:=rfl;apply ak;apply ai;simp;refine bA 0 (λj t J=>t.g 3=.c (.ptr 0 0 0)/\t.g 4=.c (.ptr 1 0 0)/\t.g 6=.c (.ptr 3 0 0)/\J=K) (by omega) rfl (by simp) ⟨by simp[q],by simp[E],by simp[u],rfl⟩ ?_ (λj t K hj=>by omega) ?_
   .rintro j t J L hj ⟨q,E,u,rfl⟩ hb a;simp[hb,q,(ls J y0).2.2.2,f8,-aq];exact a _ ⟨by simp[q],by simp[E],by simp[u],rfl⟩ (by simp[hb]) (by simp)
   .rintro t J ⟨q,E,u,rfl⟩ hb;have l3:aQ J (aa 3) (.c (.ptr 3 0 0))=aa (.a [c,.f (fi (le+af)),.f .aK]):=by simp[aQ,aw,y3,aO]
    obtain⟨J1,X⟩:=aD (J.set 1 (.box [c,.f (fi (le+af)),.f .aK] 0):aj);have s1:cz J (.ptr 1 0 0) [c,.f (fi (le+af)),.f .aK]=aa J1:=by rw[X];simp[cz,y1,bp]
    have w1:J1[1]?=aa (.box [c,.f (fi (le+af)),.f .aK] 0):=by rw[X];exact afC (au y1)
    have d_:LR J1 c 2 [[M,fi mi]]:=by
     rw[X];exact a.cZ λi y hy hi=>by
      rw[ae2]
      .exact hy
      .rintro rfl;rcases a with⟨e,-⟩|⟨-,b',ep,hc,f⟩
       .cases e
       .rw[hc]at hi;have:=ahg hi;subst this;unfold RB at f;rw[y1]at f;cases f
    obtain⟨g,hg⟩:=d_.ex (by intro x hx;rw[afO.1 hx];rfl) 63;change eg deep J1 c=_ at hg;apply ai;simp[E,u,l3,s1,-aq,-aU];refine az (hQ _ _ _ ⟨g,rfl⟩ ?_);simp[Km.results,aZ,cu,E,aQ,aw,w1,aO,fC,hg]
 exact⟨H,hp.eq⟩
theorem zx(g:bZ)(af:Int)(F:g.jK=0)(E:g.oA=af)(x:aE) :
  aX tab VT [.a (g.row.map .f),.a (x.row.map .f)]=Eq (.a [.f (fi x.day),.f (fi (iu x.fr)),.f (fi (iu (x.to-af)))]):=aX.eq (by
 refine bH rfl rfl λQ u=>?_;have q:g.row.map C.f=.f (fi g.cap)::.f (fi 0)::.f (fi af) ::(g.row.drop 3).map .f:=by rw[<-F,<-E];rfl
 have s:x.row.map C.f=[.f (fi x.day),.f (fi x.fr),.f (fi x.to)]:=rfl;rw[q,s];obtain⟨R,v⟩:=aD (.f (fi g.cap)::.f (fi 0)::.f (fi af) ::(g.row.drop 3).map .f:List C);rw[<-v];apply ai;simp;have y:∀K:aj,K[0]?=aa (.box R 0)->aQ K ab (.c (.ptr 0 1 0))=aa (vi 0)/\aQ K ab (.c (.ptr 0 2 0))=aa (vi af):=λK h=>by
  rw[v]at h;refine⟨?_,?_⟩<;>simp[aQ,aw,h]
 obtain⟨m,b⟩:=aD ([.box R 0,.box [.f (fi x.day),.f (fi x.fr),.f (fi x.to)] 0,.box [.f (fi 0),.f (fi 0),.f (fi 0)] 0]:aj);have J:m[0]?=aa (.box R 0):=by rw[b];rfl
 have L:aQ m ab (.c (.ptr 1 1 0))=aa (vi x.fr):=by rw[b];rfl
 obtain⟨j,d⟩:=aD ([.box R 0,.box [.f (fi x.day),.f (fi (iu x.fr)),.f (fi x.to)] 0,.box [.f (fi 0),.f (fi 0),.f (fi 0)] 0]:aj);have z:cz m (.ptr 1 1 0) [.f (fi (iu x.fr))]=aa j:=by rw[b,d];rfl
 have H:j[0]?=aa (.box R 0):=by rw[d];rfl
 have I:aQ j ab (.c (.ptr 1 2 0))=aa (vi x.to):=by rw[d];rfl
 obtain⟨B,l⟩:=aD ([.box R 0,.box [.f (fi x.day),.f (fi (iu x.fr)),.f (fi (iu (x.to-af)))] 0,.box [.f (fi 0),.f (fi 0),.f (fi 0)] 0]:aj);have A:cz j (.ptr 1 2 0) [.f (fi (iu (x.to-af)))]=aa B:=by rw[d,l];rfl
 unfold iu at z A u;rw[<-b];apply ai;simp[(y m J).1,L,z,-aq,-aU];apply ai;simp[(y j H).2,I,A,-aq,-aU];apply ai;simp[l];refine az (u _ _ ?_);unfold iu;simp[Km.results,fC,bX,aZ,deep])
theorem zz(x:aB)(v:iL x):aX tab VU [.a (x.row.map .f),vi 3]=Eq (vb ae):=aX.eq (by
 obtain⟨m,r,j,z,n,p,mi,le,rfl,b⟩:=v;obtain⟨k,J,u⟩:=b.i0;have H:=b.l0;have I:=b.l1;have g:=Tw (m:=m) (r:=r) (t:=j) (z:=z) (mi:=mi) (le:=le) ⟨b.n0,b.n1,b.p0,b.p1⟩ (by omega) (by omega) (by omega) (by omega);obtain⟨A,q⟩:=aD (.fs [fY n p,fi mi] 1:FC);have d:(jv m r j z n p mi le).row.map C.f=[.f (fi m),.f (fi r),.f (fi j),.f (fi z),.f A,.f (fi le),.f .aK]:=by rw[q];rfl
 have l:(jv m r j z n p mi le).st.row.map C.f=[.f A,.f (fi le),.f .aK]:=by rw[q];rfl
 rw[l]at g;rw[d];have y:=b.m0;have B:=b.r0;have K:=b.r1;have E:=b.t0;have L:=b.t1;have F:=b.z0;have M:=b.z1;refine bH rfl rfl λQ s=>?_;apply ai;simp;apply ai;simp[g,y,B,show r<3 by omega,E,show j<=63 by omega,F,show z<=512 by omega];refine az (s _ _ ?_);simp)
theorem Pd(g:Tg)(l:List aB)(W:l.length<=1000)(U:l.Pairwise fP)(S:∀s∈l,iL s):aX tab VM [.c (.f (sl g (an l))),vi 3]=Eq (vb ae):=aX.eq (by
 refine bH rfl rfl λQ O=>?_;apply ai;simp;apply ak;apply ai;have u:∀K:aj,bo K (.f (sl g (an l)))=aa l.length:=λK=>by simp
 simp[u,show¬ (4096<(l.length:Int)) by omega];refine bc (by simp) ?_;apply ak;apply ai;simp;refine bA l.length (λj t K=>t.g 0=.c (.f (sl g (an l)))/\t.g 1=vi 3/\t.g 4=vb ag/\K=[]) (by omega) rfl (by simp) ⟨by simp,by simp,by simp,rfl⟩ ?_ ?_ ?_
 .rintro j t K L x ⟨g0,v,z,rfl⟩ b N;simp[b,g0,u];exact N _ ⟨by simp[g0],by simp[v],by simp[z],rfl⟩ (by simp[b]) (by simp)
 .rintro j t K x ⟨g0,v,z,rfl⟩ b next
  have m:=λ(H:aj) (i:Nat) (hi:i<l.length)=>a7 (H:=H) (g:=g) (rows:=an l) (sz:=7) (k:=.i64) (i:=(i:Int)) (by omega) (by simp;omega);have y:=λ(H:aj) (i:Nat) (hi:i<l.length)=>bE (H:=H) (aR l) (bD hi);simp only[afU]at m;have E:=zz l[j] (S _ (afH x));refine aI ?_;apply ai;by_cases h0:j=0
  .subst h0;have q:=m [] 0 x;have d:=y [] 0 x;simp only[Int.natCast_zero,Nat.zero_mul]at q d b;simp[b,g0,v,q,d,E];refine aG (by simp) (aS (aA (next _ _ ⟨by simp[g0],by simp[v],by simp[z],rfl⟩ (by simp[b]))))
  .have B:fP l[j-1] l[j]:=List.pairwise_iff_getElem.1 U (j-1) j (by omega) x (by omega);have A:=NF l[j-1] l[j];have J:yK l[j-1] l[j]=ae:=by
    unfold yK;unfold fP at B;simpa using B
   rw[J]at A;have M:(j:Int)-1=((j-1:Nat):Int):=by omega
   have F:=m [] (j-1) (by omega);have I:=y [] (j-1) (by omega);rw[<-M]at F;have q:=m [] j x;have d:=y [] j x;simp[b,g0,v,q,d,E,show 0<j by omega,bg (n:=(j:Int)-1),F,I,A];refine aG (by simp) (aS (aA (next _ _ ⟨by simp[g0],by simp[v],by simp[z],rfl⟩ (by simp[b]))))
 .rintro t K ⟨g0,v,z,rfl⟩ b;apply ai;simp;refine az (O _ _ ?_);simp)
theorem GM(af g:Int):∀r∈bQ af g,py r:=by
 obtain⟨-,-,h,-⟩:=G0;intro r d;have b:r.op=cQ.map .f:=by
  simp only[bQ,List.mem_cons,List.not_mem_nil,or_false]at d;rcases d with rfl|rfl|rfl<;>rfl
 show aX tab zX [.a r.op] (vi 0);rw[b];show aX tab zX [Cs] (vi 0);rw[h]
theorem Kg(af b:Int)(A:0<=af)(a1:af<=39)(L:0<=b)(M:b<=10080)(g:Tg)(d:List aB)(z:d.length<=1000)(F:d.Pairwise fP)(E:∀s∈d,iL s)(x:aB)(H:iL x) :
  aX tab VQ [.c (.f (eI af b)),.c (.f (sl g (an d))),.a (x.row.map .f)]=Eq (vb (!gH d x)):=aX.eq (by
 have q:=zw .fs (bQ af b) (show(3:Nat)<=6 by decide) (GM af b);rw[Bi af b A a1 L M]at q;have l:=Pd g d z F E;have y:=zz x H;have j:=JB g d z x;change _=Eq (vb (gH d x))at j;change aX tab DA [.c (.f (eI af b))]=_ at q;have m:∀K:aj,bo K (.f (eI af b))=aa 3:=λK=>rfl;obtain⟨N,u⟩:=aD (eI af b);obtain⟨O,v⟩:=aD (sl g (an d));rw[<-u]at q m ⊢;rw[<-v]at l j ⊢;have I:x.row.length=7:=rfl;have J:aQ [bB.box (x.row.map .f) 0] (aa 7) (.c (.ptr 0 0 0))=aa (.a (x.row.map .f)):=by simp[aQ,aw,aO,aB.row]
 refine bH rfl rfl λQ B=>?_;apply ai;simp;apply ai;simp[q,m,l,J,y,j,-aq];refine az (B _ _ ?_);simp)
theorem Ft(af d:Int)(g:0<=af)(a1:af<=39)(q:0<=d)(s:d<=10080){a b:Int}(h0:0<=a)(j:a<=2)(l:0<=b)(m:b<=2):gW (bQ af d) a b=Fs af d a b:=by
 unfold gW Fs;rw[Bi af d g a1 q s,j3 af d h0 j,j3 af d l m,show(bQ af d).length=3 from rfl];simp[bj];omega
theorem lV{s:aB}(h:iL s){af:Int}(j:0<=af)(a1:af<=39)(g:Tg):aX tab ns [.a ((gq af s g .nil).row.map .f)]=Eq (vb ae):=by
 have d:=wu h j a1 g .nil;rw[wP _ d.sm λc l=>by
  obtain⟨m,r,q,z,n,p,mi,le,rfl,b⟩:=h;rw[show c=⟨.fs,[td n p],mi-0⟩ from afO.1 l];rw[FG ⟨b.n0,b.n1,b.p0,b.p1⟩];exact A' ⟨b.n0,b.n1,b.p0,b.p1⟩,d.v]
theorem uL{s:aB}(h:iL s){af:Int}(j:0<=af)(a1:af<=39)(g:Tg):∃c n p,oy (gq af s g .nil) c/\qx c n p:=by
 obtain⟨m,r,v,z,n,p,mi,le,rfl,b⟩:=h;obtain⟨k,u,d⟩:=b.i0;have l:=b.l0;have q:=b.l1;refine⟨⟨.fs,[td n p],mi-0⟩,n,p,⟨rfl,rfl,?_,?_,?_,?_⟩,⟨rfl,b.n0,b.n1,b.p0,b.p1⟩⟩
 .show 0<=mi-0;omega
 .show mi-0<=1180;omega
 .show 1<=le+0+af;omega
 .show le+0+af<=400;omega
theorem J8(af y:Int)(S:0<=af)(a1:af<=39)(q0:0<=y)(q1:y<=10080)(g:Tg)(l:List aB)(hl:l.length<=1000)(hf:∀s∈l,iL s)(x:aB)(hx:iL x)(mt:aB->Bool)(F:aB->FS)
  (n8:∀s∈l,(mt s=ae↔mM (gq af x .nil .nil) (gq af s .nil .nil))/\fA (-2251799813685248) (λX Y=>fR (gq af x .nil .nil) X/\fR (gq af s .nil .nil) Y) (F s)) :
  aX tab Mq [.c (.f (eI af y)),.c (.f (sl g (an l))),.a (x.row.map .f)]=Eq (.t [qY (fh af x mt (λs=>(F s).X) (λs=>(F s).Y) (λs=>(F s).found) (l.filter λs=>Fs af y s.room x.room)),vi 0]):=aX.eq (by
 obtain⟨G,hG⟩:=Classical.skolem.1 (show ∀s:aB,∃g:Tg,iL s->aX tab zY [.c (.f (eI af y)),.a (s.row.map .f)]=Eq (.a ((gq af s g .nil).row.map .f)) from λs=>by
  by_cases h:iL s
  .obtain⟨g,h'⟩:=R6 af y S a1 s h;exact⟨g,λ_=>h'⟩
  .exact⟨.nil,λh'=>absurd h' h⟩)
 obtain⟨O,M⟩:∃O:aB->aN,∀s,O s=gq af s (G s) .nil:=⟨_,λ_=>rfl⟩
 have hO:∀s,iL s->aX tab zY [.c (.f (eI af y)),.a (s.row.map .f)]=Eq (.a ((O s).row.map .f)):=λs h=>by rw[M];exact hG s h
 have hV:∀s,iL s->aX tab ns [.a ((O s).row.map .f)]=Eq (vb ae):=λs h=>by rw[M];exact lV h S a1 _
 have hM:∀s∈l,aX tab Dw [.a ((O x).row.map .f),.a ((O s).row.map .f)]=Eq (.t [vb (mt s),vi 0]):=λs h=>by
  obtain⟨c,n,p,h1,h2⟩:=uL hx S a1 (G x);obtain⟨d,m,q,h3,h4⟩:=uL (hf s h) S a1 (G s);rw[M,M];obtain⟨r,hr,hp⟩:=Pf _ _ h1 h3 h2 h4 (lV hx S a1 _) (lV (hf s h) S a1 _);have:r=mt s:=by
   rw[Bool.eq_iff_iff,hr,(n8 s h).1];exact Iff.rfl
  rw[<-this];exact hp
 have s_:∀s∈l,aX tab uX [.a ((O x).row.map .f),.a ((O s).row.map .f),vi (-2251799813685248)]=Eq (.t [.a ((F s).X.row.map .f),.a ((F s).Y.row.map .f),vb (F s).found]):=λs h=>by
  obtain⟨c,n,p,h1,h2⟩:=uL hx S a1 (G x);obtain⟨d,m,q,h3,h4⟩:=uL (hf s h) S a1 (G s);rw[M,M];obtain⟨f,hr,hp⟩:=CL _ _ h1 h3 h2 h4 (lV hx S a1 _) (lV (hf s h) S a1 _);have v6:fA (-2251799813685248) (λX Y=>fR (gq af x .nil .nil) X/\fR (gq af s .nil .nil) Y) f:=hr;obtain⟨e1,e2,e3⟩:=v6.uniq (n8 s h).2;rw[<-e1,<-e2,<-e3];exact hp
 have B:∀s,iL s->0<=s.room/\s.room<=2:=λs h=>by
  obtain⟨m,r,tm,z,n,p,mi,le,rfl,b⟩:=h;exact⟨b.r0,b.r1⟩
 have l_:∀s,iL s->aX tab zZ [.c (.f (eI af y)),vi s.room,vi x.room]=Eq (vb (Fs af y s.room x.room)):=λs h=>by
  have h1:=B s h;have h2:=B x hx;have:=(Fe .fs (bQ af y) s.room x.room (show(3:Nat)<=6 by decide) (GM af y)).eq;rw[Ft af y S a1 q0 q1 h1.1 h1.2 h2.1 h2.2]at this;exact this
 obtain⟨res,U⟩:=aD (fh af x mt (λs=>(F s).X) (λs=>(F s).Y) (λs=>(F s).found) (l.filter λs=>Fs af y s.room x.room));have f7:res.length=8:=by rw[U];exact lN ..
 have o_:(eR res).length=8:=by simp[eR,f7]
 rw[<-U];refine bH rfl rfl λQ hQ=>?_;obtain⟨rm,p_⟩:=aD (eI af y);obtain⟨sd,j9⟩:=aD (sl g (an l));have m_:∀K:aj,bo K (.f sd)=aa l.length:=λK=>by rw[j9];simp
 have j6:∀(H:aj) (i:Nat),i<l.length->bw H 7 ab (.c (.f sd)) (vi i)=aa (.c (.f (.fp (an l).flatten (i*7)))):=λH i hi=>by
  rw[j9];have:=a7 (H:=H) (g:=g) (rows:=an l) (sz:=7) (k:=.i64) (i:=(i:Int)) (by omega) (by simp;omega);simpa only[afU]using this
 have m9:=λ(H:aj) (i:Nat) (hi:i<l.length)=>bE (H:=H) (aR l) (bD hi);have j7:=λ(H:aj) (i:Nat) (hi:i<l.length)=>kU (H:=H) (aR l) (bD hi) rfl;have j8:=λ(H:aj) (i:Nat) (hi:i<l.length)=>dw (H:=H) (k:=1) (aR l) (bD hi) rfl;obtain⟨fl,u_⟩:=aD ((an l).flatten);rw[<-u_]at j6 m9 j7 j8;rw[<-j9];rw[<-p_]at hO l_ ⊢;have x_:x.row.length=7:=rfl;apply ai;simp;obtain⟨K0,c_⟩:=aD ([.box (x.row.map .f) 0,.box [.f (fi 0),.f (fi 0),.f (fi 0),.f (fi 0),.f (fi 0),.f (fi 0),.f (fi 0),.f (fi 0)] 0]:aj);have n0:K0.length=2:=by rw[c_];rfl
 have z0:K0[0]?=aa (.box (x.row.map .f) 0):=by rw[c_];rfl
 have z1:K0[1]?=aa (.box [.f (fi 0),.f (fi 0),.f (fi 0),.f (fi 0),.f (fi 0),.f (fi 0),.f (fi 0),.f (fi 0)] 0):=by rw[c_];rfl
 rw[<-c_];have lx:∀K:aj,K[0]?=aa (.box (x.row.map .f) 0)->aQ K (aa 7) (.c (.ptr 0 0 0))=aa (.a (x.row.map .f))/\aQ K ab (.c (.ptr 0 0 0))=aa (vi x.meet)/\aQ K ab (.c (.ptr 0 1 0))=aa (vi x.room):=λK h=>by
  refine⟨?_,?_,?_⟩<;>simp[aQ,aw,h,aO,aB.row]
 obtain⟨K1,d9⟩:=aD (K0++[.box ((O x).row.map .f) 0]:aj);have k1:Kp K0 K1:=by rw[d9];exact Kp.push _ _
 have z2:K1[2]?=aa (.box ((O x).row.map .f) 0):=by rw[d9,<-n0];simp
 have n9:∀s,(O s).row.length=3:=λs=>rfl;have n1:K1.length=3:=by rw[d9];simp[n0]
 apply ai;simp[(lx K0 z0).1,hO x hx,n9,n0,-aq];rw[<-d9];apply ak;apply ai;simp;have y0:=k1.get z0;have y1:=k1.get z1;have i_:∀(t:T) (K:aj) (k:List de),Kp K1 K->t.g 6=.c (.ptr 1 0 0)->t.g 7=vi 0->Q (aa .ret) ⟨t,[],K.set 1 (.box (eR res) 0)⟩:=by
  intro t K k u A g7;have w1:(K.set 1 (.box (eR res) 0))[1]?=aa (.box (eR res) 0):=afC (au (u.get y1));refine hQ _ _ ?_
  match res,f7 with
  |[b1,b2,b3,b4,b5,b6,b7,b8],_=>
   simp[eR]at w1;simp[Km.results,aZ,cu,A,g7,aQ,aw,w1,aO,fC,bX,deep,qY,eR]
 refine bA l.length (λj t K=>t.g 0=.c (.f rm)/\t.g 1=.c (.f sd)/\t.g 5=.c (.ptr 0 0 0)/\t.g 6=.c (.ptr 1 0 0)/\t.g 8=.c (.ptr 2 0 0)/\Kp K1 K/\res=fh af x mt (λs=>(F s).X) (λs=>(F s).Y) (λs=>(F s).found) ((l.drop j).filter λs=>Fs af y s.room x.room)) (by omega) rfl (by simp) ⟨by simp,by simp,by simp,by simp,by simp,Kp.refl _,by rw[U];rfl⟩ ?_ ?_ ?_
 .rintro j t K L Z ⟨g0,E,W,A,g8,u,v⟩ I hL;simp[I,E,m_];exact hL _ ⟨by simp[g0],by simp[E],by simp[W],by simp[A],by simp[g8],u,v⟩ (by simp[I]) (by simp)
 .rintro j t K Z ⟨g0,E,W,A,g8,u,v⟩ I next
  have hsm:=afH Z;have e_:=hf _ hsm;have f8:=j6 K j Z;have e9:=j7 K j Z;have j5:=j8 K j Z;have u9:=λH=>m9 H j Z;have i5:=λH=>j6 H j Z;have g_:=λH=>j7 H j Z;have h_:=λH=>j8 H j Z;rw[afL Z,List.filter_cons]at v;have t9:=hO _ e_;have t_:=hV _ e_;have t7:=hM _ hsm;have j4:=s_ _ hsm;have d_:=l_ _ e_;have n_:=B _ e_;have i6:=B x hx;simp only[fi]at e9 j5 g_ h_;refine aI ?_;apply ak;apply ai;by_cases e1:l[j].meet=x.meet
  .have u6:res=fh af x mt (λs=>(F s).X) (λs=>(F s).Y) (λs=>(F s).found) ((l.drop (j+1)).filter λs=>Fs af y s.room x.room):=by
    rw[v];split
    .rw[fh,bu (.inl e1)]
    .rfl
   simp[I,g0,E,W,f8,e9,(lx K (u.get y0)).2.1,e1,-aq];refine al (by simp) (bT rfl ?_);exact next _ _ ⟨by simp[g0],by simp[E],by simp[W],by simp[A],by simp[g8],u,u6⟩ (by simp[I])
  .cases e2:Fs af y l[j].room x.room with
   |false=>
    rw[e2]at v d_;simp only[afR,if_false]at v;simp[I,g0,E,W,f8,e9,j5,(lx K (u.get y0)).2.1,(lx K (u.get y0)).2.2,e1,d_,-aq];refine al (by simp) (bT rfl ?_);exact next _ _ ⟨by simp[g0],by simp[E],by simp[W],by simp[A],by simp[g8],u,v⟩ (by simp[I])
   |true=>
    rw[e2]at v d_;simp only[if_true]at v;simp[I,g0,E,W,f8,e9,j5,(lx K (u.get y0)).2.1,(lx K (u.get y0)).2.2,e1,d_,-aq];refine bc (by simp) ?_;obtain⟨N,hN⟩:=aD (K.length);obtain⟨J1,a8⟩:=aD (K++[.box ((O l[j]).row.map .f) 0]:aj);have f_:Kp K J1:=by rw[a8];exact Kp.push _ _
    have d1:J1[N]?=aa (.box ((O l[j]).row.map .f) 0):=by rw[a8,hN];simp
    have m1:J1.length=N+1:=by rw[a8,hN];simp
    apply ai;simp[I,g0,E,f8,u9,t9,n9,-aq];rw[<-a8,<-hN];have lo:=jC d1;have r5:=jC (f_.get (u.get z2));apply ak;apply ai;simp[g8,lo,r5,hV _ hx,t_,-aq];refine bc (by simp) ?_;apply ai;simp[g8,lo,r5,t7,-aq];apply ak;apply ai;simp;refine bc (by simp) ?_;apply ak;apply ai;cases e3:mt l[j]with
    |false=>
     simp;refine al (by simp) (bT rfl ?_);exact next _ _ ⟨by simp[g0],by simp[E],by simp[W],by simp[A],by simp[g8],u.tr f_,by rw[v,fh,bu (.inr e3)]⟩ (by simp[I])
    |true=>
     simp;refine bc (by simp) ?_;rw[fh,bG (by rintro(h|h);exact e1 h;rw[e3]at h;cases h)]at v;obtain⟨J2,a9⟩:=aD (J1++[.box [.f (fi 15),.f (fi l[j].meet),.f (fi 0),.f (fi 0),.f (fi 0),.f (fi 0),.f (fi 0),.f (fi 0)] 0]:aj);have k_:Kp J1 J2:=by rw[a9];exact Kp.push _ _
     have d2:J2[N+1]?=aa (.box [.f (fi 15),.f (fi l[j].meet),.f (fi 0),.f (fi 0),.f (fi 0),.f (fi 0),.f (fi 0),.f (fi 0)] 0):=by rw[a9,<-m1];simp
     have m2:J2.length=N+2:=by rw[a9];simp[m1]
     apply ai;simp[I,E,i5,g_,m1,-aq];rw[<-a9];obtain⟨X,hX⟩:=aD ((F l[j]).X);obtain⟨Y,hY⟩:=aD ((F l[j]).Y);obtain⟨fd,m4⟩:=aD ((F l[j]).found);rw[<-hX,<-hY,<-m4]at j4;simp only[<-hX,<-hY,<-m4]at v;have j_:∀X:aE,X.row.map C.f=[.f (fi X.day),.f (fi X.fr),.f (fi X.to)]:=λ_=>rfl;rw[j_,j_]at j4;obtain⟨J3,a_⟩:=aD (J2++[.box [.f (fi X.day),.f (fi X.fr),.f (fi X.to)] 0,.box [.f (fi Y.day),.f (fi Y.fr),.f (fi Y.to)] 0]:aj);have q_:Kp J2 J3:=by rw[a_];exact Kp.push _ _
     have d3:J3[N+2]?=aa (.box [.f (fi X.day),.f (fi X.fr),.f (fi X.to)] 0):=by rw[a_,<-m2];simp
     have d4:J3[N+3]?=aa (.box [.f (fi Y.day),.f (fi Y.fr),.f (fi Y.to)] 0):=by rw[a_,afI (by omega),m2,show N+3-(N+2)=1 by omega];rfl
     have v8:=jC (k_.get d1);have r_:=jC (k_.get (f_.get (u.get z2)));apply ai;simp[g8,v8,r_,j4,m2,-aq];rw[<-a_];have i9:=q_.get d2;have kk:=((u.tr f_).tr k_).tr q_;have c1:=kk.get y1;apply ak;apply ai;cases i4:fd with
     |false=>
      rw[i4]at v;have l8:aQ J3 (aa 8) (.c (.ptr (N+1) 0 0))=aa (.a (eR res)):=by rw[v];simp[aQ,aw,i9,aO,KH,eR]
      have s8:cz J3 (.ptr 1 0 0) (eR res)=aa (J3.set 1 (.box (eR res) 0)):=by
       have J:(eR res).length=8:=by simp[eR,f7]
       generalize eR res=w at J
       match w,J with
       |[b1,b2,b3,b4,b5,b6,b7,b8],_=>simp[cz,c1,bp]
      simp;refine bc (by simp) ?_;apply ai;simp[A,l8,s8,o_,-aq,-aU];refine az (i_ _ _ [] kk ?_ ?_)<;>simp[A]
     |true=>
      rw[i4]at v;obtain⟨ra,-,v_,v9,-,-,w9,i7,s7⟩:=A6 af y x.room i6.1 i6.2;obtain⟨rb,-,x6,w_,-,-,x8,i8,s9⟩:=A6 af y l[j].room n_.1 n_.2;rw[<-p_]at i7 i8;have pa:=zx ra af v_ v9 X;have pb:=zx rb af x6 w_ Y;rw[j_]at pa pb;have l3:∀K:aj,K[N+2]?=aa (.box [.f (fi X.day),.f (fi X.fr),.f (fi X.to)] 0)->aQ K (aa 3) (.c (.ptr (N+2) 0 0))=aa (.a [.f (fi X.day),.f (fi X.fr),.f (fi X.to)]):=λK h=>by simp[aQ,aw,h,aO]
      have l4:∀K:aj,K[N+3]?=aa (.box [.f (fi Y.day),.f (fi Y.fr),.f (fi Y.to)] 0)->aQ K (aa 3) (.c (.ptr (N+3) 0 0))=aa (.a [.f (fi Y.day),.f (fi Y.fr),.f (fi Y.to)]):=λK h=>by simp[aQ,aw,h,aO]
      obtain⟨J4,b9⟩:=aD (J3.set (N+1) (.box [.f (fi 15),.f (fi l[j].meet),.f (fi X.day),.f (fi (iu X.fr)),.f (fi (iu (X.to-af))),.f (fi 0),.f (fi 0),.f (fi 0)] 0):aj);obtain⟨J5,b_⟩:=aD (J4.set (N+1) (.box (eR res) 0):aj);have x9:3<=N:=by have:=u.1;omega
      have s4:cz J3 (.ptr (N+1) 2 0) [.f (fi X.day),.f (fi (iu X.fr)),.f (fi (iu (X.to-af)))]=aa J4:=by rw[b9];simp[cz,i9,bp]
      have u4:J4[N+1]?=aa (.box [.f (fi 15),.f (fi l[j].meet),.f (fi X.day),.f (fi (iu X.fr)),.f (fi (iu (X.to-af))),.f (fi 0),.f (fi 0),.f (fi 0)] 0):=by rw[b9];exact afC (au i9)
      have s5:cz J4 (.ptr (N+1) 5 0) [.f (fi Y.day),.f (fi (iu Y.fr)),.f (fi (iu (Y.to-af)))]=aa J5:=by rw[b_,v];simp[cz,u4,bp,KH,eR]
      have k4:Kp K1 J4:=by rw[b9];exact kk.nj (by omega) _
      have k5:Kp K1 J5:=by rw[b_];exact k4.nj (by omega) _
      have u5:J5[N+1]?=aa (.box (eR res) 0):=by rw[b_];exact afC (au u4)
      have v4:J4[N+3]?=aa (.box [.f (fi Y.day),.f (fi Y.fr),.f (fi Y.to)] 0):=by rw[b9,ae2 (by omega)];exact d4
      have J:(eR res).length=8:=by simp[eR,f7]
      have l8:aQ J5 (aa 8) (.c (.ptr (N+1) 0 0))=aa (.a (eR res)):=by simp[aQ,aw,u5,aO,J,afM]
      have c5:=k5.get y1;have s8:cz J5 (.ptr 1 0 0) (eR res)=aa (J5.set 1 (.box (eR res) 0)):=by
       clear u5 l8 b_ s5;generalize eR res=w at J
       match w,J with
       |[b1,b2,b3,b4,b5,b6,b7,b8],_=>simp[cz,c5,bp]
      simp;refine al (by simp) ?_;apply ai;simp[g0,W,(lx J3 (kk.get y0)).2.2,i7,s7,w9,l3 _ d3,pa,s4,-aq,-aU];refine av (.inl rfl) ?_;simp[I,g0,E,i5,h_,i8,s9,x8,l4 _ v4,pb,s5,-aq,-aU];apply ai;simp[A,l8,s8,o_,-aq,-aU];refine az (i_ _ _ [] k5 ?_ ?_)<;>simp[A]
 .rintro t K ⟨g0,E,W,A,g8,u,v⟩ I;rw[agF]at v;have u7:eR res=[.f (fi 0),.f (fi 0),.f (fi 0),.f (fi 0),.f (fi 0),.f (fi 0),.f (fi 0),.f (fi 0)]:=by rw[v];rfl
  have s8:cz K (.ptr 1 0 0) [.f (fi 0),.f (fi 0),.f (fi 0),.f (fi 0),.f (fi 0),.f (fi 0),.f (fi 0),.f (fi 0)]=aa (K.set 1 (.box (eR res) 0)):=by rw[u7];simp[cz,u.get y1,bp]
  apply ai;simp[A,s8,-aU];refine az (i_ _ _ [] u ?_ ?_)<;>simp[A])
theorem abu{n p:Int}(h:mP n p):aX tab Vw [KJ n p]=Eq (vb ae):=by
 have b:=(afP CQ).1;have d:=agb.1 b _ (dn h);have g:=du d;exact g
theorem abr{p q:Int}(h0:0<=p)(d:p<6)(b:0<=q)(g:q<6):aX tab 377 [.c (.f (.fs [fi p] 1)),vi q]=Eq (vb (decide (p=q))):=by
 have j:(p.toNat,q.toNat)∈X8:=agE.2 ⟨p.toNat,agz.2 (by omega),af6.2 ⟨q.toNat,agz.2 (by omega),rfl⟩⟩;have h:aX tab 377 [.c (.f (.fs [fi (p.toNat:Nat)] 1)),vi (q.toNat:Nat)]=Eq (vb (decide (p.toNat=q.toNat))):=by
  have d:=(afP CQ).2;have b:=agb.1 d _ j;have g:=du b;exact g
 rw[ag0 h0,ag0 b]at h;rw[h];have:decide (p.toNat=q.toNat)=decide (p=q):=by
  by_cases e:p=q
  .subst e;simp
  .simp[e];omega
 rw[this]
theorem GD{tab:TB}{fn:Nat}{u:Option Nat}{k:List de}{ds:_}{Q:Option aH->St->Prop}{i a c x y:Nat}{l:List aV}{body:aH}{t:T}{H:aj}(z:Int)(N:Nat)(I:Nat->T->aj->Prop)(O:-1000000<=z)(K:z+(N:Int)<=1000000)(F:l.all (·.op.dB)=ae)
  (g:t.g a=vi z) (h0:I 0 t H)
  (m:∀j t H (L:St->Prop),j<=N->I j t H->t.g a=vi (z+(j:Int))->(∀b,I j b H->b.g a=vi (z+(j:Int))->b.g c=vb (decide (j<N))->L ⟨b,ds,H⟩)->xv tab l ⟨t,ds,H⟩ L)
  (step:∀j t H,j<N->I j t H->t.g a=vi (z+(j:Int))->
   (∀b H',I (j+1) (((b.s x (vi (z+(j:Int)))).s y (vi (z+(j:Int)+1))).s a (vi (z+(j:Int)+1))) H'->b.g a=vi (z+(j:Int))->
    WP tab fn u (.code (mo a x y)::.inLoop (gU i a c x y l body)::.inBlock i::k) ⟨b,ds,H'⟩ Q)->
   WP tab fn u (.code body::.code (mo a x y)::.inLoop (gU i a c x y l body)::.inBlock i::k) ⟨t,ds,H⟩ Q)
  (done:∀t H,I N t H->t.g a=vi (z+(N:Int))->WP tab fn u k ⟨t,ds,H⟩ Q) :
  WP tab fn u (.code (BO i a c x y l body)::k) ⟨t,ds,H⟩ Q:=by
 have q:∀ops:List aV,ops.all (·.op.dB)=ae->u=ab\/ops.all (·.op.dB)=ae:=λ_ h=>.inr h;refine aI ?_;refine dx (λn s=>∃j t H,s=⟨t,ds,H⟩/\j<=N/\n=N-j/\I j t H/\t.g a=vi (z+(j:Int))) N ⟨0,t,H,rfl,by omega,by omega,h0,by simpa using g⟩ ?_;rintro n s ⟨j,t,H,rfl,J,rfl,v,g⟩ M;apply ak;apply ak;refine av (q _ F) ?_;refine m j t H _ J v g λb v g A=>?_;by_cases d:j<N
 .rw[decide_eq_true d]at A;refine al A ?_;refine aS ?_;apply ak;refine step j b H d v g λb H' B E=>?_;refine av (q _ rfl) ?_;simp[E];rw[bg];exact M (N-(j+1)) _ (by omega) ⟨j+1,_,H',rfl,by omega,rfl,by simpa using B,by simp;omega⟩
 .have:j=N:=by omega
  subst this;rw[decide_eq_false d]at A;refine aG A ?_;refine bT (k':=k) ?_ (done b H v g);simp[Km.exitTo]
theorem Ki{n p d:Int}(h:mP n p)(l:0<=d)(v:d<=1000000):aX tab Vv [KJ n p,vi d]=Eq (vb (kX n p d)):=aX.eq (by
 have j:=abu h;obtain⟨y,z,s,A⟩:=h;have m:=agL d (show n≠0 by omega);have x:=Int.emod_lt_of_pos d (show 0<n by omega);have g:=abr (p:=p) (q:=d % n) s (by omega) m (by omega);have b:ei .rem (vi d) (vi n)=aa (vi (d % n)):=by
  have:¬ n=0:=by omega
  simp[ei,od,this,V.int,ag1 l]
 unfold KJ at j ⊢;refine bH rfl rfl λQ u=>?_;apply ai;simp;apply ak;apply ai;simp[j,show¬ d<0 by omega];refine bc (by simp) ?_;apply ak;apply ai;simp[show¬ d<0 by omega];refine bc (by simp) ?_;apply ai;simp[bg (n:=d),b,g];refine az (u _ _ ?_);have:decide (p=d % n)=kX n p d:=by unfold kX;simp[eq_comm]
 simp[this])
theorem O9{n p d:Int}(h:mP n p)(v:0<=d)(x:d<=1000000):aX tab Vx [.c (.f (.fs [.aK,fi 0,fi n,.fs [fi p] 1] 1)),vi d]=Eq (vb (kX n p d)):=aX.eq (by
 have s:=Ki h v x;unfold KJ at s;obtain⟨P,B⟩:=aD (.fs [fi p] 1:FC);rw[<-B]at s ⊢;have q:∀K:aj,bo K (.f (.fs [.aK,fi 0,fi n,P] 1))=aa 1/\bw K 4 ab (.c (.f (.fs [.aK,fi 0,fi n,P] 1))) (vi 0)=aa (.c (.f (.fp [.aK,fi 0,fi n,P] 0)))/\aQ K (aa 4) (.c (.f (.fp [.aK,fi 0,fi n,P] 0)))=aa (.a [.f .aK,.f (fi 0),.f (fi n),.f P]):=λK=>⟨rfl,rfl,rfl⟩
 obtain⟨A,y⟩:=aD (.fs [.aK,fi 0,fi n,P] 1:FC);rw[<-y]at q ⊢;refine bH rfl rfl λQ u=>?_;apply ai;simp;apply ak;apply ai;simp;refine bA 1 (λj t K=>t.g 0=.c (.f A)/\t.g 1=vi d/\K=[]/\(j=1->kX n p d=ae)) (by omega) rfl (by simp) ⟨by simp,by simp,rfl,by omega⟩ ?_ ?_ ?_
 .rintro j t K L E ⟨g0,g,rfl,b⟩ l z;simp[l,g0,(q []).1];exact z _ ⟨by simp[g0],by simp[g],rfl,b⟩ (by simp[l]) (by simp<;>omega)
 .rintro j t K E ⟨g0,g,rfl,-⟩ l next
  obtain rfl:j=0:=by omega
  have m:t.g 5=vi 0:=l;refine aI ?_;apply ai;simp[g0,g,m,(q []).2.1,(q []).2.2,s];cases b:kX n p d with
  |true=>exact aG (by simp) (aS (aA (next _ _ ⟨by simp[g0],by simp[g],rfl,λ_=>b⟩ (by simp[m]))))
  |false=>
   refine al (by simp) ?_;apply ai;simp;refine az (u _ _ ?_);simp[b]
 .rintro t K ⟨g0,g,rfl,b⟩ l;apply ai;simp;refine az (u _ _ ?_);simp[b rfl])
theorem Kj{n p d:Int}(h:mP n p)(x:0<=d)(y:d<=1000000):aX tab Mn [mx n p,vi d]=Eq (vb (kX n p d)):=aX.eq (by
 have u:=A' h;have hi:=O9 h x y;have s:∀K:aj,bo K (.f (fY n p))=aa 1/\bw K 1 ab (.c (.f (fY n p))) (vi 0)=aa (.c (.f (.fp [.fs [.aK,fi 0,fi n,.fs [fi p] 1] 1] 0)))/\aQ K ab (.c (.f (.fp [.fs [.aK,fi 0,fi n,.fs [fi p] 1] 1] 0)))=aa (.c (.f (.fs [.aK,fi 0,fi n,.fs [fi p] 1] 1))):=λK=>⟨rfl,rfl,rfl⟩
 have z:mx n p=.a [.f (fY n p)]:=rfl;rw[z]at u ⊢;obtain⟨A,E⟩:=aD (fY n p:FC);rw[<-E]at s u ⊢;obtain⟨B,F⟩:=aD (.fs [.aK,fi 0,fi n,.fs [fi p] 1] 1:FC);rw[<-F]at s hi;refine bH rfl rfl λQ v=>?_;apply ai;simp;apply ak;apply ai;simp[u];refine bc (by simp) ?_;apply ak;apply ai;simp;refine bA 1 (λj t K=>t.g 2=.c (.ptr 0 0 0)/\t.g 1=vi d/\K=[.box [.f A] 0]/\(j=1->kX n p d=ag)) (by omega) rfl (by simp) ⟨by simp,by simp,rfl,by omega⟩ ?_ ?_ ?_
 .rintro j t K L I ⟨b,l,rfl,g⟩ m H;simp[m,b,(s _).1];exact H _ ⟨by simp[b],by simp[l],rfl,g⟩ (by simp[m]) (by simp<;>omega)
 .rintro j t K I ⟨b,l,rfl,-⟩ m next
  obtain rfl:j=0:=by omega
  have q:t.g 5=vi 0:=m;refine aI ?_;apply ai;simp[b,l,q,(s _).2.1,(s _).2.2,hi];cases g:kX n p d with
  |false=>exact aG (by simp) (aS (aA (next _ _ ⟨by simp[b],by simp[l],rfl,λ_=>g⟩ (by simp[q]))))
  |true=>
   refine al (by simp) ?_;apply ai;simp;refine az (v _ _ ?_);simp[g]
 .rintro t K ⟨b,l,rfl,g⟩ m;apply ai;simp;refine az (v _ _ ?_);simp[g rfl])
theorem A7(a:Int)(h0:0<=a)(j:a<=100000000):aX tab Mm [vi a,vi 10080]=Eq (vi (a % 10080)):=aX.eq (by
 have g:=agL a (show(10080:Int)≠0 by omega);have b:ei .rem (vi a) (vi 10080)=aa (vi (a % 10080)):=by simp[ei,od,V.int,ag1 h0]
 refine bH rfl rfl λQ d=>?_;apply ai;simp;apply ai;simp[b];refine ak (ai ?_);simp[show¬ a % 10080<0 by omega];refine aG (by simp) (aS (ai ?_));simp;refine az (d _ _ ?_);simp)
theorem Ps(a:Int)(h0:0<=a)(g:a<=100000000):aX tab VN [vi a]=Eq (vi (a / 10080)):=aX.eq (by
 have l:=A7 a h0 g;have d:=qR (a:=a-a % 10080) (b:=10080) (by omega) (by omega) (by omega);have e:(a-a % 10080) / 10080=a / 10080:=by omega
 rw[e]at d;refine bH rfl rfl λQ j=>?_;apply ai;simp;apply ai;simp[l,bg (n:=a-a % 10080),d];refine az (j _ _ ?_);simp)
theorem GP{s:aN}{n p mi:Int}(b:kj s n p mi)(q:Int)(y:aE):y∈ir s q↔0<=q/\∃d:Int,7*q<=d/\d<7*q+7/\d % n=p/\y=cm s.len mi d:=by
 constructor
 .intro h;obtain⟨j,x,l,g,rfl⟩:=A0 h;rw[b.has]at g;rw[b.min];exact⟨l,7*q+j,by omega,by omega,by simpa[kX]using g,rfl⟩
 .rintro⟨l,d,u,v,m,rfl⟩;unfold ir;rw[bG (by omega)];unfold Yw Yv;refine af6.2 ⟨(d-7*q).toNat,agB.2 ⟨agz.2 (by omega),?_⟩,?_⟩
  .rw[b.has,show 7*q+((d-7*q).toNat:Int)=d by omega];simpa[kX]using m
  .rw[b.min,show 7*q+((d-7*q).toNat:Int)=d by omega]
theorem XY{s:aN}(q:Int):(ir s q).Pairwise aE.lt:=by
 unfold ir;split
 .exact List.Pairwise.nil
 .exact P7 s q
theorem wL(s:aN){n p mi:Int}(hs:kj s n p mi)(q:Int)(i8:-1<=q)(i9:q<=100):∃g,aX tab Dy [.a (s.row.map .f),vi q]=Eq (.c (.f (sl g (aC (ir s q))))):=by
 obtain⟨v,⟨g,rfl⟩,h⟩:∃v,(∃g,v=.c (.f (sl g (aC (ir s q)))))/\aX tab Dy [.a (s.row.map .f),vi q] v:=by
  refine cN rfl rfl λQ hQ=>?_;have m0:=hs.m0;have m1:=hs.m1;have l0:=hs.l0;have l1:=hs.l1;have hsm:=hs.sm;obtain⟨A,hA⟩:=aD (sl s.cg (aP s.cs));obtain⟨X,hX⟩:=aD (sl s.xg (aC s.xs));have i5:s.row.map C.f=[.f A,.f (fi s.len),.f X]:=by rw[hA,hX];rfl
  have iP:∀K:aj,bo K (.f A)=aa 1/\bw K 2 ab (.c (.f A)) (vi 0)=aa (.c (.f (.fp [fY n p,fi mi] 0))):=λK=>by rw[hA,hs.cs];exact⟨rfl,rfl⟩
  have g_:∀K:aj,bo K (.f X)=aa 0:=λK=>by rw[hX,hs.xs];cases s.xg<;>rfl
  have a9:∀K:aj,aQ K (aa 2) (.c (.f (.fp [fY n p,fi mi] 0)))=aa (.a [.f (fY n p),.f (fi mi)])/\aQ K (aa 1) (.c (.f (.fp [fY n p,fi mi] 0)))=aa (.a [.f (fY n p)]):=λK=>⟨rfl,rfl⟩
  have a_:∀d:Int,0<=d->d<=1000->aX tab Mn [.a [.f (fY n p)],vi d]=Eq (vb (kX n p d)):=λd h0 h1=>Kj hsm h0 (by omega);obtain⟨M,hM⟩:=aD (fY n p);rw[<-hM]at iP a9 a_;rw[i5];apply ai;simp;apply ai;simp;obtain⟨z,hz⟩:=aD (max (7*q-4) 0:Int);apply ak;apply ai;simp[bg (n:=7*q),bg (n:=7*q-4),<-hz];have lb:∀K:aj,K[0]?=aa (.box [.f A,.f (fi s.len),.f X] 0)->aQ K ab (.c (.ptr 0 0 0))=aa (.c (.f A))/\aQ K (aa 3) (.c (.ptr 0 0 0))=aa (.a [.f A,.f (fi s.len),.f X])/\aQ K ab (.c (.ptr 0 2 0))=aa (.c (.f X)):=λK h=>by
   refine⟨?_,?_,?_⟩<;>simp[aQ,aw,h,aO]
  obtain⟨K0,e_⟩:=aD ([.box [.f A,.f (fi s.len),.f X] 0]:aj);have z0:K0[0]?=aa (.box [.f A,.f (fi s.len),.f X] 0):=by rw[e_];rfl
  rw[<-e_];refine GD z (7*q+12-z).toNat (λj t K=>t.g 1=vi q/\t.g 2=.c (.ptr 0 0 0)/\Kp K0 K/\∃g l,t.g 5=.c (.f (sl g (aC l)))/\l.length<=j/\l.Pairwise aE.lt/\∀y,y∈l↔∃d:Int,z<=d/\d<z+j/\d % n=p/\(d*1440+mi) / 10080=q/\y=cm s.len mi d) (by omega) (by omega) rfl (by simp) ⟨by simp,by simp,Kp.refl _,.es,[],by simp[sl,Tg.fc,aC],by simp,List.Pairwise.nil,λy=>by simp;intro d _ _;omega⟩ ?_ ?_ ?_
  .rintro j t K L hj ⟨x,b,B,g,l,u,d9,E,m⟩ S hL;simp[S,x,bg (n:=7*q),bg (n:=7*q+11)];refine hL _ ⟨by simp[x],by simp[b],B,g,l,by simp[u],d9,E,m⟩ (by simp[S]) ?_;simp;omega
  .rintro j t K hj ⟨x,b,B,g,l,u,d9,E,m⟩ S next
   obtain⟨d,hd⟩:=aD (z+(j:Int):Int);rw[<-hd]at S next
   have d0:0<=d:=by omega
   have d1:d<=1000:=by omega
   have f7:=wK A X M s.len mi d (by unfold fK;omega) (by unfold fK;omega) (by unfold fK;omega);have f8:(cm s.len mi d).row.map C.f=[.f (fi d),.f (fi (d*1440+mi)),.f (fi (d*1440+mi+s.len))]:=rfl;rw[f8]at f7;have a8:=a_ d d0 d1;have i6:=Ps (d*1440+mi) (by omega) (by omega);have d_:l.length<=28:=by omega
   refine aI ?_;apply ai;simp;refine bA 1 (λi t K=>t.g 1=vi q/\t.g 2=.c (.ptr 0 0 0)/\t.g 6=vi d/\Kp K0 K/\∃g F,t.g 5=.c (.f (sl g (aC F)))/\(i=0->F=l)/\(i=1->F.length<=j+1/\F.Pairwise aE.lt/\∀y,y∈F↔∃d:Int,z<=d/\d<z+((j+1:Nat):Int)/\d % n=p/\(d*1440+mi) / 10080=q/\y=cm s.len mi d)) (by omega) rfl (by simp) ⟨by simp[x],by simp[b],by simp[S],B,g,l,by simp[u],λ_=>rfl,by omega⟩ ?_ ?_ ?_
   .rintro i t K L hi ⟨x,b,g6,B,g,F,u,h0,h1⟩ S hL;simp[S,b,(lb K (B.get z0)).1,(iP K).1,-aq];exact hL _ ⟨by simp[x],by simp[b],by simp[g6],B,g,F,by simp[u],h0,h1⟩ (by simp[S]) (by simp<;>omega)
   .clear u x b B;rintro i t K hi ⟨x,b,g6,B,g,F,u,h0,-⟩ S nx;obtain rfl:i=0:=by omega
    have hl:=h0 rfl;subst hl;have H:t.g 7=vi 0:=S;obtain⟨N,hN⟩:=aD (K.length);obtain⟨Y,c_⟩:=aD (K++[.box [.f (fi d),.f (fi (d*1440+mi)),.f (fi (d*1440+mi+s.len))] 0]:aj);have k1:Kp K Y:=by rw[c_];exact Kp.push _ _
    have e1:Y[N]?=aa (.box [.f (fi d),.f (fi (d*1440+mi)),.f (fi (d*1440+mi+s.len))] 0):=by rw[c_,hN];simp
    have lx:aQ Y ab (.c (.ptr N 1 0))=aa (vi (d*1440+mi))/\aQ Y (aa 3) (.c (.ptr N 0 0))=aa (.a [.f (fi d),.f (fi (d*1440+mi)),.f (fi (d*1440+mi+s.len))]):=by refine⟨?_,?_⟩<;>simp[aQ,aw,e1,aO]
    refine aI ?_;apply ai;simp[b,g6,H,(lb K (B.get z0)).1,(lb K (B.get z0)).2.1,(iP K).2,(a9 K).1,f7,-aq];rw[<-c_,<-hN];have W:=B.tr k1;apply ai;have b_:¬ (d % n=p/\(d*1440+mi) / 10080=q)->∀y,y∈F↔∃d:Int,z<=d/\d<z+((j+1:Nat):Int)/\d % n=p/\(d*1440+mi) / 10080=q/\y=cm s.len mi d:=λe9 y=>by
     rw[m];constructor
     .rintro⟨e,a1,a2,O,U,Z⟩;exact⟨e,a1,by omega,O,U,Z⟩
     .rintro⟨e,a1,a2,O,U,Z⟩;refine⟨e,a1,?_,O,U,Z⟩;by_cases he:e=d
      .subst he;exact absurd ⟨O,U⟩ e9
      .omega
    cases I:kX n p d with
    |false=>
     rw[I]at a8;have e9:¬ (d % n=p):=by unfold kX at I;simpa using I
     simp[b,g6,H,(lb Y (W.get z0)).1,(iP Y).2,(a9 Y).2,a8,-aq];refine aG (by simp) (aS (aA (nx _ _ ⟨by simp[x],by simp[b],by simp[g6],W,g,F,by simp[u],by omega,λ_=>⟨by omega,E,b_ λh=>e9 h.1⟩⟩ (by simp[H]))))
    |true=>
     rw[I]at a8;have f_:d % n=p:=by unfold kX at I;simpa using I
     simp[x,b,g6,H,(lb Y (W.get z0)).1,(iP Y).2,(a9 Y).2,a8,lx.1,i6,-aq];by_cases hw:(d*1440+mi) / 10080=q
     .simp only[hw,decide_true];refine al (by simp) ?_;obtain⟨g',l2,i7,⟨i4,h_⟩,b9⟩:=GZ g F (cm s.len mi d) d_ E;rw[f8]at b9;refine av (.inl rfl) ?_;simp[u,lx.2,b9,-aq];refine aA (nx _ _ ⟨by simp[x],by simp[b],by simp[g6],W,g',l2,by simp,by omega,λ_=>⟨by omega,i4,λy=>?_⟩⟩ (by simp[H]));rw[h_,m];constructor
      .rintro(rfl|⟨e,a1,a2,O,U,Z⟩)
       .exact⟨d,by omega,by omega,f_,hw,rfl⟩
       .exact⟨e,a1,by omega,O,U,Z⟩
      .rintro⟨e,a1,a2,O,U,Z⟩;by_cases he:e=d
       .subst he;exact .inl Z
       .exact .inr ⟨e,a1,by omega,O,U,Z⟩
     .simp only[hw,decide_false];refine aG (by simp) (aS (aA (nx _ _ ⟨by simp[x],by simp[b],by simp[g6],W,g,F,by simp[u],by omega,λ_=>⟨by omega,E,b_ λh=>hw h.2⟩⟩ (by simp[H]))))
   .rintro t K ⟨x,b,g6,B,g,F,u,-,h1⟩ S;obtain⟨q1,q2,q3⟩:=h1 rfl;exact aA (next _ _ ⟨by simp[x],by simp[b],B,g,F,by simp[u],q1,q2,q3⟩ (by simp[g6]))
  .rintro t K ⟨x,b,B,g,l,u,d9,E,m⟩ S;have hl:l=ir s q:=by
    refine EK E (XY q) λy=>?_;rw[m,GP hs];constructor
    .rintro⟨d,a1,a2,O,U,Z⟩;have:0<=d:=by omega
     exact⟨by omega,d,by omega,by omega,O,Z⟩
    .rintro⟨hq,d,a1,a2,O,U⟩;exact⟨d,by omega,by omega,O,by omega,U⟩
   subst hl;apply ak;apply ai;simp;refine bA 0 (λj t J=>t.g 2=.c (.ptr 0 0 0)/\t.g 5=.c (.f (sl g (aC (ir s q))))/\J=K) (by omega) rfl (by simp) ⟨by simp[b],by simp[u],rfl⟩ ?_ (λj t K hj=>by omega) ?_
   .rintro j t J L hj ⟨b,u,rfl⟩ hb hL;simp[hb,b,(lb J (B.get z0)).2.2,g_,-aq];exact hL _ ⟨by simp[b],by simp[u],rfl⟩ (by simp[hb]) (by simp)
   .rintro t J ⟨b,u,rfl⟩ hb;apply ai;simp[u];refine az (hQ _ _ _ ⟨g,rfl⟩ ?_);simp
 exact⟨g,h.eq⟩
theorem JR(k b:Int)(l:List aB){j:Nat}(m:j<l.length):bJ k b (l.take (j+1))=bJ k b (l.take j)++(if l[j].room=k/\l[j].dg=b then [l[j].st]else []):=by
 rw[agh m,lQ]
 congr 1
 unfold bJ;by_cases d:l[j].room=k<;>by_cases g:l[j].dg=b<;>simp[d,g]
theorem Cq(k b:Int)(l:List aB){j:Nat}(m:j<l.length):bJ k b (l.drop j)=(if l[j].room=k/\l[j].dg=b then [l[j].st]else [])++bJ k b (l.drop (j+1)):=by
 rw[afL m,show l[j]::l.drop (j+1)=[l[j]]++l.drop (j+1) from rfl,lQ]
 congr 1
 unfold bJ;by_cases d:l[j].room=k<;>by_cases g:l[j].dg=b<;>simp[d,g]
theorem oa(k b:Int)(l:List aB)(j:Nat):(bJ k b (l.take j)).length<=j:=by
 unfold bJ;rw[afT];exact Nat.le_trans (List.length_filter_le _ _) (by rw[af2];omega)
theorem zH(O:List aE){i:Nat}(hi:i<O.length):fF (O.take (i+1))=fF (O.take i)+(O[i].to-O[i].fr):=by
 rw[agh hi,C7];simp[fF]
theorem OO{s:aN}{n p mi:Int}(b:kj s n p mi){q:Int}(u:q<=100){x:aE}(g:x∈ir s q):0<=x.fr/\x.fr<x.to/\x.to<=2000000:=by
 obtain⟨h0,d,j,l,m,rfl⟩:=(GP b q x).1 g;have y:=b.m0;have z:=b.m1;have l0:=b.l0;have v:=b.l1;simp only[cm];omega
theorem CN(g:Tg)(b:List aB)(hl:b.length<=1000)(hf:∀s∈b,iL s)(k I q:Int)(i6:-1<=q)(d_:q<=100):aX tab Mp [.c (.f (sl g (an b))),vi k,vi I,vi q]=Eq (vi (ek (bJ k I b) q)):=aX.eq (by
 refine bH rfl rfl λQ hQ=>?_;obtain⟨sd,W⟩:=aD (sl g (an b));have d9:∀K:aj,bo K (.f sd)=aa b.length:=λK=>by rw[W];simp
 have a_:∀(H:aj) (i:Nat),i<b.length->bw H 7 ab (.c (.f sd)) (vi i)=aa (.c (.f (.fp (an b).flatten (i*7)))):=λH i hi=>by
  rw[W];have:=a7 (H:=H) (g:=g) (rows:=an b) (sz:=7) (k:=.i64) (i:=(i:Int)) (by omega) (by simp;omega);simpa only[afU]using this
 have b9:=λ(H:aj) (i:Nat) (hi:i<b.length)=>dw (H:=H) (k:=1) (aR b) (bD hi) rfl;have b_:=λ(H:aj) (i:Nat) (hi:i<b.length)=>dw (H:=H) (k:=2) (aR b) (bD hi) rfl;have c_:=λ(H:aj) (i:Nat) (hi:i<b.length)=>uI (H:=H) (k:=4) (n:=3) (aR b) (bD hi) (by decide);obtain⟨fl,i4⟩:=aD ((an b).flatten);rw[<-i4]at a_ b9 b_ c_;rw[<-W];apply ai;simp;apply ai;simp;apply ak;apply ai;simp;refine bA b.length (λj t K=>t.g 0=.c (.f sd)/\t.g 1=vi k/\t.g 2=vi I/\t.g 3=vi q/\t.g 9=vi (ek (bJ k I (b.take j)) q)/\K=[]) (by omega) rfl (by simp) ⟨by simp,by simp,by simp,by simp,by simp[bJ,ek],rfl⟩ ?_ ?_ ?_
 .rintro j t K L U ⟨g0,l,m,v,d,rfl⟩ E hL;simp[E,g0,d9];exact hL _ ⟨by simp[g0],by simp[l],by simp[m],by simp[v],by simp[d],rfl⟩ (by simp[E]) (by simp)
 .rintro j t K U ⟨g0,l,m,v,d,rfl⟩ E next
  have hsm:=afH U;obtain⟨n,p,mi,F⟩:=rC (hf _ hsm);have N:=a_ [] j U;have J:=b9 [] j U;have M:=b_ [] j U;have h_:aQ [] (aa 3) (.c (.f (.fp fl (j*7+4))))=aa (.a (b[j].st.row.map .f)):=c_ [] j U;have z:=JR k I b U;have hT:pZ (bJ k I (b.take j)):=vL (λs h=>hf s (agD h)) _ _;have g_:=AP q hT;have i8:=oa k I b j;obtain⟨B,hB⟩:=aD (ek (bJ k I (b.take j)) q);rw[<-hB]at d g_;simp only[fi]at J M;refine aI ?_;apply ak;apply ai;by_cases Y:b[j].room=k
  .by_cases e2:b[j].dg=I
   .rw[bu ⟨Y,e2⟩]at z;obtain⟨g',a9⟩:=wL _ F q i6 d_;obtain⟨O,hO⟩:=aD (ir b[j].st q);have f_:=rS b[j].st q;have a8:=C9 b[j].st q;have f8:∀x∈O,0<=x.fr/\x.fr<x.to/\x.to<=2000000:=λx hx=>OO F d_ (by rw[<-hO];exact hx);have Z:=OM F q;rw[<-hO]at a9 f_ a8 Z;have f7:ek (bJ k I (b.take (j+1))) q=B+fF O:=by rw[z,JC,hB,a8];simp[ek]
    simp[E,g0,l,m,N,J,M,Y,e2];refine bc (by simp) ?_;apply ai;simp[E,g0,v,N,h_,a9];apply ai;simp;have i5:∀K:aj,bo K (.f (sl g' (aC O)))=aa O.length:=λK=>by simp
    refine bA O.length (λi t K=>t.g 0=.c (.f sd)/\t.g 1=vi k/\t.g 2=vi I/\t.g 3=vi q/\t.g 10=vi j/\t.g 11=.c (.f (sl g' (aC O)))/\t.g 9=vi (B+fF (O.take i))/\K=[]) (by omega) rfl (by simp) ⟨by simp[g0],by simp[l],by simp[m],by simp[v],by simp[E],by simp,by simp[d,fF],rfl⟩ ?_ ?_ ?_
    .rintro i t K L hi ⟨g0,l,m,v,A,u,d,rfl⟩ X hL;simp[X,u,i5];exact hL _ ⟨by simp[g0],by simp[l],by simp[m],by simp[v],by simp[A],by simp[u],by simp[d],rfl⟩ (by simp[X]) (by simp)
    .rintro i t K hi ⟨g0,l,m,v,A,u,d,rfl⟩ X nx;have e_:=a7 (H:=[]) (g:=g') (rows:=aC O) (sz:=3) (k:=.i64) (i:=(i:Int)) (by omega) (by simp;omega);simp only[afU]at e_;have o1:=dw (H:=[]) (k:=1) (bh O) (cW hi) rfl;have o2:=dw (H:=[]) (k:=2) (bh O) (cW hi) rfl;simp only[fi]at o1 o2;obtain⟨b1,b2,b3⟩:=f8 _ (afH hi);have e9:=zH O hi;have i7:=FF (O:=O.take i) λy hy=>Z y (agD hy);have i9:(O.take i).length<=7:=by rw[af2];omega
     obtain⟨S,hS⟩:=aD (fF (O.take i));rw[<-hS]at d e9 i7;refine aI ?_;refine av (.inl rfl) ?_;simp[X,d,u,e_,o1,o2,bg (n:=B+S+O[i].to),bg (n:=B+S+O[i].to-O[i].fr)];refine aA (nx _ _ ⟨by simp[g0],by simp[l],by simp[m],by simp[v],by simp[A],by simp[u],by simp[e9];omega,rfl⟩ (by simp[X]))
    .rintro t K ⟨g0,l,m,v,A,u,d,rfl⟩ X;rw[agc,<-f7]at d;exact aA (next _ _ ⟨by simp[g0],by simp[l],by simp[m],by simp[v],by simp[d],rfl⟩ (by simp[A]))
   .rw[bG (by rintro⟨-,h⟩;exact e2 h),agp]at z;simp[E,g0,l,m,N,J,M,Y,e2];refine al (by simp) (bT rfl ?_);exact next _ _ ⟨by simp[g0],by simp[l],by simp[m],by simp[v],by simp[d,z,hB],rfl⟩ (by simp[E])
  .rw[bG (by rintro⟨h,-⟩;exact Y h),agp]at z;simp[E,g0,l,m,N,J,M,Y];refine al (by simp) (bT rfl ?_);exact next _ _ ⟨by simp[g0],by simp[l],by simp[m],by simp[v],by simp[d,z,hB],rfl⟩ (by simp[E])
 .rintro t K ⟨g0,l,m,v,d,rfl⟩ E;rw[agc]at d;apply ai;simp[d];refine az (hQ _ _ ?_);simp)
theorem Kq(af b r:Int)(h0:0<=r)(O:r<=2)(y:Int):aX tab Ms [.a ((bI af b r).row.map .f),vi y]=Eq (.t [vi (lZ y (bI af b r).q).1,vb (lZ y (bI af b r).q).2]):=aX.eq (by
 obtain⟨R,q,M,J⟩:∃(R:List FC) (q:FC),(bI af b r).row=R/\q=sl (bI af b r).qg (fW (bI af b r).q):=⟨_,_,rfl,rfl⟩
 have N:∀K:aj,K[0]?=aa (.box (R.map .f) 0)->aQ K ab (.c (.ptr 0 13 0))=aa (.c (.f q)):=λK h=>by
  rw[<-M,bZ.row,<-J]at h;simp[aQ,aw,h]
 rw[M];refine bH rfl rfl λQ B=>?_;apply ai;simp;obtain⟨l,A⟩:=aD ([.box (R.map .f) 0]:aj);have l0:=N l (by rw[A];rfl);rw[<-A];apply ak;apply ai;simp;have g:lZ y (bI af b r).q=(0,ag)->∀t:T,WP tab Ms ab [.code HL] ⟨t,[],l⟩ Q:=by
  intro e t;rw[e]at B;apply ai;simp;refine az (B _ _ ?_);simp
 by_cases E:r=0
 .have x:(bI af b r).q=[(1,b)]:=by unfold bI;rw[bu E];rfl
  have v:q=.fs [fi 1,fi b] 1:=by rw[J];unfold bI;rw[bu E];rfl
  have u:bo l (.f q)=aa 1/\bw l 2 ab (.c (.f q)) (vi 0)=aa (.c (.f (.fp [fi 1,fi b] 0)))/\aQ l ab (.c (.f (.fp [fi 1,fi b] 0)))=aa (vi 1)/\aQ l ab (.c (.f (.fp [fi 1,fi b] 1)))=aa (vi b):=by rw[v];exact⟨rfl,rfl,rfl,rfl⟩
  rw[x]at B g;refine bA 1 (λj t K=>t.g 1=vi y/\t.g 2=.c (.ptr 0 0 0)/\K=l/\(j=1->¬ y=1)) (by omega) rfl (by simp) ⟨by simp,by simp,rfl,by omega⟩ ?_ ?_ ?_
  .rintro j t K L H ⟨z,d,rfl,I⟩ m F;simp[m,d,l0,u.1,-aq];exact F _ ⟨by simp[z],by simp[d],rfl,I⟩ (by simp[m]) (by simp<;>omega)
  .rintro j t K H ⟨z,d,rfl,-⟩ m next
   obtain rfl:j=0:=by omega
   have s:t.g 6=vi 0:=m;refine aI ?_;apply ai;by_cases e:y=1
   .subst e;simp[z,d,s,l0,u.2.1,u.2.2.1,-aq];refine al (by simp) ?_;apply ai;simp[d,s,l0,u.2.1,u.2.2.2,-aq];refine az (B _ _ ?_);simp[lZ]
   .simp[z,d,s,l0,u.2.1,u.2.2.1,Ne.symm e,-aq];refine aG (by simp) (aS (aA (next _ _ ⟨by simp[z],by simp[d],rfl,λ_=>e⟩ (by simp[s]))))
  .rintro t K ⟨z,d,rfl,I⟩ m;exact g (by simp[lZ,Ne.symm (I rfl)]) _
 .have x:(bI af b r).q=[]:=by unfold bI;rw[bG E];split<;>rfl
  have v:q=.aK:=by rw[J];unfold bI;rw[bG E];split<;>rfl
  have u:bo l (.f q)=aa 0:=by rw[v];rfl
  refine bA 0 (λj t K=>t.g 2=.c (.ptr 0 0 0)/\K=l) (by omega) rfl (by simp) ⟨by simp,rfl⟩ ?_ (λj t K H=>by omega) ?_
  .rintro j t K L H ⟨d,rfl⟩ m F;simp[m,d,l0,u,-aq];exact F _ ⟨by simp[d],rfl⟩ (by simp[m]) (by simp)
  .rintro t K ⟨d,rfl⟩ m;exact g (by rw[x];rfl) _)
theorem R4{d:Nat}{n p:Int}(l:d∈mC)(h:mP n p):aX tab VP [vi (7*(d:Int)),vi n]=Eq (vi (Nat.gcd (7*d) n.toNat:Nat)):=by
 obtain⟨g,j,b,q⟩:=h;have m:(d,n.toNat)∈GG:=by
  obtain rfl|rfl|rfl|rfl|rfl|rfl:n=1\/n=2\/n=3\/n=4\/n=5\/n=6:=by omega
  all_goals
   unfold GG;rw[agE];exact⟨d,l,by simp⟩
 have g:=(afP (afP pL).2).2;have j:=agb.1 g _ m;have b:=du j;simp only at b;rw[ag0 (by omega)]at b;simp only[ahf]at b;exact b
theorem Ob{d:Nat}{n p:Int}(b:d∈mC)(h:mP n p):agU d n.toNat∈mC/\7*(d:Int) / ((Nat.gcd (7*d) n.toNat:Nat):Int)*n=7*(agU d n.toNat:Int)/\0<(Nat.gcd (7*d) n.toNat:Nat):=by
 obtain⟨q,s,u,v⟩:=h;have g:n.toNat∈[1,2,3,4,5,6]:=by
  obtain rfl|rfl|rfl|rfl|rfl|rfl:n=1\/n=2\/n=3\/n=4\/n=5\/n=6:=by omega
  all_goals simp
 have key:∀d∈mC,∀k∈[1,2,3,4,5,6],agU d k∈mC/\7*d / Nat.gcd (7*d) k*k=7*agU d k/\0<Nat.gcd (7*d) k:=by decide
 obtain⟨j,l,m⟩:=key d b _ g;refine⟨j,?_,m⟩;have e:n=((n.toNat:Nat):Int):=by omega
 rw[show 7*(agU d n.toNat:Int)=((7*agU d n.toNat:Nat):Int) by simp,<-l];simp only[ahf,Int.natCast_ediv];rw[<-e];rfl
theorem CM(g:Tg)(L:List aB)(hl:L.length<=2000)(hf:∀s∈L,iL s)(k E:Int):m6 1 (bJ k E L)∈mC/\aX tab Dz [.c (.f (sl g (an L))),vi k,vi E]=Eq (.t [vi (15+7*(m6 1 (bJ k E L):Int)),vb ae]):=by
 obtain⟨D,a_⟩:=aD (m6 1 (bJ k E L));rw[<-a_];obtain⟨r,⟨B,rfl⟩,hp⟩:∃r,(D∈mC/\r=.t [vi (15+7*(D:Int)),vb ae])/\aX tab Dz [.c (.f (sl g (an L))),vi k,vi E] r:=by
  refine cN rfl rfl λQ hQ=>?_;obtain⟨sd,a9⟩:=aD (sl g (an L));have g_:∀K:aj,bo K (.f sd)=aa L.length:=λK=>by rw[a9];simp
  have e9:∀(H:aj) (i:Nat),i<L.length->bw H 7 ab (.c (.f sd)) (vi i)=aa (.c (.f (.fp (an L).flatten (i*7)))):=λH i hi=>by
   rw[a9];have:=a7 (H:=H) (g:=g) (rows:=an L) (sz:=7) (k:=.i64) (i:=(i:Int)) (by omega) (by simp;omega);simpa only[afU]using this
  have e_:=λ(H:aj) (i:Nat) (hi:i<L.length)=>dw (H:=H) (k:=1) (aR L) (bD hi) rfl;have f7:=λ(H:aj) (i:Nat) (hi:i<L.length)=>dw (H:=H) (k:=2) (aR L) (bD hi) rfl;have f8:=λ(H:aj) (i:Nat) (hi:i<L.length)=>dw (H:=H) (k:=4) (aR L) (bD hi) rfl;have f_:=λ(H:aj) (i:Nat) (hi:i<L.length)=>dw (H:=H) (k:=6) (aR L) (bD hi) rfl;obtain⟨fl,i7⟩:=aD ((an L).flatten);rw[<-i7]at e9 e_ f7 f8 f_;rw[<-a9];apply ai;simp;apply ai;simp;apply ai;simp;apply ak;apply ai;simp;refine bA L.length (λj t K=>t.g 0=.c (.f sd)/\t.g 1=vi k/\t.g 2=vi E/\t.g 8=vi 0/\∃d:Nat,d∈mC/\t.g 9=vi (7*(d:Int))/\D=m6 d (bJ k E (L.drop j))) (by omega) rfl (by simp) ⟨by simp,by simp,by simp,by simp,1,by decide,by simp,by simpa using a_⟩ ?_ ?_ ?_
  .rintro j t K J W ⟨g0,q,u,x,d,B,v,Y⟩ I hL;simp[I,g0,g_];exact hL _ ⟨by simp[g0],by simp[q],by simp[u],by simp[x],d,B,by simp[v],Y⟩ (by simp[I]) (by simp)
  .rintro j t K W ⟨g0,q,u,x,d,B,v,Y⟩ I next
   have hsm:=afH W;have y:=Cq k E L W;have z:=λH=>e9 H j W;have S:=λH=>e_ H j W;have U:=λH=>f7 H j W;have a8:=λH=>f8 H j W;have c_:=λH=>f_ H j W;simp only[fi]at S U;refine aI ?_;apply ak;apply ai;by_cases e1:L[j].room=k
   .by_cases e2:L[j].dg=E
    .rw[bu ⟨e1,e2⟩]at y;rw[y]at Y;obtain⟨n,p,mi,m⟩:=rC (hf _ hsm);obtain⟨s1,s2,s3⟩:=Ob B m.sm;have d_:=R4 B m.sm;have i5:D=m6 (agU d n.toNat) (bJ k E (L.drop (j+1))):=by rw[Y];simp only[agu,agK,m6,m.zq]
     have i8:=Pb m.sm;obtain⟨G,hG⟩:=aD (((Nat.gcd (7*d) n.toNat:Nat):Int):Int);rw[<-hG]at d_ s2;have d9:=mj B;have i6:=mj s1;have i_:=qR (a:=7*(d:Int)) (b:=G) (by omega) (by omega) (by omega);obtain⟨n1,n2,n3,n4⟩:=m.sm;obtain⟨A,hA⟩:=aD (sl L[j].st.cg (aP L[j].st.cs));obtain⟨X,hX⟩:=aD (sl L[j].st.xg (aC L[j].st.xs));rw[<-hA]at a8;rw[<-hX]at c_;have iP:∀K:aj,bo K (.f A)=aa 1/\bw K 2 ab (.c (.f A)) (vi 0)=aa (.c (.f (.fp [fY n p,fi mi] 0))):=λK=>by rw[hA,m.cs];exact⟨rfl,rfl⟩
     have i4:∀K:aj,bo K (.f X)=aa 0:=λK=>by rw[hX,m.xs];cases L[j].st.xg<;>rfl
     have h_:∀K:aj,aQ K (aa 1) (.c (.f (.fp [fY n p,fi mi] 0)))=aa (.a [.f (fY n p)]):=λK=>rfl;have F:aX tab 160 [.a [.f (fY n p)]]=Eq (.t [.a [.f .aK,.f (fi 0),.f (fi n),.f (.fs [fi p] 1)],vi 0]):=i8;obtain⟨M,hM⟩:=aD (fY n p);obtain⟨P,hP⟩:=aD (.fs [fi p] 1:FC);rw[<-hM]at iP h_ F;rw[<-hP]at F;simp[I,g0,q,u,z,S,U,e1,e2];refine bc (by simp) ?_;apply ak;apply ai;simp;refine bA 1 (λi t K=>t.g 0=.c (.f sd)/\t.g 1=vi k/\t.g 2=vi E/\t.g 8=vi 0/\t.g 10=vi j/\t.g 9=vi (if i=0 then 7*(d:Int)else 7*(agU d n.toNat:Int))) (by omega) rfl (by simp) ⟨by simp[g0],by simp[q],by simp[u],by simp[x],by simp[I],by simp[v]⟩ ?_ ?_ ?_
     .rintro i t K J hi ⟨g0,q,u,x,l,v⟩ O hL;simp[O,g0,l,z,a8,(iP _).1];exact hL _ ⟨by simp[g0],by simp[q],by simp[u],by simp[x],by simp[l],by simp[v]⟩ (by simp[O]) (by simp<;>omega)
     .rintro i t K hi ⟨g0,q,u,x,l,v⟩ O nx;obtain rfl:i=0:=by omega
      have b_:t.g 11=vi 0:=O;have Z:t.g 9=vi (7*(d:Int)):=by rw[v];rfl
      obtain⟨N,hN⟩:=aD (K.length);obtain⟨K1,b9⟩:=aD (K++[.box [.f .aK,.f (fi 0),.f (fi n),.f P] 0]:aj);have d1:K1[N]?=aa (.box [.f .aK,.f (fi 0),.f (fi n),.f P] 0):=by rw[b9,hN];simp
      have lp:aQ K1 ab (.c (.ptr N 1 0))=aa (vi 0)/\aQ K1 ab (.c (.ptr N 2 0))=aa (vi n):=by refine⟨?_,?_⟩<;>simp[aQ,aw,d1]
      refine aI ?_;apply ai;simp[g0,l,b_,z,a8,(iP _).2,h_,F,-aq];rw[<-b9,<-hN];apply ak;apply ai;simp[lp.2,show¬ (4194304<n) by omega,-aq];refine bc (by simp) ?_;apply ai;simp[x,lp.1,-aq];apply ai;simp[Z,lp.2,d_,i_,s2,bg (n:=7*(agU d n.toNat:Int)),-aq];apply ai;simp[show¬ ((4194304:Int)<7*(agU d n.toNat:Int)) by omega];refine aG (by simp) (aS (aA (nx _ _ ⟨by simp[g0],by simp[q],by simp[u],by simp,by simp[l],by simp⟩ (by simp[b_]))))
     .rintro t K ⟨g0,q,u,x,l,v⟩ O;have Z:t.g 9=vi (7*(agU d n.toNat:Int)):=by rw[v];rfl
      clear v;apply ai;simp;refine bA 0 (λi t K=>t.g 0=.c (.f sd)/\t.g 1=vi k/\t.g 2=vi E/\t.g 8=vi 0/\t.g 10=vi j/\t.g 9=vi (7*(agU d n.toNat:Int))) (by omega) rfl (by simp) ⟨by simp[g0],by simp[q],by simp[u],by simp[x],by simp[l],by simp[Z]⟩ ?_ (λj t K W=>by omega) ?_
      .rintro i t K J hi ⟨g0,q,u,x,l,v⟩ O hL;simp[O,g0,l,z,c_,i4];exact hL _ ⟨by simp[g0],by simp[q],by simp[u],by simp[x],by simp[l],by simp[v]⟩ (by simp[O]) (by simp)
      .rintro t K ⟨g0,q,u,x,l,v⟩ O;exact aA (next _ _ ⟨by simp[g0],by simp[q],by simp[u],by simp[x],_,s1,by simp[v],i5⟩ (by simp[l]))
    .rw[bG (by rintro⟨-,h⟩;exact e2 h),agK]at y;simp[I,g0,q,u,z,S,U,e1,e2];refine al (by simp) (bT rfl ?_);exact next _ _ ⟨by simp[g0],by simp[q],by simp[u],by simp[x],d,B,by simp[v],by rw[Y,y]⟩ (by simp[I])
   .rw[bG (by rintro⟨h,-⟩;exact e1 h),agK]at y;simp[I,g0,q,u,z,S,U,e1];refine al (by simp) (bT rfl ?_);exact next _ _ ⟨by simp[g0],by simp[q],by simp[u],by simp[x],d,B,by simp[v],by rw[Y,y]⟩ (by simp[I])
  .rintro t K ⟨g0,q,u,x,d,B,v,Y⟩ I;have e:D=d:=by rw[Y,agF];rfl
   subst e;have d9:=mj B;apply ai;have j4:IntKind.i64.wrap 15=15:=rfl;have i9:15+7*(D:Int)<=4194304:=by omega
   simp[x,v,j4,bg (n:=15+7*(D:Int)),i9];refine az (hQ _ _ _ ⟨B,rfl⟩ ?_);simp
 exact⟨B,hp.eq⟩
end Go.Proofs.YtnaofdffomdmhaaGreat
