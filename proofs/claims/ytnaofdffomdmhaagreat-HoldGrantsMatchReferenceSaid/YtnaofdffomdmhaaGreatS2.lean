/-
  QI ug nh lF and ug mu answer, for all arguments of G_ kind, in ug small machine: part 2.
-/
import Derived.Test.YtnaofdffomdmhaaGreatS1
import Derived.Test.YtnaofdffomdmhaaGreatK4
open Option renaming some->aa,none->ab
open Bool renaming true->ae,false->ag
open Nat renaming le_refl->afJ, zero_add->agj, lcm->agU
open Int renaming toNat_natCast->afU, toNat_of_nonneg->ag0
open List renaming getElem_mem->afH, map_cons->afS, map_nil->afW, getElem?_append_left->afy, length_append->afK, mem_append->afY, mem_singleton->afO, mem_append_left->ag6, getElem?_set_ne->ae2, length_set->af7, getElem?_set_self->afC, getElem_of_mem->agd, mem_cons_self->afN, mem_cons_of_mem->afQ, mem_cons->afZ, take_of_length_le->afM, drop_eq_getElem_cons->afL, take_append_drop->agI, take_append_of_le_length->age, append_assoc->agk, cons_append->agu, pairwise_append->agy, nil_append->agK, pairwise_cons->agt, getElem?_append_right->afI, pairwise_iff_getElem->ags, pairwise_singleton->agV, take_add_one->agC, getElem?_eq_getElem->afB, take_length->agc, length_map->afT, map_append->agA, getElem?_map->agl, drop_length->agF, not_mem_nil->agS, rel_of_pairwise_cons->agO, mem_map->af6, length_nil->agQ, append_nil->agp, filter_append->aho
open List.Pairwise renaming of_cons->ahj
open Option.some renaming inj->ahg
set_option linter.unusedVariables false
set_option linter.constructorNameAsVariable false
set_option linter.unusedSimpArgs false
set_option linter.unusedSectionVars false
set_option linter.unnecessarySimpa false
set_option maxRecDepth 100000
namespace Go.Proofs.YtnaofdffomdmhaaGreat
open Go Km
structure Pr where
 c:bK
 d:bK
 k:Int
 gx:Tg
 xs:List dV
 gy:Tg
 ys:List dV
def Pr.row(p:Pr):List C:=[.f (sl p.c.mg (aT p.c.ts)),.f (fi p.c.min),.f (sl p.d.mg (aT p.d.ts)),.f (fi p.d.min),.f (fi p.k),.f (sl p.gx (aT p.xs)),.f (sl p.gy (aT p.ys)),.f (fi (max 0 (-p.k)))]
def vZ(la b:Int)(c d:bK):Int:=(c.min-d.min-b) / 1440+1
def vT(la b:Int)(c d:bK):Int:=(c.min-d.min+la-1) / 1440
structure qC(a b:aN)(p:Pr):Prop where
 ca:p.c∈a.cs
 db:p.d∈b.cs
 lo:vZ a.len b.len p.c p.d<=p.k
 hi:p.k<=vT a.len b.len p.c p.d
 xo:zQ p.xs
 yo:zQ p.ys
 xm:∀e,0<=e->(fu p.xs e↔fu p.c.ts (e+max 0 (-p.k)))
 ym:∀e,0<=e->(fu p.ys e↔fu p.d.ts (e+max 0 p.k))
theorem yM(a b:aN):aX tab Z8 [.a (a.row.map .f),.a (b.row.map .f)]=Eq (.c (.f (.fn mb [.fp a.row 0,.fp b.row 0]))):=by
 refine aX.eq (bH rfl rfl λQ d=>?_);apply ai;simp[aN.row];apply ai;simp;refine az (d _ _ ?_);simp[deep,aN.row]
theorem qI{bb:Nat}{H:aj}(a b:aN)(ha:pT a)(hb:pT b)(PP:List Pr->aj->Prop)(RR:Pr->aj->Prop)(h0:PP [] H)
  (hk:∀ps J J',PP ps J->(∀i:Nat,i<H.length->J'[i]?=J[i]?)->J.length<=J'.length->PP ps J')
  (hy:∀ps p J,PP ps J->H.length<=J.length->qC a b p->∃(r:Bool) (J':aj),Ev tab (.yield bb) [.a p.row] J (vb r) J'/\(if r then PP (ps++[p]) J'/\J.length<=J'.length/\∀i:Nat,H.length<=i->i<J.length->J'[i]?=J[i]? else RR p J')) :
  ∃H2,Ev tab (.fn mb) [.c (.yl bb),.c (.f (.fp a.row 0)),.c (.f (.fp b.row 0))] H (.t []) H2/\((∃ps,PP ps H2/\(∀p∈ps,qC a b p)/\∀c∈a.cs,∀d∈b.cs,∀k,vZ a.len b.len c d<=k->k<=vT a.len b.len c d->∃p∈ps,p.c=c/\p.d=d/\p.k=k)\/∃p,qC a b p/\RR p H2):=by
 obtain⟨z9,z_⟩:=ha.len;obtain⟨lb0,lb1⟩:=hb.len;have x8:=ha.cn;have x9:=hb.cn;have iP:∀H:aj,bo H (.f (sl a.cg (aP a.cs)))=aa a.cs.length:=λH=>by simp
 have q_:∀H:aj,bo H (.f (sl b.cg (aP b.cs)))=aa b.cs.length:=λH=>by simp
 have o_:∀(J:aj),aQ J ab (.c (.f (.fp a.row 0)))=aa (.c (.f (sl a.cg (aP a.cs))))/\aQ J ab (.c (.f (.fp a.row 1)))=aa (vi a.len):=λJ=>⟨rfl,rfl⟩
 have p_:∀(J:aj),aQ J ab (.c (.f (.fp b.row 0)))=aa (.c (.f (sl b.cg (aP b.cs))))/\aQ J ab (.c (.f (.fp b.row 1)))=aa (vi b.len):=λJ=>⟨rfl,rfl⟩
 obtain⟨r,H2,he,rfl,hP⟩:∃r H2,Ev tab (.fn mb) [.c (.yl bb),.c (.f (.fp a.row 0)),.c (.f (.fp b.row 0))] H r H2/\(r=.t []/\((∃ps,PP ps H2/\(∀p∈ps,qC a b p)/\∀c∈a.cs,∀d∈b.cs,∀k,vZ a.len b.len c d<=k->k<=vT a.len b.len c d->∃p∈ps,p.c=c/\p.d=d/\p.k=k)\/∃p,qC a b p/\RR p H2)):=by
  refine dm rfl rfl λQ hQ=>?_;apply ai;simp[o_,iP];refine cD a.cs.length (λi t J=>t.g 0=.c (.yl bb)/\t.g 1=.c (.f (.fp a.row 0))/\t.g 2=.c (.f (.fp b.row 0))/\t.g 13=.c (.f (sl a.cg (aP a.cs)))/\H.length<=J.length/\∃ps,PP ps J/\(∀p∈ps,qC a b p)/\∀(B:Nat) (hi:B<a.cs.length),B<i->∀d∈b.cs,∀k,vZ a.len b.len a.cs[B] d<=k->k<=vT a.len b.len a.cs[B] d->∃p∈ps,p.c=a.cs[B]/\p.d=d/\p.k=k) (by omega) (by decide) (by decide) (by simp) (by simp)
   ⟨by simp,by simp,by simp,by simp,afJ _,[],h0,by simp,λB _ h=>by omega⟩ ?_ ?_
  .rintro i t J hi ⟨g0,Y,X,v,r_,ps,hP,A,l⟩ hc s_ next
   have n8:=λH:aj=>a7 (H:=H) (g:=a.cg) (rows:=aP a.cs) (sz:=2) (k:=.i64) (i:=(i:Int)) (by omega) (by simp;omega);have i_:=λH:aj=>bE (H:=H) (cE a.cs) (dA hi);simp only[afU]at n8;have t7:=ha.min (afH hi);have e9:=ha.few _ (afH hi);have M:=afH hi;obtain⟨c,j8⟩:=aD (a.cs[i]);rw[<-j8]at i_ t7 e9 M;simp only[bK.row,afS,afW]at i_;refine aI ?_;apply ai;simp[hc,v,n8,i_,-aq];obtain⟨S,i4⟩:=aD (J.length);obtain⟨J1,y⟩:=aD (J++[bB.box [.f (sl c.mg (aT c.ts)),.f (fi c.min)] 0]);have c5:J1[S]?=aa (.box [.f (sl c.mg (aT c.ts)),.f (fi c.min)] 0):=by rw[y,i4];simp
   have b9:PP ps J1:=hk ps J J1 hP (λi hi=>by rw[y,afy (by omega)]) (by rw[y,afK];omega);have n_:J1.length=S+1:=by rw[y,afK,i4];rfl
   rw[<-y,<-i4];apply ai;simp[X,p_,q_];refine cD b.cs.length (λj t' J=>t'.g 0=.c (.yl bb)/\t'.g 1=.c (.f (.fp a.row 0))/\t'.g 2=.c (.f (.fp b.row 0))/\t'.g 13=.c (.f (sl a.cg (aP a.cs)))/\t'.g 14=t.g 14/\t'.g 15=t.g 15/\t'.g 5=.c (.ptr S 0 0)/\t'.g 20=.c (.f (sl b.cg (aP b.cs)))/\S<J.length/\J[S]?=aa (.box [.f (sl c.mg (aT c.ts)),.f (fi c.min)] 0)/\∃ps,PP ps J/\(∀p∈ps,qC a b p)/\(∀(B:Nat) (hi:B<a.cs.length),B<i->∀d∈b.cs,∀k,vZ a.len b.len a.cs[B] d<=k->k<=vT a.len b.len a.cs[B] d->∃p∈ps,p.c=a.cs[B]/\p.d=d/\p.k=k)/\
     ∀(O:Nat) (hj:O<b.cs.length),O<j->∀k,vZ a.len b.len c b.cs[O]<=k->k<=vT a.len b.len c b.cs[O]->∃p∈ps,p.c=c/\p.d=b.cs[O]/\p.k=k) (by omega) (by decide) (by decide) (by simp) (by simp)
    ⟨by simp[g0],by simp[Y],by simp[X],by simp[v],by simp,by simp,by simp,by simp,by omega,c5,ps,b9,A,l,λO _ h=>by omega⟩ ?_ ?_
   .clear hP A l b9 c5 n_ y;rintro j t' J hj ⟨g0,Y,X,v,F,I,g5,K,m9,c5,ps,hP,A,l,q⟩ j7 j6 j5;have n9:=λH:aj=>a7 (H:=H) (g:=b.cg) (rows:=aP b.cs) (sz:=2) (k:=.i64) (i:=(j:Int)) (by omega) (by simp;omega);have j4:=λH:aj=>bE (H:=H) (cE b.cs) (dA hj);simp only[afU]at n9;have t_:=hb.min (afH hj);have e_:=hb.few _ (afH hj);have N:=afH hj;obtain⟨d,j9⟩:=aD (b.cs[j]);rw[<-j9]at j4 t_ e_ N;simp only[bK.row,afS,afW]at j4;obtain⟨W,i5⟩:=aD (J.length);obtain⟨J1,y⟩:=aD (J++[bB.box [.f (sl d.mg (aT d.ts)),.f (fi d.min)] 0]);have c7:J1[W]?=aa (.box [.f (sl d.mg (aT d.ts)),.f (fi d.min)] 0):=by rw[y,i5];simp
    have f_:J1[S]?=aa (.box [.f (sl c.mg (aT c.ts)),.f (fi c.min)] 0):=by rw[y,afy m9];exact c5
    have b9:PP ps J1:=hk ps J J1 hP (λi hi=>by rw[y,afy (by omega)]) (by rw[y,afK];omega);have n_:J1.length=W+1:=by rw[y,afK,i5];rfl
    obtain⟨lo,u_⟩:=aD (vZ a.len b.len c d);obtain⟨u,u7⟩:=aD (vT a.len b.len c d);have m_:(c.min-d.min-b.len) / 1440+1=lo:=u_.symm;have j_:(c.min-d.min+a.len-1) / 1440=u:=u7.symm;have f1:=vQ (c.min-d.min-b.len) (by omega) (by omega);have f2:=vQ (c.min-d.min+a.len-1) (by omega) (by omega);rw[j_]at f2;have lob:-1<=lo/\lo<=1:=by omega
    have x_:-1<=u/\u<=1:=by omega
    have m5:∀J:aj,J[S]?=aa (.box [.f (sl c.mg (aT c.ts)),.f (fi c.min)] 0)->aQ J ab (.c (.ptr S 1 0))=aa (vi c.min)/\aQ J (aa 2) (.c (.ptr S 0 0))=aa (.a [.f (sl c.mg (aT c.ts)),.f (fi c.min)])/\aQ J (aa 1) (.c (.ptr S 0 0))=aa (.a [.f (sl c.mg (aT c.ts))]):=λJ h=>by refine⟨?_,?_,?_⟩<;>simp[aQ,aw,h,aO]
    have m7:∀J:aj,J[W]?=aa (.box [.f (sl d.mg (aT d.ts)),.f (fi d.min)] 0)->aQ J ab (.c (.ptr W 1 0))=aa (vi d.min)/\aQ J (aa 2) (.c (.ptr W 0 0))=aa (.a [.f (sl d.mg (aT d.ts)),.f (fi d.min)])/\aQ J (aa 1) (.c (.ptr W 0 0))=aa (.a [.f (sl d.mg (aT d.ts))]):=λJ h=>by refine⟨?_,?_,?_⟩<;>simp[aQ,aw,h,aO]
    obtain⟨v5,-,-⟩:=m5 J1 f_;obtain⟨v7,-,-⟩:=m7 J1 c7;refine aI ?_;apply ai;simp[j7,K,n9,j4,-aq];rw[<-y,<-i5];apply ai;simp[X,g5,v5,v7,p_,-aq,bg (n:=c.min-d.min),bg (n:=c.min-d.min-b.len),f1,m_,bg (n:=lo)];apply ai;simp[Y,g5,v5,v7,o_,-aq,bg (n:=c.min-d.min),bg (n:=c.min-d.min+a.len),bg (n:=c.min-d.min+a.len-1),f2];apply ai;simp;refine aI ?_;refine dx (λn s=>∃(k:Int) (m:T) (J:aj),s=⟨m,[],J⟩/\n=(u+1-k).toNat/\lo<=k/\(k=lo\/k<=u+1)/\m.g 0=.c (.yl bb)/\m.g 1=.c (.f (.fp a.row 0))/\m.g 2=.c (.f (.fp b.row 0))/\m.g 13=.c (.f (sl a.cg (aP a.cs)))/\m.g 14=t.g 14/\m.g 15=t.g 15/\m.g 5=.c (.ptr S 0 0)/\m.g 7=.c (.ptr W 0 0)/\m.g 9=vi u/\m.g 10=vi k/\m.g 20=.c (.f (sl b.cg (aP b.cs)))/\m.g 21=t'.g 21/\m.g 22=t'.g 22/\W<J.length/\J[S]?=aa (.box [.f (sl c.mg (aT c.ts)),.f (fi c.min)] 0)/\J[W]?=aa (.box [.f (sl d.mg (aT d.ts)),.f (fi d.min)] 0)/\∃ps,PP ps J/\(∀p∈ps,qC a b p)/\(∀(B:Nat) (hi:B<a.cs.length),B<i->∀d∈b.cs,∀k,vZ a.len b.len a.cs[B] d<=k->k<=vT a.len b.len a.cs[B] d->∃p∈ps,p.c=a.cs[B]/\p.d=d/\p.k=k)/\
     (∀(O:Nat) (hj:O<b.cs.length),O<j->∀k,vZ a.len b.len c b.cs[O]<=k->k<=vT a.len b.len c b.cs[O]->∃p∈ps,p.c=c/\p.d=b.cs[O]/\p.k=k)/\∀k',lo<=k'->k'<k->∃p∈ps,p.c=c/\p.d=d/\p.k=k') (u+1-lo).toNat
     ⟨lo,_,J1,rfl,rfl,by omega,.inl rfl,by simp[g0],by simp[Y],by simp[X],by simp[v],by simp[F],by simp[I],by simp[g5],by simp,by simp,by simp,by simp[K],by simp,by simp,by omega,f_,c7,ps,b9,A,l,q,λk' _ _=>by omega⟩ ?_
    clear hP A l q b9 c5 f_ c7 v5 v7;rintro n s ⟨k,m,J2,rfl,rfl,k0,k1,g0,Y,X,v,F,I,g5,g7,g9,z,K,a8,a9,z8,c5,c7,ps,hP,A,l,q,b_⟩ ih;apply ak;apply ai;simp[g9,z];by_cases u9:k<=u
    .refine al (by simp[u9]) (aS ?_);obtain⟨v5,w5,x5⟩:=m5 J2 c5;obtain⟨v7,w7,x7⟩:=m7 J2 c7;have f8:PZ .neg (vi k)=aa (vi (-k)):=by
      show aa (vi (IntKind.i64.wrap (0-k)))=_;rw[Int.zero_sub,bg]
     obtain⟨U,f7⟩:=aD (J2.length);have h_:∀(m:T) (E:aj) (p:Pr),qC a b p->p.c=c->p.d=d->p.k=k->m.g 0=.c (.yl bb)->m.g 1=.c (.f (.fp a.row 0))->m.g 2=.c (.f (.fp b.row 0))->m.g 13=.c (.f (sl a.cg (aP a.cs)))->m.g 14=t.g 14->m.g 15=t.g 15->m.g 5=.c (.ptr S 0 0)->m.g 7=.c (.ptr W 0 0)->m.g 9=vi u->m.g 10=vi k->m.g 11=.c (.ptr U 0 0)->m.g 20=.c (.f (sl b.cg (aP b.cs)))->m.g 21=t'.g 21->m.g 22=t'.g 22->
       E[U]?=aa (.box p.row 0)->(∀i:Nat,i<J2.length->E[i]?=J2[i]?)->E.length=J2.length+1->
       WP tab mb ab [.code LK,.inBlock 5,.code LL,.inLoop LJ,.inBlock 4,.inBlock 3,.code (uu 22 88),.inLoop (ku 2 22 21 23 88 LH),.inBlock 2,.inBlock 1,.code (uu 15 89),.inLoop (ku 0 15 14 16 89 Qj),.inBlock 0] ⟨m,[],E⟩ Q:=by
      intro m E p i7 v8 v9 v_ g0 Y X v F I g5 g7 g9 z r5 K a8 a9 v6 i6 y8;have s7:PP ps E:=hk ps J2 E hP (λi hi=>i6 i (by omega)) (by omega);obtain⟨r,J4,u6,hr⟩:=hy ps p E s7 (by omega) i7;have w9:p.row.length=8:=rfl;have tk:List.take 8 p.row=p.row:=rfl;have l8:aQ E (aa 8) (.c (.ptr U 0 0))=aa (.a p.row):=by simp[aQ,aw,v6,aO,w9,tk]
      apply ak;refine av (.inl rfl) ?_;simp[g0,r5,l8,-aq,u6.eq];cases r with
      |false=>exact al (by simp) (az (hQ _ _ (.t []) rfl rfl ⟨rfl,.inr ⟨p,i7,by simpa using hr⟩⟩))
      |true=>
      obtain⟨s9,y_,m4⟩:PP (ps++[p]) J4/\E.length<=J4.length/\∀i:Nat,H.length<=i->i<E.length->J4[i]?=E[i]?:=by simpa using hr
      refine aG (by simp) (aS (aA ?_));refine av (.inl rfl) ?_;simp[z,bg (n:=k+1)];have n5:J4[S]?=J2[S]?:=by rw[m4 S (by omega) (by omega),i6 S (by omega)]
      have n7:J4[W]?=J2[W]?:=by rw[m4 W (by omega) (by omega),i6 W (by omega)]
      refine ih (u+1-(k+1)).toNat _ (by omega) ⟨k+1,_,J4,rfl,rfl,by omega,.inr (by omega),by simp[g0],by simp[Y],by simp[X],by simp[v],by simp[F],by simp[I],by simp[g5],by simp[g7],by simp[g9],by simp,by simp[K],by simp[a8],by simp[a9],by omega,by rw[n5];exact c5,by rw[n7];exact c7,ps++[p],s9,λx hx=>?_,λB k_ c_ d' t9 k' Z h2=>?_,λO a_ c_ k' Z h2=>?_,λk' Z h2=>?_⟩
      .rcases afY.1 hx with h|h
       .exact A x h
       .rw[afO]at h;rw[h];exact i7
      .obtain⟨x,hx,h⟩:=l B k_ c_ d' t9 k' Z h2;exact⟨x,ag6 _ hx,h⟩
      .obtain⟨x,hx,h⟩:=q O a_ c_ k' Z h2;exact⟨x,ag6 _ hx,h⟩
      .by_cases e:k'=k
       .exact⟨p,by simp,v8,v9,by rw[v_,e]⟩
       .obtain⟨x,hx,h⟩:=b_ k' Z (by omega);exact⟨x,ag6 _ hx,h⟩
     obtain⟨E,d_⟩:=aD (J2++[bB.box [.f (sl c.mg (aT c.ts)),.f (fi c.min),.f (sl d.mg (aT d.ts)),.f (fi d.min),.f (fi k),.f (sl c.mg (aT c.ts)),.f (sl d.mg (aT d.ts)),.f (fi (max 0 (-k)))] 0]);have g_:E[U]?=aa (.box [.f (sl c.mg (aT c.ts)),.f (fi c.min),.f (sl d.mg (aT d.ts)),.f (fi d.min),.f (fi k),.f (sl c.mg (aT c.ts)),.f (sl d.mg (aT d.ts)),.f (fi (max 0 (-k)))] 0):=by rw[d_,f7];simp
     have k3:∀i:Nat,i<J2.length->E[i]?=J2[i]?:=λi hi=>by rw[d_,afy hi]
     have l3:E.length=J2.length+1:=by rw[d_,afK];rfl
     obtain⟨-,-,w_⟩:=m5 E (by rw[k3 S (by omega)];exact c5);obtain⟨-,-,x6⟩:=m7 E (by rw[k3 W (by omega)];exact c7);apply ak;refine aI ?_;apply ai;simp[g5,g7,z,w5,x5,w7,x7,-aq,f8];rw[<-d_,<-f7];apply ak;apply ai;simp[z];by_cases kp:0<k
     .have l_:k=1:=by omega
      obtain⟨us,i9,i8,d9⟩:=zm d.mg d.ts e_;rw[show(-1:Int) = -k by omega]at d9;obtain⟨J4,L⟩:=aD (E.set U (.box [.f (sl c.mg (aT c.ts)),.f (fi c.min),.f (sl d.mg (aT d.ts)),.f (fi d.min),.f (fi k),.f (sl c.mg (aT c.ts)),.f (sl .fs (aT us)),.f (fi (max 0 (-k)))] 0));have s6:cz E (.ptr U 6 0) [.f (sl .fs (aT us))]=aa J4:=by rw[L];simp[cz,g_,bp]
      refine al (by simp[kp]) ?_;refine av (.inl rfl) ?_;simp[g7,z,x6,-aq,f8,d9,s6,-aU];apply ak;apply ai;simp[z,show¬ k<0 by omega];refine bc (by simp) ?_;refine h_ _ J4 ⟨c,d,k,c.mg,c.ts,Tg.fs,us⟩ ⟨M,N,by show vZ a.len b.len c d<=k;omega,by show k<=vT a.len b.len c d;omega,e9,i9,λx hx=>?_,λx hx=>?_⟩ rfl rfl rfl (by simp[g0]) (by simp[Y]) (by simp[X]) (by simp[v]) (by simp[F]) (by simp[I]) (by simp[g5]) (by simp[g7]) (by simp[g9]) (by simp[z]) (by simp) (by simp[K]) (by simp[a8]) (by simp[a9]) ?_ (λi hi=>by rw[L,ae2 (by omega)];exact k3 i hi) (by rw[L,af7];exact l3)
      .show fu c.ts x↔fu c.ts (x+max 0 (-k));rw[show x+max 0 (-k)=x by omega]
      .show fu us x↔fu d.ts (x+max 0 k);rw[i8 x,show x+1=x+max 0 k by omega]
      .rw[L,afC (by omega)];simp[Pr.row]
     .refine bc (by simp[kp]) ?_;apply ak;apply ai;simp[z];by_cases kn:k<0
      .have l_:k = -1:=by omega
       obtain⟨us,i9,i8,d9⟩:=zm c.mg c.ts e9;rw[<-l_]at d9;obtain⟨J4,L⟩:=aD (E.set U (.box [.f (sl c.mg (aT c.ts)),.f (fi c.min),.f (sl d.mg (aT d.ts)),.f (fi d.min),.f (fi k),.f (sl .fs (aT us)),.f (sl d.mg (aT d.ts)),.f (fi (max 0 (-k)))] 0));have s5:cz E (.ptr U 5 0) [.f (sl .fs (aT us))]=aa J4:=by rw[L];simp[cz,g_,bp]
       refine al (by simp[kn]) ?_;refine av (.inl rfl) ?_;simp[g5,z,w_,-aq,d9,s5,-aU];refine h_ _ J4 ⟨c,d,k,Tg.fs,us,d.mg,d.ts⟩ ⟨M,N,by show vZ a.len b.len c d<=k;omega,by show k<=vT a.len b.len c d;omega,i9,e_,λx hx=>?_,λx hx=>?_⟩ rfl rfl rfl (by simp[g0]) (by simp[Y]) (by simp[X]) (by simp[v]) (by simp[F]) (by simp[I]) (by simp[g5]) (by simp[g7]) (by simp[g9]) (by simp[z]) (by simp) (by simp[K]) (by simp[a8]) (by simp[a9]) ?_ (λi hi=>by rw[L,ae2 (by omega)];exact k3 i hi) (by rw[L,af7];exact l3)
       .show fu us x↔fu c.ts (x+max 0 (-k));rw[i8 x,show x+1=x+max 0 (-k) by omega]
       .show fu d.ts x↔fu d.ts (x+max 0 k);rw[show x+max 0 k=x by omega]
       .rw[L,afC (by omega)];simp[Pr.row]
      .refine bc (by simp[kn]) ?_;have y7:k=0:=by omega
       refine h_ _ E ⟨c,d,k,c.mg,c.ts,d.mg,d.ts⟩ ⟨M,N,by show vZ a.len b.len c d<=k;omega,by show k<=vT a.len b.len c d;omega,e9,e_,λx hx=>?_,λx hx=>?_⟩ rfl rfl rfl (by simp[g0]) (by simp[Y]) (by simp[X]) (by simp[v]) (by simp[F]) (by simp[I]) (by simp[g5]) (by simp[g7]) (by simp[g9]) (by simp[z]) (by simp) (by simp[K]) (by simp[a8]) (by simp[a9]) g_ k3 l3
       .show fu c.ts x↔fu c.ts (x+max 0 (-k));rw[show x+max 0 (-k)=x by omega]
       .show fu d.ts x↔fu d.ts (x+max 0 k);rw[show x+max 0 k=x by omega]
    .refine aG (by simp;omega) ?_;refine bT rfl ?_;refine aA (j5 _ _ ⟨by simp[g0],by simp[Y],by simp[X],by simp[v],by simp[F],by simp[I],by simp[g5],by simp[K],by omega,c5,ps,hP,A,l,λO a_ c_ k' Z h2=>?_⟩ (by simp[a9,j7]) (by simp[a8,j6]));by_cases e:O=j
     .subst e;rw[<-j9]at Z h2 ⊢;exact b_ k' (by omega) (by omega)
     .exact q O a_ (by omega) k' Z h2
   .rintro t' J ⟨g0,Y,X,v,F,I,g5,K,m9,c5,ps,hP,A,l,q⟩ - -;refine aA (next _ _ ⟨by simp[g0],by simp[Y],by simp[X],by simp[v],by omega,ps,hP,A,λB u c_ d hd k Z h2=>?_⟩ (by simp[I,hc]) (by simp[F,s_]));by_cases e:B=i
    .subst e;rw[<-j8]at Z h2 ⊢;obtain⟨O,a_,rfl⟩:=agd hd;exact q O a_ a_ k Z h2
    .exact l B u (by omega) d hd k Z h2
  .rintro t J ⟨g0,Y,X,v,r_,ps,hP,A,l⟩ - -;exact dY (hQ _ _ _ rfl rfl ⟨rfl,.inl ⟨ps,hP,A,λc hc d hd k Z h2=>by
    obtain⟨B,u,rfl⟩:=agd hc;exact l B u u d hd k Z h2⟩⟩)
 exact⟨H2,he,hP⟩
theorem Jb{bb:Nat}{H:aj}(a b:aN)(u:pT a)(v:pT b)(PP:List Pr->aj->Prop)(h0:PP [] H)
  (y:∀ps J J',PP ps J->(∀i:Nat,i<H.length->J'[i]?=J[i]?)->J.length<=J'.length->PP ps J')
  (z:∀ps p J,PP ps J->H.length<=J.length->qC a b p->∃J',Ev tab (.yield bb) [.a p.row] J (vb ae) J'/\PP (ps++[p]) J'/\J.length<=J'.length/\∀i:Nat,H.length<=i->i<J.length->J'[i]?=J[i]?) :
  ∃g,Ev tab (.fn mb) [.c (.yl bb),.c (.f (.fp a.row 0)),.c (.f (.fp b.row 0))] H (.t []) g/\∃ps,PP ps g/\(∀p∈ps,qC a b p)/\∀c∈a.cs,∀d∈b.cs,∀k,vZ a.len b.len c d<=k->k<=vT a.len b.len c d->∃p∈ps,p.c=c/\p.d=d/\p.k=k:=by
 obtain⟨g,x,h|⟨_,_,h⟩⟩:=qI a b u v PP (λ_ _=>False) h0 y λps p J j l m=>by
  obtain⟨J',q,s⟩:=z ps p J j l m;exact⟨ae,J',q,by simpa using s⟩
 .exact⟨g,x,h⟩
 .exact h.elim
def XK:bB->Bool
 | .ct _ _ _ _ _=>ag| _=>ae
def oT:List Nat->aj->aj
 |[],H=>H| b::d,H=>oT d (H.set b (.gI ag))
structure gB(bs:List Nat)(H:aj):Prop where
 nd:bs.Nodup
 on:∀b∈bs,H[b]?=aa (.gI ae)
theorem mG{call:cU}:∀{d:List Nat} {H:aj},gB d H->dP call (d.map .iM) H=aa (oT d H)
 |[],H,_=>rfl
 |b::d,H,h=>by
  have l:=h.on b afN;have g:=List.nodup_cons.1 h.nd;simp only[afS,dP,l,oT];exact mG ⟨g.2,λx j=>by rw[ae2 (by rintro rfl;exact g.1 j)];exact h.on x (afQ _ j)⟩
theorem jY:∀{d:List Nat} {H:aj} {i:Nat},i ∉ d->(oT d H)[i]?=H[i]?
 |[],_,_,_=>rfl
 |b::d,H,i,h=>by
  simp only[afZ,not_or]at h;rw[oT,jY h.2,ae2 (Ne.symm h.1)]
def S3(res:List iv)(r:V)(s:St):Prop:=∃b,s.defs=b.map .iM/\gB b s.heap/\∃d,Km.results s.aF (oT b s.heap) res=aa d/\fC deep (oT b s.heap) d=aa r
theorem zr{f:Nat}{args:List V}{S:V->Prop}{ps:List P}{res:List iv}{body:aH}(A:tab f=aa ⟨ps,res,body⟩)(y:args.length=ps.length)
  (h:∀Q:Option aH->St->Prop,(∀j s r,S r->S3 res r s->Q j s)->WP tab f ab [.code body] ⟨cO ps args .e,[],[]⟩ Q):∃r,S r/\aX tab f args r:=by
 have q:=h (λ_ s=>∃r,S r/\S3 res r s) λ_ _ r b g=>⟨r,b,g⟩
 obtain⟨n,m,d,j,s,b,r,z,l,x,v,B,g,u⟩:=q;exact⟨r,z,B,oT l s.heap,tN A y ⟨n,m,d,j,s,b,0,0,_,by rw[x];exact mG v,g,rfl⟩,u⟩
theorem gB.set{d:List Nat}{H:aj}(h:gB d H){i:Nat}{y z:bB}(hi:H[i]?=aa y)(hy:y≠.gI ae):gB d (H.set i z):=⟨h.nd,λb g=>by
 have:=h.on b g;rw[ae2 (by rintro rfl;rw[this]at hi;cases hi;exact hy rfl)];exact this⟩
theorem gB.not{b:List Nat}{H:aj}(h:gB b H){i:Nat}{y:bB}(hi:H[i]?=aa y)(hy:y≠.gI ae):i ∉ b:=λd=>by
 have:=h.on i d;rw[hi]at this;cases this;exact hy rfl
theorem Bx(a b:aN)(s:a.xs=[]):∃v,v=ag/\aX tab Z5 [.a (a.row.map .f),.a (b.row.map .f)]=Eq (vb v):=by
 refine⟨ag,rfl,aX.eq (bH rfl rfl λQ q=>?_)⟩;apply ai;simp[aN.row,s];apply ak;apply ai;have d:∀(K:aj) (g:Tg),bo K (.f (sl g (aC [])))=aa 0:=λK g=>by cases g<;>rfl
 simp[d];refine cD 0 (λ_ t K=>t.g 4=.c (.ptr 2 0 0)/\K[2]?=aa (.box [.f (.bool ag)] 0)) (by omega) (by decide) (by decide) (by simp) (by simp) ⟨by simp,rfl⟩ (λj t H x=>by omega) ?_;rintro t K ⟨l,m⟩ - -;have u:cz K (.ptr 2 0 0) [.f (.bool ag)]=aa (K.set 2 (.box [.f (.bool ag)] 0)):=by simp[cz,m,bp]
 apply ai;simp[l,u,-aU];refine az (q _ _ ?_);simp[Km.results,aZ,l,au m]
def aE.lt(x y:aE):Prop:=x.fr<y.fr\/x.fr=y.fr/\(x.day<y.day\/x.day=y.day/\x.to<y.to)
theorem oV(x y:aE):eH x y<0↔x.lt y:=by
 unfold eH aE.lt;simp only[wz,dk]
 repeat' split
 all_goals omega
theorem aE.lt_trans{x y z:aE}(h:x.lt y)(b:y.lt z):x.lt z:=by unfold aE.lt at *;omega
theorem aE.Om{x y:aE}(h:¬ x.lt y)(d:x≠y):y.lt x:=by
 obtain⟨a,b,c⟩:=x;obtain⟨a',g,j⟩:=y;unfold aE.lt at *;simp only[ne_eq,aE.mk.injEq]at d;simp only at h ⊢;omega
theorem aE.AS{x:aE}:¬ x.lt x:=by unfold aE.lt;omega
def aE.le(x y:aE):Prop:=¬ y.lt x
theorem aE.le_trans{x y z:aE}(h:x.le y)(b:y.le z):x.le z:=by unfold aE.le aE.lt at *;omega
theorem aE.aa9{x y:aE}(h:x.lt y):x.le y:=by unfold aE.le aE.lt at *;omega
@[simp] theorem aE.acd (x:aE):x.row.length=3:=rfl
theorem EI{b:Type}(A:List b)(x:b)(B:List b):(A++x::B)[A.length]?=aa x:=by simp
theorem G5{b:Type}(A:List b)(x y:b)(B:List b):(A++x::B).set A.length y=A++y::B:=by simp
theorem nE(l:List aE)(j:Nat)(x:aE):(aC l).set j x.row=aC (l.set j x):=by simp[aC,List.map_set]
theorem gl{l:List aE}{j:Nat}{x:aE}(h:l[j]?=aa x):(aC l)[j]?=aa x.row:=by simp[aC,h]
theorem AM{H:aj}{b ep F:Nat}{l:List aE}(hF:∀x y:aE,Kf tab F [.a (x.row.map .f),.a (y.row.map .f)] (vi (eH x y)))(hl:l.length<=1000000)(hb:RB H b 3 ep (aC l)) :
  ∃r H',Ev tab (.fn DW) [.c (.sl b 0 l.length 0 ep 3),vi 0,vi l.length,.c (.f (.fn F []))] H r H'/\
   (r=.t []/\Fm b H H'/\∃l':List aE,RB H' b 3 ep (aC l')/\l'.Perm l/\l'.Pairwise aE.le):=by
 refine dm rfl rfl λQ hQ=>?_;apply ai;simp[bg (n:=(1:Int))];refine aI ?_;refine dx (λn s=>∃(i:Nat) (t:T) (Y:aj) (rows:List aE),s=⟨t,[],Y⟩/\n=l.length+1-i/\1<=i/\(i<=l.length\/i=1)/\t.g 0=.c (.sl b 0 l.length 0 ep 3)/\t.g 1=vi 0/\t.g 2=vi l.length/\t.g 3=.c (.f (.fn F []))/\t.g 8=vi i/\
  Fm b H Y/\RB Y b 3 ep (aC rows)/\rows.Perm l/\(rows.take i).Pairwise aE.le) l.length
  ⟨1,_,H,l,rfl,by omega,by omega,.inr rfl,by simp,by simp,by simp,by simp,by simp,Fm.refl H,hb,.refl _,?_⟩ ?_
 .cases l with
  |nil=>simp| cons x r=>simp
 rintro n s ⟨i,t,Y,rows,rfl,rfl,f7,hi,g0,L,N,O,M,u,d,v,E⟩ ih;have a9:=v.length_eq;apply ak;apply ai;simp[M,N];by_cases a_:i<l.length
 case neg=>
  refine aG (by simp[a_]) ?_;refine bT (k':=[]) rfl ?_;refine dY (hQ _ _ _ rfl rfl ⟨rfl,u,rows,d,v,?_⟩);rwa[afM (by omega)]at E
 refine al (by simp[a_]) (aS ?_);apply ak;refine aI ?_;apply ai;simp[M];refine aI ?_;obtain⟨S,x,C,q,hS⟩:∃S x C,rows=S++x::C/\S.length=i:=by
  refine⟨rows.take i,rows[i]'(by omega),rows.drop (i+1),?_,by simp;omega⟩;rw[<-afL (by omega),agI]
 have d_:S.Pairwise aE.le:=by
  rw[q,age (by omega),afM (by omega)]at E;exact E
 refine dx (λn s=>∃(t:T) (I:aj) (A B:List aE),s=⟨t,[],I⟩/\n=A.length/\S=A++B/\t.g 0=.c (.sl b 0 l.length 0 ep 3)/\t.g 1=vi 0/\t.g 2=vi l.length/\t.g 3=.c (.f (.fn F []))/\t.g 8=vi i/\t.g 9=vi A.length/\
  Fm b H I/\RB I b 3 ep (aC (A++x::B++C))/\(∀y∈B,x.le y)) i
  ⟨_,Y,S,[],rfl,hS.symm,by simp,by simp[g0],by simp[L],by simp[N],by simp[O],by simp[M],by simp[hS],u,by rw[q]at d;simpa using d,by simp⟩ ?_
 rintro n s ⟨t,I,A,B,rfl,rfl,K,g0,L,N,O,M,g9,u,d,hB⟩ e_;have stop:(A++x::B).Pairwise aE.le->∀t:T,t.g 0=.c (.sl b 0 l.length 0 ep 3)->t.g 1=vi 0->t.g 2=vi l.length->t.g 3=.c (.f (.fn F []))->t.g 8=vi i->∀I,Fm b H I->RB I b 3 ep (aC (A++x::B++C))->
   WP tab DW ab [.inBlock 1,.code sM,.inLoop uU,.inBlock 0] ⟨t,[],I⟩ Q:=by
  intro hp t g0 L N O M I u d;refine aA (av (.inl rfl) ?_);simp[M,bg (n:=(i:Int)+1)];have f8:(A++x::B).length=i+1:=by rw[<-hS,K];simp;omega
  refine ih (l.length+1-(i+1)) _ (by omega) ⟨i+1,_,I,A++x::B++C,rfl,rfl,by omega,.inl (by omega),by simp[g0],by simp[L],by simp[N],by simp[O],by simp,u,d,?_,?_⟩
  .refine List.Perm.trans ?_ v;rw[q,K];simp only[agk,agu];exact List.Perm.append_left A (List.perm_middle.symm)
  .rw[age (by omega),afM (by omega)];exact hp
 have f_:l.length=A.length+1+B.length+C.length:=by rw[<-a9,q,K];simp;omega
 have b9:(A++B).Pairwise aE.le:=K▸d_;rw[agy]at b9;obtain⟨p1,p2,p3⟩:=b9;rcases List.eq_nil_or_concat A with rfl|⟨J,y,rfl⟩
 .
  apply ak;apply ai;simp[g9,L];refine aG (by simp) ?_;refine bT (k':=[.inBlock 1,.code sM,.inLoop uU,.inBlock 0]) rfl ?_;refine stop ?_ _ (by simp[g0]) (by simp[L]) (by simp[N]) (by simp[O]) (by simp[M]) _ u d;rw[agK,agt];exact⟨hB,p2⟩
 .obtain⟨m,X⟩:=aD (J.length);have b_:=d;have e0:J++[y]++x::B++C=J++y::x ::(B++C):=by simp
  rw[List.concat_eq_append]at *;rw[e0]at d;have gx:(J++y::x ::(B++C))[m+1]?=aa x:=by rw[X,afI (by omega)];simp
  have gy:(J++y::x ::(B++C))[m]?=aa y:=by rw[X];exact EI _ _ _
  have U:t.g 9=vi ((m:Int)+1):=by rw[g9,X];simp
  have hA:(J++[y]).length=m+1:=by rw[X];simp
  have i1:=d.idx (n:=l.length) (c:=0) (k:=.i64) (o:=0) (i:=(m:Int)+1) (by omega) (by omega);have i0:=d.idx (n:=l.length) (c:=0) (k:=.i64) (o:=0) (i:=(m:Int)) (by omega) (by omega);have t1:((m:Int)+1).toNat=m+1:=by omega
  rw[t1,agj]at i1;rw[afU,agj]at i0;have l1:=d.Qd (bh _) (gl gx);have l0:=d.Qd (bh _) (gl gy);have he:=(hF x y).ev I;apply ak;apply ai;simp[U,g0,L,O,show(0:Int)<(m:Int)+1 by omega,i1,i0,l1,l0,he,-aq,bg (n:=(m:Int))];by_cases hc:eH x y<0
  case neg=>
   refine aG (by simp[hc]) ?_;refine bT (k':=[.inBlock 1,.code sM,.inLoop uU,.inBlock 0]) rfl ?_;refine stop ?_ _ (by simp[g0]) (by simp[L]) (by simp[N]) (by simp[O]) (by simp[M]) _ (u.trans (Fm.push _ _)) (b_.push _);have c_:y.le x:=λh=>hc ((oV _ _).2 h);rw[agy];refine⟨p1,agt.2 ⟨hB,p2⟩,λa ha z W=>?_⟩;rcases afZ.1 W with rfl|W
   .rcases afY.1 ha with h|h
    .exact aE.le_trans ((agy.1 p1).2.2 a h y (by simp)) c_
    .obtain rfl:=afO.1 h;exact c_
   .exact p3 a ha z W
  have e9:x.lt y:=(oV _ _).1 hc;have g:=d.push (Ru tab F [.a (x.row.map .f),.a (y.row.map .f)] I);obtain⟨HJ,Z⟩:=aD (I++Ru tab F [.a (x.row.map .f),.a (y.row.map .f)] I);rw[<-Z]at g ⊢;have a8:Fm b H HJ:=by rw[Z];exact u.trans (Fm.push _ _)
  have lx:m+1<(aC (J++y::x ::(B++C))).length:=by simp;omega
  have i1:=g.idx (n:=l.length) (c:=0) (k:=.i64) (o:=0) (i:=(m:Int)+1) (by omega) (by omega);have i0:=g.idx (n:=l.length) (c:=0) (k:=.i64) (o:=0) (i:=(m:Int)) (by omega) (by omega);rw[t1,agj]at i1;rw[afU,agj]at i0;have l1:=g.Qd (bh _) (gl gx);have l0:=g.Qd (bh _) (gl gy);obtain⟨H3,s1,r1,f1,-⟩:=g.str (bh _) lx (row:=y.row) rfl;rw[nE]at r1;have d9:=r1.idx (n:=l.length) (c:=0) (k:=.i64) (o:=0) (i:=(m:Int)) (by omega) (by omega);rw[afU,agj]at d9;obtain⟨H4,s2,r2,f2,-⟩:=r1.str (bh _) (j:=m) (by simp;omega) (row:=x.row) rfl;rw[nE]at r2;have e4:((J++y::x ::(B++C)).set (m+1) y).set m x=J++x ::(y::B)++C:=by
   rw[X,List.set_append_right _ _ (by omega)];simp
  rw[e4]at r2;refine al (by simp[hc]) (aS ?_);apply ak;refine aI ?_;refine av (.inl rfl) ?_;simp[U,g0,i1,i0,d9,l1,l0,s1,s2,-aq,-aU,bg (n:=(m:Int))];refine aA ?_;refine av (.inl rfl) ?_;simp[U,bg (n:=(m:Int))];refine e_ J.length _ (by simp) ⟨_,H4,J,y::B,rfl,rfl,by rw[K];simp,by simp[g0],by simp[L],by simp[N],by simp[O],by simp[M],by simp[X],a8.trans (f1.trans f2),r2,λz W=>?_⟩;rcases afZ.1 W with rfl|W
  .exact aE.aa9 e9
  .exact hB z W
def Xx(n:Nat):Int:=if n=0 then 0 else if n=1 then 1 else if n<=3 then 2 else if n<=7 then 3 else 4
theorem RD:(List.range 13).map (λn:Nat=>RK 280 [.c (.f (.int .u64 n))] (vi (Xx n)))=(List.range 13).map λn:Nat=>(vi (Xx n)=vi (Xx n)):=by kernel_rfl
theorem Og{n:Nat}(h:n<=12):∃k:Int,aX tab aad [.c (.f (.int .u64 n))]=Eq (vi k):=
 ⟨_,nN RD (List.mem_range.2 (show n<13 by omega))⟩
theorem X5{H:aj}{b ep F:Nat}{l:List aE}{k:Int}(u:∀x y:aE,Kf tab F [.a (x.row.map .f),.a (y.row.map .f)] (vi (eH x y)))(B:l.length<=12)(z:RB H b 3 ep (aC l)) :
  ∃r H',Ev tab (.fn MN) [.c (.sl b 0 l.length 0 ep 3),vi 0,vi l.length,vi k,.c (.f (.fn F []))] H r H'/\
   (r=.t []/\Fm b H H'/\∃d:List aE,RB H' b 3 ep (aC d)/\d.Perm l/\d.Pairwise aE.le):=by
 obtain⟨r,H',A,rfl,g,d,j,m,q⟩:=AM u (by omega) z;refine dm rfl rfl λQ v=>?_;apply ai;simp;apply ai;simp;refine aI ?_;refine dx (λ_ s=>s=⟨_,[],H⟩) 0 rfl ?_;rintro _ s rfl -;refine aI ?_;apply ai;simp[bg (n:=(l.length:Int))];apply ak;apply ai;simp;refine al (by simp;omega) ?_;apply ai;simp[A.eq];exact az (v _ _ _ rfl rfl ⟨rfl,g,d,j,m,q⟩)
theorem N7{H:aj}{b ep F:Nat}{l:List aE}(v:∀x y:aE,Kf tab F [.a (x.row.map .f),.a (y.row.map .f)] (vi (eH x y)))(j:l.length<=12)(g:RB H b 3 ep (aC l)) :
  ∃r H',Ev tab (.fn ML) [.c (.sl b 0 l.length 0 ep 3),.c (.f (.fn F []))] H r H'/\
   (r=.t []/\Fm b H H'/\∃d:List aE,RB H' b 3 ep (aC d)/\d.Perm l/\d.Pairwise aE.le):=by
 obtain⟨k,B⟩:=Og j;obtain⟨r,H',A,rfl,m,d,q,s,u⟩:=X5 (k:=k) v j g;refine dm rfl rfl λQ z=>?_;apply ai;simp[g.len];refine av (.inl rfl) ?_;have E:IntKind.wrap .u64 (l.length:Int)=l.length:=by
  show(l.length:Int) % 18446744073709551616=l.length;omega
 simp[E,B,A.eq];exact dY (z _ _ _ rfl rfl ⟨rfl,m,d,q,s,u⟩)
theorem xE{H:aj}{F:Nat}:∃r H',Ev tab (.fn DW) [.c (.f .aK),vi 0,vi 0,.c (.f (.fn F []))] H r H'/\(r=.t []/\H'=H):=by
 refine dm rfl rfl λQ b=>?_;apply ai;simp[bg (n:=(1:Int))];refine aI ?_;refine dx (λ_ s=>s=⟨_,[],H⟩) 0 rfl ?_;rintro _ s rfl -;apply ak;apply ai;simp;refine aG (by simp) ?_;refine bT (k':=[]) rfl ?_;exact dY (b _ _ _ rfl rfl ⟨rfl,rfl⟩)
theorem RX{H:aj}{F:Nat}{k:Int}:∃r H',Ev tab (.fn MN) [.c (.f .aK),vi 0,vi 0,vi k,.c (.f (.fn F []))] H r H'/\(r=.t []/\H'=H):=by
 obtain⟨r,H',d,rfl,rfl⟩:=xE (H:=H) (F:=F);refine dm rfl rfl λQ b=>?_;apply ai;simp;apply ai;simp;refine aI ?_;refine dx (λ_ s=>s=⟨_,[],_⟩) 0 rfl ?_;rintro _ s rfl -;refine aI ?_;apply ai;simp[bg (n:=(0:Int))];apply ak;apply ai;simp;refine al (by simp) ?_;apply ai;simp[d.eq];exact az (b _ _ _ rfl rfl ⟨rfl,rfl⟩)
theorem Jy{H:aj}{F:Nat}:∃r H',Ev tab (.fn ML) [.c (.f .aK),.c (.f (.fn F []))] H r H'/\(r=.t []/\H'=H):=by
 obtain⟨k,b⟩:=Og (n:=0) (by omega);obtain⟨r,H',g,rfl,rfl⟩:=RX (H:=H) (F:=F) (k:=k);refine dm rfl rfl λQ d=>?_;apply ai;simp[bo];refine av (.inl rfl) ?_;have j:IntKind.wrap .u64 0=0:=rfl;simp at b;simp[j,b,g.eq];exact dY (d _ _ _ rfl rfl ⟨rfl,rfl⟩)
theorem Oe{x y:aE}(h:x.le y)(b:x≠y):x.lt y:=aE.Om h (Ne.symm b)
def NJ(x y:aE):Bool:=x.day == y.day&&(x.fr == y.fr&&x.to == y.to)
theorem uB{x y:aE}:NJ x y=ae↔x=y:=by
 obtain⟨a,b,c⟩:=x;obtain⟨a',d,g⟩:=y;simp[NJ]
theorem GH{l:List aE}(g:l.Pairwise aE.le){i j:Nat}(b:i<j)(d:j<l.length):(l[i]'(by omega)).le l[j]:=ags.1 g i j (by omega) d b
theorem Ee{H:aj}{b ep:Nat}{l:List aE}(hl:l.length<=1000000)(hs:l.Pairwise aE.le)(B:RB H b 3 ep (aC l)) :
  ∃r H',Ev tab (.fn DQ) [.c (.sl b 0 l.length 0 ep 3)] H r H'/\
   (∃l' R:List aE,r=.c (.sl b 0 l'.length 0 ep 3)/\Fm b H H'/\RB H' b 3 ep (aC (l'++R))/\l'.length<=l.length/\l'.Pairwise aE.lt/\∀x,x∈l'↔x∈l):=by
 refine dm rfl rfl λQ hQ=>?_;apply ai;simp;apply ak;apply ai;simp[B.len];by_cases h2:l.length<2
 .refine al (by simp;omega) ?_;apply ai;simp;refine az (hQ _ _ _ rfl (rY (by simp)) ⟨l,[],rfl,Fm.refl _,by simpa using B,afJ _,?_,λ_=>Iff.rfl⟩)
  match l,h2 with
  |[],_=>exact List.Pairwise.nil| [x],_=>exact agV _ _| x::y::r,h=>simp at h;omega
 refine aG (by simp;omega) (aS ?_);apply ak;apply ai;simp;refine aI ?_;refine dx (λn s=>∃(k:Nat) (t:T),s=⟨t,[],H⟩/\n=l.length-k/\1<=k/\k<=l.length/\t.g 0=.c (.sl b 0 l.length 0 ep 3)/\t.g 3=vi k/\(l.take k).Pairwise aE.lt) (l.length-1)
  ⟨1,_,rfl,rfl,by omega,by omega,by simp,by simp,?_⟩ ?_
 .cases l with
  |nil=>simp| cons x r=>simp
 rintro n s ⟨k,t,rfl,rfl,i4,i5,g0,A,hp⟩ ih;apply ak;apply ai;simp[g0,A,B.len];by_cases u:k<l.length
 case neg=>
  refine aG (by simp[u]) ?_;refine bT (k':=[.code pw]) rfl ?_;apply ai;simp[g0];refine az (hQ _ _ _ rfl (rY (by simp)) ⟨l,[],rfl,Fm.refl _,by simpa using B,afJ _,?_,λ_=>Iff.rfl⟩);rwa[afM (by omega)]at hp
 refine al (by simp[u]) (aS ?_);obtain⟨m,rfl⟩:∃m,k=m+1:=⟨k-1,by omega⟩
 have ix:∀{H:aj} {rows:List (List FC)} (B:RB H b 3 ep rows) (o n i:Nat) (hi:i<n),bw H 3 ab (.c (.sl b o n 0 ep 3)) (vi i)=aa (.c (.ptr b (o+i*3) ep)):=by
  intro H rows B o n i hi;have:=B.idx (n:=n) (c:=0) (k:=.i64) (o:=o) (i:=(i:Int)) (by omega) (by omega);rwa[afU]at this
 have i1:=ix B 0 l.length (m+1) u;have i0:=ix B 0 l.length m (by omega);have l1:=B.Qd (bh _) (cW (l:=l) (j:=m+1) u);have l0:=B.Qd (bh _) (cW (l:=l) (j:=m) (by omega));rw[agj]at i1 i0;have c1:((m+1:Nat):Int)-1=m:=by omega
 rw[show((m+1:Nat):Int)=(m:Int)+1 by omega]at i1;have b_:l.take (m+1+1)=l.take (m+1)++[l[m+1]]:=by rw[agC,afB u];rfl
 apply ak;refine aI ?_;apply ai;simp[g0,A,i1,i0,l1,l0,-aq,bg (n:=(m:Int)),aE.row];cases hc:(l[m+1].day == l[m].day&&(l[m+1].fr == l[m].fr&&l[m+1].to == l[m].to))
 .
  refine aG (by simp) (aS (aA ?_));refine av (.inl rfl) ?_;simp[A,bg (n:=(m:Int)+1+1)];refine ih (l.length-(m+2)) _ (by omega) ⟨m+2,_,rfl,rfl,by omega,by omega,by simp[g0],by simp;omega,?_⟩;show(l.take (m+1+1)).Pairwise aE.lt;have L:l[m]≠l[m+1]:=λe=>by
   have:NJ l[m+1] l[m]=ae:=uB.2 e.symm;rw[NJ,hc]at this;cases this
  rw[b_,agy];refine⟨hp,agV _ _,λy hy z hz=>?_⟩;obtain rfl:=afO.1 hz;obtain⟨i,hi,rfl⟩:=agd hy;have h_:i<m+1:=by simp at hi;omega
  rw[List.getElem_take];by_cases e:i=m
  .subst e;exact Oe (GH hs (by omega) u) L
  .exact aE.lt_trans (y:=l[m]) (by
    have h1:=ags.1 hp i m (by simp;omega) (by simp;omega) (by omega);simpa using h1) (Oe (GH hs (by omega) u) L)
 .
  have e9:l[m+1]=l[m]:=uB.1 hc;have c2:((m+1:Nat):Int)=(m:Int)+1:=by omega
  have M:=B.wY (k:=m+1) u;rw[c2]at M;refine al (by simp) ?_;apply ai;simp[g0,A,M];apply ak;apply ai;simp;refine aI ?_;refine dx (λn s=>∃(i:Nat) (t:T) (E:aj) (P R:List aE),s=⟨t,[],E⟩/\n=l.length-(m+2+i)/\m+2+i<=l.length/\t.g 0=.c (.sl b 0 l.length 0 ep 3)/\t.g 3=vi P.length/\t.g 4=.c (.sl b ((m+1)*3) (l.length-(m+1)) 0 ep 3)/\t.g 5=vi ((i:Int)+1)/\
   Fm b H E/\RB E b 3 ep (aC (P++R))/\(P++R).length=l.length/\1<=P.length/\P.length<=m+1+i/\(∀q,m+1+i<=q->(P++R)[q]?=l[q]?)/\P.Pairwise aE.lt/\∀x,x∈P↔x∈l.take (m+2+i)) (l.length-(m+2))
   ⟨0,_,H,l.take (m+1),l.drop (m+1),rfl,rfl,by omega,by simp[g0],by simp[A];omega,by simp,by simp,Fm.refl _,by simpa using B,by simp,by simp;omega,by simp;omega,by simp,hp,λx=>?_⟩ ?_
  .show x∈l.take (m+1)↔x∈l.take (m+1+1);rw[b_,afY,afO];refine⟨.inl,λh=>h.elim id λe=>?_⟩;rw[e,e9];exact List.mem_take_iff_getElem.2 ⟨m,by omega,rfl⟩
  rintro n s ⟨i,t,E,P,R,rfl,rfl,hi,g0,A,O,S,F,d,v,U,c_,hq,J,g⟩ g_;have W:=d.len (o:=(m+1)*3) (l:=l.length-(m+1)) (c:=0);apply ak;apply ai;simp[O,S,W];by_cases I:m+2+i<l.length
  case neg=>
   have a9:m+2+i=l.length:=by omega
   refine aG (by simp;omega) ?_;refine bT (k':=[.code sK,.inBlock 1,.code sL,.inLoop sJ,.inBlock 0,.code pw]) rfl ?_;have a8:P.length<l.length:=by omega
   obtain⟨H3,d_,Y,e_⟩:=d.clr (bh _) (zs:=[fi 0,fi 0,fi 0]) (by simpa using v) a8 rfl;have M:=d.wY a8;apply ai;simp[g0,A,M,d_];have f_:=Y.PC (n:=l.length) (k:=P.length) (by omega) (by omega);apply ai;simp[g0,A,f_];have e3:(aC (P++R)).take P.length++List.replicate (l.length-P.length) [fi 0,fi 0,fi 0]=aC (P++List.replicate (l.length-P.length) ⟨0,0,0⟩):=by
    simp[aC,aE.row]
   rw[e3]at Y;refine az (hQ _ _ _ rfl (rY (by simp)) ⟨P,_,rfl,F.trans e_,Y,by omega,J,λx=>?_⟩);rw[g,a9,agc]
  have ha:(P++R)[m+2+i]?=aa l[m+2+i]:=by rw[hq _ (by omega),afB I]
  have d9:(P++R)[m+1+i]?=aa (l[m+1+i]'(by omega)):=by rw[hq _ (by omega),afB]
  have j1:=ix d ((m+1)*3) (l.length-(m+1)) (i+1) (by omega);have j0:=ix d ((m+1)*3) (l.length-(m+1)) i (by omega);rw[show(m+1)*3+(i+1)*3=(m+2+i)*3 by omega,show((i+1:Nat):Int)=(i:Int)+1 by omega]at j1;rw[show(m+1)*3+i*3=(m+1+i)*3 by omega]at j0;have d1:=d.Qd (bh _) (gl ha);have d0:=d.Qd (bh _) (gl d9);refine al (by simp;omega) (aS ?_);apply ak;refine aI ?_;apply ai;simp[O,S,j1,j0,d1,d0,-aq,bg (n:=(i:Int)),aE.row];have N:l.take (m+2+(i+1))=l.take (m+2+i)++[l[m+2+i]]:=by
   rw[show m+2+(i+1)=m+2+i+1 by omega,agC,afB I];rfl
  have next:∀(t:T) (E:aj) (P R:List aE),t.g 0=.c (.sl b 0 l.length 0 ep 3)->t.g 3=vi P.length->t.g 4=.c (.sl b ((m+1)*3) (l.length-(m+1)) 0 ep 3)->t.g 5=vi ((i:Int)+1)->
    Fm b H E->RB E b 3 ep (aC (P++R))->(P++R).length=l.length->1<=P.length->P.length<=m+2+i->(∀q,m+2+i<=q->(P++R)[q]?=l[q]?)->P.Pairwise aE.lt->(∀x,x∈P↔x∈l.take (m+2+(i+1)))->
    WP tab DQ ab [.inBlock 3,.code yw,.inLoop yv,.inBlock 2,.code sK,.inBlock 1,.code sL,.inLoop sJ,.inBlock 0,.code pw] ⟨t,[],E⟩ Q:=by
   intro t E P R g0 A O S F d v U c_ hq J g;refine aA (av (.inl rfl) ?_);simp[S,bg (n:=(i:Int)+1+1)];exact g_ (l.length-(m+2+(i+1))) _ (by omega) ⟨i+1,_,E,P,R,rfl,rfl,by omega,by simp[g0],by simp[A],by simp[O],by simp,F,d,v,U,by omega,λq h=>hq q (by omega),J,g⟩
  have f7:(l[m+1+i]'(by omega)).le l[m+2+i]:=GH hs (by omega) I;cases K:(l[m+2+i].day == l[m+1+i].day&&(l[m+2+i].fr == l[m+1+i].fr&&l[m+2+i].to == l[m+1+i].to))
  .have L:l[m+1+i]≠l[m+2+i]:=λe=>by
    have:NJ l[m+2+i] l[m+1+i]=ae:=uB.2 e.symm;rw[NJ,K]at this;cases this
   have b9:=Oe f7 L;have kx:=ix d 0 l.length P.length (by omega);rw[agj]at kx;obtain⟨H3,s3,r3,f3,-⟩:=d.str (bh _) (j:=P.length) (by rw[kP,v];omega) (row:=(l[m+2+i]).row) rfl;rw[nE]at r3;obtain⟨x0,Z,rfl⟩:∃x0 Z,R=x0::Z:=by
    cases R with
    |nil=>simp at v;omega| cons x0 Z=>exact⟨_,_,rfl⟩
   rw[G5]at r3;have X:¬l[m+2+i].day=l[m+1+i].day\/¬l[m+2+i].fr=l[m+1+i].fr\/¬l[m+2+i].to=l[m+1+i].to:=by
    simp at K;omega
   refine al (by simpa using X) ?_;apply ai;simp only[aE.row,afS,afW]at s3;simp[g0,A,O,S,j1,d1,kx,s3,-aq,-aU,aE.row];refine av (.inl rfl) ?_;simp[A,bg (n:=(P.length:Int)+1)];have e5:P++l[m+2+i]::Z=(P++[l[m+2+i]])++Z:=by simp
   rw[e5]at r3;refine next _ H3 (P++[l[m+2+i]]) Z (by simp[g0]) (by simp) (by simp[O]) (by simp[S]) (F.trans f3) r3 (by simpa using v) (by simp) (by simp;omega) (λq h=>?_) ?_ λx=>?_
   .rw[<-e5,<-G5 P x0,ae2 (by omega)];exact hq q (by omega)
   .rw[agy];refine⟨J,agV _ _,λy hy z hz=>?_⟩;obtain rfl:=afO.1 hz;obtain⟨q,f8,rfl⟩:=agd ((g y).1 hy);have i6:q<m+2+i:=by simp at f8;omega
    rw[List.getElem_take];by_cases e:q=m+1+i
    .subst e;exact b9
    .have h1:=GH hs (i:=q) (j:=m+1+i) (by omega) (by omega);unfold aE.le aE.lt at *;omega
   .rw[N,afY,afY,g]
  .have a_:l[m+2+i]=l[m+1+i]:=uB.1 K;have X:l[m+2+i].day=l[m+1+i].day/\l[m+2+i].fr=l[m+1+i].fr/\l[m+2+i].to=l[m+1+i].to:=by simpa using K
   refine aG (by simpa using X) (aS ?_);refine next _ E P R (by simp[g0]) (by simp[A]) (by simp[O]) (by simp[S]) F d v U (by omega) (λq h=>hq q (by omega)) J λx=>?_
   rw[N,afY,afO,g];refine⟨.inl,λh=>h.elim id λe=>?_⟩;rw[e,a_];exact List.mem_take_iff_getElem.2 ⟨m+1+i,by omega,rfl⟩
def LI(H:aj)(c:C)(o:List aE):Prop:=(o=[]/\c=.f .aK)\/(o≠[]/\∃b ep,c=.sl b 0 o.length 0 ep 3/\RB H b 3 ep (aC o))
theorem LI.push{H:aj}{c:C}{o:List aE}(h:LI H c o)(J:aj):LI (H++J) c o:=by
 rcases h with h|⟨h,b,ep,h1,h2⟩
 .exact .inl h
 .exact .inr ⟨h,b,ep,h1,h2.push J⟩
theorem xF(o:List aE)(x:aE):(aC (o++[x])).flatten=(aC o).flatten++x.row:=by simp[aC]
theorem LI.app{H:aj}{c:C}{o:List aE}(h:LI H c o)(v:o.length<=1000000){b1 fl:Nat}{x:aE}(m:H[b1]?=aa (.box (x.row.map .f) fl)) :
  ∃q H',cw H 3 24 (.c c) (.c (.sl b1 0 1 1 0 3))=aa (.c q,H')/\LI H' q (o++[x])/\H.length<=H'.length/\∀(i:Nat) y,H[i]?=aa y->XK y=ae->H'[i]?=aa y:=by
 have g:cS H 3 (.c (.sl b1 0 1 1 0 3))=aa (1,x.row.map .f):=pz m (by rfl);rcases h with⟨rfl,rfl⟩|⟨u,b,ep,rfl,h2⟩
 .have d:bU 1 24=ae:=by simp[bU]
  refine⟨.sl H.length 0 1 0 0 3,H++[.ct 3 (x.row.map .f) 0 0 .loc],?_,.inr ⟨by simp,H.length,0,by simp,?_⟩,by simp,λi y hy _=>by rw[afy (au hy)];exact hy⟩
  .simp[cw,g,d]
  .unfold RB;simp[aC]
 .have d:bU (o.length+1) 24=ae:=by simp[bU];omega
  have j:o.length*3=(aC o).flatten.length:=by rw[bW (bh o),kP]
  unfold RB at h2;refine⟨.sl b 0 (o.length+1) 0 (ep+1) 3,H.set b (.ct 3 ((aC o).flatten.map .f++x.row.map .f) 0 (ep+1) .loc),?_,.inr ⟨by simp,b,ep+1,by simp,?_⟩,by simp,λi y hy s=>?_⟩
  .have l:(3:Nat)≠0:=by decide
   simp only[cw,g,l,if_false,h2,and_self,if_true];simp only[Nat.add_one_ne_zero,if_false];rw[bu ⟨trivial,by rw[afT];exact j,by omega⟩,d];simp
  .unfold RB;rw[afC (au h2),xF,agA]
  .have:b≠i:=by rintro rfl;rw[h2]at hy;cases hy;cases s
   rw[ae2 this];exact hy
theorem aar{H:aj}{b ep n:Nat}{l R:List aE}(h:RB H b 3 ep (aC (l++R))):eg (n+1) H (.sl b 0 l.length 0 ep 3)=aa (sl .fs (aC l)):=by
 unfold RB at h;have d:l.length*3=(aC l).flatten.length:=by rw[bW (bh l),kP]
 have e:(aC (l++R)).flatten=(aC l).flatten++(aC R).flatten:=by simp[aC]
 simp only[ml,h];rw[bu ⟨trivial,trivial,by rw[afT,e,afK];omega⟩,e,List.drop_zero,agA,age (by rw[afT];omega),afM (by rw[afT];omega)];rw[wb];cases l with
 |nil=>simp[sl,aC,Tg.fc]| cons x l=>simp[sl,aC]
theorem BX{H:aj}:∃r H',Ev tab (.fn DQ) [.c (.f .aK)] H r H'/\(r=.c (.f .aK)/\H'=H):=by
 refine dm rfl rfl λQ b=>?_;apply ai;simp;apply ak;apply ai;simp[bo];refine al (by simp) ?_;apply ai;simp;exact az (b _ _ _ rfl (rY (by simp)) ⟨rfl,rfl⟩)
theorem O_(b g j:FC)(len mi d:Int)(m:fK len)(q:fK mi)(s:fK d) :
  aX tab V3 [.a [.f b,.f (fi len),.f g],.a [.f j,.f (fi mi)],vi d]=Eq (.a ((cm len mi d).row.map .f)):=aX.eq (Kf.A3 (by
 unfold fK at *;refine cr rfl rfl λH Q l=>?_;apply ai;simp;apply ai;simp[bg (n:=d*1440),bg (n:=d*1440+mi)];apply ai;simp[bg (n:=d*1440+mi+len)];refine az (l _ _ ?_);simp[cm,aE.row]))
theorem Ko(x y:aE):Kf tab DI [.a (x.row.map .f),.a (y.row.map .f)] (vi (eH x y)):=by
 refine cr rfl rfl λH Q d=>?_;have b:=zn .fs [dk x.fr y.fr,dk x.day y.day,dk x.to y.to] (by simp);simp[ints,sl,Tg.fc]at b;apply ai;simp[aE.row];apply ai;simp[gZ,deep,ml,tZ,b];refine az (d _ _ ?_);simp[eH]
def Jk(q mi:Int):Int:=(q*10080-mi+1440-1) / 1440
def kX(n p d:Int):Bool:=decide (d % n=p)
structure kj(s:aN)(n p mi:Int):Prop where
 cs:s.cs=[⟨.fs,[td n p],mi⟩]
 sm:mP n p
 m0:0<=mi
 m1:mi<=1180
 l0:1<=s.len
 l1:s.len<=400
 xs:s.xs=[]
theorem wy{m r t z n p mi le:Int}(h:mP n p)(g:0<=mi)(j:mi<=1180)(b:1<=le)(d:le<=400):kj (jv m r t z n p mi le).st n p mi:=⟨rfl,h,g,j,b,d,rfl⟩
def Dt(s:aN)(n p mi q:Int)(x:aE):Prop:=∃d,x=cm s.len mi d/\max (Jk q mi) 0<=d/\d<Jk q mi+7/\kX n p d=ae
theorem IC(s:aN){n p mi:Int}(hs:kj s n p mi)(q:Int)(j5:-1<=q)(j6:q<=100) :
  ∃g L,(L.Pairwise aE.lt/\∀x,x∈L↔Dt s n p mi q x)/\L.length<=10/\aX tab my [.a (s.row.map .f),vi q]=Eq (.c (.f (sl g (aC L)))):=by
 have key:∃r,(∃g L,(L.Pairwise aE.lt/\∀x,x∈L↔Dt s n p mi q x)/\L.length<=10/\r=.c (.f (sl g (aC L))))/\aX tab my [.a (s.row.map .f),vi q] r:=by
  refine cN rfl rfl λQ hQ=>?_;have hF:∀x y:aE,Kf tab DI [.a (x.row.map .f),.a (y.row.map .f)] (vi (eH x y)):=Ko;obtain⟨e,hsm,m0,m1,i5,i6,e9⟩:=hs;have d_:s.xs.length=0:=by rw[e9];rfl
  have i_:=hsm.1;have e_:∀(t:T) (H:aj) (c:C) (o:List aE),t.g 5=.c c->LI H c o->o.length<=10->(∀x,x∈o↔Dt s n p mi q x)->WP tab my ab [.code H8] ⟨t,[],H⟩ Q:=by
   intro t H c o B z N v;rcases z with⟨rfl,rfl⟩|⟨j4,b,ep,rfl,f7⟩
   .obtain⟨r1,H1,e1,rfl,rfl⟩:=Jy (H:=H) (F:=DI);obtain⟨r2,H2,e2,rfl,rfl⟩:=BX (H:=H1);apply ai;simp[B,e1.eq];apply ai;simp[B,e2.eq];refine az (hQ _ _ _ ⟨.nil,[],⟨by simp,v⟩,by simp,rfl⟩ ?_);simp[sl,aC,Tg.fc]
   .obtain⟨r1,H1,e1,rfl,f1,l1,q1,q2,q3⟩:=N7 hF (by omega) f7;have ll:=q2.length_eq;rw[<-ll]at e1 B;obtain⟨r2,H2,e2,l2,R2,rfl,f2,w1,w2,w3,w4⟩:=Ee (by omega) q3 q1;apply ai;simp[B,e1.eq];apply ai;simp[B,e2.eq];refine az (hQ _ _ _ ⟨.fs,l2,⟨w3,λx=>by rw[w4,q2.mem_iff,v]⟩,by omega,rfl⟩ ?_);have:=aar (n:=63) w1;simp[deep,this]
  have Z:∀(t:T) (H:aj) (c:C) (o:List aE),t.g 1=vi q->t.g 2=.c (.ptr 0 0 0)->t.g 5=.c c->H[0]?=aa (.box [C.f (sl s.cg (aP s.cs)),C.f (fi s.len),C.f (sl s.xg (aC s.xs))] 0)->LI H c o->o.length<=7->(∀x,x∈o↔Dt s n p mi q x)->
    WP tab my ab [.code sI] ⟨t,[],H⟩ Q:=by
   intro t H c o S O B h0 z N v;apply ak;apply ai;simp[O,h0];have i9:∀K:aj,bo K (.f (sl s.xg (aC s.xs)))=aa 0:=λK=>by rw[e9];cases s.xg<;>rfl
   rw[d_];refine cD 0 (λj t H'=>LI H' c o/\t.g 5=.c c) (by omega) (by decide) (by decide) (by simp) (by simp) ⟨z,by simp[B]⟩ (λj t H hj=>by omega) ?_;rintro t H' ⟨z,B⟩ - -;exact e_ _ H' c o (by simp[B]) z (by omega) v
  apply ai;simp[aN.row];apply ai;simp;apply ak;apply ai;simp;have i8:s.cs.length<=1:=by rw[e];simp
  refine cD s.cs.length (λj t H'=>t.g 1=vi q/\t.g 2=.c (.ptr 0 0 0)/\t.g 14=.c (.f (sl s.cg (aP s.cs)))/\H'[0]?=aa (.box [C.f (sl s.cg (aP s.cs)),C.f (fi s.len),C.f (sl s.xg (aC s.xs))] 0)/\∃c o,t.g 5=.c c/\LI H' c o/\o.length<=7/\(j=0->o=[]/\c=.f .aK)/\(j=1->∀x,x∈o↔Dt s n p mi q x)) (by omega) (by decide) (by decide) (by simp) (by simp)
   ⟨by simp,by simp,by simp,by simp,.f .aK,[],by simp,.inl ⟨rfl,rfl⟩,by simp,by simp,by omega⟩ ?_ ?_
  .rintro j t H' hj ⟨S,O,A,h0,c,o,B,z,N,d9,-⟩ ha hb next
   have h_:j=0:=by omega
   subst h_;obtain⟨rfl,rfl⟩:=d9 rfl;simp at ha;have Y:=λH:aj=>bE (H:=H) (cE s.cs) (dA (l:=s.cs) (j:=0) (by rw[e];simp));have a8:=λH:aj=>a7 (H:=H) (g:=s.cg) (rows:=aP s.cs) (sz:=2) (k:=.i64) (i:=0) (by omega) (by rw[e];simp);have f_:s.cs[0]'(by rw[e];simp)=⟨.fs,[td n p],mi⟩:=by simp[e]
   rw[f_]at Y;simp[bK.row]at Y a8;have g_:=tP (q*10080-mi+1440-1) 1440 (by omega) (by omega) (by omega);obtain⟨fst,X⟩:=aD (Jk q mi);have a9:(q*10080-mi+1440-1) / 1440=fst:=by rw[X];rfl
   have b9:oh [td n p]=ae:=FG hsm;have b_:∀d,0<=d->d<=1000->aX tab SX [.a [.f (sl .fs (aT [td n p]))],vi d]=Eq (vb (kX n p d)):=λd h0 I=>by
    have:=RL .fs [td n p] b9 d (by unfold Day;omega);rw[this];have J:=X4 (n:=n) (p:=p) h0;have h3:hasB (pd n p) d=kX n p d:=by
     unfold kX;by_cases k:d % n=p
     .rw[decide_eq_true k,J.2 k]
     .rw[decide_eq_false k];cases hb:hasB (pd n p) d with
      |false=>rfl| true=>exact absurd (J.1 hb) k
    rw[td]at b9;simp[Ov,Tk,td,b9,h3]
   have a_:=λd (h:fK d)=>O_ (sl s.cg (aP s.cs)) (sl s.xg (aC s.xs)) (sl .fs (aT [td n p])) s.len mi d (by unfold fK;omega) (by unfold fK;omega) h;refine aI ?_;apply ai;simp[A,ha,a8,Y];have kN:(H'++[bB.box [.f (sl .fs (aT [td n p])),.f (fi mi)] 0])[H'.length]?=aa (.box [.f (sl .fs (aT [td n p])),.f (fi mi)] 0):=by simp
   have k0:(H'++[bB.box [.f (sl .fs (aT [td n p])),.f (fi mi)] 0])[0]?=aa (.box [C.f (sl s.cg (aP s.cs)),C.f (fi s.len),C.f (sl s.xg (aC s.xs))] 0):=by rw[afy (au h0)];exact h0
   generalize H'++[bB.box [.f (sl .fs (aT [td n p])),.f (fi mi)] 0]=HA at kN k0 ⊢;obtain⟨bN,f8⟩:=aD (H'.length);rw[<-f8]at kN ⊢;apply ai;simp[S,kN,bg (n:=q*10080),bg (n:=q*10080-mi),bg (n:=q*10080-mi+1440),bg (n:=q*10080-mi+1440-1),g_,a9];apply ai;simp;have fb:-9<=fst/\fst<=701:=by omega
   refine aI ?_;refine dx (λm st=>∃(u:Int) (t:T) (H:aj) (c:C) (o:List aE),st=⟨t,[],H⟩/\(m:Int)=fst+7-u/\max fst 0<=u/\u<=fst+7/\t.g 1=vi q/\t.g 2=.c (.ptr 0 0 0)/\t.g 7=.c (.ptr bN 0 0)/\t.g 8=vi fst/\t.g 10=vi u/\t.g 14=.c (.f (sl s.cg (aP s.cs)))/\t.g 15=vi (s.cs.length:Nat)/\t.g 16=vi 0/\t.g 5=.c c/\
    H[0]?=aa (.box [C.f (sl s.cg (aP s.cs)),C.f (fi s.len),C.f (sl s.xg (aC s.xs))] 0)/\H[bN]?=aa (.box [.f (sl .fs (aT [td n p])),.f (fi mi)] 0)/\LI H c o/\(o.length:Int)<=u-max fst 0/\∀x,x∈o↔∃d,x=cm s.len mi d/\max fst 0<=d/\d<u/\kX n p d=ae) (fst+7-max fst 0).toNat
    ⟨max fst 0,_,HA,.f .aK,[],rfl,by omega,by omega,by omega,by simp[S],by simp[O],by simp,by simp,by simp,by simp[A],by simpa using hb,by simp[ha],by simp[B],k0,kN,.inl ⟨rfl,rfl⟩,by simp,λx=>by simp;intros;omega⟩ ?_
   rintro m st ⟨u,t,H,c,o,rfl,hm,c0,c1,S,O,g7,g8,E,A,U,W,B,h0,hN,z,N,v⟩ ih;apply ak;apply ai;simp[g8,E,bg (n:=fst+7)];by_cases i7:u<fst+7
   .refine al (by simp[i7]) (aS ?_);apply ak;refine aI ?_;have go:∀(t:T) (H:aj) (c:C) (o:List aE),t.g 1=vi q->t.g 2=.c (.ptr 0 0 0)->t.g 7=.c (.ptr bN 0 0)->t.g 8=vi fst->t.g 10=vi u->t.g 14=.c (.f (sl s.cg (aP s.cs)))->t.g 15=vi (s.cs.length:Nat)->t.g 16=vi 0->t.g 5=.c c->
      H[0]?=aa (.box [C.f (sl s.cg (aP s.cs)),C.f (fi s.len),C.f (sl s.xg (aC s.xs))] 0)->H[bN]?=aa (.box [.f (sl .fs (aT [td n p])),.f (fi mi)] 0)->LI H c o->(o.length:Int)<=u+1-max fst 0->(∀x,x∈o↔∃d,x=cm s.len mi d/\max fst 0<=d/\d<u+1/\kX n p d=ae)->
      WP tab my ab [.inBlock 3,.code HZ,.inLoop HY,.inBlock 2,.inBlock 1,.code (uu 16 50),.inLoop (ku 0 16 15 17 50 yj),.inBlock 0,.code sI] ⟨t,[],H⟩ Q:=by
     intro t H c o S O g7 g8 E A U W B h0 hN z N v;refine aA (av (.inl rfl) ?_);simp[E,bg (n:=u+1)];exact ih (fst+7-(u+1)).toNat _ (by omega) ⟨u+1,_,H,c,o,rfl,by omega,by omega,by omega,by simp[S],by simp[O],by simp[g7],by simp[g8],by simp,by simp[A],by simp[U],by simp[W],by simp[B],h0,hN,z,by omega,v⟩
    apply ai;simp[g7,E,hN,b_ u (by omega) (by omega)];cases hc:kX n p u
    .refine bc (by simp) ?_;refine go _ H c o (by simp[S]) (by simp[O]) (by simp[g7]) (by simp[g8]) (by simp[E]) (by simp[A]) (by simp[U]) (by simp[W]) (by simp[B]) h0 hN z (by omega) λx=>?_;rw[v];constructor
     .rintro⟨d,I,J,h3,M⟩;exact⟨d,I,J,by omega,M⟩
     .rintro⟨d,I,J,h3,M⟩;by_cases hd:d=u
      .subst hd;rw[hc]at M;cases M
      .exact⟨d,I,J,by omega,M⟩
    .have c_:=a_ u (by unfold fK;omega);simp[cm,aE.row]at c_;obtain⟨c',H2,e1,e2,e3,e4⟩:=(z.push [.box [.f (fi u),.f (fi (u*1440+mi)),.f (fi (u*1440+mi+s.len))] 0]).app (by omega) (b1:=H.length) (fl:=0) (x:=cm s.len mi u) (by simp[aE.row,cm]);have p0:=e4 _ _ (show(H++[bB.box [.f (fi u),.f (fi (u*1440+mi)),.f (fi (u*1440+mi+s.len))] 0])[0]?=_ by rw[afy (au h0)];exact h0) rfl;have pN:=e4 _ _ (show(H++[bB.box [.f (fi u),.f (fi (u*1440+mi)),.f (fi (u*1440+mi+s.len))] 0])[bN]?=_ by rw[afy (au hN)];exact hN) rfl;refine al (by simp) ?_;refine av (.inl rfl) ?_;simp[O,B,g7,E,h0,hN,c_,e1];refine go _ H2 c' (o++[cm s.len mi u]) (by simp[S]) (by simp[O]) (by simp[g7]) (by simp[g8]) (by simp[E]) (by simp[A]) (by simp[U]) (by simp[W]) (by simp) p0 pN e2 (by simp;omega) λx=>?_;rw[afY,afO,v];constructor
     .rintro(⟨d,I,J,h3,M⟩|rfl)
      .exact⟨d,I,J,by omega,M⟩
      .exact⟨u,rfl,by omega,by omega,hc⟩
     .rintro⟨d,I,J,h3,M⟩;by_cases hd:d=u
      .subst hd;exact .inr I
      .exact .inl ⟨d,I,J,by omega,M⟩
   .have:u=fst+7:=by omega
    subst this;refine aG (by simp) ?_;refine bT (k':=[.inBlock 1,.code (uu 16 50),.inLoop (ku 0 16 15 17 50 yj),.inBlock 0,.code sI]) rfl ?_;refine aA (next _ _ ?_ (by simp[W]) (by simp[U]));refine⟨by simp[S],by simp[O],by simp[A],h0,c,o,by simp[B],z,by omega,by omega,λ_ x=>?_⟩;rw[v];constructor
    .rintro⟨d,I,J,h3,M⟩;exact⟨d,I,by rw[<-X];omega,by rw[<-X];omega,M⟩
    .rintro⟨d,I,J,h3,M⟩;exact⟨d,I,by omega,by omega,M⟩
  .rintro t H' ⟨S,O,A,h0,c,o,B,z,N,d9,i4⟩ - -;refine Z _ H' c o (by simp[S]) (by simp[O]) (by simp[B]) h0 z N λx=>?_;exact i4 (by rw[e];rfl) x
 obtain⟨r,⟨g,L,I,J,rfl⟩,h⟩:=key;exact⟨g,L,I,J,aX.eq h⟩
def eC(b d:FC)(x:aB):FC:=.fp ([b,d]++x.row) 0
def eI(af b:Int):FC:=sl .fs (rows (bQ af b))
def bI(af b r:Int):bZ:=if r=0 then qn af .fs [(1,b)] .nil []else if r=1 then qn af .nil [] .nil []else qn af .nil [] .fs [0,1]
theorem j3(af b:Int){r:Int}(h0:0<=r)(d:r<=2):(bQ af b)[r.toNat]?=aa (bI af b r):=by
 obtain rfl|rfl|rfl:r=0\/r=1\/r=2:=by omega
 all_goals rfl
theorem uN(af b:Int)(u:FC)(x:aB)(h0:0<=x.room)(m:x.room<=2):aX tab MC [.c (.f (eC (eI af b) u x))]=Eq (.a ((bI af b x.room).row.map .f)):=aX.eq (by
 refine bH rfl rfl λQ q=>?_;have s:=j3 af b h0 m;have d:=λH:aj=>a7 (H:=H) (g:=.fs) (rows:=rows (bQ af b)) (sz:=15) (k:=.i64) (i:=x.room) h0 (by simp[bQ];omega);have l:=λH:aj=>bE (H:=H) (dt (bQ af b)) (j:=x.room.toNat) (row:=(bI af b x.room).row) (by rw[rows,agl,s];rfl);apply ai;simp;apply ai;simp[eC,eI,tU,aO,aB.row,d,l,bZ.row];refine az (q _ _ ?_);simp[fC,bX,deep,aZ,bZ.row])
theorem BK(af g:Int)(m:FC)(x:aB)(h0:0<=x.room)(s:x.room<=2):∃l:List Int,l.length=8/\l=(if 10<x.size then [14,0,0,0,0,0,0,0]else [0,0,0,0,0,0,0,0])/\∀H,∃J,Ev tab (.fn vh) [.c (.f (eC (eI af g) m x))] H (.t [.a (l.map λn=>.f (fi n)),vi 0]) (H++J):=by
 refine⟨_,?_,rfl,λH=>?_⟩
 .split<;>rfl
 obtain⟨r,H',u,rfl,J,rfl⟩:∃r H',Ev tab (.fn vh) [.c (.f (eC (eI af g) m x))] H r H'/\r=.t [.a ((if 10<x.size then [14,0,0,0,0,0,0,0]else [0,0,0,0,0,0,0,0]:List Int).map λn=>.f (fi n)),vi 0]/\∃J,H'=H++J:=by
  refine dm (C:=λr H'=>r=.t [.a ((if 10<x.size then [14,0,0,0,0,0,0,0]else [0,0,0,0,0,0,0,0]:List Int).map λn=>.f (fi n)),vi 0]/\∃J,H'=H++J) Wf rfl λQ q=>?_;have j:=uN af g m x h0 s;have b:(bI af g x.room).cap=10:=by unfold bI;split<;>(try split)<;>rfl
  apply ai;simp;apply ak;apply ai;simp only[eC,aB.row,bZ.row,agu,agK,afS,afW]at j;by_cases d:10<x.size
  .simp[eC,tU,aO,aB.row,j,ko,b,d];refine al (by simp) (ai ?_);simp;refine az (q _ _ _ rfl ?_ ⟨rfl,_,rfl⟩);simp[Km.results,aZ,d,aO]
  .simp[eC,tU,aO,aB.row,j,ko,b,d];refine bc (by simp) ?_;apply ai;simp;refine az (q _ _ _ rfl ?_ ⟨rfl,_,rfl⟩);simp[Km.results,aZ,d,aO]
 exact⟨J,u⟩
def nD(n p mi le:Int):List Int:=if mi+le<=1440 then [0,0,0,0,0,0,0,0]else [16,0,p,p*1440+mi,p*1440+mi+le,0,0,0]
def qY(b:List Int):V:=.a (b.map λn=>.f (fi n))
theorem NZ(af j:Int)(x:FC){m r t z n p:Int}(i:mP n p){k:Nat}(h:k<60)(le:Int)(W:1<=le)(X:le<=10080)(h0:0<=r)(Y:r<=2)(H:aj) :
  ∃H',Ev tab (.fn Ae) [.c (.f (eC (eI af j) x (jv m r t z n p (20*k:Nat) le)))] H (.t [qY (nD n p (20*k:Nat) le),vi 0]) H'/\Kp H H':=by
 obtain⟨mi,J⟩:=aD (20*k:Nat);have S:=NY i h le W X;rw[<-J]at S ⊢;obtain⟨r',H',f,rfl,Z⟩:∃r' H',Ev tab (.fn Ae) [.c (.f (eC (eI af j) x (jv m r t z n p mi le)))] H r' H'/\(r'=.t [qY (nD n p mi le),vi 0]/\Kp H H'):=by
  refine dm rfl rfl λQ O=>?_;have v:=uN af j x (jv m r t z n p mi le) h0 Y;have L:∃a b c d e,(bI af j r).row=a::b::c ::(cQ++[d,e]):=by
   unfold bI;split<;>(try split)<;>exact⟨_,_,_,_,_,rfl⟩
  obtain⟨a,b,c,d,e,L⟩:=L;change aX tab MC [.c (.f (eC (eI af j) x (jv m r t z n p mi le)))]=Eq (.a ((bI af j r).row.map .f))at v;rw[L]at v;have E:ko 3 (aa 10) (.a (.f a::.f b::.f c ::(List.map C.f cQ++[.f d,.f e])))=aa (.a (cQ.map .f)):=rfl;have B:∀K:aj,aQ K (aa 3) (.c (.f (.fp ([eI af j,x]++(jv m r t z n p mi le).row) 6)))=aa (.a ((qU n p mi le).map .f)):=λK=>rfl;obtain⟨cd,F⟩:=aD ([eI af j,x]++(jv m r t z n p mi le).row);simp only[eC]at v ⊢;rw[<-F]at v B ⊢;have I:(fU n p mi le).row.length=3:=rfl;apply ai;simp;obtain⟨u,q⟩:=aD (H++[bB.box [.f (fi 0),.f (fi 0),.f (fi 0),.f (fi 0),.f (fi 0),.f (fi 0),.f (fi 0),.f (fi 0)] 0]:aj);have M:Kp H u:=by rw[q];exact Kp.push _ _
  have w:u[H.length]?=aa (.box [.f (fi 0),.f (fi 0),.f (fi 0),.f (fi 0),.f (fi 0),.f (fi 0),.f (fi 0),.f (fi 0)] 0):=by rw[q];simp
  rw[<-q];apply ai;simp only[afS,agA,afW]at v;simp[v,E,B,S,I];obtain⟨l,s⟩:=aD (u++[bB.box ((fU n p mi le).row.map .f) 0]:aj);have A:Kp u l:=by rw[s];exact Kp.push _ _
  have q1:l[u.length]?=aa (.box ((fU n p mi le).row.map .f) 0):=by rw[s];simp
  have g:=A.get w;rw[<-s];have U:=M.tr A;apply ak;apply ai;by_cases y:(mi:Int)+le<=1440
  .simp[y];refine al (by simp) ?_;have N:cz l (.ptr H.length 0 0) [.f (fi 0),.f (fi 0),.f (fi 0),.f (fi 0),.f (fi 0),.f (fi 0),.f (fi 0),.f (fi 0)]=aa (l.set H.length (.box [.f (fi 0),.f (fi 0),.f (fi 0),.f (fi 0),.f (fi 0),.f (fi 0),.f (fi 0),.f (fi 0)] 0)):=by simp[cz,g,bp]
   apply ai;simp[N,-aU];refine az (O _ _ _ rfl ?_ ⟨rfl,U.nj (afJ _) _⟩);simp[Km.results,aZ,au g,aO,qY,nD,y]
  .simp[y];refine bc (by simp) ?_;have o:aQ l (aa 3) (.c (.ptr u.length 0 0))=aa (.a [.f (fi p),.f (fi (p*1440+mi)),.f (fi (p*1440+mi+le))]):=by simp[aQ,aw,q1,aO,fU,y,aE.row]
   have N:cz l (.ptr H.length 0 0) [.f (fi 16),.f (fi 0),.f (fi p),.f (fi (p*1440+mi)),.f (fi (p*1440+mi+le)),.f (fi 0),.f (fi 0),.f (fi 0)]=aa (l.set H.length (.box [.f (fi 16),.f (fi 0),.f (fi p),.f (fi (p*1440+mi)),.f (fi (p*1440+mi+le)),.f (fi 0),.f (fi 0),.f (fi 0)] 0)):=by simp[cz,g,bp]
   apply ai;simp[o,N,-aq,-aU];refine az (O _ _ _ rfl ?_ ⟨rfl,U.nj (afJ _) _⟩);simp[Km.results,aZ,au g,aO,qY,nD,y]
 exact⟨H',f,Z⟩
def fF:List aE->Int
 |[]=>0| x::r=>x.to-x.fr+fF r
theorem C7(a b:List aE):fF (a++b)=fF a+fF b:=by
 induction a with
 |nil=>simp[fF]| cons x a d=>simp only[agu,fF,d];omega
theorem EV(g:Tg)(L:List aE)(I:L.length<=1000)(z:∀x∈L,0<=x.fr/\x.fr<=x.to/\x.to<=2000000):aX tab DH [.c (.f (sl g (aC L)))]=Eq (vi (fF L)):=Kf.eq (by
 refine cr rfl rfl λH Q y=>?_;apply ai;simp;apply ai;simp;apply ak;apply ai;simp;refine cD L.length (λj t H'=>(∃J,H'=H++J)/\t.g 6=.c (.f (sl g (aC L)))/\t.g 3=vi (fF (L.take j))/\0<=fF (L.take j)/\fF (L.take j)<=j*2000000) (by omega) (by decide) (by decide) (by simp) (by simp) ⟨⟨[],by simp⟩,by simp,by simp[fF],by simp[fF],by simp[fF]⟩ ?_ ?_
 .rintro j t _ l ⟨⟨J,rfl⟩,m,d,A,B⟩ u q next
  have b:=λH:aj=>bE (H:=H) (bh L) (cW l);have s:L.take (j+1)=L.take j++[L[j]]:=by rw[agC,afB l];rfl
  have v:fF (L.take (j+1))=fF (L.take j)+(L[j].to-L[j].fr):=by rw[s,C7];simp[fF]
  obtain⟨b1,E,F⟩:=z L[j] (afH l);simp[aE.row]at b;refine aI ?_;apply ai;simp[m,u,a7,l,b];refine av (.inl rfl) ?_;simp[d,bg (n:=L[j].to-L[j].fr),bg (n:=fF (L.take j)+(L[j].to-L[j].fr))];refine aA (next _ _ ?_ (by simp[u]) (by simp[q]));exact⟨⟨_,rfl⟩,by simp[m],by simp[v],by omega,by rw[v];omega⟩
 .rintro t _ ⟨⟨J,rfl⟩,m,d,A,B⟩ - -;rw[agc]at d;apply ai;simp[d];refine az (y _ _ ?_);simp)
def bO(l:List aN):List (List FC):=l.map aN.row
@[simp] theorem xh (l:List aN):(bO l).length=l.length:=by simp[bO]
theorem fE(l:List aN):cA 3 (bO l):=cA.map λ_=>rfl
theorem xO{l:List aN}{j:Nat}(b:j<l.length):(bO l)[j]?=aa l[j].row:=by simp[bO,b]
def bJ(k b:Int)(l:List aB):List aN:=(l.filter λs=>decide (s.room=k)&&decide (s.dg=b)).map aB.st
theorem lQ(k d:Int)(a b:List aB):bJ k d (a++b)=bJ k d a++bJ k d b:=by simp[bJ]
theorem G'(g:Tg)(l:List aB)(k m:Int)(hl:l.length<=1000)(H:aj):∃c H',Ev tab (.fn DM) [.c (.f (sl g (an l))),vi k,vi m] H (.c c) H'/\LR H' c 3 (bO (bJ k m l))/\(∀i,bt c=aa i->H.length<=i)/\Kp H H':=by
 obtain⟨r,H',he,c,rfl,h⟩:∃r H',Ev tab (.fn DM) [.c (.f (sl g (an l))),vi k,vi m] H r H'/\∃c,r=.c c/\LR H' c 3 (bO (bJ k m l))/\(∀i,bt c=aa i->H.length<=i)/\Kp H H':=by
  refine dm (C:=λr H'=>∃c,r=.c c/\LR H' c 3 (bO (bJ k m l))/\(∀i,bt c=aa i->H.length<=i)/\Kp H H') Wi rfl λQ hQ=>?_;apply ai;simp;apply ai;simp;apply ak;apply ai;simp;refine cD l.length (λj t J=>t.g 10=.c (.f (sl g (an l)))/\t.g 1=vi k/\t.g 2=vi m/\(bJ k m (l.take j)).length<=j/\∃c,t.g 7=.c c/\LR J c 3 (bO (bJ k m (l.take j)))/\(∀i,bt c=aa i->H.length<=i)/\Kp H J) (by omega) (by decide) (by decide) (by simp) (by simp)
   ⟨by simp,by simp,by simp,by simp[bJ],.f .aK,by simp,by simpa[bJ,bO]using LR.nil H 3,by simp[bt],⟨afJ _,λ_ _=>rfl⟩⟩ ?_ ?_
  .rintro j t J w ⟨u,F,L,e,c,N,W,q,Y⟩ X a next
   have B:=λH:aj=>bE (H:=H) (aR l) (bD w);have A:=λH:aj=>a7 (H:=H) (g:=g) (rows:=an l) (sz:=7) (k:=.i64) (i:=(j:Int)) (by omega) (by simp;omega);simp only[afU]at A;have K:l.take (j+1)=l.take j++[l[j]]:=by rw[agC,afB w];rfl
   obtain⟨s,hs⟩:=aD (l[j]);rw[<-hs]at B K;have f:s.row.length=7:=rfl;obtain⟨b,O⟩:=aD (J.length);obtain⟨v,x⟩:=aD (J++[bB.box (s.row.map .f) 0]);have z:=W.push [bB.box (s.row.map .f) 0];rw[<-x]at z;have y:Kp H v:=by rw[x];exact Y.tr (Kp.push _ _)
   have d:v[b]?=aa (.box (s.row.map .f) 0):=by rw[x,O];simp
   have o:aQ v ab (.c (.ptr b 1 0))=aa (vi s.room):=by simp[aQ,aw,d,aB.row]
   have l2:aQ v ab (.c (.ptr b 2 0))=aa (vi s.dg):=by simp[aQ,aw,d,aB.row]
   have l4:aQ v (aa 3) (.c (.ptr b 4 0))=aa (.a (s.st.row.map .f)):=by simp[aQ,aw,d,aB.row,aN.row,aO]
   refine aI ?_;apply ai;simp[u,X,A,B,f,-aq];rw[<-x,<-O];have skip:(decide (s.room=k)&&decide (s.dg=m))=ag->bJ k m (l.take (j+1))=bJ k m (l.take j):=λh=>by
    rw[K,lQ];simp[bJ,h]
   apply ai;by_cases M:s.room=k
   .by_cases U:s.dg=m
    .have E:bJ k m (l.take (j+1))=bJ k m (l.take j)++[s.st]:=by rw[K,lQ];simp[bJ,M,U]
     simp[F,L,o,l2,M,U,-aq];refine al (by simp) ?_;have Z:=z.push [bB.box (s.st.row.map .f) 0];have d2:(v++[bB.box (s.st.row.map .f) 0])[v.length]?=aa (.box (s.st.row.map .f) 0):=by simp
     obtain⟨c',J2,e1,e2,p,e4⟩:=Z.app (fE _) (by decide) (row:=s.st.row) rfl (bytes:=56) (by simp[bU];omega) d2;have n:s.st.row.length=3:=rfl;refine av (.inl rfl) ?_;simp[N,l4,n,e1,-aq];refine aA (next _ _ ⟨by simp[u],by simp[F],by simp[L],by rw[E];simp;omega,c',by simp,by rw[E];simpa[bO]using e2,λi hi=>?_,?_⟩ (by simp[X]) (by simp[a]))
     .rcases e4 with h|h
      .exact q i (by rw[<-h];exact hi)
      .rw[h]at hi;cases hi;have:=y.1;simp;omega
     .have I:=y.tr (Kp.push v [bB.box (s.st.row.map .f) 0]);refine⟨by have:=p.1;have:=I.1;omega,λi hi=>?_⟩;rw[<-I.2 i hi];have S:i<(v++[bB.box (s.st.row.map .f) 0]).length:=by have:=I.1;omega
      rw[afB S];exact p.2 i _ (afB S) λh=>by have:=q i h;omega
    .simp[F,L,o,l2,M,U,-aq];refine aG (by simp) (aS (aA (next _ _ ?_ (by simp[X]) (by simp[a]))));exact⟨by simp[u],by simp[F],by simp[L],by rw[skip (by simp[U])];omega,c,by simp[N],by rw[skip (by simp[U])];exact z,q,y⟩
   .simp[F,o,M,-aq];refine aG (by simp) (aS (aA (next _ _ ?_ (by simp[X]) (by simp[a]))));exact⟨by simp[u],by simp[F],by simp[L],by rw[skip (by simp[M])];omega,c,by simp[N],by rw[skip (by simp[M])];exact z,q,y⟩
  .rintro t J ⟨u,F,L,e,c,N,W,q,Y⟩ - -;rw[agc]at W;apply ai;simp[N];exact az (hQ _ _ (.c c) rfl (rY (by simp)) ⟨c,rfl,W,q,Y⟩)
 exact⟨c,H',he,h⟩
def lZ(b:Int):List (Int × Int)->Int × Bool
 |[]=>(0,ag)| q::r=>if q.1=b then(q.2,ae)else lZ b r
theorem Oh(af v:Int)(N:FC)(x:aB)(h0:0<=x.room)(W:x.room<=2):aX tab V2 [.c (.f (eC (eI af v) N x))]=Eq (.t [vi (lZ x.dg (bI af v x.room).q).1,vb (lZ x.dg (bI af v x.room).q).2]):=aX.eq (by
 refine bH rfl rfl λQ M=>?_;have l:=uN af v N x h0 W;have Z:(bI af v x.room).q.length<=1:=by unfold bI qn;split<;>(try split)<;>simp
 generalize bI af v x.room=r at *;obtain⟨O,A⟩:=aD ([eI af v,N]++x.row);have a:∀K:aj,aQ K ab (.c (.f (.fp O 4)))=aa (vi x.dg):=λK=>by rw[A];rfl
 simp only[eC]at l ⊢;rw[<-A]at l ⊢;have Y:ko 13 ab (.a (r.row.map .f))=aa (.c (.f (sl r.qg (fW r.q)))):=rfl;have B:∀K:aj,bo K (.f (sl r.qg (fW r.q)))=aa r.q.length:=λK=>by simp[fW]
 obtain⟨res,u⟩:=aD (lZ x.dg r.q);rw[<-u]at M;apply ai;simp;apply ak;apply ai;simp[l,Y,B];refine cD r.q.length (λj t J=>t.g 0=.c (.f (.fp O 0))/\t.g 8=.c (.f (sl r.qg (fW r.q)))/\res=lZ x.dg (r.q.drop j)) (by omega) (by decide) (by decide) (by simp) (by simp) ⟨by simp,by simp,by simpa using u⟩ ?_ ?_
 .rintro j t J U ⟨g0,L,s⟩ S X next
  have m:=λH:aj=>a7 (H:=H) (g:=r.qg) (rows:=fW r.q) (sz:=2) (k:=.i64) (i:=(j:Int)) (by omega) (by simp[fW];omega);have E:=λH:aj=>bE (H:=H) (nH r.q) (rT U);simp only[afU]at m;rw[afL U,lZ]at s;generalize r.q[j]=q at *;obtain⟨b,z⟩:=aD (J.length);refine aI ?_;apply ai;simp[L,S,m,E,-aq];obtain⟨I,y⟩:=aD (J++[bB.box [.f (fi q.1),.f (fi q.2)] 0]);have d:I[b]?=aa (.box [.f (fi q.1),.f (fi q.2)] 0):=by rw[y,z];simp
  have c:aQ I ab (.c (.ptr b 0 0))=aa (vi q.1):=by simp[aQ,aw,d]
  have e:aQ I ab (.c (.ptr b 1 0))=aa (vi q.2):=by simp[aQ,aw,d]
  rw[<-y,<-z];apply ai;simp[g0,c,a,-aq];by_cases F:q.1=x.dg
  .rw[bu F]at s;refine al (by simp[F]) ?_;apply ai;simp[e,-aq];refine az (M _ _ ?_);simp[s]
  .rw[bG F]at s;refine aG (by simp[F]) (aS (aA (next _ _ ⟨by simp[g0],by simp[L],s⟩ (by simp[S]) (by simp[X]))))
 .rintro t J ⟨g0,L,s⟩ - -;rw[agF,lZ]at s;apply ai;simp;refine az (M _ _ ?_);simp[s])
def mC:List Nat:=[1,2,3,4,5,6,10,12,15,20,30,60]
theorem mj{d:Nat}(h:d∈mC):d<=60:=by
 simp only[mC,afZ,agS,or_false]at h;omega
def Cx(s:aN):Int:=match s.cs with
 |⟨_,⟨_,f::_⟩::_,_⟩::_=>f.zq| _=>1
theorem kj.zq{s:aN}{n p mi:Int}(h:kj s n p mi):Cx s=n:=by simp[Cx,h.cs,td,pd]
def m6:Nat->List aN->Nat
 |d,[]=>d| d,s::r=>m6 (agU d (Cx s).toNat) r
theorem Oa{d:Nat}{n p:Int}(b:d∈mC)(h:mP n p):∃e∈mC,e=agU d n.toNat/\aX tab aak [vi (7*(d:Int)),vi n]=Eq (.t [vi (7*(e:Int)),vi 0]):=by
 obtain⟨j,l,m,q⟩:=h;have g:(d,n.toNat)∈Oc:=by
  obtain rfl|rfl|rfl|rfl|rfl|rfl:n=1\/n=2\/n=3\/n=4\/n=5\/n=6:=by omega
  all_goals
   unfold Oc;rw[List.mem_flatMap];exact⟨d,b,by simp⟩
 refine⟨agU d n.toNat,?_,rfl,?_⟩
 .have:n.toNat∈[1,2,3,4,5,6]:=by
   obtain rfl|rfl|rfl|rfl|rfl|rfl:n=1\/n=2\/n=3\/n=4\/n=5\/n=6:=by omega
   all_goals simp
  have key:∀d∈mC,∀k∈[1,2,3,4,5,6],agU d k∈mC:=by decide
  exact key d b _ this
 .have:=Xu g;simp only at this;rw[ag0 (by omega)]at this;simp only[Int.natCast_mul]at this;exact this
theorem EB(g:Tg)(L:List aN)(hl:L.length<=2000)(h:∀s∈L,∃n p mi,kj s n p mi):m6 1 L∈mC/\aX tab DF [.c (.f (sl g (bO L)))]=Eq (.t [vi (15+7*(m6 1 L:Int)),vb ae]):=by
 obtain⟨D,X⟩:=aD (m6 1 L);rw[<-X];obtain⟨r,⟨S,rfl⟩,hp⟩:∃r,(D∈mC/\r=.t [vi (15+7*(D:Int)),vb ae])/\aX tab DF [.c (.f (sl g (bO L)))] r:=by
  refine cN rfl rfl λQ hQ=>?_;apply ai;simp;apply ai;simp;apply ak;apply ai;simp;refine cD L.length (λj t J=>t.g 16=.c (.f (sl g (bO L)))/\t.g 4=vi 0/\∃d,d∈mC/\D=m6 d (L.drop j)/\t.g 5=vi (7*(d:Int))) (by omega) (by decide) (by decide) (by simp) (by simp) ⟨by simp,by simp,1,by simp[mC],by simpa using X,by simp⟩ ?_ ?_
  .rintro j t J o ⟨l,x,d,S,O,v⟩ ha hb next
   rw[afL o,m6]at O;obtain⟨n,p,mi,U⟩:=h L[j] (afH o);have A:=λH:aj=>a7 (H:=H) (g:=g) (rows:=bO L) (sz:=3) (k:=.i64) (i:=(j:Int)) (by omega) (by simp;omega);have f:=λH:aj=>bE (H:=H) (fE L) (xO o);simp only[afU]at A;generalize L[j]=s at *;have d_:s.row.length=3:=rfl;obtain⟨b,Z⟩:=aD (J.length);obtain⟨W,Y⟩:=aD (J++[bB.box (s.row.map .f) 0]);have d1:W[b]?=aa (.box (s.row.map .f) 0):=by rw[Y,Z];simp
   have x0:∀K:aj,K[b]?=W[b]?->aQ K ab (.c (.ptr b 0 0))=aa (.c (.f (sl s.cg (aP s.cs)))):=λK z=>by simp[aQ,aw,z.trans d1,aN.row]
   have x2:∀K:aj,K[b]?=W[b]?->aQ K ab (.c (.ptr b 2 0))=aa (.c (.f (sl s.xg (aC s.xs)))):=λK z=>by simp[aQ,aw,z.trans d1,aN.row]
   have b9:∀K:aj,bo K (.f (sl s.cg (aP s.cs)))=aa 1:=λK=>by rw[U.cs];simp[aP]
   have e9:∀K:aj,bo K (.f (sl s.xg (aC s.xs)))=aa 0:=λK=>by rw[U.xs];cases s.xg<;>rfl
   have b_:∀K:aj,bw K 2 ab (.c (.f (sl s.cg (aP s.cs)))) (vi 0)=aa (.c (.f (.fp [fY n p,fi mi] 0))):=λK=>by rw[U.cs];rfl
   have a_:∀K:aj,aQ K (aa 2) (.c (.f (.fp [fY n p,fi mi] 0)))=aa (.a [.f (fY n p),.f (fi mi)]):=λK=>rfl;have a:=Rt (n:=n) (p:=p) U.sm;change aX tab 214 [.a [.f (fY n p)]]=_ at a;obtain⟨e,he,c_,c⟩:=Oa S U.sm;rw[U.zq,<-c_]at O;refine aI ?_;apply ai;simp[l,ha,A,f,d_,-aq];rw[<-Y,<-Z];apply ak;apply ai;simp[x0 W rfl,b9,-aq];refine cD 1 (λi u K=>u.g 16=.c (.f (sl g (bO L)))/\u.g 17=vi (L.length:Nat)/\u.g 18=vi j/\u.g 7=.c (.ptr b 0 0)/\u.g 23=.c (.f (sl s.cg (aP s.cs)))/\u.g 4=vi 0/\K[b]?=W[b]?/\u.g 5=(if i=0 then vi (7*(d:Int))else vi (7*(e:Int)))) (by omega) (by decide) (by decide) (by simp) (by simp)
    ⟨by simp[l],by simp[hb],by simp[ha],by simp,by simp,by simp[x],rfl,by simp[v]⟩ ?_ ?_
   .rintro i u K hi ⟨l,m,q,g7,E,x,z,v⟩ I a9 N;have d9:i=0:=by omega
    subst d9;simp only[if_true]at v;refine aI ?_;apply ai;simp at I;simp[E,I,b_,a_,-aq];obtain⟨B,y⟩:=aD (K++[bB.box [.f (fY n p),.f (fi mi)] 0]);have m1:B[K.length]?=aa (.box [.f (fY n p),.f (fi mi)] 0):=by rw[y];simp
    have l1:aQ B (aa 1) (.c (.ptr K.length 0 0))=aa (.a [.f (fY n p)]):=by simp[aQ,aw,m1,aO]
    have lb:b<K.length:=by have:=au (z.trans d1);omega
    have n1:B.length=K.length+1:=by rw[y];simp
    rw[<-y];apply ai;simp[l1,a,-aq];obtain⟨K2,F⟩:=aD (B++[bB.box [.f .es,.f (fi 0),.f (fi n),.f (.fs [fi p] 1)] 0]);have m2:K2[B.length]?=aa (.box [.f .es,.f (fi 0),.f (fi n),.f (.fs [fi p] 1)] 0):=by rw[F];simp
    have l2:aQ K2 ab (.c (.ptr B.length 2 0))=aa (vi n):=by simp[aQ,aw,m2]
    have l3:aQ K2 ab (.c (.ptr B.length 1 0))=aa (vi 0):=by simp[aQ,aw,m2]
    rw[<-F];apply ak;apply ai;simp;refine bc (by simp) ?_;refine ak (ai ?_);simp[v,l2,c,-aq];apply ai;have a8:=mj he;simp;refine aG (by simp;omega) (aS ?_);refine av (.inl rfl) ?_;simp[x,l3,-aq];refine aA (N _ _ ⟨by simp[l],by simp[m],by simp[q],by simp[g7],by simp[E],by simp,?_,by simp⟩ (by simp[I]) (by simp[a9]));rw[F,afy (by omega),y,afy lb];exact z
   .rintro u K ⟨l,m,q,g7,E,x,z,v⟩ - -;simp only[Nat.one_ne_zero,if_false]at v;apply ai;simp[g7,x2 K z,e9,-aq];refine cD 0 (λ_ w _=>w.g 16=.c (.f (sl g (bO L)))/\w.g 17=vi (L.length:Nat)/\w.g 18=vi j/\w.g 4=vi 0/\w.g 5=vi (7*(e:Int))) (by omega) (by decide) (by decide) (by simp) (by simp)
     ⟨by simp[l],by simp[m],by simp[q],by simp[x],by simp[v]⟩ (λj t H o=>by omega) ?_
    rintro w M ⟨l,m,q,x,v⟩ - -;exact aA (next _ _ ⟨by simp[l],by simp[x],e,he,O,by simp[v]⟩ (by simp[q]) (by simp[m]))
  .rintro t J ⟨l,x,d,S,O,v⟩ - -;rw[agF,m6]at O;rw[O]at hQ;have a8:=mj S;apply ai;simp[x,v,bg (n:=(15:Int)),bg (n:=(15:Int)+7*(d:Int))];refine az (hQ _ _ _ ⟨S,rfl⟩ ?_);simp[Km.results,aZ];omega
 exact⟨S,hp.eq⟩
theorem Cf:∀{L:List aN} {d:Nat},(∀s∈L,0<=Cx s)->(d:Int) ∣ (m6 d L:Int)/\∀s∈L,Cx s ∣ (m6 d L:Int)
 |[],d,_=>⟨Int.dvd_refl _,λs h=>by simp at h⟩
 |s::r,d,h=>by
  obtain⟨g,l⟩:=Cf (L:=r) (d:=agU d (Cx s).toNat) λx b=>h x (afQ _ b);have h0:=h s afN;refine⟨Int.dvd_trans (Int.natCast_dvd_natCast.2 (Nat.dvd_lcm_left _ _)) g,λx b=>?_⟩;rcases afZ.1 b with rfl|b
  .have j:((Cx x).toNat:Int) ∣ ((agU d (Cx x).toNat:Nat):Int):=Int.natCast_dvd_natCast.2 (Nat.dvd_lcm_right _ _);rw[ag0 h0]at j;exact Int.dvd_trans j g
  .exact l x b
theorem W3{f:Nat}{args:List V}{H:aj}{S:V->aj->Prop}{ps:List P}{res:List iv}{body:aH}(z:tab f=aa ⟨ps,res,body⟩)(y:args.length=ps.length)
  (h:∀Q:Option aH->St->Prop,(∀j s r,(∃b,s.defs=b.map .iM/\gB b s.heap/\Km.results s.aF (oT b s.heap) res=aa r/\S r (oT b s.heap))->Q j s)->WP tab f ab [.code body] ⟨cO ps args .e,[],H⟩ Q):∃r H',Ev tab (.fn f) args H r H'/\S r H':=by
 have l:=h (λ_ s=>∃r,∃b,s.defs=b.map .iM/\gB b s.heap/\Km.results s.aF (oT b s.heap) res=aa r/\S r (oT b s.heap)) λ_ _ r g=>⟨r,g⟩
 obtain⟨n,m,d,j,s,g,r,b,x,v,q,u⟩:=l;exact⟨r,oT b s.heap,tN z y ⟨n,m,d,j,s,g,0,0,_,by rw[x];exact mG v,q,rfl⟩,u⟩
theorem Cr:∀{d:List Nat} {H:aj},(oT d H).length=H.length
 |[],_=>rfl| b::d,H=>by rw[oT,Cr,af7]
theorem Bz{q:Type}{r:q->q->Bool}(b:∀x y,r x y=r y x):∀{l:List q},l.Pairwise (λx y=>r x y=ag)->∀x∈l,∀y∈l,r x y=ae->x=y
 |[],_,x,j,_,_,_=>by cases j
 |a::l,h,x,j,y,u,d=>by
  rcases afZ.1 j with s|v
  .rcases afZ.1 u with g|m
   .rw[s,g]
   .rw[s,agO h m]at d;cases d
  .rcases afZ.1 u with g|m
   .rw[g,b,agO h v]at d;cases d
   .exact Bz b (ahj h) x v y m d
def nY(a b:aB):Bool:=decide (a.meet<b.meet)||(decide (a.meet=b.meet)&&decide (a.room<b.room))
def mX(s:aB):List aB->List aB
 |[]=>[s]| x::r=>if nY s x then s::x::r else x::mX s r
theorem lG(s:aB):∀l:List aB,(mX s l).Perm (l++[s])
 |[]=>.refl _
 |x::r=>by
  simp only[mX];split
  .exact(List.perm_append_comm (l₁:=[s]) (l₂:=x::r))
  .exact(lG s r).cons x
theorem za{a b:aB}:nY a b=ae↔a.meet<b.meet\/a.meet=b.meet/\a.room<b.room:=by simp[nY]
theorem uH(s:aB):∀{l:List aB},l.Pairwise kD->(mX s l).Pairwise kD
 |[],_=>agV _ _
 |x::r,h=>by
  simp only[mX];split
  .rename_i d;rw[za]at d;refine agt.2 ⟨λy b=>?_,h⟩;rcases afZ.1 b with rfl|b
   .unfold kD;omega
   .have:=agO h b;unfold kD at *;omega
  .rename_i d;have g:¬ (s.meet<x.meet\/s.meet=x.meet/\s.room<x.room):=λe=>d (za.2 e);refine agt.2 ⟨λy b=>?_,uH s (ahj h)⟩;have:y∈r++[s]:=(lG s r).mem_iff.1 b;rcases afY.1 this with b|b
   .exact agO h b
   .obtain rfl:=afO.1 b;exact g
def Y7:List aB->List aB
 |[]=>[]| s::r=>mX s (Y7 r)
theorem pe:∀l:List aB,(Y7 l).Perm l
 |[]=>.refl _| s::r=>(lG s _).trans (List.perm_append_comm.trans ((pe r).cons s))
theorem FB:∀l:List aB,(Y7 l).Pairwise kD
 |[]=>.nil| s::r=>uH s (FB r)
def kv(l:List aB):Prop:=l.Pairwise λx y=>cj x y=ag
theorem vY(x y:aB):cj x y=cj y x:=by simp only[cj,eq_comm]
theorem kv.perm{l b:List aB}(h:kv l)(d:b.Perm l):kv b:=(d.pairwise_iff (λ{x y} e=>by rw[vY];exact e)).2 h
theorem zE{l A:List aB}(h:kv l)(b:A.Perm l)(j:A.Pairwise kD):A=Y7 l:=
 vK (b.trans (pe l).symm) j (FB l) λx m y q d g=>Bz (r:=cj) vY h x (b.mem_iff.1 m) y (b.mem_iff.1 q) (pH.2 (by unfold kD at d g;omega))
def fP(x y:aB):Prop:=x.meet<y.meet\/x.meet=y.meet/\x.room<y.room
theorem PF{l:List aB}(h:kv l):(Y7 l).Pairwise fP:=by
 refine List.Pairwise.imp (λ{x y} e=>?_) ((FB l).and (h.perm (pe l)));have b:=e.1;have d:=e.2;unfold kD at b;have g:¬ (x.meet=y.meet/\x.room=y.room):=by simpa[cj]using d
 unfold fP;omega
theorem qV{l0:List aB}:∀{l acc:List aB},kv acc->(∀x∈l0,∀y∈acc,cj x y=ag)->kv (uniq l0 acc l)/\∀x∈l0,∀y∈uniq l0 acc l,cj x y=ag
 |[],acc,h,g=>⟨h,g⟩
 |s::l,acc,h,g=>by
  simp only[uniq];split
  .exact qV h g
  .rename_i j;simp only[Bool.or_eq_true,List.any_eq_true,not_or,not_exists,not_and,Bool.not_eq_true]at j;refine qV (agy.2 ⟨h,agV _ _,λa q b u=>?_⟩) λx m y d=>?_
   .rw[afO.1 u];exact j.2 a q
   .rcases afY.1 d with d|d
    .exact g x m y d
    .rw[afO.1 d];exact j.1 x m
def pU(l0:List aB)(h:bR):List aB:=Y7 (l0++uniq l0 [] (dL h.l))
theorem pB{l0:List aB}(h0:kv l0)(h:bR):kv (l0++uniq l0 [] (dL h.l)):=by
 obtain⟨b,d⟩:=qV (l0:=l0) (l:=dL h.l) (acc:=[]) .nil (by simp);exact agy.2 ⟨h0,b,d⟩
theorem Ch(h:bR):(dL h.l).length<=h.l.length:=by simp only[dL,afT];exact List.length_filter_le _ _
theorem F0{l0:List aB}(h:bR):(pU l0 h).length<=l0.length+h.l.length:=by
 have b:=sk (l0:=l0) (l:=dL h.l) (acc:=[]);have g:=Ch h;have d:=(pe (l0++uniq l0 [] (dL h.l))).length_eq;unfold pU;simp at b d;omega
theorem Ok{h:bR}{s:aB}(b:s∈dL h.l):∃x∈h.l,s=x.aW:=by
 simp only[dL,af6,List.mem_filter]at b;obtain⟨y,⟨d,_⟩,rfl⟩:=b;exact⟨y,d,rfl⟩
theorem F1{l0:List aB}{h:bR}{s:aB}(b:s∈pU l0 h):s∈l0\/∃x∈h.l,s=x.aW:=by
 have:=(pe _).mem_iff.1 b;rcases afY.1 this with e|e
 .exact .inl e
 .rcases xp e with e|e
  .cases e
  .exact .inr (Ok e)
theorem BE:∀cs:List FC,(∀c∈cs,∃k m,c=FC.int k m)->iT (FC.beq 63) cs cs=ae
 |[],_=>rfl
 |c::cs,h=>by
  obtain⟨k,m,rfl⟩:=h c afN;simp only[iT,BE cs λx b=>h x (afQ _ b),Bool.and_true];simp[FC.beq]
theorem ID(g:Tg)(xs:List aE):(V.c (C.f (sl g (aC xs)))).beq (V.c (C.f (sl g (aC xs))))=ae:=by
 show FC.beq 64 (sl g (aC xs)) (sl g (aC xs))=ae;cases xs with
 |nil=>cases g<;>rfl
 |cons x xs=>
  have:sl g (aC (x::xs))=.fs (aC (x::xs)).flatten (aC (x::xs)).length:=by simp[sl,aC]
  rw[this];show((_ == _)&&iT (FC.beq 63) _ _)=ae;rw[BE]
  .simp
  .intro c b;obtain⟨r,d,b⟩:=List.mem_flatten.1 b;obtain⟨y,-,rfl⟩:=af6.1 d;simp only[aE.row,afZ,agS,or_false]at b;rcases b with rfl|rfl|rfl<;>exact⟨_,_,rfl⟩
theorem aaB(k:IntKind)(n:Int):(V.c (C.f (.int k n))).beq (V.c (C.f (.int k n)))=ae:=by simp[V.beq,C.beq,FC.beq]
def om(B:Int)(c:bK):bK:={ c with min:=c.min-B }
def E5(B A:Int)(x:aE):aE:=⟨x.day,x.fr-B,x.to+A⟩
theorem II(g:Tg)(l:List bK)(m:l.length<=64):∃f:aj->C × aj,∀H,Ev tab (.fn DO) [.c (.f (sl g (aP l)))] H=E2 (.c (f H).1) (H++(f H).2)/\LR (H++(f H).2) (f H).1 2 (aP l)/\∀i,bt (f H).1=aa i->H.length<=i:=by
 have h:∀H:aj,∃p:C × aj,Ev tab (.fn DO) [.c (.f (sl g (aP l)))] H=E2 (.c p.1) (H++p.2)/\LR (H++p.2) p.1 2 (aP l)/\∀i,bt p.1=aa i->H.length<=i:=λH=>by
  obtain⟨r,H',j,c,J,rfl,rfl,b,d⟩:=vA (g:=g) (H:=H) (rows:=aP l) Wj (by decide) (cE l) (by simp[bU];omega);exact⟨(c,J),j.eq,b,d⟩
 exact⟨λH=>Classical.choose (h H),λH=>Classical.choose_spec (h H)⟩
theorem Ns(g:Tg)(l:List aE)(m:l.length<=64):∃f:aj->C × aj,∀H,Ev tab (.fn DP) [.c (.f (sl g (aC l)))] H=E2 (.c (f H).1) (H++(f H).2)/\LR (H++(f H).2) (f H).1 3 (aC l)/\∀i,bt (f H).1=aa i->H.length<=i:=by
 have h:∀H:aj,∃p:C × aj,Ev tab (.fn DP) [.c (.f (sl g (aC l)))] H=E2 (.c p.1) (H++p.2)/\LR (H++p.2) p.1 3 (aC l)/\∀i,bt p.1=aa i->H.length<=i:=λH=>by
  obtain⟨r,H',j,c,J,rfl,rfl,b,d⟩:=vA (g:=g) (H:=H) (rows:=aC l) Wl (by decide) (bh l) (by simp[bU];omega);exact⟨(c,J),j.eq,b,d⟩
 exact⟨λH=>Classical.choose (h H),λH=>Classical.choose_spec (h H)⟩
theorem Pv{b s:Type}(row:b->s)(f:b->b)(l:List b)(j:Nat)(d:j<l.length):((l.take j).map (row ∘ f)++(l.drop j).map row).set j (row (f l[j]))=(l.take (j+1)).map (row ∘ f)++(l.drop (j+1)).map row:=by
 have g:l.take (j+1)=l.take j++[l[j]]:=by rw[agC,afB d];rfl
 have m:l.drop j=l[j]::l.drop (j+1):=afL d;have q:((l.take j).map (row ∘ f)).length=j:=by simp;omega
 rw[g,m,agA,afS,List.set_append_right _ _ (by omega),q,Nat.sub_self,List.set_cons_zero];simp
theorem NQ{b m:Type}(row:b->m)(f:b->b)(l:List b)(j:Nat)(d:j<l.length):((l.take j).map (row ∘ f)++(l.drop j).map row)[j]?=aa (row l[j]):=by
 have g:((l.take j).map (row ∘ f)).length=j:=by simp;omega
 rw[afI (by omega),g,Nat.sub_self,afL d];rfl
structure Is(s:aB):Prop where
 r0:0<=s.room
 r1:s.room<=2
 cn:s.st.cs.length<=1
 min:∀c∈s.st.cs,0<=c.min/\c.min<=1180
 l0:1<=s.st.len
 l1:s.st.len<=300
 xs:s.st.xs=[]
def gq(af:Int)(s:aB)(b d:Tg):aN:=⟨b,s.st.cs.map (om 0),s.st.len+0+af,d,[]⟩
theorem Cp(af W:Int)(a0:0<=af)(a1:af<=39)(s:aB)(hs:Is s)(A:∀E F,aX tab Ir [.a ((gq af s E F).row.map .f)]=Eq (vb ae)) :
  ∃E F,aX tab sP [.c (.f (eI af W)),.a (s.row.map .f)]=Eq (.t [.a ((gq af s E F).row.map .f),vb ae]):=by
 obtain⟨r,⟨E,F,rfl⟩,hp⟩:∃r,(∃E F,r=.t [.a ((gq af s E F).row.map .f),vb ae])/\aX tab sP [.c (.f (eI af W)),.a (s.row.map .f)] r:=by
  refine cN rfl rfl λQ hQ=>?_;obtain⟨f3,g_,i7,b9,j8,j9,U⟩:=hs;have j7:s.st.xs.length=0:=by rw[U];rfl
  have hr:=j3 af W f3 g_;have e_:=λH:aj=>a7 (H:=H) (g:=.fs) (rows:=rows (bQ af W)) (sz:=15) (k:=.i64) (i:=s.room) f3 (by simp[bQ];omega);have a_:=λH:aj=>bE (H:=H) (dt (bQ af W)) (j:=s.room.toNat) (row:=(bI af W s.room).row) (by rw[rows,agl,hr];rfl);have Z:(bI af W s.room).jK=0:=by unfold bI;split<;>(try split)<;>rfl
  have Y:(bI af W s.room).oA=af:=by unfold bI;split<;>(try split)<;>rfl
  simp only[bZ.row,afS,afW]at a_;obtain⟨fc,d_⟩:=II s.st.cg s.st.cs (by omega);obtain⟨fx,e9⟩:=Ns s.st.xg s.st.xs (by rw[U];simp);have ec:=λH=>(d_ H).1;have ex:=λH=>(e9 H).1;generalize bI af W s.room=r at hr a_ Z Y;have h_:∀(t:T) (H:aj) (d m:C) (n:Nat),t.g 3=.c (.ptr 0 0 0)->t.g 4=.c (.ptr 1 0 0)->t.g 6=.c (.ptr 2 0 0)->t.g 7=.c (.ptr n 0 0)->2<n->
    H[1]?=aa (.box [.f .aK,.f (fi 0),.f .aK] 0)->H[2]?=aa (.box [.f (fi r.cap),.f (fi r.jK),.f (fi r.oA),.f r.o0,.f r.o1,.f r.o2,.f r.o3,.f r.o4,.f r.o5,.f r.o6,.f r.o7,.f r.o8,.f r.o9,.f (sl r.qg (fW r.q)),.f (sl r.pg (ints r.p))] 0)->
    H[n]?=aa (.box [d,.f (fi (s.st.len+r.jK+r.oA)),m] 0)->LR H d 2 (aP s.st.cs)->LR H m 3 (aC s.st.xs)->(∀i,bt d=aa i->bt m≠aa i)->
    WP tab sP ab [.code LW] ⟨t,[],H⟩ Q:=by
   intro t H d m n g3 X g6 O hn k1 k2 M u v hD;apply ak;apply ai;have L:=u.len;rw[xA]at L;simp[O,M,L];refine cD s.st.cs.length (λj t H=>t.g 3=.c (.ptr 0 0 0)/\t.g 4=.c (.ptr 1 0 0)/\t.g 6=.c (.ptr 2 0 0)/\t.g 7=.c (.ptr n 0 0)/\H[1]?=aa (.box [.f .aK,.f (fi 0),.f .aK] 0)/\H[2]?=aa (.box [.f (fi r.cap),.f (fi r.jK),.f (fi r.oA),.f r.o0,.f r.o1,.f r.o2,.f r.o3,.f r.o4,.f r.o5,.f r.o6,.f r.o7,.f r.o8,.f r.o9,.f (sl r.qg (fW r.q)),.f (sl r.pg (ints r.p))] 0)/\
     H[n]?=aa (.box [d,.f (fi (s.st.len+r.jK+r.oA)),m] 0)/\LR H d 2 ((s.st.cs.take j).map (bK.row ∘ om r.jK)++(s.st.cs.drop j).map bK.row)/\LR H m 3 (aC s.st.xs)) (by omega) (by decide) (by decide) (by simp) (by simp)
    ⟨by simp[g3],by simp[X],by simp[g6],by simp[O],k1,k2,M,by simpa[aP]using u,v⟩ ?_ ?_
   .rintro j t H hj ⟨g3,X,g6,O,k1,k2,M,u,v⟩ ha hb nx;have a9:cA 2 ((s.st.cs.take j).map (bK.row ∘ om r.jK)++(s.st.cs.drop j).map bK.row):=by
     intro x hx;rcases afY.1 hx with hx|hx<;>obtain⟨y,-,rfl⟩:=af6.1 hx<;>rfl
    have z:((s.st.cs.take j).map (bK.row ∘ om r.jK)++(s.st.cs.drop j).map bK.row).length=s.st.cs.length:=by simp;omega
    have a8:=NQ bK.row (om r.jK) s.st.cs j hj;have f7:=Pv bK.row (om r.jK) s.st.cs j hj;have j6:=b9 _ (afH hj);rcases u with⟨e,_⟩|⟨k_,b,ep,I,l⟩
    .have:=congrArg List.length e;rw[z,agQ]at this;omega
    rw[z]at I;have hi:=l.at (i:=j) (by rw[z];exact hj);rw[z,<-I]at hi;have hl:=l.ldc a9 a8 (k:=1) (x:=fi s.st.cs[j].min) rfl;obtain⟨H',e',d9,S,-⟩:=l.stp a9 a8 (k:=1) (xs:=[fi (s.st.cs[j].min-r.jK)]) (by simp);have i_:bp s.st.cs[j].row 1 [fi (s.st.cs[j].min-r.jK)]=(om r.jK s.st.cs[j]).row:=rfl;rw[i_,f7]at d9;have b1:(1:Nat)≠b:=by rintro rfl;unfold RB at l;rw[k1]at l;cases l
    have b2:(2:Nat)≠b:=by rintro rfl;unfold RB at l;rw[k2]at l;cases l
    have bn:n≠b:=by rintro rfl;unfold RB at l;rw[M]at l;cases l
    refine aI ?_;apply ai;simp[ha];refine av (.inl rfl) ?_;simp only[afS,afW]at e';have ln:aQ H ab (.c (.ptr n 0 0))=aa (.c d):=by simp[M]
    have l2:aQ H ab (.c (.ptr 2 1 0))=aa (vi r.jK):=by simp[k2]
    simp[g6,O,ln,l2,hi,hl,-aq,-aU,bg (n:=s.st.cs[j].min-r.jK),e'];refine aA (nx _ _ ⟨by simp[g3],by simp[X],by simp[g6],by simp[O],?_,?_,?_,.inr ⟨?_,b,ep,?_,d9⟩,?_⟩ (by simp[ha]) (by simp[hb]))
    .exact S.get k1 b1
    .exact S.get k2 b2
    .exact S.get M bn
    .intro e;have q:=congrArg List.length e;rw[afK,afT,afT,List.length_take,List.length_drop,agQ]at q;omega
    .rw[I]
     congr 1
     simp;omega
    .exact v.cZ λi y hy hi=>S.get hy (λe=>hD b (by rw[I];rfl) (by rw[<-e];exact hi))
   .rintro t H ⟨g3,X,g6,O,k1,k2,M,u,v⟩ ha hb;rw[agc,agF,afW,agp]at u;apply ak;apply ai;have L:=v.len;rw[kP]at L;simp[O,M,L];refine cD s.st.xs.length (λj t H=>t.g 3=.c (.ptr 0 0 0)/\t.g 4=.c (.ptr 1 0 0)/\t.g 6=.c (.ptr 2 0 0)/\t.g 7=.c (.ptr n 0 0)/\H[1]?=aa (.box [.f .aK,.f (fi 0),.f .aK] 0)/\H[2]?=aa (.box [.f (fi r.cap),.f (fi r.jK),.f (fi r.oA),.f r.o0,.f r.o1,.f r.o2,.f r.o3,.f r.o4,.f r.o5,.f r.o6,.f r.o7,.f r.o8,.f r.o9,.f (sl r.qg (fW r.q)),.f (sl r.pg (ints r.p))] 0)/\
      H[n]?=aa (.box [d,.f (fi (s.st.len+r.jK+r.oA)),m] 0)/\LR H d 2 (s.st.cs.map (bK.row ∘ om r.jK))/\LR H m 3 ((s.st.xs.take j).map (aE.row ∘ E5 r.jK r.oA)++(s.st.xs.drop j).map aE.row)) (by omega) (by decide) (by decide) (by simp) (by simp)
     ⟨by simp[g3],by simp[X],by simp[g6],by simp[O],k1,k2,M,u,by simpa[aC]using v⟩ ?_ ?_
    .intro j t H hj;rw[U]at hj;simp at hj
    .rintro t H ⟨g3,X,g6,O,k1,k2,M,u,v⟩ ha hb;rw[agc,agF,afW,agp]at v;have r1:s.st.cs.map (bK.row ∘ om r.jK)=aP (s.st.cs.map (om r.jK)):=by simp[aP]
     have r2:s.st.xs.map (aE.row ∘ E5 r.jK r.oA)=aC (s.st.xs.map (E5 r.jK r.oA)):=by simp[aC]
     rw[r1]at u;rw[r2]at v;have x1:=u.x;have x2:=v.x;obtain⟨E,b_⟩:=x1.ex (cE _);obtain⟨F,c_⟩:=x2.ex (bh _);have y1:LX (ic deep d H) d 2 (aP (s.st.cs.map (om r.jK))):=x1.mk x1 63;have y2:LX (ic deep d H) m 3 (aC (s.st.xs.map (E5 r.jK r.oA))):=x2.mk x1 63;have z1:LX (ic deep m (ic deep d H)) d 2 (aP (s.st.cs.map (om r.jK))):=y1.mk y2 63;have z2:LX (ic deep m (ic deep d H)) m 3 (aC (s.st.xs.map (E5 r.jK r.oA))):=y2.mk y2 63;have j5:(ic deep d H)[1]?=aa (.box [.f .aK,.f (fi 0),.f .aK] 0):=x1.Tp 63 k1;have N:(ic deep m (ic deep d H))[1]?=aa (.box [.f .aK,.f (fi 0),.f .aK] 0):=y2.Tp 63 j5;have h1:eg deep H d=aa (sl E (aP (s.st.cs.map (om r.jK)))):=b_ H 63 x1;have h2:eg deep H m=aa (sl F (aC (s.st.xs.map (E5 r.jK r.oA)))):=c_ H 63 x2;have ho:gq af s E F=⟨E,s.st.cs.map (om r.jK),s.st.len+r.jK+r.oA,F,s.st.xs.map (E5 r.jK r.oA)⟩:=by rw[Z,Y,U];rfl
     have A:=A E F;rw[ho]at A;simp only[aN.row,afS,afW]at A;apply ai;simp[X,O,M,h1,h2,A,N];generalize ic deep m (ic deep d H)=HM at z1 z2 N ⊢;have f8:=b_ (HM.set 1 (.box [d,.f (fi (s.st.len+r.jK+r.oA)),m] 0)) 63 (z1.set (z1.qN N) _);have f_:=c_ (HM.set 1 (.box [d,.f (fi (s.st.len+r.jK+r.oA)),m] 0)) 63 (z2.set (z2.qN N) _);have j4:(HM.set 1 (.box [d,.f (fi (s.st.len+r.jK+r.oA)),m] 0))[1]?=aa (.box [d,.f (fi (s.st.len+r.jK+r.oA)),m] 0):=afC (au N);refine az (hQ _ _ _ ⟨E,F,rfl⟩ ?_);have hd:deep=63+1:=rfl;rw[ho];simp[X,j4,aN.row,fC,bX,aZ,hd,f8,f_]
  apply ai;simp[aB.row];apply ai;simp[eI,e_,a_];have w1:=bg (n:=s.st.len+r.jK);have w2:=bg (n:=s.st.len+r.jK+r.oA);obtain⟨B,K⟩:=aD ([bB.box [.f (fi s.meet),.f (fi s.room),.f (fi s.dg),.f (fi s.size),.f (sl s.st.cg (aP s.st.cs)),.f (fi s.st.len),.f (sl s.st.xg (aC s.st.xs))] 0,bB.box [.f .aK,.f (fi 0),.f .aK] 0,bB.box [.f (fi r.cap),.f (fi r.jK),.f (fi r.oA),.f r.o0,.f r.o1,.f r.o2,.f r.o3,.f r.o4,.f r.o5,.f r.o6,.f r.o7,.f r.o8,.f r.o9,.f (sl r.qg (fW r.q)),.f (sl r.pg (ints r.p))] 0]);rw[<-K];have j_:B.length=3:=by rw[K];rfl
  have q0:∀J,(B++J)[0]?=aa (bB.box [.f (fi s.meet),.f (fi s.room),.f (fi s.dg),.f (fi s.size),.f (sl s.st.cg (aP s.st.cs)),.f (fi s.st.len),.f (sl s.st.xg (aC s.st.xs))] 0):=λJ=>by rw[K];rfl
  have q1:∀J,(B++J)[1]?=aa (bB.box [.f .aK,.f (fi 0),.f .aK] 0):=λJ=>by rw[K];rfl
  have q2:∀J,(B++J)[2]?=aa (bB.box [.f (fi r.cap),.f (fi r.jK),.f (fi r.oA),.f r.o0,.f r.o1,.f r.o2,.f r.o3,.f r.o4,.f r.o5,.f r.o6,.f r.o7,.f r.o8,.f r.o9,.f (sl r.qg (fW r.q)),.f (sl r.pg (ints r.p))] 0):=λJ=>by rw[K];rfl
  have p0:=q0 [];have p2:=q2 [];rw[agp]at p0 p2;obtain⟨d,I⟩:=aD ((fc B).1);obtain⟨J1,i4⟩:=aD ((fc B).2);have e1:=ec B;have m1:=(d_ B).2;rw[<-I,<-i4]at e1 m1;obtain⟨m,i6⟩:=aD ((fx (B++J1)).1);obtain⟨J2,i5⟩:=aD ((fx (B++J1)).2);have e2:=ex (B++J1);have m2:=(e9 (B++J1)).2;rw[<-i6,<-i5,agk]at e2 m2;refine ak (dy (.inl rfl) ?_ ?_)
  case _=>
   simp[p0,p2,q0,q2,e1,e2,w1,w2];refine h_ _ _ d m _ (by simp) (by simp) (by simp) (by simp;rfl) (by omega) ?_ ?_ ?_ ?_ ?_ ?_
   .exact q1 _
   .exact q2 _
   .rw[<-agk,<-agk,afI (by simp)];have:B.length+(J1.length+J2.length)-(B++J1++J2).length=0:=by simp
    rw[this];rfl
   .have:=(m1.1.push J2).push [bB.box [d,C.f (FC.int IntKind.i64 (s.st.len+r.jK+r.oA)),m] 0];simpa[agk]using this
   .have:=m2.1.push [bB.box [d,C.f (FC.int IntKind.i64 (s.st.len+r.jK+r.oA)),m] 0];simpa[agk]using this
   .intro i i8 i9;have a1:=m1.1.lt i8;have a2:=m2.2 i i9;omega
  .intro c hc;simp only[afZ,agS,or_false]at hc;rcases hc with rfl|rfl|rfl|rfl|rfl|rfl|rfl
   iterate 6
    .refine⟨by decide,_,rfl,.inl ⟨by decide,?_⟩⟩;simp[p0,p2,q0,q2,e1,e2,fO,aaB]
   .refine⟨by decide,_,rfl,.inr ⟨by decide,?_⟩⟩;simp[p0,p2,q0,q2,e1,e2,fO,ID]
 exact⟨E,F,aX.eq hp⟩
def Fs(af b:Int)(i k:Int):Bool:=gu i.toNat k.toNat (bI af b i) (bI af b k)
theorem CO(af b i:Int):(bI af b i).p.length<=64:=by unfold bI qn;split<;>(try split)<;>simp
theorem R'(af b i k:Int)(h0:0<=i)(m:i<=2)(j:0<=k)(q:k<=2):aX tab DJ [.c (.f (eI af b)),vi i,vi k]=Eq (vb (Fs af b i k)):=by
 have s:(bQ af b).length=3:=rfl;have hi:i.toNat<(bQ af b).length:=by omega
 have l:k.toNat<(bQ af b).length:=by omega
 have d:(bQ af b)[i.toNat]=bI af b i:=ahg ((afB hi).symm.trans (j3 af b h0 m));have g:(bQ af b)[k.toNat]=bI af b k:=ahg ((afB l).symm.trans (j3 af b j q));have:=(Ks .fs (bQ af b) i.toNat k.toNat hi l (by rw[d];exact CO ..) (by rw[g];exact CO ..)).eq;rw[d,g,ag0 h0,ag0 j]at this;exact this
theorem Fu(a b:FC)(r:Int):aX tab V4 [.c (.f a),.c (.f b),vi r]=Eq (.c (.f (.fn sQ [.fp [b] 0,.fp [a] 0,.fp [fi r] 0]))):=by
 refine aX.eq (bH rfl rfl λQ d=>?_);apply ai;simp;apply ai;simp;refine az (d _ _ ?_);simp[deep]
theorem Je{b:Type}{l:List b}{j:Nat}(d:j<l.length)(p:b->Bool):(l.take (j+1)).filter p=(l.take j).filter p++(if p l[j]then [l[j]]else []):=by
 rw[agC,afB d,aho];simp[List.filter_cons]
theorem CX{b:Nat}{H:aj}{PP:List aB->aj->Prop}{RR:List aB->aB->aj->Prop}(rm:FC)(g':Tg)(l:List aB)(hl:l.length<=1000)(k:Int)(m:aB->Bool)
  (a9:∀s∈l,aX tab DJ [.c (.f rm),vi s.room,vi k]=Eq (vb (m s)))
  (h0:PP [] H) (hp:∀d H J,PP d H->PP d (H++J))
  (hy:∀(d:List aB) (s:aB) (H:aj),PP d H->s∈l->∃(r:Bool) (H':aj),Ev tab (.yield b) [.a (s.row.map .f)] H (vb r) H'/\(if r then PP (d++[s]) H' else RR d s H')) :
  ∃H',Ev tab (.fn sQ) [.c (.yl b),.c (.f (.fp [sl g' (an l)] 0)),.c (.f (.fp [rm] 0)),.c (.f (.fp [fi k] 0))] H (.t []) H'/\(PP (l.filter m) H'\/∃d s rest,l.filter m=d++s::rest/\RR d s H'):=by
 obtain⟨r,H',L,rfl,h⟩:∃r H',Ev tab (.fn sQ) [.c (.yl b),.c (.f (.fp [sl g' (an l)] 0)),.c (.f (.fp [rm] 0)),.c (.f (.fp [fi k] 0))] H r H'/\(r=.t []/\(PP (l.filter m) H'\/∃d s rest,l.filter m=d++s::rest/\RR d s H')):=by
  refine dm rfl rfl λQ hQ=>?_;apply ai;simp[tU];refine cD l.length (λj t H'=>t.g 0=.c (.yl b)/\t.g 1=.c (.f (.fp [sl g' (an l)] 0))/\t.g 2=.c (.f (.fp [rm] 0))/\t.g 3=.c (.f (.fp [fi k] 0))/\t.g 7=.c (.f (sl g' (an l)))/\PP ((l.take j).filter m) H') (by omega) (by decide) (by decide) (by simp) (by simp)
   ⟨by simp,by simp,by simp,by simp,by simp,by simpa using h0⟩ ?_ ?_
  .rintro j t H' U ⟨g0,g1,M,N,Y,z⟩ Z hb next
   have u:=λH:aj=>bE (H:=H) (aR l) (bD U);have A:=λH:aj=>a7 (H:=H) (g:=g') (rows:=an l) (sz:=7) (k:=.i64) (i:=(j:Int)) (by omega) (by simp;omega);simp only[afU]at A;have y:=a9 l[j] (afH U);have K:=Je U m;have B:=afH U;have q:l.filter m=(l.take j).filter m++((l[j]::l.drop (j+1)).filter m):=by
    rw[<-aho,<-afL U,agI]
   obtain⟨s,a_⟩:=aD (l[j]);rw[<-a_]at u y K B q;obtain⟨row,v⟩:=aD (s.row.map C.f);have I:row.length=7:=by rw[v];rfl
   have a8:∃x,row[1]?=aa x/\x=.f (fi s.room):=⟨_,by rw[v];rfl,rfl⟩
   rw[<-v]at u;obtain⟨b6,S⟩:=aD (H'.length);obtain⟨X,E⟩:=aD (H'++[bB.box row 0]);have F:=hp _ _ [bB.box row 0] z;rw[<-E]at F;have k1:X[b6]?=aa (.box row 0):=by rw[E,S];simp
   have l7:aQ X (aa 7) (.c (.ptr b6 0 0))=aa (.a row):=by simp[aQ,aw,k1,aO,I,afM (Nat.le_of_eq I)]
   have l1:aQ X ab (.c (.ptr b6 1 0))=aa (vi s.room):=by
    obtain⟨x,hx,rfl⟩:=a8;rw[v]at k1;simp[aQ,aw,k1,aB.row,aO]
   refine aI ?_;apply ai;simp[Y,Z,A,u,I,-aq];rw[<-E,<-S];apply ak;cases W:m s
   .rw[W]at y;refine av (.inl rfl) ?_;simp[M,N,tU,l1,y,-aq];refine aG (by simp) (aS (aA (next _ _ ⟨by simp[g0],by simp[g1],by simp[M],by simp[N],by simp[Y],?_⟩ (by simp[Z]) (by simp[hb]))));rw[K];simpa[W]using F
   .rw[W]at y;obtain⟨r,H2,L,O⟩:=hy _ s X F B;have L:=L.eq;rw[<-v]at L;refine av (.inl rfl) ?_;simp[g0,M,N,tU,l1,l7,y,L,-aq];cases r with
    |true=>
     refine aG (by simp) (aS (aA (next _ _ ⟨by simp[g0],by simp[g1],by simp[M],by simp[N],by simp[Y],?_⟩ (by simp[Z]) (by simp[hb]))));rw[K];simpa[W]using O
    |false=>
     refine al (by simp) (az (hQ _ _ (.t []) rfl rfl ⟨rfl,.inr ⟨_,s,(l.drop (j+1)).filter m,?_,by simpa using O⟩⟩));rw[q,List.filter_cons,W];rfl
  .rintro t H' ⟨g0,g1,M,N,Y,z⟩ Z hb;rw[agc]at z;exact dY (hQ _ _ (.t []) rfl rfl ⟨rfl,.inl z⟩)
 exact⟨H',L,h⟩
theorem zB(af g i:Int)(x:aE):aX tab V5 [.a ((bI af g i).row.map .f),.a (x.row.map .f)]=Eq (.a [.f (fi x.day),.f (fi (IntKind.i64.wrap x.fr)),.f (fi (IntKind.i64.wrap (x.to-af)))]):=by
 have d:(bI af g i).jK=0:=by unfold bI;split<;>(try split)<;>rfl
 have b:(bI af g i).oA=af:=by unfold bI;split<;>(try split)<;>rfl
 refine aX.eq (bH rfl rfl λQ j=>?_);generalize bI af g i=r at *;apply ai;simp[bZ.row,aE.row];apply ai;simp[d,b];refine az (j _ _ ?_);simp[fC,bX,aZ]
def pj(s:aN):List C:=[.f (sl s.cg (aP s.cs)),.f (fi s.len),.f (sl s.xg (aC s.xs))]
def Mh(c d:bK)(k:Int):Prop:=∃x,0<=x/\fu c.ts (x+max 0 (-k))/\fu d.ts (x+max 0 k)
theorem Gb{a b:aN}{p:Pr}(d:qC a b p):(∃x,0<=x/\fu p.xs x/\fu p.ys x)↔Mh p.c p.d p.k:=by
 constructor
 .rintro⟨x,h0,g,j⟩;exact⟨x,h0,(d.xm x h0).1 g,(d.ym x h0).1 j⟩
 .rintro⟨x,h0,g,j⟩;exact⟨x,h0,(d.xm x h0).2 g,(d.ym x h0).2 j⟩
def mM(a b:aN):Prop:=∃c∈a.cs,∃d∈b.cs,∃k,vZ a.len b.len c d<=k/\k<=vT a.len b.len c d/\Mh c d k
structure Dj(a b:aN)(bs:List Nat)(J:aj):Prop where
 h0:J[0]?=aa (.box (pj a) 0)
 h1:J[1]?=aa (.box (pj b) 0)
 h2:∃v:Bool,J[2]?=aa (.box [.f (.bool v)] 0)
 h3:∃n:Int,J[3]?=aa (.box [.f (fi n)] 0)
 cl:gB bs J
theorem Dj.cZ{a b:aN}{g:List Nat}{J J':aj}(h:Dj a b g J)(d:∀i:Nat,i<J.length->J'[i]?=J[i]?):Dj a b g J':=by
 obtain⟨v,h2⟩:=h.h2;obtain⟨n,h3⟩:=h.h3;exact⟨by rw[d 0 (au h.h0)];exact h.h0,by rw[d 1 (au h.h1)];exact h.h1,⟨v,by rw[d 2 (au h2)];exact h2⟩,⟨n,by rw[d 3 (au h3)];exact h3⟩,⟨h.cl.nd,λi hi=>by rw[d i (au (h.cl.on i hi))];exact h.cl.on i hi⟩⟩
theorem Dj.set{a b:aN}{d:List Nat}{J:aj}(h:Dj a b d J){i:Nat}{y:bB}(hi:J[i]?=aa y)(h3:4<=i)(hy:y≠.gI ae)(z:bB):Dj a b d (J.set i z):=by
 obtain⟨v,g⟩:=h.h2;obtain⟨n,j⟩:=h.h3;exact⟨by rw[ae2 (by omega)];exact h.h0,by rw[ae2 (by omega)];exact h.h1,⟨v,by rw[ae2 (by omega)];exact g⟩,⟨n,by rw[ae2 (by omega)];exact j⟩,h.cl.set hi hy⟩
theorem Dj.tell{a b:aN}{j:List Nat}{J:aj}(h:Dj a b j J)(v:Bool)(n:Int) :
  cz J (.ptr 2 0 0) [.f (.bool v)]=aa (J.set 2 (.box [.f (.bool v)] 0))/\cz (J.set 2 (.box [.f (.bool v)] 0)) (.ptr 3 0 0) [.f (fi n)]=aa ((J.set 2 (.box [.f (.bool v)] 0)).set 3 (.box [.f (fi n)] 0))/\
   gB j ((J.set 2 (.box [.f (.bool v)] 0)).set 3 (.box [.f (fi n)] 0))/\((J.set 2 (.box [.f (.bool v)] 0)).set 3 (.box [.f (fi n)] 0))[2]?=aa (.box [.f (.bool v)] 0)/\((J.set 2 (.box [.f (.bool v)] 0)).set 3 (.box [.f (fi n)] 0))[3]?=aa (.box [.f (fi n)] 0):=by
 obtain⟨w,g⟩:=h.h2;obtain⟨m,l⟩:=h.h3;have d:(J.set 2 (.box [.f (.bool v)] 0))[3]?=aa (.box [.f (fi m)] 0):=by rw[ae2 (by omega)];exact l
 refine⟨by simp[cz,g,bp],by simp[cz,d,bp],(h.cl.set g (by simp)).set d (by simp),?_,afC (au d)⟩;rw[ae2 (by omega)];exact afC (au g)
theorem NG(a b:aN)(ha:pT a)(hb:pT b):∃r:Bool,(r=ae↔mM a b)/\aX tab iz [.a (a.row.map .f),.a (b.row.map .f)]=Eq (.t [vb r,vi 0]):=by
 have key:∃v,(∃r:Bool,(r=ae↔mM a b)/\v=.t [vb r,vi 0])/\aX tab iz [.a (a.row.map .f),.a (b.row.map .f)] v:=by
  refine zr adA rfl λQ hQ=>?_;have i5:=(lI a ha.sm).eq;rw[ha.v]at i5;simp[aN.row]at i5;have i6:=(lI b hb.sm).eq;rw[hb.v]at i6;simp[aN.row]at i6;obtain⟨n9,rfl,i7⟩:=Bx a b ha.xs;obtain⟨n_,rfl,i8⟩:=Bx b a hb.xs;simp only[aN.row,afS,afW]at i7 i8;have i4:=yM a b;simp only[aN.row,afS,afW]at i4;have la:∀(N:List Nat) (J:aj),Dj a b N J->aQ J (aa 3) (.c (.ptr 0 0 0))=aa (.a [.f (sl a.cg (aP a.cs)),.f (fi a.len),.f (sl a.xg (aC a.xs))])/\aQ J (aa 3) (.c (.ptr 1 0 0))=aa (.a [.f (sl b.cg (aP b.cs)),.f (fi b.len),.f (sl b.xg (aC b.xs))]):=λN J h=>by refine⟨?_,?_⟩<;>simp[aQ,aw,h.h0,h.h1,pj,aO]
  have i9:∀(t:T) (J:aj) (N:List Nat) (v:Bool),t.g 4=.c (.ptr 2 0 0)->t.g 5=.c (.ptr 3 0 0)->(v=ae↔mM a b)->gB N J->J[2]?=aa (.box [.f (.bool v)] 0)->J[3]?=aa (.box [.f (fi 0)] 0)->∀j,Q j ⟨t,N.map .iM,J⟩:=by
   intro t J N v Z g5 hv f7 F h3 j;refine hQ _ _ _ ⟨v,hv,rfl⟩ ⟨N,rfl,f7,.t [vb v,vi 0],?_,by simp[fC,bX,aZ]⟩;have d2:=(jY (f7.not F (by simp))).trans F;have d3:=(jY (f7.not h3 (by simp))).trans h3;simp[Km.results,cu,aZ,Z,g5,d2,d3]
  apply ai;simp[aN.row];obtain⟨J0,b9⟩:=aD ([.box (pj a) 0,.box (pj b) 0,.box [.f (.bool ag)] 0,.box [.f (fi 0)] 0]:aj);have X:Dj a b [] J0:=by rw[b9];exact⟨rfl,rfl,⟨_,rfl⟩,⟨_,rfl⟩,⟨by simp,by simp⟩⟩
  have l0:J0.length=4:=by rw[b9];rfl
  unfold pj at b9;rw[<-b9];apply ak;apply ai;simp[(la _ _ X).1,(la _ _ X).2,-aq,i5,i6];refine bc (by simp) ?_;apply ak;apply ai;have j_:∀(t:T) (J:aj) (N:List Nat),t.g 2=.c (.ptr 0 0 0)->t.g 3=.c (.ptr 1 0 0)->t.g 4=.c (.ptr 2 0 0)->t.g 5=.c (.ptr 3 0 0)->Dj a b N J->(∀c∈a.cs,∀d∈b.cs,∀k,vZ a.len b.len c d<=k->k<=vT a.len b.len c d->¬ Mh c d k)->
    WP tab iz ab [.code FP] ⟨t,N.map .iM,J⟩ Q:=by
   intro t J N g2 g3 Z g5 hq g_;obtain⟨n3,k3⟩:=hq.h3;have n8:4<=J.length:=by have:=au k3;omega
   obtain⟨l,e_⟩:=aD (J.length);apply ai;simp;rw[<-e_];obtain⟨HA,a_⟩:=aD (J++[bB.box [.f (.bool ag)] 0]);rw[<-a_];have kq:Dj a b N HA:=hq.cZ λi hi=>by rw[a_,afy hi]
   have kl:HA[l]?=aa (.box [.f (.bool ag)] 0):=by rw[a_,e_];simp
   have kn:HA.length=l+1:=by rw[a_,e_];simp
   apply ak;apply ai;simp[g2,g3,(la _ _ kq).1,(la _ _ kq).2,-aq,i4];refine aI ?_
   suffices go:∀u:T,u.g 4=.c (.ptr 2 0 0)->u.g 5=.c (.ptr 3 0 0)->u.g 9=.c (.ptr l 0 0)->u.g 44=.c (.f (.fn mb [.fp a.row 0,.fp b.row 0]))->
     WP tab iz ab [.code QC,.inBlock 2,.code QD] ⟨u,N.map .iM,HA⟩ Q by exact go _ (by simp[Z]) (by simp[g5]) (by simp) (by simp[aN.row])
   clear g2 g3 Z g5 t;intro u Z g5 g9 l_;obtain⟨S,B⟩:∃S:fe->Option aH->bB,S=λst pd=>.lp iz u [P.nat 45] iw iy st pd (l+1):=⟨_,rfl⟩
   obtain⟨m,y⟩:=aD (HA++[.gI ae,S .ready ab]);have q4:m[l+1]?=aa (.gI ae):=by rw[y,afI (by omega),kn];simp
   have q5:m[l+1+1]?=aa (S .ready ab):=by rw[y,afI (by omega),kn];simp
   have qk:∀i:Nat,i<HA.length->m[i]?=HA[i]?:=λi hi=>by rw[y,afy hi]
   have j7:l+1 ∉ N:=λhb=>by have:=au (kq.cl.on _ hb);omega
   have qq:=kq.cZ qk;have z:Dj a b ((l+1)::N) m:=⟨qq.h0,qq.h1,qq.h2,qq.h3,⟨List.nodup_cons.2 ⟨j7,qq.cl.nd⟩,λb hb=>by
    rcases afZ.1 hb with rfl|hb
    .exact q4
    .exact qq.cl.on b hb⟩⟩
   have ql:m[l]?=aa (.box [.f (.bool ag)] 0):=by rw[qk l (by omega)];exact kl
   have m9:m.length=l+3:=by rw[y,afK,kn];rfl
   obtain⟨H2,he,W⟩:=qI (bb:=l+1+1) (H:=m) a b ha hb (λps J=>m.length<=J.length/\(∀i:Nat,i<m.length->i≠l->J[i]?=m[i]?)/\∃v:Bool,J[l]?=aa (.box [.f (.bool v)] 0)/\(v=ae↔∃p∈ps,Mh p.c p.d p.k))
    (λ_ _=>False) ⟨afJ _,λ_ _ _=>rfl,ag,ql,by simp⟩
    (λps J J' ⟨h1,F,v,h3,h4⟩ hk hl=>⟨by omega,λi hi O=>by rw[hk i hi];exact F i hi O,v,by rw[hk l (by omega)];exact h3,h4⟩)
    (λps p J ⟨h1,F,v,h3,h4⟩ hl A=>by
     have K:J[l+1+1]?=aa (S .ready ab):=by rw[F _ (au q5) (by omega)];exact q5
     rw[B]at K;have j8:=g_ p.c A.ca p.d A.db p.k A.lo A.hi;have i_:=RI p.gx p.gy p.xs p.ys A.xo A.yo λx h0 hx=>j8 ((Gb A).1 ⟨x,h0,hx⟩);have a9:=yL;change aX tab SV [.a [.f .aK]]=Eq (vb ae)at a9;obtain⟨em,e9⟩:=aD (ae:Bool);rw[<-e9]at a9;have I:em=ag↔Mh p.c p.d p.k:=by rw[e9];exact⟨λh=>(by cases h),λh=>absurd h j8⟩
     refine⟨ae,?_⟩;obtain⟨r,J',f_,rfl,hr⟩:∃r J',Ev tab (.yield (l+1+1)) [.a p.row] J r J'/\(r=vb ae/\(m.length<=J'.length/\(∀i:Nat,i<m.length->i≠l->J'[i]?=m[i]?)/\J'[l]?=aa (.box [.f (.bool (v||!em))] 0))/\J.length<=J'.length/\∀i:Nat,m.length<=i->i<J.length->J'[i]?=J[i]?):=by
      refine jN (tab:=tab) (b:=l+1+1) (args:=[.a p.row]) (H:=J) K rfl λQ' c_=>?_;obtain⟨Y,U⟩:=aD (J.length);have h_:p.row.length=8:=rfl;refine av (.inr rfl) ?_;simp[h_];rw[<-U];obtain⟨J1,L⟩:=aD (J++[bB.box p.row 0]);rw[<-L];have k1:∀i:Nat,i<J.length->J1[i]?=J[i]?:=λi hi=>by rw[L,afy hi]
      have d1:J1[Y]?=aa (.box p.row 0):=by rw[L,U];simp
      have n1:J1.length=Y+1:=by rw[L,U];simp
      have e5:J1[l+1+1]?=aa (.lp iz u [P.nat 45] iw iy .ready ab (l+1)):=by rw[k1 _ (au K)];exact K
      refine rK e5 ?_;obtain⟨E,s⟩:=aD (J1.set (l+1+1) (.lp iz u [P.nat 45] iw iy .busy ab (l+1)));rw[<-s];have k2:∀i:Nat,i<J.length->i≠l+1+1->E[i]?=J[i]?:=λi hi O=>by rw[s,ae2 (Ne.symm O),k1 i hi]
      have d2:E[Y]?=aa (.box p.row 0):=by rw[s,ae2 (by have:=au K;omega)];exact d1
      have f5:E[l+1+1]?=aa (.lp iz u [P.nat 45] iw iy .busy ab (l+1)):=by rw[s];exact afC (au e5)
      have n2:E.length=Y+1:=by rw[s,af7];exact n1
      have v2:E[l]?=aa (.box [.f (.bool v)] 0):=by rw[k2 l (by omega) (by omega)];exact h3
      unfold Pr.row at d2;have c5:aQ E (aa 1) (.c (.ptr Y 5 0))=aa (.a [.f (sl p.gx (aT p.xs))]):=by simp[aQ,aw,d2,aO]
      have c6:aQ E (aa 1) (.c (.ptr Y 6 0))=aa (.a [.f (sl p.gy (aT p.ys))]):=by simp[aQ,aw,d2,aO]
      obtain⟨bm,j4⟩:=aD (E.length);refine aI ?_;refine ak (av (.inr rfl) ?_);simp[c5,c6,-aq,i_];rw[<-j4];obtain⟨J3,b_⟩:=aD (E++[bB.box [.f (FC.aK)] 0]);rw[<-b_];have k3:∀i:Nat,i<E.length->J3[i]?=E[i]?:=λi hi=>by rw[b_,afy hi]
      have m3:J3[bm]?=aa (.box [.f (FC.aK)] 0):=by rw[b_,j4];simp
      have v3:J3[l]?=aa (.box [.f (.bool v)] 0):=by rw[k3 l (by omega)];exact v2
      have m4:J3[l+1+1]?=aa (.lp iz u [P.nat 45] iw iy .busy ab (l+1)):=by rw[k3 _ (au f5)];exact f5
      have lv:aQ J3 ab (.c (.ptr l 0 0))=aa (vb v):=by simp[aQ,aw,v3]
      have lm:aQ J3 (aa 1) (.c (.ptr bm 0 0))=aa (.a [.f (FC.aK)]):=by simp[aQ,aw,m3,aO]
      have sv:∀w:Bool,cz J3 (.ptr l 0 0) [.f (.bool w)]=aa (J3.set l (.box [.f (.bool w)] 0)):=λw=>by simp[cz,v3,bp]
      apply ak;refine ak (av (.inr rfl) ?_);simp;refine bc (by simp) ?_;refine av (.inr rfl) ?_;have d_:∀t':T,WP tab iz (aa (l+1+1)) [.inBlock 3] ⟨t',[],J3.set l (.box [.f (.bool (v||!em))] 0)⟩ Q':=λt'=>by
       have s5:(J3.set l (.box [.f (.bool (v||!em))] 0))[l+1+1]?=aa (.lp iz u [P.nat 45] iw iy .busy ab (l+1)):=by rw[ae2 (by omega)];exact m4
       have n3:J3.length=Y+2:=by rw[b_,afK,n2];rfl
       refine aA (dY (c_ _ _ _ _ _ _ _ _ _ _ rfl s5 ⟨rfl,⟨?_,λi hi O=>?_,?_⟩,?_,λi h1 F=>?_⟩))
       .rw[af7,af7,n3];omega
       .by_cases e:i=l+1+1
        .subst e;rw[afC (au s5)];rw[q5,B];rfl
        .rw[ae2 (Ne.symm e),ae2 (Ne.symm O),k3 i (by omega),k2 i (by omega) e];exact F i hi O
       .rw[ae2 (by omega)];exact afC (au v3)
       .rw[af7,af7,n3];omega
       .rw[ae2 (by omega),ae2 (by omega),k3 i (by omega),k2 i (by omega) (by omega)]
      cases v with
      |true=>
       simp[g9,lv,sv,-aq,-aU];exact d_ _
      |false=>
       simp[g9,lv,lm,sv,-aq,-aU,a9];exact d_ _
     refine⟨J',f_,?_⟩;simp only[if_true];refine⟨⟨hr.1.1,hr.1.2.1,_,hr.1.2.2,?_⟩,hr.2⟩;simp only[Bool.or_eq_true,Bool.not_eq_true',I,h4,afY,afO];constructor
     .rintro(⟨q,hq,h⟩|h)
      .exact⟨q,.inl hq,h⟩
      .exact⟨p,.inr rfl,h⟩
     .rintro⟨q,hq|rfl,h⟩
      .exact .inl ⟨q,hq,h⟩
      .exact .inr h)
   have f8:Ev tab (.fn mb) [.c (.yl (HA.length+1)),.c (.f (.fp a.row 0)),.c (.f (.fp b.row 0))] (HA++[.gI ae,.lp iz u [P.nat 45] iw iy .ready ab HA.length]) (.t []) H2:=by
    have e:HA++[.gI ae,.lp iz u [P.nat 45] iw iy .ready ab HA.length]=m:=by rw[y,B,kn]
    rw[e,kn];exact he
   refine mZ (g:=mb) (by rw[Iv,l_];simp[cL]) f8 ?_;rw[kn];rcases W with⟨ps,⟨j6,M,v,hv,j5⟩,j9,a8⟩|⟨_,_,h⟩
   case inr=>exact h.elim
   have K:H2[l+1+1]?=aa (S .ready ab):=by rw[M _ (au q5) (by omega)];exact q5
   obtain⟨w2,z2⟩:=z.h2;obtain⟨w3,z3⟩:=z.h3;have m_:l ∉ (l+1)::N:=λh=>by
    have:=z.cl.on _ h;rw[ql]at this;cases this
   have pq:Dj a b ((l+1)::N) H2:=⟨by rw[M 0 (by omega) (by omega)];exact z.h0,by rw[M 1 (by omega) (by omega)];exact z.h1,⟨w2,by rw[M 2 (by omega) (by omega)];exact z2⟩,⟨w3,by rw[M 3 (by omega) (by omega)];exact z3⟩,
    ⟨z.cl.nd,λi hi=>by rw[M i (au (z.cl.on i hi)) (λe=>m_ (e▸hi))];exact z.cl.on i hi⟩⟩
   rw[B]at K;refine oN K (by decide) ?_;have eq:=pq.set K (by omega) (by simp) (.lp iz u [P.nat 45] iw iy .exhausted ab (l+1));have ev:(H2.set (l+1+1) (.lp iz u [P.nat 45] iw iy .exhausted ab (l+1)))[l]?=aa (.box [.f (.bool v)] 0):=by rw[ae2 (by omega)];exact hv
   generalize H2.set (l+1+1) (.lp iz u [P.nat 45] iw iy .exhausted ab (l+1))=H3 at eq ev ⊢;obtain⟨s1,s2,s3,s4,s6⟩:=eq.tell v 0;have lv:aQ H3 ab (.c (.ptr l 0 0))=aa (vb v):=by simp[aQ,aw,ev]
   refine aA ?_;apply ai;simp[Z,g5,g9,lv,s1,s2,-aq,-aU];refine az (i9 _ _ _ v (by simp[Z]) (by simp[g5]) ?_ s3 s4 s6 _);rw[j5];constructor
   .rintro⟨p,A,h⟩;have:=j9 p A;exact⟨p.c,this.ca,p.d,this.db,p.k,this.lo,this.hi,h⟩
   .rintro⟨c,hc,d,hd,k,h1,F,h⟩;obtain⟨p,A,rfl,rfl,rfl⟩:=a8 c hc d hd k h1 F;exact⟨p,A,h⟩
  have early:∀t:T,t.g 2=.c (.ptr 0 0 0)->t.g 3=.c (.ptr 1 0 0)->t.g 4=.c (.ptr 2 0 0)->t.g 5=.c (.ptr 3 0 0)->WP tab iz ab [.code QA] ⟨t,[],J0⟩ Q:=by
   intro t g2 g3 Z g5;apply ak;apply ai;simp[g2,g3,(la _ _ X).1,(la _ _ X).2,-aq,i4];refine aI ?_
   suffices go:∀u:T,u.g 2=.c (.ptr 0 0 0)->u.g 3=.c (.ptr 1 0 0)->u.g 4=.c (.ptr 2 0 0)->u.g 5=.c (.ptr 3 0 0)->u.g 31=.c (.f (.fn mb [.fp a.row 0,.fp b.row 0]))->
     WP tab iz ab [.code QB,.inBlock 0,.code FP] ⟨u,([]:List Nat).map .iM,J0⟩ Q by exact go _ (by simp[g2]) (by simp[g3]) (by simp[Z]) (by simp[g5]) (by simp[aN.row])
   clear g2 g3 Z g5 t;intro u g2 g3 Z g5 k_;obtain⟨S,B⟩:∃S:fe->Option aH->bB,S=λst pd=>.lp iz u [P.nat 32] np nq st pd 4:=⟨_,rfl⟩
   obtain⟨m,y⟩:=aD (J0++[.gI ae,S .ready ab]);have q4:m[4]?=aa (.gI ae):=by rw[y,afI (by omega),l0];simp
   have q5:m[5]?=aa (S .ready ab):=by rw[y,afI (by omega),l0];simp
   have qq:=X.cZ (J':=m) λi hi=>by rw[y,afy hi]
   have z:Dj a b [4] m:=⟨qq.h0,qq.h1,qq.h2,qq.h3,⟨by simp,λb hb=>by rw[afO.1 hb];exact q4⟩⟩
   have m9:m.length=6:=by rw[y,afK,l0];rfl
   obtain⟨H2,he,W⟩:=qI (bb:=5) (H:=m) a b ha hb (λps J=>m.length<=J.length/\(∀i:Nat,i<m.length->J[i]?=m[i]?)/\∀p∈ps,¬ Mh p.c p.d p.k)
    (λp J=>Mh p.c p.d p.k/\gB [4] J/\J[2]?=aa (.box [.f (.bool ae)] 0)/\J[3]?=aa (.box [.f (fi 0)] 0)/\J[5]?=aa (S .done (aa .ret))) ⟨afJ _,λ_ _=>rfl,by simp⟩
    (λps J J' ⟨h1,F,h3⟩ hk hl=>⟨by omega,λi hi=>by rw[hk i hi];exact F i hi,h3⟩)
    (λps p J ⟨h1,F,h3⟩ hl A=>by
     have K:J[5]?=aa (S .ready ab):=by rw[F _ (au q5)];exact q5
     have pq:=z.cZ F;rw[B]at K;obtain⟨e,f,hm,-,d9⟩:=zi p.gx p.gy p.xs p.ys A.xo A.yo;have I:f=ae↔Mh p.c p.d p.k:=by
      rw[<-Gb A];rcases hm with⟨rfl,-,k⟩|⟨rfl,k,-⟩
      .exact⟨λh=>(by cases h),λ⟨x,h0,h1,F⟩=>absurd ⟨by omega,h1,F⟩ (k x)⟩
      .exact⟨λ_=>⟨e,by have:=k.1;omega,k.2⟩,λ_=>rfl⟩
     refine⟨!f,?_⟩;obtain⟨r,J',f_,rfl,hr⟩:∃r J',Ev tab (.yield 5) [.a p.row] J r J'/\(r=vb (!f)/\(if f=ae then gB [4] J'/\J'[2]?=aa (.box [.f (.bool ae)] 0)/\J'[3]?=aa (.box [.f (fi 0)] 0)/\J'[5]?=aa (S .done (aa .ret))else J.length<=J'.length/\∀i:Nat,i<J.length->J'[i]?=J[i]?)):=by
      refine jN (tab:=tab) (b:=5) (args:=[.a p.row]) (H:=J) K rfl λQ' c_=>?_;obtain⟨Y,U⟩:=aD (J.length);have h_:p.row.length=8:=rfl;refine av (.inr rfl) ?_;simp[h_];rw[<-U];obtain⟨J1,L⟩:=aD (J++[bB.box p.row 0]);rw[<-L];have k1:∀i:Nat,i<J.length->J1[i]?=J[i]?:=λi hi=>by rw[L,afy hi]
      have d1:J1[Y]?=aa (.box p.row 0):=by rw[L,U];simp
      have n1:J1.length=Y+1:=by rw[L,U];simp
      have e5:J1[5]?=aa (.lp iz u [P.nat 32] np nq .ready ab 4):=by rw[k1 _ (au K)];exact K
      refine rK e5 ?_;obtain⟨E,s⟩:=aD (J1.set 5 (.lp iz u [P.nat 32] np nq .busy ab 4));rw[<-s];have k2:∀i:Nat,i<J.length->i≠5->E[i]?=J[i]?:=λi hi O=>by rw[s,ae2 (Ne.symm O),k1 i hi]
      have d2:E[Y]?=aa (.box p.row 0):=by rw[s,ae2 (by have:=au K;omega)];exact d1
      have f5:E[5]?=aa (.lp iz u [P.nat 32] np nq .busy ab 4):=by rw[s];exact afC (au e5)
      have n2:E.length=Y+1:=by rw[s,af7];exact n1
      have q2:Dj a b [4] E:=by rw[s];exact(pq.cZ k1).set e5 (by omega) (by simp) _
      unfold Pr.row at d2;have c5:aQ E (aa 1) (.c (.ptr Y 5 0))=aa (.a [.f (sl p.gx (aT p.xs))]):=by simp[aQ,aw,d2,aO]
      have c6:aQ E (aa 1) (.c (.ptr Y 6 0))=aa (.a [.f (sl p.gy (aT p.ys))]):=by simp[aQ,aw,d2,aO]
      refine aI ?_;refine ak (av (.inr rfl) ?_);simp[c5,c6,-aq,d9];apply ak;refine av (.inr rfl) ?_;simp;cases f with
      |true=>
       refine al (by simp) ?_;obtain⟨s1,s2,s3,s4,s6⟩:=q2.tell ae 0;have s5:((E.set 2 (.box [.f (.bool ae)] 0)).set 3 (.box [.f (fi 0)] 0))[5]?=aa (.lp iz u [P.nat 32] np nq .busy ab 4):=by rw[ae2 (by omega),ae2 (by omega)];exact f5
       refine ak (av (.inr rfl) ?_);simp[Z,g5,s1,s2,-aU];refine az (c_ _ _ _ _ _ _ _ _ _ _ rfl s5 ⟨rfl,?_⟩);rw[bu rfl];refine⟨s3.set s5 (by simp),?_,?_,?_⟩
       .rw[ae2 (by omega)];exact s4
       .rw[ae2 (by omega)];exact s6
       .rw[B];exact afC (au s5)
      |false=>
       refine aG (by simp) (aS (aA (dY (c_ _ _ _ _ _ _ _ _ _ _ rfl f5 ⟨rfl,?_⟩))));rw[bG (by simp)];refine⟨by rw[af7,n2];omega,λi hi=>?_⟩;by_cases e:i=5
       .subst e;rw[afC (au f5),K];rfl
       .rw[ae2 (Ne.symm e),k2 i hi e]
     refine⟨J',f_,?_⟩;cases f with
     |true=>simpa using ⟨I.1 rfl,by simpa using hr⟩
     |false=>
      have hr:J.length<=J'.length/\∀i:Nat,i<J.length->J'[i]?=J[i]?:=by simpa using hr
      simp only[Bool.not_false,if_true];refine⟨⟨by omega,λi hi=>by rw[hr.2 i (by omega)];exact F i hi,λq hq=>?_⟩,hr.1,λi _ hi=>hr.2 i hi⟩;rcases afY.1 hq with h|h
      .exact h3 q h
      .rw[afO.1 h];intro h;have:=I.2 h;cases this)
   have f8:Ev tab (.fn mb) [.c (.yl (J0.length+1)),.c (.f (.fp a.row 0)),.c (.f (.fp b.row 0))] (J0++[.gI ae,.lp iz u [P.nat 32] np nq .ready ab J0.length]) (.t []) H2:=by
    have e:J0++[.gI ae,.lp iz u [P.nat 32] np nq .ready ab J0.length]=m:=by rw[y,B,l0]
    rw[e,l0];exact he
   refine mZ (g:=mb) (by rw[Iv,k_];simp[cL]) f8 ?_;rw[l0];rcases W with⟨ps,⟨j6,M,g_⟩,j9,a8⟩|⟨p,A,I,c1,c2,c3,c5⟩
   .have K:H2[5]?=aa (S .ready ab):=by rw[M _ (au q5)];exact q5
    rw[B]at K;refine oN K (by decide) (aA ?_);exact j_ u _ [4] g2 g3 Z g5 ((z.cZ M).set K (by omega) (by simp) _) λc hc d hd k h1 F=>by
     obtain⟨p,A,rfl,rfl,rfl⟩:=a8 c hc d hd k h1 F;exact g_ p A
   .rw[B]at c5;refine rL c5 (by decide) ?_;refine az (i9 _ _ [4] ae Z g5 ⟨λ_=>⟨p.c,A.ca,p.d,A.db,p.k,A.lo,A.hi,I⟩,λ_=>rfl⟩ (c1.set c5 (by simp)) ?_ ?_ _)
    .rw[ae2 (by omega)];exact c2
    .rw[ae2 (by omega)];exact c3
  simp[(la _ _ X).1,(la _ _ X).2,-aq,i7,i8];refine bc (by simp) ?_;exact early _ (by simp) (by simp) (by simp) (by simp)
 obtain⟨v,⟨r,hr,rfl⟩,h⟩:=key;exact⟨r,hr,h.eq⟩
section
structure TK(fr eM:Int)(found:Bool)(X Y:aE)(H:aj):Prop where
 h2:H[2]?=aa (.box [.f (fi fr)] 0)
 h5:H[5]?=aa (.box [.f (fi X.day),.f (fi X.fr),.f (fi X.to)] 0)
 h6:H[6]?=aa (.box [.f (fi Y.day),.f (fi Y.fr),.f (fi Y.to)] 0)
 h7:H[7]?=aa (.box [.f (fi eM)] 0)
 h8:H[8]?=aa (.box [.f (.bool found)] 0)
theorem TK.cZ{fr eM:Int}{found:Bool}{X Y:aE}{H H':aj}(h:TK fr eM found X Y H)(b:∀i:Nat,i<9->H'[i]?=H[i]?):TK fr eM found X Y H':=
 ⟨by rw[b 2 (by omega)];exact h.h2,by rw[b 5 (by omega)];exact h.h5,by rw[b 6 (by omega)];exact h.h6,by rw[b 7 (by omega)];exact h.h7,by rw[b 8 (by omega)];exact h.h8⟩
def mI(b:Int)(x y:aE):Int:=max (max x.fr y.fr) b
theorem zg{a b c:Int}:xH ag [vi a,vi b,vi c]=aa (vi (max (max a b) c)):=by
 have d:(if a<b then b else a)=max a b:=by split<;>omega
 have g:(if max a b<c then c else max a b)=max (max a b) c:=by split<;>omega
 simp only[xH,tX,zf];simp[d,g,V.int]
def okB(b:Int)(x y:aE):Prop:=x.to<=2251799813685248/\y.to<=2251799813685248/\mI b x y<min x.to y.to
def EJ(d b:Int)(x y X Y:aE):Prop:=wz [dk (mI d x y) b,eH x X,eH y Y]<0
open Classical in
noncomputable def ig (g d:Int) (b:Bool) (x y X Y:aE):Bool:=decide (okB g x y/\(b=ag\/EJ g d x y X Y))
theorem PR(l b:Int)(d:Bool)(X Y x y:aE)(H:aj)(h:TK l b d X Y H) :
  ∃H',Ev tab (.fn Iq) [.a (x.row.map .f),.a (y.row.map .f),.c (.ptr 2 0 0),.c (.ptr 8 0 0),.c (.ptr 7 0 0),.c (.ptr 5 0 0),.c (.ptr 6 0 0)] H (.t []) H'/\
   TK l (if ig l b d x y X Y then mI l x y else b) (d||ig l b d x y X Y) (if ig l b d x y X Y then x else X) (if ig l b d x y X Y then y else Y) H'/\H.length<=H'.length/\∀i:Nat,i<H.length->i<5\/8<i->H'[i]?=H[i]?:=by
 have l8:=au h.h8;have d9:max (max x.fr y.fr) l=mI l x y:=rfl;obtain⟨r,H',he,rfl,hP⟩:∃r H',Ev tab (.fn Iq) [.a (x.row.map .f),.a (y.row.map .f),.c (.ptr 2 0 0),.c (.ptr 8 0 0),.c (.ptr 7 0 0),.c (.ptr 5 0 0),.c (.ptr 6 0 0)] H r H'/\(r=.t []/\
   TK l (if ig l b d x y X Y then mI l x y else b) (d||ig l b d x y X Y) (if ig l b d x y X Y then x else X) (if ig l b d x y X Y then y else Y) H'/\H.length<=H'.length/\∀i:Nat,i<H.length->i<5\/8<i->H'[i]?=H[i]?):=by
  have o1:=wA x X;have o2:=wA y Y;simp only[aE.row,afS,afW]at o1 o2;have ho:=zn .fs [dk (mI l x y) b,eH x X,eH y Y] (by simp);simp[ints,sl,Tg.fc]at ho;have Z:=gZ (mI l x y) b;refine dm rfl rfl λQ hQ=>?_;apply ai;simp[aE.row];obtain⟨g,s⟩:=aD (H++[bB.box [.f (fi x.day),.f (fi x.fr),.f (fi x.to)] 0,.box [.f (fi y.day),.f (fi y.fr),.f (fi y.to)] 0]);obtain⟨q,N⟩:=aD (H.length);have hT:TK l b d X Y g:=h.cZ λi hi=>by rw[s,afy (by omega)]
  have c7:g[q]?=aa (.box [.f (fi x.day),.f (fi x.fr),.f (fi x.to)] 0):=by rw[s,N];simp
  have c8:g[q+1]?=aa (.box [.f (fi y.day),.f (fi y.fr),.f (fi y.to)] 0):=by rw[s,N,afI (by omega)];simp
  have kA:∀i:Nat,i<H.length->g[i]?=H[i]?:=λi hi=>by rw[s,afy hi]
  have lA:g.length=q+2:=by rw[s,afK,N];rfl
  rw[<-s,<-N];have m7:∀J:aj,J[q]?=aa (.box [.f (fi x.day),.f (fi x.fr),.f (fi x.to)] 0)->aQ J ab (.c (.ptr q 1 0))=aa (vi x.fr)/\aQ J ab (.c (.ptr q 2 0))=aa (vi x.to)/\aQ J (aa 3) (.c (.ptr q 0 0))=aa (.a [.f (fi x.day),.f (fi x.fr),.f (fi x.to)]):=λJ h=>by refine⟨?_,?_,?_⟩<;>simp[aQ,aw,h,aO]
  have m8:∀J:aj,J[q+1]?=aa (.box [.f (fi y.day),.f (fi y.fr),.f (fi y.to)] 0)->aQ J ab (.c (.ptr (q+1) 1 0))=aa (vi y.fr)/\aQ J ab (.c (.ptr (q+1) 2 0))=aa (vi y.to)/\aQ J (aa 3) (.c (.ptr (q+1) 0 0))=aa (.a [.f (fi y.day),.f (fi y.fr),.f (fi y.to)]):=λJ h=>by refine⟨?_,?_,?_⟩<;>simp[aQ,aw,h,aO]
  obtain⟨x1,x2,x3⟩:=m7 g c7;obtain⟨y1,y2,y3⟩:=m8 g c8;have g_:aQ g ab (.c (.ptr 2 0 0))=aa (vi l):=by simp[aQ,aw,hT.h2]
  have f_:aQ g ab (.c (.ptr 7 0 0))=aa (vi b):=by simp[aQ,aw,hT.h7]
  have h_:aQ g (aa 3) (.c (.ptr 5 0 0))=aa (.a [.f (fi X.day),.f (fi X.fr),.f (fi X.to)]):=by simp[aQ,aw,hT.h5,aO]
  have i4:aQ g (aa 3) (.c (.ptr 6 0 0))=aa (.a [.f (fi Y.day),.f (fi Y.fr),.f (fi Y.to)]):=by simp[aQ,aw,hT.h6,aO]
  have d_:aQ g ab (.c (.ptr 8 0 0))=aa (vb d):=by simp[aQ,aw,hT.h8]
  obtain⟨m,M⟩:=aD (mI l x y);rw[<-M]at d9 ho Z;have no:∀(t:T) (J:aj),ig l b d x y X Y=ag->(∀i:Nat,i<g.length->J[i]?=g[i]?)->g.length<=J.length->(∀j:Option aH,Q j ⟨t,[],J⟩):=by
   intro t J hu hJ hl j;refine hQ _ _ _ rfl rfl ⟨rfl,?_,by show H.length<=J.length;omega,λi hi _=>by show J[i]?=_;rw[hJ i (by omega),kA i hi]⟩;rw[hu];simpa using hT.cZ λi hi=>hJ i (by omega)
  apply ai;simp[x1,y1,g_,-aq,zg,d9]
  suffices a_:∀t:T,t.g 3=.c (.ptr 8 0 0)->t.g 4=.c (.ptr 7 0 0)->t.g 5=.c (.ptr 5 0 0)->t.g 6=.c (.ptr 6 0 0)->t.g 7=.c (.ptr q 0 0)->t.g 8=.c (.ptr (q+1) 0 0)->t.g 9=vi m->WP tab Iq ab [.code Vn] ⟨t,[],g⟩ Q by exact a_ _ (by simp) (by simp) (by simp) (by simp) (by simp) (by simp) (by simp)
  intro t g3 U g5 g6 v z B;have O:okB l x y↔(x.to<=2251799813685248/\y.to<=2251799813685248/\m<min x.to y.to):=by rw[M];rfl
  have A:¬ okB l x y->ig l b d x y X Y=ag:=λh=>by unfold ig;simp[h]
  apply ak;apply ai;by_cases c1:2251799813685248<x.to
  .simp[v,x2,c1,-aq];refine al (by simp) ?_;exact az (no _ g (A λh=>by have:=(O.1 h).1;omega) (λ_ _=>rfl) (afJ _) _)
  by_cases c2:2251799813685248<y.to
  .simp[v,z,x2,y2,c1,c2,-aq];refine al (by simp) ?_;exact az (no _ g (A λh=>by have:=(O.1 h).2.1;omega) (λ_ _=>rfl) (afJ _) _)
  by_cases c3:min x.to y.to<=m
  .simp[v,z,B,x2,y2,c1,c2,c3,-aq];refine al (by simp) ?_;exact az (no _ g (A λh=>by have:=(O.1 h).2.2;omega) (λ_ _=>rfl) (afJ _) _)
  have a8:okB l x y:=O.2 ⟨by omega,by omega,by omega⟩;simp[v,z,B,x2,y2,c1,c2,c3,-aq];refine bc (by simp) ?_;have e9:∀(t:T) (J:aj),ig l b d x y X Y=ae->t.g 3=.c (.ptr 8 0 0)->t.g 4=.c (.ptr 7 0 0)->t.g 5=.c (.ptr 5 0 0)->t.g 6=.c (.ptr 6 0 0)->t.g 7=.c (.ptr q 0 0)->t.g 8=.c (.ptr (q+1) 0 0)->t.g 9=vi m->(∀i:Nat,i<g.length->J[i]?=g[i]?)->g.length<=J.length->WP tab Iq ab [.code Qz] ⟨t,[],J⟩ Q:=by
   intro t J hu g3 U g5 g6 v z B hJ hl;have u:=hT.cZ (H':=J) λi hi=>hJ i (by omega);have d7:J[q]?=aa (.box [.f (fi x.day),.f (fi x.fr),.f (fi x.to)] 0):=by rw[hJ q (by omega)];exact c7
   have d8:J[q+1]?=aa (.box [.f (fi y.day),.f (fi y.fr),.f (fi y.to)] 0):=by rw[hJ (q+1) (by omega)];exact c8
   obtain⟨-,-,x3⟩:=m7 J d7;obtain⟨-,-,y3⟩:=m8 J d8;obtain⟨S,F⟩:=aD (J.set 7 (.box [.f (fi m)] 0));have s1:cz J (.ptr 7 0 0) [.f (fi m)]=aa S:=by rw[F];simp[cz,u.h7,bp]
   have k1:∀i:Nat,i≠7->S[i]?=J[i]?:=λi hi=>by rw[F,ae2 (Ne.symm hi)]
   have n1:S.length=J.length:=by rw[F];simp
   obtain⟨J2,I⟩:=aD (S.set 5 (.box [.f (fi x.day),.f (fi x.fr),.f (fi x.to)] 0));have s2:cz S (.ptr 5 0 0) [.f (fi x.day),.f (fi x.fr),.f (fi x.to)]=aa J2:=by rw[I];simp[cz,k1 5 (by omega),u.h5,bp]
   have k2:∀i:Nat,i≠5->J2[i]?=S[i]?:=λi hi=>by rw[I,ae2 (Ne.symm hi)]
   have n2:J2.length=J.length:=by rw[I];simp[n1]
   obtain⟨J3,K⟩:=aD (J2.set 6 (.box [.f (fi y.day),.f (fi y.fr),.f (fi y.to)] 0));have s3:cz J2 (.ptr 6 0 0) [.f (fi y.day),.f (fi y.fr),.f (fi y.to)]=aa J3:=by rw[K];simp[cz,k2 6 (by omega),k1 6 (by omega),u.h6,bp]
   have k3:∀i:Nat,i≠6->J3[i]?=J2[i]?:=λi hi=>by rw[K,ae2 (Ne.symm hi)]
   have n3:J3.length=J.length:=by rw[K];simp[n2]
   obtain⟨J4,L⟩:=aD (J3.set 8 (.box [.f (.bool ae)] 0));have s4:cz J3 (.ptr 8 0 0) [.f (.bool ae)]=aa J4:=by rw[L];simp[cz,k3 8 (by omega),k2 8 (by omega),k1 8 (by omega),u.h8,bp]
   have k4:∀i:Nat,i≠8->J4[i]?=J3[i]?:=λi hi=>by rw[L,ae2 (Ne.symm hi)]
   have i9:=au u.h7;have i_:8<q:=by omega
   obtain⟨-,-,i5⟩:=m7 S (by rw[k1 q (by omega)];exact d7);obtain⟨-,-,i6⟩:=m8 S (by rw[k1 (q+1) (by omega)];exact d8);obtain⟨-,-,i7⟩:=m8 J2 (by rw[k2 (q+1) (by omega),k1 (q+1) (by omega)];exact d8);refine dy (.inl rfl) ?_ ?_
   case refine_2=>
    intro cc f7;have e_:cc=(1,4)\/cc=(2,4)\/cc=(2,5):=by simpa using f7
    rcases e_ with rfl|rfl|rfl
    .refine⟨by decide,_,rfl,.inl ⟨by decide,?_⟩⟩;simp[U,v,z,B,x3,y3,i5,s1,-aq,-aU,fO,V.beq,C.beq,FC.beq]
    .refine⟨by decide,_,rfl,.inl ⟨by decide,?_⟩⟩;simp[U,v,z,B,x3,y3,i6,s1,-aq,-aU,fO,V.beq,C.beq,FC.beq]
    .refine⟨by decide,_,rfl,.inl ⟨by decide,?_⟩⟩;simp[U,g5,v,z,B,x3,y3,i7,s1,s2,-aq,-aU,fO,V.beq,C.beq,FC.beq]
   simp[g3,U,g5,g6,v,z,B,x3,y3,s1,s2,s3,s4,-aq,-aU];refine dY (hQ _ _ _ rfl rfl ⟨rfl,?_,by show H.length<=J4.length;rw[L];simp;omega,λi hi i8=>?_⟩)
   .rw[hu];simp only[if_true,Bool.or_true];rw[<-M];refine⟨?_,?_,?_,?_,?_⟩
    .rw[k4 2 (by omega),k3 2 (by omega),k2 2 (by omega),k1 2 (by omega)];exact u.h2
    .rw[k4 5 (by omega),k3 5 (by omega),I];exact afC (by omega)
    .rw[k4 6 (by omega),K];exact afC (by omega)
    .rw[k4 7 (by omega),k3 7 (by omega),k2 7 (by omega),F];exact afC (by omega)
    .rw[L];exact afC (by omega)
   .show J4[i]?=_;rw[k4 i (by omega),k3 i (by omega),k2 i (by omega),k1 i (by omega),hJ i (by omega),kA i hi]
  apply ak;cases d with
  |false=>
   refine av (.inl rfl) ?_;simp[g3,d_,-aq];refine al (by simp) ?_;exact e9 _ g (by unfold ig;simp[a8]) (by simp[g3]) (by simp[U]) (by simp[g5]) (by simp[g6]) (by simp[v]) (by simp[z]) (by simp[B]) (λ_ _=>rfl) (afJ _)
  |true=>
   obtain⟨HB,E⟩:=aD (g++[bB.box [.f (fi (dk m b)),.f (fi (eH x X)),.f (fi (eH y Y))] 0]);have b_:HB[g.length]?=aa (.box [.f (fi (dk m b)),.f (fi (eH x X)),.f (fi (eH y Y))] 0):=by rw[E];simp
   have c_:eg 64 HB (.sl g.length 0 3 3 0 1)=aa (.fs [fi (dk m b),fi (eH x X),fi (eH y Y)] 3):=by
    rw[show(64:Nat)=63+1 from rfl];simp only[ml,b_];rfl
   obtain⟨HC,b9⟩:=aD (ic 64 (.sl g.length 0 3 3 0 1) HB);have W:HC=HB.set g.length (.box [.f (fi (dk m b)),.f (fi (eH x X)),.f (fi (eH y Y))] 3):=by
    rw[b9,show(64:Nat)=63+1 from rfl];simp only[tZ,b_];rfl
   have kC:∀i:Nat,i<g.length->HC[i]?=g[i]?:=λi hi=>by rw[W,ae2 (by omega),E,afy hi]
   have lC:g.length<=HC.length:=by rw[W,af7,E,afK];omega
   have a9:wz [dk m b,eH x X,eH y Y]<0↔EJ l b x y X Y:=by unfold EJ;rw[<-M]
   obtain⟨oo,f8⟩:=aD (wz [dk m b,eH x X,eH y Y]);rw[<-f8]at ho a9;refine av (.inl rfl) ?_;simp[g3,U,g5,g6,v,z,B,d_,f_,h_,i4,x3,y3,-aq,Z,o1,o2,<-E,c_,deep,ho,<-b9];by_cases k:oo<0
   .refine al (by simp[k]) ?_;exact e9 _ HC (by unfold ig;simp[a8,a9.1 k]) (by simp[g3]) (by simp[U]) (by simp[g5]) (by simp[g6]) (by simp[v]) (by simp[z]) (by simp[B]) kC lC
   .refine bc (by simp[k]) ?_;exact dY (no _ HC (by unfold ig;simp[show¬ EJ l b x y X Y from λh=>k (a9.2 h)]) kC lC ab)
 exact⟨H',he,hP⟩
end
def wE(b:Int)(x y X Y:aE):Prop:=mI b x y<mI b X Y\/mI b x y=mI b X Y/\(x.lt X\/(x.fr=X.fr/\x.day=X.day/\x.to=X.to)/\y.lt Y)
theorem zo(x y:aE):eH x y=0↔x.fr=y.fr/\x.day=y.day/\x.to=y.to:=by
 have l:∀a b:Int,dk a b=0↔a=b:=λa b=>by unfold dk;split<;>(try split)<;>omega
 unfold eH;simp only[wz];have m:=l x.fr y.fr;have q:=l x.day y.day;have s:=l x.to y.to;by_cases d:dk x.fr y.fr=0
 .rw[bu d];by_cases g:dk x.day y.day=0
  .rw[bu g];by_cases j:dk x.to y.to=0
   .rw[bu j];exact⟨λ_=>⟨m.1 d,q.1 g,s.1 j⟩,λ_=>rfl⟩
   .rw[bG j];exact⟨λh=>absurd h j,λh=>absurd (s.2 h.2.2) j⟩
  .rw[bG g];exact⟨λh=>absurd h g,λh=>absurd (q.2 h.2.1) g⟩
 .rw[bG d];exact⟨λh=>absurd h d,λh=>absurd (m.2 h.1) d⟩
theorem AR(b:Int)(x y X Y:aE):EJ b (mI b X Y) x y X Y↔wE b x y X Y:=by
 unfold EJ wE;have l:dk (mI b x y) (mI b X Y)=0↔mI b x y=mI b X Y:=by unfold dk;split<;>(try split)<;>omega
 have A:dk (mI b x y) (mI b X Y)<0↔mI b x y<mI b X Y:=by unfold dk;split<;>(try split)<;>omega
 have v:=zo x X;have B:=zo y Y;have m:=oV x X;have q:=oV y Y;simp only[wz];by_cases d:dk (mI b x y) (mI b X Y)=0
 .rw[bu d];have e:=l.1 d;by_cases g:eH x X=0
  .rw[bu g];have z:=v.1 g;have u:¬ x.lt X:=λh=>by have:=m.2 h;omega
   by_cases s:eH y Y=0
   .rw[bu s];have j:¬ y.lt Y:=λh=>by have:=q.2 h;omega
    constructor
    .intro h;omega
    .rintro(h|⟨-,h|⟨-,h⟩⟩)
     .omega
     .exact absurd h u
     .exact absurd h j
   .rw[bG s,q];constructor
    .intro h;exact .inr ⟨e,.inr ⟨z,h⟩⟩
    .rintro(h|⟨-,h|⟨-,h⟩⟩)
     .omega
     .exact absurd h u
     .exact h
  .rw[bG g,m];constructor
   .intro h;exact .inr ⟨e,.inl h⟩
   .rintro(h|⟨-,h|⟨h,-⟩⟩)
    .omega
    .exact h
    .exact absurd (v.2 h) g
 .rw[bG d,A];constructor
  .intro h;exact .inl h
  .rintro(h|⟨h,-⟩)
   .exact h
   .exact absurd (l.2 h) d
theorem tx{b:Int}{x y X Y Z W:aE}(h:wE b x y X Y)(d:wE b X Y Z W):wE b x y Z W:=by
 unfold wE aE.lt at *;omega
theorem A1{b:Int}{x y X Y:aE}(h:¬ wE b x y X Y)(v:¬ wE b X Y x y):x=X/\y=Y:=by
 have d:x.fr=X.fr/\x.day=X.day/\x.to=X.to:=by unfold wE aE.lt at *;omega
 have g:y.fr=Y.fr/\y.day=Y.day/\y.to=Y.to:=by unfold wE aE.lt at *;omega
 cases x;cases X;cases y;cases Y;simp only at d g;obtain⟨j,l,m⟩:=d;obtain⟨q,s,u⟩:=g;subst j l m q s u;exact⟨rfl,rfl⟩
structure FS where
 eM:Int
 found:Bool
 X:aE
 Y:aE
noncomputable def fX (b:Int) (s:FS) (x y:aE):FS:=⟨if ig b s.eM s.found x y s.X s.Y then mI b x y else s.eM,s.found||ig b s.eM s.found x y s.X s.Y,if ig b s.eM s.found x y s.X s.Y then x else s.X,if ig b s.eM s.found x y s.X s.Y then y else s.Y⟩
def fA(b:Int)(S:aE->aE->Prop)(s:FS):Prop:=(s.found=ag/\s.X=⟨0,0,0⟩/\s.Y=⟨0,0,0⟩/\∀x y,S x y->¬ okB b x y)\/(s.found=ae/\S s.X s.Y/\okB b s.X s.Y/\s.eM=mI b s.X s.Y/\∀x y,S x y->okB b x y->¬ wE b x y s.X s.Y)
theorem fA.iff{fr:Int}{S g:aE->aE->Prop}{s:FS}(h:fA fr S s)(d:∀x y,okB fr x y->(g x y↔S x y)):fA fr g s:=by
 rcases h with⟨h1,h2,h3,h4⟩|⟨h1,h2,h3,h4,h5⟩
 .exact .inl ⟨h1,h2,h3,λx y h b=>h4 x y ((d x y b).1 h) b⟩
 .exact .inr ⟨h1,(d _ _ h3).2 h2,h3,h4,λx y h b=>h5 x y ((d x y b).1 h) b⟩
theorem fA.step{fr:Int}{S T:aE->aE->Prop}{s:FS}(h:fA fr S s){x y:aE}(v:T x y)(u:∀d g,T d g->okB fr d g->okB fr x y/\¬ wE fr d g x y):fA fr (λx y=>S x y\/T x y) (fX fr s x y):=by
 by_cases j:okB fr x y
 .rcases h with⟨h1,h2,h3,h4⟩|⟨h1,h2,h3,h4,h5⟩
  .have hu:ig fr s.eM s.found x y s.X s.Y=ae:=by unfold ig;simp[j,h1]
   refine .inr ⟨?_,?_,?_,?_,λd g b l=>?_⟩
   .simp[fX,hu]
   .simp only[fX,hu,if_true];exact .inr v
   .simp only[fX,hu,if_true];exact j
   .simp only[fX,hu,if_true]
   .simp only[fX,hu,if_true];rcases b with b|b
    .exact absurd l (h4 d g b)
    .exact(u d g b l).2
  .have m:EJ fr s.eM x y s.X s.Y↔wE fr x y s.X s.Y:=by rw[h4];exact AR fr x y s.X s.Y
   by_cases k:wE fr x y s.X s.Y
   .have hu:ig fr s.eM s.found x y s.X s.Y=ae:=by unfold ig;simp[j,m.2 k]
    refine .inr ⟨?_,?_,?_,?_,λd g b l=>?_⟩
    .simp[fX,hu]
    .simp only[fX,hu,if_true];exact .inr v
    .simp only[fX,hu,if_true];exact j
    .simp only[fX,hu,if_true]
    .simp only[fX,hu,if_true];rcases b with b|b
     .exact λq=>h5 d g b l (tx q k)
     .exact(u d g b l).2
   .have hu:ig fr s.eM s.found x y s.X s.Y=ag:=by unfold ig;simp[h1,show¬ EJ fr s.eM x y s.X s.Y from λh=>k (m.1 h)]
    refine .inr ⟨?_,?_,?_,?_,λd g b l=>?_⟩
    .simp[fX,hu,h1]
    .simp only[fX,hu];exact .inl h2
    .simp only[fX,hu];exact h3
    .simp only[fX,hu];exact h4
    .simp only[fX,hu];rcases b with b|b
     .exact h5 d g b l
     .intro q;have h6:=(u d g b l).2;by_cases e:wE fr x y d g
      .exact k (tx e q)
      .obtain⟨rfl,rfl⟩:=A1 h6 e;exact k q
 .have hu:ig fr s.eM s.found x y s.X s.Y=ag:=by unfold ig;simp[j]
  have z:fX fr s x y=s:=by simp[fX,hu]
  rw[z];refine h.iff λd g l=>⟨λh=>h.elim id λh=>absurd (u d g h l).1 j,.inl⟩
theorem fA.none{fr:Int}{S T:aE->aE->Prop}{s:FS}(h:fA fr S s)(j:∀b d,T b d->¬ okB fr b d):fA fr (λx y=>S x y\/T x y) s:=
 h.iff λb d g=>⟨λh=>h.elim id λh=>absurd g (j b d h),.inl⟩
theorem fA.one{fr:Int}{S:aE->aE->Prop}{s:FS}(h:fA fr S s)(x y:aE):fA fr (λb d=>S b d\/(b=x/\d=y)) (fX fr s x y):=
 h.step ⟨rfl,rfl⟩ λb d ⟨h1,h2⟩ g=>by
  subst h1 h2;exact⟨g,by unfold wE aE.lt;omega⟩
theorem xl(g j l:FC)(len mi d:Int)(u:0<=len)(m:len<=10080)(v:-4320<=mi)(q:mi<=4320) :
  aX tab Z9 [.a [.f g,.f (fi len),.f j],.a [.f l,.f (fi mi)],vi d]=Eq (vb (decide (d<=(2251799813685248-mi-len) / 1440))):=Kf.eq (by
 refine cr rfl rfl λH Q s=>?_;apply ai;simp;apply ai;simp[bg (n:=2251799813685248-mi),bg (n:=2251799813685248-mi-len),qR (a:=2251799813685248-mi-len) (b:=1440) (by omega) (by omega) (by omega)];refine az (s _ _ ?_);simp)
def C':C:=.cl Iq [.ptr 2 0 0,.ptr 8 0 0,.ptr 7 0 0,.ptr 5 0 0,.ptr 6 0 0]
structure FQ(a b:aN)(fr:Int)(s:FS)(J:aj):Prop where
 h0:J[0]?=aa (.box (pj a) 0)
 h1:J[1]?=aa (.box (pj b) 0)
 h3:J[3]?=aa (.box [.f (fi 0),.f (fi 0),.f (fi 0)] 0)
 h4:J[4]?=aa (.box [.f (fi 0),.f (fi 0),.f (fi 0)] 0)
 h9:J[9]?=aa (.box [C'] 0)
 tk:TK fr s.eM s.found s.X s.Y J
theorem FQ.cZ{a b:aN}{fr:Int}{s:FS}{J J':aj}(h:FQ a b fr s J)(d:∀i:Nat,i<10->J'[i]?=J[i]?):FQ a b fr s J':=
 ⟨by rw[d 0 (by omega)];exact h.h0,by rw[d 1 (by omega)];exact h.h1,by rw[d 3 (by omega)];exact h.h3,by rw[d 4 (by omega)];exact h.h4,by rw[d 9 (by omega)];exact h.h9,h.tk.cZ λi hi=>d i (by omega)⟩
structure FT(t:T):Prop where
 g3:t.g 3=.c (.ptr 0 0 0)
 g4:t.g 4=.c (.ptr 1 0 0)
 g5:t.g 5=.c (.ptr 2 0 0)
 g6:t.g 6=.c (.ptr 3 0 0)
 g7:t.g 7=.c (.ptr 4 0 0)
 g9:t.g 9=.c (.ptr 5 0 0)
 g10:t.g 10=.c (.ptr 6 0 0)
 g12:t.g 12=.c (.ptr 8 0 0)
 g13:t.g 13=.c (.ptr 9 0 0)
theorem PS{a b:aN}{g:Int}{s:FS}{J:aj}(h:FQ a b g s J)(x y:aE):∃J',Ev tab (.fn Iq) [.a (x.row.map .f),.a (y.row.map .f),.c (.ptr 2 0 0),.c (.ptr 8 0 0),.c (.ptr 7 0 0),.c (.ptr 5 0 0),.c (.ptr 6 0 0)] J (.t []) J'/\FQ a b g (fX g s x y) J'/\J.length<=J'.length/\∀i:Nat,8<i->i<J.length->J'[i]?=J[i]?:=by
 obtain⟨J',m,l,q,d⟩:=PR g s.eM s.found s.X s.Y x y J h.tk;have v:=au h.h9;exact⟨J',m,⟨by rw[d 0 (by omega) (by omega)];exact h.h0,by rw[d 1 (by omega) (by omega)];exact h.h1,by rw[d 3 (by omega) (by omega)];exact h.h3,by rw[d 4 (by omega) (by omega)];exact h.h4,by rw[d 9 (by omega) (by omega)];exact h.h9,l⟩,q,λi u j=>d i j (by omega)⟩
def NI(a b:aN)(p:Pr):Int:=min (p.c.min+a.len) (p.k*1440+p.d.min+b.len)
def RP(a b:aN)(d:Int)(p:Pr):Int:=max 0 ((d-NI a b p) / 1440+1-max 0 (-p.k))
def gC(a:aN)(p:Pr)(e:Int):aE:=cm a.len p.c.min (e+max 0 (-p.k))
def gD(b:aN)(p:Pr)(e:Int):aE:=cm b.len p.d.min (e+max 0 (-p.k)+p.k)
noncomputable def FE (a b:aN) (d:Int) (p:Pr) (e:Int) (f:Bool) (s:FS):FS:=if f then fX d s (gC a p e) (gD b p e)else s
theorem E_(a b:aN)(ha:pT a)(hb:pT b){q:Int}(f0:-2251799813685248<=q)(f1:q<=-1000000000000){O:T}(E:FT O){p:Pr}(Q:qC a b p){s:FS}{J:aj}(hq:FQ a b q s J)(b_:J[10]?=aa (.gI ae))(L:J[11]?=aa (.lp mz O [P.nat 47] jD jE .ready ab 10)) :
  ∃e f,D0 (λe=>RP a b q p<=e/\fu p.xs e/\fu p.ys e) e f/\(f=ae->e<=1000001000000)/\∃r J',Ev tab (.yield 11) [.a p.row] J r J'/\(r=vb ae/\FQ a b q (FE a b q p e f s) J'/\J'[10]?=aa (.gI ae)/\J'[11]?=aa (.lp mz O [P.nat 47] jD jE .ready ab 10)/\J.length<=J'.length/\∀i:Nat,12<=i->i<J.length->J'[i]?=J[i]?):=by
 obtain⟨i_,j4⟩:=ha.len;obtain⟨j5,j6⟩:=hb.len;have i7:=ha.min Q.ca;have i8:=hb.min Q.db;have e9:=Q.lo;have d_:=Q.hi;unfold vZ at e9;unfold vT at d_;have kb:-20<=p.k/\p.k<=20:=by omega
 obtain⟨B,M⟩:=aD (NI a b p);have i6:-100000<=B/\B<=100000:=by rw[M];unfold NI;omega
 have X:min (p.c.min+a.len) (p.k*1440+p.d.min+b.len)=B:=M.symm;obtain⟨l,z⟩:=aD (max 0 (-p.k));have i5:0<=l/\l<=20:=by omega
 obtain⟨n,hn⟩:=aD (RP a b q p);have Z:max 0 ((q-B) / 1440+1-l)=n:=by rw[hn,M,z];rfl
 have Y:n=0:=by omega
 obtain⟨e,f,hm,c_,A⟩:=zi p.gx p.gy p.xs p.ys Q.xo Q.yo;have e_:D0 (λe=>RP a b q p<=e/\fu p.xs e/\fu p.ys e) e f:=hm.iff λx=>by rw[<-hn,Y]
 rw[Y]at Z;refine⟨e,f,e_,λ_=>c_.2,?_⟩;refine jN (tab:=tab) (b:=11) (args:=[.a p.row]) (H:=J) L rfl λQ' W=>?_;obtain⟨d,v⟩:=aD (J.length);obtain⟨S,y⟩:=aD (J++[bB.box p.row 0]);have g_:=au L;have b9:S[d]?=aa (.box p.row 0):=by rw[y,v];simp
 have k1:∀i:Nat,i<J.length->S[i]?=J[i]?:=λi hi=>by rw[y,afy hi]
 have l1:S.length=d+1:=by rw[y,afK,v];rfl
 have f8:p.row.length=8:=rfl;refine av (.inr rfl) ?_;simp[f8];rw[<-y,<-v];have i4:S[11]?=aa (.lp mz O [P.nat 47] jD jE .ready ab 10):=by rw[k1 11 g_];exact L
 refine rK i4 ?_;obtain⟨g,u⟩:=aD (S.set 11 (.lp mz O [P.nat 47] jD jE .busy ab 10));have k2:∀i:Nat,i<J.length->i≠11->g[i]?=J[i]?:=λi hi f7=>by rw[u,ae2 (Ne.symm f7),k1 i hi]
 have j:g[d]?=aa (.box p.row 0):=by rw[u,ae2 (by omega)];exact b9
 have K:g[11]?=aa (.lp mz O [P.nat 47] jD jE .busy ab 10):=by rw[u];exact afC (by omega)
 have U:g[10]?=aa (.gI ae):=by rw[k2 10 (by omega) (by omega)];exact b_
 have m:FQ a b q s g:=hq.cZ λi hi=>k2 i (by omega) (by omega);have l2:g.length=d+1:=by rw[u,af7];exact l1
 rw[<-u];unfold Pr.row at j;rw[<-z]at j;have c0:aQ g ab (.c (.ptr d 1 0))=aa (vi p.c.min):=by simp[aQ,aw,j]
 have c1:aQ g ab (.c (.ptr d 4 0))=aa (vi p.k):=by simp[aQ,aw,j]
 have c2:aQ g ab (.c (.ptr d 3 0))=aa (vi p.d.min):=by simp[aQ,aw,j]
 have c3:aQ g ab (.c (.ptr d 7 0))=aa (vi l):=by simp[aQ,aw,j]
 have c4:aQ g (aa 1) (.c (.ptr d 5 0))=aa (.a [.f (sl p.gx (aT p.xs))]):=by simp[aQ,aw,j,aO]
 have c5:aQ g (aa 1) (.c (.ptr d 6 0))=aa (.a [.f (sl p.gy (aT p.ys))]):=by simp[aQ,aw,j,aO]
 have c6:aQ g (aa 2) (.c (.ptr d 0 0))=aa (.a [.f (sl p.c.mg (aT p.c.ts)),.f (fi p.c.min)]):=by simp[aQ,aw,j,aO]
 have c7:aQ g (aa 2) (.c (.ptr d 2 0))=aa (.a [.f (sl p.d.mg (aT p.d.ts)),.f (fi p.d.min)]):=by simp[aQ,aw,j,aO]
 have a1:aQ g ab (.c (.ptr 0 1 0))=aa (vi a.len):=by simp[aQ,aw,m.h0,pj]
 have a3:aQ g (aa 3) (.c (.ptr 0 0 0))=aa (.a [.f (sl a.cg (aP a.cs)),.f (fi a.len),.f (sl a.xg (aC a.xs))]):=by simp[aQ,aw,m.h0,pj,aO]
 have b1:aQ g ab (.c (.ptr 1 1 0))=aa (vi b.len):=by simp[aQ,aw,m.h1,pj]
 have b3:aQ g (aa 3) (.c (.ptr 1 0 0))=aa (.a [.f (sl b.cg (aP b.cs)),.f (fi b.len),.f (sl b.xg (aC b.xs))]):=by simp[aQ,aw,m.h1,pj,aO]
 have f2:aQ g ab (.c (.ptr 2 0 0))=aa (vi q):=by simp[aQ,aw,m.tk.h2]
 have f9:aQ g ab (.c (.ptr 9 0 0))=aa (.c C'):=by simp[aQ,aw,m.h9]
 have fl:=vQ (q-B) (by omega) (by omega);have F:=xl (sl a.cg (aP a.cs)) (sl a.xg (aC a.xs)) (sl p.c.mg (aT p.c.ts)) a.len p.c.min (e+l) (by omega) (by omega) (by omega) (by omega);have I:=xl (sl b.cg (aP b.cs)) (sl b.xg (aC b.xs)) (sl p.d.mg (aT p.d.ts)) b.len p.d.min (e+l+p.k) (by omega) (by omega) (by omega) (by omega);rw[decide_eq_true (show e+l<=(2251799813685248-p.c.min-a.len) / 1440 by omega)]at F;rw[decide_eq_true (show e+l+p.k<=(2251799813685248-p.d.min-b.len) / 1440 by omega)]at I;have a8:=B0 (sl a.cg (aP a.cs)) (sl a.xg (aC a.xs)) (sl p.c.mg (aT p.c.ts)) a.len p.c.min (e+l) (by unfold fK;omega) (by unfold fK;omega) (by unfold fK;omega);have a9:=B0 (sl b.cg (aP b.cs)) (sl b.xg (aC b.xs)) (sl p.d.mg (aT p.d.ts)) b.len p.d.min (e+l+p.k) (by unfold fK;omega) (by unfold fK;omega) (by unfold fK;omega);have hX:cm a.len p.c.min (e+l)=gC a p e:=by unfold gC;rw[<-z]
 have hY:cm b.len p.d.min (e+l+p.k)=gD b p e:=by unfold gD;rw[<-z]
 rw[hX]at a8;rw[hY]at a9;refine aI ?_;refine ak (av (.inr rfl) ?_);simp[E.g3,E.g4,c0,c1,c2,a1,b1,-aq,bg (n:=p.c.min+a.len),bg (n:=p.k*1440),bg (n:=p.k*1440+p.d.min),bg (n:=p.k*1440+p.d.min+b.len),X];refine ak (av (.inr rfl) ?_);simp[E.g5,f2,c3,-aq,bg (n:=q-B),fl,bg (n:=(q-B) / 1440+1),bg (n:=(q-B) / 1440+1-l),Z];refine ak (av (.inr rfl) ?_);simp[c4,c5,-aq,A];apply ak;cases f with
 |false=>
  refine av (.inr rfl) ?_;simp;refine bc (by simp) ?_;refine aA (dY (W _ _ _ _ _ _ _ _ _ _ rfl K ⟨rfl,?_,?_,afC (au K),by show J.length<=(g.set 11 _).length;rw[af7];omega,λi h1 h2=>?_⟩))
  .exact m.cZ λi hi=>by rw[ae2 (by omega)]
  .rw[ae2 (by omega)];exact U
  .rw[ae2 (by omega),k2 i h2 (by omega)]
 |true=>
  obtain⟨J3,d9,f_,i9,N⟩:=PS m (gC a p e) (gD b p e);refine av (.inr rfl) ?_;simp[E.g3,E.g4,a3,b3,c1,c3,c6,c7,-aq,bg (n:=e+l),bg (n:=e+l+p.k),F,I];refine al (by simp) ?_;refine av (.inr rfl) ?_;simp[E.g3,E.g4,E.g13,f9,a3,b3,c1,c3,c6,c7,-aq,bg (n:=e+l),bg (n:=e+l+p.k),a8,a9,C',d9.eq];have a_:J3[11]?=aa (.lp mz O [P.nat 47] jD jE .busy ab 10):=by rw[N 11 (by omega) (by omega)];exact K
  have h_:J3[10]?=aa (.gI ae):=by rw[N 10 (by omega) (by omega)];exact U
  refine aA (dY (W _ _ _ _ _ _ _ _ _ _ rfl a_ ⟨rfl,?_,?_,afC (au a_),by show J.length<=(J3.set 11 _).length;rw[af7];omega,λi h1 h2=>?_⟩))
  .exact f_.cZ λi hi=>by rw[ae2 (by omega)]
  .rw[ae2 (by omega)];exact h_
  .rw[ae2 (by omega),N i (by omega) (by omega),k2 i h2 (by omega)]
def PM(a b:aN)(p:Pr)(x y:aE):Prop:=∃e,0<=e/\fu p.xs e/\fu p.ys e/\x=gC a p e/\y=gD b p e
def fR(s:aN)(x:aE):Prop:=∃c∈s.cs,∃d,0<=d/\fu c.ts d/\x=cm s.len c.min d
theorem RZ{a b:aN}(i:pT a)(k:pT b){g:Int}(f0:-2251799813685248<=g)(f1:g<=-1000000000000){p:Pr}(I:qC a b p){e:Int}{f:Bool}(F:D0 (λe=>RP a b g p<=e/\fu p.xs e/\fu p.ys e) e f)(B:f=ae->e<=1000001000000){S:aE->aE->Prop}{s:FS}(n:fA g S s) :
  fA g (λx y=>S x y\/PM a b p x y) (FE a b g p e f s):=by
 obtain⟨b9,b_⟩:=i.len;obtain⟨c_,d9⟩:=k.len;have r:=i.min I.ca;have w:=k.min I.db;have O:=I.lo;have N:=I.hi;unfold vZ at O;unfold vT at N;have kb:-20<=p.k/\p.k<=20:=by omega
 have key:∀m q,PM a b p m q->okB g m q->∃d,RP a b g p<=d/\0<=d/\fu p.xs d/\fu p.ys d/\m=gC a p d/\q=gD b p d:=by
  rintro m q ⟨d,h0,J,K,rfl,rfl⟩ ⟨-,-,L⟩;refine⟨d,?_,h0,J,K,rfl,rfl⟩;simp only[mI,gC,gD,cm]at L;unfold RP NI;omega
 unfold FE;rcases F with⟨rfl,-,Q⟩|⟨rfl,⟨h0,J,K⟩,l⟩
 .simp only[Bool.false_eq_true,if_false];refine n.none λm q M H=>?_;obtain⟨d,U,-,W,Z,-⟩:=key m q M H;exact Q d ⟨U,W,Z⟩
 .simp only[if_true];have a_:0<=RP a b g p:=by unfold RP;omega
  have B:=B rfl;refine n.step ⟨e,by omega,J,K,rfl,rfl⟩ λm q M H=>?_;obtain⟨d,U,k0,W,Z,rfl,rfl⟩:=key m q M H;have a9:=l d ⟨U,W,Z⟩;obtain⟨-,-,L⟩:=H;obtain⟨v,j⟩:=aD (max 0 (-p.k));have o:0<=v/\v<=20:=by omega
  obtain⟨z,t⟩:=aD ((d-e)*1440);have A:0<=z/\(d≠e->0<z):=⟨by omega,λh=>by omega⟩
  have c:(gC a p e).fr=(e+v)*1440+p.c.min/\(gC a p e).to=(e+v)*1440+p.c.min+a.len:=by unfold gC cm;rw[<-j];exact⟨rfl,rfl⟩
  have ya:(gD b p e).fr=(e+v+p.k)*1440+p.d.min/\(gD b p e).to=(e+v+p.k)*1440+p.d.min+b.len:=by unfold gD cm;rw[<-j];exact⟨rfl,rfl⟩
  have xb:(gC a p d).fr=(gC a p e).fr+z/\(gC a p d).to=(gC a p e).to+z:=by unfold gC cm;simp only;rw[<-j];omega
  have yb:(gD b p d).fr=(gD b p e).fr+z/\(gD b p d).to=(gD b p e).to+z:=by unfold gD cm;simp only;rw[<-j];omega
  have a8:g<(gC a p e).to/\g<(gD b p e).to:=by
   rw[c.2,ya.2];unfold RP NI at h0;rw[<-j]at h0;omega
  have E:(gC a p e).to<=2251799813685248/\(gD b p e).to<=2251799813685248:=by rw[c.2,ya.2];omega
  have u:d=e->gC a p d=gC a p e/\gD b p d=gD b p e:=λh=>by subst h;exact⟨rfl,rfl⟩
  generalize gC a p e=X at *;generalize gD b p e=Y at *;generalize gC a p d=X' at *;generalize gD b p d=Y' at *;clear c ya h0 l;unfold mI at L;refine⟨⟨E.1,E.2,?_⟩,?_⟩
  .unfold mI;omega
  .by_cases F:d=e
   .obtain⟨rfl,rfl⟩:=u F;unfold wE aE.lt;omega
   .have:=A.2 F;unfold wE aE.lt mI;omega
theorem X7{a b:aN}(L:pT a)(M:pT b){A:Int}{ps:List Pr}(m:∀p∈ps,qC a b p)(l:∀c∈a.cs,∀d∈b.cs,∀k,vZ a.len b.len c d<=k->k<=vT a.len b.len c d->∃p∈ps,p.c=c/\p.d=d/\p.k=k)(x y:aE)(H:okB A x y):(fR a x/\fR b y)↔∃p∈ps,PM a b p x y:=by
 constructor
 .rintro⟨⟨c,E,g,N,J,rfl⟩,⟨d,F,s,O,K,rfl⟩⟩;obtain⟨-,-,B⟩:=H;simp only[mI,cm]at B;obtain⟨p,q,rfl,rfl,I⟩:=l c E d F (s-g) (by unfold vZ;omega) (by unfold vT;omega);have j:=m p q;refine⟨p,q,g-max 0 (-p.k),by omega,(j.xm _ (by omega)).2 (by rw[show g-max 0 (-p.k)+max 0 (-p.k)=g by omega];exact J),(j.ym _ (by omega)).2 (by rw[show g-max 0 (-p.k)+max 0 p.k=s by omega];exact K),?_,?_⟩
  .unfold gC;rw[show g-max 0 (-p.k)+max 0 (-p.k)=g by omega]
  .unfold gD;rw[show g-max 0 (-p.k)+max 0 (-p.k)+p.k=s by omega]
 .rintro⟨p,q,e,u,v,z,rfl,rfl⟩;have j:=m p q;refine⟨⟨p.c,j.ca,e+max 0 (-p.k),by omega,(j.xm e u).1 v,rfl⟩,⟨p.d,j.db,e+max 0 (-p.k)+p.k,by omega,?_,rfl⟩⟩;have:=(j.ym e u).1 z;rw[show e+max 0 (-p.k)+p.k=e+max 0 p.k by omega];exact this
def FW(a b:aN)(g:Int)(S:aE->aE->Prop)(d:List Nat)(J:aj):Prop:=(∃s,FQ a b g s J/\fA g S s)/\gB d J/\∀i∈d,10<=i/\i<J.length
theorem NP{t:T}{n:Nat}{v:V}(A:n ∉ [3,4,5,6,7,9,10,12,13]):FT (t.s n v)↔FT t:=by
 simp only[afZ,agS,or_false,not_or]at A;obtain⟨q,s,u,x,y,z,j,l,m⟩:=A;constructor
 .rintro⟨a,b,c,d,e,f,g,h,i⟩;refine⟨?_,?_,?_,?_,?_,?_,?_,?_,?_⟩
  .simpa[q]using a
  .simpa[s]using b
  .simpa[u]using c
  .simpa[x]using d
  .simpa[y]using e
  .simpa[z]using f
  .simpa[j]using g
  .simpa[l]using h
  .simpa[m]using i
 .rintro⟨a,b,c,d,e,f,g,h,i⟩;refine⟨?_,?_,?_,?_,?_,?_,?_,?_,?_⟩
  .simpa[q]using a
  .simpa[s]using b
  .simpa[u]using c
  .simpa[x]using d
  .simpa[y]using e
  .simpa[z]using f
  .simpa[j]using g
  .simpa[l]using h
  .simpa[m]using i
theorem I_(a b:aN)(S:pT a)(U:pT b)(m:Int)(f0:-2251799813685248<=m)(f1:m<=-1000000000000) :
  ∃s:FS,fA m (λx y=>fR a x/\fR b y) s/\aX tab mz [.a (a.row.map .f),.a (b.row.map .f),vi m]=Eq (.t [.a (s.X.row.map .f),.a (s.Y.row.map .f),vb s.found]):=by
 obtain⟨r,⟨s,M,rfl⟩,h⟩:∃r,(∃s:FS,fA m (λx y=>fR a x/\fR b y) s/\r=.t [.a (s.X.row.map .f),.a (s.Y.row.map .f),vb s.found])/\aX tab mz [.a (a.row.map .f),.a (b.row.map .f),vi m] r:=by
  refine zr adz rfl λQ hQ=>?_;have Z:=(lI a S.sm).eq;rw[S.v]at Z;simp[aN.row]at Z;have a8:=(lI b U.sm).eq;rw[U.v]at a8;simp[aN.row]at a8;have i4:max m (-2251799813685248)=m:=by omega
  apply ai;simp[aN.row];apply ak;apply ai;simp[Z,a8,show¬ 2251799813685248<m by omega];refine bc (by simp) ?_;apply ai;simp[i4];apply ai;simp;apply ai;simp;apply ai;simp;obtain⟨v,F⟩:=aD ([.box (pj a) 0,.box (pj b) 0,.box [.f (fi m)] 0,.box [.f (fi 0),.f (fi 0),.f (fi 0)] 0,.box [.f (fi 0),.f (fi 0),.f (fi 0)] 0,.box [.f (fi 0),.f (fi 0),.f (fi 0)] 0,.box [.f (fi 0),.f (fi 0),.f (fi 0)] 0,.box [.f (fi 0)] 0,.box [.f (.bool ag)] 0,.box [C'] 0]:aj);have Y:FQ a b m ⟨0,ag,⟨0,0,0⟩,⟨0,0,0⟩⟩ v:=by rw[F];exact⟨rfl,rfl,rfl,rfl,rfl,⟨rfl,rfl,rfl,rfl,rfl⟩⟩
  have l0:v.length=10:=by rw[F];rfl
  unfold pj C' at F;rw[<-F];have la:∀(J:aj) (s:FS),FQ a b m s J->aQ J (aa 3) (.c (.ptr 0 0 0))=aa (.a [.f (sl a.cg (aP a.cs)),.f (fi a.len),.f (sl a.xg (aC a.xs))])/\aQ J ab (.c (.ptr 0 2 0))=aa (.c (.f (sl a.xg (aC a.xs)))):=λJ s h=>by refine⟨?_,?_⟩<;>simp[aQ,aw,h.h0,pj,aO]
  have lb:∀(J:aj) (s:FS),FQ a b m s J->aQ J (aa 3) (.c (.ptr 1 0 0))=aa (.a [.f (sl b.cg (aP b.cs)),.f (fi b.len),.f (sl b.xg (aC b.xs))])/\aQ J ab (.c (.ptr 1 2 0))=aa (.c (.f (sl b.xg (aC b.xs)))):=λJ s h=>by refine⟨?_,?_⟩<;>simp[aQ,aw,h.h1,pj,aO]
  have iP:∀H:aj,bo H (.f (sl a.xg (aC a.xs)))=aa a.xs.length:=λH=>by simp
  have d_:∀H:aj,bo H (.f (sl b.xg (aC b.xs)))=aa b.xs.length:=λH=>by simp
  have e9:∀(t:T) (J:aj) (l:List Nat),FT t->FW a b m (λx y=>fR a x/\fR b y) l J->WP tab mz ab [.code Qy] ⟨t,l.map .iM,J⟩ Q:=by
   rintro t J l d ⟨⟨s,u,M⟩,b_,W⟩;have l9:=au u.h9;have lx:∀J':aj,J'[5]?=J[5]?->aQ J' (aa 3) (.c (.ptr 5 0 0))=aa (.a [.f (fi s.X.day),.f (fi s.X.fr),.f (fi s.X.to)]):=λJ' h=>by simp[aQ,aw,h,u.tk.h5,aO]
   have ly:∀J':aj,J'[6]?=J[6]?->aQ J' (aa 3) (.c (.ptr 6 0 0))=aa (.a [.f (fi s.Y.day),.f (fi s.Y.fr),.f (fi s.Y.to)]):=λJ' h=>by simp[aQ,aw,h,u.tk.h6,aO]
   have lf:∀J':aj,J'[8]?=J[8]?->aQ J' ab (.c (.ptr 8 0 0))=aa (vb s.found):=λJ' h=>by simp[aQ,aw,h,u.tk.h8]
   obtain⟨B,I⟩:=aD (J.set 3 (.box [.f (fi s.X.day),.f (fi s.X.fr),.f (fi s.X.to)] 0));have s1:cz J (.ptr 3 0 0) [.f (fi s.X.day),.f (fi s.X.fr),.f (fi s.X.to)]=aa B:=by rw[I];simp[cz,u.h3,bp]
   have k1:∀i:Nat,i≠3->B[i]?=J[i]?:=λi hi=>by rw[I,ae2 (Ne.symm hi)]
   have n1:B.length=J.length:=by rw[I];simp
   obtain⟨E,K⟩:=aD (B.set 4 (.box [.f (fi s.Y.day),.f (fi s.Y.fr),.f (fi s.Y.to)] 0));have s2:cz B (.ptr 4 0 0) [.f (fi s.Y.day),.f (fi s.Y.fr),.f (fi s.Y.to)]=aa E:=by rw[K];simp[cz,k1 4 (by omega),u.h4,bp]
   have k2:∀i:Nat,i≠4->E[i]?=B[i]?:=λi hi=>by rw[K,ae2 (Ne.symm hi)]
   have n2:E.length=J.length:=by rw[K];simp[n1]
   refine ak (dy (.inl rfl) ?_ ?_)
   case refine_2=>
    intro cc f8;have f7:cc=(1,4)\/cc=(2,4)\/cc=(2,6):=by simpa using f8
    rcases f7 with rfl|rfl|rfl
    .refine⟨by decide,_,rfl,.inl ⟨by decide,?_⟩⟩;simp[d.g6,d.g7,d.g9,d.g10,d.g12,lx J rfl,ly J rfl,lf J rfl,ly B (k1 6 (by omega)),s1,-aq,-aU,fO,V.beq,C.beq,FC.beq]
    .refine⟨by decide,_,rfl,.inl ⟨by decide,?_⟩⟩;simp[d.g6,d.g7,d.g9,d.g10,d.g12,lx J rfl,ly J rfl,lf J rfl,lf B (k1 8 (by omega)),s1,-aq,-aU,fO,V.beq,C.beq,FC.beq]
    .refine⟨by decide,_,rfl,.inl ⟨by decide,?_⟩⟩;simp[d.g6,d.g7,d.g9,d.g10,d.g12,lx J rfl,ly J rfl,lf J rfl,lf E ((k2 8 (by omega)).trans (k1 8 (by omega))),s1,s2,-aq,-aU,fO,V.beq,C.beq,FC.beq]
   simp[d.g6,d.g7,d.g9,d.g10,d.g12,lx J rfl,ly J rfl,lf J rfl,s1,s2,-aq,-aU];have i8:(3:Nat) ∉ l:=λh=>by have:=(W 3 h).1;omega
   have i9:(4:Nat) ∉ l:=λh=>by have:=(W 4 h).1;omega
   have e3:(oT l E)[3]?=aa (.box [.f (fi s.X.day),.f (fi s.X.fr),.f (fi s.X.to)] 0):=by rw[jY i8,k2 3 (by omega),I];exact afC (by omega)
   have e4:(oT l E)[4]?=aa (.box [.f (fi s.Y.day),.f (fi s.Y.fr),.f (fi s.Y.to)] 0):=by rw[jY i9,K];exact afC (by omega)
   refine az (hQ _ _ _ ⟨s,M,rfl⟩ ⟨l,rfl,⟨b_.nd,λz hz=>?_⟩,.t [.a (s.X.row.map .f),.a (s.Y.row.map .f),vb s.found],?_,by simp[fC,bX,aZ,deep,eg,aE.row]⟩)
   .have:=(W z hz).1;show E[z]?=_;rw[k2 z (by omega),k1 z (by omega)];exact b_.on z hz
   .simp[Km.results,cu,aZ,d.g6,d.g7,aQ,aw,e3,e4,aO,aE.row]
  have a_:∀(t:T) (J:aj) (l:List Nat),FT t->FW a b m (λx y=>fR a x/\fR b y) l J->WP tab mz ab [.code Qx] ⟨t,l.map .iM,J⟩ Q:=by
   intro t J l d L;have O:=L;obtain⟨⟨s,u,-⟩,-⟩:=O;apply ak;apply ai;simp[d.g4,(lb J s u).2,d_,U.xs,-aq];refine AN 0 (λ_ t ds J=>FT t/\∃l,ds=l.map .iM/\FW a b m (λx y=>fR a x/\fR b y) l J) (by omega) (by decide) (by decide) (by simp) (by simp)
    ⟨by simp[NP,d],l,rfl,L⟩ (λj _ _ _ hj=>by omega) ?_
   rintro t ds J ⟨d,l,rfl,L⟩ - -;exact e9 _ J l (by simp[NP,d]) L
  have a9:∀(t:T) (J:aj) (l:List Nat),FT t->FW a b m (λx y=>fR a x/\fR b y) l J->WP tab mz ab [.code FO] ⟨t,l.map .iM,J⟩ Q:=by
   intro t J l d L;have O:=L;obtain⟨⟨s,u,-⟩,-⟩:=O;apply ak;apply ai;simp[d.g3,(la J s u).2,iP,S.xs,-aq];refine AN 0 (λ_ t ds J=>FT t/\∃l,ds=l.map .iM/\FW a b m (λx y=>fR a x/\fR b y) l J) (by omega) (by decide) (by decide) (by simp) (by simp)
    ⟨by simp[NP,d],l,rfl,L⟩ (λj _ _ _ hj=>by omega) ?_
   rintro t ds J ⟨d,l,rfl,L⟩ - -;exact a_ _ J l (by simp[NP,d]) L
  suffices start:∀t:T,FT t->WP tab mz ab [.code Qv] ⟨t,[],v⟩ Q by exact start _ ⟨by simp,by simp,by simp,by simp,by simp,by simp,by simp,by simp,by simp⟩
  intro t d;have d9:=yM a b;simp only[aN.row,afS,afW]at d9;apply ak;apply ai;simp[d.g3,d.g4,(la v _ Y).1,(lb v _ Y).1,-aq,d9];refine aI ?_
  suffices go:∀N:T,FT N->N.g 46=.c (.f (.fn mb [.fp a.row 0,.fp b.row 0]))->WP tab mz ab [.code Qw,.inBlock 0,.code FO] ⟨N,[],v⟩ Q by exact go _ (by simp[NP,d]) (by simp[aN.row])
  clear d t;intro N d e_;obtain⟨HR,A⟩:=aD (v++[.gI ae,.lp mz N [P.nat 47] jD jE .ready ab 10]:aj);have lR:HR.length=12:=by rw[A,afK,l0];rfl
  have kR:∀i:Nat,i<10->HR[i]?=v[i]?:=λi hi=>by rw[A,afy (by omega)]
  have rd:HR[10]?=aa (.gI ae):=by rw[A,afI (by omega),l0];rfl
  have rl:HR[11]?=aa (.lp mz N [P.nat 47] jD jE .ready ab 10):=by rw[A,afI (by omega),l0];rfl
  obtain⟨H2,he,ps,⟨s,u,M,e1,e2,e3⟩,i5,b9⟩:=Jb (bb:=11) (H:=HR) a b S U
   (λps J'=>∃s,FQ a b m s J'/\fA m (λx y=>∃p∈ps,PM a b p x y) s/\J'[10]?=aa (.gI ae)/\J'[11]?=aa (.lp mz N [P.nat 47] jD jE .ready ab 10)/\12<=J'.length)
   ⟨_,Y.cZ kR,.inl ⟨rfl,rfl,rfl,λx y ⟨p,hp,_⟩=>by simp at hp⟩,rd,rl,by omega⟩
   (λps B E ⟨s,u,M,e1,e2,e3⟩ X hl=>⟨s,u.cZ λi hi=>X i (by omega),M,by rw[X 10 (by omega)];exact e1,by rw[X 11 (by omega)];exact e2,by omega⟩)
   (λps p B ⟨s,u,M,e1,e2,e3⟩ hl hp=>by
    obtain⟨e,f,c_,g_,r,E,h_,rfl,i7,k1,k2,k3,k4⟩:=E_ a b S U f0 f1 d hp u e1 e2;refine⟨E,h_,⟨_,i7,(RZ S U f0 f1 hp c_ g_ M).iff λx y _=>?_,k1,k2,by omega⟩,k3,λi h1 h2=>k4 i (by omega) h2⟩;constructor
    .rintro⟨q,i6,h⟩;rcases afY.1 i6 with h'|h'
     .exact .inl ⟨q,h',h⟩
     .rw[afO]at h';rw[h']at h;exact .inr h
    .rintro(⟨q,h',h⟩|h)
     .exact⟨q,ag6 _ h',h⟩
     .exact⟨p,by simp,h⟩)
  rw[A]at he;have f_:Ev tab (.fn mb) [.c (.yl (v.length+1)),.c (.f (.fp a.row 0)),.c (.f (.fp b.row 0))] (v++[.gI ae,.lp mz N [P.nat 47] jD jE .ready ab v.length]) (.t []) H2:=by rw[l0];exact he
  refine mZ (g:=mb) (by rw[Iv,e_];simp[cL]) f_ ?_;rw[l0];refine oN e2 (by decide) (aA ?_);refine a9 N _ [10] d ⟨⟨s,u.cZ λi hi=>by rw[ae2 (by omega)],M.iff λx y hk=>X7 S U i5 b9 x y hk⟩,⟨by simp,λi hi=>?_⟩,λi hi=>?_⟩
  .rw[afO]at hi;rw[hi,ae2 (by omega)];exact e1
  .rw[afO]at hi;rw[hi,af7];omega
 exact⟨s,M,h.eq⟩
def iu(n:Int):Int:=IntKind.i64.wrap n
def KH(af:Int)(s:aB)(X Y:aE)(f:Bool):List Int:=if f then [15,s.meet,X.day,iu X.fr,iu (X.to-af),Y.day,iu Y.fr,iu (Y.to-af)]else [15,s.meet,0,0,0,0,0,0]
def fh(af:Int)(x:aB)(mt:aB->Bool)(fx fy:aB->aE)(fd:aB->Bool):List aB->List Int
 |[]=>[0,0,0,0,0,0,0,0]| s::r=>if s.meet=x.meet\/mt s=ag then fh af x mt fx fy fd r else KH af s (fx s) (fy s) (fd s)
theorem F9(af:Int)(s:aB)(X Y:aE)(f:Bool):(KH af s X Y f).length=8:=by unfold KH;split<;>rfl
theorem lN(af:Int)(x:aB)(mt:aB->Bool)(fx fy:aB->aE)(fd:aB->Bool):∀l,(fh af x mt fx fy fd l).length=8
 |[]=>rfl| s::r=>by unfold fh;split;exact lN af x mt fx fy fd r;exact F9 ..
theorem qG{af:Int}{x:aB}{mt:aB->Bool}{fx fy:aB->aE}{fd:aB->Bool}:∀{d l:List aB},(∀s∈d,s.meet=x.meet\/mt s=ag)->fh af x mt fx fy fd (d++l)=fh af x mt fx fy fd l
 |[],_,_=>rfl
 |s::r,l,h=>by
  rw[agu,fh,bu (h s afN)];exact qG λy b=>h y (afQ _ b)
structure QF(H:aj)(cd:List FC)(own:aN)(J:aj):Prop where
 k:Kp H J
 h1:J[H.length]?=aa (.box [.f (.fp cd 0)] 0)
 h2:J[H.length+1]?=aa (.box (([0,0,0,0,0,0,0,0]:List Int).map λn=>.f (fi n)) 0)
 h3:J[H.length+2]?=aa (.box [.f (fi 0)] 0)
 h4:J[H.length+3]?=aa (.box (own.row.map .f) 0)
 h5:J[H.length+4]?=aa (.box [.f (.bool ae)] 0)
 cl:gB [H.length+5] J
theorem QF.cZ{H:aj}{j:List FC}{g:aN}{J J':aj}(h:QF H j g J)(m:J.length<=J'.length)(d:∀i:Nat,i<J.length->i≠H.length+6->J'[i]?=J[i]?):QF H j g J':=by
 have q:=au (h.cl.on _ afN);have s:=h.k.1;refine⟨⟨by omega,λb l=>by rw[d b (by omega) (by omega)];exact h.k.2 b l⟩,?_,?_,?_,?_,?_,⟨h.cl.nd,λi hi=>?_⟩⟩
 .rw[d _ (by omega) (by omega)];exact h.h1
 .rw[d _ (by omega) (by omega)];exact h.h2
 .rw[d _ (by omega) (by omega)];exact h.h3
 .rw[d _ (by omega) (by omega)];exact h.h4
 .rw[d _ (by omega) (by omega)];exact h.h5
 .rw[afO.1 hi,d _ (by omega) (by omega)];exact h.cl.on _ afN
structure Z3(N:Nat)(t:T):Prop where
 g1:t.g 1=.c (.ptr N 0 0)
 g2:t.g 2=.c (.ptr (N+1) 0 0)
 g3:t.g 3=.c (.ptr (N+2) 0 0)
 g4:t.g 4=.c (.ptr (N+3) 0 0)
 g5:t.g 5=.c (.ptr (N+4) 0 0)
theorem jC{J:aj}{b:Nat}{o:aN}(h:J[b]?=aa (.box (o.row.map .f) 0)):aQ J (aa 3) (.c (.ptr b 0 0))=aa (.a (o.row.map .f)):=by
 have:(o.row.map C.f).length=3:=rfl;simp[aQ,aw,h,aO,this,aN.row]
theorem BU(af z:Int)(sd:FC)(x:aB)(hx:Is x)(s:aB)(hs:Is s)(A o:aN)
  (ho:aX tab sP [.c (.f (eI af z)),.a (s.row.map .f)]=Eq (.t [.a (o.row.map .f),vb ae]))
  (m:Bool) (hm:aX tab iz [.a (A.row.map .f),.a (o.row.map .f)]=Eq (.t [vb m,vi 0]))
  (X Y:aE) (fd:Bool) (hf:aX tab mz [.a (A.row.map .f),.a (o.row.map .f),vi (-2251799813685248)]=Eq (.t [.a (X.row.map .f),.a (Y.row.map .f),vb fd]))
  {H J:aj} {tm:T} (l:Z3 H.length tm) (hq:QF H ([eI af z,sd]++x.row) A J)
  (h6:J[H.length+6]?=aa (.lp fT tm [P.nat 41] gL fI .ready ab (H.length+5))) :
  ∃(r:Bool) (J':aj),Ev tab (.yield (H.length+6)) [.a (s.row.map .f)] J (vb r) J'/\(if r then(s.meet=x.meet\/m=ag)/\QF H ([eI af z,sd]++x.row) A J'/\J'[H.length+6]?=J[H.length+6]? else
   ¬ (s.meet=x.meet\/m=ag)/\Kp H J'/\J'[H.length+1]?=aa (.box ((KH af s X Y fd).map λn=>.f (fi n)) 0)/\J'[H.length+2]?=aa (.box [.f (fi 0)] 0)/\gB [H.length+5] J'/\
    J'[H.length+6]?=aa (.lp fT tm [P.nat 41] gL fI .done (aa .ret) (H.length+5))):=by
 obtain⟨N,hN⟩:=aD (H.length);have y:=uN af z sd x hx.r0 hx.r1;have n9:=j3 af z hs.r0 hs.r1;have Z:=λH:aj=>a7 (H:=H) (g:=.fs) (rows:=rows (bQ af z)) (sz:=15) (k:=.i64) (i:=s.room) hs.r0 (by simp[bQ];have:=hs.r1;omega);have g_:=λH:aj=>bE (H:=H) (dt (bQ af z)) (j:=s.room.toNat) (row:=(bI af z s.room).row) (by rw[rows,agl,n9];rfl);have A_:=zB af z x.room X;have e9:=zB af z s.room Y;obtain⟨cd,f_⟩:=aD ([eI af z,sd]++x.row);have l0:∀K:aj,aQ K ab (.c (.f (.fp cd 0)))=aa (.c (.f (eI af z))):=λK=>by rw[f_];rfl
 have l2:∀K:aj,aQ K ab (.c (.f (.fp cd 2)))=aa (vi x.meet):=λK=>by rw[f_];rfl
 simp only[eC]at y;rw[<-f_]at y hq ⊢;obtain⟨rm,r_⟩:=aD (eI af z);change ∀H:aj,bw H 15 ab (.c (.f (eI af z))) (vi s.room)=_ at Z;change ∀H:aj,aQ H (aa 15) (.c (.f (.fp (rows (bQ af z)).flatten _)))=_ at g_;rw[<-r_]at l0 Z ho;obtain⟨rx,s9⟩:=aD ((bI af z x.room).row);obtain⟨rs,s7⟩:=aD ((bI af z s.room).row);rw[<-s9]at y A_;rw[<-s7]at g_ e9;obtain⟨row,a9⟩:=aD (s.row);have r5:row.length=7:=by rw[a9];rfl
 rw[<-a9]at ho ⊢;obtain⟨ow,i9⟩:=aD (A.row);obtain⟨oo,i4⟩:=aD (o.row);have q_:oo.length=3:=by rw[i4];rfl
 obtain⟨xx,j6⟩:=aD (X.row);obtain⟨yy,j8⟩:=aD (Y.row);have j5:xx.length=3:=by rw[j6];rfl
 have j7:yy.length=3:=by rw[j8];rfl
 rw[<-i4]at ho hm hf;rw[<-i9]at hm hf;rw[<-j6]at hf A_;rw[<-j8]at hf e9;obtain⟨LP,n8⟩:∃LP:fe->Option aH->bB,LP=λst pd=>.lp fT tm [P.nat 41] gL fI st pd (N+5):=⟨_,rfl⟩
 rw[<-hN]at h6 l ⊢;have cond:∃q:Bool,(q=ae↔(s.meet=x.meet\/m=ag)):=⟨decide (s.meet=x.meet\/m=ag),by simp⟩
 obtain⟨q,a8⟩:=cond;refine⟨q,?_⟩;obtain⟨r,J',p_,rfl,h⟩:∃r J',Ev tab (.yield (N+6)) [.a (row.map .f)] J r J'/\(r=vb q/\(if q then QF H cd A J'/\J'[N+6]?=J[N+6]? else
   Kp H J'/\J'[N+1]?=aa (.box ((KH af s X Y fd).map λn=>.f (fi n)) 0)/\J'[N+2]?=aa (.box [.f (fi 0)] 0)/\gB [N+5] J'/\
    J'[N+6]?=aa (.lp fT tm [P.nat 41] gL fI .done (aa .ret) (N+5)))):=by
  have m_:=h6;refine jN (tab:=tab) (b:=N+6) (args:=[.a (row.map .f)]) (H:=J) h6 rfl λQ' i8=>?_;obtain⟨b6,f8⟩:=aD (J.length);have l6:=au h6;refine av (.inr rfl) ?_;simp[r5];rw[<-f8];obtain⟨J1,a_⟩:=aD (J++[bB.box (row.map .f) 0]);rw[<-a_];have k1:∀i:Nat,i<J.length->J1[i]?=J[i]?:=λi hi=>by rw[a_,afy hi]
  have d1:J1[b6]?=aa (.box (row.map .f) 0):=by rw[a_,f8];simp
  have n1:J1.length=b6+1:=by rw[a_,f8];simp
  have e6:=(k1 _ l6).trans h6;refine rK e6 ?_;obtain⟨v,F⟩:=aD (J1.set (N+6) (LP .busy ab));have n2:v.length=b6+1:=by rw[F,af7];exact n1
  have k2:∀i:Nat,i<J.length->i≠N+6->v[i]?=J[i]?:=λi hi h_=>by rw[F,ae2 (Ne.symm h_),k1 i hi]
  have q2:QF H cd A v:=hq.cZ (by omega) λi hi h_=>k2 i hi (by omega);have d2:v[b6]?=aa (.box (row.map .f) 0):=by rw[F,ae2 (by omega)];exact d1
  have f6:v[N+6]?=aa (LP .busy ab):=by rw[F];exact afC (au e6)
  rw[n8]at F f6;rw[<-F];have e_:∀(t:T) (K:aj),q=ae->v.length<=K.length->(∀i:Nat,i<v.length->K[i]?=v[i]?)->Q' ab ⟨t,[],K⟩:=by
   intro t K j4 hl I;have p6:K[N+6]?=aa (.lp fT tm [P.nat 41] gL fI .busy ab (N+5)):=by rw[I _ (by omega)];exact f6
   refine i8 _ _ _ _ _ _ _ _ _ _ rfl p6 ⟨by rw[j4];rfl,?_⟩;rw[bu j4];have n:K.length≥b6+1:=by omega
   refine⟨hq.cZ (by show J.length<=(K.set _ _).length;rw[af7];omega) λi hi h_=>?_,?_⟩
   .rw[ae2 (by omega),I i (by omega),k2 i hi (by omega)]
   .rw[afC (au p6),m_];rfl
  have lc:∀K:aj,v.length<=K.length->(∀i:Nat,i<v.length->K[i]?=v[i]?)->aQ K ab (.c (.ptr N 0 0))=aa (.c (.f (.fp cd 0)))/\aQ K ab (.c (.ptr (N+4) 0 0))=aa (vb ae)/\aQ K (aa 3) (.c (.ptr (N+3) 0 0))=aa (.a (ow.map .f))/\aQ K (aa 7) (.c (.ptr b6 0 0))=aa (.a (row.map .f))/\aQ K ab (.c (.ptr b6 0 0))=aa (vi s.meet)/\aQ K ab (.c (.ptr b6 1 0))=aa (vi s.room):=by
   intro K hl I;have y1:=q2.h1;have y4:=q2.h4;have y5:=q2.h5;rw[<-hN]at y1 y4 y5;have z1:=(I _ (au y1)).trans y1;have z4:=(I _ (au y4)).trans y4;have z5:=(I _ (au y5)).trans y5;have z6:=(I _ (au d2)).trans d2;rw[i9];rw[a9]at z6 ⊢;exact⟨by simp[aQ,aw,z1],by simp[aQ,aw,z5],jC z4,by simp[aQ,aw,z6,aO,aB.row],by simp[aQ,aw,z6,aB.row],by simp[aQ,aw,z6,aB.row]⟩
  obtain⟨a1,a2,a3,a4,a5,a6⟩:=lc v (afJ _) λ_ _=>rfl;refine aI ?_;apply ak;refine ak (av (.inr rfl) ?_);simp[l.g1,a1,a5,l2,-aq];by_cases d9:s.meet=x.meet
  .rw[decide_eq_true d9];refine al (by simp) (bT (k':=[]) (by simp[Km.exitTo]) ?_);exact dY (e_ _ _ (a8.2 (.inl d9)) (afJ _) (λ_ _=>rfl))
  rw[decide_eq_false d9];refine bc (by simp) ?_;apply ak;refine av (.inr rfl) ?_;simp[l.g1,a1,a4,l0,ho,q_,-aq];obtain⟨L,b9⟩:=aD (v++[bB.box (oo.map .f) 0]);rw[<-b9];have k3:∀i:Nat,i<v.length->L[i]?=v[i]?:=λi hi=>by rw[b9,afy hi]
  have n3:L.length=v.length+1:=by rw[b9];simp
  have d7:L[v.length]?=aa (.box (oo.map .f) 0):=by rw[b9];simp
  obtain⟨b7,o_⟩:=aD (v.length);rw[<-o_]at d7 n3 ⊢;have m7:∀K:aj,K[b7]?=L[b7]?->aQ K (aa 3) (.c (.ptr b7 0 0))=aa (.a (oo.map .f)):=λK h=>by
   rw[i4]at d7 ⊢;exact jC (h.trans d7)
  obtain⟨a1,a2,a3,a4,a5,a6⟩:=lc L (by omega) k3;apply ak;refine ak (av (.inr rfl) ?_);simp[l.g5,a2,-aq];refine bc (by simp) ?_;refine ak (av (.inr rfl) ?_);simp[l.g4,a3,m7 L rfl,hm,-aq];apply ak;refine ak (av (.inr rfl) ?_);simp;refine bc (by simp) ?_;apply ak;refine ak (av (.inr rfl) ?_);simp;cases m with
  |false=>
   refine al (by simp) (bT (k':=[]) (by simp[Km.exitTo]) ?_);exact dY (e_ _ _ (a8.2 (.inr rfl)) (by omega) k3)
  |true=>
   have i_:q=ag:=by
    cases q with
    |false=>rfl
    |true=>
     rcases a8.1 rfl with h|h
     .exact absurd h d9
     .cases h
   refine bc (by simp) ?_;obtain⟨J4,O⟩:=aD (L++[bB.box (([15,s.meet,0,0,0,0,0,0]:List Int).map λn=>.f (fi n)) 0]);have k4:∀i:Nat,i<L.length->J4[i]?=L[i]?:=λi hi=>by rw[O,afy hi]
   have n4:J4.length=L.length+1:=by rw[O];simp
   have i6:J4[L.length]?=aa (.box (([15,s.meet,0,0,0,0,0,0]:List Int).map λn=>.f (fi n)) 0):=by rw[O];simp
   obtain⟨d,f7⟩:=aD (L.length);simp only[afS,afW]at O;apply ak;refine av (.inr rfl) ?_;simp[a5,-aq];rw[<-O,<-f7];rw[<-f7]at i6 n4;obtain⟨c1,c2,c3,c4,c5,c6⟩:=lc J4 (by omega) λi hi=>(k4 i (by omega)).trans (k3 i hi);obtain⟨B,Q⟩:=aD (J4++[bB.box (xx.map .f) 0,bB.box (yy.map .f) 0]);have k5:∀i:Nat,i<J4.length->B[i]?=J4[i]?:=λi hi=>by rw[Q,afy hi]
   have n5:B.length=d+3:=by rw[Q,afK,n4];rfl
   have j_:B[d+1]?=aa (.box (xx.map .f) 0):=by rw[Q,afI (by omega),n4];simp
   have k_:B[d+2]?=aa (.box (yy.map .f) 0):=by rw[Q,afI (by omega),n4];simp
   refine ak (ak ?_);refine av (.inr rfl) ?_;simp[l.g4,c3,m7 J4 (k4 _ (by omega)),hf,j5,j7,-aq];rw[n4,<-Q];clear hm ho hf c1 c2 c3 c4 c5 c6 a1 a2 a3 a4 a5 a6
   suffices go:∀u:T,Z3 N u->u.g 6=.c (.ptr b6 0 0)->u.g 11=.c (.ptr d 0 0)->u.g 12=.c (.ptr (d+1) 0 0)->u.g 13=.c (.ptr (d+1+1) 0 0)->u.g 14=vb fd->
     WP tab fT (aa (N+6)) [.code H_,.code yk,.inBlock 1] ⟨u,[],B⟩ Q' by
    exact go _ ⟨by simp[l.g1],by simp[l.g2],by simp[l.g3],by simp[l.g4],by simp[l.g5]⟩ (by simp) (by simp) (by simp) (by simp) (by simp)
   clear l;intro u l g6 M l_ m4 m9;have i5:∀i:Nat,i<v.length->B[i]?=v[i]?:=λi hi=>(k5 i (by omega)).trans ((k4 i (by omega)).trans (k3 i hi));have E:=(k5 d (by omega)).trans i6;have y2:=q2.h2;have y3:=q2.h3;rw[<-hN]at y2 y3;have i7:∀(u:T) (K:aj) (zs:List Int),Z3 N u->u.g 11=.c (.ptr d 0 0)->zs.length=8->zs=KH af s X Y fd->B.length<=K.length->(∀i:Nat,i<v.length->K[i]?=v[i]?)->K[d]?=aa (.box (zs.map λn=>.f (fi n)) 0)->
     WP tab fT (aa (N+6)) [.code yk,.inBlock 1] ⟨u,[],K⟩ Q':=by
    intro u K zs l M hz s_ hl I hb;have l8:aQ K (aa 8) (.c (.ptr d 0 0))=aa (.a (zs.map λn=>.f (fi n))):=by
     have:(zs.map λn=>C.f (fi n)).length=8:=by simpa using hz
     simp[aQ,aw,hb,aO,hz,afM]
    have z2:=(I _ (au y2)).trans y2;have z3:=(I _ (au y3)).trans y3;obtain⟨K1,S⟩:=aD (K.set (N+1) (.box (zs.map λn=>.f (fi n)) 0));have s1:cz K (.ptr (N+1) 0 0) (zs.map λn=>.f (fi n))=aa K1:=by
     rw[S]
     match zs,hz with
     |[p0,p1,p2,p3,p4,p5,p6,p7],_=>simp[cz,z2,bp]
    have j9:K1[N+2]?=aa (.box [.f (fi 0)] 0):=by rw[S,ae2 (by omega)];exact z3
    obtain⟨K2,U⟩:=aD (K1.set (N+2) (.box [.f (fi 0)] 0));have s2:cz K1 (.ptr (N+2) 0 0) [.f (fi 0)]=aa K2:=by rw[U];simp[cz,j9,bp]
    have kK:∀i:Nat,i≠N+1->i≠N+2->K2[i]?=K[i]?:=λi h1 h2=>by rw[U,ae2 (Ne.symm h2),S,ae2 (Ne.symm h1)]
    have kl:K2.length=K.length:=by rw[U,S];simp
    have p6:K2[N+6]?=aa (.lp fT tm [P.nat 41] gL fI .busy ab (N+5)):=by rw[kK _ (by omega) (by omega),I _ (by omega)];exact f6
    refine ak (av (.inr rfl) ?_);simp[M,l.g2,l.g3,l8,hz,s1,s2,-aq,-aU];refine az (i8 _ _ _ _ _ _ _ _ _ _ rfl p6 ⟨by rw[i_];rfl,?_⟩);rw[i_,bG (by simp)];have W:=q2.cl.on _ afN;rw[<-hN]at W;refine⟨⟨?_,λb n_=>?_⟩,?_,?_,⟨by simp,λi hi=>?_⟩,afC (au p6)⟩
    .show H.length<=(K2.set _ _).length;rw[af7,kl];have:=q2.k.1;omega
    .show(K2.set _ _)[b]?=_;rw[ae2 (by omega),kK _ (by omega) (by omega),I _ (by have:=q2.k.1;omega)];exact q2.k.2 b n_
    .show(K2.set _ _)[N+1]?=_;rw[ae2 (by omega),U,ae2 (by omega),S,<-s_];exact afC (au z2)
    .show(K2.set _ _)[N+2]?=_;rw[ae2 (by omega),U];exact afC (au j9)
    .show(K2.set _ _)[i]?=_;rw[afO.1 hi,ae2 (by omega),kK _ (by omega) (by omega),I _ (au W)];exact W
   refine ak (av (.inr rfl) ?_);simp[m9];cases fd with
   |false=>
    refine bc (by simp) ?_;exact i7 _ B [15,s.meet,0,0,0,0,0,0] ⟨by simp[l.g1],by simp[l.g2],by simp[l.g3],by simp[l.g4],by simp[l.g5]⟩ (by simp[M]) rfl rfl (afJ _) i5 E
   |true=>
    refine al (by simp) ?_;obtain⟨c1,c2,c3,c4,c5,c6⟩:=lc B (by omega) i5;have t7:aQ B (aa 3) (.c (.ptr (d+1) 0 0))=aa (.a (xx.map .f)):=by simp[aQ,aw,j_,aO,j5,afM]
    have t9:aQ B (aa 3) (.c (.ptr (d+1+1) 0 0))=aa (.a (yy.map .f)):=by simp[aQ,aw,k_,aO,j7,afM]
    simp only[afS,afW]at E;obtain⟨J6,b_⟩:=aD (B.set d (.box [.f (fi 15),.f (fi s.meet),.f (fi X.day),.f (fi (iu X.fr)),.f (fi (iu (X.to-af))),.f (fi 0),.f (fi 0),.f (fi 0)] 0));have s1:cz B (.ptr d 2 0) [.f (fi X.day),.f (fi (iu X.fr)),.f (fi (iu (X.to-af)))]=aa J6:=by rw[b_];simp[cz,E,bp]
    have d6:J6[d]?=aa (.box [.f (fi 15),.f (fi s.meet),.f (fi X.day),.f (fi (iu X.fr)),.f (fi (iu (X.to-af))),.f (fi 0),.f (fi 0),.f (fi 0)] 0):=by rw[b_];exact afC (au E)
    obtain⟨J7,c_⟩:=aD (J6.set d (.box ((KH af s X Y ae).map λn=>.f (fi n)) 0));have s2:cz J6 (.ptr d 5 0) [.f (fi Y.day),.f (fi (iu Y.fr)),.f (fi (iu (Y.to-af)))]=aa J7:=by rw[c_];simp[cz,d6,bp,KH]
    have k7:∀i:Nat,i≠d->J7[i]?=B[i]?:=λi h=>by rw[c_,ae2 (Ne.symm h),b_,ae2 (Ne.symm h)]
    have t_:∀K:aj,K[N]?=v[N]?->aQ K ab (.c (.ptr N 0 0))=aa (.c (.f (.fp cd 0))):=λK hK=>by
     have y1:=q2.h1;rw[<-hN]at y1;simp[aQ,aw,hK.trans y1]
    have hw:IntKind.i64.wrap=iu:=rfl;rw[hw]at A_ e9;refine av (.inr rfl) ?_;simp[l.g1,g6,M,l_,m4,c1,c4,c6,l0,y,t7,t9,A_,e9,Z,g_,s1,s2,-aq,-aU];refine i7 _ J7 _ ⟨by simp[l.g1],by simp[l.g2],by simp[l.g3],by simp[l.g4],by simp[l.g5]⟩ (by simp[M]) (F9 ..) rfl (by rw[c_,b_];simp) (λi hi=>by rw[k7 i (by omega)];exact i5 i hi) (by rw[c_];exact afC (au d6))
 refine⟨J',p_,?_⟩;by_cases d_:q=ae
 .rw[bu d_]at h ⊢;exact⟨a8.1 d_,h⟩
 .rw[bG d_]at h ⊢;exact⟨λh'=>d_ (a8.2 h'),h⟩
end Go.Proofs.YtnaofdffomdmhaaGreat
