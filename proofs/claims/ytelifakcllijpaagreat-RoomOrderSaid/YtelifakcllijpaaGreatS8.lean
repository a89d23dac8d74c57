/-
  Dh the iC gK and the gl answer, for all arguments of their kind, in the small machine: part 8.
-/
import Derived.Test.YtelifakcllijpaaGreatS7
import Derived.Test.YtelifakcllijpaaGreatS4
import Derived.Test.YtelifakcllijpaaGreatK3
import Derived.KernelRfl
open Option renaming some->aa,none->ab
open Bool renaming true->ae,false->ag
open List renaming map_cons->agm, map_nil->agp, getElem?_append_left->AI, getElem?_append_right->agj, length_append->aft, getElem?_set_ne->sh, getElem?_set_self->BY, length_set->agx, getElem_mem->IN, take_add_one->agv, getElem?_eq_getElem->By, nodup_cons->air, mem_cons->agA, mem_append->agl, mem_singleton->If, take_length->agu, length_map->agq, mem_map->agt, not_mem_nil->ahG, map_drop->ahZ, length_take->agO, length_drop->agF, length_nil->ahE, take_of_length_le->agw, getElem?_cons_zero->ag2, getElem?_cons_succ->agX, map_append->ahl, drop_zero->ahi, mem_filter->agT, pairwise_append->aho, length_filter_le->ahb, filter_append->ah3, length_singleton->ah1, mem_cons_self->ago, mem_cons_of_mem->agr, drop_eq_getElem_cons->ags, drop_length->ahK, append_nil->agN, append_assoc->agM
open Nat renaming le_refl->agn, sub_self->ah9
open Int renaming toNat_natCast->agD, tmod_eq_emod_of_nonneg->agE, tdiv_eq_ediv_of_nonneg->agY
open List.Pairwise renaming imp->aif
set_option linter.unusedVariables false
set_option linter.constructorNameAsVariable false
set_option linter.unusedSimpArgs false
set_option linter.unusedSectionVars false
set_option linter.unnecessarySimpa false
set_option maxRecDepth 100000
namespace Go.Proofs.YtelifakcllijpaaGreat
open Go Km
section
structure TK(fr om:Int)(found:Bool)(X Y:aC)(H:an):Prop where
 h2:H[2]?=aa (.box [.f (fi fr)] 0)
 h5:H[5]?=aa (.box [.f (fi X.day),.f (fi X.fr),.f (fi X.to)] 0)
 h6:H[6]?=aa (.box [.f (fi Y.day),.f (fi Y.fr),.f (fi Y.to)] 0)
 h7:H[7]?=aa (.box [.f (fi om)] 0)
 h8:H[8]?=aa (.box [.f (.bool found)] 0)
theorem TK.bH{fr om:Int}{found:Bool}{X Y:aC}{H H':an}(h:TK fr om found X Y H)(b:∀i:Nat,i<9->H'[i]?=H[i]?):TK fr om found X Y H':=
 ⟨by rw[b 2 ap];exact h.h2,by rw[b 5 ap];exact h.h5,by rw[b 6 ap];exact h.h6,by rw[b 7 ap];exact h.h7,by rw[b 8 ap];exact h.h8⟩
def oV(b:Int)(x y:aC):Int:=max (max x.fr y.fr) b
def okB(b:Int)(x y:aC):Prop:=x.to<=2251799813685248/\y.to<=2251799813685248/\oV b x y<min x.to y.to
def Vv(d b:Int)(x y X Y:aC):Prop:=zz [eE (oV d x y) b,fO x X,fO y Y]<0
open Classical in
noncomputable def kd (d b:Int) (found:Bool) (x y X Y:aC):Bool:=decide (okB d x y/\(found=ag\/Vv d b x y X Y))
theorem Sj(g b:Int)(found:Bool)(X Y x y:aC)(H:an)(h:TK g b found X Y H) :
  ∃H',Ev tab (.fn KA) [.a (x.row.map .f),.a (y.row.map .f),.c (.ptr 2 0 0),.c (.ptr 8 0 0),.c (.ptr 7 0 0),.c (.ptr 5 0 0),.c (.ptr 6 0 0)] H (.t []) H'/\
   TK g (if kd g b found x y X Y then oV g x y else b) (found||kd g b found x y X Y) (if kd g b found x y X Y then x else X) (if kd g b found x y X Y then y else Y) H'/\H.length<=H'.length/\∀i:Nat,i<H.length->i<5\/8<i->H'[i]?=H[i]?:=by
 have l8:=aj h.h8;have d_:max (max x.fr y.fr) g=oV g x y:=rfl;obtain⟨r,H',he,rfl,hP⟩:∃r H',Ev tab (.fn KA) [.a (x.row.map .f),.a (y.row.map .f),.c (.ptr 2 0 0),.c (.ptr 8 0 0),.c (.ptr 7 0 0),.c (.ptr 5 0 0),.c (.ptr 6 0 0)] H r H'/\(r=.t []/\
   TK g (if kd g b found x y X Y then oV g x y else b) (found||kd g b found x y X Y) (if kd g b found x y X Y then x else X) (if kd g b found x y X Y then y else Y) H'/\H.length<=H'.length/\∀i:Nat,i<H.length->i<5\/8<i->H'[i]?=H[i]?):=by
  have o1:=yp x X;have o2:=yp y Y;simp only[aC.row,agm,agp]at o1 o2;have ho:=Eo .fs [eE (oV g x y) b,fO x X,fO y Y] bv;simp[ints,sl,Tg.fc]at ho;have W:=mf (oV g x y) b;refine de rfl rfl λQ hQ=>?_;apply ai;simp[aC.row];obtain⟨d,q⟩:=aI (H++[bO.box [.f (fi x.day),.f (fi x.fr),.f (fi x.to)] 0,.box [.f (fi y.day),.f (fi y.fr),.f (fi y.to)] 0]);obtain⟨m,M⟩:=aI (H.length);have hT:TK g b found X Y d:=h.bH λi hi=>by rw[q,AI ap]
  have c7:d[m]?=aa (.box [.f (fi x.day),.f (fi x.fr),.f (fi x.to)] 0):=by rw[q,M];simp
  have c8:d[m+1]?=aa (.box [.f (fi y.day),.f (fi y.fr),.f (fi y.to)] 0):=by rw[q,M,agj ap];simp
  have kA:∀i:Nat,i<H.length->d[i]?=H[i]?:=λi hi=>by rw[q,AI hi]
  have lA:d.length=m+2:=by rw[q,aft,M];rfl
  rw[<-q,<-M];have m7:∀J:an,J[m]?=aa (.box [.f (fi x.day),.f (fi x.fr),.f (fi x.to)] 0)->aV J ab (.c (.ptr m 1 0))=aa (vi x.fr)/\aV J ab (.c (.ptr m 2 0))=aa (vi x.to)/\aV J (aa 3) (.c (.ptr m 0 0))=aa (.a [.f (fi x.day),.f (fi x.fr),.f (fi x.to)]):=λJ h=>by refine⟨?_,?_,?_⟩<;>simp[aV,aA,h,aW]
  have m8:∀J:an,J[m+1]?=aa (.box [.f (fi y.day),.f (fi y.fr),.f (fi y.to)] 0)->aV J ab (.c (.ptr (m+1) 1 0))=aa (vi y.fr)/\aV J ab (.c (.ptr (m+1) 2 0))=aa (vi y.to)/\aV J (aa 3) (.c (.ptr (m+1) 0 0))=aa (.a [.f (fi y.day),.f (fi y.fr),.f (fi y.to)]):=λJ h=>by refine⟨?_,?_,?_⟩<;>simp[aV,aA,h,aW]
  obtain⟨x1,x2,x3⟩:=m7 d c7;obtain⟨y1,y2,y3⟩:=m8 d c8;have i8:aV d ab (.c (.ptr 2 0 0))=aa (vi g):=by simp[aV,aA,hT.h2]
  have i7:aV d ab (.c (.ptr 7 0 0))=aa (vi b):=by simp[aV,aA,hT.h7]
  have i9:aV d (aa 3) (.c (.ptr 5 0 0))=aa (.a [.f (fi X.day),.f (fi X.fr),.f (fi X.to)]):=by simp[aV,aA,hT.h5,aW]
  have i_:aV d (aa 3) (.c (.ptr 6 0 0))=aa (.a [.f (fi Y.day),.f (fi Y.fr),.f (fi Y.to)]):=by simp[aV,aA,hT.h6,aW]
  have e_:aV d ab (.c (.ptr 8 0 0))=aa (vb found):=by simp[aV,aA,hT.h8]
  obtain⟨l,L⟩:=aI (oV g x y);rw[<-L]at d_ ho W;have no:∀(t:T) (J:an),kd g b found x y X Y=ag->(∀i:Nat,i<d.length->J[i]?=d[i]?)->d.length<=J.length->(∀j:Option aE,Q j ⟨t,[],J⟩):=by
   intro t J hu hJ hl j;refine hQ _ _ _ rfl rfl ⟨rfl,?_,by show H.length<=J.length;omega,λi hi _=>by show J[i]?=_;rw[hJ i ap,kA i hi]⟩;rw[hu];simpa using hT.bH λi hi=>hJ i ap
  apply ai;simp[x1,y1,i8,-ax,A1,d_]
  suffices b_:∀t:T,t.g 3=.c (.ptr 8 0 0)->t.g 4=.c (.ptr 7 0 0)->t.g 5=.c (.ptr 5 0 0)->t.g 6=.c (.ptr 6 0 0)->t.g 7=.c (.ptr m 0 0)->t.g 8=.c (.ptr (m+1) 0 0)->t.g 9=vi l->WP tab KA ab [.code W2] ⟨t,[],d⟩ Q by exact b_ _ bv bv bv bv bv bv bv
  intro t g3 S g5 g6 u v A;have N:okB g x y↔(x.to<=2251799813685248/\y.to<=2251799813685248/\l<min x.to y.to):=by rw[L];rfl
  have z:¬ okB g x y->kd g b found x y X Y=ag:=λh=>by unfold kd;simp[h]
  apply au;apply ai;by_cases c1:2251799813685248<x.to
  .simp[u,x2,c1,-ax];refine aw bv ?_;exact az (no _ d (z λh=>by have:=(N.1 h).1;omega) (λ_ _=>rfl) (agn _) _)
  by_cases c2:2251799813685248<y.to
  .simp[u,v,x2,y2,c1,c2,-ax];refine aw bv ?_;exact az (no _ d (z λh=>by have:=(N.1 h).2.1;omega) (λ_ _=>rfl) (agn _) _)
  by_cases c3:min x.to y.to<=l
  .simp[u,v,A,x2,y2,c1,c2,c3,-ax];refine aw bv ?_;exact az (no _ d (z λh=>by have:=(N.1 h).2.2;omega) (λ_ _=>rfl) (agn _) _)
  have Z:okB g x y:=N.2 ⟨ap,ap,ap⟩;simp[u,v,A,x2,y2,c1,c2,c3,-ax];refine bE bv ?_;have f_:∀(t:T) (J:an),kd g b found x y X Y=ae->t.g 3=.c (.ptr 8 0 0)->t.g 4=.c (.ptr 7 0 0)->t.g 5=.c (.ptr 5 0 0)->t.g 6=.c (.ptr 6 0 0)->t.g 7=.c (.ptr m 0 0)->t.g 8=.c (.ptr (m+1) 0 0)->t.g 9=vi l->(∀i:Nat,i<d.length->J[i]?=d[i]?)->d.length<=J.length->WP tab KA ab [.code S3] ⟨t,[],J⟩ Q:=by
   intro t J hu g3 S g5 g6 u v A hJ hl;have s:=hT.bH (H':=J) λi hi=>hJ i ap;have d7:J[m]?=aa (.box [.f (fi x.day),.f (fi x.fr),.f (fi x.to)] 0):=by rw[hJ m ap];exact c7
   have d8:J[m+1]?=aa (.box [.f (fi y.day),.f (fi y.fr),.f (fi y.to)] 0):=by rw[hJ (m+1) ap];exact c8
   obtain⟨-,-,x3⟩:=m7 J d7;obtain⟨-,-,y3⟩:=m8 J d8;obtain⟨O,E⟩:=aI (J.set 7 (.box [.f (fi l)] 0));have s1:cY J (.ptr 7 0 0) [.f (fi l)]=aa O:=by rw[E];simp[cY,s.h7,over]
   have k1:∀i:Nat,i≠7->O[i]?=J[i]?:=λi hi=>by rw[E,sh (Ne.symm hi)]
   have n1:O.length=J.length:=by rw[E];simp
   obtain⟨J2,F⟩:=aI (O.set 5 (.box [.f (fi x.day),.f (fi x.fr),.f (fi x.to)] 0));have s2:cY O (.ptr 5 0 0) [.f (fi x.day),.f (fi x.fr),.f (fi x.to)]=aa J2:=by rw[F];simp[cY,k1 5 ap,s.h5,over]
   have k2:∀i:Nat,i≠5->J2[i]?=O[i]?:=λi hi=>by rw[F,sh (Ne.symm hi)]
   have n2:J2.length=J.length:=by rw[F];simp[n1]
   obtain⟨J3,I⟩:=aI (J2.set 6 (.box [.f (fi y.day),.f (fi y.fr),.f (fi y.to)] 0));have s3:cY J2 (.ptr 6 0 0) [.f (fi y.day),.f (fi y.fr),.f (fi y.to)]=aa J3:=by rw[I];simp[cY,k2 6 ap,k1 6 ap,s.h6,over]
   have k3:∀i:Nat,i≠6->J3[i]?=J2[i]?:=λi hi=>by rw[I,sh (Ne.symm hi)]
   have n3:J3.length=J.length:=by rw[I];simp[n2]
   obtain⟨J4,K⟩:=aI (J3.set 8 (.box [.f (.bool ae)] 0));have s4:cY J3 (.ptr 8 0 0) [.f (.bool ae)]=aa J4:=by rw[K];simp[cY,k3 8 ap,k2 8 ap,k1 8 ap,s.h8,over]
   have k4:∀i:Nat,i≠8->J4[i]?=J3[i]?:=λi hi=>by rw[K,sh (Ne.symm hi)]
   have j9:=aj s.h7;have j_:8<m:=by omega
   obtain⟨-,-,j5⟩:=m7 O (by rw[k1 m ap];exact d7);obtain⟨-,-,j6⟩:=m8 O (by rw[k1 (m+1) ap];exact d8);obtain⟨-,-,j7⟩:=m8 J2 (by rw[k2 (m+1) ap,k1 (m+1) ap];exact d8);refine eF (.inl rfl) ?_ ?_
   case refine_2=>
    intro cc h_;have g_:cc=(1,4)\/cc=(2,4)\/cc=(2,5):=by simpa using h_
    rcases g_ with rfl|rfl|rfl
    .refine⟨ce,_,rfl,.inl ⟨ce,?_⟩⟩;simp[S,u,v,A,x3,y3,j5,s1,-ax,-bw,gj,V.beq,C.beq,FC.beq]
    .refine⟨ce,_,rfl,.inl ⟨ce,?_⟩⟩;simp[S,u,v,A,x3,y3,j6,s1,-ax,-bw,gj,V.beq,C.beq,FC.beq]
    .refine⟨ce,_,rfl,.inl ⟨ce,?_⟩⟩;simp[S,g5,u,v,A,x3,y3,j7,s1,s2,-ax,-bw,gj,V.beq,C.beq,FC.beq]
   simp[g3,S,g5,g6,u,v,A,x3,y3,s1,s2,s3,s4,-ax,-bw];refine cX (hQ _ _ _ rfl rfl ⟨rfl,?_,by show H.length<=J4.length;rw[K];simp;omega,λi hi j8=>?_⟩)
   .rw[hu];simp only[if_true,Bool.or_true];rw[<-L];refine⟨?_,?_,?_,?_,?_⟩
    .rw[k4 2 ap,k3 2 ap,k2 2 ap,k1 2 ap];exact s.h2
    .rw[k4 5 ap,k3 5 ap,F];exact BY ap
    .rw[k4 6 ap,I];exact BY ap
    .rw[k4 7 ap,k3 7 ap,k2 7 ap,E];exact BY ap
    .rw[K];exact BY ap
   .show J4[i]?=_;rw[k4 i ap,k3 i ap,k2 i ap,k1 i ap,hJ i ap,kA i hi]
  apply au;cases found with
  |false=>
   refine aq (.inl rfl) ?_;simp[g3,e_,-ax];refine aw bv ?_;exact f_ _ d (by unfold kd;simp[Z]) (by simp[g3]) (by simp[S]) (by simp[g5]) (by simp[g6]) (by simp[u]) (by simp[v]) (by simp[A]) (λ_ _=>rfl) (agn _)
  |true=>
   obtain⟨HB,B⟩:=aI (d++[bO.box [.f (fi (eE l b)),.f (fi (fO x X)),.f (fi (fO y Y))] 0]);have c_:HB[d.length]?=aa (.box [.f (fi (eE l b)),.f (fi (fO x X)),.f (fi (fO y Y))] 0):=by rw[B];simp
   have d9:fh 64 HB (.sl d.length 0 3 3 0 1)=aa (.fs [fi (eE l b),fi (fO x X),fi (fO y Y)] 3):=by
    rw[show(64:Nat)=63+1 from rfl];simp only[gT,c_];rfl
   obtain⟨HC,c9⟩:=aI (ef 64 (.sl d.length 0 3 3 0 1) HB);have U:HC=HB.set d.length (.box [.f (fi (eE l b)),.f (fi (fO x X)),.f (fi (fO y Y))] 3):=by
    rw[c9,show(64:Nat)=63+1 from rfl];simp only[jL,c_];rfl
   have kC:∀i:Nat,i<d.length->HC[i]?=d[i]?:=λi hi=>by rw[U,sh ap,B,AI hi]
   have lC:d.length<=HC.length:=by rw[U,agx,B,aft];omega
   have a_:zz [eE l b,fO x X,fO y Y]<0↔Vv g b x y X Y:=by unfold Vv;rw[<-L]
   obtain⟨oo,i6⟩:=aI (zz [eE l b,fO x X,fO y Y]);rw[<-i6]at ho a_;refine aq (.inl rfl) ?_;simp[g3,S,g5,g6,u,v,A,e_,i7,i9,i_,x3,y3,-ax,W,o1,o2,<-B,d9,deep,ho,<-c9];by_cases k:oo<0
   .refine aw (by simp[k]) ?_;exact f_ _ HC (by unfold kd;simp[Z,a_.1 k]) (by simp[g3]) (by simp[S]) (by simp[g5]) (by simp[g6]) (by simp[u]) (by simp[v]) (by simp[A]) kC lC
   .refine bE (by simp[k]) ?_;exact cX (no _ HC (by unfold kd;simp[show¬ Vv g b x y X Y from λh=>k (a_.2 h)]) kC lC ab)
 exact⟨H',he,hP⟩
end
def Cx(b:Int)(x y X Y:aC):Prop:=oV b x y<oV b X Y\/oV b x y=oV b X Y/\(x.lt X\/(x.fr=X.fr/\x.day=X.day/\x.to=X.to)/\y.lt Y)
theorem A7(x y:aC):fO x y=0↔x.fr=y.fr/\x.day=y.day/\x.to=y.to:=by
 have l:∀a b:Int,eE a b=0↔a=b:=λa b=>by unfold eE;split<;>(try split)<;>omega
 unfold fO;simp only[zz];have m:=l x.fr y.fr;have q:=l x.day y.day;have s:=l x.to y.to;by_cases d:eE x.fr y.fr=0
 .rw[bZ d];by_cases g:eE x.day y.day=0
  .rw[bZ g];by_cases j:eE x.to y.to=0
   .rw[bZ j];exact⟨λ_=>⟨m.1 d,q.1 g,s.1 j⟩,λ_=>rfl⟩
   .rw[ct j];exact⟨λh=>absurd h j,λh=>absurd (s.2 h.2.2) j⟩
  .rw[ct g];exact⟨λh=>absurd h g,λh=>absurd (q.2 h.2.1) g⟩
 .rw[ct d];exact⟨λh=>absurd h d,λh=>absurd (m.2 h.1) d⟩
theorem Uh(b:Int)(x y X Y:aC):Vv b (oV b X Y) x y X Y↔Cx b x y X Y:=by
 unfold Vv Cx;have l:eE (oV b x y) (oV b X Y)=0↔oV b x y=oV b X Y:=by unfold eE;split<;>(try split)<;>omega
 have A:eE (oV b x y) (oV b X Y)<0↔oV b x y<oV b X Y:=by unfold eE;split<;>(try split)<;>omega
 have v:=A7 x X;have B:=A7 y Y;have m:=nR x X;have q:=nR y Y;simp only[zz];by_cases d:eE (oV b x y) (oV b X Y)=0
 .rw[bZ d];have e:=l.1 d;by_cases g:fO x X=0
  .rw[bZ g];have z:=v.1 g;have u:¬ x.lt X:=λh=>by have:=m.2 h;omega
   by_cases s:fO y Y=0
   .rw[bZ s];have j:¬ y.lt Y:=λh=>by have:=q.2 h;omega
    constructor
    .intro h;omega
    .rintro(h|⟨-,h|⟨-,h⟩⟩)
     .omega
     .exact absurd h u
     .exact absurd h j
   .rw[ct s,q];constructor
    .intro h;exact .inr ⟨e,.inr ⟨z,h⟩⟩
    .rintro(h|⟨-,h|⟨-,h⟩⟩)
     .omega
     .exact absurd h u
     .exact h
  .rw[ct g,m];constructor
   .intro h;exact .inr ⟨e,.inl h⟩
   .rintro(h|⟨-,h|⟨h,-⟩⟩)
    .omega
    .exact h
    .exact absurd (v.2 h) g
 .rw[ct d,A];constructor
  .intro h;exact .inl h
  .rintro(h|⟨h,-⟩)
   .exact h
   .exact absurd (l.2 h) d
theorem A'{b:Int}{x y X Y Z W:aC}(h:Cx b x y X Y)(d:Cx b X Y Z W):Cx b x y Z W:=by
 unfold Cx aC.lt at *;omega
theorem Ut{b:Int}{x y X Y:aC}(h:¬ Cx b x y X Y)(v:¬ Cx b X Y x y):x=X/\y=Y:=by
 have d:x.fr=X.fr/\x.day=X.day/\x.to=X.to:=by unfold Cx aC.lt at *;omega
 have g:y.fr=Y.fr/\y.day=Y.day/\y.to=Y.to:=by unfold Cx aC.lt at *;omega
 cases x;cases X;cases y;cases Y;simp only at d g;obtain⟨j,l,m⟩:=d;obtain⟨q,s,u⟩:=g;subst j l m q s u;exact⟨rfl,rfl⟩
structure FS where
 om:Int
 found:Bool
 X:aC
 Y:aC
noncomputable def gF (b:Int) (s:FS) (x y:aC):FS:=⟨if kd b s.om s.found x y s.X s.Y then oV b x y else s.om,s.found||kd b s.om s.found x y s.X s.Y,if kd b s.om s.found x y s.X s.Y then x else s.X,if kd b s.om s.found x y s.X s.Y then y else s.Y⟩
def mE(b:Int)(S:aC->aC->Prop)(s:FS):Prop:=(s.found=ag/\s.X=⟨0,0,0⟩/\s.Y=⟨0,0,0⟩/\∀x y,S x y->¬ okB b x y)\/(s.found=ae/\S s.X s.Y/\okB b s.X s.Y/\s.om=oV b s.X s.Y/\∀x y,S x y->okB b x y->¬ Cx b x y s.X s.Y)
theorem mE.iff{fr:Int}{S S':aC->aC->Prop}{s:FS}(h:mE fr S s)(d:∀x y,okB fr x y->(S' x y↔S x y)):mE fr S' s:=by
 rcases h with⟨h1,h2,h3,h4⟩|⟨h1,h2,h3,h4,h5⟩
 .exact .inl ⟨h1,h2,h3,λx y h b=>h4 x y ((d x y b).1 h) b⟩
 .exact .inr ⟨h1,(d _ _ h3).2 h2,h3,h4,λx y h b=>h5 x y ((d x y b).1 h) b⟩
theorem mE.step{fr:Int}{S T:aC->aC->Prop}{s:FS}(h:mE fr S s){x y:aC}(v:T x y)(u:∀d g,T d g->okB fr d g->okB fr x y/\¬ Cx fr d g x y):mE fr (λx y=>S x y\/T x y) (gF fr s x y):=by
 by_cases j:okB fr x y
 .rcases h with⟨h1,h2,h3,h4⟩|⟨h1,h2,h3,h4,h5⟩
  .have hu:kd fr s.om s.found x y s.X s.Y=ae:=by unfold kd;simp[j,h1]
   refine .inr ⟨?_,?_,?_,?_,λd g b l=>?_⟩
   .simp[gF,hu]
   .simp only[gF,hu,if_true];exact .inr v
   .simp only[gF,hu,if_true];exact j
   .simp only[gF,hu,if_true]
   .simp only[gF,hu,if_true];rcases b with b|b
    .exact absurd l (h4 d g b)
    .exact(u d g b l).2
  .have m:Vv fr s.om x y s.X s.Y↔Cx fr x y s.X s.Y:=by rw[h4];exact Uh fr x y s.X s.Y
   by_cases k:Cx fr x y s.X s.Y
   .have hu:kd fr s.om s.found x y s.X s.Y=ae:=by unfold kd;simp[j,m.2 k]
    refine .inr ⟨?_,?_,?_,?_,λd g b l=>?_⟩
    .simp[gF,hu]
    .simp only[gF,hu,if_true];exact .inr v
    .simp only[gF,hu,if_true];exact j
    .simp only[gF,hu,if_true]
    .simp only[gF,hu,if_true];rcases b with b|b
     .exact λq=>h5 d g b l (A' q k)
     .exact(u d g b l).2
   .have hu:kd fr s.om s.found x y s.X s.Y=ag:=by unfold kd;simp[h1,show¬ Vv fr s.om x y s.X s.Y from λh=>k (m.1 h)]
    refine .inr ⟨?_,?_,?_,?_,λd g b l=>?_⟩
    .simp[gF,hu,h1]
    .simp only[gF,hu];exact .inl h2
    .simp only[gF,hu];exact h3
    .simp only[gF,hu];exact h4
    .simp only[gF,hu];rcases b with b|b
     .exact h5 d g b l
     .intro q;have h6:=(u d g b l).2;by_cases e:Cx fr x y d g
      .exact k (A' e q)
      .obtain⟨rfl,rfl⟩:=Ut h6 e;exact k q
 .have hu:kd fr s.om s.found x y s.X s.Y=ag:=by unfold kd;simp[j]
  have z:gF fr s x y=s:=by simp[gF,hu]
  rw[z];refine h.iff λd g l=>⟨λh=>h.elim id λh=>absurd (u d g h l).1 j,.inl⟩
theorem mE.none{fr:Int}{S T:aC->aC->Prop}{s:FS}(h:mE fr S s)(j:∀b d,T b d->¬ okB fr b d):mE fr (λx y=>S x y\/T x y) s:=
 h.iff λb d g=>⟨λh=>h.elim id λh=>absurd g (j b d h),.inl⟩
theorem mE.one{fr:Int}{S:aC->aC->Prop}{s:FS}(h:mE fr S s)(x y:aC):mE fr (λb d=>S b d\/(b=x/\d=y)) (gF fr s x y):=
 h.step ⟨rfl,rfl⟩ λb d ⟨h1,h2⟩ g=>by
  subst h1 h2;exact⟨g,by unfold Cx aC.lt;omega⟩
def kM(s:aH):List C:=[.f (sl s.cg (aU s.cs)),.f (fi s.len),.f (sl s.xg (aF s.xs))]
def qe:C:=.cl KA [.ptr 2 0 0,.ptr 8 0 0,.ptr 7 0 0,.ptr 5 0 0,.ptr 6 0 0]
structure FQ(a b:aH)(fr:Int)(s:FS)(J:an):Prop where
 h0:J[0]?=aa (.box (kM a) 0)
 h1:J[1]?=aa (.box (kM b) 0)
 h3:J[3]?=aa (.box [.f (fi 0),.f (fi 0),.f (fi 0)] 0)
 h4:J[4]?=aa (.box [.f (fi 0),.f (fi 0),.f (fi 0)] 0)
 h9:J[9]?=aa (.box [qe] 0)
 tk:TK fr s.om s.found s.X s.Y J
theorem FQ.bH{a b:aH}{fr:Int}{s:FS}{J J':an}(h:FQ a b fr s J)(d:∀i:Nat,i<10->J'[i]?=J[i]?):FQ a b fr s J':=
 ⟨by rw[d 0 ap];exact h.h0,by rw[d 1 ap];exact h.h1,by rw[d 3 ap];exact h.h3,by rw[d 4 ap];exact h.h4,by rw[d 9 ap];exact h.h9,h.tk.bH λi hi=>d i ap⟩
structure FT(t:T):Prop where
 g3:t.g 3=.c (.ptr 0 0 0)
 g4:t.g 4=.c (.ptr 1 0 0)
 g5:t.g 5=.c (.ptr 2 0 0)
 g6:t.g 6=.c (.ptr 3 0 0)
 g7:t.g 7=.c (.ptr 4 0 0)
 g9:t.g 9=.c (.ptr 5 0 0)
 g10:t.g 10=.c (.ptr 6 0 0)
 g12:t.g 12=.c (.ptr 8 0 0)
 g13:t.g 13=.c (.ptr 9 0 0)
theorem tJ{a b:aH}{g:Int}{s:FS}{J:an}(h:FQ a b g s J)(x y:aC):∃J',Ev tab (.fn KA) [.a (x.row.map .f),.a (y.row.map .f),.c (.ptr 2 0 0),.c (.ptr 8 0 0),.c (.ptr 7 0 0),.c (.ptr 5 0 0),.c (.ptr 6 0 0)] J (.t []) J'/\FQ a b g (gF g s x y) J'/\J.length<=J'.length/\∀i:Nat,8<i->i<J.length->J'[i]?=J[i]?:=by
 obtain⟨J',m,l,q,d⟩:=Sj g s.om s.found s.X s.Y x y J h.tk;have v:=aj h.h9;exact⟨J',m,⟨by rw[d 0 ap ap];exact h.h0,by rw[d 1 ap ap];exact h.h1,by rw[d 3 ap ap];exact h.h3,by rw[d 4 ap ap];exact h.h4,by rw[d 9 ap ap];exact h.h9,l⟩,q,λi u j=>d i j ap⟩
def Qy(a b:aH)(p:Pr):Int:=min (p.c.min+a.len) (p.k*1440+p.d.min+b.len)
def Uo(a b:aH)(d:Int)(p:Pr):Int:=max 0 ((d-Qy a b p) / 1440+1-max 0 (-p.k))
def iF(a:aH)(p:Pr)(e:Int):aC:=bV a.len p.c.min (e+max 0 (-p.k))
def iG(b:aH)(p:Pr)(e:Int):aC:=bV b.len p.d.min (e+max 0 (-p.k)+p.k)
noncomputable def Ht (a b:aH) (d:Int) (p:Pr) (e:Int) (f:Bool) (s:FS):FS:=if f then gF d s (iF a p e) (iG b p e)else s
theorem Hb(a b:aH)(ha:kU a)(hb:kU b){q:Int}(f0:-2251799813685248<=q)(f1:q<=100000000000000){tm:T}(E:FT tm){p:Pr}(O:rC a b p){s:FS}{J:an}(hq:FQ a b q s J)(b_:J[10]?=aa (.dQ ae))(L:J[11]?=aa (.lp fq tm [P.nat 47] ke kg .ready ab 10)) :
  ∃e f,iH (λe=>Uo a b q p<=e/\eO p.xs e/\eO p.ys e) e f/\(f=ae->e<=1000001000000)/\∃r J',Ev tab (.yield 11) [.a p.row] J r J'/\(r=vb ae/\FQ a b q (Ht a b q p e f s) J'/\J'[10]?=aa (.dQ ae)/\J'[11]?=aa (.lp fq tm [P.nat 47] ke kg .ready ab 10)/\J.length<=J'.length/\∀i:Nat,12<=i->i<J.length->J'[i]?=J[i]?):=by
 obtain⟨j_,k_⟩:=ha.ok.len;obtain⟨l_,m9⟩:=hb.ok.len;have j6:=ha.ok.min O.ca;have j7:=hb.ok.min O.db;have d_:=O.lo;have d9:=O.hi;unfold AS at d_;unfold zt at d9;have kb:-20<=p.k/\p.k<=20:=by omega
 obtain⟨B,M⟩:=aI (Qy a b p);have j5:-100000<=B/\B<=100000:=by rw[M];unfold Qy;omega
 have W:min (p.c.min+a.len) (p.k*1440+p.d.min+b.len)=B:=M.symm;obtain⟨l,z⟩:=aI (max 0 (-p.k));have i_:0<=l/\l<=20:=by omega
 obtain⟨n,hn⟩:=aI (Uo a b q p);have f_:max 0 ((q-B) / 1440+1-l)=n:=by rw[hn,M,z];rfl
 have j9:0<=n/\n<=1000000000000:=by omega
 obtain⟨e,f,hm,c9,A⟩:=uK p.gx p.gy p.xs p.ys O.xo O.yo n ap ap;have e_:iH (λe=>Uo a b q p<=e/\eO p.xs e/\eO p.ys e) e f:=hm.iff λx=>by rw[<-hn,show max n 0=n by omega]
 refine⟨e,f,e_,λ_=>c9.2,?_⟩;refine dw (tab:=tab) (b:=11) (args:=[.a p.row]) (H:=J) L rfl λQ' U=>?_;obtain⟨d,v⟩:=aI (J.length);obtain⟨Q,y⟩:=aI (J++[bO.box p.row 0]);have i7:=aj L;have a_:Q[d]?=aa (.box p.row 0):=by rw[y,v];simp
 have k1:∀i:Nat,i<J.length->Q[i]?=J[i]?:=λi hi=>by rw[y,AI hi]
 have l1:Q.length=d+1:=by rw[y,aft,v];rfl
 have h_:p.row.length=8:=rfl;refine aq (.inr rfl) ?_;simp[h_];rw[<-y,<-v];have i9:Q[11]?=aa (.lp fq tm [P.nat 47] ke kg .ready ab 10):=by rw[k1 11 i7];exact L
 refine fP i9 ?_;obtain⟨g,u⟩:=aI (Q.set 11 (.lp fq tm [P.nat 47] ke kg .busy ab 10));have k2:∀i:Nat,i<J.length->i≠11->g[i]?=J[i]?:=λi hi g_=>by rw[u,sh (Ne.symm g_),k1 i hi]
 have j:g[d]?=aa (.box p.row 0):=by rw[u,sh ap];exact a_
 have K:g[11]?=aa (.lp fq tm [P.nat 47] ke kg .busy ab 10):=by rw[u];exact BY ap
 have S:g[10]?=aa (.dQ ae):=by rw[k2 10 ap ap];exact b_
 have m:FQ a b q s g:=hq.bH λi hi=>k2 i ap ap;have l2:g.length=d+1:=by rw[u,agx];exact l1
 rw[<-u];unfold Pr.row at j;rw[<-z]at j;have c0:aV g ab (.c (.ptr d 1 0))=aa (vi p.c.min):=by simp[aV,aA,j]
 have c1:aV g ab (.c (.ptr d 4 0))=aa (vi p.k):=by simp[aV,aA,j]
 have c2:aV g ab (.c (.ptr d 3 0))=aa (vi p.d.min):=by simp[aV,aA,j]
 have c3:aV g ab (.c (.ptr d 7 0))=aa (vi l):=by simp[aV,aA,j]
 have c4:aV g (aa 1) (.c (.ptr d 5 0))=aa (.a [.f (sl p.gx (aK p.xs))]):=by simp[aV,aA,j,aW]
 have c5:aV g (aa 1) (.c (.ptr d 6 0))=aa (.a [.f (sl p.gy (aK p.ys))]):=by simp[aV,aA,j,aW]
 have c6:aV g (aa 2) (.c (.ptr d 0 0))=aa (.a [.f (sl p.c.mg (aK p.c.ts)),.f (fi p.c.min)]):=by simp[aV,aA,j,aW]
 have c7:aV g (aa 2) (.c (.ptr d 2 0))=aa (.a [.f (sl p.d.mg (aK p.d.ts)),.f (fi p.d.min)]):=by simp[aV,aA,j,aW]
 have a1:aV g ab (.c (.ptr 0 1 0))=aa (vi a.len):=by simp[aV,aA,m.h0,kM]
 have a3:aV g (aa 3) (.c (.ptr 0 0 0))=aa (.a [.f (sl a.cg (aU a.cs)),.f (fi a.len),.f (sl a.xg (aF a.xs))]):=by simp[aV,aA,m.h0,kM,aW]
 have b1:aV g ab (.c (.ptr 1 1 0))=aa (vi b.len):=by simp[aV,aA,m.h1,kM]
 have b3:aV g (aa 3) (.c (.ptr 1 0 0))=aa (.a [.f (sl b.cg (aU b.cs)),.f (fi b.len),.f (sl b.xg (aF b.xs))]):=by simp[aV,aA,m.h1,kM,aW]
 have f2:aV g ab (.c (.ptr 2 0 0))=aa (vi q):=by simp[aV,aA,m.tk.h2]
 have f9:aV g ab (.c (.ptr 9 0 0))=aa (.c qe):=by simp[aV,aA,m.h9]
 have fl:=sS (q-B) ap ap;have F:=zd (sl a.cg (aU a.cs)) (sl a.xg (aF a.xs)) (sl p.c.mg (aK p.c.ts)) a.len p.c.min (e+l) ap ap ap ap;have I:=zd (sl b.cg (aU b.cs)) (sl b.xg (aF b.xs)) (sl p.d.mg (aK p.d.ts)) b.len p.d.min (e+l+p.k) ap ap ap ap;rw[decide_eq_true (show e+l<=(2251799813685248-p.c.min-a.len) / 1440 by omega)]at F;rw[decide_eq_true (show e+l+p.k<=(2251799813685248-p.d.min-b.len) / 1440 by omega)]at I;have X:=xC (sl a.cg (aU a.cs)) (sl a.xg (aF a.xs)) (sl p.c.mg (aK p.c.ts)) a.len p.c.min (e+l) (by unfold nb;omega) (by unfold nb;omega) (by unfold nb;omega);have Y:=xC (sl b.cg (aU b.cs)) (sl b.xg (aF b.xs)) (sl p.d.mg (aK p.d.ts)) b.len p.d.min (e+l+p.k) (by unfold nb;omega) (by unfold nb;omega) (by unfold nb;omega);have hX:bV a.len p.c.min (e+l)=iF a p e:=by unfold iF;rw[<-z]
 have hY:bV b.len p.d.min (e+l+p.k)=iG b p e:=by unfold iG;rw[<-z]
 rw[hX]at X;rw[hY]at Y;refine ay ?_;refine au (aq (.inr rfl) ?_);simp[E.g3,E.g4,c0,c1,c2,a1,b1,-ax,aZ (n:=p.c.min+a.len),aZ (n:=p.k*1440),aZ (n:=p.k*1440+p.d.min),aZ (n:=p.k*1440+p.d.min+b.len),W];refine au (aq (.inr rfl) ?_);simp[E.g5,f2,c3,-ax,aZ (n:=q-B),fl,aZ (n:=(q-B) / 1440+1),aZ (n:=(q-B) / 1440+1-l),f_];refine au (aq (.inr rfl) ?_);simp[c4,c5,-ax,A];apply au;cases f with
 |false=>
  refine aq (.inr rfl) ?_;simp;refine bE bv ?_;refine av (cX (U _ _ _ _ _ _ _ _ _ _ rfl K ⟨rfl,?_,?_,BY (aj K),by show J.length<=(g.set 11 _).length;rw[agx];omega,λi h1 h2=>?_⟩))
  .exact m.bH λi hi=>by rw[sh ap]
  .rw[sh ap];exact S
  .rw[sh ap,k2 i h2 ap]
 |true=>
  obtain⟨J3,c_,i6,j8,N⟩:=tJ m (iF a p e) (iG b p e);refine aq (.inr rfl) ?_;simp[E.g3,E.g4,a3,b3,c1,c3,c6,c7,-ax,aZ (n:=e+l),aZ (n:=e+l+p.k),F,I];refine aw bv ?_;refine aq (.inr rfl) ?_;simp[E.g3,E.g4,E.g13,f9,a3,b3,c1,c3,c6,c7,-ax,aZ (n:=e+l),aZ (n:=e+l+p.k),X,Y,qe,c_.eq];have Z:J3[11]?=aa (.lp fq tm [P.nat 47] ke kg .busy ab 10):=by rw[N 11 ap ap];exact K
  have i8:J3[10]?=aa (.dQ ae):=by rw[N 10 ap ap];exact S
  refine av (cX (U _ _ _ _ _ _ _ _ _ _ rfl Z ⟨rfl,?_,?_,BY (aj Z),by show J.length<=(J3.set 11 _).length;rw[agx];omega,λi h1 h2=>?_⟩))
  .exact i6.bH λi hi=>by rw[sh ap]
  .rw[sh ap];exact i8
  .rw[sh ap,N i ap ap,k2 i h2 ap]
theorem KG(x y:aC):Kf tab O0 [.a (y.row.map .f),.c (.f (.fp x.row 0))] (vb (pE x.fr x.to y.fr y.to)):=by
 refine dh rfl rfl λH Q d=>?_;have b:∀H:an,aV H (aa 2) (.c (.f (.fp x.row 1)))=aa (.a [.f (fi x.fr),.f (fi x.to)]):=λH=>by simp[aV,aA,aW,aC.row]
 have g:=Tt x.fr x.to y.fr y.to;apply ai;simp[aC.row];apply ai;simp only[aC.row]at b;simp[b,g];refine az (d _ _ ?_);simp
theorem Lp(g:Tg)(l:List aC)(d:l.length<=1000)(x:aC):bg tab Pc [.c (.f (sl g (aF l))),.c (.f (.fn O0 [.fp x.row 0]))]=Eq (vb (l.any λy=>pE x.fr x.to y.fr y.to)):=
 (fD X7 (je Yf l aC.row (λr=>.a (r.row.map .f)) (λy=>pE x.fr x.to y.fr y.to) g O0 [.fp x.row 0] ap
  (λj b H=>cf (bM l) (dB b)) (λy _=>KG x y))).eq
def nA(a b:aH)(x:aC):Prop:=(∃y,mF b x y)\/∃y∈b.xs,pE x.fr x.to y.fr y.to=ae
structure AQ(a b:aH)(bs:List Nat)(v:Bool)(J:an):Prop where
 h0:J[0]?=aa (.box (kM a) 0)
 h1:J[1]?=aa (.box (kM b) 0)
 h2:J[2]?=aa (.box [.f (.bool v)] 0)
 cl:eI bs J
theorem AQ.bH{a b:aH}{bs:List Nat}{v:Bool}{J J':an}(h:AQ a b bs v J)(d:∀i:Nat,i<J.length->J'[i]?=J[i]?):AQ a b bs v J':=
 ⟨by rw[d 0 (aj h.h0)];exact h.h0,by rw[d 1 (aj h.h1)];exact h.h1,by rw[d 2 (aj h.h2)];exact h.h2,⟨h.cl.nd,λi hi=>by rw[d i (aj (h.cl.on i hi))];exact h.cl.on i hi⟩⟩
theorem AQ.set{a b:aH}{bs:List Nat}{v:Bool}{J:an}(h:AQ a b bs v J){i:Nat}{y:bO}(hi:J[i]?=aa y)(h3:3<=i)(hy:y≠.dQ ae)(z:bO):AQ a b bs v (J.set i z):=
 ⟨by rw[sh ap];exact h.h0,by rw[sh ap];exact h.h1,by rw[sh ap];exact h.h2,h.cl.set hi hy⟩
theorem Dp(a b:aH)(ha:kU a)(N:kU b)(i6:∀x∈a.xs,-1000000000000<=x.fr/\x.to<=1000000000000/\x.fr<x.to) :
  ∃r:Bool,(r=ae↔∃x∈a.xs,nA a b x)/\bg tab me [.a (a.row.map .f),.a (b.row.map .f)]=Eq (vb r):=by
 have key:∃v,(∃r:Bool,(r=ae↔∃x∈a.xs,nA a b x)/\v=vb r)/\bg tab me [.a (a.row.map .f),.a (b.row.map .f)] v:=by
  refine qJ ab7 rfl λQ hQ=>?_;have j_:=ha.ok.xn;have k_:=N.ok.xn;have qZ:∀H:an,bh H (.f (sl a.xg (aF a.xs)))=aa a.xs.length:=λH=>by simp
  have la:∀(bs:List Nat) (v:Bool) (J:an),AQ a b bs v J->aV J ab (.c (.ptr 0 2 0))=aa (.c (.f (sl a.xg (aF a.xs)))):=λbs v J h=>by simp[aV,aA,h.h0,kM,aW]
  have lb:∀(bs:List Nat) (v:Bool) (J:an),AQ a b bs v J->aV J (aa 3) (.c (.ptr 1 0 0))=aa (.a (kM b))/\aV J ab (.c (.ptr 1 2 0))=aa (.c (.f (sl b.xg (aF b.xs)))):=λbs v J h=>by refine⟨?_,?_⟩<;>simp[aV,aA,h.h1,kM,aW]
  have U:∀(t:T) (J:an) (bs:List Nat) (v:Bool),t.g 4=.c (.ptr 2 0 0)->(v=ae↔∃x∈a.xs,nA a b x)->AQ a b bs v J->∀j,Q j ⟨t,bs.map .dY,J⟩:=by
   intro t J bs v q hv h j;refine hQ _ _ _ ⟨v,hv,rfl⟩ ⟨bs,rfl,h.cl,vb v,?_,by simp[jh,dq]⟩;have d2:=(iQ (h.cl.not h.h2 bv)).trans h.h2;simp[Km.results,cC,bu,q,d2]
  have c_:∀{bs:List Nat} {v:Bool} {J:an} (w:Bool),AQ a b bs v J->cY J (.ptr 2 0 0) [.f (.bool w)]=aa (J.set 2 (.box [.f (.bool w)] 0))/\AQ a b bs w (J.set 2 (.box [.f (.bool w)] 0)):=λw h=>by
   refine⟨by simp[cY,h.h2,over],⟨by rw[sh ap];exact h.h0,by rw[sh ap];exact h.h1,BY (aj h.h2),h.cl.set h.h2 bv⟩⟩
  apply ai;simp[aH.row];obtain⟨J0,W⟩:=aI ([.box (kM a) 0,.box (kM b) 0,.box [.f (.bool ag)] 0]:an);have e_:AQ a b [] ag J0:=by rw[W];exact⟨rfl,rfl,rfl,⟨bv,bv⟩⟩
  unfold kM at W;rw[<-W];apply au;apply ai;simp[la _ _ _ e_,qZ,-ax];refine ay ?_;refine dc (λn st=>∃(j:Nat) (t:T) (bs:List Nat) (H:an),st=⟨t,bs.map .dY,H⟩/\n=a.xs.length-j/\j<=a.xs.length/\t.g 2=.c (.ptr 0 0 0)/\t.g 3=.c (.ptr 1 0 0)/\t.g 4=.c (.ptr 2 0 0)/\t.g 8=.c (.f (sl a.xg (aF a.xs)))/\t.g 9=vi a.xs.length/\t.g 10=vi j/\
   AQ a b bs ag H/\∀x∈a.xs.take j,¬ nA a b x) a.xs.length
   ⟨0,_,[],J0,rfl,ap,ap,bv,bv,bv,bv,bv,bv,e_,λx hx=>by simp at hx⟩ ?_
  rintro n st ⟨j,t,bs,H,rfl,rfl,hj,g2,g3,q,g8,g9,m,hq,a_⟩ ih;by_cases B:j<a.xs.length
  .obtain⟨x,hx⟩:=aI (a.xs[j]);have c9:x∈a.xs:=hx▸IN B;obtain⟨x0,x1,x2⟩:=i6 x c9;have E:=λH:an=>cf (H:=H) (bM a.xs) (dB (l:=a.xs) (j:=j) B);have S:=λH:an=>bz (H:=H) (g:=a.xg) (rows:=aF a.xs) (sz:=3) (k:=.i64) (i:=j) ap (by simpa using B);rw[<-hx]at E;simp[aC.row]at E S;have j6:a.xs.take (j+1)=a.xs.take j++[x]:=by rw[agv,By B,hx];rfl
   have b_:=rI b x;simp only[aH.row,aC.row,agm,agp]at b_;apply ai;simp[g9,m];refine au (aw (by simp[B]) (aR ?_));apply au;refine ay ?_;obtain⟨bx,Y⟩:=aI (H.length);apply ai;simp[g8,m,S,E];rw[<-Y];obtain⟨d,I⟩:=aI (H++[bO.box [.f (fi x.day),.f (fi x.fr),.f (fi x.to)] 0]);rw[<-I];have kx:d[bx]?=aa (.box [.f (fi x.day),.f (fi x.fr),.f (fi x.to)] 0):=by rw[I,Y];simp
   have kq:AQ a b bs ag d:=hq.bH λi hi=>by rw[I,AI hi]
   have kn:d.length=bx+1:=by rw[I,Y];simp
   have j8:3<=bx:=by have:=aj hq.h2;omega
   have lx:∀J:an,J[bx]?=aa (.box [.f (fi x.day),.f (fi x.fr),.f (fi x.to)] 0)->aV J (aa 3) (.c (.ptr bx 0 0))=aa (.a [.f (fi x.day),.f (fi x.fr),.f (fi x.to)]):=λJ h=>by simp[aV,aA,h,aW]
   have f_:=(lb _ _ _ kq).1;simp only[kM]at f_;apply au;apply ai;simp[g3,f_,lx d kx,-ax,b_];refine ay ?_;have range:∀(u:T),u.g 2=.c (.ptr 0 0 0)->u.g 3=.c (.ptr 1 0 0)->u.g 4=.c (.ptr 2 0 0)->u.g 6=.c (.ptr bx 0 0)->u.g 8=.c (.f (sl a.xg (aF a.xs)))->u.g 9=vi a.xs.length->u.g 10=vi j->
     u.g 16=.c (.f (.fn mI [.fp b.row 0,.fp x.row 0]))->
     WP tab me ab [.code NL,.inBlock 2,.code NM,.inBlock 1,.code NN,.inLoop SG,.inBlock 0,.code C3] ⟨u,bs.map .dY,d⟩ Q:=by
    intro u g2 g3 q g6 g8 g9 m g_;obtain⟨M,s⟩:∃M:dt->Option aE->bO,M=λst pd=>.lp me u [P.nat 17] .skip gY st pd (bx+1):=⟨_,rfl⟩
    obtain⟨F,K⟩:=aI (d++[.dQ ae,M .ready ab]);have q4:F[bx+1]?=aa (.dQ ae):=by rw[K,agj ap,kn];simp
    have q5:F[bx+1+1]?=aa (M .ready ab):=by rw[K,agj ap,kn];simp
    have qk:∀i:Nat,i<d.length->F[i]?=d[i]?:=λi hi=>by rw[K,AI hi]
    have i_:bx+1 ∉ bs:=λN=>by have:=aj (kq.cl.on _ N);omega
    have qq:=kq.bH qk;have d9:AQ a b ((bx+1)::bs) ag F:=⟨qq.h0,qq.h1,qq.h2,⟨air.2 ⟨i_,qq.cl.nd⟩,λb N=>by
     rcases agA.1 N with rfl|N
     .exact q4
     .exact qq.cl.on b N⟩⟩
    have qx:F[bx]?=aa (.box [.f (fi x.day),.f (fi x.fr),.f (fi x.to)] 0):=by rw[qk bx ap];exact kx
    obtain⟨H2,he,Z⟩:=yS (bb:=bx+1+1) (H:=F) b N x x0 x1 x2 (λps J=>ps=[]/\F.length<=J.length/\∀i:Nat,i<F.length->J[i]?=F[i]?)
     (λ_ J=>AQ a b ((bx+1)::bs) ae J/\J[bx+1+1]?=aa (M .done (aa .ret))) ⟨rfl,agn _,λ_ _=>rfl⟩
     (λps J J' ⟨h1,h2,h3⟩ hk hl=>⟨h1,ap,λi hi=>by rw[hk i hi];exact h3 i hi⟩)
     (λps y J ⟨h1,h2,h3⟩ hl b_=>by
      have L:J[bx+1+1]?=aa (M .ready ab):=by rw[h3 _ (aj q5)];exact q5
      have pq:=d9.bH h3;refine⟨ag,?_⟩;rw[s]at L;obtain⟨r,J',i8,rfl,hr⟩:∃r J',Ev tab (.yield (bx+1+1)) [.a (y.row.map .f)] J r J'/\(r=vb ag/\AQ a b ((bx+1)::bs) ae J'/\J'[bx+1+1]?=aa (M .done (aa .ret))):=by
       refine dw (tab:=tab) (b:=bx+1+1) (args:=[.a (y.row.map .f)]) (H:=J) L rfl λQ' h_=>?_;refine aR ?_;refine fP L ?_;have b5:(J.set (bx+1+1) (.lp me u [P.nat 17] .skip gY .busy ab (bx+1)))[bx+1+1]?=aa (.lp me u [P.nat 17] .skip gY .busy ab (bx+1)):=BY (aj L);have bq:=pq.set L ap bv (.lp me u [P.nat 17] .skip gY .busy ab (bx+1));generalize J.set (bx+1+1) (.lp me u [P.nat 17] .skip gY .busy ab (bx+1))=HB at b5 bq ⊢;obtain⟨s1,s2⟩:=c_ ae bq;have s5:(HB.set 2 (.box [.f (.bool ae)] 0))[bx+1+1]?=aa (.lp me u [P.nat 17] .skip gY .busy ab (bx+1)):=by rw[sh ap];exact b5
       refine ay ?_;refine au (aq (.inr rfl) ?_);simp[q,s1,-bw];refine az (h_ _ _ _ _ _ _ _ _ _ _ rfl s5 ⟨rfl,s2.set s5 ap bv _,?_⟩);rw[s];exact BY (aj s5)
      exact⟨J',i8,by simpa using hr⟩)
    have i7:Ev tab (.fn mI) [.c (.yl (d.length+1)),.c (.f (.fp b.row 0)),.c (.f (.fp x.row 0))] (d++[.dQ ae,.lp me u [P.nat 17] .skip gY .ready ab d.length]) (.t []) H2:=by
     have e:d++[.dQ ae,.lp me u [P.nat 17] .skip gY .ready ab d.length]=F:=by rw[K,s,kn]
     rw[e,kn];exact he
    refine dK (g:=mI) (by rw[oi,g_];simp[cr]) i7 ?_;rw[kn];rcases Z with⟨ys,⟨rfl,j9,X⟩,j7⟩|⟨y,j5,c1,c5⟩
    .have L:H2[bx+1+1]?=aa (M .ready ab):=by rw[X _ (aj q5)];exact q5
     have pq:=d9.bH X;rw[s]at L;refine ew L ce ?_;have eq:=pq.set L ap bv (.lp me u [P.nat 17] .skip gY .exhausted ab (bx+1));have ex:(H2.set (bx+1+1) (.lp me u [P.nat 17] .skip gY .exhausted ab (bx+1)))[bx]?=aa (.box [.f (fi x.day),.f (fi x.fr),.f (fi x.to)] 0):=by
      rw[sh ap,X bx (aj qx)];exact qx
     generalize H2.set (bx+1+1) (.lp me u [P.nat 17] .skip gY .exhausted ab (bx+1))=H3 at eq ex ⊢;have A:=Lp b.xg b.xs ap x;simp only[aC.row]at A;obtain⟨cb,d_⟩:=aI (b.xs.any λy=>pE x.fr x.to y.fr y.to);rw[<-d_]at A;have O:cb=ae↔∃y∈b.xs,pE x.fr x.to y.fr y.to=ae:=by rw[d_,List.any_eq_true]
     refine av ?_;apply ai;simp[g3,g6,(lb _ _ _ eq).2,ex,deep,Eh,xX,A,-ax];have e3:=eq.set ex ap bv (.box [.f (fi x.day),.f (fi x.fr),.f (fi x.to)] 3);generalize H3.set bx (.box [.f (fi x.day),.f (fi x.fr),.f (fi x.to)] 3)=H4 at e3 ⊢;cases cb with
     |true=>
      refine aw bv ?_;obtain⟨s1,s2⟩:=c_ ae e3;apply ai;simp[q,s1,-bw];exact az (U _ _ _ ae (by simp[q]) ⟨λ_=>⟨x,c9,.inr (O.1 rfl)⟩,λ_=>rfl⟩ s2 _)
     |false=>
      refine aD bv (aR (av (aq (.inl rfl) ?_)));simp[m,aZ (n:=(j:Int)+1)];refine ih (a.xs.length-(j+1)) _ ap ⟨j+1,_,(bx+1)::bs,_,rfl,ap,ap,by simp[g2],by simp[g3],by simp[q],by simp[g8],by simp[g9],bv,e3,λz hz=>?_⟩;rw[j6]at hz;rcases agl.1 hz with hz|hz
      .exact a_ z hz
      .rw[If.1 hz];rintro(⟨y,hy⟩|h)
       .have:=(j7 y).2 hy;cases this
       .have:=O.2 h;cases this
    .rw[s]at c5;refine lK c5 ce ?_;exact az (U _ _ _ ae q ⟨λ_=>⟨x,c9,.inl ⟨y,j5⟩⟩,λ_=>rfl⟩ (c1.set c5 ap bv _) _)
   exact range _ (by simp[g2]) (by simp[g3]) (by simp[q]) bv (by simp[g8]) (by simp[g9]) (by simp[m]) (by simp[aH.row,aC.row])
  .have i9:j=a.xs.length:=by omega
   subst i9;rw[agu]at a_;apply ai;simp[g9,m];refine au (aD bv ?_);refine bJ (k':=[.code C3]) rfl ?_;obtain⟨s1,s2⟩:=c_ ag hq;apply ai;simp[q,s1,-bw];exact az (U _ _ _ ag (by simp[q]) ⟨λh=>(by cases h),λ⟨x,hx,h⟩=>absurd h (a_ x hx)⟩ s2 _)
 obtain⟨v,⟨r,hr,rfl⟩,h⟩:=key;exact⟨r,hr,h.eq⟩
theorem qh{Nb:Int}{m:Nat}:∀{ts:List cV},(∀t∈ts,vq Nb m t.fs)->aK ts=aX (ts.map (·.fs)):=λ{ts} h=>by
 simp only[aK,aX,List.map_map];refine List.map_congr_left λt d=>?_;have b:=(h t d).1;simp only[cV.row,Function.comp_def];rw[im b,im b]
theorem Rc(g g':Tg)(ss ts:List cV)(v:uc 12 ss)(b:uc 12 ts) :
  ∃us j,ib 12 4 4 us/\(∀d,0<=d->(cM us d↔eO ss d/\eO ts d))/\bg tab Ic [.a [.f (sl g (aK ss))],.a [.f (sl g' (aK ts))]]=Eq (eH us j):=by
 have s:∀{l:List cV},uc 12 l->ib 12 2 2 (l.map (·.fs)):=λ{l} h=>⟨by rw[agq];exact h.1,λu m=>by
  obtain⟨t,b,rfl⟩:=agt.1 m;exact h.2 t b⟩
 have q:∀(l:List cV) (d:Int),cM (l.map (·.fs)) d↔eO l d:=λl d=>by
  constructor
  .rintro⟨u,m,h⟩;obtain⟨t,b,rfl⟩:=agt.1 m;exact⟨t,b,h⟩
  .rintro⟨t,b,h⟩;exact⟨t.fs,agt.2 ⟨t,b,rfl⟩,h⟩
 obtain⟨us,x,y,z,A⟩:=I0 (m1:=2) (m2:=2) (n1:=2) (n2:=2) ce ce ce ce ce g g' _ _ (s v) (s b);rw[qh v.2,qh b.2];exact⟨us,x,y,λd B=>by rw[z d B,q,q],A⟩
def W5(c d:cW)(k:Int):Prop:=∃x,0<=x/\x<=1000001000000/\eO c.ts (x+max 0 (-k))/\eO d.ts (x+max 0 k)
theorem Iu{a b:aH}{p:Pr}(d:rC a b p):(∃x,0<=x/\eO p.xs x/\eO p.ys x)↔W5 p.c p.d p.k:=by
 constructor
 .rintro⟨x,g,j,l⟩;obtain⟨e,f,q,m,-⟩:=uK p.gx p.gy p.xs p.ys d.xo d.yo 0 ap ap;rcases q with⟨-,-,k⟩|⟨-,⟨v,s,u⟩,-⟩
  .exact absurd ⟨ap,j,l⟩ (k x)
  .exact⟨e,ap,m.2,(d.xm e ap).1 s,(d.ym e ap).1 u⟩
 .rintro⟨x,g,-,j,l⟩;exact⟨x,g,(d.xm x g).2 j,(d.ym x g).2 l⟩
def ad6(a b:aH):Prop:=∃c∈a.cs,∃d∈b.cs,∃k,AS a.len b.len c d<=k/\k<=zt a.len b.len c d/\W5 c d k
def Df(a b:aH):Prop:=(∃x∈a.xs,nA a b x)\/(∃y∈b.xs,nA b a y)\/ad6 a b
structure Dg(a b:aH)(bs:List Nat)(J:an):Prop where
 h0:J[0]?=aa (.box (kM a) 0)
 h1:J[1]?=aa (.box (kM b) 0)
 h2:∃v:Bool,J[2]?=aa (.box [.f (.bool v)] 0)
 h3:∃n:Int,J[3]?=aa (.box [.f (fi n)] 0)
 cl:eI bs J
theorem Dg.bH{a b:aH}{bs:List Nat}{J J':an}(h:Dg a b bs J)(d:∀i:Nat,i<J.length->J'[i]?=J[i]?):Dg a b bs J':=by
 obtain⟨v,h2⟩:=h.h2;obtain⟨n,h3⟩:=h.h3;exact⟨by rw[d 0 (aj h.h0)];exact h.h0,by rw[d 1 (aj h.h1)];exact h.h1,⟨v,by rw[d 2 (aj h2)];exact h2⟩,⟨n,by rw[d 3 (aj h3)];exact h3⟩,⟨h.cl.nd,λi hi=>by rw[d i (aj (h.cl.on i hi))];exact h.cl.on i hi⟩⟩
theorem Dg.set{a b:aH}{bs:List Nat}{J:an}(h:Dg a b bs J){i:Nat}{y:bO}(hi:J[i]?=aa y)(h3:4<=i)(hy:y≠.dQ ae)(z:bO):Dg a b bs (J.set i z):=by
 obtain⟨v,d⟩:=h.h2;obtain⟨n,g⟩:=h.h3;exact⟨by rw[sh ap];exact h.h0,by rw[sh ap];exact h.h1,⟨v,by rw[sh ap];exact d⟩,⟨n,by rw[sh ap];exact g⟩,h.cl.set hi hy⟩
theorem Dg.tell{a b:aH}{bs:List Nat}{J:an}(h:Dg a b bs J)(v:Bool)(n:Int) :
  cY J (.ptr 2 0 0) [.f (.bool v)]=aa (J.set 2 (.box [.f (.bool v)] 0))/\cY (J.set 2 (.box [.f (.bool v)] 0)) (.ptr 3 0 0) [.f (fi n)]=aa ((J.set 2 (.box [.f (.bool v)] 0)).set 3 (.box [.f (fi n)] 0))/\
   eI bs ((J.set 2 (.box [.f (.bool v)] 0)).set 3 (.box [.f (fi n)] 0))/\((J.set 2 (.box [.f (.bool v)] 0)).set 3 (.box [.f (fi n)] 0))[2]?=aa (.box [.f (.bool v)] 0)/\((J.set 2 (.box [.f (.bool v)] 0)).set 3 (.box [.f (fi n)] 0))[3]?=aa (.box [.f (fi n)] 0):=by
 obtain⟨w,g⟩:=h.h2;obtain⟨m,j⟩:=h.h3;have d:(J.set 2 (.box [.f (.bool v)] 0))[3]?=aa (.box [.f (fi m)] 0):=by rw[sh ap];exact j
 refine⟨by simp[cY,g,over],by simp[cY,d,over],(h.cl.set g bv).set d bv,?_,BY (aj d)⟩;rw[sh ap];exact BY (aj g)
theorem Qv(a b:aH)(ha:kU a)(X:kU b):∃r:Bool,(r=ae↔Df a b)/\bg tab jg [.a (a.row.map .f),.a (b.row.map .f)]=Eq (.t [vb r,vi 0]):=by
 have key:∃v,(∃r:Bool,(r=ae↔Df a b)/\v=.t [vb r,vi 0])/\bg tab jg [.a (a.row.map .f),.a (b.row.map .f)] v:=by
  refine qJ aeB rfl λQ hQ=>?_;have j9:=(nV a ha.ok.sm).eq;rw[ha.ok.v]at j9;simp[aH.row]at j9;have j_:=(nV b X.ok.sm).eq;rw[X.ok.v]at j_;simp[aH.row]at j_;obtain⟨t6,k_,b_⟩:=Dp a b ha X λx hx=>by have:=ha.ex x hx;omega
  obtain⟨t7,m9,i6⟩:=Dp b a X ha λx hx=>by have:=X.ex x hx;omega
  simp only[aH.row,agm,agp]at b_ i6;have j8:=Aw a b;simp only[aH.row,agm,agp]at j8;have la:∀(bs:List Nat) (J:an),Dg a b bs J->aV J (aa 3) (.c (.ptr 0 0 0))=aa (.a [.f (sl a.cg (aU a.cs)),.f (fi a.len),.f (sl a.xg (aF a.xs))])/\aV J (aa 3) (.c (.ptr 1 0 0))=aa (.a [.f (sl b.cg (aU b.cs)),.f (fi b.len),.f (sl b.xg (aF b.xs))]):=λbs J h=>by refine⟨?_,?_⟩<;>simp[aV,aA,h.h0,h.h1,kM,aW]
  have i7:∀(t:T) (J:an) (bs:List Nat) (v:Bool),t.g 4=.c (.ptr 2 0 0)->t.g 5=.c (.ptr 3 0 0)->(v=ae↔Df a b)->eI bs J->J[2]?=aa (.box [.f (.bool v)] 0)->J[3]?=aa (.box [.f (fi 0)] 0)->∀j,Q j ⟨t,bs.map .dY,J⟩:=by
   intro t J bs v N O hv i9 M h3 j;refine hQ _ _ _ ⟨v,hv,rfl⟩ ⟨bs,rfl,i9,.t [vb v,vi 0],?_,by simp[jh,dq,bu]⟩;have d2:=(iQ (i9.not M bv)).trans M;have d3:=(iQ (i9.not h3 bv)).trans h3;simp[Km.results,cC,bu,N,O,d2,d3]
  apply ai;simp[aH.row];obtain⟨J0,c_⟩:=aI ([.box (kM a) 0,.box (kM b) 0,.box [.f (.bool ag)] 0,.box [.f (fi 0)] 0]:an);have l:Dg a b [] J0:=by rw[c_];exact⟨rfl,rfl,⟨_,rfl⟩,⟨_,rfl⟩,⟨bv,bv⟩⟩
  have l0:J0.length=4:=by rw[c_];rfl
  unfold kM at c_;rw[<-c_];apply au;apply ai;simp[(la _ _ l).1,(la _ _ l).2,-ax,j9,j_];refine bE bv ?_;apply au;apply ai;have r5:∀(t:T) (J:an) (bs:List Nat),t.g 2=.c (.ptr 0 0 0)->t.g 3=.c (.ptr 1 0 0)->t.g 4=.c (.ptr 2 0 0)->t.g 5=.c (.ptr 3 0 0)->Dg a b bs J->(∀x∈a.xs,¬ nA a b x)->(∀y∈b.xs,¬ nA b a y)->
    WP tab jg ab [.code H_] ⟨t,bs.map .dY,J⟩ Q:=by
   intro t J bs g2 g3 N O hq a_ j6;obtain⟨n3,k3⟩:=hq.h3;have t8:4<=J.length:=by have:=aj k3;omega
   obtain⟨bl,i8⟩:=aI (J.length);apply ai;simp;rw[<-i8];obtain⟨HA,c9⟩:=aI (J++[bO.box [.f (.bool ag)] 0]);rw[<-c9];have kq:Dg a b bs HA:=hq.bH λi hi=>by rw[c9,AI hi]
   have kl:HA[bl]?=aa (.box [.f (.bool ag)] 0):=by rw[c9,i8];simp
   have kn:HA.length=bl+1:=by rw[c9,i8];simp
   apply au;apply ai;simp[g2,g3,(la _ _ kq).1,(la _ _ kq).2,-ax,j8];refine ay ?_
   suffices go:∀u:T,u.g 4=.c (.ptr 2 0 0)->u.g 5=.c (.ptr 3 0 0)->u.g 9=.c (.ptr bl 0 0)->u.g 44=.c (.f (.fn mH [.fp a.row 0,.fp b.row 0]))->
     WP tab jg ab [.code S7,.inBlock 2,.code S8] ⟨u,bs.map .dY,HA⟩ Q by exact go _ (by simp[N]) (by simp[O]) bv (by simp[aH.row])
   clear g2 g3 N O t;intro u N O g9 r9;obtain⟨W,B⟩:∃W:dt->Option aE->bO,W=λst pd=>.lp jg u [P.nat 45] jj jm st pd (bl+1):=⟨_,rfl⟩
   obtain⟨m,z⟩:=aI (HA++[.dQ ae,W .ready ab]);have q4:m[bl+1]?=aa (.dQ ae):=by rw[z,agj ap,kn];simp
   have q5:m[bl+1+1]?=aa (W .ready ab):=by rw[z,agj ap,kn];simp
   have qk:∀i:Nat,i<HA.length->m[i]?=HA[i]?:=λi hi=>by rw[z,AI hi]
   have p9:bl+1 ∉ bs:=λX=>by have:=aj (kq.cl.on _ X);omega
   have qq:=kq.bH qk;have A:Dg a b ((bl+1)::bs) m:=⟨qq.h0,qq.h1,qq.h2,qq.h3,⟨air.2 ⟨p9,qq.cl.nd⟩,λb X=>by
    rcases agA.1 X with rfl|X
    .exact q4
    .exact qq.cl.on b X⟩⟩
   have ql:m[bl]?=aa (.box [.f (.bool ag)] 0):=by rw[qk bl ap];exact kl
   have s7:m.length=bl+3:=by rw[z,aft,kn];rfl
   obtain⟨H2,he,Z⟩:=rH (bb:=bl+1+1) (H:=m) a b ha X (λps J=>m.length<=J.length/\(∀i:Nat,i<m.length->i≠bl->J[i]?=m[i]?)/\∃v:Bool,J[bl]?=aa (.box [.f (.bool v)] 0)/\(v=ae↔∃p∈ps,W5 p.c p.d p.k))
    (λ_ _=>False) ⟨agn _,λ_ _ _=>rfl,ag,ql,bv⟩
    (λps J J' ⟨h1,M,v,h3,h4⟩ hk hl=>⟨ap,λi hi S=>by rw[hk i hi];exact M i hi S,v,by rw[hk bl ap];exact h3,h4⟩)
    (λps p J ⟨h1,M,v,h3,h4⟩ hl U=>by
     have I:J[bl+1+1]?=aa (W .ready ab):=by rw[M _ (aj q5) ap];exact q5
     rw[B]at I;obtain⟨us,gu,q_,h_,l_⟩:=Rc p.gx p.gy p.xs p.ys U.xo U.yo;obtain⟨em,n8,n9⟩:=A4 gu (us:=us) ⟨by have:=q_.1;omega,q_.2⟩;have F:em=ag↔W5 p.c p.d p.k:=by
      rw[<-Iu U];constructor
      .intro he;apply Classical.byContradiction;intro hn;have:=n8.2 λd hd hA=>hn ⟨d,hd,(h_ d hd).1 hA⟩;rw[he]at this;cases this
      .rintro⟨x,h0,hx⟩;cases em with
       |false=>rfl| true=>exact absurd ((h_ x h0).2 hx) (n8.1 rfl x h0)
     refine⟨ae,?_⟩;obtain⟨r,J',j5,rfl,hr⟩:∃r J',Ev tab (.yield (bl+1+1)) [.a p.row] J r J'/\(r=vb ae/\(m.length<=J'.length/\(∀i:Nat,i<m.length->i≠bl->J'[i]?=m[i]?)/\J'[bl]?=aa (.box [.f (.bool (v||!em))] 0))/\J.length<=J'.length/\∀i:Nat,m.length<=i->i<J.length->J'[i]?=J[i]?):=by
      refine dw (tab:=tab) (b:=bl+1+1) (args:=[.a p.row]) (H:=J) I rfl λQ' d_=>?_;obtain⟨bp,Y⟩:=aI (J.length);have j7:p.row.length=8:=rfl;refine aq (.inr rfl) ?_;simp[j7];rw[<-Y];obtain⟨J1,K⟩:=aI (J++[bO.box p.row 0]);rw[<-K];have k1:∀i:Nat,i<J.length->J1[i]?=J[i]?:=λi hi=>by rw[K,AI hi]
      have d1:J1[bp]?=aa (.box p.row 0):=by rw[K,Y];simp
      have n1:J1.length=bp+1:=by rw[K,Y];simp
      have e5:J1[bl+1+1]?=aa (.lp jg u [P.nat 45] jj jm .ready ab (bl+1)):=by rw[k1 _ (aj I)];exact I
      refine fP e5 ?_;obtain⟨E,s⟩:=aI (J1.set (bl+1+1) (.lp jg u [P.nat 45] jj jm .busy ab (bl+1)));rw[<-s];have k2:∀i:Nat,i<J.length->i≠bl+1+1->E[i]?=J[i]?:=λi hi S=>by rw[s,sh (Ne.symm S),k1 i hi]
      have d2:E[bp]?=aa (.box p.row 0):=by rw[s,sh (by have:=aj I;omega)];exact d1
      have f5:E[bl+1+1]?=aa (.lp jg u [P.nat 45] jj jm .busy ab (bl+1)):=by rw[s];exact BY (aj e5)
      have n2:E.length=bp+1:=by rw[s,agx];exact n1
      have v2:E[bl]?=aa (.box [.f (.bool v)] 0):=by rw[k2 bl ap ap];exact h3
      unfold Pr.row at d2;have c5:aV E (aa 1) (.c (.ptr bp 5 0))=aa (.a [.f (sl p.gx (aK p.xs))]):=by simp[aV,aA,d2,aW]
      have c6:aV E (aa 1) (.c (.ptr bp 6 0))=aa (.a [.f (sl p.gy (aK p.ys))]):=by simp[aV,aA,d2,aW]
      obtain⟨bm,m_⟩:=aI (E.length);refine ay ?_;refine au (aq (.inr rfl) ?_);simp[c5,c6,-ax,l_,eH];rw[<-m_];obtain⟨J3,d9⟩:=aI (E++[bO.box [.f (sl gu (aX us))] 0]);rw[<-d9];have k3:∀i:Nat,i<E.length->J3[i]?=E[i]?:=λi hi=>by rw[d9,AI hi]
      have m3:J3[bm]?=aa (.box [.f (sl gu (aX us))] 0):=by rw[d9,m_];simp
      have v3:J3[bl]?=aa (.box [.f (.bool v)] 0):=by rw[k3 bl ap];exact v2
      have r_:J3[bl+1+1]?=aa (.lp jg u [P.nat 45] jj jm .busy ab (bl+1)):=by rw[k3 _ (aj f5)];exact f5
      have lv:aV J3 ab (.c (.ptr bl 0 0))=aa (vb v):=by simp[aV,aA,v3]
      have lm:aV J3 (aa 1) (.c (.ptr bm 0 0))=aa (.a [.f (sl gu (aX us))]):=by simp[aV,aA,m3,aW]
      have sv:∀w:Bool,cY J3 (.ptr bl 0 0) [.f (.bool w)]=aa (J3.set bl (.box [.f (.bool w)] 0)):=λw=>by simp[cY,v3,over]
      apply au;refine au (aq (.inr rfl) ?_);simp;refine bE bv ?_;refine aq (.inr rfl) ?_;have f_:∀t':T,WP tab jg (aa (bl+1+1)) [.inBlock 3] ⟨t',[],J3.set bl (.box [.f (.bool (v||!em))] 0)⟩ Q':=λt'=>by
       have s5:(J3.set bl (.box [.f (.bool (v||!em))] 0))[bl+1+1]?=aa (.lp jg u [P.nat 45] jj jm .busy ab (bl+1)):=by rw[sh ap];exact r_
       have n3:J3.length=bp+2:=by rw[d9,aft,n2];rfl
       refine av (cX (d_ _ _ _ _ _ _ _ _ _ _ rfl s5 ⟨rfl,⟨?_,λi hi S=>?_,?_⟩,?_,λi h1 M=>?_⟩))
       .rw[agx,agx,n3];omega
       .by_cases e:i=bl+1+1
        .subst e;rw[BY (aj s5)];rw[q5,B];rfl
        .rw[sh (Ne.symm e),sh (Ne.symm S),k3 i ap,k2 i ap e];exact M i hi S
       .rw[sh ap];exact BY (aj v3)
       .rw[agx,agx,n3];omega
       .rw[sh ap,sh ap,k3 i ap,k2 i ap ap]
      cases v with
      |true=>
       simp[g9,lv,sv,-ax,-bw];exact f_ _
      |false=>
       simp[g9,lv,lm,sv,-ax,-bw,n9];exact f_ _
     refine⟨J',j5,?_⟩;simp only[if_true];refine⟨⟨hr.1.1,hr.1.2.1,_,hr.1.2.2,?_⟩,hr.2⟩;simp only[Bool.or_eq_true,Bool.not_eq_true',F,h4,agl,If];constructor
     .rintro(⟨q,hq,h⟩|h)
      .exact⟨q,.inl hq,h⟩
      .exact⟨p,.inr rfl,h⟩
     .rintro⟨q,hq|rfl,h⟩
      .exact .inl ⟨q,hq,h⟩
      .exact .inr h)
   have i_:Ev tab (.fn mH) [.c (.yl (HA.length+1)),.c (.f (.fp a.row 0)),.c (.f (.fp b.row 0))] (HA++[.dQ ae,.lp jg u [P.nat 45] jj jm .ready ab HA.length]) (.t []) H2:=by
    have e:HA++[.dQ ae,.lp jg u [P.nat 45] jj jm .ready ab HA.length]=m:=by rw[z,B,kn]
    rw[e,kn];exact he
   refine dK (g:=mH) (by rw[oi,r9];simp[cr]) i_ ?_;rw[kn];rcases Z with⟨ps,⟨o_,L,v,hv,n_⟩,p_,g_⟩|⟨_,_,h⟩
   case inr=>exact h.elim
   have I:H2[bl+1+1]?=aa (W .ready ab):=by rw[L _ (aj q5) ap];exact q5
   obtain⟨w2,z2⟩:=A.h2;obtain⟨w3,z3⟩:=A.h3;have s_:bl ∉ (bl+1)::bs:=λh=>by
    have:=A.cl.on _ h;rw[ql]at this;cases this
   have pq:Dg a b ((bl+1)::bs) H2:=⟨by rw[L 0 ap ap];exact A.h0,by rw[L 1 ap ap];exact A.h1,⟨w2,by rw[L 2 ap ap];exact z2⟩,⟨w3,by rw[L 3 ap ap];exact z3⟩,
    ⟨A.cl.nd,λi hi=>by rw[L i (aj (A.cl.on i hi)) (λe=>s_ (e▸hi))];exact A.cl.on i hi⟩⟩
   rw[B]at I;refine ew I ce ?_;have eq:=pq.set I ap bv (.lp jg u [P.nat 45] jj jm .exhausted ab (bl+1));have ev:(H2.set (bl+1+1) (.lp jg u [P.nat 45] jj jm .exhausted ab (bl+1)))[bl]?=aa (.box [.f (.bool v)] 0):=by rw[sh ap];exact hv
   generalize H2.set (bl+1+1) (.lp jg u [P.nat 45] jj jm .exhausted ab (bl+1))=H3 at eq ev ⊢;obtain⟨s1,s2,s3,s4,s6⟩:=eq.tell v 0;have lv:aV H3 ab (.c (.ptr bl 0 0))=aa (vb v):=by simp[aV,aA,ev]
   refine av ?_;apply ai;simp[N,O,g9,lv,s1,s2,-ax,-bw];refine az (i7 _ _ _ v (by simp[N]) (by simp[O]) ?_ s3 s4 s6 _);rw[n_];constructor
   .rintro⟨p,U,h⟩;have:=p_ p U;exact .inr (.inr ⟨p.c,this.ca,p.d,this.db,p.k,this.lo,this.hi,h⟩)
   .rintro(⟨x,hx,h⟩|⟨y,hy,h⟩|⟨c,hc,d,hd,k,h1,M,h⟩)
    .exact absurd h (a_ x hx)
    .exact absurd h (j6 y hy)
    .obtain⟨p,U,rfl,rfl,rfl⟩:=g_ c hc d hd k h1 M;exact⟨p,U,h⟩
  have r6:∀(t:T) (J:an) (bs:List Nat),t.g 4=.c (.ptr 2 0 0)->t.g 5=.c (.ptr 3 0 0)->Dg a b bs J->Df a b->WP tab jg ab [.code S5,.code HY] ⟨t,bs.map .dY,J⟩ Q:=by
   intro t J bs N O hq hm;obtain⟨s1,s2,s3,s4,s6⟩:=hq.tell ae 0;apply ai;simp[N,O,s1,s2,-bw];exact az (i7 _ _ _ ae (by simp[N]) (by simp[O]) ⟨λ_=>hm,λ_=>rfl⟩ s3 s4 s6 _)
  have early:∀t:T,t.g 2=.c (.ptr 0 0 0)->t.g 3=.c (.ptr 1 0 0)->t.g 4=.c (.ptr 2 0 0)->t.g 5=.c (.ptr 3 0 0)->(∀x∈a.xs,¬ nA a b x)->(∀y∈b.xs,¬ nA b a y)->WP tab jg ab [.code HY] ⟨t,[],J0⟩ Q:=by
   intro t g2 g3 N O a_ j6;apply au;apply ai;simp[g2,g3,(la _ _ l).1,(la _ _ l).2,-ax,j8];refine ay ?_
   suffices go:∀u:T,u.g 2=.c (.ptr 0 0 0)->u.g 3=.c (.ptr 1 0 0)->u.g 4=.c (.ptr 2 0 0)->u.g 5=.c (.ptr 3 0 0)->u.g 31=.c (.f (.fn mH [.fp a.row 0,.fp b.row 0]))->
     WP tab jg ab [.code S6,.inBlock 0,.code H_] ⟨u,([]:List Nat).map .dY,J0⟩ Q by exact go _ (by simp[g2]) (by simp[g3]) (by simp[N]) (by simp[O]) (by simp[aH.row])
   clear g2 g3 N O t;intro u g2 g3 N O r7;obtain⟨W,B⟩:∃W:dt->Option aE->bO,W=λst pd=>.lp jg u [P.nat 32] ob oc st pd 4:=⟨_,rfl⟩
   obtain⟨m,z⟩:=aI (J0++[.dQ ae,W .ready ab]);have q4:m[4]?=aa (.dQ ae):=by rw[z,agj ap,l0];simp
   have q5:m[5]?=aa (W .ready ab):=by rw[z,agj ap,l0];simp
   have qq:=l.bH (J':=m) λi hi=>by rw[z,AI hi]
   have A:Dg a b [4] m:=⟨qq.h0,qq.h1,qq.h2,qq.h3,⟨bv,λb X=>by rw[If.1 X];exact q4⟩⟩
   have s7:m.length=6:=by rw[z,aft,l0];rfl
   obtain⟨H2,he,Z⟩:=rH (bb:=5) (H:=m) a b ha X (λps J=>m.length<=J.length/\(∀i:Nat,i<m.length->J[i]?=m[i]?)/\∀p∈ps,¬ W5 p.c p.d p.k)
    (λp J=>W5 p.c p.d p.k/\eI [4] J/\J[2]?=aa (.box [.f (.bool ae)] 0)/\J[3]?=aa (.box [.f (fi 0)] 0)/\J[5]?=aa (W .done (aa .ret))) ⟨agn _,λ_ _=>rfl,bv⟩
    (λps J J' ⟨h1,M,h3⟩ hk hl=>⟨ap,λi hi=>by rw[hk i hi];exact M i hi,h3⟩)
    (λps p J ⟨h1,M,h3⟩ hl U=>by
     have I:J[5]?=aa (W .ready ab):=by rw[M _ (aj q5)];exact q5
     have pq:=A.bH M;rw[B]at I;obtain⟨e,f,hm,-,e_⟩:=uK p.gx p.gy p.xs p.ys U.xo U.yo 0 ap ap;have F:f=ae↔W5 p.c p.d p.k:=by
      rw[<-Iu U];rcases hm with⟨rfl,-,k⟩|⟨rfl,k,-⟩
      .exact⟨λh=>(by cases h),λ⟨x,h0,h1,M⟩=>absurd ⟨ap,h1,M⟩ (k x)⟩
      .exact⟨λ_=>⟨e,by have:=k.1;omega,k.2⟩,λ_=>rfl⟩
     refine⟨!f,?_⟩;obtain⟨r,J',j5,rfl,hr⟩:∃r J',Ev tab (.yield 5) [.a p.row] J r J'/\(r=vb (!f)/\(if f=ae then eI [4] J'/\J'[2]?=aa (.box [.f (.bool ae)] 0)/\J'[3]?=aa (.box [.f (fi 0)] 0)/\J'[5]?=aa (W .done (aa .ret))else J.length<=J'.length/\∀i:Nat,i<J.length->J'[i]?=J[i]?)):=by
      refine dw (tab:=tab) (b:=5) (args:=[.a p.row]) (H:=J) I rfl λQ' d_=>?_;obtain⟨bp,Y⟩:=aI (J.length);have j7:p.row.length=8:=rfl;refine aq (.inr rfl) ?_;simp[j7];rw[<-Y];obtain⟨J1,K⟩:=aI (J++[bO.box p.row 0]);rw[<-K];have k1:∀i:Nat,i<J.length->J1[i]?=J[i]?:=λi hi=>by rw[K,AI hi]
      have d1:J1[bp]?=aa (.box p.row 0):=by rw[K,Y];simp
      have n1:J1.length=bp+1:=by rw[K,Y];simp
      have e5:J1[5]?=aa (.lp jg u [P.nat 32] ob oc .ready ab 4):=by rw[k1 _ (aj I)];exact I
      refine fP e5 ?_;obtain⟨E,s⟩:=aI (J1.set 5 (.lp jg u [P.nat 32] ob oc .busy ab 4));rw[<-s];have k2:∀i:Nat,i<J.length->i≠5->E[i]?=J[i]?:=λi hi S=>by rw[s,sh (Ne.symm S),k1 i hi]
      have d2:E[bp]?=aa (.box p.row 0):=by rw[s,sh (by have:=aj I;omega)];exact d1
      have f5:E[5]?=aa (.lp jg u [P.nat 32] ob oc .busy ab 4):=by rw[s];exact BY (aj e5)
      have n2:E.length=bp+1:=by rw[s,agx];exact n1
      have q2:Dg a b [4] E:=by rw[s];exact(pq.bH k1).set e5 ap bv _
      unfold Pr.row at d2;have c5:aV E (aa 1) (.c (.ptr bp 5 0))=aa (.a [.f (sl p.gx (aK p.xs))]):=by simp[aV,aA,d2,aW]
      have c6:aV E (aa 1) (.c (.ptr bp 6 0))=aa (.a [.f (sl p.gy (aK p.ys))]):=by simp[aV,aA,d2,aW]
      refine ay ?_;refine au (aq (.inr rfl) ?_);simp[c5,c6,-ax,e_];apply au;refine aq (.inr rfl) ?_;simp;cases f with
      |true=>
       refine aw bv ?_;obtain⟨s1,s2,s3,s4,s6⟩:=q2.tell ae 0;have s5:((E.set 2 (.box [.f (.bool ae)] 0)).set 3 (.box [.f (fi 0)] 0))[5]?=aa (.lp jg u [P.nat 32] ob oc .busy ab 4):=by rw[sh ap,sh ap];exact f5
       refine au (aq (.inr rfl) ?_);simp[N,O,s1,s2,-bw];refine az (d_ _ _ _ _ _ _ _ _ _ _ rfl s5 ⟨rfl,?_⟩);rw[bZ rfl];refine⟨s3.set s5 bv,?_,?_,?_⟩
       .rw[sh ap];exact s4
       .rw[sh ap];exact s6
       .rw[B];exact BY (aj s5)
      |false=>
       refine aD bv (aR (av (cX (d_ _ _ _ _ _ _ _ _ _ _ rfl f5 ⟨rfl,?_⟩))));rw[ct bv];refine⟨by rw[agx,n2];omega,λi hi=>?_⟩;by_cases e:i=5
       .subst e;rw[BY (aj f5),I];rfl
       .rw[sh (Ne.symm e),k2 i hi e]
     refine⟨J',j5,?_⟩;cases f with
     |true=>simpa using ⟨F.1 rfl,by simpa using hr⟩
     |false=>
      have hr:J.length<=J'.length/\∀i:Nat,i<J.length->J'[i]?=J[i]?:=by simpa using hr
      simp only[Bool.not_false,if_true];refine⟨⟨ap,λi hi=>by rw[hr.2 i ap];exact M i hi,λq hq=>?_⟩,hr.1,λi _ hi=>hr.2 i hi⟩;rcases agl.1 hq with h|h
      .exact h3 q h
      .rw[If.1 h];intro h;have:=F.2 h;cases this)
   have i_:Ev tab (.fn mH) [.c (.yl (J0.length+1)),.c (.f (.fp a.row 0)),.c (.f (.fp b.row 0))] (J0++[.dQ ae,.lp jg u [P.nat 32] ob oc .ready ab J0.length]) (.t []) H2:=by
    have e:J0++[.dQ ae,.lp jg u [P.nat 32] ob oc .ready ab J0.length]=m:=by rw[z,B,l0]
    rw[e,l0];exact he
   refine dK (g:=mH) (by rw[oi,r7];simp[cr]) i_ ?_;rw[l0];rcases Z with⟨ps,⟨o_,L,t_⟩,p_,g_⟩|⟨p,U,F,c1,c2,c3,c5⟩
   .have I:H2[5]?=aa (W .ready ab):=by rw[L _ (aj q5)];exact q5
    rw[B]at I;refine ew I ce (av ?_);exact r5 u _ [4] g2 g3 N O ((A.bH L).set I ap bv _) a_ j6
   .rw[B]at c5;refine lK c5 ce ?_;refine az (i7 _ _ [4] ae N O ⟨λ_=>.inr (.inr ⟨p.c,U.ca,p.d,U.db,p.k,U.lo,U.hi,F⟩),λ_=>rfl⟩ (c1.set c5 bv) ?_ ?_ _)
    .rw[sh ap];exact c2
    .rw[sh ap];exact c3
  cases t6 with
  |true=>
   simp[(la _ _ l).1,(la _ _ l).2,-ax,b_];refine aw bv ?_;exact r6 _ J0 [] bv bv l (.inl (k_.1 rfl))
  |false=>
   have a_:∀x∈a.xs,¬ nA a b x:=λx hx h=>by have:=k_.2 ⟨x,hx,h⟩;cases this
   cases t7 with
   |true=>
    simp[(la _ _ l).1,(la _ _ l).2,-ax,b_,i6];refine aw bv ?_;exact r6 _ J0 [] bv bv l (.inr (.inl (m9.1 rfl)))
   |false=>
    simp[(la _ _ l).1,(la _ _ l).2,-ax,b_,i6];refine bE bv ?_;exact early _ bv bv bv bv a_ λy hy h=>by have:=m9.2 ⟨y,hy,h⟩;cases this
 obtain⟨v,⟨r,hr,rfl⟩,h⟩:=key;exact⟨r,hr,h.eq⟩
theorem zC{a b:aH}{I:Int}{tm:T}(n:FT tm){d B:Nat}(Q:tm.g 20=.c (.ptr d 0 0)){x:aC}{s:FS}{J:an}(p:FQ a b I s J)(c:J[d]?=aa (.box [.f (fi x.day),.f (fi x.fr),.f (fi x.to)] 0))(hb:10<=d)(hB:d<B)(U:J[B]?=aa (.lp fq tm [P.nat 138] lD lE .ready ab (B-1)))(y:aC) :
  ∃r J',Ev tab (.yield B) [.a (y.row.map .f)] J r J'/\(r=vb ae/\FQ a b I (gF I s x y) J'/\J'[B]?=aa (.lp fq tm [P.nat 138] lD lE .ready ab (B-1))/\J.length<=J'.length/\∀i:Nat,9<=i->i<J.length->i≠B->J'[i]?=J[i]?):=by
 have w:=aj U;refine dw (tab:=tab) (b:=B) (args:=[.a (y.row.map .f)]) (H:=J) U rfl λQ' S=>?_;obtain⟨g,l⟩:=aI (J.length);obtain⟨v,q⟩:=aI (J++[bO.box [.f (fi y.day),.f (fi y.fr),.f (fi y.to)] 0]);have M:v[g]?=aa (.box [.f (fi y.day),.f (fi y.fr),.f (fi y.to)] 0):=by rw[q,l];simp
 have e:∀i:Nat,i<J.length->v[i]?=J[i]?:=λi hi=>by rw[q,AI hi]
 have t:v.length=g+1:=by rw[q,aft,l];rfl
 refine aq (.inr rfl) ?_;simp[aC.row];rw[<-q,<-l];have Y:v[B]?=aa (.lp fq tm [P.nat 138] lD lE .ready ab (B-1)):=by rw[e B w];exact U
 refine fP Y ?_;obtain⟨m,j⟩:=aI (v.set B (.lp fq tm [P.nat 138] lD lE .busy ab (B-1)));have X:∀i:Nat,i<J.length->i≠B->m[i]?=J[i]?:=λi hi u=>by rw[j,sh (Ne.symm u),e i hi]
 have O:m[g]?=aa (.box [.f (fi y.day),.f (fi y.fr),.f (fi y.to)] 0):=by rw[j,sh ap];exact M
 have N:m[d]?=aa (.box [.f (fi x.day),.f (fi x.fr),.f (fi x.to)] 0):=by rw[X d (aj c) ap];exact c
 have f:m[B]?=aa (.lp fq tm [P.nat 138] lD lE .busy ab (B-1)):=by rw[j];exact BY ap
 have E:FQ a b I s m:=p.bH λi hi=>X i ap ap;have l2:m.length=g+1:=by rw[j,agx];exact t
 rw[<-j];have K:aV m (aa 3) (.c (.ptr d 0 0))=aa (.a [.f (fi x.day),.f (fi x.fr),.f (fi x.to)]):=by simp[aV,aA,N,aW]
 have L:aV m (aa 3) (.c (.ptr g 0 0))=aa (.a [.f (fi y.day),.f (fi y.fr),.f (fi y.to)]):=by simp[aV,aA,O,aW]
 have h:aV m ab (.c (.ptr 9 0 0))=aa (.c qe):=by simp[aV,aA,E.h9]
 obtain⟨Z,z,W,o,A⟩:=tJ E x y;simp only[aC.row,agm,agp]at z;refine ay ?_;refine aq (.inr rfl) ?_;simp[n.g13,Q,h,K,L,-ax,qe,z.eq];have F:Z[B]?=aa (.lp fq tm [P.nat 138] lD lE .busy ab (B-1)):=by rw[A B ap ap];exact f
 refine av (cX (S _ _ _ _ _ _ _ _ _ _ rfl F ⟨rfl,?_,BY (aj F),by show J.length<=(Z.set B _).length;rw[agx];omega,λi h1 k u=>?_⟩))
 .exact W.bH λi hi=>by rw[sh ap]
 .rw[sh (Ne.symm u),A i ap ap,X i k u]
theorem zD{a b:aH}{I:Int}{tm:T}(n:FT tm){d B:Nat}(Q:tm.g 25=.c (.ptr d 0 0)){y:aC}{s:FS}{J:an}(p:FQ a b I s J)(c:J[d]?=aa (.box [.f (fi y.day),.f (fi y.fr),.f (fi y.to)] 0))(hb:10<=d)(hB:d<B)(U:J[B]?=aa (.lp fq tm [P.nat 166] lF lG .ready ab (B-1)))(x:aC) :
  ∃r J',Ev tab (.yield B) [.a (x.row.map .f)] J r J'/\(r=vb ae/\FQ a b I (gF I s x y) J'/\J'[B]?=aa (.lp fq tm [P.nat 166] lF lG .ready ab (B-1))/\J.length<=J'.length/\∀i:Nat,9<=i->i<J.length->i≠B->J'[i]?=J[i]?):=by
 have w:=aj U;refine dw (tab:=tab) (b:=B) (args:=[.a (x.row.map .f)]) (H:=J) U rfl λQ' S=>?_;obtain⟨g,l⟩:=aI (J.length);obtain⟨v,q⟩:=aI (J++[bO.box [.f (fi x.day),.f (fi x.fr),.f (fi x.to)] 0]);have M:v[g]?=aa (.box [.f (fi x.day),.f (fi x.fr),.f (fi x.to)] 0):=by rw[q,l];simp
 have e:∀i:Nat,i<J.length->v[i]?=J[i]?:=λi hi=>by rw[q,AI hi]
 have t:v.length=g+1:=by rw[q,aft,l];rfl
 refine aq (.inr rfl) ?_;simp[aC.row];rw[<-q,<-l];have Y:v[B]?=aa (.lp fq tm [P.nat 166] lF lG .ready ab (B-1)):=by rw[e B w];exact U
 refine fP Y ?_;obtain⟨m,j⟩:=aI (v.set B (.lp fq tm [P.nat 166] lF lG .busy ab (B-1)));have X:∀i:Nat,i<J.length->i≠B->m[i]?=J[i]?:=λi hi u=>by rw[j,sh (Ne.symm u),e i hi]
 have O:m[g]?=aa (.box [.f (fi x.day),.f (fi x.fr),.f (fi x.to)] 0):=by rw[j,sh ap];exact M
 have N:m[d]?=aa (.box [.f (fi y.day),.f (fi y.fr),.f (fi y.to)] 0):=by rw[X d (aj c) ap];exact c
 have f:m[B]?=aa (.lp fq tm [P.nat 166] lF lG .busy ab (B-1)):=by rw[j];exact BY ap
 have E:FQ a b I s m:=p.bH λi hi=>X i ap ap;have l2:m.length=g+1:=by rw[j,agx];exact t
 rw[<-j];have K:aV m (aa 3) (.c (.ptr d 0 0))=aa (.a [.f (fi y.day),.f (fi y.fr),.f (fi y.to)]):=by simp[aV,aA,N,aW]
 have L:aV m (aa 3) (.c (.ptr g 0 0))=aa (.a [.f (fi x.day),.f (fi x.fr),.f (fi x.to)]):=by simp[aV,aA,O,aW]
 have h:aV m ab (.c (.ptr 9 0 0))=aa (.c qe):=by simp[aV,aA,E.h9]
 obtain⟨Z,z,W,o,A⟩:=tJ E x y;simp only[aC.row,agm,agp]at z;refine ay ?_;refine aq (.inr rfl) ?_;simp[n.g13,Q,h,K,L,-ax,qe,z.eq];have F:Z[B]?=aa (.lp fq tm [P.nat 166] lF lG .busy ab (B-1)):=by rw[A B ap ap];exact f
 refine av (cX (S _ _ _ _ _ _ _ _ _ _ rfl F ⟨rfl,?_,BY (aj F),by show J.length<=(Z.set B _).length;rw[agx];omega,λi h1 k u=>?_⟩))
 .exact W.bH λi hi=>by rw[sh ap]
 .rw[sh (Ne.symm u),A i ap ap,X i k u]
def FW(a b:aH)(d:Int)(S:aC->aC->Prop)(bs:List Nat)(J:an):Prop:=(∃s,FQ a b d s J/\mE d S s)/\eI bs J/\∀i∈bs,10<=i/\i<J.length
theorem FW.push{a b:aH}{fr:Int}{S:aC->aC->Prop}{bs:List Nat}{J:an}(h:FW a b fr S bs J)(K:an):FW a b fr S bs (J++K):=by
 obtain⟨⟨s,g,j⟩,hc,d⟩:=h;have l:=aj g.h9;exact⟨⟨s,g.bH λi hi=>by rw[AI ap],j⟩,hc.push K,λi hi=>⟨(d i hi).1,by rw[aft];have:=(d i hi).2;omega⟩⟩
theorem Zx{a b:aH}(ha:kU a)(hb:kU b){O:Int}{x:aC}(x0:-1000000000000<=x.fr)(x1:x.to<=1000000000000)(x2:x.fr<x.to){S:aC->aC->Prop}{bs:List Nat}{J:an}(h:FW a b O S bs J){tm:T}(hT:FT tm){d:Nat}(f:tm.g 20=.c (.ptr d 0 0))(U:tm.g 137=.c (.f (.fn mI [.fp b.row 0,.fp x.row 0])))(hx:J[d]?=aa (.box [.f (fi x.day),.f (fi x.fr),.f (fi x.to)] 0))(X:10<=d){k:List dU}{Q:Option aE->St->Prop}
  (hk:∀(J':an) (K:List Nat),FW a b O (λv z=>S v z\/(v=x/\mF b x z)) K J'->J'[d]?=aa (.box [.f (fi x.day),.f (fi x.fr),.f (fi x.to)] 0)->J.length<=J'.length->WP tab fq ab k ⟨tm,K.map .dY,J'⟩ Q) :
  WP tab fq ab (.code HU::.inBlock 4::k) ⟨tm,bs.map .dY,J⟩ Q:=by
 obtain⟨⟨s0,e,p⟩,Y,j⟩:=h;obtain⟨N,W⟩:=aI (J.length);have l9:=aj e.h9;have lx:=aj hx;obtain⟨F,l⟩:=aI (J++[.dQ ae,.lp fq tm [P.nat 138] lD lE .ready ab N]:an);have lR:F.length=N+2:=by rw[l,aft,W];rfl
 have kR:∀i:Nat,i<J.length->F[i]?=J[i]?:=λi hi=>by rw[l,AI hi]
 have rd:F[N]?=aa (.dQ ae):=by rw[l,W];simp
 have rl:F[N+1]?=aa (.lp fq tm [P.nat 138] lD lE .ready ab N):=by rw[l,W,agj ap];simp
 obtain⟨H2,he,ys,⟨s,c,Z,u,L,M,I,e4⟩,w⟩:=Bj (bb:=N+1) (H:=F) b hb x x0 x1 x2
  (λys J'=>∃s,FQ a b O s J'/\mE O (λv z=>S v z\/(v=x/\z∈ys)) s/\eI bs J'/\J'[N]?=aa (.dQ ae)/\J'[N+1]?=aa (.lp fq tm [P.nat 138] lD lE .ready ab N)/\J'[d]?=aa (.box [.f (fi x.day),.f (fi x.fr),.f (fi x.to)] 0)/\F.length<=J'.length)
  ⟨s0,e.bH λi hi=>kR i ap,p.iff λv z _=>⟨λh=>h.elim id λh=>by simp at h,.inl⟩,⟨Y.nd,λi hi=>by rw[kR i (j i hi).2];exact Y.on i hi⟩,rd,rl,by rw[kR d lx];exact hx,agn _⟩
  (λys J1 J2 ⟨s,c,Z,u,L,M,I,e4⟩ m hl=>⟨s,c.bH λi hi=>m i ap,Z,⟨u.nd,λi hi=>by rw[m i (by have:=(j i hi).2;omega)];exact u.on i hi⟩,by rw[m N ap];exact L,by rw[m (N+1) ap];exact M,by rw[m d ap];exact I,ap⟩)
  (λys y J1 ⟨s,c,Z,u,L,M,I,e4⟩ hl _=>by
   obtain⟨r,J2,n,rfl,t,o,E,q⟩:=zC hT f c I X (show d<N+1 by omega) M y;refine⟨J2,n,⟨gF O s x y,t,(Z.one x y).iff λv z _=>?_,⟨u.nd,λi hi=>?_⟩,?_,o,?_,ap⟩,E,λi h1 h2=>q i ap h2 ap⟩
   .rw[agl,If];constructor
    .rintro(h|⟨h,A|A⟩)
     .exact .inl (.inl h)
     .exact .inl (.inr ⟨h,A⟩)
     .exact .inr ⟨h,A⟩
    .rintro((h|⟨h,A⟩)|⟨h,A⟩)
     .exact .inl h
     .exact .inr ⟨h,.inl A⟩
     .exact .inr ⟨h,.inr A⟩
   .have:=j i hi;rw[q i ap ap ap];exact u.on i hi
   .rw[q N ap ap ap];exact L
   .rw[q d ap ap ap];exact I)
 rw[l,W]at he;refine dK (g:=mI) (by rw[oi,U];simp[cr]) he ?_;rw[<-W];refine ew M ce (av ?_);have B:(gX.dY N::bs.map .dY)=(N::bs).map .dY:=rfl;rw[B];refine hk _ (N::bs) ⟨⟨s,c.bH λi hi=>by rw[sh ap],Z.iff λv z _=>by rw[w]⟩,⟨air.2 ⟨λhi=>by have:=(j N hi).2;omega,u.nd⟩,λi hi=>?_⟩,λi hi=>?_⟩ (by rw[sh ap];exact I) (by rw[agx];omega)
 .rcases agA.1 hi with rfl|hi
  .rw[sh ap];exact L
  .have:=j i hi;rw[sh ap];exact u.on i hi
 .rw[agx];rcases agA.1 hi with rfl|hi
  .omega
  .have:=j i hi;omega
theorem Zy{a b:aH}(ha:kU a)(hb:kU b){O:Int}{x:aC}(x0:-1000000000000<=x.fr)(x1:x.to<=1000000000000)(x2:x.fr<x.to){S:aC->aC->Prop}{bs:List Nat}{J:an}(h:FW a b O S bs J){tm:T}(hT:FT tm){d:Nat}(f:tm.g 25=.c (.ptr d 0 0))(U:tm.g 165=.c (.f (.fn mI [.fp a.row 0,.fp x.row 0])))(hx:J[d]?=aa (.box [.f (fi x.day),.f (fi x.fr),.f (fi x.to)] 0))(X:10<=d){k:List dU}{Q:Option aE->St->Prop}
  (hk:∀(J':an) (K:List Nat),FW a b O (λv z=>S v z\/(z=x/\mF a x v)) K J'->J'[d]?=aa (.box [.f (fi x.day),.f (fi x.fr),.f (fi x.to)] 0)->J.length<=J'.length->WP tab fq ab k ⟨tm,K.map .dY,J'⟩ Q) :
  WP tab fq ab (.code HW::.inBlock 10::k) ⟨tm,bs.map .dY,J⟩ Q:=by
 obtain⟨⟨s0,e,p⟩,Y,j⟩:=h;obtain⟨N,W⟩:=aI (J.length);have l9:=aj e.h9;have lx:=aj hx;obtain⟨F,l⟩:=aI (J++[.dQ ae,.lp fq tm [P.nat 166] lF lG .ready ab N]:an);have lR:F.length=N+2:=by rw[l,aft,W];rfl
 have kR:∀i:Nat,i<J.length->F[i]?=J[i]?:=λi hi=>by rw[l,AI hi]
 have rd:F[N]?=aa (.dQ ae):=by rw[l,W];simp
 have rl:F[N+1]?=aa (.lp fq tm [P.nat 166] lF lG .ready ab N):=by rw[l,W,agj ap];simp
 obtain⟨H2,he,ys,⟨s,c,Z,u,L,M,I,e4⟩,w⟩:=Bj (bb:=N+1) (H:=F) a ha x x0 x1 x2
  (λys J'=>∃s,FQ a b O s J'/\mE O (λv z=>S v z\/(z=x/\v∈ys)) s/\eI bs J'/\J'[N]?=aa (.dQ ae)/\J'[N+1]?=aa (.lp fq tm [P.nat 166] lF lG .ready ab N)/\J'[d]?=aa (.box [.f (fi x.day),.f (fi x.fr),.f (fi x.to)] 0)/\F.length<=J'.length)
  ⟨s0,e.bH λi hi=>kR i ap,p.iff λv z _=>⟨λh=>h.elim id λh=>by simp at h,.inl⟩,⟨Y.nd,λi hi=>by rw[kR i (j i hi).2];exact Y.on i hi⟩,rd,rl,by rw[kR d lx];exact hx,agn _⟩
  (λys J1 J2 ⟨s,c,Z,u,L,M,I,e4⟩ m hl=>⟨s,c.bH λi hi=>m i ap,Z,⟨u.nd,λi hi=>by rw[m i (by have:=(j i hi).2;omega)];exact u.on i hi⟩,by rw[m N ap];exact L,by rw[m (N+1) ap];exact M,by rw[m d ap];exact I,ap⟩)
  (λys y J1 ⟨s,c,Z,u,L,M,I,e4⟩ hl _=>by
   obtain⟨r,J2,n,rfl,t,o,E,q⟩:=zD hT f c I X (show d<N+1 by omega) M y;refine⟨J2,n,⟨gF O s y x,t,(Z.one y x).iff λv z _=>?_,⟨u.nd,λi hi=>?_⟩,?_,o,?_,ap⟩,E,λi h1 h2=>q i ap h2 ap⟩
   .rw[agl,If];constructor
    .rintro(h|⟨h,A|A⟩)
     .exact .inl (.inl h)
     .exact .inl (.inr ⟨h,A⟩)
     .exact .inr ⟨A,h⟩
    .rintro((h|⟨h,A⟩)|⟨h,A⟩)
     .exact .inl h
     .exact .inr ⟨h,.inl A⟩
     .exact .inr ⟨A,.inr h⟩
   .have:=j i hi;rw[q i ap ap ap];exact u.on i hi
   .rw[q N ap ap ap];exact L
   .rw[q d ap ap ap];exact I)
 rw[l,W]at he;refine dK (g:=mI) (by rw[oi,U];simp[cr]) he ?_;rw[<-W];refine ew M ce (av ?_);have B:(gX.dY N::bs.map .dY)=(N::bs).map .dY:=rfl;rw[B];refine hk _ (N::bs) ⟨⟨s,c.bH λi hi=>by rw[sh ap],Z.iff λv z _=>by rw[w]⟩,⟨air.2 ⟨λhi=>by have:=(j N hi).2;omega,u.nd⟩,λi hi=>?_⟩,λi hi=>?_⟩ (by rw[sh ap];exact I) (by rw[agx];omega)
 .rcases agA.1 hi with rfl|hi
  .rw[sh ap];exact L
  .have:=j i hi;rw[sh ap];exact u.on i hi
 .rw[agx];rcases agA.1 hi with rfl|hi
  .omega
  .have:=j i hi;omega
def PM(a b:aH)(p:Pr)(x y:aC):Prop:=∃e,0<=e/\eO p.xs e/\eO p.ys e/\x=iF a p e/\y=iG b p e
def qU(s:aH)(x:aC):Prop:=∃c∈s.cs,∃d,0<=d/\eO c.ts d/\x=bV s.len c.min d
theorem Uw{a b:aH}(k:kU a)(n:kU b){g:Int}(f0:-2251799813685248<=g)(f1:g<=100000000000000){p:Pr}(J:rC a b p){e:Int}{f:Bool}(H:iH (λe=>Uo a b g p<=e/\eO p.xs e/\eO p.ys e) e f)(E:f=ae->e<=1000001000000){S:aC->aC->Prop}{s:FS}(o:mE g S s) :
  mE g (λx y=>S x y\/PM a b p x y) (Ht a b g p e f s):=by
 obtain⟨d9,d_⟩:=k.ok.len;obtain⟨e_,f_⟩:=n.ok.len;have t:=k.ok.min J.ca;have a_:=n.ok.min J.db;have Q:=J.lo;have O:=J.hi;unfold AS at Q;unfold zt at O;have kb:-20<=p.k/\p.k<=20:=by omega
 have key:∀m q,PM a b p m q->okB g m q->∃d,Uo a b g p<=d/\0<=d/\eO p.xs d/\eO p.ys d/\m=iF a p d/\q=iG b p d:=by
  rintro m q ⟨d,A,K,L,rfl,rfl⟩ ⟨-,-,M⟩;refine⟨d,?_,A,K,L,rfl,rfl⟩;simp only[oV,iF,iG,bV]at M;unfold Uo Qy;omega
 unfold Ht;rcases H with⟨rfl,-,U⟩|⟨rfl,⟨A,K,L⟩,l⟩
 .simp only[Bool.false_eq_true,if_false];refine o.none λm q N I=>?_;obtain⟨d,W,-,Z,c,-⟩:=key m q N I;exact U d ⟨W,Z,c⟩
 .simp only[if_true];have c_:0<=Uo a b g p:=by unfold Uo;omega
  have E:=E rfl;refine o.step ⟨e,ap,K,L,rfl,rfl⟩ λm q N I=>?_;obtain⟨d,W,k0,Z,c,rfl,rfl⟩:=key m q N I;have c9:=l d ⟨W,Z,c⟩;obtain⟨-,-,M⟩:=I;obtain⟨v,j⟩:=aI (max 0 (-p.k));have r:0<=v/\v<=20:=by omega
  obtain⟨z,w⟩:=aI ((d-e)*1440);have B:0<=z/\(d≠e->0<z):=⟨ap,λh=>by omega⟩
  have i:(iF a p e).fr=(e+v)*1440+p.c.min/\(iF a p e).to=(e+v)*1440+p.c.min+a.len:=by unfold iF bV;rw[<-j];exact⟨rfl,rfl⟩
  have ya:(iG b p e).fr=(e+v+p.k)*1440+p.d.min/\(iG b p e).to=(e+v+p.k)*1440+p.d.min+b.len:=by unfold iG bV;rw[<-j];exact⟨rfl,rfl⟩
  have xb:(iF a p d).fr=(iF a p e).fr+z/\(iF a p d).to=(iF a p e).to+z:=by unfold iF bV;simp only;rw[<-j];omega
  have yb:(iG b p d).fr=(iG b p e).fr+z/\(iG b p d).to=(iG b p e).to+z:=by unfold iG bV;simp only;rw[<-j];omega
  have b_:g<(iF a p e).to/\g<(iG b p e).to:=by
   rw[i.2,ya.2];unfold Uo Qy at A;rw[<-j]at A;omega
  have F:(iF a p e).to<=2251799813685248/\(iG b p e).to<=2251799813685248:=by rw[i.2,ya.2];omega
  have u:d=e->iF a p d=iF a p e/\iG b p d=iG b p e:=λh=>by subst h;exact⟨rfl,rfl⟩
  generalize iF a p e=X at *;generalize iG b p e=Y at *;generalize iF a p d=X' at *;generalize iG b p d=Y' at *;clear i ya A l;unfold oV at M;refine⟨⟨F.1,F.2,?_⟩,?_⟩
  .unfold oV;omega
  .by_cases H:d=e
   .obtain⟨rfl,rfl⟩:=u H;unfold Cx aC.lt;omega
   .have:=B.2 H;unfold Cx aC.lt oV;omega
theorem Zt{a b:aH}(L:kU a)(M:kU b){A:Int}{ps:List Pr}(m:∀p∈ps,rC a b p)(l:∀c∈a.cs,∀d∈b.cs,∀k,AS a.len b.len c d<=k->k<=zt a.len b.len c d->∃p∈ps,p.c=c/\p.d=d/\p.k=k)(x y:aC)(H:okB A x y):(qU a x/\qU b y)↔∃p∈ps,PM a b p x y:=by
 constructor
 .rintro⟨⟨c,E,g,N,J,rfl⟩,⟨d,F,s,O,K,rfl⟩⟩;obtain⟨-,-,B⟩:=H;simp only[oV,bV]at B;obtain⟨p,q,rfl,rfl,I⟩:=l c E d F (s-g) (by unfold AS;omega) (by unfold zt;omega);have j:=m p q;refine⟨p,q,g-max 0 (-p.k),ap,(j.xm _ ap).2 (by rw[show g-max 0 (-p.k)+max 0 (-p.k)=g by omega];exact J),(j.ym _ ap).2 (by rw[show g-max 0 (-p.k)+max 0 p.k=s by omega];exact K),?_,?_⟩
  .unfold iF;rw[show g-max 0 (-p.k)+max 0 (-p.k)=g by omega]
  .unfold iG;rw[show g-max 0 (-p.k)+max 0 (-p.k)+p.k=s by omega]
 .rintro⟨p,q,e,u,v,z,rfl,rfl⟩;have j:=m p q;refine⟨⟨p.c,j.ca,e+max 0 (-p.k),ap,(j.xm e u).1 v,rfl⟩,⟨p.d,j.db,e+max 0 (-p.k)+p.k,ap,?_,rfl⟩⟩;have:=(j.ym e u).1 z;rw[show e+max 0 (-p.k)+p.k=e+max 0 p.k by omega];exact this
theorem AK(s:aH)(x:aC):dL s x↔qU s x\/x∈s.xs:=by
 unfold dL PJ qU rB F3;constructor
 .rintro(⟨c,j,d,⟨t,l,b,g⟩,rfl⟩|h)
  .exact .inl ⟨c,j,d,b,⟨t,l,(iT b).1 g⟩,rfl⟩
  .exact .inr h
 .rintro(⟨c,j,d,b,⟨t,l,g⟩,rfl⟩|h)
  .exact .inl ⟨c,j,d,⟨t,l,b,(iT b).2 g⟩,rfl⟩
  .exact .inr h
theorem R3{b:Int}{s:aH}{x y:aC}(h:okB b x y):mF s x y↔qU s y:=by
 obtain⟨-,-,d⟩:=h;unfold oV at d;exact⟨λh=>h.1,λh=>⟨h,ap,ap⟩⟩
theorem ME{b:Int}{s:aH}{x y:aC}(h:okB b x y):mF s y x↔qU s x:=by
 obtain⟨-,-,d⟩:=h;unfold oV at d;exact⟨λh=>h.1,λh=>⟨h,ap,ap⟩⟩
theorem xL{t:T}{n:Nat}{v:V}(A:n ∉ [3,4,5,6,7,9,10,12,13]):FT (t.s n v)↔FT t:=by
 simp only[agA,ahG,or_false,not_or]at A;obtain⟨q,s,u,x,y,z,j,l,m⟩:=A;constructor
 .rintro⟨a,b,c,d,e,f,g,h,i⟩;refine⟨?_,?_,?_,?_,?_,?_,?_,?_,?_⟩
  .simpa[q]using a
  .simpa[s]using b
  .simpa[u]using c
  .simpa[x]using d
  .simpa[y]using e
  .simpa[z]using f
  .simpa[j]using g
  .simpa[l]using h
  .simpa[m]using i
 .rintro⟨a,b,c,d,e,f,g,h,i⟩;refine⟨?_,?_,?_,?_,?_,?_,?_,?_,?_⟩
  .simpa[q]using a
  .simpa[s]using b
  .simpa[u]using c
  .simpa[x]using d
  .simpa[y]using e
  .simpa[z]using f
  .simpa[j]using g
  .simpa[l]using h
  .simpa[m]using i
theorem Lv(a b:aH)(ha:kU a)(hb:kU b)(A:Int)(f0:-2251799813685248<=A)(f1:A<=100000000000000) :
  ∃s:FS,mE A (λx y=>dL a x/\dL b y) s/\bg tab fq [.a (a.row.map .f),.a (b.row.map .f),vi A]=Eq (.t [.a (s.X.row.map .f),.a (s.Y.row.map .f),vb s.found]):=by
 obtain⟨r,⟨s,v,rfl⟩,h⟩:∃r,(∃s:FS,mE A (λx y=>dL a x/\dL b y) s/\r=.t [.a (s.X.row.map .f),.a (s.Y.row.map .f),vb s.found])/\bg tab fq [.a (a.row.map .f),.a (b.row.map .f),vi A] r:=by
  refine qJ aeA rfl λQ hQ=>?_;have r6:=(nV a ha.ok.sm).eq;rw[ha.ok.v]at r6;simp[aH.row]at r6;have r7:=(nV b hb.ok.sm).eq;rw[hb.ok.v]at r7;simp[aH.row]at r7;have hmx:max A (-2251799813685248)=A:=by omega
  have hxa:=ha.ok.xn;have c9:=hb.ok.xn;apply ai;simp[aH.row];apply au;apply ai;simp[r6,r7,show¬ 2251799813685248<A by omega];refine bE bv ?_;apply ai;simp[hmx];apply ai;simp;apply ai;simp;apply ai;simp;obtain⟨J0,i_⟩:=aI ([.box (kM a) 0,.box (kM b) 0,.box [.f (fi A)] 0,.box [.f (fi 0),.f (fi 0),.f (fi 0)] 0,.box [.f (fi 0),.f (fi 0),.f (fi 0)] 0,.box [.f (fi 0),.f (fi 0),.f (fi 0)] 0,.box [.f (fi 0),.f (fi 0),.f (fi 0)] 0,.box [.f (fi 0)] 0,.box [.f (.bool ag)] 0,.box [qe] 0]:an);have r5:FQ a b A ⟨0,ag,⟨0,0,0⟩,⟨0,0,0⟩⟩ J0:=by rw[i_];exact⟨rfl,rfl,rfl,rfl,rfl,⟨rfl,rfl,rfl,rfl,rfl⟩⟩
  have l0:J0.length=10:=by rw[i_];rfl
  unfold kM qe at i_;rw[<-i_];have la:∀(J:an) (s:FS),FQ a b A s J->aV J (aa 3) (.c (.ptr 0 0 0))=aa (.a [.f (sl a.cg (aU a.cs)),.f (fi a.len),.f (sl a.xg (aF a.xs))])/\aV J ab (.c (.ptr 0 2 0))=aa (.c (.f (sl a.xg (aF a.xs)))):=λJ s h=>by refine⟨?_,?_⟩<;>simp[aV,aA,h.h0,kM,aW]
  have lb:∀(J:an) (s:FS),FQ a b A s J->aV J (aa 3) (.c (.ptr 1 0 0))=aa (.a [.f (sl b.cg (aU b.cs)),.f (fi b.len),.f (sl b.xg (aF b.xs))])/\aV J ab (.c (.ptr 1 2 0))=aa (.c (.f (sl b.xg (aF b.xs)))):=λJ s h=>by refine⟨?_,?_⟩<;>simp[aV,aA,h.h1,kM,aW]
  have qZ:∀H:an,bh H (.f (sl a.xg (aF a.xs)))=aa a.xs.length:=λH=>by simp
  have n_:∀H:an,bh H (.f (sl b.xg (aF b.xs)))=aa b.xs.length:=λH=>by simp
  have y_:∀(t:T) (J:an) (bs:List Nat),FT t->FW a b A (λx y=>dL a x/\dL b y) bs J->WP tab fq ab [.code HX] ⟨t,bs.map .dY,J⟩ Q:=by
   rintro t J bs d ⟨⟨s,l,v⟩,g_,b_⟩;have l9:=aj l.h9;have lx:∀J':an,J'[5]?=J[5]?->aV J' (aa 3) (.c (.ptr 5 0 0))=aa (.a [.f (fi s.X.day),.f (fi s.X.fr),.f (fi s.X.to)]):=λJ' h=>by simp[aV,aA,h,l.tk.h5,aW]
   have ly:∀J':an,J'[6]?=J[6]?->aV J' (aa 3) (.c (.ptr 6 0 0))=aa (.a [.f (fi s.Y.day),.f (fi s.Y.fr),.f (fi s.Y.to)]):=λJ' h=>by simp[aV,aA,h,l.tk.h6,aW]
   have lf:∀J':an,J'[8]?=J[8]?->aV J' ab (.c (.ptr 8 0 0))=aa (vb s.found):=λJ' h=>by simp[aV,aA,h,l.tk.h8]
   obtain⟨B,u⟩:=aI (J.set 3 (.box [.f (fi s.X.day),.f (fi s.X.fr),.f (fi s.X.to)] 0));have s1:cY J (.ptr 3 0 0) [.f (fi s.X.day),.f (fi s.X.fr),.f (fi s.X.to)]=aa B:=by rw[u];simp[cY,l.h3,over]
   have k1:∀i:Nat,i≠3->B[i]?=J[i]?:=λi hi=>by rw[u,sh (Ne.symm hi)]
   have n1:B.length=J.length:=by rw[u];simp
   obtain⟨X,j5⟩:=aI (B.set 4 (.box [.f (fi s.Y.day),.f (fi s.Y.fr),.f (fi s.Y.to)] 0));have s2:cY B (.ptr 4 0 0) [.f (fi s.Y.day),.f (fi s.Y.fr),.f (fi s.Y.to)]=aa X:=by rw[j5];simp[cY,k1 4 ap,l.h4,over]
   have k2:∀i:Nat,i≠4->X[i]?=B[i]?:=λi hi=>by rw[j5,sh (Ne.symm hi)]
   have n2:X.length=J.length:=by rw[j5];simp[n1]
   refine au (eF (.inl rfl) ?_ ?_)
   case refine_2=>
    intro cc hcm;have z_:cc=(1,4)\/cc=(2,4)\/cc=(2,6):=by simpa using hcm
    rcases z_ with rfl|rfl|rfl
    .refine⟨ce,_,rfl,.inl ⟨ce,?_⟩⟩;simp[d.g6,d.g7,d.g9,d.g10,d.g12,lx J rfl,ly J rfl,lf J rfl,ly B (k1 6 ap),s1,-ax,-bw,gj,V.beq,C.beq,FC.beq]
    .refine⟨ce,_,rfl,.inl ⟨ce,?_⟩⟩;simp[d.g6,d.g7,d.g9,d.g10,d.g12,lx J rfl,ly J rfl,lf J rfl,lf B (k1 8 ap),s1,-ax,-bw,gj,V.beq,C.beq,FC.beq]
    .refine⟨ce,_,rfl,.inl ⟨ce,?_⟩⟩;simp[d.g6,d.g7,d.g9,d.g10,d.g12,lx J rfl,ly J rfl,lf J rfl,lf X ((k2 8 ap).trans (k1 8 ap)),s1,s2,-ax,-bw,gj,V.beq,C.beq,FC.beq]
   simp[d.g6,d.g7,d.g9,d.g10,d.g12,lx J rfl,ly J rfl,lf J rfl,s1,s2,-ax,-bw];have no3:(3:Nat) ∉ bs:=λh=>by have:=(b_ 3 h).1;omega
   have no4:(4:Nat) ∉ bs:=λh=>by have:=(b_ 4 h).1;omega
   have e3:(ns bs X)[3]?=aa (.box [.f (fi s.X.day),.f (fi s.X.fr),.f (fi s.X.to)] 0):=by rw[iQ no3,k2 3 ap,u];exact BY ap
   have e4:(ns bs X)[4]?=aa (.box [.f (fi s.Y.day),.f (fi s.Y.fr),.f (fi s.Y.to)] 0):=by rw[iQ no4,j5];exact BY ap
   refine az (hQ _ _ _ ⟨s,v,rfl⟩ ⟨bs,rfl,⟨g_.nd,λz hz=>?_⟩,.t [.a (s.X.row.map .f),.a (s.Y.row.map .f),vb s.found],?_,by simp[jh,dq,bu,deep,fh,aC.row]⟩)
   .have:=(b_ z hz).1;show X[z]?=_;rw[k2 z ap,k1 z ap];exact g_.on z hz
   .simp[Km.results,cC,bu,d.g6,d.g7,aV,aA,e3,e4,aW,aC.row]
  have s_:∀(t:T) (J:an) (bs:List Nat),FT t->FW a b A (λx y=>(qU a x/\qU b y)\/(x∈a.xs/\(mF b x y\/y∈b.xs))) bs J->WP tab fq ab [.code HV] ⟨t,bs.map .dY,J⟩ Q:=by
   intro t J bs d K;apply au;have p9:=K;obtain⟨⟨s,l,-⟩,-⟩:=p9;apply ai;simp[d.g4,(lb J s l).2,n_,-ax];refine wI b.xs.length (λi t ds J=>FT t/\t.g 157=.c (.f (sl b.xg (aF b.xs)))/\∃bs,ds=bs.map .dY/\FW a b A (λx y=>((qU a x/\qU b y)\/(x∈a.xs/\(mF b x y\/y∈b.xs)))\/(y∈b.xs.take i/\mF a y x)) bs J) ap ce ce bv bv
    ⟨by simp[xL,d],bv,bs,rfl,by
     obtain⟨⟨s,l,v⟩,S⟩:=K;exact⟨⟨s,l,v.iff λx y _=>by simp⟩,S⟩⟩ ?_ ?_
   .clear d K l s;rintro i t ds J hi ⟨d,N,bs,rfl,K⟩ S p_ next
    have i7:=λH:an=>bz (H:=H) (g:=b.xg) (rows:=aF b.xs) (sz:=3) (k:=.i64) (i:=(i:Int)) ap ge;have W:=λH:an=>cf (H:=H) (bM b.xs) (dB hi);simp only[agD]at i7;have c9:=hb.ex _ (IN hi);have i6:b.xs.take (i+1)=b.xs.take i++[b.xs[i]]:=by rw[agv,By hi];rfl
    obtain⟨x,hx⟩:=aI (b.xs[i]);rw[<-hx]at W c9 i6;simp only[aC.row,agm,agp]at W;obtain⟨i8,n8⟩:=aI (J.length);obtain⟨B,u⟩:=aI (J++[bO.box [.f (fi x.day),.f (fi x.fr),.f (fi x.to)] 0]);have O:=K.push [bO.box [.f (fi x.day),.f (fi x.fr),.f (fi x.to)] 0];rw[<-u]at O;have o_:B[i8]?=aa (.box [.f (fi x.day),.f (fi x.fr),.f (fi x.to)] 0):=by rw[u,n8];simp
    have l25:10<=i8:=by
     obtain⟨⟨s,l,-⟩,-⟩:=K;have:=aj l.h9;omega
    refine ay ?_;apply ai;simp[S,N,i7,W,-ax];rw[<-u,<-n8];have h_:=rI a x;simp only[aH.row,aC.row,agm,agp]at h_;have e_:=O;obtain⟨⟨s1,j_,-⟩,-⟩:=e_;have v25:aV B (aa 3) (.c (.ptr i8 0 0))=aa (.a [.f (fi x.day),.f (fi x.fr),.f (fi x.to)]):=by simp[aV,aA,o_,aW]
    apply au;refine aq (.inl rfl) ?_;simp[d.g3,(la B s1 j_).1,v25,-ax,h_];refine ay ?_
    suffices go:∀tm:T,FT tm->tm.g 25=.c (.ptr i8 0 0)->tm.g 165=.c (.f (.fn mI [.fp a.row 0,.fp x.row 0]))->tm.g 157=.c (.f (sl b.xg (aF b.xs)))->tm.g 158=vi b.xs.length->tm.g 159=vi i->WP tab fq ab [.code HW,.inBlock 10,.inBlock 9,.code (nK 159 171),.inLoop (fX 8 159 158 160 171 S0),.inBlock 8,.code HX] ⟨tm,bs.map .dY,B⟩ Q by
     exact go _ (by simp[xL,d]) bv (by simp[aH.row,aC.row]) (by simp[N]) (by simp[p_]) (by simp[S])
    intro tm a_ z7 u9 N t8 t_;refine Zy ha hb ap ap c9.2.2 O a_ z7 u9 o_ l25 λX i9 f_ o_ hl2=>?_;refine av (next _ _ _ ⟨by simp[xL,a_],by simp[N],i9,rfl,?_⟩ (by simp[t_]) (by simp[t8]));obtain⟨⟨s,l,v⟩,S⟩:=f_;refine⟨⟨s,l,v.iff λx' y' _=>?_⟩,S⟩;rw[i6,agl,If];constructor
    .rintro(h|⟨h|rfl,E⟩)
     .exact .inl (.inl h)
     .exact .inl (.inr ⟨h,E⟩)
     .exact .inr ⟨rfl,E⟩
    .rintro((h|⟨h,E⟩)|⟨rfl,E⟩)
     .exact .inl h
     .exact .inr ⟨.inl h,E⟩
     .exact .inr ⟨.inr rfl,E⟩
   .rintro t ds J ⟨d,N,bs,rfl,K⟩ - -;rw[agu]at K;obtain⟨⟨s,l,v⟩,S⟩:=K;refine y_ _ J bs (by simp[xL,d]) ⟨⟨s,l,v.iff λx y hk=>?_⟩,S⟩;rw[AK,AK,R3 hk,ME hk];constructor
    .rintro⟨Z|Z,U|U⟩
     .exact .inl (.inl ⟨Z,U⟩)
     .exact .inr ⟨U,Z⟩
     .exact .inl (.inr ⟨Z,.inl U⟩)
     .exact .inl (.inr ⟨Z,.inr U⟩)
    .rintro((⟨Z,U⟩|⟨Z,U|U⟩)|⟨Z,U⟩)
     .exact⟨.inl Z,.inl U⟩
     .exact⟨.inr Z,.inl U⟩
     .exact⟨.inr Z,.inr U⟩
     .exact⟨.inl U,.inr Z⟩
  have s7:∀(t:T) (J:an) (bs:List Nat),FT t->FW a b A (λx y=>qU a x/\qU b y) bs J->WP tab fq ab [.code HT] ⟨t,bs.map .dY,J⟩ Q:=by
   intro t J bs d K;apply au;have p9:=K;obtain⟨⟨s,l,-⟩,-⟩:=p9;apply ai;simp[d.g3,(la J s l).2,qZ,-ax];refine wI a.xs.length (λi t ds J=>FT t/\t.g 129=.c (.f (sl a.xg (aF a.xs)))/\∃bs,ds=bs.map .dY/\FW a b A (λx y=>(qU a x/\qU b y)\/(x∈a.xs.take i/\(mF b x y\/y∈b.xs))) bs J) ap ce ce bv bv
    ⟨by simp[xL,d],bv,bs,rfl,by
     obtain⟨⟨s,l,v⟩,S⟩:=K;exact⟨⟨s,l,v.iff λx y _=>by simp⟩,S⟩⟩ ?_ ?_
   .clear d K l s;rintro i t ds J hi ⟨d,m,bs,rfl,K⟩ S p_ next
    have i7:=λH:an=>bz (H:=H) (g:=a.xg) (rows:=aF a.xs) (sz:=3) (k:=.i64) (i:=(i:Int)) ap ge;have W:=λH:an=>cf (H:=H) (bM a.xs) (dB hi);simp only[agD]at i7;have c9:=ha.ex _ (IN hi);have i6:a.xs.take (i+1)=a.xs.take i++[a.xs[i]]:=by rw[agv,By hi];rfl
    obtain⟨x,hx⟩:=aI (a.xs[i]);rw[<-hx]at W c9 i6;simp only[aC.row,agm,agp]at W;obtain⟨F,m9⟩:=aI (J.length);obtain⟨B,u⟩:=aI (J++[bO.box [.f (fi x.day),.f (fi x.fr),.f (fi x.to)] 0]);have O:=K.push [bO.box [.f (fi x.day),.f (fi x.fr),.f (fi x.to)] 0];rw[<-u]at O;have I:B[F]?=aa (.box [.f (fi x.day),.f (fi x.fr),.f (fi x.to)] 0):=by rw[u,m9];simp
    have l20:10<=F:=by
     obtain⟨⟨s,l,-⟩,-⟩:=K;have:=aj l.h9;omega
    refine ay ?_;apply ai;simp[S,m,i7,W,-ax];rw[<-u,<-m9];have h_:=rI b x;simp only[aH.row,aC.row,agm,agp]at h_;have e_:=O;obtain⟨⟨s1,j_,-⟩,-⟩:=e_;have l_:aV B (aa 3) (.c (.ptr F 0 0))=aa (.a [.f (fi x.day),.f (fi x.fr),.f (fi x.to)]):=by simp[aV,aA,I,aW]
    apply au;apply au;refine aq (.inl rfl) ?_;simp[d.g4,(lb B s1 j_).1,l_,-ax,h_];refine ay ?_
    suffices go:∀tm:T,FT tm->tm.g 20=.c (.ptr F 0 0)->tm.g 137=.c (.f (.fn mI [.fp b.row 0,.fp x.row 0]))->tm.g 129=.c (.f (sl a.xg (aF a.xs)))->tm.g 130=vi a.xs.length->tm.g 131=vi i->WP tab fq ab [.code HU,.inBlock 4,.code SZ,.inBlock 3,.code (nK 131 155),.inLoop (fX 2 131 130 132 155 SY),.inBlock 2,.code HV] ⟨tm,bs.map .dY,B⟩ Q by
     exact go _ (by simp[xL,d]) bv (by simp[aH.row,aC.row]) (by simp[m]) (by simp[p_]) (by simp[S])
    intro tm a_ Y t7 m L M;refine Zx ha hb ap ap c9.2.2 O a_ Y t7 I l20 λX i9 f_ I hl2=>?_;have u_:=f_;obtain⟨⟨s2,k_,-⟩,-⟩:=u_;apply ai;simp[a_.g4,(lb X s2 k_).2,n_,-ax];refine bS b.xs.length (λj t J=>FT t/\t.g 20=.c (.ptr F 0 0)/\t.g 129=.c (.f (sl a.xg (aF a.xs)))/\t.g 130=vi a.xs.length/\t.g 131=vi i/\t.g 144=.c (.f (sl b.xg (aF b.xs)))/\J[F]?=aa (.box [.f (fi x.day),.f (fi x.fr),.f (fi x.to)] 0)/\FW a b A (λx' y'=>((qU a x'/\qU b y')\/(x'∈a.xs.take i/\(mF b x' y'\/y'∈b.xs)))\/(x'=x/\(mF b x y'\/y'∈b.xs.take j))) i9 J) ap ce ce bv bv
     ⟨by simp[xL,a_],by simp[Y],by simp[m],by simp[L],by simp[M],bv,I,by
      obtain⟨⟨s,l,v⟩,S⟩:=f_;exact⟨⟨s,l,v.iff λx' y' _=>by simp⟩,S⟩⟩ ?_ ?_
    .clear I f_ k_ s2 O j_ s1 l_;rintro j t' J3 hj ⟨j7,Y,m,L,M,d9,I,j8⟩ x8 x6 r_;have y7:=λH:an=>bz (H:=H) (g:=b.xg) (rows:=aF b.xs) (sz:=3) (k:=.i64) (i:=(j:Int)) ap ge;have r9:=λH:an=>cf (H:=H) (bM b.xs) (dB hj);simp only[agD]at y7;have n9:b.xs.take (j+1)=b.xs.take j++[b.xs[j]]:=by rw[agv,By hj];rfl
     obtain⟨y,hy⟩:=aI (b.xs[j]);rw[<-hy]at r9 n9;simp only[aC.row,agm,agp]at r9;obtain⟨t6,m_⟩:=aI (J3.length);obtain⟨J4,j6⟩:=aI (J3++[bO.box [.f (fi y.day),.f (fi y.fr),.f (fi y.to)] 0]);have v_:=j8.push [bO.box [.f (fi y.day),.f (fi y.fr),.f (fi y.to)] 0];rw[<-j6]at v_;have y8:J4[t6]?=aa (.box [.f (fi y.day),.f (fi y.fr),.f (fi y.to)] 0):=by rw[j6,m_];simp
     have c_:J4[F]?=aa (.box [.f (fi x.day),.f (fi x.fr),.f (fi x.to)] 0):=by rw[j6,AI (aj I)];exact I
     obtain⟨⟨s,l,v⟩,g_,b_⟩:=v_;have l_:aV J4 (aa 3) (.c (.ptr F 0 0))=aa (.a [.f (fi x.day),.f (fi x.fr),.f (fi x.to)]):=by simp[aV,aA,c_,aW]
     have v23:aV J4 (aa 3) (.c (.ptr t6 0 0))=aa (.a [.f (fi y.day),.f (fi y.fr),.f (fi y.to)]):=by simp[aV,aA,y8,aW]
     have f9:aV J4 ab (.c (.ptr 9 0 0))=aa (.c qe):=by simp[aV,aA,l.h9]
     obtain⟨J5,j9,hq5,hl5,x9⟩:=tJ l x y;simp only[aC.row,agm,agp]at j9;refine ay ?_;apply ai;simp[x8,d9,y7,r9,-ax];rw[<-j6,<-m_];refine aq (.inl rfl) ?_;simp[j7.g13,Y,f9,l_,v23,-ax,qe,j9.eq];refine av (r_ _ _ ⟨by simp[xL,j7],by simp[Y],by simp[m],by simp[L],by simp[M],by simp[d9],by rw[x9 F ap (aj c_)];exact c_,⟨⟨_,hq5,(v.one x y).iff λx' y' _=>?_⟩,⟨g_.nd,λz hz=>?_⟩,λz hz=>?_⟩⟩ (by simp[x8]) (by simp[x6]))
     .rw[n9,agl,If];constructor
      .rintro(h|⟨rfl,h|h|rfl⟩)
       .exact .inl (.inl h)
       .exact .inl (.inr ⟨rfl,.inl h⟩)
       .exact .inl (.inr ⟨rfl,.inr h⟩)
       .exact .inr ⟨rfl,rfl⟩
      .rintro((h|⟨rfl,h|h⟩)|⟨rfl,rfl⟩)
       .exact .inl h
       .exact .inr ⟨rfl,.inl h⟩
       .exact .inr ⟨rfl,.inr (.inl h)⟩
       .exact .inr ⟨rfl,.inr (.inr rfl)⟩
     .have:=b_ z hz;rw[x9 z ap this.2];exact g_.on z hz
     .have:=b_ z hz;exact⟨this.1,ap⟩
    .rintro t' J3 ⟨j7,Y,m,L,M,d9,I,j8⟩ - -;rw[agu]at j8;refine av (next _ _ _ ⟨by simp[xL,j7],by simp[m],i9,rfl,?_⟩ (by simp[M]) (by simp[L]));obtain⟨⟨s,l,v⟩,S⟩:=j8;refine⟨⟨s,l,v.iff λx' y' _=>?_⟩,S⟩;rw[i6,agl,If];constructor
     .rintro(h|⟨h|rfl,E⟩)
      .exact .inl (.inl h)
      .exact .inl (.inr ⟨h,E⟩)
      .exact .inr ⟨rfl,E⟩
     .rintro((h|⟨h,E⟩)|⟨rfl,E⟩)
      .exact .inl h
      .exact .inr ⟨.inl h,E⟩
      .exact .inr ⟨.inr rfl,E⟩
   .rintro t ds J ⟨d,m,bs,rfl,K⟩ - -;rw[agu]at K;exact s_ _ J bs (by simp[xL,d]) K
  suffices start:∀t:T,FT t->WP tab fq ab [.code SV] ⟨t,[],J0⟩ Q by exact start _ ⟨bv,bv,bv,bv,bv,bv,bv,bv,bv⟩
  intro t d;have y6:=Aw a b;simp only[aH.row,agm,agp]at y6;apply au;apply ai;simp[d.g3,d.g4,(la J0 _ r5).1,(lb J0 _ r5).1,-ax,y6];refine ay ?_
  suffices go:∀tm:T,FT tm->tm.g 46=.c (.f (.fn mH [.fp a.row 0,.fp b.row 0]))->WP tab fq ab [.code SX,.inBlock 0,.code HT] ⟨tm,[],J0⟩ Q by exact go _ (by simp[xL,d]) (by simp[aH.row])
  clear d t;intro tm d z8;obtain⟨HR,d_⟩:=aI (J0++[.dQ ae,.lp fq tm [P.nat 47] ke kg .ready ab 10]:an);have lR:HR.length=12:=by rw[d_,aft,l0];rfl
  have kR:∀i:Nat,i<10->HR[i]?=J0[i]?:=λi hi=>by rw[d_,AI ap]
  have rd:HR[10]?=aa (.dQ ae):=by rw[d_,agj ap,l0];rfl
  have rl:HR[11]?=aa (.lp fq tm [P.nat 47] ke kg .ready ab 10):=by rw[d_,agj ap,l0];rfl
  obtain⟨H2,he,ps,⟨s,l,v,e1,e2,e3⟩,hps,w_⟩:=Lx (bb:=11) (H:=HR) a b ha hb
   (λps J'=>∃s,FQ a b A s J'/\mE A (λx y=>∃p∈ps,PM a b p x y) s/\J'[10]?=aa (.dQ ae)/\J'[11]?=aa (.lp fq tm [P.nat 47] ke kg .ready ab 10)/\12<=J'.length)
   ⟨_,r5.bH kR,.inl ⟨rfl,rfl,rfl,λx y ⟨p,hp,_⟩=>by simp at hp⟩,rd,rl,ap⟩
   (λps B X ⟨s,l,v,e1,e2,e3⟩ q_ hl=>⟨s,l.bH λi hi=>q_ i ap,v,by rw[q_ 10 ap];exact e1,by rw[q_ 11 ap];exact e2,ap⟩)
   (λps p B ⟨s,l,v,e1,e2,e3⟩ hl hp=>by
    obtain⟨e,f,x_,heb,r,X,j9,rfl,k_,k1,k2,k3,k4⟩:=Hb a b ha hb f0 f1 d hp l e1 e2;refine⟨X,j9,⟨_,k_,(Uw ha hb f0 f1 hp x_ heb v).iff λx y _=>?_,k1,k2,ap⟩,k3,λi Z U=>k4 i ap U⟩;constructor
    .rintro⟨q,hq',h⟩;rcases agl.1 hq' with E|E
     .exact .inl ⟨q,E,h⟩
     .rw[If]at E;rw[E]at h;exact .inr h
    .rintro(⟨q,E,h⟩|h)
     .exact⟨q,List.mem_append_left _ E,h⟩
     .exact⟨p,bv,h⟩)
  rw[d_]at he;have he':Ev tab (.fn mH) [.c (.yl (J0.length+1)),.c (.f (.fp a.row 0)),.c (.f (.fp b.row 0))] (J0++[.dQ ae,.lp fq tm [P.nat 47] ke kg .ready ab J0.length]) (.t []) H2:=by rw[l0];exact he
  refine dK (g:=mH) (by rw[oi,z8];simp[cr]) he' ?_;rw[l0];refine ew e2 ce (av ?_);refine s7 tm _ [10] d ⟨⟨s,l.bH λi hi=>by rw[sh ap],v.iff λx y hk=>Zt ha hb hps w_ x y hk⟩,⟨bv,λi hi=>?_⟩,λi hi=>?_⟩
  .rw[If]at hi;rw[hi,sh ap];exact e1
  .rw[If]at hi;rw[hi,agx];omega
 exact⟨s,v,h.eq⟩
theorem Tq{s:aH}(h:cZ s):∀c∈s.cs,∃p:aO,jG 12 p/\c.ts=[⟨.fs,[p]⟩]:=by
 intro c b;rcases h.1 with e|⟨f,p,l,u,e,d,g,m,q,-,j,-,-⟩
 .rw[e]at b;simp at b
 .rw[e,If]at b;subst b;exact⟨cG f p l,Cy d g m q j,rfl⟩
theorem wQ{s:aH}(h:cZ s):kU s:=by
 have d:∀c∈s.cs,uc 12 c.ts:=λc m=>by
  obtain⟨p,y,e⟩:=Tq h c m;rw[e];exact⟨bv,λt u=>by
   rw[If]at u;subst u;exact⟨bv,bv,λq v=>by simp only[If]at v;subst v;exact y⟩⟩
 obtain⟨g,A,B,E,F,j⟩:=h;refine⟨⟨mw ⟨g,A,B,E,F,j⟩,?_,λc m=>⟨(d c m).mix,λt u=>?_⟩,ap⟩,d,λx z=>?_⟩
 .rcases g with e|⟨f,p,l,H,e,-⟩<;>rw[e]<;>simp
 .obtain⟨a,b,c⟩:=(d c m).2 t u;exact Az a ap c
 .obtain⟨e,-,-,a,b⟩:=j x z;exact⟨ap,ap,ap⟩
theorem CX{l:List a8}(h:lB l=0){i:Nat}(hi:i<l.length):l[i].q.length<=64/\l[i].p.length<=64:=by
 have b:l.any nG=ag:=by
  cases b:l.any nG
  .rfl
  .simp[lB,b]at h
 have:=List.any_eq_false.1 b l[i] (IN hi);simp[nG]at this;omega
theorem MH(g:Tg)(l:List a8)(a b:Nat)(d:a<l.length)(j:b<l.length)(m:l[a].p.length<=64)(q:l[b].p.length<=64) :
  bg tab BM [.c (.f (sl g (rows l))),vi a,vi b]=Eq (vb (fS a b l[a] l[b])):=(MF g l a b d j m q).eq
theorem eS{n lo hi:Int}(h:lo<=n)(b:n<=hi):bU n lo hi=ae:=by
 simp[bU];omega
def IB:List C:=[.f (fi 0),.f (.fs [fi 7] 1),.f (fi (-1)),.f .aJ,.f (fi 0),.f .aJ,.f (fi 0),.f .aJ]
theorem QN:((CF tab 300 60 (.fn Ft) [] []).bind λp=>jh deep p.2 p.1)=aa (.a IB):=by kernel_rfl
theorem TO:bg tab Ft []=Eq (.a IB):=(aY QN).eq
def rL(a b:Nat):FC:=.fs [.fs [.fs [.aJ,fi 0,fi 1,.fs [fi 0] 1] 1] 1,fi (60*(a:Int)),fi (1440-60*(b:Int))] 1
def oq(c:Nat):FC:=if c<20 then .fs [fi (c:Int)] 1 else .aJ
def okI:Option (V × an)->Bool
 |some (.c (.f (.int .i64 0)),_)=>ae| _=>ag
theorem Rv{f:Nat}{args:List V}{m d:Nat}(h:okI (CF tab m d (.fn f) args [])=ae):bg tab f args (vi 0):=by
 refine vL (m:=m) (d:=d) ?_;unfold okI at h;split at h
 .rename_i b;rw[b];rfl
 .cases h
theorem Rx:((List.range 3).all λa=>(List.range 3).all λb=>(List.range 21).all λc=>okI (CF tab 300 60 (.fn Ih) [.a (IB++[.f (rL a b),.f (oq c)])] []))=ae:=by kernel_rfl
theorem Tc:((CF tab 300 60 (.fn Fs) [] []).bind λp=>jh deep p.2 p.1)=aa (.a [.f (.fs [.fs [.aJ,fi 0,fi 1,.fs [fi 0] 1] 1] 1)]):=by kernel_rfl
theorem Yp:bg tab Fs []=Eq (.a [.f (.fs [.fs [.aJ,fi 0,fi 1,.fs [fi 0] 1] 1] 1)]):=(aY Tc).eq
def te(a b c:Nat)(cap g d:Int)(j:Tg)(q:List (Int × Int)):a8:=⟨cap,g,d,fi 0,.fs [fi 7] 1,fi (-1),.aJ,fi 0,.aJ,fi 0,.aJ,rL a b,oq c,j,q,.nil,[]⟩
def Good(r:a8):Prop:=∃a b c cap g d j q,r=te a b c cap g d j q/\a<3/\b<3/\c<21/\6<=cap/\cap<=11/\0<=g/\g<=20/\0<=d/\d<=20/\
 (q=[]\/∃t m,q=[(t,m),(2,600)]/\0<=t/\t<=1/\0<=m/\m<=900)
theorem qD{r:a8}(h:Good r):nf r:=by
 obtain⟨a,b,c,cap,j,g,u,q,rfl,l,m,s,_⟩:=h;have d:=Rx;simp only[List.all_eq_true,List.mem_range]at d;exact Rv (d a l b m c s)
def iZ(B:List (List Int)):List (List FC):=B.map λr=>r.map λn=>.int .u8 n
def Ii(r:V):Prop:=∃a b c:a8,Good a/\Good b/\Good c/\(r=.c (.f (sl .es (rows [a,b,c])))\/r=.c (.f (sl .es (rows [a,b,{ c with pg:=.fs,p:=[0,1] }]))))
def Vh(g j l:Int)(b d q:C):List C:=[.f (fi g),.f (fi j),.f (fi l),.f (fi 0),.f (.fs [fi 7] 1),.f (fi (-1)),.f .aJ,.f (fi 0),.f .aJ,.f (fi 0),.f .aJ,b,d,q,.f .aJ]
theorem RU(B:List (List Int))(hB:B.length=3)(hr:∀r∈B,r.length=5/\∀n∈r,0<=n/\n<=255) :
  ∃r,Ii r/\bg tab O5 [.a ((iZ B).flatten.map .f)] r:=by
 refine dx rfl rfl λQ hQ=>?_;obtain⟨xs,b_⟩:=aI ((iZ B).flatten);rw[<-b_];apply ai;simp;apply ai;simp;apply au;apply ai;simp;refine jy 3 (λj t H=>t.g 1=.c (.ptr 0 0 0)/\H[0]?=aa (.box (xs.map .f) 0)/\∃l,LB ae H 15 (t.g 3) .es (rows l)/\l.length=j/\∀r∈l,Good r) ce rfl bv
  ⟨bv,bv,[],by simpa[rows]using LB.es0,rfl,bv⟩ ?_ ?_ ?_
 .rintro j t H L hj ⟨I,v,l,O,u,W⟩ K hL;simp[K];exact hL _ ⟨by simp[I],v,l,by simpa using O,u,W⟩ (by simp[K]) bv
 .rintro j t H hj ⟨I,v,l,O,u,W⟩ K next
  have d9:j<B.length:=by omega
  obtain⟨h5,g⟩:=hr B[j] (IN d9);obtain⟨z,n1,n2,F,A,J⟩:∃z n1 n2 F A,B[j]=[z,n1,n2,F,A]:=by
   match hm:B[j],h5 with
   |[a,b,c,d,e],_=>exact⟨a,b,c,d,e,rfl⟩
  rw[J]at g;simp only[agA,ahG,or_false,forall_eq_or_imp,forall_eq]at g;obtain⟨b0,b1,b2,b3,b4⟩:=g;have U:((xs.map C.f).drop (j*5)).take 5=[.f (.int .u8 z),.f (.int .u8 n1),.f (.int .u8 n2),.f (.int .u8 F),.f (.int .u8 A)]:=by
   have hg:cR 5 (iZ B):=λr hm=>by
    obtain⟨r',Z,rfl⟩:=agt.1 hm;rw[agq];exact(hr r' Z).1
   have X:(iZ B)[j]?=aa [.int .u8 z,.int .u8 n1,.int .u8 n2,.int .u8 F,.int .u8 A]:=by simp[iZ,d9,J]
   have:=nH (sz:=5) (k:=0) hg X ap;rw[b_,<-ahZ,show j*5=j*5+0 from rfl,this];rfl
  have Y:5<=xs.length-j*5:=by
   have:=congrArg List.length U;simp only[agO,agF,agq,List.length_cons,ahE]at this;omega
  have N:∀(t:T) (S:an) (cs:List C) (r:a8) (k fl:Nat),Good r->t.g 1=.c (.ptr 0 0 0)->S[0]?=aa (.box (xs.map .f) 0)->LB ae S 15 (t.g 3) .es (rows l)->t.g 4=vi j->
    t.g 6=.c (.ptr k 0 0)->S[k]?=aa (.box cs fl)->cs.length=15->bu (gP 60 S) cs=aa r.row->
    WP tab O5 ab [.code JV,.inBlock 1,.code (AJ 4 11 12),.inLoop (qN 0 4 10 11 12 [⟨D 9,.iV (R 4),ab⟩,⟨D 10,.bin .lss (R 9) (.k (.c (.f (.int .i64 3)))),ab⟩] JU),.inBlock 0,.code JW] ⟨t,[],S⟩ Q:=by
   intro t S cs r k fl hg I v O K g6 hk c_ f_;obtain⟨v',H',e1,e2,-,e4⟩:=LB.app (H:=S++[.box cs 0]) (row:=r.row) (bytes:=248) (y:=.c (.sl S.length 0 1 1 0 15)) (O.push _) (fv _) rfl ce
    (lV (fl:=0) (cs:=cs) bv c_) (fH (λx y _=>xG _) f_) (by simp[cD];omega)
   have h_:cs.take 15=cs:=agw ap;refine aq (.inl rfl) ?_;simp[g6,hk,c_,h_,e1];refine av (next _ _ ?_ (by simp[K]));refine⟨by simp[I],e4 0 _ _ (by rw[AI (aj v)];exact v),l++[r],by simpa[rows]using e2,by simp[u],?_⟩;intro r' g_;rcases agl.1 g_ with h|h
   .exact W r' h
   .simp at h;subst h;exact hg
  refine ay ?_;apply ai;simp[K,I,jw (i:=(j:Int)) (n:=3) ap ap,v,U,Y];apply ai;simp (disch:=omega) [wrap64,agE,dp,jw,ag2,agX];apply ai;simp (disch:=omega) [wrap64,nz,agE,agY,dp,gq,jw,ag2,agX,Yp];apply ai;simp (disch:=omega) [jw,ag2,agX,TO,IB];apply au;apply ai;simp (disch:=omega) [wrap64,nz,agE,agY,dp,gq,jw,ag2,agX];obtain⟨a,ea⟩:∃a:Nat,F % 3=(a:Int):=⟨(F % 3).toNat,ap⟩
  obtain⟨b,eb⟩:∃b:Nat,F / 4 % 3=(b:Int):=⟨(F / 4 % 3).toNat,ap⟩
  obtain⟨c,ec⟩:∃c:Nat,A % 20=(c:Int):=⟨(A % 20).toNat,ap⟩
  simp only[ea,eb];have E:∀c qg q,c<21->(q=[]\/∃t m,q=[(t,m),((2:Int),(600:Int))]/\0<=t/\t<=1/\0<=m/\m<=900)->Good (te a b c (6+z % 6) (5*(n1 % 5)) (5*(n2 % 5)) qg q):=
   λc qg q hc hq=>⟨a,b,c,_,_,_,_,_,rfl,ap,ap,hc,ap,ap,ap,ap,ap,ap,hq⟩
  have d_:([]:List (Int × Int))=[]\/∃t m,([]:List (Int × Int))=[(t,m),((2:Int),(600:Int))]/\0<=t/\t<=1/\0<=m/\m<=900:=.inl rfl;have e_:[(A % 2,60*(A / 16)),((2:Int),(600:Int))]=[]\/∃t m,[(A % 2,60*(A / 16)),((2:Int),(600:Int))]=[(t,m),((2:Int),(600:Int))]/\0<=t/\t<=1/\0<=m/\m<=900:=
   .inr ⟨_,_,rfl,ap,ap,ap,ap⟩
  have hp:=λL=>O.push L;by_cases c1:F / 16 % 4=0
  .refine aw (by simp[c1]) ?_;have s:c<20:=by omega
   refine aq (.inl rfl) ?_;simp (disch:=omega) [wrap64,nz,agE,agY,dp,gq,jw,ag2,agX];simp only[ec];apply au;apply ai;simp (disch:=omega) [wrap64,nz,agE,agY,dp,gq,jw,ag2,agX];by_cases c2:z / 8 % 2=1
   .refine aw (by simp[c2]) ?_;refine aq (.inl rfl) ?_;simp (disch:=omega) [wrap64,nz,agE,agY,dp,gq,jw,ag2,agX];exact N _ _ (Vh (6+z % 6) (5*(n1 % 5)) (5*(n2 % 5)) (.sl (H.length+3) 0 1 1 0 3) (.sl (H.length+4) 0 1 1 0 1) (.sl (H.length+5) 0 2 2 0 2)) _ (H.length+1) 0 (E c .fs _ ap e_) (by simp[I]) (by rw[AI (aj v)];exact v) (by simpa using hp _) (by simp[K]) bv (by simp;rfl) rfl
     (by simp[Vh,xH,DR,te,a8.row,rL,oq,s,sl,Tg.fc,gk,ints])
   .refine aD (by simp[c2]) ?_;refine aR ?_;exact N _ _ (Vh (6+z % 6) (5*(n1 % 5)) (5*(n2 % 5)) (.sl (H.length+3) 0 1 1 0 3) (.sl (H.length+4) 0 1 1 0 1) (.f .aJ)) _ (H.length+1) 0 (E c .nil _ ap d_) (by simp[I]) (by rw[AI (aj v)];exact v) (by simpa using hp _) (by simp[K]) bv (by simp;rfl) rfl
     (by simp[Vh,xH,DR,te,a8.row,rL,oq,s,sl,Tg.fc,gk,ints])
  .refine aD (by simp[c1]) ?_;have s:¬ 20<20:=by omega
   refine aR ?_;apply au;apply ai;simp (disch:=omega) [wrap64,nz,agE,agY,dp,gq,jw,ag2,agX];by_cases c2:z / 8 % 2=1
   .refine aw (by simp[c2]) ?_;refine aq (.inl rfl) ?_;simp (disch:=omega) [wrap64,nz,agE,agY,dp,gq,jw,ag2,agX];exact N _ _ (Vh (6+z % 6) (5*(n1 % 5)) (5*(n2 % 5)) (.sl (H.length+3) 0 1 1 0 3) (.f .aJ) (.sl (H.length+4) 0 2 2 0 2)) _ (H.length+1) 0 (E 20 .fs _ ap e_) (by simp[I]) (by rw[AI (aj v)];exact v) (by simpa using hp _) (by simp[K]) bv (by simp;rfl) rfl
     (by simp[Vh,xH,DR,te,a8.row,rL,oq,s,sl,Tg.fc,gk,ints])
   .refine aD (by simp[c2]) ?_;refine aR ?_;exact N _ _ (Vh (6+z % 6) (5*(n1 % 5)) (5*(n2 % 5)) (.sl (H.length+3) 0 1 1 0 3) (.f .aJ) (.f .aJ)) _ (H.length+1) 0 (E 20 .nil _ ap d_) (by simp[I]) (by rw[AI (aj v)];exact v) (by simpa using hp _) (by simp[K]) bv (by simp;rfl) rfl
     (by simp[Vh,xH,DR,te,a8.row,rL,oq,s,sl,Tg.fc,gk,ints])
 .rintro t H ⟨I,v,l,O,u,W⟩ K;obtain⟨a,b,c,rfl⟩:∃a b c,l=[a,b,c]:=by
   match l,u with
   |[a,b,c],_=>exact⟨a,b,c,rfl⟩
  have ga:=W a bv;have gb:=W b bv;have gc:=W c bv;have c9:2<B.length:=by omega
  obtain⟨h5,g⟩:=hr B[2] (IN c9);obtain⟨z,n1,n2,F,A,J⟩:∃z n1 n2 F A,B[2]=[z,n1,n2,F,A]:=by
   match hm:B[2],h5 with
   |[a,b,c,d,e],_=>exact⟨a,b,c,d,e,rfl⟩
  rw[J]at g;have b1:=g n1 bv;have hd:(xs.map C.f).drop 11=.f (.int .u8 n1) ::([.f (.int .u8 n2),.f (.int .u8 F),.f (.int .u8 A)]++((iZ B).drop 3).flatten.map C.f):=by
   have hg:cR 5 (iZ B):=λr hm=>by
    obtain⟨r',Z,rfl⟩:=agt.1 hm;rw[agq];exact(hr r' Z).1
   have X:(iZ B)[2]?=aa [.int .u8 z,.int .u8 n1,.int .u8 n2,.int .u8 F,.int .u8 A]:=by simp[iZ,c9,J]
   have:=nH (sz:=5) (k:=1) hg X ap;rw[b_,<-ahZ,show 11=2*5+1 from rfl,this];simp
  apply au;apply ai;simp (disch:=omega) [I,v,hd,nz,agE,agY,dp,gq,jw];by_cases c1:0<n1 / 8 % 4
  .refine aw (by simp[c1]) ?_;refine aq (.inl rfl) ?_;obtain⟨bb,ep,H',e1,e2,e3,-⟩:=LB.st1 (H:=H++[.box [.f (fi 0),.f (fi 1)] 0]) (row:=c.row) (j:=2) (k:=14) (c:=.sl H.length 0 2 2 0 1) (x:=.fs [fi 0,fi 1] 2) (O.push _) (fv _) (by simp[rows]) ce (by simp[xH]);simp at e1 e2;simp[e1,e2];apply ai;simp;refine az (hQ _ _ (.c (.f (sl .es (rows [a,b,{ c with pg:=.fs,p:=[0,1] }])))) ⟨a,b,c,ga,gb,gc,.inr rfl⟩ ?_);have i6:c.p=[]:=by obtain⟨_,_,_,_,_,_,_,_,rfl,_⟩:=gc;rfl
   have a_:(rows [a,b,c]).set 2 (c.row.set 14 (.fs [fi 0,fi 1] 2))=rows [a,b,{ c with pg:=.fs,p:=[0,1] }]:=rfl;rw[a_]at e3;obtain⟨cv,M,_⟩:=e3.len;have:=e3.fzV (fv _);simp[M];rw[M]at this;simpa using this
  .refine aD (by simp[c1]) ?_;refine aR ?_;apply ai;simp;refine az (hQ _ _ (.c (.f (sl .es (rows [a,b,c])))) ⟨a,b,c,ga,gb,gc,.inl rfl⟩ ?_);obtain⟨cv,M,_⟩:=O.len;have:=O.fzV (fv _);simp[M];rw[M]at this;simpa using this
def js(l:List a8)(h:Bool):Prop:=∃a b c:a8,Good a/\Good b/\Good c/\l=[a,b,if h then { c with pg:=.fs,p:=[0,1] }else c]
theorem UL{r:V}(h:Ii r):∃l h,js l h/\r=.c (.f (sl .es (rows l))):=by
 obtain⟨a,b,c,d,g,j,rfl|rfl⟩:=h
 .exact⟨_,ag,⟨a,b,c,d,g,j,rfl⟩,rfl⟩
 .exact⟨_,ae,⟨a,b,c,d,g,j,rfl⟩,rfl⟩
theorem jT{r:a8}(h:Good r):nG r=ag/\r.p=[]/\(bU r.cap 1 512&&bU r.fg 0 1440&&bU r.gN 0 1440&&km (-1) r.q)=ae:=by
 obtain⟨a,b,c,cap,j,g,z,q,rfl,_,_,_,l,s,u,v,x,y,d⟩:=h;refine⟨?_,rfl,?_⟩
 .rcases d with rfl|⟨t,m,rfl,_⟩<;>simp[nG,te]
 .simp only[te];rw[eS ap ap,eS ap ap,eS ap ap];rcases d with rfl|⟨t,m,rfl,A,B,m1,m2⟩
  .rfl
  .simp only[km];rw[eS ap ap,eS ap ap,eS ap ap,eS ap ap];rfl
theorem Bs{l:List a8}{h:Bool}(s:js l h):∀r∈l,nf r:=by
 obtain⟨a,b,c,j,m,d,rfl⟩:=s;intro r g;simp only[agA,ahG,or_false]at g;rcases g with rfl|rfl|rfl
 .exact qD j
 .exact qD m
 .cases h
  .have q:=qD d;exact q
  .have q:=qD d;exact q
theorem zg{l:List a8}{h:Bool}(B:js l h):lB l=0:=by
 obtain⟨a,b,c,y,z,A,rfl⟩:=B;obtain⟨a1,u,a3⟩:=jT y;obtain⟨b1,v,d⟩:=jT z;obtain⟨g,x,m⟩:=jT A;cases h
 .have q:[a,b,c].any nG=ag:=by simp[a1,b1,g]
  have s:fU [a,b,c] 0 [a,b,c]=ae:=by simp[fU,fQ,u,v,x,nu,a3,d,m]
  simp[lB,q,s]
 .have j:nG { c with pg:=.fs,p:=[0,1] }=ag:=by
   simp[nG]at g ⊢;exact g.1
  have q:[a,b,{ c with pg:=.fs,p:=[0,1] }].any nG=ag:=by simp[a1,b1,j]
  have s:fU [a,b,{ c with pg:=.fs,p:=[0,1] }] 0 [a,b,{ c with pg:=.fs,p:=[0,1] }]=ae:=by
   simp[bU]at a3 d m;simp[fU,fQ,u,v,nu,a3,d,m,CA,bU]
  simp[lB,q,s]
def iu(h:Bool)(i k:Nat):Bool:=decide (i=k)||h&&(decide (i=2)||decide (k=2))
def ez(x y:aG):Bool:=decide (x.meet<y.meet)||(decide (x.meet=y.meet)&&decide (x.room<y.room))
theorem Gq(x y:aG):bg tab Xg [.a (x.row.map .f),.a (y.row.map .f)]=Eq (vb (ez x y)):=by
 refine Kf.eq (dh rfl rfl λH Q g=>?_);apply ai;simp[aG.row];apply ai;by_cases b:x.meet<y.meet
 .simp[b];refine az (g _ _ ?_);simp[ez,b]
 .by_cases d:x.meet=y.meet
  .simp[b,d];refine az (g _ _ ?_);simp[ez,b,d]
  .simp[b,d];refine az (g _ _ ?_);simp[ez,b,d]
theorem Me(g:Tg)(l:List aG)(s:aG)(O:l.length<=1000):∃b,(b=ag->∀x∈l,¬ (x.meet=s.meet/\x.room=s.room))/\bg tab O8 [.c (.f (sl g (aS l))),.a (s.row.map .f)]=Eq (vb b):=by
 have key:∃r,(∃b,(b=ag->∀x∈l,¬ (x.meet=s.meet/\x.room=s.room))/\r=vb b)/\bg tab O8 [.c (.f (sl g (aS l))),.a (s.row.map .f)] r:=by
  refine dx rfl rfl λQ J=>?_;apply ai;simp[aG.row];apply au;apply ai;simp;refine jy l.length (λj t H=>t.g 0=.c (.f (sl g (aS l)))/\t.g 3=.c (.ptr 0 0 0)/\H[0]?=aa (.box [.f (fi s.meet),.f (fi s.room),.f (fi s.eo),.f (fi s.size),.f (sl s.st.cg (aU s.st.cs)),.f (fi s.st.len),.f (sl s.st.xg (aF s.st.xs))] 0)/\∀x∈l.take j,¬ (x.meet=s.meet/\x.room=s.room)) ap rfl bv ⟨bv,bv,rfl,bv⟩ ?_ ?_ ?_
  .rintro j t H L z ⟨m,u,v,d⟩ q K;simp[q,m];exact K _ ⟨by simp[m],by simp[u],v,d⟩ (by simp[q]) bv
  .rintro j t H z ⟨m,u,v,d⟩ q next
   have y:¬ (l[j].meet=s.meet/\l[j].room=s.room)->∀x∈l.take (j+1),¬ (x.meet=s.meet/\x.room=s.room):=λN x A=>by
    rw[agv,By z]at A;rcases agl.1 A with A|A
    .exact d x A
    .simp at A;subst A;exact N
   have B:=λH:an=>jU (H:=H) (k:=0) (bW l) (dI z) rfl;have F:=λH:an=>jU (H:=H) (k:=1) (bW l) (dI z) rfl;simp[aG.row]at B F;refine ay ?_;apply ai;by_cases E:l[j].meet=s.meet
   .by_cases I:l[j].room=s.room
    .simp[m,u,q,v,bz,z,B,F,E,I];refine aw bv ?_;apply ai;simp;refine az (J _ _ _ ⟨ae,bv,rfl⟩ ?_);simp
    .simp[m,u,q,v,bz,z,B,F,E,I];refine aD bv (aR (av (next _ _ ?_ (by simp[q]))));exact⟨by simp[m],by simp[u],v,y (by simp[I])⟩
   .simp[m,u,q,v,bz,z,B,E];refine aD bv (aR (av (next _ _ ?_ (by simp[q]))));exact⟨by simp[m],by simp[u],v,y (by simp[E])⟩
  .rintro t H ⟨m,u,v,d⟩ q;apply ai;simp;refine az (J _ _ _ ⟨ag,λ_=>by rwa[agu]at d,rfl⟩ ?_);simp
 obtain⟨r,⟨b,M,rfl⟩,h⟩:=key;exact⟨b,M,h.eq⟩
def oQ:C->Option Nat
 | .sl b _ _ _ _ _=>aa b| _=>ab
def LS(H:an)(c:C)(ss:List aG):Prop:=(ss=[]/\c=.f .es)\/(ss≠[]/\∃b d fl,c=.sl b 0 ss.length 0 d 7/\H[b]?=aa (.dj 7 ((aS ss).flatten.map .f) fl d .loc)/\fl<=(aS ss).flatten.length)
theorem LS.bH{H H':an}{c:C}{ss:List aG}(h:LS H c ss)(g:∀i y,H[i]?=aa y->oQ c=aa i->H'[i]?=aa y):LS H' c ss:=by
 rcases h with h|⟨h,b,d,fl,rfl,h2,h3⟩
 .exact .inl h
 .exact .inr ⟨h,b,d,fl,rfl,g b _ h2 rfl,h3⟩
theorem LS.push{H:an}{c:C}{ss:List aG}(h:LS H c ss)(J:an):LS (H++J) c ss:=h.bH λi y hy _=>by rw[AI (aj hy)];exact hy
theorem LS.lt{H:an}{c:C}{ss:List aG}(h:LS H c ss){i:Nat}(hi:oQ c=aa i):i<H.length:=by
 rcases h with⟨_,rfl⟩|⟨h,b,d,fl,rfl,h2,h3⟩
 .cases hi
 .cases hi;exact aj h2
theorem LS.bR{H:an}{c:C}{ss:List aG}(h:LS H c ss){i:Nat}{x:bO}(d:H[i]?=aa x)(g:I2 x=ae):oQ c≠aa i:=by
 rcases h with⟨_,rfl⟩|⟨h,b,j,fl,rfl,h2,h3⟩
 .simp[oQ]
 .intro e;cases e;rw[h2]at d;cases d;cases g
theorem pZ(ss:List aG)(x:aG):(aS (ss++[x])).flatten=(aS ss).flatten++x.row:=by simp[aS]
theorem LS.app{H:an}{c:C}{ss:List aG}(h:LS H c ss)(hl:ss.length<=1000){b1 fl1:Nat}{x:aG}(s:H[b1]?=aa (.box (x.row.map .f) fl1)) :
  ∃l H',bT H 7 88 (.c c) (.c (.sl b1 0 1 1 0 7))=aa (.c l,H')/\LS H' l (ss++[x])/\H.length<=H'.length/\(∀(i:Nat) y,H[i]?=aa y->oQ c≠aa i->H'[i]?=aa y)/\(oQ l=oQ c\/oQ l=aa H.length):=by
 have g:dG H 7 (.c (.sl b1 0 1 1 0 7))=aa (1,x.row.map .f):=lV s (by rfl);rcases h with⟨rfl,rfl⟩|⟨v,b,m,fl,rfl,h2,h3⟩
 .have d:cD 1 88=ae:=by simp[cD]
  refine⟨.sl H.length 0 1 0 0 7,H++[.dj 7 (x.row.map .f) 0 0 .loc],?_,.inr ⟨bv,H.length,0,0,bv,?_,bv⟩,bv,λi y hy _=>by rw[AI (aj hy)];exact hy,.inr rfl⟩
  .simp[bT,g,d]
  .simp[aS]
 .have d:cD (ss.length+1) 88=ae:=by simp[cD];omega
  have j:ss.length*7=(aS ss).flatten.length:=by rw[cA (bW ss),ny]
  refine⟨.sl b 0 (ss.length+1) 0 (m+1) 7,H.set b (.dj 7 ((aS ss).flatten.map .f++x.row.map .f) fl (m+1) .loc),?_,.inr ⟨bv,b,m+1,fl,bv,?_,?_⟩,bv,λi y hy u=>?_,.inl rfl⟩
  .have q:(7:Nat)≠0:=by decide
   simp only[bT,g,q,if_false,h2,and_self,if_true];simp only[Nat.add_one_ne_zero,if_false];rw[bZ ⟨trivial,by rw[agq];exact j,by rw[agq];exact h3⟩,d];simp
  .rw[BY (aj h2),pZ,ahl]
  .rw[pZ,aft];omega
  .have:b≠i:=by rintro rfl;exact u rfl
   rw[sh this];exact hy
theorem LS.len{H:an}{c:C}{ss:List aG}(h:LS H c ss):bh H c=aa ss.length:=by
 rcases h with⟨rfl,rfl⟩|⟨h,b,d,fl,rfl,h2,h3⟩
 .rfl
 .simp[bh,h2]
theorem LS.at{H:an}{c:C}{ss:List aG}(h:LS H c ss){j:Nat}(g:j<ss.length):∃b d,bG H 7 ab (.c c) (vi j)=aa (.c (.ptr b (j*7) d))/\aV H (aa 7) (.c (.ptr b (j*7) d))=aa (.a (ss[j].row.map .f)):=by
 rcases h with⟨rfl,rfl⟩|⟨h,b,d,fl,rfl,h2,h3⟩
 .simp at g
 .refine⟨b,d,?_,?_⟩
  .have:(j:Int)<ss.length:=by omega
   simp[bG,fG,h2,this]
  .have hd:=nH (k:=0) (bW ss) (dI g) ap;rw[Nat.add_zero]at hd;simp only[ax,h2,if_true];rw[<-ahZ,hd];simp[aG.row]
theorem LS.ex{H:an}{c:C}{ss:List aG}(h:LS H c ss)(n:Nat):∃g,fh (n+1) H c=aa (sl g (aS ss)):=by
 rcases h with⟨rfl,rfl⟩|⟨h,b,d,fl,rfl,h2,h3⟩
 .exact⟨.es,rfl⟩
 .refine⟨.fs,?_⟩;have hl:ss.length*7=(aS ss).flatten.length:=by rw[cA (bW ss),ny]
  simp only[gT,h2];rw[bZ ⟨trivial,trivial,by rw[agq,Nat.zero_add,hl];exact agn _⟩,ahi,agw (by rw[agq];omega),lu];cases ss with
  |nil=>exact absurd rfl h| cons x l=>simp[sl,aS]
theorem LS.mk{H:an}{c:C}{ss:List aG}(h:LS H c ss)(n:Nat):LS (ef (n+1) c H) c ss/\(ef (n+1) c H).length=H.length/\∀(i:Nat) y,H[i]?=aa y->oQ c≠aa i->(ef (n+1) c H)[i]?=aa y:=by
 rcases h with⟨rfl,rfl⟩|⟨h,b,d,fl,rfl,h2,h3⟩
 .exact⟨.inl ⟨rfl,rfl⟩,rfl,λi y hy _=>hy⟩
 .have hl:ss.length*7=(aS ss).flatten.length:=by rw[cA (bW ss),ny]
  have e:ef (n+1) (.sl b 0 ss.length 0 d 7) H=H.set b (.dj 7 ((aS ss).flatten.map .f) (Nat.max fl (0+ss.length*7)) d .loc):=by
   simp only[jL,h2];rw[ju];intro x g;have g:=List.mem_of_mem_drop (List.mem_of_mem_take g);obtain⟨m,_,rfl⟩:=agt.1 g;exact⟨_,rfl⟩
  rw[e];refine⟨.inr ⟨h,b,d,_,rfl,BY (aj h2),Nat.max_le.2 ⟨h3,ap⟩⟩,bv,λi y hy j=>?_⟩;have:b≠i:=by rintro rfl;exact j rfl
  rw[sh this];exact hy
def iD(l:List qV):List (List FC):=l.map qV.row
@[simp] theorem VB (l:List qV):(iD l).length=l.length:=by simp[iD]
theorem CD(l:List qV):cR 10 (iD l):=cR.map λ_=>rfl
theorem Hf{l:List qV}{j:Nat}(b:j<l.length):(iD l)[j]?=aa l[j].row:=by simp[iD,b]
def jr(l:List aG):Prop:=l.Pairwise λa b=>ez a b=ae
theorem jQ{x y:aG}:ez x y=ae↔x.meet<y.meet\/(x.meet=y.meet/\x.room<y.room):=by simp[ez]
theorem jr.ins{l:List aG}{s:aG}(h:jr l)(g:∀x∈l,¬ (x.meet=s.meet/\x.room=s.room)):jr (l.filter (λx=>ez x s)++[s]++l.filter λx=>!ez x s):=by
 have key:∀b∈l.filter (λx=>!ez x s),ez s b=ae:=λb hb=>by
  obtain⟨h1,h2⟩:=agT.1 hb;have h3:=g b h1;have h4:¬ ez b s=ae:=by simpa using h2
  rw[jQ]at h4 ⊢;omega
 unfold jr;rw[aho,aho];refine⟨⟨h.filter _,List.pairwise_singleton _ _,λa d b hb=>?_⟩,h.filter _,λa d b hb=>?_⟩
 .obtain rfl:=If.1 hb;exact(agT.1 d).2
 .have h1:=key b hb;rcases agl.1 d with d|d
  .have h2:=(agT.1 d).2;rw[jQ]at *;omega
  .obtain rfl:=If.1 d;exact h1
theorem LC(l:List aG)(s:aG):(l.filter (λx=>ez x s)++[s]++l.filter λx=>!ez x s).length=l.length+1:=by
 induction l with
 |nil=>rfl
 |cons x l b=>
  cases h:ez x s<;>simp[List.filter_cons,h]at b ⊢<;>omega
theorem sR(l:List aG)(p:aG->Bool)(k:Nat):((l.take k).filter p).length<=l.length:=by
 have b:=ahb p (l.take k);have d:=List.length_take_le' k l;omega
theorem QE{l:List aG}{s x:aG}(h:x∈l.filter (λx=>ez x s)++[s]++l.filter λx=>!ez x s):x=s\/x∈l:=by
 simp only[agl,agT,If]at h;rcases h with(h|h)|h
 .exact .inr h.1
 .exact .inl h
 .exact .inr h.1
theorem qC{l:List aG}{p:aG->Bool}{k:Nat}(b:k<l.length):(l.take (k+1)).filter p=(l.take k).filter p++(if p l[k]then [l[k]]else []):=by
 rw[agv,By b,ah3];cases h:p l[k]<;>simp[h]
def Dj(c b:C):Prop:=∀i,oQ c=aa i->oQ b≠aa i
theorem Yq{H:an}{c g:C}{ss nx:List aG}{l:Nat}{y:bO}(h:LS H c ss)(q:LS H g nx)(s:Dj c g)(A:nx.length<=1000)(j:H[l]?=aa y)(B:I2 y=ae)(x:aG) :
  ∃b H',bT (H++[.box (x.row.map .f) 0]) 7 88 (.c g) (.c (.sl H.length 0 1 1 0 7))=aa (.c b,H')/\LS H' c ss/\LS H' b (nx++[x])/\Dj c b/\H'[l]?=aa y:=by
 obtain⟨b,H',u,v,F,m,d⟩:=(q.push [.box (x.row.map .f) 0]).app A (b1:=H.length) (fl1:=0) (x:=x) bv;refine⟨b,H',u,?_,v,?_,?_⟩
 .exact(h.push [.box (x.row.map .f) 0]).bH λi z E hi=>m i z E (s i hi)
 .intro i hi;rcases d with d|d
  .rw[d];exact s i hi
  .rw[d];have:=h.lt hi;simp;omega
 .refine m _ _ (by rw[AI (aj j)];exact j) (q.bR j B)
theorem MR(g:Tg)(l:List qV)(hl:l.length<=9223372036854775807)(hx:∀x∈l,x.OK):∃g' ss,ss.length<=5/\jr ss/\(∀s∈ss,s.jo)/\bg tab Fu [.c (.f (sl g (iD l)))]=Eq (.c (.f (sl g' (aS ss)))):=by
 have key:∃r,(∃g' ss,ss.length<=5/\jr ss/\(∀s∈ss,s.jo)/\r=.c (.f (sl g' (aS ss))))/\bg tab Fu [.c (.f (sl g (iD l)))] r:=by
  refine dx rfl rfl λQ hQ=>?_;apply ai;simp;apply ai;simp;apply au;apply ai;simp;refine jy (min l.length 5) (λj t H=>t.g 0=.c (.f (sl g (iD l)))/\∃c ss,t.g 3=.c c/\LS H c ss/\ss.length<=j/\jr ss/\∀s∈ss,s.jo) ap rfl bv
   ⟨bv,.f .es,[],bv,.inl ⟨rfl,rfl⟩,bv,List.Pairwise.nil,bv⟩ ?_ ?_ ?_
  .rintro j t H L hj ⟨u,c,ss,q,U,hb,O,hf⟩ v hL;by_cases k1:j<l.length
   .simp[v,u,k1];refine hL _ ⟨by simp[u],c,ss,by simp[q],U,hb,O,hf⟩ (by simp[v]) ?_;simp;omega
   .simp[v,u,k1];refine hL _ ⟨by simp[u],c,ss,by simp[q],U,hb,O,hf⟩ (by simp[v]) ?_;simp;omega
  .rintro j t H hj ⟨u,c,ss,q,U,hb,O,hf⟩ v next
   have d9:j<l.length:=by omega
   obtain⟨s,hs,z⟩:=Ui l[j] (hx _ (IN d9));have z:=bg.eq z;have c9:=λH:an=>cf (H:=H) (CD l) (Hf d9);simp only[qV.row,agm,agp]at c9 z;have X:s.row.map C.f=[.f (fi s.meet),.f (fi s.room),.f (fi s.eo),.f (fi s.size),.f (sl s.st.cg (aU s.st.cs)),.f (fi s.st.len),.f (sl s.st.xg (aF s.st.xs))]:=rfl;rw[X]at z;refine ay ?_;apply ai;simp[u,v,bz,d9,c9,z];have kN:(H++[bO.box [.f (fi s.meet),.f (fi s.room),.f (fi s.eo),.f (fi s.size),.f (sl s.st.cg (aU s.st.cs)),.f (fi s.st.len),.f (sl s.st.xg (aF s.st.xs))] 0])[H.length]?=aa (.box [.f (fi s.meet),.f (fi s.room),.f (fi s.eo),.f (fi s.size),.f (sl s.st.cg (aU s.st.cs)),.f (fi s.st.len),.f (sl s.st.xg (aF s.st.xs))] 0):=by simp
   have kL:=U.push [bO.box [.f (fi s.meet),.f (fi s.room),.f (fi s.eo),.f (fi s.size),.f (sl s.st.cg (aU s.st.cs)),.f (fi s.st.len),.f (sl s.st.xg (aF s.st.xs))] 0];obtain⟨bN,e_⟩:=aI (H.length);rw[<-e_]at kN ⊢;generalize H++[bO.box [.f (fi s.meet),.f (fi s.room),.f (fi s.eo),.f (fi s.size),.f (sl s.st.cg (aU s.st.cs)),.f (fi s.st.len),.f (sl s.st.xg (aF s.st.xs))] 0]=HA at kN kL ⊢;obtain⟨g2,M⟩:=kL.ex 63;have M:fh deep HA c=aa (sl g2 (aS ss)):=M;obtain⟨m1,m2,m3⟩:=kL.mk 63;have c_:ef (63+1) c HA=ef deep c HA:=rfl;rw[c_]at m1 m2 m3;have mN:=m3 _ _ kN (kL.bR kN rfl);obtain⟨bl,f_,b_⟩:=Me g2 ss s ap;rw[X]at b_;apply au;apply ai;simp[q,kN,M,b_];generalize ef deep c HA=HB at m1 m2 mN ⊢;cases bl
   case true=>
    refine aw bv ?_;refine bJ rfl ?_;refine next _ _ ⟨by simp[u],c,ss,by simp[q],m1,ap,O,hf⟩ (by simp[v])
   refine bE bv ?_;apply ai;simp;have a_:=λx:aG=>Gq x s;have g_:=f_ rfl;have Z:∀(t:T) (H:an) (y:C) (nx:List aG),t.g 0=.c (.f (sl g (iD l)))->t.g 3=.c c->t.g 4=vi j->t.g 5=.c (.ptr bN 0 0)->t.g 6=.c y->H[bN]?=aa (.box [.f (fi s.meet),.f (fi s.room),.f (fi s.eo),.f (fi s.size),.f (sl s.st.cg (aU s.st.cs)),.f (fi s.st.len),.f (sl s.st.xg (aF s.st.xs))] 0)->
     LS H c ss->LS H y nx->Dj c y->nx=ss.filter (λx=>ez x s)++[s]->
     WP tab Fu ab [.code JS,.inBlock 1,.code (AJ 4 18 19),.inLoop (qN 0 4 17 18 19 [⟨D 10,.iV (R 4),ab⟩,⟨D 11,.iV (R 0),ab⟩,⟨D 12,.len (R 11),ab⟩,⟨D 13,.bin .lss (R 10) (R 12),ab⟩,⟨D 14,.iV (R 13),ab⟩,⟨D 15,.iV (R 4),G 14 ae⟩,⟨D 16,.bin .lss (R 15) (.k (.c (.f (.int .i64 5)))),G 14 ae⟩,⟨D 17,.pick (R 14) (R 16) (.k (.c (.f (.bool ag)))),ab⟩] JR),.inBlock 0,.code JT] ⟨t,[],H⟩ Q:=by
    intro t H y nx u q I E J F B m S d;apply au;apply ai;simp;refine jy ss.length (λk t H=>t.g 0=.c (.f (sl g (iD l)))/\t.g 3=.c c/\t.g 4=vi j/\t.g 5=.c (.ptr bN 0 0)/\H[bN]?=aa (.box [.f (fi s.meet),.f (fi s.room),.f (fi s.eo),.f (fi s.size),.f (sl s.st.cg (aU s.st.cs)),.f (fi s.st.len),.f (sl s.st.xg (aF s.st.xs))] 0)/\LS H c ss/\
     ∃y nx,t.g 6=.c y/\LS H y nx/\Dj c y/\nx=ss.filter (λx=>ez x s)++[s]++(ss.take k).filter λx=>!ez x s) ap rfl bv
     ⟨by simp[u],by simp[q],by simp[I],by simp[E],F,B,y,nx,by simp[J],m,S,by simpa using d⟩ ?_ ?_ ?_
    .rintro k t H L Y ⟨u,q,I,E,F,B,y,nx,J,m,S,d⟩ v hL;simp[v,q,B.len];exact hL _ ⟨by simp[u],by simp[q],by simp[I],by simp[E],F,B,y,nx,by simp[J],m,S,d⟩ (by simp[v]) bv
    .rintro k t H Y ⟨u,q,I,E,F,B,y,nx,J,m,S,d⟩ v A;obtain⟨b,ep,hi,N⟩:=B.at Y;have K:=a_ ss[k];rw[X]at K;simp only[aG.row,agm,agp]at N K;refine ay ?_;apply ai;simp[q,E,v,hi,N,-ax,show aV H (aa 7) (.c (.ptr bN 0 0))=aa (.a [.f (fi s.meet),.f (fi s.room),.f (fi s.eo),.f (fi s.size),.f (sl s.st.cg (aU s.st.cs)),.f (fi s.st.len),.f (sl s.st.xg (aF s.st.xs))]) by simp[F],K];cases W:ez ss[k] s
     .obtain⟨c',H',e1,e2,e3,e4,e5⟩:=Yq B m S (by rw[d];have q1:=sR ss (λx=>ez x s) k;have q2:=sR ss (λx=>!ez x s) k;have q3:=ahb (λx=>ez x s) ss;(try simp only[aft,ah1]);omega) F rfl ss[k];simp only[aG.row,agm,agp]at e1;refine aw bv ?_;refine aq (.inl rfl) ?_;simp[q,J,v,hi,N,-ax,e1];refine av (A _ _ ?_ (by simp[v]));refine⟨by simp[u],by simp[q],by simp[I],by simp[E],e5,e2,c',nx++[ss[k]],bv,e3,e4,?_⟩;rw[qC Y,d];simp[W]
     .refine aD bv (aR (av (A _ _ ?_ (by simp[v]))));exact⟨by simp[u],by simp[q],by simp[I],by simp[E],F,B,y,nx,by simp[J],m,S,by rw[qC Y,d];simp[W]⟩
    .rintro t H ⟨u,q,I,E,F,B,y,nx,J,m,S,d⟩ d_;refine aq (.inl rfl) ?_;simp[J];rw[agu]at d;subst d;refine av (next _ _ ⟨by simp[u],y,_,bv,m,?_,O.ins g_,λx hx=>?_⟩ (by simp[I]))
     .have:=LC ss s;omega
     .rcases QE hx with rfl|hx
      .exact hs
      .exact hf x hx
   apply au;apply ai;simp;refine jy ss.length (λk t H=>t.g 0=.c (.f (sl g (iD l)))/\t.g 3=.c c/\t.g 4=vi j/\t.g 5=.c (.ptr bN 0 0)/\H[bN]?=aa (.box [.f (fi s.meet),.f (fi s.room),.f (fi s.eo),.f (fi s.size),.f (sl s.st.cg (aU s.st.cs)),.f (fi s.st.len),.f (sl s.st.xg (aF s.st.xs))] 0)/\LS H c ss/\
    ∃y nx,t.g 6=.c y/\LS H y nx/\Dj c y/\nx=(ss.take k).filter λx=>ez x s) ap rfl bv
    ⟨by simp[u],by simp[q],by simp[v],bv,mN,m1,.f .es,[],bv,.inl ⟨rfl,rfl⟩,λi _=>by simp[oQ],bv⟩ ?_ ?_ ?_
   .rintro k t H L Y ⟨u,q,I,E,F,B,y,nx,J,m,S,d⟩ v hL;simp[v,q,B.len];exact hL _ ⟨by simp[u],by simp[q],by simp[I],by simp[E],F,B,y,nx,by simp[J],m,S,d⟩ (by simp[v]) bv
   .rintro k t H Y ⟨u,q,I,E,F,B,y,nx,J,m,S,d⟩ v A;obtain⟨b,ep,hi,N⟩:=B.at Y;have K:=a_ ss[k];rw[X]at K;simp only[aG.row,agm,agp]at N K;refine ay ?_;apply ai;simp[q,E,v,hi,N,-ax,show aV H (aa 7) (.c (.ptr bN 0 0))=aa (.a [.f (fi s.meet),.f (fi s.room),.f (fi s.eo),.f (fi s.size),.f (sl s.st.cg (aU s.st.cs)),.f (fi s.st.len),.f (sl s.st.xg (aF s.st.xs))]) by simp[F],K];cases W:ez ss[k] s
    .refine aD bv (aR (av (A _ _ ?_ (by simp[v]))));exact⟨by simp[u],by simp[q],by simp[I],by simp[E],F,B,y,nx,by simp[J],m,S,by rw[qC Y,d];simp[W]⟩
    .obtain⟨c',H',e1,e2,e3,e4,e5⟩:=Yq B m S (by rw[d];have q1:=sR ss (λx=>ez x s) k;have q2:=sR ss (λx=>!ez x s) k;have q3:=ahb (λx=>ez x s) ss;(try simp only[aft,ah1]);omega) F rfl ss[k];simp only[aG.row,agm,agp]at e1;refine aw bv ?_;refine aq (.inl rfl) ?_;simp[q,J,v,hi,N,-ax,e1];refine av (A _ _ ?_ (by simp[v]));refine⟨by simp[u],by simp[q],by simp[I],by simp[E],e5,e2,c',nx++[ss[k]],bv,e3,e4,?_⟩;rw[qC Y,d];simp[W]
   .rintro t H ⟨u,q,I,E,F,B,y,nx,J,m,S,d⟩ d_;obtain⟨c',H',e1,e2,e3,e4,e5⟩:=Yq B m S (by rw[d];have q1:=sR ss (λx=>ez x s) ss.length;omega) F rfl s;rw[X]at e1;apply ai;simp[E,J,F,e1];refine Z _ H' c' (nx++[s]) (by simp[u]) (by simp[q]) (by simp[I]) (by simp[E]) bv e5 e2 e3 e4 (by rw[d,agu])
  .rintro t H ⟨u,c,ss,q,U,hb,O,hf⟩ v;obtain⟨g2,M⟩:=U.ex 63;have M:fh deep H c=aa (sl g2 (aS ss)):=M;apply ai;simp[q];refine az (hQ _ _ _ ⟨g2,ss,ap,O,hf,rfl⟩ ?_);simp[M]
 obtain⟨r,⟨g',ss,h1,h2,h3,rfl⟩,h⟩:=key;exact⟨g',ss,h1,h2,h3,bg.eq h⟩
theorem gI{l:List a8}{h:Bool}(d:js l h):l.length=3:=by
 obtain⟨a,b,c,_,_,_,rfl⟩:=d;rfl
theorem CV{l:List a8}{h:Bool}(q:js l h){i k:Nat}(hi:i<l.length)(m:k<l.length):fS i k l[i] l[k]=iu h i k:=by
 have x:=gI q;obtain⟨a,b,c,s,u,v,rfl⟩:=q;obtain⟨a1,d,a3⟩:=jT s;obtain⟨b1,g,y⟩:=jT u;obtain⟨z,j,A⟩:=jT v;rw[x]at hi m
 match i,hi,k,m with
 |0,_,0,_=>cases h<;>simp[fS,iu]
 |0,_,1,_=>cases h<;>simp[fS,iu,d,g]
 |0,_,2,_=>cases h<;>simp[fS,iu,d,j]
 |1,_,0,_=>cases h<;>simp[fS,iu,d,g]
 |1,_,1,_=>cases h<;>simp[fS,iu]
 |1,_,2,_=>cases h<;>simp[fS,iu,g,j]
 |2,_,0,_=>cases h<;>simp[fS,iu,d,j]
 |2,_,1,_=>cases h<;>simp[fS,iu,g,j]
 |2,_,2,_=>cases h<;>simp[fS,iu]
theorem zf{l:List a8}{h:Bool}(b:js l h){i:Nat}(hi:i<l.length):l[i].q.length<=64/\l[i].p.length<=64:=CX (zg b) hi
theorem MU{l:List a8}{h:Bool}(g:js l h){i:Nat}(hi:i<l.length):0<=l[i].fg/\l[i].fg<=20/\0<=l[i].gN/\l[i].gN<=20:=by
 have B:=gI g;obtain⟨a,b,c,s,u,v,rfl⟩:=g;have d:∀{r:a8},Good r->0<=r.fg/\r.fg<=20/\0<=r.gN/\r.gN<=20:=by
  rintro r ⟨a,b,c,cap,m,j,E,q,rfl,_,_,_,_,_,x,y,z,A,_⟩;exact⟨x,y,z,A⟩
 rw[B]at hi
 match i,hi with
 |0,_=>exact d s| 1,_=>exact d u| 2,_=>have q:=d v;cases h<;>exact q
theorem Hv(g:Tg){l:List a8}{h:Bool}(b:js l h)(i k:Int)(d:0<=i)(m:i<=2)(j:0<=k)(q:k<=2):bg tab BM [.c (.f (sl g (rows l))),vi i,vi k]=Eq (vb (iu h i.toNat k.toNat)):=by
 have s:=gI b;have:=MH g l i.toNat k.toNat ap ap (zf b _).2 (zf b _).2;rw[CV b]at this;rwa[Int.toNat_of_nonneg d,Int.toNat_of_nonneg j]at this
theorem Tr{x y:aG}(h:ez x y=ae):qY x y<0:=by
 rw[jQ]at h;unfold qY;simp only[zz,eE]
 repeat' split
 all_goals omega
theorem Bp{j:List a8}{h:Bool}(u:js j h){ss:List aG}(H:ss.length<=5)(d:jr ss)(g:∀s∈ss,s.jo):vE j ss=ae:=by
 have one:∀s:aG,s.jo->jC j.length s=ae:=λs ⟨a1,A,a3,a4,a5,B,E,F,a9⟩=>by
  simp only[jC,gI u,mw a9.two];rw[eS ap ap,eS ap ap,eS ap ap];simp[a1]
 have q:∀(l:List aG) (p:Option aG),jr l->(∀s∈l,s.jo)->(∀m,p=aa m->∀s∈l,ez m s=ae)->iE j.length p l=ae:=by
  intro l;induction l with
  |nil=>intros;rfl
  |cons x l z=>
   intro p y g v;have b:=List.pairwise_cons.1 y;simp only[iE,one x (g x ago),Bool.true_and,Bool.and_eq_true];refine⟨?_,z (aa x) b.2 (λs d=>g s (agr _ d)) λm e s d=>?_⟩
   .cases p with
    |none=>rfl| some m=>simpa using Tr (v m rfl x ago)
   .cases e;exact b.1 s d
 simp only[vE,zg u,q ss ab d g bv];simp;omega
theorem Hl(a b:FC)(r:Int):bg tab Xm [.c (.f a),.c (.f b),vi r]=Eq (.c (.f (.fn uh [.fp [b] 0,.fp [a] 0,.fp [fi r] 0]))):=by
 refine bg.eq (bK rfl rfl λQ d=>?_);apply ai;simp;apply ai;simp;refine az (d _ _ ?_);simp[deep]
theorem Dw:∀cs:List FC,(∀c∈cs,∃k m,c=FC.int k m)->jJ (FC.beq 63) cs cs=ae
 |[],_=>rfl
 |c::cs,h=>by
  obtain⟨k,m,rfl⟩:=h c ago;simp only[jJ,Dw cs λx b=>h x (agr _ b),Bool.and_true];simp[FC.beq]
theorem Ao(g:Tg)(xs:List aC):(V.c (C.f (sl g (aF xs)))).beq (V.c (C.f (sl g (aF xs))))=ae:=by
 show FC.beq 64 (sl g (aF xs)) (sl g (aF xs))=ae;cases xs with
 |nil=>cases g<;>rfl
 |cons x xs=>
  have:sl g (aF (x::xs))=.fs (aF (x::xs)).flatten (aF (x::xs)).length:=by simp[sl,aF]
  rw[this];show((_ == _)&&jJ (FC.beq 63) _ _)=ae;rw[Dw]
  .simp
  .intro c b;obtain⟨r,d,b⟩:=List.mem_flatten.1 b;obtain⟨y,-,rfl⟩:=agt.1 d;simp only[aC.row,agA,ahG,or_false]at b;rcases b with rfl|rfl|rfl<;>exact⟨_,_,rfl⟩
theorem acf(k:IntKind)(n:Int):(V.c (C.f (.int k n))).beq (V.c (C.f (.int k n)))=ae:=by simp[V.beq,C.beq,FC.beq]
def rS(B:Int)(c:cW):cW:={ c with min:=c.min-B }
def lM(B A:Int)(x:aC):aC:=⟨x.day,x.fr-B,x.to+A⟩
def Ta(B A:Int)(s o:aH):Prop:=o.cs=s.cs.map (rS B)/\o.len=s.len+B+A/\o.xs=s.xs.map (lM B A)
theorem Ta.ok{B A:Int}{s o:aH}(h:Ta B A s o)(q:dP s)(H:0<=B/\B<=20)(F:0<=A/\A<=20):cZ o:=by
 obtain⟨h1,h2,h3⟩:=h;obtain⟨a1,v,a3,a4,a5,j⟩:=q;refine⟨?_,ap,ap,by rw[h3,agq];exact a4,?_,λx g=>?_⟩
 .rw[h1];rcases a1 with e|⟨f,p,l,mi,e,b1,b,b3,b4,d,m,z,E⟩
  .exact .inl (by rw[e];rfl)
  .exact .inr ⟨f,p,l,mi-B,by rw[e];rfl,b1,b,b3,b4,d,m,ap,ap⟩
 .rw[h3,List.pairwise_map];refine a5.imp (λ{x y} u=>?_);unfold aC.lt lM at *;simp only;omega
 .rw[h3]at g;obtain⟨y,hy,rfl⟩:=agt.1 g;obtain⟨b1,b,b3,b4,d⟩:=j y hy;simp only[BP,lM];omega
theorem KW(g:Tg)(l:List cW)(m:l.length<=64):∃f:an->C × an,∀H,Ev tab (.fn FG) [.c (.f (sl g (aU l)))] H=E2 (.c (f H).1) (H++(f H).2)/\LR (H++(f H).2) (f H).1 2 (aU l)/\∀i,bf (f H).1=aa i->H.length<=i:=by
 have h:∀H:an,∃p:C × an,Ev tab (.fn FG) [.c (.f (sl g (aU l)))] H=E2 (.c p.1) (H++p.2)/\LR (H++p.2) p.1 2 (aU l)/\∀i,bf p.1=aa i->H.length<=i:=λH=>by
  obtain⟨r,H',j,c,J,rfl,rfl,b,d⟩:=sK (g:=g) (H:=H) (rows:=aU l) XW ce (eu l) (by simp[cD];omega);exact⟨(c,J),j.eq,b,d⟩
 exact⟨λH=>Classical.choose (h H),λH=>Classical.choose_spec (h H)⟩
theorem Qg(g:Tg)(l:List aC)(m:l.length<=64):∃f:an->C × an,∀H,Ev tab (.fn FH) [.c (.f (sl g (aF l)))] H=E2 (.c (f H).1) (H++(f H).2)/\LR (H++(f H).2) (f H).1 3 (aF l)/\∀i,bf (f H).1=aa i->H.length<=i:=by
 have h:∀H:an,∃p:C × an,Ev tab (.fn FH) [.c (.f (sl g (aF l)))] H=E2 (.c p.1) (H++p.2)/\LR (H++p.2) p.1 3 (aF l)/\∀i,bf p.1=aa i->H.length<=i:=λH=>by
  obtain⟨r,H',j,c,J,rfl,rfl,b,d⟩:=sK (g:=g) (H:=H) (rows:=aF l) XX ce (bM l) (by simp[cD];omega);exact⟨(c,J),j.eq,b,d⟩
 exact⟨λH=>Classical.choose (h H),λH=>Classical.choose_spec (h H)⟩
theorem QP(r:a8)(b d:Int)(l:0<=r.fg/\r.fg<=20)(j:0<=r.gN/\r.gN<=20)(m:0<=b/\b<=1000000)(q:0<=d/\d<=1000000):bg tab Xk [.a (r.row.map .f),.a [.f (fi b),.f (fi d)]]=Eq (.a [.f (fi (b-r.fg)),.f (fi (d+r.gN))]):=bg.eq (by
 refine bK rfl rfl λQ g=>?_;apply ai;simp[a8.row];apply ai;simp[aZ (n:=b-r.fg),aZ (n:=d+r.gN)];refine az (g _ _ ?_);simp[jh,dq,bu])
theorem ET{b s:Type}(row:b->s)(f:b->b)(l:List b)(j:Nat)(d:j<l.length):((l.take j).map (row ∘ f)++(l.drop j).map row).set j (row (f l[j]))=(l.take (j+1)).map (row ∘ f)++(l.drop (j+1)).map row:=by
 have g:l.take (j+1)=l.take j++[l[j]]:=by rw[agv,By d];rfl
 have m:l.drop j=l[j]::l.drop (j+1):=ags d;have q:((l.take j).map (row ∘ f)).length=j:=by simp;omega
 rw[g,m,ahl,agm,List.set_append_right _ _ ap,q,ah9,List.set_cons_zero];simp
theorem D2{b m:Type}(row:b->m)(f:b->b)(l:List b)(j:Nat)(d:j<l.length):((l.take j).map (row ∘ f)++(l.drop j).map row)[j]?=aa (row l[j]):=by
 have g:((l.take j).map (row ∘ f)).length=j:=by simp;omega
 rw[agj ap,g,ah9,ags d];rfl
theorem Ek(g:Tg){U:List a8}{h:Bool}(ht:js U h)(s:aG)(hs:s.jo)(hk:s.room.toNat<U.length) :
  ∃o,Ta U[s.room.toNat].fg U[s.room.toNat].gN s.st o/\bg tab ug [.c (.f (sl g (rows U))),.a (s.row.map .f)]=Eq (.t [.a (o.row.map .f),vb ae]):=by
 obtain⟨r,⟨o,ho,rfl⟩,hp⟩:∃r,(∃o,Ta U[s.room.toNat].fg U[s.room.toNat].gN s.st o/\r=.t [.a (o.row.map .f),vb ae])/\bg tab ug [.c (.f (sl g (rows U))),.a (s.row.map .f)] r:=by
  refine dx rfl rfl λQ hQ=>?_;have i7:=λH:an=>cf (H:=H) (fv U) (qP hk);obtain⟨f1,f2,f3,f4,f5,f6,f7,f8,f9⟩:=hs;obtain⟨e_,r6,r7,r_,s7,p9⟩:=id f9;have l_:s.st.cs.length<=1:=by
   rcases e_ with e|⟨f,p,l,mi,e,_⟩<;>rw[e]<;>simp
  have i6:=λH:an=>bz (H:=H) (g:=g) (rows:=rows U) (sz:=15) (k:=.i64) (i:=s.room) f3 ge;obtain⟨j5,j6,i9,i_⟩:=MU ht hk;have h_:=λfr to hf o_=>QP U[s.room.toNat] fr to ⟨j5,j6⟩ ⟨i9,i_⟩ hf o_;simp only[a8.row,agm,agp]at i7 h_;obtain⟨fc,f_⟩:=KW s.st.cg s.st.cs ap;obtain⟨fx,g_⟩:=Qg s.st.xg s.st.xs ap;have ec:=λH=>(f_ H).1;have ex:=λH=>(g_ H).1;generalize U[s.room.toNat]=r at *;have j9:∀(t:T) (H:an) (u A:C) (n:Nat),t.g 3=.c (.ptr 0 0 0)->t.g 4=.c (.ptr 1 0 0)->t.g 6=.c (.ptr 2 0 0)->t.g 7=.c (.ptr n 0 0)->2<n->
    H[1]?=aa (.box [.f .aJ,.f (fi 0),.f .aJ] 0)->H[2]?=aa (.box [.f (fi r.cap),.f (fi r.fg),.f (fi r.gN),.f r.o0,.f r.o1,.f r.o2,.f r.o3,.f r.o4,.f r.o5,.f r.o6,.f r.o7,.f r.o8,.f r.o9,.f (sl r.qg (gk r.q)),.f (sl r.pg (ints r.p))] 0)->
    H[n]?=aa (.box [u,.f (fi (s.st.len+r.fg+r.gN)),A] 0)->LR H u 2 (aU s.st.cs)->LR H A 3 (aF s.st.xs)->(∀i,bf u=aa i->bf A≠aa i)->
    WP tab ug ab [.code NY] ⟨t,[],H⟩ Q:=by
   intro t H u A n g3 g4 g6 L hn k1 S I v z hD;apply au;apply ai;have Y:=v.len;rw[zo]at Y;simp[L,I,Y];refine bS s.st.cs.length (λj t H=>t.g 3=.c (.ptr 0 0 0)/\t.g 4=.c (.ptr 1 0 0)/\t.g 6=.c (.ptr 2 0 0)/\t.g 7=.c (.ptr n 0 0)/\H[1]?=aa (.box [.f .aJ,.f (fi 0),.f .aJ] 0)/\H[2]?=aa (.box [.f (fi r.cap),.f (fi r.fg),.f (fi r.gN),.f r.o0,.f r.o1,.f r.o2,.f r.o3,.f r.o4,.f r.o5,.f r.o6,.f r.o7,.f r.o8,.f r.o9,.f (sl r.qg (gk r.q)),.f (sl r.pg (ints r.p))] 0)/\
     H[n]?=aa (.box [u,.f (fi (s.st.len+r.fg+r.gN)),A] 0)/\LR H u 2 ((s.st.cs.take j).map (cW.row ∘ rS r.fg)++(s.st.cs.drop j).map cW.row)/\LR H A 3 (aF s.st.xs)) ap ce ce bv bv
    ⟨by simp[g3],by simp[g4],by simp[g6],by simp[L],k1,S,I,by simpa[aU]using v,z⟩ ?_ ?_
   .rintro j t H O ⟨g3,g4,g6,L,k1,S,I,v,z⟩ ha hb nx;have F:cR 2 ((s.st.cs.take j).map (cW.row ∘ rS r.fg)++(s.st.cs.drop j).map cW.row):=by
     intro x hx;rcases agl.1 hx with hx|hx<;>obtain⟨y,-,rfl⟩:=agt.1 hx<;>rfl
    have m:((s.st.cs.take j).map (cW.row ∘ rS r.fg)++(s.st.cs.drop j).map cW.row).length=s.st.cs.length:=by simp;omega
    have E:=D2 cW.row (rS r.fg) s.st.cs j O;have Z:=ET cW.row (rS r.fg) s.st.cs j O;have r5:60<=s.st.cs[j].min/\s.st.cs[j].min<=1245:=by
     rcases e_ with e|⟨f,p,l,mi,e,_,_,_,_,_,_,m0,m1⟩
     .rw[e]at O;simp at O
     .have:s.st.cs[j]=⟨.fs,[⟨.fs,[cG f p l]⟩],mi⟩:=by
       have n9:j=0:=by rw[e]at O;simpa using O
       subst n9;simp[e]
      rw[this];exact⟨m0,m1⟩
    rcases v with⟨e,_⟩|⟨n_,b,ep,M,d⟩
    .have:=congrArg List.length e;rw[m,ahE]at this;omega
    rw[m]at M;have hi:=d.at (i:=j) (by rw[m];exact O);rw[m,<-M]at hi;have hl:=d.ldc F E (k:=1) (x:=fi s.st.cs[j].min) rfl;obtain⟨H',e',X,B,-⟩:=d.stp F E (k:=1) (xs:=[fi (s.st.cs[j].min-r.fg)]) bv;have c_:over s.st.cs[j].row 1 [fi (s.st.cs[j].min-r.fg)]=(rS r.fg s.st.cs[j]).row:=rfl;rw[c_,Z]at X;have b1:(1:Nat)≠b:=by rintro rfl;unfold RB at d;rw[k1]at d;cases d
    have b2:(2:Nat)≠b:=by rintro rfl;unfold RB at d;rw[S]at d;cases d
    have bn:n≠b:=by rintro rfl;unfold RB at d;rw[I]at d;cases d
    refine ay ?_;apply ai;simp[ha];refine aq (.inl rfl) ?_;simp only[agm,agp]at e';have ln:aV H ab (.c (.ptr n 0 0))=aa (.c u):=by simp[I]
    have l2:aV H ab (.c (.ptr 2 1 0))=aa (vi r.fg):=by simp[S]
    simp[g6,L,ln,l2,hi,hl,-ax,-bw,aZ (n:=s.st.cs[j].min-r.fg),e'];refine av (nx _ _ ⟨by simp[g3],by simp[g4],by simp[g6],by simp[L],?_,?_,?_,.inr ⟨?_,b,ep,?_,X⟩,?_⟩ (by simp[ha]) (by simp[hb]))
    .exact B.get k1 b1
    .exact B.get S b2
    .exact B.get I bn
    .intro e;have q:=congrArg List.length e;rw[aft,agq,agq,agO,agF,ahE]at q;omega
    .rw[M]
     congr 1
     simp;omega
    .exact z.bH λi y hy hi=>B.get hy (λe=>hD b (by rw[M];rfl) (by rw[<-e];exact hi))
   .rintro t H ⟨g3,g4,g6,L,k1,S,I,v,z⟩ ha hb;rw[agu,ahK,agp,agN]at v;apply au;apply ai;have Y:=z.len;rw[jx]at Y;simp[L,I,Y];refine bS s.st.xs.length (λj t H=>t.g 3=.c (.ptr 0 0 0)/\t.g 4=.c (.ptr 1 0 0)/\t.g 6=.c (.ptr 2 0 0)/\t.g 7=.c (.ptr n 0 0)/\H[1]?=aa (.box [.f .aJ,.f (fi 0),.f .aJ] 0)/\H[2]?=aa (.box [.f (fi r.cap),.f (fi r.fg),.f (fi r.gN),.f r.o0,.f r.o1,.f r.o2,.f r.o3,.f r.o4,.f r.o5,.f r.o6,.f r.o7,.f r.o8,.f r.o9,.f (sl r.qg (gk r.q)),.f (sl r.pg (ints r.p))] 0)/\
      H[n]?=aa (.box [u,.f (fi (s.st.len+r.fg+r.gN)),A] 0)/\LR H u 2 (s.st.cs.map (cW.row ∘ rS r.fg))/\LR H A 3 ((s.st.xs.take j).map (aC.row ∘ lM r.fg r.gN)++(s.st.xs.drop j).map aC.row)) ap ce ce bv bv
     ⟨by simp[g3],by simp[g4],by simp[g6],by simp[L],k1,S,I,v,by simpa[aF]using z⟩ ?_ ?_
    .rintro j t H O ⟨g3,g4,g6,L,k1,S,I,v,z⟩ ha hb nx;have F:cR 3 ((s.st.xs.take j).map (aC.row ∘ lM r.fg r.gN)++(s.st.xs.drop j).map aC.row):=by
      intro x hx;rcases agl.1 hx with hx|hx<;>obtain⟨y,-,rfl⟩:=agt.1 hx<;>rfl
     have m:((s.st.xs.take j).map (aC.row ∘ lM r.fg r.gN)++(s.st.xs.drop j).map aC.row).length=s.st.xs.length:=by
      rw[aft,agq,agq,agO,agF];omega
     have E:=D2 aC.row (lM r.fg r.gN) s.st.xs j O;have Z:=ET aC.row (lM r.fg r.gN) s.st.xs j O;obtain⟨x1,x2,x3,x4,x5⟩:=p9 s.st.xs[j] (IN O);have m9:=h_ s.st.xs[j].fr s.st.xs[j].to ap ap;rcases z with⟨e,_⟩|⟨n_,b,ep,N,d⟩
     .have:=congrArg List.length e;rw[m,ahE]at this;omega
     rw[m]at N;have hi:=d.at (i:=j) (by rw[m];exact O);rw[m,<-N]at hi;have hl:=d.ldp F E (k:=1) (n:=2) ap;obtain⟨H',e',X,B,-⟩:=d.stp F E (k:=1) (xs:=[fi (s.st.xs[j].fr-r.fg),fi (s.st.xs[j].to+r.gN)]) bv;have c_:over s.st.xs[j].row 1 [fi (s.st.xs[j].fr-r.fg),fi (s.st.xs[j].to+r.gN)]=(lM r.fg r.gN s.st.xs[j]).row:=rfl;rw[c_,Z]at X;have b1:(1:Nat)≠b:=by rintro rfl;unfold RB at d;rw[k1]at d;cases d
     have b2:(2:Nat)≠b:=by rintro rfl;unfold RB at d;rw[S]at d;cases d
     have bn:n≠b:=by rintro rfl;unfold RB at d;rw[I]at d;cases d
     refine ay ?_;apply ai;simp[ha];refine aq (.inl rfl) ?_;simp only[agm,agp]at e';simp only[aC.row,List.drop_succ_cons,ahi,List.take_succ_cons,List.take_zero,agm,agp]at hl;have ln:aV H ab (.c (.ptr n 2 0))=aa (.c A):=by simp[I]
     have l2:aV H (aa 15) (.c (.ptr 2 0 0))=aa (.a [.f (fi r.cap),.f (fi r.fg),.f (fi r.gN),.f r.o0,.f r.o1,.f r.o2,.f r.o3,.f r.o4,.f r.o5,.f r.o6,.f r.o7,.f r.o8,.f r.o9,.f (sl r.qg (gk r.q)),.f (sl r.pg (ints r.p))]):=by simp[S]
     simp[g6,L,ln,l2,hi,hl,m9,-ax,-bw,e'];refine av (nx _ _ ⟨by simp[g3],by simp[g4],by simp[g6],by simp[L],?_,?_,?_,?_,.inr ⟨?_,b,ep,?_,X⟩⟩ (by simp[ha]) (by simp[hb]))
     .exact B.get k1 b1
     .exact B.get S b2
     .exact B.get I bn
     .exact v.bH λi y hy hi=>B.get hy (λe=>hD i hi (by rw[e,N];rfl))
     .intro e;have q:=congrArg List.length e;rw[aft,agq,agq,agO,agF,ahE]at q;omega
     .rw[N]
      congr 1
      rw[aft,agq,agq,agO,agF];omega
    .rintro t H ⟨g3,g4,g6,L,k1,S,I,v,z⟩ ha hb;rw[agu,ahK,agp,agN]at z;have r1:s.st.cs.map (cW.row ∘ rS r.fg)=aU (s.st.cs.map (rS r.fg)):=by simp[aU]
     have r2:s.st.xs.map (aC.row ∘ lM r.fg r.gN)=aF (s.st.xs.map (lM r.fg r.gN)):=by simp[aF]
     rw[r1]at v;rw[r2]at z;have x1:=v.x;have x2:=z.x;obtain⟨g1,d9⟩:=x1.ex (eu _);obtain⟨g2,d_⟩:=x2.ex (bM _);have y1:LX (ef deep u H) u 2 (aU (s.st.cs.map (rS r.fg))):=x1.mk x1 63;have y2:LX (ef deep u H) A 3 (aF (s.st.xs.map (lM r.fg r.gN))):=x2.mk x1 63;have z1:LX (ef deep A (ef deep u H)) u 2 (aU (s.st.cs.map (rS r.fg))):=y1.mk y2 63;have z2:LX (ef deep A (ef deep u H)) A 3 (aF (s.st.xs.map (lM r.fg r.gN))):=y2.mk y2 63;have q_:(ef deep u H)[1]?=aa (.box [.f .aJ,.f (fi 0),.f .aJ] 0):=x1.Eg 63 k1;have b_:(ef deep A (ef deep u H))[1]?=aa (.box [.f .aJ,.f (fi 0),.f .aJ] 0):=y2.Eg 63 q_;have h1:fh deep H u=aa (sl g1 (aU (s.st.cs.map (rS r.fg)))):=d9 H 63 x1;have h2:fh deep H A=aa (sl g2 (aF (s.st.xs.map (lM r.fg r.gN)))):=d_ H 63 x2;have c9:Ta r.fg r.gN s.st ⟨g1,s.st.cs.map (rS r.fg),s.st.len+r.fg+r.gN,g2,s.st.xs.map (lM r.fg r.gN)⟩:=⟨rfl,rfl,rfl⟩
     have i8:=c9.ok f9 ⟨j5,j6⟩ ⟨i9,i_⟩;have a_:=vc _ (kP i8);rw[mw i8]at a_;simp only[aH.row,agm,agp]at a_;apply ai;simp[g4,L,I,h1,h2,a_,b_];generalize ef deep A (ef deep u H)=HM at z1 z2 b_ ⊢;have j7:=d9 (HM.set 1 (.box [u,.f (fi (s.st.len+r.fg+r.gN)),A] 0)) 63 (z1.set (z1.bR b_) _);have j8:=d_ (HM.set 1 (.box [u,.f (fi (s.st.len+r.fg+r.gN)),A] 0)) 63 (z2.set (z2.bR b_) _);have p_:(HM.set 1 (.box [u,.f (fi (s.st.len+r.fg+r.gN)),A] 0))[1]?=aa (.box [u,.f (fi (s.st.len+r.fg+r.gN)),A] 0):=BY (aj b_);refine az (hQ _ _ _ ⟨_,c9,rfl⟩ ?_);have hd:deep=63+1:=rfl;simp[g4,p_,aH.row,jh,dq,bu,hd,j7,j8]
  apply ai;simp[aG.row];apply ai;simp[i6,i7];have w1:=aZ (n:=s.st.len+r.fg);have w2:=aZ (n:=s.st.len+r.fg+r.gN);obtain⟨K,W⟩:=aI ([bO.box [.f (fi s.meet),.f (fi s.room),.f (fi s.eo),.f (fi s.size),.f (sl s.st.cg (aU s.st.cs)),.f (fi s.st.len),.f (sl s.st.xg (aF s.st.xs))] 0,bO.box [.f .aJ,.f (fi 0),.f .aJ] 0,bO.box [.f (fi r.cap),.f (fi r.fg),.f (fi r.gN),.f r.o0,.f r.o1,.f r.o2,.f r.o3,.f r.o4,.f r.o5,.f r.o6,.f r.o7,.f r.o8,.f r.o9,.f (sl r.qg (gk r.q)),.f (sl r.pg (ints r.p))] 0]);rw[<-W];have r9:K.length=3:=by rw[W];rfl
  have q0:∀J,(K++J)[0]?=aa (bO.box [.f (fi s.meet),.f (fi s.room),.f (fi s.eo),.f (fi s.size),.f (sl s.st.cg (aU s.st.cs)),.f (fi s.st.len),.f (sl s.st.xg (aF s.st.xs))] 0):=λJ=>by rw[W];rfl
  have q1:∀J,(K++J)[1]?=aa (bO.box [.f .aJ,.f (fi 0),.f .aJ] 0):=λJ=>by rw[W];rfl
  have q2:∀J,(K++J)[2]?=aa (bO.box [.f (fi r.cap),.f (fi r.fg),.f (fi r.gN),.f r.o0,.f r.o1,.f r.o2,.f r.o3,.f r.o4,.f r.o5,.f r.o6,.f r.o7,.f r.o8,.f r.o9,.f (sl r.qg (gk r.q)),.f (sl r.pg (ints r.p))] 0):=λJ=>by rw[W];rfl
  have p0:=q0 [];have p2:=q2 [];rw[agN]at p0 p2;obtain⟨u,M⟩:=aI ((fc K).1);obtain⟨J1,j_⟩:=aI ((fc K).2);have e1:=ec K;have m1:=(f_ K).2;rw[<-M,<-j_]at e1 m1;obtain⟨A,N⟩:=aI ((fx (K++J1)).1);obtain⟨J2,k_⟩:=aI ((fx (K++J1)).2);have e2:=ex (K++J1);have m2:=(g_ (K++J1)).2;rw[<-N,<-k_,agM]at e2 m2;refine au (eF (.inl rfl) ?_ ?_)
  case _=>
   simp[p0,p2,q0,q2,e1,e2,w1,w2];refine j9 _ _ u A _ bv bv bv (by simp;rfl) ap ?_ ?_ ?_ ?_ ?_ ?_
   .exact q1 _
   .exact q2 _
   .rw[<-agM,<-agM,agj bv];have:K.length+(J1.length+J2.length)-(K++J1++J2).length=0:=by simp
    rw[this];rfl
   .have:=(m1.1.push J2).push [bO.box [u,C.f (FC.int IntKind.i64 (s.st.len+r.fg+r.gN)),A] 0];simpa[agM]using this
   .have:=m2.1.push [bO.box [u,C.f (FC.int IntKind.i64 (s.st.len+r.fg+r.gN)),A] 0];simpa[agM]using this
   .intro i m_ n8;have a1:=m1.1.lt m_;have a2:=m2.2 i n8;omega
  .intro c hc;simp only[agA,ahG,or_false]at hc;rcases hc with rfl|rfl|rfl|rfl|rfl|rfl|rfl
   iterate 6
    .refine⟨ce,_,rfl,.inl ⟨ce,?_⟩⟩;simp[p0,p2,q0,q2,e1,e2,gj,acf]
   .refine⟨ce,_,rfl,.inr ⟨ce,?_⟩⟩;simp[p0,p2,q0,q2,e1,e2,gj,Ao]
 exact⟨o,ho,bg.eq hp⟩
structure gi where(lo hi:Int)(cl:Option Nat)
structure gi.OK(o:gi):Prop where
 h0:0<=o.lo
 h1:o.lo<o.hi
 h2:o.hi<=1440
 hc:∀c,o.cl=aa c->c<20
def gi.row(o:gi):List FC:=mX o.lo o.hi (wB o.cl)
theorem zr{r:a8}(h:Good r):∃o:gi,o.OK/\r.op=o.row.map .f:=by
 obtain⟨a,b,c,cap,g,d,x,q,rfl,m,s,u,-⟩:=h;have e:∃cl:Option Nat,(∀c,cl=aa c->c<20)/\oq c=wB cl:=by
  match c,u with
  |0,_|1,_|2,_|3,_|4,_|5,_|6,_|7,_|8,_|9,_|10,_|11,_|12,_|13,_|14,_|15,_|16,_|17,_|18,_|19,_|20,_=>first|exact⟨ab,bv,rfl⟩|exact⟨aa _,bv,rfl⟩
  |n+21,h=>exact absurd h ap
 obtain⟨cl,j,l⟩:=e;refine⟨⟨60*a,1440-60*b,cl⟩,⟨by show 0<=60*(a:Int);omega,by show 60*(a:Int)<1440-60*b;omega,by show 1440-60*(b:Int)<=1440;omega,j⟩,?_⟩;have v:rL a b=rM (60*a) (1440-60*b):=by
  match a,m,b,s with
  |0,_,0,_|0,_,1,_|0,_,2,_|1,_,0,_|1,_,1,_|1,_,2,_|2,_,0,_|2,_,1,_|2,_,2,_=>rfl| n+3,h,_,_=>exact absurd h ap
  |_,_,n+3,h=>exact absurd h ap
 simp[a8.op,te,gi.row,mX,l,v]
def fW(b d:FC)(x:aG):FC:=.fp ([b,d]++x.row) 0
theorem sM(g:Tg){l:List a8}{h:Bool}(v:js l h)(y:FC)(x:aG)(q:0<=x.room)(z:x.room<=2){d:a8}(u:l[x.room.toNat]?=aa d):bg tab Xj [.c (.f (fW (sl g (rows l)) y x))]=Eq (.a (d.row.map .f)):=bg.eq (by
 have A:=gI v;refine bK rfl rfl λQ s=>?_;have b:=λH:an=>bz (H:=H) (g:=g) (rows:=rows l) (sz:=15) (k:=.i64) (i:=x.room) q ge;have m:=λH:an=>cf (H:=H) (fv l) (j:=x.room.toNat) (row:=d.row) (by rw[rows,List.getElem?_map,u];rfl);apply ai;simp;apply ai;simp[fW,kD,aW,aG.row,b,m,a8.row];refine az (s _ _ ?_);simp[jh,dq,deep,bu,a8.row])
theorem QS(g:Tg){l:List a8}{h:Bool}(X:js l h)(v:FC)(x:aG)(I:0<=x.room)(J:x.room<=2){d:a8}(O:l[x.room.toNat]?=aa d){o:gi}(B:o.OK)(U:d.op=o.row.map .f)(W:cZ x.st) :
  ∃(b:Bool) (y:aC),(b=ae↔∀z,sC x.st z->eC o.lo o.hi o.cl z.fr z.to=ae)/\(b=ag->sC x.st y/\eC o.lo o.hi o.cl y.fr y.to=ag/\y.fr<=2000000)/\∀H:an,∃H':an,Kp H H'/\
   Ev tab (.fn BL) [.c (.f (fW (sl g (rows l)) v x))] H (.t [.a (if b then [.f (fi 0),.f (fi 0),.f (fi 0),.f (fi 0),.f (fi 0),.f (fi 0),.f (fi 0),.f (fi 0)]else [.f (fi 16),.f (fi 0),.f (fi y.day),.f (fi y.fr),.f (fi y.to),.f (fi 0),.f (fi 0),.f (fi 0)]),vi 0]) H':=by
 obtain⟨b,y,N,q,A⟩:=QR B.h0 B.h1 B.h2 o.cl B.hc x.st W;have j:=sM g X v x I J O;have s:d.row.map C.f=.f (fi d.cap)::.f (fi d.fg)::.f (fi d.gN) ::(o.row.map .f++[.f (sl d.qg (gk d.q)),.f (sl d.pg (ints d.p))]):=by
  rw[<-U];rfl
 rw[s]at j;have m:pH 3 (aa 10) (.a (.f (fi d.cap)::.f (fi d.fg)::.f (fi d.gN) ::(o.row.map .f++[.f (sl d.qg (gk d.q)),.f (sl d.pg (ints d.p))])))=aa (.a (o.row.map .f)):=rfl;change bg tab De [.a (o.row.map .f),.a (x.st.row.map .f)]=_ at A;have u:∀K:an,aV K (aa 3) (.c (.f (.fp ([sl g (rows l),v]++x.row) 6)))=aa (.a (x.st.row.map .f)):=λK=>rfl;refine⟨b,y,N,q,λH=>?_⟩;obtain⟨r,H',S,rfl,L⟩:∃r H',Ev tab (.fn BL) [.c (.f (fW (sl g (rows l)) v x))] H r H'/\(r=(.t [.a (if b then [.f (fi 0),.f (fi 0),.f (fi 0),.f (fi 0),.f (fi 0),.f (fi 0),.f (fi 0),.f (fi 0)]else [.f (fi 16),.f (fi 0),.f (fi y.day),.f (fi y.fr),.f (fi y.to),.f (fi 0),.f (fi 0),.f (fi 0)]),vi 0])/\Kp H H'):=by
  refine de rfl rfl λQ M=>?_;obtain⟨Y,E⟩:=aI ([sl g (rows l),v]++x.row);simp only[fW]at j ⊢;rw[<-E]at j u ⊢;obtain⟨Z,F⟩:=aI (o.row);rw[<-F]at j m A;simp only[aC.row,agm,agp]at A;cases b
  all_goals repeat' first
   |(apply au)
   |(refine ay ?_)
   |(refine aR ?_)
   |(refine bJ rfl ?_)
   |(refine aw ?_ ?_;focus (simp;done))
   |(refine aD ?_ ?_;focus (simp;done))
   |(refine aq (.inl rfl) ?_;simp[j,m,u,A])
  all_goals
   refine az (M _ _ _ rfl ?_ ⟨rfl,Kp.push _ _⟩);simp[Km.results,cC,bu,aW]
 exact⟨H',L,S⟩
def noR:List C:=[.f (fi 0),.f (fi 0),.f (fi 0),.f (fi 0),.f (fi 0),.f (fi 0),.f (fi 0),.f (fi 0)]
theorem DB(g:Tg){j:List a8}{h:Bool}(A:js j h)(l:FC)(x:aG)(q:0<=x.room)(s:x.room<=2){d:a8}(y:j[x.room.toNat]?=aa d)(H:an) :
  ∃H':an,Kp H H'/\Ev tab (.fn BK) [.c (.f (fW (sl g (rows j)) l x))] H (.t [.a (if d.cap<x.size then [.f (fi 14),.f (fi 0),.f (fi 0),.f (fi 0),.f (fi 0),.f (fi 0),.f (fi 0),.f (fi 0)]else noR),vi 0]) H':=by
 have b:=sM g A l x q s y;simp only[a8.row,agm,agp,fW,aG.row,List.cons_append,List.nil_append]at b;obtain⟨r,H',z,rfl,u⟩:∃r H',Ev tab (.fn BK) [.c (.f (fW (sl g (rows j)) l x))] H r H'/\(r=(.t [.a (if d.cap<x.size then [.f (fi 14),.f (fi 0),.f (fi 0),.f (fi 0),.f (fi 0),.f (fi 0),.f (fi 0),.f (fi 0)]else noR),vi 0])/\Kp H H'):=by
  refine de rfl rfl λQ v=>?_;by_cases m:d.cap<x.size
  all_goals repeat' first
   |(apply au)
   |(refine ay ?_)
   |(refine aR ?_)
   |(refine bJ rfl ?_)
   |(refine aw ?_ ?_;focus (simp;done))
   |(refine aD ?_ ?_;focus (simp;done))
   |(refine aq (.inl rfl) ?_;simp[fW,aG.row,b,m,pH,ig])
  all_goals
   refine az (v _ _ _ rfl ?_ ⟨rfl,Kp.push _ _⟩);simp[Km.results,cC,bu,aW,m,noR]
 exact⟨H',u,z⟩
def D6(x y:aG):Bool:=decide (x.meet=y.meet/\x.room=y.room)
def pK(x y:aG):Prop:=x.meet<y.meet\/x.meet=y.meet/\x.room<y.room
theorem Yv(g:Tg)(ss:List aG)(x:aG)(hl:ss.length<=1000)(hs:ss.Pairwise pK) :
  ∃(i:Nat) (w:Bool),(w=ae↔∃y∈ss,D6 y x=ae)/\bg tab FE [.c (.f (sl g (aS ss))),.a (x.row.map .f),.c (.f (.fn rA []))]=Eq (.t [vi i,vb w]):=by
 obtain⟨rows,d⟩:=aI (aS ss);obtain⟨s,L⟩:∃s:List FC->Int,∀y:aG,s y.row=qY y x:=⟨λr=>match r with| .int _ a::.int _ b::_=>zz [eE a x.meet,eE b x.room]|_=>0,λy=>by simp[aG.row,qY]⟩
 have d9:rows.length=ss.length:=by rw[d];simp[aS]
 have W:∀r∈rows,∃y∈ss,r=y.row:=λr hr=>by
  rw[d]at hr;obtain⟨y,hy,rfl⟩:=agt.1 hr;exact⟨y,hy,rfl⟩
 have hg:cR 7 rows:=by rw[d];exact bW ss
 have Y:∀y:aG,(qY y x<0↔pK y x)/\(0<qY y x↔pK x y):=λy=>by
  unfold qY pK;simp only[zz,eE];refine⟨?_,?_⟩
  .repeat' split
   all_goals omega
  .repeat' split
   all_goals omega
 have B:∀(i:Nat) (h:i<rows.length),rows[i]=(ss[i]'(by omega)).row:=λi h=>by
  subst d;simp[aS]
 have hp:∀(i j:Nat) (hi:i<j) (v:j<rows.length),0<=s rows[i]->0<s rows[j]:=λi j hi v h=>by
  rw[B,L]at h ⊢;rw[(Y _).2];have h1:¬ pK (ss[i]'(by omega)) x:=λh'=>by have:=(Y _).1.2 h';omega
  have h2:pK (ss[i]'(by omega)) (ss[j]'(by omega)):=List.pairwise_iff_getElem.1 hs i j ap ap hi;unfold pK at *;omega
 have z:∀y:aG,s y.row=0↔D6 y x=ae:=λy=>by
  rw[L];unfold qY;simp only[zz,eE,D6]
  repeat' split
  all_goals simp
  all_goals omega
 obtain⟨i,h1,h2,O,w,h4,h⟩:∃i:Nat,i<=rows.length/\(∀j (v:j<rows.length),j<i->s rows[j]<0)/\(∀j (v:j<rows.length),i<=j->0<=s rows[j])/\
   ∃w:Bool,(w=ae↔∃h:i<rows.length,s rows[i]=0)/\bg tab FE [.c (.f (sl g rows)),.a (x.row.map .f),.c (.f (.fn rA []))]=Eq (.t [vi i,vb w]):=by
  obtain⟨r,⟨i,h1,h2,O,w,h4,rfl⟩,h⟩:∃r,(∃i:Nat,i<=rows.length/\(∀j (v:j<rows.length),j<i->s rows[j]<0)/\(∀j (v:j<rows.length),i<=j->0<=s rows[j])/\∃w:Bool,(w=ae↔∃h:i<rows.length,s rows[i]=0)/\r=.t [vi i,vb w])/\
    bg tab FE [.c (.f (sl g rows)),.a (x.row.map .f),.c (.f (.fn rA []))] r:=by
   refine dx rfl rfl λQ hQ=>?_;have ask:∀(q:Nat) (hq:q<rows.length) (H:an),∃J,bG H 7 ab (.c (.f (sl g rows))) (vi q)=aa (.c (.f (.fp rows.flatten (q*7))))/\aV H (aa 7) (.c (.f (.fp rows.flatten (q*7))))=aa (.a (rows[q].map .f))/\Ev tab (.fn rA) [.a (rows[q].map .f),.a (x.row.map .f)] H=E2 (vi (s rows[q])) (H++J):=by
    intro q hq H;obtain⟨y,hy,e⟩:=W rows[q] (IN hq);obtain⟨J,c3⟩:=It y x H;have hi:=bz (H:=H) (g:=g) (rows:=rows) (sz:=7) (k:=.i64) (i:=(q:Int)) ap ap;rw[agD]at hi;refine⟨J,hi,cf hg (By hq),?_⟩;rw[e,L];exact c3.eq
   apply ai;simp[aG.row];apply ai;simp;apply ai;simp;apply au;refine ay ?_;refine dc (λm s'=>∃(lo hi:Nat) (t:T) (H:an),s'=⟨t,[],H⟩/\m=hi-lo/\lo<=hi/\hi<=rows.length/\t.g 0=.c (.f (sl g rows))/\t.g 4=.c (.ptr 0 0 0)/\H[0]?=aa (.box (x.row.map .f) 0)/\t.g 2=.c (.f (.fn rA []))/\t.g 8=vi rows.length/\t.g 9=vi lo/\t.g 10=vi hi/\
    (∀j (v:j<rows.length),j<lo->s rows[j]<0)/\(∀j (v:j<rows.length),hi<=j->0<=s rows[j])) rows.length
    ⟨0,rows.length,_,_,rfl,ap,ap,ap,bv,bv,rfl,bv,bv,bv,bv,bv,by intros;omega⟩ ?_
   rintro m s' ⟨lo,hi,t,H,rfl,rfl,c_,S,Z,g4,M,g2,g8,N,A,I,E⟩ next
   have lx:∀K:an,K[0]?=H[0]?->aV K (aa 7) (.c (.ptr 0 0 0))=aa (.a (x.row.map .f)):=λK hK=>by simp[aV,aA,hK.trans M,aW,aG.row]
   apply au;apply ai;simp[N,A];by_cases b_:lo<hi
   .refine aw (by simp[b_]) (aR ?_);obtain⟨q,hq⟩:=aI ((lo+hi) / 2);have U:q<rows.length:=by omega
    have e1:cT BinOp.shr (V.c (C.f (FC.int IntKind.u64 (IntKind.u64.wrap ((lo:Int)+hi))))) (V.c (C.f (FC.int IntKind.u64 1)))=aa (.c (.f (.int .u64 (q:Int)))):=by
     have:IntKind.u64.wrap ((lo:Int)+hi)=(lo:Int)+hi:=by
      show((lo:Int)+hi) % 18446744073709551616=_;omega
     rw[this];show aa (V.c (C.f (FC.int IntKind.u64 (Int.fdiv ((lo:Int)+hi) (2 ^ (min (1:Int).toNat IntKind.u64.bits))))))=_;have O:Int.fdiv ((lo:Int)+hi) (2 ^ (min (1:Int).toNat IntKind.u64.bits))=q:=by
      show Int.fdiv ((lo:Int)+hi) 2=q;rw[Int.fdiv_eq_ediv_of_nonneg _ ap];omega
     rw[O]
    have hw:=aZ (n:=(lo:Int)+hi);have c9:IntKind.i64.wrap (q:Int)=q:=aZ;obtain⟨J,i1,l1,he⟩:=ask q U H;refine ay ?_;apply ai;simp[N,A,hw,e1,c9];apply ai;have X:(H++J)[0]?=aa (.box (x.row.map .f) 0):=by rw[AI (aj M)];exact M
    simp[Z,g4,g2,i1,l1,lx H rfl,cr,he,-ax];by_cases hc:s rows[q]<0
    .refine aw (by simp[hc]) ?_;refine aq (.inl rfl) ?_;simp[aZ (n:=(q:Int)+1)];refine av (next (hi-(q+1)) _ ap ⟨q+1,hi,_,_,rfl,rfl,ap,ap,by simp[Z],by simp[g4],X,by simp[g2],by simp[g8],bv,by simp[A],λj v h=>?_,E⟩);rcases Int.lt_or_le (s rows[j]) 0 with l|l
     .exact l
     .by_cases e:j=q
      .subst e;exact hc
      .have:=hp j q ap U l;omega
    .refine aD (by simp[hc]) ?_;refine aq (.inl rfl) ?_;simp;refine av (next (q-lo) _ ap ⟨lo,q,_,_,rfl,rfl,ap,ap,by simp[Z],by simp[g4],X,by simp[g2],by simp[g8],by simp[N],bv,I,λj v h=>?_⟩);by_cases e:j=q
     .subst e;omega
     .have:=hp q j ap v ap;omega
   .have:lo=hi:=by omega
    subst this;refine aD bv ?_;refine bJ rfl ?_;apply ai;by_cases u:lo<rows.length
    .obtain⟨J,i1,l1,he⟩:=ask lo u H;simp[Z,g4,g2,g8,N,u,i1,l1,lx H rfl,cr,he,-ax];refine az (hQ _ _ _ ⟨lo,S,I,E,decide (s rows[lo]=0),by simp[u],rfl⟩ ?_);simp
    .simp[g8,N,u];refine az (hQ _ _ _ ⟨lo,S,I,E,ag,by simp[u],rfl⟩ ?_);simp
  exact⟨i,h1,h2,O,w,h4,h.eq⟩
 subst d;refine⟨i,w,?_,h⟩;rw[h4];constructor
 .rintro⟨hi,e⟩;rw[B i hi,z]at e;exact⟨_,IN _,e⟩
 .rintro⟨y,hy,e⟩;obtain⟨j,v,rfl⟩:=List.getElem_of_mem hy;have F:j<(aS ss).length:=by omega
  have e0:s (aS ss)[j]=0:=by rw[B j F,z];exact e
  have a_:i<=j:=by
   rcases Nat.lt_or_ge j i with l|l
   .have:=h2 j F l;omega
   .exact l
  have hi:i<(aS ss).length:=by omega
  refine⟨hi,?_⟩;rcases Nat.lt_or_eq_of_le a_ with l|l
  .have:=O i hi (agn _);have:=hp i j l F this;omega
  .subst l;exact e0
def rZ(ss:List aG)(x:aG):Bool:=ss.any λy=>D6 y x
theorem E3{ss:List aG}(h:jr ss):ss.Pairwise pK:=aif (λh=>jQ.1 h) h
theorem Tm(g g':Tg){j:List a8}{h:Bool}(u:js j h)(ss:List aG)(F:ss.length<=5)(v:jr ss)(B:∀s∈ss,s.jo)(x:aG)(J:x.jo) :
  bg tab Xh [.c (.f (sl g (rows j))),.c (.f (sl g' (aS ss))),.a (x.row.map .f)]=Eq (.t [.c (.f (fW (sl g (rows j)) (sl g' (aS ss)) x)),vb (!rZ ss x)]):=by
 obtain⟨i,w,I,l⟩:=Yv g' ss x ap (E3 v);have A:w=rZ ss x:=by rw[Bool.eq_iff_iff,I,rZ,List.any_eq_true]
 rw[<-A];have m:bg tab Fy [.c (.f (sl g (rows j))),.c (.f (sl g' (aS ss)))]=Eq (vb ae):=by
  have h:=(IY g g' j ss (by have:=gI u;omega) (Bs u) ap λs v=>kP (B s v).2.2.2.2.2.2.2.2.two).eq;rwa[Bp u F v B]at h
 have q:bg tab FB [.c (.f (sl g (rows j))),.a (x.row.map .f)]=Eq (vb ae):=by
  obtain⟨a1,K,a3,a4,a5,L,M,N,a9⟩:=J;have h:=(E4 g j x (by have:=gI u;omega) (kP a9.two)).eq;have e:jC j.length x=ae:=by
   simp only[jC,gI u,mw a9.two];rw[eS ap ap,eS ap ap,eS ap ap];simp[a1]
  rwa[e]at h
 obtain⟨S,z⟩:=aI (sl g' (aS ss));obtain⟨O,y⟩:=aI (sl g (rows j));rw[<-z]at m l ⊢;rw[<-y]at m q ⊢;obtain⟨a,b,c,d,e,f,k,H⟩:∃a b c d e f k,x.row=[a,b,c,d,e,f,k]:=⟨_,_,_,_,_,_,_,rfl⟩
 simp only[fW,H,agm,agp]at q l ⊢;refine bg.eq (bK rfl rfl λQ E=>?_)
 repeat' first
  |(refine az (E _ _ ?_))
  |(apply au)
  |(refine ay ?_)
  |(refine aR ?_)
  |(refine bJ rfl ?_)
  |(refine aw ?_ ?_;focus (simp;done))
  |(refine aD ?_ ?_;focus (simp;done))
  |(refine aq (.inl rfl) ?_;simp[m,q,l,deep,ig])
 simp[Km.px,Km.results,cC,bu,aW,deep,jh,dq]
theorem rJ{b:Type}{l:List b}{j:Nat}(d:j<l.length)(p:b->Bool):(l.take (j+1)).filter p=(l.take j).filter p++(if p l[j]then [l[j]]else []):=by
 rw[agv,By d,ah3];simp[List.filter_cons]
theorem EU{b:Nat}{H:an}{PP:List aG->an->Prop}{RR:List aG->aG->an->Prop}(rm:FC)(g':Tg)(ss:List aG)(hl:ss.length<=1000)(k:Int)(l:aG->Bool)
  (b_:∀s∈ss,bg tab BM [.c (.f rm),vi s.room,vi k]=Eq (vb (l s)))
  (h0:PP [] H) (hp:∀d H J,PP d H->PP d (H++J))
  (hy:∀(d:List aG) (s:aG) (H:an),PP d H->s∈ss->∃(r:Bool) (H':an),Ev tab (.yield b) [.a (s.row.map .f)] H (vb r) H'/\(if r then PP (d++[s]) H' else RR d s H')) :
  ∃H',Ev tab (.fn uh) [.c (.yl b),.c (.f (.fp [sl g' (aS ss)] 0)),.c (.f (.fp [rm] 0)),.c (.f (.fp [fi k] 0))] H (.t []) H'/\(PP (ss.filter l) H'\/∃d s rest,ss.filter l=d++s::rest/\RR d s H'):=by
 obtain⟨r,H',K,rfl,h⟩:∃r H',Ev tab (.fn uh) [.c (.yl b),.c (.f (.fp [sl g' (aS ss)] 0)),.c (.f (.fp [rm] 0)),.c (.f (.fp [fi k] 0))] H r H'/\(r=.t []/\(PP (ss.filter l) H'\/∃d s rest,ss.filter l=d++s::rest/\RR d s H')):=by
  refine de rfl rfl λQ hQ=>?_;apply ai;simp[kD];refine bS ss.length (λj t H'=>t.g 0=.c (.yl b)/\t.g 1=.c (.f (.fp [sl g' (aS ss)] 0))/\t.g 2=.c (.f (.fp [rm] 0))/\t.g 3=.c (.f (.fp [fi k] 0))/\t.g 7=.c (.f (sl g' (aS ss)))/\PP ((ss.take j).filter l) H') ap ce ce bv bv
   ⟨bv,bv,bv,bv,bv,by simpa using h0⟩ ?_ ?_
  .rintro j t H' S ⟨X,g1,L,M,Y,y⟩ Z hb next
   have q:=λH:an=>cf (H:=H) (bW ss) (dI S);have z:=λH:an=>bz (H:=H) (g:=g') (rows:=aS ss) (sz:=7) (k:=.i64) (i:=(j:Int)) ap ge;simp only[agD]at z;have v:=b_ ss[j] (IN S);have I:=rJ S l;have A:=IN S;have m:ss.filter l=(ss.take j).filter l++((ss[j]::ss.drop (j+1)).filter l):=by
    rw[<-ah3,<-ags S,List.take_append_drop]
   obtain⟨s,c9⟩:=aI (ss[j]);rw[<-c9]at q v I A m;obtain⟨row,u⟩:=aI (s.row.map C.f);have F:row.length=7:=by rw[u];rfl
   have a_:∃x,row[1]?=aa x/\x=.f (fi s.room):=⟨_,by rw[u];rfl,rfl⟩
   rw[<-u]at q;obtain⟨b6,O⟩:=aI (H'.length);obtain⟨W,B⟩:=aI (H'++[bO.box row 0]);have E:=hp _ _ [bO.box row 0] y;rw[<-B]at E;have k1:W[b6]?=aa (.box row 0):=by rw[B,O];simp
   have l7:aV W (aa 7) (.c (.ptr b6 0 0))=aa (.a row):=by simp[aV,aA,k1,aW,F,agw (Nat.le_of_eq F)]
   have l1:aV W ab (.c (.ptr b6 1 0))=aa (vi s.room):=by
    obtain⟨x,hx,rfl⟩:=a_;rw[u]at k1;simp[aV,aA,k1,aG.row,aW]
   refine ay ?_;apply ai;simp[Y,Z,z,q,F,-ax];rw[<-B,<-O];apply au;cases U:l s
   .rw[U]at v;refine aq (.inl rfl) ?_;simp[L,M,kD,l1,v,-ax];refine aD bv (aR (av (next _ _ ⟨by simp[X],by simp[g1],by simp[L],by simp[M],by simp[Y],?_⟩ (by simp[Z]) (by simp[hb]))));rw[I];simpa[U]using E
   .rw[U]at v;obtain⟨r,H2,K,N⟩:=hy _ s W E A;have K:=K.eq;rw[<-u]at K;refine aq (.inl rfl) ?_;simp[X,L,M,kD,l1,l7,v,K,-ax];cases r with
    |true=>
     refine aD bv (aR (av (next _ _ ⟨by simp[X],by simp[g1],by simp[L],by simp[M],by simp[Y],?_⟩ (by simp[Z]) (by simp[hb]))));rw[I];simpa[U]using N
    |false=>
     refine aw bv (az (hQ _ _ (.t []) rfl rfl ⟨rfl,.inr ⟨_,s,(ss.drop (j+1)).filter l,?_,by simpa using N⟩⟩));rw[m,List.filter_cons,U];rfl
  .rintro t H' ⟨X,g1,L,M,Y,y⟩ Z hb;rw[agu]at y;exact cX (hQ _ _ (.t []) rfl rfl ⟨rfl,.inl y⟩)
 exact⟨H',K,h⟩
def ri(n:Int):Int:=IntKind.i64.wrap n
theorem Bi(d:a8)(x:aC):bg tab Xn [.a (d.row.map .f),.a (x.row.map .f)]=Eq (.a [.f (fi x.day),.f (fi (ri (x.fr+d.fg))),.f (fi (ri (x.to-d.gN)))]):=by
 simp only[a8.row,aC.row,agm,agp];refine bg.eq (bK rfl rfl λQ b=>?_)
 repeat' first
  |(refine az (b _ _ ?_))
  |(apply au)
  |(refine ay ?_)
  |(refine aR ?_)
  |(refine aq (.inl rfl) ?_;simp)
 simp[Km.px,Km.results,cC,bu,aW,deep,jh,dq,ri]
end Go.Proofs.YtelifakcllijpaaGreat
