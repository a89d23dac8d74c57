/-
  Our own small machine for Go code by value, held TF the model: part 2. No program in adw.
-/
import Derived.Test.YtelifakcllijpaaGreatK1
import Derived.Orders
import Derived.ChangeArms
import Derived.DataReads
import Derived.Deep.Slices
import Derived.ProofKit
import Derived.RowKit3
import Derived.Below
import Derived.Carry
import Derived.Laws.IdiomArrays
open Option renaming some->aa,none->ab
open Bool renaming true->ae,false->ag
open List renaming getElem?_eq_some_iff->aft, all_eq_true->ag9, mem_filter->ahB, mem_range->ai0, mem_of_getElem?->ahg, getElem?_eq_getElem->BY, getElem_mem->IN, eq_nil_of_length_eq_zero->ag3, getElem?_append_right->agL, map_cons->IT, length_cons->ahk, foldl_cons->aiI, mem_cons_of_mem->agU, flatten_cons->ag6, length_append->agM, mem_cons_self->agR, drop_append->ajm, take_succ_cons->ai6, take_append->ajx, drop_drop->aiG, drop_eq_getElem_cons->agT, length_map->agS, length_drop->ag5, map_append->ahQ, take_append_of_le_length->ahK, map_take->aiV, isEmpty_cons->aji, cons_append->ahO, getElem?_append_left->AI, flatten_append->aif, drop_zero->ahR, take_of_length_le->agY, set_cons_succ->aiS, length_nil->ah7, getElem?_set_self->By, drop_of_length_le->aiW, take_append_drop->ahU, length_take->ahl, take_take->aiN, map_nil->agN, append_nil->ahe, mem_map->agX, mem_append_left->ahu, mem_append_right->ail, map_map->air, getElem?_set_ne->sh, append_assoc->ahm, map_drop->ait, getElem?_drop->ahP, mem_of_mem_drop->ahM, length_eq_zero_iff->ahZ, mem_of_mem_take->ah1, take_length->agW, drop_append_of_le_length->aim
open Nat renaming lt_trichotomy->aiz, lt_or_ge->ahS, le_refl->agQ, zero_le->aih, le_max_left->ahD, le_max_right->ahv, add_mul->ahi, one_mul->ajl, mul_le_mul_right->ahA, min_eq_left->aik, mul_comm->ai1, zero_add->ahI
open Option renaming map_some->ahs, bind_some->ahz, map_eq_some_iff->OF, bind_eq_some_iff->ahh
open Option.some renaming injEq->AT
open Bool renaming and_eq_true->IS, false_eq_true->ahb, not_eq_true'->aii
open Prod.mk renaming injEq->agO
open Int renaming toNat_natCast->ag7
set_option linter.all false
set_option maxRecDepth 100000
namespace Km
open Go Km
variable{d m I A:Nat}{h:an}{p:aD}{q:List (List FC)}{J:T}{u:C}{B:V}{M:Bool}{N:List FC}{O:St}{S:List C}{U:FC}{Y:Frame}
section
open Go
variable{Q:Program}{σ:Nat->FuncId}{X:Wd}{call:eC}
variable{n:Nat}{ops:Array Oper}{aos:List bh}{jU:List (Nat × Nat)}{st:Nat->St}
variable{X0:Wd}{D:Nat->Prop}{E9 i:Nat}{a:Act}{o:Oper}{y:bh}
def uc{x y:bh}(h:cls x.op=.w)(d:cls y.op≠.p)(b:cls y.op≠.r):yD x y=ag:=by
 unfold yD;rw[h];cases g:cls y.op<;>simp_all
def yE{x y:bh}(h:cls y.op=.w)(d:cls x.op≠.p)(b:cls x.op≠.r):yD x y=ag:=by
 unfold yD;rw[h];cases g:cls x.op<;>simp_all
def nr.zq(R:nr Q σ call n ops aos jU st){z:bh}(b:aos[d]?=aa z)(hc:cls z.op≠.a):d≠eJ ops aos:=by
 rintro rfl;exact hc (R.QX b)
def nr.aae(R:nr Q σ call n ops aos jU st)(d:Inv Q σ X0 n ops aos st D E9 X a)(b:nq ops aos D i o y)(hc:cls y.op=.w):i=E9:=by
 have hi:i<aos.length:=(aft.1 b.hy).1;rcases aiz i E9 with h|h|h
 .exact absurd (d.wD i ⟨y,b.hy,hc⟩ h) b.hD
 .exact h
 .rcases d.eW with h1|⟨z,j,g⟩
  .omega
  .exact absurd (b.sZ d (R.before h j b.hy (.inr ⟨uc g (by simp[hc]) (by simp[hc]),λe=>absurd e (R.zq b.hy (by simp[hc]))⟩))) d.eD
def nr.Qj(R:nr Q σ call n ops aos jU st)(g:Inv Q σ X0 n ops aos st D E9 X a)(d:nq ops aos D i o y)(h1:cls y.op≠.p)(h2:cls y.op≠.r)(h3:cls y.op≠.w)(u:i=eJ ops aos->i<E9):i<E9/\∀j,i<=j->j<E9->¬ JP aos j:=by
 have hi:i<aos.length:=(aft.1 d.hy).1;refine⟨?_,λj v q s=>?_⟩
 .rcases aiz i E9 with h|h|h
  .exact h
  .rcases g.eW with h4|⟨z,l,b⟩
   .omega
   .rw[<-h,d.hy]at l;cases l;exact absurd b h3
  .rcases g.eW with h4|⟨z,l,b⟩
   .omega
   .exact absurd (d.sZ g (R.before h l d.hy (.inr ⟨uc b h1 h2,λe=>by have:=u e;omega⟩))) g.eD
 .have m:=g.wD j s q;obtain⟨z,l,b⟩:=s;rcases ahS i j with h|h
  .exact d.uP g (R.before h d.hy l (.inr ⟨yE b h1 h2,λ_=>h3⟩)) m
  .have:j=i:=ii
   subst this;exact d.hD m
def nr.afH(R:nr Q σ call n ops aos jU st)(d:Inv Q σ X0 n ops aos st D E9 X a)(s:nq ops aos D i o y)(hc:cls y.op=.r)(L:wanted (st i).aT y.g=aa ae)(F:cA (st i).aT (st i).heap y.op=aa (B,h)) :
  h=(st i).heap/\cA (st i).aT X.H y.op=aa (B,X.H):=by
 have hi:i<aos.length:=(aft.1 s.hy).1;refine⟨(Ks hc (eu.refl _) F).1,?_⟩;have q:EZ (eT ops.toList []) aos i E9=ae:=by
  unfold EZ;rw[ag9];intro j K;have l:=qF.1 K;split
  .rename_i m;have b:=d.wD j l m;cases x:DF (eT ops.toList []) i j with
   |false=>rfl| true=>exact absurd b (s.uP d x)
  .rename_i m;cases x:DF (eT ops.toList []) j i with
   |false=>rfl
   |true=>
    exfalso;have b:=s.sZ d x;rcases ahS E9 j with h1|h1
    .rcases d.eW with h4|⟨z,M,v⟩
     .have:=d.dlt j b;omega
     .obtain⟨O,u,g⟩:=l;exact d.eD (d.closed.below j b (R.before h1 M u (.inr ⟨uc v (by simp[g]) (by simp[g]),λe=>absurd e (R.zq u (by simp[g]))⟩)))
    .have:j=E9:=ii
     subst this;exact d.eD b
 rw[d.heap];rcases R.ord.rd i y E9 s.hy hc (d.eW.symm) q with A|A
 .obtain⟨p1,_,_,H⟩:=td (aos:=aos) (i:=i) ap;rw[<-A]at p1 H;exact(Ks hc (R.dW E9 p1 d.eN H).1 F).2
 .obtain⟨N,I,J,g1,g2⟩:=R.afa i E9 y A s.hy L;rw[F]at g1;cases g1;have:=(Ks hc (eu.refl _) g2).1;simp_all
def nr.T6(R:nr Q σ call n ops aos jU st){z:bh}(d:aos[eJ ops aos]?=aa z)(b:z.op=.alloc N){p:P}(hd:z.dst=aa p) :
  (st (eJ ops aos+1)).heap=(st (eJ ops aos)).heap++[.box (N.map .f) 0]/\(st (eJ ops aos+1)).aT.get p=.c (.ptr (st (eJ ops aos)).heap.length 0 0):=by
 obtain⟨_,hg,_⟩:=R.ord.ear z d;have h:=R.step _ z d;simp only[jQ,hg,wanted,b,jP,cA,ahs,AT]at h;rw[<-h];exact⟨rfl,by rw[zA,ct hd]⟩
def nr.Jh(R:nr Q σ call n ops aos jU st)(s:Inv Q σ X0 n ops aos st D E9 X a)(x:nq ops aos D i o y)(hc:cls y.op=.w){d:Wd}{a1:Act}{u:Value}(hS:SR Q σ d)(hB:d.B<=d.w.heap.size)(hx:Ext X.H.length X d)
  (hv:VR σ d B u) (ht:a1.tmps=(a.put o.dst u).tmps) (v:(st (i+1)).aT=oz (st i).aT y.dst B) (hH:d.H=(st (i+1)).heap) (hd:iV σ d (st (i+1)).defs a1.defers) :
  ∃E' X2,X2.w=d.w/\Inv Q σ X0 n ops aos st (λj=>D j\/j=i) E' X2 a1:=by
 have hi:i<aos.length:=(aft.1 x.hy).1;have b_:=R.aae s x hc;subst b_;obtain⟨p1,p2,p3,I⟩:=td (aos:=aos) (i:=i+1) ap;obtain⟨q1,q2⟩:=R.dW _ p1 p2 I;rw[<-hH]at q1;obtain⟨k1,k2⟩:=SR.ahead hS q1;have m:Ext X.H.length X { d with H:=(st (phase aos (i+1))).heap }:=hx.trans (k2.mono hx.len);have W:Ext X0.H.length X0 { d with H:=(st (phase aos (i+1))).heap }:=s.ext.trans (m.mono s.ext.len);have J:¬ (D (phase aos (i+1))\/phase aos (i+1)=i):=by
  rintro(h|h)
  .rcases p3 with h1|⟨z,Y,g⟩
   .have:=s.dlt _ h;omega
   .exact x.uP s (R.before p1 x.hy Y (.inr ⟨uc hc (by simp[g]) (by simp[g]),λe=>absurd e (R.zq Y (by simp[g]))⟩)) h
  .omega
 have M:∀j,JP aos j->j<phase aos (i+1)->D j\/j=i:=by
  intro j c9 hj;rcases aiz j i with h|h|h
  .exact .inl (s.wD j c9 h)
  .omega
  .grind
 have O:iV σ { d with H:=(st (phase aos (i+1))).heap } (st (phase aos (i+1))).defs a1.defers:=by rw[q2];exact hd.ext' k2
 have iJ:i≠eJ ops aos:=R.zq x.hy (by simp[hc]);have Bo:∀j z,j<phase aos (i+1)->¬ (D j\/j=i)->aos[j]?=aa z->cls z.op=.a->(st (j+1)).heap.length≠(st j).heap.length->i<j/\d.dA (st j).heap.length=ab:=by
  intro j z hj hD Y g A;rcases aiz j i with h|h|h
  .exact absurd (.inl (x.sZ s (R.before h Y x.hy (.inr ⟨yE hc (by simp[g]) (by simp[g]),λe=>absurd e iJ⟩)))) hD
  .omega
  .have F:=(R.dW j h ap λk h1 h2=>I k h1 ap).1.len;rw[<-hH]at F;refine⟨h,?_⟩;cases l:d.dA (st j).heap.length with
   |none=>rfl| some L=>have:=SR.lt hS l;omega
 by_cases hP:∃z zs c p,i<=eJ ops aos/\eJ ops aos<phase aos (i+1)/\aos[eJ ops aos]?=aa z/\z.op=.alloc zs/\z.dst=aa p/\D (eJ ops aos)/\a.tmps.getD p.toNat undef=.pointer (aa ⟨c,0,ab⟩)/\X0.w.heap.size<=c/\nZ σ X c zs
 .obtain⟨z,zs,c,p,g1,g2,g3,g4,g5,g6,g7,g8,g9⟩:=hP;obtain⟨s1,s2⟩:=R.T6 g3 g4 g5;have K:i<eJ ops aos:=ii
  have c_:(st (i+1)).heap.length<=(st (eJ ops aos)).heap.length:=(R.dW _ K ap λk h1 h2=>I k h1 ap).1.len;obtain⟨fl,N⟩:∃fl,(st (phase aos (i+1))).heap[(st (eJ ops aos)).heap.length]?=aa (.box (zs.map .f) fl):=by
   have S:=(R.dW (phase aos (i+1)) (show eJ ops aos+1<=_ by omega) p2 λk h1 h2=>I k ap h2).1;rw[s1]at S;exact uq S
  have d9:nZ σ { d with H:=(st (phase aos (i+1))).heap } c zs:=g9.ext m;have d_:d.dA (st (eJ ops aos)).heap.length=ab:=by
   cases l:d.dA (st (eJ ops aos)).heap.length with
   |none=>rfl| some L=>have:=SR.lt hS l;rw[hH]at this;omega
  obtain⟨a_,q,e_⟩:=SR.assign k1 d9 N d_;refine⟨phase aos (i+1),{ d with H:=(st (phase aos (i+1))).heap,dA:=λb=>if b=(st (eJ ops aos)).heap.length then aa ⟨c,0⟩else d.dA b },rfl,R.fin s x a_ hB (W.assign q g8) (λB u h=>VR.fK σ q (VR.ext' σ m h)) ?_ (.inl (VR.fK σ q (VR.ext' σ k2 hv))) ht v p2 p3 J M rfl (iV.fK q O) ?_⟩
  .grind
  .intro j w hj hD hw U A;obtain⟨f1,f2⟩:=Bo j w hj hD hw U A;show(if(st j).heap.length=(st (eJ ops aos)).heap.length then aa (⟨c,0⟩:Loc)else d.dA (st j).heap.length)=ab;rw[cC,f2];intro e;rcases aiz j (eJ ops aos)with h|h|h
   .have h1:=(R.dW (lo:=j+1) (eJ ops aos) h ap λk h1 h2=>I k ap ap).1.len;have h2:=(tM (by simp[U]) (R.step j w hw)).1.len;omega
   .simp_all
   .have h1:=(R.dW (lo:=eJ ops aos+1) j h ap λk h1 h2=>I k ap ap).1.len
    grind
 .refine⟨phase aos (i+1),{ d with H:=(st (phase aos (i+1))).heap },rfl,R.fin s x k1 hB W (λB u h=>VR.ext' σ m h) ?_ (.inl (VR.ext' σ k2 hv)) ht v p2 p3 J M rfl O (λj z h1 h2 h3 h4 h5=>(Bo j z h1 h2 h3 h4 h5).2)⟩;intro z zs c p g1 g2 g3 g4 g5 g6 g7 g8;by_cases F:phase aos (i+1)<=eJ ops aos
  .rw[ct F];exact g8.ext m
  .simp_all
def nr.re(R:nr Q σ call n ops aos jU st)(d:Inv Q σ X0 n ops aos st D E9 X a)(l:nq ops aos D i o y)(hc:cls y.op≠.w){b:Wd}{a1:Act}{u:Value}(v:SR Q σ b)(x:b.B<=b.w.heap.size)(m:Ext X.H.length X b)
  (I:VR σ b B u\/(i=eJ ops aos/\E9<=eJ ops aos/\∃zs c,y.op=.alloc zs/\u=.pointer (aa ⟨c,0,ab⟩)/\X0.w.heap.size<=c/\nZ σ b c zs)) (H:a1.tmps=(a.put o.dst u).tmps) (g:(st (i+1)).aT=oz (st i).aT y.dst B) (A:b.H=X.H) (hd:iV σ b (st E9).defs a1.defers)
  (F:∀j z,j<E9->¬ (D j\/j=i)->aos[j]?=aa z->cls z.op=.a->(st (j+1)).heap.length≠(st j).heap.length->b.dA (st j).heap.length=ab) :
  Inv Q σ X0 n ops aos st (λj=>D j\/j=i) E9 b a1:=by
 refine R.fin d l v x (d.ext.trans (m.mono d.ext.len)) (λB u h=>VR.ext' σ m h) (λz zs c p g1 _ _ _ _ _ _ g8=>by rw[ct g1];exact g8.ext m) I H g d.eN d.eW ?_ (λj h1 h2=>.inl (d.wD j h1 h2)) (A.trans d.heap) hd F;rintro(h|h)
 .exact d.eD h
 .have hi:i<aos.length:=(aft.1 l.hy).1;rcases d.eW with h1|⟨z,s,q⟩
  .omega
  .rw[h,l.hy]at s;cases s;exact hc q
def nr.kG(d:Inv Q σ X0 n ops aos st D E9 X a){b:Wd}(h:b.dA=X.dA):∀j z,j<E9->¬ (D j\/j=i)->aos[j]?=aa z->cls z.op=.a->(st (j+1)).heap.length≠(st j).heap.length->b.dA (st j).heap.length=ab:=
 λj z h1 h2 h3 h4 h5=>by rw[h];exact d.Bo j z h1 (λh=>h2 (.inl h)) h3 h4 h5
def nr.Il(R:nr Q σ call n ops aos jU st)(m:Inv Q σ X0 n ops aos st D E9 X a)(u:nq ops aos D i o y)(hc:cls y.op=.a)(F:i=eJ ops aos->i<E9)(l:(st (i+1)).heap.length≠(st i).heap.length){z:bh}(J:d<E9)(hD:¬ (D d\/d=i))(B:aos[d]?=aa z)(j:cls z.op=.a)
  (g:(st (d+1)).heap.length≠(st d).heap.length):(st d).heap.length≠(st i).heap.length:=by
 have hi:i<aos.length:=(aft.1 u.hy).1;obtain⟨g1,g2⟩:=R.Qj m u (by simp[hc]) (by simp[hc]) (by simp[hc]) F;have I:∀k,d<=k->k<E9->¬ JP aos k:=by
  intro k h1 h2 q;have s:=m.wD k q h2;obtain⟨w,v,x⟩:=q;rcases ahS d k with h|h
  .exact hD (.inl (m.closed.below k s (R.before h B v (.inr ⟨yE x (by simp[j]) (by simp[j]),λ_=>by simp[j]⟩))))
  .grind
 have b:∀k w,aos[k]?=aa w->cls w.op=.a->(st (k+1)).heap.length≠(st k).heap.length->(st k).heap.length<(st (k+1)).heap.length:=by
  intro k w q A H;have:=(tM (by simp[A]) (R.step k w q)).1.len;omega
 rcases aiz d i with h|h|h
 .have h1:=b d z B j g;have h2:(st (d+1)).heap.length<=(st i).heap.length:=(R.dW i h ap λk h3 h4=>I k ap ap).1.len;omega
 .omega
 .have h1:=b i y u.hy hc l;have h2:(st (i+1)).heap.length<=(st d).heap.length:=(R.dW d h (by have:=m.eN;omega) λk h3 h4=>g2 k ap ap).1.len;omega
end
section
open Go
variable{Q:Program}{σ:Nat->FuncId}{X:Wd}{call:eC}
variable{n:Nat}{ops:Array Oper}{aos:List bh}{jU:List (Nat × Nat)}{st:Nat->St}
variable{X0:Wd}{D:Nat->Prop}{E9 i:Nat}{a:Act}{o:Oper}{y:bh}
def IF{w':World}{q:Obj}(g:SR Q σ X)(d:fG X.w w' q):SR Q σ { X with w:=w' }/\Ext X.H.length X { X with w:=w' }:=by
 have j:Ext X.H.length X { X with w:=w' }:=Ext.one g X.H.length rfl (λ_ _=>Iff.rfl) (λk m _=>d.Gf m)
  (λL i h=>by rw[SR.wq g]at h;simp at h) (λh=>absurd h (Nat.lt_irrefl _)) (λ_ _ _=>rfl) (λ_ _=>rfl) (λL h=>.inl ⟨L,h,rfl⟩) (by show _<=w'.heap.size;rw[d.size];omega) d.os d.tape d.output
 refine⟨SR.step Q σ g j X.H.length (λ_ _=>rfl) (λ_ _=>rfl) (λb L _ l=>d.Gf (g.br b L l).2.1)
  (λ_ _ _ _ _ h=>h) (λL h=>by change X.dA X.H.length=aa L at h;rw[SR.wq g]at h;simp at h) (λc i h=>?_),j⟩
 have:=g.fb c i h;show c<w'.heap.size;rw[d.size];omega
def R7{y:bh}{p:P}(h:p∈y.op.rd):p∈y.rd:=by unfold bh.rd;exact List.mem_append.2 (.inr h)
def JD{y:bh}{p:P}(h:y.g=aa (p,M)):p∈y.rd:=by unfold bh.rd;rw[h];simp
def nr.U6(hC:ik Q σ call)(R:nr Q σ call n ops aos jU st)(d:Inv Q σ X0 n ops aos st D E9 X a)(q:nq ops aos D i o y){b:Frame}{rest:List Nat}{k:List Item}{cs:List Frame}(hk:mh b cs)(l_:jK y.op b) :
  ∃E' X' a',Steps Q (lone (b.atR a (.inRegion ops (i::rest)::k)) cs X.w) (lone (b.atR a' (.inRegion ops rest::k)) cs X'.w)/\Inv Q σ X0 n ops aos st (λj=>D j\/j=i) E' X' a'/\a'.tmps.size=a.tmps.size:=by
 have hi:i<aos.length:=(aft.1 q.hy).1;obtain⟨o',i9,hm⟩:=R.at q.hy;rw[q.ho]at i9;cases i9;have g:=R.step i y q.hy;have O:∀p∈y.rd,VR σ X ((st i).aT.get p) (a.tmps.getD p.toNat undef):=λp hp=>R.reads d q hp;have m:ft Q σ o y.op=ae:=by simp only[oi,IS]at hm;exact hm.1.1
 have W:∀u,(a.put o.dst u).tmps.size=a.tmps.size:=λu=>by cases o.dst<;>simp[Act.put]
 have J:∀(a:Act) u,(a.put o.dst u).defers=a.defers:=λa u=>by cases o.dst<;>rfl
 have n9:∀(a a':Act) u,a'.tmps=a.tmps->(a'.put o.dst u).tmps=(a.put o.dst u).tmps:=λa a' u h=>by cases o.dst<;>simp[Act.put,h]
 unfold jQ at g;split at g
 .rename_i f_;have hw:=rL hm (aT:=(st i).aT) (tmps:=a.tmps) (X:=X) (λp w' hg=>O p (JD hg)) d.size f_;split at g
  .rename_i v s1 h1;simp only[AT]at g;have A:(st (i+1)).aT=oz (st i).aT y.dst v:=by rw[<-g,<-Ci h1]
   have B:(st (i+1)).heap=s1.heap:=by rw[<-g]
   have M:(st (i+1)).defs=s1.defs:=by rw[<-g]
   have F:∀p∈y.op.rd,(st i).aT.get p=(lT (st i).aT y.op.rd).get p:=λp hp=>by rw[zB,ct hp]
   have Y:RR σ X (lT (st i).aT y.op.rd) a.tmps:=λp=>by
    rw[zB];split
    .rename_i hp;exact O p (R7 hp)
    .trivial
   have K:=Kr F h1;by_cases l:cls y.op=.w
   .have b_:=R.aae d q l;obtain⟨g1,g2⟩:=Kq hC d.sr d.b (s:={ st i with aT:=lT (st i).aT y.op.rd }) (by rw[d.heap,<-b_]) Y (by rw[b_];exact d.defs) m K;obtain⟨X1,u,a1,k1,⟨k2,k3,k4,k5,k6⟩,k7,k8⟩:=g1 b ops i rest k cs q.ho hw hk l_;obtain⟨E',X2,q1,q2⟩:=R.Jh d q l (a1:=a1.put o.dst u) k3 k6 k5 k4 (n9 a a1 u k7) A (by rw[k2,B]) (by rw[M,J];exact k8)
    grind
   .
    have k_:∀c,o.op≠.defer c:=uD m (λx xs e=>l (by rw[e];rfl)) (λe=>by rw[e]at h1;simp[jP,cA]at h1);have one:∀{u:Value} {w':World},(execOp a.eval o).run Q X.w=.ok (.value u) w'->Steps Q (lone (b.atR a (.inRegion ops (i::rest)::k)) cs X.w) (lone (b.atR (a.put o.dst u) (.inRegion ops rest::k)) cs w'):=by
     intro u w' c9;refine .one (step_lone_go ?_);rw[stepGR_op q.ho hw,Oper.semAt_eq _ _ _ k_];have a_:=Frame.finish_atR b a ops i rest k u;rw[q.ho]at a_;simp only[ahz]at a_;rw[<-a_];simp[stepG.apply,Sem.runT_eq,c9]
    by_cases H:cls y.op=.c
    .
     obtain⟨f,xs,e_⟩:∃f xs,y.op=.call f xs ag:=by
      generalize y.op=op at H;cases op<;>first|(simp only[cls,reduceCtorEq]at H;done)|skip
      rename_i f xs hh;cases hh
      .simp
      .simp[cls]at H
     have I:=Y;rw[e_]at K m I;simp only[jP,mj,ahb,if_false,OF,agO]at K;obtain⟨⟨v',H'⟩,hp,rfl,n_⟩:=K;have j_:H'=(st (i+1)).heap:=by
      simp_all
     obtain⟨g1,g2⟩:=R.Qj d q (by simp[H]) (by simp[H]) (by simp[H]) (λe=>absurd e (R.zq q.hy (by simp[H])));have h_:eu H' X.H:=by
      rw[j_,d.heap];exact(R.dW E9 g1 d.eN λj h1 h2=>g2 j ap h2).1
     obtain⟨X1,u,k1,⟨k2,k3,k4,k5,k6⟩,k7⟩:=CG hC d.sr d.b I m hp h_ b ops i rest k cs q.ho hw;exact⟨E9,X1,a.put o.dst u,k1,R.re d q l k3 k6 k5 (.inl k4) rfl A k2 (by rw[J];exact d.defs.ext' k5) (nr.kG d k7),W u⟩
    .have hx:(cA (lT (st i).aT y.op.rd) (st i).heap y.op)=aa (v,s1.heap):=by
      have d_:¬ ((∃f xs h,y.op=.call f xs h)\/(∃x xs h,y.op=.jr x xs h)\/y.op=.recover\/∃x xs,y.op=.defer x xs):=by
       rintro(⟨f,xs,hh,e⟩|⟨x,xs,hh,e⟩|e|⟨x,xs,e⟩)<;>rw[e]at l H
       .cases hh
        .exact H rfl
        .exact l rfl
       .exact l rfl
       .exact l rfl
       .exact l rfl
      have hx:(cA (lT (st i).aT y.op.rd) (st i).heap y.op).map (λr=>(r.1,({ st i with aT:=lT (st i).aT y.op.rd,heap:=r.2 }:St)))=aa (v,{ s1 with aT:=lT (st i).aT y.op.rd }):=by
       generalize lT (st i).aT y.op.rd=r at K;generalize y.op=op at K d_;cases op<;>first|exact K|(exfalso;apply d_;simp)
      simp only[OF,agO,St.mk.injEq]at hx
      grind
     by_cases U:cls y.op=.a
     .by_cases d9:i=eJ ops aos/\E9<=i
      .
       obtain⟨i7,j9⟩:=d9;obtain⟨⟨zs,e_⟩,_,_⟩:=R.ord.ear y (show aos[eJ ops aos]?=aa y from i7▸q.hy);have i8:=hx;rw[e_]at i8 m;simp only[cA,AT,agO]at i8;obtain⟨rfl,_⟩:=i8;simp only[ft]at m;split at m
       .rename_i t ho;obtain⟨z,us,j6,j7,j8,_⟩:=gV (σ:=σ) (X:=X) m X.w;have c9:(execOp a.eval o).run Q X.w=.ok (.value (.pointer (aa ⟨X.w.heap.size,0,ab⟩))) (X.w.alloc (.cells us.toArray t)):=by
         simp only[execOp,ho];refine fU ?_;simp[Instr.alloc,j6,newVar,newRow,j7]
        obtain⟨e1,e2⟩:=IF d.sr (fG.alloc X.w (.cells us.toArray t));refine⟨E9,{ X with w:=X.w.alloc (.cells us.toArray t) },a.put o.dst (.pointer (aa ⟨X.w.heap.size,0,ab⟩)),one c9,R.re d q l e1 (by have:=d.b;simp;omega) e2 (.inr ⟨i7,by rw[<-i7];exact j9,zs,X.w.heap.size,e_,rfl,d.ext.size,?_⟩) rfl A rfl (by rw[J];exact d.defs.ext' e2) (nr.kG d rfl),W _⟩;exact⟨⟨us,t,(fG.alloc X.w (.cells us.toArray t)).new,A2.ext' σ e2 j8⟩,d.b,λb L hb=>by have:=(d.sr.br b L hb).2.1;omega,λj hj=>by have:=d.sr.fb _ j hj;omega⟩
       .simp_all
      have hJ:i=eJ ops aos->i<E9:=λe=>by
       omega
      obtain⟨g1,g2⟩:=R.Qj d q (by simp[U]) (by simp[U]) (by simp[U]) hJ;have h_:eu s1.heap X.H:=by
       rw[<-B,d.heap];exact(R.dW E9 g1 d.eN λj h1 h2=>g2 j ap h2).1
      obtain⟨X1,u,k1,⟨k2,k3,k4,k5,k6⟩,k7,k8⟩:=Uy d.sr d.b Y U m hx h_ (λd_=>d.Bo i y g1 q.hD q.hy U (by rw[B];exact d_));refine⟨E9,X1,a.put o.dst u,one k1,R.re d q l k3 k6 k5 (.inl k4) rfl A k2 (by rw[J];exact d.defs.ext' k5) ?_,W u⟩;by_cases g_:(st (i+1)).heap.length=(st i).heap.length
      .exact nr.kG d (k8 (by rw[<-B];exact g_))
      .intro j z h2 h3 h4 h5 h6;rw[k7 _ (R.Il d q U hJ g_ h2 h3 h4 h5 h6)];exact d.Bo j z h2 (λh=>h3 (.inl h)) h4 h5 h6
     .
      have i_:cls y.op=.p\/cls y.op=.r:=by cases c_:cls y.op<;>simp_all
      have n8:cA (st i).aT (st i).heap y.op=aa (v,s1.heap):=by rw[IQ F];exact hx
      have j5:cA (lT (st i).aT y.op.rd) X.H y.op=aa (v,X.H):=by
       rcases i_ with c_|c_
       .have:=V6 (r:=lT (st i).aT y.op.rd) c_ (st i).heap X.H;simp_all
       .rw[<-IQ F];exact(R.afH d q c_ f_ n8).2
      cases i6:y.op.fsl
      case true=>
       have N:=m;have S:=j5;have I:=Y;obtain⟨rg,m9⟩:=aH (lT (st i).aT y.op.rd);rw[<-m9]at S I;revert N S;generalize y.op=op at i6;cases op<;>simp only[et.fsl,reduceCtorEq]at i6;intro N S;obtain⟨_,u,X1,k1,k2,k3,k4,k5,k6,k7⟩:=Bl d.sr d.b I N S;exact⟨E9,X1,a.put o.dst u,one k1,R.re d q l k3 k6 k5 (.inl k4) rfl A k2 (by rw[J];exact d.defs.ext' k5) (nr.kG d k7),W u⟩
      obtain⟨_,u,k1,k2⟩:=V0 d.sr Y m i_ i6 j5;exact⟨E9,X,a.put o.dst u,one k1,R.re d q l d.sr d.b (Ext.refl _ _) (.inl k2) rfl A rfl (by rw[J];exact d.defs) (nr.kG d rfl),W u⟩
  .simp_all
 .rename_i f_;have hw:=rL hm (aT:=(st i).aT) (tmps:=a.tmps) (X:=X) (λp w' hg=>O p (JD hg)) d.size f_;simp only[AT]at g;have A:(st (i+1)).aT=oz (st i).aT y.dst (.t []):=by rw[<-g]
  have B:(st (i+1)).heap=(st i).heap:=by rw[<-g]
  have M:(st (i+1)).defs=(st i).defs:=by rw[<-g]
  have m_:Steps Q (lone (b.atR a (.inRegion ops (i::rest)::k)) cs X.w) (lone (b.atR (a.put o.dst undef) (.inRegion ops rest::k)) cs X.w):=by
   refine .one ?_;have:=stepR_op_skip (P:=Q) (b:=b) (a:=a) (k:=k) (cs:=cs) (w:=X.w) (ops:=ops) (i:=i) (rest:=rest) (by simp[q.ho,hw]);rw[q.ho]at this;exact this
  by_cases l:cls y.op=.w
  .have b_:=R.aae d q l;obtain⟨E',X2,q1,q2⟩:=R.Jh d q l (a1:=a.put o.dst undef) d.sr d.b (Ext.refl _ _) VR.undef rfl A (by rw[d.heap,B,b_]) (by rw[M,J,b_];exact d.defs)
   grind
  .exact⟨E9,X,a.put o.dst undef,m_,R.re d q l d.sr d.b (Ext.refl _ _) (.inl VR.undef) rfl A rfl (by rw[J];exact d.defs) (nr.kG d rfl),W _⟩
 .simp at g
end
section
open Go
variable{Q:Program}{σ:Nat->FuncId}{X:Wd}{call:eC}
variable{n:Nat}{ops:Array Oper}{aos:List bh}{jU:List (Nat × Nat)}{st:Nat->St}
def LD(b:Array Bool)(j:Nat):Prop:=b.getD j ag=ae
def P_{b:Array Bool}(hi:d<b.size):LD (b.setIfInBounds d ae)=λj=>LD b j\/j=d:=by
 funext j;apply propext;unfold LD;by_cases h:d=j
 .simp_all
 .have:j≠d:=λe=>h e.symm;simp_all
def Ic{b:Array Bool}(h:I∈Region.ready .any ops b):I<ops.size/\¬ LD b I/\∃o,ops[I]?=aa o/\∀e∈o.after.toList,Region.binds .any e=ae->LD b e.on:=by
 unfold Region.ready at h;simp only[ahB,ai0,IS,aii]at h;obtain⟨g,s,d⟩:=h;refine⟨g,λm=>?_,?_⟩
 .unfold LD at m
  grind
 .have j:=Array.getElem?_eq_getElem g;rw[j]at d;simp only[ahs,Option.getD_some]at d;refine⟨ops[I],j,λe q l=>?_⟩;rw[<-Array.all_toList,ag9]at d;have:=d e q;simpa[l,LD]using this
def Sl(g:Ord ops.toList aos jU)(B:aos.length=ops.size){b:Array Bool}(y:b.size=ops.size)(A:I<ops.size)(z:¬ LD b I):Region.ready .any ops b≠[]:=by
 have key:∀m,m<ops.size->¬ LD b m->∃i,i∈Region.ready .any ops b:=by
  intro m;induction m using Nat.strongRecOn with
  |ind m F=>
   intro s u;have x:=Array.getElem?_eq_getElem s;by_cases d:∀e∈ops[m].after.toList,Region.binds .any e=ae->LD b e.on
   .refine⟨m,?_⟩;unfold Region.ready;simp only[ahB,ai0,IS,aii,x,ahs,Option.getD_some];refine⟨s,?_,?_⟩
    .unfold LD at u;simp_all
    .rw[<-Array.all_toList,ag9];intro e q;by_cases l:Region.binds .any e=ae
     .have:=d e q l;unfold LD at this;simp[this]
     .simp_all
   .simp only[Classical.not_forall]at d;obtain⟨e,q,l,v⟩:=d;have:=g.back m ops[m] ap (by simp[s]) e q l
    grind
 grind
def QV(W:ik Q σ call)(R:nr Q σ call n ops aos jU st){b:Frame}{k:List Item}{cs:List Frame}(Y:mh b cs)(H:∀y∈aos,jK y.op b) :
  ∀(X0:Wd) (fuel t:Nat) (d:Array Bool) (U:List Nat) (E9:Nat) (X:Wd) (a:Act),d.size=ops.size->U.Nodup->(∀j,j<ops.size->(¬ LD d j↔j∈U))->U.length<=fuel->Inv Q σ X0 n ops aos st (LD d) E9 X a->
  ∃m v X' a',Steps Q (lone (b.atR a (.inRegion ops (Region.linearise.go .any ops fuel t d [])::k)) cs X.w) (lone (b.atR a' k) cs X'.w)/\Inv Q σ X0 n ops aos st m v X' a'/\(∀j,j<ops.size->m j)/\a'.tmps.size=a.tmps.size:=by
 have q:aos.length=ops.size:=by have:=(gH R.ZG).len;simpa using this.symm
 intro X0 fuel;induction fuel with
 |zero=>
  intro t d U E9 X a l B g F z;refine⟨LD d,E9,X,a,?_,z,λj A=>?_,rfl⟩
  .simp only[Region.linearise.go,List.reverse_nil];exact .one stepR_region_end
  .simp_all
 |succ fuel ih=>
  intro t d U E9 X a l B g F z;simp only[Region.linearise.go];change ∃m v X' a',Steps Q (lone (b.atR a (.inRegion ops (match (Region.ready .any ops d)[t % (Region.ready .any ops d).length]? with
   |some i=>Region.linearise.go .any ops fuel (t / (Region.ready .any ops d).length) (d.setIfInBounds i ae) [i]
   |none=>[].reverse)::k)) cs X.w) _/\_
  cases hi:(Region.ready .any ops d)[t % (Region.ready .any ops d).length]? with
  |none=>
   have u:Region.ready .any ops d=[]:=by
    cases I:Region.ready .any ops d with
    |nil=>rfl
    |cons x xs=>
     rw[I]at hi;have a_:t % (x::xs).length<(x::xs).length:=Nat.mod_lt _ bv
     grind
   refine⟨LD d,E9,X,a,?_,z,λj A=>?_,rfl⟩
   .exact .one stepR_region_end
   .exact Classical.byContradiction λh=>Sl R.ord q l A h u
  |some i=>
   simp only[];rw[linearise_go_acc,List.reverse_singleton,List.singleton_append];obtain⟨r1,K,o,r3,r4⟩:=Ic (ahg hi);have hy:=BY (show i<aos.length by omega);have I:nq ops aos (LD d) i o aos[i]:=⟨r3,hy,K,r4⟩
   obtain⟨v,L,a1,O,J,S⟩:=R.U6 W z I (b:=b) (rest:=Region.linearise.go .any ops fuel (t / (Region.ready .any ops d).length) (d.setIfInBounds i ae) []) (k:=k) (cs:=cs) Y (H _ (IN _));rw[<-P_ ap]at J;have s:i∈U:=(g i r1).1 K;obtain⟨m,E2,M,N,k1,k2,k3,k5⟩:=ih (t / (Region.ready .any ops d).length) (d.setIfInBounds i ae) (U.erase i) v L a1 (by simpa using l) (B.erase i)
    (λj A=>by
     rw[B.mem_erase_iff,<-g j A,P_ ap]
     grind)
    (by rw[List.length_erase_of_mem s];omega) J
   exact⟨m,E2,M,N,O.trans k1,k2,k3,k5.trans S⟩
def QW(hC:ik Q σ call)(u:Q.follows .mixedOrders=ae)(R:nr Q σ call n ops aos jU st){k:List Item}{cs:List Frame}(hk:mh Y cs)(N:∀y∈aos,jK y.op Y){X:Wd}{a:Act}(g:Fr Q σ n X (st 0) a)(id:Nat) :
  ∃X' a',Steps Q (lone (Y.atR a (.code (.region id ops ae)::k)) cs X.w) (lone (Y.atR a' k) cs X'.w)/\Fr Q σ n X' (st aos.length) a'/\Ext X.H.length X X'/\a'.tmps.size=a.tmps.size:=by
 have a_:aos.length=ops.size:=by have:=(gH R.ZG).len;simpa using this.symm
 let X0:Wd:={ X with w:={ X.w with drawn:=X.w.drawn+1 } }
 have x:Ext X.H.length X X0:=
  {B:=rfl,F:=λ_ _ h=>h,tS:=λ_ _ h=>.inl h,fw:=λ_ _ _=>rfl,bS:=λY _ cV M=>⟨cV,M,by cases cV<;>simp[X0]⟩
   Bp:=λY L h=>.inl ⟨Y,L,h,rfl⟩,size:=agQ _,os:=rfl,tape:=rfl,output:=rfl,frame:=λ_ _ _=>rfl }
 have J:SR Q σ X0:=by
  refine⟨λY L M=>?_,g.sr.inj,g.sr.fb⟩;obtain⟨q,s,cV,U,W⟩:=g.sr.br Y L M;exact⟨q,s,cV,U,BR.ext Q σ x rfl (λ_ h=>h) W⟩
 obtain⟨p1,p2,p3,O⟩:=td (aos:=aos) (i:=0) ap;obtain⟨q1,q2⟩:=R.dW _ p1 p2 O;have I:X0.H=(st 0).heap:=g.heap;rw[<-I]at q1;obtain⟨k1,k2⟩:=SR.ahead J q1;have m:Ext X.H.length X { X0 with H:=(st (phase aos 0)).heap }:=x.trans k2;have d:∀j,¬ LD (Array.replicate ops.size ag) j:=λj h=>by
  unfold LD at h;simp only[Array.getD_eq_getD_getElem?,Array.getElem?_replicate]at h
  grind
 have hI:Inv Q σ { X0 with H:=(st (phase aos 0)).heap } n ops aos st (LD (Array.replicate ops.size ag)) (phase aos 0) { X0 with H:=(st (phase aos 0)).heap } a:=by
  refine⟨λj o h=>absurd h (d j),λj h=>absurd h (d j),p2,p3,d _,λj q s=>absurd q (O j (aih _) s),rfl,Ext.refl _ _,k1,g.b,by rw[q2];exact g.defs.ext' m,g.size,
   λp=>⟨0,aih _,.inl (VR.ext' σ m (g.aT p)),λj y _ _=>⟨λh=>by omega,λh=>absurd h (d j)⟩⟩,λj y q _ U W h5=>?_⟩
  show X.dA _=ab;have b_:=(R.dW j (aih _) ap λk q s=>O k q ap).1.len;cases v:X.dA (st j).heap.length with
  |none=>rfl| some L=>have:=SR.lt g.sr v;rw[g.heap]at this;omega
 obtain⟨D',S,X',a',g1,l,g3,g5⟩:=QV hC R hk N (k:=k) { X0 with H:=(st (phase aos 0)).heap } ops.size (X.w.tape X.w.drawn (.order Y.fn id)) (Array.replicate ops.size ag) (List.range ops.size) (phase aos 0) { X0 with H:=(st (phase aos 0)).heap } a bv List.nodup_range
  (λj hj=>⟨λ_=>by simpa using hj,λ_=>d j⟩) bv hI
 have b:S=aos.length:=by
  rcases l.eW with h|⟨z,hz,_⟩
  .exact h
  .exact absurd (g3 S (by have:=(aft.1 hz).1;omega)) l.eD
 subst b;refine⟨X',a',.head stepR_region_draw ?_,⟨l.heap,l.sr,l.b,λp=>?_,l.defs,l.size⟩,m.trans (l.ext.mono (m.len)),g5⟩
 .simp only[Region.schedule,u,Bool.true_or,if_true];exact g1
 .obtain⟨K,hK,A,hw⟩:=l.SE p;have A:VR σ X' ((st K).aT.get p) (a'.tmps.getD p.toNat undef):=by
   rcases A with A|⟨z,zs,c,_,b,hz,_⟩
   .omega
   .omega
  rw[<-R.ph aos.length hK (agQ _) λj y q s hy hd=>?_]
  .exact A
  .grind
end
section
open Go
variable{Q:Program}{σ:Nat->FuncId}{X:Wd}{call:eC}
theorem D3{b:Type}{f:b->b->Bool}(d:∀x y,f x y=ae->x=y):∀{xs ys:List b},jW f xs ys=ae->xs=ys
 |[],[],_=>rfl
 |x::xs,y::ys,h=>by
  simp only[jW,IS]at h;rw[d x y h.1,D3 d h.2]
 |[],_::_,h=>by simp[jW]at h
 |_::_,[],h=>by simp[jW]at h
def FC.beq_eq:∀(n:Nat) (a b:FC),FC.beq n a b=ae->a=b:=by
 intro n;induction n with
 |zero=>
  intro a b h;cases a<;>cases b<;>simp_all [FC.beq]
 |succ n d=>
  intro a b h;cases a<;>cases b<;>simp_all [FC.beq]
  all_goals exact D3 d h.2
theorem C.beq_eq{a b:C}(h:a.beq b=ae):a=b:=by
 cases a<;>cases b<;>simp_all [C.beq];exact FC.beq_eq _ _ _ h
theorem V.beq_eq{a b:V}(h:a.beq b=ae):a=b:=by
 cases a<;>cases b<;>simp only[V.beq,ahb]at h
 .rw[C.beq_eq h]
 .rename_i xs ys;simp only[IS,beq_iff_eq,ag9]at h
  congr 1
  refine List.ext_getElem h.1 λi h1 h2=>C.beq_eq (h.2 (xs[i],ys[i]) ?_);exact ahg (i:=i) (by rw[List.getElem?_zip_eq_some];exact⟨BY h1,BY h2⟩)
theorem Cb:∀{aos:List bh} {s b:St},ja call aos s=aa b->∃ss:List St,gi call aos s=aa ss/\ss.getLast?=aa b
 |[],s,b,h=>by simp only[ja,AT]at h;subst h;exact⟨[s],rfl,rfl⟩
 |o::os,s,b,h=>by
  simp only[ja]at h;split at h
  .rename_i l d;obtain⟨ss,g,j⟩:=Cb h;refine⟨s::ss,by simp[gi,d,g],?_⟩
   grind
  .simp at h
theorem qQ:∀{aos:List bh} {s:St} {ss:List St},gi call aos s=aa ss->ss.length=aos.length+1/\ss[0]?=aa s/\
  ∀i y,aos[i]?=aa y->∃u v,ss[i]?=aa u/\ss[i+1]?=aa v/\jQ call u y=aa v
 |[],s,ss,h=>by
  simp only[gi,AT]at h;subst h;simp
 |o::os,s,ss,h=>by
  simp only[gi]at h;split at h
  .rename_i q m;split at h
   .rename_i d b;simp only[AT]at h;subst h;obtain⟨g,j,l⟩:=qQ b
    grind
   .simp at h
  .simp at h
theorem zN:∀{aos:List bh} {s:St} {ss:List St} {b:St},gi call aos s=aa ss->ss.getLast?=aa b->ja call aos s=aa b
 |[],s,ss,b,h,g=>by simp only[gi,AT]at h;subst h;simpa[ja]using g
 |o::os,s,ss,b,h,g=>by
  simp only[gi]at h;split at h
  .rename_i m j;split at h
   .rename_i l d;simp only[AT]at h;subst h;have:=(qQ d).1;simp only[ja,j];refine zN d ?_
    grind
   .simp at h
  .simp at h
def Nt(I:ik Q σ call)(l:Q.follows .mixedOrders=ae){id:Nat}{ops:Array Oper}{n:Bool}{aos:List bh}{jU:List (Nat × Nat)}(K:cP Q σ d (.region id ops n) (.region aos jU)=ae)
{k:List Item} {cs:List Frame} (J:mh Y cs) (m:∀y∈aos,jK y.op Y) {X:Wd} {a:Act} {x:St} (F:Fr Q σ d X O a) (h:lu call aos jU O=aa x) :
  ∃X' a',Steps Q (lone (Y.atR a (.code (.region id ops n)::k)) cs X.w) (lone (Y.atR a' k) cs X'.w)/\Fr Q σ d X' x a'/\Ext X.H.length X X'/\a'.tmps.size=a.tmps.size:=by
 simp only[cP,IS,Bool.or_eq_true,aii]at K;obtain⟨j,q⟩:=K;obtain⟨ss,H,B,b⟩:∃ss:List St,gi call aos O=aa ss/\ss.getLast?=aa x/\∀c∈jU,sameAt aos ss c=ae:=by
  unfold lu at h;split at h
  .obtain⟨ss,z,A⟩:=Cb h;simp_all
  .grind
 cases n with
 |false=>
  obtain⟨X',a',z,A⟩:=Kt I J (k:=k) aos 0 X O x a F (by simpa using j) m (zN H B);exact⟨X',a',.head stepR_region (by simpa using z),A⟩
 |true=>
  obtain⟨z,A,g3⟩:=qQ H
  let st:Nat->St:=λi=>ss.getD i O
  have g:∀i u,ss[i]?=aa u->st i=u:=λi u hu=>by simp[st,List.getD_eq_getElem?_getD,hu]
  have R:nr Q σ call d ops aos jU st:=by
   refine⟨j,Nl (q.resolve_left bv),λi y M=>?_,λi e y hc M L=>?_⟩
   .grind
   .have hs:=b _ hc;simp only[sameAt,M]at hs;split at hs
    .rename_i o s1 s2 N s S;cases N;rw[g _ _ s]at L ⊢;rw[g _ _ S];rw[L]at hs;simp only at hs;split at hs
     .rename_i v x1 v' x2 e4 U;rw[<-V.beq_eq hs]at U;simp_all
     .simp_all
    .simp_all
  have W:st 0=O:=g 0 O A;have hN:st aos.length=x:=g _ _ (by rw[List.getLast?_eq_getElem?,z]at B;simpa using B);rw[<-W]at F;rw[<-hN];exact QW I l R J m F id
end
section
open Go
variable{Q:Program}{σ:Nat->FuncId}{X:Wd}{call:eC}
def Hz(X:Wd)(b:Nat):Prop:=∃f t p a c s q d,X.H[b]?=aa (.lp f t p a c s q d)
def Hz.ext{X X':Wd}(l:Ext X.H.length X X')(h:Hz X m):Hz X' m/\∀L,X.dA m=aa L->X'.dA m=aa L:=by
 obtain⟨f,t,p,a,c,s,q,d,hb⟩:=h;obtain⟨blk',g,j⟩:=l.bS m (aft.1 hb).1 _ hb;cases blk'<;>simp only at j;exact⟨⟨_,_,_,_,_,_,_,_,g⟩,j.2⟩
inductive jV(Q:Program)(σ:Nat->FuncId)(n:Nat)(X:Wd):dS->Item->Prop
 |code {a:aD} {c:Code} (h:cP Q σ n c a=ae):jV Q σ n X (.code a) (.code c)
 |inBlock (id:Nat):jV Q σ n X (.inBlock id) (.inBlock id)
 |inLoop {a:aD} {c:Code} (h:cP Q σ n c a=ae):jV Q σ n X (.inLoop a) (.inLoop c)
 |mL {b:Nat} {L:Loc} (h:X.dA b=aa L) (hl:Hz X b):jV Q σ n X (.mL b) (.endRangeFunc L.c)
 |rP:jV Q σ n X .rP .beginRound
 |inScope {a:aD} {c:Code} (h:cP Q σ n c a=ae) (hs:nA a=ae):jV Q σ n X (.inScope a) (.inScope c)
theorem jV.ext{n:Nat}{X X':Wd}(b:Ext X.H.length X X'){x:dS}{y:Item}(h:jV Q σ n X x y):jV Q σ n X' x y:=by
 cases h with
 |code h=>exact .code h| inBlock id=>exact .inBlock id| inLoop h=>exact .inLoop h| mL h hl=>exact .mL ((hl.ext b).2 _ h) (hl.ext b).1| rP=>exact .rP| inScope h hs=>exact .inScope h hs
def RoR(X:Wd):Option Nat->Option Nat->Prop
 |none,ab=>True| some b,aa l=>∃L,X.dA b=aa L/\L.c=l/\Hz X b| _,_=>False
theorem RoR.ext{X X':Wd}(d:Ext X.H.length X X'){ro b:Option Nat}(h:RoR X ro b):RoR X' ro b:=by
 cases ro<;>cases b<;>simp only[RoR]at h ⊢;obtain⟨L,h1,h2,h3⟩:=h;exact⟨L,(h3.ext d).2 _ h1,h2,(h3.ext d).1⟩
theorem Be{n:Nat}(id:Nat):∀(k:List dS) (b:List Item),A2 (jV Q σ n X) k b->
  match Km.exitTo id k with
  |some k'=>∃d,Go.exitTo id b=aa d/\A2 (jV Q σ n X) k' d| none=>Go.exitTo id b=ab
 |[],b,h=>by
  have:b=[]:=ag3 h.len.symm;subst this;rfl
 |x::k,[],h=>by have:=h.len;simp at this
 |x::k,y::b,h=>by
  obtain⟨g,j⟩:=h.of_cons;have m:=Be id k b j;cases g with
  |inBlock l=>
   simp only[Km.exitTo,Go.exitTo]
   grind
  |_=>exact m
theorem CS(l:Nat):∀(a:aD) (c:Code),cP Q σ I c a=ae->nA a=ae->
  match Km.findLabel a l with
  |some r=>∃r',Go.findLabel c l=aa r'/\cP Q σ I r' r=ae| none=>Go.findLabel c l=ab:=by
 intro a;induction a with
 |seq a b g v=>
  intro c h hs;simp only[nA,IS]at hs;cases c with
  |seq c d=>
   simp only[cP,IS]at h;have j:=g c h.1 hs.1;simp only[Km.findLabel,Go.findLabel];cases u:Km.findLabel a l with
   |some r=>
    rw[u]at j;obtain⟨r',m,q⟩:=j;simp only[m];exact⟨_,rfl,by simp[cP,q,h.2]⟩
   |none=>
    simp_all
  |_=>simp[cP]at h
 |label y=>
  intro c h _;cases c with
  |label x=>
   simp only[cP,beq_iff_eq]at h;subst h;simp only[Km.findLabel,Go.findLabel];by_cases s:(x == l)=ae
   .simp only[s,if_true];exact⟨_,rfl,by simp[cP]⟩
   .simp_all
  |_=>simp[cP]at h
 |bad=>intro c h hs;simp[nA]at hs| _=>intro c h _;cases c<;>simp_all [cP,Km.findLabel,Go.findLabel]
theorem Bm{n:Nat}(l:Nat):∀(k:List dS) (b:List Item),A2 (jV Q σ n X) k b->
  match Km.gotoIn l k with
  |some k'=>∃d,Go.gotoIn l b=aa d/\A2 (jV Q σ n X) k' d| none=>Go.gotoIn l b=ab
 |[],b,h=>by
  have:b=[]:=ag3 h.len.symm;subst this;rfl
 |x::k,[],h=>by have:=h.len;simp at this
 |x::k,y::b,h=>by
  obtain⟨q,g⟩:=h.of_cons;have z:=Bm l k b g;cases q with
  |inScope m hs=>
   rename_i a c;have j:=CS (Q:=Q) (σ:=σ) l a c m hs;simp only[Km.gotoIn,Go.gotoIn];cases v:Km.findLabel a l with
   |some r=>
    rw[v]at j;obtain⟨r',s,u⟩:=j;simp only[s];exact⟨_,rfl,A2.cons (.code u) (A2.cons (.inScope m hs) g)⟩
   |none=>
    simp_all
  |_=>exact z
def Xw:Option aD->List Item->Prop
 |none,b=>b=[]| some .ret,b=>∃k,b=.code .ret::k| some (.exit id),b=>∃k,b=.code (.exit id)::k/\Go.exitTo id k=ab| _,_=>False
end
section
open Go
variable{Q:Program}{σ:Nat->FuncId}{X:Wd}{call:eC}
def uC{L:Loc}(x:SR Q σ X)(v:X.dA I=aa L){ps:List P}{as bd:aD}{q:dB}{g:Option aD}(y:X.H[I]?=aa (.lp A J ps as bd q g d)) :
  ∃(n:Nat) (us:Array Value) (m:Array Tmp) (as' j:Code) (pend':Option Code) (u:Loc),
   X.w.heap[L.c]?=aa (.loop { state:=q.of,pending:=pend',fn:=σ A,tmps:=us,params:=m,assign:=as',body:=j,defers:=u.c })/\
   n<=us.size/\RR σ X J us/\iD (λp (q:P)=>q.toNat == p&&decide (p<n)) m.toList ps=ae/\cP Q σ n as' as=ae/\cP Q σ n j bd=ae/\BB Q σ n g pend'/\X.dA d=aa u/\∃o,X.H[d]?=aa (.dH o):=by
 obtain⟨_,_,cV,l,s⟩:=x.br I L v;rw[y]at l;cases l;exact s
def DC(t:SR Q σ X){L:Loc}(f:X.dA m=aa L){ps:List P}{as bd:aD}{q q':dB}{x pend1:Option aD}(y:X.H[m]?=aa (.lp I J ps as bd q x d))
{us:Array Value} {j:Array Tmp} {as' g:Code} {pend':Option Code} {s:Loc}
  (O:A<=us.size) (S:RR σ X J us) (U:iD (λp (q:P)=>q.toNat == p&&decide (p<A)) j.toList ps=ae) (W:cP Q σ A as' as=ae) (Y:cP Q σ A g bd=ae) (a:BB Q σ A pend1 pend') (c:X.dA d=aa s) (F:∃o,X.H[d]?=aa (.dH o)) :
  SR Q σ { X with H:=X.H.set m (.lp I J ps as bd q' pend1 d),w:=X.w.putObj L.c (.loop { state:=q'.of,pending:=pend',fn:=σ I,tmps:=us,params:=j,assign:=as',body:=g,defers:=s.c }) }/\
  Ext X.H.length X { X with H:=X.H.set m (.lp I J ps as bd q' pend1 d),w:=X.w.putObj L.c (.loop { state:=q'.of,pending:=pend',fn:=σ I,tmps:=us,params:=j,assign:=as',body:=g,defers:=s.c }) }:=by
 obtain⟨b,k,i,M,N,e,K,u,_⟩:=uC t f y;have z:m<X.H.length:=(aft.1 y).1;refine SR.vn (o':=.loop { state:=q'.of,pending:=pend',fn:=σ I,tmps:=us,params:=j,assign:=as',body:=g,defers:=s.c }) (blk':=.lp I J ps as bd q' pend1 d) t y f u bv bv
  (λcV l=>⟨.lp I J ps as bd q' pend1 d,by simp[z],by rw[y]at l;cases l;exact⟨⟨rfl,rfl,rfl,rfl,rfl,rfl⟩,λL h=>h⟩⟩)
  (λX' B n _ v r=>?_)
 obtain⟨o,F⟩:=F;refine⟨A,us,j,as',g,pend',s,n,O,RR.ext' σ B S,U,W,Y,a,by rw[v];exact c,o,?_⟩
 grind
end
section
open Go
variable{Q:Program}{σ:Nat->FuncId}{call:eC}
structure Way(Q:Program)(σ:Nat->FuncId)(fn:Nat)(n:Nat)(b:Frame)(cs:List Frame)(ro:Option Nat)(todo:List dS)(items:List Item)(s:St)(X:Wd)(a:Act):Prop where
 fr:Fr Q σ n X s a
 items:A2 (jV Q σ n X) todo items
 ro:RoR X ro b.roundOf
 kind:mh b cs
 fn:b.fn=σ fn
theorem Way.ext{fn n:Nat}{b:Frame}{cs:List Frame}{ro:Option Nat}{j:List dS}{items:List Item}{s m:St}{X X':Wd}{a a':Act}(h:Way Q σ fn n b cs ro j items s X a){g:List dS}{d:List Item}(l:Ext X.H.length X X')(q:Fr Q σ n X' m a')
  (hi:A2 (jV Q σ n X) g d):Way Q σ fn n b cs ro g d m X' a':=
 ⟨q,hi.oF λ_ _ h=>h.ext l,h.ro.ext l,h.kind,h.fn⟩
def Way.to{cs:List Frame}{ro:Option Nat}{j:List dS}{items:List Item}{X:Wd}{a:Act}(h:Way Q σ m I Y cs ro j items O X a){g:List dS}{d:List Item}
  (hi:A2 (jV Q σ I X) g d):Way Q σ m I Y cs ro g d O X a:=⟨h.fr,hi,h.ro,h.kind,h.fn⟩
def acw(Q:Program)(σ:Nat->FuncId)(call:eC)(fn m:Nat):Prop:=
 ∀(n:Nat) (b:Frame) (cs:List Frame) ro l g s X a j q,run call fn m ro l s=aa (j,q)->Way Q σ fn n b cs ro l g s X a->
  ∃X' a' d,Steps Q (lone (b.atR a g) cs X.w) (lone (b.atR a' d) cs X'.w)/\Fr Q σ n X' q a'/\Ext X.H.length X X'/\a'.tmps.size=a.tmps.size/\Xw j d
def Ax{a:Act}{k:List Item}{cs:List Frame}{w:World}{body:Code}:step Q (lone (Y.atR a (.inScope body::k)) cs w)=.next (lone (Y.atR a k) cs w):=
 step_lone_go (by simp[stepG,stepG.exec,Frame.atR])
def F3{a:Act}{k:List Item}{cs:List Frame}{w:World}{body:Code}:step Q (lone (Y.atR a (.code (.scope body)::k)) cs w)=.next (lone (Y.atR a (.code body::.inScope body::k)) cs w):=
 step_lone_go (by simp[stepG,stepG.exec,Frame.atR])
def Sv(hC:ik Q σ call)(j7:Q.follows .mixedOrders=ae)(fn:Nat):∀m,acw Q σ call fn m:=by
 intro m;induction m with
 |zero=>intro n b cs ro g_ J s X a H s' h;simp[run]at h
 |succ m ih=>
  intro n b cs ro g_ J s X a H s' h z;have go:∀{B j},run call fn m ro B s=aa (H,s')->A2 (jV Q σ n X) B j->step Q (lone (b.atR a J) cs X.w)=.next (lone (b.atR a j) cs X.w)->
    ∃X' a' j,Steps Q (lone (b.atR a J) cs X.w) (lone (b.atR a' j) cs X'.w)/\Fr Q σ n X' s' a'/\Ext X.H.length X X'/\a'.tmps.size=a.tmps.size/\Xw H j:=by
   intro B j hr hi W;obtain⟨X',a',it,g1,N⟩:=ih n b cs ro B j s X a H s' hr (z.to hi);exact⟨X',a',it,.head W g1,N⟩
  cases g_ with
  |nil=>
   have:J=[]:=ag3 z.items.len.symm;subst this;simp only[run,AT,agO]at h;obtain⟨rfl,rfl⟩:=h;exact⟨X,a,[],Steps.refl _ _,z.fr,Ext.refl _ _,rfl,rfl⟩
  |cons x k=>
   cases J with
   |nil=>have:=z.items.len;simp at this
   |cons it M=>
    obtain⟨hx,A⟩:=z.items.of_cons;cases hx with
    |inBlock id=>exact go (by simpa[run]using h) A stepR_inBlock
    |inLoop F=>exact go (by simpa[run]using h) (A2.cons (.code F) (A2.cons (.inLoop F) A)) stepR_inLoop
    |inScope F hs=>exact go (by simpa[run]using h) A Ax
    |mL hb hl=>
     rename_i bb L;simp only[run]at h;split at h
     .rename_i f t ps as bd q f_ d K;split at h
      .simp_all
      .rename_i hq;rw[<-z.fr.heap]at K;obtain⟨m0,us,b_,as',Y,pend',Ld,d9,h2,h3,h4,h5,h6,h7,h8,h9⟩:=uC z.fr.sr hb K;obtain⟨g1,N⟩:=DC z.fr.sr hb K (q':=.exhausted) h2 h3 h4 h5 h6 h7 h8 h9;have o_:(q.of)≠LoopState.busy:=by cases q<;>simp[dB.of]at hq ⊢
       have W:=stepR_endRangeFunc (P:=Q) (b:=b) (a:=a) (k:=M) (cs:=cs) (run_endLoop (P:=Q) d9 o_);have key:∀{B j},run call fn m ro B { s with heap:=s.heap.set bb (.lp f t ps as bd .exhausted f_ d) }=aa (H,s')->A2 (jV Q σ n X) B j->j=(pend'.map Item.code).toList++M->
         ∃X' a' j,Steps Q (lone (b.atR a (.endRangeFunc L.c::M)) cs X.w) (lone (b.atR a' j) cs X'.w)/\Fr Q σ n X' s' a'/\Ext X.H.length X X'/\a'.tmps.size=a.tmps.size/\Xw H j:=by
        intro B j hr hi he;obtain⟨X',a',it,k1,k2,k3,k4,k5⟩:=ih n b cs ro B j _ _ a H s' hr (z.ext (a':=a) N ⟨by rw[<-z.fr.heap],g1,by simpa[World.putObj]using z.fr.b,z.fr.aT.ext' σ N,z.fr.defs.ext' N,z.fr.size⟩ hi);rw[he]at k1;exact⟨X',a',it,.head W k1,k2,N.trans (k3.mono N.len),k4,k5⟩
       split at h
       .cases pend' with
        |none=>exact key h A rfl| some c=>exact h7.elim
       .cases pend' with
        |none=>exact h7.elim
        |some c=>
         have h7:cP Q σ m0 c .ret=ae:=h7;cases c<;>simp[cP]at h7;exact key h (A2.cons (.code (by simp[cP])) A) rfl
       .rename_i id;cases pend' with
        |none=>exact h7.elim
        |some c=>
         have h7:cP Q σ m0 c (.exit id)=ae:=h7;cases c<;>simp[cP]at h7;subst h7;exact key h (A2.cons (.code (by simp[cP])) A) rfl
       .simp_all
     .simp_all
    |rP=>
     simp only[run]at h;split at h
     .simp_all
     .rename_i bb;split at h
      .rename_i f t ps as bd f_ d K;have U:=z.ro;cases i6:b.roundOf with
       |none=>rw[i6]at U;exact U.elim
       |some l=>
        rw[i6]at U;obtain⟨L,hL,rfl,_⟩:=U;rw[<-z.fr.heap]at K;obtain⟨m0,us,b_,as',Y,pend',Ld,d9,h2,h3,h4,h5,h6,h7,h8,h9⟩:=uC z.fr.sr hL K;obtain⟨g1,N⟩:=DC z.fr.sr hL K (q':=.busy) h2 h3 h4 h5 h6 h7 h8 h9;have W:=stepR_beginRound (P:=Q) (b:=b) (a:=a) (k:=M) (cs:=cs) i6 (run_beginRound (P:=Q) d9 rfl);obtain⟨X',a',it,k1,k2,k3,k4,k5⟩:=ih n b cs _ k M _ _ a H s' h (z.ext (a':=a) N ⟨by rw[<-z.fr.heap],g1,by simpa[World.putObj]using z.fr.b,z.fr.aT.ext' σ N,z.fr.defs.ext' N,z.fr.size⟩ A);exact⟨X',a',it,.head W k1,k2,N.trans (k3.mono N.len),k4,k5⟩
      .simp_all
    |code F=>
     rename_i ac c;cases ac with
     |bad=>simp[run]at h| skip=>cases c<;>simp[cP]at F;exact go (by simpa[run]using h) A stepR_skip
     |label l=>cases c<;>simp[cP]at F;exact go (by simpa[run]using h) A stepR_label
     |scope p=>
      cases c<;>simp[cP]at F;exact go (by simpa[run]using h) (A2.cons (.code F.1) (A2.cons (.inScope F.1 F.2) A)) F3
     |goto l=>
      cases c<;>simp[cP]at F;subst F;rename_i l';have S:=Bm (Q:=Q) (σ:=σ) (n:=n) (X:=X) l' k M A;simp only[run]at h;split at h
      .rename_i k' I;rw[I]at S;obtain⟨r_,he,c_⟩:=S;exact go h c_ (stepR_goto he)
      .simp_all
     |ret=>
      cases c<;>simp[cP]at F;simp only[run,AT,agO]at h;obtain⟨rfl,rfl⟩:=h;exact⟨X,a,_,Steps.refl _ _,z.fr,Ext.refl _ _,rfl,M,rfl⟩
     |seq p q=>
      cases c<;>simp[cP]at F;exact go (by simpa[run]using h) (A2.cons (.code F.1) (A2.cons (.code F.2) A)) stepR_seq
     |block id p=>
      cases c<;>simp[cP]at F;obtain⟨rfl,F⟩:=F;exact go (by simpa[run]using h) (A2.cons (.code F) (A2.cons (.inBlock _) A)) stepR_block
     |loop p=>
      cases c<;>simp[cP]at F;exact go (by simpa[run]using h) (A2.cons (.code F) (A2.cons (.inLoop F) A)) stepR_loop
     |exit id=>
      cases c<;>simp[cP]at F;subst F;rename_i r9;have S:=Be (Q:=Q) (σ:=σ) (n:=n) (X:=X) r9 k M A;simp only[run]at h;split at h
      .rename_i k' I;rw[I]at S;obtain⟨r_,he,c_⟩:=S;exact go h c_ (stepR_exit he)
      .rename_i I;rw[I]at S;split at h
       .simp only[AT,agO]at h;obtain⟨rfl,rfl⟩:=h;exact⟨X,a,_,Steps.refl _ _,z.fr,Ext.refl _ _,rfl,M,rfl,S⟩
       .simp_all
     |cond x p q=>
      cases c<;>simp[cP]at F;simp only[run]at h;split at h
      .rename_i v hv;have hx:=cQ z.fr.aT F.1.1;rw[hv]at hx;have r7:dJ σ X.F X.w (.bool v) _:=hx;have he:∀u,dJ σ X.F X.w (.bool v) u->u=.bool v:=λu hu=>by cases hu;rfl
       refine go h ?_ (stepR_cond (he _ r7));cases v
       .exact A2.cons (.code F.2) A
       .exact A2.cons (.code F.1.2) A
      .simp_all
     |region aos jU=>
      cases c with
      |region id ops s7=>
       simp only[run]at h;split at h
       .simp_all
       .rename_i U;split at h
        .rename_i s1 h1;have p9:∀y∈aos,jK y.op b:=by
          intro y hy;unfold jK;cases ro with
          |none=>
           refine .inl ?_;have:=z.ro;cases hb:b.roundOf with
           |none=>rfl| some l=>rw[hb]at this;exact this.elim
          |some r=>
           simp_all
         obtain⟨X1,a1,g1,N,g3,g4⟩:=Nt hC j7 F z.kind p9 (k:=M) z.fr h1;obtain⟨X',a',it,k1,k2,k3,k4,k5⟩:=ih n b cs ro k M s1 X1 a1 H s' h (z.ext g3 N A);exact⟨X',a',it,g1.trans k1,k2,g3.trans (k3.mono g3.len),k4.trans g4,k5⟩
        .simp_all
      |_=>simp[cP]at F
     |nL f ps as bd=>
      cases c with
      |rangeFunc f' b_ as' Y=>
       simp only[cP,IS]at F;obtain⟨⟨⟨m_,n8⟩,n9⟩,n_⟩:=F;simp only[run]at h;split at h
       .simp_all
       .rename_i U;have p_:b.roundOf=ab:=by
         have:=z.ro;cases ro with
         |some r=>simp at U
         |none=>
          cases hb:b.roundOf with
          |none=>rfl| some l=>rw[hb]at this;exact this.elim
        split at h
        .rename_i g args j5;split at h
         .rename_i r2 H2 O;obtain⟨X1,w1,H1,S1,E1,r1,B1⟩:=SR.new z.fr.sr z.fr.b (.dH ae) (fG.alloc X.w (.deferred (aa []))) 0 (λX' hx hw hF hH=>by
           show X'.w.heap[X.w.heap.size]?=_;rw[hw];exact(fG.alloc X.w (.deferred (aa []))).new)
          have j6:X1.H[X.H.length]?=aa (.dH ae):=by rw[H1];simp
          have d_:X.H.length<X1.H.length:=by rw[H1];simp
          have j8:X1.w.heap.size=X.w.heap.size+1:=by rw[w1];simp
          obtain⟨X2,w2,j9,S2,E2,i8,B2⟩:=SR.new S1 B1 (.lp fn s.aT ps as bd .ready ab s.heap.length)
           (fG.alloc X1.w (.loop { state:=.ready,pending:=ab,fn:=b.fn,tmps:=a.tmps,params:=b_,assign:=as',body:=Y,defers:=X.w.heap.size })) 0 (λX' hx hw hF hH=>by
            obtain⟨blk',h_,I⟩:=hx.bS X.H.length d_ _ j6;cases blk'<;>simp only at I;refine⟨n,a.tmps,b_,as',Y,ab,⟨X.w.heap.size,0⟩,?_,z.fr.size,RR.ext' σ hx (RR.ext' σ E1 z.fr.aT),n8,n9,n_,trivial,?_,?_⟩
            .show X'.w.heap[X1.w.heap.size]?=_;rw[hw,(fG.alloc X1.w (.loop { state:=.ready,pending:=ab,fn:=b.fn,tmps:=a.tmps,params:=b_,assign:=as',body:=Y,defers:=X.w.heap.size })).new,z.fn];rfl
            .rw[<-z.fr.heap];exact I _ r1
            .rw[<-z.fr.heap];exact⟨_,h_⟩)
          have i7:Ext X.H.length X X2:=E1.trans (E2.mono E1.len);have i9:X2.H=s.heap++[.dH ae,.lp fn s.aT ps as bd .ready ab s.heap.length]:=by rw[j9,H1,<-z.fr.heap];simp
          have m9:X1.H.length=s.heap.length+1:=by rw[H1,<-z.fr.heap];simp
          have K:Hz X2 (s.heap.length+1):=⟨fn,s.aT,ps,as,bd,.ready,ab,s.heap.length,by rw[i9,agL ap];simp⟩
          rw[m9,j8]at i8;have i_:A2 (VR σ X2) [.c (.yl (s.heap.length+1))] [.func (.yield (X.w.heap.size+1)) #[] #[]]:=A2.cons ⟨⟨X.w.heap.size+1,0⟩,i8,K,rfl⟩ A2.nil;obtain⟨fst,cap,q_,r6⟩:=sK j5 (VR.ext' σ i7 (cQ z.fr.aT m_)) i_;rw[<-i9]at O;have l_:=hC.enters _ _ _ _ O
          let a1:Act:={ a with defers:={ target:=.collected X.w.heap.size,args:=#[] }::a.defers }
          obtain⟨fr,X3,u,q1,⟨l1,l2,l3,l4,j_,l5,l6⟩,q3,q4,q5,q6,q7⟩:=hC.fn g args _ r2 H2 O X2 _ .normal (b.atR a1 (.inRangeFunc (X.w.heap.size+1)::M)::cs) rfl S2 B2 r6 (.inl rfl) (.inl rfl);have W:step Q (lone (b.atR a (.code (.rangeFunc f' b_ as' Y)::M)) cs X.w)=.next (lone (Frame.enter Q (σ g) (fst.toArray++#[.func (.yield (X.w.heap.size+1)) #[] #[]]++cap.toArray) .normal) (b.atR a1 (.inRangeFunc (X.w.heap.size+1)::M)::cs) X2.w):=by
           refine stepR_rangeFunc (P:=Q) (b:=b) (a:=a) (k:=M) (cs:=cs) (l:=X.w.heap.size+1) (mark:=[{ target:=.collected X.w.heap.size,args:=#[] }]) (w₁:=X2.w) (w₁':=X2.w) (d:={ target:=.fn (.func (σ g)) cap.toArray,args:=fst.toArray++#[.func (.yield (X.w.heap.size+1)) #[] #[]] }) ?_ ?_ ?_
           .rw[p_,run_enterLoop_outer,w2,w1]
           .simp only[resolve,q_,Deferred.ofValue,Sem.run_bind,Sem.run_pure,Result.andThen_ok];simp[Act.eval]
           .exact gX l_
          have a_:Ext X.H.length X X3:=i7.trans (q6.mono i7.len);have c9:=step_leave_returned (P:=Q) (c:=b.atR a1 (.inRangeFunc (X.w.heap.size+1)::M)) (cs:=cs) (show fr.leaving Q X3.w (.returned u) from⟨l1,l2,l3,j_,by rw[l4];exact l5,l6⟩);rw[finish_atR_inRangeFunc]at c9;have e_:=K.ext q6;have k_:xX σ X3 (.dR s.heap.length) { target:=.collected X.w.heap.size,args:=#[] }:=by
           obtain⟨blk',h_,I⟩:=(E2.trans (q6.mono E2.len)).bS X.H.length d_ _ j6;cases blk'<;>simp only at I;rw[<-z.fr.heap];exact⟨⟨X.w.heap.size,0⟩,_,I _ r1,h_,rfl⟩
          obtain⟨X',a',it,k1,k2,k3,k4,k5⟩:=ih n b cs ro (.mL (s.heap.length+1)::k) (.endRangeFunc (X.w.heap.size+1)::M) _ X3 a1 H s' h
           ⟨⟨q3,q4,q7,RR.ext' σ a_ z.fr.aT,A2.cons k_ (z.fr.defs.ext' a_),z.fr.size⟩,A2.cons (.mL (e_.2 _ i8) e_.1) (A.oF λ_ _ h=>h.ext a_),z.ro.ext a_,z.kind,z.fn⟩
          refine⟨X',a',it,.head W (Steps.trans ?_ (.head c9 k1)),k2,a_.trans (k3.mono a_.len),k4,k5⟩;simp_all
         .simp_all
        .simp_all
      |_=>simp[cP]at F
end
section
open Go
variable{Q:Program}{σ:Nat->FuncId}{X:Wd}{call:eC}
def G0(Q:Program)(σ:Nat->FuncId)(rT:Nat->List V->an->Option (Option (V × an))):Prop:=
 ∀f args H r H',rT f args H=aa (aa (r,H'))->
  (∀as w,(callFunc (σ f) as).run Q w=.ok (.enter (σ f) as) w)/\
  ∀(X:Wd) us b cs,X.H=H->SR Q σ X->X.B<=X.w.heap.size->A2 (VR σ X) args us->ta b cs->b=.normal\/f≠v8->
   ∃d X' u,Steps Q (lone (Frame.enter Q (σ f) us.toArray b) cs X.w) (lone d cs X'.w)/\Leaves Q (σ f) b d u X'.w/\iC Q σ X r H' X' u
structure Env(Q:Program)(σ:Nat->FuncId)(tab:Nat->Option aS)(rT:Nat->List V->an->Option (Option (V × an))):Prop where
 mix:Q.follows .mixedOrders=ae
 fn:∀f af,tab f=aa af->∃fn,Q.funcs[σ f]?=aa fn/\BA Q σ fn af=ae
 rT:G0 Q σ rT
theorem zI:∀(ps:List P) (args:List V) (t:T) (s:Nat),ps.map P.toNat=List.range' s ps.length->args.length=ps.length->∀q:P,
  (dw ps args t).get q=if s<=q.toNat then(args[q.toNat-s]?).getD (t.get q)else t.get q
 |[],args,t,s,_,b,q=>by
  have:args=[]:=ag3 b;subst this;simp[dw]
 |p::ps,[],t,s,_,b,q=>by simp at b
 |p::ps,v::m,t,s,d,b,q=>by
  simp only[IT,ahk,List.range'_succ,List.cons.injEq]at d;have l:=zI ps m (t.set p v) (s+1) d.2 (by simpa using b) q;simp only[dw,l];by_cases g:p=q
  .subst g;rw[cC ap,T.uo];simp_all
  .have j:q.toNat≠s:=λe=>g (P.toNat_inj (d.1.trans e.symm));simp only[T.uo,g,if_false]
   grind
theorem RR.dw:∀(ps:List P) (b:List Tmp) (args:List V) (us:List Value) (aT:T) (tmps:Array Value) (n:Nat),n<=tmps.size->RR σ X aT tmps->A2 (VR σ X) args us->args.length=ps.length->
  iD (λp (q:P)=>q.toNat == p&&decide (p<n)) b ps=ae->RR σ X (Km.dw ps args aT) ((b.zip us).foldl (λtmps (t,a)=>tmps.setIfInBounds t a) tmps)
 |[],b,args,us,aT,tmps,n,j,g,d,hl,h=>by
  have:args=[]:=ag3 hl;subst this;have:us=[]:=ag3 d.len.symm;subst this;simpa[Km.dw]using g
 |p::ps,[],args,us,aT,tmps,n,j,g,d,hl,h=>by simp[iD]at h
 |p::ps,m::b,[],us,aT,tmps,n,j,g,d,hl,h=>by simp at hl
 |p::ps,m::b,v::s,[],aT,tmps,n,j,g,d,hl,h=>by have:=d.len;simp at this
 |p::ps,m::b,v::s,u::us,aT,tmps,n,j,g,d,hl,h=>by
  simp only[iD,IS,beq_iff_eq,decide_eq_true_eq]at h;obtain⟨⟨h1,h2⟩,h3⟩:=h;obtain⟨l,d⟩:=d.of_cons;subst h1;refine RR.dw ps b s us _ _ n (by simpa using j) (RR.set σ g ap l) d (by simpa using hl) h3
theorem xp:∀(l:List (Tmp × Value)) (tmps:Array Value),(l.foldl (λtmps (t,a)=>tmps.setIfInBounds t a) tmps).size=tmps.size
 |[],_=>rfl| x::l,tmps=>by rw[aiI,xp l];simp
def Su(fn:Nat):∀m d s b g,run call fn m ab d s=aa (b,g)->b=ab\/b=aa .ret:=by
 intro m;induction m with
 |zero=>intro d s b g h;simp[run]at h
 |succ m j=>
  intro d s b g h;unfold run at h
  grind
def wW{fn:Func}{af:aS}(h:BA Q σ fn af=ae):∃c,fn.name≠ "runtime.NumGoroutine"/\fn.body=aa c/\cP Q σ fn.ntmps c af.body=ae/\
  iD (Am Q fn.ntmps) fn.results.toList af.results=ae/\af.ps.map P.toNat=List.range af.ps.length:=by
 simp only[BA,IS,bne_iff_ne,ne_eq,decide_eq_true_eq]at h
 grind
def vg{f:FuncId}{fn:Func}{c:Code}(hf:Q.funcs[f]?=aa fn)(hn:fn.name≠ "runtime.NumGoroutine")(hb:fn.body=aa c)(as:Array Value)(w:World):(callFunc f as).run Q w=.ok (.enter f as) w:=by
 simp[callFunc,hf,hn,hb]
def mv(g:FuncId)(d:CallKind)(tmps:Array Value)(ds:List Deferred)(b:Frame):Prop:=
 b.mode=.returning/\b.defers=ds/\b.kind=d/\b.fn=g/\b.tmps=tmps
def step_collected{cs:List Frame}{w w':World}{as:Array Value}{ds:List Deferred}(j:Y.mode=.returning)(g:Y.defers = { target:=.collected m,args:=as }::ds)
  (l:(Instr.takeDeferred m).run Q w=.ok [] w'):step Q (lone Y cs w)=.next (lone { Y with defers:=ds } cs w'):=
 step_lone_go (by simp[stepG,unwind,j,g,Sem.runT_eq,l])
def Ay{cs:List Frame}{w:World}{f:FuncId}{cap as as':Array Value}{ds:List Deferred}(g:Y.mode=.returning)(d:Y.defers = { target:=.fn (.func f) cap,args:=as }::ds)
  (j:(invoke (.fn (.func f) cap) as).run Q w=.ok (.enter f as') w):step Q (lone Y cs w)=.next (lone (Frame.enter Q f as' .deferred) ({ Y with defers:=ds }::cs) w):=
 step_lone_go (by simp[stepG,unwind,g,d,callDeferred,Sem.runT_eq,j])
def rX{c:Frame}{cs:List Frame}{w:World}{v:Value}{f:FuncId}(h:Leaves Q f .deferred Y v w)(hc:c.mode=.returning) :
  step Q (lone Y (c::cs) w)=.next (lone c cs w):=by
 obtain⟨q,j,m,l,fn,d,g⟩:=h;rw[<-l]at d;exact step_lone_go (by simp[stepG,unwind,doReturn,q,j,m,d,Sem.runT_eq,g,hc])
def mv.pop{g:FuncId}{kind:CallKind}{tmps:Array Value}{d:Deferred}{ds:List Deferred}(h:mv g kind tmps (d::ds) Y):mv g kind tmps ds { Y with defers:=ds }:=
 ⟨h.1,rfl,h.2.2.1,h.2.2.2.1,h.2.2.2.2⟩
theorem CP(I:ik Q σ call){g:FuncId}{y:CallKind}{tmps:Array Value}{cs:List Frame}:∀(ds:List gY) (X:Wd) (l:List Deferred) (q:Frame) (H':an),
  gd call ds X.H=aa H'->SR Q σ X->X.B<=X.w.heap.size->iV σ X ds l->mv g y tmps l q->
  ∃fr' X',Steps Q (lone q cs X.w) (lone fr' cs X'.w)/\mv g y tmps [] fr'/\X'.H=H'/\SR Q σ X'/\X'.B<=X'.w.heap.size/\Ext X.H.length X X'
 |[],X,l,q,H',h,B,F,z,j=>by
  have:l=[]:=ag3 z.len.symm;subst this;simp only[gd,AT]at h;exact⟨q,X,Steps.refl _ _,j,h,B,F,Ext.refl _ _⟩
 |d::ds,X,[],q,H',h,B,F,z,j=>by have:=z.len;simp at this
 | .dR b::ds,X,m::l,q,H',h,B,F,z,j=>by
  obtain⟨⟨L,o,h1,h2,rfl⟩,A⟩:=A2.of_cons z;simp only[gd]at h;split at h
  .rename_i J;obtain⟨_,_,cV,H,M⟩:=B.br b L h1;rw[J]at H;cases H;have x:X.w.heap[L.c]?=aa (.deferred (aa [])):=M;obtain⟨g1,K⟩:=SR.vn (o':=.deferred ab) (blk':=.dH ag) B J h1 x bv bv
    (λcV v=>⟨.dH ag,by simp[(aft.1 J).1],by rw[J]at v;cases v;exact λL h=>h⟩)
    (λX' c9 S _ a_ hH=>S)
   obtain⟨fr',X',U,W,Y,k4,k5,k6⟩:=CP I ds _ l { q with defers:=l } H' h g1 (by simpa using F) (iV.ext' K A) j.pop;exact⟨fr',X',.head (step_collected j.1 j.2.1 (run_takeDeferred x)) U,W,Y,k4,k5,K.trans (k6.mono K.len)⟩
  .simp at h
 | .fn f args::ds,X,m::l,q,H',h,B,F,z,j=>by
  obtain⟨⟨us,cap,rfl,hA⟩,A⟩:=A2.of_cons z;simp only[gd]at h;split at h
  .simp at h
  rename_i O;split at h
  .rename_i r H1 s;have N:=I.enters f args _ _ s;obtain⟨b_,X1,u,q1,q2,q3,q4,q5,q6,q7⟩:=I.fn f args _ r H1 s X _ .deferred ({ q with defers:=l }::cs) rfl B F hA (.inr ⟨rfl,_,_,rfl,j.1⟩) (.inr O);rw[<-q3]at h;obtain⟨fr',X',U,W,Y,k4,k5,k6⟩:=CP I ds X1 l { q with defers:=l } H' h q4 q7 (iV.ext' q6 A) j.pop;refine⟨fr',X',.head (Ay (as':=us++cap) j.1 j.2.1 (gX N)) (Steps.trans ?_ (.head (rX (c:={ q with defers:=l }) q2 j.1) U)),W,Y,k4,k5,q6.trans (k6.mono q6.len)⟩;have e:(us.toList++cap.toList).toArray=us++cap:=by apply Array.ext';simp
   simp_all
  .simp at h
def Z8(F:SR Q σ X){aT:T}{tmps:Array Value}(m:RR σ X aT tmps){r:ResultVar}{a:jZ}(g:Am Q d r a=ae)
  (h:cB aT X.H a=aa B):∃u,(match r with| .tmp t=>pure (tmps.getD t undef)| .cell a t=>do loadVar t (<-asAddr (tmps.getD a undef)):Sem Value).run Q X.w=.ok u X.w/\kg σ X B u:=by
 cases r with
 |tmp t=>
  cases a with
  |tmp p=>
   simp only[Am,IS,beq_iff_eq,decide_eq_true_eq]at g;have n:=m p;rw[g.1]at n;simp only[cB]at h;refine⟨_,rfl,?_⟩;split at h
   .simp at h
   .rename_i j;simp only[AT]at h;rw[h]at n;cases B with
    |t I=>exact absurd h (j I)| top=>trivial| c x=>exact n| a xs=>exact n
  |cell p k=>simp[Am]at g
 |cell t J=>
  cases a with
  |tmp p=>simp[Am]at g
  |cell p k=>
   simp only[Am,IS,beq_iff_eq,decide_eq_true_eq]at g;have n:=m p;rw[g.1.1]at n;simp only[cB]at h;cases q:aT.get p with
   |c x=>
    rw[q]at h n;simp only[aV,ahh]at h;obtain⟨cs,s,b⟩:=h;obtain⟨c,o,us,H,z,A⟩:=yC F n s;obtain⟨u,v,l⟩:=F5 g.2 z A b;refine⟨u,by simp[H,asAddr,v],?_⟩;cases k with
    |none=>cases cs with
     |nil=>simp[aX]at b| cons y ys=>simp only[aX,AT]at b;subst b;exact l
    |some k=>
     simp only[aX]at b;split at b
     .simp only[AT]at b;subst b;exact l
     .simp_all
   |_=>rw[q]at h;simp[aV]at h
def Iv(K:SR Q σ X){fn:Func}{l:List jZ}(L:iD (Am Q fn.ntmps) fn.results.toList l=ae){aT:T}{tmps:Array Value}(J:RR σ X aT tmps)
  (h:Km.results aT X.H l=aa B):∃u,(Go.results fn tmps).run Q X.w=.ok u X.w/\VR σ X B u:=by
 have key:∀(l:List jZ) (qs:List ResultVar) (j:List V),iD (Am Q fn.ntmps) qs l=ae->bC (cB aT X.H) l=aa j->
   ∃us:List Value,(qs.mapM (λr=>match r with| .tmp t=>pure (tmps.getD t undef)| .cell a t=>do loadVar t (<-asAddr (tmps.getD a undef)):ResultVar->Sem Value)).run Q X.w=.ok us X.w/\A2 (kg σ X) j us:=by
  intro l;induction l with
  |nil=>
   intro qs j x m;cases qs with
   |nil=>simp only[bC,AT]at m;subst m;exact⟨[],rfl,A2.nil⟩| cons q qs=>simp[iD]at x
  |cons a l M=>
   intro qs j x m;cases qs with
   |nil=>simp[iD]at x
   |cons q qs=>
    simp only[iD,IS]at x;simp only[bC]at m;split at m
    .simp_all
    .rename_i A F;split at m
     .simp_all
     .rename_i v H;simp only[AT]at m;subst m;obtain⟨u,s,b⟩:=Z8 K J x.1 F;obtain⟨us,N,I⟩:=M qs v x.2 H;refine⟨u::us,?_,A2.cons b I⟩;simp_all
 unfold Km.results at h;have y:∀j,bC (cB aT X.H) l=aa j->∃us:List Value,(Go.results fn tmps).run Q X.w=.ok (if h:us.toArray.size=1 then us.toArray[0]else .tuple us.toArray) X.w/\A2 (kg σ X) j us:=by
  intro j g;obtain⟨us,s,b⟩:=key l fn.results.toList j L g;refine⟨us,?_,b⟩;unfold Go.results;rw[Array.mapM_eq_mapM_toList,Sem.run_bind,Sem.run_map];exact(congrArg (λr:Result (List Value)=>(r.andThen λa w'=>Result.ok a.toArray w').andThen λa w'=>Sem.run Q (pure (if h:a.size=1 then a[0]else Value.tuple a)) w') s).trans rfl
 split at h
 .rename_i A g;simp only[AT]at h;subst h;obtain⟨us,s,b⟩:=y _ g
  match us,b with
  |[u],b=>exact⟨u,s,VR.Ta σ b.of_cons.1⟩| [],b=>have:=b.len;simp at this| _::_::_,b=>have:=b.len;simp at this
 .rename_i j z g;simp only[AT]at h;subst h;obtain⟨us,s,b⟩:=y _ g;refine⟨.tuple us.toArray,?_,us,rfl,b⟩;rw[s,dif_neg];intro d
  match us,d with
  |[u],_=>
   match j,b with
   |[A],_=>exact z A rfl| [],b=>have:=b.len;simp at this| _::_::_,b=>have:=b.len;simp at this
  |[],d=>simp at d| _::_::_,d=>simp at d
 .simp at h
end
section
open Go
variable{Q:Program}{σ:Nat->FuncId}{tab:Nat->Option aS}{rT:Nat->List V->an->Option (Option (V × an))}
def acW(t:Env Q σ tab rT){call:eC}(o:ik Q σ call){j:aS}(K:tab d=aa j){args:List V}(H:args.length=j.ps.length){x:Option aD}{X:Wd}
  (v:run call d m ab [.code j.body] ⟨dw j.ps args .e,[],X.H⟩=aa (x,O)) {H':an} (l:gd call O.defs O.heap=aa H') (s:Km.results O.aT H' j.results=aa B)
  {us:List Value} {f:CallKind} {cs:List Frame} (hS:SR Q σ X) (hB:X.B<=X.w.heap.size) (n:A2 (VR σ X) args us) (hk:ta f cs) :
  ∃a X' u,Steps Q (lone (Frame.enter Q (σ d) us.toArray f) cs X.w) (lone a cs X'.w)/\Leaves Q (σ d) f a u X'.w/\iC Q σ X B H' X' u:=by
 obtain⟨fn,w,hm⟩:=t.fn d j K;obtain⟨c,A,y,z,U,S⟩:=wW hm
 let b:Frame:=Frame.enter Q (σ d) us.toArray f
 let a0:Act:={ tmps:=us.toArray++Array.replicate (fn.ntmps-us.toArray.size) undef,defers:=[] }
 have hb:b=b.atR a0 [.code c]:=by
  simp[b,a0,Frame.enter,Frame.atR,w,y]
 have W:fn.ntmps<=a0.tmps.size:=by simp[a0];omega
 have N:RR σ X (dw j.ps args .e) a0.tmps:=by
  intro p;rw[zI j.ps args .e 0 (by rw[S,List.range_eq_range']) H p];simp only[aih,if_true,Nat.sub_zero];by_cases hp:p.toNat<args.length
  .have hx:=BY hp;have I:p.toNat<us.length:=n.len▸hp;have hy:=BY I;have hv:=n.2 _ _ _ hx hy;rw[hx];have:a0.tmps.getD p.toNat undef=us[p.toNat]:=by
    simp[a0,Array.getD_eq_getD_getElem?,Array.getElem?_append,I]
   simp_all
  .rw[List.getElem?_eq_none ap];cases p<;>trivial
 have hF:Fr Q σ fn.ntmps X ⟨dw j.ps args .e,[],X.H⟩ a0:=⟨rfl,hS,hB,N,A2.nil,W⟩
 have hW:Way Q σ d fn.ntmps b cs ab [.code j.body] [.code c] ⟨dw j.ps args .e,[],X.H⟩ X a0:=⟨hF,A2.cons (.code z) A2.nil,trivial,hk,rfl⟩
 obtain⟨L,a1,g,s1,r,E1,_,Y⟩:=Sv o t.mix d m fn.ntmps b cs ab _ _ _ X a0 x O v hW;have J:∃q,Steps Q (lone (b.atR a1 g) cs L.w) (lone q cs L.w)/\mv (σ d) f a1.tmps a1.defers q:=by
  rcases Su d m _ _ _ _ v with rfl|rfl
  .have:g=[]:=Y;subst this;exact⟨_,.one (stepR_end rfl),rfl,rfl,rfl,rfl,rfl⟩
  .obtain⟨k,rfl⟩:=Y;exact⟨_,.one (stepR_ret rfl),rfl,rfl,rfl,rfl,rfl⟩
 obtain⟨q,s2,R1⟩:=J;rw[<-r.heap]at l;obtain⟨M,X2,s3,F,e,h,h3,i⟩:=CP o (cs:=cs) O.defs L a1.defers q H' l r.sr r.b r.defs R1;rw[<-e]at s;obtain⟨u,g1,g2⟩:=Iv h U (RR.ext' σ i r.aT) s;refine⟨M,X2,u,?_,⟨F.1,F.2.1,F.2.2.1,F.2.2.2.1,fn,w,by rw[F.2.2.2.2];exact g1⟩,e,h,g2,E1.trans (i.mono E1.len),h3⟩;show Steps Q (lone b cs X.w) _;rw[hb];exact s1.trans (s2.trans s3)
def S7(hE:Env Q σ tab rT){call:eC}(hC:ik Q σ call){tmps:T}{ps:List P}{bd:aD}{q:dB}{pd:Option aD}{X:Wd}(W:X.H[I]?=aa (.lp A tmps ps p bd q pd d))
  {args:List V} (U:args.length=ps.length) {g:Option aD} (a_:run call A m (aa I) [.code p,.rP,.code bd] ⟨dw ps args tmps,[],X.H⟩=aa (g,O)) (e_:O.defs.isEmpty=ae)
  {f':Nat} {K:List P} {as' b:aD} {q':dB} {pd':Option aD} {d':Nat} (y:O.heap[I]?=aa (.lp f' J K as' b q' pd' d'))
  {us:List Value} {cs:List Frame} {L:Loc} (hS:SR Q σ X) (hB:X.B<=X.w.heap.size) (hA:A2 (VR σ X) args us) (hL:X.dA I=aa L) :
  ∃A tmps p bd X' u,(Instr.yield L.c us.toArray).run Q X.w=.ok (.round L.c A tmps p bd) X.w/\
   Steps Q (lone (Frame.round L.c A tmps p bd .normal) (Y::cs) X.w) (lone (Y.finish u) cs X'.w)/\iC Q σ X (.bool g.isNone) (O.heap.set I (.lp f' J K as' b (if g.isNone then .ready else .done) g d')) X' u:=by
 obtain⟨n,ts,qs,z,f,h_,Ld,c,h2,h3,h4,h5,h6,h7,h8,h9⟩:=uC hS hL W;have hq:=(gH h4).len;have g_:us.toArray.size=qs.size:=by
  have:=hA.len;simp_all
 have hy:=run_yield (P:=Q) (args:=us.toArray) c g_
 let H:Array Value:=(qs.zip us.toArray).foldl (λtmps (t,a)=>tmps.setIfInBounds t a) ts
 have S:H=(qs.toList.zip us).foldl (λtmps (t,a)=>tmps.setIfInBounds t a) ts:=by
  simp only[H];rw[<-Array.foldl_toList];simp
 let a0:Act:={ tmps:=H,defers:=[] }
 let B:Frame:=Frame.round L.c (σ A) H z f .normal
 have d9:B=B.atR a0 [.code z,.beginRound,.code f]:=by simp[B,a0,Frame.round,Frame.atR]
 have d_:RR σ X (dw ps args tmps) H:=by
  rw[S];exact RR.dw ps qs.toList args us tmps ts n h2 h3 hA U h4
 have hn:n<=H.size:=by rw[S,xp];exact h2
 have hF:Fr Q σ n X ⟨dw ps args tmps,[],X.H⟩ a0:=⟨rfl,hS,hB,d_,A2.nil,hn⟩
 have F:Hz X I:=⟨_,_,_,_,_,_,_,_,W⟩
 have hW:Way Q σ A n B (Y::cs) (aa I) [.code p,.rP,.code bd] [.code z,.beginRound,.code f] ⟨dw ps args tmps,[],X.H⟩ X a0:=
  ⟨hF,A2.cons (.code h5) (A2.cons .rP (A2.cons (.code h6) A2.nil)),⟨L,hL,rfl,F⟩,.inl rfl,rfl⟩
 obtain⟨X1,a1,x,s1,N,E1,_,J1⟩:=Sv hC hE.mix A m n B (Y::cs) (aa I) _ _ _ X a0 g O a_ hW;have M:=(F.ext E1).2 _ hL;rw[<-N.heap]at y;obtain⟨n1,i7,i6,c9,c_,pend1,b_,s,k2,k3,k4,k5,k6,k7,k8,k9⟩:=uC N.sr M y;have v:∀(l:Option Code),BB Q σ n1 g l->l.isNone=g.isNone->step Q (lone (B.atR a1 x) (Y::cs) X1.w)=.next (lone (Y.finish (.bool l.isNone)) cs (X1.w.putObj L.c (.loop { state:=if l.isNone then .ready else .done,pending:=l,fn:=σ f',tmps:=i7,params:=i6,assign:=c9,body:=c_,defers:=b_.c })))->
   ∃A tmps p bd X' u,(Instr.yield L.c us.toArray).run Q X.w=.ok (.round L.c A tmps p bd) X.w/\
   Steps Q (lone (Frame.round L.c A tmps p bd .normal) (Y::cs) X.w) (lone (Y.finish u) cs X'.w)/\iC Q σ X (.bool g.isNone) (O.heap.set I (.lp f' J K as' b (if g.isNone then .ready else .done) g d')) X' u:=by
  intro l hj hn f_;obtain⟨g1,g2⟩:=DC N.sr M y (q':=if g.isNone then .ready else .done) (pend1:=g) (pend':=l) k2 k3 k4 k5 k6 hj k8 k9;have hq:(if g.isNone then dB.ready else dB.done).of=(if l.isNone then LoopState.ready else LoopState.done):=by
   rw[hn];cases g<;>rfl
  rw[hq]at g1 g2;refine⟨σ A,H,z,f,_,.bool l.isNone,hy,?_,?_,g1,?_,E1.trans (g2.mono E1.len),?_⟩
  .show Steps Q (lone B (Y::cs) X.w) _;rw[d9];exact s1.trans (.one f_)
  .rw[<-N.heap]
  .rw[hn];exact VR.zh _
  .have:=N.b;simpa[World.putObj]using this
 cases g with
 |none=>
  have:x=[]:=J1;subst this;exact v ab trivial rfl (stepR_round_end rfl rfl (run_endRound (P:=Q) ab s))
 |some j=>
  cases j with
  |ret=>
   obtain⟨k,rfl⟩:=J1;exact v (aa .ret) (by simp[BB,cP]) rfl (stepR_round_ret rfl rfl (run_endRound (P:=Q) (aa .ret) s))
  |exit id=>
   obtain⟨k,rfl,hx⟩:=J1;exact v (aa (.exit id)) (by simp[BB,cP]) rfl (stepR_round_exit rfl rfl hx (run_endRound (P:=Q) (aa (.exit id)) s))
  |_=>exact J1.elim
def Qx(x:Env Q σ tab rT)(m:Nat):∀d,ik Q σ (iW tab rT m d):=by
 intro d;induction d with
 |zero=>exact⟨λf args H r h=>by simp[iW]at h,λf args H r H' h=>by simp[iW]at h,λb args H r H' h=>by simp[iW]at h⟩
 |succ d W=>
  refine⟨λf args H r h=>?_,λf args H r H' h X us B cs K J I F Y M=>?_,λb args H r H' h X us c cs L K J I F hL=>?_⟩
  .simp only[iW]at h;split at h
   .rename_i r' O;obtain⟨r0,H0⟩:=r;exact(x.rT f args H r0 H0 (by rw[O,h])).1
   .split at h
    .simp_all
    .rename_i U l;obtain⟨fn,hf,hm⟩:=x.fn f U l;obtain⟨c,v,s,_⟩:=wW hm;exact vg hf v s
  .simp only[iW]at h;split at h
   .rename_i r' O;exact(x.rT f args H r H' (by rw[O,h])).2 X us B cs K J I F Y M
   .split at h
    .simp_all
    .rename_i U l;split at h
     .rename_i g;split at h
      .rename_i A s' j;split at h
       .rename_i H1 u;simp only[OF,agO]at h;obtain⟨r1,z,rfl,rfl⟩:=h;subst K;exact acW x W l g j u z J I F Y
       .simp_all
      .simp_all
     .simp_all
  .simp only[iW]at h;split at h
   .rename_i f tmps ps as bd q pd d' N;split at h
    .rename_i g;split at h
     .rename_i A s' j;split at h
      .rename_i hd;split at h
       .rename_i f' S c9 as' a_ q' pd' b_ y;simp only[AT,agO]at h;obtain⟨rfl,rfl⟩:=h;subst K;exact S7 x W N g j hd y J I F hL
       .simp_all
      .simp_all
     .simp_all
    .simp_all
   .simp at h
end
section
open Go
def yY:List C->Option (List Int):=bC fun
 | .f (.int .i64 n)=>aa n| _=>ab
def vk(l:List Int):List Int:=l.mergeSort λx y=>decide (x<=y)
def FX(H:an)(x:C):Option (V × an):=match bA H x with
 |none=>ab| some 0=>aa (.t [],H)
 |some _=>match x with
  | .sl b o l _ ep s=>match H[b]? with
   |some (.dz d cs fl e .loc)=>
    if o=0/\ep=e/\s=1/\d=1/\cs.length=l/\fl=0/\l<=1000000000 then(yY cs).map λzs=>(.t [],H.set b (.dz 1 ((vk zs).map λn=>.f (.int .i64 n)) 0 e .loc))else ab
   |_=>ab
  |_=>ab
def Gh(f:Nat)(args:List V)(H:an):Option (Option (V × an)):=if f=v8 then aa (match args with
 |[.c x]=>FX H x
 |_=>ab)else ab
end
section
open Go
def Cq(c1 c2:eC):Prop:=∀c args H r,c1 c args H=aa r->c2 c args H=aa r
section
variable{c1 c2:eC}(hc:Cq c1 c2)
include hc
def As{args:List V}{r:V × an}(H:iy c1 m args h=aa r):iy c2 m args h=aa r:=by
 unfold iy at H ⊢;split at H
 .simp at H
 .rename_i j d;split at H
  .simp at H
  .rename_i l g b;simp only[hc _ _ _ _ b];omega
def De{args:List V}{r:V × an}(H:mj c1 M m args h=aa r):mj c2 M m args h=aa r:=by
 unfold mj at H ⊢;split at H
 .rename_i d;simp only[d,if_true];exact hc _ _ _ _ H
 .rename_i d;simp only[d];exact As hc H
def Ch{op:et}{r:V × St}(h:jP c1 O op=aa r):jP c2 O op=aa r:=by
 cases op with
 |call f args b=>
  simp only[jP,OF]at h ⊢;obtain⟨a,d,rfl⟩:=h;exact⟨a,De hc d,rfl⟩
 |jr x args b=>
  simp only[jP]at h ⊢;split at h
  .simp only[OF]at h ⊢;obtain⟨a,d,rfl⟩:=h;exact⟨a,hc _ _ _ _ d,rfl⟩
  .omega
 |_=>exact h
def Aa{j:St}{o:bh}(h:jQ c1 O o=aa j):jQ c2 O o=aa j:=by
 unfold jQ at h ⊢;cases d:wanted O.aT o.g with
 |none=>simp[d]at h
 |some b=>
  cases b with
  |false=>simpa[d]using h
  |true=>
   simp only[d]at h ⊢;cases g:jP c1 O o.op with
   |none=>simp[g]at h
   |some x=>
    obtain⟨v,l⟩:=x;rw[Ch hc g];simp_all
theorem fh:∀(os:List bh) (s:St) {b:St},ja c1 os s=aa b->ja c2 os s=aa b
 |[],s,b,h=>h
 |o::os,s,b,h=>by
  simp only[ja]at h ⊢;split at h
  .rename_i g d;simp only[Aa hc d];exact fh os g h
  .simp at h
theorem vr:∀(os:List bh) (s:St) {ss:List St},gi c1 os s=aa ss->gi c2 os s=aa ss
 |[],s,ss,h=>h
 |o::os,s,ss,h=>by
  simp only[gi]at h ⊢;split at h
  .rename_i g b;simp only[Aa hc b];split at h
   .rename_i j d;simp only[vr os g d];omega
   .simp at h
  .simp at h
def DD{ops:List bh}{jU:List (Nat × Nat)}{d:St}(h:lu c1 ops jU O=aa d):lu c2 ops jU O=aa d:=by
 unfold lu at h ⊢;split at h
 .exact fh hc _ _ h
 .split at h
  .rename_i ss b;simp only[vr hc _ _ b];omega
  .simp at h
theorem vh{fn:Nat}:∀(n q:Nat) (ro:Option Nat) (d:List dS) (s:St) {r:Option aD × St},n<=q->
  run c1 fn n ro d s=aa r->run c2 fn q ro d s=aa r
 |0,_,_,_,_,_,_,h=>by simp[run]at h
 |n+1,0,_,_,_,_,y,_=>by omega
 |n+1,q+1,ro,d,s,r,y,h=>by
  have j:=λro d s r h=>vh (fn:=fn) n q ro d s (r:=r) ap h
  match d,h with
  |[],h=>exact h| .inBlock _::k,h=>exact j _ _ _ _ h| .inLoop c::k,h=>exact j _ _ _ _ h
  | .mL b::k,h=>
   simp only[run]at h ⊢
   grind
  | .rP::k,h=>
   simp only[run]at h ⊢
   grind
  | .code .skip::k,h=>exact j _ _ _ _ h| .inScope _::k,h=>exact j _ _ _ _ h| .code (.label _)::k,h=>exact j _ _ _ _ h| .code (.scope a)::k,h=>exact j _ _ _ _ h
  | .code (.goto l)::k,h=>
   simp only[run]at h ⊢
   grind
  | .code .bad::_,h=>simp[run]at h| .code .ret::_,h=>exact h
  | .code (.exit id)::k,h=>
   simp only[run]at h ⊢
   grind
  | .code (.seq a b)::k,h=>exact j _ _ _ _ h| .code (.block id a)::k,h=>exact j _ _ _ _ h| .code (.loop a)::k,h=>exact j _ _ _ _ h
  | .code (.cond c a b)::k,h=>
   simp only[run]at h ⊢
   grind
  | .code (.region ops jU)::k,h=>
   simp only[run]at h ⊢;split at h
   .simp at h
   .rename_i m
    try simp only[m]
    split at h
    .rename_i A u
     try simp only[DD hc u]
     grind
    .simp_all
  | .code (.nL f ps as bd)::k,h=>
   simp only[run]at h ⊢;split at h
   .simp at h
   .rename_i m
    try simp only[m]
    split at h
    .rename_i g args x
     try simp only[x]
     split at h
     .rename_i v z u
      try simp only[hc _ _ _ _ u]
      grind
     .simp_all
    .simp at h
theorem mq:∀(ds:List gY) (H:an) {H':an},gd c1 ds H=aa H'->gd c2 ds H=aa H'
 |[],H,H',h=>h
 | .dR b::ds,H,H',h=>by
  simp only[gd]at h ⊢;split at h
  .rename_i l;exact mq ds _ h
  .omega
 | .fn f args::ds,H,H',h=>by
  simp only[gd]at h ⊢;split at h
  .simp at h
  rename_i d;rw[cC d];split at h
  .rename_i v j g
   try simp only[hc _ _ _ _ g]
   exact mq ds _ h
  .simp at h
end
variable{tab:Nat->Option aS}{rT:Nat->List V->an->Option (Option (V × an))}
theorem yB{m g:Nat}(u:m<=g):∀(d d':Nat),d<=d'->Cq (iW tab rT m d) (iW tab rT g d')
 |0,_,_,_,_,_,_,h=>by simp[iW]at h
 |d+1,0,z,_,_,_,_,_=>by omega
 |d+1,d'+1,z,c,args,H,r,h=>by
  have v:Cq (iW tab rT m d) (iW tab rT g d'):=yB u d d' ap
  match c,h with
  | .fn f,h=>
   simp only[iW]at h ⊢;split at h
   .omega
   .rename_i A
    try simp only[A]
    split at h
    .omega
    .rename_i F l
     try simp only[l]
     split at h
     .rename_i q
      try simp only[q,if_true]
      split at h
      .rename_i j s hs
       try simp only[vh v m g _ _ _ u hs]
       split at h
       .rename_i B x
        try simp only[mq v _ _ x]
        omega
       .simp_all
      .simp_all
     .simp_all
  | .yield b,h=>
   simp only[iW]at h ⊢;split at h
   .rename_i f tmps ps as bd I J K y
    try simp only[y]
    split at h
    .rename_i q
     try simp only[q,if_true]
     split at h
     .rename_i j s hs
      try simp only[vh v m g _ _ _ u hs]
      omega
     .simp_all
    .simp_all
   .omega
end
section
open Go
structure TB where
 get:Nat->Option aS
 Gh:Nat->List V->an->Option (Option (V × an))
 ok:∀f a,get f=aa a->∀args H,Gh f args H=ab
instance:CoeFun TB λ_=>Nat->Option aS:=⟨TB.get⟩
section
variable(tab:TB)
abbrev CF(m d:Nat):eC:=iW tab.get tab.Gh m d
def Ev(c:Callee)(args:List V)(H:an)(r:V)(H':an):Prop:=∃m d,CF tab m d c args H=aa (r,H')
def bf(f:Nat)(args:List V)(r:V):Prop:=∃b H',Ev tab (.fn f) args [] b H'/\jd deep H' b=aa r
def WP(fn:Nat)(ro:Option Nat)(b:List dS)(s:St)(Q:Option aD->St->Prop):Prop:=
 ∃n m d j g,run (CF tab m d) fn n ro b s=aa (j,g)/\Q j g
def mc(s:St)(op:et)(K:V->St->Prop):Prop:=
 match op with
 | .call f args h=>
  if h then ∃r H',Ev tab (.fn f) (fA s.aT args) s.heap r H'/\K r { s with heap:=H' }
  else ∃b r,bC (dq deep s.heap) (fA s.aT args)=aa b/\bf tab f b r/\K r { s with heap:=(fA s.aT args).foldl (UO deep) s.heap }
 | .jr x args _=>∃c as r H',cr (x.ev s.aT) (fA s.aT args)=aa (c,as)/\Ev tab c as s.heap r H'/\K r { s with heap:=H' }
 | .recover=>K (.c (.f .sW)) s| .defer x args=>∃f as,cr (x.ev s.aT) (fA s.aT args)=aa (.fn f,as)/\K .top { s with defs:=.fn f as::s.defs }
 |op=>∃v H',cA s.aT s.heap op=aa (v,H')/\K v { s with heap:=H' }
def Ab:List bh->St->(St->Prop)->Prop
 |[],s,K=>K s
 |o::os,s,K=>match wanted s.aT o.g with
  |some ae=>mc tab s o.op λv b=>Ab os { b with aT:=oz b.aT o.dst v } K
  |some ag=>Ab os { s with aT:=oz s.aT o.dst (.t []) } K
  |none=>False
variable{tab}
variable{c:Callee}{args:List V}{H H':an}{r:V}
def ns(j:m<=I)(g:d<=A):Cq (CF tab m d) (CF tab I A):=yB j d A g
def Ev.Ze(h1:Ev tab c args H r H')(h2:Ev tab c args H B h):r=B/\H'=h:=by
 obtain⟨m,d,h1⟩:=h1;obtain⟨g,d',h2⟩:=h2;have l:=ns (tab:=tab) (ahD m g) (ahD d d') _ _ _ _ h1;have q:=ns (tab:=tab) (ahv m g) (ahv d d') _ _ _ _ h2;simp_all
theorem bf.Ze{f:Nat}{d:V}(h1:bf tab f args r)(h2:bf tab f args d):r=d:=by
 obtain⟨a,j,g,h1⟩:=h1;obtain⟨b,l,hb,h2⟩:=h2;obtain⟨rfl,rfl⟩:=g.Ze hb;simp_all
def LF{op:et}{K:V->St->Prop}(h:mc tab O op K):∃m d v u,jP (CF tab m d) O op=aa (v,u)/\K v u:=by
 cases op with
 |call f args b=>
  simp only[mc]at h;split at h
  .rename_i q;obtain⟨r,H',⟨m,d,g⟩,l⟩:=h;exact⟨m,d,r,_,by simp[jP,mj,q,g],l⟩
  .rename_i q;obtain⟨A,r,j,⟨B,z,⟨m,d,g⟩,l⟩,y⟩:=h;exact⟨m,d,r,_,by simp[jP,mj,q,iy,j,g,l],y⟩
 |jr x args b=>
  obtain⟨c,as,r,H',j,⟨m,d,g⟩,l⟩:=h;exact⟨m,d,r,_,by simp[jP,j,g],l⟩
 |recover=>exact⟨0,0,_,_,rfl,h⟩
 | «defer» x args=>
  obtain⟨f,as,j,g⟩:=h;exact⟨0,0,.top,_,by simp[jP,j],g⟩
 |_=>
  obtain⟨v,H',j,g⟩:=h;exact⟨0,0,v,_,by simp[jP,j],g⟩
theorem mu:∀(os:List bh) (s:St) {K:St->Prop},Ab tab os s K->∃m d b,ja (CF tab m d) os s=aa b/\K b
 |[],s,K,h=>⟨0,0,s,rfl,h⟩
 |o::os,s,K,h=>by
  simp only[Ab]at h;split at h
  .rename_i q;obtain⟨m,d,v,A,y,z⟩:=LF h;obtain⟨g,d',b,j,l⟩:=mu os _ z;refine⟨max m g,max d d',b,?_,l⟩;have u:=Ch (ns (tab:=tab) (ahD m g) (ahD d d')) y;have x:=fh (ns (tab:=tab) (ahv m g) (ahv d d')) os _ j;simp only[ja,jQ,q,u,x]
  .rename_i q;obtain⟨g,d',b,j,l⟩:=mu os _ h;exact⟨g,d',b,by simp only[ja,jQ,q,j],l⟩
  .simp_all
variable{fn:Nat}{ro:Option Nat}{k:List dS}{s:St}{Q:Option aD->St->Prop}{a b:aD}
def jX{g:List dS}{b:List dS}(h:WP tab fn ro b O Q)
  (hs:∀m d n,run (CF tab m d) fn (n+1) ro g s=run (CF tab m d) fn n ro b O):WP tab fn ro g s Q:=by
 obtain⟨n,m,d,j,v,q,u⟩:=h;exact⟨n+1,m,d,j,v,by rw[hs,q],u⟩
def cN(h:Q ab s):WP tab fn ro [] s Q:=⟨1,0,0,ab,s,rfl,h⟩
def au(h:WP tab fn ro k s Q):WP tab fn ro (.inBlock d::k) s Q:=jX h λ_ _ _=>rfl
def zc(h:WP tab fn ro k s Q):WP tab fn ro (.inScope a::k) s Q:=jX h λ_ _ _=>rfl
def fe(h:WP tab fn ro (.code a::.inLoop a::k) s Q):WP tab fn ro (.inLoop a::k) s Q:=jX h λ_ _ _=>rfl
def aQ(h:WP tab fn ro k s Q):WP tab fn ro (.code .skip::k) s Q:=jX h λ_ _ _=>rfl
def qz(h:WP tab fn ro k s Q):WP tab fn ro (.code (.label d)::k) s Q:=jX h λ_ _ _=>rfl
def lF(h:WP tab fn ro (.code a::.inScope a::k) s Q):WP tab fn ro (.code (.scope a)::k) s Q:=jX h λ_ _ _=>rfl
def aE(h:WP tab fn ro (.code a::.code b::k) s Q):WP tab fn ro (.code (.seq a b)::k) s Q:=jX h λ_ _ _=>rfl
def ax(h:WP tab fn ro (.code a::.inBlock d::k) s Q):WP tab fn ro (.code (.block d a)::k) s Q:=jX h λ_ _ _=>rfl
def av(h:Q (aa .ret) s):WP tab fn ro (.code .ret::k) s Q:=⟨1,0,0,aa .ret,s,rfl,h⟩
def bQ{k':List dS}(b:exitTo d k=aa k')(h:WP tab fn ro k' s Q):WP tab fn ro (.code (.exit d)::k) s Q:=
 jX h λ_ _ _=>by simp only[run,b]
def nw(d:exitTo m k=ab)(h:Q (aa (.exit m)) s):WP tab fn (aa I) (.code (.exit m)::k) s Q:=
 ⟨1,0,0,aa (.exit m),s,by simp[run,d],h⟩
def Uw{k':List dS}(b:gotoIn d k=aa k')(h:WP tab fn ro k' s Q):WP tab fn ro (.code (.goto d)::k) s Q:=
 jX h λ_ _ _=>by simp only[run,b]
def JT{c:Arg}(hc:c.ev s.aT=.c (.f (.bool M)))(h:WP tab fn ro (.code (if M then a else b)::k) s Q) :
  WP tab fn ro (.code (.cond c a b)::k) s Q:=jX h λ_ _ _=>by simp only[run,hc]
def aq{c:Arg}(hc:c.ev s.aT=.c (.f (.bool ae)))(h:WP tab fn ro (.code a::k) s Q) :
  WP tab fn ro (.code (.cond c a b)::k) s Q:=JT hc h
def aC{c:Arg}(hc:c.ev s.aT=.c (.f (.bool ag)))(h:WP tab fn ro (.code b::k) s Q) :
  WP tab fn ro (.code (.cond c a b)::k) s Q:=JT hc h
def zH{n g:Nat}{b:List dS}{x:Option aD × St}(q:m<=I)(l:d<=A)(u:n<=g)
  (h:run (CF tab m d) fn n ro b s=aa x):run (CF tab I A) fn g ro b s=aa x:=
 vh (ns q l) n g ro b s u h
def aF{ops:List bh}(A:ro=ab\/ops.all (·.op.fN)=ae)(h:Ab tab ops s λl=>WP tab fn ro k l Q) :
  WP tab fn ro (.code (.region ops [])::k) s Q:=by
 obtain⟨m,d,l,v,n,g,d',j,z,x,y⟩:=mu ops s h;refine⟨n+1,max m g,max d d',j,z,?_,y⟩;have q:=fh (ns (tab:=tab) (ahD m g) (ahD d d')) ops _ v;have u:=zH (ahv m g) (ahv d d') (agQ n) x;have b:(ro.isSome&&!ops.all (·.op.fN))=ag:=by
  grind
 simp only[run,b,lu,q,u];simp
def di(I:Nat->St->Prop)(n:Nat)(j:I n s)
  (step:∀n s,I n s->(∀b d,b<n->I b d->WP tab fn ro (.inLoop a::k) d Q)->WP tab fn ro (.code a::.inLoop a::k) s Q) :
  WP tab fn ro (.code (.loop a)::k) s Q:=by
 have key:∀n s,I n s->WP tab fn ro (.code a::.inLoop a::k) s Q:=by
  intro n;induction n using Nat.strongRecOn with
  |_ n m=>
   intro s hs;exact step n s hs λb d l g=>fe (m b l d g)
 exact jX (key n s j) λ_ _ _=>rfl
def Fin(tab:TB)(g:aS)(r:V)(H':an)(s:St):Prop:=
 ∃m d b,gd (CF tab m d) s.defs s.heap=aa b/\results s.aT b g.results=aa r/\b=H'
def se{b:aS}(z:tab d=aa b)(J:args.length=b.ps.length)
  (h:WP tab d ab [.code b.body] ⟨dw b.ps args .e,[],H⟩ λ_ s=>Fin tab b r H' s):Ev tab (.fn d) args H r H':=by
 obtain⟨n,m,f,j,s,B,A,d',L,F,I,rfl⟩:=h;obtain⟨M,q,u,v⟩:∃M,m<=M/\A<=M/\n<=M:=⟨max (max m A) n,ap,ap,ap⟩
 obtain⟨E9,g,l⟩:∃E9,f<=E9/\d'<=E9:=⟨max f d',ap,ap⟩
 refine⟨M,E9+1,?_⟩;have x:run (CF tab M E9) d M ab [.code b.body] ⟨dw b.ps args .e,[],H⟩=aa (j,s):=zH q g v B;have y:=mq (ns (tab:=tab) u l) _ _ F;have K:=tab.ok _ _ z args H;simp only[CF]at x y ⊢;simp only[iW,K,z,J,if_true,x,y,I,ahs]
def pY(b:List jZ)(r:V)(s:St):Prop:=s.defs=[]/\∃d,results s.aT s.heap b=aa d/\jd deep s.heap d=aa r
def bD{ps:List P}{b:List jZ}(y:tab I=aa ⟨ps,b,p⟩)(x:args.length=ps.length)
  (h:∀Q:Option aD->St->Prop,(∀j s,pY b r s->Q j s)->WP tab I ab [.code p] ⟨dw ps args .e,[],[]⟩ Q):bf tab I args r:=by
 have g:=h (λ_ s=>pY b r s) λ_ _ h=>h;obtain⟨n,m,d,j,s,l,v,z,q,u⟩:=g;exact⟨z,s.heap,se y x ⟨n,m,d,j,s,l,0,0,s.heap,by rw[v];rfl,q,rfl⟩,u⟩
end
def ai{tab:TB}{ops:List bh}{k:List dS}{Q:Option aD->St->Prop}(h:Ab tab ops O λd=>WP tab m ab (.code p::k) d Q):WP tab m ab (.code (.seq (.region ops []) p)::k) O Q:=aE (aF (.inl rfl) h)
def ba{tab:TB}{ops:List bh}{k:List dS}{Q:Option aD->St->Prop}(h:Ab tab ops O λb=>WP tab d ab k b Q):WP tab d ab (.code (.region ops [])::k) O Q:=aF (.inl rfl) h
def aU{tab:TB}{ops:List bh}{c:aD}{k:List dS}{Q:Option aD->St->Prop}(h:Ab tab ops O λd=>WP tab m ab (.code p::.code c::k) d Q):WP tab m ab (.code (.seq (.seq (.region ops []) p) c)::k) O Q:=aE (ai h)
def bG{tab:TB}{ro:Option Nat}{c:Arg}{k:List dS}{Q:Option aD->St->Prop}(hc:c.ev O.aT=.c (.f (.bool ag)))(h:WP tab d ro k O Q):WP tab d ro (.code (.cond c p .skip)::k) O Q:=aC hc (aQ h)
end
section
open Go
def P.nf:Nat->Nat->P
 |0,_=>.h| k+1,n=>if n=0 then .h else if n % 2=1 then .o (nf k ((n-1) / 2))else .i (nf k ((n-2) / 2))
def P.nat(n:Nat):P:=P.nf n n
theorem sV:∀(k n:Nat),n<=k->(P.nf k n).toNat=n
 |0,n,b=>by simp[P.nf,P.toNat];omega
 |k+1,n,b=>by
  unfold P.nf;split
  .simp[P.toNat, *]
  .split
   .simp[P.toNat];rw[sV k _ ap];omega
   .simp[P.toNat];rw[sV k _ ap];omega
def wj(n:Nat):(P.nat n).toNat=n:=sV n n (agQ n)
def nat_ne(d:m≠I):P.nat m≠P.nat I:=λe=>d (by rw[<-wj m,<-wj I,e])
theorem T.jG(v:V):∀(p:P) (t:T),(t.set p v).get p=v
 | .h,.e=>rfl| .h,.n _ _ _=>rfl| .o p,.e=>T.jG v p .e| .o p,.n l _ _=>T.jG v p l| .i p,.e=>T.jG v p .e| .i p,.n _ _ r=>T.jG v p r
theorem T.mS(v:V):∀(p q:P) (t:T),p≠q->(t.set p v).get q=t.get q
 | .h,.h,_,h=>absurd rfl h| .h,.o q,.e,_=>by cases q<;>rfl
 | .h,.i q,.e,_=>by cases q<;>rfl
 | .h,.o _,.n _ _ _,_=>rfl| .h,.i _,.n _ _ _,_=>rfl| .o _,.h,.e,_=>rfl| .o _,.h,.n _ _ _,_=>rfl| .i _,.h,.e,_=>rfl| .i _,.h,.n _ _ _,_=>rfl
 | .o p,.o q,.e,h=>by
  show(T.set .e p v).get q=_;rw[T.mS v p q .e (λe=>h (by rw[e]))];rfl
 | .o p,.o q,.n l _ _,h=>T.mS v p q l (λe=>h (by rw[e]))
 | .o p,.i q,.e,h=>by
  rfl
 | .o _,.i _,.n _ _ _,_=>rfl
 | .i p,.o q,.e,h=>by
  rfl
 | .i _,.o _,.n _ _ _,_=>rfl
 | .i p,.i q,.e,h=>by
  show(T.set .e p v).get q=_;rw[T.mS v p q .e (λe=>h (by rw[e]))];rfl
 | .i p,.i q,.n _ _ r,h=>T.mS v p q r (λe=>h (by rw[e]))
def T.g(t:T)(n:Nat):V:=t.get (P.nat n)
def T.s(t:T)(n:Nat)(v:V):T:=t.set (P.nat n) v
@[simp]theorem T.g_s (t:T) (n m:Nat) (v:V):(t.s n v).g m=if n=m then v else t.g m:=by
 unfold T.g T.s;split
 .rename_i h;subst h;exact T.jG v _ t
 .rename_i h;exact T.mS v _ _ t (nat_ne h)
def R(n:Nat):Arg:=.r (P.nat n)
def D(n:Nat):Option P:=aa (P.nat n)
def G9(n:Nat)(w:Bool):Option (P × Bool):=aa (P.nat n,w)
abbrev vi(n:Int):V:=.c (.f (.int .i64 n))
abbrev vb(b:Bool):V:=.c (.f (.bool b))
abbrev fi(n:Int):FC:=.int .i64 n
abbrev Z(n:Int):C:=.f (fi n)
abbrev G(x:FC):V:=.c (.f x)
abbrev E(l:List C):Option bV:=aa (.box l 0)
@[simp]theorem mF (t:T) (n:Nat):(R n).ev t=t.g n:=rfl
@[simp]theorem agC (t:T) (v:V):(Arg.k v).ev t=v:=rfl
@[simp]theorem afG (t:T) (n:Nat) (v:V):oz t (D n) v=t.s n v:=rfl
@[simp]theorem aaG (t:T) (v:V):oz t ab v=t:=rfl
@[simp]theorem ad6 (t:T) (n:Nat):t.get (P.nat n)=t.g n:=rfl
@[simp]theorem V1 (n:Nat) (ps:List P) (v:V) (b:List V) (t:T):dw (P.nat n::ps) (v::b) t=dw ps b (t.s n v):=rfl
@[simp]theorem Z_ (b:List V) (t:T):dw [] b t=t:=rfl
@[simp]theorem V5 (t:T):wanted t ab=aa ae:=rfl
@[simp]theorem adB (t:T) (n:Nat) (w:Bool):wanted t (G9 n w)=match t.g n with
  | .c (.f (.bool b))=>aa (b == w)| .t []=>aa ag| _=>ab:=rfl
attribute [simp] fA
def KO(o:Option (V × an))(t:T)(ds:List gY)(K:V->St->Prop):Prop:=∃p,o=aa p/\K p.1 ⟨t,ds,p.2⟩
@[simp]theorem adM (v:V) (H:an) (t:T) (ds:List gY) (K:V->St->Prop):KO (aa (v,H)) t ds K↔K v ⟨t,ds,H⟩:=⟨λ⟨_,h,k⟩=>by cases h;exact k,λk=>⟨_,rfl,k⟩⟩
def KP(P:V->Prop)(t:T)(ds:List gY)(H:an)(K:V->St->Prop):Prop:=∃x,P x/\K x ⟨t,ds,H⟩
@[simp]theorem af8 (x:V) (t:T) (ds:List gY) (H:an) (K:V->St->Prop):KP (Eq x) t ds H K↔K x ⟨t,ds,H⟩:=⟨λ⟨_,h,k⟩=>by cases h;exact k,λk=>⟨x,rfl,k⟩⟩
def E2(x:V)(H:an)(y:V)(H':an):Prop:=x=y/\H=H'
def KE(P:V->an->Prop)(t:T)(ds:List gY)(K:V->St->Prop):Prop:=∃x H,P x H/\K x ⟨t,ds,H⟩
@[simp]theorem af7 (x:V) (H:an) (t:T) (ds:List gY) (K:V->St->Prop):KE (E2 x H) t ds K↔K x ⟨t,ds,H⟩:=⟨λ⟨_,_,⟨b,d⟩,k⟩=>by cases b;cases d;exact k,λk=>⟨x,H,⟨rfl,rfl⟩,k⟩⟩
section
variable(tab:TB)
def KC(b:Option (List V))(f:Nat)(t:T)(ds:List gY)(H:an)(K:V->St->Prop):Prop:=∃a,b=aa a/\KP (bf tab f a) t ds H K
def KD(c:Option (Callee × List V))(t:T)(ds:List gY)(H:an)(K:V->St->Prop):Prop:=∃a,c=aa a/\KE (Ev tab a.1 a.2 H) t ds K
def KS(os:List bh)(L:St->Prop)(s:St):Prop:=Ab tab os s L
def FS(s:St)(K:St->Prop):Prop:=K s
def KV(o:Option P)(os:List bh)(L:St->Prop)(v:V)(s:St):Prop:=FS ⟨oz s.aT o v,s.defs,s.heap⟩ (KS tab os L)
def GRD(w:Option Bool)(op:et)(o:Option P)(os:List bh)(L:St->Prop)(s:St):Prop:=
 match w with
 |some ae=>mc tab s op (KV tab o os L)| some ag=>FS ⟨oz s.aT o (.t []),s.defs,s.heap⟩ (KS tab os L)| none=>False
end
section
variable{tab:TB}{t:T}{ds:List gY}{H:an}{K:V->St->Prop}{L:St->Prop}
@[simp]theorem adK (a:List V) (f:Nat):KC tab (aa a) f t ds H K↔KP (bf tab f a) t ds H K:=⟨λ⟨_,h,k⟩=>by cases h;exact k,λk=>⟨_,rfl,k⟩⟩
@[simp]theorem adL (c:Callee) (a:List V):KD tab (aa (c,a)) t ds H K↔KE (Ev tab c a H) t ds K:=⟨λ⟨_,h,k⟩=>by cases h;exact k,λk=>⟨_,rfl,k⟩⟩
@[simp]theorem af1 (s:St) (K:St->Prop):FS s K↔K s:=Iff.rfl
@[simp ↓] theorem af9 (os:List bh) (s:St):KS tab os L s↔Ab tab os s L:=Iff.rfl
@[simp ↓] theorem af' (o:Option P) (os:List bh) (v:V):KV tab o os L v ⟨t,ds,H⟩↔FS ⟨oz t o v,ds,H⟩ (KS tab os L):=Iff.rfl
@[simp ↓] theorem af6 (op:et) (o:Option P) (os:List bh) (s:St):GRD tab (aa ae) op o os L s↔mc tab s op (KV tab o os L):=Iff.rfl
@[simp ↓] theorem af5 (op:et) (o:Option P) (os:List bh):GRD tab (aa ag) op o os L ⟨t,ds,H⟩↔FS ⟨oz t o (.t []),ds,H⟩ (KS tab os L):=Iff.rfl
theorem JE{op:et}{o:Option P}{os:List bh}(d:M=ag->GRD tab (aa ae) op o os L O)(g:M=ae->GRD tab (aa ag) op o os L O):GRD tab (aa !M) op o os L O:=by
 cases M
 .exact d rfl
 .exact g rfl
@[simp ↓] theorem adN (s:St):Ab tab [] s L↔L s:=Iff.rfl
@[simp ↓] theorem acr (o:Option P) (op:et) (os:List bh):Ab tab (⟨o,op,ab⟩::os) ⟨t,ds,H⟩ L↔mc tab ⟨t,ds,H⟩ op (KV tab o os L):=Iff.rfl
@[simp ↓] theorem aai (o:Option P) (op:et) (n:Nat) (w:Bool) (os:List bh) :
  Ab tab (⟨o,op,G9 n w⟩::os) ⟨t,ds,H⟩ L↔GRD tab (wanted t (G9 n w)) op o os L ⟨t,ds,H⟩:=by
 rfl
def et.plain:et->Bool
 | .call _ _ _| .jr _ _ _| .recover| .defer _ _=>ag| _=>ae
def cX{op:et}(h:op.plain=ae):mc tab ⟨t,ds,H⟩ op K↔KO (cA t H op) t ds K:=by
 have:mc tab ⟨t,ds,H⟩ op K↔∃v H',cA t H op=aa (v,H')/\K v ⟨t,ds,H'⟩:=by
  cases op<;>first|exact Iff.rfl|simp[et.plain]at h
 rw[this];exact⟨λ⟨v,H',h,k⟩=>⟨(v,H'),h,k⟩,λ⟨p,h,k⟩=>⟨p.1,p.2,h,k⟩⟩
@[simp ↓] theorem aed (x:Arg):mc tab ⟨t,ds,H⟩ (.ju x) K↔KO (cA t H (.ju x)) t ds K:=cX rfl
@[simp ↓] theorem adp (c a b:Arg):mc tab ⟨t,ds,H⟩ (.pick c a b) K↔KO (cA t H (.pick c a b)) t ds K:=cX rfl
@[simp ↓] theorem aat (zs:List FC):mc tab ⟨t,ds,H⟩ (.alloc zs) K↔KO (cA t H (.alloc zs)) t ds K:=cX rfl
@[simp ↓] theorem ad_ (x:Arg):mc tab ⟨t,ds,H⟩ (.box x) K↔KO (cA t H (.box x)) t ds K:=cX rfl
@[simp ↓] theorem aau (zs:List FC) (b:List (Nat × Nat × Arg)):mc tab ⟨t,ds,H⟩ (.build zs b) K↔KO (cA t H (.build zs b)) t ds K:=cX rfl
@[simp ↓] theorem ZP (sz:Nat) (zs:List FC) (len:Nat) (b:List (Nat × Arg)):mc tab ⟨t,ds,H⟩ (.iR sz zs len b) K↔KO (cA t H (.iR sz zs len b)) t ds K:=cX rfl
@[simp ↓] theorem adl (n:Option Nat) (x:Arg):mc tab ⟨t,ds,H⟩ (.load n x) K↔KO (cA t H (.load n x)) t ds K:=cX rfl
@[simp ↓] theorem aaE (n:Nat) (x y:Arg):mc tab ⟨t,ds,H⟩ (.store n x y) K↔KO (cA t H (.store n x y)) t ds K:=cX rfl
@[simp ↓] theorem ZU (x:Arg):mc tab ⟨t,ds,H⟩ (.nI x) K↔KO (cA t H (.nI x)) t ds K:=cX rfl
@[simp ↓] theorem ad' (op:BinOp) (x y:Arg):mc tab ⟨t,ds,H⟩ (.bin op x y) K↔KO (cA t H (.bin op x y)) t ds K:=cX rfl
@[simp ↓] theorem afB (neg:Bool) (k:NU) (x y:Arg):mc tab ⟨t,ds,H⟩ (.eq neg k x y) K↔KO (cA t H (.eq neg k x y)) t ds K:=cX rfl
@[simp ↓] theorem afC (op:UnOp) (x:Arg):mc tab ⟨t,ds,H⟩ (.un op x) K↔KO (cA t H (.un op x)) t ds K:=cX rfl
@[simp ↓] theorem aeb (k:IntKind) (x:Arg):mc tab ⟨t,ds,H⟩ (.QO k x) K↔KO (cA t H (.QO k x)) t ds K:=cX rfl
@[simp ↓] theorem ado (f:Nat) (b:List Arg):mc tab ⟨t,ds,H⟩ (.Ao f b) K↔KO (cA t H (.Ao f b)) t ds K:=cX rfl
@[simp ↓] theorem aaB:mc tab ⟨t,ds,H⟩ .pK K↔KO (cA t H .pK) t ds K:=cX rfl
@[simp ↓] theorem ZT (d:CK) (b:FC) (m k:Arg):mc tab ⟨t,ds,H⟩ (.lookup d b m k) K↔KO (cA t H (.lookup d b m k)) t ds K:=cX rfl
@[simp ↓] theorem aaA (b:CK) (m k v:Arg):mc tab ⟨t,ds,H⟩ (.qD b m k v) K↔KO (cA t H (.qD b m k v)) t ds K:=cX rfl
@[simp ↓] theorem VX (sz bytes:Nat) (zs:List FC) (l c:Arg):mc tab ⟨t,ds,H⟩ (.fu sz bytes zs l c) K↔KO (cA t H (.fu sz bytes zs l c)) t ds K:=cX rfl
@[simp ↓] theorem aaD (sz:Nat) (x:Arg) (lo hi mx:Option Arg):mc tab ⟨t,ds,H⟩ (.slice sz x lo hi mx) K↔KO (cA t H (.slice sz x lo hi mx)) t ds K:=cX rfl
@[simp ↓] theorem ZQ (b:Nat) (x:Arg):mc tab ⟨t,ds,H⟩ (.mM b x) K↔KO (cA t H (.mM b x)) t ds K:=cX rfl
@[simp ↓] theorem aaz (b:Nat) (n:Option Nat) (x:Arg):mc tab ⟨t,ds,H⟩ (.field b n x) K↔KO (cA t H (.field b n x)) t ds K:=cX rfl
@[simp ↓] theorem ZS (sz:Nat) (b:Option Nat) (x i:Arg):mc tab ⟨t,ds,H⟩ (.hZ sz b x i) K↔KO (cA t H (.hZ sz b x i)) t ds K:=cX rfl
@[simp ↓] theorem VW (x:Arg) (i:Nat):mc tab ⟨t,ds,H⟩ (.extract x i) K↔KO (cA t H (.extract x i)) t ds K:=cX rfl
@[simp ↓] theorem aec (x:Arg):mc tab ⟨t,ds,H⟩ (.len x) K↔KO (cA t H (.len x)) t ds K:=cX rfl
@[simp ↓] theorem aea (x:Arg):mc tab ⟨t,ds,H⟩ (.cap x) K↔KO (cA t H (.cap x)) t ds K:=cX rfl
@[simp ↓] theorem ZO (sz bytes:Nat) (x y:Arg):mc tab ⟨t,ds,H⟩ (.append sz bytes x y) K↔KO (cA t H (.append sz bytes x y)) t ds K:=cX rfl
@[simp ↓] theorem adm (lo:Bool) (xs:List Arg):mc tab ⟨t,ds,H⟩ (.uH lo xs) K↔KO (cA t H (.uH lo xs)) t ds K:=cX rfl
@[simp ↓] theorem adj (sz bytes:Nat) (zs:List FC) (x n:Arg):mc tab ⟨t,ds,H⟩ (.sJ sz bytes zs x n) K↔KO (cA t H (.sJ sz bytes zs x n)) t ds K:=cX rfl
@[simp ↓] theorem aax (sz:Nat) (zs:List FC) (x:Arg):mc tab ⟨t,ds,H⟩ (.clear sz zs x) K↔KO (cA t H (.clear sz zs x)) t ds K:=cX rfl
@[simp ↓] theorem ZR (sz:Nat) (zs:List FC) (len:Nat) (b:List (Nat × Arg)):mc tab ⟨t,ds,H⟩ (.lS sz zs len b) K↔KO (cA t H (.lS sz zs len b)) t ds K:=cX rfl
@[simp ↓] theorem adq (sz:Nat) (x hi mx:Arg):mc tab ⟨t,ds,H⟩ (.zL sz x hi mx) K↔KO (cA t H (.zL sz x hi mx)) t ds K:=cX rfl
@[simp ↓] theorem ZV (x:Arg):mc tab ⟨t,ds,H⟩ (.mU x) K↔KO (cA t H (.mU x)) t ds K:=cX rfl
@[simp ↓] theorem aaC (x:Arg):mc tab ⟨t,ds,H⟩ (.qI x) K↔KO (cA t H (.qI x)) t ds K:=cX rfl
@[simp ↓] theorem aay (x:Arg):mc tab ⟨t,ds,H⟩ (.entry x) K↔KO (cA t H (.entry x)) t ds K:=cX rfl
@[simp ↓] theorem adn (f:Nat) (xs:List Arg):mc tab ⟨t,ds,H⟩ (.An f xs) K↔KO (cA t H (.An f xs)) t ds K:=cX rfl
@[simp ↓] theorem adk (f:Nat) (args:List Arg):mc tab ⟨t,ds,H⟩ (.call f args ag) K ↔
  KC tab (bC (dq deep H) (fA t args)) f t ds ((fA t args).foldl (UO deep) H) K:=by
 simp only[mc,KC,KP];simp
@[simp ↓] theorem aaw (f:Nat) (args:List Arg):mc tab ⟨t,ds,H⟩ (.call f args ae) K↔KD tab (aa (.fn f,fA t args)) t ds H K:=by simp[mc,KD,KE]
@[simp ↓] theorem aav (x:Arg) (args:List Arg) (h:Bool):mc tab ⟨t,ds,H⟩ (.jr x args h) K↔KD tab (cr (x.ev t) (fA t args)) t ds H K:=by
 simp only[mc,KD,KE];simp
end
def G8:V->Option Bool
 | .c (.f (.bool b))=>aa b| _=>ab
@[simp]theorem aaj (b:Bool):G8 (.c (.f (.bool b)))=aa b:=rfl
section
variable{t:T}{H:an}
@[simp]theorem agm (x:Arg):cA t H (.ju x)=aa (x.ev t,H):=rfl
@[simp]theorem agn (o:Os) (sz:Nat):cA t H (.pre o sz)=if o=.loc\/sz=0 then ab else aa (.c (.sl H.length 0 0 0 0 sz),H++[.dz sz [] 0 0 o]):=rfl
@[simp]theorem afZ (c x y:Arg):cA t H (.pick c x y)=(G8 (c.ev t)).map λb=>(if b then x.ev t else y.ev t,H):=by
 simp only[cA,G8]
 grind
@[simp]theorem aek (zs:List FC):cA t H (.alloc zs)=aa (.c (.ptr H.length 0 0),H++[.box (zs.map .f) 0]):=rfl
@[simp]theorem agi (x:Arg):cA t H (.box x)=(x.ev t).cells?.map λxs=>(.c (.ptr H.length 0 0),H++[.box xs 0]):=by
 simp only[cA];cases (x.ev t).cells?<;>rfl
@[simp]theorem ael (zs:List FC) (ps:List (Nat × Nat × Arg)):cA t H (.build zs ps)=(iw t (zs.map .f) ps).map λcs=>(.a cs,H):=rfl
@[simp]theorem adF (sz:Nat) (zs:List FC) (n:Nat) (ps:List (Nat × Arg)):cA t H (.iR sz zs n ps) =
  if n=0 then(if ps.isEmpty then aa (.c (.f .es),H)else ab)else
  (iw t ((dQ n zs).map .f) (ps.map λp=>(p.1*sz,sz,p.2))).map λcs=>(.c (.sl H.length 0 n n 0 sz),H++[.box cs 0]):=rfl
@[simp]theorem afV (n:Option Nat) (x:Arg):cA t H (.load n x)=(aV H n (x.ev t)).map (·,H):=rfl
def DA(H:an)(n:Nat)(x y:V):Option an:=
 match x,y.cells? with
 | .c p,aa xs=>if xs.length=n then dj H p xs else ab| _,_=>ab
@[simp]theorem aer (n:Nat) (x y:Arg):cA t H (.store n x y)=(DA H n (x.ev t) (y.ev t)).map (.top,·):=by
 simp only[cA,DA]
 grind
@[simp]theorem adz (n:Nat) (p:C) (y:V):DA H n (.c p) y=y.cells?.bind λxs=>if xs.length=n then dj H p xs else ab:=by
 simp only[DA];cases y.cells?<;>rfl
@[simp]theorem agh (op:BinOp) (x y:Arg):cA t H (.bin op x y)=(de op (x.ev t) (y.ev t)).map (·,H):=rfl
@[simp]theorem agI (neg:Bool) (k:NU) (x y:Arg):cA t H (.eq neg k x y)=(NX H k (x.ev t) (y.ev t)).map λb=>(vb (if neg then !b else b),H):=rfl
@[simp]theorem agJ (op:UnOp) (x:Arg):cA t H (.un op x)=(Tc op (x.ev t)).map (·,H):=rfl
def Y9(k:IntKind):V->Option V
 | .c (.f (.int _ n))=>aa (.c (.f (.int k (k.wrap n))))| _=>ab
@[simp]theorem afc (k j:IntKind) (n:Int):Y9 k (.c (.f (.int j n)))=aa (.c (.f (.int k (k.wrap n)))):=rfl
@[simp]theorem agk (k:IntKind) (x:Arg):cA t H (.QO k x)=(Y9 k (x.ev t)).map (·,H):=by
 simp only[cA,Y9];split
 .rename_i h;simp only[h];rfl
 .simp
@[simp]theorem afY (f:Nat) (b:List Arg):cA t H (.Ao f b)=(bC tX (fA t b)).map λxs=>(.c (.cl f xs),H):=rfl
@[simp]theorem afX (f:Nat) (b:List Arg):cA t H (.An f b)=(bC tX (fA t b)).map λxs=>(.c (.bm f xs),H):=rfl
@[simp]theorem aep (sz:Nat) (x:Arg) (lo hi mx:Option Arg):cA t H (.slice sz x lo hi mx)=(cJ H sz (x.ev t) (lo.map (·.ev t)) (hi.map (·.ev t)) (mx.map (·.ev t))).map (·,H):=rfl
@[simp]theorem adH (sz:Nat) (zs:List FC) (n:Nat) (ps:List (Nat × Arg)):cA t H (.lS sz zs n ps)=((iw t ((dQ n zs).map .f) (ps.map λp=>(p.1*sz,sz,p.2))).bind λcs=>if n=0 then ab else VH cs).map λb=>(.c (.f (.fs b n)),H):=rfl
@[simp]theorem af0 (sz:Nat) (x hi mx:Arg):cA t H (.zL sz x hi mx)=B9 H sz (x.ev t) (hi.ev t) (mx.ev t):=rfl
@[simp]theorem aeo (n sz:Nat) (x:Arg) (lo hi mx:Option Arg):cA t H (.vj n sz x lo hi mx)=(qO H n sz (x.ev t) (lo.map (·.ev t)) (hi.map (·.ev t)) (mx.map (·.ev t))).map (·,H):=rfl
@[simp]theorem aeq (x:Arg) (lo hi:Option Arg):cA t H (.xr x lo hi)=(Dy (x.ev t) (lo.map (·.ev t)) (hi.map (·.ev t))).map (·,H):=rfl
@[simp]theorem adG (o:Nat) (x:Arg):cA t H (.mM o x)=(rn o (x.ev t)).map (·,H):=rfl
@[simp]theorem aen (o:Nat) (n:Option Nat) (x:Arg):cA t H (.field o n x)=(mP o n (x.ev t)).map (·,H):=rfl
@[simp]theorem adI (sz:Nat) (b:Option Nat) (x i:Arg):cA t H (.hZ sz b x i)=(bO H sz b (x.ev t) (i.ev t)).map (·,H):=rfl
@[simp]theorem afT (x i:Arg):cA t H (.idxs x i)=(JI (x.ev t) (i.ev t)).map (·,H):=rfl
@[simp]theorem afS (len sz:Nat) (n:Option Nat) (x i:Arg):cA t H (.EJ len sz n x i)=(JH len sz n (x.ev t) (i.ev t)).map (·,H):=rfl
def cOf:V->Option C
 | .c x=>aa x| _=>ab
@[simp]theorem af_ (x:C):cOf (.c x)=aa x:=rfl
@[simp]theorem agl (x:Arg):cA t H (.len x)=((cOf (x.ev t)).bind (bA H)).map λn=>(vi (n:Nat),H):=by
 simp only[cA,cOf];cases x.ev t with
 |c y=>simp only[ahz];cases bA H y<;>rfl
 |_=>rfl
@[simp]theorem agj (x:Arg):cA t H (.cap x)=((cOf (x.ev t)).bind (oC H)).map λn=>(vi (n:Nat),H):=by
 simp only[cA,cOf];cases x.ev t with
 |c y=>simp only[ahz];cases oC H y<;>rfl
 |_=>rfl
def strOf:V->Option ByteArray
 | .c (.f (.str s))=>aa s| _=>ab
@[simp]theorem aeg (s:ByteArray):strOf (.c (.f (.str s)))=aa s:=rfl
@[simp]theorem afU (n:Nat):cA t H (.rR n)=aa (vi (n:Nat),H):=rfl
@[simp]theorem adE (sz bytes:Nat) (x y:Arg):cA t H (.append sz bytes x y)=bZ H sz bytes (x.ev t) (y.ev t):=rfl
@[simp]theorem afR (sz:Nat) (x y:Arg):cA t H (.copy sz x y)=copyV H sz (x.ev t) (y.ev t):=rfl
@[simp]theorem afW (lo:Bool) (xs:List Arg):cA t H (.uH lo xs)=(C' lo (fA t xs)).map (·,H):=rfl
def tOf:V->Option (List V)
 | .t b=>aa b| _=>ab
@[simp]theorem agf (b:List V):tOf (.t b)=aa b:=rfl
@[simp]theorem aaI (x:Arg) (i:Nat):cA t H (.extract x i)=(tOf (x.ev t)).bind λb=>b[i]?.map (·,H):=by
 simp only[cA,tOf]
 grind
def xO:V->Option V
 | .c (.ptr b o e)=>aa (.c (.ptr b o e))| .c (.f (.fp cs o))=>aa (.c (.f (.fp cs o)))| _=>ab
@[simp]theorem ZK (b o e:Nat):xO (.c (.ptr b o e))=aa (.c (.ptr b o e)):=rfl
@[simp]theorem aas (cs:List FC) (o:Nat):xO (.c (.f (.fp cs o)))=aa (.c (.f (.fp cs o))):=rfl
@[simp]theorem adJ (x:Arg):cA t H (.nI x)=(xO (x.ev t)).map (·,H):=by
 simp only[cA,xO]
 grind
@[simp]theorem aam (f:Nat) (b:List FC) (args:List V):cr (.c (.f (.fn f b))) args=aa (.fn f,args++b.map λx=>.c (.f x)):=rfl
@[simp]theorem aal (f:Nat) (b:List C) (args:List V):cr (.c (.cl f b)) args=aa (.fn f,args++b.map .c):=rfl
@[simp]theorem aak (f:Nat) (first:List C) (args:List V):cr (.c (.bm f first)) args=aa (.fn f,first.map .c++args):=rfl
end
section
variable{k:IntKind}{a b:Int}{H:an}
@[simp]theorem adP:de .add (.c (.f (.int k a))) (.c (.f (.int k b)))=aa (.c (.f (.int k (k.wrap (a+b))))):=by simp[de,tV,V.int]
@[simp]theorem adX:de .sub (.c (.f (.int k a))) (.c (.f (.int k b)))=aa (.c (.f (.int k (k.wrap (a-b))))):=by simp[de,tV,V.int]
@[simp]theorem adV:de .mul (.c (.f (.int k a))) (.c (.f (.int k b)))=aa (.c (.f (.int k (k.wrap (a*b))))):=by simp[de,tV,V.int]
theorem gI(h:b≠0):de .quo (.c (.f (.int k a))) (.c (.f (.int k b)))=aa (.c (.f (.int k (k.wrap (a.tdiv b))))):=by simp[de,tV,V.int,h]
def dD(h:b≠0):de .rem (.c (.f (.int k a))) (.c (.f (.int k b)))=aa (.c (.f (.int k (a.tmod b)))):=by simp[de,tV,V.int,h]
@[simp]theorem adQ:de .eql (.c (.f (.int k a))) (.c (.f (.int k b)))=aa (vb (decide (a=b))):=by simp[de,tV,V.bool];rfl
@[simp]theorem adW:de .neq (.c (.f (.int k a))) (.c (.f (.int k b)))=aa (vb (!decide (a=b))):=by simp[de,tV,V.bool];rfl
@[simp]theorem adU:de .lss (.c (.f (.int k a))) (.c (.f (.int k b)))=aa (vb (decide (a<b))):=by simp[de,tV,V.bool]
@[simp]theorem adT:de .leq (.c (.f (.int k a))) (.c (.f (.int k b)))=aa (vb (decide (a<=b))):=by simp[de,tV,V.bool]
@[simp]theorem adS:de .gtr (.c (.f (.int k a))) (.c (.f (.int k b)))=aa (vb (decide (b<a))):=by simp[de,tV,V.bool]
@[simp]theorem adR:de .geq (.c (.f (.int k a))) (.c (.f (.int k b)))=aa (vb (decide (b<=a))):=by simp[de,tV,V.bool]
@[simp]theorem acP {y:Bool}:Q3 .bool (.f (.bool M)) (.f (.bool y))=aa (M == y):=rfl
@[simp]theorem ad2:Q3 .int (.f (.int k a)) (.f (.int k b))=aa (a == b):=by simp[Q3]
@[simp]theorem ad3 {x y:ByteArray}:Q3 .str (.f (.str x)) (.f (.str y))=aa (x == y):=rfl
@[simp]theorem ad1:wN [] [] []=aa ae:=rfl
@[simp]theorem acO {q:CK} {qs:List CK} {y:C} {ys:List C}:wN (q::qs) (u::S) (y::ys)=(Q3 q u y).bind λc=>(wN qs S ys).map λd=>c&&d:=by
 simp only[wN];cases Q3 q u y<;>cases wN qs S ys<;>rfl
@[simp]theorem acQ {y:Bool}:NX H .bool (.c (.f (.bool M))) (.c (.f (.bool y)))=aa (M == y):=rfl
@[simp]theorem aff {b:List CK} {ys:List C}:NX H (.st b) (.a S) (.a ys)=wN b S ys:=rfl
@[simp]theorem aad:Tc .not (.c (.f (.bool M)))=aa (vb (!M)):=rfl
@[simp]theorem Zm:rn d (.c (.ptr m I A))=aa (.c (.ptr m (I+d) A)):=rfl
@[simp]theorem aao:rn d (.c (.f (.fp N m)))=aa (.c (.f (.fp N (m+d)))):=rfl
@[simp]theorem ad0:(V.c u).cells?=aa [u]:=rfl
@[simp]theorem adZ:(V.a S).cells?=aa S:=rfl
@[simp]theorem agr:fv d H (.f U)=aa U:=by cases d<;>rfl
@[simp]theorem acS:dq d H (.c u)=(fv d H u).map λy=>.c (.f y):=rfl
@[simp]theorem agc:fv (d+1) H (.cl m S)=(bC (fv d H) S).map (.fn m):=rfl
@[simp]theorem Q5:fv (d+1) H (.ptr m I A)=match H[m]? with
  |some (.box cs _)=>(bC (fv d H) cs).map (.fp · I)| _=>ab:=rfl
theorem gR{c ep sz:Nat}:fv (d+1) H (.sl m I A c ep sz)=match H[m]? with
  |some (.box cs _)=>if I+A*sz<=cs.length then(bC (fv d H) ((cs.drop I).take (A*sz))).map (.fs · A)else ab| some (.dz s cs _ e .loc)=>if ep=e/\sz=s/\I+A*sz<=cs.length then(bC (fv d H) ((cs.drop I).take (A*sz))).map (.fs · A)else ab| some (.dz s _ _ e .nil)=>if ep=e/\sz=s then aa .aN else ab| some (.dz s _ _ e .es)=>if ep=e/\sz=s then aa .es else ab| _=>ab:=rfl
theorem wh:ez (d+1) (.ptr m I A) H=match H[m]? with
  |some (.box cs fl)=>cs.foldl (λH x=>ez d x H) (H.set m (.box cs (Nat.max fl cs.length)))
  |_=>H:=rfl
theorem jY{c e sz:Nat}:ez (d+1) (.sl m I A c e sz) H=match H[m]? with
  |some (.box cs fl)=>((cs.drop I).take (A*sz)).foldl (λH x=>ez d x H) (H.set m (.box cs (Nat.max fl (I+A*sz))))
  |some (.dz s cs fl e st)=>((cs.drop I).take (A*sz)).foldl (λH x=>ez d x H) (H.set m (.dz s cs (Nat.max fl (I+A*sz)) e st))
  |_=>H:=rfl
def BI:ez (d+1) (.cl m S) H=S.foldl (λH x=>ez d x H) H:=rfl
@[simp]theorem agE:UO d H (.c u)=ez d u H:=rfl
@[simp]theorem agb:jd d H (.c u)=(fv d H u).map λy=>.c (.f y):=rfl
theorem kr{n:Nat}:∀(xs:List FC),bC (fv n H) (xs.map .f)=aa xs
 |[]=>rfl| x::xs=>by simp[bC,kr xs]
@[simp]theorem aga:dq d H (.a S)=(bC (fv d H) S).map λys=>.a (ys.map .f):=rfl
@[simp]theorem ad7 (xs:List FC):bC (fv d H) (xs.map .f)=aa xs:=kr xs
@[simp]theorem agD:UO d H (.a S)=S.foldl (λH x=>ez d x H) H:=rfl
@[simp]theorem VU:ez d (.f U) H=H:=by cases d<;>rfl
@[simp]theorem aaq (xs:List FC):(xs.map C.f).foldl (λH x=>ez d x H) H=H:=by
 induction xs with
 |nil=>rfl| cons x xs b=>simp only[IT,aiI];rw[VU];exact b
end
def nO{n:Int}(b:0<=n)(d:n<=255):IntKind.wrap .u8 n=n:=by
 simp only[IntKind.wrap,IntKind.bits,IntKind.signed];simp;omega
def jH{n ep:Nat}{k:IntKind}{i:Int}(d:0<=i)(g:i<n):bO h m (aa n) (.c (.ptr I A ep)) (.c (.f (.int k i)))=aa (.c (.ptr I (A+i.toNat*m) ep)):=by
 simp[bO,fE,d,g]
def wrap64{n:Int}(b:-9223372036854775808<=n)(d:n<=9223372036854775807):IntKind.wrap .i64 n=n:=by
 simp only[IntKind.wrap,IntKind.bits,IntKind.signed];simp;omega
def a8{n:Int}(b:-9223372036854775808<=n:=by omega)(d:n<=9223372036854775807:=by omega):IntKind.wrap .i64 n=n:=wrap64 b d
@[simp]theorem cast_eq (a b:Nat):((a:Int)=(b:Int))=(a=b):=propext Int.natCast_inj
@[simp]theorem ada {b d:Type} (g:b->Option d):bC g []=aa []:=rfl
@[simp]theorem aar {b d:Type} (g:b->Option d) (x:b) (xs:List b):bC g (x::xs)=(g x).bind λy=>(bC g xs).map (y::·):=by
 simp only[bC]
 grind
@[simp]theorem aeh (x:C) (xs:List C):aX ab (x::xs)=aa (.c x):=rfl
@[simp]theorem aei (n:Nat) (xs:List C):aX (aa n) xs=if n<=xs.length then aa (.a (xs.take n))else ab:=rfl
@[simp]theorem aw (H:an) (n:Option Nat) (b o ep:Nat):aV H n (.c (.ptr b o ep))=match H[b]? with
  |some (.box cs _)=>aX n (cs.drop o)| some (.dz _ cs _ e .loc)=>if ep=e then aX n (cs.drop o)else ab| _=>ab:=by
 simp only[aV,az]
 grind
def lU(H:an)(n:Option Nat)(cs:List FC)(o:Nat):aV H n (.c (.f (.fp cs o)))=aX n ((cs.drop o).map .f):=rfl
@[simp]theorem bF (H:an) (b o ep:Nat) (xs:List C):dj H (.ptr b o ep) xs=match H[b]? with
  |some (.box cs fl)=>if fl<=o/\o+xs.length<=cs.length then aa (H.set b (.box (over cs o xs) fl))else ab| some (.dz sz cs fl e .loc)=>if ep=e/\fl<=o/\o+xs.length<=cs.length then aa (H.set b (.dz sz (over cs o xs) fl e .loc))else ab| _=>ab:=rfl
attribute [simp] over dQ
@[simp]theorem ZY (t:T) (cs:List C):iw t cs []=aa cs:=rfl
@[simp]theorem VY (t:T) (cs:List C) (o n:Nat) (x:Arg) (ps:List (Nat × Nat × Arg)):iw t cs ((o,n,x)::ps)=(x.ev t).cells?.bind λxs=>if xs.length=n/\o+xs.length<=cs.length then iw t (over cs o xs) ps else ab:=by
 simp only[iw];cases (x.ev t).cells?<;>rfl
@[simp]theorem ae9 (x:FC):tX (.c (.f x))=aa (.f x):=rfl
@[simp]theorem acI (b o e:Nat):tX (.c (.ptr b o e))=aa (.ptr b o e):=rfl
@[simp]theorem adY (b o l c e s:Nat):tX (.c (.sl b o l c e s))=aa (.sl b o l c e s):=rfl
def aac:V->Option V
 | .t _=>ab| v=>aa v
@[simp]theorem afO (x:C):aac (.c x)=aa (.c x):=rfl
@[simp]theorem afN (x:List C):aac (.a x)=aa (.a x):=rfl
@[simp]theorem aee (t:T) (H:an) (n:Nat):cB t H (.tmp (P.nat n))=aac (t.g n):=by
 rfl
@[simp]theorem ads (t:T) (H:an) (n:Nat) (k:Option Nat):cB t H (.cell (P.nat n) k)=aV H k (t.g n):=rfl
@[simp]theorem ad4 {x:jZ}:pY [x] B ⟨J,[],h⟩↔∃b,cB J h x=aa b/\jd deep h b=aa B:=by
 simp only[pY,results,true_and,bC]
 grind
@[simp]theorem ad5 {x y:jZ} {b:V}:pY [x,y] (.t [B,b]) ⟨J,[],h⟩ ↔
  (∃d,cB J h x=aa d/\dq deep h d=aa B)/\∃d,cB J h y=aa d/\dq deep h d=aa b:=by
 simp only[pY,results,true_and,bC];cases cB J h x with
 |none=>simp
 |some u=>cases cB J h y with
  |none=>simp| some w=>cases g:dq deep h u<;>cases j:dq deep h w<;>simp[jd,g,j]
@[simp]theorem aap {x y z:jZ} {b c:V}:pY [x,y,z] (.t [B,b,c]) ⟨J,[],h⟩ ↔
  (∃d,cB J h x=aa d/\dq deep h d=aa B)/\(∃d,cB J h y=aa d/\dq deep h d=aa b)/\∃d,cB J h z=aa d/\dq deep h d=aa c:=by
 simp only[pY,results,true_and,bC];cases cB J h x with
 |none=>simp
 |some u=>cases cB J h y with
  |none=>simp
  |some w=>cases cB J h z with
   |none=>simp| some q=>cases g:dq deep h u<;>cases j:dq deep h w<;>cases l:dq deep h q<;>simp[jd,g,j,l]
inductive Tg where|nil|es|fs
 deriving DecidableEq
def Tg.fc:Tg->FC
 | .nil=>.aN| .es=>.es| .fs=>.fs [] 0
def sl(g:Tg)(rows:List (List FC)):FC:=if rows.isEmpty then g.fc else .fs rows.flatten rows.length
def cZ(sz:Nat)(rows:List (List FC)):Prop:=∀r∈rows,r.length=sz
theorem cz{sz:Nat}:∀{rows:List (List FC)},cZ sz rows->rows.flatten.length=rows.length*sz
 |[],_=>by simp
 |r::rows,h=>by
  have:=cz (rows:=rows) λx b=>h x (agU _ b);simp only[ag6,agM,ahk,this,h r agR,ahi,ajl];omega
theorem vX{sz:Nat}:∀{rows:List (List FC)} (j:Nat),cZ sz rows->rows.flatten.drop (j*sz)=(rows.drop j).flatten
 |rows,0,_=>by simp
 |[],j+1,_=>by simp
 |r::rows,j+1,h=>by
  have b:=h r agR;have:=vX (rows:=rows) j λx d=>h x (agU _ d);rw[ag6,List.drop_succ_cons,<-this,ahi,ajl,ajm,b];simp_all
theorem rK{sz:Nat}:∀{rows:List (List FC)} (j:Nat),cZ sz rows->rows.flatten.take (j*sz)=(rows.take j).flatten
 |rows,0,_=>by simp
 |[],j+1,_=>by simp
 |r::rows,j+1,h=>by
  have b:=h r agR;have:=rK (rows:=rows) j λx d=>h x (agU _ d);rw[ag6,ai6,ag6,<-this,ahi,ajl,ajx,b]
  grind
theorem cZ.map{b:Type}{sz:Nat}{l:List b}{g:b->List FC}(h:∀x,(g x).length=sz):cZ sz (l.map g):=λr d=>by
 grind
def ob{sz k:Nat}(b:cZ sz q)(d:q[I]?=aa N)(l:k<=sz) :
  q.flatten.drop (I*sz+k)=N.drop k++(q.drop (I+1)).flatten:=by
 have g:I<q.length:=(aft.1 d).1;have m:N.length=sz:=b N (ahg d);rw[<-aiG,vX I b,agT g,ag6]
 grind
variable{H:an}
def ib{k:Nat}(b:cZ I q)(d:q[A]?=aa N)(l:N[k]?=aa U) :
  aV H ab (.c (.f (.fp q.flatten (A*I+k))))=aa (.c (.f U)):=by
 have m:N.length=I:=b N (ahg d);have g:k<N.length:=(aft.1 l).1;have e:=ob (k:=k) b d ap;simp only[aV,az,ahz,e];rw[agT g];have:N[k]=U:=by simpa[BY g]using l
 simp_all
def C6{k n:Nat}(b:cZ m q)(d:q[I]?=aa N)(g:k+n<=m) :
  aV H (aa n) (.c (.f (.fp q.flatten (I*m+k))))=aa (.a (((N.drop k).take n).map .f)):=by
 have l:N.length=m:=b N (ahg d);have e:=ob (k:=k) b d ap;simp only[aV,az,ahz,e];simp only[aX];rw[ct (by simp only[agS,agM,ag5];omega)];rw[ahQ,ahK (by simp only[agS,ag5];omega),aiV]
def cf{sz j:Nat}{rows:List (List FC)}{row:List FC}(b:cZ sz rows)(d:rows[j]?=aa row) :
  aV H (aa sz) (.c (.f (.fp rows.flatten (j*sz))))=aa (.a (row.map .f)):=by
 have g:row.length=sz:=b row (ahg d);have:=C6 (H:=H) (k:=0) (n:=sz) b d ap
 grind
def gM{sz j:Nat}{rows:List (List FC)}{row:List FC}{x:FC}(b:cZ sz rows)(d:rows[j]?=aa row)(g:row[0]?=aa x) :
  aV H ab (.c (.f (.fp rows.flatten (j*sz))))=aa (.c (.f x)):=ib (k:=0) b d g
def UC{l:List Int}{x:Int}(b:l[d]?=aa x) :
  aV H ab (.c (.f (.fp (l.map λn=>[fi n]).flatten (d*1))))=aa (vi x):=
 gM (row:=[fi x]) (cZ.map λ_=>rfl) (by rw[List.getElem?_map,b];rfl) rfl
@[simp]theorem Rx (g:Tg) (rows:List (List FC)):bA H (.f (sl g rows))=aa rows.length:=by
 cases rows with
 |nil=>cases g<;>rfl
 |cons r rows=>rfl
def bu{g:Tg}{rows:List (List FC)}{sz:Nat}{k:IntKind}{i:Int}(d:0<=i)(b:i<rows.length) :
  bO H sz ab (.c (.f (sl g rows))) (.c (.f (.int k i)))=aa (.c (.f (.fp rows.flatten (i.toNat*sz)))):=by
 cases rows with
 |nil=>simp at b;omega
 |cons r rows=>
  simp only[ahk]at b;simp[bO,fE,sl,d];omega
def El{g:Tg}(b:cZ d q):dy H d (.f (sl g q))=aa (q.flatten.map .f):=by
 cases q with
 |nil=>cases g<;>simp[sl,Tg.fc,dy]
 |cons r q=>
  have:=cz b;simp only[sl,aji,ahb,if_false,dy,this,if_true]
end
section
open Go
def Kf(tab:TB)(f:Nat)(args:List V)(r:V):Prop:=∀H,∃J,Ev tab (.fn f) args H r (H++J)
section
variable{tab:TB}{f:Nat}{args:List V}{r:V}
def Kf.pure(h:Kf tab f args (.c (.f U))):bf tab f args (.c (.f U)):=by
 obtain⟨J,h⟩:=h [];exact⟨_,_,h,bv⟩
def Kf.eq(h:Kf tab f args (.c (.f U))):bf tab f args=Eq (.c (.f U)):=
 funext λr=>propext ⟨λk=>h.pure.Ze k,λe=>e▸h.pure⟩
def bf.eq(h:bf tab f args B):bf tab f args=Eq B:=funext λ_=>propext ⟨λk=>h.Ze k,λe=>e▸h⟩
noncomputable def ac2 (tab:TB) (f:Nat) (args:List V) (H:an):an:=Classical.epsilon λJ=>∃r,Ev tab (.fn f) args H r (H++J)
def Kf.ev(h:Kf tab f args r)(H:an):Ev tab (.fn f) args H=E2 r (H++ac2 tab f args H):=by
 have l:∃J,∃r,Ev tab (.fn f) args H r (H++J):=by obtain⟨J,b⟩:=h H;exact⟨J,r,b⟩
 have hs:∃r,Ev tab (.fn f) args H r (H++ac2 tab f args H):=Classical.epsilon_spec l;obtain⟨J,b⟩:=h H;obtain⟨r',d⟩:=hs;obtain⟨rfl,e⟩:=b.Ze d;funext x H';exact propext ⟨λk=>d.Ze k,λ⟨g,j⟩=>g▸j▸d⟩
def Ev.eq{c:Callee}{H':an}(H:Ev tab c args h r H'):Ev tab c args h=E2 r H':=funext λ_=>funext λ_=>propext ⟨λk=>H.Ze k,λ⟨b,d⟩=>b▸d▸H⟩
def Kf.Sg(h:Kf tab f args (.a (N.map .f))):bf tab f args (.a (N.map .f)):=by
 obtain⟨J,h⟩:=h [];exact⟨_,_,h,by simp[jd]⟩
def TA(b:List jZ)(r:V)(H:an)(s:St):Prop:=s.defs=[]/\results s.aT s.heap b=aa r/\∃J,s.heap=H++J
def dd{ps:List P}{b:List jZ}(y:tab f=aa ⟨ps,b,p⟩)(x:args.length=ps.length)
  (h:∀(H:an) (Q:Option aD->St->Prop),(∀j s,TA b r H s->Q j s)->WP tab f ab [.code p] ⟨dw ps args .e,[],H⟩ Q):Kf tab f args r:=by
 intro H;have g:=h H (λ_ s=>TA b r H s) λ_ _ h=>h;obtain⟨n,m,d,j,s,l,v,q,J,u⟩:=g;exact⟨J,se y x ⟨n,m,d,j,s,l,0,0,s.heap,by rw[v];rfl,by rw[q],u⟩⟩
@[simp]theorem acV {H':an} {x:jZ}:TA [x] r h ⟨J,[],H'⟩↔cB J H' x=aa r/\∃t,H'=h++t:=by
 simp only[TA,results,true_and,bC]
 grind
@[simp]theorem acF (H L:an):(H++L)[H.length]?=L[0]?:=by rw[agL (agQ _)];simp
@[simp]theorem adO (H L:an) (n:Nat):(H++L)[H.length+n]?=L[n]?:=by rw[agL ap];congr 1;omega
theorem xd(h:(CF tab m d (.fn f) args []).map (·.1)=aa (.c (.f U))):bf tab f args (.c (.f U)):=by
 rw[OF]at h;obtain⟨⟨r,H'⟩,b,g⟩:=h;exact⟨r,H',⟨m,d,b⟩,by rw[show r=.c (.f U) from g];simp⟩
def aZ(h:((CF tab m d (.fn f) args []).bind λp=>jd deep p.2 p.1)=aa B):bf tab f args B:=by
 rw[ahh]at h;obtain⟨⟨r,H'⟩,b,g⟩:=h;exact⟨r,H',⟨m,d,b⟩,g⟩
def afD{tab:TB}{args:List V}(h:((CF tab 60 10 (.fn d) args []).bind λp=>jd deep p.2 p.1)=aa B):bf tab d args=Eq B:=bf.eq (aZ h)
def dE{S:V->Prop}{ps:List P}{b:List jZ}(z:tab f=aa ⟨ps,b,p⟩)(x:args.length=ps.length)
  (h:∀Q:Option aD->St->Prop,(∀j s r,S r->pY b r s->Q j s)->WP tab f ab [.code p] ⟨dw ps args .e,[],[]⟩ Q):∃r,S r/\bf tab f args r:=by
 have q:=h (λ_ s=>∃r,S r/\pY b r s) λ_ _ r g l=>⟨r,g,l⟩
 obtain⟨n,m,d,j,s,g,r,y,v,A,l,u⟩:=q;exact⟨r,y,A,s.heap,se z x ⟨n,m,d,j,s,g,0,0,s.heap,by rw[v];rfl,l,rfl⟩,u⟩
variable{fn i:Nat}{ro:Option Nat}{k:List dS}{ds:List gY}{Q:Option aD->St->Prop}
def oV(a x:Nat):aD:=.region [⟨D x,.bin .add (R a) (.k (.c (.f (.int .i64 1)))),ab⟩,⟨D a,.ju (R x),ab⟩] []
def gQ(i a b c x:Nat)(body:aD):aD:=.seq (.region [⟨D c,.bin .lss (R a) (R b),ab⟩] []) (.seq (.cond (R c) .skip (.exit i)) (.seq body (oV a x)))
def xI(i a b c x:Nat)(body:aD):aD:=.block i (.loop (gQ i a b c x body))
def bW(N:Nat)(c:Nat->T->an->Prop)(K:N<=9223372036854775807)(x:d≠m)(F:A≠m)
  (b:J.g d=vi 0) (q:J.g m=vi N) (y:c 0 J h)
  (step:∀j J h,j<N->c j J h->J.g d=vi j->J.g m=vi N->
   (∀l H',c (j+1) ((l.s A (vi (j+1:Nat))).s d (vi (j+1:Nat))) H'->l.g d=vi j->l.g m=vi N->
    WP tab fn ro (.code (oV d A)::.inLoop (gQ i d m I A p)::.inBlock i::k) ⟨l,ds,H'⟩ Q)->
   WP tab fn ro (.code p::.code (oV d A)::.inLoop (gQ i d m I A p)::.inBlock i::k) ⟨J.s I (vb ae),ds,h⟩ Q)
  (done:∀J h,c N J h->J.g d=vi N->J.g m=vi N->WP tab fn ro k ⟨J.s I (vb ag),ds,h⟩ Q) :
  WP tab fn ro (.code (xI i d m I A p)::k) ⟨J,ds,h⟩ Q:=by
 have g:∀ops:List bh,ops.all (·.op.fN)=ae->ro=ab\/ops.all (·.op.fN)=ae:=λ_ H=>.inr H;refine ax ?_;refine di (λn s=>∃j J h,s=⟨J,ds,h⟩/\j<=N/\n=N-j/\c j J h/\J.g d=vi j/\J.g m=vi N) N ⟨0,J,h,rfl,ap,ap,y,b,q⟩ ?_;rintro n s ⟨j,J,h,rfl,L,rfl,z,b,q⟩ t;apply aE;refine aF (g _ rfl) ?_;simp[b,q];by_cases a:j<N
 .rw[decide_eq_true a];apply aE;refine aq bv ?_;refine aQ ?_;apply aE;refine step j J h a z b q λl H' u v B=>?_;refine aF (g _ rfl) ?_;simp[v];rw[a8];refine t (N-(j+1)) _ ap ⟨j+1,_,H',rfl,ap,rfl,by simpa using u,bv,?_⟩;simp_all
 .have:j=N:=ii
  subst this;rw[decide_eq_false a];apply aE;refine aC bv ?_;refine bQ (k':=k) (by simp[exitTo]) ?_;simp_all
def Bq(a x y:Nat):aD:=.region [⟨D x,.ju (R a),ab⟩,⟨D y,.bin .add (R x) (.k (.c (.f (.int .i64 1)))),ab⟩,⟨D a,.ju (R y),ab⟩] []
def rE(i a c x y:Nat)(b:List bh)(body:aD):aD:=.seq (.seq (.region b []) (.cond (R c) .skip (.exit i))) (.seq body (Bq a x y))
def Qz(i a c x y:Nat)(b:List bh)(body:aD):aD:=.block i (.loop (rE i a c x y b body))
def jI{g:List bh}(N:Nat)(x:Nat->T->an->Prop)(K:N<=9223372036854775807)(y:g.all (·.op.fN)=ae)
  (a:J.g d=vi 0) (B:x 0 J h)
  (l:∀j J h (L:St->Prop),j<=N->x j J h->J.g d=vi j->(∀b,x j b h->b.g d=vi j->b.g m=vb (decide ((j:Int)<(N:Int)))->L ⟨b,ds,h⟩)->Ab tab g ⟨J,ds,h⟩ L)
  (step:∀j J h,j<N->x j J h->J.g d=vi j->
   (∀b H',x (j+1) (((b.s I (vi j)).s A (vi (j+1:Nat))).s d (vi (j+1:Nat))) H'->b.g d=vi j->
    WP tab fn ro (.code (Bq d I A)::.inLoop (rE i d m I A g p)::.inBlock i::k) ⟨b,ds,H'⟩ Q)->
   WP tab fn ro (.code p::.code (Bq d I A)::.inLoop (rE i d m I A g p)::.inBlock i::k) ⟨J,ds,h⟩ Q)
  (done:∀J h,x N J h->J.g d=vi N->WP tab fn ro k ⟨J,ds,h⟩ Q) :
  WP tab fn ro (.code (Qz i d m I A g p)::k) ⟨J,ds,h⟩ Q:=by
 have c:∀ops:List bh,ops.all (·.op.fN)=ae->ro=ab\/ops.all (·.op.fN)=ae:=λ_ H=>.inr H;refine ax ?_;refine di (λn s=>∃j J h,s=⟨J,ds,h⟩/\j<=N/\n=N-j/\x j J h/\J.g d=vi j) N ⟨0,J,h,rfl,ap,ap,B,a⟩ ?_;rintro n s ⟨j,J,h,rfl,F,rfl,q,a⟩ t;apply aE;apply aE;refine aF (c _ y) ?_;refine l j J h _ F q a λb q a hc=>?_;by_cases z:j<N
 .rw[decide_eq_true ap]at hc;refine aq hc ?_;refine aQ ?_;apply aE;refine step j b h z q a λb H' u v=>?_;refine aF (c _ rfl) ?_;simp[v];rw[a8];exact t (N-(j+1)) _ ap ⟨j+1,_,H',rfl,ap,rfl,by simpa using u,bv⟩
 .have:j=N:=ii
  subst this;rw[decide_eq_false ap]at hc;refine aC hc ?_;refine bQ (k':=k) (by simp[exitTo]) ?_;simp_all
end
end
section
open Go
def mQ{b:Type}(l:List b)(p:b->Bool):Int:=match l.findIdx? p with|some j=>j|none=>-1
def Bh{b:Type}(l:List b)(p:b->Bool):decide (0<=mQ l p)=l.any p:=by
 unfold mQ
 grind
def Bg{b:Type}{l:List b}{p:b->Bool}(d:I<l.length)(m:p l[I]=ae)(g:∀(i:Nat) (hi:i<I),p (l[i]'(by omega))=ag):mQ l p=I:=by
 have:l.findIdx? p=aa I:=by
  rw[List.findIdx?_eq_some_iff_getElem];simp_all
 simp[mQ,this]
def Bi{b:Type}{l:List b}{p:b->Bool}(g:∀(i:Nat) (hi:i<l.length),p l[i]=ag):mQ l p = -1:=by
 have:l.findIdx? p=ab:=by
  rw[List.findIdx?_eq_none_iff];intro x d;obtain⟨i,hi,rfl⟩:=List.getElem_of_mem d;simp_all
 simp[mQ,this]
def ints(l:List Int):List (List FC):=l.map λn=>[fi n]
def ip{P:Prop}(h:P:=by simp[ints];omega):P:=h
def ol{P:Prop}(h:P:=by simp[ints]):P:=h
@[simp]theorem yZ (l:List Int):(ints l).length=l.length:=ol
theorem MX(l:List Int):cZ 1 (ints l):=cZ.map λ_=>rfl
def dY{l:List Int}(b:d<l.length){H:an}:aV H ab (.c (.f (.fp (ints l).flatten d)))=aa (vi l[d]):=by
 have:=UC (H:=H) (BY b);simpa[ints]using this
variable{tab:TB}
def Uq(t:List bh):aD:=.block 1 (.seq (.region [⟨D 10,.ju (R 8),ab⟩,⟨D 5,.ju (R 10),ab⟩] []) (.seq
 (.region t []) (.cond (R 16) (.seq (.region [⟨D 17,.ju (R 5),ab⟩,⟨D 4,.ju (R 17),ab⟩] []) .ret) .skip)))
def Zt(t:List bh):aS:=⟨[P.nat 0,P.nat 1],[.tmp (P.nat 4)],.seq (.region [⟨D 4,.ju (.k (.c (.f (.int .i64 0)))),ab⟩] [])
 (.seq (.seq (.region [⟨D 6,.ju (R 0),ab⟩,⟨D 7,.len (R 6),ab⟩,⟨D 8,.ju (.k (.c (.f (.int .i64 0)))),ab⟩] []) (xI 0 8 7 9 18 (Uq t)))
 (.seq (.region [⟨D 4,.ju (.k (.c (.f (.int .i64 (-1))))),ab⟩] []) .ret))⟩
def VE:List bh:=[⟨D 11,.ju (R 1),ab⟩,⟨D 12,.ju (R 0),ab⟩,⟨D 13,.ju (R 5),ab⟩,⟨D 14,.hZ 1 ab (R 12) (R 13),ab⟩,⟨D 15,.load ab (R 14),ab⟩,⟨D 16,.bin .eql (R 11) (R 15),ab⟩]
def VA(sz:Nat)(ld:Option Nat):List bh:=[⟨D 11,.ju (R 1),ab⟩,⟨D 12,.ju (R 0),ab⟩,⟨D 13,.ju (R 5),ab⟩,⟨D 14,.hZ sz ab (R 12) (R 13),ab⟩,⟨D 15,.load ld (R 14),ab⟩,⟨D 16,.jr (R 11) [(R 15)] ae,ab⟩]
def Rm{f:List bh}(X:tab d=aa (Zt f)){y:V}{I:Type}{l:List I}{p:I->Bool}(W:l.length<=9223372036854775807)
  (Y:∃c,B=.c c/\∀H,bA H c=aa l.length)
  (g:∀(j:Nat) (u:j<l.length) (t:T) (H:an) (L:St->Prop),t.g 0=B->t.g 1=y->t.g 5=vi j->
   (∀b J,b.g 0=B->b.g 1=y->b.g 5=vi j->b.g 7=t.g 7->b.g 8=t.g 8->b.g 16=vb (p l[j])->L ⟨b,[],H++J⟩)->Ab tab f ⟨t,[],H⟩ L) :
  Kf tab d [B,y] (vi (mQ l p)):=by
 obtain⟨c,rfl,hc⟩:=Y;refine dd X rfl λH Q x=>?_;apply aE;refine aF (.inl rfl) ?_;simp;apply aE;apply aE;refine aF (.inl rfl) ?_;simp[hc];refine bW l.length (λj t H'=>t.g 0=.c c/\t.g 1=y/\(∃J,H'=H++J)/\∀(i:Nat) (hi:i<l.length),i<j->p l[i]=ag) W ce ce bv bv bv ?_ ?_
 .rintro j t _ u ⟨z,A,⟨J,rfl⟩,q⟩ s F next
  refine ax ?_;apply aE;refine aF (.inl rfl) ?_;simp[s];apply aE;refine aF (.inl rfl) ?_;refine g j u _ _ _ (by simp[z]) (by simp[A]) bv λb J' K M N O S m=>?_;cases v:p l[j]with
  |true=>
   refine aq (by simp[m,v]) ?_;apply aE;refine aF (.inl rfl) ?_;simp[N];refine av (x _ _ ?_);have:=Bg u v (λi hi=>q i ap hi);simp_all
  |false=>
   refine aC (by simp[m,v]) ?_;refine aQ (au (next _ _ ?_ (by simp[S,s]) (by simp[O,F])));refine⟨by simp[K],by simp[M],⟨J++J',bv⟩,λi hi U=>?_⟩
   grind
 .rintro t _ ⟨z,A,⟨J,rfl⟩,q⟩ s F;apply aE;refine aF (.inl rfl) ?_;simp;refine av (x _ _ ?_);have:=Bi (l:=l) (p:=p) (λi hi=>q i hi hi);simp[this]
def C1(x:tab I=aa (Zt VE))(g:Tg)(l:List Int)(v:Int)(u:l.length<=9223372036854775807) :
  Kf tab I [.c (.f (sl g (ints l))),vi v] (vi (mQ l (· == v))):=by
 refine Rm x u ⟨_,rfl,λH=>by simp⟩ ?_;intro j s t H L b d m q;simp[VE,b,d,m,bu,s,dY];have:=q ((((((t.s 11 (vi v)).s 12 (.c (.f (sl g (ints l))))).s 13 (vi j)).s 14 (.c (.f (.fp (ints l).flatten j)))).s 15 (vi l[j])).s 16 (vb (decide (v=l[j])))) [] (by simp[b]) (by simp[d]) (by simp[m]) bv bv (by
  have y:decide (v=l[j])=(l[j] == v):=by rw[Bool.eq_iff_iff];simp;exact eq_comm
  simp_all)
 simp_all
def iF{sz:Nat}{ld:Option Nat}(B:tab I=aa (Zt (VA sz ld))){q:Type}(l:List q)(enc:q->List FC)(val:q->V)(p:q->Bool)(g:Tg)(k:Nat)(b:List FC)
  (z:l.length<=9223372036854775807) (d:∀(j:Nat) (m:j<l.length) (H:an),aV H ld (.c (.f (.fp (l.map enc).flatten (j*sz))))=aa (val l[j]))
  (A:∀x∈l,Kf tab k (val x::b.map λc=>.c (.f c)) (vb (p x))) :
  Kf tab I [.c (.f (sl g (l.map enc))),.c (.f (.fn k b))] (vi (mQ l p)):=by
 refine Rm B z ⟨_,rfl,λH=>by simp⟩ ?_;intro j m t H L s u v F;have y:=(A l[j] (IN m)).ev H;have hi:=bu (H:=H) (g:=g) (rows:=l.map enc) (sz:=sz) (k:=.i64) (i:=(j:Int)) ap (by simpa using m);simp[VA,s,u,v,hi,d j m,y];simp_all
def Mz(f:Nat):aS:=⟨[P.nat 0,P.nat 1],[.tmp (P.nat 4)],.seq (.region [⟨D 4,.ju (.k (.c (.f (.bool ag)))),ab⟩] []) (.seq
 (.region [⟨D 5,.ju (R 0),ab⟩,⟨D 6,.ju (R 1),ab⟩,⟨D 7,.call f [(R 5),(R 6)] ag,ab⟩,⟨D 8,.bin .geq (R 7) (.k (.c (.f (.int .i64 0)))),ab⟩,⟨D 4,.ju (R 8),ab⟩] []) .ret)⟩
def eR(m:tab I=aa (Mz A)){b:FC}{d:Type}{l:List d}{p:d->Bool}(h:Kf tab A [.c (.f U),.c (.f b)] (vi (mQ l p))) :
  Kf tab I [.c (.f U),.c (.f b)] (vb (l.any p)):=by
 refine dd m rfl λH Q g=>?_;apply aE;refine aF (.inl rfl) ?_;simp;apply aE;refine aF (.inl rfl) ?_;have j:=h.eq;simp[j];refine av (g _ _ ?_);simp[Bh]
end
section
open Go
def aj{H:an}{b:Nat}{x:bV}(h:H[b]?=aa x):b<H.length:=(aft.1 h).1
theorem fM{j l:Type}{g g':j->Option l}:∀{xs:List j} {ys:List l},(∀x y,x∈xs->g x=aa y->g' x=aa y)->bC g xs=aa ys->bC g' xs=aa ys
 |[],ys,_,h=>h
 |x::xs,ys,hi,h=>by
  simp only[bC]at h ⊢;cases d:g x with
  |none=>simp[d]at h
  |some y=>
   cases b:bC g xs with
   |none=>simp[d,b]at h
   |some zs=>
    simp only[d,b]at h;rw[hi x y agR d,fM (λx y m=>hi x y (agU _ m)) b];omega
theorem uG{j l:Type}{g:j->Option l}:∀{xs:List j} {ys:List l},bC g xs=aa ys->ys.length=xs.length
 |[],ys,h=>by simp[bC]at h;subst h;rfl
 |x::xs,ys,h=>by
  simp only[bC]at h;cases d:g x with
  |none=>simp[d]at h
  |some y=>
   cases b:bC g xs with
   |none=>simp[d,b]at h| some zs=>simp[d,b]at h;subst h;simp[uG b]
theorem wX{q s:Type}{g:q->Option s}:∀{xs b:List q} {ys d:List s},bC g xs=aa ys->bC g b=aa d->bC g (xs++b)=aa (ys++d)
 |[],b,ys,d,h,l=>by simp[bC]at h;subst h;simpa using l
 |x::xs,b,ys,d,h,l=>by
  simp only[bC,ahO]at h ⊢;cases m:g x with
  |none=>simp[m]at h
  |some y=>
   cases j:bC g xs with
   |none=>simp[m,j]at h| some zs=>simp[m,j]at h;subst h;simp[wX j l]
def gZ:Nat->an->C->Option FC
 |_,_,.f x=>aa x| 0,_,_=>ab
 |n+1,H,.ptr b d _=>match H[b]? with
  |some (.box cs _)=>(bC (gZ n H) cs).map (.fp · d)| _=>ab
 |n+1,H,.sl b o l _ _ sz=>match H[b]? with
  |some (.box cs _)=>if o+l*sz<=cs.length then(bC (gZ n H) ((cs.drop o).take (l*sz))).map (.fs · l)else ab| _=>ab
 |_+1,_,_=>ab
@[simp]theorem Ez:gZ d h (.f U)=aa U:=by cases d<;>rfl
theorem yN{c ep sz:Nat}:gZ (d+1) h (.sl m I A c ep sz)=match h[m]? with
  |some (.box cs _)=>if I+A*sz<=cs.length then(bC (gZ d h) ((cs.drop I).take (A*sz))).map (.fs · A)else ab| _=>ab:=rfl
@[simp]theorem ze {n:Nat} {H:an}:∀(xs:List FC),bC (gZ n H) (xs.map .f)=aa xs
 |[]=>rfl| x::xs=>by simp only[IT,bC,Ez,ze xs]
theorem rk{H H':an}(g:∀(b:Nat) cs fl,H[b]?=aa (.box cs fl)->∃fl',H'[b]?=aa (.box cs fl')):∀(n:Nat) (x:C) (y:FC),gZ n H x=aa y->gZ n H' x=aa y
 |n,.f x,y,h=>by simpa using h
 |0,.ptr _ _ _,_,h=>by simp[gZ]at h
 |0,.sl _ _ _ _ _ _,_,h=>by simp[gZ]at h
 |n+1,.ptr b u e,y,h=>by
  simp only[gZ]at h ⊢;split at h
  .rename_i cs fl d;obtain⟨fl',j⟩:=g b cs fl d;simp only[j];rw[OF]at h ⊢;obtain⟨zs,m,q⟩:=h;exact⟨zs,fM (λx y _=>rk g n x y) m,q⟩
  .simp at h
 |n+1,.sl b o l c e sz,y,h=>by
  simp only[gZ]at h ⊢;split at h
  .rename_i cs fl d;obtain⟨fl',j⟩:=g b cs fl d;simp only[j];split at h
   .rename_i s;rw[ct s];rw[OF]at h ⊢;obtain⟨zs,m,q⟩:=h;exact⟨zs,fM (λx y _=>rk g n x y) m,q⟩
   .simp at h
  .simp at h
 |0,.cl _ _,_,h=>by simp[gZ]at h
 |0,.yl _,_,h=>by simp[gZ]at h
 |0,.mp _,_,h=>by simp[gZ]at h
 |0,.it _,_,h=>by simp[gZ]at h
 |0,.bm _ _,_,h=>by simp[gZ]at h
 |0,.mi _,_,h=>by simp[gZ]at h
 |_+1,.cl _ _,_,h=>by simp[gZ]at h
 |_+1,.yl _,_,h=>by simp[gZ]at h
 |_+1,.mp _,_,h=>by simp[gZ]at h
 |_+1,.it _,_,h=>by simp[gZ]at h
 |_+1,.bm _ _,_,h=>by simp[gZ]at h
 |_+1,.mi _,_,h=>by simp[gZ]at h
theorem CQ{H:an}:∀(n:Nat) (x:C) (y:FC),gZ n H x=aa y->fv n H x=aa y
 |n,.f x,y,h=>by simpa using h
 |0,.ptr _ _ _,_,h=>by simp[gZ]at h
 |0,.sl _ _ _ _ _ _,_,h=>by simp[gZ]at h
 |n+1,.ptr b q e,y,h=>by
  simp only[gZ]at h;simp only[fv];split at h
  .rename_i cs fl d
   try simp only[d]
   rw[OF]at h ⊢;obtain⟨zs,g,j⟩:=h;exact⟨zs,fM (λx y _=>CQ n x y) g,j⟩
  .simp at h
 |n+1,.sl b o l c e sz,y,h=>by
  simp only[gZ]at h;simp only[fv];split at h
  .rename_i cs fl d
   try simp only[d]
   split at h
   .rename_i m;rw[ct m];rw[OF]at h ⊢;obtain⟨zs,g,j⟩:=h;exact⟨zs,fM (λx y _=>CQ n x y) g,j⟩
   .simp at h
  .simp at h
 |0,.cl _ _,_,h=>by simp[gZ]at h
 |0,.yl _,_,h=>by simp[gZ]at h
 |0,.mp _,_,h=>by simp[gZ]at h
 |0,.it _,_,h=>by simp[gZ]at h
 |0,.bm _ _,_,h=>by simp[gZ]at h
 |0,.mi _,_,h=>by simp[gZ]at h
 |_+1,.cl _ _,_,h=>by simp[gZ]at h
 |_+1,.yl _,_,h=>by simp[gZ]at h
 |_+1,.mp _,_,h=>by simp[gZ]at h
 |_+1,.it _,_,h=>by simp[gZ]at h
 |_+1,.bm _ _,_,h=>by simp[gZ]at h
 |_+1,.mi _,_,h=>by simp[gZ]at h
theorem Hi{H:an}:∀{n m:Nat} {x:C} {y:FC},gZ n H x=aa y->n<=m->gZ m H x=aa y
 |n,m,.f x,y,h,_=>by simpa using h
 |0,_,.ptr _ _ _,_,h,_=>by simp[gZ]at h
 |0,_,.sl _ _ _ _ _ _,_,h,_=>by simp[gZ]at h
 |_+1,0,_,_,_,s=>by omega
 |n+1,m+1,.ptr b v e,y,h,s=>by
  simp only[gZ]at h ⊢;split at h
  .rename_i cs fl d
   try simp only[d]
   rw[OF]at h ⊢;obtain⟨zs,g,j⟩:=h;exact⟨zs,fM (λx y _ q=>Hi q ap) g,j⟩
  .omega
 |n+1,m+1,.sl b o l c e sz,y,h,s=>by
  simp only[gZ]at h ⊢;split at h
  .rename_i cs fl d
   try simp only[d]
   split at h
   .rename_i u;rw[ct u];rw[OF]at h ⊢;obtain⟨zs,g,j⟩:=h;exact⟨zs,fM (λx y _ q=>Hi q ap) g,j⟩
   .simp at h
  .omega
 |0,_,.cl _ _,_,h,_=>by simp[gZ]at h
 |0,_,.yl _,_,h,_=>by simp[gZ]at h
 |0,_,.mp _,_,h,_=>by simp[gZ]at h
 |0,_,.it _,_,h,_=>by simp[gZ]at h
 |0,_,.bm _ _,_,h,_=>by simp[gZ]at h
 |0,_,.mi _,_,h,_=>by simp[gZ]at h
 |_+1,_+1,.cl _ _,_,h,_=>by simp[gZ]at h
 |_+1,_+1,.yl _,_,h,_=>by simp[gZ]at h
 |_+1,_+1,.mp _,_,h,_=>by simp[gZ]at h
 |_+1,_+1,.it _,_,h,_=>by simp[gZ]at h
 |_+1,_+1,.bm _ _,_,h,_=>by simp[gZ]at h
 |_+1,_+1,.mi _,_,h,_=>by simp[gZ]at h
def Zj(H:gZ d h u=aa U)(b:d<=m):fv m h u=aa U:=CQ m u U (Hi H b)
def yM(L:an)(H:gZ m h u=aa U):gZ m (h++L) u=aa U:=
 rk (λb cs fl d=>⟨fl,by rw[AI (aj d)];exact d⟩) m u U H
def Tg.os:Tg->Os
 | .nil=>.nil| _=>.es
def LB(z:Bool)(H:an)(sz:Nat)(v:V)(g:Tg)(rows:List (List FC)):Prop:=
 (rows=[]/\v=.c (.f g.fc)/\g≠.fs)\/
 ∃b ep fl st cs,v=.c (.sl b 0 rows.length 0 ep sz)/\H[b]?=aa (.dz sz cs fl ep st)/\bC (gZ 60 H) cs=aa rows.flatten/\fl<=cs.length/\(z=ae->fl=0)/\
  (rows=[]->st=g.os/\g≠.fs)/\(rows≠[]->st=.loc)
variable{z:Bool}{H H':an}{sz bytes:Nat}{v y:V}{g:Tg}{rows:List (List FC)}{row:List FC}{cs:List C}
def LB.push(h:LB z H sz v g rows)(L:an):LB z (H++L) sz v g rows:=by
 rcases h with h|⟨b,ep,fl,st,cs,h1,h2,h3,h4⟩
 .exact .inl h
 .exact .inr ⟨b,ep,fl,st,cs,h1,by rw[AI (aj h2)];exact h2,fM (λx y _=>yM L) h3,h4⟩
def LB.es0:LB z H sz (.c (.f .es)) .es []:=.inl ⟨rfl,rfl,ce⟩
def LB.app(h:LB z H sz v g rows)(hg:cZ sz rows)(F:row.length=sz)(xB:sz≠0)(hy:dI H sz y=aa (1,cs))(hc:bC (gZ 60 H) cs=aa row)(j:cF (rows.length+1) bytes=ae) :
  ∃u H',bZ H sz bytes v y=aa (u,H')/\LB z H' sz u g (rows++[row])/\H.length<=H'.length/\(∀(b:Nat) cs fl,H[b]?=aa (.box cs fl)->H'[b]?=aa (.box cs fl)):=by
 rcases h with⟨rfl,rfl,m⟩|⟨b,ep,fl,st,ds,rfl,h2,h3,A,B,h4,h5⟩
 .have d:cF 1 bytes=ae:=by simpa using j
  refine⟨.c (.sl H.length 0 1 0 0 sz),H++[.dz sz cs 0 0 .loc],?_,?_,bv,λb cs fl hb=>by rw[AI (aj hb)];exact hb⟩
  .cases g with
   |nil=>simp[bZ,hy,xB,Tg.fc,d]| es=>simp[bZ,hy,xB,Tg.fc,d]| fs=>exact absurd rfl m
  .exact .inr ⟨H.length,0,0,.loc,cs,bv,bv,by simpa using fM (λx y _=>yM _) hc,bv,λ_=>rfl,λh=>by simp at h,λ_=>rfl⟩
 .have hl:rows.length*sz=ds.length:=by rw[<-uG h3,cz hg]
  have s:∀(q:Nat) cs' fl',H[q]?=aa (.box cs' fl')->∃l,(H.set b (.dz sz (ds++cs) fl (ep+1) .loc))[q]?=aa (.box cs' l):=by
   grind
  refine⟨.c (.sl b 0 (rows.length+1) 0 (ep+1) sz),H.set b (.dz sz (ds++cs) fl (ep+1) .loc),?_,?_,bv,?_⟩
  .simp only[bZ,hy,xB,if_false,h2,and_self,if_true];simp_all
  .refine .inr ⟨b,ep+1,fl,.loc,ds++cs,bv,?_,?_,?_,B,λh=>by simp at h,λ_=>rfl⟩
   .grind
   .rw[aif];simpa using wX (fM (λx y _=>rk s 60 x y) h3) (fM (λx y _=>rk s 60 x y) hc)
   .grind
  .grind
def LB.len(h:LB z H sz v g rows):∃c,v=.c c/\bA H c=aa rows.length:=by
 rcases h with⟨rfl,rfl,j⟩|⟨b,ep,fl,st,ds,rfl,h2,h3,d,l,h4,h5⟩
 .cases g<;>exact⟨_,rfl,rfl⟩
 .exact⟨_,rfl,by simp[bA,h2]⟩
def LB.fz(h:LB z H sz v g rows)(hg:cZ sz rows):dq deep H v=aa (.c (.f (sl g rows))):=by
 rcases h with⟨rfl,rfl,d⟩|⟨b,ep,fl,st,ds,rfl,h2,h3,j,q,h4,h5⟩
 .rfl
 .have hl:rows.length*sz=ds.length:=by rw[<-uG h3,cz hg]
  cases rows with
  |nil=>
   obtain⟨rfl,d⟩:=h4 rfl;cases g with
   |nil=>simp[deep,gR,h2,Tg.os,sl,Tg.fc]| es=>simp[deep,gR,h2,Tg.os,sl,Tg.fc]| fs=>exact absurd rfl d
  |cons r m=>
   have:=h5 bv;subst this;have up:bC (fv 63 H) ds=aa (r::m).flatten:=fM (λx y _ l=>Zj l ce) h3;simp only[acS,deep,gR,h2];rw[ct ⟨trivial,trivial,ap⟩,ahR,agY ap,up];rfl
def LB.fzV(h:LB z H sz v g rows)(hg:cZ sz rows):jd deep H v=aa (.c (.f (sl g rows))):=by
 have:=h.fz hg;obtain⟨c,rfl,_⟩:=h.len;exact this
theorem EW{j l:Type}{g:j->Option l}{c:j}{y:l}(hc:g c=aa y):∀{xs:List j} {ys:List l} (i:Nat),bC g xs=aa ys->bC g (xs.set i c)=aa (ys.set i y)
 |[],ys,i,h=>by simp[bC]at h;subst h;simp[bC]
 |x::xs,ys,i,h=>by
  simp only[bC]at h;cases d:g x with
  |none=>simp[d]at h
  |some w=>
   cases b:bC g xs with
   |none=>simp[d,b]at h
   |some zs=>
    simp[d,b]at h;subst h;cases i with
    |zero=>simp[bC,hc,b]| succ i=>simp only[aiS,bC,d,EW hc i b]
def Sb{b:Type}{cs:List b}{c:b}(h:d<cs.length):over cs d [c]=cs.set d c:=by
 simp only[over,ahk,ah7];rw[List.set_eq_take_append_cons_drop,ct h];simp
theorem wQ{sz:Nat}:∀{rows:List (List FC)} {j k:Nat} {x:FC} {row:List FC},cZ sz rows->rows[j]?=aa row->k<sz->rows.flatten.set (j*sz+k) x=(rows.set j (row.set k x)).flatten
 |[],_,_,_,_,_,b,_=>by simp at b
 |r::rows,0,k,x,row,d,b,g=>by
  simp at b;subst b;have:=d r agR;simp_all
 |r::rows,j+1,k,x,row,d,b,g=>by
  have l:=d r agR;simp only[aiS,ag6];rw[List.set_append_right _ _ (by rw[l,ahi];omega)];have e:(j+1)*sz+k-r.length=j*sz+k:=by rw[l,ahi];omega
  rw[e,wQ (λy m=>d y (agU _ m)) (by simpa using b) g]
def LB.st1(h:LB ae H sz v g rows)(hg:cZ sz rows){j k:Nat}{c:C}{x:FC}(z:rows[j]?=aa row)(J:k<sz)(K:gZ 60 H c=aa x) :
  ∃b ep H',bO H sz ab v (vi j)=aa (.c (.ptr b (j*sz) ep))/\dj H (.ptr b (j*sz+k) ep) [c]=aa H'/\LB ae H' sz v g (rows.set j (row.set k x))/\(∀(b:Nat) cs fl,H[b]?=aa (.box cs fl)->H'[b]?=aa (.box cs fl)):=by
 have d:j<rows.length:=(aft.1 z).1;rcases h with⟨rfl,rfl,I⟩|⟨b,ep,fl,st,ds,rfl,h2,h3,A,L,h4,h5⟩
 .simp at d
 .have hl:rows.length*sz=ds.length:=by rw[<-uG h3,cz hg]
  have u:rows≠[]:=by rintro rfl;simp at d
  have:=h5 u;subst this;have q:=L rfl;subst q;have s:j*sz+k<ds.length:=by
   have M:(j+1)*sz<=rows.length*sz:=ahA sz d
   grind
  have B:∀(m:Nat) cs' fl',H[m]?=aa (.box cs' fl')->∃l,(H.set b (.dz sz (ds.set (j*sz+k) c) 0 ep .loc))[m]?=aa (.box cs' l):=by
   grind
  refine⟨b,ep,H.set b (.dz sz (ds.set (j*sz+k) c) 0 ep .loc),?_,?_,?_,λm cs' fl' F=>?_⟩
  .simp[bO,fE,h2,d]
  .rw[<-Sb s];simp only[bF,h2]
   grind
  .refine .inr ⟨b,ep,0,.loc,ds.set (j*sz+k) c,bv,By (aj h2),?_,bv,λ_=>rfl,λh=>?_,λ_=>rfl⟩
   .rw[<-wQ hg z J];exact fM (λx y _=>rk B 60 x y) (EW K _ h3)
   .simp_all
  .grind
def kh{fl:Nat}(h:H[d]?=aa (.box cs fl))(hc:cs.length=sz):dI H sz (.c (.sl d 0 1 m 0 sz))=aa (1,cs):=by
 simp[dI,bA,dy,h,hc]
 grind
end
section
open Go
def F7(P:Program):List Field->Nat->Nat->Bool
 |[],o,n=>o == n| f::b,o,n=>f.offset == o&&F7 P b (o+P.cellsOf f.type) n
def jg(P:Program):Nat->TypeId->Bool
 |0,_=>ag
 |n+1,t=>match P.underlying t with
  |some .bool=>P.cellsOf t == 1| some (.int _)=>P.cellsOf t == 1| some .string=>P.cellsOf t == 1| some (.slice e)=>P.cellsOf t == 1&&P.cellsOf e != 0&&jg P n e| some (.struct b)=>F7 P b.toList 0 (P.cellsOf t)&&b.toList.all λf=>jg P n f.type
  |some (.array k e)=>P.cellsOf t == k*P.cellsOf e&&jg P n e| _=>ag
def A3(S:TypeId->List FC->Prop):List TypeId->List FC->Prop
 |[],xs=>xs=[]| t::ts,xs=>∃p q,xs=p++q/\S t p/\A3 S ts q
def tO(P:Program):Nat->TypeId->List FC->Prop
 |0,_,_=>False
 |n+1,t,xs=>match P.underlying t with
  |some .bool=>∃b,xs=[.bool b]| some (.int k)=>∃m,xs=[.int k m]/\(Lit.int k m).wf=ae| some .string=>∃s,xs=[.str s]/\s.size<=maxLen| some (.slice e)=>∃g rows,xs=[sl g rows]/\cZ (P.cellsOf e) rows/\rows.length<=maxLen/\∀r∈rows,tO P n e r| some (.struct d)=>A3 (tO P n) (d.toList.map (·.type)) xs| some (.array k e)=>∃rows,xs=rows.flatten/\rows.length=k/\cZ (P.cellsOf e) rows/\∀r∈rows,tO P n e r| _=>False
theorem yP{m:Type}{sz:Nat}:∀{rows:List (List m)} {j k:Nat} {row:List m},(∀r∈rows,r.length=sz)->rows[j]?=aa row->k<sz->rows.flatten[j*sz+k]?=row[k]?
 |[],j,k,row,_,b,_=>by simp at b
 |r::rows,0,k,row,d,b,g=>by
  grind
 |r::rows,j+1,k,row,d,b,g=>by
  have l:=d r agR;rw[ag6,agL (by rw[l,ahi];omega)];have e:(j+1)*sz+k-r.length=j*sz+k:=by rw[l,ahi];omega
  rw[e];exact yP (rows:=rows) (λx q=>d x (agU _ q)) (by simpa using b) g
theorem yQ{d:Type}{sz:Nat}:∀{rows:List (List d)},(∀r∈rows,r.length=sz)->rows.flatten.length=rows.length*sz
 |[],_=>by simp
 |r::rows,h=>by
  have:=yQ (rows:=rows) λx b=>h x (agU _ b)
  grind
def Ik(w:World):Nat->Nat->Prop:=λc _=>c<w.heap.size
def Jm{w:World}{a:Addr}{v:Value}(h:w.cell? a=aa v):a.block<w.heap.size/\a.spot=ab:=by
 unfold World.cell? at h;split at h
 .rename_i b;split at h
  .simp at h
  .rename_i hs;refine⟨?_,by simpa using hs⟩
   grind
 .simp at h
theorem A2.flatten{j l:Type}{R:j->l->Prop}{g:List (List j)}{d:List (List l)}(hl:g.length=d.length)
  (h:∀(i:Nat) xs ys,g[i]?=aa xs->d[i]?=aa ys->A2 R xs ys):A2 R g.flatten d.flatten:=by
 induction g generalizing d with
 |nil=>cases d with
  |nil=>exact A2.nil| cons y ys=>simp at hl
 |cons x xs q=>cases d with
  |nil=>simp at hl
  |cons y ys=>
   rw[ag6,ag6];exact(h 0 x y rfl rfl).append (q (by simpa using hl) λi a b m hb=>h (i+1) a b (by simpa using m) (by simpa using hb))
section
variable{H:Type}{enc:TypeId × Value->H}{P:Program}{w:World}{base:Nat}{spare:Nat->Bool}{held:Bool}{σ:Nat->FuncId}
def aco(σ:Nat->FuncId)(P:Program)(w:World)(n:Nat)(t:TypeId)(cs:List Value):Prop:=∃xs,A2 (dJ σ (Ik w) w) xs cs/\tO P n t xs
theorem wR{n:Nat}(u:∀{t:TypeId} {fuel:Nat} {cs:List Value} {x:DataW H × List MemPlace},jg P n t=ae->DataW.trod enc P w base spare held fuel t cs=aa x->aco σ P w n t cs/\cs.length=P.cellsOf t)
  {fuel:Nat}:∀(b:List Field) (o N:Nat) (cs:List Value),F7 P b o N=ae->(b.all λf=>jg P n f.type)=ae->cs.length=N->
   (∀f∈b,∃x,DataW.trod enc P w base spare held fuel f.type ((cs.drop f.offset).take (P.cellsOf f.type))=aa x)->
   ∃xs,A2 (dJ σ (Ik w) w) xs (cs.drop o)/\A3 (tO P n) (b.map (·.type)) xs
 |[],o,N,cs,d,_,l,_=>by
  simp[F7]at d;exact⟨[],by rw[aiW ap];exact A2.nil,rfl⟩
 |f::b,o,N,cs,d,hs,l,s=>by
  simp only[F7,IS,beq_iff_eq]at d;simp only[List.all_cons,IS]at hs;obtain⟨x,j⟩:=s f agR;rw[d.1]at j;obtain⟨⟨p,y,A⟩,m⟩:=u hs.1 j;obtain⟨q,z,B⟩:=wR u b (o+P.cellsOf f.type) N cs d.2 hs.2 l λg v=>s g (agU _ v);refine⟨p++q,?_,p,q,rfl,A,B⟩;have:cs.drop o=(cs.drop o).take (P.cellsOf f.type)++cs.drop (o+P.cellsOf f.type):=by
   rw[<-aiG,ahU]
  rw[this];exact y.append z
def Qk(c o n k:Nat):((⟨c,o,ab⟩:Addr).add n).add k=⟨c,o+(n+k),ab⟩:=by
 unfold Addr.add
 grind
def SV{t e:TypeId}{cs:List Value}{x:DataW H × List MemPlace}(j:P.underlying t=aa (.array m e))(h:DataW.trod enc P w base spare held (I+1) t cs=aa x) :
  cs.length=P.cellsOf t/\∀i,i<m->∃y,DataW.trod enc P w base spare held I e ((cs.drop (i*P.cellsOf e)).take (P.cellsOf e))=aa y:=by
 unfold DataW.trod at h;rw[j]at h;simp only[Option.ite_none_right_eq_some,OF]at h;obtain⟨g,xs,d,l⟩:=h;refine⟨g,λi hi=>?_⟩;have:=mapM_some_get d i i (by simp[hi]);have b:xs.length=m:=by simpa using mapM_some_length d
 simp_all
theorem A_{j:Type}{sz:Nat}:∀{k:Nat} {cs:List j},cs.length=k*sz->cs=((List.range k).map λi=>(cs.drop (i*sz)).take sz).flatten
 |0,cs,h=>by simp at h;simp[h]
 |k+1,cs,h=>by
  have d:(cs.take (k*sz)).length=k*sz:=by rw[ahl,h,ahi];omega
  have g:=A_ d;rw[List.range_succ,ahQ,aif];have e:((List.range k).map λi=>(cs.drop (i*sz)).take sz)=(List.range k).map λi=>((cs.take (k*sz)).drop (i*sz)).take sz:=by
   refine List.map_congr_left λi hi=>?_;have b:i<k:=by simpa using hi
   have:(i+1)*sz<=k*sz:=ahA _ b;rw[ahi]at this;rw[List.drop_take,aiN,aik ap]
  rw[e,<-g];simp only[IT,agN,ag6,List.flatten_nil,ahe];have:(cs.drop (k*sz)).take sz=cs.drop (k*sz):=agY (by rw[ag5,h,ahi];omega);rw[this,ahU]
def afi{n:Nat}:∀{t:TypeId} {fuel:Nat} {cs:List Value} {x:DataW H × List MemPlace},jg P n t=ae->DataW.trod enc P w base spare held fuel t cs=aa x->
  aco σ P w n t cs/\cs.length=P.cellsOf t:=by
 induction n with
 |zero=>intro t fuel cs x hs;simp[jg]at hs
 |succ n ih=>
  intro t fuel cs x hs h;simp only[jg]at hs;split at hs
  .rename_i g;obtain⟨b,rfl,_⟩:=DataW.trod_bool g h;exact⟨⟨[.bool b],.cons (.bool b) .nil,by simp only[tO,g];exact⟨b,rfl⟩⟩,by simp at hs;simp[hs]⟩
  .rename_i k g;obtain⟨m,rfl,_,hw⟩:=DataW.trod_int g h;exact⟨⟨[.int k m],.cons (.int k m) .nil,by simp only[tO,g];exact⟨m,rfl,hw⟩⟩,by simp at hs;simp[hs]⟩
  .rename_i g;obtain⟨s,rfl,_,hw⟩:=DataW.trod_string g h;exact⟨⟨[.str s],.cons (.str s) .nil,by simp only[tO,g];exact⟨s,rfl,hw⟩⟩,by simp at hs;simp[hs]⟩
  .rename_i e g;simp only[IS,beq_iff_eq,bne_iff_ne]at hs;obtain⟨⟨F,d_⟩,X⟩:=hs;rcases DataW.trod_slice g h with⟨rfl,_⟩|⟨a,len,cap,Q,rest,m,_,rfl,_,hb,I,hm,c_,Y,_,_⟩
   .exact⟨⟨[sl .nil []],.cons .aN .nil,by simp only[tO,g];exact⟨.nil,[],rfl,λr j=>by simp at j,bv,λr j=>by simp at j⟩⟩,by simpa using F.symm⟩
   .refine⟨?_,by simpa using F.symm⟩;have z:∀i,i<len->∃p:List Value × List FC,w.cells? base (a.add (i*P.cellsOf e)) (P.cellsOf e)=aa p.1/\A2 (dJ σ (Ik w) w) p.2 p.1/\tO P n e p.2:=by
     intro i hi;have:=Y i hi;rw[BY ap]at this;obtain⟨cs',F,K⟩:=ahh.1 this;obtain⟨⟨xs,ha,hs⟩,_⟩:=ih X K;exact⟨(cs',xs),F,ha,hs⟩
    obtain⟨p,hp⟩:=Go.Deep.choose_lt z;by_cases h0:len=0
    .subst h0;refine⟨[sl .fs []],.cons (.VK a cap) .nil,?_⟩;simp only[tO,g];exact⟨.fs,[],rfl,λr j=>by simp at j,bv,λr j=>by simp at j⟩
    have B:a.spot=ab:=by
     have:=hp 0 ap;obtain⟨_,d9,U⟩:=World.cells?_some this.1;have:=U 0 ap;rw[BY ap]at this;have:=(Jm this).2;simpa[Addr.add]using this
    obtain⟨c,o,sp⟩:=a;simp only at B;subst B
    let d:=(List.range len).map λi=>(p i).1
    let rows:=(List.range len).map λi=>(p i).2
    have hv:∀v∈d,v.length=P.cellsOf e:=by
     grind
    have hg:cZ (P.cellsOf e) rows:=by
     intro r j;obtain⟨i,hi,rfl⟩:=agX.1 j;obtain⟨F,K,_⟩:=hp i (by simpa using hi);rw[K.len,(World.cells?_some F).2.1]
    have S:A2 (dJ σ (Ik w) w) rows.flatten d.flatten:=by
     refine A2.flatten (by simp[rows,d]) λi xs ys J hy=>?_
     grind
    have A:∀i u,d.flatten[i]?=aa u->w.cell? ⟨c,o+i,ab⟩=aa u:=by
     intro i u N;have hi:i<d.flatten.length:=(aft.1 N).1;rw[yQ hv]at hi;have c9:d.length=len:=by simp[d]
     rw[c9]at hi;have O:i / P.cellsOf e<len:=Nat.div_lt_of_lt_mul (by rw[ai1];exact hi);have hk:i % P.cellsOf e<P.cellsOf e:=Nat.mod_lt _ ap;have l:i=i / P.cellsOf e*P.cellsOf e+i % P.cellsOf e:=by rw[ai1];exact(Nat.div_add_mod _ _).symm
     have M:d[i / P.cellsOf e]?=aa (p (i / P.cellsOf e)).1:=by simp[d,O]
     rw[l,yP hv M hk]at N;obtain⟨_,_,hc⟩:=World.cells?_some (hp _ O).1;have:=hc _ hk;rw[N]at this;rw[<-this,Qk,<-l]
    refine⟨[sl .fs rows],.cons ?_ .nil,?_⟩
    .have a_:rows≠[]:=by simp[rows];omega
     have b_:rows.length=len:=by simp[rows]
     have:sl Tg.fs rows=.fs rows.flatten len:=by
      cases j:rows with
      |nil=>exact absurd j a_| cons r rs=>simp only[sl,aji,ahb,if_false];rw[<-j,b_]
     rw[this];refine .fs rows.flatten len c o cap d.flatten I S.len.symm (λi hi=>?_) A λi x u J N=>S.2 i x u J N;have l:i<d.flatten.length:=by rw[<-S.len];exact hi
     exact(Jm (A i _ (BY l))).1
    .simp only[tO,g]
     grind
  .rename_i fs g;simp only[IS]at hs;obtain⟨xs,m,_,_,I,_,J⟩:=DataW.trod_struct g h;refine⟨?_,I⟩;obtain⟨ys,F,K⟩:=wR (n:=n) (fuel:=m) ih fs.toList 0 _ cs hs.1 hs.2 I λf hf=>by
    obtain⟨i,hi⟩:=List.getElem?_of_mem hf
    grind
   exact⟨ys,by simpa using F,by simp only[tO,g];exact K⟩
  .rename_i k e g;simp only[IS,beq_iff_eq]at hs;obtain⟨L,X⟩:=hs;cases fuel with
   |zero=>simp[DataW.trod]at h
   |succ m=>
   obtain⟨I,J⟩:=SV g h;refine⟨?_,I⟩;have z:∀i,i<k->∃q:List FC,A2 (dJ σ (Ik w) w) q ((cs.drop (i*P.cellsOf e)).take (P.cellsOf e))/\tO P n e q:=by
    intro i hi;obtain⟨y,hy⟩:=J i hi;obtain⟨⟨q,a,b⟩,_⟩:=ih X hy
    grind
   obtain⟨q,O⟩:=Go.Deep.choose_lt z
   let rows:=(List.range k).map q
   have W:cs=((List.range k).map λi=>(cs.drop (i*P.cellsOf e)).take (P.cellsOf e)).flatten:=A_ (by rw[I,L]);refine⟨rows.flatten,?_,?_⟩
   .rw[W];refine A2.flatten (by simp[rows]) λi xs ys J hy=>?_
    grind
   .simp only[tO,g];refine⟨rows,rfl,by simp[rows],λr j=>?_,λr j=>?_⟩
    .obtain⟨i,hi,rfl⟩:=agX.1 j;have l:i<k:=by simpa using hi
     rw[(O i l).1.len,ahl,ag5,I,L]
     grind
    .grind
  .simp at hs
end
section
variable{P:Program}{n:Nat}{t e:TypeId}{xs:List FC}
def jM{k:IntKind}(b:P.underlying t=aa (.int k))(h:tO P (n+1) t xs):∃m,xs=[.int k m]/\(Lit.int k m).wf=ae:=by simpa only[tO,b]using h
def B3(b:P.underlying t=aa (.slice e))(h:tO P (n+1) t xs):∃g rows,xs=[sl g rows]/\cZ (P.cellsOf e) rows/\rows.length<=maxLen/\∀r∈rows,tO P n e r:=by simpa only[tO,b]using h
def IE{d:Array Field}{ts:List TypeId}(g:P.underlying t=aa (.struct d))(b:d.toList.map (·.type)=ts)(h:tO P (n+1) t xs):A3 (tO P n) ts xs:=by
 subst b;simpa only[tO,g]using h
def Dw(b:P.underlying t=aa (.array d e))(h:tO P (n+1) t xs):∃rows,xs=rows.flatten/\rows.length=d/\cZ (P.cellsOf e) rows/\∀r∈rows,tO P n e r:=by simpa only[tO,b]using h
def iY{S:TypeId->List FC->Prop}{ts:List TypeId}(h:A3 S (t::ts) xs):∃p q,xs=p++q/\S t p/\A3 S ts q:=h
theorem vf{b:Type}{enc:b->List FC}{p:b->Prop}:∀{rows:List (List FC)},(∀r∈rows,∃x,r=enc x/\p x)->∃l:List b,rows=l.map enc/\∀x∈l,p x
 |[],_=>⟨[],rfl,bv⟩
 |r::rows,h=>by
  obtain⟨x,rfl,j⟩:=h r agR;obtain⟨l,rfl,g⟩:=vf λr d=>h r (agU _ d);exact⟨x::l,rfl,λy m=>by
   grind⟩
end
end
section
open Go Go.ChangeShapes Go.WideShapes Go.ChangeAt Go.RowKit
def vD(P:Program)(t:TypeId)(a:V):Prop:=(∃xs,a=.a (xs.map .f)/\tO P 40 t xs/\(∃d,P.underlying t=aa d/\((∃b,d=.struct b)\/∃n e,d=.array n e)))\/
 (∃x,a=.c (.f x)/\tO P 40 t [x])
def xD(P:Program):List TypeId->List V->Prop
 |[],as=>as=[]| t::ts,as=>∃a bs,as=a::bs/\vD P t a/\xD P ts bs
section
variable{H:Type}{enc:TypeId × Value->H}{P:Program}{W W':World}
def Ar{f:Func}{s:ChangeSpec}{z l y:Bool}{args:Array Value}{v:Value}{ds I:List (DataW H)}{d pa pv:List MemPlace}
  (L:DataW.Whole enc P f.params.toList s.vars M W args.toList ds I d)
  (x:∀(b:Nat) (F:Nat->Bool) (Q:Bool),DataW.TrodAll enc P W' b F Q f.resultTypes.toList (v.resultList f.resultTypes.size) (s.fn H (ds++I)).results [])
  (m:∀F:Nat->Bool,(∀p∈d,F p.block=ae)->DataW.TrodAll enc P W' 0 F ae f.params.toList args.toList (s.fn H (ds++I)).args pa)
  (q:∀F:Nat->Bool,(∀p∈d,F p.block=ae)->DataW.TrodVars enc P W' F s.vars (s.fn H (ds++I)).vars pv)
  (N:d=pa++pv) (O:Below W.heap.size W W')
  (g:∀(j:Nat) (t:TypeId) (r:Value),f.resultTypes[j]?=aa t->(v.resultList f.resultTypes.size)[j]?=aa r->Value.okWide P W' .any 0 t r) :
  s.post enc P f M z l y W args v W':=by
 have J:∀p∈d,p.block<W.heap.size:=λp A=>L.lt p A;have u:∀p∈d,(λb=>decide (b<W.heap.size)) p.block=ae:=λp A=>by simpa using J p A
 refine⟨ds,I,d,[],pa,pv,L,x _ _ _,m _ u,q _ u,World.keptBut_mono (λp A=>⟨A,?_⟩) (O.frame (·∈d)),λ_=>?_⟩
 .simp_all
 .obtain⟨_,_,_,_,_,S,U⟩:=L;refine⟨g,_,_,([]++pa)++pv,⟨[]++pa,pv,trodAll_append (m _ (λ_ _=>rfl)) (x _ _ _),q _ (λ_ _=>rfl),rfl,?_,?_⟩,?_⟩
  .intro b B A;have K:MemPlace.cell b B∈d:=by rw[N];simpa using A
   rw[O.frozen (p:=⟨b,B,ab⟩) (J _ K)];exact S b B K
  .simp_all
  .simp_all
theorem sx(s:laidOutB P=ae){u:Nat->Bool}(m:Below W.heap.size W W'):∀{ts:List TypeId} {l:List Value} {ds:List (DataW H)} {ps:List MemPlace},
  (ts.all λt=>P.readableRec t&&decide (t<P.types.size))=ae->DataW.TrodAll enc P W 0 (λ_=>ae) ae ts l ds ps->(∀p∈ps,p.block<W.heap.size)->(∀p∈ps,u p.block=ae)->
  DataW.TrodAll enc P W' 0 u ae ts l ds ps
 |[],[],[],ps,_,h,_,_=>h
 |t::ts,v::l,d::ds,ps,j,⟨p,q,y,z,e⟩,g,hs=>by
  subst e;simp only[List.all_cons,IS,decide_eq_true_eq]at j;exact⟨p,q,WideElems.Trod_stays s j.1.1 j.1.2 y (λx b=>m.same (g x (ahu _ b))) (λx b=>hs x (ahu _ b)),
   sx s m j.2 z (λx b=>g x (ail _ b)) (λx b=>hs x (ail _ b)),rfl⟩
 |[],_::_,_,_,_,h,_,_=>by cases h
 |[],[],_::_,_,_,h,_,_=>by cases h
 |_::_,[],_,_,_,h,_,_=>by cases h
 |_::_,_::_,[],_,_,h,_,_=>by cases h
variable{σ:Nat->FuncId}
def X0(W:World):Wd:=⟨λ_=>ab,Ik W,[],W,W.heap.size⟩
def S0{cs:Array Value}(h:A2 (dJ σ (Ik W) W) N cs.toList):VR σ (X0 W) (.a (N.map .f)) (.agg cs):=
 ⟨cs.toList,bv,A2.map (g:=C.f) (h.oF λ_ _ h=>h)⟩
def Qt{t:TypeId}{v:Value}{d:DataW H}{ps:List MemPlace}{base:Nat}{spare:Nat->Bool}{b0:Nat}(hs:jg P 40 t=ae)(g:Value.okWide P W .any b0 t v)
  (y:DataW.Trod enc P W base spare M t v d ps):∃a,VR σ (X0 W) a v/\vD P t a:=by
 obtain⟨fuel,q⟩:=y;obtain⟨⟨xs,m,s⟩,I⟩:=afi (σ:=σ) hs q;have l:v.cells.toList=[v]->∃a,VR σ (X0 W) a v/\vD P t a:=by
  intro z;rw[z]at m
  match xs,m.len with
  |[x],_=>exact⟨.c (.f x),m.of_cons.1,.inr ⟨x,rfl,s⟩⟩
 unfold jg at hs;unfold Value.okWide at g;split at g
 .rename_i A j;obtain⟨cs,rfl,_,_⟩:=g;exact⟨_,S0 m,.inl ⟨xs,rfl,s,_,j,.inl ⟨_,rfl⟩⟩⟩
 .rename_i n e j;obtain⟨cs,rfl,_,_⟩:=g;exact⟨_,S0 m,.inl ⟨xs,rfl,s,_,j,.inr ⟨_,_,rfl⟩⟩⟩
 .rename_i B F;refine l ?_;split at hs
  .rename_i j;obtain⟨b,u,_⟩:=DataW.trod_bool j q;simp only[Cell.okWide,j,Cell.ok]at g;cases v<;>simp_all [Value.cells]
  .rename_i j;obtain⟨b,u,_⟩:=DataW.trod_int j q;simp only[Cell.okWide,j,Cell.ok]at g;cases v<;>simp_all [Value.cells]
  .rename_i j;obtain⟨b,u,_⟩:=DataW.trod_string j q;simp only[Cell.okWide,j,Cell.ok]at g;cases v<;>simp_all [Value.cells]
  .rename_i j;simp only[Cell.okWide,j,Cell.ok]at g;cases v<;>simp_all [Value.cells]
  .simp_all
  .simp_all
  .simp at hs
theorem A5{base:Nat}{spare:Nat->Bool}{held:Bool}{b0:Nat}:∀{ts:List TypeId} {g:List Value} {ds:List (DataW H)} {ps:List MemPlace},(ts.all λt=>jg P 40 t)=ae->
  (∀(j:Nat) t v,ts[j]?=aa t->g[j]?=aa v->Value.okWide P W .any b0 t v)->DataW.TrodAll enc P W base spare held ts g ds ps->
  ∃as,A2 (VR σ (X0 W)) as g/\xD P ts as
 |[],[],[],_,_,_,_=>⟨[],A2.nil,rfl⟩
 |t::ts,v::g,d::ds,ps,hs,b,⟨p,q,m,s,_⟩=>by
  simp only[List.all_cons,IS]at hs;obtain⟨a,u,y⟩:=Qt (σ:=σ) hs.1 (b 0 t v rfl rfl) m;obtain⟨bs,x,z⟩:=A5 hs.2 (λj t v h l=>b (j+1) t v (by simpa using h) (by simpa using l)) s;exact⟨a::bs,.cons u x,a,bs,rfl,y,z⟩
 |[],_::_,_,_,_,_,h=>by cases h
 |[],[],_::_,_,_,_,h=>by cases h
 |_::_,[],_,_,_,_,h=>by cases h
 |_::_,_::_,[],_,_,_,h=>by cases h
def Ue{n:Nat}(H:jd (n+1) h B=aa (.c (.f (.bool M)))):B=.c (.f (.bool M)):=by
 cases B with
 |top=>simp[jd,dq]at H| a xs=>simp[jd,dq]at H| t xs=>simp[jd]at H
 |c x=>
  simp only[jd,dq,OF]at H;obtain⟨y,d,H⟩:=H;cases H;cases x with
  |f x=>simpa[fv]using d| ptr M o e=>simp only[fv]at d;split at d<;>simp at d
  |sl M o l c e s=>
   simp only[fv]at d;split at d
   .simp_all
   .simp_all
   .simp_all
   .simp_all
   .simp_all
  |cl f g=>simp[fv]at d| _=>simp[fv]at d
variable{tab:TB}
def Io(x:Env P σ tab.get tab.Gh){args:List V}{us:List Value}(h:bf tab d args (vb ae))(W:World)(z:A2 (VR σ (X0 W)) args us) :
  Calls P (σ d) us.toArray W λe w'=>e=.returned (.bool ae)/\Below W.heap.size W w':=by
 obtain⟨r,H',⟨m,f,h⟩,j⟩:=h;have j:=Ue (n:=63) j;subst j;intro cs
 let X:=X0 W
 have y:SR P σ X:=⟨λb L h=>by simp[X,X0]at h,λb N L M h=>by simp[X,X0]at h,λc i h=>h⟩
 obtain⟨q,X',u,s,⟨F,H,I,l,fn,J,K⟩,O,Q,v,g,S⟩:=(Qx x m f).fn d args [] _ H' h X us .normal cs rfl y (agQ _) z (.inl rfl) (.inl rfl);have B:=VR.bool v;subst B;exact⟨.returned (.bool ae),X'.w,q,⟨rfl,⟨g.os,g.tape,g.output,g.size,λk A=>g.frame k A (λb L h=>by simp[X,X0]at h)⟩⟩,s,l,F,H,I,fn,by rw[l];exact J,K⟩
def Ru(hE:Env P σ tab.get tab.Gh){s:ChangeSpec}{f:Func}{fi:Nat}{tb:TypeId}(x:s.vars=[])(B:laidOutB P=ae){ts:List TypeId}(I:f.params.toList=ts)
  (Q:∀ds:List (DataW H),ds.length=ts.length->s.fn H ds=⟨[.lit (.bool ae)],ds,[]⟩)
  (y:f.resultTypes=#[tb]) (L:P.underlying tb=aa .bool) (F:(ts.all λt=>P.readableRec t&&decide (t<P.types.size))=ae) (u:(ts.all λt=>jg P 40 t)=ae)
  (S:∀as,xD P ts as->bf tab fi as (vb ae)) {A l z:Bool} {base:Nat} {args:Array Value} {ds gs:List (DataW H)} {d:List MemPlace}
  (g:∀(j:Nat) t v,f.params[j]?=aa t->args[j]?=aa v->Value.okWide P W .any base t v) (Y:DataW.Whole enc P f.params.toList s.vars M W args.toList ds gs d) :
  Calls P (σ fi) args W λe W'=>∃v,e=.returned v/\s.post enc P f M A l z W args v W':=by
 have J:=Y;obtain⟨p,q,O,X,hb,a_,b_⟩:=Y;rw[I]at O;rw[x]at X;obtain⟨rfl,rfl⟩:=trodVars_none X;simp only[ahe]at hb;subst hb;obtain⟨as,h1,h2⟩:=A5 (σ:=σ) (b0:=base) u (λj t v h h'=>g j t v (by rw[<-Array.getElem?_toList,I];exact h) (by rw[<-Array.getElem?_toList];exact h')) O;have K:ds.length=ts.length:=by
  have:∀{ts:List TypeId} {N:List Value} {ds:List (DataW H)} {ps:List MemPlace},DataW.TrodAll enc P W 0 (λ_=>ae) ae ts N ds ps->ds.length=ts.length:=by
   intro ts;induction ts with
   |nil=>intro N ds ps h;cases N<;>cases ds<;>first|rfl|cases h
   |cons t ts ih=>intro N ds ps h;cases N<;>cases ds<;>first|(obtain⟨_,_,_,h,_⟩:=h;simp[ih h])|cases h
  grind
 have m:=Q ds K;have hc:=Io hE (S as h2) W h1;rw[Array.toArray_toList]at hc;refine hc.mono λe W' h=>?_;obtain⟨he,hg⟩:=h;subst he;refine⟨_,rfl,Ar (pa:=d) (pv:=[]) J (λb sp hd=>?_) (λsp U=>?_) (λsp _=>?_) bv hg ?_⟩
 .rw[ahe,m,y];exact trodAll_mk1 (shut_bool L _)
 .rw[ahe,m,I];exact sx B hg F O (λp hp=>J.lt p hp) U
 .rw[ahe,m,x];rfl
 .exact ok_one y rfl (okWide_bool_mk L _)
end
end
section
open Go
section
variable{tab:TB}{f:Nat}{args:List V}{r:V}{fn:Nat}{k:List dS}{t:T}{ds:List gY}{H H':an}{Q:Option aD->St->Prop}
def dC{x:Arg}{ps:List P}{bd:aD}{g:Nat}{q:List V}(z:cr (x.ev t) [.c (.yl (H.length+1))]=aa (.fn g,q))
  (b:Ev tab (.fn g) q (H++[.dH ae,.lp fn t ps p bd .ready ab H.length]) r H')
  (h:WP tab fn ab (.mL (H.length+1)::k) ⟨t,.dR H.length::ds,H'⟩ Q):WP tab fn ab (.code (.nL x ps p bd)::k) ⟨t,ds,H⟩ Q:=by
 obtain⟨m,d,b⟩:=b;obtain⟨n,l,d',j,A,v,y⟩:=h;refine⟨n+1,max m l,max d d',j,A,?_,y⟩;have s:=ns (tab:=tab) (ahD m l) (ahD d d') _ _ _ _ b;have u:=zH (ahv m l) (ahv d d') (agQ n) v;simp only[run,z,s,u];simp
def dX{ro:Option Nat}{ps:List P}{bd:aD}{st:dB}(q:H[I]?=aa (.lp A J ps p bd st ab d))(g:st≠.busy)
  (h:WP tab fn ro k ⟨t,ds,H.set I (.lp A J ps p bd .exhausted ab d)⟩ Q):WP tab fn ro (.mL I::k) ⟨t,ds,H⟩ Q:=by
 refine jX h λm d n=>?_;simp only[run,q,cC g]
def jJ{ro:Option Nat}{ps:List P}{bd:aD}{st:dB}(q:H[I]?=aa (.lp A J ps p bd st (aa .ret) d))(g:st≠.busy)
  (h:WP tab fn ro (.code .ret::k) ⟨t,ds,H.set I (.lp A J ps p bd .exhausted (aa .ret) d)⟩ Q):WP tab fn ro (.mL I::k) ⟨t,ds,H⟩ Q:=by
 refine jX h λm d n=>?_;simp only[run,q,cC g]
def eM{ps:List P}{bd:aD}{j:Option aD}(q:H[I]?=aa (.lp A J ps p bd .ready j d))
  (h:WP tab fn (aa I) k ⟨t,ds,H.set I (.lp A J ps p bd .busy j d)⟩ Q):WP tab fn (aa I) (.rP::k) ⟨t,ds,H⟩ Q:=by
 refine jX h λm d n=>?_;simp only[run,q]
@[simp]theorem aan {as:List V}:cr (.c (.yl d)) as=aa (.yield d,as):=rfl
def acn(b:Nat)(r:V)(H':an)(j:Option aD)(s:St):Prop:=s.defs=[]/\∃g l ps as bd st m d,s.heap[b]?=aa (.lp g l ps as bd st m d)/\r=.c (.f (.bool j.isNone))/\
 H'=s.heap.set b (.lp g l ps as bd (if j.isNone then .ready else .done) j d)
def Ey{ps:List P}{bd:aD}{st:dB}{F:Option aD}(z:H[m]?=aa (.lp I J ps p bd st F d))(B:args.length=ps.length)
  (h:WP tab I (aa m) [.code p,.rP,.code bd] ⟨dw ps args J,[],H⟩ (acn m r H')):Ev tab (.yield m) args H r H':=by
 obtain⟨n,b,d',j,s,x,A,N,L,l,u,v,K,g,M,y,rfl,rfl⟩:=h;refine⟨max b n,d'+1,?_⟩;have q:run (CF tab (max b n) d') I (max b n) (aa m) [.code p,.rP,.code bd] ⟨dw ps args J,[],H⟩=aa (j,s):=zH (ahD b n) (agQ d') (ahv b n) x;simp only[CF]at q ⊢;simp only[iW,z,B,if_true,q,A,List.isEmpty_nil,y];rfl
def dm{C:V->an->Prop}{b:Nat}{ps:List P}{bd:aD}{st:dB}{N:Option aD}(L:H[b]?=aa (.lp I J ps p bd st N d))(M:args.length=ps.length)
  (h:∀Q:Option aD->St->Prop,(∀j s z u q g l x v y,s.defs=[]->s.heap[b]?=aa (.lp z u q g l x v y)->
   C (.c (.f (.bool j.isNone))) (s.heap.set b (.lp z u q g l (if j.isNone then .ready else .done) j y))->Q j s)->WP tab I (aa b) [.code p,.rP,.code bd] ⟨dw ps args J,[],H⟩ Q):∃r H',Ev tab (.yield b) args H r H'/\C r H':=by
 have K:=h (λj s=>∃r H',C r H'/\acn b r H' j s) λj s z u q g l x v y A B F=>⟨_,_,F,A,z,u,q,g,l,x,v,y,B,rfl,rfl⟩
 obtain⟨n,m,d',j,s,A,r,H',B,F⟩:=K;exact⟨r,H',Ey L M ⟨n,m,d',j,s,A,F⟩,B⟩
def acm(d:List jZ)(r:V)(s:St):Prop:=∃b,s.defs=[.dR b]/\s.heap[b]?=aa (.dH ae)/\∃g,results s.aT (s.heap.set b (.dH ag)) d=aa g/\jd deep (s.heap.set b (.dH ag)) g=aa r
def iX{S:V->Prop}{ps:List P}{g:List jZ}(A:tab f=aa ⟨ps,g,p⟩)(y:args.length=ps.length)
  (h:∀Q:Option aD->St->Prop,(∀j s r,S r->pY g r s\/acm g r s->Q j s)->WP tab f ab [.code p] ⟨dw ps args .e,[],[]⟩ Q):∃r,S r/\bf tab f args r:=by
 have B:=h (λ_ s=>∃r,S r/\(pY g r s\/acm g r s)) λ_ _ r q l=>⟨r,q,l⟩
 obtain⟨n,m,d,j,s,q,r,z,⟨v,x,l,u⟩|⟨b,v,F,x,l,u⟩⟩:=B
 .exact⟨r,z,x,s.heap,se A y ⟨n,m,d,j,s,q,0,0,s.heap,by rw[v];rfl,l,rfl⟩,u⟩
 .exact⟨r,z,x,s.heap.set b (.dH ag),se A y ⟨n,m,d,j,s,q,0,0,_,by rw[v];simp only[gd,F],l,rfl⟩,u⟩
def dc{C:V->an->Prop}{ps:List P}{b:List jZ}(y:tab f=aa ⟨ps,b,p⟩)(x:args.length=ps.length)
  (h:∀Q:Option aD->St->Prop,(∀j s r,s.defs=[]->results s.aT s.heap b=aa r->C r s.heap->Q j s)->WP tab f ab [.code p] ⟨dw ps args .e,[],H⟩ Q):∃r H',Ev tab (.fn f) args H r H'/\C r H':=by
 have u:=h (λ_ s=>s.defs=[]/\∃r,results s.aT s.heap b=aa r/\C r s.heap) λ_ _ r g l q=>⟨g,r,l,q⟩
 obtain⟨n,m,d,j,s,g,v,r,l,q⟩:=u;exact⟨r,s.heap,se y x ⟨n,m,d,j,s,g,0,0,s.heap,by rw[v];rfl,l,rfl⟩,q⟩
end
end
section
open Go
theorem xu{c:eC}:∀(a b:List bh) (s:St),ja c (a++b) s=(ja c a s).bind (ja c b)
 |[],b,s=>rfl
 |o::a,b,s=>by
  simp only[ahO,ja];cases jQ c s o with
  |none=>rfl| some d=>exact xu a b d
theorem zZ{c:eC}:∀(os:List bh) (s:St) {b:St},ja c os s=aa b->∃ss,gi c os s=aa ss/\ss.getLast?=aa b/\∀i,i<=os.length->ja c (os.take i) s=ss[i]?
 |[],s,b,h=>by
  simp only[ja,AT]at h;subst h;refine⟨[s],rfl,rfl,λi hi=>?_⟩;have:i=0:=by simpa using hi
  subst this;rfl
 |o::os,s,b,h=>by
  simp only[ja]at h;cases hs:jQ c s o with
  |none=>simp[hs]at h
  |some j=>
   simp only[hs]at h;obtain⟨ss,d,g,l⟩:=zZ os j h;refine⟨s::ss,by simp only[gi,hs,d],by rw[List.getLast?_cons,g];rfl,λi hi=>?_⟩;cases i with
   |zero=>rfl
   |succ i=>
    simp only[ai6,ja,hs,List.getElem?_cons_succ];simp_all
def gE(o:bh)(b l:St):Prop:=wanted b.aT o.g=aa ag\/∃v g d j,cA b.aT b.heap o.op=aa (v,g)/\cA b.aT l.heap o.op=aa (d,j)/\v.beq d=ae
section
variable{tab:TB}{fn:Nat}{ro:Option Nat}{k:List dS}{s:St}{Q:Option aD->St->Prop}
def Vz(tab:TB)(ops:List bh)(s:St)(c:Nat × Nat):Prop:=c.2<=ops.length/\∃o,ops[c.1]?=aa o/\
 ((c.1<=c.2/\Ab tab (ops.take c.1) s λb=>Ab tab ((ops.drop c.1).take (c.2-c.1)) b λd=>gE o b d)\/
 (c.2<=c.1/\Ab tab (ops.take c.2) s λd=>Ab tab ((ops.drop c.2).take (c.1-c.2)) d λb=>gE o b d))
def Sw{ops:List bh}{c:Nat × Nat}(h:Vz tab ops s c):∃m d o l q,c.2<=ops.length/\ops[c.1]?=aa o/\ja (CF tab m d) (ops.take c.1) s=aa l/\ja (CF tab m d) (ops.take c.2) s=aa q/\gE o l q:=by
 have x:∀(a b:Nat) (K:St->St->Prop),a<=b->Ab tab (ops.take a) s (λg=>Ab tab ((ops.drop a).take (b-a)) g λj=>K g j)->
   ∃m d g j,ja (CF tab m d) (ops.take a) s=aa g/\ja (CF tab m d) (ops.take b) s=aa j/\K g j:=by
  intro a b K I h;obtain⟨m,d,g,z,A⟩:=mu _ _ h;obtain⟨v,d',j,B,H⟩:=mu _ _ A;have y:=fh (ns (tab:=tab) (ahD m v) (ahD d d')) _ _ z;have F:=fh (ns (tab:=tab) (ahv m v) (ahv d d')) _ _ B;refine⟨max m v,max d d',g,j,y,?_,H⟩;have:ops.take b=ops.take a++(ops.drop a).take (b-a):=by
   have J:b=a+(b-a):=ii
   conv=>lhs;rw[J,List.take_add]
  rw[this,xu,y];exact F
 obtain⟨M,o,N,⟨L,h⟩|⟨u,h⟩⟩:=h
 .simp_all
 .obtain⟨m,d,q,l,z,A,B⟩:=x _ _ (λq l=>gE o l q) u h
  grind
def eH{ops:List bh}{jU:List (Nat × Nat)}(hr:ro=ab\/ops.all (·.op.fN)=ae)(h:Ab tab ops s λN=>WP tab fn ro k N Q)(hk:∀c∈jU,Vz tab ops s c) :
  WP tab fn ro (.code (.region ops jU)::k) s Q:=by
 obtain⟨m,d,N,Y,n,m',d',j,s2,h2,h3⟩:=mu ops s h;have b:∃M D,∀c∈jU,∃o q u,c.2<=ops.length/\ops[c.1]?=aa o/\ja (CF tab M D) (ops.take c.1) s=aa q/\ja (CF tab M D) (ops.take c.2) s=aa u/\gE o q u:=by
  clear Y h2 h;induction jU with
  |nil=>exact⟨0,0,λc hc=>by cases hc⟩
  |cons c cs L=>
   obtain⟨M,D,L⟩:=L λc hc=>hk c (agU _ hc);obtain⟨m1,z,o,q,u,a1,y,a3,a4,a5⟩:=Sw (hk c agR);refine⟨max M m1,max D z,λc' g=>?_⟩;rcases List.mem_cons.1 g with rfl|g
   .have l:=ns (tab:=tab) (ahv M m1) (ahv D z);exact⟨o,q,u,a1,y,fh l _ _ a3,fh l _ _ a4,a5⟩
   .obtain⟨o,q,u,a1,y,a3,a4,a5⟩:=L c' g;have l:=ns (tab:=tab) (ahD M m1) (ahD D z);exact⟨o,q,u,a1,y,fh l _ _ a3,fh l _ _ a4,a5⟩
 obtain⟨M,D,b⟩:=b;obtain⟨MM,H,I,J⟩:∃x,m<=x/\m'<=x/\M<=x:=⟨max (max m m') M,ap,ap,ap⟩
 obtain⟨O,A,B,F⟩:∃x,d<=x/\d'<=x/\D<=x:=⟨max (max d d') D,ap,ap,ap⟩
 refine⟨n+1,MM,O,j,s2,?_,h3⟩;have W:=fh (ns (tab:=tab) H A) ops _ Y;have e2:=zH I B (agQ n) h2;have K:(ro.isSome&&!ops.all (·.op.fN))=ag:=by
  grind
 obtain⟨ss,f1,f2,X⟩:=zZ ops s W;have hx:lu (CF tab MM O) ops jU s=aa N:=by
  cases jU with
  |nil=>simpa only[lu]using W
  |cons x xs=>
   simp only[lu,f1];rw[ct,f2];rw[ag9];intro c hc;obtain⟨o,q,u,a1,y,a3,a4,a5⟩:=b c hc;have l:=ns (tab:=tab) J F;have hi:c.1<=ops.length:=by
    grind
   have S:=fh l _ _ a3;have U:=fh l _ _ a4;rw[X _ hi]at S;rw[X _ a1]at U;simp only[sameAt,y,S,U];rcases a5 with hw|⟨v,H1,v',H2,g1,g2,g3⟩
   .rw[hw]
   .grind
 simp only[run,K,hx,e2];simp
end
end
section
open Go
def LBi(z:Bool)(H:an)(c:C)(l:List Int):Prop:=LB z H 1 (.c c) .nil (ints l)
def Uc{m:Int}(H:gZ d h u=aa (fi m)):u=.f (fi m):=by
 cases u with
 |f y=>simpa using H
 |ptr b o e=>
  cases d with
  |zero=>simp[gZ]at H
  |succ d=>
   simp only[gZ]at H;split at H
   .simp_all
   .cases H
 |sl b o l c e sz=>
  cases d with
  |zero=>simp[gZ]at H
  |succ d=>
   simp only[gZ]at H;split at H
   .simp_all
   .cases H
 |_=>cases d<;>simp[gZ]at H
theorem EV{n:Nat}{H:an}:∀{cs:List C} {l:List Int},bC (gZ n H) cs=aa (l.map fi)->cs=l.map λm=>.f (fi m)
 |[],[],_=>rfl| [],m::l,h=>by simp[bC]at h
 |x::cs,l,h=>by
  simp only[bC]at h;cases d:gZ n H x with
  |none=>simp[d]at h
  |some y=>
   cases b:bC (gZ n H) cs with
   |none=>simp[d,b]at h
   |some zs=>
    simp only[d,b,AT]at h;cases l with
    |nil=>cases h
    |cons m l=>
     simp only[IT,List.cons.injEq]at h;obtain⟨rfl,rfl⟩:=h;rw[Uc d,EV b];rfl
def oh(l:List Int):(ints l).flatten=l.map fi:=by
 induction l with
 |nil=>rfl| cons m l b=>simp only[ints,IT,ag6]at b ⊢;rw[b];rfl
def CB(z:Bool)(H:an)(c:C)(l:List Int):Prop:=
 (l=[]/\c=.f .aN)\/∃b ep fl st,c=.sl b 0 l.length 0 ep 1/\H[b]?=aa (.dz 1 (l.map λm=>.f (fi m)) fl ep st)/\fl<=l.length/\(z=ae->fl=0)/\(l=[]->st=.nil)/\(l≠[]->st=.loc)
def qy{l:List Int}:ints l=[]↔l=[]:=by cases l<;>simp[ints]
def LBi.j{c:C}{l:List Int}(H:LBi M h c l):CB M h c l:=by
 rcases H with⟨h1,h2,_⟩|⟨b,ep,fl,st,cs,h1,h2,h3,h4,h5,h6,h7⟩
 .refine .inl ⟨qy.1 h1,?_⟩;cases h2;rfl
 .rw[oh]at h3;have d:=EV h3;subst d;simp only[V.c.injEq,yZ]at h1;refine .inr ⟨b,ep,fl,st,h1,h2,by simpa using h4,h5,λe=>(h6 (qy.2 e)).1,λe=>h7 (λH=>e (qy.1 H))⟩
def CB.i{H:an}{l:List Int}(h:CB M H u l):LBi M H u l:=by
 rcases h with⟨rfl,rfl⟩|⟨b,ep,fl,st,rfl,h2,h4,h5,h6,h7⟩
 .exact .inl ⟨rfl,rfl,ce⟩
 .refine .inr ⟨b,ep,fl,st,_,bv,h2,?_,by simpa using h4,h5,λe=>⟨h6 (qy.1 e),ce⟩,λe=>h7 λh=>e (qy.2 h)⟩;rw[oh];have:=ze (n:=60) (H:=H) (l.map fi);rw[air]at this;exact this
theorem CB.set{z:Bool}{H:an}{c:C}{l:List Int}(h:CB z H c l){b:Nat}{cs cs':List C}{fl fl':Nat}(hb:H[b]?=aa (.box cs fl)):CB z (H.set b (.box cs' fl')) c l:=by
 rcases h with h|⟨d,ep,fl,st,h1,h2,h3⟩
 .exact .inl h
 .have:b≠d:=by rintro rfl;rw[hb]at h2;cases h2
  exact .inr ⟨d,ep,fl,st,h1,by rw[sh this];exact h2,h3⟩
def CB.push{H:an}{l:List Int}(h:CB M H u l)(L:an):CB M (H++L) u l:=by
 rcases h with h|⟨b,ep,fl,st,h1,h2,h3⟩
 .exact .inl h
 .exact .inr ⟨b,ep,fl,st,h1,by rw[AI (aj h2)];exact h2,h3⟩
def CB.ex{H:an}{l:List Int}(h:CB M H u l)(n:Nat):fv (n+1) H u=aa (sl .nil (ints l)):=by
 rcases h with⟨rfl,rfl⟩|⟨b,ep,fl,st,rfl,h2,h4,h5,h6,h7⟩
 .rfl
 .cases l with
  |nil=>obtain rfl:=h6 rfl;simp[gR,h2,sl,ints,Tg.fc]
  |cons m l=>
   obtain rfl:=h7 bv;simp only[gR,h2];rw[ct ⟨trivial,trivial,bv⟩,ahR,agY bv];have:=kr (n:=n) (H:=H) ((m::l).map fi);simp only[air]at this;have e:(List.map (λm=>C.f (fi m)) (m::l))=List.map (C.f ∘ fi) (m::l):=rfl;rw[e,this];have hs:sl .nil (ints (m::l))=.fs (ints (m::l)).flatten (ints (m::l)).length:=rfl;rw[hs,oh,yZ];rfl
theorem jF{n:Nat}:∀(l:List C) (H:an),(∀x∈l,∃y,x=.f y)->l.foldl (λH x=>ez n x H) H=H
 |[],_,_=>rfl
 |x::l,H,h=>by
  obtain⟨y,rfl⟩:=h x agR;simp only[aiI,VU];exact jF l H λx b=>h x (agU _ b)
def CB.mk{l:List Int}(H:CB M h u l)(n:Nat):CB ag (ez (n+1) u h) u l/\∀(b:Nat) cs fl,h[b]?=aa (.box cs fl)->(ez (n+1) u h)[b]?=aa (.box cs fl):=by
 rcases H with⟨rfl,rfl⟩|⟨b,ep,fl,st,rfl,h2,h4,h5,h6,h7⟩
 .exact⟨.inl ⟨rfl,rfl⟩,λb cs fl H=>H⟩
 .have e:ez (n+1) (.sl b 0 l.length 0 ep 1) h=h.set b (.dz 1 (l.map λm=>.f (fi m)) (Nat.max fl l.length) ep st):=by
   simp only[jY,h2];rw[jF]
   .simp
   .grind
  rw[e];refine⟨.inr ⟨b,ep,_,st,rfl,By (aj h2),Nat.max_le.2 ⟨h4,agQ _⟩,bv,h6,h7⟩,λg cs fl' d=>?_⟩
  grind
end
section
open Go
def RB(H:an)(b sz ep:Nat)(rows:List (List FC)):Prop:=H[b]?=aa (.dz sz (rows.flatten.map .f) 0 ep .loc)
def Fm(b:Nat)(H H':an):Prop:=H.length<=H'.length/\∀d:Nat,d≠b->d<H.length->H'[d]?=H[d]?
def Fm.refl(H:an):Fm d H H:=⟨agQ _,λ_ _ _=>rfl⟩
theorem Fm.trans{b:Nat}{H H' d:an}(h:Fm b H H')(j:Fm b H' d):Fm b H d:=
 ⟨Nat.le_trans h.1 j.1,λg e l=>(j.2 g e (Nat.lt_of_lt_of_le l h.1)).trans (h.2 g e l)⟩
def Fm.push(H J:an):Fm m H (H++J):=⟨bv,λd _ l=>AI l⟩
theorem Fm.set{b:Nat}(H:an)(x:bV):Fm b H (H.set b x):=⟨bv,λd e _=>sh (Ne.symm e)⟩
def Fm.get{b:Nat}{H':an}(H:Fm b h H'){x:bV}(hb:h[d]?=aa x)(e:d≠b):H'[d]?=aa x:=by rw[H.2 d e (aj hb)];exact hb
theorem FJ{sz:Nat}{row:List FC}(q:row.length=sz):∀{rows:List (List FC)} {j:Nat},cZ sz rows->j<rows.length->
  rows.flatten.take (j*sz)++row++rows.flatten.drop (j*sz+sz)=(rows.set j row).flatten
 |[],_,_,d=>by simp at d
 |r::rows,0,b,_=>by
  have:=b r agR;simp_all
 |r::rows,j+1,b,d=>by
  have g:=b r agR;have u:=FJ q (rows:=rows) (j:=j) (λx s=>b x (agU _ s)) (by simpa using d);simp only[ag6,aiS];rw[<-u];have l:(j+1)*sz=r.length+j*sz:=by rw[g,ahi];omega
  have m:(j+1)*sz+sz=r.length+(j*sz+sz):=ii
  rw[m,l,ajx,ajm];simp[agY,ahm]
section
variable{H:an}{b sz ep j:Nat}{rows:List (List FC)}{row:List FC}
def RB.lt(h:RB H b sz ep rows):b<H.length:=aj h
def RB.push(h:RB H b sz ep rows)(J:an):RB (H++J) b sz ep rows:=by
 unfold RB at *;rw[AI (aj h)];exact h
def RB.len(h:RB H b sz ep rows){o l c:Nat}:bA H (.sl b o l c ep sz)=aa l:=by
 unfold RB at h;simp[bA,h]
def RB.idx(h:RB H b sz ep rows){n c:Nat}{k:IntKind}{i:Int}(h0:0<=i)(hi:i<n){o:Nat}:bO H sz ab (.c (.sl b o n c ep sz)) (.c (.f (.int k i)))=aa (.c (.ptr b (o+i.toNat*sz) ep)):=by
 unfold RB at h;simp only[bO,fE,h0,hi,if_true,h,and_self]
def RB.ldr(h:RB H b sz ep rows)(hg:cZ sz rows)(d:rows[j]?=aa row):aV H (aa sz) (.c (.ptr b (j*sz) ep))=aa (.a (row.map .f)):=by
 unfold RB at h;have g:row.length=sz:=hg row (ahg d);have:=ob (k:=0) hg d ap;simp only[aw,h,if_true];rw[<-ait];simp_all
def RB.str(h:RB H b sz ep rows)(hg:cZ sz rows)(l:j<rows.length)(m:row.length=sz) :
  ∃H',dj H (.ptr b (j*sz) ep) (row.map .f)=aa H'/\RB H' b sz ep (rows.set j row)/\Fm b H H'/\H'.length=H.length:=by
 have hl:=cz hg;have g:(j+1)*sz<=rows.length*sz:=ahA _ l;have d:j*sz+sz<=rows.flatten.length:=by rw[hl];rw[ahi]at g;omega
 unfold RB at h ⊢;refine⟨H.set b (.dz sz ((rows.set j row).flatten.map .f) 0 ep .loc),?_,?_,Fm.set _ _,bv⟩
 .simp only[bF,h,aih,true_and,agS,m,d,if_true];rw[<-FJ m hg l];simp_all
 .grind
end
def ie(h:d<=m):Gd (vi d) m=aa d:=by
 have:(0:Int)<=d/\(d:Int)<=m:=ii
 simp[Gd,fE,this]
def RB.px{k:Nat}(H:RB h m I A q)(n:k<d) :
  cJ h I (.c (.sl m 0 d 0 A I)) (aa (vi k)) ab ab=aa (.c (.sl m (k*I) (d-k) 0 A I)):=by
 unfold RB at H;have hb:cG d d (aa (vi k)) ab ab=aa (k,d,d):=by simp[cG,ie (Nat.le_of_lt n)]
 simp[cJ,H,hb];omega
def RB.FP{n k:Nat}(H:RB h m I A q)(d:k<=n)(h0:0<k) :
  cJ h I (.c (.sl m 0 n 0 A I)) ab (aa (vi k)) ab=aa (.c (.sl m 0 k 0 A I)):=by
 unfold RB at H;have hb:cG n n ab (aa (vi k)) ab=aa (0,k,n):=by simp[cG,ie d]
 simp[cJ,H,hb]
 try omega
def RB.clr{ep:Nat}{rows:List (List FC)}{zs:List FC}(H:RB h I A ep rows)(hg:cZ A rows)(s:rows.length=d)(y:m<d)(x:zs.length=A) :
  ∃H',nE h A zs (.c (.sl I (m*A) (d-m) 0 ep A))=aa H'/\RB H' I A ep (rows.take m++List.replicate (d-m) zs)/\Fm I h H':=by
 have hl:=cz hg;have n:=H.len (o:=m*A) (l:=d-m) (c:=0);have g:(dQ (d-m) zs).length=(d-m)*A:=by
  simp_all
 have j:m*A+(d-m)*A=rows.flatten.length:=by rw[hl,s,<-ahi];congr 1;omega
 unfold RB at H ⊢;refine⟨h.set I (.dz A ((rows.take m++List.replicate (d-m) zs).flatten.map .f) 0 ep .loc),?_,By (aj H),Fm.set _ _⟩;have u:d-m≠0:=ii
 have k:(rows.take m++List.replicate (d-m) zs).flatten.map C.f=over (rows.flatten.map .f) (m*A) ((dQ (d-m) zs).map .f):=by
  rw[aif,<-rK m hg];simp only[over,agS,g,ahQ,aiV];rw[List.drop_eq_nil_of_le (by simp only[agS];omega)];simp
 simp only[nE,n];rw[k];obtain⟨q,v⟩:∃q,d-m=q+1:=⟨d-m-1,ap⟩
 rw[v];simp only[x,if_true,H,and_self,bF,aih,true_and,agS];simp_all
def dx{x:jZ}(H:cB J h x=aa B):Km.results J h [x]=aa B:=by
 simp[Km.results,bC,H]
@[simp]theorem aem (sz:Nat) (zs:List FC) (x:Arg):cA J h (.clear sz zs x)=(nE h sz zs (x.ev J)).map (.t [],·):=rfl
@[simp]theorem ad8 {a b:Int}:C' ag [vi a,vi b]=aa (vi (max a b)):=by
 have:(if a<b then b else a)=max a b:=by split<;>omega
 simp only[C',wY,BE];simp[this,V.int]
@[simp]theorem ad9 {a b:Int}:C' ae [vi a,vi b]=aa (vi (min a b)):=by
 have:(if b<a then b else a)=min a b:=by split<;>omega
 simp only[C',wY,BE];simp[this,V.int]
end
section
open Go
def swp(l:List (List FC))(i j:Nat):List (List FC):=(l.set i (l.getD j [])).set j (l.getD i [])
def G1(a b:Nat)(l d:List (List FC)):Prop:=d.Perm l/\d.take a=l.take a/\d.drop b=l.drop b
theorem G1.refl(a b:Nat)(l:List (List FC)):G1 a b l l:=⟨.refl _,rfl,rfl⟩
theorem G1.trans{a b:Nat}{l j d:List (List FC)}(h:G1 a b l j)(g:G1 a b j d):G1 a b l d:=⟨g.1.trans h.1,g.2.1.trans h.2.1,g.2.2.trans h.2.2⟩
def G1.len{b:Nat}{l:List (List FC)}(h:G1 m b l q):q.length=l.length:=h.1.length_eq
def swp_get(hi:m<q.length)(g:I<q.length)(k:Nat):(swp q m I)[k]?=if k=I then q[m]? else if k=m then q[I]? else q[k]?:=by
 have b:q.getD m []=q[m]:=by simp[List.getD,BY hi]
 have d:q.getD I []=q[I]:=by simp[List.getD,BY g]
 simp only[swp,b,d,List.getElem?_set]
 grind
def U7(hi:I<=d)(s:d<A)(x:I<=m)(u:m<A)(v:A<=q.length):G1 I A q (swp q d m):=by
 have i:d<q.length:=ii
 have g:m<q.length:=ii
 refine⟨?_,?_,?_⟩
 .have j:q.getD d []=q[d]:=by simp[List.getD,BY i]
  have l:q.getD m []=q[m]:=by simp[List.getD,BY g]
  simp only[swp,j,l];exact List.set_set_perm i g
 .apply List.ext_getElem?;intro k;simp only[List.getElem?_take];split
  .rw[swp_get i g,cC ap,cC ap]
  .rfl
 .apply List.ext_getElem?;intro k;simp only[ahP];rw[swp_get i g,cC ap,cC ap]
section
variable{H:an}{b sz ep:Nat}{rows:List (List FC)}
def RB.swap(h:RB H b sz ep rows)(hg:cZ sz rows){j:Nat}(hi:d<rows.length)(m:j<rows.length) :
  ∃i g,dj H (.ptr b (d*sz) ep) (rows[j].map .f)=aa i/\RB i b sz ep (rows.set d rows[j])/\dj i (.ptr b (j*sz) ep) (rows[d].map .f)=aa g/\RB g b sz ep (swp rows d j)/\Fm b H g:=by
 have z:rows[d].length=sz:=hg _ (IN hi);have q:rows[j].length=sz:=hg _ (IN m);obtain⟨i,F,s,x,-⟩:=h.str hg hi q;have l:cZ sz (rows.set d rows[j]):=λr A=>by
  rcases List.mem_or_eq_of_mem_set A with h|rfl
  .exact hg r h
  .exact q
 obtain⟨g,I,B,y,-⟩:=s.str l (j:=j) (by simpa using m) z;refine⟨i,g,F,s,I,?_,x.trans y⟩;have u:rows.getD d []=rows[d]:=by simp[List.getD,BY hi]
 have v:rows.getD j []=rows[j]:=by simp[List.getD,BY m]
 simp only[swp,u,v];exact B
def G1.afj{d:List (List FC)}(h:G1 m I q d)(hg:cZ sz q):cZ sz d:=λr g=>hg r (h.1.mem_iff.1 g)
end
structure Cmp(W:List FC->Prop)(c:List FC->List FC->Int):Prop where
 asym:∀{x y},W x->W y->c x y<0->¬ c y x<0
 trans:∀{x y z},W x->W y->W z->¬ c y x<0->¬ c z y<0->¬ c z x<0
def Up(c:List FC->List FC->Int)(a b:Nat)(l:List (List FC)):Prop:=∀i j x y,a<=i->i<j->j<b->l[i]?=aa x->l[j]?=aa y->¬ c y x<0
end
section
open Go
section
variable{W:List FC->Prop}{c:List FC->List FC->Int}
def Up.mono{a':Nat}(h:Up c I A q)(m:I<=a')(hb:d<=A):Up c a' d q:=
 λi j x y h1 h2 h3 g hy=>h i j x y ap h2 ap g hy
def Up.one(h:m<=d+1):Up c d m q:=λi j x y h1 h2 h3=>by omega
def GY(c:List FC->List FC->Int)(l:List (List FC))(i j:Nat):Prop:=∀x y,l[i]?=aa x->l[j]?=aa y->¬ c y x<0
theorem GY.trans{l:List (List FC)}{i j k:Nat}(hc:Cmp W c)(b:∀r∈l,W r)(h:GY c l i j)(q:GY c l j k)(d:j<l.length):GY c l i k:=λx y g hy=>by
 have m:=BY d;exact hc.trans (b _ (ahg g)) (b _ (IN d)) (b _ (ahg hy)) (h _ _ g m) (q _ _ m hy)
end
end
section
open Go
def bz:C->Option Nat
 | .sl b _ _ _ _ _=>aa b| _=>ab
def LR(H:an)(c:C)(sz:Nat)(rows:List (List FC)):Prop:=(rows=[]/\(c=.f .aN\/c=.f .es))\/(rows≠[]/\∃b ep,c=.sl b 0 rows.length 0 ep sz/\RB H b sz ep rows)
def Kb(H H':an)(c:C):Prop:=H.length<=H'.length/\∀(i:Nat) y,H[i]?=aa y->bz c≠aa i->H'[i]?=aa y
section
variable{H H':an}{c:C}{sz:Nat}{rows:List (List FC)}
def LR.nil(H:an)(sz:Nat):LR H (.f .aN) sz []:=.inl ⟨rfl,.inl rfl⟩
def LR.bS(h:LR H c sz rows)(d:∀i y,H[i]?=aa y->bz c=aa i->H'[i]?=aa y):LR H' c sz rows:=by
 rcases h with h|⟨h,b,ep,rfl,h2⟩
 .exact .inl h
 .exact .inr ⟨h,b,ep,rfl,d b _ h2 rfl⟩
def LR.push(h:LR H c sz rows)(J:an):LR (H++J) c sz rows:=h.bS λi y hy _=>by rw[AI (aj hy)];exact hy
theorem LR.lt(h:LR H c sz rows){i:Nat}(hi:bz c=aa i):i<H.length:=by
 rcases h with⟨_,rfl|rfl⟩|⟨h,b,ep,rfl,h2⟩
 .cases hi
 .cases hi
 .cases hi;exact h2.lt
def LR.cm(h:LR H c sz rows)(d:H[m]?=aa (.box S I)):bz c≠aa m:=by
 rcases h with⟨_,rfl|rfl⟩|⟨h,b,ep,rfl,h2⟩
 .simp[bz]
 .simp[bz]
 .intro e;cases e;unfold RB at h2;simp_all
theorem LR.set(h:LR H c sz rows){i:Nat}(hi:bz c≠aa i)(x:bV):LR (H.set i x) c sz rows:=h.bS λj y hy b=>by
 grind
theorem LR.len(h:LR H c sz rows):bA H c=aa rows.length:=by
 rcases h with⟨rfl,rfl|rfl⟩|⟨h,b,ep,rfl,h2⟩
 .rfl
 .rfl
 .exact h2.len
theorem LR.at(h:LR H c sz rows)(hg:cZ sz rows){j:Nat}(d:j<rows.length):∃b ep,bO H sz ab (.c c) (vi j)=aa (.c (.ptr b (j*sz) ep))/\aV H (aa sz) (.c (.ptr b (j*sz) ep))=aa (.a (rows[j].map .f)):=by
 rcases h with⟨rfl,_⟩|⟨h,b,ep,rfl,h2⟩
 .simp at d
 .have:=h2.idx (n:=rows.length) (c:=0) (k:=.i64) (o:=0) (i:=(j:Int)) ap ap;rw[ag7,ahI]at this;exact⟨b,ep,this,h2.ldr hg (BY d)⟩
def LR.ex(h:LR H c sz rows)(hg:cZ sz rows)(n:Nat):∃g,fv (n+1) H c=aa (sl g rows):=by
 rcases h with⟨rfl,rfl|rfl⟩|⟨h,b,ep,rfl,h2⟩
 .exact⟨.nil,rfl⟩
 .exact⟨.es,rfl⟩
 .refine⟨.fs,?_⟩;have hl:rows.length*sz=rows.flatten.length:=(cz hg).symm;unfold RB at h2;simp only[gR,h2];rw[ct ⟨trivial,trivial,by rw[agS,ahI,hl];exact agQ _⟩,ahR,agY (by rw[agS];omega),kr];cases rows with
  |nil=>exact absurd rfl h| cons x l=>simp[sl]
def SD{g g':Tg}(h:q≠[]):sl g q=sl g' q:=by
 cases q with
 |nil=>exact absurd rfl h| cons x l=>rfl
def LR.exU(h:LR H c sz rows)(hg:cZ sz rows):∃g,∀(H':an) (n:Nat),(∀i y,H[i]?=aa y->bz c=aa i->H'[i]?=aa y)->fv (n+1) H' c=aa (sl g rows):=by
 by_cases d:rows=[]
 .rcases h with⟨rfl,rfl|rfl⟩|⟨h,_⟩
  .exact⟨.nil,λ_ _ _=>rfl⟩
  .exact⟨.es,λ_ _ _=>rfl⟩
  .simp_all
 .refine⟨.fs,λH' n b=>?_⟩;obtain⟨g,e⟩:=(h.bS b).ex hg n;rw[e,SD d]
def LR.app(h:LR H c sz rows)(hg:cZ sz rows)(xB:sz≠0){row:List FC}(u:row.length=sz){bytes:Nat}(d:cF (rows.length+1) bytes=ae){b1 fl1:Nat}(j:H[b1]?=aa (.box (row.map .f) fl1)) :
  ∃c' H',bZ H sz bytes (.c c) (.c (.sl b1 0 1 1 0 sz))=aa (.c c',H')/\LR H' c' sz (rows++[row])/\Kb H H' c/\(bz c'=bz c\/bz c'=aa H.length):=by
 have g:dI H sz (.c (.sl b1 0 1 1 0 sz))=aa (1,row.map .f):=kh j (by simp[u]);rcases h with⟨rfl,m⟩|⟨s,b,ep,rfl,h2⟩
 .have d:cF 1 bytes=ae:=by simpa using d
  refine⟨.sl H.length 0 1 0 0 sz,H++[.dz sz (row.map .f) 0 0 .loc],?_,.inr ⟨bv,H.length,0,rfl,?_⟩,⟨bv,λi y hy _=>by rw[AI (aj hy)];exact hy⟩,.inr rfl⟩
  .rcases m with rfl|rfl<;>simp[bZ,g,d,xB]
  .simp[RB]
 .have l:rows.length*sz=rows.flatten.length:=(cz hg).symm;unfold RB at h2;refine⟨.sl b 0 (rows.length+1) 0 (ep+1) sz,H.set b (.dz sz (rows.flatten.map .f++row.map .f) 0 (ep+1) .loc),?_,.inr ⟨bv,b,ep+1,bv,?_⟩,⟨bv,λi y hy q=>?_⟩,.inl rfl⟩
  .simp only[bZ,g,xB,if_false,h2,and_self,if_true]
   grind
  .unfold RB
   grind
  .have:b≠i:=by rintro rfl;exact q rfl
   simp_all
def Kb.refl(H:an)(c:C):Kb H H c:=⟨agQ _,λ_ _ h _=>h⟩
def Kb.push(H J:an)(c:C):Kb H (H++J) c:=⟨bv,λi y hy _=>by rw[AI (aj hy)];exact hy⟩
def Kb.adg{ep s:Nat}(h:Fm m H H'):Kb H H' (.sl m I A d ep s):=⟨h.1,λi y hy g=>by
 have:i≠m:=by rintro rfl;exact g rfl
 exact h.get hy this⟩
end
end
section
open Go
theorem sQ{g:Type}{sz:Nat}:∀{rows:List (List g)} {j:Nat} {row:List g},(∀r∈rows,r.length=sz)->rows[j]?=aa row->(rows.flatten.drop (j*sz)).take sz=row
 |[],j,row,_,b=>by simp at b
 |r::rows,0,row,d,b=>by
  simp_all
 |r::rows,j+1,row,d,b=>by
  have l:=d r agR;have q:=sQ (rows:=rows) (j:=j) (row:=row) (λx m=>d x (agU _ m)) (by simpa using b);rw[ag6,show(j+1)*sz=r.length+j*sz by rw[l,ahi];omega,<-aiG,List.drop_left];exact q
theorem zv{b:Type}:∀{cs:List b} {k:Nat} {x:b},k<cs.length->over cs k [x]=cs.set k x
 |[],k,x,h=>by simp at h
 |c::cs,0,x,_=>by simp[over]
 |c::cs,k+1,x,h=>by
  have:=zv (cs:=cs) (k:=k) (x:=x) (by simpa using h);simp_all
def MR{g:Type}:∀{rows:List (List g)} {j k n:Nat} {row:List g},(∀r∈rows,r.length=I)->rows[j]?=aa row->k+n<=I->(rows.flatten.drop (j*I+k)).take n=(row.drop k).take n:=by
 intro rows j k n row b d m;have q:row.length=I:=b row (ahg d);have l:=sQ b d;rw[<-aiG,<-l,List.drop_take,aiN,aik ap]
theorem Bj{m:Type}{sz:Nat}:∀{rows:List (List m)} {j k:Nat} {row xs:List m},(∀r∈rows,r.length=sz)->rows[j]?=aa row->k+xs.length<=sz->over rows.flatten (j*sz+k) xs=(rows.set j (over row k xs)).flatten
 |[],j,k,row,xs,_,b,_=>by simp at b
 |r::rows,0,k,row,xs,d,b,g=>by
  simp at b;subst b;have:=d r agR;simp only[over,ag6,List.set_cons_zero,Nat.zero_mul,ahI]
  grind
 |r::rows,j+1,k,row,xs,d,b,g=>by
  have q:=d r agR;have l:=Bj (rows:=rows) (j:=j) (k:=k) (row:=row) (xs:=xs) (λy s=>d y (agU _ s)) (by simpa using b) g;have e:(j+1)*sz+k=r.length+(j*sz+k):=by rw[q,ahi];omega
  simp only[over,ag6,aiS]at l ⊢;rw[<-l,e,List.take_length_add_append,Nat.add_assoc,List.drop_length_add_append];simp
def JA{g:Type}{rows:List (List g)}(b:∀r∈rows,r.length=m)(d:I<rows.length):I*m+m<=rows.flatten.length:=by
 rw[yQ b];have:(I+1)*m<=rows.length*m:=ahA _ d
 grind
section
variable{H:an}{b sz ep j k n:Nat}{rows:List (List FC)}{row:List FC}
def RB.ldp(h:RB H b sz ep rows)(hg:cZ sz rows)(g:rows[j]?=aa row)(l:k+n<=sz):aV H (aa n) (.c (.ptr b (j*sz+k) ep))=aa (.a (((row.drop k).take n).map .f)):=by
 unfold RB at h;have d:row.length=sz:=hg row (ahg g);have:=MR (n:=n) hg g l;simp only[aw,h,if_true];have e:((row.drop k).take n).length=n:=by simp[d];omega
 have m:=JA hg (aft.1 g).1;rw[<-ait];simp only[aX,agS];rw[ct (by rw[ag5];omega),<-aiV,this]
def RB.ldc{x:FC}(h:RB H b sz ep rows)(hg:cZ sz rows)(d:rows[j]?=aa row)(g:row[k]?=aa x):aV H ab (.c (.ptr b (j*sz+k) ep))=aa (.c (.f x)):=by
 unfold RB at h;have l:row.length=sz:=hg row (ahg d);have m:=(aft.1 g).1;have:=yP hg d (by omega:k<sz);simp only[aw,h,if_true];rw[ait.symm];have e:(rows.flatten.drop (j*sz+k))[0]?=aa x:=by rw[ahP,Nat.add_zero,this,g]
 cases hd:rows.flatten.drop (j*sz+k)with
 |nil=>rw[hd]at e;simp at e| cons y ys=>rw[hd]at e;simp at e;simp[aX,e]
def RB.stp{xs:List FC}(h:RB H b sz ep rows)(hg:cZ sz rows)(g:rows[j]?=aa row)(m:k+xs.length<=sz):∃H',dj H (.ptr b (j*sz+k) ep) (xs.map .f)=aa H'/\RB H' b sz ep (rows.set j (over row k xs))/\Fm b H H'/\H'.length=H.length:=by
 have d:=(aft.1 g).1;have l:=JA hg d;unfold RB at h ⊢;refine⟨H.set b (.dz sz ((rows.set j (over row k xs)).flatten.map .f) 0 ep .loc),?_,By (aj h),Fm.set _ _,bv⟩;have e:over (rows.flatten.map C.f) (j*sz+k) (xs.map .f)=((rows.set j (over row k xs)).flatten).map .f:=by
  rw[<-Bj hg g m];simp
 simp only[bF,h,aih,true_and,agS]
 grind
end
def Y8(sz:Nat)(zs:List FC)(bytes:Nat):aS:=⟨[P.nat 0],[.tmp (P.nat 2)],.seq (.region [⟨D 2,.ju (.k (.c (.f (.aN)))),ab⟩] []) (.seq (.seq (.region [⟨D 3,.ju (R 0),ab⟩,⟨D 4,.eq ag .sl (R 3) (.k (.c (.f (.aN)))),ab⟩] [])
 (.cond (R 4) (.seq (.region [⟨D 2,.ju (.k (.c (.f (.aN)))),ab⟩] []) .ret) .skip)) (.seq (.region [⟨D 5,.iR sz zs 0 [],ab⟩,⟨D 6,.ju (R 0),ab⟩,⟨D 7,.append sz bytes (R 5) (R 6),ab⟩,⟨D 2,.ju (R 7),ab⟩] []) .ret))⟩
section
variable{tab:TB}{F sz bytes:Nat}{zs:List FC}{H:an}{g:Tg}{rows:List (List FC)}
def Bd:NX H .sl (.c (.f (.fs N d))) (.c (.f .aN))=aa ag:=rfl
def Ub:NX H .sl (.c (.f .aN)) (.c (.f .aN))=aa ae:=rfl
def acR:NX H .sl (.c (.f .es)) (.c (.f .aN))=aa ag:=rfl
def ua(u:tab F=aa (Y8 sz zs bytes))(l:sz≠0)(v:cZ sz rows)(j:cF rows.length bytes=ae) :
  ∃r H',Ev tab (.fn F) [.c (.f (sl g rows))] H r H'/\∃c J,r=.c c/\H'=H++J/\LR (H++J) c sz rows/\∀i,bz c=aa i->H.length<=i:=by
 refine dc (C:=λr H'=>∃c J,r=.c c/\H'=H++J/\LR (H++J) c sz rows/\∀i,bz c=aa i->H.length<=i) u rfl λQ m=>?_;apply ai;simp;apply aE;apply ai;cases rows with
 |nil=>
  cases g with
  |nil=>
   simp[sl,Tg.fc,Ub];refine aq bv ?_;apply ai;simp;exact av (m _ _ (.c (.f .aN)) rfl ms ⟨_,[],rfl,bv,.inl ⟨rfl,.inl rfl⟩,by simp[bz]⟩)
  |es=>
   simp[sl,Tg.fc,acR];refine bG bv ?_;apply ai;simp[bZ,dI,bA,dy,l];exact av (m _ _ (.c (.f .es)) rfl ms ⟨_,[],rfl,bv,.inl ⟨rfl,.inr rfl⟩,by simp[bz]⟩)
  |fs=>
   simp[sl,Tg.fc,Bd];refine bG bv ?_;apply ai;simp[bZ,dI,bA,dy,l];exact av (m _ _ (.c (.f .es)) rfl ms ⟨_,[],rfl,bv,.inl ⟨rfl,.inr rfl⟩,by simp[bz]⟩)
 |cons x r=>
  have d:dI H sz (.c (.f (.fs (x::r).flatten (x::r).length)))=aa ((x::r).length,(x::r).flatten.map .f):=by
   have q:=El (H:=H) (g:=.fs) v;have s:=Rx (H:=H) .fs (x::r);simp only[sl,aji,ahb,if_false]at q s;simp only[dI,q,s]
  have b:cF (r.length+1) bytes=ae:=by simpa using j
  simp only[sl,aji,ahb,if_false];simp[Bd];refine bG bv ?_;apply ai;simp only[ag6,ahk]at d;simp[bZ,d,l,b];refine av (m _ _ (.c (.sl H.length 0 (r.length+1) 0 0 sz)) rfl ms ⟨_,[.dz sz ((x::r).flatten.map .f) 0 0 .loc],rfl,bv,.inr ⟨bv,H.length,0,rfl,by simp[RB]⟩,by simp[bz]⟩)
end
end
section
open Go
def lz{H:an}{g:Tg}(j:cZ m q):dI H m (.c (.f (sl g q)))=aa (q.length,q.flatten.map .f):=by
 have b:=El (H:=H) (g:=g) j;have d:=Rx (H:=H) g q;have e:∀s,sl g q≠.str s:=λs=>by cases q<;>cases g<;>simp[sl,Tg.fc]
 generalize sl g q=x at *;cases x<;>simp only[dI,b,d];simp_all
def Dx{H:an}{g:Tg}{rows:List (List FC)}{k:Nat}(j:cZ I rows)(m:k<=rows.length)(z:rows.length<=9223372036854775807) :
  ∃g',cJ H I (.c (.f (sl g rows))) (aa (vi k)) ab ab=aa (.c (.f (sl g' (rows.drop k)))):=by
 cases rows with
 |nil=>
  have:k=0:=by simpa using m
  subst this;cases g
  .exact⟨.nil,rfl⟩
  .exact⟨.es,rfl⟩
  .exact⟨.fs,by simp[sl,Tg.fc,cJ,cG];rfl⟩
 |cons x r=>
  refine⟨.fs,?_⟩;have v:Gd (vi k) (x::r).length=aa k:=by
   have:(0:Int)<=(k:Int)/\(k:Int)<=((x::r).length:Int):=⟨ap,ap⟩
   show(if(0:Int)<=(k:Int)/\(k:Int)<=((x::r).length:Int)then aa (k:Int).toNat else ab)=aa k;simp_all
  have b:cG (x::r).length (x::r).length (aa (vi k)) ab ab=aa (k,(x::r).length,(x::r).length):=by
   simp[cG];simp_all
  show cJ H I (.c (.f (.fs (x::r).flatten (x::r).length))) _ _ _=_;simp only[cJ,b];have l:((x::r).flatten.drop (k*I)).take (((x::r).length-k)*I)=((x::r).drop k).flatten:=by
   rw[vX k j,agY];rw[cz (λy s=>j y (ahM s)),ag5];omega
  rw[l];have u:sl .fs ((x::r).drop k)=.fs ((x::r).drop k).flatten ((x::r).length-k):=by
   cases d:(x::r).drop k with
   |nil=>
    have:=congrArg List.length d;simp only[ag5,ah7]at this;rw[this];rfl
   |cons y q=>
    have:=congrArg List.length d;simp only[ag5]at this;rw[this];rfl
  simp_all
def LR.ae5{H:an}{rows rows':List (List FC)}(h:LR H u I rows)(hg:cZ I rows)(xB:I≠0)(l:cZ I rows'){bytes:Nat}(d:cF (rows.length+rows'.length) bytes=ae)(g:Tg) :
  ∃c' H',bZ H I bytes (.c u) (.c (.f (sl g rows')))=aa (.c c',H')/\LR H' c' I (rows++rows')/\Kb H H' u/\(bz c'=bz u\/bz c'=aa H.length):=by
 by_cases h0:rows'=[]
 .subst h0;refine⟨u,H,?_,by simpa using h,Kb.refl H u,.inl rfl⟩;have q:=lz (H:=H) (g:=g) l;rcases h with⟨rfl,rfl|rfl⟩|⟨m,b,ep,rfl,h2⟩
  .simp only[bZ,q,xB,if_false];simp
  .simp only[bZ,q,xB,if_false];simp
  .unfold RB at h2;simp only[bZ,q,xB,if_false,h2,and_self,if_true,ah7]
 have c:rows'.length≠0:=λe=>h0 (ahZ.1 e);have j:=lz (H:=H) (g:=g) l;have x:=cz l;rcases h with⟨rfl,v⟩|⟨m,b,ep,rfl,h2⟩
 .have d:cF rows'.length bytes=ae:=by simpa using d
  refine⟨.sl H.length 0 rows'.length 0 0 I,H++[.dz I (rows'.flatten.map .f) 0 0 .loc],?_,.inr ⟨by simpa using h0,H.length,0,bv,?_⟩,Kb.push H _ u,.inr rfl⟩
  .rcases v with rfl|rfl<;>simp[bZ,j,d,xB,c]
  .simp[RB]
 .have s:rows.length*I=rows.flatten.length:=(cz hg).symm;unfold RB at h2;refine⟨.sl b 0 (rows.length+rows'.length) 0 (ep+1) I,H.set b (.dz I (rows.flatten.map .f++rows'.flatten.map .f) 0 (ep+1) .loc),?_,.inr ⟨by simp[m],b,ep+1,bv,?_⟩,⟨bv,λi y hy z=>?_⟩,.inl rfl⟩
  .simp only[bZ,j,xB,if_false,h2,and_self,if_true,c]
   grind
  .unfold RB
   grind
  .have:b≠i:=by rintro rfl;exact z rfl
   simp_all
end
section
open Go
abbrev yn(d:Nat)(op:et):bh:=⟨D d,op,ab⟩
abbrev ygm(d k g:Nat):bh:=⟨D d,.ju (R k),G9 g ae⟩
abbrev ygl(d z k g:Nat):bh:=⟨D d,.load (aa z) (R k),G9 g ae⟩
abbrev ym(d k:Nat):bh:=⟨D d,.ju (R k),ab⟩
abbrev yi(n:Int):Arg:=.k (.c (.f (.int .i64 n)))
abbrev yt:Arg:=.k (.c (.f (.bool ae)))
abbrev yf:Arg:=.k (.c (.f (.bool ag)))
abbrev ys(z a b:Nat):bh:=⟨ab,.store z (R a) (R b),ab⟩
abbrev yb(d:Nat)(o:BinOp)(a b:Nat):bh:=⟨D d,.bin o (R a) (R b),ab⟩
abbrev ya(d z a b:Nat):bh:=⟨D d,.hZ z ab (R a) (R b),ab⟩
abbrev yl(d z a:Nat):bh:=⟨D d,.load (aa z) (R a),ab⟩
abbrev yr(l:List bh):aD:=.region l []
def Zy(sz:Nat):aD:=yr [ym 37 0,ym 38 9,ym 39 0,ym 40 9,yn 41 (.bin .sub (R 40) (yi 1)),ym 42 0,ym 43 9,yn 44 (.bin .sub (R 43) (yi 1)),ya 45 sz 42 44,yl 46 sz 45,ym 47 0,ym 48 9,ya 49 sz 47 48,yl 50 sz 49,ya 51 sz 37 38,ys sz 51 46,ya 52 sz 39 41,ys sz 52 50]
def Zz(sz:Nat):aD:=yr [ym 35 9,yn 36 (.bin .sub (R 35) (yi 1)),ym 9 36]
def Zx(sz:Nat):aD:=.seq (.block 3 (Zy sz)) (Zz sz)
def Zw(sz:Nat):aD:=.seq (.seq (yr [ym 18 9,ym 19 1,yb 20 .gtr 18 19,ym 21 20,ygm 22 3 21,ygm 23 0 21,ygm 24 9 21,⟨D 25,.hZ sz ab (R 23) (R 24),G9 21 ae⟩,ygl 26 sz 25 21,ygm 27 0 21,ygm 28 9 21,⟨D 29,.bin .sub (R 28) (yi 1),G9 21 ae⟩,⟨D 30,.hZ sz ab (R 27) (R 29),G9 21 ae⟩,ygl 31 sz 30 21,⟨D 32,.jr (R 22) [R 26,R 31] ae,G9 21 ae⟩,⟨D 33,.bin .lss (R 32) (yi 0),G9 21 ae⟩,yn 34 (.pick (R 21) (R 33) yf)]) (.cond (R 34) .skip (.exit 2))) (Zx sz)
def Zv(sz:Nat):aD:=.seq (yr [ym 17 8,ym 9 17]) (.block 2 (.loop (Zw sz)))
def C2(sz:Nat):aD:=yr [ym 15 8,yn 16 (.bin .add (R 15) (yi 1)),ym 8 16]
def ac0(sz:Nat):aD:=.seq (.block 1 (Zv sz)) (C2 sz)
def JL(sz:Nat):aD:=.seq (.seq (yr [ym 12 8,ym 13 2,yb 14 .lss 12 13]) (.cond (R 14) .skip (.exit 0))) (ac0 sz)
def acZ(sz:Nat):aD:=.seq (yr [ym 10 1,yn 11 (.bin .add (R 10) (yi 1)),ym 8 11]) (.block 0 (.loop (JL sz)))
def VN(sz:Nat):aS:=⟨[P.nat 0,P.nat 1,P.nat 2,P.nat 3],[],(acZ sz)⟩
def afF(ins:Nat)(rest:aD):aS:=⟨[P.nat 0,P.nat 1,P.nat 2,P.nat 3,P.nat 4],[],.seq (.region [yn 10 (.ju yt)] []) (.seq (.region [yn 11 (.ju yt)] []) (.block 0 (.loop (.block 1 (.seq (.region [ym 21 2,ym 22 1,yb 23 .sub 21 22,ym 12 23] []) (.seq (.seq (.region [ym 24 12,yn 25 (.bin .leq (R 24) (yi 12))] []) (.cond (R 25) (.seq (.region [ym 26 0,ym 27 1,ym 28 2,ym 29 4,yn 30 (.call ins [R 26,R 27,R 28,R 29] ae)] []) .ret) .skip)) rest))))))⟩
def ady(b len:Nat):aS:=⟨[P.nat 0,P.nat 1],[],.seq (.region [ym 5 0,yn 6 (.len (R 5)),ym 4 6] []) (.region [ym 7 0,ym 8 4,ym 9 4,yn 10 (.QO .u64 (R 9)),yn 11 (.call len [R 10] ag),ym 12 1,yn 13 (.call b [R 7,(yi 0),R 8,R 11,R 12] ae)] [])⟩
abbrev vu(n:Int):V:=.c (.f (.int .u64 n))
def adC(n:Int):IntKind.wrap .u64 n=n % 18446744073709551616:=rfl
def Cv(tab:TB)(cv:V)(W:List FC->Prop)(c:List FC->List FC->Int):Prop:=
 ∀x y,W x->W y->∀H,∃F b J,cr cv [.a (x.map .f),.a (y.map .f)]=aa (.fn F,b)/\Ev tab (.fn F) b H (vi (c x y)) (H++J)
section
variable{W:List FC->Prop}{c:List FC->List FC->Int}{l:List (List FC)}
def GY.of_lt(hc:Cmp W c)(b:∀r∈l,W r){y:List FC}(d:l[I]?=aa N)(hy:l[A]?=aa y)(h:c N y<0):GY c l I A:=λg m h1 h2=>by
 rw[d]at h1;rw[hy]at h2;cases h1;cases h2;exact hc.asym (b _ (ahg d)) (b _ (ahg hy)) h
def GY.of_le{y:List FC}(b:l[m]?=aa N)(hy:l[I]?=aa y)(h:¬ c y N<0):GY c l m I:=λd g h1 h2=>by
 rw[b]at h1;rw[hy]at h2;cases h1;cases h2;exact h
def GY.get{b:List (List FC)}{i:Nat}(h:GY c l i I)(h1:b[d]?=l[i]?)(h2:b[A]?=l[I]?):GY c b d A:=λx y m hy=>h x y (by rw[<-h1];exact m) (by rw[<-h2];exact hy)
def Ins(c:List FC->List FC->Int)(a i j:Nat)(l:List (List FC)):Prop:=∀p q,a<=p->p<q->q<=i->q≠j->GY c l p q
def Ins.start(h:Up c d m l):Ins c d m m l:=λp q h1 h2 h3 h4=>λx y=>h p q x y h1 h2 ap
def Ins.step(hc:Cmp W c)(u:∀r∈l,W r)(h:Ins c I d (m+1) l)(v:I<=m)(A:m+1<=d)(hi:d<l.length){y:List FC}(z:l[m+1]?=aa N)(hy:l[m]?=aa y)(j:c N y<0):Ins c I d m (swp l (m+1) m):=by
 intro p q h1 h2 h3 h4;have g:∀k,(swp l (m+1) m)[k]?=if k=m then l[m+1]? else if k=m+1 then l[m]? else l[k]?:=λk=>swp_get ap ap k;by_cases b:q=m+1
 .subst b;by_cases p1:p=m
  .subst p1;exact(GY.of_lt hc u z hy j).get (by rw[g,ct rfl]) (by rw[g,cC ap,ct rfl])
  .exact(h p m h1 ap ap ap).get (by rw[g,cC ap,cC ap]) (by rw[g,cC ap,ct rfl])
 .have i:(swp l (m+1) m)[q]?=l[q]?:=by rw[g,cC h4,cC b]
  by_cases p1:p=m
  .subst p1;exact(h (p+1) q ap ap h3 b).get (by rw[g,ct rfl]) i
  by_cases s:p=m+1
  .subst s;exact(h m q v ap h3 b).get (by rw[g,cC ap,ct rfl]) i
  .exact(h p q h1 h2 h3 b).get (by rw[g,cC p1,cC s]) i
def Ins.front(h:Ins c d m d l):Up c d (m+1) l:=λp q x y h1 h2 h3=>h p q h1 h2 ap ap x y
def Ins.stop(hc:Cmp W c)(g:∀r∈l,W r)(h:Ins c I A (d+1) l)(m:I<=d)(s:d+1<=A)(hi:A<l.length)(b:GY c l d (d+1)):Up c I (A+1) l:=by
 intro p q x y h1 h2 h3;by_cases j:q=d+1
 .subst j;by_cases p1:p=d
  .subst p1;exact b x y
  .exact((h p d h1 ap ap ap).trans hc g b ap) x y
 .exact h p q h1 h2 ap j x y
end
section
variable{tab:TB}{sz ins:Nat}{H:an}{b ep:Nat}{rows:List (List FC)}{cv:V}{W:List FC->Prop}{c:List FC->List FC->Int}
theorem RB.at(h:RB H b sz ep rows){i:Nat}(hi:i<rows.length):bO H sz ab (.c (.sl b 0 rows.length 0 ep sz)) (vi i)=aa (.c (.ptr b (i*sz) ep)):=by
 have:=h.idx (n:=rows.length) (c:=0) (k:=.i64) (o:=0) (i:=(i:Int)) ap ap;rwa[ag7,ahI]at this
def RB.ldi(h:RB H b sz ep rows)(hg:cZ sz rows)(hi:d<rows.length):aV H (aa sz) (.c (.ptr b (d*sz) ep))=aa (.a (rows[d].map .f)):=h.ldr hg (BY hi)
def ZA(hT:tab ins=aa (VN sz))(e_:Cv tab cv W c)(hc:Cmp W c){n a e:Nat}(hn:rows.length=n)(hl:n<=1000000000)(d:RB H b sz ep rows)(hg:cZ sz rows)(hW:∀r∈rows,W r)(h_:a<=e)(i6:e<=n) :
  ∃r H',Ev tab (.fn ins) [.c (.sl b 0 n 0 ep sz),vi a,vi e,cv] H r H'/\(r=.t []/\Fm b H H'/\∃l',RB H' b sz ep l'/\G1 a e rows l'/\Up c a e l'):=by
 refine dc hT rfl λQ hQ=>?_;apply ai;simp[a8 (n:=(a:Int)+1)];refine ax ?_;refine di (λm s=>∃(i:Nat) (t:T) (Y:an) (l:List (List FC)),s=⟨t,[],Y⟩/\m=n+1-i/\a+1<=i/\(i<=e\/i=a+1)/\t.g 0=.c (.sl b 0 n 0 ep sz)/\t.g 1=vi a/\t.g 2=vi e/\t.g 3=cv/\t.g 8=vi i/\
  Fm b H Y/\RB Y b sz ep l/\G1 a e rows l/\Up c a i l) _
  ⟨a+1,_,H,rows,rfl,rfl,ap,.inr rfl,bv,bv,bv,bv,bv,Fm.refl H,d,G1.refl _ _ _,Up.one ap⟩ ?_
 rintro m s ⟨i,t,Y,l,rfl,rfl,i7,hi,B,I,M,N,K,v,d,g,d_⟩ ih;have A:=g.len;apply aE;apply ai;simp[K,M];by_cases d9:i<e
 case neg=>
  refine aC (by simp[d9]) ?_;refine bQ (k':=[]) rfl ?_;exact cN (hQ _ _ _ rfl rfl ⟨rfl,v,l,d,g,d_.mono (agQ _) ap⟩)
 refine aq (by simp[d9]) (aQ ?_);apply aE;refine ax ?_;apply ai;simp[K];refine ax ?_;refine di (λm s=>∃(j:Nat) (t:T) (U:an) (q:List (List FC)),s=⟨t,[],U⟩/\j=m/\a<=j/\j<=i/\t.g 0=.c (.sl b 0 n 0 ep sz)/\t.g 1=vi a/\t.g 2=vi e/\t.g 3=cv/\t.g 8=vi i/\t.g 9=vi j/\
  Fm b H U/\RB U b sz ep q/\G1 a e rows q/\Ins c a i j q) i
  ⟨i,_,Y,l,rfl,rfl,ap,ap,by simp[B],by simp[I],by simp[M],by simp[N],by simp[K],bv,v,d,g,Ins.start d_⟩ ?_
 rintro m s ⟨j,t,U,q,rfl,rfl,i8,c_,B,I,M,N,K,g9,v,d,g,z⟩ g_;have A:=g.len;have x:=g.afj hg;have L:∀r∈q,W r:=λr hr=>hW r (g.1.mem_iff.1 hr);have stop:Up c a (i+1) q->∀t:T,t.g 0=.c (.sl b 0 n 0 ep sz)->t.g 1=vi a->t.g 2=vi e->t.g 3=cv->t.g 8=vi i->∀X,Fm b H X->RB X b sz ep q->
   WP tab ins ab [.inBlock 1,.code (C2 sz),.inLoop (JL sz),.inBlock 0] ⟨t,[],X⟩ Q:=by
  intro hp t B I M N K X v d;refine au (aF (.inl rfl) ?_);simp[K,a8 (n:=(i:Int)+1)];exact ih (n+1-(i+1)) _ ap ⟨i+1,_,X,q,rfl,rfl,ap,.inl ap,by simp[B],by simp[I],by simp[M],by simp[N],bv,v,d,g,hp⟩
 apply aE;apply ai;by_cases hj:j=a
 .subst hj;simp[g9,I];refine aC bv ?_;refine bQ (k':=[.inBlock 1,.code (C2 sz),.inLoop (JL sz),.inBlock 0]) rfl ?_;exact stop z.front _ (by simp[B]) (by simp[I]) (by simp[M]) (by simp[N]) (by simp[K]) _ v d
 obtain⟨k,rfl⟩:∃k,j=k+1:=⟨j-1,ap⟩
 have S:k+1<q.length:=ii
 have c1:((k+1:Nat):Int)=(k:Int)+1:=ii
 have O:=d.at S;have i0:=d.at (show k<q.length by omega);have l1:=d.ldi x S;have l0:=d.ldi x (show k<q.length by omega);rw[A,hn]at O i0;rw[c1]at O g9;obtain⟨F,ar,J,b_,f_⟩:=e_ q[k+1] q[k] (L _ (IN _)) (L _ (IN _)) U;have he:=f_.eq;have gt:(a:Int)<(k:Int)+1:=ii
 simp[g9,B,I,N,gt,O,i0,l1,l0,b_,he,-aw,a8 (n:=(k:Int))];by_cases y:c q[k+1] q[k]<0
 case neg=>
  refine aC (by simp[y]) ?_;refine bQ (k':=[.inBlock 1,.code (C2 sz),.inLoop (JL sz),.inBlock 0]) rfl ?_;exact stop (z.stop hc L ap c_ ap (GY.of_le (BY ap) (BY S) y)) _ (by simp[B]) (by simp[I]) (by simp[M]) (by simp[N]) (by simp[K]) _ (v.trans (Fm.push _ _)) (d.push _)
 refine aq (by simp[y]) (aQ ?_);have w1:q[k+1].length=sz:=x _ (IN _);have w0:q[k].length=sz:=x _ (IN _);have u:=d.push J;obtain⟨HJ,a_⟩:=aH (U++J);rw[<-a_]at u ⊢;have c9:Fm b H HJ:=by rw[a_];exact v.trans (Fm.push _ _)
 have O:=u.at S;have i0:=u.at (show k<q.length by omega);have l1:=u.ldi x S;have l0:=u.ldi x (show k<q.length by omega);obtain⟨X,H4,s1,r1,s2,r2,f2⟩:=u.swap x S (show k<q.length by omega);have i2:=r1.at (show k<(q.set (k+1) q[k]).length by simp;omega);rw[List.length_set]at i2;rw[A,hn]at O i0 i2;rw[c1]at O;apply aE;refine ax ?_;refine aF (.inl rfl) ?_;simp[g9,B,O,i0,i2,l1,l0,s1,s2,w1,w0,-aw,-bF,a8 (n:=(k:Int))];refine au ?_;refine aF (.inl rfl) ?_;simp[g9,a8 (n:=(k:Int))];exact g_ k _ ap ⟨k,_,H4,swp q (k+1) k,rfl,rfl,ap,ap,by simp[B],by simp[I],by simp[M],by simp[N],by simp[K],bv,c9.trans f2,r2,
  g.trans (U7 ap ap ap ap ap),z.step hc L ap c_ ap (BY S) (BY ap) y⟩
def Ur(d:tab ins=aa (VN sz)):Ev tab (.fn ins) [B,vi 0,vi 0,cv] h (.t []) h:=by
 obtain⟨r,H',g,rfl,rfl⟩:∃r H',Ev tab (.fn ins) [B,vi 0,vi 0,cv] h r H'/\(r=.t []/\H'=h):=by
  refine dc d rfl λQ b=>?_;apply ai;simp[a8 (n:=(1:Int))];refine ax ?_;refine di (λ_ s=>s=⟨_,[],h⟩) 0 rfl ?_;rintro _ s rfl -;apply aE;apply ai;simp;refine aC bv ?_;refine bQ (k':=[]) rfl ?_;exact cN (b _ _ _ rfl rfl ⟨rfl,rfl⟩)
 exact g
def Ke{len n:Nat}(z:tab m=aa (ady d len))(A:tab d=aa (afF ins p)){k:Int}(B:bf tab len [vu n]=Eq (vi k))(I:bA H u=aa n)(J:n<=12)(F:Ev tab (.fn ins) [.c u,vi 0,vi n,cv] H (.t []) h):Ev tab (.fn m) [.c u,cv] H (.t []) h:=by
 have v:IntKind.wrap .u64 (n:Int)=n:=by rw[adC];omega
 have F:=F.eq;obtain⟨x,g,b,rfl,rfl⟩:∃x g,Ev tab (.fn d) [.c u,vi 0,vi n,vi k,cv] H x g/\(x=.t []/\g=h):=by
  refine dc A rfl λQ l=>?_;apply ai;simp;apply ai;simp;refine ax ?_;refine di (λ_ s=>s=⟨_,[],H⟩) 0 rfl ?_;rintro _ s rfl -;refine ax ?_;apply ai;simp[a8 (n:=(n:Int))];apply aE;apply ai;simp;refine aq ge ?_;apply ai;simp[F];exact av (l _ _ _ rfl rfl ⟨rfl,rfl⟩)
 have b:=b.eq;obtain⟨y,j,q,rfl,rfl⟩:∃y j,Ev tab (.fn m) [.c u,cv] H y j/\(y=.t []/\j=g):=by
  refine dc z rfl λQ l=>?_;apply ai;simp[I];refine aF (.inl rfl) ?_;simp[v,B,b];exact cN (l _ _ (.t []) rfl rfl ⟨rfl,rfl⟩)
 exact q
end
def Rs{tab:TB}{ro:Option Nat}{k:List dS}{Q:Option aD->St->Prop}(h:WP tab d ro (.code p::.inLoop p::k) O Q):WP tab d ro (.code (.loop p)::k) O Q:=jX h λ_ _ _=>rfl
def Ord.cW(l:List Int):cZ 1 (ints l):=cZ.map λ_=>rfl
end
section
open Go
def Kp(H H':an):Prop:=H.length<=H'.length/\∀b:Nat,b<H.length->H'[b]?=H[b]?
def Kp.push(H J:an):Kp H (H++J):=⟨bv,λb l=>AI l⟩
end
section
open Go
def LX(H:an)(c:C)(sz:Nat)(rows:List (List FC)):Prop:=(rows=[]/\(c=.f .aN\/c=.f .es))\/(rows≠[]/\∃b ep fl,c=.sl b 0 rows.length 0 ep sz/\H[b]?=aa (.dz sz (rows.flatten.map .f) fl ep .loc))
section
variable{H H':an}{c c':C}{sz sz':Nat}{rows rows':List (List FC)}
def LR.x(h:LR H c sz rows):LX H c sz rows:=by
 rcases h with h|⟨h,b,ep,rfl,h2⟩
 .exact .inl h
 .exact .inr ⟨h,b,ep,0,rfl,h2⟩
def LX.cm(h:LX H c sz rows)(d:H[m]?=aa (.box S I)):bz c≠aa m:=by
 rcases h with⟨_,rfl|rfl⟩|⟨h,b,ep,I,rfl,h2⟩
 .simp[bz]
 .simp[bz]
 .intro e;cases e;simp_all
theorem LX.set(h:LX H c sz rows){i:Nat}(hi:bz c≠aa i)(x:bV):LX (H.set i x) c sz rows:=by
 rcases h with h|⟨h,b,ep,fl,rfl,h2⟩
 .exact .inl h
 .have:i≠b:=by rintro rfl;exact hi rfl
  exact .inr ⟨h,b,ep,fl,rfl,by rw[sh this];exact h2⟩
def LX.mkH(h:LX H c' sz' rows')(n:Nat):ez (n+1) c' H=H\/∃b ep fl fl',bz c'=aa b/\H[b]?=aa (.dz sz' (rows'.flatten.map .f) fl ep .loc)/\ez (n+1) c' H=H.set b (.dz sz' (rows'.flatten.map .f) fl' ep .loc):=by
 rcases h with⟨_,rfl|rfl⟩|⟨d,b,ep,fl,rfl,h2⟩
 .simp
 .simp
 .refine .inr ⟨b,ep,fl,Nat.max fl (0+rows'.length*sz'),rfl,h2,?_⟩;simp only[jY,h2];rw[jF]
  grind
def LX.mk(h:LX H c sz rows)(m:LX H c' sz' rows')(n:Nat):LX (ez (n+1) c' H) c sz rows:=by
 rcases m.mkH n with e|⟨j,l,fl',d,v,g,e⟩
 .simp_all
 .rw[e];rcases h with h|⟨h,b,ep,fl,rfl,h2⟩
  .exact .inl h
  .by_cases hb:j=b
   .subst hb;rw[h2]at g;injection g with g;injection g with q s x u y;subst q;rw[<-s,<-u];exact .inr ⟨h,j,ep,d,rfl,By (aj h2)⟩
   .exact .inr ⟨h,b,ep,fl,rfl,by rw[sh hb];exact h2⟩
def LX.E3(h:LX H c sz rows)(n:Nat)(hi:H[m]?=aa (.box S I)):(ez (n+1) c H)[m]?=aa (.box S I):=by
 rcases h.mkH n with e|⟨g,d,fl',b,j,l,e⟩
 .simp_all
 .grind
def LX.ex(h:LX H c sz rows)(hg:cZ sz rows):∃g,∀(H':an) (n:Nat),LX H' c sz rows->fv (n+1) H' c=aa (sl g rows):=by
 by_cases j:rows=[]
 .rcases h with⟨rfl,rfl|rfl⟩|⟨h,_⟩
  .exact⟨.nil,λ_ _ _=>rfl⟩
  .exact⟨.es,λ_ _ _=>rfl⟩
  .simp_all
 .refine⟨.fs,λH' n m=>?_⟩;rcases m with⟨e,_⟩|⟨d,b,ep,fl,rfl,h2⟩
  .simp_all
  .have hl:rows.length*sz=rows.flatten.length:=(cz hg).symm;simp only[gR,h2];rw[ct ⟨trivial,trivial,by rw[agS,ahI,hl];exact agQ _⟩,ahR,agY (by rw[agS];omega),kr];cases rows with
   |nil=>exact absurd rfl j| cons x l=>simp[sl]
end
end
section
open Go
def Zq(sz bytes:Nat)(zs:List FC):aD:=yr [yn 7 (.bad),⟨ab,.bad,ab⟩]
def Uk(sz bytes:Nat)(zs:List FC):aD:=yr [ym 17 0,ym 18 0,yn 19 (.cap (R 18)),yn 20 (.slice sz (R 17) ab (aa (R 19)) ab),ym 21 1,yn 22 (.sJ sz bytes zs (R 20) (R 21)),ym 23 0,yn 24 (.len (R 23)),yn 25 (.slice sz (R 22) ab (aa (R 24)) ab),ym 0 25]
def Uj(sz bytes:Nat)(zs:List FC):aD:=.seq (yr [ym 15 1,yn 16 (.bin .gtr (R 15) (yi 0))]) (.cond (R 16) (Uk sz bytes zs) .skip)
def Ul(sz bytes:Nat)(zs:List FC):aD:=.seq (yr [ym 26 0,ym 4 26]) .ret
def Zr(sz bytes:Nat)(zs:List FC):aD:=.seq (.seq (yr [ym 8 1,ym 9 0,yn 10 (.cap (R 9)),ym 11 0,yn 12 (.len (R 11)),yb 13 .sub 10 12,yb 14 .sub 8 13,ym 1 14]) (Uj sz bytes zs)) (Ul sz bytes zs)
def Zp(sz bytes:Nat)(zs:List FC):aD:=.seq (.seq (yr [ym 5 1,yn 6 (.bin .lss (R 5) (yi 0))]) (.cond (R 6) (Zq sz bytes zs) .skip)) (Zr sz bytes zs)
def Zo(sz bytes:Nat)(zs:List FC):aD:=.seq (yr [yn 4 (.ju (.k (.c (.f .aN))))]) (Zp sz bytes zs)
def VL(sz bytes:Nat)(zs:List FC):aS:=⟨[P.nat 0,P.nat 1],[.tmp (P.nat 4)],(Zo sz bytes zs)⟩
def Mn(G9 sz bytes:Nat):aD:=yr [yn 21 (.bad),⟨ab,.bad,ab⟩]
def Mm(G9 sz bytes:Nat):aD:=.seq (yr [ym 19 3,yn 20 (.bin .lss (R 19) (yi 0))]) (.cond (R 20) (Mn G9 sz bytes) .skip)
def Ml(G9 sz bytes:Nat):aD:=.seq (yr [ym 15 3,ym 16 5,yn 17 (.len (R 16)),yb 18 .add 15 17,ym 3 18]) (Mm G9 sz bytes)
def Mk(G9 sz bytes:Nat):aD:=.seq (yr [ya 13 1 9 11,yn 14 (.load ab (R 13)),ym 5 14]) (Ml G9 sz bytes)
def Mo(G9 sz bytes:Nat):aD:=yr [yn 22 (.bin .add (R 11) (yi 1)),ym 11 22]
def Mj(G9 sz bytes:Nat):aD:=.seq (.block 1 (Mk G9 sz bytes)) (Mo G9 sz bytes)
def Mi(G9 sz bytes:Nat):aD:=.seq (.cond (R 12) .skip (.exit 0)) (Mj G9 sz bytes)
def QL(G9 sz bytes:Nat):aD:=.seq (yr [yb 12 .lss 11 10]) (Mi G9 sz bytes)
def Mw(G9 sz bytes:Nat):aD:=yr [ym 31 6,ym 32 8,yn 33 (.append sz bytes (R 31) (R 32)),ym 6 33]
def Mv(G9 sz bytes:Nat):aD:=.seq (yr [ya 29 1 25 27,yn 30 (.load ab (R 29)),ym 8 30]) (Mw G9 sz bytes)
def Mx(G9 sz bytes:Nat):aD:=yr [yn 34 (.bin .add (R 27) (yi 1)),ym 27 34]
def Mu(G9 sz bytes:Nat):aD:=.seq (.block 3 (Mv G9 sz bytes)) (Mx G9 sz bytes)
def Mt(G9 sz bytes:Nat):aD:=.seq (.cond (R 28) .skip (.exit 2)) (Mu G9 sz bytes)
def Ms(G9 sz bytes:Nat):aD:=.seq (yr [yb 28 .lss 27 26]) (Mt G9 sz bytes)
def Mr(G9 sz bytes:Nat):aD:=.block 2 (.loop (Ms G9 sz bytes))
def My(G9 sz bytes:Nat):aD:=.seq (yr [ym 35 6,ym 2 35]) .ret
def Mq(G9 sz bytes:Nat):aD:=.seq (.seq (yr [ym 25 0,yn 26 (.len (R 25)),yn 27 (.ju (yi 0))]) (Mr G9 sz bytes)) (My G9 sz bytes)
def Mp(G9 sz bytes:Nat):aD:=.seq (yr [ym 23 3,yn 24 (.call G9 [(.k (.c (.f .aN))),R 23] ae),ym 6 24]) (Mq G9 sz bytes)
def QK(G9 sz bytes:Nat):aD:=.seq (.seq (yr [ym 9 0,yn 10 (.len (R 9)),yn 11 (.ju (yi 0))]) (.block 0 (.loop (QL G9 sz bytes)))) (Mp G9 sz bytes)
def QJ(G9 sz bytes:Nat):aD:=.seq (yr [yn 3 (.ju (yi 0))]) (QK G9 sz bytes)
def QG(G9 sz bytes:Nat):aD:=.seq (yr [yn 2 (.ju (.k (.c (.f .aN))))]) (QJ G9 sz bytes)
def TY(G9 sz bytes:Nat):aS:=⟨[P.nat 0],[.tmp (P.nat 2)],(QG G9 sz bytes)⟩
section
variable{tab:TB}{F G9 sz bytes:Nat}{zs:List FC}{H:an}
def Va(t:T)(H:an)(sz bytes:Nat)(zs:List FC)(x n:Arg):cA t H (.sJ sz bytes zs x n)=D9 H sz bytes zs (x.ev t) (n.ev t):=rfl
def Nu{b:Type}(n:Nat)(xs:List b):(dQ n xs).length=n*xs.length:=by
 simp
def GR(H:an)(c:C)(sz n:Nat)(rows:List (List FC)):Prop:=(n=0/\rows=[]/\c=.f .aN)\/(0<n/\∃b rest,c=.sl b 0 rows.length 0 0 sz/\H[b]?=aa (.dz sz (rows.flatten.map .f++rest) 0 0 .loc)/\(rows.flatten.map C.f++rest).length=n*sz)
def Um(u:tab F=aa (VL sz bytes zs))(x:sz≠0)(m:zs.length=sz)(n:Nat)(z:n<=1000000)(b:cF n bytes=ae):∃r H',Ev tab (.fn F) [.c (.f .aN),vi n] H r H'/\
  ∃c,r=.c c/\GR H' c sz n []/\(∀i:Nat,i<H.length->H'[i]?=H[i]?)/\H.length<=H'.length/\∀i,bz c=aa i->H.length<=i:=by
 refine dc (C:=λr H'=>∃c,r=.c c/\GR H' c sz n []/\(∀i:Nat,i<H.length->H'[i]?=H[i]?)/\H.length<=H'.length/\∀i,bz c=aa i->H.length<=i) u rfl λQ l=>?_;apply ai;simp;apply aE;apply ai;simp[show¬ (n:Int)<0 by omega];refine bG bv ?_;apply aE;apply ai;simp[bA,oC,wrap64 (n:=(0:Int)) ce ce,a8 (n:=(n:Int))];apply ai;simp;rcases Nat.eq_zero_or_pos n with rfl|v
 .refine bG bv ?_;apply ai;simp;exact av (l _ _ (.c (.f .aN)) rfl ms ⟨.f .aN,rfl,.inl ⟨rfl,rfl,rfl⟩,λ_ _=>rfl,agQ _,λ_ h=>by cases h⟩)
 .refine aq ge ?_;have q:cJ H sz (.c (.f .aN)) ab (aa (vi 0)) ab=aa (.c (.f .aN)):=rfl;have d:∃cs:List C,cs.length=n*sz/\D9 H sz bytes zs (.c (.f .aN)) (vi n)=aa (.c (.sl H.length 0 n 0 0 sz),H++[.dz sz cs 0 0 .loc]):=by
   refine⟨(dQ n zs).map .f,by rw[agS,Nu,m],?_⟩;have hi:fE (vi n)=aa (n:Int):=rfl;simp[D9,hi,m,show¬ n=0 by omega,show¬ (n:Int)<=0 by omega,b]
  obtain⟨cs,j,d⟩:=d;have s:cJ (H++[.dz sz cs 0 0 .loc]) sz (.c (.sl H.length 0 n 0 0 sz)) ab (aa (vi 0)) ab=aa (.c (.sl H.length 0 0 0 0 sz)):=by
   have y:cG n n ab (aa (vi ((0:Nat):Int))) ab=aa (0,0,n):=by simp only[cG,ie (aih n)];rfl
   have g:(H++[bV.dz sz cs 0 0 .loc])[H.length]?=aa (bV.dz sz cs 0 0 .loc):=lw
   simp only[cJ,g,and_self,if_true];simp_all
  refine aF (.inl rfl) ?_;simp[bA,oC,q,Va,d,s];apply ai;simp;exact av (l _ _ (.c (.sl H.length 0 0 0 0 sz)) rfl ms ⟨_,rfl,.inr ⟨v,H.length,cs,rfl,bv,by simpa using j⟩,λi hi=>AI hi,bv,λi h=>by cases h;exact agQ _⟩)
def GR.app{rows ys:List (List FC)}(h:GR H u sz I rows)(hg:cZ sz rows)(hy:cZ sz ys)(xB:sz≠0)(g:rows.length+ys.length<=I){x:C}(l:dI H sz (.c x)=aa (ys.length,ys.flatten.map .f)) :
  ∃c' H',bZ H sz bytes (.c u) (.c x)=aa (.c c',H')/\GR H' c' sz I (rows++ys)/\bz c'=bz u/\H'.length=H.length/\∀(i:Nat) y,H[i]?=aa y->bz u≠aa i->H'[i]?=aa y:=by
 rcases h with⟨rfl,rfl,rfl⟩|⟨c,b,rest,rfl,hb,d⟩
 .have:ys=[]:=ahZ.1 ap;subst this;exact⟨.f .aN,H,by simp only[bZ,l,xB,if_false];simp,.inl ⟨rfl,rfl,rfl⟩,rfl,rfl,λ_ _ h _=>h⟩
 .by_cases s:ys.length=0
  .have:ys=[]:=ahZ.1 s;subst this;refine⟨.sl b 0 rows.length 0 0 sz,H,?_,.inr ⟨c,b,rest,bv,by simpa using hb,by simpa using d⟩,rfl,rfl,λ_ _ h _=>h⟩;simp only[bZ,l,xB,if_false,hb,and_self,if_true,ah7]
  .have z:rows.flatten.length=rows.length*sz:=cz hg;have m:ys.flatten.length=ys.length*sz:=cz hy;have q:rows.length*sz+ys.length*sz<=I*sz:=by rw[<-ahi];exact ahA sz g
   have v:0<ys.length*sz:=Nat.mul_pos ap ap;have A:over (rows.flatten.map C.f++rest) (rows.length*sz) (ys.flatten.map C.f)=(rows++ys).flatten.map C.f++rest.drop (ys.length*sz):=by
    have e:rows.length*sz=(rows.flatten.map C.f).length:=by rw[agS,z]
    simp only[over];rw[e,List.take_left,ajm,agS,agS,m];simp_all
   have B:rest.length=I*sz-rows.length*sz:=by rw[agM,agS,z]at d;omega
   refine⟨.sl b 0 (rows.length+ys.length) 0 0 sz,H.set b (.dz sz ((rows++ys).flatten.map .f++rest.drop (ys.length*sz)) 0 0 .loc),?_,.inr ⟨c,b,rest.drop (ys.length*sz),bv,By (aj hb),?_⟩,rfl,bv,λi y hy j=>?_⟩
   .simp only[bZ,l,xB,if_false,hb,and_self,if_true,s]
    grind
   .grind
   .have:b≠i:=by rintro rfl;exact j rfl
    simp_all
def GR.lr(h:GR H u sz q.length q)(hg:cZ sz q):LR H u sz q:=by
 rcases h with⟨_,h1,rfl⟩|⟨g,b,rest,rfl,hb,d⟩
 .rw[h1];exact LR.nil _ _
 .have j:q.flatten.length=q.length*sz:=cz hg;have:rest=[]:=ahZ.1 (by rw[agM,agS,j]at d;omega);subst this;exact .inr ⟨λe=>by rw[e]at g;simp at g,b,0,rfl,by simpa[RB]using hb⟩
def vW(hT:tab F=aa (TY G9 sz bytes))(hG:tab G9=aa (VL sz bytes zs))(U:sz≠0)(hz:zs.length=sz){b:Nat}(xs:List (C × List (List FC)))(hb:H[b]?=aa (.box (xs.map (·.1)) 0))(i6:xs.length<=1000000)
  (hx:∀x∈xs,cZ sz x.2/\∀H':an,(∀i:Nat,i<H.length->H'[i]?=H[i]?)->bA H' x.1=aa x.2.length/\dI H' sz (.c x.1)=aa (x.2.length,x.2.flatten.map .f))
  (X:((xs.map (·.2)).flatten).length<=1000000) (d:cF ((xs.map (·.2)).flatten).length bytes=ae) :
  ∃r H',Ev tab (.fn F) [.c (.sl b 0 xs.length xs.length 0 1)] H r H'/\∃c,r=.c c/\LR H' c sz (xs.map (·.2)).flatten/\(∀i:Nat,i<H.length->H'[i]?=H[i]?)/\H.length<=H'.length/\∀i,bz c=aa i->H.length<=i:=by
 have O:=aj hb;have a_:∀(H':an),(∀i:Nat,i<H.length->H'[i]?=H[i]?)->∀j:Nat,(h:j<xs.length)->bO H' 1 ab (.c (.sl b 0 xs.length xs.length 0 1)) (vi j)=aa (.c (.ptr b j 0))/\aV H' ab (.c (.ptr b j 0))=aa (.c xs[j].1):=λH' u j h=>by
  have m:H'[b]?=aa (.box (xs.map (·.1)) 0):=by rw[u b O];exact hb
  refine⟨?_,?_⟩
  .simp[bO,show fE (vi j)=aa (j:Int) from rfl,m,h]
  .simp[aV,az,m,aX,h,agT]
 have b_:∀(H':an),(∀i:Nat,i<H.length->H'[i]?=H[i]?)->bA H' (.sl b 0 xs.length xs.length 0 1)=aa xs.length:=λH' u=>by
  have m:H'[b]?=aa (.box (xs.map (·.1)) 0):=by rw[u b O];exact hb
  simp[bA,m]
 have tk:∀j (h:j<xs.length),((xs.take (j+1)).map (·.2)).flatten=((xs.take j).map (·.2)).flatten++xs[j].2:=λj h=>by
  rw[List.take_add_one,BY h];simp only[Option.toList_some,ahQ,IT,agN,aif,ag6,List.flatten_nil,ahe]
 have f_:∀j,((xs.take j).map (·.2)).flatten.length<=((xs.map (·.2)).flatten).length:=λj=>by
  conv=>rhs;rw[<-ahU j xs,ahQ,aif,agM]
  omega
 have c9:∀j,cZ sz ((xs.take j).map (·.2)).flatten:=λj r hr=>by
  obtain⟨l,hl,hr⟩:=List.mem_flatten.1 hr;obtain⟨x,e_,rfl⟩:=agX.1 hl;exact(hx x (ah1 e_)).1 r hr
 refine dc (H:=H) (args:=[.c (.sl b 0 xs.length xs.length 0 1)]) (C:=λr H'=>∃c,r=.c c/\LR H' c sz (xs.map (·.2)).flatten/\(∀i:Nat,i<H.length->H'[i]?=H[i]?)/\H.length<=H'.length/\∀i,bz c=aa i->H.length<=i) hT rfl λQ hQ=>?_;apply ai;simp;apply ai;simp;apply aE;apply ai;simp[b_ H λ_ _=>rfl];obtain⟨L,B⟩:∃L:Nat->Nat,∀j,L j=((xs.take j).map (·.2)).flatten.length:=⟨_,λ_=>rfl⟩
 have L0:L 0=0:=by rw[B];rfl
 have Ls:∀j (h:j<xs.length),L (j+1)=L j+xs[j].2.length:=λj h=>by rw[B,B,tk j h,agM]
 have Ll:∀j,L j<=((xs.map (·.2)).flatten).length:=λj=>by rw[B];exact f_ j
 have Le:L xs.length=((xs.map (·.2)).flatten).length:=by rw[B,agW]
 obtain⟨N,hN⟩:=aH (((xs.map (·.2)).flatten).length);rw[<-hN]at X d Ll Le;refine bW xs.length (λj t J=>J=H/\t.g 0=.c (.sl b 0 xs.length xs.length 0 1)/\t.g 9=.c (.sl b 0 xs.length xs.length 0 1)/\t.g 3=vi (L j)) ap ce ce bv bv ⟨rfl,bv,bv,by simp[L0]⟩ ?_ ?_
 .rintro j t J s ⟨rfl,g0,g9,g3⟩ K y next
  obtain⟨i1,Y⟩:=a_ J (λ_ _=>rfl) j s;obtain⟨h2,h3⟩:=(hx _ (IN s)).2 J λ_ _=>rfl;have h5:=Ls j s;have h6:=Ll (j+1);obtain⟨x,A⟩:=aH (xs[j]);rw[<-A]at Y h2 h3 h5;refine ax ?_;apply ai;simp[K,g9,i1,Y,-aw];apply ai;simp[g3,h2,a8 (n:=(L j:Int)+x.2.length)];apply ai;simp[show¬ (L j:Int)+x.2.length<0 by omega];exact aC bv (aQ (au (next _ _ ⟨rfl,by simp[g0],by simp[g9],by simp[h5]⟩ (by simp[K]) (by simp[y]))))
 .rintro t J ⟨rfl,g0,g9,g3⟩ - -;obtain⟨r,H2,q,c0,rfl,c_,S,d_,d9⟩:=Um (H:=J) hG U hz N ap d;rw[Le]at g3;apply ai;simp[g3,q.eq];apply aE;apply ai;simp[g0,b_ H2 S];refine bW xs.length (λj t J'=>t.g 25=.c (.sl b 0 xs.length xs.length 0 1)/\∃c,t.g 6=.c c/\GR J' c sz N ((xs.take j).map (·.2)).flatten/\(∀i:Nat,i<J.length->J'[i]?=J[i]?)/\J.length<=J'.length/\∀i,bz c=aa i->J.length<=i) ap ce ce bv bv ⟨bv,c0,bv,by simpa using c_,S,d_,d9⟩ ?_ ?_
  .rintro j t J' s ⟨v,c,g6,g,u,hl,z⟩ K y next
   obtain⟨i1,Y⟩:=a_ J' u j s;obtain⟨h2,h3⟩:=(hx _ (IN s)).2 J' u;have q:=(hx _ (IN s)).1;have h5:=Ls j s;have h6:=Ll (j+1);have W:=tk j s;obtain⟨x,A⟩:=aH (xs[j]);rw[<-A]at Y h2 h3 h5 W q;obtain⟨c',H',M,I,hs,h_,g_⟩:=g.app (bytes:=bytes) (c9 j) q U (by rw[<-B];omega) h3;rw[<-W]at I;refine ax ?_;apply ai;simp[K,v,i1,Y,-aw];refine aF (.inl rfl) ?_;simp[g6,M];refine au (next _ _ ⟨by simp[v],c',bv,I,λi hi=>?_,ap,λi hi=>z i (by rw[<-hs];exact hi)⟩ (by simp[K]) (by simp[y]))
   grind
  .rintro t J' ⟨v,c,g6,g,u,hl,z⟩ - -;rw[agW,hN]at g;have hg:=c9 xs.length;rw[agW]at hg;apply ai;simp[g6];exact av (hQ _ _ (.c c) rfl ms ⟨c,rfl,g.lr hg,u,hl,z⟩)
end
end
section
open Go
def acN(sz bytes:Nat)(zs:List FC):aD:=.seq (yr [ym 17 0,ym 6 17]) .ret
def Zd(sz bytes:Nat)(zs:List FC):aD:=.seq (yr [ym 32 0,ym 6 32]) .ret
def Zc(sz bytes:Nat)(zs:List FC):aD:=.seq (yr [ym 27 0,ym 28 0,yn 29 (.len (R 28)),ym 30 7,yn 31 (.slice sz (R 27) (aa (R 29)) (aa (R 30)) ab),⟨ab,.clear sz zs (R 31),ab⟩]) (Zd sz bytes zs)
def Zb(sz bytes:Nat)(zs:List FC):aD:=.seq (yr [ym 20 0,ym 21 1,yn 22 (.slice sz (R 20) ab (aa (R 21)) ab),ym 23 0,ym 24 2,yn 25 (.slice sz (R 23) (aa (R 24)) ab ab),yn 26 (.append sz bytes (R 22) (R 25)),ym 0 26]) (Zc sz bytes zs)
def Za(sz bytes:Nat)(zs:List FC):aD:=.seq (yr [ym 18 0,yn 19 (.len (R 18)),ym 7 19]) (Zb sz bytes zs)
def acM(sz bytes:Nat)(zs:List FC):aD:=.seq (.seq (yr [ym 14 1,ym 15 2,yb 16 .eql 14 15]) (.cond (R 16) (acN sz bytes zs) .skip)) (Za sz bytes zs)
def acL(sz bytes:Nat)(zs:List FC):aD:=.seq (yr [ym 8 0,ym 9 1,ym 10 2,ym 11 0,yn 12 (.len (R 11)),yn 13 (.slice sz (R 8) (aa (R 9)) (aa (R 10)) (aa (R 12)))]) (acM sz bytes zs)
def acK(sz bytes:Nat)(zs:List FC):aD:=.seq (yr [yn 6 (.ju (.k (.c (.f .aN))))]) (acL sz bytes zs)
def Y_(sz bytes:Nat)(zs:List FC):aS:=⟨[P.nat 0,P.nat 1,P.nat 2],[.tmp (P.nat 6)],(acK sz bytes zs)⟩
section
variable{tab:TB}{F sz bytes:Nat}{zs:List FC}{H:an}
def Et(y:tab F=aa (Y_ sz bytes zs)){b:C}{s v3 v5:V}{j:an}(J:d<m)(K:m<=1000000)(l:bA H u=aa m)(n:cJ H sz (.c u) (aa (vi d)) (aa (vi (d+1:Nat))) (aa (vi m))=aa B)
  (A:cJ H sz (.c u) ab (aa (vi d)) ab=aa s) (q:cJ H sz (.c u) (aa (vi (d+1:Nat))) ab ab=aa v3) (c:bZ H sz bytes s v3=aa (.c b,j)) (z:bA j b=aa (m-1)) (I:cJ j sz (.c b) (aa (vi (m-1:Nat))) (aa (vi m)) ab=aa v5) (cl:nE j sz zs v5=aa h) :
  ∃r H',Ev tab (.fn F) [.c u,vi d,vi (d+1:Nat)] H r H'/\(r=.c b/\H'=h):=by
 refine dc (H:=H) (args:=[.c u,vi d,vi (d+1:Nat)]) (C:=λr H'=>r=.c b/\H'=h) y rfl λQ x=>?_;apply ai;simp;have v:((d+1:Nat):Int)=(d:Int)+1:=ii
 rw[v]at n q;apply ai;simp[l,n];apply aE;apply ai;simp[show¬ (d:Int)=(d:Int)+1 by omega];refine bG bv ?_;apply ai;simp[l];apply ai;simp[A,q,c];apply ai;simp[z,I,cl];apply ai;simp;exact av (x _ _ _ rfl (dx bv) ⟨rfl,rfl⟩)
def wI(sz:Nat)(rows:List (List C)):Prop:=∀r∈rows,r.length=sz
theorem ef{sz:Nat}:∀{rows:List (List C)},wI sz rows->rows.flatten.length=rows.length*sz
 |[],_=>by simp
 |r::g,h=>by
  have d:=ef (rows:=g) λx b=>h x (agU _ b);rw[ag6,agM,d,h r agR,ahk,Nat.succ_mul,Nat.add_comm]
theorem yT{sz:Nat}:∀{rows:List (List C)} (k:Nat),wI sz rows->rows.flatten.take (k*sz)=(rows.take k).flatten
 |[],_,_=>by simp
 |r::b,0,_=>by simp
 |r::b,k+1,h=>by
  have j:=yT (rows:=b) k λx g=>h x (agU _ g);have d:=h r agR;rw[ag6,ai6,ag6,ajx,d,Nat.succ_mul,Nat.add_sub_cancel,j,agY ap]
theorem oU{sz:Nat}:∀{rows:List (List C)} (k:Nat),wI sz rows->rows.flatten.drop (k*sz)=(rows.drop k).flatten
 |[],_,_=>by simp
 |r::b,0,_=>by simp
 |r::b,k+1,h=>by
  have j:=oU (rows:=b) k λx g=>h x (agU _ g);have d:=h r agR;rw[ag6,List.drop_succ_cons,ajm,d,Nat.succ_mul,Nat.add_sub_cancel,j,aiW ap,List.nil_append]
def Fg(A D ys:List C):over (A++D) A.length ys=A++ys++D.drop ys.length:=by
 simp
def Bb{sz:Nat}{rows:List (List C)}{rest ys:List C}(j:wI sz rows)(n:rows.length=m)(I:d<m)(F:ys.length=sz):∃b,over (over (rows.flatten++rest) (d*sz) (rows.drop (d+1)).flatten) ((m-1)*sz) ys=(rows.eraseIdx d).flatten++b/\((rows.eraseIdx d).flatten++b).length=(rows.flatten++rest).length:=by
 have g:(rows.drop (d+1)).flatten.length=(m-(d+1))*sz:=by
  rw[ef λr s=>j r (ahM s),ag5,n]
 have B:(rows.take d).flatten.length=d*sz:=by
  rw[ef λr s=>j r (ah1 s),ahl,n,aik ap]
 have l:=ef j;have z:rows.eraseIdx d=rows.take d++rows.drop (d+1):=List.eraseIdx_eq_take_drop_succ _ _;obtain⟨q,A⟩:∃q,m=d+1+q:=⟨m-d-1,ap⟩
 subst A;have u:(d+1+q-(d+1))*sz=q*sz:=by congr 1;omega
 have v:(d+1+q-1)*sz=d*sz+q*sz:=by rw[<-ahi];congr 1;omega
 have x:(d+1+q)*sz=d*sz+sz+q*sz:=by rw[ahi,ahi,ajl]
 rw[n,x]at l;rw[u]at g;have H:over (rows.flatten++rest) (d*sz) (rows.drop (d+1)).flatten=(rows.take d).flatten++(rows.drop (d+1)).flatten++(rows.flatten++rest).drop (d*sz+q*sz):=by
  simp only[over,g];rw[ahK ap,yT d j]
 have y:((rows.take d).flatten++(rows.drop (d+1)).flatten).length=d*sz+q*sz:=by rw[agM,B,g]
 refine⟨ys++((rows.flatten++rest).drop (d*sz+q*sz)).drop sz,?_,?_⟩
 .rw[H,v,z,aif];rw[<-y,Fg,F,ahm _ ys]
 .grind
def A'(m:Nat)(h:I<=m):cG d m ab (aa (vi I)) ab=aa (0,I,m):=by simp[cG,ie h]
def qe(h:I<=d):cG d m (aa (vi I)) ab ab=aa (I,d,m):=by simp[cG,ie h]
def A9(h:I<=A)(b:A<=m):cG d m (aa (vi I)) (aa (vi A)) ab=aa (I,A,m):=by simp[cG,ie h,ie b]
def yA{l:Nat}(h:A<=d)(b:d<=l)(k:l<=m):cG I m (aa (vi A)) (aa (vi d)) (aa (vi l))=aa (A,d,l):=by simp[cG,ie h,ie b,ie k]
def T3(S:tab F=aa (Y_ sz bytes zs))(J:0<sz)(K:zs.length=sz){cap j:Nat}{rows:List (List C)}{rest:List C}(z:wI sz rows)(m:H[d]?=aa (.box (rows.flatten++rest) 0))(x:(rows.flatten++rest).length=cap*sz)(B:j<rows.length)(o:cap<=1000000) :
  ∃r H',Ev tab (.fn F) [.c (.sl d 0 rows.length cap 0 sz),vi j,vi (j+1:Nat)] H r H'/\(r=.c (.sl d 0 (rows.length-1) cap 0 sz)/\∃b,H'=H.set d (.box ((rows.eraseIdx j).flatten++b) 0)/\((rows.eraseIdx j).flatten++b).length=cap*sz):=by
 obtain⟨n,u⟩:=aH (rows.length);have y:=ef z;rw[<-u]at B y ⊢;have s:n<=cap:=by
  rw[agM,y]at x;exact Nat.le_of_mul_le_mul_right (show n*sz<=cap*sz by omega) J
 have N:n*sz<=cap*sz:=ahA sz s;have i:(rows.drop (j+1)).flatten.length=(n-(j+1))*sz:=by
  rw[ef λr I=>z r (ahM I),ag5,u]
 obtain⟨b,O,a⟩:=Bb (ys:=zs.map C.f) (rest:=rest) z u.symm B (by rw[agS,K]);have W:j*sz+(n-(j+1))*sz<=n*sz:=by rw[<-ahi];exact ahA sz ap
 have Y:(n-1)*sz+sz<=n*sz:=by
  have:(n-1+1)*sz=n*sz:=by congr 1;omega
  grind
 obtain⟨g,q⟩:=aH (over (rows.flatten++rest) (j*sz) (rows.drop (j+1)).flatten);have X:g.length=cap*sz:=by
  rw[q];simp only[over,agM,ahl,ag5]
  grind
 rw[<-q]at O;have l:(H.set d (.box g 0))[d]?=aa (.box g 0):=By (aj m);have L:∃v3,cJ H sz (.c (.sl d 0 n cap 0 sz)) (aa (vi (j+1:Nat))) ab ab=aa v3/\dI H sz v3=aa (n-(j+1),(rows.drop (j+1)).flatten):=by
  simp only[cJ,m,qe (show j+1<=n by omega)];by_cases hc:cap=j+1
  .rw[ct hc];refine⟨_,rfl,?_⟩;have:rows.drop (j+1)=[]:=aiW ap;rw[this,show n-(j+1)=0 by omega];rfl
  .rw[cC hc];refine⟨_,rfl,?_⟩;have hs:bA H (.sl d (0+(j+1)*sz) (n-(j+1)) (cap-(j+1)) 0 sz)=aa (n-(j+1)):=by simp[bA,m]
   have U:(j+1)*sz+(n-(j+1))*sz=n*sz:=by rw[<-ahi];congr 1;omega
   have A:dy H sz (.sl d (0+(j+1)*sz) (n-(j+1)) (cap-(j+1)) 0 sz)=aa (rows.drop (j+1)).flatten:=by
    simp only[dy,m];have M:(rows.flatten++rest).length=rows.flatten.length+rest.length:=agM;have e:((rows.flatten++rest).drop (0+(j+1)*sz)).take ((n-(j+1))*sz)=(rows.drop (j+1)).flatten:=by
     rw[ahI,aim ap,ahK (by rw[ag5];omega),oU (j+1) z,agY ap]
    simp_all
   simp only[dI,hs,A]
 obtain⟨v3,L,v⟩:=L;have f:cJ H sz (.c (.sl d 0 n cap 0 sz)) ab (aa (vi j)) ab=aa (.c (.sl d 0 j cap 0 sz)):=by
  simp only[cJ,m,A' cap (show j<=cap by omega)]
  grind
 have c:cJ H sz (.c (.sl d 0 n cap 0 sz)) (aa (vi j)) (aa (vi (j+1:Nat))) (aa (vi n))=aa (.c (.sl d (0+j*sz) (j+1-j) (n-j) 0 sz)):=by
  simp only[cJ,m,yA (show j<=j+1 by omega) (show j+1<=n by omega) s]
  grind
 have Q:bZ H sz bytes (.c (.sl d 0 j cap 0 sz)) v3=aa (.c (.sl d 0 (n-1) cap 0 sz),H.set d (.box g 0)):=by
  simp only[bZ,v,m]
  grind
 have h:cJ (H.set d (.box g 0)) sz (.c (.sl d 0 (n-1) cap 0 sz)) (aa (vi (n-1:Nat))) (aa (vi n)) ab=aa (.c (.sl d (0+(n-1)*sz) (n-(n-1)) (cap-(n-1)) 0 sz)):=by
  simp only[cJ,l,A9 (show n-1<=n by omega) s]
  grind
 have cl:nE (H.set d (.box g 0)) sz zs (.c (.sl d (0+(n-1)*sz) (n-(n-1)) (cap-(n-1)) 0 sz))=aa (H.set d (.box ((rows.eraseIdx j).flatten++b) 0)):=by
  have hs:bA (H.set d (.box g 0)) (.sl d (0+(n-1)*sz) (n-(n-1)) (cap-(n-1)) 0 sz)=aa 1:=by simp[bA,l];omega
  simp only[nE,hs,K,if_true,l];have I:dQ 1 zs=zs:=by simp[dQ]
  rw[I];simp only[dj,l,agS,K,ahI];rw[ct ⟨aih _,ap⟩,O,List.set_set]
 obtain⟨r,H',k,rfl,rfl⟩:=Et S B ap (by simp[bA,m]) c f L Q (by simp[bA,l]) h cl
 grind
def T4(X:tab F=aa (Y_ sz bytes zs))(O:0<sz)(Q:zs.length=sz){ep j:Nat}{rows:List (List C)}{rest:List C}(z:wI sz rows)(g:H[d]?=aa (.dz sz (rows.flatten++rest) 0 ep .loc))(I:j<rows.length)(f:0<j)(U:rows.length<=1000000) :
  ∃r H',Ev tab (.fn F) [.c (.sl d 0 rows.length 0 ep sz),vi j,vi (j+1:Nat)] H r H'/\(r=.c (.sl d 0 (rows.length-1) 0 ep sz)/\∃b,H'[d]?=aa (.dz sz ((rows.eraseIdx j).flatten++b) 0 ep .loc)/\H'.length=H.length/\∀i:Nat,i≠d->H'[i]?=H[i]?):=by
 obtain⟨n,u⟩:=aH (rows.length);have B:=ef z;rw[<-u]at I B U ⊢;have hd:(rows.drop (j+1)).flatten.length=(n-(j+1))*sz:=by
  rw[ef λr N=>z r (ahM N),ag5,u]
 obtain⟨b,p,t⟩:=Bb (ys:=zs.map C.f) (rest:=rest) z u.symm I (by rw[agS,Q]);have h:j*sz+(n-(j+1))*sz<=n*sz:=by rw[<-ahi];exact ahA sz ap
 have o:(n-1)*sz+sz<=n*sz:=by
  have:(n-1+1)*sz=n*sz:=by congr 1;omega
  grind
 have k:j*sz+sz<=n*sz:=by rw[<-Nat.succ_mul];exact ahA sz ap
 obtain⟨q,s⟩:=aH (over (rows.flatten++rest) (j*sz) (rows.drop (j+1)).flatten);have y:(rows.flatten++rest).length=rows.flatten.length+rest.length:=agM;have K:q.length=(rows.flatten++rest).length:=by
  rw[s];simp only[over,agM,ahl,ag5];omega
 rw[<-s]at p;have S:∃v3 m,cJ H sz (.c (.sl d 0 n 0 ep sz)) (aa (vi (j+1:Nat))) ab ab=aa v3/\bZ H sz bytes (.c (.sl d 0 j 0 ep sz)) v3=aa (.c (.sl d 0 (n-1) 0 ep sz),m)/\m[d]?=aa (.dz sz q 0 ep .loc)/\m.length=H.length/\∀i:Nat,i≠d->m[i]?=H[i]?:=by
  by_cases hc:j+1=n
  .refine⟨.c (.f (.fs [] 0)),H,?_,?_,?_,rfl,λ_ _=>rfl⟩
   .simp only[cJ,g,and_self,if_true,qe (show j+1<=n by omega)]
    grind
   .have Y:dI H sz (.c (.f (.fs [] 0)))=aa (0,[]):=by simp[dI,bA,dy]
    simp only[bZ,Y,g,and_self,if_true]
    grind
   .simp_all
  .have hs:bA H (.sl d (0+(j+1)*sz) (n-(j+1)) 0 ep sz)=aa (n-(j+1)):=by simp[bA,g]
   have c:(j+1)*sz+(n-(j+1))*sz=n*sz:=by rw[<-ahi];congr 1;omega
   have A:dy H sz (.sl d (0+(j+1)*sz) (n-(j+1)) 0 ep sz)=aa (rows.drop (j+1)).flatten:=by
    have e:((rows.flatten++rest).drop (0+(j+1)*sz)).take ((n-(j+1))*sz)=(rows.drop (j+1)).flatten:=by
     rw[ahI,aim ap,ahK (by rw[ag5];omega),oU (j+1) z,agY ap]
    simp only[dy,g,e];simp_all
   have v:dI H sz (.c (.sl d (0+(j+1)*sz) (n-(j+1)) 0 ep sz))=aa (n-(j+1),(rows.drop (j+1)).flatten):=by simp only[dI,hs,A]
   refine⟨.c (.sl d (0+(j+1)*sz) (n-(j+1)) 0 ep sz),H.set d (.dz sz q 0 ep .loc),?_,?_,By (aj g),bv,λi hi=>by rw[sh (Ne.symm hi)]⟩
   .simp only[cJ,g,and_self,if_true,qe (show j+1<=n by omega)];simp_all
   .simp only[bZ,v,g,and_self,if_true]
    grind
 obtain⟨v3,m,S,W,l,L,J⟩:=S;have s2:cJ H sz (.c (.sl d 0 n 0 ep sz)) ab (aa (vi j)) ab=aa (.c (.sl d 0 j 0 ep sz)):=by
  simp only[cJ,g,and_self,if_true,A' n (show j<=n by omega)];simp
 have w:cJ H sz (.c (.sl d 0 n 0 ep sz)) (aa (vi j)) (aa (vi (j+1:Nat))) (aa (vi n))=aa (.c (.sl d 0 0 0 ep (sz+1))):=by
  simp only[cJ,g,and_self,if_true,yA (show j<=j+1 by omega) (show j+1<=n by omega) (agQ n)]
  grind
 have s5:cJ m sz (.c (.sl d 0 (n-1) 0 ep sz)) (aa (vi (n-1:Nat))) (aa (vi n)) ab=aa (.c (.sl d (0+(n-1)*sz) (n-(n-1)) 0 ep sz)):=by
  have M:cG (n-1) (n-1) (aa (vi (n-1:Nat))) (aa (vi n)) ab=ab:=by
   have:Gd (vi (n:Nat)) (n-1)=ab:=by simp[Gd,fE];omega
   simp[cG,this]
  have x:n<=(q.length-0) / sz:=by rw[Nat.le_div_iff_mul_le O,Nat.sub_zero,K,y];omega
  simp only[cJ,l,and_self,if_true,M,A9 (show n-1<=n by omega) x]
  grind
 have cl:nE m sz zs (.c (.sl d (0+(n-1)*sz) (n-(n-1)) 0 ep sz))=aa (m.set d (.dz sz ((rows.eraseIdx j).flatten++b) 0 ep .loc)):=by
  have hs:bA m (.sl d (0+(n-1)*sz) (n-(n-1)) 0 ep sz)=aa 1:=by simp[bA,l];omega
  have N:dQ 1 zs=zs:=by simp[dQ]
  simp only[nE,hs,Q,if_true,l,and_self,N];simp only[bF,l,aih,true_and,agS,Q,ahI]
  grind
 obtain⟨r,H',a,rfl,rfl⟩:=Et X I U (by simp[bA,g]) w s2 S W (by simp[bA,l]) s5 cl;exact⟨_,_,a,rfl,b,By (by have:=aj g;omega),by simp[L],λi hi=>by rw[sh (Ne.symm hi),J i hi]⟩
end
end
section
open Go
section
variable(Q:Program)(pr:Nat)(hs:List Nat)
def Ut(f:Nat):Nat:=if f=pr then v8 else f
def JQ(f:Nat):FuncId:=if f=v8 then pr else f
def kV1:Value->Option FC
 | .bool b=>aa (.bool b)| .int k n=>aa (.int k n)| .string s=>aa (.str s)| .pointer ab=>aa .zo| .slice ab 0 0=>aa .aN| .map ab=>aa .Ap| .nilFunc=>aa .xC| .nilIface=>aa .sW| _=>ab
def kV:Value->Option V
 | .agg cs=>(bC kV1 cs.toList).map λxs=>.a (xs.map .f)
 | .tuple cs=>if cs.isEmpty then aa .top else ab| v=>(kV1 v).map λx=>.c (.f x)
def kA:Operand->Option Arg
 | .tmp t=>aa (.r (.nat t))| .const v=>(kV v).map .k| .func f=>aa (.k (.c (.f (.fn (Ut pr f) []))))| _=>ab
def kO:Option Operand->Option (Option Arg)
 |none=>aa ab| some x=>(kA pr x).map aa
def HI(t:TypeId):Option Nat:=(Q.info? t).map (·.size)
def kBy(t:TypeId):Option Nat:=(Q.info? t).map (·.bytes)
def kZ(t:TypeId):Option (List FC):=do bC kV1 (<-(<-Q.info? t).zero).cells.toList
def kAg(t:TypeId):Option (Option Nat):=match Q.underlying t with
 |some (.struct _)|some (.array _ _)=>(HI Q t).map aa| some _=>aa ab| none=>ab
def kCK(t:TypeId):Option CK:=match Q.underlying t with
 |some (.int _)=>aa .int| some .string=>aa .str| some .bool=>aa .bool| _=>ab
def kEq(t:TypeId):Option NU:=match Q.underlying t with
 |some .bool=>aa .bool| some (.pointer _)=>aa .ptr| some (.slice _)=>aa .sl| some (.func _ _ _)=>aa .fn| some (.interface _)=>aa .ifc| some (.struct _)=>(kz Q 20 t).map .st| _=>ab
def ac3(c:Call):Option et:=
 let A:=kA pr
 let u:=Q.underlying (c.argTypes.getD 0 0)
 let x:=A (c.args.getD 0 default)
 match c.callee with
 | .builtin .len=>match u with
  |some (.slice _)=>do pure (.len (<-x))
  |some .string=>do pure (.lens (<-x))
  |some (.array n _)=>aa (.rR n)| _=>ab
 | .builtin .append=>match u,Q.underlying (c.argTypes.getD 1 0)with
  |some (.slice e),aa (.int _)=>do pure (.sJ (<-HI Q e) (<-kBy Q e) (<-kZ Q e) (<-x) (<-A (c.args.getD 1 default)))
  |some (.slice e),_=>do pure (.append (<-HI Q e) (<-kBy Q e) (<-x) (<-A (c.args.getD 1 default)))
  |_,_=>ab
 | .builtin .max=>do pure (.uH ag (<-bC A c.args.toList))
 | .builtin .min=>do pure (.uH ae (<-bC A c.args.toList))
 | .builtin .cap=>do pure (.cap (<-x))
 | .builtin .clear=>match u with
  |some (.slice e)=>do pure (.clear (<-HI Q e) (<-kZ Q e) (<-x))
  |_=>ab
 | .builtin .recover=>aa .recover| .value (.func f)=>do pure (.call (Ut pr f) (<-bC A c.args.toList) (hs.contains f))
 | .value y=>do pure (.jr (<-A y) (<-bC A c.args.toList) ae)
 |_=>ab
def kOp(o:Op):Option et:=
 let A:=kA pr
 let U:=Q.underlying
 let ps (l:Array (Nat × Operand)):=bC (λp:Nat × Operand=>(A p.2).map λx=>(p.1,x)) l.toList
 match o with
 | .move x| .assign x=>do pure (.ju (<-A x))
 | .pick c a b=>do pure (.pick (<-A c) (<-A a) (<-A b))
 | .alloc t=>do pure (.alloc (<-kZ Q t))
 | .box _ x=>do pure (.box (<-A x))
 | .build t l=>match U t with
  |some (.struct j)=>do pure (.build (<-kZ Q t) (<-bC (λp:Nat × Operand=>do
    let f <-j[p.1]?
    pure (f.offset,<-HI Q f.type,<-A p.2)) l.toList))
  |some (.array _ e)=>do
    let s <-HI Q e
    pure (.build (<-kZ Q t) (<-bC (λp:Nat × Operand=>do pure (p.1*s,s,<-A p.2)) l.toList))
  |_=>ab
 | .buildSlice t n l=>match U t with
  |some (.slice e)=>do pure (.iR (<-HI Q e) (<-kZ Q e) n (<-ps l))
  |_=>ab
 | .load t x=>do pure (.load (<-kAg Q t) (<-A x))
 | .store t x y=>do pure (.store (<-HI Q t) (<-A x) (<-A y))
 | .nilCheck x=>do pure (.nI (<-A x))
 | .binOp op t x y _=>do
  let a <-A x
  let b <-A y
  pure (match if op=.eql\/op=.neq then kEq Q t else ab with
  |some k=>.eq (op=.neq) k a b
  |none=>.bin op a b)
 | .unOp op _ x=>do pure (.un op (<-A x))
 | .convert s d x=>match U s,U d with
  |some (.int _),aa (.int k)=>do pure (.QO k (<-A x))
  |some .string,aa .string=>do pure (.Hc (<-A x))
  |some (.slice _),aa .string=>do pure (.Es (<-A x))
  |_,_=>ab
 | .makeFunc (.func f) fst g=>if fst.isEmpty then do pure (.Ao (Ut pr f) (<-bC A g.toList))else do pure (.An (Ut pr f) (<-bC A fst.toList))
 | .makeMap _ ab=>aa .pK
 | .makeSlice t l c=>match U t with
  |some (.slice e)=>do pure (.fu (<-HI Q e) (<-kBy Q e) (<-kZ Q e) (<-A l) (<-A c))
  |_=>ab
 | .slice t x lo hi mx=>match U t with
  |some (.slice e)=>match lo,hi,mx with
   |none,aa hi,aa mx=>do pure (.zL (<-HI Q e) (<-A x) (<-A hi) (<-A mx))
   |_,_,_=>do pure (.slice (<-HI Q e) (<-A x) (<-kO pr lo) (<-kO pr hi) (<-kO pr mx))
  |some .string=>do pure (.xr (<-A x) (<-kO pr lo) (<-kO pr hi))
  |some (.array n e)=>do pure (.vj n (<-HI Q e) (<-A x) (<-kO pr lo) (<-kO pr hi) (<-kO pr mx))
  |_=>ab
 | .fieldAddr t x i=>match U t with
  |some (.struct j)=>do pure (.mM (<-j[i]?).offset (<-A x))
  |_=>ab
 | .field t x i=>match U t with
  |some (.struct j)=>do
   let f <-j[i]?
   pure (.field f.offset (<-kAg Q f.type) (<-A x))
  |_=>ab
 | .indexAddr t x i=>match U t with
  |some (.slice e)=>do pure (.hZ (<-HI Q e) ab (<-A x) (<-A i))
  |some (.array n e)=>do pure (.hZ (<-HI Q e) (aa n) (<-A x) (<-A i))
  |_=>ab
 | .index t x i=>match U t with
  |some .string=>do pure (.idxs (<-A x) (<-A i))
  |some (.array n e)=>do pure (.EJ n (<-HI Q e) (<-kAg Q e) (<-A x) (<-A i))
  |_=>ab
 | .lookup t m k ok=>match U t with
  |some (.map kt e)=>do
   let zs <-kZ Q e
   let z <-match <-kAg Q e,zs with
    |some _,_=>aa (FC.fn Ae zs)| none,[z]=>aa z| _,_=>ab
   pure (.lookup (<-kCK Q kt) (if ok then .fp [z] 77 else z) (<-A m) (<-A k))
  |_=>ab
 | .mapUpdate t m k v=>match U t with
  |some (.map kt _)=>do pure (.qD (<-kCK Q kt) (<-A m) (<-A k) (<-A v))
  |_=>ab
 | .range t x=>match U t with
  |some .string=>do pure (.range (<-A x))
  |some (.map _ _)=>do pure (.mU (<-A x))
  |_=>ab
 | .next x s=>(A x).map (if s then .next else .qI)| .extract x i=>do pure (.extract (<-A x) i)
 | .entry x=>do pure (.entry (<-A x))
 | .call c=>ac3 Q pr hs c
 | .defer c=>match c.callee with
  | .value x=>do pure (.defer (<-A x) (<-bC A c.args.toList))
  |_=>ab
 |_=>ab
def afw(ops:Array Oper):List bh:=ops.toList.map λo=>
 ⟨o.dst.map .nat,(kOp Q pr hs o.op).getD .bad,match o.guard with
  |some (j,w)=>((ops[j]?).bind (·.dst)).map λd=>(.nat d,w)
  |none=>ab⟩
def ac4(ops:Array Oper)(aos:List bh)(b:Bool):List (Nat × Nat):=
 if !b then []else
 let d:=eT ops.toList []
 (List.range aos.length).flatMap λi=>match aos[i]? with
  |some x=>if cls x.op=.r then((pB aos++[aos.length]).filter λe=>!(e == phase aos i||!EZ d aos i e)).map λe=>(i,e)else []
  |none=>[]
def Uu(n i:Nat)(ops:Array Oper)(b:Bool)(aos:List bh)(d:aD):aD:=
 let c:=.region aos (ac4 ops aos b)
 if cP Q (JQ pr) n (.region i ops b) c then c else d
def kC(n:Nat):Code->aD
 | .skip=>.skip
 | .region i ops d=>let aos:=afw Q pr hs ops
  Uu Q pr n i ops d aos (Uu Q pr n i ops d (aos.map λa=>match a.op with| .iR s z n ps=>{ a with op:=.lS s z n ps } | _=>a) .bad)
 | .seq a b=>.seq (kC n a) (kC n b)
 | .cond c a b=>match kA pr c with
  |some c'=>if mA (JQ pr) c' c then .cond c' (kC n a) (kC n b)else .bad| none=>.bad
 | .block i a=>.block i (kC n a)| .loop a=>.loop (kC n a)
 | .rangeFunc f ps a b=>match kA pr f with
  |some j=>let g:=ps.toList.map .nat
   if mA (JQ pr) j f&&iD (λp (q:P)=>q.toNat == p&&decide (p<n)) ps.toList g then .nL j g (kC n a) (kC n b)else .bad
  |none=>.bad
 | .exit i=>.exit i| .ret=>.ret
 | .scope a=>let a':=kC n a
  if nA a' then .scope a' else .bad
 | .label l=>.label l| .goto l=>.goto l| .refuse _=>.bad
def kF(f:Func):Option aS:=f.body.bind λb=>
 let rs:=f.results.toList.map fun| .tmp t=>jZ.tmp (.nat t)| .cell a t=>.cell (.nat a) ((kAg Q t).getD ab)
 if f.name != "runtime.NumGoroutine"&&iD (Am Q f.ntmps) f.results.toList rs then aa ⟨(List.range (f.params.size+f.nfree)).map .nat,rs,kC Q pr hs f.ntmps b⟩else ab
def kT(f:Nat):Option aS:=if f=v8 then ab else(Q.funcs[f]?).bind (kF Q pr hs)
def JR{ops:Array Oper}{aos:List bh}(h:cP Q (JQ pr) m (.region I ops M) p=ae):cP Q (JQ pr) m (.region I ops M) (Uu Q pr m I ops M aos p)=ae:=by
 unfold Uu;dsimp only;split<;>assumption
def Qv{c:Code}:cP Q (JQ pr) d c .bad=ae:=by cases c<;>rfl
theorem uA(n:Nat):∀c:Code,cP Q (JQ pr) n c (kC Q pr hs n c)=ae
 | .skip| .exit _| .ret| .label _| .goto _=>by simp[kC,cP]
 | .refuse _=>Qv Q pr| .region i ops d=>JR Q pr (JR Q pr (Qv Q pr))| .seq a b=>by simp[kC,cP,uA n a,uA n b]
 | .cond c a b=>by
  unfold kC;split
  .split
   .simp[cP,uA n a,uA n b, *]
   .rfl
  .rfl
 | .block i a| .loop a=>by simp[kC,cP,uA n a]
 | .rangeFunc f ps a b=>by
  unfold kC;split
  .dsimp only;split
   .rename_i h;simp only[IS]at h;simp only[cP,uA n a,uA n b,h.1,h.2,Bool.and_self]
   .rfl
  .rfl
 | .scope a=>by
  unfold kC;dsimp only;split
  .simp[cP,uA n a, *]
  .rfl
def ac5{f:Func}{a:aS}(h:kF Q pr hs f=aa a):BA Q (JQ pr) f a=ae:=by
 unfold kF at h;rw[ahh]at h;obtain⟨b,d,h⟩:=h;dsimp only at h;split at h
 .rename_i hc;cases h;simp only[IS]at hc;simp only[BA,d,uA,hc.1,hc.2,Bool.and_self,Bool.true_and,decide_eq_true_eq,air,agS,List.length_range];refine(List.map_congr_left λn _=>wj n).trans (List.map_id _)
 .cases h
def VO{a:aS}(h:kT Q pr hs m=aa a):∃fn,Q.funcs[JQ pr m]?=aa fn/\BA Q (JQ pr) fn a=ae:=by
 unfold kT at h;split at h
 .cases h
 .rename_i g;rw[ahh]at h;obtain⟨fn,b,d⟩:=h;exact⟨fn,by rw[JQ,cC g];exact b,ac5 Q pr hs d⟩
inductive LT where
 |e
 |n (l:LT) (k:Nat) (a:aS) (r:LT)
def LT.get:LT->Nat->Option aS
 | .e,_=>ab| .n l k a r,f=>bif Nat.beq f k then aa a else bif Nat.ble f k then l.get f else r.get f
inductive LT.Vl:LT->Prop
 |e:LT.Vl .e
 |n {l:LT} {k:Nat} {a:aS} {r:LT} (hl:LT.Vl l) (h:kT Q pr hs k=aa a) (hr:LT.Vl r):LT.Vl (.n l k a r)
theorem LT.Vl.get:∀{t:LT} {f:Nat} {a:aS},LT.Vl Q pr hs t->t.get f=aa a->kT Q pr hs f=aa a
 | .e,_,_,_,h=>by cases h
 | .n l k b r,f,a,.n hl m j,h=>by
  unfold LT.get at h;cases g:Nat.beq f k with
  |true=>
   simp_all
  |false=>
   rw[g]at h;cases d:Nat.ble f k with
   |true=>rw[d]at h;exact hl.get h| false=>rw[d]at h;exact j.get h
end
def LT.fn(t:LT)(Q:Program)(pr:Nat)(hs:List Nat)(f:Nat):Option aS:=match t.get f with
 |some a=>aa a| none=>kT Q pr hs f
def LT.tb(t:LT)(Q:Program)(pr:Nat)(hs:List Nat):TB where
 get:=t.fn Q pr hs
 Gh:=λf args H=>match t.fn Q pr hs f with
  |some _=>ab| none=>Km.Gh f args H
 ok:=λf a h args H=>by simp[h]
def LT.env{t:LT}{Q:Program}{hs:List Nat}(h:LT.Vl Q m hs t)(d:Q.follows .mixedOrders=ae)(g:G0 Q (JQ m) Km.Gh):Env Q (JQ m) (t.tb Q m hs).get (t.tb Q m hs).Gh:=by
 refine⟨d,λf a b=>?_,λf args H r H' b=>?_⟩
 .have b:t.fn Q m hs f=aa a:=b;unfold LT.fn at b;split at b
  .rename_i e;cases b;exact VO _ _ _ (h.get _ _ _ e)
  .exact VO _ _ _ b
 .have b:(match t.fn Q m hs f with
  |some _=>ab
  |none=>Km.Gh f args H)=aa (aa (r,H')):=b
  split at b
  .cases b
  .exact g f args H r H' b
end
section
open Go
def ZI:∀(k n:Nat),n<=k->P.nf (k+1) (2*n+1)=.o (P.nf k n):=λk n h=>by
 rw[P.nf,cC ap,ct ap,show(2*n+1-1) / 2=n by omega]
def ZH:∀(k n:Nat),n<=k->P.nf (k+1) (2*n+2)=.i (P.nf k n):=λk n h=>by
 rw[P.nf,cC ap,cC ap,show(2*n+2-2) / 2=n by omega]
theorem wi:∀(k n:Nat),n<=k->P.nf (k+1) n=P.nf k n
 |0,n,h=>by
  obtain rfl:n=0:=by omega
  rfl
 |k+1,n,h=>by
  show(if n=0 then P.h else if n % 2=1 then .o (P.nf (k+1) ((n-1) / 2))else .i (P.nf (k+1) ((n-2) / 2)))=(if n=0 then P.h else if n % 2=1 then .o (P.nf k ((n-1) / 2))else .i (P.nf k ((n-2) / 2)));rw[wi k ((n-1) / 2) ap,wi k ((n-2) / 2) ap]
theorem zl:∀(j k n:Nat),n<=k->P.nf (k+j) n=P.nf k n
 |0,_,_,_=>rfl| j+1,k,n,h=>by rw[<-Nat.add_assoc,wi _ _ ap,zl j k n h]
def Po(n:Nat):P.o (P.nat n)=P.nat (2*n+1):=by
 unfold P.nat;rw[show P.nf (2*n+1) (2*n+1)=P.nf (2*n+1) (2*n+1) from rfl,ZI (2*n) n ap,show 2*n=n+n by omega,zl n n n (agQ _)]
def Pi(n:Nat):P.i (P.nat n)=P.nat (2*n+2):=by
 unfold P.nat;rw[ZH (2*n+1) n ap,show 2*n+1=n+(n+1) by omega,zl (n+1) n n (agQ _)]
def Ph:P.h=P.nat 0:=rfl
def Rr(n:Nat):Arg.r (P.nat n)=R n:=rfl
def Dd(n:Nat):aa (P.nat n)=D n:=rfl
def Gg(n:Nat)(b:Bool):aa (P.nat n,b)=G9 n b:=rfl
def bJ(B:aD):List Nat->aD
 |[]=>B
 |i::p=>match bJ B p with
  | .seq a b=>if i=0 then a else b| .cond _ a b=>if i=0 then a else b| .block _ a=>a| .loop a=>a| .scope a=>a| .nL _ _ a b=>if i=0 then a else b| c=>c
section
variable(Q:Program)(pr:Nat)(hs:List Nat)
def kPl:Nat->TypeId->List CK
 |0,_=>[]
 |d+1,t=>match Q.underlying t with
  |some .bool=>[.bool]| some (.int _)=>[.int]| some .string=>[.str]| some (.struct b)=>b.toList.foldr (λf r=>kPl d f.type++r) []
  |_=>[]
def afx(o:Op):Option et:=match o with
 | .binOp op t x y _=>match Q.underlying t with
  |some (.struct _)=>(kA pr x).bind λa=>(kA pr y).map λb=>.eq (op=.neq) (.st (kPl Q 5 t)) a b
  |_=>kOp Q pr hs o
 |_=>kOp Q pr hs o
def kRU(ops:Array Oper):List bh:=ops.toList.map λo=>
 ⟨o.dst.map .nat,(afx Q pr hs o.op).getD .bad,match o.guard with
  |some (j,w)=>((ops[j]?).bind (·.dst)).map λd=>(.nat d,w)
  |none=>ab⟩
def kU:Code->aD
 | .skip=>.skip| .region _ ops d=>.region (kRU Q pr hs ops) (ac4 ops (kRU Q pr hs ops) d)| .seq a b=>.seq (kU a) (kU b)| .cond c a b=>.cond ((kA pr c).getD default) (kU a) (kU b)| .block i a=>.block i (kU a)| .loop a=>.loop (kU a)| .rangeFunc f ps a b=>.nL ((kA pr f).getD default) (ps.toList.map .nat) (kU a) (kU b)| .exit i=>.exit i| .ret=>.ret| .scope a=>.scope (kU a)| .label l=>.label l| .goto l=>.goto l| .refuse _=>.bad
def kUF(f:Nat):Option aS:=(Q.funcs[f]?).bind λf=>f.body.bind λb=>aa ⟨(List.range (f.params.size+f.nfree)).map .nat,f.results.toList.map fun| .tmp t=>jZ.tmp (.nat t)| .cell a t=>.cell (.nat a) ((kAg Q t).getD ab),kU Q pr hs b⟩
end
end
section
open Go
section
variable{tab:TB}{f:Nat}{args:List V}{fn:Nat}{k:List dS}{t:T}{ds:List gY}{H:an}{Q:Option aD->St->Prop}{K:V->St->Prop}
def VP{ps:List P}{b:List jZ}(x:tab f=aa ⟨ps,b,p⟩)(v:args.length=ps.length)
  (h:WP tab f ab [.code p] ⟨dw ps args .e,[],H⟩ (λ_ s=>s.defs=[]/\∃r,results s.aT s.heap b=aa r/\K r ⟨t,ds,s.heap⟩)):KE (Ev tab (.fn f) args H) t ds K:=by
 obtain⟨n,m,d,j,s,g,u,r,l,q⟩:=h;exact⟨r,s.heap,se x v ⟨n,m,d,j,s,g,0,0,s.heap,by rw[u];rfl,l,rfl⟩,q⟩
def Rq{ps:List P}{bd:aD}{st:dB}{O:Option aD}(L:H[m]?=aa (.lp A J ps p bd st O d))(N:args.length=ps.length)
  (h:WP tab A (aa m) [.code p,.rP,.code bd] ⟨dw ps args J,[],H⟩ (λj s=>s.defs=[]/\∃z u q g l x v y,s.heap[m]?=aa (.lp z u q g l x v y)/\K (.c (.f (.bool j.isNone))) ⟨t,ds,s.heap.set m (.lp z u q g l (if j.isNone then .ready else .done) j y)⟩)) :
  KE (Ev tab (.yield m) args H) t ds K:=by
 obtain⟨n,b,d',j,s,F,M,z,u,q,g,l,x,v,y,I,B⟩:=h;exact⟨_,_,Ey L N ⟨n,b,d',j,s,F,M,z,u,q,g,l,x,v,y,I,rfl,rfl⟩,B⟩
def EN{x:Arg}{ps:List P}{bd:aD}{q:List V}{b:List P}{l:List jZ}{body:aD}(A:cr (x.ev t) [.c (.yl (H.length+1))]=aa (.fn I,q))(F:tab I=aa ⟨b,l,body⟩)(B:q.length=b.length)
  (h:WP tab I ab [.code body] ⟨dw b q .e,[],H++[.dH ae,.lp fn t ps p bd .ready ab H.length]⟩ (λ_ s=>s.defs=[]/\∃r,results s.aT s.heap l=aa r/\WP tab fn ab (.mL (H.length+1)::k) ⟨t,.dR H.length::ds,s.heap⟩ Q)) :
  WP tab fn ab (.code (.nL x ps p bd)::k) ⟨t,ds,H⟩ Q:=by
 obtain⟨n,m,d,j,s,u,z,r,v,y⟩:=h;exact dC A (se F B ⟨n,m,d,j,s,u,0,0,s.heap,by rw[z];rfl,v,rfl⟩) y
end
end
end Km
