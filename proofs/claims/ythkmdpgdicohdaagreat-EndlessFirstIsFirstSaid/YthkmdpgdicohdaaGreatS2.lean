/-
  ad5 the nA kH and the mP answer, for all arguments of their kind, in the small machine: part 2.
-/
import Derived.Test.YthkmdpgdicohdaaGreatS1
import Derived.Test.YthkmdpgdicohdaaGreatK3
import Derived.Test.YthkmdpgdicohdaaGreatK4
import Derived.KernelRfl
open Option renaming some → aa,none → ab
open Bool renaming true → ae,false → ag
open Int renaming toNat_natCast → alJ, mul_le_mul → amE, mul_comm → ami, le_refl → amM, tmod_eq_emod_of_nonneg → amH, lt_or_le → amz, emod_eq_of_lt → amx, ediv_nonneg → amr, emod_add_mul_ediv → al8, dvd_refl → amL, ediv_le_self → amC, mul_le_mul_of_nonneg_left → alF, mul_neg → ans, mul_one → anB, emod_nonneg → amc, emod_lt_of_pos → al9, le_of_dvd → amn, emod_emod_of_dvd → amA, gcd → amf, gcd_pos_of_ne_zero_left → amt, mul_nonneg → ams, le_trans → amy, eq_ofNat_of_zero_le → amO, natAbs_dvd_natAbs → anC, dvd_of_emod_eq_zero → amF
open List renaming getElem?_set_ne → sh, getElem?_append_left → AT, mem_cons_self → alr, mem_cons_of_mem → alu, mem_cons → alW, map_cons → alo, drop_zero → amd, pairwise_append → ama, pairwise_singleton → al1, getElem?_set_self → BY, append_assoc → alU, mem_append → aln, all_eq_true → alA, length_map → alq, mem_map → alC, length_pos_iff → al0, length_cons → al2, getElem_mem → IT, map_nil → alH, mem_of_mem_take → amj, mem_of_mem_drop → alY, length_drop → alD, length_take → alV, mem_singleton → alm, pairwise_cons → amY, length_nil → amR, map_take → am6, map_drop → anf, pairwise_iff_getElem → alR, mem_take_iff_getElem → al6, getElem_of_mem → alB, length_eq_zero_iff → ame, take_add_one → aly, getElem?_eq_getElem → By, take_length → alw, getElem?_append_right → alp, getElem_drop → amQ, length_set → alI, length_filter_le → am4, filter_append → anI
open Bool renaming and_eq_true → If, true_and → amm
open Nat renaming add_mul → alM, lt_or_ge → alO, eq_zero_or_pos → amG, mul_comm → anl, le_refl → alk, mul_one → am0, gcd → amW, le_trans → alL
open List.Pairwise renaming imp → anK
open Option renaming map_some → alZ
set_option linter.unusedVariables false
set_option linter.constructorNameAsVariable false
set_option linter.unusedSimpArgs false
set_option linter.unusedSectionVars false
set_option linter.unnecessarySimpa false
set_option maxRecDepth 100000
namespace Go.Proofs.YthkmdpgdicohdaaGreat
open Go Km
theorem Vt(a:Int)(j:Nat):bP .shr (vi a) (vi j)=aa (vi (a.fdiv (2 ^ (min j 64)))):=by
 have:¬ ((j:Int)<0):=by omega
 simp only [bP,this,if_false];rw [alJ];rfl
theorem C0(a:Int)(j:Nat):bP .rem (vi (a.fdiv (2 ^ (min j 64)))) (vi 2)=aa (vi ((a.fdiv (2 ^ (min j 64))).tmod 2)):=by
 simp [bP,lz,V.int]
def aI.ew(p:aI):Prop:=cF p=ae∧p.fr≤8∧p.aM≤12
theorem ud(g:Tg){b:List Nat}(s:∀ n ∈ b,n<256)(m:b.length≤9223372036854775807) :
  ∃ p:aI,p.ew∧bX tab 59 [.c (.f (sl g (dK b)))]=Eq (.a (p.row.map .f)):=by
 obtain⟨rr,⟨p,hp,rfl⟩,O⟩:∃ rr,(∃ p:aI,p.ew∧rr=.a (p.row.map .f))∧bX tab 59 [.c (.f (sl g (dK b)))] rr:=by
  refine eQ rfl rfl fun Q r=>?_;have U:bX tab 60 [.c (.f (sl g (dK b))),vi 0]=Eq (vi (tR b 0:Nat)):=uY g b s m 0 (by decide);have a1:bX tab 60 [.c (.f (sl g (dK b))),vi 1]=Eq (vi (tR b 1:Nat)):=uY g b s m 1 (by decide);have W:bX tab 60 [.c (.f (sl g (dK b))),vi 2]=Eq (vi (tR b 2:Nat)):=uY g b s m 2 (by decide);have X:bX tab 60 [.c (.f (sl g (dK b))),vi 3]=Eq (vi (tR b 3:Nat)):=uY g b s m 3 (by decide);have Y:bX tab 60 [.c (.f (sl g (dK b))),vi 4]=Eq (vi (tR b 4:Nat)):=uY g b s m 4 (by decide);have b0:=wv s 0;have b1:=wv s 1;have b2:=wv s 2;have b3:=wv s 3;obtain⟨fr,H⟩:=aN (tR b 1 % 9:Nat);obtain⟨aM,E⟩:=aN (1+tR b 0 % 12:Nat);have r1:bP .rem (vi (tR b 1:Nat)) (vi 9)=aa (vi fr):=by rw [eR (by omega) (by decide),H];simp
  have r0:bP .rem (vi (tR b 0:Nat)) (vi 12)=aa (vi (tR b 0 % 12:Nat)):=by rw [eR (by omega) (by decide)];simp
  have w0:IntKind.i64.wrap (1+(tR b 0:Int) % 12)=aM:=by rw [aO,E];simp
  have w3:=aO (n:=256*(tR b 3:Int));obtain⟨bits,z⟩:=aN (IntKind.i64.wrap ((tR b 2:Int)+256*(tR b 3:Int)));apply ai;simp;apply ai;simp [U,a1,r0,r1,w0];apply ai;simp [W,X,w3,←z];refine au (ai ?_);simp;refine iG aM (fun j t J=>∃ u cc,Up u j∧FI (.c (.f (sl g (dK b)))) fr aM [] u (.f .aA) cc t J∧t.g 4=vi bits) (by omega) (by decide) (by simp)
   ⟨[],.f .aA,Up.nil,⟨rfl,rfl,LR.nil _ _,LR.nil _ _,(fun i h=>by cases h),by simp,by simp,by simp⟩,by simp⟩ ?_ ?_ ?_
  ·rintro j t J L I ⟨u,cc,v,k,q⟩ d N;simp [d,k.g3,k.pb,aY];exact N _ ⟨u,cc,v,k.to (by simp [k.g0]) (by simp [k.g2]) (by simp [k.g3]),by simp [q]⟩ (by simp [d]) (by simp)
  ·rintro j t J I ⟨u,cc,v,k,q⟩ d nx;refine az (ai ?_);simp [d,q,Vt,C0];by_cases B:(bits.fdiv (2 ^ (min j 64))).tmod 2=1
   ·simp [B];refine av (by simp) (aq (.inl rfl) ?_);obtain⟨Z,S,l,A,K⟩:=k.Z6 (by have:=v.2.2;omega) j;simp [d,k.g3,k.pb,aY,l,A,-bw];refine ax (nx _ _ ⟨_,_,v.app,K _ (by simp [k.g0]) (by simp [k.g2]) (by simp [k.g3]),by simp [q]⟩ (by simp [d]))
   ·simp [B];refine aW (by simp) ?_;refine ax (nx _ _ ⟨_,_,v.skip,k.to (by simp [k.g0]) (by simp [k.g2]) (by simp [k.g3]),by simp [q]⟩ (by simp [d]))
  rintro t J ⟨u,cc,v,k,q⟩ d;refine au (ai ?_);simp;refine iG fr (fun j t J=>∃ hd ch,Up hd j∧FI (.c (.f (sl g (dK b)))) fr aM hd u ch cc t J) (by omega) (by decide) (by simp)
   ⟨[],.f .aA,Up.nil,k.to (by simp [k.g0]) (by simp [k.g2]) (by simp [k.g3])⟩ ?_ ?_ ?_
  ·clear k q d;rintro j t J L I ⟨hd,ch,x,k⟩ d N;simp [d,k.g3,k.pb,aY];exact N _ ⟨hd,ch,x,k.to (by simp [k.g0]) (by simp [k.g2]) (by simp [k.g3])⟩ (by simp [d]) (by simp)
  ·clear k q d;rintro j t J I ⟨hd,ch,x,k⟩ d nx;refine az (ai ?_);simp [d,k.g0,Y,Vt,C0];by_cases B:((tR b 4:Int).fdiv (2 ^ (min j 64))).tmod 2=1
   ·simp [B];refine av (by simp) (aq (.inl rfl) ?_);obtain⟨Z,S,l,A,K⟩:=k.Uo (by have:=x.2.2;omega) j;simp [d,k.g3,k.pb,aY,l,A,-bw];refine ax (nx _ _ ⟨_,_,x.app,K _ (by simp [k.g0]) (by simp [k.g2]) (by simp [k.g3])⟩ (by simp [d]))
   ·simp [B];refine aW (by simp) ?_;refine ax (nx _ _ ⟨_,_,x.skip,k.to (by simp [k.g0]) (by simp [k.g2]) (by simp [k.g3])⟩ (by simp [d]))
  clear k q d;rintro t J ⟨hd,ch,x,k⟩ d;apply ai;simp [k.g2,k.g3,k.pb,k.res,aY];obtain⟨hg,hh⟩:=k.lh.VW (lL _);obtain⟨a,w⟩:=k.lc.VW (lL _);have M:=aj k.res;have c:=hh (J.set 0 (.box [ch,.f (fi fr),.f (fi aM),cc] 0)) 63 fun i y hi F=>by
   rw [sh (by rintro rfl;exact k.lh.bz k.res F)];exact hi
  have e:=w (J.set 0 (.box [ch,.f (fi fr),.f (fi aM),cc] 0)) 63 fun i y hi F=>by
   rw [sh (by rintro rfl;exact k.lc.bz k.res F)];exact hi
  refine aD (r _ _ _ ⟨⟨hg,hd,fr,aM,a,u⟩,?_,rfl⟩ ⟨rfl,.a [ch,.f (fi fr),.f (fi aM),cc],?_,?_⟩)
  ·have B:=v.2.2;have h2:=x.2.2;have f:=v.rising;have o:=x.rising;refine⟨?_,by show(fr:Int)≤8;omega,by show(aM:Int)≤12;omega⟩;simp [cF,f,o];omega
  ·simp [Km.results,cm,aZ,k.g2,M,aY]
  ·simp [me,dE,aZ,deep,c,e,aI.row]
 exact⟨p,hp,O.eq⟩
def gF(J:an)(c:C)(fs:List aI):Prop:=
 (∃ p m,fs=[p]∧c=.sl m 0 1 1 0 4∧J[m]?=aa (.box (p.row.map .f) 0))∨(fs≠[]∧LR J c 4 (aK fs))
theorem xv(fs:List aI)(q:aI):aK fs++[q.row]=aK (fs++[q]):=by simp [aK]
section
variable{J J':an}{c:C}{fs:List aI}
theorem gF.bu(h:gF J c fs)(b:∀ i y,J[i]?=aa y→aV c=aa i→J'[i]?=aa y):gF J' c fs:=by
 rcases h with⟨p,m,rfl,rfl,h⟩ | ⟨h,h2⟩
 ·exact .inl ⟨p,m,rfl,rfl,b m _ h rfl⟩
 ·exact .inr ⟨h,h2.bu b⟩
theorem gF.push(h:gF J c fs)(L:an):gF (J++L) c fs:=h.bu fun i y hy _=>by rw [AT (aj hy)];exact hy
theorem gF.len(h:gF J c fs):bh J c=aa fs.length:=by
 rcases h with⟨p,m,rfl,rfl,h⟩ | ⟨h,h2⟩
 ·simp [bh,h]
 ·simpa using h2.len
theorem gF.bU(h:gF J c fs):∃ m,aV c=aa m∧m<J.length∧∀ cs fl d st,J[m]?≠aa (.cO 1 cs fl d st):=by
 rcases h with⟨p,m,rfl,rfl,h⟩ | ⟨h,⟨h1,_⟩ | ⟨_,b,d,rfl,hb⟩⟩
 ·exact⟨m,rfl,aj h,fun cs fl d st e=>by rw [h]at e;cases e⟩
 ·exact absurd (by simpa [aK]using h1) h
 ·unfold RB at hb;exact⟨b,rfl,aj hb,fun cs fl d st e=>by rw [hb]at e;cases e⟩
theorem gF.app(h:gF J c fs)(hl:fs.length≤10)(q:aI){b1:Nat}(j:J[b1]?=aa (.box (q.row.map .f) 0)) :
  ∃ l H',bF J 4 64 (.c c) (.c (.sl b1 0 1 1 0 4))=aa (.c l,H')∧gF H' l (fs++[q])∧Kb J H' c∧(aV l=aV c∨aV l=aa J.length):=by
 rcases h with⟨p,m,rfl,rfl,h⟩ | ⟨h,h2⟩
 ·have d:dc J 4 (.c (.sl b1 0 1 1 0 4))=aa (1,q.row.map .f):=nf j rfl;have b:cN 2 64=ae:=dG (by decide) (by decide);refine⟨.sl J.length 0 2 0 0 4,J++[.cO 4 (p.row.map .f++q.row.map .f) 0 0 .loc],?_,.inr ⟨by simp,.inr ⟨by simp [aK],J.length,0,rfl,?_⟩⟩,Kb.push _ _ _,.inr rfl⟩
  ·simp [bF,d,h,b,aI.row]
  ·unfold RB;simp [aK]
 ·obtain⟨y,x,g,u,s,v⟩:=h2.app (bD fs) (by decide) (row:=q.row) rfl (bytes:=64) (dG (by simp;omega) (by decide)) j;exact⟨y,x,g,.inr ⟨by simp,xv fs q▸u⟩,s,v⟩
theorem gF.ex(h:gF J c fs)(n:Nat):eA (n+1) J c=aa (sl .fs (aK fs)):=by
 rcases h with⟨p,m,rfl,rfl,h⟩ | ⟨h,h2⟩
 ·simp [jI,h,aK,sl,aI.row,aZ]
 ·obtain⟨g,e⟩:=h2.ex (bD fs) n;rw [e,Vw (g':=.fs) (by simpa [aK]using h)]
end
inductive BV{α β:Type}(R:α→β→Prop):List α→List β→Prop
 | nil:BV R [] []
 | cons {a b l m}:R a b→BV R l m→BV R (a::l) (b::m)
def TL(J:an)(ct:C)(ts:List (List aI)):Prop:=(ts=[]∧ct=.f .aA) ∨
 (ts≠[]∧∃ b d cs,ct=.sl b 0 ts.length 0 d 1∧J[b]?=aa (.cO 1 cs 0 d .loc)∧BV (gF J) cs ts∧cs.Pairwise (fun a b=>aV a≠aV b))
theorem ig{d g:Type}{R S:d→g→Prop}:∀ {l:List d} {m:List g},BV R l m→(∀ a b,a ∈ l→R a b→S a b)→BV S l m
 | [],[],_,_=>.nil| a::l,b::m,.cons h t,hi=>.cons (hi a b alr h) (ig t fun x y j=>hi x y (alu _ j))
theorem jK{b d:Type}{R:b→d→Prop}:∀ {l:List b} {m:List d},BV R l m→l.length=m.length
 | [],[],_=>rfl| _::_,_::_,.cons _ t=>by simp [jK t]
theorem lF{d g:Type}{R:d→g→Prop}:∀ {l:List d} {m:List g},BV R l m→∀ {a b},R a b→BV R (l++[a]) (m++[b])
 | [],[],_,a,b,h=>.cons h .nil| _::_,_::_,.cons h t,a,b,j=>.cons h (lF t j)
theorem mD{j g:Type}{R:j→g→Prop}:∀ {l:List j} {m:List g} {b:g},BV R l (m++[b])→∃ d a,l=d++[a]∧BV R d m∧R a b
 | _,[],b,h=>by
  cases h with
  | cons h t=>cases t;exact⟨[],_,rfl,.nil,h⟩
 | _,y::m,b,h=>by
  cases h with
  | cons h t=>
   obtain⟨d,a,rfl,q,s⟩:=mD t;exact⟨_::d,a,rfl,.cons h q,s⟩
theorem mC{g j:Type}{R:g→j→Prop}:∀ {l:List g} {m:List j},BV R l m→∀ a ∈ l,∃ b,R a b
 | [],[],_,a,h=>by cases h
 | x::_,y::_,.cons h t,a,d=>by
  rcases alW.1 d with rfl | d
  ·exact⟨y,h⟩
  ·exact mC t a d
section
variable{J J':an}{ct:C}{ts:List (List aI)}
theorem TL.bu(h:TL J ct ts)(l:∀ i y,J[i]?=aa y→i≠0→i≠1→J'[i]?=aa y)(h0:∃ x fl,J[0]?=aa (.box [x] fl))(h1:∃ x fl,J[1]?=aa (.box [x] fl)):TL J' ct ts:=by
 obtain⟨A,f0,h0⟩:=h0;obtain⟨B,z,h1⟩:=h1;rcases h with h | ⟨h,b,q,cs,rfl,hb,u,v⟩
 ·exact .inl h
 ·refine .inr ⟨h,b,q,cs,rfl,l _ _ hb (by rintro rfl;rw [h0]at hb;cases hb) (by rintro rfl;rw [h1]at hb;cases hb),ig u fun c fs _ hi=>hi.bu fun i y hy g=>l i y hy ?_ ?_,v⟩
  all_goals
   rintro rfl;rcases hi with⟨p,m,rfl,rfl,d⟩ | ⟨j,⟨e,_⟩ | ⟨_,m,s,rfl,d⟩⟩
   ·cases g
    first | (rw [h0]at d;simp [aI.row]at d) | (rw [h1]at d;simp [aI.row]at d)
   ·exact j (by simpa [aK]using e)
   ·cases g;unfold RB at d
    first | (rw [h0]at d;cases d) | (rw [h1]at d;cases d)
theorem TL.push(h:TL J ct ts)(L:an):TL (J++L) ct ts:=by
 rcases h with h | ⟨h,b,d,cs,rfl,hb,g,j⟩
 ·exact .inl h
 ·exact .inr ⟨h,b,d,cs,rfl,by rw [AT (aj hb)];exact hb,ig g fun c fs _ hi=>hi.push L,j⟩
theorem TL.len(h:TL J ct ts):bh J ct=aa ts.length:=by
 rcases h with⟨rfl,rfl⟩ | ⟨h,b,d,cs,rfl,hb,g,j⟩
 ·rfl
 ·simp [bh,hb]
theorem pg{d j s:Type}{R:d→j→Prop}{g:d→Option s}{k:j→s}(q:∀ a b,R a b→g a=aa (k b)):∀ {l:List d} {m:List j},BV R l m→aZ g l=aa (m.map k)
 | [],[],_=>rfl| _::_,_::_,.cons h t=>by simp only [aZ,q _ _ h,pg q t,alo]
theorem mf:∀ {l:List (List aI)},(l.map fun fs=>[sl .fs (aK fs)]).flatten=l.map fun fs=>sl .fs (aK fs)
 | []=>rfl| x::l=>by simp [mf (l:=l)]
theorem TL.ex(h:TL J ct ts)(n:Nat):∃ g,eA (n+2) J ct=aa (sl g (aB (ts.map fun fs=>⟨.fs,fs⟩))):=by
 rcases h with⟨rfl,rfl⟩ | ⟨h,b,m,cs,rfl,hb,j,q⟩
 ·exact⟨.nil,rfl⟩
 ·refine⟨.fs,?_⟩;have hl:=jK j;have l:=pg (g:=eA (n+1) J) (k:=fun fs=>sl .fs (aK fs)) (fun c fs hi=>hi.ex n) j;simp only [jI,hb];rw [ba ⟨trivial,trivial,by omega⟩,amd,List.take_of_length_le (by omega),l];have d:¬ (aB (ts.map fun fs=>(⟨.fs,fs⟩:cE))).isEmpty=ae:=by simpa [aB]using h
  have e:(aB (ts.map fun fs=>(⟨.fs,fs⟩:cE))).flatten=ts.map fun fs=>sl .fs (aK fs):=by
   simp only [aB,List.map_map];exact mf
  have el:(aB (ts.map fun fs=>(⟨.fs,fs⟩:cE))).length=ts.length:=by simp
  have es:sl .fs (aB (ts.map fun fs=>(⟨.fs,fs⟩:cE)))=.fs (ts.map fun fs=>sl .fs (aK fs)) ts.length:=by
   rw [←e,←el];unfold sl;rw [aS d]
  rw [es];rfl
end
structure SI(J:an)(ct:C)(ts:List (List aI)):Prop where
 res:J[0]?=aa (.box [.f .aA] 0)
 out:J[1]?=aa (.box [ct] 0)
 tl:TL J ct ts
theorem SI.push{J:an}{ct:C}{ts:List (List aI)}(h:SI J ct ts)(L:an):SI (J++L) ct ts:=
 ⟨by rw [AT (aj h.res)];exact h.res,by rw [AT (aj h.out)];exact h.out,h.tl.push L⟩
theorem CP{R:C→C→Prop}{l:List C}{a:C}(h:l.Pairwise R)(d:∀ x ∈ l,R x a):(l++[a]).Pairwise R:=by
 rw [ama];exact⟨h,al1 _ _,fun x g y b=>by simp at b;subst b;exact d x g⟩
theorem SI.new{J:an}{ct:C}{ts:List (List aI)}(h:SI J ct ts)(hl:ts.length≤10)(q:aI) :
  ∃ A H',bF (J++[.box (q.row.map .f) 0]++[.box [.sl J.length 0 1 1 0 4] 0]) 1 24 (.c ct) (.c (.sl (J.length+1) 0 1 1 0 1))=aa (.c A,H')∧dt H' (.ptr 1 0 0) [A]=aa (H'.set 1 (.box [A] 0))∧SI (H'.set 1 (.box [A] 0)) A (ts++[[q]]):=by
 obtain⟨O,s⟩:=aN (J++[.box (q.row.map .f) 0]:an);obtain⟨l,j⟩:=aN (O++[.box [.sl J.length 0 1 1 0 4] 0]:an);rw [←s,←j];have l1:O.length=J.length+1:=by rw [s];simp
 have l2:l.length=J.length+2:=by rw [j];simp [l1]
 have u:SI l ct ts:=by rw [j,s];exact(h.push _).push _
 have I:l[J.length]?=aa (.box (q.row.map .f) 0):=by rw [j,AT (by omega),s];simp
 have bx:l[J.length+1]?=aa (.box [.sl J.length 0 1 1 0 4] 0):=by rw [j,←l1];simp
 have v:dc l 1 (.c (.sl (J.length+1) 0 1 1 0 1))=aa (1,[.sl J.length 0 1 1 0 4]):=by simp [dc,bh,cS,bx]
 have g:cN (ts.length+1) 24=ae:=dG (by omega) (by decide);have h0:=aj h.res;have h1:=aj h.out;rcases u.tl with⟨U,W⟩ | ⟨x,b,E,cs,rfl,hb,Q,X⟩
 ·subst U W;have g:cN 1 24=ae:=dG (by decide) (by decide);refine⟨.sl l.length 0 1 0 0 1,l++[.cO 1 [.sl J.length 0 1 1 0 4] 0 0 .loc],?_,?_,?_,?_,?_⟩
  ·simp [bF,v,g]
  ·have:(l++[.cO 1 [.sl J.length 0 1 1 0 4] 0 0 .loc])[1]?=aa (.box [.f .aA] 0):=by rw [AT (by omega)];exact u.out
   simp [dt,this,over]
  ·rw [sh (by decide),AT (by omega)];exact u.res
  ·rw [BY (by simp;omega)]
  ·refine .inr ⟨by simp,l.length,0,[.sl J.length 0 1 1 0 4],rfl,?_,.cons (.inl ⟨q,J.length,rfl,rfl,?_⟩) .nil,al1 _ _⟩
   ·rw [sh (by omega)];simp
   ·rw [sh (by omega),AT (by omega)];exact I
 ·have M:=jK Q;have b1:b≠1:=by rintro rfl;rw [u.out]at hb;cases hb
  have b0:b≠0:=by rintro rfl;rw [u.res]at hb;cases hb
  have bl:=aj hb;obtain⟨H',d⟩:=aN (l.set b (.cO 1 (cs++[.sl J.length 0 1 1 0 4]) 0 (E+1) .loc):an);have L:H'[1]?=aa (.box [.sl b 0 ts.length 0 E 1] 0):=by rw [d,sh b1];exact u.out
  have lH:H'.length=l.length:=by rw [d];simp
  refine⟨.sl b 0 (ts.length+1) 0 (E+1) 1,H',?_,?_,?_,?_,?_⟩
  ·simp [bF,v,g,hb,M,d]
  ·simp [dt,L,over]
  ·rw [sh (by decide),d,sh b0];exact u.res
  ·rw [BY (by omega)]
  ·refine .inr ⟨by simp,b,E+1,cs++[.sl J.length 0 1 1 0 4],by simp,?_,lF (ig Q fun c fs hc hi=>?_) (.inl ⟨q,J.length,rfl,rfl,?_⟩),CP X fun c hc=>?_⟩
   ·rw [sh (Ne.symm b1),d,BY bl]
   ·obtain⟨m,B,lm,S⟩:=hi.bU;refine hi.bu fun i y hy H=>?_;rw [B]at H;cases H;have m1:1≠m:=by
     rintro rfl;rcases hi with⟨p,m,rfl,rfl,z⟩ | ⟨x,⟨e,_⟩ | ⟨_,m,K,rfl,z⟩⟩
     ·cases B;rw [u.out]at z;simp [aI.row]at z
     ·exact x (by simpa [aK]using e)
     ·cases B;unfold RB at z;rw [u.out]at z;cases z
    have Y:b≠m:=by rintro rfl;exact S _ _ _ _ hb
    rw [sh m1,d,sh Y];exact hy
   ·rw [sh (by omega),d,sh (by rintro rfl;rw [I]at hb;cases hb)];exact I
   ·have h3:BV (gF J) cs ts:=by
     rcases h.tl with⟨e,_⟩ | ⟨_,Z,K,cs',e,F,N,_⟩
     ·exact absurd e x
     ·cases e;have:l[b]?=aa (.cO 1 cs' 0 E .loc):=by rw [j,s,alU,AT (aj F)];exact F
      rw [hb]at this;cases this;exact N
    obtain⟨fs,hi⟩:=mC h3 c hc;obtain⟨m,B,lm,S⟩:=hi.bU;rw [B];intro e;cases e;omega
theorem SI.more{J:an}{ct:C}{ts:List (List aI)}{fs:List aI}(h:SI J ct (ts++[fs]))(hl:fs.length≤10)(q:aI) :
  ∃ b l c,bB J 1 ab (.c ct) (vi ts.length)=aa (.c (.ptr b ts.length l))∧aX J ab (.c (.ptr b ts.length l))=aa (.c c)∧bh J c=aa fs.length ∧
   ∃ B H',bF (J++[.box (q.row.map .f) 0]) 4 64 (.c c) (.c (.sl J.length 0 1 1 0 4))=aa (.c B,H')∧bB H' 1 ab (.c ct) (vi ts.length)=aa (.c (.ptr b ts.length l))∧H'[1]?=aa (.box [ct] 0) ∧
    ∃ Y,dt H' (.ptr b ts.length l) [B]=aa Y∧SI Y ct (ts++[fs++[q]]):=by
 rcases h.tl with⟨e,_⟩ | ⟨_,b,l,cs,rfl,hb,hf,Z⟩
 ·simp at e
 obtain⟨cs',c,rfl,z,hi⟩:=mD hf;have F:=jK z;obtain⟨E,d⟩:=aN (J++[.box (q.row.map .f) 0]:an);have l1:E.length=J.length+1:=by rw [d];simp
 have k1:SI E (.sl b 0 (ts++[fs]).length 0 l 1) (ts++[fs]):=by rw [d];exact h.push _
 have bq:E[J.length]?=aa (.box (q.row.map .f) 0):=by rw [d];simp
 have Q:gF E c fs:=by rw [d];exact hi.push _
 obtain⟨m,L,lm,om⟩:=hi.bU;obtain⟨B,H',x,H,hK,O⟩:=Q.app hl q bq;have up:∀ i y,J[i]?=aa y→E[i]?=aa y:=fun i y hy=>by rw [d,AT (aj hy)];exact hy
 have v:∀ i y,J[i]?=aa y→i≠m→H'[i]?=aa y:=fun i y hy A=>hK.2 i y (up i y hy) (by rw [L];intro e;cases e;exact A rfl);have mb:b≠m:=by rintro rfl;exact om _ _ _ _ hb
 have s:=v _ _ hb mb;have I:m≠0∧m≠1:=by
  rcases hi with⟨p,U,rfl,rfl,j⟩ | ⟨A,⟨e,_⟩ | ⟨_,U,a7,rfl,j⟩⟩
  ·cases L;exact⟨by rintro rfl;rw [h.res]at j;simp [aI.row]at j,by rintro rfl;rw [h.out]at j;simp [aI.row]at j⟩
  ·exact absurd (by simpa [aK]using e) A
  ·cases L;unfold RB at j;exact⟨(by rintro rfl;rw [h.res]at j;cases j),(by rintro rfl;rw [h.out]at j;cases j)⟩
 have r0:=v _ _ h.res (Ne.symm I.1);have r1:=v _ _ h.out (Ne.symm I.2);have b0:b≠0:=by rintro rfl;rw [h.res]at hb;cases hb
 have b1:b≠1:=by rintro rfl;rw [h.out]at hb;cases hb
 obtain⟨U,N,a8,X⟩:=H.bU;have W:b≠U:=by rintro rfl;exact X _ _ _ _ s
 rw [ama]at Z;obtain⟨p1,-,p3⟩:=Z;refine⟨b,l,c,?_,?_,hi.len,B,H',by rw [d]at x;exact x,?_,r1,H'.set b (.cO 1 (cs'++[B]) 0 l .loc),?_,?_,?_,?_⟩
 ·simp [bB,gj,hb];omega
 ·simp [aX,aH,hb,←F,aY]
 ·simp [bB,gj,s];omega
 ·simp [dt,s,over,←F]
 ·rw [sh b0];exact r0
 ·rw [sh b1];simpa using r1
 ·refine .inr ⟨by simp,b,l,cs'++[B],by simp,BY (aj s),lF (ig z fun a f M u=>?_) (H.bu fun i y hy g=>?_),CP p1 fun a M=>?_⟩
  ·obtain⟨k,K,lk,ok⟩:=u.bU;refine u.bu fun i y hy g=>?_;rw [K]at g;cases g;have S:k≠m:=by
    have:=p3 a M c (by simp);rw [K,L]at this;exact fun e=>this (by rw [e])
   rw [sh (by rintro rfl;exact ok _ _ _ _ hb)];exact v _ _ hy S
  ·rw [N]at g;cases g;rw [sh W];exact hy
  ·rcases O with e | e
   ·rw [e];exact p3 a M c (by simp)
   ·obtain⟨f,u⟩:=mC z a M;obtain⟨k,K,lk,ok⟩:=u.bU;rw [e,K];intro e2;cases e2;omega
abbrev V0:=Tg × List Nat
def adl(b:V0):Prop:=b.2.length≤9223372036854775807∧∀ n ∈ b.2,n<256
def dB(l:List V0):List (List FC):=l.map fun b=>[sl b.1 (dK b.2)]
@[simp] theorem Ax (l:List V0):(dB l).length=l.length:=by simp [dB]
theorem qI(l:List V0):bO 1 (dB l):=bO.map fun _=>rfl
theorem ain{j:Nat}{l:List V0}(b:j<l.length){H:an}:aX H ab (.c (.f (.fp (dB l).flatten j)))=aa (.c (.f (sl l[j].1 (dK l[j].2)))):=by
 have:=gZ (H:=H) (rows:=dB l) (j:=j) (sz:=1) (row:=[sl l[j].1 (dK l[j].2)]) (x:=sl l[j].1 (dK l[j].2)) (qI l) (by simp [dB,b]) rfl;simpa using this
theorem aex{j:Nat}{l:List V0}{g:Tg}(b:j<l.length){H:an}:bB H 1 ab (.c (.f (sl g (dB l)))) (vi j)=aa (.c (.f (.fp (dB l).flatten j))):=by
 have:=bG (H:=H) (g:=g) (rows:=dB l) (sz:=1) (k:=.i64) (i:=(j:Int)) (by omega) (by simp;omega);simpa using this
def mq(ts:List (List aI)):Prop:=ts.length≤3∧∀ fs ∈ ts,fs≠[]∧fs.length≤3∧∀ p ∈ fs,p.ew
theorem mq.new{ts:List (List aI)}(h:mq ts)(hl:ts.length<3){p:aI}(g:p.ew):mq (ts++[[p]]):=by
 refine⟨by simp;omega,fun fs b=>?_⟩;rcases aln.1 b with b | b
 ·exact h.2 fs b
 ·simp at b;subst b;exact⟨by simp,by simp,fun q d=>by simp at d;subst d;exact g⟩
theorem mq.more{ts:List (List aI)}{fs:List aI}(h:mq (ts++[fs]))(hl:fs.length<3){p:aI}(g:p.ew):mq (ts++[fs++[p]]):=by
 refine⟨by have:=h.1;simpa using this,fun d hg=>?_⟩;rcases aln.1 hg with hg | hg
 ·exact h.2 d (List.mem_append_left _ hg)
 ·simp at hg;subst hg;have h2:=(h.2 fs (by simp)).2.2;refine⟨by simp,by simp;omega,fun q b=>?_⟩;rcases aln.1 b with b | b
  ·exact h2 q b
  ·simp at b;subst b;exact g
theorem mq.mix{ts:List (List aI)}(h:mq ts):iH (ts.map fun fs=>⟨.fs,fs⟩)=ae:=by
 have h1:=h.1;simp only [iH,If,decide_eq_true_eq,alA,alq];refine⟨by omega,fun t j=>?_⟩;obtain⟨fs,d,rfl⟩:=alC.1 j;obtain⟨a,b,c⟩:=h.2 fs d;have:=al0.2 a;simp only [jd,If,decide_eq_true_eq,alA];exact⟨⟨by omega,by omega⟩,fun p g=>(c p g).1⟩
theorem tu:∀ {l:List aI},(∀ p ∈ l,p.ew)→1≤eo l∧eo l≤12 ^ l.length
 | [],_=>by simp [eo]
 | p::l,h=>by
  obtain⟨b,-,d⟩:=h p alr;have g:=(a6 b).2.2.1;obtain⟨j,m⟩:=tu fun q u=>h q (alu _ u);simp only [eo,al2];have v:=amE g j (by decide) (by omega);have s:=amE d m (by omega) (by decide);rw [Int.pow_succ,ami];refine⟨by rw [ami];omega,by rw [ami];rw [ami (12 ^ l.length)];exact s⟩
theorem AK{fs:List aI}(d:fs≠[])(g:fs.length≤5)(h:∀ p ∈ fs,p.ew):ma fs:=by
 have u:=al0.2 d;refine⟨by omega,by omega,fun p b=>⟨(h p b).1,by have:=(h p b).2.2;omega⟩,?_,?_⟩
 ·have j:=(tu h).2;have q:(12:Int) ^ fs.length≤12 ^ 5:=by
   have:fs.length=1∨fs.length=2∨fs.length=3∨fs.length=4∨fs.length=5:=by omega
   rcases this with e | e | e | e | e<;>rw [e]<;>decide
  have s:(12:Int) ^ 5=248832:=by decide
  omega
 ·have:=BB (l:=fs) (m:=8) (by decide) fun p b=>(h p b).2.1;omega
theorem mq.ok{ts:List (List aI)}(h:mq ts):yF (ts.map fun fs=>⟨.fs,fs⟩):=⟨h.mix,fun t g=>by
 obtain⟨fs,d,rfl⟩:=alC.1 g;obtain⟨a,b,c⟩:=h.2 fs d;exact AK a (show fs.length≤5 by omega) c⟩
def nL(ts:List (List aI)):Nat:=(ts.map List.length).sum
theorem yY(a:List (List aI))(fs:List aI):nL (a++[fs])=nL a+fs.length:=by simp [nL]
theorem Ca:∀ {ts:List (List aI)},(∀ fs ∈ ts,fs≠[])→ts.length≤nL ts
 | [],_=>Nat.zero_le _
 | f::ts,h=>by
  have b:=Ca fun g d=>h g (alu _ d);have j:=al0.2 (h f alr);simp only [nL,alo,List.sum_cons,al2]at b ⊢;omega
theorem yZ:∀ {ts:List (List aI)} {fs:List aI},fs ∈ ts→fs.length≤nL ts
 | f::ts,g,h=>by
  simp only [nL,alo,List.sum_cons];rcases alW.1 h with rfl | h
  ·omega
  ·have:=yZ h;simp only [nL]at this;omega
theorem UH(g:Tg){l:List V0}(hl:l.length≤9223372036854775807)(hb:∀ b ∈ l,adl b) :
  ∃ tg ts,(mq ts∧nL ts≤l.length)∧bX tab 22 [.c (.f (sl g (dB l)))]=Eq (.a [.f (sl tg (aB (ts.map fun fs=>⟨.fs,fs⟩)))]):=by
 obtain⟨rr,⟨tg,ts,hm,rfl⟩,hp⟩:∃ rr,(∃ tg ts,(mq ts∧nL ts≤l.length)∧rr=.a [.f (sl tg (aB (ts.map fun fs=>⟨.fs,fs⟩)))])∧bX tab 22 [.c (.f (sl g (dB l)))] rr:=by
  refine eQ rfl rfl fun Q hQ=>?_;obtain⟨N,hN⟩:=aN (min l.length 9);apply ai;simp;apply ai;simp;refine au (ai ?_);simp;refine iG N (fun j t J=>∃ ct ts,(mq ts∧nL ts≤j)∧SI J ct ts∧t.g 0=.c (.f (sl g (dB l)))∧t.g 2=.c (.ptr 0 0 0)∧t.g 3=.c (.ptr 1 0 0)) (by omega) (by decide) (by simp)
   ⟨.f .aA,[],⟨⟨by simp,by simp⟩,by simp [nL]⟩,⟨rfl,rfl,.inl ⟨rfl,rfl⟩⟩,by simp,by simp,by simp⟩ ?_ ?_ ?_
  ·rintro j t J L hj ⟨ct,ts,M,k,m,v,d⟩ z hn;by_cases c1:(j:Int)<l.length
   ·simp [z,m,c1];exact hn _ ⟨ct,ts,M,k,by simp [m],by simp [v],by simp [d]⟩ (by simp [z]) (by simp;omega)
   ·simp [z,m,c1];exact hn _ ⟨ct,ts,M,k,by simp [m],by simp [v],by simp [d]⟩ (by simp [z]) (by simp;omega)
  ·rintro j t J hj ⟨ct,ts,⟨M,c9⟩,k,m,v,d⟩ z nx;have Z:j<l.length:=by omega
   obtain⟨bl,bb⟩:=hb _ (IT Z);obtain⟨p,d9,i4⟩:=ud l[j].1 bb bl;have B:bX tab 60 [.c (.f (sl l[j].1 (dK l[j].2))),vi 0]=Eq (vi (tR l[j].2 0:Nat)):=uY l[j].1 l[j].2 bb bl 0 (by decide);obtain⟨a,f_⟩:=aN ((tR l[j].2 0:Int));rw [←f_]at B;have ii:=fun H=>aex (g:=g) Z (H:=H);have dd:=fun H=>ain Z (H:=H);have f7:=k.tl.len;have a8:aX J ab (.c (.ptr 1 0 0))=aa (.c ct):=by simp [aX,aH,k.out,aY]
   refine az (ai ?_);simp [d,a8,-ay,f7];apply ai;simp [m,z,ii,dd,i4,aI.row,-ay];obtain⟨E,F⟩:=aN (J++[.box (p.row.map .f) 0]:an);have k1:SI E ct ts:=by rw [F];exact k.push _
   have l1:E.length=J.length+1:=by rw [F];simp
   have bx:E[J.length]?=aa (.box (p.row.map .f) 0):=by rw [F];simp
   have a_:aX E (aa 4) (.c (.ptr J.length 0 0))=aa (.a [.f (sl p.hg (ints p.head)),.f (fi p.fr),.f (fi p.aM),.f (sl p.cg (ints p.bf))]):=by simp [aX,aH,bx,aY,aI.row]
   have x:aX E ab (.c (.ptr 1 0 0))=aa (.c ct):=by simp [aX,aH,k1.out,aY]
   simp only [aI.row,alo,alH]at F;rw [←F];have e_:∀ t:T,t.g 0=.c (.f (sl g (dB l)))→t.g 2=.c (.ptr 0 0 0)→t.g 3=.c (.ptr 1 0 0)→t.g 4=vi j→t.g 5=vi ts.length→t.g 6=.c (.ptr J.length 0 0) →
     WP tab 22 ab [.code pR,.inBlock 1,.code (oP 4 16 17),.inLoop ou,.inBlock 0,.code mY] ⟨t,[],E⟩ Q:=by
    intro t m v d g4 W g6;apply ai;by_cases h3:ts.length<3
    ·simp [W,show(ts.length:Int)<3 by omega];refine av (by simp) (aq (.inl rfl) ?_);obtain⟨c',H',s,a7,hk⟩:=k1.new (by omega) p;simp only [aI.row,alo,alH]at s;have Y:bF (E++[.box [.f (sl p.hg (ints p.head)),.f (fi p.fr),.f (fi p.aM),.f (sl p.cg (ints p.bf))] 0,.box [.sl E.length 0 1 1 0 4] 0]) 1 24 (.c ct) (.c (.sl (E.length+1) 0 1 1 0 1))=aa (.c c',H'):=by
      rw [←s,alU];rfl
     simp [d,g6,x,a_,-ay,Y,a7,-bw];refine ax (nx _ _ ⟨c',_,⟨M.new h3 d9,by rw [yY];simp;omega⟩,hk,by simp [m],by simp [v],by simp [d]⟩ (by simp [g4]))
    ·simp [W,show¬ (ts.length:Int)<3 by omega];refine aW (by simp) ?_;refine ax (nx _ _ ⟨ct,ts,⟨M,by omega⟩,k1,by simp [m],by simp [v],by simp [d]⟩ (by simp [g4]))
   have w0:IntKind.i64.wrap 0=0:=by decide
   apply ai;rcases List.eq_nil_or_concat ts with rfl | ⟨q,fs,rfl⟩
   ·simp;refine aF (by simp) ?_;exact e_ _ (by simp [m]) (by simp [v]) (by simp [d]) (by simp [z]) (by simp) (by simp)
   rw [List.concat_eq_append]at *;have f8:=M.1;simp at f8;have h3:=(M.2 fs (by simp)).2.1;obtain⟨b,ep,c,O,A,u,c',H',s,d_,c_,H2,a7,k2⟩:=k1.more (by omega) p;simp only [aI.row,alo,alH]at s;have U:IntKind.i64.wrap (q.length:Int)=q.length:=aO;have i6:aX H' ab (.c (.ptr 1 0 0))=aa (.c ct):=by simp [aX,aH,c_,aY]
   have b_:(V.c ct).beq (.c ct)=ae:=by
    rcases k1.tl with⟨e,_⟩ | ⟨_,b,ep,cs,rfl,_⟩
    ·simp at e
    ·simp [V.beq,C.beq]
   have S:∀ t:T,fs.length<3→t.g 0=.c (.f (sl g (dB l)))→t.g 2=.c (.ptr 0 0 0)→t.g 3=.c (.ptr 1 0 0)→t.g 4=vi j→t.g 5=vi ((q.length:Int)+1)→t.g 6=.c (.ptr J.length 0 0) →
     WP tab 22 ab [.code uK,.inBlock 1,.code (oP 4 16 17),.inLoop ou,.inBlock 0,.code mY] ⟨t,[],E⟩ Q:=by
    intro t h3 m v d g4 W g6;refine eP (.inl rfl) ?_ ?_
    case refine_2=>
     intro c h_;have g_:c=(1,14):=by simpa using h_
     subst g_;refine⟨by decide,_,rfl,.inl ⟨by decide,?_⟩⟩;simp [d,W,g6,x,a_,O,A,U,s,d_,i6,fH,-ay];exact b_
    simp [d,W,g6,x,a_,O,A,U,s,d_,a7,-ay,-bw];refine ax (nx _ _ ⟨ct,_,⟨M.more h3 d9,by rw [yY]at c9 ⊢;simp;omega⟩,k2,by simp [m],by simp [v],by simp [d]⟩ (by simp [g4]))
   have K:∀ t:T,t.g 0=.c (.f (sl g (dB l)))→t.g 2=.c (.ptr 0 0 0)→t.g 3=.c (.ptr 1 0 0)→t.g 4=vi j→t.g 5=vi ((q.length:Int)+1)→t.g 6=.c (.ptr J.length 0 0) →
     WP tab 22 ab [.code pR,.inBlock 1,.code (oP 4 16 17),.inLoop ou,.inBlock 0,.code mY] ⟨t,[],E⟩ Q:=fun t m v d g4 W g6=>e_ t m v d g4 (by rw [W];simp) g6
   by_cases I:a<128
   ·by_cases X:fs.length<3
    ·simp [m,d,z,ii,dd,B,I,x,-ay,U,O,A,u,show(fs.length:Int)<3 by omega,show(0:Int)<(q.length:Int)+1 by omega];refine av (by simp) ?_;exact S _ X (by simp [m]) (by simp [v]) (by simp [d]) (by simp [z]) (by simp) (by simp)
    ·simp [m,d,z,ii,dd,B,I,x,-ay,U,O,A,u,show¬ (fs.length:Int)<3 by omega,show(0:Int)<(q.length:Int)+1 by omega];refine aF (by simp) ?_;exact K _ (by simp [m]) (by simp [v]) (by simp [d]) (by simp [z]) (by simp) (by simp)
   ·by_cases h4:(q.length:Int)+1=3
    ·by_cases X:fs.length<3
     ·simp [m,d,z,ii,dd,B,I,x,-ay,U,O,A,u,show(fs.length:Int)<3 by omega,show(0:Int)<(q.length:Int)+1 by omega];rw [decide_eq_true h4];simp [d,x,-ay,U,O,A,u,show(fs.length:Int)<3 by omega];refine av (by simp) ?_;exact S _ X (by simp [m]) (by simp [v]) (by simp [d]) (by simp [z]) (by simp) (by simp)
     ·simp [m,d,z,ii,dd,B,I,x,-ay,U,O,A,u,show¬ (fs.length:Int)<3 by omega,show(0:Int)<(q.length:Int)+1 by omega];rw [decide_eq_true h4];simp [d,x,-ay,U,O,A,u,show¬ (fs.length:Int)<3 by omega];refine aF (by simp) ?_;exact K _ (by simp [m]) (by simp [v]) (by simp [d]) (by simp [z]) (by simp) (by simp)
    ·simp [m,d,z,ii,dd,B,I,h4,show(0:Int)<(q.length:Int)+1 by omega];refine aF (by simp) ?_;exact K _ (by simp [m]) (by simp [v]) (by simp [d]) (by simp [z]) (by simp) (by simp)
  rintro t J ⟨ct,ts,⟨M,c9⟩,k,m,v,d⟩ z;have h0:=aj k.res;have a8:aX J (aa 1) (.c (.ptr 1 0 0))=aa (.a [ct]):=by simp [aX,aH,k.out,aY]
  have i7:dt J (.ptr 0 0 0) [ct]=aa (J.set 0 (.box [ct] 0)):=by simp [dt,k.res,over]
  apply ai;simp [v,d,a8,i7,-ay,-bw];have kl:TL (J.set 0 (.box [ct] 0)) ct ts:=k.tl.bu (fun i y hy hi _=>by rw [sh (Ne.symm hi)];exact hy) ⟨_,_,k.res⟩ ⟨_,_,k.out⟩;obtain⟨tg,i3⟩:=kl.ex 62;refine aD (hQ _ _ _ ⟨tg,_,⟨M,by omega⟩,rfl⟩ ⟨rfl,.a [ct],?_,?_⟩)
  ·simp [Km.results,cm,aZ,v,h0,aY]
  ·simp [me,dE,aZ,deep,i3]
 exact⟨tg,ts,hm,hp.eq⟩
def iy(l:List Nat):List (List FC):=l.map fun n:Nat=>[.int .u16 (n:Int)]
@[simp] theorem agL (l:List Nat):(iy l).length=l.length:=by simp [iy]
theorem BF(l:List Nat):bO 1 (iy l):=bO.map fun _=>rfl
theorem Ux{j:Nat}{l:List Nat}(b:j<l.length){H:an}:aX H ab (.c (.f (.fp (iy l).flatten j)))=aa (.c (.f (.int .u16 l[j]))):=by
 have:=gZ (H:=H) (rows:=iy l) (j:=j) (sz:=1) (row:=[.int .u16 l[j]]) (x:=.int .u16 l[j]) (BF l) (by simp [iy,b]) rfl;simpa using this
theorem Ji{j:Nat}{l:List Nat}{g:Tg}(b:j<l.length){H:an}:bB H 1 ab (.c (.f (sl g (iy l)))) (vi j)=aa (.c (.f (.fp (iy l).flatten j))):=by
 have:=bG (H:=H) (g:=g) (rows:=iy l) (sz:=1) (k:=.i64) (i:=(j:Int)) (by omega) (by simp;omega);simpa using this
theorem agc{H:an}{sz:Nat}{g:Tg}{rows:List (List FC)}{k m:Nat}(s:bO sz rows)(I:k≤m)(J:m≤rows.length)(F:rows≠[]) :
  bM H sz (.c (.f (sl g rows))) (aa (vi k)) (aa (vi m)) ab=aa (.c (.f (sl .fs ((rows.take m).drop k)))):=by
 cases rows with
 | nil=>exact absurd rfl F
 | cons x r=>
  have B:xP (vi k) m=aa k:=by
   have:(0:Int)≤(k:Int)∧(k:Int)≤(m:Int):=⟨by omega,by omega⟩
   show(if(0:Int)≤(k:Int)∧(k:Int)≤(m:Int)then aa (k:Int).toNat else ab)=aa k;rw [ba this,alJ]
  have b:xP (vi m) (x::r).length=aa m:=by
   have:(0:Int)≤(m:Int)∧(m:Int)≤((x::r).length:Int):=⟨by omega,by omega⟩
   show(if(0:Int)≤(m:Int)∧(m:Int)≤((x::r).length:Int)then aa (m:Int).toNat else ab)=aa m;rw [ba this,alJ]
  have l:bH (x::r).length (x::r).length (aa (vi k)) (aa (vi m)) ab=aa (k,m,(x::r).length):=by
   simp only [al2]at b;simp [bH,B,b]
  show bM H sz (.c (.f (.fs (x::r).flatten (x::r).length))) _ _ _=_;simp only [bM,l];have v:bO sz ((x::r).take m):=fun y j=>s y (amj j);have E:bO sz (((x::r).take m).drop k):=fun y j=>v y (alY j);have d:(((x::r).take m).drop k).length=m-k:=by rw [alD,alV];omega
  have z:((x::r).flatten.drop (k*sz)).take ((m-k)*sz)=(((x::r).take m).drop k).flatten:=by
   rw [nh k s];have e:(((x::r).take m).drop k)=((x::r).drop k).take (m-k):=by rw [List.drop_take]
   rw [e];have u:bO sz ((x::r).drop k):=fun y j=>s y (alY j);rw [nF (m-k) u]
  rw [z];have A:sl .fs (((x::r).take m).drop k)=.fs (((x::r).take m).drop k).flatten (m-k):=by
   cases hd:((x::r).take m).drop k with
   | nil=>rw [hd]at d;simp at d;rw [←d];rfl| cons y q=>rw [hd]at d;rw [←d];rfl
  rw [A];simp
structure oA where
 dg:Tg
 ds:List V0
 mg:Tg
 ms:List Nat
 len:Nat
 eg:Tg
 ex:List Nat
def oA.row(x:oA):List FC:=[sl x.dg (dB x.ds),sl x.mg (dK x.ms),u8 x.len,sl x.eg (iy x.ex)]
structure oA.OK(x:oA):Prop where
 dl:x.ds.length≤9223372036854775807
 d:∀ b ∈ x.ds,adl b
 ml:x.ms.length≤9223372036854775807
 m:∀ n ∈ x.ms,n<256
 l:x.len<256
 el:x.ex.length≤9223372036854775807
 e:∀ n ∈ x.ex,n<65536
def B_(d:Tg)(ts:List (List aI))(b:Int):cd:=⟨d,ts.map fun fs=>⟨.fs,fs⟩,b⟩
structure rj(cs:List cd)(j:Nat)(mi:Int):Prop where
 n:cs.length≤j
 lo:-1500≤mi
 ok:∀ c ∈ cs,(∃ tg ts,(mq ts∧nL ts≤2)∧c=B_ tg ts c.min)∧-1500<c.min∧c.min≤4320∧c.min≤mi
 up:cs.Pairwise fun a b=>a.min<b.min
theorem rj.skip{cs:List cd}{j:Nat}{mi b:Int}(h:rj cs j mi)(d:mi≤b):rj cs (j+1) b:=
 ⟨by have:=h.n;omega,by have:=h.lo;omega,fun c hc=>by have:=h.ok c hc;exact⟨this.1,this.2.1,this.2.2.1,by omega⟩,h.up⟩
theorem rj.more{cs:List cd}{j:Nat}{mi d:Int}(h:rj cs j mi)(m:mi<d)(h2:d≤4320){tg:Tg}{ts:List (List aI)}(l:mq ts∧nL ts≤2):rj (cs++[B_ tg ts d]) (j+1) d:=by
 refine⟨by have:=h.n;simp;omega,by have:=h.lo;omega,fun c hc=>?_,?_⟩
 ·rcases aln.1 hc with hc | hc
  ·have:=h.ok c hc;exact⟨this.1,this.2.1,this.2.2.1,by omega⟩
  ·rw [alm.1 hc];have:=h.lo;exact⟨⟨tg,ts,l,rfl⟩,by show -1500<d;omega,h2,amM _⟩
 ·rw [ama];refine⟨h.up,al1 _ _,fun a g b hb=>?_⟩;rw [alm.1 hb];have:=(h.ok a g).2.2.2;show a.min<d;omega
theorem rj.Z1{cs:List cd}{j:Nat}{mi:Int}(h:rj cs j mi):dL ab cs=ae∧∀ c ∈ cs,yF c.ts:=by
 have g:∀ c ∈ cs,yF c.ts:=fun c hc=>by
  obtain⟨⟨tg,ts,v,e⟩,-⟩:=h.ok c hc;rw [e];exact v.1.ok
 refine⟨?_,g⟩;have key:∀(l:List cd) (o:Option Int),l.Pairwise (fun a b=>a.min<b.min)→(∀ c ∈ l,iH c.ts=ae∧-4320≤c.min∧c.min≤4320)→(∀ m,o=aa m→∀ c ∈ l,m<c.min)→dL o l=ae:=by
  intro l;induction l with
  | nil=>intros;rfl
  | cons c l y=>
   intro o q hc ho;rw [amY]at q;obtain⟨h1,h2,h3⟩:=hc c alr;have u:(o.all fun m=>decide (m<c.min))=ae:=by
    cases o with
    | none=>rfl| some m=>simpa using ho m rfl c alr
   have x:dj c.min (-4320) 4320=ae:=by simp [dj,h2,h3]
   simp only [dL,h1,x,u,amm];exact y _ q.2 (fun c d=>hc c (alu _ d)) fun m g s d=>by cases g;exact q.1 s d
 exact key cs ab h.up (fun c hc=>⟨(g c hc).v,by have:=h.ok c hc;omega,by have:=h.ok c hc;omega⟩) (by simp)
structure ExP(xs:List aC)(j:Nat):Prop where
 n:xs.length≤j
 up:xs.Pairwise aC.lt
 ok:∀ x ∈ xs,0≤x.day∧x.day≤7∧-2880≤x.fr∧x.fr≤90000∧x.fr<x.to∧x.to≤x.fr+2000
theorem ExP.extra{xs:List aC}{j:Nat}(h:ExP xs j):gn ab xs=ae:=by
 have key:∀(l:List aC) (o:Option aC),l.Pairwise aC.lt→(∀ x ∈ l,0≤x.day∧x.day≤7∧-2880≤x.fr∧x.fr≤90000∧x.fr<x.to∧x.to≤x.fr+2000)→(∀ m,o=aa m→∀ x ∈ l,m.lt x)→gn o l=ae:=by
  intro l;induction l with
  | nil=>intros;rfl
  | cons c l v=>
   intro o d hc ho;rw [amY]at d;obtain⟨h1,h2,h3,h4,h5,h6⟩:=hc c alr;have s:(o.all fun m=>decide (fv m c<0))=ae:=by
    cases o with
    | none=>rfl
    | some m=>
     have:=(kQ _ _).2 (ho m rfl c alr);simp [this]
   have u:mE c=ae:=by simp [mE,dj];omega
   simp only [gn,u,s,amm];exact v _ d.2 (fun c b=>hc c (alu _ b)) fun m q g b=>by cases q;exact d.1 g b
 exact key xs ab h.up h.ok (by simp)
structure Tw(s:aU):Prop where
 ok:kz s
 few:∀ c ∈ s.cs,∃ tg ts,(mq ts∧nL ts≤2)∧c=B_ tg ts c.min
 lo:∀ c ∈ s.cs,-1500<c.min∧c.min≤4320
 ex:∀ x ∈ s.xs,0≤x.day∧x.day≤7∧-2880≤x.fr∧x.fr≤90000∧x.fr<x.to∧x.to≤x.fr+2000
theorem BD{g u:Tg}{cs:List cd}{s len:Int}{xs:List aC}(b:rj cs 3 s)(d:ExP xs 4)(v:1≤len)(x:len≤10080):kz ⟨g,cs,len,u,xs⟩:=by
 have j:=b.n;have l:=d.n;obtain⟨m,q⟩:=b.Z1;refine⟨?_,j,q,l⟩;unfold gC;simp only [m,d.extra];simp [dj];omega
theorem J8{g q:Tg}{cs:List cd}{m len:Int}{xs:List aC}(b:rj cs 3 m)(d:ExP xs 4)(j:1≤len)(l:len≤10080):Tw ⟨g,cs,len,q,xs⟩:=
 ⟨BD b d j l,fun c h=>(b.ok c h).1,fun c h=>⟨(b.ok c h).2.1,(b.ok c h).2.2.1⟩,d.ok⟩
theorem eight(i:Nat)(h:i<8):∃(len:Int) (rest:List C),[C.f (fi 30),C.f (fi 60),C.f (fi 90),C.f (fi 600),C.f (fi 1440),C.f (fi 1500),C.f (fi 3000),C.f (fi 10080)].drop i=C.f (fi len)::rest∧1≤len∧len≤10080:=by
 match i,h with
 | 0,_=>exact⟨_,_,rfl,by omega,by omega⟩
 | 1,_=>exact⟨_,_,rfl,by omega,by omega⟩
 | 2,_=>exact⟨_,_,rfl,by omega,by omega⟩
 | 3,_=>exact⟨_,_,rfl,by omega,by omega⟩
 | 4,_=>exact⟨_,_,rfl,by omega,by omega⟩
 | 5,_=>exact⟨_,_,rfl,by omega,by omega⟩
 | 6,_=>exact⟨_,_,rfl,by omega,by omega⟩
 | 7,_=>exact⟨_,_,rfl,by omega,by omega⟩
structure SM(x:oA)(len:Int)(J:an)(cc:C)(cs:List cd)(xc:FC):Prop where
 raw:J[0]?=aa (.box [.f (sl x.dg (dB x.ds)),.f (sl x.mg (dK x.ms)),.f (u8 x.len),.f (sl x.eg (iy x.ex))] 0)
 res:J[1]?=aa (.box [.f .aA,.f (fi 0),.f .aA] 0)
 st:J[3]?=aa (.box [cc,.f (fi len),.f xc] 0)
 lr:LR J cc 2 (aR cs)
theorem SM.push{x:oA}{len:Int}{J:an}{cc:C}{cs:List cd}{xc:FC}(h:SM x len J cc cs xc)(L:an):SM x len (J++L) cc cs xc:=
 ⟨by rw [AT (aj h.raw)];exact h.raw,by rw [AT (aj h.res)];exact h.res,by rw [AT (aj h.st)];exact h.st,h.lr.push L⟩
section
variable{x:oA}{len:Int}{J:an}{cc:C}{cs:List cd}{xc:FC}
theorem ai'(h:J[0]?=aa (.box [.f (sl x.dg (dB x.ds)),.f (sl x.mg (dK x.ms)),.f (u8 x.len),.f (sl x.eg (iy x.ex))] 0)):aX J ab (.c (.ptr 0 0 0))=aa (.c (.f (sl x.dg (dB x.ds)))):=by simp [aX,aH,h]
theorem ai_(h:J[0]?=aa (.box [.f (sl x.dg (dB x.ds)),.f (sl x.mg (dK x.ms)),.f (u8 x.len),.f (sl x.eg (iy x.ex))] 0)):aX J ab (.c (.ptr 0 1 0))=aa (.c (.f (sl x.mg (dK x.ms)))):=by simp [aX,aH,h]
theorem akA(h:J[0]?=aa (.box [.f (sl x.dg (dB x.ds)),.f (sl x.mg (dK x.ms)),.f (u8 x.len),.f (sl x.eg (iy x.ex))] 0)):aX J ab (.c (.ptr 0 2 0))=aa (.c (.f (u8 x.len))):=by simp [aX,aH,h]
theorem aja(h:J[0]?=aa (.box [.f (sl x.dg (dB x.ds)),.f (sl x.mg (dK x.ms)),.f (u8 x.len),.f (sl x.eg (iy x.ex))] 0)):aX J ab (.c (.ptr 0 3 0))=aa (.c (.f (sl x.eg (iy x.ex)))):=by simp [aX,aH,h]
theorem SM.cls(h:SM x len J cc cs xc):aX J ab (.c (.ptr 3 0 0))=aa (.c cc):=by simp [aX,aH,h.st]
theorem SM.ext(h:SM x len J cc cs xc):aX J ab (.c (.ptr 3 2 0))=aa (.c (.f xc)):=by simp [aX,aH,h.st]
theorem SM.all(h:SM x len J cc cs xc):aX J (aa 3) (.c (.ptr 3 0 0))=aa (.a [cc,.f (fi len),.f xc]):=by simp [aX,aH,h.st,aY]
theorem SM.stx(h:SM x len J cc cs xc)(y:FC):dt J (.ptr 3 2 0) [.f y]=aa (J.set 3 (.box [cc,.f (fi len),.f y] 0))∧SM x len (J.set 3 (.box [cc,.f (fi len),.f y] 0)) cc cs y:=by
 refine⟨by simp [dt,h.st,over],?_,?_,BY (aj h.st),h.lr.set (h.lr.bz h.st) _⟩
 ·rw [sh (by decide)];exact h.raw
 ·rw [sh (by decide)];exact h.res
theorem sy(cs:List cd)(c:cd):aR cs++[c.row]=aR (cs++[c]):=by simp [aR]
theorem SM.app(h:SM x len J cc cs xc)(hl:cs.length≤100)(c:cd):∃ g d,bF (J++[.box (c.row.map .f) 0]) 2 32 (.c cc) (.c (.sl J.length 0 1 1 0 2))=aa (.c g,d)∧dt d (.ptr 3 0 0) [g]=aa (d.set 3 (.box [g,.f (fi len),.f xc] 0)) ∧
  SM x len (d.set 3 (.box [g,.f (fi len),.f xc] 0)) g (cs++[c]) xc:=by
 obtain⟨q,j⟩:=aN (J++[.box (c.row.map .f) 0]:an);have h2:SM x len q cc cs xc:=by rw [j];exact h.push _
 have u:q[J.length]?=aa (.box (c.row.map .f) 0):=by rw [j];simp
 obtain⟨g,d,b,l,s,v⟩:=h2.lr.app (dC cs) (by decide) (row:=c.row) rfl (bytes:=32) (dG (by simp;omega) (by decide)) u;rw [sy]at l;have up:∀(i:Nat) (cs:List C) (fl:Nat),q[i]?=aa (.box cs fl)→d[i]?=aa (.box cs fl):=fun i cs fl hy=>s.2 i _ hy (h2.lr.bz hy);have m:=up _ _ _ h2.st;rw [j]at b;refine⟨g,d,b,by simp [dt,m,over],?_,?_,BY (aj m),l.set (l.bz m) _⟩
 ·rw [sh (by decide)];exact up _ _ _ h2.raw
 ·rw [sh (by decide)];exact up _ _ _ h2.res
end
theorem vE(x:oA)(hx:x.OK):∃ s:aU,Tw s∧bX tab 8 [.a (x.row.map .f)]=Eq (.a (s.row.map .f)):=by
 obtain⟨rr,⟨s,hs,rfl⟩,hp⟩:∃ rr,(∃ s:aU,Tw s∧rr=.a (s.row.map .f))∧bX tab 8 [.a (x.row.map .f)] rr:=by
  refine eQ rfl rfl fun Q hQ=>?_;have k_:=hx.l;obtain⟨len,rest,c,l1,l2⟩:=eight (x.len % 8) (by omega);have i6:bP .rem (.c (.f (u8 x.len))) (.c (.f (.int .u8 8)))=aa (.c (.f (u8 (x.len % 8)))):=by
   have:((x.len:Int)).tmod 8=((x.len % 8:Nat):Int):=by rw [amH (by omega)];omega
   simp [bP,lz,V.int,this]
  have a8:∀ H:an,H[2]?=aa (.box [C.f (fi 30),C.f (fi 60),C.f (fi 90),C.f (fi 600),C.f (fi 1440),C.f (fi 1500),C.f (fi 3000),C.f (fi 10080)] 0)→bB H 1 ab (.c (.sl 2 0 8 8 0 1)) (.c (.f (u8 (x.len % 8))))=aa (.c (.ptr 2 (x.len % 8) 0)):=fun H h=>by
   simp [bB,gj,h];omega
  have a_:∀ H:an,H[2]?=aa (.box [C.f (fi 30),C.f (fi 60),C.f (fi 90),C.f (fi 600),C.f (fi 1440),C.f (fi 1500),C.f (fi 3000),C.f (fi 10080)] 0)→aX H ab (.c (.ptr 2 (x.len % 8) 0))=aa (vi len):=fun H h=>by
   simp only [aX,aH,h,Option.bind_some,c];rfl
  apply ai;simp [oA.row];apply ai;have i4:=fun(H:an) h=>akA (x:=x) (J:=H) h;simp [i4,i6,a8,a_,-ay];apply ai;simp;have dl:=hx.dl;have ml:=hx.ml;have el:=hx.el;have S:∀(t:T) (J:an) (cc:C) (cs:List cd) (A:Int),t.g 1=.c (.ptr 0 0 0)→t.g 2=.c (.ptr 1 0 0)→t.g 3=.c (.ptr 3 0 0)→SM x len J cc cs .aA→rj cs 3 A→WP tab 8 ab [.code uQ] ⟨t,[],J⟩ Q:=by
   intro t J cc cs A d z v q E;obtain⟨N,hN⟩:=aN (min x.ex.length 4);refine au (ai ?_);simp;refine iG N (fun j t J=>t.g 1=.c (.ptr 0 0 0)∧t.g 2=.c (.ptr 1 0 0)∧t.g 3=.c (.ptr 3 0 0)∧∃ B xs,SM x len J cc cs (sl B (aG xs))∧ExP xs j) (by omega) (by decide) (by simp)
    ⟨by simp [d],by simp [z],by simp [v],.nil,[],q,⟨by simp,by simp,by simp⟩⟩ ?_ ?_ ?_
   ·rintro j t J L hj ⟨d,z,v,B,xs,q,I⟩ u w;have r3:=aja q.raw;by_cases Y:(j:Int)<x.ex.length
    ·simp [u,d,r3,-ay,Y];exact w _ ⟨by simp [d],by simp [z],by simp [v],B,xs,q,I⟩ (by simp [u]) (by simp;omega)
    ·simp [u,d,r3,-ay,Y];exact w _ ⟨by simp [d],by simp [z],by simp [v],B,xs,q,I⟩ (by simp [u]) (by simp;omega)
   ·rintro j t J hj ⟨d,z,v,B,xs,q,I⟩ u nx;have f:j<x.ex.length:=by omega
    have r3:=aja q.raw;have rx:=q.ext;have ii:=fun H=>Ji (g:=x.eg) f (H:=H);have dd:=fun H=>Ux f (H:=H);obtain⟨n,w⟩:=aN (x.ex[j]);have j_:n<65536:=w▸hx.e _ (IT f);rw [←w]at dd;have q1:bP .rem (.c (.f (.int .u16 (n:Int)))) (.c (.f (.int .u16 5760)))=aa (.c (.f (.int .u16 ((n:Int) % 5760)))):=by
     have:(n:Int).tmod 5760=(n:Int) % 5760:=amH (by omega);simp [bP,lz,V.int,this]
    have q2:bP .rem (vi n) (vi 7)=aa (vi ((n:Int) % 7)):=eR (by omega) (by decide);have q3:bP .quo (vi n) (vi 5760)=aa (vi ((n:Int) / 5760)):=fy (by omega) (by decide) (by omega);obtain⟨fr,f_⟩:=aN (15*((n:Int) % 5760)-2880);obtain⟨to,i9⟩:=aN (fr+15*(1+(n:Int) / 5760*7));obtain⟨c9,c_,j7,⟨i3,g_⟩,X⟩:=Jj B xs ⟨(n:Int) % 7,fr,to⟩ (by have:=I.n;omega) I.up;simp only [aC.row,alo,alH]at X;obtain⟨j3,Z⟩:=q.stx (sl c9 (aG c_));refine az (ai ?_);simp [u,d,r3,-ay,ii,dd,q1,aO (n:=(n:Int) % 5760),aO (n:=15*((n:Int) % 5760)),←f_,aO (n:=fr)];refine aq (.inl rfl) ?_;simp [u,d,v,r3,rx,-ay,ii,dd,aO (n:=(n:Int)),q2,q3,aO (n:=(n:Int) / 5760*7),aO (n:=1+(n:Int) / 5760*7),aO (n:=15*(1+(n:Int) / 5760*7)),←i9,aO (n:=to),X,j3,-bw];refine ax (nx _ _ ⟨by simp [d],by simp [z],by simp [v],c9,c_,Z,?_⟩ (by simp [u]));refine⟨by have:=I.n;omega,i3,fun y hy=>?_⟩;rcases(g_ y).1 hy with rfl | hy
    ·show 0≤(n:Int) % 7∧(n:Int) % 7≤7∧-2880≤fr∧fr≤90000∧fr<to∧to≤fr+2000;omega
    ·exact I.ok y hy
   rintro t J ⟨d,z,v,B,xs,q,I⟩ u;have ra:=q.all;have s1:dt J (.ptr 1 0 0) [cc,.f (fi len),.f (sl B (aG xs))]=aa (J.set 1 (.box [cc,.f (fi len),.f (sl B (aG xs))] 0)):=by simp [dt,q.res,over]
   have n1:(J.set 1 (.box [cc,.f (fi len),.f (sl B (aG xs))] 0))[1]?=aa (.box [cc,.f (fi len),.f (sl B (aG xs))] 0):=BY (aj q.res);obtain⟨cg,f8⟩:=q.lr.VW (dC cs);have e1:=f8 (J.set 1 (.box [cc,.f (fi len),.f (sl B (aG xs))] 0)) 63 fun i y hi he=>by
    rw [sh (by rintro rfl;exact q.lr.bz q.res he)];exact hi
   apply ai;simp [z,v,ra,s1,-ay,-bw];refine aD (hQ _ _ _ ⟨⟨cg,cs,len,B,xs⟩,J8 E ⟨by have:=I.n;omega,I.up,I.ok⟩ l1 l2,rfl⟩ ⟨rfl,.a [cc,.f (fi len),.f (sl B (aG xs))],?_,?_⟩)
   ·simp [Km.results,cm,aZ,z,n1,aY]
   ·simp [me,dE,aZ,deep,e1,aU.row]
  obtain⟨N,hN⟩:=aN (min (min x.ms.length 3) x.ds.length);refine au (ai ?_);simp;refine iG N (fun j t J=>t.g 1=.c (.ptr 0 0 0)∧t.g 2=.c (.ptr 1 0 0)∧t.g 3=.c (.ptr 3 0 0)∧∃ cc cs A,t.g 4=vi A∧SM x len J cc cs .aA∧rj cs j A∧A≤-1500+4000*(j:Int)) (by omega) (by decide) (by simp)
   ⟨by simp,by simp,by simp,.f .aA,[],-1500,by simp,⟨rfl,rfl,rfl,LR.nil _ _⟩,⟨by simp,by omega,by simp,by simp⟩,by omega⟩ ?_ ?_ ?_
  ·rintro j t J L hj ⟨d,z,v,cc,cs,A,M,q,E,r⟩ u w;have r0:=ai' q.raw;have r1:=ai_ q.raw;have K:∀ U:T,U.g 1=.c (.ptr 0 0 0)→U.g 2=.c (.ptr 1 0 0)→U.g 3=.c (.ptr 3 0 0)→U.g 4=vi A→U.g 5=vi j→U.g 31=vb (decide ((j:Int)<(N:Int)))→L ⟨U,[],J⟩:=fun U d z v M g5 d9=>w U ⟨d,z,v,cc,cs,A,M,q,E,r⟩ g5 d9;by_cases Y:(j:Int)<x.ms.length
   ·by_cases c2:(j:Int)<3
    ·by_cases c3:(j:Int)<x.ds.length
     ·simp [u,d,r0,r1,-ay,Y,c2,c3];exact K _ (by simp [d]) (by simp [z]) (by simp [v]) (by simp [M]) (by simp [u]) (by simp;omega)
     ·simp [u,d,r0,r1,-ay,Y,c2,c3];exact K _ (by simp [d]) (by simp [z]) (by simp [v]) (by simp [M]) (by simp [u]) (by simp;omega)
    ·simp [u,d,r0,r1,-ay,Y,c2];exact K _ (by simp [d]) (by simp [z]) (by simp [v]) (by simp [M]) (by simp [u]) (by simp;omega)
   ·simp [u,d,r0,r1,-ay,Y];exact K _ (by simp [d]) (by simp [z]) (by simp [v]) (by simp [M]) (by simp [u]) (by simp;omega)
  ·rintro j t J hj ⟨d,z,v,cc,cs,A,M,q,E,r⟩ u nx;have o:j<x.ms.length:=by omega
   have j4:j<x.ds.length:=by omega
   have r0:=ai' q.raw;have r1:=ai_ q.raw;have ii:=fun H=>vo (g:=x.mg) o (H:=H);have dd:=fun H=>zz o (H:=H);obtain⟨m,hm⟩:=aN (x.ms[j]);have j9:m<256:=hm▸hx.m _ (IT o);rw [←hm]at dd;have j8:=E.lo;obtain⟨F,b_⟩:=aN (A+1+15*(m:Int));obtain⟨e,he⟩:=aN (min (j+2) x.ds.length);have h_:min ((j:Int)+2) (x.ds.length:Int)=(e:Int):=by omega
   have W:=fun H:an=>agc (H:=H) (sz:=1) (g:=x.dg) (rows:=dB x.ds) (k:=j) (m:=e) (qI _) (by omega) (by simp;omega) (fun h=>by have:=congrArg List.length h;rw [Ax,amR]at this;omega);have i7:((dB x.ds).take e).drop j=dB ((x.ds.take e).drop j):=by simp [dB,am6,anf]
   rw [i7]at W;obtain⟨tg,ts,⟨e_,f7⟩,p⟩:=UH .fs (l:=(x.ds.take e).drop j) (by simp;omega) fun b hb=>hx.d b (amj (alY hb));have hT:mq ts∧nL ts≤2:=⟨e_,by simp only [alD,alV]at f7;omega⟩
   refine az (ai ?_);simp [u,d,M,r1,-ay,ii,dd,aO (n:=A+1),aO (n:=(m:Int)),aO (n:=15*(m:Int)),←b_,aO (n:=F)];apply ai;simp [u,d,r0,-ay,aO (n:=(j:Int)+2),h_,W,p];have O:=q.push [.box [.f (sl tg (aB (ts.map fun fs=>⟨.fs,fs⟩)))] 0];have bx:(J++[b7.box [.f (sl tg (aB (ts.map fun fs=>⟨.fs,fs⟩)))] 0])[J.length]?=aa (.box [.f (sl tg (aB (ts.map fun fs=>⟨.fs,fs⟩)))] 0):=by simp
   obtain⟨J1,d_⟩:=aN (J++[b7.box [.f (sl tg (aB (ts.map fun fs=>⟨.fs,fs⟩)))] 0]:an);rw [←d_]at O bx ⊢;have i_:aX J1 (aa 1) (.c (.ptr J.length 0 0))=aa (.a [.f (sl tg (aB (ts.map fun fs=>⟨.fs,fs⟩)))]):=by simp [aX,aH,bx,aY]
   apply ai;by_cases k:F≤4320
   ·simp [k];obtain⟨c3,H3,a7,i8,Z⟩:=O.app (by have:=E.n;omega) (B_ tg ts F);have a:bF (J1++[.box [.f (sl tg (aB (ts.map fun fs=>⟨.fs,fs⟩))),.f (fi F)] 0]) 2 32 (.c cc) (.c (.sl J1.length 0 1 1 0 2))=aa (.c c3,H3):=a7;have rc:=O.cls;refine av (by simp) (aq (.inl rfl) ?_);simp [v,rc,i_,a,i8,-ay,-bw];refine ax (nx _ _ ⟨by simp [d],by simp [z],by simp [v],c3,_,F,by simp,Z,E.more (by omega) k hT,by omega⟩ (by simp [u]))
   ·simp [k];refine aW (by simp) ?_;refine ax (nx _ _ ⟨by simp [d],by simp [z],by simp [v],cc,cs,F,by simp,O,E.skip (by omega),by omega⟩ (by simp [u]))
  rintro t J ⟨d,z,v,cc,cs,A,M,q,E,r⟩ u;exact S t J cc cs A d z v q ⟨by have:=E.n;omega,E.lo,E.ok,E.up⟩
 exact⟨s,hs,hp.eq⟩
theorem zZ(n m:Int)(g:0<m)(j:m≤4611686018427387904):bX tab 205 [vi n,vi m]=Eq (vi (n % m)):=Kf.eq (by
 have u:=Int.lt_tmod_of_pos n g;have v:=Int.tmod_lt_of_pos n g;have b:bP .rem (vi n) (vi m)=aa (vi (n.tmod m)):=gV (by omega);have e:n % m=if n.tmod m<0 then n.tmod m+m else n.tmod m:=by
  rw [Int.emod_eq_tmod];have l:((m.natAbs:Nat):Int)=m:=by omega
  by_cases h:0≤n∨m ∣ n
  ·rw [ba h];rcases h with h | h
   ·have:=Int.tmod_nonneg m h;rw [aS (by omega)];omega
   ·rw [Int.tmod_eq_zero_of_dvd h];simp
  ·rw [aS h];have q:n.tmod m≠0:=fun k=>h (.inr (Int.dvd_of_tmod_eq_zero k));have s:n.tmod m≤0:=by
    have:=Int.tmod_nonneg m (show 0≤-n by omega);rw [Int.neg_tmod]at this;omega
   rw [ba (by omega)];omega
 refine dM rfl rfl fun H Q d=>?_;apply ai;simp;refine au (ai ?_);simp [b];apply ai;by_cases k:n.tmod m<0
 ·simp [k];refine av (by simp) (aq (.inl rfl) ?_);simp [aO (n:=n.tmod m+m)];apply ai;simp;refine aD (d _ _ ?_);simp [e,k]
 ·simp [k];refine aW (by simp) ?_;apply ai;simp;refine aD (d _ _ ?_);simp [e,k])
theorem aio:Ts tab et 256:=Ct
theorem U1:As tab et:=Km.Ord.As.of (by kernel_rfl) (by kernel_rfl)
theorem VC{H:an}{v:C}{l:List Int}(j:LR H v 1 (ints l))(g:l.length≤256) :
  ∃ r H',Ev tab (.fn 95) [.c v] H r H'∧(r=.t []∧Kb H H' v∧∃ d,LR H' v 1 (ints d)∧d.Perm l∧d.Pairwise (·≤·)):=
 Km.Ord.VD (N:=256) adR U1 (fun a b H=>qS a b H) (by omega) aio j g
structure Tv(l:List Int)(k:Nat)(d:Int):Prop where
 rep:∀ i,k≤i→(h:i<l.length)→l[i]=l[i-k]'(by omega)+d
 last:∀ h:k-1<l.length,l[k-1]<d
theorem CY{l:List Int}{k:Nat}{d:Int}(y:0<k)(v:Tv l k d):∀(t j:Nat),j<k→(h:t*k+j<l.length)→l[t*k+j]=l[j]'(Nat.lt_of_le_of_lt (Nat.le_add_left _ _) h)+t*d:=by
 intro t;induction t with
 | zero=>intro j b h;simp
 | succ t x=>
  intro j b h;have e:(t+1)*k+j=t*k+j+k:=by rw [alM];omega
  have q:t*k+j<l.length:=by omega
  have s:=v.rep (t*k+j+k) (by omega) (by omega);have u:=x j b q;have g:l[(t+1)*k+j]=l[t*k+j+k]'(by omega):=by congr 1
  have m:l[t*k+j+k-k]'(by omega)=l[t*k+j]:=by congr 1;omega
  rw [g,s,m,u,Int.natCast_add,Int.add_mul];omega
theorem hZ{l:List Int}(g:l.Pairwise (· < ·)){i j:Nat}(b:i≤j)(d:j<l.length):l[i]≤l[j]:=by
 rcases alO i j with h | h
 ·exact Int.le_of_lt (alR.1 g i j (by omega) d h)
 ·have:i=j:=by omega
  subst this;exact amM _
structure sk(aM:Int)(l:List Int)(zU:Int)(l':List Int):Prop where
 p1:1≤zU
 dvd:zU ∣ aM
 ne:l'≠[]
 len:l'.length≤l.length
 up:l'.Pairwise (· < ·)
 mem:∀ x ∈ l',0≤x∧x<zU
 iff:∀ r,0≤r→r<aM→(r ∈ l↔r % zU ∈ l')
theorem Bs{l:List Int}{aM d:Int}{k g:Nat}(J:l.Pairwise (· < ·))(N:∀ x ∈ l,0≤x∧x<aM)(Y:1≤aM)(A:0<k)(E:l.length=g*k)(hd:aM=g*d)(I:Tv l k d)(c:0<l.length):sk aM l d (l.take k):=by
 have F:0<g:=by
  rcases amG g with h | h
  ·rw [h,Nat.zero_mul]at E;omega
  ·exact h
 have M:k≤l.length:=by rw [E];exact Nat.le_mul_of_pos_left k F
 have y:1≤d:=by
  rcases amz d 1 with h | h
  ·have:=Int.mul_nonneg_of_nonpos_of_nonpos (a:=-(g:Int)) (b:=d) (by omega) (by omega);rw [Int.neg_mul]at this;omega
  ·exact h
 have B:=I.last (by omega);have v:∀ j,(h:j<k)→0≤l[j]'(by omega)∧l[j]'(by omega)<d:=fun j h=>by
  have a:=(N _ (IT (l:=l) (n:=j) (by omega))).1;have b:=hZ J (i:=j) (j:=k-1) (by omega) (by omega);exact⟨a,by omega⟩
 refine⟨y,⟨g,by rw [hd,ami]⟩,?_,by simp;omega,J.sublist (List.take_sublist k l),?_,?_⟩
 ·intro h;have:=congrArg List.length h;rw [alV,amR]at this;omega
 ·intro x S;obtain⟨j,L,rfl⟩:=al6.1 S;exact v j (by omega)
 ·intro r W X;constructor
  ·intro H;obtain⟨i,hi,rfl⟩:=alB H;have u:=Nat.div_add_mod i k;have q:=Nat.mod_lt i A;have Z:i / k*k+i % k=i:=by rw [anl];exact u
   have s:=CY A I (i / k) (i % k) q (by omega);have e:l[i / k*k+i % k]'(by omega)=l[i]:=by congr 1
   rw [e]at s;obtain⟨a,b⟩:=v (i % k) q;rw [s,Int.add_mul_emod_self_right,amx a b];exact al6.2 ⟨i % k,by omega,rfl⟩
  ·intro H;obtain⟨j,L,e⟩:=al6.1 H;have z:j<k:=by omega
   have U:0≤r / d:=amr W (by omega);have f:r / d<g:=Int.ediv_lt_of_lt_mul (by omega) (by rw [←hd];exact X);obtain⟨t,O⟩:∃ t:Nat,(t:Int)=r / d:=⟨(r / d).toNat,Int.toNat_of_nonneg U⟩
   have Q:t<g:=by omega
   have m:t*k+j<l.length:=by
    rw [E];have:(t+1)*k≤g*k:=Nat.mul_le_mul_right k (by omega);rw [alM]at this;omega
   have s:=CY A I t j z m;have K:=al8 r d;rw [e,O]at s;have:l[t*k+j]=r:=by rw [s,ami];exact K
   exact this▸IT m
theorem Br{l:List Int}{aM:Int}(j:l.Pairwise (· < ·))(g:∀ x ∈ l,0≤x∧x<aM)(b:1≤aM)(d:0<l.length):sk aM l aM l:=
 ⟨b,amL _,al0.1 d,alk _,j,g,fun r m q=>by rw [amx m q]⟩
theorem abK(g:Tg)(l:List Int)(aM:Int)(q:Nat)(H:an)(w:H[0]?=aa (.box [.f (fi aM)] 0))(N:H[1]?=aa (.box [.f (sl g (ints l))] 0))(O:H[2]?=aa (.box [.f (fi l.length)] 0))
  (d_:1≤aM) (e_:aM≤4611686018427387904) (hl:l.length≤1000000) (W:∀ x ∈ l,0≤x∧x<aM) (f7:1≤q) (X:q≤l.length) :
  ∃ r H',Ev tab (.fn 213) [vi q,.c (.ptr 0 0 0),.c (.ptr 2 0 0),.c (.ptr 1 0 0)] H r H'∧(∃ b,r=vb b∧H'=H∧(b=ae→Tv l (l.length / q) (aM / q))):=by
 obtain⟨d,hd⟩:=aN (aM / (q:Int));obtain⟨k,I⟩:=aN (l.length / q);have a8:0≤d:=by rw [hd];exact amr (by omega) (by omega)
 have a_:d≤aM:=by rw [hd];exact amC _ (by omega)
 have c_:1≤k:=by rw [I];exact Nat.div_pos X (by omega)
 have U:k≤l.length:=by rw [I];exact Nat.div_le_self _ _
 have Y:bP .quo (vi aM) (vi q)=aa (vi d):=by rw [fy (by omega) (by omega) (by omega),hd]
 have Z:bP .quo (vi l.length) (vi q)=aa (vi k):=by rw [fy (by omega) (by omega) (by omega),I];rfl
 refine cH rfl rfl fun Q o=>?_;apply ai;simp;apply ai;simp [w,O,Y,Z];apply au;apply ai;simp;refine az ?_;refine bJ (fun m s=>∃(i:Nat) (t:T),s=⟨t,[],H⟩∧m=l.length-i∧k≤i∧i≤l.length∧t.g 1=.c (.ptr 0 0 0)∧t.g 2=.c (.ptr 2 0 0)∧t.g 3=.c (.ptr 1 0 0)∧t.g 6=vi d∧t.g 7=vi k∧t.g 8=vi i ∧
  ∀ j,k≤j→j<i→(h:j<l.length)→l[j]=l[j-k]'(by omega)+d) (l.length-k)
  ⟨k,_,rfl,rfl,by omega,U,by simp,by simp,by simp,by simp,by simp,by simp,fun j N O=>by omega⟩ ?_
 rintro m s ⟨i,t,rfl,rfl,d9,c9,p,f,J,K,L,M,z⟩ ih;apply au;apply ai;simp [f,M,O];by_cases v:i<l.length
 ·refine av (by simp [v]) (aP ?_);apply au;refine az ?_;have a7:=W _ (IT v);have E:i-k<l.length:=by omega
  have S:=W _ (IT E);have u:=fun H:an=>bG (H:=H) (g:=g) (rows:=ints l) (sz:=1) (k:=.i64) (i:=(i:Int)) (by omega) (by simp [ints];omega);have F:=fun H:an=>bG (H:=H) (g:=g) (rows:=ints l) (sz:=1) (k:=.i64) (i:=((i:Int)-k)) (by omega) (by simp [ints];omega);have B:=fun H:an=>eh (H:=H) v;have c:=fun H:an=>eh (H:=H) E;simp at u F;apply ai;simp [J,K,L,M,N,u,B,aO (n:=(i:Int)-k),F,c,aO (n:=l[i-k]+d)];by_cases A:l[i]=l[i-k]+d
  ·refine aW (by simp [A]) ?_;refine ax (aq (.inl rfl) ?_);simp [M,aO (n:=(i:Int)+1)];refine ih (l.length-(i+1)) _ (by omega) ⟨i+1,_,rfl,rfl,by omega,by omega,by simp [p],by simp [f],by simp [J],by simp [K],by simp [L],by simp,fun j a b h=>?_⟩;by_cases e:j=i
   ·subst e;exact A
   ·exact z j a (by omega) h
  ·refine av (by simp [A]) ?_;apply ai;simp;exact aD (o _ _ _ rfl (dz (by simp)) ⟨ag,rfl,rfl,by simp⟩)
 ·have b_:i=l.length:=by omega
  refine aF (by simp [v]) ?_;refine bg rfl ?_;have y:k-1<l.length:=by omega
  have S:=W _ (IT y);have u:=fun H:an=>bG (H:=H) (g:=g) (rows:=ints l) (sz:=1) (k:=.i64) (i:=((k:Int)-1)) (by omega) (by simp [ints];omega);have B:=fun H:an=>eh (H:=H) y;simp at u;apply ai;simp [J,K,L,N,u,B,aO (n:=(k:Int)-1)];refine aD (o _ _ _ rfl (dz (by simp)) ⟨decide (l[k-1]<d),rfl,rfl,fun hb=>?_⟩);rw [←I,←hd];exact⟨fun j a h=>z j a (by omega) h,fun _=>by simpa using hb⟩
theorem acx{H:an}{sz:Nat}{g:Tg}{rows:List (List FC)}{m:Nat}(u:bO sz rows)(z:m≤rows.length)(v:rows≠[]) :
  bM H sz (.c (.f (sl g rows))) ab (aa (vi m)) ab=aa (.c (.f (sl .fs (rows.take m)))):=by
 cases rows with
 | nil=>exact absurd rfl v
 | cons x r=>
  have b:xP (vi m) (x::r).length=aa m:=by
   have:(0:Int)≤(m:Int)∧(m:Int)≤((x::r).length:Int):=⟨by omega,by omega⟩
   show(if(0:Int)≤(m:Int)∧(m:Int)≤((x::r).length:Int)then aa (m:Int).toNat else ab)=aa m;rw [ba this,alJ]
  have j:bH (x::r).length (x::r).length ab (aa (vi m)) ab=aa (0,m,(x::r).length):=by
   simp only [al2]at b;simp [bH,b]
  show bM H sz (.c (.f (.fs (x::r).flatten (x::r).length))) _ _ _=_;simp only [bM,j];have l:((x::r).flatten.drop (0*sz)).take ((m-0)*sz)=((x::r).take m).flatten:=by
   rw [Nat.zero_mul,amd,Nat.sub_zero,nF m u]
  have d:((x::r).take m).length=m:=by rw [alV];omega
  rw [l];have s:sl .fs ((x::r).take m)=.fs ((x::r).take m).flatten (m-0):=by
   rw [Nat.sub_zero];cases hd:(x::r).take m with
   | nil=>rw [hd]at d;simp at d;rw [←d];rfl| cons y q=>rw [hd]at d;rw [←d];rfl
  rw [s];simp
theorem vz(l:List Int)(k:Nat):(ints l).take k=ints (l.take k):=by simp [ints,am6]
theorem Cm{l:List Int}(h:0<l.length):ints l≠[]:=by cases l with
 | nil=>simp at h| cons a l=>simp [ints]
theorem Bt(g:Tg)(l:List Int)(aM:Int)(E:1≤aM)(a7:aM≤4611686018427387904)(B:0<l.length)(hl:l.length≤1000000)(M:l.Pairwise (· < ·))(X:∀ x ∈ l,0≤x∧x<aM) :
  ∃ j g' F,sk aM l j F∧bX tab 168 [vi aM,.c (.f (sl g (ints l)))]=Eq (.t [vi j,.c (.f (sl g' (ints F)))]):=by
 have key:∃ r,(∃ j g' F,sk aM l j F∧r=.t [vi j,.c (.f (sl g' (ints F)))])∧bX tab 168 [vi aM,.c (.f (sl g (ints l)))] r:=by
  refine eQ rfl rfl fun Q hQ=>?_;apply ai;simp;apply ai;simp;apply ai;simp;apply au;apply ai;simp;obtain⟨H,N⟩:=aN ([.box [.f (fi aM)] 0,.box [.f (sl g (ints l))] 0,.box [.f (fi l.length)] 0]:an);have K:H[0]?=aa (.box [.f (fi aM)] 0):=by rw [N];rfl
  have U:H[1]?=aa (.box [.f (sl g (ints l))] 0):=by rw [N];rfl
  have L:H[2]?=aa (.box [.f (fi l.length)] 0):=by rw [N];rfl
  rw [←N];refine az ?_;refine bJ (fun m s=>∃ t:T,s=⟨t,[],H⟩∧1≤m∧m≤l.length∧t.g 2=.c (.ptr 0 0 0)∧t.g 3=.c (.ptr 1 0 0)∧t.g 6=.c (.ptr 2 0 0)∧t.g 7=.c (.cl 213 [.ptr 0 0 0,.ptr 2 0 0,.ptr 1 0 0])∧t.g 8=vi m) l.length
   ⟨_,rfl,by omega,alk _,by simp,by simp,by simp,by simp,by simp⟩ ?_
  rintro m s ⟨t,rfl,Y,Z,q,z,v,J,u⟩ ih;apply au;apply ai;simp [u];by_cases c_:1<m
  ·refine av (by simp;omega) (aP ?_);apply au;refine az ?_;have next:∀ I:T,I.g 2=.c (.ptr 0 0 0)→I.g 3=.c (.ptr 1 0 0)→I.g 6=.c (.ptr 2 0 0)→I.g 7=.c (.cl 213 [.ptr 0 0 0,.ptr 2 0 0,.ptr 1 0 0])→I.g 8=vi m →
     WP tab 168 ab [.code uI,.inLoop uH,.inBlock 0,.code uJ] ⟨I,[],H⟩ Q:=by
    intro I q z v J u;refine aq (.inl rfl) ?_;simp [u,aO (n:=(m:Int)-1)];exact ih (m-1) _ (by omega) ⟨_,rfl,by omega,by omega,by simp [q],by simp [z],by simp [v],by simp [J],by simp;omega⟩
   have q1:bP .rem (vi l.length) (vi m)=aa (vi ((l.length % m:Nat):Int)):=by rw [eR (by omega) (by omega)];rfl
   have q2:bP .rem (vi aM) (vi m)=aa (vi (aM % m)):=eR (by omega) (by omega);by_cases k1:l.length % m=0
   ·by_cases k2:aM % (m:Int)=0
    ·obtain⟨r,H',A,b,rfl,rfl,hb⟩:=abK g l aM m H K U L E a7 hl X Y Z;have A:=A.eq;apply ai;simp [q,v,J,u,K,L,q1,q2,k1,k2,bW,A];cases b with
     | false=>
      refine aF (by simp) (aP (ax ?_));exact next _ (by simp [q]) (by simp [z]) (by simp [v]) (by simp [J]) (by simp [u])
     | true=>
      obtain⟨d,hd⟩:=aN (aM / (m:Int));obtain⟨k,O⟩:=aN (l.length / m);have S:=hb rfl;rw [←hd,←O]at S;have e1:l.length=m*k:=by rw [O];have:=Nat.div_add_mod l.length m;omega
      have e2:aM=m*d:=by rw [hd];have:=al8 aM m;omega
      have W:0<k:=by
       rcases amG k with h | h
       ·rw [h,Nat.mul_zero]at e1;omega
       ·exact h
      have c9:k≤l.length:=by rw [O];exact Nat.div_le_self _ _
      have a8:bP .quo (vi aM) (vi m)=aa (vi d):=by rw [fy (by omega) (by omega) (by omega),hd]
      have a_:bP .quo (vi l.length) (vi m)=aa (vi k):=by rw [fy (by omega) (by omega) (by omega),O];rfl
      have y:=fun H:an=>acx (H:=H) (g:=g) (m:=k) (Km.Ord.bV l) (by simp [ints];omega) (Cm B);simp only [vz]at y;refine av (by simp) ?_;apply ai;simp [q,z,v,u,K,U,L,a8,a_,y];refine aD (hQ _ _ _ ⟨d,.fs,l.take k,Bs M X E W e1 e2 S B,rfl⟩ ?_);simp
    ·apply ai;simp [q,v,u,K,L,q1,q2,k1,k2];refine aF (by simp) (aP (ax ?_));exact next _ (by simp [q]) (by simp [z]) (by simp [v]) (by simp [J]) (by simp [u])
   ·have b_:¬ ((l.length:Int) % (m:Int)=0):=by rw [←Int.natCast_emod];omega
    apply ai;simp [q,v,u,K,L,q1,b_];refine aF (by simp) (aP (ax ?_));exact next _ (by simp [q]) (by simp [z]) (by simp [v]) (by simp [J]) (by simp [u])
  ·refine aF (by simp;omega) ?_;refine bg rfl ?_;apply ai;simp [q,z,K,U];refine aD (hQ _ _ _ ⟨aM,g,l,Br M X E B,rfl⟩ ?_);simp
 obtain⟨r,⟨j,g',F,S,rfl⟩,h⟩:=key;exact⟨j,g',F,S,h.eq⟩
def rU(fr aM:Int)(bf:List Int)(d:Int):Prop:=(d-fr) % aM ∈ bf
structure mj(hd:List Int)(fr aM:Int)(bf:List Int)(m:Nat)(T base:Int)(j:Nat):Prop where
 ml:m≤hd.length
 tf:T≤fr
 lo:∀ i,(h:i<hd.length)→i<m→hd[i]<T
 hi:∀ i,(h:i<hd.length)→m≤i→T≤hd[i]
 iff:∀ d,T≤d→d<fr→(d ∈ hd↔rU fr aM bf d)
 bs:aM ∣ base-fr
 jl:j<bf.length
 nx:∀ d,d<T→rU fr aM bf d→d≤base+bf[j]
 bt:base+bf[j]<T
section
variable{hd bf:List Int}{fr aM:Int}
theorem oD(m:1≤aM)(l:∀ x ∈ bf,0≤x∧x<aM){base:Int}(j:aM ∣ base-fr)(d:Int):rU fr aM bf d↔∃ c ∈ bf,∃ t:Int,d=base+c+aM*t:=by
 unfold rU;constructor
 ·intro h;obtain⟨k,g⟩:=j;have e:=al8 (d-fr) aM;refine⟨_,h,(d-fr) / aM-k,?_⟩;rw [Int.mul_sub,←g];omega
 ·rintro⟨c,b,t,rfl⟩;obtain⟨k,g⟩:=j;have:(base+c+aM*t-fr) % aM=c:=by
   have e:base+c+aM*t-fr=c+aM*(k+t):=by rw [Int.mul_add,←g];omega
   rw [e,Int.add_mul_emod_self_left,amx (l c b).1 (l c b).2]
  rw [this];exact b
theorem CI{aM t:Int}(b:1≤aM):(t≤-1∧aM*t≤-aM)∨(t=0∧aM*t=0)∨(1≤t∧aM≤aM*t):=by
 rcases Int.lt_trichotomy t 0 with h | h | h
 ·left;have:=alF (show t≤-1 by omega) (show 0≤aM by omega);rw [ans,anB]at this;exact⟨by omega,this⟩
 ·exact .inr (.inl ⟨h,by rw [h,Int.mul_zero]⟩)
 ·right;right;have:=alF (show 1≤t by omega) (show 0≤aM by omega);rw [anB]at this;exact⟨by omega,this⟩
theorem mj.start(m:1≤aM)(hc:∀ x ∈ bf,0≤x∧x<aM)(g:bf.Pairwise (· < ·))(q:∀ x ∈ hd,x<fr)(hl:0<bf.length):mj hd fr aM bf hd.length fr (fr-aM) (bf.length-1) where
 ml:=alk _
 tf:=amM _
 lo:=fun i h _=>q _ (IT h)
 hi:=fun i h s=>by omega
 iff:=fun d h1 h2=>by omega
 bs:=⟨-1,by rw [ans,anB];omega⟩
 jl:=by omega
 nx:=fun d h1 h2=>by
  obtain⟨c,b,t,rfl⟩:=(oD m hc (base:=fr-aM) ⟨-1,by rw [ans,anB];omega⟩ d).1 h2;obtain⟨i,hi,rfl⟩:=alB b;have:=hZ g (i:=i) (j:=bf.length-1) (by omega) (by omega);have h3:=hc _ (IT hi);rcases CI (t:=t) m with h | h | h<;>omega
 bt:=by have:=hc _ (IT (l:=bf) (n:=bf.length-1) (by omega));omega
theorem mj.off{m:Nat}{T base:Int}{j:Nat}(h:mj hd fr aM bf (m+1) T base j)(g:hd.Pairwise (· < ·))(F:1≤aM)(hc:∀ x ∈ bf,0≤x∧x<aM)(s:m<hd.length)(B:hd[m]=base+bf[j]'(h.jl)){b:Int}{u:Nat}(A:u<bf.length)
  (v:aM ∣ b-fr) (E:∀ d,d<hd[m]→rU fr aM bf d→d≤b+bf[u]) (H:b+bf[u]<hd[m]):mj hd fr aM bf m hd[m] b u where
 ml:=by have:=h.ml;omega
 tf:=by have:=h.bt;have:=h.tf;omega
 lo:=fun i hi l=>alR.1 g i m hi s l
 hi:=fun i hi l=>hZ g l hi
 iff:=fun d h1 h2=>by
  rcases amz d T with k | k
  ·by_cases e:d=hd[m]
   ·rw [e];refine⟨fun _=>?_,fun _=>IT s⟩;rw [B];exact(oD F hc h.bs _).2 ⟨bf[j]'(h.jl),IT h.jl,0,by rw [Int.mul_zero];omega⟩
   ·constructor
    ·intro z;obtain⟨i,hi,rfl⟩:=alB z;rcases alO i (m+1)with q | q
     ·have:=hZ g (i:=i) (j:=m) (by omega) s;omega
     ·have:=h.hi i hi q;omega
    ·intro y;have:=h.nx d k y;omega
  ·exact h.iff d k h2
 bs:=v
 jl:=A
 nx:=E
 bt:=H
theorem mj.down{m:Nat}{T base:Int}{j:Nat}(h:mj hd fr aM bf (m+1) T base (j+1))(s:hd.Pairwise (· < ·))(b:bf.Pairwise (· < ·))(v:1≤aM)(hc:∀ x ∈ bf,0≤x∧x<aM)(u:m<hd.length)(A:hd[m]=base+bf[j+1]'(h.jl)):mj hd fr aM bf m hd[m] base j:=by
 have y:=h.jl;have B:=alR.1 b j (j+1) (by omega) y (by omega);refine h.off s v hc u A (by omega) h.bs (fun d z g=>?_) (by omega);obtain⟨c,l,t,rfl⟩:=(oD v hc h.bs d).1 g;obtain⟨i,hi,rfl⟩:=alB l;have h3:=hc _ (IT hi);have h4:=hc _ (IT y);have h5:=hc _ (IT (show j<bf.length by omega));rcases CI (t:=t) v with q | q | q
 ·omega
 ·rcases alO j i with r | r
  ·have:=hZ b (i:=j+1) (j:=i) (by omega) hi;omega
  ·have:=hZ b r (show j<bf.length by omega);omega
 ·omega
theorem mj.wrap{m:Nat}{T base:Int}(h:mj hd fr aM bf (m+1) T base 0)(u:hd.Pairwise (· < ·))(b:bf.Pairwise (· < ·))(y:1≤aM)(hc:∀ x ∈ bf,0≤x∧x<aM)(v:m<hd.length)(A:hd[m]=base+bf[0]'(h.jl)):mj hd fr aM bf m hd[m] (base-aM) (bf.length-1):=by
 have B:=h.jl;have g:aM ∣ base-aM-fr:=by
  have:=Int.dvd_sub h.bs (amL aM);rwa [show base-fr-aM=base-aM-fr by omega]at this
 have h4:=hc _ (IT B);have h5:=hc _ (IT (show bf.length-1<bf.length by omega));refine h.off u y hc v A (by omega) g (fun d z l=>?_) (by omega);obtain⟨c,s,t,rfl⟩:=(oD y hc h.bs d).1 l;obtain⟨i,hi,rfl⟩:=alB s;have h3:=hc _ (IT hi);have h6:=hZ b (i:=0) (j:=i) (by omega) hi;have h7:=hZ b (i:=i) (j:=bf.length-1) (by omega) (by omega);rcases CI (t:=t) y with q | q | q<;>omega
structure Stop(hd:List Int)(fr aM:Int)(bf:List Int)(m:Nat)(s:Int):Prop where
 ml:m≤hd.length
 s0:0≤s
 sf:s≤fr
 lo:∀ i,(h:i<hd.length)→i<m→hd[i]<s
 hi:∀ i,(h:i<hd.length)→m≤i→s≤hd[i]
 iff:∀ d,s≤d→d<fr→(d ∈ hd↔rU fr aM bf d)
theorem mj.stop{m:Nat}{T base:Int}{j:Nat}(h:mj hd fr aM bf m T base j)(z:hd.Pairwise (· < ·))(h0:∀ x ∈ hd,0≤x)(F:0≤fr){last s:Int}(b:(m=0∧last = -1)∨∃ l:m-1<hd.length,0<m∧last=hd[m-1])
  (J:(base+bf[j]'(h.jl)<0∧last<0∧s=0)∨(¬ (base+bf[j]'(h.jl)<0∧last<0)∧base+bf[j]'(h.jl)≠last∧s=max (base+bf[j]'(h.jl)) last+1)):Stop hd fr aM bf m s:=by
 have E:=h.bt;have K:=h.tf;have I:last<T∨last = -1:=by
  rcases b with⟨_,e⟩ | ⟨l,h1,e⟩
  ·exact .inr e
  ·rw [e];exact .inl (h.lo _ l (by omega))
 have v:∀ i,(hi:i<hd.length)→i<m→hd[i]≤last:=fun i hi g=>by
  rcases b with⟨e,_⟩ | ⟨l,h1,e⟩
  ·omega
  ·rw [e];exact hZ z (by omega) l
 rcases J with⟨L,M,rfl⟩ | ⟨L,M,rfl⟩
 ·have A:m=0:=by
   rcases b with⟨e,_⟩ | ⟨l,h1,e⟩
   ·exact e
   ·have:=h0 _ (IT l);omega
  subst A;refine⟨by omega,by omega,F,fun i hi g=>by omega,fun i hi _=>h0 _ (IT hi),fun d B y=>?_⟩;rcases amz d T with q | q
  ·constructor
   ·intro u;obtain⟨i,hi,rfl⟩:=alB u;have:=h.hi i hi (by omega);omega
   ·intro hc;have:=h.nx d q hc;omega
  ·exact h.iff d q y
 ·have H:-1≤last:=by
   rcases b with⟨_,e⟩ | ⟨l,h1,e⟩
   ·omega
   ·have:=h0 _ (IT l);omega
  refine⟨h.ml,by omega,by omega,fun i hi g=>by have:=v i hi g;omega,fun i hi g=>by have:=h.hi i hi g;omega,fun d B y=>?_⟩;rcases amz d T with q | q
  ·constructor
   ·intro u;obtain⟨i,hi,rfl⟩:=alB u;rcases alO i m with r | r
    ·have:=v i hi r;omega
    ·have:=h.hi i hi r;omega
   ·intro hc;have:=h.nx d q hc;omega
  ·exact h.iff d q y
end
structure md(p q:aI):Prop where
 ok:cF q=ae
 fr:q.fr≤p.fr
 aM:q.aM ∣ p.aM
 mem:∀ d,0≤d→bK q d=bK p d
def eG(fr s aM:Int)(bf:List Int):List Int:=bf.map fun c=>(fr+c-s) % aM
theorem pB{p:aI}(m:0≤p.fr)(q:p.fr≤1099511627776)(s:1≤p.aM)(u:p.aM≤1099511627776)(z:p.head.length+p.bf.length≤1048576)(v:p.head.Pairwise (· < ·))(g:∀ x ∈ p.head,0≤x∧x<p.fr)(y:p.bf.Pairwise (· < ·))(j:∀ x ∈ p.bf,0≤x∧x<p.aM):cF p=ae:=by
 have a:=nB (limit:=p.fr) (last:=-1) (l:=p.head) (fun x d=>⟨by have:=g x d;omega,(g x d).2⟩) v;have b:=nB (limit:=p.aM) (last:=-1) (l:=p.bf) (fun x d=>⟨by have:=j x d;omega,(j x d).2⟩) y;simp only [cF,a,b,Bool.and_true,If,decide_eq_true_eq];exact⟨⟨⟨⟨m,q⟩,s⟩,u⟩,by omega⟩
theorem Uf{fr s aM c d:Int}(l:0≤c∧c<aM)(j:0≤d∧d<aM)(h:(fr+c-s) % aM=(fr+d-s) % aM):c=d:=by
 have g:=(px (a:=fr+c-s) (b:=fr+d-s) (n:=aM)).1 h;rw [show fr+c-s-(fr+d-s)=c-d by omega]at g;obtain⟨k,m⟩:=g;rcases CI (aM:=aM) (t:=k) (by omega)with q | q | q<;>omega
theorem tM{fr s aM:Int}{bf:List Int}(q:1≤aM)(l:∀ x ∈ bf,0≤x∧x<aM)(d:Int):(d-s) % aM ∈ eG fr s aM bf↔rU fr aM bf d:=by
 unfold eG rU;rw [alC];constructor
 ·rintro⟨c,g,h⟩;have j:=(px (a:=fr+c-s) (b:=d-s) (n:=aM)).1 h;rw [show fr+c-s-(d-s) = -(d-fr-c) by omega,Int.dvd_neg]at j;have m:=(aiy (l c g).1 (l c g).2).2 j;rw [m];exact g
 ·intro h;refine⟨_,h,?_⟩;rw [px];have e:=al8 (d-fr) aM;exact⟨-((d-fr) / aM),by rw [ans];omega⟩
theorem nQ{fr s aM:Int}{bf g:List Int}(B:1≤aM)(q:bf.Pairwise (· < ·))(u:∀ x ∈ bf,0≤x∧x<aM)(d:g.Perm (eG fr s aM bf))(l:g.Pairwise (·≤·)):g.Pairwise (· < ·)∧(∀ x ∈ g,0≤x∧x<aM)∧g.length=bf.length:=by
 have m:(eG fr s aM bf).Nodup:=by
  unfold eG;rw [List.nodup_iff_pairwise_ne,List.pairwise_map];refine List.Pairwise.imp_of_mem ?_ q;intro a b v z y e;have:=Uf (u a v) (u b z) e;omega
 have j:g.Nodup:=d.nodup_iff.2 m;refine⟨?_,fun x A=>?_,by rw [d.length_eq];simp [eG]⟩
 ·have:=List.Pairwise.and l (List.nodup_iff_pairwise_ne.1 j);exact anK (fun h=>by omega) this
 ·have:=d.mem_iff.1 A;unfold eG at this;obtain⟨c,-,rfl⟩:=alC.1 this;exact⟨amc _ (by omega),al9 _ (by omega)⟩
theorem IB{p:aI}(M:cF p=ae){b:Int}{g:List Int}(j:sk p.aM p.bf b g){m:Nat}{s:Int}(u:Stop p.head p.fr b g m s){v:List Int}(l:v.Perm (eG p.fr s b g))(y:v.Pairwise (·≤·))(K H:Tg) :
  md p ⟨K,p.head.take m,s,b,H,v⟩:=by
 obtain⟨W,X,Y,Z,c,I,J,e,f⟩:=a6 M;obtain⟨Q,S,U⟩:=nQ j.p1 j.up j.mem l y;have N:b≤p.aM:=amn (by omega) j.dvd;have E:=j.len;have L:=u.ml;have A:=u.sf;have z:=u.s0;refine⟨pB z (by show s≤_;omega) j.p1 (by show b≤_;omega) (by show(p.head.take m).length+v.length≤_;rw [alV,U];omega) (I.sublist (List.take_sublist _ _)) (fun x O=>?_) Q S,A,j.dvd,fun d hd=>?_⟩
 ·obtain⟨i,hi,rfl⟩:=al6.1 O;have a:=J _ (IT (show i<p.head.length by omega));exact⟨by omega,u.lo i (by omega) (by omega)⟩
 ·have q:∀ d,p.fr≤d→((d-p.fr) % p.aM ∈ p.bf↔rU p.fr b g d):=fun d hd=>by
   have:=j.iff ((d-p.fr) % p.aM) (amc _ (by omega)) (al9 _ (by omega));rw [this,amA _ j.dvd];rfl
  have F:(d-s) % b ∈ v↔rU p.fr b g d:=by rw [l.mem_iff];exact tM j.p1 j.mem d
  unfold bK;simp only;by_cases k:s≤d
  ·rw [ba k];by_cases B:p.fr≤d
   ·rw [ba B];apply decide_eq_decide.2;rw [F,q d B]
   ·rw [aS B];apply decide_eq_decide.2;rw [F,u.iff d k (by omega)]
  ·rw [aS k,aS (by omega)];apply decide_eq_decide.2;constructor
   ·exact fun h=>amj h
   ·intro h;obtain⟨i,hi,rfl⟩:=alB h;refine al6.2 ⟨i,?_,rfl⟩;rcases alO i m with r | r
    ·omega
    ·have:=u.hi i hi r;omega
theorem IA{p:aI}(A:cF p=ae)(y:p.bf=[]){s:Int}(u:(p.head=[]∧s=0)∨∃ h:p.head.length-1<p.head.length,s=p.head[p.head.length-1]+1)(z v:Tg):md p ⟨z,p.head,s,1,v,[]⟩:=by
 obtain⟨B,E,F,H,I,m,q,J,K⟩:=a6 A;have b:∀ x ∈ p.head,0≤x∧x<s:=fun x l=>by
  have a:=q x l;rcases u with⟨e,-⟩ | ⟨h,e⟩
  ·rw [e]at l;simp at l
  ·obtain⟨i,hi,rfl⟩:=alB l;have:=hZ m (i:=i) (j:=p.head.length-1) (by omega) h;omega
 have g:0≤s∧s≤p.fr:=by
  rcases u with⟨e,rfl⟩ | ⟨h,e⟩
  ·omega
  ·have:=q _ (IT h);omega
 refine⟨pB g.1 (by show s≤_;omega) (amM _) (show(1:Int)≤1099511627776 by decide) (by simp;omega) m b List.Pairwise.nil (by simp),g.2,Int.one_dvd _,fun d hd=>?_⟩;unfold bK;simp only [y];by_cases k:s≤d
 ·rw [ba k];have:d ∉ p.head:=fun h=>by have:=b d h;omega
  split<;>simp [this]
 ·rw [aS k,aS (by omega)]
theorem oU{tab:TB}{fn:Nat}{k:List cP}{t:T}{q:List fk}{H:an}{Q:Option aw→St→Prop}{u:Option Nat}{b s d:Nat}{v:T}{ps:List P}{l bd:aw}{st:dS}{j:Nat}(x:H[b]?=aa (.lp s v ps l bd st (aa (.exit j)) d))(g:st≠.busy)
  (h:WP tab fn u (.code (.exit j)::k) ⟨t,q,H.set b (.lp s v ps l bd .exhausted (aa (.exit j)) d)⟩ Q):WP tab fn u (.jH b::k) ⟨t,q,H⟩ Q:=by
 refine iw h fun m d n=>?_;simp only [run,x,aS g]
theorem yO(x:FC)(H:an):∃ r H',Ev tab (.fn 169) [.c (.f x)] H r H'∧(r=.c (.cl 214 [.ptr H.length 0 0])∧H'=H++[.box [.f x] 0]):=by
 refine cH rfl rfl fun Q b=>?_;apply ai;simp;apply ai;simp;exact aD (b _ _ _ rfl (dz (by simp)) ⟨rfl,rfl⟩)
theorem yP{b bx:Nat}{g:Tg}{l:List Int}{PP:Nat→an→Prop}{EX:an→Prop}(U:l.length≤1000000)(q:∀ i H,PP i H→∃ a,H[bx]?=aa (.box [.f (sl g (ints l))] a)){H:an}(F:PP l.length H)
  (O:∀ i (h:i<l.length) H,PP (i+1) H→∃ r H',Ev tab (.yield b) [vi i,vi l[i]] H r H'∧((r=vb ae∧PP i H')∨(r=vb ag∧EX H'))) :
  ∃ r H',Ev tab (.fn 214) [.c (.yl b),.c (.ptr bx 0 0)] H r H'∧(r=.t []∧(PP 0 H'∨EX H')):=by
 refine cH rfl rfl fun Q I=>?_;obtain⟨a,y⟩:=q _ _ F;apply ai;simp [y,aO (n:=(l.length:Int)-1)];refine az ?_;refine bJ (fun m s=>∃(t:T) (J:an),s=⟨t,[],J⟩∧m≤l.length∧t.g 0=.c (.yl b)∧t.g 1=.c (.ptr bx 0 0)∧t.g 3=vi ((m:Int)-1)∧PP m J) l.length
  ⟨_,H,rfl,alk _,by simp,by simp,by simp,F⟩ ?_
 rintro m s ⟨t,J,rfl,W,z,A,j,B⟩ S;apply au;apply ai;simp [j];by_cases M:0<m
 ·obtain⟨i,rfl⟩:∃ i,m=i+1:=⟨m-1,by omega⟩
  have v:i<l.length:=by omega
  obtain⟨a,y⟩:=q _ _ B;have K:((i+1:Nat):Int)-1=(i:Int):=by omega
  have d:=fun H:an=>bG (H:=H) (g:=g) (rows:=ints l) (sz:=1) (k:=.i64) (i:=(i:Int)) (by omega) (by simp [ints];omega);have x:=fun H:an=>eh (H:=H) v;simp at d;rw [K]at j;obtain⟨r,J',u,N⟩:=O i v J B;refine av (by simp;omega) (aP ?_);apply au;refine az ?_;rcases N with⟨rfl,E⟩ | ⟨rfl,L⟩
  ·apply ai;simp [z,A,j,y,d,x,u.eq];refine aF (by simp) (aP (ax (aq (.inl rfl) ?_)));simp [j,aO (n:=(i:Int)-1)];exact S i _ (by omega) ⟨_,_,rfl,by omega,by simp [z],by simp [A],by simp,E⟩
  ·apply ai;simp [z,A,j,y,d,x,u.eq];refine av (by simp) ?_;exact aD (I _ _ _ rfl rfl ⟨rfl,.inr L⟩)
 ·have:m=0:=by omega
  subst this;refine aF (by simp) ?_;refine bg rfl ?_;exact cU (I _ _ _ rfl rfl ⟨rfl,.inl B⟩)
structure CH(p:aI)(bs:List Nat)(bb:Nat)(base s:Int)(m:Nat)(J:an):Prop where
 h0:J[0]?=aa (.box [.f (sl p.hg (ints p.head)),.f (fi p.fr),.f (fi p.aM),.f (sl p.cg (ints p.bf))] 0)
 h1:J[1]?=aa (.box [.f .aA,.f (fi 0),.f (fi 0),.f .aA] 0)
 h2:∃ g,J[2]?=aa (.box [.f (sl g (ints (p.head.take m)))] 0)
 h3:J[3]?=aa (.box [.f (fi s)] 0)
 b4:4≤bb
 hb:J[bb]?=aa (.box [.f (fi base)] 0)
 cl:fq bs J
section
variable{p:aI}{bs:List Nat}{bb:Nat}{base s:Int}{m:Nat}{J:an}
theorem CH.push(h:CH p bs bb base s m J)(L:an):CH p bs bb base s m (J++L):=by
 obtain⟨h0,h1,⟨g,h2⟩,h3,b4,hb,cl⟩:=h;refine⟨?_,?_,⟨g,?_⟩,?_,b4,?_,cl.push L⟩
 ·rw [AT (aj h0)];exact h0
 ·rw [AT (aj h1)];exact h1
 ·rw [AT (aj h2)];exact h2
 ·rw [AT (aj h3)];exact h3
 ·rw [AT (aj hb)];exact hb
theorem CH.set(h:CH p bs bb base s m J){i:Nat}{y z:b7}(hi:J[i]?=aa y)(hy:ir y=ae)(hb:∀ cs fl,y≠.box cs fl)(hd:y≠.fg ae):CH p bs bb base s m (J.set i z):=by
 obtain⟨h0,h1,⟨g,h2⟩,h3,b4,b,cl⟩:=h;have ne:∀ k cs fl,J[k]?=aa (.box cs fl)→i≠k:=fun k cs fl d e=>by
  subst e;rw [d]at hi;cases hi;exact hb _ _ rfl
 refine⟨?_,?_,⟨g,?_⟩,?_,b4,?_,cl.set hi hd⟩
 ·rw [sh (ne _ _ _ h0)];exact h0
 ·rw [sh (ne _ _ _ h1)];exact h1
 ·rw [sh (ne _ _ _ h2)];exact h2
 ·rw [sh (ne _ _ _ h3)];exact h3
 ·rw [sh (ne _ _ _ b)];exact b
theorem CH.head(h:CH p bs bb base s m J)(g:Tg)(d:Nat):CH p bs bb base s d (J.set 2 (.box [.f (sl g (ints (p.head.take d)))] 0)):=by
 obtain⟨h0,h1,⟨g',h2⟩,h3,b4,b,cl⟩:=h;refine⟨?_,?_,⟨g,BY (aj h2)⟩,?_,b4,?_,cl.set h2 (by simp)⟩
 ·rw [sh (by decide)];exact h0
 ·rw [sh (by decide)];exact h1
 ·rw [sh (by decide)];exact h3
 ·rw [sh (by omega)];exact b
theorem CH.start(h:CH p bs bb base s m J)(d:Int):CH p bs bb base d m (J.set 3 (.box [.f (fi d)] 0)):=by
 obtain⟨h0,h1,⟨g',h2⟩,h3,b4,b,cl⟩:=h;refine⟨?_,?_,⟨g',?_⟩,BY (aj h3),b4,?_,cl.set h3 (by simp)⟩
 ·rw [sh (by decide)];exact h0
 ·rw [sh (by decide)];exact h1
 ·rw [sh (by decide)];exact h2
 ·rw [sh (by omega)];exact b
end
structure CT(t:T)(bb:Nat)(zU:Int)(g':Tg)(akq:List Int):Prop where
 g1:t.g 1=.c (.ptr 0 0 0)
 g2:t.g 2=.c (.ptr 1 0 0)
 g3:t.g 3=.c (.ptr 2 0 0)
 g5:t.g 5=vi zU
 g6:t.g 6=.c (.f (sl g' (ints akq)))
 g7:t.g 7=.c (.ptr 3 0 0)
 g8:t.g 8=.c (.ptr bb 0 0)
theorem Au{p:aI}(hp:cF p=ae){l:Int}{g':Tg}{d:List Int}(hS:sk p.aM p.bf l d){bs:List Nat}{bb B:Nat}{base:Int}{A:T}(q:CT A bb l g' d)(hB:bb<B)(g_:-4398046511104≤base){J:an}{m:Nat}{T0:Int}{j:Nat}
  (hC:CH p bs bb base 0 m J) (K:mj p.head p.fr l d m T0 base j) (M:J[B]?=aa (.lp 130 A [P.nat 54,P.nat 55] cK cL .ready ab (B-1))) (i:Int) :
  ∃ r H',Ev tab (.yield B) [vi i,vi (d[j]'(K.jl))] J r H' ∧
   ((r=vb ae∧∃ u,m=u+1∧(∃ h:u<p.head.length,p.head[u]=base+d[j]'(K.jl))∧CH p bs bb base 0 u H'∧H'[B]?=aa (.lp 130 A [P.nat 54,P.nat 55] cK cL .ready ab (B-1))∧∀ k cs fl,k≠2→J[k]?=aa (.box cs fl)→H'[k]?=aa (.box cs fl)) ∨
   (r=vb ag∧∃ s,CH p bs bb base s m H'∧Stop p.head p.fr l d m s∧H'[B]?=aa (.lp 130 A [P.nat 54,P.nat 55] cK cL .done (aa (.exit 0)) (B-1)))):=by
 obtain⟨q1,q2,q3,q4,q5,q6,q7,q8,q9⟩:=a6 hp;obtain⟨c,hc⟩:=aN (d[j]'(K.jl));have h_:0≤c∧c<l:=by rw [hc];exact hS.mem _ (IT _)
 have i7:l≤p.aM:=amn (by omega) hS.dvd;have d9:=K.bt;have i8:=K.tf;have i6:=K.ml;rw [←hc]at d9;rw [←hc];refine ea (tab:=tab) (b:=B) (args:=[vi i,vi c]) (H:=J) M rfl fun Q' f=>?_;refine aq (.inr rfl) ?_;simp;refine iF M ?_;have F:=hC.set (z:=(.lp 130 A [P.nat 54,P.nat 55] cK cL .busy ab (B-1))) M rfl (by simp) (by simp);have Y:(J.set B (.lp 130 A [P.nat 54,P.nat 55] cK cL .busy ab (B-1)))[B]?=aa (.lp 130 A [P.nat 54,P.nat 55] cK cL .busy ab (B-1)):=BY (aj M);have W:∀(k:Nat) (cs:List C) (fl:Nat),J[k]?=aa (b7.box cs fl)→(J.set B (.lp 130 A [P.nat 54,P.nat 55] cK cL .busy ab (B-1)))[k]?=aa (b7.box cs fl):=fun k cs fl hk=>by
  rw [sh (by rintro rfl;rw [M]at hk;cases hk)];exact hk
 generalize J.set B (.lp 130 A [P.nat 54,P.nat 55] cK cL .busy ab (B-1))=U at F Y W ⊢;obtain⟨w,h2⟩:=F.h2;have h3:=F.h3;have c_:=F.hb;have b4:=F.b4;have a7:(p.head.take m).length=m:=by rw [alV];omega
 have N:∀ H:an,bh H (.f (sl w (ints (p.head.take m))))=aa m:=fun H=>by simp [ints];omega
 obtain⟨n,hn⟩:=aN (base+c);have wn:IntKind.i64.wrap (base+c)=n:=by rw [aO,hn]
 have rest:∀(t:T) (last:Int),CT t bb l g' d→t.g 10=vi c→t.g 11=vi last→((m=0∧last = -1)∨∃ hm:m-1<p.head.length,0<m∧last=p.head[m-1])→WP tab 130 (aa B) [.code uB,.inBlock 3] ⟨t,[],U⟩ Q':=by
  intro t last q eH E v;have i3:-1≤last∧last<p.fr+1:=by
   rcases v with⟨_,e⟩ | ⟨hm,h1,e⟩
   ·omega
   ·have:=q7 _ (IT hm);omega
  have stop:∀ s:Int,((n<0∧last<0∧s=0)∨(¬ (n<0∧last<0)∧n≠last∧s=max n last+1))→Stop p.head p.fr l d m s:=fun s hs=>by
   refine K.stop q6 (fun x hx=>by have:=q7 x hx;omega) q1 v ?_;rw [←hc,←hn];exact hs
  apply au;refine au (aq (.inr rfl) ?_);simp [q.g8,eH,c_,wn];refine az ?_;by_cases o:n<0∧last<0
  ·refine au (aq (.inr rfl) ?_);simp [E,o.1,o.2];refine av (by simp) ?_;refine mF rfl (f _ _ _ _ _ _ _ _ _ _ rfl Y (.inr ⟨rfl,0,?_,stop 0 (.inl ⟨o.1,o.2,rfl⟩),BY (aj Y)⟩));exact F.set Y rfl (by simp) (by simp)
  ·have go:∀ t:T,CT t bb l g' d→t.g 11=vi last→t.g 12=vi n→WP tab 130 (aa B) [.code uC,.inBlock 4,.code uD,.inBlock 3] ⟨t,[],U⟩ Q':=by
    intro t q E a;refine au (aq (.inr rfl) ?_);by_cases k2:n=last
    ·simp [E,a,k2];refine aF (by simp) (aP (ax ?_));have i4:0<m:=by
      rcases v with⟨O,Z⟩ | ⟨_,h,_⟩
      ·exfalso;exact o ⟨by omega,by omega⟩
      ·exact h
     obtain⟨u,rfl⟩:∃ u,m=u+1:=⟨m-1,by omega⟩
     have Q:∃ hm:u<p.head.length,last=p.head[u]:=by
      rcases v with⟨O,Z⟩ | ⟨hm,_,e⟩
      ·omega
      ·exact⟨hm,e⟩
     obtain⟨f7,e_⟩:=Q;have X:=fun H:an=>acx (H:=H) (g:=w) (m:=u) (Km.Ord.bV (p.head.take (u+1))) (by simp [ints];omega) (Cm (by rw [a7];omega));simp only [vz,List.take_take,Nat.min_eq_left (Nat.le_succ u)]at X;have O:((u+1:Nat):Int)-1=(u:Int):=by omega
     have s2:dt U (.ptr 2 0 0) [.f (sl .fs (ints (p.head.take u)))]=aa (U.set 2 (.box [.f (sl .fs (ints (p.head.take u)))] 0)):=by simp [dt,h2,over]
     have S:aX U ab (.c (.ptr 2 0 0))=aa (.c (.f (sl w (ints (p.head.take (u+1)))))):=by simp [aX,aH,h2]
     have I:(U.set 2 (.box [.f (sl .fs (ints (p.head.take u)))] 0))[B]?=aa (.lp 130 A [P.nat 54,P.nat 55] cK cL .busy ab (B-1)):=by rw [sh (by omega)];exact Y
     refine aq (.inr rfl) ?_;simp [q.g3,S,N,-ay,O,aO (n:=(u:Int)),X,s2,-bw];have b_:=F.head .fs u;refine ax (cU (f _ _ _ _ _ _ _ _ _ _ rfl I (.inl ⟨rfl,u,rfl,⟨f7,?_⟩,?_,BY (aj I),fun k cs fl hk d_=>?_⟩)))
     ·rw [←e_,←k2,hn]
     ·exact b_.set I rfl (by simp) (by simp)
     ·have:=W k cs fl d_;rw [sh (by rintro rfl;rw [Y]at this;cases this),sh (Ne.symm hk)];exact this
    ·simp [E,a,k2];refine av (by simp) (au (aq (.inr rfl) ?_));simp [q.g7,E,a,h3,aO (n:=max n last+1)];have c9:=F.start (max n last+1);have I:(U.set 3 (.box [.f (fi (max n last+1))] 0))[B]?=aa (.lp 130 A [P.nat 54,P.nat 55] cK cL .busy ab (B-1)):=by rw [sh (by omega)];exact Y
     refine mF rfl (f _ _ _ _ _ _ _ _ _ _ rfl I (.inr ⟨rfl,max n last+1,?_,stop _ (.inr ⟨o,k2,rfl⟩),BY (aj I)⟩));exact c9.set I rfl (by simp) (by simp)
   have L:∀ y:T,y.g 1=t.g 1→y.g 2=t.g 2→y.g 3=t.g 3→y.g 5=t.g 5→y.g 6=t.g 6→y.g 7=t.g 7→y.g 8=t.g 8→CT y bb l g' d:=fun y O Z e3 e5 e6 e7 e8=>⟨O.trans q.g1,Z.trans q.g2,e3.trans q.g3,e5.trans q.g5,e6.trans q.g6,e7.trans q.g7,e8.trans q.g8⟩
   by_cases k3:n<0
   ·have k4:¬ last<0:=fun h=>o ⟨k3,h⟩;refine au (aq (.inr rfl) ?_);simp [E,k3,k4];refine aF (by simp) ?_;exact go _ (L _ (by simp) (by simp) (by simp) (by simp) (by simp) (by simp) (by simp)) (by simp [E]) (by simp)
   ·refine au (aq (.inr rfl) ?_);simp [k3];refine aF (by simp) ?_;exact go _ (L _ (by simp) (by simp) (by simp) (by simp) (by simp) (by simp) (by simp)) (by simp [E]) (by simp)
 refine az ?_;refine au (aq (.inr rfl) ?_);simp;have L:∀ y:T,y.g 1=A.g 1→y.g 2=A.g 2→y.g 3=A.g 3→y.g 5=A.g 5→y.g 6=A.g 6→y.g 7=A.g 7→y.g 8=A.g 8→CT y bb l g' d:=fun y O Z e3 e5 e6 e7 e8=>⟨O.trans q.g1,Z.trans q.g2,e3.trans q.g3,e5.trans q.g5,e6.trans q.g6,e7.trans q.g7,e8.trans q.g8⟩
 apply au;have S:aX U ab (.c (.ptr 2 0 0))=aa (.c (.f (sl w (ints (p.head.take m))))):=by simp [aX,aH,h2]
 refine au (aq (.inr rfl) ?_);simp [q.g3,S,N,-ay];by_cases k0:0<m
 ·have f8:m-1<p.head.length:=by omega
  have f_:m-1<(p.head.take m).length:=by omega
  have O:((m:Int)-1)=((m-1:Nat):Int):=by omega
  have a8:=fun H:an=>bG (H:=H) (g:=w) (rows:=ints (p.head.take m)) (sz:=1) (k:=.i64) (i:=((m-1:Nat):Int)) (by omega) (by simp [ints];omega);have a_:=fun H:an=>eh (H:=H) f_;have Z:(p.head.take m)[m-1]=p.head[m-1]:=by simp
  rw [Z]at a_;simp at a8;refine av (by simp [k0]) (aq (.inr rfl) ?_);simp [q.g3,S,N,-ay,O,aO (n:=((m-1:Nat):Int)),a8,a_];exact rest _ _ (L _ (by simp) (by simp) (by simp) (by simp) (by simp) (by simp) (by simp)) (by simp) (by simp) (.inr ⟨f8,k0,rfl⟩)
 ·refine aW (by simp [k0]) ?_;exact rest _ _ (L _ (by simp) (by simp) (by simp) (by simp) (by simp) (by simp) (by simp)) (by simp) (by simp) (.inl ⟨by omega,rfl⟩)
theorem ql{H:an}{g:Tg}(l:List Int)(m:l.length≤1000000):∃ c J,Ev tab (.fn 167) [.c (.f (sl g (ints l)))] H=E2 (.c c) (H++J)∧LR (H++J) c 1 (ints l)∧∀ i,aV c=aa i→H.length≤i:=by
 obtain⟨r,H',j,c,J,rfl,rfl,b,d⟩:=T3 (F:=167) (sz:=1) (zs:=[fi 0]) (bytes:=8) (H:=H) (g:=g) (rows:=ints l) adK (by decide) (Km.Ord.bV l) (dG (by simp [ints];omega) (by decide));exact⟨c,J,j.eq,b,d⟩
theorem IC(p:aI)(f:cF p=ae)(e:p.bf=[])(hl:p.head.length≤1000000):∃ q,md p q∧q.bf.length≤p.bf.length∧q.head.length≤p.head.length∧bX tab 130 [.a (p.row.map .f)] (.a (q.row.map .f)):=by
 obtain⟨q1,q2,q3,q4,q5,q6,q7,q8,q9⟩:=a6 f;obtain⟨r,⟨q,hq,ha,hb,rfl⟩,h⟩:∃ r,(∃ q,md p q∧q.bf.length≤p.bf.length∧q.head.length≤p.head.length∧r=.a (q.row.map .f))∧bX tab 130 [.a (p.row.map .f)] r:=by
  refine eQ rfl rfl fun Q hQ=>?_;obtain⟨H,z⟩:=aN ([.box [.f (sl p.hg (ints p.head)),.f (fi p.fr),.f (fi p.aM),.f (sl p.cg (ints p.bf))] 0,.box [.f .aA,.f (fi 0),.f (fi 0),.f .aA] 0,.box [.f (sl p.hg (ints p.head))] 0]:an);obtain⟨c,J,M,B,a⟩:=ql (H:=H) (g:=p.hg) p.head hl;have l:∀ H:an,bh H (.f (sl p.hg (ints p.head)))=aa p.head.length:=fun H=>by simp [ints]
  have K:∀ H:an,bh H (.f (sl p.cg (ints p.bf)))=aa 0:=fun H=>by simp [ints,e]
  apply ai;simp [aI.row];refine kI (ai ?_);simp;rw [←z];have h0:H[0]?=aa (.box [.f (sl p.hg (ints p.head)),.f (fi p.fr),.f (fi p.aM),.f (sl p.cg (ints p.bf))] 0):=by rw [z];rfl
  have h1:H[1]?=aa (.box [.f .aA,.f (fi 0),.f (fi 0),.f .aA] 0):=by rw [z];rfl
  have Z:H[2]?=aa (.box [.f (sl p.hg (ints p.head))] 0):=by rw [z];rfl
  apply au;apply ai;simp [h0,K];refine av (by simp) ?_;apply ai;simp [Z,M];obtain⟨b,d⟩:=aN (H++J:an);obtain⟨v,j⟩:=aN (b.length);have E:H.length+J.length=v:=by rw [j,d];simp
  have a7:H.length=3:=by rw [z];rfl
  rw [←d]at B;have w:∀ i:Nat,i<H.length→b[i]?=H[i]?:=fun i hi=>by rw [d,AT hi]
  have x:∀(t:T) (s:Int),t.g 2=.c (.ptr 1 0 0)→t.g 4=.c (.ptr v 0 0)→((p.head=[]∧s=0)∨∃ h:p.head.length-1<p.head.length,s=p.head[p.head.length-1]+1) →
    WP tab 130 ab [.code ur,.code uu,.inScope rM] ⟨t,[],b++[.box [c,.f (fi s),.f (fi 1),.f .aA] 0]⟩ Q:=by
   intro t s Y g4 hs;have o:(b++[b7.box [c,.f (fi s),.f (fi 1),.f .aA] 0])[v]?=aa (.box [c,.f (fi s),.f (fi 1),.f .aA] 0):=by rw [j];simp
   have L:(b++[b7.box [c,.f (fi s),.f (fi 1),.f .aA] 0])[1]?=aa (.box [.f .aA,.f (fi 0),.f (fi 0),.f .aA] 0):=by
    rw [AT (by omega),w 1 (by omega)];exact h1
   have S:=B.push [b7.box [c,.f (fi s),.f (fi 1),.f .aA] 0];generalize b++[b7.box [c,.f (fi s),.f (fi 1),.f .aA] 0]=u at o L S ⊢;have X:aX u (aa 4) (.c (.ptr v 0 0))=aa (.a [c,.f (fi s),.f (fi 1),.f .aA]):=by simp [aX,aH,o,aY]
   have s1:dt u (.ptr 1 0 0) [c,.f (fi s),.f (fi 1),.f .aA]=aa (u.set 1 (.box [c,.f (fi s),.f (fi 1),.f .aA] 0)):=by simp [dt,L,over]
   have n1:(u.set 1 (.box [c,.f (fi s),.f (fi 1),.f .aA] 0))[1]?=aa (.box [c,.f (fi s),.f (fi 1),.f .aA] 0):=BY (aj L);have U:=S.set (S.bz L) (.box [c,.f (fi s),.f (fi 1),.f .aA] 0);obtain⟨y,N⟩:=U.ex (Km.Ord.bV _) 63;apply ai;simp [Y,g4,X,s1,-ay,-bw];refine aD (hQ _ _ _ ⟨⟨y,p.head,s,1,.nil,[]⟩,IA f e hs y .nil,by simp,alk _,rfl⟩ ⟨rfl,.a [c,.f (fi s),.f (fi 1),.f .aA],?_,?_⟩)
   ·simp [Km.results,cm,aZ,Y,n1,aY]
   ·simp [me,dE,aZ,deep,N,aI.row,sl,ints,Tg.fc]
  rw [←alU,←d,E];have v2:(b++[b7.box [c,.f (fi 0),.f (fi 1),.f .aA] 0])[2]?=aa (.box [.f (sl p.hg (ints p.head))] 0):=by
   rw [AT (by omega),w 2 (by omega)];exact Z
  have v4:(b++[b7.box [c,.f (fi 0),.f (fi 1),.f .aA] 0])[v]?=aa (.box [c,.f (fi 0),.f (fi 1),.f .aA] 0):=by rw [j];simp
  have m:∀ s:Int,(b++[b7.box [c,.f (fi 0),.f (fi 1),.f .aA] 0]).set v (.box [c,.f (fi s),.f (fi 1),.f .aA] 0)=b++[.box [c,.f (fi s),.f (fi 1),.f .aA] 0]:=fun s=>by rw [j];simp
  apply au;obtain⟨u,A⟩:=aN (b++[b7.box [c,.f (fi 0),.f (fi 1),.f .aA] 0]);rw [←A]at v2 v4 m ⊢;have I:aX u ab (.c (.ptr 2 0 0))=aa (.c (.f (sl p.hg (ints p.head)))):=by simp [aX,aH,v2]
  apply au;refine aq (.inl rfl) ?_;simp [I,l,-ay];by_cases k:0<p.head.length
  ·have O:p.head.length-1<p.head.length:=by omega
   have a8:=q7 _ (IT O);have e1:((p.head.length:Int)-1)=((p.head.length-1:Nat):Int):=by omega
   have F:=fun H:an=>bG (H:=H) (g:=p.hg) (rows:=ints p.head) (sz:=1) (k:=.i64) (i:=((p.head.length-1:Nat):Int)) (by omega) (by simp [ints];omega);have W:=fun H:an=>eh (H:=H) O;simp at F;have s4:dt u (.ptr v 1 0) [.f (fi (p.head[p.head.length-1]+1))]=aa (b++[.box [c,.f (fi (p.head[p.head.length-1]+1)),.f (fi 1),.f .aA] 0]):=by
    rw [←m];simp [dt,v4,over]
   refine av (by simp [k]) (aq (.inl rfl) ?_);simp [I,l,-ay,e1,aO (n:=((p.head.length-1:Nat):Int)),F,W,aO (n:=p.head[p.head.length-1]+1),s4,-bw];exact x _ _ (by simp) (by simp) (.inr ⟨O,rfl⟩)
  ·refine aW (by simp [k]) ?_;rw [A];exact x _ 0 (by simp) (by simp) (.inl ⟨ame.1 (by omega),rfl⟩)
 exact⟨q,hq,ha,hb,h⟩
theorem lM{H:an}{c:C}{sz:Nat}{rows:List (List FC)}(h:LR H c sz rows){i:Nat}{y:b7}(g:H[i]?=aa y)(j:ir y=ae):aV c≠aa i:=by
 rcases h with⟨_,rfl | rfl⟩ | ⟨h,b,l,rfl,d⟩
 ·simp [aV]
 ·simp [aV]
 ·intro e;cases e;unfold RB at d;rw [g]at d;cases d;cases j
theorem CH.bu{p:aI}{bs:List Nat}{bb:Nat}{base s:Int}{m:Nat}{J J':an}(h:CH p bs bb base s m J)(b:∀(i:Nat) y,J[i]?=aa y→ir y=ae→J'[i]?=aa y):CH p bs bb base s m J':=by
 obtain⟨h0,h1,⟨g,h2⟩,h3,b4,hb,cl⟩:=h;exact⟨b _ _ h0 rfl,b _ _ h1 rfl,⟨g,b _ _ h2 rfl⟩,b _ _ h3 rfl,b4,b _ _ hb rfl,cl.bu b⟩
structure QI(p:aI)(bs:List Nat)(bb:Nat)(base s zU:Int)(m bq:Nat)(c cq:C)(kJ:List Int)(J:an):Prop where
 ch:CH p bs bb base s m J
 bx:J[bq]?=aa (.box [c,.f (fi s),.f (fi zU),cq] 0)
 lc:LR J c 1 (ints (p.head.take m))
 lq:LR J cq 1 (ints kJ)
 ne:∀ i,aV c=aa i→aV cq≠aa i
 big:4<bq∧bq≠bb
theorem QI.app{p:aI}{bs:List Nat}{bb:Nat}{base s b:Int}{m z:Nat}{c I:C}{kJ:List Int}{J:an}(h:QI p bs bb base s b m z c I kJ J)(hl:kJ.length≤1000)(n:Int) :
  ∃ v q,bF (J++[.box [.f (fi n)] 0]) 1 8 (.c I) (.c (.sl J.length 0 1 1 0 1))=aa (.c v,q)∧dt q (.ptr z 3 0) [v]=aa (q.set z (.box [c,.f (fi s),.f (fi b),v] 0))∧QI p bs bb base s b m z c v (kJ++[n]) (q.set z (.box [c,.f (fi s),.f (fi b),v] 0)):=by
 obtain⟨H,d⟩:=aN (J++[.box ([fi n].map .f) 0]:an);have up:∀(i:Nat) y,J[i]?=aa y→H[i]?=aa y:=fun i y hy=>by rw [d,AT (aj hy)];exact hy
 have B:LR H I 1 (ints kJ):=by rw [d];exact h.lq.push _
 have L:H[J.length]?=aa (.box ([fi n].map .f) 0):=by rw [d];simp
 obtain⟨v,q,u,x,A,M⟩:=B.app (Km.Ord.bV kJ) (by decide) (row:=[fi n]) rfl (bytes:=8) (dG (by simp [ints];omega) (by decide)) L;have F:∀(i:Nat) y,J[i]?=aa y→ir y=ae→q[i]?=aa y:=fun i y hy O=>A.2 i y (up _ _ hy) (lM B (up _ _ hy) O);have j:=F _ _ h.bx rfl;have N:ints kJ++[[fi n]]=ints (kJ++[n]):=by simp [ints]
 rw [N]at x;have E:LR q c 1 (ints (p.head.take m)):=h.lc.bu fun i y hy hi=>A.2 i y (up _ _ hy) (h.ne i hi);have K:=h.ch.bu F;refine⟨v,q,by rw [d]at u;exact u,by simp [dt,j,over],?_,BY (aj j),E.set (E.bz j) _,x.set (x.bz j) _,?_,h.big⟩
 ·obtain⟨h0,h1,⟨g,h2⟩,h3,b4,hb,cl⟩:=K;have hg:=h.big;refine⟨?_,?_,⟨g,?_⟩,?_,b4,?_,cl.set j (by simp)⟩
  all_goals (rw [sh (by omega)];assumption)
 ·intro i hi l;rcases M with e | e
  ·rw [e]at l;exact h.ne i hi l
  ·rw [e]at l;cases l;have:=h.lc.lt hi;have h2:H.length=J.length+1:=by rw [d];simp
   omega
theorem qh(n:Int):(vi n).beq (vi n)=ae:=by simp [V.beq,C.beq,FC.beq]
theorem Az{p:aI}(hp:cF p=ae)(hl:p.head.length≤1000000){b:Int}{g':Tg}{d:List Int}(hS:sk p.aM p.bf b d)(o8:d.length≤256){bs:List Nat}{bb:Nat}{base s:Int}{m:Nat}{J:an}(hC:CH p bs bb base s m J)(hT:Stop p.head p.fr b d m s)
  {t:T} (N:CT t bb b g' d) {k:List cP} {Q:Option aw→St→Prop} (hQ:∀ j s r,(∃ q,md p q∧q.bf.length≤p.bf.length∧q.head.length≤p.head.length∧r=.a (q.row.map .f))→To [.cell (P.nat 2) (aa 4)] r s→Q j s) :
  WP tab 130 ab (.code pO::k) ⟨t,bs.map .er,J⟩ Q:=by
 obtain⟨q1,q2,q3,q4,q5,q6,q7,q8,q9⟩:=a6 hp;have n6:=hT.ml;have p9:=hT.sf;have p8:=hT.s0;have o_:b≤p.aM:=amn (by omega) hS.dvd;have o9:=hS.p1;obtain⟨gh,h2⟩:=hC.h2;have h0:=hC.h0;have h1:=hC.h1;have h3:=hC.h3;have i4:(p.head.take m).length=m:=by rw [alV];omega
 obtain⟨c,Jc,u,U,h_⟩:=ql (H:=J) (g:=gh) (p.head.take m) (by omega);obtain⟨HJ,e_⟩:=aN (J++Jc:an);have F:CH p bs bb base s m HJ:=by rw [e_];exact hC.push Jc
 rw [←e_]at u U;have b_:∀ H:an,H[3]?=aa (.box [.f (fi s)] 0)→aX H ab (.c (.ptr 3 0 0))=aa (vi s):=fun H h=>by simp [aX,aH,h]
 have j3:aX J ab (.c (.ptr 2 0 0))=aa (.c (.f (sl gh (ints (p.head.take m))))):=by simp [aX,aH,h2]
 have i9:=b_ J h3;have a_:=b_ HJ F.h3;refine au (eP (.inl rfl) ?_ ?_)
 case refine_2=>
  intro cc j_;have j9:cc=(2,1):=by simpa using j_
  subst j9;refine⟨by decide,_,rfl,.inr ⟨by decide,?_⟩⟩;simp [N.g3,N.g7,j3,-ay,u,i9,a_,fH,qh]
 simp [N.g3,N.g5,N.g7,j3,-ay,u,a_];obtain⟨O,a7⟩:=aN (HJ.length);have i3:4<O:=by have:=aj F.hb;have:=F.b4;omega
 obtain⟨HK,S⟩:=aN (HJ++[b7.box [c,.f (fi s),.f (fi b),.f .aA] 0]);have d_:CH p bs bb base s m HK:=by rw [S];exact F.push _
 have i6:HK[O]?=aa (.box [c,.f (fi s),.f (fi b),.f .aA] 0):=by rw [S,a7];simp
 have f8:LR HK c 1 (ints (p.head.take m)):=by rw [S];exact U.push _
 have o7:∀ i,aV c=aa i→i<O:=fun i hi=>by rw [a7];exact U.lt hi
 rw [←a7,←S];have j7:QI p bs bb base s b m O c (.f .aA) [] HK:=⟨d_,i6,f8,LR.nil _ _,(fun i hi h=>by cases h),i3,by have:=aj F.hb;omega⟩
 clear u U h_ a_ i9 d_ i6 f8;apply au;apply ai;simp [N.g6];refine bZ d.length (fun i t J=>t.g 1=.c (.ptr 0 0 0)∧t.g 2=.c (.ptr 1 0 0)∧t.g 5=vi b∧t.g 7=.c (.ptr 3 0 0)∧t.g 13=.c (.ptr O 0 0)∧t.g 94=.c (.f (sl g' (ints d)))∧∃ l,QI p bs bb base s b m O c l (eG p.fr s b (d.take i)) J) (by omega) (by decide) (by decide) (by simp) (by simp [ints])
  ⟨by simp [N.g1],by simp [N.g2],by simp [N.g5],by simp [N.g7],by simp,by simp,.f .aA,by simpa [eG]using j7⟩ ?_ ?_
 ·rintro i t J hi ⟨g1,g2,g5,g7,E,Z,l,B⟩ ha hb next
  have k_:=hS.mem _ (IT hi);have i8:=fun H:an=>bG (H:=H) (g:=g') (rows:=ints d) (sz:=1) (k:=.i64) (i:=(i:Int)) (by omega) (by simp [ints];omega);have i_:=fun H:an=>eh (H:=H) hi;simp at i8;obtain⟨x,hx⟩:=aN (d[i]);rw [←hx]at k_ i_;have n_:d.take (i+1)=d.take i++[x]:=by rw [aly,By hi,hx];rfl
  have i7:bP .rem (vi (p.fr+x-s)) (vi b)=aa (vi ((p.fr+x-s) % b)):=eR (by omega) (by omega);obtain⟨c3,H3,g_,n9,n8⟩:=B.app (by simp [eG];omega) ((p.fr+x-s) % b);have c9:aX J ab (.c (.ptr O 3 0))=aa (.c l):=by simp [aX,aH,B.bx]
  have o4:aX J ab (.c (.ptr 0 1 0))=aa (vi p.fr):=by simp [aX,aH,B.ch.h0]
  have o5:=b_ J B.ch.h3;refine az ?_;apply ai;simp [ha,Z,i8,i_];refine aq (.inl rfl) ?_;simp [g1,g5,g7,E,c9,o4,o5,-ay,aO (n:=p.fr+x),aO (n:=p.fr+x-s),i7,g_,n9,-bw];refine ax (next _ _ ?_ (by simp [ha]) (by simp [hb]));refine⟨by simp [g1],by simp [g2],by simp [g5],by simp [g7],by simp [E],by simp [Z],c3,?_⟩;rw [n_];simpa [eG]using n8
 ·rintro t J ⟨g1,g2,g5,g7,E,Z,l,B⟩ - -;rw [alw]at B;obtain⟨r,X,he,rfl,hK,l2,f7,L,m_⟩:=VC B.lq (by simp [eG];omega);have up:∀(i:Nat) y,J[i]?=aa y→ir y=ae→X[i]?=aa y:=fun i y W hn=>hK.2 i y W (lM B.lq W hn);have A:=B.ch.bu up;have j8:=up _ _ B.bx rfl;have f_:LR X c 1 (ints (p.head.take m)):=B.lc.bu fun i y W hi=>hK.2 i y W (B.ne i hi);have c9:aX J ab (.c (.ptr O 3 0))=aa (.c l):=by simp [aX,aH,B.bx]
  have o0:aX X (aa 4) (.c (.ptr O 0 0))=aa (.a [c,.f (fi s),.f (fi b),l]):=by simp [aX,aH,j8,aY]
  have s1:dt X (.ptr 1 0 0) [c,.f (fi s),.f (fi b),l]=aa (X.set 1 (.box [c,.f (fi s),.f (fi b),l] 0)):=by simp [dt,A.h1,over]
  have n1:(X.set 1 (.box [c,.f (fi s),.f (fi b),l] 0))[1]?=aa (.box [c,.f (fi s),.f (fi b),l] 0):=BY (aj A.h1);have v:=A.cl.set (z:=.box [c,.f (fi s),.f (fi b),l] 0) A.h1 (by simp);have I:=f_.set (f_.bz A.h1) (.box [c,.f (fi s),.f (fi b),l] 0);have K:=f7.set (f7.bz A.h1) (.box [c,.f (fi s),.f (fi b),l] 0);generalize o6:X.set 1 (.box [c,.f (fi s),.f (fi b),l] 0)=Y at s1 n1 v I K;have j4:∀(i:Nat) y,i ∉ bs→Y[i]?=aa y→(oa bs Y)[i]?=aa y:=fun i y hi W=>(mL hi).trans W;obtain⟨c_,l_⟩:=I.VW (Km.Ord.bV _);obtain⟨d9,m9⟩:=K.VW (Km.Ord.bV _);have M:∀(c:C) (rows:List (List FC)),LR Y c 1 rows→∀ i y,Y[i]?=aa y→aV c=aa i→(oa bs Y)[i]?=aa y:=fun c rows hL i y W hi=>j4 i y (fun hb=>lM hL (v.on i hb) rfl hi) W;have e5:=l_ (oa bs Y) 63 (M _ _ I);have e6:=m9 (oa bs Y) 63 (M _ _ K);have m1:=j4 1 _ (v.not n1 (by simp)) n1;apply ai;simp [E,c9,-ay,he.eq];apply ai;simp [g2,E,o0,s1,-ay,-bw];have a8:l2.length=d.length:=by rw [L.length_eq];simp [eG]
  refine aD (hQ _ _ _ ⟨⟨c_,p.head.take m,s,b,d9,l2⟩,IB hp hS hT L m_ c_ d9,by show l2.length≤_;rw [a8];exact hS.len,by show(p.head.take m).length≤_;rw [i4];exact n6,rfl⟩ ⟨bs,rfl,v,.a [c,.f (fi s),.f (fi b),l],?_,?_⟩)
  ·simp [Km.results,cm,aZ,g2,m1,aY]
  ·simp [me,dE,aZ,deep,e5,e6,aI.row]
theorem Iz(p:aI)(hp:cF p=ae)(e:0<p.bf.length)(i6:p.bf.length≤256)(hl:p.head.length≤1000000):∃ q,md p q∧q.bf.length≤p.bf.length∧q.head.length≤p.head.length∧bX tab 130 [.a (p.row.map .f)] (.a (q.row.map .f)):=by
 obtain⟨q1,q2,q3,q4,q5,q6,q7,q8,q9⟩:=a6 hp;obtain⟨r,⟨q,hq,ha,a,rfl⟩,h⟩:∃ r,(∃ q,md p q∧q.bf.length≤p.bf.length∧q.head.length≤p.head.length∧r=.a (q.row.map .f))∧bX tab 130 [.a (p.row.map .f)] r:=by
  refine qw adI rfl fun Q hQ=>?_;obtain⟨j,g',d,v,e_⟩:=Bt p.cg p.bf p.aM (by omega) (by omega) e (by omega) q8 (fun x hx=>by have:=q9 x hx;omega);have i9:j≤p.aM:=amn (by omega) v.dvd;have W:=v.p1;have i7:=v.len;have f:0<d.length:=al0.2 v.ne;have w:∀ H:an,bh H (.f (sl p.cg (ints p.bf)))=aa p.bf.length:=fun H=>by simp [ints]
  apply ai;simp [aI.row];refine kI (ai ?_);simp;apply au;apply ai;simp [w];refine aF (by simp;exact al0.1 e) (aP ?_);apply ai;simp [e_];apply ai;simp;refine au (oV ?_);apply au;apply ai;simp [aO (n:=p.fr-j)];refine az ?_;refine bJ (fun mm st=>∃(t:T) (bs:List Nat) (bb:Nat) (J:an) (T0 base:Int),st=⟨t,bs.map .er,J⟩∧CT t bb j g' d∧CH p bs bb base 0 mm J∧mj p.head p.fr j d mm T0 base (d.length-1)∧-4398046511104≤base) p.head.length
   ⟨_,[],4,_,_,_,rfl,⟨by simp,by simp,by simp,by simp,by simp,by simp,by simp⟩,⟨rfl,rfl,⟨p.hg,by rw [alw];rfl⟩,rfl,by decide,rfl,⟨by simp,by simp⟩⟩,mj.start W v.mem v.up (fun x hx=>(q7 x hx).2) f,by omega⟩ ?_
  rintro mm st ⟨t,bs,bb,J,T0,base,rfl,L,hC,c9,b_⟩ ih;apply au;refine az ?_;obtain⟨r,H',c_,rfl,rfl⟩:=yO (sl g' (ints d)) J;apply ai;simp [L.g6,c_.eq];refine az ?_;have a_:∀ K:T,K.g 1=t.g 1→K.g 2=t.g 2→K.g 3=t.g 3→K.g 5=t.g 5→K.g 6=t.g 6→K.g 7=t.g 7→K.g 8=t.g 8→CT K bb j g' d:=fun K e1 e2 e3 e5 e6 e7 e8=>⟨e1.trans L.g1,e2.trans L.g2,e3.trans L.g3,e5.trans L.g5,e6.trans L.g6,e7.trans L.g7,e8.trans L.g8⟩
  obtain⟨bx,E⟩:=aN (J.length);rw [←E];have i4:=aj hC.hb;have i3:=hC.b4;have range:∀ y:T,CT y bb j g' d→y.g 53=.c (.cl 214 [.ptr bx 0 0])→WP tab 130 ab [.code uA,.inBlock 2,.inBlock 1,.code uE,.inLoop uz,.inBlock 0,.code pO,.inScope rM] ⟨y,bs.map .er,J++[.box [.f (sl g' (ints d))] 0]⟩ Q:=by
   intro y u a7;obtain⟨Y,A⟩:=aN (J++[.box [.f (sl g' (ints d))] 0]++[.fg ae,.lp 130 y [P.nat 54,P.nat 55] cK cL .ready ab (bx+2-1)]:an);have M:CH p bs bb base 0 mm Y:=by rw [A,alU];exact hC.push _
   have rx:Y[bx]?=aa (.box [.f (sl g' (ints d))] 0):=by rw [A,E];simp
   have rd:Y[bx+1]?=aa (.fg ae):=by rw [A,E,alp (by simp)];simp
   have rl:Y[bx+2]?=aa (.lp 130 y [P.nat 54,P.nat 55] cK cL .ready ab (bx+2-1)):=by rw [A,E,alp (by simp)];simp
   have a8:CH p ((bx+1)::bs) bb base 0 mm Y:=⟨M.h0,M.h1,M.h2,M.h3,M.b4,M.hb,List.nodup_cons.2 ⟨fun hm=>by have:=aj (hC.cl.on _ hm);omega,M.cl.nd⟩,fun b a=>by
    rcases alW.1 a with rfl | a
    ·exact rd
    ·exact M.cl.on b a⟩
   obtain⟨r,H',he,rfl,O⟩:=yP (b:=bx+2) (bx:=bx) (g:=g') (l:=d) (H:=Y)
    (PP:=fun i H=>∃ m T,CH p ((bx+1)::bs) bb base 0 m H∧H[bx]?=aa (.box [.f (sl g' (ints d))] 0)∧H[bx+2]?=aa (.lp 130 y [P.nat 54,P.nat 55] cK cL .ready ab (bx+2-1))∧i≤d.length∧m+(d.length-i)=mm ∧
     (0<i→mj p.head p.fr j d m T base (i-1))∧(i=0→mj p.head p.fr j d m T (base-j) (d.length-1)∧-1099511627776≤base))
    (EX:=fun H=>∃ m s,CH p ((bx+1)::bs) bb base s m H∧Stop p.head p.fr j d m s∧H[bx+2]?=aa (.lp 130 y [P.nat 54,P.nat 55] cK cL .done (aa (.exit 0)) (bx+2-1)))
    (by omega) (fun i H h=>by obtain⟨m,T,-,h,-⟩:=h;exact⟨_,h⟩)
    ⟨mm,T0,a8,rx,rl,alk _,by omega,fun _=>c9,fun h=>by omega⟩
    (fun i hi H1 ⟨m,T,h1,h2,h3,h4,h5,h6,h7⟩=>by
     have N:=h6 (by omega);obtain⟨r,H2,d_,hr⟩:=Au hp v u (B:=bx+2) (by omega) b_ h1 N h3 i;refine⟨r,H2,d_,?_⟩;rcases hr with⟨rfl,m',rfl,⟨U,S⟩,X,Z,I⟩ | ⟨rfl,s,X,Z,I⟩
     ·refine .inl ⟨rfl,m',p.head[m'],X,I bx _ _ (by omega) h2,Z,by omega,by omega,fun k=>?_,fun k=>?_⟩
      ·obtain⟨i',rfl⟩:∃ i',i=i'+1:=⟨i-1,by omega⟩
       exact N.down q6 v.up W v.mem U S
      ·subst k;have hx:=(q7 _ (IT U)).1;have hy:=v.mem _ (IT (l:=d) (n:=0) f);refine⟨N.wrap q6 v.up W v.mem U S,?_⟩;have h_:p.head[m']=base+d[0]:=S;omega
     ·exact .inr ⟨rfl,m,s,X,Z,I⟩)
   have F:(J++[b7.box [.f (sl g' (ints d))] 0]).length=bx+1:=by simp [E]
   have d9:Ev tab (.fn 214) [.c (.yl ((J++[b7.box [.f (sl g' (ints d))] 0]).length+1)),.c (.ptr bx 0 0)] (J++[.box [.f (sl g' (ints d))] 0]++[.fg ae,.lp 130 y [P.nat 54,P.nat 55] cK cL .ready ab (J++[b7.box [.f (sl g' (ints d))] 0]).length]) (.t []) H':=by
    rw [F];rw [A]at he;exact he
   refine fF (g:=214) (by rw [rm,a7];simp [bW]) d9 ?_;rw [F];rcases O with⟨m,T,X,Z,I,-,k5,-,k7⟩ | ⟨m,s,X,Z,I⟩
   ·obtain⟨k8,k9⟩:=k7 rfl;refine gq I (by decide) ?_;have kC:=X.set (z:=.lp 130 y [P.nat 54,P.nat 55] cK cL .exhausted ab (bx+2-1)) I rfl (by simp) (by simp);generalize H'.set (bx+2) (.lp 130 y [P.nat 54,P.nat 55] cK cL .exhausted ab (bx+2-1))=HE at kC ⊢;refine ax (ax (au ?_));have c:=kC.hb;have f7:aX HE ab (.c (.ptr bb 0 0))=aa (vi base):=by simp [aX,aH,c]
    have i8:=aj c;apply ai;simp [u.g8,f7,-ay];refine aq (.inl rfl) ?_;simp;refine aq (.inl rfl) ?_;have f_:=k8.bt;have f8:=k8.tf;have g_:=(v.mem _ (IT (l:=d) (n:=d.length-1) (by omega))).1;simp [u.g5,aO (n:=base-j)];have o:=kC.push [.box [.f (fi (base-j))] 0];refine ih m _ (by omega) ⟨_,(bx+1)::bs,HE.length,_,T,base-j,rfl,⟨by simp [u.g1],by simp [u.g2],by simp [u.g3],by simp [u.g5],by simp [u.g6],by simp [u.g7],by simp⟩,⟨o.h0,o.h1,o.h2,o.h3,by omega,by simp,o.cl⟩,k8,by omega⟩
   ·refine oU I (by decide) ?_;have kC:=X.set (z:=.lp 130 y [P.nat 54,P.nat 55] cK cL .exhausted (aa (.exit 0)) (bx+2-1)) I rfl (by simp) (by simp);refine bg rfl ?_;exact Az hp hl v (by omega) kC Z u hQ
  exact range _ (a_ _ (by simp) (by simp) (by simp) (by simp) (by simp) (by simp) (by simp)) (by simp)
 exact⟨q,hq,ha,a,h⟩
theorem mw(p:aI)(s:cF p=ae)(l:p.bf.length≤256)(m:p.head.length≤1000000):∃ q,md p q∧q.bf.length≤p.bf.length∧q.head.length≤p.head.length∧bX tab 130 [.a (p.row.map .f)]=Eq (.a (q.row.map .f)):=by
 rcases amG p.bf.length with h | h
 ·obtain⟨q,b,d,g,j⟩:=IC p s (ame.1 h) m;exact⟨q,b,d,g,j.eq⟩
 ·obtain⟨q,b,d,g,j⟩:=Iz p s h l m;exact⟨q,b,d,g,j.eq⟩
theorem Tn(p:aI)(d:cF p=ae)(b:p.bf.length≤256)(v:p.head.length≤1000000):∃ q,md p q∧q.bf.length≤p.bf.length∧q.head.length≤p.head.length∧bX tab 85 [.a (p.row.map .f)]=Eq (.t [.a (q.row.map .f),vi 0]):=by
 obtain⟨q,l,m,s,j⟩:=mw p d b v;have g:=qu p (jN d);rw [d]at g;refine⟨q,l,m,s,bX.eq (cz rfl rfl fun Q u=>?_)⟩;simp only [aI.row,alo,alH]at g j ⊢;apply ai;simp;apply au;apply ai;simp [g];refine aW (by simp) ?_;apply ai;simp [j];refine aD (u _ _ ?_);simp [aI.row]
theorem Jo{p:aI}(X:cF p=ae){g:Int}(S:0≤g){i:Nat}(hi:i≤p.head.length)(A:∀ j (h:j<p.head.length),j<i→p.head[j]<g)(y:∀ j (h:j<p.head.length),i≤j→g≤p.head[j]){fr:Int}(U:fr=max p.fr g){q:List Int}(l:q.Perm (eG p.fr fr p.aM p.bf))(z:q.Pairwise (·≤·))(H:g≤1099511627776)(I E:Tg) :
  cF ⟨I,p.head.drop i,fr,p.aM,E,q⟩=ae∧(∀ d,0≤d→bK ⟨I,p.head.drop i,fr,p.aM,E,q⟩ d=(decide (g≤d)&&bK p d))∧q.length=p.bf.length:=by
 obtain⟨e,f,v,M,n,N,F,O,Q⟩:=a6 X;have s:∀ x ∈ p.bf,0≤x∧x<p.aM:=fun x B=>by have:=Q x B;omega
 obtain⟨Z,c,K⟩:=nQ v O s l z;refine⟨pB (by show 0≤fr;omega) (by show fr≤_;omega) v M (by show(p.head.drop i).length+q.length≤_;rw [alD,K];omega) (N.sublist (List.drop_sublist _ _)) (fun x B=>?_) Z c,fun d hd=>?_,K⟩
 ·have:=F x (alY B);exact⟨by omega,by show x<fr;omega⟩
 ·have Y:(d-fr) % p.aM ∈ q↔rU p.fr p.aM p.bf d:=by rw [l.mem_iff];exact tM v s d
  have m:d ∈ p.head.drop i↔g≤d∧d ∈ p.head:=by
   constructor
   ·intro h;obtain⟨j,u,rfl⟩:=alB h;rw [amQ];exact⟨y _ (by simp at u;omega) (by omega),IT _⟩
   ·rintro⟨h,L⟩;obtain⟨j,u,rfl⟩:=alB L;have W:i≤j:=by
     rcases alO j i with k | k
     ·have:=A j u k;omega
     ·exact k
    refine List.mem_of_getElem? (i:=j-i) ?_;rw [List.getElem?_drop,show i+(j-i)=j by omega,By u]
  unfold bK;simp only;rw [Bool.eq_iff_iff];simp only [If,decide_eq_true_eq];by_cases k:fr≤d
  ·rw [ba k,ba (by omega),decide_eq_true_eq,decide_eq_true_eq,Y];exact⟨fun h=>⟨by omega,h⟩,fun h=>h.2⟩
  ·rw [aS k,decide_eq_true_eq,m];by_cases J:p.fr≤d
   ·rw [ba J,decide_eq_true_eq];constructor
    ·rintro⟨a,b⟩;have:=F d b;omega
    ·rintro⟨a,b⟩;omega
   ·rw [aS J,decide_eq_true_eq]
structure LQ(p:aI)(H:an)(b0 bq:Nat)(fr:Int)(c cq:C)(hd kJ:List Int)(J:an):Prop where
 hb:b0=H.length
 kp:∀ i:Nat,i<b0→J[i]?=H[i]?
 bp:J[b0]?=aa (.box [.f (sl p.hg (ints p.head)),.f (fi p.fr),.f (fi p.aM),.f (sl p.cg (ints p.bf))] 0)
 br:J[b0+1]?=aa (.box [.f .aA,.f (fi 0),.f (fi 0),.f .aA] 0)
 bx:J[bq]?=aa (.box [c,.f (fi fr),.f (fi p.aM),cq] 0)
 big:b0+1<bq
 lc:LR J c 1 (ints hd)
 lq:LR J cq 1 (ints kJ)
 ne:∀ i,aV c=aa i→aV cq≠aa i
 cb:∀ i,aV c=aa i→b0+1<i
 qb:∀ i,aV cq=aa i→b0+1<i
theorem LQ.app{p:aI}{H:an}{b0 v:Nat}{fr:Int}{c E:C}{hd kJ:List Int}{J:an}(h:LQ p H b0 v fr c E hd kJ J)(hl:kJ.length≤1000)(n:Int) :
  ∃ m j,bF (J++[.box [.f (fi n)] 0]) 1 8 (.c E) (.c (.sl J.length 0 1 1 0 1))=aa (.c m,j)∧dt j (.ptr v 3 0) [m]=aa (j.set v (.box [c,.f (fi fr),.f (fi p.aM),m] 0))∧LQ p H b0 v fr c m hd (kJ++[n]) (j.set v (.box [c,.f (fi fr),.f (fi p.aM),m] 0)):=by
 obtain⟨B,b⟩:=aN (J++[.box ([fi n].map .f) 0]:an);have M:=aj h.bx;have hg:=h.big;have up:∀(i:Nat) y,J[i]?=aa y→B[i]?=aa y:=fun i y hy=>by rw [b,AT (aj hy)];exact hy
 have x:LR B E 1 (ints kJ):=by rw [b];exact h.lq.push _
 have F:B[J.length]?=aa (.box ([fi n].map .f) 0):=by rw [b];simp
 obtain⟨m,j,l,s,q,A⟩:=x.app (Km.Ord.bV kJ) (by decide) (row:=[fi n]) rfl (bytes:=8) (dG (by simp [ints];omega) (by decide)) F;have h2:B.length=J.length+1:=by rw [b];simp
 have u:∀(i:Nat) y,J[i]?=aa y→ir y=ae→j[i]?=aa y:=fun i y hy L=>q.2 i y (up _ _ hy) (lM x (up _ _ hy) L);have d:=u _ _ h.bx rfl;have K:ints kJ++[[fi n]]=ints (kJ++[n]):=by simp [ints]
 rw [K]at s;have z:LR j c 1 (ints hd):=h.lc.bu fun i y hy hi=>q.2 i y (up _ _ hy) (h.ne i hi);refine⟨m,j,by rw [b]at l;exact l,by simp [dt,d,over],h.hb,fun i hi=>?_,?_,?_,BY (aj d),hg,z.set (z.bz d) _,s.set (s.bz d) _,?_,h.cb,?_⟩
 ·rw [sh (by omega),←h.kp i hi];have I:i<J.length:=by omega
  have hy:J[i]?=aa J[i]:=By I;rw [hy];exact q.2 i _ (up _ _ hy) (fun e=>by have:=h.qb i e;omega)
 ·rw [sh (by omega)];exact u _ _ h.bp rfl
 ·rw [sh (by omega)];exact u _ _ h.br rfl
 ·intro i hi g;rcases A with e | e
  ·rw [e]at g;exact h.ne i hi g
  ·rw [e]at g;cases g;have:=h.lc.lt hi;omega
 ·intro i hi;rcases A with e | e
  ·rw [e]at hi;exact h.qb i hi
  ·rw [e]at hi;cases hi;omega
theorem sT(p:aI)(hp:cF p=ae)(n8:p.bf.length≤256)(hl:p.head.length≤1000000)(m:Int)(i9:0≤m)(i_:m≤1099511627776)(H:an) :
  ∃ r H',Ev tab (.fn 150) [.a (p.row.map .f),vi m] H r H'∧(∃ fr c b hd l2,r=.a [c,.f (fi fr),.f (fi p.aM),b]∧fr=max p.fr m∧H.length≤H'.length∧(∀ i:Nat,i<H.length→H'[i]?=H[i]?)∧LR H' c 1 (ints hd)∧LR H' b 1 (ints l2)∧(∀ i,aV c=aa i→aV b≠aa i)∧(∀ i,aV c=aa i→H.length≤i)∧(∀ i,aV b=aa i→H.length≤i) ∧
   hd.length≤p.head.length∧l2.length=p.bf.length∧∀ S L:Tg,cF ⟨S,hd,fr,p.aM,L,l2⟩=ae∧∀ d,0≤d→bK ⟨S,hd,fr,p.aM,L,l2⟩ d=(decide (m≤d)&&bK p d)):=by
 obtain⟨q1,q2,q3,q4,q5,q6,q7,q8,q9⟩:=a6 hp;obtain⟨i,hi,j9,j4,i3⟩:=fT p.hg p.head m (by omega) q6;obtain⟨fr,O⟩:=aN (max p.fr m);have f7:max p.fr m=fr:=O.symm;refine cH rfl rfl fun Q hQ=>?_;apply ai;simp [aI.row];obtain⟨A,s⟩:=aN (H++[.box [.f (sl p.hg (ints p.head)),.f (fi p.fr),.f (fi p.aM),.f (sl p.cg (ints p.bf))] 0,.box [.f .aA,.f (fi 0),.f (fi 0),.f .aA] 0]:an);obtain⟨b0,v⟩:=aN (H.length);rw [←s,←v];have a0:A[b0]?=aa (.box [.f (sl p.hg (ints p.head)),.f (fi p.fr),.f (fi p.aM),.f (sl p.cg (ints p.bf))] 0):=by rw [s,v];simp
 have a1:A[b0+1]?=aa (.box [.f .aA,.f (fi 0),.f (fi 0),.f .aA] 0):=by rw [s,v,alp (by omega)];simp
 have al:A.length=b0+2:=by rw [s,v];simp
 have ak:∀ i:Nat,i<b0→A[i]?=H[i]?:=fun i hi=>by rw [s,AT (by omega)]
 have I:∀ J:an,J[b0]?=aa (.box [.f (sl p.hg (ints p.head)),.f (fi p.fr),.f (fi p.aM),.f (sl p.cg (ints p.bf))] 0)→aX J ab (.c (.ptr b0 0 0))=aa (.c (.f (sl p.hg (ints p.head))))∧aX J ab (.c (.ptr b0 1 0))=aa (vi p.fr)∧aX J ab (.c (.ptr b0 2 0))=aa (vi p.aM)∧aX J ab (.c (.ptr b0 3 0))=aa (.c (.f (sl p.cg (ints p.bf)))):=fun J h=>by
  refine⟨?_,?_,?_,?_⟩<;>simp [aX,aH,h]
 obtain⟨e0,e1,e2,e3⟩:=I A a0;obtain⟨g1,F⟩:=xG (H:=A) (g:=p.hg) (k:=i) (Km.Ord.bV p.head) (by simp [ints];omega) (by simp [ints];omega);have j3:(ints p.head).drop i=ints (p.head.drop i):=by simp [ints,anf]
 rw [j3]at F;obtain⟨c,Jc,E,a_,d_⟩:=ql (H:=A) (g:=g1) (p.head.drop i) (by simp;omega);obtain⟨HJ,N⟩:=aN (A++Jc:an);rw [←N]at E a_;have u:∀ k:Nat,k<b0+2→HJ[k]?=A[k]?:=fun k q=>by rw [N,AT (by omega)]
 have lJ:b0+2≤HJ.length:=by rw [N,List.length_append];omega
 obtain⟨f0,f1,f2,f3⟩:=I HJ (by rw [u b0 (by omega)];exact a0);apply ai;simp [e0,-ay,i3];refine au (eP (.inl rfl) ?_ ?_)
 case refine_2=>
  intro cc i7;have i6:cc=(6,4)∨cc=(10,4):=by simpa using i7
  rcases i6 with rfl | rfl
  ·refine⟨by decide,_,rfl,.inr ⟨by decide,?_⟩⟩;simp [e0,e1,f1,-ay,F,E,fH,qh]
  ·refine⟨by decide,_,rfl,.inr ⟨by decide,?_⟩⟩;simp [e0,e1,e2,f1,f2,-ay,F,E,f7,fH,qh]
 simp [e0,f1,f2,-ay,F,E,f7];obtain⟨K,e_⟩:=aN (HJ.length);obtain⟨HK,B⟩:=aN (HJ++[b7.box [c,.f (fi fr),.f (fi p.aM),.f .aA] 0]);have a8:LQ p H b0 K fr c (.f .aA) (p.head.drop i) [] HK:=by
  have w:∀ k:Nat,k<b0+2→HK[k]?=A[k]?:=fun k q=>by rw [B,AT (by omega),u k q]
  refine⟨v,fun k q=>by rw [w k (by omega),ak k q],by rw [w b0 (by omega)];exact a0,by rw [w (b0+1) (by omega)];exact a1,by rw [B,e_];simp,by omega,by rw [B];exact a_.push _,LR.nil _ _,(fun i hi h=>by cases h),fun k q=>by have:=d_ k q;omega,(fun k q=>by cases q)⟩
 rw [←e_,←B];have h_:∀ H:an,bh H (.f (sl p.cg (ints p.bf)))=aa p.bf.length:=fun H=>by simp [ints]
 have j7:=(I HK a8.bp).2.2.2;apply au;apply ai;simp [j7,-ay,h_];refine bZ p.bf.length (fun i' t J=>t.g 2=.c (.ptr b0 0 0)∧t.g 4=.c (.ptr (b0+1) 0 0)∧t.g 7=.c (.ptr K 0 0)∧t.g 30=.c (.f (sl p.cg (ints p.bf)))∧∃ b,LQ p H b0 K fr c b (p.head.drop i) (eG p.fr fr p.aM (p.bf.take i')) J) (by omega) (by decide) (by decide) (by simp) (by simp)
  ⟨by simp,by simp,by simp,by simp,.f .aA,by simpa [eG]using a8⟩ ?_ ?_
 ·rintro j t J hj ⟨g2,g4,g7,M,b,l⟩ ha hb next
  have i8:=q9 _ (IT hj);have f_:=fun H:an=>bG (H:=H) (g:=p.cg) (rows:=ints p.bf) (sz:=1) (k:=.i64) (i:=(j:Int)) (by omega) (by simp [ints];omega);have g_:=fun H:an=>eh (H:=H) hj;simp at f_;obtain⟨x,hx⟩:=aN (p.bf[j]);rw [←hx]at i8 g_;have m9:p.bf.take (j+1)=p.bf.take j++[x]:=by rw [aly,By hj,hx];rfl
  have f8:=zZ (p.fr+x-fr) p.aM (by omega) (by omega);obtain⟨c3,H3,d9,l_,k_⟩:=l.app (by simp [eG];omega) ((p.fr+x-fr) % p.aM);have Y:aX J ab (.c (.ptr K 3 0))=aa (.c b):=by simp [aX,aH,l.bx]
  have n6:aX J ab (.c (.ptr K 1 0))=aa (vi fr):=by simp [aX,aH,l.bx]
  obtain⟨-,j1,j2,-⟩:=I J l.bp;refine az ?_;apply ai;simp [ha,M,f_,g_];refine aq (.inl rfl) ?_;simp [g2,g7,Y,n6,j1,j2,-ay,aO (n:=p.fr+x),aO (n:=p.fr+x-fr),f8,d9,l_,-bw];refine ax (next _ _ ?_ (by simp [ha]) (by simp [hb]));refine⟨by simp [g2],by simp [g4],by simp [g7],by simp [M],c3,?_⟩;rw [m9];simpa [eG]using k_
 ·rintro t J ⟨g2,g4,g7,M,b,l⟩ - -;rw [alw]at l;obtain⟨r,Z,he,rfl,hK,l2,a7,W,j8⟩:=VC l.lq (by simp [eG];omega);have up:∀(k:Nat) y,J[k]?=aa y→ir y=ae→Z[k]?=aa y:=fun k y X hn=>hK.2 k y X (lM l.lq X hn);have i4:=up _ _ l.bx rfl;have z:=up _ _ l.br rfl;have b_:LR Z c 1 (ints (p.head.drop i)):=l.lc.bu fun k y X q=>hK.2 k y X (l.ne k q);have Y:aX J ab (.c (.ptr K 3 0))=aa (.c b):=by simp [aX,aH,l.bx]
  have m_:aX Z (aa 4) (.c (.ptr K 0 0))=aa (.a [c,.f (fi fr),.f (fi p.aM),b]):=by simp [aX,aH,i4,aY]
  have s1:dt Z (.ptr (b0+1) 0 0) [c,.f (fi fr),.f (fi p.aM),b]=aa (Z.set (b0+1) (.box [c,.f (fi fr),.f (fi p.aM),b] 0)):=by simp [dt,z,over]
  have n1:(Z.set (b0+1) (.box [c,.f (fi fr),.f (fi p.aM),b] 0))[b0+1]?=aa (.box [c,.f (fi fr),.f (fi p.aM),b] 0):=BY (aj z);have c9:=b_.set (b_.bz z) (.box [c,.f (fi fr),.f (fi p.aM),b] 0);have c_:=a7.set (a7.bz z) (.box [c,.f (fi fr),.f (fi p.aM),b] 0);have n9:=aj z;apply ai;simp [g7,Y,-ay,he.eq];apply ai;simp [g4,g7,m_,s1,-ay,-bw];have U:=fun S L=>Jo hp i9 hi j9 j4 O W j8 i_ S L;refine aD (hQ _ _ (.a [c,.f (fi fr),.f (fi p.aM),b]) rfl ?_ ⟨fr,c,b,p.head.drop i,l2,rfl,O,by simp;omega,fun k q=>?_,c9,c_,l.ne,fun k q=>by have:=l.cb k q;omega,fun k q=>by have:=l.qb k q;omega,by simp,(U .nil .nil).2.2,fun S L=>⟨(U S L).1,(U S L).2.1⟩⟩)
  ·simp [Km.results,cm,aZ,g4,n1,aY]
  ·rw [sh (by omega),←l.kp k (by omega)];have j_:k<J.length:=by have:=aj l.bp;omega
   have X:J[k]?=aa J[k]:=By j_;rw [X];exact hK.2 k _ X (fun e=>by have:=l.qb k e;omega)
theorem sU{J:an}{c:C}{l:List Int}(h:LR J c 1 (ints l)){j:Nat}(B:j<l.length):∃ b g,aV c=aa b∧bB J 1 ab (.c c) (vi j)=aa (.c (.ptr b j g))∧aX J ab (.c (.ptr b j g))=aa (vi l[j]) ∧
  ∀ x:Int,∃ J',dt J (.ptr b j g) [.f (fi x)]=aa J'∧LR J' c 1 (ints (l.set j x))∧J'.length=J.length∧∀ i:Nat,i≠b→i<J.length→J'[i]?=J[i]?:=by
 rcases h with⟨A,_⟩ | ⟨s,b,g,rfl,q⟩
 ·cases l with
  | nil=>simp at B| cons a l=>simp [ints]at A
 ·have d:j<(ints l).length:=by simp [ints];omega
  have u:=q.at d;have m:(ints l)[j]=[fi l[j]]:=by simp [ints]
  have v:=q.ldc (Km.Ord.bV l) (By d) (k:=0) (x:=fi l[j]) (by rw [m];rfl);rw [am0]at u v;refine⟨b,g,rfl,u,v,fun x=>?_⟩
  ·obtain⟨J',y,z,F,H⟩:=q.str (row:=[fi x]) (Km.Ord.bV l) d rfl;rw [am0]at y;have e:(ints l).set j [fi x]=ints (l.set j x):=by simp [ints,List.map_set]
   rw [e]at z;refine⟨J',y,.inr ⟨?_,b,g,by simp [ints],z⟩,H,fun i hi E=>F.2 i hi E⟩;intro h;apply s;have:=congrArg List.length h;simp [ints]at this;rw [this];rfl
theorem JV{p:aI}{hd u:List Int}{fr g:Int}(K:g≤0)(q m:Tg)(J:cF ⟨q,hd,fr,p.aM,m,u⟩=ae)(N:∀ d,0≤d→bK ⟨q,hd,fr,p.aM,m,u⟩ d=(decide (-g≤d)&&bK p d))(M:-g≤fr)(j:∀ x ∈ hd,-g≤x) :
  cF ⟨q,hd.map (· + g),fr+g,p.aM,m,u⟩=ae∧∀ d,0≤d→bK ⟨q,hd.map (· + g),fr+g,p.aM,m,u⟩ d=bK p (d-g):=by
 obtain⟨O,Q,z,A,B,E,F,H,I⟩:=a6 J;simp only at O Q z A B E F H I;refine⟨pB (by show 0≤fr+g;omega) (by show fr+g≤_;omega) z A (by simpa using B) ?_ ?_ H (fun x l=>by have:=I x l;exact⟨by omega,by show x<p.aM;omega⟩),fun d L=>?_⟩
 ·show(hd.map (· + g)).Pairwise (· < ·);rw [List.pairwise_map];exact anK (fun h=>by omega) E
 ·intro x l;have l:x ∈ hd.map (· + g):=l;obtain⟨y,s,rfl⟩:=alC.1 l;have a:=F y s;have b:=j y s;exact⟨by omega,by show y+g<fr+g;omega⟩
 ·have v:=N (d-g) (by omega);rw [decide_eq_true (show -g≤d-g by omega),amm]at v;rw [←v];unfold bK;simp only;by_cases k:fr+g≤d
  ·rw [ba k,ba (by omega),show d-(fr+g)=d-g-fr by omega]
  ·rw [aS k,aS (by omega)];apply decide_eq_decide.2;rw [alC];constructor
   ·rintro⟨y,s,e⟩;rw [show d-g=y by omega];exact s
   ·intro h;exact⟨_,h,by omega⟩
theorem UD{J:an}{c:C}{l:List Int}(h:LR J c 1 (ints l)):∀(i:Nat) (y:b7),J[i]?=aa y→aV c≠aa i→(eX deep c J)[i]?=aa y:=by
 rcases h with⟨_,rfl | rfl⟩ | ⟨u,b,s,rfl,q⟩
 ·intro i y d _;exact d
 ·intro i y d _;exact d
 ·unfold RB at q;intro i y d hi;have g:b≠i:=fun e=>hi (by rw [e];rfl);have e:∃ z,eX deep (.sl b 0 (ints l).length 0 s 1) J=J.set b z:=by
   simp only [deep,po,q];rw [jJ]
   ·exact⟨_,rfl⟩
   ·intro x j;have j:=alY (amj j);obtain⟨m,_,rfl⟩:=alC.1 j;exact⟨_,rfl⟩
  obtain⟨z,v⟩:=e;rw [v,sh g];exact d
theorem JN(p:aI)(hp:cF p=ae)(d_:p.bf.length≤256)(hl:p.head.length≤1000000)(g:Int)(j8:-1000000≤g)(d9:g≤0) :
  ∃ q,cF q=ae∧q.fr≤p.fr∧q.aM ∣ p.aM∧q.bf.length≤p.bf.length∧q.head.length≤p.head.length∧(∀ d,0≤d→bK q d=bK p (d-g))∧bX tab 106 [.a (p.row.map .f),vi g]=Eq (.t [.a (q.row.map .f),vi 0]):=by
 obtain⟨q1,q2,q3,q4,q5,q6,q7,q8,q9⟩:=a6 hp;have hv:=qu p (jN hp);rw [hp]at hv;obtain⟨rr,⟨q,c1,c2,c3,c4,c5,c6,rfl⟩,h⟩:∃ rr,(∃ q,cF q=ae∧q.fr≤p.fr∧q.aM ∣ p.aM∧q.bf.length≤p.bf.length∧q.head.length≤p.head.length∧(∀ d,0≤d→bK q d=bK p (d-g))∧rr=.t [.a (q.row.map .f),vi 0])∧bX tab 106 [.a (p.row.map .f),vi g] rr:=by
  refine eQ rfl rfl fun Q hQ=>?_;obtain⟨HA,L⟩:=aN ([.box [.f (sl p.hg (ints p.head)),.f (fi p.fr),.f (fi p.aM),.f (sl p.cg (ints p.bf))] 0,.box [.f .aA,.f (fi 0),.f (fi 0),.f .aA] 0]:an);obtain⟨r,HL,u,fr,c,E,hd,l2,rfl,j_,j3,g_,c9,c_,w,j9,m9,k_,l_,m⟩:=sT p hp d_ hl (-g) (by omega) (by omega) HA;have u:=u.eq;simp only [aI.row,alo,alH]at u hv ⊢;have j4:HA.length=2:=by rw [L];rfl
  have N:∀ x ∈ hd,-g≤x:=fun x hx=>by
   obtain⟨a,b⟩:=m .nil .nil;obtain⟨-,-,-,-,-,-,k7,-,-⟩:=a6 a;have h7:=k7 x hx;simp only at h7;have hb:=b x (by omega);have hm:bK ⟨.nil,hd,fr,p.aM,.nil,l2⟩ x=ae:=by
    unfold bK;simp only;rw [aS (by omega)];simpa using hx
   rw [hm]at hb;have:=hb.symm;rw [If,decide_eq_true_eq]at this;exact this.1
  have i3:∀ x ∈ hd,x≤2000000000000:=fun x hx=>by
   obtain⟨-,-,-,-,-,-,k7,-,-⟩:=a6 (m .nil .nil).1;have h7:=k7 x hx;simp only at h7;omega
  apply ai;simp;apply au;apply ai;simp [hv,show¬ g < -1099511627776 by omega,show¬ 1099511627776<g by omega];refine aW (by simp) ?_;rw [←L];have a0:HA[0]?=aa (.box [.f (sl p.hg (ints p.head)),.f (fi p.fr),.f (fi p.aM),.f (sl p.cg (ints p.bf))] 0):=by rw [L];rfl
  have a1:HA[1]?=aa (.box [.f .aA,.f (fi 0),.f (fi 0),.f .aA] 0):=by rw [L];rfl
  have h_:max (-g) 0 = -g:=by omega
  have a7:unV .neg (vi g)=aa (vi (-g)):=by
   show aa (vi (IntKind.i64.wrap (0-g)))=_;rw [Int.zero_sub,aO]
  apply ai;simp [a0,aY,a7,h_,u];obtain⟨l,k⟩:=aN (HL.length);rw [←k];obtain⟨K,U⟩:∃ K:Int→List Int→an→Prop,K=fun f h J=>J[1]?=aa (.box [.f .aA,.f (fi 0),.f (fi 0),.f .aA] 0)∧J[l]?=aa (.box [c,.f (fi f),.f (fi p.aM),E] 0)∧LR J c 1 (ints h)∧LR J E 1 (ints l2):=⟨_,rfl⟩
  have k0:K fr hd (HL++[.box [c,.f (fi fr),.f (fi p.aM),E] 0]):=by
   rw [U];exact⟨by rw [AT (by omega),g_ 1 (by omega)];exact a1,by rw [k];simp,c9.push _,c_.push _⟩
  generalize HL++[b7.box [c,.f (fi fr),.f (fi p.aM),E] 0]=H1 at k0 ⊢;have o:∀ f h J,K f h J→∀ Y,dt J (.ptr l 1 0) [.f (fi Y)]=aa (J.set l (.box [c,.f (fi Y),.f (fi p.aM),E] 0))∧K Y h (J.set l (.box [c,.f (fi Y),.f (fi p.aM),E] 0)):=by
   intro f h J z Y;rw [U]at z ⊢;obtain⟨F,s,v,H⟩:=z;refine⟨by simp [dt,s,over],by rw [sh (by omega)];exact F,BY (aj s),v.set (v.bz s) _,H.set (H.bz s) _⟩
  have M:∀ f h J,K f h J→aX J ab (.c (.ptr l 0 0))=aa (.c c)∧aX J ab (.c (.ptr l 1 0))=aa (vi f)∧aX J (aa 4) (.c (.ptr l 0 0))=aa (.a [c,.f (fi f),.f (fi p.aM),E])∧bh J c=aa h.length:=by
   intro f h J z;rw [U]at z;obtain⟨F,s,v,H⟩:=z;refine⟨?_,?_,?_,?_⟩
   ·simp [aX,aH,s]
   ·simp [aX,aH,s]
   ·simp [aX,aH,s,aY]
   ·have:=v.len;simpa [ints]using this
  obtain⟨-,e1,-,-⟩:=M _ _ _ k0;obtain⟨s1,k1⟩:=o _ _ _ k0 (fr+g);apply ai;simp [e1,-ay,aO (n:=fr+g),s1,-bw];generalize H1.set l (.box [c,.f (fi (fr+g)),.f (fi p.aM),E] 0)=H2 at k1 ⊢;obtain⟨f0,-,-,fl⟩:=M _ _ _ k1;apply au;apply ai;simp [f0,-ay,fl];refine bZ hd.length (fun j t J=>t.g 1=vi g∧t.g 4=.c (.ptr 1 0 0)∧t.g 6=.c (.ptr l 0 0)∧K (fr+g) ((hd.take j).map (· + g)++hd.drop j) J) (by omega) (by decide) (by decide) (by simp) (by simp) ⟨by simp,by simp,by simp,by simpa using k1⟩ ?_ ?_
  ·rintro j t J hj ⟨g1,g4,S,z⟩ ha hb next
   have f_:j<((hd.take j).map (· + g)++hd.drop j).length:=by simp;omega
   have a_:((hd.take j).map (· + g)).length=j:=by simp;omega
   have f8:((hd.take j).map (· + g)++hd.drop j)[j]=hd[j]:=by
    rw [List.getElem_append_right (by omega)];simp only [a_,Nat.sub_self,amQ,Nat.add_zero]
   have m_:=N _ (IT hj);have n6:=i3 _ (IT hj);obtain⟨i4,-,-,-⟩:=M _ _ _ z;have B:=z;rw [U]at B;obtain⟨F,s,v,H⟩:=B;obtain⟨b,ep,ub,ix,b_,i_⟩:=sU v f_;rw [f8]at b_;obtain⟨J',us,uL,ul,uk⟩:=i_ (hd[j]+g);have a8:((hd.take j).map (· + g)++hd.drop j).set j (hd[j]+g)=(hd.take (j+1)).map (· + g)++hd.drop (j+1):=by
    rw [List.set_append_right _ _ (by omega),a_,Nat.sub_self,aly,By hj,List.drop_eq_getElem_cons hj];simp only [List.set_cons_zero,Option.toList_some,List.map_append,alo,alH,alU,List.cons_append,List.nil_append]
   rw [a8]at uL;refine az ?_;apply ai;simp [ha];refine aq (.inl rfl) ?_;simp [g1,S,i4,ix,b_,-ay,aO (n:=hd[j]+g),us,-bw];refine ax (next _ _ ?_ (by simp [ha]) (by simp [hb]));refine⟨by simp [g1],by simp [g4],by simp [S],?_⟩;rw [U];refine⟨?_,?_,uL,H.bu fun i y O hi=>?_⟩
   ·rw [uk 1 (fun e=>by have:=v.bz F;exact this (e▸ub)) (aj F)];exact F
   ·rw [uk l (fun e=>by have:=v.bz s;exact this (e▸ub)) (aj s)];exact s
   ·rw [uk i (fun e=>w b ub (e▸hi)) (aj O)];exact O
  ·rintro t J ⟨g1,g4,S,z⟩ - -;rw [alw,List.drop_length,List.append_nil]at z;obtain⟨-,-,i6,-⟩:=M _ _ _ z;have B:=z;rw [U]at B;obtain⟨F,s,v,H⟩:=B;obtain⟨g3,e_⟩:=v.VW (Km.Ord.bV _);obtain⟨I,f7⟩:=H.VW (Km.Ord.bV _);have x3:=e_ J 63 (fun i y O _=>O);have x4:=f7 J 63 (fun i y O _=>O);obtain⟨i8,i9⟩:=JV (p:=p) d9 g3 I (m g3 I).1 (m g3 I).2 (by omega) N;obtain⟨q,⟨d1,d2,d3,d4⟩,d5,d6,A⟩:=mw ⟨g3,hd.map (· + g),fr+g,p.aM,I,l2⟩ i8 (by show l2.length≤_;omega) (by show(hd.map (· + g)).length≤_;simp;omega);simp only [aI.row,alo,alH]at A d2 d3 d5 d6;simp only [alq]at d6;have u3:∀(i:Nat) (y:b7),J[i]?=aa y→aV c≠aa i→(eX deep c J)[i]?=aa y:=UD v;apply au;apply ai;simp only [deep]at u3 A;have i7:LR (eX 64 c J) E 1 (ints l2):=H.bu fun i y O hi=>u3 i y O (fun e=>w i e hi);have u4:=UD i7;simp only [deep]at u4;have w1:=u4 1 _ (u3 1 _ F (v.bz F)) (H.bz F);have w2:=u4 l _ (u3 l _ s (v.bz s)) (H.bz s);obtain⟨W,Z⟩:=aN (eX 64 E (eX 64 c J));rw [←Z]at w1 w2;obtain⟨QC,j7⟩:=aN ([.f (sl q.hg (ints q.head)),.f (fi q.fr),.f (fi q.aM),.f (sl q.cg (ints q.bf))]:List C);have t1:dt W (.ptr l 0 0) [.f (sl q.hg (ints q.head)),.f (fi q.fr),.f (fi q.aM),.f (sl q.cg (ints q.bf))]=aa (W.set l (.box [.f (sl q.hg (ints q.head)),.f (fi q.fr),.f (fi q.aM),.f (sl q.cg (ints q.bf))] 0)):=by simp [dt,w2,over]
   have t2:(W.set l (.box [.f (sl q.hg (ints q.head)),.f (fi q.fr),.f (fi q.aM),.f (sl q.cg (ints q.bf))] 0))[l]?=aa (.box [.f (sl q.hg (ints q.head)),.f (fi q.fr),.f (fi q.aM),.f (sl q.cg (ints q.bf))] 0):=BY (aj w2);have t3:(W.set l (.box [.f (sl q.hg (ints q.head)),.f (fi q.fr),.f (fi q.aM),.f (sl q.cg (ints q.bf))] 0))[1]?=aa (.box [.f .aA,.f (fi 0),.f (fi 0),.f .aA] 0):=by rw [sh (by omega)];exact w1
   simp [S,i6,-ay,x3,x4,deep,A,←Z,t1,-bw];generalize W.set l (.box [.f (sl q.hg (ints q.head)),.f (fi q.fr),.f (fi q.aM),.f (sl q.cg (ints q.bf))] 0)=X at t2 t3 ⊢;have l1:aX X ab (.c (.ptr l 1 0))=aa (vi q.fr):=by simp [aX,aH,t2]
   have l4:aX X (aa 4) (.c (.ptr l 0 0))=aa (.a [.f (sl q.hg (ints q.head)),.f (fi q.fr),.f (fi q.aM),.f (sl q.cg (ints q.bf))]):=by simp [aX,aH,t2,aY]
   have s4:dt X (.ptr 1 0 0) [.f (sl q.hg (ints q.head)),.f (fi q.fr),.f (fi q.aM),.f (sl q.cg (ints q.bf))]=aa (X.set 1 (.box [.f (sl q.hg (ints q.head)),.f (fi q.fr),.f (fi q.aM),.f (sl q.cg (ints q.bf))] 0)):=by simp [dt,t3,over]
   have n1:(X.set 1 (.box [.f (sl q.hg (ints q.head)),.f (fi q.fr),.f (fi q.aM),.f (sl q.cg (ints q.bf))] 0))[1]?=aa (.box [.f (sl q.hg (ints q.head)),.f (fi q.fr),.f (fi q.aM),.f (sl q.cg (ints q.bf))] 0):=BY (aj t3);apply ai;simp [S,l1,-ay,show¬ 1099511627776<q.fr by omega];refine aW (by simp) ?_;apply ai;simp [g4,S,l4,s4,-ay,-bw];refine aD (hQ _ _ _ ⟨q,d1,by omega,d3,by omega,by omega,fun d hd=>?_,rfl⟩ ?_)
   ·rw [d4 d hd];exact i9 d hd
   ·simp [g4,n1,aI.row]
 exact⟨q,c1,c2,c3,c4,c5,c6,h.eq⟩
theorem abG{a b:Int}(x:1≤a)(a1:a≤1000)(b0:1≤b)(b1:b≤1000):bX tab 137 [vi a,vi b]=Eq (.t [vi (a / (amf a b:Int)*b),vi 0]):=by
 obtain⟨g,l⟩:=aN ((amf a b:Int):Int);have j:amf a b=amW a.toNat b.toNat:=by
  show amW a.natAbs b.natAbs=_;rw [show a.natAbs=a.toNat by omega,show b.natAbs=b.toNat by omega]
 have m:0<g:=by have:=amt b (show a≠0 by omega);omega
 have d:bX tab 122 [vi a,vi b]=Eq (vi g):=by
  have h:=wL (a:=a.toNat) (b:=b.toNat) (by omega) (by omega);rw [show((a.toNat:Nat):Int)=a by omega,show((b.toNat:Nat):Int)=b by omega,←j,←l]at h;exact h
 rw [←l];have u:bP .quo (vi a) (vi g)=aa (vi (a / g)):=fy (by omega) m (by omega);have v:bP .quo (vi 1099511627776) (vi b)=aa (vi (1099511627776 / b)):=fy (by omega) (by omega) (by omega);have q:0≤a / g:=amr (by omega) (by omega);have y:a / g≤a:=amC _ (by omega);have z:a / g≤1099511627776 / b:=by
  have:1000≤1099511627776 / b:=by rw [Int.le_ediv_iff_mul_le (by omega)];omega
  omega
 have A:0≤a / g*b:=ams q (by omega);have B:a / g*b≤1000*1000:=amE (by omega) b1 (by omega) (by omega);refine bX.eq (cz rfl rfl fun Q s=>?_);apply ai;simp;apply au;apply ai;simp [show¬ a<1 by omega,show¬ b<1 by omega];refine aW (by simp) ?_;apply ai;simp [d,u];apply au;apply ai;simp [v,show¬ 1099511627776 / b<a / g by omega];refine aW (by simp) ?_;apply ai;simp [aO (n:=a / g*b)];refine aD (s _ _ ?_);simp
theorem vP(p:aI)(s:cF p=ae)(A:p.bf.length≤1000)(B:p.head.length≤1000)(n:Int)(q:0≤n)(E:n≤1000000):∃ k:Int,0≤k∧k≤2000+n*1000∧bX tab 178 [.a (p.row.map .f),vi n]=Eq (vi k):=by
 obtain⟨F,H,I,J,K,u,L,v,M⟩:=a6 s;by_cases k:n≤p.fr
 ·obtain⟨i,l,-,-,b⟩:=fT p.hg p.head n (by omega) u;refine⟨i,by omega,by omega,bX.eq (cz rfl rfl fun Q d=>?_)⟩;apply ai;simp [aI.row];apply au;apply ai;simp [k];refine av (by simp) ?_;apply ai;simp [b];apply ai;simp;refine aD (d _ _ ?_);simp
 ·obtain⟨i,l,-,-,b⟩:=fT p.cg p.bf ((n-p.fr) % p.aM) (by omega) v;have g:bP .rem (vi (n-p.fr)) (vi p.aM)=aa (vi ((n-p.fr) % p.aM)):=eR (by omega) (by omega);have j:bP .quo (vi (n-p.fr)) (vi p.aM)=aa (vi ((n-p.fr) / p.aM)):=fy (by omega) (by omega) (by omega);have m:0≤(n-p.fr) / p.aM:=amr (by omega) (by omega);have x:(n-p.fr) / p.aM≤n-p.fr:=amC _ (by omega);have y:0≤(n-p.fr) / p.aM*(p.bf.length:Int):=ams m (by omega);have z:(n-p.fr) / p.aM*(p.bf.length:Int)≤n*1000:=amE (by omega) (by omega) (by omega) (by omega);refine⟨p.head.length+(n-p.fr) / p.aM*(p.bf.length:Int)+i,by omega,by omega,bX.eq (cz rfl rfl fun Q d=>?_)⟩;apply ai;simp [aI.row];apply au;apply ai;simp [k];refine aW (by simp) ?_;apply ai;simp [aO (n:=n-p.fr),g,b];apply ai;simp [aO (n:=n-p.fr),j,aO (n:=(n-p.fr) / p.aM*(p.bf.length:Int)),aO (n:=(p.head.length:Int)+(n-p.fr) / p.aM*(p.bf.length:Int)),aO (n:=(p.head.length:Int)+(n-p.fr) / p.aM*(p.bf.length:Int)+i)];refine aD (d _ _ ?_);simp
theorem su{b:Type}{f:b→b→Bool}:∀ {xs:List b},(∀ x ∈ xs,f x x=ae)→nO f xs xs=ae
 | [],_=>rfl| x::xs,h=>by simp only [nO,h x alr,su fun y d=>h y (alu _ d),Bool.and_self]
def Rf(n:Nat)(x:FC):Prop:=FC.beq n x x=ae
theorem Bq(n:Nat)(k:IntKind)(m:Int):Rf n (.int k m):=by unfold Rf;cases n<;>simp [FC.beq]
theorem ajg{n:Nat}{xs:List FC}{l:Nat}(h:∀ x ∈ xs,Rf n x):Rf (n+1) (.fs xs l):=by unfold Rf;simp [FC.beq,su h]
theorem ajh{n:Nat}{rows:List (List FC)}(g:Tg)(h:∀ r ∈ rows,∀ x ∈ r,Rf n x):Rf (n+1) (sl g rows):=by
 unfold sl;split
 ·unfold Rf;cases g<;>rfl
 ·exact ajg fun x b=>by
   obtain⟨r,d,b⟩:=List.mem_flatten.1 b;exact h r d x b
theorem CV(n:Nat)(g:Tg)(l:List Int):Rf (n+1) (sl g (ints l)):=ajh g fun r d x b=>by
 obtain⟨k,-,rfl⟩:=alC.1 d;simp at b;subst b;exact Bq _ _ _
theorem af7{n:Nat}(p:aI):∀ x ∈ p.row,Rf (n+1) x:=by
 intro x b;simp [aI.row]at b;rcases b with rfl | rfl | rfl | rfl
 ·exact CV _ _ _
 ·exact Bq _ _ _
 ·exact Bq _ _ _
 ·exact CV _ _ _
theorem ZU:∀ {xs:List FC},(∀ x ∈ xs,Rf 64 x)→V.beq (.a (xs.map .f)) (.a (xs.map .f))=ae:=by
 intro xs h;simp only [V.beq,If,beq_self_eq_true,true_and,alA];intro q b;obtain⟨i,hi,rfl⟩:=alB b;rw [List.getElem_zip];simp only [List.getElem_map,C.beq];exact h _ (IT _)
theorem B6(p:aI):V.beq (.a [.f (sl p.hg (ints p.head)),.f (fi p.fr),.f (fi p.aM),.f (sl p.cg (ints p.bf))]) (.a [.f (sl p.hg (ints p.head)),.f (fi p.fr),.f (fi p.aM),.f (sl p.cg (ints p.bf))])=ae:=ZU (xs:=p.row) (af7 (n:=63) p)
def A7(l:List (Int × C)):List (FC × C):=l.map fun e=>(fi e.1,e.2)
def Jq(k:Int):List (Int × C)→Option C
 | []=>ab| e::b=>if k=e.1 then aa e.2 else Jq k b
def tv(k:Int)(c:C):List (Int × C)→List (Int × C)
 | []=>[(k,c)]| e::b=>if k=e.1 then(k,c)::b else e::tv k c b
theorem Cc(a b:Int):eqK .int (fi a) (fi b)=aa (decide (a=b)):=by
 simp only [eqK,if_true];by_cases h:a=b
 ·simp [h]
 ·simp [h]
theorem Cg(k:Int):∀ l,nW .int (fi k) (A7 l)=aa (Jq k l)
 | []=>rfl
 | e::d=>by
  have b:=Cg k d;simp only [A7,alo,nW,Cc,Jq]at b ⊢;by_cases h:k=e.1
  ·rw [ba h,decide_eq_true h]
  ·rw [aS h,decide_eq_false h];exact b
theorem Vj(k:Int)(c:C):∀ l,qX .int (fi k) c (A7 l)=aa (A7 (tv k c l))
 | []=>rfl
 | e::d=>by
  have b:=Vj k c d;simp only [A7,alo,qX,Cc,tv]at b ⊢;by_cases h:k=e.1
  ·rw [ba h,decide_eq_true h];rfl
  ·rw [aS h,decide_eq_false h];simp only [b];rfl
theorem UC(k k':Int)(c:C):∀ l,Jq k' (tv k c l)=if k'=k then aa c else Jq k' l
 | []=>by simp [tv,Jq]
 | e::d=>by
  have g:=UC k k' c d;unfold tv;by_cases h:k=e.1
  ·rw [ba h];by_cases b:k'=k
   ·simp [Jq,b]
   ·have:¬ k'=e.1:=by omega
    simp [Jq,b,this]
  ·rw [aS h];unfold Jq;rw [g];by_cases b:k'=e.1
   ·have:¬ k'=k:=by omega
    simp [b,this];intro e;omega
   ·simp [b]
def nK(l:List (Int × C))(k:Int):C:=(Jq k l).getD (.f .aA)
theorem wA(l:List (Int × C))(k k':Int)(c:C):nK (tv k c l) k'=if k'=k then c else nK l k':=by
 unfold nK;rw [UC];by_cases h:k'=k<;>simp [h]
structure kv(J:an)(N:Nat)(l:List (Int × C))(F:Int→List Int):Prop where
 lr:∀ k,LR J (nK l k) 1 (ints (F k))
 lo:∀ k i,aV (nK l k)=aa i→N≤i
 ne:∀ k k' i,k≠k'→aV (nK l k)=aa i→aV (nK l k')≠aa i
theorem kv.bu{J J':an}{N:Nat}{l:List (Int × C)}{F:Int→List Int}(h:kv J N l F)(b:∀ i y,N≤i→J[i]?=aa y→J'[i]?=aa y):kv J' N l F:=
 ⟨fun k=>(h.lr k).bu fun i y hy hi=>b i y (h.lo k i hi) hy,h.lo,h.ne⟩
theorem aci{J:an}{c:C}{l:List Int}(h:LR J c 1 (ints l)):mV c=.c c∧qJ (.c c)=aa c:=by
 rcases h with⟨_,rfl | rfl⟩ | ⟨_,b,d,rfl,_⟩<;>exact⟨rfl,rfl⟩
theorem kv.look{J:an}{N:Nat}{l:List (Int × C)}{F:Int→List Int}(h:kv J N l F){J':an}{m:Nat}(b:J'[m]?=aa (.map (A7 l)))(k:Int):hO J' .int .aA (.c (.mp m)) (vi k)=aa (.c (nK l k)):=by
 have h2:=(aci (h.lr k)).1;unfold hO;simp only [b,isKey,if_true,Cg,alZ,lkR,qn,nK];unfold nK at h2;cases hc:Jq k l with
 | none=>rfl| some c=>rw [hc]at h2;simpa using h2
theorem kv.nil(J:an)(N:Nat):kv J N [] (fun _=>[]):=⟨fun _=>LR.nil _ _,fun _ _ h=>by simp [nK,Jq,aV]at h,fun _ _ _ _ h=>by simp [nK,Jq,aV]at h⟩
theorem oZ{J:an}{c:C}{l:List Int}(h:LR J c 1 (ints l))(F:l.length≤1000000)(n:Int) :
  ∃ j g,bF (J++[.box [.f (fi n)] 0]) 1 8 (.c c) (.c (.sl J.length 0 1 1 0 1))=aa (.c j,g)∧LR g j 1 (ints (l++[n]))∧J.length<g.length∧(∀(i:Nat) y,J[i]?=aa y→aV c≠aa i→g[i]?=aa y)∧(aV j=aV c∨aV j=aa (J.length+1)):=by
 obtain⟨u,b⟩:=aN (J++[.box ([fi n].map .f) 0]:an);have E:∀(i:Nat) y,J[i]?=aa y→u[i]?=aa y:=fun i y v=>by rw [b,AT (aj v)];exact v
 have x:LR u c 1 (ints l):=by rw [b];exact h.push _
 have z:u[J.length]?=aa (.box ([fi n].map .f) 0):=by rw [b];simp
 have B:u.length=J.length+1:=by rw [b];simp
 obtain⟨j,g,d,q,m,s⟩:=x.app (Km.Ord.bV l) (by decide) (row:=[fi n]) rfl (bytes:=8) (dG (by simp [ints];omega) (by decide)) z;have A:ints l++[[fi n]]=ints (l++[n]):=by simp [ints]
 rw [A]at q;refine⟨j,g,by rw [b]at d;exact d,q,by have:=m.1;omega,fun i y v hi=>m.2 i y (E i y v) hi,?_⟩;rw [B]at s;exact s
theorem kv.app{J:an}{N m:Nat}{l:List (Int × C)}{F:Int→List Int}(h:kv J N l F)(W:J[m]?=aa (.map (A7 l)))(O:m<N)(X:N≤J.length)(k:Int)(hl:(F k).length≤1000000)(n:Int) :
  ∃ g j,bF (J++[.box [.f (fi n)] 0]) 1 8 (.c (nK l k)) (.c (.sl J.length 0 1 1 0 1))=aa (.c g,j)∧qJ (.c g)=aa g∧j[m]?=aa (.map (A7 l))∧(∀ i:Nat,i<N→j[i]?=J[i]?) ∧
   kv (j.set m (.map (A7 (tv k g l)))) N (tv k g l) (fun k'=>if k'=k then F k++[n]else F k')∧N≤(j.set m (.map (A7 (tv k g l)))).length:=by
 obtain⟨g,j,v,u,S,A,z⟩:=oZ (h.lr k) hl n;have U:∀ i:Nat,i<N→j[i]?=J[i]?:=fun i hi=>by
  have L:i<J.length:=by omega
  have hy:J[i]?=aa J[i]:=By L;rw [hy];exact A i _ hy fun e=>by have:=h.lo k i e;omega
 have d:∀ i,aV g=aa i→N≤i:=fun i hi=>by
  rcases z with e | e
  ·rw [e]at hi;exact h.lo k i hi
  ·rw [e]at hi;cases hi;omega
 have M:j[m]?=aa (.map (A7 l)):=by rw [U m O];exact W
 refine⟨g,j,v,(aci u).2,M,U,⟨fun k'=>?_,fun k' i hi=>?_,fun Q I i B hi=>?_⟩,by rw [alI];omega⟩
 ·rw [wA];by_cases e:k'=k
  ·rw [ba e,ba e];exact u.set (fun x=>by have:=d m x;omega) _
  ·rw [aS e,aS e];refine LR.set ((h.lr k').bu fun i y hy hi=>A i y hy (h.ne k' k i e hi)) (fun x=>by have:=h.lo k' m x;omega) _
 ·rw [wA]at hi;by_cases e:k'=k
  ·rw [ba e]at hi;exact d i hi
  ·rw [aS e]at hi;exact h.lo k' i hi
 ·rw [wA]at hi ⊢;have b:∀ E,E≠k→∀ i,aV (nK l E)=aa i→aV g≠aa i:=fun E K i hi e=>by
   rcases z with q | q
   ·rw [q]at e;exact h.ne E k i K hi e
   ·rw [q]at e;cases e;have:=(h.lr E).lt hi;omega
  by_cases H:Q=k
  ·have s:¬ I=k:=fun e=>B (H.trans e.symm);rw [ba H]at hi;rw [aS s];exact fun q=>b I s i q hi
  ·rw [aS H]at hi;by_cases s:I=k
   ·rw [ba s];exact b Q H i hi
   ·rw [aS s];exact h.ne Q I i B hi
theorem ab7(t:T)(H:an):bE t H .kM=aa (.c (.mp H.length),H++[.map []]):=rfl
theorem mX(t:T)(H:an)(b:CK)(z:FC)(m k:Arg):bE t H (.lookup b z m k)=(hO H b z (m.ev t) (k.ev t)).map (·,H):=rfl
def xe(H:an)(g:CK):V→V→V→Option (V × an)
 | .c (.mp b),.c (.f k),v=>match qJ v,H[b]? with
  | some v,aa (.map d)=>if isKey g k then(qX g k v d).map fun d=>(.top,H.set b (.map d))else ab
  | _,_=>ab
 | _,_,_=>ab
theorem ab6(t:T)(H:an)(b:CK)(m k v:Arg):bE t H (.mh b m k v)=xe H b (m.ev t) (k.ev t) (v.ev t):=by
 simp only [bE];unfold xe;split<;>split<;>simp_all
 all_goals (split<;>simp_all)
def cB(b d:aI)(st:Int)(j l:C)(g:Int)(m:Nat):List C:=[.f (sl b.hg (ints b.head)),.f (fi b.fr),.f (fi b.aM),.f (sl b.cg (ints b.bf)),.f (sl d.hg (ints d.head)),.f (fi d.fr),.f (fi d.aM),.f (sl d.cg (ints d.bf)),.f (fi st),j,l,.f (fi g),.mp m]
def Am:List C:=[.f .aA,.f (fi 0),.f (fi 0),.f .aA,.f .aA,.f (fi 0),.f (fi 0),.f .aA,.f (fi 0),.f .aA,.f .aA,.f (fi 0),.f .py]
def kB(g:Int)(Y:List Int)(k:Int):List Int:=Y.filter fun y=>decide (y % g=k)
structure PH(J:an)(N:Nat)(X Y:List Int)(g:Int)(l:List (Int × C))(cx cy:C)(m:Nat):Prop where
 lx:LR J cx 1 (ints X)
 ly:LR J cy 1 (ints Y)
 mp:J[m]?=aa (.map (A7 l))
 ok:kv J N l (kB g Y)
theorem PH.bu{J J':an}{N:Nat}{X Y:List Int}{g:Int}{l:List (Int × C)}{d j:C}{m:Nat}(h:PH J N X Y g l d j m)(q:∀ i:Nat,i<J.length→J'[i]?=J[i]?):PH J' N X Y g l d j m:=by
 have b:∀(i:Nat) y,J[i]?=aa y→J'[i]?=aa y:=fun i y hy=>by rw [q i (aj hy)];exact hy
 exact⟨h.lx.bu fun i y hy _=>b i y hy,h.ly.bu fun i y hy _=>b i y hy,b _ _ h.mp,h.ok.bu fun i y _ hy=>b i y hy⟩
def yG(q:aI)(st:Int)(X:List Int):Prop:=X.length=q.bf.length∧X.Pairwise (· < ·)∧(∀ x ∈ X,0≤x∧x<q.aM)∧∀ d,st≤d→(bK q d=ae↔(d-st) % q.aM ∈ X)
theorem qZ{q:aI}{st fr:Int}{hd b:List Int}(v:q.fr≤st)(B:0≤st)(s:fr=max q.fr st)(u:b.length=q.bf.length)(h:∀ j g:Tg,cF ⟨j,hd,fr,q.aM,g,b⟩=ae∧∀ d,0≤d→bK ⟨j,hd,fr,q.aM,g,b⟩ d=(decide (st≤d)&&bK q d)):yG q st b:=by
 obtain⟨l,m⟩:=h .nil .nil;obtain⟨E,F,H,I,J,K,L,z,A⟩:=a6 l;have e:fr=st:=by omega
 subst e;refine⟨u,z,fun x y=>by have:=A x y;exact⟨by omega,this.2⟩,fun d hd=>?_⟩;have:=m d (by omega);rw [decide_eq_true hd,amm]at this;rw [←this];unfold bK;simp only;rw [ba hd,decide_eq_true_eq]
structure NQ(H:an)(qa qb:aI)(st:Int)(X Y:List Int)(g:Int)(N bp m j:Nat)(cx cy:C)(l:List (Int × C))(J:an):Prop where
 kp:∀ i:Nat,i<H.length→J[i]?=H[i]?
 br:J[H.length+2]?=aa (.box Am 0)
 bp:J[bp]?=aa (.box (cB qa qb st cx cy g m) 0)
 lx:LR J cx 1 (ints X)
 ly:LR J cy 1 (ints Y)
 mp:J[m]?=aa (.map (A7 l))
 ok:kv J N l (kB g (Y.take j))
 len:N≤J.length
theorem qq{a b c:Int}:xf ag [vi a,vi b,vi c]=aa (vi (max (max a b) c)):=by
 have d:(if a<b then b else a)=max a b:=by split<;>omega
 have g:(if max a b<c then c else max a b)=max (max a b) c:=by split<;>omega
 simp only [xf,qV,vH];simp [d,g,V.int]
structure LdP(J:an)(bp:Nat)(qa qb:aI)(st:Int)(cx cy:C)(g:Int)(m:Nat):Prop where
 la:aX J (aa 4) (.c (.ptr bp 0 0))=aa (.a [.f (sl qa.hg (ints qa.head)),.f (fi qa.fr),.f (fi qa.aM),.f (sl qa.cg (ints qa.bf))])
 lb:aX J (aa 4) (.c (.ptr bp 4 0))=aa (.a [.f (sl qb.hg (ints qb.head)),.f (fi qb.fr),.f (fi qb.aM),.f (sl qb.cg (ints qb.bf))])
 laf:aX J ab (.c (.ptr bp 1 0))=aa (vi qa.fr)
 lap:aX J ab (.c (.ptr bp 2 0))=aa (vi qa.aM)
 lbf:aX J ab (.c (.ptr bp 5 0))=aa (vi qb.fr)
 lbp:aX J ab (.c (.ptr bp 6 0))=aa (vi qb.aM)
 kJ:aX J ab (.c (.ptr bp 8 0))=aa (vi st)
 lx:aX J ab (.c (.ptr bp 9 0))=aa (.c cx)
 ly:aX J ab (.c (.ptr bp 10 0))=aa (.c cy)
 lg:aX J ab (.c (.ptr bp 11 0))=aa (vi g)
 lm:aX J ab (.c (.ptr bp 12 0))=aa (.c (.mp m))
 Uu:aX J (aa 13) (.c (.ptr bp 0 0))=aa (.a (cB qa qb st cx cy g m))
 s8:∀ z:Int,dt J (.ptr bp 8 0) [.f (fi z)]=aa (J.set bp (.box (cB qa qb z cx cy g m) 0))
 s9:∀ z:C,dt J (.ptr bp 9 0) [z]=aa (J.set bp (.box (cB qa qb st z cy g m) 0))
 s10:∀ z:C,dt J (.ptr bp 10 0) [z]=aa (J.set bp (.box (cB qa qb st cx z g m) 0))
 s11:∀ z:Int,dt J (.ptr bp 11 0) [.f (fi z)]=aa (J.set bp (.box (cB qa qb st cx cy z m) 0))
theorem qQ{J:an}{bp:Nat}{j l:aI}{st:Int}{b d:C}{g:Int}{m:Nat}(h:J[bp]?=aa (.box (cB j l st b d g m) 0)):LdP J bp j l st b d g m:=by
 unfold cB at h;constructor<;>simp [aX,aH,h,aY,dt,over,cB]
theorem vO{j l:aI}{st:Int}{b d:C}{g:Int}{m:Nat}:(cB j l st b d g m).length=13:=rfl
theorem AM{w x y z:C}:sN 3 ab (.a [w,x,y,z])=aa (.c z):=rfl
theorem Be(a b:aI)(ha:cF a=ae)(hb:cF b=ae)(ca:a.bf.length≤256)(cb:b.bf.length≤256)(la:a.head.length≤1000000)(lb:b.head.length≤1000000)(pa:a.aM≤1000000)(pb:b.aM≤1000000)(H:an) :
  ∃ r H',Ev tab (.fn 175) [.a (a.row.map .f),.a (b.row.map .f),vi 0] H r H'∧(∃ d s st X Y v x l m N,md a d∧md b s∧d.bf.length≤a.bf.length∧s.bf.length≤b.bf.length∧d.head.length≤a.head.length∧s.head.length≤b.head.length∧r=.a (cB d s st v x (amf d.aM s.aM:Int) m) ∧
   st=max d.fr s.fr∧yG d st X∧yG s st Y∧PH H' N X Y (amf d.aM s.aM:Int) l v x m∧∀ i:Nat,i<H.length→H'[i]?=H[i]?):=by
 obtain⟨d,sa,xa,ya,j3⟩:=mw a ha ca la;obtain⟨s,sb,xb,yb,j4⟩:=mw b hb cb lb;obtain⟨f8,o9,n8,o_⟩:=sa;refine cH rfl rfl fun Q hQ=>?_;apply ai;simp [aI.row];simp only [aI.row,alo,alH]at j3 j4;obtain⟨HA,A⟩:=aN (H++[.box [.f (sl a.hg (ints a.head)),.f (fi a.fr),.f (fi a.aM),.f (sl a.cg (ints a.bf))] 0,.box [.f (sl b.hg (ints b.head)),.f (fi b.fr),.f (fi b.aM),.f (sl b.cg (ints b.bf))] 0,.box Am 0]:an);obtain⟨b0,z⟩:=aN (H.length);have a0:HA[b0]?=aa (.box [.f (sl a.hg (ints a.head)),.f (fi a.fr),.f (fi a.aM),.f (sl a.cg (ints a.bf))] 0):=by rw [A,z];simp
 have a1:HA[b0+1]?=aa (.box [.f (sl b.hg (ints b.head)),.f (fi b.fr),.f (fi b.aM),.f (sl b.cg (ints b.bf))] 0):=by rw [A,z,alp (by omega)];simp
 have a2:HA[b0+2]?=aa (.box Am 0):=by rw [A,z,alp (by omega)];simp
 have al:HA.length=b0+3:=by rw [A,z];simp
 have ak:∀ i:Nat,i<b0→HA[i]?=H[i]?:=fun i hi=>by rw [A,AT (by omega)]
 unfold Am at A;rw [←A,←z];have l0:aX HA (aa 4) (.c (.ptr b0 0 0))=aa (.a [.f (sl a.hg (ints a.head)),.f (fi a.fr),.f (fi a.aM),.f (sl a.cg (ints a.bf))]):=by simp [aX,aH,a0,aY]
 have l1:aX HA (aa 4) (.c (.ptr (b0+1) 0 0))=aa (.a [.f (sl b.hg (ints b.head)),.f (fi b.fr),.f (fi b.aM),.f (sl b.cg (ints b.bf))]):=by simp [aX,aH,a1,aY]
 apply ai;simp [l0,l1,-ay,j3,j4,ab7,al];obtain⟨m,hm⟩:=aN (b0+3);obtain⟨bp,i_⟩:=aN (m+1);obtain⟨HB,I⟩:=aN (HA++[b7.map [],.box (cB d s 0 (.f .aA) (.f .aA) 0 m) 0]);have b1:HB[m]?=aa (.map []):=by rw [I,hm,alp (by omega),al];simp
 have b2:HB[bp]?=aa (.box (cB d s 0 (.f .aA) (.f .aA) 0 m) 0):=by rw [I,i_,hm,alp (by omega),al];simp
 have bk:∀ i:Nat,i<b0+3→HB[i]?=HA[i]?:=fun i hi=>by rw [I,AT (by omega)]
 have bl:HB.length=b0+5:=by rw [I];simp [al]
 unfold cB at I;rw [←hm,←I,←i_]
 suffices f7:∀ t:T,t.g 2=vi 0→t.g 6=.c (.ptr (b0+2) 0 0)→t.g 7=.c (.ptr bp 0 0)→WP tab 175 ab [.code xT] ⟨t,[],HB⟩ Q by exact f7 _ (by simp) (by simp) (by simp)
 intro t g2 g6 E;obtain⟨st,o6⟩:=aN (max d.fr s.fr);obtain⟨q1,q2,q3,q4,q5,q6,q7,q8,q9⟩:=a6 f8;obtain⟨w1,w2,w3,w4,w5,w6,w7,w8,w9⟩:=a6 sb.ok;have o4:max (max d.fr s.fr) 0=st:=by omega
 have L1:=qQ b2;apply ai;simp [g2,E,L1.laf,L1.lbf,L1.s8,qq,o4,-ay,-bw];obtain⟨HC,K⟩:=aN (HB.set bp (.box (cB d s st (.f .aA) (.f .aA) 0 m) 0));rw [←K];have c1:HC[m]?=aa (.map []):=by rw [K,sh (by omega)];exact b1
 have c2:HC[bp]?=aa (.box (cB d s st (.f .aA) (.f .aA) 0 m) 0):=by rw [K,BY (by omega)]
 have ck:∀ i:Nat,i<b0+3→HC[i]?=HA[i]?:=fun i hi=>by rw [K,sh (by omega),bk i hi]
 have cl:HC.length=b0+5:=by rw [K,alI];exact bl
 have L2:=qQ c2;obtain⟨r1,HD,a_,r7,p8,v,s7,X,rfl,j8,dl,dk,-,i7,-,-,p_,-,i4,hX⟩:=sT d f8 (by omega) (by omega) st (by omega) (by omega) HC;have d2:HD[bp]?=aa (.box (cB d s st (.f .aA) (.f .aA) 0 m) 0):=by rw [dk bp (by omega)];exact c2
 have L3:=qQ d2;obtain⟨r2,HE,j7,r8,p9,x,s_,Y,rfl,j9,el,ek,-,i8,-,-,q_,-,i6,hY⟩:=sT s sb.ok (by omega) (by omega) st (by omega) (by omega) HD;have e2:HE[bp]?=aa (.box (cB d s st (.f .aA) (.f .aA) 0 m) 0):=by rw [ek bp (by omega)];exact d2
 have L4:=qQ e2;simp only [aI.row,alo,alH]at a_ j7;refine au (eP (.inl rfl) ?_ ?_)
 case refine_2=>
  intro cc U;have c_:cc=(7,4)∨cc=(9,4):=by simpa using U
  rcases c_ with rfl | rfl
  ·refine⟨by decide,_,rfl,.inr ⟨by decide,?_⟩⟩;simp [E,L2.la,L2.kJ,L2.lb,L3.lb,-ay,a_.eq,AM,fH,B6]
  ·refine⟨by decide,_,rfl,.inr ⟨by decide,?_⟩⟩;simp [E,L2.la,L2.kJ,L3.lb,L3.kJ,-ay,a_.eq,AM,fH,qh]
 obtain⟨HF,L⟩:=aN (HE.set bp (.box (cB d s st v (.f .aA) 0 m) 0));have f2:HF[bp]?=aa (.box (cB d s st v (.f .aA) 0 m) 0):=by rw [L,BY (aj e2)]
 have L5:=qQ f2;obtain⟨HG,M⟩:=aN (HF.set bp (.box (cB d s st v x 0 m) 0));have h2:HG[bp]?=aa (.box (cB d s st v x 0 m) 0):=by rw [M,BY (aj f2)]
 have L6:=qQ h2;simp [E,L2.la,L2.kJ,L3.lb,L3.kJ,-ay,a_.eq,j7.eq,AM,L4.s9,←L,L5.s10,←M,-bw];obtain⟨g,hg⟩:=aN ((amf d.aM s.aM:Int):Int);have t5:d.aM≤1000000:=amy (amn (by have:=(a6 ha).2.2.1;omega) n8) pa;have t6:s.aM≤1000000:=amy (amn (by have:=(a6 hb).2.2.1;omega) sb.aM) pb;have o0:amf d.aM s.aM=amW d.aM.toNat s.aM.toNat:=by
  show amW d.aM.natAbs s.aM.natAbs=_;rw [show d.aM.natAbs=d.aM.toNat by omega,show s.aM.natAbs=s.aM.toNat by omega]
 have g0:0<g:=by have:=amt s.aM (show d.aM≠0 by omega);omega
 have j_:bX tab 122 [vi d.aM,vi s.aM]=Eq (vi g):=by
  have h:=wL (a:=d.aM.toNat) (b:=s.aM.toNat) (by omega) (by omega);rw [show((d.aM.toNat:Nat):Int)=d.aM by omega,show((s.aM.toNat:Nat):Int)=s.aM by omega,←o0,←hg]at h;exact h
 apply ai;simp [E,L6.lap,L6.lbp,L6.s11,j_,-ay,-bw];obtain⟨F,O⟩:=aN (HG.set bp (.box (cB d s st v x g m) 0));have i2:F[bp]?=aa (.box (cB d s st v x g m) 0):=by rw [O,BY (aj h2)]
 have L7:=qQ i2;rw [←O];have kE:∀ i:Nat,i<b0+5→i≠bp→F[i]?=HC[i]?:=fun i hi o5=>by
  rw [O,sh (by omega),M,sh (by omega),L,sh (by omega),ek i (by omega),dk i (by omega)]
 have m_:∀(i:Nat) y,HE[i]?=aa y→i≠bp→F[i]?=aa y:=fun i y B o5=>by
  rw [O,sh (by omega),M,sh (by omega),L,sh (by omega)];exact B
 have e_:LR F x 1 (ints Y):=i8.bu fun i y B hi=>m_ i y B fun e=>i8.bz e2 (e▸hi);have m9:LR F v 1 (ints X):=i7.bu fun i y B hi=>m_ i y (by rw [ek i (aj B)];exact B) fun e=>i7.bz d2 (e▸hi);have iN:F.length=HE.length:=by rw [O,M,L];simp
 have n0:NQ H d s st X Y g F.length bp m 0 v x [] F:=by
  refine⟨fun i hi=>?_,?_,i2,m9,e_,?_,by rw [List.take_zero];exact kv.nil _ _,alk _⟩
  ·rw [kE i (by omega) (by omega),ck i (by omega),ak i (by omega)]
  ·rw [←z,kE (b0+2) (by omega) (by omega),ck _ (by omega)];exact a2
  ·rw [kE m (by omega) (by omega)];exact c1
 have f_:bp<F.length:=aj i2;have o7:bh F x=aa Y.length:=by have:=e_.len;simpa [ints]using this
 have n9:=qZ (st:=st) (by omega) (by omega) j8 i4 hX;have i9:=qZ (st:=st) (by omega) (by omega) j9 i6 hY;have r_:Y.length≤256:=by omega
 apply au;apply ai;simp [E,L7.ly,-ay,o7];have h_:∀ i,aV v=aa i→i<F.length:=fun i hi=>m9.lt hi;have i3:∀ i,aV x=aa i→i<F.length:=fun i hi=>e_.lt hi;generalize r9:F.length=N at n0 f_ h_ i3;refine bZ Y.length (fun j t J=>t.g 6=.c (.ptr (b0+2) 0 0)∧t.g 7=.c (.ptr bp 0 0)∧t.g 48=.c x∧∃ l,NQ H d s st X Y g N bp m j v x l J) (by omega) (by decide) (by decide) (by simp) (by simp)
  ⟨by simp [g6],by simp [E],by simp,[],n0⟩ ?_ ?_
 ·rintro j t J hj ⟨g6,E,b_,l,u⟩ ha hb next
  obtain⟨yb,t7,t8,o8,n6,-⟩:=sU u.ly hj;have L8:=qQ u.bp;obtain⟨y,B⟩:=aN (Y[j]);have yb:=i9.2.2.1 _ (IT hj);rw [←B]at n6 yb;have a7:bP .rem (vi y) (vi g)=aa (vi (y % g)):=eR (by omega) g0;obtain⟨c3,H3,S,U,l_,W,Z,k_⟩:=u.ok.app u.mp (by omega) u.len (y % g) (by unfold kB;exact alL (am4 _ _) (by rw [alV];omega)) y;have d_:=fun J' (h:J'[m]?=aa (b7.map (A7 l)))=>u.ok.look (J':=J') h (y % g);have d9:=d_ J u.mp;have m4:xe H3 .int (.c (.mp m)) (vi (y % g)) (.c c3)=aa (.top,H3.set m (.map (A7 (tv (y % g) c3 l)))):=by
   simp only [xe,U,l_,isKey,if_true,Vj,alZ]
  have g_:=W bp f_;have L9:=qQ (J:=H3) (by rw [g_];exact u.bp);refine az ?_;apply ai;simp [ha,b_,o8,n6,-ay];refine eP (.inl rfl) ?_ ?_
  case refine_2=>
   intro cc U;have c_:cc=(1,16)∨cc=(4,16):=by simpa using U
   rcases c_ with rfl | rfl
   ·refine⟨by decide,_,rfl,.inl ⟨by decide,?_⟩⟩;simp [E,L8.lm,L8.lg,a7,-ay,mX,d9,S,L9.lm,fH,V.beq,C.beq]
   ·refine⟨by decide,_,rfl,.inl ⟨by decide,?_⟩⟩;simp [E,L8.lm,L8.lg,a7,-ay,mX,d9,S,L9.lg,fH,qh]
  simp [E,L8.lm,L8.lg,a7,-ay,mX,d9,S,ab6,m4];have n_:kB g (Y.take (j+1))=fun k'=>if k'=y % g then kB g (Y.take j) (y % g)++[y]else kB g (Y.take j) k':=by
   funext k';unfold kB;rw [aly,By hj,←B,anI];by_cases e:k'=y % g
   ·subst e;simp
   ·have:¬ y % g=k':=fun q=>e q.symm;simp [e,this]
  rw [←n_]at Z;have t4:m<N:=by omega
  refine ax (next _ _ ?_ (by simp [ha]) (by simp [hb]));refine⟨by simp [g6],by simp [E],by simp [b_],_,⟨fun i hi=>?_,?_,?_,?_,?_,?_,Z,k_⟩⟩
  ·rw [sh (by omega),W i (by omega)];exact u.kp i hi
  ·rw [sh (by omega),W _ (by omega)];exact u.br
  ·rw [sh (by omega),g_];exact u.bp
  ·exact LR.set (u.lx.bu fun i y B hi=>by rw [W i (h_ i hi)];exact B) (lM u.lx u.mp rfl) _
  ·exact LR.set (u.ly.bu fun i y B hi=>by rw [W i (i3 i hi)];exact B) (lM u.ly u.mp rfl) _
  ·exact BY (by have:=aj l_;omega)
 ·rintro t J ⟨g6,E,b_,l,u⟩ - -;have L8:=qQ u.bp;have Z:=u.ok;rw [alw]at Z;obtain⟨HZ,a8⟩:=aN (J.set (b0+2) (.box (cB d s st v x g m) 0));have s2:dt J (.ptr (b0+2) 0 0) (cB d s st v x g m)=aa HZ:=by
   have:=u.br;rw [←z]at this;rw [a8];simp [dt,this,over,cB,Am]
  have z2:HZ[b0+2]?=aa (.box (cB d s st v x g m) 0):=by rw [a8];exact BY (by have:=aj u.br;omega)
  have nm:b0+2≠m:=by omega
  apply ai;simp [g6,E,L8.Uu,s2,-ay,-bw,vO];have c9:=u.br;rw [←z]at c9;refine aD (hQ _ _ (.a (cB d s st v x g m)) (by rfl) ?_ ⟨d,s,st,X,Y,v,x,l,m,N,⟨f8,o9,n8,o_⟩,sb,xa,xb,ya,yb,by rw [hg],o6,n9,i9,?_,fun i hi=>?_⟩)
  ·have:=(qQ (bp:=b0+2) z2).Uu;simp [Km.results,cm,aZ,g6,this,-ay]
  ·rw [←hg,a8];refine⟨u.lx.set (u.lx.bz c9) _,u.ly.set (u.ly.bz c9) _,by rw [sh nm];exact u.mp,Z.bu fun i y hi B=>?_⟩;rw [sh (by omega)];exact B
  ·show HZ[i]?=_;rw [a8,sh (by omega)];exact u.kp i hi
structure HQ(H:an)(p2:aI)(b2:Nat)(c:C)(L:List Int)(J:an):Prop where
 kp:∀ i:Nat,i<H.length→J[i]?=H[i]?
 bx:J[b2]?=aa (.box [.f (sl p2.hg (ints p2.head)),.f (fi p2.fr),.f (fi p2.aM),.f (sl p2.cg (ints p2.bf))] 0)
 lc:LR J c 1 (ints L)
 lo:∀ i,aV c=aa i→H.length≤i
 hl:H.length≤J.length
theorem head_mem{p:aI}(g:cF p=ae)(d:Int):d ∈ p.head↔0≤d∧d<p.fr∧bK p d=ae:=by
 obtain⟨q,s,u,v,x,y,j,z,A⟩:=a6 g;constructor
 ·intro h;have:=j d h;refine⟨by omega,by omega,?_⟩;unfold bK;rw [aS (by omega)];exact decide_eq_true h
 ·rintro⟨l,m,b⟩;unfold bK at b;rw [aS (by omega)]at b;exact of_decide_eq_true b
theorem Uq(l b:aI)(X:cF l=ae)(hb:cF b=ae)(la:l.head.length≤1000000)(lb:b.head.length≤1000000)(st:Int)(i8:st=max l.fr b.fr)(cx cy:C)(g:Int)(m:Nat)(H:an) :
  ∃ r H',Ev tab (.fn 176) [.a (cB l b st cx cy g m)] H r H'∧∃ c L,r=.c c∧LR H' c 1 (ints L)∧(∀ i,aV c=aa i→H.length≤i)∧(∀ i:Nat,i<H.length→H'[i]?=H[i]?)∧H.length≤H'.length∧L.Pairwise (· < ·)∧L.length≤l.head.length+b.head.length∧∀ d,d ∈ L↔0≤d∧d<st∧bK l d=ae∧bK b d=ae:=by
 refine cH rfl rfl fun Q hQ=>?_;apply ai;simp [cB];obtain⟨b0,N⟩:=aN (H.length);obtain⟨S,z⟩:=aN (H++[.box (cB l b st cx cy g m) 0]:an);have a0:S[b0]?=aa (.box (cB l b st cx cy g m) 0):=by rw [z,N];simp
 have al:S.length=b0+1:=by rw [z,N];simp
 have ak:∀ i:Nat,i<b0→S[i]?=H[i]?:=fun i hi=>by rw [z,AT (by omega)]
 unfold cB at z;rw [←z,←N];have L1:=qQ a0;obtain⟨za,i9⟩:=aN ([.f (sl l.hg (ints l.head)),.f (fi l.fr),.f (fi l.aM),.f (sl l.cg (ints l.bf))]:List C);obtain⟨zb,i_⟩:=aN ([.f (sl b.hg (ints b.head)),.f (fi b.fr),.f (fi b.aM),.f (sl b.cg (ints b.bf))]:List C);have L2:∀ J:an,aX (S++J) (aa 4) (.c (.ptr b0 4 0))=aa (.a [.f (sl b.hg (ints b.head)),.f (fi b.fr),.f (fi b.aM),.f (sl b.cg (ints b.bf))]):=fun J=>(qQ (bp:=b0) (by rw [AT (by omega)];exact a0)).lb;refine au (eP (.inl rfl) ?_ ?_)
 case refine_2=>
  intro cc f7;have e_:cc=(3,7):=by simpa using f7
  subst e_;refine⟨by decide,_,rfl,.inl ⟨by decide,?_⟩⟩;simp [L1.la,L1.lb,L2,-ay,fH,B6]
 simp [L1.la,L1.lb,-ay];obtain⟨y,v⟩:=aN (S++[b7.box [.f (sl l.hg (ints l.head)),.f (fi l.fr),.f (fi l.aM),.f (sl l.cg (ints l.bf))] 0,.box [.f (sl b.hg (ints b.head)),.f (fi b.fr),.f (fi b.aM),.f (sl b.cg (ints b.bf))] 0]);obtain⟨b1,I⟩:=aN (S.length);have c0:y[b0]?=aa (.box (cB l b st cx cy g m) 0):=by rw [v,AT (by omega)];exact a0
 have c1:y[b1]?=aa (.box [.f (sl l.hg (ints l.head)),.f (fi l.fr),.f (fi l.aM),.f (sl l.cg (ints l.bf))] 0):=by rw [v,I];simp
 have c2:y[b1+1]?=aa (.box [.f (sl b.hg (ints b.head)),.f (fi b.fr),.f (fi b.aM),.f (sl b.cg (ints b.bf))] 0):=by rw [v,I,alp (by omega)];simp
 have ck:∀ i:Nat,i<b0→y[i]?=H[i]?:=fun i hi=>by rw [v,AT (by omega)];exact ak i hi
 have cl:y.length=b0+3:=by rw [v];simp [al]
 have i4:b1=b0+1:=by rw [I,al]
 rw [←v,←I]
 suffices O:∀ t:T,t.g 1=.c (.ptr b0 0 0)→t.g 3=.c (.ptr b1 0 0)→t.g 4=.c (.ptr (b1+1) 0 0)→WP tab 176 ab [.code xU] ⟨t,[],y⟩ Q by exact O _ (by simp) (by simp) (by simp)
 intro t g1 W B;have Y:∀(q s:aI) (t:T) (J:an),cF q=ae→cF s=ae→q.fr=st→q.head.length≤1000000→q.head.length≤l.head.length+b.head.length→(∀ d,(bK q d=ae∧bK s d=ae)↔(bK l d=ae∧bK b d=ae))→t.g 3=.c (.ptr b1 0 0)→t.g 4=.c (.ptr (b1+1) 0 0) →
   J[b1]?=aa (.box [.f (sl q.hg (ints q.head)),.f (fi q.fr),.f (fi q.aM),.f (sl q.cg (ints q.bf))] 0)→J[b1+1]?=aa (.box [.f (sl s.hg (ints s.head)),.f (fi s.fr),.f (fi s.aM),.f (sl s.cg (ints s.bf))] 0)→(∀ i:Nat,i<b0→J[i]?=H[i]?) →
   WP tab 176 ab [.code xV] ⟨t,[],J⟩ Q:=by
  intro q s t J h1 h2 f8 i7 f_ a_ W B j1 j2 jk;obtain⟨q1,q2,q3,q4,q5,q6,q7,q8,q9⟩:=a6 h1;have K:aX J ab (.c (.ptr b1 0 0))=aa (.c (.f (sl q.hg (ints q.head)))):=by simp [aX,aH,j1]
  have c_:bh J (.f (sl q.hg (ints q.head)))=aa q.head.length:=by simp [ints]
  apply ai;simp;apply au;apply ai;simp [W,K,-ay,c_];have jl:=aj j2;refine bZ q.head.length (fun j t J=>t.g 4=.c (.ptr (b1+1) 0 0)∧t.g 20=.c (.f (sl q.hg (ints q.head)))∧∃ c,t.g 5=.c c∧HQ H s (b1+1) c ((q.head.take j).filter fun d=>bK s d) J) (by omega) (by decide) (by decide) (by simp) (by simp)
   ⟨by simp [B],by simp,.f .aA,by simp,fun i hi=>jk i (by omega),j2,by simpa [ints]using LR.nil _ _,(fun _ h=>by cases h),by omega⟩ ?_ ?_
  ·rintro j t J hj ⟨B,E,c,g5,u⟩ X hb next
   have h_:=q7 _ (IT hj);have c9:=fun H:an=>bG (H:=H) (g:=q.hg) (rows:=ints q.head) (sz:=1) (k:=.i64) (i:=(j:Int)) (by omega) (by simp [ints];omega);have K:=fun H:an=>eh (H:=H) hj;simp at c9;obtain⟨x,hx⟩:=aN (q.head[j]);rw [←hx]at h_ K;have b_:q.head.take (j+1)=q.head.take j++[x]:=by rw [aly,By hj,hx];rfl
   have i3:aX J (aa 4) (.c (.ptr (b1+1) 0 0))=aa (.a [.f (sl s.hg (ints s.head)),.f (fi s.fr),.f (fi s.aM),.f (sl s.cg (ints s.bf))]):=by simp [aX,aH,u.bx,aY]
   have M:=vJ s h2 x (by omega) (by unfold Day;omega);simp only [aI.row,alo,alH]at M;refine az ?_;apply ai;simp [X,E,c9,K];apply au;refine aq (.inl rfl) ?_;simp [B,i3,-ay,M];cases a8:bK s x with
   | false=>
    refine aW (by simp) ?_;refine ax (next _ _ ?_ (by simp [X]) (by simp [hb]));refine⟨by simp [B],by simp [E],c,by simp [g5],?_⟩;rw [b_,anI];simpa [a8]using u
   | true=>
    obtain⟨c3,H3,Z,d9,i6,a7,d_⟩:=oZ u.lc (by refine alL (am4 _ _) ?_;rw [alV];omega) x;refine av (by simp) ?_;refine aq (.inl rfl) ?_;simp [g5,Z];refine ax (next _ _ ?_ (by simp [X]) (by simp [hb]));refine⟨by simp [B],by simp [E],c3,by simp,fun i hi=>?_,a7 _ _ u.bx (u.lc.bz u.bx),?_,fun i hi=>?_,by have:=u.hl;omega⟩
    ·rw [←u.kp i hi];have g_:i<J.length:=by have:=u.hl;omega
     have hy:J[i]?=aa J[i]:=By g_;rw [hy];exact a7 i _ hy fun e=>by have:=u.lo i e;omega
    ·rw [b_,anI];simpa [a8]using d9
    ·have:=u.hl;rcases d_ with e | e
     ·rw [e]at hi;exact u.lo i hi
     ·rw [e]at hi;cases hi;omega
  ·rintro t J ⟨B,E,c,g5,u⟩ - -;rw [alw]at u;apply ai;simp [g5];refine aD (hQ _ _ (.c c) rfl (dz (by simp)) ⟨c,_,rfl,u.lc,u.lo,u.kp,u.hl,q6.sublist List.filter_sublist,alL (am4 _ _) f_,fun d=>?_⟩);rw [List.mem_filter,head_mem h1,f8];constructor
   ·rintro⟨⟨k0,k1,k2⟩,k3⟩;obtain⟨k4,k5⟩:=(a_ d).1 ⟨k2,k3⟩;exact⟨k0,k1,k4,k5⟩
   ·rintro⟨k0,k1,k4,k5⟩;obtain⟨k2,k3⟩:=(a_ d).2 ⟨k4,k5⟩;exact⟨⟨k0,k1,k2⟩,k3⟩
 have l1:aX y ab (.c (.ptr b1 1 0))=aa (vi l.fr):=by simp [aX,aH,c1]
 have l0:=(qQ c0).kJ;apply au;apply ai;simp [g1,W,l0,l1,-ay];by_cases hf:l.fr=st
 ·refine aW (by simp [hf]) ?_;exact Y l b _ _ X hb hf la (by omega) (fun d=>Iff.rfl) (by simp [W]) (by simp [B]) c1 c2 ck
 ·refine av (by simp [hf]) ?_;have l4:aX y (aa 4) (.c (.ptr (b1+1) 0 0))=aa (.a [.f (sl b.hg (ints b.head)),.f (fi b.fr),.f (fi b.aM),.f (sl b.cg (ints b.bf))]):=by simp [aX,aH,c2,aY]
  have l3:aX y (aa 4) (.c (.ptr b1 0 0))=aa (.a [.f (sl l.hg (ints l.head)),.f (fi l.fr),.f (fi l.aM),.f (sl l.cg (ints l.bf))]):=by simp [aX,aH,c1,aY]
  obtain⟨U,A⟩:=aN (y.set b1 (.box [.f (sl b.hg (ints b.head)),.f (fi b.fr),.f (fi b.aM),.f (sl b.cg (ints b.bf))] 0));have s1:dt y (.ptr b1 0 0) [.f (sl b.hg (ints b.head)),.f (fi b.fr),.f (fi b.aM),.f (sl b.cg (ints b.bf))]=aa U:=by rw [A];simp [dt,c1,over]
  have d1:U[b1]?=aa (.box [.f (sl b.hg (ints b.head)),.f (fi b.fr),.f (fi b.aM),.f (sl b.cg (ints b.bf))] 0):=by rw [A];exact BY (by omega)
  have d2:U[b1+1]?=aa (.box [.f (sl b.hg (ints b.head)),.f (fi b.fr),.f (fi b.aM),.f (sl b.cg (ints b.bf))] 0):=by rw [A,sh (by omega)];exact c2
  have dl:U.length=y.length:=by rw [A];simp
  obtain⟨HD,F⟩:=aN (U.set (b1+1) (.box [.f (sl l.hg (ints l.head)),.f (fi l.fr),.f (fi l.aM),.f (sl l.cg (ints l.bf))] 0));have s2:dt U (.ptr (b1+1) 0 0) [.f (sl l.hg (ints l.head)),.f (fi l.fr),.f (fi l.aM),.f (sl l.cg (ints l.bf))]=aa HD:=by rw [F];simp [dt,d2,over]
  refine aq (.inl rfl) ?_;simp [W,B,l3,l4,-ay,s1,s2,-bw];refine Y b l _ _ hb X (by omega) lb (by omega) (fun d=>And.comm) (by simp [W]) (by simp [B]) ?_ ?_ fun i hi=>?_
  ·rw [F,sh (by omega)];exact d1
  ·rw [F];exact BY (by omega)
  ·rw [F,sh (by omega),A,sh (by omega)];exact ck i hi
def xI(m n x y:Nat):Option (V × an)→Bool
 | some (.t [.c (.f (.int .i64 (.ofNat k))),.c (.f (.int .i64 _)),.c (.f (.int .i64 (.ofNat 0)))],_)=>Nat.beq (k % m) x&&(Nat.beq (k % n) y&&Nat.ble (k+1) (Nat.lcm m n))| _=>ag
def ah4(m n:Nat):Bool:=Nat.ble (Nat.lcm m n) 12
noncomputable def gB (m:Nat):Bool:=(List.range 12).all fun b=>!ah4 m (b+1)||(List.range m).all fun x=>(List.range (b+1)).all fun y=>!Nat.beq (x % (amW m (b+1))) (y % (amW m (b+1))) ||
  xI m (b+1) x y (CF tab 60 60 (.fn 218) [vi x,vi m,vi y,vi (b+1:Nat)] [])
theorem abR:gB 1=ae:=by kernel_rfl
theorem abS:gB 2=ae:=by kernel_rfl
theorem abT:gB 3=ae:=by kernel_rfl
theorem abU:gB 4=ae:=by kernel_rfl
theorem abV:gB 5=ae:=by kernel_rfl
theorem abW:gB 6=ae:=by kernel_rfl
theorem abX:gB 7=ae:=by kernel_rfl
theorem abY:gB 8=ae:=by kernel_rfl
theorem abZ:gB 9=ae:=by kernel_rfl
theorem Vy:gB 10=ae:=by kernel_rfl
theorem Vz:gB 11=ae:=by kernel_rfl
theorem VA:gB 12=ae:=by kernel_rfl
theorem JZ(m:Nat)(b:1≤m)(d:m≤12):gB m=ae:=by
 have:m=1∨m=2∨m=3∨m=4∨m=5∨m=6∨m=7∨m=8∨m=9∨m=10∨m=11∨m=12:=by omega
 rcases this with rfl | rfl | rfl | rfl | rfl | rfl | rfl | rfl | rfl | rfl | rfl | rfl
 ·exact abR
 ·exact abS
 ·exact abT
 ·exact abU
 ·exact abV
 ·exact abW
 ·exact abX
 ·exact abY
 ·exact abZ
 ·exact Vy
 ·exact Vz
 ·exact VA
theorem xJ{m n x y:Nat}{o:Option (V × an)}(h:xI m n x y o=ae):∃(k u:Nat) (v:Int) (J:an),o=aa (.t [vi k,vi v,vi 0],J)∧k % m=x∧k % n=y∧k<Nat.lcm m n∧u=0:=by
 unfold xI at h;split at h
 ·rename_i o k w J;simp only [If,Nat.ble_eq]at h;exact⟨k,0,w,J,rfl,Nat.eq_of_beq_eq_true h.1,Nat.eq_of_beq_eq_true h.2.1,by omega,rfl⟩
 ·cases h
structure yE(a b P:Int):Prop where
 pos:0<P
 da:a ∣ P
 db:b ∣ P
 dvd:∀ k,a ∣ k→b ∣ k→P ∣ k
theorem Cr{m n:Nat}(d:1≤m)(g:1≤n):(m:Int) / (amf (m:Int) (n:Int):Int)*n=(Nat.lcm m n:Int):=by
 have b:amf (m:Int) (n:Int)=amW m n:=rfl;rw [b,←Int.natCast_ediv,←Int.natCast_mul,Nat.lcm,anl m n,Nat.mul_div_assoc _ (Nat.gcd_dvd_left m n),anl]
theorem Uw{a b:Int}(a1:1≤a)(b1:1≤b):yE a b (a / (amf a b:Int)*b):=by
 obtain⟨m,rfl⟩:=amO (show 0≤a by omega);obtain⟨n,rfl⟩:=amO (show 0≤b by omega);rw [Cr (by omega) (by omega)];refine⟨?_,Int.ofNat_dvd.2 (Nat.dvd_lcm_left m n),Int.ofNat_dvd.2 (Nat.dvd_lcm_right m n),fun k j l=>?_⟩
 ·have:=Nat.lcm_pos (m:=m) (n:=n) (by omega) (by omega);omega
 ·have d:=anC.2 j;have g:=anC.2 l;rw [Int.natAbs_natCast]at d g;rw [←anC,Int.natAbs_natCast];exact Nat.lcm_dvd d g
theorem yE.uniq{a b P:Int}(h:yE a b P){k k':Int}(h0:0≤k)(h1:k<P)(d:0≤k')(g:k'<P)(l:k % a=k' % a)(hb:k % b=k' % b):k=k':=by
 have:=h.dvd (k-k') (amF (by rw [Int.sub_emod,l,Int.sub_self,Int.zero_emod])) (amF (by rw [Int.sub_emod,hb,Int.sub_self,Int.zero_emod]));have e:(k-k') % P=0:=Int.emod_eq_zero_of_dvd this;have j:k % P=k' % P:=by
  have:=amA k (amL P);rw [←Int.sub_add_cancel k k',Int.add_emod,e,Int.zero_add,amA _ (amL P)]
 rw [amx h0 h1,amx d g]at j;exact j
theorem J6{m n x y:Nat}(A:1≤m)(E:1≤n)(b:Nat.lcm m n≤12)(u:x<m)(z:y<n)(d:x % amW m n=y % amW m n) :
  ∃(k:Nat) (v:Int),k % m=x∧k % n=y∧k<Nat.lcm m n∧bX tab 218 [vi x,vi m,vi y,vi n]=Eq (.t [vi k,vi v,vi 0]):=by
 have j:=Nat.lcm_pos (m:=m) (n:=n) (by omega) (by omega);have B:m≤12:=alL (Nat.le_of_dvd j (Nat.dvd_lcm_left m n)) b;have F:n≤12:=alL (Nat.le_of_dvd j (Nat.dvd_lcm_right m n)) b;obtain⟨g,rfl⟩:∃ g,n=g+1:=⟨n-1,by omega⟩
 have h:=JZ m A B;unfold gB at h;rw [alA]at h;have h:=h g (List.mem_range.2 (by omega));rw [Bool.or_eq_true]at h;rcases h with h | h
 ·exfalso;rw [Bool.not_eq_true']at h;unfold ah4 at h;rw [Nat.ble_eq_true_of_le b]at h;cases h
 rw [alA]at h;have h:=h x (List.mem_range.2 u);rw [alA]at h;have h:=h y (List.mem_range.2 z);rw [Bool.or_eq_true]at h;rcases h with h | h
 ·exfalso;rw [d]at h;simp at h
 obtain⟨k,-,v,J,e,l,q,s,-⟩:=xJ h;refine⟨k,v,l,q,s,bX.eq ⟨_,J,⟨60,60,e⟩,by simp [me,dE,aZ]⟩⟩
theorem VB{a b x y P:Int}(a1:1≤a)(b1:1≤b)(j:P=a / (amf a b:Int)*b)(hd:P≤12)(q:0≤x)(B:x<a)(s:0≤y)(E:y<b)(d:x % (amf a b:Int)=y % (amf a b:Int)) :
  ∃ k v:Int,0≤k∧k<P∧k % a=x∧k % b=y∧bX tab 218 [vi x,vi a,vi y,vi b]=Eq (.t [vi k,vi v,vi 0]):=by
 obtain⟨m,rfl⟩:=amO (show 0≤a by omega);obtain⟨n,rfl⟩:=amO (show 0≤b by omega);obtain⟨x,rfl⟩:=amO q;obtain⟨y,rfl⟩:=amO s;rw [Cr (by omega) (by omega)]at j;have l:amf (m:Int) (n:Int)=amW m n:=rfl;rw [l]at d;obtain⟨k,v,u,z,A,g⟩:=J6 (m:=m) (n:=n) (x:=x) (y:=y) (by omega) (by omega) (by omega) (by omega) (by omega) (by omega);exact⟨k,v,by omega,by omega,by omega,by omega,g⟩
theorem IE{X Y:List Int}{g:Int}{l:List (Int × C)}{d y:C}{m N:Nat}(M O:aI)(st:Int){H:an}(h:PH H N X Y g l d y m)(f:0<g)(I:∀ x ∈ X,0≤x∧x≤1000000)(hX:X.length≤1000)(o:Y.length≤1000) :
  ∃ r H',Ev tab (.fn 177) [.a (cB M O st d y g m)] H r H'∧∃ n:Int,r=vi n∧0≤n∧n≤(X.length:Int)*1000∧(∀ i:Nat,i<H.length→H'[i]?=H[i]?)∧H.length≤H'.length:=by
 refine cH rfl rfl fun Q k=>?_;apply ai;simp [cB];obtain⟨b0,s⟩:=aN (H.length);obtain⟨q,b⟩:=aN (H++[.box (cB M O st d y g m) 0]:an);have e:q[b0]?=aa (.box (cB M O st d y g m) 0):=by rw [b,s];simp
 have U:∀ i:Nat,i<H.length→q[i]?=H[i]?:=fun i hi=>by rw [b,AT (by omega)]
 have al:q.length=H.length+1:=by rw [b];simp
 unfold cB at b;rw [←b,←s];have h:=h.bu U;have L:=qQ e;have lx:bh q d=aa X.length:=by have:=h.lx.len;simpa [ints]using this
 apply ai;simp;apply au;apply ai;simp [L.lx,-ay,lx];refine bZ X.length (fun j t J=>J=q∧t.g 1=.c (.ptr b0 0 0)∧t.g 7=.c d∧∃ n:Int,t.g 3=vi n∧0≤n∧n≤(j:Int)*1000) (by omega) (by decide) (by decide) (by simp) (by simp)
  ⟨rfl,by simp,by simp,0,by simp,by omega,by omega⟩ ?_ ?_
 ·rintro j t J Z ⟨rfl,z,B,n,A,a,c⟩ W p next
  obtain⟨xb,a7,a8,S,v,-⟩:=sU h.lx Z;have K:=I _ (IT Z);obtain⟨x,I⟩:=aN (X[j]);rw [←I]at K v;have u:bP .rem (vi x) (vi g)=aa (vi (x % g)):=eR (by omega) f;have E:=h.ok.look h.mp (x % g);have F:bh J (nK l (x % g))=aa (kB g Y (x % g)).length:=by have:=(h.ok.lr (x % g)).len;simpa [ints]using this
  have w:(kB g Y (x % g)).length≤1000:=alL (am4 _ _) o;refine az ?_;apply ai;simp [W,B,S,v,-ay];refine aq (.inl rfl) ?_;simp [z,A,L.lm,L.lg,u,-ay,mX,E,F,aO (n:=n+((kB g Y (x % g)).length:Int))];refine ax (next _ _ ?_ (by simp [W]) (by simp [p]));exact⟨rfl,by simp [z],by simp [B],n+((kB g Y (x % g)).length:Int),by simp,by omega,by omega⟩
 ·rintro t J ⟨rfl,z,B,n,A,a,c⟩ - -;apply ai;simp [A];exact aD (k _ _ (vi n) rfl (dz (by simp)) ⟨n,rfl,a,c,U,by show H.length≤J.length;omega⟩)
end Go.Proofs.YthkmdpgdicohdaaGreat
