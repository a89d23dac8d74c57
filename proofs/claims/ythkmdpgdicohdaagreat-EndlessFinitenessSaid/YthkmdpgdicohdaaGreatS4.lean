/-
  abI the na jS and the mB answer, for all arguments of their kind, in the small machine: part 4.
-/
import Derived.Test.YthkmdpgdicohdaaGreatS3
import Derived.Test.YthkmdpgdicohdaaGreatS1
import Derived.Test.YthkmdpgdicohdaaGreatK3
import Derived.Test.YthkmdpgdicohdaaGreatS2
import Derived.Test.YthkmdpgdicohdaaGreatProg
import Derived.Test.YthkmdpgdicohdaaGreatEv
open Option renaming some → aa,none → ab
open Bool renaming true → ae,false → ag
open Nat renaming le_refl → ai8
open Int renaming toNat_natCast → ajA, toNat_of_nonneg → alb
open List renaming getElem_mem → IT, map_cons → ajd, map_nil → ajt, getElem?_append_left → AT, length_append → ai7, mem_append → aja, mem_singleton → ai9, getElem?_append_right → aje, getElem?_set_ne → sh, getElem?_set_self → If, length_set → ajp, mem_cons → ajB, take_add_one → aju, getElem?_eq_getElem → By, take_length → ajr
set_option linter.unusedVariables false
set_option linter.constructorNameAsVariable false
set_option linter.unusedSimpArgs false
set_option linter.unusedSectionVars false
set_option linter.unnecessarySimpa false
set_option maxRecDepth 100000
namespace Go.Proofs.YthkmdpgdicohdaaGreat
open Go Km
def ku(s:aQ)(x y:aN):Prop:=(∃ c ∈ s.cs,∃ d,0≤d∧dQ c.ts d∧y=dw s.len c.min d)∧x.fr<y.to∧y.fr<x.to
theorem Sd{ts:List cz}(j:ij ts=ae){d:Int}(g:0≤d):yT ts d=ae↔dQ ts d:=by
 unfold yT dQ;rw [j,Bool.true_and,List.any_eq_true];constructor
 ·rintro⟨t,b,h⟩;exact⟨t,b,(iu g).1 h⟩
 ·rintro⟨t,b,h⟩;exact⟨t,b,(iu g).2 h⟩
theorem rR(s:aQ)(x:aN):bR tab 38 [.a (s.row.map .f),.a (x.row.map .f)]=Eq (.c (.f (.fn 71 [.fp s.row 0,.fp x.row 0]))):=by
 refine bR.eq (bY rfl rfl fun Q b=>?_);apply ai;simp [aQ.row,aN.row];apply ai;simp;refine aF (b _ _ ?_);simp [deep,aQ.row,aN.row]
theorem AW{bb:Nat}{H:an}(s:aQ)(hs:iL s)(x:aN)(x0:-1000000000000≤x.fr)(x1:x.to≤1000000000000)(x2:x.fr<x.to)(PP:List aN→an→Prop)(RR:aN→an→Prop)(h0:PP [] H)
  (hk:∀ ps J J',PP ps J→(∀ i:Nat,i<H.length→J'[i]?=J[i]?)→J.length≤J'.length→PP ps J')
  (hy:∀ ps y J,PP ps J→H.length≤J.length→ku s x y→∃(r:Bool) (J':an),Ev tab (.yield bb) [.a (y.row.map .f)] J (vb r) J'∧(if r then PP (ps++[y]) J'∧J.length≤J'.length∧∀ i:Nat,H.length≤i→i<J.length→J'[i]?=J[i]? else RR y J')) :
  ∃ O,Ev tab (.fn 71) [.c (.yl bb),.c (.f (.fp s.row 0)),.c (.f (.fp x.row 0))] H (.t []) O∧((∃ ys,PP ys O∧∀ y,y ∈ ys↔ku s x y)∨∃ y,ku s x y∧RR y O):=by
 obtain⟨l_,m9⟩:=hs.ok.len;have j9:=hs.cn;have h_:∀ H:an,bg H (.f (sl s.cg (aX s.cs)))=aa s.cs.length:=fun H=>by simp
 have c_:∀(J:an),aU J ab (.c (.f (.fp s.row 0)))=aa (.c (.f (sl s.cg (aX s.cs))))∧aU J ab (.c (.f (.fp s.row 1)))=aa (vi s.len)∧aU J (aa 3) (.c (.f (.fp s.row 0)))=aa (.a [.f (sl s.cg (aX s.cs)),.f (fi s.len),.f (sl s.xg (aT s.xs))]):=fun J=>⟨rfl,rfl,rfl⟩
 have g_:∀(J:an),aU J ab (.c (.f (.fp x.row 1)))=aa (vi x.fr)∧aU J ab (.c (.f (.fp x.row 2)))=aa (vi x.to):=fun J=>⟨rfl,rfl⟩
 obtain⟨r,O,he,rfl,L⟩:∃ r O,Ev tab (.fn 71) [.c (.yl bb),.c (.f (.fp s.row 0)),.c (.f (.fp x.row 0))] H r O∧(r=.t []∧((∃ ys,PP ys O∧∀ y,y ∈ ys↔ku s x y)∨∃ y,ku s x y∧RR y O)):=by
  refine cM rfl rfl fun Q hQ=>?_;apply ai;simp [c_,h_];refine bU s.cs.length (fun i t J=>t.g 0=.c (.yl bb)∧t.g 1=.c (.f (.fp s.row 0))∧t.g 2=.c (.f (.fp x.row 0))∧t.g 8=.c (.f (sl s.cg (aX s.cs)))∧H.length≤J.length∧∃ ys,PP ys J∧∀ y,y ∈ ys↔(∃(b:Nat) (h:b<s.cs.length),b<i∧∃ d,0≤d∧dQ s.cs[b].ts d∧y=dw s.len s.cs[b].min d)∧x.fr<y.to∧y.fr<x.to) (by omega) (by decide) (by decide) (by simp) (by simp)
   ⟨by simp,by simp,by simp,by simp,ai8 _,[],h0,fun y=>⟨fun h=>by simp at h,fun⟨⟨b,_,h,_⟩,_⟩=>by omega⟩⟩ ?_ ?_
  ·rintro i t J hi ⟨S,I,K,U,i4,ys,L,m⟩ hc hb next
   have f_:=fun H:an=>bH (H:=H) (g:=s.cg) (rows:=aX s.cs) (sz:=2) (k:=.i64) (i:=(i:Int)) (by omega) (by simp;omega);have c9:=fun H:an=>dr (H:=H) (dL s.cs) (fX hi);simp only [ajA]at f_;have i7:=hs.ok.min (IT hi);have a_:=hs.few _ (IT hi);have B:=IT hi;obtain⟨c,W⟩:=aL (s.cs[i]);rw [←W]at c9 i7 a_ B;simp only [cm.row,ajd,ajt]at c9;obtain⟨q,a8⟩:=aL (J.length);obtain⟨J1,A⟩:=aL (J++[bZ.box [.f (sl c.mg (aD c.ts)),.f (fi c.min)] 0]);have Z:J1[q]?=aa (.box [.f (sl c.mg (aD c.ts)),.f (fi c.min)] 0):=by rw [A,a8];simp
   have d9:PP ys J1:=hk ys J J1 L (fun i hi=>by rw [A,AT (by omega)]) (by rw [A,ai7];omega);have k_:J1.length=q+1:=by rw [A,ai7,a8];rfl
   have m5:∀ J:an,J[q]?=aa (.box [.f (sl c.mg (aD c.ts)),.f (fi c.min)] 0)→aU J ab (.c (.ptr q 1 0))=aa (vi c.min)∧aU J (aa 2) (.c (.ptr q 0 0))=aa (.a [.f (sl c.mg (aD c.ts)),.f (fi c.min)])∧aU J (aa 1) (.c (.ptr q 0 0))=aa (.a [.f (sl c.mg (aD c.ts))]):=fun J h=>by refine⟨?_,?_,?_⟩<;>simp [aU,aC,h,aW]
   obtain⟨v5,-,-⟩:=m5 J1 Z;have f1:=oD (x.fr-s.len-c.min) (by omega) (by omega);obtain⟨n0,j3⟩:=aL (max 0 ((x.fr-s.len-c.min) / 1440+1));have j8:max 0 ((x.fr-s.len-c.min) / 1440+1)=n0:=j3.symm;refine az ?_;apply ai;simp [hc,U,f_,c9,-ay];rw [←A,←a8];apply ai;simp [I,K,v5,c_,g_,-ay,aM (n:=x.fr-s.len),aM (n:=x.fr-s.len-c.min),f1,aM (n:=(x.fr-s.len-c.min) / 1440+1),j8];refine az ?_;refine bJ (fun n st=>∃(d:Int) (M:T) (J:an),st=⟨M,[],J⟩∧n=(x.to-(d*1440+c.min)).toNat∧n0≤d∧d≤1000000000∧M.g 0=.c (.yl bb)∧M.g 1=.c (.f (.fp s.row 0))∧M.g 2=.c (.f (.fp x.row 0))∧M.g 8=.c (.f (sl s.cg (aX s.cs)))∧M.g 9=t.g 9∧M.g 10=t.g 10∧M.g 5=.c (.ptr q 0 0)∧M.g 6=vi d∧q<J.length∧J[q]?=aa (.box [.f (sl c.mg (aD c.ts)),.f (fi c.min)] 0)∧∃ ys,PP ys J∧∀ y,y ∈ ys↔((∃(b:Nat) (h:b<s.cs.length),b<i∧∃ d,0≤d∧dQ s.cs[b].ts d∧y=dw s.len s.cs[b].min d)∧x.fr<y.to∧y.fr<x.to)∨∃ d',n0≤d'∧d'<d∧d'*1440+c.min<x.to∧dQ c.ts d'∧y=dw s.len c.min d') (x.to-(n0*1440+c.min)).toNat
    ⟨n0,_,J1,rfl,rfl,Int.le_refl _,by omega,by simp [S],by simp [I],by simp [K],by simp [U],by simp,by simp,by simp,by simp,by omega,Z,ys,d9,fun y=>by rw [m];exact⟨.inl,fun h=>h.elim id fun⟨d',u,v,_⟩=>by omega⟩⟩ ?_
   clear L m d9 Z v5;rintro n st ⟨d,M,J2,rfl,rfl,d0,d1,S,I,K,U,g9,eo,g5,g6,e_,Z,ys,L,m⟩ ih;obtain⟨v5,w5,z5⟩:=m5 J2 Z;apply aq;apply ai;simp [K,g5,g6,v5,g_,-ay,aM (n:=d*1440),aM (n:=d*1440+c.min)];by_cases b_:d*1440+c.min<x.to
   ·refine aw (by simp [b_]) (aP ?_);have E:=YF c.mg c.ts a_.mix d (by unfold Day;omega);have F:=Sd a_.mix (show 0≤d by omega);obtain⟨i6,i9⟩:=aL (yT c.ts d);rw [←i9]at E F;have f8:=rM (sl s.cg (aX s.cs)) (sl s.xg (aT s.xs)) (sl c.mg (aD c.ts)) s.len c.min d (by unfold pH;omega) (by unfold pH;omega) (by unfold pH;omega);have Y:∀(N:T) (z:an) (zs:List aN),N.g 0=.c (.yl bb)→N.g 1=.c (.f (.fp s.row 0))→N.g 2=.c (.f (.fp x.row 0))→N.g 8=.c (.f (sl s.cg (aX s.cs)))→N.g 9=t.g 9→N.g 10=t.g 10→N.g 5=.c (.ptr q 0 0)→N.g 6=vi d→q<z.length→z[q]?=aa (.box [.f (sl c.mg (aD c.ts)),.f (fi c.min)] 0)→PP zs z→(∀ y,y ∈ zs↔y ∈ ys∨(dQ c.ts d∧y=dw s.len c.min d)) →
      WP tab 71 ab [.code xq,.inLoop xp,.inBlock 2,.inBlock 1,.code (qN 10 50),.inLoop (ik 0 10 9 11 50 A'),.inBlock 0] ⟨N,[],z⟩ Q:=by
     intro N z zs S I K U g9 eo g5 g6 d_ c3 a7 j7;refine au (.inl rfl) ?_;simp [g6,aM (n:=d+1)];refine ih (x.to-((d+1)*1440+c.min)).toNat _ (by omega) ⟨d+1,_,z,rfl,rfl,by omega,by omega,by simp [S],by simp [I],by simp [K],by simp [U],by simp [g9],by simp [eo],by simp [g5],by simp,d_,c3,zs,a7,fun y=>?_⟩;rw [j7,m];constructor
     ·rintro((h | ⟨d',u,v,j,l⟩) | ⟨u,v⟩)
      ·exact .inl h
      ·exact .inr ⟨d',u,by omega,j,l⟩
      ·exact .inr ⟨d,d0,by omega,b_,u,v⟩
     ·rintro(h | ⟨d',u,v,j,l,h5⟩)
      ·exact .inl (.inl h)
      ·by_cases e:d'=d
       ·subst e;exact .inr ⟨l,h5⟩
       ·exact .inl (.inr ⟨d',u,by omega,j,l,h5⟩)
    apply aq;refine az ?_;cases i6 with
    | false=>
     have j4:¬ dQ c.ts d:=fun h=>by have:=F.2 h;cases this
     apply ai;simp [g5,g6,z5,-ay,E];refine aG (by simp) (aP (ax ?_));exact Y _ J2 ys (by simp [S]) (by simp [I]) (by simp [K]) (by simp [U]) (by simp [g9]) (by simp [eo]) (by simp [g5]) (by simp [g6]) e_ Z L fun y=>⟨.inl,fun h=>h.elim id fun h=>absurd h.1 j4⟩
    | true=>
     have X:=F.1 rfl;have f7:ku s x (dw s.len c.min d):=⟨⟨c,B,d,by omega,X,rfl⟩,by show x.fr<d*1440+c.min+s.len;omega,by show d*1440+c.min<x.to;omega⟩
     obtain⟨r,z,i8,hr⟩:=hy ys (dw s.len c.min d) J2 L (by omega) f7;apply ai;simp [S,I,g5,g6,z5,w5,c_,-ay,E,f8,i8.eq];cases r with
     | false=>exact aw (by simp) (aF (hQ _ _ (.t []) rfl rfl ⟨rfl,.inr ⟨_,f7,by simpa using hr⟩⟩))
     | true=>
     obtain⟨a7,d_,i_⟩:PP (ys++[dw s.len c.min d]) z∧J2.length≤z.length∧∀ i:Nat,H.length≤i→i<J2.length→z[i]?=J2[i]?:=by simpa using hr
     refine aG (by simp) (aP (ax ?_));exact Y _ z (ys++[dw s.len c.min d]) (by simp [S]) (by simp [I]) (by simp [K]) (by simp [U]) (by simp [g9]) (by simp [eo]) (by simp [g5]) (by simp [g6]) (by omega) (by rw [i_ q (by omega) e_];exact Z) a7 fun y=>by
      rw [aja,ai9];exact⟨fun h=>h.imp id fun h=>⟨X,h⟩,fun h=>h.imp id fun h=>h.2⟩
   ·refine aG (by simp [b_]) ?_;refine bw rfl ?_;refine ax (next _ _ ⟨by simp [S],by simp [I],by simp [K],by simp [U],by omega,ys,L,fun y=>?_⟩ (by simp [eo,hc]) (by simp [g9,hb]));rw [m];constructor
    ·rintro(⟨⟨b,h,u,v⟩,j⟩ | ⟨d',u,v,j,l,rfl⟩)
     ·exact⟨⟨b,h,by omega,v⟩,j⟩
     ·refine⟨⟨i,hi,by omega,d',by omega,by rw [←W];exact l,by rw [←W]⟩,?_,j⟩;show x.fr<d'*1440+c.min+s.len;omega
    ·rintro⟨⟨b,h,u,d',v,j,l⟩,h5,h6⟩;by_cases e:b=i
     ·subst e;rw [←W]at j l;rw [l]at h5 h6;have j_:x.fr<d'*1440+c.min+s.len:=h5;have i3:d'*1440+c.min<x.to:=h6;exact .inr ⟨d',by omega,by omega,i3,j,l⟩
     ·exact .inl ⟨⟨b,h,by omega,d',v,j,l⟩,h5,h6⟩
  ·rintro t J ⟨S,I,K,U,i4,ys,L,m⟩ - -;refine dh (hQ _ _ _ rfl rfl ⟨rfl,.inl ⟨ys,L,fun y=>?_⟩⟩);rw [m];unfold ku;constructor
   ·rintro⟨⟨b,h,-,d,u,v,j⟩,l⟩;exact⟨⟨_,IT h,d,u,v,j⟩,l⟩
   ·rintro⟨⟨c,hc,d,u,v,j⟩,l⟩;obtain⟨b,h,rfl⟩:=List.getElem_of_mem hc;exact⟨⟨b,h,h,d,u,v,j⟩,l⟩
 exact⟨O,he,L⟩
theorem vn{bb:Nat}{H:an}(s:aQ)(z:iL s)(x:aN)(B:-1000000000000≤x.fr)(E:x.to≤1000000000000)(F:x.fr<x.to)(PP:List aN→an→Prop)(d:PP [] H)
  (v:∀ ps J J',PP ps J→(∀ i:Nat,i<H.length→J'[i]?=J[i]?)→J.length≤J'.length→PP ps J')
  (A:∀ ps y J,PP ps J→H.length≤J.length→ku s x y→∃ J',Ev tab (.yield bb) [.a (y.row.map .f)] J (vb ae) J'∧PP (ps++[y]) J'∧J.length≤J'.length∧∀ i:Nat,H.length≤i→i<J.length→J'[i]?=J[i]?) :
  ∃ b,Ev tab (.fn 71) [.c (.yl bb),.c (.f (.fp s.row 0)),.c (.f (.fp x.row 0))] H (.t []) b∧∃ ys,PP ys b∧∀ y,y ∈ ys↔ku s x y:=by
 obtain⟨b,u,h | ⟨_,_,h⟩⟩:=AW s z x B E F PP (fun _ _=>False) d v fun ps y J g j l=>by
  obtain⟨J',m,q⟩:=A ps y J g j l;exact⟨ae,J',m,by simpa using q⟩
 ·exact⟨b,u,h⟩
 ·exact h.elim
section
structure TK(fr kv:Int)(found:Bool)(X Y:aN)(H:an):Prop where
 h2:H[2]?=aa (.box [.f (fi fr)] 0)
 h5:H[5]?=aa (.box [.f (fi X.day),.f (fi X.fr),.f (fi X.to)] 0)
 h6:H[6]?=aa (.box [.f (fi Y.day),.f (fi Y.fr),.f (fi Y.to)] 0)
 h7:H[7]?=aa (.box [.f (fi kv)] 0)
 h8:H[8]?=aa (.box [.f (.bool found)] 0)
theorem TK.bf{fr kv:Int}{found:Bool}{X Y:aN}{H H':an}(h:TK fr kv found X Y H)(b:∀ i:Nat,i<9→H'[i]?=H[i]?):TK fr kv found X Y H':=
 ⟨by rw [b 2 (by omega)];exact h.h2,by rw [b 5 (by omega)];exact h.h5,by rw [b 6 (by omega)];exact h.h6,by rw [b 7 (by omega)];exact h.h7,by rw [b 8 (by omega)];exact h.h8⟩
def lV(fr:Int)(x y:aN):Int:=max (max x.fr y.fr) fr
def okB(fr:Int)(x y:aN):Prop:=x.to≤2251799813685248∧y.to≤2251799813685248∧lV fr x y<min x.to y.to
def ltB(fr b:Int)(x y X Y:aN):Prop:=AE [fR (lV fr x y) b,fJ x X,fJ y Y]<0
open Classical in
noncomputable def gJ (fr b:Int) (found:Bool) (x y X Y:aN):Bool:=decide (okB fr x y∧(found=ag∨ltB fr b x y X Y))
theorem Tp(fr b:Int)(found:Bool)(X Y x y:aN)(H:an)(h:TK fr b found X Y H) :
  ∃ H',Ev tab (.fn 31) [.a (x.row.map .f),.a (y.row.map .f),.c (.ptr 2 0 0),.c (.ptr 8 0 0),.c (.ptr 7 0 0),.c (.ptr 5 0 0),.c (.ptr 6 0 0)] H (.t []) H' ∧
   TK fr (if gJ fr b found x y X Y then lV fr x y else b) (found||gJ fr b found x y X Y) (if gJ fr b found x y X Y then x else X) (if gJ fr b found x y X Y then y else Y) H'∧H.length≤H'.length∧∀ i:Nat,i<H.length→i<5∨8<i→H'[i]?=H[i]?:=by
 have l8:=aj h.h8;have c_:max (max x.fr y.fr) fr=lV fr x y:=rfl;obtain⟨r,H',he,rfl,hP⟩:∃ r H',Ev tab (.fn 31) [.a (x.row.map .f),.a (y.row.map .f),.c (.ptr 2 0 0),.c (.ptr 8 0 0),.c (.ptr 7 0 0),.c (.ptr 5 0 0),.c (.ptr 6 0 0)] H r H'∧(r=.t [] ∧
   TK fr (if gJ fr b found x y X Y then lV fr x y else b) (found||gJ fr b found x y X Y) (if gJ fr b found x y X Y then x else X) (if gJ fr b found x y X Y then y else Y) H'∧H.length≤H'.length∧∀ i:Nat,i<H.length→i<5∨8<i→H'[i]?=H[i]?):=by
  have o1:=sM x X;have o2:=sM y Y;simp only [aN.row,ajd,ajt]at o1 o2;have ho:=aaj .fs [fR (lV fr x y) b,fJ x X,fJ y Y] (by simp);simp [ints,sl,Tg.fc]at ho;have U:=rI (lV fr x y) b;refine cM rfl rfl fun Q hQ=>?_;apply ai;simp [aN.row];obtain⟨d,m⟩:=aL (H++[bZ.box [.f (fi x.day),.f (fi x.fr),.f (fi x.to)] 0,.box [.f (fi y.day),.f (fi y.fr),.f (fi y.to)] 0]);obtain⟨l,L⟩:=aL (H.length);have hT:TK fr b found X Y d:=h.bf fun i hi=>by rw [m,AT (by omega)]
  have c7:d[l]?=aa (.box [.f (fi x.day),.f (fi x.fr),.f (fi x.to)] 0):=by rw [m,L];simp
  have c8:d[l+1]?=aa (.box [.f (fi y.day),.f (fi y.fr),.f (fi y.to)] 0):=by rw [m,L,aje (by omega)];simp
  have kA:∀ i:Nat,i<H.length→d[i]?=H[i]?:=fun i hi=>by rw [m,AT hi]
  have lA:d.length=l+2:=by rw [m,ai7,L];rfl
  rw [←m,←L];have m7:∀ J:an,J[l]?=aa (.box [.f (fi x.day),.f (fi x.fr),.f (fi x.to)] 0)→aU J ab (.c (.ptr l 1 0))=aa (vi x.fr)∧aU J ab (.c (.ptr l 2 0))=aa (vi x.to)∧aU J (aa 3) (.c (.ptr l 0 0))=aa (.a [.f (fi x.day),.f (fi x.fr),.f (fi x.to)]):=fun J h=>by refine⟨?_,?_,?_⟩<;>simp [aU,aC,h,aW]
  have m8:∀ J:an,J[l+1]?=aa (.box [.f (fi y.day),.f (fi y.fr),.f (fi y.to)] 0)→aU J ab (.c (.ptr (l+1) 1 0))=aa (vi y.fr)∧aU J ab (.c (.ptr (l+1) 2 0))=aa (vi y.to)∧aU J (aa 3) (.c (.ptr (l+1) 0 0))=aa (.a [.f (fi y.day),.f (fi y.fr),.f (fi y.to)]):=fun J h=>by refine⟨?_,?_,?_⟩<;>simp [aU,aC,h,aW]
  obtain⟨x1,x2,x3⟩:=m7 d c7;obtain⟨y1,y2,y3⟩:=m8 d c8;have g_:aU d ab (.c (.ptr 2 0 0))=aa (vi fr):=by simp [aU,aC,hT.h2]
  have f_:aU d ab (.c (.ptr 7 0 0))=aa (vi b):=by simp [aU,aC,hT.h7]
  have h_:aU d (aa 3) (.c (.ptr 5 0 0))=aa (.a [.f (fi X.day),.f (fi X.fr),.f (fi X.to)]):=by simp [aU,aC,hT.h5,aW]
  have i3:aU d (aa 3) (.c (.ptr 6 0 0))=aa (.a [.f (fi Y.day),.f (fi Y.fr),.f (fi Y.to)]):=by simp [aU,aC,hT.h6,aW]
  have d9:aU d ab (.c (.ptr 8 0 0))=aa (vb found):=by simp [aU,aC,hT.h8]
  obtain⟨g,K⟩:=aL (lV fr x y);rw [←K]at c_ ho U;have no:∀(t:T) (J:an),gJ fr b found x y X Y=ag→(∀ i:Nat,i<d.length→J[i]?=d[i]?)→d.length≤J.length→(∀ j:Option av,Q j ⟨t,[],J⟩):=by
   intro t J hu hJ hl j;refine hQ _ _ _ rfl rfl ⟨rfl,?_,by show H.length≤J.length;omega,fun i hi _=>by show J[i]?=_;rw [hJ i (by omega),kA i hi]⟩;rw [hu];simpa using hT.bf fun i hi=>hJ i (by omega)
  apply ai;simp [x1,y1,g_,-ay,uU,c_]
  suffices a8:∀ t:T,t.g 3=.c (.ptr 8 0 0)→t.g 4=.c (.ptr 7 0 0)→t.g 5=.c (.ptr 5 0 0)→t.g 6=.c (.ptr 6 0 0)→t.g 7=.c (.ptr l 0 0)→t.g 8=.c (.ptr (l+1) 0 0)→t.g 9=vi g→WP tab 31 ab [.code Qi] ⟨t,[],d⟩ Q by exact a8 _ (by simp) (by simp) (by simp) (by simp) (by simp) (by simp) (by simp)
  intro t g3 O g5 g6 s u z;have M:okB fr x y↔(x.to≤2251799813685248∧y.to≤2251799813685248∧g<min x.to y.to):=by rw [K];rfl
  have v:¬ okB fr x y→gJ fr b found x y X Y=ag:=fun h=>by unfold gJ;simp [h]
  apply aq;apply ai;by_cases c1:2251799813685248<x.to
  ·simp [s,x2,c1,-ay];refine aw (by simp) ?_;exact aF (no _ d (v fun h=>by have:=(M.1 h).1;omega) (fun _ _=>rfl) (ai8 _) _)
  by_cases c2:2251799813685248<y.to
  ·simp [s,u,x2,y2,c1,c2,-ay];refine aw (by simp) ?_;exact aF (no _ d (v fun h=>by have:=(M.1 h).2.1;omega) (fun _ _=>rfl) (ai8 _) _)
  by_cases c3:min x.to y.to≤g
  ·simp [s,u,z,x2,y2,c1,c2,c3,-ay];refine aw (by simp) ?_;exact aF (no _ d (v fun h=>by have:=(M.1 h).2.2;omega) (fun _ _=>rfl) (ai8 _) _)
  have W:okB fr x y:=M.2 ⟨by omega,by omega,by omega⟩;simp [s,u,z,x2,y2,c1,c2,c3,-ay];refine a6 (by simp) ?_;have d_:∀(t:T) (J:an),gJ fr b found x y X Y=ae→t.g 3=.c (.ptr 8 0 0)→t.g 4=.c (.ptr 7 0 0)→t.g 5=.c (.ptr 5 0 0)→t.g 6=.c (.ptr 6 0 0)→t.g 7=.c (.ptr l 0 0)→t.g 8=.c (.ptr (l+1) 0 0)→t.g 9=vi g→(∀ i:Nat,i<d.length→J[i]?=d[i]?)→d.length≤J.length→WP tab 31 ab [.code Bl] ⟨t,[],J⟩ Q:=by
   intro t J hu g3 O g5 g6 s u z hJ hl;have q:=hT.bf (H':=J) fun i hi=>hJ i (by omega);have d7:J[l]?=aa (.box [.f (fi x.day),.f (fi x.fr),.f (fi x.to)] 0):=by rw [hJ l (by omega)];exact c7
   have d8:J[l+1]?=aa (.box [.f (fi y.day),.f (fi y.fr),.f (fi y.to)] 0):=by rw [hJ (l+1) (by omega)];exact c8
   obtain⟨-,-,x3⟩:=m7 J d7;obtain⟨-,-,y3⟩:=m8 J d8;obtain⟨N,B⟩:=aL (J.set 7 (.box [.f (fi g)] 0));have s1:di J (.ptr 7 0 0) [.f (fi g)]=aa N:=by rw [B];simp [di,q.h7,over]
   have Z:∀ i:Nat,i≠7→N[i]?=J[i]?:=fun i hi=>by rw [B,sh (Ne.symm hi)]
   have n1:N.length=J.length:=by rw [B];simp
   obtain⟨J2,E⟩:=aL (N.set 5 (.box [.f (fi x.day),.f (fi x.fr),.f (fi x.to)] 0));have s2:di N (.ptr 5 0 0) [.f (fi x.day),.f (fi x.fr),.f (fi x.to)]=aa J2:=by rw [E];simp [di,Z 5 (by omega),q.h5,over]
   have k2:∀ i:Nat,i≠5→J2[i]?=N[i]?:=fun i hi=>by rw [E,sh (Ne.symm hi)]
   have n2:J2.length=J.length:=by rw [E];simp [n1]
   obtain⟨J3,F⟩:=aL (J2.set 6 (.box [.f (fi y.day),.f (fi y.fr),.f (fi y.to)] 0));have s3:di J2 (.ptr 6 0 0) [.f (fi y.day),.f (fi y.fr),.f (fi y.to)]=aa J3:=by rw [F];simp [di,k2 6 (by omega),Z 6 (by omega),q.h6,over]
   have k3:∀ i:Nat,i≠6→J3[i]?=J2[i]?:=fun i hi=>by rw [F,sh (Ne.symm hi)]
   have n3:J3.length=J.length:=by rw [F];simp [n2]
   obtain⟨J4,I⟩:=aL (J3.set 8 (.box [.f (.bool ae)] 0));have s4:di J3 (.ptr 8 0 0) [.f (.bool ae)]=aa J4:=by rw [I];simp [di,k3 8 (by omega),k2 8 (by omega),Z 8 (by omega),q.h8,over]
   have k4:∀ i:Nat,i≠8→J4[i]?=J3[i]?:=fun i hi=>by rw [I,sh (Ne.symm hi)]
   have i9:=aj q.h7;have i_:8<l:=by omega
   obtain⟨-,-,i4⟩:=m7 N (by rw [Z l (by omega)];exact d7);obtain⟨-,-,i6⟩:=m8 N (by rw [Z (l+1) (by omega)];exact d8);obtain⟨-,-,i7⟩:=m8 J2 (by rw [k2 (l+1) (by omega),Z (l+1) (by omega)];exact d8);refine eB (.inl rfl) ?_ ?_
   case refine_2=>
    intro cc f7;have e_:cc=(1,4)∨cc=(2,4)∨cc=(2,5):=by simpa using f7
    rcases e_ with rfl | rfl | rfl
    ·refine⟨by decide,_,rfl,.inl ⟨by decide,?_⟩⟩;simp [O,s,u,z,x3,y3,i4,s1,-ay,-bu,fx,V.beq,C.beq,FC.beq]
    ·refine⟨by decide,_,rfl,.inl ⟨by decide,?_⟩⟩;simp [O,s,u,z,x3,y3,i6,s1,-ay,-bu,fx,V.beq,C.beq,FC.beq]
    ·refine⟨by decide,_,rfl,.inl ⟨by decide,?_⟩⟩;simp [O,g5,s,u,z,x3,y3,i7,s1,s2,-ay,-bu,fx,V.beq,C.beq,FC.beq]
   simp [g3,O,g5,g6,s,u,z,x3,y3,s1,s2,s3,s4,-ay,-bu];refine dh (hQ _ _ _ rfl rfl ⟨rfl,?_,by show H.length≤J4.length;rw [I];simp;omega,fun i hi i8=>?_⟩)
   ·rw [hu];simp only [if_true,Bool.or_true];rw [←K];refine⟨?_,?_,?_,?_,?_⟩
    ·rw [k4 2 (by omega),k3 2 (by omega),k2 2 (by omega),Z 2 (by omega)];exact q.h2
    ·rw [k4 5 (by omega),k3 5 (by omega),E];exact If (by omega)
    ·rw [k4 6 (by omega),F];exact If (by omega)
    ·rw [k4 7 (by omega),k3 7 (by omega),k2 7 (by omega),B];exact If (by omega)
    ·rw [I];exact If (by omega)
   ·show J4[i]?=_;rw [k4 i (by omega),k3 i (by omega),k2 i (by omega),Z i (by omega),hJ i (by omega),kA i hi]
  apply aq;cases found with
  | false=>
   refine au (.inl rfl) ?_;simp [g3,d9,-ay];refine aw (by simp) ?_;exact d_ _ d (by unfold gJ;simp [W]) (by simp [g3]) (by simp [O]) (by simp [g5]) (by simp [g6]) (by simp [s]) (by simp [u]) (by simp [z]) (fun _ _=>rfl) (ai8 _)
  | true=>
   obtain⟨HB,A⟩:=aL (d++[bZ.box [.f (fi (fR g b)),.f (fi (fJ x X)),.f (fi (fJ y Y))] 0]);have b_:HB[d.length]?=aa (.box [.f (fi (fR g b)),.f (fi (fJ x X)),.f (fi (fJ y Y))] 0):=by rw [A];simp
   have c9:et 64 HB (.sl d.length 0 3 3 0 1)=aa (.fs [fi (fR g b),fi (fJ x X),fi (fJ y Y)] 3):=by
    rw [show(64:Nat)=63+1 from rfl];simp only [jQ,b_];rfl
   obtain⟨HC,a_⟩:=aL (eK 64 (.sl d.length 0 3 3 0 1) HB);have S:HC=HB.set d.length (.box [.f (fi (fR g b)),.f (fi (fJ x X)),.f (fi (fJ y Y))] 3):=by
    rw [a_,show(64:Nat)=63+1 from rfl];simp only [oT,b_];rfl
   have kC:∀ i:Nat,i<d.length→HC[i]?=d[i]?:=fun i hi=>by rw [S,sh (by omega),A,AT hi]
   have lC:d.length≤HC.length:=by rw [S,ajp,A,ai7];omega
   have a7:AE [fR g b,fJ x X,fJ y Y]<0↔ltB fr b x y X Y:=by unfold ltB;rw [←K]
   obtain⟨oo,f8⟩:=aL (AE [fR g b,fJ x X,fJ y Y]);rw [←f8]at ho a7;refine au (.inl rfl) ?_;simp [g3,O,g5,g6,s,u,z,d9,f_,h_,i3,x3,y3,-ay,U,o1,o2,←A,c9,deep,ho,←a_];by_cases k:oo<0
   ·refine aw (by simp [k]) ?_;exact d_ _ HC (by unfold gJ;simp [W,a7.1 k]) (by simp [g3]) (by simp [O]) (by simp [g5]) (by simp [g6]) (by simp [s]) (by simp [u]) (by simp [z]) kC lC
   ·refine a6 (by simp [k]) ?_;exact dh (no _ HC (by unfold gJ;simp [show¬ ltB fr b x y X Y from fun h=>k (a7.2 h)]) kC lC ab)
 exact⟨H',he,hP⟩
end
def wS(fr:Int)(x y X Y:aN):Prop:=lV fr x y<lV fr X Y∨lV fr x y=lV fr X Y∧(x.lt X∨(x.fr=X.fr∧x.day=X.day∧x.to=X.to)∧y.lt Y)
theorem uZ(x y:aN):fJ x y=0↔x.fr=y.fr∧x.day=y.day∧x.to=y.to:=by
 have l:∀ a b:Int,fR a b=0↔a=b:=fun a b=>by unfold fR;split<;>(try split)<;>omega
 unfold fJ;simp only [AE];have m:=l x.fr y.fr;have q:=l x.day y.day;have s:=l x.to y.to;by_cases d:fR x.fr y.fr=0
 ·rw [ba d];by_cases g:fR x.day y.day=0
  ·rw [ba g];by_cases j:fR x.to y.to=0
   ·rw [ba j];exact⟨fun _=>⟨m.1 d,q.1 g,s.1 j⟩,fun _=>rfl⟩
   ·rw [aR j];exact⟨fun h=>absurd h j,fun h=>absurd (s.2 h.2.2) j⟩
  ·rw [aR g];exact⟨fun h=>absurd h g,fun h=>absurd (q.2 h.2.1) g⟩
 ·rw [aR d];exact⟨fun h=>absurd h d,fun h=>absurd (m.2 h.1) d⟩
theorem YB(fr:Int)(x y X Y:aN):ltB fr (lV fr X Y) x y X Y↔wS fr x y X Y:=by
 unfold ltB wS;have j:fR (lV fr x y) (lV fr X Y)=0↔lV fr x y=lV fr X Y:=by unfold fR;split<;>(try split)<;>omega
 have z:fR (lV fr x y) (lV fr X Y)<0↔lV fr x y<lV fr X Y:=by unfold fR;split<;>(try split)<;>omega
 have u:=uZ x X;have A:=uZ y Y;have l:=sL x X;have m:=sL y Y;simp only [AE];by_cases b:fR (lV fr x y) (lV fr X Y)=0
 ·rw [ba b];have e:=j.1 b;by_cases d:fJ x X=0
  ·rw [ba d];have v:=u.1 d;have s:¬ x.lt X:=fun h=>by have:=l.2 h;omega
   by_cases q:fJ y Y=0
   ·rw [ba q];have g:¬ y.lt Y:=fun h=>by have:=m.2 h;omega
    constructor
    ·intro h;omega
    ·rintro(h | ⟨-,h | ⟨-,h⟩⟩)
     ·omega
     ·exact absurd h s
     ·exact absurd h g
   ·rw [aR q,m];constructor
    ·intro h;exact .inr ⟨e,.inr ⟨v,h⟩⟩
    ·rintro(h | ⟨-,h | ⟨-,h⟩⟩)
     ·omega
     ·exact absurd h s
     ·exact h
  ·rw [aR d,l];constructor
   ·intro h;exact .inr ⟨e,.inl h⟩
   ·rintro(h | ⟨-,h | ⟨h,-⟩⟩)
    ·omega
    ·exact h
    ·exact absurd (u.2 h) d
 ·rw [aR b,z];constructor
  ·intro h;exact .inl h
  ·rintro(h | ⟨h,-⟩)
   ·exact h
   ·exact absurd (j.2 h) b
theorem vc{fr:Int}{x y X Y Z W:aN}(h:wS fr x y X Y)(b:wS fr X Y Z W):wS fr x y Z W:=by
 unfold wS aN.lt at *;omega
theorem YL{fr:Int}{x y X Y:aN}(h:¬ wS fr x y X Y)(u:¬ wS fr X Y x y):x=X∧y=Y:=by
 have b:x.fr=X.fr∧x.day=X.day∧x.to=X.to:=by unfold wS aN.lt at *;omega
 have d:y.fr=Y.fr∧y.day=Y.day∧y.to=Y.to:=by unfold wS aN.lt at *;omega
 cases x;cases X;cases y;cases Y;simp only at b d;obtain⟨g,j,l⟩:=b;obtain⟨m,q,s⟩:=d;subst g j l m q s;exact⟨rfl,rfl⟩
structure FS where
 kv:Int
 found:Bool
 X:aN
 Y:aN
noncomputable def eH (fr:Int) (s:FS) (x y:aN):FS:=⟨if gJ fr s.kv s.found x y s.X s.Y then lV fr x y else s.kv,s.found||gJ fr s.kv s.found x y s.X s.Y,if gJ fr s.kv s.found x y s.X s.Y then x else s.X,if gJ fr s.kv s.found x y s.X s.Y then y else s.Y⟩
def js(fr:Int)(S:aN→aN→Prop)(s:FS):Prop:=(s.found=ag∧s.X=⟨0,0,0⟩∧s.Y=⟨0,0,0⟩∧∀ x y,S x y→¬ okB fr x y)∨(s.found=ae∧S s.X s.Y∧okB fr s.X s.Y∧s.kv=lV fr s.X s.Y∧∀ x y,S x y→okB fr x y→¬ wS fr x y s.X s.Y)
theorem js.iff{fr:Int}{S S':aN→aN→Prop}{s:FS}(h:js fr S s)(d:∀ x y,okB fr x y→(S' x y↔S x y)):js fr S' s:=by
 rcases h with⟨h1,h2,h3,h4⟩ | ⟨h1,h2,h3,h4,h5⟩
 ·exact .inl ⟨h1,h2,h3,fun x y h b=>h4 x y ((d x y b).1 h) b⟩
 ·exact .inr ⟨h1,(d _ _ h3).2 h2,h3,h4,fun x y h b=>h5 x y ((d x y b).1 h) b⟩
theorem js.step{fr:Int}{S T:aN→aN→Prop}{s:FS}(h:js fr S s){x y:aN}(v:T x y)(u:∀ d g,T d g→okB fr d g→okB fr x y∧¬ wS fr d g x y):js fr (fun x y=>S x y∨T x y) (eH fr s x y):=by
 by_cases j:okB fr x y
 ·rcases h with⟨h1,h2,h3,h4⟩ | ⟨h1,h2,h3,h4,h5⟩
  ·have hu:gJ fr s.kv s.found x y s.X s.Y=ae:=by unfold gJ;simp [j,h1]
   refine .inr ⟨?_,?_,?_,?_,fun d g b l=>?_⟩
   ·simp [eH,hu]
   ·simp only [eH,hu,if_true];exact .inr v
   ·simp only [eH,hu,if_true];exact j
   ·simp only [eH,hu,if_true]
   ·simp only [eH,hu,if_true];rcases b with b | b
    ·exact absurd l (h4 d g b)
    ·exact(u d g b l).2
  ·have m:ltB fr s.kv x y s.X s.Y↔wS fr x y s.X s.Y:=by rw [h4];exact YB fr x y s.X s.Y
   by_cases k:wS fr x y s.X s.Y
   ·have hu:gJ fr s.kv s.found x y s.X s.Y=ae:=by unfold gJ;simp [j,m.2 k]
    refine .inr ⟨?_,?_,?_,?_,fun d g b l=>?_⟩
    ·simp [eH,hu]
    ·simp only [eH,hu,if_true];exact .inr v
    ·simp only [eH,hu,if_true];exact j
    ·simp only [eH,hu,if_true]
    ·simp only [eH,hu,if_true];rcases b with b | b
     ·exact fun q=>h5 d g b l (vc q k)
     ·exact(u d g b l).2
   ·have hu:gJ fr s.kv s.found x y s.X s.Y=ag:=by unfold gJ;simp [h1,show¬ ltB fr s.kv x y s.X s.Y from fun h=>k (m.1 h)]
    refine .inr ⟨?_,?_,?_,?_,fun d g b l=>?_⟩
    ·simp [eH,hu,h1]
    ·simp only [eH,hu];exact .inl h2
    ·simp only [eH,hu];exact h3
    ·simp only [eH,hu];exact h4
    ·simp only [eH,hu];rcases b with b | b
     ·exact h5 d g b l
     ·intro q;have h6:=(u d g b l).2;by_cases e:wS fr x y d g
      ·exact k (vc e q)
      ·obtain⟨rfl,rfl⟩:=YL h6 e;exact k q
 ·have hu:gJ fr s.kv s.found x y s.X s.Y=ag:=by unfold gJ;simp [j]
  have z:eH fr s x y=s:=by simp [eH,hu]
  rw [z];refine h.iff fun d g l=>⟨fun h=>h.elim id fun h=>absurd (u d g h l).1 j,.inl⟩
theorem js.none{fr:Int}{S T:aN→aN→Prop}{s:FS}(h:js fr S s)(j:∀ b d,T b d→¬ okB fr b d):js fr (fun x y=>S x y∨T x y) s:=
 h.iff fun b d g=>⟨fun h=>h.elim id fun h=>absurd g (j b d h),.inl⟩
theorem js.one{fr:Int}{S:aN→aN→Prop}{s:FS}(h:js fr S s)(x y:aN):js fr (fun b d=>S b d∨(b=x∧d=y)) (eH fr s x y):=
 h.step ⟨rfl,rfl⟩ fun b d ⟨h1,h2⟩ g=>by
  subst h1 h2;exact⟨g,by unfold wS aN.lt;omega⟩
def mE(s:aQ):List C:=[.f (sl s.cg (aX s.cs)),.f (fi s.len),.f (sl s.xg (aT s.xs))]
def mH:C:=.cl 31 [.ptr 2 0 0,.ptr 8 0 0,.ptr 7 0 0,.ptr 5 0 0,.ptr 6 0 0]
structure FQ(a b:aQ)(fr:Int)(s:FS)(J:an):Prop where
 h0:J[0]?=aa (.box (mE a) 0)
 h1:J[1]?=aa (.box (mE b) 0)
 h3:J[3]?=aa (.box [.f (fi 0),.f (fi 0),.f (fi 0)] 0)
 h4:J[4]?=aa (.box [.f (fi 0),.f (fi 0),.f (fi 0)] 0)
 h9:J[9]?=aa (.box [mH] 0)
 tk:TK fr s.kv s.found s.X s.Y J
theorem FQ.bf{a b:aQ}{fr:Int}{s:FS}{J J':an}(h:FQ a b fr s J)(d:∀ i:Nat,i<10→J'[i]?=J[i]?):FQ a b fr s J':=
 ⟨by rw [d 0 (by omega)];exact h.h0,by rw [d 1 (by omega)];exact h.h1,by rw [d 3 (by omega)];exact h.h3,by rw [d 4 (by omega)];exact h.h4,by rw [d 9 (by omega)];exact h.h9,h.tk.bf fun i hi=>d i (by omega)⟩
structure FT(t:T):Prop where
 g3:t.g 3=.c (.ptr 0 0 0)
 g4:t.g 4=.c (.ptr 1 0 0)
 g5:t.g 5=.c (.ptr 2 0 0)
 g6:t.g 6=.c (.ptr 3 0 0)
 g7:t.g 7=.c (.ptr 4 0 0)
 g9:t.g 9=.c (.ptr 5 0 0)
 eo:t.g 10=.c (.ptr 6 0 0)
 g12:t.g 12=.c (.ptr 8 0 0)
 g13:t.g 13=.c (.ptr 9 0 0)
theorem pk{a b:aQ}{fr:Int}{s:FS}{J:an}(h:FQ a b fr s J)(x y:aN):∃ J',Ev tab (.fn 31) [.a (x.row.map .f),.a (y.row.map .f),.c (.ptr 2 0 0),.c (.ptr 8 0 0),.c (.ptr 7 0 0),.c (.ptr 5 0 0),.c (.ptr 6 0 0)] J (.t []) J'∧FQ a b fr (eH fr s x y) J'∧J.length≤J'.length∧∀ i:Nat,8<i→i<J.length→J'[i]?=J[i]?:=by
 obtain⟨J',l,j,m,d⟩:=Tp fr s.kv s.found s.X s.Y x y J h.tk;have u:=aj h.h9;exact⟨J',l,⟨by rw [d 0 (by omega) (by omega)];exact h.h0,by rw [d 1 (by omega) (by omega)];exact h.h1,by rw [d 3 (by omega) (by omega)];exact h.h3,by rw [d 4 (by omega) (by omega)];exact h.h4,by rw [d 9 (by omega) (by omega)];exact h.h9,j⟩,m,fun i q g=>d i g (by omega)⟩
def RK(a b:aQ)(p:Pr):Int:=min (p.c.min+a.len) (p.k*1440+p.d.min+b.len)
def YJ(a b:aQ)(fr:Int)(p:Pr):Int:=max 0 ((fr-RK a b p) / 1440+1-max 0 (-p.k))
def fy(a:aQ)(p:Pr)(e:Int):aN:=dw a.len p.c.min (e+max 0 (-p.k))
def fA(b:aQ)(p:Pr)(e:Int):aN:=dw b.len p.d.min (e+max 0 (-p.k)+p.k)
noncomputable def A3 (a b:aQ) (fr:Int) (p:Pr) (e:Int) (f:Bool) (s:FS):FS:=if f then eH fr s (fy a p e) (fA b p e)else s
theorem AG(a b:aQ)(ha:iL a)(hb:iL b){fr:Int}(f0:-1000000000000≤fr)(f1:fr≤100000000000000){N:T}(B:FT N){p:Pr}(O:oe a b p){s:FS}{J:an}(hq:FQ a b fr s J)(a8:J[10]?=aa (.fg ae))(K:J[11]?=aa (.lp 10 N [P.nat 47] fU fV .ready ab 10)) :
  ∃ e f,eX (fun e=>YJ a b fr p≤e∧dQ p.xs e∧dQ p.ys e) e f∧(f=ae→e≤1000001000000)∧∃ r J',Ev tab (.yield 11) [.a p.row] J r J'∧(r=vb ae∧FQ a b fr (A3 a b fr p e f s) J'∧J'[10]?=aa (.fg ae)∧J'[11]?=aa (.lp 10 N [P.nat 47] fU fV .ready ab 10)∧J.length≤J'.length∧∀ i:Nat,12≤i→i<J.length→J'[i]?=J[i]?):=by
 obtain⟨i_,j3⟩:=ha.ok.len;obtain⟨j4,j7⟩:=hb.ok.len;have i6:=ha.ok.min O.ca;have i7:=hb.ok.min O.db;have c_:=O.lo;have c9:=O.hi;unfold uN at c_;unfold uB at c9;have kb:-20≤p.k∧p.k≤20:=by omega
 obtain⟨A,L⟩:=aL (RK a b p);have i4:-100000≤A∧A≤100000:=by rw [L];unfold RK;omega
 have W:min (p.c.min+a.len) (p.k*1440+p.d.min+b.len)=A:=L.symm;obtain⟨l,y⟩:=aL (max 0 (-p.k));have i3:0≤l∧l≤20:=by omega
 obtain⟨n,hn⟩:=aL (YJ a b fr p);have d_:max 0 ((fr-A) / 1440+1-l)=n:=by rw [hn,L,y];rfl
 have i9:0≤n∧n≤1000000000000:=by omega
 obtain⟨e,f,hm,a_,z⟩:=Ib p.gx p.gy p.xs p.ys O.xo O.yo n (by omega) (by omega);have d9:eX (fun e=>YJ a b fr p≤e∧dQ p.xs e∧dQ p.ys e) e f:=hm.iff fun x=>by rw [←hn,show max n 0=n by omega]
 refine⟨e,f,d9,fun _=>a_.2,?_⟩;refine ey (tab:=tab) (b:=11) (args:=[.a p.row]) (H:=J) K rfl fun Q' U=>?_;obtain⟨d,u⟩:=aL (J.length);obtain⟨Q,v⟩:=aL (J++[bZ.box p.row 0]);have f_:=aj K;have a7:Q[d]?=aa (.box p.row 0):=by rw [v,u];simp
 have k1:∀ i:Nat,i<J.length→Q[i]?=J[i]?:=fun i hi=>by rw [v,AT hi]
 have l1:Q.length=d+1:=by rw [v,ai7,u];rfl
 have f7:p.row.length=8:=rfl;refine au (.inr rfl) ?_;simp [f7];rw [←v,←u];have h_:Q[11]?=aa (.lp 10 N [P.nat 47] fU fV .ready ab 10):=by rw [k1 11 f_];exact K
 refine ja h_ ?_;obtain⟨g,q⟩:=aL (Q.set 11 (.lp 10 N [P.nat 47] fU fV .busy ab 10));have k2:∀ i:Nat,i<J.length→i≠11→g[i]?=J[i]?:=fun i hi e_=>by rw [q,sh (Ne.symm e_),k1 i hi]
 have j:g[d]?=aa (.box p.row 0):=by rw [q,sh (by omega)];exact a7
 have I:g[11]?=aa (.lp 10 N [P.nat 47] fU fV .busy ab 10):=by rw [q];exact If (by omega)
 have S:g[10]?=aa (.fg ae):=by rw [k2 10 (by omega) (by omega)];exact a8
 have m:FQ a b fr s g:=hq.bf fun i hi=>k2 i (by omega) (by omega);have l2:g.length=d+1:=by rw [q,ajp];exact l1
 rw [←q];unfold Pr.row at j;rw [←y]at j;have c0:aU g ab (.c (.ptr d 1 0))=aa (vi p.c.min):=by simp [aU,aC,j]
 have c1:aU g ab (.c (.ptr d 4 0))=aa (vi p.k):=by simp [aU,aC,j]
 have c2:aU g ab (.c (.ptr d 3 0))=aa (vi p.d.min):=by simp [aU,aC,j]
 have c3:aU g ab (.c (.ptr d 7 0))=aa (vi l):=by simp [aU,aC,j]
 have c4:aU g (aa 1) (.c (.ptr d 5 0))=aa (.a [.f (sl p.gx (aD p.xs))]):=by simp [aU,aC,j,aW]
 have c5:aU g (aa 1) (.c (.ptr d 6 0))=aa (.a [.f (sl p.gy (aD p.ys))]):=by simp [aU,aC,j,aW]
 have c6:aU g (aa 2) (.c (.ptr d 0 0))=aa (.a [.f (sl p.c.mg (aD p.c.ts)),.f (fi p.c.min)]):=by simp [aU,aC,j,aW]
 have c7:aU g (aa 2) (.c (.ptr d 2 0))=aa (.a [.f (sl p.d.mg (aD p.d.ts)),.f (fi p.d.min)]):=by simp [aU,aC,j,aW]
 have a1:aU g ab (.c (.ptr 0 1 0))=aa (vi a.len):=by simp [aU,aC,m.h0,mE]
 have a3:aU g (aa 3) (.c (.ptr 0 0 0))=aa (.a [.f (sl a.cg (aX a.cs)),.f (fi a.len),.f (sl a.xg (aT a.xs))]):=by simp [aU,aC,m.h0,mE,aW]
 have b1:aU g ab (.c (.ptr 1 1 0))=aa (vi b.len):=by simp [aU,aC,m.h1,mE]
 have b3:aU g (aa 3) (.c (.ptr 1 0 0))=aa (.a [.f (sl b.cg (aX b.cs)),.f (fi b.len),.f (sl b.xg (aT b.xs))]):=by simp [aU,aC,m.h1,mE,aW]
 have f2:aU g ab (.c (.ptr 2 0 0))=aa (vi fr):=by simp [aU,aC,m.tk.h2]
 have f9:aU g ab (.c (.ptr 9 0 0))=aa (.c mH):=by simp [aU,aC,m.h9]
 have fl:=oD (fr-A) (by omega) (by omega);have E:=tn (sl a.cg (aX a.cs)) (sl a.xg (aT a.xs)) (sl p.c.mg (aD p.c.ts)) a.len p.c.min (e+l) (by omega) (by omega) (by omega) (by omega);have F:=tn (sl b.cg (aX b.cs)) (sl b.xg (aT b.xs)) (sl p.d.mg (aD p.d.ts)) b.len p.d.min (e+l+p.k) (by omega) (by omega) (by omega) (by omega);rw [decide_eq_true (show e+l≤(2251799813685248-p.c.min-a.len) / 1440 by omega)]at E;rw [decide_eq_true (show e+l+p.k≤(2251799813685248-p.d.min-b.len) / 1440 by omega)]at F;have X:=rM (sl a.cg (aX a.cs)) (sl a.xg (aT a.xs)) (sl p.c.mg (aD p.c.ts)) a.len p.c.min (e+l) (by unfold pH;omega) (by unfold pH;omega) (by unfold pH;omega);have Y:=rM (sl b.cg (aX b.cs)) (sl b.xg (aT b.xs)) (sl p.d.mg (aD p.d.ts)) b.len p.d.min (e+l+p.k) (by unfold pH;omega) (by unfold pH;omega) (by unfold pH;omega);have hX:dw a.len p.c.min (e+l)=fy a p e:=by unfold fy;rw [←y]
 have hY:dw b.len p.d.min (e+l+p.k)=fA b p e:=by unfold fA;rw [←y]
 rw [hX]at X;rw [hY]at Y;refine az ?_;refine aq (au (.inr rfl) ?_);simp [B.g3,B.g4,c0,c1,c2,a1,b1,-ay,aM (n:=p.c.min+a.len),aM (n:=p.k*1440),aM (n:=p.k*1440+p.d.min),aM (n:=p.k*1440+p.d.min+b.len),W];refine aq (au (.inr rfl) ?_);simp [B.g5,f2,c3,-ay,aM (n:=fr-A),fl,aM (n:=(fr-A) / 1440+1),aM (n:=(fr-A) / 1440+1-l),d_];refine aq (au (.inr rfl) ?_);simp [c4,c5,-ay,z];apply aq;cases f with
 | false=>
  refine au (.inr rfl) ?_;simp;refine a6 (by simp) ?_;refine ax (dh (U _ _ _ _ _ _ _ _ _ _ rfl I ⟨rfl,?_,?_,If (aj I),by show J.length≤(g.set 11 _).length;rw [ajp];omega,fun i h1 h2=>?_⟩))
  ·exact m.bf fun i hi=>by rw [sh (by omega)]
  ·rw [sh (by omega)];exact S
  ·rw [sh (by omega),k2 i h2 (by omega)]
 | true=>
  obtain⟨J3,b_,f8,i8,M⟩:=pk m (fy a p e) (fA b p e);refine au (.inr rfl) ?_;simp [B.g3,B.g4,a3,b3,c1,c3,c6,c7,-ay,aM (n:=e+l),aM (n:=e+l+p.k),E,F];refine aw (by simp) ?_;refine au (.inr rfl) ?_;simp [B.g3,B.g4,B.g13,f9,a3,b3,c1,c3,c6,c7,-ay,aM (n:=e+l),aM (n:=e+l+p.k),X,Y,mH,b_.eq];have Z:J3[11]?=aa (.lp 10 N [P.nat 47] fU fV .busy ab 10):=by rw [M 11 (by omega) (by omega)];exact I
  have g_:J3[10]?=aa (.fg ae):=by rw [M 10 (by omega) (by omega)];exact S
  refine ax (dh (U _ _ _ _ _ _ _ _ _ _ rfl Z ⟨rfl,?_,?_,If (aj Z),by show J.length≤(J3.set 11 _).length;rw [ajp];omega,fun i h1 h2=>?_⟩))
  ·exact f8.bf fun i hi=>by rw [sh (by omega)]
  ·rw [sh (by omega)];exact g_
  ·rw [sh (by omega),M i (by omega) (by omega),k2 i h2 (by omega)]
structure Bq(a b:aQ)(bs:List Nat)(J:an):Prop where
 h0:J[0]?=aa (.box (mE a) 0)
 h1:J[1]?=aa (.box (mE b) 0)
 h2:∃ v:Bool,J[2]?=aa (.box [.f (.bool v)] 0)
 h3:∃ n:Int,J[3]?=aa (.box [.f (fi n)] 0)
 cl:fv bs J
theorem Bq.bf{a b:aQ}{bs:List Nat}{J J':an}(h:Bq a b bs J)(d:∀ i:Nat,i<J.length→J'[i]?=J[i]?):Bq a b bs J':=by
 obtain⟨v,h2⟩:=h.h2;obtain⟨n,h3⟩:=h.h3;exact⟨by rw [d 0 (aj h.h0)];exact h.h0,by rw [d 1 (aj h.h1)];exact h.h1,⟨v,by rw [d 2 (aj h2)];exact h2⟩,⟨n,by rw [d 3 (aj h3)];exact h3⟩,⟨h.cl.nd,fun i hi=>by rw [d i (aj (h.cl.on i hi))];exact h.cl.on i hi⟩⟩
theorem Bq.set{a b:aQ}{bs:List Nat}{J:an}(h:Bq a b bs J){i:Nat}{y:bZ}(hi:J[i]?=aa y)(h3:4≤i)(hy:y≠.fg ae)(z:bZ):Bq a b bs (J.set i z):=by
 obtain⟨v,d⟩:=h.h2;obtain⟨n,g⟩:=h.h3;exact⟨by rw [sh (by omega)];exact h.h0,by rw [sh (by omega)];exact h.h1,⟨v,by rw [sh (by omega)];exact d⟩,⟨n,by rw [sh (by omega)];exact g⟩,h.cl.set hi hy⟩
theorem Bq.tell{a b:aQ}{bs:List Nat}{J:an}(h:Bq a b bs J)(v:Bool)(n:Int) :
  di J (.ptr 2 0 0) [.f (.bool v)]=aa (J.set 2 (.box [.f (.bool v)] 0))∧di (J.set 2 (.box [.f (.bool v)] 0)) (.ptr 3 0 0) [.f (fi n)]=aa ((J.set 2 (.box [.f (.bool v)] 0)).set 3 (.box [.f (fi n)] 0)) ∧
   fv bs ((J.set 2 (.box [.f (.bool v)] 0)).set 3 (.box [.f (fi n)] 0))∧((J.set 2 (.box [.f (.bool v)] 0)).set 3 (.box [.f (fi n)] 0))[2]?=aa (.box [.f (.bool v)] 0)∧((J.set 2 (.box [.f (.bool v)] 0)).set 3 (.box [.f (fi n)] 0))[3]?=aa (.box [.f (fi n)] 0):=by
 obtain⟨w,g⟩:=h.h2;obtain⟨m,j⟩:=h.h3;have d:(J.set 2 (.box [.f (.bool v)] 0))[3]?=aa (.box [.f (fi m)] 0):=by rw [sh (by omega)];exact j
 refine⟨by simp [di,g,over],by simp [di,d,over],(h.cl.set g (by simp)).set d (by simp),?_,If (aj d)⟩;rw [sh (by omega)];exact If (aj g)
noncomputable def Ip (ps:List aE):Bool:=open Classical in decide (lP [] ps)
theorem Aw(g:Tg){us:List (List aE)}(h:Xx 4 64 us):∃ e:Bool,(e=ae↔∀ u ∈ us,¬ lP [] u)∧bR tab 45 [.a [.f (sl g (bW us))]]=Eq (vb e):=by
 have x:=(gU zN (jT zO us (fun s=>[sl .fs (aH s)]) (fun s=>.c (.f (sl .fs (aH s)))) (fun s=>Ip s) g 78 [] (by have:=h.1;omega)
  (fun j y H=>by
   have:=fZ (H:=H) (ti us) (j:=j) (row:=[sl .fs (aH us[j])]) (by simp [bW,y]) rfl;simpa [bW]using this)
  (fun s A=>by
   have d:=h.2 s A;have:=List.length_pos_iff.2 d.1;obtain⟨b,v,m⟩:=vl .fs s (fun p z=>(d.2.2 p z).mod) (by omega) (by have:=d.2.1;omega);have e:b=Ip s:=by rw [Bool.eq_iff_iff,v];simp [Ip]
   rw [e]at m;exact m))).eq
 have l:bR tab 74 [.c (.f (sl g (bW us))),.c (.f (.fn 78 []))]=Eq (vb (us.any fun s=>Ip s)):=x;have B:=YI g h;refine⟨!(us.any fun s=>Ip s),?_,bR.eq (bY rfl rfl fun Q q=>?_)⟩
 ·simp [Ip]
 ·apply ai;simp;apply ai;simp [B,l];refine aF (q _ _ ?_);simp
theorem Ce{m:Nat}{ps:List aE}(h:Br m ps):lP [] ps↔∃ x,50≤x∧fh ps x:=by
 have j:∀ p ∈ ps,1≤p.aJ∧p.aJ≤12:=fun p j=>⟨(aV (h.2.2 p j).ok).2.2.1,(h.2.2 p j).aJ⟩
 constructor
 ·intro q;obtain⟨d,s,u,l⟩:=S3 j q;refine⟨d+27720*1,by omega,fun p b=>?_⟩;have:=(h.2.2 p b).fr;exact(mw (h.2.2 p b).mod (by omega)).2 (Al j l 1 p b)
 ·rintro⟨x,v,g⟩;refine qX ps [] (by simp) (d:=x) fun p b=>?_;have:=(h.2.2 p b).fr;exact(mw (h.2.2 p b).mod (by omega)).1 (g p b)
def Inf(c d:cm)(k:Int):Prop:=∃ x,50≤x∧dQ c.ts (x+max 0 (-k))∧dQ d.ts (x+max 0 k)
def nu(a b:aQ):Prop:=∀ c ∈ a.cs,∀ d ∈ b.cs,∀ k,uN a.len b.len c d≤k→k≤uB a.len b.len c d→¬ Inf c d k
theorem rL(a b:aQ)(ha:iL a)(hb:iL b):∃ r:Bool,(r=ae↔nu a b)∧bR tab 16 [.a (a.row.map .f),.a (b.row.map .f)]=Eq (.t [vb r,vi 0]):=by
 have key:∃ v,(∃ r:Bool,(r=ae↔nu a b)∧v=.t [vb r,vi 0])∧bR tab 16 [.a (a.row.map .f),.a (b.row.map .f)] v:=by
  refine pT ah7 rfl fun Q hQ=>?_;have d9:=(nk a ha.ok.sm).eq;rw [ha.ok.v]at d9;simp [aQ.row]at d9;have d_:=(nk b hb.ok.sm).eq;rw [hb.ok.v]at d_;simp [aQ.row]at d_;have i4:=uo a b;simp only [aQ.row,ajd,ajt]at i4;have la:∀(bs:List Nat) (J:an),Bq a b bs J→aU J (aa 3) (.c (.ptr 0 0 0))=aa (.a [.f (sl a.cg (aX a.cs)),.f (fi a.len),.f (sl a.xg (aT a.xs))])∧aU J (aa 3) (.c (.ptr 1 0 0))=aa (.a [.f (sl b.cg (aX b.cs)),.f (fi b.len),.f (sl b.xg (aT b.xs))]):=fun bs J h=>by refine⟨?_,?_⟩<;>simp [aU,aC,h.h0,h.h1,mE,aW]
  have e_:∀(t:T) (J:an) (bs:List Nat) (v:Bool),t.g 4=.c (.ptr 2 0 0)→t.g 5=.c (.ptr 3 0 0)→(v=ae↔nu a b)→fv bs J→J[2]?=aa (.box [.f (.bool v)] 0)→J[3]?=aa (.box [.f (fi 0)] 0)→∀ j,Q j ⟨t,bs.map .er,J⟩:=by
   intro t J bs v O S hv c9 I h3 j;refine hQ _ _ _ ⟨v,hv,rfl⟩ ⟨bs,rfl,c9,.t [vb v,vi 0],?_,by simp [mR,dI,aZ]⟩;have d2:=(kd (c9.not I (by simp))).trans I;have d3:=(kd (c9.not h3 (by simp))).trans h3;simp [Km.results,cC,aZ,O,S,d2,d3]
  apply ai;simp [aQ.row];obtain⟨J0,U⟩:=aL ([.box (mE a) 0,.box (mE b) 0,.box [.f (.bool ag)] 0,.box [.f (fi 0)] 0]:an);have c_:Bq a b [] J0:=by rw [U];exact⟨rfl,rfl,⟨_,rfl⟩,⟨_,rfl⟩,⟨by simp,by simp⟩⟩
  have l0:J0.length=4:=by rw [U];rfl
  unfold mE at U;rw [←U];apply aq;apply ai;simp [(la _ _ c_).1,(la _ _ c_).2,-ay,d9,d_];refine a6 (by simp) ?_;apply ai;simp [l0];obtain⟨m,y⟩:=aL (J0++[bZ.box [.f (.bool ag)] 0]);have j4:(J0++[bZ.box [.f (.bool ag)] 0]).set 4 (.box [.f (.bool ag)] 0)=m:=by rw [y,←l0,List.set_append_right _ _ (ai8 _)];simp
  have kl:m[4]?=aa (.box [.f (.bool ag)] 0):=by rw [y,←l0];simp
  have kq:Bq a b [] m:=c_.bf fun i hi=>by rw [y,AT hi]
  have kn:m.length=5:=by rw [y,ai7,l0];rfl
  suffices start:∀ t:T,t.g 2=.c (.ptr 0 0 0)→t.g 3=.c (.ptr 1 0 0)→t.g 4=.c (.ptr 2 0 0)→t.g 5=.c (.ptr 3 0 0)→t.g 6=.c (.ptr 4 0 0)→WP tab 16 ab [.code Bb] ⟨t,[],m⟩ Q by
   have e4:(J0++[bZ.box [.f (.bool ag)] 0])[4]?=aa (.box [.f (.bool ag)] 0):=by rw [←y];exact kl
   first
    | (simp [e4,j4];exact start _ (by simp) (by simp) (by simp) (by simp) (by simp))
    | (rw [←y];exact start _ (by simp) (by simp) (by simp) (by simp) (by simp))
  intro t g2 g3 O S g6;apply aq;apply ai;simp [g2,g3,(la _ _ kq).1,(la _ _ kq).2,-ay,i4];refine az ?_
  suffices go:∀ u:T,u.g 4=.c (.ptr 2 0 0)→u.g 5=.c (.ptr 3 0 0)→u.g 6=.c (.ptr 4 0 0)→u.g 20=.c (.f (.fn 66 [.fp a.row 0,.fp b.row 0])) →
    WP tab 16 ab [.code Bc,.inBlock 0,.code Bd] ⟨u,([]:List Nat).map .er,m⟩ Q by exact go _ (by simp [O]) (by simp [S]) (by simp [g6]) (by simp [aQ.row])
  clear g2 g3 O S g6 t;intro u O S g6 i6;obtain⟨Z,L⟩:∃ Z:dz→Option av→bZ,Z=fun st pd=>.lp 16 u [P.nat 21] fj fk st pd 5:=⟨_,rfl⟩
  obtain⟨E,K⟩:=aL (m++[.fg ae,Z .ready ab]);have q4:E[5]?=aa (.fg ae):=by rw [K,aje (by omega),kn];simp
  have q5:E[6]?=aa (Z .ready ab):=by rw [K,aje (by omega),kn];simp
  have qk:∀ i:Nat,i<m.length→E[i]?=m[i]?:=fun i hi=>by rw [K,AT hi]
  have qq:=kq.bf qk;have h_:Bq a b [5] E:=⟨qq.h0,qq.h1,qq.h2,qq.h3,⟨by simp,fun b hb=>by rw [ai9.1 hb];exact q4⟩⟩
  have ql:E[4]?=aa (.box [.f (.bool ag)] 0):=by rw [qk 4 (by omega)];exact kl
  have j8:E.length=7:=by rw [K,ai7,kn];rfl
  obtain⟨H2,he,b_⟩:=rN (bb:=6) (H:=E) a b ha hb (fun ps J=>E.length≤J.length∧(∀ i:Nat,i<E.length→J[i]?=E[i]?)∧∀ p ∈ ps,¬ Inf p.c p.d p.k)
   (fun p J=>Inf p.c p.d p.k∧fv [5] J∧J[2]?=aa (.box [.f (.bool ag)] 0)∧J[3]?=aa (.box [.f (fi 0)] 0)∧J[6]?=aa (Z .done (aa .ret))) ⟨ai8 _,fun _ _=>rfl,by simp⟩
   (fun ps J J' ⟨h1,I,h3⟩ hk hl=>⟨by omega,fun i hi=>by rw [hk i hi];exact I i hi,h3⟩)
   (fun ps p J ⟨h1,I,h3⟩ hl A=>by
    have N:J[6]?=aa (Z .ready ab):=by rw [I _ (aj q5)];exact q5
    have pq:=h_.bf I;have pl:J[4]?=aa (.box [.f (.bool ag)] 0):=by rw [I 4 (by omega)];exact ql
    rw [L]at N;obtain⟨us,gu,Y,a7,f_⟩:=YC p.gx p.gy p.xs p.ys A.xo A.yo;obtain⟨f,hf,i3⟩:=Aw gu (us:=us) ⟨by have:=Y.1;omega,Y.2⟩;have s:f=ag↔Inf p.c p.d p.k:=by
     constructor
     ·intro he;apply Classical.byContradiction;intro hn;have:=hf.2 fun u hu M=>by
       obtain⟨x,hx,l⟩:=(Ce (Y.2 u hu)).1 M;obtain⟨k1,k2⟩:=(a7 x (by omega)).1 ⟨u,hu,l⟩;exact hn ⟨x,hx,(A.xm x (by omega)).1 k1,(A.ym x (by omega)).1 k2⟩
      rw [he]at this;cases this
     ·rintro⟨x,hx,k1,k2⟩;cases f with
      | false=>rfl
      | true=>
       obtain⟨u,hu,l⟩:=(a7 x (by omega)).2 ⟨(A.xm x (by omega)).2 k1,(A.ym x (by omega)).2 k2⟩;exact absurd ((Ce (Y.2 u hu)).2 ⟨x,hx,l⟩) (hf.1 rfl u hu)
    refine⟨f,?_⟩;obtain⟨r,J',i8,rfl,M⟩:∃ r J',Ev tab (.yield 6) [.a p.row] J r J'∧(r=vb f∧(if f=ag then fv [5] J'∧J'[2]?=aa (.box [.f (.bool ag)] 0)∧J'[3]?=aa (.box [.f (fi 0)] 0)∧J'[6]?=aa (Z .done (aa .ret))else J.length≤J'.length∧∀ i:Nat,i<J.length→J'[i]?=J[i]?)):=by
     refine ey (tab:=tab) (b:=6) (args:=[.a p.row]) (H:=J) N rfl fun Q' f8=>?_;obtain⟨bp,a_⟩:=aL (J.length);have j3:p.row.length=8:=rfl;refine au (.inr rfl) ?_;simp [j3];rw [←a_];obtain⟨J1,W⟩:=aL (J++[bZ.box p.row 0]);rw [←W];have k1:∀ i:Nat,i<J.length→J1[i]?=J[i]?:=fun i hi=>by rw [W,AT hi]
     have d1:J1[bp]?=aa (.box p.row 0):=by rw [W,a_];simp
     have n1:J1.length=bp+1:=by rw [W,a_];simp
     have e5:J1[6]?=aa (.lp 16 u [P.nat 21] fj fk .ready ab 5):=by rw [k1 _ (aj N)];exact N
     refine ja e5 ?_;obtain⟨F,z⟩:=aL (J1.set 6 (.lp 16 u [P.nat 21] fj fk .busy ab 5));rw [←z];have k2:∀ i:Nat,i<J.length→i≠6→F[i]?=J[i]?:=fun i hi i9=>by rw [z,sh (Ne.symm i9),k1 i hi]
     have d2:F[bp]?=aa (.box p.row 0):=by rw [z,sh (by have:=aj N;omega)];exact d1
     have f5:F[6]?=aa (.lp 16 u [P.nat 21] fj fk .busy ab 5):=by rw [z];exact If (aj e5)
     have n2:F.length=bp+1:=by rw [z,ajp];exact n1
     have q2:Bq a b [5] F:=by rw [z];exact(pq.bf k1).set e5 (by omega) (by simp) _
     unfold Pr.row at d2;have c5:aU F (aa 1) (.c (.ptr bp 5 0))=aa (.a [.f (sl p.gx (aD p.xs))]):=by simp [aU,aC,d2,aW]
     have c6:aU F (aa 1) (.c (.ptr bp 6 0))=aa (.a [.f (sl p.gy (aD p.ys))]):=by simp [aU,aC,d2,aW]
     obtain⟨bm,g_⟩:=aL (F.length);refine az ?_;refine aq (au (.inr rfl) ?_);simp [c5,c6,-ay,f_,jc];rw [←g_];obtain⟨B,X⟩:=aL (F++[bZ.box [.f (sl gu (bW us))] 0]);rw [←X];have k3:∀ i:Nat,i<F.length→B[i]?=F[i]?:=fun i hi=>by rw [X,AT hi]
     have m3:B[bm]?=aa (.box [.f (sl gu (bW us))] 0):=by rw [X,g_];simp
     have q3:Bq a b [5] B:=q2.bf k3;have n3:B.length=bp+2:=by rw [X,ai7,n2];rfl
     have f7:B[6]?=aa (.lp 16 u [P.nat 21] fj fk .busy ab 5):=by rw [k3 _ (aj f5)];exact f5
     have v3:B[4]?=aa (.box [.f (.bool ag)] 0):=by rw [k3 4 (by omega),k2 4 (by omega) (by omega)];exact pl
     have lm:aU B (aa 1) (.c (.ptr bm 0 0))=aa (.a [.f (sl gu (bW us))]):=by simp [aU,aC,m3,aW]
     have lv:aU B ab (.c (.ptr 4 0 0))=aa (vb ag):=by simp [aU,aC,v3]
     have sv:di B (.ptr 4 0 0) [.f (.bool ag)]=aa (B.set 4 (.box [.f (.bool ag)] 0)):=by simp [di,v3,over]
     apply aq;refine aq (au (.inr rfl) ?_);simp [lm,i3,-ay];cases f with
     | false=>
      refine aw (by simp) ?_;obtain⟨s1,s2,s3,s4,s6⟩:=q3.tell ag 0;have s5:((B.set 2 (.box [.f (.bool ag)] 0)).set 3 (.box [.f (fi 0)] 0))[6]?=aa (.lp 16 u [P.nat 21] fj fk .busy ab 5):=by rw [sh (by omega),sh (by omega)];exact f7
      refine aq (au (.inr rfl) ?_);simp [O,S,s1,s2,-bu];refine aF (f8 _ _ _ _ _ _ _ _ _ _ rfl s5 ⟨rfl,?_⟩);rw [ba rfl];refine⟨s3.set s5 (by simp),?_,?_,?_⟩
      ·rw [sh (by omega)];exact s4
      ·rw [sh (by omega)];exact s6
      ·rw [L];exact If (aj s5)
     | true=>
      refine aG (by simp) (aP (au (.inr rfl) ?_));simp [g6,lv,sv,-ay,-bu];have s5:(B.set 4 (.box [.f (.bool ag)] 0))[6]?=aa (.lp 16 u [P.nat 21] fj fk .busy ab 5):=by rw [sh (by omega)];exact f7
      refine ax (dh (f8 _ _ _ _ _ _ _ _ _ _ rfl s5 ⟨rfl,?_⟩));rw [aR (by simp)];refine⟨by rw [ajp,ajp,n3];omega,fun i hi=>?_⟩;by_cases e:i=6
      ·subst e;rw [If (aj s5),N];rfl
      ·rw [sh (Ne.symm e)];by_cases e4:i=4
       ·subst e4;rw [If (aj v3),pl]
       ·rw [sh (Ne.symm e4),k3 i (by omega),k2 i hi e]
    refine⟨J',i8,?_⟩;cases f with
    | false=>simpa using ⟨s.1 rfl,by simpa using M⟩
    | true=>
     have M:J.length≤J'.length∧∀ i:Nat,i<J.length→J'[i]?=J[i]?:=by simpa using M
     simp only [if_true];refine⟨⟨by omega,fun i hi=>by rw [M.2 i (by omega)];exact I i hi,fun q hq=>?_⟩,M.1,fun i _ hi=>M.2 i hi⟩;rcases aja.1 hq with h | h
     ·exact h3 q h
     ·rw [ai9.1 h];intro h;have:=s.2 h;cases this)
  have i7:Ev tab (.fn 66) [.c (.yl (m.length+1)),.c (.f (.fp a.row 0)),.c (.f (.fp b.row 0))] (m++[.fg ae,.lp 16 u [P.nat 21] fj fk .ready ab m.length]) (.t []) H2:=by
   have e:m++[.fg ae,.lp 16 u [P.nat 21] fj fk .ready ab m.length]=E:=by rw [K,L,kn]
   rw [e,kn];exact he
  refine fO (g:=66) (by rw [ry,i6];simp [bS]) i7 ?_;rw [kn];rcases b_ with⟨ps,⟨j7,a8,i_⟩,j9,l⟩ | ⟨p,A,s,c1,c2,c3,c5⟩
  ·have N:H2[6]?=aa (Z .ready ab):=by rw [a8 _ (aj q5)];exact q5
   rw [L]at N;have eq:=(h_.bf a8).set N (by omega) (by simp) (.lp 16 u [P.nat 21] fj fk .exhausted ab 5);have ev:(H2.set 6 (.lp 16 u [P.nat 21] fj fk .exhausted ab 5))[4]?=aa (.box [.f (.bool ag)] 0):=by rw [sh (by omega),a8 4 (by omega)];exact ql
   refine gW N (by decide) (ax ?_);generalize H2.set 6 (.lp 16 u [P.nat 21] fj fk .exhausted ab 5)=H3 at eq ev ⊢;have lv:aU H3 ab (.c (.ptr 4 0 0))=aa (vb ag):=by simp [aU,aC,ev]
   apply aq;apply ai;simp [g6,lv,-ay];refine a6 (by simp) ?_;obtain⟨s1,s2,s3,s4,s6⟩:=eq.tell ae 0;apply ai;simp [O,S,s1,s2,-bu];refine aF (e_ _ _ [5] ae (by simp [O]) (by simp [S]) ⟨fun _ c hc d hd k h1 I=>?_,fun _=>rfl⟩ s3 s4 s6 _);obtain⟨p,A,rfl,rfl,rfl⟩:=l c hc d hd k h1 I;exact i_ p A
  ·rw [L]at c5;refine wb c5 (by decide) ?_;refine aF (e_ _ _ [5] ag O S ⟨fun h=>(by cases h),fun h=>absurd s (h p.c A.ca p.d A.db p.k A.lo A.hi)⟩ (c1.set c5 (by simp)) ?_ ?_ _)
   ·rw [sh (by omega)];exact c2
   ·rw [sh (by omega)];exact c3
 obtain⟨v,⟨r,M,rfl⟩,h⟩:=key;exact⟨r,M,h.eq⟩
theorem tK{a b:aQ}{fr:Int}{v:T}(n:FT v){d B:Nat}(Q:v.g 20=.c (.ptr d 0 0)){x:aN}{s:FS}{J:an}(p:FQ a b fr s J)(c:J[d]?=aa (.box [.f (fi x.day),.f (fi x.fr),.f (fi x.to)] 0))(hb:10≤d)(hB:d<B)(U:J[B]?=aa (.lp 10 v [P.nat 138] gK gL .ready ab (B-1)))(y:aN) :
  ∃ r J',Ev tab (.yield B) [.a (y.row.map .f)] J r J'∧(r=vb ae∧FQ a b fr (eH fr s x y) J'∧J'[B]?=aa (.lp 10 v [P.nat 138] gK gL .ready ab (B-1))∧J.length≤J'.length∧∀ i:Nat,9≤i→i<J.length→i≠B→J'[i]?=J[i]?):=by
 have w:=aj U;refine ey (tab:=tab) (b:=B) (args:=[.a (y.row.map .f)]) (H:=J) U rfl fun Q' S=>?_;obtain⟨g,l⟩:=aL (J.length);obtain⟨z,q⟩:=aL (J++[bZ.box [.f (fi y.day),.f (fi y.fr),.f (fi y.to)] 0]);have M:z[g]?=aa (.box [.f (fi y.day),.f (fi y.fr),.f (fi y.to)] 0):=by rw [q,l];simp
 have e:∀ i:Nat,i<J.length→z[i]?=J[i]?:=fun i hi=>by rw [q,AT hi]
 have t:z.length=g+1:=by rw [q,ai7,l];rfl
 refine au (.inr rfl) ?_;simp [aN.row];rw [←q,←l];have Y:z[B]?=aa (.lp 10 v [P.nat 138] gK gL .ready ab (B-1)):=by rw [e B w];exact U
 refine ja Y ?_;obtain⟨m,j⟩:=aL (z.set B (.lp 10 v [P.nat 138] gK gL .busy ab (B-1)));have X:∀ i:Nat,i<J.length→i≠B→m[i]?=J[i]?:=fun i hi u=>by rw [j,sh (Ne.symm u),e i hi]
 have O:m[g]?=aa (.box [.f (fi y.day),.f (fi y.fr),.f (fi y.to)] 0):=by rw [j,sh (by omega)];exact M
 have N:m[d]?=aa (.box [.f (fi x.day),.f (fi x.fr),.f (fi x.to)] 0):=by rw [X d (aj c) (by omega)];exact c
 have f:m[B]?=aa (.lp 10 v [P.nat 138] gK gL .busy ab (B-1)):=by rw [j];exact If (by omega)
 have F:FQ a b fr s m:=p.bf fun i hi=>X i (by omega) (by omega);have l2:m.length=g+1:=by rw [j,ajp];exact t
 rw [←j];have K:aU m (aa 3) (.c (.ptr d 0 0))=aa (.a [.f (fi x.day),.f (fi x.fr),.f (fi x.to)]):=by simp [aU,aC,N,aW]
 have L:aU m (aa 3) (.c (.ptr g 0 0))=aa (.a [.f (fi y.day),.f (fi y.fr),.f (fi y.to)]):=by simp [aU,aC,O,aW]
 have h:aU m ab (.c (.ptr 9 0 0))=aa (.c mH):=by simp [aU,aC,F.h9]
 obtain⟨Z,A,W,o,E⟩:=pk F x y;simp only [aN.row,ajd,ajt]at A;refine az ?_;refine au (.inr rfl) ?_;simp [n.g13,Q,h,K,L,-ay,mH,A.eq];have I:Z[B]?=aa (.lp 10 v [P.nat 138] gK gL .busy ab (B-1)):=by rw [E B (by omega) (by omega)];exact f
 refine ax (dh (S _ _ _ _ _ _ _ _ _ _ rfl I ⟨rfl,?_,If (aj I),by show J.length≤(Z.set B _).length;rw [ajp];omega,fun i h1 k u=>?_⟩))
 ·exact W.bf fun i hi=>by rw [sh (by omega)]
 ·rw [sh (Ne.symm u),E i (by omega) (by omega),X i k u]
theorem tL{a b:aQ}{fr:Int}{v:T}(n:FT v){d B:Nat}(Q:v.g 25=.c (.ptr d 0 0)){y:aN}{s:FS}{J:an}(p:FQ a b fr s J)(c:J[d]?=aa (.box [.f (fi y.day),.f (fi y.fr),.f (fi y.to)] 0))(hb:10≤d)(hB:d<B)(U:J[B]?=aa (.lp 10 v [P.nat 166] gM gN .ready ab (B-1)))(x:aN) :
  ∃ r J',Ev tab (.yield B) [.a (x.row.map .f)] J r J'∧(r=vb ae∧FQ a b fr (eH fr s x y) J'∧J'[B]?=aa (.lp 10 v [P.nat 166] gM gN .ready ab (B-1))∧J.length≤J'.length∧∀ i:Nat,9≤i→i<J.length→i≠B→J'[i]?=J[i]?):=by
 have w:=aj U;refine ey (tab:=tab) (b:=B) (args:=[.a (x.row.map .f)]) (H:=J) U rfl fun Q' S=>?_;obtain⟨g,l⟩:=aL (J.length);obtain⟨z,q⟩:=aL (J++[bZ.box [.f (fi x.day),.f (fi x.fr),.f (fi x.to)] 0]);have M:z[g]?=aa (.box [.f (fi x.day),.f (fi x.fr),.f (fi x.to)] 0):=by rw [q,l];simp
 have e:∀ i:Nat,i<J.length→z[i]?=J[i]?:=fun i hi=>by rw [q,AT hi]
 have t:z.length=g+1:=by rw [q,ai7,l];rfl
 refine au (.inr rfl) ?_;simp [aN.row];rw [←q,←l];have Y:z[B]?=aa (.lp 10 v [P.nat 166] gM gN .ready ab (B-1)):=by rw [e B w];exact U
 refine ja Y ?_;obtain⟨m,j⟩:=aL (z.set B (.lp 10 v [P.nat 166] gM gN .busy ab (B-1)));have X:∀ i:Nat,i<J.length→i≠B→m[i]?=J[i]?:=fun i hi u=>by rw [j,sh (Ne.symm u),e i hi]
 have O:m[g]?=aa (.box [.f (fi x.day),.f (fi x.fr),.f (fi x.to)] 0):=by rw [j,sh (by omega)];exact M
 have N:m[d]?=aa (.box [.f (fi y.day),.f (fi y.fr),.f (fi y.to)] 0):=by rw [X d (aj c) (by omega)];exact c
 have f:m[B]?=aa (.lp 10 v [P.nat 166] gM gN .busy ab (B-1)):=by rw [j];exact If (by omega)
 have F:FQ a b fr s m:=p.bf fun i hi=>X i (by omega) (by omega);have l2:m.length=g+1:=by rw [j,ajp];exact t
 rw [←j];have K:aU m (aa 3) (.c (.ptr d 0 0))=aa (.a [.f (fi y.day),.f (fi y.fr),.f (fi y.to)]):=by simp [aU,aC,N,aW]
 have L:aU m (aa 3) (.c (.ptr g 0 0))=aa (.a [.f (fi x.day),.f (fi x.fr),.f (fi x.to)]):=by simp [aU,aC,O,aW]
 have h:aU m ab (.c (.ptr 9 0 0))=aa (.c mH):=by simp [aU,aC,F.h9]
 obtain⟨Z,A,W,o,E⟩:=pk F x y;simp only [aN.row,ajd,ajt]at A;refine az ?_;refine au (.inr rfl) ?_;simp [n.g13,Q,h,K,L,-ay,mH,A.eq];have I:Z[B]?=aa (.lp 10 v [P.nat 166] gM gN .busy ab (B-1)):=by rw [E B (by omega) (by omega)];exact f
 refine ax (dh (S _ _ _ _ _ _ _ _ _ _ rfl I ⟨rfl,?_,If (aj I),by show J.length≤(Z.set B _).length;rw [ajp];omega,fun i h1 k u=>?_⟩))
 ·exact W.bf fun i hi=>by rw [sh (by omega)]
 ·rw [sh (Ne.symm u),E i (by omega) (by omega),X i k u]
def FW(a b:aQ)(fr:Int)(S:aN→aN→Prop)(bs:List Nat)(J:an):Prop:=(∃ s,FQ a b fr s J∧js fr S s)∧fv bs J∧∀ i ∈ bs,10≤i∧i<J.length
theorem FW.push{a b:aQ}{fr:Int}{S:aN→aN→Prop}{bs:List Nat}{J:an}(h:FW a b fr S bs J)(K:an):FW a b fr S bs (J++K):=by
 obtain⟨⟨s,g,j⟩,hc,d⟩:=h;have l:=aj g.h9;exact⟨⟨s,g.bf fun i hi=>by rw [AT (by omega)],j⟩,hc.push K,fun i hi=>⟨(d i hi).1,by rw [ai7];have:=(d i hi).2;omega⟩⟩
theorem adI{a b:aQ}(ha:iL a)(hb:iL b){fr:Int}{x:aN}(x0:-1000000000000≤x.fr)(x1:x.to≤1000000000000)(x2:x.fr<x.to){S:aN→aN→Prop}{bs:List Nat}{J:an}(h:FW a b fr S bs J){v:T}(hT:FT v){d:Nat}(f:v.g 20=.c (.ptr d 0 0))(U:v.g 137=.c (.f (.fn 71 [.fp b.row 0,.fp x.row 0])))(hx:J[d]?=aa (.box [.f (fi x.day),.f (fi x.fr),.f (fi x.to)] 0))(X:10≤d){k:List cD}{Q:Option av→St→Prop}
  (hk:∀(J':an) (L:List Nat),FW a b fr (fun z A=>S z A∨(z=x∧ku b x A)) L J'→J'[d]?=aa (.box [.f (fi x.day),.f (fi x.fr),.f (fi x.to)] 0)→J.length≤J'.length→WP tab 10 ab k ⟨v,L.map .er,J'⟩ Q) :
  WP tab 10 ab (.code vD::.inBlock 4::k) ⟨v,bs.map .er,J⟩ Q:=by
 obtain⟨⟨s0,e,p⟩,Y,j⟩:=h;obtain⟨N,W⟩:=aL (J.length);have l9:=aj e.h9;have lx:=aj hx;obtain⟨I,l⟩:=aL (J++[.fg ae,.lp 10 v [P.nat 138] gK gL .ready ab N]:an);have lR:I.length=N+2:=by rw [l,ai7,W];rfl
 have kR:∀ i:Nat,i<J.length→I[i]?=J[i]?:=fun i hi=>by rw [l,AT hi]
 have rd:I[N]?=aa (.fg ae):=by rw [l,W];simp
 have rl:I[N+1]?=aa (.lp 10 v [P.nat 138] gK gL .ready ab N):=by rw [l,W,aje (by omega)];simp
 obtain⟨H2,he,ys,⟨s,c,Z,u,M,O,K,e4⟩,w⟩:=vn (bb:=N+1) (H:=I) b hb x x0 x1 x2
  (fun ys J'=>∃ s,FQ a b fr s J'∧js fr (fun z A=>S z A∨(z=x∧A ∈ ys)) s∧fv bs J'∧J'[N]?=aa (.fg ae)∧J'[N+1]?=aa (.lp 10 v [P.nat 138] gK gL .ready ab N)∧J'[d]?=aa (.box [.f (fi x.day),.f (fi x.fr),.f (fi x.to)] 0)∧I.length≤J'.length)
  ⟨s0,e.bf fun i hi=>kR i (by omega),p.iff fun z A _=>⟨fun h=>h.elim id fun h=>by simp at h,.inl⟩,⟨Y.nd,fun i hi=>by rw [kR i (j i hi).2];exact Y.on i hi⟩,rd,rl,by rw [kR d lx];exact hx,ai8 _⟩
  (fun ys J1 J2 ⟨s,c,Z,u,M,O,K,e4⟩ m hl=>⟨s,c.bf fun i hi=>m i (by omega),Z,⟨u.nd,fun i hi=>by rw [m i (by have:=(j i hi).2;omega)];exact u.on i hi⟩,by rw [m N (by omega)];exact M,by rw [m (N+1) (by omega)];exact O,by rw [m d (by omega)];exact K,by omega⟩)
  (fun ys y J1 ⟨s,c,Z,u,M,O,K,e4⟩ hl _=>by
   obtain⟨r,J2,n,rfl,t,o,F,q⟩:=tK hT f c K X (show d<N+1 by omega) O y;refine⟨J2,n,⟨eH fr s x y,t,(Z.one x y).iff fun z A _=>?_,⟨u.nd,fun i hi=>?_⟩,?_,o,?_,by omega⟩,F,fun i h1 h2=>q i (by omega) h2 (by omega)⟩
   ·rw [aja,ai9];constructor
    ·rintro(h | ⟨h,B | B⟩)
     ·exact .inl (.inl h)
     ·exact .inl (.inr ⟨h,B⟩)
     ·exact .inr ⟨h,B⟩
    ·rintro((h | ⟨h,B⟩) | ⟨h,B⟩)
     ·exact .inl h
     ·exact .inr ⟨h,.inl B⟩
     ·exact .inr ⟨h,.inr B⟩
   ·have:=j i hi;rw [q i (by omega) (by omega) (by omega)];exact u.on i hi
   ·rw [q N (by omega) (by omega) (by omega)];exact M
   ·rw [q d (by omega) (by omega) (by omega)];exact K)
 rw [l,W]at he;refine fO (g:=71) (by rw [ry,U];simp [bS]) he ?_;rw [←W];refine gW O (by decide) (ax ?_);have E:(eU.er N::bs.map .er)=(N::bs).map .er:=rfl;rw [E];refine hk _ (N::bs) ⟨⟨s,c.bf fun i hi=>by rw [sh (by omega)],Z.iff fun z A _=>by rw [w]⟩,⟨List.nodup_cons.2 ⟨fun hi=>by have:=(j N hi).2;omega,u.nd⟩,fun i hi=>?_⟩,fun i hi=>?_⟩ (by rw [sh (by omega)];exact K) (by rw [ajp];omega)
 ·rcases ajB.1 hi with rfl | hi
  ·rw [sh (by omega)];exact M
  ·have:=j i hi;rw [sh (by omega)];exact u.on i hi
 ·rw [ajp];rcases ajB.1 hi with rfl | hi
  ·omega
  ·have:=j i hi;omega
theorem adJ{a b:aQ}(ha:iL a)(hb:iL b){fr:Int}{x:aN}(x0:-1000000000000≤x.fr)(x1:x.to≤1000000000000)(x2:x.fr<x.to){S:aN→aN→Prop}{bs:List Nat}{J:an}(h:FW a b fr S bs J){v:T}(hT:FT v){d:Nat}(f:v.g 25=.c (.ptr d 0 0))(U:v.g 165=.c (.f (.fn 71 [.fp a.row 0,.fp x.row 0])))(hx:J[d]?=aa (.box [.f (fi x.day),.f (fi x.fr),.f (fi x.to)] 0))(X:10≤d){k:List cD}{Q:Option av→St→Prop}
  (hk:∀(J':an) (L:List Nat),FW a b fr (fun z A=>S z A∨(A=x∧ku a x z)) L J'→J'[d]?=aa (.box [.f (fi x.day),.f (fi x.fr),.f (fi x.to)] 0)→J.length≤J'.length→WP tab 10 ab k ⟨v,L.map .er,J'⟩ Q) :
  WP tab 10 ab (.code vF::.inBlock 10::k) ⟨v,bs.map .er,J⟩ Q:=by
 obtain⟨⟨s0,e,p⟩,Y,j⟩:=h;obtain⟨N,W⟩:=aL (J.length);have l9:=aj e.h9;have lx:=aj hx;obtain⟨I,l⟩:=aL (J++[.fg ae,.lp 10 v [P.nat 166] gM gN .ready ab N]:an);have lR:I.length=N+2:=by rw [l,ai7,W];rfl
 have kR:∀ i:Nat,i<J.length→I[i]?=J[i]?:=fun i hi=>by rw [l,AT hi]
 have rd:I[N]?=aa (.fg ae):=by rw [l,W];simp
 have rl:I[N+1]?=aa (.lp 10 v [P.nat 166] gM gN .ready ab N):=by rw [l,W,aje (by omega)];simp
 obtain⟨H2,he,ys,⟨s,c,Z,u,M,O,K,e4⟩,w⟩:=vn (bb:=N+1) (H:=I) a ha x x0 x1 x2
  (fun ys J'=>∃ s,FQ a b fr s J'∧js fr (fun z A=>S z A∨(A=x∧z ∈ ys)) s∧fv bs J'∧J'[N]?=aa (.fg ae)∧J'[N+1]?=aa (.lp 10 v [P.nat 166] gM gN .ready ab N)∧J'[d]?=aa (.box [.f (fi x.day),.f (fi x.fr),.f (fi x.to)] 0)∧I.length≤J'.length)
  ⟨s0,e.bf fun i hi=>kR i (by omega),p.iff fun z A _=>⟨fun h=>h.elim id fun h=>by simp at h,.inl⟩,⟨Y.nd,fun i hi=>by rw [kR i (j i hi).2];exact Y.on i hi⟩,rd,rl,by rw [kR d lx];exact hx,ai8 _⟩
  (fun ys J1 J2 ⟨s,c,Z,u,M,O,K,e4⟩ m hl=>⟨s,c.bf fun i hi=>m i (by omega),Z,⟨u.nd,fun i hi=>by rw [m i (by have:=(j i hi).2;omega)];exact u.on i hi⟩,by rw [m N (by omega)];exact M,by rw [m (N+1) (by omega)];exact O,by rw [m d (by omega)];exact K,by omega⟩)
  (fun ys y J1 ⟨s,c,Z,u,M,O,K,e4⟩ hl _=>by
   obtain⟨r,J2,n,rfl,t,o,F,q⟩:=tL hT f c K X (show d<N+1 by omega) O y;refine⟨J2,n,⟨eH fr s y x,t,(Z.one y x).iff fun z A _=>?_,⟨u.nd,fun i hi=>?_⟩,?_,o,?_,by omega⟩,F,fun i h1 h2=>q i (by omega) h2 (by omega)⟩
   ·rw [aja,ai9];constructor
    ·rintro(h | ⟨h,B | B⟩)
     ·exact .inl (.inl h)
     ·exact .inl (.inr ⟨h,B⟩)
     ·exact .inr ⟨B,h⟩
    ·rintro((h | ⟨h,B⟩) | ⟨h,B⟩)
     ·exact .inl h
     ·exact .inr ⟨h,.inl B⟩
     ·exact .inr ⟨B,.inr h⟩
   ·have:=j i hi;rw [q i (by omega) (by omega) (by omega)];exact u.on i hi
   ·rw [q N (by omega) (by omega) (by omega)];exact M
   ·rw [q d (by omega) (by omega) (by omega)];exact K)
 rw [l,W]at he;refine fO (g:=71) (by rw [ry,U];simp [bS]) he ?_;rw [←W];refine gW O (by decide) (ax ?_);have E:(eU.er N::bs.map .er)=(N::bs).map .er:=rfl;rw [E];refine hk _ (N::bs) ⟨⟨s,c.bf fun i hi=>by rw [sh (by omega)],Z.iff fun z A _=>by rw [w]⟩,⟨List.nodup_cons.2 ⟨fun hi=>by have:=(j N hi).2;omega,u.nd⟩,fun i hi=>?_⟩,fun i hi=>?_⟩ (by rw [sh (by omega)];exact K) (by rw [ajp];omega)
 ·rcases ajB.1 hi with rfl | hi
  ·rw [sh (by omega)];exact M
  ·have:=j i hi;rw [sh (by omega)];exact u.on i hi
 ·rw [ajp];rcases ajB.1 hi with rfl | hi
  ·omega
  ·have:=j i hi;omega
def PM(a b:aQ)(p:Pr)(x y:aN):Prop:=∃ e,0≤e∧dQ p.xs e∧dQ p.ys e∧x=fy a p e∧y=fA b p e
def ns(s:aQ)(x:aN):Prop:=∃ c ∈ s.cs,∃ d,0≤d∧dQ c.ts d∧x=dw s.len c.min d
theorem ZB{a b:aQ}(i:iL a)(k:iL b){fr:Int}(f0:-1000000000000≤fr)(f1:fr≤100000000000000){p:Pr}(I:oe a b p){e:Int}{f:Bool}(F:eX (fun e=>YJ a b fr p≤e∧dQ p.xs e∧dQ p.ys e) e f)(B:f=ae→e≤1000001000000){S:aN→aN→Prop}{s:FS}(n:js fr S s) :
  js fr (fun x y=>S x y∨PM a b p x y) (A3 a b fr p e f s):=by
 obtain⟨b_,c9⟩:=i.ok.len;obtain⟨c_,d9⟩:=k.ok.len;have r:=i.ok.min I.ca;have w:=k.ok.min I.db;have O:=I.lo;have N:=I.hi;unfold uN at O;unfold uB at N;have kb:-20≤p.k∧p.k≤20:=by omega
 have key:∀ l m,PM a b p l m→okB fr l m→∃ d,YJ a b fr p≤d∧0≤d∧dQ p.xs d∧dQ p.ys d∧l=fy a p d∧m=fA b p d:=by
  rintro l m ⟨d,z,J,K,rfl,rfl⟩ ⟨-,-,L⟩;refine⟨d,?_,z,J,K,rfl,rfl⟩;simp only [lV,fy,fA,dw]at L;unfold YJ RK;omega
 unfold A3;rcases F with⟨rfl,-,Q⟩ | ⟨rfl,⟨z,J,K⟩,j⟩
 ·simp only [Bool.false_eq_true,if_false];refine n.none fun l m M H=>?_;obtain⟨d,U,-,W,Z,-⟩:=key l m M H;exact Q d ⟨U,W,Z⟩
 ·simp only [if_true];have a_:0≤YJ a b fr p:=by unfold YJ;omega
  have B:=B rfl;refine n.step ⟨e,by omega,J,K,rfl,rfl⟩ fun l m M H=>?_;obtain⟨d,U,k0,W,Z,rfl,rfl⟩:=key l m M H;have a8:=j d ⟨U,W,Z⟩;obtain⟨-,-,L⟩:=H;obtain⟨u,g⟩:=aL (max 0 (-p.k));have o:0≤u∧u≤20:=by omega
  obtain⟨v,t⟩:=aL ((d-e)*1440);have A:0≤v∧(d≠e→0<v):=⟨by omega,fun h=>by omega⟩
  have c:(fy a p e).fr=(e+u)*1440+p.c.min∧(fy a p e).to=(e+u)*1440+p.c.min+a.len:=by unfold fy dw;rw [←g];exact⟨rfl,rfl⟩
  have ya:(fA b p e).fr=(e+u+p.k)*1440+p.d.min∧(fA b p e).to=(e+u+p.k)*1440+p.d.min+b.len:=by unfold fA dw;rw [←g];exact⟨rfl,rfl⟩
  have xb:(fy a p d).fr=(fy a p e).fr+v∧(fy a p d).to=(fy a p e).to+v:=by unfold fy dw;simp only;rw [←g];omega
  have yb:(fA b p d).fr=(fA b p e).fr+v∧(fA b p d).to=(fA b p e).to+v:=by unfold fA dw;simp only;rw [←g];omega
  have a7:fr<(fy a p e).to∧fr<(fA b p e).to:=by
   rw [c.2,ya.2];unfold YJ RK at z;rw [←g]at z;omega
  have E:(fy a p e).to≤2251799813685248∧(fA b p e).to≤2251799813685248:=by rw [c.2,ya.2];omega
  have q:d=e→fy a p d=fy a p e∧fA b p d=fA b p e:=fun h=>by subst h;exact⟨rfl,rfl⟩
  generalize fy a p e=X at *;generalize fA b p e=Y at *;generalize fy a p d=X' at *;generalize fA b p d=Y' at *;clear c ya z j;unfold lV at L;refine⟨⟨E.1,E.2,?_⟩,?_⟩
  ·unfold lV;omega
  ·by_cases F:d=e
   ·obtain⟨rfl,rfl⟩:=q F;unfold wS aN.lt;omega
   ·have:=A.2 F;unfold wS aN.lt lV;omega
theorem adE{a b:aQ}(K:iL a)(L:iL b){fr:Int}{ps:List Pr}(m:∀ p ∈ ps,oe a b p)(l:∀ c ∈ a.cs,∀ d ∈ b.cs,∀ k,uN a.len b.len c d≤k→k≤uB a.len b.len c d→∃ p ∈ ps,p.c=c∧p.d=d∧p.k=k)(x y:aN)(F:okB fr x y):(ns a x∧ns b y)↔∃ p ∈ ps,PM a b p x y:=by
 constructor
 ·rintro⟨⟨c,B,g,M,I,rfl⟩,⟨d,E,s,N,J,rfl⟩⟩;obtain⟨-,-,A⟩:=F;simp only [lV,dw]at A;obtain⟨p,q,rfl,rfl,H⟩:=l c B d E (s-g) (by unfold uN;omega) (by unfold uB;omega);have j:=m p q;refine⟨p,q,g-max 0 (-p.k),by omega,(j.xm _ (by omega)).2 (by rw [show g-max 0 (-p.k)+max 0 (-p.k)=g by omega];exact I),(j.ym _ (by omega)).2 (by rw [show g-max 0 (-p.k)+max 0 p.k=s by omega];exact J),?_,?_⟩
  ·unfold fy;rw [show g-max 0 (-p.k)+max 0 (-p.k)=g by omega]
  ·unfold fA;rw [show g-max 0 (-p.k)+max 0 (-p.k)+p.k=s by omega]
 ·rintro⟨p,q,e,u,v,z,rfl,rfl⟩;have j:=m p q;refine⟨⟨p.c,j.ca,e+max 0 (-p.k),by omega,(j.xm e u).1 v,rfl⟩,⟨p.d,j.db,e+max 0 (-p.k)+p.k,by omega,?_,rfl⟩⟩;have:=(j.ym e u).1 z;rw [show e+max 0 (-p.k)+p.k=e+max 0 p.k by omega];exact this
theorem iG(s:aQ)(x:aN):nD s x↔ns s x∨x ∈ s.xs:=by
 unfold nD Z8 ns afp QZ;constructor
 ·rintro(⟨c,j,d,⟨t,l,b,g⟩,rfl⟩ | h)
  ·exact .inl ⟨c,j,d,b,⟨t,l,(iu b).1 g⟩,rfl⟩
  ·exact .inr h
 ·rintro(⟨c,j,d,b,⟨t,l,g⟩,rfl⟩ | h)
  ·exact .inl ⟨c,j,d,⟨t,l,b,(iu b).2 g⟩,rfl⟩
  ·exact .inr h
theorem S9{fr:Int}{s:aQ}{x y:aN}(h:okB fr x y):ku s x y↔ns s y:=by
 obtain⟨-,-,b⟩:=h;unfold lV at b;exact⟨fun h=>h.1,fun h=>⟨h,by omega,by omega⟩⟩
theorem Iu{fr:Int}{s:aQ}{x y:aN}(h:okB fr x y):ku s y x↔ns s x:=by
 obtain⟨-,-,b⟩:=h;unfold lV at b;exact⟨fun h=>h.1,fun h=>⟨h,by omega,by omega⟩⟩
theorem rW{t:T}{n:Nat}{v:V}(A:n ∉ [3,4,5,6,7,9,10,12,13]):FT (t.s n v)↔FT t:=by
 simp only [ajB,List.not_mem_nil,or_false,not_or]at A;obtain⟨q,s,u,x,y,z,j,l,m⟩:=A;constructor
 ·rintro⟨a,b,c,d,e,f,g,h,i⟩;refine⟨?_,?_,?_,?_,?_,?_,?_,?_,?_⟩
  ·simpa [q]using a
  ·simpa [s]using b
  ·simpa [u]using c
  ·simpa [x]using d
  ·simpa [y]using e
  ·simpa [z]using f
  ·simpa [j]using g
  ·simpa [l]using h
  ·simpa [m]using i
 ·rintro⟨a,b,c,d,e,f,g,h,i⟩;refine⟨?_,?_,?_,?_,?_,?_,?_,?_,?_⟩
  ·simpa [q]using a
  ·simpa [s]using b
  ·simpa [u]using c
  ·simpa [x]using d
  ·simpa [y]using e
  ·simpa [z]using f
  ·simpa [j]using g
  ·simpa [l]using h
  ·simpa [m]using i
theorem BU{tab:TB}{fn i:Nat}{v:Option Nat}{k:List cD}{d:List eU}{Q:Option av→St→Prop}{a b c x:Nat}{body:av}{t:T}{H:an}(N:Nat)(I:Nat→T→List eU→an→Prop)(M:N≤9223372036854775807)(B:a≠b)(F:x≠b)
  (m:t.g a=vi 0) (q:t.g b=vi N) (K:I 0 t d H)
  (step:∀ j t d H,j<N→I j t d H→t.g a=vi j→t.g b=vi N →
   (∀ y g H',I (j+1) ((y.s x (vi (j+1:Nat))).s a (vi (j+1:Nat))) g H'→y.g a=vi j→y.g b=vi N →
    WP tab fn v (.code (qN a x)::.inLoop (ik i a b c x body)::.inBlock i::k) ⟨y,g,H'⟩ Q) →
   WP tab fn v (.code body::.code (qN a x)::.inLoop (ik i a b c x body)::.inBlock i::k) ⟨t.s c (vb ae),d,H⟩ Q)
  (done:∀ t d H,I N t d H→t.g a=vi N→t.g b=vi N→WP tab fn v k ⟨t.s c (vb ag),d,H⟩ Q) :
  WP tab fn v (.code (vS i a b c x body)::k) ⟨t,d,H⟩ Q:=by
 have u:∀ ops:List aO,ops.all (·.op.eC)=ae→v=ab∨ops.all (·.op.eC)=ae:=fun _ h=>.inr h;refine az ?_;refine bJ (fun n s=>∃ j t d H,s=⟨t,d,H⟩∧j≤N∧n=N-j∧I j t d H∧t.g a=vi j∧t.g b=vi N) N ⟨0,t,d,H,rfl,by omega,by omega,K,m,q⟩ ?_;rintro n s ⟨j,t,d,H,rfl,O,rfl,J,m,q⟩ L;apply aq;refine au (u _ rfl) ?_;simp [m,q];by_cases l:j<N
 ·rw [decide_eq_true l];apply aq;refine aw (by simp) ?_;refine aP ?_;apply aq;refine step j t d H l J m q fun y g H' z A E=>?_;refine au (u _ rfl) ?_;simp [A];rw [aM];refine L (N-(j+1)) _ (by omega) ⟨j+1,_,g,H',rfl,by omega,rfl,by simpa using z,by simp,?_⟩;simp [B,F,E]
 ·have:j=N:=by omega
  subst this;rw [decide_eq_false l];apply aq;refine aG (by simp) ?_;refine bw (k':=k) (by simp [Km.exitTo]) ?_;exact done t d H J m q
theorem Hj(a b:aQ)(ha:iL a)(hb:iL b)(fr:Int)(f0:-1000000000000≤fr)(f1:fr≤100000000000000) :
  ∃ s:FS,js fr (fun x y=>nD a x∧nD b y) s∧bR tab 10 [.a (a.row.map .f),.a (b.row.map .f),vi fr]=Eq (.t [.a (s.X.row.map .f),.a (s.Y.row.map .f),vb s.found]):=by
 obtain⟨r,⟨s,A,rfl⟩,h⟩:∃ r,(∃ s:FS,js fr (fun x y=>nD a x∧nD b y) s∧r=.t [.a (s.X.row.map .f),.a (s.Y.row.map .f),vb s.found])∧bR tab 10 [.a (a.row.map .f),.a (b.row.map .f),vi fr] r:=by
  refine pT ah8 rfl fun Q hQ=>?_;have n9:=(nk a ha.ok.sm).eq;rw [ha.ok.v]at n9;simp [aQ.row]at n9;have n_:=(nk b hb.ok.sm).eq;rw [hb.ok.v]at n_;simp [aQ.row]at n_;have u7:max fr (-2251799813685248)=fr:=by omega
  have x_:=ha.ok.xn;have a_:=hb.ok.xn;apply ai;simp [aQ.row];apply aq;apply ai;simp [n9,n_,show¬ 2251799813685248<fr by omega];refine a6 (by simp) ?_;apply ai;simp [u7];apply ai;simp;apply ai;simp;apply ai;simp;obtain⟨J0,i3⟩:=aL ([.box (mE a) 0,.box (mE b) 0,.box [.f (fi fr)] 0,.box [.f (fi 0),.f (fi 0),.f (fi 0)] 0,.box [.f (fi 0),.f (fi 0),.f (fi 0)] 0,.box [.f (fi 0),.f (fi 0),.f (fi 0)] 0,.box [.f (fi 0),.f (fi 0),.f (fi 0)] 0,.box [.f (fi 0)] 0,.box [.f (.bool ag)] 0,.box [mH] 0]:an);have n8:FQ a b fr ⟨0,ag,⟨0,0,0⟩,⟨0,0,0⟩⟩ J0:=by rw [i3];exact⟨rfl,rfl,rfl,rfl,rfl,⟨rfl,rfl,rfl,rfl,rfl⟩⟩
  have l0:J0.length=10:=by rw [i3];rfl
  unfold mE mH at i3;rw [←i3];have la:∀(J:an) (s:FS),FQ a b fr s J→aU J (aa 3) (.c (.ptr 0 0 0))=aa (.a [.f (sl a.cg (aX a.cs)),.f (fi a.len),.f (sl a.xg (aT a.xs))])∧aU J ab (.c (.ptr 0 2 0))=aa (.c (.f (sl a.xg (aT a.xs)))):=fun J s h=>by refine⟨?_,?_⟩<;>simp [aU,aC,h.h0,mE,aW]
  have lb:∀(J:an) (s:FS),FQ a b fr s J→aU J (aa 3) (.c (.ptr 1 0 0))=aa (.a [.f (sl b.cg (aX b.cs)),.f (fi b.len),.f (sl b.xg (aT b.xs))])∧aU J ab (.c (.ptr 1 2 0))=aa (.c (.f (sl b.xg (aT b.xs)))):=fun J s h=>by refine⟨?_,?_⟩<;>simp [aU,aC,h.h1,mE,aW]
  have oL:∀ H:an,bg H (.f (sl a.xg (aT a.xs)))=aa a.xs.length:=fun H=>by simp
  have k_:∀ H:an,bg H (.f (sl b.xg (aT b.xs)))=aa b.xs.length:=fun H=>by simp
  have t5:∀(t:T) (J:an) (bs:List Nat),FT t→FW a b fr (fun x y=>nD a x∧nD b y) bs J→WP tab 10 ab [.code vG] ⟨t,bs.map .er,J⟩ Q:=by
   rintro t J bs d ⟨⟨s,l,A⟩,e_,a8⟩;have l9:=aj l.h9;have lx:∀ J':an,J'[5]?=J[5]?→aU J' (aa 3) (.c (.ptr 5 0 0))=aa (.a [.f (fi s.X.day),.f (fi s.X.fr),.f (fi s.X.to)]):=fun J' h=>by simp [aU,aC,h,l.tk.h5,aW]
   have ly:∀ J':an,J'[6]?=J[6]?→aU J' (aa 3) (.c (.ptr 6 0 0))=aa (.a [.f (fi s.Y.day),.f (fi s.Y.fr),.f (fi s.Y.to)]):=fun J' h=>by simp [aU,aC,h,l.tk.h6,aW]
   have lf:∀ J':an,J'[8]?=J[8]?→aU J' ab (.c (.ptr 8 0 0))=aa (vb s.found):=fun J' h=>by simp [aU,aC,h,l.tk.h8]
   obtain⟨B,v⟩:=aL (J.set 3 (.box [.f (fi s.X.day),.f (fi s.X.fr),.f (fi s.X.to)] 0));have s1:di J (.ptr 3 0 0) [.f (fi s.X.day),.f (fi s.X.fr),.f (fi s.X.to)]=aa B:=by rw [v];simp [di,l.h3,over]
   have k1:∀ i:Nat,i≠3→B[i]?=J[i]?:=fun i hi=>by rw [v,sh (Ne.symm hi)]
   have n1:B.length=J.length:=by rw [v];simp
   obtain⟨X,i4⟩:=aL (B.set 4 (.box [.f (fi s.Y.day),.f (fi s.Y.fr),.f (fi s.Y.to)] 0));have s2:di B (.ptr 4 0 0) [.f (fi s.Y.day),.f (fi s.Y.fr),.f (fi s.Y.to)]=aa X:=by rw [i4];simp [di,k1 4 (by omega),l.h4,over]
   have k2:∀ i:Nat,i≠4→X[i]?=B[i]?:=fun i hi=>by rw [i4,sh (Ne.symm hi)]
   have n2:X.length=J.length:=by rw [i4];simp [n1]
   refine aq (eB (.inl rfl) ?_ ?_)
   case refine_2=>
    intro cc t9;have t8:cc=(1,4)∨cc=(2,4)∨cc=(2,6):=by simpa using t9
    rcases t8 with rfl | rfl | rfl
    ·refine⟨by decide,_,rfl,.inl ⟨by decide,?_⟩⟩;simp [d.g6,d.g7,d.g9,d.eo,d.g12,lx J rfl,ly J rfl,lf J rfl,ly B (k1 6 (by omega)),s1,-ay,-bu,fx,V.beq,C.beq,FC.beq]
    ·refine⟨by decide,_,rfl,.inl ⟨by decide,?_⟩⟩;simp [d.g6,d.g7,d.g9,d.eo,d.g12,lx J rfl,ly J rfl,lf J rfl,lf B (k1 8 (by omega)),s1,-ay,-bu,fx,V.beq,C.beq,FC.beq]
    ·refine⟨by decide,_,rfl,.inl ⟨by decide,?_⟩⟩;simp [d.g6,d.g7,d.g9,d.eo,d.g12,lx J rfl,ly J rfl,lf J rfl,lf X ((k2 8 (by omega)).trans (k1 8 (by omega))),s1,s2,-ay,-bu,fx,V.beq,C.beq,FC.beq]
   simp [d.g6,d.g7,d.g9,d.eo,d.g12,lx J rfl,ly J rfl,lf J rfl,s1,s2,-ay,-bu];have v_:(3:Nat) ∉ bs:=fun h=>by have:=(a8 3 h).1;omega
   have w_:(4:Nat) ∉ bs:=fun h=>by have:=(a8 4 h).1;omega
   have e3:(oX bs X)[3]?=aa (.box [.f (fi s.X.day),.f (fi s.X.fr),.f (fi s.X.to)] 0):=by rw [kd v_,k2 3 (by omega),v];exact If (by omega)
   have e4:(oX bs X)[4]?=aa (.box [.f (fi s.Y.day),.f (fi s.Y.fr),.f (fi s.Y.to)] 0):=by rw [kd w_,i4];exact If (by omega)
   refine aF (hQ _ _ _ ⟨s,A,rfl⟩ ⟨bs,rfl,⟨e_.nd,fun z hz=>?_⟩,.t [.a (s.X.row.map .f),.a (s.Y.row.map .f),vb s.found],?_,by simp [mR,dI,aZ,deep,et,aN.row]⟩)
   ·have:=(a8 z hz).1;show X[z]?=_;rw [k2 z (by omega),k1 z (by omega)];exact e_.on z hz
   ·simp [Km.results,cC,aZ,d.g6,d.g7,aU,aC,e3,e4,aW,aN.row]
  have o6:∀(t:T) (J:an) (bs:List Nat),FT t→FW a b fr (fun x y=>(ns a x∧ns b y)∨(x ∈ a.xs∧(ku b x y∨y ∈ b.xs))) bs J→WP tab 10 ab [.code vE] ⟨t,bs.map .er,J⟩ Q:=by
   intro t J bs d K;apply aq;have m9:=K;obtain⟨⟨s,l,-⟩,-⟩:=m9;apply ai;simp [d.g4,(lb J s l).2,k_,-ay];refine BU b.xs.length (fun i t ds J=>FT t∧t.g 157=.c (.f (sl b.xg (aT b.xs)))∧∃ bs,ds=bs.map .er∧FW a b fr (fun x y=>((ns a x∧ns b y)∨(x ∈ a.xs∧(ku b x y∨y ∈ b.xs)))∨(y ∈ b.xs.take i∧ku a y x)) bs J) (by omega) (by decide) (by decide) (by simp) (by simp)
    ⟨by simp [rW,d],by simp,bs,rfl,by
     obtain⟨⟨s,l,A⟩,S⟩:=K;exact⟨⟨s,l,A.iff fun x y _=>by simp⟩,S⟩⟩ ?_ ?_
   ·clear d K l s;rintro i t ds J hi ⟨d,N,bs,rfl,K⟩ S m_ next
    have f_:=fun H:an=>bH (H:=H) (g:=b.xg) (rows:=aT b.xs) (sz:=3) (k:=.i64) (i:=(i:Int)) (by omega) (by simp;omega);have W:=fun H:an=>dr (H:=H) (dq b.xs) (fN hi);simp only [ajA]at f_;have a_:=hb.ex _ (IT hi);have f8:b.xs.take (i+1)=b.xs.take i++[b.xs[i]]:=by rw [aju,By hi];rfl
    obtain⟨x,hx⟩:=aL (b.xs[i]);rw [←hx]at W a_ f8;simp only [aN.row,ajd,ajt]at W;obtain⟨g_,j9⟩:=aL (J.length);obtain⟨B,v⟩:=aL (J++[bZ.box [.f (fi x.day),.f (fi x.fr),.f (fi x.to)] 0]);have O:=K.push [bZ.box [.f (fi x.day),.f (fi x.fr),.f (fi x.to)] 0];rw [←v]at O;have l_:B[g_]?=aa (.box [.f (fi x.day),.f (fi x.fr),.f (fi x.to)] 0):=by rw [v,j9];simp
    have v9:10≤g_:=by
     obtain⟨⟨s,l,-⟩,-⟩:=K;have:=aj l.h9;omega
    refine az ?_;apply ai;simp [S,N,f_,W,-ay];rw [←v,←j9];have f7:=rR a x;simp only [aQ.row,aN.row,ajd,ajt]at f7;have d9:=O;obtain⟨⟨s1,i_,-⟩,-⟩:=d9;have x8:aU B (aa 3) (.c (.ptr g_ 0 0))=aa (.a [.f (fi x.day),.f (fi x.fr),.f (fi x.to)]):=by simp [aU,aC,l_,aW]
    apply aq;refine au (.inl rfl) ?_;simp [d.g3,(la B s1 i_).1,x8,-ay,f7];refine az ?_
    suffices go:∀ u:T,FT u→u.g 25=.c (.ptr g_ 0 0)→u.g 165=.c (.f (.fn 71 [.fp a.row 0,.fp x.row 0]))→u.g 157=.c (.f (sl b.xg (aT b.xs)))→u.g 158=vi b.xs.length→u.g 159=vi i→WP tab 10 ab [.code vF,.inBlock 10,.inBlock 9,.code (qN 159 171),.inLoop (ik 8 159 158 160 171 Bk),.inBlock 8,.code vG] ⟨u,bs.map .er,B⟩ Q by
     exact go _ (by simp [rW,d]) (by simp) (by simp [aQ.row,aN.row]) (by simp [N]) (by simp [m_]) (by simp [S])
    intro u a7 t6 p8 N o9 o_;refine adJ ha hb (by omega) (by omega) a_.2.2 O a7 t6 p8 l_ v9 fun X h_ d_ l_ u6=>?_;refine ax (next _ _ _ ⟨by simp [rW,a7],by simp [N],h_,rfl,?_⟩ (by simp [o_]) (by simp [o9]));obtain⟨⟨s,l,A⟩,S⟩:=d_;refine⟨⟨s,l,A.iff fun x' y' _=>?_⟩,S⟩;rw [f8,aja,ai9];constructor
    ·rintro(h | ⟨h | rfl,E⟩)
     ·exact .inl (.inl h)
     ·exact .inl (.inr ⟨h,E⟩)
     ·exact .inr ⟨rfl,E⟩
    ·rintro((h | ⟨h,E⟩) | ⟨rfl,E⟩)
     ·exact .inl h
     ·exact .inr ⟨.inl h,E⟩
     ·exact .inr ⟨.inr rfl,E⟩
   ·rintro t ds J ⟨d,N,bs,rfl,K⟩ - -;rw [ajr]at K;obtain⟨⟨s,l,A⟩,S⟩:=K;refine t5 _ J bs (by simp [rW,d]) ⟨⟨s,l,A.iff fun x y hk=>?_⟩,S⟩;rw [iG,iG,S9 hk,Iu hk];constructor
    ·rintro⟨Z | Z,U | U⟩
     ·exact .inl (.inl ⟨Z,U⟩)
     ·exact .inr ⟨U,Z⟩
     ·exact .inl (.inr ⟨Z,.inl U⟩)
     ·exact .inl (.inr ⟨Z,.inr U⟩)
    ·rintro((⟨Z,U⟩ | ⟨Z,U | U⟩) | ⟨Z,U⟩)
     ·exact⟨.inl Z,.inl U⟩
     ·exact⟨.inr Z,.inl U⟩
     ·exact⟨.inr Z,.inr U⟩
     ·exact⟨.inl U,.inr Z⟩
  have o5:∀(t:T) (J:an) (bs:List Nat),FT t→FW a b fr (fun x y=>ns a x∧ns b y) bs J→WP tab 10 ab [.code vC] ⟨t,bs.map .er,J⟩ Q:=by
   intro t J bs d K;apply aq;have m9:=K;obtain⟨⟨s,l,-⟩,-⟩:=m9;apply ai;simp [d.g3,(la J s l).2,oL,-ay];refine BU a.xs.length (fun i t ds J=>FT t∧t.g 129=.c (.f (sl a.xg (aT a.xs)))∧∃ bs,ds=bs.map .er∧FW a b fr (fun x y=>(ns a x∧ns b y)∨(x ∈ a.xs.take i∧(ku b x y∨y ∈ b.xs))) bs J) (by omega) (by decide) (by decide) (by simp) (by simp)
    ⟨by simp [rW,d],by simp,bs,rfl,by
     obtain⟨⟨s,l,A⟩,S⟩:=K;exact⟨⟨s,l,A.iff fun x y _=>by simp⟩,S⟩⟩ ?_ ?_
   ·clear d K l s;rintro i t ds J hi ⟨d,m,bs,rfl,K⟩ S m_ next
    have f_:=fun H:an=>bH (H:=H) (g:=a.xg) (rows:=aT a.xs) (sz:=3) (k:=.i64) (i:=(i:Int)) (by omega) (by simp;omega);have W:=fun H:an=>dr (H:=H) (dq a.xs) (fN hi);simp only [ajA]at f_;have a_:=ha.ex _ (IT hi);have f8:a.xs.take (i+1)=a.xs.take i++[a.xs[i]]:=by rw [aju,By hi];rfl
    obtain⟨x,hx⟩:=aL (a.xs[i]);rw [←hx]at W a_ f8;simp only [aN.row,ajd,ajt]at W;obtain⟨F,j7⟩:=aL (J.length);obtain⟨B,v⟩:=aL (J++[bZ.box [.f (fi x.day),.f (fi x.fr),.f (fi x.to)] 0]);have O:=K.push [bZ.box [.f (fi x.day),.f (fi x.fr),.f (fi x.to)] 0];rw [←v]at O;have I:B[F]?=aa (.box [.f (fi x.day),.f (fi x.fr),.f (fi x.to)] 0):=by rw [v,j7];simp
    have v8:10≤F:=by
     obtain⟨⟨s,l,-⟩,-⟩:=K;have:=aj l.h9;omega
    refine az ?_;apply ai;simp [S,m,f_,W,-ay];rw [←v,←j7];have f7:=rR b x;simp only [aQ.row,aN.row,ajd,ajt]at f7;have d9:=O;obtain⟨⟨s1,i_,-⟩,-⟩:=d9;have j4:aU B (aa 3) (.c (.ptr F 0 0))=aa (.a [.f (fi x.day),.f (fi x.fr),.f (fi x.to)]):=by simp [aU,aC,I,aW]
    apply aq;apply aq;refine au (.inl rfl) ?_;simp [d.g4,(lb B s1 i_).1,j4,-ay,f7];refine az ?_
    suffices go:∀ u:T,FT u→u.g 20=.c (.ptr F 0 0)→u.g 137=.c (.f (.fn 71 [.fp b.row 0,.fp x.row 0]))→u.g 129=.c (.f (sl a.xg (aT a.xs)))→u.g 130=vi a.xs.length→u.g 131=vi i→WP tab 10 ab [.code vD,.inBlock 4,.code Bj,.inBlock 3,.code (qN 131 155),.inLoop (ik 2 131 130 132 155 Bi),.inBlock 2,.code vE] ⟨u,bs.map .er,B⟩ Q by
     exact go _ (by simp [rW,d]) (by simp) (by simp [aQ.row,aN.row]) (by simp [m]) (by simp [m_]) (by simp [S])
    intro u a7 Y o8 m L M;refine adI ha hb (by omega) (by omega) a_.2.2 O a7 Y o8 I v8 fun X h_ d_ I u6=>?_;have p9:=d_;obtain⟨⟨s2,j3,-⟩,-⟩:=p9;apply ai;simp [a7.g4,(lb X s2 j3).2,k_,-ay];refine bU b.xs.length (fun j t J=>FT t∧t.g 20=.c (.ptr F 0 0)∧t.g 129=.c (.f (sl a.xg (aT a.xs)))∧t.g 130=vi a.xs.length∧t.g 131=vi i∧t.g 144=.c (.f (sl b.xg (aT b.xs)))∧J[F]?=aa (.box [.f (fi x.day),.f (fi x.fr),.f (fi x.to)] 0)∧FW a b fr (fun x' y'=>((ns a x'∧ns b y')∨(x' ∈ a.xs.take i∧(ku b x' y'∨y' ∈ b.xs)))∨(x'=x∧(ku b x y'∨y' ∈ b.xs.take j))) h_ J) (by omega) (by decide) (by decide) (by simp) (by simp)
     ⟨by simp [rW,a7],by simp [Y],by simp [m],by simp [L],by simp [M],by simp,I,by
      obtain⟨⟨s,l,A⟩,S⟩:=d_;exact⟨⟨s,l,A.iff fun x' y' _=>by simp⟩,S⟩⟩ ?_ ?_
    ·clear I d_ j3 s2 O i_ s1 j4;rintro j t' J3 hj ⟨i7,Y,m,L,M,c9,I,i8⟩ r8 r7 o4;have s_:=fun H:an=>bH (H:=H) (g:=b.xg) (rows:=aT b.xs) (sz:=3) (k:=.i64) (i:=(j:Int)) (by omega) (by simp;omega);have o0:=fun H:an=>dr (H:=H) (dq b.xs) (fN hj);simp only [ajA]at s_;have j_:b.xs.take (j+1)=b.xs.take j++[b.xs[j]]:=by rw [aju,By hj];rfl
     obtain⟨y,hy⟩:=aL (b.xs[j]);rw [←hy]at o0 j_;simp only [aN.row,ajd,ajt]at o0;obtain⟨o7,j8⟩:=aL (J3.length);obtain⟨J4,i6⟩:=aL (J3++[bZ.box [.f (fi y.day),.f (fi y.fr),.f (fi y.to)] 0]);have p_:=i8.push [bZ.box [.f (fi y.day),.f (fi y.fr),.f (fi y.to)] 0];rw [←i6]at p_;have t4:J4[o7]?=aa (.box [.f (fi y.day),.f (fi y.fr),.f (fi y.to)] 0):=by rw [i6,j8];simp
     have b_:J4[F]?=aa (.box [.f (fi x.day),.f (fi x.fr),.f (fi x.to)] 0):=by rw [i6,AT (aj I)];exact I
     obtain⟨⟨s,l,A⟩,e_,a8⟩:=p_;have j4:aU J4 (aa 3) (.c (.ptr F 0 0))=aa (.a [.f (fi x.day),.f (fi x.fr),.f (fi x.to)]):=by simp [aU,aC,b_,aW]
     have x6:aU J4 (aa 3) (.c (.ptr o7 0 0))=aa (.a [.f (fi y.day),.f (fi y.fr),.f (fi y.to)]):=by simp [aU,aC,t4,aW]
     have f9:aU J4 ab (.c (.ptr 9 0 0))=aa (.c mH):=by simp [aU,aC,l.h9]
     obtain⟨J5,i9,v6,x9,r9⟩:=pk l x y;simp only [aN.row,ajd,ajt]at i9;refine az ?_;apply ai;simp [r8,c9,s_,o0,-ay];rw [←i6,←j8];refine au (.inl rfl) ?_;simp [i7.g13,Y,f9,j4,x6,-ay,mH,i9.eq];refine ax (o4 _ _ ⟨by simp [rW,i7],by simp [Y],by simp [m],by simp [L],by simp [M],by simp [c9],by rw [r9 F (by omega) (aj b_)];exact b_,⟨⟨_,v6,(A.one x y).iff fun x' y' _=>?_⟩,⟨e_.nd,fun z hz=>?_⟩,fun z hz=>?_⟩⟩ (by simp [r8]) (by simp [r7]))
     ·rw [j_,aja,ai9];constructor
      ·rintro(h | ⟨rfl,h | h | rfl⟩)
       ·exact .inl (.inl h)
       ·exact .inl (.inr ⟨rfl,.inl h⟩)
       ·exact .inl (.inr ⟨rfl,.inr h⟩)
       ·exact .inr ⟨rfl,rfl⟩
      ·rintro((h | ⟨rfl,h | h⟩) | ⟨rfl,rfl⟩)
       ·exact .inl h
       ·exact .inr ⟨rfl,.inl h⟩
       ·exact .inr ⟨rfl,.inr (.inl h)⟩
       ·exact .inr ⟨rfl,.inr (.inr rfl)⟩
     ·have:=a8 z hz;rw [r9 z (by omega) this.2];exact e_.on z hz
     ·have:=a8 z hz;exact⟨this.1,by omega⟩
    ·rintro t' J3 ⟨i7,Y,m,L,M,c9,I,i8⟩ - -;rw [ajr]at i8;refine ax (next _ _ _ ⟨by simp [rW,i7],by simp [m],h_,rfl,?_⟩ (by simp [M]) (by simp [L]));obtain⟨⟨s,l,A⟩,S⟩:=i8;refine⟨⟨s,l,A.iff fun x' y' _=>?_⟩,S⟩;rw [f8,aja,ai9];constructor
     ·rintro(h | ⟨h | rfl,E⟩)
      ·exact .inl (.inl h)
      ·exact .inl (.inr ⟨h,E⟩)
      ·exact .inr ⟨rfl,E⟩
     ·rintro((h | ⟨h,E⟩) | ⟨rfl,E⟩)
      ·exact .inl h
      ·exact .inr ⟨.inl h,E⟩
      ·exact .inr ⟨.inr rfl,E⟩
   ·rintro t ds J ⟨d,m,bs,rfl,K⟩ - -;rw [ajr]at K;exact o6 _ J bs (by simp [rW,d]) K
  suffices start:∀ t:T,FT t→WP tab 10 ab [.code Bg] ⟨t,[],J0⟩ Q by exact start _ ⟨by simp,by simp,by simp,by simp,by simp,by simp,by simp,by simp,by simp⟩
  intro t d;have s7:=uo a b;simp only [aQ.row,ajd,ajt]at s7;apply aq;apply ai;simp [d.g3,d.g4,(la J0 _ n8).1,(lb J0 _ n8).1,-ay,s7];refine az ?_
  suffices go:∀ u:T,FT u→u.g 46=.c (.f (.fn 66 [.fp a.row 0,.fp b.row 0]))→WP tab 10 ab [.code Bh,.inBlock 0,.code vC] ⟨u,[],J0⟩ Q by exact go _ (by simp [rW,d]) (by simp [aQ.row])
  clear d t;intro u d t7;obtain⟨HR,c_⟩:=aL (J0++[.fg ae,.lp 10 u [P.nat 47] fU fV .ready ab 10]:an);have lR:HR.length=12:=by rw [c_,ai7,l0];rfl
  have kR:∀ i:Nat,i<10→HR[i]?=J0[i]?:=fun i hi=>by rw [c_,AT (by omega)]
  have rd:HR[10]?=aa (.fg ae):=by rw [c_,aje (by omega),l0];rfl
  have rl:HR[11]?=aa (.lp 10 u [P.nat 47] fU fV .ready ab 10):=by rw [c_,aje (by omega),l0];rfl
  obtain⟨H2,he,ps,⟨s,l,A,e1,e2,e3⟩,u9,q_⟩:=Hl (bb:=11) (H:=HR) a b ha hb
   (fun ps J'=>∃ s,FQ a b fr s J'∧js fr (fun x y=>∃ p ∈ ps,PM a b p x y) s∧J'[10]?=aa (.fg ae)∧J'[11]?=aa (.lp 10 u [P.nat 47] fU fV .ready ab 10)∧12≤J'.length)
   ⟨_,n8.bf kR,.inl ⟨rfl,rfl,rfl,fun x y ⟨p,hp,_⟩=>by simp at hp⟩,rd,rl,by omega⟩
   (fun ps B X ⟨s,l,A,e1,e2,e3⟩ n6 hl=>⟨s,l.bf fun i hi=>n6 i (by omega),A,by rw [n6 10 (by omega)];exact e1,by rw [n6 11 (by omega)];exact e2,by omega⟩)
   (fun ps p B ⟨s,l,A,e1,e2,e3⟩ hl hp=>by
    obtain⟨e,f,r_,u5,r,X,i9,rfl,j3,k1,k2,k3,k4⟩:=AG a b ha hb f0 f1 d hp l e1 e2;refine⟨X,i9,⟨_,j3,(ZB ha hb f0 f1 hp r_ u5 A).iff fun x y _=>?_,k1,k2,by omega⟩,k3,fun i Z U=>k4 i (by omega) U⟩;constructor
    ·rintro⟨q,u_,h⟩;rcases aja.1 u_ with E | E
     ·exact .inl ⟨q,E,h⟩
     ·rw [ai9]at E;rw [E]at h;exact .inr h
    ·rintro(⟨q,E,h⟩ | h)
     ·exact⟨q,List.mem_append_left _ E,h⟩
     ·exact⟨p,by simp,h⟩)
  rw [c_]at he;have t_:Ev tab (.fn 66) [.c (.yl (J0.length+1)),.c (.f (.fp a.row 0)),.c (.f (.fp b.row 0))] (J0++[.fg ae,.lp 10 u [P.nat 47] fU fV .ready ab J0.length]) (.t []) H2:=by rw [l0];exact he
  refine fO (g:=66) (by rw [ry,t7];simp [bS]) t_ ?_;rw [l0];refine gW e2 (by decide) (ax ?_);refine o5 u _ [10] d ⟨⟨s,l.bf fun i hi=>by rw [sh (by omega)],A.iff fun x y hk=>adE ha hb u9 q_ x y hk⟩,⟨by simp,fun i hi=>?_⟩,fun i hi=>?_⟩
  ·rw [ai9]at hi;rw [hi,sh (by omega)];exact e1
  ·rw [ai9]at hi;rw [hi,ajp];omega
 exact⟨s,A,h.eq⟩
theorem zM.f{s:aQ}(h:zM s):iL s:=⟨h.ok,fun c hc=>by
 obtain⟨tg,ts,⟨h1,h2⟩,e⟩:=h.few c hc;have h3:=BB fun fs b=>(h1.2 fs b).1;rw [e];refine⟨by show(ts.map _).length≤2;rw [List.length_map];omega,fun t j=>?_⟩;obtain⟨fs,b,rfl⟩:=List.mem_map.1 (show t ∈ ts.map (fun fs=>(⟨.fs,fs⟩:cz)) from j);obtain⟨m,q,g⟩:=h1.2 fs b;have:=yq b;exact⟨m,show fs.length≤2 by omega,fun p d=>⟨(g p d).1,by have:=(g p d).2.1;omega,(g p d).2.2⟩⟩,fun x l=>by have:=h.ex x l;omega⟩
theorem y0{fr:Int}{x y:aN}:okB fr x y↔okB fr y x:=by unfold okB lV;omega
theorem Zb{n:Int}(d:1≤n)(g:n≤12):n ∣ 27720:=by
 have b:n=1∨n=2∨n=3∨n=4∨n=5∨n=6∨n=7∨n=8∨n=9∨n=10∨n=11∨n=12:=by omega
 rcases b with e | e | e | e | e | e | e | e | e | e | e | e<;>rw [e]<;>decide
theorem xS{ts:List cz}(l:qJ ts){d d':Int}(u:50≤d)(v:50≤d')(s:27720 ∣ d'-d)(h:dQ ts d):dQ ts d':=by
 obtain⟨t,q,b⟩:=h;refine⟨t,q,fun p m=>?_⟩;have j:=(l.2 t q).2.2 p m;have g:=(aV j.ok).2.2.1;have:=j.fr;rw [sC g (show p.fr≤d by omega) (by omega) (Int.dvd_trans (Zb g j.aJ) s)];exact b p m
theorem rT{a b:aQ}(l:zM a)(q:zM b){fr:Int}(Q:57600000≤fr)(S:fr≤10000000000000):nu a b↔∀ x y,nD a x→nD b y→¬ okB fr x y:=by
 have la:=l.ok.len;have Y:=q.ok.len;constructor
 ·intro h x y A B H;have s:x.fr<y.to∧y.fr<x.to∧fr<x.to∧fr<y.to:=by unfold okB lV at H;omega
  rcases(iG a x).1 A with A | A
  ·rcases(iG b y).1 B with B | B
   ·obtain⟨c,u,g,U,E,rfl⟩:=A;obtain⟨d,v,j,I,J,rfl⟩:=B;have M:g*1440+c.min<j*1440+d.min+b.len∧j*1440+d.min<g*1440+c.min+a.len∧fr<g*1440+c.min+a.len∧fr<j*1440+d.min+b.len:=s;have N:=l.lo c u;have O:=q.lo d v;refine h c u d v (j-g) (by unfold uN;omega) (by unfold uB;omega) ⟨g-max 0 (-(j-g)),by omega,?_,?_⟩
    ·rw [show g-max 0 (-(j-g))+max 0 (-(j-g))=g by omega];exact E
    ·rw [show g-max 0 (-(j-g))+max 0 (j-g)=j by omega];exact J
   ·have:=q.ex y B;omega
  ·have:=l.ex x A;omega
 ·rintro h c s d F k E I ⟨x,J,K,L⟩;have N:=l.lo c s;have O:=q.lo d F;unfold uN at E;unfold uB at I;obtain⟨m,W⟩:=aL ((fr / 1440+100-x) / 27720+1:Int);obtain⟨z,X⟩:=aL (x+27720*m:Int);have Z:fr / 1440+100≤z∧z≤fr / 1440+100+27720:=by omega
  refine h (dw a.len c.min (z+max 0 (-k))) (dw b.len d.min (z+max 0 k)) ((iG _ _).2 (.inl ⟨c,s,_,by omega,xS (l.f.few c s) (by omega) (by omega) (by omega) K,rfl⟩)) ((iG _ _).2 (.inl ⟨d,F,_,by omega,xS (q.f.few d F) (by omega) (by omega) (by omega) L,rfl⟩)) ?_;unfold okB lV dw;dsimp only;omega
theorem tC(adS:bR tab 7 [] (vb ae))(x y:og)(O:x.OK)(S:y.OK)(n:Nat)(hn:n<4294967296) :
  bR tab 5 [.a (x.row.map .f),.a (y.row.map .f),.c (.f (.int .u32 (n:Int)))] (vb ae):=by
 have u:=adS.eq;obtain⟨a,z,E⟩:=uQ x O;obtain⟨b,A,F⟩:=uQ y S;obtain⟨fr,J⟩:=aL ((40000+(n:Int))*1440:Int);have X:IntKind.i64.wrap (n:Int)=n:=aM;have Y:=aM (n:=40000+(n:Int));have Z:IntKind.i64.wrap ((40000+(n:Int))*1440)=fr:=by rw [J];exact aM
 obtain⟨H,l,m⟩:=rL a b z.f A.f;obtain⟨g,q,j⟩:=rL b a A.f z.f;have L:g=H:=by
  rw [Bool.eq_iff_iff,l,q,rT z A (fr:=fr) (by omega) (by omega),rT A z (fr:=fr) (by omega) (by omega)];exact⟨fun h x y v B I=>h y x B v (y0.1 I),fun h x y v B I=>h y x B v (y0.1 I)⟩
 subst L;obtain⟨s,N,d⟩:=Hj a b z.f A.f fr (by omega) (by omega);have K:s.found = !g:=by
  have h:=l.trans (rT z A (fr:=fr) (by omega) (by omega));rcases N with⟨f,-,-,k⟩ | ⟨f,v,B,-⟩
  ·rw [f,h.2 fun x y U W=>k x y ⟨U,W⟩];rfl
  ·cases g with
   | false=>rw [f];rfl| true=>exact absurd B (h.1 rfl _ _ v.1 v.2)
 simp only [og.row,aQ.row,aN.row,ajd,ajt]at E F d m j ⊢;rw [K]at d;refine bY rfl rfl fun Q M=>?_;apply ai;simp;apply ai;simp [u];apply ai;simp [E];apply ai;simp [F];apply ai;simp [m];apply ai;simp [X,Y,Z];apply ai;simp [d];apply ai;simp [j];refine aq (ai ?_);cases g <;>
 ·simp [BF,Hm];refine a6 (by simp) ?_;apply ai;simp [BF,Hm];refine aF (M _ _ ?_);simp
theorem Bw{x:List FC}(h:∃ m,x=[FC.int .u8 m]∧Lit.wf (.int .u8 m)):∃ m:Nat,x=[u8 m]∧m<256:=by
 obtain⟨m,rfl,b⟩:=h;simp [Lit.wf,IntKind.min,IntKind.max,IntKind.signed,IntKind.bits]at b;refine⟨m.toNat,?_,by omega⟩;have:((m.toNat:Nat):Int)=m:=alb b.1;simp [this]
theorem Z0{x:List FC}(h:∃ m,x=[FC.int .u16 m]∧Lit.wf (.int .u16 m)):∃ m:Nat,x=[FC.int .u16 (m:Int)]∧m<65536:=by
 obtain⟨m,rfl,b⟩:=h;simp [Lit.wf,IntKind.min,IntKind.max,IntKind.signed,IntKind.bits]at b;refine⟨m.toNat,?_,by omega⟩;have:((m.toNat:Nat):Int)=m:=alb b.1;simp [this]
theorem Am{n:Nat}(h:n≤maxLen):n≤9223372036854775807:=Nat.le_trans h (by decide)
theorem xY{n:Nat}{ys:List FC}(h:pI Tryz.prog (n+2) 23 ys):∃ g l,ys=[sl g (dA l)]∧l.length≤9223372036854775807∧∀ m ∈ l,m<256:=by
 obtain⟨g,rows,rfl,_,d,j⟩:=pW Tryz.underlying23 h;obtain⟨l,rfl,q⟩:=qZ (enc:=fun n:Nat=>[u8 n]) (p:=fun n=>n<256) fun r b=>Bw (rf Tryz.underlying5 (j r b));exact⟨g,l,rfl,Am (by simpa using d),q⟩
theorem SZ{n:Nat}{ys:List FC}(h:pI Tryz.prog (n+6) 26 ys):∃ x:og,ys=x.row∧x.OK:=by
 obtain⟨_,S,rfl,d,F⟩:=ph (AV (ts:=[22,23,5,24]) Tryz.underlying26 rfl h);obtain⟨q,rows,rfl,_,s,E⟩:=pW Tryz.underlying22 d;obtain⟨u,rfl,A⟩:=qZ (enc:=fun b:TH=>[sl b.1 (dA b.2)]) (p:=aa') fun r j=>by
  obtain⟨g,l,rfl,a,b⟩:=xY (E r j);exact⟨(g,l),rfl,a,b⟩
 obtain⟨_,U,rfl,d,H⟩:=ph F;obtain⟨M,N,rfl,ml,L⟩:=xY d;obtain⟨_,W,rfl,d,I⟩:=ph H;obtain⟨le,rfl,K⟩:=Bw (rf Tryz.underlying5 d);obtain⟨_,O,rfl,d,J⟩:=ph I;obtain⟨v,Q,rfl,_,y,m⟩:=pW Tryz.underlying24 d;obtain⟨z,rfl,B⟩:=qZ (enc:=fun n:Nat=>[FC.int .u16 (n:Int)]) (p:=fun n=>n<65536) fun r j=>Z0 (rf Tryz.underlying27 (m r j));obtain rfl:O=[]:=J;exact⟨⟨q,u,M,N,le,v,z⟩,rfl,Am (by simpa using s),A,ml,L,K,Am (by simpa using y),B⟩
theorem Cd{a:V}(h:rh Tryz.prog 26 a):∃ x:og,a=.a (x.row.map .f)∧x.OK:=by
 rcases h with⟨xs,rfl,b,_⟩ | ⟨x,rfl,b⟩
 ·obtain⟨x,rfl,d⟩:=SZ (n:=34) b;exact⟨x,rfl,d⟩
 ·exfalso;obtain⟨x,e,_⟩:=SZ (n:=34) b;simp [og.row]at e
theorem ZZ{a:V}(h:rh Tryz.prog 55 a):∃ n:Nat,a=.c (.f (.int .u32 (n:Int)))∧n<4294967296:=by
 rcases h with⟨xs,_,_,d,g,b⟩ | ⟨z,rfl,l⟩
 ·rw [Tryz.underlying55]at g;cases g;rcases b with⟨_,e⟩ | ⟨_,_,e⟩<;>cases e
 ·obtain⟨m,e,j⟩:=rf Tryz.underlying55 l;cases e;simp [Lit.wf,IntKind.min,IntKind.max,IntKind.signed,IntKind.bits]at j;refine⟨m.toNat,?_,by omega⟩;have:((m.toNat:Nat):Int)=m:=alb j.1;simp [this]
theorem qL(b:List V)(h:qQ Tryz.prog [26,26,55] b):bR tab 5 b (vb ae):=by
 obtain⟨s,_,rfl,d,a1,_,rfl,g,u,_,rfl,j,rfl⟩:=h;obtain⟨x,rfl,m⟩:=Cd d;obtain⟨y,rfl,q⟩:=Cd g;obtain⟨n,rfl,l⟩:=ZZ j;exact tC adS x y m q n l
end Go.Proofs.YthkmdpgdicohdaaGreat
