/-
  Our own small machine for Go code by value, held against the model: part 2. No program in sight.
-/
import Derived.Test.YtmbjejcfadllnaaGreatK1
import Derived.AtR
import Derived.RangeFuncIn
import Derived.RangeFuncRecord
import Derived.Conc.MuLone
open Nat renaming le_max_left → bS, le_trans → a7, le_max_right → bA, mul_le_mul_right → ce, le_refl → aq, add_mul → bN, lt_or_ge → bR, lt_irrefl → db, mul_eq_zero → dc, zero_add → cg, lt_of_lt_of_le → cj, lt_trichotomy → cD
open Option.some renaming injEq → aa
open Prod.mk renaming injEq → an
open List renaming getElem?_map → b8, length_map → bL, getElem?_toArray → cT, getElem?_cons_zero → ch, getElem?_cons_succ → df, length_append → aL, getElem?_eq_some_iff → ab, getElem?_set_ne → al, getElem?_append_left → ae, length_drop → cf, eq_nil_of_length_eq_zero → av, drop_zero → cG, getElem?_set → cU, getElem?_eq_getElem → ai, foldl_cons → cm, mem_cons → cF, getElem_mem → az, getElem?_drop → aM, getElem?_of_mem → cd, drop_eq_nil_iff → dk, drop_eq_getElem_cons → bp, mem_flatMap → cY, mem_append → bX, mem_map → ci, getElem?_take → bE, getElem?_eq_none → cV, getD_eq_getElem?_getD → bu, all_eq_true → aR
open Option renaming map_eq_some_iff → am, map_some → bz, bind_some → bh, bind_eq_some_iff → ba
open Bool renaming and_eq_true → ag, false_eq_true → aw
open Int renaming toNat_natCast → bB
set_option linter.unusedVariables false
set_option linter.unusedSimpArgs false
set_option linter.unusedSectionVars false
set_option maxRecDepth 100000
namespace Km
open Go
section
variable{Q:Program}{σ:Nat→FuncId}{X:Wd}
theorem Dp(n:Nat):∀(r c:Nat),Builtin.growBy n r c≤Nat.max c (n+(n+768) / 4)
 | 0,c=>by simp [Builtin.growBy];exact bS _ _
 | r+1,c=>by
  simp only [Builtin.growBy];split
  ·exact bS _ _
  ·rename_i h;refine a7 (Dp n r _) ?_;apply Nat.max_le.2;exact⟨a7 (by omega) (bA _ _),bA _ _⟩
theorem zS{need cap:Nat}(h:cap<need):Builtin.nextslicecap need cap≤2*need+768:=by
 unfold Builtin.nextslicecap;split
 ·omega
 ·split
  ·omega
  ·refine a7 (Dp need 4 cap) ?_;apply Nat.max_le.2;omega
theorem H7(hS:SR Q σ X){sz:Nat}{y:V}{u:Value}(hy:VR σ X y u){m:Nat}{ys:List C}(h:eY X.H sz y=some (m,ys)) :
  ∃ vs,(Builtin.lenOf u).run Q X.w=.ok m X.w∧(Builtin.firstCells sz m u).run Q X.w=.ok vs.toArray X.w∧A2 (CR σ X) ys vs∧ys.length=m*sz:=by
 unfold eY at h;split at h
 ·rename_i s;have:=VR.str hy;subst this;split at h
  case isFalse=>simp at h
  rename_i hs1;subst hs1;simp only [aa,an]at h;obtain⟨rfl,rfl⟩:=h;have hext:s.extract 0 s.size=s:=ByteArray.extract_zero_size;refine⟨s.data.toList.map fun b=>.int .u8 b.toNat,by simp [Builtin.lenOf],?_,?_,?_⟩
  ·simp only [Builtin.firstCells,hext,Sem.run_pure]
   congr 1
   apply Array.ext';simp
  ·rw [ByteArray.toList_eq]
   exact⟨by simp,fun i x u hx hu=>by
    simp only [b8,am]at hx hu;obtain⟨c,hc,rfl⟩:=hx;obtain⟨d,hd,rfl⟩:=hu;rw [hc]at hd;cases hd
    exact FCR.int _ _⟩
  ·rw [ByteArray.toList_eq];simp only [bL,Array.length_toList,Nat.mul_one];rfl
 ·rename_i x hn;split at h
  ·rename_i l cs hl hcs;simp only [aa,an]at h;obtain⟨rfl,rfl⟩:=h;obtain⟨us,h1,h2,h3⟩:=oU hS hy hl hcs;obtain⟨a,c,rfl⟩:=oq hy hl;exact⟨us,by simp [Builtin.lenOf],h1,h2,h3⟩
  ·simp at h
 ·simp at h
structure aOB(Q:Program)(t t' e:TypeId)(sz bytes:Nat):Prop where
 hu:Q.underlying t=some (.slice e)
 hu':∃ d,Q.underlying t'=some d∧(∀ k,d≠.int k)
 hsz:dX Q e sz=true
 hby:qE Q e bytes=true
 pos:0<sz
 zero:∃ i z,Q.info? e=some i∧i.zero=some z∧z.cells.size=sz
def wI(base:Option Addr)(k:Nat)(vs:List Value):Sem Unit:=match base with
 | some a=>storeCells (a.add k) vs
 | none=>pure ()
theorem lX{t t' e:TypeId}{sz bytes:Nat}(ht:aOB Q t t' e sz bytes)(ty:TypeId){base:Option Addr}{l cap m:Nat}{u:Value}{vs:List Value}{w:World}
  (h1:(Builtin.lenOf u).run Q w=.ok m w) (h2:(Builtin.firstCells sz m u).run Q w=.ok vs.toArray w) :
  (l+m≤cap→(Builtin.append_ #[t,t'] ty #[.slice base l cap,u]).run Q w =
   ((wI base (l*sz) vs).run Q w).andThen fun _ w'=>.ok (.slice base (l+m) cap) w') ∧
  (¬ l+m≤cap→bK (l+m) bytes=true→∀ os vs:List Value,(Builtin.firstCells sz l (.slice base l cap)).run Q w.drew=.ok os.toArray w.drew→(Builtin.firstCells sz m u).run Q w.drew=.ok vs.toArray w.drew →
   ∃ nc rest w',l+m≤nc∧(Builtin.append_ #[t,t'] ty #[.slice base l cap,u]).run Q w=.ok (.slice (some ⟨w.heap.size,0,none⟩) (l+m) nc) w' ∧
    Adds w w' (.cells (os++vs++rest).toArray e)∧rest.length=(nc-(l+m))*sz):=by
 obtain⟨d,hd,hdn⟩:=ht.hu';obtain⟨i,z,hi,hz,hzs⟩:=ht.zero;obtain⟨inf,hb1,hb2⟩:=En ht.hby w
 have hzz:((d matches .int _):Bool)=false:=by
  cases d with
  | int k=>exact absurd rfl (hdn k)
  | _=>rfl
 constructor
 ·intro hle;simp only [Builtin.append_,cT];simp [aV ht.hu,aV hd,dJ ht.hsz,hzz,h1,hle,h2];cases base<;>simp [wI]
 ·intro hgt hroom os vs h3 h4;unfold bK at hroom;simp only [ag,decide_eq_true_eq]at hroom
  have aII:inf=i:=by
   simp [typeInfo,hi]at hb1;exact hb1.symm
  subst aII
  have hnb:¬ (Builtin.nextslicecap (l+m) cap*inf.bytes>2 ^ 48):=by
   rw [hb2];have:=zS (need:=l+m) (cap:=cap) (by omega)
   have:=ce bytes this;omega
  let nc:=(Question.appendCap (l+m) cap e).cut (w.tape w.drawn (.appendCap (l+m) cap e))
  have hnc:l+m≤nc:=by simp [nc,Question.cut]
  refine⟨nc,dw (nc-(l+m)) z.cells.toList,w.drew.alloc (.cells (os++vs++dw (nc-(l+m)) z.cells.toList).toArray e),hnc,?_,⟨rfl,rfl,rfl,rfl⟩,by rw [oz];simp [hzs]⟩
  have hch:(choose (.appendCap (l+m) cap e)).run Q w=.ok nc w.drew:=by
   simp [choose,Sem.run,Question.forced,nc]
  have hzc:Builtin.zeroCells z.cells (nc-(l+m))=(dw (nc-(l+m)) z.cells.toList).toArray:=by
   have:=jR z.cells.toList (nc-(l+m)) (by simp [hzs];exact ht.pos)
   simpa [Builtin.zeroCells]using this
  have hmax:¬ (((l+m:Nat):Int)>IntKind.i64.max):=by
   have:IntKind.i64.max=9223372036854775807:=by decide
   rw [this];omega
  have hzv:∀ w',(zeroValue e).run Q w'=.ok z w':=fun w'=>by simp [zeroValue,typeInfo,hi,hz]
  have hti:∀ w',(typeInfo e).run Q w'=.ok inf w':=fun w'=>by simp [typeInfo,hi]
  simp only [Builtin.append_,Sem.run_bind,aV ht.hu,aV hd,dJ ht.hsz,hzz,Result.andThen_ok,Sem.run_pure,aw,if_false,h1,if_neg hgt,Sem.run_ite,hti,hmax,false_and,hnb,hch,run_askRoom,h3,
   Bool.not_false,if_true,h4,hzv,hzc,newRow,run_newObj,cT,ch,df]
  have e1:os.toArray++vs.toArray++(dw (nc-(l+m)) z.cells.toList).toArray=(os++vs++dw (nc-(l+m)) z.cells.toList).toArray:=by simp
  rw [e1];rfl
theorem SR.drew(hS:SR Q σ X):SR Q σ { X with w:=X.w.drew }∧Ext X.H.length X { X with w:=X.w.drew }:=by
 have hx:Ext X.H.length X { X with w:=X.w.drew }:=Ext.one hS X.H.length rfl (fun _ _=>Iff.rfl) (fun _ _ _=>rfl) (fun _ _ _ _=>rfl) (fun h=>by omega)
  (fun _ _ _=>rfl) (fun _ _=>rfl) (fun L h=>.inl ⟨L,h,rfl⟩) (aq _) rfl rfl rfl
 exact⟨SR.step Q σ hS hx X.H.length (fun _ _=>rfl) (fun _ _=>rfl) (fun _ _ _ _=>rfl) (fun _ _ _ _ _ h=>h) (fun L h=>by
  change X.rho X.H.length=some L at h;rw [SR.wL hS]at h;simp at h) hS.fb,hx⟩
theorem VI(hS:SR Q σ X)(hB:X.B≤X.w.heap.size){sz:Nat}(hsz:0<sz){cs:List C}{us rest:List Value}(h:A2 (CR σ X) cs us){n nc:Nat}(hn:cs.length=n*sz)(hr:rest.length=(nc-n)*sz)(hnc:n≤nc)
  {e:TypeId} {w':World} (hw:Adds X.w w' (.cells (us++rest).toArray e)) :
  ∃ X',X'.w=w'∧X'.H=X.H++[.opn sz cs 0 0 .loc]∧SR Q σ X'∧Ext X.H.length X X'∧VR σ X' (.c (.sl X.H.length 0 n 0 0 sz)) (.slice (some ⟨X.w.heap.size,0,none⟩) n nc)∧X'.B≤X'.w.heap.size:=by
 obtain⟨X',h1,h2,h3,h4,h5,h6⟩:=SR.new hS hB (.opn sz cs 0 0 .loc) hw nc fun X' hx hw' hF _=>⟨rfl,us,rest,by rw [hw'];exact ou hw,A2.ext' σ hx h,by
  have:=h.len
  rw [aL,hr,←this,hn,←bN];congr 1;show n+(nc-n)=nc;omega,hsz,⟨n,hn⟩,fun i _ hf=>by rw [hF]at hf;have:=hS.fb _ _ hf;simp at this⟩
 refine⟨X',h1,h2,h3,h4,?_,h6⟩;have hnew:X'.H[X.H.length]?=some (.opn sz cs 0 0 .loc):=by rw [h2];simp
 simp only [VR,VR1,CR,CR1,hnew];exact⟨aq _,fun _ _=>⟨_,h5,0,by omega,by show 0+n≤nc;omega,by simp⟩,_,_,_,rfl⟩
theorem EL(hS:SR Q σ X)(hB:X.B≤X.w.heap.size){b sz:Nat}{cs:List C}{fl ep:Nat}{st:Os}(hb:X.H[b]?=some (.opn sz cs fl ep st)){ys:List C}{us vs rest:List Value}(hc:A2 (CR σ X) cs us)(hy:A2 (CR σ X) ys vs)
  (hsz:0<sz) {n nc:Nat} (hn:cs.length+ys.length=n*sz) (hr:rest.length=(nc-n)*sz) (hnc:n≤nc) {e:TypeId} {w':World} (hw:Adds X.w w' (.cells (us++vs++rest).toArray e)) :
  ∃ X',X'.w=w'∧X'.H=X.H.set b (.opn sz (cs++ys) fl (ep+1) .loc)∧SR Q σ X'∧Ext X.H.length X X'∧VR σ X' (.c (.sl b 0 n 0 (ep+1) sz)) (.slice (some ⟨X.w.heap.size,0,none⟩) n nc)∧X'.B≤X'.w.heap.size:=by
 have hlt:b<X.H.length:=(ab.1 hb).1
 let X':Wd:={ X with H:=X.H.set b (.opn sz (cs++ys) fl (ep+1) .loc),rho:=fun k=>if k=b then some ⟨X.w.heap.size,nc⟩else X.rho k,w:=w' }
 have hnew:X'.H[b]?=some (.opn sz (cs++ys) fl (ep+1) .loc):=by simp [X',hlt]
 have hrb:X'.rho b=some ⟨X.w.heap.size,nc⟩:=by simp [X']
 have hx:Ext X.H.length X X':=Ext.one hS b rfl (fun _ _=>Iff.rfl) (fun k hk _=>hw.old hk) (fun L i hL hf=>World.cell?_of_block (hw.old (hS.fb _ _ hf)))
  (fun _ blk hblk=>⟨_,hnew,by rw [hb]at hblk;simp only [aa]at hblk;subst hblk;exact⟨rfl,.inr ⟨by omega,rfl,_,hrb⟩⟩⟩)
  (fun b' h _=>by simp [X',al (Ne.symm h)]) (fun b' h=>by simp [X',h]) (fun L h=>by rw [hrb]at h;simp only [aa]at h;subst h;exact .inr (aq _)) (by show X.w.heap.size≤w'.heap.size;rw [hw.size];omega) hw.os hw.tape hw.output
 refine⟨X',rfl,rfl,SR.step Q σ hS hx b (fun b' h=>by simp [X',al (Ne.symm h)]) (fun b' h=>by simp [X',h]) (fun b' L _ hb'=>hw.old (hS.br b' L hb').2.1) (fun _ _ _ _ _ h=>h) (fun L h=>?_) (fun c i h=>?_),hx,?_,?_⟩
 ·rw [hrb]at h;simp only [aa]at h;subst h;refine⟨hB,by show X.w.heap.size<w'.heap.size;rw [hw.size];omega,⟨_,hnew,rfl,us++vs,rest,ou hw,(A2.ext' σ hx hc).append (A2.ext' σ hx hy),?_,hsz,⟨n,by simpa using hn⟩,fun i _ hf=>?_⟩,fun b' L' _ hb'=>?_⟩
  ·have h8:=hc.len;have h9:=hy.len;rw [aL,aL,hr,←h8,←h9,hn,←bN];congr 1;show n+(nc-n)=nc;omega
  ·have:=hS.fb _ _ hf;simp at this
  ·have:=(hS.br b' L' hb').2.1;show L'.c≠X.w.heap.size;omega
 ·have:=hS.fb c i h;show c<w'.heap.size;rw [hw.size];omega
 ·simp only [VR,VR1,CR,CR1,hnew];exact⟨aq _,fun _ _=>⟨_,hrb,0,by omega,by show 0+n≤nc;omega,by simp⟩,_,_,_,rfl⟩
 ·show X.B≤w'.heap.size;rw [hw.size];omega
end
section
variable{Q:Program}{σ:Nat→FuncId}{X:Wd}
theorem VB{α:Type}(us rest vs:List α)(h:vs.length≤rest.length):over (us++rest) us.length vs=us++vs++rest.drop vs.length:=by
 unfold over;rw [List.take_left',←List.drop_drop,List.drop_left']
 all_goals rfl
theorem aEq(hS:SR Q σ X){b sz:Nat}{cs:List C}{fl ep:Nat}{L:Loc}(hb:X.H[b]?=some (.opn sz cs fl ep .loc))(hL:X.rho b=some L){ys:List C}{vs:List Value}(hy:A2 (CR σ X) ys vs)(hfl:fl≤cs.length)
  {n:Nat} (hn:cs.length+ys.length=n*sz) (hcap:n≤L.cap):∃ X',(storeCells ⟨L.c,cs.length,none⟩ vs).run Q X.w=.ok () X'.w∧X'.H=X.H.set b (.opn sz (cs++ys) fl (ep+1) .loc)∧SR Q σ X' ∧
   Ext X.H.length X X'∧VR σ X' (.c (.sl b 0 n 0 (ep+1) sz)) (.slice (some ⟨L.c,0,none⟩) n L.cap)∧X'.w.heap.size=X.w.heap.size∧X'.B=X.B:=by
 obtain⟨_,_,blk,hb',hbr⟩:=hS.br b L hL;rw [hb]at hb';simp only [aa]at hb';subst hb';obtain⟨_,us,rest,hr,h2,h6,h7,h8,h3⟩:=hbr;have hlt:b<X.H.length:=(ab.1 hb).1;have hvl:=hy.len;have hul:=h2.len;have hroom:n*sz≤L.cap*sz:=ce sz hcap;have hrl:vs.length≤rest.length:=by simp only [aL]at h6;omega
 obtain⟨s1,s2,s3,s4,s5,s6⟩:=kJ hr vs cs.length (by simp;omega)
 rw [hul,VB _ _ _ hrl]at s6;rw [←hul]at s6
 obtain⟨h4,h5⟩:=SR.turn hS (blk':=.opn sz (cs++ys) fl (ep+1) .loc) hb hL s1 s2 (fun i hf=>by
   have hi:i<fl:=by
    rcases bR i fl with h | h
    ·exact h
    ·exact absurd hf (h3 i h)
   have:=fK s6 i;rw [hul]at this ⊢
   rw [this,fK hr,List.append_assoc,ae (by omega),ae (by omega)]) s3 s4 s5
  (fun blk hblk=>⟨.opn sz (cs++ys) fl (ep+1) .loc,by simp [hlt],by rw [hb]at hblk;simp only [aa]at hblk;subst hblk;exact⟨rfl,.inr ⟨by omega,rfl,L,hL⟩⟩⟩)
  (fun hx'=>⟨rfl,us++vs,rest.drop vs.length,by rw [hul]at s6 ⊢;exact s6,(A2.ext' σ hx' h2).append (A2.ext' σ hx' hy),by simp only [aL,cf]at h6 ⊢;omega,h7,⟨n,by simpa using hn⟩,h3⟩)
 refine⟨_,wH hr vs cs.length (by simp;omega) (A2.one hy),rfl,h4,h5,?_,s1,rfl⟩
 have hnew:(X.H.set b (.opn sz (cs++ys) fl (ep+1) .loc))[b]?=some (.opn sz (cs++ys) fl (ep+1) .loc):=by simp [hlt]
 simp only [VR,VR1,CR,CR1,hnew];exact⟨aq _,fun _ _=>⟨L,hL,0,by omega,by omega,by simp⟩,_,_,_,rfl⟩
theorem EI{c:Call}{sz bytes:Nat}{x y:Arg}(h:fB Q σ c (.append sz bytes x y)=true):∃ u v t t' e,c.callee=.builtin .append∧c.args=#[u,v]∧c.argTypes=#[t,t']∧mA σ x u=true∧mA σ y v=true ∧
  aOB Q t t' e sz bytes:=by
 simp only [fB]at h;split at h
 ·rename_i u v t t' h1 h2 h3;simp only [ag]at h;obtain⟨⟨⟨hx,hy⟩,he⟩,ht'⟩:=h;obtain⟨e,hu,he⟩:=jP he;simp only [ag,decide_eq_true_eq]at he;obtain⟨⟨⟨hsz,hby⟩,hpos⟩,hz⟩:=he
  have hz':∃ i z,Q.info? e=some i∧i.zero=some z∧z.cells.size=sz:=by
   cases hi:Q.info? e with
   | none=>simp [hi]at hz
   | some i=>
    simp only [hi,Option.any_some]at hz
    cases hzz:i.zero with
    | none=>simp [hzz]at hz
    | some z=>simp [hzz]at hz;exact⟨i,z,rfl,hzz,hz⟩
  refine⟨u,v,t,t',e,h1,axi h2,axi h3,hx,hy,⟨hu,?_,hsz,hby,hpos,hz'⟩⟩;split at ht'
  ·exact⟨_,by assumption,fun k=>by simp⟩
  ·exact⟨_,by assumption,fun k=>by simp⟩
  ·simp at ht'
 ·simp at h
theorem QL(hS:SR Q σ X)(hB:X.B≤X.w.heap.size){a:Act}{regs:T}(hR:RR σ X regs a.tmps){o:Oper}{sz bytes:Nat}{x y:Arg}(hm:mOp Q σ o (.append sz bytes x y)=true){v:V}{H':Heap}
  (h:xOp regs X.H (.append sz bytes x y)=some (v,H')):jM Q σ X v H' (execOp a.eval o):=by
 simp only [mOp]at hm;split at hm
 ·rename_i c ho;obtain⟨u,v',t,t',e,h1,h2,h3,hx,hy,ht⟩:=EI hm;have hx:=bH hR hx;have hy:=bH hR hy;simp only [xOp]at h;generalize hux:a.eval u=ux at hx;generalize huy:a.eval v'=uy at hy;generalize x.ev regs=vx at hx h;generalize y.ev regs=vy at hy h
  have fin:∀(r:Value) (w':World),(Builtin.append_ #[t,t'] o.type #[ux,uy]).run Q X.w=.ok r w'→(execOp a.eval o).run Q X.w=.ok (.value r) w':=by
   intro r w' hr;refine eH ho h1 fun cs=>?_
   simp [builtin,h2,h3,hux,huy,hr]
  unfold dn at h;split at h
  ·simp at h
  rename_i m ys hadd;rw [if_neg (by have:=ht.pos;omega)]at h
  obtain⟨vs,hl1,hf1,hyv,hyl⟩:=H7 hS hy hadd;obtain⟨hSd,hxd⟩:=SR.drew hS;obtain⟨vs2,_,hf2,aQS,_⟩:=H7 hSd (VR.ext' σ hxd hy) hadd
  have OE:A2 (CR σ X) ys vs2:=by
   have hxb:Ext X.H.length { X with w:=X.w.drew } X:=Ext.one hSd X.H.length rfl (fun _ _=>Iff.rfl) (fun _ _ _=>rfl) (fun _ _ _ _=>rfl) (fun h=>absurd h (db _))
    (fun _ _ _=>rfl) (fun _ _=>rfl) (fun L h=>.inl ⟨L,h,rfl⟩) (aq _) rfl rfl rfl
   exact A2.ext' σ (X:={ X with w:=X.w.drew }) hxb aQS
  have fresh:∀ {base:Option Addr} {l cap:Nat} {os:List Value} {cs:List C},ux=.slice base l cap→¬ l+m≤cap→bK (l+m) bytes=true →
    (Builtin.firstCells sz l (.slice base l cap)).run Q X.w.drew=.ok os.toArray X.w.drew→A2 (CR σ X) cs os→cs.length=l*sz →
    jM Q σ X (.c (.sl X.H.length 0 (l+m) 0 0 sz)) (X.H++[.opn sz (cs++ys) 0 0 .loc]) (execOp a.eval o):=by
   intro base l cap os cs hu hgt hroom hfo hco hcl;obtain⟨nc,rest,w',hnc,hrun,vH,hrl⟩:=(lX ht o.type (base:=base) (l:=l) (cap:=cap) hl1 hf1).2 hgt hroom os vs2 hfo hf2;obtain⟨X',g1,g2,g3,g4,g5,g6⟩:=VI hS hB ht.pos (cs:=cs++ys) (us:=os++vs2) (hco.append OE) (n:=l+m) (nc:=nc) (by rw [aL,hcl,hyl,bN]) hrl hnc vH
   exact⟨_,X',.inl (by rw [g1];exact fin _ _ (by rw [hu];exact hrun)),g2,g3,g5,g4,g6⟩
  have room:∀ {base:Option Addr} {l cap:Nat} {X':Wd},ux=.slice base l cap→l+m≤cap→(wI base (l*sz) vs).run Q X.w=.ok () X'.w →
    (execOp a.eval o).run Q X.w=.ok (.value (.slice base (l+m) cap)) X'.w:=by
   intro base l cap X' hu hle hst;refine fin _ _ ?_;rw [hu,(lX ht o.type (base:=base) (l:=l) (cap:=cap) hl1 hf1).1 hle,hst];rfl
  split at h
  ·
   cases (hx:FCR σ X.F X.w .au ux);split at h
   ·rename_i hm0;subst hm0;simp only [aa,an]at h;obtain⟨rfl,rfl⟩:=h;exact⟨_,X,.inl (room (X':=X) rfl (by omega) rfl),rfl,hS,FCR.au,Ext.refl _ _,hB⟩
   ·split at h
    ·rename_i hroom;simp only [aa,an]at h;obtain⟨rfl,rfl⟩:=h;have:=fresh (base:=none) (l:=0) (cap:=0) (os:=[]) (cs:=[]) rfl (by omega) (by simpa using hroom) (by simp [Builtin.firstCells]) A2.nil (by simp)
     simpa using this
    ·simp at h
  ·
   cases (hx:FCR σ X.F X.w .es ux);rename_i ad;split at h
   ·rename_i hm0;subst hm0;simp only [aa,an]at h;obtain⟨rfl,rfl⟩:=h;have hvs:vs=[]:=av (by rw [←hyv.len,hyl];simp)
    exact⟨_,X,.inl (room (X':=X) rfl (by omega) (by rw [hvs];rfl)),rfl,hS,FCR.es _,Ext.refl _ _,hB⟩
   ·split at h
    ·rename_i hroom;simp only [aa,an]at h;obtain⟨rfl,rfl⟩:=h;have:=fresh (base:=some ad) (l:=0) (cap:=0) (os:=[]) (cs:=[]) rfl (by omega) (by simpa using hroom) (by simp [Builtin.firstCells,loadCells,loadCellsFrom]) A2.nil (by simp)
     simpa using this
    ·simp at h
  ·rename_i b off l cap ep s;have hx0:CR σ X (.sl b off l cap ep s) ux:=hx;simp only [VR,VR1,CR,CR1]at hx;split at h
   ·
    rename_i cs fl hb;rw [hb]at hx;obtain⟨L,hL,hlc,rfl⟩:=hx;split at h
    ·rename_i hle;split at h
     ·rename_i hc;simp only [aa,an]at h;obtain⟨rfl,rfl⟩:=h;obtain⟨X',g1,g2,g3,g4,g5,g6,g7⟩:=FK hS hb hL hyv hc.1 hc.2;refine⟨_,X',.inl (room rfl hle (by simp only [wI,gu];exact g1)),g2,g3,?_,g4,by omega⟩
      have hnew:X'.H[b]?=some (.box (over cs (off+l*sz) ys) fl):=by rw [g2];simp [(ab.1 hb).1]
      simp only [VR,VR1,CR,CR1,hnew];exact⟨L,by rw [g5];exact hL,hle,rfl⟩
     ·simp at h
    ·rename_i hgt;split at h
     ·rename_i hc;simp only [aa,an]at h;obtain⟨rfl,rfl⟩:=h;have hsl:dF X.H sz (.sl b off l cap ep s)=some ((cs.drop off).take (l*sz)):=by simp [dF,hb,hc.2]
      have hsn:bV X.H (.sl b off l cap ep s)=some l:=by simp [bV,hb]
      obtain⟨os,q1,q2,q3⟩:=oU hSd (CR.ext' σ hxd hx0) hsn hsl
      have q2':A2 (CR σ X) ((cs.drop off).take (l*sz)) os:=by
       have hxb:Ext X.H.length { X with w:=X.w.drew } X:=Ext.one hSd X.H.length rfl (fun _ _=>Iff.rfl) (fun _ _ _=>rfl) (fun _ _ _ _=>rfl) (fun h=>absurd h (db _))
        (fun _ _ _=>rfl) (fun _ _=>rfl) (fun L h=>.inl ⟨L,h,rfl⟩) (aq _) rfl rfl rfl
       exact A2.ext' σ (X:={ X with w:=X.w.drew }) hxb q2
      exact fresh rfl hgt hc.1 q1 q2' q3
     ·simp at h
   ·
    rename_i s' cs fl e' st hb;rw [hb]at hx;split at h
    ·rename_i hc;obtain⟨rfl,rfl,rfl⟩:=hc;have hx2:=hx.2.1 rfl rfl;split at h
     ·
      rename_i hm0;subst hm0;simp only [aa,an]at h;obtain⟨rfl,rfl⟩:=h;have hvs:vs=[]:=av (by rw [←hyv.len,hyl];simp)
      obtain⟨base,n,cp,Wp⟩:=hx.2.2
      have hln:n=l∧l≤cp:=by
       cases st with
       | loc=>obtain⟨L,_,k,_,hk,h8⟩:=hx2;rw [Wp]at h8;simp only [Value.slice.injEq]at h8;omega
       | nil=>obtain⟨_,rfl,h8⟩:=hx2;rw [Wp]at h8;simp only [Value.slice.injEq]at h8;omega
       | es=>obtain⟨_,rfl,_,h8⟩:=hx2;rw [Wp]at h8;simp only [Value.slice.injEq]at h8;omega
      obtain⟨rfl,hcp⟩:=hln;refine⟨.slice base (n+0) cp,X,.inl (room (X':=X) Wp (by omega) (by rw [hvs];cases base<;>rfl)),rfl,hS,?_,Ext.refl _ _,hB⟩
      rw [Nat.add_zero,←Wp];exact hx0
     ·rename_i hm0;split at h
      ·
       rename_i hc;obtain⟨rfl,hlen,aQ4⟩:=hc;split at h
       ·rename_i hroom;simp only [aa,an]at h;obtain⟨rfl,rfl⟩:=h;have hn:cs.length+ys.length=(l+m)*s:=by rw [hyl,←hlen,bN]
        cases st with
        | loc=>
         obtain⟨L,hL,k,hk0,hk,rfl⟩:=hx2
         have hk0':k=0:=by
          rcases dc.1 hk0.symm with h8 | h8
          ·exact h8
          ·have:=ht.pos;omega
         subst hk0';rw [Nat.sub_zero]at *;by_cases hle:l+m≤L.cap
         ·obtain⟨X',g1,g2,g3,g4,g5,g6,g7⟩:=aEq hS hb hL hyv aQ4 hn hle;exact⟨_,X',.inl (room rfl hle (by simp only [wI,gu];rw [hlen,cg];exact g1)),g2,g3,g5,g4,by omega⟩
         ·have hsl:dF X.H s (.sl b 0 l cap ep s)=some ((cs.drop 0).take (l*s)):=by simp [dF,hb,hlen]
          have hsn:bV X.H (.sl b 0 l cap ep s)=some l:=by simp [bV,hb]
          obtain⟨os,q1,q2,q3⟩:=oU hSd (CR.ext' σ hxd hx0) hsn hsl
          have q2':A2 (CR σ X) cs os:=by
           have hxb:Ext X.H.length { X with w:=X.w.drew } X:=Ext.one hSd X.H.length rfl (fun _ _=>Iff.rfl) (fun _ _ _=>rfl) (fun _ _ _ _=>rfl) (fun h=>absurd h (db _))
            (fun _ _ _=>rfl) (fun _ _=>rfl) (fun L h=>.inl ⟨L,h,rfl⟩) (aq _) rfl rfl rfl
           have:=A2.ext' σ (X:={ X with w:=X.w.drew }) hxb q2
           rwa [cG,hlen,List.take_length]at this
          obtain⟨nc,rest,w',hnc,hrun,vH,hrl⟩:=(lX ht o.type (base:=some ⟨L.c,0,none⟩) (l:=l) (cap:=L.cap) hl1 hf1).2 hle hroom os vs2 q1 hf2;obtain⟨X',g1,g2,g3,g4,g5,g6⟩:=EL hS hB hb q2' OE ht.pos hn hrl hnc vH
          exact⟨_,X',.inl (by rw [g1];exact fin _ _ (by simpa using hrun)),g2,g3,g5,g4,g6⟩
        | nil=>
         obtain⟨_,rfl,rfl⟩:=hx2;have hcs:cs=[]:=av (by simpa using hlen.symm)
         subst hcs;obtain⟨nc,rest,w',hnc,hrun,vH,hrl⟩:=(lX ht o.type (base:=none) (l:=0) (cap:=0) hl1 hf1).2 (by omega) hroom [] vs2 (by simp [Builtin.firstCells]) hf2
         obtain⟨X',g1,g2,g3,g4,g5,g6⟩:=EL hS hB hb (us:=[]) A2.nil OE ht.pos hn hrl hnc vH
         exact⟨_,X',.inl (by rw [g1];exact fin _ _ hrun),g2,g3,g5,g4,g6⟩
        | es=>
         obtain⟨_,rfl,ad,rfl⟩:=hx2;have hcs:cs=[]:=av (by simpa using hlen.symm)
         subst hcs;obtain⟨nc,rest,w',hnc,hrun,vH,hrl⟩:=(lX ht o.type (base:=some ad) (l:=0) (cap:=0) hl1 hf1).2 (by omega) hroom [] vs2 (by simp [Builtin.firstCells,loadCells,loadCellsFrom]) hf2
         obtain⟨X',g1,g2,g3,g4,g5,g6⟩:=EL hS hB hb (us:=[]) A2.nil OE ht.pos hn hrl hnc vH;exact⟨_,X',.inl (by rw [g1];exact fin _ _ hrun),g2,g3,g5,g4,g6⟩
       ·simp at h
      ·split at h
       ·
        rename_i hc;obtain⟨rfl,aQ3,hin⟩:=hc;simp only [aa,an]at h;obtain⟨rfl,rfl⟩:=h;obtain⟨L,hL,k,rfl,hk,rfl⟩:=hx2;obtain⟨_,_,blk,hb',hbr⟩:=hS.br b L hL;rw [hb]at hb';simp only [aa]at hb';subst hb';obtain⟨_,us,rest,hr,h22,h6,h7,h8,h3'⟩:=hbr
        have hle:l+m≤L.cap-k:=by
         have e1:(k+(l+m))*s≤L.cap*s:=by
          rw [bN,bN];have:=h22.len;simp only [aL]at h6;omega
         have:=Nat.le_of_mul_le_mul_right e1 h7;omega
        obtain⟨X',g1,g2,g3,g4,g5,g6,g7⟩:=FI hS hb hL hyv aQ3 hin;refine⟨_,X',.inl (room rfl hle (by simp only [wI,gu];exact g1)),g2,g3,?_,g4,by omega⟩
        have hnew:X'.H[b]?=some (.opn s (over cs (k*s+l*s) ys) fl ep .loc):=by rw [g2];simp [(ab.1 hb).1]
        simp only [VR,VR1,CR,CR1,hnew];exact⟨aq _,fun _ _=>⟨L,by rw [g5];exact hL,k,rfl,by omega,rfl⟩,_,_,_,rfl⟩
       ·simp at h
    ·simp at h
   ·simp at h
  ·simp at h
 ·simp at hm
end
section
variable{Q:Program}{σ:Nat→FuncId}{X:Wd}
theorem Lu{c:Call}{sz bytes:Nat}{zs:List FC}{x y:Arg}(h:fB Q σ c (.yJ sz bytes zs x y)=true):∃ u v t t' e k,c.callee=.builtin .append∧c.args=#[u,v]∧c.argTypes=#[t,t']∧mA σ x u=true∧mA σ y v=true ∧
  Q.underlying t=some (.slice e)∧dX Q e sz=true∧qE Q e bytes=true∧0<sz∧nX Q e zs=true∧Q.underlying t'=some (.int k):=by
 simp only [fB]at h;split at h
 ·rename_i u v t t' h1 h2 h3;simp only [ag]at h;obtain⟨⟨⟨hx,hy⟩,he⟩,ht'⟩:=h;obtain⟨e,hu,he⟩:=jP he;simp only [ag,decide_eq_true_eq]at he;obtain⟨⟨⟨hsz,hby⟩,hpos⟩,hz⟩:=he;split at ht'
  ·rename_i k hk;exact⟨u,v,t,t',e,k,h1,axi h2,axi h3,hx,hy,hu,hsz,hby,hpos,hz,hk⟩
  ·simp at ht'
 ·simp at h
theorem UA{n:Nat}(h:n<2 ^ 48):IntKind.i64.wrap (n:Int)=n:=by
 simp only [IntKind.wrap,IntKind.bits,IntKind.signed];have e1:(2 ^ 64:Int)=18446744073709551616:=by decide
 have e2:(2 ^ (64-1):Int)=9223372036854775808:=by decide
 have e3:(2:Nat) ^ 48=281474976710656:=by decide
 simp only [e1,e2,Bool.true_and,decide_eq_true_eq];split<;>omega
theorem zA{t t' e:TypeId}{sz bytes:Nat}{k k':IntKind}(hu:Q.underlying t=some (.slice e))(hu':Q.underlying t'=some (.int k))(hsz:dX Q e sz=true)(hby:qE Q e bytes=true)(hpos:0<sz)
  {z:Value} {us:List Value} {i:TypeInfo} (hi:Q.info? e=some i) (hz:i.zero=some z) (hzc:z.cells=us.toArray) (hul:us.length=sz) (ty:TypeId) {base:Option Addr} {n:Nat} {w:World} :
  (n=0→(Builtin.append_ #[t,t'] ty #[.slice base 0 0,.int k' (n:Int)]).run Q w=.ok (.slice base 0 0) w) ∧
  (n≠0→bK n bytes=true→∃ nc rest w',n≤nc∧(Builtin.append_ #[t,t'] ty #[.slice base 0 0,.int k' (n:Int)]).run Q w=.ok (.slice (some ⟨w.heap.size,0,none⟩) n nc) w' ∧
   Adds w w' (.cells (dw n us++rest).toArray e)∧rest.length=(nc-n)*sz):=by
 obtain⟨inf,hb1,hb2⟩:=En hby w;have aII:inf=i:=by simp [typeInfo,hi]at hb1;exact hb1.symm
 subst aII;have hti:∀ w',(typeInfo e).run Q w'=.ok inf w':=fun w'=>by simp [typeInfo,hi]
 have hzv:∀ w',(zeroValue e).run Q w'=.ok z w':=fun w'=>by simp [zeroValue,typeInfo,hi,hz]
 have hai:∀(q:Int) w',(asInt (.int k' q)).run Q w'=.ok q w':=fun q w'=>by simp [asInt,asIntOf]
 constructor
 ·rintro rfl;have hw0:IntKind.i64.wrap 0=0:=by decide
  simp only [Builtin.append_,cT];simp [aV hu,aV hu',dJ hsz,hti,hai,hw0];cases base<;>simp [storeCells]
 ·intro hn hroom;have hroom0:=hroom;unfold bK at hroom;simp only [ag,decide_eq_true_eq]at hroom;have hwr:=UA hroom.2
  have hnb:¬ (Builtin.nextslicecap n 0*inf.bytes>2 ^ 48):=by
   rw [hb2];have:=zS (need:=n) (cap:=0) (by omega)
   have:=ce bytes this;omega
  let nc:=(Question.appendCap n 0 e).cut (w.tape w.drawn (.appendCap n 0 e))
  have hnc:n≤nc:=by simp [nc,Question.cut]
  have hch:(choose (.appendCap n 0 e)).run Q w=.ok nc w.drew:=by
   simp [choose,Sem.run,Question.forced,nc]
  have hzr:∀ m,Builtin.zeroCells z.cells m=(dw m us).toArray:=fun m=>by
   have:=jR us m (by omega)
   simpa [Builtin.zeroCells,hzc]using this
  have hmax:¬ ((n:Int)>IntKind.i64.max):=by
   have:IntKind.i64.max=9223372036854775807:=by decide
   have e3:(2:Nat) ^ 48=281474976710656:=by decide
   rw [this];omega
  have hl0:¬ ((n:Int)<0):=by omega
  have hlb:¬ ((n:Int)*(inf.bytes:Int)>2 ^ 48):=by
   rw [hb2];have h1:n*bytes≤2 ^ 48:=a7 (ce bytes (by omega:n≤2*n+768)) hroom.1
   have h2:((n*bytes:Nat):Int)≤2 ^ 48:=by
    have e1:((2 ^ 48:Nat):Int)=2 ^ 48:=by decide
    rw [←e1];exact Int.ofNat_le.2 h1
   rw [Int.natCast_mul]at h2;omega
  have hfirst:(Builtin.firstCells sz 0 (.slice base 0 0)).run Q w.drew=.ok #[] w.drew:=by
   cases base<;>simp [Builtin.firstCells,loadCells,loadCellsFrom]
  have hns:¬ (n*sz=0):=by
   intro h;rcases dc.1 h with h | h<;>omega
  refine⟨nc,dw (nc-n) us,w.drew.alloc (.cells (dw n us++dw (nc-n) us).toArray e),hnc,?_,⟨rfl,rfl,rfl,rfl⟩,by rw [oz,hul]⟩
  have hzn:¬ (n≤0):=by omega
  have hint:((n:Int)).toNat=n:=by simp
  simp only [Builtin.append_,Sem.run_bind,aV hu,aV hu',dJ hsz,Result.andThen_ok,Sem.run_pure,aw,if_false,Sem.run_ite,hti,false_and,hnb,hch,run_askRoom,
   Bool.not_true,if_true,hzv,hzr,newRow,run_newObj,cT,ch,df,hai,hwr,hl0,hlb,hint,cg,hzn,hmax,hns,hfirst,true_or,and_true,Bool.true_eq]
  have e1:#[]++(dw n us).toArray++(dw (nc-n) us).toArray=(dw n us++dw (nc-n) us).toArray:=by simp
  first
   | (rw [e1];rfl)
   | (simp [e1];rfl)
theorem axj(hS:SR Q σ X)(hB:X.B≤X.w.heap.size){a:Act}{regs:T}(hR:RR σ X regs a.tmps){o:Oper}{sz bytes:Nat}{zs:List FC}{x y:Arg}(hm:mOp Q σ o (.yJ sz bytes zs x y)=true){v:V}{H':Heap}
  (h:xOp regs X.H (.yJ sz bytes zs x y)=some (v,H')):jM Q σ X v H' (execOp a.eval o):=by
 simp only [mOp]at hm;split at hm
 ·rename_i c ho;obtain⟨u,v',t,t',e,k,h1,h2,h3,hx,hy,hu,hsz,hby,hpos,hz,hk⟩:=Lu hm;have hx:=bH hR hx;have hy:=bH hR hy;simp only [xOp]at h;generalize hux:a.eval u=ux at hx;generalize huy:a.eval v'=uy at hy;generalize x.ev regs=vx at hx h;generalize y.ev regs=vy at hy h
  have fin:∀(r:Value) (w':World),(Builtin.append_ #[t,t'] o.type #[ux,uy]).run Q X.w=.ok r w'→(execOp a.eval o).run Q X.w=.ok (.value r) w':=by
   intro r w' hr;refine eH ho h1 fun cs=>?_
   simp [builtin,h2,h3,hux,huy,hr]
  unfold OZ at h;split at h
  ·rename_i n hn;obtain⟨k',hk'⟩:=kR hy hn;split at h
   ·rename_i hc;obtain⟨z,us,hz1,hz2,hz3,i0,hi0,hi1⟩:=gV (σ:=σ) (X:=X) hz X.w;have hul:us.length=sz:=by have:=hz3.len;simp at this;omega
    obtain⟨m,rfl⟩:∃ m:Nat,n=m:=⟨n.toNat,by omega⟩
    have fresh:∀ base,ux=.slice base 0 0→(v,H')=(.c (.sl X.H.length 0 m 0 0 sz),X.H++[.opn sz ((dw m zs).map .f) 0 0 .loc])→m≠0→bK m bytes=true→jM Q σ X v H' (execOp a.eval o):=by
     intro base hb he hm0 hroom;cases he;obtain⟨nc,rest,w',hnc,hrun,vH,hrl⟩:=(zA (k':=k') hu hk hsz hby hpos hi0 hi1 hz2 hul o.type (base:=base) (n:=m)).2 hm0 hroom;obtain⟨X',g1,g2,g3,g4,g5,g6⟩:=VI hS hB hpos (cs:=(dw m zs).map .f) (us:=dw m us) (kX hz3 m) (n:=m) (nc:=nc) (by rw [bL,oz,hc.2]) hrl hnc vH
     exact⟨_,X',.inl (by rw [g1];exact fin _ _ (by rw [hb,hk'];exact hrun)),g2,g3,g5,g4,g6⟩
    split at h
    ·cases (hx:FCR σ X.F X.w .au ux);simp only [bB]at h;split at h
     ·rename_i hm0;simp only [aa,an]at h;obtain⟨rfl,rfl⟩:=h;exact⟨_,X,.inl (fin _ _ (by rw [hk'];exact(zA (k':=k') hu hk hsz hby hpos hi0 hi1 hz2 hul o.type (base:=none) (n:=m)).1 hm0)),rfl,hS,FCR.au,Ext.refl _ _,hB⟩
     ·rename_i hm0;split at h
      ·rename_i hroom;simp only [aa]at h;exact fresh none rfl h.symm hm0 hroom
      ·simp at h
    ·cases (hx:FCR σ X.F X.w .es ux);rename_i ad;simp only [bB]at h;split at h
     ·rename_i hm0;simp only [aa,an]at h;obtain⟨rfl,rfl⟩:=h;exact⟨_,X,.inl (fin _ _ (by rw [hk'];exact(zA (k':=k') hu hk hsz hby hpos hi0 hi1 hz2 hul o.type (base:=some ad) (n:=m)).1 hm0)),rfl,hS,FCR.es _,Ext.refl _ _,hB⟩
     ·rename_i hm0;split at h
      ·rename_i hroom;simp only [aa]at h;exact fresh (some ad) rfl h.symm hm0 hroom
      ·simp at h
    ·simp at h
   ·simp at h
  ·simp at h
 ·simp at hm
end
section
variable{Q:Program}{σ:Nat→FuncId}{X:Wd}
theorem aFs(hS:SR Q σ X)(hB:X.B≤X.w.heap.size){a:Act}{regs:T}{o:Oper}{st:Os}{sz:Nat}(hm:mOp Q σ o (.pre st sz)=true){v:V}{H':Heap}
  (h:xOp regs X.H (.pre st sz)=some (v,H')):jM Q σ X v H' (execOp a.eval o):=by
 cases st with
 | nil=>
  simp only [xOp]at h;split at h
  ·simp at h
  ·simp only [aa,an]at h;obtain⟨rfl,rfl⟩:=h;obtain⟨h1,h2⟩:=SR.grow hS (.opn sz [] 0 0 .nil)
   have hv:VR σ { X with H:=X.H++[.opn sz [] 0 0 .nil] } (.c (.sl X.H.length 0 0 0 0 sz)) (.slice none 0 0):=by
    have hnew:(X.H++[Blk.opn sz [] 0 0 .nil])[X.H.length]?=some (.opn sz [] 0 0 .nil):=by simp
    simp only [VR,VR1,CR,CR1,hnew];exact⟨aq _,fun _ _=>by simp,_,_,_,rfl⟩
   simp only [mOp]at hm;split at hm
   ·rename_i ho;exact⟨.slice none 0 0,_,.inl (by simp [execOp,ho,Act.eval]),rfl,h1,hv,h2,hB⟩
   ·rename_i ho;exact⟨.slice none 0 0,_,.inl (by simp [execOp,ho,Act.eval]),rfl,h1,hv,h2,hB⟩
   ·simp at hm
 | _=>simp [mOp]at hm
theorem VN(hS:SR Q σ X)(hB:X.B≤X.w.heap.size){a:Act}{o:Oper}(hm:mOp Q σ o .nJ=true):jM Q σ X (.c (.mp X.H.length)) (X.H++[.map []]) (execOp a.eval o):=by
 simp only [mOp]at hm;split at hm
 ·rename_i t ho;obtain⟨X',h1,h2,h3,h4,h5,h6⟩:=SR.new hS hB (.map []) (Adds.alloc X.w (.map #[] 0)) 0 fun X' hx hw hF _=>⟨[],by rw [hw];exact(Adds.alloc _ _).new,A2.nil,by simp⟩
  exact⟨.map (some X.w.heap.size),X',.inl (by rw [h1];simp [execOp,ho,Instr.makeMap]),h2,h3,⟨_,h5,⟨[],by rw [h2];simp⟩,rfl⟩,h4,h6⟩
 ·simp at hm
theorem U7(hS:SR Q σ X)(hB:X.B≤X.w.heap.size){a:Act}{regs:T}(hR:RR σ X regs a.tmps){o:Oper}{x:Arg}(hm:mOp Q σ o (.range x)=true){v:V}{H':Heap}
  (h:xOp regs X.H (.range x)=some (v,H')):jM Q σ X v H' (execOp a.eval o):=by
 simp only [mOp]at hm;split at hm
 ·rename_i t y ho;simp only [ag]at hm;obtain⟨hx,ht⟩:=hm;have hx:=bH hR hx;simp only [xOp]at h;split at h
  ·rename_i s hs;rw [hs]at hx;have hx:=VR.str hx;simp only [aa,an]at h;obtain⟨rfl,rfl⟩:=h;split at ht
   ·rename_i hu
    obtain⟨X',h1,h2,h3,h4,h5,h6⟩:=SR.new hS hB (.it s 0) (Adds.alloc X.w (.stringIter s 0)) 0 fun X' hx hw hF _=>by
     show X'.w.heap[X.w.heap.size]?=_
     rw [hw];exact(Adds.alloc _ _).new
    exact⟨.pointer (some ⟨X.w.heap.size,0,none⟩),X',.inl (by rw [h1];simp [execOp,ho,Instr.range,aV hu,hx]),h2,h3,⟨_,h5,⟨s,0,by rw [h2];simp⟩,rfl⟩,h4,h6⟩
   ·simp at ht
  ·simp at h
 ·simp at hm
theorem SR.uH(hS:SR Q σ X){b:Nat}{blk blk':Blk}{L:Loc}{o o':Obj}(hb:X.H[b]?=some blk)(hL:X.rho b=some L)(ho:X.w.heap[L.c]?=some o)(hoc:∀ c e f,o≠.cells c e f)(aQX:∀ c e f,o'≠.cells c e f)
  (hkeep:qc X { X with H:=X.H.set b blk',w:={ X.w with heap:=X.w.heap.setIfInBounds L.c o' } } b)
  (hbr:∀ X',Ext X.H.length X X'→X'.w.heap[L.c]?=some o'→X'.F=X.F→X'.rho=X.rho→X'.H=X.H.set b blk'→BR Q σ X' blk' L) :
  SR Q σ { X with H:=X.H.set b blk',w:={ X.w with heap:=X.w.heap.setIfInBounds L.c o' } }∧Ext X.H.length X { X with H:=X.H.set b blk',w:={ X.w with heap:=X.w.heap.setIfInBounds L.c o' } }:=by
 have hlt:L.c<X.w.heap.size:=(hS.br b L hL).2.1;refine SR.turn hS hb hL (by simp) (fun k hk=>by simp [Array.getElem?_setIfInBounds_ne (Ne.symm hk)]) (fun i _=>?_) rfl rfl rfl hkeep (fun hx=>hbr _ hx (by simp [hlt]) rfl rfl rfl)
 have e1:({ X.w with heap:=X.w.heap.setIfInBounds L.c o' }:World).cell? ⟨L.c,i,none⟩=none:=by
  simp only [World.cell?];rw [show(X.w.heap.setIfInBounds L.c o')[L.c]?=some o' by simp [hlt]]
  cases o'<;>simp at aQX ⊢
 have e2:X.w.cell? ⟨L.c,i,none⟩=none:=by
  simp only [World.cell?,ho];cases o<;>simp at hoc ⊢
 rw [e1,e2]
theorem av8(hS:SR Q σ X)(hB:X.B≤X.w.heap.size){a:Act}{regs:T}(hR:RR σ X regs a.tmps){o:Oper}{x:Arg}(hm:mOp Q σ o (.next x)=true){v:V}{H':Heap}
  (h:xOp regs X.H (.next x)=some (v,H')):jM Q σ X v H' (execOp a.eval o):=by
 simp only [mOp]at hm;split at hm
 ·rename_i y ho;have hx:=bH hR hm;simp only [xOp]at h;unfold Ol at h;split at h
  ·rename_i b hv;rw [hv]at hx;obtain⟨L,hL,⟨s0,p0,hb0⟩,hu⟩:=hx;split at h
   ·rename_i s pos hb;obtain⟨_,_,blk,hb',hbr⟩:=hS.br b L hL;rw [hb]at hb';simp only [aa]at hb';subst hb';have qo:X.w.heap[L.c]?=some (.stringIter s pos):=hbr;split at h
    ·rename_i hp;simp only [aa,an]at h;obtain⟨rfl,rfl⟩:=h
     obtain⟨g1,g2⟩:=SR.uH (o':=.stringIter s (pos+(Utf8.decode s pos).2)) (blk':=.it s (pos+(Utf8.decode s pos).2)) hS hb hL qo (by simp) (by simp)
      (fun blk hblk=>⟨.it s (pos+(Utf8.decode s pos).2),by simp [(ab.1 hb).1],by rw [hb]at hblk;simp only [aa]at hblk;subst hblk;exact fun L h=>h⟩)
      (fun X' _ h1 _ _ _=>h1)
     refine⟨.tuple #[.bool true,.int .i64 pos,.int .i32 (Utf8.decode s pos).1],_,.inl ?_,rfl,g1,⟨[.bool true,.int .i64 pos,.int .i32 (Utf8.decode s pos).1],rfl,?_⟩,g2,by simpa using hB⟩
     ·simp only [execOp,ho];refine fQ ?_;simp [Instr.next,hu,getObj,setObj,Sem.run,qo,hp,goInt]
     ·exact A2.cons (FCR.bool _) (A2.cons (FCR.int _ _) (A2.cons (FCR.int _ _) A2.nil))
    ·rename_i hp;simp only [aa,an]at h;obtain⟨rfl,rfl⟩:=h;refine⟨.tuple #[.bool false],X,.inl ?_,rfl,hS,⟨[.bool false],rfl,A2.cons (FCR.bool _) A2.nil⟩,Ext.refl _ _,hB⟩;simp only [execOp,ho];refine fQ ?_;simp [Instr.next,hu,getObj,Sem.run,qo,hp]
   ·simp at h
  ·simp at h
 ·simp at hm
theorem GH{ck:CK}{d:TypeDesc}(hd:(ck=.int∧∃ j,d=.int j)∨(ck=.str∧d=.string)∨(ck=.bool∧d=.bool)){F:Nat→Nat→Prop}{w:World}{k:FC}{v:C}{kv:Value}(hk:FCR σ F w k kv) :
  ∀ {R:C→Value→Prop} {es es':List (FC × C)} {arr:List MapEntry},A2 (fun e m=>FCR σ F w e.1 m.key∧R e.2 m.val) es arr→∀(i:Nat),CW ck k v es=some es' →
  (Instr.findNow d kv arr i=some none∧es'=es++[(k,v)])∨∃(j:Nat) (u:Value) (m:MapEntry),Instr.findNow d kv arr i=some (some (i+j,u))∧arr[j]?=some m∧Instr.sameNow d kv m.key=some true∧es'=es.set j (k,v)
 | _,[],es',[],_,i,h=>by
  simp only [CW,aa]at h;subst h
  exact .inl ⟨rfl,rfl⟩
 | _,[],_,_::_,hq,_,_=>by have:=hq.len;simp at this
 | _,_::_,_,[],hq,_,_=>by have:=hq.len;simp at this
 | _,e::es,es',m::arr,hq,i,h=>by
  obtain⟨⟨h1,h2⟩,hq'⟩:=hq.of_cons;simp only [CW]at h;split at h
  ·rename_i he;simp only [aa]at h;subst h;have:=Ah hd hk h1 he;exact .inr ⟨0,m.val,m,by simp [Instr.findNow,this],rfl,this,rfl⟩
  ·rename_i he;simp only [am]at h;obtain⟨es2,h3,rfl⟩:=h;have:=Ah hd hk h1 he;rcases GH hd hk hq' (i+1) h3 with⟨h4,rfl⟩ | ⟨j,u,m',h4,h5,h6,rfl⟩
   ·exact .inl ⟨by simp [Instr.findNow,this,h4],rfl⟩
   ·exact .inr ⟨j+1,u,m',by simp [Instr.findNow,this,h4];omega,by simpa using h5,h6,rfl⟩
  ·simp at h
theorem Gh{d:TypeDesc}{u v:Value}(h:Instr.sameNow d u v=some true)(n:Nat):Instr.sameBits n v u=true:=by
 unfold Instr.sameNow at h;split at h
 ·split at h
  ·rename_i hk;subst hk;simp only [aa,beq_iff_eq]at h;subst h;simp [Instr.sameBits]
  ·simp at h
 ·simp only [aa,beq_toListBytes,beq_iff_eq]at h;simp [Instr.sameBits,beq_toListBytes,h]
 ·simp only [aa,beq_iff_eq]at h;subst h;simp [Instr.sameBits]
 ·simp at h
theorem aNK{c:C}{u:Value}(h:VR σ X (mV c) u):VR1 σ X (mV c) u:=by
 cases c
 case cl f cs=>
  simp only [mV]at h ⊢;split at h
  ·rename_i hf;rw [if_pos hf];exact h
  ·rename_i hf;rw [if_neg hf];exact h
 all_goals exact h
theorem VQ(hS:SR Q σ X)(hB:X.B≤X.w.heap.size){a:Act}{regs:T}(hR:RR σ X regs a.tmps){o:Oper}{ck:CK}{x y z:Arg}(hm:mOp Q σ o (.nK ck x y z)=true){v:V}{H':Heap}
  (h:xOp regs X.H (.nK ck x y z)=some (v,H')):jM Q σ X v H' (execOp a.eval o):=by
 simp only [mOp]at hm;split at hm
 ·rename_i t x' y' z' ho;simp only [ag]at hm;obtain⟨⟨⟨hx,hy⟩,hz⟩,ht⟩:=hm;have hx:=bH hR hx;have hy:=bH hR hy;have hz:=bH hR hz;split at ht
  ·rename_i kt e hu;simp only [xOp]at h;split at h
   ·rename_i b k vv hb1 hk1 hv1;rw [hb1]at hx;rw [hk1]at hy;rw [←VU hv1]at hz;have hz:VR1 σ X (mV vv) (a.eval z'):=aNK hz;obtain⟨L,hL,_,hux⟩:=hx;split at h
    ·rename_i es hb;split at h
     ·rename_i hik;simp only [am,an]at h;obtain⟨es',hp,rfl,rfl⟩:=h;obtain⟨_,_,blk,hb',hbr⟩:=hS.br b L hL;rw [hb]at hb';simp only [aa]at hb';subst hb';obtain⟨arr,qo,h2,hborn⟩:=hbr
      have go:∀ d,Q.underlying kt=some d→((ck=.int∧∃ j,d=.int j)∨(ck=.str∧d=.string)∨(ck=.bool∧d=.bool))→jM Q σ X .top (X.H.set b (.map es')) (execOp a.eval o):=by
       intro d hku hd
       have fin:∀(arr':List MapEntry),(Instr.mapUpdate t (a.eval x') (a.eval y') (a.eval z')).run Q X.w=.ok () { X.w with heap:=X.w.heap.setIfInBounds L.c (.map arr'.toArray arr'.length) } →
         A2 (fun(e:FC × C) (m:MapEntry)=>FCR σ X.F X.w e.1 m.key∧VR1 σ X (mV e.2) m.val) es' arr'→(∀(i:Nat) m,arr'[i]?=some m→m.born=i)→jM Q σ X .top (X.H.set b (.map es')) (execOp a.eval o):=by
        intro arr' hrun hA hbn
        obtain⟨g1,g2⟩:=SR.uH (o':=.map arr'.toArray arr'.length) (blk':=.map es') hS hb hL qo (by simp) (by simp)
         (fun blk hblk=>⟨.map es',by simp [(ab.1 hb).1],by rw [hb]at hblk;simp only [aa]at hblk;subst hblk;exact fun L h=>h⟩)
         (fun X' hx' h1 hF _ _=>⟨arr',h1,hA.weak fun e m h=>⟨FCR.mono hx'.F hx'.fw h.1,VR1.ext' σ hx' h.2⟩,hbn⟩)
        exact⟨undef,_,.inr ⟨by simp [execOp,ho,hrun],rfl⟩,rfl,g1,trivial,g2,by simpa using hB⟩
       rcases GH (R:=fun c u=>VR1 σ X (mV c) u) hd hy h2 0 hp with⟨h4,rfl⟩ | ⟨j,u,m,h4,h5,h6,rfl⟩
       ·have hcons:A2 (fun(e:FC × C) (m:MapEntry)=>FCR σ X.F X.w e.1 m.key∧VR1 σ X (mV e.2) m.val) [(k,vv)] [({ key:=a.eval y',val:=a.eval z',born:=arr.length }:MapEntry)]:=A2.cons (And.intro hy hz) A2.nil
        refine fin (arr++[{ key:=a.eval y',val:=a.eval z',born:=arr.length }]) ?_ (h2.append hcons) ?_
        rotate_left
        ·intro i m hm;by_cases hi:i<arr.length
         ·rw [ae hi]at hm;exact hborn i m hm
         ·rw [List.getElem?_append_right (by omega)]at hm
          have hi2:i-arr.length=0:=by
           have:=(ab.1 hm).1;simp at this;omega
          rw [hi2]at hm;simp only [ch,aa]at hm;subst hm;simp only;omega
        simp [Instr.mapUpdate,aV hu,hux,getObj,setObj,Sem.run,qo,jV ht hy hik,Instr.findKey,aV hku,h4]
       ·rw [cg]at h4;refine fin (arr.set j { m with key:=a.eval y',val:=a.eval z' }) ?_ ?_ ?_
        ·have hst:(Instr.keyThatStays m.key (a.eval y')).run Q X.w=.ok (a.eval y') X.w:=by
          simp [Instr.keyThatStays,Gh h6 10000]
         have hmod:arr.modify j (fun e=>{ e with key:=a.eval y',val:=a.eval z' })=arr.set j { m with key:=a.eval y',val:=a.eval z' }:=by
          apply List.ext_getElem?;intro i;simp only [List.getElem?_modify,cU];by_cases hij:j=i
          ·subst hij;have hlt:=(ab.1 h5).1;have hm2:=(ab.1 h5).2;simp [h5,hlt,hm2]
          ·simp [hij]
         simp [Instr.mapUpdate,aV hu,hux,getObj,setObj,Sem.run,qo,jV ht hy hik,Instr.findKey,aV hku,h4,h5,hst,hmod]
        ·refine⟨by simpa using h2.len,fun i e' m' he hm'=>?_⟩
         rw [cU]at he hm';split at he
         ·rename_i hij;subst hij;simp only [if_true]at hm';have hlt:=(ab.1 h5).1;have hlt2:=h2.len;rw [if_pos (by omega)]at he
          rw [if_pos hlt]at hm';simp only [aa]at he hm';subst he;subst hm';exact⟨hy,hz⟩
         ·rename_i hij;rw [if_neg hij]at hm';exact h2.2 i e' m' he hm'
        ·intro i m' hm';rw [cU]at hm';split at hm'
         ·rename_i hij;subst hij;split at hm'
          ·simp only [aa]at hm';subst hm';exact hborn j m h5
          ·simp at hm'
         ·exact hborn i m' hm'
      rcases pF ht with⟨h4,j,hku⟩ | ⟨h4,hku⟩ | ⟨h4,hku⟩
      ·exact go _ hku (.inl ⟨h4,j,rfl⟩)
      ·exact go _ hku (.inr (.inl ⟨h4,rfl⟩))
      ·exact go _ hku (.inr (.inr ⟨h4,rfl⟩))
     ·simp at h
    ·simp at h
   ·simp at h
  ·simp at ht
 ·simp at hm
theorem GL{c:Call}{sz:Nat}{zs:List FC}{x:Arg}(h:fB Q σ c (.clear sz zs x)=true):∃ y t e,c.callee=.builtin .clear∧c.args=#[y]∧c.argTypes=#[t]∧mA σ x y=true∧Q.underlying t=some (.slice e)∧dX Q e sz=true∧nX Q e zs=true:=by
 simp only [fB]at h;split at h
 ·rename_i y t h1 h2 h3;simp only [ag]at h;obtain⟨hx,he⟩:=h;obtain⟨e,hu,he⟩:=jP he;simp only [ag]at he;exact⟨y,t,e,h1,arr1 h2,arr1 h3,hx,hu,he.1,he.2⟩
 ·simp at h
theorem WV(hS:SR Q σ X)(hB:X.B≤X.w.heap.size){a:Act}{regs:T}(hR:RR σ X regs a.tmps){o:Oper}{sz:Nat}{zs:List FC}{x:Arg}(hm:mOp Q σ o (.clear sz zs x)=true){v:V}{H':Heap}
  (h:xOp regs X.H (.clear sz zs x)=some (v,H')):jM Q σ X v H' (execOp a.eval o):=by
 simp only [mOp]at hm;split at hm
 ·rename_i c ho;obtain⟨y,t,e,h1,h2,h3,hx,hu,hsz,hz⟩:=GL hm;have hx:=bH hR hx;simp only [xOp,am,an]at h;obtain⟨H2,hc,rfl,rfl⟩:=h;have done:VR σ X (.t []) (.tuple #[]):=⟨[],rfl,A2.nil⟩;unfold Aq at hc;split at hc
  ·rename_i p hp;rw [hp]at hx;split at hc
   ·rename_i hl;simp only [aa]at hc;subst hc;obtain⟨ad,cp,hsl⟩:=oq hx hl;refine⟨.tuple #[],X,.inl (eH ho h1 fun cs=>?_),rfl,hS,done,Ext.refl _ _,hB⟩
    cases ad<;>simp [builtin,h2,h3,Builtin.clear_,aV hu,hsl]
   ·rename_i l hl0 hl;obtain⟨ad,cp,hsl⟩:=oq hx hl;split at hc
    ·rename_i hzl;obtain⟨z,us,hz1,hz2,hz3,_⟩:=gV (σ:=σ) (X:=X) hz X.w;have hul:us.length=zs.length:=by have:=hz3.len;simp at this;omega
     have hlp:l≠0:=fun e=>hl0 (by rw [e])
     have key:∀(b o' ep:Nat),(∃ q,CR σ X (.ptr b o' ep) (.pointer (some q))∧ad=some q)→stC X.H (.ptr b o' ep) ((dw l zs).map .f)=some H2→jM Q σ X (.t []) H2 (execOp a.eval o):=by
      rintro b o' ep ⟨q,hq,rfl⟩ hst;obtain⟨cc,off,X',g1,g2,g3,g4,g5,g6,g7⟩:=UN hS hq (kX hz3 l) hst;cases g1;by_cases hzz:sz=0
      ·subst hzz;have hzn:zs=[]:=av hzl;have hun:us=[]:=av (by omega)
       subst hzn;subst hun;refine⟨.tuple #[],X',.inl (eH ho h1 fun cs=>?_),g3,g4,⟨[],rfl,A2.nil⟩,g5,by omega⟩
       have hr:dw l ([]:List Value)=[]:=by simp [dw]
       rw [hr]at g2;simp [builtin,h2,h3,Builtin.clear_,aV hu,hsl,hlp,hz1,hz2,Builtin.zeroCells]
       cases l with
       | zero=>exact absurd rfl hlp
       | succ l=>simp [g2]
      ·have hzc:Builtin.zeroCells z.cells l=(dw l us).toArray:=by
        have:=jR us l (by omega)
        simpa [Builtin.zeroCells,hz2]using this
       refine⟨.tuple #[],X',.inl (eH ho h1 fun cs=>?_),g3,g4,⟨[],rfl,A2.nil⟩,g5,by omega⟩
       simp [builtin,h2,h3,Builtin.clear_,aV hu,hsl,hz1,hzc]
       cases l with
       | zero=>exact absurd rfl hlp
       | succ l=>simp [g2]
     split at hc
     ·rename_i b o' l' cap ep s;simp only [VR,VR1,CR,CR1]at hx;split at hc
      ·rename_i cs fl hb;rw [hb]at hx;obtain⟨L,hL,_,h8⟩:=hx;rw [hsl]at h8;simp only [Value.slice.injEq]at h8;refine key b o' ep ⟨⟨L.c,o',none⟩,⟨L,hL,by rw [hb]⟩,h8.1⟩ hc
      ·rename_i s' cs fl e' hb;split at hc
       ·rename_i hce;rw [hb]at hx;obtain⟨L,hL,k,_,_,h8⟩:=hx.2.1 hce.1 hce.2;rw [hsl]at h8;simp only [Value.slice.injEq]at h8;refine key b o' ep ⟨⟨L.c,o',none⟩,⟨L,hL,?_⟩,h8.1⟩ hc;rw [hb];exact⟨hx.1,fun _=>rfl,_,rfl⟩
       ·simp at hc
      ·simp at hc
     ·simp at hc
    ·simp at hc
   ·simp at hc
  ·simp at hc
 ·simp at hm
theorem PU(hS:SR Q σ X)(hB:X.B≤X.w.heap.size){a:Act}{regs:T}(hR:RR σ X regs a.tmps){o:Oper}{x:Arg}(hm:mOp Q σ o (.oW x)=true){v:V}{H':Heap}
  (h:xOp regs X.H (.oW x)=some (v,H')):jM Q σ X v H' (execOp a.eval o):=by
 simp only [mOp]at hm;split at hm
 ·rename_i t y ho;simp only [ag]at hm;obtain⟨hx,ht⟩:=hm;have hx:=bH hR hx;simp only [xOp]at h;unfold yO at h;split at h
  ·rename_i b hv;rw [hv]at hx;obtain⟨L,hL,_,hu⟩:=hx;split at h
   ·rename_i es hb;split at h
    ·rename_i hl;simp only [aa,an]at h;obtain⟨rfl,rfl⟩:=h;obtain⟨_,_,blk,hb',hbr⟩:=hS.br b L hL;rw [hb]at hb';simp only [aa]at hb';subst hb';obtain⟨arr,g1,g2,_⟩:=hbr;split at ht
     ·rename_i kt e hu2
      obtain⟨X',h1,h2,h3,h4,h5,h6⟩:=SR.new hS hB (.mit b es.length false) (Adds.alloc X.w (.mapIter (some L.c) arr.length #[] arr.length)) 0 fun X' hx hw hF hH=>by
       obtain⟨blk',k1,k2⟩:=hx.keep b (ab.1 hb).1 _ hb;cases blk'<;>simp only at k2;refine⟨L,#[],arr.length,k2 L hL,⟨_,k1⟩,?_,rfl⟩;rw [g2.len,hw];exact(Adds.alloc _ _).new
      refine⟨.pointer (some ⟨X.w.heap.size,0,none⟩),X',.inl ?_,h2,h3,⟨_,h5,⟨b,es.length,false,by rw [h2];simp⟩,rfl⟩,h4,h6⟩
      have hg:(getObj L.c).run Q X.w=.ok (.map arr.toArray arr.length) X.w:=by simp [getObj,Sem.run,g1]
      rw [h1];simp [execOp,ho,Instr.range,aV hu2,hu,hg]
     ·simp at ht
    ·simp at h
   ·simp at h
  ·simp at h
 ·simp at hm
theorem VH(hS:SR Q σ X)(hB:X.B≤X.w.heap.size){a:Act}{regs:T}(hR:RR σ X regs a.tmps){o:Oper}{x:Arg}(hm:mOp Q σ o (.uT x)=true){v:V}{H':Heap}
  (h:xOp regs X.H (.uT x)=some (v,H')):jM Q σ X v H' (execOp a.eval o):=by
 simp only [mOp]at hm;split at hm
 ·rename_i y ho;have hx:=bH hR hm;simp only [xOp]at h;unfold ED at h;split at h
  ·rename_i b hv;rw [hv]at hx;obtain⟨L,hL,_,hu⟩:=hx;split at h
   ·rename_i m since done hb;obtain⟨_,_,blk,hb',hbr⟩:=hS.br b L hL;rw [hb]at hb';simp only [aa]at hb';subst hb';obtain⟨Lm,sn,st,g1,_,g2,g3⟩:=hbr;split at h
    ·rename_i hmm;obtain⟨_,_,blk,hb',hbr⟩:=hS.br m Lm g1;rw [hmm]at hb';simp only [aa]at hb';subst hb';obtain⟨arr,k1,k2,_⟩:=hbr;have:arr=[]:=av k2.len.symm;subst this;split at h
     ·simp at h
     ·rename_i hd;simp only [aa,an]at h;obtain⟨rfl,rfl⟩:=h;simp only [hd,aw,if_false]at g3;subst g3;refine⟨.tuple #[.bool false],X,.inl ?_,rfl,hS,⟨[.bool false],rfl,A2.cons (FCR.bool _) A2.nil⟩,Ext.refl _ _,hB⟩;simp only [execOp,ho];refine fQ ?_;simp [Instr.next,hu,getObj,Sem.run,g2,k1,Result.andThen,choose,Question.forced]
    ·rename_i e hmm;obtain⟨me,k1,k2,k3,k4⟩:=Ou hS g1 hmm;split at h
     ·rename_i hd;simp only [aa,an]at h;obtain⟨rfl,rfl⟩:=h;simp only [hd,if_true]at g3;obtain⟨rfl,rfl⟩:=g3;refine⟨.tuple #[.bool false],X,.inl ?_,rfl,hS,⟨[.bool false],rfl,A2.cons (FCR.bool _) A2.nil⟩,Ext.refl _ _,hB⟩;simp only [execOp,ho];refine fQ ?_;simp [Instr.next,hu,getObj,Sem.run,g2,k1,k4,Result.andThen,choose,Question.forced]
     ·rename_i hd;split at h
      ·rename_i hsi;subst hsi;simp only [aa,an]at h;obtain⟨rfl,rfl⟩:=h;simp only [hd,aw,if_false]at g3;subst g3
       obtain⟨q1,q2⟩:=SR.uH (o':=.mapIter (some Lm.c) 1 #[0] 1) (blk':=.mit m 1 true) hS hb hL g2 (by simp) (by simp)
        (fun blk hblk=>⟨.mit m 1 true,by simp [(ab.1 hb).1],by rw [hb]at hblk;simp only [aa]at hblk;subst hblk;exact⟨⟨rfl,rfl⟩,fun L h=>h⟩⟩)
        (fun X' hx' hw' _ pG hH=>by
         have hne:b≠m:=fun e=>by rw [e,hmm]at hb;cases hb
         exact⟨Lm,#[0],1,by rw [pG];exact g1,⟨_,by rw [hH,al hne];exact hmm⟩,hw',rfl,rfl⟩)
       refine⟨.tuple #[.bool true,me.key,me.val],_,.inl ?_,rfl,q1,?_,q2,by simpa using hB⟩
       ·simp only [execOp,ho];refine fQ ?_;simp [Instr.next,hu,getObj,setObj,Sem.run,g2,k1,k4,Result.andThen,choose,Question.forced]
       ·exact⟨[.bool true,me.key,me.val],rfl,A2.cons (FCR.bool _) (A2.cons (FCR.mono q2.F q2.fw k2) (A2.cons (VR1.ext' σ q2 k3) A2.nil))⟩
      ·simp at h
    ·simp at h
   ·simp at h
  ·simp at h
 ·simp at hm
end
section
variable{Q:Program}{σ:Nat→FuncId}{X:Wd}
def dR(a b:Blk):Prop:=
 match a with
 | .box cs fl=>(match b with
  | .box cs' fl'=>cs=cs'∧fl≤fl'
  | _=>False)
 | .opn s cs fl e st=>(match b with
  | .opn s' cs' fl' e' st'=>s=s'∧cs=cs'∧fl≤fl'∧e=e'∧st=st'
  | _=>False)
 | a=>a=b
theorem dR.refl(a:Blk):dR a a:=by cases a<;>simp [dR]
theorem dR.trans{a b c:Blk}(h:dR a b)(k:dR b c):dR a c:=by
 cases a<;>cases b<;>simp only [dR,reduceCtorEq]at h<;>cases c<;>simp only [dR,reduceCtorEq]at k ⊢
 ·exact⟨h.1.trans k.1,a7 h.2 k.2⟩
 ·exact⟨h.1.trans k.1,h.2.1.trans k.2.1,a7 h.2.2.1 k.2.2.1,h.2.2.2.1.trans k.2.2.2.1,h.2.2.2.2.trans k.2.2.2.2⟩
 all_goals exact h.trans k
def HLe(H H':Heap):Prop:=H.length=H'.length∧∀(b:Nat) blk blk',H[b]?=some blk→H'[b]?=some blk'→dR blk blk'
theorem HLe.refl(H:Heap):HLe H H:=⟨rfl,fun b blk blk' h h'=>by rw [h]at h';cases h';exact dR.refl _⟩
theorem HLe.get{H H':Heap}(h:HLe H H'){b:Nat}{blk:Blk}(hb:H[b]?=some blk):∃ blk',H'[b]?=some blk'∧dR blk blk':=by
 have hl:=(ab.1 hb).1;have hl':b<H'.length:=by have:=h.1;omega
 exact⟨_,ai hl',h.2 b _ _ hb (ai hl')⟩
theorem HLe.trans{A B C:Heap}(h:HLe A B)(k:HLe B C):HLe A C:=
 ⟨h.1.trans k.1,fun b x z hx hz=>by obtain⟨y,hy,h1⟩:=h.get hx;exact h1.trans (k.2 b y z hy hz)⟩
theorem HLe.none{H H':Heap}(h:HLe H H'){b:Nat}(hb:H[b]?=none):H'[b]?=none:=by
 rw [List.getElem?_eq_none_iff]at hb ⊢;have:=h.1;omega
theorem HLe.set{H:Heap}{b:Nat}{blk blk':Blk}(hb:H[b]?=some blk)(h:dR blk blk'):HLe H (H.set b blk'):=by
 have hl:=(ab.1 hb).1;refine⟨by simp,fun i x y hx hy=>?_⟩
 by_cases hi:i=b
 ·subst hi;simp only [cU,if_true,hl]at hy;rw [hb]at hx;cases hx;cases hy;exact h
 ·rw [al (Ne.symm hi)]at hy;rw [hx]at hy;cases hy;exact dR.refl _
theorem HLe.foldl{f:Heap→C→Heap}(hf:∀ H x,HLe H (f H x)):∀(xs:List C) (H:Heap),HLe H (xs.foldl f H)
 | [],H=>HLe.refl H
 | x::xs,H=>(hf H x).trans (HLe.foldl hf xs (f H x))
theorem nT:∀(n:Nat) (x:C) (H:Heap),HLe H (mkC n x H)
 | n,.f _,H=>by cases n<;>exact HLe.refl H
 | 0,.ptr _ _ _,H=>HLe.refl H
 | 0,.sl _ _ _ _ _ _,H=>HLe.refl H
 | 0,.cl _ _,H=>HLe.refl H
 | 0,.yl _,H=>HLe.refl H
 | 0,.mp _,H=>HLe.refl H
 | 0,.it _,H=>HLe.refl H
 | 0,.bm _ _,H=>HLe.refl H
 | 0,.mi _,H=>HLe.refl H
 | n+1,.ptr b off ep,H=>by
  simp only [mkC];split
  ·rename_i cs fl hb;exact(HLe.set hb (by exact⟨rfl,bS _ _⟩)).trans (HLe.foldl (fun H x=>nT n x H) _ _)
  ·exact HLe.refl H
 | n+1,.sl b o l c ep sz,H=>by
  simp only [mkC];split
  ·rename_i cs fl hb;exact(HLe.set hb (by exact⟨rfl,bS _ _⟩)).trans (HLe.foldl (fun H x=>nT n x H) _ _)
  ·rename_i s cs fl e st hb;exact(HLe.set hb (by exact⟨rfl,rfl,bS _ _,rfl,rfl⟩)).trans (HLe.foldl (fun H x=>nT n x H) _ _)
  ·exact HLe.refl H
 | n+1,.cl f caps,H=>HLe.foldl (fun H x=>nT n x H) _ _
 | n+1,.yl _,H=>HLe.refl H
 | n+1,.mp _,H=>HLe.refl H
 | n+1,.it _,H=>HLe.refl H
 | n+1,.bm _ _,H=>HLe.refl H
 | n+1,.mi _,H=>HLe.refl H
theorem iD{α β:Type}{f g:α→Option β}:∀ {xs:List α},(∀ x ∈ xs,f x=g x)→bC f xs=bC g xs
 | [],_=>rfl
 | x::xs,h=>by rw [bC,bC,h x (by simp),iD (xs:=xs) (fun y hy=>h y (List.mem_cons_of_mem _ hy))]
theorem qZ:∀(n:Nat) {H H':Heap},HLe H H'→∀(x:C),exC n H' x=exC n H x
 | n,H,H',h,.f _=>by cases n<;>rfl
 | 0,H,H',h,.ptr _ _ _=>rfl
 | 0,H,H',h,.sl _ _ _ _ _ _=>rfl
 | 0,H,H',h,.cl _ _=>rfl
 | 0,H,H',h,.yl _=>rfl
 | 0,H,H',h,.mp _=>rfl
 | 0,H,H',h,.it _=>rfl
 | 0,H,H',h,.bm _ _=>rfl
 | 0,H,H',h,.mi _=>rfl
 | n+1,H,H',h,.ptr b off ep=>by
  simp only [exC]
  cases hb:H[b]? with
  | none=>rw [h.none hb]
  | some blk=>
   obtain⟨blk',hb',hl⟩:=h.get hb;rw [hb'];cases blk<;>cases blk'<;>simp only [dR,reduceCtorEq]at hl
   ·obtain⟨rfl,_⟩:=hl;simp only [iD (g:=exC n H) fun x _=>qZ n h x]
   all_goals rfl
 | n+1,H,H',h,.sl b o l c ep sz=>by
  simp only [exC]
  cases hb:H[b]? with
  | none=>rw [h.none hb]
  | some blk=>
   obtain⟨blk',hb',hl⟩:=h.get hb;rw [hb'];cases blk<;>cases blk'<;>simp only [dR,reduceCtorEq]at hl
   ·obtain⟨rfl,_⟩:=hl;simp only [iD (g:=exC n H) fun x _=>qZ n h x]
   ·obtain⟨rfl,rfl,hx,rfl,rfl⟩:=hl;clear hx;rename_i st _;cases st<;>simp only [iD (g:=exC n H) fun x _=>qZ n h x]
   all_goals rfl
 | n+1,H,H',h,.cl f caps=>by simp only [exC,iD (g:=exC n H) fun x _=>qZ n h x]
 | n+1,H,H',h,.yl _=>rfl
 | n+1,H,H',h,.mp _=>rfl
 | n+1,H,H',h,.it _=>rfl
 | n+1,H,H',h,.bm _ _=>rfl
 | n+1,H,H',h,.mi _=>rfl
def Marked:Nat→Heap→C→Prop
 | _,_,.f _=>True
 | 0,_,_=>True
 | n+1,H,.ptr b _ _=>∀ cs fl,H[b]?=some (.box cs fl)→cs.length≤fl∧∀ x ∈ cs,Marked n H x
 | n+1,H,.sl b o l _ _ sz=>∀ blk,H[b]?=some blk→match blk with
  | .box cs fl=>o+l*sz≤fl∧∀ x ∈ (cs.drop o).take (l*sz),Marked n H x
  | .opn _ cs fl _ .loc=>o+l*sz≤fl∧∀ x ∈ (cs.drop o).take (l*sz),Marked n H x
  | _=>True
 | n+1,H,.cl _ caps=>∀ x ∈ caps,Marked n H x
 | _,_,_=>True
theorem Marked.le:∀(n:Nat) {H H':Heap},HLe H H'→∀ {x:C},Marked n H x→Marked n H' x
 | n,H,H',h,.f _,_=>by cases n<;>trivial
 | 0,H,H',h,.ptr _ _ _,_=>trivial
 | 0,H,H',h,.sl _ _ _ _ _ _,_=>trivial
 | 0,H,H',h,.cl _ _,_=>trivial
 | 0,H,H',h,.yl _,_=>trivial
 | 0,H,H',h,.mp _,_=>trivial
 | 0,H,H',h,.it _,_=>trivial
 | 0,H,H',h,.bm _ _,_=>trivial
 | 0,H,H',h,.mi _,_=>trivial
 | n+1,H,H',h,.ptr b off ep,hm=>by
  intro cs fl hb';have hl':=(ab.1 hb').1;have hlt:b<H.length:=by have:=h.1;omega
  have hle:=h.2 b _ _ (ai hlt) hb';cases hblk:H[b]<;>rw [hblk]at hle<;>simp only [dR,reduceCtorEq]at hle;obtain⟨rfl,hfl⟩:=hle;obtain⟨h1,h2⟩:=hm _ _ (by rw [ai hlt,hblk])
  exact⟨a7 h1 hfl,fun x hx=>Marked.le n h (h2 x hx)⟩
 | n+1,H,H',h,.sl b o l c ep sz,hm=>by
  intro blk' hb';have hl':=(ab.1 hb').1;have hlt:b<H.length:=by have:=h.1;omega
  have hle:=h.2 b _ _ (ai hlt) hb';have hm':=hm _ (ai hlt);cases hblk:H[b]<;>rw [hblk]at hle hm'<;>cases blk'<;>simp only [dR,reduceCtorEq]at hle<;>try simp only
  ·obtain⟨rfl,hfl⟩:=hle;exact⟨a7 hm'.1 hfl,fun x hx=>Marked.le n h (hm'.2 x hx)⟩
  ·obtain⟨rfl,rfl,hfl,rfl,rfl⟩:=hle;rename_i st _;cases st<;>simp only at hm' ⊢
   exact⟨a7 hm'.1 hfl,fun x hx=>Marked.le n h (hm'.2 x hx)⟩
 | n+1,H,H',h,.cl f caps,hm=>fun x hx=>Marked.le n h (hm x hx)
 | n+1,H,H',h,.yl _,_=>trivial
 | n+1,H,H',h,.mp _,_=>trivial
 | n+1,H,H',h,.it _,_=>trivial
 | n+1,H,H',h,.bm _ _,_=>trivial
 | n+1,H,H',h,.mi _,_=>trivial
theorem iK{n:Nat}(hmk:∀(x:C) (H:Heap),Marked n (mkC n x H) x):∀(xs:List C) (H:Heap),∀ x ∈ xs,Marked n (xs.foldl (fun H x=>mkC n x H) H) x
 | y::ys,H,x,hx=>by
  simp only [cm];rcases cF.1 hx with rfl | hx
  ·exact Marked.le n (HLe.foldl (fun H x=>nT n x H) ys _) (hmk x H)
  ·exact iK hmk ys _ x hx
theorem jJ:∀(n:Nat) (x:C) (H:Heap),Marked n (mkC n x H) x
 | n,.f _,H=>by cases n<;>trivial
 | 0,.ptr _ _ _,H=>trivial
 | 0,.sl _ _ _ _ _ _,H=>trivial
 | 0,.cl _ _,H=>trivial
 | 0,.yl _,H=>trivial
 | 0,.mp _,H=>trivial
 | 0,.it _,H=>trivial
 | 0,.bm _ _,H=>trivial
 | 0,.mi _,H=>trivial
 | n+1,.ptr b off ep,H=>by
  simp only [mkC]
  cases hb:H[b]? with
  | none=>intro cs fl h;exfalso;simp only at h;exact absurd (hb.symm.trans h) (by simp)
  | some blk=>
   cases blk with
   | box cs0 fl0=>
    intro cs fl h;have hlt:=(ab.1 hb).1;simp only at h ⊢;have h1:=HLe.foldl (fun H x=>nT n x H) cs0 (H.set b (.box cs0 (Nat.max fl0 cs0.length)))
    obtain⟨blk',hb',hle⟩:=h1.get (b:=b) (blk:=.box cs0 (Nat.max fl0 cs0.length)) (by simp [hlt])
    rw [h]at hb';cases hb';obtain⟨rfl,hfl⟩:=hle
    exact⟨a7 (bA _ _) hfl,fun x hx=>iK (fun x H=>jJ n x H) _ _ x hx⟩
   | _=>intro cs fl h;simp only at h;rw [hb]at h;cases h
 | n+1,.sl b o l c ep sz,H=>by
  simp only [mkC]
  cases hb:H[b]? with
  | none=>intro blk h;exfalso;simp only at h;exact absurd (hb.symm.trans h) (by simp)
  | some blk=>
   have hlt:=(ab.1 hb).1
   cases blk with
   | box cs0 fl0=>
    intro blk h;simp only at h ⊢;have h1:=HLe.foldl (fun H x=>nT n x H) ((cs0.drop o).take (l*sz)) (H.set b (.box cs0 (Nat.max fl0 (o+l*sz))))
    obtain⟨blk',hb',hle⟩:=h1.get (b:=b) (blk:=.box cs0 (Nat.max fl0 (o+l*sz))) (by simp [hlt])
    rw [h]at hb';cases hb';cases blk<;>simp only [dR,reduceCtorEq]at hle;obtain⟨rfl,hfl⟩:=hle
    exact⟨a7 (bA _ _) hfl,fun x hx=>iK (fun x H=>jJ n x H) _ _ x hx⟩
   | opn s0 cs0 fl0 e0 st0=>
    intro blk h;simp only at h ⊢;have h1:=HLe.foldl (fun H x=>nT n x H) ((cs0.drop o).take (l*sz)) (H.set b (.opn s0 cs0 (Nat.max fl0 (o+l*sz)) e0 st0))
    obtain⟨blk',hb',hle⟩:=h1.get (b:=b) (blk:=.opn s0 cs0 (Nat.max fl0 (o+l*sz)) e0 st0) (by simp [hlt])
    rw [h]at hb';cases hb';cases blk<;>simp only [dR,reduceCtorEq]at hle;obtain⟨rfl,rfl,hfl,rfl,rfl⟩:=hle;cases st0<;>simp only
    exact⟨a7 (bA _ _) hfl,fun x hx=>iK (fun x H=>jJ n x H) _ _ x hx⟩
   | _=>intro blk h;simp only at h;rw [hb]at h;cases h;simp
 | n+1,.cl f caps,H=>fun x hx=>iK (fun x H=>jJ n x H) _ _ x hx
 | n+1,.yl _,H=>trivial
 | n+1,.mp _,H=>trivial
 | n+1,.it _,H=>trivial
 | n+1,.bm _ _,H=>trivial
 | n+1,.mi _,H=>trivial
end
section
variable{Q:Program}{σ:Nat→FuncId}{X:Wd}
def dP(H H':Heap):Prop:=∀(b:Nat) blk,H[b]?=some blk→∃ blk',H'[b]?=some blk'∧dR blk blk'
theorem dP.refl(H:Heap):dP H H:=fun _ blk h=>⟨blk,h,dR.refl _⟩
theorem dP.trans{A B C:Heap}(h:dP A B)(k:dP B C):dP A C:=fun b x hx=>by
 obtain⟨y,hy,h1⟩:=h b x hx;obtain⟨z,hz,h2⟩:=k b y hy;exact⟨z,hz,h1.trans h2⟩
theorem HLe.ext{H H':Heap}(h:HLe H H'):dP H H':=fun _ _ hb=>h.get hb
theorem dP.append(H H':Heap):dP H (H++H'):=fun b blk hb=>⟨blk,by rw [ae (ab.1 hb).1];exact hb,dR.refl _⟩
theorem dP.len{H H':Heap}(h:dP H H'):H.length≤H'.length:=by
 rcases bR H'.length H.length with hlt | hge
 ·obtain⟨y,hy,_⟩:=h H'.length _ (ai hlt);have:=(ab.1 hy).1;omega
 ·exact hge
theorem SR.ahead(hS:SR Q σ X){H':Heap}(h:dP X.H H'):SR Q σ { X with H:=H' }∧Ext X.H.length X { X with H:=H' }:=by
 have hx:Ext X.H.length X { X with H:=H' }:=
  {B:=rfl,F:=fun _ _ h=>h,vW:=fun _ _ h=>.inl h,fw:=fun _ _ _=>rfl
   keep:=fun b _ blk hb=>by
    obtain⟨blk',hb',hl⟩:=h b blk hb;refine⟨blk',hb',?_⟩;cases blk<;>cases blk'<;>simp only [dR,reduceCtorEq]at hl<;>simp_all
   img:=fun b L h=>.inl ⟨b,L,h,rfl⟩,size:=aq _,os:=rfl,tape:=rfl,output:=rfl,frame:=fun _ _ _=>rfl }
 refine⟨⟨fun b L hb=>?_,hS.inj,hS.fb⟩,hx⟩
 obtain⟨h1,h2,blk,h3,h4⟩:=hS.br b L hb;obtain⟨blk',h5,h6⟩:=h b blk h3;refine⟨h1,h2,blk',h5,?_⟩;have h7:BR Q σ { X with H:=H' } blk L:=BR.ext Q σ hx rfl (fun _ h=>h) h4
 cases blk<;>cases blk'<;>simp only [dR,reduceCtorEq]at h6
 ·obtain⟨rfl,hl⟩:=h6;obtain⟨us,g1,g2,g3⟩:=h7;exact⟨us,g1,g2,fun i hi=>g3 i (a7 hl hi)⟩
 ·obtain⟨rfl,rfl,hl,rfl,rfl⟩:=h6;obtain⟨hst,us,rest,g1,g2,g3,g4,g5,g6⟩:=h7;exact⟨hst,us,rest,g1,g2,g3,g4,g5,fun i hi=>g6 i (a7 hl hi)⟩
 all_goals (rw [←h6];exact h7)
def EP:Blk→Nat→Prop
 | .box cs fl,i=>i<fl∧i<cs.length
 | .opn _ cs fl _ _,i=>i<fl∧i<cs.length
 | _,_=>False
def FL(X:Wd):Prop:=∀ b L i blk,X.rho b=some L→X.H[b]?=some blk→EP blk i→X.F L.c i
def Wd.flag(X:Wd):Wd:={ X with F:=fun c i=>X.F c i∨∃ b L blk,X.rho b=some L∧L.c=c∧X.H[b]?=some blk∧EP blk i }
theorem SR.flag(hS:SR Q σ X):SR Q σ X.flag∧Ext X.H.length X X.flag∧FL X.flag:=by
 have hx:Ext X.H.length X X.flag:=
  {B:=rfl,F:=fun _ _ h=>.inl h
   vW:=fun c i h=>by
    rcases h with h | ⟨b,L,blk,h1,h2,_⟩
    ·exact .inl h
    ·exact .inr (.inr ⟨b,L,h1,h2⟩)
   fw:=fun _ _ _=>rfl
   keep:=fun b _=>by
    intro blk hb;refine⟨blk,hb,?_⟩;cases blk<;>simp [Wd.flag]
   img:=fun b L h=>.inl ⟨b,L,h,rfl⟩,size:=aq _,os:=rfl,tape:=rfl,output:=rfl,frame:=fun _ _ _=>rfl }
 refine⟨⟨fun b L hb=>?_,hS.inj,fun c i h=>?_⟩,hx,fun b L i blk h1 h2 h3=>.inr ⟨b,L,blk,h1,rfl,h2,h3⟩⟩
 ·obtain⟨h1,h2,blk,h3,h4⟩:=hS.br b L hb;refine⟨h1,h2,blk,h3,?_⟩
  have key:∀ i,X.flag.F L.c i→X.F L.c i∨EP blk i:=by
   rintro i (h | ⟨b',L',blk',g1,g2,g3,g4⟩)
   ·exact .inl h
   ·have:b'=b:=hS.inj _ _ _ _ g1 hb g2;subst this;rw [h3]at g3;cases g3;exact .inr g4
  cases blk with
  | box cs fl=>
   obtain⟨us,g1,g2,g3⟩:=h4
   exact⟨us,g1,A2.ext' σ hx g2,fun i hi hf=>(key i hf).elim (g3 i hi) fun h=>by have:=h.1;omega⟩
  | opn sz cs fl ep st=>
   obtain⟨hst,us,rest,g1,g2,g3,g4,g5,g6⟩:=h4
   exact⟨hst,us,rest,g1,A2.ext' σ hx g2,g3,g4,g5,fun i hi hf=>(key i hf).elim (g6 i hi) fun h=>by have:=h.1;omega⟩
  | map es=>exact BR.ext Q σ hx rfl (fun i h=>(key i h).elim id False.elim) h4
  | it s p=>exact BR.ext Q σ hx rfl (fun i h=>(key i h).elim id False.elim) h4
  | dfr b=>exact BR.ext Q σ hx rfl (fun i h=>(key i h).elim id False.elim) h4
  | mit m s d=>exact BR.ext Q σ hx rfl (fun i h=>(key i h).elim id False.elim) h4
  | lp f t p a c st q d=>exact BR.ext Q σ hx rfl (fun i h=>(key i h).elim id False.elim) h4
 ·rcases h with h | ⟨b,L,blk,h1,h2,_⟩
  ·exact hS.fb c i h
  ·rw [←h2];exact(hS.br b L h1).2.1
theorem jd{α β:Type}{f:α→Option β}:∀ {xs:List α} {ys:List β},bC f xs=some ys→A2 (fun x y=>f x=some y) xs ys
 | [],ys,h=>by simp only [bC,aa]at h;subst h;exact A2.nil
 | x::xs,ys,h=>by
  simp only [bC]at h;split at h
  ·simp at h
  ·rename_i y hy;split at h
   ·simp at h
   ·rename_i ys' hys;simp only [aa]at h;subst h;exact A2.cons hy (jd hys)
theorem frz(hS:SR Q σ X)(hF:FL X){H:Heap}(hH:dP H X.H):∀(n:Nat) {x:C} {y:FC} {v:Value},exC n H x=some y→Marked n H x→CR σ X x v→FCR σ X.F X.w y v
 | n,.f x,y,v,he,_,hv=>by
  have:exC n H (.f x)=some x:=by cases n<;>rfl
  rw [this]at he;cases he
  exact hv
 | 0,.ptr _ _ _,y,v,he,_,_=>by simp [exC]at he
 | 0,.sl _ _ _ _ _ _,y,v,he,_,_=>by simp [exC]at he
 | 0,.cl _ _,y,v,he,_,_=>by simp [exC]at he
 | 0,.yl _,y,v,he,_,_=>by simp [exC]at he
 | 0,.mp _,y,v,he,_,_=>by simp [exC]at he
 | 0,.it _,y,v,he,_,_=>by simp [exC]at he
 | 0,.bm _ _,y,v,he,_,_=>by simp [exC]at he
 | 0,.mi _,y,v,he,_,_=>by simp [exC]at he
 | n+1,.ptr b off ep,y,v,he,hm,hv=>by
  simp only [exC]at he;split at he
  ·rename_i cs fl hb;simp only [am]at he;obtain⟨ys,hys,rfl⟩:=he;obtain⟨hfl,hms⟩:=hm cs fl hb;obtain⟨blk',hb',hle⟩:=hH b _ hb;cases blk'<;>simp only [dR,reduceCtorEq]at hle;obtain⟨rfl,hle⟩:=hle;rename_i fl';obtain⟨L,hL,hv⟩:=hv;simp only [hb']at hv;subst hv;obtain⟨_,_,blk,hb2,hbr⟩:=hS.br b L hL;rw [hb']at hb2;cases hb2;obtain⟨us,hrow,hus,_⟩:=hbr;have hys:=jd hys
   have:=FCR.fp (σ:=σ) (F:=X.F) (w:=X.w) ys off L.c 0 us (by rw [←hus.len,hys.len])
    (fun i hi=>by rw [cg];exact hF b L i _ hL hb' ⟨by have:=hys.len;omega,by have:=hys.len;omega⟩)
    (fun i u hu=>by rw [cg,fK hrow];exact hu)
    (fun i y u hy hu=>by
     have hi:i<cs.length:=by rw [hys.len];exact(ab.1 hy).1
     have hx:=ai hi
     exact frz hS hF hH n (hys.2 i _ _ hx hy) (hms _ (az hi)) (hus.2 i _ _ hx hu))
   rw [cg]at this;exact this
  ·simp at he
 | n+1,.sl b o l c ep sz,y,v,he,hm,hv=>by
  have key:∀(cs:List C) (fl:Nat) (blk':Blk) (L:Loc) (us rest:List Value) (ys:List FC) (cap:Nat),o+l*sz≤cs.length→o+l*sz≤fl →
    (∀ i,i<fl→i<cs.length→EP blk' i)→X.H[b]?=some blk'→X.rho b=some L→rowAt X.w L.c (us++rest)→A2 (CR σ X) cs us →
    (∀ x ∈ (cs.drop o).take (l*sz),Marked n H x)→bC (exC n H) ((cs.drop o).take (l*sz))=some ys→l≤cap→FCR σ X.F X.w (.fs ys l) (.slice (some ⟨L.c,o,none⟩) l cap):=by
   intro cs fl blk' L us rest ys cap hlen hfl aMN hb' hL hrow hus hms hys hcap;have hys:=jd hys;have hul:=hus.len;have hyl:ys.length=l*sz:=by rw [←hys.len];simp;omega
   have hsub:=(hus.drop o).take (l*sz);refine .fs ys l L.c o cap ((us.drop o).take (l*sz)) hcap (by rw [hyl];simp;omega) (fun i hi=>hF b L _ _ hL hb' (aMN _ (by omega) (by omega))) (fun i u hu=>?_) (fun i y u hy hu=>?_)
   ·have hi:i<l*sz:=by
     have:=(ab.1 hu).1;simp at this;omega
    rw [fK hrow,ae (by omega)]
    rw [List.getElem?_take_of_lt hi,aM]at hu;exact hu
   ·have hi:i<((cs.drop o).take (l*sz)).length:=by rw [hys.len];exact(ab.1 hy).1
    have hx:=ai hi;exact frz hS hF hH n (hys.2 i _ _ hx hy) (hms _ (az hi)) (hsub.2 i _ _ hx hu)
  simp only [exC]at he;simp only [CR,CR1]at hv;split at he
  ·rename_i cs fl hb;split at he
   ·rename_i hlen;simp only [am]at he;obtain⟨ys,hys,rfl⟩:=he;obtain⟨hfl,hms⟩:=hm _ hb;obtain⟨blk',hb',hle⟩:=hH b _ hb;cases blk'<;>simp only [dR,reduceCtorEq]at hle;obtain⟨rfl,hle⟩:=hle;rename_i fl';simp only [hb']at hv;obtain⟨L,hL,hcap,rfl⟩:=hv;obtain⟨_,_,blk,hb2,hbr⟩:=hS.br b L hL;rw [hb']at hb2;cases hb2;obtain⟨us,hrow,hus,_⟩:=hbr;exact key cs fl (.box cs fl') L us [] ys c hlen hfl (fun i h1 h2=>⟨by omega,h2⟩) hb' hL (by simpa using hrow) hus hms hys hcap
   ·simp at he
  ·rename_i s cs fl e hb;split at he
   ·rename_i hlen;obtain⟨rfl,rfl,hlen⟩:=hlen;simp only [am]at he;obtain⟨ys,hys,rfl⟩:=he;obtain⟨hfl,hms⟩:=hm _ hb;obtain⟨blk',hb',hle⟩:=hH b _ hb;cases blk'<;>simp only [dR,reduceCtorEq]at hle;obtain⟨rfl,rfl,hle,rfl,rfl⟩:=hle;rename_i fl';simp only [hb']at hv;obtain⟨L,hL,k,ho,hcap,rfl⟩:=hv.2.1 trivial trivial;obtain⟨_,_,blk,hb2,hbr⟩:=hS.br b L hL;rw [hb']at hb2;cases hb2;obtain⟨_,us,rest,hrow,hus,_⟩:=hbr;exact key cs fl (.opn sz cs fl' ep .loc) L us rest ys _ hlen hfl (fun i h1 h2=>⟨by omega,h2⟩) hb' hL hrow hus hms hys (by omega)
   ·simp at he
  ·rename_i s cs fl e hb;split at he
   ·rename_i hlen;obtain⟨rfl,rfl⟩:=hlen;cases he;obtain⟨blk',hb',hle⟩:=hH b _ hb;cases blk'<;>simp only [dR,reduceCtorEq]at hle;obtain⟨rfl,rfl,hle,rfl,rfl⟩:=hle;simp only [hb']at hv;obtain⟨_,_,rfl⟩:=hv.2.1 trivial trivial;exact .au
   ·simp at he
  ·rename_i s cs fl e hb;split at he
   ·rename_i hlen;obtain⟨rfl,rfl⟩:=hlen;cases he;obtain⟨blk',hb',hle⟩:=hH b _ hb;cases blk'<;>simp only [dR,reduceCtorEq]at hle;obtain⟨rfl,rfl,hle,rfl,rfl⟩:=hle;simp only [hb']at hv;obtain⟨_,_,a,rfl⟩:=hv.2.1 trivial trivial;exact .es a
   ·simp at he
  ·simp at he
 | n+1,.cl f caps,y,v,he,hm,hv=>by
  simp only [exC,am]at he;obtain⟨ys,hys,rfl⟩:=he;obtain⟨us,rfl,hus⟩:=hv;have hys:=jd hys;refine .fn f ys us (by rw [←hus.len,hys.len]) fun i y u hy hu=>?_
  have hi:i<caps.length:=by rw [hys.len];exact(ab.1 hy).1
  have hx:=ai hi
  exact frz hS hF hH n (hys.2 i _ _ hx hy) (hm _ (az hi)) (CR.of1 σ (hus.2 i _ _ hx hu))
 | n+1,.yl _,y,v,he,_,_=>by simp [exC]at he
 | n+1,.mp _,y,v,he,_,_=>by simp [exC]at he
 | n+1,.it _,y,v,he,_,_=>by simp [exC]at he
 | n+1,.bm _ _,y,v,he,_,_=>by simp [exC]at he
 | n+1,.mi _,y,v,he,_,_=>by simp [exC]at he
end
section
variable{Q:Program}{σ:Nat→FuncId}{X:Wd}
theorem SR.skip(hS:SR Q σ X){w':World}{o:Obj}(hw:Adds X.w w' o)(hB:X.B≤X.w.heap.size):∃ X':Wd,X'.w=w'∧X'.H=X.H∧SR Q σ X'∧Ext X.H.length X X'∧X'.B≤X'.w.heap.size:=by
 have hx:Ext X.H.length X { X with w:=w' }:=Ext.one hS X.H.length rfl (fun _ _=>Iff.rfl) (fun k hk _=>hw.old hk)
  (fun L i h=>by rw [SR.wL hS]at h;simp at h) (fun h=>absurd h (db _)) (fun _ _ _=>rfl) (fun _ _=>rfl) (fun L h=>.inl ⟨L,h,rfl⟩) (by show _≤w'.heap.size;rw [hw.size];omega) hw.os hw.tape hw.output
 refine⟨{ X with w:=w' },rfl,rfl,SR.step Q σ hS hx X.H.length (fun _ _=>rfl) (fun _ _=>rfl) (fun b L _ hb=>hw.old (hS.br b L hb).2.1)
  (fun _ _ _ _ _ h=>h) (fun L h=>by change X.rho X.H.length=some L at h;rw [SR.wL hS]at h;simp at h) (fun c i h=>?_),hx,?_⟩
 ·have:=hS.fb c i h;show c<w'.heap.size;rw [hw.size];omega
 ·show X.B≤w'.heap.size;rw [hw.size];omega
theorem wrap_small{n:Int}(h0:0≤n)(h1:n<2 ^ 63):IntKind.i64.wrap n=n:=by
 have:n % (2 ^ 64:Int)=n:=Int.emod_eq_of_lt h0 (by omega)
 simp only [IntKind.wrap,IntKind.bits,IntKind.signed,this,Bool.true_and,decide_eq_true_eq];rw [if_neg (by show¬ n≥2 ^ (64-1);omega)]
theorem La(hS:SR Q σ X)(hB:X.B≤X.w.heap.size){a:Act}{regs:T}(hR:RR σ X regs a.tmps){o:Oper}{sz bytes:Nat}{zs:List FC}{x y:Arg}(hm:mOp Q σ o (.dK sz bytes zs x y)=true){v:V}{H':Heap}
  (h:xOp regs X.H (.dK sz bytes zs x y)=some (v,H')):jM Q σ X v H' (execOp a.eval o):=by
 simp only [mOp]at hm;split at hm
 ·rename_i t x' y' ho;simp only [ag,decide_eq_true_eq]at hm;obtain⟨⟨⟨hx,hy⟩,he⟩,hpos⟩:=hm;have hx:=bH hR hx;have hy:=bH hR hy;obtain⟨e,hu,he⟩:=jP he;simp only [ag]at he;obtain⟨⟨hsz,hby⟩,hz⟩:=he;obtain⟨z,us,hz1,hz2,hz3,inf,hi1,hi2⟩:=gV (σ:=σ) (X:=X) hz X.w;obtain⟨inf',hb1,hb2⟩:=En hby X.w;simp only [xOp]at h;split at h
  ·rename_i l c hl hc;obtain⟨kl,hxl⟩:=kR hx hl;obtain⟨kc,hyc⟩:=kR hy hc;split at h
   ·rename_i hcond;obtain⟨h0,hlc,hroom,hzl⟩:=hcond;unfold bK at hroom;simp only [ag,decide_eq_true_eq]at hroom;have hul:us.length=sz:=by have:=hz3.len;simp at this;omega
    have hwl:=wrap_small (n:=l) h0 (by omega)
    have hwc:=wrap_small (n:=c) (by omega) (by omega)
    have aQZ:c.toNat*bytes≤2 ^ 48:=by
     have:c.toNat*bytes≤(2*c.toNat+768)*bytes:=ce _ (by omega)
     omega
    have hbig:¬ ((bytes:Int)*c>2 ^ 48):=by
     have e1:(bytes:Int)*c=((c.toNat*bytes:Nat):Int):=by
      rw [Int.natCast_mul,Int.mul_comm];congr 1;omega
     rw [e1];omega
    have hrow:((Array.range (c.toNat*sz)).map fun i=>us.toArray[i % us.toArray.size]!)=(dw c.toNat us).toArray:=by
     have:=jR us c.toNat (by omega);rwa [hul]at this
    have run:(execOp a.eval o).run Q X.w=.ok (.value (.slice (some ⟨X.w.heap.size,0,none⟩) l.toNat c.toNat)) (X.w.alloc (.cells (dw c.toNat us).toArray e)):=by
     simp only [execOp,ho];refine fQ ?_;rw [hxl,hyc];have hc1:¬ c<0:=by omega
     have hl1:¬ l<0:=by omega
     have Wy:¬ l>c:=by omega
     by_cases hc0:c.toNat*sz=0
     ·have hr0:dw c.toNat us=[]:=av (by rw [oz,hul];exact hc0)
      have uo:((decide (c<0)||decide ((bytes:Int)*c>2 ^ 48))||decide (l<0)||decide (l>c))=false:=by rw [decide_eq_false hc1,decide_eq_false hl1,decide_eq_false Wy,decide_eq_false hbig];rfl
      simp only [Instr.makeSlice,Sem.run_bind,aV hu,asInt,asIntOf,Sem.run_pure,Result.andThen_ok,hb1,hb2,hwl,hwc,run_askRoom,dJ hsz];simp only [uo,aw,if_false,Sem.run_ite,if_pos hc0,Sem.run_bind,Result.andThen_ok,Sem.run_pure,run_askRoom,dJ hsz,newRow,run_newObj];rw [hc0,hr0,show(Array.map (fun x=>(#[]:Array Value)[x % (#[]:Array Value).size]!) (Array.range 0))=#[] from by simp [show Array.range 0=(#[]:Array Nat) from rfl]];rfl
     ·simp only [Instr.makeSlice,Sem.run_bind,aV hu,asInt,asIntOf,Sem.run_pure,Result.andThen_ok,hb1,hb2,hwl,hwc,run_askRoom,dJ hsz];have uo:((decide (c<0)||decide ((bytes:Int)*c>2 ^ 48))||decide (l<0)||decide (l>c))=false:=by rw [decide_eq_false hc1,decide_eq_false hl1,decide_eq_false Wy,decide_eq_false hbig];rfl
      simp only [uo,aw,if_false,Sem.run_ite,if_neg hc0,Sem.run_bind,hz1,hz2,Result.andThen_ok,Sem.run_pure,run_askRoom,dJ hsz,hrow,newRow,run_newObj];rfl
    split at h
    ·rename_i hc0;subst hc0;simp only [aa,an]at h;obtain⟨rfl,rfl⟩:=h;have:l=0:=by omega
     subst this;obtain⟨X',g1,g2,g3,g4,g5⟩:=SR.skip hS (Adds.alloc X.w (.cells (dw (0:Int).toNat us).toArray e)) hB;exact⟨_,X',.inl (by rw [g1];exact run),g2,g3,FCR.es _,g4,g5⟩
    ·simp only [aa,an]at h;obtain⟨rfl,rfl⟩:=h;obtain⟨X',g1,g2,g3,g4,g5,g6⟩:=KZ hS hB (kX hz3 c.toNat) e;refine⟨_,X',.inl (by rw [g1];exact run),g2,g3,?_,g4,g6⟩
     have hnew:X'.H[X.H.length]?=some (.box ((dw c.toNat zs).map .f) 0):=by rw [g2];simp
     simp only [VR,VR1,CR,CR1,hnew];exact⟨_,g5,by omega,rfl⟩
   ·simp at h
  ·simp at h
 ·simp at hm
theorem aIU(H:Heap):∀ x,exC 0 H x=fcC x:=fun x=>by cases x<;>rfl
theorem asA(hS:SR Q σ X)(hB:X.B≤X.w.heap.size){a:Act}{regs:T}(hR:RR σ X regs a.tmps){o:Oper}{sz:Nat}{x hi mx:Arg}(hm:mOp Q σ o (.BH sz x hi mx)=true){v:V}{H':Heap}
  (h:xOp regs X.H (.BH sz x hi mx)=some (v,H')):jM Q σ X v H' (execOp a.eval o):=by
 simp only [mOp]at hm;split at hm
 ·rename_i t y hi' mx' ho;simp only [ag,decide_eq_true_eq]at hm;obtain⟨⟨⟨⟨hx,h2⟩,h3⟩,he⟩,hz⟩:=hm;obtain⟨e,hu,hsz⟩:=jP he;simp only [xOp]at h;unfold F6 at h;have o1:OR X σ none none:=trivial;have o2:OR X σ (some (hi.ev regs)) (some (a.eval hi')):=bH hR h2;have o3:OR X σ (some (mx.ev regs)) (some (a.eval mx')):=bH hR h3;have hx:=bH hR hx;split at h
  ·rename_i v' hv;simp only [aa,an]at h;obtain⟨rfl,rfl⟩:=h;obtain⟨r,h4,h5⟩:=CP hu hsz hx o1 o2 o3 hv;exact⟨r,X,.inl (by simp only [execOp,ho];exact fQ h4),rfl,hS,h5,Ext.refl _ _,hB⟩
  ·split at h
   ·rename_i b o' n c' ep s hxe;rw [hxe]at hx;simp only [VR,VR1,CR,CR1]at hx;split at h
    ·rename_i s' cs fl e' hb;rw [hb]at hx;split at h
     ·rename_i hc;obtain⟨rfl,rfl,rfl,rfl⟩:=hc;split at h
      ·rename_i i j hi1 hj1;split at h
       ·rename_i hij;obtain⟨rfl,hpos,hlen⟩:=hij;split at h
        ·rename_i ys hys;simp only [aa,an]at h;obtain⟨rfl,rfl⟩:=h;obtain⟨L,hL,k,hk,hkl,hue⟩:=hx.2.1 rfl rfl
         have hk0:k=0:=by
          rcases Nat.eq_zero_or_pos k with h | h
          ·exact h
          ·have:=Nat.mul_pos h hz;omega
         subst hk0
         have hin:i≤n:=by
          unfold bnd at hi1;split at hi1
          ·split at hi1
           ·rename_i hh;simp only [aa]at hi1;omega
           ·simp at hi1
          ·simp at hi1
         have hbd:dh n n none (some (hi.ev regs)) (some (mx.ev regs))=some (0,i,i):=by
          have hi2:bnd (hi.ev regs) i=some i:=by
           unfold bnd at hi1 ⊢;split at hi1
           ·split at hi1
            ·rename_i hh;simp only [aa]at hi1;rw [if_pos ⟨hh.1,by omega⟩,hi1]
            ·simp at hi1
           ·simp at hi1
          simp [dh,hj1,hi2]
         obtain⟨h4,_,_,_⟩:=fF (Q:=Q) o1 o2 o3 hbd (cap:=L.cap) (by omega) (aq n) true X.w
         have h6:=gY (a:=some ⟨L.c,0,none⟩) hu hsz h4;have hle:HLe X.H (X.H.set b (.opn s' cs (Nat.max fl (i*s')) ep .loc)):=HLe.set hb ⟨rfl,rfl,bS _ _,rfl,rfl⟩;obtain⟨g1,g2⟩:=SR.ahead hS hle.ext;obtain⟨g3,g4,g5⟩:=SR.flag g1;have hlt:=(ab.1 hb).1;have hnew:(X.H.set b (.opn s' cs (Nat.max fl (i*s')) ep .loc))[b]?=some (.opn s' cs (Nat.max fl (i*s')) ep .loc):=by simp [hlt]
         have hex:exC 1 (X.H.set b (.opn s' cs (Nat.max fl (i*s')) ep .loc)) (.sl b 0 i 0 ep s')=some (.fs ys i):=by
          simp only [exC,hnew];rw [if_pos ⟨trivial,trivial,by omega⟩,iD (g:=fcC) fun x _=>aIU _ x,cG,hys]
          rfl
         have hmk:Marked 1 (X.H.set b (.opn s' cs (Nat.max fl (i*s')) ep .loc)) (.sl b 0 i 0 ep s'):=by
          intro blk hblk;rw [hnew]at hblk;cases hblk;refine⟨by have:=bA fl (i*s');simp only [cg];exact this,fun x _=>?_⟩
          cases x<;>trivial
         have hcr:CR σ ({ X with H:=X.H.set b (.opn s' cs (Nat.max fl (i*s')) ep .loc) }:Wd).flag (.sl b 0 i 0 ep s') (.slice (some ⟨L.c,0,none⟩) i L.cap):=by
          simp only [CR,CR1,Wd.flag,hnew];exact⟨aq _,fun _ _=>⟨L,hL,0,by omega,by omega,by simp⟩,_,_,_,rfl⟩
         have hf:=frz g3 g5 (dP.refl _) 1 hex hmk hcr
         have hfin:FCR σ ({ X with H:=X.H.set b (.opn s' cs (Nat.max fl (i*s')) ep .loc) }:Wd).flag.F X.w (.fs ys i) (.slice (some ⟨L.c,0,none⟩) i i):=by
          cases hf with
          | fs _ _ c o2 cap us hcap hl hF hc hr=>exact .fs _ _ _ _ _ us (aq _) hl hF hc hr
          | fs0 a2 cap=>omega
         refine⟨.slice (some ⟨L.c,0,none⟩) i i,({ X with H:=X.H.set b (.opn s' cs (Nat.max fl (i*s')) ep .loc) }:Wd).flag,.inl ?_,rfl,g3,hfin,g2.trans (g4.mono (by simp)),hB⟩
         simp only [execOp,ho];refine fQ ?_;rw [hue];simp [show i≠0 by omega,gu]at h6
         exact h6
        ·simp at h
       ·simp at h
      ·simp at h
     ·simp at h
    ·simp at h
   ·simp at h
 ·simp at hm
theorem aEm(hS:SR Q σ X)(hB:X.B≤X.w.heap.size){a:Act}{regs:T}(hR:RR σ X regs a.tmps){o:Oper}{op:AOp}(hm:mOp Q σ o op=true){v:V}{H':Heap}
  (h:xOp regs X.H op=some (v,H')):jM Q σ X v H' (execOp a.eval o):=by
 cases hfs:op.fsl
 case true=>
  cases op<;>simp only [AOp.fsl,reduceCtorEq]at hfs;obtain⟨rfl,u,X',h1,h2,h3,h4,h5,h6,_⟩:=Dt hS hB hR hm h;exact⟨u,X',.inl h1,h2,h3,h4,h5,h6⟩
 by_cases hc:cls op=.p∨cls op=.r
 ·exact jM.aLN hB hS (aDY hS hR hm hc hfs h)
 ·cases op with
  | pre st sz=>exact aFs hS hB hm h
  | alloc zs=>
   simp only [xOp,aa,an]at h;obtain⟨rfl,rfl⟩:=h
   exact Xl hS hB hm
  | box x=>
   simp only [xOp]at h;split at h
   ·rename_i xs hxs;simp only [aa,an]at h;obtain⟨rfl,rfl⟩:=h;exact aJo hS hB hR hm hxs
   ·simp at h
  | aP sz zs n ps=>exact QI hS hB hR hm h
  | store n x y=>exact UK hS hB hR hm h
  | nJ=>
   simp only [xOp,aa,an]at h;obtain⟨rfl,rfl⟩:=h
   exact VN hS hB hm
  | nK ck x y z=>exact VQ hS hB hR hm h
  | dK sz by' zs x y=>exact La hS hB hR hm h
  | range x=>exact U7 hS hB hR hm h
  | next x=>exact av8 hS hB hR hm h
  | append sz by' x y=>exact QL hS hB hR hm h
  | Md x=>simp [mOp]at hm
  | copy sz x y=>simp [mOp]at hm
  | clear sz zs x=>exact WV hS hB hR hm h
  | yJ sz by' zs x y=>exact axj hS hB hR hm h
  | oW x=>exact PU hS hB hR hm h
  | BH sz x y z=>exact asA hS hB hR hm h
  | uT x=>exact VH hS hB hR hm h
  | call f xs h'=>simp [xOp]at h
  | bW x xs h'=>simp [xOp]at h
  | recover=>simp [xOp]at h
  | defer x xs=>simp [xOp]at h
  | bad=>simp [xOp]at h
  | _=>exact absurd (by simp [cls]) hc
end
section
variable{Q:Program}{σ:Nat→FuncId}{X:Wd}
def pU(n:Nat)(H:Heap):V→Prop
 | .c x=>Marked n H x
 | .a xs=>∀ x ∈ xs,Marked n H x
 | _=>True
theorem pU.le{n:Nat}{H H':Heap}(h:HLe H H'){v:V}(hm:pU n H v):pU n H' v:=by
 cases v with
 | c x=>exact Marked.le n h hm
 | a xs=>exact fun x hx=>Marked.le n h (hm x hx)
 | _=>trivial
theorem aH6(n:Nat)(v:V)(H:Heap):HLe H (mkV n H v):=by
 cases v with
 | c x=>exact nT n x H
 | a xs=>exact HLe.foldl (fun H x=>nT n x H) xs H
 | _=>exact HLe.refl H
theorem Le(n:Nat)(v:V)(H:Heap):pU n (mkV n H v) v:=by
 cases v with
 | c x=>exact jJ n x H
 | a xs=>exact fun x hx=>iK (fun x H=>jJ n x H) xs H x hx
 | _=>trivial
theorem rW(n:Nat):∀(vs:List V) (H:Heap),HLe H (vs.foldl (mkV n) H)
 | [],H=>HLe.refl H
 | v::vs,H=>(aH6 n v H).trans (rW n vs _)
theorem xU(n:Nat):∀(vs:List V) (H:Heap),∀ v ∈ vs,pU n (vs.foldl (mkV n) H) v
 | u::vs,H,v,hv=>by
  rcases cF.1 hv with rfl | hv
  ·exact(Le n v H).le (rW n vs _)
  ·exact xU n vs _ v hv
def FV1(σ:Nat→FuncId)(F:Nat→Nat→Prop)(w:World)(v:V)(u:Value):Prop:=∀ X:Wd,X.F=F→X.w=w→VR1 σ X v u
def FV(σ:Nat→FuncId)(F:Nat→Nat→Prop)(w:World)(v:V)(u:Value):Prop:=∀ X:Wd,X.F=F→X.w=w→VR σ X v u
theorem aD7(hS:SR Q σ X)(hF:FL X){H:Heap}(hH:dP H X.H){n:Nat}{v v':V}{u:Value}(he:dB n H v=some v')(hm:pU n H v)(hv:VR1 σ X v u):FV1 σ X.F X.w v' u:=by
 intro Z hZF hZw
 cases v with
 | c x=>
  simp only [dB,am]at he;obtain⟨y,hy,rfl⟩:=he;have:=frz hS hF hH n hy hm hv;rw [←hZF,←hZw]at this
  exact this
 | a xs=>
  simp only [dB,am]at he;obtain⟨ys,hys,rfl⟩:=he;obtain⟨us,rfl,hus⟩:=hv;have hys:=jd hys;refine⟨us,rfl,A2.map ⟨by rw [←hus.len,hys.len],fun i y u hy hu=>?_⟩⟩
  have hi:i<xs.length:=by rw [hys.len];exact(ab.1 hy).1
  have hx:=ai hi;have:=frz hS hF hH n (hys.2 i _ _ hx hy) (hm _ (az hi)) (hus.2 i _ _ hx hu);rw [←hZF,←hZw]at this
  exact this
 | top=>simp [dB]at he
 | t vs=>simp [dB]at he
def Blk.full:Blk→Blk
 | .box cs fl=>.box cs (Nat.max fl cs.length)
 | .opn s cs fl e st=>.opn s cs (Nat.max fl cs.length) e st
 | b=>b
theorem EN(H:Heap):HLe H (H.map Blk.full):=by
 refine⟨by simp,fun b x y hx hy=>?_⟩
 rw [b8,hx]at hy;simp only [bz,aa]at hy;subst hy;cases x<;>simp [dR,Blk.full,bS]
theorem jh:∀(n:Nat) {H:Heap} {x:C} {y:FC},exC n H x=some y→Marked n (H.map Blk.full) x
 | n,H,.f _,y,_=>by cases n<;>trivial
 | 0,H,.ptr _ _ _,y,_=>trivial
 | 0,H,.sl _ _ _ _ _ _,y,_=>trivial
 | 0,H,.cl _ _,y,_=>trivial
 | 0,H,.yl _,y,_=>trivial
 | 0,H,.mp _,y,_=>trivial
 | 0,H,.it _,y,_=>trivial
 | 0,H,.bm _ _,y,_=>trivial
 | 0,H,.mi _,y,_=>trivial
 | n+1,H,.ptr b off ep,y,he=>by
  intro cs fl hb;rw [b8]at hb;simp only [exC]at he;split at he
  ·rename_i cs' fl' hb';rw [hb']at hb;simp only [bz,aa,Blk.full,Blk.box.injEq]at hb;obtain⟨rfl,rfl⟩:=hb;simp only [am]at he;obtain⟨ys,hys,rfl⟩:=he;refine⟨bA _ _,fun x hx=>?_⟩
   obtain⟨i,hi⟩:=cd hx;obtain⟨y,_,hy⟩:=(jd hys).get hi;exact jh n hy
  ·simp at he
 | n+1,H,.sl b o l c ep sz,y,he=>by
  intro blk hb;rw [b8]at hb;simp only [exC]at he;split at he
  ·rename_i cs' fl' hb';rw [hb']at hb;simp only [bz,aa,Blk.full]at hb;subst hb;split at he
   ·rename_i hlen;simp only [am]at he;obtain⟨ys,hys,rfl⟩:=he;refine⟨a7 hlen (bA _ _),fun x hx=>?_⟩
    obtain⟨i,hi⟩:=cd hx;obtain⟨y,_,hy⟩:=(jd hys).get hi;exact jh n hy
   ·simp at he
  ·rename_i s cs' fl' e hb';rw [hb']at hb;simp only [bz,aa,Blk.full]at hb;subst hb;split at he
   ·rename_i hlen;simp only [am]at he;obtain⟨ys,hys,rfl⟩:=he;refine⟨a7 hlen.2.2 (bA _ _),fun x hx=>?_⟩
    obtain⟨i,hi⟩:=cd hx;obtain⟨y,_,hy⟩:=(jd hys).get hi;exact jh n hy
   ·simp at he
  ·rename_i s cs' fl' e hb';rw [hb']at hb;simp only [bz,aa,Blk.full]at hb;subst hb;trivial
  ·rename_i s cs' fl' e hb';rw [hb']at hb;simp only [bz,aa,Blk.full]at hb;subst hb;trivial
  ·simp at he
 | n+1,H,.cl f caps,y,he=>by
  simp only [exC,am]at he;obtain⟨ys,hys,rfl⟩:=he;intro x hx;obtain⟨i,hi⟩:=cd hx;obtain⟨y,_,hy⟩:=(jd hys).get hi
  exact jh n hy
 | n+1,H,.yl _,y,he=>trivial
 | n+1,H,.mp _,y,he=>trivial
 | n+1,H,.it _,y,he=>trivial
 | n+1,H,.bm _ _,y,he=>trivial
 | n+1,H,.mi _,y,he=>trivial
theorem EM{n:Nat}{H:Heap}{v v':V}(he:dB n H v=some v'):pU n (H.map Blk.full) v:=by
 cases v with
 | c x=>
  simp only [dB,am]at he;obtain⟨y,hy,rfl⟩:=he
  exact jh n hy
 | a xs=>
  simp only [dB,am]at he;obtain⟨ys,hys,rfl⟩:=he;intro x hx;obtain⟨i,hi⟩:=cd hx;obtain⟨y,_,hy⟩:=(jd hys).get hi
  exact jh n hy
 | _=>trivial
def Wd.inner(X:Wd):Wd:=⟨fun _=>none,X.F,[],X.w,X.w.heap.size⟩
theorem SR.inner(hS:SR Q σ X):SR Q σ X.inner:=⟨fun b L h=>by simp [Wd.inner]at h,fun b b' L L' h=>by simp [Wd.inner]at h,hS.fb⟩
def Wd.mD(Y:Wd):Wd:=Wd.flag { Y with H:=Y.H.map Blk.full }
theorem SR.mD{Y:Wd}(hS:SR Q σ Y):SR Q σ Y.mD∧Ext Y.H.length Y Y.mD∧FL Y.mD:=by
 obtain⟨h1,h2⟩:=SR.ahead hS (EN Y.H).ext;obtain⟨h3,h4,h5⟩:=SR.flag h1;exact⟨h3,h2.trans (h4.mono (by simp)),h5⟩
theorem LX{Y:Wd}(hS:SR Q σ Y){n:Nat}{v v':V}{u:Value}(he:exV n Y.H v=some v')(hv:VR σ Y v u):FV σ Y.mD.F Y.w v' u:=by
 obtain⟨h1,h2,h3⟩:=SR.mD hS;have hv':=VR.ext' σ h2 hv
 have one:∀ {v v':V} {u:Value},dB n Y.H v=some v'→VR1 σ Y.mD v u→FV1 σ Y.mD.F Y.w v' u:=by
  intro v v' u he hv
  have he':dB n Y.mD.H v=some v':=by
   show dB n (Y.H.map Blk.full) v=some v'
   cases v with
   | c x=>simp only [dB]at he ⊢;rw [qZ n (EN Y.H)];exact he
   | a xs=>simp only [dB]at he ⊢;rw [iD (fun x _=>qZ n (EN Y.H) x)];exact he
   | _=>simp [dB]at he
  exact aD7 h1 h3 (dP.refl _) he' (EM he) hv
 intro Z hZF hZw
 cases v with
 | t vs=>
  simp only [exV,am]at he;obtain⟨vs',hvs,rfl⟩:=he;obtain⟨us,rfl,hus⟩:=hv';have hvs:=jd hvs;refine⟨us,rfl,by rw [←hus.len,hvs.len],fun i y u hy hu=>?_⟩
  have hi:i<vs.length:=by rw [hvs.len];exact(ab.1 hy).1
  have hx:=ai hi
  exact one (hvs.2 i _ _ hx hy) (hus.2 i _ _ hx hu) Z hZF hZw
 | c x=>exact VR.of1 σ (one (v:=.c x) he hv' Z hZF hZw)
 | a xs=>exact VR.of1 σ (one (v:=.a xs) he hv' Z hZF hZw)
 | top=>simp [exV,dB]at he
theorem SR.outer(hS:SR Q σ X)(hB:X.B≤X.w.heap.size){Y:Wd}(hY:SR Q σ Y)(hx:Ext 0 X.inner Y) :
  SR Q σ { X with F:=Y.mD.F,w:=Y.w }∧Ext X.H.length X { X with F:=Y.mD.F,w:=Y.w }∧X.B≤Y.w.heap.size:=by
 obtain⟨h1,h2,h3⟩:=SR.mD hY;have hsz:X.w.heap.size≤Y.w.heap.size:=hx.size;have hblk:∀ k,k<X.w.heap.size→Y.w.heap[k]?=X.w.heap[k]?:=fun k hk=>hx.frame k hk (fun b L h=>by simp [Wd.inner]at h)
 have hnew:∀ c i,Y.mD.F c i→X.F c i∨X.w.heap.size≤c:=by
  intro c i h;rcases h2.vW c i h with h | h | ⟨b,L,hb,rfl⟩
  ·rcases hx.vW c i h with h | h | ⟨b,L,hb,_⟩
   ·exact .inl h
   ·exact .inr h
   ·simp [Wd.inner]at hb
  ·exact .inr (a7 hsz h)
  ·have:=(hY.br b L hb).1;rw [hx.B]at this;exact .inr this
 have hext:Ext X.H.length X { X with F:=Y.mD.F,w:=Y.w }:=
  {B:=rfl,F:=fun c i h=>h2.F c i (hx.F c i h)
   vW:=fun c i h=>(hnew c i h).elim .inl fun h=>.inr (.inl h)
   fw:=fun c i h=>hx.fw c i h
   keep:=fun b _ blk hb=>⟨blk,hb,by cases blk<;>simp⟩
   img:=fun b L h=>.inl ⟨b,L,h,rfl⟩,size:=hsz,os:=hx.os,tape:=hx.tape,output:=hx.output,frame:=fun k hk _=>hblk k hk }
 refine⟨⟨fun b L hb=>?_,hS.inj,fun c i h=>h1.fb c i h⟩,hext,a7 hB hsz⟩
 obtain⟨g1,g2,blk,g3,g4⟩:=hS.br b L hb;refine⟨g1,cj g2 hsz,blk,g3,BR.ext Q σ hext (hblk _ g2) (fun i h=>?_) g4⟩
 rcases hnew _ _ h with h | h
 ·exact h
 ·omega
end
section
variable{Q:Program}{σ:Nat→FuncId}{X:Wd}
def Post(Q:Program)(σ:Nat→FuncId)(X:Wd)(v:V)(H':Heap)(X':Wd)(u:Value):Prop:=
 X'.H=H'∧SR Q σ X'∧VR σ X' v u∧Ext X.H.length X X'∧X'.B≤X'.w.heap.size
def tZ(kind:CallKind)(cs:List Frame):Prop:=kind=.normal∨(kind=.deferred∧∃ c rest,cs=c::rest∧c.mode=.returning)
def kQ(b:Frame)(cs:List Frame):Prop:=tZ b.kind cs
theorem tZ.P5{fr:Frame}{cs:List Frame}(h:tZ fr.kind cs):tryRecover fr cs=none:=by
 unfold tryRecover;rcases h with h | ⟨h,c,rest,rfl,hm⟩
 ·rw [h]
 ·rw [h];simp [hm]
def Leaves(Q:Program)(f:FuncId)(kind:CallKind)(fr:Frame)(u:Value)(w:World):Prop:=
 fr.mode=.returning∧fr.defers=[]∧fr.kind=kind∧fr.fn=f∧∃ fn,Q.funcs[f]?=some fn∧(Go.results fn fr.tmps).run Q w=.ok u w
structure iG(Q:Program)(σ:Nat→FuncId)(call:dD):Prop where
 enters:∀ f args H r,call (.fn f) args H=some r→∀ as w,(callFunc (σ f) as).run Q w=.ok (.enter (σ f) as) w
 fn:∀ f args H r H',call (.fn f) args H=some (r,H')→∀(X:Wd) us kind cs,X.H=H→SR Q σ X→X.B≤X.w.heap.size→A2 (VR σ X) args us→tZ kind cs →
  ∃ fr X' u,Steps Q (lone (Frame.enter Q (σ f) us.toArray kind) cs X.w) (lone fr cs X'.w)∧Leaves Q (σ f) kind fr u X'.w∧Post Q σ X r H' X' u
 yield:∀ b args H r H',call (.yield b) args H=some (r,H')→∀(X:Wd) us c cs L,X.H=H→SR Q σ X→X.B≤X.w.heap.size→A2 (VR σ X) args us→X.rho b=some L →
  ∃ f tmps as bd X' u,(Instr.yield L.c us.toArray).run Q X.w=.ok (.round L.c f tmps as bd) X.w ∧
   Steps Q (lone (Frame.round L.c f tmps as bd .normal) (c::cs) X.w) (lone (c.finish u) cs X'.w)∧Post Q σ X r H' X' u
def dN(Q:Program)(σ:Nat→FuncId)(X:Wd)(o:Oper)(a:Act)(v:V)(H':Heap):Prop:=
 ∀(b:Frame) (ops:Array Oper) (i:Nat) (rest:List Nat) (k:List Item) (cs:List Frame),ops[i]?=some o→Region.wanted o (yielded ops a.tmps)=true→kQ b cs →
  ∃ X' u,Steps Q (lone (b.atR a (.inRegion ops (i::rest)::k)) cs X.w) (lone (b.atR (a.put o.dst u) (.inRegion ops rest::k)) cs X'.w)∧Post Q σ X v H' X' u
theorem dN.aLO{o:Oper}{a:Act}{v:V}{H':Heap}(hd:∀ c,o.op≠.defer c)(h:jM Q σ X v H' (execOp a.eval o)):dN Q σ X o a v H':=by
 intro b ops i rest k cs ho hw hk;obtain⟨u,X',hrun,h1,h2,h3,h4,h5⟩:=h;refine⟨X',u,.one (step_lone_go ?_),h1,h2,h3,h4,h5⟩;rw [stepGR_op ho hw,Oper.semAt_eq _ _ _ hd];have hfin:=Frame.finish_atR b a ops i rest k u;rw [ho]at hfin;simp only [bh]at hfin;rw [←hfin];rcases hrun with hrun | ⟨hrun,rfl⟩<;>simp [stepG.apply,Sem.runT_eq,hrun]
theorem dN.zN{o:Oper}{a:Act}{v:V}{H':Heap}(hd:∀ c,o.op≠.defer c){f:FuncId}{us:Array Value}(hrun:(execOp a.eval o).run Q X.w=.ok (.enter f us) X.w)
  (h:∀ cs,∃ fr X' u,Steps Q (lone (Frame.enter Q f us .normal) cs X.w) (lone fr cs X'.w)∧Leaves Q f .normal fr u X'.w∧Post Q σ X v H' X' u):dN Q σ X o a v H':=by
 intro b ops i rest k cs ho hw hk;obtain⟨fr,X',u,h1,⟨l1,l2,l3,l4,fn,l5,l6⟩,h3⟩:=h (b.atR a (.inRegion ops (i::rest)::k)::cs);refine⟨X',u,.head (step_lone_go (fr':=Frame.enter Q f us .normal) (cs':=b.atR a (.inRegion ops (i::rest)::k)::cs) (w':=X.w) ?_) (h1.trans (.one ?_)),h3⟩
 ·rw [stepGR_op ho hw,Oper.semAt_eq _ _ _ hd];simp [stepG.apply,Sem.runT_eq,hrun,Frame.atR]
 ·have hfin:=Frame.finish_atR b a ops i rest k u;rw [ho]at hfin;simp only [bh]at hfin;rw [←hfin];exact step_leave_returned ⟨l1,l2,l3,fn,by rw [l4];exact l5,l6⟩
theorem dN.VF{o:Oper}{a:Act}{v:V}{H':Heap}(hd:∀ c,o.op≠.defer c){l:Nat}{f:FuncId}{tmps:Array Value}{as bd:Code}(hrun:(execOp a.eval o).run Q X.w=.ok (.round l f tmps as bd) X.w)
  (h:∀ c cs,∃ X' u,Steps Q (lone (Frame.round l f tmps as bd .normal) (c::cs) X.w) (lone (c.finish u) cs X'.w)∧Post Q σ X v H' X' u):dN Q σ X o a v H':=by
 intro b ops i rest k cs ho hw hk;obtain⟨X',u,h1,h3⟩:=h (b.atR a (.inRegion ops (i::rest)::k)) cs;refine⟨X',u,.head (step_lone_go (fr':=Frame.round l f tmps as bd .normal) (cs':=b.atR a (.inRegion ops (i::rest)::k)::cs) (w':=X.w) ?_) ?_,h3⟩
 ·rw [stepGR_op ho hw,Oper.semAt_eq _ _ _ hd];simp [stepG.apply,Sem.runT_eq,hrun,Frame.atR]
 ·have hfin:=Frame.finish_atR b a ops i rest k u;rw [ho]at hfin;simp only [bh]at hfin;rw [←hfin];exact h1
theorem uw{x:V}{u:Value}{args:List V}{us:List Value}{c:Callee}{args':List V}(hc:fA x args=some (c,args'))(hx:VR σ X x u)(ha:A2 (VR σ X) args us) :
  match c with
  | .fn f=>∃ fst cap:List Value,u=.func (.func (σ f)) fst.toArray cap.toArray∧A2 (VR σ X) args' (fst++us++cap)
  | .yield b=>args'=args∧∃ L,X.rho b=some L∧u=.func (.yield L.c) #[] #[]:=by
 unfold fA at hc;split at hc
 ·rename_i f caps;cases hc
  cases hx with
  | fn _ _ cap hl hr=>
   refine⟨[],cap,rfl,ha.append (A2.map ⟨hl.symm,fun i x u hx hu=>?_⟩)⟩
   exact hr i x u hx hu
 ·rename_i f caps;cases hc;obtain⟨cap,rfl,hcap⟩:=hx;exact⟨[],cap,rfl,ha.append (A2.map (hcap.weak fun x u h=>CR.of1 σ h))⟩
 ·rename_i b;cases hc;obtain⟨L,hL,_,rfl⟩:=hx;exact⟨rfl,L,hL,rfl⟩
 ·rename_i f first
  cases hc;obtain⟨cap,rfl,hcap⟩:=hx;have h1:A2 (VR σ X) (first.map .c) cap:=A2.map (hcap.weak fun x u h=>CR.of1 σ h)
  exact⟨cap,[],rfl,by simpa using h1.append ha⟩
 ·simp at hc
theorem jS{a:Act}{o:Oper}{cl:Call}{y:Operand}(ho:o.op=.call cl)(hy:cl.callee=.value y){w:World}{fn:Fn}{fst cap:Array Value}(hv:a.eval y=.func fn fst cap) :
  (execOp a.eval o).run Q w=(invoke (.fn fn cap) (fst++cl.args.map a.eval)).run Q w:=by
 simp only [execOp,ho,resolve,hy,hv,Deferred.ofValue,Sem.run_bind,Sem.run_pure,Result.andThen_ok]
theorem gZ{f:FuncId}{cap as:Array Value}{w:World}(h:∀ as w,(callFunc f as).run Q w=.ok (.enter f as) w):(invoke (.fn (.func f) cap) as).run Q w=.ok (.enter f (as++cap)) w:=by
 simp only [invoke];exact h _ _
end
section
variable{Q:Program}{σ:Nat→FuncId}{X:Wd}{call:dD}
theorem aw1{n:Nat}{H H':Heap}(h:HLe H H')(v:V):dB n H' v=dB n H v:=by
 cases v with
 | c x=>simp only [dB,qZ n h]
 | a xs=>simp only [dB,iD (fun x _=>qZ n h x)]
 | _=>rfl
theorem pure_ok(hC:iG Q σ call)(hS:SR Q σ X)(hB:X.B≤X.w.heap.size){f:Nat}{args:List V}{us:List Value}{H H':Heap}{r':V}(hp:fZ call f args H=some (r',H'))(hH:dP H' X.H)(ha:A2 (VR σ X) args us)(cs:List Frame) :
  (∀ as w,(callFunc (σ f) as).run Q w=.ok (.enter (σ f) as) w) ∧
  ∃ fr X' u,Steps Q (lone (Frame.enter Q (σ f) us.toArray .normal) cs X.w) (lone fr cs X'.w)∧Leaves Q (σ f) .normal fr u X'.w∧Post Q σ X r' X.H X' u∧X'.rho=X.rho:=by
 unfold fZ at hp;split at hp
 ·simp at hp
 ·rename_i fs hfs;split at hp
  ·simp at hp
  ·rename_i r Hc hcall;split at hp
   ·simp at hp
   ·rename_i r'' hr;simp only [aa,an]at hp;obtain⟨rfl,rfl⟩:=hp;have hle:=rW deep args H;have hmk:=xU deep args H;obtain⟨h1,h2,h3⟩:=SR.flag hS;have hfs:=jd hfs
    have hfa:A2 (VR σ X.flag.inner) fs us:=by
     refine⟨by rw [←hfs.len];exact ha.len,fun i y u hy hu=>?_⟩
     have hi:i<args.length:=by rw [hfs.len];exact(ab.1 hy).1
     have hx:=ai hi;have he:dB deep H args[i]=some y:=hfs.2 i _ _ hx hy;have hv:=VR.ext' σ h2 (ha.2 i _ _ hx hu);rw [←aw1 hle]at he
     have hv1:VR1 σ X.flag args[i] u:=by
      cases hai:args[i]with
      | c x=>rw [hai]at hv;exact hv
      | a xs=>rw [hai]at hv;exact hv
      | top=>trivial
      | t vs=>rw [hai]at he;simp [dB]at he
     exact VR.of1 σ (aD7 h1 h3 hH he (hmk _ (az hi)) hv1 X.flag.inner rfl rfl)
    obtain⟨fr,Y,u,g1,g2,g3,g4,g5,g6,g7⟩:=hC.fn f fs [] r Hc hcall X.flag.inner us .normal cs rfl (SR.inner h1) (aq _) hfa (.inl rfl);obtain⟨k1,k2,k3⟩:=SR.outer h1 hB g4 g6;refine⟨hC.enters f fs [] _ hcall,fr,{ X.flag with F:=Y.mD.F,w:=Y.w },u,g1,g2,⟨rfl,k1,?_,h2.trans (k2.mono (aq _)),k3⟩,rfl⟩;rw [←g3]at hr;exact LX g4 hr g5 _ rfl rfl
theorem qJ{o:Oper}{f:Nat}{xs:List Arg}{h:Bool}(hm:mOp Q σ o (.call f xs h)=true):∃ c,o.op=.call c∧c.callee=.value (.func (σ f))∧mAs σ xs c.args=true:=by
 simp only [mOp]at hm;split at hm
 ·rename_i c ho;simp only [fB]at hm;split at hm
  ·rename_i g hg;simp only [ag,beq_iff_eq]at hm;exact⟨c,ho,by rw [hg,hm.1],hm.2⟩
  ·simp at hm
 ·simp at hm
theorem Ew{o:Oper}{x:Arg}{xs:List Arg}{h:Bool}(hm:mOp Q σ o (.bW x xs h)=true):∃ c y,o.op=.call c∧c.callee=.value y∧mA σ x y=true∧mAs σ xs c.args=true:=by
 simp only [mOp]at hm;split at hm
 ·rename_i c ho;simp only [fB]at hm;split at hm
  ·rename_i y hy;simp only [ag]at hm;exact⟨c,y,ho,hy,hm.1,hm.2⟩
  ·simp at hm
 ·simp at hm
theorem oD{o:Oper}{c:Call}(h:o.op=.call c):∀ c,o.op≠.defer c:=fun c' e=>by rw [h]at e;cases e
theorem Hq(hC:iG Q σ call)(hS:SR Q σ X)(hB:X.B≤X.w.heap.size){a:Act}{regs:T}(hR:RR σ X regs a.tmps){o:Oper}{f:Nat}{xs:List Arg}{h:Bool}(hm:mOp Q σ o (.call f xs h)=true)
  {H H':Heap} {v:V} (hp:fZ call f (dZ regs xs) H=some (v,H')) (hH:dP H' X.H):dN Q σ X o a v X.H:=by
 obtain⟨c,ho,hc,hxs⟩:=qJ hm;have ha:=qQ hR hxs;have hen:=(pure_ok hC hS hB hp hH ha []).1;refine dN.zN (oD ho) (f:=σ f) (us:=c.args.map a.eval) ?_ fun cs=>?_
 ·rw [jS ho hc (fn:=.func (σ f)) (fst:=#[]) (cap:=#[]) rfl,gZ hen];simp
 ·obtain⟨_,fr,X',u,h1,h2,h3,_⟩:=pure_ok hC hS hB hp hH ha cs;exact⟨fr,X',u,by rw [Array.toArray_toList]at h1;exact h1,h2,h3⟩
theorem EZ(hC:iG Q σ call)(hS:SR Q σ X)(hB:X.B≤X.w.heap.size){a:Act}{regs:T}(hR:RR σ X regs a.tmps){o:Oper}{f:Nat}{xs:List Arg}{h:Bool}(hm:mOp Q σ o (.call f xs h)=true)
  {H H':Heap} {v:V} (hp:fZ call f (dZ regs xs) H=some (v,H')) (hH:dP H' X.H)
  (b:Frame) (ops:Array Oper) (i:Nat) (rest:List Nat) (k:List Item) (cs:List Frame) (hoi:ops[i]?=some o) (hw:Region.wanted o (yielded ops a.tmps)=true) :
  ∃ X' u,Steps Q (lone (b.atR a (.inRegion ops (i::rest)::k)) cs X.w) (lone (b.atR (a.put o.dst u) (.inRegion ops rest::k)) cs X'.w)∧Post Q σ X v X.H X' u∧X'.rho=X.rho:=by
 obtain⟨c,ho,hc,hxs⟩:=qJ hm;have ha:=qQ hR hxs;obtain⟨hen,fr,X',u,h1,⟨l1,l2,l3,l4,fn,l5,l6⟩,h3,h4⟩:=pure_ok hC hS hB hp hH ha (b.atR a (.inRegion ops (i::rest)::k)::cs);rw [Array.toArray_toList]at h1
 have hrun:(execOp a.eval o).run Q X.w=.ok (.enter (σ f) (c.args.map a.eval)) X.w:=by
  rw [jS ho hc (fn:=.func (σ f)) (fst:=#[]) (cap:=#[]) rfl,gZ hen];simp
 refine⟨X',u,.head (step_lone_go (fr':=Frame.enter Q (σ f) (c.args.map a.eval) .normal) (cs':=b.atR a (.inRegion ops (i::rest)::k)::cs) (w':=X.w) ?_) (h1.trans (.one ?_)),h3,h4⟩
 ·rw [stepGR_op hoi hw,Oper.semAt_eq _ _ _ (oD ho)];simp [stepG.apply,Sem.runT_eq,hrun,Frame.atR]
 ·have hfin:=Frame.finish_atR b a ops i rest k u;rw [hoi]at hfin;simp only [bh]at hfin;rw [←hfin];exact step_leave_returned ⟨l1,l2,l3,fn,by rw [l4];exact l5,l6⟩
theorem Hr(hC:iG Q σ call)(hS:SR Q σ X)(hB:X.B≤X.w.heap.size){a:Act}{regs:T}(hR:RR σ X regs a.tmps){o:Oper}{f:Nat}{xs:List Arg}{h:Bool}(hm:mOp Q σ o (.call f xs h)=true)
  {H':Heap} {v:V} (hp:call (.fn f) (dZ regs xs) X.H=some (v,H')):dN Q σ X o a v H':=by
 obtain⟨c,ho,hc,hxs⟩:=qJ hm;have ha:=qQ hR hxs;have hen:=hC.enters _ _ _ _ hp;refine dN.zN (oD ho) (f:=σ f) (us:=c.args.map a.eval) ?_ fun cs=>?_
 ·rw [jS ho hc (fn:=.func (σ f)) (fst:=#[]) (cap:=#[]) rfl,gZ hen];simp
 ·obtain⟨fr,X',u,h1,h2,h3⟩:=hC.fn _ _ _ _ _ hp X _ .normal cs rfl hS hB ha (.inl rfl);exact⟨fr,X',u,by rw [Array.toArray_toList]at h1;exact h1,h2,h3⟩
theorem WY(hC:iG Q σ call)(hS:SR Q σ X)(hB:X.B≤X.w.heap.size){a:Act}{regs:T}(hR:RR σ X regs a.tmps){o:Oper}{x:Arg}{xs:List Arg}{h:Bool}(hm:mOp Q σ o (.bW x xs h)=true)
  {H':Heap} {v:V} {c:Callee} {args:List V} (oH:fA (x.ev regs) (dZ regs xs)=some (c,args)) (hp:call c args X.H=some (v,H')):dN Q σ X o a v H':=by
 obtain⟨cl,y,ho,hc,hy,hxs⟩:=Ew hm;have ha:=qQ hR hxs;have hv:=uw oH (bH hR hy) ha
 cases c with
 | fn f=>
  obtain⟨fst,cap,hv1,hv2⟩:=hv;have hen:=hC.enters _ _ _ _ hp;refine dN.zN (oD ho) (f:=σ f) (us:=fst.toArray++cl.args.map a.eval++cap.toArray) ?_ fun cs=>?_
  ·rw [jS ho hc hv1,gZ hen]
  ·obtain⟨fr,X',u,h1,h2,h3⟩:=hC.fn _ _ _ _ _ hp X _ .normal cs rfl hS hB hv2 (.inl rfl);refine⟨fr,X',u,?_,h2,h3⟩;have e:(fst++(cl.args.map a.eval).toList++cap).toArray=fst.toArray++cl.args.map a.eval++cap.toArray:=by simp
   rw [e]at h1;exact h1
 | yield b=>
  obtain⟨rfl,L,hL,hv1⟩:=hv;have key:=fun c cs=>hC.yield b _ _ _ _ hp X _ c cs L rfl hS hB ha hL
  obtain⟨f,tmps,as,bd,_,_,hrun,_⟩:=key default [];refine dN.VF (oD ho) (l:=L.c) (f:=f) (tmps:=tmps) (as:=as) (bd:=bd) ?_ fun c cs=>?_
  ·rw [jS ho hc hv1,Array.empty_append];rw [Array.toArray_toList]at hrun;exact hrun
  ·obtain⟨f',sU,as',bd',X',u,hrun',h1,h2⟩:=key c cs;rw [hrun]at hrun';simp only [Result.ok.injEq,Next.round.injEq,true_and,and_true]at hrun';obtain⟨rfl,rfl,rfl,rfl⟩:=hrun';exact⟨X',u,h1,h2⟩
end
section
variable{Q:Program}{σ:Nat→FuncId}{X:Wd}{call:dD}
def AZ(σ:Nat→FuncId)(X:Wd):fE→Deferred→Prop
 | .coll b,d=>∃ L o,X.rho b=some L∧X.H[b]?=some (.dfr o)∧d = { target:=.collected L.c,args:=#[] }
 | .fn f args,d=>∃ us cap:Array Value,d = { target:=.fn (.func (σ f)) cap,args:=us }∧A2 (VR σ X) args (us.toList++cap.toList)
theorem AZ.fJ{X X':Wd}(hx:wu X.H.length X X'){x:fE}{d:Deferred}(h:AZ σ X x d):AZ σ X' x d:=by
 cases x with
 | coll b=>
  obtain⟨L,o,h1,h2,h3⟩:=h;obtain⟨blk',h4,h5⟩:=hx.keep b (ab.1 h2).1 _ h2;cases blk'<;>simp only at h5
  exact⟨L,_,h5 L h1,h4,h3⟩
 | fn f args=>
  obtain⟨us,cap,h1,h2⟩:=h;exact⟨us,cap,h1,h2.weak fun _ _ h=>VR.fJ σ hx h⟩
def iZ(σ:Nat→FuncId)(X:Wd)(ds:List fE)(ms:List Deferred):Prop:=A2 (AZ σ X) ds ms
theorem AZ.ext'{X X':Wd}(hx:Ext X.H.length X X'){x:fE}{d:Deferred}(h:AZ σ X x d):AZ σ X' x d:=AZ.fJ hx.W h
theorem iZ.fJ{X X':Wd}(hx:wu X.H.length X X'){ds:List fE}{ms:List Deferred}(h:iZ σ X ds ms):iZ σ X' ds ms:=h.weak fun _ _ h=>AZ.fJ hx h
theorem iZ.ext'{X X':Wd}(hx:Ext X.H.length X X'){ds:List fE}{ms:List Deferred}(h:iZ σ X ds ms):iZ σ X' ds ms:=h.weak fun _ _ h=>AZ.ext' hx h
def vV(Q:Program)(σ:Nat→FuncId)(X:Wd)(o:Oper)(a:Act)(ok:Frame→Prop)(v:V)(H':Heap)(ds:List fE):Prop:=
 ∀(b:Frame) (ops:Array Oper) (i:Nat) (rest:List Nat) (k:List Item) (cs:List Frame),ops[i]?=some o→Region.wanted o (yielded ops a.tmps)=true→kQ b cs→ok b →
  ∃(X':Wd) (u:Value) (a':Act),Steps Q (lone (b.atR a (.inRegion ops (i::rest)::k)) cs X.w) (lone (b.atR (a'.put o.dst u) (.inRegion ops rest::k)) cs X'.w)∧Post Q σ X v H' X' u∧a'.tmps=a.tmps∧iZ σ X' ds a'.defers
theorem dN.UC{o:Oper}{a:Act}{v:V}{H':Heap}(h:dN Q σ X o a v H'){ds:List fE}(hd:iZ σ X ds a.defers){ok:Frame→Prop}:vV Q σ X o a ok v H' ds:=by
 intro b ops i rest k cs ho hw hk _;obtain⟨X',u,h1,h2⟩:=h b ops i rest k cs ho hw hk;exact⟨X',u,a,h1,h2,rfl,hd.ext' h2.2.2.2.1⟩
theorem dN.ahead(hS:SR Q σ X){H1 H':Heap}(hH:dP X.H H1){o:Oper}{a:Act}{v:V}(h:dN Q σ { X with H:=H1 } o a v H'):dN Q σ X o a v H':=by
 intro b ops i rest k cs ho hw hk;obtain⟨X',u,h1,h2,h3,h4,h5,h6⟩:=h b ops i rest k cs ho hw hk;exact⟨X',u,h1,h2,h3,h4,(SR.ahead hS hH).2.trans (h5.mono hH.len),h6⟩
def jq(op:AOp)(b:Frame):Prop:=b.roundOf=none∨op.iy=true
theorem KA(hS:SR Q σ X)(hB:X.B≤X.w.heap.size){a:Act}{o:Oper}(hm:mOp Q σ o .recover=true){ds:List fE}(hd:iZ σ X ds a.defers):vV Q σ X o a (jq .recover) (.c (.f .qm)) X.H ds:=by
 intro b ops i rest k cs ho hw hk hr;have hr:b.roundOf=none:=hr.elim id fun h=>by simp [AOp.iy]at h
 simp only [mOp]at hm;split at hm
 ·rename_i c hc;simp only [fB]at hm;split at hm
  ·rename_i oH
   have hrun:(execOp a.eval o).run Q X.w=.ok .recover X.w:=by
    simp [execOp,hc,resolve,oH,invoke,builtin]
   refine⟨X,.nilIface,a,.one (step_lone_go ?_),⟨rfl,hS,FCR.qm,Ext.refl _ _,hB⟩,rfl,hd⟩;rw [stepGR_op ho hw,Oper.semAt_eq _ _ _ (oD hc)];have hfin:=Frame.finish_atR b a ops i rest k .nilIface;rw [ho]at hfin;simp only [bh]at hfin;rw [←hfin];have hno:tryRecover (b.atR a (.inRegion ops (i::rest)::k)) cs=none:=tZ.P5 hk;have hro:(b.atR a (.inRegion ops (i::rest)::k)).roundOf=none:=hr;simp [stepG.apply,Sem.runT_eq,hrun,hno,hro]
  ·simp at hm
 ·simp at hm
theorem WS(hS:SR Q σ X)(hB:X.B≤X.w.heap.size){a:Act}{regs:T}(hR:RR σ X regs a.tmps){o:Oper}{x:Arg}{xs:List Arg}(hm:mOp Q σ o (.defer x xs)=true){ds:List fE}(hd:iZ σ X ds a.defers)
  {f:Nat} {args:List V} (hc:fA (x.ev regs) (dZ regs xs)=some (.fn f,args)):vV Q σ X o a (jq (.defer x xs)) .top X.H (.fn f args::ds):=by
 intro b ops i rest k cs ho hw hk hr;have hr:b.roundOf=none:=hr.elim id fun h=>by simp [AOp.iy]at h
 simp only [mOp]at hm;split at hm
 ·rename_i c sK;split at hm
  ·rename_i y hy;simp only [ag]at hm;have hv:=uw hc (bH hR hm.1) (qQ hR hm.2);obtain⟨fst,cap,hv1,hv2⟩:=hv
   have hrun:(execOp a.eval o).run Q X.w=.ok (.defer { target:=.fn (.func (σ f)) cap.toArray,args:=fst.toArray++c.args.map a.eval }) X.w:=by
    simp [execOp,sK,resolve,hy,hv1,Deferred.ofValue]
   refine⟨X,undef,{ a with defers:={ target:=.fn (.func (σ f)) cap.toArray,args:=fst.toArray++c.args.map a.eval }::a.defers },.one (step_lone_go ?_),⟨rfl,hS,trivial,Ext.refl _ _,hB⟩,rfl,A2.cons ⟨_,_,rfl,by simpa using hv2⟩ hd⟩
   rw [stepGR_op ho hw,hr,Oper.semAt_none];have hfin:=Frame.finish_atR b { a with defers:={ target:=.fn (.func (σ f)) cap.toArray,args:=fst.toArray++c.args.map a.eval }::a.defers } ops i rest k undef;rw [ho]at hfin;simp only [bh]at hfin;rw [←hfin];simp [stepG.apply,Sem.runT_eq,hrun,Frame.atR]
  ·simp at hm
 ·simp at hm
theorem uV{o:Oper}{op:AOp}(hm:mOp Q σ o op=true)(h1:∀ x xs,op≠.defer x xs)(h2:op≠.bad):∀ c,o.op≠.defer c:=by
 intro c hc;cases op
 case pre o sz=>cases o<;>simp [mOp,hc]at hm
 case defer x xs=>exact h1 _ _ rfl
 case bad=>exact h2 rfl
 all_goals simp [mOp,hc]at hm
theorem NR(hC:iG Q σ call)(hS:SR Q σ X)(hB:X.B≤X.w.heap.size){a:Act}{s s':St}(hH:X.H=s.heap)(hR:RR σ X s.regs a.tmps)(hd:iZ σ X s.defs a.defers){o:Oper}{op:AOp}(hm:mOp Q σ o op=true){v:V}
  (h:gU call s op=some (v,s')):vV Q σ X o a (jq op) v s'.heap s'.defs∧s'.regs=s.regs:=by
 by_cases hp:(∃ f xs h,op=.call f xs h)∨(∃ x xs h,op=.bW x xs h)∨op=.recover∨∃ x xs,op=.defer x xs
 ·rcases hp with⟨f,xs,hh,rfl⟩ | ⟨x,xs,hh,rfl⟩ | rfl | ⟨x,xs,rfl⟩
  ·simp only [gU,am,an]at h;obtain⟨⟨v',H'⟩,h1,rfl,rfl⟩:=h;refine⟨dN.UC ?_ hd,rfl⟩;unfold jo at h1;split at h1
   ·exact Hr hC hS hB hR hm (hH▸h1)
   ·have hle:dP X.H H':=by
     have h1':=h1;unfold fZ at h1';split at h1'
     ·simp at h1'
     ·split at h1'
      ·simp at h1'
      ·split at h1'
       ·simp at h1'
       ·simp only [aa,an]at h1';rw [←h1'.2,hH];exact(rW _ _ _).ext
    obtain⟨g1,g2⟩:=SR.ahead hS hle;refine dN.ahead hS hle ?_;exact Hq hC (X:={ X with H:=H' }) g1 hB (hR.ext' σ g2) hm h1 (dP.refl _)
  ·simp only [gU]at h;split at h
   ·rename_i c args hc;simp only [am,an]at h;obtain⟨⟨v',H'⟩,h1,rfl,rfl⟩:=h;exact⟨dN.UC (WY hC hS hB hR hm hc (hH▸h1)) hd,rfl⟩
   ·simp at h
  ·simp only [gU,aa,an]at h;obtain⟨rfl,rfl⟩:=h;rw [←hH];exact⟨KA hS hB hm hd,rfl⟩
  ·simp only [gU]at h;split at h
   ·rename_i f args hc;simp only [aa,an]at h;obtain⟨rfl,rfl⟩:=h;refine⟨?_,rfl⟩;rw [←hH];exact WS hS hB hR hm hd hc
   ·simp at h
 ·have hx:(xOp s.regs s.heap op).map (fun r=>(r.1,{ s with heap:=r.2 }))=some (v,s'):=by
   cases op<;>first | exact h | (exfalso;apply hp;simp)
  simp only [am,an]at hx;obtain⟨⟨v',H'⟩,h1,rfl,rfl⟩:=hx;refine⟨dN.UC (dN.aLO (uV hm ?_ ?_) (aEm hS hB hR hm (hH▸h1))) hd,rfl⟩
  ·rintro x xs rfl;exact hp (.inr (.inr (.inr ⟨x,xs,rfl⟩)))
  ·rintro rfl;simp [xOp]at h1
end
section
variable{Q:Program}{σ:Nat→FuncId}{X:Wd}{call:dD}
structure Fr(Q:Program)(σ:Nat→FuncId)(n:Nat)(X:Wd)(s:St)(a:Act):Prop where
 heap:X.H=s.heap
 sr:SR Q σ X
 b:X.B≤X.w.heap.size
 regs:RR σ X s.regs a.tmps
 defs:iZ σ X s.defs a.defers
 size:n≤a.tmps.size
theorem rJ{n:Nat}{ops:Array Oper}{o:Oper}{ao:AOper}(hm:oG Q σ n ops o ao=true){regs:T}{tmps:Array Value}(hR:∀ p w',ao.g=some (p,w')→VR σ X (regs.get p) (tmps.getD p.toNat undef))(hn:n≤tmps.size){w:Bool}(h:wanted regs ao.g=some w) :
  Region.wanted o (yielded ops tmps)=w:=by
 simp only [oG,ag]at hm;obtain⟨_,hg⟩:=hm;unfold Region.wanted
 cases hog:o.guard with
 | none=>
  rw [hog]at hg
  cases hag:ao.g with
  | none=>rw [hag]at h;simp only [wanted,aa]at h;simpa using h
  | some q=>rw [hag]at hg;simp at hg
 | some jw=>
  obtain⟨j,wv⟩:=jw;rw [hog]at hg
  cases hag:ao.g with
  | none=>rw [hag]at hg;simp at hg
  | some q=>
   obtain⟨p,w'⟩:=q;rw [hag]at hg h;simp only [ag,beq_iff_eq]at hg;obtain⟨rfl,hg⟩:=hg;split at hg
   ·rename_i d hd;simp only [ag,beq_iff_eq,decide_eq_true_eq]at hg;obtain⟨hpd,hdn⟩:=hg;have hv:=hR p _ hag;rw [hpd]at hv;have hlt:d<tmps.size:=cj hdn hn;have hget:tmps.getD d undef=tmps[d]:=by simp [Array.getD,hlt]
    rw [hget]at hv;simp only [wanted]at h;simp only [yielded,hd,bh,Array.getElem?_eq_getElem hlt];split at h
    ·rename_i bv hb;rw [hb]at hv;simp only [aa]at h;have hv':FCR σ X.F X.w (.bool bv) tmps[d]:=hv;generalize tmps[d]=u at hv';cases hv';subst h;simp
    ·rename_i hb;rw [hb]at hv;obtain⟨us,hus,hl⟩:=hv;simp only [aa]at h;subst h;rw [hus];simp
    ·simp at h
   ·simp at hg
theorem U9{n:Nat}{ops:Array Oper}{o:Oper}{ao:AOper}(hm:oG Q σ n ops o ao=true){regs:T}{a:Act}(hR:RR σ X regs a.tmps)(hn:n≤a.tmps.size){v:V}{u:Value}(hv:VR σ X v u) :
  RR σ X (lY regs ao.dst v) (a.put o.dst u).tmps∧(a.put o.dst u).tmps.size=a.tmps.size∧(a.put o.dst u).defers=a.defers:=by
 simp only [oG,ag]at hm;obtain⟨⟨_,hd⟩,_⟩:=hm;split at hd
 ·rename_i d p h1 h2;simp only [ag,beq_iff_eq,decide_eq_true_eq]at hd;obtain⟨rfl,hdn⟩:=hd;rw [h1,h2];exact⟨RR.set σ hR (cj hdn hn) hv,by simp [Act.put],rfl⟩
 ·rename_i h1 h2;rw [h1,h2];exact⟨hR,rfl,rfl⟩
 ·simp at hd
theorem VR.undef:VR σ X (.t []) undef:=⟨[],rfl,A2.nil⟩
theorem Uy(hC:iG Q σ call){n:Nat}{s s':St}{a:Act}(hF:Fr Q σ n X s a){ops:Array Oper}{o:Oper}{ao:AOper}(hm:oG Q σ n ops o ao=true)(h:je call s ao=some s')
  {b:Frame} {i:Nat} {rest:List Nat} {k:List Item} {cs:List Frame} (ho:ops[i]?=some o) (hk:kQ b cs) (hr:jq ao.op b) :
  ∃ X' a',Steps Q (lone (b.atR a (.inRegion ops (i::rest)::k)) cs X.w) (lone (b.atR a' (.inRegion ops rest::k)) cs X'.w)∧Fr Q σ n X' s' a'∧Ext X.H.length X X'∧a'.tmps.size=a.tmps.size:=by
 unfold je at h;split at h
 ·rename_i hw;have hw:=rJ hm (fun p w' _=>hF.regs p) hF.size hw
  split at h
  ·rename_i v s1 h1;simp only [aa]at h;subst h;have vF:mOp Q σ o ao.op=true:=by simp only [oG,ag]at hm;exact hm.1.1
   obtain⟨h2,h3⟩:=NR hC hF.sr hF.b hF.heap hF.regs hF.defs vF h1;obtain⟨X',u,a',g1,⟨g2,g3,g4,g5,g6⟩,g7,g8⟩:=h2 b ops i rest k cs ho hw hk hr;obtain⟨p1,p2,p3⟩:=U9 hm (X:=X') (a:=a') (by rw [g7];exact hF.regs.ext' σ g5) (by rw [g7];exact hF.size) g4
   refine⟨X',a'.put o.dst u,g1,⟨g2,g3,g6,?_,by rw [p3];exact g8,by rw [p2,g7];exact hF.size⟩,g5,by rw [p2,g7]⟩
   simpa [h3]using p1
  ·simp at h
 ·rename_i hw;have hw:=rJ hm (fun p w' _=>hF.regs p) hF.size hw
  simp only [aa]at h;subst h;obtain⟨p1,p2,p3⟩:=U9 hm hF.regs hF.size (VR.undef (σ:=σ) (X:=X));refine⟨X,a.put o.dst undef,.one ?_,⟨hF.heap,hF.sr,hF.b,p1,by rw [p3];exact hF.defs,by rw [p2];exact hF.size⟩,Ext.refl _ _,p2⟩
  have:=stepR_op_skip (P:=Q) (b:=b) (a:=a) (k:=k) (cs:=cs) (w:=X.w) (ops:=ops) (i:=i) (rest:=rest) (by simp [ho,hw])
  rw [ho]at this;exact this
 ·simp at h
theorem NM(hC:iG Q σ call){n:Nat}{ops:Array Oper}{b:Frame}{k:List Item}{cs:List Frame}(hk:kQ b cs):∀(aos:List AOper) (j:Nat) (X:Wd) (s s':St) (a:Act),Fr Q σ n X s a →
  all2 (oG Q σ n ops) (ops.toList.drop j) aos=true→(∀ ao ∈ aos,jq ao.op b)→oP call aos s=some s' →
  ∃ X' a',Steps Q (lone (b.atR a (.inRegion ops ((List.range ops.size).drop j)::k)) cs X.w) (lone (b.atR a' k) cs X'.w)∧Fr Q σ n X' s' a'∧Ext X.H.length X X'∧a'.tmps.size=a.tmps.size
 | [],j,X,s,s',a,hF,hm,_,h=>by
  simp only [oP,aa]at h;subst h
  have hl:(List.range ops.size).drop j=[]:=by
   cases hd:ops.toList.drop j with
   | nil=>
    have:=dk.1 hd;simp at this
    rw [dk];simpa using this
   | cons x xs=>rw [hd]at hm;simp [all2]at hm
  rw [hl]
  exact⟨X,a,.one stepR_region_end,hF,Ext.refl _ _,rfl⟩
 | ao::aos,j,X,s,s',a,hF,hm,hr,h=>by
  cases hd:ops.toList.drop j with
  | nil=>rw [hd]at hm;simp [all2]at hm
  | cons o os=>
   rw [hd]at hm;simp only [all2,ag]at hm
   have hj:j<ops.toList.length:=by
    rcases bR j ops.toList.length with h1 | h1
    ·exact h1
    ·rw [dk.2 h1]at hd;simp at hd
   have hdr:=bp hj;rw [hd]at hdr;simp only [List.cons.injEq]at hdr;obtain⟨ho,hos⟩:=hdr;simp only [oP]at h;split at h
   ·rename_i s1 h1
    have hlist:(List.range ops.size).drop j=j ::(List.range ops.size).drop (j+1):=by
     rw [bp (by simpa using hj)];simp
    rw [hlist];obtain⟨X1,a1,g1,g2,g3,g4⟩:=Uy hC hF hm.1 h1 (b:=b) (i:=j) (rest:=(List.range ops.size).drop (j+1)) (k:=k) (cs:=cs) (by simp at hj;simp [hj,ho]) hk (hr _ (by simp))
    obtain⟨X2,a2,k1,k2,k3,k4⟩:=NM hC hk aos (j+1) X1 s1 s' a1 g2 (by rw [←hos];exact hm.2) (fun ao h=>hr ao (by simp [h])) h
    refine⟨X2,a2,g1.trans k1,k2,g3.trans (k3.mono ?_),k4.trans g4⟩;have:=g3.keep;rcases bR X1.H.length X.H.length with hlt | hge
    ·obtain⟨blk',hb',_⟩:=g3.keep X1.H.length hlt _ (ai hlt);have:=(ab.1 hb').1;omega
    ·exact hge
   ·simp at h
end
section
theorem oK{r r':T}{x:Arg}(h:∀ p ∈ x.rd,r.get p=r'.get p):x.ev r=x.ev r':=by
 cases x with
 | r p=>exact h p (by simp [Arg.rd])
 | k v=>rfl
theorem PZ{r r':T}{x:Option Arg}(h:∀ p ∈ oRd x,r.get p=r'.get p):x.map (·.ev r)=x.map (·.ev r'):=by
 cases x with
 | none=>rfl
 | some x=>simp only [bz];rw [oK h]
theorem jk{r r':T}{xs:List Arg}(h:∀ p ∈ xs.flatMap Arg.rd,r.get p=r'.get p):dZ r xs=dZ r' xs:=by
 unfold dZ;refine List.map_congr_left fun x hx=>oK fun p hp=>h p (cY.2 ⟨x,hx,hp⟩)
theorem kP{r r':T}:∀(ps:List (Nat × Nat × Arg)) (cs:List C),(∀ p ∈ ps.flatMap (fun q=>q.2.2.rd),r.get p=r'.get p)→eF r cs ps=eF r' cs ps
 | [],cs,_=>rfl
 | (off,n,x)::ps,cs,h=>by
  simp only [eF];rw [oK (x:=x) (r:=r) (r':=r') fun p hp=>h p (by simp [hp])]
  split
  ·split
   ·exact kP ps _ fun p hp=>h p (by simp only [List.flatMap_cons,bX];exact .inr hp)
   ·rfl
  ·rfl
theorem JO{r r':T}{H:Heap}{op:AOp}(h:∀ p ∈ op.rd,r.get p=r'.get p):xOp r H op=xOp r' H op:=by
 have e:∀ x:Arg,(∀ p ∈ x.rd,p ∈ op.rd)→x.ev r=x.ev r':=fun x hx=>oK fun p hp=>h p (hx p hp)
 have oe:∀ x:Option Arg,(∀ p ∈ oRd x,p ∈ op.rd)→x.map (·.ev r)=x.map (·.ev r'):=fun x hx=>PZ fun p hp=>h p (hx p hp)
 cases op
 case build zs ps=>simp only [xOp];rw [kP ps _ h]
 case aP sz zs n ps=>
  simp only [xOp]
  rw [kP (r:=r) (r':=r') (ps.map fun p=>(p.1*sz,sz,p.2)) _ fun p hp=>h p (by
   simp only [cY,ci]at hp;obtain⟨q,⟨q',hq',rfl⟩,hq⟩:=hp
   exact cY.2 ⟨q',hq',hq⟩)]
 case jK sz zs n ps=>
  simp only [xOp]
  rw [kP (r:=r) (r':=r') (ps.map fun p=>(p.1*sz,sz,p.2)) _ fun p hp=>h p (by
   simp only [cY,ci]at hp;obtain⟨q,⟨q',hq',rfl⟩,hq⟩:=hp
   exact cY.2 ⟨q',hq',hq⟩)]
 case o9 f xs=>simp only [xOp];rw [jk h]
 case pick c a b=>
  simp only [xOp];rw [e c (by simp +contextual [AOp.rd])]
  split
  ·rename_i v _;cases v<;>simp [e a (by simp +contextual [AOp.rd]),e b (by simp +contextual [AOp.rd])]
  ·rfl
 case slice sz x lo hi mx=>simp only [xOp];rw [e x (by simp +contextual [AOp.rd]),oe lo (by simp +contextual [AOp.rd]),oe hi (by simp +contextual [AOp.rd]),oe mx (by simp +contextual [AOp.rd])]
 case sV n sz x lo hi mx=>simp only [xOp];rw [e x (by simp +contextual [AOp.rd]),oe lo (by simp +contextual [AOp.rd]),oe hi (by simp +contextual [AOp.rd]),oe mx (by simp +contextual [AOp.rd])]
 case uJ x lo hi=>simp only [xOp];rw [e x (by simp +contextual [AOp.rd]),oe lo (by simp +contextual [AOp.rd]),oe hi (by simp +contextual [AOp.rd])]
 case nK ck m k v=>simp only [xOp];rw [e m (by simp +contextual [AOp.rd]),e k (by simp +contextual [AOp.rd]),e v (by simp +contextual [AOp.rd])]
 case mov x=>simp only [xOp];rw [e x (by simp +contextual [AOp.rd])]
 case box x=>simp only [xOp];rw [e x (by simp +contextual [AOp.rd])]
 case load n x=>simp only [xOp];rw [e x (by simp +contextual [AOp.rd])]
 case bG x=>simp only [xOp];rw [e x (by simp +contextual [AOp.rd])]
 case un o x=>simp only [xOp];rw [e x (by simp +contextual [AOp.rd])]
 case cvi k x=>simp only [xOp];rw [e x (by simp +contextual [AOp.rd])]
 case EW x=>simp only [xOp];rw [e x (by simp +contextual [AOp.rd])]
 case Ci x=>simp only [xOp];rw [e x (by simp +contextual [AOp.rd])]
 case Md x=>simp only [xOp];rw [e x (by simp +contextual [AOp.rd])]
 case aj o x=>simp only [xOp];rw [e x (by simp +contextual [AOp.rd])]
 case field o n x=>simp only [xOp];rw [e x (by simp +contextual [AOp.rd])]
 case range x=>simp only [xOp];rw [e x (by simp +contextual [AOp.rd])]
 case next x=>simp only [xOp];rw [e x (by simp +contextual [AOp.rd])]
 case extract x i=>simp only [xOp];rw [e x (by simp +contextual [AOp.rd])]
 case len x=>simp only [xOp];rw [e x (by simp +contextual [AOp.rd])]
 case lens x=>simp only [xOp];rw [e x (by simp +contextual [AOp.rd])]
 case cap x=>simp only [xOp];rw [e x (by simp +contextual [AOp.rd])]
 case entry x=>simp only [xOp];rw [e x (by simp +contextual [AOp.rd])]
 case oW x=>simp only [xOp];rw [e x (by simp +contextual [AOp.rd])]
 case uT x=>simp only [xOp];rw [e x (by simp +contextual [AOp.rd])]
 case clear s z x=>simp only [xOp];rw [e x (by simp +contextual [AOp.rd])]
 case sH lo xs=>simp only [xOp];rw [jk h]
 case Ce f xs=>simp only [xOp];rw [jk h]
 case BH s x y z=>simp only [xOp];rw [e x (by simp +contextual [AOp.rd]),e y (by simp +contextual [AOp.rd]),e z (by simp +contextual [AOp.rd])]
 case yJ s b z x y=>simp only [xOp];rw [e x (by simp +contextual [AOp.rd]),e y (by simp +contextual [AOp.rd])]
 case store n x y=>simp only [xOp];rw [e x (by simp +contextual [AOp.rd]),e y (by simp +contextual [AOp.rd])]
 case bin o x y=>simp only [xOp];rw [e x (by simp +contextual [AOp.rd]),e y (by simp +contextual [AOp.rd])]
 case eq n k x y=>simp only [xOp];rw [e x (by simp +contextual [AOp.rd]),e y (by simp +contextual [AOp.rd])]
 case aT s a x y=>simp only [xOp];rw [e x (by simp +contextual [AOp.rd]),e y (by simp +contextual [AOp.rd])]
 case idxs x y=>simp only [xOp];rw [e x (by simp +contextual [AOp.rd]),e y (by simp +contextual [AOp.rd])]
 case vw l s n x y=>simp only [xOp];rw [e x (by simp +contextual [AOp.rd]),e y (by simp +contextual [AOp.rd])]
 case append s b x y=>simp only [xOp];rw [e x (by simp +contextual [AOp.rd]),e y (by simp +contextual [AOp.rd])]
 case copy s x y=>simp only [xOp];rw [e x (by simp +contextual [AOp.rd]),e y (by simp +contextual [AOp.rd])]
 case lookup c z x y=>simp only [xOp];rw [e x (by simp +contextual [AOp.rd]),e y (by simp +contextual [AOp.rd])]
 case dK s b z x y=>simp only [xOp];rw [e x (by simp +contextual [AOp.rd]),e y (by simp +contextual [AOp.rd])]
 all_goals rfl
theorem NQ{call:dD}{s:St}{r':T}{op:AOp}(h:∀ p ∈ op.rd,s.regs.get p=r'.get p){v:V}{s':St}(hx:gU call s op=some (v,s')):gU call { s with regs:=r' } op=some (v,{ s' with regs:=r' }):=by
 by_cases hp:(∃ f xs h,op=.call f xs h)∨(∃ x xs h,op=.bW x xs h)∨op=.recover∨∃ x xs,op=.defer x xs
 ·rcases hp with⟨f,xs,hh,rfl⟩ | ⟨x,xs,hh,rfl⟩ | rfl | ⟨x,xs,rfl⟩
  ·simp only [gU,am,an]at hx ⊢;obtain⟨q,h1,rfl,rfl⟩:=hx;rw [jk h]at h1;exact⟨q,h1,rfl,rfl⟩
  ·simp only [gU]at hx ⊢;rw [oK (x:=x) (r:=s.regs) (r':=r') (fun p hp=>h p (by simp [AOp.rd,hp])),jk (xs:=xs) (r:=s.regs) (r':=r') (fun p hp=>h p (by simp only [AOp.rd,bX];exact .inr hp))]at hx
   split at hx
   ·simp only [am,an]at hx ⊢;obtain⟨q,h1,rfl,rfl⟩:=hx;exact⟨q,h1,rfl,rfl⟩
   ·simp at hx
  ·simp only [gU,aa,an]at hx ⊢;obtain⟨rfl,rfl⟩:=hx;exact⟨rfl,rfl⟩
  ·simp only [gU]at hx ⊢;rw [oK (x:=x) (r:=s.regs) (r':=r') (fun p hp=>h p (by simp [AOp.rd,hp])),jk (xs:=xs) (r:=s.regs) (r':=r') (fun p hp=>h p (by simp only [AOp.rd,bX];exact .inr hp))]at hx
   split at hx
   ·simp only [aa,an]at hx ⊢;obtain⟨rfl,rfl⟩:=hx;exact⟨rfl,rfl⟩
   ·simp at hx
 ·have hx1:(xOp s.regs s.heap op).map (fun r=>(r.1,{ s with heap:=r.2 }))=some (v,s'):=by
   cases op<;>first | exact hx | (exfalso;apply hp;simp)
  have hx2:gU call { s with regs:=r' } op=(xOp r' s.heap op).map (fun r=>(r.1,{ s with regs:=r',heap:=r.2 })):=by
   cases op<;>first | rfl | (exfalso;apply hp;simp)
  rw [hx2,←JO h];simp only [am,an]at hx1 ⊢;obtain⟨q,h1,rfl,rfl⟩:=hx1;exact⟨q,h1,rfl,rfl⟩
theorem aDT{r:T}{op:AOp}(hc:cls op=.p)(H H':Heap):xOp r H' op=(xOp r H op).map fun q=>(q.1,H'):=by
 cases op<;>simp only [cls,reduceCtorEq]at hc<;>simp only [xOp]
 all_goals first
  | (simp [Function.comp_def];done)
  | (split<;>simp [Function.comp_def];done)
  | (split<;>(first | rfl | (split<;>rfl)))
end
section
theorem iP{H H':Heap}(hH:dP H H')(b:Nat):H[b]?=none∨(∃ cs fl fl',H[b]?=some (.box cs fl)∧H'[b]?=some (.box cs fl')) ∨
  (∃ s cs fl fl' e st,H[b]?=some (.opn s cs fl e st)∧H'[b]?=some (.opn s cs fl' e st))∨∃ blk,H[b]?=some blk∧H'[b]?=some blk:=by
 cases hb:H[b]? with
 | none=>exact .inl rfl
 | some blk=>
  obtain⟨blk',hb',hl⟩:=hH b _ hb;cases blk<;>cases blk'<;>simp only [dR,reduceCtorEq]at hl
  ·obtain⟨rfl,_⟩:=hl;exact .inr (.inl ⟨_,_,_,rfl,hb'⟩)
  ·obtain⟨rfl,rfl,_,rfl,rfl⟩:=hl;exact .inr (.inr (.inl ⟨_,_,_,_,_,_,rfl,hb'⟩))
  all_goals (rw [←hl]at hb';exact .inr (.inr (.inr ⟨_,rfl,hb'⟩)))
variable{H H':Heap}
theorem Hl(hH:dP H H'){x:C}{cs:List C}(h:aG H x=some cs):aG H' x=some cs:=by
 cases x with
 | ptr b off ep=>
  simp only [aG]at h ⊢;rcases iP hH b with e | ⟨cs,fl,fl',e,e'⟩ | ⟨s,cs,fl,fl',e0,st,e,e'⟩ | ⟨blk,e,e'⟩
  ·simp [e]at h
  ·rw [e]at h;rw [e'];exact h
  ·rw [e]at h;rw [e'];cases st<;>exact h
  ·rw [e]at h;rw [e'];exact h
 | f x=>cases x<;>exact h
 | _=>simp [aG]at h
theorem awl(hH:dP H H'){n:Option Nat}{x:V}{v:V}(h:ldV H n x=some v):ldV H' n x=some v:=by
 cases x with
 | c x=>
  simp only [ldV,ba]at h ⊢;obtain⟨cs,h1,h2⟩:=h
  exact⟨cs,Hl hH h1,h2⟩
 | _=>simp [ldV]at h
theorem CQ(hH:dP H H'){x:C}{n:Nat}(h:bV H x=some n):bV H' x=some n:=by
 cases x with
 | sl b o l c ep sz=>
  simp only [bV]at h ⊢;rcases iP hH b with e | ⟨cs,fl,fl',e,e'⟩ | ⟨s,cs,fl,fl',e0,st,e,e'⟩ | ⟨blk,e,e'⟩
  ·simp [e]at h
  all_goals (rw [e]at h;rw [e'];exact h)
 | f x=>cases x<;>exact h
 | _=>simp [bV]at h
theorem F7(hH:dP H H'){sz:Nat}{x:C}{cs:List C}(h:dF H sz x=some cs):dF H' sz x=some cs:=by
 cases x with
 | sl b o l c ep s=>
  simp only [dF]at h ⊢;rcases iP hH b with e | ⟨cs,fl,fl',e,e'⟩ | ⟨s,cs,fl,fl',e0,st,e,e'⟩ | ⟨blk,e,e'⟩
  ·simp [e]at h
  all_goals (rw [e]at h;rw [e'];exact h)
 | f x=>cases x<;>exact h
 | _=>simp [dF]at h
theorem rX(hH:dP H H'){k:EqK}{x:C}{b:Bool}(h:isNil H k x=some b):isNil H' k x=some b:=by
 cases k<;>cases x<;>first | exact h | (simp [isNil]at h;done) | skip
 case sl.sl bb o l c ep s=>
  simp only [isNil]at h ⊢;rcases iP hH bb with e | ⟨cs,fl,fl',e,e'⟩ | ⟨s,cs,fl,fl',e0,st,e,e'⟩ | ⟨blk,e,e'⟩
  ·simp [e]at h
  all_goals (rw [e]at h;rw [e'];exact h)
 all_goals (rename_i y;cases y<;>exact h)
theorem aw3(hH:dP H H'){k:EqK}{x y:V}{b:Bool}(h:eqV H k x y=some b):eqV H' k x y=some b:=by
 unfold eqV at h;split at h
 ·exact h
 ·exact h
 ·exact rX hH h
 ·exact rX hH h
 ·exact rX hH h
 ·exact rX hH h
 ·simp at h
theorem J7(hH:dP H H'){sz:Nat}{x:V}{lo hi mx:Option V}{v:V}(h:jm H sz x lo hi mx=some v):jm H' sz x lo hi mx=some v:=by
 unfold jm at h;split at h
 ·exact h
 ·exact h
 ·exact h
 ·rename_i b o n cap ep s;simp only [jm];rcases iP hH b with e | ⟨cs,fl,fl',e,e'⟩ | ⟨s,cs,fl,fl',e0,st,e,e'⟩ | ⟨blk,e,e'⟩
  ·simp [e]at h
  all_goals (rw [e]at h;rw [e'];exact h)
 ·simp at h
theorem J9(hH:dP H H'){n sz:Nat}{x:V}{lo hi mx:Option V}{v:V}(h:nR H n sz x lo hi mx=some v):nR H' n sz x lo hi mx=some v:=by
 unfold nR at h;split at h
 ·rename_i b off ep;simp only [nR];rcases iP hH b with e | ⟨cs,fl,fl',e,e'⟩ | ⟨s,cs,fl,fl',e0,st,e,e'⟩ | ⟨blk,e,e'⟩
  ·simp [e]at h
  all_goals (rw [e]at h;rw [e'];exact h)
 ·exact h
 ·simp at h
theorem GY(hH:dP H H'){sz:Nat}{arr:Option Nat}{x i:V}{v:V}(h:aO H sz arr x i=some v):aO H' sz arr x i=some v:=by
 unfold aO at h ⊢;split at h
 ·simp at h
 ·split at h
  ·rename_i hi;simp only [hi,if_true];split at h
   ·rename_i b o l c ep s;split at h
    ·rename_i hl;simp only [hl,if_true];rcases iP hH b with e | ⟨cs,fl,fl',e,e'⟩ | ⟨s,cs,fl,fl',e0,st,e,e'⟩ | ⟨blk,e,e'⟩
     ·simp [e]at h
     ·rw [e]at h;rw [e'];exact h
     ·rw [e]at h;rw [e'];cases st<;>exact h
     ·rw [e]at h;rw [e'];exact h
    ·simp at h
   ·exact h
   ·exact h
   ·exact h
   ·simp at h
  ·simp at h
theorem GR(hH:dP H H'){ck:CK}{z:FC}{m k:V}{v:V}(h:jv H ck z m k=some v):jv H' ck z m k=some v:=by
 unfold jv at h;split at h
 ·exact h
 ·rename_i b k;simp only [jv];rcases iP hH b with e | ⟨cs,fl,fl',e,e'⟩ | ⟨s,cs,fl,fl',e0,st,e,e'⟩ | ⟨blk,e,e'⟩
  ·simp [e]at h
  all_goals (rw [e]at h;rw [e'];exact h)
 ·simp at h
theorem QC(hH:dP H H'){x v:V}(h:tq H x=some v):tq H' x=some v:=by
 cases x with
 | c x=>
  simp only [tq]at h ⊢;split at h
  ·rename_i n hn;split at h
   ·rename_i cs hcs;rw [CQ hH hn,F7 hH hcs];exact h
   ·simp at h
  ·simp at h
 | _=>simp [tq]at h
theorem PL(hH:dP H H'){x:C}{n:Nat}(h:pX H x=some n):pX H' x=some n:=by
 cases x with
 | sl b o l c ep sz=>
  simp only [pX]at h ⊢;rcases iP hH b with e | ⟨cs,fl,fl',e,e'⟩ | ⟨s,cs,fl,fl',e0,st,e,e'⟩ | ⟨blk,e,e'⟩
  ·simp [e]at h
  ·rw [e]at h;rw [e'];exact h
  ·rw [e]at h;rw [e'];cases st<;>exact h
  ·rw [e]at h;rw [e'];exact h
 | f x=>cases x<;>exact h
 | _=>simp [pX]at h
theorem awf(hH:dP H H'){b:Nat}{es:List (FC × C)}(h:H[b]?=some (.map es)):H'[b]?=some (.map es):=by
 obtain⟨blk',h1,h2⟩:=hH b _ h;cases blk'<;>simp only [dR,reduceCtorEq,Blk.map.injEq]at h2;subst h2;exact h1
theorem awe(hH:dP H H'){b m s:Nat}{d:Bool}(h:H[b]?=some (.mit m s d)):H'[b]?=some (.mit m s d):=by
 obtain⟨blk',h1,h2⟩:=hH b _ h;cases blk'<;>simp only [dR,reduceCtorEq,Blk.mit.injEq]at h2;obtain⟨rfl,rfl,rfl⟩:=h2;exact h1
theorem L9(hH:dP H H'){x v:V}(h:pK H x=some v):pK H' x=some v:=by
 unfold pK at h;split at h
 ·split at h
  ·rename_i hb;split at h
   ·rename_i hm;simp only [pK,awe hH hb,awf hH hm];exact h
   ·simp at h
  ·simp at h
 ·simp at h
theorem NP{r:T}{op:AOp}(hc:cls op=.r)(hH:dP H H'){v:V}{H1:Heap}(h:xOp r H op=some (v,H1)):H1=H∧xOp r H' op=some (v,H'):=by
 cases op<;>first | (simp only [xOp,reduceCtorEq]at h;done) | (simp only [cls,reduceCtorEq]at hc;done) | simp only [xOp]at h ⊢
 case len x=>
  split at h
  ·rename_i y hy;split at h
   ·rename_i n hn;simp only [aa,an]at h;obtain⟨rfl,rfl⟩:=h;simp only [CQ hH hn];simp
   ·simp at h
  ·simp at h
 case cap x=>
  split at h
  ·rename_i y hy;split at h
   ·rename_i n hn;simp only [aa,an]at h;obtain⟨rfl,rfl⟩:=h;simp only [PL hH hn];simp
   ·simp at h
  ·simp at h
 all_goals
  simp only [am,an]at h;obtain⟨q,h1,rfl,rfl⟩:=h;refine⟨rfl,?_⟩
 case entry=>rw [L9 hH h1];rfl
 case load=>rw [awl hH h1];rfl
 case eq=>rw [aw3 hH h1];rfl
 case slice=>rw [J7 hH h1];rfl
 case sV=>rw [J9 hH h1];rfl
 case aT=>rw [GY hH h1];rfl
 case lookup=>rw [GR hH h1];rfl
 case Ci=>rw [QC hH h1];rfl
theorem aKp{r:T}{op:AOp}(hc:cls op=.a){v:V}{H1:Heap}(h:xOp r H op=some (v,H1)):H1=H∨∃ blk,H1=H++[blk]:=by
 cases op<;>first | (simp only [cls,reduceCtorEq]at hc;done) | simp only [xOp]at h
 case call=>simp at h
 case alloc zs=>simp only [aa,an]at h;exact .inr ⟨_,h.2.symm⟩
 case nJ=>simp only [aa,an]at h;exact .inr ⟨_,h.2.symm⟩
 case box x=>
  split at h
  ·simp only [aa,an]at h;exact .inr ⟨_,h.2.symm⟩
  ·simp at h
 case aP sz zs n ps=>
  split at h
  ·split at h
   ·simp only [aa,an]at h;exact .inl h.2.symm
   ·simp at h
  ·simp only [am,an]at h;obtain⟨q,h1,rfl,rfl⟩:=h;exact .inr ⟨_,rfl⟩
 case dK sz b zs x y=>
  split at h
  ·split at h
   ·split at h
    ·simp only [aa,an]at h;exact .inl h.2.symm
    ·simp only [aa,an]at h;exact .inr ⟨_,h.2.symm⟩
   ·simp at h
  ·simp at h
end
section
variable{Q:Program}{σ:Nat→FuncId}{X:Wd}
theorem OL(hS:SR Q σ X)(hB:X.B≤X.w.heap.size){n:Nat}{cs:List C}{fl:Nat}(hn:X.H[n]?=some (.box cs fl))(hr:X.rho n=none){us:List Value}(h:A2 (CR σ X) cs us)(e:TypeId) :
  ∃ X',X'.w=X.w.alloc (.cells us.toArray e)∧X'.H=X.H∧SR Q σ X'∧Ext X.H.length X X'∧X'.rho n=some ⟨X.w.heap.size,0⟩∧X'.B≤X'.w.heap.size∧∀ b,b≠n→X'.rho b=X.rho b:=by
 obtain⟨h1,h2⟩:=SR.fill hS hB hn hr (Adds.alloc X.w (.cells us.toArray e)) 0 (fun hx=>⟨us,ou (Adds.alloc _ _),A2.ext' σ hx h,fun i _ hf=>by
  have:=hS.fb _ _ hf;simp at this⟩)
 exact⟨{ X with rho:=fun b=>if b=n then some ⟨X.w.heap.size,0⟩else X.rho b,w:=X.w.alloc (.cells us.toArray e) },rfl,rfl,h1,h2,by simp,by simp;omega,fun b hb=>by simp [hb]⟩
def Nb(Q:Program)(σ:Nat→FuncId)(X:Wd)(n:Nat)(v:V)(s:Sem Next)(e:Prop):Prop:=
 ∃ X' u,s.run Q X.w=.ok (.value u) X'.w∧Post Q σ X v X.H X' u∧(∀ b,b≠n→X'.rho b=X.rho b)∧(e→X'.rho=X.rho)
theorem G9(hS:SR Q σ X)(hB:X.B≤X.w.heap.size){n:Nat}{cs:List C}{fl:Nat}(hn:X.H[n]?=some (.box cs fl))(hr:X.rho n=none){us:List Value}(h:A2 (CR σ X) cs us)(e:TypeId){s:Sem Next}{e':Prop}(he:¬ e')
  (hs:s.run Q X.w=.ok (.value (.pointer (some ⟨X.w.heap.size,0,none⟩))) (X.w.alloc (.cells us.toArray e))):Nb Q σ X n (.c (.ptr n 0 0)) s e':=by
 obtain⟨X',h1,h2,h3,h4,h5,h6,h7⟩:=OL hS hB hn hr h e;refine⟨X',_,by rw [h1];exact hs,⟨h2,h3,?_,h4,h6⟩,h7,fun h=>absurd h he⟩
 exact⟨_,h5,by rw [h2,hn]⟩
theorem OJ(hS:SR Q σ X)(hB:X.B≤X.w.heap.size){n:Nat}{cs:List C}{fl:Nat}(hn:X.H[n]?=some (.box cs fl))(hr:X.rho n=none){us:List Value}(h:A2 (CR σ X) cs us)(e:TypeId){s:Sem Next}{l c sz:Nat}(hlc:l≤c){e':Prop}(he:¬ e')
  (hs:s.run Q X.w=.ok (.value (.slice (some ⟨X.w.heap.size,0,none⟩) l c)) (X.w.alloc (.cells us.toArray e))):Nb Q σ X n (.c (.sl n 0 l c 0 sz)) s e':=by
 obtain⟨X',h1,h2,h3,h4,h5,h6,h7⟩:=OL hS hB hn hr h e;refine⟨X',_,by rw [h1];exact hs,⟨h2,h3,?_,h4,h6⟩,h7,fun h=>absurd h he⟩
 simp only [VR,VR1,CR,CR1,h2,hn];exact⟨_,h5,hlc,rfl⟩
theorem vC{H H1:Heap}{cs:List C}(h:dP (H++[.box cs 0]) H1):∃ fl,H1[H.length]?=some (.box cs fl):=by
 obtain⟨blk',hb,hl⟩:=h H.length (.box cs 0) (by simp)
 cases blk'<;>simp only [dR,reduceCtorEq]at hl;obtain⟨rfl,_⟩:=hl;exact⟨_,hb⟩
theorem F8{w':World}{o:Obj}(hS:SR Q σ X)(hw:Adds X.w w' o)(hB:X.B≤X.w.heap.size):∃ X':Wd,X'.w=w'∧X'.H=X.H∧SR Q σ X'∧Ext X.H.length X X'∧X'.B≤X'.w.heap.size∧X'.rho=X.rho:=by
 have hx:Ext X.H.length X { X with w:=w' }:=Ext.one hS X.H.length rfl (fun _ _=>Iff.rfl) (fun k hk _=>hw.old hk)
  (fun L i h=>by rw [SR.wL hS]at h;simp at h) (fun h=>absurd h (db _)) (fun _ _ _=>rfl) (fun _ _=>rfl) (fun L h=>.inl ⟨L,h,rfl⟩) (by show _≤w'.heap.size;rw [hw.size];omega) hw.os hw.tape hw.output
 refine⟨{ X with w:=w' },rfl,rfl,SR.step Q σ hS hx X.H.length (fun _ _=>rfl) (fun _ _=>rfl) (fun b L _ hb=>hw.old (hS.br b L hb).2.1)
  (fun _ _ _ _ _ h=>h) (fun L h=>by change X.rho X.H.length=some L at h;rw [SR.wL hS]at h;simp at h) (fun c i h=>?_),hx,?_,rfl⟩
 ·have:=hS.fb c i h;show c<w'.heap.size;rw [hw.size];omega
 ·show X.B≤w'.heap.size;rw [hw.size];omega
theorem awn(hS:SR Q σ X)(hB:X.B≤X.w.heap.size){a:Act}{regs:T}(hR:RR σ X regs a.tmps){o:Oper}{op:AOp}(hc:cls op=.a)(hm:mOp Q σ o op=true){H H1:Heap}{v:V}(h:xOp regs H op=some (v,H1))
  (hH:dP H1 X.H) (hr:H1.length≠H.length→X.rho H.length=none):Nb Q σ X H.length v (execOp a.eval o) (H1.length=H.length):=by
 cases op<;>first | (simp only [cls,reduceCtorEq]at hc;done) | skip
 case call f xs h'=>simp [xOp]at h
 case alloc zs=>
  simp only [xOp,aa,an]at h;obtain⟨rfl,rfl⟩:=h;obtain⟨fl,hn⟩:=vC hH;simp only [mOp]at hm;split at hm
  ·rename_i t ho;obtain⟨z,us,h1,h2,h3,_⟩:=gV (σ:=σ) (X:=X) hm X.w;refine G9 hS hB hn (hr (by simp)) h3 t (by simp) ?_
   simp only [execOp,ho];refine fQ ?_;simp [Instr.alloc,h1,newVar,newRow,h2]
  ·simp at hm
 case nJ=>
  simp only [xOp,aa,an]at h;obtain⟨rfl,rfl⟩:=h
  have hn:X.H[H.length]?=some (.map []):=by
   obtain⟨blk',hb,hl⟩:=hH H.length (.map []) (by simp)
   cases blk'<;>simp only [dR,reduceCtorEq,Blk.map.injEq]at hl;subst hl;exact hb
  simp only [mOp]at hm;split at hm
  ·rename_i t ho;have hr:=hr (by simp)
   obtain⟨h1,h2⟩:=SR.fill hS hB hn hr (Adds.alloc X.w (.map #[] 0)) 0 (fun hx=>⟨[],(Adds.alloc _ _).new,A2.nil,by simp⟩)
   refine⟨{ X with rho:=fun b=>if b=H.length then some ⟨X.w.heap.size,0⟩else X.rho b,w:=X.w.alloc (.map #[] 0) },.map (some X.w.heap.size),?_,⟨rfl,h1,⟨⟨X.w.heap.size,0⟩,by simp,⟨[],hn⟩,rfl⟩,h2,by show X.B≤_;simp;omega⟩,fun b hb=>by simp [hb],fun h=>by simp at h⟩
   simp [execOp,ho,Instr.makeMap]
  ·simp at hm
 case box x=>
  simp only [xOp]at h;split at h
  ·rename_i xs hxs;simp only [aa,an]at h;obtain⟨rfl,rfl⟩:=h;obtain⟨fl,hn⟩:=vC hH;simp only [mOp]at hm;split at hm
   ·rename_i t y ho;obtain⟨us,h2,h3⟩:=cells_ok (bH hR hm) hxs;refine G9 hS hB hn (hr (by simp)) h3 t (by simp) ?_
    simp only [execOp,ho];refine fQ ?_;simp [Instr.box,newVar,newRow,h2]
   ·simp at hm
  ·simp at h
 case aP sz zs n ps=>
  simp only [mOp]at hm;split at hm
  ·rename_i t n' qs ho;simp only [ag,beq_iff_eq,decide_eq_true_eq]at hm;obtain⟨⟨⟨⟨rfl,hbig⟩,he⟩,hsz0⟩,hq⟩:=hm;obtain⟨e,hu,he⟩:=jP he;simp only [ag,decide_eq_true_eq]at he;obtain⟨⟨hsz,hz⟩,hzl⟩:=he;obtain⟨z,us,hz1,hz2,hz3,_⟩:=gV (σ:=σ) (X:=X) hz X.w;have hul:us.length=sz:=by have:=hz3.len;simp at this;omega
   simp only [xOp]at h;split at h
   ·rename_i hn;subst hn;split at h
    ·rename_i hps;simp only [aa,an]at h;obtain⟨rfl,rfl⟩:=h
     have hqs:qs.toList=[]:=by
      have:=(gQ hq).len;simp only [List.isEmpty_iff]at hps;rw [hps]at this;exact av this.symm
     have hqs:qs=#[]:=by apply Array.ext';simpa using hqs
     obtain⟨X',h1,h2,h3,h4,h5,h6⟩:=F8 hS (Adds.alloc X.w (.cells #[] e)) hB;refine⟨X',.slice (some ⟨X.w.heap.size,0,none⟩) 0 0,?_,⟨h2,h3,FCR.es _,h4,h5⟩,fun b _=>by rw [h6],fun _=>h6⟩
     rw [h1];simp only [execOp,ho];refine fQ ?_;simp [Instr.buildSlice,aV hu,dJ hsz,hqs,Instr.fill,newRow,show Array.range 0=(#[]:Array Nat) from rfl]
    ·simp at h
   ·rename_i hn;simp only [am,an]at h;obtain⟨cs,hcs,rfl,rfl⟩:=h;obtain⟨fl,hnn⟩:=vC hH
    obtain⟨us',h5,h6⟩:=rZ (place:=fun i=>some (i*sz,sz)) (ps:=qs.toList) hR (qs:=ps.map fun p=>(p.1*sz,sz,p.2)) (A2.map ((gQ hq).weak fun q p hqp=>by
     simp only [ag,beq_iff_eq]at hqp
     exact⟨by rw [hqp.1],hqp.2⟩)) (kX hz3 n') hcs
    refine OJ hS hB hnn (hr (by simp)) h6 e (aq _) (by simp) ?_
    simp only [execOp,ho];refine fQ ?_
    have hnz:n'*sz≠0:=by
     intro h0;rcases dc.1 h0 with h0 | h0<;>omega
    have hze:=jR us n' (by omega)
    rw [hul]at hze;simp only [Instr.buildSlice,Sem.run_bind,aV hu,dJ hsz,Result.andThen_ok,if_neg (show¬ n'*sz>2 ^ 24 by omega),Sem.run_ite,if_neg hnz,hz1,Sem.run_pure,hz2]
    simp only [Array.toList_map];rw [hze];simp [h5,newRow]
  ·simp at hm
 case dK sz bytes zs x y=>
  simp only [mOp]at hm;split at hm
  ·rename_i t x' y' ho;simp only [ag,decide_eq_true_eq]at hm;obtain⟨⟨⟨hx,hy⟩,he⟩,hpos⟩:=hm;have hx:=bH hR hx;have hy:=bH hR hy;obtain⟨e,hu,he⟩:=jP he;simp only [ag]at he;obtain⟨⟨hsz,hby⟩,hz⟩:=he;obtain⟨z,us,hz1,hz2,hz3,inf,hi1,hi2⟩:=gV (σ:=σ) (X:=X) hz X.w;obtain⟨inf',hb1,hb2⟩:=En hby X.w;simp only [xOp]at h;split at h
   ·rename_i l c hl hc;obtain⟨kl,hxl⟩:=kR hx hl;obtain⟨kc,hyc⟩:=kR hy hc;split at h
    ·rename_i hcond;obtain⟨h0,hlc,hroom,hzl⟩:=hcond;unfold bK at hroom;simp only [ag,decide_eq_true_eq]at hroom;have hul:us.length=sz:=by have:=hz3.len;simp at this;omega
     have hwl:=wrap_small (n:=l) h0 (by omega)
     have hwc:=wrap_small (n:=c) (by omega) (by omega)
     have aQZ:c.toNat*bytes≤2 ^ 48:=by
      have:c.toNat*bytes≤(2*c.toNat+768)*bytes:=ce _ (by omega)
      omega
     have hbig:¬ ((bytes:Int)*c>2 ^ 48):=by
      have e1:(bytes:Int)*c=((c.toNat*bytes:Nat):Int):=by
       rw [Int.natCast_mul,Int.mul_comm];congr 1;omega
      rw [e1];omega
     have hrow:((Array.range (c.toNat*sz)).map fun i=>us.toArray[i % us.toArray.size]!)=(dw c.toNat us).toArray:=by
      have:=jR us c.toNat (by omega);rwa [hul]at this
     have run:(execOp a.eval o).run Q X.w=.ok (.value (.slice (some ⟨X.w.heap.size,0,none⟩) l.toNat c.toNat)) (X.w.alloc (.cells (dw c.toNat us).toArray e)):=by
      simp only [execOp,ho];refine fQ ?_;rw [hxl,hyc];have hc1:¬ c<0:=by omega
      have hl1:¬ l<0:=by omega
      have Wy:¬ l>c:=by omega
      by_cases hc0:c.toNat*sz=0
      ·have hr0:dw c.toNat us=[]:=av (by rw [oz,hul];exact hc0)
       have uo:((decide (c<0)||decide ((bytes:Int)*c>2 ^ 48))||decide (l<0)||decide (l>c))=false:=by rw [decide_eq_false hc1,decide_eq_false hl1,decide_eq_false Wy,decide_eq_false hbig];rfl
       simp only [Instr.makeSlice,Sem.run_bind,aV hu,asInt,asIntOf,Sem.run_pure,Result.andThen_ok,hb1,hb2,hwl,hwc,run_askRoom,dJ hsz];simp only [uo,aw,if_false,Sem.run_ite,if_pos hc0,Sem.run_bind,Result.andThen_ok,Sem.run_pure,run_askRoom,dJ hsz,newRow,run_newObj];rw [hc0,hr0,show(Array.map (fun x=>(#[]:Array Value)[x % (#[]:Array Value).size]!) (Array.range 0))=#[] from by simp [show Array.range 0=(#[]:Array Nat) from rfl]];rfl
      ·simp only [Instr.makeSlice,Sem.run_bind,aV hu,asInt,asIntOf,Sem.run_pure,Result.andThen_ok,hb1,hb2,hwl,hwc,run_askRoom,dJ hsz];have uo:((decide (c<0)||decide ((bytes:Int)*c>2 ^ 48))||decide (l<0)||decide (l>c))=false:=by rw [decide_eq_false hc1,decide_eq_false hl1,decide_eq_false Wy,decide_eq_false hbig];rfl
       simp only [uo,aw,if_false,Sem.run_ite,if_neg hc0,Sem.run_bind,hz1,hz2,Result.andThen_ok,Sem.run_pure,run_askRoom,dJ hsz,hrow,newRow,run_newObj];rfl
     split at h
     ·rename_i hc0;subst hc0;simp only [aa,an]at h;obtain⟨rfl,rfl⟩:=h;have:l=0:=by omega
      subst this;obtain⟨X',g1,g2,g3,g4,g5,g6⟩:=F8 hS (Adds.alloc X.w (.cells (dw (0:Int).toNat us).toArray e)) hB;exact⟨X',_,by rw [g1];exact run,⟨g2,g3,FCR.es _,g4,g5⟩,fun b _=>by rw [g6],fun _=>g6⟩
     ·simp only [aa,an]at h;obtain⟨rfl,rfl⟩:=h;obtain⟨fl,hnn⟩:=vC hH;exact OJ hS hB hnn (hr (by simp)) (kX hz3 c.toNat) e (by omega) (by simp) run
    ·simp at h
   ·simp at h
  ·simp at hm
end
section
theorem Lj{acc:List Nat}{o:Oper}{i:Nat}:(qO acc o).testBit i=true↔∃ e ∈ o.after.toList,Region.binds .any e=true∧(e.on=i∨(acc.getD e.on 0).testBit i=true):=by
 unfold qO
 have key:∀(l:List Edge) (s:Nat),(l.foldl (fun s e=>if Region.binds .any e then s ||| 2 ^ e.on ||| acc.getD e.on 0 else s) s).testBit i=true ↔
   s.testBit i=true∨∃ e ∈ l,Region.binds .any e=true∧(e.on=i∨(acc.getD e.on 0).testBit i=true):=by
  intro l
  induction l with
  | nil=>intro s;simp
  | cons e l ih=>
   intro s;simp only [cm,ih,cF,exists_eq_or_imp];by_cases hb:Region.binds .any e=true
   ·simp only [hb,if_true,Nat.testBit_or,Bool.or_eq_true,Nat.testBit_two_pow,decide_eq_true_eq,true_and,or_assoc]
   ·simp [hb]
 rw [key];simp
theorem Dc:∀(os:List Oper) (acc:List Nat),(masks os acc).length=acc.length+os.length
 | [],acc=>by simp [masks]
 | o::os,acc=>by rw [masks,Dc];simp;omega
theorem wP:∀(os:List Oper) (acc:List Nat) (k:Nat),k<acc.length→(masks os acc)[k]?=acc[k]?
 | [],acc,k,_=>rfl
 | o::os,acc,k,h=>by
  rw [masks,wP os _ k (by simp;omega),ae h]
theorem C9:∀(os:List Oper) (acc:List Nat) (t:Nat) (o:Oper),os[t]?=some o→(masks os acc)[acc.length+t]?=some (qO ((masks os acc).take (acc.length+t)) o)
 | [],acc,t,o,h=>by simp at h
 | o'::os,acc,0,o,h=>by
  simp only [ch,aa]at h;subst h;have hold:∀ k,k<acc.length→(masks os (acc++[qO acc o']))[k]?=acc[k]?:=fun k hk=>by rw [wP os _ k (by simp;omega),ae hk]
  have htake:(masks os (acc++[qO acc o'])).take acc.length=acc:=by
   apply List.ext_getElem?;intro k;rw [bE];split
   ·rename_i hk;exact hold k hk
   ·rename_i hk;rw [cV (by omega)]
  rw [masks,Nat.add_zero,htake,wP os _ _ (by simp)]
  simp
 | o'::os,acc,t+1,o,h=>by
  simp only [df]at h;have:=C9 os (acc++[qO acc o']) t o h;rw [masks];rw [show acc.length+(t+1)=(acc++[qO acc o']).length+t by simp;omega]
  exact this
theorem O4{ops:List Oper}{i j:Nat}{o:Oper}(hj:ops[j]?=some o) :
  anc (masks ops []) i j=true↔∃ e ∈ o.after.toList,Region.binds .any e=true∧(e.on=i∨(e.on<j∧anc (masks ops []) i e.on=true)):=by
 have h:=C9 ops [] j o hj;simp only [List.length_nil,cg]at h;unfold anc;rw [bu,h,Option.getD_some,Lj]
 have hg:∀ k,((masks ops []).take j).getD k 0=if k<j then(masks ops []).getD k 0 else 0:=by
  intro k;simp only [bu,bE];split<;>simp
 constructor
 ·rintro⟨e,he,hb,h⟩;refine⟨e,he,hb,h.imp id fun h=>?_⟩
  rw [hg]at h;split at h
  ·rename_i hk;exact⟨hk,h⟩
  ·simp at h
 ·rintro⟨e,he,hb,h⟩;refine⟨e,he,hb,h.imp id fun h=>?_⟩
  rw [hg,if_pos h.1];exact h.2
def Closed(ops:List Oper)(D:Nat→Prop):Prop:=∀ j o,D j→ops[j]?=some o→∀ e ∈ o.after.toList,Region.binds .any e=true→D e.on
theorem Closed.below{ops:List Oper}{D:Nat→Prop}(h:Closed ops D){i:Nat}:∀(j:Nat),D j→anc (masks ops []) i j=true→D i:=by
 intro j
 induction j using Nat.strongRecOn with
 | ind j ih=>
  intro hj ha
  cases ho:ops[j]? with
  | none=>
   exfalso;unfold Km.anc at ha;have:(masks ops []).length≤j:=by rw [Dc];simpa using List.getElem?_eq_none_iff.1 ho
   rw [bu,cV this]at ha
   simp at ha
  | some o=>
   obtain⟨e,he,hb,h1 | ⟨h1,h2⟩⟩:=(O4 ho).1 ha
   ·exact h1▸h j o hj ho e he hb
   ·exact ih e.on h1 (h j o hj ho e he hb) h2
theorem Closed.ready{ops:List Oper}{D:Nat→Prop}(h:Closed ops D){i j:Nat}{o:Oper}(ho:ops[j]?=some o)(hr:∀ e ∈ o.after.toList,Region.binds .any e=true→D e.on)(ha:anc (masks ops []) i j=true):D i:=by
 obtain⟨e,he,hb,h1 | ⟨h1,h2⟩⟩:=(O4 ho).1 ha
 ·exact h1▸hr e he hb
 ·exact h.below e.on (hr e he hb) h2
def isW(aos:List AOper)(j:Nat):Prop:=∃ y,aos[j]?=some y∧cls y.op=.w
theorem qN{aos:List AOper}{j:Nat}:j ∈ rM aos↔isW aos j:=by
 unfold rM isW;rw [List.mem_filter,List.mem_range];constructor
 ·rintro⟨_,h⟩;split at h
  ·rename_i y hy;exact⟨y,hy,by simpa using h⟩
  ·simp at h
 ·rintro⟨y,hy,hc⟩;exact⟨(ab.1 hy).1,by simp [hy,hc]⟩
theorem qC{α:Type}(p:α→Bool):∀(l:List α),(∀ k,k<(l.takeWhile p).length→∃ y,l[k]?=some y∧p y=true)∧((l.takeWhile p).length=l.length∨∃ y,l[(l.takeWhile p).length]?=some y∧p y=false)
 | []=>by simp
 | x::l=>by
  by_cases hp:p x=true
  ·rw [List.takeWhile_cons_of_pos hp];obtain⟨h1,h2⟩:=qC p l;refine⟨fun k hk=>?_,?_⟩
   ·cases k with
    | zero=>exact⟨x,rfl,hp⟩
    | succ k=>exact h1 k (by simpa using hk)
   ·rcases h2 with h2 | h2
    ·exact .inl (by simp [h2])
    ·exact .inr (by simpa using h2)
  ·rw [List.takeWhile_cons_of_neg hp];exact⟨by simp,.inr ⟨x,rfl,by simpa using hp⟩⟩
theorem tY{aos:List AOper}{i:Nat}(hi:i≤aos.length):i≤phase aos i∧phase aos i≤aos.length∧(phase aos i=aos.length∨isW aos (phase aos i))∧∀ j,i≤j→j<phase aos i→¬ isW aos j:=by
 unfold phase;obtain⟨h1,h2⟩:=qC (fun y:AOper=>decide (cls y.op≠.w)) (aos.drop i)
 have hle:((aos.drop i).takeWhile fun y=>decide (cls y.op≠.w)).length≤(aos.drop i).length:=by
  rcases bR (aos.drop i).length ((aos.drop i).takeWhile fun y=>decide (cls y.op≠.w)).length with h | h
  ·obtain⟨y,hy,_⟩:=h1 _ h;have:=(ab.1 hy).1;omega
  ·exact h
 simp only [cf]at hle h2;refine⟨by omega,by omega,?_,fun j hj hlt=>?_⟩
 ·rcases h2 with h2 | ⟨y,hy,hc⟩
  ·exact .inl (by omega)
  ·rw [aM]at hy;exact .inr ⟨y,hy,by simpa using hc⟩
 ·obtain⟨y,hy,hc⟩:=h1 (j-i) (by omega)
  rw [aM,show i+(j-i)=j by omega]at hy
  rintro⟨y',hy',hc'⟩;rw [hy]at hy';cases hy';simp [hc']at hc
structure Ord(ops:List Oper)(aos:List AOper)(chk:List (Nat × Nat)):Prop where
 back:∀ j o,j<aos.length→ops[j]?=some o→∀ e ∈ o.after.toList,Region.binds .any e=true→e.on<j
 two:∀ i j x y,i<j→aos[i]?=some x→aos[j]?=some y→anc (masks ops []) i j=true∨(x.apart y=true∧(Ap x y=true∨(j=oI (masks ops []) aos∧cls x.op=.w)))
 ear:∀ y,aos[oI (masks ops []) aos]?=some y→(∃ zs,y.op=.alloc zs)∧y.g=none∧∃ p,y.dst=some p∧∀ i z,aos[i]?=some z→p ∈ z.rd→∀ e,isW aos e→e<oI (masks ops []) aos→anc (masks ops []) e i=true
 rd:∀ i x e,aos[i]?=some x→cls x.op=.r→isW aos e∨e=aos.length→Oq (masks ops []) aos i e=true→e=phase aos i∨(i,e) ∈ chk
theorem PY{ops:List Oper}{aos:List AOper}{chk:List (Nat × Nat)}(h:VD ops aos chk=true):Ord ops aos chk:=by
 simp only [VD,ag]at h;obtain⟨⟨⟨h1,h2⟩,h4⟩,h3⟩:=h;refine⟨fun j o hj ho e he hb=>?_,fun i j x y hij hx hy=>?_,fun y hy=>?_,fun i x e hx hc he hm=>?_⟩
 ·rw [aR]at h1
  have hmem:(o,j) ∈ ops.zip (List.range aos.length):=by
   refine List.mem_of_getElem? (i:=j) ?_;rw [List.getElem?_zip_eq_some];exact⟨ho,by simp [hj]⟩
  have:=h1 _ hmem;rw [aR]at this;simpa [hb]using this e he
 ·rw [aR]at h2;have:=h2 j (by simpa using (ab.1 hy).1)
  rw [aR]at this;have:=this i (by simpa using hij)
  rw [hx,hy]at this;simpa using this
 ·unfold OT at h4;rw [hy]at h4;simp only [ag,Option.isNone_iff_eq_none]at h4;obtain⟨⟨h5,h6⟩,h7⟩:=h4;refine⟨?_,h5,?_⟩
  ·split at h6
   ·exact⟨_,by assumption⟩
   ·simp at h6
  ·split at h7
   ·rename_i p hp;refine⟨p,hp,fun i z hz hpz e he hlt=>?_⟩
    rw [aR]at h7;have:=h7 i (by simpa using (ab.1 hz).1)
    rw [hz]at this;simp only [Bool.or_eq_true,Bool.not_eq_true',List.contains_eq_mem,decide_eq_false_iff_not,aR]at this;rcases this with h | h
    ·exact absurd hpz h
    ·have:=h e (qN.2 he);simpa [hlt]using this
   ·simp at h7
 ·rw [aR]at h3;have:=h3 i (by simpa using (ab.1 hx).1)
  rw [hx]at this;simp only [hc,if_true]at this;rw [aR]at this
  have:=this e (by
   rw [bX];rcases he with he | he
   ·exact .inl (qN.2 he)
   ·exact .inr (by simp [he]))
  simpa [hm]using this
end
section
variable{Q:Program}{σ:Nat→FuncId}{X:Wd}{call:dD}
theorem Ext.len{X X':Wd}(h:Ext X.H.length X X'):X.H.length≤X'.H.length:=by
 rcases bR X'.H.length X.H.length with hlt | hge
 ·obtain⟨blk',hb',_⟩:=h.keep X'.H.length hlt _ (ai hlt);have:=(ab.1 hb').1;omega
 ·exact hge
theorem Cj{s s':St}{op:AOp}{v:V}(h:gU call s op=some (v,s')):s'.regs=s.regs:=by
 have:=NQ (r':=s.regs) (fun _ _=>rfl) h
 rw [show({ s with regs:=s.regs }:St)=s from rfl,h]at this
 simp only [aa,an,true_and]at this;rw [this]
theorem JM{s s':St}{y:AOper}(h:je call s y=some s'):∃ v,s'.regs=lY s.regs y.dst v:=by
 unfold je at h;split at h
 ·split at h
  ·rename_i v s1 h1;cases h;exact⟨v,by rw [Cj h1]⟩
  ·simp at h
 ·cases h;exact⟨_,rfl⟩
 ·simp at h
theorem zF{regs:T}{d:Option P}{v:V}{p:P}:(lY regs d v).get p=if d=some p then v else regs.get p:=by
 cases d with
 | none=>simp [lY]
 | some q=>simp only [lY,T.vI,aa]
theorem tH{s s':St}{y:AOper}(hc:cls y.op≠.w)(h:je call s y=some s'):dP s.heap s'.heap∧s'.defs=s.defs:=by
 unfold je at h;split at h
 ·split at h
  ·rename_i v s1 h1;cases h;by_cases hp:(∃ f xs h,y.op=.call f xs h)∨(∃ x xs h,y.op=.bW x xs h)∨y.op=.recover∨∃ x xs,y.op=.defer x xs
   ·rcases hp with⟨f,xs,hh,e⟩ | ⟨x,xs,hh,e⟩ | e | ⟨x,xs,e⟩
    ·rw [e]at h1 hc;cases hh
     ·simp only [gU,jo,aw,if_false,am,an]at h1;obtain⟨⟨v',H'⟩,h1,rfl,rfl⟩:=h1;refine⟨?_,rfl⟩;unfold fZ at h1;split at h1
      ·simp at h1
      ·split at h1
       ·simp at h1
       ·split at h1
        ·simp at h1
        ·simp only [aa,an]at h1
         show dP s.heap H'
         rw [←h1.2];exact(rW _ _ _).ext
     ·exact absurd rfl hc
    ·rw [e]at hc;exact absurd rfl hc
    ·rw [e]at hc;exact absurd rfl hc
    ·rw [e]at hc;exact absurd rfl hc
   ·have hx:(xOp s.regs s.heap y.op).map (fun r=>(r.1,{ s with heap:=r.2 }))=some (v,s1):=by
     generalize y.op=op at h1 hp;cases op<;>first | exact h1 | (exfalso;apply hp;simp)
    simp only [am,an]at hx;obtain⟨⟨v',H'⟩,h2,rfl,rfl⟩:=hx;clear h1;have h1:=h2;clear h2;refine⟨?_,rfl⟩
    show dP s.heap H'
    cases hcl:cls y.op with
    | p=>
     have:=aDT (r:=s.regs) hcl s.heap s.heap;rw [h1]at this;simp only [bz,aa,an]at this
     rw [this.2];exact dP.refl _
    | r=>rw [(NP hcl (dP.refl _) h1).1];exact dP.refl _
    | a=>
     rcases aKp hcl h1 with e | ⟨cs,e⟩
     ·rw [e];exact dP.refl _
     ·rw [e];exact dP.append _ _
    | c=>
     generalize y.op=op at h1 hcl
     cases op<;>first | (simp only [cls,reduceCtorEq]at hcl;done) | (simp [xOp]at h1;done)
    | w=>exact absurd hcl hc
  ·simp at h
 ·cases h;exact⟨dP.refl _,rfl⟩
 ·simp at h
def jH(regs:T)(ps:List P):T:=ps.foldl (fun t p=>t.set p (regs.get p)) .e
theorem zC(regs:T)(ps:List P)(p:P):(jH regs ps).get p=if p ∈ ps then regs.get p else .top:=by
 have key:∀(ps:List P) (t:T),(ps.foldl (fun t p=>t.set p (regs.get p)) t).get p=if p ∈ ps then regs.get p else t.get p:=by
  intro ps
  induction ps with
  | nil=>intro t;simp
  | cons q ps ih=>
   intro t;simp only [cm,ih,T.vI,cF];by_cases h1:p ∈ ps
   ·simp [h1]
   ·by_cases h2:q=p
    ·subst h2;simp [h1]
    ·have:¬ p=q:=fun e=>h2 e.symm
     simp [h1,h2,this]
 have:=key ps .e;unfold jH;rw [this];rfl
structure Reg(Q:Program)(σ:Nat→FuncId)(call:dD)(n:Nat)(ops:Array Oper)(aos:List AOper)(chk:List (Nat × Nat))(st:Nat→St):Prop where
 aH5:all2 (oG Q σ n ops) ops.toList aos=true
 ord:Ord ops.toList aos chk
 step:∀ i y,aos[i]?=some y→je call (st i) y=some (st (i+1))
 aRg:∀ i e y,(i,e) ∈ chk→aos[i]?=some y→wanted (st i).regs y.g=some true→∃ v H1 H2,xOp (st i).regs (st i).heap y.op=some (v,H1)∧xOp (st i).regs (st e).heap y.op=some (v,H2)
structure oO(σ:Nat→FuncId)(X:Wd)(c:Nat)(zs:List FC):Prop where
 blk:∃ us t,X.w.heap[c]?=some (.cells us.toArray t (0,0))∧A2 (CR σ X) (zs.map .f) us
 b:X.B≤c
 img:∀ b L,X.rho b=some L→L.c≠c
 f:∀ i,¬ X.F c i
theorem oO.lt{c:Nat}{zs:List FC}(h:oO σ X c zs):c<X.w.heap.size:=by
 obtain⟨us,t,h1,_⟩:=h.blk;exact(Array.getElem?_eq_some_iff.1 h1).1
theorem oO.ext{X X':Wd}(hx:Ext X.H.length X X'){c:Nat}{zs:List FC}(h:oO σ X c zs):oO σ X' c zs:=by
 have hlt:=h.lt;obtain⟨us,t,h1,h2⟩:=h.blk;refine⟨⟨us,t,by rw [hx.frame c hlt h.img];exact h1,A2.ext' σ hx h2⟩,by rw [hx.B];exact h.b,fun b L hb=>?_,fun i hi=>?_⟩
 ·rcases hx.img b L hb with⟨b0,L0,g1,g2⟩ | g1
  ·rw [←g2];exact h.img b0 L0 g1
  ·omega
 ·rcases hx.vW c i hi with g | g | ⟨b,L,g1,g2⟩
  ·exact h.f i g
  ·omega
  ·exact h.img b L g1 g2
theorem SR.assign(hS:SR Q σ X){n c:Nat}{zs:List FC}{fl:Nat}(hp:oO σ X c zs)(hn:X.H[n]?=some (.box (zs.map .f) fl))(hr:X.rho n=none) :
  SR Q σ { X with rho:=fun b=>if b=n then some ⟨c,0⟩else X.rho b }∧wu X.H.length X { X with rho:=fun b=>if b=n then some ⟨c,0⟩else X.rho b }∧VR σ { X with rho:=fun b=>if b=n then some ⟨c,0⟩else X.rho b } (.c (.ptr n 0 0)) (.pointer (some ⟨c,0,none⟩)):=by
 have hW:wu X.H.length X { X with rho:=fun b=>if b=n then some ⟨c,0⟩else X.rho b }:=by
  refine⟨fun _ _ h=>h,fun _ _ _=>rfl,fun b _ blk hb=>⟨blk,hb,?_⟩⟩
  have:∀ L,X.rho b=some L→(if b=n then some (⟨c,0⟩:Loc)else X.rho b)=some L:=fun L hL=>by
   by_cases e:b=n
   ·subst e;rw [hr]at hL;simp at hL
   ·rw [if_neg e];exact hL
  cases blk<;>simp only [true_and,and_self]<;>first | exact this | (exact .inl ⟨trivial,trivial,this⟩) | (exact⟨rfl,.inl ⟨rfl,rfl,this⟩⟩) | (exact .inl this) | simpa using this
 obtain⟨us,t,h1,h2⟩:=hp.blk;refine⟨⟨fun b L hb=>?_,fun b b' L L' hb hb' hc=>?_,hS.fb⟩,hW,⟨⟨c,0⟩,by simp,by rw [hn]⟩⟩
 ·by_cases e:b=n
  ·subst e;simp only [if_true,aa]at hb;subst hb;exact⟨hp.b,hp.lt,_,hn,us,⟨t,(0,0),h1,fun i _=>by simp⟩,A2.fJ σ hW h2,fun i _=>hp.f i⟩
  ·simp only [e,if_false]at hb;obtain⟨g1,g2,blk,g3,g4⟩:=hS.br b L hb;exact⟨g1,g2,blk,g3,BR.vM Q σ hW rfl (fun _ h=>h) g4⟩
 ·simp only at hb hb';by_cases e:b=n<;>by_cases e':b'=n
  ·rw [e,e']
  ·rw [if_pos e]at hb;rw [if_neg e']at hb';cases hb;exact absurd hc.symm (hp.img b' L' hb')
  ·rw [if_neg e]at hb;rw [if_pos e']at hb';cases hb';exact absurd hc (hp.img b L hb)
  ·rw [if_neg e]at hb;rw [if_neg e']at hb';exact hS.inj b b' L L' hb hb' hc
abbrev eJ(ops:Array Oper)(aos:List AOper):Nat:=oI (masks ops.toList []) aos
def aRm(σ:Nat→FuncId)(X0:Wd)(ops:Array Oper)(aos:List AOper)(E:Nat)(X:Wd)(a:Act)(p:P)(K:Nat):Prop:=
 ∃ y zs c,K=eJ ops aos+1∧E≤eJ ops aos∧aos[eJ ops aos]?=some y∧y.dst=some p∧y.op=.alloc zs∧a.tmps.getD p.toNat undef=.pointer (some ⟨c,0,none⟩)∧X0.w.heap.size≤c∧oO σ X c zs
structure Inv(Q:Program)(σ:Nat→FuncId)(X0:Wd)(n:Nat)(ops:Array Oper)(aos:List AOper)(st:Nat→St)(D:Nat→Prop)(E:Nat)(X:Wd)(a:Act):Prop where
 closed:Closed ops.toList D
 dlt:∀ j,D j→j<aos.length
 eN:E≤aos.length
 eW:E=aos.length∨isW aos E
 eD:¬ D E
 wD:∀ j,isW aos j→j<E→D j
 heap:X.H=(st E).heap
 ext:Ext X0.H.length X0 X
 sr:SR Q σ X
 b:X.B≤X.w.heap.size
 defs:iZ σ X (st E).defs a.defers
 size:n≤a.tmps.size
 slots:∀ p,∃ K,K≤aos.length∧(VR σ X ((st K).regs.get p) (a.tmps.getD p.toNat undef)∨aRm σ X0 ops aos E X a p K)∧∀ j y,aos[j]?=some y→y.dst=some p→(j<K↔D j)
 holes:∀ j y,j<E→¬ D j→aos[j]?=some y→cls y.op=.a→(st (j+1)).heap.length≠(st j).heap.length→X.rho (st j).heap.length=none
section
variable{n:Nat}{ops:Array Oper}{aos:List AOper}{chk:List (Nat × Nat)}{st:Nat→St}
theorem Reg.oV(R:Reg Q σ call n ops aos chk st){p:P}{lo:Nat}:∀(hi:Nat),lo≤hi→hi≤aos.length→(∀ j y,lo≤j→j<hi→aos[j]?=some y→y.dst≠some p)→(st lo).regs.get p=(st hi).regs.get p
 | 0,h,_,_=>by rw [Nat.le_zero.1 h]
 | hi+1,h,hn,hw=>by
  rcases bR hi lo with h1 | h1
  ·rw [show lo=hi+1 by omega]
  ·rw [Reg.oV R hi h1 (by omega) fun j y h2 h3=>hw j y h2 (by omega)]
   have hy:=ai (show hi<aos.length by omega)
   obtain⟨v,hv⟩:=JM (R.step hi _ hy);rw [hv,zF,if_neg (hw hi _ h1 (by omega) hy)]
theorem Reg.dL(R:Reg Q σ call n ops aos chk st){lo:Nat}:∀(hi:Nat),lo≤hi→hi≤aos.length→(∀ j,lo≤j→j<hi→¬ isW aos j)→dP (st lo).heap (st hi).heap∧(st hi).defs=(st lo).defs
 | 0,h,_,_=>by rw [Nat.le_zero.1 h];exact⟨dP.refl _,rfl⟩
 | hi+1,h,hn,hw=>by
  rcases bR hi lo with h1 | h1
  ·rw [show lo=hi+1 by omega];exact⟨dP.refl _,rfl⟩
  ·obtain⟨g1,g2⟩:=Reg.dL R hi h1 (by omega) fun j h2 h3=>hw j h2 (by omega)
   have hy:=ai (show hi<aos.length by omega)
   obtain⟨k1,k2⟩:=tH (fun hc=>hw hi h1 (by omega) ⟨_,hy,hc⟩) (R.step hi _ hy)
   exact⟨g1.trans k1,k2.trans g2⟩
theorem Reg.at(R:Reg Q σ call n ops aos chk st){i:Nat}{y:AOper}(hy:aos[i]?=some y):∃ o,ops[i]?=some o∧oG Q σ n ops o y=true:=by
 have:=gQ R.aH5;have hi:i<ops.toList.length:=by rw [this.len];exact(ab.1 hy).1
 have hx:=ai hi;refine⟨ops.toList[i],by rw [←Array.getElem?_toList];exact hx,this.2 i _ _ hx hy⟩
theorem Reg.before(R:Reg Q σ call n ops aos chk st){i j:Nat}{x y:AOper}(hij:i<j)(hx:aos[i]?=some x)(hy:aos[j]?=some y)(h:x.apart y=false∨(Ap x y=false∧(j=eJ ops aos→cls x.op≠.w))):anc (masks ops.toList []) i j=true:=by
 rcases R.ord.two i j x y hij hx hy with h1 | ⟨h1,h2⟩
 ·exact h1
 ·rcases h with h | ⟨h,h'⟩
  ·rw [h1]at h;simp at h
  ·rcases h2 with h2 | ⟨h2,h3⟩
   ·rw [h2]at h;simp at h
   ·exact absurd h3 (h' h2)
theorem Ext.assign{X0 X1:Wd}(h:Ext X0.H.length X0 X1){n c:Nat}(hW:wu X1.H.length X1 { X1 with rho:=fun b=>if b=n then some ⟨c,0⟩else X1.rho b })(hc:X0.w.heap.size≤c):Ext X0.H.length X0 { X1 with rho:=fun b=>if b=n then some ⟨c,0⟩else X1.rho b } where
 B:=h.B
 F:=h.F
 vW:=h.vW
 fw:=h.fw
 keep:=fun b hb=>(h.keep b hb).trans (hW.keep b (cj hb h.len))
 img:=fun b L hb=>by
  simp only at hb;by_cases e:b=n
  ·rw [if_pos e]at hb;cases hb;exact .inr hc
  ·rw [if_neg e]at hb;exact h.img b L hb
 size:=h.size
 os:=h.os
 tape:=h.tape
 output:=h.output
 frame:=h.frame
theorem Reg.WM(R:Reg Q σ call n ops aos chk st){y:AOper}(hy:aos[eJ ops aos]?=some y):cls y.op=.a:=by
 obtain⟨⟨zs,h⟩,_⟩:=R.ord.ear y hy;rw [h];rfl
theorem Xj{x y:AOper}{p:P}(h:x.dst=some p)(h':p ∈ y.rd):x.apart y=false:=by
 simp [AOper.apart,h,h']
theorem HY{x y:AOper}{p:P}(h:x.dst=some p)(h':y.dst=some p):x.apart y=false:=by
 simp [AOper.apart,h,h']
theorem Xk{x y:AOper}{p:P}(h:p ∈ x.rd)(h':y.dst=some p):x.apart y=false:=by
 simp [AOper.apart,h,h']
structure Ready(ops:Array Oper)(aos:List AOper)(D:Nat→Prop)(i:Nat)(o:Oper)(y:AOper):Prop where
 ho:ops[i]?=some o
 hy:aos[i]?=some y
 hD:¬ D i
 pre:∀ e ∈ o.after.toList,Region.binds .any e=true→D e.on
variable{X0:Wd}{D:Nat→Prop}{E i:Nat}{a:Act}{o:Oper}{y:AOper}
theorem Ready.uf(hI:Inv Q σ X0 n ops aos st D E X a)(hr:Ready ops aos D i o y){j:Nat}(h:anc (masks ops.toList []) j i=true):D j:=
 hI.closed.ready (by simpa using hr.ho) hr.pre h
theorem Ready.uQ(hI:Inv Q σ X0 n ops aos st D E X a)(hr:Ready ops aos D i o y){j:Nat}(h:anc (masks ops.toList []) i j=true):¬ D j:=
 fun hj=>hr.hD (hI.closed.below j hj h)
theorem Reg.reads(R:Reg Q σ call n ops aos chk st)(hI:Inv Q σ X0 n ops aos st D E X a)(hr:Ready ops aos D i o y){p:P}(hp:p ∈ y.rd):VR σ X ((st i).regs.get p) (a.tmps.getD p.toNat undef):=by
 obtain⟨K,hK,hv,hw⟩:=hI.slots p;have hi:i<aos.length:=(ab.1 hr.hy).1
 have hv:VR σ X ((st K).regs.get p) (a.tmps.getD p.toNat undef):=by
  rcases hv with hv | ⟨z,zs,c,_,hE,hz,hd,_⟩
  ·exact hv
  ·exfalso;obtain⟨_,_,p',hp',aMC⟩:=R.ord.ear z hz;rw [hd]at hp';cases hp';have hlt:=(ab.1 hz).1;rcases hI.eW with h4 | hWE
   ·omega
   ·have hne:E≠eJ ops aos:=by
     intro e;obtain⟨q,hq,hqc⟩:=hWE;rw [e]at hq;rw [R.WM hq]at hqc;cases hqc
    exact hI.eD (hr.uf hI (aMC i y hr.hy hp E hWE (show E<eJ ops aos by omega)))
 rcases Nat.le_total K i with h | h
 ·rw [←R.oV i h (by omega) fun j z h1 h2 hz hd=>?_]
  ·exact hv
  ·have:=hr.uf hI (R.before h2 hz hr.hy (.inl (Xj hd hp)));have:=(hw j z hz hd).2 this;omega
 ·rw [R.oV K h hK fun j z h1 h2 hz hd=>?_]
  ·exact hv
  ·have hDj:=(hw j z hz hd).1 h2;rcases bR i j with h3 | h3
   ·exact hr.uQ hI (R.before h3 hr.hy hz (.inl (Xk hp hd))) hDj
   ·have:j=i:=by omega
    subst this;exact hr.hD hDj
theorem Reg.fin(R:Reg Q σ call n ops aos chk st)(hI:Inv Q σ X0 n ops aos st D E X a)(hr:Ready ops aos D i o y){X1:Wd}{a1:Act}{u:Value}{v:V}{E':Nat}(hS:SR Q σ X1)(hB:X1.B≤X1.w.heap.size)(hx0:Ext X0.H.length X0 X1)
  (hm:∀ v u,VR σ X v u→VR σ X1 v u) (hpd:∀ y zs c p,E≤eJ ops aos→aos[eJ ops aos]?=some y→y.op=.alloc zs→y.dst=some p→D (eJ ops aos)→a.tmps.getD p.toNat undef=.pointer (some ⟨c,0,none⟩)→X0.w.heap.size≤c→oO σ X c zs→if E'≤eJ ops aos then oO σ X1 c zs else VR σ X1 ((st (eJ ops aos+1)).regs.get p) (.pointer (some ⟨c,0,none⟩)))
  (hv:VR σ X1 v u∨(i=eJ ops aos∧E'≤eJ ops aos∧∃ zs c,y.op=.alloc zs∧u=.pointer (some ⟨c,0,none⟩)∧X0.w.heap.size≤c∧oO σ X1 c zs))
  (ht:a1.tmps=(a.put o.dst u).tmps) (sJ:(st (i+1)).regs=lY (st i).regs y.dst v) (h1:E'≤aos.length) (h2:E'=aos.length∨isW aos E') (h3:¬ (D E'∨E'=i)) (h4:∀ j,isW aos j→j<E'→D j∨j=i)
  (hH:X1.H=(st E').heap) (hd:iZ σ X1 (st E').defs a1.defers)
  (hh:∀ j y,j<E'→¬ (D j∨j=i)→aos[j]?=some y→cls y.op=.a→(st (j+1)).heap.length≠(st j).heap.length→X1.rho (st j).heap.length=none) :
  Inv Q σ X0 n ops aos st (fun j=>D j∨j=i) E' X1 a1:=by
 have hi:i<aos.length:=(ab.1 hr.hy).1;obtain⟨o',ho',hmo⟩:=R.at hr.hy;rw [hr.ho]at ho';cases ho';have hsz:(a.put o.dst u).tmps.size=a.tmps.size:=by cases o.dst<;>simp [Act.put]
 refine⟨fun j oj hj hoj e he hb=>?_,fun j hj=>hj.elim (hI.dlt j) fun h=>h▸hi,h1,h2,h3,h4,hH,hx0,hS,hB,hd,by rw [ht,hsz];exact hI.size,fun p=>?_,hh⟩
 ·rcases hj with hj | rfl
  ·exact .inl (hI.closed j oj hj hoj e he hb)
  ·have:oj=o:=by have:=hr.ho;simp at hoj;rw [this]at hoj;cases hoj;rfl
   subst this;exact .inl (hr.pre e he hb)
 ·by_cases hdst:y.dst=some p
  ·have aD6:a1.tmps.getD p.toNat undef=u:=by
    rw [ht];simp only [oG,ag]at hmo;have hmd:=hmo.1.2;rw [hdst]at hmd;split at hmd
    ·rename_i d p' e1 e2;simp only [ag,beq_iff_eq,decide_eq_true_eq]at hmd;cases e2;have hlt:d<a.tmps.size:=cj hmd.2 hI.size;rw [e1,hmd.1];simp only [Act.put];simp [hlt]
    ·rename_i e2;simp at e2
    ·simp at hmd
   refine⟨i+1,hi,?_,fun j z hz hzd=>⟨fun h=>?_,fun h=>?_⟩⟩
   ·rcases hv with hv | ⟨hiJ,hE,zs,c,g1,g2,g3,g4⟩
    ·left;rw [sJ,zF,if_pos hdst,aD6];exact hv
    ·right;exact⟨y,zs,c,by rw [hiJ],hE,by rw [←hiJ];exact hr.hy,hdst,g1,by rw [aD6];exact g2,g3,g4⟩
   ·rcases bR j i with h' | h'
    ·exact .inl (hr.uf hI (R.before h' hz hr.hy (.inl (HY hzd hdst))))
    ·exact .inr (by omega)
   ·rcases h with h | rfl
    ·rcases bR i j with h' | h'
     ·exact absurd h (hr.uQ hI (R.before h' hr.hy hz (.inl (HY hdst hzd))))
     ·omega
    ·omega
  ·obtain⟨K,hK,hv',hw⟩:=hI.slots p
   have e:a1.tmps.getD p.toNat undef=a.tmps.getD p.toNat undef:=by
    rw [ht];simp only [oG,ag]at hmo;have hmd:=hmo.1.2;split at hmd
    ·rename_i d p' e1 e2;simp only [ag,beq_iff_eq,decide_eq_true_eq]at hmd;have hne:d≠p.toNat:=fun e=>hdst (by rw [e2,P.toNat_inj (hmd.1.trans e)])
     rw [e1];simp [Act.put,Array.getD_eq_getD_getElem?,Array.getElem?_setIfInBounds_ne hne]
    ·rename_i e1 e2;rw [e1];rfl
    ·simp at hmd
   refine⟨K,hK,?_,fun j z hz hzd=>?_⟩
   ·rcases hv' with hv' | ⟨z,zs,c,g1,g2,g3,g4,g5,g6,g7,g8⟩
    ·left;rw [e];exact hm _ _ hv'
    ·have hDJ:D (eJ ops aos):=(hw _ z g3 g4).1 (by omega)
     have:=hpd z zs c p g2 g3 g5 g4 hDJ g6 g7 g8;split at this
     ·rename_i hE
      right;exact⟨z,zs,c,g1,hE,g3,g4,g5,by rw [e];exact g6,g7,this⟩
     ·left;rw [e,g6,g1];exact this
   ·rw [hw j z hz hzd];exact⟨.inl,fun h=>h.elim id fun h=>absurd (by rw [h]at hz;rw [hr.hy]at hz;cases hz;exact hzd) hdst⟩
end
end
section
variable{Q:Program}{σ:Nat→FuncId}{X:Wd}{call:dD}
variable{n:Nat}{ops:Array Oper}{aos:List AOper}{chk:List (Nat × Nat)}{st:Nat→St}
variable{X0:Wd}{D:Nat→Prop}{E i:Nat}{a:Act}{o:Oper}{y:AOper}
theorem vP{x y:AOper}(h:cls x.op=.w)(h':cls y.op≠.p)(h'':cls y.op≠.r):Ap x y=false:=by
 unfold Ap;rw [h];cases hy:cls y.op<;>simp_all
theorem Am{x y:AOper}(h:cls y.op=.w)(h':cls x.op≠.p)(h'':cls x.op≠.r):Ap x y=false:=by
 unfold Ap;rw [h];cases hx:cls x.op<;>simp_all
theorem Reg.zQ(R:Reg Q σ call n ops aos chk st){j:Nat}{z:AOper}(hz:aos[j]?=some z)(hc:cls z.op≠.a):j≠eJ ops aos:=by
 rintro rfl;exact hc (R.WM hz)
theorem Reg.w_at(R:Reg Q σ call n ops aos chk st)(hI:Inv Q σ X0 n ops aos st D E X a)(hr:Ready ops aos D i o y)(hc:cls y.op=.w):i=E:=by
 have hi:i<aos.length:=(ab.1 hr.hy).1;rcases cD i E with h | h | h
 ·exact absurd (hI.wD i ⟨y,hr.hy,hc⟩ h) hr.hD
 ·exact h
 ·rcases hI.eW with h1 | ⟨z,hz,hzc⟩
  ·omega
  ·exact absurd (hr.uf hI (R.before h hz hr.hy (.inr ⟨vP hzc (by simp [hc]) (by simp [hc]),fun e=>absurd e (R.zQ hr.hy (by simp [hc]))⟩))) hI.eD
theorem Reg.Xn(R:Reg Q σ call n ops aos chk st)(hI:Inv Q σ X0 n ops aos st D E X a)(hr:Ready ops aos D i o y)(h1:cls y.op≠.p)(h2:cls y.op≠.r)(h3:cls y.op≠.w)(hJ:i=eJ ops aos→i<E):i<E∧∀ j,i≤j→j<E→¬ isW aos j:=by
 have hi:i<aos.length:=(ab.1 hr.hy).1;refine⟨?_,fun j hj hjE hw=>?_⟩
 ·rcases cD i E with h | h | h
  ·exact h
  ·rcases hI.eW with h4 | ⟨z,hz,hzc⟩
   ·omega
   ·rw [←h,hr.hy]at hz;cases hz;exact absurd hzc h3
  ·rcases hI.eW with h4 | ⟨z,hz,hzc⟩
   ·omega
   ·exact absurd (hr.uf hI (R.before h hz hr.hy (.inr ⟨vP hzc h1 h2,fun e=>by have:=hJ e;omega⟩))) hI.eD
 ·have hDj:=hI.wD j hw hjE;obtain⟨z,hz,hzc⟩:=hw;rcases bR i j with h | h
  ·exact hr.uQ hI (R.before h hr.hy hz (.inr ⟨Am hzc h1 h2,fun _=>h3⟩)) hDj
  ·have:j=i:=by omega
   subst this;exact hr.hD hDj
theorem Reg.r_at(R:Reg Q σ call n ops aos chk st)(hI:Inv Q σ X0 n ops aos st D E X a)(hr:Ready ops aos D i o y)(hc:cls y.op=.r)(hw:wanted (st i).regs y.g=some true){v:V}{H1:Heap}(h:xOp (st i).regs (st i).heap y.op=some (v,H1)) :
  H1=(st i).heap∧xOp (st i).regs X.H y.op=some (v,X.H):=by
 have hi:i<aos.length:=(ab.1 hr.hy).1;refine⟨(NP hc (dP.refl _) h).1,?_⟩
 have hmay:Oq (masks ops.toList []) aos i E=true:=by
  unfold Oq;rw [aR];intro j hj;have hjw:=qN.1 hj;split
  ·rename_i hlt;have hDj:=hI.wD j hjw hlt
   cases ha:anc (masks ops.toList []) i j with
   | false=>rfl
   | true=>exact absurd hDj (hr.uQ hI ha)
  ·rename_i hlt
   cases ha:anc (masks ops.toList []) j i with
   | false=>rfl
   | true=>
    exfalso;have hDj:=hr.uf hI ha;rcases bR E j with h1 | h1
    ·rcases hI.eW with h4 | ⟨z,hz,hzc⟩
     ·have:=hI.dlt j hDj;omega
     ·obtain⟨z',hz',aIE⟩:=hjw;exact hI.eD (hI.closed.below j hDj (R.before h1 hz hz' (.inr ⟨vP hzc (by simp [aIE]) (by simp [aIE]),fun e=>absurd e (R.zQ hz' (by simp [aIE]))⟩)))
    ·have:j=E:=by omega
     subst this;exact hI.eD hDj
 rw [hI.heap];rcases R.ord.rd i y E hr.hy hc (hI.eW.symm) hmay with he | he
 ·obtain⟨p1,_,_,p4⟩:=tY (aos:=aos) (i:=i) (by omega)
  rw [←he]at p1 p4;exact(NP hc (R.dL E p1 hI.eN p4).1 h).2
 ·obtain⟨v',H1',H2',g1,g2⟩:=R.aRg i E y he hr.hy hw;rw [h]at g1;cases g1;have:=(NP hc (dP.refl _) g2).1;rw [this]at g2;exact g2
theorem Reg.axb(R:Reg Q σ call n ops aos chk st){z:AOper}(hz:aos[eJ ops aos]?=some z){zs:List FC}(hop:z.op=.alloc zs){p:P}(hd:z.dst=some p) :
  (st (eJ ops aos+1)).heap=(st (eJ ops aos)).heap++[.box (zs.map .f) 0]∧(st (eJ ops aos+1)).regs.get p=.c (.ptr (st (eJ ops aos)).heap.length 0 0):=by
 obtain⟨_,hg,_⟩:=R.ord.ear z hz;have h:=R.step _ z hz;simp only [je,hg,wanted,hop,gU,xOp,bz,aa]at h;rw [←h];exact⟨rfl,by rw [zF,if_pos hd]⟩
theorem Reg.O5(R:Reg Q σ call n ops aos chk st)(hI:Inv Q σ X0 n ops aos st D E X a)(hr:Ready ops aos D i o y)(hc:cls y.op=.w){X1:Wd}{a1:Act}{u:Value}{v:V}(hS:SR Q σ X1)(hB:X1.B≤X1.w.heap.size)(hx:Ext X.H.length X X1)
  (hv:VR σ X1 v u) (ht:a1.tmps=(a.put o.dst u).tmps) (sJ:(st (i+1)).regs=lY (st i).regs y.dst v) (hH:X1.H=(st (i+1)).heap) (hd:iZ σ X1 (st (i+1)).defs a1.defers) :
  ∃ E' X2,X2.w=X1.w∧Inv Q σ X0 n ops aos st (fun j=>D j∨j=i) E' X2 a1:=by
 have hi:i<aos.length:=(ab.1 hr.hy).1;have hiE:=R.w_at hI hr hc;subst hiE;obtain⟨p1,p2,p3,p4⟩:=tY (aos:=aos) (i:=i+1) (by omega)
 obtain⟨q1,q2⟩:=R.dL _ p1 p2 p4;rw [←hH]at q1;obtain⟨k1,k2⟩:=SR.ahead hS q1;have hx2:Ext X.H.length X { X1 with H:=(st (phase aos (i+1))).heap }:=hx.trans (k2.mono hx.len);have hx0:Ext X0.H.length X0 { X1 with H:=(st (phase aos (i+1))).heap }:=hI.ext.trans (hx2.mono hI.ext.len)
 have hE1:¬ (D (phase aos (i+1))∨phase aos (i+1)=i):=by
  rintro(h | h)
  ·rcases p3 with h1 | ⟨z,hz,hzc⟩
   ·have:=hI.dlt _ h;omega
   ·exact hr.uQ hI (R.before p1 hr.hy hz (.inr ⟨vP hc (by simp [hzc]) (by simp [hzc]),fun e=>absurd e (R.zQ hz (by simp [hzc]))⟩)) h
  ·omega
 have hW1:∀ j,isW aos j→j<phase aos (i+1)→D j∨j=i:=by
  intro j hjw hj;rcases cD j i with h | h | h
  ·exact .inl (hI.wD j hjw h)
  ·exact .inr h
  ·exact absurd hjw (p4 j h hj)
 have hd2:iZ σ { X1 with H:=(st (phase aos (i+1))).heap } (st (phase aos (i+1))).defs a1.defers:=by rw [q2];exact hd.ext' k2
 have iJ:i≠eJ ops aos:=R.zQ hr.hy (by simp [hc])
 have holes:∀ j z,j<phase aos (i+1)→¬ (D j∨j=i)→aos[j]?=some z→cls z.op=.a→(st (j+1)).heap.length≠(st j).heap.length→i<j∧X1.rho (st j).heap.length=none:=by
  intro j z hj hD hz hzc LV;rcases cD j i with h | h | h
  ·exact absurd (.inl (hr.uf hI (R.before h hz hr.hy (.inr ⟨Am hc (by simp [hzc]) (by simp [hzc]),fun e=>absurd e iJ⟩)))) hD
  ·exact absurd (.inr h) hD
  ·have hle:=(R.dL j h (by omega) fun k h1 h2=>p4 k h1 (by omega)).1.len
   rw [←hH]at hle;refine⟨h,?_⟩
   cases pG:X1.rho (st j).heap.length with
   | none=>rfl
   | some L=>have:=SR.lt hS pG;omega
 by_cases hP:∃ z zs c p,i≤eJ ops aos∧eJ ops aos<phase aos (i+1)∧aos[eJ ops aos]?=some z∧z.op=.alloc zs∧z.dst=some p∧D (eJ ops aos)∧a.tmps.getD p.toNat undef=.pointer (some ⟨c,0,none⟩)∧X0.w.heap.size≤c∧oO σ X c zs
 ·obtain⟨z,zs,c,p,g1,g2,g3,g4,g5,g6,g7,g8,g9⟩:=hP;obtain⟨s1,s2⟩:=R.axb g3 g4 g5;have aQ9:i<eJ ops aos:=by omega
  have hlen1:(st (i+1)).heap.length≤(st (eJ ops aos)).heap.length:=(R.dL _ aQ9 (by omega) fun k h1 h2=>p4 k h1 (by omega)).1.len
  obtain⟨fl,hbox⟩:∃ fl,(st (phase aos (i+1))).heap[(st (eJ ops aos)).heap.length]?=some (.box (zs.map .f) fl):=by
   have hr2:=(R.dL (phase aos (i+1)) (show eJ ops aos+1≤_ by omega) p2 fun k h1 h2=>p4 k (by omega) h2).1
   rw [s1]at hr2;exact vC hr2
  have hpb:oO σ { X1 with H:=(st (phase aos (i+1))).heap } c zs:=g9.ext hx2
  have hrn:X1.rho (st (eJ ops aos)).heap.length=none:=by
   cases pG:X1.rho (st (eJ ops aos)).heap.length with
   | none=>rfl
   | some L=>have:=SR.lt hS pG;rw [hH]at this;omega
  obtain⟨a1',a2',a3'⟩:=SR.assign k1 hpb hbox hrn;refine⟨phase aos (i+1),{ X1 with H:=(st (phase aos (i+1))).heap,rho:=fun b=>if b=(st (eJ ops aos)).heap.length then some ⟨c,0⟩else X1.rho b },rfl,R.fin hI hr a1' hB (hx0.assign a2' g8) (fun v u h=>VR.fJ σ a2' (VR.ext' σ hx2 h)) ?_ (.inl (VR.fJ σ a2' (VR.ext' σ k2 hv))) ht sJ p2 p3 hE1 hW1 rfl (iZ.fJ a2' hd2) ?_⟩
  ·intro z' zs' c' p' _ e2 _ e4 _ e6 _ _;rw [g3]at e2;cases e2;rw [g5]at e4;cases e4;rw [g7]at e6;simp only [Value.pointer.injEq,aa,Addr.mk.injEq,true_and,and_true]at e6;subst e6;rw [if_neg (by omega),s2]
   exact a3'
  ·intro j w hj hD hw hwc LV;obtain⟨f1,f2⟩:=holes j w hj hD hw hwc LV
   show(if(st j).heap.length=(st (eJ ops aos)).heap.length then some (⟨c,0⟩:Loc)else X1.rho (st j).heap.length)=none
   rw [if_neg,f2];intro e;rcases cD j (eJ ops aos)with h | h | h
   ·have h1:=(R.dL (lo:=j+1) (eJ ops aos) h (by omega) fun k h1 h2=>p4 k (by omega) (by omega)).1.len
    have h2:=(tH (by simp [hwc]) (R.step j w hw)).1.len
    clear hx0 hx2 k1 k2;omega
   ·exact hD (.inl (by rw [h];exact g6))
   ·have h1:=(R.dL (lo:=eJ ops aos+1) j h (by omega) fun k h1 h2=>p4 k (by omega) (by omega)).1.len
    rw [s1,aL]at h1;simp only [List.length_cons,List.length_nil]at h1;omega
 ·refine⟨phase aos (i+1),{ X1 with H:=(st (phase aos (i+1))).heap },rfl,R.fin hI hr k1 hB hx0 (fun v u h=>VR.ext' σ hx2 h) ?_ (.inl (VR.ext' σ k2 hv)) ht sJ p2 p3 hE1 hW1 rfl hd2 (fun j z h1 h2 h3 h4 h5=>(holes j z h1 h2 h3 h4 h5).2)⟩
  intro z zs c p g1 g2 g3 g4 g5 g6 g7 g8;by_cases hle:phase aos (i+1)≤eJ ops aos
  ·rw [if_pos hle];exact g8.ext hx2
  ·exact absurd ⟨z,zs,c,p,g1,by omega,g2,g3,g4,g5,g6,g7,g8⟩ hP
theorem Reg.sD(R:Reg Q σ call n ops aos chk st)(hI:Inv Q σ X0 n ops aos st D E X a)(hr:Ready ops aos D i o y)(hc:cls y.op≠.w){X1:Wd}{a1:Act}{u:Value}{v:V}(hS:SR Q σ X1)(hB:X1.B≤X1.w.heap.size)(hx:Ext X.H.length X X1)
  (hv:VR σ X1 v u∨(i=eJ ops aos∧E≤eJ ops aos∧∃ zs c,y.op=.alloc zs∧u=.pointer (some ⟨c,0,none⟩)∧X0.w.heap.size≤c∧oO σ X1 c zs)) (ht:a1.tmps=(a.put o.dst u).tmps) (sJ:(st (i+1)).regs=lY (st i).regs y.dst v) (hH:X1.H=X.H) (hd:iZ σ X1 (st E).defs a1.defers)
  (hh:∀ j z,j<E→¬ (D j∨j=i)→aos[j]?=some z→cls z.op=.a→(st (j+1)).heap.length≠(st j).heap.length→X1.rho (st j).heap.length=none) :
  Inv Q σ X0 n ops aos st (fun j=>D j∨j=i) E X1 a1:=by
 refine R.fin hI hr hS hB (hI.ext.trans (hx.mono hI.ext.len)) (fun v u h=>VR.ext' σ hx h) (fun z zs c p g1 _ _ _ _ _ _ g8=>by rw [if_pos g1];exact g8.ext hx) hv ht sJ hI.eN hI.eW ?_ (fun j h1 h2=>.inl (hI.wD j h1 h2)) (hH.trans hI.heap) hd hh
 rintro(h | h)
 ·exact hI.eD h
 ·have hi:i<aos.length:=(ab.1 hr.hy).1;rcases hI.eW with h1 | ⟨z,hz,hzc⟩
  ·omega
  ·rw [h,hr.hy]at hz;cases hz;exact hc hzc
theorem Reg.jG(hI:Inv Q σ X0 n ops aos st D E X a){X1:Wd}(h:X1.rho=X.rho):∀ j z,j<E→¬ (D j∨j=i)→aos[j]?=some z→cls z.op=.a→(st (j+1)).heap.length≠(st j).heap.length→X1.rho (st j).heap.length=none:=
 fun j z h1 h2 h3 h4 h5=>by rw [h];exact hI.holes j z h1 (fun h=>h2 (.inl h)) h3 h4 h5
theorem Reg.KU(R:Reg Q σ call n ops aos chk st)(hI:Inv Q σ X0 n ops aos st D E X a)(hr:Ready ops aos D i o y)(hc:cls y.op=.a)(hJ:i=eJ ops aos→i<E)(LV:(st (i+1)).heap.length≠(st i).heap.length){j:Nat}{z:AOper}(hj:j<E)(hD:¬ (D j∨j=i))(hz:aos[j]?=some z)(hzc:cls z.op=.a)
  (aMK:(st (j+1)).heap.length≠(st j).heap.length):(st j).heap.length≠(st i).heap.length:=by
 have hi:i<aos.length:=(ab.1 hr.hy).1;obtain⟨g1,g2⟩:=R.Xn hI hr (by simp [hc]) (by simp [hc]) (by simp [hc]) hJ
 have nW:∀ k,j≤k→k<E→¬ isW aos k:=by
  intro k h1 h2 hw;have hDk:=hI.wD k hw h2;obtain⟨w,hw1,hw2⟩:=hw;rcases bR j k with h | h
  ·exact hD (.inl (hI.closed.below k hDk (R.before h hz hw1 (.inr ⟨Am hw2 (by simp [hzc]) (by simp [hzc]),fun _=>by simp [hzc]⟩))))
  ·have:k=j:=by omega
   subst this;exact hD (.inl hDk)
 have UL:∀ k w,aos[k]?=some w→cls w.op=.a→(st (k+1)).heap.length≠(st k).heap.length→(st k).heap.length<(st (k+1)).heap.length:=by
  intro k w hw hwc hne;have:=(tH (by simp [hwc]) (R.step k w hw)).1.len
  omega
 rcases cD j i with h | h | h
 ·have h1:=UL j z hz hzc aMK;have h2:(st (j+1)).heap.length≤(st i).heap.length:=(R.dL i h (by omega) fun k h3 h4=>nW k (by omega) (by omega)).1.len
  omega
 ·exact absurd (.inr h) hD
 ·have h1:=UL i y hr.hy hc LV;have h2:(st (i+1)).heap.length≤(st j).heap.length:=(R.dL j h (by have:=hI.eN;omega) fun k h3 h4=>g2 k (by omega) (by omega)).1.len
  omega
end
section
variable{Q:Program}{σ:Nat→FuncId}{X:Wd}{call:dD}
variable{n:Nat}{ops:Array Oper}{aos:List AOper}{chk:List (Nat × Nat)}{st:Nat→St}
variable{X0:Wd}{D:Nat→Prop}{E i:Nat}{a:Act}{o:Oper}{y:AOper}
theorem Kt{w':World}{ob:Obj}(hS:SR Q σ X)(hw:Adds X.w w' ob):SR Q σ { X with w:=w' }∧Ext X.H.length X { X with w:=w' }:=by
 have hx:Ext X.H.length X { X with w:=w' }:=Ext.one hS X.H.length rfl (fun _ _=>Iff.rfl) (fun k hk _=>hw.old hk)
  (fun L i h=>by rw [SR.wL hS]at h;simp at h) (fun h=>absurd h (db _)) (fun _ _ _=>rfl) (fun _ _=>rfl) (fun L h=>.inl ⟨L,h,rfl⟩) (by show _≤w'.heap.size;rw [hw.size];omega) hw.os hw.tape hw.output
 refine⟨SR.step Q σ hS hx X.H.length (fun _ _=>rfl) (fun _ _=>rfl) (fun b L _ hb=>hw.old (hS.br b L hb).2.1)
  (fun _ _ _ _ _ h=>h) (fun L h=>by change X.rho X.H.length=some L at h;rw [SR.wL hS]at h;simp at h) (fun c i h=>?_),hx⟩
 have:=hS.fb c i h;show c<w'.heap.size;rw [hw.size];omega
theorem VE{y:AOper}{p:P}(h:p ∈ y.op.rd):p ∈ y.rd:=by unfold AOper.rd;exact bX.2 (.inr h)
theorem OG{y:AOper}{p:P}{w:Bool}(h:y.g=some (p,w)):p ∈ y.rd:=by unfold AOper.rd;rw [h];simp
theorem Reg.step_ok(hC:iG Q σ call)(R:Reg Q σ call n ops aos chk st)(hI:Inv Q σ X0 n ops aos st D E X a)(hr:Ready ops aos D i o y){b:Frame}{rest:List Nat}{k:List Item}{cs:List Frame}(hk:kQ b cs)(hnr:jq y.op b) :
  ∃ E' X' a',Steps Q (lone (b.atR a (.inRegion ops (i::rest)::k)) cs X.w) (lone (b.atR a' (.inRegion ops rest::k)) cs X'.w)∧Inv Q σ X0 n ops aos st (fun j=>D j∨j=i) E' X' a'∧a'.tmps.size=a.tmps.size:=by
 have hi:i<aos.length:=(ab.1 hr.hy).1;obtain⟨o',ho',hm⟩:=R.at hr.hy;rw [hr.ho]at ho';cases ho';have hstep:=R.step i y hr.hy;have hread:∀ p ∈ y.rd,VR σ X ((st i).regs.get p) (a.tmps.getD p.toNat undef):=fun p hp=>R.reads hI hr hp
 have vF:mOp Q σ o y.op=true:=by simp only [oG,ag]at hm;exact hm.1.1
 have psz:∀ u,(a.put o.dst u).tmps.size=a.tmps.size:=fun u=>by cases o.dst<;>simp [Act.put]
 have pdf:∀(a:Act) u,(a.put o.dst u).defers=a.defers:=fun a u=>by cases o.dst<;>rfl
 have ptm:∀(a a':Act) u,a'.tmps=a.tmps→(a'.put o.dst u).tmps=(a.put o.dst u).tmps:=fun a a' u h=>by cases o.dst<;>simp [Act.put,h]
 unfold je at hstep;split at hstep
 ·rename_i hwt;have hw:=rJ hm (regs:=(st i).regs) (tmps:=a.tmps) (X:=X) (fun p w' hg=>hread p (OG hg)) hI.size hwt
  split at hstep
  ·rename_i v s1 h1;simp only [aa]at hstep;have sJ:(st (i+1)).regs=lY (st i).regs y.dst v:=by rw [←hstep,←Cj h1]
   have hheap:(st (i+1)).heap=s1.heap:=by rw [←hstep]
   have vG:(st (i+1)).defs=s1.defs:=by rw [←hstep]
   have LW:∀ p ∈ y.op.rd,(st i).regs.get p=(jH (st i).regs y.op.rd).get p:=fun p hp=>by rw [zC,if_pos hp]
   have hRR:RR σ X (jH (st i).regs y.op.rd) a.tmps:=fun p=>by
    rw [zC];split
    ·rename_i hp;exact hread p (VE hp)
    ·trivial
   have h1':=NQ LW h1;by_cases hcw:cls y.op=.w
   ·have hiE:=R.w_at hI hr hcw;obtain⟨g1,g2⟩:=NR hC hI.sr hI.b (s:={ st i with regs:=jH (st i).regs y.op.rd }) (by rw [hI.heap,←hiE]) hRR (by rw [hiE];exact hI.defs) vF h1'
    obtain⟨X1,u,a1,k1,⟨k2,k3,k4,k5,k6⟩,k7,k8⟩:=g1 b ops i rest k cs hr.ho hw hk hnr;obtain⟨E',X2,q1,q2⟩:=R.O5 hI hr hcw (a1:=a1.put o.dst u) k3 k6 k5 k4 (ptm a a1 u k7) sJ (by rw [k2,hheap]) (by rw [vG,pdf];exact k8)
    exact⟨E',X2,a1.put o.dst u,by rw [q1];exact k1,q2,by rw [ptm a a1 u k7,psz]⟩
   ·
    have hnd:∀ c,o.op≠.defer c:=uV vF (fun x xs e=>hcw (by rw [e];rfl)) (fun e=>by rw [e]at h1;simp [gU,xOp]at h1)
    have one:∀ {u:Value} {w':World},(execOp a.eval o).run Q X.w=.ok (.value u) w'→Steps Q (lone (b.atR a (.inRegion ops (i::rest)::k)) cs X.w) (lone (b.atR (a.put o.dst u) (.inRegion ops rest::k)) cs w'):=by
     intro u w' hrun;refine .one (step_lone_go ?_);rw [stepGR_op hr.ho hw,Oper.semAt_eq _ _ _ hnd];have hfin:=Frame.finish_atR b a ops i rest k u;rw [hr.ho]at hfin;simp only [bh]at hfin;rw [←hfin];simp [stepG.apply,Sem.runT_eq,hrun]
    by_cases hcc:cls y.op=.c
    ·
     obtain⟨f,xs,hop⟩:∃ f xs,y.op=.call f xs false:=by
      generalize y.op=op at hcc;cases op<;>first | (simp only [cls,reduceCtorEq]at hcc;done) | skip
      rename_i f xs hh;cases hh
      ·exact⟨f,xs,rfl⟩
      ·simp [cls]at hcc
     have WB:=hRR;rw [hop]at h1' vF WB;simp only [gU,jo,aw,if_false,am,an]at h1';obtain⟨⟨v',H'⟩,hp,rfl,hs1⟩:=h1'
     have hH':H'=(st (i+1)).heap:=by
      rw [hheap];simp only [St.mk.injEq]at hs1;exact hs1.2.2
     obtain⟨g1,g2⟩:=R.Xn hI hr (by simp [hcc]) (by simp [hcc]) (by simp [hcc]) (fun e=>absurd e (R.zQ hr.hy (by simp [hcc])))
     have hHE:dP H' X.H:=by
      rw [hH',hI.heap];exact(R.dL E g1 hI.eN fun j h1 h2=>g2 j (by omega) h2).1
     obtain⟨X1,u,k1,⟨k2,k3,k4,k5,k6⟩,k7⟩:=EZ hC hI.sr hI.b WB vF hp hHE b ops i rest k cs hr.ho hw;exact⟨E,X1,a.put o.dst u,k1,R.sD hI hr hcw k3 k6 k5 (.inl k4) rfl sJ k2 (by rw [pdf];exact hI.defs.ext' k5) (Reg.jG hI k7),psz u⟩
    ·have hx:(xOp (jH (st i).regs y.op.rd) (st i).heap y.op)=some (v,s1.heap):=by
      have hne:¬ ((∃ f xs h,y.op=.call f xs h)∨(∃ x xs h,y.op=.bW x xs h)∨y.op=.recover∨∃ x xs,y.op=.defer x xs):=by
       rintro(⟨f,xs,hh,e⟩ | ⟨x,xs,hh,e⟩ | e | ⟨x,xs,e⟩)<;>rw [e]at hcw hcc
       ·cases hh
        ·exact hcc rfl
        ·exact hcw rfl
       ·exact hcw rfl
       ·exact hcw rfl
       ·exact hcw rfl
      have hx:(xOp (jH (st i).regs y.op.rd) (st i).heap y.op).map (fun r=>(r.1,({ st i with regs:=jH (st i).regs y.op.rd,heap:=r.2 }:St)))=some (v,{ s1 with regs:=jH (st i).regs y.op.rd }):=by
       generalize jH (st i).regs y.op.rd=r at h1';generalize y.op=op at h1' hne;cases op<;>first | exact h1' | (exfalso;apply hne;simp)
      simp only [am,an,St.mk.injEq]at hx;obtain⟨⟨v',H'⟩,h2,rfl,_,_,h3⟩:=hx;rw [h2];simp only at h3;rw [h3]
     by_cases hca:cls y.op=.a
     ·by_cases WA:i=eJ ops aos∧E≤i
      ·
       obtain⟨hiJ,hEi⟩:=WA;obtain⟨⟨zs,hop⟩,_,_⟩:=R.ord.ear y (show aos[eJ ops aos]?=some y from hiJ▸hr.hy)
       have hx':=hx;rw [hop]at hx' vF;simp only [xOp,aa,an]at hx';obtain⟨rfl,_⟩:=hx';simp only [mOp]at vF;split at vF
       ·rename_i t ho;obtain⟨z,us,h1z,h2z,h3z,_⟩:=gV (σ:=σ) (X:=X) vF X.w
        have hrun:(execOp a.eval o).run Q X.w=.ok (.value (.pointer (some ⟨X.w.heap.size,0,none⟩))) (X.w.alloc (.cells us.toArray t)):=by
         simp only [execOp,ho];refine fQ ?_;simp [Instr.alloc,h1z,newVar,newRow,h2z]
        obtain⟨e1,e2⟩:=Kt hI.sr (Adds.alloc X.w (.cells us.toArray t));refine⟨E,{ X with w:=X.w.alloc (.cells us.toArray t) },a.put o.dst (.pointer (some ⟨X.w.heap.size,0,none⟩)),one hrun,R.sD hI hr hcw e1 (by have:=hI.b;simp;omega) e2 (.inr ⟨hiJ,by rw [←hiJ];exact hEi,zs,X.w.heap.size,hop,rfl,hI.ext.size,?_⟩) rfl sJ rfl (by rw [pdf];exact hI.defs.ext' e2) (Reg.jG hI rfl),psz _⟩
        exact⟨⟨us,t,(Adds.alloc X.w (.cells us.toArray t)).new,A2.ext' σ e2 h3z⟩,hI.b,fun b L hb=>by have:=(hI.sr.br b L hb).2.1;omega,fun j hj=>by have:=hI.sr.fb _ j hj;omega⟩
       ·simp at vF
      have hJ:i=eJ ops aos→i<E:=fun e=>by
       rcases bR i E with h | h
       ·exact h
       ·exact absurd ⟨e,h⟩ WA
      obtain⟨g1,g2⟩:=R.Xn hI hr (by simp [hca]) (by simp [hca]) (by simp [hca]) hJ
      have hHE:dP s1.heap X.H:=by
       rw [←hheap,hI.heap];exact(R.dL E g1 hI.eN fun j h1 h2=>g2 j (by omega) h2).1
      obtain⟨X1,u,k1,⟨k2,k3,k4,k5,k6⟩,k7,k8⟩:=awn hI.sr hI.b hRR hca vF hx hHE (fun hne=>hI.holes i y g1 hr.hD hr.hy hca (by rw [hheap];exact hne))
      refine⟨E,X1,a.put o.dst u,one k1,R.sD hI hr hcw k3 k6 k5 (.inl k4) rfl sJ k2 (by rw [pdf];exact hI.defs.ext' k5) ?_,psz u⟩
      by_cases LV:(st (i+1)).heap.length=(st i).heap.length
      ·exact Reg.jG hI (k8 (by rw [←hheap];exact LV))
      ·intro j z h2 h3 h4 h5 h6;rw [k7 _ (R.KU hI hr hca hJ LV h2 h3 h4 h5 h6)];exact hI.holes j z h2 (fun h=>h3 (.inl h)) h4 h5 h6
     ·
      have hpr:cls y.op=.p∨cls y.op=.r:=by cases hcl:cls y.op<;>simp_all
      have hx0:xOp (st i).regs (st i).heap y.op=some (v,s1.heap):=by rw [JO LW];exact hx
      have hxX:xOp (jH (st i).regs y.op.rd) X.H y.op=some (v,X.H):=by
       rcases hpr with hcl | hcl
       ·have:=aDT (r:=jH (st i).regs y.op.rd) hcl (st i).heap X.H;rw [hx]at this;simpa using this
       ·rw [←JO LW];exact(R.r_at hI hr hcl hwt hx0).2
      cases hfs:y.op.fsl
      case true=>
       have Ws:=vF;have awr:=hxX;have WB:=hRR;obtain⟨rg,hrg⟩:∃ rg,rg=jH (st i).regs y.op.rd:=⟨_,rfl⟩;rw [←hrg]at awr WB;revert Ws awr;generalize y.op=op at hfs;cases op<;>simp only [AOp.fsl,reduceCtorEq]at hfs;intro Ws awr;obtain⟨_,u,X1,k1,k2,k3,k4,k5,k6,k7⟩:=Dt hI.sr hI.b WB Ws awr;exact⟨E,X1,a.put o.dst u,one k1,R.sD hI hr hcw k3 k6 k5 (.inl k4) rfl sJ k2 (by rw [pdf];exact hI.defs.ext' k5) (Reg.jG hI k7),psz u⟩
      obtain⟨_,u,k1,k2⟩:=aDY hI.sr hRR vF hpr hfs hxX;exact⟨E,X,a.put o.dst u,one k1,R.sD hI hr hcw hI.sr hI.b (Ext.refl _ _) (.inl k2) rfl sJ rfl (by rw [pdf];exact hI.defs) (Reg.jG hI rfl),psz u⟩
  ·simp at hstep
 ·rename_i hwt;have hw:=rJ hm (regs:=(st i).regs) (tmps:=a.tmps) (X:=X) (fun p w' hg=>hread p (OG hg)) hI.size hwt
  simp only [aa]at hstep;have sJ:(st (i+1)).regs=lY (st i).regs y.dst (.t []):=by rw [←hstep]
  have hheap:(st (i+1)).heap=(st i).heap:=by rw [←hstep]
  have vG:(st (i+1)).defs=(st i).defs:=by rw [←hstep]
  have hst:Steps Q (lone (b.atR a (.inRegion ops (i::rest)::k)) cs X.w) (lone (b.atR (a.put o.dst undef) (.inRegion ops rest::k)) cs X.w):=by
   refine .one ?_;have:=stepR_op_skip (P:=Q) (b:=b) (a:=a) (k:=k) (cs:=cs) (w:=X.w) (ops:=ops) (i:=i) (rest:=rest) (by simp [hr.ho,hw])
   rw [hr.ho]at this;exact this
  by_cases hcw:cls y.op=.w
  ·have hiE:=R.w_at hI hr hcw;obtain⟨E',X2,q1,q2⟩:=R.O5 hI hr hcw (a1:=a.put o.dst undef) hI.sr hI.b (Ext.refl _ _) VR.undef rfl sJ (by rw [hI.heap,hheap,hiE]) (by rw [vG,pdf,hiE];exact hI.defs)
   exact⟨E',X2,a.put o.dst undef,by rw [q1];exact hst,q2,psz _⟩
  ·exact⟨E,X,a.put o.dst undef,hst,R.sD hI hr hcw hI.sr hI.b (Ext.refl _ _) (.inl VR.undef) rfl sJ rfl (by rw [pdf];exact hI.defs) (Reg.jG hI rfl),psz _⟩
 ·simp at hstep
end
end Km
