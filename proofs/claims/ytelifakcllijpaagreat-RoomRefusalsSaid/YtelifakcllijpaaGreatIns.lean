/-
  afM.Insert: what it agq in the model, and that the small machine may take it so.
-/
import Derived.Test.YtelifakcllijpaaGreatProg
import Derived.Shelf.Sort.Plain
import Derived.Shelf.Slices.In.SortNone
import Derived.Test.YtelifakcllijpaaGreatK2
open Option renaming map_some->ahs
open Option.some renaming injEq->AT, inj->ajq
open Nat renaming zero_le->aih, zero_add->ahI
open List renaming getElem?_append_left->AI, getElem?_eq_getElem->BY, getElem?_append_right->agL, getElem?_map->ahF
open Prod.mk renaming injEq->agO
set_option linter.all false
section
namespace Go.Proofs.YtelifakcllijpaaGreat
open Go Km
def SH:Go.Shelf.Ren:=⟨fun|189=>384|125=>138|257=>430|128=>219|129=>220|294=>464|295=>465|296=>466|297=>467|298=>468|299=>469|216=>224|300=>470|301=>471|328=>482|329=>294|330=>295|331=>483|332=>484|215=>221|343=>488|n=>n,fun|28=>58|3=>3|46=>199|0=>0|51=>277|53=>279|4=>4|183=>271|182=>270|131=>120|5=>5|9=>9|218=>329|222=>333|228=>388|229=>202|n=>n,fun|n=>n⟩
def B_:Go.Proofs.Lays.n189 Tryz.prog SH:={
 mixed:=by kernel_rfl
 f125:=Tryz.func138.trans (congrArg some (by kernel_rfl))
 f128:=Tryz.func219.trans (congrArg some (by kernel_rfl))
 f129:=Tryz.func220.trans (congrArg some (by kernel_rfl))
 f189:=Tryz.func384.trans (congrArg some (by kernel_rfl))
 f215:=Tryz.func221.trans (congrArg some (by kernel_rfl))
 f216:=Tryz.func224.trans (congrArg some (by kernel_rfl))
 f257:=Tryz.func430.trans (congrArg some (by kernel_rfl))
 f294:=Tryz.func464.trans (congrArg some (by kernel_rfl))
 f295:=Tryz.func465.trans (congrArg some (by kernel_rfl))
 f296:=Tryz.func466.trans (congrArg some (by kernel_rfl))
 f297:=Tryz.func467.trans (congrArg some (by kernel_rfl))
 f298:=Tryz.func468.trans (congrArg some (by kernel_rfl))
 f299:=Tryz.func469.trans (congrArg some (by kernel_rfl))
 f300:=Tryz.func470.trans (congrArg some (by kernel_rfl))
 f301:=Tryz.func471.trans (congrArg some (by kernel_rfl))
 f328:=Tryz.func482.trans (congrArg some (by kernel_rfl))
 f329:=Tryz.func294.trans (congrArg some (by kernel_rfl))
 f330:=Tryz.func295.trans (congrArg some (by kernel_rfl))
 f331:=Tryz.func483.trans (congrArg some (by kernel_rfl))
 f332:=Tryz.func484.trans (congrArg some (by kernel_rfl))
 f343:=Tryz.func488.trans (congrArg some (by kernel_rfl))
 t0:=Tryz.underlying0
 a0:=Tryz.isAgg0
 z0:=Tryz.sizeOf0
 v0:=Tryz.zeroValue0
 t3:=Tryz.underlying3
 a3:=Tryz.isAgg3
 z3:=Tryz.sizeOf3
 v3:=Tryz.zeroValue3
 t4:=Tryz.underlying4
 a4:=Tryz.isAgg4
 z4:=Tryz.sizeOf4
 v4:=Tryz.zeroValue4
 t5:=Tryz.underlying5
 a5:=Tryz.isAgg5
 z5:=Tryz.sizeOf5
 v5:=Tryz.zeroValue5
 t9:=Tryz.underlying9
 a9:=Tryz.isAgg9
 z9:=Tryz.sizeOf9
 v9:=Tryz.zeroValue9
 t28:=Tryz.underlying58
 a28:=Tryz.isAgg58
 z28:=Tryz.sizeOf58
 v28:=Tryz.zeroValue58
 t46:=Tryz.underlying199
 a46:=Tryz.isAgg199
 z46:=Tryz.sizeOf199
 v46:=Tryz.zeroValue199
 t51:=Tryz.underlying277
 a51:=Tryz.isAgg277
 z51:=Tryz.sizeOf277
 v51:=Tryz.zeroValue277
 t53:=Tryz.underlying279
 a53:=Tryz.isAgg279
 z53:=Tryz.sizeOf279
 v53:=Tryz.zeroValue279
 t131:=Tryz.underlying120
 a131:=Tryz.isAgg120
 z131:=Tryz.sizeOf120
 v131:=Tryz.zeroValue120
 t182:=Tryz.underlying270
 a182:=Tryz.isAgg270
 z182:=Tryz.sizeOf270
 v182:=Tryz.zeroValue270
 t183:=Tryz.underlying271
 a183:=Tryz.isAgg271
 z183:=Tryz.sizeOf271
 v183:=Tryz.zeroValue271
 t218:=Tryz.underlying329
 a218:=Tryz.isAgg329
 z218:=Tryz.sizeOf329
 v218:=Tryz.zeroValue329
 t222:=Tryz.underlying333
 a222:=Tryz.isAgg333
 z222:=Tryz.sizeOf333
 v222:=Tryz.zeroValue333
 t228:=Tryz.underlying388
 a228:=Tryz.isAgg388
 z228:=Tryz.sizeOf388
 v228:=Tryz.zeroValue388
 t229:=Tryz.underlying202
 a229:=Tryz.isAgg202
 z229:=Tryz.sizeOf202
 v229:=Tryz.zeroValue202 }
def NK(vs:Array Value)(w:World):(callFunc 384 vs).run Tryz.prog w=.ok (.enter 384 vs) w:=by
 have hn:(Tryz.f384.name == "runtime.NumGoroutine")=false:=by kernel_rfl
 have hb:Tryz.f384.body.isSome=true:=by kernel_rfl
 obtain⟨c,hc⟩:=Option.isSome_iff_exists.1 hb
 exact vg Tryz.func384 (by simpa using hn) hc vs w
def NJ{σ:Nat->FuncId}{X X':Wd}{us:Array Value}{r:V}{H':an}(h:Calls Tryz.prog 384 us X.w λe w'=>e=.returned (.tuple #[])/\w'=X'.w)(hp:Km.iC Tryz.prog σ X r H' X' (.tuple #[]))(cs:List Frame) :
  ∃fr X' u,Steps Tryz.prog (lone (Frame.enter Tryz.prog 384 us .normal) cs X.w) (lone fr cs X'.w)/\Km.Leaves Tryz.prog 384 .normal fr u X'.w/\Km.iC Tryz.prog σ X r H' X' u:=by
 obtain⟨e,w',fr,⟨rfl,rfl⟩,h1,h2,hm,hd,hk,fn,hf,hr⟩:=h cs
 exact⟨fr,X',_,h1,⟨hm,hd,hk,h2,fn,by rw[<-h2];exact hf,hr⟩,hp⟩
theorem V2{σ:Nat->FuncId}:∀(os:List Obj) {X:Wd},SR Tryz.prog σ X->X.B<=X.w.heap.size->∃X':Wd,X'.w=Go.Sort.grow X.w os.toArray/\X'.H=X.H/\SR Tryz.prog σ X'/\Ext X.H.length X X'/\X'.B<=X'.w.heap.size
 |[],X,hS,hB=>⟨X,bv,rfl,hS,Ext.refl _ _,hB⟩
 |o::os,X,hS,hB=>by
  obtain⟨X1,e1,h1,s1,x1,b1⟩:=hS.skip (fG.alloc X.w o) hB
  obtain⟨X2,e2,h2,s2,x2,b2⟩:=V2 os s1 b1
  refine⟨X2,?_,h2.trans h1,s2,x1.trans (by rw[h1]at x2;exact x2),b2⟩
  rw[e2,e1]
  simp only[Go.Sort.grow,World.alloc]
  congr 1
  apply Array.ext'
  simp
def Ip{w:World}{c:Nat}{us rest:List Value}{zs:List Int}(h:Km.rowAt w c (us++rest))(hl:zs.length=us.length)(n:Nat) :
  Km.rowAt (Go.Sort.putRow (Value.int .i64) (Go.Sort.ahead w n) c 0 zs.toArray) c (zs.map (Value.int .i64)++rest):=by
 obtain⟨e,fr,h1,h2⟩:=h
 refine⟨e,fr,?_,by simpa[hl]using h2⟩
 simp only[Go.Sort.putRow,Go.Sort.mapBlock,Go.Sort.ahead,Array.getElem?_modify,if_pos,h1,ahs,Go.Sort.onCells,AT,Obj.cells.injEq,and_true]
 apply Array.ext_getElem?
 intro k
 simp only[Go.Sort.putCells,Array.getElem?_mapIdx,List.getElem?_toArray,aih,true_and,ahI,List.size_toArray,Nat.sub_zero]
 by_cases hk:k<zs.length
 .rw[AI ap,AI (by simpa using hk),BY ap]
  simp[hk]
 .rw[agL ap,agL (by simpa using hk)]
  simp[hk]
  rw[hl]
theorem JO{σ:Nat->FuncId}{X:Wd}:∀{cs:List C} {us:List Value} {zs:List Int},yY cs=some zs->A2 (CR σ X) cs us->us=zs.map (Value.int .i64)
 |[],us,zs,h,hA=>by
  cases h
  have:=hA.len
  exact List.eq_nil_of_length_eq_zero this.symm
 |c::cs,[],zs,h,hA=>by have:=hA.len;simp at this
 |c::cs,u::us,zs,h,hA=>by
  obtain⟨y,ys,h1,h2,rfl⟩:∃y ys,(match c with| .f (.int .i64 n)=>some n|_=>none)=some y/\yY cs=some ys/\zs=y::ys:=by
   unfold yY at h ⊢
   simp only[bC]at h
   split at h
   .cases h
   .rename_i y h1
    split at h
    .cases h
    .rename_i ys h2
     exact⟨y,ys,h1,h2,(ajq h).symm⟩
  obtain⟨h3,h4⟩:=hA.of_cons
  split at h1
  .cases h1
   rw[List.map_cons,<-JO h2 h4]
   congr 1
   exact VR.int (σ:=σ) (X:=X) h3
  .cases h1
def TE{σ:Nat->FuncId}{X:Wd}(zs:List Int):A2 (CR σ X) (zs.map λn=>C.f (.int .i64 n)) (zs.map (Value.int .i64)):=
 ⟨bv,λi x y hx hy=>by
  rw[ahF]at hx hy
  cases hz:zs[i]? with
  |none=>rw[hz]at hx;cases hx
  |some z=>rw[hz]at hx hy;cases hx;cases hy;exact dJ.int _ _⟩
def Z3{σ:Nat->FuncId}(hσ:σ v8=384):G0 Tryz.prog σ Gh:=by
 intro f args H r H' hp
 unfold Gh at hp
 split at hp
 case isFalse=>cases hp
 rename_i hf
 subst hf
 simp only[AT]at hp
 rw[hσ]
 refine⟨NK,λX us kind cs hX hS hB hA hk hki=>?_⟩
 have hkn:kind=.normal:=hki.resolve_right λh=>h rfl
 subst hkn
 subst hX
 split at hp
 case h_2=>cases hp
 rename_i x
 obtain⟨ux,rfl,hx⟩:∃ux,us=[ux]/\VR σ X (.c x) ux:=by
  match us,hA with
  |[],h=>have:=h.len;simp at this
  |[ux],h=>exact⟨ux,rfl,h.of_cons.1⟩
  |_::_::_,h=>have:=h.len;simp at this
 have hul:([ux]:List Value).toArray=#[ux]:=rfl
 rw[hul]
 unfold FX at hp
 split at hp
 case h_1=>cases hp
 case h_2 h0=>
  simp only[AT,agO]at hp
  obtain⟨rfl,rfl⟩:=hp
  obtain⟨a,c,rfl⟩:=mY hx h0
  exact NJ (X':=X) (Any.slices_Sort_int_none B_ a c X.w) ⟨rfl,hS,by simp[VR,kg,A2.nil],Ext.refl _ _,hB⟩ cs
 rename_i m hm
 split at hp
 case h_2=>cases hp
 rename_i b o l c0 ep s
 split at hp
 case h_2=>cases hp
 rename_i s' ks fl e hb
 split at hp
 case isFalse=>cases hp
 rename_i hc
 obtain⟨rfl,rfl,rfl,rfl,rfl,rfl,hl⟩:=hc
 cases hz:yY ks with
 |none=>rw[hz]at hp;cases hp
 |some zs=>
 rw[hz]at hp
 simp only[ahs,AT,agO]at hp
 obtain⟨rfl,rfl⟩:=hp
 simp only[VR,kg,CR,iS,hb]at hx
 obtain⟨-,hx2,-⟩:=hx
 obtain⟨L,hL,k0,hk0,hk1,rfl⟩:=hx2 trivial trivial
 have afl:k0=0:=ii
 subst afl
 obtain⟨hLB,hLs,cV,hb',hbr⟩:=hS.br b L hL
 rw[hb]at hb';simp only[AT]at hb';subst hb'
 obtain⟨_,us,rest,hr,h2,h6,h7,h8,h3⟩:=hbr
 have hus:=JO hz h2
 subst hus
 have hzl:zs.length=ks.length:=by have:=h2.len;simpa using this.symm
 have hsl:(vk zs).length=zs.length:=List.length_mergeSort _
 have hH:Go.Sort.Holds (Value.int .i64) X.w L.c 0 zs.toArray:=λj hj=>by
  simp only[List.size_toArray]at hj
  rw[ahI]
  refine⟨?_,?_⟩
  .rw[fI hr,AI (by simpa using hj),ahF,BY hj]
   simp[hj]
  .obtain⟨e',fr,e1,e2⟩:=hr
   have:=e2 j ge
   simp only[World.frozen?,e1,Bool.and_eq_false_iff,decide_eq_false_iff_not]
   omega
 have acX:=Any.slices_Sort_int B_ L.c 0 L.cap zs X.w hH hLs ap
 rw[<-hzl]
 refine ?_
 obtain⟨e1,w',fr,⟨rfl,n,os,rfl⟩,q1,q2,hm',hd,hk',fn,hf,afp⟩:=acX cs
 have hlt:b<X.H.length:=(List.getElem?_eq_some_iff.1 hb).1
 have hA':=TE (σ:=σ) (X:=X) (vk zs)
 obtain⟨g1,g2⟩:=SR.turn hS (blk':=.dz 1 ((vk zs).map λn=>.f (.int .i64 n)) 0 ep .loc) (w':=Go.Sort.putRow (Value.int .i64) (Go.Sort.ahead X.w n) L.c 0 (vk zs).toArray) hb hL bv
  (λk hk=>by simp[Go.Sort.putRow,Go.Sort.mapBlock,Go.Sort.ahead,Array.getElem?_modify,Ne.symm hk]) (λi hf=>absurd hf (h3 i (aih _))) rfl rfl rfl
  (λcV Zs=>⟨.dz 1 ((vk zs).map λn=>.f (.int .i64 n)) 0 ep .loc,by simp[hlt],by
   rw[hb]at Zs;simp only[AT]at Zs;subst Zs
   exact⟨rfl,.inl ⟨rfl,rfl,λL' h'=>h'⟩⟩⟩)
  (λhx'=>⟨rfl,(vk zs).map (Value.int .i64),rest,Ip hr (by simp[hsl]) n,A2.ext' σ hx' hA',by simpa[hsl]using h6,h7,⟨(vk zs).length,bv⟩,h3⟩)
 obtain⟨X',p1,p2,p3,p4,p5⟩:=V2 os.toList g1 (by show X.B<=_;simpa using hB)
 rw[Array.toArray_toList]at p1
 refine⟨fr,X',.tuple #[],?_,⟨hm',hd,hk',q2,fn,?_,?_⟩,?_⟩
 .rw[p1];exact q1
 .rw[q2]at hf;exact hf
 .rw[p1];exact afp
 .refine⟨p2,p3,by simp[VR,kg,A2.nil],g2.trans (p4.mono ?_),p5⟩
  simp
end Go.Proofs.YtelifakcllijpaaGreat
end
