/-
  Dh the iC gK and the gl answer, for all arguments of their kind, in the small machine: part 7.
-/
import Derived.Test.YtelifakcllijpaaGreatS6
import Derived.Test.YtelifakcllijpaaGreatK4
import Derived.Test.YtelifakcllijpaaGreatS5
import Derived.Test.YtelifakcllijpaaGreatS4
import Derived.Test.YtelifakcllijpaaGreatK3
import Derived.KernelRfl
open Option renaming some->aa,none->ab
open Bool renaming true->ae,false->ag
open List renaming mem_map->agt, length_append->aft, mem_append->agl, getElem?_append_left->AI, getElem?_set_self->BY, map_cons->agm, map_nil->agp, drop_eq_getElem_cons->ags, getElem?_eq_getElem->By, getElem?_append_right->agj, set_append_right->ahO, mem_singleton->If, getElem?_set_ne->sh, getElem?_eq_some_iff->OF, length_set->agx, getElem_mem->IN, append_nil->agN, getElem?_cons_succ->agX, getElem?_cons_zero->ag2, mem_cons_self->ago, pairwise_cons->ahm, mem_cons_of_mem->agr, mem_append_left->ag3, getElem_of_mem->agz
open Nat renaming le_trans->agK, le_refl->agn
open Int renaming le_refl->ahw, tmod_eq_emod_of_nonneg->agE, tdiv_eq_ediv_of_nonneg->agY, toNat_natCast->agD
open Option renaming bind_some->ag8
open Option.some renaming inj->aiy
open Bool renaming true_and->ahh
set_option linter.unusedVariables false
set_option linter.constructorNameAsVariable false
set_option linter.unusedSimpArgs false
set_option linter.unusedSectionVars false
set_option linter.unnecessarySimpa false
set_option maxRecDepth 100000
set_option maxHeartbeats 2000000
namespace Go.Proofs.YtelifakcllijpaaGreat
open Go Km
variable{Nb Mb:Int}
theorem Tf{m:Nat}{ps:List aO}(h:vq Nb m ps):((∀d,¬ kS ps 0 ps d)/\¬ qW [] ps)↔∀d,0<=d->¬ dX ps d:=by
 constructor
 .rintro⟨j,u⟩ d l;exact xp h.2.2 j u d l
 .intro s;refine⟨λd ⟨q,j,_⟩=>s d q ((iT q).1 j),λv=>?_⟩;have g:∀p∈ps,1<=p.aT/\p.aT ∣ 27720:=λp g=>⟨(bC (h.2.2 p g).ok).2.2.1,(h.2.2 p g).aT⟩
  obtain⟨d,x,y,l⟩:=RP g v;refine s (d+27720*4) ap λp b=>?_;have:=(h.2.2 p b).fr;exact(tq (h.2.2 p b).mod ap).2 (GO g l 4 p b)
theorem jG.mono{p:aO}(h:jG Nb p)(b:Nb<=Mb):jG Mb p:=⟨h.ok,h.fr,h.aT,Int.le_trans h.bd b⟩
theorem EA(g g':Tg)(us b:List (List aO))(m:us.length<=1000)(q:b.length<=1000)(d:∀s∈us,s.length<=1000)(j:∀t∈b,t.length<=1000) :
  wX Ig [.fp [sl g (aX us)] 0,.fp [sl g' (aX b)] 0] (pW us b):=by
 have h:=yx g g' (us.map λs=>⟨.fs,s⟩) (b.map λs=>⟨.fs,s⟩) (by simpa using m) (by simpa using q) (λs h=>by obtain⟨x,l,rfl⟩:=agt.1 h;exact d x l) (λs h=>by obtain⟨x,l,rfl⟩:=agt.1 h;exact j x l);have e:∀us:List (List aO),(us.map λs=>(⟨.fs,s⟩:cV)).map (·.fs)=us:=λus=>by rw[List.map_map];exact List.map_id _
 rw[Vj,Vj,e,e]at h;exact h
theorem I0{m1 m2 n1 n2:Nat}(e:1<=m1)(r:m1+m2<=4)(w:n1*n2<=64)(O:n1<=64)(S:n2<=64)(g g':Tg)(us A:List (List aO))(B:ib Nb m1 n1 us)(E:ib Nb m2 n2 A) :
  ∃F b,ib Nb (m1+m2) (n1*n2) F/\(∀d,0<=d->(cM F d↔cM us d/\cM A d))/\bg tab Ic [.a [.f (sl g (aX us))],.a [.f (sl g' (aX A))]]=Eq (eH F b):=by
 have l:ib Nb 4 64 us:=⟨agK B.1 O,λu z=>⟨(B.2 u z).1,by have:=(B.2 u z).2.1;omega,(B.2 u z).2.2⟩⟩
 have v:ib Nb 4 64 A:=⟨agK E.1 S,λu z=>⟨(E.2 u z).1,by have:=(E.2 u z).2.1;omega,(E.2 u z).2.2⟩⟩
 have M:=lL g l;have N:=lL g' v;have L:=EB (sl g (aX us)) (sl g' (aX A));have J:=EA g g' us A (by have:=l.1;omega) (by have:=v.1;omega) (λs h=>by have:=(l.2 s h).2.1;omega) (λt h=>by have:=(v.2 t h).2.1;omega);have U:(pW us A).length<=n1*n2:=by
  rw[Ba];exact Nat.mul_le_mul B.1 E.1
 obtain⟨F,b,I,K⟩:=qI _ _ _ J (m:=m1+m2) ap ap (λx i=>by
  obtain⟨s,j,t,q,rfl⟩:=lZ.1 i;obtain⟨a1,n,a3⟩:=B.2 s j;obtain⟨b1,o,W⟩:=E.2 t q;refine⟨by simp[a1],by rw[aft];omega,λp f=>?_⟩;rcases agl.1 f with h|h
  .exact a3 p h
  .exact W p h) ap
 refine⟨F,b,⟨by have:=I.len;omega,I.ok⟩,λd c=>(I.mem d c).trans ?_,bg.eq (bK rfl rfl λQ a=>?_)⟩
 .constructor
  .rintro⟨y,k,H⟩;obtain⟨s,j,t,q,rfl⟩:=lZ.1 k;obtain⟨O,S⟩:=(fB s t d).1 H;exact⟨⟨s,j,O⟩,⟨t,q,S⟩⟩
  .rintro⟨⟨s,H,X⟩,⟨t,Y,Z⟩⟩;exact⟨_,lZ.2 ⟨_,H,_,Y,rfl⟩,(fB s t d).2 ⟨X,Z⟩⟩
 .apply ai;simp;apply au;apply ai;simp[M,N];refine bE bv ?_;apply ai;simp[L,K,eH];refine az (a _ _ ?_);simp[eH]
noncomputable def Gd (ps:List aO):Bool:=open Classical in decide (∀d,0<=d->¬ dX ps d)
theorem YG(g:Tg){ps:List aO}(h:vq Nb 4 ps):Kf tab Ps [.c (.f (sl g (aQ ps)))] (vb (!Gd ps)):=by
 have:=List.length_pos_iff.2 h.1;obtain⟨b,l,d⟩:=Am g ps (λp m=>(h.2.2 p m).mod) ap (by have:=h.2.1;omega);have e:b=Gd ps:=by
  rw[Bool.eq_iff_iff,l,Tf h];simp[Gd]
 rw[e]at d;refine dh rfl rfl λH Q j=>?_;apply ai;simp;apply ai;simp[d];refine az (j _ _ ?_);simp
theorem A4(g:Tg){us:List (List aO)}(h:ib Nb 4 64 us):∃e:Bool,(e=ae↔∀d,0<=d->¬ cM us d)/\bg tab abD [.a [.f (sl g (aX us))]]=Eq (vb e):=by
 have y:=(fD F9 (je F_ us (λs=>[sl .fs (aQ s)]) (λs=>.c (.f (sl .fs (aQ s)))) (λs=>!Gd s) g Ps [] (by have:=h.1;omega)
  (λj z H=>by
   have:=gU (H:=H) (fe us) (j:=j) (row:=[sl .fs (aQ us[j])]) (by simp[aX,z]) rfl;simpa[aX]using this)
  (λs A=>YG .fs (h.2 s A)))).eq
 have m:bg tab wW [.c (.f (sl g (aX us))),.c (.f (.fn Ps []))]=Eq (vb (us.any λs=>!Gd s)):=y;have B:=lL g h;refine⟨!(us.any λs=>!Gd s),?_,bg.eq (bK rfl rfl λQ x=>?_)⟩
 .simp only[Bool.not_eq_true',List.any_eq_false,Gd];constructor
  .rintro b d q ⟨u,v,l⟩;have:=b u v;simp only[Bool.not_eq_false,decide_eq_true_eq]at this;exact this d q l
  .intro b u v;simp only[Bool.not_eq_false,decide_eq_true_eq];exact λd q l=>b d q ⟨u,v,l⟩
 .apply ai;simp;apply ai;simp[B,m];refine az (x _ _ ?_);simp
end Go.Proofs.YtelifakcllijpaaGreat
namespace Go.Proofs.YtelifakcllijpaaGreat
open Go Km
variable{Nb Mb:Int}
theorem jV{m d n g:Nat}{us:List (List aO)}(h:ib Nb m n us)(j:Nb<=Mb)(l:m<=d)(q:n<=g):ib Mb d g us:=
 ⟨agK h.1 q,λu b=>⟨(h.2 u b).1,agK (h.2 u b).2.1 l,λp s=>((h.2 u b).2.2 p s).mono j⟩⟩
theorem Rl{m n1 n2:Nat}(W:1<=m)(U:m<=4)(hn:n1+n2<=64)(g g':Tg)(us l:List (List aO))(X:ib Nb m n1 us)(Y:ib Nb m n2 l) :
  ∃q j,ib Nb m (n1+n2) q/\(∀d,0<=d->(cM q d↔cM us d\/cM l d))/\bg tab vl [.a [.f (sl g (aX us))],.a [.f (sl g' (aX l))]]=Eq (eH q j):=by
 have Z:=lL g (jV X (ahw _) U (show n1<=64 by omega));have a:=lL g' (jV Y (ahw _) U (show n2<=64 by omega));have a_:=X.1;have b_:=Y.1;obtain⟨r,⟨q,j,o,p,rfl⟩,h⟩:∃r,(∃q j,ib Nb m (n1+n2) q/\(∀d,0<=d->(cM q d↔cM us d\/cM l d))/\r=eH q j)/\bg tab vl [.a [.f (sl g (aX us))],.a [.f (sl g' (aX l))]] r:=by
  refine dx rfl rfl λQ t=>?_;apply ai;simp;obtain⟨u,s⟩:=aI ([.box [.f (sl g (aX us))] 0,.box [.f (sl g' (aX l))] 0,.box [.f .aJ] 0]:an);rw[<-s];have f:u[2]?=aa (.box [.f .aJ] 0):=by rw[s];rfl
  have al:u.length=3:=by rw[s];rfl
  have l0:aV u (aa 1) (.c (.ptr 0 0 0))=aa (.a [.f (sl g (aX us))]):=by rw[s];simp[aV,aA,aW]
  have l1:aV u (aa 1) (.c (.ptr 1 0 0))=aa (.a [.f (sl g' (aX l))]):=by rw[s];simp[aV,aA,aW]
  have m0:aV u ab (.c (.ptr 0 0 0))=aa (.c (.f (sl g (aX us)))):=by rw[s];simp[aV,aA]
  have m1:aV u ab (.c (.ptr 1 0 0))=aa (.c (.f (sl g' (aX l)))):=by rw[s];simp[aV,aA]
  apply au;apply ai;simp[l0,l1,-ax,Z,a];refine bE bv ?_;obtain⟨L,v⟩:=aI (u++[bO.box [.f (sl g (aX us)),.f (sl g' (aX l))] 0]);have i:L[u.length]?=aa (.box [.f (sl g (aX us)),.f (sl g' (aX l))] 0):=by rw[v];simp
  have k:L[2]?=aa (.box [.f .aJ] 0):=by rw[v,AI ap];exact f
  have J:(aX us++aX l)=aX (us++l):=by simp[aX]
  obtain⟨r,E,z,c,rfl,y,S,-,-⟩:=uC (tab:=tab) (H:=L) (F:=FK) (G:=Pe) (sz:=1) (bytes:=24) (zs:=[.aJ]) X4 Yc ce rfl (b:=u.length) [(.f (sl g (aX us)),aX us),(.f (sl g' (aX l)),aX l)] i bv
   (λx N=>by
    simp only[List.mem_cons,List.not_mem_nil,or_false]at N;rcases N with rfl|rfl
    .exact⟨fe _,λH' _=>⟨bv,kv (fe _)⟩⟩
    .exact⟨fe _,λH' _=>⟨bv,kv (fe _)⟩⟩)
   (by simp[aX];omega) (gV (by simp[aX];omega) ce)
  have y:LR E c 1 (aX (us++l)):=by
   rw[<-J];simpa using y
  have z:Ev tab (.fn FK) [.c (.sl u.length 0 2 2 0 1)] L (.c c) E:=z;have n:E[2]?=aa (.box [.f .aJ] 0):=by rw[S 2 (by rw[v,aft];omega)];exact k
  obtain⟨go,A⟩:=y.ex (fe _) 63;have A:fh 64 E c=aa (sl go (aX (us++l))):=A;have K:=ma (sl go (aX (us++l)));have c9:(us++l).length<=n1+n2:=by rw[aft];omega
  obtain⟨q,j,O,B⟩:=qI jM [.fp [sl go (aX (us++l))] 0] (us++l) (oJ go _ ap) W U (λx N=>(agl.1 N).elim (X.2 x) (Y.2 x)) ap;obtain⟨M,I⟩:=aI (ef 64 c E);have e:M[2]?=aa (.box [.f .aJ] 0):=by rw[I];exact y.x.Eg 63 n
  have s2:cY M (.ptr 2 0 0) [.f (sl j (aX q))]=aa (M.set 2 (.box [.f (sl j (aX q))] 0)):=by simp[cY,e,over]
  have k2:(M.set 2 (.box [.f (sl j (aX q))] 0))[2]?=aa (.box [.f (sl j (aX q))] 0):=BY (aj e);apply ai;simp[m0,m1,-ax,<-v,z.eq,A,deep,K,B,eH,<-I,s2,-bw];refine az (t _ _ _ ⟨q,j,⟨by have:=O.len;omega,O.ok⟩,λd w=>by rw[O.mem d w,ic],rfl⟩ ⟨rfl,eH q j,?_,by simp[eH,jh,dq,bu]⟩);simp[Km.results,cC,bu,k2,aW,eH]
 exact⟨q,j,o,p,h.eq⟩
end Go.Proofs.YtelifakcllijpaaGreat
namespace Go.Proofs.YtelifakcllijpaaGreat
open Go Km
def zF(o:Int):List FC:=[fi 0,.fs [fi 7] 1,fi (-1),.aJ,fi o,.aJ,fi 0,.aJ]
def fu(o:Int):FC:=.fp [fi 0,.fs [fi 7] 1,fi (-1),.aJ,fi o,.aJ,fi 0,.aJ,.aJ,fi 1] 0
theorem aeT:bg tab ad7 [.a [.f (fi 0),.f (.fs [fi 7] 1),.f (fi (-1)),.f .aJ]]=Eq (vb ae):=afa (by kernel_rfl)
@[simp] theorem acH (H:an):bh H (.f .aJ)=aa 0:=rfl
theorem Sp(m:Int):SF .neg (.c (.f (.int .i64 m)))=aa (vi (IntKind.i64.wrap (0-m))):=rfl
theorem sk(n m:Int)(d:0<=m)(g:m<=4611686018427387904):bg tab XM [vi n,vi m]=Eq (vb (decide (-m<=n)&&decide (n<=m))):=bg.eq (by
 refine bK rfl rfl λQ b=>?_;apply ai;simp;by_cases h:-m<=n
 .apply ai;simp[Sp,aZ (n:=-m),h];refine az (b _ _ ?_);simp[h]
 .apply ai;simp[Sp,aZ (n:=-m),h];refine az (b _ _ ?_);simp[h])
theorem MT(o:Int):bg tab XL [.a ((zF o).map .f)]=Eq (.t [.c (.f (fu o)),vb ae]):=bg.eq (by
 refine bK rfl rfl λQ b=>?_
 repeat' first
  |(refine az (b _ _ ?_))
  |(apply au)
  |(refine ay ?_)
  |(refine eG ?_)
  |(refine eR ?_)
  |(refine av ?_)
  |(refine aR ?_)
  |(refine bJ rfl ?_)
  |(refine aw ?_ ?_;focus (simp;done))
  |(refine aD ?_ ?_;focus (simp;done))
  |(refine aq (.inl rfl) ?_;simp[zF])
 refine⟨rfl,.t [.c (.ptr 1 0 0),vb ae],by simp[Km.results,cC,bu],?_⟩;simp[jh,dq,bu,deep,fu])
theorem uP(o:Int)(j:-1080<=o)(l:o<=1080):bg tab XK [.a ((zF o).map .f)]=Eq (.t [.c (.f (fu o)),vb ae]):=bg.eq (by
 have b:=MT o;simp only[zF,agm,agp]at b;have d:=sk o 1080 ce ce;have g:=sk 0 2251799813685248 ce ce;simp[j,l]at d g;refine bK rfl rfl λQ m=>?_
 repeat' first
  |(refine az (m _ _ ?_))
  |(apply au)
  |(refine ay ?_)
  |(refine eG ?_)
  |(refine eR ?_)
  |(refine av ?_)
  |(refine aR ?_)
  |(refine bJ rfl ?_)
  |(refine aw ?_ ?_;focus (simp;done))
  |(refine aD ?_ ?_;focus (simp;done))
  |(refine aq (.inl rfl) ?_;simp[zF,aeT,b,d,g])
 refine⟨rfl,.t [.c (.f (fu o)),vb ae],by simp[Km.results,cC,bu,aW],by simp[jh,dq,bu]⟩)
theorem Hw(o:Int)(d:-1080<=o)(g:o<=1080):bg tab XG [.a ((zF o).map .f)]=Eq (vi 0):=bg.eq (by
 have b:=uP o d g;simp only[zF,agm,agp]at b;refine bK rfl rfl λQ j=>?_
 repeat' first
  |(refine az (j _ _ ?_))
  |(apply au)
  |(refine aR ?_)
  |(refine aw ?_ ?_;focus (simp;done))
  |(refine aD ?_ ?_;focus (simp;done))
  |(refine aq (.inl rfl) ?_;simp[zF,b])
 simp)
end Go.Proofs.YtelifakcllijpaaGreat
namespace Go.Proofs.YtelifakcllijpaaGreat
open Go Km
theorem ig(H:an)(cs:List FC)(i:Nat):aV H ab (.c (.f (.fp cs i)))=(cs[i]?).map λx=>.c (.f x):=by
 by_cases h:i<cs.length
 .have e:cs.drop i=cs[i]::cs.drop (i+1):=ags h;rw[By h];simp only[aV,aA,e,agm,ag8,aW,Option.map_some]
 .have e:cs.drop i=[]:=List.drop_eq_nil_of_le ap;rw[List.getElem?_eq_none (Nat.le_of_not_lt h)];simp only[aV,aA,e,agp,ag8,aW,Option.map_none]
theorem AB(o t:Int)(H:an):Ev tab (.fn Pn) [.c (.f (fu o)),vi t] H (.c (.cl ui [.ptr H.length 0 0,.ptr (H.length+1) 0 0])) (H++[.box [.f (fu o)] 0,.box [.f (fi t)] 0]):=by
 obtain⟨r,H',h,rfl,rfl⟩:∃r H',Ev tab (.fn Pn) [.c (.f (fu o)),vi t] H r H'/\(r=.c (.cl ui [.ptr H.length 0 0,.ptr (H.length+1) 0 0])/\H'=H++[.box [.f (fu o)] 0,.box [.f (fi t)] 0]):=by
  refine de rfl rfl λQ b=>?_;apply ai;simp;apply ai;simp;exact az (b _ _ _ rfl (dy bv) ⟨rfl,rfl⟩)
 exact h
theorem DY{o:Int}{J:an}{b bp bl:Nat}(d:J[bp]?=aa (.box [.f (fu o)] 0)):Ev tab (.fn ui) [.c (.yl b),.c (.ptr bp 0 0),.c (.ptr bl 0 0)] J (.t []) J:=by
 obtain⟨r,H',h,rfl,rfl⟩:∃r H',Ev tab (.fn ui) [.c (.yl b),.c (.ptr bp 0 0),.c (.ptr bl 0 0)] J r H'/\(r=.t []/\H'=J):=by
  have j:aV J ab (.c (.ptr bp 0 0))=aa (.c (.f (fu o))):=by simp[aV,aA,d]
  refine de rfl rfl λQ g=>?_
  repeat' first
   |(refine az (g _ _ (.t []) rfl rfl ⟨rfl,rfl⟩))
   |(apply au)
   |(refine ay ?_)
   |(refine eG ?_)
   |(refine av ?_)
   |(refine aR ?_)
   |(refine bJ rfl ?_)
   |(refine aw ?_ ?_;focus (simp;done))
   |(refine aD ?_ ?_;focus (simp;done))
   |(refine aq (.inl rfl) ?_;simp[j,fu,-ax,ig])
 exact h
theorem AO{o:Int}{fn:Nat}{t:T}{j:List gX}{J:an}{k:List dU}{Q:Option aE->St->Prop}{x:Arg}{ps:List P}{b bd:aE}{bp bl:Nat}(m:x.ev t=.c (.cl ui [.ptr bp 0 0,.ptr bl 0 0]))(l:J[bp]?=aa (.box [.f (fu o)] 0))
  (h:WP tab fn ab k ⟨t,.dY J.length::j,J++[.dQ ae,.lp fn t ps b bd .exhausted ab J.length]⟩ Q):WP tab fn ab (.code (.oE x ps b bd)::k) ⟨t,j,J⟩ Q:=by
 refine dK (g:=ui) (by rw[m];rfl) (DY (o:=o) (by rw[AI (aj l)];exact l)) ?_;have d:(J++[bO.dQ ae,.lp fn t ps b bd .ready ab J.length])[J.length+1]?=aa (.lp fn t ps b bd .ready ab J.length):=by
  rw[agj ap];simp
 refine ew d ce ?_;have e:(J++[bO.dQ ae,.lp fn t ps b bd .ready ab J.length]).set (J.length+1) (.lp fn t ps b bd .exhausted ab J.length)=J++[.dQ ae,.lp fn t ps b bd .exhausted ab J.length]:=by
  rw[ahO _ _ ap];simp
 rw[e];exact h
theorem CJ(o:Int):bg tab FZ [.c (.f (fu o))]=Eq (vi 0):=by
 obtain⟨r,rfl,h⟩:∃r,r=vi 0/\bg tab FZ [.c (.f (fu o))] r:=by
  refine kH Yk rfl λQ d=>?_;have b:=AB o 0 [.box [.f (fi 0)] 0];simp[fu]at b;apply ai;simp;apply au;apply ai;simp[fu,ig,b.eq];refine ay ?_;refine AO (o:=o) (bp:=1) (bl:=2) bv rfl ?_
  repeat' first
   |(apply au)
   |(refine av ?_)
   |(refine aR ?_)
   |(refine aw ?_ ?_;focus (simp;done))
   |(refine aD ?_ ?_;focus (simp;done))
   |(refine aq (.inl rfl) ?_;simp[ig])
  refine az (d _ _ _ rfl (.inr ⟨3,rfl,bv,vi 0,by simp[Km.results,cC,bu,aW],by simp[jh]⟩))
 exact h.eq
end Go.Proofs.YtelifakcllijpaaGreat
namespace Go.Proofs.YtelifakcllijpaaGreat
open Go Km
def tP(o:Int):List FC:=[fi o,fi (-9007199254740992),fi 9007199254740992,fi (-9007199254740992),fi 9007199254740992]
theorem ZK(b:Bool):SF .not (.c (.f (.bool b)))=aa (vb !b):=rfl
theorem EG{o e:Int}{b:Nat}{H:an}{S:an->Prop}
  (U:∀x:bO,∃r H',Ev tab (.yield b) [.a ((tP o).map .f)] (H++[.box [.yl b] 0,.box ((tP o).map .f) 0,.box [.f (fu o)] 0,.box [.f (fi (-2251799813685248))] 0,.dQ ae,x]) r H'/\H'[H.length+4]?=aa (.dQ ae)/\(∃v,r=vb v)/\S (H'.set (H.length+4) (.dQ ag))) :
  ∃l,Ev tab (.fn pk) [.c (.yl b),.c (.f (.fp [fu o] 0)),.c (.f (.fp [fi e] 0))] H (.t []) l/\S l:=by
 obtain⟨r,l,h,rfl,K⟩:∃r l,Ev tab (.fn pk) [.c (.yl b),.c (.f (.fp [fu o] 0)),.c (.f (.fp [fi e] 0))] H r l/\(r=.t []/\S l):=by
  refine Gs Yj rfl λQ i=>?_;obtain⟨b0,g⟩:=aI (H.length);obtain⟨L,m⟩:=aI (H++[.box [.yl b] 0]:an);have J:L.length=b0+1:=by rw[m,g];simp
  obtain⟨F,j⟩:=aI (L++[.box [.f (fi o),.f (fi (-9007199254740992)),.f (fi 0),.f (fi (-9007199254740992)),.f (fi 0)] 0]:an);have bl:F.length=b0+2:=by rw[j];simp[J]
  have u:=AB o (-2251799813685248) F;rw[bl]at u;have W:∀H:an,aV H ab (.c (.f (.fp [fu o] 0)))=aa (.c (.f (fu o))):=λH=>by rw[ig];rfl
  apply ai;simp;rw[<-m,<-g];have s4:cY (L++[.box [.f (fi 0),.f (fi 0),.f (fi 0),.f (fi 0),.f (fi 0)] 0]) (.ptr (b0+1) 0 0) [.f (fi o),.f (fi (-9007199254740992)),.f (fi 0),.f (fi (-9007199254740992)),.f (fi 0)]=aa F:=by rw[j,<-J];simp[cY,over]
  simp only[fu]at W u;apply ai;simp[W,fu,ig,-ax,J,s4,-bw];apply au;apply ai;simp[W,-ax,u.eq];refine ay ?_;obtain⟨M,d⟩:=aI (F++[.box [.f (fu o)] 0,.box [.f (fi (-2251799813685248))] 0]:an);have cl:M.length=b0+4:=by rw[d];simp[bl]
  simp only[fu]at d;rw[<-d];refine AO (o:=o) (bp:=b0+2) (bl:=b0+2+1) bv (by rw[d,agj ap];simp[bl,fu]) ?_;refine av ?_;rw[cl]
  suffices go:∀(t:T) (x:bO),t.g 3=.c (.ptr b0 0 0)->t.g 4=.c (.ptr (b0+1) 0 0)->WP tab pk ab [.code Kw] ⟨t,[.dY (b0+4)],M++[.dQ ae,x]⟩ Q by exact go _ _ bv bv
  intro t x f Y;obtain⟨N,q⟩:=aI (M++[.dQ ae,x]:an);rw[<-q];have X:N[b0+1]?=aa (.box [.f (fi o),.f (fi (-9007199254740992)),.f (fi 0),.f (fi (-9007199254740992)),.f (fi 0)] 0):=by
   rw[q,AI ap,d,AI ap,j,agj ap];simp[J]
  obtain⟨I,s⟩:=aI (N.set (b0+1) (.box [.f (fi o),.f (fi (-9007199254740992)),.f (fi 9007199254740992),.f (fi (-9007199254740992)),.f (fi 0)] 0):an);have p:cY N (.ptr (b0+1) 2 0) [.f (fi 9007199254740992)]=aa I:=by rw[s];simp[cY,X,over]
  have Z:I[b0+1]?=aa (.box [.f (fi o),.f (fi (-9007199254740992)),.f (fi 9007199254740992),.f (fi (-9007199254740992)),.f (fi 0)] 0):=by rw[s];exact BY (aj X)
  obtain⟨z,A⟩:=aI (I.set (b0+1) (.box ((tP o).map .f) 0):an);have w:cY I (.ptr (b0+1) 4 0) [.f (fi 9007199254740992)]=aa z:=by rw[A];simp[cY,Z,over,tP]
  have O:z=H++[.box [.yl b] 0,.box ((tP o).map .f) 0,.box [.f (fu o)] 0,.box [.f (fi (-2251799813685248))] 0,.dQ ae,x]:=by
   rw[A,s,List.set_set,q,d,j,m];simp[g,fu]
  have a:z[b0]?=aa (.box [.yl b] 0):=by rw[O,g,agj ap];simp
  have c:z[b0+1]?=aa (.box ((tP o).map .f) 0):=by rw[O,g,agj ap];simp
  have k:aV z ab (.c (.ptr b0 0 0))=aa (.c (.yl b)):=by simp[aV,aA,a]
  have n:aV z (aa 5) (.c (.ptr (b0+1) 0 0))=aa (.a ((tP o).map .f)):=by simp[aV,aA,c,aW,tP]
  obtain⟨r,H',E,B,⟨v,rfl⟩,K⟩:=U x;rw[<-O]at E;apply ai;simp[Y,p,w,-bw];refine aq (.inl rfl) ?_;simp[f,Y,k,n,-ax,cr,E.eq];rw[<-g]at B K;exact cX (i _ _ (.t []) ⟨[b0+4],rfl,⟨bv,λy U=>by rw[If.1 U];exact B⟩,rfl,rfl,K⟩)
 exact⟨l,h,K⟩
end Go.Proofs.YtelifakcllijpaaGreat
namespace Go.Proofs.YtelifakcllijpaaGreat
open Go Km
theorem Lt(o:Int)(H:an):Ev tab (.fn pj) [.a ((tP o).map .f)] H (.a [.f (fi (-9007199254740992)),.f (fi 9007199254740992)]) (H++[.box ((tP o).map .f) 0,.box [.f (fi (-9007199254740992)),.f (fi 9007199254740992)] 0]):=by
 obtain⟨r,H',h,rfl,rfl⟩:∃r H',Ev tab (.fn pj) [.a ((tP o).map .f)] H r H'/\(r=.a [.f (fi (-9007199254740992)),.f (fi 9007199254740992)]/\H'=H++[.box ((tP o).map .f) 0,.box [.f (fi (-9007199254740992)),.f (fi 9007199254740992)] 0]):=by
  refine de rfl rfl λQ j=>?_;obtain⟨b0,b⟩:=aI (H.length);have d:aV (H++[.box ((tP o).map .f) 0,.box [.f (fi 0),.f (fi 0)] 0]) (aa 2) (.c (.ptr b0 1 0))=aa (.a [.f (fi (-9007199254740992)),.f (fi 9007199254740992)]):=by simp[b,aV,aA,aW,tP]
  have g:cY (H++[.box ((tP o).map .f) 0,.box [.f (fi 0),.f (fi 0)] 0]) (.ptr (b0+1) 0 0) [.f (fi (-9007199254740992)),.f (fi 9007199254740992)]=aa (H++[.box ((tP o).map .f) 0,.box [.f (fi (-9007199254740992)),.f (fi 9007199254740992)] 0]):=by simp[b,cY,over,agj,ahO]
  apply ai;simp only[tP,agm,agp]at d g ⊢;simp[<-b];apply ai;simp[d,g,-ax,-bw];refine az (j _ _ _ rfl ?_ ⟨rfl,rfl⟩);simp[Km.results,cC,bu,b,aW]
 exact h
theorem aeO:bg tab Vb [.a [.f (.fs [fi 0,fi 1,fi 2] 3),.f (fi 3),.f (fi 1),.f (.fs [fi 0] 1)]]=Eq (.t [.a [.f .es,.f (fi 0),.f (fi 1),.f (.fs [fi 0] 1)],vi 0]):=bg.eq (aY (m:=300) (d:=60) (by kernel_rfl))
theorem ae8:bg tab Pq [.c (.f (.int .u64 1))]=Eq (vi 1):=bg.eq (aY (m:=300) (d:=60) (by kernel_rfl))
def Qq(o m:Int)(y:bO):an:=[.box ((zF o).map .f) 0,.box [.f (fi m)] 0,.box [.f (.fn pj [])] 0,.box [.f (fi 4)] 0,.map [],.box [.mp 4] 0,.dQ ae,y]
theorem Gp{o m:Int}(I:0<=m)(m1:m<1440){tm:T}(F:tm.g 3=.c (.ptr 0 0 0))(s:tm.g 4=.c (.ptr 1 0 0))(B:tm.g 5=.c (.ptr 2 0 0))(g:tm.g 13=.c (.ptr 3 0 0))(d:tm.g 14=.c (.ptr 5 0 0))(x:bO) :
  ∃r H',Ev tab (.yield 7) [.a ((tP o).map .f)] (Qq o m (.lp po tm [Km.P.nat 69] qp qv .ready ab 6)++[.box [.yl 7] 0,.box ((tP o).map .f) 0,.box [.f (fu o)] 0,.box [.f (fi (-2251799813685248))] 0,.dQ ae,x]) r H'/\(r=vb ae/\
   H'=[.box ((zF o).map .f) 0,.box [.f (fi m)] 0,.box [.f (.fn pj [])] 0,.box [.f (fi 4)] 0,.map [(fi o,.sl 19 0 1 0 0 2)],.box [.mp 4] 0,.dQ ae,.lp po tm [Km.P.nat 69] qp qv .ready ab 6,.box [.yl 7] 0,.box ((tP o).map .f) 0,.box [.f (fu o)] 0,.box [.f (fi (-2251799813685248))] 0,.dQ ae,x,.box ((tP o).map .f) 0,.box ((tP o).map .f) 0,.box [.f (fi (-9007199254740992)),.f (fi 9007199254740992)] 0,.box [.f (fi (-9007199254740992)),.f (fi 9007199254740992)] 0,.box [.f (fi 0),.f (fi 4)] 0,.dj 2 [.f (fi 0),.f (fi 4)] 0 0 .loc]):=by
 have u:=λH=>(Lt o H).eq;simp only[tP,agm,agp]at u;have v:=fF (-9007199254740992-m+1440-1) 1440 ce ap ap;have y:=fF (9007199254740992-m+1440-1) 1440 ce ap ap;have z:max ((-9007199254740992-m+1440-1) / 1440) 0=0:=by omega
 have A:min ((9007199254740992-m+1440-1) / 1440) 4=4:=by omega
 refine dw (tab:=tab) (b:=7) rfl rfl λE j=>?_;refine aq (.inr rfl) ?_;simp[Qq,tP,zF];refine fP rfl ?_;simp;refine ay ?_;refine au (aq (.inr rfl) ?_);simp[B,cr,u];refine au (aq (.inr rfl) ?_);simp[s,aZ (n:=-9007199254740992-m),aZ (n:=-9007199254740992-m+1440),aZ (n:=-9007199254740992-m+1440-1),v];refine au (aq (.inr rfl) ?_);simp[s,aZ (n:=9007199254740992-m),aZ (n:=9007199254740992-m+1440),aZ (n:=9007199254740992-m+1440-1),y];refine au (aq (.inr rfl) ?_);simp[g,z,A];refine au (aq (.inr rfl) ?_);simp;refine aw bv ?_;refine eF (.inr rfl) ?_ ?_
 case refine_2=>
  intro cc q;have l:cc=(0,12)\/cc=(2,12):=by simpa using q
  rcases l with rfl|rfl
  .refine⟨ce,_,rfl,.inl ⟨ce,?_⟩⟩;simp[d,gj,V.beq,C.beq,FC.beq,iv,qT,oB,gC,oR,nk,pR,SB,isKey,bT,dG,bh,dg,cD,pL,zV,zm]
  .refine⟨ce,_,rfl,.inl ⟨ce,?_⟩⟩;simp[d,gj,V.beq,C.beq,FC.beq,iv,qT,oB,gC,oR,nk,pR,SB,isKey,bT,dG,bh,dg,cD,pL,zV,zm]
 simp[d,iv,qT,oB,gC,oR,nk,pR,SB,isKey,bT,dG,bh,dg,cD,pL,zV,zm];exact av (cX (j _ _ _ _ _ _ _ _ _ _ rfl rfl ⟨rfl,rfl⟩))
theorem Zq(o e:Int):bg tab XJ [.c (.f (fu o)),vi e]=Eq (.c (.f (.fn pk [.fp [fu o] 0,.fp [fi e] 0]))):=bg.eq (by
 refine bK rfl rfl λQ b=>?_;apply ai;simp;apply ai;simp;refine az (b _ _ ⟨rfl,.c (.cl pk [.ptr 0 0 0,.ptr 1 0 0]),by simp[Km.results,cC,bu],?_⟩);simp[jh,fh,bu,deep])
theorem wi1:IntKind.i64.wrap 1=1:=by decide
theorem wu1:IntKind.u64.wrap 1=1:=by decide
def RV(o:Int):List FC:=[fi o,.es,fi 0,fi 1,.fs [fi 0] 1]
theorem Y3(c:C)(H:an)(g:V):Ev tab (.fn Pl) [.c c,vi 0,vi 1,g] H (.t []) H:=by
 obtain⟨r,H',h,rfl,rfl⟩:∃r H',Ev tab (.fn Pl) [.c c,vi 0,vi 1,g] H r H'/\(r=.t []/\H'=H):=by
  refine de rfl rfl λQ b=>?_
  repeat' first
   |(refine cX (b _ _ (.t []) rfl rfl ⟨rfl,rfl⟩))
   |(refine az (b _ _ (.t []) rfl rfl ⟨rfl,rfl⟩))
   |(apply au)
   |(refine ay ?_)
   |(refine eG ?_)
   |(refine av ?_)
   |(refine aR ?_)
   |(refine bJ rfl ?_)
   |(refine aw ?_ ?_;focus (simp;done))
   |(refine aD ?_ ?_;focus (simp;done))
   |(refine aq (.inl rfl) ?_;simp[wi1])
 exact h
theorem afb(c:C)(H:an)(g:V)(n:Int):Ev tab (.fn Pm) [.c c,vi 0,vi 1,vi n,g] H (.t []) H:=by
 obtain⟨r,H',h,rfl,rfl⟩:∃r H',Ev tab (.fn Pm) [.c c,vi 0,vi 1,vi n,g] H r H'/\(r=.t []/\H'=H):=by
  have hi:=(Y3 c H g).eq;refine de rfl rfl λQ b=>?_
  repeat' first
   |(refine cX (b _ _ (.t []) rfl rfl ⟨rfl,rfl⟩))
   |(refine az (b _ _ (.t []) rfl rfl ⟨rfl,rfl⟩))
   |(apply au)
   |(refine ay ?_)
   |(refine eG ?_)
   |(refine av ?_)
   |(refine aR ?_)
   |(refine bJ rfl ?_)
   |(refine aw ?_ ?_;focus (simp;done))
   |(refine aD ?_ ?_;focus (simp;done))
   |(refine aq (.inl rfl) ?_;simp[hi,wi1])
 exact h
theorem ac5{c:C}{H:an}(g:V)(d:bh H c=aa 1):Ev tab (.fn Pj) [.c c,g] H (.t []) H:=by
 obtain⟨r,H',h,rfl,rfl⟩:∃r H',Ev tab (.fn Pj) [.c c,g] H r H'/\(r=.t []/\H'=H):=by
  have hi:=λn=>(afb c H g n).eq;refine de rfl rfl λQ b=>?_
  repeat' first
   |(refine cX (b _ _ (.t []) rfl rfl ⟨rfl,rfl⟩))
   |(refine az (b _ _ (.t []) rfl rfl ⟨rfl,rfl⟩))
   |(apply au)
   |(refine aq (.inl rfl) ?_;simp[d,hi,wu1,ae8])
 exact h
end Go.Proofs.YtelifakcllijpaaGreat
namespace Go.Proofs.YtelifakcllijpaaGreat
open Go Km
theorem Sx(t:T)(H:an)(x:Arg):cm t H (.mq x)=wO H (x.ev t):=rfl
theorem UQ(t:T)(H:an)(x:Arg):cm t H (.pS x)=Cp H (x.ev t):=rfl
theorem UP(t:T)(H:an)(x:Arg):cm t H (.entry x)=(ot H (x.ev t)).map (·,H):=rfl
theorem wiL:IntKind.i64.wrap 3=3/\IntKind.i64.wrap 4=4/\IntKind.i64.wrap 7=7/\IntKind.i64.wrap 10080=10080/\IntKind.i64.wrap 2=2/\max (3:Int) 0=3/\IntKind.i64.wrap 0=0:=by decide
theorem Lr(o m:Int)(K:-1080<=o)(L:o<=1080)(U:0<=m)(m1:m<1440):bg tab po [.a ((zF o).map .f),vi m,.c (.f (.fn pj []))]=Eq (.t [.c (.f (.fs (RV o) 1)),vi 0]):=by
 obtain⟨r,rfl,h⟩:∃r,r=.t [.c (.f (.fs (RV o) 1)),vi 0]/\bg tab po [.a ((zF o).map .f),vi m,.c (.f (.fn pj []))] r:=by
  have q:=uP o K L;have u:=CJ o;have l:=fF 0 1440 ce ce ce;have s:=Zq o 10080;have W:¬ m<0:=by omega
  have n1:¬ 1440<=m:=by omega
  simp only[zF,agm,agp,fu]at q u s;simp at l;refine kH Yl rfl λQ M=>?_
  repeat' first
   |(apply au)
   |(refine ay ?_)
   |(refine aR ?_)
   |(refine aw ?_ ?_;focus (simp;done))
   |(refine aD ?_ ?_;focus (simp;done))
   |(refine aq (.inl rfl) ?_;simp[zF,q,u,l,s,W,n1,wi1,wiL,fu,ig,CZ])
  suffices go:∀tm:T,tm.g 3=.c (.ptr 0 0 0)->tm.g 4=.c (.ptr 1 0 0)->tm.g 5=.c (.ptr 2 0 0)->tm.g 8=.c (.f (fu o))->tm.g 12=vi 3->tm.g 13=.c (.ptr 3 0 0)->tm.g 14=.c (.ptr 5 0 0)->tm.g 68=.c (.f (.fn pk [.fp [fu o] 0,.fp [fi 10080] 0]))->
    WP tab po ab [.code Kx,.inBlock 0,.code Ky] ⟨tm,[],[.box ((zF o).map .f) 0,.box [.f (fi m)] 0,.box [.f (.fn pj [])] 0,.box [.f (fi 4)] 0,.map [],.box [.mp 4] 0]⟩ Q by
   exact go _ bv bv bv (by simp[fu]) bv bv bv (by simp[fu])
  intro tm E F I J v y d z;obtain⟨B,N,x,rfl⟩:=EG (o:=o) (e:=10080) (b:=7) (H:=Qq o m (.lp po tm [Km.P.nat 69] qp qv .ready ab 6)) (S:=λB=>∃x,B=[.box ((zF o).map .f) 0,.box [.f (fi m)] 0,.box [.f (.fn pj [])] 0,.box [.f (fi 4)] 0,.map [(fi o,.sl 19 0 1 0 0 2)],.box [.mp 4] 0,.dQ ae,.lp po tm [Km.P.nat 69] qp qv .ready ab 6,.box [.yl 7] 0,.box ((tP o).map .f) 0,.box [.f (fu o)] 0,.box [.f (fi (-2251799813685248))] 0,.dQ ag,x,.box ((tP o).map .f) 0,.box ((tP o).map .f) 0,.box [.f (fi (-9007199254740992)),.f (fi 9007199254740992)] 0,.box [.f (fi (-9007199254740992)),.f (fi 9007199254740992)] 0,.box [.f (fi 0),.f (fi 4)] 0,.dj 2 [.f (fi 0),.f (fi 4)] 0 0 .loc])
   (λx=>by
    obtain⟨r,H',A,rfl,j⟩:=Gp (o:=o) U m1 E F I y d x;exact⟨_,H',A,by rw[j];rfl,⟨ae,rfl⟩,x,by rw[j];rfl⟩)
  refine dK (g:=pk) (by rw[oi,z];simp[cr]) N ?_;refine ew rfl ce (av ?_);have O:=λ(H:an) (h:bh H (.sl 31 0 1 0 0 5)=aa 1)=>(ac5 (.c (.f (.fn 368 []))) h).eq;simp only[List.set_cons_succ,List.set_cons_zero,List.length_cons,List.length_nil,tP,zF,agm,agp]
  repeat' first
   |(apply au)
   |(refine ay ?_)
   |(refine eG ?_)
   |(refine eR ?_)
   |(refine av ?_)
   |(refine aR ?_)
   |(refine bJ rfl ?_)
   |(refine aw ?_ ?_;focus (simp;done))
   |(refine aD ?_ ?_;focus (simp;done))
   |(refine aq (.inl rfl) ?_;simp[J,v,d,wi1,wiL,ig,fu,Sx,UQ,UP,wO,Cp,ot,bh,bT,dG,dg,cD,bG,mV,aeO,V.bool,fG,gT,jL,deep,bu,O])
  refine az (M _ _ _ rfl (.inr ⟨6,rfl,rfl,.t [.c (.sl 31 0 1 0 0 5),vi 0],by simp[Km.results,cC,bu],by simp[jh,dq,gT,deep,bu,RV]⟩))
 exact h.eq
end Go.Proofs.YtelifakcllijpaaGreat
namespace Go.Proofs.YtelifakcllijpaaGreat
open Go Km
variable{Nb:Int}
def Dn:aO:=⟨.es,[],0,1,.fs,[0]⟩
theorem PY:jG 12 Dn:=⟨ce,ce,ce,ce⟩
theorem PX(d:Int)(b:0<=d):bA Dn d=ae:=by
 unfold bA Dn;rw[bZ (by simpa using b)];simp
theorem Zd:bg tab U6 [.a [.f .es,.f (fi 0),.f (fi 1),.f (.fs [fi 0] 1)]]=Eq (.a [.f (sl .fs (aX [[Dn]]))]):=bg.eq (aY (m:=300) (d:=60) (by kernel_rfl))
theorem Kz(o m:Int)(d:-1080<=o)(g:o<=1080)(l:0<=m)(m1:m<1440):bg tab XF [.a ((zF o).map .f),vi m]=Eq (.t [.c (.f (.fs (RV o) 1)),vi 0]):=bg.eq (by
 have b:=Lr o m d g l m1;simp only[zF,agm,agp]at b;refine bK rfl rfl λQ j=>?_
 repeat' first
  |(refine az (j _ _ ?_))
  |(apply au)
  |(refine aq (.inl rfl) ?_;simp[zF,b])
 simp)
end Go.Proofs.YtelifakcllijpaaGreat
namespace Km
open Go
theorem Kp.tr{H K L:an}(h:Kp H K)(d:Kp K L):Kp H L:=⟨agK h.1 d.1,λb l=>(d.2 b (Nat.lt_of_lt_of_le l h.1)).trans (h.2 b l)⟩
theorem Kp.get{H K:an}(h:Kp H K){i:Nat}{y:bO}(hi:H[i]?=aa y):K[i]?=aa y:=by rw[h.2 i (aj hi)];exact hi
theorem Kp.re{H K:an}(h:Kp H K){i:Nat}(hi:H.length<=i)(x:bO):Kp H (K.set i x):=⟨by simpa using h.1,λb l=>by rw[sh ap];exact h.2 b l⟩
end Km
namespace Go.Proofs.YtelifakcllijpaaGreat
open Go Km
def vT:aO:=⟨.nil,[],0,1,.fs,[0]⟩
def S1:FC:=sl .fs (aX [[vT]])
def E1:FC:=sl .fs (aX [[Dn]])
def rM(lo hi:Int):FC:=.fs [S1,fi lo,fi hi] 1
def mX(lo hi:Int)(cl:FC):List FC:=[fi 0,.fs [fi 7] 1,fi (-1),.aJ,fi 0,.aJ,fi 0,.aJ,rM lo hi,cl]
theorem acu{H:an}{lo hi:Int}{cl u v w:FC}(s:H[0]?=aa (.box ((mX lo hi cl).map .f) 0))(l:bg tab Ai [.c (.f cl)]=Eq (.a [.f u]))(m:bg tab Db [.a [.f v],.a [.f u]]=Eq (.t [.a [.f w],vi 0])):∃r H',Ev tab (.fn PD) [.a [.f v],.c (.ptr 0 0 0)] H r H'/\(r=.t [.a [.f w],vi 0]/\Kp H H'):=by
 refine de rfl rfl λQ q=>?_;have x:∀K:an,Kp H K->aV K ab (.c (.ptr 0 9 0))=aa (.c (.f cl)):=λK b=>by simp[aV,aA,b.get s,mX]
 apply ai;simp;have b:=Kp.push H [bO.box [C.f v] 0,bO.box [C.f FC.aJ] 0];have g:(H++[bO.box [C.f v] 0,bO.box [C.f FC.aJ] 0])[H.length]?=aa (.box [.f v] 0):=by simp
 have d:(H++[bO.box [C.f v] 0,bO.box [C.f FC.aJ] 0])[H.length+1]?=aa (.box [.f .aJ] 0):=by simp
 generalize H++[bO.box [C.f v] 0,bO.box [C.f FC.aJ] 0]=K at b g d ⊢;have y:cY K (.ptr (H.length+1) 0 0) [.f w]=aa (K.set (H.length+1) (.box [.f w] 0)):=by simp[cY,d,over]
 have j:aV K (aa 1) (.c (.ptr H.length 0 0))=aa (.a [.f v]):=by simp[aV,aA,g,aW]
 apply ai;simp[j,x K b,l,m,y,-ax,-bw];refine az (q _ _ _ rfl ?_ ⟨rfl,b.re ap _⟩);simp[Km.results,bu,aj d,aW]
theorem acg:bg tab abT [vi 0]=Eq (.c (.f (.fn Ag [.fp [fi 0] 0]))):=bg.eq (by
 refine bK rfl rfl λQ b=>?_;apply ai;simp;apply ai;simp;refine az (b _ _ ?_);simp[deep])
theorem Vg{H:an}{s b:FC}(h:bg tab vm [.a [.f s],vi 0]=Eq (.t [.a [.f b],vi 0])):∃r H',Ev tab (.fn Ag) [.a [.f s],.c (.f (.fp [fi 0] 0))] H r H'/\(r=.t [.a [.f b],vi 0]/\Kp H H'):=by
 refine de rfl rfl λQ m=>?_;apply ai;simp;have g:=Kp.push H [bO.box [C.f s] 0,bO.box [C.f FC.aJ] 0];have j:(H++[bO.box [C.f s] 0,bO.box [C.f FC.aJ] 0])[H.length]?=aa (.box [.f s] 0):=by simp
 have d:(H++[bO.box [C.f s] 0,bO.box [C.f FC.aJ] 0])[H.length+1]?=aa (.box [.f .aJ] 0):=by simp
 generalize H++[bO.box [C.f s] 0,bO.box [C.f FC.aJ] 0]=K at g j d ⊢;have q:cY K (.ptr (H.length+1) 0 0) [.f b]=aa (K.set (H.length+1) (.box [.f b] 0)):=by simp[cY,d,over]
 have l:aV K (aa 1) (.c (.ptr H.length 0 0))=aa (.a [.f s]):=by simp[aV,aA,j,aW]
 apply ai;simp[l,kD,h,q,-ax,-bw];refine az (m _ _ _ rfl ?_ ⟨rfl,g.re ap _⟩);simp[Km.results,bu,aj d,aW]
theorem acv{H:an}{b:Nat}{e v w:FC}(m:bg tab U6 [.a [.f .es,.f (fi 0),.f (fi 1),.f (.fs [fi 0] 1)]]=Eq (.a [.f e]))(q:bg tab Ic [.a [.f e],.a [.f v]]=Eq (.t [.a [.f w],vi 0]))(u:H[b]?=aa (.box [.f (fi 0),.f .es,.f (fi 0),.f (fi 1),.f (.fs [fi 0] 1)] 0)):∃r H',Ev tab (.fn PE) [.a [.f v],.c (.ptr b 0 0)] H r H'/\(r=.t [.a [.f w],vi 0]/\Kp H H'):=by
 refine de rfl rfl λQ s=>?_;have x:∀K:an,Kp H K->aV K (aa 4) (.c (.ptr b 1 0))=aa (.a [.f .es,.f (fi 0),.f (fi 1),.f (.fs [fi 0] 1)]):=λK d=>by simp[aV,aA,d.get u,aW]
 apply ai;simp;have d:=Kp.push H [bO.box [C.f v] 0,bO.box [C.f FC.aJ] 0];have j:(H++[bO.box [C.f v] 0,bO.box [C.f FC.aJ] 0])[H.length]?=aa (.box [.f v] 0):=by simp
 have g:(H++[bO.box [C.f v] 0,bO.box [C.f FC.aJ] 0])[H.length+1]?=aa (.box [.f .aJ] 0):=by simp
 generalize H++[bO.box [C.f v] 0,bO.box [C.f FC.aJ] 0]=K at d j g ⊢;have y:cY K (.ptr (H.length+1) 0 0) [.f w]=aa (K.set (H.length+1) (.box [.f w] 0)):=by simp[cY,g,over]
 have l:aV K (aa 1) (.c (.ptr H.length 0 0))=aa (.a [.f v]):=by simp[aV,aA,j,aW]
 apply ai;simp[l,x K d,m,q,y,-ax,-bw];refine az (s _ _ _ rfl ?_ ⟨rfl,d.re ap _⟩);simp[Km.results,bu,aj g,aW]
theorem Vk{H:an}{b:Nat}{u v w:FC}(q:H[b]?=aa (.box [.f u] 0))(h:bg tab vl [.a [.f u],.a [.f v]]=Eq (.t [.a [.f w],vi 0])):∃r H',Ev tab (.fn oM) [.a [.f v],.c (.ptr b 0 0)] H r H'/\(r=.t [.a [.f w],vi 0]/\Kp H H'):=by
 refine de rfl rfl λQ m=>?_;have s:∀K:an,Kp H K->aV K (aa 1) (.c (.ptr b 0 0))=aa (.a [.f u]):=λK d=>by simp[aV,aA,d.get q,aW]
 apply ai;simp;have d:=Kp.push H [bO.box [C.f v] 0,bO.box [C.f FC.aJ] 0];have j:(H++[bO.box [C.f v] 0,bO.box [C.f FC.aJ] 0])[H.length]?=aa (.box [.f v] 0):=by simp
 have g:(H++[bO.box [C.f v] 0,bO.box [C.f FC.aJ] 0])[H.length+1]?=aa (.box [.f .aJ] 0):=by simp
 generalize H++[bO.box [C.f v] 0,bO.box [C.f FC.aJ] 0]=K at d j g ⊢;have x:cY K (.ptr (H.length+1) 0 0) [.f w]=aa (K.set (H.length+1) (.box [.f w] 0)):=by simp[cY,g,over]
 have l:aV K (aa 1) (.c (.ptr H.length 0 0))=aa (.a [.f v]):=by simp[aV,aA,j,aW]
 apply ai;simp[l,s K d,h,x,-ax,-bw];refine az (m _ _ _ rfl ?_ ⟨rfl,d.re ap _⟩);simp[Km.results,bu,aj g,aW]
theorem y0{cs:List C}{k:Nat}{x:C}(h:cs[k]?=aa x):aW ab (cs.drop k)=aa (.c x):=by
 have b:=(OF.1 h).1;have e:=By b;rw[h]at e;rw[ags b,<-aiy e];rfl
theorem DG{H:an}{b:Nat}(cs:List C)(d:List FC)(e:d.length=cs.length+1)(c:cs.length<=100)(F:H[b]?=aa (.box cs 0))
  (step:∀(j:Nat) (J:j<cs.length) (K:an),Kp H K->∃f M r q,cr (.c cs[j]) [.a [.f (d[j]'(by omega))]]=aa (f,M)/\Ev tab f M K r q/\(r=.t [.a [.f (d[j+1]'(by omega))],vi 0]/\Kp K q)) :
  ∃r H',Ev tab (.fn PG) [.a [.f (d[0]'(by omega))],.c (.sl b 0 cs.length cs.length 0 1)] H r H'/\(r=.t [.a [.f (d[cs.length]'(by omega))],vi 0]/\Kp H H'):=by
 refine de rfl rfl λQ Y=>?_;have Z:=aj F;have k:∀K:an,Kp H K->∀j:Nat,(h:j<cs.length)->bG K 1 ab (.c (.sl b 0 cs.length cs.length 0 1)) (vi j)=aa (.c (.ptr b j 0))/\aV K ab (.c (.ptr b j 0))=aa (.c cs[j]):=λK x j h=>by
  have g:=x.get F;refine⟨?_,?_⟩
  .simp[bG,show fG (vi (j:Int))=aa (j:Int) from rfl,g,h]
  .rw[ax,g];exact y0 (By h)
 apply ai;simp;have x:=Kp.push H [bO.box [C.f (d[0]'(by omega))] 0,bO.box [C.f FC.aJ] 0];have U:(H++[bO.box [C.f (d[0]'(by omega))] 0,bO.box [C.f FC.aJ] 0])[H.length]?=aa (.box [.f (d[0]'(by omega))] 0):=by simp
 have W:(H++[bO.box [C.f (d[0]'(by omega))] 0,bO.box [C.f FC.aJ] 0])[H.length+1]?=aa (.box [.f .aJ] 0):=by simp
 generalize H++[bO.box [C.f (d[0]'(by omega))] 0,bO.box [C.f FC.aJ] 0]=X at x U W ⊢;apply au;apply ai;have len:∀K:an,Kp H K->bh K (.sl b 0 cs.length cs.length 0 1)=aa cs.length:=λK x=>by simp[bh,x.get F]
 simp[len X x];refine bS cs.length (λj t K=>t.g 1=.c (.sl b 0 cs.length cs.length 0 1)/\t.g 10=.c (.sl b 0 cs.length cs.length 0 1)/\t.g 2=.c (.ptr H.length 0 0)/\t.g 4=.c (.ptr (H.length+1) 0 0)/\Kp H K/\(∀h:j<d.length,K[H.length]?=aa (.box [.f d[j]] 0))/\K[H.length+1]?=aa (.box [.f .aJ] 0)) ap ce ce bv bv
  ⟨bv,bv,bv,bv,x,λ_=>U,W⟩ ?_ ?_
 .rintro j t K J ⟨N,s,z,B,A,m,E⟩ O g next
  obtain⟨i,n⟩:=k K A j J;have m:=m ap;obtain⟨f,as',r,q,a,I,rfl,u⟩:=step j J K A;have I:=I.eq;have L:aV K (aa 1) (.c (.ptr H.length 0 0))=aa (.a [.f (d[j]'(by omega))]):=by simp[aV,aA,m,aW]
  have S:=u.get m;have p:=u.get E;refine ay ?_;apply ai;simp[s,O,i,n,-ax];apply ai;simp[z,L,a,I,-ax];obtain⟨y,v⟩:=aI (q++[bO.box [.f (d[j+1]'(by omega))] 0]:an);have w:y[q.length]?=aa (.box [.f (d[j+1]'(by omega))] 0):=by rw[v];simp
  have l:Kp q y:=by rw[v];exact Kp.push _ _
  rw[<-v];apply au;apply ai;simp;refine bE bv ?_;have o:aV y (aa 1) (.c (.ptr q.length 0 0))=aa (.a [.f (d[j+1]'(by omega))]):=by simp[aV,aA,w,aW]
  have s2:cY y (.ptr H.length 0 0) [.f (d[j+1]'(by omega))]=aa (y.set H.length (.box [.f (d[j+1]'(by omega))] 0)):=by simp[cY,l.get S,over]
  refine aq (.inl rfl) ?_;simp[z,o,s2,-ax,-bw];refine av (next _ _ ⟨by simp[N],by simp[s],by simp[z],by simp[B],((A.tr u).tr l).re ap _,λ_=>BY (aj (l.get S)),?_⟩ (by simp[O]) (by simp[g]));rw[sh ap];exact l.get p
 .rintro t K ⟨N,s,z,B,A,m,E⟩ - -;have m:=m ap;have L:aV K (aa 1) (.c (.ptr H.length 0 0))=aa (.a [.f (d[cs.length]'(by omega))]):=by simp[aV,aA,m,aW]
  have sn:cY K (.ptr (H.length+1) 0 0) [.f (d[cs.length]'(by omega))]=aa (K.set (H.length+1) (.box [.f (d[cs.length]'(by omega))] 0)):=by simp[cY,E,over]
  apply ai;simp[z,B,L,sn,-ax,-bw];refine az (Y _ _ _ rfl ?_ ⟨rfl,A.re ap _⟩);simp[Km.results,bu,B,aj E,aW]
end Go.Proofs.YtelifakcllijpaaGreat
namespace Go.Proofs.YtelifakcllijpaaGreat
open Go Km
theorem vt(lo hi:Int)(cl:FC)(b le:Int):bg tab abU [.a ((mX lo hi cl).map .f),vi b,vi le]=Eq (.c (.f (.fn Ah [.fp (mX lo hi cl) 0,.fp [fi b] 0,.fp [fi le] 0]))):=bg.eq (by
 refine bK rfl rfl λQ d=>?_;apply ai;simp[mX];apply ai;simp;refine az (d _ _ ?_);simp[deep,mX])
theorem DP{bb:Nat}{H:an}(lo hi:Int)(cl:FC)(b le:Int)(f:0<=b)(m1:b<=1440)(i:0<=le)(k:le<=20000)(P:an->Prop)
  (M:¬ (lo<=b/\b+le<=hi)->∀K,Kp H K->P K) (c:lo<=b/\b+le<=hi->∀K,Kp H K->∃E,Ev tab (.yield bb) [.a [.f S1,.f (fi lo),.f (fi hi)]] K (vb ae) E/\P E) :
  ∃r H',Ev tab (.fn Ah) [.c (.yl bb),.c (.f (.fp (mX lo hi cl) 0)),.c (.f (.fp [fi b] 0)),.c (.f (.fp [fi le] 0))] H r H'/\(r=.t []/\P H'):=by
 refine de rfl rfl λQ a=>?_;have A:∀K:an,bh K (.f (rM lo hi))=aa 1:=λK=>rfl;have U:∀K:an,aV K ab (.c (.f (.fp (mX lo hi cl) 8)))=aa (.c (.f (rM lo hi))):=λK=>rfl;have u:∀K:an,aV K ab (.c (.f (.fp [fi b] 0)))=aa (vi b):=λK=>rfl;have s:∀K:an,aV K ab (.c (.f (.fp [fi le] 0)))=aa (vi le):=λK=>rfl;apply ai;simp[U,A];refine bS 1 (λj t K=>t.g 0=.c (.yl bb)/\t.g 2=.c (.f (.fp [fi b] 0))/\t.g 3=.c (.f (.fp [fi le] 0))/\t.g 8=.c (.f (rM lo hi))/\(j=0->Kp H K)/\(j=1->P K)) ap ce ce bv bv ⟨bv,bv,bv,bv,λ_=>⟨agn _,λ_ _=>rfl⟩,ap⟩ ?_ ?_
 .rintro j t K o ⟨d,g,l,x,I,-⟩ y L next
  obtain rfl:j=0:=by omega
  have I:=I rfl;have Y:bG K 3 ab (.c (.f (rM lo hi))) (vi ((0:Nat):Int))=aa (.c (.f (.fp [S1,fi lo,fi hi] 0))):=rfl;have e:aV K (aa 3) (.c (.f (.fp [S1,fi lo,fi hi] 0)))=aa (.a [.f S1,.f (fi lo),.f (fi hi)]):=rfl;refine ay ?_;apply ai;simp only[Int.ofNat_zero,Int.natCast_zero]at Y y;simp[x,y,Y,e];obtain⟨v,m⟩:=aI (K++[bO.box [.f S1,.f (fi lo),.f (fi hi)] 0]:an);have W:v[K.length]?=aa (.box [.f S1,.f (fi lo),.f (fi hi)] 0):=by rw[m];simp
  have z:Kp H v:=I.tr (by rw[m];exact Kp.push _ _);rw[<-m];have N:aV v ab (.c (.ptr K.length 1 0))=aa (vi lo):=by simp[aV,aA,W]
  have O:aV v ab (.c (.ptr K.length 2 0))=aa (vi hi):=by simp[aV,aA,W]
  have S:aV v (aa 3) (.c (.ptr K.length 0 0))=aa (.a [.f S1,.f (fi lo),.f (fi hi)]):=by simp[aV,aA,W,aW]
  apply au;refine aq (.inl rfl) ?_;by_cases B:lo<=b/\b+le<=hi
  .obtain⟨E,q,J⟩:=c B v z;have q:=q.eq;simp[d,g,l,N,O,S,u,s,f,aZ (n:=b+le),B,q,-ax];exact aD bv (aR (av (next _ _ ⟨by simp[d],by simp[g],by simp[l],by simp[x],ap,λ_=>J⟩ (by simp[y]) (by simp[L]))))
  .have X:=M B _ z;by_cases F:lo<=b
   .have Z:¬ b+le<=hi:=λh=>B ⟨F,h⟩;simp[d,g,l,N,O,S,u,s,aZ (n:=b+le),F,Z,-ax];exact aD bv (aR (av (next _ _ ⟨by simp[d],by simp[g],by simp[l],by simp[x],ap,λ_=>X⟩ (by simp[y]) (by simp[L]))))
   .simp[d,g,l,N,O,S,u,s,F,-ax];exact aD bv (aR (av (next _ _ ⟨by simp[d],by simp[g],by simp[l],by simp[x],ap,λ_=>X⟩ (by simp[y]) (by simp[L]))))
 .rintro t K ⟨d,g,l,x,-,J⟩ - -;exact cX (a _ _ _ rfl rfl ⟨rfl,J rfl⟩)
end Go.Proofs.YtelifakcllijpaaGreat
namespace Go.Proofs.YtelifakcllijpaaGreat
open Go Km
theorem wI{tab:TB}{fn i:Nat}{v:Option Nat}{k:List dU}{d:List gX}{Q:Option aE->St->Prop}{a b c x:Nat}{body:aE}{t:T}{H:an}(N:Nat)(I:Nat->T->List gX->an->Prop)(M:N<=9223372036854775807)(B:a≠b)(F:x≠b)
  (m:t.g a=vi 0) (q:t.g b=vi N) (K:I 0 t d H)
  (step:∀j t d H,j<N->I j t d H->t.g a=vi j->t.g b=vi N->
   (∀y g H',I (j+1) ((y.s x (vi (j+1:Nat))).s a (vi (j+1:Nat))) g H'->y.g a=vi j->y.g b=vi N->
    WP tab fn v (.code (nK a x)::.inLoop (fX i a b c x body)::.inBlock i::k) ⟨y,g,H'⟩ Q)->
   WP tab fn v (.code body::.code (nK a x)::.inLoop (fX i a b c x body)::.inBlock i::k) ⟨t.s c (vb ae),d,H⟩ Q)
  (done:∀t d H,I N t d H->t.g a=vi N->t.g b=vi N->WP tab fn v k ⟨t.s c (vb ag),d,H⟩ Q) :
  WP tab fn v (.code (wG i a b c x body)::k) ⟨t,d,H⟩ Q:=by
 have u:∀ops:List ba,ops.all (·.op.fJ)=ae->v=ab\/ops.all (·.op.fJ)=ae:=λ_ h=>.inr h;refine ay ?_;refine dc (λn s=>∃j t d H,s=⟨t,d,H⟩/\j<=N/\n=N-j/\I j t d H/\t.g a=vi j/\t.g b=vi N) N ⟨0,t,d,H,rfl,ap,ap,K,m,q⟩ ?_;rintro n s ⟨j,t,d,H,rfl,O,rfl,J,m,q⟩ L;apply au;refine aq (u _ rfl) ?_;simp[m,q];by_cases l:j<N
 .rw[decide_eq_true l];apply au;refine aw bv ?_;refine aR ?_;apply au;refine step j t d H l J m q λy g H' z A E=>?_;refine aq (u _ rfl) ?_;simp[A];rw[aZ];refine L (N-(j+1)) _ ap ⟨j+1,_,g,H',rfl,ap,rfl,by simpa using z,bv,?_⟩;simp[B,F,E]
 .have:j=N:=by omega
  subst this;rw[decide_eq_false l];apply au;refine aD bv ?_;refine bJ (k':=k) (by simp[Km.exitTo]) ?_;exact done t d H J m q
def dF(lo hi:Int)(w:FC)(b le:Int):FC:=if lo<=b/\b+le<=hi then w else .aJ
structure abr(lo hi:Int)(cl u w1 w2 w3 w4 w5 w6:FC):Prop where
 val:bg tab Ih [.a ((mX lo hi cl).map .f)]=Eq (vi 0)
 fin:bg tab Ai [.c (.f cl)]=Eq (.a [.f u])
 aeY:bg tab Ai [.c (.f .aJ)]=Eq (.a [.f .aJ])
 min:bg tab Db [.a [.f S1],.a [.f u]]=Eq (.t [.a [.f w1],vi 0])
 sh1:bg tab vm [.a [.f w1],vi 0]=Eq (.t [.a [.f w2],vi 0])
 and:bg tab Ic [.a [.f E1],.a [.f w2]]=Eq (.t [.a [.f w3],vi 0])
 sh2:bg tab vm [.a [.f w3],vi 0]=Eq (.t [.a [.f w4],vi 0])
 or1:bg tab vl [.a [.f .aJ],.a [.f w4]]=Eq (.t [.a [.f w5],vi 0])
 or2:bg tab vl [.a [.f w5],.a [.f .aJ]]=Eq (.t [.a [.f w6],vi 0])
 or0:bg tab vl [.a [.f .aJ],.a [.f .aJ]]=Eq (.t [.a [.f .aJ],vi 0])
theorem Se(m:Nat)(s:m<1440):bg tab Va [vi m]=Eq (.t [vi 0,vi m]):=by
 have g:=fF m 1440 ap ap ap;rw[show(m:Int) / 1440=0 by omega]at g;have j:bg tab U' [vi m,vi 1440]=Eq (.t [vi m,vi 0]):=bg.eq (by
  have q:cT .rem (vi m) (vi 1440)=aa (vi m):=by rw[gQ ap ce,show(m:Int) % 1440=m by omega]
  have l:cT .quo (vi m) (vi 1440)=aa (vi 0):=by rw[e9 ap ce ap,show(m:Int) / 1440=0 by omega]
  have d:bg tab PC [vi m,vi 1440]=Eq (vi m):=bg.eq (by
   refine bK rfl rfl λQ b=>?_
   repeat' first
    |(refine az (b _ _ ?_))
    |(apply au)
    |(refine ay ?_)
    |(refine aR ?_)
    |(refine aw ?_ ?_;focus (simp;done))
    |(refine aD ?_ ?_;focus (simp;done))
    |(refine aq (.inl rfl) ?_;simp[q,l])
   simp)
  refine bK rfl rfl λQ b=>?_
  repeat' first
   |(refine az (b _ _ ?_))
   |(apply au)
   |(refine ay ?_)
   |(refine aR ?_)
   |(refine aw ?_ ?_;focus (simp;done))
   |(refine aD ?_ ?_;focus (simp;done))
   |(refine aq (.inl rfl) ?_;simp[d])
  simp)
 refine bg.eq (bK rfl rfl λQ b=>?_)
 repeat' first
  |(refine az (b _ _ ?_))
  |(apply au)
  |(refine aq (.inl rfl) ?_;simp[g,j])
 simp
theorem Mr{lo hi:Int}{cl du m9 m_ n8 n9 s d:FC}(hD:abr lo hi cl du m9 m_ n8 n9 s d)(m:Nat)(hm2:m<=1430)(le:Int)(l0:1<=le)(l1:le<=10080):bg tab mL [.a ((mX lo hi cl).map .f),vi m,vi le]=Eq (.t [.a [.f (dF lo hi d m le)],vi 0]):=by
 obtain⟨v,rfl,hp⟩:∃v,v=.t [.a [.f (dF lo hi d m le)],vi 0]/\bg tab mL [.a ((mX lo hi cl).map .f),vi m,vi le] v:=by
  refine kH ab_ rfl λQ hQ=>?_;have r5:=Se m ap;have r6:=Kz 0 m ap ap ap ap;have r7:=hD.val;have n_:=hD.aeY;have q_:=hD.sh1;have p_:=hD.sh2;have o_:=hD.or1;have p9:=hD.or2;have j7:=hD.or0;have y7:=vt lo hi cl m le;simp only[zF,RV,agm,agp]at r6;have la:∀K:an,K[0]?=aa (.box ((mX lo hi cl).map .f) 0)->aV K (aa 10) (.c (.ptr 0 0 0))=aa (.a ((mX lo hi cl).map .f))/\aV K (aa 8) (.c (.ptr 0 0 0))=aa (.a (List.map C.f [fi 0,.fs [fi 7] 1,fi (-1),.aJ,fi 0,.aJ,fi 0,.aJ])):=λK h=>by refine⟨?_,?_⟩<;>simp[aV,aA,h,mX,aW]
  apply ai;simp;obtain⟨H0,X⟩:=aI ([.box ((mX lo hi cl).map .f) 0,.box [.f .aJ] 0,.box [.f (fi 0)] 0]:an);rw[<-X];have j_:H0.length=3:=by rw[X];rfl
  have z0:H0[0]?=aa (.box ((mX lo hi cl).map .f) 0):=by rw[X];rfl
  have z1:H0[1]?=aa (.box [.f .aJ] 0):=by rw[X];rfl
  have z2:H0[2]?=aa (.box [.f (fi 0)] 0):=by rw[X];rfl
  apply au;apply ai;simp[(la _ z0).1,r7,-ax,show¬ (m:Int) < -4320 by omega,show¬ (4320:Int)<m by omega,show¬ le<1 by omega,show¬ 10080<le by omega];refine bE bv ?_;apply ai;simp[r5];obtain⟨H2,d_⟩:=aI (H0++[bO.box [.f (fi 0)] 0]:an);have n2:H2.length=4:=by rw[d_];simp[j_]
  have k2:Kp H0 H2:=by rw[d_];exact Kp.push _ _
  rw[<-d_];have w3:H2[3]?=aa (.box [.f (fi 0)] 0):=by rw[d_];simp[<-j_]
  apply ai;simp[(la _ (k2.get z0)).2,r6,-ax,j_,n2];obtain⟨H3,e_⟩:=aI (H2++[bO.box [.f (fi 0)] 0]:an);have n3:H3.length=5:=by rw[e_];simp[n2]
  have k3:Kp H2 H3:=by rw[e_];exact Kp.push _ _
  have w4:H3[4]?=aa (.box [.f (fi 0)] 0):=by rw[e_];simp[<-n2]
  rw[<-e_];have s7:∀K:an,K[4]?=aa (.box [.f (fi 0)] 0)->aV K ab (.c (.ptr 4 0 0))=aa (vi 0):=λK h=>by simp[aV,aA,h]
  apply au;apply ai;simp[s7 _ w4,-ax];refine bE bv ?_;apply ai;simp[n3];apply ai;obtain⟨H4,Y⟩:=aI (H3++[bO.box [.f .aJ] 0,bO.box [.cl oM [.ptr 5 0 0]] 0]:an);have n4:H4.length=7:=by rw[Y];simp[n3]
  have k4:Kp H3 H4:=by rw[Y];exact Kp.push _ _
  have w5:H4[5]?=aa (.box [.f .aJ] 0):=by rw[Y];simp[<-n3]
  have w6:H4[6]?=aa (.box [.cl oM [.ptr 5 0 0]] 0):=by rw[Y,agj ap,n3];rfl
  simp[n3,sH];rw[<-Y];have y_:∀K:an,bh K (.f (.fs [fi 0,.es,fi 0,fi 1,.fs [fi 0] 1] 1))=aa 1:=λK=>rfl;apply au;apply ai;simp[y_];have j9:Kp H0 H4:=(k2.tr k3).tr k4;have u0:=j9.get z0;have u1:=j9.get z1;have u2:=j9.get z2;have u3:=(k3.tr k4).get w3;have u4:=k4.get w4;refine wI 1 (λj t ds K=>t.g 1=vi m/\t.g 2=vi le/\t.g 3=.c (.ptr 0 0 0)/\t.g 6=.c (.ptr 1 0 0)/\t.g 7=.c (.ptr 2 0 0)/\t.g 8=.c (.ptr 3 0 0)/\t.g 9=vi m/\t.g 11=.c (.ptr 4 0 0)/\t.g 12=.c (.ptr 5 0 0)/\t.g 13=.c (.ptr 6 0 0)/\t.g 59=.c (.f (.fs [fi 0,.es,fi 0,fi 1,.fs [fi 0] 1] 1))/\(j=0->ds=[]/\K=H4)/\(j=1->ds=[.dY 9]/\K[9]?=aa (.dQ ae)/\(∀i:Nat,i<7->i≠5->K[i]?=H4[i]?)/\K[5]?=aa (.box [.f (dF lo hi s m le)] 0))) ap ce ce bv bv
   ⟨bv,bv,bv,bv,bv,bv,bv,bv,bv,bv,bv,λ_=>⟨rfl,rfl⟩,ap⟩ ?_ ?_
  .rintro j t ds K hj ⟨g1,g2,g3,g6,g7,g8,g9,z,B,A,E,M,-⟩ ha hb next
   obtain rfl:j=0:=by omega
   obtain⟨rfl,rfl⟩:=M rfl;have ix:bG K 5 ab (.c (.f (.fs [fi 0,.es,fi 0,fi 1,.fs [fi 0] 1] 1))) (vi 0)=aa (.c (.f (.fp [fi 0,.es,fi 0,fi 1,.fs [fi 0] 1] 0))):=rfl;have ld:aV K (aa 5) (.c (.f (.fp [fi 0,.es,fi 0,fi 1,.fs [fi 0] 1] 0)))=aa (.a [.f (fi 0),.f .es,.f (fi 0),.f (fi 1),.f (.fs [fi 0] 1)]):=rfl;have i_:t.g 61=vi 0:=ha;refine ay ?_;apply ai;simp[E,i_,ix,ld,n4];obtain⟨H5,f_⟩:=aI (K++[bO.box [.f (fi 0),.f .es,.f (fi 0),.f (fi 1),.f (.fs [fi 0] 1)] 0]:an);have n5:H5.length=8:=by rw[f_];simp[n4]
   have k5:Kp K H5:=by rw[f_];exact Kp.push _ _
   have w7:H5[7]?=aa (.box [.f (fi 0),.f .es,.f (fi 0),.f (fi 1),.f (.fs [fi 0] 1)] 0):=by rw[f_];simp[<-n4]
   rw[<-f_];have l7:aV H5 ab (.c (.ptr 7 0 0))=aa (vi 0):=by simp[aV,aA,w7]
   apply ai;simp[g9,l7,-ax,aZ (n:=(m:Int)),r5,n5];obtain⟨N,g_⟩:=aI (H5++[bO.box [.f (fi 0)] 0]:an);have n6:N.length=9:=by rw[g_];simp[n5]
   have k6:Kp H5 N:=by rw[g_];exact Kp.push _ _
   have w8:N[8]?=aa (.box [.f (fi 0)] 0):=by rw[g_];simp[<-n5]
   rw[<-g_];have r_:=k5.tr k6;apply ai;simp[g2,g3,(la _ (r_.get u0)).1,y7,-ax];refine ay ?_
   suffices go:∀u:T,u.g 1=vi m->u.g 2=vi le->u.g 3=.c (.ptr 0 0 0)->u.g 6=.c (.ptr 1 0 0)->u.g 7=.c (.ptr 2 0 0)->u.g 8=.c (.ptr 3 0 0)->u.g 9=vi m->u.g 11=.c (.ptr 4 0 0)->u.g 12=.c (.ptr 5 0 0)->u.g 13=.c (.ptr 6 0 0)->u.g 59=.c (.f (.fs [fi 0,.es,fi 0,fi 1,.fs [fi 0] 1] 1))->u.g 61=vi 0->u.g 60=vi 1->u.g 15=.c (.ptr 7 0 0)->u.g 16=.c (.ptr 8 0 0)->u.g 76=.c (.f (.fn Ah [.fp (mX lo hi cl) 0,.fp [fi m] 0,.fp [fi le] 0]))->
     WP tab mL ab [.code OP,.inBlock 2,.inBlock 1,.code (nK 61 98),.inLoop (fX 0 61 60 62 98 OO),.inBlock 0,.code OS] ⟨u,[],N⟩ Q by
    exact go _ (by simp[g1]) (by simp[g2]) (by simp[g3]) (by simp[g6]) (by simp[g7]) (by simp[g8]) (by simp[g9]) (by simp[z]) (by simp[B]) (by simp[A]) (by simp[E]) (by simp[i_]) (by simpa using hb) bv bv bv
   clear g1 g2 g3 g6 g7 g8 g9 z B A E ha hb i_ M;intro u g1 g2 g3 g6 g7 g8 g9 z B A E x6 w_ u_ v_ x8;obtain⟨LP,h_⟩:∃LP:dt->Option aE->bO,LP=λst pd=>.lp mL u [P.nat 77] mb mc st pd 9:=⟨_,rfl⟩
   obtain⟨W,hW⟩:=aI (N++[.dQ ae,LP .ready ab]);have nW:W.length=11:=by rw[hW,aft,n6];rfl
   have kW:Kp N W:=by rw[hW];exact Kp.push _ _
   have q9:W[9]?=aa (.dQ ae):=by rw[hW,agj ap,n6];rfl
   have k_:W[10]?=aa (LP .ready ab):=by rw[hW,agj ap,n6];rfl
   have J:=r_.tr kW;have p0:=J.get u0;have p3:=J.get u3;have p4:=J.get u4;have p5:=J.get w5;have p6:=J.get w6;have p7:=(k6.tr kW).get w7;have p8:=kW.get w8;obtain⟨PP,i9⟩:∃PP:an->Prop,PP=λK=>11<=K.length/\(∀i:Nat,i<11->i≠5->K[i]?=W[i]?)/\K[5]?=aa (.box [.f (dF lo hi s m le)] 0):=⟨_,rfl⟩
   obtain⟨r,H7,he,rfl,hP⟩:=DP (bb:=10) (H:=W) lo hi cl m le ap ap ap ap PP
    (λz7 K M=>by
     rw[i9];refine⟨by have:=M.1;omega,λi hi _=>M.2 i ap,?_⟩;rw[M.get p5,dF,ct z7])
    (λhf K M=>by
     have i6:=M.get k_;rw[h_]at i6;obtain⟨r,K',y8,rfl,hP⟩:∃r K',Ev tab (.yield 10) [.a [.f S1,.f (fi lo),.f (fi hi)]] K r K'/\(r=vb ae/\PP K'):=by
      refine dw (tab:=tab) (b:=10) (args:=[.a [.f S1,.f (fi lo),.f (fi hi)]]) (H:=K) i6 rfl λQ' x9=>?_;obtain⟨d9,a_⟩:=aI (K.length);have hKl:=M.1;refine aq (.inr rfl) ?_;simp;rw[<-a_];obtain⟨K1,x⟩:=aI (K++[bO.box [.f S1,.f (fi lo),.f (fi hi)] 0]);rw[<-x];have I:Kp K K1:=by rw[x];exact Kp.push _ _
      have t8:K1[d9]?=aa (.box [.f S1,.f (fi lo),.f (fi hi)] 0):=by rw[x,a_];simp
      refine fP (I.get i6) ?_;obtain⟨l,Z⟩:=aI (K1.set 10 (.lp mL u [P.nat 77] mb mc .busy ab 9));rw[<-Z];have e2:∀i:Nat,i<W.length->i≠10->l[i]?=W[i]?:=λi hi j6=>by rw[Z,sh (Ne.symm j6),I.2 i ap,M.2 i hi]
      have t_:l[10]?=aa (.lp mL u [P.nat 77] mb mc .busy ab 9):=by rw[Z];exact BY (aj (I.get i6))
      have u9:l[d9]?=aa (.box [.f S1,.f (fi lo),.f (fi hi)] 0):=by rw[Z,sh ap];exact t8
      have n2':l.length=d9+1:=by rw[Z,agx,x,a_];simp
      have v:∀{i:Nat} {y:bO},W[i]?=aa y->i≠10->l[i]?=aa y:=λh j6=>by rw[e2 _ (aj h) j6];exact h
      have r18:aV l (aa 1) (.c (.ptr d9 0 0))=aa (.a [.f S1]):=by simp[aV,aA,u9,aW]
      have r16:aV l ab (.c (.ptr 8 0 0))=aa (vi 0):=by simp[aV,aA,v p8 ap]
      have r8:aV l ab (.c (.ptr 3 0 0))=aa (vi 0):=by simp[aV,aA,v p3 ap]
      have r13:aV l ab (.c (.ptr 6 0 0))=aa (.c (.cl oM [.ptr 5 0 0])):=by simp[aV,aA,v p6 ap]
      have c_:SF .neg (vi 0)=aa (vi 0):=rfl;have x_:=acg;obtain⟨cs,b_⟩:=aI ([.cl PD [.ptr 0 0 0],.f (.fn Ag [.fp [fi 0] 0]),.cl PE [.ptr 7 0 0],.f (.fn Ag [.fp [fi 0] 0]),.cl oM [.ptr 5 0 0]]:List C);obtain⟨K3,i8⟩:=aI (l++[bO.box cs 0]);have r9:Kp l K3:=by rw[i8];exact Kp.push _ _
      have c3:K3[l.length]?=aa (.box cs 0):=by rw[i8];simp
      obtain⟨r,K4,q,rfl,kK4⟩:=DG (H:=K3) (b:=l.length) cs [S1,m9,m_,n8,n9,s] (by rw[b_];rfl) (by rw[b_];decide) c3 (λj hj L hL=>by
       have kL:=r9.tr hL;subst b_
       match j,hj with
       |0,_=>obtain⟨r,O,S,U⟩:=acu (kL.get (v p0 ap)) hD.fin hD.min;exact⟨.fn PD,_,r,O,rfl,S,U⟩
       |1,_=>obtain⟨r,O,S,U⟩:=Vg (H:=L) q_;exact⟨.fn Ag,_,r,O,rfl,S,U⟩
       |2,_=>obtain⟨r,O,S,U⟩:=acv Zd hD.and (kL.get (v p7 ap));exact⟨.fn PE,_,r,O,rfl,S,U⟩
       |3,_=>obtain⟨r,O,S,U⟩:=Vg (H:=L) p_;exact⟨.fn Ag,_,r,O,rfl,S,U⟩
       |4,_=>obtain⟨r,O,S,U⟩:=Vk (kL.get (v p5 ap)) o_;exact⟨.fn oM,_,r,O,rfl,S,U⟩)
      have q:Ev tab (.fn PG) [.a [.f S1],.c (.sl l.length 0 5 5 0 1)] K3 (.t [.a [.f s],vi 0]) K4:=by
       subst b_;exact q
      have q:=q.eq;have c9:=r9.tr kK4;have x5:=c9.get (v p5 ap);have x4:=c9.get (v p4 ap);obtain⟨K5,F⟩:=aI (K4.set 5 (.box [.f s] 0));have st5:cY K4 (.ptr 5 0 0) [.f s]=aa K5:=by rw[F];simp[cY,x5,over]
      have l_:K5[4]?=aa (.box [.f (fi 0)] 0):=by rw[F,sh ap];exact x4
      have st4:cY K5 (.ptr 4 0 0) [.f (fi 0)]=aa K5:=by
       simp[cY,l_,over];obtain⟨j5,e⟩:=OF.1 l_;rw[<-e];exact List.set_getElem_self j5
      have s_:K5[10]?=aa (.lp mL u [P.nat 77] mb mc .busy ab 9):=by rw[F,sh ap];exact c9.get t_
      refine ay ?_;refine au (aq (.inr rfl) ?_);simp[g3,u_,v_,g8,A,r18,r16,r8,r13,c_,x_,sH,-ax];rw[<-b_,<-i8];simp[B,z,q,st5,st4,-bw];refine au (aq (.inr rfl) ?_);simp[z,s7 _ l_,-ax];refine aD bv (aR (av (cX (x9 _ _ _ _ _ _ _ _ _ _ rfl s_ ⟨rfl,?_⟩))));rw[i9];have l24:=c9.1;refine⟨?_,λi hi h5=>?_,?_⟩
      .rw[agx,F,agx];omega
      .by_cases e:i=10
       .subst e;rw[BY (aj s_),k_,h_];rfl
       .rw[sh (Ne.symm e),F,sh (Ne.symm h5),c9.2 i ap,e2 i ap e]
      .rw[sh ap,F,BY (aj x5),dF,bZ hf]
     exact⟨K',y8,hP⟩)
   rw[i9]at hP;obtain⟨nP,eP,vP⟩:=hP;have y6:Ev tab (.fn Ah) [.c (.yl (N.length+1)),.c (.f (.fp (mX lo hi cl) 0)),.c (.f (.fp [fi m] 0)),.c (.f (.fp [fi le] 0))] (N++[.dQ ae,.lp mL u [P.nat 77] mb mc .ready ab N.length]) (.t []) H7:=by
    have e:N++[.dQ ae,.lp mL u [P.nat 77] mb mc .ready ab N.length]=W:=by rw[hW,h_,n6]
    rw[e,n6];exact he
   refine dK (g:=Ah) (by rw[oi,x8];simp[cr]) y6 ?_;rw[n6];have z10:H7[10]?=aa (.lp mL u [P.nat 77] mb mc .ready ab 9):=by rw[eP 10 ap ap,k_,h_]
   refine ew z10 ce ?_;refine av (av (next _ _ _ ⟨by simp[g1],by simp[g2],by simp[g3],by simp[g6],by simp[g7],by simp[g8],by simp[g9],by simp[z],by simp[B],by simp[A],by simp[E],ap,λ_=>⟨rfl,?_,λi hi h5=>?_,?_⟩⟩ (by simpa using x6) (by simpa using w_)))
   .rw[sh ap,eP 9 ap ap];exact q9
   .rw[sh ap,eP i ap h5,J.2 i ap]
   .rw[sh ap];exact vP
  .rintro t ds K ⟨g1,g2,g3,g6,g7,g8,g9,z,B,A,E,-,M⟩ - -;obtain⟨rfl,q9,eK,v5⟩:=M rfl;have p1:K[1]?=aa (.box [.f .aJ] 0):=by rw[eK 1 ap ap];exact u1
   have p2:K[2]?=aa (.box [.f (fi 0)] 0):=by rw[eK 2 ap ap];exact u2
   have p3:K[3]?=aa (.box [.f (fi 0)] 0):=by rw[eK 3 ap ap];exact u3
   have p6:K[6]?=aa (.box [.cl oM [.ptr 5 0 0]] 0):=by rw[eK 6 ap ap];exact w6
   have l3:aV K ab (.c (.ptr 3 0 0))=aa (vi 0):=by simp[aV,aA,p3]
   have l6:aV K ab (.c (.ptr 6 0 0))=aa (.c (.cl oM [.ptr 5 0 0])):=by simp[aV,aA,p6]
   have c_:SF .neg (vi 0)=aa (vi 0):=rfl;apply ai;simp;apply au;apply ai;simp[g8,l3,c_,-ax];refine ay (QY ?_);apply ai;simp;refine au (aD bv ?_);refine bJ (k':=[.code OT]) rfl ?_;obtain⟨K1,x⟩:=aI (K++[bO.box [.cl oM [.ptr 5 0 0]] 0]:an);have I:Kp K K1:=by rw[x];exact Kp.push _ _
   have c1:K1[K.length]?=aa (.box [.cl oM [.ptr 5 0 0]] 0):=by rw[x];simp
   have z8:bg tab vl [.a [.f (dF lo hi s m le)],.a [.f .aJ]]=Eq (.t [.a [.f (dF lo hi d m le)],vi 0]):=by
    unfold dF;split
    .exact p9
    .exact j7
   obtain⟨r,l,q,rfl,z_⟩:=DG (H:=K1) (b:=K.length) [.cl oM [.ptr 5 0 0]] [.aJ,dF lo hi d m le] rfl ce c1 (λj hj L hL=>by
    match j,hj with
    |0,_=>obtain⟨r,O,S,U⟩:=Vk ((I.tr hL).get v5) z8;exact⟨.fn oM,_,r,O,rfl,S,U⟩)
   have q:Ev tab (.fn PG) [.a [.f .aJ],.c (.sl K.length 0 1 1 0 1)] K1 (.t [.a [.f (dF lo hi d m le)],vi 0]) l:=q;have q:=q.eq;have j8:=I.tr z_;have y1:=j8.get p1;have y2:=j8.get p2;have y9:=j8.get q9;have s1:cY l (.ptr 1 0 0) [.f (dF lo hi d m le)]=aa (l.set 1 (.box [.f (dF lo hi d m le)] 0)):=by simp[cY,y1,over]
   have i7:(l.set 1 (.box [.f (dF lo hi d m le)] 0))[2]?=aa (.box [.f (fi 0)] 0):=by rw[sh ap];exact y2
   have s2:cY (l.set 1 (.box [.f (dF lo hi d m le)] 0)) (.ptr 2 0 0) [.f (fi 0)]=aa (l.set 1 (.box [.f (dF lo hi d m le)] 0)):=by
    simp[cY,i7,over];obtain⟨j5,e⟩:=OF.1 i7;rw[<-e];exact List.set_getElem_self j5
   have t6:(l.set 1 (.box [.f (dF lo hi d m le)] 0))[1]?=aa (.box [.f (dF lo hi d m le)] 0):=BY (aj y1);have t7:(l.set 1 (.box [.f (dF lo hi d m le)] 0))[9]?=aa (.dQ ae):=by rw[sh ap];exact y9
   apply ai;simp[A,l6,n_,<-x,q,g6,g7,s1,s2,-ax,-bw];generalize l.set 1 (.box [.f (dF lo hi d m le)] 0)=K3 at t6 i7 t7 ⊢;have a1:(K3.set 9 (.dQ ag))[1]?=aa (.box [.f (dF lo hi d m le)] 0):=by rw[sh ap];exact t6
   have a2:(K3.set 9 (.dQ ag))[2]?=aa (.box [.f (fi 0)] 0):=by rw[sh ap];exact i7
   refine az (hQ _ _ _ rfl (.inr ⟨9,rfl,t7,.t [.a [.f (dF lo hi d m le)],vi 0],?_,by simp[jh,dq,bu]⟩));simp[Km.results,bu,g6,g7,a1,a2,aW]
 exact hp.eq
end Go.Proofs.YtelifakcllijpaaGreat
namespace Go.Proofs.YtelifakcllijpaaGreat
open Go Km
theorem Hk(g:Tg)(l:List Int)(limit:Int)(N:l.length<=9223372036854775807):Kf tab Fp [.c (.f (sl g (ints l))),vi limit] (vb (cH limit (-1) l)):=by
 refine dh rfl rfl λH Q z=>?_;have bad:cH limit (-1) l=ag->∀(t:T) k,WP tab Fp ab (.code (.region [⟨D 4,.iV (.k (.c (.f (.bool ag)))),ab⟩] [])::.code .ret::k) ⟨t,[],H⟩ Q:=by
  intro M t k;refine aq (.inl rfl) ?_;simp;refine az (z _ _ ?_);simp[M]
 apply ai;simp;apply au;apply ai;simp;refine jy l.length (λj t H'=>t.g 0=.c (.f (sl g (ints l)))/\t.g 1=vi limit/\H=H'/\∃last,-1<=last/\(∀m,j=m+1->∀h:m<l.length,last=(l[m]'h))/\(j=0->last = -1)/\cH limit (-1) l=cH limit last (l.drop j)) N rfl bv
  ⟨bv,bv,rfl,-1,ap,ap,bv,bv⟩ ?_ ?_ ?_
 .rintro j t _ L x ⟨q,u,rfl,h⟩ d K;simp[d,q];exact K _ ⟨by simp[q],by simp[u],rfl,h⟩ (by simp[d]) bv
 .rintro j t _ x ⟨q,u,rfl,last,S,F,I,s⟩ d next
  rw[tB x]at s;refine ay ?_;apply ai;simp[q,u,d,bz,x,dZ];by_cases A:l[j]<0
  .simp[A];refine aw bv (au (bad ?_ _ _));rw[s,decide_eq_false (show¬ last<l[j] by omega)];rfl
  simp[A,q,u,d,bz,x,dZ];by_cases B:limit<=l[j]
  .simp[B];refine aw bv (au (bad ?_ _ _));rw[s,decide_eq_false (show¬ l[j]<limit by omega)];simp
  simp[B,d];have go:last<l[j]->∃b,-1<=b/\(∀m,j+1=m+1->∀h:m<l.length,b=(l[m]'h))/\(j+1=0->b = -1)/\cH limit (-1) l=cH limit b (l.drop (j+1)):=by
   intro h;rw[decide_eq_true h,decide_eq_true (show l[j]<limit by omega),ahh,ahh]at s;refine⟨l[j],ap,λm y h=>?_,ap,s⟩;have:m=j:=by omega
   subst this;rfl
  cases j with
  |zero=>
   simp;refine aD bv ?_;refine aR (av (next _ _ ?_ (by simp[d])));exact⟨by simp[q],by simp[u],rfl,go (by have:=I rfl;omega)⟩
  |succ m=>
   have y:m<l.length:=by omega
   have O:=F m rfl y;have J:((m+1:Nat):Int)-1=m:=by omega
   have v:∀H:an,bG H 1 ab (.c (.f (sl g (ints l)))) (vi ((m:Int)+1))=aa (.c (.f (.fp (ints l).flatten (m+1)))):=λH=>by
    have:=bz (H:=H) (g:=g) (rows:=ints l) (sz:=1) (k:=.i64) (i:=(m:Int)+1) ap ge;rwa[show((m:Int)+1).toNat=m+1 by omega,Nat.mul_one]at this
   simp[show 0<m+1 by omega,v,q,d,J,aZ (n:=(m:Int)),bz,x,y,dZ];by_cases E:l[m+1]<=l[m]
   .simp[E];refine aw bv (au (bad ?_ _ _));rw[s,decide_eq_false (show¬ last<l[m+1] by omega)];rfl
   .simp[E];refine aD bv ?_;refine aR (av (next _ _ ?_ (by simp[d])));exact⟨by simp[q],by simp[u],rfl,go ap⟩
 .rintro t _ ⟨q,u,rfl,last,S,F,I,s⟩ d;apply ai;simp;refine az (z _ _ ?_);simp[s,cH]
theorem yN(g:Tg)(l:List Int)(limit:Int)(b:l.length<=9223372036854775807) :
  bg tab Fp [.c (.f (sl g (ints l))),vi limit]=Eq (vb (cH limit (-1) l)):=(Hk g l limit b).eq
theorem Uz(p:aO)(h:p.head.length+p.bF.length<=9223372036854775807):Kf tab O3 [.a (p.row.map .f)] (vb (cI p)):=by
 refine dh rfl rfl λH Q b=>?_;have bad:cI p=ag->∀(t:T) (J:an) k,WP tab O3 ab (.code (.region [⟨D 2,.iV (.k (.c (.f (.bool ag)))),ab⟩] [])::.code .ret::k) ⟨t,[],H++J⟩ Q:=by
  intro x t J k;refine aq (.inl rfl) ?_;simp;refine az (b _ _ ?_);simp[x]
 apply ai;simp[aO.row];apply au;apply ai;simp;by_cases g:p.fr<0
 .simp[g];exact aw bv (au (bad (by simp[cI,show¬ 0<=p.fr by omega]) _ _ _))
 simp[g];by_cases j:1099511627776<p.fr
 .simp[j];exact aw bv (au (bad (by simp[cI,show¬ p.fr<=1099511627776 by omega]) _ _ _))
 simp[j];by_cases l:p.aT<1
 .simp[l];exact aw bv (au (bad (by simp[cI,show¬ 1<=p.aT by omega]) _ _ _))
 simp[l];by_cases m:1099511627776<p.aT
 .simp[m];exact aw bv (au (bad (by simp[cI,show¬ p.aT<=1099511627776 by omega]) _ _ _))
 simp[m];refine bE bv ?_;apply au;apply ai;simp;by_cases q:(1048576:Int)<p.head.length
 .simp[q];exact aw bv (au (bad (by simp[cI,show¬ (p.head.length:Int)+p.bF.length<=1048576 by omega]) _ _ _))
 simp[q];by_cases s:(1048576:Int)<p.bF.length
 .simp[s];exact aw bv (au (bad (by simp[cI,show¬ (p.head.length:Int)+p.bF.length<=1048576 by omega]) _ _ _))
 simp[s,aZ (n:=(p.head.length:Int)+p.bF.length)];by_cases u:(1048576:Int)<p.head.length+p.bF.length
 .simp[u];exact aw bv (au (bad (by simp[cI,show¬ (p.head.length:Int)+p.bF.length<=1048576 by omega]) _ _ _))
 simp[u];refine bE bv ?_;apply ai;simp[yN p.hg p.head p.fr ap];have d:cI p=(cH p.fr (-1) p.head&&cH p.aT (-1) p.bF):=by
  simp[cI,show 0<=p.fr by omega,show p.fr<=1099511627776 by omega,show 1<=p.aT by omega,show p.aT<=1099511627776 by omega,show(p.head.length:Int)+p.bF.length<=1048576 by omega]
 cases v:cH p.fr (-1) p.head
 .simp;refine az (b _ _ ?_);simp[d,v]
 simp[yN p.cg p.bF p.aT ap];refine az (b _ _ ?_);simp[d,v]
theorem Qx(p:aO)(g:p.head.length+p.bF.length<=9223372036854775807):bg tab Xf [.a (p.row.map .f)]=Eq (vb (cI p&&decide ((p.head.length:Int)+p.bF.length=0))):=by
 refine Kf.eq (dh rfl rfl λH Q b=>?_);have d:=(Uz p g).eq;simp[aO.row]at d;apply ai;simp[aO.row];apply ai;simp[d];cases k:cI p
 .simp;refine az (b _ _ ?_);simp[k]
 simp[aZ (n:=(p.head.length:Int)+p.bF.length)];refine az (b _ _ ?_);simp[k]
end Go.Proofs.YtelifakcllijpaaGreat
namespace Go.Proofs.YtelifakcllijpaaGreat
open Go Km
def wB:Option Nat->FC
 |none=>.aJ| some c=>.fs [fi c] 1
theorem uG(H:an)(cs:List FC)(i n:Nat):aV H (aa n) (.c (.f (.fp cs i)))=aW (aa n) ((cs.drop i).map .f):=by rw[kD]
theorem Dm:jG 12 vT:=⟨ce,ce,ce,ce⟩
theorem Dl(d:Int)(b:0<=d):bA vT d=ae:=by
 have g:(d-0) % 1=0:=by omega
 simp[bA,vT,b]
theorem DV:bg tab Ai [.c (.f .aJ)]=Eq (.a [.f .aJ]):=bg.eq (aY (m:=300) (d:=60) (by kernel_rfl))
def QF(c:Nat):aO:=⟨.fs,[(c:Int)],c+1,1,.nil,[]⟩
theorem QM(c:Nat)(b:c<20):bg tab Ai [.c (.f (.fs [fi c] 1))]=Eq (.a [.f (sl .fs (aX [[QF c]]))]):=by
 match c,b with
 |0,_=>exact bg.eq (aY (m:=300) (d:=60) (by kernel_rfl))
 |1,_=>exact bg.eq (aY (m:=300) (d:=60) (by kernel_rfl))
 |2,_=>exact bg.eq (aY (m:=300) (d:=60) (by kernel_rfl))
 |3,_=>exact bg.eq (aY (m:=300) (d:=60) (by kernel_rfl))
 |4,_=>exact bg.eq (aY (m:=300) (d:=60) (by kernel_rfl))
 |5,_=>exact bg.eq (aY (m:=300) (d:=60) (by kernel_rfl))
 |6,_=>exact bg.eq (aY (m:=300) (d:=60) (by kernel_rfl))
 |7,_=>exact bg.eq (aY (m:=300) (d:=60) (by kernel_rfl))
 |8,_=>exact bg.eq (aY (m:=300) (d:=60) (by kernel_rfl))
 |9,_=>exact bg.eq (aY (m:=300) (d:=60) (by kernel_rfl))
 |10,_=>exact bg.eq (aY (m:=300) (d:=60) (by kernel_rfl))
 |11,_=>exact bg.eq (aY (m:=300) (d:=60) (by kernel_rfl))
 |12,_=>exact bg.eq (aY (m:=300) (d:=60) (by kernel_rfl))
 |13,_=>exact bg.eq (aY (m:=300) (d:=60) (by kernel_rfl))
 |14,_=>exact bg.eq (aY (m:=300) (d:=60) (by kernel_rfl))
 |15,_=>exact bg.eq (aY (m:=300) (d:=60) (by kernel_rfl))
 |16,_=>exact bg.eq (aY (m:=300) (d:=60) (by kernel_rfl))
 |17,_=>exact bg.eq (aY (m:=300) (d:=60) (by kernel_rfl))
 |18,_=>exact bg.eq (aY (m:=300) (d:=60) (by kernel_rfl))
 |19,_=>exact bg.eq (aY (m:=300) (d:=60) (by kernel_rfl))
 |n+20,h=>exact absurd h ap
theorem QJ(c:Nat)(b:c<20):jG 12 (QF c):=by
 match c,b with
 |0,_|1,_|2,_|3,_|4,_|5,_|6,_|7,_|8,_|9,_|10,_|11,_|12,_|13,_|14,_|15,_|16,_|17,_|18,_|19,_=>exact⟨ce,ce,ce,ce⟩
 |n+20,h=>exact absurd h ap
theorem QG(c:Nat)(d:Int):bA (QF c) d=ae↔d=c:=by
 unfold bA QF;by_cases h:((c:Int)+1)<=d
 .simp[h];omega
 .simp[h]
def clT:Option Nat->Tg
 |none=>.nil| some _=>.fs
def vV:Option Nat->List (List aO)
 |none=>[]| some c=>[[QF c]]
theorem YN(cl:Option Nat)(b:∀c,cl=aa c->c<20):bg tab Ai [.c (.f (wB cl))]=Eq (.a [.f (sl (clT cl) (aX (vV cl)))]):=by
 cases cl with
 |none=>exact DV| some c=>exact QM c (b c rfl)
theorem QL(cl:Option Nat)(g:∀c,cl=aa c->c<20):ib 12 1 1 (vV cl):=by
 cases cl with
 |none=>exact⟨by simp[vV],by simp[vV]⟩
 |some c=>exact⟨by simp[vV],λu d=>by
   simp only[vV,If]at d;subst d;exact⟨bv,bv,λp b=>by simp only[If]at b;subst b;exact QJ c (g c rfl)⟩⟩
theorem QK(cl:Option Nat)(d:Int):cM (vV cl) d↔∃c:Nat,cl=aa c/\d=c:=by
 cases cl with
 |none=>simp[cM,vV]| some c=>simp[cM,vV,dX,QG]
theorem I4(lo hi:Int)(g:0<=lo)(j:lo<hi)(l:hi<=1440)(cl:Option Nat)(q:∀c,cl=aa c->c<20):bg tab Ih [.a ((mX lo hi (wB cl)).map .f)]=Eq (vi 0):=by
 have d:=Hw 0 ce ce;have b:=lL (Nb:=12) .fs (us:=[[vT]]) ⟨bv,λu v=>by
   simp only[If]at v;subst v;exact⟨bv,bv,λp s=>by simp only[If]at s;subst s;exact Dm⟩⟩
 simp only[zF,agm,agp]at d;change bg tab Dc [.a [.f S1]]=_ at b;have x:IntKind.i64.wrap 1=1:=by decide
 refine bg.eq (bK rfl rfl λQ m=>?_);cases cl with
 |none=>
  repeat' first
   |(refine az (m _ _ ?_))
   |(apply au)
   |(refine ay ?_)
   |(refine eG ?_)
   |(refine eR ?_)
   |(refine av ?_)
   |(refine aR ?_)
   |(refine bJ rfl ?_)
   |(refine aw ?_ ?_;focus (simp;done))
   |(refine aD ?_ ?_;focus (simp;done))
   |(refine aq (.inl rfl) ?_;simp[mX,rM,wB,d,b,g,j,l,bh,bG,fG,x,ig,uG,show¬ lo<0 by omega,show¬ hi<=lo by omega,show¬ 1440<hi by omega])
  simp
 |some c=>
  have q:=q c rfl
  repeat' first
   |(refine az (m _ _ ?_))
   |(apply au)
   |(refine ay ?_)
   |(refine eG ?_)
   |(refine eR ?_)
   |(refine av ?_)
   |(refine aR ?_)
   |(refine bJ rfl ?_)
   |(refine aw ?_ ?_;focus (simp;done))
   |(refine aD ?_ ?_;focus (simp;done))
   |(refine aq (.inl rfl) ?_;simp[mX,rM,wB,d,b,g,j,l,bh,bG,fG,x,ig,uG,show¬ lo<0 by omega,show¬ hi<=lo by omega,show¬ 1440<hi by omega,show¬ ((c:Int)<=-1) by omega,show¬ ((1099511627776:Int)<=c) by omega])
  simp
theorem R5{Nb:Int}{m n:Nat}(q:1<=m)(E:m<=4)(F:n<=64)(g:Tg)(us:List (List aO))(h:ib Nb m n us):∃j g',ib Nb m n j/\(∀d,0<=d->(cM j d↔cM us d))/\bg tab vm [.a [.f (sl g (aX us))],vi 0]=Eq (.t [.a [.f (sl g' (aX j))],vi 0]):=by
 obtain⟨j,g',⟨y,z⟩,A,x⟩:=G6 q E F g (us.map λs=>⟨.fs,s⟩) ⟨by simpa using h.1,λt v=>by obtain⟨u,b,rfl⟩:=agt.1 v;exact h.2 u b⟩ 0 ce ce;rw[Vj]at x;refine⟨j,g',⟨agK y (by simpa using h.1),z⟩,λd B=>?_,x⟩;rw[A d B];constructor
 .rintro⟨t,v,l⟩;obtain⟨u,b,rfl⟩:=agt.1 v;exact⟨u,b,by simpa using l⟩
 .rintro⟨u,b,l⟩;exact⟨⟨.fs,u⟩,agt.2 ⟨u,b,rfl⟩,by simpa using l⟩
theorem or_nil:bg tab vl [.a [.f .aJ],.a [.f .aJ]]=Eq (.t [.a [.f .aJ],vi 0]):=bg.eq (aY (m:=600) (d:=60) (by kernel_rfl))
theorem Rt(lo hi:Int)(h0:0<=lo)(h1:lo<hi)(h2:hi<=1440)(cl:Option Nat)(I:∀c,cl=aa c->c<20):∃D g,ib 27720 2 1 D/\(∀d,0<=d->(cM D d↔∀c:Nat,cl=aa c->d≠c))/\
  ∀(m:Nat),m<=1430->∀le:Int,1<=le->le<=10080->bg tab mL [.a ((mX lo hi (wB cl)).map .f),vi m,vi le]=Eq (.t [.a [.f (dF lo hi (sl g (aX D)) m le)],vi 0]):=by
 have hA:ib 12 1 1 [[vT]]:=⟨bv,λu y=>by
   simp only[If]at y;subst y;exact⟨bv,bv,λp b=>by simp only[If]at b;subst b;exact Dm⟩⟩
 have hE:ib 27720 1 1 [[Dn]]:=⟨bv,λu y=>by
   simp only[If]at y;subst y;exact⟨bv,bv,λp b=>by simp only[If]at b;subst b;exact PY.up⟩⟩
 have l:ib 27720 2 0 []:=⟨bv,bv⟩
 have hF:=QL cl I;have W:lp (vV cl)=1:=by cases cl<;>rfl
 obtain⟨r,X,s⟩:=xY (m:=1) ce ce .fs (clT cl) [[vT]] (vV cl) (jV hA (ahw _) (agn _) ce) (jV hF (ahw _) ce ce);rw[W]at X;obtain⟨Y,o,z,J,K,rfl⟩:∃ts g,ib 27720 1 64 ts/\ts.length<=1/\(∀d,0<=d->(cM ts d↔cM [[vT]] d/\¬ cM (vV cl) d))/\r=eH ts g:=by
  rcases X with h|⟨-,h⟩
  .exact h
  .simp at h
 obtain⟨Z,t,A,L,S⟩:=R5 (n:=1) ce ce ce o Y ⟨J,z.2⟩;obtain⟨a,w,B,M,q⟩:=I0 (m1:=1) (m2:=1) (n1:=1) (n2:=1) ce ce ce ce ce .fs t [[Dn]] Z hE A;obtain⟨e,g4,E,N,U⟩:=R5 (m:=2) (n:=1) ce ce ce w a B;obtain⟨f,g5,F,O,v⟩:=Rl (m:=2) (n1:=0) (n2:=1) ce ce ce .nil g4 [] e l E;obtain⟨i,g6,H,Q,x⟩:=Rl (m:=2) (n1:=1) (n2:=0) ce ce ce g5 .nil f [] F l;refine⟨i,g6,H,λd j=>?_,λm hm le l0 l1=>?_⟩
 .rw[Q d j,O d j,N d j,M d j,L d j,K d j,QK];have a1:cM [[vT]] d:=⟨_,If.2 rfl,λp b=>by simp only[If]at b;subst b;exact Dl d j⟩
  have k:cM [[Dn]] d:=⟨_,If.2 rfl,λp b=>by simp only[If]at b;subst b;exact PX d j⟩
  have a3:¬ cM [] d:=by simp[cM]
  simp only[a1,k,a3,true_and,false_or,or_false,not_exists,not_and]
 .have hT:abr lo hi (wB cl) _ _ _ _ _ _ _:=⟨I4 lo hi h0 h1 h2 cl I,YN cl I,DV,s,S,q,U,v,x,or_nil⟩
  exact Mr hT m hm le l0 l1
end Go.Proofs.YtelifakcllijpaaGreat
namespace Go.Proofs.YtelifakcllijpaaGreat
open Go Km
theorem yz{H:an}{a b:Nat}(l:a≠b)(x f:aC)(v:Bool)(u:H[a]?=aa (.box (f.row.map .f) 0))(B:H[b]?=aa (.box [.f (.bool v)] 0)) :
  ∃r H',Ev tab (.fn Af) [.a (x.row.map .f),.c (.ptr a 0 0),.c (.ptr b 0 0)] H r H'/\(r=.t []/\H.length<=H'.length/\(∀i:Nat,i<H.length->i≠a->i≠b->H'[i]?=H[i]?)/\H'[a]?=aa (.box ((if v=ag\/fO x f<0 then x else f).row.map .f) 0)/\H'[b]?=aa (.box [.f (.bool ae)] 0)):=by
 refine de rfl rfl λQ Y=>?_;have F:=Eo .fs [eE x.fr f.fr,eE x.day f.day,eE x.to f.to] bv;have I:zz [eE x.fr f.fr,eE x.day f.day,eE x.to f.to]=fO x f:=rfl;rw[I]at F;simp[ints,sl,Tg.fc]at F;have la:=aj u;have lb:=aj B;simp only[aC.row,agm,agp]at u ⊢;apply ai;simp;obtain⟨K,A⟩:=aI (H++[bO.box [.f (fi x.day),.f (fi x.fr),.f (fi x.to)] 0]:an);have J:Kp H K:=by rw[A];exact Kp.push _ _
 have y:K[H.length]?=aa (.box [.f (fi x.day),.f (fi x.fr),.f (fi x.to)] 0):=by rw[A];simp
 have N:=J.get u;have qb:=J.get B;rw[<-A];have x0:aV K ab (.c (.ptr H.length 0 0))=aa (vi x.day):=by simp[aV,aA,y]
 have x1:aV K ab (.c (.ptr H.length 1 0))=aa (vi x.fr):=by simp[aV,aA,y]
 have x2:aV K ab (.c (.ptr H.length 2 0))=aa (vi x.to):=by simp[aV,aA,y]
 have f0:aV K ab (.c (.ptr a 0 0))=aa (vi f.day):=by simp[aV,aA,N]
 have f1:aV K ab (.c (.ptr a 1 0))=aa (vi f.fr):=by simp[aV,aA,N]
 have f2:aV K ab (.c (.ptr a 2 0))=aa (vi f.to):=by simp[aV,aA,N]
 apply ai;simp[x0,x1,x2,f0,f1,f2,mf,deep,gT,jL,F,-ax];obtain⟨d,j⟩:=aI (K++[bO.box [.f (fi (eE x.fr f.fr)),.f (fi (eE x.day f.day)),.f (fi (eE x.to f.to))] 3]:an);have m:Kp K d:=by rw[j];exact Kp.push _ _
 rw[<-j];have g:=J.tr m;have Z:=g.get u;have z:=g.get B;have O:=m.get y;have b0:aV d ab (.c (.ptr b 0 0))=aa (vb v):=by simp[aV,aA,z]
 have M:∀L:an,L[H.length]?=aa (.box [.f (fi x.day),.f (fi x.fr),.f (fi x.to)] 0)->aV L (aa 3) (.c (.ptr H.length 0 0))=aa (.a [.f (fi x.day),.f (fi x.fr),.f (fi x.to)]):=λL h=>by simp[aV,aA,h,aW]
 have sb:cY d (.ptr b 0 0) [.f (.bool ae)]=aa (d.set b (.box [.f (.bool ae)] 0)):=by simp[cY,z,over]
 have q:(d.set b (.box [.f (.bool ae)] 0))[a]?=aa (.box [.f (fi f.day),.f (fi f.fr),.f (fi f.to)] 0):=by rw[sh (Ne.symm l)];exact Z
 have sa:cY (d.set b (.box [.f (.bool ae)] 0)) (.ptr a 0 0) [.f (fi x.day),.f (fi x.fr),.f (fi x.to)]=aa ((d.set b (.box [.f (.bool ae)] 0)).set a (.box [.f (fi x.day),.f (fi x.fr),.f (fi x.to)] 0)):=by simp[cY,q,over]
 have S:(d.set b (.box [.f (.bool ae)] 0))[H.length]?=aa (.box [.f (fi x.day),.f (fi x.fr),.f (fi x.to)] 0):=by rw[sh ap];exact O
 have s:∀t:T,t.g 1=.c (.ptr a 0 0)->t.g 2=.c (.ptr b 0 0)->t.g 3=.c (.ptr H.length 0 0)->(v=ag\/fO x f<0)->WP tab Af ab [.code S4] ⟨t,[],d⟩ Q:=by
  intro t U W X hc;refine eF (.inl rfl) ?_ ?_
  case _=>
   simp[U,W,X,M d O,sb,sa,-ax,-bw];refine cX (Y _ _ _ rfl rfl ⟨rfl,by simp;exact g.1,λi hi h1 h2=>?_,?_,?_⟩)
   .rw[sh (Ne.symm h1),sh (Ne.symm h2)];exact g.2 i hi
   .rw[BY (aj q),bZ hc];rfl
   .rw[sh l];exact BY (aj z)
  .intro c E;rw[If.1 E];refine⟨ce,_,rfl,.inl ⟨ce,?_⟩⟩;simp[U,W,X,M d O,M _ S,sb,sa,gj,V.beq,jJ,C.beq,FC.beq,-ax,-bw]
 apply ai;cases v with
 |false=>
  simp[b0,-ax];exact aw bv (s _ bv bv bv (.inl rfl))
 |true=>
  by_cases k:fO x f<0
  .simp[b0,k,-ax];exact aw bv (s _ bv bv bv (.inr k))
  .simp[b0,k,-ax];refine aD bv (aR (cX (Y _ _ _ rfl rfl ⟨rfl,g.1,λi hi _ _=>g.2 i hi,?_,z⟩)));rw[ct (by simp[k])];exact Z
end Go.Proofs.YtelifakcllijpaaGreat
namespace Go.Proofs.YtelifakcllijpaaGreat
open Go Km
theorem Tk(t:Int):bg tab Xq [.c (.f .aJ),vi t,.c (.f (.fn 409 []))]=Eq (.t [vi 0,vb ag]):=bg.eq (by
 refine bK rfl rfl λQ b=>?_
 repeat' first
  |(refine az (b _ _ ?_))
  |(apply au)
  |(refine ay ?_)
  |(refine eG ?_)
  |(refine eR ?_)
  |(refine av ?_)
  |(refine aR ?_)
  |(refine bJ rfl ?_)
  |(refine aw ?_ ?_;focus (simp;done))
  |(refine aD ?_ ?_;focus (simp;done))
  |(refine aq (.inl rfl) ?_;simp)
 simp)
theorem LZ(o t:Int):bg tab XH [.c (.f (fu o)),vi t]=Eq (.t [.a [.f (fi 0),.f (fi 0)],vb ag]):=bg.eq (by
 have d:=Tk t;refine bK rfl rfl λQ b=>?_
 repeat' first
  |(refine az (b _ _ ?_))
  |(apply au)
  |(refine ay ?_)
  |(refine eG ?_)
  |(refine eR ?_)
  |(refine av ?_)
  |(refine aR ?_)
  |(refine bJ rfl ?_)
  |(refine aw ?_ ?_;focus (simp;done))
  |(refine aD ?_ ?_;focus (simp;done))
  |(refine aq (.inl rfl) ?_;simp[fu,ig,d,deep,show IntKind.i64.wrap (-1) = -1 by decide])
 simp)
theorem En(o t:Int):bg tab XI [.c (.f (fu o)),vi t]=Eq (vi o):=bg.eq (by
 have b:=LZ o t;simp only[fu]at b;refine bK rfl rfl λQ d=>?_
 repeat' first
  |(refine az (d _ _ ?_))
  |(apply au)
  |(refine ay ?_)
  |(refine av ?_)
  |(refine aR ?_)
  |(refine aw ?_ ?_;focus (simp;done))
  |(refine aD ?_ ?_;focus (simp;done))
  |(refine aq (.inl rfl) ?_;simp[fu,ig,b])
 simp)
theorem F6(o t:Int)(q:-1080<=o)(s:o<=1080)(t0:-2251799813685248<=t)(u:t<=2251799813685248):bg tab XD [.a ((zF o).map .f),vi t]=Eq (.t [vi (t+o),vi 0]):=by
 have b:=uP o q s;have g:=En o t;have m:=sk t 2251799813685248 ce ce;have j:(decide (-2251799813685248<=t)&&decide (t<=2251799813685248))=ae:=by simp[t0,u]
 rw[j]at m;simp only[zF,agm,agp]at b;have l:bg tab XE [.a ((zF o).map .f),vi t]=Eq (.t [vi o,vi 0]):=bg.eq (by
  refine bK rfl rfl λQ d=>?_
  repeat' first
   |(refine az (d _ _ ?_))
   |(apply au)
   |(refine ay ?_)
   |(refine av ?_)
   |(refine aR ?_)
   |(refine aw ?_ ?_;focus (simp;done))
   |(refine aD ?_ ?_;focus (simp;done))
   |(refine aq (.inl rfl) ?_;simp[zF,b,g,m])
  simp)
 simp only[zF,agm,agp]at l;refine bg.eq (bK rfl rfl λQ d=>?_)
 repeat' first
  |(refine az (d _ _ ?_))
  |(apply au)
  |(refine ay ?_)
  |(refine av ?_)
  |(refine aR ?_)
  |(refine aw ?_ ?_;focus (simp;done))
  |(refine aD ?_ ?_;focus (simp;done))
  |(refine aq (.inl rfl) ?_;simp[zF,l,aZ (n:=t+o)])
 simp
end Go.Proofs.YtelifakcllijpaaGreat
namespace Go.Proofs.YtelifakcllijpaaGreat
open Go Km
theorem UG(n:Int)(q:0<=n)(g:n<=1000000000000000000):bg tab Va [vi n]=Eq (.t [vi (n / 1440),vi (n % 1440)]):=by
 have g:=fF n 1440 ap ap ap;have j:bg tab U' [vi n,vi 1440]=Eq (.t [vi (n % 1440),vi 0]):=bg.eq (by
  have m:cT .rem (vi n) (vi 1440)=aa (vi (n % 1440)):=gQ ap ce;have l:cT .quo (vi n) (vi 1440)=aa (vi (n / 1440)):=e9 ap ce ap;have d:bg tab PC [vi n,vi 1440]=Eq (vi (n % 1440)):=bg.eq (by
   refine bK rfl rfl λQ b=>?_
   repeat' first
    |(refine az (b _ _ ?_))
    |(apply au)
    |(refine ay ?_)
    |(refine aR ?_)
    |(refine aw ?_ ?_;focus (simp;done))
    |(refine aD ?_ ?_;focus (simp;done))
    |(refine aq (.inl rfl) ?_;simp[m,l,show¬ n % 1440<0 by omega])
   simp)
  refine bK rfl rfl λQ b=>?_
  repeat' first
   |(refine az (b _ _ ?_))
   |(apply au)
   |(refine ay ?_)
   |(refine aR ?_)
   |(refine aw ?_ ?_;focus (simp;done))
   |(refine aD ?_ ?_;focus (simp;done))
   |(refine aq (.inl rfl) ?_;simp[d])
  simp)
 refine bg.eq (bK rfl rfl λQ b=>?_)
 repeat' first
  |(refine az (b _ _ ?_))
  |(apply au)
  |(refine aq (.inl rfl) ?_;simp[g,j])
 simp
def mR:Option Nat->Int->Bool
 |none,_=>ag| some c,d=>decide (d=c)
def eC(lo hi:Int)(cl:Option Nat)(b d:Int):Bool:=!mR cl (b / 1440)&&decide (lo<=b % 1440/\b % 1440+(d-b)<=hi)
theorem TU(d:Int)(b:0<=d)(j:Day d):bg tab Pt [.a [.f S1],vi d]=Eq (vb ae):=by
 have g:jz [⟨.fs,[vT]⟩]=ae:=by decide
 have:=Co .fs [⟨.fs,[vT]⟩] g d j;have e:vI [⟨.fs,[vT]⟩] d=ae:=by
  simp[vI,g,wH,hasB,b,Dl d b]
 rw[e]at this;exact this
theorem Gb{lo hi:Int}(cl:Option Nat)(b d:Int)(H:0<=b)(I:b<=2251799813685248)(t0:b<d)(K:d<=b+100000):bg tab PF [.a ((mX lo hi (wB cl)).map .f),.a [.f (fi b),.f (fi d)]]=Eq (vb (eC lo hi cl b d)):=by
 have j:=F6 0 b ce ce ap I;have u:=UG b H ap;have l:=TU (b / 1440) ap (by unfold Day;omega);simp only[zF,agm,agp,Int.add_zero]at j;obtain⟨v,rfl,J⟩:∃v,v=vb (eC lo hi cl b d)/\bg tab PF [.a ((mX lo hi (wB cl)).map .f),.a [.f (fi b),.f (fi d)]] v:=by
  have g:∃i,bg tab FF [.c (.f (wB cl)),vi (b / 1440)]=Eq (.t [vi i,vb (mR cl (b / 1440))]):=by
   cases cl with
   |none=>
    obtain⟨i,-,-,-,h⟩:=gA .nil [] (b / 1440) bv bv;exact⟨i,by simpa[mR,wB,sl,Tg.fc,ints]using h⟩
   |some c=>
    obtain⟨i,-,-,-,h⟩:=gA .fs [(c:Int)] (b / 1440) bv bv;exact⟨i,by simpa[mR,wB,sl,Tg.fc,ints]using h⟩
  obtain⟨i,g⟩:=g;obtain⟨z,s⟩:=aI (mR cl (b / 1440):Bool);rw[<-s]at g;have E:IntKind.wrap .i64 (d-b)=d-b:=aZ;have F:IntKind.wrap .i64 (b % 1440+(d-b))=b % 1440+(d-b):=aZ;have B:IntKind.i64.wrap 1=1:=by decide
  have m:=vt lo hi (wB cl) (b % 1440) (d-b);simp only[mX,rM,agm,agp]at m;refine kH aca rfl λQ A=>?_;have q:eC lo hi cl b d=(!z&&decide (lo<=b % 1440/\b % 1440+(d-b)<=hi)):=by rw[s];rfl
  by_cases x:lo<=b % 1440<;>by_cases y:b % 1440+(d-b)<=hi<;>cases z
  all_goals repeat' first
   |(apply au)
   |(refine ay ?_)
   |(refine eG ?_)
   |(refine eR ?_)
   |(refine av ?_)
   |(refine aR ?_)
   |(refine bJ rfl ?_)
   |(refine fP rfl ?_)
   |(refine ew rfl ce ?_)
   |(refine lK rfl ce ?_)
   |(refine aw ?_ ?_;focus (simp;done))
   |(refine aD ?_ ?_;focus (simp;done))
   |(refine D7 rfl acb rfl ?_)
   |(refine QX rfl rfl ?_)
   |(refine az ⟨rfl,⟨_,rfl⟩,?_⟩)
   |(refine cX ⟨rfl,⟨_,rfl⟩,?_⟩)
   |(refine az ⟨rfl,_,rfl,?_⟩)
   |(refine cX ⟨rfl,_,rfl,?_⟩)
   |(refine az ⟨rfl,_,_,_,_,_,_,_,_,rfl,?_⟩)
   |(refine cX ⟨rfl,_,_,_,_,_,_,_,_,rfl,?_⟩)
   |(refine aq (.inl rfl) ?_;simp[mX,rM,j,u,g,m,l,E,F,B,x,y,ig,uG,bh,bG,fG,deep])
   |(refine aq (.inr rfl) ?_;simp[mX,rM,j,u,g,m,l,E,F,B,x,y,ig,uG,bh,bG,fG,deep])
  all_goals first
   |(refine az (A _ _ _ rfl (.inr ⟨_,rfl,rfl,_,rfl,?_⟩));simp[jh,dq,q,x,y])
   |(refine az (A _ _ _ rfl (.inl ⟨rfl,_,rfl,?_⟩));simp[jh,dq,q,x,y])
 exact J.eq
end Go.Proofs.YtelifakcllijpaaGreat
namespace Go.Proofs.YtelifakcllijpaaGreat
open Go Km
theorem CC{last:Int}{q:List (Int × Int)}{j:Nat}(b:j<q.length):km last (q.drop j)=(bU q[j].1 (last+1) 63&&bU q[j].2 0 10080&&km q[j].1 (q.drop (j+1))):=by
 rw[ags b];rfl
theorem EC{l:List a8}{i last:Int}{p:List Int}{j:Nat}(b:j<p.length) :
  nu l i last (p.drop j)=(bU p[j] (last+1) ((l.length:Int)-1)&&!decide (p[j]=i)&&decide (CA l p[j]=0)&&nu l i p[j] (p.drop (j+1))):=by
 rw[ags b];rfl
theorem Mt(g:Tg)(l:List a8)(i:Nat)(hi:i<l.length)(hl:l.length<=6)(ho:∀r∈l,nf r)(hq:l[i].q.length<=64)(hp:l[i].p.length<=64) :
  Kf tab O_ [.c (.f (sl g (rows l))),vi i] (vb (fQ l i l[i])):=by
 refine dh rfl rfl λH Q d=>?_;obtain⟨r,hr⟩:=aI (l[i]);have X:=bg.eq (ho _ (IN hi));rw[<-hr]at X hq hp d;simp only[a8.op]at X;have K:=cf (H:=H) (fv l) (qP hi);rw[<-hr]at K;apply au;refine aq (.inl rfl) ?_;simp;apply au;refine aq (.inl rfl) ?_;simp[bz,hi,K,a8.row];apply au;apply au;refine aq (.inl rfl) ?_;simp;cases h1:bU r.cap 1 512
 case false=>
  simp;refine aw bv ?_;apply ai;simp;refine az (d _ _ ?_);simp[fQ,h1]
 simp;cases h2:bU r.fg 0 1440
 case false=>
  simp;refine aw bv ?_;apply ai;simp;refine az (d _ _ ?_);simp[fQ,h2]
 simp;cases h3:bU r.gN 0 1440
 case false=>
  simp;refine aw bv ?_;apply ai;simp;refine az (d _ _ ?_);simp[fQ,h3]
 simp[X];refine aD bv ?_;refine aR ?_;apply ai;simp;apply au;apply au;refine aq (.inl rfl) ?_;simp;obtain⟨F,q⟩:=aI ([C.f (fi r.cap),C.f (fi r.fg),C.f (fi r.gN),C.f r.o0,C.f r.o1,C.f r.o2,C.f r.o3,C.f r.o4,C.f r.o5,C.f r.o6,C.f r.o7,C.f r.o8,C.f r.o9,C.f (sl r.qg (gk r.q)),C.f (sl r.pg (ints r.p))]);rw[<-q];have M:F.drop 14=[C.f (sl r.pg (ints r.p))]:=by rw[q];rfl
 refine bS r.q.length (λj t H'=>t.g 0=.c (.f (sl g (rows l)))/\t.g 1=vi i/\t.g 5=.c (.ptr H.length 0 0)/\t.g 38=.c (.f (sl r.qg (gk r.q)))/\(∃J,H'=H++(.box F 0::J))/\
  ∃last,t.g 6=vi last/\-1<=last/\last<=63/\km (-1) r.q=km last (r.q.drop j)) ap ce ce bv bv bv ?_ ?_
 .rintro j t _ E ⟨m,s,O,u,⟨J,rfl⟩,last,B,Y,Z,b⟩ A I next
  rw[CC E]at b;refine ay ?_;apply ai;simp[A,u,bz,E,cf (yw r.q) (Ez E)];apply au;apply ai;simp[B,aZ (n:=last+1)];cases x:bU r.q[j].1 (last+1) 63
  case false=>
   simp;refine aw bv ?_;apply ai;simp;refine az (d _ _ ?_);simp[fQ,b,x]
  simp;cases y:bU r.q[j].2 0 10080
  case false=>
   simp;refine aw bv ?_;apply ai;simp;refine az (d _ _ ?_);simp[fQ,b,y]
  simp;refine aD bv ?_;refine aR ?_;refine aq (.inl rfl) ?_;simp[B];refine av (next _ _ ?_ (by simp[A]) (by simp[I]));have hw:=vd x;simp[x,y]at b;exact⟨by simp[m],by simp[s],by simp[O],by simp[u],⟨_,rfl⟩,r.q[j].1,bv,ap,ap,b⟩
 .rintro t _ ⟨m,s,O,u,⟨J,rfl⟩,last,B,Y,Z,b⟩ A I;have W:km (-1) r.q=ae:=by rw[b];simp[km]
  apply ai;simp;apply au;apply au;refine aq (.inl rfl) ?_;simp[O,M];refine bS r.p.length (λj t H'=>t.g 0=.c (.f (sl g (rows l)))/\t.g 1=vi i/\t.g 60=.c (.f (sl r.pg (ints r.p)))/\(∃J,H'=H++J)/\
   ∃last,t.g 6=vi last/\-1<=last/\last<=6/\nu l i (-1) r.p=nu l i last (r.p.drop j)) ap ce ce bv bv (by simp[m,s]) ?_ ?_
  .rintro j t _ E ⟨m,s,v,⟨J,rfl⟩,last,B,Y,Z,b⟩ A I next
   rw[EC E]at b;refine ay ?_;apply ai;simp[A,v,bz,E,dZ];apply au;apply ai;simp[B,m,aZ (n:=last+1),aZ (n:=(l.length:Int)-1)];cases x:bU r.p[j] (last+1) ((l.length:Int)-1)
   case false=>
    simp;refine aw bv ?_;apply ai;simp;refine az (d _ _ ?_);simp[fQ,b,x]
   have hw:=vd x;simp[s];by_cases y:r.p[j]=i
   .simp[y];refine aw bv ?_;apply ai;simp;refine az (d _ _ ?_);simp[fQ,b,y]
   have hk:r.p[j].toNat<l.length:=by omega
   have N:=jU (H:=H++J) (k:=14) (fv l) (qP hk) rfl;simp[y,m,bz (g:=g) (rows:=rows l) (sz:=15) (k:=.i64) (i:=r.p[j]) ap ge,N];have L:=Uv (l:=l) (p:=r.p[j]) ap hk;by_cases S:CA l r.p[j]=0
   .have z:l[r.p[j].toNat].p=[]:=List.eq_nil_of_length_eq_zero (by rw[<-L];exact S);simp[z];refine aD bv ?_;refine aR ?_;refine aq (.inl rfl) ?_;simp;refine av (next _ _ ?_ (by simp[A]) (by simp[I]));simp[x,y,S]at b;exact⟨by simp[m],by simp[s],by simp[v],⟨_,rfl⟩,r.p[j],bv,ap,ap,b⟩
   .have z:0<l[r.p[j].toNat].p.length:=by rw[<-L];omega
    simp[z];refine aw bv ?_;apply ai;simp;refine az (d _ _ ?_);simp[fQ,b,S]
  .rintro t _ ⟨m,s,v,⟨J,rfl⟩,last,B,Y,Z,b⟩ A I;have U:nu l i (-1) r.p=ae:=by rw[b];simp[nu]
   apply ai;simp;refine az (d _ _ ?_);simp[fQ,h1,h2,h3,W,U]
end Go.Proofs.YtelifakcllijpaaGreat
namespace Go.Proofs.YtelifakcllijpaaGreat
open Go Km
theorem Mu(g:Tg)(l:List a8)(i:Nat)(hi:i<l.length)(b:l.length<=6)(d:∀r∈l,nf r)(m:l[i].q.length<=64)(j:l[i].p.length<=64) :
  bg tab O_ [.c (.f (sl g (rows l))),vi i]=Eq (vb (fQ l i l[i])):=(Mt g l i hi b d m j).eq
theorem KJ(g:Tg)(l:List a8)(b:l.length<=6)(d:∀r∈l,nf r) :
  bg tab FP [.c (.f (sl g (rows l))),.c (.f (.fn BJ []))]=Eq (vb (l.any nG)):=(KI g l b d).eq
theorem xh{l:List a8}{j:Nat}(b:j<l.length):fU l j (l.drop j)=(fQ l j l[j]&&fU l (j+1) (l.drop (j+1))):=by
 rw[ags b];rfl
theorem Sq(g:Tg)(l:List a8)(z:l.length<=6)(A:∀r∈l,nf r):Kf tab BI [.c (.f (sl g (rows l)))] (vi (lB l)):=by
 refine dh rfl rfl λH Q q=>?_;apply ai;simp;apply ai;simp;apply au;apply ai;have b:¬ (256:Int)<l.length:=by omega
 simp[b,KJ g l z A];cases u:l.any nG
 case true=>
  refine aw bv ?_;apply ai;simp;refine az (q _ _ ?_);simp[lB,u]
 refine aD bv ?_;refine aR ?_;apply au;apply ai;simp;refine bS l.length (λj t H'=>t.g 0=.c (.f (sl g (rows l)))/\(∃J,H'=H++J)/\fU l 0 l=fU l j (l.drop j)) ap ce ce bv bv bv ?_ ?_
 .rintro j t _ y ⟨x,⟨J,rfl⟩,m⟩ s d next
  rw[xh y]at m;have v:nG l[j]=ag:=by
   simp_all
  simp only[nG,Bool.or_eq_false_iff,decide_eq_false_iff_not]at v;refine ay ?_;apply ai;simp[s];apply ai;simp[x,Mu g l j y z A ap ap];cases B:fQ l j l[j]
  .refine aw bv ?_;apply ai;simp;refine az (q _ _ ?_);simp[lB,u,m,B]
  .refine aD bv ?_;refine aR (av (next _ _ ?_ (by simp[s]) (by simp[d])));simp_all
 .rintro t _ ⟨x,⟨J,rfl⟩,m⟩ s d;apply ai;simp;refine az (q _ _ ?_);simp[lB,u,m,fU]
theorem Sr(g:Tg)(l:List a8)(b:l.length<=6)(d:∀r∈l,nf r):bg tab BI [.c (.f (sl g (rows l)))]=Eq (vi (lB l)):=(Sq g l b d).eq
end Go.Proofs.YtelifakcllijpaaGreat
namespace Go.Proofs.YtelifakcllijpaaGreat
open Go Km
theorem kX(g:Tg)(l:List Int)(v:Int)(b:l.length<=9223372036854775807) :
  bg tab FR [.c (.f (sl g (ints l))),vi v]=Eq (vb (l.any (· == v))):=(vU g l v b).eq
theorem KY(g:Tg)(q:List Int)(x:Int)(d:q.length<=9223372036854775807):Kf tab FA [vi x,.c (.f (.fp [sl g (ints q)] 0))] (vb (q.any (· == x))):=by
 refine dh rfl rfl λH Q b=>?_;apply ai;simp;apply ai;simp[kD,kX g q x d];refine az (b _ _ ?_);simp
theorem BV(g g':Tg)(p q:List Int)(d:p.length<=9223372036854775807)(l:q.length<=9223372036854775807) :
  bg tab Pd [.c (.f (sl g (ints p))),.c (.f (.fn FA [.fp [sl g' (ints q)] 0]))]=Eq (vb (p.any λx=>q.any (· == x))):=
 (fD X9 (je Yh p (λn=>[fi n]) vi (λx=>q.any (· == x)) g FA [.fp [sl g' (ints q)] 0] d
  (λj b H=>by have:=dZ (H:=H) b;simpa[ints]using this) (λx _=>by have:=KY g' q x l;simpa using this))).eq
def fS(a b:Nat)(ra d:a8):Bool:=decide (a=b)||ra.p.any (· ==(b:Int))||d.p.any (· ==(a:Int))||ra.p.any λx=>d.p.any (· == x)
theorem MF(g:Tg)(l:List a8)(a b:Nat)(s:a<l.length)(u:b<l.length)(y:l[a].p.length<=64)(z:l[b].p.length<=64) :
  Kf tab BM [.c (.f (sl g (rows l))),vi a,vi b] (vb (fS a b l[a] l[b])):=by
 refine dh rfl rfl λH Q j=>?_;have v:=jU (H:=H) (k:=14) (fv l) (qP s) rfl;have x:=jU (H:=H) (k:=14) (fv l) (qP u) rfl;apply ai;simp;apply ai;simp[bz,s,u,v,x];apply ai;simp;by_cases d:a=b
 .simp[d];refine az (j _ _ ?_);simp[fS,d]
 simp[d,kX _ l[a].p _ ap];cases m:l[a].p.any (· ==(b:Int))
 case true=>
  simp;refine az (j _ _ ?_);simp[fS,m]
 simp[kX _ l[b].p _ ap];cases q:l[b].p.any (· ==(a:Int))
 case true=>
  simp;refine az (j _ _ ?_);simp[fS,q]
 simp[deep,Eh,xX,BV l[a].pg l[b].pg l[a].p l[b].p ap ap];refine az (j _ _ ?_);simp[fS,d,m,q]
end Go.Proofs.YtelifakcllijpaaGreat
namespace Go.Proofs.YtelifakcllijpaaGreat
open Go Km
theorem vc(s:aH)(h:s.Sm):bg tab Ia [.a (s.row.map .f)]=Eq (vb (gW s)):=(nV s h).eq
structure aG where
 meet:Int
 room:Int
 eo:Int
 size:Int
 st:aH
def aG.row(s:aG):List FC:=[fi s.meet,fi s.room,fi s.eo,fi s.size,sl s.st.cg (aU s.st.cs),fi s.st.len,sl s.st.xg (aF s.st.xs)]
def aS(l:List aG):List (List FC):=l.map aG.row
@[simp] theorem ny (l:List aG):(aS l).length=l.length:=by simp[aS]
theorem bW(l:List aG):cR 7 (aS l):=cR.map λ_=>rfl
theorem dI{l:List aG}{j:Nat}(b:j<l.length):(aS l)[j]?=aa l[j].row:=by simp[aS,b]
def qY(x y:aG):Int:=zz [eE x.meet y.meet,eE x.room y.room]
def jC(n:Nat)(s:aG):Bool:=decide (1<=s.meet)&&bU s.room 0 ((n:Int)-1)&&bU s.eo 0 63&&bU s.size 1 512&&gW s.st
def iE(n:Nat):Option aG->List aG->Bool
 |_,[]=>ae| prev,s::r=>jC n s&&(prev.all λm=>decide (qY m s<0))&&iE n (aa s) r
theorem CP{n:Nat}{p:Option aG}{l:List aG}{j:Nat}(b:j<l.length):iE n p (l.drop j)=(jC n l[j]&&(p.all λm=>decide (qY m l[j]<0))&&iE n (aa l[j]) (l.drop (j+1))):=by
 rw[ags b];rfl
def vE(b:List a8)(l:List aG):Bool:=decide (lB b=0)&&decide ((l.length:Int)<=4096)&&iE b.length ab l
theorem It(x y:aG):Kf tab rA [.a (x.row.map .f),.a (y.row.map .f)] (vi (qY x y)):=by
 refine dh rfl rfl λH Q d=>?_;have b:=Eo .fs [eE x.meet y.meet,eE x.room y.room] bv;simp[ints,sl,Tg.fc]at b;apply ai;simp[aG.row];apply ai;simp[mf,deep,gT,jL,b];refine az (d _ _ ?_);simp[qY]
theorem Ts(x y:aG):bg tab rA [.a (x.row.map .f),.a (y.row.map .f)]=Eq (vi (qY x y)):=(It x y).eq
theorem E4(g:Tg)(d:List a8)(s:aG)(v:d.length<=6)(h:s.st.Sm):Kf tab FB [.c (.f (sl g (rows d))),.a (s.row.map .f)] (vb (jC d.length s)):=by
 refine dh rfl rfl λH Q b=>?_;have l:=vc s.st h;simp[aH.row]at l;apply ai;simp[aG.row];apply ai;simp;by_cases j:1<=s.meet
 case neg=>
  simp[j];refine az (b _ _ ?_);simp[jC,j]
 simp[j,aZ (n:=(d.length:Int)-1)];cases m:bU s.room 0 ((d.length:Int)-1)
 .simp;refine az (b _ _ ?_);simp[jC,m]
 simp;cases q:bU s.eo 0 63
 .simp;refine az (b _ _ ?_);simp[jC,q]
 simp;cases u:bU s.size 1 512
 .simp;refine az (b _ _ ?_);simp[jC,u]
 simp[l];refine az (b _ _ ?_);simp[jC,j,m,q,u]
theorem Sg(g:Tg)(b:List a8)(s:aG)(d:b.length<=6)(h:s.st.Sm):bg tab FB [.c (.f (sl g (rows b))),.a (s.row.map .f)]=Eq (vb (jC b.length s)):=(E4 g b s d h).eq
theorem IY(g g':Tg)(q:List a8)(l:List aG)(W:q.length<=6)(ho:∀r∈q,nf r)(hl:l.length<=9223372036854775807)(h:∀s∈l,s.st.Sm) :
  Kf tab Fy [.c (.f (sl g (rows q))),.c (.f (sl g' (aS l)))] (vb (vE q l)):=by
 refine dh rfl rfl λH Q S=>?_;have bad:vE q l=ag->∀(t:T) (J:an) k,WP tab Fy ab (.code (.region [⟨D 4,.iV (.k (.c (.f (.bool ag)))),ab⟩] [])::.code .ret::k) ⟨t,[],H++J⟩ Q:=by
  intro hf t J k;refine aq (.inl rfl) ?_;simp;refine az (S _ _ ?_);simp[hf]
 apply ai;simp;apply au;apply ai;simp[Sr g q W ho];by_cases M:lB q=0
 case neg=>
  simp[M];have b:=λt k=>bad (by simp[vE,M]) t [] k;simp only[agN]at b;refine aw bv ?_;exact au (b _ _)
 simp[M];by_cases X:(4096:Int)<l.length
 .simp[X];have b:=λt k=>bad (by simp[vE,show¬ (l.length:Int)<=4096 by omega]) t [] k;simp only[agN]at b;refine aw bv ?_;exact au (b _ _)
 simp[X];have U:vE q l=iE q.length ab l:=by simp[vE,M,show(l.length:Int)<=4096 by omega]
 rw[U]at bad;refine aD bv ?_;refine aR ?_;apply au;apply ai;simp;refine bS l.length (λj t H'=>t.g 0=.c (.f (sl g (rows q)))/\t.g 1=.c (.f (sl g' (aS l)))/\t.g 15=.c (.f (sl g' (aS l)))/\(∃J,H'=H++J)/\
  ∃d,(∀m,j=m+1->∀h:m<l.length,d=aa (l[m]'h))/\(j=0->d=ab)/\iE q.length ab l=iE q.length d (l.drop j)) hl ce ce bv bv
   ⟨bv,bv,bv,⟨[],bv⟩,ab,ap,bv,bv⟩ ?_ ?_
 .rintro j t _ K ⟨E,F,v,⟨J,rfl⟩,d,l1,l2,z⟩ I N next
  rw[CP K]at z;have O:=cf (H:=H++J) (bW l) (dI K);have B:=Sg g q l[j] W (h _ (IN K));simp[aG.row]at B;refine ay ?_;apply ai;simp[I,v,bz,K,O,aG.row];apply ai;simp[E,B];cases Y:jC q.length l[j]
  .simp;exact aw bv (au (bad (by simp[z,Y]) _ _ _))
  simp;have go:(d.all λm=>decide (qY m l[j]<0))=ae->∃u,(∀m,j+1=m+1->∀h:m<l.length,u=aa (l[m]'h))/\(j+1=0->u=ab)/\iE q.length ab l=iE q.length u (l.drop (j+1)):=by
   intro hp;rw[Y,hp,ahh,ahh]at z;refine⟨aa l[j],λm L h=>?_,ap,z⟩;have:m=j:=by omega
   subst this;rfl
  cases j with
  |zero=>
   simp;refine aD bv ?_;refine aR (av (next _ _ ?_ (by simp[I]) (by simp[N])));exact⟨by simp[E],by simp[F],by simp[v],⟨_,rfl⟩,go (by rw[l2 rfl];rfl)⟩
  |succ m=>
   have L:m<l.length:=by omega
   have A:=l1 m rfl L;have e1:((m+1:Nat):Int)-1=m:=by omega
   have y:=λH:an=>cf (H:=H) (bW l) (dI L);have x:=Ts l[m] l[m+1];simp[aG.row]at x y;simp[show 0<m+1 by omega,F,aZ (n:=(m:Int)),bz,L,y,x];by_cases Z:0<=qY l[m] l[m+1]
   .simp[Z];have b:=bad (by simp[z,A,show¬ qY l[m] l[m+1]<0 by omega]);refine aw bv ?_;exact au (b _ _ _)
   .simp[Z];refine aD bv ?_;refine aR (av (next _ _ ?_ (by simp[I]) (by simp[N])));exact⟨by simp[E],by simp[F],by simp[v],⟨_,rfl⟩,go (by rw[A];simp;omega)⟩
 .rintro t _ ⟨E,F,v,⟨J,rfl⟩,d,l1,l2,z⟩ I N;have hX:iE q.length ab l=ae:=by rw[z];simp[iE]
  apply ai;simp;refine az (S _ _ ?_);simp[U,hX]
end Go.Proofs.YtelifakcllijpaaGreat
namespace Go.Proofs.YtelifakcllijpaaGreat
open Go Km
structure qV where
 (m r t z f p c mi le:Int)
 eg:Tg
 ex:List Int
def fV(l:List Int):List (List FC):=l.map λn=>[.int .u8 n]
@[simp] theorem Tl (l:List Int):(fV l).length=l.length:=by simp[fV]
theorem zn(l:List Int):cR 1 (fV l):=cR.map λ_=>rfl
theorem T'{j:Nat}{l:List Int}(b:j<l.length){H:an}:aV H ab (.c (.f (.fp (fV l).flatten j)))=aa (.c (.f (.int .u8 l[j]))):=by
 have:=gU (H:=H) (rows:=fV l) (j:=j) (sz:=1) (row:=[.int .u8 l[j]]) (x:=.int .u8 l[j]) (zn l) (by simp[fV,b]) rfl;simpa using this
def B8(n:Int):Prop:=0<=n/\n<=255
def qV.row(x:qV):List FC:=[.int .u8 x.m,.int .u8 x.r,.int .u8 x.t,.int .u8 x.z,.int .u8 x.f,.int .u8 x.p,.int .u8 x.c,.int .u8 x.mi,.int .u8 x.le,sl x.eg (fV x.ex)]
def qV.OK(x:qV):Prop:=B8 x.m/\B8 x.r/\B8 x.t/\B8 x.z/\B8 x.f/\B8 x.p/\B8 x.c/\B8 x.mi/\B8 x.le/\x.ex.length<=9223372036854775807/\∀n∈x.ex,B8 n
def cG(f p:Int)(l:List Int):aO:=⟨.nil,[],f,p,.nil,l⟩
def uo(p:Int)(l:List Int):Prop:=l.Pairwise (· < ·)/\(∀c∈l,0<=c/\c<p)/\l.length<=7
def abq(cs:List cW):Prop:=cs=[]\/∃f p l b,cs=[⟨.fs,[⟨.fs,[cG f p l]⟩],b⟩]/\0<=f/\f<=8/\1<=p/\p<=7/\l≠[]/\uo p l/\60<=b/\b<=1245
def F4(len:Int)(x:aC):Prop:=x.to=x.fr+len/\0<=x.day/\x.day<=13/\90<=x.fr/\x.fr<=20000
def dP(s:aH):Prop:=abq s.cs/\15<=s.len/\s.len<=180/\s.xs.length<=3/\s.xs.Pairwise aC.lt/\∀x∈s.xs,F4 s.len x
def aG.jo(s:aG):Prop:=1<=s.meet/\s.meet<=6/\0<=s.room/\s.room<=2/\0<=s.eo/\s.eo<=2/\1<=s.size/\s.size<=12/\dP s.st
theorem YH(i:Nat)(h:i<8):∃(aT:Nat) (rest:List C),[C.f (fi 7),C.f (fi 7),C.f (fi 2),C.f (fi 3),C.f (fi 4),C.f (fi 6),C.f (fi 1),C.f (fi 7)].drop i=C.f (fi aT)::rest/\1<=aT/\aT<=7:=by
 match i,h with
 |0,_=>exact⟨7,_,rfl,ap,ap⟩
 |1,_=>exact⟨7,_,rfl,ap,ap⟩
 |2,_=>exact⟨2,_,rfl,ap,ap⟩
 |3,_=>exact⟨3,_,rfl,ap,ap⟩
 |4,_=>exact⟨4,_,rfl,ap,ap⟩
 |5,_=>exact⟨6,_,rfl,ap,ap⟩
 |6,_=>exact⟨1,_,rfl,ap,ap⟩
 |7,_=>exact⟨7,_,rfl,ap,ap⟩
def Sz(H:an)(X:C)(f p d:Int)(l:List Int):Prop:=X=.f .aJ\/∃N c a0 a1 b,5<=N/\X=.sl (N+2) 0 1 1 0 2/\H[N]?=aa (.box [.f .aJ,.f (fi f),.f (fi p),c] a0)/\H[N+1]?=aa (.box [.sl N 0 1 1 0 4] a1)/\
 H[N+2]?=aa (.box [.sl (N+1) 0 1 1 0 1,.f (fi d)] b)/\BQ ag H c l
theorem Sz.set{H:an}{X:C}{f p mi:Int}{l:List Int}(h:Sz H X f p mi l){b:Nat}{cs cs':List C}{fl fl':Nat}(hb:b<5)(d:H[b]?=aa (.box cs fl)):Sz (H.set b (.box cs' fl')) X f p mi l:=by
 rcases h with h|⟨N,c,a0,a1,g,h5,e,h1,h2,h3,h4⟩
 .exact .inl h
 .exact .inr ⟨N,c,a0,a1,g,h5,e,by rw[sh ap];exact h1,by rw[sh ap];exact h2,by rw[sh ap];exact h3,h4.set d⟩
theorem Sz.ex{H:an}{X:C}{f p mi:Int}{l:List Int}(h:Sz H X f p mi l)(hl:l.length<=7):∃cg cs,fh deep H X=aa (sl cg (aU cs))/\(cs=[]\/X≠.f .aJ/\cs=[⟨.fs,[⟨.fs,[cG f p l]⟩],mi⟩]):=by
 rcases h with rfl|⟨N,c,a0,a1,b,h5,rfl,h1,h2,h3,h4⟩
 .exact⟨.nil,[],rfl,.inl rfl⟩
 .refine⟨.fs,[⟨.fs,[⟨.fs,[cG f p l]⟩],mi⟩],?_,.inr ⟨bv,rfl⟩⟩;have:=h4.ex (n:=60);simp[deep,gT,h1,h2,h3,this];rfl
theorem Ui(x:qV)(hx:x.OK):∃s:aG,s.jo/\bg tab wU [.a (x.row.map .f)] (.a (s.row.map .f)):=by
 obtain⟨⟨m1,m2⟩,⟨r1,r2⟩,⟨t1,t2⟩,⟨z1,z2⟩,⟨f1,f2⟩,⟨p1,p2⟩,⟨c1,c2⟩,⟨i1,i2⟩,⟨l1,l2⟩,he,hb⟩:=hx;obtain⟨r,⟨s,hs,rfl⟩,h⟩:∃r,(∃s:aG,s.jo/\r=.a (s.row.map .f))/\bg tab wU [.a (x.row.map .f)] r:=by
  refine dx rfl rfl λQ hQ=>?_;obtain⟨i,hi⟩:∃i:Nat,x.p % 8=i:=⟨(x.p % 8).toNat,ap⟩
  obtain⟨aT,rest,j9,u9,u_⟩:=YH i ap;have t6:∀(b0 b1 b2:bO) (cs:List C) (fl:Nat),bG [b0,b1,b2,.box cs fl] 1 ab (.c (.sl 3 0 8 8 0 1)) (.c (.f (.int .u8 (i:Int))))=aa (.c (.ptr 3 i 0)):=by
   intro b0 b1 b2 cs fl;simp[bG,fG];omega
  have t7:∀(b0 b1 b2:bO) (fl:Nat),aV [b0,b1,b2,.box [.f (fi 7),.f (fi 7),.f (fi 2),.f (fi 3),.f (fi 4),.f (fi 6),.f (fi 1),.f (fi 7)] fl] ab (.c (.ptr 3 i 0))=aa (vi aT):=by
   intro b0 b1 b2 fl;simp only[ax,agX,ag2,j9];rfl
  have i9:∀t:T,t.g 1=.c (.ptr 0 0 0)->t.g 2=.c (.ptr 1 0 0)->t.g 3=.c (.ptr 2 0 0)->t.g 4=.c (.ptr 4 0 0)->WP tab wU ab [.code NV] ⟨t,[],
    [.box [.f (.int .u8 x.m),.f (.int .u8 x.r),.f (.int .u8 x.t),.f (.int .u8 x.z),.f (.int .u8 x.f),.f (.int .u8 x.p),.f (.int .u8 x.c),.f (.int .u8 x.mi),.f (.int .u8 x.le),.f (sl x.eg (fV x.ex))] 0,
     .box [.f (fi 0),.f (fi 0),.f (fi 0),.f (fi 0),.f .aJ,.f (fi 0),.f .aJ] 0,
     .box [.f (fi (1+x.m % 6)),.f (fi (x.r % 3)),.f (fi (x.t % 3)),.f (fi (1+x.z % 12)),.f .aJ,.f (fi 0),.f .aJ] 0,
     .box [.f (fi 7),.f (fi 7),.f (fi 2),.f (fi 3),.f (fi 4),.f (fi 6),.f (fi 1),.f (fi 7)] 0,
     .box [.f .aJ,.f (fi (x.f % 9)),.f (fi aT),.f .aJ] 0]⟩ Q:=by
   intro t d A m W;obtain⟨F,O⟩:=aI ([C.f (.int .u8 x.m),.f (.int .u8 x.r),.f (.int .u8 x.t),.f (.int .u8 x.z),.f (.int .u8 x.f),.f (.int .u8 x.p),.f (.int .u8 x.c),.f (.int .u8 x.mi),.f (.int .u8 x.le),.f (sl x.eg (fV x.ex))]);rw[<-O];have q6:F.drop 6=[.f (.int .u8 x.c),.f (.int .u8 x.mi),.f (.int .u8 x.le),.f (sl x.eg (fV x.ex))]:=by rw[O];rfl
   have q7:F.drop 7=[.f (.int .u8 x.mi),.f (.int .u8 x.le),.f (sl x.eg (fV x.ex))]:=by rw[O];rfl
   have q8:F.drop 8=[.f (.int .u8 x.le),.f (sl x.eg (fV x.ex))]:=by rw[O];rfl
   have q9:F.drop 9=[.f (sl x.eg (fV x.ex))]:=by rw[O];rfl
   have J:∀(t:T) (H:an) (X:C) (l:List Int),t.g 1=.c (.ptr 0 0 0)->t.g 2=.c (.ptr 1 0 0)->t.g 3=.c (.ptr 2 0 0)->H[0]?=aa (.box F 0)->
     H[1]?=aa (.box [.f (fi 0),.f (fi 0),.f (fi 0),.f (fi 0),.f .aJ,.f (fi 0),.f .aJ] 0)->
     H[2]?=aa (.box [.f (fi (1+x.m % 6)),.f (fi (x.r % 3)),.f (fi (x.t % 3)),.f (fi (1+x.z % 12)),X,.f (fi (15*(1+x.le % 12))),.f .aJ] 0)->
     Sz H X (x.f % 9) aT (60+15*(x.mi % 80)) l->uo aT l->(X≠.f .aJ->l≠[])->WP tab wU ab [.code JQ] ⟨t,[],H⟩ Q:=by
    intro t H X l d A m B q g hX U t8;obtain⟨E,i_⟩:=aI (15*(1+x.le % 12));have r7:0<=E:=by omega
    have r9:E<=1000:=by omega
    rw[<-i_]at g;have t_:0<=x.ex.length:=Nat.zero_le _;apply au;apply ai;simp;refine jy (min x.ex.length 3) (λj t H=>t.g 1=.c (.ptr 0 0 0)/\t.g 2=.c (.ptr 1 0 0)/\t.g 3=.c (.ptr 2 0 0)/\H[0]?=aa (.box F 0)/\H[1]?=aa (.box [.f (fi 0),.f (fi 0),.f (fi 0),.f (fi 0),.f .aJ,.f (fi 0),.f .aJ] 0)/\
     Sz H X (x.f % 9) aT (60+15*(x.mi % 80)) l/\∃eg xs,H[2]?=aa (.box [.f (fi (1+x.m % 6)),.f (fi (x.r % 3)),.f (fi (x.t % 3)),.f (fi (1+x.z % 12)),X,.f (fi E),.f (sl eg (aF xs))] 0)/\xs.length<=j/\xs.Pairwise aC.lt/\∀y∈xs,F4 E y) ap rfl bv
     ⟨by simp[d],by simp[A],by simp[m],B,q,hX,.nil,[],g,bv,bv,bv⟩ ?_ ?_ ?_
    .rintro j t H L hj ⟨d,A,m,B,q,hX,eg,xs,g,c9,a_,Z⟩ K hL;simp[K,d,B,q9];by_cases k1:j<x.ex.length
     .simp[k1,K];refine hL _ ⟨by simp[d],by simp[A],by simp[m],B,q,hX,eg,xs,g,c9,a_,Z⟩ (by simp[K]) ?_;simp;omega
     .simp[k1];refine hL _ ⟨by simp[d],by simp[A],by simp[m],B,q,hX,eg,xs,g,c9,a_,Z⟩ (by simp[K]) ?_;simp;omega
    .rintro j t H hj ⟨d,A,m,B,q,hX,eg,xs,g,c9,a_,Z⟩ K next
     have b_:j<x.ex.length:=by omega
     obtain⟨e1,e2⟩:=hb x.ex[j] (IN b_);have g_:=λH:an=>T' (H:=H) b_;generalize x.ex[j]=e at e1 e2 g_;have i7:cT .rem (.c (.f (.int .u8 e))) (.c (.f (.int .u8 14)))=aa (.c (.f (.int .u8 (e % 14)))):=by simp (disch:=omega) [dp,agE]
     have m9:cT .quo (.c (.f (.int .u8 e))) (.c (.f (.int .u8 4)))=aa (.c (.f (.int .u8 (e / 4)))):=by simp (disch:=omega) [gq,agY,nz]
     refine ay ?_;apply ai;simp[d,B,q9,K,bz,b_,g_,i7,aZ (n:=e % 14)];apply ai;simp[d,B,q9,K,bz,b_,g_,m9,aZ (n:=e / 4),aZ (n:=15*(e / 4)),aZ (n:=e % 14*1440),aZ (n:=e % 14*1440+90),aZ (n:=e % 14*1440+90+15*(e / 4))];obtain⟨q_,n9,v_,⟨k_,j7⟩,d9⟩:=LU eg xs ⟨e % 14,e % 14*1440+90+15*(e / 4),e % 14*1440+90+15*(e / 4)+E⟩ ap a_;have j8:∀y∈n9,F4 E y:=λy S=>by
      rcases(j7 y).1 S with rfl|S
      .exact⟨rfl,by show 0<=e % 14;omega,by show e % 14<=13;omega,by show 90<=e % 14*1440+90+15*(e / 4);omega,by show e % 14*1440+90+15*(e / 4)<=20000;omega⟩
      .exact Z y S
     simp[aC.row]at d9;refine aq (.inl rfl) ?_;simp[m,g,aZ (n:=e % 14*1440+90+15*(e / 4)+E),d9];refine av (next _ _ ?_ (by simp[K]));exact⟨by simp[d],by simp[A],by simp[m],by rw[sh ce];exact B,by rw[sh ce];exact q,hX.set ce g,q_,n9,by rw[BY (aj g)],ap,k_,j8⟩
    .rintro t H ⟨d,A,m,B,q,hX,eg,xs,g,c9,a_,Z⟩ K;apply ai;simp[A,m,q,g];have s7:=hX.set (cs':=[.f (fi (1+x.m % 6)),.f (fi (x.r % 3)),.f (fi (x.t % 3)),.f (fi (1+x.z % 12)),X,.f (fi E),.f (sl eg (aF xs))]) (fl':=0) ce q;obtain⟨cg,cs,r5,r6⟩:=s7.ex U.2.2;refine az (hQ _ _ _ ⟨⟨1+x.m % 6,x.r % 3,x.t % 3,1+x.z % 12,⟨cg,cs,E,eg,xs⟩⟩,⟨ge,ge,ge,ge,ge,ge,ge,ge,?_⟩,rfl⟩ ?_)
     .refine⟨?_,ge,ge,ge,by simpa using a_,by simpa using Z⟩;rcases r6 with rfl|⟨e,rfl⟩
      .exact .inl rfl
      .exact .inr ⟨_,_,_,_,rfl,ap,ap,ap,ap,t8 e,U,ap,ap⟩
     .simp[A,aj q,aG.row];simp[jh,bu,r5]
   have c_:∀(t:T) (H:an) (c:C) (l:List Int),t.g 1=.c (.ptr 0 0 0)->t.g 2=.c (.ptr 1 0 0)->t.g 3=.c (.ptr 2 0 0)->t.g 4=.c (.ptr 4 0 0)->H[0]?=aa (.box F 0)->
     H[1]?=aa (.box [.f (fi 0),.f (fi 0),.f (fi 0),.f (fi 0),.f .aJ,.f (fi 0),.f .aJ] 0)->
     H[2]?=aa (.box [.f (fi (1+x.m % 6)),.f (fi (x.r % 3)),.f (fi (x.t % 3)),.f (fi (1+x.z % 12)),.f .aJ,.f (fi 0),.f .aJ] 0)->
     H[4]?=aa (.box [.f .aJ,.f (fi (x.f % 9)),.f (fi aT),c] 0)->5<=H.length->BQ ae H c l->uo aT l->WP tab wU ab [.code JP] ⟨t,[],H⟩ Q:=by
    intro t H c l d A m W B q g h4 h5 hB U;have i6:cT .rem (.c (.f (.int .u8 x.le))) (.c (.f (.int .u8 12)))=aa (.c (.f (.int .u8 (x.le % 12)))):=by simp (disch:=omega) [dp,agE]
    have i8:cT .rem (.c (.f (.int .u8 x.mi))) (.c (.f (.int .u8 80)))=aa (.c (.f (.int .u8 (x.mi % 80)))):=by simp (disch:=omega) [dp,agE]
    apply ai;simp[d,m,B,g,q8,i6,aZ (n:=x.le % 12),aZ (n:=1+x.le % 12),aZ (n:=15*(1+x.le % 12))];obtain⟨v,M⟩:=aI (H.set 2 (.box [.f (fi (1+x.m % 6)),.f (fi (x.r % 3)),.f (fi (x.t % 3)),.f (fi (1+x.z % 12)),.f .aJ,.f (fi (15*(1+x.le % 12))),.f .aJ] 0));rw[<-M];have a0:v[0]?=aa (.box F 0):=by rw[M,sh ce];exact B
    have a1:v[1]?=aa (.box [.f (fi 0),.f (fi 0),.f (fi 0),.f (fi 0),.f .aJ,.f (fi 0),.f .aJ] 0):=by rw[M,sh ce];exact q
    have a4:v[4]?=aa (.box [.f .aJ,.f (fi (x.f % 9)),.f (fi aT),c] 0):=by rw[M,sh ce];exact h4
    have a2:v[2]?=aa (.box [.f (fi (1+x.m % 6)),.f (fi (x.r % 3)),.f (fi (x.t % 3)),.f (fi (1+x.z % 12)),.f .aJ,.f (fi (15*(1+x.le % 12))),.f .aJ] 0):=by rw[M,BY (aj g)]
    have aB:BQ ae v c l:=by rw[M];exact hB.set g
    have aL:5<=v.length:=by rw[M,agx];exact h5
    clear M;apply ai;simp[d,a0,q7,i8,aZ (n:=x.mi % 80),aZ (n:=15*(x.mi % 80)),aZ (n:=60+15*(x.mi % 80))];apply ai;have n_:∀(L:an) (h:2<(v++L).length),(v++L)[2]=.box [.f (fi (1+x.m % 6)),.f (fi (x.r % 3)),.f (fi (x.t % 3)),.f (fi (1+x.z % 12)),.f .aJ,.f (fi (15*(1+x.le % 12))),.f .aJ] 0:=λL h=>by
     have:=AI (l₂:=L) (aj a2);rw[a2,By h]at this;exact aiy this
    simp[m,W,a4,n_];obtain⟨MI,r_⟩:=aI (60+15*(x.mi % 80));rw[<-r_]at J ⊢;obtain⟨H2,N⟩:∃H2,H2=(v++[bO.box [.f .aJ,.f (fi (x.f % 9)),.f (fi aT),c] 0,.box [.sl v.length 0 1 1 0 4] 0,.box [.sl (v.length+1) 0 1 1 0 1,.f (fi MI)] 0]).set 2
     (.box [.f (fi (1+x.m % 6)),.f (fi (x.r % 3)),.f (fi (x.t % 3)),.f (fi (1+x.z % 12)),.sl (v.length+2) 0 1 1 0 2,.f (fi (15*(1+x.le % 12))),.f .aJ] 0):=⟨_,rfl⟩
    rw[<-N];have up:∀(b:Nat) cs fl,b≠2->v[b]?=aa (.box cs fl)->H2[b]?=aa (.box cs fl):=λb cs fl hb h=>by
     rw[N,sh (Ne.symm hb),AI (aj h)];exact h
    have b0:=up _ _ _ ce a0;have b1:=up _ _ _ ce a1;have b4:=up _ _ _ ce a4;have b2:H2[2]?=aa (.box [.f (fi (1+x.m % 6)),.f (fi (x.r % 3)),.f (fi (x.t % 3)),.f (fi (1+x.z % 12)),.sl (v.length+2) 0 1 1 0 2,.f (fi (15*(1+x.le % 12))),.f .aJ] 0):=by
     rw[N,BY bv]
    have o_:H2[v.length]?=aa (.box [.f .aJ,.f (fi (x.f % 9)),.f (fi aT),c] 0):=by rw[N,sh ap];simp
    have p9:H2[v.length+1]?=aa (.box [.sl v.length 0 1 1 0 4] 0):=by rw[N,sh ap];simp
    have p_:H2[v.length+2]?=aa (.box [.sl (v.length+1) 0 1 1 0 1,.f (fi MI)] 0):=by rw[N,sh ap];simp
    have bB:BQ ae H2 c l:=by
     rw[N];refine(aB.push _).set (cs:=[.f (fi (1+x.m % 6)),.f (fi (x.r % 3)),.f (fi (x.t % 3)),.f (fi (1+x.z % 12)),.f .aJ,.f (fi (15*(1+x.le % 12))),.f .aJ]) (fl:=0) ?_;rw[AI ap];exact a2
    clear N;have I:=Qx ⟨.nil,[],x.f % 9,aT,.nil,l⟩ (by have:=U.2.2;simp[aO.Sm];omega);obtain⟨be,e_⟩:=aI ((cI ⟨.nil,[],x.f % 9,aT,.nil,l⟩&&decide ((([]:List Int).length:Int)+l.length=0)));simp only[<-e_]at I;have s_:fh deep H2 c=aa (sl .nil (ints l)):=bB.ex 63;obtain⟨mB,mK⟩:=bB.mk 63;have f_:ef (63+1) c H2=ef deep c H2:=rfl;rw[f_]at mB mK;have j_:sl .nil (ints [])=.aJ:=rfl;simp[aO.row,j_]at I;apply au;apply ai;simp[W,b4,s_,I];have m0:=mK _ _ _ b0;have m1:=mK _ _ _ b1;have m2:=mK _ _ _ b2;have mC:Sz (ef deep c H2) (.sl (v.length+2) 0 1 1 0 2) (x.f % 9) aT MI l:=.inr ⟨v.length,c,0,0,0,aL,rfl,mK _ _ _ o_,mK _ _ _ p9,mK _ _ _ p_,mB⟩;have h_:cI ⟨.nil,[],x.f % 9,aT,.nil,l⟩=ae:=by
     have hr:∀(l:List Int) (last:Int),l.Pairwise (· < ·)->(∀c∈l,last<c/\c<(aT:Int))->cH aT last l=ae:=by
      intro l;induction l with
      |nil=>intros;rfl
      |cons a l ih=>
       intro last hp Y;have q:=Y a ago;have g:=ahm.1 hp;simp only[cH,decide_eq_true q.1,decide_eq_true q.2,ahh];exact ih a g.2 λc j5=>⟨g.1 c j5,(Y c (agr _ j5)).2⟩
     have h3:=U.2.2;have h4:=hr l (-1) U.1 λc Y=>⟨by have:=(U.2.1 c Y).1;omega,(U.2.1 c Y).2⟩
     unfold cI;simp only[h4];simp[cH];omega
    rw[h_]at e_;cases be
    .have j6:l≠[]:=by rintro rfl;simp at e_
     refine bE bv ?_;exact J _ _ _ l (by simp[d]) (by simp[A]) (by simp[m]) m0 m1 m2 mC U λ_=>j6
    .refine aw bv ?_;refine aq (.inl rfl) ?_;simp[m,m2];refine J _ _ (.f .aJ) l (by simp[d]) (by simp[A]) (by simp[m]) ?_ ?_ ?_ (.inl rfl) U bv
     .rw[sh ce];exact m0
     .rw[sh ce];exact m1
     .rw[BY (aj m2)]
   apply au;apply ai;simp;refine jy aT (λj t H=>t.g 1=.c (.ptr 0 0 0)/\t.g 2=.c (.ptr 1 0 0)/\t.g 3=.c (.ptr 2 0 0)/\t.g 4=.c (.ptr 4 0 0)/\H[0]?=aa (.box F 0)/\
    H[1]?=aa (.box [.f (fi 0),.f (fi 0),.f (fi 0),.f (fi 0),.f .aJ,.f (fi 0),.f .aJ] 0)/\
    H[2]?=aa (.box [.f (fi (1+x.m % 6)),.f (fi (x.r % 3)),.f (fi (x.t % 3)),.f (fi (1+x.z % 12)),.f .aJ,.f (fi 0),.f .aJ] 0)/\5<=H.length/\
    ∃c l,H[4]?=aa (.box [.f .aJ,.f (fi (x.f % 9)),.f (fi aT),c] 0)/\BQ ae H c l/\l.length<=j/\l.Pairwise (· < ·)/\∀c∈l,0<=c/\c<(j:Int)) ap rfl bv
    ⟨by simp[d],by simp[A],by simp[m],by simp[W],rfl,rfl,rfl,bv,.f .aJ,[],rfl,.inl ⟨rfl,rfl⟩,bv,bv,bv⟩ ?_ ?_ ?_
   .rintro j t H L hj ⟨d,A,m,W,B,q,g,h5,c,l,h4,hB,U,hp,Y⟩ K hL;simp[K,W,h4];exact hL _ ⟨by simp[d],by simp[A],by simp[m],by simp[W],B,q,g,h5,c,l,h4,hB,U,hp,Y⟩ (by simp[K]) bv
   .rintro j t H hj ⟨d,A,m,W,B,q,g,h5,c,l,h4,hB,U,hp,Y⟩ K next
    obtain⟨u,hu⟩:∃u,cT .shr (.c (.f (.int .u8 x.c))) (vi (j:Int))=aa (.c (.f (.int .u8 u))):=⟨_,by simp[cT];rfl⟩
    obtain⟨w,hw⟩:∃w,cT .rem (.c (.f (.int .u8 u))) (.c (.f (.int .u8 2)))=aa (.c (.f (.int .u8 w))):=⟨_,by simp[dp];rfl⟩
    refine ay ?_;apply ai;simp[d,B,q6,K,hu,hw];by_cases l_:w=1
    .refine aw (by simp[l_]) ?_;obtain⟨v',H',e1,e2,e3,e4⟩:=LB.app (H:=H++[.box [.f (fi j)] 0]) (row:=[fi j]) (bytes:=8) (y:=.c (.sl H.length 0 1 1 0 1)) ((hB.i).push _) (LW _) rfl ce
      (lV (fl:=0) (cs:=[.f (fi j)]) bv rfl) (by simp[bu]) (by simp[cD];omega)
     obtain⟨c',rfl,_⟩:=e2.len;have e2:LBi ae H' c' (l++[(j:Int)]):=by
      have:ints (l++[(j:Int)])=ints l++[[fi j]]:=by simp[ints]
      show LB ae H' 1 (.c c') .nil (ints (l++[(j:Int)]));rw[this];exact e2
     have up:∀(b:Nat) cs fl,H[b]?=aa (.box cs fl)->H'[b]?=aa (.box cs fl):=λb cs fl hb=>e4 _ _ _ (by rw[AI (aj hb)];exact hb);have d_:=up _ _ _ h4;refine aq (.inl rfl) ?_;simp[W,h4,K,e1,d_];refine av (next _ _ ?_ (by simp[K]));refine⟨by simp[d],by simp[A],by simp[m],by simp[W],by rw[sh ce];exact up _ _ _ B,by rw[sh ce];exact up _ _ _ q,by rw[sh ce];exact up _ _ _ g,by simp at e3 ⊢;omega,
      c',l++[(j:Int)],BY (aj d_),e2.j.set d_,ge,by
       rw[List.pairwise_append];exact⟨hp,List.pairwise_singleton _ _,λy S z hz=>by obtain rfl:=If.1 hz;exact(Y y S).2⟩,λy S=>by
       rcases agl.1 S with S|S
       .have:=Y y S;omega
       .obtain rfl:=If.1 S;omega⟩
    .refine aD (by simp[l_]) ?_;refine aR (av (next _ _ ?_ (by simp[K])));exact⟨by simp[d],by simp[A],by simp[m],by simp[W],B,q,g,h5,c,l,h4,hB,ap,hp,λy S=>by have:=Y y S;omega⟩
   .rintro t H ⟨d,A,m,W,B,q,g,h5,c,l,h4,hB,U,hp,Y⟩ K;exact c_ t H c l d A m W B q g h4 h5 hB ⟨hp,λy S=>by have:=Y y S;omega,ap⟩
  apply ai;simp[qV.row];apply ai;simp (disch:=omega) [wrap64,nz,agE,agY,dp,gq,ag2,agX];apply ai;have n8:cT .rem (.c (.f (.int .u8 x.f))) (.c (.f (.int .u8 9)))=aa (.c (.f (.int .u8 (x.f % 9)))):=by simp (disch:=omega) [dp,agE]
  have m_:cT .rem (.c (.f (.int .u8 x.p))) (.c (.f (.int .u8 8)))=aa (.c (.f (.int .u8 (i:Int)))):=by simp (disch:=omega) [dp,agE,hi]
  simp[n8,m_,t6,t7,aZ (n:=x.f % 9)];exact i9 _ bv bv bv bv
 exact⟨s,hs,h⟩
end Go.Proofs.YtelifakcllijpaaGreat
namespace Go.Proofs.YtelifakcllijpaaGreat
open Go Km
structure Few(p:aO):Prop where
 hd:p.head=[]
 fr0:0<=p.fr
 fr1:p.fr<=1000
 agf:1<=p.aT
 Zr:p.aT<=7
 bF:p.bF≠[]
 len:p.bF.length<=7
 ris:p.bF.Pairwise (· < ·)
 mem:∀c∈p.bF,0<=c/\c<p.aT
end Go.Proofs.YtelifakcllijpaaGreat
namespace Go.Proofs.YtelifakcllijpaaGreat
open Go Km
end Go.Proofs.YtelifakcllijpaaGreat
namespace Go.Proofs.YtelifakcllijpaaGreat
open Go Km
theorem xI{p:aO}(h:Few p):cI p=ae:=by
 have u:∀(l:List Int) (last:Int),l.Pairwise (· < ·)->(∀c∈l,last<c/\c<p.aT)->cH p.aT last l=ae:=by
  intro l;induction l with
  |nil=>intros;rfl
  |cons a l v=>
   intro last s b;have g:=b a ago;have j:=ahm.1 s;simp only[cH,decide_eq_true g.1,decide_eq_true g.2,ahh];exact v a j.2 λc d=>⟨j.1 c d,(b c (agr _ d)).2⟩
 have q:=u p.bF (-1) h.ris λc b=>⟨by have:=(h.mem c b).1;omega,(h.mem c b).2⟩
 obtain⟨m,x,y,A,B,_,z,_,_⟩:=h;unfold cI;rw[q,m];simp[cH];omega
end Go.Proofs.YtelifakcllijpaaGreat
namespace Go.Proofs.YtelifakcllijpaaGreat
open Go Km
end Go.Proofs.YtelifakcllijpaaGreat
namespace Go.Proofs.YtelifakcllijpaaGreat
open Go Km
end Go.Proofs.YtelifakcllijpaaGreat
namespace Go.Proofs.YtelifakcllijpaaGreat
open Go Km
end Go.Proofs.YtelifakcllijpaaGreat
namespace Go.Proofs.YtelifakcllijpaaGreat
open Go Km
def I2:bO->Bool
 | .dj _ _ _ _ _=>ag| _=>ae
theorem Gu{f p:Int}{l:List Int}(d:0<=f)(q:f<=8)(g:1<=p)(j:p<=7)(m:l≠[])(b:uo p l):Few (cG f p l):=
 ⟨rfl,d,by show f<=1000;omega,g,j,m,b.2.2,b.1,b.2.1⟩
def W4(cs:List cW):Prop:=cs=[]\/∃f p l b,cs=[⟨.fs,[⟨.fs,[cG f p l]⟩],b⟩]/\0<=f/\f<=8/\1<=p/\p<=7/\l≠[]/\uo p l/\0<=b/\b<=1245
def BP(len:Int)(x:aC):Prop:=x.to=x.fr+len/\0<=x.day/\x.day<=13/\0<=x.fr/\x.fr<=20000
def cZ(s:aH):Prop:=W4 s.cs/\15<=s.len/\s.len<=220/\s.xs.length<=3/\s.xs.Pairwise aC.lt/\∀x∈s.xs,BP s.len x
theorem dP.two{s:aH}(h:dP s):cZ s:=by
 obtain⟨h1,h2,h3,h4,h5,h6⟩:=h;refine⟨?_,h2,ap,h4,h5,λx q=>?_⟩
 .rcases h1 with e|⟨f,p,l,mi,e,a1,b,a3,a4,a5,d,u,g⟩
  .exact .inl e
  .exact .inr ⟨f,p,l,mi,e,a1,b,a3,a4,a5,d,ap,g⟩
 .obtain⟨b1,j,b3,b4,m⟩:=h6 x q;exact⟨b1,j,b3,ap,m⟩
theorem kP{s:aH}(h:cZ s):s.Sm:=by
 obtain⟨b,_,_,v,_,_⟩:=h;refine⟨?_,ap,?_⟩
 .rcases b with e|⟨_,_,_,_,e,_⟩<;>rw[e]<;>simp
 .rcases b with e|⟨f,p,l,x,e,d,g,j,m,q,u,_⟩
  .rw[e];simp
  .rw[e];intro c b;simp at b;subst b;simp[cV.Sm];exact kj (xI (Gu d g j m q u))
theorem mw{s:aH}(h:cZ s):gW s=ae:=by
 obtain⟨F,B,E,X,q,hi⟩:=h;have j:eV ab s.cs=ae:=by
  rcases F with e|⟨f,p,l,S,e,H,B,E,I,J,K,U,W⟩
  .rw[e];rfl
  .have L:=xI (Gu H B E I J K);rw[e];simp[eV,jz,jD,L,bU];omega
 have z:∀(xs:List aC) (b:Option aC),xs.Pairwise aC.lt->(∀x∈xs,BP s.len x)->(∀m,b=aa m->∀x∈xs,m.lt x)->jR b xs=ae:=by
  intro xs;induction xs with
  |nil=>intros;rfl
  |cons x xs Q=>
   intro b q hi u;have g:=ahm.1 q;obtain⟨Y,Z,i3,i4,i5⟩:=hi x ago;have M:pI x=ae:=by
    simp[pI,bU];omega
   have O:(b.all λm=>decide (fO m x<0))=ae:=by
    cases b with
    |none=>rfl
    |some m=>
     have:=(nR _ _).2 (u m rfl x ago);simp[this]
   simp only[jR,M,O,ahh];exact Q (aa x) g.2 (λy A=>hi y (agr _ A)) λm N y A=>by cases N;exact g.1 y A
 have v:=z s.xs ab q hi bv;have d:(s.cs.length:Int)<=64:=by
  rcases F with e|⟨f,p,l,S,e,_⟩<;>rw[e]<;>simp
 unfold gW;rw[j,v];simp[bU,d];omega
end Go.Proofs.YtelifakcllijpaaGreat
namespace Go.Proofs.YtelifakcllijpaaGreat
open Go Km
def sC(s:aH)(y:aC):Prop:=(∃c∈s.cs,∃d,rB c.ts 0 d/\y=bV s.len c.min d)\/y∈s.xs
theorem P9{lo hi:Int}(S:0<=lo)(U:lo<hi)(W:hi<=1440)(cl:Option Nat)(hc:∀c,cl=aa c->c<20)(p:aO)(hp:jG 12 p)(g:Tg)(m:Nat)(hm:m<=1430)(le:Int)(l0:1<=le)(l1:le<=10080) :
  ∃B E D z,ib 27720 1 64 B/\(∀d,0<=d->(cM B d↔bA p d=ae/\eC lo hi cl (d*1440+m) (d*1440+m+le)=ag))/\
   bg tab mL [.a ((mX lo hi (wB cl)).map .f),vi m,vi le]=Eq (.t [.a [.f (sl z (aX D))],vi 0])/\
   bg tab Db [.a [.f (sl g (aX [[p]]))],.a [.f (sl z (aX D))]]=Eq (.t [.a [.f (sl E (aX B))],vi 0]):=by
 obtain⟨D,z,Y,H,s⟩:=Rt lo hi S U W cl hc;have Z:ib 12 1 64 [[p]]:=⟨bv,λu M=>by
  simp only[If]at M;subst M;exact⟨bv,bv,λq L=>by simp only[If]at L;subst L;exact hp⟩⟩
 have I:∀d,cM [[p]] d↔bA p d=ae:=λd=>by simp[cM,dX]
 obtain⟨b,j,l,v,J⟩:∃b j,ib 27720 2 1 b/\(∀d,0<=d->(cM b d↔eC lo hi cl (d*1440+m) (d*1440+m+le)=ae))/\bg tab mL [.a ((mX lo hi (wB cl)).map .f),vi m,vi le]=Eq (.t [.a [.f (sl j (aX b))],vi 0]):=by
  have h:=s m hm le l0 l1;have K:∀d:Int,eC lo hi cl (d*1440+m) (d*1440+m+le)=ae↔(∀c:Nat,cl=aa c->d≠c)/\lo<=m/\(m:Int)+le<=hi:=λd=>by
   have N:(d*1440+(m:Int)) / 1440=d:=by omega
   have O:(d*1440+(m:Int)) % 1440=m:=by omega
   have Q:d*1440+(m:Int)+le-(d*1440+m)=le:=by omega
   cases cl<;>simp[eC,mR,N,O,Q]
  by_cases A:lo<=(m:Int)/\(m:Int)+le<=hi
  .rw[dF,bZ A]at h;exact⟨D,z,Y,λd x=>by rw[H d x,K d];exact⟨λh=>⟨h,A⟩,λh=>h.1⟩,h⟩
  .rw[dF,ct A]at h;exact⟨[],.nil,⟨bv,bv⟩,λd x=>by rw[K d];exact⟨λh=>by simp[cM]at h,λh=>absurd h.2 A⟩,h⟩
 obtain⟨r,hr,y⟩:=xY (m:=1) ce ce g j [[p]] b Z (jV l (ahw _) ce ce);have a_:lp b<=2:=by
  have:=l.1
  match b,l with
  |[],_=>decide| [u],h=>have:=(h.2 u bv).2.1;simpa[lp]using this
  |_::_::_,h=>have:=h.1;simp at this
 rcases hr with⟨B,E,X,-,F,rfl⟩|⟨-,h⟩
 .refine⟨B,E,b,j,X,λd x=>?_,J,y⟩;rw[F d x];show cM [[p]] d/\¬ cM b d↔_;rw[I d,v d x,Bool.not_eq_true]
 .simp at h;omega
theorem Ro(g:Tg){B:List (List aO)}(F:ib 27720 1 64 B):∃d f,(f=ag->∀k,0<=k->¬ cM B k)/\(f=ae->0<=d/\cM B d/\∀k,0<=k->cM B k->d<=k)/\(0<=d/\d<=1000001000000)/\bg tab U5 [.a [.f (sl g (aX B))],vi 0]=Eq (.t [vi d,vb f]):=by
 have A:=xV (jV F (ahw _) (show 1<=4 by decide) (agn 64));have K:∀t∈B.map (λs=>(⟨.fs,s⟩:cV)),oN t.fs:=λt E=>by
  obtain⟨u,l,rfl⟩:=agt.1 E;obtain⟨v,j,m⟩:=F.2 u l
  match u,v,j,m with
  |[q],_,_,m=>
   have J:=m q bv;have:=J.le;have:=J.fr;exact⟨bv,bv,λp L=>(m p L).mod,by simp[gE];omega,by simp[dz];omega⟩
  |_::_::_,_,j,_=>simp at j
 obtain⟨d,f,H,y,I⟩:=Ur g _ A K 0 ce ce;rw[Vj]at I;have e:∀k,0<=k->(rB (B.map λs=>⟨.fs,s⟩) 0 k↔cM B k):=λk b=>by
  unfold rB F3 cM;constructor
  .rintro⟨t,E,-,hi⟩;obtain⟨u,l,rfl⟩:=agt.1 E;exact⟨u,l,(iT b).1 hi⟩
  .rintro⟨u,l,hi⟩;exact⟨⟨.fs,u⟩,agt.2 ⟨u,l,rfl⟩,b,(iT b).2 hi⟩
 refine⟨d,f,λz k b x=>?_,λz=>?_,y,I⟩
 .rcases H with⟨-,-,h⟩|⟨h,-⟩
  .exact h k ((e k b).2 x)
  .rw[z]at h;cases h
 .rcases H with⟨h,-⟩|⟨-,v,j⟩
  .rw[z]at h;cases h
  .exact⟨y.1,(e d y.1).1 v,λk b x=>j k ((e k b).2 x)⟩
end Go.Proofs.YtelifakcllijpaaGreat
namespace Go.Proofs.YtelifakcllijpaaGreat
open Go Km
theorem Gz{lo hi:Int}(cl:Option Nat)(s:aH)(hx:s.xs.length<=3)(c9:∀x∈s.xs,0<=x.fr/\x.fr<=20000/\x.fr<x.to/\x.to<=x.fr+10080)(CL:Prop){Q:Option aE->St->Prop}
  (hQ:∀j st r,(∃(b:Bool) (x:aC),r=.t [vb b,.a (x.row.map .f),vi 0]/\(b=ae↔CL/\∀y∈s.xs,eC lo hi cl y.fr y.to=ae)/\(b=ag->sC s x/\eC lo hi cl x.fr x.to=ag/\x.fr<=2000000))->Km.px [.tmp (P.nat 4),.cell (P.nat 5) (aa 3),.tmp (P.nat 6)] r st->Q j st)
  (t:T) (J:an) (d:Bool) (f:aC) (O:t.g 2=.c (.ptr 0 0 0)) (g3:t.g 3=.c (.ptr 1 0 0)) (F:t.g 5=.c (.ptr 2 0 0)) (S:t.g 9=.c (.ptr 4 0 0)) (q:t.g 10=.c (.cl Af [.ptr 4 0 0,.ptr 3 0 0])) (X:t.g 7=vb d)
  (N:J[0]?=aa (.box ((mX lo hi (wB cl)).map .f) 0)) (j1:J[1]?=aa (.box (s.row.map .f) 0)) (E:J[2]?=aa (.box [.f (fi 0),.f (fi 0),.f (fi 0)] 0)) (Y:J[3]?=aa (.box [.f (.bool (!d))] 0)) (U:J[4]?=aa (.box (f.row.map .f) 0))
  (u:d=ae↔CL) (l:d=ag->sC s f/\eC lo hi cl f.fr f.to=ag/\f.fr<=2000000) :
  WP tab De ab [.code Da] ⟨t,[],J⟩ Q:=by
 have d9:∀K:an,K[1]?=aa (.box (s.row.map .f) 0)->aV K ab (.c (.ptr 1 2 0))=aa (.c (.f (sl s.xg (aF s.xs)))):=λK h=>by simp[aV,aA,h,aH.row]
 have c_:∀K:an,K[0]?=aa (.box ((mX lo hi (wB cl)).map .f) 0)->aV K (aa 10) (.c (.ptr 0 0 0))=aa (.a ((mX lo hi (wB cl)).map .f)):=λK h=>by simp[aV,aA,h,mX,aW]
 have Z:∀K:an,bh K (.f (sl s.xg (aF s.xs)))=aa s.xs.length:=λK=>by simp[aF]
 refine au (ai ?_);simp[g3,d9 _ j1,Z,-ax];refine bS s.xs.length (λj t K=>t.g 2=.c (.ptr 0 0 0)/\t.g 5=.c (.ptr 2 0 0)/\t.g 9=.c (.ptr 4 0 0)/\t.g 10=.c (.cl Af [.ptr 4 0 0,.ptr 3 0 0])/\t.g 103=.c (.f (sl s.xg (aF s.xs)))/\K[0]?=aa (.box ((mX lo hi (wB cl)).map .f) 0)/\K[2]?=aa (.box [.f (fi 0),.f (fi 0),.f (fi 0)] 0)/\
   ∃(d:Bool) (f:aC),t.g 7=vb d/\K[3]?=aa (.box [.f (.bool (!d))] 0)/\K[4]?=aa (.box (f.row.map .f) 0)/\(d=ae↔CL/\∀y∈s.xs.take j,eC lo hi cl y.fr y.to=ae)/\(d=ag->sC s f/\eC lo hi cl f.fr f.to=ag/\f.fr<=2000000)) ap ce ce bv bv
  ⟨by simp[O],by simp[F],by simp[S],by simp[q],bv,N,E,d,f,by simp[X],Y,U,by simpa using u,l⟩ ?_ ?_
 .rintro j t K hj ⟨O,F,S,q,m,N,E,d,f,X,Y,U,u,l⟩ ha hb next
  have ix:=λH:an=>bz (H:=H) (g:=s.xg) (rows:=aF s.xs) (sz:=3) (k:=.i64) (i:=(j:Int)) ap (by simp[aF];omega);have ld:=λH:an=>cf (H:=H) (rows:=aF s.xs) (sz:=3) (cR.map λ_=>rfl) (j:=j) (row:=s.xs[j].row) (by simp[aF,hj]);simp only[agD]at ix;have M:=c9 _ (IN hj);have B:s.xs[j]∈s.xs:=IN hj;have L:s.xs.take (j+1)=s.xs.take j++[s.xs[j]]:=by rw[List.take_add_one,By hj];rfl
  obtain⟨x,b_⟩:=aI (s.xs[j]);rw[<-b_]at ld M B L;have a_:=Gb (lo:=lo) (hi:=hi) cl x.fr x.to M.1 ap M.2.2.1 ap;obtain⟨W,I⟩:=aI (K++[bO.box [.f (fi x.day),.f (fi x.fr),.f (fi x.to)] 0]:an);have z:Kp K W:=by rw[I];exact Kp.push _ _
  have qx:W[K.length]?=aa (.box [.f (fi x.day),.f (fi x.fr),.f (fi x.to)] 0):=by rw[I];simp
  have d_:aV W (aa 2) (.c (.ptr K.length 1 0))=aa (.a [.f (fi x.fr),.f (fi x.to)]):=by simp[aV,aA,qx,aW]
  have e_:aV W (aa 3) (.c (.ptr K.length 0 0))=aa (.a [.f (fi x.day),.f (fi x.fr),.f (fi x.to)]):=by simp[aV,aA,qx,aW]
  refine ay ?_;apply ai;simp[m,ha,ix,ld,aC.row,-ax];rw[<-I];apply ai;simp[O,c_ _ (z.get N),d_,a_,-ax];cases hA:eC lo hi cl x.fr x.to with
  |true=>
   refine aD bv (aR (av (next _ _ ?_ (by simp[ha]) (by simp[hb]))));refine⟨by simp[O],by simp[F],by simp[S],by simp[q],by simp[m],z.get N,z.get E,d,f,by simp[X],z.get Y,z.get U,?_,l⟩;rw[u,L];simp[hA,or_imp,forall_and]
  |false=>
   obtain⟨r,K2,A,rfl,f_,v,y4,y3⟩:=yz (H:=W) (a:=4) (b:=3) ce x f (!d) (z.get U) (z.get Y);simp only[aC.row,agm,agp]at A;have A:=A.eq;have z0:K2[0]?=aa (.box ((mX lo hi (wB cl)).map .f) 0):=by rw[v 0 (aj (z.get N)) ce ce];exact z.get N
   have z2:K2[2]?=aa (.box [.f (fi 0),.f (fi 0),.f (fi 0)] 0):=by rw[v 2 (aj (z.get E)) ce ce];exact z.get E
   refine aw bv ?_;apply ai;simp;refine aq (.inl rfl) ?_;simp[q,e_,A,cr,-ax];refine av (next _ _ ?_ (by simp[ha]) (by simp[hb]));refine⟨by simp[O],by simp[F],by simp[S],by simp[q],by simp[m],z0,z2,ag,_,bv,y3,y4,?_,λ_=>?_⟩
   .rw[L];simp[hA]
   .split
    .exact⟨.inr B,hA,ap⟩
    .rename_i hn;cases d with
     |true=>exact absurd (.inl rfl) hn| false=>exact l rfl
 .rintro t K ⟨O,F,S,q,m,N,E,d,f,X,Y,U,u,l⟩ - -;rw[List.take_length]at u;have l9:aV K (aa 3) (.c (.ptr 4 0 0))=aa (.a [.f (fi f.day),.f (fi f.fr),.f (fi f.to)]):=by simp[aV,aA,U,aW,aC.row]
  have s5:cY K (.ptr 2 0 0) [.f (fi f.day),.f (fi f.fr),.f (fi f.to)]=aa (K.set 2 (.box [.f (fi f.day),.f (fi f.fr),.f (fi f.to)] 0)):=by simp[cY,E,over]
  have k5:(K.set 2 (.box [.f (fi f.day),.f (fi f.fr),.f (fi f.to)] 0))[2]?=aa (.box [.f (fi f.day),.f (fi f.fr),.f (fi f.to)] 0):=BY (aj E);apply ai;simp[F,X,S,l9,s5,-ax,-bw];refine az (hQ _ _ _ ⟨d,f,rfl,u,l⟩ ⟨rfl,.t [vb d,.a (f.row.map .f),vi 0],?_,by simp[jh,dq,bu,aC.row]⟩);simp[Km.results,cC,bu,F,k5,aW,aC.row]
end Go.Proofs.YtelifakcllijpaaGreat
namespace Go.Proofs.YtelifakcllijpaaGreat
open Go Km
theorem GM{t:T}{l:List gX}{H:an}{K:V->St->Prop}{a b:Nat}(g:a≠b)(x f:aC)(v:Bool)(u:H[a]?=aa (.box (f.row.map .f) 0))(y:H[b]?=aa (.box [.f (.bool v)] 0))
  (h:∀d:an,(∀i:Nat,i<H.length->i≠a->i≠b->d[i]?=H[i]?)->d[a]?=aa (.box ((if v=ag\/fO x f<0 then x else f).row.map .f) 0)->d[b]?=aa (.box [.f (.bool ae)] 0)->K (.t []) ⟨t,l,d⟩) :
  KE (Ev tab (.fn Af) [.a (x.row.map .f),.c (.ptr a 0 0),.c (.ptr b 0 0)] H) t l K:=by
 obtain⟨r,d,j,rfl,-,m,q,s⟩:=yz g x f v u y;exact⟨_,_,j,h d m q s⟩
theorem Cy{f p:Int}{l:List Int}(j:0<=f)(s:f<=8)(m:1<=p)(u:p<=7)(b:uo p l):jG 12 (cG f p l):=by
 have d:∀(l:List Int) (last:Int),l.Pairwise (· < ·)->(∀c∈l,last<c/\c<p)->cH p last l=ae:=λl last q h=>qK h q;refine⟨?_,?_,?_,by show p<=12;omega⟩
 .have d:=d l (-1) b.1 λc g=>⟨by have:=(b.2.1 c g).1;omega,(b.2.1 c g).2⟩
  have:=b.2.2;simp only[cI,cG,d,cH];simp;exact⟨⟨⟨⟨decide_eq_true j,decide_eq_true ap⟩,decide_eq_true m⟩,decide_eq_true ap⟩,ap⟩
 .show f<=100000;omega
 .show p ∣ 27720;have:p=1\/p=2\/p=3\/p=4\/p=5\/p=6\/p=7:=by omega
  rcases this with rfl|rfl|rfl|rfl|rfl|rfl|rfl<;>decide
structure Rest(lo hi:Int)(cl:Option Nat)(s:aH)(CL:Prop)(t:T)(J:an)(hold:Bool)(f:aC):Prop where
 g2:t.g 2=.c (.ptr 0 0 0)
 g3:t.g 3=.c (.ptr 1 0 0)
 g5:t.g 5=.c (.ptr 2 0 0)
 g9:t.g 9=.c (.ptr 4 0 0)
 g10:t.g 10=.c (.cl Af [.ptr 4 0 0,.ptr 3 0 0])
 g7:t.g 7=vb hold
 j0:J[0]?=aa (.box ((mX lo hi (wB cl)).map .f) 0)
 j1:J[1]?=aa (.box (s.row.map .f) 0)
 j2:J[2]?=aa (.box [.f (fi 0),.f (fi 0),.f (fi 0)] 0)
 j3:J[3]?=aa (.box [.f (.bool (!hold))] 0)
 j4:J[4]?=aa (.box (f.row.map .f) 0)
 clx:hold=ae↔CL
 bad:hold=ag->sC s f/\eC lo hi cl f.fr f.to=ag/\f.fr<=2000000
def ab4(lo hi:Int)(cl:Option Nat)(s:aH)(d:Prop)(t:T)(J:an):Prop:=∃b f,Rest lo hi cl s d t J b f
theorem QR{lo hi:Int}(h0:0<=lo)(W:lo<hi)(Y:hi<=1440)(cl:Option Nat)(O:∀c,cl=aa c->c<20)(s:aH)(hs:cZ s) :
  ∃(b:Bool) (x:aC),(b=ae↔∀y,sC s y->eC lo hi cl y.fr y.to=ae)/\(b=ag->sC s x/\eC lo hi cl x.fr x.to=ag/\x.fr<=2000000)/\
   bg tab De [.a ((mX lo hi (wB cl)).map .f),.a (s.row.map .f)]=Eq (.t [vb b,.a (x.row.map .f),vi 0]):=by
 obtain⟨CL,K⟩:=aI (∀c∈s.cs,∀d,rB c.ts 0 d->eC lo hi cl (d*1440+c.min) (d*1440+c.min+s.len)=ae:Prop);have key:∃r,(∃(b:Bool) (x:aC),r=.t [vb b,.a (x.row.map .f),vi 0]/\(b=ae↔CL/\∀y∈s.xs,eC lo hi cl y.fr y.to=ae)/\(b=ag->sC s x/\eC lo hi cl x.fr x.to=ag/\x.fr<=2000000))/\bg tab De [.a ((mX lo hi (wB cl)).map .f),.a (s.row.map .f)] r:=by
  have H:=I4 lo hi h0 W Y cl O;have q:=vc s (kP hs);rw[mw hs]at q;obtain⟨c9,l0,l1,xl,-,d_⟩:=hs;refine dx rfl rfl λQ hQ=>?_;have F:∀(t:T) (J:an),ab4 lo hi cl s CL t J->WP tab De ab [.code Da] ⟨t,[],J⟩ Q:=by
   rintro t J ⟨d9,f,v⟩;exact Gz cl s xl (λx hx=>by obtain⟨e,-,-,a,b⟩:=d_ x hx;omega) CL (λj st r W Y=>hQ j st r W Y) t J d9 f v.g2 v.g3 v.g5 v.g9 v.g10 v.g7 v.j0 v.j1 v.j2 v.j3 v.j4 v.clx v.bad
  obtain⟨cg,cs,len,xg,xs⟩:=s;simp only at c9 l0 l1 xl d_ K;simp only[mX,rM,aH.row,agm,agp]at H q;rcases c9 with rfl|⟨f,p,l,mi,rfl,f0,f1,p0,p1,-,hl,m0,m1⟩
  .simp only[aU,agp]at q
   repeat' first
    |(refine F _ _ ?_)
    |(apply au)
    |(refine ay ?_)
    |(refine eG ?_)
    |(refine eR ?_)
    |(refine av ?_)
    |(refine aR ?_)
    |(refine bJ rfl ?_)
    |(refine aw ?_ ?_;focus (simp;done))
    |(refine aD ?_ ?_;focus (simp;done))
    |(refine aq (.inl rfl) ?_;simp[mX,rM,aH.row,aU,H,q,sH])
   exact⟨ae,⟨0,0,0⟩,⟨bv,bv,bv,bv,bv,bv,rfl,rfl,rfl,rfl,rfl,by simp[K],bv⟩⟩
  .obtain⟨m,rfl⟩:∃m:Nat,mi=m:=⟨mi.toNat,ap⟩
   obtain⟨B,gB,D,gD,hB,I,z,N⟩:=P9 h0 W Y cl O (cG f p l) (Cy f0 f1 p0 p1 hl) .fs m ap len ap ap;obtain⟨eb,S,M⟩:=A4 gB (jV hB (ahw _) (show 1<=4 by decide) (agn 64));obtain⟨d,fn,i7,c_,u,E⟩:=Ro gB hB;have b_:∀d,rB [⟨.fs,[cG f p l]⟩] 0 d↔0<=d/\bA (cG f p l) d=ae:=λd=>by
    simp[rB,F3,wH,hasB]
   have a_:CL↔∀d,0<=d->¬ cM B d:=by
    rw[K];simp only[If,forall_eq,b_];constructor
    .intro h d u ha;obtain⟨a,b⟩:=(I d u).1 ha;rw[h d ⟨u,a⟩]at b;cases b
    .rintro h d ⟨u,ha⟩;cases hx:eC lo hi cl (d*1440+m) (d*1440+m+len)with
     |true=>rfl| false=>exact absurd ((I d u).2 ⟨ha,hx⟩) (h d u)
   have L:∀(g:Tg) (r:List FC) (rs:List (List FC)),sl g (r::rs)=.fs (r++rs.flatten) (rs.length+1):=λg r rs=>by simp[sl]
   have ed:sl .fs (aK [⟨.fs,[cG f p l]⟩])=sl .fs (aX [[cG f p l]]):=rfl;simp only[aU,agm,agp,cW.row,ed,L cg]at q;simp only[mX,rM,agm,agp]at z;simp at q;obtain⟨X,hX⟩:=aI (sl .fs (aX [[cG f p l]]));rw[<-hX]at q N ed;have v1:IntKind.i64.wrap 1=1:=by decide
   have w1:IntKind.wrap .i64 (2251799813685248-(m:Int))=2251799813685248-m:=aZ;have w2:IntKind.wrap .i64 (2251799813685248-(m:Int)-len)=2251799813685248-m-len:=aZ;have w3:IntKind.wrap .i64 (d*1440)=d*1440:=aZ;have w4:IntKind.wrap .i64 (d*1440+m)=d*1440+m:=aZ;have w5:IntKind.wrap .i64 (d*1440+m+len)=d*1440+m+len:=aZ;have q1:cT .quo (vi (2251799813685248-(m:Int)-len)) (vi 1440)=aa (vi ((2251799813685248-(m:Int)-len) / 1440)):=e9 ap ce ap;have q2:d<=(2251799813685248-(m:Int)-len) / 1440:=by omega
   have f_:fn = !eb:=by
    cases he:eb with
    |true=>
     cases hf:fn with
     |false=>rfl| true=>exact absurd (c_ hf).2.1 (S.1 he d u.1)
    |false=>
     cases hf:fn with
     |true=>rfl| false=>have h:=S.2 (i7 hf);rw[he]at h;cases h
   subst f_;cases A:eb
   all_goals simp only[A]at M E
   all_goals repeat' first
    |(refine F _ _ ?_)
    |(apply au)
    |(refine ay ?_)
    |(refine eG ?_)
    |(refine eR ?_)
    |(refine av ?_)
    |(refine aR ?_)
    |(refine bJ rfl ?_)
    |(refine aw ?_ ?_;focus (simp;done))
    |(refine aD ?_ ?_;focus (simp;done))
    |(refine GM ce (bV len m d) ⟨0,0,0⟩ ag rfl rfl ?_;intro K2 k2 k4 k3)
    |(refine aq (.inl rfl) ?_;simp[mX,rM,aH.row,aU,cW.row,ed,L cg,H,q,sH,bh,bG,fG,ig,uG,v1,z,N,M,E,w1,w2,w3,w4,w5,q1,q2,cr])
    |(simp[v1])
   .have hb:=c_ (by simp[A]);obtain⟨b1,Z⟩:=(I d u.1).1 hb.2.1;have e_:d<=1000:=by
     refine Int.not_lt.1 λi8=>?_;obtain⟨k,hk⟩:=aI ((d-20) / 420);have k1:20<=d-420*k/\d-420*k<440:=by omega
     have U:p ∣ 420:=by
      obtain rfl|rfl|rfl|rfl|rfl|rfl|rfl:p=1\/p=2\/p=3\/p=4\/p=5\/p=6\/p=7:=by omega
      all_goals decide
     have i6:bA (cG f p l) (d-420*k)=ae:=by
      rw[pP (p:=cG f p l) p0 (d:=d) (d':=d-420*k) (by show f<=d;omega) (by show f<=d-420*k;omega) (by
       show p ∣ d-420*k-d;have e:d-420*k-d=420*(-k):=by omega
       rw[e];exact Int.dvd_trans U (Int.dvd_mul_right _ _))]
      exact b1
     have g_:eC lo hi cl ((d-420*k)*1440+m) ((d-420*k)*1440+m+len)=ag:=by
      have e1:∀e:Int,(e*1440+(m:Int)) / 1440=e:=λe=>by omega
      have e2:∀e:Int,(e*1440+(m:Int)) % 1440=m:=λe=>by omega
      have e3:∀e:Int,e*1440+(m:Int)+len-(e*1440+m)=len:=λe=>by omega
      have ec:∀e:Int,20<=e->mR cl e=ag:=λe he=>by
       cases h_:cl with
       |none=>rfl
       |some c=>
        have:=O c h_;simp[mR];omega
      unfold eC at Z ⊢;rw[e1,e2,e3]at Z ⊢;rw[ec _ ap]at Z ⊢;exact Z
     have:=hb.2.2 _ ap ((I _ ap).2 ⟨i6,g_⟩);omega
    exact⟨ag,bV len m d,⟨bv,bv,bv,bv,bv,bv,(k2 0 bv ce ce).trans rfl,(k2 1 bv ce ce).trans (by simp[aH.row,aU,cW.row,L cg,ed]),(k2 2 bv ce ce).trans rfl,k3,by simpa using k4,by
     rw[a_];exact⟨λh=>(by cases h),λh=>absurd hb.2.1 (h d u.1)⟩,λ_=>⟨.inl ⟨_,If.2 rfl,d,(b_ d).2 ⟨u.1,b1⟩,rfl⟩,Z,by show d*1440+(m:Int)<=2000000;omega⟩⟩⟩
   .exact⟨ae,⟨0,0,0⟩,⟨bv,bv,bv,bv,bv,bv,rfl,by simp[aH.row,aU,cW.row,L cg,ed],rfl,rfl,rfl,by
     rw[a_];exact⟨λ_=>S.1 A,λ_=>rfl⟩,bv⟩⟩
 obtain⟨r,⟨b,x,rfl,W,Y⟩,hp⟩:=key;refine⟨b,x,W.trans ?_,Y,hp.eq⟩;rw[K];constructor
 .rintro⟨ha,hb⟩ y (⟨c,O,d,u,rfl⟩|hy)
  .exact ha c O d u
  .exact hb y hy
 .intro h;exact⟨λc O d u=>h _ (.inl ⟨c,O,d,u,rfl⟩),λy hy=>h y (.inr hy)⟩
end Go.Proofs.YtelifakcllijpaaGreat
namespace Go.Proofs.YtelifakcllijpaaGreat
open Go Km
structure Pr where
 c:cW
 d:cW
 k:Int
 gx:Tg
 xs:List cV
 gy:Tg
 ys:List cV
def Pr.row(p:Pr):List C:=[.f (sl p.c.mg (aK p.c.ts)),.f (fi p.c.min),.f (sl p.d.mg (aK p.d.ts)),.f (fi p.d.min),.f (fi p.k),.f (sl p.gx (aK p.xs)),.f (sl p.gy (aK p.ys)),.f (fi (max 0 (-p.k)))]
def AS(la b:Int)(c d:cW):Int:=(c.min-d.min-b) / 1440+1
def zt(la b:Int)(c d:cW):Int:=(c.min-d.min+la-1) / 1440
structure rC(a b:aH)(p:Pr):Prop where
 ca:p.c∈a.cs
 db:p.d∈b.cs
 lo:AS a.len b.len p.c p.d<=p.k
 hi:p.k<=zt a.len b.len p.c p.d
 xo:uc 12 p.xs
 yo:uc 12 p.ys
 xm:∀e,0<=e->(eO p.xs e↔eO p.c.ts (e+max 0 (-p.k)))
 ym:∀e,0<=e->(eO p.ys e↔eO p.d.ts (e+max 0 p.k))
structure kU(s:aH):Prop where
 ok:xd s
 few:∀c∈s.cs,uc 12 c.ts
 ex:∀x∈s.xs,-1000000<=x.fr/\x.to<=1000000/\x.fr<x.to
theorem kU.cn{s:aH}(h:kU s):s.cs.length<=3:=h.ok.cn
theorem Is{us:List (List aO)}(h:us.length<=2/\∀u∈us,vq 12 2 u):uc 12 (us.map λs=>⟨.fs,s⟩):=⟨by rw[List.length_map];exact h.1,λt b=>by
 obtain⟨u,d,rfl⟩:=agt.1 b;exact h.2 u d⟩
theorem Aw(a b:aH):bg tab abx [.a (a.row.map .f),.a (b.row.map .f)]=Eq (.c (.f (.fn mH [.fp a.row 0,.fp b.row 0]))):=by
 refine bg.eq (bK rfl rfl λQ d=>?_);apply ai;simp[aH.row];apply ai;simp;refine az (d _ _ ?_);simp[deep,aH.row]
theorem rH{bb:Nat}{H:an}(a b:aH)(ha:kU a)(hb:kU b)(PP:List Pr->an->Prop)(RR:Pr->an->Prop)(h0:PP [] H)
  (hk:∀ps J J',PP ps J->(∀i:Nat,i<H.length->J'[i]?=J[i]?)->J.length<=J'.length->PP ps J')
  (hy:∀ps p J,PP ps J->H.length<=J.length->rC a b p->∃(r:Bool) (J':an),Ev tab (.yield bb) [.a p.row] J (vb r) J'/\(if r then PP (ps++[p]) J'/\J.length<=J'.length/\∀i:Nat,H.length<=i->i<J.length->J'[i]?=J[i]? else RR p J')) :
  ∃H2,Ev tab (.fn mH) [.c (.yl bb),.c (.f (.fp a.row 0)),.c (.f (.fp b.row 0))] H (.t []) H2/\((∃ps,PP ps H2/\(∀p∈ps,rC a b p)/\∀c∈a.cs,∀d∈b.cs,∀k,AS a.len b.len c d<=k->k<=zt a.len b.len c d->∃p∈ps,p.c=c/\p.d=d/\p.k=k)\/∃p,rC a b p/\RR p H2):=by
 obtain⟨la0,la1⟩:=ha.ok.len;obtain⟨lb0,lb1⟩:=hb.ok.len;have cna:=ha.cn;have cnb:=hb.cn;have qZ:∀H:an,bh H (.f (sl a.cg (aU a.cs)))=aa a.cs.length:=λH=>by simp
 have s_:∀H:an,bh H (.f (sl b.cg (aU b.cs)))=aa b.cs.length:=λH=>by simp
 have r_:∀(J:an),aV J ab (.c (.f (.fp a.row 0)))=aa (.c (.f (sl a.cg (aU a.cs))))/\aV J ab (.c (.f (.fp a.row 1)))=aa (vi a.len):=λJ=>⟨rfl,rfl⟩
 have s7:∀(J:an),aV J ab (.c (.f (.fp b.row 0)))=aa (.c (.f (sl b.cg (aU b.cs))))/\aV J ab (.c (.f (.fp b.row 1)))=aa (vi b.len):=λJ=>⟨rfl,rfl⟩
 obtain⟨r,H2,he,rfl,hP⟩:∃r H2,Ev tab (.fn mH) [.c (.yl bb),.c (.f (.fp a.row 0)),.c (.f (.fp b.row 0))] H r H2/\(r=.t []/\((∃ps,PP ps H2/\(∀p∈ps,rC a b p)/\∀c∈a.cs,∀d∈b.cs,∀k,AS a.len b.len c d<=k->k<=zt a.len b.len c d->∃p∈ps,p.c=c/\p.d=d/\p.k=k)\/∃p,rC a b p/\RR p H2)):=by
  refine de rfl rfl λQ hQ=>?_;apply ai;simp[r_,qZ];refine bS a.cs.length (λi t J=>t.g 0=.c (.yl bb)/\t.g 1=.c (.f (.fp a.row 0))/\t.g 2=.c (.f (.fp b.row 0))/\t.g 13=.c (.f (sl a.cg (aU a.cs)))/\H.length<=J.length/\∃ps,PP ps J/\(∀p∈ps,rC a b p)/\∀(B:Nat) (hi:B<a.cs.length),B<i->∀d∈b.cs,∀k,AS a.len b.len a.cs[B] d<=k->k<=zt a.len b.len a.cs[B] d->∃p∈ps,p.c=a.cs[B]/\p.d=d/\p.k=k) ap ce ce bv bv
   ⟨bv,bv,bv,bv,agn _,[],h0,bv,λB _ h=>by omega⟩ ?_ ?_
  .rintro i t J hi ⟨Z,g1,X,v,t7,ps,hP,A,l⟩ hc u9 next
   have r6:=λH:an=>bz (H:=H) (g:=a.cg) (rows:=aU a.cs) (sz:=2) (k:=.i64) (i:=(i:Int)) ap ge;have k_:=λH:an=>cf (H:=H) (eu a.cs) (iz hi);simp only[agD]at r6;have u_:=ha.ok.min (IN hi);have f_:=ha.few _ (IN hi);have M:=IN hi;obtain⟨c,n9⟩:=aI (a.cs[i]);rw[<-n9]at k_ u_ f_ M;simp only[cW.row,agm,agp]at k_;refine ay ?_;apply ai;simp[hc,v,r6,k_,-ax];obtain⟨S,i_⟩:=aI (J.length);obtain⟨J1,y⟩:=aI (J++[bO.box [.f (sl c.mg (aK c.ts)),.f (fi c.min)] 0]);have c5:J1[S]?=aa (.box [.f (sl c.mg (aK c.ts)),.f (fi c.min)] 0):=by rw[y,i_];simp
   have c_:PP ps J1:=hk ps J J1 hP (λi hi=>by rw[y,AI ap]) (by rw[y,aft];omega);have r9:J1.length=S+1:=by rw[y,aft,i_];rfl
   rw[<-y,<-i_];apply ai;simp[X,s7,s_];refine bS b.cs.length (λj t' J=>t'.g 0=.c (.yl bb)/\t'.g 1=.c (.f (.fp a.row 0))/\t'.g 2=.c (.f (.fp b.row 0))/\t'.g 13=.c (.f (sl a.cg (aU a.cs)))/\t'.g 14=t.g 14/\t'.g 15=t.g 15/\t'.g 5=.c (.ptr S 0 0)/\t'.g 20=.c (.f (sl b.cg (aU b.cs)))/\S<J.length/\J[S]?=aa (.box [.f (sl c.mg (aK c.ts)),.f (fi c.min)] 0)/\∃ps,PP ps J/\(∀p∈ps,rC a b p)/\(∀(B:Nat) (hi:B<a.cs.length),B<i->∀d∈b.cs,∀k,AS a.len b.len a.cs[B] d<=k->k<=zt a.len b.len a.cs[B] d->∃p∈ps,p.c=a.cs[B]/\p.d=d/\p.k=k)/\
     ∀(O:Nat) (hj:O<b.cs.length),O<j->∀k,AS a.len b.len c b.cs[O]<=k->k<=zt a.len b.len c b.cs[O]->∃p∈ps,p.c=c/\p.d=b.cs[O]/\p.k=k) ap ce ce bv bv
    ⟨by simp[Z],by simp[g1],by simp[X],by simp[v],bv,bv,bv,bv,ap,c5,ps,c_,A,l,λO _ h=>by omega⟩ ?_ ?_
   .clear hP A l c_ c5 r9 y;rintro j t' J hj ⟨Z,g1,X,v,F,I,g5,K,q_,c5,ps,hP,A,l,q⟩ n8 m_ m9;have r7:=λH:an=>bz (H:=H) (g:=b.cg) (rows:=aU b.cs) (sz:=2) (k:=.i64) (i:=(j:Int)) ap ge;have l_:=λH:an=>cf (H:=H) (eu b.cs) (iz hj);simp only[agD]at r7;have w_:=hb.ok.min (IN hj);have g_:=hb.few _ (IN hj);have N:=IN hj;obtain⟨d,n_⟩:=aI (b.cs[j]);rw[<-n_]at l_ w_ g_ N;simp only[cW.row,agm,agp]at l_;obtain⟨W,j5⟩:=aI (J.length);obtain⟨J1,y⟩:=aI (J++[bO.box [.f (sl d.mg (aK d.ts)),.f (fi d.min)] 0]);have c7:J1[W]?=aa (.box [.f (sl d.mg (aK d.ts)),.f (fi d.min)] 0):=by rw[y,j5];simp
    have i7:J1[S]?=aa (.box [.f (sl c.mg (aK c.ts)),.f (fi c.min)] 0):=by rw[y,AI q_];exact c5
    have c_:PP ps J1:=hk ps J J1 hP (λi hi=>by rw[y,AI ap]) (by rw[y,aft];omega);have r9:J1.length=W+1:=by rw[y,aft,j5];rfl
    obtain⟨lo,x_⟩:=aI (AS a.len b.len c d);obtain⟨u,x8⟩:=aI (zt a.len b.len c d);have r5:(c.min-d.min-b.len) / 1440+1=lo:=x_.symm;have o_:(c.min-d.min+a.len-1) / 1440=u:=x8.symm;have f1:=sS (c.min-d.min-b.len) ap ap;have f2:=sS (c.min-d.min+a.len-1) ap ap;rw[o_]at f2;have lob:-20<=lo/\lo<=20:=by omega
    have hib:-20<=u/\u<=20:=by omega
    have m5:∀J:an,J[S]?=aa (.box [.f (sl c.mg (aK c.ts)),.f (fi c.min)] 0)->aV J ab (.c (.ptr S 1 0))=aa (vi c.min)/\aV J (aa 2) (.c (.ptr S 0 0))=aa (.a [.f (sl c.mg (aK c.ts)),.f (fi c.min)])/\aV J (aa 1) (.c (.ptr S 0 0))=aa (.a [.f (sl c.mg (aK c.ts))]):=λJ h=>by refine⟨?_,?_,?_⟩<;>simp[aV,aA,h,aW]
    have m7:∀J:an,J[W]?=aa (.box [.f (sl d.mg (aK d.ts)),.f (fi d.min)] 0)->aV J ab (.c (.ptr W 1 0))=aa (vi d.min)/\aV J (aa 2) (.c (.ptr W 0 0))=aa (.a [.f (sl d.mg (aK d.ts)),.f (fi d.min)])/\aV J (aa 1) (.c (.ptr W 0 0))=aa (.a [.f (sl d.mg (aK d.ts))]):=λJ h=>by refine⟨?_,?_,?_⟩<;>simp[aV,aA,h,aW]
    obtain⟨v5,-,-⟩:=m5 J1 i7;obtain⟨v7,-,-⟩:=m7 J1 c7;refine ay ?_;apply ai;simp[n8,K,r7,l_,-ax];rw[<-y,<-j5];apply ai;simp[X,g5,v5,v7,s7,-ax,aZ (n:=c.min-d.min),aZ (n:=c.min-d.min-b.len),f1,r5,aZ (n:=lo)];apply ai;simp[g1,g5,v5,v7,r_,-ax,aZ (n:=c.min-d.min),aZ (n:=c.min-d.min+a.len),aZ (n:=c.min-d.min+a.len-1),f2];apply ai;simp;refine ay ?_;refine dc (λn s=>∃(k:Int) (m:T) (J:an),s=⟨m,[],J⟩/\n=(u+1-k).toNat/\lo<=k/\(k=lo\/k<=u+1)/\m.g 0=.c (.yl bb)/\m.g 1=.c (.f (.fp a.row 0))/\m.g 2=.c (.f (.fp b.row 0))/\m.g 13=.c (.f (sl a.cg (aU a.cs)))/\m.g 14=t.g 14/\m.g 15=t.g 15/\m.g 5=.c (.ptr S 0 0)/\m.g 7=.c (.ptr W 0 0)/\m.g 9=vi u/\m.g 10=vi k/\m.g 20=.c (.f (sl b.cg (aU b.cs)))/\m.g 21=t'.g 21/\m.g 22=t'.g 22/\W<J.length/\J[S]?=aa (.box [.f (sl c.mg (aK c.ts)),.f (fi c.min)] 0)/\J[W]?=aa (.box [.f (sl d.mg (aK d.ts)),.f (fi d.min)] 0)/\∃ps,PP ps J/\(∀p∈ps,rC a b p)/\(∀(B:Nat) (hi:B<a.cs.length),B<i->∀d∈b.cs,∀k,AS a.len b.len a.cs[B] d<=k->k<=zt a.len b.len a.cs[B] d->∃p∈ps,p.c=a.cs[B]/\p.d=d/\p.k=k)/\
     (∀(O:Nat) (hj:O<b.cs.length),O<j->∀k,AS a.len b.len c b.cs[O]<=k->k<=zt a.len b.len c b.cs[O]->∃p∈ps,p.c=c/\p.d=b.cs[O]/\p.k=k)/\∀k',lo<=k'->k'<k->∃p∈ps,p.c=c/\p.d=d/\p.k=k') (u+1-lo).toNat
     ⟨lo,_,J1,rfl,rfl,ap,.inl rfl,by simp[Z],by simp[g1],by simp[X],by simp[v],by simp[F],by simp[I],by simp[g5],bv,bv,bv,by simp[K],bv,bv,ap,i7,c7,ps,c_,A,l,q,λk' _ _=>by omega⟩ ?_
    clear hP A l q c_ c5 i7 c7 v5 v7;rintro n s ⟨k,m,J2,rfl,rfl,k0,k1,Z,g1,X,v,F,I,g5,g7,g9,z,K,a_,b_,hl7,c5,c7,ps,hP,A,l,q,d9⟩ ih;apply au;apply ai;simp[g9,z];by_cases x9:k<=u
    .refine aw (by simp[x9]) (aR ?_);obtain⟨v5,w5,x5⟩:=m5 J2 c5;obtain⟨v7,w7,x7⟩:=m7 J2 c7;have i6:SF .neg (vi k)=aa (vi (-k)):=by
      show aa (vi (IntKind.i64.wrap (0-k)))=_;rw[Int.zero_sub,aZ]
     obtain⟨U,h_⟩:=aI (J2.length);have i9:∀(m:T) (E:an) (p:Pr),rC a b p->p.c=c->p.d=d->p.k=k->m.g 0=.c (.yl bb)->m.g 1=.c (.f (.fp a.row 0))->m.g 2=.c (.f (.fp b.row 0))->m.g 13=.c (.f (sl a.cg (aU a.cs)))->m.g 14=t.g 14->m.g 15=t.g 15->m.g 5=.c (.ptr S 0 0)->m.g 7=.c (.ptr W 0 0)->m.g 9=vi u->m.g 10=vi k->m.g 11=.c (.ptr U 0 0)->m.g 20=.c (.f (sl b.cg (aU b.cs)))->m.g 21=t'.g 21->m.g 22=t'.g 22->
       E[U]?=aa (.box p.row 0)->(∀i:Nat,i<J2.length->E[i]?=J2[i]?)->E.length=J2.length+1->
       WP tab mH ab [.code N5,.inBlock 5,.code N6,.inLoop N4,.inBlock 4,.inBlock 3,.code (nK 22 88),.inLoop (fX 2 22 21 23 88 N3),.inBlock 2,.inBlock 1,.code (nK 15 89),.inLoop (fX 0 15 14 16 89 SH),.inBlock 0] ⟨m,[],E⟩ Q:=by
      intro m E p j7 y7 y8 y_ Z g1 X v F I g5 g7 g9 z t6 K a_ b_ y6 j6 hl3;have t8:PP ps E:=hk ps J2 E hP (λi hi=>j6 i ap) ap;obtain⟨r,J4,x6,hr⟩:=hy ps p E t8 ap j7;have z7:p.row.length=8:=rfl;have tk:List.take 8 p.row=p.row:=rfl;have l8:aV E (aa 8) (.c (.ptr U 0 0))=aa (.a p.row):=by simp[aV,aA,y6,aW,z7,tk]
      apply au;refine aq (.inl rfl) ?_;simp[Z,t6,l8,-ax,x6.eq];cases r with
      |false=>exact aw bv (az (hQ _ _ (.t []) rfl rfl ⟨rfl,.inr ⟨p,j7,by simpa using hr⟩⟩))
      |true=>
      obtain⟨t_,hl4,p_⟩:PP (ps++[p]) J4/\E.length<=J4.length/\∀i:Nat,H.length<=i->i<E.length->J4[i]?=E[i]?:=by simpa using hr
      refine aD bv (aR (av ?_));refine aq (.inl rfl) ?_;simp[z,aZ (n:=k+1)];have n5:J4[S]?=J2[S]?:=by rw[p_ S ap ap,j6 S ap]
      have n7:J4[W]?=J2[W]?:=by rw[p_ W ap ap,j6 W ap]
      refine ih (u+1-(k+1)).toNat _ ap ⟨k+1,_,J4,rfl,rfl,ap,.inr ap,by simp[Z],by simp[g1],by simp[X],by simp[v],by simp[F],by simp[I],by simp[g5],by simp[g7],by simp[g9],bv,by simp[K],by simp[a_],by simp[b_],ap,by rw[n5];exact c5,by rw[n7];exact c7,ps++[p],t_,λx Y=>?_,λB p9 d_ d' v_ k' h1 h2=>?_,λO c9 d_ k' h1 h2=>?_,λk' h1 h2=>?_⟩
      .rcases agl.1 Y with h|h
       .exact A x h
       .rw[If]at h;rw[h];exact j7
      .obtain⟨x,Y,h⟩:=l B p9 d_ d' v_ k' h1 h2;exact⟨x,ag3 _ Y,h⟩
      .obtain⟨x,Y,h⟩:=q O c9 d_ k' h1 h2;exact⟨x,ag3 _ Y,h⟩
      .by_cases e:k'=k
       .exact⟨p,bv,y7,y8,by rw[y_,e]⟩
       .obtain⟨x,Y,h⟩:=d9 k' h1 ap;exact⟨x,ag3 _ Y,h⟩
     obtain⟨E,e_⟩:=aI (J2++[bO.box [.f (sl c.mg (aK c.ts)),.f (fi c.min),.f (sl d.mg (aK d.ts)),.f (fi d.min),.f (fi k),.f (sl c.mg (aK c.ts)),.f (sl d.mg (aK d.ts)),.f (fi (max 0 (-k)))] 0]);have i8:E[U]?=aa (.box [.f (sl c.mg (aK c.ts)),.f (fi c.min),.f (sl d.mg (aK d.ts)),.f (fi d.min),.f (fi k),.f (sl c.mg (aK c.ts)),.f (sl d.mg (aK d.ts)),.f (fi (max 0 (-k)))] 0):=by rw[e_,h_];simp
     have k3:∀i:Nat,i<J2.length->E[i]?=J2[i]?:=λi hi=>by rw[e_,AI hi]
     have l3:E.length=J2.length+1:=by rw[e_,aft];rfl
     obtain⟨-,-,z8⟩:=m5 E (by rw[k3 S ap];exact c5);obtain⟨-,-,z_⟩:=m7 E (by rw[k3 W ap];exact c7);apply au;refine ay ?_;apply ai;simp[g5,g7,z,w5,x5,w7,x7,-ax,i6];rw[<-e_,<-h_];apply au;apply ai;simp[z];by_cases kp:0<k
     .obtain⟨us,g',j_,j9,j8⟩:=A6 d.mg d.ts g_ (-k) ap ap;obtain⟨J4,L⟩:=aI (E.set U (.box [.f (sl c.mg (aK c.ts)),.f (fi c.min),.f (sl d.mg (aK d.ts)),.f (fi d.min),.f (fi k),.f (sl c.mg (aK c.ts)),.f (sl g' (aX us)),.f (fi (max 0 (-k)))] 0));have s6:cY E (.ptr U 6 0) [.f (sl g' (aX us))]=aa J4:=by rw[L];simp[cY,i8,over]
      refine aw (by simp[kp]) ?_;refine aq (.inl rfl) ?_;simp[g7,z,z_,-ax,i6,j8,s6,-bw];apply au;apply ai;simp[z,show¬ k<0 by omega];refine bE bv ?_;have e:aK (us.map λs=>⟨.fs,s⟩)=aX us:=by simp[aK,aX,cV.row]
      refine i9 _ J4 ⟨c,d,k,c.mg,c.ts,g',us.map λs=>⟨.fs,s⟩⟩ ⟨M,N,by show AS a.len b.len c d<=k;omega,by show k<=zt a.len b.len c d;omega,f_,Is j_,λx Y=>?_,λx Y=>?_⟩ rfl rfl rfl (by simp[Z]) (by simp[g1]) (by simp[X]) (by simp[v]) (by simp[F]) (by simp[I]) (by simp[g5]) (by simp[g7]) (by simp[g9]) (by simp[z]) bv (by simp[K]) (by simp[a_]) (by simp[b_]) ?_ (λi hi=>by rw[L,sh ap];exact k3 i hi) (by rw[L,agx];exact l3)
      .show eO c.ts x↔eO c.ts (x+max 0 (-k));rw[show x+max 0 (-k)=x by omega]
      .show eO (us.map λs=>⟨.fs,s⟩) x↔eO d.ts (x+max 0 k);rw[Io,j9 x Y,show x+max 0 k=x - -k by omega];rfl
      .rw[L,BY ap];simp[Pr.row,e]
     .refine bE (by simp[kp]) ?_;apply au;apply ai;simp[z];by_cases kn:k<0
      .obtain⟨us,g',j_,j9,j8⟩:=A6 c.mg c.ts f_ k ap ap;obtain⟨J4,L⟩:=aI (E.set U (.box [.f (sl c.mg (aK c.ts)),.f (fi c.min),.f (sl d.mg (aK d.ts)),.f (fi d.min),.f (fi k),.f (sl g' (aX us)),.f (sl d.mg (aK d.ts)),.f (fi (max 0 (-k)))] 0));have s5:cY E (.ptr U 5 0) [.f (sl g' (aX us))]=aa J4:=by rw[L];simp[cY,i8,over]
       refine aw (by simp[kn]) ?_;refine aq (.inl rfl) ?_;simp[g5,z,z8,-ax,j8,s5,-bw];have e:aK (us.map λs=>⟨.fs,s⟩)=aX us:=by simp[aK,aX,cV.row]
       refine i9 _ J4 ⟨c,d,k,g',us.map λs=>⟨.fs,s⟩,d.mg,d.ts⟩ ⟨M,N,by show AS a.len b.len c d<=k;omega,by show k<=zt a.len b.len c d;omega,Is j_,g_,λx Y=>?_,λx Y=>?_⟩ rfl rfl rfl (by simp[Z]) (by simp[g1]) (by simp[X]) (by simp[v]) (by simp[F]) (by simp[I]) (by simp[g5]) (by simp[g7]) (by simp[g9]) (by simp[z]) bv (by simp[K]) (by simp[a_]) (by simp[b_]) ?_ (λi hi=>by rw[L,sh ap];exact k3 i hi) (by rw[L,agx];exact l3)
       .show eO (us.map λs=>⟨.fs,s⟩) x↔eO c.ts (x+max 0 (-k));rw[Io,j9 x Y,show x+max 0 (-k)=x-k by omega];rfl
       .show eO d.ts x↔eO d.ts (x+max 0 k);rw[show x+max 0 k=x by omega]
       .rw[L,BY ap];simp[Pr.row,e]
      .refine bE (by simp[kn]) ?_;have hk0:k=0:=by omega
       refine i9 _ E ⟨c,d,k,c.mg,c.ts,d.mg,d.ts⟩ ⟨M,N,by show AS a.len b.len c d<=k;omega,by show k<=zt a.len b.len c d;omega,f_,g_,λx Y=>?_,λx Y=>?_⟩ rfl rfl rfl (by simp[Z]) (by simp[g1]) (by simp[X]) (by simp[v]) (by simp[F]) (by simp[I]) (by simp[g5]) (by simp[g7]) (by simp[g9]) (by simp[z]) bv (by simp[K]) (by simp[a_]) (by simp[b_]) i8 k3 l3
       .show eO c.ts x↔eO c.ts (x+max 0 (-k));rw[show x+max 0 (-k)=x by omega]
       .show eO d.ts x↔eO d.ts (x+max 0 k);rw[show x+max 0 k=x by omega]
    .refine aD ge ?_;refine bJ rfl ?_;refine av (m9 _ _ ⟨by simp[Z],by simp[g1],by simp[X],by simp[v],by simp[F],by simp[I],by simp[g5],by simp[K],ap,c5,ps,hP,A,l,λO c9 d_ k' h1 h2=>?_⟩ (by simp[b_,n8]) (by simp[a_,m_]));by_cases e:O=j
     .subst e;rw[<-n_]at h1 h2 ⊢;exact d9 k' ap ap
     .exact q O c9 ap k' h1 h2
   .rintro t' J ⟨Z,g1,X,v,F,I,g5,K,q_,c5,ps,hP,A,l,q⟩ - -;refine av (next _ _ ⟨by simp[Z],by simp[g1],by simp[X],by simp[v],ap,ps,hP,A,λB u d_ d hd k h1 h2=>?_⟩ (by simp[I,hc]) (by simp[F,u9]));by_cases e:B=i
    .subst e;rw[<-n9]at h1 h2 ⊢;obtain⟨O,c9,rfl⟩:=agz hd;exact q O c9 c9 k h1 h2
    .exact l B u ap d hd k h1 h2
  .rintro t J ⟨Z,g1,X,v,t7,ps,hP,A,l⟩ - -;exact cX (hQ _ _ _ rfl rfl ⟨rfl,.inl ⟨ps,hP,A,λc hc d hd k h1 h2=>by
    obtain⟨B,u,rfl⟩:=agz hc;exact l B u u d hd k h1 h2⟩⟩)
 exact⟨H2,he,hP⟩
theorem Lx{bb:Nat}{H:an}(a b:aH)(v:kU a)(x:kU b)(PP:List Pr->an->Prop)(j:PP [] H)
  (z:∀ps J J',PP ps J->(∀i:Nat,i<H.length->J'[i]?=J[i]?)->J.length<=J'.length->PP ps J')
  (A:∀ps p J,PP ps J->H.length<=J.length->rC a b p->∃J',Ev tab (.yield bb) [.a p.row] J (vb ae) J'/\PP (ps++[p]) J'/\J.length<=J'.length/\∀i:Nat,H.length<=i->i<J.length->J'[i]?=J[i]?) :
  ∃g,Ev tab (.fn mH) [.c (.yl bb),.c (.f (.fp a.row 0)),.c (.f (.fp b.row 0))] H (.t []) g/\∃ps,PP ps g/\(∀p∈ps,rC a b p)/\∀c∈a.cs,∀d∈b.cs,∀k,AS a.len b.len c d<=k->k<=zt a.len b.len c d->∃p∈ps,p.c=c/\p.d=d/\p.k=k:=by
 obtain⟨g,y,h|⟨_,_,h⟩⟩:=rH a b v x PP (λ_ _=>False) j z λps p J l m q=>by
  obtain⟨J',s,u⟩:=A ps p J l m q;exact⟨ae,J',s,by simpa using u⟩
 .exact⟨g,y,h⟩
 .exact h.elim
end Go.Proofs.YtelifakcllijpaaGreat
namespace Go.Proofs.YtelifakcllijpaaGreat
open Go Km
def mF(s:aH)(x y:aC):Prop:=(∃c∈s.cs,∃d,0<=d/\eO c.ts d/\y=bV s.len c.min d)/\x.fr<y.to/\y.fr<x.to
theorem Rj{ts:List cV}(j:jz ts=ae){d:Int}(g:0<=d):vI ts d=ae↔eO ts d:=by
 unfold vI eO;rw[j,ahh,List.any_eq_true];constructor
 .rintro⟨t,b,h⟩;exact⟨t,b,(iT g).1 h⟩
 .rintro⟨t,b,h⟩;exact⟨t,b,(iT g).2 h⟩
theorem rI(s:aH)(x:aC):bg tab aby [.a (s.row.map .f),.a (x.row.map .f)]=Eq (.c (.f (.fn mI [.fp s.row 0,.fp x.row 0]))):=by
 refine bg.eq (bK rfl rfl λQ b=>?_);apply ai;simp[aH.row,aC.row];apply ai;simp;refine az (b _ _ ?_);simp[deep,aH.row,aC.row]
theorem yS{bb:Nat}{H:an}(s:aH)(hs:kU s)(x:aC)(x0:-1000000000000<=x.fr)(x1:x.to<=1000000000000)(x2:x.fr<x.to)(PP:List aC->an->Prop)(RR:aC->an->Prop)(h0:PP [] H)
  (hk:∀ps J J',PP ps J->(∀i:Nat,i<H.length->J'[i]?=J[i]?)->J.length<=J'.length->PP ps J')
  (hy:∀ps y J,PP ps J->H.length<=J.length->mF s x y->∃(r:Bool) (J':an),Ev tab (.yield bb) [.a (y.row.map .f)] J (vb r) J'/\(if r then PP (ps++[y]) J'/\J.length<=J'.length/\∀i:Nat,H.length<=i->i<J.length->J'[i]?=J[i]? else RR y J')) :
  ∃S,Ev tab (.fn mI) [.c (.yl bb),.c (.f (.fp s.row 0)),.c (.f (.fp x.row 0))] H (.t []) S/\((∃ys,PP ys S/\∀y,y∈ys↔mF s x y)\/∃y,mF s x y/\RR y S):=by
 obtain⟨o_,p9⟩:=hs.ok.len;have n8:=hs.cn;have i9:∀H:an,bh H (.f (sl s.cg (aU s.cs)))=aa s.cs.length:=λH=>by simp
 have d_:∀(J:an),aV J ab (.c (.f (.fp s.row 0)))=aa (.c (.f (sl s.cg (aU s.cs))))/\aV J ab (.c (.f (.fp s.row 1)))=aa (vi s.len)/\aV J (aa 3) (.c (.f (.fp s.row 0)))=aa (.a [.f (sl s.cg (aU s.cs)),.f (fi s.len),.f (sl s.xg (aF s.xs))]):=λJ=>⟨rfl,rfl,rfl⟩
 have i8:∀(J:an),aV J ab (.c (.f (.fp x.row 1)))=aa (vi x.fr)/\aV J ab (.c (.f (.fp x.row 2)))=aa (vi x.to):=λJ=>⟨rfl,rfl⟩
 obtain⟨r,S,he,rfl,M⟩:∃r S,Ev tab (.fn mI) [.c (.yl bb),.c (.f (.fp s.row 0)),.c (.f (.fp x.row 0))] H r S/\(r=.t []/\((∃ys,PP ys S/\∀y,y∈ys↔mF s x y)\/∃y,mF s x y/\RR y S)):=by
  refine de rfl rfl λQ hQ=>?_;apply ai;simp[d_,i9];refine bS s.cs.length (λi t J=>t.g 0=.c (.yl bb)/\t.g 1=.c (.f (.fp s.row 0))/\t.g 2=.c (.f (.fp x.row 0))/\t.g 8=.c (.f (sl s.cg (aU s.cs)))/\H.length<=J.length/\∃ys,PP ys J/\∀y,y∈ys↔(∃(b:Nat) (h:b<s.cs.length),b<i/\∃d,0<=d/\eO s.cs[b].ts d/\y=bV s.len s.cs[b].min d)/\x.fr<y.to/\y.fr<x.to) ap ce ce bv bv
   ⟨bv,bv,bv,bv,agn _,[],h0,λy=>⟨λh=>by simp at h,λ⟨⟨b,_,h,_⟩,_⟩=>by omega⟩⟩ ?_ ?_
  .rintro i t J hi ⟨U,K,L,W,j5,ys,M,m⟩ hc hb next
   have i7:=λH:an=>bz (H:=H) (g:=s.cg) (rows:=aU s.cs) (sz:=2) (k:=.i64) (i:=(i:Int)) ap ge;have d9:=λH:an=>cf (H:=H) (eu s.cs) (iz hi);simp only[agD]at i7;have j7:=hs.ok.min (IN hi);have c9:=hs.few _ (IN hi);have E:=IN hi;obtain⟨c,X⟩:=aI (s.cs[i]);rw[<-X]at d9 j7 c9 E;simp only[cW.row,agm,agp]at d9;obtain⟨q,b_⟩:=aI (J.length);obtain⟨J1,B⟩:=aI (J++[bO.box [.f (sl c.mg (aK c.ts)),.f (fi c.min)] 0]);have c5:J1[q]?=aa (.box [.f (sl c.mg (aK c.ts)),.f (fi c.min)] 0):=by rw[B,b_];simp
   have e_:PP ys J1:=hk ys J J1 M (λi hi=>by rw[B,AI ap]) (by rw[B,aft];omega);have n_:J1.length=q+1:=by rw[B,aft,b_];rfl
   have m5:∀J:an,J[q]?=aa (.box [.f (sl c.mg (aK c.ts)),.f (fi c.min)] 0)->aV J ab (.c (.ptr q 1 0))=aa (vi c.min)/\aV J (aa 2) (.c (.ptr q 0 0))=aa (.a [.f (sl c.mg (aK c.ts)),.f (fi c.min)])/\aV J (aa 1) (.c (.ptr q 0 0))=aa (.a [.f (sl c.mg (aK c.ts))]):=λJ h=>by refine⟨?_,?_,?_⟩<;>simp[aV,aA,h,aW]
   obtain⟨v5,-,-⟩:=m5 J1 c5;have f1:=sS (x.fr-s.len-c.min) ap ap;obtain⟨n0,k_⟩:=aI (max 0 ((x.fr-s.len-c.min) / 1440+1));have m_:max 0 ((x.fr-s.len-c.min) / 1440+1)=n0:=k_.symm;refine ay ?_;apply ai;simp[hc,W,i7,d9,-ax];rw[<-B,<-b_];apply ai;simp[K,L,v5,d_,i8,-ax,aZ (n:=x.fr-s.len),aZ (n:=x.fr-s.len-c.min),f1,aZ (n:=(x.fr-s.len-c.min) / 1440+1),m_];refine ay ?_;refine dc (λn st=>∃(d:Int) (N:T) (J:an),st=⟨N,[],J⟩/\n=(x.to-(d*1440+c.min)).toNat/\n0<=d/\d<=1000000000/\N.g 0=.c (.yl bb)/\N.g 1=.c (.f (.fp s.row 0))/\N.g 2=.c (.f (.fp x.row 0))/\N.g 8=.c (.f (sl s.cg (aU s.cs)))/\N.g 9=t.g 9/\N.g 10=t.g 10/\N.g 5=.c (.ptr q 0 0)/\N.g 6=vi d/\q<J.length/\J[q]?=aa (.box [.f (sl c.mg (aK c.ts)),.f (fi c.min)] 0)/\∃ys,PP ys J/\∀y,y∈ys↔((∃(b:Nat) (h:b<s.cs.length),b<i/\∃d,0<=d/\eO s.cs[b].ts d/\y=bV s.len s.cs[b].min d)/\x.fr<y.to/\y.fr<x.to)\/∃d',n0<=d'/\d'<d/\d'*1440+c.min<x.to/\eO c.ts d'/\y=bV s.len c.min d') (x.to-(n0*1440+c.min)).toNat
    ⟨n0,_,J1,rfl,rfl,ahw _,ap,by simp[U],by simp[K],by simp[L],by simp[W],bv,bv,bv,bv,ap,c5,ys,e_,λy=>by rw[m];exact⟨.inl,λh=>h.elim id λ⟨d',u,v,_⟩=>by omega⟩⟩ ?_
   clear M m e_ c5 v5;rintro n st ⟨d,N,J2,rfl,rfl,d0,d1,U,K,L,W,g9,A,g5,g6,g_,c5,ys,M,m⟩ ih;obtain⟨v5,w5,z5⟩:=m5 J2 c5;apply au;apply ai;simp[L,g5,g6,v5,i8,-ax,aZ (n:=d*1440),aZ (n:=d*1440+c.min)];by_cases c_:d*1440+c.min<x.to
   .refine aw (by simp[c_]) (aR ?_);have F:=Co c.mg c.ts c9.mix d (by unfold Day;omega);have I:=Rj c9.mix (show 0<=d by omega);obtain⟨j6,j9⟩:=aI (vI c.ts d);rw[<-j9]at F I;have i6:=xC (sl s.cg (aU s.cs)) (sl s.xg (aF s.xs)) (sl c.mg (aK c.ts)) s.len c.min d (by unfold nb;omega) (by unfold nb;omega) (by unfold nb;omega);have Z:∀(O:T) (z:an) (zs:List aC),O.g 0=.c (.yl bb)->O.g 1=.c (.f (.fp s.row 0))->O.g 2=.c (.f (.fp x.row 0))->O.g 8=.c (.f (sl s.cg (aU s.cs)))->O.g 9=t.g 9->O.g 10=t.g 10->O.g 5=.c (.ptr q 0 0)->O.g 6=vi d->q<z.length->z[q]?=aa (.box [.f (sl c.mg (aK c.ts)),.f (fi c.min)] 0)->PP zs z->(∀y,y∈zs↔y∈ys\/(eO c.ts d/\y=bV s.len c.min d))->
      WP tab mI ab [.code N8,.inLoop N7,.inBlock 2,.inBlock 1,.code (nK 10 50),.inLoop (fX 0 10 9 11 50 SI),.inBlock 0] ⟨O,[],z⟩ Q:=by
     intro O z zs U K L W g9 A g5 g6 f_ c3 a_ m9;refine aq (.inl rfl) ?_;simp[g6,aZ (n:=d+1)];refine ih (x.to-((d+1)*1440+c.min)).toNat _ ap ⟨d+1,_,z,rfl,rfl,ap,ap,by simp[U],by simp[K],by simp[L],by simp[W],by simp[g9],by simp[A],by simp[g5],bv,f_,c3,zs,a_,λy=>?_⟩;rw[m9,m];constructor
     .rintro((h|⟨d',u,v,j,l⟩)|⟨u,v⟩)
      .exact .inl h
      .exact .inr ⟨d',u,ap,j,l⟩
      .exact .inr ⟨d,d0,ap,c_,u,v⟩
     .rintro(h|⟨d',u,v,j,l,h5⟩)
      .exact .inl (.inl h)
      .by_cases e:d'=d
       .subst e;exact .inr ⟨l,h5⟩
       .exact .inl (.inr ⟨d',u,ap,j,l,h5⟩)
    apply au;refine ay ?_;cases j6 with
    |false=>
     have l_:¬ eO c.ts d:=λh=>by have:=I.2 h;cases this
     apply ai;simp[g5,g6,z5,-ax,F];refine aD bv (aR (av ?_));exact Z _ J2 ys (by simp[U]) (by simp[K]) (by simp[L]) (by simp[W]) (by simp[g9]) (by simp[A]) (by simp[g5]) (by simp[g6]) g_ c5 M λy=>⟨.inl,λh=>h.elim id λh=>absurd h.1 l_⟩
    |true=>
     have Y:=I.1 rfl;have h_:mF s x (bV s.len c.min d):=⟨⟨c,E,d,ap,Y,rfl⟩,by show x.fr<d*1440+c.min+s.len;omega,by show d*1440+c.min<x.to;omega⟩
     obtain⟨r,z,j8,hr⟩:=hy ys (bV s.len c.min d) J2 M ap h_;apply ai;simp[U,K,g5,g6,z5,w5,d_,-ax,F,i6,j8.eq];cases r with
     |false=>exact aw bv (az (hQ _ _ (.t []) rfl rfl ⟨rfl,.inr ⟨_,h_,by simpa using hr⟩⟩))
     |true=>
     obtain⟨a_,f_,j_⟩:PP (ys++[bV s.len c.min d]) z/\J2.length<=z.length/\∀i:Nat,H.length<=i->i<J2.length->z[i]?=J2[i]?:=by simpa using hr
     refine aD bv (aR (av ?_));exact Z _ z (ys++[bV s.len c.min d]) (by simp[U]) (by simp[K]) (by simp[L]) (by simp[W]) (by simp[g9]) (by simp[A]) (by simp[g5]) (by simp[g6]) ap (by rw[j_ q ap g_];exact c5) a_ λy=>by
      rw[agl,If];exact⟨λh=>h.imp id λh=>⟨Y,h⟩,λh=>h.imp id λh=>h.2⟩
   .refine aD (by simp[c_]) ?_;refine bJ rfl ?_;refine av (next _ _ ⟨by simp[U],by simp[K],by simp[L],by simp[W],ap,ys,M,λy=>?_⟩ (by simp[A,hc]) (by simp[g9,hb]));rw[m];constructor
    .rintro(⟨⟨b,h,u,v⟩,j⟩|⟨d',u,v,j,l,rfl⟩)
     .exact⟨⟨b,h,ap,v⟩,j⟩
     .refine⟨⟨i,hi,ap,d',ap,by rw[<-X];exact l,by rw[<-X]⟩,?_,j⟩;show x.fr<d'*1440+c.min+s.len;omega
    .rintro⟨⟨b,h,u,d',v,j,l⟩,h5,h6⟩;by_cases e:b=i
     .subst e;rw[<-X]at j l;rw[l]at h5 h6;have n9:x.fr<d'*1440+c.min+s.len:=h5;have i_:d'*1440+c.min<x.to:=h6;exact .inr ⟨d',ap,ap,i_,j,l⟩
     .exact .inl ⟨⟨b,h,ap,d',v,j,l⟩,h5,h6⟩
  .rintro t J ⟨U,K,L,W,j5,ys,M,m⟩ - -;refine cX (hQ _ _ _ rfl rfl ⟨rfl,.inl ⟨ys,M,λy=>?_⟩⟩);rw[m];unfold mF;constructor
   .rintro⟨⟨b,h,-,d,u,v,j⟩,l⟩;exact⟨⟨_,IN h,d,u,v,j⟩,l⟩
   .rintro⟨⟨c,hc,d,u,v,j⟩,l⟩;obtain⟨b,h,rfl⟩:=agz hc;exact⟨⟨b,h,h,d,u,v,j⟩,l⟩
 exact⟨S,he,M⟩
theorem Bj{bb:Nat}{H:an}(s:aH)(z:kU s)(x:aC)(B:-1000000000000<=x.fr)(E:x.to<=1000000000000)(F:x.fr<x.to)(PP:List aC->an->Prop)(d:PP [] H)
  (v:∀ps J J',PP ps J->(∀i:Nat,i<H.length->J'[i]?=J[i]?)->J.length<=J'.length->PP ps J')
  (A:∀ps y J,PP ps J->H.length<=J.length->mF s x y->∃J',Ev tab (.yield bb) [.a (y.row.map .f)] J (vb ae) J'/\PP (ps++[y]) J'/\J.length<=J'.length/\∀i:Nat,H.length<=i->i<J.length->J'[i]?=J[i]?) :
  ∃b,Ev tab (.fn mI) [.c (.yl bb),.c (.f (.fp s.row 0)),.c (.f (.fp x.row 0))] H (.t []) b/\∃ys,PP ys b/\∀y,y∈ys↔mF s x y:=by
 obtain⟨b,u,h|⟨_,_,h⟩⟩:=yS s z x B E F PP (λ_ _=>False) d v λps y J g j l=>by
  obtain⟨J',m,q⟩:=A ps y J g j l;exact⟨ae,J',m,by simpa using q⟩
 .exact⟨b,u,h⟩
 .exact h.elim
end Go.Proofs.YtelifakcllijpaaGreat
