/-
  ai9 sV ns km and sV mG answer, for all arguments of aaj kind, in sV small machine: part 4.
-/
import Derived.Test.YtgfdmhmmjbihiaaGreatS3
import Derived.Test.YtgfdmhmmjbihiaaGreatS2
import Derived.Test.YtgfdmhmmjbihiaaGreatS1
import Derived.Test.YtgfdmhmmjbihiaaGreatK5
import Derived.Test.YtgfdmhmmjbihiaaGreatTab
import Derived.Test.YtgfdmhmmjbihiaaGreatK3
import Derived.KernelRfl
import Derived.Test.YtgfdmhmmjbihiaaGreatProg
open Option renaming some->aa,none->ab
open Bool renaming true->ae,false->ag
open List renaming map_cons->arf, map_nil->art, mem_singleton->arb, getElem?_set_self->aq6, getElem_mem->aq7, length_pos_iff->arY, mem_map->arx
open Int renaming le_refl->ar9, reduceNegSucc->atU
open Bool renaming true_and->ash, eq_iff_iff->asX
set_option linter.unusedVariables false
set_option linter.constructorNameAsVariable false
set_option linter.unusedSimpArgs false
set_option linter.unusedSectionVars false
set_option linter.unnecessarySimpa false
set_option maxRecDepth 100000
set_option maxHeartbeats 2000000
namespace Go.Proofs.YtgfdmhmmjbihiaaGreat
open Go Km
theorem KA(o:Int)(H:aj):Ev tab (.fn 117) [.a ((py o).map .f)] H (.a [.f (fi (-9007199254740992)),.f (fi 9007199254740992)]) (H++[.box ((py o).map .f) 0,.box [.f (fi (-9007199254740992)),.f (fi 9007199254740992)] 0]):=by
 obtain⟨r,d,h,rfl,rfl⟩:∃r d,Ev tab (.fn 117) [.a ((py o).map .f)] H r d/\(r=.a [.f (fi (-9007199254740992)),.f (fi 9007199254740992)]/\d=H++[.box ((py o).map .f) 0,.box [.f (fi (-9007199254740992)),.f (fi 9007199254740992)] 0]):=by
  refine cz rfl rfl λQ l=>?_;obtain⟨b0,b⟩:=aQ (H.length);have g:bF (H++[.box ((py o).map .f) 0,.box [.f (fi 0),.f (fi 0)] 0]) (aa 2) (.c (.ptr b0 3 0))=aa (.a [.f (fi (-9007199254740992)),.f (fi 9007199254740992)]):=by simp[b,bF,aK,bf,py]
  have j:dC (H++[.box ((py o).map .f) 0,.box [.f (fi 0),.f (fi 0)] 0]) (.ptr (b0+1) 0 0) [.f (fi (-9007199254740992)),.f (fi 9007199254740992)]=aa (H++[.box ((py o).map .f) 0,.box [.f (fi (-9007199254740992)),.f (fi 9007199254740992)] 0]):=by simp[b,dC,bR,List.getElem?_append_right,List.set_append_right]
  apply ai;simp only[py,arf,art]at g j ⊢;simp[<-b];apply ai;simp[g,j,-aD,-bC];refine aB (l _ _ _ rfl ?_ ⟨rfl,rfl⟩);simp[Km.results,bQ,aX,b,bf]
 exact h
theorem apZ:bH tab 70 [.a [.f (.fs [fi 0,fi 1,fi 2] 3),.f (fi 3),.f (fi 1),.f (.fs [fi 0] 1)]]=Eq (.t [.a [.f .es,.f (fi 0),.f (fi 1),.f (.fs [fi 0] 1)],vi 0]):=bH.eq (dK (m:=300) (d:=60) (by kernel_rfl))
theorem anW:bH tab 97 [.c (.f (.int .u64 1))]=Eq (vi 1):=bH.eq (dK (m:=300) (d:=60) (by kernel_rfl))
def YI(o m:Int)(y:cH):aj:=[.box ((zF o).map .f) 0,.box [.f (fi m)] 0,.box [.f (.fn 117 [])] 0,.box [.f (fi 4)] 0,.map [],.box [.mp 4] 0,.fj ae,y]
theorem zC{o m:Int}(K:0<=m)(m1:m<1440){g:T}(J:g.g 3=.c (.ptr 0 0 0))(v:g.g 4=.c (.ptr 1 0 0))(F:g.g 5=.c (.ptr 2 0 0))(j:g.g 13=.c (.ptr 3 0 0))(d:g.g 14=.c (.ptr 5 0 0))(x:cH) :
  ∃r u,Ev tab (.yield 7) [.a ((py o).map .f)] (YI o m (.lp 116 g [Km.P.nat 69] jA jB .ready ab 6)++[.box [.yl 7] 0,.box ((py o).map .f) 0,.box [.f (eG o)] 0,.box [.f (fi (-2251799813685248))] 0,.fj ae,x]) r u/\(r=vb ae/\
   u=[.box ((zF o).map .f) 0,.box [.f (fi m)] 0,.box [.f (.fn 117 [])] 0,.box [.f (fi 4)] 0,.map [(fi o,.sl 19 0 1 0 0 2)],.box [.mp 4] 0,.fj ae,.lp 116 g [Km.P.nat 69] jA jB .ready ab 6,.box [.yl 7] 0,.box ((py o).map .f) 0,.box [.f (eG o)] 0,.box [.f (fi (-2251799813685248))] 0,.fj ae,x,.box ((py o).map .f) 0,.box ((py o).map .f) 0,.box [.f (fi (-9007199254740992)),.f (fi 9007199254740992)] 0,.box [.f (fi (-9007199254740992)),.f (fi 9007199254740992)] 0,.box [.f (fi 0),.f (fi 4)] 0,.cK 2 [.f (fi 0),.f (fi 4)] 0 0 .loc]):=by
 have y:=λH=>(KA o H).eq;simp only[py,arf,art]at y;have z:=ja (-9007199254740992-m+1440-1) 1440 (by decide) (by omega) (by omega);have A:=ja (9007199254740992-m+1440-1) 1440 (by decide) (by omega) (by omega);have B:max ((-9007199254740992-m+1440-1) / 1440) 0=0:=by omega
 have E:min ((9007199254740992-m+1440-1) / 1440) 4=4:=by omega
 refine gi (tab:=tab) (b:=7) rfl rfl λI l=>?_;refine aq (.inr rfl) ?_;simp[YI,py,zF];refine na rfl ?_;simp;refine az ?_;refine an (aq (.inr rfl) ?_);simp[F,bX,y];refine an (aq (.inr rfl) ?_);simp[v,aM (n:=-9007199254740992-m),aM (n:=-9007199254740992-m+1440),aM (n:=-9007199254740992-m+1440-1),z];refine an (aq (.inr rfl) ?_);simp[v,aM (n:=9007199254740992-m),aM (n:=9007199254740992-m+1440),aM (n:=9007199254740992-m+1440-1),A];refine an (aq (.inr rfl) ?_);simp[j,B,E];refine an (aq (.inr rfl) ?_);simp;refine au (by simp) ?_;refine eu (.inr rfl) ?_ ?_
 case refine_2=>
  intro cc s;have q:cc=(0,12)\/cc=(2,12):=by simpa using s
  rcases q with rfl|rfl
  .refine⟨by decide,_,rfl,.inl ⟨by decide,?_⟩⟩;simp[d,fY,V.beq,C.beq,FC.beq,fA,pk,mu,eO,lQ,ie,lS,Y',isKey,bJ,cN,aV,cA,cJ,lW,zV,jG]
  .refine⟨by decide,_,rfl,.inl ⟨by decide,?_⟩⟩;simp[d,fY,V.beq,C.beq,FC.beq,fA,pk,mu,eO,lQ,ie,lS,Y',isKey,bJ,cN,aV,cA,cJ,lW,zV,jG]
 simp[d,fA,pk,mu,eO,lQ,ie,lS,Y',isKey,bJ,cN,aV,cA,cJ,lW,zV,jG];exact ay (cW (l _ _ _ _ _ _ _ _ _ _ rfl rfl ⟨rfl,rfl⟩))
theorem akj(o e:Int):bH tab 158 [.c (.f (eG o)),vi e]=Eq (.c (.f (.fn 206 [.fp [eG o] 0,.fp [fi e] 0]))):=bH.eq (by
 refine bD rfl rfl λQ b=>?_;apply ai;simp;apply ai;simp;refine aB (b _ _ ⟨rfl,.c (.cl 206 [.ptr 0 0 0,.ptr 1 0 0]),by simp[Km.results,bQ,aX],?_⟩);simp[jy,eT,aX,deep])
theorem wi1:IntKind.i64.wrap 1=1:=by decide
theorem wu1:IntKind.u64.wrap 1=1:=by decide
def Z2(o:Int):List FC:=[fi o,.es,fi 0,fi 1,.fs [fi 0] 1]
theorem ajN(c:C)(H:aj)(g:V):Ev tab (.fn 234) [.c c,vi 0,vi 1,g] H (.t []) H:=by
 obtain⟨r,b,h,rfl,rfl⟩:∃r b,Ev tab (.fn 234) [.c c,vi 0,vi 1,g] H r b/\(r=.t []/\b=H):=by
  refine cz rfl rfl λQ d=>?_
  repeat' first
   |(refine cW (d _ _ (.t []) rfl rfl ⟨rfl,rfl⟩))
   |(refine aB (d _ _ (.t []) rfl rfl ⟨rfl,rfl⟩))
   |(apply an)
   |(refine az ?_)
   |(refine dH ?_)
   |(refine ay ?_)
   |(refine aJ ?_)
   |(refine aS rfl ?_)
   |(refine au ?_ ?_;focus (simp;done))
   |(refine aA ?_ ?_;focus (simp;done))
   |(refine aq (.inl rfl) ?_;simp[wi1])
 exact h
theorem aqb(c:C)(H:aj)(g:V)(n:Int):Ev tab (.fn 207) [.c c,vi 0,vi 1,vi n,g] H (.t []) H:=by
 obtain⟨r,b,h,rfl,rfl⟩:∃r b,Ev tab (.fn 207) [.c c,vi 0,vi 1,vi n,g] H r b/\(r=.t []/\b=H):=by
  have hi:=(ajN c H g).eq;refine cz rfl rfl λQ d=>?_
  repeat' first
   |(refine cW (d _ _ (.t []) rfl rfl ⟨rfl,rfl⟩))
   |(refine aB (d _ _ (.t []) rfl rfl ⟨rfl,rfl⟩))
   |(apply an)
   |(refine az ?_)
   |(refine dH ?_)
   |(refine ay ?_)
   |(refine aJ ?_)
   |(refine aS rfl ?_)
   |(refine au ?_ ?_;focus (simp;done))
   |(refine aA ?_ ?_;focus (simp;done))
   |(refine aq (.inl rfl) ?_;simp[hi,wi1])
 exact h
theorem ao1{c:C}{H:aj}(g:V)(j:aV H c=aa 1):Ev tab (.fn 159) [.c c,g] H (.t []) H:=by
 obtain⟨r,b,h,rfl,rfl⟩:∃r b,Ev tab (.fn 159) [.c c,g] H r b/\(r=.t []/\b=H):=by
  have hi:=λn=>(aqb c H g n).eq;refine cz rfl rfl λQ d=>?_
  repeat' first
   |(refine cW (d _ _ (.t []) rfl rfl ⟨rfl,rfl⟩))
   |(refine aB (d _ _ (.t []) rfl rfl ⟨rfl,rfl⟩))
   |(apply an)
   |(refine aq (.inl rfl) ?_;simp[j,hi,wu1,anW])
 exact h
theorem aas(t:T)(H:aj)(x:Arg):bG t H (.ig x)=qQ H (x.ev t):=rfl
theorem ag5(t:T)(H:aj)(x:Arg):bG t H (.lT x)=vH H (x.ev t):=rfl
theorem ag4(t:T)(H:aj)(x:Arg):bG t H (.entry x)=(ld H (x.ev t)).map (·,H):=rfl
theorem wiL:IntKind.i64.wrap 3=3/\IntKind.i64.wrap 4=4/\IntKind.i64.wrap 7=7/\IntKind.i64.wrap 10080=10080/\IntKind.i64.wrap 2=2/\max (3:Int) 0=3/\IntKind.i64.wrap 0=0:=by decide
theorem Kz(o m:Int)(M:-1080<=o)(N:o<=1080)(X:0<=m)(m1:m<1440):bH tab 116 [.a ((zF o).map .f),vi m,.c (.f (.fn 117 []))]=Eq (.t [.c (.f (.fs (Z2 o) 1)),vi 0]):=by
 obtain⟨r,rfl,h⟩:∃r,r=.t [.c (.f (.fs (Z2 o) 1)),vi 0]/\bH tab 116 [.a ((zF o).map .f),vi m,.c (.f (.fn 117 []))] r:=by
  have s:=uF o M N;have v:=vY o;have q:=ja 0 1440 (by decide) (by decide) (by decide);have u:=akj o 10080;have Y:¬ m<0:=by omega
  have n1:¬ 1440<=m:=by omega
  simp only[zF,arf,art,eG]at s v u;simp at q;refine mF ai8 rfl λQ O=>?_
  repeat' first
   |(apply an)
   |(refine az ?_)
   |(refine aJ ?_)
   |(refine au ?_ ?_;focus (simp;done))
   |(refine aA ?_ ?_;focus (simp;done))
   |(refine aq (.inl rfl) ?_;simp[zF,s,v,q,u,Y,n1,wi1,wiL,eG,lD,qS])
  suffices go:∀d:T,d.g 3=.c (.ptr 0 0 0)->d.g 4=.c (.ptr 1 0 0)->d.g 5=.c (.ptr 2 0 0)->d.g 8=.c (.f (eG o))->d.g 12=vi 3->d.g 13=.c (.ptr 3 0 0)->d.g 14=.c (.ptr 5 0 0)->d.g 68=.c (.f (.fn 206 [.fp [eG o] 0,.fp [fi 10080] 0]))->
    WP tab 116 ab [.code tI,.inBlock 0,.code tJ] ⟨d,[],[.box ((zF o).map .f) 0,.box [.f (fi m)] 0,.box [.f (.fn 117 [])] 0,.box [.f (fi 4)] 0,.map [],.box [.mp 4] 0]⟩ Q by
   exact go _ (by simp) (by simp) (by simp) (by simp[eG]) (by simp) (by simp) (by simp) (by simp[eG])
  intro d I J K L y z j A;obtain⟨E,U,x,rfl⟩:=yy (o:=o) (e:=10080) (b:=7) (H:=YI o m (.lp 116 d [Km.P.nat 69] jA jB .ready ab 6)) (S:=λE=>∃x,E=[.box ((zF o).map .f) 0,.box [.f (fi m)] 0,.box [.f (.fn 117 [])] 0,.box [.f (fi 4)] 0,.map [(fi o,.sl 19 0 1 0 0 2)],.box [.mp 4] 0,.fj ae,.lp 116 d [Km.P.nat 69] jA jB .ready ab 6,.box [.yl 7] 0,.box ((py o).map .f) 0,.box [.f (eG o)] 0,.box [.f (fi (-2251799813685248))] 0,.fj ag,x,.box ((py o).map .f) 0,.box ((py o).map .f) 0,.box [.f (fi (-9007199254740992)),.f (fi 9007199254740992)] 0,.box [.f (fi (-9007199254740992)),.f (fi 9007199254740992)] 0,.box [.f (fi 0),.f (fi 4)] 0,.cK 2 [.f (fi 0),.f (fi 4)] 0 0 .loc])
   (λx=>by
    obtain⟨r,F,B,rfl,l⟩:=zC (o:=o) X m1 I J K z j x;exact⟨_,F,B,by rw[l];rfl,⟨ae,rfl⟩,x,by rw[l];rfl⟩)
  refine gH (g:=206) (by rw[wX,A];simp[bX]) U ?_;refine iL rfl (by decide) (ay ?_);have W:=λ(H:aj) (h:aV H (.sl 31 0 1 0 0 5)=aa 1)=>(ao1 (.c (.f (.fn 160 []))) h).eq;simp only[List.set_cons_succ,List.set_cons_zero,List.length_cons,List.length_nil,py,zF,arf,art]
  repeat' first
   |(apply an)
   |(refine az ?_)
   |(refine dH ?_)
   |(refine eX ?_)
   |(refine ay ?_)
   |(refine aJ ?_)
   |(refine aS rfl ?_)
   |(refine au ?_ ?_;focus (simp;done))
   |(refine aA ?_ ?_;focus (simp;done))
   |(refine aq (.inl rfl) ?_;simp[L,y,j,wi1,wiL,lD,eG,aas,ag5,ag4,qQ,vH,ld,aV,bJ,cN,cA,cJ,bg,mV,apZ,V.bool,fE,kg,mz,deep,aX,W])
  refine aB (O _ _ _ rfl (.inr ⟨6,rfl,rfl,.t [.c (.sl 31 0 1 0 0 5),vi 0],by simp[Km.results,bQ,aX],by simp[jy,de,kg,deep,aX,Z2]⟩))
 exact h.eq
section
variable{Nb:Int}
def zn:aE:=⟨.es,[],0,1,.fs,[0]⟩
theorem Yh:iG 12 zn:=⟨by decide,by decide,by decide,by decide⟩
theorem Yg(d:Int)(b:0<=d):bz zn d=ae:=by
 unfold bz zn;rw[bw (by simpa using b)];simp
theorem afY:bH tab 26 [.a [.f .aw,.f (fi 0),.f (fi 1),.f .aw]]=Eq (.a [.f .aw]):=bH.eq (dK (m:=300) (d:=60) (by kernel_rfl))
theorem aj2:bH tab 26 [.a [.f .es,.f (fi 0),.f (fi 1),.f (.fs [fi 0] 1)]]=Eq (.a [.f (sl .fs (aL [[zn]]))]):=bH.eq (dK (m:=300) (d:=60) (by kernel_rfl))
theorem afS:bH tab 74 [.a [.f .aw,.f (fi 0),.f (fi 1),.f (.fs [fi 0] 1)],.a [.f .es,.f (fi 0),.f (fi 1),.f (.fs [fi 0] 1)]]=Eq (.t [.a [.f .aw,.f (fi 0),.f (fi 1),.f .aw],vi 0]):=bH.eq (dK (m:=3000) (d:=60) (by kernel_rfl))
theorem Lb:bH tab 76 [.a [.f .aw,.f (fi 0),.f (fi 1),.f .aw],vi 0]=Eq (.t [vi 0,vb ag]):=bH.eq (dK (m:=3000) (d:=60) (by kernel_rfl))
theorem AG(o:Int):bH tab 75 [.a ((zF o).map .f)]=Eq (.t [vi 3,vi 1]):=bH.eq (by
 have b:=xJ 0 (by decide) (by decide);simp at b;refine bD rfl rfl λQ d=>?_
 repeat' first
  |(refine aB (d _ _ ?_))
  |(apply an)
  |(refine aJ ?_)
  |(refine au ?_ ?_;focus (simp;done))
  |(refine aA ?_ ?_;focus (simp;done))
  |(refine aq (.inl rfl) ?_;simp[zF,b,wiL,show max (0:Int) 3=3 by decide])
 simp)
theorem JV(o m:Int)(d:-1080<=o)(g:o<=1080)(l:0<=m)(m1:m<1440):bH tab 72 [.a ((zF o).map .f),vi m]=Eq (.t [.c (.f (.fs (Z2 o) 1)),vi 0]):=bH.eq (by
 have b:=Kz o m d g l m1;simp only[zF,arf,art]at b;refine bD rfl rfl λQ j=>?_
 repeat' first
  |(refine aB (j _ _ ?_))
  |(apply an)
  |(refine aq (.inl rfl) ?_;simp[zF,b])
 simp)
theorem Ai{m n:Nat}(s:1<=m)(x:m<=4)(A:n<=64)(g:Tg)(us:List (List aE))(u:eR Nb m n us) :
  ∃ts g',eR Nb m n ts/\(∀d,0<=d->(cL ts d↔cL us d))/\bH tab 25 [.a [.f (sl g (aL us))],.a [.f .aw]]=Eq (dE ts g'):=by
 have v:=gr g (dO u (ar9 _) x A);have l:=gr (Nb:=1) .nil (us:=[]) ⟨by simp,by simp⟩;have y:sl .nil (aL [])=.aw:=rfl;rw[y]at l;have B:=u.1;have j:=kG (sl g (aL us));obtain⟨ts,g',q,b⟩:=pR 112 [.fp [sl g (aL us)] 0] us (iw g us (by omega)) s x u.2 (by omega);refine⟨ts,g',⟨by have:=q.len;omega,q.ok⟩,q.mem,bH.eq ?_⟩;refine bD rfl rfl λQ z=>?_
 repeat' first
  |(refine aB (z _ _ ?_))
  |(apply an)
  |(refine az ?_)
  |(refine dH ?_)
  |(refine ay ?_)
  |(refine aJ ?_)
  |(refine aS rfl ?_)
  |(refine au ?_ ?_;focus (simp;done))
  |(refine aA ?_ ?_;focus (simp;done))
  |(refine aq (.inl rfl) ?_;simp[v,l,j,b,dE])
 simp[dE]
end
section
variable{Nb:Int}
theorem Y5(H:aj)(cs:List FC)(n i:Nat):bF H (aa n) (.c (.f (.fp cs i)))=if n<=(cs.drop i).length then aa (.a (((cs.drop i).map C.f).take n))else ab:=by
 simp only[bF,aK,Option.bind_some,bf,List.length_map]
def jv(l zs:FC)(j len g b o:Int)(d:C):List C:=[.f l,.f (fi j),.f (fi len),.f zs,.f (fi g),.f (fi b),.f .aw,.f (fi 0),.f (.fs [fi 7] 1),.f (fi (-1)),.f .aw,.f (fi o),.f .aw,.f (fi 0),.f .aw,d,.mp 4,.f .aw]
theorem Ye{m n:Nat}(M:1<=m)(X:m<=4)(Z:n<=64)(g:Tg)(us:List (List aE))(Y:eR Nb m n us)(K zs:FC)(J len u b o x:Int):∃ts g',eR Nb m n ts/\(∀d,0<=d->(cL ts d↔cL us d))/\∀(y z A B E F H I j l q s:cH),
  Ev tab (.fn 73) [.c (.ptr 5 0 0),vi x,.a [.f (sl g (aL us))]] [y,z,A,B,.map [],.box (jv K zs J len u b o (.f .aw)) 0,E,F,H,I,j,l,q,s] (vi 0)
   [y,z,A,B,.map [(fi x,.cl jG [.f (sl g' (aL ts))])],.box (jv K zs J len u b o (.sl 17 0 1 0 0 1)) 0,E,F,H,I,j,l,q,s,.box [.f (sl g (aL us))] 0,.box [.f .aw] 0,.box [.f (fi x)] 0,.cK 1 [.f (fi x)] 0 0 .loc,.box [.f (sl g' (aL ts))] 0]:=by
 obtain⟨ts,g',O,S,v⟩:=ajV (Nb:=Nb) (m:=m) (n1:=0) (n2:=n) M X (by omega) .nil g [] us ⟨by simp,by simp⟩ Y;have N:sl .nil (aL [])=.aw:=rfl;rw[N]at v;refine⟨ts,g',by simpa using O,λd W=>by rw[S d W];simp[cL],λy z A B E F H I j l q s=>?_⟩;obtain⟨r,L,h,rfl,rfl⟩:∃r L,Ev tab (.fn 73) [.c (.ptr 5 0 0),vi x,.a [.f (sl g (aL us))]] [y,z,A,B,.map [],.box (jv K zs J len u b o (.f .aw)) 0,E,F,H,I,j,l,q,s] r L/\(r=vi 0/\L=[y,z,A,B,.map [(fi x,.cl jG [.f (sl g' (aL ts))])],.box (jv K zs J len u b o (.sl 17 0 1 0 0 1)) 0,E,F,H,I,j,l,q,s,.box [.f (sl g (aL us))] 0,.box [.f .aw] 0,.box [.f (fi x)] 0,.cK 1 [.f (fi x)] 0 0 .loc,.box [.f (sl g' (aL ts))] 0]):=by
  refine cz rfl rfl λQ U=>?_
  repeat' first
   |(apply an)
   |(refine aJ ?_)
   |(refine au ?_ ?_;focus (simp;done))
   |(refine aA ?_ ?_;focus (simp;done))
   |(refine aq (.inl rfl) ?_;simp[jv,v,dE,fA,pk,mu,eO,lQ,ie,lS,Y',isKey,bJ,cN,aV,cA,cJ,lW,zV,jG])
  exact aB (U _ _ (vi 0) rfl (cV (by simp)) ⟨rfl,by simp[jv,jG]⟩)
 exact h
theorem Ar(g:Tg)(us:List (List aE))(a:eR 12 3 3 us)(H zs:FC)(l len q b o:Int)(w:-1080<=o)(h1:o<=1080)(m0:0<=l)(m1:l<1440):∃ts g',eR 12 4 3 ts/\(∀d,0<=d->(cL ts d↔cL us d))/\∀(s v x y z A:cH),∃I J K L M N O S U W:cH,
  Ev tab (.fn 27) [.c (.ptr 5 0 0),.a [.f (sl g (aL us))]] [s,v,x,y,.map [],.box (jv H zs l len q b o (.f .aw)) 0,z,A] (.t [.a [.f .aw,.f (fi 0),.f (fi 1),.f .aw],vi 0])
   ([s,v,x,y,.map [(fi (l-o),.cl jG [.f (sl g' (aL ts))])],.box (jv H zs l len q b o (.sl 17 0 1 0 0 1)) 0,z,A,I,J,K,L,M,N,O,S,U,.cK 1 [.f (fi (l-o))] 0 0 .loc,W]):=by
 have E:eR 12 1 1 [[zn]]:=⟨by simp,λu a=>by rw[arb.1 a];exact⟨by simp,by simp,λp Y=>by rw[arb.1 Y];exact Yh⟩⟩
 obtain⟨ws,t,hw,c,F⟩:=afO (m1:=3) (m2:=1) (n1:=3) (n2:=1) (by decide) (by decide) (by decide) (by decide) (by decide) g .fs us [[zn]] a E;obtain⟨ts,g',ht,Z,j⟩:=Ye (m:=4) (n:=3) (by decide) (by decide) (by decide) t ws hw H zs l len q b o (l-o);have B:=JV o l w h1 m0 m1;simp only[zF,arf,art]at B;have j:=λs v x y z A x8 x9 e f i k=>(j s v x y z A x8 x9 e f i k).eq;simp only[jv]at j;refine⟨ts,g',ht,λd B=>by
  rw[Z d B,c d B];exact⟨λh=>h.1,λh=>⟨h,[zn],by simp,λp Y=>by rw[arb.1 Y];exact Yg d B⟩⟩,λs v x y z A=>?_⟩
 obtain⟨r,X,h,rfl,I,J,K,L,M,N,O,S,U,W,rfl⟩:∃r X,Ev tab (.fn 27) [.c (.ptr 5 0 0),.a [.f (sl g (aL us))]] [s,v,x,y,.map [],.box (jv H zs l len q b o (.f .aw)) 0,z,A] r X/\(r=.t [.a [.f .aw,.f (fi 0),.f (fi 1),.f .aw],vi 0]/\∃I J K L M N O S U W,X=([s,v,x,y,.map [(fi (l-o),.cl jG [.f (sl g' (aL ts))])],.box (jv H zs l len q b o (.sl 17 0 1 0 0 1)) 0,z,A,I,J,K,L,M,N,O,S,U,.cK 1 [.f (fi (l-o))] 0 0 .loc,W])):=by
  refine cz rfl rfl λQ hQ=>?_
  repeat' first
   |(apply an)
   |(refine az ?_)
   |(refine dH ?_)
   |(refine eX ?_)
   |(refine ay ?_)
   |(refine aJ ?_)
   |(refine aS rfl ?_)
   |(refine au ?_ ?_;focus (simp;done))
   |(refine aA ?_ ?_;focus (simp;done))
   |(refine aq (.inl rfl) ?_;simp[jv,B,Z2,aj2,F,dE,afS,j,aM (n:=l-o),wi1,aV,bg,fE,Y5,deep,kg,mz,aX])
  refine aB (hQ _ _ (.t [.a [.f .aw,.f (fi 0),.f (fi 1),.f .aw],vi 0]) rfl ?_ ⟨rfl,?_⟩)
  .simp[Km.results,bQ,aX,bf]
  .exact⟨_,_,_,_,_,_,_,_,_,_,rfl⟩
 exact⟨_,_,_,_,_,_,_,_,_,_,h⟩
theorem Zv(d E zs:FC)(B len g b o:Int)(F H I J K L M N O j l m q s u v x y z:cH)(c:C):∃S U W:cH,
  Ev tab (.fn 28) [.c (.ptr 5 0 0),.a [.f d],.a [.f .aw,.f (fi 0),.f (fi 1),.f .aw]] [F,H,I,J,K,.box (jv E zs B len g b o c) 0,L,M,N,O,j,l,m,q,s,u,v,x,y,z] (vi 0)
   [F,H,I,J,K,.box (jv E zs B len g b o c) 0,L,M,N,O,j,l,m,q,s,u,v,x,y,z,S,U,W]:=by
 have A:=AG o;simp only[zF,arf,art]at A;have Z:=Lb;obtain⟨r,X,h,rfl,S,U,W,rfl⟩:∃r X,Ev tab (.fn 28) [.c (.ptr 5 0 0),.a [.f d],.a [.f .aw,.f (fi 0),.f (fi 1),.f .aw]] [F,H,I,J,K,.box (jv E zs B len g b o c) 0,L,M,N,O,j,l,m,q,s,u,v,x,y,z] r X/\(r=vi 0/\∃S U W,
   X=[F,H,I,J,K,.box (jv E zs B len g b o c) 0,L,M,N,O,j,l,m,q,s,u,v,x,y,z,S,U,W]):=by
  refine cz rfl rfl λQ Y=>?_
  repeat' first
   |(apply an)
   |(refine az ?_)
   |(refine dH ?_)
   |(refine iM ?_)
   |(refine nP ?_)
   |(refine mo ?_)
   |(refine eX ?_)
   |(refine ay ?_)
   |(refine aJ ?_)
   |(refine aS rfl ?_)
   |(refine au ?_ ?_;focus (simp;done))
   |(refine aA ?_ ?_;focus (simp;done))
   |(refine aq (.inl rfl) ?_;simp[jv,A,Z,qS])
  refine aB (Y _ ⟨_,_,_⟩ (vi 0) rfl (cV ?_) ⟨rfl,?_⟩)
  .simp
  .exact⟨_,_,_,rfl⟩
 exact⟨_,_,_,h⟩
theorem akc(c:C)(H:aj):Ev tab (.fn 181) [.c c,vi 0,vi 1] H (.t []) H:=by
 obtain⟨r,b,h,rfl,rfl⟩:∃r b,Ev tab (.fn 181) [.c c,vi 0,vi 1] H r b/\(r=.t []/\b=H):=by
  have e:=ai3
  conv at e=>rhs;reduce;simp only[Ph,Po,Pi,Rr,Dd,Gg,Nat.reduceMul,Nat.reduceAdd,Int.reduceOfNat,atU]
  refine cz e rfl λQ d=>?_
  repeat' first
   |(refine cW (d _ _ (.t []) rfl rfl ⟨rfl,rfl⟩))
   |(apply an)
   |(refine az ?_)
   |(refine dH ?_)
   |(refine ay ?_)
   |(refine aJ ?_)
   |(refine aS rfl ?_)
   |(refine au ?_ ?_;focus (simp;done))
   |(refine aA ?_ ?_;focus (simp;done))
   |(refine aq (.inl rfl) ?_;simp[wi1])
 exact h
theorem aor(c:C)(H:aj)(n:Int):Ev tab (.fn 126) [.c c,vi 0,vi 1,vi n] H (.t []) H:=by
 obtain⟨r,b,h,rfl,rfl⟩:∃r b,Ev tab (.fn 126) [.c c,vi 0,vi 1,vi n] H r b/\(r=.t []/\b=H):=by
  have hi:=(akc c H).eq;have e:=ai5
  conv at e=>rhs;reduce;simp only[Ph,Po,Pi,Rr,Dd,Gg,Nat.reduceMul,Nat.reduceAdd,Int.reduceOfNat,atU]
  refine cz e rfl λQ d=>?_
  repeat' first
   |(refine cW (d _ _ (.t []) rfl rfl ⟨rfl,rfl⟩))
   |(refine aB (d _ _ (.t []) rfl rfl ⟨rfl,rfl⟩))
   |(apply an)
   |(refine az ?_)
   |(refine dH ?_)
   |(refine ay ?_)
   |(refine aJ ?_)
   |(refine aS rfl ?_)
   |(refine au ?_ ?_;focus (simp;done))
   |(refine aA ?_ ?_;focus (simp;done))
   |(refine aq (.inl rfl) ?_;simp[hi,wi1])
 exact h
theorem afy{c:C}{H:aj}(j:aV H c=aa 1):Ev tab (.fn 78) [.c c] H (.t []) H:=by
 obtain⟨r,b,h,rfl,rfl⟩:∃r b,Ev tab (.fn 78) [.c c] H r b/\(r=.t []/\b=H):=by
  have hi:=λn=>(aor c H n).eq;have d:=anW;have e:=Yc
  conv at e=>rhs;reduce;simp only[Ph,Po,Pi,Rr,Dd,Gg,Nat.reduceMul,Nat.reduceAdd,Int.reduceOfNat,atU]
  refine cz e rfl λQ g=>?_
  repeat' first
   |(refine cW (g _ _ (.t []) rfl rfl ⟨rfl,rfl⟩))
   |(apply an)
   |(refine aq (.inl rfl) ?_;simp[j,hi,wu1,d])
 exact h
theorem yO(S:FC)(y zs:FC)(v len j d o x:Int)(b:Bool)(hb:bH tab 8 [.a [.f S]]=Eq (vb b))(z A B l E I K L M N O U W X Y Z z0 z1 z2 z3:cH):∃J:aj,
  Ev tab (.fn 30) [.c (.ptr 5 0 0)] [z,A,B,l,.map [(fi x,.cl jG [.f S])],.box (jv y zs v len j d o (.sl 17 0 1 0 0 1)) 0,E,I,K,L,M,N,O,U,W,X,Y,.cK 1 [.f (fi x)] 0 0 .loc,Z,z0,z1,z2,z3] (.t [.a [if b then .f .aw else .sl 26 0 1 0 0 2,.f (fi len),.f .aw],vi 0]) J/\
  J[3]?=aa l/\(b=ag->J[26]?=aa (.cK 2 [.f S,.f (fi x)] 0 0 .loc)):=by
 have s:=λ(H:aj) (h:aV H (.sl 17 0 1 0 0 1)=aa 1)=>(afy h).eq;have q:=λ(H:aj)=>(show Ev tab (.fn 56) [.c (.f .aw),.c (.f (.fn 37 []))] H (.t []) H by
  obtain⟨r,g,h,rfl,rfl⟩:=aaf (H:=H) (F:=37);exact h).eq
 have m:=λ(H:aj)=>(show Ev tab (.fn 57) [.c (.f .aw)] H (.c (.f .aw)) H by
  obtain⟨r,g,h,rfl,rfl⟩:=xz (H:=H);exact h).eq
 obtain⟨r,g,h,rfl,hJ⟩:∃r g,Ev tab (.fn 30) [.c (.ptr 5 0 0)] [z,A,B,l,.map [(fi x,.cl jG [.f S])],.box (jv y zs v len j d o (.sl 17 0 1 0 0 1)) 0,E,I,K,L,M,N,O,U,W,X,Y,.cK 1 [.f (fi x)] 0 0 .loc,Z,z0,z1,z2,z3] r g/\(r=.t [.a [if b then .f .aw else .sl 26 0 1 0 0 2,.f (fi len),.f .aw],vi 0]/\g[3]?=aa l/\(b=ag->g[26]?=aa (.cK 2 [.f S,.f (fi x)] 0 0 .loc))):=by
  refine cz rfl rfl λQ u=>?_;cases b
  all_goals repeat' first
   |(apply an)
   |(refine az ?_)
   |(refine dH ?_)
   |(refine eX ?_)
   |(refine ay ?_)
   |(refine aJ ?_)
   |(refine aS rfl ?_)
   |(refine au ?_ ?_;focus (simp;done))
   |(refine aA ?_ ?_;focus (simp;done))
   |(refine aq (.inl rfl) ?_;simp[jv,s,q,m,hb,fA,eO,ie,vo,Y',isKey,mV,lW,jG,aV,bg,fE,wi1,bJ,cN,cA,cJ])
  .refine aB (u _ _ (.t [.a [.sl 26 0 1 0 0 2,.f (fi len),.f .aw],vi 0]) rfl ?_ ⟨rfl,rfl,λ_=>rfl⟩);simp[Km.results,bQ,aX,bf]
  .refine aB (u _ _ (.t [.a [.f .aw,.f (fi len),.f .aw],vi 0]) rfl ?_ ⟨rfl,rfl,λh=>by cases h⟩);simp[Km.results,bQ,aX,bf]
 exact⟨g,h,hJ⟩
def vX(j zs:FC)(g len d b:Int):List C:=[.f j,.f (fi g),.f (fi len),.f zs,.f (fi d),.f (fi b),.f .aw]
theorem Bf(n lo hi:Int)(h:lo<=n)(b:n<=hi):bH tab 58 [vi n,vi lo,vi hi]=Eq (vb ae):=bH.eq (by
 refine bD rfl rfl λQ d=>?_
 repeat' first
  |(refine aB (d _ _ ?_))
  |(apply an)
  |(refine aq (.inl rfl) ?_;simp[h,b])
 simp)
theorem yC(E zs:FC)(g len d b:Int)(B:0<=g)(m1:g<=1439)(z:1<=len)(A:len<=10080)(m:0<=d)(q:d<=2)(j:0<=b)(l:b<=2):bH tab 22 [.a (vX E zs g len d b)]=Eq (vb ae):=bH.eq (by
 have u:=Bf g 0 1439 B m1;have v:=Bf len 1 10080 z A;have x:=Bf d 0 2 m q;have y:=Bf b 0 2 j l;refine bD rfl rfl λQ s=>?_
 repeat' first
  |(refine aB (s _ _ ?_))
  |(apply an)
  |(refine az ?_)
  |(refine dH ?_)
  |(refine ay ?_)
  |(refine aJ ?_)
  |(refine aS rfl ?_)
  |(refine au ?_ ?_;focus (simp;done))
  |(refine aA ?_ ?_;focus (simp;done))
  |(refine aq (.inl rfl) ?_;simp[vX,u,v,x,y])
 simp)
end
theorem of_flat(g:Tg)(us:List (List aE))(a:eR 12 3 3 us)(y zs:FC)(q len l j o:Int)(U:-1080<=o)(W:o<=1080)(e:0<=q)(m1:q<1440)(l0:1<=len)(l1:len<=10080)(g0:0<=l)(g1:l<=2)(f0:0<=j)(f1:j<=2) :
  ∃ts g' b,eR 12 4 3 ts/\(∀d,0<=d->(cL ts d↔cL us d))/\(b=ae↔∀d,0<=d->¬ cL ts d)/\bH tab 6 [.a (vX y zs q len l j),.a [.f (sl g (aL us))],.a ((zF o).map .f)]=Eq (.t [.a [.f (if b then .aw else .fs [sl g' (aL ts),fi (q-o)] 1),.f (fi len),.f .aw],vi 0]):=by
 have hv:=gr g (dO a (ar9 _) (show 3<=4 by decide) (show 3<=64 by decide));have c:=AI o U W;have Y:=yC y zs q len l j e (by omega) l0 l1 g0 g1 f0 f1;have K:=afY;obtain⟨v,z,L,B,A⟩:=Ai (m:=3) (n:=3) (by decide) (by decide) (by decide) g us a;obtain⟨ts,g',Z,M,u⟩:=Ar z v L y zs q len l j o U W e m1;obtain⟨b,hb,I⟩:=nh g' (dO Z (ar9 _) (show 4<=4 by decide) (show 3<=64 by decide));refine⟨ts,g',b,Z,λd X=>(M d X).trans (B d X),hb,?_⟩;obtain⟨f,h,i,k,p,r,t,w,y8,y9,u⟩:=u (.box (vX y zs q len l j) 0) (.box [.f (sl g (aL us))] 0) (.box ((zF o).map .f) 0) (.box [.f .aw,.f (fi 0),.f .aw] 0) (.box [.f .aw,.f (fi 0),.f (fi 1),.f .aw] 0) (.box [.f (sl z (aL v))] 0);obtain⟨z1,z2,z3,s⟩:=Zv (sl z (aL v)) y zs q len l j o (.box (vX y zs q len l j) 0) (.box [.f (sl g (aL us))] 0) (.box ((zF o).map .f) 0) (.box [.f .aw,.f (fi 0),.f .aw] 0) (.map [(fi (q-o),.cl jG [.f (sl g' (aL ts))])]) (.box [.f .aw,.f (fi 0),.f (fi 1),.f .aw] 0) (.box [.f (sl z (aL v))] 0) f h i k p r t w y8 (.cK 1 [.f (fi (q-o))] 0 0 .loc) y9 (.box [.f .aw,.f (fi 0),.f (fi 1),.f .aw] 0) (.sl 17 0 1 0 0 1);obtain⟨J,x,O,N⟩:=yO (sl g' (aL ts)) y zs q len l j o (q-o) b I (.box (vX y zs q len l j) 0) (.box [.f (sl g (aL us))] 0) (.box ((zF o).map .f) 0) (.box [.f .aw,.f (fi 0),.f .aw] 0) (.box [.f .aw,.f (fi 0),.f (fi 1),.f .aw] 0) (.box [.f (sl z (aL v))] 0) f h i k p r t w y8 y9 (.box [.f .aw,.f (fi 0),.f (fi 1),.f .aw] 0) z1 z2 z3;have u:=u.eq;have s:=s.eq;have x:=x.eq;have H:(J.set 3 (.box [if b then .f .aw else .sl 26 0 1 0 0 2,.f (fi len),.f .aw] 0))[3]?=aa (.box [if b then .f .aw else .sl 26 0 1 0 0 2,.f (fi len),.f .aw] 0):=aq6 (av O);have s3:dC J (.ptr 3 0 0) [if b then .f .aw else .sl 26 0 1 0 0 2,.f (fi len),.f .aw]=aa (J.set 3 (.box [if b then .f .aw else .sl 26 0 1 0 0 2,.f (fi len),.f .aw] 0)):=by simp[dC,O,bR]
 simp only[vX,jv,zF,arf,art]at Y c u s x;refine bH.eq (bD rfl rfl λQ hQ=>?_)
 repeat' first
  |(apply an)
  |(refine az ?_)
  |(refine dH ?_)
  |(refine eX ?_)
  |(refine ay ?_)
  |(refine aJ ?_)
  |(refine aS rfl ?_)
  |(refine au ?_ ?_;focus (simp;done))
  |(refine aA ?_ ?_;focus (simp;done))
  |(refine aq (.inl rfl) ?_;simp[vX,zF,Y,hv,c,K,A,dE,u,s,qS])
 simp only[x,Km.KE];refine⟨_,_,⟨rfl,rfl⟩,?_⟩;simp[s3,-bC];refine aB (hQ _ _ ?_);cases b
 .have E:=N rfl;have F:(J.set 3 (.box [.sl 26 0 1 0 0 2,.f (fi len),.f .aw] 0))[26]?=aa (.cK 2 [.f (sl g' (aL ts)),.f (fi (q-o))] 0 0 .loc):=by
   rw[List.getElem?_set_ne (by decide)];exact E
  have S:(J.set 3 (.box [.sl 26 0 1 0 0 2,.f (fi len),.f .aw] 0))[3]?=aa (.box [.sl 26 0 1 0 0 2,.f (fi len),.f .aw] 0):=aq6 (av O);simp[deep,jy,de,Km.nB,Km.results,bQ,aX,bf,S,F,eT,kg]
 .simp[deep,jy,de,Km.nB,Km.results,bQ,aX,bf]at H ⊢;simp[H]
def u16(n:Nat):FC:=.int .u16 n
structure ma where(mi le po:Nat)(mg:Tg)(mv:List (Nat × Nat))(dg:Tg)(ds:List ByD)
def qN(x:Nat × Nat):List FC:=[u16 x.1,u16 x.2]
def ma.row(x:ma):List FC:=[u16 x.mi,u8 x.le,u8 x.po,sl x.mg (x.mv.map qN),sl x.dg (fJ x.ds)]
structure ma.OK(x:ma):Prop where
 mi:x.mi<65536
 le:x.le<256
 po:x.po<256
 ml:x.mv.length<=9223372036854775807
 mb:∀a∈x.mv,a.1<65536/\a.2<65536
 dl:x.ds.length<=9223372036854775807
 db:∀b∈x.ds,aiA b
theorem Lv(i:Nat)(h:i<6):∃(len:Int) (rest:List C),[C.f (fi 30),C.f (fi 60),C.f (fi 90),C.f (fi 600),C.f (fi 1440),C.f (fi 3000)].drop i=C.f (fi len)::rest/\1<=len/\len<=10080:=by
 match i,h with
 |0,_=>exact⟨_,_,rfl,by decide,by decide⟩
 |1,_=>exact⟨_,_,rfl,by decide,by decide⟩
 |2,_=>exact⟨_,_,rfl,by decide,by decide⟩
 |3,_=>exact⟨_,_,rfl,by decide,by decide⟩
 |4,_=>exact⟨_,_,rfl,by decide,by decide⟩
 |5,_=>exact⟨_,_,rfl,by decide,by decide⟩
theorem afC{tab:TB}{fn:Nat}{d:Option Nat}{a b:ax}{k:List cO}{s:St}{Q:Option ax->St->Prop}{c:Arg}{v:Bool}(l:c.ev s.aF=.c (.f (.bool v)))(g:WP tab fn d (.code a::k) s Q)(j:WP tab fn d (.code b::k) s Q) :
  WP tab fn d (.code (.cond c a b)::k) s Q:=qK l (by cases v;exact j;exact g)
theorem xX(x:ma)(A:x.OK):∃I zs v len j d F J us,(0<=v/\v<1440/\1<=len/\len<=10080/\0<=j/\j<=2/\0<=d/\d<=2)/\rm us/\
  bH tab 5 [.a (x.row.map .f)]=Eq (.t [.a [.f I,.f (fi v),.f (fi len),.f zs,.f (fi j),.f (fi d),.f F],.a [.f (sl J (aL us))]]):=by
 obtain⟨J,us,M,u⟩:=Zd x.dg A.dl A.db;obtain⟨v,le,q,mg,z,dg,ds⟩:=x;simp at u;have w1:IntKind.wrap .i64 (v:Int)=v:=by have:=A.mi;exact wrap64 (by omega) (by simp at this;omega)
 have w2:IntKind.wrap .i64 (q:Int)=q:=by have:=A.po;exact wrap64 (by omega) (by simp at this;omega)
 have w3:IntKind.wrap .i64 ((q:Int) / 3)=(q:Int) / 3:=by have:=A.po;exact wrap64 (by omega) (by simp at this;omega)
 have r1:bL .rem (vi v) (vi 1440)=aa (vi ((v:Int) % 1440)):=dY (by omega) (by decide);have r2:bL .rem (vi q) (vi 3)=aa (vi ((q:Int) % 3)):=dY (by omega) (by decide);have r3:bL .rem (vi ((q:Int) / 3)) (vi 3)=aa (vi ((q:Int) / 3 % 3)):=dY (by omega) (by decide);have Z:bL .rem (.c (.f (u8 le))) (.c (.f (.int .u8 6)))=aa (.c (.f (u8 (le % 6)))):=by
  have:((le:Int)).tmod 6=((le % 6:Nat):Int):=by rw[Int.tmod_eq_emod_of_nonneg (by omega)];omega
  simp[bL,iT,V.int,this]
 have r5:bL .quo (.c (.f (u8 q))) (.c (.f (.int .u8 3)))=aa (.c (.f (.int .u8 ((q:Int) / 3)))):=by
  have:((q:Int)).tdiv 3=(q:Int) / 3:=Int.tdiv_eq_ediv_of_nonneg (by omega);have h2:IntKind.wrap .u8 ((q:Int) / 3)=(q:Int) / 3:=by
   have:=A.po;simp at this;rw[show IntKind.wrap .u8 ((q:Int) / 3)=((q:Int) / 3) % 256 by simp[IntKind.wrap,IntKind.bits,IntKind.signed]];omega
  simp[bL,iT,V.int,this,h2]
 have X:le % 6<6:=by omega
 have B:((le % 6:Nat):Int)<6:=by omega
 obtain⟨k,ek⟩:=aQ (le % 6);rw[<-ek]at Z X B;obtain⟨len,rest,y,l1,l2⟩:=Lv k X;have et:aU (us.map λfs=>⟨.fs,fs⟩)=aL us:=by simp[aU,aL,dc.row]
 rw[et]at u;have rr:∀(k:IntKind) (m:Int),m≠0->∃f:Int->Int,∀n,bL .rem (.c (.f (.int k n))) (.c (.f (.int k m)))=aa (.c (.f (.int k (f n)))):=λk m L=>⟨λn=>n.tmod m,λn=>by simp[bL,iT,V.int,L]⟩
 have Y:∀(k:IntKind) (m:Int),m≠0->∃f:Int->Int,∀n,bL .quo (.c (.f (.int k n))) (.c (.f (.int k m)))=aa (.c (.f (.int k (f n)))):=λk m L=>⟨λn=>k.wrap (n.tdiv m),λn=>by simp[bL,iT,V.int,L]⟩
 obtain⟨f1,e1⟩:=rr .u16 12 (by decide);obtain⟨f2,e2⟩:=rr .u16 4 (by decide);obtain⟨f3,e3⟩:=rr .u16 100 (by decide);obtain⟨f4,e4⟩:=rr .i64 1440 (by decide);obtain⟨f5,e5⟩:=rr .i64 45 (by decide);obtain⟨f6,e6⟩:=Y .u16 12 (by decide);obtain⟨f7,e7⟩:=Y .u16 1440 (by decide);have U:∀(g:Tg) (r:List FC) (K:List (List FC)),sl g (r::K)=.fs (r++K.flatten) (K.length+1):=λg r K=>by simp[sl]
 have N:∀(H:aj) (xs:List FC) (n:Nat),aV H (.f (.fs xs n))=aa n:=λ_ _ _=>by simp[aV]
 have O:∀(H:aj) (b o l c W sz:Nat),aV H (.sl b o l c W sz)=match H[b]? with|some (.box _ _)=>aa l|some (.cK s _ _ e _)=>if W=e/\sz=s then aa l else ab|_=>ab:=λ_ _ _ _ _ _ _=>rfl
 have v0:IntKind.i64.wrap 0=0:=by decide
 have v1:IntKind.i64.wrap 1=1:=by decide
 have v2:IntKind.i64.wrap 2=2:=by decide
 have v3:IntKind.i64.wrap 3=3:=by decide
 have q0:∀n:Nat,(0:Int)<n+1+1+1+1:=λn=>by omega
 have q1:∀n:Nat,(1:Int)<n+1+1+1+1:=λn=>by omega
 have q2:∀n:Nat,(2:Int)<n+1+1+1+1:=λn=>by omega
 have q3:∀n:Nat,(3:Int)<n+1+1+1+1:=λn=>by omega
 have key:∃r,(∃I zs v len j d F,(0<=v/\v<1440/\1<=len/\len<=10080/\0<=j/\j<=2/\0<=d/\d<=2)/\r=.t [.a [.f I,.f (fi v),.f (fi len),.f zs,.f (fi j),.f (fi d),.f F],.a [.f (sl J (aL us))]])/\
   bH tab 5 [.a (ma.row ⟨v,le,q,mg,z,dg,ds⟩ |>.map .f)] r:=by
  refine ey rfl rfl λQ hQ=>?_;rcases z with _|⟨⟨a1,b1⟩,_|⟨⟨a2,b2⟩,_|⟨⟨a3,b3⟩,_|⟨⟨a4,b4⟩,z⟩⟩⟩⟩
  all_goals repeat' first
   |(refine aB (hQ _ _ (.t [.a [.f _,.f (fi ((v:Int) % 1440)),.f (fi len),.f _,.f (fi ((q:Int) % 3)),.f (fi ((q:Int) / 3 % 3)),.f _],.a [.f (sl J (aL us))]]) ⟨_,_,_,_,_,_,_,⟨by omega,by omega,l1,l2,by omega,by omega,by omega,by omega⟩,rfl⟩ ⟨rfl,_,rfl,rfl⟩))
   |(apply an)
   |(refine az ?_)
   |(refine dH ?_)
   |(refine eX ?_)
   |(refine ay ?_)
   |(refine aJ ?_)
   |(refine aS rfl ?_)
   |(refine au ?_ ?_;focus (simp;done))
   |(refine aA ?_ ?_;focus (simp;done))
   |(refine afC rfl ?_ ?_)
   |(refine aq (.inl rfl) ?_;simp[ma.row,u,u16,w1,w2,w3,r1,r2,r3,Z,r5,B,y,bg,fE,qN,e1,e2,e3,e4,e5,e6,e7,U,v0,v1,v2,v3,N,O,lD,bJ,cN,cA,cJ,q0,q1,q2,q3])
 obtain⟨r,⟨I,zs,S,E,j,d,F,h,rfl⟩,hp⟩:=key;exact⟨I,zs,S,E,j,d,F,J,us,h,M.1,hp.eq⟩
theorem Aw(g:Tg)(l:List Int)(limit:Int)(O:l.length<=9223372036854775807):Kf tab 85 [.c (.f (sl g (ints l))),vi limit] (vb (cB limit (-1) l)):=by
 refine dL rfl rfl λH Q z=>?_;have bad:cB limit (-1) l=ag->∀(t:T) k,WP tab 85 ab (.code (.region [⟨D 4,.cP (.k (.c (.f (.bool ag)))),ab⟩] [])::.code .ret::k) ⟨t,[],H⟩ Q:=by
  intro N t k;refine aq (.inl rfl) ?_;simp;refine aB (z _ _ ?_);simp[N]
 apply ai;simp;apply an;apply ai;simp;refine nb l.length (λj t J=>t.g 0=.c (.f (sl g (ints l)))/\t.g 1=vi limit/\H=J/\∃last,-1<=last/\(∀m,j=m+1->∀h:m<l.length,last=(l[m]'h))/\(j=0->last = -1)/\cB limit (-1) l=cB limit last (l.drop j)) O rfl (by simp)
  ⟨by simp,by simp,rfl,-1,by omega,by omega,by simp,by simp⟩ ?_ ?_ ?_
 .rintro j t _ L x ⟨q,u,rfl,h⟩ d M;simp[d,q];exact M _ ⟨by simp[q],by simp[u],rfl,h⟩ (by simp[d]) (by simp)
 .rintro j t _ x ⟨q,u,rfl,last,U,F,I,s⟩ d next
  rw[oZ x]at s;refine az ?_;apply ai;simp[q,u,d,bO,x,dJ];by_cases A:l[j]<0
  .simp[A];refine au (by simp) (an (bad ?_ _ _));rw[s,decide_eq_false (show¬ last<l[j] by omega)];rfl
  simp[A,q,u,d,bO,x,dJ];by_cases B:limit<=l[j]
  .simp[B];refine au (by simp) (an (bad ?_ _ _));rw[s,decide_eq_false (show¬ l[j]<limit by omega)];simp
  simp[B,d];have go:last<l[j]->∃b,-1<=b/\(∀m,j+1=m+1->∀h:m<l.length,b=(l[m]'h))/\(j+1=0->b = -1)/\cB limit (-1) l=cB limit b (l.drop (j+1)):=by
   intro h;rw[decide_eq_true h,decide_eq_true (show l[j]<limit by omega),ash,ash]at s;refine⟨l[j],by omega,λm y h=>?_,by omega,s⟩;have:m=j:=by omega
   subst this;rfl
  cases j with
  |zero=>
   simp;refine aA (by simp) ?_;refine aJ (ay (next _ _ ?_ (by simp[d])));exact⟨by simp[q],by simp[u],rfl,go (by have:=I rfl;omega)⟩
  |succ m=>
   have y:m<l.length:=by omega
   have S:=F m rfl y;have K:((m+1:Nat):Int)-1=m:=by omega
   have v:∀H:aj,bg H 1 ab (.c (.f (sl g (ints l)))) (vi ((m:Int)+1))=aa (.c (.f (.fp (ints l).flatten (m+1)))):=λH=>by
    have:=bO (H:=H) (g:=g) (rows:=ints l) (sz:=1) (k:=.i64) (i:=(m:Int)+1) (by omega) (by simp;omega);rwa[show((m:Int)+1).toNat=m+1 by omega,Nat.mul_one]at this
   simp[show 0<m+1 by omega,v,q,d,K,aM (n:=(m:Int)),bO,x,y,dJ];by_cases E:l[m+1]<=l[m]
   .simp[E];refine au (by simp) (an (bad ?_ _ _));rw[s,decide_eq_false (show¬ last<l[m+1] by omega)];rfl
   .simp[E];refine aA (by simp) ?_;refine aJ (ay (next _ _ ?_ (by simp[d])));exact⟨by simp[q],by simp[u],rfl,go (by omega)⟩
 .rintro t _ ⟨q,u,rfl,last,U,F,I,s⟩ d;apply ai;simp;refine aB (z _ _ ?_);simp[s,cB]
theorem sE(g:Tg)(l:List Int)(limit:Int)(b:l.length<=9223372036854775807) :
  bH tab 85 [.c (.f (sl g (ints l))),vi limit]=Eq (vb (cB limit (-1) l)):=(Aw g l limit b).eq
theorem agM(p:aE)(h:p.head.length+p.aZ.length<=9223372036854775807):Kf tab 44 [.a (p.row.map .f)] (vb (cm p)):=by
 refine dL rfl rfl λH Q b=>?_;have bad:cm p=ag->∀(t:T) (J:aj) k,WP tab 44 ab (.code (.region [⟨D 2,.cP (.k (.c (.f (.bool ag)))),ab⟩] [])::.code .ret::k) ⟨t,[],H++J⟩ Q:=by
  intro x t J k;refine aq (.inl rfl) ?_;simp;refine aB (b _ _ ?_);simp[x]
 apply ai;simp[aE.row];apply an;apply ai;simp;by_cases g:p.fr<0
 .simp[g];exact au (by simp) (an (bad (by simp[cm,show¬ 0<=p.fr by omega]) _ _ _))
 simp[g];by_cases j:1099511627776<p.fr
 .simp[j];exact au (by simp) (an (bad (by simp[cm,show¬ p.fr<=1099511627776 by omega]) _ _ _))
 simp[j];by_cases l:p.aH<1
 .simp[l];exact au (by simp) (an (bad (by simp[cm,show¬ 1<=p.aH by omega]) _ _ _))
 simp[l];by_cases m:1099511627776<p.aH
 .simp[m];exact au (by simp) (an (bad (by simp[cm,show¬ p.aH<=1099511627776 by omega]) _ _ _))
 simp[m];refine ba (by simp) ?_;apply an;apply ai;simp;by_cases q:(1048576:Int)<p.head.length
 .simp[q];exact au (by simp) (an (bad (by simp[cm,show¬ (p.head.length:Int)+p.aZ.length<=1048576 by omega]) _ _ _))
 simp[q];by_cases s:(1048576:Int)<p.aZ.length
 .simp[s];exact au (by simp) (an (bad (by simp[cm,show¬ (p.head.length:Int)+p.aZ.length<=1048576 by omega]) _ _ _))
 simp[s,aM (n:=(p.head.length:Int)+p.aZ.length)];by_cases u:(1048576:Int)<p.head.length+p.aZ.length
 .simp[u];exact au (by simp) (an (bad (by simp[cm,show¬ (p.head.length:Int)+p.aZ.length<=1048576 by omega]) _ _ _))
 simp[u];refine ba (by simp) ?_;apply ai;simp[sE p.hg p.head p.fr (by omega)];have d:cm p=(cB p.fr (-1) p.head&&cB p.aH (-1) p.aZ):=by
  simp[cm,show 0<=p.fr by omega,show p.fr<=1099511627776 by omega,show 1<=p.aH by omega,show p.aH<=1099511627776 by omega,show(p.head.length:Int)+p.aZ.length<=1048576 by omega]
 cases v:cB p.fr (-1) p.head
 .simp;refine aB (b _ _ ?_);simp[d,v]
 simp[sE p.cg p.aZ p.aH (by omega)];refine aB (b _ _ ?_);simp[d,v]
theorem agN(p:aE)(h:cm p=ae):bH tab 44 [.a (p.row.map .f)]=Eq (vb (cm p)):=(agM p (by simp[cm]at h;omega)).eq
theorem Lu{Nb:Int}(g:Tg){us:List (List aE)}(h:eR Nb 4 64 us):bH tab 12 [.a [.f (sl g (aL us))]]=Eq (vb ae):=bH.eq (by
 refine bD rfl rfl λQ F=>?_;have N:=h.1;have A:¬ (64:Int)<us.length:=by omega
 have d:(aL us).length=us.length:=by simp[aL]
 apply ai;simp;refine an (ai ?_);simp[d,A];refine ba (by simp) ?_;apply an;apply ai;simp;refine nb us.length (λj t J=>t.g 1=.c (.ptr 0 0 0)/\J=[.box [.f (sl g (aL us))] 0]) (by omega) (by decide) (by simp) ⟨by simp,rfl⟩ ?_ ?_ ?_
 .rintro j t _ L x ⟨b,rfl⟩ m z;simp[m,b,d];exact z _ ⟨by simp[b],rfl⟩ (by simp[m]) (by simp)
 .rintro j t _ x ⟨b,rfl⟩ m next
  have u:=h.2 us[j] (aq7 x);have K:=arY.2 u.1;have M:=u.2.1;have y:∀H:aj,bF H ab (.c (.f (.fp (aL us).flatten j)))=aa (.c (.f (sl .fs (aC us[j])))):=λH=>by
   have:=fF (H:=H) (du us) (j:=j) (row:=[sl .fs (aC us[j])]) (by simp[aL,x]) rfl;simpa[aL]using this
  have v:∀H:aj,bg H 1 ab (.c (.f (sl g (aL us)))) (vi j)=aa (.c (.f (.fp (aL us).flatten j))):=λH=>by
   have:=bO (H:=H) (g:=g) (rows:=aL us) (sz:=1) (k:=.i64) (i:=(j:Int)) (by omega) (by rw[d];omega);simpa using this
  have n1:¬ ((us[j].length:Int)<1):=by omega
  have n2:¬ ((4:Int)<us[j].length):=by omega
  refine az ?_;apply ai;simp[b,m,v,y];refine an (ai ?_);simp[n1,n2];refine ba (by simp) ?_;apply ai;simp;refine nb us[j].length (λi t J=>t.g 1=.c (.ptr 0 0 0)/\t.g 3=vi j/\t.g 4=.c (.f (sl .fs (aC us[j])))/\J=[.box [.f (sl g (aL us))] 0]) (by omega) (by decide) (by simp) ⟨by simp[b],by simp[m],by simp,rfl⟩ ?_ ?_ ?_
  .rintro i t _ L hi ⟨b,s,l,rfl⟩ q z;simp[q,l];exact z _ ⟨by simp[b],by simp[s],by simp[l],rfl⟩ (by simp[q]) (by simp)
  .rintro i t _ hi ⟨b,s,l,rfl⟩ q nx;have B:=(u.2.2 us[j][i] (aq7 hi)).ok;have E:=agN us[j][i] B;rw[B]at E;have I:∀H:aj,bF H (aa 4) (.c (.f (.fp (aC us[j]).flatten (i*4))))=aa (.a (us[j][i].row.map .f)):=λH=>dU (bh us[j]) (cG hi);refine az ?_;apply ai;simp[l,q,bO,hi,I,E];refine aA (by simp) ?_;refine aJ (ay (nx _ _ ⟨by simp[b],by simp[s],by simp[l],rfl⟩ (by simp[q])))
  .rintro t _ ⟨b,s,l,rfl⟩ q;exact ay (next _ _ ⟨by simp[b],rfl⟩ (by simp[s]))
 .rintro t _ ⟨b,rfl⟩ m;apply ai;simp;refine aB (F _ _ ?_);simp)
noncomputable def Lo (ps:List aE):Bool:=open Classical in decide (kJ [] ps)
theorem Ac{Nb:Int}(g:Tg){us:List (List aE)}(h:eR Nb 4 64 us):∃e:Bool,(e=ae↔∀u∈us,¬ kJ [] u)/\bH tab 13 [.a [.f (sl g (aL us))]]=Eq (vb e):=by
 have x:=(gd ve (iE vf us (λs=>[sl .fs (aC s)]) (λs=>.c (.f (sl .fs (aC s)))) (λs=>Lo s) g 45 [] (by have:=h.1;omega)
  (λj y H=>by
   have:=fF (H:=H) (du us) (j:=j) (row:=[sl .fs (aC us[j])]) (by simp[aL,y]) rfl;simpa[aL]using this)
  (λs A=>by
   have d:=h.2 s A;have:=arY.2 d.1;obtain⟨b,v,m⟩:=uN .fs s (λp z=>(d.2.2 p z).mod) (by omega) (by have:=d.2.1;omega);have e:b=Lo s:=by rw[asX,v];simp[Lo]
   rw[e]at m;exact m))).eq
 have l:bH tab 31 [.c (.f (sl g (aL us))),.c (.f (.fn 45 []))]=Eq (vb (us.any λs=>Lo s)):=x;have B:=gr g h;refine⟨!(us.any λs=>Lo s),?_,bH.eq (bD rfl rfl λQ q=>?_)⟩
 .simp[Lo]
 .apply ai;simp;apply ai;simp[B,l];refine aB (q _ _ ?_);simp
theorem Zj{p:aE}(h:p.fV):iG 12 p:=by
 obtain⟨b,j,l⟩:=h;have m:=(aY b).2.2.1;refine⟨b,by omega,?_,by omega⟩;obtain⟨k,g⟩:∃k:Nat,p.aH=k:=⟨p.aH.toNat,by omega⟩
 rw[g];have:k∈List.range 13:=List.mem_range.2 (by omega);have d:k≠0:=by omega
 revert d;exact(show ∀k∈List.range 13,k≠0->(k:Int) ∣ 27720 by decide) k this
theorem LC{us:List (List aE)}(h:rm us):eR 12 3 3 us:=⟨h.1,λu b=>⟨(h.2 u b).1,(h.2 u b).2.1,λp d=>Zj ((h.2 u b).2.2 p d)⟩⟩
theorem Zr(g:Tg)(ts:List (List aE))(l:eR 12 4 3 ts)(x len m:Int)(S:-4320<=x)(U:x<=4320)(N:1<=len)(O:len<=10080)(W:0<=m)(Q:m<=1000000000) :
  ∃(y:bK) (f:Bool),(f=ag->∀d,0<=d->m<=d*1440+x->¬ cL ts d)/\bH tab 10 [.a [.f (.fs [sl g (aL ts),fi x] 1),.f (fi len),.f .aw],vi m]=Eq (.t [.a (y.row.map .f),vb f]):=by
 have j:=oR (dO l (ar9 _) (show 4<=4 by decide) (show 3<=64 by decide));have L:nG ⟨.fs,[⟨g,ts.map λs=>⟨.fs,s⟩,x⟩],len,.nil,[]⟩:=by
  refine⟨?_,by simp,?_,by simp⟩
  .simp[fT,dG,ef,gq,j,N,O,S,U]
  .intro c B;simp at B;subst B;refine⟨j,λt M=>?_⟩;obtain⟨u,z,rfl⟩:=arx.1 M;have q:=l.2 u z;exact KI q.1 q.2.1 q.2.2
 obtain⟨y,f,J,K⟩:=afU _ L m (by omega) Q;refine⟨y,f,λI d E v b=>?_,?_⟩
 .rcases J with⟨_,_,F⟩|⟨A,_⟩
  .refine F (nO len x d) ⟨.inl ⟨_,List.mem_cons_self,d,?_,rfl⟩,v⟩;obtain⟨u,z,H⟩:=b;exact⟨⟨.fs,u⟩,arx.2 ⟨u,z,rfl⟩,E,(lA E).2 H⟩
  .rw[I]at A;cases A
 .simpa[ea.row,cT,fI.row,dr,etr,sl,Tg.fc]using K
theorem aeR{us:List (List aE)}(h:eR 12 3 3 us){u:List aE}(l:u∈us)(s:kJ [] u):∃d,277200<=d/\cL us d:=by
 have g:=h.2 u l;have j:∀p∈u,1<=p.aH/\p.aH ∣ 27720:=λp b=>⟨(aY (g.2.2 p b).ok).2.2.1,(g.2.2 p b).aH⟩
 obtain⟨d,v,x,q⟩:=yE j s;have m:=rL j q 10;refine⟨d+27720*10,by omega,u,l,λp b=>?_⟩;have:=(g.2.2 p b).fr;exact(mB (g.2.2 p b).mod (by omega)).2 (m p b)
theorem Bc(g:Tg){Nb:Int}{us:List (List aE)}(h:eR Nb 4 64 us)(d:Int)(m:0<=d)(q:d<=3000):∃b:Bool,(b=ae↔cL us d)/\bH tab 11 [.a [.f (sl g (aL us))],vi d]=Eq (vb b):=by
 have j:=oR h;have:=afR g (us.map λs=>⟨.fs,s⟩) j d (by unfold Day;omega);rw[etr]at this;refine⟨_,?_,this⟩;simp only[Zi,j,ash,List.any_map,List.any_eq_true,Function.comp_def];constructor
 .rintro⟨u,l,hi⟩;exact⟨u,l,(lA m).1 hi⟩
 .rintro⟨u,l,hi⟩;exact⟨u,l,(lA m).2 hi⟩
theorem aoV:bH tab 4 [] (vb ae):=dK (m:=400) (d:=60) (by kernel_rfl)
theorem YV(o:Int):bH tab 7 [vi o]=Eq (.a ((zF o).map .f)):=bH.eq (by
 refine bD rfl rfl λQ b=>?_
 repeat' first
  |(refine aB (b _ _ ?_))
  |(apply an)
  |(refine aq (.inl rfl) ?_;simp)
 simp[zF,deep,jy,de,Km.nB,Km.results,bQ,aX,bf,kg,mz])
theorem zI(x:ma)(hx:x.OK)(g dd:Int)(d0:0<=dd)(d1:dd<65536)(o0:-32768<=g)(o1:g<=32767):bH tab 3 [.a (x.row.map .f),.c (.f (.int .i16 g)),.c (.f (.int .u16 dd))] (vb ae):=by
 have s:=aoV.eq;obtain⟨rl,zs,S,len,a,H,mv,N,us,⟨m0,m1,l0,l1,g0,g1,f0,f1⟩,b_,j⟩:=xX x hx;have F:=LC b_;obtain⟨o,ho⟩:=aQ (g.tmod 1081);have ob:-1080<=o/\o<=1080:=by
  have h1:=Int.tmod_lt_of_pos g (show(0:Int)<1081 by decide);have h2:-1081<g.tmod 1081:=by
   have:=Int.lt_tmod_of_pos g (show(0:Int)<1081 by decide);omega
  omega
 obtain⟨d,hd⟩:=aQ (dd % 3000);have U:0<=d/\d<3000:=by omega
 have w1:IntKind.wrap .i64 g=g:=aM;have w2:IntKind.wrap .i64 dd=dd:=aM;have r1:bL .rem (vi g) (vi 1081)=aa (vi o):=by rw[ho];simp[bL,iT,V.int]
 have r2:bL .rem (vi dd) (vi 3000)=aa (vi d):=by rw[hd];exact dY d0 (by decide)
 have w3:IntKind.wrap .i64 (d*1440)=d*1440:=aM;have w4:IntKind.wrap .i64 (S-o)=S-o:=aM;have q:=YV o;obtain⟨ts,g',b,O,l,hb,v⟩:=of_flat N us F rl zs S len a H o ob.1 ob.2 m0 m1 l0 l1 g0 g1 f0 f1;obtain⟨eb,e,J⟩:=nh N (dO F (ar9 _) (show 3<=4 by decide) (show 3<=64 by decide));obtain⟨fb,f,K⟩:=Ac N (dO F (ar9 _) (show 3<=4 by decide) (show 3<=64 by decide));obtain⟨sb,se,a8,a_,E⟩:=Zo (m:=4) (by decide) (by decide) g' N ts us (dO O (ar9 _) (show 4<=4 by decide) (show 3<=64 by decide)) (dO F (ar9 _) (show 3<=4 by decide) (show 3<=64 by decide));obtain⟨h1,n,z⟩:=Bc g' (dO O (ar9 _) (show 4<=4 by decide) (show 3<=64 by decide)) d U.1 (by omega);obtain⟨h2,p,A⟩:=Bc N (dO F (ar9 _) (show 3<=4 by decide) (show 3<=64 by decide)) d U.1 (by omega);have L:=Lu g' (dO O (ar9 _) (show 4<=4 by decide) (show 3<=64 by decide));obtain⟨y,M,t,B⟩:=Zr g' ts O (S-o) len (d*1440) (by omega) (by omega) l0 l1 (by omega) (by omega);have W:h1=h2:=by rw[asX,n,p];exact l d U.1
 have X:b=ae->eb=ae:=λh=>e.2 λk r c=>hb.1 h k r ((l k r).2 c);have Z:se=0->sb=ae:=λh=>(a8 h).2 l;have Y:M=ae\/fb=ae:=by
  cases hn:M
  .refine .inr (f.2 λu hu w=>?_);obtain⟨k,r,c⟩:=aeR F hu w;exact t hn k (by omega) (by omega) ((l k (by omega)).2 c)
  .exact .inl rfl
 simp only[vX,zF,arf,art]at v q;subst W;obtain⟨a1,a2,a3,a4,a5,w⟩:∃a1 a2 a3 a4 a5,x.row=[a1,a2,a3,a4,a5]:=⟨_,_,_,_,_,rfl⟩
 rw[w]at j ⊢;simp only[arf,art]at j;refine bD rfl rfl λQ hQ=>?_;rcases I:b with _|_
 all_goals simp only[I,Bool.false_eq_true,if_true,if_false]at v
 .have i:M=ae\/M=ag/\fb=ae:=by
   rcases Y with h|h
   .exact .inl h
   .cases M
    .exact .inr ⟨rfl,h⟩
    .exact .inl rfl
  have b7:se=0/\sb=ae\/se=2:=a_.elim (λh=>.inl ⟨h,Z h⟩) .inr;rcases b7 with⟨rfl,rfl⟩|rfl<;>rcases i with rfl|⟨rfl,rfl⟩
  all_goals repeat' first
   |(refine aB (hQ _ _ ?_))
   |(apply an)
   |(refine az ?_)
   |(refine aJ ?_)
   |(refine au ?_ ?_;focus (simp;done))
   |(refine aA ?_ ?_;focus (simp;done))
   |(refine aq (.inl rfl) ?_;simp[s,j,q,v,w1,w2,w3,w4,r1,r2,E,B,z,A,L,K,aV,bg,fE,lD,Y5])
  all_goals simp
 .obtain rfl:=X I
  repeat' first
   |(refine aB (hQ _ _ ?_))
   |(apply an)
   |(refine az ?_)
   |(refine aJ ?_)
   |(refine au ?_ ?_;focus (simp;done))
   |(refine aA ?_ ?_;focus (simp;done))
   |(refine aq (.inl rfl) ?_;simp[s,j,q,v,J,w1,w2,w3,w4,r1,r2])
  simp
theorem vh{x:List FC}(h:∃m,x=[FC.int .u8 m]/\Lit.wf (.int .u8 m)):∃m:Nat,x=[u8 m]/\m<256:=by
 obtain⟨m,rfl,b⟩:=h;simp[Lit.wf,IntKind.min,IntKind.max,IntKind.signed,IntKind.bits]at b;refine⟨m.toNat,?_,by omega⟩;have:((m.toNat:Nat):Int)=m:=Int.toNat_of_nonneg b.1;simp[this]
theorem we{x:List FC}(h:∃m,x=[FC.int .u16 m]/\Lit.wf (.int .u16 m)):∃m:Nat,x=[FC.int .u16 (m:Int)]/\m<65536:=by
 obtain⟨m,rfl,b⟩:=h;simp[Lit.wf,IntKind.min,IntKind.max,IntKind.signed,IntKind.bits]at b;refine⟨m.toNat,?_,by omega⟩;have:((m.toNat:Nat):Int)=m:=Int.toNat_of_nonneg b.1;simp[this]
theorem zX{n:Nat}(h:n<=maxLen):n<=9223372036854775807:=Nat.le_trans h (by decide)
theorem Yv{n:Nat}{ys:List FC}(h:nL Tryz.prog (n+2) 136 ys):∃g l,ys=[sl g (eI l)]/\l.length<=9223372036854775807/\∀m∈l,m<256:=by
 obtain⟨g,rows,rfl,_,d,j⟩:=pX Tryz.underlying136 h;obtain⟨l,rfl,q⟩:=qR (enc:=λn:Nat=>[u8 n]) (p:=λn=>n<256) λr b=>vh (jh Tryz.underlying5 (j r b));exact⟨g,l,rfl,zX (by simpa using d),q⟩
theorem afZ{n:Nat}{ys:List FC}(h:nL Tryz.prog (n+2) 78 ys):∃x:Nat × Nat,ys=qN x/\(x.1<65536/\x.2<65536):=by
 obtain⟨rows,rfl,l,_,d⟩:=agP Tryz.underlying78 h
 match rows,l with
 |[r,q],_=>
  obtain⟨a,rfl,g⟩:=we (jh Tryz.underlying22 (d r (by simp)));obtain⟨b,rfl,j⟩:=we (jh Tryz.underlying22 (d q (by simp)));exact⟨(a,b),rfl,g,j⟩
theorem BC{n:Nat}{ys:List FC}(h:nL Tryz.prog (n+6) 26 ys):∃x:ma,ys=x.row/\x.OK:=by
 obtain⟨_,Q,rfl,d,E⟩:=mH (AA (ts:=[22,5,5,23,24]) Tryz.underlying26 rfl h);obtain⟨L,rfl,q⟩:=we (jh Tryz.underlying22 d);obtain⟨_,S,rfl,d,F⟩:=mH E;obtain⟨le,rfl,m⟩:=vh (jh Tryz.underlying5 d);obtain⟨_,U,rfl,d,H⟩:=mH F;obtain⟨N,rfl,u⟩:=vh (jh Tryz.underlying5 d);obtain⟨_,W,rfl,d,I⟩:=mH H;obtain⟨K,rows,rfl,_,ml,v⟩:=pX Tryz.underlying23 d;obtain⟨M,rfl,s⟩:=qR (enc:=qN) (p:=λx=>x.1<65536/\x.2<65536) λr j=>afZ (v r j);obtain⟨_,O,rfl,d,J⟩:=mH I;obtain⟨y,rows,rfl,_,z,v⟩:=pX Tryz.underlying24 d;obtain⟨A,rfl,B⟩:=qR (enc:=λb:ByD=>[sl b.1 (eI b.2)]) (p:=aiA) λr j=>by
  obtain⟨g,l,rfl,a,b⟩:=Yv (v r j);exact⟨(g,l),rfl,a,b⟩
 obtain rfl:O=[]:=J;exact⟨⟨L,le,N,K,M,y,A⟩,rfl,q,m,u,zX (by simpa using ml),s,zX (by simpa using z),B⟩
theorem ZT{a:V}(h:pz Tryz.prog 26 a):∃x:ma,a=.a (x.row.map .f)/\x.OK:=by
 rcases h with⟨xs,rfl,b,_⟩|⟨x,rfl,b⟩
 .obtain⟨x,rfl,d⟩:=BC (n:=34) b;exact⟨x,rfl,d⟩
 .exfalso;obtain⟨x,e,_⟩:=BC (n:=34) b;simp[ma.row]at e
theorem aft{a:V}(h:pz Tryz.prog 27 a):∃n:Int,a=.c (.f (.int .i16 n))/\-32768<=n/\n<=32767:=by
 rcases h with⟨xs,_,_,d,g,b⟩|⟨z,rfl,j⟩
 .rw[Tryz.underlying27]at g;cases g;rcases b with⟨_,e⟩|⟨_,_,e⟩<;>cases e
 .obtain⟨m,e,l⟩:=jh Tryz.underlying27 j;cases e;simp[Lit.wf,IntKind.min,IntKind.max,IntKind.signed,IntKind.bits]at l;exact⟨m,rfl,by omega,by omega⟩
theorem ag2{a:V}(h:pz Tryz.prog 22 a):∃n:Int,a=.c (.f (.int .u16 n))/\0<=n/\n<65536:=by
 rcases h with⟨xs,_,_,d,g,b⟩|⟨z,rfl,j⟩
 .rw[Tryz.underlying22]at g;cases g;rcases b with⟨_,e⟩|⟨_,_,e⟩<;>cases e
 .obtain⟨m,e,l⟩:=jh Tryz.underlying22 j;cases e;simp[Lit.wf,IntKind.min,IntKind.max,IntKind.signed,IntKind.bits]at l;exact⟨m,rfl,by omega,by omega⟩
theorem zJ(b:List V)(h:qG Tryz.prog [26,27,22] b):bH tab 3 b (vb ae):=by
 obtain⟨y,_,rfl,l,a1,_,rfl,m,z,_,rfl,q,rfl⟩:=h;obtain⟨x,rfl,s⟩:=ZT l;obtain⟨o,rfl,u,v⟩:=aft m;obtain⟨d,rfl,g,j⟩:=ag2 q;exact zI x s o d g j u v
end Go.Proofs.YtgfdmhmmjbihiaaGreat
