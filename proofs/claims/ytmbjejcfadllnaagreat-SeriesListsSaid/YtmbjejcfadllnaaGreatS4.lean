/-
  ajN the nE iO and the nb answer, for all arguments of their kind, in the small machine: part 4.
-/
import Derived.Test.YtmbjejcfadllnaaGreatS3
set_option linter.unusedVariables false
set_option linter.unusedSimpArgs false
set_option linter.unusedSectionVars false
set_option linter.unnecessarySimpa false
set_option maxRecDepth 100000
namespace Go.Proofs.YtmbjejcfadllnaaGreat
open Go Km
section
theorem ao0{n:Nat}{ys:List FC}(h:lO Tryz.prog (n+2) 27 ys):∃ b:I5,ys=[sl b.1 (bM b.2)]∧oa b:=by
 obtain⟨g,l,rfl,a,b⟩:=pk h;exact⟨(g,l),rfl,a,b⟩
theorem aih{n:Nat}{ys:List FC}(h:lO Tryz.prog (n+3) 61 ys):∃ a b c d:I5,ys=b4 a b c d∧oa a∧oa b∧oa c∧oa d:=by
 obtain⟨rows,rfl,g,_,hr⟩:=tH Tryz.underlying61 h;obtain⟨l,rfl,j⟩:=lD (enc:=fun b:I5=>[sl b.1 (bM b.2)]) (p:=oa) fun r m=>ao0 (hr r m)
 match l,g,j with
 | [a,b,c,d],_,j=>exact⟨a,b,c,d,rfl,j a (by simp),j b (by simp),j c (by simp),j d (by simp)⟩
 | [],g,_=>simp at g
 | [_],g,_=>simp at g
 | [_,_],g,_=>simp at g
 | [_,_,_],g,_=>simp at g
 | _::_::_::_::_::_,g,_=>simp at g
theorem ajY{a:V}(h:qP Tryz.prog 61 a):∃ j l nc m:I5,a=.a ((b4 j l nc m).map .f)∧oa j∧oa l∧oa nc∧oa m:=by
 rcases h with⟨xs,rfl,g,_⟩ | ⟨x,rfl,g⟩
 ·obtain⟨a,b,c,d,rfl,q⟩:=aih (n:=37) g;exact⟨a,b,c,d,rfl,q⟩
 ·exfalso;obtain⟨a,b,c,d,e,_⟩:=aih (n:=37) g;simp [b4]at e
theorem F_(b:List V)(h:tj Tryz.prog [26,31,61] b):Km.Pure tab.get xq b (vb true):=by
 obtain⟨z,_,rfl,d,a1,_,rfl,g,A,_,rfl,j,rfl⟩:=h;obtain⟨x,rfl,u⟩:=abO d;obtain⟨y,rfl,v⟩:=abP g;obtain⟨B,E,nc,F,rfl,l,m,q,s⟩:=ajY j;exact aaU amp u v l m q s
end
end Go.Proofs.YtmbjejcfadllnaaGreat
