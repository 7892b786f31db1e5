/-
  A part of the proof of PurgeComes: A program none of whose functions starts a goroutine: no call starts one. Over any program; it asks just
-/
import GoSem.ClaimGoes
import GoSem.ClaimDataLaid
import Derived.KernelRfl
import Derived.Test.YtlemlalknchmcaaGreatDoorPurgeComesP1
set_option linter.unusedVariables false
set_option linter.unusedSimpArgs false
set_option maxRecDepth 100000
set_option maxHeartbeats 4000000
namespace Go.SW
theorem goes_none {P:Program} {c:OpenClaim} (hs:c.start = .entering) (h:(P.funcs.toList.all λfn=>!fn.goes)=true):false=c.goesBy P:=by
 have hn:∀ fn:Func,fn∈P.funcs.toList->fn.goes=false:=λfn hm=>by
   have :=List.all_eq_true.1 h fn hm
   exact xF
 have hg:∀ f,P.goes f=false:=λf=>by
   unfold Program.goes
   rw[Bool.or_eq_false_iff,Bool.and_eq_false_iff]
   refine⟨?_, .inr ?_⟩
   . rw[List.any_eq_false]
     intro g _
     cases e:P.funcs[g]? with
     |none=>simp
     |some fn=>
       have :=hn fn (Array.mem_toList_iff.2 (Array.mem_of_getElem? e))
       simp[this]
   . rw[<- Array.any_toList,List.any_eq_false]
     intro fn hm
     rw[hn fn hm];simp
 unfold OpenClaim.goesBy Program.goesAt Program.goesFrom;rw[hs]
 cases e:P.funcNamed c.func with
 |none=>rfl
 |some f=>simp[hg f]
theorem B5_ {p:Nat->Bool} {s a b:Nat} (h1:(List.range' s a).all p=true) (h2:(List.range' (s+a) b).all p=true):(List.range' s (a+b)).all p=true:=by
 have :=List.range'_append (s:=s) (m:=a) (n:=b) (step:=1);rw[Nat.one_mul] at this;rw[<- this,List.all_append,h1,h2];rfl
theorem N3_ {P:Program} (n:Nat) (hn:P.types.size=n) (h1:(List.range' 0 n).all (rowFine P)=true) (h2:(P.globals.all λg=>decide (g.type<n))=true) (h3:(P.funcs.all λf=>f.params.all λt=>decide (t<n))=true):laidOutB P=true:=by
 subst hn;unfold laidOutB;rw[List.range_eq_range',h1,h2,h3];rfl
end Go.SW
