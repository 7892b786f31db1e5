/-
  A part of the proof of ImageBytes: A program none of whose functions starts a goroutine: no call starts one. Over any program; it asks just
-/
import GoSem.ClaimGoes
import Derived.Test.YtepfohngkcjemaaGreatDoorImageBytesP1
set_option maxRecDepth 100000
set_option maxHeartbeats 4000000
open Go.Program renaming closureVia->EZ
open List renaming any_eq_false->FP
namespace Go.SW
theorem goes_none{P:Program}{c:OpenClaim}(hs:c.start = .entering)(h:(P.funcs.toList.all λfn=>!fn.goes)=true):false=c.goesBy P:=by
 have hn:∀ fn:Func,fn∈P.funcs.toList->fn.goes=false:=λfn hm=>by
   have :=List.all_eq_true.1 h fn hm
   exact sY
 have hg:∀ f,P.goes f=false:=λf=>by
   unfold Program.goes
   rw[Bool.or_eq_false_iff,Bool.and_eq_false_iff]
   refine⟨?_, .inr ?_⟩
   . rw[FP]
     intro g _
     cases e:P.funcs[g]? with
     |none=>simp
     |some fn=>
       have :=hn fn (Array.mem_toList_iff.2 (Array.mem_of_getElem? e))
       simp[this]
   . rw[<- Array.any_toList,FP]
     intro fn hm
     rw[hn fn hm];simp
 unfold OpenClaim.goesBy Program.goesAt Program.goesFrom;rw[hs]
 cases e:P.funcNamed c.func with
 |none=>rfl
 |some f=>simp[hg f]
theorem O9_{p:Nat->Bool}{s a b:Nat}(h1:(List.range' s a).all p=true)(h2:(List.range' (s+a) b).all p=true):(List.range' s (a+b)).all p=true:=by
 have :=List.range'_append (s:=s) (m:=a) (n:=b) (step:=1);rw[Nat.one_mul] at this;rw[<- this,List.all_append,h1,h2];rfl
theorem laidOut_of{P:Program}(n:Nat)(hn:P.types.size=n)(h1:(List.range' 0 n).all (rowFine P)=true)(h2:(P.globals.all λg=>decide (g.type<n))=true)(h3:(P.funcs.all λf=>f.params.all λt=>decide (t<n))=true):laidOutB P=true:=by
 subst hn;unfold laidOutB;rw[List.range_eq_range',h1,h2,h3];rfl
def bitq(m f:Nat):Bool:=Nat.beq (Nat.land 1 (Nat.shiftRight m f)) 1
def cloB(L:Nat->List Nat):Nat->List Nat->Nat->List Nat->List Nat
 |0,_,_,s=>s
 |_+1,[],_,s=>s
 |n+1,f::t,m,s=>match bitq m f with
   |true=>cloB L n t m s
   |false=>cloB L n (L f++t) (Nat.lor m (Nat.shiftLeft 1 f)) (f::s)
theorem bitq_eq(m f:Nat):bitq m f=m.testBit f:=by
 unfold bitq;show Nat.beq (1 &&& (m >>> f)) 1=_;rw[Nat.testBit];have h:1 &&& (m >>> f)=(m >>> f)%2:=by rw[Nat.and_comm];exact Nat.and_one_is_mod _
 rw[h]
 rcases Nat.mod_two_eq_zero_or_one (m >>> f) with e|e<;>rw[e]<;>rfl
theorem cloB_eq(P:Program):∀ (n:Nat) (t s:List Nat) (m:Nat),(∀ f,s.contains f=m.testBit f)->P.closureVia n t s=(cloB (λf=>(P.funcs[f]?).elim [] P.leadsTo) n t m s).reverse
 |0,t,s,m,h=>by cases t<;>rfl
 |n+1,[],s,m,h=>by simp[EZ,cloB]
 |n+1,f::t,s,m,h=>by
   have e:=h f
   rw[<- bitq_eq] at e
   unfold EZ cloB
   rw[e]
   cases hb:bitq m f with
   |true=>simp only[if_true];exact cloB_eq P n t s m h
   |false=>
     simp only[Bool.false_eq_true,if_false]
     refine cloB_eq P n _ (f::s) _ λg=>?_
     show _=(m |||(1 <<< f)).testBit g
     rw[Nat.testBit_or,<- h g,Nat.one_shiftLeft,Nat.testBit_two_pow]
     by_cases q:f=g
     . subst q;simp
     . simp[List.contains_cons,q,Ne.symm q]
theorem clo_bits(P:Program)(f:FuncId):P.closure f=(cloB (λf=>(P.funcs[f]?).elim [] P.leadsTo) (1+(P.funcs.toList.map λg=>(P.leadsTo g).length+1).sum) [f] 0 []).reverse:=
 cloB_eq P _ _ _ _ λg=>by simp
end Go.SW
