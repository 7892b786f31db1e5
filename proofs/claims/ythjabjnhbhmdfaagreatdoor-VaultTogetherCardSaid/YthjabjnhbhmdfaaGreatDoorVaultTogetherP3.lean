/-
  A part of the proof of VaultTogether.
-/
import Derived.Test.YthjabjnhbhmdfaaGreatDoorVaultTogetherP2
import Derived.Test.YthjabjnhbhmdfaaGreatDoorVaultTogetherP1
import Derived.ProofKit
import Derived.OpenShut
import Derived.Deep.Slices
import Derived.Carry
import Derived.Lib.LaidTab
import Derived.SizedLaws
import Derived.KernelRfl
import Derived.Lib.Repeat
import Derived.MapKept
import Derived.ChangeKeysEq
set_option linter.unusedVariables false
set_option linter.unusedSimpArgs false
set_option maxRecDepth 100000
set_option maxHeartbeats 4000000
open Array renaming getElem?_eq_getElem->DR
open BitVec renaming ofInt->AA
open Bool renaming and_eq_true->A4,not_false->AF,not_true->A5
open Go.Addr renaming add->FS
open Go.Builtin renaming copy_->CU,firstCells->AD,lenOf->BI
open Go.DataW renaming TrodAll->DV,weights->DW,weights_mem_each->EB
open Go.Deep renaming open_slice->EJ
open Go.Instr renaming index->G2,indexAt->E0,makeSlice->FG,sureAddr->C7
open Go.IntKind renaming bits->A9,wrap->A0
open Go.Lib renaming repeatL->AO
open Go.Op renaming eqItems->FH
open Go.Oper renaming wp->BC
open Go.Value renaming bool->GA,okWide->FX
open Go.World renaming cell?->C2,cells?_some->F6
open List renaming append_assoc->AW,append_nil->AT,drop_append->FF,drop_append_of_le_length->DF,drop_eq_nil_of_le->CN,drop_of_length_le->AB,drop_take->FT,eq_of_mem_replicate->E3,flatten_append->CX,flatten_cons->AN,getElem?_drop->C9,getElem?_eq_getElem->A7,getElem?_map->AR,getElem?_set->CG,getElem?_take->AY,length_append->A1,length_cons->A3,length_drop->B5,length_nil->A6,length_replicate->BZ,length_take->D8,map_append->CS,mem_append->DK,mem_cons_of_mem->AC,mem_cons_self->AJ,mem_of_getElem?->A2,mem_of_mem_drop->AS,mem_of_mem_take->C3,mem_or_eq_of_mem_set->CE,replicate->AZ,replicate_succ->F0,take_append->CJ,take_append_drop->B9,take_append_of_le_length->DE,take_of_length_le->AL
open Nat renaming add_assoc->BS,add_mul->AP,add_sub_cancel_left->BW,beq->AK,blt->EK,blt_eq->DX,eq_of_beq_eq_true->AH,le_of_ble_eq_true->BM,le_of_eq->F4,le_refl->BB,le_trans->AM,min_eq_left->FU,mul_comm->CT,mul_le_mul_right->BQ,succ_mul->DJ,zero_add->BD,zero_le->AQ,zero_mul->DI
open Option renaming map_some->BJ
namespace Go.SW.V
open Go.SW
def lt{α β:Type}(a:α)(f:α->β):β:=f a
theorem A1_{α β:Type}{a r:α}{f:α->β}(h:r=a):lt a f=f r:=by subst h;rfl
theorem X6_{α:Type}{c:Bool}{a b:α}(h:c=true):(bif c then a else b)=a:=by rw[h];rfl
theorem X5_{α:Type}{c:Bool}{a b:α}(h:c=false):(bif c then a else b)=b:=by rw[h];rfl
inductive Lo(σ ρ:Type) where
 |fin (s:σ)
 |ret (r:ρ)
def lp0{ρ β:Type}(o:Lo Unit ρ)(f:β)(g:ρ->β):β:=match o with
 | .fin _=>f
 | .ret r=>g r
theorem W4_{ρ β:Type}{l:β}{o:Lo Unit ρ}{f:β}{g:ρ->β}(h:l=lp0 o f g)(k:o = .fin ()):l=f:=by subst k;exact h
theorem Lz_{ρ β:Type}{l:β}{o:Lo Unit ρ}{f:β}{g:ρ->β}{r:ρ}(h:l=lp0 o f g)(k:o = .ret r):l=g r:=by subst k;exact h
theorem Pq_{ρ β:Type}{l:β}{X:Lo Unit ρ}{f:β}{g:ρ->β}(h:l=lp0 X f g):∃ o,o=X/\l=lp0 o f g:=⟨_,rfl,h⟩
def lp1{σ1 ρ β:Type}(o:Lo (σ1) ρ)(f:σ1->β)(g:ρ->β):β:=match o with
 | .fin s=>f s
 | .ret r=>g r
theorem lp1_fin{σ1 ρ β:Type}{l:β}{o:Lo (σ1) ρ}{f:σ1->β}{g:ρ->β}{a1:σ1}(h:l=lp1 o f g)(k:o = .fin a1):l=f a1:=by subst k;exact h
theorem lp1_ret{σ1 ρ β:Type}{l:β}{o:Lo (σ1) ρ}{f:σ1->β}{g:ρ->β}{r:ρ}(h:l=lp1 o f g)(k:o = .ret r):l=g r:=by subst k;exact h
theorem lp1_split{σ1 ρ β:Type}{l:β}{X:Lo (σ1) ρ}{f:σ1->β}{g:ρ->β}(h:l=lp1 X f g):∃ o,o=X/\l=lp1 o f g:=⟨_,rfl,h⟩
def lt1{σ1 β:Type}(s:σ1)(f:σ1->β):β:=f s
theorem Mn_{σ1 β:Type}{l:β}{o:σ1}{f:σ1->β}{a1:σ1}(h:l=lt1 o f)(k:o=a1):l=f a1:=by subst k;exact h
theorem I9_{σ1 β:Type}{l:β}{X:σ1}{f:σ1->β}(h:l=lt1 X f):∃ o,o=X/\l=lt1 o f:=⟨_,rfl,h⟩
def lp2{σ1 σ2 ρ β:Type}(o:Lo (σ1×σ2) ρ)(f:σ1->σ2->β)(g:ρ->β):β:=match o with
 | .fin s=>f s.1 s.2
 | .ret r=>g r
theorem lp2_fin{σ1 σ2 ρ β:Type}{l:β}{o:Lo (σ1×σ2) ρ}{f:σ1->σ2->β}{g:ρ->β}{a1:σ1}{a2:σ2}(h:l=lp2 o f g)(k:o = .fin (a1,a2)):l=f a1 a2:=by subst k;exact h
theorem lp2_ret{σ1 σ2 ρ β:Type}{l:β}{o:Lo (σ1×σ2) ρ}{f:σ1->σ2->β}{g:ρ->β}{r:ρ}(h:l=lp2 o f g)(k:o = .ret r):l=g r:=by subst k;exact h
theorem lp2_split{σ1 σ2 ρ β:Type}{l:β}{X:Lo (σ1×σ2) ρ}{f:σ1->σ2->β}{g:ρ->β}(h:l=lp2 X f g):∃ o,o=X/\l=lp2 o f g:=⟨_,rfl,h⟩
def lt2{σ1 σ2 β:Type}(s:σ1×σ2)(f:σ1->σ2->β):β:=f s.1 s.2
theorem lt2_fin{σ1 σ2 β:Type}{l:β}{o:σ1×σ2}{f:σ1->σ2->β}{a1:σ1}{a2:σ2}(h:l=lt2 o f)(k:o=(a1,a2)):l=f a1 a2:=by subst k;exact h
theorem W6_{σ1 σ2 β:Type}{l:β}{X:σ1×σ2}{f:σ1->σ2->β}(h:l=lt2 X f):∃ o,o=X/\l=lt2 o f:=⟨_,rfl,h⟩
def lt3{σ1 σ2 σ3 β:Type}(s:σ1×σ2×σ3)(f:σ1->σ2->σ3->β):β:=f s.1 s.2.1 s.2.2
theorem lt3_fin{σ1 σ2 σ3 β:Type}{l:β}{o:σ1×σ2×σ3}{f:σ1->σ2->σ3->β}{a1:σ1}{a2:σ2}{a3:σ3}(h:l=lt3 o f)(k:o=(a1,a2,a3)):l=f a1 a2 a3:=by subst k;exact h
theorem lt3_split{σ1 σ2 σ3 β:Type}{l:β}{X:σ1×σ2×σ3}{f:σ1->σ2->σ3->β}(h:l=lt3 X f):∃ o,o=X/\l=lt3 o f:=⟨_,rfl,h⟩
def gt{α:Type}[Inhabited α](xs:List α)(k:Nat):α:=xs.getD k default
theorem getG{α:Type}[Inhabited α]{xs:List α}{k:Nat}(h:k<xs.length):xs[k]? = some (gt xs k):=by
 rw[gt,List.getD_eq_getElem?_getD,A7 h];rfl
theorem Gv_{α:Type}[Inhabited α]{xs:List α}{k:Nat}(h:k<xs.length):xs.drop k=gt xs k::xs.drop (k+1):=Fc_ (getG h)
theorem Gw_{α:Type}{xs:List α}{k:Nat}(h:¬k<xs.length):xs.drop k=[]:=AB rV
theorem Cm_{α τ:Type}{l:τ}{xs ys:List α}{f:List α->τ}{v:τ}(e:l=f xs)(h:xs=ys)(k:f ys=v):l=v:=by subst h;exact e.trans k
theorem Ae_{α:Type}{p:PV}{a v:α}(f:α->PV)(e:a=v)(h:PLe p (f v)):PLe p (f a):=by subst e;exact h
theorem Pv_{α:Type}{ps:List PV}{a v:α}(f:α->List PV)(e:a=v)(h:PLes ps (f v)):PLes ps (f a):=by subst e;exact h
variable{P:Program}{n:Nat}{N:Rest}{H0:Env}{all rest:List Oper}{Q:Qs}{ks:List Kt}{fF:Nat->PV}{fL:Nat->Blk}{T T' T2 ty d:Nat}{pos:String}{af:Array Edge}{x y z:Operand}{K:St->Prop}{op:Op}{p:PV}
theorem Ia_{ι:Type}{X:Code}(keep kL:List Nat)(lv:ι->List (Nat×PV))(lL:ι->List (Nat×Blk))(Φ:ι->Prop)(h:Hd P n N H0 Q (.code X) (.lp (LJ (λx=>⟨mkF (lv x) keep fF,mkL (lL x) kL fL⟩) Φ (λ_=>0) 1)::ks) ⟨fF,fL⟩)(k:∀ x,Φ x->Hd P n N H0 Q (.ex .normal) ks ⟨mkF (lv x) keep fF,mkL (lL x) kL fL⟩):Hd P n N H0 Q (.code X) ks ⟨fF,fL⟩:=by
 intro F H L ha;refine Km_ (λe F' H' L' hq=>?_) (h F H L ha);obtain⟨s',ha',hq'⟩:=hq
 cases e with
 |normal=>obtain⟨x,h1,_,h3⟩:=hq';exact⟨_,h3 _ _ _ _ ha',k x h1⟩
 |_=>exact⟨s',ha',hq'⟩
theorem callv{α:Type}(g:α)(res:α->PV){f:FuncId}{args:List PV}{xs:Array Operand}{ats:Array TypeId}(h:Fn P H0.g f args (res g))(ha:argsP fF x xs.toList=some (f,args))(hd:Nat.blt d n=true)(k:∀ r,r=g->(res r).wf->Hd P n N H0 Q (.ops all rest) ks ⟨updp fF d (res r),fL⟩):Hd P n N H0 Q (.ops all (⟨some d, .call ⟨.value x,xs,ats⟩,ty,pos,af,none⟩::rest)) ks ⟨fF,fL⟩:=call h ha hd (k g Z)
theorem lj_le{ι:Type}{S:ι->St}{Φ:ι->Prop}{μ:ι->Nat}{m:Nat}{s s':St}(h:StLe s s')(k:Hd P n N H0 Q (.ex .normal) (.lp (LJ S Φ μ m)::ks) s'):Hd P n N H0 Q (.ex .normal) (.lp (LJ S Φ μ m)::ks) s:=by
 obtain⟨x,h1,h2,h3⟩:=k;exact⟨x,h1,h2,h.trans h3⟩
theorem lj_osl{α:Type}{ι:Type}{S:ι->St}{Φ:ι->Prop}{μ:ι->Nat}{m t k e:Nat}{u:Value}{enc:α->List PV}{xs:List α}(i:Nat)(hF:fF t = .val u)(hL:fL i = .arr u k e enc xs)(kk:Hd P n N H0 Q (.ex .normal) (.lp (LJ S Φ μ m)::ks) ⟨updp fF t (.osl i),fL⟩):Hd P n N H0 Q (.ex .normal) (.lp (LJ S Φ μ m)::ks) ⟨fF,fL⟩:=lj_le (λ_ _ _ _ ha=>val_osl ha hF hL) kk
theorem X4_{p:Prop}(b:Bool)(ht:b=true->p)(hf:b=false->p):p:=by cases b;exact hf Z;exact ht Z
theorem S6_{c:Bool}{p:PV}(h:c=true):PLe (.gv c p) p:=by
 subst h;intro H v hv
 rcases hv.inv_gv with ⟨_,h⟩|⟨h,_⟩
 exact h
 . cases h
theorem eweak{o:Oper}{i:Nat}(h:E1 P n N H0 all o none ⟨fF,fL⟩ K):E1 P n N H0 all o (some i) ⟨fF,fL⟩ K:=λF H L ha=>(h F H L ha).imp λF' H' L' ⟨x,y,z⟩=>⟨x,λq _=>y q qB,z⟩
theorem X9_{α:Type}{e k:Nat}{u:Value}{enc:α->List PV}{xs:List α}{o:Oper}(i:Nat)(hb:fL i = .arr u k e enc xs)(h:E1 P n N H0 all o (some i) ⟨giveF i enc xs fF,giveL i enc xs fL⟩ K):E1 P n N H0 all o (some i) ⟨fF,fL⟩ K:=by
 intro F H L ha a w hA hm;obtain⟨H1,hl1,hg1,hm1⟩:=hm.giveO (i:=i) Z;have ha1:=ha.give hb hl1 hg1;exact (h F H1 (lupd L i none) ha1).imp (λF' H' L' ⟨x,y,z⟩=>⟨hl1.trans x,λq hq=>(y q hq).trans (B7_ _ _ _ _ λe=>hq qP),z⟩) a w hA hm1
end Go.SW.V
namespace Go.SW
end Go.SW
namespace Go.SW.V
open Go.SW
theorem B6_{α:Type}{xs:List (List α)}{k:Nat}{c:List α}(h:xs[k]? = some c):(xs.take (k+1)).flatten=(xs.take k).flatten++c:=by
 rw[takeE h,CX];simp
theorem Eq_{α:Type}(xs:List (List α))(k:Nat):(xs.take k).flatten.length<=xs.flatten.length:=by
 have :=congrArg (λl:List (List α)=>l.flatten.length) (B9 k xs);simp only[CX,A1] at this;omega
theorem Nu_{α:Type}{xs:List (List α)}{k:Nat}(h:xs.length<=k):(xs.take k).flatten=xs.flatten:=by rw[AL h]
end Go.SW.V
namespace Go.SW
open Go.ChangeShapes Go.WideShapes Go.ChangeAt Go.RowKit
def hp(w:World):Hp:=λb=>w.heap[b]?
def rest0(w:World):Rest:=⟨λ_=>none,w.os,w.tape,w.output⟩
theorem mem0(w:World):Mem (rest0 w) (hp w) l0 w:=
 {os:=rfl,tape:=rfl,output:=rfl,n:=λ_ _ h=>qQ,h:=λ_ _ h=>h,l:=λ_ _ _ h=>qQ,nh:=λ_ _ h=>qQ,nl:=λ_ _ _ h=>qQ,ll:=λ_ _ _ _ _ h=>qQ}
theorem mem0_below{w w':World}{L:Ls}(h:Mem (rest0 w) (hp w) L w'):Below w.heap.size w w':=by
 have hb:∀ k,k<w.heap.size->w'.heap[k]? = w.heap[k]? :=λk hk=>by
   have e:w.heap[k]? = some w.heap[k]:=DR hk
   rw[e];exact h.h k _ e
 refine⟨h.os,h.tape,h.output,?_,hb⟩;by_cases z:w.heap.size=0;omega;have :=hb (w.heap.size-1) rV;rw[DR (show w.heap.size-1<w.heap.size by omega)] at this;have :=(Array.getElem?_eq_some_iff.1 this).1;omega
section
variable{Ht:Type}{enc:TypeId×Value->Ht}{P:Program}{w:World}{base fuel:Nat}{spare:Nat->Bool}{held:Bool}{cs:List Value}{x:DataW Ht×List MemPlace}{t:TypeId}
theorem rd_int{k:IntKind}(ht:P.underlying t=some (.int k))(h:DataW.trod enc P w base spare held fuel t cs=some x):∃ z:Int,cs=[.int k z]/\k.min<=z/\z<=k.max:=by
 obtain⟨z,h1,_,h2⟩:=DataW.trod_int ht h;refine⟨z,h1,?_⟩;simp only[Lit.wf,A4,decide_eq_true_eq] at h2;exact h2
theorem rd_bool(ht:P.underlying t=some .bool)(h:DataW.trod enc P w base spare held fuel t cs=some x):∃ z:Bool,cs=[.bool z]:=by
 obtain⟨z,h1,_⟩:=DataW.trod_bool ht h;exact⟨z,h1⟩
theorem rd_str(ht:P.underlying t=some .string)(h:DataW.trod enc P w base spare held fuel t cs=some x):∃ s:Bs,cs=[str s]/\s.length<=9223372036854775807:=by
 obtain⟨s,h1,_,h2⟩:=DataW.trod_string ht h;refine⟨s.data.toList,by rw[h1,str_of],?_⟩;have :s.data.toList.length=s.size:=Array.length_toList;rw[this];exact h2
theorem list_of{α:Type}{Q:Nat->α->Prop}:∀ n,(∀ i,i<n->∃ r,Q i r)->∃ rs:List α,rs.length=n/\∀ i (h:i<rs.length),Q i rs[i]
 |0,_=>⟨[],rfl,λi h=>by cases h⟩
 |n+1,hq=>by
   obtain⟨rs,hl,hr⟩:=list_of n (λi hi=>hq i rV)
   obtain⟨r,hr0⟩:=hq n rV
   refine⟨rs++[r],by simp[hl],λi hi=>?_⟩
   by_cases e:i<rs.length
   . rw[List.getElem_append_left e];exact hr i e
   . have :i=rs.length:=by simp at hi;omega
     subst this
     rw[List.getElem_append_right (BB _)]
     simp only[Nat.sub_self,List.getElem_cons_zero]
     rw[hl];exact hr0
theorem rd_fld{fs:Array Field}{xs:List (DataW Ht×List MemPlace)}{n i o k:Nat}{f:Field}{ft:TypeId}(hf:∀ (i:Nat) (f:Field),fs[i]? = some f->DataW.trod enc P w base spare held n f.type ((cs.drop f.offset).take (P.cellsOf f.type))=xs[i]?)(hl:xs.length=fs.size)
   (hi:fs[i]? = some f) (ho:f.offset=o) (ht:f.type=ft) (hk:P.cellsOf ft=k):∃ y,DataW.trod enc P w base spare held n ft ((cs.drop o).take k)=some y:=by
 have h:=hf i f hi;have hlt:i<fs.size:=(Array.getElem?_eq_some_iff.1 hi).1;rw[ho,ht,hk,A7 rV] at h;exact⟨_,h⟩
end
theorem rd_agg{Ht:Type}{enc:TypeId×Value->Ht}{P:Program}{w:World}{r:Reach}{b0 base:Nat}{spare:Nat->Bool}{held:Bool}{t:TypeId}{fs:Array Field}{v:Value}{d:DataW Ht}{p:List MemPlace}(hs:P.underlying t=some (.struct fs))(hv:Value.okWide P w r b0 t v)
   (h:DataW.Trod enc P w base spare held t v d p):∃ (l:List Value) (fuel:Nat),v = .agg l.toArray/\DataW.trod enc P w base spare held fuel t l=some (d,p):=by
 obtain⟨cs,rfl,_⟩:=okWide_struct hs hv;obtain⟨fuel,hf⟩:=h;exact⟨cs.toList,fuel,rfl,hf⟩
theorem params_ok{P:Program}{ts:Array TypeId}(h:(ts.toList.all λt=>P.readableRec t && decide (t<P.types.size))=true):∀ t∈ts.toList,P.readableRec t=true/\t<P.types.size:=λt ht=>by
 have :=List.all_eq_true.1 h t ht
 exact sT
theorem rd_one_int{Ht:Type}{enc:TypeId×Value->Ht}{P:Program}{w:World}{r:Reach}{b0 base:Nat}{spare:Nat->Bool}{held:Bool}{t:TypeId}{k:IntKind}{v:Value}{d:DataW Ht}{p:List MemPlace}(hs:P.underlying t=some (.int k))(hv:Value.okWide P w r b0 t v)
   (h:DataW.Trod enc P w base spare held t v d p):∃ z:Int,v = .int k z/\k.min<=z/\z<=k.max:=by
 obtain⟨z,rfl,_,_,hw⟩:=open_int hs hv h;refine⟨z,rfl,?_⟩;simp only[Lit.wf,A4,decide_eq_true_eq] at hw;exact hw
def flatD:Nat->DataW Unit->List Value
 |_, .lit (.int k n)=>[.int k n]
 |_, .lit (.string s)=>[.string ⟨s.toArray⟩]
 |_, .lit (.bool b)=>[.bool b]
 |n+1, .agg l=>l.flatMap (flatD n)
 |_,_=>[]
def layD(d:DataW Unit):Obj->Obj
 | .cells _ t frozen=> .cells (flatD 5 d).toArray t frozen
 |o=>o
theorem trodAll_stays{Ht:Type}{enc:TypeId×Value->Ht}{P:Program}(hl:laidOutB P=true){W W':World}(hb:Below W.heap.size W W'){sp:Nat->Bool}:∀ {ts:List TypeId} {vs:List Value} {ds:List (DataW Ht)} {ps:List MemPlace},(∀ t∈ts,P.readableRec t=true/\t<P.types.size) ->
   DataW.TrodAll enc P W 0 (λ_=>true) true ts vs ds ps->(∀ x∈ps,x.block<W.heap.size)->(∀ x∈ps,sp x.block=true)->DataW.TrodAll enc P W' 0 sp true ts vs ds ps:=by
 intro ts
 induction ts with
 |nil=>intro vs ds ps _ h _ _;cases vs<;>cases ds<;>first|exact h|exact h.elim
 |cons t ts ih=>
   intro vs ds ps hr h hlt hsp
   obtain⟨v,vs',d,ds',p,q,rfl,rfl,rfl,h1,h2⟩:=trodAll_cons h
   exact trodAll_cons_mk (WideElems.Trod_stays hl (hr t qB).1 (hr t qB).2 h1 (λx hx=>hb.same (hlt x qR)) (λx hx=>hsp x qR)) (ih (λu hu=>hr u (by simp[hu])) h2 (λx hx=>hlt x qR) (λx hx=>hsp x qR))
section
variable{Ht:Type}{enc:TypeId×Value->Ht}{P:Program}
theorem law_post{f:Func}{s:ChangeSpec}{apart fresh again:Bool}{W W':World}{args:Array Value}{ds:List (DataW Ht)}{before:List MemPlace}{tb:TypeId}(hvars:s.vars=[])
   (hW:DataW.Whole enc P f.params.toList s.vars apart W args.toList ds [] before) (hb:Below W.heap.size W W') (hl:laidOutB P=true) (hr:∀ t∈f.params.toList,P.readableRec t=true/\t<P.types.size)
   (hres:f.resultTypes = #[tb]) (hu:P.underlying tb=some .bool) (hfn:s.fn Ht (ds++[])={results:=[.lit (.bool true)],args:=ds}):s.post enc P f apart fresh false again W args (.bool true) W':=by
 have hlt:∀ p∈before,p.block<W.heap.size:=λp hp=>hW.lt p hp;have hold:∀ p∈before,(λb=>decide (b<W.heap.size)) p.block=true:=λp hp=>by simpa using hlt p hp
 have hW0:=hW;obtain⟨p,q,hA,hV,rfl,hz,hn⟩:=hW0;have hq:q=[]:=by
   rw[hvars] at hV
   exact (trodVars_none hV).2
 subst hq;rw[AT] at hlt hold hz hn hW;have hA0:DV enc P W 0 (λ_=>true) true f.params.toList args.toList ds p:=hA;have hargs:∀ sp:Nat->Bool,(∀ x∈p,sp x.block=true)->DV enc P W' 0 sp true f.params.toList args.toList ds p:=λsp hs=>trodAll_stays hl hb hr hA0 hlt hs;have hvs:∀ sp:Nat->Bool,DataW.TrodVars enc P W' sp s.vars ([]:List (DataW Ht)) []:=λsp=>by rw[hvars];rfl
 have hR:∀ (b:Nat) (sp:Nat->Bool) (hd:Bool),DV enc P W' b sp hd f.resultTypes.toList ((GA true).resultList f.resultTypes.size) [.lit (.bool true)] []:=λb sp hd=>by
   rw[hres]
   exact trodAll_mk1 (shut_bool hu true)
 have hok:∀ (j:Nat) (t:TypeId) (r:Value),f.resultTypes[j]? = some t->((GA true).resultList f.resultTypes.size)[j]? = some r->FX P W' .any 0 t r:=ok_one hres Z (okWide_bool_mk hu true);refine⟨ds,[],p,[],p,[],hW,?_,?_,?_,World.keptBut_mono (λx hx=>⟨hx,Or.inr (by simpa using hx)⟩) (hb.frame (· ∈ p)),λ_=>?_⟩;rw[hfn];exact hR _ _ _;rw[hfn];exact hargs _ hold;rw[hfn];exact hvs _;refine⟨hok,_,_,([]++p)++[],⟨[]++p,[],trodAll_append (hargs _ (λ_ _=>rfl)) (hR _ _ _),hvs _,rfl,?_,?_⟩,?_⟩;intro b off hp;have hin:MemPlace.cell b off∈p:=by simpa using hp
 rw[hb.frozen (hlt _ hin)];exact hz b off hin;intro ha;have :=hn ha;exact sT;intro x hx _;simpa using hx
theorem Z6_{w:World}{g:Nat}{t:TypeId}{zero:Array Value}(h:w.ShapedOpen P)(hg:g<P.globals.size)
   (h0:((begin P (λ_ _=>0) default).world.heap[g]?).bind Obj.row?=some (zero,t)) (hz:zero.size=1)
   (hb:P.buildable t=true) (hc:P.cellTypes P.depth t=some [t]) (hu:P.underlying t=some (.int .i64)):GInt (hp w) g:=by
 obtain⟨cs,hh,hs,hr⟩:=h.1 g zero t hg h0;obtain⟨ts,hts,_,hall⟩:=hr hb;rw[hc] at hts
 cases hts
 have h1:0<cs.size:=by omega
 obtain⟨u,hu',hok⟩:=hall 0 cs[0] (by simp[h1]);have :u=t:=by simpa using hu'.symm
 subst this;unfold Cell.ok at hok;rw[hu] at hok;have hv:∃ m,cs[0] = .int .i64 m:=by
   cases hv:cs[0]<;>rw[hv] at hok<;>first|exact⟨_,by rw[hok.1]⟩|simp at hok
 obtain⟨m,hm⟩:=hv;refine⟨m,u,(0,0),?_⟩;show w.heap[g]? = _;rw[hh];have e:cs = #[.int .i64 m]:=by
   apply Array.ext
   . simp;omega
   . intro i hi1 hi2
     have :i=0:=by simp at hi2;omega
     subst this
     simpa using hm
 rw[e]
theorem gtab_of{w:World}{g n:Nat}{name:String}{k:IntKind}{zs:List Int}{rest:List (String×DataW Unit)}{t e:TypeId}(hg:P.globalNamed name=some g)(hty:(P.globals[g]?).map (·.type)=some t)(ht:P.underlying t=some (.array n e))(he:P.underlying e=some (.int k))(hce:P.cellsOf e=1)(hct:P.cellsOf t=n)
   (h:laidMet P ((name,Lib.tabData k zs)::rest) w):∃ T fr,hp w g=some (.cells (zs.map (Value.int k)).toArray T fr):=by
 have hT:=Lib.tabIs_of_head hg hty ht he hce hct h;unfold Lib.TabIs World.var? at hT;rw[hg] at hT;simp only[Option.bind_some] at hT
 split at hT
 . rename_i cs T fr hh
   cases hT
   exact⟨T,fr,hh⟩
 . cases hT
end
variable{P:Program}
theorem dat_slice{Ht:Type}{enc:TypeId×Value->Ht}{w:World}{base fuel:Nat}{spare:Nat->Bool}{held:Bool}{a:Option Addr}{l c:Nat}{x:DataW Ht×List MemPlace}{t e:TypeId}(ht:P.underlying t=some (.slice e))
   (h:DataW.trod enc P w base spare held fuel t [.slice a l c]=some x):x.1 = .nil/\l=0\/∃ el sp,x.1 = .slice el sp/\el.length=l:=by
 rcases EJ ht h with ⟨h1,h2⟩|⟨a',len,cap,m,nf,D,Pl,h1,_,hl,hm,hmm,hx,_⟩
 . cases h1;subst h2;exact .inl ⟨rfl,rfl⟩
 . cases h1;subst hx;exact .inr ⟨_,_,rfl,by simp⟩
theorem rd_one_slice{w:World}{r:Reach}{b0:Nat}{t e:TypeId}{v:Value}{a:Option Addr}{l c:Nat}(hs:P.underlying t=some (.slice e))(hv:Value.okWide P w r b0 t v)(he:v.cells.toList=[.slice a l c]):v = .slice a l c:=by
 unfold FX at hv;rw[hs] at hv;simp only at hv;unfold Cell.okWide at hv;rw[hs] at hv
 cases v with
 |agg cs=>simp[Cell.ok,hs] at hv
 |_=>exact (List.cons.inj he).1
end Go.SW
namespace Go.SW
open Go.ChangeShapes Go.WideShapes Go.ChangeAt Go.RowKit
variable{P:Program}
def Rdv{α:Type}(P:Program)(t:TypeId)(en:α->List PV)(k:Nat):Prop:=
 ∀ (Ht:Type) (enc:TypeId×Value->Ht) (w:World) (base:Nat) (spare:Nat->Bool) (held:Bool) (fuel:Nat) (cs:List Value) (x:DataW Ht×List MemPlace),
   DataW.trod enc P w base spare held fuel t cs=some x->(∀ n∈x.1.weights P t,n<=reachBytes)->∃ r:α,RowE en k (hp w) r cs
theorem rowE1{α:Type}{en:α->List PV}{H:Hp}{r:α}{p:PV}{v:Value}(he:en r=[p])(h:Sim H p v)(ho:v.oneCell'=true):RowE en 1 H r [v]:=
 ⟨by rw[he];rfl,by rw[he];exact Sims.nil.cons h,λu hu=>by rw[List.mem_singleton.1 hu];exact ho⟩
theorem Gr_{k:IntKind}{t:TypeId}(ht:P.underlying t=some (.int k)):Rdv P t (λz:Int=>[.int k z]) 1:=λ_ _ _ _ _ _ _ _ _ h _=>by
 obtain⟨z,rfl,h1,h2⟩:=rd_int ht h
 exact⟨z,rowE1 Z (.int h1 h2) Z⟩
theorem rdv_bool{t:TypeId}(ht:P.underlying t=some .bool):Rdv P t (λz:Bool=>[.bool z]) 1:=λ_ _ _ _ _ _ _ _ _ h _=>by
 obtain⟨z,rfl⟩:=rd_bool ht h
 exact⟨z,rowE1 Z .bool Z⟩
theorem J8_{t:TypeId}(ht:P.underlying t=some .string):Rdv P t (λs:Bs=>[.str s]) 1:=λ_ _ _ _ _ _ _ _ _ h _=>by
 obtain⟨s,rfl,h1⟩:=rd_str ht h
 exact⟨s,rowE1 Z (.str h1) Z⟩
theorem Q7_{H:Type}{e:TypeId}:∀ {ds:List (DataW H)} {d:DataW H} {n:Nat},d∈ds->n∈d.weights P e->n∈DataW.weightsAll P e ds
 |[],_,_,h,_=>by cases h
 |d0::r,d,n,h,hn=>by
   simp only[DataW.weightsAll,DK]
   rcases List.mem_cons.1 h with rfl|q
   . exact .inl hn
   . exact .inr (Q7_ q hn)
theorem Px_{α:Type}{en:α->List PV}{k:Nat}{t e:TypeId}(ht:P.underlying t=some (.slice e))(hk:P.cellsOf e=k)(h0:0<k)(hb:0<P.bytesOf e)(he:Rdv P e en k):Rdv P t (λxs:List α=>[.sl en xs]) 1:=λHt enc w base spare held fuel cs x h hw=>by
 have hlen:∀ {a:Option Addr} {l c:Nat},cs=[.slice a l c]->l<=140737488355328:=λ{a l c} hcs=>by
   subst hcs
   rcases dat_slice ht h with ⟨_,rfl⟩|⟨el,sp,hx,rfl⟩
   . exact AQ _
   . have :=hw ((el.length+sp.length)*P.bytesOf e) (by rw[hx];simp[DW,ht])
     have h1:el.length<=(el.length+sp.length)*P.bytesOf e:=AM (Nat.le_add_right _ _) (Nat.le_mul_of_pos_right _ hb)
     have h2:reachBytes=140737488351232:=by decide
     omega
 rcases EJ ht h with ⟨h1,_⟩|⟨a,len,cap,m,nf,D,Pl,h1,_,hl,hm,hmm,hx,hi⟩
 . subst h1
   exact⟨[],rowE1 Z (Sim.of_slh (k:=0) slh_nil qB) rfl⟩
 . have hs0:0<len->a=⟨a.block,a.off,none⟩:=by
     intro hl0
     obtain⟨cs',hc,hT⟩:=hi 0 (by rw[hmm];split<;>omega)
     rw[hk,DI] at hc
     obtain⟨_,hcl,hat⟩:=F6 hc
     have ha0:=hat 0 h0
     rw[A7 rV] at ha0
     obtain⟨ab,ao,asp⟩:=a
     cases asp with
     |none=>rfl
     |some z=>
       exfalso
       unfold C2 at ha0
       simp only[FS] at ha0
       grind
   have hwD:∀ i,i<len->∀ n∈(D i).weights P e,n<=reachBytes:=λi hil n hn=>by
     refine hw n ?_
     rw[hx]
     simp only[DW,ht,List.mem_cons,DK]
     exact .inr (.inl (Q7_ (List.mem_map.2 ⟨i,List.mem_range.2 hil,rfl⟩) hn))
   have key:∀ i,i<len->∃ r:α,∃ cs',RowE en k (hp w) r cs'/\SlAt (hp w) (.slice (some a) len cap) k i cs':=by
     intro i hil
     have ha:=hs0 rV
     obtain⟨cs',hc,hT⟩:=hi i (by rw[hmm];split<;>omega)
     obtain⟨r,hr⟩:=he _ _ _ _ _ _ _ _ _ hT (hwD i hil)
     rw[hk] at hc
     obtain⟨_,hcl,hat⟩:=F6 hc
     refine⟨r,cs',hr,?_⟩
     generalize a.block=ab at ha
     generalize a.off=ao at ha
     subst ha
     simp only[Gb_] at hat
     have ha0:=hat 0 h0
     rw[A7 rV] at ha0
     unfold C2 at ha0
     simp only at ha0
     split at ha0
     . rename_i c T fr hb
       refine⟨ab,ao,len,cap,c,T,fr,rfl,hb,hcl,λj hj=>?_⟩
       have :=hat j hj
       unfold C2 at this
       grind
     . cases ha0
   obtain⟨rs,hlen',hr⟩:=list_of (Q:=λi (r:α)=>∃ cs',RowE en k (hp w) r cs'/\SlAt (hp w) (.slice (some a) len cap) k i cs') len key
   have hs:SlH (RowE en k) k (hp w) (.slice (some a) rs.length cap) rs:=⟨⟨some a,cap,rfl,by omega⟩,λi hi=>by rw[hlen'];exact hr i hi⟩
   subst h1
   have hle:=hlen (rfl :[Value.slice (some a) len cap]=_)
   refine⟨rs,rowE1 Z (v:= .slice (some a) len cap) (by rw[<- hlen'];exact Sim.of_slh hs rV) Z⟩
theorem rows_app{ps qs:List PV}{H:Hp}{cs ds:List Value}{m n:Nat}(h:ps.length=m/\Sims H ps cs/\∀ u∈cs,u.oneCell'=true)(k:qs.length=n/\Sims H qs ds/\∀ u∈ds,u.oneCell'=true):(ps++qs).length=m+n/\Sims H (ps++qs) (cs++ds)/\∀ u∈cs++ds,u.oneCell'=true:=
 ⟨by simp[h.1,k.1],h.2.1.append k.2.1,λu hu=>by rcases List.mem_append.1 hu with q|q;exact h.2.2 u q;exact k.2.2 u q⟩
theorem Ch_{Ht:Type}{enc:TypeId×Value->Ht}{w:World}{base:Nat}{spare:Nat->Bool}{held:Bool}{cs:List Value}{t:TypeId}{fs:Array Field}{xs:List (DataW Ht×List MemPlace)}{n i o k:Nat}{f:Field}{ft:TypeId}{α:Type}{en:α->List PV}(ht:P.underlying t=some (.struct fs))
   (hf:∀ (i:Nat) (f:Field),fs[i]? = some f->DataW.trod enc P w base spare held n f.type ((cs.drop f.offset).take (P.cellsOf f.type))=xs[i]?) (hl:xs.length=fs.size) (hw:∀ q∈(DataW.agg (xs.map (·.1)):DataW Ht).weights P t,q<=reachBytes)
   (hi:fs[i]? = some f) (ho:f.offset=o) (hft:f.type=ft) (hk:P.cellsOf ft=k) (hr:Rdv P ft en k):∃ r,RowE en k (hp w) r ((cs.drop o).take k):=by
 obtain⟨y,hy⟩:=rd_fld hf hl hi ho hft hk;refine hr _ _ _ _ _ _ _ _ _ hy λq hq=>hw q ?_;have h:=hf i f hi;rw[ho,hft,hk,hy] at h;simp only[DW,ht];refine EB (j:=i) (t:=ft) (d:=y.1) ?_ ?_ q hq;grind;grind
theorem Dv_{en:List PV}{H:Hp}{cs:List Value}{o k:Nat}{q:Nat}(h:en.length=k/\Sims H en ((cs.drop o).take k)/\∀ u∈(cs.drop o).take k,u.oneCell'=true){es:List PV}(hr:es.length=q/\Sims H es (cs.drop (o+k))/\∀ u∈cs.drop (o+k),u.oneCell'=true):(en++es).length=k+q/\Sims H (en++es) (cs.drop o)/\∀ u∈cs.drop o,u.oneCell'=true:=by
 have :=rows_app h hr;rw[<- List.drop_drop,B9] at this;exact this
theorem Li_{en:List PV}{H:Hp}{cs:List Value}{o k:Nat}(hl:cs.length=o+k)(h:en.length=k/\Sims H en ((cs.drop o).take k)/\∀ u∈(cs.drop o).take k,u.oneCell'=true):en.length=k/\Sims H en (cs.drop o)/\∀ u∈cs.drop o,u.oneCell'=true:=by
 rw[AL qK] at h;exact h
section
variable{Ht:Type}{enc:TypeId×Value->Ht}{w:World}{r:Reach}{b0 base:Nat}{spare:Nat->Bool}{held:Bool}{t:TypeId}{v:Value}{d:DataW Ht}{p:List MemPlace}
theorem arg_int{k:IntKind}(hs:P.underlying t=some (.int k))(hv:Value.okWide P w r b0 t v)(h:DataW.Trod enc P w base spare held t v d p):∃ z:Int,Sim (hp w) (.int k z) v:=by
 obtain⟨z,rfl,h1,h2⟩:=rd_one_int hs hv h;exact⟨z, .int h1 h2⟩
theorem arg_rec{α:Type}{en:α->List PV}{k:Nat}{fs:Array Field}(hs:P.underlying t=some (.struct fs))(hv:Value.okWide P w r b0 t v)(h:DataW.Trod enc P w base spare held t v d p)(hw:∀ q∈d.weights P t,q<=reachBytes)(hr:Rdv P t en k):∃ z:α,Sim (hp w) (.agg (en z)) v:=by
 obtain⟨l,fuel,rfl,h1⟩:=rd_agg hs hv h;obtain⟨z,h2⟩:=hr _ _ _ _ _ _ _ _ _ h1 hw;exact⟨z,Sim.toAgg h2.2.1⟩
theorem arg_sl{α:Type}{en:α->List PV}{e:TypeId}(hs:P.underlying t=some (.slice e))(hv:Value.okWide P w r b0 t v)(h:DataW.Trod enc P w base spare held t v d p)(hw:∀ q∈d.weights P t,q<=reachBytes)(hr:Rdv P t (λxs:List α=>[.sl en xs]) 1):∃ z:List α,Sim (hp w) (.sl en z) v:=by
 obtain⟨fuel,h1⟩:=h;obtain⟨z,h2⟩:=hr _ _ _ _ _ _ _ _ _ h1 hw;obtain⟨u,us,e1,h3,h4⟩:=h2.2.1.inv_cons
 cases h4.inv_nil
 have :∃ a l c,u = .slice a l c:=by cases h3;exact⟨_,_,_,rfl⟩
 obtain⟨a,l,c,rfl⟩:=this;obtain rfl :=rd_one_slice hs hv e1;exact⟨z,h3⟩
theorem wt_arg{ts:List TypeId}{ds:List (DataW Ht)}{j:Nat}(hw:(DataW.weightsEach P ts ds).all (· <= reachBytes)=true)(ht:ts[j]? = some t)(hd:ds[j]? = some d):∀ q∈d.weights P t,q<=reachBytes:=λq hq=>by
 have :=List.all_eq_true.1 hw q (EB ht hd q hq)
 exact sT
end
theorem law_run{G:Gb}{f:FuncId}{args:List PV}{b:Bool}{vs:List Value}{W:World}(h:Fn P G f args (.bool b))(hg:G.p (hp W))(hs:Sims (hp W) args vs)(hb:b=true):Calls P f vs.toArray W λe W'=>e = .returned (.bool true)/\Mem (rest0 W) (hp W) l0 W':=
 (h.run (rest0 W) (hp W) l0 W vs hg hs (mem0 W)).mono λ_ _ ⟨v,H',h1,h2,h3,h4⟩=>⟨by rw[h1,h2.inv_bool,hb],h4.le h3⟩
end Go.SW
namespace Go.SW.V
open Go.SW
variable{P:Program}{n m:Nat}{N:Rest}{H0:Env}{all rest:List Oper}{Q:Qs}{ks:List Kt}{fF gF:Nat->PV}{fL gL:Nat->Blk}{T ty d:Nat}{pos:String}{af:Array Edge}{x y z:Operand}
def deF(ts:List Nat)(G:Nat->PV):Nat->PV:=λt=>bif memB ts t then G t else (match G t with
 | .osl _=> .junk
 |p=>p)
def arrU:Blk->Option Value
 | .arr u _ _ _ _=>some u
 |_=>none
def keptO(G:Nat->PV)(L L':Nat->Blk):List Nat->Prop
 |[]=>True
 | t::r=>(match G t with
   | .osl q=>arrU (L' q)=arrU (L q)
   |_=>True)/\keptO G L L' r
theorem keptO_get{G:Nat->PV}{L L':Nat->Blk}:∀ {ts:List Nat} {t q:Nat},keptO G L L' ts->t∈ts->G t = .osl q->arrU (L' q)=arrU (L q)
 |[],t,q,_,h,_=>by cases h
 |a::r,t,q,hk,h,hG=>by
   rcases List.mem_cons.1 h with rfl|h
   . have :=hk.1;rw[hG] at this;exact this
   . exact keptO_get hk.2 h hG
def inlK(P:Program)(n:Nat)(N:Rest)(H0:Env)(tb:Tb)(rs:List ResultVar)(ts:List Nat)(fF:Nat->PV)(fL:Nat->Blk)(Q:Qs)(all rest:List Oper)(ks:List Kt)(d:Nat):Qs:=λe s=>(e = .normal\/e = .ret) /\
 ∃ ps as0 bs,Jx_ tb s rs=some (ps,as0,bs)/\as0=bs/\(tupP ps).noOsl=true/\keptO fF fL s.L ts/\Hd P n N H0 Q (.ops all rest) ks ⟨updp (deF ts fF) d (tupP ps),s.L⟩
theorem inlr{H1:Env}{tb:Tb}{rs:List ResultVar}{ts:List Nat}{ps:List PV}{as0 bs:List Nat}(h:Jx_ tb ⟨gF,gL⟩ rs=some (ps,as0,bs))(he:as0=bs)(hno:(tupP ps).noOsl=true)(hk:keptO fF fL gL ts)(k:Hd P n N H0 Q (.ops all rest) ks ⟨updp (deF ts fF) d (tupP ps),gL⟩):Hd P m N H1 (inlK P n N H0 tb rs ts fF fL Q all rest ks d) (.ex .ret) [] ⟨gF,gL⟩:=⟨.inr Z,ps,as0,bs,h,he,hno,hk,k⟩
theorem inln{H1:Env}{tb:Tb}{rs:List ResultVar}{ts:List Nat}{ps:List PV}{as0 bs:List Nat}(h:Jx_ tb ⟨gF,gL⟩ rs=some (ps,as0,bs))(he:as0=bs)(hno:(tupP ps).noOsl=true)(hk:keptO fF fL gL ts)(k:Hd P n N H0 Q (.ops all rest) ks ⟨updp (deF ts fF) d (tupP ps),gL⟩):Hd P m N H1 (inlK P n N H0 tb rs ts fF fL Q all rest ks d) (.ex .normal) [] ⟨gF,gL⟩:=⟨.inl Z,ps,as0,bs,h,he,hno,hk,k⟩
theorem deF_ok{ts:List Nat}{H:Hp}{F:Fr}(hf:∀ t,SimT fL H (fF t) (F t))(hk:keptO fF fL gL ts)(t:Nat):SimT gL H (deF ts fF t) (F t):=by
 have h1:=hf t;unfold deF
 cases e:memB ts t with
 |true=>
   simp only[cond_true]
   cases hp:fF t with
   |osl q=>
     have h2:=keptO_get hk (Mo_ e) hp
     rw[hp] at h1
     simp only[SimT] at h1 ⊢
     cases hg:gL q with
     |arr u' k' e' enc' xs'=>
       cases hl:fL q with
       |arr u k e enc xs=>rw[hg,hl] at h2;simp only[arrU,Option.some.injEq] at h2;rw[hl] at h1;rw[h2];exact h1
       |_=>rw[hg,hl] at h2;simp[arrU] at h2
     |_=>trivial
   |_=>rw[hp] at h1;exact h1
 |false=>
   simp only[cond_false]
   cases hp:fF t with
   |osl q=>exact Sim.junk
   |_=>rw[hp] at h1;exact h1
theorem hinl{tb:Tb}{f:FuncId}{fn:Func}{c:Code}{args:List PV}{xs:Array Operand}{ats:Array TypeId}(ts:List Nat)(ht:tbB P tb=true)(hf:P.funcs[f]? = some fn)(hb:fn.body=some c)(hn:fn.ntmps=m)(hcb:S_ P f)(ha:argsP fF x xs.toList=some (f,args))(hs:Nat.ble args.length m=true)(hna:Df_ args=true)(hd:Nat.blt d n=true)
   (h:∀ Hc,H0.g.p Hc->Hd P m N ⟨Hc,H0.g⟩ (inlK P n N H0 tb fn.results.toList ts fF fL Q all rest ks d) (.code c) [] ⟨O8_ args,fL⟩):Hd P n N H0 Q (.ops all (⟨some d, .call ⟨.value x,xs,ats⟩,ty,pos,af,none⟩::rest)) ks ⟨fF,fL⟩:=by
 intro F H L hab;obtain⟨vs,h1,h2⟩:=I6_ (ats:=ats) hab.f ha hcb;refine ow1 λa w hA hm=>?_;rw[if_pos qD];unfold BC;rw[hA.eval,h2];subst hn;have h3:=h H hab.g (K7_ vs.toArray) H L ⟨.refl H,hab.g,λt=>L8_ h1 hna t,hab.l⟩;refine Ie_ (R:=λv H' L'=>∃ (sL:Nat->Blk) (res:PV),Sim H' res v/\res.noOsl=true/\keptO fF fL sL ts/\(∀ i,SimB sL H' (sL i) (L' i))/\H0.g.p H'/\Hd P n N H0 Q (.ops all rest) ks ⟨updp (deF ts fF) d res,sL⟩) (H0:=H) hf hb (by have :=BM hs;simp[h1.1];exact this) (Km_ (λe F' H' L' hq=>?_) h3) hm ?_
 . obtain⟨s',ha',he,ps,as0,bs,e1,e2,e3,e4,e5⟩:=hq
   obtain⟨_,v,hr,hv⟩:=Os_ (N:=N) (res:=tupP ps) ht ha' (show rtK tb fn.results.toList (tupP ps) e s' from ⟨he,ps,as0,bs,e1,e2,ple Z⟩)
   rcases he with rfl|rfl
   exact xE
   exact xE
 intro v H' L' w' ⟨sL,res,e1,e2,e3,e4,e5,e6⟩ hl hm';refine⟨_,H',L',hA.put qF v,hm',?_⟩;exact e6 _ _ _ (Abs.put (p:=res) (s:=⟨deF ts fF,sL⟩) ⟨hab.le.trans hl,e5,deF_ok (λt=>(hab.f t).mono hl) e3,e4⟩ d (e1.simT e2))
end Go.SW.V
namespace Go.SW.V
open Go.SW
variable{P:Program}{n:Nat}{N:Rest}{H0:Env}{all rest:List Oper}{Q:Qs}{ks:List Kt}{fF:Nat->PV}{fL:Nat->Blk}{T ty d:Nat}{pos:String}{af:Array Edge}{x y z:Operand}{K:St->Prop}
end Go.SW.V
namespace Go.SW.V
open Go.SW
variable{P:Program}{n:Nat}{N:Rest}{H0:Env}{all rest:List Oper}{Q:Qs}{ks:List Kt}{fF:Nat->PV}{fL:Nat->Blk}{T ty d:Nat}{pos:String}{af:Array Edge}{x y z:Operand}{K:St->Prop}
theorem lo_aidx{F:Fr}{H:Hp}{L:Ls}{kk:IntKind}{b off len k m:Nat}{i:Int}{e:TypeId}(hx:ev F x = .pointer (some ⟨b,off,none⟩))(hy:ev F y = .int kk i)(hT:P.underlying T=some (.array len e))(hk:Sz P e k)(hi:i=(m:Int))(hm:m<len):SW.Lo P N (.indexAddr T x y) ty F H L (.pointer (some ⟨b,off+m*k,none⟩)):=λd pos af gg w _=>by
 subst hi
 simp[execOp,hy,hx,E0,asIntOf,run_underlying hT,C7,hk w,hm,FS]
theorem qaia{kk:IntKind}{i b off len k:Nat}{z:Int}{e:TypeId}(m:Nat)(hx:evP fF x = .own i b off)(hy:evP fF y = .int kk z)(hT:P.underlying T=some (.array len e))(hk:Sz P e k)(hi:z=(m:Int))(hm:m<len):Qy P N H0 ⟨fF,fL⟩ (.indexAddr T x y) ty (.own i b (off+m*k)):=λF H L ha=>by
 have h1:=(Cn_ ha.f x).sim
 have h2:=(Cn_ ha.f y).sim
 simp only at h1 h2
 rw[hx] at h1
 rw[hy] at h2
 exact⟨_,Sim.own,λ_ _ _=>lo_aidx h1.inv_own h2.inv_int.1 hT hk hi hm⟩
theorem oload1{tb:Tb}{ti:TI}{i b b' off T0:Nat}{cs:List PV}(p:PV)(ht:tbB P tb=true)(hx:evP fF x = .own i b off)(hb:fL i = .box b' T0 cs)(hbb:b'=b)(hti:lkT tb T=some ti)(hag:ti.k.isAgg=false)(hc:cs[off]? = some p)(hd:Nat.blt d n=true)(k:p.wf->K ⟨updp fF d p,fL⟩):E1 P n N H0 all ⟨some d, .load T x,ty,pos,af,none⟩ none ⟨fF,fL⟩ K:=by
 intro F H L ha;subst hbb;have h1:=(Cn_ ha.f x).sim;simp only at h1;rw[hx] at h1;have h3:=ha.l i;simp only[hb] at h3;obtain⟨vs,hL,hs⟩:=h3;obtain⟨v,hv,hsv⟩:=hs.get hc;have hg:=(Eg_ ht hti).ag;rw[hag] at hg;exact Ix_ hd (Kt_ h1.inv_own hg hL hv) ⟨.refl H,λ_ _=>rfl,_,ha.put d hsv,k hsv.sim.wf⟩
theorem oloadA{tb:Tb}{ti:TI}{i b b' off T0:Nat}{cs:List PV}(ps:List PV)(ht:tbB P tb=true)(hx:evP fF x = .own i b off)(hb:fL i = .box b' T0 cs)(hbb:b'=b)(hti:lkT tb T=some ti)(hag:ti.k.isAgg=true)(hc:(cs.drop off).take ti.size=ps)(hl:off+ti.size<=cs.length)(hd:Nat.blt d n=true)(k:PV.wfs ps->K ⟨updp fF d (.agg ps),fL⟩):E1 P n N H0 all ⟨some d, .load T x,ty,pos,af,none⟩ none ⟨fF,fL⟩ K:=by
 intro F H L ha;subst hbb;have h1:=(Cn_ ha.f x).sim;simp only at h1;rw[hx] at h1;have h3:=ha.l i;simp only[hb] at h3;obtain⟨vs,hL,hs⟩:=h3;have hg:=(Eg_ ht hti).ag;rw[hag] at hg;have hsv:Sims H ps ((vs.drop off).take ti.size):=by rw[<- hc];exact (hs.sims.drop off).take ti.size
 exact Ix_ hd (Va_ (vs:=(vs.drop off).take ti.size) h1.inv_own hg (Eg_ ht hti).sz hL Z (by simp[hs.1];omega)) ⟨.refl H,λ_ _=>rfl,_,ha.put (p:= .agg ps) d (Sim.toAgg hsv),k hsv.wf⟩
theorem ostore1{tb:Tb}{ti:TI}{i b b' off T0:Nat}{cs:List PV}{p:PV}(cs':List PV)(ht:tbB P tb=true)(hx:evP fF x = .own i b off)(hb:fL i = .box b' T0 cs)(hti:lkT tb T=some ti)(hsz:ti.size=1)(hy:evS (evP fF y)=some p)(ho:p.one=true)(hl:off<cs.length)(hbb:b'=b)(hc:cs.set off p=cs')
   (k:K ⟨fF,lups fL i (.box b T0 cs')⟩):E1 P n N H0 all ⟨none, .store T x y,ty,pos,af,none⟩ (some i) ⟨fF,fL⟩ K:=
 SW.store1 (s:=⟨fF,fL⟩) ht hx hb hti hsz hy ho (by simpa [DX] using hl) hbb (by rw[hc];simp only[evL,Ra_]) k
theorem ostoreA{tb:Tb}{ti:TI}{i b b' off T0:Nat}{cs ps:List PV}(cs':List PV)(ht:tbB P tb=true)(hx:evP fF x = .own i b off)(hb:fL i = .box b' T0 cs)(hti:lkT tb T=some ti)(hy:evP fF y = .agg ps)(hn:Df_ ps=true)(ho:all1 ps=true)(hsz:ps.length=ti.size)(hl:off+ti.size<=cs.length)(hbb:b'=b)(hc:cs.take off++(ps++cs.drop (off+ti.size))=cs')
   (k:K ⟨fF,lups fL i (.box b T0 cs')⟩):E1 P n N H0 all ⟨none, .store T x y,ty,pos,af,none⟩ (some i) ⟨fF,fL⟩ K:=
 SW.storeA (s:=⟨fF,fL⟩) ht hx hb hti hy hn ho hsz qN hbb (by rw[hc];simp only[evL,Ra_]) k
theorem oloadS1{tb:Tb}{ti:TI}{i b b' off T0 len:Nat}{cs:List PV}(row:Nat->PV)(m base w o:Nat)(ht:tbB P tb=true)(hx:evP fF x = .own i b off)(hb:fL i = .box b' T0 cs)(hbb:b'=b)(hti:lkT tb T=some ti)(hag:ti.k.isAgg=false)(hoff:off=base+m*w+o)(hm:m<len)(hc:∀ q,q<len->cs[base+q*w+o]? = some (row q))(hd:Nat.blt d n=true)(k:(row m).wf->K ⟨updp fF d (row m),fL⟩):E1 P n N H0 all ⟨some d, .load T x,ty,pos,af,none⟩ none ⟨fF,fL⟩ K:=
 oload1 (row m) ht hx hb hbb hti hag (by rw[hoff];exact hc m hm) hd k
theorem Pu_{tb:Tb}{ti:TI}{i b b' off T0 len sz:Nat}{cs:List PV}(row:Nat->List PV)(m base w o:Nat)(ht:tbB P tb=true)(hx:evP fF x = .own i b off)(hb:fL i = .box b' T0 cs)(hbb:b'=b)(hti:lkT tb T=some ti)(hag:ti.k.isAgg=true)(hsz:ti.size=sz)(hoff:off=base+m*w+o)(hm:m<len)(hc:∀ q,q<len->(cs.drop (base+q*w+o)).take sz=row q)(hl:∀ q,q<len->Nat.ble (base+q*w+o+sz) cs.length=true)(hd:Nat.blt d n=true)(k:PV.wfs (row m)->K ⟨updp fF d (.agg (row m)),fL⟩):E1 P n N H0 all ⟨some d, .load T x,ty,pos,af,none⟩ none ⟨fF,fL⟩ K:=
 oloadA (row m) ht hx hb hbb hti hag (by rw[hoff,hsz];exact hc m hm) (by rw[hoff,hsz];simpa using hl m hm) hd k
theorem ostoreS1{tb:Tb}{ti:TI}{i b b' off T0 len:Nat}{cs cs2:List PV}{p:PV}(cs':Nat->List PV)(m base w o:Nat)(ht:tbB P tb=true)(hx:evP fF x = .own i b off)(hb:fL i = .box b' T0 cs)(hti:lkT tb T=some ti)(hsz:ti.size=1)(hy:evS (evP fF y)=some p)(ho:p.one=true)(hoff:off=base+m*w+o)(hm:m<len)(hl:∀ q,q<len->Nat.blt (base+q*w+o) cs.length=true)(hbb:b'=b)(hc:∀ q,q<len->cs.set (base+q*w+o) p=cs' q)(he:evL (cs' m)=some cs2)
   (k:K ⟨fF,lups fL i (.box b T0 cs2)⟩):E1 P n N H0 all ⟨none, .store T x y,ty,pos,af,none⟩ (some i) ⟨fF,fL⟩ K:=
 ostore1 cs2 ht hx hb hti hsz hy ho (by rw[hoff];simpa [DX] using hl m hm) hbb (by rw[hoff,hc m hm,<- evL_eq he]) k
theorem Ve_{tb:Tb}{ti:TI}{i b b' off T0 len sz:Nat}{cs ps cs2:List PV}(cs':Nat->List PV)(m base w o:Nat)(ht:tbB P tb=true)(hx:evP fF x = .own i b off)(hb:fL i = .box b' T0 cs)(hti:lkT tb T=some ti)(hsz:ti.size=sz)(hy:evP fF y = .agg ps)(hn:Df_ ps=true)(ho:all1 ps=true)(hps:ps.length=sz)(hoff:off=base+m*w+o)(hm:m<len)(hl:∀ q,q<len->Nat.ble (base+q*w+o+sz) cs.length=true)(hbb:b'=b)(hc:∀ q,q<len->cs.take (base+q*w+o)++(ps++cs.drop (base+q*w+o+sz))=cs' q)(he:evL (cs' m)=some cs2)
   (k:K ⟨fF,lups fL i (.box b T0 cs2)⟩):E1 P n N H0 all ⟨none, .store T x y,ty,pos,af,none⟩ (some i) ⟨fF,fL⟩ K:=
 ostoreA cs2 ht hx hb hti hy hn ho (by rw[hps,hsz]) (by rw[hoff,hsz];simpa using hl m hm) hbb (by rw[hoff,hsz,hc m hm,<- evL_eq he]) k
theorem bw8{p:Nat->Prop}(h0:p 0)(h1:p 1)(h2:p 2)(h3:p 3)(h4:p 4)(h5:p 5)(h6:p 6)(h7:p 7):∀ m,m<8->p m
 |0,_=>h0|1,_=>h1|2,_=>h2|3,_=>h3|4,_=>h4|5,_=>h5|6,_=>h6|7,_=>h7
 |m+8,h=>absurd h rV
theorem bw16{p:Nat->Prop}(h0:p 0)(h1:p 1)(h2:p 2)(h3:p 3)(h4:p 4)(h5:p 5)(h6:p 6)(h7:p 7)(h8:p 8)(h9:p 9)(h10:p 10)(h11:p 11)(h12:p 12)(h13:p 13)(h14:p 14)(h15:p 15):∀ m,m<16->p m
 |0,_=>h0|1,_=>h1|2,_=>h2|3,_=>h3|4,_=>h4|5,_=>h5|6,_=>h6|7,_=>h7|8,_=>h8|9,_=>h9|10,_=>h10|11,_=>h11|12,_=>h12|13,_=>h13|14,_=>h14|15,_=>h15
 |m+16,h=>absurd h rV
structure A8(α:Type) where
 (e0 e1 e2 e3 e4 e5 e6 e7:α)
deriving DecidableEq,Inhabited
structure A16(α:Type) where
 (e0 e1 e2 e3 e4 e5 e6 e7 e8 e9 e10 e11 e12 e13 e14 e15:α)
deriving DecidableEq,Inhabited
def A8.get{α:Type}(a:A8 α):Nat->α
 |0=>a.e0|1=>a.e1|2=>a.e2|3=>a.e3|4=>a.e4|5=>a.e5|6=>a.e6|_=>a.e7
def A16.get{α:Type}(a:A16 α):Nat->α
 |0=>a.e0|1=>a.e1|2=>a.e2|3=>a.e3|4=>a.e4|5=>a.e5|6=>a.e6|7=>a.e7|8=>a.e8|9=>a.e9|10=>a.e10|11=>a.e11|12=>a.e12|13=>a.e13|14=>a.e14|_=>a.e15
def A8.set{α:Type}(a:A8 α)(v:α):Nat->A8 α
 |0=>{a with e0:=v}|1=>{a with e1:=v}|2=>{a with e2:=v}|3=>{a with e3:=v}|4=>{a with e4:=v}|5=>{a with e5:=v}|6=>{a with e6:=v}|_=>{a with e7:=v}
def A16.set{α:Type}(a:A16 α)(v:α):Nat->A16 α
 |0=>{a with e0:=v}|1=>{a with e1:=v}|2=>{a with e2:=v}|3=>{a with e3:=v}|4=>{a with e4:=v}|5=>{a with e5:=v}|6=>{a with e6:=v}|7=>{a with e7:=v}|8=>{a with e8:=v}|9=>{a with e9:=v}|10=>{a with e10:=v}|11=>{a with e11:=v}|12=>{a with e12:=v}|13=>{a with e13:=v}|14=>{a with e14:=v}|_=>{a with e15:=v}
theorem A16.get_set{α:Type}(a:A16 α)(v:α)(m q:Nat)(hm:m<16)(hq:q<16):(a.set v m).get q = if q=m then v else a.get q:=by
 revert q
 refine bw16 (p:=λm=>∀ q,q<16->(a.set v m).get q = if q=m then v else a.get q) ?_ ?_ ?_ ?_ ?_ ?_ ?_ ?_ ?_ ?_ ?_ ?_ ?_ ?_ ?_ ?_ m hm<;>exact bw16 Z Z Z Z Z Z Z Z Z Z Z Z Z Z Z Z
theorem A8.get_set{α:Type}(a:A8 α)(v:α)(m q:Nat)(hm:m<8)(hq:q<8):(a.set v m).get q = if q=m then v else a.get q:=by
 revert q
 refine bw8 (p:=λm=>∀ q,q<8->(a.set v m).get q = if q=m then v else a.get q) ?_ ?_ ?_ ?_ ?_ ?_ ?_ ?_ m hm<;>exact bw8 Z Z Z Z Z Z Z Z
end Go.SW.V
namespace Go.SW
theorem rl_set1{α:Type}{enc:α->List PV}{k:Nat}{H:Hp}{p:PV}{v:Value}{o:Nat}{y:α}(ho:o<k)(hp:Sim H p v)(h1:v.oneCell'=true):∀ {xs:List α} {cs:List Value} {m:Nat},Rl (RowE enc k) H xs cs->m<xs.length->(∀ a,xs[m]? = some a->enc y=(enc a).set o p)->Rl (RowE enc k) H (xs.set m y) (cs.set (m*k+o) v)
 |[],_,_,_,hm,_=>by cases hm
 |x::xs,_,0,⟨c1,c2,e,r1,r2⟩,_,he=>by
   have ex:=he x Z
   obtain⟨q1,q2,q3⟩:=r1
   have hl:c1.length=k:=by rw[q2.1,q1]
   refine⟨c1.set o v,c2,?_,⟨by rw[ex,List.length_set,q1],?_,?_⟩,r2⟩
   . rw[e,DI,BD,List.set_append_left _ _ rV]
   . rw[ex]
     refine⟨by simp[q2.1],λi q w hq hw=>?_⟩
     rw[CG] at hq hw
     by_cases z:o=i
     . subst z
       rw[if_pos rfl,if_pos rV] at hq
       rw[if_pos rfl,if_pos rV] at hw
       cases hq;cases hw;exact hp
     . rw[if_neg z] at hq hw
       exact q2.2 i q w hq hw
   . intro w hw
     rcases CE hw with z|z
     . exact q3 w z
     . rw[z];exact h1
 |x::xs,_,m+1,⟨c1,c2,e,r1,r2⟩,hm,he=>by
   have hl:c1.length=k:=by rw[r1.2.1.1,r1.1]
   refine⟨c1,c2.set (m*k+o) v,?_,r1,rl_set1 ho hp h1 r2 (by simpa using hm) (λa ha=>he a (by simpa using ha))⟩
   rw[e,List.set_append_right _ _ oE,hl,show (m+1)*k+o-k=m*k+o by rw[AP];omega]
theorem rl_setA{α:Type}{enc:α->List PV}{k:Nat}{H:Hp}{ps:List PV}{vs:List Value}{o:Nat}{y:α}(ho:o+ps.length<=k)(hp:Sims H ps vs)(h1:∀ v∈vs,v.oneCell'=true):∀ {xs:List α} {cs:List Value} {m:Nat},Rl (RowE enc k) H xs cs->m<xs.length->(∀ a,xs[m]? = some a->enc y=(enc a).take o++(ps++(enc a).drop (o+ps.length)))->Rl (RowE enc k) H (xs.set m y) (cs.take (m*k+o)++(vs++cs.drop (m*k+o+ps.length)))
 |[],_,_,_,hm,_=>by cases hm
 |x::xs,_,0,⟨c1,c2,e,r1,r2⟩,_,he=>by
   have ex:=he x Z
   obtain⟨q1,q2,q3⟩:=r1
   have hl:c1.length=k:=by rw[q2.1,q1]
   have hv:=hp.1
   refine⟨c1.take o++(vs++c1.drop (o+ps.length)),c2,?_,⟨by rw[ex];simp;omega,?_,?_⟩,r2⟩
   . rw[e,DI,BD,DE rV,DF rV]
     simp
   . rw[ex]
     exact Sims.append (Sims.take q2 o) (Sims.append hp (Sims.drop q2 (o+ps.length)))
   . intro w hw
     simp only[DK] at hw
     rcases hw with z|z|z
     . exact q3 w (C3 z)
     . exact h1 w z
     . exact q3 w (AS z)
 |x::xs,_,m+1,⟨c1,c2,e,r1,r2⟩,hm,he=>by
   have hl:c1.length=k:=by rw[r1.2.1.1,r1.1]
   refine⟨c1,c2.take (m*k+o)++(vs++c2.drop (m*k+o+ps.length)),?_,r1,rl_setA ho hp h1 r2 (by simpa using hm) (λa ha=>he a (by simpa using ha))⟩
   rw[e,show (m+1)*k+o=c1.length+(m*k+o) by rw[hl,AP];omega,CJ,AL rV,show c1.length+(m*k+o)-c1.length=m*k+o by omega,BS,FF,AB rV,show c1.length+(m*k+o+ps.length)-c1.length=m*k+o+ps.length by omega]
   simp
theorem Abs.turnU{P:Program}{n:Nat}{N:Rest}{H0:Env}{s:St}{F:Fr}{H:Hp}{L:Ls}{α:Type}{u:Value}{k e:Nat}{enc:α->List PV}{xs xs':List α}(ha:Abs H0 s F H L)(i:Nat)(hb:s.L i = .arr u k e enc xs){x:Option (Nat×Obj)}(hx:SimB s.L H (.arr u k e enc xs') x):Abs H0 ⟨s.F,lups s.L i (.arr u k e enc xs')⟩ F H (lupd L i x):=by
 have hshape:∀ {p v},SimT s.L H p v->SimT (lups s.L i (.arr u k e enc xs')) H p v:=λ{p v} h=>by
   cases p with
   |osl j=>
     by_cases e:j=i
     . subst e;simp only[SimT,C1_,hb] at h ⊢;exact h
     . exact sG
   |_=>exact h
 refine⟨ha.le,ha.g,λt=>hshape (ha.f t),λj=>?_⟩;by_cases e:j=i;exact sU
 . simp only[F2_ _ _ _ _ e,B7_ _ _ _ _ e]
   have h1:=ha.l j
   generalize s.L j=C at *
   cases C with
   |box b T cs=>obtain⟨vs,h2,h3,h4⟩:=h1;exact⟨vs,h2,h3,λa p v hp hv=>hshape (h4 a p v hp hv)⟩
   |no=>trivial
   |arr u k e enc xs=>exact h1
   |itr b s p=>exact h1
   |ob b o=>exact h1
end Go.SW
namespace Go.SW.V
open Go.SW
variable{P:Program}{n:Nat}{N:Rest}{H0:Env}{all rest:List Oper}{Q:Qs}{ks:List Kt}{fF:Nat->PV}{fL:Nat->Blk}{T ty d:Nat}{pos:String}{af:Array Edge}{x y z:Operand}{K:St->Prop}
theorem lo_sidx{F:Fr}{H:Hp}{L:Ls}{kk:IntKind}{k m b o len cap:Nat}{i:Int}{e:TypeId}(hx:ev F x = .slice (some ⟨b,o,none⟩) len cap)(hy:ev F y = .int kk i)(hT:P.underlying T=some (.slice e))(hk:Sz P e k)(hi:i=m)(hm:m<len):SW.Lo P N (.indexAddr T x y) ty F H L (.pointer (some ⟨b,o+m*k,none⟩)):=λd pos af g w _=>by
 subst hi
 simp[execOp,hx,hy,E0,asIntOf,run_underlying hT,hk w,hm,Gb_]
theorem Yi_{α:Type}{s:St}{F:Fr}{H:Hp}{L:Ls}{i k e:Nat}{u:Value}{enc:α->List PV}{xs:List α}(ha:Abs H0 s F H L)(hb:s.L i = .arr u k e enc xs)(h0:0<xs.length) :
   ∃ b cap c f,u = .slice (some ⟨b,f.length,none⟩) xs.length cap/\L i=some (b,bx e (f++c))/\cap*k<=c.length/\xs.length<=cap/\Rl (RowE enc k) H xs (c.take (xs.length*k))/\xs.length<=140737488355328/\(k=1->f=[]):=by
 have h3:=ha.l i;rw[hb] at h3;obtain⟨cs,⟨hl,⟨_,h0',_⟩|⟨b,cap,c,f,rfl,hL,hcl,hle,htk,hff⟩⟩,hr,hm⟩:=h3;omega;grind
theorem eidx{α:Type}{tb:Tb}{ti te:TI}{kk:IntKind}{i e k:Nat}{z:Int}{u:Value}{enc:α->List PV}{xs:List α}(m:Nat)(ht:tbB P tb=true)(hx:evP fF x = .osl i)(hb:fL i = .arr u k e enc xs)(hy:evP fF y = .int kk z)(hti:lkT tb T=some ti)(htk:ti.k = .slc e)(hte:lkT tb e=some te)(hk:te.size=k)(hi:z=(m:Int))(hm:m<xs.length) :
   Qy P N H0 ⟨fF,fL⟩ (.indexAddr T x y) ty (.val (.pointer (some ⟨sBlk u,sOff u+m*k,none⟩))):=λF H L ha=>by
 have h1:=Cn_ ha.f x
 unfold Ok1 at h1
 simp only at h1
 rw[hx] at h1
 simp only[SimT,hb] at h1
 have h2:=(Cn_ ha.f y).sim
 simp only at h2
 rw[hy] at h2
 obtain⟨b,cap,c,f,rfl,hL,_⟩:=Yi_ ha (i:=i) hb rV
 have hsz:=(Eg_ ht hte).sz
 rw[hk] at hsz
 exact⟨_,Sim.val,λ_ _ _=>lo_sidx h1 h2.inv_int.1 ((Eg_ ht hti).slc htk) hsz hi hm⟩
theorem efld{b off f o:Nat}(hx:evP fF x = .val (.pointer (some ⟨b,off,none⟩)))(hf:Fld P T f o):Qy P N H0 ⟨fF,fL⟩ (.fieldAddr T x f) ty (.val (.pointer (some ⟨b,off+o,none⟩))):=λF H L ha=>by
 have h1:=(Cn_ ha.f x).sim
 simp only at h1
 rw[hx] at h1
 exact⟨_,Sim.val,λ_ _ _=>Et_ h1.inv_val hf⟩
theorem row_at{α:Type}{H:Hp}{enc:α->List PV}{k m:Nat}{xs:List α}{a:α}{c:List Value}(hr:Rl (RowE enc k) H xs (c.take (xs.length*k)))(ha:xs[m]? = some a):∃ ds,RowE enc k H a ds/\∀ j,j<k->c[m*k+j]? = ds[j]? :=by
 obtain⟨hm,rfl⟩:=List.getElem?_eq_some_iff.1 ha;obtain⟨ds,p,q⟩:=rl_at Ls_ hr m hm;refine⟨ds,p,λj hj=>?_⟩;exact xH
theorem elod1{α:Type}{tb:Tb}{ti:TI}{i e k off:Nat}{u:Value}{enc:α->List PV}{xs:List α}{a:α}(p:PV)(m o:Nat)(ht:tbB P tb=true)(hx:evP fF x = .val (.pointer (some ⟨sBlk u,off,none⟩)))(hb:fL i = .arr u k e enc xs)(hti:lkT tb T=some ti)(hag:ti.k.isAgg=false)(ha':xs[m]? = some a)(hoff:off=sOff u+m*k+o)(hp:(enc a)[o]? = some p)(hn:p.noOsl=true)(hd:Nat.blt d n=true)(kk:p.wf->K ⟨updp fF d p,fL⟩):E1 P n N H0 all ⟨some d, .load T x,ty,pos,af,none⟩ none ⟨fF,fL⟩ K:=by
 intro F H L ha;have h1:=(Cn_ ha.f x).sim;simp only at h1;rw[hx] at h1;have hm:m<xs.length:=(List.getElem?_eq_some_iff.1 ha').1;obtain⟨b,cap,c,f,rfl,hL,hcl,hle,hr,hbb,hff⟩:=Yi_ ha (i:=i) hb rV;obtain⟨ds,⟨q1,q2,q3⟩,q4⟩:=row_at hr ha';have ho:o<k:=by rw[<- q1];exact (List.getElem?_eq_some_iff.1 hp).1
 obtain⟨v,hv⟩:∃ v,ds[o]? = some v:=⟨_,A7 (by rw[q2.1,q1];exact ho)⟩;have hs:=q2.2 o p v hp hv;have hg:=(Eg_ ht hti).ag;rw[hag] at hg;exact Ix_ hd (Kt_ h1.inv_val hg hL (by rw[hoff];show (f++c)[f.length+m*k+o]? = _;rw[BS,List.getElem?_append_right rV,BW,q4 o ho];exact hv)) ⟨.refl H,λ_ _=>rfl,_,ha.put d (hs.simT hn),kk hs.wf⟩
theorem est1{α:Type}{tb:Tb}{ti:TI}{i e k off:Nat}{u:Value}{enc:α->List PV}{xs:List α}{p:PV}(m o:Nat)(a':α)(ht:tbB P tb=true)(hx:evP fF x = .val (.pointer (some ⟨sBlk u,off,none⟩)))(hb:fL i = .arr u k e enc xs)(hti:lkT tb T=some ti)(hsz:ti.size=1)(hy:evS (evP fF y)=some p)(ho:p.one=true)(hm:m<xs.length)(hoff:off=sOff u+m*k+o)(hok:o<k)(he:∀ a,xs[m]? = some a->enc a'=(enc a).set o p)
   (kk:K ⟨fF,lups fL i (.arr u k e enc (xs.set m a'))⟩):E1 P n N H0 all ⟨none, .store T x y,ty,pos,af,none⟩ (some i) ⟨fF,fL⟩ K:=by
 intro F H L ha;have hy:=evS_eq hy;have h1:=(Cn_ ha.f x).sim;simp only at h1;rw[hx] at h1;have h2:=(Cn_ ha.f y).sim;simp only at h2;rw[hy] at h2;obtain⟨b,cap,c,f,rfl,hL,hcl,hle,hr,hbb,hff⟩:=Yi_ ha (i:=i) hb rV;have hsz':=(Eg_ ht hti).sz;rw[hsz] at hsz';have hlt:m*k+o<xs.length*k:=by
   have :(m+1)*k<=xs.length*k:=BQ k rV
   rw[AP] at this;omega
 have hlc:xs.length*k<=c.length:=AM (BQ k hle) hcl;subst hoff;have hset:(f++c).set (sOff (.slice (some ⟨b,f.length,none⟩) xs.length cap)+m*k+o) (ev F y)=f++c.set (m*k+o) (ev F y):=by
   show (f++c).set (f.length+m*k+o) (ev F y)=_
   grind
 refine Ld_ h1.inv_val Z (h2.one ho) hsz' hL (by simp[DX,sOff];omega) ?_;rw[hset];refine⟨.refl H,only,_,ha.turnU (n:=n) (N:=N) (P:=P) i hb ⟨(c.set (m*k+o) (ev F y)).take (xs.length*k),⟨by simp;omega, .inr ⟨b,cap,c.set (m*k+o) (ev F y),f,by simp,rfl,by simpa using hcl,by simpa using hle,by simp,hff⟩⟩,?_,by simpa using hbb⟩,kk⟩;rw[List.take_set];exact rl_set1 hok h2 (h2.one ho) hr hm he
theorem elodA{α:Type}{tb:Tb}{ti:TI}{i e k off sz:Nat}{u:Value}{enc:α->List PV}{xs:List α}{a:α}(ps:List PV)(m o:Nat)(ht:tbB P tb=true)(hx:evP fF x = .val (.pointer (some ⟨sBlk u,off,none⟩)))(hb:fL i = .arr u k e enc xs)(hti:lkT tb T=some ti)(hag:ti.k.isAgg=true)(hsz:ti.size=sz)(ha':xs[m]? = some a)(hoff:off=sOff u+m*k+o)(hp:((enc a).drop o).take sz=ps)(hos:o+sz<=k)(hd:Nat.blt d n=true)(kk:PV.wfs ps->K ⟨updp fF d (.agg ps),fL⟩):E1 P n N H0 all ⟨some d, .load T x,ty,pos,af,none⟩ none ⟨fF,fL⟩ K:=by
 intro F H L ha;have h1:=(Cn_ ha.f x).sim;simp only at h1;rw[hx] at h1;have hm:m<xs.length:=(List.getElem?_eq_some_iff.1 ha').1;obtain⟨b,cap,c,f,rfl,hL,hcl,hle,hr,hbb,hff⟩:=Yi_ ha (i:=i) hb rV;obtain⟨ds,⟨q1,q2,q3⟩,q4⟩:=row_at hr ha';have hdl:ds.length=k:=by rw[q2.1,q1]
 have hsub:sub (f++c) off sz=(ds.drop o).take sz:=by
   apply List.ext_getElem?
   intro j
   simp only[sub,AY,C9]
   by_cases z:j<sz
   . rw[if_pos z,if_pos z,hoff]
     show (f++c)[f.length+m*k+o+j]? = _
     grind
   . rw[if_neg z,if_neg z]
 have hsv:Sims H ps ((ds.drop o).take sz):=by rw[<- hp];exact Sims.take (Sims.drop q2 o) sz
 have hg:=(Eg_ ht hti).ag;rw[hag] at hg;have hk:=(Eg_ ht hti).sz;rw[hsz] at hk;exact Ix_ hd (Va_ (vs:=(ds.drop o).take sz) h1.inv_val hg hk hL hsub qK) ⟨.refl H,λ_ _=>rfl,_,ha.put (p:= .agg ps) d (Sim.toAgg hsv),kk hsv.wf⟩
theorem estA{α:Type}{tb:Tb}{ti:TI}{i e k off:Nat}{u:Value}{enc:α->List PV}{xs:List α}{ps:List PV}(m o:Nat)(a':α)(ht:tbB P tb=true)(hx:evP fF x = .val (.pointer (some ⟨sBlk u,off,none⟩)))(hb:fL i = .arr u k e enc xs)(hti:lkT tb T=some ti)(hy:evP fF y = .agg ps)(ho:all1 ps=true)(hsz:ps.length=ti.size)(hm:m<xs.length)(hoff:off=sOff u+m*k+o)(hok:o+ps.length<=k)(he:∀ a,xs[m]? = some a->enc a'=(enc a).take o++(ps++(enc a).drop (o+ps.length)))
   (kk:K ⟨fF,lups fL i (.arr u k e enc (xs.set m a'))⟩):E1 P n N H0 all ⟨none, .store T x y,ty,pos,af,none⟩ (some i) ⟨fF,fL⟩ K:=by
 intro F H L ha;have h1:=(Cn_ ha.f x).sim;simp only at h1;rw[hx] at h1;have h2:=(Cn_ ha.f y).sim;simp only at h2;rw[hy] at h2;obtain⟨vs,hv,hvs⟩:=h2.inv_agg;obtain⟨b,cap,c,f,rfl,hL,hcl,hle,hr,hbb,hff⟩:=Yi_ ha (i:=i) hb rV;have hsz':=(Eg_ ht hti).sz;rw[<- hsz] at hsz';have hlt:m*k+o+ps.length<=xs.length*k:=by
   exact xH
 have hlc:xs.length*k<=c.length:=AM (BQ k hle) hcl;have hvl:vs.length=ps.length:=hvs.1;have ha1:=Tj_ hvs ho;subst hoff;refine Xd_ (f++(c.take (m*k+o)++(vs++c.drop (m*k+o+ps.length)))) h1.inv_val hv ha1 hsz' hvl hL (by simp[Nat.ble_eq,sOff];omega) ?_ ?_;show (f++c).take (f.length+m*k+o)++(vs++(f++c).drop (f.length+m*k+o+ps.length))=_;rw[BS f.length,BS f.length,CJ,FF,AL rV,AB rV,BW,BW];simp;refine⟨.refl H,only,_,ha.turnU (n:=n) (N:=N) (P:=P) i hb ⟨(c.take (m*k+o)++(vs++c.drop (m*k+o+ps.length))).take (xs.length*k),⟨by simp;omega, .inr ⟨b,cap,_,f,by simp,rfl,by simp;omega,by simpa using hle,by simp,hff⟩⟩,?_,by simpa using hbb⟩,kk⟩;have e:(c.take (m*k+o)++(vs++c.drop (m*k+o+ps.length))).take (xs.length*k)=(c.take (xs.length*k)).take (m*k+o)++(vs++(c.take (xs.length*k)).drop (m*k+o+ps.length)):=by
   obtain⟨A,B,hA,hc,hAl⟩:∃ A B,c.take (xs.length*k)=A/\c=A++B/\A.length=xs.length*k:=⟨_,_,rfl,(B9 _ _).symm,by simp;omega⟩
   rw[hA,hc,DE (show m*k+o<=A.length by omega),DF (show m*k+o+ps.length<=A.length by omega),<- AW vs,<- AW]
   exact List.take_left' qK
 rw[e];exact rl_setA hok hvs (by simpa [List.all_eq_true] using ha1) hr hm he
theorem ecut1{α:Type}{tb:Tb}{ti te:TI}{kk:IntKind}{i e k:Nat}{z:Int}{u:Value}{enc:α->List PV}{xs:List α}(ht:tbB P tb=true)(hx:evP fF x = .osl i)(hb:fL i = .arr u k e enc xs)(hy:evP fF y = .int kk z)(hti:lkT tb T=some ti)(htk:ti.k = .slc e)(hte:lkT tb e=some te)(hk:te.size=k)(h1:Nat.blt 1 k=true)(hi:z=1)(hm:0<xs.length)(hd:Nat.blt d n=true)
   (kk:∀ u',K ⟨updp (Jb_ i fF) d (.osl i),lups (Gx_ i fL) i (.arr u' k e enc (xs.drop 1))⟩):E1 P n N H0 all ⟨some d, .slice T x (some y) none none,ty,pos,af,none⟩ (some i) ⟨fF,fL⟩ K:=by
 intro F H L ha;have h1':=Cn_ ha.f x;unfold Ok1 at h1';simp only at h1';rw[hx] at h1';simp only[SimT,hb] at h1';have h2:=(Cn_ ha.f y).sim;simp only at h2;rw[hy] at h2;have hb':fL i = .arr u k e enc xs:=hb;obtain⟨b,cap,c,f,rfl,hL,hcl,hle,hr,hbb,hff⟩:=Yi_ (s:=⟨fF,fL⟩) ha (i:=i) hb' hm;have hsz:=(Eg_ ht hte).sz;rw[hk] at hsz;have hk1:1<k:=by simpa [DX] using h1
 refine Ix_ hd (Mm_ 1 h1' h2.inv_int.1 ((Eg_ ht hti).slc htk) hsz rV rV) ?_;have hLL:lupd L i (L i)=L:=by funext j;by_cases e:j=i;(subst e;exact Cc_ _ _ _);exact B7_ _ _ _ _ e
 obtain⟨x0,xr,rfl⟩:∃ a r,xs=a::r:=by cases xs with|nil=>cases hm|cons a r=>exact⟨a,r,rfl⟩
 have hrl:=rl_len Ls_ hr;have :=ha.turn i (B:= .arr (.slice (slA (some ⟨b,f.length,none⟩) cap 1 k) ((x0::xr).length-1) (cap-1)) k e enc ((x0::xr).drop 1)) (x:=L i) ?_;rw[hLL] at this;exact zY;obtain⟨c1,c2,e1,r1,r2⟩:=hr;have hc1:c1.length=k:=by rw[r1.2.1.1,r1.1]
 have hck:cap*k=(cap-1)*k+k:=by rw[<- DJ];congr 1;simp only[A3] at hle;omega
 have hkc:k<=c.length:=by omega
 have hc2:c2=(c.drop k).take (xr.length*k):=by
   have :(c.take ((x0::xr).length*k)).drop k=c2:=by rw[e1,<- hc1,List.drop_left]
   rw[<- this,A3,FT,DJ,Nat.add_sub_cancel]
 refine⟨c2,⟨?_,?_⟩,by simpa using r2,by simp at hbb ⊢;omega⟩;rw[rl_len Ls_ r2];simp;by_cases hc:cap=1;subst hc;have :xr=[]:=List.length_eq_zero_iff.1 (by simp only[A3] at hle;omega);subst this;refine .inr ⟨b,0,c,f,by simp[slA],hL,by simp,by simp,by simpa using hc2.symm,hff⟩;refine .inr ⟨b,cap-1,c.drop k,f++c.take k,?_,by rw[hL];simp,?_,by simp only[List.drop_one,List.tail_cons,A3] at hle ⊢;omega,?_,λq=>by omega⟩;have :c.length>=k:=by omega
 simp[slA,Gb_,FU this,show ¬cap<=1 by simp only[A3] at hle;omega];intro q;simp only[A3] at hle;omega;rw[B5];omega;rw[hc2];simp
end Go.SW.V
namespace Go.SW
variable{P:Program}{n:Nat}{N:Rest}{H0:Env}{Q:Qs}{ks:List Kt}{s:St}
theorem O1_{α:Type}{i o b T0 k e:Nat}{cs:List PV}{c:Code}(j:Nat)(enc:α->List PV)(hb:Gx_ j s.L i = .box b T0 cs)(hne:i≠j)(ho:cs[o]? = some (.val (.slice none 0 0)))(hno:s.L j = .no)
   (kk:Hd P n N H0 Q (.code c) ks ⟨Jb_ j s.F,lups (lups (Gx_ j s.L) j (.arr (.slice none 0 0) k e enc [])) i (.box b T0 (cs.set o (.osl j)))⟩):Hd P n N H0 Q (.code c) ks s:=λF H L ha=>by
 have hL0:Abs H0 s F H (lupd L j none):=⟨ha.le,ha.g,ha.f,λq=>by
   by_cases e:q=j
   . subst e;rw[hno];trivial
   . rw[B7_ _ _ _ _ e];exact ha.l q⟩
 have h2:=hL0.turn j (B:= .arr (.slice none 0 0) k e enc []) (x:=none) ⟨[],On_,Y9_,by simp⟩
 have e2:lupd (lupd L j none) j none=lupd L j none:=by funext q;simp only[lupd];cases AK q j<;>rfl
 rw[e2] at h2
 have h3:=h2.l i
 simp only[F2_ _ _ _ _ hne,hb] at h3
 obtain⟨vs,hL,hs1,hs2⟩:=h3
 have h4:=h2.turnB i (B:= .box b T0 (cs.set o (.osl j))) U (x:=lupd L j none i) ⟨vs,hL,by simpa using hs1,λa p v hp hv=>by
   rw[CG] at hp
   by_cases z:o=a
   . subst z
     rw[if_pos rfl] at hp
     split at hp
     . cases hp
       have h5:=(hs2 o _ v ho hv).sim.inv_val
       simp only[SimT,F2_ _ _ _ _ hne.symm,C1_]
       exact h5
     . cases hp
   . rw[if_neg z] at hp
     have h5:=hs2 a p v hp hv
     exact Qq_ (b:=b) (T:=T0) (cs:=cs) (by simp only[F2_ _ _ _ _ hne,hb]) h5⟩
 have e3:lupd (lupd L j none) i (lupd L j none i)=lupd L j none:=by funext q;by_cases e:q=i;(subst e;exact Cc_ _ _ _);exact B7_ _ _ _ _ e
 rw[e3] at h4
 exact cw_weaken (λw hm=>hm.clear j) (kk F H _ h4)
theorem bld_str{all:List Oper}{ty d T1 T3 e i:Nat}{pos:String}{af:Array Edge}{x y:Operand}{K:St->Prop}{u:Value}{enc:UInt8->List PV}{xs:Bs}(hx:evP s.F x = .val (usd u))(hy:evP s.F y = .int .i64 xs.length)(hT:P.underlying T1=some (.pointer e))(hc:P.cellsOf e=1)(hb:s.L i = .arr u 1 e enc xs)(henc:enc=u8c)(h0:xs.length=0->u = .slice none 0 0)(hd:Nat.blt d n=true)
   (kk:K ⟨updp (Jb_ i s.F) d (.str xs),lups (Gx_ i s.L) i .no⟩):E1 P n N H0 all ⟨some d, .call ⟨.builtin .unsafeString,#[x,y],#[T1,T3]⟩,ty,pos,af,none⟩ (some i) s K:=by
 intro F H L ha;subst henc;have h1:=(Cn_ ha.f x).sim;rw[hx] at h1;have h2:=(Cn_ ha.f y).sim;rw[hy] at h2;have h3:=ha.l i;rw[hb] at h3;obtain⟨cs,ho,hr,hm⟩:=h3;have e:=N7_ hr;subst e;refine op1_ustr i h1.inv_val h2.inv_int.1 hT hc ho h0 rV hd ⟨.refl H,only,_,(ha.turn i (B:= .no) (x:=none) U).put (p:= .str xs) d (show Sim H (.str xs) (str xs) from Sim.str rV),kk⟩
theorem qusd{α:Type}{ty i k e:Nat}{x:Operand}{ats:Array TypeId}{u:Value}{enc:α->List PV}{xs:List α}(hx:evP s.F x = .osl i)(hb:s.L i = .arr u k e enc xs)(h0:xs.length=0->u = .slice none 0 0):Qy P N H0 s (.call ⟨.builtin .unsafeSliceData,#[x],ats⟩) ty (.val (usd u)):=λF H L ha=>by
 have h1:=Cn_ ha.f x
 unfold Ok1 at h1
 rw[hx] at h1
 simp only[SimT,hb] at h1
 have h3:=ha.l i
 rw[hb] at h3
 obtain⟨cs,ho,hr,hm⟩:=h3
 exact⟨_,Sim.val,λ_ _ _=>lo_usd h1 ho h0⟩
theorem I1_{α:Type}{all:List Oper}{T ty i j b b' off T0 k e:Nat}{pos:String}{af:Array Edge}{x y:Operand}{K:St->Prop}{tb:Tb}{ti:TI}{cs cs':List PV}{u:Value}{enc:α->List PV}{xs:List α}(ht:tbB P tb=true)(hx:evP s.F x = .own i b off)(hb:s.L i = .box b' T0 cs)(hti:lkT tb T=some ti)(hsz:ti.size=1)(hy:evP s.F y = .osl j)(hj:s.L j = .arr u k e enc xs)(hl:Nat.blt off cs.length=true)(hbb:b'=b)(hc:cs.set off (.osl j)=cs')
   (kk:K ⟨s.F,lups s.L i (.box b T0 cs')⟩):E1 P n N H0 all ⟨none, .store T x y,ty,pos,af,none⟩ (some i) s K:=by
 intro F H L ha;subst hbb hc;have h1:=(Cn_ ha.f x).sim;rw[hx] at h1;have h2:=Cn_ ha.f y;unfold Ok1 at h2;rw[hy] at h2;have h2':=h2;simp only[SimT,hj] at h2';have h3:=ha.l i;rw[hb] at h3;obtain⟨vs,hL,hs⟩:=h3;have h5:=ha.l j;rw[hj] at h5;obtain⟨cs0,ho,_,_⟩:=h5;have hone:(ev F y).oneCell'=true:=by
   rw[h2']
   obtain⟨_,⟨rfl,_,_⟩|⟨_,_,_,_,rfl,_⟩⟩:=ho<;>rfl
 have hsz':=(Eg_ ht hti).sz;rw[hsz] at hsz';refine Ld_ h1.inv_own Z hone hsz' hL pR ?_;refine⟨.refl H,only,_,ha.turnB (B:= .box _ T0 (cs.set off (.osl j))) i U ⟨_,rfl,?_⟩,kk⟩;have h4:=hs.set off h2;exact⟨h4.1,λq p v hq hv=>Qq_ hb (h4.2 q p v hq hv)⟩
end Go.SW
namespace Go.SW
structure V_ where
 Ad_:Mail
 lent:Bool
 again:Bool
deriving DecidableEq,Inhabited
def V_.pc(x:V_):List PV:=[.int .u64 x.Ad_.id, .str x.Ad_.Bl_, .str x.Ad_.key, .sl Pair.pc x.Ad_.head, .str x.Ad_.body, .int .u64 x.Ad_.due, .int .u8 x.Ad_.hops, .bool x.lent, .bool x.again]
structure Af_ where
 item:V_
 count:Int
 lost:Int
deriving DecidableEq,Inhabited
def Af_.pc(x:Af_):List PV:=[.int .u64 x.item.Ad_.id, .str x.item.Ad_.Bl_, .str x.item.Ad_.key, .sl Pair.pc x.item.Ad_.head, .str x.item.Ad_.body, .int .u64 x.item.Ad_.due, .int .u8 x.item.Ad_.hops, .bool x.item.lent, .bool x.item.again, .int .i64 x.count, .int .i64 x.lost]
structure Cr_ where
 level:Int
 set_:Int
deriving DecidableEq,Inhabited
def Cr_.pc(x:Cr_):List PV:=[.int .u8 x.level, .int .u32 x.set_]
structure Av_ where
 name:Bs
 label:Cr_
 bytes:Int
 base:Int
deriving DecidableEq,Inhabited
def Av_.pc(x:Av_):List PV:=[.str x.name, .int .u8 x.label.level, .int .u32 x.label.set_, .int .i64 x.bytes, .int .u64 x.base]
structure Bv_ where
 frm:Int
 to':Int
 budget:Int
deriving DecidableEq,Inhabited
def Bv_.pc(x:Bv_):List PV:=[.int .i64 x.frm, .int .i64 x.to', .int .i64 x.budget]
structure F_ where
 work:Int
 give:Int
 places:List Av_
 slots:List Int
 grants:List Bv_
deriving DecidableEq,Inhabited
def F_.pc(x:F_):List PV:=[.int .i64 x.work, .int .i64 x.give, .sl Av_.pc x.places, .sl i64c x.slots, .sl Bv_.pc x.grants]
structure Ea_ where
 tick:Int
 kind:Int
 text:Bs
deriving DecidableEq,Inhabited
def Ea_.pc(x:Ea_):List PV:=[.int .u64 x.tick, .int .u8 x.kind, .str x.text]
structure By_ where
 total:Int
 kept:List Ea_
deriving DecidableEq,Inhabited
def By_.pc(x:By_):List PV:=[.int .u64 x.total, .sl Ea_.pc x.kept]
structure As_ where
 items:List V_
deriving DecidableEq,Inhabited
def As_.pc(x:As_):List PV:=[.sl V_.pc x.items]
structure Hh_ where
 q:T_
 l:As_
deriving DecidableEq,Inhabited
def Hh_.pc(x:Hh_):List PV:=[.str x.q.name, .int .u64 x.q.most, .int .u64 x.q.life, .str x.q.dead, .sl V_.pc x.l.items]
structure Ag_ where
 total:Int
 kept:List Mail
deriving DecidableEq,Inhabited
def Ag_.pc(x:Ag_):List PV:=[.int .u64 x.total, .sl Mail.pc x.kept]
abbrev A16_RiseR:=V.A16 Ag_
def A16_RiseR.pc(x:A16_RiseR):List PV:=[.int .u64 x.e0.total, .sl Mail.pc x.e0.kept, .int .u64 x.e1.total, .sl Mail.pc x.e1.kept, .int .u64 x.e2.total, .sl Mail.pc x.e2.kept, .int .u64 x.e3.total, .sl Mail.pc x.e3.kept, .int .u64 x.e4.total, .sl Mail.pc x.e4.kept, .int .u64 x.e5.total, .sl Mail.pc x.e5.kept, .int .u64 x.e6.total, .sl Mail.pc x.e6.kept, .int .u64 x.e7.total, .sl Mail.pc x.e7.kept, .int .u64 x.e8.total, .sl Mail.pc x.e8.kept, .int .u64 x.e9.total, .sl Mail.pc x.e9.kept, .int .u64 x.e10.total, .sl Mail.pc x.e10.kept, .int .u64 x.e11.total, .sl Mail.pc x.e11.kept, .int .u64 x.e12.total, .sl Mail.pc x.e12.kept, .int .u64 x.e13.total, .sl Mail.pc x.e13.kept, .int .u64 x.e14.total, .sl Mail.pc x.e14.kept, .int .u64 x.e15.total, .sl Mail.pc x.e15.kept]
abbrev A16_u64:=V.A16 Int
def A16_u64.pc(x:A16_u64):List PV:=[.int .u64 x.e0, .int .u64 x.e1, .int .u64 x.e2, .int .u64 x.e3, .int .u64 x.e4, .int .u64 x.e5, .int .u64 x.e6, .int .u64 x.e7, .int .u64 x.e8, .int .u64 x.e9, .int .u64 x.e10, .int .u64 x.e11, .int .u64 x.e12, .int .u64 x.e13, .int .u64 x.e14, .int .u64 x.e15]
structure Aj_ where
 round:Int
 count:Int
deriving DecidableEq,Inhabited
def Aj_.pc(x:Aj_):List PV:=[.int .u64 x.round, .int .i64 x.count]
abbrev A8_SpentR:=V.A8 Aj_
def A8_SpentR.pc(x:A8_SpentR):List PV:=[.int .u64 x.e0.round, .int .i64 x.e0.count, .int .u64 x.e1.round, .int .i64 x.e1.count, .int .u64 x.e2.round, .int .i64 x.e2.count, .int .u64 x.e3.round, .int .i64 x.e3.count, .int .u64 x.e4.round, .int .i64 x.e4.count, .int .u64 x.e5.round, .int .i64 x.e5.count, .int .u64 x.e6.round, .int .i64 x.e6.count, .int .u64 x.e7.round, .int .i64 x.e7.count]
structure I_ where
 next :Int
 bytes:Int
 rows:List Hh_
 rises:A16_RiseR
deriving DecidableEq,Inhabited
def I_.pc(x:I_):List PV:=[.int .u64 x.next, .int .i64 x.bytes, .sl Hh_.pc x.rows, .int .u64 x.rises.e0.total, .sl Mail.pc x.rises.e0.kept, .int .u64 x.rises.e1.total, .sl Mail.pc x.rises.e1.kept, .int .u64 x.rises.e2.total, .sl Mail.pc x.rises.e2.kept, .int .u64 x.rises.e3.total, .sl Mail.pc x.rises.e3.kept, .int .u64 x.rises.e4.total, .sl Mail.pc x.rises.e4.kept, .int .u64 x.rises.e5.total, .sl Mail.pc x.rises.e5.kept, .int .u64 x.rises.e6.total, .sl Mail.pc x.rises.e6.kept, .int .u64 x.rises.e7.total, .sl Mail.pc x.rises.e7.kept, .int .u64 x.rises.e8.total, .sl Mail.pc x.rises.e8.kept, .int .u64 x.rises.e9.total, .sl Mail.pc x.rises.e9.kept, .int .u64 x.rises.e10.total, .sl Mail.pc x.rises.e10.kept, .int .u64 x.rises.e11.total, .sl Mail.pc x.rises.e11.kept, .int .u64 x.rises.e12.total, .sl Mail.pc x.rises.e12.kept, .int .u64 x.rises.e13.total, .sl Mail.pc x.rises.e13.kept, .int .u64 x.rises.e14.total, .sl Mail.pc x.rises.e14.kept, .int .u64 x.rises.e15.total, .sl Mail.pc x.rises.e15.kept]
structure Ac_ where
 book:Az_
 E_:I_
 notes:By_
 seen:A16_u64
 spent:A8_SpentR
deriving DecidableEq,Inhabited
def Ac_.pc(x:Ac_):List PV:=[.sl W_.pc x.book.D3_, .sl O_.pc x.book.binds, .int .u64 x.E_.next, .int .i64 x.E_.bytes, .sl Hh_.pc x.E_.rows, .int .u64 x.E_.rises.e0.total, .sl Mail.pc x.E_.rises.e0.kept, .int .u64 x.E_.rises.e1.total, .sl Mail.pc x.E_.rises.e1.kept, .int .u64 x.E_.rises.e2.total, .sl Mail.pc x.E_.rises.e2.kept, .int .u64 x.E_.rises.e3.total, .sl Mail.pc x.E_.rises.e3.kept, .int .u64 x.E_.rises.e4.total, .sl Mail.pc x.E_.rises.e4.kept, .int .u64 x.E_.rises.e5.total, .sl Mail.pc x.E_.rises.e5.kept, .int .u64 x.E_.rises.e6.total, .sl Mail.pc x.E_.rises.e6.kept, .int .u64 x.E_.rises.e7.total, .sl Mail.pc x.E_.rises.e7.kept, .int .u64 x.E_.rises.e8.total, .sl Mail.pc x.E_.rises.e8.kept, .int .u64 x.E_.rises.e9.total, .sl Mail.pc x.E_.rises.e9.kept, .int .u64 x.E_.rises.e10.total, .sl Mail.pc x.E_.rises.e10.kept, .int .u64 x.E_.rises.e11.total, .sl Mail.pc x.E_.rises.e11.kept, .int .u64 x.E_.rises.e12.total, .sl Mail.pc x.E_.rises.e12.kept, .int .u64 x.E_.rises.e13.total, .sl Mail.pc x.E_.rises.e13.kept, .int .u64 x.E_.rises.e14.total, .sl Mail.pc x.E_.rises.e14.kept, .int .u64 x.E_.rises.e15.total, .sl Mail.pc x.E_.rises.e15.kept, .int .u64 x.notes.total, .sl Ea_.pc x.notes.kept, .int .u64 x.seen.e0, .int .u64 x.seen.e1, .int .u64 x.seen.e2, .int .u64 x.seen.e3, .int .u64 x.seen.e4, .int .u64 x.seen.e5, .int .u64 x.seen.e6, .int .u64 x.seen.e7, .int .u64 x.seen.e8, .int .u64 x.seen.e9, .int .u64 x.seen.e10, .int .u64 x.seen.e11, .int .u64 x.seen.e12, .int .u64 x.seen.e13, .int .u64 x.seen.e14, .int .u64 x.seen.e15, .int .u64 x.spent.e0.round, .int .i64 x.spent.e0.count, .int .u64 x.spent.e1.round, .int .i64 x.spent.e1.count, .int .u64 x.spent.e2.round, .int .i64 x.spent.e2.count, .int .u64 x.spent.e3.round, .int .i64 x.spent.e3.count, .int .u64 x.spent.e4.round, .int .i64 x.spent.e4.count, .int .u64 x.spent.e5.round, .int .i64 x.spent.e5.count, .int .u64 x.spent.e6.round, .int .i64 x.spent.e6.count, .int .u64 x.spent.e7.round, .int .i64 x.spent.e7.count]
structure D_ where
 x:Ac_
 U_:F_
 place:Int
deriving DecidableEq,Inhabited
def D_.pc(x:D_):List PV:=[.sl W_.pc x.x.book.D3_, .sl O_.pc x.x.book.binds, .int .u64 x.x.E_.next, .int .i64 x.x.E_.bytes, .sl Hh_.pc x.x.E_.rows, .int .u64 x.x.E_.rises.e0.total, .sl Mail.pc x.x.E_.rises.e0.kept, .int .u64 x.x.E_.rises.e1.total, .sl Mail.pc x.x.E_.rises.e1.kept, .int .u64 x.x.E_.rises.e2.total, .sl Mail.pc x.x.E_.rises.e2.kept, .int .u64 x.x.E_.rises.e3.total, .sl Mail.pc x.x.E_.rises.e3.kept, .int .u64 x.x.E_.rises.e4.total, .sl Mail.pc x.x.E_.rises.e4.kept, .int .u64 x.x.E_.rises.e5.total, .sl Mail.pc x.x.E_.rises.e5.kept, .int .u64 x.x.E_.rises.e6.total, .sl Mail.pc x.x.E_.rises.e6.kept, .int .u64 x.x.E_.rises.e7.total, .sl Mail.pc x.x.E_.rises.e7.kept, .int .u64 x.x.E_.rises.e8.total, .sl Mail.pc x.x.E_.rises.e8.kept, .int .u64 x.x.E_.rises.e9.total, .sl Mail.pc x.x.E_.rises.e9.kept, .int .u64 x.x.E_.rises.e10.total, .sl Mail.pc x.x.E_.rises.e10.kept, .int .u64 x.x.E_.rises.e11.total, .sl Mail.pc x.x.E_.rises.e11.kept, .int .u64 x.x.E_.rises.e12.total, .sl Mail.pc x.x.E_.rises.e12.kept, .int .u64 x.x.E_.rises.e13.total, .sl Mail.pc x.x.E_.rises.e13.kept, .int .u64 x.x.E_.rises.e14.total, .sl Mail.pc x.x.E_.rises.e14.kept, .int .u64 x.x.E_.rises.e15.total, .sl Mail.pc x.x.E_.rises.e15.kept, .int .u64 x.x.notes.total, .sl Ea_.pc x.x.notes.kept, .int .u64 x.x.seen.e0, .int .u64 x.x.seen.e1, .int .u64 x.x.seen.e2, .int .u64 x.x.seen.e3, .int .u64 x.x.seen.e4, .int .u64 x.x.seen.e5, .int .u64 x.x.seen.e6, .int .u64 x.x.seen.e7, .int .u64 x.x.seen.e8, .int .u64 x.x.seen.e9, .int .u64 x.x.seen.e10, .int .u64 x.x.seen.e11, .int .u64 x.x.seen.e12, .int .u64 x.x.seen.e13, .int .u64 x.x.seen.e14, .int .u64 x.x.seen.e15, .int .u64 x.x.spent.e0.round, .int .i64 x.x.spent.e0.count, .int .u64 x.x.spent.e1.round, .int .i64 x.x.spent.e1.count, .int .u64 x.x.spent.e2.round, .int .i64 x.x.spent.e2.count, .int .u64 x.x.spent.e3.round, .int .i64 x.x.spent.e3.count, .int .u64 x.x.spent.e4.round, .int .i64 x.x.spent.e4.count, .int .u64 x.x.spent.e5.round, .int .i64 x.x.spent.e5.count, .int .u64 x.x.spent.e6.round, .int .i64 x.x.spent.e6.count, .int .u64 x.x.spent.e7.round, .int .i64 x.x.spent.e7.count, .int .i64 x.U_.work, .int .i64 x.U_.give, .sl Av_.pc x.U_.places, .sl i64c x.U_.slots, .sl Bv_.pc x.U_.grants, .int .i64 x.place]
structure H2_ where
 queue:Bs
 Ad_:Mail
deriving DecidableEq,Inhabited
def H2_.pc(x:H2_):List PV:=[.str x.queue, .int .u64 x.Ad_.id, .str x.Ad_.Bl_, .str x.Ad_.key, .sl Pair.pc x.Ad_.head, .str x.Ad_.body, .int .u64 x.Ad_.due, .int .u8 x.Ad_.hops]
structure Im_ where
 at_:Int
 data:Bs
deriving DecidableEq,Inhabited
def Im_.pc(x:Im_):List PV:=[.int .i64 x.at_, .str x.data]
variable{P:Program}{n:Nat}{N:Rest}{H0:Env}{all:List Oper}{Q:Qs}{ks:List Kt}{s:St}
end Go.SW
namespace Go.SW.V
open Go.SW
variable{P:Program}{n:Nat}{N:Rest}{H0:Env}{all:List Oper}{Q:Qs}{ks:List Kt}{fF:Nat->PV}{fL:Nat->Blk}
end Go.SW.V
namespace Go.SW
variable{P:Program}{n:Nat}{N:Rest}{H0:Env}{all:List Oper}{Q:Qs}{ks:List Kt}{s:St}
theorem vw_l{ops:List Oper}{Lk:Ls}{Q:Qt}{fuel:Nat}{listed:Array Bool}{F:Fr}{H:Hp}{L:Ls}(i0:Nat)(r:List Nat)(hr:Region.ready .any ops.toArray listed=i0::r)
   (h:∀ i∈i0::r,∃ o,ops[i]? = some o/\Op1 P n N ops o (λF' H' L'=>(HLe H H'/\LLe Lk L')/\Vw P n N ops Lk Q fuel (listed.setIfInBounds i true) F' H' L') F H L):Vw P n N ops Lk Q (fuel+1) listed F H L:=by
 refine⟨λq=>pN,λj hj a w ha hm=>?_⟩;rw[hr] at hj;obtain⟨o,ho,h1⟩:=h j hj;exact wpOp_mono (λa' w' ⟨F',H',L',x,y,z1,z2⟩=>⟨F',H',L',x,y, .inl ⟨z1.1, .inl z1.2⟩,z2⟩) (Vd_ ho h1 a w ha hm)
def Ej(P:Program)(n:Nat)(N:Rest)(H0:Env)(all:List Oper)(o:Oper)(xs:List Nat)(s:St)(K:St->Prop):Prop:=∃ j:Option Nat,(match j with|none=>true|some j=>memB xs j)=true/\E1 P n N H0 all o j s K
theorem ej{o:Oper}{xs:List Nat}{K:St->Prop}{j:Option Nat}(hj:(match j with|none=>true|some j=>memB xs j)=true)(h:E1 P n N H0 all o j s K):Ej P n N H0 all o xs s K:=⟨j,hj,h⟩
def AllE(P:Program)(n:Nat)(N:Rest)(H0:Env)(all:List Oper)(Q:Qs)(xs:List Nat)(fuel:Nat)(listed:Array Bool)(ks:List Kt)(s:St):List Nat->Prop
 |[]=>True
 |i::r=>(∃ o,nth all i=some o/\Ej P n N H0 all o xs s (λs'=>Hv P n N H0 Q (some xs) all fuel (listed.setIfInBounds i true) ks s'))/\AllE P n N H0 all Q xs fuel listed ks s r
theorem allE_mem{xs:List Nat}{fuel:Nat}{listed:Array Bool}:∀ {r:List Nat} {i:Nat},AllE P n N H0 all Q xs fuel listed ks s r->i∈r->∃ o,nth all i=some o/\Ej P n N H0 all o xs s (λs'=>Hv P n N H0 Q (some xs) all fuel (listed.setIfInBounds i true) ks s')
 |[],i,_,h=>by cases h
 |a::r,i,h,hm=>by
   rcases List.mem_cons.1 hm with e|q
   . subst e;exact h.1
   . exact allE_mem h.2 q
theorem veL{xs:List Nat}{fuel:Nat}{listed:Array Bool}(i0:Nat)(r:List Nat)(hr:Region.ready .any all.toArray listed=i0::r)(h:AllE P n N H0 all Q xs fuel listed ks s (i0::r)):Hv P n N H0 Q (some xs) all (fuel+1) listed ks s:=by
 intro F H L Lk ha hL;refine vw_l i0 r hr λi hi=>?_;obtain⟨o,ho,j,hj,he⟩:=allE_mem h hi;rw[Gm_] at ho;have hle:∀ L':Ls,(∀ i,j≠some i->L' i=L i)->LkR (some xs) Lk L':=λL' hL' i=>by
   rw[hL i]
   grind
 have hlle:∀ L':Ls,(∀ i,j≠some i->L' i=L i)->LLe Lk L':=λL' hL' i x hx=>by
   have :=hle L' hL' i
   grind
 exact xC
end Go.SW
namespace Go.SW.V
open Go.SW
variable{P:Program}{n:Nat}{N:Rest}{H0:Env}{all:List Oper}{Q:Qs}{ks:List Kt}{fF:Nat->PV}{fL:Nat->Blk}
theorem roN{α:Type}{tb:Tb}{rs:List ResultVar}{ps:List PV}{res:Value->PV}{k e j:Nat}{enc:α->List PV}{xs xs':List α}{as0 bs:List Nat}{u0:Value}(u:Value)(h:Jx_ tb ⟨fF,fL⟩ rs=some (ps,as0,bs))(he:as0=bs)(hL:fL j = .arr u0 k e enc xs')(hu:u0=u)(hx:xs'=xs)(hp:PLe (tupP ps) (res u)):Hd P n N H0 (foK tb rs res k e enc xs) (.ex .ret) [] ⟨fF,fL⟩:=
 ⟨u,j,⟨.inr Z,_,as0,bs,h,he,hp⟩,by show fL j=_;rw[hL,hx,hu]⟩
end Go.SW.V
namespace Go.SW.V
open Go.SW
variable{P:Program}{n:Nat}{N:Rest}{H0:Env}{all:List Oper}{Q:Qs}{ks:List Kt}{fF:Nat->PV}{fL:Nat->Blk}{T ty:Nat}{x y:Operand}
theorem lo_aidxA{F:Fr}{H:Hp}{L:Ls}{kk:IntKind}{len k m:Nat}{i:Int}{e:TypeId}{cs vs:List Value}(hx:ev F x = .agg cs.toArray)(hy:ev F y = .int kk i)(hT:P.underlying T=some (.array len e))(hg:Ag P e true)(hk:Sz P e k)(hi:i=(m:Int))(hm:m<len)(hv:sub cs (m*k) k=vs):SW.Lo P N (.index T x y) ty F H L (.agg vs.toArray):=λd pos af gg w _=>by
 subst hi
 simp[execOp,hy,hx,G2,asIntOf,run_underlying hT,hk w,hm,part_A hg hk hv]
theorem lo_aidx1{F:Fr}{H:Hp}{L:Ls}{kk:IntKind}{len k m:Nat}{i:Int}{e:TypeId}{cs:List Value}{v:Value}(hx:ev F x = .agg cs.toArray)(hy:ev F y = .int kk i)(hT:P.underlying T=some (.array len e))(hg:Ag P e false)(hk:Sz P e k)(hi:i=(m:Int))(hm:m<len)(hv:cs[m*k]? = some v):SW.Lo P N (.index T x y) ty F H L v:=λd pos af gg w _=>by
 subst hi
 simp[execOp,hy,hx,G2,asIntOf,run_underlying hT,hk w,hm,part_1 hg hv]
theorem qaivA{tb:Tb}{te:TI}{kk:IntKind}{len k:Nat}{e:TypeId}{z:Int}{cs:List PV}(row:Nat->List PV)(m:Nat)(ht:tbB P tb=true)(hx:evP fF x = .agg cs)(hy:evP fF y = .int kk z)(hT:P.underlying T=some (.array len e))(hte:lkT tb e=some te)(hag:te.k.isAgg=true)(hsz:te.size=k)(hi:z=(m:Int))(hm:m<len)(hc:∀ q,q<len->(cs.drop (q*k)).take k=row q):Qy P N H0 ⟨fF,fL⟩ (.index T x y) ty (.agg (row m)):=λF H L ha=>by
 have h1:=(Cn_ ha.f x).sim
 have h2:=(Cn_ ha.f y).sim
 simp only at h1 h2
 rw[hx] at h1
 rw[hy] at h2
 obtain⟨vs,e1,h3⟩:=h1.inv_agg
 have hg:=(Eg_ ht hte).ag
 rw[hag] at hg
 have hk:=(Eg_ ht hte).sz
 rw[hsz] at hk
 exact⟨_,Sim.toAgg (by rw[<- hc m hm];exact (h3.drop _).take _),λ_ _ _=>lo_aidxA e1 h2.inv_int.1 hT hg hk hi hm Z⟩
theorem qaiv1{tb:Tb}{te:TI}{kk:IntKind}{len k:Nat}{e:TypeId}{z:Int}{cs:List PV}(row:Nat->PV)(m:Nat)(ht:tbB P tb=true)(hx:evP fF x = .agg cs)(hy:evP fF y = .int kk z)(hT:P.underlying T=some (.array len e))(hte:lkT tb e=some te)(hag:te.k.isAgg=false)(hsz:te.size=k)(hi:z=(m:Int))(hm:m<len)(hno:∀ q,(row q).noOsl=true)(hc:∀ q,q<len->cs[q*k]? = some (row q)):Qy P N H0 ⟨fF,fL⟩ (.index T x y) ty (row m):=λF H L ha=>by
 have h1:=(Cn_ ha.f x).sim
 have h2:=(Cn_ ha.f y).sim
 simp only at h1 h2
 rw[hx] at h1
 rw[hy] at h2
 obtain⟨vs,e1,h3⟩:=h1.inv_agg
 have hg:=(Eg_ ht hte).ag
 rw[hag] at hg
 have hk:=(Eg_ ht hte).sz
 rw[hsz] at hk
 obtain⟨v,hv,hsv⟩:=h3.get (hc m hm)
 exact⟨v,hsv.simT (hno m),λ_ _ _=>lo_aidx1 e1 h2.inv_int.1 hT hg hk hi hm hv⟩
end Go.SW.V
namespace Go.SW
variable{P:Program}{n:Nat}{N:Rest}{H0:Env}{all rest:List Oper}{Q:Qs}{ks:List Kt}{s:St}{T ty d:Nat}{pos:String}{af:Array Edge}{x y:Operand}{K:St->Prop}{op:Op}{p:PV}
theorem Y7_{α:Type}[Inhabited α](zs:List α):∀ m:Nat,(List.range (m*zs.length)).map (λj=>zs.toArray[j%zs.length]!)=(List.replicate m zs).flatten
 |0=>by simp
 |m+1=>by
   rw[DJ,List.range_add,CS,Y7_ zs m,List.replicate_succ',CX,List.map_map]
   congr 1
   simp only[AN,List.flatten_nil,AT]
   apply List.ext_getElem
   . simp
   . intro j h1 h2
     simp[Nat.mod_eq_of_lt h2,h2]
theorem op1_makeZ{F:Fr}{H:Hp}{L:Ls}{k bytes m:Nat}{e:TypeId}{zs:List Value}{k1 k2:IntKind}{len cap:Int}{ops:List Oper}{K:Fr->Hp->Ls->Prop}(i:Nat)(hx:ev F x = .int k1 len)(hy:ev F y = .int k2 cap)(hT:P.underlying T=some (.slice e))(hk:Sz P e k)(hb:By P e bytes)(hz:Zr P e zs)(hzl:zs.length=k)
   (hlen:len=(m:Int)) (hcap:cap=(m:Int)) (hbd:bytes*m<=281474976710656) (hm9:m<=9223372036854775807) (hd:Nat.blt d n=true)
   (kk:∀ b,K (upd F d (.slice (some ⟨b,0,none⟩) m m)) H (lupd L i (some (b,bx e (List.replicate m zs).flatten)))):Op1 P n N ops ⟨some d, .makeSlice T x y,ty,pos,af,none⟩ K F H L:=by
 intro a w ha hm;rw[if_pos qD];unfold BC;subst hlen;subst hcap;obtain⟨inf,hinf,hbb⟩:=hb w;obtain⟨z,hzr,hzc⟩:=hz w;have hw:A0 .i64 (m:Int)=(m:Int):=by
   exact sB
 suffices hr:(execOp a.eval ⟨some d, .makeSlice T x y,ty,pos,af,none⟩).run P w = .ok (.value (.slice (some ⟨w.heap.size,0,none⟩) m m)) {w with heap:=w.heap.push (bx e (AZ m zs).flatten)} by
   rw[hr]
   exact yK
 have h1:¬((m:Int)<0):=by omega
 have h2:¬(281474976710656<(inf.bytes:Int)*(m:Int)):=by
   grind
 rw[ha.eval];by_cases h0:m*k=0;have e0:(AZ m zs).flatten=[]:=by
   rw[<- List.length_eq_zero_iff];simp[hzl,h0]
 rw[e0];simp[execOp,hx,hy,FG,run_underlying hT,Td_,hinf,hw,h1,h2,hk w,h0,newRow,askRoom,bx];grind
 . have hr:=Y7_ zs m
   rw[hzl] at hr
   rw[<- hr]
   simp[execOp,hx,hy,FG,run_underlying hT,Td_,hinf,hw,h1,h2,hk w,h0,hzr,newRow,askRoom,bx]
   congr 1
   simp[Obj.cells.injEq]
   grind
theorem rl_rep{α:Type}{H:Hp}{enc:α->List PV}{k:Nat}{z:α}{zs:List Value}(h:RowE enc k H z zs):∀ m:Nat,Rl (RowE enc k) H (List.replicate m z) (List.replicate m zs).flatten
 |0=>rfl
 |m+1=>by rw[F0,F0,AN];exact⟨zs,_,rfl,h,rl_rep h m⟩
theorem mksl{α:Type}{tb:Tb}{e:Nat}{te ti:TI}{k1 k2:IntKind}{len cap:Int}(i m:Nat)(enc:α->List PV)(z:α)(ht:tbB P tb=true)(hx:evP s.F x = .int k1 len)(hy:evP s.F y = .int k2 cap)(hti:lkT tb T=some ti)(htk:ti.k = .slc e)(hte:lkT tb e=some te)(hz:te.zero=enc z)(hzl:te.zero.length=te.size)(hone:all1 te.zero=true)(hlen:len=(m:Int))(hcap:cap=(m:Int))(hbd:m*te.bytes<=140737488355328)(hm:m<=140737488355328)(hd:Nat.blt d n=true)(hno:s.L i = .no)
   (kk:∀ u',K ⟨updp (Jb_ i s.F) d (.osl i),lups (Gx_ i s.L) i (.arr u' te.size e enc (List.replicate m z))⟩):E1 P n N H0 all ⟨some d, .makeSlice T x y,ty,pos,af,none⟩ (some i) s K:=by
 intro F H L ha;have h1:=(Cn_ ha.f x).sim;rw[hx] at h1;have h2:=(Cn_ ha.f y).sim;rw[hy] at h2;obtain⟨zv,hzv,hs⟩:=(Eg_ ht hte).zero;have hok:=Eg_ ht hte;have hall:=Tj_ (hs H) hone;have hl:zv.cells.toList.length=te.size:=by rw[(hs H).1,hzl]
 refine op1_makeZ i h1.inv_int.1 h2.inv_int.1 ((Eg_ ht hti).slc htk) hok.sz hok.by_ (zs:=zv.cells.toList) (λw=>⟨zv,hzv w,by simp⟩) hl hlen hcap (by rw[CT];omega) rV hd λb=>?_;refine⟨.refl H,only,_,(ha.turn i (B:= .arr (.slice (some ⟨b,0,none⟩) m m) te.size e enc (AZ m z)) ⟨(AZ m zv.cells.toList).flatten,?_,rl_rep ⟨by rw[<- hz,hzl],by rw[<- hz];exact hs H,λu hu=>List.all_eq_true.1 hall u hu⟩ m,by simpa using hm⟩).put d pF,kk _⟩;simp only[BZ];have hfl:(AZ m zv.cells.toList).flatten.length=m*te.size:=by simp[hl]
 exact⟨hfl, .inr ⟨b,m,(AZ m zv.cells.toList).flatten,[],rfl,rfl,F4 hfl.symm,BB _,by rw[AL (F4 hfl)],λ_=>rfl⟩⟩
end Go.SW
namespace Go.SW.V
open Go.SW
variable{P:Program}{n:Nat}{N:Rest}{H0:Env}{ks:List Kt}{fF:Nat->PV}{fL:Nat->Blk}{tb:Tb}{rs:List ResultVar}{res p q r t u:PV}{as0 bs:List Nat}
theorem rt4(h:Jx_ tb ⟨fF,fL⟩ rs=some ([p,q,r,t],as0,bs))(he:as0=bs)(hp:PLe (.tup [p,q,r,t]) res):Hd P n N H0 (rtK tb rs res) (.ex .ret) [] ⟨fF,fL⟩:=rt h he hp
end Go.SW.V
namespace Go.SW.V
open Go.SW
variable{P:Program}{n:Nat}{N:Rest}{H0:Env}{all rest:List Oper}{Q:Qs}{ks:List Kt}{fF:Nat->PV}{fL:Nat->Blk}{T ty d:Nat}{pos:String}{af:Array Edge}{x y z:Operand}{K:St->Prop}
structure EfR where
 F:Nat->PV
 L:Nat->Blk
 eq:Option (Nat×Nat)
def mkE(tb:Tb)(n:Nat)(i b:Nat)(F:Nat->PV)(L:Nat->Blk)(o:Oper):Option EfR:=
 match o.guard with
 |some _=>none
 |none=>match o.dst with
   |none=>none
   |some d=>match EK d n with
     |false=>none
     |true=>match o.op with
       | .alloc T=>match lkT tb T with
         |some ti=>match evL ti.zero with
           |some zs=>match Df_ zs with
             |true=>some ⟨updp F d (.own i b 0),lups L i (.box b T zs),none⟩
             |false=>none
           |none=>none
         |none=>none
       | .box T x=>match evP F x with
         | .agg cs=>match Df_ cs with
           |true=>some ⟨updp F d (.own i b 0),lups L i (.box b T cs),none⟩
           |false=>none
         |v=>match evS v with
           |some p=>match p.one with
             |true=>some ⟨updp F d (.own i b 0),lups L i (.box b T [p]),none⟩
             |false=>none
           |none=>none
       |_=>none
def stE(tb:Tb)(F:Nat->PV)(L:Nat->Blk)(o:Oper):Option EfR:=
 match o.guard with
 |some _=>none
 |none=>match o.dst with
   |some _=>none
   |none=>match o.op with
     | .store T x y=>match evP F x with
       | .own i b off=>match L i with
         | .box b' T0 cs=>match lkT tb T with
           |some ti=>match evP F y with
             | .agg ps=>match Df_ ps with
               |true=>match all1 ps with
                 |true=>match AK ps.length ti.size with
                   |true=>match Nat.ble (off+ti.size) cs.length with
                     |true=>match evL (cs.take off++(ps++cs.drop (off+ti.size))) with
                       |some cs'=>some ⟨F,lups L i (.box b T0 cs'),some (b',b)⟩
                       |none=>none
                     |false=>none
                   |false=>none
                 |false=>none
               |false=>none
             |v=>match AK ti.size 1 with
               |true=>match evS v with
                 |some p=>match p.one with
                   |true=>match EK off cs.length with
                     |true=>match evL (cs.set off p) with
                       |some cs'=>some ⟨F,lups L i (.box b T0 cs'),some (b',b)⟩
                       |none=>none
                     |false=>none
                   |false=>none
                 |none=>none
               |false=>none
           |none=>none
         |_=>none
       |_=>none
     |_=>none
def kindE(o:Op):Nat:=
 match o with
 | .alloc _=>0
 | .box _ _=>0
 | .store _ _ _=>1
 |_=>2
def runE(tb:Tb)(n:Nat):Nat->List Nat->(Nat->Nat)->Cf->List Kt->(Nat->PV)->(Nat->Blk)->List Prop->List Nat->List Nat->Option RR
 |0,_,_,c,ks,F,L,ps,as0,bs=>frcP ps λps=>frcN as0 λas0=>frcN bs λbs=>some ⟨c,ks,F,L,ps,as0,bs⟩
 |k+1,is,B,c,ks,F,L,ps,as0,bs=>
   match c with
   | .ops all (o::rest)=>match kindE o.op with
     |0=>match is with
       |[]=>none
       |i::is=>match mkE tb n i (B 0) F L o with
         |some ⟨F,L,_⟩=>runE tb n k is (λi=>B (i+1)) (.ops all rest) ks F L ps as0 bs
         |none=>none
     |1=>match stE tb F L o with
       |some ⟨F,L,e⟩=>match e with
         |some (a,b)=>runE tb n k is B (.ops all rest) ks F L ps (a::as0) (b::bs)
         |none=>none
       |none=>none
     |_=>match run tb n 1 (.ops all (o::rest)) ks F L ps as0 bs with
       |some ⟨c,ks,F,L,ps,as0,bs⟩=>runE tb n k is B c ks F L ps as0 bs
       |none=>none
   |c=>match run tb n 1 c ks F L ps as0 bs with
     |some ⟨c,ks,F,L,ps,as0,bs⟩=>runE tb n k is B c ks F L ps as0 bs
     |none=>none
theorem mkE_ok{tb:Tb}(ht:tbB P tb=true){i:Nat}{F:Nat->PV}{L:Nat->Blk}{o:Oper}(h:∀ b,∃ r,mkE tb n i b F L o=some r/\Hd P n N H0 Q (.ops all rest) ks ⟨r.F,r.L⟩):Hd P n N H0 Q (.ops all (o::rest)) ks ⟨F,L⟩:=by
 obtain⟨dst,op,ty,pos,af,g⟩:=o;have h0:=h 0
 cases g with
 |some q=>obtain⟨r,h1,_⟩:=h0;simp[mkE] at h1
 |none=>
   cases dst with
   |none=>obtain⟨r,h1,_⟩:=h0;simp[mkE] at h1
   |some d=>
     cases hd:EK d n with
     |false=>obtain⟨r,h1,_⟩:=h0;simp[mkE,hd] at h1
     |true=>
       cases op with
       |alloc T=>
         simp only[mkE,hd] at h
         cases hti:lkT tb T with
         |none=>rw[hti] at h;obtain⟨r,h1,_⟩:=h 0;simp at h1
         |some ti=>
           rw[hti] at h
           simp only at h
           cases hz:evL ti.zero with
           |none=>rw[hz] at h;obtain⟨r,h1,_⟩:=h 0;simp at h1
           |some zs=>
             rw[hz] at h
             simp only at h
             cases hn:Df_ zs with
             |false=>rw[hn] at h;obtain⟨r,h1,_⟩:=h 0;simp at h1
             |true=>
               rw[hn] at h
               refine ef (alloc ht i hti hz hn hd λb=>?_)
               obtain⟨r,h1,h2⟩:=h b
               grind
       |box T x=>
         simp only[mkE,hd] at h
         split at h
         . rename_i cs hx
           cases hn:Df_ cs with
           |false=>rw[hn] at h;obtain⟨r,h1,_⟩:=h 0;simp at h1
           |true=>
             rw[hn] at h
             refine ef (boxA i hx hn hd λb=>?_)
             obtain⟨r,h1,h2⟩:=h b
             grind
         . cases hs:evS (evP F x) with
           |none=>rw[hs] at h;obtain⟨r,h1,_⟩:=h 0;simp at h1
           |some p=>
             rw[hs] at h
             simp only at h
             cases ho:p.one with
             |false=>rw[ho] at h;obtain⟨r,h1,_⟩:=h 0;simp at h1
             |true=>
               rw[ho] at h
               refine ef (box1 i hs ho hd λb=>?_)
               obtain⟨r,h1,h2⟩:=h b
               grind
       |_=>obtain⟨r,h1,_⟩:=h0;simp[mkE,hd] at h1
theorem stE_ok{tb:Tb}(ht:tbB P tb=true){F:Nat->PV}{L:Nat->Blk}{o:Oper}{r:EfR}(h:stE tb F L o=some r)(he:∀ q,r.eq=some q->q.1=q.2)(k:Hd P n N H0 Q (.ops all rest) ks ⟨r.F,r.L⟩):Hd P n N H0 Q (.ops all (o::rest)) ks ⟨F,L⟩:=by
 obtain⟨dst,op,ty,pos,af,g⟩:=o
 cases g with
 |some q=>simp[stE] at h
 |none=>
   cases dst with
   |some d=>simp[stE] at h
   |none=>
     cases op with
     |store T x y=>
       simp only[stE] at h
       split at h
       . rename_i i b off hx
         split at h
         . rename_i b' T0 cs hb
           split at h
           . rename_i ti hti
             split at h
             . rename_i ps hy
               split at h
               . rename_i hn
                 split at h
                 . rename_i ho
                   split at h
                   . rename_i hsz
                     split at h
                     . rename_i hl
                       split at h
                       . rename_i cs' hc
                         simp only[Option.some.injEq] at h
                         subst h
                         exact ef (storeA ht hx hb hti hy hn ho (AH hsz) hl (he _ Z) hc k)
                       . cases h
                     . cases h
                   . cases h
                 . cases h
               . cases h
             . split at h
               . rename_i hsz
                 split at h
                 . rename_i p hs
                   split at h
                   . rename_i ho
                     split at h
                     . rename_i hl
                       split at h
                       . rename_i cs' hc
                         simp only[Option.some.injEq] at h
                         subst h
                         exact ef (store1 ht hx hb hti (AH hsz) hs ho hl (he _ Z) hc k)
                       . cases h
                     . cases h
                   . cases h
                 . cases h
               . cases h
           . cases h
         . cases h
       . cases h
     |_=>simp[stE] at h
def okR(P:Program)(n:Nat)(N:Rest)(H0:Env)(Q:Qs)(r:RR):Prop:=AllP r.ps/\r.as0=r.bs/\Hd P n N H0 Q r.c r.ks ⟨r.F,r.L⟩
theorem runE_ok{tb:Tb}(ht:tbB P tb=true):∀ (k:Nat) (is:List Nat) (c:Cf) (ks:List Kt) (F:Nat->PV) (L:Nat->Blk) (ps:List Prop) (as0 bs:List Nat),(∀ B:Nat->Nat,∃ r,runE tb n k is B c ks F L ps as0 bs=some r/\okR P n N H0 Q r)->AllP ps/\as0=bs/\Hd P n N H0 Q c ks ⟨F,L⟩:=by
 intro k
 induction k with
 |zero=>
   intro is c ks F L ps as0 bs h
   obtain⟨r,h1,h2,h3,h4⟩:=h (λ_=>0)
   simp only[runE,Vy_,Z5_,Option.some.injEq] at h1
   grind
 |succ k ih=>
   intro is c ks F L ps as0 bs h
   have one:(∀ B:Nat->Nat,∃ r,(match run tb n 1 c ks F L ps as0 bs with
       |some ⟨c,ks,F,L,ps,as0,bs⟩=>runE tb n k is B c ks F L ps as0 bs
       |none=>none)=some r/\okR P n N H0 Q r)->AllP ps/\as0=bs/\Hd P n N H0 Q c ks ⟨F,L⟩:=by
     intro h
     cases hr:run tb n 1 c ks F L ps as0 bs with
     |none=>obtain⟨r,h1,_⟩:=h (λ_=>0);rw[hr] at h1;cases h1
     |some q=>
       obtain⟨c',ks',F',L',ps',as',bs'⟩:=q
       obtain⟨i1,i2,i3⟩:=ih is c' ks' F' L' ps' as' bs' (λB=>by obtain⟨r,h1,h2⟩:=h B;rw[hr] at h1;exact⟨r,h1,h2⟩)
       obtain⟨j1,j2,j3⟩:=run_ok ht (Q:=Q) (N:=N) (H0:=H0) 1 c ks F L ps as0 bs _ hr i1 i2
       grind
   cases c with
   |code c=>exact one h
   |ex e=>exact one h
   |ops all l=>
     cases l with
     |nil=>exact one h
     |cons o rest=>
       simp only[runE] at h
       split at h
       . cases is with
         |nil=>obtain⟨r,h1,_⟩:=h (λ_=>0);cases h1
         |cons i is=>
           have hb:∀ b,∃ r,mkE tb n i b F L o=some r/\AllP ps/\as0=bs/\Hd P n N H0 Q (.ops all rest) ks ⟨r.F,r.L⟩:=by
             intro b
             cases hm:mkE tb n i b F L o with
             |none=>obtain⟨r,h1,_⟩:=h (λ_=>b);simp only[hm] at h1;cases h1
             |some q=>
               obtain⟨F',L',e⟩:=q
               refine⟨_,rfl,ih is (.ops all rest) ks F' L' ps as0 bs λB=>?_⟩
               obtain⟨r,h1,h2⟩:=h (λj=>match j with|0=>b|j+1=>B j)
               grind
           obtain⟨_,_,q1,q2,_⟩:=hb 0
           exact⟨q1,q2,mkE_ok ht λb=>by obtain⟨r,h1,_,_,h2⟩:=hb b;exact⟨r,h1,h2⟩⟩
       . cases hs:stE tb F L o with
         |none=>obtain⟨r,h1,_⟩:=h (λ_=>0);rw[hs] at h1;cases h1
         |some q=>
           obtain⟨F',L',e⟩:=q
           cases e with
           |none=>obtain⟨r,h1,_⟩:=h (λ_=>0);rw[hs] at h1;cases h1
           |some ab=>
             obtain⟨a,b⟩:=ab
             obtain⟨i1,i2,i3⟩:=ih is (.ops all rest) ks F' L' ps (a::as0) (b::bs) (λB=>by obtain⟨r,h1,h2⟩:=h B;rw[hs] at h1;exact⟨r,h1,h2⟩)
             simp only[List.cons.injEq] at i2
             exact⟨i1,i2.2,stE_ok ht hs (λq hq=>by cases hq;exact i2.1) i3⟩
       . exact one h
theorem gmp{tb:Tb}(ht:tbB P tb=true)(k:Nat)(is:List Nat){c c':Cf}{ks':List Kt}{F':(Nat->Nat)->Nat->PV}{L':(Nat->Nat)->Nat->Blk}{ps:(Nat->Nat)->List Prop}{as0 bs:(Nat->Nat)->List Nat}(h:∀ B,runE tb n k is B c ks fF fL [] [] []=some ⟨c',ks',F' B,L' B,ps B,as0 B,bs B⟩)(he:∀ B,as0 B=bs B)(hp:∀ B,AllP (ps B))(next :∀ B:Nat->Nat,Hd P n N H0 Q c' ks' ⟨F' B,L' B⟩):Hd P n N H0 Q c ks ⟨fF,fL⟩:=
 (runE_ok ht k is c ks fF fL [] [] [] λB=>⟨_,h B,hp B,he B,next B⟩).2.2
theorem gx{tb:Tb}(ht:tbB P tb=true)(k:Nat){c c':Cf}{ks':List Kt}{F':Nat->PV}{L':Nat->Blk}{as0 bs:List Nat}(next :Hd P n N H0 Q c' ks' ⟨F',L'⟩)(h:run tb n k c ks fF fL [] [] []=some ⟨c',ks',F',L',[],as0,bs⟩:=by exact Z)(he:as0=bs:=by exact Z):Hd P n N H0 Q c ks ⟨fF,fL⟩:=go ht k h he U next
theorem gm{tb:Tb}(ht:tbB P tb=true)(k:Nat)(is:List Nat){c c':Cf}{ks':List Kt}{F':(Nat->Nat)->Nat->PV}{L':(Nat->Nat)->Nat->Blk}{as0 bs:(Nat->Nat)->List Nat}(next :∀ B:Nat->Nat,Hd P n N H0 Q c' ks' ⟨F' B,L' B⟩)(h:∀ B,runE tb n k is B c ks fF fL [] [] []=some ⟨c',ks',F' B,L' B,[],as0 B,bs B⟩:=by exact λ_=>rfl)(he:∀ B,as0 B=bs B:=by exact λ_=>rfl):Hd P n N H0 Q c ks ⟨fF,fL⟩:=gmp ht k is h he (λ_=>trivial) next
abbrev jIn(xs:List Nat)(j:Option Nat):Bool:=match j with|none=>true|some j=>memB xs j
theorem sA{tb:Tb}{ti:TI}{i b b' off T0:Nat}{cs ps cs':List PV}(ht:tbB P tb=true)(k:K ⟨fF,lups fL i (.box b T0 cs')⟩)(hx:evP fF x = .own i b off:=by exact Z)(hb:fL i = .box b' T0 cs:=by exact Z)(hti:lkT tb T=some ti:=by exact Z)(hy:evP fF y = .agg ps:=by exact Z)(hn:Df_ ps=true:=by exact Z)(ho:all1 ps=true:=by exact Z)(hsz:ps.length=ti.size:=by exact Z)(hl:Nat.ble (off+ti.size) cs.length=true:=by exact Z)(hbb:b'=b:=by exact Z)(hc:evL (cs.take off++(ps++cs.drop (off+ti.size)))=some cs':=by exact Z):E1 P n N H0 all ⟨none, .store T x y,ty,pos,af,none⟩ (some i) ⟨fF,fL⟩ K:=storeA ht hx hb hti hy hn ho hsz hl hbb hc k
theorem sO{tb:Tb}{ti:TI}{i b b' off T0:Nat}{cs cs':List PV}{p:PV}(ht:tbB P tb=true)(k:K ⟨fF,lups fL i (.box b T0 cs')⟩)(hx:evP fF x = .own i b off:=by exact Z)(hb:fL i = .box b' T0 cs:=by exact Z)(hti:lkT tb T=some ti:=by exact Z)(hsz:ti.size=1:=by exact Z)(hy:evS (evP fF y)=some p:=by exact Z)(ho:p.one=true:=by exact Z)(hl:Nat.blt off cs.length=true:=by exact Z)(hbb:b'=b:=by exact Z)(hc:evL (cs.set off p)=some cs':=by exact Z):E1 P n N H0 all ⟨none, .store T x y,ty,pos,af,none⟩ (some i) ⟨fF,fL⟩ K:=store1 ht hx hb hti hsz hy ho hl hbb hc k
theorem aL{tb:Tb}{ti:TI}{zs:List PV}(ht:tbB P tb=true)(i:Nat)(k:∀ b,K ⟨updp fF d (.own i b 0),lups fL i (.box b T zs)⟩)(hti:lkT tb T=some ti:=by exact Z)(hz:evL ti.zero=some zs:=by exact Z)(hn:Df_ zs=true:=by exact Z)(hd:Nat.blt d n=true:=by exact Z):E1 P n N H0 all ⟨some d, .alloc T,ty,pos,af,none⟩ (some i) ⟨fF,fL⟩ K:=alloc ht i hti hz hn hd k
theorem eC{f:FuncId}{args:List PV}{res:PV}{as0:Array Operand}{ats:Array TypeId}(h:Fn P H0.g f args res)(ha:argsP fF x as0.toList=some (f,args))(k:res.wf->K ⟨updp fF d res,fL⟩)(hd:Nat.blt d n=true:=by exact Z):E1 P n N H0 all ⟨some d, .call ⟨.value x,as0,ats⟩,ty,pos,af,none⟩ none ⟨fF,fL⟩ K:=ecall h ha hd k
theorem vE{xs:List Nat}{fuel:Nat}{listed:Array Bool}{o:Oper}{j:Option Nat}(i:Nat)(hi:nth all i=some o)(h:E1 P n N H0 all o j ⟨fF,fL⟩ (λs'=>Hv P n N H0 Q (some xs) all fuel (listed.setIfInBounds i true) ks s'))(hr:Region.ready .any all.toArray listed=[i]:=by kernel_rfl)(hj:jIn xs j=true:=by exact Z):Hv P n N H0 Q (some xs) all (fuel+1) listed ks ⟨fF,fL⟩:=ve i hi hr hj h
theorem vT{xs:Option (List Nat)}{fuel:Nat}{listed:Array Bool}{o:Oper}{j:Option Nat}(i:Nat)(hi:nth all i=some o)(h:E1 P n N H0 all o j ⟨fF,fL⟩ (λs'=>Hv P n N H0 Q none all fuel (listed.setIfInBounds i true) ks s'))(hr:Region.ready .any all.toArray listed=[i]:=by kernel_rfl)(ht:tailB all listed i=true:=by kernel_rfl):Hv P n N H0 Q xs all (fuel+1) listed ks ⟨fF,fL⟩:=vt i hi hr ht h
theorem vD{xs:Option (List Nat)}{fuel:Nat}{listed:Array Bool}(k:Hd P n N H0 Q (.ex .normal) ks ⟨fF,fL⟩)(h:Region.ready .any all.toArray listed=[]:=by kernel_rfl):Hv P n N H0 Q xs all fuel listed ks ⟨fF,fL⟩:=vdone h k
theorem aN(xs:List Nat)(m:Nat){id:Nat}{ops:Array Oper}(hmx:P.follows .mixedOrders=true)(h:Hv P n N H0 Q (some xs) ops.toList m (Array.replicate m false) ks ⟨fF,fL⟩)(hm:ops.toList.length=m:=by exact Z):Hd P n N H0 Q (.code (.region id ops true)) ks ⟨fF,fL⟩:=any xs m hmx hm h
theorem gX{tb:Tb}(ht:tbB P tb=true)(order:List Nat)(f:Nat){xs:Option (List Nat)}{fuel:Nat}{listed:Array Bool}{F':Nat->PV}{L':Nat->Blk}{as0 bs:List Nat}(next :Hv P n N H0 Q xs all f (lst listed order) ks ⟨F',L'⟩)(hf:fuel=f+order.length:=by exact Z)(hc:chkV n all order listed=true:=by kernel_rfl)(h:runV tb xs all order fF fL [] [] []=some ⟨F',L',[],as0,bs⟩:=by exact Z)(he:as0=bs:=by exact Z):Hv P n N H0 Q xs all fuel listed ks ⟨fF,fL⟩:=gov ht order f hf hc h he U next
theorem vC{xs:Option (List Nat)}{fuel:Nat}{listed:Array Bool}{f:FuncId}{args:List PV}{res:PV}{as0:Array Operand}{ats:Array TypeId}(i:Nat)(hi:nth all i=some ⟨some d, .call ⟨.value x,as0,ats⟩,ty,pos,af,none⟩)(h:Fn P H0.g f args res)(ha:argsP fF x as0.toList=some (f,args))(k:res.wf->Hv P n N H0 Q xs all fuel (listed.setIfInBounds i true) ks ⟨updp fF d res,fL⟩)(hck:(rdB all listed i&&apB n all listed i ⟨some d, .call ⟨.value x,as0,ats⟩,ty,pos,af,none⟩&&Nat.blt d n&&nosB (.call ⟨.value x,as0,ats⟩))=true:=by kernel_rfl)(hf:res.flat=true:=by exact Z):Hv P n N H0 Q xs all (fuel+1) listed ks ⟨fF,fL⟩:=vcall i hi hck h hf ha k
theorem nX{ι:Type _}{keep kL:List Nat}{G:Nat->PV}{GL:Nat->Blk}{lv:ι->List (Nat×PV)}{lL:ι->List (Nat×Blk)}{Φ:ι->Prop}{μ:ι->Nat}{m:Nat}{ks:List Kt}{Q:Qs}(x':ι)(hΦ:Φ x')(h3:AllF fF (lv x'))(h4:AllL fL (lL x'))(h1:keep.map fF=keep.map G:=by exact Z)(h2:kL.map fL=kL.map GL:=by exact Z)(hm:μ x'<m:=by decide):Hd P n N H0 Q (.ex .normal) (.lp (LJ (λx=>⟨mkF (lv x) keep G,mkL (lL x) kL GL⟩) Φ μ m)::ks) ⟨fF,fL⟩:=next x' h1 h2 h3 h4 hm hΦ
theorem cE{α:Type}{v a b:α}{c:Operand}{p q:Code}{t:Bool}(e:v = bif t then a else b)(ht:t=true->v=a->Hd P n N H0 Q (.code p) ks ⟨fF,fL⟩)(hf:t=false->v=b->Hd P n N H0 Q (.code q) ks ⟨fF,fL⟩)(hc:evP fF c = .bool t:=by exact Z):Hd P n N H0 Q (.code (.cond c p q)) ks ⟨fF,fL⟩:=cnd hc (λh=>ht h (e.trans (by rw[h];rfl))) (λh=>hf h (e.trans (by rw[h];rfl)))
theorem cD{α:Type}{v a b:α}{c:Operand}{p q:Code}{t:Prop}[Decidable t](e:v = bif decide t then a else b)(ht:t->v=a->Hd P n N H0 Q (.code p) ks ⟨fF,fL⟩)(hf:¬t->v=b->Hd P n N H0 Q (.code q) ks ⟨fF,fL⟩)(hc:evP fF c = .bool (decide t):=by exact Z):Hd P n N H0 Q (.code (.cond c p q)) ks ⟨fF,fL⟩:=cE e (λh=>ht (of_decide_eq_true h)) (λh=>hf (of_decide_eq_false h)) hc
theorem cN{α:Type}{v a b:α}{c:Operand}{p q:Code}{t:Prop}[Decidable t](e:v = bif !decide t then a else b)(ht:¬t->v=a->Hd P n N H0 Q (.code p) ks ⟨fF,fL⟩)(hf:t->v=b->Hd P n N H0 Q (.code q) ks ⟨fF,fL⟩)(hc:evP fF c = .bool (!decide t):=by exact Z):Hd P n N H0 Q (.code (.cond c p q)) ks ⟨fF,fL⟩:=cE e (λh=>ht qU) (λh=>hf qU) hc
theorem fC{tb:Tb}{G:Gb}{m:Nat}{f:FuncId}{fn:Func}{c:Code}{args:List PV}{res:PV}(hf:P.funcs[f]? = some fn)(ht:tbB P tb=true)(hn:fn.ntmps=m)(h:PV.wfs args->∀ N H,G.p H->Hd P m N ⟨H,G⟩ (rtK tb fn.results.toList res) (.code c) [] ⟨O8_ args,λ_=> .no⟩)(hb:fn.body=some c:=by exact Z)(hs:Nat.ble args.length m=true:=by exact Z)(h1:(fn.name == "runtime.NumGoroutine")=false:=by kernel_rfl)(h2:fn.body.isNone=false:=by kernel_rfl)(hno:res.noOsl=true:=by exact Z)(hna:Df_ args=true:=by exact Z):Fn P G f args res:=fn_cw ht hf hb hn hs (J_ hf h1 h2) hno hna h
variable{tb:Tb}{rs:List ResultVar}{as0 bs:List Nat}{res q0 q1 q2 q3:PV}
theorem qr1(h:Jx_ tb ⟨fF,fL⟩ rs=some ([q0],as0,bs):=by exact Z)(he:as0=bs:=by exact Z)(hp:PLe q0 res:=by exact ple Z):Hd P n N H0 (rtK tb rs res) (.ex .ret) [] ⟨fF,fL⟩:=rt1 h he hp
theorem qr2(h:Jx_ tb ⟨fF,fL⟩ rs=some ([q0,q1],as0,bs):=by exact Z)(he:as0=bs:=by exact Z)(hp:PLe (.tup [q0,q1]) res:=by exact ple Z):Hd P n N H0 (rtK tb rs res) (.ex .ret) [] ⟨fF,fL⟩:=rt2 h he hp
theorem qr3(h:Jx_ tb ⟨fF,fL⟩ rs=some ([q0,q1,q2],as0,bs):=by exact Z)(he:as0=bs:=by exact Z)(hp:PLe (.tup [q0,q1,q2]) res:=by exact ple Z):Hd P n N H0 (rtK tb rs res) (.ex .ret) [] ⟨fF,fL⟩:=rt3 h he hp
theorem qr4(h:Jx_ tb ⟨fF,fL⟩ rs=some ([q0,q1,q2,q3],as0,bs):=by exact Z)(he:as0=bs:=by exact Z)(hp:PLe (.tup [q0,q1,q2,q3]) res:=by exact ple Z):Hd P n N H0 (rtK tb rs res) (.ex .ret) [] ⟨fF,fL⟩:=rt4 h he hp
theorem cV{α β:Type}{v:β}{g:α}{kf:α->β}{f:FuncId}{args:List PV}{xs:Array Operand}{ats:Array TypeId}(e:v=lt g kf)(enc:α->PV)(h:Fn P H0.g f args (enc g))(ha:argsP fF x xs.toList=some (f,args))(k:∀ r,r=g->v=kf r->(enc r).wf->Hd P n N H0 Q (.ops all rest) ks ⟨updp fF d (enc r),fL⟩)(hd:Nat.blt d n=true:=by exact Z):Hd P n N H0 Q (.ops all (⟨some d, .call ⟨.value x,xs,ats⟩,ty,pos,af,none⟩::rest)) ks ⟨fF,fL⟩:=
 callv g enc h ha hd λr hr w=>k r hr (e.trans (A1_ hr)) w
theorem gy{tb:Tb}(ht:tbB P tb=true)(k:Nat){c c':Cf}{ks':List Kt}{F':Nat->PV}{L':Nat->Blk}{ps:List Prop}{as0 bs:List Nat}(next :Hd P n N H0 Q c' ks' ⟨F',L'⟩)(h:run tb n k c ks fF fL [] [] []=some ⟨c',ks',F',L',ps,as0,bs⟩:=by exact Z)(he:as0=bs:=by exact Z)(hp:AllP ps:=by repeat' (first|exact U|refine And.intro ?_ ?_|exact λhc=>hc|exact Z|exact λhc=>rfl|omega|(intro hc;omega)|(intro hc;rw[hc];rfl))):Hd P n N H0 Q c ks ⟨fF,fL⟩:=go ht k h he hp next
theorem gmy{tb:Tb}(ht:tbB P tb=true)(k:Nat)(is:List Nat){c c':Cf}{ks':List Kt}{F':(Nat->Nat)->Nat->PV}{L':(Nat->Nat)->Nat->Blk}{ps:(Nat->Nat)->List Prop}{as0 bs:(Nat->Nat)->List Nat}(next :∀ B:Nat->Nat,Hd P n N H0 Q c' ks' ⟨F' B,L' B⟩)(h:∀ B,runE tb n k is B c ks fF fL [] [] []=some ⟨c',ks',F' B,L' B,ps B,as0 B,bs B⟩:=by exact λ_=>rfl)(he:∀ B,as0 B=bs B:=by exact λ_=>rfl)(hp:∀ B,AllP (ps B):=by intro B;repeat' (first|exact U|refine And.intro ?_ ?_|exact λhc=>hc|exact Z|exact λhc=>rfl|omega|(intro hc;omega)|(intro hc;rw[hc];rfl))):Hd P n N H0 Q c ks ⟨fF,fL⟩:=gmp ht k is h he hp next
theorem gXy{tb:Tb}(ht:tbB P tb=true)(order:List Nat)(f:Nat){xs:Option (List Nat)}{fuel:Nat}{listed:Array Bool}{F':Nat->PV}{L':Nat->Blk}{ps:List Prop}{as0 bs:List Nat}(next :Hv P n N H0 Q xs all f (lst listed order) ks ⟨F',L'⟩)(hf:fuel=f+order.length:=by exact Z)(hc:chkV n all order listed=true:=by kernel_rfl)(h:runV tb xs all order fF fL [] [] []=some ⟨F',L',ps,as0,bs⟩:=by exact Z)(he:as0=bs:=by exact Z)(hp:AllP ps:=by repeat' (first|exact U|refine And.intro ?_ ?_|exact λhc=>hc|exact Z|exact λhc=>rfl|omega|(intro hc;omega)|(intro hc;rw[hc];rfl))):Hv P n N H0 Q xs all fuel listed ks ⟨fF,fL⟩:=gov ht order f hf hc h he hp next
end Go.SW.V
namespace Go.SW
variable{P:Program}{n:Nat}{N:Rest}{H0:Env}{all rest:List Oper}{Q:Qs}{ks:List Kt}{T ty d:Nat}{pos:String}{af:Array Edge}{x:Operand}{K:St->Prop}
def E2(P:Program)(n:Nat)(N:Rest)(H0:Env)(all:List Oper)(o:Oper)(js:List Nat)(s:St)(K:St->Prop):Prop:=
 ∀ F H L,Abs H0 s F H L->Op1 P n N all o (λF' H' L'=>HLe H H'/\(∀ q,memB js q=false->L' q=L q)/\∃ s',Abs H0 s' F' H' L'/\K s') F H L
theorem ef2{o:Oper}{js:List Nat}{s:St}(h:E2 P n N H0 all o js s (λs'=>Hd P n N H0 Q (.ops all rest) ks s')):Hd P n N H0 Q (.ops all (o::rest)) ks s:=λF H L ha=>
 ow1 ((h F H L ha).imp λF' H' L' ⟨_,_,s',h1,h2⟩=>h2 F' H' L' h1)
theorem ve2s{xs:List Nat}{fuel:Nat}{listed:Array Bool}{o:Oper}{js:List Nat}{s:St}(i:Nat)(hi:nth all i=some o)(hr:Region.ready .any all.toArray listed=[i])(hj:js.all (memB xs)=true)(h:E2 P n N H0 all o js s (λs'=>Hv P n N H0 Q (some xs) all fuel (listed.setIfInBounds i true) ks s')):Hv P n N H0 Q (some xs) all (fuel+1) listed ks s:=by
 intro F H L Lk ha hL;rw[Gm_] at hi;have hle:∀ L':Ls,(∀ q,memB js q=false->L' q=L q)->LkR (some xs) Lk L':=λL' hL' q=>by
   rw[hL q]
   cases e:memB xs q with
   |true=>rfl
   |false=>
     refine (hL' q ?_).symm
     cases e2:memB js q with
     |false=>rfl
     |true=>have :=List.all_eq_true.1 hj q (Mo_ e2);rw[e] at this;cases this
 refine vw_e i hi hr ((h F H L ha).imp λF' H' L' ⟨h1,h2,s',h3,h4⟩=>⟨⟨h1,λq x hx=>?_⟩,h4 F' H' L' Lk h3 (hle L' h2)⟩);have :=hle L' h2 q;grind
end Go.SW
namespace Go.SW
def posL:List Nat->Nat->Option Nat
 |[],_=>none
 |j::r,q=>bif AK q j then some 0 else (posL r q).map (· + 1)
theorem S7_:∀ {js:List Nat} {q a:Nat},posL js q=some a->js[a]? = some q
 |[],q,a,h=>by cases h
 |j::r,q,a,h=>by
   simp only[posL] at h
   cases e:AK q j with
   |true=>rw[e] at h;simp only[cond_true,Option.some.injEq] at h;subst h;simp[AH e]
   |false=>
     rw[e] at h;simp only[cond_false] at h
     cases e2:posL r q with
     |none=>rw[e2] at h;cases h
     |some b=>rw[e2] at h;simp only[BJ,Option.some.injEq] at h;subst h;simpa using S7_ e2
theorem Xi_:∀ {js:List Nat} {q:Nat},posL js q=none->q∉js
 |[],q,_=>by simp
 |j::r,q,h=>by
   simp only[posL] at h
   cases e:AK q j with
   |true=>rw[e] at h;cases h
   |false=>
     rw[e] at h;simp only[cond_false] at h
     have h2:posL r q=none:=by
       simp_all
     have :=Xi_ h2
     intro hm
     simp_all
theorem T4_:∀ {js:List Nat} (hn:js.Nodup) {a q:Nat} (h:js[a]? = some q),posL js q=some a
 |[],_,_,_,h=>by simp at h
 |j::r,hn,0,q,h=>by simp at h;subst h;simp[posL]
 |j::r,hn,a+1,q,h=>by
   have h':r[a]? = some q:=by simpa using h
   have hne:q≠j:=λe=>(List.nodup_cons.1 hn).1 oN
   have e:AK q j=false:=Y1_ hne
   simp only[posL,e,cond_false,T4_ (List.nodup_cons.1 hn).2 h',BJ]
theorem Vc_:∀ {js:List Nat} {q:Nat},memB js q=false->posL js q=none
 |[],_,_=>rfl
 |j::r,q,h=>by
   simp only[memB] at h
   cases e:AK q j with
   |true=>rw[e] at h;cases h
   |false=>rw[e] at h;simp only[posL,e,cond_false,Vc_ (js:=r) h];rfl
def selL(L:Ls)(js:List Nat)(M:Ls):Ls:=λq=>match posL js q with
 |some a=>M a
 |none=>L q
def offL(L:Ls)(js:List Nat):Ls:=λq=>match posL js q with
 |some _=>none
 |none=>L q
def N6_(L:Ls)(js:List Nat):Ls:=λa=>match js[a]? with
 |some i=>L i
 |none=>none
theorem Kv_{L:Ls}{js:List Nat}{q:Nat}{x:Nat×Obj}(h:offL L js q=some x):posL js q=none/\L q=some x:=by
 unfold offL at h;grind
theorem Le_{L:Ls}{js:List Nat}{a:Nat}{x:Nat×Obj}(h:N6_ L js a=some x):∃ i,js[a]? = some i/\L i=some x:=by
 unfold N6_ at h;grind
theorem mem_pick{N:Rest}{H:Hp}{L:Ls}{w:World}{js:List Nat}(h:Mem N H L w)(hn:js.Nodup):Mem (N.plus (offL L js)) H (N6_ L js) w:=by
 refine h.frame _ _ (λa x hx=>?_) (λq x hx=>⟨q,(Kv_ hx).2⟩) (λa b x y hx hy e=>?_) (λp q x y hx hy e=>h.inj p q x y (Kv_ hx).2 (Kv_ hy).2 e) (λa q x y hx hy e=>?_);obtain⟨i,_,h2⟩:=Le_ hx;exact⟨i,h2⟩;obtain⟨i,h1,h2⟩:=Le_ hx;obtain⟨j,h3,h4⟩:=Le_ hy;have :i=j:=h.inj i j x y h2 h4 e;subst this;have :=(T4_ hn h1).symm.trans (T4_ hn h3);grind
 . obtain⟨i,h1,h2⟩:=Le_ hx
   obtain⟨h3,h4⟩:=Kv_ hy
   have :i=q:=h.inj i q x y h2 h4 e
   subst this
   rw[T4_ hn h1] at h3;cases h3
theorem mem_sel{N:Rest}{H H':Hp}{L M:Ls}{w w':World}{js:List Nat}(h:Mem N H L w)(hn:js.Nodup)(k:Mem (N.plus (offL L js)) H' M w'):Mem N H' (selL L js M) w':=by
 have hinj:∀ (p q:Nat) (x y:Nat×Obj),offL L js p=some x->offL L js q=some y->x.1=y.1->p=q:=λp q x y hp hq e=>h.inj p q x y (Kv_ hp).2 (Kv_ hq).2 e;have hnb:∀ b o,N.heap b=some o->∀ (q:Nat) (x:Nat×Obj),offL L js q=some x->x.1≠b:=λb o hb q x hq=>h.nBoth b o hb q x (Kv_ hq).2;have hsub:Mem N H (offL L js) w:=h.sub (λq x hq=>⟨q,(Kv_ hq).2⟩) hinj;have hdis:∀ {a:Nat} {x:Nat×Obj} {q:Nat} {y:Nat×Obj},M a=some x->offL L js q=some y->x.1≠y.1:=λ{a x q y} ha hq e=>by
   obtain⟨xb,xo⟩:=x
   obtain⟨yb,yo⟩:=y
   have e':xb=yb:=e
   have h1:=(k.nl a xb xo ha).1
   have :(N.plus (offL L js)).heap yb=some yo:=Rest.plus_of hsub (i:=q) hq
   grind
 have hoff:∀ {q:Nat},posL js q=none->offL L js q=L q:=λ{q} e=>by unfold offL;rw[e]
 refine h.unframe (Lr:=offL L js) (λq x hq=>⟨q,(Kv_ hq).2⟩) hinj k (λq x hq=>?_) (λp q x y hp hq e=>?_) hnb;unfold selL at hq;grind
 . unfold selL at hp hq
   cases e1:posL js p with
   |some a=>
     rw[e1] at hp
     cases e2:posL js q with
     |some b=>
       rw[e2] at hq
       have :a=b:=k.inj a b x y hp hq e
       subst this
       have h1:=S7_ e1
       have h2:=S7_ e2
       grind
     |none=>rw[e2] at hq;exact (hdis hp ((hoff e2).trans hq) e).elim
   |none=>
     grind
def lofB(Bs:List Blk):Nat->Blk:=λq=>match nth Bs q with
 |some B=>B
 |none=> .no
def renP(js:List Nat):PV->PV
 | .osl l=>match nth js l with
   |some j=> .osl j
   |none=> .junk
 | .own l b o=>match nth js l with
   |some j=> .own j b o
   |none=> .junk
 |p=>p
def renB(js:List Nat):Blk->Blk
 | .box b T cs=> .box b T (cs.map (renP js))
 |B=>B
def renR(js:List Nat):PV->PV
 | .tup vs=> .tup (vs.map (renP js))
 |p=>renP js p
theorem ren_sim{js:List Nat}{H:Hp}{p:PV}{v:Value}(h:Sim H p v):Sim H (renP js p) v:=by
 cases p with
 |osl l=>simp only[renP];cases nth js l<;>first|exact .osl|exact .junk
 |own l b o=>
   have :=h.inv_own
   subst this
   simp only[renP];cases nth js l<;>first|exact .own|exact .junk
 |_=>exact h
theorem Vg_{js:List Nat}{H:Hp}{p:PV}{v:Value}(hl:∀ l b o,p = .own l b o->nth js l≠none)(h:Sim H (renP js p) v):Sim H p v:=by
 cases p with
 |osl l=>exact .osl
 |own l b o=>
   simp only[renP] at h
   cases e:nth js l with
   |none=>exact (hl l b o Z e).elim
   |some j=>
     rw[e] at h
     have :=h.inv_own
     subst this
     exact .own
 |_=>exact h
theorem renR_sim{js:List Nat}{H:Hp}{p:PV}{v:Value}(h:Sim H p v):Sim H (renR js p) v:=by
 cases p with
 |tup vs=>
   cases h with
   |tup hl hh=>
     refine .tup qN λi q u hq hu=>?_
     rw[AR] at hq
     cases e:vs[i]? with
     |none=>rw[e] at hq;cases hq
     |some z=>rw[e] at hq;cases hq;exact ren_sim (hh i z u e hu)
 |_=>exact ren_sim (js:=js) h
theorem ren_simT{js:List Nat}{Bs:List Blk}{L:Nat->Blk}{H:Hp}(hL:∀ l j,nth js l=some j->L j=renB js (lofB Bs l)){p:PV}{v:Value}(h:SimT (lofB Bs) H p v):SimT L H (renP js p) v:=by
 cases p with
 |osl l=>
   simp only[renP]
   cases e:nth js l with
   |none=>exact Sim.junk
   |some j=>
     simp only[SimT,hL l j e] at h ⊢
     generalize lofB Bs l=B at *
     cases B<;>exact h
 |own l b o=>
   have :=Sim.inv_own (show Sim H (.own l b o) v from h)
   subst this
   simp only[renP];cases nth js l<;>first|exact Sim.own|exact Sim.junk
 |_=>exact h
theorem ren_simT_back{js:List Nat}{Bs:List Blk}{L:Nat->Blk}{H:Hp}(hL:∀ l j,nth js l=some j->lofB Bs l = .no\/L j=renB js (lofB Bs l)){p:PV}{v:Value}(hl:∀ l,(∃ b o,p = .own l b o)\/p = .osl l->nth js l≠none)(h:SimT L H (renP js p) v):SimT (lofB Bs) H p v:=by
 cases p with
 |osl l=>
   simp only[renP] at h
   cases e:nth js l with
   |none=>exact (hl l (.inr Z) e).elim
   |some j=>
     rw[e] at h
     rcases hL l j e with h1|h1
     . simp only[SimT,h1]
     . simp only[SimT,h1] at h ⊢
       generalize lofB Bs l=B at *
       cases B<;>exact h
 |own l b o=>
   simp only[renP] at h
   cases e:nth js l with
   |none=>exact (hl l (.inl ⟨b,o,rfl⟩) e).elim
   |some j=>
     rw[e] at h
     have :=Sim.inv_own (show Sim H (.own j b o) v from h)
     subst this
     exact Sim.own
 |_=>exact h
theorem renB_simB{js:List Nat}{Bs:List Blk}{L:Nat->Blk}{H:Hp}(hL:∀ l j,nth js l=some j->L j=renB js (lofB Bs l)){B:Blk}{x:Option (Nat×Obj)}(h:SimB (lofB Bs) H B x):SimB L H (renB js B) x:=by
 cases B with
 |box b T cs=>
   obtain⟨vs,h1,h2,h3⟩:=h
   refine⟨vs,h1,by simpa using h2,λi p v hp hv=>?_⟩
   rw[AR] at hp
   cases e:cs[i]? with
   |none=>rw[e] at hp;cases hp
   |some z=>rw[e] at hp;cases hp;exact ren_simT hL (h3 i z v e hv)
 |_=>exact h
def BLe:List Blk->List Blk->Prop
 |[],[]=>True
 |B::r,C::q=>(C = .no\/B=C)/\BLe r q
 |_,_=>False
theorem BLe.get:∀ {Bs Cs:List Blk} {a:Nat} {B C:Blk},BLe Bs Cs->Bs[a]? = some B->Cs[a]? = some C->C = .no\/B=C
 |[],_,_,_,_,_,hB,_=>by simp at hB
 |_::_,[],_,_,_,_,_,hC=>by simp at hC
 |B::r,C::q,a,D,E,h,hB,hC=>by
   cases a with
   |zero=>simp at hB hC;subst hB;subst hC;exact h.1
   |succ a=>exact BLe.get h.2 (by simpa using hB) (by simpa using hC)
theorem BLe.len:∀ {Bs Cs:List Blk},BLe Bs Cs->Bs.length=Cs.length
 |[],[],_=>rfl
 |_::_,[],h=>h.elim
 |[],_::_,h=>h.elim
 |_::r,_::q,h=>by simp only[A3];rw[BLe.len h.2]
theorem renB_no{js:List Nat}{B:Blk}(h:renB js B = .no):B = .no:=by cases B<;>first|rfl|(simp[renB] at h)
theorem ble_at{js:List Nat}{L:Nat->Blk}{Bs:List Blk}(h:BLe (js.map L) (Bs.map (renB js))):∀ l j,nth js l=some j->lofB Bs l = .no\/L j=renB js (lofB Bs l):=λl j hlj=>by
 rw[Gm_] at hlj
 have e1:(js.map L)[l]? = some (L j):=by rw[AR,hlj];rfl
 unfold lofB
 rw[Gm_]
 cases e:Bs[l]? with
 |none=>exact .inl Z
 |some B=>
   have e2:(Bs.map (renB js))[l]? = some (renB js B):=by rw[AR,e];rfl
   rcases h.get e1 e2 with q|q
   . exact .inl (renB_no q)
   . exact .inr q
def inP(m:Nat):PV->Bool
 | .osl l=>EK l m
 | .own l _ _=>EK l m
 |_=>true
def inPs(m:Nat):List PV->Bool
 |[]=>true
 |p::r=>bif inP m p then inPs m r else false
def inB(m:Nat):Blk->Bool
 | .box _ _ cs=>inPs m cs
 |_=>true
def inBs(m:Nat):List Blk->Bool
 |[]=>true
 |B::r=>bif inB m B then inBs m r else false
theorem Sk_{m:Nat}:∀ {ps:List PV} {i:Nat} {p:PV},inPs m ps=true->ps[i]? = some p->inP m p=true
 |[],_,_,_,h=>by simp at h
 |q::r,i,p,h,hp=>by
   simp only[inPs] at h
   cases e:inP m q with
   |false=>rw[e] at h;cases h
   |true=>
     rw[e] at h
     cases i with
     |zero=>simp at hp;subst hp;exact e
     |succ i=>exact Sk_ h (by simpa using hp)
theorem U5_{m:Nat}:∀ {Bs:List Blk} {i:Nat} {B:Blk},inBs m Bs=true->Bs[i]? = some B->inB m B=true
 |[],_,_,_,h=>by simp at h
 |q::r,i,p,h,hp=>by
   simp only[inBs] at h
   cases e:inB m q with
   |false=>rw[e] at h;cases h
   |true=>
     rw[e] at h
     cases i with
     |zero=>simp at hp;subst hp;exact e
     |succ i=>exact U5_ h (by simpa using hp)
theorem V6_{js:List Nat}{p:PV}(h:inP js.length p=true):∀ l,(∃ b o,p = .own l b o)\/p = .osl l->nth js l≠none:=by
 intro l hl e;rw[Gm_,List.getElem?_eq_none_iff] at e;have :l<js.length:=by
   rcases hl with ⟨b,o,rfl⟩|rfl
   . simpa [inP] using h
   . simpa [inP] using h
 omega
theorem Xm_{js:List Nat}{Bs:List Blk}{L:Nat->Blk}{H:Hp}(hL:∀ l j,nth js l=some j->lofB Bs l = .no\/L j=renB js (lofB Bs l)){B:Blk}(hb:inB js.length B=true){x:Option (Nat×Obj)}(h:SimB L H (renB js B) x):SimB (lofB Bs) H B x:=by
 cases B with
 |box b T cs=>
   obtain⟨vs,h1,h2,h3⟩:=h
   refine⟨vs,h1,by simpa using h2,λi p v hp hv=>?_⟩
   exact ren_simT_back hL (V6_ (Sk_ hb hp)) (h3 i (renP js p) v pU hv)
 |_=>exact h
def purgeJ(js:List Nat):PV->PV
 | .osl i=>bif memB js i then .junk else .osl i
 |p=>p
def purgeJB(js:List Nat):Blk->Blk
 | .box b T cs=> .box b T (cs.map (purgeJ js))
 |B=>B
def Xk_(js:List Nat)(F:Nat->PV):Nat->PV:=λt=>purgeJ js (F t)
def putL:List Nat->List Blk->(Nat->Blk)->Nat->Blk
 |j::js,B::Bs,L=>lups (putL js Bs L) j B
 |_,_,L=>L
def newL(js:List Nat)(Bs:List Blk)(L:Nat->Blk):Nat->Blk:=putL js (Bs.map (renB js)) (λt=>purgeJB js (L t))
theorem putL_at:∀ {js:List Nat} {Bs:List Blk} {L:Nat->Blk} {a j:Nat},js.Nodup->js.length=Bs.length->js[a]? = some j->∃ B,Bs[a]? = some B/\putL js Bs L j=B
 |[],_,_,_,_,_,_,h=>by simp at h
 |_::_,[],_,_,_,_,h,_=>by simp at h
 |i::js,B::Bs,L,a,j,hn,hl,h=>by
   cases a with
   |zero=>simp at h;subst h;exact⟨B,rfl,by simp only[putL,C1_]⟩
   |succ a=>
     have h':js[a]? = some j:=by simpa using h
     obtain⟨C,h1,h2⟩:=putL_at (L:=L) (List.nodup_cons.1 hn).2 qN h'
     have :j≠i:=λe=>(List.nodup_cons.1 hn).1 oN
     exact⟨C,by simpa using h1,by simp only[putL,F2_ _ _ _ _ this];exact h2⟩
theorem putL_off:∀ {js:List Nat} {Bs:List Blk} {L:Nat->Blk} {q:Nat},q∉js->putL js Bs L q=L q
 |[],_,_,_,_=>by simp only[putL]
 |_::_,[],_,_,_=>by simp only[putL]
 |i::js,B::Bs,L,q,h=>by
   have h1:q≠i:=λe=>h (by rw[e];exact AJ)
   simp only[putL,F2_ _ _ _ _ h1]
   exact putL_off λe=>h (AC _ e)
variable{P:Program}{n:Nat}{N:Rest}{H0:Env}{all rest:List Oper}{Q:Qs}{ks:List Kt}{T ty d:Nat}{pos:String}{af:Array Edge}{x:Operand}{K:St->Prop}
theorem newL_at{js:List Nat}{Bs:List Blk}{L:Nat->Blk}(hn:js.Nodup)(hl:js.length=Bs.length){l j:Nat}(h:nth js l=some j):newL js Bs L j=renB js (lofB Bs l):=by
 rw[Gm_] at h;obtain⟨B,h1,h2⟩:=putL_at (L:=λt=>purgeJB js (L t)) hn (show js.length=(Bs.map (renB js)).length by simpa using hl) h;rw[AR] at h1
 cases e:Bs[l]? with
 |none=>rw[e] at h1;cases h1
 |some C=>
   rw[e] at h1;cases h1
   unfold newL lofB
   rw[h2,Gm_,e]
theorem purgeJ_ok{js:List Nat}{Bs:List Blk}{L:Nat->Blk}{H:Hp}{p:PV}{v:Value}(h:SimT L H p v):SimT (newL js Bs L) H (purgeJ js p) v:=by
 cases p with
 |osl i=>
   simp only[purgeJ]
   cases e:memB js i with
   |true=>exact Sim.junk
   |false=>
     have :i∉js:=Xi_ (Vc_ e)
     simp only[SimT,cond_false,newL,putL_off this] at h ⊢
     generalize L i=C at *
     cases C<;>exact h
 |_=>exact h
theorem Abs.turnJ{s:St}{F:Fr}{H:Hp}{L M:Ls}{js:List Nat}{Bs:List Blk}(ha:Abs H0 s F H L)(hn:js.Nodup)(hl:js.length=Bs.length)(hM:∀ (a:Nat) B,Bs[a]? = some B->SimB (lofB Bs) H B (M a)):Abs H0 ⟨Xk_ js s.F,newL js Bs s.L⟩ F H (selL L js M):=by
 refine⟨ha.le,ha.g,λt=>purgeJ_ok (ha.f t),λq=>?_⟩;show SimB (newL js Bs s.L) H (newL js Bs s.L q) (selL L js M q);unfold selL
 cases e:posL js q with
 |some a=>
   have h1:=S7_ e
   have h2:nth js a=some q:=by rw[Gm_];exact h1
   rw[newL_at hn hl h2]
   have h3:a<Bs.length:=by rw[<- hl];exact (List.getElem?_eq_some_iff.1 h1).1
   have h4:lofB Bs a=Bs[a]:=by unfold lofB;rw[Gm_,A7 h3]
   rw[h4]
   exact renB_simB (λl j h=>newL_at hn hl h) (hM a _ (A7 h3))
 |none=>
   have h1:=Xi_ e
   have h2:=ha.l q
   simp only[]
   rw[show newL js Bs s.L q=purgeJB js (s.L q) from putL_off h1]
   generalize s.L q=C at *
   cases C with
   |box b T cs=>
     obtain⟨vs,g1,g2,g3⟩:=h2
     refine⟨vs,g1,by simpa using g2,λi p v hp hv=>?_⟩
     rw[AR] at hp
     cases e3:cs[i]? with
     |none=>rw[e3] at hp;cases hp
     |some z=>rw[e3] at hp;cases hp;exact purgeJ_ok (g3 i z v e3 hv)
   |no=>trivial
   |arr u k e enc xs=>exact h2
   |itr b s p=>exact h2
   |ob b o=>exact h2
def Q5_:List Nat->Bool
 |[]=>true
 |j::r=>bif memB r j then false else Q5_ r
theorem memB_of{t:Nat}:∀ {ts:List Nat},t∈ts->memB ts t=true
 |s::r,h=>by
   simp only[memB]
   cases e:AK t s with
   |true=>rfl
   |false=>
     rcases List.mem_cons.1 h with q|q
     . subst q;simp at e
     . exact memB_of q
theorem S1_:∀ {js:List Nat},Q5_ js=true->js.Nodup
 |[],_=>List.nodup_nil
 |j::r,h=>by
   simp only[Q5_] at h
   cases e:memB r j with
   |true=>rw[e] at h;cases h
   |false=>rw[e] at h;exact List.nodup_cons.2 ⟨λq=>(by rw[memB_of q] at e;cases e),S1_ h⟩
structure Fg{ι:Type}(P:Program)(G:Gb)(f:FuncId)(args:List PV)(pre:List Blk)(Φ:ι->Prop)(res:ι->PV)(post:ι->List Blk):Prop where
 cb:S_ P f
 run:∀ (N:Rest) (H:Hp) (L:Ls) (w:World) (js:List Nat) (vs:List Value),G.p H->Sims H args vs->js.Nodup->js.length=pre.length->(∀ (a:Nat) B,pre[a]? = some B->SimB (lofB pre) H B (N6_ L js a))->Mem N H L w ->
   Calls P f vs.toArray w λen w'=>∃ g H' M v,en = .returned v/\Φ g/\Sim H' (res g) v/\(∀ (a:Nat) B,(post g)[a]? = some B->SimB (lofB (post g)) H' B (M a))/\HLe H H'/\Mem N H' (selL L js M) w'
theorem PV.wf_rows{α:Type}{enc:α->List PV}{k:Nat}{H:Hp}:∀ {xs:List α} {cs:List Value},Rl (RowE enc k) H xs cs->∀ x∈xs,PV.wfs (enc x)
 |[],_,_,x,hx=>by cases hx
 |y::xs,cs,h,x,hx=>by
   obtain⟨c1,c2,_,h1,h2⟩:=h
   rcases List.mem_cons.1 hx with e|e
   . subst e;exact h1.2.1.wf
   . exact PV.wf_rows h2 x e
theorem PV.wf_row{α:Type}{enc:α->List PV}{k:Nat}{H:Hp}{xs:List α}{cs:List Value}(h:Rl (RowE enc k) H xs cs)(hl:xs.length<=140737488355328):PV.wf (.sl enc xs):=by
 simp only[PV.wf];exact⟨hl,PV.wf_rows h⟩
def Blk.wf:Blk->Prop
 | .box _ _ cs=>PV.wfs cs
 | .arr _ _ _ enc xs=>PV.wf (.sl enc xs)
 |_=>True
def Blk.wfs:List Blk->Prop
 |[]=>True
 |B::r=>B.wf/\Blk.wfs r
theorem Blk.wf_of{L:Nat->Blk}{H:Hp}{B:Blk}{x:Option (Nat×Obj)}(h:SimB L H B x):B.wf:=by
 cases B with
 |box b T cs=>obtain⟨vs,_,h2⟩:=h;exact h2.sims.wf
 |arr u k e enc xs=>obtain⟨cs,_,h2,h3⟩:=h;exact PV.wf_row h2 h3
 |_=>trivial
theorem Blk.wfs_of:∀ {Bs:List Blk},(∀ (a:Nat) B,Bs[a]? = some B->B.wf)->Blk.wfs Bs
 |[],_=>trivial
 |B::r,h=>⟨h 0 B Z,Blk.wfs_of λa C hC=>h (a+1) C (by simpa using hC)⟩
def inR(m:Nat):PV->Bool
 | .tup vs=>inPs m vs
 |p=>inP m p
theorem renR_back{js:List Nat}{H:Hp}{p:PV}{v:Value}(hi:inR js.length p=true)(h:Sim H (renR js p) v):Sim H p v:=by
 cases p with
 |tup vs=>
   cases h with
   |tup hl hh=>
     refine .tup qN λi q u hq hu=>?_
     exact Vg_ (λl b o e=>V6_ (Sk_ hi hq) l (.inl ⟨b,o,e⟩)) (hh i (renP js q) u (by rw[AR,hq];rfl) hu)
 |own l b o=>exact Vg_ (js:=js) (λl' b' o' e=>V6_ (p:= .own l b o) hi l' (.inl ⟨b',o',e⟩)) h
 |osl l=>exact .osl
 |_=>exact h
def fgK{ι:Type}(tb:Tb)(rs:List ResultVar)(m:Nat)(Φ:ι->Prop)(res:ι->PV)(post:ι->List Blk):Qs:=λen s=>∃ g σ,Φ g/\Q5_ σ=true/\σ.length=m/\rtK tb rs (renR σ (res g)) en s/\BLe (σ.map s.L) ((post g).map (renB σ))/\inBs m (post g)=true/\inR m (res g)=true
theorem Kj_{ι:Type}{tb:Tb}{G:Gb}{m:Nat}{f:FuncId}{fn:Func}{c:Code}{args:List PV}{pre:List Blk}{Φ:ι->Prop}{res:ι->PV}{post:ι->List Blk}(ht:tbB P tb=true)(hf:P.funcs[f]? = some fn)(hb:fn.body=some c)(hn:fn.ntmps=m)(hs:Nat.ble args.length m=true)(hcb:S_ P f)(hna:Df_ args=true)
   (h:PV.wfs args->Blk.wfs pre->∀ N H,G.p H->Hd P m N ⟨H,G⟩ (fgK tb fn.results.toList pre.length Φ res post) (.code c) [] ⟨O8_ args,lofB pre⟩):Fg P G f args pre Φ res post:=by
 refine⟨hcb,λN H L w js vs hg hsim hnd hlen hpre hm=>?_⟩;subst hn
 have h1:=h hsim.wf (Blk.wfs_of λa B hB=>Blk.wf_of (hpre a B hB)) (N.plus (offL L js)) H hg (K7_ vs.toArray) H (N6_ L js) ⟨.refl H,hg,λt=>L8_ hsim hna t,λq=>by
   show SimB (lofB pre) H (lofB pre q) _
   cases e:pre[q]? with
   |none=>unfold lofB;rw[Gm_,e];trivial
   |some B=>
     have h2:=hpre q B e
     have h3:lofB pre q=B:=by unfold lofB;rw[Gm_,e]
     rw[h3];exact h2⟩
 refine Ie_ (R:=λv H' L'=>∃ g σ,List.Nodup σ/\Φ g/\Sim H' (res g) v/\∀ (a:Nat) B,(post g)[a]? = some B->SimB (lofB (post g)) H' B (N6_ L' σ a)) (H0:=H) hf hb pK (Km_ (λen F' H' L' hq=>?_) h1) (mem_pick hm hnd) ?_
 . obtain⟨s',ha',g,σ,hg1,hnd',hlen',hq',hp,hin,hir⟩:=hq
   obtain⟨he,v,hr,hv⟩:=Os_ (N:=N.plus (offL L js)) ht ha' hq'
   have hnn:=S1_ hnd'
   have hpl:(post g).length=pre.length:=by have :=hp.len;simpa [hlen'] using this.symm
   have hR:∀ (a:Nat) B,(post g)[a]? = some B->SimB (lofB (post g)) H' B (N6_ L' σ a):=λa B hB=>by
     have ha:a<σ.length:=by rw[hlen',<- hpl];exact (List.getElem?_eq_some_iff.1 hB).1
     have e1:σ[a]? = some σ[a]:=A7 ha
     have e2:lofB (post g) a=B:=by unfold lofB;rw[Gm_,hB]
     have e3:N6_ L' σ a=L' σ[a]:=by unfold N6_;rw[e1]
     rcases ble_at hp a σ[a] (by rw[Gm_];exact e1) with q|q
     . rw[e2] at q;subst q;trivial
     . rw[e2] at q
       have h4:=ha'.l σ[a]
       rw[q] at h4
       rw[e3]
       exact Xm_ (ble_at hp) (U5_ (by rw[hlen'];exact hin) hB) h4
   have hvv:Sim H' (res g) v:=renR_back (by rw[hlen'];exact hir) hv
   rcases he with rfl|rfl
   exact⟨v,hr,ha'.le,g,σ,hnn,hg1,hvv,hR⟩
   exact⟨v,hr,ha'.le,g,σ,hnn,hg1,hvv,hR⟩
 intro v H' L' w' ⟨g,σ,hnn,h2,h3,h4⟩ hl hm';refine⟨g,H',N6_ L' σ,v,rfl,h2,h3,h4,hl,mem_sel hm hnd (hm'.sub (λa x hx=>?_) (λa b x y hx hy e=>?_))⟩;obtain⟨i,_,h5⟩:=Le_ hx;exact⟨i,h5⟩;obtain⟨i,g1,g2⟩:=Le_ hx;obtain⟨k,g3,g4⟩:=Le_ hy;have :i=k:=hm'.inj i k x y g2 g4 e;subst this;exact Option.some.inj ((T4_ hnn g1).symm.trans (T4_ hnn g3))
theorem gcall{ι:Type}{f:FuncId}{args args':List PV}{as0:Array Operand}{ats:Array TypeId}{pre:List Blk}{Φ:ι->Prop}{res:ι->PV}{post:ι->List Blk}{s:St}(js:List Nat)(h:Fg P H0.g f args pre Φ res post)(ha:argsP s.F x as0.toList=some (f,args'))(he:args'=args.map (renP js))(hj:Q5_ js=true)(hl:js.length=pre.length)(hL:BLe (js.map s.L) (pre.map (renB js)))(hi:inBs js.length pre=true)(hia:inPs js.length args=true)(hd:Nat.blt d n=true)
   (hpl:∀ g,(post g).length=js.length) (hno:∀ g,(renR js (res g)).noOsl=true) (kk:∀ g,Φ g->K ⟨updp (Xk_ js s.F) d (renR js (res g)),newL js (post g) s.L⟩):E2 P n N H0 all ⟨some d, .call ⟨.value x,as0,ats⟩,ty,pos,af,none⟩ js s K:=by
 intro F H L hab;have hn:=S1_ hj;obtain⟨us,h1,h2⟩:=I6_ (ats:=ats) hab.f ha h.cb;subst he;have h3:Sims H args us:=⟨by simpa using h1.1,λi p v hp hv=>Vg_ (λl b o q=>V6_ (Sk_ hia hp) l (.inl ⟨b,o,q⟩)) (h1.2 i (renP js p) v pU hv)⟩;have hs:=ble_at hL;have hpre:∀ (a:Nat) B,pre[a]? = some B->SimB (lofB pre) H B (N6_ L js a):=λa B hB=>by
   have ha':a<js.length:=by rw[hl];exact (List.getElem?_eq_some_iff.1 hB).1
   have e1:js[a]? = some js[a]:=A7 ha'
   have e2:lofB pre a=B:=by unfold lofB;rw[Gm_,hB]
   have h5:=hab.l js[a]
   have h6:=hs a js[a] (by rw[Gm_];exact e1)
   rw[e2] at h6
   have h7:N6_ L js a=L js[a]:=by unfold N6_;rw[e1]
   rw[h7]
   rcases h6 with h6|h6
   . subst h6;trivial
   . refine Xm_ hs (U5_ hi hB) ?_
     grind
 intro a w hA hm;rw[if_pos qD];unfold BC;rw[hA.eval,h2];refine (h.run N H L w js us hab.g h3 hn hl hpre hm).mono λe' w' ⟨g,H',M,v,he',hg,hv,hM,hl',hm'⟩=>?_;subst he';have g1:=(hab.mono hl').turnJ (M:=M) hn (hpl g).symm hM;refine⟨_,H',_,hA.put qF v,hm',hl',λq hq=>?_,_,Abs.put (p:=renR js (res g)) g1 d ((renR_sim hv).simT (hno g)),kk g hg⟩;show selL L js M q=L q;unfold selL;rw[Vc_ hq]
end Go.SW
namespace Go.SW.V
open Go.SW
variable{P:Program}{n:Nat}{N:Rest}{H0:Env}{all rest:List Oper}{Q:Qs}{ks:List Kt}{fF:Nat->PV}{fL:Nat->Blk}{T ty d:Nat}{pos:String}{af:Array Edge}{x:Operand}{K:St->Prop}
end Go.SW.V
namespace Go.SW.V
open Go.SW
variable{P:Program}{n:Nat}{N:Rest}{H0:Env}{all rest:List Oper}{Q:Qs}{ks:List Kt}{fF:Nat->PV}{fL:Nat->Blk}{T ty d:Nat}{pos:String}{af:Array Edge}{x:Operand}{K:St->Prop}
theorem gcall{ι:Type}{f:FuncId}{args args':List PV}{as0:Array Operand}{ats:Array TypeId}{pre:List Blk}{Φ:ι->Prop}{res:ι->PV}{post:ι->List Blk}(js:List Nat)(h:Fg P H0.g f args pre Φ res post)(ha:argsP fF x as0.toList=some (f,args'))(he:args'=args.map (renP js))(hj:Q5_ js=true)(hl:js.length=pre.length)(hL:BLe (js.map fL) (pre.map (renB js)))(hi:inBs js.length pre=true)(hia:inPs js.length args=true)(hd:Nat.blt d n=true)
   (hpl:∀ g,(post g).length=js.length) (hno:∀ g,(renR js (res g)).noOsl=true) (kk:∀ g,Φ g->K ⟨updp (Xk_ js fF) d (renR js (res g)),newL js (post g) fL⟩):E2 P n N H0 all ⟨some d, .call ⟨.value x,as0,ats⟩,ty,pos,af,none⟩ js ⟨fF,fL⟩ K:=SW.gcall (s:=⟨fF,fL⟩) js h ha he hj hl hL hi hia hd hpl hno kk
theorem rgr{ι:Type}{tb:Tb}{rs:List ResultVar}{m:Nat}{Φ:ι->Prop}{res:ι->PV}{post:ι->List Blk}{ps:List PV}{as0 bs:List Nat}(g:ι)(σ:List Nat)(hg:Φ g)(hn:Q5_ σ=true)(hl:σ.length=m)(h:Jx_ tb ⟨fF,fL⟩ rs=some (ps,as0,bs))(he:as0=bs)(hp:PLe (tupP ps) (renR σ (res g)))(hL:BLe (σ.map fL) ((post g).map (renB σ)))(hi:inBs m (post g)=true)(hir:inR m (res g)=true):Hd P n N H0 (fgK tb rs m Φ res post) (.ex .ret) [] ⟨fF,fL⟩:=⟨g,σ,hg,hn,hl,⟨.inr Z,ps,as0,bs,h,he,hp⟩,hL,hi,hir⟩
theorem rgn{ι:Type}{tb:Tb}{rs:List ResultVar}{m:Nat}{Φ:ι->Prop}{res:ι->PV}{post:ι->List Blk}{ps:List PV}{as0 bs:List Nat}(g:ι)(σ:List Nat)(hg:Φ g)(hn:Q5_ σ=true)(hl:σ.length=m)(h:Jx_ tb ⟨fF,fL⟩ rs=some (ps,as0,bs))(he:as0=bs)(hp:PLe (tupP ps) (renR σ (res g)))(hL:BLe (σ.map fL) ((post g).map (renB σ)))(hi:inBs m (post g)=true)(hir:inR m (res g)=true):Hd P n N H0 (fgK tb rs m Φ res post) (.ex .normal) [] ⟨fF,fL⟩:=⟨g,σ,hg,hn,hl,⟨.inl Z,ps,as0,bs,h,he,hp⟩,hL,hi,hir⟩
end Go.SW.V
namespace Go.SW
variable{P:Program}{n:Nat}{N:Rest}{H0:Env}{all rest:List Oper}{Q:Qs}{ks:List Kt}{s:St}{T T2 ty d:Nat}{pos:String}{af:Array Edge}{x y z:Operand}{K:St->Prop}{F:Fr}{H:Hp}{L:Ls}
def cutS:Value->Nat->Value
 | .slice a l c,lo=> .slice (slA a c lo 1) (l-lo) (c-lo)
 |v,_=>v
def aSl(b m:Nat):Value:= .slice (some ⟨b,0,none⟩) m m
def cpB(xs:Bs)(lo:Nat)(ys:Bs):Bs:=xs.take lo++(ys.take (xs.length-lo)++xs.drop (lo+ys.length))
theorem Mg_(xs:Bs)(lo:Nat)(ys:Bs)(h:lo<=xs.length):(cpB xs lo ys).length=xs.length:=by
 simp only[cpB,A1,D8,B5];omega
def Sr8(P:Program)(N:Rest)(H:Hp)(L:Ls)(sv:Value)(ys:Bs):Prop:=∀ w,Mem N H L w->(BI sv).run P w = .ok ys.length w/\∀ l,l<=ys.length->(AD 1 l sv).run P w = .ok ((ys.take l).map u8v).toArray w
theorem sr8_str{ys:Bs}:Sr8 P N H L (str ys) ys:=λw _=>⟨by simp [BI,str,Kk_],λl hl=>by
 simp only[AD,str]
 rw[Nq_];simp;rfl⟩
theorem cut_form{e lo len:Nat}{u:Value}{en:Option (Nat×Obj)}{cs:List Value}(h:OwnV 1 e u en len cs)(hlo:lo<=len):(∃ a c,cutS u lo = .slice a (len-lo) c)/\(lo<len->∃ b cap c,u = .slice (some ⟨b,0,none⟩) len cap/\cutS u lo = .slice (some ⟨b,lo,none⟩) (len-lo) (cap-lo)/\en=some (b,bx e c)/\cap<=c.length/\len<=cap/\c.take len=cs):=by
 obtain⟨hl,h⟩:=h
 rcases h with ⟨rfl,h0,_⟩|⟨b,cap,c,f,rfl,hL,hc,hle,ht,hf⟩
 subst h0;exact⟨⟨_,_,rfl⟩,λq=>by omega⟩;have :=hf Z;subst this;refine⟨⟨_,_,rfl⟩,λq=>⟨b,cap,c,rfl,?_,by simpa using hL,by simpa using hc,hle,by simpa using ht⟩⟩;simp only[cutS,slA,A6];rw[if_neg rV];simp[Gb_]
theorem sr8_cut{e lo i:Nat}{u:Value}{xs:Bs}(h:OwnV 1 e u (L i) xs.length (xs.map u8v))(hlo:lo<=xs.length):Sr8 P N H L (cutS u lo) (xs.drop lo):=λw hm=>by
 obtain⟨⟨a,c,h1⟩,h2⟩:=cut_form h hlo
 refine⟨by rw[h1];simp[BI],λl hl=>?_⟩
 by_cases q:lo<xs.length
 . obtain⟨b,cap,c,hu,hcu,hL,hc,hle,ht⟩:=h2 q
   rw[hcu]
   simp only[B5] at hl
   have :=run_loadCells_list (P:=P) w ⟨b,lo,none⟩ (((xs.drop lo).take l).map u8v) (λj v hj=>by
     rw[Gb_]
     refine hm.cellL hL ?_
     have hj':j<l:=by
       grind
     rw[AR,AY,if_pos hj',C9] at hj
     have e1:(c.take xs.length)[lo+j]? = c[lo+j]? :=by rw[AY,if_pos rV]
     rw[<- e1,ht,AR];exact hj)
   have hlen:(((xs.drop lo).take l).map u8v).length=l:=by simp;omega
   rw[hlen] at this
   exact sS
 . have hl0:l=0:=by simp only[B5] at hl;omega
   subst hl0
   rw[h1]
   cases a with
   |none=>simp[AD]
   |some a=>
     have :=run_loadCells_list (P:=P) w a [] (λj v hj=>by simp at hj)
     simpa [AD] using this
theorem run_cp{base:Option Addr}{len cap m lb l:Nat}{e:TypeId}{ats:TypeId}{sv:Value}{us:List Value}{w w':World}(hT:P.underlying T=some (.slice e))(hk:Sz P e m)(hlb:(Builtin.lenOf sv).run P w = .ok lb w)(hl:Nat.min lb len=l)(hf:(Builtin.firstCells m l sv).run P w = .ok us.toArray w)(hs:(match base with|some a=>storeCells a us|none=>pure ():Sem Unit).run P w = .ok () w'):(Builtin.copy_ #[T,T2] ats #[.slice base len cap,sv]).run P w = .ok (goInt l) w':=by
 cases base with
 |none=>simp at hs;subst hs;simp[CU,run_underlying hT,hlb,hk w,hl,hf]
 |some a=>simp only at hs;simp[CU,run_underlying hT,hlb,hk w,hl,hf,hs]
theorem exec_cp{v sv r:Value}{w w':World}{d:Option Tmp}{g:Option (Nat×Bool)}(hx:ev F x=v)(hy:ev F y=sv)(h:∀ ats,(Builtin.copy_ #[T,T2] ats #[v,sv]).run P w = .ok r w'):(execOp (ev F) ⟨d, .call ⟨.builtin .copy,#[x,y],#[T,T2]⟩,ty,pos,af,g⟩).run P w = .ok (.value r) w':=
 Fy_ (args:=#[v,sv]) pD λcs=>by simp[builtin,h]
theorem op1_cp{ops:List Oper}{i lo e e':Nat}{u:Value}{xs ys:Bs}{K:Fr->Hp->Ls->Prop}(hx:ev F x=cutS u lo)(ho:OwnV 1 e u (L i) xs.length (xs.map u8v))(hlo:lo<=xs.length)(hs:Sr8 P N H L (ev F y) ys)(hT:P.underlying T=some (.slice e'))(hk:Sz P e' 1)(hd:Nat.blt d n=true)
   (kk:∀ en',OwnV 1 e u en' xs.length ((cpB xs lo ys).map u8v)->K (upd F d (.int .i64 (min ys.length (xs.length-lo):Nat))) H (lupd L i en')):Op1 P n N ops ⟨some d, .call ⟨.builtin .copy,#[x,y],#[T,T2]⟩,ty,pos,af,none⟩ K F H L:=by
 intro ac w ha hm;rw[if_pos qD];unfold BC;obtain⟨hl1,hf1⟩:=hs w hm;obtain⟨⟨a,c,h1⟩,h2⟩:=cut_form ho hlo;have hmin:Nat.min ys.length (xs.length-lo)=min ys.length (xs.length-lo):=rfl;by_cases q:lo<xs.length
 . obtain⟨b,cap,c,hu,hcu,hL,hc,hle,ht⟩:=h2 q
   have hlt:((ys.take (min ys.length (xs.length-lo))).map u8v).length=min ys.length (xs.length-lo):=by simp only[List.length_map,D8];omega
   obtain⟨w',L',s1,s2,s3,s4⟩:=Mem.storeA (P:=P) b i lo ((ys.take (min ys.length (xs.length-lo))).map u8v) c 0 L w hm hL (by rw[hlt];omega) (λv hv=>by obtain⟨z,_,rfl⟩:=List.mem_map.1 hv;rfl)
   have hLL:L'=lupd L i (some (b,bx e (N9_ c lo ((ys.take (min ys.length (xs.length-lo))).map u8v)))):=funext λj=>by
     by_cases e':j=i
     . subst e';rw[Cc_,s4];rfl
     . rw[B7_ _ _ _ _ e',s3 j e']
   subst hLL
   have r1:∀ ats,(CU #[T,T2] ats #[.slice (some ⟨b,lo,none⟩) (xs.length-lo) (cap-lo),ev F y]).run P w = .ok (goInt ((min ys.length (xs.length-lo):Nat):Int)) w':=λats=>
     run_cp (P:=P) (base:=some ⟨b,lo,none⟩) (ats:=ats) hT hk hl1 hmin (hf1 _ rV) s1
   rw[ha.eval,exec_cp (hx.trans hcu) rfl r1]
   refine⟨_,H,_,ha.put qF _,s2,kk _ ⟨by simp[Mg_ _ _ _ hlo], .inr ⟨b,cap,N9_ c lo ((ys.take (min ys.length (xs.length-lo))).map u8v),[],hu,rfl,by simpa [Un_] using hc,hle,?_,λ_=>rfl⟩⟩⟩
   rw[Nat.mul_one,setAt_eq _ _ _ (by rw[hlt];omega),hlt]
   have e1:c.take lo=(xs.take lo).map u8v:=by
     have :(c.take xs.length).take lo=c.take lo:=by rw[List.take_take];congr 1;omega
     rw[<- this,ht,List.map_take]
   have e2:(c.drop (lo+min ys.length (xs.length-lo))).take (xs.length-(lo+min ys.length (xs.length-lo)))=(xs.drop (lo+min ys.length (xs.length-lo))).map u8v:=by
     rw[<- FT,ht,List.map_drop]
   have e3:xs.drop (lo+ys.length)=xs.drop (lo+min ys.length (xs.length-lo)):=by
     by_cases g:ys.length<=xs.length-lo
     . rw[FU g]
     . rw[CN rV,CN rV]
   have e4:ys.take (xs.length-lo)=ys.take (min ys.length (xs.length-lo)):=by
     grind
   have hl0:(c.take lo).length=lo:=by rw[D8];omega
   rw[CJ,CJ,hl0,hlt]
   simp only[cpB,CS]
   rw[e3,e4,<- e1,<- e2]
   congr 1
   rw[AL (by rw[hl0];omega)]
   . congr 1
     rw[AL (by rw[hlt];omega)]
     . congr 1;omega
 have hz:xs.length-lo=0:=by omega
 have hm0:min ys.length (xs.length-lo)=0:=by omega
 rw[hz] at h1;have hcpB:cpB xs lo ys=xs:=by
   simp only[cpB,hz,List.take_zero,List.nil_append]
   rw[AL rV,CN rV,AT]
 have r1:∀ ats,(CU #[T,T2] ats #[.slice a 0 c,ev F y]).run P w = .ok (goInt 0) w:=λats=>
   run_cp (P:=P) (ats:=ats) (us:=[]) hT hk hl1 qB (by simpa using hf1 0 (AQ _)) (by cases a<;>simp[storeCells])
 rw[ha.eval,exec_cp (hx.trans h1) rfl r1];have hself:lupd L i (L i)=L:=funext λj=>by
   by_cases e':j=i
   . subst e';rw[Cc_]
   . rw[B7_ _ _ _ _ e']
 have h3:=kk (L i) (by rw[hcpB];exact ho);rw[hself,hm0] at h3;exact⟨_,H,_,ha.put qF _,hm,h3⟩
def SrP(P:Program)(N:Rest)(H0:Env)(s:St)(y:Operand)(ys:Bs):Prop:=∀ F H L,Abs H0 s F H L->Sr8 P N H L (ev F y) ys
theorem srp_str{ys:Bs}(hy:evP s.F y = .str ys):SrP P N H0 s y ys:=λF H L ha=>by
 have h1:=(Cn_ ha.f y).sim
 rw[hy] at h1
 rw[h1.inv_str.1];exact sr8_str
theorem srp_cut{ys xs:Bs}{lo i e:Nat}{u:Value}(hy:evP s.F y = .val (cutS u lo))(hb:s.L i = .arr u 1 e u8c xs)(hlo:lo<=xs.length)(he:ys=xs.drop lo):SrP P N H0 s y ys:=λF H L ha=>by
 have h1:=(Cn_ ha.f y).sim
 rw[hy] at h1
 have h2:=ha.l i
 rw[hb] at h2
 obtain⟨cs,ho,hr,hm⟩:=h2
 rw[N7_ hr] at ho
 rw[h1.inv_val,he];exact sr8_cut ho hlo
theorem ecopy{tb:Tb}{ti te:TI}{i lo e e':Nat}{u:Value}{xs ys:Bs}(ht:tbB P tb=true)(hx:evP s.F x = .val (cutS u lo))(hb:s.L i = .arr u 1 e u8c xs)(hlo:lo<=xs.length)(hs:SrP P N H0 s y ys)(hti:lkT tb T=some ti)(htk:ti.k = .slc e')(hte:lkT tb e'=some te)(hes:te.size=1)(hd:Nat.blt d n=true)
   (kk:K ⟨updp s.F d (.int .i64 (min ys.length (xs.length-lo):Nat)),lups s.L i (.arr u 1 e u8c (cpB xs lo ys))⟩):E1 P n N H0 all ⟨some d, .call ⟨.builtin .copy,#[x,y],#[T,T2]⟩,ty,pos,af,none⟩ (some i) s K:=by
 intro F H L ha;have h1:=(Cn_ ha.f x).sim;rw[hx] at h1;have h2:=ha.l i;rw[hb] at h2;obtain⟨cs,ho,hr,hm⟩:=h2;rw[N7_ hr] at ho;have hk:=(Eg_ ht hte).sz;rw[hes] at hk;refine op1_cp (i:=i) h1.inv_val ho hlo (hs F H L ha) ((Eg_ ht hti).slc htk) hk hd λen' ho'=>⟨.refl H,only,_,(ha.turnU (n:=n) (N:=N) (P:=P) i hb ⟨(cpB xs lo ys).map u8v,by rw[Mg_ _ _ _ hlo];exact ho',rl_u8 _,by rw[Mg_ _ _ _ hlo];exact hm⟩).put (p:= .int .i64 (min ys.length (xs.length-lo):Nat)) d (Sim.int oK oU),kk⟩
theorem ecopy0{tb:Tb}{ti te:TI}{i e e':Nat}{u:Value}{xs ys:Bs}(ht:tbB P tb=true)(hx:evP s.F x = .osl i)(hb:s.L i = .arr u 1 e u8c xs)(hs:SrP P N H0 s y ys)(hti:lkT tb T=some ti)(htk:ti.k = .slc e')(hte:lkT tb e'=some te)(hes:te.size=1)(hd:Nat.blt d n=true)
   (kk:K ⟨updp s.F d (.int .i64 (min ys.length xs.length:Nat)),lups s.L i (.arr u 1 e u8c (cpB xs 0 ys))⟩):E1 P n N H0 all ⟨some d, .call ⟨.builtin .copy,#[x,y],#[T,T2]⟩,ty,pos,af,none⟩ (some i) s K:=by
 intro F H L ha;have h1:=Cn_ ha.f x;unfold Ok1 at h1;rw[hx] at h1;simp only[SimT,hb] at h1;have h2:=ha.l i;rw[hb] at h2;obtain⟨cs,ho,hr,hm⟩:=h2;rw[N7_ hr] at ho;have hk:=(Eg_ ht hte).sz;rw[hes] at hk;have hu:cutS u 0=u:=by
   obtain⟨_,ho⟩:=ho
   rcases ho with ⟨rfl,_⟩|⟨b,cap,c,f,rfl,_⟩
   . simp[cutS,slA_0]
   . simp only[cutS,slA_0,Nat.sub_zero]
 refine op1_cp (i:=i) (lo:=0) (h1.trans hu.symm) ho (AQ _) (hs F H L ha) ((Eg_ ht hti).slc htk) hk hd λen' ho'=>⟨.refl H,only,_,(ha.turnU (n:=n) (N:=N) (P:=P) i hb ⟨(cpB xs 0 ys).map u8v,by rw[Mg_ _ _ _ (AQ _)];exact ho',rl_u8 _,by rw[Mg_ _ _ _ (AQ _)];exact hm⟩).put (p:= .int .i64 (min ys.length xs.length:Nat)) d (Sim.int oK oU),kk⟩
theorem qcutv{tb:Tb}{ti te:TI}{i e e':Nat}{k:IntKind}{z:Int}{u:Value}{xs:Bs}(ht:tbB P tb=true)(m:Nat)(hx:evP s.F x = .osl i)(hb:s.L i = .arr u 1 e u8c xs)(hy:evP s.F y = .int k z)(hti:lkT tb T=some ti)(htk:ti.k = .slc e')(hte:lkT tb e'=some te)(hes:te.size=1)(hz:z=m)(hm:m<=xs.length):Qy P N H0 s (.slice T x (some y) none none) ty (.val (cutS u m)):=by
 intro F H L ha;have h1:=Cn_ ha.f x;unfold Ok1 at h1;rw[hx] at h1;simp only[SimT,hb] at h1;have h3:=(Cn_ ha.f y).sim;rw[hy] at h3;have h2:=ha.l i;rw[hb] at h2;obtain⟨cs,⟨_,ho⟩,hr,hbd⟩:=h2;have hk:=(Eg_ ht hte).sz;rw[hes] at hk;obtain⟨a,c,hu⟩:∃ a c,u = .slice a xs.length c:=by
   grind
 subst hu;exact⟨_,Sim.val,λH' L' _=>Mm_ m h1 h3.inv_int.1 ((Eg_ ht hti).slc htk) hk hz hm⟩
theorem qasl{m e e' b:Nat}{i:Nat}{xs:Bs}(hx:evP s.F x = .own i b 0)(hb:s.L i = .arr (aSl b m) 1 e u8c xs)(hT:P.underlying T=some (.array m e'))(hk:Sz P e' 1):Qy P N H0 s (.slice T x none none none) ty (.osl i):=by
 intro F H L ha;have h1:=(Cn_ ha.f x).sim;rw[hx] at h1;refine⟨aSl b m,by simp only[SimT,hb],λH' L' _=>?_⟩;intro d pos af g w _;have hal:P.arrayLen T=some m:=by simp[Program.arrayLen,hT]
 simp[execOp,Instr.sliceAt,Instr.slice,Instr.sliceBounds,Instr.sliceBound,h1.inv_own,hal,aSl,run_underlying hT,hk w,C7,FS]
theorem sims_u8{H:Hp}:∀ {l:Bs} {vs:List Value},Sims H (l.flatMap u8c) vs->vs=l.map u8v
 |[],vs,h=>by simpa using h.inv_nil
 |c::l,vs,h=>by
   have h':Sims H (.int .u8 c.toNat::l.flatMap u8c) vs:=by simpa [u8c] using h
   obtain⟨v,vs',rfl,h1,h2⟩:=h'.inv_cons
   rw[sims_u8 h2,h1.inv_int.1];rfl
theorem alloca{tb:Tb}{ti:TI}(m i:Nat)(ht:tbB P tb=true)(hti:lkT tb T=some ti)(hz:ti.zero=(List.replicate m (0:UInt8)).flatMap u8c)(hm:m<=100000)(hd:Nat.blt d n=true)(kk:∀ b,K ⟨updp (Jb_ i s.F) d (.own i b 0),lups (Gx_ i s.L) i (.arr (aSl b m) 1 T u8c (List.replicate m 0))⟩):E1 P n N H0 all ⟨some d, .alloc T,ty,pos,af,none⟩ (some i) s K:=by
 intro F H L ha;obtain⟨zv,hzv,hs⟩:=(Eg_ ht hti).zero;have h0:=hs H;rw[hz] at h0;have hcs:zv.cells.toList=(AZ m (0:UInt8)).map u8v:=sims_u8 h0;refine S4_ i hd (cs:=zv.cells.toList) (λw=>⟨zv,hzv w,by simp⟩) λb=>⟨.refl H,only,_,(ha.turn i (B:= .arr (aSl b m) 1 T u8c (AZ m 0)) ⟨zv.cells.toList,?_,by rw[hcs];exact rl_u8 _,by simp;omega⟩).put (p:= .own i b 0) d Sim.own,kk b⟩;have hl:zv.cells.toList.length=m:=by rw[hcs];simp
 rw[BZ];exact⟨by omega, .inr ⟨b,m,zv.cells.toList,[],rfl,rfl,by omega,BB _,by rw[AL rV],λ_=>rfl⟩⟩
end Go.SW
namespace Go.SW.V
open Go.SW
variable{P:Program}{n:Nat}{N:Rest}{H0:Env}{all rest:List Oper}{Q:Qs}{ks:List Kt}{fF:Nat->PV}{fL:Nat->Blk}{T T2 ty d:Nat}{pos:String}{af:Array Edge}{x y:Operand}{K:St->Prop}
theorem srp_str{ys:Bs}(hy:evP fF y = .str ys):SrP P N H0 ⟨fF,fL⟩ y ys:=SW.srp_str (s:=⟨fF,fL⟩) hy
theorem srp_cut{ys xs:Bs}{lo i e:Nat}{u:Value}(hy:evP fF y = .val (cutS u lo))(hb:fL i = .arr u 1 e u8c xs)(hlo:lo<=xs.length)(he:ys=xs.drop lo):SrP P N H0 ⟨fF,fL⟩ y ys:=SW.srp_cut (s:=⟨fF,fL⟩) hy hb hlo he
theorem ecopy{tb:Tb}{ti te:TI}{i lo e e':Nat}{u:Value}{xs ys:Bs}(ht:tbB P tb=true)(hx:evP fF x = .val (cutS u lo))(hb:fL i = .arr u 1 e u8c xs)(hlo:lo<=xs.length)(hs:SrP P N H0 ⟨fF,fL⟩ y ys)(hti:lkT tb T=some ti)(htk:ti.k = .slc e')(hte:lkT tb e'=some te)(hes:te.size=1)(hd:Nat.blt d n=true)
   (kk:K ⟨updp fF d (.int .i64 (min ys.length (xs.length-lo):Nat)),lups fL i (.arr u 1 e u8c (cpB xs lo ys))⟩):E1 P n N H0 all ⟨some d, .call ⟨.builtin .copy,#[x,y],#[T,T2]⟩,ty,pos,af,none⟩ (some i) ⟨fF,fL⟩ K:=SW.ecopy (s:=⟨fF,fL⟩) ht hx hb hlo hs hti htk hte hes hd kk
theorem ecopy0{tb:Tb}{ti te:TI}{i e e':Nat}{u:Value}{xs ys:Bs}(ht:tbB P tb=true)(hx:evP fF x = .osl i)(hb:fL i = .arr u 1 e u8c xs)(hs:SrP P N H0 ⟨fF,fL⟩ y ys)(hti:lkT tb T=some ti)(htk:ti.k = .slc e')(hte:lkT tb e'=some te)(hes:te.size=1)(hd:Nat.blt d n=true)
   (kk:K ⟨updp fF d (.int .i64 (min ys.length xs.length:Nat)),lups fL i (.arr u 1 e u8c (cpB xs 0 ys))⟩):E1 P n N H0 all ⟨some d, .call ⟨.builtin .copy,#[x,y],#[T,T2]⟩,ty,pos,af,none⟩ (some i) ⟨fF,fL⟩ K:=SW.ecopy0 (s:=⟨fF,fL⟩) ht hx hb hs hti htk hte hes hd kk
theorem qcutv{tb:Tb}{ti te:TI}{i e e':Nat}{k:IntKind}{z:Int}{u:Value}{xs:Bs}(ht:tbB P tb=true)(m:Nat)(hx:evP fF x = .osl i)(hb:fL i = .arr u 1 e u8c xs)(hy:evP fF y = .int k z)(hti:lkT tb T=some ti)(htk:ti.k = .slc e')(hte:lkT tb e'=some te)(hes:te.size=1)(hz:z=m)(hm:m<=xs.length):Qy P N H0 ⟨fF,fL⟩ (.slice T x (some y) none none) ty (.val (cutS u m)):=SW.qcutv (s:=⟨fF,fL⟩) ht m hx hb hy hti htk hte hes hz hm
theorem qasl{m e e' b i:Nat}{xs:Bs}(hx:evP fF x = .own i b 0)(hb:fL i = .arr (aSl b m) 1 e u8c xs)(hT:P.underlying T=some (.array m e'))(hk:Sz P e' 1):Qy P N H0 ⟨fF,fL⟩ (.slice T x none none none) ty (.osl i):=SW.qasl (s:=⟨fF,fL⟩) hx hb hT hk
theorem alloca{tb:Tb}{ti:TI}(m i:Nat)(ht:tbB P tb=true)(hti:lkT tb T=some ti)(hz:ti.zero=(List.replicate m (0:UInt8)).flatMap u8c)(hm:m<=100000)(hd:Nat.blt d n=true)(kk:∀ b,K ⟨updp (Jb_ i fF) d (.own i b 0),lups (Gx_ i fL) i (.arr (aSl b m) 1 T u8c (List.replicate m 0))⟩):E1 P n N H0 all ⟨some d, .alloc T,ty,pos,af,none⟩ (some i) ⟨fF,fL⟩ K:=SW.alloca (s:=⟨fF,fL⟩) m i ht hti hz hm hd kk
end Go.SW.V
namespace Go.SW
variable{P:Program}{n:Nat}{N:Rest}{H0:Env}{all rest:List Oper}{Q:Qs}{ks:List Kt}{T ty d:Nat}{pos:String}{af:Array Edge}{x y:Operand}{K:St->Prop}
theorem Op1.impL{o:Oper}{K K':Fr->Hp->Ls->Prop}{F:Fr}{H:Hp}{L:Ls}(h:Op1 P n N all o K F H L)(hk:∀ F' H' L',K F' H' L'->∃ L2,(∀ w,Mem N H' L' w->Mem N H' L2 w)/\K' F' H' L2):Op1 P n N all o K' F H L:=λa w ha hm=>by
 have :=h a w ha hm
 split
 . rename_i hw
   rw[if_pos hw] at this
   exact Qs_ (λa' w' ⟨F',H',L',x,y,z⟩=>by obtain⟨L2,g1,g2⟩:=hk _ _ _ z;exact⟨F',H',L2,x,g1 _ y,g2⟩) (λ_ _ _ x=>x) this
 . rename_i hw
   rw[if_neg hw] at this
   obtain⟨F',H',L',x,y,z⟩:=this
   obtain⟨L2,g1,g2⟩:=hk _ _ _ z
   exact⟨F',H',L2,x,g1 _ y,g2⟩
theorem estonil{α:Type}{tb:Tb}{ti:TI}{i b b' off T0 k e:Nat}{fF:Nat->PV}{fL:Nat->Blk}{cs cs':List PV}(j:Nat)(enc:α->List PV)(ht:tbB P tb=true)(hx:evP fF x = .own i b off)(hb:fL i = .box b' T0 cs)(hti:lkT tb T=some ti)(hsz:ti.size=1)(hy:evS (evP fF y)=some (.val (.slice none 0 0)))(hl:Nat.blt off cs.length=true)(hbb:b'=b)(hne:Nat.beq i j=false)(hc:((cs.set off (.val (.slice none 0 0))).map (Xj_ j)).set off (.osl j)=cs')
   (kk:K ⟨Jb_ j fF,lups (lups (Gx_ j fL) j (.arr (.slice none 0 0) k e enc [])) i (.box b T0 cs')⟩):E2 P n N H0 all ⟨none, .store T x y,ty,pos,af,none⟩ [i,j] ⟨fF,fL⟩ K:=by
 intro F H L ha;subst hbb;subst hc;have hij:i≠j:=λe=>by subst e;simp at hne
 have h0:E1 P n N H0 all ⟨none, .store T x y,ty,pos,af,none⟩ (some i) ⟨fF,fL⟩ (λs'=>s'=⟨fF,lups fL i (.box b' T0 (cs.set off (.val (.slice none 0 0))))⟩):=store1 (s:=⟨fF,fL⟩) ht hx hb hti hsz hy Z hl Z (by simp only[evL,Ra_]) rfl;refine (h0 F H L ha).impL λF' H' L' ⟨h1,h2,s',h3,h4⟩=>?_;subst h4;refine⟨lupd L' j none,λw hm=>hm.clear j,h1,λq hq=>?_,⟨_,_⟩,?_,kk⟩;simp only[memB] at hq;have q1:q≠i:=λe=>by subst e;simp at hq
 have q2:q≠j:=λe=>by subst e;simp at hq
 rw[B7_ _ _ _ _ q2];grind;have g2:=h3.turn j (B:= .arr (.slice none 0 0) k e enc []) (x:=none) ⟨[],On_,Y9_,by simp⟩;have g3:=g2.l i;simp only[] at g2 g3;have hcell:lups (Gx_ j (lups fL i (.box b' T0 (cs.set off (.val (.slice none 0 0)))))) j (.arr (.slice none 0 0) k e enc []) i = .box b' T0 ((cs.set off (.val (.slice none 0 0))).map (Xj_ j)):=by
   rw[F2_ _ _ _ _ hij,Gx_,C1_];rfl
 rw[hcell] at g3;obtain⟨vs,hL,hs1,hs2⟩:=g3;have hol:off<cs.length:=by simpa using hl
 have g4:=g2.turnB i (B:= .box b' T0 (((cs.set off (.val (.slice none 0 0))).map (Xj_ j)).set off (.osl j))) U (x:=lupd L' j none i) ⟨vs,hL,by simpa using hs1,λa p v hp hv=>by
   rw[CG] at hp
   by_cases z:off=a
   . subst z
     rw[if_pos rfl] at hp
     split at hp
     . cases hp
       have h5:=(hs2 off (.val (.slice none 0 0)) v (by rw[AR,List.getElem?_set_self hol];rfl) hv).sim.inv_val
       simp only[SimT,F2_ _ _ _ _ hij.symm,C1_]
       exact h5
     . cases hp
   . rw[if_neg z] at hp
     have h5:=hs2 a p v hp hv
     exact Qq_ (b:=b') (T:=T0) (cs:=(cs.set off (.val (.slice none 0 0))).map (Xj_ j)) hcell h5⟩
 have hself:lupd (lupd L' j none) i (lupd L' j none i)=lupd L' j none:=funext λq=>by
   by_cases e:q=i
   . subst e;rw[Cc_]
   . rw[B7_ _ _ _ _ e]
 rw[hself] at g4;have hLL:lups (lups (Gx_ j (lups fL i (.box b' T0 (cs.set off (.val (.slice none 0 0)))))) j (.arr (.slice none 0 0) k e enc [])) i (.box b' T0 (((cs.set off (.val (.slice none 0 0))).map (Xj_ j)).set off (.osl j)))=lups (lups (Gx_ j fL) j (.arr (.slice none 0 0) k e enc [])) i (.box b' T0 (((cs.set off (.val (.slice none 0 0))).map (Xj_ j)).set off (.osl j))):=funext λq=>by
   by_cases e:q=i
   . subst e;simp only[C1_]
   . simp only[F2_ _ _ _ _ e]
     by_cases e2:q=j
     . subst e2;simp only[C1_]
     . simp only[F2_ _ _ _ _ e2,Gx_,F2_ _ _ _ _ e]
 grind
end Go.SW
namespace Go.SW.V
open Go.SW
end Go.SW.V
namespace Go.SW
structure Bw_ where
 lasts:List UInt8
 waits:List Im_
 on:Bool
 armed:Bool
 El_:Int
 cut:Int
deriving Inhabited
structure Dy_ where
 d:Bw_
 Bj_:Int
 gen:Int
 ready:Bool
 broken:Bool
 done:Bs
 waits:Bs
deriving Inhabited
end Go.SW
namespace Go.SW.V
open Go.SW
def A0_(d:Bw_):Int:=
 ((d.lasts.length:Int)/64)
def Ha_(d:Bw_):Bool:=
 d.on
theorem dblk_f(d:Bw_):0<=A0_ d/\64*A0_ d<=(d.lasts.length:Int)/\(d.lasts.length:Int)<64*A0_ d+64:=by
 unfold A0_;omega
def C9_(d:Bw_)(at_:Int):Int:=
 (bif !d.on then
 16
 else (bif decide (at_<0) then
 7
 else lt (A0_ d) λr=>
 (bif decide (r<=at_) then
 7
 else 0)))
end Go.SW.V
namespace Go.SW
end Go.SW
namespace Go.SW.V
open Go.SW
theorem dcheck_f(d:Bw_)(at_:Int):C9_ d at_≠0\/(0<=at_/\64*at_+64<=(d.lasts.length:Int)):=by
 unfold C9_ A0_
 cases d.on with
 |false=>left;simp
 |true=>
   simp only[A5,cond_false]
   by_cases h:at_<0
   . left;simp[h]
   . by_cases h2:(d.lasts.length:Int)/64<=at_
     . left;simp[h,lt,h2]
     . right;omega
def Am_(d:Bw_)(at_:Int)(data:Bs):Int×Bw_:=
 lt (C9_ d at_) λr=>
 (bif !decide (r=0) then
 (r,d)
 else (bif decide (64<(data.length:Int)) then
 (5,d)
 else (0,(⟨d.lasts,(d.waits++[(⟨at_,data⟩:Im_)]),d.on,d.armed,d.El_,d.cut⟩:Bw_))))
end Go.SW.V
namespace Go.SW
def DwOk(d:Bw_):Prop:=∀ y∈d.waits,y.data.length<=64/\0<=y.at_/\64*y.at_+64<=d.lasts.length
end Go.SW
namespace Go.SW.V
open Go.SW
theorem Zt_(d:Bw_)(at_:Int)(data:Bs):(Am_ d at_ data).2.lasts=d.lasts/\(Am_ d at_ data).2.lasts.length=d.lasts.length/\(Am_ d at_ data).2.El_=d.El_/\(Am_ d at_ data).2.waits.length<=d.waits.length+1:=by
 unfold Am_ lt;by_cases h:C9_ d at_=0;by_cases h2:(64:Int)<data.length;simp[h,h2];simp[h,h2];simp[h]
theorem Se_{d:Bw_}(h:DwOk d)(at_:Int)(data:Bs):DwOk (Am_ d at_ data).2:=by
 unfold Am_ lt;by_cases hc:C9_ d at_=0;by_cases h2:(64:Int)<data.length;simpa [hc,h2] using h
 . have hf:=dcheck_f d at_
   simp only[hc,decide_true,A5,cond_false,h2,decide_false]
   intro y hy
   rcases List.mem_append.1 hy with q|q
   exact h y q
   . rw[List.mem_singleton.1 q]
     rcases hf with e|e
     exact (e hc).elim
     exact⟨by simp only[];omega,e.1,e.2⟩
 simpa [hc] using h
theorem rep_len(s:Bs)(n:Nat):(Go.Lib.repeatL s n).length=s.length*n:=by rw[Go.Lib.repeatL_length,CT]
theorem rep0_len(n:Nat):(Go.Lib.repeatL [0] n).length=n:=by rw[rep_len];simp
theorem area_f(a p:Int)(h0:0<=a)(h1:a<=1)(hp:0<=p):0<=a*p/\a*p<=p:=by
 rcases (by omega :a=0\/a=1) with rfl|rfl<;>simp<;>omega
def Fs_:List Im_->Int->Int
 |[],n=>n
 |x::t,n=>Fs_ t (n+((x.data).length:Int))
def Hi_(d:Bw_):Int:=
 Fs_ d.waits 0
def Dr_(d:Bw_):List Im_->Int->List UInt8->Bw_
 |[],cut1,lasts=>(⟨lasts,[],d.on,d.armed,d.El_,d.cut⟩:Bw_)
 |x::t,cut1,lasts=>Dr_ d t (cut1-(max 0 (min cut1 ((x.data).length:Int)))) (cpB lasts ((((x.at_)*64)).toNat) ((x.data).take ((max 0 (min cut1 ((x.data).length:Int)))).toNat))
def Fi_(d:Bw_)(cut:Int):Bw_:=
 Dr_ d d.waits cut d.lasts
def Dq_(at_:Int):List Im_->List UInt8->Bs×Int
 |[],b_=>(b_,0)
 | x::t,b_=>(bif decide ((x.at_)=at_) then
 Dq_ at_ t (cpB b_ 0 (x.data))
 else Dq_ at_ t b_)
def Bn_(d:Bw_)(at_:Int):Bs×Int:=
 lt (C9_ d at_) λr=>
 (bif !decide (r=0) then
 ([],r)
 else Dq_ at_ d.waits (cpB (AZ 64 0) 0 (d.lasts.drop (((at_*64)).toNat))))
def Co_(d:Bw_)(cut:Int):Bw_:=
 (bif d.on then
 lt (Fi_ d cut) λr=>
 (⟨r.lasts,r.waits,false,r.armed,r.El_,r.cut⟩:Bw_)
 else d)
def Cx_(d:Bw_):Int×Bw_:=
 (bif !d.on then
 (16,d)
 else (bif (d.armed&&(decide (d.El_=0))) then
 lt (Co_ d d.cut) λr=>
 (16,r)
 else lt (Hi_ (⟨d.lasts,d.waits,d.on,d.armed,(max 0 (d.El_-1)),d.cut⟩:Bw_)) λr1=>
 lt (Fi_ (⟨d.lasts,d.waits,d.on,d.armed,(max 0 (d.El_-1)),d.cut⟩:Bw_) r1) λr2=>
 (0,r2)))
def I8_(d:Bw_):Bw_:=
 (bif !d.on then
 (⟨d.lasts,d.waits,true,false,0,0⟩:Bw_)
 else d)
def Kn_(d:Bw_):Bs:=
 d.lasts
def Da_(blocks:Int):Bw_:=
 (⟨(AZ (((64*(max 0 (min blocks 4096)))).toNat) 0),[],true,false,0,0⟩:Bw_)
def P1_(record:Bs):Bs:=
 ((B_ (B_ (Y_ (B_ (⟨[],0⟩:Out) (record.length:Int) 4) record) (K2_ [(Y_ (B_ (⟨[],0⟩:Out) (record.length:Int) 4) record).s]) 4) 165 1).s)
theorem T5_(r:Bs):(P1_ r).length=r.length+9:=by
 simp only[P1_,B_,Y_,A1,A6,Z_,show numK 4=4 from by decide,show numK 1=1 from by decide];omega
def Gl_:List Bs->Bs->Bs×Int
 |[],x=>(x,0)
 | x1::t,x=>(bif decide (x1=[]) then
 ([],15)
 else (bif decide (131072<(x1.length:Int)) then
 ([],5)
 else lt (P1_ x1) λr=>
 Gl_ t (x++r)))
def Bd_(records:List Bs):Bs×Int:=
 Gl_ records []
def Gn_(gen:Int):Bs:=
 ((B_ (B_ (B_ (Y_ (⟨[],0⟩:Out) [83,84,82,87]) gen 8) (K2_ [(B_ (Y_ (⟨[],0⟩:Out) [83,84,82,87]) gen 8).s]) 4) 165 1).s)
def L_(l:Dy_):Int:=
 lt (A0_ l.d) λr=>
 (r/2)
def Hf_(l:Dy_)(e:Int):Int×Dy_:=
 (e,(⟨l.d,l.Bj_,l.gen,false,true,l.done,l.waits⟩:Dy_))
def Fv_(l:Dy_):Int:=
 (bif l.broken then
 21
 else (bif !l.ready then
 13
 else 0))
def Ep_(l:Dy_):Bool:=
 l.ready
def Oz_(l:Dy_):Int:=
 l.gen
theorem Yw_(l:Dy_):0<=L_ l/\2*L_ l<=A0_ l.d/\A0_ l.d<=2*L_ l+1/\128*L_ l<=(l.d.lasts.length:Int)/\(l.d.lasts.length:Int)<128*L_ l+128:=by
 have :=dblk_f l.d;simp only[L_,lt];omega
def Fh_(l:Dy_):Int:=
 lt (L_ l) λr=>
 (64*(r-1))
theorem lrow_f(l:Dy_):Fh_ l=64*(L_ l-1) /\ -64<=Fh_ l/\2*Fh_ l+128<=(l.d.lasts.length:Int):=by
 have :=Yw_ l;have e:Fh_ l=64*(L_ l-1):=rfl;rw[e];refine⟨rfl,?_,?_⟩<;>omega
end Go.SW.V
namespace Go.SW
variable{P:Program}{n:Nat}{N:Rest}{H0:Env}{all:List Oper}{Q:Qs}{ks:List Kt}{s:St}
def Em(P:Program)(n:Nat)(N:Rest)(H0:Env)(all:List Oper)(o:Oper)(xs:List Nat)(s:St)(K:St->Prop):Prop:=∃ js:List Nat,js.all (memB xs)=true/\E2 P n N H0 all o js s K
theorem em2{o:Oper}{xs:List Nat}{K:St->Prop}{js:List Nat}(hj:js.all (memB xs)=true)(h:E2 P n N H0 all o js s K):Em P n N H0 all o xs s K:=⟨js,hj,h⟩
theorem em1{o:Oper}{xs:List Nat}{K:St->Prop}{j:Option Nat}(hj:(match j with | none=>true | some j=>memB xs j)=true)(h:E1 P n N H0 all o j s K):Em P n N H0 all o xs s K:=⟨j.toList,by cases j with
 |none=>rfl
 |some j=>simpa using hj,λF H L ha=>(h F H L ha).imp λF' H' L' ⟨h1,h2,h3⟩=>⟨h1,λq hq=>h2 q (λe=>by subst e;simp[memB] at hq),h3⟩⟩
def AllM(P:Program)(n:Nat)(N:Rest)(H0:Env)(all:List Oper)(Q:Qs)(xs:List Nat)(fuel:Nat)(listed:Array Bool)(ks:List Kt)(s:St):List Nat->Prop
 |[]=>True
 |i::r=>(∃ o,nth all i=some o/\Em P n N H0 all o xs s (λs'=>Hv P n N H0 Q (some xs) all fuel (listed.setIfInBounds i true) ks s'))/\AllM P n N H0 all Q xs fuel listed ks s r
theorem allM_mem{xs:List Nat}{fuel:Nat}{listed:Array Bool}:∀ {r:List Nat} {i:Nat},AllM P n N H0 all Q xs fuel listed ks s r->i∈r->∃ o,nth all i=some o/\Em P n N H0 all o xs s (λs'=>Hv P n N H0 Q (some xs) all fuel (listed.setIfInBounds i true) ks s')
 |[],i,_,h=>by cases h
 |a::r,i,h,hm=>by
   rcases List.mem_cons.1 hm with e|q
   . subst e;exact h.1
   . exact allM_mem h.2 q
theorem veM{xs:List Nat}{fuel:Nat}{listed:Array Bool}(i0:Nat)(r:List Nat)(hr:Region.ready .any all.toArray listed=i0::r)(h:AllM P n N H0 all Q xs fuel listed ks s (i0::r)):Hv P n N H0 Q (some xs) all (fuel+1) listed ks s:=by
 intro F H L Lk ha hL;refine vw_l i0 r hr λi hi=>?_;obtain⟨o,ho,js,hj,he⟩:=allM_mem h hi;rw[Gm_] at ho;have hle:∀ L':Ls,(∀ q,memB js q=false->L' q=L q)->LkR (some xs) Lk L':=λL' hL' q=>by
   rw[hL q]
   cases e:memB xs q with
   |true=>rfl
   |false=>
     refine (hL' q ?_).symm
     cases e2:memB js q with
     |false=>rfl
     |true=>have :=List.all_eq_true.1 hj q (Mo_ e2);rw[e] at this;cases this
 have hlle:∀ L':Ls,(∀ q,memB js q=false->L' q=L q)->LLe Lk L':=λL' hL' q x hx=>by
   have :=hle L' hL' q
   grind
 exact xC
end Go.SW
namespace Go.SW.V
open Go.SW
def F1_(l:Dy_):Int:=
 lt (Ep_ l) λr=>
 (bif !r then
 0
 else (((Fh_ l)-(l.done.length:Int))-(l.waits.length:Int)))
def Hg_(l:Dy_)(Bj_:Int)(block:Int)(least:Int)(s:Bs):Nat->Nat->Bw_->Int×Dy_
 |0,_,_=>default
 | f2+1,v,dk=>(bif decide ((v:Int)<(max least ((((s.length:Int)+64)-1)/64))) then
 lt (Am_ dk (((Bj_*(L_ (⟨dk,l.Bj_,l.gen,l.ready,l.broken,l.done,l.waits⟩:Dy_)))+block)+(v:Int)) (((s++(AO [0] ((((max least ((((s.length:Int)+64)-1)/64))*64)-(s.length:Int))).toNat)).drop (v*64)).take (((v+1)*64)-(v*64)))) λr=>
 (bif !decide (r.1=0) then
 lt (Hf_ (⟨r.2,l.Bj_,l.gen,l.ready,l.broken,l.done,l.waits⟩:Dy_) r.1) λr1=>
 (r1.1,r1.2)
 else Hg_ l Bj_ block least s f2 (v+1) r.2)
 else lt (Cx_ dk) λr2=>
 (bif !decide (r2.1=0) then
 lt (Hf_ (⟨r2.2,l.Bj_,l.gen,l.ready,l.broken,l.done,l.waits⟩:Dy_) r2.1) λr3=>
 (r3.1,r3.2)
 else (0,(⟨r2.2,l.Bj_,l.gen,l.ready,l.broken,l.done,l.waits⟩:Dy_))))
def Ap_(l:Dy_)(Bj_:Int)(block:Int)(least:Int)(s:Bs):Int×Dy_:=
 Hg_ l Bj_ block least s (((max least ((((s.length:Int)+64)-1)/64))-(0:Int)).toNat+1) 0 l.d
theorem ddo_l0(d:Bw_):∀ (ws:List Im_) (c:Int) (ls:List UInt8),(∀ y∈ws,0<=y.at_/\64*y.at_+64<=(ls.length:Int))->(Dr_ d ws c ls).lasts.length=ls.length/\(Dr_ d ws c ls).waits=[]/\(Dr_ d ws c ls).on=d.on/\(Dr_ d ws c ls).armed=d.armed/\(Dr_ d ws c ls).El_=d.El_/\(Dr_ d ws c ls).cut=d.cut
 |[],_,_,_=>⟨rfl,rfl,rfl,rfl,rfl,rfl⟩
 |x::t,c,ls,h=>by
   have hx:=h x (AJ ..)
   have hl:(cpB ls (((x.at_)*64)).toNat ((x.data).take ((max 0 (min c ((x.data).length:Int)))).toNat)).length=ls.length:=Mg_ _ _ _ rV
   have :=ddo_l0 d t (c-(max 0 (min c ((x.data).length:Int)))) (cpB ls (((x.at_)*64)).toNat ((x.data).take ((max 0 (min c ((x.data).length:Int)))).toNat)) (λy hy=>by rw[hl];exact h y (AC _ hy))
   rw[hl] at this
   exact this
theorem ddo_f{d:Bw_}(h:DwOk d)(c:Int):(Fi_ d c).lasts.length=d.lasts.length/\(Fi_ d c).waits=[]/\(Fi_ d c).on=d.on/\(Fi_ d c).armed=d.armed/\(Fi_ d c).El_=d.El_/\(Fi_ d c).cut=d.cut:=
 ddo_l0 d d.waits c d.lasts λy hy=>(h y hy).2
theorem ddown_f{d:Bw_}(h:DwOk d)(c:Int):(Co_ d c).lasts.length=d.lasts.length/\DwOk (Co_ d c)/\(Co_ d c).waits.length<=d.waits.length/\(Co_ d c).El_=d.El_/\(Co_ d c).cut=d.cut:=by
 unfold Co_ lt;have :=ddo_f h c
 cases d.on with
 |false=>exact⟨rfl,h,BB _,rfl,rfl⟩
 |true=>exact⟨this.1,λy hy=>(by simp only[cond_true,this.2.1] at hy;cases hy),(by simp only[cond_true,this.2.1];exact AQ _),this.2.2.2.2.1,this.2.2.2.2.2⟩
theorem dsync_f{d:Bw_}(h:DwOk d)(hs:0<=d.El_):(Cx_ d).2.lasts.length=d.lasts.length/\DwOk (Cx_ d).2/\(Cx_ d).2.waits.length<=d.waits.length/\0<=(Cx_ d).2.El_/\(Cx_ d).2.El_<=d.El_/\(Cx_ d).2.cut=d.cut:=by
 unfold Cx_ lt
 cases ho:d.on with
 |false=>exact⟨rfl,h,BB _,hs,Int.le_refl _,rfl⟩
 |true=>
   simp only[A5,cond_false]
   cases (d.armed && decide (d.El_=0)) with
   |true=>
     have :=ddown_f h d.cut
     exact⟨this.1,this.2.1,this.2.2.1,by simp only[cond_true];omega,by simp only[cond_true];omega,this.2.2.2.2⟩
   |false=>
     have h':DwOk (⟨d.lasts,d.waits,true,d.armed,(max 0 (d.El_-1)),d.cut⟩:Bw_):=h
     have :=ddo_f h' (Hi_ (⟨d.lasts,d.waits,true,d.armed,(max 0 (d.El_-1)),d.cut⟩:Bw_))
     simp only[cond_false]
     exact⟨this.1,λy hy=>(by rw[this.2.1] at hy;cases hy),(by rw[this.2.1];exact AQ _),by rw[this.2.2.2.2.1];simp only[];omega,by rw[this.2.2.2.2.1];simp only[];omega,this.2.2.2.2.2⟩
def PutF(l:Dy_)(m:Int)(r:Int×Dy_):Prop:=r.2.d.lasts.length=l.d.lasts.length/\DwOk r.2.d/\(r.2.d.waits.length:Int)<=l.d.waits.length+m/\0<=r.2.d.El_/\r.2.d.El_<=l.d.El_/\r.2.d.cut=l.d.cut/\r.2.Bj_=l.Bj_/\r.2.gen=l.gen/\r.2.done=l.done/\r.2.waits=l.waits/\(r.1=0->r.2.ready=l.ready/\r.2.broken=l.broken)/\(r.1≠0->r.2.broken=true/\r.2.ready=false)
theorem put_l0(l:Dy_)(Bj_ block least:Int)(s:Bs):∀ (f v:Nat) (dk:Bw_),((max least ((((s.length:Int)+64)-1)/64))-(v:Int)).toNat<f->DwOk dk->0<=dk.El_->PutF (⟨dk,l.Bj_,l.gen,l.ready,l.broken,l.done,l.waits⟩:Dy_) ((max 0 ((max least ((((s.length:Int)+64)-1)/64))-(v:Int)))) (Hg_ l Bj_ block least s f v dk)
 |0,_,_,h,_,_=>by omega
 |f+1,v,dk,h,hw,hs=>by
   rw[Hg_.eq_2]
   unfold lt
   by_cases hc:(v:Int)<(max least ((((s.length:Int)+64)-1)/64))
   . simp only[hc,decide_true,cond_true]
     generalize hX:(((Bj_*(L_ (⟨dk,l.Bj_,l.gen,l.ready,l.broken,l.done,l.waits⟩:Dy_)))+block)+(v:Int))=X
     generalize hY:((s++(AO [0] ((((max least ((((s.length:Int)+64)-1)/64))*64)-(s.length:Int))).toNat)).drop (v*64)).take (((v+1)*64)-(v*64))=Y
     have hf:=Zt_ dk X Y
     have ho:=Se_ hw X Y
     have hcut:(Am_ dk X Y).2.cut=dk.cut:=by
       unfold Am_ lt
       by_cases q:C9_ dk X=0<;>by_cases q2:(64:Int)<Y.length<;>simp[q,q2]
     by_cases hr:(Am_ dk X Y).1=0
     . simp only[hr,decide_true,A5,cond_false]
       have ih:=put_l0 l Bj_ block least s f (v+1) (Am_ dk X Y).2 rV ho rV
       obtain⟨i1,i2,i3,i4,i5,i6,i7⟩:=ih
       simp only[] at i1 i3 i5 i6
       refine⟨by simp only[];omega,i2,by simp only[];omega,i4,by simp only[];omega,by rw[i6];exact hcut,i7⟩
     . simp only[hr,decide_false,AF,cond_true]
       refine⟨hf.2.1,ho,?_,?_,?_,hcut,rfl,rfl,rfl,rfl,λe=>(hr e).elim,λ_=>⟨rfl,rfl⟩⟩
       . have :=hf.2.2.2;simp only[Hf_];omega
       . simp only[Hf_];omega
       . simp only[Hf_];omega
   . simp only[hc,decide_false,cond_false]
     have hf:=dsync_f hw hs
     by_cases hr:(Cx_ dk).1=0
     . simp only[hr,decide_true,A5,cond_false]
       exact⟨hf.1,hf.2.1,by simp only[];omega,hf.2.2.2.1,hf.2.2.2.2.1,hf.2.2.2.2.2,rfl,rfl,rfl,rfl,λ_=>⟨rfl,rfl⟩,λe=>(e Z).elim⟩
     . simp only[hr,decide_false,AF,cond_true]
       exact⟨hf.1,hf.2.1,by simp only[Hf_];omega,hf.2.2.2.1,hf.2.2.2.2.1,hf.2.2.2.2.2,rfl,rfl,rfl,rfl,λe=>(hr e).elim,λ_=>⟨rfl,rfl⟩⟩
theorem put_f{l:Dy_}(Bj_ block least:Int)(s:Bs)(h:DwOk l.d)(hs:0<=l.d.El_):PutF l (max 0 (max least ((((s.length:Int)+64)-1)/64))) (Ap_ l Bj_ block least s):=by
 have :=put_l0 l Bj_ block least s (((max least ((((s.length:Int)+64)-1)/64))-(0:Int)).toNat+1) 0 l.d qB h hs;rw[show ((max least ((((s.length:Int)+64)-1)/64))-((0:Nat):Int))=(max least ((((s.length:Int)+64)-1)/64)) from by simp] at this;exact this
theorem U4_(gen:Int):(Gn_ gen).length=17:=by
 simp only[Gn_,B_,Y_,A1,Z_,numK,A6,A3]<;>first|omega|(simp;done)|(simp;omega)
theorem room_f(l:Dy_):F1_ l<=max 0 (Fh_ l-(l.done.length:Int)-(l.waits.length:Int))/\(l.ready=true->F1_ l=Fh_ l-(l.done.length:Int)-(l.waits.length:Int))/\(l.ready=false->F1_ l=0):=by
 unfold F1_ lt Ep_
 cases l.ready with
 |false=>exact⟨by simp only[AF,cond_true];omega,λh=>qQ,λ_=>rfl⟩
 |true=>exact⟨by simp only[A5,cond_false];omega,λ_=>rfl,λh=>qQ⟩
theorem lcheck_f(l:Dy_):Fv_ l≠0\/(l.ready=true/\l.broken=false):=by
 unfold Fv_
 cases l.broken with
 |true=>left;simp
 |false=>cases l.ready with
   |false=>left;simp
   |true=>right;exact⟨rfl,rfl⟩
theorem sbytes_l0:∀ (rs:List Bs) (x:Bs),((Gl_ rs x).1.length:Int)<=x.length+131081*rs.length
 |[],x=>by simp[Gl_]
 |r::t,x=>by
   rw[Gl_.eq_2]
   cases decide (r=[]) with
   |true=>simp only[cond_true,A6,A3];omega
   |false=>
     simp only[cond_false]
     by_cases h:(131072:Int)<r.length
     . simp only[h,decide_true,cond_true,A6,A3];omega
     . simp only[h,decide_false,cond_false,lt]
       have :=sbytes_l0 t (x++P1_ r)
       have h2:=T5_ r
       simp only[A1,A3] at *
       omega
theorem sbytes_len(rs:List Bs):((Bd_ rs).1.length:Int)<=131081*rs.length:=by
 have :=sbytes_l0 rs [];simpa [Bd_] using this
def I3_(s:Bs):Bs×Int×Int:=
 lt (R_ (⟨s,0⟩) 4) λr=>
 (bif !decide (r.2.err=0) then
 ([],0,r.2.err)
 else (bif decide ((A0 .i64 r.1)=0) then
 ([],0,15)
 else (bif decide (131072<(A0 .i64 r.1)) then
 ([],0,5)
 else (bif decide ((s.length:Int)<((A0 .i64 r.1)+9)) then
 ([],0,3)
 else (bif !decide (((s.getD ((((A0 .i64 r.1)+9)-1)).toNat 0).toNat:Int)=165) then
 ([],0,4)
 else lt (R_ ((Fm_ r.2 (A0 .i64 r.1)).2) 4) λr1=>
 (bif !decide ((K2_ [(s.take (((A0 .i64 r.1)+4)).toNat)])=r1.1) then
 ([],0,14)
 else ((Fm_ r.2 (A0 .i64 r.1)).1,((A0 .i64 r.1)+9),0)))))))
theorem inNum4_r(i:In):IntKind.wrap .i64 (R_ i 4).1=(R_ i 4).1/\0<=IntKind.wrap .i64 (R_ i 4).1/\IntKind.wrap .i64 (R_ i 4).1<=4294967295:=by
 have hl:=Pj_ i (min 4 8);have hlt:=beN_lt (Fm_ i (min 4 8)).1;have key:beN (Fm_ i (min 4 8)).1<256 ^ 4:=Nat.lt_of_lt_of_le hlt (Nat.pow_le_pow_right rV rV);have e:(R_ i 4).1=(beN (Fm_ i (min 4 8)).1:Int):=rfl;rw[e];generalize beN (Fm_ i (min 4 8)).1=n at key;have hw:A0 .i64 (n:Int)=n:=by rw[IntKind.wrap_i64];omega
 rw[hw];omega
theorem snext_f(s:Bs):(I3_ s).2.2≠0\/(10<=(I3_ s).2.1/\(I3_ s).2.1<=s.length/\(I3_ s).1.length<=131072/\((I3_ s).1.length:Int)+9<=(I3_ s).2.1):=by
 have h4:=inNum4_r (⟨s,0⟩:In);unfold I3_ lt;generalize R_ (⟨s,0⟩:In) 4=r at h4;by_cases h1:r.2.err=0;by_cases h2:A0 .i64 r.1=0;left;simp[h1,h2];by_cases h3:131072<A0 .i64 r.1;left;simp[h1,h2,h3];by_cases h5:(s.length:Int)<A0 .i64 r.1+9;left;simp[h1,h2,h3,h5];by_cases h6:((s.getD ((((A0 .i64 r.1)+9)-1)).toNat 0).toNat:Int)=165;simp only[h1,h2,h3,h5,h6,decide_true,decide_false,A5,cond_false];have hl:=Pj_ r.2 (A0 .i64 r.1);by_cases h7:K2_ [(s.take (((A0 .i64 r.1)+4)).toNat)]=(R_ ((Fm_ r.2 (A0 .i64 r.1)).2) 4).1;right;simp only[h7,decide_true,A5,cond_false];refine⟨by omega,by omega,?_,?_⟩<;>omega;left;simp[h7];left;simp only[h1,h2,h3,h5,h6,decide_true,decide_false,A5,AF,cond_false,cond_true];decide;left;simp[h1]
theorem dcheck_0{d:Bw_}{at_:Int}(ho:d.on=true)(h0:0<=at_)(h1:64*at_+64<=(d.lasts.length:Int)):C9_ d at_=0:=by
 unfold C9_ A0_;have h2:¬at_<0:=by omega
 have h3:¬(d.lasts.length:Int)/64<=at_:=by omega
 simp[ho,h2,h3,lt]
theorem don_f(d:Bw_):Ha_ d=d.on:=rfl
theorem Zs_(at_:Int):∀ (ws:List Im_) (b:Bs),(Dq_ at_ ws b).1.length=b.length/\(Dq_ at_ ws b).2=0
 |[],_=>⟨rfl,rfl⟩
 |x::t,b=>by
   rw[Dq_.eq_2]
   by_cases h:x.at_=at_
   . simp only[h,decide_true,cond_true]
     have :=Zs_ at_ t (cpB b 0 x.data)
     rw[Mg_ _ _ _ (AQ _)] at this
     exact this
   . simp only[h,decide_false,cond_false]
     exact Zs_ at_ t b
theorem dread_f{d:Bw_}{at_:Int}(ho:d.on=true)(h0:0<=at_)(h1:64*at_+64<=(d.lasts.length:Int)):(Bn_ d at_).1.length=64/\(Bn_ d at_).2=0:=by
 unfold Bn_ lt;rw[dcheck_0 ho h0 h1];simp only[decide_true,A5,cond_false];have :=Zs_ at_ d.waits (cpB (AZ 64 0) 0 (d.lasts.drop (((at_*64)).toNat)));rw[Mg_ _ _ _ (AQ _),BZ] at this;exact this
def Ot_(s:Bs):Nat->List Bs->Int->(List Bs)×Int
 |0,_,_=>default
 |f2+1,out,used=>lt (I3_ (s.drop (used).toNat)) λr=>
 (bif !decide (r.2.2=0) then
 (out,used)
 else Ot_ s f2 (out++[r.1]) (used+r.2.1))
def Te_(s:Bs):(List Bs)×Int:=
 Ot_ s (((s.length:Int)-0).toNat+1) [] 0
def K1_(l:Dy_)(Bj_:Int)(r:Int×In)(r2:Int):Nat->Nat->Bs->Int×(List Bs)×Bool
 |0,_,_=>default
 | f2+1,v,x=>(bif decide ((v:Int)<(r2-1)) then
 K1_ l Bj_ r r2 f2 (v+1) (x++(Bn_ l.d (((Bj_*(L_ l))+1)+(v:Int))).1)
 else lt (Te_ x) λr3=>
 (r.1,r3.1,true))
def Id_(l:Dy_)(Bj_:Int):Int×(List Bs)×Bool:=
 lt (R_ (⟨(((Bn_ l.d (Bj_*(L_ l))).1).drop 4),0⟩) 8) λr=>
 lt (Gn_ r.1) λr1=>
 (bif !decide ((((Bn_ l.d (Bj_*(L_ l))).1).take r1.length)=r1) then
 (0,[],false)
 else lt (L_ l) λr2=>
 K1_ l Bj_ r r2 (((r2-1)-(0:Int)).toNat+1) 0 [])
def H3_(d:Bw_):Nat->List Bs->Int->Nat->Int->Int->Bool×Bs×(List Bs)×Int×Bw_×Dy_
 |0,_,_,_,_,_=>default
 | f2+1,best,of,v,Bj_,gen=>(bif decide ((v:Int)<2) then
 lt (Id_ (⟨d,Bj_,gen,false,false,[],[]⟩:Dy_) (v:Int)) λr2=>
 (bif !r2.2.2 then
 H3_ d f2 best of (v+1) Bj_ gen
 else (bif ((decide (0<(r2.2.1.length:Int)))&&((decide (Bj_<0))||(decide (of<r2.1)))) then
 H3_ d f2 r2.2.1 r2.1 (v+1) (v:Int) (max gen r2.1)
 else H3_ d f2 best of (v+1) Bj_ (max gen r2.1)))
 else (bif decide (Bj_<0) then
 (true,[],[],0,d,(⟨d,Bj_,gen,false,false,[],[]⟩:Dy_))
 else (true,(gt best 0),(best.drop 1),0,d,(⟨d,Bj_,gen,false,false,[],[]⟩:Dy_))))
def H6_(d:Bw_):Bool×Bs×(List Bs)×Int×Bw_×Dy_:=
 lt (Ha_ d) λr=>
 (bif !r then
 (false,[],[],16,d,(default:Dy_))
 else lt (A0_ d) λr1=>
 (bif decide (r1<4) then
 (false,[],[],7,d,(default:Dy_))
 else H3_ d (2-0+1) [] 0 0 (-1) 0))
def WoF(d:Bw_)(r:Bool×Bs×(List Bs)×Int×Bw_×Dy_):Prop:=(r.1=true->r.2.2.2.1=0/\r.2.2.2.2.2.d=d/\r.2.2.2.2.2.done=[]/\r.2.2.2.2.2.waits=[]/\r.2.2.2.2.2.ready=false/\r.2.2.2.2.2.broken=false /\ -1<=r.2.2.2.2.2.Bj_/\r.2.2.2.2.2.Bj_<=1)/\(r.1=false->r.2.2.2.1≠0)/\r.2.2.2.2.1=d
theorem Vi_(d:Bw_):∀ (f:Nat) (best:List Bs) (of:Int) (v:Nat) (Bj_ gen:Int),(2-(v:Int)).toNat<f->v<=2 -> -1<=Bj_->Bj_<=1->WoF d (H3_ d f best of v Bj_ gen)
 |0,_,_,_,_,_,h,_,_,_=>by omega
 |f+1,best,of,v,Bj_,gen,h,hv,h0,h1=>by
   rw[H3_.eq_2];unfold lt
   by_cases hc:(v:Int)<2
   . simp only[hc,decide_true,cond_true]
     generalize Id_ (⟨d,Bj_,gen,false,false,[],[]⟩:Dy_) (v:Int)=r
     cases r.2.2 with
     |false=>simp only[AF,cond_true];exact Vi_ d f best of (v+1) Bj_ gen rV rV h0 h1
     |true=>
       simp only[A5,cond_false]
       cases (decide (0<(r.2.1.length:Int))&&(decide (Bj_<0) || decide (of<r.1))) with
       |true=>simp only[cond_true];exact Vi_ d f _ _ (v+1) (v:Int) _ rV rV rV rV
       |false=>simp only[cond_false];exact Vi_ d f best of (v+1) Bj_ _ rV rV h0 h1
   . simp only[hc,decide_false,cond_false]
     cases decide (Bj_<0) with
     |true=>exact⟨λ_=>⟨rfl,rfl,rfl,rfl,rfl,rfl,h0,h1⟩,λe=>(by cases e),rfl⟩
     |false=>exact⟨λ_=>⟨rfl,rfl,rfl,rfl,rfl,rfl,h0,h1⟩,λe=>(by cases e),rfl⟩
theorem wopen_f(d:Bw_):WoF d (H6_ d):=by
 unfold H6_ lt
 cases Ha_ d with
 |false=>exact⟨λe=>(by cases e),λ_=>qB,rfl⟩
 |true=>
   simp only[A5,cond_false]
   by_cases h:A0_ d<4
   . simp only[h,decide_true,cond_true]
     exact⟨λe=>(by cases e),λ_=>qB,rfl⟩
   . simp only[h,decide_false,cond_false]
     exact Vi_ d _ [] 0 0 (-1) 0 rV rV rV rV
theorem cpB_mem{xs ys:Bs}{lo:Nat}{y:UInt8}(h:y∈cpB xs lo ys):y∈xs\/y∈ys:=by
 unfold cpB at h
 rcases List.mem_append.1 h with h|h
 exact .inl (C3 h)
 . rcases List.mem_append.1 h with h|h
   exact .inr (C3 h)
   exact .inl (AS h)
def Dk0(d:Bw_):Prop:=(∀ y∈d.lasts,y=0)/\d.waits=[]
theorem dknew0(n:Int):Dk0 (Da_ n):=⟨λ_ h=>E3 h,rfl⟩
theorem dread_0{d:Bw_}(h:Dk0 d)(at_:Int):∀ y∈(Bn_ d at_).1,y=0:=by
 unfold Bn_ lt;by_cases hc:C9_ d at_=0
 . simp only[hc,decide_true,A5,cond_false]
   rw[h.2]
   intro y hy
   rcases cpB_mem hy with q|q
   exact E3 q
   exact h.1 y (AS q)
 . simp only[hc,decide_false,AF,cond_true]
   intro y hy;cases hy
theorem head_83(gen:Int):∃ t,Gn_ gen=83::t:=by
 unfold Gn_ B_ Y_;exact⟨_,rfl⟩
theorem wread_0{l:Dy_}(h:Dk0 l.d)(Bj_:Int):Id_ l Bj_=(0,[],false):=by
 unfold Id_ lt;generalize R_ (⟨(((Bn_ l.d (Bj_*(L_ l))).1).drop 4),0⟩) 8=r;obtain⟨t,ht⟩:=head_83 r.1;have hn:¬(((Bn_ l.d (Bj_*(L_ l))).1).take (Gn_ r.1).length=Gn_ r.1):=by
   intro e
   have h83:(83:UInt8)∈((Bn_ l.d (Bj_*(L_ l))).1).take (Gn_ r.1).length:=by rw[e,ht];exact AJ ..
   have :=dread_0 h (Bj_*(L_ l)) 83 (C3 h83)
   exact absurd this rX
 simp only[hn,decide_false,AF,cond_true]
theorem T8_{d:Bw_}(h:Dk0 d):∀ (f v:Nat) (Bj_ gen of:Int),(2-(v:Int)).toNat<f->Bj_ = -1->H3_ d f [] of v Bj_ gen=(true,[],[],0,d,(⟨d,-1,gen,false,false,[],[]⟩:Dy_))
 |0,_,_,_,_,hf,_=>by omega
 |f+1,v,Bj_,gen,of,hf,ha=>by
   subst ha
   rw[H3_.eq_2];unfold lt
   by_cases hc:(v:Int)<2
   . simp only[hc,decide_true,cond_true]
     rw[wread_0 (l:=(⟨d,-1,gen,false,false,[],[]⟩:Dy_)) h]
     simp only[AF,cond_true]
     exact T8_ h f (v+1) (-1) gen of rV Z
   . simp only[hc,decide_false,cond_false];rfl
theorem wopen_new(n:Int):(H6_ (Da_ n)).2.1=[]:=by
 have h:=dknew0 n;unfold H6_ lt
 cases Ha_ (Da_ n) with
 |false=>rfl
 |true=>
   simp only[A5,cond_false]
   by_cases q:A0_ (Da_ n)<4
   . simp only[q,decide_true,cond_true]
   . simp only[q,decide_false,cond_false]
     rw[T8_ h _ 0 (-1) 0 0 rV rfl]
theorem wopen_new'(n:Int)(hn:4<=n)(hm:n<=4096):H6_ (Da_ n)=(true,[],[],0,Da_ n,(⟨Da_ n,-1,0,false,false,[],[]⟩:Dy_)):=by
 have h:=dknew0 n;unfold H6_ lt;have e:Ha_ (Da_ n)=true:=rfl;have q:¬A0_ (Da_ n)<4:=by
   unfold A0_ Da_
   simp only[BZ];omega
 simp only[e,q,decide_false,A5,cond_false];exact T8_ h _ 0 (-1) 0 0 rV Z
def Bb_(l:Dy_)(image:Bs):Int×Dy_:=
 (bif l.broken then
 (21,l)
 else (bif !decide (((Bd_ [image]).2)=0) then
 ((Bd_ [image]).2,l)
 else lt (Fh_ l) λr=>
 (bif decide (r<(((Bd_ [image]).1).length:Int)) then
 (17,l)
 else (bif decide (l.gen=18446744073709551615) then
 (18,l)
 else (bif decide (l.Bj_=0) then
 lt (Ap_ l 1 0 1 []) λr1=>
 (bif !decide (r1.1=0) then
 (r1.1,r1.2)
 else lt (L_ r1.2) λr2=>
 lt (Ap_ r1.2 1 1 (r2-1) ((Bd_ [image]).1)) λr3=>
 (bif !decide (r3.1=0) then
 (r3.1,r3.2)
 else lt (Gn_ (A0 .u64 (r3.2.gen+1))) λr4=>
 lt (Ap_ r3.2 1 0 1 r4) λr5=>
 (bif !decide (r5.1=0) then
 (r5.1,r5.2)
 else (0,(⟨r5.2.d,1,(A0 .u64 (r5.2.gen+1)),true,r5.2.broken,(Bd_ [image]).1,[]⟩:Dy_)))))
 else lt (Ap_ l 0 0 1 []) λr6=>
 (bif !decide (r6.1=0) then
 (r6.1,r6.2)
 else lt (L_ r6.2) λr7=>
 lt (Ap_ r6.2 0 1 (r7-1) ((Bd_ [image]).1)) λr8=>
 (bif !decide (r8.1=0) then
 (r8.1,r8.2)
 else lt (Gn_ (A0 .u64 (r8.2.gen+1))) λr9=>
 lt (Ap_ r8.2 0 0 1 r9) λr10=>
 (bif !decide (r10.1=0) then
 (r10.1,r10.2)
 else (0,(⟨r10.2.d,0,(A0 .u64 (r10.2.gen+1)),true,r10.2.broken,(Bd_ [image]).1,[]⟩:Dy_))))))))))
end Go.SW.V
namespace Go.SW
end Go.SW
namespace Go.SW
open Go.MapKept
variable{P:Program}{n:Nat}{N:Rest}{ops:List Oper}{F:Fr}{H:Hp}{L:Ls}{K:Fr->Hp->Ls->Prop}{T ty d:Nat}{pos:String}{af:Array Edge}{x y z:Operand}{κ ν:Type}
end Go.SW
namespace Go.SW.V
open Go.SW
variable{P:Program}{n:Nat}{N:Rest}{H0:Env}{all rest:List Oper}{Q:Qs}{ks:List Kt}{fF:Nat->PV}{fL:Nat->Blk}{T ty d:Nat}{pos:String}{af:Array Edge}{x y z:Operand}{K:St->Prop}{κ ν:Type}
end Go.SW.V
namespace Go.SW
variable{P:Program}{n:Nat}{N:Rest}{H0:Env}{all rest:List Oper}{Q:Qs}{ks:List Kt}{s:St}{T T' T2 ty d:Nat}{pos:String}{af:Array Edge}{x y z:Operand}{K:St->Prop}{op:Op}{p:PV}
structure Fx{α:Type}(P:Program)(G:Gb)(f:FuncId)(a0:PV)(args:List PV)(res:PV)(k e:Nat)(enc:α->List PV)(xs:List α):Prop where
 cb:S_ P f
 no:res.noOsl=true
 run:∀ (N:Rest) (H:Hp) (L:Ls) (w:World) (i:Nat) (v0 u:Value) (vs:List Value),G.p H->SimB (λ_=> .no) H (.arr u k e enc xs) (L i)->Sims H (a0::args) (v0::vs)->Mem N H L w ->
   Calls P f (v0::u::vs).toArray w λe' w'=>∃ v H',e' = .returned v/\Sim H' res v/\HLe H H'/\Mem N H' (lupd L i none) w'
theorem fx_cw{α:Type}{tb:Tb}{G:Gb}{m:Nat}{f:FuncId}{fn:Func}{c:Code}{a0:PV}{args:List PV}{res:PV}{k e:Nat}{enc:α->List PV}{xs:List α}(ht:tbB P tb=true)(hf:P.funcs[f]? = some fn)(hb:fn.body=some c)(hn:fn.ntmps=m)(hs:Nat.ble (args.length+2) m=true)(hcb:S_ P f)(hno:res.noOsl=true)(hna:Df_ (a0::args)=true)
   (h:PV.wfs (a0::args)->xs.length<=140737488355328->∀ u N H,G.p H->Hd P m N ⟨H,G⟩ (rtK tb fn.results.toList res) (.code c) [] ⟨O8_ (a0 :: .osl 0::args),lups (λ_=> .no) 0 (.arr u k e enc xs)⟩):Fx P G f a0 args res k e enc xs:=by
 refine⟨hcb,hno,λN H L w i v0 u vs hg hB hsim hm=>?_⟩;subst hn;have key:Pl P f (v0::u::vs).toArray H (L i) (λv H' _=>Sim H' res v):=by
   refine pl_of_cw hf hb (by have :=BM hs;have :=hsim.1;simp at this ⊢;omega) λN=>?_
   have hlen:xs.length<=140737488355328:=by obtain⟨_,_,_,q⟩:=hB;exact q
   have h1:=h hsim.wf hlen u N H hg (K7_ (v0::u::vs).toArray) H (ofE (L i)) ⟨.refl H,hg,λt=>?_,λj=>?_⟩
   . refine Km_ (λe' F' H' L' hq=>?_) h1
     obtain⟨s',ha',hq'⟩:=hq
     obtain⟨he,v,hr,hv⟩:=Os_ (N:=N) ht ha' hq'
     rcases he with rfl|rfl
     . exact⟨v,hr,ha'.le,0,hv⟩
     . exact⟨v,hr,ha'.le,0,hv⟩
   . have hi:=L8_ (sL:=lups (λ_=> .no) 0 (.arr u k e enc xs)) hsim hna
     match t with
     |0=>simpa [O8_,nth,K7_] using hi 0
     |1=>simp[O8_,nth,SimT,C1_,K7_]
     |t+2=>simpa [O8_,nth,K7_] using hi (t+1)
   . by_cases e1:j=0
     . exact sW
     . simp only[F2_ _ _ _ _ e1];trivial
 refine (key N L w i Z hm).mono λ_ _ ⟨v,H',en,h1,h5,h3,h4⟩=>⟨v,H',h1,h5,h3,?_⟩;have h6:=h4.clear i;have heq:lupd (lupd L i en) i none=lupd L i none:=funext λj=>by
   by_cases q:j=i
   . subst q;rw[Cc_,Cc_]
   . rw[B7_ _ _ _ _ q,B7_ _ _ _ _ q,B7_ _ _ _ _ q]
 rwa [heq] at h6
theorem ecallx'{α:Type}{f:FuncId}{a0:PV}{args:List PV}{res:PV}{i k e k2 e2:Nat}{enc:α->List PV}{xs:List α}{u:Value}{as0:Array Operand}{ats:Array TypeId}(h:Fx P H0.g f a0 args res k e enc xs)(hx:evP s.F x = .fn f [] [])(ha:evPs s.F as0.toList=a0 :: .osl i::args)(hna:Df_ (a0::args)=true)(hb:s.L i = .arr u k2 e2 enc xs)(hk:k2=k)(he2:e2=e)(hd:Nat.blt d n=true)
   (kk:res.wf->K ⟨updp (Jb_ i s.F) d res,lups (Gx_ i s.L) i .no⟩):E1 P n N H0 all ⟨some d, .call ⟨.value x,as0,ats⟩,ty,pos,af,none⟩ (some i) s K:=by
 intro F H L hab;subst hk;subst he2;have h1:=(Cn_ hab.f x).sim;rw[hx] at h1;obtain⟨v1,v2,ex,h2,h3⟩:=h1.inv_fn
 cases h2.inv_nil
 cases h3.inv_nil
 have hsT:=Z0_ (Ls:=s.L) (H:=H) (F:=F) (G:=s.F) (xs:=as0.toList) λy _=>Cn_ hab.f y;rw[ha] at hsT;have hB:=hab.l i;rw[hb] at hB
 cases hev:evs F as0.toList with
 |nil=>have :=hsT.1;rw[hev] at this;simp at this
 |cons v0 vs1=>cases vs1 with
   |nil=>have :=hsT.1;rw[hev] at this;simp at this
   |cons v1 vs=>
   rw[hev] at hsT
   have h4:=hsT.2 1 _ _ Z Z
   simp only[SimT,hb] at h4
   subst h4
   have h5:Sims H (a0::args) (v0::vs):=by
     obtain⟨q,r,e3,q1,q2⟩:=hsT.sims.inv_cons
     cases e3
     obtain⟨q',r',e4,_,q4⟩:=q2.inv_cons
     cases e4
     exact q4.cons q1
   have hen:En P (.call ⟨.value x,as0,ats⟩) F f (v0::v1::vs).toArray:=by
     have :=en_any (ats:=ats) (xs:=as0) ex h.cb
     grind
   intro a w hA hm
   rw[if_pos qD]
   unfold BC
   rw[hA.eval,hen]
   refine (h.run N H L w i v0 v1 vs hab.g hB h5 hm).mono λe' w' ⟨v,H',he,hv,hl,hm'⟩=>?_
   subst he
   exact⟨_,H',_,hA.put qF v,hm',hl,only,_,Abs.put (p:=res) ((hab.mono hl).turn i (B:= .no) (x:=none) U) d (hv.simT h.no),kk hv.wf⟩
end Go.SW
namespace Go.SW.V
open Go.SW
variable{P:Program}{n:Nat}{N:Rest}{H0:Env}{all rest:List Oper}{Q:Qs}{ks:List Kt}{fF:Nat->PV}{fL:Nat->Blk}{T T' T2 ty d:Nat}{pos:String}{af:Array Edge}{x y z:Operand}{K:St->Prop}{op:Op}{p:PV}
theorem ecallx{α:Type}{f:FuncId}{a0:PV}{args:List PV}{res:PV}{i k e k2 e2:Nat}{enc:α->List PV}{xs:List α}{u:Value}{as0:Array Operand}{ats:Array TypeId}(h:Fx P H0.g f a0 args res k e enc xs)(hx:evP fF x = .fn f [] [])(ha:evPs fF as0.toList=a0 :: .osl i::args)(hna:Df_ (a0::args)=true)(hb:fL i = .arr u k2 e2 enc xs)(hk:k2=k)(he2:e2=e)(hd:Nat.blt d n=true)
   (kk:res.wf->K ⟨updp (Jb_ i fF) d res,lups (Gx_ i fL) i .no⟩):E1 P n N H0 all ⟨some d, .call ⟨.value x,as0,ats⟩,ty,pos,af,none⟩ (some i) ⟨fF,fL⟩ K:=
 SW.ecallx' (s:=⟨fF,fL⟩) h hx ha hna hb hk he2 hd kk
end Go.SW.V
namespace Go.SW
variable{P:Program}{n:Nat}{N:Rest}{H0:Env}
end Go.SW
namespace Go.SW.V
open Go.SW
variable{P:Program}{n:Nat}{N:Rest}{H0:Env}{fF:Nat->PV}{fL:Nat->Blk}
end Go.SW.V
namespace Go.SW
variable{P:Program}
def EqI(P:Program)(d:Nat)(e:TypeId)(k:Nat)(xs ys:List Value)(is:List Nat)(r:Bool):Prop:=∀ w,(FH d e k xs.toArray ys.toArray is).run P w = .ok r w
theorem eqv_arr{d n k:Nat}{t e:TypeId}{xs ys:List Value}{r:Bool}(is:List Nat)(hu:P.underlying t=some (.array n e)){de:TypeDesc}(he:P.underlying e=some de)(hk:P.cellsOf e=k)(hr:List.range n=is)(h:EqI P d e k xs ys is r):EqV P (d+1) t (.agg xs.toArray) (.agg ys.toArray) r:=λw=>by
 obtain⟨i,hi⟩:=info_of_underlying he
 rw[run_equalIn_array w d xs.toArray ys.toArray hu hi,hk,hr]
 exact h w
theorem eqi_nil{d k:Nat}{e:TypeId}{xs ys:List Value}:EqI P d e k xs ys [] true:=λw=>by simp[FH]
theorem eqi_step{d k i:Nat}{e:TypeId}{xs ys:List Value}{is:List Nat}{a b:Value}{r r':Bool}(ha:∀ w,(part e xs.toArray (i*k)).run P w = .ok a w)(hb:∀ w,(part e ys.toArray (i*k)).run P w = .ok b w)(h:EqV P d e a b r)(kk:EqI P d e k xs ys is r'):EqI P d e k xs ys (i::is) (r&&r'):=λw=>by
 simp only[FH,Sem.run_bind,ha w,Result.andThen_ok,hb w,h w]
 cases r
 . simp
 . simpa using kk w
theorem Qu_{d k i:Nat}{e:TypeId}{xs ys:List Value}{is:List Nat}{a b:Value}{r r':Bool}(hg:Ag P e false)(hx:xs[i*k]? = some a)(hy:ys[i*k]? = some b)(h:EqV P d e a b r)(kk:EqI P d e k xs ys is r'):EqI P d e k xs ys (i::is) (r&&r'):=eqi_step (part_1 hg hx) (part_1 hg hy) h kk
theorem eqi_A{d k i:Nat}{e:TypeId}{xs ys vs us:List Value}{is:List Nat}{r r':Bool}(hg:Ag P e true)(hk:Sz P e k)(hx:sub xs (i*k) k=vs)(hy:sub ys (i*k) k=us)(h:EqV P d e (.agg vs.toArray) (.agg us.toArray) r)(kk:EqI P d e k xs ys is r'):EqI P d e k xs ys (i::is) (r&&r'):=eqi_step (part_A hg hk hx) (part_A hg hk hy) h kk
end Go.SW
namespace Go.SW
variable{P:Program}{n:Nat}{N:Rest}{H0:Env}
theorem callgF'{all rest:List Oper}{Q:Qs}{ks:List Kt}{s:St}{f:FuncId}{args:List PV}{res:PV}{x:Operand}{xs:Array Operand}{ats:Array TypeId}{ty d j:Nat}{want g:Bool}{pos:String}{af:Array Edge}(hg:gOp s all j want=some g)(h:g=true->Fn P H0.g f args res)(ha:argsP (strG (Kc_ (x::xs.toList)) s.F) x xs.toList=some (f,args))(hc:AllP (Pe_ s.F g (Kc_ (x::xs.toList)) []))(hno:L3_ s.F (Kc_ (x::xs.toList))=true)(hd:Nat.blt d n=true)
   (k:(g=true->res.wf)->Hd P n N H0 Q (.ops all rest) ks ⟨updp s.F d (.gv g res),s.L⟩):Hd P n N H0 Q (.ops all (⟨some d, .call ⟨.value x,xs,ats⟩,ty,pos,af,some (j,want)⟩::rest)) ks s:=by
 intro F H L hab;obtain⟨c,b,hy,hge⟩:=Q3_ hab hg;refine ow_gd hy hd (λe=>?_) (λe=>?_);exact xV;exact xU
end Go.SW
namespace Go.SW.V
open Go.SW
variable{P:Program}{n:Nat}{N:Rest}{H0:Env}{fF:Nat->PV}{fL:Nat->Blk}
theorem callgF{all rest:List Oper}{Q:Qs}{ks:List Kt}{f:FuncId}{args:List PV}{res:PV}{x:Operand}{xs:Array Operand}{ats:Array TypeId}{ty d j:Nat}{want g:Bool}{pos:String}{af:Array Edge}(hg:gOp ⟨fF,fL⟩ all j want=some g)(h:g=true->Fn P H0.g f args res)(ha:argsP (strG (Kc_ (x::xs.toList)) fF) x xs.toList=some (f,args))(hc:AllP (Pe_ fF g (Kc_ (x::xs.toList)) []))(hno:L3_ fF (Kc_ (x::xs.toList))=true)(hd:Nat.blt d n=true)
   (k:(g=true->res.wf)->Hd P n N H0 Q (.ops all rest) ks ⟨updp fF d (.gv g res),fL⟩):Hd P n N H0 Q (.ops all (⟨some d, .call ⟨.value x,xs,ats⟩,ty,pos,af,some (j,want)⟩::rest)) ks ⟨fF,fL⟩:=SW.callgF' (s:=⟨fF,fL⟩) hg h ha hc hno hd k
end Go.SW.V
namespace Go.SW
def MlOk(m:Mail):Prop:=m.head.length<=8/\0<=m.hops/\m.hops<=4/\m.key.length<=64
def T9_(l:List V_):Prop:=(l.map λx=>x.Ad_.id).Pairwise (· < ·)
def LnOk(l:As_):Prop:=l.items.length<=64/\(∀ x∈l.items,MlOk x.Ad_)/\T9_ l.items
def RiOk(x:Ag_):Prop:=x.kept.length<=16/\∀ m∈x.kept,m.head.length<=8
def RwsOk(l:List Hh_):Prop:=l.length<=8/\(∀ r∈l,LnOk r.l)/\(l.map (·.q.name)).Nodup
def StkOk(s:I_):Prop:=RwsOk s.rows/\(∀ i,i<16->RiOk (s.rises.get i))/\0<=s.bytes/\s.bytes<=1000000
def BkOk(b:Az_):Prop:=b.D3_.length<=8/\b.binds.length<=32/\∀ y∈b.binds,y.key.length<=1000
def PoOk(p:F_):Prop:=0<p.places.length/\p.places.length<=16/\0<p.slots.length/\p.slots.length<=32/\p.grants.length<=8/\(∀ g∈p.grants,0<=g.frm/\g.frm<p.places.length/\0<=g.to'/\g.to'<p.places.length/\0<=g.budget/\g.budget<=16)/\∀ x∈p.places,0<=x.bytes/\x.bytes<=65536
def PrOk(x:Ac_):Prop:=BkOk x.book/\StkOk x.E_/\x.notes.kept.length<=32/\∀ i,i<8->0<=(x.spent.get i).count/\(x.spent.get i).count<=16
def DdOk(d:G_):Prop:=d.bind.key.length<=1000/\d.bind.want.length<=1000/\d.Ad_.head.length<=1000/\d.Ad_.key.length<=1000
def StOk(s:D_):Prop:=PrOk s.x/\PoOk s.U_/\0<=s.place/\s.place<s.U_.places.length
theorem Sw_:LnOk ⟨[]⟩:=⟨Nat.zero_le _,(λ_ h=>by cases h),List.Pairwise.nil⟩
theorem LnOk.sub{l m:As_}(h:LnOk l)(hs:m.items.Sublist l.items):LnOk m:=⟨Nat.le_trans hs.length_le h.1,λx hx=>h.2.1 x (hs.subset hx),h.2.2.sublist (hs.map _)⟩
theorem RwsOk.at{l:List Hh_}(h:RwsOk l){k:Nat}{x:Hh_}(hx:l[k]? = some x):LnOk x.l:=h.2.1 x (A2 hx)
theorem Ps_{α β:Type}(f:α->β):∀ (l:List α) (k:Nat) (x y:α),l[k]? = some x->f y=f x->(l.set k y).map f=l.map f
 |[],_,_,_,h,_=>by cases h
 |a::r,0,x,y,h,e=>by simp at h;subst h;simp[e]
 |a::r,k+1,x,y,h,e=>by simpa using Ps_ f r k x y qU e
theorem RwsOk.set{l:List Hh_}(h:RwsOk l){k:Nat}{x y:Hh_}(hx:l[k]? = some x)(hn:y.q.name=x.q.name)(hy:LnOk y.l):RwsOk (l.set k y):=by
 refine⟨by simpa using h.1,λr hr=>?_,?_⟩
 . rcases CE hr with q|q
   exact h.2.1 r q
   exact q ▸ hy
 rw[Ps_ (λr:Hh_=>r.q.name) l k x y hx hn];exact h.2.2
theorem RwsOk.sub{l m:List Hh_}(h:RwsOk l)(hs:m.Sublist l):RwsOk m:=⟨Nat.le_trans hs.length_le h.1,λr hr=>h.2.1 r (hs.subset hr),(hs.map _).nodup h.2.2⟩
theorem StkOk.set{s:I_}(h:StkOk s){v:Ag_}(m:Nat)(hm:m<16)(hv:RiOk v):StkOk {s with rises:=s.rises.set v m}:=by
 refine⟨h.1,λi hi=>?_,h.2.2⟩;show RiOk ((s.rises.set v m).get i);rw[V.A16.get_set _ _ _ _ hm hi]
 split
 exact hv;exact h.2.1 i hi
theorem StOk.stk{s:D_}(h:StOk s):StkOk s.x.E_:=h.1.2.1
end Go.SW
namespace Go.SW.V
open Go.SW
def Iq_(l:List Bs)(s:Bs):(List Bs):=
 (bif decide (s∈l) then
 l
 else (l++[s]))
def Dd_(b:Az_)(x:W_):Az_×Int:=
 (bif !decide ((P2_ x)=0) then
 (b,P2_ x)
 else (bif (((H1_ b.D3_ x.name).isSome)&&(decide (x=((H1_ b.D3_ x.name).getD W_.zero)))) then
 (b,0)
 else (bif (H1_ b.D3_ x.name).isSome then
 (b,9)
 else (bif decide (8<=(b.D3_.length:Int)) then
 (b,12)
 else ((⟨[b.D3_,[x]].flatten,b.binds⟩:Az_),0)))))
def Fe_(b:Az_)(x:O_):Int:=
 (idxP (λz_4:O_=>decide (x=z_4)) b.binds)
theorem put_len(l:List Bs)(s:Bs):(Iq_ l s).length<=l.length+1:=by
 unfold Iq_
 cases decide (s∈l)<;>simp
theorem there_r(b:Az_)(x:O_):-1<=Fe_ b x/\Fe_ b x<b.binds.length:=Q4_ _ _
def B0_(b:Az_)(x:O_):Az_×Int:=
 (bif !((H1_ b.D3_ x.Bl_).isSome) then
 (b,10)
 else (bif decide ((((H1_ b.D3_ x.Bl_).getD W_.zero).sort)=4) then
 (b,8)
 else (bif !decide ((Gp_ x.to')=0) then
 (b,Gp_ x.to')
 else (bif !decide ((Xo_ (M5_ x (((H1_ b.D3_ x.Bl_).getD W_.zero).sort)))=0) then
 (b,Xo_ (M5_ x (((H1_ b.D3_ x.Bl_).getD W_.zero).sort)))
 else lt (Fe_ b x) λr=>
 (bif decide (0<=r) then
 (b,0)
 else (bif decide (32<=(b.binds.length:Int)) then
 (b,12)
 else ((⟨b.D3_,[b.binds,[x]].flatten⟩:Az_),0)))))))
def Bq_(b:Az_)(Bl_:Bs)(key:Bs)(h:List Pair):List O_->List Bs->List Bs->(List Bs)×(List Bs)×Int
 |[],queues,places=>(queues,places,0)
 | x::t,queues,places=>(lt1 ((bif !decide ((x.Bl_)=Bl_) then
 (!decide ((x.Bl_)=Bl_))
 else (!(Tr_ (M5_ x (((H1_ b.D3_ Bl_).getD W_.zero).sort)) key h)))) (λv=>
 (bif v then
 Bq_ b Bl_ key h t queues places
 else (bif x.up then
 lt (Iq_ places (x.to')) λr=>
 Bq_ b Bl_ key h t queues r
 else lt (Iq_ queues (x.to')) λr1=>
 Bq_ b Bl_ key h t r1 places))))
def Cs_(b:Az_)(Bl_:Bs)(key:Bs)(h:List Pair):(List Bs)×(List Bs)×Int:=
 (bif !((H1_ b.D3_ Bl_).isSome) then
 ([],[],10)
 else (bif decide ((((H1_ b.D3_ Bl_).getD W_.zero).sort)=4) then
 ([],[((H1_ b.D3_ Bl_).getD W_.zero).to'],0)
 else Bq_ b Bl_ key h b.binds [] []))
def Fz_(l:List G_):List G_->Bool
 |[]=>(decide ((l.length:Int)<=40))
 | x::t=>(bif !(Sq_ x) then
 false
 else Fz_ l t)
def Kq_(l:List G_):Bool:=
 Fz_ l l
def Eo_(n:Int)(least:Int)(most:Int):Bool:=
 ((decide (least<=n))&&(decide (n<=most)))
def Ij_(a:Cr_)(b:Cr_):Bool:=
 ((decide (a.level<=b.level))&&(decide ((A0 .u32 ((AA (A9 .u32) a.set_ &&& ~~~ AA (A9 .u32) b.set_).toNat))=0)))
def B3_(p:F_)(i:Int):Bool:=
 (Eo_ i 0 ((p.places.length:Int)-1))
def Ng_(x:Av_)(x1:Bs):Bool:=
 (decide (x.name=x1))
def Kx_(x:Bv_)(x1:Int)(x2:Int):Bool:=
 ((decide (x.frm=x1))&&(decide (x.to'=x2)))
def Lc_(n:By_):Int:=
 n.total
def My_(p:F_)(tick:Int):Int:=
 (tick/(p.slots.length:Int))
def M_(m:Mail):Mail:=
 m
def Dt_(m:Mail):Int:=
 ((Dj_ m).length:Int)
def Cw_(x:V_):V_:=
 lt (M_ x.Ad_) λr=>
 (⟨r,x.lent,x.again⟩:V_)
def line_all(x0:Mail):Bool:=
 true
def U9_(x:V_)(x1:Int):Bool:=
 (decide (x.Ad_.id=x1))
def Ft_(l:As_):Int:=
 (l.items.length:Int)
def Tv_(m:Mail)(x1:Int):Bool:=
 ((!decide (m.due=0))&&(decide (m.due<=x1)))
def Ks_(x:V_):Bool:=
 ((!x.lent)&&(line_all x.Ad_))
def J2_(x:V_)(x1:Int):Bool:=
 ((!x.lent)&&(Tv_ x.Ad_ x1))
theorem Xr_(m:Mail):0<=Dt_ m/\Dt_ m<=3000:=by
 have :=Ge_ m;simp only[Dt_];omega
def F8_(p:F_)(from_:Int)(to_:Int):Bool:=
 ((((!decide (from_=to_))&&(B3_ p from_))&&(B3_ p to_))&&(Ij_ ((gt p.places ((from_).toNat)).label) ((gt p.places ((to_).toNat)).label)))
def Dz_(p:F_)(name:Bs):Int:=
 (idxP (λz_4:Av_=>(Ng_ z_4 name)) p.places)
def Bf_(p:F_)(from_:Int)(to_:Int):Int:=
 (idxP (λz_5:Bv_=>(Kx_ z_5 from_ to_)) p.grants)
def D7_(n:By_)(x:Ea_):By_×Int:=
 (bif decide (64<(x.text.length:Int)) then
 (n,5)
 else (bif decide (n.total=18446744073709551615) then
 (n,18)
 else ((⟨(A0 .u64 (n.total+1)),(([n.kept,[x]].flatten).drop ((max 0 ((([n.kept,[x]].flatten).length:Int)-32))).toNat)⟩:By_),0)))
def H8_(n:By_)(number:Int):Ea_×Bool:=
 (bif ((decide (number<=(A0 .u64 (n.total-(n.kept.length:Int)))))||(decide (n.total<number))) then
 ((⟨0,0,[]⟩:Ea_),false)
 else ((gt n.kept (((A0 .u64 ((A0 .u64 (number-(A0 .u64 (n.total-(n.kept.length:Int)))))-1))).toNat)),true))
def Ms_(n:By_):(List Ea_):=
 n.kept
def D2_(l:As_)(id:Int):Int:=
 (idxP (λz_4:V_=>(U9_ z_4 id)) l.items)
def Hj_(l:As_)(m:Mail):Int:=
 (bif !decide ((Ja_ m)=0) then
 (Ja_ m)
 else (bif ((decide (0<(l.items.length:Int)))&&(decide (m.id<=((gt l.items ((((l.items.length:Int)-1)).toNat)).Ad_.id)))) then
 13
 else (bif decide (64<=(l.items.length:Int)) then
 12
 else 0)))
def Fq_(l:As_):Int:=
 (idxP (λz_4:V_=>(Ks_ z_4)) l.items)
def Gh_(l:As_)(so:Int):Int:=
 (idxP (λz_4:V_=>(J2_ z_4 so)) l.items)
theorem idxP_gt{α:Type}[Inhabited α]{p:α->Bool}{l:List α}(h:0<=idxP p l):p (gt l (idxP p l).toNat)=true:=by
 have hb:=Q4_ p l;exact (idxP_get rV (getG (xs:=l) (k:=(idxP p l).toNat) rV)).1
theorem find_b(p:F_)(n:Bs):-1<=Dz_ p n/\Dz_ p n<p.places.length:=Q4_ _ _
theorem grant_b(p:F_)(a b:Int):-1<=Bf_ p a b/\Bf_ p a b<p.grants.length:=Q4_ _ _
theorem grant_to{p:F_}{a b:Int}(h:0<=Bf_ p a b):(gt p.grants (Bf_ p a b).toNat).frm=a/\(gt p.grants (Bf_ p a b).toNat).to'=b:=by
 have :=idxP_gt h;simp only[Kx_,A4] at this;exact⟨of_decide_eq_true this.1,of_decide_eq_true this.2⟩
theorem lof_b(l:As_)(id:Int):-1<=D2_ l id/\D2_ l id<l.items.length:=Q4_ _ _
theorem lof_at{l:As_}{id:Int}(h:0<=D2_ l id):(gt l.items (D2_ l id).toNat).Ad_.id=id:=by
 have :=idxP_gt h;exact of_decide_eq_true this
theorem Vb_(l:As_):-1<=Fq_ l/\Fq_ l<l.items.length:=Q4_ _ _
theorem llate_b(l:As_)(t:Int):-1<=Gh_ l t/\Gh_ l t<l.items.length:=Q4_ _ _
theorem lcheck_ok{l:As_}{m:Mail}(h:Hj_ l m=0):Ja_ m=0/\l.items.length<64/\(l.items.length=0\/(gt l.items ((l.items.length:Int)-1).toNat).Ad_.id<m.id):=by
 unfold Hj_ at h
 cases e1:decide (Ja_ m=0) with
 |false=>rw[e1] at h;simp at h;simp[h] at e1
 |true=>
   rw[e1] at h
   simp only[A5,cond_false] at h
   cases e2:((decide (0<(l.items.length:Int)))&&(decide (m.id<=((gt l.items ((((l.items.length:Int)-1)).toNat)).Ad_.id)))) with
   |true=>rw[e2] at h;cases h
   |false=>
     rw[e2] at h
     cases e3:decide (64<=(l.items.length:Int)) with
     |true=>rw[e3] at h;cases h
     |false=>
       simp only[Bool.and_eq_false_iff,decide_eq_false_iff_not] at e2
       simp at e3 e1
       exact⟨e1,by omega,by omega⟩
theorem mlOk_of{m:Mail}(h:Ja_ m=0)(h0:0<=m.hops):MlOk m:=by
 obtain⟨_,h2,h3,_,h5⟩:=Ol_ h;exact⟨(M8_ h3).1,h0,h5,h2⟩
theorem nadd_len{n:By_}{x:Ea_}(h:n.kept.length<=32):(D7_ n x).1.kept.length<=32:=by
 unfold D7_
 cases decide (64<(x.text.length:Int)) with
 |true=>exact h
 |false=>
   cases decide (n.total=18446744073709551615) with
   |true=>exact h
   |false=>simp;omega
end Go.SW.V
namespace Go.SW.V
open Go.SW
theorem gt_set{α:Type}[Inhabited α]{xs:List α}{k:Nat}{y:α}(h:k<xs.length):gt (xs.set k y) k=y:=by
 simp[gt,h]
end Go.SW.V
namespace Go.SW.V
open Go.SW
theorem grant_in{p:F_}(h:PoOk p)(a b:Int):0<=Bf_ p a b->0<=b/\b<p.places.length/\0<=(gt p.grants (Bf_ p a b).toNat).budget/\(gt p.grants (Bf_ p a b).toNat).budget<=16:=λh0=>by
 have hb:=grant_b p a b
 have ht:=grant_to h0
 have hg:=h.2.2.2.2.2.1 _ (A2 (getG (xs:=p.grants) (k:=(Bf_ p a b).toNat) rV))
 omega
def Gd_(l:As_)(x:V_):As_×Int:=
 lt (Hj_ l x.Ad_) λr=>
 (bif !decide (r=0) then
 (l,r)
 else lt (Cw_ x) λr1=>
 ((⟨[l.items,[r1]].flatten⟩:As_),0))
def Dm_(l:As_)(m:Mail):As_×Int:=
 lt (Gd_ l (⟨m,false,false⟩:V_)) λr=>
 (r.1,r.2)
def A9_(l:As_)(id:Int):As_×V_×Int:=
 lt (D2_ l id) λr=>
 (bif decide (r<0) then
 (l,(⟨(⟨0,[],[],[],[],0,0⟩:Mail),false,false⟩:V_),10)
 else lt (Cw_ (gt l.items ((r).toNat))) λr1=>
 ((⟨[(l.items.take (r).toNat),(l.items.drop ((r+1)).toNat)].flatten⟩:As_),r1,0))
def Ey_(l:As_)(k:Int):Mail×Bool:=
 (bif decide (k<0) then
 ((⟨0,[],[],[],[],0,0⟩:Mail),false)
 else lt (M_ ((gt l.items ((k).toNat)).Ad_)) λr=>
 (r,true))
def Cb_:List V_->Int->Int
 |[],n=>n
 |x::t,n=>lt (Dt_ (x.Ad_)) λr=>
 Cb_ t (n+r)
def Fp_(l:As_):Int:=
 Cb_ l.items 0
def Eb_(l:As_):As_×V_×Bool:=
 lt (Fq_ l) λr=>
 (bif decide (r<0) then
 (l,(⟨(⟨0,[],[],[],[],0,0⟩:Mail),false,false⟩:V_),false)
 else lt (Cw_ (gt (l.items.set ((r).toNat) (⟨(gt l.items ((r).toNat)).Ad_,true,(gt l.items ((r).toNat)).again⟩:V_)) ((r).toNat))) λr1=>
 ((⟨(l.items.set ((r).toNat) (⟨(gt l.items ((r).toNat)).Ad_,true,(gt l.items ((r).toNat)).again⟩:V_))⟩:As_),r1,true))
def Fo_(l:As_)(id:Int):As_×Int:=
 lt (D2_ l id) λr=>
 (bif decide (r<0) then
 (l,10)
 else (bif !((gt l.items ((r).toNat)).lent) then
 (l,13)
 else ((⟨((l.items.set ((r).toNat) (⟨(gt l.items ((r).toNat)).Ad_,false,(gt l.items ((r).toNat)).again⟩:V_)).set ((r).toNat) (⟨(gt (l.items.set ((r).toNat) (⟨(gt l.items ((r).toNat)).Ad_,false,(gt l.items ((r).toNat)).again⟩:V_)) ((r).toNat)).Ad_,(gt (l.items.set ((r).toNat) (⟨(gt l.items ((r).toNat)).Ad_,false,(gt l.items ((r).toNat)).again⟩:V_)) ((r).toNat)).lent,true⟩:V_))⟩:As_),0)))
def C2_:List V_->Nat->As_->As_
 |[],k,x=>x
 | x1::t,k,x=>(bif x1.lent then
 C2_ t (k+1) (⟨((x.items.set k (⟨(gt x.items k).Ad_,false,(gt x.items k).again⟩:V_)).set k (⟨(gt (x.items.set k (⟨(gt x.items k).Ad_,false,(gt x.items k).again⟩:V_)) k).Ad_,(gt (x.items.set k (⟨(gt x.items k).Ad_,false,(gt x.items k).again⟩:V_)) k).lent,true⟩:V_))⟩:As_)
 else C2_ t (k+1) x)
def Hc_(l:As_):As_:=
 C2_ l.items 0 l
def Gg_(l:As_):Mail×Bool:=
 lt (Ey_ l (Fq_ l)) λr=>
 (r.1,r.2)
def Hb_(l:As_)(tick:Int):Mail×Bool:=
 lt (Ey_ l (Gh_ l tick)) λr=>
 (r.1,r.2)
def Do_:List V_->List V_->(List V_)
 |[],out=>out
 |x::t,out=>lt (Cw_ x) λr=>
 Do_ t (out++[r])
def Fd_(l:As_):(List V_):=
 Do_ l.items []
def Dc_(x:Ag_)(m:Mail):Ag_×Int:=
 (bif !decide ((Ja_ m)=0) then
 (x,Ja_ m)
 else (bif decide (x.total=18446744073709551615) then
 (x,18)
 else lt (M_ m) λr=>
 ((⟨(A0 .u64 (x.total+1)),(([x.kept,[r]].flatten).drop ((max 0 ((([x.kept,[r]].flatten).length:Int)-16))).toNat)⟩:Ag_),0)))
def Hm_(x:Ag_)(number:Int):Int×Mail×Bool:=
 (bif decide (x.total<=number) then
 (0,(⟨0,[],[],[],[],0,0⟩:Mail),false)
 else lt (M_ (gt x.kept (((A0 .u64 ((max (A0 .u64 ((A0 .u64 (x.total-(x.kept.length:Int)))+1)) (A0 .u64 (number+1)))-(A0 .u64 ((A0 .u64 (x.total-(x.kept.length:Int)))+1))))).toNat))) λr=>
 ((max (A0 .u64 ((A0 .u64 (x.total-(x.kept.length:Int)))+1)) (A0 .u64 (number+1))),r,true))
def Ky_(x:Ag_):Int:=
 x.total
def A7_:List Mail->Int->Int
 |[],n=>n
 |x1::t,n=>lt (Dt_ x1) λr=>
 A7_ t (n+r)
def B8_(x:Ag_):Int:=
 A7_ x.kept 0
def Dw_(base:Int)(bytes:Int):I_:=
 (⟨base,(max 0 bytes),[],(⟨(⟨0,[]⟩:Ag_),(⟨0,[]⟩:Ag_),(⟨0,[]⟩:Ag_),(⟨0,[]⟩:Ag_),(⟨0,[]⟩:Ag_),(⟨0,[]⟩:Ag_),(⟨0,[]⟩:Ag_),(⟨0,[]⟩:Ag_),(⟨0,[]⟩:Ag_),(⟨0,[]⟩:Ag_),(⟨0,[]⟩:Ag_),(⟨0,[]⟩:Ag_),(⟨0,[]⟩:Ag_),(⟨0,[]⟩:Ag_),(⟨0,[]⟩:Ag_),(⟨0,[]⟩:Ag_)⟩:A16_RiseR)⟩:I_)
def Ef_(q:T_):Int:=
 (bif !decide ((Gp_ q.name)=0) then
 (Gp_ q.name)
 else (bif ((decide (q.most<1))||(decide (64<q.most))) then
 7
 else (bif !decide (q.dead=[]) then
 (Gp_ q.dead)
 else 0)))
def Tg_(x:Hh_)(x1:Bs):Bool:=
 (decide (x.q.name=x1))
def An_(s:I_)(name:Bs):Int:=
 (idxP (λz_4:Hh_=>(Tg_ z_4 name)) s.rows)
end Go.SW.V
