/-
  A part of the proof of StorePlays: Plain lemmas of the second generation: places found in lists.
-/
import Derived.Test.YtkikmaakgdijfaaGreatDoorStorePlaysP2
import Derived.Test.YtkikmaakgdijfaaGreatDoorStorePlaysP1
import Derived.ProofKit
import Derived.OpenShut
import Derived.Deep.Slices
import Derived.Carry
import Derived.Lib.LaidTab
import Derived.SizedLaws
import Derived.KernelRfl
import Derived.Lib.ItoaLen
import Derived.Lib.Join
import Derived.Below
import Derived.Laws.AppendOwn
import Derived.Lib.FieldsP
import Derived.Lib.ParseIntB
import Derived.Lib.SmallJoins
import Derived.MapKept
import Derived.ChangeKeysEq
set_option linter.unusedVariables false
set_option linter.unusedSimpArgs false
set_option maxRecDepth 100000
set_option maxHeartbeats 4000000
namespace Go.SW
theorem idxF_b {α:Type} (p:α->Bool):∀ (l:List α) (k:Nat),idxF p k l = -1\/((k:Int)<=idxF p k l/\idxF p k l<k+l.length)
 |[],k=> .inl (by simp[idxF])
 |a::r,k=>by
   simp only[idxF]
   split
   . right;exact sT
   . rcases idxF_b p r (k+1) with h|h
     . exact .inl h
     . right;exact sT
theorem Io_ {α:Type} (p:α->Bool) (l:List α):-1<=idxP p l/\idxP p l<l.length:=by
 rcases idxF_b p l 0 with h|h<;>simp only[idxP]<;>omega
theorem Vc_ {α:Type} (p:α->Bool):∀ (l:List α) (k:Nat),(idxF p k l<0->l.find? p=none)/\(0<=idxF p k l->∀ c,l[(idxF p k l).toNat-k]? = some c->p c=true/\l.find? p=some c)
 |[],k=>⟨λ_=>rfl,λh=>by simp[idxF] at h⟩
 |a::r,k=>by
   obtain⟨h1,h2⟩:=Vc_ p r (k+1)
   have hr:=idxF_b p r (k+1)
   simp only[idxF]
   by_cases ha:p a=true
   . simp only[ha,if_true]
     refine⟨λh=>by omega,λ_ c hc=>?_⟩
     have :((k:Int)).toNat-k=0:=by omega
     rw[this] at hc
     simp at hc
     subst hc
     exact⟨ha,by simp[ha]⟩
   . have hf:p a=false:=by simpa using ha
     simp only[hf,if_false,Bool.false_eq_true,List.find?_cons]
     refine⟨h1,λh0 c hc=>?_⟩
     refine h2 h0 c ?_
     have e:(idxF p (k+1) r).toNat-k=((idxF p (k+1) r).toNat-(k+1))+1:=by omega
     rw[e] at hc
     simpa using hc
theorem Ms_ {α:Type} {p:α->Bool} {l:List α} (h:idxP p l<0):l.find? p=none:=(Vc_ p l 0).1 h
theorem Ul_ {α:Type} {p:α->Bool} {l:List α} {c:α} (h0:¬idxP p l<0) (h:l[(idxP p l).toNat]? = some c):p c=true/\l.find? p=some c:=(Vc_ p l 0).2 (by simp only[idxP] at h0;omega) c (by simpa [idxP] using h)
theorem getJ {α:Type} [Inhabited α] (xs:List α) (m:Nat):∃ c,(m<xs.length->xs[m]? = some c):=by
 by_cases h:m<xs.length;exact⟨xs[m],λ_=>List.getElem?_eq_getElem h⟩;exact⟨default,λq=>absurd q h⟩
end Go.SW
namespace Go.SW.V
open Go.SW
def lt {α β:Type} (a:α) (f:α->β):β:=f a
theorem Ey_ {α β:Type} {a r:α} {f:α->β} (h:r=a):lt a f=f r:=by subst h;rfl
theorem condT {α:Type} {c:Bool} {a b:α} (h:c=true):(bif c then a else b)=a:=by rw[h];rfl
theorem condF {α:Type} {c:Bool} {a b:α} (h:c=false):(bif c then a else b)=b:=by rw[h];rfl
inductive Lo (σ ρ:Type) where
 |fin (s:σ)
 |ret (r:ρ)
def lp0 {ρ β:Type} (o:Lo Unit ρ) (f:β) (g:ρ->β):β:=match o with
 | .fin _=>f
 | .ret r=>g r
theorem V4_ {ρ β:Type} {l:β} {o:Lo Unit ρ} {f:β} {g:ρ->β} (h:l=lp0 o f g) (k:o = .fin ()):l=f:=by subst k;exact h
theorem Lb_ {ρ β:Type} {l:β} {o:Lo Unit ρ} {f:β} {g:ρ->β} {r:ρ} (h:l=lp0 o f g) (k:o = .ret r):l=g r:=by subst k;exact h
theorem Pb_ {ρ β:Type} {l:β} {X:Lo Unit ρ} {f:β} {g:ρ->β} (h:l=lp0 X f g):∃ o,o=X/\l=lp0 o f g:=⟨_,rfl,h⟩
def lp1 {σ1 ρ β:Type} (o:Lo (σ1) ρ) (f:σ1->β) (g:ρ->β):β:=match o with
 | .fin s=>f s
 | .ret r=>g r
theorem lp1_fin {σ1 ρ β:Type} {l:β} {o:Lo (σ1) ρ} {f:σ1->β} {g:ρ->β} {a1:σ1} (h:l=lp1 o f g) (k:o = .fin a1):l=f a1:=by subst k;exact h
theorem lp1_ret {σ1 ρ β:Type} {l:β} {o:Lo (σ1) ρ} {f:σ1->β} {g:ρ->β} {r:ρ} (h:l=lp1 o f g) (k:o = .ret r):l=g r:=by subst k;exact h
theorem V5_ {σ1 ρ β:Type} {l:β} {X:Lo (σ1) ρ} {f:σ1->β} {g:ρ->β} (h:l=lp1 X f g):∃ o,o=X/\l=lp1 o f g:=⟨_,rfl,h⟩
def lt1 {σ1 β:Type} (s:σ1) (f:σ1->β):β:=f s
theorem Gv_ {σ1 β:Type} {l:β} {o:σ1} {f:σ1->β} {a1:σ1} (h:l=lt1 o f) (k:o=a1):l=f a1:=by subst k;exact h
theorem Ee_ {σ1 β:Type} {l:β} {X:σ1} {f:σ1->β} (h:l=lt1 X f):∃ o,o=X/\l=lt1 o f:=⟨_,rfl,h⟩
def lp2 {σ1 σ2 ρ β:Type} (o:Lo (σ1×σ2) ρ) (f:σ1->σ2->β) (g:ρ->β):β:=match o with
 | .fin s=>f s.1 s.2
 | .ret r=>g r
theorem lp2_fin {σ1 σ2 ρ β:Type} {l:β} {o:Lo (σ1×σ2) ρ} {f:σ1->σ2->β} {g:ρ->β} {a1:σ1} {a2:σ2} (h:l=lp2 o f g) (k:o = .fin (a1,a2)):l=f a1 a2:=by subst k;exact h
theorem Of_ {σ1 σ2 ρ β:Type} {l:β} {o:Lo (σ1×σ2) ρ} {f:σ1->σ2->β} {g:ρ->β} {r:ρ} (h:l=lp2 o f g) (k:o = .ret r):l=g r:=by subst k;exact h
theorem V6_ {σ1 σ2 ρ β:Type} {l:β} {X:Lo (σ1×σ2) ρ} {f:σ1->σ2->β} {g:ρ->β} (h:l=lp2 X f g):∃ o,o=X/\l=lp2 o f g:=⟨_,rfl,h⟩
def lt2 {σ1 σ2 β:Type} (s:σ1×σ2) (f:σ1->σ2->β):β:=f s.1 s.2
theorem lt2_fin {σ1 σ2 β:Type} {l:β} {o:σ1×σ2} {f:σ1->σ2->β} {a1:σ1} {a2:σ2} (h:l=lt2 o f) (k:o=(a1,a2)):l=f a1 a2:=by subst k;exact h
theorem lt2_split {σ1 σ2 β:Type} {l:β} {X:σ1×σ2} {f:σ1->σ2->β} (h:l=lt2 X f):∃ o,o=X/\l=lt2 o f:=⟨_,rfl,h⟩
def lt3 {σ1 σ2 σ3 β:Type} (s:σ1×σ2×σ3) (f:σ1->σ2->σ3->β):β:=f s.1 s.2.1 s.2.2
theorem lt3_fin {σ1 σ2 σ3 β:Type} {l:β} {o:σ1×σ2×σ3} {f:σ1->σ2->σ3->β} {a1:σ1} {a2:σ2} {a3:σ3} (h:l=lt3 o f) (k:o=(a1,a2,a3)):l=f a1 a2 a3:=by subst k;exact h
theorem lt3_split {σ1 σ2 σ3 β:Type} {l:β} {X:σ1×σ2×σ3} {f:σ1->σ2->σ3->β} (h:l=lt3 X f):∃ o,o=X/\l=lt3 o f:=⟨_,rfl,h⟩
def lt4 {σ1 σ2 σ3 σ4 β:Type} (s:σ1×σ2×σ3×σ4) (f:σ1->σ2->σ3->σ4->β):β:=f s.1 s.2.1 s.2.2.1 s.2.2.2
theorem lt4_fin {σ1 σ2 σ3 σ4 β:Type} {l:β} {o:σ1×σ2×σ3×σ4} {f:σ1->σ2->σ3->σ4->β} {a1:σ1} {a2:σ2} {a3:σ3} {a4:σ4} (h:l=lt4 o f) (k:o=(a1,a2,a3,a4)):l=f a1 a2 a3 a4:=by subst k;exact h
theorem lt4_split {σ1 σ2 σ3 σ4 β:Type} {l:β} {X:σ1×σ2×σ3×σ4} {f:σ1->σ2->σ3->σ4->β} (h:l=lt4 X f):∃ o,o=X/\l=lt4 o f:=⟨_,rfl,h⟩
def gt {α:Type} [Inhabited α] (xs:List α) (k:Nat):α:=xs.getD k default
theorem getG {α:Type} [Inhabited α] {xs:List α} {k:Nat} (h:k<xs.length):xs[k]? = some (gt xs k):=by
 rw[gt,List.getD_eq_getElem?_getD,List.getElem?_eq_getElem h];rfl
theorem Cz_ {α:Type} [Inhabited α] {xs:List α} {k:Nat} (h:k<xs.length):xs.drop k=gt xs k::xs.drop (k+1):=Df_ (getG h)
theorem Do_ {α:Type} {xs:List α} {k:Nat} (h:¬k<xs.length):xs.drop k=[]:=List.drop_of_length_le pB
theorem A5_ {α τ:Type} {l:τ} {xs ys:List α} {f:List α->τ} {v:τ} (e:l=f xs) (h:xs=ys) (k:f ys=v):l=v:=by subst h;exact e.trans k
theorem An_ {α:Type} {p:PV} {a v:α} (f:α->PV) (e:a=v) (h:PLe p (f v)):PLe p (f a):=by subst e;exact h
variable {P:Program} {n:Nat} {N:Rest} {H0:Env} {all rest:List Oper} {Q:Qs} {ks:List Kt} {fF:Nat->PV} {fL:Nat->Blk} {T T' T2 ty d:Nat} {pos:String} {af:Array Edge} {x y z:Operand} {K:St->Prop} {op:Op} {p:PV}
theorem Gi_ {ι:Type} {X:Code} (keep kL:List Nat) (lv:ι->List (Nat×PV)) (lL:ι->List (Nat×Blk)) (Φ:ι->Prop) (h:Hd P n N H0 Q (.code X) (.lp (LJ (λx=>⟨mkF (lv x) keep fF,mkL (lL x) kL fL⟩) Φ (λ_=>0) 1)::ks) ⟨fF,fL⟩) (k:∀ x,Φ x->Hd P n N H0 Q (.ex .normal) ks ⟨mkF (lv x) keep fF,mkL (lL x) kL fL⟩):Hd P n N H0 Q (.code X) ks ⟨fF,fL⟩:=by
 intro F H L ha;refine K7_ (λe F' H' L' hq=>?_) (h F H L ha);obtain⟨s',ha',hq'⟩:=hq
 cases e with
 |normal=>obtain⟨x,h1,_,h3⟩:=hq';exact⟨_,h3 _ _ _ _ ha',k x h1⟩
 |_=>exact⟨s',ha',hq'⟩
theorem callv {α:Type} (g:α) (res:α->PV) {f:FuncId} {args:List PV} {xs:Array Operand} {ats:Array TypeId} (h:Fn P H0.g f args (res g)) (ha:argsP fF x xs.toList=some (f,args)) (hd:Nat.blt d n=true) (k:∀ r,r=g->(res r).wf->Hd P n N H0 Q (.ops all rest) ks ⟨updp fF d (res r),fL⟩):Hd P n N H0 Q (.ops all (⟨some d, .call ⟨.value x,xs,ats⟩,ty,pos,af,none⟩::rest)) ks ⟨fF,fL⟩:=call h ha hd (k g Y)
theorem lj_le {ι:Type} {S:ι->St} {Φ:ι->Prop} {μ:ι->Nat} {m:Nat} {s s':St} (h:StLe s s') (k:Hd P n N H0 Q (.ex .normal) (.lp (LJ S Φ μ m)::ks) s'):Hd P n N H0 Q (.ex .normal) (.lp (LJ S Φ μ m)::ks) s:=by
 obtain⟨x,h1,h2,h3⟩:=k;exact⟨x,h1,h2,h.trans h3⟩
theorem st_rt {t:Nat} {p':PV} (h:PLe (fF t) p') (hn:p'.noOsl=true):StLe ⟨fF,fL⟩ ⟨updp fF t p',fL⟩:=λH0 F H L ha=>by
 refine⟨ha.le,ha.g,λt'=>?_,ha.l⟩
 by_cases e:t'=t
 . subst e;simp only[Mn_];exact (h H _ (ha.f t').sim).simT hn
 . simp only[Re_ _ _ _ _ e];exact ha.f t'
theorem lj_rt {ι:Type} {S:ι->St} {Φ:ι->Prop} {μ:ι->Nat} {m t:Nat} (p':PV) (h:PLe (fF t) p') (hn:p'.noOsl=true) (k:Hd P n N H0 Q (.ex .normal) (.lp (LJ S Φ μ m)::ks) ⟨updp fF t p',fL⟩):Hd P n N H0 Q (.ex .normal) (.lp (LJ S Φ μ m)::ks) ⟨fF,fL⟩:=lj_le (st_rt h hn) k
theorem lj_osl {α:Type} {ι:Type} {S:ι->St} {Φ:ι->Prop} {μ:ι->Nat} {m t k e:Nat} {u:Value} {enc:α->List PV} {xs:List α} (i:Nat) (hF:fF t = .val u) (hL:fL i = .arr u k e enc xs) (kk:Hd P n N H0 Q (.ex .normal) (.lp (LJ S Φ μ m)::ks) ⟨updp fF t (.osl i),fL⟩):Hd P n N H0 Q (.ex .normal) (.lp (LJ S Φ μ m)::ks) ⟨fF,fL⟩:=lj_le (λ_ _ _ _ ha=>val_osl ha hF hL) kk
theorem bcase {p:Prop} (b:Bool) (ht:b=true->p) (hf:b=false->p):p:=by cases b;exact hf Y;exact ht Y
theorem ple_gv {c:Bool} {p:PV} (h:c=true):PLe (.gv c p) p:=by
 subst h;intro H v hv
 rcases hv.inv_gv with ⟨_,h⟩|⟨h,_⟩
 exact h
 . cases h
theorem eweak {o:Oper} {i:Nat} (h:E1 P n N H0 all o none ⟨fF,fL⟩ K):E1 P n N H0 all o (some i) ⟨fF,fL⟩ K:=λF H L ha=>(h F H L ha).imp λF' H' L' ⟨x,y,z⟩=>⟨x,λq _=>y q pF,z⟩
theorem Xe_ {α:Type} {e k:Nat} {u:Value} {enc:α->List PV} {xs:List α} {o:Oper} (i:Nat) (hb:fL i = .arr u k e enc xs) (h:E1 P n N H0 all o (some i) ⟨giveF i enc xs fF,Zf_ i enc xs fL⟩ K):E1 P n N H0 all o (some i) ⟨fF,fL⟩ K:=by
 intro F H L ha a w hA hm;obtain⟨H1,hl1,hg1,hm1⟩:=hm.giveO (i:=i) Y;have ha1:=ha.give hb hl1 hg1;exact (h F H1 (lupd L i none) ha1).imp (λF' H' L' ⟨x,y,z⟩=>⟨hl1.trans x,λq hq=>(y q hq).trans (Cj_ _ _ _ _ λe=>hq (by rw[e])),z⟩) a w hA hm1
end Go.SW.V
namespace Go.SW
end Go.SW
namespace Go.SW.V
open Go.SW
theorem B5_ {α:Type} {xs:List (List α)} {k:Nat} {c:List α} (h:xs[k]? = some c):(xs.take (k+1)).flatten=(xs.take k).flatten++c:=by
 rw[takeE h,List.flatten_append];simp
theorem Dt_ {α:Type} (xs:List (List α)) (k:Nat):(xs.take k).flatten.length<=xs.flatten.length:=by
 have :=congrArg (λl:List (List α)=>l.flatten.length) (List.take_append_drop k xs);simp only[List.flatten_append,List.length_append] at this;omega
theorem Nw_ {α:Type} {xs:List (List α)} {k:Nat} (h:xs.length<=k):(xs.take k).flatten=xs.flatten:=by rw[List.take_of_length_le h]
end Go.SW.V
namespace Go.SW
open Go.ChangeShapes Go.WideShapes Go.ChangeAt Go.RowKit
def hp (w:World):Hp:=λb=>w.heap[b]?
def rest0 (w:World):Rest:=⟨λ_=>none,w.os,w.tape,w.output⟩
theorem mem0 (w:World):Mem (rest0 w) (hp w) l0 w:=
 {os:=rfl,tape:=rfl,output:=rfl,n:=λ_ _ h=>oC,h:=λ_ _ h=>h,l:=λ_ _ _ h=>oC,nh:=λ_ _ h=>oC,nl:=λ_ _ _ h=>oC,ll:=λ_ _ _ _ _ h=>oC}
theorem mem0_below {w w':World} {L:Ls} (h:Mem (rest0 w) (hp w) L w'):Below w.heap.size w w':=by
 have hb:∀ k,k<w.heap.size->w'.heap[k]? = w.heap[k]? :=λk hk=>by
   have e:w.heap[k]? = some w.heap[k]:=Array.getElem?_eq_getElem hk
   rw[e];exact h.h k _ e
 refine⟨h.os,h.tape,h.output,?_,hb⟩;by_cases z:w.heap.size=0;omega;have :=hb (w.heap.size-1) pB;rw[Array.getElem?_eq_getElem (show w.heap.size-1<w.heap.size by omega)] at this;have :=(Array.getElem?_eq_some_iff.1 this).1;omega
section
variable {Ht:Type} {enc:TypeId×Value->Ht} {P:Program} {w:World} {base fuel:Nat} {spare:Nat->Bool} {held:Bool} {cs:List Value} {x:DataW Ht×List MemPlace} {t:TypeId}
theorem rd_int {k:IntKind} (ht:P.underlying t=some (.int k)) (h:DataW.trod enc P w base spare held fuel t cs=some x):∃ z:Int,cs=[.int k z]/\k.min<=z/\z<=k.max:=by
 obtain⟨z,h1,_,h2⟩:=DataW.trod_int ht h;refine⟨z,h1,?_⟩;simp only[Lit.wf,Bool.and_eq_true,decide_eq_true_eq] at h2;exact h2
theorem rd_bool (ht:P.underlying t=some .bool) (h:DataW.trod enc P w base spare held fuel t cs=some x):∃ z:Bool,cs=[.bool z]:=by
 obtain⟨z,h1,_⟩:=DataW.trod_bool ht h;exact⟨z,h1⟩
theorem rd_str (ht:P.underlying t=some .string) (h:DataW.trod enc P w base spare held fuel t cs=some x):∃ s:Bs,cs=[str s]/\s.length<=9223372036854775807:=by
 obtain⟨s,h1,_,h2⟩:=DataW.trod_string ht h;refine⟨s.data.toList,by rw[h1,str_of],?_⟩;have :s.data.toList.length=s.size:=Array.length_toList;rw[this];exact h2
theorem list_of {α:Type} {Q:Nat->α->Prop}:∀ n,(∀ i,i<n->∃ r,Q i r)->∃ rs:List α,rs.length=n/\∀ i (h:i<rs.length),Q i rs[i]
 |0,_=>⟨[],rfl,λi h=>by cases h⟩
 |n+1,hq=>by
   obtain⟨rs,hl,hr⟩:=list_of n (λi hi=>hq i pB)
   obtain⟨r,hr0⟩:=hq n pB
   refine⟨rs++[r],by simp[hl],λi hi=>?_⟩
   by_cases e:i<rs.length
   . rw[List.getElem_append_left e];exact hr i e
   . have :i=rs.length:=by simp at hi;omega
     subst this
     rw[List.getElem_append_right (Nat.le_refl _)]
     simp only[Nat.sub_self,List.getElem_cons_zero]
     rw[hl];exact hr0
theorem rd_fld {fs:Array Field} {xs:List (DataW Ht×List MemPlace)} {n i o k:Nat} {f:Field} {ft:TypeId} (hf:∀ (i:Nat) (f:Field),fs[i]? = some f->DataW.trod enc P w base spare held n f.type ((cs.drop f.offset).take (P.cellsOf f.type))=xs[i]?) (hl:xs.length=fs.size)
   (hi:fs[i]? = some f) (ho:f.offset=o) (ht:f.type=ft) (hk:P.cellsOf ft=k):∃ y,DataW.trod enc P w base spare held n ft ((cs.drop o).take k)=some y:=by
 have h:=hf i f hi;have hlt:i<fs.size:=(Array.getElem?_eq_some_iff.1 hi).1;rw[ho,ht,hk,List.getElem?_eq_getElem pB] at h;exact⟨_,h⟩
end
theorem rd_agg {Ht:Type} {enc:TypeId×Value->Ht} {P:Program} {w:World} {r:Reach} {b0 base:Nat} {spare:Nat->Bool} {held:Bool} {t:TypeId} {fs:Array Field} {v:Value} {d:DataW Ht} {p:List MemPlace} (hs:P.underlying t=some (.struct fs)) (hv:Value.okWide P w r b0 t v)
   (h:DataW.Trod enc P w base spare held t v d p):∃ (l:List Value) (fuel:Nat),v = .agg l.toArray/\DataW.trod enc P w base spare held fuel t l=some (d,p):=by
 obtain⟨cs,rfl,_⟩:=okWide_struct hs hv;obtain⟨fuel,hf⟩:=h;exact⟨cs.toList,fuel,rfl,hf⟩
theorem params_ok {P:Program} {ts:Array TypeId} (h:(ts.toList.all λt=>P.readableRec t && decide (t<P.types.size))=true):∀ t∈ts.toList,P.readableRec t=true/\t<P.types.size:=λt ht=>by
 have :=List.all_eq_true.1 h t ht
 exact rC
theorem rd_one_int {Ht:Type} {enc:TypeId×Value->Ht} {P:Program} {w:World} {r:Reach} {b0 base:Nat} {spare:Nat->Bool} {held:Bool} {t:TypeId} {k:IntKind} {v:Value} {d:DataW Ht} {p:List MemPlace} (hs:P.underlying t=some (.int k)) (hv:Value.okWide P w r b0 t v)
   (h:DataW.Trod enc P w base spare held t v d p):∃ z:Int,v = .int k z/\k.min<=z/\z<=k.max:=by
 obtain⟨z,rfl,_,_,hw⟩:=open_int hs hv h;refine⟨z,rfl,?_⟩;simp only[Lit.wf,Bool.and_eq_true,decide_eq_true_eq] at hw;exact hw
def flatD:Nat->DataW Unit->List Value
 |_, .lit (.int k n)=>[.int k n]
 |_, .lit (.string s)=>[.string ⟨s.toArray⟩]
 |_, .lit (.bool b)=>[.bool b]
 |n+1, .agg l=>l.flatMap (flatD n)
 |_,_=>[]
def layD (d:DataW Unit):Obj->Obj
 | .cells _ t frozen=> .cells (flatD 5 d).toArray t frozen
 |o=>o
theorem trodAll_stays {Ht:Type} {enc:TypeId×Value->Ht} {P:Program} (hl:laidOutB P=true) {W W':World} (hb:Below W.heap.size W W') {sp:Nat->Bool}:∀ {ts:List TypeId} {vs:List Value} {ds:List (DataW Ht)} {ps:List MemPlace},(∀ t∈ts,P.readableRec t=true/\t<P.types.size) ->
   DataW.TrodAll enc P W 0 (λ_=>true) true ts vs ds ps->(∀ x∈ps,x.block<W.heap.size)->(∀ x∈ps,sp x.block=true)->DataW.TrodAll enc P W' 0 sp true ts vs ds ps:=by
 intro ts
 induction ts with
 |nil=>intro vs ds ps _ h _ _;cases vs<;>cases ds<;>first|exact h|exact h.elim
 |cons t ts ih=>
   intro vs ds ps hr h hlt hsp
   obtain⟨v,vs',d,ds',p,q,rfl,rfl,rfl,h1,h2⟩:=trodAll_cons h
   exact trodAll_cons_mk (WideElems.Trod_stays hl (hr t pF).1 (hr t pF).2 h1 (λx hx=>hb.same (hlt x pS)) (λx hx=>hsp x pS)) (ih (λu hu=>hr u (by simp[hu])) h2 (λx hx=>hlt x pS) (λx hx=>hsp x pS))
section
variable {Ht:Type} {enc:TypeId×Value->Ht} {P:Program}
theorem law_post {f:Func} {s:ChangeSpec} {apart fresh again:Bool} {W W':World} {args:Array Value} {ds:List (DataW Ht)} {before:List MemPlace} {tb:TypeId} (hvars:s.vars=[])
   (hW:DataW.Whole enc P f.params.toList s.vars apart W args.toList ds [] before) (hb:Below W.heap.size W W') (hl:laidOutB P=true) (hr:∀ t∈f.params.toList,P.readableRec t=true/\t<P.types.size)
   (hres:f.resultTypes = #[tb]) (hu:P.underlying tb=some .bool) (hfn:s.fn Ht (ds++[])={results:=[.lit (.bool true)],args:=ds}):s.post enc P f apart fresh false again W args (.bool true) W':=by
 have hlt:∀ p∈before,p.block<W.heap.size:=λp hp=>hW.lt p hp;have hold:∀ p∈before,(λb=>decide (b<W.heap.size)) p.block=true:=λp hp=>by simpa using hlt p hp
 have hW0:=hW;obtain⟨p,q,hA,hV,rfl,hz,hn⟩:=hW0;have hq:q=[]:=by
   rw[hvars] at hV
   exact (trodVars_none hV).2
 subst hq;rw[List.append_nil] at hlt hold hz hn hW;have hA0:DataW.TrodAll enc P W 0 (λ_=>true) true f.params.toList args.toList ds p:=hA;have hargs:∀ sp:Nat->Bool,(∀ x∈p,sp x.block=true)->DataW.TrodAll enc P W' 0 sp true f.params.toList args.toList ds p:=λsp hs=>trodAll_stays hl hb hr hA0 hlt hs;have hvs:∀ sp:Nat->Bool,DataW.TrodVars enc P W' sp s.vars ([]:List (DataW Ht)) []:=λsp=>by rw[hvars];rfl
 have hR:∀ (b:Nat) (sp:Nat->Bool) (hd:Bool),DataW.TrodAll enc P W' b sp hd f.resultTypes.toList ((Value.bool true).resultList f.resultTypes.size) [.lit (.bool true)] []:=λb sp hd=>by
   rw[hres]
   exact trodAll_mk1 (shut_bool hu true)
 have hok:∀ (j:Nat) (t:TypeId) (r:Value),f.resultTypes[j]? = some t->((Value.bool true).resultList f.resultTypes.size)[j]? = some r->Value.okWide P W' .any 0 t r:=ok_one hres Y (okWide_bool_mk hu true);refine⟨ds,[],p,[],p,[],hW,?_,?_,?_,World.keptBut_mono (λx hx=>⟨hx,Or.inr (by simpa using hx)⟩) (hb.frame (· ∈ p)),λ_=>?_⟩;rw[hfn];exact hR _ _ _;rw[hfn];exact hargs _ hold;rw[hfn];exact hvs _;refine⟨hok,_,_,([]++p)++[],⟨[]++p,[],trodAll_append (hargs _ (λ_ _=>rfl)) (hR _ _ _),hvs _,rfl,?_,?_⟩,?_⟩;intro b off hp;have hin:MemPlace.cell b off∈p:=by simpa using hp
 rw[hb.frozen (hlt _ hin)];exact hz b off hin;intro ha;have :=hn ha;exact rC;intro x hx _;simpa using hx
theorem Ze_ {w:World} {g:Nat} {t:TypeId} {zero:Array Value} (h:w.ShapedOpen P) (hg:g<P.globals.size)
   (h0:((begin P (λ_ _=>0) default).world.heap[g]?).bind Obj.row?=some (zero,t)) (hz:zero.size=1)
   (hb:P.buildable t=true) (hc:P.cellTypes P.depth t=some [t]) (hu:P.underlying t=some (.int .i64)):GInt (hp w) g:=by
 obtain⟨cs,hh,hs,hr⟩:=h.1 g zero t hg h0;obtain⟨ts,hts,_,hall⟩:=hr hb;rw[hc] at hts
 cases hts
 have h1:0<cs.size:=by omega
 obtain⟨u,hu',hok⟩:=hall 0 cs[0] (by simp[h1]);have :u=t:=by simpa using hu'.symm
 subst this;unfold Cell.ok at hok;rw[hu] at hok;have hv:∃ m,cs[0] = .int .i64 m:=by
   cases hv:cs[0]<;>rw[hv] at hok<;>first|exact⟨_,by rw[hok.1]⟩|simp at hok
 obtain⟨m,hm⟩:=hv;refine⟨m,u,(0,0),?_⟩;show w.heap[g]? = _;rw[hh];have e:cs = #[.int .i64 m]:=by
   apply Array.ext
   . simp;omega
   . intro i hi1 hi2
     have :i=0:=by simp at hi2;omega
     subst this
     simpa using hm
 rw[e]
theorem gtab_of {w:World} {g n:Nat} {name:String} {k:IntKind} {zs:List Int} {rest:List (String×DataW Unit)} {t e:TypeId} (hg:P.globalNamed name=some g) (hty:(P.globals[g]?).map (·.type)=some t) (ht:P.underlying t=some (.array n e)) (he:P.underlying e=some (.int k)) (hce:P.cellsOf e=1) (hct:P.cellsOf t=n)
   (h:laidMet P ((name,Lib.tabData k zs)::rest) w):∃ T fr,hp w g=some (.cells (zs.map (Value.int k)).toArray T fr):=by
 have hT:=Lib.tabIs_of_head hg hty ht he hce hct h;unfold Lib.TabIs World.var? at hT;rw[hg] at hT;simp only[Option.bind_some] at hT
 split at hT
 . rename_i cs T fr hh
   cases hT
   exact⟨T,fr,hh⟩
 . cases hT
end
variable {P:Program}
theorem dat_slice {Ht:Type} {enc:TypeId×Value->Ht} {w:World} {base fuel:Nat} {spare:Nat->Bool} {held:Bool} {a:Option Addr} {l c:Nat} {x:DataW Ht×List MemPlace} {t e:TypeId} (ht:P.underlying t=some (.slice e))
   (h:DataW.trod enc P w base spare held fuel t [.slice a l c]=some x):x.1 = .nil/\l=0\/∃ el sp,x.1 = .slice el sp/\el.length=l:=by
 rcases Go.Deep.open_slice ht h with ⟨h1,h2⟩|⟨a',len,cap,m,nf,D,Pl,h1,_,hl,hm,hmm,hx,_⟩
 . cases h1;subst h2;exact .inl ⟨rfl,rfl⟩
 . cases h1;subst hx;exact .inr ⟨_,_,rfl,by simp⟩
theorem rd_one_slice {w:World} {r:Reach} {b0:Nat} {t e:TypeId} {v:Value} {a:Option Addr} {l c:Nat} (hs:P.underlying t=some (.slice e)) (hv:Value.okWide P w r b0 t v) (he:v.cells.toList=[.slice a l c]):v = .slice a l c:=by
 unfold Value.okWide at hv;rw[hs] at hv;simp only at hv;unfold Cell.okWide at hv;rw[hs] at hv
 cases v with
 |agg cs=>simp[Cell.ok,hs] at hv
 |_=>exact (List.cons.inj he).1
end Go.SW
namespace Go.SW
open Go.ChangeShapes Go.WideShapes Go.ChangeAt Go.RowKit
variable {P:Program}
def Rdv {α:Type} (P:Program) (t:TypeId) (en:α->List PV) (k:Nat):Prop:=
 ∀ (Ht:Type) (enc:TypeId×Value->Ht) (w:World) (base:Nat) (spare:Nat->Bool) (held:Bool) (fuel:Nat) (cs:List Value) (x:DataW Ht×List MemPlace),
   DataW.trod enc P w base spare held fuel t cs=some x->(∀ n∈x.1.weights P t,n<=reachBytes)->∃ r:α,RowE en k (hp w) r cs
theorem rowE1 {α:Type} {en:α->List PV} {H:Hp} {r:α} {p:PV} {v:Value} (he:en r=[p]) (h:Sim H p v) (ho:v.oneCell'=true):RowE en 1 H r [v]:=
 ⟨by rw[he];rfl,by rw[he];exact Sims.nil.cons h,λu hu=>by rw[List.mem_singleton.1 hu];exact ho⟩
theorem Fm_ {k:IntKind} {t:TypeId} (ht:P.underlying t=some (.int k)):Rdv P t (λz:Int=>[.int k z]) 1:=λ_ _ _ _ _ _ _ _ _ h _=>by
 obtain⟨z,rfl,h1,h2⟩:=rd_int ht h
 exact⟨z,rowE1 Y (.int h1 h2) Y⟩
theorem rdv_bool {t:TypeId} (ht:P.underlying t=some .bool):Rdv P t (λz:Bool=>[.bool z]) 1:=λ_ _ _ _ _ _ _ _ _ h _=>by
 obtain⟨z,rfl⟩:=rd_bool ht h
 exact⟨z,rowE1 Y .bool Y⟩
theorem Jb_ {t:TypeId} (ht:P.underlying t=some .string):Rdv P t (λs:Bs=>[.str s]) 1:=λ_ _ _ _ _ _ _ _ _ h _=>by
 obtain⟨s,rfl,h1⟩:=rd_str ht h
 exact⟨s,rowE1 Y (.str h1) Y⟩
theorem Ql_ {H:Type} {e:TypeId}:∀ {ds:List (DataW H)} {d:DataW H} {n:Nat},d∈ds->n∈d.weights P e->n∈DataW.weightsAll P e ds
 |[],_,_,h,_=>by cases h
 |d0::r,d,n,h,hn=>by
   simp only[DataW.weightsAll,List.mem_append]
   rcases List.mem_cons.1 h with rfl|q
   . exact .inl hn
   . exact .inr (Ql_ q hn)
theorem Pk_ {α:Type} {en:α->List PV} {k:Nat} {t e:TypeId} (ht:P.underlying t=some (.slice e)) (hk:P.cellsOf e=k) (h0:0<k) (hb:0<P.bytesOf e) (he:Rdv P e en k):Rdv P t (λxs:List α=>[.sl en xs]) 1:=λHt enc w base spare held fuel cs x h hw=>by
 have hlen:∀ {a:Option Addr} {l c:Nat},cs=[.slice a l c]->l<=140737488355328:=λ{a l c} hcs=>by
   subst hcs
   rcases dat_slice ht h with ⟨_,rfl⟩|⟨el,sp,hx,rfl⟩
   . exact Nat.zero_le _
   . have :=hw ((el.length+sp.length)*P.bytesOf e) (by rw[hx];simp[DataW.weights,ht])
     have h1:el.length<=(el.length+sp.length)*P.bytesOf e:=Nat.le_trans (Nat.le_add_right _ _) (Nat.le_mul_of_pos_right _ hb)
     have h2:reachBytes=140737488351232:=by decide
     omega
 rcases Go.Deep.open_slice ht h with ⟨h1,_⟩|⟨a,len,cap,m,nf,D,Pl,h1,_,hl,hm,hmm,hx,hi⟩
 . subst h1
   exact⟨[],rowE1 Y (Sim.of_slh (k:=0) slh_nil pF) rfl⟩
 . have hs0:0<len->a=⟨a.block,a.off,none⟩:=by
     intro hl0
     obtain⟨cs',hc,hT⟩:=hi 0 (by rw[hmm];split<;>omega)
     rw[hk,Nat.zero_mul] at hc
     obtain⟨_,hcl,hat⟩:=World.cells?_some hc
     have ha0:=hat 0 h0
     rw[List.getElem?_eq_getElem pB] at ha0
     obtain⟨ab,ao,asp⟩:=a
     cases asp with
     |none=>rfl
     |some z=>
       exfalso
       unfold World.cell? at ha0
       simp only[Addr.add] at ha0
       split at ha0<;>simp at ha0
   have hwD:∀ i,i<len->∀ n∈(D i).weights P e,n<=reachBytes:=λi hil n hn=>by
     refine hw n ?_
     rw[hx]
     simp only[DataW.weights,ht,List.mem_cons,List.mem_append]
     exact .inr (.inl (Ql_ (List.mem_map.2 ⟨i,List.mem_range.2 hil,rfl⟩) hn))
   have key:∀ i,i<len->∃ r:α,∃ cs',RowE en k (hp w) r cs'/\SlAt (hp w) (.slice (some a) len cap) k i cs':=by
     intro i hil
     have ha:=hs0 pB
     obtain⟨cs',hc,hT⟩:=hi i (by rw[hmm];split<;>omega)
     obtain⟨r,hr⟩:=he _ _ _ _ _ _ _ _ _ hT (hwD i hil)
     rw[hk] at hc
     obtain⟨_,hcl,hat⟩:=World.cells?_some hc
     refine⟨r,cs',hr,?_⟩
     generalize a.block=ab at ha
     generalize a.off=ao at ha
     subst ha
     simp only[Ge_] at hat
     have ha0:=hat 0 h0
     rw[List.getElem?_eq_getElem pB] at ha0
     unfold World.cell? at ha0
     simp only at ha0
     split at ha0
     . rename_i c T fr hb
       refine⟨ab,ao,len,cap,c,T,fr,rfl,hb,hcl,λj hj=>?_⟩
       have :=hat j hj
       unfold World.cell? at this
       simp only at this
       rw[hb] at this
       exact rC
     . cases ha0
   obtain⟨rs,hlen',hr⟩:=list_of (Q:=λi (r:α)=>∃ cs',RowE en k (hp w) r cs'/\SlAt (hp w) (.slice (some a) len cap) k i cs') len key
   have hs:SlH (RowE en k) k (hp w) (.slice (some a) rs.length cap) rs:=⟨⟨some a,cap,rfl,by omega⟩,λi hi=>by rw[hlen'];exact hr i hi⟩
   subst h1
   have hle:=hlen (rfl :[Value.slice (some a) len cap]=_)
   refine⟨rs,rowE1 Y (v:= .slice (some a) len cap) (by rw[<- hlen'];exact Sim.of_slh hs pB) Y⟩
theorem rows_app {ps qs:List PV} {H:Hp} {cs ds:List Value} {m n:Nat} (h:ps.length=m/\Sims H ps cs/\∀ u∈cs,u.oneCell'=true) (k:qs.length=n/\Sims H qs ds/\∀ u∈ds,u.oneCell'=true):(ps++qs).length=m+n/\Sims H (ps++qs) (cs++ds)/\∀ u∈cs++ds,u.oneCell'=true:=
 ⟨by simp[h.1,k.1],h.2.1.append k.2.1,λu hu=>by rcases List.mem_append.1 hu with q|q;exact h.2.2 u q;exact k.2.2 u q⟩
theorem Cg_ {Ht:Type} {enc:TypeId×Value->Ht} {w:World} {base:Nat} {spare:Nat->Bool} {held:Bool} {cs:List Value} {t:TypeId} {fs:Array Field} {xs:List (DataW Ht×List MemPlace)} {n i o k:Nat} {f:Field} {ft:TypeId} {α:Type} {en:α->List PV} (ht:P.underlying t=some (.struct fs))
   (hf:∀ (i:Nat) (f:Field),fs[i]? = some f->DataW.trod enc P w base spare held n f.type ((cs.drop f.offset).take (P.cellsOf f.type))=xs[i]?) (hl:xs.length=fs.size) (hw:∀ q∈(DataW.agg (xs.map (·.1)):DataW Ht).weights P t,q<=reachBytes)
   (hi:fs[i]? = some f) (ho:f.offset=o) (hft:f.type=ft) (hk:P.cellsOf ft=k) (hr:Rdv P ft en k):∃ r,RowE en k (hp w) r ((cs.drop o).take k):=by
 obtain⟨y,hy⟩:=rd_fld hf hl hi ho hft hk;refine hr _ _ _ _ _ _ _ _ _ hy λq hq=>hw q ?_;have h:=hf i f hi;rw[ho,hft,hk,hy] at h;simp only[DataW.weights,ht];refine DataW.weights_mem_each (j:=i) (t:=ft) (d:=y.1) ?_ ?_ q hq;rw[List.getElem?_map,Array.getElem?_toList,hi];simp[hft];rw[List.getElem?_map,<- h];rfl
theorem C3_ {en:List PV} {H:Hp} {cs:List Value} {o k:Nat} {q:Nat} (h:en.length=k/\Sims H en ((cs.drop o).take k)/\∀ u∈(cs.drop o).take k,u.oneCell'=true) {es:List PV} (hr:es.length=q/\Sims H es (cs.drop (o+k))/\∀ u∈cs.drop (o+k),u.oneCell'=true):(en++es).length=k+q/\Sims H (en++es) (cs.drop o)/\∀ u∈cs.drop o,u.oneCell'=true:=by
 have :=rows_app h hr;rw[<- List.drop_drop,List.take_append_drop] at this;exact this
theorem Ks_ {en:List PV} {H:Hp} {cs:List Value} {o k:Nat} (hl:cs.length=o+k) (h:en.length=k/\Sims H en ((cs.drop o).take k)/\∀ u∈(cs.drop o).take k,u.oneCell'=true):en.length=k/\Sims H en (cs.drop o)/\∀ u∈cs.drop o,u.oneCell'=true:=by
 rw[List.take_of_length_le pO] at h;exact h
section
variable {Ht:Type} {enc:TypeId×Value->Ht} {w:World} {r:Reach} {b0 base:Nat} {spare:Nat->Bool} {held:Bool} {t:TypeId} {v:Value} {d:DataW Ht} {p:List MemPlace}
theorem arg_int {k:IntKind} (hs:P.underlying t=some (.int k)) (hv:Value.okWide P w r b0 t v) (h:DataW.Trod enc P w base spare held t v d p):∃ z:Int,Sim (hp w) (.int k z) v:=by
 obtain⟨z,rfl,h1,h2⟩:=rd_one_int hs hv h;exact⟨z, .int h1 h2⟩
theorem arg_rec {α:Type} {en:α->List PV} {k:Nat} {fs:Array Field} (hs:P.underlying t=some (.struct fs)) (hv:Value.okWide P w r b0 t v) (h:DataW.Trod enc P w base spare held t v d p) (hw:∀ q∈d.weights P t,q<=reachBytes) (hr:Rdv P t en k):∃ z:α,Sim (hp w) (.agg (en z)) v:=by
 obtain⟨l,fuel,rfl,h1⟩:=rd_agg hs hv h;obtain⟨z,h2⟩:=hr _ _ _ _ _ _ _ _ _ h1 hw;exact⟨z,Sim.toAgg h2.2.1⟩
theorem arg_sl {α:Type} {en:α->List PV} {e:TypeId} (hs:P.underlying t=some (.slice e)) (hv:Value.okWide P w r b0 t v) (h:DataW.Trod enc P w base spare held t v d p) (hw:∀ q∈d.weights P t,q<=reachBytes) (hr:Rdv P t (λxs:List α=>[.sl en xs]) 1):∃ z:List α,Sim (hp w) (.sl en z) v:=by
 obtain⟨fuel,h1⟩:=h;obtain⟨z,h2⟩:=hr _ _ _ _ _ _ _ _ _ h1 hw;obtain⟨u,us,e1,h3,h4⟩:=h2.2.1.inv_cons
 cases h4.inv_nil
 have :∃ a l c,u = .slice a l c:=by cases h3;exact⟨_,_,_,rfl⟩
 obtain⟨a,l,c,rfl⟩:=this;obtain rfl :=rd_one_slice hs hv e1;exact⟨z,h3⟩
theorem wt_arg {ts:List TypeId} {ds:List (DataW Ht)} {j:Nat} (hw:(DataW.weightsEach P ts ds).all (· <= reachBytes)=true) (ht:ts[j]? = some t) (hd:ds[j]? = some d):∀ q∈d.weights P t,q<=reachBytes:=λq hq=>by
 have :=List.all_eq_true.1 hw q (DataW.weights_mem_each ht hd q hq)
 exact rC
end
theorem law_run {G:Gb} {f:FuncId} {args:List PV} {b:Bool} {vs:List Value} {W:World} (h:Fn P G f args (.bool b)) (hg:G.p (hp W)) (hs:Sims (hp W) args vs) (hb:b=true):Calls P f vs.toArray W λe W'=>e = .returned (.bool true)/\Mem (rest0 W) (hp W) l0 W':=
 (h.run (rest0 W) (hp W) l0 W vs hg hs (mem0 W)).mono λ_ _ ⟨v,H',h1,h2,h3,h4⟩=>⟨by rw[h1,h2.inv_bool,hb],h4.le h3⟩
end Go.SW
namespace Go.SW.V
open Go.SW
variable {P:Program} {n m:Nat} {N:Rest} {H0:Env} {all rest:List Oper} {Q:Qs} {ks:List Kt} {fF gF:Nat->PV} {fL gL:Nat->Blk} {T ty d:Nat} {pos:String} {af:Array Edge} {x y z:Operand}
def deF (ts:List Nat) (G:Nat->PV):Nat->PV:=λt=>bif memB ts t then G t else (match G t with
 | .osl _=> .junk
 |p=>p)
def arrU:Blk->Option Value
 | .arr u _ _ _ _=>some u
 |_=>none
def keptO (G:Nat->PV) (L L':Nat->Blk):List Nat->Prop
 |[]=>True
 | t::r=>(match G t with
   | .osl q=>arrU (L' q)=arrU (L q)
   |_=>True)/\keptO G L L' r
theorem keptO_get {G:Nat->PV} {L L':Nat->Blk}:∀ {ts:List Nat} {t q:Nat},keptO G L L' ts->t∈ts->G t = .osl q->arrU (L' q)=arrU (L q)
 |[],t,q,_,h,_=>by cases h
 |a::r,t,q,hk,h,hG=>by
   rcases List.mem_cons.1 h with rfl|h
   . have :=hk.1;rw[hG] at this;exact this
   . exact keptO_get hk.2 h hG
def inlK (P:Program) (n:Nat) (N:Rest) (H0:Env) (tb:Tb) (rs:List ResultVar) (ts:List Nat) (fF:Nat->PV) (fL:Nat->Blk) (Q:Qs) (all rest:List Oper) (ks:List Kt) (d:Nat):Qs:=λe s=>(e = .normal\/e = .ret) /\
 ∃ ps as0 bs,Is_ tb s rs=some (ps,as0,bs)/\as0=bs/\(tupP ps).noOsl=true/\keptO fF fL s.L ts/\Hd P n N H0 Q (.ops all rest) ks ⟨updp (deF ts fF) d (tupP ps),s.L⟩
theorem inlr {H1:Env} {tb:Tb} {rs:List ResultVar} {ts:List Nat} {ps:List PV} {as0 bs:List Nat} (h:Is_ tb ⟨gF,gL⟩ rs=some (ps,as0,bs)) (he:as0=bs) (hno:(tupP ps).noOsl=true) (hk:keptO fF fL gL ts) (k:Hd P n N H0 Q (.ops all rest) ks ⟨updp (deF ts fF) d (tupP ps),gL⟩):Hd P m N H1 (inlK P n N H0 tb rs ts fF fL Q all rest ks d) (.ex .ret) [] ⟨gF,gL⟩:=⟨.inr Y,ps,as0,bs,h,he,hno,hk,k⟩
theorem inln {H1:Env} {tb:Tb} {rs:List ResultVar} {ts:List Nat} {ps:List PV} {as0 bs:List Nat} (h:Is_ tb ⟨gF,gL⟩ rs=some (ps,as0,bs)) (he:as0=bs) (hno:(tupP ps).noOsl=true) (hk:keptO fF fL gL ts) (k:Hd P n N H0 Q (.ops all rest) ks ⟨updp (deF ts fF) d (tupP ps),gL⟩):Hd P m N H1 (inlK P n N H0 tb rs ts fF fL Q all rest ks d) (.ex .normal) [] ⟨gF,gL⟩:=⟨.inl Y,ps,as0,bs,h,he,hno,hk,k⟩
theorem deF_ok {ts:List Nat} {H:Hp} {F:Fr} (hf:∀ t,SimT fL H (fF t) (F t)) (hk:keptO fF fL gL ts) (t:Nat):SimT gL H (deF ts fF t) (F t):=by
 have h1:=hf t;unfold deF
 cases e:memB ts t with
 |true=>
   simp only[cond_true]
   cases hp:fF t with
   |osl q=>
     have h2:=keptO_get hk (Pc_ e) hp
     rw[hp] at h1
     simp only[SimT] at h1 ⊢
     cases hg:gL q with
     |arr u' k' e' enc' xs'=>
       cases hl:fL q with
       |arr u k e enc xs=>rw[hg,hl] at h2;simp only[arrU,Option.some.injEq] at h2;rw[hl] at h1;rw[h2];exact h1
       |_=>rw[hg,hl] at h2;simp[arrU] at h2
     |_=>trivial
   |_=>rw[hp] at h1;exact h1
 |false=>
   simp only[cond_false]
   cases hp:fF t with
   |osl q=>exact Sim.junk
   |_=>rw[hp] at h1;exact h1
theorem hinl {tb:Tb} {f:FuncId} {fn:Func} {c:Code} {args:List PV} {xs:Array Operand} {ats:Array TypeId} (ts:List Nat) (ht:tbB P tb=true) (hf:P.funcs[f]? = some fn) (hb:fn.body=some c) (hn:fn.ntmps=m) (hcb:Bo_ P f) (ha:argsP fF x xs.toList=some (f,args)) (hs:Nat.ble args.length m=true) (hna:C4_ args=true) (hd:Nat.blt d n=true)
   (h:∀ Hc,H0.g.p Hc->Hd P m N ⟨Hc,H0.g⟩ (inlK P n N H0 tb fn.results.toList ts fF fL Q all rest ks d) (.code c) [] ⟨P9_ args,fL⟩):Hd P n N H0 Q (.ops all (⟨some d, .call ⟨.value x,xs,ats⟩,ty,pos,af,none⟩::rest)) ks ⟨fF,fL⟩:=by
 intro F H L hab;obtain⟨vs,h1,h2⟩:=Kd_ (ats:=ats) hab.f ha hcb;refine ow1 λa w hA hm=>?_;rw[if_pos pI];unfold Oper.wp;rw[hA.eval,h2];subst hn;have h3:=h H hab.g (K9_ vs.toArray) H L ⟨.refl H,hab.g,λt=>Od_ h1 hna t,hab.l⟩;refine H9_ (R:=λv H' L'=>∃ (sL:Nat->Blk) (res:PV),Sim H' res v/\res.noOsl=true/\keptO fF fL sL ts/\(∀ i,SimB sL H' (sL i) (L' i))/\H0.g.p H'/\Hd P n N H0 Q (.ops all rest) ks ⟨updp (deF ts fF) d res,sL⟩) (H0:=H) hf hb (by have :=Nat.le_of_ble_eq_true hs;simp[h1.1];exact this) (K7_ (λe F' H' L' hq=>?_) h3) hm ?_
 . obtain⟨s',ha',he,ps,as0,bs,e1,e2,e3,e4,e5⟩:=hq
   obtain⟨_,v,hr,hv⟩:=Qz_ (N:=N) (res:=tupP ps) ht ha' (show rtK tb fn.results.toList (tupP ps) e s' from ⟨he,ps,as0,bs,e1,e2,ple Y⟩)
   rcases he with rfl|rfl
   exact xN
   exact xN
 intro v H' L' w' ⟨sL,res,e1,e2,e3,e4,e5,e6⟩ hl hm';refine⟨_,H',L',hA.put pK v,hm',?_⟩;exact e6 _ _ _ (Abs.put (p:=res) (s:=⟨deF ts fF,sL⟩) ⟨hab.le.trans hl,e5,deF_ok (λt=>(hab.f t).mono hl) e3,e4⟩ d (e1.simT e2))
end Go.SW.V
namespace Go.SW.V
open Go.SW
variable {P:Program} {n:Nat} {N:Rest} {H0:Env} {all rest:List Oper} {Q:Qs} {ks:List Kt} {fF:Nat->PV} {fL:Nat->Blk} {T ty d:Nat} {pos:String} {af:Array Edge} {x y z:Operand} {K:St->Prop}
end Go.SW.V
namespace Go.SW.V
open Go.SW
variable {P:Program} {n:Nat} {N:Rest} {H0:Env} {all rest:List Oper} {Q:Qs} {ks:List Kt} {fF:Nat->PV} {fL:Nat->Blk} {T ty d:Nat} {pos:String} {af:Array Edge} {x y z:Operand} {K:St->Prop}
theorem lo_aidx {F:Fr} {H:Hp} {L:Ls} {kk:IntKind} {b off len k m:Nat} {i:Int} {e:TypeId} (hx:ev F x = .pointer (some ⟨b,off,none⟩)) (hy:ev F y = .int kk i) (hT:P.underlying T=some (.array len e)) (hk:Sz P e k) (hi:i=(m:Int)) (hm:m<len):SW.Lo P N (.indexAddr T x y) ty F H L (.pointer (some ⟨b,off+m*k,none⟩)):=λd pos af gg w _=>by
 subst hi
 simp[execOp,hy,hx,Instr.indexAt,asIntOf,run_underlying hT,Instr.sureAddr,hk w,hm,Addr.add]
theorem qaia {kk:IntKind} {i b off len k:Nat} {z:Int} {e:TypeId} (m:Nat) (hx:evP fF x = .own i b off) (hy:evP fF y = .int kk z) (hT:P.underlying T=some (.array len e)) (hk:Sz P e k) (hi:z=(m:Int)) (hm:m<len):Qy P N H0 ⟨fF,fL⟩ (.indexAddr T x y) ty (.own i b (off+m*k)):=λF H L ha=>by
 have h1:=(Da_ ha.f x).sim
 have h2:=(Da_ ha.f y).sim
 simp only at h1 h2
 rw[hx] at h1
 rw[hy] at h2
 exact⟨_,Sim.own,λ_ _ _=>lo_aidx h1.inv_own h2.inv_int.1 hT hk hi hm⟩
theorem oload1 {tb:Tb} {ti:TI} {i b b' off T0:Nat} {cs:List PV} (p:PV) (ht:tbB P tb=true) (hx:evP fF x = .own i b off) (hb:fL i = .box b' T0 cs) (hbb:b'=b) (hti:lkT tb T=some ti) (hag:ti.k.isAgg=false) (hc:cs[off]? = some p) (hd:Nat.blt d n=true) (k:p.wf->K ⟨updp fF d p,fL⟩):E1 P n N H0 all ⟨some d, .load T x,ty,pos,af,none⟩ none ⟨fF,fL⟩ K:=by
 intro F H L ha;subst hbb;have h1:=(Da_ ha.f x).sim;simp only at h1;rw[hx] at h1;have h3:=ha.l i;simp only[hb] at h3;obtain⟨vs,hL,hs⟩:=h3;obtain⟨v,hv,hsv⟩:=hs.get hc;have hg:=(D8_ ht hti).ag;rw[hag] at hg;exact Pd_ hd (Lk_ h1.inv_own hg hL hv) ⟨.refl H,λ_ _=>rfl,_,ha.put d hsv,k hsv.sim.wf⟩
theorem oloadA {tb:Tb} {ti:TI} {i b b' off T0:Nat} {cs:List PV} (ps:List PV) (ht:tbB P tb=true) (hx:evP fF x = .own i b off) (hb:fL i = .box b' T0 cs) (hbb:b'=b) (hti:lkT tb T=some ti) (hag:ti.k.isAgg=true) (hc:(cs.drop off).take ti.size=ps) (hl:off+ti.size<=cs.length) (hd:Nat.blt d n=true) (k:PV.wfs ps->K ⟨updp fF d (.agg ps),fL⟩):E1 P n N H0 all ⟨some d, .load T x,ty,pos,af,none⟩ none ⟨fF,fL⟩ K:=by
 intro F H L ha;subst hbb;have h1:=(Da_ ha.f x).sim;simp only at h1;rw[hx] at h1;have h3:=ha.l i;simp only[hb] at h3;obtain⟨vs,hL,hs⟩:=h3;have hg:=(D8_ ht hti).ag;rw[hag] at hg;have hsv:Sims H ps ((vs.drop off).take ti.size):=by rw[<- hc];exact (hs.sims.drop off).take ti.size
 exact Pd_ hd (Un_ (vs:=(vs.drop off).take ti.size) h1.inv_own hg (D8_ ht hti).sz hL Y (by simp[hs.1];omega)) ⟨.refl H,λ_ _=>rfl,_,ha.put (p:= .agg ps) d (Sim.toAgg hsv),k hsv.wf⟩
theorem ostore1 {tb:Tb} {ti:TI} {i b b' off T0:Nat} {cs:List PV} {p:PV} (cs':List PV) (ht:tbB P tb=true) (hx:evP fF x = .own i b off) (hb:fL i = .box b' T0 cs) (hti:lkT tb T=some ti) (hsz:ti.size=1) (hy:evS (evP fF y)=some p) (ho:p.one=true) (hl:off<cs.length) (hbb:b'=b) (hc:cs.set off p=cs')
   (k:K ⟨fF,lups fL i (.box b T0 cs')⟩):E1 P n N H0 all ⟨none, .store T x y,ty,pos,af,none⟩ (some i) ⟨fF,fL⟩ K:=
 SW.store1 (s:=⟨fF,fL⟩) ht hx hb hti hsz hy ho (by simpa [Nat.blt_eq] using hl) hbb (by rw[hc];simp only[evL,Ta_]) k
theorem ostoreA {tb:Tb} {ti:TI} {i b b' off T0:Nat} {cs ps:List PV} (cs':List PV) (ht:tbB P tb=true) (hx:evP fF x = .own i b off) (hb:fL i = .box b' T0 cs) (hti:lkT tb T=some ti) (hy:evP fF y = .agg ps) (hn:C4_ ps=true) (ho:all1 ps=true) (hsz:ps.length=ti.size) (hl:off+ti.size<=cs.length) (hbb:b'=b) (hc:cs.take off++(ps++cs.drop (off+ti.size))=cs')
   (k:K ⟨fF,lups fL i (.box b T0 cs')⟩):E1 P n N H0 all ⟨none, .store T x y,ty,pos,af,none⟩ (some i) ⟨fF,fL⟩ K:=
 SW.storeA (s:=⟨fF,fL⟩) ht hx hb hti hy hn ho hsz pW hbb (by rw[hc];simp only[evL,Ta_]) k
theorem Zz_ {tb:Tb} {ti:TI} {i b b' off T0 len:Nat} {cs:List PV} (row:Nat->PV) (m base w o:Nat) (ht:tbB P tb=true) (hx:evP fF x = .own i b off) (hb:fL i = .box b' T0 cs) (hbb:b'=b) (hti:lkT tb T=some ti) (hag:ti.k.isAgg=false) (hoff:off=base+m*w+o) (hm:m<len) (hc:∀ q,q<len->cs[base+q*w+o]? = some (row q)) (hd:Nat.blt d n=true) (k:(row m).wf->K ⟨updp fF d (row m),fL⟩):E1 P n N H0 all ⟨some d, .load T x,ty,pos,af,none⟩ none ⟨fF,fL⟩ K:=
 oload1 (row m) ht hx hb hbb hti hag (by rw[hoff];exact hc m hm) hd k
theorem I9_ {tb:Tb} {ti:TI} {i b b' off T0 len sz:Nat} {cs:List PV} (row:Nat->List PV) (m base w o:Nat) (ht:tbB P tb=true) (hx:evP fF x = .own i b off) (hb:fL i = .box b' T0 cs) (hbb:b'=b) (hti:lkT tb T=some ti) (hag:ti.k.isAgg=true) (hsz:ti.size=sz) (hoff:off=base+m*w+o) (hm:m<len) (hc:∀ q,q<len->(cs.drop (base+q*w+o)).take sz=row q) (hl:∀ q,q<len->Nat.ble (base+q*w+o+sz) cs.length=true) (hd:Nat.blt d n=true) (k:PV.wfs (row m)->K ⟨updp fF d (.agg (row m)),fL⟩):E1 P n N H0 all ⟨some d, .load T x,ty,pos,af,none⟩ none ⟨fF,fL⟩ K:=
 oloadA (row m) ht hx hb hbb hti hag (by rw[hoff,hsz];exact hc m hm) (by rw[hoff,hsz];simpa using hl m hm) hd k
theorem ostoreS1 {tb:Tb} {ti:TI} {i b b' off T0 len:Nat} {cs cs2:List PV} {p:PV} (cs':Nat->List PV) (m base w o:Nat) (ht:tbB P tb=true) (hx:evP fF x = .own i b off) (hb:fL i = .box b' T0 cs) (hti:lkT tb T=some ti) (hsz:ti.size=1) (hy:evS (evP fF y)=some p) (ho:p.one=true) (hoff:off=base+m*w+o) (hm:m<len) (hl:∀ q,q<len->Nat.blt (base+q*w+o) cs.length=true) (hbb:b'=b) (hc:∀ q,q<len->cs.set (base+q*w+o) p=cs' q) (he:evL (cs' m)=some cs2)
   (k:K ⟨fF,lups fL i (.box b T0 cs2)⟩):E1 P n N H0 all ⟨none, .store T x y,ty,pos,af,none⟩ (some i) ⟨fF,fL⟩ K:=
 ostore1 cs2 ht hx hb hti hsz hy ho (by rw[hoff];simpa [Nat.blt_eq] using hl m hm) hbb (by rw[hoff,hc m hm,<- evL_eq he]) k
theorem P0_ {tb:Tb} {ti:TI} {i b b' off T0 len sz:Nat} {cs ps cs2:List PV} (cs':Nat->List PV) (m base w o:Nat) (ht:tbB P tb=true) (hx:evP fF x = .own i b off) (hb:fL i = .box b' T0 cs) (hti:lkT tb T=some ti) (hsz:ti.size=sz) (hy:evP fF y = .agg ps) (hn:C4_ ps=true) (ho:all1 ps=true) (hps:ps.length=sz) (hoff:off=base+m*w+o) (hm:m<len) (hl:∀ q,q<len->Nat.ble (base+q*w+o+sz) cs.length=true) (hbb:b'=b) (hc:∀ q,q<len->cs.take (base+q*w+o)++(ps++cs.drop (base+q*w+o+sz))=cs' q) (he:evL (cs' m)=some cs2)
   (k:K ⟨fF,lups fL i (.box b T0 cs2)⟩):E1 P n N H0 all ⟨none, .store T x y,ty,pos,af,none⟩ (some i) ⟨fF,fL⟩ K:=
 ostoreA cs2 ht hx hb hti hy hn ho (by rw[hps,hsz]) (by rw[hoff,hsz];simpa using hl m hm) hbb (by rw[hoff,hsz,hc m hm,<- evL_eq he]) k
theorem bw8 {p:Nat->Prop} (h0:p 0) (h1:p 1) (h2:p 2) (h3:p 3) (h4:p 4) (h5:p 5) (h6:p 6) (h7:p 7):∀ m,m<8->p m
 |0,_=>h0|1,_=>h1|2,_=>h2|3,_=>h3|4,_=>h4|5,_=>h5|6,_=>h6|7,_=>h7
 |m+8,h=>absurd h pB
theorem bw16 {p:Nat->Prop} (h0:p 0) (h1:p 1) (h2:p 2) (h3:p 3) (h4:p 4) (h5:p 5) (h6:p 6) (h7:p 7) (h8:p 8) (h9:p 9) (h10:p 10) (h11:p 11) (h12:p 12) (h13:p 13) (h14:p 14) (h15:p 15):∀ m,m<16->p m
 |0,_=>h0|1,_=>h1|2,_=>h2|3,_=>h3|4,_=>h4|5,_=>h5|6,_=>h6|7,_=>h7|8,_=>h8|9,_=>h9|10,_=>h10|11,_=>h11|12,_=>h12|13,_=>h13|14,_=>h14|15,_=>h15
 |m+16,h=>absurd h pB
structure A8 (α:Type) where
 (e0 e1 e2 e3 e4 e5 e6 e7:α)
deriving DecidableEq,Inhabited
structure A16 (α:Type) where
 (e0 e1 e2 e3 e4 e5 e6 e7 e8 e9 e10 e11 e12 e13 e14 e15:α)
deriving DecidableEq,Inhabited
def A8.get {α:Type} (a:A8 α):Nat->α
 |0=>a.e0|1=>a.e1|2=>a.e2|3=>a.e3|4=>a.e4|5=>a.e5|6=>a.e6|_=>a.e7
def A16.get {α:Type} (a:A16 α):Nat->α
 |0=>a.e0|1=>a.e1|2=>a.e2|3=>a.e3|4=>a.e4|5=>a.e5|6=>a.e6|7=>a.e7|8=>a.e8|9=>a.e9|10=>a.e10|11=>a.e11|12=>a.e12|13=>a.e13|14=>a.e14|_=>a.e15
def A8.set {α:Type} (a:A8 α) (v:α):Nat->A8 α
 |0=>{a with e0:=v}|1=>{a with e1:=v}|2=>{a with e2:=v}|3=>{a with e3:=v}|4=>{a with e4:=v}|5=>{a with e5:=v}|6=>{a with e6:=v}|_=>{a with e7:=v}
def A16.set {α:Type} (a:A16 α) (v:α):Nat->A16 α
 |0=>{a with e0:=v}|1=>{a with e1:=v}|2=>{a with e2:=v}|3=>{a with e3:=v}|4=>{a with e4:=v}|5=>{a with e5:=v}|6=>{a with e6:=v}|7=>{a with e7:=v}|8=>{a with e8:=v}|9=>{a with e9:=v}|10=>{a with e10:=v}|11=>{a with e11:=v}|12=>{a with e12:=v}|13=>{a with e13:=v}|14=>{a with e14:=v}|_=>{a with e15:=v}
theorem A16.get_set {α:Type} (a:A16 α) (v:α) (m q:Nat) (hm:m<16) (hq:q<16):(a.set v m).get q = if q=m then v else a.get q:=by
 revert q
 refine bw16 (p:=λm=>∀ q,q<16->(a.set v m).get q = if q=m then v else a.get q) ?_ ?_ ?_ ?_ ?_ ?_ ?_ ?_ ?_ ?_ ?_ ?_ ?_ ?_ ?_ ?_ m hm<;>exact bw16 Y Y Y Y Y Y Y Y Y Y Y Y Y Y Y Y
theorem A8.get_set {α:Type} (a:A8 α) (v:α) (m q:Nat) (hm:m<8) (hq:q<8):(a.set v m).get q = if q=m then v else a.get q:=by
 revert q
 refine bw8 (p:=λm=>∀ q,q<8->(a.set v m).get q = if q=m then v else a.get q) ?_ ?_ ?_ ?_ ?_ ?_ ?_ ?_ m hm<;>exact bw8 Y Y Y Y Y Y Y Y
end Go.SW.V
namespace Go.SW
theorem rl_set1 {α:Type} {enc:α->List PV} {k:Nat} {H:Hp} {p:PV} {v:Value} {o:Nat} {y:α} (ho:o<k) (hp:Sim H p v) (h1:v.oneCell'=true):∀ {xs:List α} {cs:List Value} {m:Nat},Rl (RowE enc k) H xs cs->m<xs.length->(∀ a,xs[m]? = some a->enc y=(enc a).set o p)->Rl (RowE enc k) H (xs.set m y) (cs.set (m*k+o) v)
 |[],_,_,_,hm,_=>by cases hm
 |x::xs,_,0,⟨c1,c2,e,r1,r2⟩,_,he=>by
   have ex:=he x Y
   obtain⟨q1,q2,q3⟩:=r1
   have hl:c1.length=k:=by rw[q2.1,q1]
   refine⟨c1.set o v,c2,?_,⟨by rw[ex,List.length_set,q1],?_,?_⟩,r2⟩
   . rw[e,Nat.zero_mul,Nat.zero_add,List.set_append_left _ _ pB]
   . rw[ex]
     refine⟨by simp[q2.1],λi q w hq hw=>?_⟩
     rw[List.getElem?_set] at hq hw
     by_cases z:o=i
     . subst z
       rw[if_pos rfl,if_pos pB] at hq
       rw[if_pos rfl,if_pos pB] at hw
       cases hq;cases hw;exact hp
     . rw[if_neg z] at hq hw
       exact q2.2 i q w hq hw
   . intro w hw
     rcases List.mem_or_eq_of_mem_set hw with z|z
     . exact q3 w z
     . rw[z];exact h1
 |x::xs,_,m+1,⟨c1,c2,e,r1,r2⟩,hm,he=>by
   have hl:c1.length=k:=by rw[r1.2.1.1,r1.1]
   refine⟨c1,c2.set (m*k+o) v,?_,r1,rl_set1 ho hp h1 r2 (by simpa using hm) (λa ha=>he a (by simpa using ha))⟩
   rw[e,List.set_append_right _ _ nB,hl,show (m+1)*k+o-k=m*k+o by rw[Nat.add_mul];omega]
theorem rl_setA {α:Type} {enc:α->List PV} {k:Nat} {H:Hp} {ps:List PV} {vs:List Value} {o:Nat} {y:α} (ho:o+ps.length<=k) (hp:Sims H ps vs) (h1:∀ v∈vs,v.oneCell'=true):∀ {xs:List α} {cs:List Value} {m:Nat},Rl (RowE enc k) H xs cs->m<xs.length->(∀ a,xs[m]? = some a->enc y=(enc a).take o++(ps++(enc a).drop (o+ps.length)))->Rl (RowE enc k) H (xs.set m y) (cs.take (m*k+o)++(vs++cs.drop (m*k+o+ps.length)))
 |[],_,_,_,hm,_=>by cases hm
 |x::xs,_,0,⟨c1,c2,e,r1,r2⟩,_,he=>by
   have ex:=he x Y
   obtain⟨q1,q2,q3⟩:=r1
   have hl:c1.length=k:=by rw[q2.1,q1]
   have hv:=hp.1
   refine⟨c1.take o++(vs++c1.drop (o+ps.length)),c2,?_,⟨by rw[ex];simp;omega,?_,?_⟩,r2⟩
   . rw[e,Nat.zero_mul,Nat.zero_add,List.take_append_of_le_length pB,List.drop_append_of_le_length pB]
     simp
   . rw[ex]
     exact Sims.append (Sims.take q2 o) (Sims.append hp (Sims.drop q2 (o+ps.length)))
   . intro w hw
     simp only[List.mem_append] at hw
     rcases hw with z|z|z
     . exact q3 w (List.mem_of_mem_take z)
     . exact h1 w z
     . exact q3 w (List.mem_of_mem_drop z)
 |x::xs,_,m+1,⟨c1,c2,e,r1,r2⟩,hm,he=>by
   have hl:c1.length=k:=by rw[r1.2.1.1,r1.1]
   refine⟨c1,c2.take (m*k+o)++(vs++c2.drop (m*k+o+ps.length)),?_,r1,rl_setA ho hp h1 r2 (by simpa using hm) (λa ha=>he a (by simpa using ha))⟩
   rw[e,show (m+1)*k+o=c1.length+(m*k+o) by rw[hl,Nat.add_mul];omega,List.take_append,List.take_of_length_le pB,show c1.length+(m*k+o)-c1.length=m*k+o by omega,Nat.add_assoc,List.drop_append,List.drop_of_length_le pB,show c1.length+(m*k+o+ps.length)-c1.length=m*k+o+ps.length by omega]
   simp
theorem Abs.turnU {P:Program} {n:Nat} {N:Rest} {H0:Env} {s:St} {F:Fr} {H:Hp} {L:Ls} {α:Type} {u:Value} {k e:Nat} {enc:α->List PV} {xs xs':List α} (ha:Abs H0 s F H L) (i:Nat) (hb:s.L i = .arr u k e enc xs) {x:Option (Nat×Obj)} (hx:SimB s.L H (.arr u k e enc xs') x):Abs H0 ⟨s.F,lups s.L i (.arr u k e enc xs')⟩ F H (lupd L i x):=by
 have hshape:∀ {p v},SimT s.L H p v->SimT (lups s.L i (.arr u k e enc xs')) H p v:=λ{p v} h=>by
   cases p with
   |osl j=>
     by_cases e:j=i
     . subst e;simp only[SimT,Ef_,hb] at h ⊢;exact h
     . exact sW
   |_=>exact h
 refine⟨ha.le,ha.g,λt=>hshape (ha.f t),λj=>?_⟩;by_cases e:j=i;exact rD
 . simp only[Jw_ _ _ _ _ e,Cj_ _ _ _ _ e]
   have h1:=ha.l j
   generalize s.L j=C at *
   cases C with
   |box b T cs=>obtain⟨vs,h2,h3,h4⟩:=h1;exact⟨vs,h2,h3,λa p v hp hv=>hshape (h4 a p v hp hv)⟩
   |no=>trivial
   |arr u k e enc xs=>exact h1
   |itr b s p=>exact h1
   |ob b o=>exact h1
end Go.SW
namespace Go.SW.V
open Go.SW
variable {P:Program} {n:Nat} {N:Rest} {H0:Env} {all rest:List Oper} {Q:Qs} {ks:List Kt} {fF:Nat->PV} {fL:Nat->Blk} {T ty d:Nat} {pos:String} {af:Array Edge} {x y z:Operand} {K:St->Prop}
theorem lo_sidx {F:Fr} {H:Hp} {L:Ls} {kk:IntKind} {k m b o len cap:Nat} {i:Int} {e:TypeId} (hx:ev F x = .slice (some ⟨b,o,none⟩) len cap) (hy:ev F y = .int kk i) (hT:P.underlying T=some (.slice e)) (hk:Sz P e k) (hi:i=m) (hm:m<len):SW.Lo P N (.indexAddr T x y) ty F H L (.pointer (some ⟨b,o+m*k,none⟩)):=λd pos af g w _=>by
 subst hi
 simp[execOp,hx,hy,Instr.indexAt,asIntOf,run_underlying hT,hk w,hm,Ge_]
theorem Xm_ {α:Type} {s:St} {F:Fr} {H:Hp} {L:Ls} {i k e:Nat} {u:Value} {enc:α->List PV} {xs:List α} (ha:Abs H0 s F H L) (hb:s.L i = .arr u k e enc xs) (h0:0<xs.length) :
   ∃ b cap c f,u = .slice (some ⟨b,f.length,none⟩) xs.length cap/\L i=some (b,bx e (f++c))/\cap*k<=c.length/\xs.length<=cap/\Rl (RowE enc k) H xs (c.take (xs.length*k))/\xs.length<=140737488355328/\(k=1->f=[]):=by
 have h3:=ha.l i;rw[hb] at h3;obtain⟨cs,⟨hl,⟨_,h0',_⟩|⟨b,cap,c,f,rfl,hL,hcl,hle,htk,hff⟩⟩,hr,hm⟩:=h3;omega;exact⟨b,cap,c,f,rfl,hL,hcl,hle,by rw[htk];exact hr,hm,hff⟩
theorem eidx {α:Type} {tb:Tb} {ti te:TI} {kk:IntKind} {i e k:Nat} {z:Int} {u:Value} {enc:α->List PV} {xs:List α} (m:Nat) (ht:tbB P tb=true) (hx:evP fF x = .osl i) (hb:fL i = .arr u k e enc xs) (hy:evP fF y = .int kk z) (hti:lkT tb T=some ti) (htk:ti.k = .slc e) (hte:lkT tb e=some te) (hk:te.size=k) (hi:z=(m:Int)) (hm:m<xs.length) :
   Qy P N H0 ⟨fF,fL⟩ (.indexAddr T x y) ty (.val (.pointer (some ⟨sBlk u,sOff u+m*k,none⟩))):=λF H L ha=>by
 have h1:=Da_ ha.f x
 unfold Ok1 at h1
 simp only at h1
 rw[hx] at h1
 simp only[SimT,hb] at h1
 have h2:=(Da_ ha.f y).sim
 simp only at h2
 rw[hy] at h2
 obtain⟨b,cap,c,f,rfl,hL,_⟩:=Xm_ ha (i:=i) hb pB
 have hsz:=(D8_ ht hte).sz
 rw[hk] at hsz
 exact⟨_,Sim.val,λ_ _ _=>lo_sidx h1 h2.inv_int.1 ((D8_ ht hti).slc htk) hsz hi hm⟩
theorem efld {b off f o:Nat} (hx:evP fF x = .val (.pointer (some ⟨b,off,none⟩))) (hf:Fld P T f o):Qy P N H0 ⟨fF,fL⟩ (.fieldAddr T x f) ty (.val (.pointer (some ⟨b,off+o,none⟩))):=λF H L ha=>by
 have h1:=(Da_ ha.f x).sim
 simp only at h1
 rw[hx] at h1
 exact⟨_,Sim.val,λ_ _ _=>Ex_ h1.inv_val hf⟩
theorem row_at {α:Type} {H:Hp} {enc:α->List PV} {k m:Nat} {xs:List α} {a:α} {c:List Value} (hr:Rl (RowE enc k) H xs (c.take (xs.length*k))) (ha:xs[m]? = some a):∃ ds,RowE enc k H a ds/\∀ j,j<k->c[m*k+j]? = ds[j]? :=by
 obtain⟨hm,rfl⟩:=List.getElem?_eq_some_iff.1 ha;obtain⟨ds,p,q⟩:=rl_at K4_ hr m hm;refine⟨ds,p,λj hj=>?_⟩;have :(m+1)*k<=xs.length*k:=Nat.mul_le_mul_right k pB;rw[Nat.add_mul] at this;rw[<- q j hj,List.getElem?_take,if_pos pB]
theorem elod1 {α:Type} {tb:Tb} {ti:TI} {i e k off:Nat} {u:Value} {enc:α->List PV} {xs:List α} {a:α} (p:PV) (m o:Nat) (ht:tbB P tb=true) (hx:evP fF x = .val (.pointer (some ⟨sBlk u,off,none⟩))) (hb:fL i = .arr u k e enc xs) (hti:lkT tb T=some ti) (hag:ti.k.isAgg=false) (ha':xs[m]? = some a) (hoff:off=sOff u+m*k+o) (hp:(enc a)[o]? = some p) (hn:p.noOsl=true) (hd:Nat.blt d n=true) (kk:p.wf->K ⟨updp fF d p,fL⟩):E1 P n N H0 all ⟨some d, .load T x,ty,pos,af,none⟩ none ⟨fF,fL⟩ K:=by
 intro F H L ha;have h1:=(Da_ ha.f x).sim;simp only at h1;rw[hx] at h1;have hm:m<xs.length:=(List.getElem?_eq_some_iff.1 ha').1;obtain⟨b,cap,c,f,rfl,hL,hcl,hle,hr,hbb,hff⟩:=Xm_ ha (i:=i) hb pB;obtain⟨ds,⟨q1,q2,q3⟩,q4⟩:=row_at hr ha';have ho:o<k:=by rw[<- q1];exact (List.getElem?_eq_some_iff.1 hp).1
 obtain⟨v,hv⟩:∃ v,ds[o]? = some v:=⟨_,List.getElem?_eq_getElem (by rw[q2.1,q1];exact ho)⟩;have hs:=q2.2 o p v hp hv;have hg:=(D8_ ht hti).ag;rw[hag] at hg;exact Pd_ hd (Lk_ h1.inv_val hg hL (by rw[hoff];show (f++c)[f.length+m*k+o]? = _;rw[Nat.add_assoc,List.getElem?_append_right pB,Nat.add_sub_cancel_left,q4 o ho];exact hv)) ⟨.refl H,λ_ _=>rfl,_,ha.put d (hs.simT hn),kk hs.wf⟩
theorem est1 {α:Type} {tb:Tb} {ti:TI} {i e k off:Nat} {u:Value} {enc:α->List PV} {xs:List α} {p:PV} (m o:Nat) (a':α) (ht:tbB P tb=true) (hx:evP fF x = .val (.pointer (some ⟨sBlk u,off,none⟩))) (hb:fL i = .arr u k e enc xs) (hti:lkT tb T=some ti) (hsz:ti.size=1) (hy:evS (evP fF y)=some p) (ho:p.one=true) (hm:m<xs.length) (hoff:off=sOff u+m*k+o) (hok:o<k) (he:∀ a,xs[m]? = some a->enc a'=(enc a).set o p)
   (kk:K ⟨fF,lups fL i (.arr u k e enc (xs.set m a'))⟩):E1 P n N H0 all ⟨none, .store T x y,ty,pos,af,none⟩ (some i) ⟨fF,fL⟩ K:=by
 intro F H L ha;have hy:=evS_eq hy;have h1:=(Da_ ha.f x).sim;simp only at h1;rw[hx] at h1;have h2:=(Da_ ha.f y).sim;simp only at h2;rw[hy] at h2;obtain⟨b,cap,c,f,rfl,hL,hcl,hle,hr,hbb,hff⟩:=Xm_ ha (i:=i) hb pB;have hsz':=(D8_ ht hti).sz;rw[hsz] at hsz';have hlt:m*k+o<xs.length*k:=by
   exact xR
 have hlc:xs.length*k<=c.length:=Nat.le_trans (Nat.mul_le_mul_right k hle) hcl;subst hoff;have hset:(f++c).set (sOff (.slice (some ⟨b,f.length,none⟩) xs.length cap)+m*k+o) (ev F y)=f++c.set (m*k+o) (ev F y):=by
   show (f++c).set (f.length+m*k+o) (ev F y)=_
   rw[Nat.add_assoc,List.set_append_right _ _ pB,Nat.add_sub_cancel_left]
 refine Ly_ h1.inv_val Y (h2.one ho) hsz' hL (by simp[Nat.blt_eq,sOff];omega) ?_;rw[hset];refine⟨.refl H,only,_,ha.turnU (n:=n) (N:=N) (P:=P) i hb ⟨(c.set (m*k+o) (ev F y)).take (xs.length*k),⟨by simp;omega, .inr ⟨b,cap,c.set (m*k+o) (ev F y),f,by simp,rfl,by simpa using hcl,by simpa using hle,by simp,hff⟩⟩,?_,by simpa using hbb⟩,kk⟩;rw[List.take_set];exact rl_set1 hok h2 (h2.one ho) hr hm he
theorem elodA {α:Type} {tb:Tb} {ti:TI} {i e k off sz:Nat} {u:Value} {enc:α->List PV} {xs:List α} {a:α} (ps:List PV) (m o:Nat) (ht:tbB P tb=true) (hx:evP fF x = .val (.pointer (some ⟨sBlk u,off,none⟩))) (hb:fL i = .arr u k e enc xs) (hti:lkT tb T=some ti) (hag:ti.k.isAgg=true) (hsz:ti.size=sz) (ha':xs[m]? = some a) (hoff:off=sOff u+m*k+o) (hp:((enc a).drop o).take sz=ps) (hos:o+sz<=k) (hd:Nat.blt d n=true) (kk:PV.wfs ps->K ⟨updp fF d (.agg ps),fL⟩):E1 P n N H0 all ⟨some d, .load T x,ty,pos,af,none⟩ none ⟨fF,fL⟩ K:=by
 intro F H L ha;have h1:=(Da_ ha.f x).sim;simp only at h1;rw[hx] at h1;have hm:m<xs.length:=(List.getElem?_eq_some_iff.1 ha').1;obtain⟨b,cap,c,f,rfl,hL,hcl,hle,hr,hbb,hff⟩:=Xm_ ha (i:=i) hb pB;obtain⟨ds,⟨q1,q2,q3⟩,q4⟩:=row_at hr ha';have hdl:ds.length=k:=by rw[q2.1,q1]
 have hsub:sub (f++c) off sz=(ds.drop o).take sz:=by
   apply List.ext_getElem?
   intro j
   simp only[sub,List.getElem?_take,List.getElem?_drop]
   by_cases z:j<sz
   . rw[if_pos z,if_pos z,hoff]
     show (f++c)[f.length+m*k+o+j]? = _
     rw[Nat.add_assoc,Nat.add_assoc,List.getElem?_append_right pB,Nat.add_sub_cancel_left,q4 (o+j) pB]
   . rw[if_neg z,if_neg z]
 have hsv:Sims H ps ((ds.drop o).take sz):=by rw[<- hp];exact Sims.take (Sims.drop q2 o) sz
 have hg:=(D8_ ht hti).ag;rw[hag] at hg;have hk:=(D8_ ht hti).sz;rw[hsz] at hk;exact Pd_ hd (Un_ (vs:=(ds.drop o).take sz) h1.inv_val hg hk hL hsub pO) ⟨.refl H,λ_ _=>rfl,_,ha.put (p:= .agg ps) d (Sim.toAgg hsv),kk hsv.wf⟩
theorem estA {α:Type} {tb:Tb} {ti:TI} {i e k off:Nat} {u:Value} {enc:α->List PV} {xs:List α} {ps:List PV} (m o:Nat) (a':α) (ht:tbB P tb=true) (hx:evP fF x = .val (.pointer (some ⟨sBlk u,off,none⟩))) (hb:fL i = .arr u k e enc xs) (hti:lkT tb T=some ti) (hy:evP fF y = .agg ps) (ho:all1 ps=true) (hsz:ps.length=ti.size) (hm:m<xs.length) (hoff:off=sOff u+m*k+o) (hok:o+ps.length<=k) (he:∀ a,xs[m]? = some a->enc a'=(enc a).take o++(ps++(enc a).drop (o+ps.length)))
   (kk:K ⟨fF,lups fL i (.arr u k e enc (xs.set m a'))⟩):E1 P n N H0 all ⟨none, .store T x y,ty,pos,af,none⟩ (some i) ⟨fF,fL⟩ K:=by
 intro F H L ha;have h1:=(Da_ ha.f x).sim;simp only at h1;rw[hx] at h1;have h2:=(Da_ ha.f y).sim;simp only at h2;rw[hy] at h2;obtain⟨vs,hv,hvs⟩:=h2.inv_agg;obtain⟨b,cap,c,f,rfl,hL,hcl,hle,hr,hbb,hff⟩:=Xm_ ha (i:=i) hb pB;have hsz':=(D8_ ht hti).sz;rw[<- hsz] at hsz';have hlt:m*k+o+ps.length<=xs.length*k:=by
   exact xR
 have hlc:xs.length*k<=c.length:=Nat.le_trans (Nat.mul_le_mul_right k hle) hcl;have hvl:vs.length=ps.length:=hvs.1;have ha1:=S2_ hvs ho;subst hoff;refine Wf_ (f++(c.take (m*k+o)++(vs++c.drop (m*k+o+ps.length)))) h1.inv_val hv ha1 hsz' hvl hL (by simp[Nat.ble_eq,sOff];omega) ?_ ?_;show (f++c).take (f.length+m*k+o)++(vs++(f++c).drop (f.length+m*k+o+ps.length))=_;rw[Nat.add_assoc f.length,Nat.add_assoc f.length,List.take_append,List.drop_append,List.take_of_length_le pB,List.drop_of_length_le pB,Nat.add_sub_cancel_left,Nat.add_sub_cancel_left];simp;refine⟨.refl H,only,_,ha.turnU (n:=n) (N:=N) (P:=P) i hb ⟨(c.take (m*k+o)++(vs++c.drop (m*k+o+ps.length))).take (xs.length*k),⟨by simp;omega, .inr ⟨b,cap,_,f,by simp,rfl,by simp;omega,by simpa using hle,by simp,hff⟩⟩,?_,by simpa using hbb⟩,kk⟩;have e:(c.take (m*k+o)++(vs++c.drop (m*k+o+ps.length))).take (xs.length*k)=(c.take (xs.length*k)).take (m*k+o)++(vs++(c.take (xs.length*k)).drop (m*k+o+ps.length)):=by
   obtain⟨A,B,hA,hc,hAl⟩:∃ A B,c.take (xs.length*k)=A/\c=A++B/\A.length=xs.length*k:=⟨_,_,rfl,(List.take_append_drop _ _).symm,by simp;omega⟩
   rw[hA,hc,List.take_append_of_le_length (show m*k+o<=A.length by omega),List.drop_append_of_le_length (show m*k+o+ps.length<=A.length by omega),<- List.append_assoc vs,<- List.append_assoc]
   exact List.take_left' pO
 rw[e];exact rl_setA hok hvs (by simpa [List.all_eq_true] using ha1) hr hm he
theorem ecut1 {α:Type} {tb:Tb} {ti te:TI} {kk:IntKind} {i e k:Nat} {z:Int} {u:Value} {enc:α->List PV} {xs:List α} (ht:tbB P tb=true) (hx:evP fF x = .osl i) (hb:fL i = .arr u k e enc xs) (hy:evP fF y = .int kk z) (hti:lkT tb T=some ti) (htk:ti.k = .slc e) (hte:lkT tb e=some te) (hk:te.size=k) (h1:Nat.blt 1 k=true) (hi:z=1) (hm:0<xs.length) (hd:Nat.blt d n=true)
   (kk:∀ u',K ⟨updp (Ip_ i fF) d (.osl i),lups (G3_ i fL) i (.arr u' k e enc (xs.drop 1))⟩):E1 P n N H0 all ⟨some d, .slice T x (some y) none none,ty,pos,af,none⟩ (some i) ⟨fF,fL⟩ K:=by
 intro F H L ha;have h1':=Da_ ha.f x;unfold Ok1 at h1';simp only at h1';rw[hx] at h1';simp only[SimT,hb] at h1';have h2:=(Da_ ha.f y).sim;simp only at h2;rw[hy] at h2;have hb':fL i = .arr u k e enc xs:=hb;obtain⟨b,cap,c,f,rfl,hL,hcl,hle,hr,hbb,hff⟩:=Xm_ (s:=⟨fF,fL⟩) ha (i:=i) hb' hm;have hsz:=(D8_ ht hte).sz;rw[hk] at hsz;have hk1:1<k:=by simpa [Nat.blt_eq] using h1
 refine Pd_ hd (Pa_ 1 h1' h2.inv_int.1 ((D8_ ht hti).slc htk) hsz pB pB) ?_;have hLL:lupd L i (L i)=L:=by funext j;by_cases e:j=i;(subst e;exact Cn_ _ _ _);exact Cj_ _ _ _ _ e
 obtain⟨x0,xr,rfl⟩:∃ a r,xs=a::r:=by cases xs with|nil=>cases hm|cons a r=>exact⟨a,r,rfl⟩
 have hrl:=rl_len K4_ hr;have :=ha.turn i (B:= .arr (.slice (slA (some ⟨b,f.length,none⟩) cap 1 k) ((x0::xr).length-1) (cap-1)) k e enc ((x0::xr).drop 1)) (x:=L i) ?_;rw[hLL] at this;exact zX;obtain⟨c1,c2,e1,r1,r2⟩:=hr;have hc1:c1.length=k:=by rw[r1.2.1.1,r1.1]
 have hck:cap*k=(cap-1)*k+k:=by rw[<- Nat.succ_mul];congr 1;simp only[List.length_cons] at hle;omega
 have hkc:k<=c.length:=by omega
 have hc2:c2=(c.drop k).take (xr.length*k):=by
   have :(c.take ((x0::xr).length*k)).drop k=c2:=by rw[e1,<- hc1,List.drop_left]
   rw[<- this,List.length_cons,List.drop_take,Nat.succ_mul,Nat.add_sub_cancel]
 refine⟨c2,⟨?_,?_⟩,by simpa using r2,by simp at hbb ⊢;omega⟩;rw[rl_len K4_ r2];simp;by_cases hc:cap=1;subst hc;have :xr=[]:=List.length_eq_zero_iff.1 (by simp only[List.length_cons] at hle;omega);subst this;refine .inr ⟨b,0,c,f,by simp[slA],hL,by simp,by simp,by simpa using hc2.symm,hff⟩;refine .inr ⟨b,cap-1,c.drop k,f++c.take k,?_,by rw[hL];simp,?_,by simp only[List.drop_one,List.tail_cons,List.length_cons] at hle ⊢;omega,?_,λq=>by omega⟩;have :c.length>=k:=by omega
 simp[slA,Ge_,Nat.min_eq_left this,show ¬cap<=1 by simp only[List.length_cons] at hle;omega];intro q;simp only[List.length_cons] at hle;omega;rw[List.length_drop];omega;rw[hc2];simp
end Go.SW.V
namespace Go.SW
variable {P:Program} {n:Nat} {N:Rest} {H0:Env} {Q:Qs} {ks:List Kt} {s:St}
theorem Or_ {α:Type} {i o b T0 k e:Nat} {cs:List PV} {c:Code} (j:Nat) (enc:α->List PV) (hb:G3_ j s.L i = .box b T0 cs) (hne:i≠j) (ho:cs[o]? = some (.val (.slice none 0 0))) (hno:s.L j = .no)
   (kk:Hd P n N H0 Q (.code c) ks ⟨Ip_ j s.F,lups (lups (G3_ j s.L) j (.arr (.slice none 0 0) k e enc [])) i (.box b T0 (cs.set o (.osl j)))⟩):Hd P n N H0 Q (.code c) ks s:=λF H L ha=>by
 have hL0:Abs H0 s F H (lupd L j none):=⟨ha.le,ha.g,ha.f,λq=>by
   by_cases e:q=j
   . subst e;rw[hno];trivial
   . rw[Cj_ _ _ _ _ e];exact ha.l q⟩
 have h2:=hL0.turn j (B:= .arr (.slice none 0 0) k e enc []) (x:=none) ⟨[],P1_,rl_nil,by simp⟩
 have e2:lupd (lupd L j none) j none=lupd L j none:=by funext q;simp only[lupd];cases Nat.beq q j<;>rfl
 rw[e2] at h2
 have h3:=h2.l i
 simp only[Jw_ _ _ _ _ hne,hb] at h3
 obtain⟨vs,hL,hs1,hs2⟩:=h3
 have h4:=h2.turnB i (B:= .box b T0 (cs.set o (.osl j))) Z (x:=lupd L j none i) ⟨vs,hL,by simpa using hs1,λa p v hp hv=>by
   rw[List.getElem?_set] at hp
   by_cases z:o=a
   . subst z
     rw[if_pos rfl] at hp
     split at hp
     . cases hp
       have h5:=(hs2 o _ v ho hv).sim.inv_val
       simp only[SimT,Jw_ _ _ _ _ hne.symm,Ef_]
       exact h5
     . cases hp
   . rw[if_neg z] at hp
     have h5:=hs2 a p v hp hv
     exact Ur_ (b:=b) (T:=T0) (cs:=cs) (by simp only[Jw_ _ _ _ _ hne,hb]) h5⟩
 have e3:lupd (lupd L j none) i (lupd L j none i)=lupd L j none:=by funext q;by_cases e:q=i;(subst e;exact Cn_ _ _ _);exact Cj_ _ _ _ _ e
 rw[e3] at h4
 exact cw_weaken (λw hm=>hm.clear j) (kk F H _ h4)
theorem Jc_ {α:Type} {all:List Oper} {T ty i j b b' off T0 k e:Nat} {pos:String} {af:Array Edge} {x y:Operand} {K:St->Prop} {tb:Tb} {ti:TI} {cs cs':List PV} {u:Value} {enc:α->List PV} {xs:List α} (ht:tbB P tb=true) (hx:evP s.F x = .own i b off) (hb:s.L i = .box b' T0 cs) (hti:lkT tb T=some ti) (hsz:ti.size=1) (hy:evP s.F y = .osl j) (hj:s.L j = .arr u k e enc xs) (hl:Nat.blt off cs.length=true) (hbb:b'=b) (hc:cs.set off (.osl j)=cs')
   (kk:K ⟨s.F,lups s.L i (.box b T0 cs')⟩):E1 P n N H0 all ⟨none, .store T x y,ty,pos,af,none⟩ (some i) s K:=by
 intro F H L ha;subst hbb hc;have h1:=(Da_ ha.f x).sim;rw[hx] at h1;have h2:=Da_ ha.f y;unfold Ok1 at h2;rw[hy] at h2;have h2':=h2;simp only[SimT,hj] at h2';have h3:=ha.l i;rw[hb] at h3;obtain⟨vs,hL,hs⟩:=h3;have h5:=ha.l j;rw[hj] at h5;obtain⟨cs0,ho,_,_⟩:=h5;have hone:(ev F y).oneCell'=true:=by
   rw[h2']
   obtain⟨_,⟨rfl,_,_⟩|⟨_,_,_,_,rfl,_⟩⟩:=ho<;>rfl
 have hsz':=(D8_ ht hti).sz;rw[hsz] at hsz';refine Ly_ h1.inv_own Y hone hsz' hL oZ ?_;refine⟨.refl H,only,_,ha.turnB (B:= .box _ T0 (cs.set off (.osl j))) i Z ⟨_,rfl,?_⟩,kk⟩;have h4:=hs.set off h2;exact⟨h4.1,λq p v hq hv=>Ur_ hb (h4.2 q p v hq hv)⟩
end Go.SW
namespace Go.SW
variable {P:Program} {n:Nat} {N:Rest} {H0:Env} {all:List Oper} {Q:Qs} {ks:List Kt} {s:St}
end Go.SW
namespace Go.SW.V
open Go.SW
variable {P:Program} {n:Nat} {N:Rest} {H0:Env} {all:List Oper} {Q:Qs} {ks:List Kt} {fF:Nat->PV} {fL:Nat->Blk}
end Go.SW.V
namespace Go.SW
variable {P:Program} {n:Nat} {N:Rest} {H0:Env} {all:List Oper} {Q:Qs} {ks:List Kt} {s:St}
theorem vw_l {ops:List Oper} {Lk:Ls} {Q:Qt} {fuel:Nat} {listed:Array Bool} {F:Fr} {H:Hp} {L:Ls} (i0:Nat) (r:List Nat) (hr:Region.ready .any ops.toArray listed=i0::r)
   (h:∀ i∈i0::r,∃ o,ops[i]? = some o/\Op1 P n N ops o (λF' H' L'=>(HLe H H'/\LLe Lk L')/\Vw P n N ops Lk Q fuel (listed.setIfInBounds i true) F' H' L') F H L):Vw P n N ops Lk Q (fuel+1) listed F H L:=by
 refine⟨λq=>oO,λj hj a w ha hm=>?_⟩;rw[hr] at hj;obtain⟨o,ho,h1⟩:=h j hj;exact wpOp_mono (λa' w' ⟨F',H',L',x,y,z1,z2⟩=>⟨F',H',L',x,y, .inl ⟨z1.1, .inl z1.2⟩,z2⟩) (Up_ ho h1 a w ha hm)
def Ej (P:Program) (n:Nat) (N:Rest) (H0:Env) (all:List Oper) (o:Oper) (xs:List Nat) (s:St) (K:St->Prop):Prop:=∃ j:Option Nat,(match j with|none=>true|some j=>memB xs j)=true/\E1 P n N H0 all o j s K
theorem ej {o:Oper} {xs:List Nat} {K:St->Prop} {j:Option Nat} (hj:(match j with|none=>true|some j=>memB xs j)=true) (h:E1 P n N H0 all o j s K):Ej P n N H0 all o xs s K:=⟨j,hj,h⟩
def AllE (P:Program) (n:Nat) (N:Rest) (H0:Env) (all:List Oper) (Q:Qs) (xs:List Nat) (fuel:Nat) (listed:Array Bool) (ks:List Kt) (s:St):List Nat->Prop
 |[]=>True
 |i::r=>(∃ o,nth all i=some o/\Ej P n N H0 all o xs s (λs'=>Hv P n N H0 Q (some xs) all fuel (listed.setIfInBounds i true) ks s'))/\AllE P n N H0 all Q xs fuel listed ks s r
theorem allE_mem {xs:List Nat} {fuel:Nat} {listed:Array Bool}:∀ {r:List Nat} {i:Nat},AllE P n N H0 all Q xs fuel listed ks s r->i∈r->∃ o,nth all i=some o/\Ej P n N H0 all o xs s (λs'=>Hv P n N H0 Q (some xs) all fuel (listed.setIfInBounds i true) ks s')
 |[],i,_,h=>by cases h
 |a::r,i,h,hm=>by
   rcases List.mem_cons.1 hm with e|q
   . subst e;exact h.1
   . exact allE_mem h.2 q
theorem veL {xs:List Nat} {fuel:Nat} {listed:Array Bool} (i0:Nat) (r:List Nat) (hr:Region.ready .any all.toArray listed=i0::r) (h:AllE P n N H0 all Q xs fuel listed ks s (i0::r)):Hv P n N H0 Q (some xs) all (fuel+1) listed ks s:=by
 intro F H L Lk ha hL;refine vw_l i0 r hr λi hi=>?_;obtain⟨o,ho,j,hj,he⟩:=allE_mem h hi;rw[Kx_] at ho;have hle:∀ L':Ls,(∀ i,j≠some i->L' i=L i)->LkR (some xs) Lk L':=λL' hL' i=>by
   rw[hL i]
   cases e:memB xs i with
   |true=>rfl
   |false=>
     refine (hL' i λz=>?_).symm
     subst z
     simp only at hj
     rw[e] at hj;cases hj
 have hlle:∀ L':Ls,(∀ i,j≠some i->L' i=L i)->LLe Lk L':=λL' hL' i x hx=>by
   have :=hle L' hL' i
   rw[this] at hx
   cases e:memB xs i with
   |true=>rw[e] at hx;cases hx
   |false=>rw[e] at hx;exact hx
 exact⟨o,ho,(he F H L ha).imp λF' H' L' ⟨h1,h2,s',h3,h4⟩=>⟨⟨h1,hlle L' h2⟩,h4 F' H' L' Lk h3 (hle L' h2)⟩⟩
end Go.SW
namespace Go.SW.V
open Go.SW
variable {P:Program} {n:Nat} {N:Rest} {H0:Env} {all:List Oper} {Q:Qs} {ks:List Kt} {fF:Nat->PV} {fL:Nat->Blk}
theorem roN {α:Type} {tb:Tb} {rs:List ResultVar} {ps:List PV} {res:Value->PV} {k e j:Nat} {enc:α->List PV} {xs xs':List α} {as0 bs:List Nat} {u0:Value} (u:Value) (h:Is_ tb ⟨fF,fL⟩ rs=some (ps,as0,bs)) (he:as0=bs) (hL:fL j = .arr u0 k e enc xs') (hu:u0=u) (hx:xs'=xs) (hp:PLe (tupP ps) (res u)):Hd P n N H0 (foK tb rs res k e enc xs) (.ex .ret) [] ⟨fF,fL⟩:=
 ⟨u,j,⟨.inr Y,_,as0,bs,h,he,hp⟩,by show fL j=_;rw[hL,hx,hu]⟩
end Go.SW.V
namespace Go.SW.V
open Go.SW
variable {P:Program} {n:Nat} {N:Rest} {H0:Env} {all:List Oper} {Q:Qs} {ks:List Kt} {fF:Nat->PV} {fL:Nat->Blk} {T ty:Nat} {x y:Operand}
theorem lo_aidxA {F:Fr} {H:Hp} {L:Ls} {kk:IntKind} {len k m:Nat} {i:Int} {e:TypeId} {cs vs:List Value} (hx:ev F x = .agg cs.toArray) (hy:ev F y = .int kk i) (hT:P.underlying T=some (.array len e)) (hg:Ag P e true) (hk:Sz P e k) (hi:i=(m:Int)) (hm:m<len) (hv:sub cs (m*k) k=vs):SW.Lo P N (.index T x y) ty F H L (.agg vs.toArray):=λd pos af gg w _=>by
 subst hi
 simp[execOp,hy,hx,Instr.index,asIntOf,run_underlying hT,hk w,hm,part_A hg hk hv]
theorem qaivA {tb:Tb} {te:TI} {kk:IntKind} {len k:Nat} {e:TypeId} {z:Int} {cs:List PV} (row:Nat->List PV) (m:Nat) (ht:tbB P tb=true) (hx:evP fF x = .agg cs) (hy:evP fF y = .int kk z) (hT:P.underlying T=some (.array len e)) (hte:lkT tb e=some te) (hag:te.k.isAgg=true) (hsz:te.size=k) (hi:z=(m:Int)) (hm:m<len) (hc:∀ q,q<len->(cs.drop (q*k)).take k=row q):Qy P N H0 ⟨fF,fL⟩ (.index T x y) ty (.agg (row m)):=λF H L ha=>by
 have h1:=(Da_ ha.f x).sim
 have h2:=(Da_ ha.f y).sim
 simp only at h1 h2
 rw[hx] at h1
 rw[hy] at h2
 obtain⟨vs,e1,h3⟩:=h1.inv_agg
 have hg:=(D8_ ht hte).ag
 rw[hag] at hg
 have hk:=(D8_ ht hte).sz
 rw[hsz] at hk
 exact⟨_,Sim.toAgg (by rw[<- hc m hm];exact (h3.drop _).take _),λ_ _ _=>lo_aidxA e1 h2.inv_int.1 hT hg hk hi hm Y⟩
end Go.SW.V
namespace Go.SW
variable {P:Program} {n:Nat} {N:Rest} {H0:Env} {all rest:List Oper} {Q:Qs} {ks:List Kt} {s:St} {T ty d:Nat} {pos:String} {af:Array Edge} {x y:Operand} {K:St->Prop} {op:Op} {p:PV}
theorem Yh_ {α:Type} [Inhabited α] (zs:List α):∀ m:Nat,(List.range (m*zs.length)).map (λj=>zs.toArray[j%zs.length]!)=(List.replicate m zs).flatten
 |0=>by simp
 |m+1=>by
   rw[Nat.succ_mul,List.range_add,List.map_append,Yh_ zs m,List.replicate_succ',List.flatten_append,List.map_map]
   congr 1
   simp only[List.flatten_cons,List.flatten_nil,List.append_nil]
   apply List.ext_getElem
   . simp
   . intro j h1 h2
     simp[Nat.mod_eq_of_lt h2,h2]
theorem op1_makeZ {F:Fr} {H:Hp} {L:Ls} {k bytes m:Nat} {e:TypeId} {zs:List Value} {k1 k2:IntKind} {len cap:Int} {ops:List Oper} {K:Fr->Hp->Ls->Prop} (i:Nat) (hx:ev F x = .int k1 len) (hy:ev F y = .int k2 cap) (hT:P.underlying T=some (.slice e)) (hk:Sz P e k) (hb:By P e bytes) (hz:Zr P e zs) (hzl:zs.length=k)
   (hlen:len=(m:Int)) (hcap:cap=(m:Int)) (hbd:bytes*m<=281474976710656) (hm9:m<=9223372036854775807) (hd:Nat.blt d n=true)
   (kk:∀ b,K (upd F d (.slice (some ⟨b,0,none⟩) m m)) H (lupd L i (some (b,bx e (List.replicate m zs).flatten)))):Op1 P n N ops ⟨some d, .makeSlice T x y,ty,pos,af,none⟩ K F H L:=by
 intro a w ha hm;rw[if_pos pI];unfold Oper.wp;subst hlen;subst hcap;obtain⟨inf,hinf,hbb⟩:=hb w;obtain⟨z,hzr,hzc⟩:=hz w;have hw:IntKind.wrap .i64 (m:Int)=(m:Int):=by
   exact sS
 suffices hr:(execOp a.eval ⟨some d, .makeSlice T x y,ty,pos,af,none⟩).run P w = .ok (.value (.slice (some ⟨w.heap.size,0,none⟩) m m)) {w with heap:=w.heap.push (bx e (List.replicate m zs).flatten)} by
   rw[hr]
   exact yK
 have h1:¬((m:Int)<0):=by omega
 have h2:¬(281474976710656<(inf.bytes:Int)*(m:Int)):=by
   rw[hbb]
   have e1:((bytes:Int)*(m:Int))=((bytes*m:Nat):Int):=by simp
   rw[e1]
   omega
 rw[ha.eval];by_cases h0:m*k=0;have e0:(List.replicate m zs).flatten=[]:=by
   rw[<- List.length_eq_zero_iff];simp[hzl,h0]
 rw[e0];simp[execOp,hx,hy,Instr.makeSlice,run_underlying hT,Su_,hinf,hw,h1,h2,hk w,h0,newRow,askRoom,bx];have :Array.range 0 = #[]:=by apply Array.ext';simp
 rw[this,Array.map_empty]
 . have hr:=Yh_ zs m
   rw[hzl] at hr
   rw[<- hr]
   simp[execOp,hx,hy,Instr.makeSlice,run_underlying hT,Su_,hinf,hw,h1,h2,hk w,h0,hzr,newRow,askRoom,bx]
   congr 1
   simp[Obj.cells.injEq]
   apply Array.ext'
   simp[hzc,hzl]
theorem rl_rep {α:Type} {H:Hp} {enc:α->List PV} {k:Nat} {z:α} {zs:List Value} (h:RowE enc k H z zs):∀ m:Nat,Rl (RowE enc k) H (List.replicate m z) (List.replicate m zs).flatten
 |0=>rfl
 |m+1=>by rw[List.replicate_succ,List.replicate_succ,List.flatten_cons];exact⟨zs,_,rfl,h,rl_rep h m⟩
theorem mksl {α:Type} {tb:Tb} {e:Nat} {te ti:TI} {k1 k2:IntKind} {len cap:Int} (i m:Nat) (enc:α->List PV) (z:α) (ht:tbB P tb=true) (hx:evP s.F x = .int k1 len) (hy:evP s.F y = .int k2 cap) (hti:lkT tb T=some ti) (htk:ti.k = .slc e) (hte:lkT tb e=some te) (hz:te.zero=enc z) (hzl:te.zero.length=te.size) (hone:all1 te.zero=true) (hlen:len=(m:Int)) (hcap:cap=(m:Int)) (hbd:m*te.bytes<=140737488355328) (hm:m<=140737488355328) (hd:Nat.blt d n=true) (hno:s.L i = .no)
   (kk:∀ u',K ⟨updp (Ip_ i s.F) d (.osl i),lups (G3_ i s.L) i (.arr u' te.size e enc (List.replicate m z))⟩):E1 P n N H0 all ⟨some d, .makeSlice T x y,ty,pos,af,none⟩ (some i) s K:=by
 intro F H L ha;have h1:=(Da_ ha.f x).sim;rw[hx] at h1;have h2:=(Da_ ha.f y).sim;rw[hy] at h2;obtain⟨zv,hzv,hs⟩:=(D8_ ht hte).zero;have hok:=D8_ ht hte;have hall:=S2_ (hs H) hone;have hl:zv.cells.toList.length=te.size:=by rw[(hs H).1,hzl]
 refine op1_makeZ i h1.inv_int.1 h2.inv_int.1 ((D8_ ht hti).slc htk) hok.sz hok.by_ (zs:=zv.cells.toList) (λw=>⟨zv,hzv w,by simp⟩) hl hlen hcap (by rw[Nat.mul_comm];omega) pB hd λb=>?_;refine⟨.refl H,only,_,(ha.turn i (B:= .arr (.slice (some ⟨b,0,none⟩) m m) te.size e enc (List.replicate m z)) ⟨(List.replicate m zv.cells.toList).flatten,?_,rl_rep ⟨by rw[<- hz,hzl],by rw[<- hz];exact hs H,λu hu=>List.all_eq_true.1 hall u hu⟩ m,by simpa using hm⟩).put d oG,kk _⟩;simp only[List.length_replicate];have hfl:(List.replicate m zv.cells.toList).flatten.length=m*te.size:=by simp[hl]
 exact⟨hfl, .inr ⟨b,m,(List.replicate m zv.cells.toList).flatten,[],rfl,rfl,Nat.le_of_eq hfl.symm,Nat.le_refl _,by rw[List.take_of_length_le (Nat.le_of_eq hfl)],λ_=>rfl⟩⟩
end Go.SW
namespace Go.SW.V
open Go.SW
variable {P:Program} {n:Nat} {N:Rest} {H0:Env} {ks:List Kt} {fF:Nat->PV} {fL:Nat->Blk} {tb:Tb} {rs:List ResultVar} {res p q r t u:PV} {as0 bs:List Nat}
theorem rt4 (h:Is_ tb ⟨fF,fL⟩ rs=some ([p,q,r,t],as0,bs)) (he:as0=bs) (hp:PLe (.tup [p,q,r,t]) res):Hd P n N H0 (rtK tb rs res) (.ex .ret) [] ⟨fF,fL⟩:=rt h he hp
end Go.SW.V
namespace Go.SW.V
open Go.SW
variable {P:Program} {n:Nat} {N:Rest} {H0:Env} {all rest:List Oper} {Q:Qs} {ks:List Kt} {fF:Nat->PV} {fL:Nat->Blk} {T ty d:Nat} {pos:String} {af:Array Edge} {x y z:Operand} {K:St->Prop}
structure EfR where
 F:Nat->PV
 L:Nat->Blk
 eq:Option (Nat×Nat)
def mkE (tb:Tb) (n:Nat) (i b:Nat) (F:Nat->PV) (L:Nat->Blk) (o:Oper):Option EfR:=
 match o.guard with
 |some _=>none
 |none=>match o.dst with
   |none=>none
   |some d=>match Nat.blt d n with
     |false=>none
     |true=>match o.op with
       | .alloc T=>match lkT tb T with
         |some ti=>match evL ti.zero with
           |some zs=>match C4_ zs with
             |true=>some ⟨updp F d (.own i b 0),lups L i (.box b T zs),none⟩
             |false=>none
           |none=>none
         |none=>none
       | .box T x=>match evP F x with
         | .agg cs=>match C4_ cs with
           |true=>some ⟨updp F d (.own i b 0),lups L i (.box b T cs),none⟩
           |false=>none
         |v=>match evS v with
           |some p=>match p.one with
             |true=>some ⟨updp F d (.own i b 0),lups L i (.box b T [p]),none⟩
             |false=>none
           |none=>none
       |_=>none
def stE (tb:Tb) (F:Nat->PV) (L:Nat->Blk) (o:Oper):Option EfR:=
 match o.guard with
 |some _=>none
 |none=>match o.dst with
   |some _=>none
   |none=>match o.op with
     | .store T x y=>match evP F x with
       | .own i b off=>match L i with
         | .box b' T0 cs=>match lkT tb T with
           |some ti=>match evP F y with
             | .agg ps=>match C4_ ps with
               |true=>match all1 ps with
                 |true=>match Nat.beq ps.length ti.size with
                   |true=>match Nat.ble (off+ti.size) cs.length with
                     |true=>match evL (cs.take off++(ps++cs.drop (off+ti.size))) with
                       |some cs'=>some ⟨F,lups L i (.box b T0 cs'),some (b',b)⟩
                       |none=>none
                     |false=>none
                   |false=>none
                 |false=>none
               |false=>none
             |v=>match Nat.beq ti.size 1 with
               |true=>match evS v with
                 |some p=>match p.one with
                   |true=>match Nat.blt off cs.length with
                     |true=>match evL (cs.set off p) with
                       |some cs'=>some ⟨F,lups L i (.box b T0 cs'),some (b',b)⟩
                       |none=>none
                     |false=>none
                   |false=>none
                 |none=>none
               |false=>none
           |none=>none
         |_=>none
       |_=>none
     |_=>none
def kindE (o:Op):Nat:=
 match o with
 | .alloc _=>0
 | .box _ _=>0
 | .store _ _ _=>1
 |_=>2
def runE (tb:Tb) (n:Nat):Nat->List Nat->(Nat->Nat)->Cf->List Kt->(Nat->PV)->(Nat->Blk)->List Prop->List Nat->List Nat->Option RR
 |0,_,_,c,ks,F,L,ps,as0,bs=>frcP ps λps=>frcN as0 λas0=>frcN bs λbs=>some ⟨c,ks,F,L,ps,as0,bs⟩
 |k+1,is,B,c,ks,F,L,ps,as0,bs=>
   match c with
   | .ops all (o::rest)=>match kindE o.op with
     |0=>match is with
       |[]=>none
       |i::is=>match mkE tb n i (B 0) F L o with
         |some ⟨F,L,_⟩=>runE tb n k is (λi=>B (i+1)) (.ops all rest) ks F L ps as0 bs
         |none=>none
     |1=>match stE tb F L o with
       |some ⟨F,L,e⟩=>match e with
         |some (a,b)=>runE tb n k is B (.ops all rest) ks F L ps (a::as0) (b::bs)
         |none=>none
       |none=>none
     |_=>match run tb n 1 (.ops all (o::rest)) ks F L ps as0 bs with
       |some ⟨c,ks,F,L,ps,as0,bs⟩=>runE tb n k is B c ks F L ps as0 bs
       |none=>none
   |c=>match run tb n 1 c ks F L ps as0 bs with
     |some ⟨c,ks,F,L,ps,as0,bs⟩=>runE tb n k is B c ks F L ps as0 bs
     |none=>none
theorem mkE_ok {tb:Tb} (ht:tbB P tb=true) {i:Nat} {F:Nat->PV} {L:Nat->Blk} {o:Oper} (h:∀ b,∃ r,mkE tb n i b F L o=some r/\Hd P n N H0 Q (.ops all rest) ks ⟨r.F,r.L⟩):Hd P n N H0 Q (.ops all (o::rest)) ks ⟨F,L⟩:=by
 obtain⟨dst,op,ty,pos,af,g⟩:=o;have h0:=h 0
 cases g with
 |some q=>obtain⟨r,h1,_⟩:=h0;simp[mkE] at h1
 |none=>
   cases dst with
   |none=>obtain⟨r,h1,_⟩:=h0;simp[mkE] at h1
   |some d=>
     cases hd:Nat.blt d n with
     |false=>obtain⟨r,h1,_⟩:=h0;simp[mkE,hd] at h1
     |true=>
       cases op with
       |alloc T=>
         simp only[mkE,hd] at h
         cases hti:lkT tb T with
         |none=>rw[hti] at h;obtain⟨r,h1,_⟩:=h 0;simp at h1
         |some ti=>
           rw[hti] at h
           simp only at h
           cases hz:evL ti.zero with
           |none=>rw[hz] at h;obtain⟨r,h1,_⟩:=h 0;simp at h1
           |some zs=>
             rw[hz] at h
             simp only at h
             cases hn:C4_ zs with
             |false=>rw[hn] at h;obtain⟨r,h1,_⟩:=h 0;simp at h1
             |true=>
               rw[hn] at h
               refine ef (alloc ht i hti hz hn hd λb=>?_)
               obtain⟨r,h1,h2⟩:=h b
               simp only[Option.some.injEq] at h1
               subst h1;exact h2
       |box T x=>
         simp only[mkE,hd] at h
         split at h
         . rename_i cs hx
           cases hn:C4_ cs with
           |false=>rw[hn] at h;obtain⟨r,h1,_⟩:=h 0;simp at h1
           |true=>
             rw[hn] at h
             refine ef (boxA i hx hn hd λb=>?_)
             obtain⟨r,h1,h2⟩:=h b
             simp only[Option.some.injEq] at h1
             subst h1;exact h2
         . cases hs:evS (evP F x) with
           |none=>rw[hs] at h;obtain⟨r,h1,_⟩:=h 0;simp at h1
           |some p=>
             rw[hs] at h
             simp only at h
             cases ho:p.one with
             |false=>rw[ho] at h;obtain⟨r,h1,_⟩:=h 0;simp at h1
             |true=>
               rw[ho] at h
               refine ef (box1 i hs ho hd λb=>?_)
               obtain⟨r,h1,h2⟩:=h b
               simp only[Option.some.injEq] at h1
               subst h1;exact h2
       |_=>obtain⟨r,h1,_⟩:=h0;simp[mkE,hd] at h1
theorem stE_ok {tb:Tb} (ht:tbB P tb=true) {F:Nat->PV} {L:Nat->Blk} {o:Oper} {r:EfR} (h:stE tb F L o=some r) (he:∀ q,r.eq=some q->q.1=q.2) (k:Hd P n N H0 Q (.ops all rest) ks ⟨r.F,r.L⟩):Hd P n N H0 Q (.ops all (o::rest)) ks ⟨F,L⟩:=by
 obtain⟨dst,op,ty,pos,af,g⟩:=o
 cases g with
 |some q=>simp[stE] at h
 |none=>
   cases dst with
   |some d=>simp[stE] at h
   |none=>
     cases op with
     |store T x y=>
       simp only[stE] at h
       split at h
       . rename_i i b off hx
         split at h
         . rename_i b' T0 cs hb
           split at h
           . rename_i ti hti
             split at h
             . rename_i ps hy
               split at h
               . rename_i hn
                 split at h
                 . rename_i ho
                   split at h
                   . rename_i hsz
                     split at h
                     . rename_i hl
                       split at h
                       . rename_i cs' hc
                         simp only[Option.some.injEq] at h
                         subst h
                         exact ef (storeA ht hx hb hti hy hn ho (Nat.eq_of_beq_eq_true hsz) hl (he _ Y) hc k)
                       . cases h
                     . cases h
                   . cases h
                 . cases h
               . cases h
             . split at h
               . rename_i hsz
                 split at h
                 . rename_i p hs
                   split at h
                   . rename_i ho
                     split at h
                     . rename_i hl
                       split at h
                       . rename_i cs' hc
                         simp only[Option.some.injEq] at h
                         subst h
                         exact ef (store1 ht hx hb hti (Nat.eq_of_beq_eq_true hsz) hs ho hl (he _ Y) hc k)
                       . cases h
                     . cases h
                   . cases h
                 . cases h
               . cases h
           . cases h
         . cases h
       . cases h
     |_=>simp[stE] at h
def okR (P:Program) (n:Nat) (N:Rest) (H0:Env) (Q:Qs) (r:RR):Prop:=AllP r.ps/\r.as0=r.bs/\Hd P n N H0 Q r.c r.ks ⟨r.F,r.L⟩
theorem runE_ok {tb:Tb} (ht:tbB P tb=true):∀ (k:Nat) (is:List Nat) (c:Cf) (ks:List Kt) (F:Nat->PV) (L:Nat->Blk) (ps:List Prop) (as0 bs:List Nat),(∀ B:Nat->Nat,∃ r,runE tb n k is B c ks F L ps as0 bs=some r/\okR P n N H0 Q r)->AllP ps/\as0=bs/\Hd P n N H0 Q c ks ⟨F,L⟩:=by
 intro k
 induction k with
 |zero=>
   intro is c ks F L ps as0 bs h
   obtain⟨r,h1,h2,h3,h4⟩:=h (λ_=>0)
   simp only[runE,U5_,Zd_,Option.some.injEq] at h1
   subst h1
   exact⟨h2,h3,h4⟩
 |succ k ih=>
   intro is c ks F L ps as0 bs h
   have one:(∀ B:Nat->Nat,∃ r,(match run tb n 1 c ks F L ps as0 bs with
       |some ⟨c,ks,F,L,ps,as0,bs⟩=>runE tb n k is B c ks F L ps as0 bs
       |none=>none)=some r/\okR P n N H0 Q r)->AllP ps/\as0=bs/\Hd P n N H0 Q c ks ⟨F,L⟩:=by
     intro h
     cases hr:run tb n 1 c ks F L ps as0 bs with
     |none=>obtain⟨r,h1,_⟩:=h (λ_=>0);rw[hr] at h1;cases h1
     |some q=>
       obtain⟨c',ks',F',L',ps',as',bs'⟩:=q
       obtain⟨i1,i2,i3⟩:=ih is c' ks' F' L' ps' as' bs' (λB=>by obtain⟨r,h1,h2⟩:=h B;rw[hr] at h1;exact⟨r,h1,h2⟩)
       obtain⟨j1,j2,j3⟩:=run_ok ht (Q:=Q) (N:=N) (H0:=H0) 1 c ks F L ps as0 bs _ hr i1 i2
       exact⟨j1,j2,j3 i3⟩
   cases c with
   |code c=>exact one h
   |ex e=>exact one h
   |ops all l=>
     cases l with
     |nil=>exact one h
     |cons o rest=>
       simp only[runE] at h
       split at h
       . cases is with
         |nil=>obtain⟨r,h1,_⟩:=h (λ_=>0);cases h1
         |cons i is=>
           have hb:∀ b,∃ r,mkE tb n i b F L o=some r/\AllP ps/\as0=bs/\Hd P n N H0 Q (.ops all rest) ks ⟨r.F,r.L⟩:=by
             intro b
             cases hm:mkE tb n i b F L o with
             |none=>obtain⟨r,h1,_⟩:=h (λ_=>b);simp only[hm] at h1;cases h1
             |some q=>
               obtain⟨F',L',e⟩:=q
               refine⟨_,rfl,ih is (.ops all rest) ks F' L' ps as0 bs λB=>?_⟩
               obtain⟨r,h1,h2⟩:=h (λj=>match j with|0=>b|j+1=>B j)
               simp only[hm] at h1
               exact⟨r,h1,h2⟩
           obtain⟨_,_,q1,q2,_⟩:=hb 0
           exact⟨q1,q2,mkE_ok ht λb=>by obtain⟨r,h1,_,_,h2⟩:=hb b;exact⟨r,h1,h2⟩⟩
       . cases hs:stE tb F L o with
         |none=>obtain⟨r,h1,_⟩:=h (λ_=>0);rw[hs] at h1;cases h1
         |some q=>
           obtain⟨F',L',e⟩:=q
           cases e with
           |none=>obtain⟨r,h1,_⟩:=h (λ_=>0);rw[hs] at h1;cases h1
           |some ab=>
             obtain⟨a,b⟩:=ab
             obtain⟨i1,i2,i3⟩:=ih is (.ops all rest) ks F' L' ps (a::as0) (b::bs) (λB=>by obtain⟨r,h1,h2⟩:=h B;rw[hs] at h1;exact⟨r,h1,h2⟩)
             simp only[List.cons.injEq] at i2
             exact⟨i1,i2.2,stE_ok ht hs (λq hq=>by cases hq;exact i2.1) i3⟩
       . exact one h
theorem gmp {tb:Tb} (ht:tbB P tb=true) (k:Nat) (is:List Nat) {c c':Cf} {ks':List Kt} {F':(Nat->Nat)->Nat->PV} {L':(Nat->Nat)->Nat->Blk} {ps:(Nat->Nat)->List Prop} {as0 bs:(Nat->Nat)->List Nat} (h:∀ B,runE tb n k is B c ks fF fL [] [] []=some ⟨c',ks',F' B,L' B,ps B,as0 B,bs B⟩) (he:∀ B,as0 B=bs B) (hp:∀ B,AllP (ps B)) (next :∀ B:Nat->Nat,Hd P n N H0 Q c' ks' ⟨F' B,L' B⟩):Hd P n N H0 Q c ks ⟨fF,fL⟩:=
 (runE_ok ht k is c ks fF fL [] [] [] λB=>⟨_,h B,hp B,he B,next B⟩).2.2
theorem gx {tb:Tb} (ht:tbB P tb=true) (k:Nat) {c c':Cf} {ks':List Kt} {F':Nat->PV} {L':Nat->Blk} {as0 bs:List Nat} (next :Hd P n N H0 Q c' ks' ⟨F',L'⟩) (h:run tb n k c ks fF fL [] [] []=some ⟨c',ks',F',L',[],as0,bs⟩:=by exact Y) (he:as0=bs:=by exact Y):Hd P n N H0 Q c ks ⟨fF,fL⟩:=go ht k h he Z next
theorem gm {tb:Tb} (ht:tbB P tb=true) (k:Nat) (is:List Nat) {c c':Cf} {ks':List Kt} {F':(Nat->Nat)->Nat->PV} {L':(Nat->Nat)->Nat->Blk} {as0 bs:(Nat->Nat)->List Nat} (next :∀ B:Nat->Nat,Hd P n N H0 Q c' ks' ⟨F' B,L' B⟩) (h:∀ B,runE tb n k is B c ks fF fL [] [] []=some ⟨c',ks',F' B,L' B,[],as0 B,bs B⟩:=by exact λ_=>rfl) (he:∀ B,as0 B=bs B:=by exact λ_=>rfl):Hd P n N H0 Q c ks ⟨fF,fL⟩:=gmp ht k is h he (λ_=>trivial) next
abbrev jIn (xs:List Nat) (j:Option Nat):Bool:=match j with|none=>true|some j=>memB xs j
theorem sA {tb:Tb} {ti:TI} {i b b' off T0:Nat} {cs ps cs':List PV} (ht:tbB P tb=true) (k:K ⟨fF,lups fL i (.box b T0 cs')⟩) (hx:evP fF x = .own i b off:=by exact Y) (hb:fL i = .box b' T0 cs:=by exact Y) (hti:lkT tb T=some ti:=by exact Y) (hy:evP fF y = .agg ps:=by exact Y) (hn:C4_ ps=true:=by exact Y) (ho:all1 ps=true:=by exact Y) (hsz:ps.length=ti.size:=by exact Y) (hl:Nat.ble (off+ti.size) cs.length=true:=by exact Y) (hbb:b'=b:=by exact Y) (hc:evL (cs.take off++(ps++cs.drop (off+ti.size)))=some cs':=by exact Y):E1 P n N H0 all ⟨none, .store T x y,ty,pos,af,none⟩ (some i) ⟨fF,fL⟩ K:=storeA ht hx hb hti hy hn ho hsz hl hbb hc k
theorem sO {tb:Tb} {ti:TI} {i b b' off T0:Nat} {cs cs':List PV} {p:PV} (ht:tbB P tb=true) (k:K ⟨fF,lups fL i (.box b T0 cs')⟩) (hx:evP fF x = .own i b off:=by exact Y) (hb:fL i = .box b' T0 cs:=by exact Y) (hti:lkT tb T=some ti:=by exact Y) (hsz:ti.size=1:=by exact Y) (hy:evS (evP fF y)=some p:=by exact Y) (ho:p.one=true:=by exact Y) (hl:Nat.blt off cs.length=true:=by exact Y) (hbb:b'=b:=by exact Y) (hc:evL (cs.set off p)=some cs':=by exact Y):E1 P n N H0 all ⟨none, .store T x y,ty,pos,af,none⟩ (some i) ⟨fF,fL⟩ K:=store1 ht hx hb hti hsz hy ho hl hbb hc k
theorem aL {tb:Tb} {ti:TI} {zs:List PV} (ht:tbB P tb=true) (i:Nat) (k:∀ b,K ⟨updp fF d (.own i b 0),lups fL i (.box b T zs)⟩) (hti:lkT tb T=some ti:=by exact Y) (hz:evL ti.zero=some zs:=by exact Y) (hn:C4_ zs=true:=by exact Y) (hd:Nat.blt d n=true:=by exact Y):E1 P n N H0 all ⟨some d, .alloc T,ty,pos,af,none⟩ (some i) ⟨fF,fL⟩ K:=alloc ht i hti hz hn hd k
theorem eC {f:FuncId} {args:List PV} {res:PV} {as0:Array Operand} {ats:Array TypeId} (h:Fn P H0.g f args res) (ha:argsP fF x as0.toList=some (f,args)) (k:res.wf->K ⟨updp fF d res,fL⟩) (hd:Nat.blt d n=true:=by exact Y):E1 P n N H0 all ⟨some d, .call ⟨.value x,as0,ats⟩,ty,pos,af,none⟩ none ⟨fF,fL⟩ K:=ecall h ha hd k
theorem vE {xs:List Nat} {fuel:Nat} {listed:Array Bool} {o:Oper} {j:Option Nat} (i:Nat) (hi:nth all i=some o) (h:E1 P n N H0 all o j ⟨fF,fL⟩ (λs'=>Hv P n N H0 Q (some xs) all fuel (listed.setIfInBounds i true) ks s')) (hr:Region.ready .any all.toArray listed=[i]:=by kernel_rfl) (hj:jIn xs j=true:=by exact Y):Hv P n N H0 Q (some xs) all (fuel+1) listed ks ⟨fF,fL⟩:=ve i hi hr hj h
theorem vT {xs:Option (List Nat)} {fuel:Nat} {listed:Array Bool} {o:Oper} {j:Option Nat} (i:Nat) (hi:nth all i=some o) (h:E1 P n N H0 all o j ⟨fF,fL⟩ (λs'=>Hv P n N H0 Q none all fuel (listed.setIfInBounds i true) ks s')) (hr:Region.ready .any all.toArray listed=[i]:=by kernel_rfl) (ht:tailB all listed i=true:=by kernel_rfl):Hv P n N H0 Q xs all (fuel+1) listed ks ⟨fF,fL⟩:=vt i hi hr ht h
theorem vD {xs:Option (List Nat)} {fuel:Nat} {listed:Array Bool} (k:Hd P n N H0 Q (.ex .normal) ks ⟨fF,fL⟩) (h:Region.ready .any all.toArray listed=[]:=by kernel_rfl):Hv P n N H0 Q xs all fuel listed ks ⟨fF,fL⟩:=vdone h k
theorem aN (xs:List Nat) (m:Nat) {id:Nat} {ops:Array Oper} (hmx:P.follows .mixedOrders=true) (h:Hv P n N H0 Q (some xs) ops.toList m (Array.replicate m false) ks ⟨fF,fL⟩) (hm:ops.toList.length=m:=by exact Y):Hd P n N H0 Q (.code (.region id ops true)) ks ⟨fF,fL⟩:=any xs m hmx hm h
theorem gX {tb:Tb} (ht:tbB P tb=true) (order:List Nat) (f:Nat) {xs:Option (List Nat)} {fuel:Nat} {listed:Array Bool} {F':Nat->PV} {L':Nat->Blk} {as0 bs:List Nat} (next :Hv P n N H0 Q xs all f (lst listed order) ks ⟨F',L'⟩) (hf:fuel=f+order.length:=by exact Y) (hc:chkV n all order listed=true:=by kernel_rfl) (h:runV tb xs all order fF fL [] [] []=some ⟨F',L',[],as0,bs⟩:=by exact Y) (he:as0=bs:=by exact Y):Hv P n N H0 Q xs all fuel listed ks ⟨fF,fL⟩:=gov ht order f hf hc h he Z next
theorem vC {xs:Option (List Nat)} {fuel:Nat} {listed:Array Bool} {f:FuncId} {args:List PV} {res:PV} {as0:Array Operand} {ats:Array TypeId} (i:Nat) (hi:nth all i=some ⟨some d, .call ⟨.value x,as0,ats⟩,ty,pos,af,none⟩) (h:Fn P H0.g f args res) (ha:argsP fF x as0.toList=some (f,args)) (k:res.wf->Hv P n N H0 Q xs all fuel (listed.setIfInBounds i true) ks ⟨updp fF d res,fL⟩) (hck:(rdB all listed i&&apB n all listed i ⟨some d, .call ⟨.value x,as0,ats⟩,ty,pos,af,none⟩&&Nat.blt d n&&nosB (.call ⟨.value x,as0,ats⟩))=true:=by kernel_rfl) (hf:res.flat=true:=by exact Y):Hv P n N H0 Q xs all (fuel+1) listed ks ⟨fF,fL⟩:=vcall i hi hck h hf ha k
theorem nX {ι:Type _} {keep kL:List Nat} {G:Nat->PV} {GL:Nat->Blk} {lv:ι->List (Nat×PV)} {lL:ι->List (Nat×Blk)} {Φ:ι->Prop} {μ:ι->Nat} {m:Nat} {ks:List Kt} {Q:Qs} (x':ι) (hΦ:Φ x') (h3:AllF fF (lv x')) (h4:AllL fL (lL x')) (h1:keep.map fF=keep.map G:=by exact Y) (h2:kL.map fL=kL.map GL:=by exact Y) (hm:μ x'<m:=by decide):Hd P n N H0 Q (.ex .normal) (.lp (LJ (λx=>⟨mkF (lv x) keep G,mkL (lL x) kL GL⟩) Φ μ m)::ks) ⟨fF,fL⟩:=next x' h1 h2 h3 h4 hm hΦ
theorem cE {α:Type} {v a b:α} {c:Operand} {p q:Code} {t:Bool} (e:v = bif t then a else b) (ht:t=true->v=a->Hd P n N H0 Q (.code p) ks ⟨fF,fL⟩) (hf:t=false->v=b->Hd P n N H0 Q (.code q) ks ⟨fF,fL⟩) (hc:evP fF c = .bool t:=by exact Y):Hd P n N H0 Q (.code (.cond c p q)) ks ⟨fF,fL⟩:=cnd hc (λh=>ht h (e.trans (by rw[h];rfl))) (λh=>hf h (e.trans (by rw[h];rfl)))
theorem cD {α:Type} {v a b:α} {c:Operand} {p q:Code} {t:Prop} [Decidable t] (e:v = bif decide t then a else b) (ht:t->v=a->Hd P n N H0 Q (.code p) ks ⟨fF,fL⟩) (hf:¬t->v=b->Hd P n N H0 Q (.code q) ks ⟨fF,fL⟩) (hc:evP fF c = .bool (decide t):=by exact Y):Hd P n N H0 Q (.code (.cond c p q)) ks ⟨fF,fL⟩:=cE e (λh=>ht (of_decide_eq_true h)) (λh=>hf (of_decide_eq_false h)) hc
theorem cN {α:Type} {v a b:α} {c:Operand} {p q:Code} {t:Prop} [Decidable t] (e:v = bif !decide t then a else b) (ht:¬t->v=a->Hd P n N H0 Q (.code p) ks ⟨fF,fL⟩) (hf:t->v=b->Hd P n N H0 Q (.code q) ks ⟨fF,fL⟩) (hc:evP fF c = .bool (!decide t):=by exact Y):Hd P n N H0 Q (.code (.cond c p q)) ks ⟨fF,fL⟩:=cE e (λh=>ht pT) (λh=>hf pT) hc
theorem fC {tb:Tb} {G:Gb} {m:Nat} {f:FuncId} {fn:Func} {c:Code} {args:List PV} {res:PV} (hf:P.funcs[f]? = some fn) (ht:tbB P tb=true) (hn:fn.ntmps=m) (h:PV.wfs args->∀ N H,G.p H->Hd P m N ⟨H,G⟩ (rtK tb fn.results.toList res) (.code c) [] ⟨P9_ args,λ_=> .no⟩) (hb:fn.body=some c:=by exact Y) (hs:Nat.ble args.length m=true:=by exact Y) (h1:(fn.name == "runtime.NumGoroutine")=false:=by kernel_rfl) (h2:fn.body.isNone=false:=by kernel_rfl) (hno:res.noOsl=true:=by exact Y) (hna:C4_ args=true:=by exact Y):Fn P G f args res:=fn_cw ht hf hb hn hs (Bi_ hf h1 h2) hno hna h
variable {tb:Tb} {rs:List ResultVar} {as0 bs:List Nat} {res q0 q1 q2 q3:PV}
theorem qr1 (h:Is_ tb ⟨fF,fL⟩ rs=some ([q0],as0,bs):=by exact Y) (he:as0=bs:=by exact Y) (hp:PLe q0 res:=by exact ple Y):Hd P n N H0 (rtK tb rs res) (.ex .ret) [] ⟨fF,fL⟩:=rt1 h he hp
theorem qr2 (h:Is_ tb ⟨fF,fL⟩ rs=some ([q0,q1],as0,bs):=by exact Y) (he:as0=bs:=by exact Y) (hp:PLe (.tup [q0,q1]) res:=by exact ple Y):Hd P n N H0 (rtK tb rs res) (.ex .ret) [] ⟨fF,fL⟩:=rt2 h he hp
theorem qr3 (h:Is_ tb ⟨fF,fL⟩ rs=some ([q0,q1,q2],as0,bs):=by exact Y) (he:as0=bs:=by exact Y) (hp:PLe (.tup [q0,q1,q2]) res:=by exact ple Y):Hd P n N H0 (rtK tb rs res) (.ex .ret) [] ⟨fF,fL⟩:=rt3 h he hp
theorem qr4 (h:Is_ tb ⟨fF,fL⟩ rs=some ([q0,q1,q2,q3],as0,bs):=by exact Y) (he:as0=bs:=by exact Y) (hp:PLe (.tup [q0,q1,q2,q3]) res:=by exact ple Y):Hd P n N H0 (rtK tb rs res) (.ex .ret) [] ⟨fF,fL⟩:=rt4 h he hp
theorem cV {α β:Type} {v:β} {g:α} {kf:α->β} {f:FuncId} {args:List PV} {xs:Array Operand} {ats:Array TypeId} (e:v=lt g kf) (enc:α->PV) (h:Fn P H0.g f args (enc g)) (ha:argsP fF x xs.toList=some (f,args)) (k:∀ r,r=g->v=kf r->(enc r).wf->Hd P n N H0 Q (.ops all rest) ks ⟨updp fF d (enc r),fL⟩) (hd:Nat.blt d n=true:=by exact Y):Hd P n N H0 Q (.ops all (⟨some d, .call ⟨.value x,xs,ats⟩,ty,pos,af,none⟩::rest)) ks ⟨fF,fL⟩:=
 callv g enc h ha hd λr hr w=>k r hr (e.trans (Ey_ hr)) w
theorem gy {tb:Tb} (ht:tbB P tb=true) (k:Nat) {c c':Cf} {ks':List Kt} {F':Nat->PV} {L':Nat->Blk} {ps:List Prop} {as0 bs:List Nat} (next :Hd P n N H0 Q c' ks' ⟨F',L'⟩) (h:run tb n k c ks fF fL [] [] []=some ⟨c',ks',F',L',ps,as0,bs⟩:=by exact Y) (he:as0=bs:=by exact Y) (hp:AllP ps:=by repeat' (first|exact Z|refine And.intro ?_ ?_|exact λhc=>hc|exact Y|exact λhc=>rfl|omega|(intro hc;omega)|(intro hc;rw[hc];rfl))):Hd P n N H0 Q c ks ⟨fF,fL⟩:=go ht k h he hp next
theorem gmy {tb:Tb} (ht:tbB P tb=true) (k:Nat) (is:List Nat) {c c':Cf} {ks':List Kt} {F':(Nat->Nat)->Nat->PV} {L':(Nat->Nat)->Nat->Blk} {ps:(Nat->Nat)->List Prop} {as0 bs:(Nat->Nat)->List Nat} (next :∀ B:Nat->Nat,Hd P n N H0 Q c' ks' ⟨F' B,L' B⟩) (h:∀ B,runE tb n k is B c ks fF fL [] [] []=some ⟨c',ks',F' B,L' B,ps B,as0 B,bs B⟩:=by exact λ_=>rfl) (he:∀ B,as0 B=bs B:=by exact λ_=>rfl) (hp:∀ B,AllP (ps B):=by intro B;repeat' (first|exact Z|refine And.intro ?_ ?_|exact λhc=>hc|exact Y|exact λhc=>rfl|omega|(intro hc;omega)|(intro hc;rw[hc];rfl))):Hd P n N H0 Q c ks ⟨fF,fL⟩:=gmp ht k is h he hp next
theorem gXy {tb:Tb} (ht:tbB P tb=true) (order:List Nat) (f:Nat) {xs:Option (List Nat)} {fuel:Nat} {listed:Array Bool} {F':Nat->PV} {L':Nat->Blk} {ps:List Prop} {as0 bs:List Nat} (next :Hv P n N H0 Q xs all f (lst listed order) ks ⟨F',L'⟩) (hf:fuel=f+order.length:=by exact Y) (hc:chkV n all order listed=true:=by kernel_rfl) (h:runV tb xs all order fF fL [] [] []=some ⟨F',L',ps,as0,bs⟩:=by exact Y) (he:as0=bs:=by exact Y) (hp:AllP ps:=by repeat' (first|exact Z|refine And.intro ?_ ?_|exact λhc=>hc|exact Y|exact λhc=>rfl|omega|(intro hc;omega)|(intro hc;rw[hc];rfl))):Hv P n N H0 Q xs all fuel listed ks ⟨fF,fL⟩:=gov ht order f hf hc h he hp next
end Go.SW.V
namespace Go.SW.V
open Go.SW
variable {P:Program} {n:Nat} {N:Rest} {H0:Env} {Q:Qs} {ks:List Kt} {fF:Nat->PV} {fL:Nat->Blk}
end Go.SW.V
namespace Go.SW
structure D_ where
 O_:Mail
 Nm_:Bool
 again:Bool
deriving DecidableEq,Inhabited
def D_.pc (x:D_):List PV:=[.int .u64 x.O_.id, .str x.O_.Ak_, .str x.O_.key, .sl Pair.pc x.O_.head, .str x.O_.body, .int .u64 x.O_.due, .int .u8 x.O_.hops, .bool x.Nm_, .bool x.again]
structure X_ where
 item:D_
 count:Int
 lost:Int
deriving DecidableEq,Inhabited
def X_.pc (x:X_):List PV:=[.int .u64 x.item.O_.id, .str x.item.O_.Ak_, .str x.item.O_.key, .sl Pair.pc x.item.O_.head, .str x.item.O_.body, .int .u64 x.item.O_.due, .int .u8 x.item.O_.hops, .bool x.item.Nm_, .bool x.item.again, .int .i64 x.count, .int .i64 x.lost]
structure C5_ where
 level:Int
 Q0_:Int
deriving DecidableEq,Inhabited
def C5_.pc (x:C5_):List PV:=[.int .u8 x.level, .int .u32 x.Q0_]
structure Bl_ where
 name:Bs
 label:C5_
 bytes:Int
 base:Int
deriving DecidableEq,Inhabited
def Bl_.pc (x:Bl_):List PV:=[.str x.name, .int .u8 x.label.level, .int .u32 x.label.Q0_, .int .i64 x.bytes, .int .u64 x.base]
structure B1_ where
 frm:Int
 to':Int
 budget:Int
deriving DecidableEq,Inhabited
def B1_.pc (x:B1_):List PV:=[.int .i64 x.frm, .int .i64 x.to', .int .i64 x.budget]
structure G_ where
 work:Int
 give:Int
 places:List Bl_
 slots:List Int
 grants:List B1_
deriving DecidableEq,Inhabited
def G_.pc (x:G_):List PV:=[.int .i64 x.work, .int .i64 x.give, .sl Bl_.pc x.places, .sl i64c x.slots, .sl B1_.pc x.grants]
structure C1_ where
 tick:Int
 kind:Int
 text:Bs
deriving DecidableEq,Inhabited
def C1_.pc (x:C1_):List PV:=[.int .u64 x.tick, .int .u8 x.kind, .str x.text]
structure Bx_ where
 total:Int
 kept:List C1_
deriving DecidableEq,Inhabited
def Bx_.pc (x:Bx_):List PV:=[.int .u64 x.total, .sl C1_.pc x.kept]
structure Aq_ where
 items:List D_
deriving DecidableEq,Inhabited
def Aq_.pc (x:Aq_):List PV:=[.sl D_.pc x.items]
structure Eu_ where
 q:Ae_
 l:Aq_
deriving DecidableEq,Inhabited
def Eu_.pc (x:Eu_):List PV:=[.str x.q.name, .int .u64 x.q.most, .int .u64 x.q.life, .str x.q.dead, .sl D_.pc x.l.items]
structure El_ where
 q:Ae_
 l:List D_
deriving DecidableEq,Inhabited
def El_.pc (x:El_):List PV:=[.str x.q.name, .int .u64 x.q.most, .int .u64 x.q.life, .str x.q.dead, .sl D_.pc x.l]
structure Aj_ where
 total:Int
 kept:List Mail
deriving DecidableEq,Inhabited
def Aj_.pc (x:Aj_):List PV:=[.int .u64 x.total, .sl Mail.pc x.kept]
abbrev A16_RiseR:=V.A16 Aj_
def A16_RiseR.pc (x:A16_RiseR):List PV:=[.int .u64 x.e0.total, .sl Mail.pc x.e0.kept, .int .u64 x.e1.total, .sl Mail.pc x.e1.kept, .int .u64 x.e2.total, .sl Mail.pc x.e2.kept, .int .u64 x.e3.total, .sl Mail.pc x.e3.kept, .int .u64 x.e4.total, .sl Mail.pc x.e4.kept, .int .u64 x.e5.total, .sl Mail.pc x.e5.kept, .int .u64 x.e6.total, .sl Mail.pc x.e6.kept, .int .u64 x.e7.total, .sl Mail.pc x.e7.kept, .int .u64 x.e8.total, .sl Mail.pc x.e8.kept, .int .u64 x.e9.total, .sl Mail.pc x.e9.kept, .int .u64 x.e10.total, .sl Mail.pc x.e10.kept, .int .u64 x.e11.total, .sl Mail.pc x.e11.kept, .int .u64 x.e12.total, .sl Mail.pc x.e12.kept, .int .u64 x.e13.total, .sl Mail.pc x.e13.kept, .int .u64 x.e14.total, .sl Mail.pc x.e14.kept, .int .u64 x.e15.total, .sl Mail.pc x.e15.kept]
abbrev A16_u64:=V.A16 Int
def A16_u64.pc (x:A16_u64):List PV:=[.int .u64 x.e0, .int .u64 x.e1, .int .u64 x.e2, .int .u64 x.e3, .int .u64 x.e4, .int .u64 x.e5, .int .u64 x.e6, .int .u64 x.e7, .int .u64 x.e8, .int .u64 x.e9, .int .u64 x.e10, .int .u64 x.e11, .int .u64 x.e12, .int .u64 x.e13, .int .u64 x.e14, .int .u64 x.e15]
structure Ba_ where
 round:Int
 count:Int
deriving DecidableEq,Inhabited
def Ba_.pc (x:Ba_):List PV:=[.int .u64 x.round, .int .i64 x.count]
abbrev A8_SpentR:=V.A8 Ba_
def A8_SpentR.pc (x:A8_SpentR):List PV:=[.int .u64 x.e0.round, .int .i64 x.e0.count, .int .u64 x.e1.round, .int .i64 x.e1.count, .int .u64 x.e2.round, .int .i64 x.e2.count, .int .u64 x.e3.round, .int .i64 x.e3.count, .int .u64 x.e4.round, .int .i64 x.e4.count, .int .u64 x.e5.round, .int .i64 x.e5.count, .int .u64 x.e6.round, .int .i64 x.e6.count, .int .u64 x.e7.round, .int .i64 x.e7.count]
structure I_ where
 next :Int
 bytes:Int
 rows:List Eu_
 rises:A16_RiseR
deriving DecidableEq,Inhabited
def I_.pc (x:I_):List PV:=[.int .u64 x.next, .int .i64 x.bytes, .sl Eu_.pc x.rows, .int .u64 x.rises.e0.total, .sl Mail.pc x.rises.e0.kept, .int .u64 x.rises.e1.total, .sl Mail.pc x.rises.e1.kept, .int .u64 x.rises.e2.total, .sl Mail.pc x.rises.e2.kept, .int .u64 x.rises.e3.total, .sl Mail.pc x.rises.e3.kept, .int .u64 x.rises.e4.total, .sl Mail.pc x.rises.e4.kept, .int .u64 x.rises.e5.total, .sl Mail.pc x.rises.e5.kept, .int .u64 x.rises.e6.total, .sl Mail.pc x.rises.e6.kept, .int .u64 x.rises.e7.total, .sl Mail.pc x.rises.e7.kept, .int .u64 x.rises.e8.total, .sl Mail.pc x.rises.e8.kept, .int .u64 x.rises.e9.total, .sl Mail.pc x.rises.e9.kept, .int .u64 x.rises.e10.total, .sl Mail.pc x.rises.e10.kept, .int .u64 x.rises.e11.total, .sl Mail.pc x.rises.e11.kept, .int .u64 x.rises.e12.total, .sl Mail.pc x.rises.e12.kept, .int .u64 x.rises.e13.total, .sl Mail.pc x.rises.e13.kept, .int .u64 x.rises.e14.total, .sl Mail.pc x.rises.e14.kept, .int .u64 x.rises.e15.total, .sl Mail.pc x.rises.e15.kept]
structure Q_ where
 next :Int
 most:Int
 rows:List El_
 rises:A16_RiseR
deriving DecidableEq,Inhabited
def Q_.pc (x:Q_):List PV:=[.int .u64 x.next, .int .i64 x.most, .sl El_.pc x.rows, .int .u64 x.rises.e0.total, .sl Mail.pc x.rises.e0.kept, .int .u64 x.rises.e1.total, .sl Mail.pc x.rises.e1.kept, .int .u64 x.rises.e2.total, .sl Mail.pc x.rises.e2.kept, .int .u64 x.rises.e3.total, .sl Mail.pc x.rises.e3.kept, .int .u64 x.rises.e4.total, .sl Mail.pc x.rises.e4.kept, .int .u64 x.rises.e5.total, .sl Mail.pc x.rises.e5.kept, .int .u64 x.rises.e6.total, .sl Mail.pc x.rises.e6.kept, .int .u64 x.rises.e7.total, .sl Mail.pc x.rises.e7.kept, .int .u64 x.rises.e8.total, .sl Mail.pc x.rises.e8.kept, .int .u64 x.rises.e9.total, .sl Mail.pc x.rises.e9.kept, .int .u64 x.rises.e10.total, .sl Mail.pc x.rises.e10.kept, .int .u64 x.rises.e11.total, .sl Mail.pc x.rises.e11.kept, .int .u64 x.rises.e12.total, .sl Mail.pc x.rises.e12.kept, .int .u64 x.rises.e13.total, .sl Mail.pc x.rises.e13.kept, .int .u64 x.rises.e14.total, .sl Mail.pc x.rises.e14.kept, .int .u64 x.rises.e15.total, .sl Mail.pc x.rises.e15.kept]
structure Cb_ where
 book:Ac_
 C_:I_
 notes:Bx_
 seen:A16_u64
 spent:A8_SpentR
deriving DecidableEq,Inhabited
def Cb_.pc (x:Cb_):List PV:=[.sl Z_.pc x.book.Ad_, .sl R_.pc x.book.binds, .int .u64 x.C_.next, .int .i64 x.C_.bytes, .sl Eu_.pc x.C_.rows, .int .u64 x.C_.rises.e0.total, .sl Mail.pc x.C_.rises.e0.kept, .int .u64 x.C_.rises.e1.total, .sl Mail.pc x.C_.rises.e1.kept, .int .u64 x.C_.rises.e2.total, .sl Mail.pc x.C_.rises.e2.kept, .int .u64 x.C_.rises.e3.total, .sl Mail.pc x.C_.rises.e3.kept, .int .u64 x.C_.rises.e4.total, .sl Mail.pc x.C_.rises.e4.kept, .int .u64 x.C_.rises.e5.total, .sl Mail.pc x.C_.rises.e5.kept, .int .u64 x.C_.rises.e6.total, .sl Mail.pc x.C_.rises.e6.kept, .int .u64 x.C_.rises.e7.total, .sl Mail.pc x.C_.rises.e7.kept, .int .u64 x.C_.rises.e8.total, .sl Mail.pc x.C_.rises.e8.kept, .int .u64 x.C_.rises.e9.total, .sl Mail.pc x.C_.rises.e9.kept, .int .u64 x.C_.rises.e10.total, .sl Mail.pc x.C_.rises.e10.kept, .int .u64 x.C_.rises.e11.total, .sl Mail.pc x.C_.rises.e11.kept, .int .u64 x.C_.rises.e12.total, .sl Mail.pc x.C_.rises.e12.kept, .int .u64 x.C_.rises.e13.total, .sl Mail.pc x.C_.rises.e13.kept, .int .u64 x.C_.rises.e14.total, .sl Mail.pc x.C_.rises.e14.kept, .int .u64 x.C_.rises.e15.total, .sl Mail.pc x.C_.rises.e15.kept, .int .u64 x.notes.total, .sl C1_.pc x.notes.kept, .int .u64 x.seen.e0, .int .u64 x.seen.e1, .int .u64 x.seen.e2, .int .u64 x.seen.e3, .int .u64 x.seen.e4, .int .u64 x.seen.e5, .int .u64 x.seen.e6, .int .u64 x.seen.e7, .int .u64 x.seen.e8, .int .u64 x.seen.e9, .int .u64 x.seen.e10, .int .u64 x.seen.e11, .int .u64 x.seen.e12, .int .u64 x.seen.e13, .int .u64 x.seen.e14, .int .u64 x.seen.e15, .int .u64 x.spent.e0.round, .int .i64 x.spent.e0.count, .int .u64 x.spent.e1.round, .int .i64 x.spent.e1.count, .int .u64 x.spent.e2.round, .int .i64 x.spent.e2.count, .int .u64 x.spent.e3.round, .int .i64 x.spent.e3.count, .int .u64 x.spent.e4.round, .int .i64 x.spent.e4.count, .int .u64 x.spent.e5.round, .int .i64 x.spent.e5.count, .int .u64 x.spent.e6.round, .int .i64 x.spent.e6.count, .int .u64 x.spent.e7.round, .int .i64 x.spent.e7.count]
structure E_ where
 x:Cb_
 L_:G_
 place:Int
deriving DecidableEq,Inhabited
def E_.pc (x:E_):List PV:=[.sl Z_.pc x.x.book.Ad_, .sl R_.pc x.x.book.binds, .int .u64 x.x.C_.next, .int .i64 x.x.C_.bytes, .sl Eu_.pc x.x.C_.rows, .int .u64 x.x.C_.rises.e0.total, .sl Mail.pc x.x.C_.rises.e0.kept, .int .u64 x.x.C_.rises.e1.total, .sl Mail.pc x.x.C_.rises.e1.kept, .int .u64 x.x.C_.rises.e2.total, .sl Mail.pc x.x.C_.rises.e2.kept, .int .u64 x.x.C_.rises.e3.total, .sl Mail.pc x.x.C_.rises.e3.kept, .int .u64 x.x.C_.rises.e4.total, .sl Mail.pc x.x.C_.rises.e4.kept, .int .u64 x.x.C_.rises.e5.total, .sl Mail.pc x.x.C_.rises.e5.kept, .int .u64 x.x.C_.rises.e6.total, .sl Mail.pc x.x.C_.rises.e6.kept, .int .u64 x.x.C_.rises.e7.total, .sl Mail.pc x.x.C_.rises.e7.kept, .int .u64 x.x.C_.rises.e8.total, .sl Mail.pc x.x.C_.rises.e8.kept, .int .u64 x.x.C_.rises.e9.total, .sl Mail.pc x.x.C_.rises.e9.kept, .int .u64 x.x.C_.rises.e10.total, .sl Mail.pc x.x.C_.rises.e10.kept, .int .u64 x.x.C_.rises.e11.total, .sl Mail.pc x.x.C_.rises.e11.kept, .int .u64 x.x.C_.rises.e12.total, .sl Mail.pc x.x.C_.rises.e12.kept, .int .u64 x.x.C_.rises.e13.total, .sl Mail.pc x.x.C_.rises.e13.kept, .int .u64 x.x.C_.rises.e14.total, .sl Mail.pc x.x.C_.rises.e14.kept, .int .u64 x.x.C_.rises.e15.total, .sl Mail.pc x.x.C_.rises.e15.kept, .int .u64 x.x.notes.total, .sl C1_.pc x.x.notes.kept, .int .u64 x.x.seen.e0, .int .u64 x.x.seen.e1, .int .u64 x.x.seen.e2, .int .u64 x.x.seen.e3, .int .u64 x.x.seen.e4, .int .u64 x.x.seen.e5, .int .u64 x.x.seen.e6, .int .u64 x.x.seen.e7, .int .u64 x.x.seen.e8, .int .u64 x.x.seen.e9, .int .u64 x.x.seen.e10, .int .u64 x.x.seen.e11, .int .u64 x.x.seen.e12, .int .u64 x.x.seen.e13, .int .u64 x.x.seen.e14, .int .u64 x.x.seen.e15, .int .u64 x.x.spent.e0.round, .int .i64 x.x.spent.e0.count, .int .u64 x.x.spent.e1.round, .int .i64 x.x.spent.e1.count, .int .u64 x.x.spent.e2.round, .int .i64 x.x.spent.e2.count, .int .u64 x.x.spent.e3.round, .int .i64 x.x.spent.e3.count, .int .u64 x.x.spent.e4.round, .int .i64 x.x.spent.e4.count, .int .u64 x.x.spent.e5.round, .int .i64 x.x.spent.e5.count, .int .u64 x.x.spent.e6.round, .int .i64 x.x.spent.e6.count, .int .u64 x.x.spent.e7.round, .int .i64 x.x.spent.e7.count, .int .i64 x.L_.work, .int .i64 x.L_.give, .sl Bl_.pc x.L_.places, .sl i64c x.L_.slots, .sl B1_.pc x.L_.grants, .int .i64 x.place]
structure F_ where
 p:G_
 at_:Int
 book:Ac_
 C_:Q_
 notes:Bx_
 seen:A16_u64
 spent:A8_SpentR
deriving DecidableEq,Inhabited
def F_.pc (x:F_):List PV:=[.int .i64 x.p.work, .int .i64 x.p.give, .sl Bl_.pc x.p.places, .sl i64c x.p.slots, .sl B1_.pc x.p.grants, .int .i64 x.at_, .sl Z_.pc x.book.Ad_, .sl R_.pc x.book.binds, .int .u64 x.C_.next, .int .i64 x.C_.most, .sl El_.pc x.C_.rows, .int .u64 x.C_.rises.e0.total, .sl Mail.pc x.C_.rises.e0.kept, .int .u64 x.C_.rises.e1.total, .sl Mail.pc x.C_.rises.e1.kept, .int .u64 x.C_.rises.e2.total, .sl Mail.pc x.C_.rises.e2.kept, .int .u64 x.C_.rises.e3.total, .sl Mail.pc x.C_.rises.e3.kept, .int .u64 x.C_.rises.e4.total, .sl Mail.pc x.C_.rises.e4.kept, .int .u64 x.C_.rises.e5.total, .sl Mail.pc x.C_.rises.e5.kept, .int .u64 x.C_.rises.e6.total, .sl Mail.pc x.C_.rises.e6.kept, .int .u64 x.C_.rises.e7.total, .sl Mail.pc x.C_.rises.e7.kept, .int .u64 x.C_.rises.e8.total, .sl Mail.pc x.C_.rises.e8.kept, .int .u64 x.C_.rises.e9.total, .sl Mail.pc x.C_.rises.e9.kept, .int .u64 x.C_.rises.e10.total, .sl Mail.pc x.C_.rises.e10.kept, .int .u64 x.C_.rises.e11.total, .sl Mail.pc x.C_.rises.e11.kept, .int .u64 x.C_.rises.e12.total, .sl Mail.pc x.C_.rises.e12.kept, .int .u64 x.C_.rises.e13.total, .sl Mail.pc x.C_.rises.e13.kept, .int .u64 x.C_.rises.e14.total, .sl Mail.pc x.C_.rises.e14.kept, .int .u64 x.C_.rises.e15.total, .sl Mail.pc x.C_.rises.e15.kept, .int .u64 x.notes.total, .sl C1_.pc x.notes.kept, .int .u64 x.seen.e0, .int .u64 x.seen.e1, .int .u64 x.seen.e2, .int .u64 x.seen.e3, .int .u64 x.seen.e4, .int .u64 x.seen.e5, .int .u64 x.seen.e6, .int .u64 x.seen.e7, .int .u64 x.seen.e8, .int .u64 x.seen.e9, .int .u64 x.seen.e10, .int .u64 x.seen.e11, .int .u64 x.seen.e12, .int .u64 x.seen.e13, .int .u64 x.seen.e14, .int .u64 x.seen.e15, .int .u64 x.spent.e0.round, .int .i64 x.spent.e0.count, .int .u64 x.spent.e1.round, .int .i64 x.spent.e1.count, .int .u64 x.spent.e2.round, .int .i64 x.spent.e2.count, .int .u64 x.spent.e3.round, .int .i64 x.spent.e3.count, .int .u64 x.spent.e4.round, .int .i64 x.spent.e4.count, .int .u64 x.spent.e5.round, .int .i64 x.spent.e5.count, .int .u64 x.spent.e6.round, .int .i64 x.spent.e6.count, .int .u64 x.spent.e7.round, .int .i64 x.spent.e7.count]
structure Dv_ where
 queue:Bs
 O_:Mail
deriving DecidableEq,Inhabited
def Dv_.pc (x:Dv_):List PV:=[.str x.queue, .int .u64 x.O_.id, .str x.O_.Ak_, .str x.O_.key, .sl Pair.pc x.O_.head, .str x.O_.body, .int .u64 x.O_.due, .int .u8 x.O_.hops]
variable {P:Program} {n:Nat} {N:Rest} {H0:Env} {all rest:List Oper} {Q:Qs} {ks:List Kt} {s:St} {T ty d:Nat} {pos:String} {af:Array Edge} {x:Operand} {K:St->Prop}
end Go.SW
namespace Go.SW.V
open Go.SW
variable {P:Program} {n:Nat} {N:Rest} {H0:Env} {all rest:List Oper} {Q:Qs} {ks:List Kt} {fF:Nat->PV} {fL:Nat->Blk} {T ty d:Nat} {pos:String} {af:Array Edge} {x:Operand} {K:St->Prop}
end Go.SW.V
namespace Go.SW
variable {P:Program} {n:Nat} {N:Rest} {H0:Env} {all rest:List Oper} {Q:Qs} {ks:List Kt} {T ty d:Nat} {pos:String} {af:Array Edge} {x:Operand} {K:St->Prop}
def two (L M:Ls) (i j:Nat):Ls:=λq=>if q=i then M 0 else if q=j then M 1 else L q
end Go.SW
namespace Go.SW.V
open Go.SW
variable {P:Program} {n:Nat} {N:Rest} {H0:Env} {all rest:List Oper} {Q:Qs} {ks:List Kt} {fF:Nat->PV} {fL:Nat->Blk} {T ty d:Nat} {pos:String} {af:Array Edge} {x:Operand} {K:St->Prop}
end Go.SW.V
namespace Go.SW.V
open Go.SW
end Go.SW.V
namespace Go.SW
def GPow (H:Hp) (g:Nat):Prop:=∃ T fr,H g=some (.cells (Go.Lib.pow10Tab.map (Value.int .u64)).toArray T fr)
theorem GPow.mono {H H':Hp} {g:Nat} (h:GPow H g) (hl:HLe H H'):GPow H' g:=by
 obtain⟨T,fr,e⟩:=h;exact⟨T,fr,hl _ _ e⟩
end Go.SW
namespace Go.SW
open Go.RowKit
def cuts (p:UInt8):Bs->List Bs
 |[]=>[[]]
 |c::r=>if c=p then []::cuts p r else match cuts p r with
   |[]=>[[c]]
   |w::t=>(c::w)::t
theorem W8_ (p:UInt8):∀ s:Bs,Lib.splitK [p] 0 (Lib.count s [p]) s=cuts p s
 |[]=>by rw[Lib.count_miss (by simp[Lib.index])];rfl
 |b::l=>by
   have ih:=W8_ p l
   by_cases hb:b=p
   . subst hb
     rw[Lib.count_cons_eq,Nat.add_comm]
     have hix:Lib.index (b::l) [b]=0:=by rw[Lib.index];simp[List.isPrefixOf]
     unfold Lib.splitK cuts
     rw[hix]
     simp[ih]
   . rw[Lib.count_cons_ne _ _ _ hb]
     have hp:([p]:List UInt8).isPrefixOf (b::l)=false:=by simp[List.isPrefixOf,Ne.symm hb]
     have hix:Lib.index (b::l) [p] = if Lib.index l [p] == -1 then -1 else Lib.index l [p]+1:=by rw[Lib.index,hp];simp
     unfold cuts
     rw[if_neg hb,<- ih]
     cases hc:Lib.count l [p] with
     |zero=>rfl
     |succ k=>
       unfold Lib.splitK
       rw[hix]
       by_cases hm:Lib.index l [p] = -1
       . rw[Lib.count_miss hm] at hc;cases hc
       . have hge:=Lib.index_ge l [p]
         obtain⟨j,hj⟩:∃ j:Nat,Lib.index l [p]=j:=⟨(Lib.index l [p]).toNat,by omega⟩
         exact sE
theorem W6_ (p:UInt8) (s:Bs):(Lib.splitB ⟨#[p]⟩ 0 (Lib.countB ⟨s.toArray⟩ ⟨#[p]⟩) ⟨s.toArray⟩).map Value.string=(cuts p s).map str:=by
 have h:=Lib.splitB_data ⟨#[p]⟩ 0 (Lib.countB ⟨s.toArray⟩ ⟨#[p]⟩) ⟨s.toArray⟩;have hc:Lib.countB ⟨s.toArray⟩ ⟨#[p]⟩=Lib.count s [p]:=by simp[Lib.countB]
 rw[hc] at h ⊢;have e:=W8_ p s;exact sP
theorem splitB_clen (p:UInt8) (s:Bs):Lib.countB ⟨s.toArray⟩ ⟨#[p]⟩+1=(cuts p s).length:=by
 have h:=congrArg List.length (W6_ p s);rw[List.length_map,List.length_map,Lib.splitB_all ⟨#[p]⟩ (by simp[ByteArray.size]) 0 _ _ rfl] at h;exact h
theorem S7_ (p:UInt8):∀ (s w:Bs),w∈cuts p s->w.length<=s.length
 |[],w,h=>by simp[cuts] at h;simp[h]
 |c::r,w,h=>by
   unfold cuts at h
   split at h
   . rcases List.mem_cons.1 h with rfl|h
     . simp
     . have :=S7_ p r w h;simp;omega
   . split at h
     . simp at h;subst h;simp
     . rename_i x t e
       have ih:=S7_ p r
       rw[e] at ih
       rcases List.mem_cons.1 h with rfl|h
       . have :=ih x pF;simp;omega
       . have :=ih w (by simp[h]);simp;omega
theorem cuts_le (p:UInt8):∀ s:Bs,(cuts p s).length<=s.length+1
 |[]=>by simp[cuts]
 |c::r=>by
   have ih:=cuts_le p r
   unfold cuts
   split
   . simp;omega
   . split
     . simp
     . rename_i e;rw[e] at ih;simp at ih ⊢;omega
theorem Mem.addH {N:Rest} {H:Hp} {L:Ls} {w w':World} (h:Mem N H L w) (hb:Below w.heap.size w w') {g:Nat} {o:Obj} (hg:w.heap.size<=g) (ho:w'.heap[g]? = some o):Mem N (hadd H g o) L w'/\HLe H (hadd H g o):=by
 have hs:∀ (b:Nat) o',w.heap[b]? = some o'->b<w.heap.size:=λb o' x=>by
   by_cases q:b<w.heap.size
   . exact q
   . exact tT
 have hk:∀ (b:Nat) o',w.heap[b]? = some o'->w'.heap[b]? = some o':=λb o' x=>by rw[hb.block b (hs b o' x)];exact x
 have hH:H g=none:=by
   cases q:H g with
   |none=>rfl
   |some o1=>have :=hs _ _ (h.h _ _ q);omega
 refine⟨⟨hb.os.trans h.os,hb.tape.trans h.tape,hb.output.trans h.output,λb o' x=>hk _ _ (h.n b o' x),λb o' x=>?_,λi b o' x=>hk _ _ (h.l i b o' x),λb o' x=>?_,λi b o' x=>⟨(h.nl i b o' x).1,?_⟩,h.ll⟩,Zh_ hH⟩;by_cases e:b=g;subst e;simp[hadd] at x;subst x;exact ho;simp[hadd,e] at x;exact hk _ _ (h.h b o' x);have :=hs b o' (h.n b o' x);have e:b≠g:=by omega
 simp[hadd,e];exact h.nh b o' x;have :=hs b o' (h.l i b o' x);have e:b≠g:=by omega
 simp[hadd,e];exact (h.nl i b o' x).2
theorem ph_rowB {P:Program} {f:FuncId} {args:Array Value} {H:Hp} {T:TypeId} {xs:List Bs} {ys:List Value} (hy:ys=xs.map str) (hx:∀ s∈xs,s.length<=9223372036854775807)
   (h:∀ N L w,Mem N H L w->Calls P f args w λe w'=>∃ A,e = .returned (.slice (some ⟨A,0,none⟩) ys.length ys.length)/\w.heap.size<=A/\w'.ownsRow w.heap.size T 1 (.slice (some ⟨A,0,none⟩) ys.length ys.length) ys.length ys/\Below w.heap.size w w') :
   Ph P f args H (λv H'=>∃ (a:Option Addr) (c:Nat),v = .slice a xs.length c/\SlH strE 1 H' (.slice a xs.length c) xs):=by
 subst hy;intro N L w hm;refine (h N L w hm).mono λe w' ⟨A,he,hA,hr,hb⟩=>?_;simp only[List.length_map] at he hr
 rcases hr.2 with ⟨h0,_⟩|⟨g,cap,cur,hv,hg,ho,hn,_,hc,ht⟩
 . cases h0
 . cases hv
   obtain⟨hm',hl⟩:=hm.addH hb hA ho
   have hcur:cur=(xs.map str).toArray:=by
     apply Array.ext'
     rw[<- ht]
     have :cur.toList.length=xs.length*1:=by simpa using hc
     rw[List.take_of_length_le pB]
   refine⟨_,_,he,⟨_,_,rfl,⟨_,_,rfl,Nat.le_refl _⟩,λm hmm=>⟨[str xs[m]],⟨rfl,hx _ (List.getElem_mem hmm)⟩,A,0,xs.length,xs.length,cur,T,(0,0),rfl,?_,rfl,λj hj=>?_⟩⟩,hl,hm'⟩
   simp[hadd]
   obtain rfl :j=0:=by simpa using hj
   subst hcur
   simp[hmm]
def flds (s:Bs):List Bs:=(Lib.goFieldsP (λx=>decide ((x:Int)=32)) ⟨s.toArray⟩).map λb=>b.data.toList
theorem flds_str (s:Bs):(Lib.goFieldsP (λx=>decide ((x:Int)=32)) ⟨s.toArray⟩).map Value.string=(flds s).map str:=by
 unfold flds;rw[List.map_map]
 congr 1
theorem flds_piece (s w:Bs) (h:w∈flds s):w.length<=s.length:=by
 simp only[flds,Lib.goFieldsP,List.map_map,List.mem_map,Function.comp] at h;obtain⟨x,_,rfl⟩:=h;simp only[Array.length_toList];show ((⟨s.toArray⟩:ByteArray).extract x.1 x.2).size<=s.length;rw[ByteArray.size_extract];have :(⟨s.toArray⟩:ByteArray).size=s.length:=by simp[ByteArray.size]
 omega
def plen (s:Bs):Bool:=decide (s.length<=65536)&&(cuts 10 s).all λl=>decide (l.length<=65536) && decide ((flds l).length<=65536)&&(flds l).all λw=>decide (0<w.length) && decide (w.length<=19)
theorem plen_ok {s:Bs} (h:plen s=true):s.length<=65536/\∀ l∈cuts 10 s,l.length<=65536/\(flds l).length<=65536/\∀ w∈flds l,0<w.length/\w.length<=19:=by
 simp only[plen,Bool.and_eq_true,decide_eq_true_eq,List.all_eq_true] at h;exact⟨h.1,λl hl=>⟨(h.2 l hl).1.1,(h.2 l hl).1.2,(h.2 l hl).2⟩⟩
def dec (s:Bs):Nat:=match Lib.parseUintB 64 s with| .ok n=>n|_=>0
def H8_ (s:Bs):Bool:=s.all λc=>decide (48<=c.toNat) && decide (c.toNat<=57)
theorem pu_ok:∀ (s:Bs) (a k:Nat),a<10 ^ k->k+s.length<=19->H8_ s=true->∃ n,Lib.parseUintM 18446744073709551615 a s = .ok n/\n<10 ^ 19
 |[],a,k,ha,hk,_=>⟨a,rfl,Nat.lt_of_lt_of_le ha (Nat.pow_le_pow_right pC (by simpa using hk))⟩
 |c::r,a,k,ha,hk,hd=>by
   simp only[H8_,List.all_cons,Bool.and_eq_true,decide_eq_true_eq,List.length_cons] at hd hk
   have h18:10 ^ k<=10 ^ 18:=Nat.pow_le_pow_right pC pB
   have h19:a*10+(c.toNat-48)<10 ^ (k+1):=by rw[Nat.pow_succ];omega
   have e18:(10:Nat) ^ 18=1000000000000000000:=by decide
   unfold Lib.parseUintM
   rw[if_pos hd.1,if_neg pB,if_neg pB]
   exact pu_ok r _ (k+1) h19 pB hd.2
theorem dec_ok {s:Bs} (hl:s.length<=19) (h0:0<s.length) (hd:H8_ s=true):Lib.parseUintB 64 s = .ok (dec s)/\(dec s:Int)<=18446744073709551615:=by
 obtain⟨n,h,hn⟩:=pu_ok s 0 0 pC pW hd;have h:Lib.parseUintB 64 s = .ok n:=by
   unfold Lib.parseUintB
   rw[if_neg (by intro q;subst q;cases h0)]
   exact h
 have e19:(10:Nat) ^ 19=10000000000000000000:=by decide
 have e:dec s=n:=by unfold dec;rw[h]
 rw[e];exact⟨h,by omega⟩
theorem Mem.below {N:Rest} {H:Hp} {L:Ls} {w w':World} (hm:Mem N H L w) (hb:Below w.heap.size w w'):Mem N H L w':=
 hm.of_same hb.os hb.tape hb.output λc o ho=>by
   rw[hb.block c (by by_cases q:c<w.heap.size;exact q;rw[Array.getElem?_eq_none pB] at ho;cases ho)]
   exact ho
theorem dig_step {s:Bs} {k:Nat} (h:H8_ (s.take k)=true) (hk:k<s.length) (hc:(decide (((s.getD k 0).toNat:Int)<48) || decide (57<((s.getD k 0).toNat:Int)))=false):H8_ (s.take (k+1))=true:=by
 have e:s.take (k+1)=s.take k++[s.getD k 0]:=by
   rw[List.take_add_one,List.getElem?_eq_getElem hk,List.getD_eq_getElem?_getD,List.getElem?_eq_getElem hk];rfl
 rw[e];simp only[Bool.or_eq_false_iff,decide_eq_false_iff_not] at hc;simp only[H8_,List.all_append,Bool.and_eq_true,List.all_cons,List.all_nil,decide_eq_true_eq,Bool.and_true];exact⟨h,by omega,by omega⟩
theorem dig_all {s:Bs} {k:Nat} (h:H8_ (s.take k)=true) (hk:s.length<=k):H8_ s=true:=by
 rwa [List.take_of_length_le hk] at h
variable {P:Program}
end Go.SW
namespace Go.SW
end Go.SW
namespace Go.SW
open Go.MapKept
variable {P:Program} {n:Nat} {N:Rest} {ops:List Oper} {F:Fr} {H:Hp} {L:Ls} {K:Fr->Hp->Ls->Prop} {T ty d:Nat} {pos:String} {af:Array Edge} {x y z:Operand} {κ ν:Type}
end Go.SW
namespace Go.SW.V
open Go.SW
variable {P:Program} {n:Nat} {N:Rest} {H0:Env} {all rest:List Oper} {Q:Qs} {ks:List Kt} {fF:Nat->PV} {fL:Nat->Blk} {T ty d:Nat} {pos:String} {af:Array Edge} {x y z:Operand} {K:St->Prop} {κ ν:Type}
end Go.SW.V
namespace Go.SW
variable {P:Program} {n:Nat} {N:Rest} {H0:Env} {all rest:List Oper} {Q:Qs} {ks:List Kt} {s:St} {T T' T2 ty d:Nat} {pos:String} {af:Array Edge} {x y z:Operand} {K:St->Prop} {op:Op} {p:PV}
def boolc (b:Bool):List PV:=[.bool b]
structure Fx {α:Type} (P:Program) (G:Gb) (f:FuncId) (a0:PV) (args:List PV) (res:PV) (k e:Nat) (enc:α->List PV) (xs:List α):Prop where
 cb:Bo_ P f
 no:res.noOsl=true
 run:∀ (N:Rest) (H:Hp) (L:Ls) (w:World) (i:Nat) (v0 u:Value) (vs:List Value),G.p H->SimB (λ_=> .no) H (.arr u k e enc xs) (L i)->Sims H (a0::args) (v0::vs)->Mem N H L w ->
   Calls P f (v0::u::vs).toArray w λe' w'=>∃ v H',e' = .returned v/\Sim H' res v/\HLe H H'/\Mem N H' (lupd L i none) w'
theorem fx_cw {α:Type} {tb:Tb} {G:Gb} {m:Nat} {f:FuncId} {fn:Func} {c:Code} {a0:PV} {args:List PV} {res:PV} {k e:Nat} {enc:α->List PV} {xs:List α} (ht:tbB P tb=true) (hf:P.funcs[f]? = some fn) (hb:fn.body=some c) (hn:fn.ntmps=m) (hs:Nat.ble (args.length+2) m=true) (hcb:Bo_ P f) (hno:res.noOsl=true) (hna:C4_ (a0::args)=true)
   (h:PV.wfs (a0::args)->xs.length<=140737488355328->∀ u N H,G.p H->Hd P m N ⟨H,G⟩ (rtK tb fn.results.toList res) (.code c) [] ⟨P9_ (a0 :: .osl 0::args),lups (λ_=> .no) 0 (.arr u k e enc xs)⟩):Fx P G f a0 args res k e enc xs:=by
 refine⟨hcb,hno,λN H L w i v0 u vs hg hB hsim hm=>?_⟩;subst hn;have key:Pl P f (v0::u::vs).toArray H (L i) (λv H' _=>Sim H' res v):=by
   refine pl_of_cw hf hb (by have :=Nat.le_of_ble_eq_true hs;have :=hsim.1;simp at this ⊢;omega) λN=>?_
   have hlen:xs.length<=140737488355328:=by obtain⟨_,_,_,q⟩:=hB;exact q
   have h1:=h hsim.wf hlen u N H hg (K9_ (v0::u::vs).toArray) H (ofE (L i)) ⟨.refl H,hg,λt=>?_,λj=>?_⟩
   . refine K7_ (λe' F' H' L' hq=>?_) h1
     obtain⟨s',ha',hq'⟩:=hq
     obtain⟨he,v,hr,hv⟩:=Qz_ (N:=N) ht ha' hq'
     rcases he with rfl|rfl
     . exact⟨v,hr,ha'.le,0,hv⟩
     . exact⟨v,hr,ha'.le,0,hv⟩
   . have hi:=Od_ (sL:=lups (λ_=> .no) 0 (.arr u k e enc xs)) hsim hna
     match t with
     |0=>simpa [P9_,nth,K9_] using hi 0
     |1=>simp[P9_,nth,SimT,Ef_,K9_]
     |t+2=>simpa [P9_,nth,K9_] using hi (t+1)
   . by_cases e1:j=0
     . exact rG
     . simp only[Jw_ _ _ _ _ e1];trivial
 refine (key N L w i Y hm).mono λ_ _ ⟨v,H',en,h1,h5,h3,h4⟩=>⟨v,H',h1,h5,h3,?_⟩;have h6:=h4.clear i;have heq:lupd (lupd L i en) i none=lupd L i none:=funext λj=>by
   by_cases q:j=i
   . subst q;rw[Cn_,Cn_]
   . rw[Cj_ _ _ _ _ q,Cj_ _ _ _ _ q,Cj_ _ _ _ _ q]
 rwa [heq] at h6
theorem ecallx' {α:Type} {f:FuncId} {a0:PV} {args:List PV} {res:PV} {i k e k2 e2:Nat} {enc:α->List PV} {xs:List α} {u:Value} {as0:Array Operand} {ats:Array TypeId} (h:Fx P H0.g f a0 args res k e enc xs) (hx:evP s.F x = .fn f [] []) (ha:evPs s.F as0.toList=a0 :: .osl i::args) (hna:C4_ (a0::args)=true) (hb:s.L i = .arr u k2 e2 enc xs) (hk:k2=k) (he2:e2=e) (hd:Nat.blt d n=true)
   (kk:res.wf->K ⟨updp (Ip_ i s.F) d res,lups (G3_ i s.L) i .no⟩):E1 P n N H0 all ⟨some d, .call ⟨.value x,as0,ats⟩,ty,pos,af,none⟩ (some i) s K:=by
 intro F H L hab;subst hk;subst he2;have h1:=(Da_ hab.f x).sim;rw[hx] at h1;obtain⟨v1,v2,ex,h2,h3⟩:=h1.inv_fn
 cases h2.inv_nil
 cases h3.inv_nil
 have hsT:=Y7_ (Ls:=s.L) (H:=H) (F:=F) (G:=s.F) (xs:=as0.toList) λy _=>Da_ hab.f y;rw[ha] at hsT;have hB:=hab.l i;rw[hb] at hB
 cases hev:evs F as0.toList with
 |nil=>have :=hsT.1;rw[hev] at this;simp at this
 |cons v0 vs1=>cases vs1 with
   |nil=>have :=hsT.1;rw[hev] at this;simp at this
   |cons v1 vs=>
   rw[hev] at hsT
   have h4:=hsT.2 1 _ _ Y Y
   simp only[SimT,hb] at h4
   subst h4
   have h5:Sims H (a0::args) (v0::vs):=by
     obtain⟨q,r,e3,q1,q2⟩:=hsT.sims.inv_cons
     cases e3
     obtain⟨q',r',e4,_,q4⟩:=q2.inv_cons
     cases e4
     exact q4.cons q1
   have hen:En P (.call ⟨.value x,as0,ats⟩) F f (v0::v1::vs).toArray:=by
     exact xT
   intro a w hA hm
   rw[if_pos pI]
   unfold Oper.wp
   rw[hA.eval,hen]
   refine (h.run N H L w i v0 v1 vs hab.g hB h5 hm).mono λe' w' ⟨v,H',he,hv,hl,hm'⟩=>?_
   subst he
   exact⟨_,H',_,hA.put pK v,hm',hl,only,_,Abs.put (p:=res) ((hab.mono hl).turn i (B:= .no) (x:=none) Z) d (hv.simT h.no),kk hv.wf⟩
end Go.SW
namespace Go.SW.V
open Go.SW
variable {P:Program} {n:Nat} {N:Rest} {H0:Env} {all rest:List Oper} {Q:Qs} {ks:List Kt} {fF:Nat->PV} {fL:Nat->Blk} {T T' T2 ty d:Nat} {pos:String} {af:Array Edge} {x y z:Operand} {K:St->Prop} {op:Op} {p:PV}
theorem ecallx {α:Type} {f:FuncId} {a0:PV} {args:List PV} {res:PV} {i k e k2 e2:Nat} {enc:α->List PV} {xs:List α} {u:Value} {as0:Array Operand} {ats:Array TypeId} (h:Fx P H0.g f a0 args res k e enc xs) (hx:evP fF x = .fn f [] []) (ha:evPs fF as0.toList=a0 :: .osl i::args) (hna:C4_ (a0::args)=true) (hb:fL i = .arr u k2 e2 enc xs) (hk:k2=k) (he2:e2=e) (hd:Nat.blt d n=true)
   (kk:res.wf->K ⟨updp (Ip_ i fF) d res,lups (G3_ i fL) i .no⟩):E1 P n N H0 all ⟨some d, .call ⟨.value x,as0,ats⟩,ty,pos,af,none⟩ (some i) ⟨fF,fL⟩ K:=
 SW.ecallx' (s:=⟨fF,fL⟩) h hx ha hna hb hk he2 hd kk
end Go.SW.V
namespace Go.SW
variable {P:Program} {n:Nat} {N:Rest} {H0:Env}
end Go.SW
namespace Go.SW.V
open Go.SW
variable {P:Program} {n:Nat} {N:Rest} {H0:Env} {fF:Nat->PV} {fL:Nat->Blk}
end Go.SW.V
namespace Go.SW
variable {P:Program}
def EqI (P:Program) (d:Nat) (e:TypeId) (k:Nat) (xs ys:List Value) (is:List Nat) (r:Bool):Prop:=∀ w,(Op.eqItems d e k xs.toArray ys.toArray is).run P w = .ok r w
theorem eqv_arr {d n k:Nat} {t e:TypeId} {xs ys:List Value} {r:Bool} (is:List Nat) (hu:P.underlying t=some (.array n e)) {de:TypeDesc} (he:P.underlying e=some de) (hk:P.cellsOf e=k) (hr:List.range n=is) (h:EqI P d e k xs ys is r):EqV P (d+1) t (.agg xs.toArray) (.agg ys.toArray) r:=λw=>by
 obtain⟨i,hi⟩:=info_of_underlying he
 rw[run_equalIn_array w d xs.toArray ys.toArray hu hi,hk,hr]
 exact h w
theorem eqi_nil {d k:Nat} {e:TypeId} {xs ys:List Value}:EqI P d e k xs ys [] true:=λw=>by simp[Op.eqItems]
theorem eqi_step {d k i:Nat} {e:TypeId} {xs ys:List Value} {is:List Nat} {a b:Value} {r r':Bool} (ha:∀ w,(part e xs.toArray (i*k)).run P w = .ok a w) (hb:∀ w,(part e ys.toArray (i*k)).run P w = .ok b w) (h:EqV P d e a b r) (kk:EqI P d e k xs ys is r'):EqI P d e k xs ys (i::is) (r&&r'):=λw=>by
 simp only[Op.eqItems,Sem.run_bind,ha w,Result.andThen_ok,hb w,h w]
 cases r
 . simp
 . simpa using kk w
theorem P7_ {d k i:Nat} {e:TypeId} {xs ys:List Value} {is:List Nat} {a b:Value} {r r':Bool} (hg:Ag P e false) (hx:xs[i*k]? = some a) (hy:ys[i*k]? = some b) (h:EqV P d e a b r) (kk:EqI P d e k xs ys is r'):EqI P d e k xs ys (i::is) (r&&r'):=eqi_step (part_1 hg hx) (part_1 hg hy) h kk
theorem P8_ {d k i:Nat} {e:TypeId} {xs ys vs us:List Value} {is:List Nat} {r r':Bool} (hg:Ag P e true) (hk:Sz P e k) (hx:sub xs (i*k) k=vs) (hy:sub ys (i*k) k=us) (h:EqV P d e (.agg vs.toArray) (.agg us.toArray) r) (kk:EqI P d e k xs ys is r'):EqI P d e k xs ys (i::is) (r&&r'):=eqi_step (part_A hg hk hx) (part_A hg hk hy) h kk
end Go.SW
namespace Go.SW
variable {P:Program} {n:Nat} {N:Rest} {H0:Env}
theorem callgF' {all rest:List Oper} {Q:Qs} {ks:List Kt} {s:St} {f:FuncId} {args:List PV} {res:PV} {x:Operand} {xs:Array Operand} {ats:Array TypeId} {ty d j:Nat} {want g:Bool} {pos:String} {af:Array Edge} (hg:gOp s all j want=some g) (h:g=true->Fn P H0.g f args res) (ha:argsP (strG (J9_ (x::xs.toList)) s.F) x xs.toList=some (f,args)) (hc:AllP (Ow_ s.F g (J9_ (x::xs.toList)) [])) (hno:Kv_ s.F (J9_ (x::xs.toList))=true) (hd:Nat.blt d n=true)
   (k:(g=true->res.wf)->Hd P n N H0 Q (.ops all rest) ks ⟨updp s.F d (.gv g res),s.L⟩):Hd P n N H0 Q (.ops all (⟨some d, .call ⟨.value x,xs,ats⟩,ty,pos,af,some (j,want)⟩::rest)) ks s:=by
 intro F H L hab;obtain⟨c,b,hy,hge⟩:=Tw_ hab hg;refine ow_gd hy hd (λe=>?_) (λe=>?_);exact wF;exact wE
end Go.SW
namespace Go.SW.V
open Go.SW
variable {P:Program} {n:Nat} {N:Rest} {H0:Env} {fF:Nat->PV} {fL:Nat->Blk}
theorem callgF {all rest:List Oper} {Q:Qs} {ks:List Kt} {f:FuncId} {args:List PV} {res:PV} {x:Operand} {xs:Array Operand} {ats:Array TypeId} {ty d j:Nat} {want g:Bool} {pos:String} {af:Array Edge} (hg:gOp ⟨fF,fL⟩ all j want=some g) (h:g=true->Fn P H0.g f args res) (ha:argsP (strG (J9_ (x::xs.toList)) fF) x xs.toList=some (f,args)) (hc:AllP (Ow_ fF g (J9_ (x::xs.toList)) [])) (hno:Kv_ fF (J9_ (x::xs.toList))=true) (hd:Nat.blt d n=true)
   (k:(g=true->res.wf)->Hd P n N H0 Q (.ops all rest) ks ⟨updp fF d (.gv g res),fL⟩):Hd P n N H0 Q (.ops all (⟨some d, .call ⟨.value x,xs,ats⟩,ty,pos,af,some (j,want)⟩::rest)) ks ⟨fF,fL⟩:=SW.callgF' (s:=⟨fF,fL⟩) hg h ha hc hno hd k
end Go.SW.V
namespace Go.SW
def MlOk (m:Mail):Prop:=m.head.length<=8/\0<=m.hops/\m.hops<=4/\m.key.length<=64
def Qh_ (l:List D_):Prop:=(l.map λx=>x.O_.id).Pairwise (· < ·)
def LnOk (l:Aq_):Prop:=l.items.length<=64/\(∀ x∈l.items,MlOk x.O_)/\Qh_ l.items
def RiOk (x:Aj_):Prop:=x.kept.length<=16/\∀ m∈x.kept,m.head.length<=8
def RwsOk (l:List Eu_):Prop:=l.length<=8/\(∀ r∈l,LnOk r.l)/\(l.map (·.q.name)).Nodup
def StkOk (s:I_):Prop:=RwsOk s.rows/\(∀ i,i<16->RiOk (s.rises.get i))/\0<=s.bytes/\s.bytes<=1000000
def BkOk (b:Ac_):Prop:=b.Ad_.length<=8/\b.binds.length<=32/\∀ y∈b.binds,y.key.length<=1000
def PoOk (p:G_):Prop:=0<p.places.length/\p.places.length<=16/\0<p.slots.length/\p.slots.length<=32/\p.grants.length<=8/\(∀ g∈p.grants,0<=g.frm/\g.frm<p.places.length/\0<=g.to'/\g.to'<p.places.length/\0<=g.budget/\g.budget<=16)/\∀ x∈p.places,0<=x.bytes/\x.bytes<=65536
def PrOk (x:Cb_):Prop:=BkOk x.book/\StkOk x.C_/\x.notes.kept.length<=32/\∀ i,i<8->0<=(x.spent.get i).count/\(x.spent.get i).count<=16
def DdOk (d:Aa_):Prop:=d.bind.key.length<=1000/\d.bind.want.length<=1000/\d.O_.head.length<=1000/\d.O_.key.length<=1000
def StOk (s:E_):Prop:=PrOk s.x/\PoOk s.L_/\0<=s.place/\s.place<s.L_.places.length
theorem Sc_:LnOk ⟨[]⟩:=⟨Nat.zero_le _,(λ_ h=>by cases h),List.Pairwise.nil⟩
theorem LnOk.sub {l m:Aq_} (h:LnOk l) (hs:m.items.Sublist l.items):LnOk m:=⟨Nat.le_trans hs.length_le h.1,λx hx=>h.2.1 x (hs.subset hx),h.2.2.sublist (hs.map _)⟩
theorem RwsOk.at {l:List Eu_} (h:RwsOk l) {k:Nat} {x:Eu_} (hx:l[k]? = some x):LnOk x.l:=h.2.1 x (List.mem_of_getElem? hx)
theorem My_ {α β:Type} (f:α->β):∀ (l:List α) (k:Nat) (x y:α),l[k]? = some x->f y=f x->(l.set k y).map f=l.map f
 |[],_,_,_,h,_=>by cases h
 |a::r,0,x,y,h,e=>by simp at h;subst h;simp[e]
 |a::r,k+1,x,y,h,e=>by simpa using My_ f r k x y pT e
theorem RwsOk.set {l:List Eu_} (h:RwsOk l) {k:Nat} {x y:Eu_} (hx:l[k]? = some x) (hn:y.q.name=x.q.name) (hy:LnOk y.l):RwsOk (l.set k y):=by
 refine⟨by simpa using h.1,λr hr=>?_,?_⟩
 . rcases List.mem_or_eq_of_mem_set hr with q|q
   exact h.2.1 r q
   exact q ▸ hy
 rw[My_ (λr:Eu_=>r.q.name) l k x y hx hn];exact h.2.2
theorem RwsOk.sub {l m:List Eu_} (h:RwsOk l) (hs:m.Sublist l):RwsOk m:=⟨Nat.le_trans hs.length_le h.1,λr hr=>h.2.1 r (hs.subset hr),(hs.map _).nodup h.2.2⟩
theorem StkOk.set {s:I_} (h:StkOk s) {v:Aj_} (m:Nat) (hm:m<16) (hv:RiOk v):StkOk {s with rises:=s.rises.set v m}:=by
 refine⟨h.1,λi hi=>?_,h.2.2⟩;show RiOk ((s.rises.set v m).get i);rw[V.A16.get_set _ _ _ _ hm hi]
 split
 exact hv;exact h.2.1 i hi
theorem StOk.stk {s:E_} (h:StOk s):StkOk s.x.C_:=h.1.2.1
end Go.SW
namespace Go.SW.V
open Go.SW
def Gt_ (l:List Bs) (s:Bs):(List Bs):=
 (bif decide (s∈l) then
 l
 else (l++[s]))
def Bu_ (b:Ac_) (x:Z_):Ac_×Int:=
 (bif !decide ((On_ x)=0) then
 (b,On_ x)
 else (bif (((D0_ b.Ad_ x.name).isSome)&&(decide (x=((D0_ b.Ad_ x.name).getD Z_.zero)))) then
 (b,0)
 else (bif (D0_ b.Ad_ x.name).isSome then
 (b,9)
 else (bif decide (8<=(b.Ad_.length:Int)) then
 (b,12)
 else ((⟨[b.Ad_,[x]].flatten,b.binds⟩:Ac_),0)))))
def Am_ (b:Ac_) (x:R_):Int:=
 (idxP (λz_4:R_=>decide (x=z_4)) b.binds)
theorem put_len (l:List Bs) (s:Bs):(Gt_ l s).length<=l.length+1:=by
 unfold Gt_
 cases decide (s∈l)<;>simp
theorem there_r (b:Ac_) (x:R_):-1<=Am_ b x/\Am_ b x<b.binds.length:=Io_ _ _
def A7_ (b:Ac_) (x:R_):Ac_×Int:=
 (bif !((D0_ b.Ad_ x.Ak_).isSome) then
 (b,10)
 else (bif decide ((((D0_ b.Ad_ x.Ak_).getD Z_.zero).sort)=4) then
 (b,8)
 else (bif !decide ((Cx_ x.to')=0) then
 (b,Cx_ x.to')
 else (bif !decide ((Qc_ (Hc_ x (((D0_ b.Ad_ x.Ak_).getD Z_.zero).sort)))=0) then
 (b,Qc_ (Hc_ x (((D0_ b.Ad_ x.Ak_).getD Z_.zero).sort)))
 else lt (Am_ b x) λr=>
 (bif decide (0<=r) then
 (b,0)
 else (bif decide (32<=(b.binds.length:Int)) then
 (b,12)
 else ((⟨b.Ad_,[b.binds,[x]].flatten⟩:Ac_),0)))))))
def Bd_ (b:Ac_) (Ak_:Bs) (key:Bs) (h:List Pair):List R_->List Bs->List Bs->(List Bs)×(List Bs)×Int
 |[],queues,places=>(queues,places,0)
 | x::t,queues,places=>(lt1 ((bif !decide ((x.Ak_)=Ak_) then
 (!decide ((x.Ak_)=Ak_))
 else (!(O3_ (Hc_ x (((D0_ b.Ad_ Ak_).getD Z_.zero).sort)) key h)))) (λv=>
 (bif v then
 Bd_ b Ak_ key h t queues places
 else (bif x.up then
 lt (Gt_ places (x.to')) λr=>
 Bd_ b Ak_ key h t queues r
 else lt (Gt_ queues (x.to')) λr1=>
 Bd_ b Ak_ key h t r1 places))))
def A8_ (b:Ac_) (Ak_:Bs) (key:Bs) (h:List Pair):(List Bs)×(List Bs)×Int:=
 (bif !((D0_ b.Ad_ Ak_).isSome) then
 ([],[],10)
 else (bif decide ((((D0_ b.Ad_ Ak_).getD Z_.zero).sort)=4) then
 ([],[((D0_ b.Ad_ Ak_).getD Z_.zero).to'],0)
 else Bd_ b Ak_ key h b.binds [] []))
def Ew_ (l:List Aa_):List Aa_->Bool
 |[]=>(decide ((l.length:Int)<=40))
 | x::t=>(bif !(Rx_ x) then
 false
 else Ew_ l t)
def L3_ (l:List Aa_):Bool:=
 Ew_ l l
def C8_ (n:Int) (least:Int) (most:Int):Bool:=
 ((decide (least<=n))&&(decide (n<=most)))
def Ft_ (a:C5_) (b:C5_):Bool:=
 ((decide (a.level<=b.level))&&(decide ((IntKind.wrap .u32 ((BitVec.ofInt (IntKind.bits .u32) a.Q0_ &&& ~~~ BitVec.ofInt (IntKind.bits .u32) b.Q0_).toNat))=0)))
def Bt_ (p:G_) (i:Int):Bool:=
 (C8_ i 0 ((p.places.length:Int)-1))
def M1_ (x:Bl_) (x1:Bs):Bool:=
 (decide (x.name=x1))
def J1_ (x:B1_) (x1:Int) (x2:Int):Bool:=
 ((decide (x.frm=x1))&&(decide (x.to'=x2)))
def Ik_ (n:Bx_):Int:=
 n.total
def Fn_ (p:G_) (tick:Int):Int:=
 (tick/(p.slots.length:Int))
def H_ (m:Mail):Mail:=
 m
def By_ (m:Mail):Int:=
 ((Ez_ m).length:Int)
def B8_ (x:D_):D_:=
 lt (H_ x.O_) λr=>
 (⟨r,x.Nm_,x.again⟩:D_)
def Rz_ (x0:Mail):Bool:=
 true
def Oe_ (x:D_) (x1:Int):Bool:=
 (decide (x.O_.id=x1))
def Jv_ (l:Aq_):Int:=
 (l.items.length:Int)
def Pw_ (m:Mail) (x1:Int):Bool:=
 ((!decide (m.due=0))&&(decide (m.due<=x1)))
def G1_ (x:D_):Bool:=
 ((!x.Nm_)&&(Rz_ x.O_))
def Fi_ (x:D_) (x1:Int):Bool:=
 ((!x.Nm_)&&(Pw_ x.O_ x1))
theorem W5_ (m:Mail):0<=By_ m/\By_ m<=3000:=by
 have :=Ih_ m;simp only[By_];omega
def Bj_ (p:G_) (from_:Int) (to_:Int):Bool:=
 ((((!decide (from_=to_))&&(Bt_ p from_))&&(Bt_ p to_))&&(Ft_ ((gt p.places ((from_).toNat)).label) ((gt p.places ((to_).toNat)).label)))
def K_ (p:G_) (name:Bs):Int:=
 (idxP (λz_4:Bl_=>(M1_ z_4 name)) p.places)
def T_ (p:G_) (from_:Int) (to_:Int):Int:=
 (idxP (λz_5:B1_=>(J1_ z_5 from_ to_)) p.grants)
def Br_ (n:Bx_) (x:C1_):Bx_×Int:=
 (bif decide (64<(x.text.length:Int)) then
 (n,5)
 else (bif decide (n.total=18446744073709551615) then
 (n,18)
 else ((⟨(IntKind.wrap .u64 (n.total+1)),(([n.kept,[x]].flatten).drop ((max 0 ((([n.kept,[x]].flatten).length:Int)-32))).toNat)⟩:Bx_),0)))
def G2_ (n:Bx_) (number:Int):C1_×Bool:=
 (bif ((decide (number<=(IntKind.wrap .u64 (n.total-(n.kept.length:Int)))))||(decide (n.total<number))) then
 ((⟨0,0,[]⟩:C1_),false)
 else ((gt n.kept (((IntKind.wrap .u64 ((IntKind.wrap .u64 (number-(IntKind.wrap .u64 (n.total-(n.kept.length:Int)))))-1))).toNat)),true))
def J0_ (n:Bx_):(List C1_):=
 n.kept
def A2_ (l:Aq_) (id:Int):Int:=
 (idxP (λz_4:D_=>(Oe_ z_4 id)) l.items)
def Ec_ (l:Aq_) (m:Mail):Int:=
 (bif !decide ((Eg_ m)=0) then
 (Eg_ m)
 else (bif ((decide (0<(l.items.length:Int)))&&(decide (m.id<=((gt l.items ((((l.items.length:Int)-1)).toNat)).O_.id)))) then
 13
 else (bif decide (64<=(l.items.length:Int)) then
 12
 else 0)))
def Bq_ (l:Aq_):Int:=
 (idxP (λz_4:D_=>(G1_ z_4)) l.items)
def Ed_ (l:Aq_) (so:Int):Int:=
 (idxP (λz_4:D_=>(Fi_ z_4 so)) l.items)
theorem Qo_ {α:Type} [Inhabited α] {p:α->Bool} {l:List α} (h:0<=idxP p l):p (gt l (idxP p l).toNat)=true:=by
 have hb:=Io_ p l;exact (Ul_ pB (getG (xs:=l) (k:=(idxP p l).toNat) pB)).1
theorem find_b (p:G_) (n:Bs):-1<=K_ p n/\K_ p n<p.places.length:=Io_ _ _
theorem grant_b (p:G_) (a b:Int):-1<=T_ p a b/\T_ p a b<p.grants.length:=Io_ _ _
theorem grant_to {p:G_} {a b:Int} (h:0<=T_ p a b):(gt p.grants (T_ p a b).toNat).frm=a/\(gt p.grants (T_ p a b).toNat).to'=b:=by
 have :=Qo_ h;simp only[J1_,Bool.and_eq_true] at this;exact⟨of_decide_eq_true this.1,of_decide_eq_true this.2⟩
theorem lof_b (l:Aq_) (id:Int):-1<=A2_ l id/\A2_ l id<l.items.length:=Io_ _ _
theorem lof_at {l:Aq_} {id:Int} (h:0<=A2_ l id):(gt l.items (A2_ l id).toNat).O_.id=id:=by
 have :=Qo_ h;exact of_decide_eq_true this
theorem Uo_ (l:Aq_):-1<=Bq_ l/\Bq_ l<l.items.length:=Io_ _ _
theorem llate_b (l:Aq_) (t:Int):-1<=Ed_ l t/\Ed_ l t<l.items.length:=Io_ _ _
theorem lcheck_ok {l:Aq_} {m:Mail} (h:Ec_ l m=0):Eg_ m=0/\l.items.length<64/\(l.items.length=0\/(gt l.items ((l.items.length:Int)-1).toNat).O_.id<m.id):=by
 unfold Ec_ at h
 cases e1:decide (Eg_ m=0) with
 |false=>rw[e1] at h;simp at h;simp[h] at e1
 |true=>
   rw[e1] at h
   simp only[Bool.not_true,cond_false] at h
   cases e2:((decide (0<(l.items.length:Int)))&&(decide (m.id<=((gt l.items ((((l.items.length:Int)-1)).toNat)).O_.id)))) with
   |true=>rw[e2] at h;cases h
   |false=>
     rw[e2] at h
     cases e3:decide (64<=(l.items.length:Int)) with
     |true=>rw[e3] at h;cases h
     |false=>
       simp only[Bool.and_eq_false_iff,decide_eq_false_iff_not] at e2
       simp at e3 e1
       exact⟨e1,by omega,by omega⟩
theorem mlOk_of {m:Mail} (h:Eg_ m=0) (h0:0<=m.hops):MlOk m:=by
 obtain⟨_,h2,h3,_,h5⟩:=Ii_ h;exact⟨(Oa_ h3).1,h0,h5,h2⟩
theorem Zx_ {n:Bx_} {x:C1_} (h:n.kept.length<=32):(Br_ n x).1.kept.length<=32:=by
 unfold Br_
 cases decide (64<(x.text.length:Int)) with
 |true=>exact h
 |false=>
   cases decide (n.total=18446744073709551615) with
   |true=>exact h
   |false=>simp;omega
end Go.SW.V
namespace Go.SW.V
open Go.SW
theorem Xv_ {α:Type} [Inhabited α] {xs:List α} {k:Nat} {y:α} (h:k<xs.length):gt (xs.set k y) k=y:=by
 simp[gt,h]
end Go.SW.V
namespace Go.SW.V
open Go.SW
theorem Zg_ {p:G_} (h:PoOk p) (a b:Int):0<=T_ p a b->0<=b/\b<p.places.length/\0<=(gt p.grants (T_ p a b).toNat).budget/\(gt p.grants (T_ p a b).toNat).budget<=16:=λh0=>by
 have hb:=grant_b p a b
 have ht:=grant_to h0
 have hg:=h.2.2.2.2.2.1 _ (List.mem_of_getElem? (getG (xs:=p.grants) (k:=(T_ p a b).toNat) pB))
 omega
def C7_ (l:Aq_) (x:D_):Aq_×Int:=
 lt (Ec_ l x.O_) λr=>
 (bif !decide (r=0) then
 (l,r)
 else lt (B8_ x) λr1=>
 ((⟨[l.items,[r1]].flatten⟩:Aq_),0))
def At_ (l:Aq_) (m:Mail):Aq_×Int:=
 lt (C7_ l (⟨m,false,false⟩:D_)) λr=>
 (r.1,r.2)
def Af_ (l:Aq_) (id:Int):Aq_×D_×Int:=
 lt (A2_ l id) λr=>
 (bif decide (r<0) then
 (l,(⟨(⟨0,[],[],[],[],0,0⟩:Mail),false,false⟩:D_),10)
 else lt (B8_ (gt l.items ((r).toNat))) λr1=>
 ((⟨[(l.items.take (r).toNat),(l.items.drop ((r+1)).toNat)].flatten⟩:Aq_),r1,0))
def Cf_ (l:Aq_) (k:Int):Mail×Bool:=
 (bif decide (k<0) then
 ((⟨0,[],[],[],[],0,0⟩:Mail),false)
 else lt (H_ ((gt l.items ((k).toNat)).O_)) λr=>
 (r,true))
def Bw_:List D_->Int->Int
 |[],n=>n
 |x::t,n=>lt (By_ (x.O_)) λr=>
 Bw_ t (n+r)
def Eb_ (l:Aq_):Int:=
 Bw_ l.items 0
def Ce_ (l:Aq_):Aq_×D_×Bool:=
 lt (Bq_ l) λr=>
 (bif decide (r<0) then
 (l,(⟨(⟨0,[],[],[],[],0,0⟩:Mail),false,false⟩:D_),false)
 else lt (B8_ (gt (l.items.set ((r).toNat) (⟨(gt l.items ((r).toNat)).O_,true,(gt l.items ((r).toNat)).again⟩:D_)) ((r).toNat))) λr1=>
 ((⟨(l.items.set ((r).toNat) (⟨(gt l.items ((r).toNat)).O_,true,(gt l.items ((r).toNat)).again⟩:D_))⟩:Aq_),r1,true))
def Cu_ (l:Aq_) (id:Int):Aq_×Int:=
 lt (A2_ l id) λr=>
 (bif decide (r<0) then
 (l,10)
 else (bif !((gt l.items ((r).toNat)).Nm_) then
 (l,13)
 else ((⟨((l.items.set ((r).toNat) (⟨(gt l.items ((r).toNat)).O_,false,(gt l.items ((r).toNat)).again⟩:D_)).set ((r).toNat) (⟨(gt (l.items.set ((r).toNat) (⟨(gt l.items ((r).toNat)).O_,false,(gt l.items ((r).toNat)).again⟩:D_)) ((r).toNat)).O_,(gt (l.items.set ((r).toNat) (⟨(gt l.items ((r).toNat)).O_,false,(gt l.items ((r).toNat)).again⟩:D_)) ((r).toNat)).Nm_,true⟩:D_))⟩:Aq_),0)))
def Bn_:List D_->Nat->Aq_->Aq_
 |[],k,x=>x
 | x1::t,k,x=>(bif x1.Nm_ then
 Bn_ t (k+1) (⟨((x.items.set k (⟨(gt x.items k).O_,false,(gt x.items k).again⟩:D_)).set k (⟨(gt (x.items.set k (⟨(gt x.items k).O_,false,(gt x.items k).again⟩:D_)) k).O_,(gt (x.items.set k (⟨(gt x.items k).O_,false,(gt x.items k).again⟩:D_)) k).Nm_,true⟩:D_))⟩:Aq_)
 else Bn_ t (k+1) x)
def Di_ (l:Aq_):Aq_:=
 Bn_ l.items 0 l
def Ar_ (l:Aq_):Mail×Bool:=
 lt (Cf_ l (Bq_ l)) λr=>
 (r.1,r.2)
def Dh_ (l:Aq_) (tick:Int):Mail×Bool:=
 lt (Cf_ l (Ed_ l tick)) λr=>
 (r.1,r.2)
def C0_:List D_->List D_->(List D_)
 |[],out=>out
 |x::t,out=>lt (B8_ x) λr=>
 C0_ t (out++[r])
def Gl_ (l:Aq_):(List D_):=
 C0_ l.items []
def Bg_ (x:Aj_) (m:Mail):Aj_×Int:=
 (bif !decide ((Eg_ m)=0) then
 (x,Eg_ m)
 else (bif decide (x.total=18446744073709551615) then
 (x,18)
 else lt (H_ m) λr=>
 ((⟨(IntKind.wrap .u64 (x.total+1)),(([x.kept,[r]].flatten).drop ((max 0 ((([x.kept,[r]].flatten).length:Int)-16))).toNat)⟩:Aj_),0)))
def F9_ (x:Aj_) (number:Int):Int×Mail×Bool:=
 (bif decide (x.total<=number) then
 (0,(⟨0,[],[],[],[],0,0⟩:Mail),false)
 else lt (H_ (gt x.kept (((IntKind.wrap .u64 ((max (IntKind.wrap .u64 ((IntKind.wrap .u64 (x.total-(x.kept.length:Int)))+1)) (IntKind.wrap .u64 (number+1)))-(IntKind.wrap .u64 ((IntKind.wrap .u64 (x.total-(x.kept.length:Int)))+1))))).toNat))) λr=>
 ((max (IntKind.wrap .u64 ((IntKind.wrap .u64 (x.total-(x.kept.length:Int)))+1)) (IntKind.wrap .u64 (number+1))),r,true))
def Mi_ (x:Aj_):Int:=
 x.total
def Cl_:List Mail->Int->Int
 |[],n=>n
 |x1::t,n=>lt (By_ x1) λr=>
 Cl_ t (n+r)
def B7_ (x:Aj_):Int:=
 Cl_ x.kept 0
def Dy_:List Mail->List Mail->(List Mail)
 |[],out=>out
 |x1::t,out=>lt (H_ x1) λr=>
 Dy_ t (out++[r])
def Hr_ (x:Aj_):(List Mail):=
 Dy_ x.kept []
def E3_ (base:Int) (bytes:Int):I_:=
 (⟨base,(max 0 bytes),[],(⟨(⟨0,[]⟩:Aj_),(⟨0,[]⟩:Aj_),(⟨0,[]⟩:Aj_),(⟨0,[]⟩:Aj_),(⟨0,[]⟩:Aj_),(⟨0,[]⟩:Aj_),(⟨0,[]⟩:Aj_),(⟨0,[]⟩:Aj_),(⟨0,[]⟩:Aj_),(⟨0,[]⟩:Aj_),(⟨0,[]⟩:Aj_),(⟨0,[]⟩:Aj_),(⟨0,[]⟩:Aj_),(⟨0,[]⟩:Aj_),(⟨0,[]⟩:Aj_),(⟨0,[]⟩:Aj_)⟩:A16_RiseR)⟩:I_)
def Dl_ (q:Ae_):Int:=
 (bif !decide ((Cx_ q.name)=0) then
 (Cx_ q.name)
 else (bif ((decide (q.most<1))||(decide (64<q.most))) then
 7
 else (bif !decide (q.dead=[]) then
 (Cx_ q.dead)
 else 0)))
def Ig_ (x:Eu_) (x1:Bs):Bool:=
 (decide (x.q.name=x1))
def J_ (s:I_) (name:Bs):Int:=
 (idxP (λz_4:Eu_=>(Ig_ z_4 name)) s.rows)
theorem bt {α:Type} {b:Bool} {x y:α} {P:α->Prop} (h1:b=true->P x) (h2:b=false->P y):P (bif b then x else y):=by
 cases b
 exact h2 Y;exact h1 Y
theorem Sr_ {l:List D_} (h:Qh_ l) {i j:Nat} {x y:D_} (hi:l[i]? = some x) (hj:l[j]? = some y) (hij:i<j):x.O_.id<y.O_.id:=by
 have h1:=List.pairwise_iff_getElem.1 h i j;obtain⟨a,rfl⟩:=List.getElem?_eq_some_iff.1 hi;obtain⟨b,rfl⟩:=List.getElem?_eq_some_iff.1 hj;have h2:=h1 (by simpa using a) (by simpa using b) hij;rw[List.getElem_map,List.getElem_map] at h2;exact h2
theorem rising_app {l:List D_} {x:D_} (h:Qh_ l) (hx:∀ y,l[l.length-1]? = some y->y.O_.id<x.O_.id):Qh_ (l++[x]):=by
 unfold Qh_;rw[List.map_append,List.pairwise_append];refine⟨h,by simp,λa ha b hb=>?_⟩;obtain⟨y,hy,rfl⟩:=List.mem_map.1 ha;simp at hb;subst hb;obtain⟨i,hi⟩:=List.getElem?_of_mem hy;have hil:=(List.getElem?_eq_some_iff.1 hi).1;have hl:=List.getElem?_eq_getElem (l:=l) (i:=l.length-1) pB;have h1:=hx _ hl;by_cases e:i=l.length-1
 . subst e;rw[hl] at hi;cases hi;exact h1
 exact Int.lt_trans (Sr_ h hi hl pB) h1
theorem lput_ok {l:Aq_} {x:D_} (h:LnOk l) (h0:0<=x.O_.hops):LnOk (C7_ l x).1:=by
 unfold C7_ lt;refine bt (P:=λr:Aq_×Int=>LnOk r.1) (λ_=>h) λe=>?_;simp only[Bool.not_eq_eq_eq_not,Bool.not_false,decide_eq_true_eq] at e;obtain⟨h1,h2,h3⟩:=lcheck_ok e;refine⟨by simp;omega,λy hy=>?_,?_⟩
 . simp[B8_,lt,H_] at hy
   rcases hy with hy|rfl
   exact h.2.1 y hy
   exact mlOk_of h1 h0
 . show Qh_ ([l.items,[B8_ x]].flatten)
   simp only[List.flatten_cons,List.flatten_nil,List.append_nil]
   refine rising_app h.2.2 λy hy=>?_
   have hl:=(List.getElem?_eq_some_iff.1 hy).1
   rcases h3 with q|q
   omega
   . have :((l.items.length:Int)-1).toNat=l.items.length-1:=by omega
     rw[this] at q
     rw[getG (xs:=l.items) (k:=l.items.length-1) pB] at hy
     cases hy
     exact q
theorem ladd_ok {l:Aq_} {m:Mail} (h:LnOk l) (h0:0<=m.hops):LnOk (At_ l m).1:=lput_ok (x:=⟨m,false,false⟩) h h0
theorem I0_:MlOk ⟨0,[],[],[],[],0,0⟩:=⟨by simp,by simp,by simp,by simp⟩
theorem Go_ {α:Type} [Inhabited α] {xs:List α} {k:Nat} (h:k<xs.length):gt xs k∈xs:=List.mem_of_getElem? (getG h)
theorem S6_ {α:Type} (l:List α) (k:Nat):([l.take k,l.drop (k+1)].flatten).Sublist l:=by
 simp only[List.flatten_cons,List.flatten_nil,List.append_nil];have h:l=l.take k++l.drop k:=(List.take_append_drop k l).symm
 conv=>rhs;rw[h]
 refine List.Sublist.append (List.Sublist.refl _) ?_;rw[<- List.drop_drop];exact List.drop_sublist 1 _
theorem Py_ {l:Aq_} {id:Int} (h:LnOk l):LnOk (Af_ l id).1/\MlOk (Af_ l id).2.1.O_:=by
 unfold Af_ lt;refine bt (P:=λr:Aq_×D_×Int=>LnOk r.1/\MlOk r.2.1.O_) (λ_=>⟨h,I0_⟩) λe=>?_;simp only[decide_eq_false_iff_not] at e;have hb:=lof_b l id;refine⟨h.sub ?_,?_⟩;have :(A2_ l id+1).toNat=(A2_ l id).toNat+1:=by omega
 rw[this];exact S6_ _ _;exact h.2.1 _ (Go_ pB)
theorem V7_ {l:Aq_} {k:Nat} {y:D_} (h:LnOk l) (hk:k<l.items.length) (he:y.O_=(gt l.items k).O_):LnOk ⟨l.items.set k y⟩:=by
 have hm:=h.2.1 _ (Go_ hk);refine⟨by simpa using h.1,λx hx=>?_,?_⟩
 . rcases List.mem_or_eq_of_mem_set hx with q|q
   exact h.2.1 x q
   subst q;rw[he];exact hm
 show Qh_ (l.items.set k y);unfold Qh_;rw[My_ (λx:D_=>x.O_.id) l.items k _ y (getG hk) (by rw[he])];exact h.2.2
theorem Zs_ {l:Aq_} (h:LnOk l):LnOk (Ce_ l).1/\MlOk (Ce_ l).2.1.O_:=by
 unfold Ce_ lt;refine bt (P:=λr:Aq_×D_×Bool=>LnOk r.1/\MlOk r.2.1.O_) (λ_=>⟨h,I0_⟩) λe=>?_;simp only[decide_eq_false_iff_not] at e;have hb:=Uo_ l;have hm:=h.2.1 _ (Go_ (xs:=l.items) (k:=(Bq_ l).toNat) pB);refine⟨V7_ h pB Y,?_⟩;simp only[B8_,lt,H_];rw[Xv_ pB];exact hm
theorem lback_ok {l:Aq_} {id:Int} (h:LnOk l):LnOk (Cu_ l id).1:=by
 unfold Cu_ lt;refine bt (P:=λr:Aq_×Int=>LnOk r.1) (λ_=>h) λe=>?_;refine bt (P:=λr:Aq_×Int=>LnOk r.1) (λ_=>h) λ_=>?_;simp only[decide_eq_false_iff_not] at e;have hb:=lof_b l id;exact zE
theorem Wa_:∀ (t:List D_) (k:Nat) (l:Aq_),LnOk l->k+t.length<=l.items.length->LnOk (Bn_ t k l)
 |[],_,_,h,_=>h
 |x::t,k,l,h,hk=>by
   simp only[List.length_cons] at hk
   unfold Bn_
   refine bt (P:=LnOk) (λ_=>Wa_ t (k+1) _ ?_ pO) (λ_=>Wa_ t (k+1) l h pB)
   exact zE
theorem lwake_ok {l:Aq_} (h:LnOk l):LnOk (Di_ l):=Wa_ l.items 0 l h pB
theorem ltold_ok {l:Aq_} {k:Int} (h:LnOk l) (hk:k<l.items.length):MlOk (Cf_ l k).1:=by
 unfold Cf_ lt;refine bt (P:=λr:Mail×Bool=>MlOk r.1) (λ_=>I0_) λe=>?_;simp only[decide_eq_false_iff_not] at e;exact h.2.1 _ (Go_ pB)
theorem llate_ok {l:Aq_} {t:Int} (h:LnOk l):MlOk (Dh_ l t).1:=ltold_ok h (llate_b l t).2
theorem lsize_r0:∀ (t:List D_) (n:Int),n<=Bw_ t n/\Bw_ t n<=n+3000*t.length
 |[],n=>⟨Int.le_refl _,by simp[Bw_]⟩
 |x::t,n=>by
   have h:=W5_ x.O_
   have hi:=lsize_r0 t (n+By_ x.O_)
   simp only[Bw_,lt,List.length_cons]
   omega
theorem lsize_r (l:Aq_):0<=Eb_ l/\Eb_ l<=3000*l.items.length:=by
 have :=lsize_r0 l.items 0;simp only[Eb_];omega
theorem rsize_r0:∀ (t:List Mail) (n:Int),n<=Cl_ t n/\Cl_ t n<=n+3000*t.length
 |[],n=>⟨Int.le_refl _,by simp[Cl_]⟩
 |x::t,n=>by
   have h:=W5_ x
   have hi:=rsize_r0 t (n+By_ x)
   simp only[Cl_,lt,List.length_cons]
   omega
theorem rsize_r (x:Aj_):0<=B7_ x/\B7_ x<=3000*x.kept.length:=by
 have :=rsize_r0 x.kept 0;simp only[B7_];omega
theorem rput_ok {x:Aj_} {m:Mail} (h:RiOk x):RiOk (Bg_ x m).1:=by
 unfold Bg_ lt;refine bt (P:=λr:Aj_×Int=>RiOk r.1) (λ_=>h) λe=>?_;refine bt (P:=λr:Aj_×Int=>RiOk r.1) (λ_=>h) λ_=>?_;simp only[Bool.not_eq_eq_eq_not,Bool.not_false,decide_eq_true_eq] at e;have hm:=(Oa_ (Ii_ e).2.2.1).1;refine⟨by simp;omega,λy hy=>?_⟩;have hy:=List.mem_of_mem_drop hy;simp[H_] at hy
 rcases hy with hy|rfl
 exact h.2 y hy;exact hm
theorem at_b (s:I_) (n:Bs):-1<=J_ s n/\J_ s n<s.rows.length:=Io_ _ _
theorem at_n {s:I_} {n:Bs} (h:0<=J_ s n):(gt s.rows (J_ s n).toNat).q.name=n:=by
 have :=Qo_ h;exact of_decide_eq_true this
def A4_ (s:I_) (q:Ae_):I_×Int:=
 lt (Dl_ q) λr=>
 (bif !decide (r=0) then
 (s,r)
 else lt (J_ s q.name) λr1=>
 (bif ((decide (0<=r1))&&(decide ((gt s.rows ((r1).toNat)).q=q))) then
 (s,0)
 else (bif decide (0<=r1) then
 (s,9)
 else (bif decide (8<=(s.rows.length:Int)) then
 (s,12)
 else ((⟨s.next,s.bytes,[s.rows,[(⟨q,(⟨[]⟩:Aq_)⟩:Eu_)]].flatten,s.rises⟩:I_),0)))))
def Ax_ (s:I_) (name:Bs):I_×Int:=
 lt (J_ s name) λr=>
 (bif decide (r<0) then
 (s,10)
 else ((⟨s.next,s.bytes,[(s.rows.take (r).toNat),(s.rows.drop ((r+1)).toNat)].flatten,s.rises⟩:I_),0))
def Ag_ (s:I_) (name:Bs):Ae_×Bool:=
 lt (J_ s name) λr=>
 (bif decide (r<0) then
 ((⟨[],0,0,[]⟩:Ae_),false)
 else ((gt s.rows ((r).toNat)).q,true))
def Bz_:List Eu_->List Ae_->(List Ae_)
 |[],out=>out
 |x::t,out=>Bz_ t (out++[x.q])
def Ds_ (s:I_):(List Ae_):=
 Bz_ s.rows []
def Dd_ (s:I_) (name:Bs):Aq_:=
 lt (J_ s name) λr=>
 (bif decide (r<0) then
 (⟨[]⟩:Aq_)
 else ((gt s.rows ((r).toNat)).l))
def Ej_ (s:I_) (place:Int):Aj_:=
 (bif ((decide (place<0))||(decide (16<=place))) then
 (⟨0,[]⟩:Aj_)
 else (A16.get s.rises ((place).toNat)))
def W_ (s:I_) (k:Int) (l:Aq_):I_:=
 (⟨s.next,s.bytes,(s.rows.set ((k).toNat) (⟨(gt s.rows ((k).toNat)).q,l⟩:Eu_)),s.rises⟩:I_)
def Ch_ (s:I_):Nat->Int->Nat->Int
 |0,_,_=>default
 | f2+1,n1,v=>(bif decide ((v:Int)<16) then
 lt (B7_ (A16.get s.rises v)) λr1=>
 Ch_ s f2 (n1+r1) (v+1)
 else n1)
def Be_ (s:I_):List Eu_->Int->Int
 |[],n=>Ch_ s (16-0+1) n 0
 |x::t,n=>lt (Eb_ (x.l)) λr=>
 Be_ s t (n+r)
def Ai_ (s:I_):Int:=
 Be_ s s.rows 0
def Fo_ (s:I_):Int:=
 s.next
theorem ksize1 {s:I_} (h:∀ i,i<16->RiOk (s.rises.get i)):∀ (f:Nat) (n:Int) (v:Nat),16<f+v->v<=16->n<=Ch_ s f n v/\Ch_ s f n v<=n+48000*(16-v)
 |0,n,v,h1,h2=>by omega
 |f+1,n,v,h1,h2=>by
   unfold Ch_ lt
   refine bt (P:=λr:Int=>n<=r/\r<=n+48000*(16-(v:Int))) (λe=>?_) λe=>⟨Int.le_refl _,by omega⟩
   simp only[decide_eq_true_eq] at e
   have hr:=rsize_r (s.rises.get v)
   have hk:=(h v pB).1
   have hi:=ksize1 h f (n+B7_ (s.rises.get v)) (v+1) pB pB
   dsimp only
   omega
theorem ksize0 {s:I_} (h:∀ i,i<16->RiOk (s.rises.get i)):∀ (t:List Eu_) (n:Int),(∀ r∈t,LnOk r.l)->n<=Be_ s t n/\Be_ s t n<=n+192000*t.length+768000
 |[],n,_=>by
   have :=ksize1 h (16-0+1) n 0 pB pB
   simp only[Be_,List.length_nil];omega
 |x::t,n,hl=>by
   have hr:=lsize_r x.l
   have hk:=(hl x (List.mem_cons_self ..)).1
   have hi:=ksize0 h t (n+Eb_ x.l) λr hr=>hl r (List.mem_cons_of_mem _ hr)
   simp only[Be_,lt,List.length_cons]
   omega
theorem Zm_ (s:I_) (h:StkOk s):0<=Ai_ s/\Ai_ s<=2304000:=by
 have :=ksize0 h.2.1 s.rows 0 h.1.2.1;have :=h.1.1;simp only[Ai_];omega
theorem at_neg {s:I_} {n:Bs} (h:J_ s n<0):∀ x∈s.rows,x.q.name≠n:=λx hx e=>by
 have :=Ms_ h
 rw[List.find?_eq_none] at this
 exact this x hx (decide_eq_true e)
theorem kmake_ok {s:I_} {q:Ae_} (h:StkOk s):StkOk (A4_ s q).1:=by
 unfold A4_ lt;refine bt (P:=λr:I_×Int=>StkOk r.1) (λ_=>h) λ_=>?_;refine bt (P:=λr:I_×Int=>StkOk r.1) (λ_=>h) λ_=>?_;refine bt (P:=λr:I_×Int=>StkOk r.1) (λ_=>h) λe=>?_;refine bt (P:=λr:I_×Int=>StkOk r.1) (λ_=>h) λe1=>?_;simp only[decide_eq_false_iff_not] at e e1;have hn:=at_neg (s:=s) (n:=q.name) pB;refine⟨⟨by simp;omega,λr hr=>?_,?_⟩,h.2⟩
 . simp at hr
   rcases hr with hr|rfl
   exact h.1.2.1 r hr
   exact Sc_
 simp only[List.flatten_cons,List.flatten_nil,List.append_nil,List.map_append,List.map_cons,List.map_nil];rw[List.nodup_append];refine⟨h.1.2.2,by simp,λa ha b hb=>?_⟩;obtain⟨x,hx,rfl⟩:=List.mem_map.1 ha;rw[List.mem_singleton.1 hb];exact hn x hx
theorem kdrop_ok {s:I_} {n:Bs} (h:StkOk s):StkOk (Ax_ s n).1:=by
 unfold Ax_ lt;refine bt (P:=λr:I_×Int=>StkOk r.1) (λ_=>h) λe=>?_;simp only[decide_eq_false_iff_not] at e;have :(J_ s n+1).toNat=(J_ s n).toNat+1:=by omega
 refine⟨h.1.sub ?_,h.2⟩;show List.Sublist [s.rows.take _,s.rows.drop _].flatten _;rw[this];exact S6_ _ _
theorem Rr_ {s:I_} {k:Int} {l:Aq_} (h:StkOk s) (hl:LnOk l) (hk:0<=k/\k<s.rows.length):StkOk (W_ s k l):=
 ⟨h.1.set (getG pB) Y hl,h.2⟩
theorem kroom_r0 {s:I_} (h:StkOk s):-2304000<=s.bytes-Ai_ s/\s.bytes-Ai_ s<=1000000:=by
 have :=Zm_ s h;have :=h.2.2;omega
end Go.SW.V
namespace Go.SW.V
open Go.SW
theorem Vg_ (s:I_) (k:Int) (l:Aq_):(W_ s k l).rows.length=s.rows.length:=by simp[W_]
def B0_ (s:I_):Int:=
 (s.bytes-(Ai_ s))
theorem kroom_r (s:I_) (h:StkOk s):-2304000<=B0_ s/\B0_ s<=1000000:=kroom_r0 h
def As_ (s:I_) (name:Bs) (m:Mail):I_×Int×Mail×Int:=
 lt (J_ s name) λr=>
 (bif decide (r<0) then
 (s,0,(⟨0,[],[],[],[],0,0⟩:Mail),10)
 else (bif !decide ((Eg_ m)=0) then
 (s,0,(⟨0,[],[],[],[],0,0⟩:Mail),Eg_ m)
 else (bif decide (s.next = 0) then
 (s,0,(⟨0,[],[],[],[],0,0⟩:Mail),18)
 else (lp2 ((bif decide (((gt s.rows ((r).toNat)).q.most)<=(IntKind.wrap .u64 (Jv_ ((gt s.rows ((r).toNat)).l)))) then
 lt (Ar_ ((gt s.rows ((r).toNat)).l)) λr1=>
 (bif !r1.2 then
 .ret (s,0,(⟨0,[],[],[],[],0,0⟩:Mail),12)
 else lt (Af_ ((gt s.rows ((r).toNat)).l) r1.1.id) λr2=>
 .fin (r2.1,r1.1))
 else .fin ((gt s.rows ((r).toNat)).l,(⟨0,[],[],[],[],0,0⟩:Mail)))) (λx x1=>
 (bif decide (((B0_ s)+(By_ x1))<(By_ (⟨s.next,m.Ak_,m.key,m.head,m.body,m.due,m.hops⟩:Mail))) then
 (s,0,(⟨0,[],[],[],[],0,0⟩:Mail),12)
 else lt (At_ x (⟨s.next,m.Ak_,m.key,m.head,m.body,m.due,m.hops⟩:Mail)) λr3=>
 (bif !decide (r3.2=0) then
 (s,0,(⟨0,[],[],[],[],0,0⟩:Mail),r3.2)
 else lt (W_ s r r3.1) λr4=>
 ((⟨(IntKind.wrap .u64 (r4.next + 1)),r4.bytes,r4.rows,r4.rises⟩:I_),s.next,x1,0)))) (λr=>r)))))
def Bc_ (s:I_) (name:Bs):I_×D_×Bool:=
 lt (J_ s name) λr=>
 (bif decide (r<0) then
 (s,(⟨(⟨0,[],[],[],[],0,0⟩:Mail),false,false⟩:D_),false)
 else lt (Ce_ ((gt s.rows ((r).toNat)).l)) λr1=>
 lt (W_ s r r1.1) λr2=>
 (r2,r1.2.1,r1.2.2))
def Bb_ (s:I_) (name:Bs) (id:Int):I_×Int:=
 lt (J_ s name) λr=>
 (bif decide (r<0) then
 (s,10)
 else lt (Cu_ ((gt s.rows ((r).toNat)).l) id) λr1=>
 lt (W_ s r r1.1) λr2=>
 (r2,r1.2))
def U_ (s:I_) (name:Bs) (id:Int):I_×D_×Int:=
 lt (J_ s name) λr=>
 (bif decide (r<0) then
 (s,(⟨(⟨0,[],[],[],[],0,0⟩:Mail),false,false⟩:D_),10)
 else lt (Af_ ((gt s.rows ((r).toNat)).l) id) λr1=>
 lt (W_ s r r1.1) λr2=>
 (r2,r1.2.1,r1.2.2))
def Au_ (s:I_) (place:Int) (m:Mail):I_×Int:=
 (bif ((decide (place<0))||(decide (16<=place))) then
 (s,7)
 else lt (Bg_ (A16.get s.rises ((place).toNat)) m) λr=>
 (bif !decide (r.2=0) then
 (s,r.2)
 else (bif decide (s.bytes<(((Ai_ s)-(B7_ (A16.get s.rises ((place).toNat))))+(B7_ (r.1)))) then
 (s,12)
 else ((⟨s.next,s.bytes,s.rows,(A16.set s.rises (r.1) ((place).toNat))⟩:I_),0))))
def Az_ (tick:Int):List Eu_->Bs×Mail×Bool
 |[]=>([],(⟨0,[],[],[],[],0,0⟩:Mail),false)
 |x::t=>lt (Dh_ (x.l) tick) λr=>
 (bif r.2 then
 (x.q.name,r.1,true)
 else Az_ tick t)
def Ah_ (s:I_) (tick:Int):Bs×Mail×Bool:=
 Az_ tick s.rows
def Bf_:List Eu_->Nat->I_->I_
 |[],k,x=>x
 |x1::t,k,x=>lt (Di_ (x1.l)) λr=>
 lt (W_ x (k:Int) r) λr1=>
 Bf_ t (k+1) r1
def Cs_ (s:I_):I_:=
 Bf_ s.rows 0 s
def LoP {σ ρ:Type} (I:σ->Prop) (R:ρ->Prop):Lo σ ρ->Prop
 | .fin s=>I s
 | .ret r=>R r
theorem lp0E {ρ β:Type} {P:β->Prop} {o:Lo Unit ρ} {f:β} {g:ρ->β} (I:Unit->Prop) (ho:LoP I (λr=>P (g r)) o) (hf:I ()->P f):P (lp0 o f g):=by
 cases o with
 |fin s=>exact hf ho
 |ret r=>exact ho
theorem lp1E {σ ρ β:Type} {P:β->Prop} {o:Lo σ ρ} {f:σ->β} {g:ρ->β} (I:σ->Prop) (ho:LoP I (λr=>P (g r)) o) (hf:∀ a,I a->P (f a)):P (lp1 o f g):=by
 cases o with
 |fin s=>exact hf _ ho
 |ret r=>exact ho
theorem lp2E {σ τ ρ β:Type} {P:β->Prop} {o:Lo (σ×τ) ρ} {f:σ->τ->β} {g:ρ->β} (I:σ×τ->Prop) (ho:LoP I (λr=>P (g r)) o) (hf:∀ a b,I (a,b)->P (f a b)):P (lp2 o f g):=by
 cases o with
 |fin s=>exact hf _ _ ho
 |ret r=>exact ho
def wtm (m:Mail):Nat:=33 ^ (5-m.hops.toNat)
def wtl (l:List D_):Nat:=(l.map λx=>wtm x.O_).sum
def wtk (s:I_):Nat:=(s.rows.map λr=>wtl r.l.items).sum
def wto (l:List Dv_):Nat:=(l.map λx=>wtm x.O_).sum
def wt1 (m:Mail):Nat:=bif decide (m.Ak_=[]) then 0 else wtm m
theorem sum_cut {α:Type} [Inhabited α] (f:α->Nat) (l:List α) (k:Nat) (h:k<l.length):(([l.take k,l.drop (k+1)].flatten).map f).sum+f (gt l k)=(l.map f).sum:=by
 have e:l=l.take k++(gt l k::l.drop (k+1)):=by
   conv=>lhs;rw[<- List.take_append_drop k l]
   congr 1
   rw[List.drop_eq_getElem_cons h]
   congr 1
   simp[gt,h]
 have e2:(l.map f).sum=((l.take k++(gt l k::l.drop (k+1))).map f).sum:=by rw[<- e]
 rw[e2];simp only[List.flatten_cons,List.flatten_nil,List.append_nil,List.map_append,List.map_cons,List.sum_append,List.sum_cons];omega
theorem sum_set {α:Type} [Inhabited α] (f:α->Nat):∀ (l:List α) (k:Nat) (y:α),k<l.length->((l.set k y).map f).sum+f (gt l k)=(l.map f).sum+f y
 |[],k,y,h=>by cases h
 |a::r,0,y,h=>by simp[gt];omega
 |a::r,k+1,y,h=>by
   have :=sum_set f r k y pT
   simp only[List.set_cons_succ,List.map_cons,List.sum_cons]
   have e:gt (a::r) (k+1)=gt r k:=by simp[gt]
   rw[e];omega
theorem Zv_ {l:Aq_} (h:LnOk l) {k:Nat} (hk:k<l.items.length):A2_ l (gt l.items k).O_.id=k:=by
 have h0:0<=A2_ l (gt l.items k).O_.id:=by
   refine Int.not_lt.1 λq=>?_
   have :=Ms_ q
   rw[List.find?_eq_none] at this
   exact this _ (Go_ hk) (decide_eq_true Y)
 have hb:=lof_b l (gt l.items k).O_.id;have ha:=lof_at h0;obtain⟨j,hj⟩:∃ j:Nat,A2_ l (gt l.items k).O_.id=j:=⟨_,(Int.toNat_of_nonneg h0).symm⟩;rw[hj] at ha hb ⊢;simp only[Int.toNat_natCast] at ha;have hjl:j<l.items.length:=by omega
 rcases Nat.lt_trichotomy j k with q|q|q
 have :=Sr_ h.2.2 (getG hjl) (getG hk) q;omega;rw[q];have :=Sr_ h.2.2 (getG hk) (getG hjl) q;omega
theorem Vx_ {l:Aq_} (h:(Ar_ l).2=true):∃ k:Nat,k<l.items.length/\(Ar_ l).1=(gt l.items k).O_:=by
 have hb:=Uo_ l;unfold Ar_ lt Cf_ lt at h ⊢;dsimp only at h ⊢
 cases e:decide (Bq_ l<0) with
 |true=>rw[e] at h;cases h
 |false=>
   simp only[decide_eq_false_iff_not] at e
   exact⟨(Bq_ l).toNat,by omega,rfl⟩
theorem lremove_w {l:Aq_} (h:LnOk l) {k:Nat} (hk:k<l.items.length):wtl (Af_ l (gt l.items k).O_.id).1.items+wtm (gt l.items k).O_=wtl l.items:=by
 unfold Af_ lt;dsimp only;rw[Zv_ h hk];have e:decide ((k:Int)<0)=false:=by simp
 rw[e];have :=sum_cut (λx:D_=>wtm x.O_) l.items k hk;exact this
theorem ladd_w {l:Aq_} {m:Mail} (h:(At_ l m).2=0):wtl (At_ l m).1.items=wtl l.items+wtm m:=by
 unfold At_ C7_ lt at h ⊢;dsimp only at h ⊢
 cases e:decide (Ec_ l m=0) with
 |false=>rw[e] at h;simp at h;simp[h] at e
 |true=>
   simp[wtl,B8_,lt,H_]
theorem kwith_w {s:I_} {k:Int} {l:Aq_} (hk:0<=k/\k<s.rows.length):wtk (W_ s k l)+wtl (gt s.rows k.toNat).l.items=wtk s+wtl l.items:=
 sum_set (λr:Eu_=>wtl r.l.items) s.rows k.toNat ⟨(gt s.rows k.toNat).q,l⟩ pB
theorem Vf_ {s:I_} {n:Bs} {m:Mail} (h:StkOk s) (h0:0<=m.hops):StkOk (As_ s n m).1/\MlOk (As_ s n m).2.2.1/\((As_ s n m).2.2.2=0->Eg_ m=0/\wtk (As_ s n m).1+wt1 (As_ s n m).2.2.1<=wtk s+wtm m):=by
 unfold As_ lt;let Q:I_×Int×Mail×Int->Prop:=λr=>StkOk r.1/\MlOk r.2.2.1/\(r.2.2.2=0->Eg_ m=0/\wtk r.1+wt1 r.2.2.1<=wtk s+wtm m);have hno:∀ e:Int,e≠0->Q (s,0,⟨0,[],[],[],[],0,0⟩,e):=λe he=>⟨h,I0_,λq=>(he q).elim⟩;refine bt (P:=Q) (λ_=>hno _ pC) λe=>?_;refine bt (P:=Q) (λe=>hno _ pX) λec=>?_;refine bt (P:=Q) (λ_=>hno _ pC) λ_=>?_;simp only[decide_eq_false_iff_not] at e;have ec':Eg_ m=0:=by simpa using ec
 have hb:=at_b s n;obtain⟨k,hk⟩:∃ k:Nat,J_ s n=k:=⟨_,(Int.toNat_of_nonneg pB).symm⟩;rw[hk] at hb ⊢;simp only[Int.toNat_natCast];have hl:LnOk (gt s.rows k).l:=RwsOk.at h.1 (getG pB);refine lp2E (P:=Q) (λq=>LnOk q.1/\MlOk q.2/\wtl q.1.items+wt1 q.2<=wtl (gt s.rows k).l.items) ?_ λx x1 hx=>?_;refine bt (P:=LoP _ _) (λ_=>?_) λ_=>⟨hl,I0_,by simp[wt1]⟩;refine bt (P:=LoP _ _) (λ_=>hno _ pC) λe2=>?_;obtain⟨j,hj,he⟩:=Vx_ (l:=(gt s.rows k).l) (by simpa using e2);have hw:=lremove_w hl hj;show LnOk _/\MlOk _/\_;rw[he];refine⟨(Py_ hl).1,hl.2.1 _ (Go_ hj),?_⟩;have :wt1 (gt (gt s.rows k).l.items j).O_<=wtm (gt (gt s.rows k).l.items j).O_:=by
   unfold wt1
   cases decide ((gt (gt s.rows k).l.items j).O_.Ak_=[])<;>simp
 simp only;omega;obtain⟨hx1,hx2,hx3⟩:=hx;refine bt (P:=Q) (λ_=>hno _ pC) λ_=>?_;refine bt (P:=Q) (λe3=>hno _ (by simpa using e3)) λe3=>?_;have e3':(At_ x ⟨s.next,m.Ak_,m.key,m.head,m.body,m.due,m.hops⟩).2=0:=by simpa using e3
 have ha:=ladd_w e3';have hok:=ladd_ok (l:=x) (m:=⟨s.next,m.Ak_,m.key,m.head,m.body,m.due,m.hops⟩) hx1 h0;have hw:=kwith_w (s:=s) (k:=(k:Int)) (l:=(At_ x ⟨s.next,m.Ak_,m.key,m.head,m.body,m.due,m.hops⟩).1) pB;have hs:=Rr_ (k:=(k:Int)) h hok pB;refine⟨hs,hx2,λ_=>⟨ec',?_⟩⟩;simp only[Int.toNat_natCast] at hw;show wtk (W_ s k _)+wt1 x1<=_;have he:wtm ⟨s.next,m.Ak_,m.key,m.head,m.body,m.due,m.hops⟩=wtm m:=rfl;rw[he] at ha;have hx4:wtl x.items+wt1 x1<=wtl (gt s.rows k).l.items:=hx3;rw[ha] at hw;omega
theorem klend_ok {s:I_} {n:Bs} (h:StkOk s):StkOk (Bc_ s n).1/\MlOk (Bc_ s n).2.1.O_:=by
 unfold Bc_ lt;refine bt (P:=λr:I_×D_×Bool=>StkOk r.1/\MlOk r.2.1.O_) (λ_=>⟨h,I0_⟩) λe=>?_;simp only[decide_eq_false_iff_not] at e;have hb:=at_b s n;have hl:=Zs_ (RwsOk.at h.1 (getG (xs:=s.rows) (k:=(J_ s n).toNat) pB));exact⟨Rr_ h hl.1 pB,hl.2⟩
theorem kback_ok {s:I_} {n:Bs} {id:Int} (h:StkOk s):StkOk (Bb_ s n id).1:=by
 unfold Bb_ lt;refine bt (P:=λr:I_×Int=>StkOk r.1) (λ_=>h) λe=>?_;simp only[decide_eq_false_iff_not] at e;have hb:=at_b s n;exact Rr_ h (lback_ok (RwsOk.at h.1 (getG (xs:=s.rows) (k:=(J_ s n).toNat) pB))) pB
theorem H0_ {s:I_} {n:Bs} {id:Int} (h:StkOk s):StkOk (U_ s n id).1/\MlOk (U_ s n id).2.1.O_:=by
 unfold U_ lt;refine bt (P:=λr:I_×D_×Int=>StkOk r.1/\MlOk r.2.1.O_) (λ_=>⟨h,I0_⟩) λe=>?_;simp only[decide_eq_false_iff_not] at e;have hb:=at_b s n;have hl:=Py_ (id:=id) (RwsOk.at h.1 (getG (xs:=s.rows) (k:=(J_ s n).toNat) pB));exact⟨Rr_ h hl.1 pB,hl.2⟩
theorem Rq_ {s:I_} {p:Int} {m:Mail} (h:StkOk s):StkOk (Au_ s p m).1/\(Au_ s p m).1.rows=s.rows:=by
 unfold Au_ lt;let Q:I_×Int->Prop:=λr=>StkOk r.1/\r.1.rows=s.rows;refine bt (P:=Q) (λ_=>⟨h,rfl⟩) λe=>?_;refine bt (P:=Q) (λ_=>⟨h,rfl⟩) λ_=>?_;refine bt (P:=Q) (λ_=>⟨h,rfl⟩) λ_=>?_;simp only[Bool.or_eq_false_iff,decide_eq_false_iff_not] at e;exact⟨h.set p.toNat pB (rput_ok (h.2.1 _ pB)),rfl⟩
theorem kwake_ok0:∀ (t:List Eu_) (k:Nat) (s:I_),StkOk s->(∀ r∈t,LnOk r.l)->k+t.length<=s.rows.length->StkOk (Bf_ t k s)
 |[],_,_,h,_,_=>h
 |x::t,k,s,h,hl,hk=>by
   simp only[List.length_cons] at hk
   unfold Bf_ lt
   refine kwake_ok0 t (k+1) _ (Rr_ h (lwake_ok (hl x (List.mem_cons_self ..))) pB) (λr hr=>hl r (List.mem_cons_of_mem _ hr)) ?_
   simp[W_];omega
theorem kwake_ok {s:I_} (h:StkOk s):StkOk (Cs_ s):=kwake_ok0 s.rows 0 s h h.1.2.1 pB
theorem klate_ok0 {t:Int}:∀ (l:List Eu_),(∀ r∈l,LnOk r.l)->MlOk (Az_ t l).2.1
 |[],_=>I0_
 |x::l,h=>by
   unfold Az_ lt
   refine bt (P:=λr:Bs×Mail×Bool=>MlOk r.2.1) (λ_=>llate_ok (h x (List.mem_cons_self ..))) (λ_=>klate_ok0 l λr hr=>h r (List.mem_cons_of_mem _ hr))
theorem Rp_ {s:I_} {t:Int} (h:StkOk s):MlOk (Ah_ s t).2.1:=klate_ok0 s.rows h.1.2.1
def Cc_ (so_p:R_->Bool):List R_->List R_->(List R_)
 |[],out=>out
 | x::t,out=>(bif so_p x then
 Cc_ so_p t (out++[x])
 else Cc_ so_p t out)
def Ga_ (b:Ac_) (so_p:R_->Bool):(List R_):=
 Cc_ so_p b.binds []
def Gh_ (x:R_) (x1:Bs):Bool:=
 (x.up||(!decide (x.to'=x1)))
def Cm_ (b:Ac_) (queue:Bs):Ac_:=
 lt (Ga_ b (λz_5:R_=>(Gh_ z_5 queue))) λr=>
 (⟨b.Ad_,r⟩:Ac_)
def C2_ (x:Z_) (x1:Bs):Bool:=
 (decide (x.name=x1))
def Nt_ (x:R_) (x1:Bs):Bool:=
 (!decide (x.Ak_=x1))
def Cp_ (b:Ac_) (name:Bs):Ac_×Int:=
 (bif decide ((idxP (λz_5:Z_=>(C2_ z_5 name)) b.Ad_)<0) then
 (b,10)
 else lt (Ga_ (⟨[(b.Ad_.take (idxP (λz_5:Z_=>(C2_ z_5 name)) b.Ad_).toNat),(b.Ad_.drop (((idxP (λz_5:Z_=>(C2_ z_5 name)) b.Ad_)+1)).toNat)].flatten,b.binds⟩:Ac_) (λz_18:R_=>(Nt_ z_18 name))) λr=>
 ((⟨[(b.Ad_.take (idxP (λz_5:Z_=>(C2_ z_5 name)) b.Ad_).toNat),(b.Ad_.drop (((idxP (λz_5:Z_=>(C2_ z_5 name)) b.Ad_)+1)).toNat)].flatten,r⟩:Ac_),0))
def B4_ (b:Ac_) (x:R_):Ac_×Int:=
 lt (Am_ b x) λr=>
 (bif decide (r<0) then
 (b,10)
 else ((⟨b.Ad_,[(b.binds.take (r).toNat),(b.binds.drop ((r+1)).toNat)].flatten⟩:Ac_),0))
def D4_ (p:G_) (place:Int) (x:Cb_):E_:=
 (⟨x,p,place⟩:E_)
def Cd_ (p:G_) (place:Int):E_:=
 lt (E3_ ((gt p.places ((place).toNat)).base) ((gt p.places ((place).toNat)).bytes)) λr=>
 lt (D4_ p place (⟨(⟨[],[]⟩:Ac_),r,(⟨0,[]⟩:Bx_),(⟨0,0,0,0,0,0,0,0,0,0,0,0,0,0,0,0⟩:A16_u64),(⟨(⟨0,0⟩:Ba_),(⟨0,0⟩:Ba_),(⟨0,0⟩:Ba_),(⟨0,0⟩:Ba_),(⟨0,0⟩:Ba_),(⟨0,0⟩:Ba_),(⟨0,0⟩:Ba_),(⟨0,0⟩:Ba_)⟩:A8_SpentR)⟩:Cb_)) λr1=>
 r1
def Hz_ (own:Int) (tick:Int) (life:Int):Int:=
 (bif ((decide (life=0))||(decide ((IntKind.wrap .u64 (18446744073709551615-tick))<life))) then
 own
 else (bif decide (own=0) then
 (IntKind.wrap .u64 (tick+life))
 else (min own (IntKind.wrap .u64 (tick+life)))))
def Al_ (s:E_):Cb_:=
 s.x
def A0_ (s:E_) (tick:Int) (kind:Int) (text:Bs):E_:=
 lt (Br_ s.x.notes (⟨tick,kind,text⟩:C1_)) λr=>
 (⟨(⟨s.x.book,s.x.C_,r.1,s.x.seen,s.x.spent⟩:Cb_),s.L_,s.place⟩:E_)
theorem Zl_ (p:R_->Bool):∀ (t out:List R_),Cc_ p t out=out++t.filter p
 |[],out=>by simp[Cc_]
 |x::t,out=>by
   unfold Cc_
   cases e:p x with
   |true=>simp[Zl_ p t,e]
   |false=>simp[Zl_ p t,e]
theorem Vd_ (b:Ac_) (p:R_->Bool):Ga_ b p=b.binds.filter p:=by simp[Ga_,Zl_]
theorem bk_filter {b:Ac_} (h:BkOk b) (p:R_->Bool) (l:List Z_) (hl:l.length<=8):BkOk ⟨l,b.binds.filter p⟩:=
 ⟨hl,Nat.le_trans (List.length_filter_le ..) h.2.1,λy hy=>h.2.2 y (List.mem_filter.1 hy).1⟩
theorem bforget_ok {b:Ac_} {q:Bs} (h:BkOk b):BkOk (Cm_ b q):=by
 unfold Cm_ lt;rw[Vd_];exact bk_filter h _ _ h.1
theorem bdrop_ok {b:Ac_} {n:Bs} (h:BkOk b):BkOk (Cp_ b n).1:=by
 unfold Cp_ lt;refine bt (P:=λr:Ac_×Int=>BkOk r.1) (λ_=>h) λe=>?_;simp only[decide_eq_false_iff_not] at e;dsimp only;rw[Vd_];refine bk_filter h _ _ ?_;have hs:=h.1;have hc:=(S6_ b.Ad_ (idxP (λz_5:Z_=>C2_ z_5 n) b.Ad_).toNat).length_le;have :(idxP (λz_5:Z_=>C2_ z_5 n) b.Ad_+1).toNat=(idxP (λz_5:Z_=>C2_ z_5 n) b.Ad_).toNat+1:=by omega
 rw[this];omega
theorem bunbind_ok {b:Ac_} {x:R_} (h:BkOk b):BkOk (B4_ b x).1:=by
 unfold B4_ lt;refine bt (P:=λr:Ac_×Int=>BkOk r.1) (λ_=>h) λe=>?_;simp only[decide_eq_false_iff_not] at e;have hc:=S6_ b.binds (Am_ b x).toNat;have :(Am_ b x+1).toNat=(Am_ b x).toNat+1:=by omega
 dsimp only;rw[this];exact⟨h.1,Nat.le_trans hc.length_le h.2.1,λy hy=>h.2.2 y (hc.subset hy)⟩
theorem bmake_ok {b:Ac_} {x:Z_} (h:BkOk b):BkOk (Bu_ b x).1:=by
 unfold Bu_;refine bt (P:=λr:Ac_×Int=>BkOk r.1) (λ_=>h) λ_=>?_;refine bt (P:=λr:Ac_×Int=>BkOk r.1) (λ_=>h) λ_=>?_;refine bt (P:=λr:Ac_×Int=>BkOk r.1) (λ_=>h) λ_=>?_;refine bt (P:=λr:Ac_×Int=>BkOk r.1) (λ_=>h) λe=>?_;simp only[decide_eq_false_iff_not] at e;exact⟨by simp;omega,h.2⟩
theorem bbind_ok {b:Ac_} {x:R_} (h:BkOk b) (hx:x.key.length<=1000):BkOk (A7_ b x).1:=by
 unfold A7_ lt;refine bt (P:=λr:Ac_×Int=>BkOk r.1) (λ_=>h) λ_=>?_;refine bt (P:=λr:Ac_×Int=>BkOk r.1) (λ_=>h) λ_=>?_;refine bt (P:=λr:Ac_×Int=>BkOk r.1) (λ_=>h) λ_=>?_;refine bt (P:=λr:Ac_×Int=>BkOk r.1) (λ_=>h) λ_=>?_;refine bt (P:=λr:Ac_×Int=>BkOk r.1) (λ_=>h) λ_=>?_;refine bt (P:=λr:Ac_×Int=>BkOk r.1) (λ_=>h) λe=>?_;simp only[decide_eq_false_iff_not] at e;refine⟨h.1,by simp;omega,λy hy=>?_⟩;simp at hy
 rcases hy with hy|rfl
 exact h.2.2 y hy;exact hx
theorem Jy_ {s:E_} {t k:Int} {x:Bs} (h:StOk s):StOk (A0_ s t k x)/\(A0_ s t k x).x.C_=s.x.C_:=
 ⟨⟨⟨h.1.1,h.1.2.1,Zx_ h.1.2.2.1,h.1.2.2.2⟩,h.2⟩,rfl⟩
theorem new_ok {p:G_} {k:Int} (h:PoOk p) (hk:0<=k/\k<p.places.length):StOk (Cd_ p k):=by
 have hb:=h.2.2.2.2.2.2 _ (Go_ (xs:=p.places) (k:=k.toNat) pB);refine⟨⟨⟨by simp[Cd_,lt,D4_],by simp[Cd_,lt,D4_],by simp[Cd_,lt,D4_]⟩,⟨⟨by simp[Cd_,lt,D4_,E3_],by simp[Cd_,lt,D4_,E3_],by simp[Cd_,lt,D4_,E3_]⟩,λi hi=>?_,?_,?_⟩,by simp[Cd_,lt,D4_],λi hi=>?_⟩,h,hk⟩;have :(Cd_ p k).x.C_.rises.get i=⟨0,[]⟩:=by
   unfold Cd_ lt D4_ E3_
   unfold A16.get
   repeat' split
   all_goals rfl
 rw[this];exact⟨by simp,by simp⟩;show 0<=max 0 _;omega;show max 0 (gt p.places k.toNat).bytes<=_;omega;have :(Cd_ p k).x.spent.get i=⟨0,0⟩:=by
   unfold Cd_ lt D4_ E3_
   unfold A8.get
   repeat' split
   all_goals rfl
 rw[this];simp
theorem rput_len (l:List Bs) (s:Bs):(Gt_ l s).length<=l.length+1:=by
 unfold Gt_
 cases decide (s∈l)<;>simp
theorem Pv_ (b:Ac_) (n k:Bs) (h:List Pair):∀ (t:List R_) (q p:List Bs),(Bd_ b n k h t q p).1.length<=q.length+t.length/\(Bd_ b n k h t q p).2.1.length<=p.length+t.length
 |[],q,p=>⟨by simp[Bd_],by simp[Bd_]⟩
 |x::t,q,p=>by
   unfold Bd_ lt lt1
   let Q:List Bs×List Bs×Int->Prop:=λr=>r.1.length<=q.length+(x::t).length/\r.2.1.length<=p.length+(x::t).length
   have h0:=Pv_ b n k h t q p
   have h1:=Pv_ b n k h t q (Gt_ p x.to')
   have h2:=Pv_ b n k h t (Gt_ q x.to') p
   have h3:=rput_len p x.to'
   have h4:=rput_len q x.to'
   refine bt (P:=Q) (λ_=>?_) λ_=>bt (P:=Q) (λ_=>?_) λ_=>?_
   all_goals (show _/\_;simp only[List.length_cons];omega)
theorem Rw_ {b:Ac_} (n k:Bs) (h:List Pair) (hb:BkOk b):(A8_ b n k h).1.length<=32/\(A8_ b n k h).2.1.length<=33:=by
 unfold A8_;let Q:List Bs×List Bs×Int->Prop:=λr=>r.1.length<=32/\r.2.1.length<=33;refine bt (P:=Q) (λ_=>⟨by simp,by simp⟩) λ_=>bt (P:=Q) (λ_=>⟨by simp,by simp⟩) λ_=>?_;have h0:=Pv_ b n k h b.binds [] [];have :=hb.2.1;simp only[List.length_nil] at h0;exact⟨by omega,by omega⟩
def Ao_ (s:E_) (to_:Int) (tick:Int):E_×Int:=
 lt (T_ s.L_ s.place to_) λr=>
 (bif decide (r<0) then
 (s,19)
 else (lt1 (lt (Fn_ s.L_ tick) λr1=>
 (bif !decide (((A8.get s.x.spent ((r).toNat)).round)=r1) then
 (⟨r1,0⟩:Ba_)
 else (A8.get s.x.spent ((r).toNat)))) (λx=>
 (bif decide (((gt s.L_.grants ((r).toNat)).budget)<=x.count) then
 (s,19)
 else lt (A0_ (⟨(⟨s.x.book,s.x.C_,s.x.notes,s.x.seen,(A8.set s.x.spent (⟨x.round,(x.count+1)⟩:Ba_) ((r).toNat))⟩:Cb_),s.L_,s.place⟩:E_) tick 2 ((gt s.L_.places ((to_).toNat)).name)) λr2=>
 (r2,0)))))
def Bv_ (s:E_) (d:Aa_):E_×Int:=
 (bif decide (d.kind=2) then
 lt (A4_ s.x.C_ d.queue) λr=>
 ((⟨(⟨s.x.book,r.1,s.x.notes,s.x.seen,s.x.spent⟩:Cb_),s.L_,s.place⟩:E_),r.2)
 else lt (Ax_ s.x.C_ d.name) λr1=>
 (bif decide (r1.2=0) then
 lt (Cm_ s.x.book d.name) λr2=>
 ((⟨(⟨r2,r1.1,s.x.notes,s.x.seen,s.x.spent⟩:Cb_),s.L_,s.place⟩:E_),r1.2)
 else ((⟨(⟨s.x.book,r1.1,s.x.notes,s.x.seen,s.x.spent⟩:Cb_),s.L_,s.place⟩:E_),r1.2)))
def B6_ (s:E_) (d:Aa_):E_×X_×Int:=
 lt (Ag_ s.x.C_ d.name) λr=>
 (bif !r.2 then
 (s,(⟨(⟨(⟨0,[],[],[],[],0,0⟩:Mail),false,false⟩:D_),0,0⟩:X_),10)
 else lt (Bc_ s.x.C_ d.name) λr1=>
 (bif !r1.2.2 then
 (s,(⟨(⟨(⟨0,[],[],[],[],0,0⟩:Mail),false,false⟩:D_),0,0⟩:X_),15)
 else ((⟨(⟨s.x.book,r1.1,s.x.notes,s.x.seen,s.x.spent⟩:Cb_),s.L_,s.place⟩:E_),(⟨r1.2.1,0,0⟩:X_),0)))
def Ay_ (s:E_) (d:Aa_):E_×Int:=
 (bif decide (d.kind=0) then
 (lp0 (lt (K_ s.L_ d.Ak_.to') λr=>
 (bif decide (d.Ak_.sort=4) then
 (bif decide (r<0) then
 .ret (s,10)
 else lt (T_ s.L_ s.place r) λr1=>
 (bif decide (r1<0) then
 .ret (s,11)
 else .fin ()))
 else .fin ())) (
 lt (Bu_ s.x.book d.Ak_) λr2=>
 ((⟨(⟨r2.1,s.x.C_,s.x.notes,s.x.seen,s.x.spent⟩:Cb_),s.L_,s.place⟩:E_),r2.2)) (λr=>r))
 else (bif decide (d.kind=1) then
 lt (Cp_ s.x.book d.name) λr3=>
 ((⟨(⟨r3.1,s.x.C_,s.x.notes,s.x.seen,s.x.spent⟩:Cb_),s.L_,s.place⟩:E_),r3.2)
 else (bif decide (d.kind=5) then
 lt (B4_ s.x.book d.bind) λr4=>
 ((⟨(⟨r4.1,s.x.C_,s.x.notes,s.x.seen,s.x.spent⟩:Cb_),s.L_,s.place⟩:E_),r4.2)
 else lt (Ag_ s.x.C_ d.bind.to') λr5=>
 (lp0 (lt (K_ s.L_ d.bind.to') λr6=>
 (lt1 ((bif (d.bind.up&&(decide (r6<0))) then
 (d.bind.up&&(decide (r6<0)))
 else ((!d.bind.up)&&(!r5.2)))) (λv=>
 (bif v then
 .ret (s,10)
 else (bif (d.bind.up&&(!(Bj_ s.L_ s.place r6))) then
 .ret (s,11)
 else .fin ()))))) (
 lt (A7_ s.x.book d.bind) λr7=>
 ((⟨(⟨r7.1,s.x.C_,s.x.notes,s.x.seen,s.x.spent⟩:Cb_),s.L_,s.place⟩:E_),r7.2)) (λr=>r)))))
theorem lt1E {σ β:Type} {P:β->Prop} {o:σ} {f:σ->β} (I:σ->Prop) (ho:I o) (hf:∀ a,I a->P (f a)):P (lt1 o f):=hf _ ho
theorem spend_ok {s:E_} {to' t:Int} (h:StOk s):StOk (Ao_ s to' t).1/\(Ao_ s to' t).1.x.C_=s.x.C_:=by
 unfold Ao_ lt;let Q:E_×Int->Prop:=λr=>StOk r.1/\r.1.x.C_=s.x.C_;have hn:∀ e,Q (s,e):=λe=>⟨h,rfl⟩;refine bt (P:=Q) (λ_=>hn _) λe=>?_;simp only[decide_eq_false_iff_not] at e;have hg:=Zg_ h.2.1 s.place to' pB;have hb:=grant_b s.L_ s.place to';have hl:=h.2.1.2.2.2.2.1;have hu:=h.1.2.2.2;refine lt1E (P:=Q) (λx:Ba_=>0<=x.count) ?_ λx hx=>?_;refine bt (P:=λx:Ba_=>0<=x.count) (λ_=>?_) λ_=>?_;exact Int.le_refl _;exact (hu _ pB).1
 . refine bt (P:=Q) (λ_=>hn _) λe2=>?_
   simp only[decide_eq_false_iff_not] at e2
   refine Jy_ (s:=⟨⟨s.x.book,s.x.C_,s.x.notes,s.x.seen,_⟩,s.L_,s.place⟩) ⟨⟨h.1.1,h.1.2.1,h.1.2.2.1,λi hi=>?_⟩,h.2⟩
   show 0<=((s.x.spent.set _ _).get i).count/\_
   dsimp only
   rw[A8.get_set _ _ _ _ pB hi]
   split
   exact⟨by show 0<=x.count+1;omega,by show x.count+1<=16;omega⟩
   exact hu i hi
theorem N6_ {s:E_} {b:Ac_} (h:StOk s) (hb:BkOk b):StOk ⟨⟨b,s.x.C_,s.x.notes,s.x.seen,s.x.spent⟩,s.L_,s.place⟩:=⟨⟨hb,h.1.2⟩,h.2⟩
theorem Ca_ {s:E_} {k:I_} (h:StOk s) (hk:StkOk k):StOk ⟨⟨s.x.book,k,s.x.notes,s.x.seen,s.x.spent⟩,s.L_,s.place⟩:=⟨⟨h.1.1,hk,h.1.2.2⟩,h.2⟩
theorem queues_ok {s:E_} {d:Aa_} (h:StOk s):StOk (Bv_ s d).1:=by
 unfold Bv_ lt;let Q:E_×Int->Prop:=λr=>StOk r.1;refine bt (P:=Q) (λ_=>Ca_ h (kmake_ok h.1.2.1)) λ_=>?_;refine bt (P:=Q) (λ_=>?_) λ_=>Ca_ h (kdrop_ok h.1.2.1);exact N6_ (s:=⟨⟨s.x.book,_,s.x.notes,s.x.seen,s.x.spent⟩,s.L_,s.place⟩) (Ca_ h (kdrop_ok h.1.2.1)) (bforget_ok h.1.1)
theorem lend_ok {s:E_} {d:Aa_} (h:StOk s):StOk (B6_ s d).1/\MlOk (B6_ s d).2.1.item.O_:=by
 unfold B6_ lt;let Q:E_×X_×Int->Prop:=λr=>StOk r.1/\MlOk r.2.1.item.O_;refine bt (P:=Q) (λ_=>⟨h,I0_⟩) λ_=>?_;refine bt (P:=Q) (λ_=>⟨h,I0_⟩) λ_=>?_;have :=klend_ok (n:=d.name) h.1.2.1;exact⟨Ca_ h this.1,this.2⟩
theorem shops_ok {s:E_} {d:Aa_} (h:StOk s) (hd:DdOk d):StOk (Ay_ s d).1:=by
 unfold Ay_ lt;let Q:E_×Int->Prop:=λr=>StOk r.1;have hn:∀ e,Q (s,e):=λe=>h;refine bt (P:=Q) (λ_=>?_) λ_=>?_;refine lp0E (P:=Q) (λ_=>True) ?_ λ_=>N6_ h (bmake_ok h.1.1);refine bt (P:=LoP _ _) (λ_=>?_) λ_=>trivial;exact wN;refine bt (P:=Q) (λ_=>N6_ h (bdrop_ok h.1.1)) λ_=>?_;refine bt (P:=Q) (λ_=>N6_ h (bunbind_ok h.1.1)) λ_=>?_;refine lp0E (P:=Q) (λ_=>True) ?_ λ_=>N6_ h (bbind_ok h.1.1 hd.1);refine lt1E (P:=LoP _ _) (λ_=>True) Z λv _=>?_;exact wN
end Go.SW.V
namespace Go.SW.V
open Go.SW
theorem Mo_ (n:Int):0<=IntKind.wrap .u8 n:=by
 exact sR
def A3_ (s:E_) (m:Mail) (tick:Int) (r:(List Bs)×(List Bs)×Int) (gone:List Dv_):List Bs->Int->E_->E_×(List Dv_)×Int×Int
 |[],n1,x1=>(x1,gone,n1,0)
 |x3::t,n1,x1=>lt (K_ x1.L_ x3) λr4=>
 (lp1 ((bif decide ((((D0_ s.x.book.Ad_ m.Ak_).getD Z_.zero).sort)=4) then
 lt (Ao_ x1 r4 tick) λr5=>
 (bif !decide (r5.2=0) then
 .ret (s,[],0,r5.2)
 else .fin r5.1)
 else .fin x1)) (λx2=>
 lt (Au_ x2.x.C_ r4 (⟨0,m.Ak_,m.key,m.head,m.body,m.due,m.hops⟩:Mail)) λr6=>
 (bif !decide (r6.2=0) then
 (s,[],0,r6.2)
 else A3_ s m tick r gone t (n1+1) (⟨(⟨x2.x.book,r6.1,x2.x.notes,x2.x.seen,x2.x.spent⟩:Cb_),x2.L_,x2.place⟩:E_))) (λr=>r))
def Aw_ (s:E_) (m:Mail) (tick:Int) (r:(List Bs)×(List Bs)×Int):List Bs->List Dv_->Int->E_->E_×(List Dv_)×Int×Int
 |[],gone,n,x=>A3_ s m tick r gone r.2.1 n x
 |x4::t1,gone,n,x=>lt (Ag_ x.x.C_ x4) λr1=>
 (bif !r1.2 then
 Aw_ s m tick r t1 gone n x
 else lt (Hz_ m.due tick r1.1.life) λr2=>
 lt (As_ x.x.C_ x4 (⟨0,m.Ak_,m.key,m.head,m.body,r2,m.hops⟩:Mail)) λr3=>
 (bif !decide (r3.2.2.2=0) then
 (s,[],0,r3.2.2.2)
 else (bif !decide (r3.2.2.1.Ak_=[]) then
 Aw_ s m tick r t1 (gone++[(⟨x4,r3.2.2.1⟩:Dv_)]) (n+1) (⟨(⟨x.x.book,r3.1,x.x.notes,x.x.seen,x.x.spent⟩:Cb_),x.L_,x.place⟩:E_)
 else Aw_ s m tick r t1 gone (n+1) (⟨(⟨x.x.book,r3.1,x.x.notes,x.x.seen,x.x.spent⟩:Cb_),x.L_,x.place⟩:E_))))
def P_ (s:E_) (m:Mail) (tick:Int):E_×(List Dv_)×Int×Int:=
 lt (A8_ s.x.book m.Ak_ m.key m.head) λr=>
 (bif !decide (r.2.2=0) then
 (s,[],0,r.2.2)
 else Aw_ s m tick r r.1 [] 0 s)
def T6_ (W:Nat) (r:E_×List Dv_×Int×Int):Prop:=StOk r.1/\(∀ g∈r.2.1,MlOk g.O_)/\(r.2.2.2=0->wtk r.1.x.C_+wto r.2.1<=W)
theorem Uq_ {W:Nat} {s:E_} {e:Int} (h:StOk s) (he:e≠0):T6_ W (s,[],0,e):=⟨h,(λ_ hg=>by cases hg),λq=>(he q).elim⟩
theorem send1 {s:E_} {m:Mail} {tick:Int} {r:List Bs×List Bs×Int} {gone:List Dv_} {W:Nat} (hs:StOk s) (hg:∀ g∈gone,MlOk g.O_):∀ (t:List Bs) (n:Int) (x:E_),StOk x->wtk x.x.C_+wto gone<=W->T6_ W (A3_ s m tick r gone t n x)
 |[],n,x,hx,hw=>⟨hx,hg,λ_=>hw⟩
 |q::t,n,x,hx,hw=>by
   unfold A3_ lt
   refine lp1E (P:=T6_ W) (λy:E_=>StOk y/\y.x.C_=x.x.C_) ?_ λy hy=>?_
   . refine bt (P:=LoP _ _) (λ_=>?_) λ_=>⟨hx,rfl⟩
     refine bt (P:=LoP _ _) (λe=>Uq_ hs ?_) λ_=>spend_ok hx
     simpa using e
   . have hr:=Rq_ (p:=K_ x.L_ q) (m:=⟨0,m.Ak_,m.key,m.head,m.body,m.due,m.hops⟩) hy.1.stk
     refine bt (P:=T6_ W) (λe=>Uq_ hs pX) λ_=>?_
     refine send1 hs hg t _ _ (Ca_ hy.1 hr.1) ?_
     have :wtk (Au_ y.x.C_ (K_ x.L_ q) ⟨0,m.Ak_,m.key,m.head,m.body,m.due,m.hops⟩).1=wtk x.x.C_:=by
       unfold wtk;rw[hr.2,hy.2]
     show wtk (Au_ y.x.C_ (K_ x.L_ q) ⟨0,m.Ak_,m.key,m.head,m.body,m.due,m.hops⟩).1+_<=W
     omega
theorem wto_app (a b:List Dv_):wto (a++b)=wto a+wto b:=by simp[wto]
theorem send0 {s:E_} {m:Mail} {tick:Int} {r:List Bs×List Bs×Int} (hs:StOk s) (h0:0<=m.hops):∀ (t:List Bs) (gone:List Dv_) (n:Int) (x:E_),StOk x->(∀ g∈gone,MlOk g.O_)->T6_ (wtk x.x.C_+wto gone+t.length*wtm m) (Aw_ s m tick r t gone n x)
 |[],gone,n,x,hx,hg=>by
   unfold Aw_
   exact send1 hs hg r.2.1 n x hx pF
 |q::t,gone,n,x,hx,hg=>by
   unfold Aw_ lt
   have hmono:∀ {W W':Nat} {r:E_×List Dv_×Int×Int},W<=W'->T6_ W r->T6_ W' r:=λhw h=>⟨h.1,h.2.1,λe=>Nat.le_trans (h.2.2 e) hw⟩
   have hl:(q::t).length*wtm m=t.length*wtm m+wtm m:=by rw[List.length_cons,Nat.succ_mul]
   refine bt (P:=T6_ _) (λ_=>hmono pB (send0 hs h0 t gone n x hx hg)) λ_=>?_
   generalize hd:Hz_ m.due tick (Ag_ x.x.C_ q).1.life=due
   have hp:=Vf_ (s:=x.x.C_) (n:=q) (m:=⟨0,m.Ak_,m.key,m.head,m.body,due,m.hops⟩) hx.stk h0
   dsimp only
   generalize hv:As_ x.x.C_ q ⟨0,m.Ak_,m.key,m.head,m.body,due,m.hops⟩=v at hp ⊢
   obtain⟨p1,p2,p3⟩:=hp
   have he:wtm ⟨0,m.Ak_,m.key,m.head,m.body,due,m.hops⟩=wtm m:=rfl
   rw[he] at p3
   refine bt (P:=T6_ _) (λe=>Uq_ hs pX) λe=>?_
   have hw:=(p3 pX).2
   refine bt (P:=T6_ _) (λe2=>?_) λe2=>?_
   . refine hmono ?_ (send0 hs h0 t (gone++[⟨q,v.2.2.1⟩]) (n+1) ⟨⟨x.x.book,v.1,x.x.notes,x.x.seen,x.x.spent⟩,x.L_,x.place⟩ (Ca_ hx p1) ?_)
     . rw[wto_app]
       have :wt1 v.2.2.1=wto [(⟨q,v.2.2.1⟩:Dv_)]:=by
         have :decide (v.2.2.1.Ak_=[])=false:=by simpa using e2
         simp[wt1,wto,this]
       show wtk v.1+_+_<=_
       omega
     . intro g hg'
       rcases List.mem_append.1 hg' with q|q
       . exact hg g q
       . rw[List.mem_singleton.1 q];exact p2
   . refine hmono ?_ (send0 hs h0 t gone (n+1) ⟨⟨x.x.book,v.1,x.x.notes,x.x.seen,x.x.spent⟩,x.L_,x.place⟩ (Ca_ hx p1) hg)
     show wtk v.1+_+_<=_
     omega
theorem Km_ {s:E_} {m:Mail} {tick:Int} (hs:StOk s) (h0:0<=m.hops):T6_ (wtk s.x.C_+32*wtm m) (P_ s m tick):=by
 unfold P_ lt;refine bt (P:=T6_ _) (λe=>Uq_ hs pX) λ_=>?_;have hl:=(Rw_ m.Ak_ m.key m.head hs.1.1).1;have h:=send0 (tick:=tick) (r:=A8_ s.x.book m.Ak_ m.key m.head) hs h0 (A8_ s.x.book m.Ak_ m.key m.head).1 [] 0 s hs (λ_ hg=>by cases hg)
 refine⟨h.1,h.2.1,λe=>Nat.le_trans (h.2.2 e) ?_⟩;have :=Nat.mul_le_mul_right (wtm m) hl;simp only[wto,List.map_nil,List.sum_nil];omega
theorem send1_len {s:E_} {m:Mail} {tick:Int} {r:List Bs×List Bs×Int} {gone:List Dv_} {k:Nat} (hk:gone.length<=k):∀ (t:List Bs) (n:Int) (x:E_),(A3_ s m tick r gone t n x).2.1.length<=k
 |[],n,x=>hk
 |q::t,n,x=>by
   unfold A3_ lt
   let Q:E_×List Dv_×Int×Int->Prop:=λr=>r.2.1.length<=k
   refine lp1E (P:=Q) (λ_=>True) ?_ λy _=>?_
   . refine bt (P:=LoP _ _) (λ_=>?_) λ_=>trivial
     exact bt (P:=LoP _ _) (λ_=>Nat.zero_le _) λ_=>trivial
   . exact bt (P:=Q) (λ_=>Nat.zero_le _) λ_=>send1_len hk t _ _
theorem Sv_ {s:E_} {m:Mail} {tick:Int} {r:List Bs×List Bs×Int} {k:Nat}:∀ (t:List Bs) (gone:List Dv_) (n:Int) (x:E_),gone.length+t.length<=k->(Aw_ s m tick r t gone n x).2.1.length<=k
 |[],gone,n,x,hk=>by
   unfold Aw_
   exact send1_len (by simpa using hk) _ _ _
 |q::t,gone,n,x,hk=>by
   simp only[List.length_cons] at hk
   unfold Aw_ lt
   let Q:E_×List Dv_×Int×Int->Prop:=λr=>r.2.1.length<=k
   refine bt (P:=Q) (λ_=>Sv_ t _ _ _ pB) λ_=>?_
   refine bt (P:=Q) (λ_=>Nat.zero_le _) λ_=>?_
   exact bt (P:=Q) (λ_=>Sv_ t _ _ _ pO) λ_=>Sv_ t _ _ _ pB
theorem Ls_ {s:E_} {m:Mail} {tick:Int} (hs:StOk s):(P_ s m tick).2.1.length<=32:=by
 unfold P_ lt;let Q:E_×List Dv_×Int×Int->Prop:=λr=>r.2.1.length<=32;refine bt (P:=Q) (λ_=>Nat.zero_le _) λ_=>?_;have hl:=(Rw_ m.Ak_ m.key m.head hs.1.1).1;exact Sv_ _ _ _ _ pW
theorem wtm_r (m:Mail):1<=wtm m/\wtm m<=39135393:=by
 unfold wtm;refine⟨Nat.one_le_pow _ _ pC,?_⟩;have :33 ^ (5-m.hops.toNat)<=33 ^ 5:=Nat.pow_le_pow_right pC pB;exact rC
theorem wto_r:∀ l:List Dv_,l.length<=wto l/\wto l<=39135393*l.length
 |[]=>⟨Nat.zero_le _,by simp[wto]⟩
 |x::l=>by
   have h:=wto_r l
   have hx:=wtm_r x.O_
   simp only[wto,List.map_cons,List.sum_cons,List.length_cons] at h ⊢
   omega
theorem wtl_r:∀ l:List D_,wtl l<=39135393*l.length
 |[]=>by simp[wtl]
 |x::l=>by
   have h:=wtl_r l
   have hx:=wtm_r x.O_
   simp only[wtl,List.map_cons,List.sum_cons,List.length_cons] at h ⊢
   omega
theorem wtr_r:∀ l:List Eu_,(∀ r∈l,LnOk r.l)->(l.map λr=>wtl r.l.items).sum<=2504665152*l.length
 |[],_=>by simp
 |x::l,h=>by
   have h1:=wtr_r l λr hr=>h r (List.mem_cons_of_mem _ hr)
   have h2:=wtl_r x.l.items
   exact wA
theorem wtk_r {s:I_} (h:StkOk s):wtk s<=20037321216:=by
 have h1:=wtr_r s.rows h.1.2.1;have h2:=h.1.1;unfold wtk;omega
theorem Ut_ {l:List Dv_} (h:0<l.length):wto (l.drop 1)+wtm (gt l 0).O_=wto l:=by
 cases l with
 |nil=>cases h
 |cons a r=>simp[wto,gt];omega
def T5_ (gone:List Dv_) (lost:Int) (x:E_):Prop:=StOk x/\(∀ g∈gone,MlOk g.O_)/\0<=lost/\lost+((wtk x.x.C_+wto gone:Nat):Int)<=50000000000
theorem buryI0 {gone:List Dv_} {x:E_} (h:StOk x) (hg:gone.length<=600/\∀ g∈gone,MlOk g.O_):T5_ gone 0 x:=by
 have h1:=wtk_r h.stk;have h2:=(wto_r gone).2;refine⟨h,hg.2,Int.le_refl _,?_⟩;have :=hg.1;omega
section
variable {gone more:List Dv_} {lost:Int} {x y:E_} {f:Nat} {m:Mail} {e:Int}
theorem Ts_ (hn:0<gone.length) (h:wtk x.x.C_+wto gone<f+1):wtk x.x.C_+wto (gone.drop 1)<f:=by
 have :=Ut_ hn;have :=(wtm_r (gt gone 0).O_).1;omega
theorem Qm_ (h:T5_ gone lost x) (hn:0<gone.length):T5_ (gone.drop 1) lost x:=by
 have h1:=Ut_ hn;exact⟨h.1,λg hg=>h.2.1 g (List.mem_of_mem_drop hg),h.2.2.1,by have :=h.2.2.2;omega⟩
theorem Xo_ (hs:y.x.C_=x.x.C_) (hn:0<gone.length) (h:wtk x.x.C_+wto gone<f+1):wtk y.x.C_+wto (gone.drop 1)<f:=by
 rw[hs];exact Ts_ hn h
theorem S4_ (h:T5_ gone lost x) (hy:StOk y) (hs:y.x.C_=x.x.C_) (hn:0<gone.length):T5_ (gone.drop 1) (lost+1) y:=by
 have h1:=Ut_ hn;have h2:=(wtm_r (gt gone 0).O_).1;have h3:=h.2.2.2;exact⟨hy,λg hg=>h.2.1 g (List.mem_of_mem_drop hg),by have :=h.2.2.1;omega,by rw[hs];omega⟩
theorem bury_w {r:Mail} (hr:r=H_ (gt gone 0).O_) (hm:MlOk (gt gone 0).O_) (h4:¬4<IntKind.wrap .u8 (r.hops+1)) (hmm:m.hops=IntKind.wrap .u8 (r.hops+1)):33*wtm m=wtm (gt gone 0).O_:=by
 subst hr;have h1:=hm.2.1;have h2:=hm.2.2.1;have hw:IntKind.wrap .u8 ((gt gone 0).O_.hops+1)=(gt gone 0).O_.hops+1:=by
   exact sR
 simp only[H_] at h4 hmm;rw[hw] at h4 hmm;unfold wtm;rw[hmm];have :5-(gt gone 0).O_.hops.toNat=(5-((gt gone 0).O_.hops+1).toNat)+1:=by omega
 rw[this,Nat.pow_succ,Nat.mul_comm]
theorem Uv_ {r:Mail} (hn:0<gone.length) (h:wtk x.x.C_+wto gone<f+1) (hr:r=H_ (gt gone 0).O_) (hm:MlOk (gt gone 0).O_) (h4:¬4<IntKind.wrap .u8 (r.hops+1)) (hw:e=0->wtk y.x.C_+wto more<=wtk x.x.C_+32*wtm m) (hmm:m.hops=IntKind.wrap .u8 (r.hops+1)) (he:e=0):wtk y.x.C_+wto ((gone++more).drop 1)<f:=by
 have h1:=Ut_ hn;have h2:=bury_w (m:=m) hr hm h4 hmm;have h3:=hw he;have h5:(gone++more).drop 1=gone.drop 1++more:=by cases gone with
   |nil=>cases hn
   |cons a r=>simp
 have h6:=(wtm_r m).1;rw[h5,wto_app];omega
theorem S5_ {r:Mail} (h:T5_ gone lost x) (hy:StOk y) (hg:∀ g∈more,MlOk g.O_) (hn:0<gone.length) (hr:r=H_ (gt gone 0).O_) (hm:MlOk (gt gone 0).O_) (h4:¬4<IntKind.wrap .u8 (r.hops+1)) (hw:e=0->wtk y.x.C_+wto more<=wtk x.x.C_+32*wtm m) (hmm:m.hops=IntKind.wrap .u8 (r.hops+1)) (he:e=0):T5_ ((gone++more).drop 1) lost y:=by
 have h1:=Uv_ (f:=wtk x.x.C_+wto gone) hn pB hr hm h4 hw hmm he;refine⟨hy,λg hg'=>?_,h.2.2.1,by have :=h.2.2.2;omega⟩
 rcases List.mem_append.1 (List.mem_of_mem_drop hg') with q|q
 exact h.2.1 g q;exact hg g q
theorem app_fit (h:T5_ gone lost x) (hw:e=0->wtk y.x.C_+wto more<=wtk x.x.C_+32*wtm m) (he:e=0):gone.length+more.length<=200000000000:=by
 have h1:=(wto_r gone).1;have h2:=(wto_r more).1;have h3:=(wtm_r m).2;have h4:=hw he;have h5:=h.2.2.2;have h6:=h.2.2.1;omega
end
def nik (s:I_):Nat:=(s.rows.map λr=>r.l.items.length).sum
theorem at_self {s:I_} (h:StkOk s) {k:Nat} (hk:k<s.rows.length):J_ s (gt s.rows k).q.name=k:=by
 have h0:0<=J_ s (gt s.rows k).q.name:=Int.not_lt.1 λq=>at_neg q _ (Go_ hk) Y;have hb:=at_b s (gt s.rows k).q.name;have ha:=at_n h0;obtain⟨j,hj⟩:∃ j:Nat,J_ s (gt s.rows k).q.name=j:=⟨_,(Int.toNat_of_nonneg h0).symm⟩;rw[hj] at ha hb ⊢;simp only[Int.toNat_natCast] at ha;have hjl:j<s.rows.length:=by omega
 have hnd:∀ i q:Nat,(hi:i<s.rows.length)->(hq:q<s.rows.length)->i<q->(gt s.rows i).q.name≠(gt s.rows q).q.name:=λi q hi hq hiq=>by
   have h1:=List.pairwise_iff_getElem.1 h.1.2.2 i q (by simpa using hi) oL hiq
   rw[List.getElem_map,List.getElem_map] at h1
   have e1:gt s.rows i=s.rows[i]:=by simp[gt,hi]
   have e2:gt s.rows q=s.rows[q]:=by simp[gt,hq]
   rw[e1,e2];exact h1
 rcases Nat.lt_trichotomy j k with q|q|q
 exact absurd ha (hnd j k hjl hk q);rw[q];exact absurd ha.symm (hnd k j hk hjl q)
theorem klate_at0 {t:Int}:∀ (l:List Eu_),(Az_ t l).2.2=true->∃ k j,k<l.length/\j<(gt l k).l.items.length/\(Az_ t l).1=(gt l k).q.name/\(Az_ t l).2.1=(gt (gt l k).l.items j).O_
 |[],h=>by cases h
 |x::l,h=>by
   unfold Az_ lt at h ⊢
   dsimp only at h ⊢
   cases e:(Dh_ x.l t).2 with
   |true=>
     have hb:=llate_b x.l t
     have hl:∃ j:Nat,j<x.l.items.length/\(Dh_ x.l t).1=(gt x.l.items j).O_:=by
       unfold Dh_ lt Cf_ lt at e ⊢
       dsimp only at e ⊢
       cases e1:decide (Ed_ x.l t<0) with
       |true=>rw[e1] at e;cases e
       |false=>
         simp only[decide_eq_false_iff_not] at e1
         exact⟨(Ed_ x.l t).toNat,by omega,rfl⟩
     obtain⟨j,hj,he⟩:=hl
     exact⟨0,j,by simp,hj,rfl,he⟩
   |false=>
     rw[e] at h
     obtain⟨k,j,h1,h2,h3,h4⟩:=klate_at0 l h
     have hg:gt (x::l) (k+1)=gt l k:=by simp[gt]
     exact⟨k+1,j,by simpa using h1,by rw[hg];exact h2,by rw[hg];exact h3,by rw[hg];exact h4⟩
theorem late_n {s:I_} {t:Int} (h:StkOk s) (hl:(Ah_ s t).2.2=true):nik (U_ s (Ah_ s t).1 (Ah_ s t).2.1.id).1+1=nik s:=by
 obtain⟨k,j,h1,h2,h3,h4⟩:=klate_at0 s.rows hl;have h3':(Ah_ s t).1=_:=h3;have h4':(Ah_ s t).2.1=_:=h4;rw[h3',h4'];unfold U_ lt;rw[at_self h h1];have hk:decide ((k:Int)<0)=false:=by simp
 have hln:=RwsOk.at h.1 (getG h1);have hrm:(Af_ (gt s.rows k).l (gt (gt s.rows k).l.items j).O_.id).1.items.length+1=(gt s.rows k).l.items.length:=by
   unfold Af_ lt
   rw[Zv_ hln h2]
   dsimp only
   have hj:decide ((j:Int)<0)=false:=by simp
   rw[hj]
   simp only[cond_false,List.flatten_cons,List.flatten_nil,List.append_nil,List.length_append,List.length_take,List.length_drop]
   omega
 have hs:=sum_set (λr:Eu_=>r.l.items.length) s.rows k ⟨(gt s.rows k).q,(Af_ (gt s.rows k).l (gt (gt s.rows k).l.items j).O_.id).1⟩ h1;dsimp only at hs ⊢;rw[hk];unfold nik;simp only[cond_false,Int.toNat_natCast,W_];omega
theorem nik_r0:∀ l:List Eu_,(∀ r∈l,LnOk r.l)->(l.map λr=>r.l.items.length).sum<=64*l.length
 |[],_=>by simp
 |x::l,h=>by
   have h1:=nik_r0 l λr hr=>h r (List.mem_cons_of_mem _ hr)
   exact wA
theorem nik_r {s:I_} (h:StkOk s):nik s<=512:=by
 have h1:=nik_r0 s.rows h.1.2.1;have h2:=h.1.1;unfold nik;omega
theorem Dk_ {s:E_} {a:A16_u64} (h:StOk s):StOk ⟨⟨s.x.book,s.x.C_,s.x.notes,a,s.x.spent⟩,s.L_,s.place⟩:=h
theorem copy_f (m:Mail):(H_ m).head.length=m.head.length/\(H_ m).key.length=m.key.length/\(H_ m).hops=m.hops:=⟨rfl,rfl,rfl⟩
theorem st_nts {s:E_} (h:StOk s):s.x.notes.kept.length<=1000:=Nat.le_trans h.1.2.2.1 pC
theorem Vw_ {k:I_} {t:Int} {r:Bs×Mail×Bool} {r1:I_×D_×Int} {f:Nat} (h:StkOk k) (hr:Ah_ k t=r) (h2:r.2.2=true) (hr1:U_ k r.1 r.2.1.id=r1) (hf:nik k<f+1):nik r1.1<f:=by
 subst hr;subst hr1;have :=late_n h h2;omega
theorem Vv_ {k:I_} {t:Int} {r:Bs×Mail×Bool} {r1:I_×D_×Int} {gone:List Dv_} {g:Dv_} (h:StkOk k) (hr:Ah_ k t=r) (h2:r.2.2=true) (hr1:U_ k r.1 r.2.1.id=r1) (hf:gone.length+nik k<=512):(gone++[g]).length+nik r1.1<=512:=by
 subst hr;subst hr1;have :=late_n h h2;simp only[List.length_append,List.length_cons,List.length_nil];omega
def Bk_ (tick:Int):Nat->List Dv_->Int->E_->E_×Int
 |0,_,_,_=>default
 | f2+1,gone1,lost,x=>(bif decide (0<(gone1.length:Int)) then
 lt (Ag_ x.x.C_ ((gt gone1 0).queue)) λr=>
 (bif decide (((r.1).dead)=[]) then
 Bk_ tick f2 (gone1.drop 1) lost x
 else lt (H_ ((gt gone1 0).O_)) λr1=>
 lt (P_ x (⟨r1.id,(r.1).dead,r1.key,r1.head,r1.body,0,(IntKind.wrap .u8 (r1.hops+1))⟩:Mail) tick) λr2=>
 (bif ((decide (4<(IntKind.wrap .u8 (r1.hops+1))))||(!decide (r2.2.2.2=0))) then
 lt (A0_ x tick 1 ((gt gone1 0).queue)) λr3=>
 Bk_ tick f2 (gone1.drop 1) (lost+1) r3
 else Bk_ tick f2 ((gone1++r2.2.1).drop 1) lost r2.1))
 else (x,lost))
def A9_ (s:E_) (gone:List Dv_) (tick:Int):E_×Int:=
 Bk_ tick (wtk s.x.C_+wto gone+1) gone 0 s
def Bh_ (s:E_) (d:Aa_):E_×X_×Int:=
 lt (Bb_ s.x.C_ d.name d.id) λr=>
 (bif !decide (r.2=0) then
 (s,(⟨(⟨(⟨0,[],[],[],[],0,0⟩:Mail),false,false⟩:D_),0,0⟩:X_),r.2)
 else (bif decide (d.how=2) then
 ((⟨(⟨s.x.book,r.1,s.x.notes,s.x.seen,s.x.spent⟩:Cb_),s.L_,s.place⟩:E_),(⟨(⟨(⟨0,[],[],[],[],0,0⟩:Mail),false,false⟩:D_),0,0⟩:X_),0)
 else lt (U_ s.x.C_ d.name d.id) λr1=>
 (bif decide (d.how=1) then
 (((A9_ (⟨(⟨s.x.book,r1.1,s.x.notes,s.x.seen,s.x.spent⟩:Cb_),s.L_,s.place⟩:E_) [(⟨d.name,r1.2.1.O_⟩:Dv_)] d.tick).1),(⟨(⟨(⟨0,[],[],[],[],0,0⟩:Mail),false,false⟩:D_),0,(A9_ (⟨(⟨s.x.book,r1.1,s.x.notes,s.x.seen,s.x.spent⟩:Cb_),s.L_,s.place⟩:E_) [(⟨d.name,r1.2.1.O_⟩:Dv_)] d.tick).2⟩:X_),0)
 else ((⟨(⟨s.x.book,r1.1,s.x.notes,s.x.seen,s.x.spent⟩:Cb_),s.L_,s.place⟩:E_),(⟨(⟨(⟨0,[],[],[],[],0,0⟩:Mail),false,false⟩:D_),0,0⟩:X_),0))))
def Cq_ (tick:Int):Nat->List Dv_->E_->E_×X_
 |0,_,_=>default
 |f2+1,gone,x=>lt (Ah_ x.x.C_ tick) λr=>
 (bif !r.2.2 then
 (((A9_ x gone tick).1),(⟨(⟨(⟨0,[],[],[],[],0,0⟩:Mail),false,false⟩:D_),(gone.length:Int),(A9_ x gone tick).2⟩:X_))
 else lt (U_ x.x.C_ r.1 r.2.1.id) λr1=>
 Cq_ tick f2 (gone++[(⟨r.1,r.2.1⟩:Dv_)]) (⟨(⟨x.x.book,r1.1,x.x.notes,x.x.seen,x.x.spent⟩:Cb_),x.L_,x.place⟩:E_))
def Dz_ (s:E_) (tick:Int):E_×X_:=
 Cq_ tick (nik s.x.C_+1) [] s
def Bp_ (s:E_) (d:Aa_):E_×X_×Int:=
 (bif decide ((s.L_.places.length:Int)<=d.frm) then
 (s,(⟨(⟨(⟨0,[],[],[],[],0,0⟩:Mail),false,false⟩:D_),0,0⟩:X_),10)
 else (bif ((!(Bj_ s.L_ d.frm s.place))&&(decide ((T_ s.L_ d.frm s.place)<0))) then
 (s,(⟨(⟨(⟨0,[],[],[],[],0,0⟩:Mail),false,false⟩:D_),0,0⟩:X_),11)
 else (bif decide (d.number<=(A16.get s.x.seen ((d.frm).toNat))) then
 (s,(⟨(⟨(⟨0,[],[],[],[],0,0⟩:Mail),false,false⟩:D_),0,0⟩:X_),13)
 else (lt1 ((bif !(Bj_ s.L_ d.frm s.place) then
 lt (A0_ (⟨(⟨s.x.book,s.x.C_,s.x.notes,(A16.set s.x.seen d.number ((d.frm).toNat)),s.x.spent⟩:Cb_),s.L_,s.place⟩:E_) d.tick 2 ((gt s.L_.places ((d.frm).toNat)).name)) λr=>
 r
 else (⟨(⟨s.x.book,s.x.C_,s.x.notes,(A16.set s.x.seen d.number ((d.frm).toNat)),s.x.spent⟩:Cb_),s.L_,s.place⟩:E_))) (λx=>
 lt (H_ d.O_) λr1=>
 lt (P_ x (⟨r1.id,r1.Ak_,r1.key,r1.head,r1.body,r1.due,(IntKind.wrap .u8 (r1.hops+1))⟩:Mail) d.tick) λr2=>
 (bif ((decide (4<(IntKind.wrap .u8 (r1.hops+1))))||(!decide (r2.2.2.2=0))) then
 lt (A0_ x d.tick 1 r1.Ak_) λr3=>
 (r3,(⟨(⟨(⟨0,[],[],[],[],0,0⟩:Mail),false,false⟩:D_),0,1⟩:X_),0)
 else (((A9_ r2.1 r2.2.1 d.tick).1),(⟨(⟨(⟨0,[],[],[],[],0,0⟩:Mail),false,false⟩:D_),r2.2.2.1,(A9_ r2.1 r2.2.1 d.tick).2⟩:X_),0)))))))
def Cr_ (s:E_) (d:Aa_):E_×X_×Int:=
 lt (H_ d.O_) λr=>
 lt (P_ s r d.tick) λr1=>
 (bif !decide (r1.2.2.2=0) then
 (s,(⟨(⟨(⟨0,[],[],[],[],0,0⟩:Mail),false,false⟩:D_),0,0⟩:X_),r1.2.2.2)
 else (((A9_ (r1.1) r1.2.1 d.tick).1),(⟨(⟨(⟨0,[],[],[],[],0,0⟩:Mail),false,false⟩:D_),r1.2.2.1,(A9_ (r1.1) r1.2.1 d.tick).2⟩:X_),0))
def Ap_ (s:E_) (d:Aa_):E_×X_×Int:=
 (bif !decide ((De_ d)=0) then
 (s,(⟨(⟨(⟨0,[],[],[],[],0,0⟩:Mail),false,false⟩:D_),0,0⟩:X_),De_ d)
 else (lt3 ((lt1 ((bif decide (d.kind=2) then
 (decide (d.kind=2))
 else (decide (d.kind=3)))) (λv=>
 (bif v then
 lt (Bv_ s d) λr=>
 (r.2,r.1,(⟨(⟨(⟨0,[],[],[],[],0,0⟩:Mail),false,false⟩:D_),0,0⟩:X_))
 else (bif decide (d.kind=6) then
 lt (Cr_ s d) λr1=>
 (r1.2.2,r1.1,r1.2.1)
 else (bif decide (d.kind=7) then
 lt (B6_ s d) λr2=>
 (r2.2.2,r2.1,r2.2.1)
 else (bif decide (d.kind=8) then
 lt (Bh_ s d) λr3=>
 (r3.2.2,r3.1,r3.2.1)
 else (bif decide (d.kind=9) then
 lt (Dz_ s d.tick) λr4=>
 (0,r4.1,r4.2)
 else (bif decide (d.kind=10) then
 lt (Bp_ s d) λr5=>
 (r5.2.2,r5.1,r5.2.1)
 else (bif decide (d.kind=11) then
 lt (Cs_ s.x.C_) λr6=>
 lt (A0_ (⟨(⟨s.x.book,r6,s.x.notes,s.x.seen,s.x.spent⟩:Cb_),s.L_,s.place⟩:E_) d.tick 3 []) λr7=>
 (0,r7,(⟨(⟨(⟨0,[],[],[],[],0,0⟩:Mail),false,false⟩:D_),0,0⟩:X_))
 else (bif decide (d.kind=12) then
 lt (Br_ s.x.notes (⟨d.tick,d.code,d.text⟩:C1_)) λr8=>
 (r8.2,(⟨(⟨s.x.book,s.x.C_,r8.1,s.x.seen,s.x.spent⟩:Cb_),s.L_,s.place⟩:E_),(⟨(⟨(⟨0,[],[],[],[],0,0⟩:Mail),false,false⟩:D_),0,0⟩:X_))
 else lt (Ay_ s d) λr9=>
 (r9.2,r9.1,(⟨(⟨(⟨0,[],[],[],[],0,0⟩:Mail),false,false⟩:D_),0,0⟩:X_))))))))))))) (λe_1 x x1=>
 (bif !decide (e_1=0) then
 (s,(⟨(⟨(⟨0,[],[],[],[],0,0⟩:Mail),false,false⟩:D_),0,0⟩:X_),e_1)
 else (x,x1,0)))))
theorem Uh_ (tick:Int):∀ (f:Nat) (gone:List Dv_) (lost:Int) (x:E_),T5_ gone lost x->wtk x.x.C_+wto gone<f->StOk (Bk_ tick f gone lost x).1
 |0,_,_,_,_,h=>by omega
 |f+1,gone,lost,x,hI,hf=>by
   unfold Bk_ lt
   let Q:E_×Int->Prop:=λr=>StOk r.1
   refine bt (P:=Q) (λe=>?_) λ_=>hI.1
   have hn:0<gone.length:=by simpa using e
   refine bt (P:=Q) (λ_=>Uh_ tick f _ _ _ (Qm_ hI hn) (Ts_ hn hf)) λ_=>?_
   have hm:MlOk (gt gone 0).O_:=hI.2.1 _ (Go_ hn)
   refine bt (P:=Q) (λ_=>?_) λe4=>?_
   . have h:=Jy_ (s:=x) (t:=tick) (k:=1) (x:=(gt gone 0).queue) hI.1
     exact Uh_ tick f _ _ _ (S4_ hI h.1 h.2 hn) (Xo_ h.2 hn hf)
   . simp only[Bool.or_eq_false_iff,decide_eq_false_iff_not,Bool.not_eq_false',decide_eq_true_eq] at e4
     have hs:=Km_ (s:=x) (m:=⟨(H_ (gt gone 0).O_).id,(Ag_ x.x.C_ (gt gone 0).queue).1.dead,(H_ (gt gone 0).O_).key,(H_ (gt gone 0).O_).head,(H_ (gt gone 0).O_).body,0,IntKind.wrap .u8 ((H_ (gt gone 0).O_).hops+1)⟩) (tick:=tick) hI.1 (Mo_ _)
     exact Uh_ tick f _ _ _ (S5_ hI hs.1 hs.2.1 hn Y hm e4.1 hs.2.2 Y e4.2) (Uv_ hn hf Y hm e4.1 hs.2.2 Y e4.2)
theorem Yu_ {s:E_} {gone:List Dv_} {tick:Int} (h:StOk s) (hg:gone.length<=600/\∀ g∈gone,MlOk g.O_):StOk (A9_ s gone tick).1:=
 Uh_ tick _ gone 0 s (buryI0 h hg) (Nat.lt_succ_self _)
theorem settle_ok {s:E_} {d:Aa_} (h:StOk s):StOk (Bh_ s d).1:=by
 unfold Bh_ lt;let Q:E_×X_×Int->Prop:=λr=>StOk r.1;refine bt (P:=Q) (λ_=>h) λ_=>?_;refine bt (P:=Q) (λ_=>Ca_ h (kback_ok h.stk)) λ_=>?_;have hr:=H0_ (n:=d.name) (id:=d.id) h.stk;refine bt (P:=Q) (λ_=>Yu_ (Ca_ h hr.1) ⟨by simp,λg hg=>?_⟩) λ_=>Ca_ h hr.1;rw[List.mem_singleton.1 hg];exact hr.2
theorem late_ok0 (t:Int):∀ (f:Nat) (gone:List Dv_) (x:E_),StOk x->(∀ g∈gone,MlOk g.O_)->gone.length+nik x.x.C_<=512->nik x.x.C_<f->StOk (Cq_ t f gone x).1
 |0,_,_,_,_,_,h=>by omega
 |f+1,gone,x,h,hg,hl,hf=>by
   unfold Cq_ lt
   let Q:E_×X_->Prop:=λr=>StOk r.1
   refine bt (P:=Q) (λ_=>Yu_ h ⟨by omega,hg⟩) λe=>?_
   have e':(Ah_ x.x.C_ t).2.2=true:=by simpa using e
   have hr:=H0_ (n:=(Ah_ x.x.C_ t).1) (id:=(Ah_ x.x.C_ t).2.1.id) h.stk
   refine late_ok0 t f _ _ (Ca_ h hr.1) (λg q=>?_) (Vv_ h.stk Y e' Y hl) (Vw_ h.stk Y e' Y hf)
   rcases List.mem_append.1 q with q|q
   . exact hg g q
   . rw[List.mem_singleton.1 q];exact Rp_ h.stk
theorem late_ok {s:E_} {t:Int} (h:StOk s):StOk (Dz_ s t).1:=
 late_ok0 t _ [] s h (λ_ h=>by cases h) nR (Nat.lt_succ_self _)
theorem put_ok {s:E_} {d:Aa_} (h:StOk s) (hd:DdOk d) (h0:0<=d.O_.hops):StOk (Cr_ s d).1:=by
 unfold Cr_ lt;let Q:E_×X_×Int->Prop:=λr=>StOk r.1;have hs:=Km_ (s:=s) (m:=H_ d.O_) (tick:=d.tick) h h0;have hl:=Ls_ (s:=s) (m:=H_ d.O_) (tick:=d.tick) h;exact bt (P:=Q) (λ_=>h) λ_=>Yu_ hs.1 ⟨by omega,hs.2.1⟩
theorem pull_ok {s:E_} {d:Aa_} (h:StOk s) (hd:DdOk d):StOk (Bp_ s d).1:=by
 unfold Bp_ lt;let Q:E_×X_×Int->Prop:=λr=>StOk r.1;refine bt (P:=Q) (λ_=>h) λ_=>?_;refine bt (P:=Q) (λ_=>h) λ_=>?_;refine bt (P:=Q) (λ_=>h) λ_=>?_;refine lt1E (P:=Q) StOk ?_ λx hx=>?_;exact bt (P:=StOk) (λ_=>(Jy_ (Dk_ h)).1) λ_=>Dk_ h;refine bt (P:=Q) (λ_=>(Jy_ hx).1) λ_=>?_;have hs:=Km_ (s:=x) (m:=⟨(H_ d.O_).id,(H_ d.O_).Ak_,(H_ d.O_).key,(H_ d.O_).head,(H_ d.O_).body,(H_ d.O_).due,IntKind.wrap .u8 ((H_ d.O_).hops+1)⟩) (tick:=d.tick) hx (Mo_ _);have hl:=Ls_ (s:=x) (m:=⟨(H_ d.O_).id,(H_ d.O_).Ak_,(H_ d.O_).key,(H_ d.O_).head,(H_ d.O_).body,(H_ d.O_).due,IntKind.wrap .u8 ((H_ d.O_).hops+1)⟩) (tick:=d.tick) hx;exact Yu_ hs.1 ⟨by omega,hs.2.1⟩
theorem lt3E {σ τ ρ β:Type} {P:β->Prop} {o:σ×τ×ρ} {f:σ->τ->ρ->β} (I:σ×τ×ρ->Prop) (ho:I o) (hf:∀ a b c,I (a,b,c)->P (f a b c)):P (lt3 o f):=hf _ _ _ ho
theorem do_ok {s:E_} {d:Aa_} (h:StOk s) (hd:DdOk d) (h0:0<=d.O_.hops):StOk (Ap_ s d).1:=by
 unfold Ap_ lt;let Q:E_×X_×Int->Prop:=λr=>StOk r.1;refine bt (P:=Q) (λ_=>h) λ_=>?_;let I:Int×E_×X_->Prop:=λr=>StOk r.2.1;refine lt3E (P:=Q) I ?_ λa b c hb=>bt (P:=Q) (λ_=>h) λ_=>hb;refine lt1E (P:=I) (λ_=>True) Z λv _=>?_;refine bt (P:=I) (λ_=>queues_ok h) λ_=>?_;refine bt (P:=I) (λ_=>put_ok h hd h0) λ_=>?_;refine bt (P:=I) (λ_=>(lend_ok h).1) λ_=>?_;refine bt (P:=I) (λ_=>settle_ok h) λ_=>?_;refine bt (P:=I) (λ_=>late_ok h) λ_=>?_;refine bt (P:=I) (λ_=>pull_ok h hd) λ_=>?_;refine bt (P:=I) (λ_=>(Jy_ (Ca_ h (kwake_ok h.stk))).1) λ_=>?_;refine bt (P:=I) (λ_=>⟨⟨h.1.1,h.1.2.1,Zx_ h.1.2.2.1,h.1.2.2.2⟩,h.2⟩) λ_=>?_;exact shops_ok h hd
instance {σ ρ:Type} [Inhabited ρ]:Inhabited (Lo σ ρ):=⟨.ret default⟩
theorem has_fd (a:C5_) (i:Int) (h:0<=a.Q0_):0<=a.Q0_.fdiv (2 ^ min i.toNat IntKind.u32.bits):=
 Int.fdiv_nonneg h (Int.le_of_lt (Int.pow_pos pC))
theorem poOk_l {p:G_} (h:PoOk p):p.places.length<=100000/\p.slots.length<=100000/\p.grants.length<=100000:=by
 obtain⟨_,h2,_,h4,h5,_⟩:=h;omega
def Lc_ (a:C5_) (i:Int):Bool:=
 (decide (((Int.fdiv a.Q0_ (2 ^ (min (i:Int).toNat (IntKind.bits .u32))))%2)=1))
def Ia_ (a:C5_) (b:C5_):Nat->Nat->Bool
 |0,_=>default
 | f2+1,i=>(bif decide ((i:Int)<32) then
 (bif ((Lc_ a (i:Int))&&(!(Lc_ b (i:Int)))) then
 false
 else Ia_ a b f2 (i+1))
 else true)
def L9_ (a:C5_) (b:C5_):Bool:=
 (bif decide (b.level<a.level) then
 false
 else Ia_ a b (32-0+1) 0)
def Gq_ (y:Bl_):List Bl_->Lo Unit Int
 |[]=> .fin ()
 | x::t=>(bif ((decide ((x.name)=(y.name)))||(decide (x.label=y.label))) then
 .ret 9
 else Gq_ y t)
def Gr_ (y1:B1_):List B1_->Lo Unit Int
 |[]=> .fin ()
 | x1::t1=>(bif ((decide ((x1.frm)=(y1.frm)))&&(decide ((x1.to')=(y1.to')))) then
 .ret 9
 else Gr_ y1 t1)
def Ib_ (i:Nat):List Int->Bool->Lo Unit Int
 | [],has=>(bif !has then
 .ret 15
 else .fin ())
 |x2::t2,has=>Ib_ i t2 (has||(decide (x2=(i:Int))))
def M2_ (p:G_):Nat->Nat->Int
 |0,_=>default
 | f2+1,i=>(bif decide ((i:Int)<(p.places.length:Int)) then
 (lp0 (Ib_ i p.slots false) (
 M2_ p f2 (i+1)) (λr=>r))
 else 0)
def Fy_ (p:G_):List B1_->Nat->Int
 |[],k3=>M2_ p (p.places.length-0+1) 0
 | x3::t3,k3=>(lp0 ((bif ((((decide ((x3.frm)<0))||(decide ((p.places.length:Int)<=(x3.frm))))||(decide ((x3.to')<0)))||(decide ((p.places.length:Int)<=(x3.to')))) then
 .ret 10
 else (bif (L9_ ((gt p.places ((x3.frm).toNat)).label) ((gt p.places ((x3.to').toNat)).label)) then
 .ret 11
 else (bif ((decide ((x3.budget)<0))||(decide (16<(x3.budget)))) then
 .ret 7
 else Gr_ x3 (p.grants.take k3))))) (
 Fy_ p t3 (k3+1)) (λr=>r))
def Ff_ (p:G_):List Int->Int
 | []=>(bif decide (8<(p.grants.length:Int)) then
 6
 else Fy_ p p.grants 0)
 | x4::t4=>(bif ((decide (x4<0))||(decide ((p.places.length:Int)<=x4))) then
 10
 else Ff_ p t4)
def Fx_ (p:G_):List Bl_->Nat->Int
 | [],k=>(bif decide ((p.slots.length:Int)=0) then
 15
 else (bif decide (32<(p.slots.length:Int)) then
 6
 else Ff_ p p.slots))
 | x5::t5,k=>(lp0 ((bif !decide ((Cx_ (x5.name))=0) then
 .ret (Cx_ (x5.name))
 else (bif ((((decide (15<(x5.label.level)))||(decide ((x5.bytes)<0)))||(decide (65536<(x5.bytes))))||(decide ((x5.base)=0))) then
 .ret 7
 else Gq_ x5 (p.places.take k)))) (
 Fx_ p t5 (k+1)) (λr=>r))
def Pf_ (p:G_):Int:=
 (bif ((((decide (p.work<1))||(decide (16<p.work)))||(decide (p.give<1)))||(decide (16<p.give))) then
 7
 else (bif decide ((p.places.length:Int)=0) then
 15
 else (bif decide (16<(p.places.length:Int)) then
 6
 else Fx_ p p.places 0)))
def N3_ (p:G_) (tick:Int):Int:=
 ((IntKind.wrap .u64 (tick-(tick%(p.slots.length:Int))))/(p.slots.length:Int))
def Xz_ (p:G_) (n:Int):Int:=
 (n%(p.places.length:Int))
def Gj_:List Bl_->Bool
 |[]=>true
 | x::t=>(bif decide (40<((x.name).length:Int)) then
 false
 else Gj_ t)
def L2_ (p:G_):Bool:=
 (bif (((decide (20<(p.places.length:Int)))||(decide (40<(p.slots.length:Int))))||(decide (10<(p.grants.length:Int)))) then
 false
 else Gj_ p.places)
def Iu_:List B1_->Int->Int->List Bl_->List Int->List B1_->G_
 |[],work1,give_1,places1,slots1,grants1=>(⟨work1,give_1,places1,slots1,grants1⟩:G_)
 |x::t,work1,give_1,places1,slots1,grants1=>Iu_ t work1 give_1 places1 slots1 (grants1++[x])
def It_ (p:G_):List Bl_->Int->Int->List Bl_->List Int->List B1_->G_
 |[],work,give_,places,slots,grants=>Iu_ p.grants work give_ places (slots++p.slots) grants
 |x1::t1,work,give_,places,slots,grants=>It_ p t1 work give_ (places++[x1]) slots grants
def Fh_ (p:G_):G_:=
 It_ p p.places p.work p.give [] [] []
theorem l05_light {p:G_} (h:L2_ p=true):p.places.length<=100000/\p.slots.length<=100000/\p.grants.length<=100000:=by
 unfold L2_ at h
 cases e:(decide (20<(p.places.length:Int)) || decide (40<(p.slots.length:Int)) || decide (10<(p.grants.length:Int))) with
 |true=>rw[e] at h;cases h
 |false=>
   simp only[Bool.or_eq_false_iff,decide_eq_false_iff_not] at e
   omega
def Nl_ (p:G_):Bool:=
 ((L2_ p)&&(decide ((Pf_ (Fh_ p))=0)))
end Go.SW.V
