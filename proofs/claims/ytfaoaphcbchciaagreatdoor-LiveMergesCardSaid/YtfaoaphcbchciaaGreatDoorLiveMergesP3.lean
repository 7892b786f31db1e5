/-
  A part of the proof of LiveMerges: Closed runs: equality of all sorts; conversions; structs; places; parts of texts and slices. Over any
-/
import Derived.Test.YtfaoaphcbchciaaGreatDoorLiveMergesP2
import Derived.Test.YtfaoaphcbchciaaGreatDoorLiveMergesP1
import Derived.Lib.Bytealg
set_option linter.unusedVariables false
set_option linter.unusedSimpArgs false
set_option maxRecDepth 100000
set_option maxHeartbeats 4000000
namespace Go.CE
open Go.SW
variable {P:Program} {N:SW.Rest} {F:Fr} {H:Hp} {L:Ls} {ty T T':TypeId} {x y z:Operand} {β:Be} {f:Fe}
theorem Ge_ {op:BinOp} {u v:Value} (h1:∀ a b,u = .agg a->v = .agg b->P.eqGuardType P.depth T=false) (h2:u = .nilIface->v = .nilIface->∃ c,y = .const c) (w:World):(eqGuard op T x y u v).run P w = .ok () w:=by
 cases u<;>cases v<;>first
   |(exact run_eqGuard_agg w op T x y _ _ (h1 _ _ Y Y))
   |(obtain⟨c,rfl⟩:=h2 Y Y;cases op<;>simp[eqGuard];done)
   |(cases op<;>simp[eqGuard];done)
theorem Bu_ {u v:Value} {r:Bool} (h:∀ d w,(Op.equalIn (d+1) T u v).run P w = .ok r w):EqV P 10000 T u v r:=λw=>h 9999 w
theorem Bi_ {u v:Value} {r:Bool} (hx:ev F x=u) (hy:ev F y=v) (h1:∀ a b,u = .agg a->v = .agg b->P.eqGuardType P.depth T=false) (h2:u = .nilIface->v = .nilIface->∃ c,y = .const c)
   (hi:∀ k a,u ≠ .int k a) (hs:∀ a,u ≠ .string a) (hf:∀ k a,u ≠ .float k a) (hc:∀ k a b,u ≠ .complex k a b) (h:EqV P 10000 T u v r):Lo P N (.binOp .eql T x y T') ty F H L (.bool r)/\Lo P N (.binOp .neq T x y T') ty F H L (.bool (!r)):=by
 constructor;exact zP;exact zP
theorem O4_ {a b:CV} {r:Bool} (hx:VR β a (ev F x)) (hy:VR β b (ev F y)) (h:eqE P T x y a b=some r):Lo P N (.binOp .eql T x y T') ty F H L (.bool r)/\Lo P N (.binOp .neq T x y T') ty F H L (.bool (!r)):=by
 generalize hu:ev F x=u at hx;generalize hv:ev F y=v at hy;unfold eqE at h
 split at h
 . -- truth values
   split at h
   . split at h
     . rename_i hT
       simp only[VR] at hx hy;subst hx;subst hy
       simp only[Option.some.injEq] at h;subst h
       refine Bi_ hu hv xA xA xA xA xA xA (Bu_ λd w=>Bd_ d hT w)
     . cases h
   . cases h
 . -- structs
   rename_i p
   split at h
   . rename_i q
     cases hg:P.eqGuardType P.depth T with
     |true=>rw[hg] at h;cases h
     |false=>
       rw[hg] at h
       simp only[cond_false] at h
       have hE:=Kb_ 40 h hx hy 10000 yY
       simp only[VR] at hx hy
       obtain⟨xs,rfl,hx⟩:=hx;obtain⟨ys,rfl,hy⟩:=hy
       exact Bi_ hu hv (λ_ _ _ _=>hg) xA xA xA xA xA hE
   . cases h
 . -- a pointer
   split at h
   . split at h
     . rename_i e hT
       simp only[VR] at hx hy;obtain⟨q,_,rfl⟩:=hx;exact yU
     . cases h
   . rename_i i o _ j q
     cases hb:(Nat.beq i j&&Nat.beq o q) with
     |false=>rw[hb] at h;cases h
     |true=>
       rw[hb] at h
       simp only[Bool.and_eq_true] at hb
       have e1:=Nat.eq_of_beq_eq_true hb.1;have e2:=Nat.eq_of_beq_eq_true hb.2
       subst e1;subst e2
       simp only[cond_true] at h
       split at h
       . rename_i e hT
         split at h
         . rename_i j hj
           simp only[VR] at hx hy;obtain⟨q1,h1,rfl⟩:=hx;obtain⟨q2,h2,rfl⟩:=hy
           rw[h1] at h2;cases h2
           simp only[Option.some.injEq] at h;subst h
           refine Bi_ hu hv xA xA xA xA xA xA (Bu_ λd w=>?_)
           by_cases h0:j.size=0
           . simp[Op.equalIn,run_underlying hT,sizeOf,typeInfo,hj,h0]
           . simp[Op.equalIn,run_underlying hT,sizeOf,typeInfo,hj,h0,sameAddr]
         . cases h
       . cases h
   . cases h
 . split at h
   . split at h
     . rename_i e hT
       simp only[VR] at hx hy;subst hx;exact yU
     . cases h
   . cases h
 . split at h
   . split at h
     . rename_i e hT
       exact yX
     . cases h
   . cases h
 . split at h
   . split at h
     . rename_i e hT
       simp only[VR] at hx hy;obtain⟨q,_,rfl⟩:=hx;exact yT
     . cases h
   . cases h
 . split at h
   . split at h
     . rename_i e hT
       simp only[VR] at hx hy;obtain⟨q,c,a,_,_,_,rfl,_⟩:=hx;exact yT
     . cases h
   . cases h
 . split at h
   . split at h
     . rename_i e hT
       exact yX
     . cases h
   . cases h
 . split at h
   . split at h
     . rename_i hT
       exact yX
     . cases h
   . cases h
 . split at h
   . split at h
     . rename_i hT
       simp only[VR] at hx hy;obtain⟨vs,us,rfl,_⟩:=hx;exact yT
     . cases h
   . cases h
 . split at h
   . split at h
     . split at h
       . rename_i hT
         simp only[VR] at hx hy;subst hx;subst hy
         simp only[Option.some.injEq] at h;subst h
         refine Bi_ hu hv xA (λ_ _=>⟨_,rfl⟩) xA xA xA xA (Bu_ λd w=>?_)
         exact yO
       . cases h
     . cases h
   . cases h
 . split at h
   . split at h
     . rename_i hT
       simp only[VR] at hx hy;obtain⟨u',rfl,_⟩:=hx;exact yT
     . cases h
   . cases h
 . cases h
def binE (P:Program) (op:BinOp) (T:TypeId) (x y:Operand) (a b:CV):Option CV:=
 match a with
 | .int k p=>match b with
   | .int k' q=>bif isSh op then bSh op k p q else bif decide (k=k') then bF op k p q else none
   |_=>none
 | .str n p=>match b with
   | .str m q=>bS op n p m q
   |_=>none
 |a=>match op with
   | .eql=>match eqE P T x y a b with
     |some r=>some (.bool r)
     |none=>none
   | .neq=>match eqE P T x y a b with
     |some r=>some (.bool (!r))
     |none=>none
   |_=>none
theorem K3_ {op:BinOp} {a b c:CV} (hx:VR β a (ev F x)) (hy:VR β b (ev F y)) (h:binE P op T x y a b=some c):∃ v,VR β c v/\Lo P N (.binOp op T x y T') ty F H L v:=by
 unfold binE at h
 split at h
 . rename_i k p
   split at h
   . rename_i k' q
     simp only[VR] at hx hy
     cases hs:isSh op with
     |true=>rw[hs] at h;exact lo_sh hx hy h
     |false=>
       rw[hs] at h
       cases hk:decide (k=k') with
       |true=>rw[hk] at h;have :=of_decide_eq_true hk;subst this;simp only[cond_false,cond_true,bF_eq] at h;exact lo_bI hx hy h
       |false=>rw[hk] at h;cases h
   . cases h
 . split at h
   simp only[VR] at hx hy
   exact lo_bS hx.1 hy.1 hx.2 hy.2 h
   . cases h
 . split at h
   . split at h
     . rename_i r hr
       simp only[Option.some.injEq] at h;subst h
       exact⟨_,rfl,(O4_ hx hy hr).1⟩
     . cases h
   . split at h
     . rename_i r hr
       simp only[Option.some.injEq] at h;subst h
       exact⟨_,rfl,(O4_ hx hy hr).2⟩
     . cases h
   . cases h
def unE (op:UnOp) (a:CV):Option CV:=
 match a with
 | .bool b=>match op with
   | .not=>some (.bool (!b))
   |_=>none
 | .int k n=>match op with
   | .neg=>some (.int k (wrF k (0-n)))
   | .xor=>some (.int k (k.wrap (BitVec.ofInt k.bits (bif k.signed then -1 else k.max) ^^^ BitVec.ofInt k.bits n).toNat))
   |_=>none
 |_=>none
theorem Pc_ {op:UnOp} {a c:CV} (hx:VR β a (ev F x)) (h:unE op a=some c):∃ v,VR β c v/\Lo P N (.unOp op T x) ty F H L v:=by
 unfold unE at h
 split at h
 . split at h
   simp only[Option.some.injEq] at h;subst h;simp only[VR] at hx;exact⟨_,rfl,O9_ hx⟩
   . cases h
 . rename_i k n
   split at h
   simp only[Option.some.injEq] at h;subst h;simp only[VR] at hx
   exact⟨_,rfl,λd pos af g w _=>by simp[execOp,hx,Op.unary,Op.intArith,Gx_]⟩
   . cases hk:k.signed with
     |true=>
       rw[hk] at h
       simp only[cond_true,Option.some.injEq] at h;subst h;simp only[VR] at hx
       exact⟨_,rfl,λd pos af g w _=>by simp[execOp,hx,Op.unary,Op.intBits,hk]⟩
     |false=>
       rw[hk] at h
       simp only[cond_false,Option.some.injEq] at h;subst h;simp only[VR] at hx
       exact⟨_,rfl,O2_ hx hk⟩
   . cases h
 . cases h
def cvE (P:Program) (T T':TypeId) (a:CV):Option CV:=
 match a with
 | .int _ n=>match P.underlying T with
   |some _=>match P.underlying T' with
     |some (.int k)=>some (.int k (wrF k n))
     |_=>none
   |none=>none
 | .str n x=>match P.underlying T with
   |some .string=>match P.underlying T' with
     |some .string=>some (.str n x)
     |_=>none
   |_=>none
 |_=>none
theorem O3_ {a c:CV} (hx:VR β a (ev F x)) (h:cvE P T T' a=some c):∃ v,VR β c v/\Lo P N (.convert T T' x) ty F H L v:=by
 unfold cvE at h
 split at h
 . split at h
   . rename_i hT
     split at h
     . rename_i hT'
       simp only[Option.some.injEq] at h;subst h;simp only[VR] at hx
       rw[Gx_];exact⟨_,rfl,Fo_ hx (by rw[hT];rfl) hT'⟩
     . cases h
   . cases h
 . split at h
   . rename_i hT
     split at h
     . rename_i hT'
       simp only[Option.some.injEq] at h;subst h;simp only[VR] at hx
       exact⟨_,⟨hx.1,rfl⟩,D5_ hx.2 hT hT'⟩
     . cases h
   . cases h
 . cases h
end Go.CE
namespace Go.CE
open Go.SW
variable {P:Program} {N:SW.Rest} {F:Fr} {H:Hp} {L:Ls} {ty T T':TypeId} {x y z:Operand} {β:Be} {f:Fe}
abbrev Yl (P:Program) (N:SW.Rest) (F:Fr) (H:Hp) (L:Ls) (β:Be) (op:Op) (ty:TypeId) (c:CV):Prop:=∃ v,VR β c v/\Lo P N op ty F H L v
theorem y_mv {c:CV} (hx:VR β c (ev F x)):Yl P N F H L β (.move x) ty c:=⟨_,hx,λd pos af g w _=>by simp[execOp]⟩
theorem y_as {c:CV} (hx:VR β c (ev F x)):Yl P N F H L β (.assign x) ty c:=⟨_,hx,λd pos af g w _=>by simp[execOp]⟩
theorem I5_ {b:Bool} {c:CV} (hx:VR β (.bool b) (ev F x)) (hy:VR β c (ev F (bif b then y else z))):Yl P N F H L β (.pick x y z) ty c:=by
 simp only[VR] at hx;refine⟨_,hy,λd pos af g w _=>?_⟩
 cases b<;>simp[execOp,hx,asBool]
def Eo_ (P:Program) (T:TypeId):Option (List CV):=match P.info? T with
 |some i=>match i.zero with
   |some z=>vCs z.cells.toList
   |none=>none
 |none=>none
theorem A1_ {cs:List CV} (h:Eo_ P T=some cs):∃ z:Value,(∀ w,(zeroValue T).run P w = .ok z w)/\VRs β cs z.cells.toList:=by
 unfold Eo_ at h
 split at h
 . rename_i i hi
   split at h
   . rename_i z hz
     exact⟨z,λw=>by simp[zeroValue,typeInfo,hi,hz],Mr_ h⟩
   . cases h
 . cases h
def Dv_:CV->Option (List CV)
 | .agg cs=>some cs
 | .tup _=>none
 |c=>some [c]
theorem Bh_ {c:CV} {cs:List CV} {v:Value} (h:Dv_ c=some cs) (hv:VR β c v):VRs β cs v.cells.toList:=by
 unfold Dv_ at h
 split at h
 simp only[Option.some.injEq] at h;subst h;simp only[VR] at hv;obtain⟨vs,rfl,hv⟩:=hv;simpa [Value.cells] using hv
 . cases h
 . rename_i h1 h2
   simp only[Option.some.injEq] at h;subst h
   have :v.cells = #[v]:=by
     cases c<;>simp only[VR] at hv<;>first
       |(exact absurd Y (h1 _))|(exact absurd Y (h2 _))
       |(subst hv;rfl)
       |(obtain⟨_,rfl⟩:=hv;rfl)
       |(obtain⟨_,_,rfl⟩:=hv;rfl)
       |(obtain⟨_,rfl,_⟩:=hv;rfl)
       |(obtain⟨_,_,_,_,_,_,rfl,_⟩:=hv;rfl)
       |(obtain⟨_,_,rfl,_⟩:=hv;rfl)
   rw[this]
   exact .cons hv .nil
def B2_:List CV->Nat->List CV->List CV
 |cs,_,[]=>cs
 |cs,o,v::r=>B2_ (cs.set o v) (o+1) r
theorem Cz_:∀ (ds cs:List CV) (o:Nat) {vs us:List Value},VRs β cs vs->VRs β ds us->VRs β (B2_ cs o ds) (Ae_ vs o us)
 |[],_,_,_,_,h,k=>by rw[k.nil_inv];exact h
 |_::_,_,_,_,_,h,k=>by obtain⟨v,us',rfl,h1,h2⟩:=k.cons_inv;simp only[B2_,Ae_];exact Cz_ _ _ _ (h.set _ h1) h2
theorem Ap_:∀ (ds cs:List CV) (o:Nat),(B2_ cs o ds).length=cs.length
 |[],_,_=>rfl
 |_::r,cs,o=>by simp only[B2_];rw[Ap_ r];simp
def Kl_ (places:List (Nat×Nat)):List CV->List (Nat×CV)->Option (List CV)
 |cs,[]=>some cs
 |cs,(i,c)::r=>match places[i]? with
   |some (o,k)=>match Dv_ c with
     |some ds=>bif Nat.beq ds.length k&&Nat.ble (o+k) cs.length then Kl_ places (B2_ cs o ds) r else none
     |none=>none
   |none=>none
def efps (f:Fe):List (Nat×Operand)->Option (List (Nat×CV))
 |[]=>some []
 |(i,x)::r=>match ef f x with
   |some c=>match efps f r with
     |some cs=>some ((i,c)::cs)
     |none=>none
   |none=>none
def VRp (β:Be):List (Nat×CV)->List (Nat×Value)->Prop
 |[],vs=>vs=[]
 |(i,c)::r,vs=>∃ v us,vs=(i,v)::us/\VR β c v/\VRp β r us
theorem Fg_ (hf:FR β f F):∀ {xs:List (Nat×Operand)} {cs:List (Nat×CV)},efps f xs=some cs->VRp β cs (evp F xs)
 |[],cs,h=>by simp only[efps,Option.some.injEq] at h;subst h;rfl
 |(i,x)::r,cs,h=>by
   simp only[efps] at h
   split at h
   . rename_i c hc
     split at h
     . rename_i ds hd
       simp only[Option.some.injEq] at h;subst h
       exact⟨_,_,rfl,P_ hf hc,Fg_ hf hd⟩
     . cases h
   . cases h
theorem E3_:∀ (vs cs:List Value) (o j:Nat),(vs.zipIdx j).foldl (λ(cs:Array Value) (p:Value×Nat)=>cs.setIfInBounds (o+p.2) p.1) cs.toArray=(Ae_ cs (o+j) vs).toArray
 |[],cs,o,j=>by simp[Ae_]
 |v::r,cs,o,j=>by
   rw[List.zipIdx_cons,List.foldl_cons]
   have :=E3_ r (cs.set (o+j) v) o (j+1)
   simp only[Ae_]
   rw[show o+j+1=o+(j+1) by omega,<- this]
   congr 1
   simp
theorem Ib_ (places:List (Nat×Nat)):∀ {ps:List (Nat×CV)} {cs ds:List CV} {vs:List Value} {us:List (Nat×Value)},Kl_ places cs ps=some ds->VRs β cs vs->VRp β ps us ->
   ∃ ws,Instr.fill (places.toArray[·]?) vs.toArray us=some ws.toArray/\VRs β ds ws
 |[],cs,ds,vs,us,h,hv,hu=>by
   simp only[Kl_,Option.some.injEq] at h;subst h
   simp only[VRp] at hu;subst hu
   exact⟨vs,rfl,hv⟩
 |(i,c)::r,cs,ds,vs,us,h,hv,hu=>by
   simp only[VRp] at hu
   obtain⟨v,us',rfl,h1,h2⟩:=hu
   simp only[Kl_] at h
   split at h
   . rename_i o k hi
     split at h
     . rename_i es he
       cases hb:(Nat.beq es.length k&&Nat.ble (o+k) cs.length) with
       |false=>rw[hb] at h;cases h
       |true=>
         rw[hb] at h
         simp only[Bool.and_eq_true] at hb
         have e1:=Nat.eq_of_beq_eq_true hb.1
         have e2:=Nat.le_of_ble_eq_true hb.2
         have hc:=Bh_ he h1
         obtain⟨ws,hw1,hw2⟩:=Ib_ places (ps:=r) h (Cz_ es cs o hv hc) h2
         have hl:v.cells.size=k:=by have :=hc.length;simp at this;omega
         have hl2:=hv.length
         refine⟨ws,?_,hw2⟩
         simp only[Instr.fill]
         have hi':(places.toArray[i]? :Option (Nat×Nat))=some (o,k):=by simpa using hi
         rw[hi']
         have hcond:¬((decide (v.cells.size≠k) || decide (o+v.cells.size>vs.toArray.size))=true):=by simp[hl];omega
         simp only[]
         rw[if_neg hcond]
         have hz:=E3_ v.cells.toList vs o 0
         rw[Nat.add_zero] at hz
         rw[<- hw1,<- hz,<- Array.foldl_toList,Array.toList_zipIdx]
     . cases h
   . cases h
def D1_ (P:Program) (fs:List Field):Option (List (Nat×Nat)):=match fs with
 |[]=>some []
 |f::r=>match szE P f.type with
   |some k=>match D1_ P r with
     |some l=>some ((f.offset,k)::l)
     |none=>none
   |none=>none
theorem Ev_:∀ {fs:List Field} {l:List (Nat×Nat)},D1_ P fs=some l->∀ w,(fs.mapM (λf=>(do pure (f.offset,<- sizeOf f.type):Sem (Nat×Nat)))).run P w = .ok l w
 |[],l,h,w=>by simp only[D1_,Option.some.injEq] at h;subst h;simp
 |f::r,l,h,w=>by
   simp only[D1_] at h
   split at h
   . rename_i k hk
     split at h
     . rename_i l' hl
       simp only[Option.some.injEq] at h;subst h
       have :=Ev_ hl w
       simp only[List.mapM_cons,Sem.run_bind,Ah_ hk w,Result.andThen_ok,Sem.run_pure,this]
     . cases h
   . cases h
def F3_ (P:Program) (T:TypeId) (ps:List (Nat×CV)):Option CV:=
 match Eo_ P T with
 |some z=>match P.underlying T with
   |some (.struct fs)=>match D1_ P fs.toList with
     |some l=>match Kl_ l z ps with
       |some cs=>some (.agg cs)
       |none=>none
     |none=>none
   |_=>none
 |none=>none
theorem F2_ {ps:List (Nat×Operand)} {qs:List (Nat×CV)} {c:CV} (hf:FR β f F) (hq:efps f ps=some qs) (h:F3_ P T qs=some c):Yl P N F H L β (.build T ps.toArray) ty c:=by
 unfold F3_ at h
 split at h
 . rename_i z hz
   split at h
   . rename_i fs hu
     split at h
     . rename_i l hl
       split at h
       . rename_i cs hcs
         simp only[Option.some.injEq] at h;subst h
         obtain⟨zv,hz1,hz2⟩:=A1_ (β:=β) hz
         obtain⟨ws,hw1,hw2⟩:=Ib_ l hcs hz2 (Fg_ hf hq)
         refine⟨.agg ws.toArray,by simp only[VR];exact⟨ws,rfl,hw2⟩,Ij_ Y λw=>?_⟩
         have hm:=Ev_ hl w
         have hm2:(fs.mapM (λf=>(do pure (f.offset,<- sizeOf f.type):Sem (Nat×Nat)))).run P w = .ok l.toArray w:=by
           rw[Array.mapM_eq_mapM_toList]
           have hm':(fs.toList.mapM (λf=>Prod.mk f.offset <$> sizeOf f.type:Field->Sem (Nat×Nat))).run P w = .ok l w:=by
             have :=hm
             exact yR
           simp[hm']
         have e0:zv.cells.toList.toArray=zv.cells:=by simp
         rw[e0] at hw1
         simp only[Instr.build,Sem.run_bind,hz1 w,Result.andThen_ok,run_underlying hu,hm2,hw1,Sem.run_pure]
       . cases h
     . cases h
   . cases h
 . cases h
end Go.CE
namespace Go.CE
open Go.SW
variable {P:Program} {N:SW.Rest} {F:Fr} {H:Hp} {L:Ls} {ty T T':TypeId} {x y z:Operand} {β:Be} {f:Fe}
def nilE (a:CV):Option CV:=match a with
 | .ptr i o=>some (.ptr i o)
 | .gp g o=>some (.gp g o)
 | .fn g p q=>some (.fn g p q)
 |_=>none
theorem Om_ {a c:CV} (hx:VR β a (ev F x)) (h:nilE a=some c):Yl P N F H L β (.nilCheck x) ty c:=by
 unfold nilE at h
 split at h<;>first|(cases h;done)|skip
 all_goals (simp only[Option.some.injEq] at h;subst h)
 have hx':=hx;simp only[VR] at hx';obtain⟨q,_,e⟩:=hx';exact⟨_,hx,e ▸ W_ e⟩;have hx':=hx;simp only[VR] at hx';exact⟨_,hx,hx' ▸ W_ hx'⟩;have hx':=hx;simp only[VR] at hx';obtain⟨vs,us,e,_,_⟩:=hx';exact⟨_,hx,λd pos af g w _=>by simp[execOp,e]⟩
theorem y_fn {g:FuncId} {ps qs:List Operand} {a b:List CV} (hf:FR β f F) (ha:efs f ps=some a) (hb:efs f qs=some b):Yl P N F H L β (.makeFunc (.func g) ps.toArray qs.toArray) ty (.fn g a b):=
 ⟨_,by simp only[VR];exact⟨_,_,rfl,Cp_ hf ha,Cp_ hf hb⟩,Dd_ Y Y⟩
def ifE (P:Program) (T:TypeId) (a:CV):Option CV:=match P.underlying T with
 |some (.interface _)=>none
 |some _=>some (.ifc T a)
 |none=>none
theorem y_if {a c:CV} (hx:VR β a (ev F x)) (h:ifE P T a=some c):Yl P N F H L β (.makeInterface T x) ty c:=by
 unfold ifE at h
 split at h
 . cases h
 . rename_i d hd hu
   simp only[Option.some.injEq] at h;subst h
   refine⟨_,by simp only[VR];exact⟨_,rfl,hx⟩,λ_ _ _ _ w _=>?_⟩
   cases d<;>first|(exact (hd _ Y).elim)|simp[execOp,Instr.makeInterface,run_underlying hu]
 . cases h
def fldE (P:Program) (T:TypeId) (i:Nat):Option Nat:=match P.underlying T with
 |some (.struct fs)=>match fs.toList[i]? with
   |some fd=>match szE P fd.type with
     |some k=>bif Nat.beq k 0 then none else some fd.offset
     |none=>none
   |none=>none
 |_=>none
theorem Ko_ {i o:Nat} (h:fldE P T i=some o):Fld P T i o:=by
 unfold fldE at h
 split at h
 . rename_i fs hu
   split at h
   . rename_i fd hf
     split at h
     . rename_i k hk
       cases hb:Nat.beq k 0 with
       |true=>rw[hb] at h;cases h
       |false=>
         rw[hb] at h
         simp only[cond_false,Option.some.injEq] at h;subst h
         have h0:k≠0:=Nat.ne_of_beq_eq_false hb
         have hfa:fs[i]? = some fd:=by simpa using hf
         intro b off w
         simp[Instr.fieldAt,run_underlying hu,hfa,Instr.sureAddr,fieldPlace,Ah_ hk w,h0,M_]
     . cases h
   . cases h
 . cases h
def faE (P:Program) (T:TypeId) (i:Nat) (a:CV):Option CV:=match fldE P T i with
 |some o=>match a with
   | .ptr j p=>some (.ptr j (p+o))
   | .gp g p=>some (.gp g (p+o))
   |_=>none
 |none=>none
theorem y_fa {i:Nat} {a c:CV} (hx:VR β a (ev F x)) (h:faE P T i a=some c):Yl P N F H L β (.fieldAddr T x i) ty c:=by
 unfold faE at h
 split at h
 . rename_i o ho
   split at h
   simp only[Option.some.injEq] at h;subst h
   simp only[VR] at hx ⊢;obtain⟨q,h1,e⟩:=hx
   exact⟨_,⟨q,h1,rfl⟩,by rw[<- Nat.add_assoc];exact R_ e (Ko_ ho)⟩
   simp only[Option.some.injEq] at h;subst h
   simp only[VR] at hx ⊢
   exact⟨_,rfl,R_ hx (Ko_ ho)⟩
   . cases h
 . cases h
def Ny_ (P:Program) (t:TypeId) (cs:List CV) (o:Nat):Option CV:=match agE P t with
 |some true=>match szE P t with
   |some k=>some (.agg ((cs.drop o).take k))
   |none=>none
 |some false=>cs[o]?
 |none=>none
theorem It_ {t:TypeId} {cs:List CV} {o:Nat} {c:CV} {vs:List Value} (h:Ny_ P t cs o=some c) (hv:VRs β cs vs):∃ v,VR β c v/\∀ w,(part t vs.toArray o).run P w = .ok v w:=by
 unfold Ny_ at h
 split at h
 . rename_i hg
   split at h
   . rename_i k hk
     simp only[Option.some.injEq] at h;subst h
     exact⟨.agg (sub vs o k).toArray,by simp only[VR];exact⟨_,rfl,(hv.drop _).take _⟩,L4_ (Cg_ hg) (Ah_ hk) Y⟩
   . cases h
 . rename_i hg
   obtain⟨v,e,hv⟩:=hv.get h
   exact⟨v,hv,L3_ (Cg_ hg) e⟩
 . cases h
def Gb_ (P:Program) (T:TypeId) (i:Nat) (a:CV):Option CV:=match a with
 | .agg cs=>match P.underlying T with
   |some (.struct fs)=>match fs.toList[i]? with
     |some fd=>Ny_ P fd.type cs fd.offset
     |none=>none
   |_=>none
 |_=>none
theorem Mw_ {i:Nat} {a c:CV} (hx:VR β a (ev F x)) (h:Gb_ P T i a=some c):Yl P N F H L β (.field T x i) ty c:=by
 unfold Gb_ at h
 split at h
 . split at h
   . rename_i fs hu
     split at h
     . rename_i fd hf
       simp only[VR] at hx;obtain⟨vs,e,hv⟩:=hx
       obtain⟨v,h1,h2⟩:=It_ h hv
       have hfa:fs[i]? = some fd:=by simpa using hf
       exact⟨v,h1,λ_ _ _ _ w _=>by simp[execOp,Instr.field,run_underlying hu,hfa,e,asAgg,h2 w]⟩
     . cases h
   . cases h
 . cases h
def natE (a:CV):Option Nat:=match a with
 | .int _ z=>match z with
   | .ofNat n=>some n
   | .negSucc _=>none
 |_=>none
theorem Bt_ {a:CV} {n:Nat} {v:Value} (h:natE a=some n) (hv:VR β a v):∃ k,v = .int k (n:Int):=by
 unfold natE at h
 split at h
 . split at h
   simp only[Option.some.injEq] at h;subst h;simp only[VR] at hv;exact⟨_,hv⟩
   . cases h
 . cases h
def ixE (P:Program) (T:TypeId) (a b:CV):Option CV:=match natE b with
 |some m=>match a with
   | .str n s=>match P.underlying T with
     |some .string=>bif Nat.blt m n then some (.int .u8 ((s/256 ^ m%256:Nat):Int)) else none
     |_=>none
   | .agg cs=>match P.underlying T with
     |some (.array len e)=>match szE P e with
       |some k=>bif Nat.blt m len then Ny_ P e cs (m*k) else none
       |none=>none
     |_=>none
   |_=>none
 |none=>none
theorem y_ix {a b c:CV} (hx:VR β a (ev F x)) (hy:VR β b (ev F y)) (h:ixE P T a b=some c):Yl P N F H L β (.index T x y) ty c:=by
 unfold ixE at h
 split at h
 . rename_i m hm
   obtain⟨k0,ey⟩:=Bt_ hm hy
   split at h
   . rename_i n s
     split at h
     . rename_i hT
       cases hb:Nat.blt m n with
       |false=>rw[hb] at h;cases h
       |true=>
         rw[hb] at h
         have hlt:m<n:=Nat.lt_of_lt_of_le (Nat.lt_succ_self m) (Nat.le_of_ble_eq_true hb)
         simp only[cond_true,Option.some.injEq] at h;subst h
         simp only[VR] at hx
         refine⟨_,rfl,?_⟩
         have :=Gi_ (P:=P) (N:=N) (H:=H) (L:=L) (ty:=ty) (T:=T) m hx.2 ey hT Y (by rw[B_];exact hlt)
         have e:((dec n s).getD m 0).toNat=s/256 ^ m%256:=by
           rw[List.getD_eq_getElem?_getD,Dz_ n s m hlt];simp
         rw[e] at this
         exact this
     . cases h
   . rename_i cs
     split at h
     . rename_i len e hT
       split at h
       . rename_i k hk
         cases hb:Nat.blt m len with
         |false=>rw[hb] at h;cases h
         |true=>
           rw[hb] at h
           have hlt:m<len:=Nat.lt_of_lt_of_le (Nat.lt_succ_self m) (Nat.le_of_ble_eq_true hb)
           simp only[cond_true] at h
           simp only[VR] at hx;obtain⟨vs,ex,hv⟩:=hx
           obtain⟨v,h1,h2⟩:=It_ h hv
           refine⟨v,h1,λ_ _ _ _ w _=>?_⟩
           have hi:((m:Nat):Int)<(len:Int):=by omega
           simp[execOp,Instr.index,ex,ey,asIntOf,run_underlying hT,hlt,Ah_ hk w,h2 w]
       . cases h
     . cases h
   . cases h
 . cases h
def iaE (P:Program) (T:TypeId) (a b:CV):Option CV:=match natE b with
 |some m=>match P.underlying T with
   |some (.slice e)=>match szE P e with
     |some k=>match a with
       | .sl i o len _=>bif Nat.blt m len then some (.ptr i (o+m*k)) else none
       | .slu i o len _=>bif Nat.blt m len then some (.ptr i (o+m*k)) else none
       |_=>none
     |none=>none
   |some (.array len e)=>match szE P e with
     | some k=>bif Nat.blt m len then (match a with
       | .ptr i o=>some (.ptr i (o+m*k))
       | .gp g o=>some (.gp g (o+m*k))
       |_=>none) else none
     |none=>none
   |_=>none
 |none=>none
theorem A4_ {m n:Nat} (h:Nat.blt m n=true):m<n:=Nat.lt_of_lt_of_le (Nat.lt_succ_self m) (Nat.le_of_ble_eq_true h)
theorem y_ia {a b c:CV} (hx:VR β a (ev F x)) (hy:VR β b (ev F y)) (h:iaE P T a b=some c):Yl P N F H L β (.indexAddr T x y) ty c:=by
 unfold iaE at h
 split at h
 . rename_i m hm
   obtain⟨k0,ey⟩:=Bt_ hm hy
   split at h
   . rename_i e hT
     split at h
     . rename_i k hk
       split at h
       . rename_i i o len cap
         cases hb:Nat.blt m len with
         |false=>rw[hb] at h;cases h
         |true=>
           rw[hb] at h
           have hlt:=A4_ hb
           simp only[cond_true,Option.some.injEq] at h;subst h
           simp only[VR] at hx ⊢;obtain⟨q,h1,ex⟩:=hx
           refine⟨_,⟨q,h1,rfl⟩,λ_ _ _ _ w _=>?_⟩
           simp[execOp,Instr.indexAt,ex,ey,asIntOf,run_underlying hT,hlt,Ah_ hk w,M_,Nat.add_assoc]
       . rename_i i o len k'
         cases hb:Nat.blt m len with
         |false=>rw[hb] at h;cases h
         |true=>
           rw[hb] at h
           have hlt:=A4_ hb
           simp only[cond_true,Option.some.injEq] at h;subst h
           simp only[VR] at hx ⊢;obtain⟨q,cc,aa,h1,_,hle,ex,ha⟩:=hx
           have ha:=ha yY;subst ha
           refine⟨_,⟨q,h1,rfl⟩,λ_ _ _ _ w _=>?_⟩
           simp[execOp,Instr.indexAt,ex,ey,asIntOf,run_underlying hT,hlt,Ah_ hk w,M_,Nat.add_assoc]
       . cases h
     . cases h
   . rename_i len e hT
     split at h
     . rename_i k hk
       cases hb:Nat.blt m len with
       |false=>rw[hb] at h;cases h
       |true=>
         rw[hb] at h
         have hlt:=A4_ hb
         simp only[cond_true] at h
         split at h
         . simp only[Option.some.injEq] at h;subst h
           simp only[VR] at hx ⊢;obtain⟨q,h1,ex⟩:=hx
           refine⟨_,⟨q,h1,rfl⟩,λ_ _ _ _ w _=>?_⟩
           simp[execOp,Instr.indexAt,ex,ey,asIntOf,run_underlying hT,hlt,Ah_ hk w,M_,Nat.add_assoc,Instr.sureAddr]
         . simp only[Option.some.injEq] at h;subst h
           simp only[VR] at hx ⊢
           refine⟨_,rfl,λ_ _ _ _ w _=>?_⟩
           simp[execOp,Instr.indexAt,hx,ey,asIntOf,run_underlying hT,hlt,Ah_ hk w,M_,Instr.sureAddr]
         . cases h
     . cases h
   . cases h
 . cases h
def exE (a:CV) (i:Nat):Option CV:=match a with
 | .tup vs=>vs[i]?
 |_=>none
theorem y_ex {a c:CV} {i:Nat} (hx:VR β a (ev F x)) (h:exE a i=some c):Yl P N F H L β (.extract x i) ty c:=by
 unfold exE at h
 split at h
 simp only[VR] at hx;obtain⟨vs,ex,hv⟩:=hx;obtain⟨v,e,h1⟩:=hv.get h;exact⟨v,h1,Ex_ ex (by simpa using e)⟩
 . cases h
def lenE (P:Program) (T:TypeId) (a:CV):Option CV:=match P.underlying T with
 |some .string=>match a with
   | .str n _=>some (.int .i64 (n:Int))
   |_=>none
 |some (.slice _)=>match a with
   | .sl _ _ n _=>some (.int .i64 (n:Int))
   | .slu _ _ n _=>some (.int .i64 (n:Int))
   | .nils=>some (.int .i64 ((0:Nat):Int))
   |_=>none
 |_=>none
theorem Ol_ {a c:CV} (hx:VR β a (ev F x)) (h:lenE P T a=some c):Yl P N F H L β (.call ⟨.builtin .len,#[x],#[T]⟩) ty c:=by
 unfold lenE at h
 split at h
 . rename_i hT
   split at h
   . rename_i n s
     simp only[Option.some.injEq] at h;subst h
     simp only[VR] at hx
     refine⟨_,rfl,?_⟩
     have :=Ez_ (P:=P) (N:=N) (H:=H) (L:=L) (ty:=ty) hx.2 hT
     rwa [B_] at this
   . cases h
 . rename_i e hT
   split at h
   simp only[Option.some.injEq] at h;subst h
   simp only[VR] at hx;obtain⟨q,_,ex⟩:=hx
   exact⟨_,rfl,Bj_ ex hT⟩
   simp only[Option.some.injEq] at h;subst h
   simp only[VR] at hx;obtain⟨q,c,a,_,_,_,ex,_⟩:=hx
   exact⟨_,rfl,Bj_ ex hT⟩
   simp only[Option.some.injEq] at h;subst h
   simp only[VR] at hx
   exact⟨_,rfl,Bj_ hx hT⟩
   . cases h
 . cases h
def capE (P:Program) (T:TypeId) (a:CV):Option CV:=match P.underlying T with
 |some (.slice _)=>match a with
   | .sl _ _ _ n=>some (.int .i64 (n:Int))
   | .nils=>some (.int .i64 ((0:Nat):Int))
   |_=>none
 |_=>none
theorem y_cap {a c:CV} (hx:VR β a (ev F x)) (h:capE P T a=some c):Yl P N F H L β (.call ⟨.builtin .cap,#[x],#[T]⟩) ty c:=by
 unfold capE at h
 split at h
 . rename_i e hT
   split at h
   simp only[Option.some.injEq] at h;subst h
   simp only[VR] at hx;obtain⟨q,_,ex⟩:=hx
   exact⟨_,rfl,Gg_ ex hT⟩
   simp only[Option.some.injEq] at h;subst h
   simp only[VR] at hx
   exact⟨_,rfl,Gg_ hx hT⟩
   . cases h
 . cases h
def Kx_ (k:IntKind):List CV->Option (List Int)
 |[]=>some []
 | .int k' z::r=>bif decide (k'=k) then (match Kx_ k r with
   |some l=>some (z::l)
   |none=>none) else none
 |_::_=>none
theorem Ig_ {k:IntKind}:∀ {cs:List CV} {zs:List Int} {vs:List Value},Kx_ k cs=some zs->VRs β cs vs->vs=zs.map (Value.int k)
 |[],zs,vs,h,hv=>by simp only[Kx_,Option.some.injEq] at h;subst h;rw[hv.nil_inv];rfl
 |c::r,zs,vs,h,hv=>by
   obtain⟨v,us,rfl,h1,h2⟩:=hv.cons_inv
   cases c<;>simp only[Kx_] at h<;>first|(cases h;done)|skip
   rename_i k' z
   cases hk:decide (k'=k) with
   |false=>rw[hk] at h;cases h
   |true=>
     rw[hk] at h
     have :=of_decide_eq_true hk;subst this
     simp only[cond_true] at h
     split at h
     . rename_i l hl
       simp only[Option.some.injEq] at h;subst h
       simp only[VR] at h1;subst h1
       rw[Ig_ hl h2];rfl
     . cases h
theorem lo_minN {k:IntKind} {xs:List Operand} {z r:Int} (zs:List Int) {ats:Array TypeId} (hx:evs F xs=(z::zs).map (Value.int k)) (hr:zs.foldl min z=r):Lo P N (.call ⟨.builtin .min,xs.toArray,ats⟩) ty F H L (.int k r):=λd pos af g w _=>by
 refine G_ (args:=((z::zs).map (Value.int k)).toArray) (by simp[C5_,hx]) λcs=>?_
 have key:∀ (zs:List Int) (z:Int),((zs.map (Value.int k)).foldlM Builtin.min2 (Value.int k z)).run P w = .ok (Value.int k (zs.foldl min z)) w:=by
   intro zs
   induction zs with
   |nil=>intro z;simp
   |cons a r ih=>
     intro z
     have e:(if a<z then a else z)=min z a:=by omega
     simp only[List.map_cons,List.foldlM_cons,Builtin.min2,Sem.run_bind,Sem.run_pure,Result.andThen_ok,e,List.foldl_cons]
     exact ih _
 have :=key zs z
 simp[builtin,Builtin.min_,this,hr]
def mmE (b:Builtin) (cs:List CV):Option CV:=match cs with
 | .int k z::r=>match Kx_ k r with
   |some zs=>match b with
     | .min=>some (.int k (zs.foldl min z))
     | .max=>some (.int k (zs.foldl max z))
     |_=>none
   |none=>none
 |_=>none
theorem y_mm {b:Builtin} {xs:List Operand} {ats:Array TypeId} {cs:List CV} {c:CV} (hx:VRs β cs (evs F xs)) (h:mmE b cs=some c):Yl P N F H L β (.call ⟨.builtin b,xs.toArray,ats⟩) ty c:=by
 unfold mmE at h
 split at h
 . rename_i k z r
   split at h
   . rename_i zs hz
     obtain⟨v,us,e,h1,h2⟩:=hx.cons_inv
     simp only[VR] at h1;subst h1
     have e2:=Ig_ hz h2
     subst e2
     split at h
     simp only[Option.some.injEq] at h;subst h
     exact⟨_,rfl,lo_minN zs e Y⟩
     simp only[Option.some.injEq] at h;subst h
     exact⟨_,rfl,lo_maxN zs e Y⟩
     . cases h
   . cases h
 . cases h
end Go.CE
namespace Go.CE
open Go.SW
variable {P:Program} {N:SW.Rest} {F:Fr} {H:Hp} {L:Ls} {ty T T':TypeId} {x y z:Operand} {β:Be} {f:Fe}
def onE (f:Fe):Option Operand->Option (Option Nat)
 |none=>some none
 |some x=>match ef f x with
   |some c=>match natE c with
     |some n=>some (some n)
     |none=>none
   |none=>none
def Bd (l:Option Nat) (v:Option Value):Prop:=match l with
 |none=>v=none
 |some n=>∃ k,v=some (.int k (n:Int))
theorem Lm_ (hf:FR β f F) {o:Option Operand} {l:Option Nat} (h:onE f o=some l):Bd l (o.map (ev F)):=by
 unfold onE at h
 split at h
 simp only[Option.some.injEq] at h;subst h;rfl
 . split at h
   . rename_i c hc
     split at h
     . rename_i n hn
       simp only[Option.some.injEq] at h;subst h
       obtain⟨k,e⟩:=Bt_ hn (P_ hf hc)
       exact⟨k,by simp[e]⟩
     . cases h
   . cases h
def bdE (len cap:Nat) (lo hi mx:Option Nat):Option (Nat×Nat×Nat):=
 match mx with
 |none=>match hi with
   |none=>bif Nat.ble (lo.getD 0) len then some (lo.getD 0,len,cap) else none
   |some h=>bif Nat.ble h cap&&Nat.ble (lo.getD 0) h then some (lo.getD 0,h,cap) else none
 |some m=>match hi with
   |none=>none
   |some h=>bif Nat.ble m cap&&(Nat.ble h m&&Nat.ble (lo.getD 0) h) then some (lo.getD 0,h,m) else none
theorem Eg_ {i y:Nat} {k:IntKind} {c:BoundsCode} (h:i<=y) (w:World):(Instr.sliceBound (.int k (i:Int)) y c).run P w = .ok i w:=by
 have h2:((i:Nat):Int)<=(y:Int):=by omega
 simp[Instr.sliceBound,asIntOf,h]
theorem run_lo {lo:Option Nat} {a:Option Value} {y mm:Nat} {cd:BoundsCode} {w:World}:Bd lo a->lo.getD 0<=y->((match a with
     |some v=>do
       let l <- Instr.sliceBound v y cd
       pure (l,y,mm)
     |none=>do
       let l <- pure 0
       pure (l,y,mm)):Sem (Nat×Nat×Nat)).run P w = .ok (lo.getD 0,y,mm) w:=by
 intro h1 hy
 cases lo with
 |none=>simp only[Bd] at h1;subst h1;simp
 |some n=>
   obtain⟨k,rfl⟩:=h1
   have hn:n<=y:=hy
   simp[Eg_ (P:=P) (k:=k) (c:=cd) hn w]
theorem Er_ {len cap:Nat} {lo hi mx:Option Nat} {a b c:Option Value} {l h m:Nat} (he:bdE len cap lo hi mx=some (l,h,m)) (h1:Bd lo a) (h2:Bd hi b) (h3:Bd mx c) (q:Bool) (w:World):(Instr.sliceBounds q len cap a b c).run P w = .ok (l,h,m) w:=by
 unfold bdE at he
 split at he
 . simp only[Bd] at h3;subst h3
   split at he
   . simp only[Bd] at h2;subst h2
     cases hb:Nat.ble (lo.getD 0) len with
     |false=>rw[hb] at he;cases he
     |true=>
       rw[hb] at he
       simp only[cond_true,Option.some.injEq,Prod.mk.injEq] at he
       obtain⟨rfl,rfl,rfl⟩:=he
       have hy:lo.getD 0<=len:=Nat.le_of_ble_eq_true hb
       simp only[Instr.sliceBounds,Sem.run_bind,Sem.run_pure,Result.andThen_ok]
       cases lo with
       |none=>simp only[Bd] at h1;subst h1;simp
       |some n=>
         obtain⟨k1,rfl⟩:=h1
         have hn:n<=len:=hy
         simp[Eg_ (P:=P) (k:=k1) hn w]
   . rename_i hh
     obtain⟨k,rfl⟩:=h2
     cases hb:(Nat.ble hh cap&&Nat.ble (lo.getD 0) hh) with
     |false=>rw[hb] at he;cases he
     |true=>
       rw[hb] at he
       simp only[Bool.and_eq_true] at hb
       simp only[cond_true,Option.some.injEq,Prod.mk.injEq] at he
       obtain⟨rfl,rfl,rfl⟩:=he
       have e1:=Eg_ (P:=P) (k:=k) (c:=if q then .sliceAcap else .sliceAlen) (Nat.le_of_ble_eq_true hb.1) w
       have hy:lo.getD 0<=hh:=Nat.le_of_ble_eq_true hb.2
       simp only[Instr.sliceBounds,Sem.run_bind,Sem.run_pure,Result.andThen_ok,e1]
       cases lo with
       |none=>simp only[Bd] at h1;subst h1;simp
       |some n=>
         obtain⟨k1,rfl⟩:=h1
         have hn:n<=hh:=hy
         simp[Eg_ (P:=P) (k:=k1) hn w]
 . rename_i mm
   obtain⟨k3,rfl⟩:=h3
   split at he
   . cases he
   . rename_i hh
     obtain⟨k,rfl⟩:=h2
     cases hb:(Nat.ble mm cap&&(Nat.ble hh mm&&Nat.ble (lo.getD 0) hh)) with
     |false=>rw[hb] at he;cases he
     |true=>
       rw[hb] at he
       simp only[Bool.and_eq_true] at hb
       simp only[cond_true,Option.some.injEq,Prod.mk.injEq] at he
       obtain⟨rfl,rfl,rfl⟩:=he
       have e0:=Eg_ (P:=P) (k:=k3) (c:=if q then .slice3Acap else .slice3Alen) (Nat.le_of_ble_eq_true hb.1) w
       have e1:=Eg_ (P:=P) (k:=k) (c:= .slice3B) (Nat.le_of_ble_eq_true hb.2.1) w
       have hy:lo.getD 0<=hh:=Nat.le_of_ble_eq_true hb.2.2
       simp only[Instr.sliceBounds,Sem.run_bind,Sem.run_pure,Result.andThen_ok,e1,e0]
       cases lo with
       |none=>simp only[Bd] at h1;subst h1;simp
       |some n=>
         obtain⟨k1,rfl⟩:=h1
         have hn:n<=hh:=hy
         simp[Eg_ (P:=P) (k:=k1) hn w]
theorem H2_ {len cap:Nat} {lo hi mx:Option Nat} {l h m:Nat} (hc:len<=cap) (he:bdE len cap lo hi mx=some (l,h,m)):l<=h/\h<=m/\m<=cap:=by
 unfold bdE at he
 split at he
 . split at he
   . cases hb:Nat.ble (lo.getD 0) len with
     |false=>rw[hb] at he;cases he
     |true=>rw[hb] at he;simp only[cond_true,Option.some.injEq,Prod.mk.injEq] at he;obtain⟨rfl,rfl,rfl⟩:=he;have :=Nat.le_of_ble_eq_true hb;omega
   . rename_i hh
     cases hb:(Nat.ble hh cap&&Nat.ble (lo.getD 0) hh) with
     |false=>rw[hb] at he;cases he
     |true=>rw[hb] at he;simp only[cond_true,Option.some.injEq,Prod.mk.injEq] at he;obtain⟨rfl,rfl,rfl⟩:=he;simp only[Bool.and_eq_true] at hb;have :=Nat.le_of_ble_eq_true hb.1;have :=Nat.le_of_ble_eq_true hb.2;omega
 . rename_i mm
   split at he
   . cases he
   . rename_i hh
     cases hb:(Nat.ble mm cap&&(Nat.ble hh mm&&Nat.ble (lo.getD 0) hh)) with
     |false=>rw[hb] at he;cases he
     |true=>rw[hb] at he;simp only[cond_true,Option.some.injEq,Prod.mk.injEq] at he;obtain⟨rfl,rfl,rfl⟩:=he;simp only[Bool.and_eq_true] at hb;have :=Nat.le_of_ble_eq_true hb.1;have :=Nat.le_of_ble_eq_true hb.2.1;have :=Nat.le_of_ble_eq_true hb.2.2;omega
def slE (P:Program) (T:TypeId) (a:CV) (lo hi mx:Option Nat):Option CV:=match P.underlying T with
 |some .string=>match a with
   | .str n s=>match mx with
     |none=>match bdE n n lo hi none with
       |some (l,h,_)=>some (.str (h-l) (s/256 ^ l%256 ^ (h-l)))
       |none=>none
     |some _=>none
   |_=>none
 |some (.slice e)=>match szE P e with
   |some k=>match a with
     | .sl i o len cap=>bif Nat.ble len cap then (match bdE len cap lo hi mx with
       |some (l,h,m)=>some (.sl i (bif Nat.beq m l then o else o+l*k) (h-l) (m-l))
       |none=>none) else none
     | .slu i o len k'=>bif Nat.beq k k' then (match mx with
       |none=>match bdE len len lo hi none with
         |some (l,h,_)=>some (.slu i (o+l*k) (h-l) k)
         |none=>none
       |some m=>match bdE len len lo hi (some m) with
         |some (l,h,m)=>bif Nat.beq m l then none else some (.sl i (o+l*k) (h-l) (m-l))
         |none=>none) else none
     | .nils=>match bdE 0 0 lo hi mx with
       |some _=>some .nils
       |none=>none
     |_=>none
   |none=>none
 |some (.array n e)=>match szE P e with
   |some k=>match a with
     | .ptr i o=>match bdE n n lo hi mx with
       |some (l,h,m)=>some (.sl i (bif Nat.beq m l then o else o+l*k) (h-l) (m-l))
       |none=>none
     |_=>none
   |none=>none
 |_=>none
theorem if_beq {m l o k:Nat} {b:Nat}:(if m=l then (⟨b,o,none⟩:Addr) else (⟨b,o,none⟩:Addr).add (l*k))=⟨b,bif Nat.beq m l then o else o+l*k,none⟩:=by
 by_cases h:m=l;subst h;simp;have :Nat.beq m l=false:=De_ h;simp[h,this,M_]
theorem Mz_ {len cap:Nat} {lo hi:Option Nat} {l h m:Nat} (hc:len<=cap) (he:bdE len len lo hi none=some (l,h,m)):bdE len cap lo hi none=some (l,h,cap)/\h<=len:=by
 unfold bdE at he ⊢;simp only at he ⊢
 split at he
 . cases hb:Nat.ble (lo.getD 0) len with
   |false=>rw[hb] at he;cases he
   |true=>rw[hb] at he;simp only[cond_true,Option.some.injEq,Prod.mk.injEq] at he;obtain⟨rfl,rfl,rfl⟩:=he;simp
 . rename_i hh
   cases hb:(Nat.ble hh len&&Nat.ble (lo.getD 0) hh) with
   |false=>rw[hb] at he;cases he
   |true=>
     rw[hb] at he;simp only[cond_true,Option.some.injEq,Prod.mk.injEq] at he;obtain⟨rfl,rfl,rfl⟩:=he
     simp only[Bool.and_eq_true] at hb
     have h1:=Nat.le_of_ble_eq_true hb.1
     have :Nat.ble hh cap=true:=Nat.ble_eq_true_of_le yY
     simp[this,hb.2];exact h1
theorem Jy_ {len cap:Nat} {lo hi:Option Nat} {l h m m0:Nat} (hc:len<=cap) (he:bdE len len lo hi (some m0)=some (l,h,m)):bdE len cap lo hi (some m0)=some (l,h,m)/\m<=len/\m=m0:=by
 unfold bdE at he ⊢;simp only at he ⊢
 split at he
 . cases he
 . rename_i hh
   cases hb:(Nat.ble m0 len&&(Nat.ble hh m0&&Nat.ble (lo.getD 0) hh)) with
   |false=>rw[hb] at he;cases he
   |true=>
     rw[hb] at he;simp only[cond_true,Option.some.injEq,Prod.mk.injEq] at he;obtain⟨rfl,rfl,rfl⟩:=he
     simp only[Bool.and_eq_true] at hb
     have h1:=Nat.le_of_ble_eq_true hb.1
     have :Nat.ble m0 cap=true:=Nat.ble_eq_true_of_le yY
     simp[this,hb.2.1,hb.2.2];exact h1
theorem y_sl {lo hi mx:Option Operand} {l0 h0 m0:Option Nat} {a c:CV} (hf:FR β f F) (hx:VR β a (ev F x)) (h1:onE f lo=some l0) (h2:onE f hi=some h0) (h3:onE f mx=some m0) (h:slE P T a l0 h0 m0=some c):Yl P N F H L β (.slice T x lo hi mx) ty c:=by
 have b1:=Lm_ hf h1;have b2:=Lm_ hf h2;have b3:=Lm_ hf h3;unfold slE at h
 split at h
 . rename_i hT
   split at h
   . rename_i n s
     simp only[VR] at hx
     split at h
     . split at h
       . rename_i l hh mm hb
         simp only[Option.some.injEq] at h;subst h
         obtain⟨e1,e2,e3⟩:=H2_ (Nat.le_refl _) hb
         refine⟨_,⟨Nat.mod_lt _ (Nat.pow_pos yY),rfl⟩,λ_ _ _ _ w _=>?_⟩
         have hr:=Er_ (P:=P) hb b1 b2 (show Bd none none from rfl) false w
         have hm:mx.map (ev F)=none:=b3
         have hs:(⟨(dec n s).toArray⟩:ByteArray).size=n:=by rw[Bg_,B_]
         have key:(⟨(dec n s).toArray⟩:ByteArray).extract l hh=⟨(dec (hh-l) (s/256 ^ l%256 ^ (hh-l))).toArray⟩:=by
           rw[B6_,Bq_ l n s yY,Bc_ (hh-l) (n-l) _ yY]
         have ex:ev F x = .string ⟨(dec n s).toArray⟩:=hx.2
         simp only[execOp,Instr.sliceAt,Instr.slice,ex,run_underlying hT,Sem.run_bind,Result.andThen_ok,hm,hs,hr,Sem.run_pure,key,Option.isSome_none,Bool.false_eq_true,if_false]
         rfl
       . cases h
     . cases h
   . cases h
 . rename_i e hT
   split at h
   . rename_i k hk
     split at h
     . rename_i i o len cap
       simp only[VR] at hx;obtain⟨q,hq,ex⟩:=hx
       cases hlc:Nat.ble len cap with
       |false=>rw[hlc] at h;cases h
       |true=>
         rw[hlc] at h
         simp only[cond_true] at h
         split at h
         . rename_i l hh mm hb
           simp only[Option.some.injEq] at h;subst h
           refine⟨_,by simp only[VR];exact⟨q,hq,rfl⟩,λ_ _ _ _ w _=>?_⟩
           have hr:=Er_ (P:=P) hb b1 b2 b3 true w
           simp only[execOp,Instr.sliceAt,Instr.slice,ex,run_underlying hT,Sem.run_bind,Result.andThen_ok,hr,Sem.run_pure,Ah_ hk w,Option.map_some]
           congr 4
           by_cases hml:mm=l
           . subst hml;simp
           . exact zM
         . cases h
     . rename_i i o len k'
       simp only[VR] at hx;obtain⟨q,cc,aa,hq,hroom,hle,ex,hae⟩:=hx
       cases hkk:Nat.beq k k' with
       |false=>rw[hkk] at h;cases h
       |true=>
       rw[hkk] at h
       have :=Nat.eq_of_beq_eq_true hkk
       subst this
       simp only[cond_true] at h
       split at h
       . split at h
         . rename_i l hh mm hb
           simp only[Option.some.injEq] at h;subst h
           obtain⟨hb2,hl⟩:=Mz_ hle hb
           obtain⟨e1,e2,e3⟩:=H2_ hle hb2
           refine ⟨_,by
             simp only[VR]
             refine⟨q,cc-l,if cc=l then aa else aa.add (l*k),hq,?_,by omega,rfl,λh0=>?_⟩
             . have :cc*k=l*k+(cc-l)*k:=by rw[<- Nat.add_mul];congr 1;omega
               omega
             . rw[if_neg yY,hae yY,M_,Nat.add_assoc],λ_ _ _ _ w _=>?_⟩
           have hr:=Er_ (P:=P) hb2 b1 b2 b3 true w
           simp only[execOp,Instr.sliceAt,Instr.slice,ex,run_underlying hT,Sem.run_bind,Result.andThen_ok,hr,Sem.run_pure,Ah_ hk w,Option.map_some]
           congr 3
           split<;>rfl
         . cases h
       . split at h
         . rename_i m00 _ l hh mm hb
           obtain⟨hb2,hl,_⟩:=Jy_ hle hb
           obtain⟨e1,e2,e3⟩:=H2_ hle hb2
           cases hml:Nat.beq mm l with
           |true=>rw[hml] at h;cases h
           |false=>
             rw[hml] at h
             simp only[cond_false,Option.some.injEq] at h;subst h
             have hne:=Nat.ne_of_beq_eq_false hml
             have ha:=hae yY
             subst ha
             refine⟨_,by simp only[VR];exact⟨q,hq,rfl⟩,λ_ _ _ _ w _=>?_⟩
             have hr:=Er_ (P:=P) hb2 b1 b2 b3 true w
             simp only[execOp,Instr.sliceAt,Instr.slice,ex,run_underlying hT,Sem.run_bind,Result.andThen_ok,hr,Sem.run_pure,Ah_ hk w,Option.map_some]
             simp[hne,M_,Nat.add_assoc]
         . cases h
     . simp only[VR] at hx
       split at h
       . rename_i l hb
         obtain⟨l,hh,mm⟩:=l
         simp only[Option.some.injEq] at h;subst h
         obtain⟨e1,e2,e3⟩:=H2_ (Nat.le_refl _) hb
         have l0:l=0:=by omega
         have l1:hh=0:=by omega
         have l2:mm=0:=by omega
         subst l0;subst l1;subst l2
         refine⟨_,rfl,λ_ _ _ _ w _=>?_⟩
         have hr:=Er_ (P:=P) hb b1 b2 b3 true w
         simp[execOp,Instr.sliceAt,Instr.slice,hx,run_underlying hT,hr,Ah_ hk w]
       . cases h
     . cases h
   . cases h
 . rename_i n e hT
   split at h
   . rename_i k hk
     split at h
     . rename_i i o
       simp only[VR] at hx;obtain⟨q,hq,ex⟩:=hx
       split at h
       . rename_i l hh mm hb
         simp only[Option.some.injEq] at h;subst h
         refine⟨_,by simp only[VR];exact⟨q,hq,rfl⟩,λ_ _ _ _ w _=>?_⟩
         have hr:=Er_ (P:=P) hb b1 b2 b3 false w
         simp only[execOp,Instr.sliceAt,Instr.sureAddr,ex,run_underlying hT,Sem.run_bind,Result.andThen_ok,hr,Sem.run_pure,Ah_ hk w]
         congr 4
         by_cases hml:mm=l
         subst hml;simp
         exact zM
       . cases h
     . cases h
   . cases h
 . cases h
end Go.CE
namespace Go.CE
open Go.SW
noncomputable section
variable {P:Program} {n:Nat} {N:SW.Rest} {F:Fr} {H:Hp} {L:Ls} {ty T T':TypeId} {x y z:Operand} {β:Be} {f:Fe} {h:He} {nx:Nat}
abbrev Gt:=List (Nat×List CV)
def gbE:Gt->Nat->Option (List CV)
 |[],_=>none
 |(a,cs)::r,g=>bif Nat.beq a g then some cs else gbE r g
structure GH (G:Gt) (H:Hp):Prop where
 h:∀ g cs,gbE G g=some cs->∃ vs T fr,H g=some (.cells vs T fr)/\∀ β,VRs β cs vs.toList
theorem J0_ {cs:List CV} {vs:List Value} {s:Nat} (hv:VRs β cs ((vs.drop s).take cs.length)) {o:Nat} {c:CV} (hc:cs[o]? = some c):∃ v,vs[s+o]? = some v/\VR β c v:=by
 obtain⟨v,e,h1⟩:=hv.get hc;have hlt:o<cs.length:=(List.getElem?_eq_some_iff.1 hc).1;rw[List.getElem?_take,if_pos hlt,List.getElem?_drop] at e;exact⟨v,e,h1⟩
theorem Dg_ {vs:List Value} {s m o k:Nat} (hm:o+k<=m):(((vs.drop s).take m).drop o).take k=sub vs (s+o) k:=by
 unfold sub;rw[List.drop_take,List.take_take,List.drop_drop,Nat.min_eq_left yY]
def u8s (n x:Nat):List CV:=match n with
 |0=>[]
 |n+1=> .int .u8 ((x%256:Nat):Int)::u8s n (x/256)
theorem Pp_:∀ (n x:Nat),VRs β (u8s n x) ((dec n x).map u8v)
 |0,_=> .nil
 |n+1,x=>by
   simp only[u8s,dec,List.map_cons]
   refine .cons ?_ (Pp_ n _)
   simp only[VR,u8v]
   simp
theorem Jl_:∀ (n x:Nat),(u8s n x).length=n
 |0,_=>rfl
 |n+1,x=>by simp[u8s,Jl_ n]
def ldE (P:Program) (G:Gt) (h:He) (T:TypeId) (a:CV):Option CV:=match agE P T with
 |some true=>match szE P T with
   |some k=>match a with
     | .ptr i o=>match h.get i with
       |some (.cells _ cs _)=>bif Nat.ble (o+k) cs.length then some (.agg ((cs.drop o).take k)) else none
       |some (.bys _ m z _)=>bif Nat.ble (o+k) m then some (.agg (u8s k (z/256 ^ o%256 ^ k))) else none
       |_=>none
     |_=>none
   |none=>none
 |some false=>match a with
   | .ptr i o=>match h.get i with
     |some (.cells _ cs _)=>cs[o]?
     |some (.bys _ m z _)=>bif Nat.blt o m then some (.int .u8 ((z/256 ^ o%256:Nat):Int)) else none
     |some (.rob _ m z)=>bif Nat.blt o m then some (.int .u8 ((z/256 ^ o%256:Nat):Int)) else none
     |_=>none
   | .gp g o=>match gbE G g with
     |some cs=>cs[o]?
     |none=>none
   |_=>none
 |none=>none
theorem y_ld {G:Gt} {a c:CV} (hG:GH G H) (hh:HR β h nx L) (hx:VR β a (ev F x)) (he:ldE P G h T a=some c):Yl P N F H L β (.load T x) ty c:=by
 unfold ldE at he
 split at he
 . rename_i hg
   split at he
   . rename_i k hk
     split at he
     . rename_i i o
       simp only[VR] at hx;obtain⟨q,hq,ex⟩:=hx
       split at he
       . rename_i T0 cs gr hi
         cases hb:Nat.ble (o+k) cs.length with
         |false=>rw[hb] at he;cases he
         |true=>
           rw[hb] at he
           have hle:=Nat.le_of_ble_eq_true hb
           simp only[cond_true,Option.some.injEq] at he;subst he
           obtain⟨q',vs,h1,h2,h3,h4,_,h6,_⟩:=hh.br i _ hi
           rw[hq] at h1;cases h1
           have hs:sub vs (q.s+o) k=(((vs.drop q.s).take cs.length).drop o).take k:=(Dg_ hle).symm
           refine⟨.agg (sub vs (q.s+o) k).toArray,?_,Dn_ ex (Cg_ hg) (Ah_ hk) h2 Y ?_⟩
           . simp only[VR];rw[hs];exact⟨_,rfl,(h6.drop o).take k⟩
           . simp[sub];omega
       . rename_i T0 m zz gr hi
         cases hb:Nat.ble (o+k) m with
         |false=>rw[hb] at he;cases he
         |true=>
           rw[hb] at he
           have hle:=Nat.le_of_ble_eq_true hb
           simp only[cond_true,Option.some.injEq] at he;subst he
           obtain⟨q',vs,h1,h2,h3,h4,_,_,h6,_⟩:=hh.br i _ hi
           rw[hq] at h1;cases h1
           have hs:sub vs (q.s+o) k=(((vs.drop q.s).take m).drop o).take k:=(Dg_ hle).symm
           refine⟨.agg (sub vs (q.s+o) k).toArray,?_,Dn_ ex (Cg_ hg) (Ah_ hk) h2 Y ?_⟩
           . simp only[VR];rw[hs,h6,<- List.map_drop,<- List.map_take,Bq_ o m zz yY,Bc_ k (m-o) _ yY]
             exact⟨_,rfl,Pp_ _ _⟩
           . simp[sub];omega
       . cases he
     . cases he
   . cases he
 . rename_i hg
   split at he
   . rename_i i o
     simp only[VR] at hx;obtain⟨q,hq,ex⟩:=hx
     split at he
     . rename_i T0 cs gr hi
       obtain⟨q',vs,h1,h2,h3,h4,_,h6,_⟩:=hh.br i _ hi
       rw[hq] at h1;cases h1
       obtain⟨v,e,hv⟩:=J0_ h6 he
       exact⟨v,hv,Ay_ ex (Cg_ hg) h2 e⟩
     . rename_i T0 m zz gr hi
       cases hb:Nat.blt o m with
       |false=>rw[hb] at he;cases he
       |true=>
         rw[hb] at he
         have hlt:=A4_ hb
         simp only[cond_true,Option.some.injEq] at he;subst he
         obtain⟨q',vs,h1,h2,h3,h4,_,_,h6,_⟩:=hh.br i _ hi
         rw[hq] at h1;cases h1
         have e:vs[q.s+o]? = some (u8v (UInt8.ofNat (zz/256 ^ o%256))):=by
           have :=congrArg (λl:List Value=>l[o]?) h6
           simp only[List.getElem?_map,Dz_ m zz o hlt,Option.map_some] at this
           rw[List.getElem?_take,if_pos hlt,List.getElem?_drop] at this
           exact this
         refine⟨_,?_,Ay_ ex (Cg_ hg) h2 e⟩
         simp only[VR,u8v];simp
     . rename_i T0 m zz hi
       cases hb:Nat.blt o m with
       |false=>rw[hb] at he;cases he
       |true=>
         rw[hb] at he
         have hlt:=A4_ hb
         simp only[cond_true,Option.some.injEq] at he;subst he
         obtain⟨q',vs,fr,h1,h2,h3,h4,h6⟩:=hh.br i _ hi
         rw[hq] at h1;cases h1
         have e:vs[o]? = some (u8v (UInt8.ofNat (zz/256 ^ o%256))):=by
           have :=congrArg (λl:List Value=>l[o]?) h6
           simp only[List.getElem?_map,Dz_ m zz o hlt,Option.map_some] at this
           rw[List.getElem?_take,if_pos hlt] at this
           exact yR
         rw[h3,Nat.zero_add] at ex
         refine⟨u8v (UInt8.ofNat (zz/256 ^ o%256)),?_,λd pos af g w hm=>?_⟩
         . simp only[VR,u8v];simp
         . have hc:w.cell? ⟨q.b,o,none⟩=some (u8v (UInt8.ofNat (zz/256 ^ o%256))):=by simp[World.cell?,hm.l i q.b _ h2,e]
           simp[execOp,Instr.loadAt,ex,Instr.sureAddr,loadVar,Cg_ hg w,hc]
     . cases he
   . rename_i g o
     simp only[VR] at hx
     split at he
     . rename_i cs hg2
       obtain⟨vs,T0,fr,h1,h2⟩:=hG.h g cs hg2
       obtain⟨v,e,hv⟩:=(h2 β).get he
       exact⟨v,hv,Ik_ hx (Cg_ hg) h1 (by simpa using e)⟩
     . cases he
   . cases he
 . cases he
def b2sE (P:Program) (h:He) (T T':TypeId) (a:CV):Option CV:=match P.underlying T with
 |some (.slice e)=>match P.underlying T' with
   |some .string=>match P.underlying e with
     |some (.int .u8)=>match a with
       | .sl i o len _=>match h.get i with
         |some (.bys _ m z _)=>bif Nat.ble (o+len) m then some (.str len (z/256 ^ o%256 ^ len)) else none
         |_=>none
       | .slu i o len _=>match h.get i with
         |some (.bys _ m z _)=>bif Nat.ble (o+len) m&&Nat.blt 0 len then some (.str len (z/256 ^ o%256 ^ len)) else none
         |_=>none
       | .nils=>some (.str 0 0)
       |_=>none
     |_=>none
   |_=>none
 |_=>none
theorem lo_b2sG {e b o cap i T2:Nat} (l:Bs) {vs:List Value} (hx:ev F x = .slice (some ⟨b,o,none⟩) l.length cap) (hT:P.underlying T=some (.slice e)) (hT':P.underlying T'=some .string) (he:P.underlying e=some (.int .u8)) (hi:L i=some (b,bx T2 vs)) (hz:sub vs o l.length=l.map u8v) :
   Lo P N (.convert T T' x) ty F H L (SW.str l):=λd pos af g w hm=>by
 have :=run_convert_bytes_back (P:=P) w T T' e ⟨b,o,none⟩ cap l hT he hT' (λj hj=>by
   rw[M_]
   refine hm.cellL hi ?_
   have e1:=congrArg (λl:List Value=>l[j]?) hz
   simp only[sub,List.getElem?_take,if_pos hj,List.getElem?_drop] at e1
   rw[e1]
   simp[hj,u8v])
 simp[execOp,hx,this,SW.str]
theorem N5_ {e:TypeId} (hT:P.underlying T=some (.slice e)) (hT':P.underlying T'=some .string) (he:P.underlying e=some (.int .u8)) (w:World):(convert T T' (.slice none 0 0)).run P w = .ok (SW.str []) w:=by
 simp[convert,run_underlying hT,run_underlying hT',run_underlying he,Conv.bytesToString,SW.str];rfl
theorem y_b2s {a c:CV} (hh:HR β h nx L) (hx:VR β a (ev F x)) (he:b2sE P h T T' a=some c):Yl P N F H L β (.convert T T' x) ty c:=by
 have key:∀ {i o len m zz T0:Nat} {gr:Bool} {q:Pl} {cap:Nat},β i=some q->h.get i=some (.bys T0 m zz gr)->Nat.ble (o+len) m=true->∀ {e:TypeId},P.underlying T=some (.slice e)->P.underlying T'=some .string->P.underlying e=some (.int .u8) ->
     ev F x = .slice (some ⟨q.b,q.s+o,none⟩) len cap->Yl P N F H L β (.convert T T' x) ty (.str len (zz/256 ^ o%256 ^ len)):=by
   intro i o len m zz T0 gr q cap hq hi hb e hT hT' hu ex
   have hle:=Nat.le_of_ble_eq_true hb
   obtain⟨q',vs,h1,h2,h3,h4,_,_,h6,_⟩:=hh.br i _ hi
   rw[hq] at h1;cases h1
   refine⟨_,⟨Nat.mod_lt _ (Nat.pow_pos yY),rfl⟩,lo_b2sG (dec len (zz/256 ^ o%256 ^ len)) (by rw[B_];exact ex) hT hT' hu h2 ?_⟩
   rw[B_,<- Dg_ (m:=m) hle,h6,<- List.map_drop,<- List.map_take,Bq_ o m zz yY,Bc_ len (m-o) _ yY]
 unfold b2sE at he
 split at he
 . rename_i e hT
   split at he
   . rename_i hT'
     split at he
     . rename_i hu
       split at he
       . rename_i i o len cap
         simp only[VR] at hx;obtain⟨q,hq,ex⟩:=hx
         split at he
         . rename_i T0 m zz gr hi
           cases hb:Nat.ble (o+len) m with
           |false=>rw[hb] at he;cases he
           |true=>
             rw[hb] at he
             simp only[cond_true,Option.some.injEq] at he;subst he
             exact key hq hi hb hT hT' hu ex
         . cases he
       . rename_i i o len k
         simp only[VR] at hx;obtain⟨q,cc,aa,hq,_,hle,ex,ha⟩:=hx
         split at he
         . rename_i T0 m zz gr hi
           cases hb:(Nat.ble (o+len) m&&Nat.blt 0 len) with
           |false=>rw[hb] at he;cases he
           |true=>
             rw[hb] at he
             simp only[Bool.and_eq_true] at hb
             simp only[cond_true,Option.some.injEq] at he;subst he
             have :=A4_ hb.2
             have ha:=ha yY;subst ha
             exact key hq hi hb.1 hT hT' hu ex
         . cases he
       simp only[VR] at hx
       simp only[Option.some.injEq] at he;subst he
       refine⟨SW.str [],by simp only[VR];exact⟨by simp,rfl⟩,λ_ _ _ _ w _=>?_⟩
       simp[execOp,hx,N5_ hT hT' hu w]
       . cases he
     . cases he
   . cases he
 . cases he
end
end Go.CE
namespace Go.CE
open Go.SW
noncomputable section
variable {P:Program} {n:Nat} {N:SW.Rest} {F:Fr} {H:Hp} {L:Ls} {ty T T':TypeId} {x y z:Operand} {β:Be} {f:Fe} {h:He} {nx:Nat}
structure Post (β:Be) (h:He) (nx:Nat) (L:Ls) (β':Be) (h':He) (nx':Nat) (L':Ls):Prop where
 le:β.le β'
 nle:nx<=nx'
 hr:HR β' h' nx' L'
 fr:∀ i,i<nx->h.get i=none->L' i=L i/\β' i=β i/\h'.get i=none
theorem Post.refl (hr:HR β h nx L):Post β h nx L β h nx L:=⟨.refl _,Nat.le_refl _,hr,λ_ _ e=>⟨rfl,rfl,e⟩⟩
theorem Post.trans {β' β'':Be} {h' h'':He} {nx' nx'':Nat} {L' L'':Ls} (a:Post β h nx L β' h' nx' L') (b:Post β' h' nx' L' β'' h'' nx'' L''):Post β h nx L β'' h'' nx'' L'':=
 ⟨a.le.trans b.le,Nat.le_trans a.nle b.nle,b.hr,λi hi e=>by
   obtain⟨a1,a2,a3⟩:=a.fr i hi e
   obtain⟨b1,b2,b3⟩:=b.fr i (Nat.lt_of_lt_of_le hi a.nle) a3
   exact⟨b1.trans a1,b2.trans a2,b3⟩⟩
def bset (β:Be) (i:Nat) (q:Pl):Be:=λj=>if j=i then some q else β j
theorem Ar_ {i:Nat} {q:Pl} (h:β i=none):β.le (bset β i q):=λj p e=>by
 unfold bset;split
 . rename_i e';subst e';rw[h] at e;cases e
 . exact e
theorem H_ {i:Nat} {q:Pl}:bset β i q i=some q:=by simp[bset]
theorem Post.new {h':He} {hb:HB} {q:Pl} {x:Option (Nat×Obj)} (hr:HR β h nx L) (h1:h'.get nx=some hb) (h2:∀ j,j≠nx->h'.get j=h.get j) (hB:BR (bset β nx q) nx hb x):Post β h nx L (bset β nx q) h' (nx+1) (lupd L nx x):=by
 have h0:=(hr.fr nx (Nat.le_refl _)).1;refine⟨Ar_ h0,Nat.le_succ _,⟨λi b e=>?_,λi b e=>?_,λi hi=>?_⟩,λi hi e=>?_⟩;by_cases e':i=nx
 . subst e';rw[h1] at e;cases e;rw[D_];exact hB
 rw[h2 i e'] at e;rw[C_ _ _ _ _ e'];exact (hr.br i b e).mono (Ar_ h0);by_cases e':i=nx;omega;rw[h2 i e'] at e;have :=hr.lt i b e;omega;have e':i≠nx:=by omega
 rw[C_ _ _ _ _ e'];have :=hr.fr i yY;exact⟨by unfold bset;rw[if_neg e'];exact this.1,this.2⟩;have e':i≠nx:=by omega
 rw[C_ _ _ _ _ e',h2 i e'];exact⟨rfl,by unfold bset;rw[if_neg e'],e⟩
theorem Post.set {h':He} {i:Nat} {hb hb0:HB} {x:Option (Nat×Obj)} (hr:HR β h nx L) (h0:h.get i=some hb0) (h1:h'.get i=some hb) (h2:∀ j,j≠i->h'.get j=h.get j) (hB:BR β i hb x):Post β h nx L β h' nx (lupd L i x):=by
 have hlt:=hr.lt i _ h0;refine⟨.refl _,Nat.le_refl _,⟨λj b e=>?_,λj b e=>?_,λj hj=>?_⟩,λj hj e=>?_⟩;by_cases e':j=i
 . subst e';rw[h1] at e;cases e;rw[D_];exact hB
 rw[h2 j e'] at e;rw[C_ _ _ _ _ e'];exact hr.br j b e;by_cases e':j=i;subst e';exact hlt;rw[h2 j e'] at e;exact hr.lt j b e;have e':j≠i:=by omega
 rw[C_ _ _ _ _ e'];exact hr.fr j hj;have e':j≠i:=λq=>by subst q;rw[h0] at e;cases e
 rw[C_ _ _ _ _ e',h2 j e'];exact⟨rfl,rfl,e⟩
def pkE:List CV->Option (Nat×Nat)
 |[]=>some (0,0)
 | .int .u8 (.ofNat z)::r=>bif Nat.blt z 256 then (match pkE r with
   |some (n,x)=>some (n+1,z+256*x)
   |none=>none) else none
 |_::_=>none
theorem Iu_:∀ {cs:List CV} {m x:Nat} {vs:List Value},pkE cs=some (m,x)->VRs β cs vs->vs=(dec m x).map u8v/\x<256 ^ m
 |[],m,x,vs,e,hv=>by simp only[pkE,Option.some.injEq,Prod.mk.injEq] at e;obtain⟨rfl,rfl⟩:=e;rw[hv.nil_inv];exact⟨rfl,by simp⟩
 |c::r,m,x,vs,e,hv=>by
   obtain⟨v,us,rfl,h1,h2⟩:=hv.cons_inv
   unfold pkE at e
   split at e
   . rename_i e0;cases e0
   . rename_i z r' e0
     cases e0
     cases hb:Nat.blt z 256 with
     |false=>rw[hb] at e;cases e
     |true=>
       rw[hb] at e
       have hlt:=A4_ hb
       simp only[cond_true] at e
       split at e
       . rename_i m' x' hr
         simp only[Option.some.injEq,Prod.mk.injEq] at e;obtain⟨rfl,rfl⟩:=e
         obtain⟨e1,e2⟩:=Iu_ hr h2
         simp only[VR] at h1;subst h1
         have a1:(z+256*x')%256=z:=by omega
         have a2:(z+256*x')/256=x':=by omega
         refine⟨?_,by rw[Nat.pow_succ];omega⟩
         simp only[dec,List.map_cons,a1,a2,<- e1,u8v]
         congr 2
         rw[UInt8.toNat_ofNat']
         have :z%2 ^ 8=z:=Nat.mod_eq_of_lt hlt
         rw[this];rfl
       . cases e
   . cases e
def isB (P:Program) (T:TypeId):Bool:=match P.underlying T with
 |some (.int .u8)=>true
 |some (.array _ e)=>match P.underlying e with
   |some (.int .u8)=>true
   |_=>false
 |_=>false
def mkB (P:Program) (T:TypeId) (cs:List CV):Option HB:=match isB P T with
 |true=>match pkE cs with
   |some (n,x)=>some (.bys T n x false)
   |none=>none
 |false=>bif all1 cs then some (.cells T cs false) else none
theorem Gl_ {cs:List CV} {hb:HB} {vs:List Value} {i b:Nat} (e:mkB P T cs=some hb) (hv:VRs β cs vs) (hi:β i=some ⟨b,0,vs.length⟩):BR β i hb (some (b,bx T vs)):=by
 unfold mkB at e
 split at e
 . split at e
   . rename_i m x hp
     simp only[Option.some.injEq] at e;subst e
     obtain⟨e1,e2⟩:=Iu_ hp hv
     have hl:vs.length=m:=by rw[e1];simp[B_]
     refine⟨_,vs,hi,rfl,by simp,by simp;omega,λ_=>⟨rfl,by simp;omega⟩,e2,?_,λv hv=>?_⟩
     rw[List.drop_zero,<- hl,List.take_length];exact hl ▸ e1
     rw[e1] at hv;obtain⟨a,_,rfl⟩:=List.mem_map.1 hv;rfl
   . cases e
 . cases ha:all1 cs with
   |false=>rw[ha] at e;cases e
   |true=>
     rw[ha] at e
     simp only[cond_true,Option.some.injEq] at e;subst e
     have hl:=hv.length
     refine⟨_,vs,hi,rfl,by simp,by simp;omega,λ_=>⟨rfl,hl⟩,?_,A3_ hv ha⟩
     rw[List.drop_zero,<- hl,List.take_length];exact hv
def Es (P:Program) (n:Nat) (N:SW.Rest) (F:Fr) (H:Hp) (L:Ls) (β:Be) (h:He) (nx:Nat) (o:Oper) (c:CV) (h':He) (nx':Nat):Prop:=
 ∀ (ops:List Oper) (K:Fr->Hp->Ls->Prop),(∀ β' v L',VR β' c v->Post β h nx L β' h' nx' L'->K (putO F o.dst v) H L')->Op1 P n N ops o K F H L
theorem Es.of_yl {op:Op} {d:Nat} {pos:String} {af:Array Edge} {c:CV} (hd:Nat.blt d n=true) (hr:HR β h nx L) (hy:Yl P N F H L β op ty c):Es P n N F H L β h nx ⟨some d,op,ty,pos,af,none⟩ c h nx:=λops K k=>by
 obtain⟨v,h1,h2⟩:=hy
 exact Ea_ hd h2 (k β v L h1 (.refl hr))
abbrev Ke (R:Type):=CV->He->Nat->Option R
def newE {R:Type} (P:Program) (h:He) (nx:Nat) (T:TypeId) (cs:List CV) (k:Ke R):Option R:=match mkB P T cs with
 |some hb=>Tr.setK 40 h nx hb λh=>k (.ptr nx 0) h (nx+1)
 |none=>none
theorem Lg_ {R:Type} {cs:List CV} {k:Ke R} {z:R} (e:newE P h nx T cs k=some z):∃ h',k (.ptr nx 0) h' (nx+1)=some z/\∀ {β:Be} {L:Ls} {vs:List Value} (b:Nat),HR β h nx L->VRs β cs vs->VR (bset β nx ⟨b,0,vs.length⟩) (.ptr nx 0) (.pointer (some ⟨b,0,none⟩))/\Post β h nx L (bset β nx ⟨b,0,vs.length⟩) h' (nx+1) (lupd L nx (some (b,bx T vs))):=by
 unfold newE at e
 split at e
 . rename_i hb hB
   obtain⟨h',e1,e2,e3⟩:=Tr.setK_ok _ _ _ _ _ _ e
   exact zR
 . cases e
def alE {R:Type} (P:Program) (h:He) (nx:Nat) (T:TypeId) (k:Ke R):Option R:=match Eo_ P T with
 |some cs=>newE P h nx T cs k
 |none=>none
theorem e_al {R:Type} {k:Ke R} {r:R} {d:Nat} {pos:String} {af:Array Edge} (e:alE P h nx T k=some r):∃ c h' nx',k c h' nx'=some r/\∀ {β:Be} {L:Ls} {F:Fr},Nat.blt d n=true->HR β h nx L->Es P n N F H L β h nx ⟨some d, .alloc T,ty,pos,af,none⟩ c h' nx':=by
 unfold alE at e
 split at e
 . rename_i cs hz
   obtain⟨h',e1,e2⟩:=Lg_ e
   refine⟨_,h',_,e1,λ{β L F} hd hr ops K k=>?_⟩
   obtain⟨zv,z1,z2⟩:=A1_ (β:=β) hz
   refine By_ (cs:=zv.cells.toList) nx hd (λw=>⟨zv,z1 w,by simp⟩) λb=>?_
   obtain⟨a1,a2⟩:=e2 b hr z2
   exact k _ _ _ a1 a2
 . cases e
def bxE {R:Type} (P:Program) (h:He) (nx:Nat) (T:TypeId) (a:CV) (k:Ke R):Option R:=match Dv_ a with
 |some cs=>newE P h nx T cs k
 |none=>none
theorem e_bx {R:Type} {k:Ke R} {r:R} {a:CV} {d:Nat} {pos:String} {af:Array Edge} (e:bxE P h nx T a k=some r):∃ c h' nx',k c h' nx'=some r/\∀ {β:Be} {L:Ls} {F:Fr},Nat.blt d n=true->HR β h nx L->VR β a (ev F x)->Es P n N F H L β h nx ⟨some d, .box T x,ty,pos,af,none⟩ c h' nx':=by
 unfold bxE at e
 split at e
 . rename_i cs hc
   obtain⟨h',e1,e2⟩:=Lg_ e
   refine⟨_,h',_,e1,λ{β L F} hd hr hx ops K k=>?_⟩
   have hv:=Bh_ hc hx
   intro ac w ha hm
   rw[if_pos xC]
   unfold Oper.wp
   have :(execOp ac.eval ⟨some d, .box T x,ty,pos,af,none⟩).run P w = .ok (.value (.pointer (some ⟨w.heap.size,0,none⟩))) {w with heap:=w.heap.push (bx T (ev F x).cells.toList)}:=by
     rw[ha.eval]
     simp[execOp,Instr.box,newVar,newRow,bx]
   rw[this]
   obtain⟨a1,a2⟩:=e2 w.heap.size hr hv
   exact⟨_,H,_,ha.put xF _,hm.push nx _,k _ _ _ a1 a2⟩
 . cases e
def stE {R:Type} (P:Program) (h:He) (nx:Nat) (T:TypeId) (a b:CV) (k:Ke R):Option R:=match a with
 | .ptr i o=>match Dv_ b with
   |some ds=>match szE P T with
     | some m=>bif Nat.beq ds.length m&&all1 ds then (match h.get i with
       |some (.cells T0 cs gr)=>bif Nat.ble (o+m) cs.length then Tr.setK 40 h i (.cells T0 (B2_ cs o ds) gr) λh=>k (.tup []) h nx else none
       |some (.bys T0 l x gr)=>match pkE ds with
         |some (_,u)=>bif Nat.ble (o+m) l then Tr.setK 40 h i (.bys T0 l (x%256 ^ o+u*256 ^ o+x/256 ^ (o+m)*256 ^ (o+m)) gr) λh=>k (.tup []) h nx else none
         |none=>none
       |_=>none) else none
     |none=>none
   |none=>none
 |_=>none
theorem Az_:∀ (us vs:List Value) (o:Nat),o+us.length<=vs.length->Ae_ vs o us=vs.take o++us++vs.drop (o+us.length)
 |[],vs,o,_=>by simp[Ae_]
 |u::r,vs,o,hl=>by
   simp only[List.length_cons] at hl
   simp only[Ae_,List.length_cons]
   rw[Az_ r (vs.set o u) (o+1) xD]
   have hlt:o<vs.length:=by omega
   rw[List.take_add_one,List.take_set_of_le (Nat.le_refl _)]
   rw[List.drop_set_of_lt yY]
   simp[hlt,show o+(r.length+1)=o+1+r.length by omega]
theorem B3_ {vs us:List Value} {s o m:Nat} (hm:o+us.length<=m) (hl:s+m<=vs.length):((Ae_ vs (s+o) us).drop s).take m=Ae_ ((vs.drop s).take m) o us:=by
 rw[Az_ us vs (s+o) yY,Az_ us _ o xD]
 apply List.ext_getElem?
 intro j;simp only[List.getElem?_take,List.getElem?_drop,List.getElem?_append,List.length_append,List.length_take,List.length_drop];by_cases hj:j<m;rw[if_pos hj];have e1:min (s+o) vs.length=s+o:=by omega
 have e2:min o (min m (vs.length-s))=o:=by omega
 rw[e1,e2];by_cases h1:j<o;rw[if_pos yY,if_pos yY,if_pos yY,if_pos yY,if_pos h1,if_pos hj,if_pos h1];by_cases h2:j<o+us.length
 . rw[if_pos yY,if_neg yY,if_pos yY,if_neg yY]
   congr 1;omega
 . rw[if_neg yY,if_neg yY]
   rw[if_pos yY]
   congr 1;omega
 . rw[if_neg hj]
   symm
   rw[if_neg yY]
   rw[if_neg yY]
theorem J8_ {l m o x u:Nat} (hx:x<256 ^ l) (hu:u<256 ^ m) (hl:o+m<=l):(dec l x).take o++dec m u++(dec l x).drop (o+m)=dec l (x%256 ^ o+u*256 ^ o+x/256 ^ (o+m)*256 ^ (o+m))/\x%256 ^ o+u*256 ^ o+x/256 ^ (o+m)*256 ^ (o+m)<256 ^ l:=by
 have h0:x%256 ^ o<256 ^ o:=Nat.mod_lt _ (Nat.pow_pos yY);have h1:x%256 ^ o+u*256 ^ o<256 ^ (o+m):=Io_ h0 hu;have h2:x/256 ^ (o+m)<256 ^ (l-(o+m)):=by
   rw[Nat.div_lt_iff_lt_mul (Nat.pow_pos yY),<- Nat.pow_add]
   rwa [show l-(o+m)+(o+m)=l by omega]
 have h3:=Io_ h1 h2;rw[show o+m+(l-(o+m))=l by omega] at h3;refine⟨?_,h3⟩;rw[Bc_ o l x yY,Bq_ (o+m) l x hl,Ck_ o m _ _ h0,Ck_ _ _ _ _ h1,show o+m+(l-(o+m))=l by omega]
theorem Fy_ {cs ds:List CV} {vs us:List Value} {s o:Nat} (hv:VRs β cs ((vs.drop s).take cs.length)) (hd:VRs β ds us) (hm:o+ds.length<=cs.length) (hl:s+cs.length<=vs.length):VRs β (B2_ cs o ds) (((Ae_ vs (s+o) us).drop s).take (B2_ cs o ds).length):=by
 rw[Ap_,B3_ (by rw[hd.length];exact hm) hl];exact Cz_ _ _ _ hv hd
theorem Bl_:∀ (us vs:List Value) (o:Nat),(∀ v∈vs,v.oneCell'=true)->(∀ v∈us,v.oneCell'=true)->∀ v∈Ae_ vs o us,v.oneCell'=true
 |[],_,_,h,_,v,hv=>h v hv
 | u::r,vs,o,h,k,v,hv=>Bl_ r (vs.set o u) (o+1) (λw hw=>by
     rcases List.mem_or_eq_of_mem_set hw with q|rfl
     . exact h w q
     . exact k _ xA) (λw hw=>k w (by simp[hw])) v hv
theorem BR.cells_set {i b T0:Nat} {cs ds:List CV} {gr:Bool} {vs us:List Value} {o:Nat} (hB:BR β i (.cells T0 cs gr) (some (b,bx T0 vs))) (hd:VRs β ds us) (h1:all1 ds=true) (hm:o+ds.length<=cs.length):∃ q,β i=some q/\b=q.b/\q.s+o+us.length<=vs.length/\BR β i (.cells T0 (B2_ cs o ds) gr) (some (b,bx T0 (Ae_ vs (q.s+o) us))):=by
 obtain⟨q,vs',e1,e2,e3,e4,e5,e6,e7⟩:=hB;simp only[Option.some.injEq,Prod.mk.injEq] at e2;obtain⟨rfl,e2⟩:=e2;have :vs=vs':=by
   exact yM
 subst this;have hl:=hd.length;exact⟨q,e1,rfl,by omega,q,_,e1,rfl,by rw[Ax_];exact e3,by rw[Ap_];exact e4,λg=>by rw[Ap_];exact e5 g,Fy_ e6 hd hm yY,Bl_ _ _ _ e7 (A3_ hd h1)⟩
theorem BR.bys_set {i b T0:Nat} {l x m u:Nat} {gr:Bool} {vs:List Value} {o:Nat} (hB:BR β i (.bys T0 l x gr) (some (b,bx T0 vs))) (hu:u<256 ^ m) (hm:o+m<=l):∃ q,β i=some q/\b=q.b/\q.s+o+m<=vs.length/\BR β i (.bys T0 l (x%256 ^ o+u*256 ^ o+x/256 ^ (o+m)*256 ^ (o+m)) gr) (some (b,bx T0 (Ae_ vs (q.s+o) ((dec m u).map u8v)))):=by
 obtain⟨q,vs',e1,e2,e3,e4,e5,e6,e7,e8⟩:=hB;simp only[Option.some.injEq,Prod.mk.injEq] at e2;obtain⟨rfl,e2⟩:=e2;have :vs=vs':=by
   exact yM
 subst this;have hl:((dec m u).map u8v).length=m:=by simp[B_]
 obtain⟨d1,d2⟩:=J8_ e6 hu hm;refine⟨q,e1,rfl,by omega,q,_,e1,rfl,by rw[Ax_];exact e3,e4,e5,d2,?_,Bl_ _ _ _ e8 (λv hv=>by obtain⟨a,_,rfl⟩:=List.mem_map.1 hv;rfl)⟩;rw[B3_ (by rw[hl];exact hm) yY,e7,Az_ _ _ _ (by rw[hl];simp[B_];omega),hl,<- List.map_take,<- List.map_drop,<- List.map_append,<- List.map_append,d1]
theorem e_st {R:Type} {k:Ke R} {r:R} {a c:CV} {pos:String} {af:Array Edge} (e:stE P h nx T a c k=some r):∃ c' h' nx',k c' h' nx'=some r/\∀ {β:Be} {L:Ls} {F:Fr},HR β h nx L->VR β a (ev F x)->VR β c (ev F y)->Es P n N F H L β h nx ⟨none, .store T x y,ty,pos,af,none⟩ c' h' nx':=by
 have key:∀ {β:Be} {L:Ls} {F:Fr} {i o m:Nat} {q:Pl} {T0:TypeId} {vs us:List Value} {h':He} {hb hb0:HB},HR β h nx L->h.get i=some hb0->β i=some q->L i=some (q.b,bx T0 vs)->ev F x = .pointer (some ⟨q.b,q.s+o,none⟩)->us=(ev F y).cells.toList->us.length=m->szE P T=some m->q.s+o+us.length<=vs.length->(∀ v∈us,v.oneCell'=true) ->
     h'.get i=some hb->(∀ j,j≠i->h'.get j=h.get j)->BR β i hb (some (q.b,bx T0 (Ae_ vs (q.s+o) us)))->Es P n N F H L β h nx ⟨none, .store T x y,ty,pos,af,none⟩ (.tup []) h' nx:=by
   intro β L F i o m q T0 vs us h' hb hb0 hr hi0 hq hi ex hus hm hk hl h1 g1 g2 hB ops K kk ac w ha hmm
   rw[if_pos xC]
   unfold Oper.wp
   obtain⟨w',L',e1,e2,e3,e4⟩:=Mem.storeA (P:=P) q.b i (q.s+o) us vs 0 L w hmm hi xO h1
   have hcs:(ev F y).cells.size=m:=by rw[<- hm,hus];simp
   have :(execOp ac.eval ⟨none, .store T x y,ty,pos,af,none⟩).run P w = .ok .skip w':=by
     rw[ha.eval]
     rw[hus] at e1
     simp[execOp,Instr.storeAt,ex,Instr.sureAddr,storeVar,Ah_ hk w,hcs,e1]
   rw[this]
   have hL:L'=lupd L i (some (q.b,bx T0 (Ae_ vs (q.s+o) us))):=funext λj=>by
     by_cases e':j=i
     . subst e';rw[D_,e4];rfl
     . rw[C_ _ _ _ _ e',e3 j e']
   subst hL
   exact⟨_,_,_,ha,e2,kk β undef _ (by simp only[VR];exact⟨[],rfl, .nil⟩) (.set hr hi0 g1 g2 hB)⟩
 unfold stE at e
 split at e
 . rename_i i o
   split at e
   . rename_i ds hds
     split at e
     . rename_i m hm
       cases hb:(Nat.beq ds.length m&&all1 ds) with
       |false=>rw[hb] at e;cases e
       |true=>
         rw[hb] at e
         simp only[Bool.and_eq_true] at hb
         have hlen:=Nat.eq_of_beq_eq_true hb.1
         simp only[cond_true] at e
         split at e
         . rename_i T0 cs gr hi
           cases hb2:Nat.ble (o+m) cs.length with
           |false=>rw[hb2] at e;cases e
           |true=>
             rw[hb2] at e
             have hle:=Nat.le_of_ble_eq_true hb2
             simp only[cond_true] at e
             obtain⟨h',e1,e2,e3⟩:=Tr.setK_ok _ _ _ _ _ _ e
             refine⟨_,h',_,e1,λ{β L F} hr hx hy=>?_⟩
             have hv:=Bh_ hds hy
             have hB:=hr.br i _ hi
             obtain⟨q,vs,f1,f2,_⟩:=hB
             have hB:=hr.br i _ hi
             rw[f2] at hB
             obtain⟨q',g1,g2,g3,g4⟩:=BR.cells_set (o:=o) hB hv hb.2 yY
             rw[f1] at g1;cases g1
             simp only[VR] at hx;obtain⟨q2,hq,ex⟩:=hx
             rw[f1] at hq;cases hq
             exact key hr hi f1 f2 ex Y (by rw[hv.length];exact hlen) hm g3 (A3_ hv hb.2) e2 e3 g4
         . rename_i T0 l x0 gr hi
           split at e
           . rename_i m' u hp
             cases hb2:Nat.ble (o+m) l with
             |false=>rw[hb2] at e;cases e
             |true=>
               rw[hb2] at e
               have hle:=Nat.le_of_ble_eq_true hb2
               simp only[cond_true] at e
               obtain⟨h',e1,e2,e3⟩:=Tr.setK_ok _ _ _ _ _ _ e
               refine⟨_,h',_,e1,λ{β L F} hr hx hy=>?_⟩
               have hv:=Bh_ hds hy
               obtain⟨p1,p2⟩:=Iu_ hp hv
               have hm':m'=m:=by have :=hv.length;rw[p1] at this;simp[B_] at this;omega
               subst hm'
               obtain⟨q,vs,f1,f2,_⟩:=hr.br i _ hi
               have hB:=hr.br i _ hi
               rw[f2] at hB
               obtain⟨q',g1,g2,g3,g4⟩:=BR.bys_set (o:=o) hB p2 hle
               rw[f1] at g1;cases g1
               simp only[VR] at hx;obtain⟨q2,hq,ex⟩:=hx
               rw[f1] at hq;cases hq
               exact key hr hi f1 f2 ex p1.symm (by simp[B_]) hm (by simp[B_];exact g3) (λv hv=>by obtain⟨a,_,rfl⟩:=List.mem_map.1 hv;rfl) e2 e3 g4
           . cases e
         . cases e
     . cases e
   . cases e
 . cases e
end
end Go.CE
namespace Go.CE
open Go.SW
noncomputable section
variable {P:Program} {n:Nat} {N:SW.Rest} {F:Fr} {H:Hp} {L:Ls} {ty T T' T2:TypeId} {x y z:Operand} {β:Be} {f:Fe} {h:He} {nx:Nat}
def byE (P:Program) (T:TypeId):Option Nat:=match P.info? T with
 |some i=>some i.bytes
 |none=>none
theorem H4_ {k:Nat} (e:byE P T=some k):By P T k:=by
 unfold byE at e
 split at e
 . rename_i i hi;simp only[Option.some.injEq] at e;intro w;exact⟨i,by simp[typeInfo,hi],e⟩
 . cases e
def ordE (k:Nat):Nat->List (Nat×CV)->Option (List CV)
 |_,[]=>some []
 | i,(j,c)::r=>bif Nat.beq j i then (match Dv_ c with
   | some ds=>bif Nat.beq ds.length k then (match ordE k (i+1) r with
     |some es=>some (ds++es)
     |none=>none) else none
   |none=>none) else none
theorem Hk_ {k:Nat}:∀ {ps:List (Nat×CV)} {i:Nat} {cs:List CV} {vs:List (Nat×Value)},ordE k i ps=some cs->VRp β ps vs->D4_ k i vs/\VRs β cs (Bp_ vs)/\vs.length=ps.length
 |[],i,cs,vs,e,hv=>by
   simp only[ordE,Option.some.injEq] at e;subst e
   simp only[VRp] at hv;subst hv
   exact⟨trivial, .nil,rfl⟩
 |(j,c)::r,i,cs,vs,e,hv=>by
   simp only[VRp] at hv
   obtain⟨v,us,rfl,h1,h2⟩:=hv
   simp only[ordE] at e
   cases hj:Nat.beq j i with
   |false=>rw[hj] at e;cases e
   |true=>
     rw[hj] at e
     simp only[cond_true] at e
     split at e
     . rename_i ds hd
       cases hk:Nat.beq ds.length k with
       |false=>rw[hk] at e;cases e
       |true=>
         rw[hk] at e
         simp only[cond_true] at e
         split at e
         . rename_i es he
           simp only[Option.some.injEq] at e;subst e
           obtain⟨a1,a2,a3⟩:=Hk_ he h2
           have hc:=Bh_ hd h1
           have :=hc.length
           have hk':=Nat.eq_of_beq_eq_true hk
           simp at this
           exact⟨⟨Nat.eq_of_beq_eq_true hj,by show v.cells.size=k;omega,a1⟩,hc.app a2,by simp[a3]⟩
         . cases e
     . cases e
def newS {R:Type} (P:Program) (h:He) (nx:Nat) (e len:Nat) (cs:List CV) (k:Ke R):Option R:=match mkB P e cs with
 |some hb=>Tr.setK 40 h nx hb λh=>k (.sl nx 0 len len) h (nx+1)
 |none=>none
theorem newS_ok {R:Type} {cs:List CV} {k:Ke R} {z:R} {e len:Nat} (e0:newS P h nx e len cs k=some z):∃ h',k (.sl nx 0 len len) h' (nx+1)=some z/\∀ {β:Be} {L:Ls} {vs:List Value} (b:Nat),HR β h nx L->VRs β cs vs->VR (bset β nx ⟨b,0,vs.length⟩) (.sl nx 0 len len) (.slice (some ⟨b,0,none⟩) len len)/\Post β h nx L (bset β nx ⟨b,0,vs.length⟩) h' (nx+1) (lupd L nx (some (b,bx e vs))):=by
 unfold newS at e0
 split at e0
 . rename_i hb hB
   obtain⟨h',e1,e2,e3⟩:=Tr.setK_ok _ _ _ _ _ _ e0
   exact zR
 . cases e0
def bslE {R:Type} (P:Program) (f:Fe) (h:He) (nx:Nat) (T len:Nat) (ps:List (Nat×Operand)) (k:Ke R):Option R:=match P.underlying T with
 |some (.slice e)=>match szE P e with
   |some m=>match Eo_ P e with
     |some _=>match efps f ps with
       |some qs=>match ordE m 0 qs with
         |some cs=>bif Nat.beq qs.length len&&Nat.ble (len*m) 16777216 then newS P h nx e len cs k else none
         |none=>none
       |none=>none
     |none=>none
   |none=>none
 |_=>none
theorem e_bsl {R:Type} {k:Ke R} {r:R} {len:Nat} {ps:List (Nat×Operand)} {d:Nat} {pos:String} {af:Array Edge} (e:bslE P f h nx T len ps k=some r):∃ c h' nx',k c h' nx'=some r/\∀ {β:Be} {L:Ls} {F:Fr},Nat.blt d n=true->FR β f F->HR β h nx L->Es P n N F H L β h nx ⟨some d, .buildSlice T len ps.toArray,ty,pos,af,none⟩ c h' nx':=by
 unfold bslE at e
 split at e
 . rename_i e0 hT
   split at e
   . rename_i m hm
     split at e
     . rename_i zs hz
       split at e
       . rename_i qs hq
         split at e
         . rename_i cs hc
           cases hb:(Nat.beq qs.length len&&Nat.ble (len*m) 16777216) with
           |false=>rw[hb] at e;cases e
           |true=>
             rw[hb] at e
             simp only[Bool.and_eq_true] at hb
             simp only[cond_true] at e
             obtain⟨h',e1,e2⟩:=newS_ok e
             refine⟨_,h',_,e1,λ{β L F} hd hf hr ops K kk=>?_⟩
             have hp:=Fg_ hf hq
             obtain⟨a1,a2,a3⟩:=Hk_ hc hp
             obtain⟨zv,z1,_⟩:=A1_ (β:=β) hz
             refine Ca_ nx hd hT (Ah_ hm) ⟨zv,z1⟩ Y a1 (by rw[a3];exact Nat.eq_of_beq_eq_true hb.1) Y (Nat.le_of_ble_eq_true hb.2) λb=>?_
             obtain⟨b1,b2⟩:=e2 b hr a2
             exact kk _ _ _ b1 b2
         . cases e
       . cases e
     . cases e
   . cases e
 . cases e
def repC (zs:List CV):Nat->List CV
 |0=>[]
 |n+1=>zs++repC zs n
def repV (zs:List Value):Nat->List Value
 |0=>[]
 |n+1=>zs++repV zs n
theorem Hm_ {zs:List CV} {vs:List Value} (hv:VRs β zs vs):∀ m,VRs β (repC zs m) (repV vs m)
 |0=> .nil
 |m+1=>hv.app (Hm_ hv m)
theorem An_ (zs:List Value):∀ m,(repV zs m).length=m*zs.length
 |0=>by simp[repV]
 |m+1=>by simp only[repV,List.length_append,An_ zs m,Nat.add_mul,Nat.one_mul];omega
theorem Ix_ (zs:List Value):∀ m i,i<m*zs.length->(repV zs m)[i]? = zs[i%zs.length]?
 |0,i,hi=>by simp at hi
 |m+1,i,hi=>by
   simp only[repV,List.getElem?_append]
   split
   . rename_i hlt;rw[Nat.mod_eq_of_lt hlt]
   . rename_i hge
     rw[Ix_ zs m (i-zs.length) (by rw[Nat.add_mul,Nat.one_mul] at hi;omega)]
     congr 1
     exact (Nat.mod_eq_sub_mod yY).symm
theorem I6_ (zs:List Value) (m:Nat):((Array.range (m*zs.length)).map (λi=>zs.toArray[i%zs.toArray.size]!))=(repV zs m).toArray:=by
 apply Array.ext'
 apply List.ext_getElem?
 intro i;simp only[Array.toList_map,Array.toList_range,List.getElem?_map,List.getElem?_range'];by_cases hi:i<m*zs.length;have h0:0<zs.length:=by
   rcases Nat.eq_zero_or_pos zs.length with q|q
   . rw[q] at hi;simp at hi
   . exact q
 have hmod:i%zs.length<zs.length:=Nat.mod_lt _ h0;rw[Ix_ zs m i hi];simp[hi,hmod];rw[List.getElem?_eq_none (l:=repV zs m) (by rw[An_];omega)];simp[hi]
def mkE {R:Type} (P:Program) (h:He) (nx:Nat) (T:TypeId) (a b:CV) (k:Ke R):Option R:=match P.underlying T with
 |some (.slice e)=>match szE P e with
   |some m=>match byE P e with
     |some by_=>match natE a with
       |some l=>match natE b with
         | some c=>bif Nat.ble l c&&(Nat.ble (by_*c) 281474976710656&&Nat.blt 0 by_) then (match isB P e with
           | true=>bif Nat.beq m 1 then (match Eo_ P e with
             |some zz=>bif (match pkE zz with|some (q,w)=>Nat.beq q 1&&Nat.beq w 0|none=>false) then Tr.setK 40 h nx (.bys e c 0 false) λh=>k (.sl nx 0 l c) h (nx+1) else none
             |none=>none) else none
           |false=>match Eo_ P e with
             |some zs=>bif Nat.beq zs.length m&&all1 (repC zs c) then Tr.setK 40 h nx (.cells e (repC zs c) false) λh=>k (.sl nx 0 l c) h (nx+1) else none
             |none=>none) else none
         |none=>none
       |none=>none
     |none=>none
   |none=>none
 |_=>none
theorem Gy_ {m:Nat} (h9:m<=9223372036854775807):IntKind.wrap .i64 (m:Int)=(m:Int):=by
 simp only[IntKind.wrap,IntKind.bits,IntKind.signed];simp;split<;>omega
theorem run_mk {l c m by_:Nat} {e:TypeId} {k1 k2:IntKind} {zs:List Value} {zv:Value} {w:World} (hT:P.underlying T=some (.slice e)) (hm:szE P e=some m) (hb:byE P e=some by_) (hz:∀ w,(zeroValue e).run P w = .ok zv w) (hzs:zv.cells=zs.toArray) (hzl:zs.length=m) (hlc:l<=c) (hbd:by_*c<=281474976710656) (h0:0<by_) :
   (Instr.makeSlice T (.int k1 (l:Int)) (.int k2 (c:Int))).run P w = .ok (.slice (some ⟨w.heap.size,0,none⟩) l c) {w with heap:=w.heap.push (bx e (repV zs c))}:=by
 have hc9:c<=9223372036854775807:=by
   have :c<=by_*c:=Nat.le_mul_of_pos_left _ h0
   omega
 obtain⟨inf,hinf,hbb⟩:=H4_ hb w;have h2:¬(281474976710656<(inf.bytes:Int)*(c:Int)):=by
   rw[hbb]
   have e1:((by_:Int)*(c:Int))=((by_*c:Nat):Int):=by simp
   rw[e1];omega
 have h4:¬((c:Int)<(l:Int)):=by omega
 have h5:¬((c:Int)<0):=by omega
 have h6:¬((l:Int)<0):=by omega
 have hrep:=I6_ zs c;rw[hzl] at hrep;by_cases h0:c*m=0;have :repV zs c=[]:=List.length_eq_zero_iff.1 (by rw[An_,hzl];exact h0);have hr:Array.range 0 = #[]:=by apply Array.ext';simp
 simp[Instr.makeSlice,run_underlying hT,B1_,hinf,Gy_ hc9,Gy_ (show l<=9223372036854775807 by omega),h2,h4,h5,h6,Ah_ hm w,h0,newRow,bx,this,hr];rw[<- hzs] at hrep;simp[Instr.makeSlice,run_underlying hT,B1_,hinf,Gy_ hc9,Gy_ (show l<=9223372036854775807 by omega),h2,h4,h5,h6,Ah_ hm w,h0,newRow,bx,hz];rw[hrep]
theorem M7_:∀ n,dec n 0=List.replicate n 0
 |0=>rfl
 |n+1=>by simp only[dec,Nat.zero_mod,Nat.zero_div,M7_ n,List.replicate_succ];rfl
theorem e_mk {R:Type} {k:Ke R} {r:R} {a b:CV} {d:Nat} {pos:String} {af:Array Edge} (e:mkE P h nx T a b k=some r):∃ c h' nx',k c h' nx'=some r/\∀ {β:Be} {L:Ls} {F:Fr},Nat.blt d n=true->HR β h nx L->VR β a (ev F x)->VR β b (ev F y)->Es P n N F H L β h nx ⟨some d, .makeSlice T x y,ty,pos,af,none⟩ c h' nx':=by
 unfold mkE at e
 split at e
 . rename_i e0 hT
   split at e
   . rename_i m hm
     split at e
     . rename_i by_ hby
       split at e
       . rename_i l hl
         split at e
         . rename_i c hc
           cases hb:(Nat.ble l c&&(Nat.ble (by_*c) 281474976710656&&Nat.blt 0 by_)) with
           |false=>rw[hb] at e;cases e
           |true=>
             rw[hb] at e
             simp only[Bool.and_eq_true] at hb
             have hlc:=Nat.le_of_ble_eq_true hb.1
             have hbd:=Nat.le_of_ble_eq_true hb.2.1
             have h0:=A4_ hb.2.2
             simp only[cond_true] at e
             have key:∀ {β:Be} {L:Ls} {F:Fr} {zv:Value} {h':He} {hb:HB},Nat.blt d n=true->HR β h nx L->VR β a (ev F x)->VR β b (ev F y)->(∀ w,(zeroValue e0).run P w = .ok zv w)->zv.cells.toList.length=m->h'.get nx=some hb->(∀ j,j≠nx->h'.get j=h.get j) ->
                 (∀ b,BR (bset β nx ⟨b,0,c*m⟩) nx hb (some (b,bx e0 (repV zv.cells.toList c))))->Es P n N F H L β h nx ⟨some d, .makeSlice T x y,ty,pos,af,none⟩ (.sl nx 0 l c) h' (nx+1):=by
               intro β L F zv h' hb hd hr hx hy hz hzl g1 g2 hB ops K kk ac w ha hmm
               rw[if_pos xC]
               unfold Oper.wp
               obtain⟨k1,ex⟩:=Bt_ hl hx
               obtain⟨k2,ey⟩:=Bt_ hc hy
               have hrun:=run_mk (k1:=k1) (k2:=k2) (w:=w) hT hm hby hz (zs:=zv.cells.toList) xA hzl hlc hbd h0
               have :(execOp ac.eval ⟨some d, .makeSlice T x y,ty,pos,af,none⟩).run P w = .ok (.value (.slice (some ⟨w.heap.size,0,none⟩) l c)) {w with heap:=w.heap.push (bx e0 (repV zv.cells.toList c))}:=by
                 rw[ha.eval]
                 simp only[execOp,ex,ey,Sem.run_bind,hrun,Result.andThen_ok,Sem.run_pure]
               rw[this]
               refine⟨_,H,_,ha.put xF _,hmm.push nx _,kk (bset β nx ⟨w.heap.size,0,c*m⟩) _ _ ?_ (.new hr g1 g2 (hB _))⟩
               exact yL
             split at e
             . rename_i hB
               cases hm1:Nat.beq m 1 with
               |false=>rw[hm1] at e;cases e
               |true=>
                 rw[hm1] at e
                 have hm1':=Nat.eq_of_beq_eq_true hm1
                 subst hm1'
                 simp only[cond_true] at e
                 split at e
                 . rename_i zz hz0
                   cases hz1:(match pkE zz with|some (q,w)=>Nat.beq q 1&&Nat.beq w 0|none=>false) with
                   |false=>rw[hz1] at e;cases e
                   |true=>
                     rw[hz1] at e
                     simp only[cond_true] at e
                     obtain⟨h',e1,e2,e3⟩:=Tr.setK_ok _ _ _ _ _ _ e
                     refine⟨_,h',_,e1,λ{β L F} hd hr hx hy=>?_⟩
                     obtain⟨zv,z1,z2⟩:=A1_ (β:=β) hz0
                     split at hz1
                     . rename_i q w hp
                       simp only[Bool.and_eq_true] at hz1
                       have q1:=Nat.eq_of_beq_eq_true hz1.1
                       have w1:=Nat.eq_of_beq_eq_true hz1.2
                       subst q1;subst w1
                       obtain⟨p1,_⟩:=Iu_ hp z2
                       have hrp:∀ c,repV zv.cells.toList c=(dec c 0).map u8v:=by
                         intro c
                         rw[p1]
                         induction c with
                         |zero=>rfl
                         |succ c ih=>simp only[repV,ih];simp[dec,u8v]
                       have hlen:(repV zv.cells.toList c).length=c:=by rw[hrp];simp[B_]
                       refine key hd hr hx hy z1 (by rw[p1];rfl) e2 e3 λb=>⟨_,_,H_,rfl,by simp[hlen],by simp,λ_=>⟨rfl,by simp⟩,Nat.pow_pos yY,?_,λv hv=>?_⟩
                       . simp only[List.drop_zero]
                         rw[List.take_of_length_le yY,hrp]
                       . rw[hrp] at hv;obtain⟨a,_,rfl⟩:=List.mem_map.1 hv;rfl
                     . cases hz1
                 . cases e
             . split at e
               . rename_i zz hz0
                 cases hz1:(Nat.beq zz.length m&&all1 (repC zz c)) with
                 |false=>rw[hz1] at e;cases e
                 |true=>
                   rw[hz1] at e
                   simp only[Bool.and_eq_true] at hz1
                   simp only[cond_true] at e
                   obtain⟨h',e1,e2,e3⟩:=Tr.setK_ok _ _ _ _ _ _ e
                   refine⟨_,h',_,e1,λ{β L F} hd hr hx hy=>?_⟩
                   obtain⟨zv,z1,z2⟩:=A1_ (β:=β) hz0
                   have hlm:zv.cells.toList.length=m:=by rw[z2.length];exact Nat.eq_of_beq_eq_true hz1.1
                   have hlen:(repV zv.cells.toList c).length=c*m:=by rw[An_,hlm]
                   have hR:=Hm_ z2 c
                   have hlr:=hR.length
                   refine key hd hr hx hy z1 hlm e2 e3 λb=>⟨_,_,H_,rfl,by simp[hlen],by simp;omega,λ_=>⟨rfl,by simp;omega⟩,?_,A3_ hR hz1.2⟩
                   simp only[List.drop_zero]
                   rw[List.take_of_length_le yY]
                   exact hR.mono (Ar_ (hr.fr nx (Nat.le_refl _)).1)
               . cases e
         . cases e
       . cases e
     . cases e
   . cases e
 . cases e
end
end Go.CE
namespace Go.CE
open Go.SW
noncomputable section
variable {P:Program} {n:Nat} {N:SW.Rest} {F:Fr} {H:Hp} {L:Ls} {ty T T' T2:TypeId} {x y z:Operand} {β:Be} {f:Fe} {h:He} {nx:Nat}
theorem Df_ {k len m cap b o i:Nat} {e ats T0:TypeId} {d2:TypeDesc} {sv:Value} {vs news:List Value} {w:World} (hT:P.underlying T=some (.slice e)) (hT2:P.underlying T2=some d2) (hd2:D7_ d2=true) (hk:Sz P e k) (hs:Src P N H L k sv m news) (hone:∀ u∈news,u.oneCell'=true)
   (hm:Mem N H L w) (hi:L i=some (b,bx T0 vs)) (hle:len+m<=cap) (hl:o+len*k+news.length<=vs.length) :
   ∃ w',(Builtin.append_ #[T,T2] ats #[.slice (some ⟨b,o,none⟩) len cap,sv]).run P w = .ok (.slice (some ⟨b,o,none⟩) (len+m) cap) w'/\Mem N H (lupd L i (some (b,bx T0 (Ae_ vs (o+len*k) news)))) w':=by
 obtain⟨hlen,hcells⟩:=hs.2 w hm;obtain⟨w',L',e1,e2,e3,e4⟩:=Mem.storeA (P:=P) b i (o+len*k) news vs 0 L w hm hi yY hone;have hLL:L'=lupd L i (some (b,bx T0 (Ae_ vs (o+len*k) news))):=funext λq=>by
   by_cases e':q=i
   . subst e';rw[D_,e4];rfl
   . rw[C_ _ _ _ _ e',e3 q e']
 subst hLL;refine⟨w',?_,e2⟩;rw[Dl_ hT hT2 hd2 hk hlen hle];simp[hcells,M_,e1]
theorem Gu_ {k len m cap bytes:Nat} {e ats:TypeId} {d2:TypeDesc} {sv:Value} {base:Option Addr} {zs old news:List Value} {w:World} (j:Nat) (hT:P.underlying T=some (.slice e)) (hT2:P.underlying T2=some d2) (hd2:D7_ d2=true) (hk:Sz P e k) (hb:By P e bytes) (h0:0<bytes) (hz:Zr P e zs) (hzl:zs.length=k) (hzo:∀ u∈zs,u.oneCell'=true)
   (hs:Src P N H L k sv m news) (hm:Mem N H L w) (hle:¬len+m<=cap) (hbd:(len+m)*bytes<=140737488355328) (hold:∀ w,Mem N H L w->(Builtin.firstCells k len (.slice base len cap)).run P w = .ok old.toArray w) (hol:old.length=len*k) :
   ∃ w' nc b rest,(Builtin.append_ #[T,T2] ats #[.slice base len cap,sv]).run P w = .ok (.slice (some ⟨b,0,none⟩) (len+m) nc) w'/\len+m<=nc/\(old++news++rest).length=nc*k/\(∀ u∈rest,u.oneCell'=true)/\Mem N H (lupd L j (some (b,bx e (old++news++rest)))) w':=by
 obtain⟨inf,hinf,hbb⟩:=hb w;obtain⟨hlen,hcells⟩:=hs.2 w hm;have hfit:=growslice_fits (need:=len+m) (old:=cap) (bytes:=bytes) yY hbd;have hgrow:=H1_ (P:=P) (ats:=ats) (base:=base) hT hT2 hd2 hk hlen hle hinf yY (by rw[hbb];omega);obtain⟨nc,hnc⟩:∃ nc,nc=(Question.appendCap (len+m) cap e).cut (w.tape w.drawn (Question.appendCap (len+m) cap e)):=⟨_,rfl⟩;have hnge:len+m<=nc:=by rw[hnc];simp only[Question.cut];omega
 have hzc:∀ q,(Builtin.zeroCells zs.toArray q).size=q*k:=λq=>by simp[Builtin.zeroCells,hzl]
 refine⟨_,nc,w.heap.size,(Builtin.zeroCells zs.toArray (nc-(len+m))).toList,?_,hnge,?_,λu hu=>?_,(hm.drew (w.drawn+1)).push j _⟩;rw[hgrow];obtain⟨z,hz1,hz2⟩:=hz w.drew;obtain⟨inf',hinf',_⟩:=hb w.drew;obtain⟨_,hcells'⟩:=hs.2 w.drew (hm.drew (w.drawn+1));have hold':=hold w.drew (hm.drew (w.drawn+1));have hq:(Question.appendCap (len+m) cap e).forced=false:=rfl;simp[hq,hinf',hcells',hz1,hz2,newRow,bx,hold',<- hnc];exact yI
 . simp only[List.length_append,Array.length_toList,hzc,hs.1,hol]
   rw[<- Nat.add_mul,<- Nat.add_mul]
   congr 1;omega
 simp only[Builtin.zeroCells,Array.toList_map,List.mem_map] at hu;obtain⟨q,hq,rfl⟩:=hu;have h1:q<(nc-(len+m))*zs.length:=by simpa using hq
 have h0:0<zs.length:=Nat.pos_of_ne_zero λe=>by rw[e] at h1;simp at h1
 have hmod:q%zs.length<zs.length:=Nat.mod_lt _ h0;have :zs.toArray[q%zs.toArray.size]! = zs[q%zs.length]:=by simp[hmod]
 rw[this];exact hzo _ (List.getElem_mem hmod)
theorem Mem.renum {w:World} {i j:Nat} {x:Option (Nat×Obj)} (hm:Mem N H (lupd L i x) w) (hj:L j=none) (hij:j≠i):Mem N H (lupd (lupd L i none) j x) w:=by
 have hx:∀ q (y:Nat×Obj),lupd (lupd L i none) j x q=some y->∃ q',lupd L i x q'=some y/\(q=j/\q'=i\/q≠j/\q'=q/\q≠i):=λq y e=>by
   by_cases e1:q=j
   . subst e1;rw[D_] at e;exact⟨i,by rw[D_];exact e, .inl ⟨rfl,rfl⟩⟩
   . rw[C_ _ _ _ _ e1] at e
     obtain⟨e2,e3⟩:=Gk_ e
     exact⟨q,by rw[C_ _ _ _ _ e2];exact e3, .inr ⟨e1,rfl,e2⟩⟩
 refine hm.sub (λq y e=>?_) (λq q' y y' e e' hb=>?_);obtain⟨p,h1,_⟩:=hx q y e;exact⟨p,h1⟩
 . obtain⟨p,h1,c1⟩:=hx q y e
   obtain⟨p',h2,c2⟩:=hx q' y' e'
   obtain⟨yb,yo⟩:=y;obtain⟨yb',yo'⟩:=y'
   cases (show yb=yb' from hb)
   have :=hm.ll p p' yb yo yo' h1 h2
   omega
theorem Post.take {h1 h2:He} {i:Nat} {hb hb0:HB} {q:Pl} {x:Option (Nat×Obj)} (hr:HR β h nx L) (h0:h.get i=some hb0) (g1:h1.get i=some .dead) (g2:∀ j,j≠i->h1.get j=h.get j) (g3:h2.get nx=some hb) (g4:∀ j,j≠nx->h2.get j=h1.get j) (hB:BR (bset β nx q) nx hb x) :
   Post β h nx L (bset β nx q) h2 (nx+1) (lupd (lupd L i none) nx x):=
 (Post.set hr h0 g1 g2 (show BR β i .dead none from rfl)).trans (.new (Post.set hr h0 g1 g2 (show BR β i .dead none from rfl)).hr g3 g4 hB)
end
end Go.CE
namespace Go.CE
open Go.SW
noncomputable section
variable {P:Program} {n:Nat} {N:SW.Rest} {F:Fr} {H:Hp} {L:Ls} {ty T T' T2:TypeId} {x y z:Operand} {β:Be} {f:Fe} {h:He} {nx:Nat}
inductive CC where
 |b (n x:Nat)
 |c (cs:List CV)
def CC.len:CC->Nat
 | .b n _=>n
 | .c cs=>cs.length
def CC.R (β:Be):CC->List Value->Prop
 | .b n x,vs=>x<256 ^ n/\vs=(dec n x).map u8v
 | .c cs,vs=>VRs β cs vs/\∀ v∈vs,v.oneCell'=true
theorem CC.R.length {c:CC} {vs:List Value} (hr:c.R β vs):vs.length=c.len:=by
 cases c with
 |b n x=>rw[hr.2];simp[CC.len,B_]
 |c cs=>exact hr.1.length
theorem CC.R.one {c:CC} {vs:List Value} (hr:c.R β vs):∀ v∈vs,v.oneCell'=true:=by
 cases c with
 |b n x=>intro v hv;rw[hr.2] at hv;obtain⟨a,_,rfl⟩:=List.mem_map.1 hv;rfl
 |c cs=>exact hr.2
theorem CC.R.mono {β':Be} (hl:β.le β') {c:CC} {vs:List Value} (hr:c.R β vs):c.R β' vs:=by
 cases c with
 |b n x=>exact hr
 |c cs=>exact⟨hr.1.mono hl,hr.2⟩
def CC.sub (o m:Nat) (c:CC):Option CC:=bif Nat.ble (o+m) c.len then (match c with
 | .b _ x=>some (.b m (x/256 ^ o%256 ^ m))
 | .c cs=>some (.c ((cs.drop o).take m))) else none
theorem CC.sub_ok {o m:Nat} {c d:CC} {vs:List Value} (e:c.sub o m=some d) (hr:c.R β vs):d.R β ((vs.drop o).take m)/\d.len=m/\o+m<=c.len:=by
 unfold CC.sub at e
 cases hb:Nat.ble (o+m) c.len with
 |false=>rw[hb] at e;cases e
 |true=>
   rw[hb] at e
   have hle:=Nat.le_of_ble_eq_true hb
   simp only[cond_true] at e
   split at e
   . rename_i l x
     simp only[Option.some.injEq] at e;subst e
     simp only[CC.len] at hle
     refine⟨⟨Nat.mod_lt _ (Nat.pow_pos yY),?_⟩,rfl,hle⟩
     rw[hr.2,<- List.map_drop,<- List.map_take,Bq_ o l x yY,Bc_ m (l-o) _ yY]
   . rename_i cs
     simp only[Option.some.injEq] at e;subst e
     simp only[CC.len] at hle
     exact⟨⟨(hr.1.drop o).take m,λv hv=>hr.2 v (List.mem_of_mem_drop (List.mem_of_mem_take hv))⟩,by simp[CC.len];omega,hle⟩
def CC.app (c d:CC):Option CC:=match c with
 | .b n x=>match d with
   | .b m y=>some (.b (n+m) (x+y*256 ^ n))
   | .c _=>none
 | .c cs=>match d with
   | .c ds=>some (.c (cs++ds))
   | .b _ _=>none
theorem CC.app_ok {c d e:CC} {vs us:List Value} (h:c.app d=some e) (hc:c.R β vs) (hd:d.R β us):e.R β (vs++us)/\e.len=c.len+d.len:=by
 unfold CC.app at h
 split at h
 . split at h
   simp only[Option.some.injEq] at h;subst h
   exact⟨⟨Io_ hc.1 hd.1,by rw[hc.2,hd.2,<- List.map_append,Ck_ _ _ _ _ hc.1]⟩,rfl⟩
   . cases h
 . split at h
   simp only[Option.some.injEq] at h;subst h
   exact⟨⟨hc.1.app hd.1,λv hv=>(List.mem_append.1 hv).elim (hc.2 v) (hd.2 v)⟩,by simp[CC.len]⟩
   . cases h
def CC.put (o:Nat) (c d:CC):Option CC:=bif Nat.ble (o+d.len) c.len then (match c with
 | .b n x=>match d with
   | .b m u=>some (.b n (x%256 ^ o+u*256 ^ o+x/256 ^ (o+m)*256 ^ (o+m)))
   | .c _=>none
 | .c cs=>match d with
   | .c ds=>some (.c (B2_ cs o ds))
   | .b _ _=>none) else none
theorem CC.put_ok {o:Nat} {c d e:CC} {vs us:List Value} (h:c.put o d=some e) (hc:c.R β vs) (hd:d.R β us):e.R β (Ae_ vs o us)/\e.len=c.len/\o+d.len<=c.len:=by
 unfold CC.put at h
 cases hb:Nat.ble (o+d.len) c.len with
 |false=>rw[hb] at h;cases h
 |true=>
   rw[hb] at h
   have hle:=Nat.le_of_ble_eq_true hb
   simp only[cond_true] at h
   split at h
   . rename_i l x
     split at h
     . rename_i m u
       simp only[Option.some.injEq] at h;subst h
       simp only[CC.len] at hle
       obtain⟨d1,d2⟩:=J8_ hc.1 hd.1 hle
       refine⟨⟨d2,?_⟩,rfl,hle⟩
       rw[hc.2,hd.2,Az_ _ _ _ (by simp[B_];omega)]
       simp only[List.length_map,B_]
       rw[<- List.map_take,<- List.map_drop,<- List.map_append,<- List.map_append,d1]
     . cases h
   . split at h
     . simp only[Option.some.injEq] at h;subst h
       exact⟨⟨Cz_ _ _ _ hc.1 hd.1,Bl_ _ _ _ hc.2 hd.2⟩,by simp[CC.len,Ap_],hle⟩
     . cases h
def hbC:HB->Option (TypeId×CC×Bool)
 | .cells T cs gr=>some (T, .c cs,gr)
 | .bys T n x gr=>some (T, .b n x,gr)
 |_=>none
def CC.hb (T:TypeId) (c:CC) (gr:Bool):HB:=match c with
 | .b n x=> .bys T n x gr
 | .c cs=> .cells T cs gr
theorem BR.cc {i:Nat} {hb:HB} {c:CC} {gr:Bool} {x:Option (Nat×Obj)} (hB:BR β i hb x) (e:hbC hb=some (T,c,gr)):∃ q vs,β i=some q/\x=some (q.b,bx T vs)/\vs.length=q.s+q.r/\c.len<=q.r/\(gr=false->q.s=0/\q.r=c.len)/\c.R β ((vs.drop q.s).take c.len)/\(∀ v∈vs,v.oneCell'=true):=by
 unfold hbC at e
 split at e
 simp only[Option.some.injEq,Prod.mk.injEq] at e;obtain⟨rfl,rfl,rfl⟩:=e;obtain⟨q,vs,h1,h2,h3,h4,h5,h6,h7⟩:=hB;exact⟨q,vs,h1,h2,h3,h4,h5,⟨h6,λv hv=>h7 v (List.mem_of_mem_drop (List.mem_of_mem_take hv))⟩,h7⟩;simp only[Option.some.injEq,Prod.mk.injEq] at e;obtain⟨rfl,rfl,rfl⟩:=e;obtain⟨q,vs,h1,h2,h3,h4,h5,h6,h7,h8⟩:=hB;exact⟨q,vs,h1,h2,h3,h4,h5,⟨h6,h7⟩,h8⟩
 . cases e
theorem CC.br {i:Nat} {c:CC} {gr:Bool} {q:Pl} {vs:List Value} (h1:β i=some q) (h3:vs.length=q.s+q.r) (h4:c.len<=q.r) (h5:gr=false->q.s=0/\q.r=c.len) (h6:c.R β ((vs.drop q.s).take c.len)) (h7:∀ v∈vs,v.oneCell'=true):BR β i (c.hb T gr) (some (q.b,bx T vs)):=by
 cases c with
 |b n x=>exact⟨q,vs,h1,rfl,h3,h4,h5,h6.1,h6.2,h7⟩
 |c cs=>exact⟨q,vs,h1,rfl,h3,h4,h5,h6.1,h7⟩
def CC.nil (isb:Bool):CC:=bif isb then .b 0 0 else .c []
theorem CC.nil_ok {isb:Bool}:(CC.nil isb).R β []/\(CC.nil isb).len=0:=by
 cases isb
 exact⟨⟨.nil,λv hv=>by cases hv⟩,rfl⟩
 exact⟨⟨by simp,rfl⟩,rfl⟩
def srcE (h:He) (isb:Bool) (k:Nat) (a:CV):Option (Nat×CC):=match a with
 | .str n x=>bif isb then some (n, .b n x) else none
 | .nils=>some (0,CC.nil isb)
 | .sl i o len _=>match len with
   |0=>some (0,CC.nil isb)
   |_=>match h.get i with
     |some hb=>match hbC hb with
       |some (_,c,_)=>match c.sub o (len*k) with
         |some d=>some (len,d)
         |none=>none
       |none=>none
     |none=>none
 | .slu i o len _=>match len with
   |0=>some (0,CC.nil isb)
   |_=>match h.get i with
     |some hb=>match hbC hb with
       |some (_,c,_)=>match c.sub o (len*k) with
         |some d=>some (len,d)
         |none=>none
       |none=>none
     |none=>none
 |_=>none
theorem Ob_ {k:Nat} {a:Option Addr} {c:Nat}:Src P N H L k (.slice a 0 c) 0 []:=⟨by simp,λw _=>⟨by simp [Builtin.lenOf],by
 cases a<;>simp[Builtin.firstCells,loadCells,loadCellsFrom]⟩⟩
theorem Hr_ {b o i len cap k T0:Nat} {vs:List Value} (hi:L i=some (b,bx T0 vs)) (hl:o+len*k<=vs.length):Src P N H L k (.slice (some ⟨b,o,none⟩) len cap) len (SW.sub vs o (len*k)):=by
 have hlen:(SW.sub vs o (len*k)).length=len*k:=by simp[SW.sub];omega
 refine⟨hlen,λw hm=>⟨by simp[Builtin.lenOf],?_⟩⟩
 have :=run_loadCells_list (P:=P) w ⟨b,o,none⟩ (SW.sub vs o (len*k)) (λj v hj=>by
   rw[M_]
   refine hm.cellL hi ?_
   simp only[SW.sub,List.getElem?_take,List.getElem?_drop] at hj
   split at hj
   . exact hj
   . cases hj)
 rw[hlen] at this;exact yQ
theorem El_ {isb:Bool} {k m:Nat} {a:CV} {d:CC} {v:Value} (e:srcE h isb k a=some (m,d)) (hk:isb=true->k=1) (hr:HR β h nx L) (hv:VR β a v):∃ us,Src P N H L k v m us/\d.R β us:=by
 have nil:∀ {aa:Option Addr} {c:Nat},∃ us,Src P N H L k (.slice aa 0 c) 0 us/\(CC.nil isb).R β us:=λ{aa c}=>⟨[],Ob_,CC.nil_ok.1⟩;have blk:∀ {i o len cap:Nat} {q:Pl} {hb:HB} {T0:TypeId} {c:CC} {gr:Bool} {d:CC},β i=some q->h.get i=some hb->hbC hb=some (T0,c,gr)->c.sub o (len*k)=some d->∃ us,Src P N H L k (.slice (some ⟨q.b,q.s+o,none⟩) len cap) len us/\d.R β us:=by
   intro i o len cap q hb T0 c gr d hq hi hc hs
   obtain⟨q',vs,f1,f2,f3,f4,f5,f6,f7⟩:=(hr.br i _ hi).cc hc
   rw[hq] at f1;cases f1
   obtain⟨s1,s2,s3⟩:=CC.sub_ok hs f6
   refine⟨_,Hr_ f2 yY,?_⟩
   rw[<- Dg_ (m:=c.len) s3]
   exact s1
 unfold srcE at e
 split at e
 . rename_i l x
   cases isb with
   |false=>cases e
   |true=>
     simp only[cond_true,Option.some.injEq,Prod.mk.injEq] at e
     obtain⟨rfl,rfl⟩:=e
     have :=hk Y;subst this
     simp only[VR] at hv
     rw[hv.2]
     have hs:=src_str (P:=P) (N:=N) (H:=H) (L:=L) (l:=dec l x)
     rw[B_] at hs
     exact⟨_,hs,hv.1,rfl⟩
 simp only[Option.some.injEq,Prod.mk.injEq] at e;obtain⟨rfl,rfl⟩:=e;simp only[VR] at hv;subst hv;exact nil
 . rename_i i o len cap
   simp only[VR] at hv;obtain⟨q,hq,rfl⟩:=hv
   cases len with
   |zero=>simp only[Option.some.injEq,Prod.mk.injEq] at e;obtain⟨rfl,rfl⟩:=e;exact nil
   |succ len=>
     simp only at e
     split at e
     . rename_i hb hi
       split at e
       . rename_i T0 c gr hc
         split at e
         . exact zW
         . cases e
       . cases e
     . cases e
 . rename_i i o len k'
   simp only[VR] at hv;obtain⟨q,cc,aa,hq,_,hle,rfl,ha⟩:=hv
   cases len with
   |zero=>simp only[Option.some.injEq,Prod.mk.injEq] at e;obtain⟨rfl,rfl⟩:=e;exact nil
   |succ len=>
     simp only at e
     have :=ha yY;subst this
     split at e
     . rename_i hb hi
       split at e
       . rename_i T0 c gr hc
         split at e
         . exact zW
         . cases e
       . cases e
     . cases e
 . cases e
end
end Go.CE
namespace Go.CE
open Go.SW
noncomputable section
variable {P:Program} {n:Nat} {N:SW.Rest} {F:Fr} {H:Hp} {L:Ls} {ty T T' T2:TypeId} {x y z:Operand} {β:Be} {f:Fe} {h:He} {nx:Nat}
def apT (P:Program) (T T2:TypeId):Option (TypeId×Nat×Nat):=match P.underlying T with
 |some (.slice e)=>match P.underlying T2 with
   |some d2=>match szE P e with
     |some m=>match byE P e with
       |some by_=>match Eo_ P e with
         |some zs=>bif D7_ d2&&(Nat.blt 0 by_&&(Nat.beq zs.length m&&(all1 zs&&(Nat.blt 0 m&&(!isB P e||Nat.beq m 1))))) then some (e,m,by_) else none
         |none=>none
       |none=>none
     |none=>none
   |none=>none
 |_=>none
structure ApT (P:Program) (T T2:TypeId) (e m by_:Nat):Prop where
 hT:P.underlying T=some (.slice e)
 hT2:∃ d2,P.underlying T2=some d2/\D7_ d2=true
 hk:Sz P e m
 hb:By P e by_
 h0:0<by_
 hz:∃ zs:List Value,Zr P e zs/\zs.length=m/\∀ u∈zs,u.oneCell'=true
 hm:0<m
 hB:isB P e=true->m=1
theorem apT_ok {e m by_:Nat} (he:apT P T T2=some (e,m,by_)):ApT P T T2 e m by_:=by
 unfold apT at he
 split at he
 . rename_i e' hT
   split at he
   . rename_i d2 hT2
     split at he
     . rename_i m' hm
       split at he
       . rename_i b' hb
         split at he
         . rename_i zs hz
           cases hc:(D7_ d2&&(Nat.blt 0 b'&&(Nat.beq zs.length m'&&(all1 zs&&(Nat.blt 0 m'&&(!isB P e'||Nat.beq m' 1)))))) with
           |false=>rw[hc] at he;cases he
           |true=>
             rw[hc] at he
             simp only[cond_true,Option.some.injEq,Prod.mk.injEq] at he
             obtain⟨rfl,rfl,rfl⟩:=he
             simp only[Bool.and_eq_true] at hc
             obtain⟨c1,c2,c3,c4,c6,c5⟩:=hc
             obtain⟨zv,z1,z2⟩:=A1_ (β:=λ_=>none) hz
             refine⟨hT,⟨d2,hT2,c1⟩,Ah_ hm,H4_ hb,A4_ c2,⟨zv.cells.toList,λw=>⟨zv,z1 w,by simp⟩,by rw[z2.length];exact Nat.eq_of_beq_eq_true c3,A3_ z2 c4⟩,A4_ c6,λhB=>?_⟩
             rw[hB] at c5
             simpa using c5
         . cases he
       . cases he
     . cases he
   . cases he
 . cases he
def grE {R:Type} (h:He) (nx:Nat) (e m len by_:Nat) (c:CC) (k:Ke R):Option R:=
 bif Nat.ble (len*by_) 140737488355328&&Nat.beq c.len (len*m) then Tr.setK 40 h nx (c.hb e true) λh=>k (.slu nx 0 len m) h (nx+1) else none
def apE {R:Type} (P:Program) (h:He) (nx:Nat) (T T2:TypeId) (a b:CV) (k:Ke R):Option R:=match apT P T T2 with
 |some (e,m,by_)=>match srcE h (isB P e) m b with
   |some (l,d)=>match a with
     | .nils=>match l with
       |0=>k .nils h nx
       |_=>grE h nx e m l by_ d k
     | .sl i o len cap=>match l with
       |0=>bif Nat.ble len cap then k (.sl i o len cap) h nx else none
       |_=>match h.get i with
         |some hb=>match hbC hb with
           | some (T0,c,gr)=>bif Nat.ble (len+l) cap then (match c.put (o+len*m) d with
               |some c'=>Tr.setK 40 h i (c'.hb T0 gr) λh=>k (.sl i o (len+l) cap) h nx
               |none=>none) else (match c.sub o (len*m) with
               |some c0=>match c0.app d with
                 |some c'=>grE h nx e m (len+l) by_ c' k
                 |none=>none
               |none=>none)
           |none=>none
         |none=>none
     | .slu i o len m'=>bif Nat.beq m' m then (match l with
       |0=>k (.slu i o len m) h nx
       |_=>match h.get i with
         |some hb=>match hbC hb with
           | some (T0,c,gr)=>bif Nat.ble (o+(len+l)*m) c.len then (match c.put (o+len*m) d with
               |some c'=>Tr.setK 40 h i (c'.hb T0 gr) λh=>k (.slu i o (len+l) m) h nx
               |none=>none) else bif Nat.beq (o+len*m) c.len&&Nat.beq T0 e then (match c.sub o (len*m) with
               |some c0=>match c0.app d with
                 |some c'=>Tr.setK 40 h i .dead λh=>grE h nx e m (len+l) by_ c' k
                 |none=>none
               |none=>none) else none
           |none=>none
         |none=>none) else none
     |_=>none
   |none=>none
 |none=>none
theorem Be_ {v sv r:Value} {w w':World} {d:Option Tmp} {pos:String} {af:Array Edge} {g:Option (Nat×Bool)} (hx:ev F x=v) (hy:ev F y=sv) (h:∀ ats,(Builtin.append_ #[T,T2] ats #[v,sv]).run P w = .ok r w'):(execOp (ev F) ⟨d, .call ⟨.builtin .append,#[x,y],#[T,T2]⟩,ty,pos,af,g⟩).run P w = .ok (.value r) w':=
 G_ (args:=#[v,sv]) xP λcs=>by simp[builtin,h]
theorem HR.cc {i:Nat} {hb:HB} {c:CC} {gr:Bool} {q:Pl} {T0:TypeId} (hr:HR β h nx L) (hi:h.get i=some hb) (hc:hbC hb=some (T0,c,gr)) (hq:β i=some q):∃ vs,L i=some (q.b,bx T0 vs)/\vs.length=q.s+q.r/\c.len<=q.r/\(gr=false->q.s=0/\q.r=c.len)/\c.R β ((vs.drop q.s).take c.len)/\(∀ v∈vs,v.oneCell'=true):=by
 obtain⟨q',vs,f1,f2⟩:=(hr.br i _ hi).cc hc;rw[hq] at f1;cases f1
 exact⟨vs,f2⟩
theorem CC.put_br {i:Nat} {c d c':CC} {gr:Bool} {q:Pl} {vs us:List Value} {o:Nat} (hq:β i=some q) (e:c.put o d=some c') (g3:vs.length=q.s+q.r) (g4:c.len<=q.r) (g5:gr=false->q.s=0/\q.r=c.len) (g6:c.R β ((vs.drop q.s).take c.len)) (g7:∀ v∈vs,v.oneCell'=true) (hd:d.R β us):q.s+o+us.length<=vs.length/\BR β i (c'.hb T gr) (some (q.b,bx T (Ae_ vs (q.s+o) us))):=by
 obtain⟨p1,p2,p3⟩:=CC.put_ok e g6 hd;have hl:=hd.length;refine⟨by omega,CC.br hq (by rw[Ax_];exact g3) yY (λg=>by rw[p2];exact g5 g) ?_ (Bl_ _ _ _ g7 hd.one)⟩;rw[p2,B3_ (m:=c.len) yY yY];exact p1
theorem Og_ {vs us:List Value} {s p:Nat} (hl:s+p+us.length<=vs.length):((Ae_ vs (s+p) us).drop s).take (p+us.length)=SW.sub vs s p++us:=by
 rw[Az_ _ _ _ hl,SW.sub]
 apply List.ext_getElem?
 intro j;simp only[List.getElem?_take,List.getElem?_drop,List.getElem?_append,List.length_append,List.length_take,List.length_drop];have e1:min (s+p) vs.length=s+p:=by omega
 have e2:min p (vs.length-s)=p:=by omega
 rw[e1,e2];by_cases h1:j<p;simp only[h1,if_true];rw[if_pos yY,if_pos yY,if_pos yY,if_pos yY];by_cases h2:j<p+us.length
 . rw[if_pos h2,if_pos yY,if_neg yY,if_neg h1]
   congr 1;omega
 rw[if_neg h2,if_neg h1,List.getElem?_eq_none yY]
theorem e_ap {R:Type} {k:Ke R} {r:R} {a b:CV} {dd:Nat} {pos:String} {af:Array Edge} (e:apE P h nx T T2 a b k=some r):∃ c h' nx',k c h' nx'=some r/\∀ {β:Be} {L:Ls} {F:Fr},Nat.blt dd n=true->HR β h nx L->VR β a (ev F x)->VR β b (ev F y)->Es P n N F H L β h nx ⟨some dd, .call ⟨.builtin .append,#[x,y],#[T,T2]⟩,ty,pos,af,none⟩ c h' nx':=by
 unfold apE at e
 split at e
 . rename_i et m by_ hA
   have hA:=apT_ok hA
   obtain⟨d2,hT2,hd2⟩:=hA.hT2
   obtain⟨zs,hz,hzl,hzo⟩:=hA.hz
   split at e
   . rename_i l d hs
     have room:∀ {β:Be} {L:Ls} {F:Fr} {i o len cap:Nat} {hb:HB} {q:Pl} {T0:TypeId} {c c':CC} {gr:Bool} {h':He} {rc:CV},Nat.blt dd n=true->HR β h nx L->VR β b (ev F y)->h.get i=some hb->hbC hb=some (T0,c,gr)->β i=some q->c.put (o+len*m) d=some c'->len+l<=cap->h'.get i=some (c'.hb T0 gr)->(∀ j,j≠i->h'.get j=h.get j) ->
         ev F x = .slice (some ⟨q.b,q.s+o,none⟩) len cap->VR β rc (.slice (some ⟨q.b,q.s+o,none⟩) (len+l) cap)->Es P n N F H L β h nx ⟨some dd, .call ⟨.builtin .append,#[x,y],#[T,T2]⟩,ty,pos,af,none⟩ rc h' nx:=by
       intro β L F i o len cap hb q T0 c c' gr h' rc hd hr hy hi hc hq hp hle g1 g2 ex hrc ops K kk ac w ha hm
       obtain⟨us,hsrc,hus⟩:=El_ hs hA.hB hr hy
       obtain⟨vs,f2,f3,f4,f5,f6,f7⟩:=hr.cc hi hc hq
       obtain⟨b1,b2⟩:=CC.put_br hq hp f3 f4 f5 f6 f7 hus
       rw[if_pos xC]
       unfold Oper.wp
       have hrun:∀ ats,_:=λats=>Df_ (P:=P) (ats:=ats) (len:=len) (cap:=cap) hA.hT hT2 hd2 hA.hk hsrc hus.one hm f2 hle (o:=q.s+o) yY
       obtain⟨w',r1,r2⟩:=hrun 0
       have r1':∀ ats,(Builtin.append_ #[T,T2] ats #[.slice (some ⟨q.b,q.s+o,none⟩) len cap,ev F y]).run P w = .ok (.slice (some ⟨q.b,q.s+o,none⟩) (len+l) cap) w':=λats=>r1
       rw[ha.eval,Be_ ex rfl r1']
       rw[Nat.add_assoc] at r2
       exact⟨_,H,_,ha.put xF _,r2,kk β _ _ hrc (.set hr hi g1 g2 b2)⟩
     have grow:∀ {β:Be} {L L1:Ls} {F:Fr} {len cap:Nat} {base:Option Addr} {old:List Value} {c':CC} {h' h1:He},Nat.blt dd n=true->HR β h nx L->Post β h nx L β h1 nx L1->(∀ w x,Mem N H (lupd L nx x) w->Mem N H (lupd L1 nx x) w)->VR β b (ev F y)->(∀ w,Mem N H L w->(Builtin.firstCells m len (.slice base len cap)).run P w = .ok old.toArray w)->old.length=len*m->(∀ us,d.R β us->c'.R β (old++us))->¬len+l<=cap->(len+l)*by_<=140737488355328->h'.get nx=some (c'.hb et true)->(∀ j,j≠nx->h'.get j=h1.get j) ->
         ev F x = .slice base len cap->∀ (ac:Act) (w:World),At n ac F->Mem N H L w->∃ nc b w' β' L',(execOp ac.eval ⟨some dd, .call ⟨.builtin .append,#[x,y],#[T,T2]⟩,ty,pos,af,none⟩).run P w = .ok (.value (.slice (some ⟨b,0,none⟩) (len+l) nc)) w'/\Mem N H L' w'/\VR β' (.slu nx 0 (len+l) m) (.slice (some ⟨b,0,none⟩) (len+l) nc)/\Post β h nx L β' h' (nx+1) L':=by
       intro β L L1 F len cap base old c' h' h1 hd hr hP hL1 hy hold holl hcc hle hbd g1 g2 ex ac w ha hm
       obtain⟨us,hsrc,hus⟩:=El_ hs hA.hB hr hy
       obtain⟨w',nc,b,rest,r1,r2,r3,r4,r5⟩:=Gu_ (P:=P) (ats:=0) (len:=len) (cap:=cap) (base:=base) nx hA.hT hT2 hd2 hA.hk hA.hb hA.h0 hz hzl hzo hsrc hm hle hbd hold holl
       have r1':∀ ats,(Builtin.append_ #[T,T2] ats #[.slice base len cap,ev F y]).run P w = .ok (.slice (some ⟨b,0,none⟩) (len+l) nc) w':=λats=>r1
       have a1:=hcc us hus
       have hla:=a1.length
       refine⟨nc,b,w',bset β nx ⟨b,0,nc*m⟩,lupd L1 nx (some (b,bx et (old++us++rest))),by rw[ha.eval,Be_ ex rfl r1'],hL1 _ _ r5,?_,hP.trans (.new hP.hr g1 g2 ?_)⟩
       . simp only[VR]
         exact⟨_,nc,_,H_,by simp,r2,rfl,λ_=>rfl⟩
       . have hlen:(old++us).length<=nc*m:=by
           have :=r3;simp only[List.length_append] at this ⊢;omega
         refine CC.br (q:=⟨b,0,nc*m⟩) H_ (by simpa using r3) (by show c'.len<=nc*m;omega) (λg=>by cases g) ?_ (λv hv=>?_)
         . simp only[List.drop_zero]
           rw[<- hla,List.take_left]
           exact a1.mono (Ar_ (hP.hr.fr nx (Nat.le_refl _)).1)
         . rcases List.mem_append.1 hv with q|q
           . exact a1.one v q
           . exact r4 v q
     have idn:∀ {L:Ls} (w:World) (x:Option (Nat×Obj)),Mem N H (lupd L nx x) w->Mem N H (lupd L nx x) w:=λ_ _ h=>h
     have hgr:∀ {len:Nat} {c:CC} {h1:He},grE h1 nx et m len by_ c k=some r->∃ h',k (.slu nx 0 len m) h' (nx+1)=some r/\len*by_<=140737488355328/\c.len=len*m/\h'.get nx=some (c.hb et true)/\∀ j,j≠nx->h'.get j=h1.get j:=by
       intro len c h1 e
       unfold grE at e
       cases hb:(Nat.ble (len*by_) 140737488355328&&Nat.beq c.len (len*m)) with
       |false=>rw[hb] at e;cases e
       |true=>
         rw[hb] at e
         simp only[Bool.and_eq_true] at hb
         simp only[cond_true] at e
         obtain⟨h',e1,e2,e3⟩:=Tr.setK_ok _ _ _ _ _ _ e
         exact⟨h',e1,Nat.le_of_ble_eq_true hb.1,Nat.eq_of_beq_eq_true hb.2,e2,e3⟩
     have wrap:∀ {β:Be} {L:Ls} {F:Fr} {c:CV} {h':He} {nx':Nat},Nat.blt dd n=true->(∀ (ac:Act) (w:World),At n ac F->Mem N H L w->∃ v w' β' L',(execOp ac.eval ⟨some dd, .call ⟨.builtin .append,#[x,y],#[T,T2]⟩,ty,pos,af,none⟩).run P w = .ok (.value v) w'/\Mem N H L' w'/\VR β' c v/\Post β h nx L β' h' nx' L')->Es P n N F H L β h nx ⟨some dd, .call ⟨.builtin .append,#[x,y],#[T,T2]⟩,ty,pos,af,none⟩ c h' nx':=by
       intro β L F c h' nx' hd hk ops K kk ac w ha hm
       obtain⟨v,w',β',L',a1,a2,a3,a4⟩:=hk ac w ha hm
       rw[if_pos xC]
       unfold Oper.wp
       rw[a1]
       exact⟨_,H,_,ha.put xF _,a2,kk β' v L' a3 a4⟩
     have none0:∀ {β:Be} {L:Ls} {F:Fr} {w:World} {base:Option Addr} {len cap:Nat} {b:CV} {d:CC},l=0->srcE h (isB P et) m b=some (l,d)->HR β h nx L->VR β b (ev F y)->Mem N H L w->len<=cap->∀ ats,(Builtin.append_ #[T,T2] ats #[.slice base len cap,ev F y]).run P w = .ok (.slice base len cap) w:=by
       intro β L F w base len cap b d hl0 hs hr hy hm hle ats
       obtain⟨us,hsrc,hus⟩:=El_ hs hA.hB hr hy
       obtain⟨hlen,hcells⟩:=hsrc.2 w hm
       have hus0:us=[]:=List.length_eq_zero_iff.1 (by rw[hsrc.1,hl0];simp)
       subst hus0;subst hl0
       rw[Dl_ (P:=P) (ats:=ats) (base:=base) hA.hT hT2 hd2 hA.hk hlen yY]
       cases base<;>simp[hcells,storeCells]
     split at e
     . -- nothing yet
       split at e
       refine⟨_,_,_,e,λ{β L F} hd hr hx hy=>wrap hd λac w ha hm=>?_⟩
       obtain⟨us,hsrc,hus⟩:=El_ hs hA.hB hr hy
       simp only[VR] at hx
       obtain⟨hlen,hcells⟩:=hsrc.2 w hm
       have hus0:us=[]:=List.length_eq_zero_iff.1 (by rw[hsrc.1];simp)
       have r1:∀ ats,(Builtin.append_ #[T,T2] ats #[.slice none 0 0,ev F y]).run P w = .ok (.slice none 0 0) w:=λats=>by
         rw[Dl_ (P:=P) (ats:=ats) (base:=none) hA.hT hT2 hd2 hA.hk hlen yY]
         simp[hcells]
       exact⟨_,w,β,L,by rw[ha.eval,Be_ hx rfl r1],hm,by simp only[VR], .refl hr⟩
       . rename_i l0 hl0
         obtain⟨h',e1,e2,e3,e4,e5⟩:=hgr e
         refine⟨_,h',_,e1,λ{β L F} hd hr hx hy=>wrap hd λac w ha hm=>?_⟩
         simp only[VR] at hx
         obtain⟨nc,b,w',β',L',q⟩:=grow (L1:=L) (h1:=h) (old:=[]) (len:=0) (cap:=0) (base:=none) hd hr (.refl hr) (λ_ _ h=>h) hy (λw _=>by simp[Builtin.firstCells]) xA (λus h=>by simpa using h) (λhq=>hl0 yY) (by simpa using e2) (by simpa using e4) e5 hx ac w ha hm
         exact⟨_,w',β',L',by simpa using q⟩
     . -- a slice of known room
       rename_i i o len cap
       split at e
       . cases hlc:Nat.ble len cap with
         |false=>rw[hlc] at e;cases e
         |true=>
           rw[hlc] at e
           simp only[cond_true] at e
           refine⟨_,_,_,e,λ{β L F} hd hr hx hy=>wrap hd λac w ha hm=>?_⟩
           have hx':=hx
           simp only[VR] at hx;obtain⟨q,hq,ex⟩:=hx
           exact⟨_,w,β,L,by rw[ha.eval,Be_ ex rfl (none0 rfl hs hr hy hm (Nat.le_of_ble_eq_true hlc))],hm,ex ▸ hx', .refl hr⟩
       . split at e
         . rename_i hb hi
           split at e
           . rename_i T0 c gr hc
             cases hroom:Nat.ble (len+l) cap with
             |true=>
               rw[hroom] at e
               simp only[cond_true] at e
               split at e
               . rename_i c' hp
                 obtain⟨h',e1,e2,e3⟩:=Tr.setK_ok _ _ _ _ _ _ e
                 refine⟨_,h',_,e1,λ{β L F} hd hr hx hy=>?_⟩
                 simp only[VR] at hx;obtain⟨q,hq,ex⟩:=hx
                 exact room hd hr hy hi hc hq hp (Nat.le_of_ble_eq_true hroom) e2 e3 ex (by simp only[VR];exact⟨q,hq,rfl⟩)
               . cases e
             |false=>
               rw[hroom] at e
               simp only[cond_false] at e
               split at e
               . rename_i c0 hs0
                 split at e
                 . rename_i c' happ
                   obtain⟨h',e1,e2,e3,e4,e5⟩:=hgr e
                   refine⟨_,h',_,e1,λ{β L F} hd hr hx hy=>wrap hd λac w ha hm=>?_⟩
                   simp only[VR] at hx;obtain⟨q,hq,ex⟩:=hx
                   obtain⟨vs,f2,f3,f4,f5,f6,f7⟩:=hr.cc hi hc hq
                   obtain⟨s1,s2,s3⟩:=CC.sub_ok hs0 f6
                   rw[Dg_ s3] at s1
                   obtain⟨nc,b,w',β',L',q⟩:=grow (L1:=L) (h1:=h) (old:=SW.sub vs (q.s+o) (len*m)) (len:=len) (cap:=cap) (base:=some ⟨q.b,q.s+o,none⟩) hd hr (.refl hr) (λ_ _ h=>h) hy (λw hm=>((Hr_ (P:=P) (len:=len) (cap:=cap) f2 yY).2 w hm).2) (by rw[s1.length];exact s2) (λus h=>(CC.app_ok happ s1 h).1) (λhq=>by have :=Nat.ble_eq_true_of_le hq;rw[hroom] at this;cases this) e2 e4 e5 ex ac w ha hm
                   exact⟨_,w',β',L',q⟩
                 . cases e
               . cases e
           . cases e
         . cases e
     . -- one of unknown room
       rename_i i o len m'
       cases hmm:Nat.beq m' m with
       |false=>rw[hmm] at e;cases e
       |true=>
         rw[hmm] at e
         have :=Nat.eq_of_beq_eq_true hmm
         subst this
         simp only[cond_true] at e
         split at e
         . refine⟨_,_,_,e,λ{β L F} hd hr hx hy=>wrap hd λac w ha hm=>?_⟩
           have hx':=hx
           simp only[VR] at hx;obtain⟨q,cc,aa,hq,_,hle,ex,_⟩:=hx
           exact⟨_,w,β,L,by rw[ha.eval,Be_ ex rfl (none0 rfl hs hr hy hm hle)],hm,ex ▸ hx', .refl hr⟩
         . rename_i hl0
           split at e
           . rename_i hb hi
             split at e
             . rename_i T0 c gr hc
               have hl1:0<l:=Nat.pos_of_ne_zero hl0
               cases hroom:Nat.ble (o+(len+l)*m') c.len with
               |true=>
                 rw[hroom] at e
                 have hrl:=Nat.le_of_ble_eq_true hroom
                 simp only[cond_true] at e
                 split at e
                 . rename_i c' hp
                   obtain⟨h',e1,e2,e3⟩:=Tr.setK_ok _ _ _ _ _ _ e
                   refine⟨_,h',_,e1,λ{β L F} hd hr hx hy=>?_⟩
                   simp only[VR] at hx;obtain⟨q,cc,aa,hq,hrm,hle,ex,ha⟩:=hx
                   obtain⟨vs,f2,f3,f4,f5,f6,f7⟩:=hr.cc hi hc hq
                   have hcap:len+l<=cc:=by
                     have :(len+l)*m'<=cc*m':=by omega
                     exact Nat.le_of_mul_le_mul_right this hA.hm
                   have haa:=ha yY;subst haa
                   exact room hd hr hy hi hc hq hp hcap e2 e3 ex (by simp only[VR];exact⟨q,cc,_,hq,hrm,hcap,rfl,λ_=>rfl⟩)
                 . cases e
               |false=>
                 rw[hroom] at e
                 simp only[cond_false] at e
                 cases hend:(Nat.beq (o+len*m') c.len&&Nat.beq T0 et) with
                 |false=>rw[hend] at e;cases e
                 |true=>
                   rw[hend] at e
                   simp only[Bool.and_eq_true] at hend
                   have hend1:=Nat.eq_of_beq_eq_true hend.1
                   have hT0:=Nat.eq_of_beq_eq_true hend.2
                   subst hT0
                   simp only[cond_true] at e
                   split at e
                   . rename_i c0 hs0
                     split at e
                     . rename_i c' happ
                       obtain⟨h1,e0,d1,d2⟩:=Tr.setK_ok _ _ _ _ _ _ e
                       obtain⟨h',e1,e2,e3,e4,e5⟩:=hgr e0
                       refine⟨_,h',_,e1,λ{β L F} hd hr hx hy=>wrap hd λac w ha hm=>?_⟩
                       simp only[VR] at hx;obtain⟨q,cc,aa,hq,hrm,hle,ex,haa⟩:=hx
                       obtain⟨vs,f2,f3,f4,f5,f6,f7⟩:=hr.cc hi hc hq
                       obtain⟨s1,s2,s3⟩:=CC.sub_ok hs0 f6
                       rw[Dg_ s3] at s1
                       have hinx:i<nx:=hr.lt i _ hi
                       have hLn:L nx=none:=(hr.fr nx (Nat.le_refl _)).2
                       by_cases hcap:len+l<=cc
                       . -- in place, under a new number
                         have haa:=haa yY;subst haa
                         obtain⟨us,hsrc,hus⟩:=El_ hs hA.hB hr hy
                         have hfit:q.s+o+len*m'+us.length<=vs.length:=by
                           have h1:(len+l)*m'<=cc*m':=Nat.mul_le_mul_right _ hcap
                           rw[hsrc.1];rw[Nat.add_mul] at h1;omega
                         obtain⟨w',r1,r2⟩:=Df_ (P:=P) (ats:=0) (len:=len) (cap:=cc) hA.hT hT2 hd2 hA.hk hsrc hus.one hm f2 hcap (o:=q.s+o) hfit
                         have r1':∀ ats,(Builtin.append_ #[T,T2] ats #[.slice (some ⟨q.b,q.s+o,none⟩) len cc,ev F y]).run P w = .ok (.slice (some ⟨q.b,q.s+o,none⟩) (len+l) cc) w':=λats=>r1
                         have a1:=(CC.app_ok happ s1 hus).1
                         refine⟨_,w',bset β nx ⟨q.b,q.s+o,q.r-o⟩,_,by rw[ha.eval,Be_ ex rfl r1'],Mem.renum r2 hLn yY,?_, .take hr hi d1 d2 e4 e5 ?_⟩
                         . simp only[VR]
                           exact⟨_,cc,_,H_,by simp;omega,hcap,rfl,λ_=>by simp⟩
                         . have hla:=a1.length
                           have hsl:(SW.sub vs (q.s+o) (len*m')).length=len*m':=by rw[s1.length];exact s2
                           refine CC.br (q:=⟨q.b,q.s+o,q.r-o⟩) H_ (by rw[Ax_];simp;omega) ?_ (λg=>by cases g) ?_ (Bl_ _ _ _ f7 hus.one)
                           . show c'.len<=q.r-o
                             rw[<- hla,List.length_append,hsl];omega
                           . rw[<- hla,List.length_append,hsl]
                             have :=Og_ (vs:=vs) (us:=us) (s:=q.s+o) (p:=len*m') hfit
                             rw[this]
                             exact a1.mono (Ar_ (hr.fr nx (Nat.le_refl _)).1)
                       . have hmem:∀ (w:World) (x:Option (Nat×Obj)),Mem N H (lupd L nx x) w->Mem N H (lupd (lupd L i none) nx x) w:=λw x hm=>by
                           have hx:∀ j y,lupd (lupd L i none) nx x j=some y->lupd L nx x j=some y:=λj y e=>by
                             by_cases e':j=nx
                             . subst e';rw[D_] at e ⊢;exact e
                             . rw[C_ _ _ _ _ e'] at e ⊢;exact (Gk_ e).2
                           exact hm.sub (λj y e=>⟨j,hx j y e⟩) λj j' y y' e e' hb=>by
                             obtain⟨yb,yo⟩:=y;obtain⟨yb',yo'⟩:=y'
                             cases (show yb=yb' from hb)
                             exact hm.ll j j' yb yo yo' (hx _ _ e) (hx _ _ e')
                         have hold:∀ w,Mem N H L w->(Builtin.firstCells m' len (.slice (some aa) len cc)).run P w = .ok (SW.sub vs (q.s+o) (len*m')).toArray w:=λw hm=>by
                           cases len with
                           |zero=>simp[SW.sub,Builtin.firstCells,loadCells,loadCellsFrom]
                           |succ len=>
                             have :=haa yY;subst this
                             exact ((Hr_ (P:=P) (len:=len+1) (cap:=cc) f2 yY).2 w hm).2
                         obtain⟨nc,b,w',β',L',q⟩:=grow (L1:=lupd L i none) (h1:=h1) (old:=SW.sub vs (q.s+o) (len*m')) (len:=len) (cap:=cc) (base:=some aa) hd hr (Post.set hr hi d1 d2 (show BR β i .dead none from rfl)) hmem hy hold (by rw[s1.length];exact s2) (λus h=>(CC.app_ok happ s1 h).1) hcap e2 e4 e5 ex ac w ha hm
                         exact⟨_,w',β',L',q⟩
                     . cases e
                   . cases e
             . cases e
           . cases e
     . cases e
   . cases e
 . cases e
end
end Go.CE
namespace Go.CE
open Go.SW
noncomputable section
variable {P:Program} {n:Nat} {N:SW.Rest} {F:Fr} {H:Hp} {L:Ls} {ty T T' T2:TypeId} {x y z:Operand} {β:Be} {f:Fe} {h:He} {nx:Nat}
def lnE (a:CV):Option Nat:=match a with
 | .str n _=>some n
 | .nils=>some 0
 | .sl _ _ n _=>some n
 | .slu _ _ n _=>some n
 |_=>none
theorem O0_ {a:CV} {m:Nat} {v:Value} (e:lnE a=some m) (hv:VR β a v) (w:World):(Builtin.lenOf v).run P w = .ok m w:=by
 unfold lnE at e
 split at e
 simp only[Option.some.injEq] at e;subst e;simp only[VR] at hv;rw[hv.2];simp[Builtin.lenOf,SW.str,Bg_,B_];simp only[Option.some.injEq] at e;subst e;simp only[VR] at hv;subst hv;simp[Builtin.lenOf];simp only[Option.some.injEq] at e;subst e;simp only[VR] at hv;obtain⟨q,_,rfl⟩:=hv;simp[Builtin.lenOf];simp only[Option.some.injEq] at e;subst e;simp only[VR] at hv;obtain⟨q,c,a,_,_,_,rfl,_⟩:=hv;simp[Builtin.lenOf]
 . cases e
def fcE (h:He) (isb:Bool) (k m:Nat) (a:CV):Option CC:=match m with
 |0=>some (CC.nil isb)
 |_=>match a with
   | .str n x=>bif isb&&Nat.ble m n then some (.b m (x%256 ^ m)) else none
   | .sl i o len _=>bif Nat.ble m len then (match h.get i with
     |some hb=>match hbC hb with
       |some (_,c,_)=>c.sub o (m*k)
       |none=>none
     |none=>none) else none
   | .slu i o len _=>bif Nat.ble m len then (match h.get i with
     |some hb=>match hbC hb with
       |some (_,c,_)=>c.sub o (m*k)
       |none=>none
     |none=>none) else none
   |_=>none
theorem Me_ {b o i len cap m k T0:Nat} {vs:List Value} {w:World} (hm:Mem N H L w) (hi:L i=some (b,bx T0 vs)) (hl:o+m*k<=vs.length):(Builtin.firstCells k m (.slice (some ⟨b,o,none⟩) len cap)).run P w = .ok (SW.sub vs o (m*k)).toArray w:=by
 have hlen:(SW.sub vs o (m*k)).length=m*k:=by simp[SW.sub];omega
 have :=run_loadCells_list (P:=P) w ⟨b,o,none⟩ (SW.sub vs o (m*k)) (λj v hj=>by
   rw[M_]
   refine hm.cellL hi ?_
   simp only[SW.sub,List.getElem?_take,List.getElem?_drop] at hj
   split at hj
   . exact hj
   . cases hj)
 rw[hlen] at this;exact yQ
theorem Ov_ {isb:Bool} {k m:Nat} {a:CV} {d:CC} {v:Value} (e:fcE h isb k m a=some d) (hk:isb=true->k=1) (hr:HR β h nx L) (hv:VR β a v) (hsl:∃ l,lnE a=some l):∃ us,us.length=m*k/\d.R β us/\∀ w,Mem N H L w->(Builtin.firstCells k m v).run P w = .ok us.toArray w:=by
 cases m with
 |zero=>
   simp only[fcE,Option.some.injEq] at e;subst e
   refine⟨[],by simp,CC.nil_ok.1,λw _=>?_⟩
   obtain⟨l,hl⟩:=hsl
   unfold lnE at hl
   split at hl
   . simp only[VR] at hv;rw[hv.2];simp[Builtin.firstCells,SW.str,B6_]
   . simp only[VR] at hv;subst hv;simp[Builtin.firstCells]
   . simp only[VR] at hv;obtain⟨q,_,rfl⟩:=hv;simp[Builtin.firstCells,loadCells,loadCellsFrom]
   . simp only[VR] at hv;obtain⟨q,c,a,_,_,_,rfl,_⟩:=hv;simp[Builtin.firstCells,loadCells,loadCellsFrom]
   . cases hl
 |succ m=>
   have blk:∀ {i o len cap:Nat} {q:Pl} {hb:HB} {T0:TypeId} {c:CC} {gr:Bool},β i=some q->h.get i=some hb->hbC hb=some (T0,c,gr)->c.sub o ((m+1)*k)=some d->∃ us,us.length=(m+1)*k/\d.R β us/\∀ w,Mem N H L w->(Builtin.firstCells k (m+1) (.slice (some ⟨q.b,q.s+o,none⟩) len cap)).run P w = .ok us.toArray w:=by
     intro i o len cap q hb T0 c gr hq hi hc hs
     obtain⟨vs,f2,f3,f4,f5,f6,f7⟩:=hr.cc hi hc hq
     obtain⟨s1,s2,s3⟩:=CC.sub_ok hs f6
     rw[Dg_ s3] at s1
     exact⟨_,by rw[s1.length,s2],s1,λw hm=>Me_ hm f2 yY⟩
   simp only[fcE] at e
   split at e
   . rename_i l x
     cases hb:(isb&&Nat.ble (m+1) l) with
     |false=>rw[hb] at e;cases e
     |true=>
       rw[hb] at e
       simp only[Bool.and_eq_true] at hb
       have :=hk hb.1;subst this
       have hle:=Nat.le_of_ble_eq_true hb.2
       simp only[cond_true,Option.some.injEq] at e;subst e
       simp only[VR] at hv
       refine⟨(dec (m+1) (x%256 ^ (m+1))).map u8v,by simp[B_],⟨Nat.mod_lt _ (Nat.pow_pos yY),rfl⟩,λw _=>?_⟩
       rw[hv.2,<- Bc_ (m+1) l x hle]
       simp only[Builtin.firstCells,SW.str,B6_]
       simp
       rfl
   . rename_i i o len cap
     cases hb:Nat.ble (m+1) len with
     |false=>rw[hb] at e;cases e
     |true=>
       rw[hb] at e
       simp only[cond_true] at e
       simp only[VR] at hv;obtain⟨q,hq,rfl⟩:=hv
       split at e
       . rename_i hb hi
         split at e
         . rename_i T0 c gr hc;exact blk hq hi hc e
         . cases e
       . cases e
   . rename_i i o len k'
     cases hb:Nat.ble (m+1) len with
     |false=>rw[hb] at e;cases e
     |true=>
       rw[hb] at e
       have hle:=Nat.le_of_ble_eq_true hb
       simp only[cond_true] at e
       simp only[VR] at hv;obtain⟨q,cc,aa,hq,_,hle2,rfl,ha⟩:=hv
       have :=ha yY;subst this
       split at e
       . rename_i hb hi
         split at e
         . rename_i T0 c gr hc;exact blk hq hi hc e
         . cases e
       . cases e
   . cases e
def cpE {R:Type} (P:Program) (h:He) (nx:Nat) (T:TypeId) (a b:CV) (k:Ke R):Option R:=match P.underlying T with
 |some (.slice e)=>match szE P e with
   |some m=>match lnE a with
     |some la=>match lnE b with
       | some lb=>bif (!isB P e)||Nat.beq m 1 then (match fcE h (isB P e) m (Nat.min lb la) b with
         |some d=>match Nat.min lb la with
           |0=>bif (match a with| .str _ _=>true|_=>false) then none else k (.int .i64 ((0:Nat):Int)) h nx
           |l+1=>match (match a with| .sl i o _ _=>some (i,o)| .slu i o _ _=>some (i,o)|_=>none) with
             |some (i,o)=>match h.get i with
               |some hb=>match hbC hb with
                 |some (T0,c,gr)=>match c.put o d with
                   |some c'=>Tr.setK 40 h i (c'.hb T0 gr) λh=>k (.int .i64 ((l+1:Nat):Int)) h nx
                   |none=>none
                 |none=>none
               |none=>none
             |none=>none
         |none=>none) else none
       |none=>none
     |none=>none
   |none=>none
 |_=>none
theorem Iz_ {base:Option Addr} {len cap m lb l:Nat} {e:TypeId} {ats:TypeId} {sv:Value} {us:List Value} {w w':World} (hT:P.underlying T=some (.slice e)) (hk:Sz P e m) (hlb:(Builtin.lenOf sv).run P w = .ok lb w) (hl:Nat.min lb len=l) (hf:(Builtin.firstCells m l sv).run P w = .ok us.toArray w) (hs:(match base with|some a=>storeCells a us|none=>pure ():Sem Unit).run P w = .ok () w'):(Builtin.copy_ #[T,T2] ats #[.slice base len cap,sv]).run P w = .ok (goInt l) w':=by
 cases base with
 |none=>simp at hs;subst hs;simp[Builtin.copy_,run_underlying hT,hlb,hk w,hl,hf]
 |some a=>simp only at hs;simp[Builtin.copy_,run_underlying hT,hlb,hk w,hl,hf,hs]
theorem Ga_ {v sv r:Value} {w w':World} {d:Option Tmp} {pos:String} {af:Array Edge} {g:Option (Nat×Bool)} (hx:ev F x=v) (hy:ev F y=sv) (h:∀ ats,(Builtin.copy_ #[T,T2] ats #[v,sv]).run P w = .ok r w'):(execOp (ev F) ⟨d, .call ⟨.builtin .copy,#[x,y],#[T,T2]⟩,ty,pos,af,g⟩).run P w = .ok (.value r) w':=
 G_ (args:=#[v,sv]) xP λcs=>by simp[builtin,h]
theorem e_cp {R:Type} {k:Ke R} {r:R} {a b:CV} {dst:Option Tmp} {pos:String} {af:Array Edge} (e:cpE P h nx T a b k=some r):∃ c h' nx',k c h' nx'=some r/\∀ {β:Be} {L:Ls} {F:Fr},dstB n ⟨dst, .call ⟨.builtin .copy,#[x,y],#[T,T2]⟩,ty,pos,af,none⟩=true->HR β h nx L->VR β a (ev F x)->VR β b (ev F y)->Es P n N F H L β h nx ⟨dst, .call ⟨.builtin .copy,#[x,y],#[T,T2]⟩,ty,pos,af,none⟩ c h' nx':=by
 unfold cpE at e
 split at e
 . rename_i et hT
   split at e
   . rename_i m hm
     split at e
     . rename_i la hla
       split at e
       . rename_i lb hlb
         cases hB:((!isB P et)||Nat.beq m 1) with
         |false=>rw[hB] at e;cases e
         |true=>
           rw[hB] at e
           have hB1:isB P et=true->m=1:=λq=>by rw[q] at hB;simpa using hB
           simp only[cond_true] at e
           split at e
           . rename_i d hd
             have wrap:∀ {β:Be} {L:Ls} {F:Fr} {c:CV} {h':He} {nx':Nat},dstB n ⟨dst, .call ⟨.builtin .copy,#[x,y],#[T,T2]⟩,ty,pos,af,none⟩=true->(∀ (ac:Act) (w:World),At n ac F->Mem N H L w->∃ v w' β' L',(execOp ac.eval ⟨dst, .call ⟨.builtin .copy,#[x,y],#[T,T2]⟩,ty,pos,af,none⟩).run P w = .ok (.value v) w'/\Mem N H L' w'/\VR β' c v/\Post β h nx L β' h' nx' L')->Es P n N F H L β h nx ⟨dst, .call ⟨.builtin .copy,#[x,y],#[T,T2]⟩,ty,pos,af,none⟩ c h' nx':=by
               intro β L F c h' nx' hdst hk ops K kk ac w ha hw
               obtain⟨v,w',β',L',a1,a2,a3,a4⟩:=hk ac w ha hw
               rw[if_pos xC]
               unfold Oper.wp
               rw[a1]
               exact⟨_,H,_,ha.putO hdst v,a2,kk β' v L' a3 a4⟩
             cases hl:Nat.min lb la with
             |zero=>
               rw[hl] at e hd
               simp only at e
               cases hs:(match a with| .str _ _=>true|_=>false) with
               |true=>rw[hs] at e;cases e
               |false=>
                 rw[hs] at e
                 simp only[cond_false] at e
                 refine⟨_,_,_,e,λ{β L F} hdst hr hx hy=>wrap hdst λac w ha hw=>?_⟩
                 obtain⟨us,u1,u2,u3⟩:=Ov_ hd hB1 hr hy ⟨_,hlb⟩
                 have hus0:us=[]:=List.length_eq_zero_iff.1 (by rw[u1];simp)
                 subst hus0
                 obtain⟨base,cap,ex⟩:∃ base cap,ev F x = .slice base la cap:=by
                   unfold lnE at hla
                   split at hla
                   . cases hs
                   . simp only[Option.some.injEq] at hla;subst hla;simp only[VR] at hx;exact⟨_,_,hx⟩
                   . simp only[Option.some.injEq] at hla;subst hla;simp only[VR] at hx;obtain⟨q,_,ex⟩:=hx;exact⟨_,_,ex⟩
                   . simp only[Option.some.injEq] at hla;subst hla;simp only[VR] at hx;obtain⟨q,c,a,_,_,_,ex,_⟩:=hx;exact⟨_,_,ex⟩
                   . cases hla
                 have r1:∀ ats,(Builtin.copy_ #[T,T2] ats #[.slice base la cap,ev F y]).run P w = .ok (goInt 0) w:=λats=>
                   Iz_ (P:=P) (ats:=ats) hT (Ah_ hm) (O0_ hlb hy w) hl (u3 w hw) (by cases base<;>simp[storeCells])
                 exact⟨_,w,β,L,by rw[ha.eval,Ga_ ex rfl r1],hw,by simp only[VR];rfl, .refl hr⟩
             |succ l=>
               rw[hl] at e hd
               simp only at e
               split at e
               . rename_i i o hio
                 split at e
                 . rename_i hb hi
                   split at e
                   . rename_i T0 c gr hc
                     split at e
                     . rename_i c' hp
                       obtain⟨h',e1,e2,e3⟩:=Tr.setK_ok _ _ _ _ _ _ e
                       refine⟨_,h',_,e1,λ{β L F} hdst hr hx hy=>wrap hdst λac w ha hw=>?_⟩
                       obtain⟨us,u1,u2,u3⟩:=Ov_ hd hB1 hr hy ⟨_,hlb⟩
                       obtain⟨q,cap,hq,ex⟩:∃ q cap,β i=some q/\ev F x = .slice (some ⟨q.b,q.s+o,none⟩) la cap:=by
                         have hmn:=Nat.min_le_right lb la
                         have hl':min lb la=l+1:=hl
                         cases a<;>simp only[Option.some.injEq,Prod.mk.injEq,reduceCtorEq] at hio
                         . obtain⟨rfl,rfl⟩:=hio
                           simp only[lnE,Option.some.injEq] at hla;subst hla
                           simp only[VR] at hx;obtain⟨q,h1,h2⟩:=hx;exact⟨q,_,h1,h2⟩
                         . obtain⟨rfl,rfl⟩:=hio
                           simp only[lnE,Option.some.injEq] at hla;subst hla
                           simp only[VR] at hx;obtain⟨q,cc,aa,h1,_,hle,h2,h3⟩:=hx
                           have :=h3 yY;subst this
                           exact⟨q,_,h1,h2⟩
                       obtain⟨vs,f2,f3,f4,f5,f6,f7⟩:=hr.cc hi hc hq
                       obtain⟨b1,b2⟩:=CC.put_br (T:=T0) hq hp f3 f4 f5 f6 f7 u2
                       obtain⟨w',L',s1,s2,s3,s4⟩:=Mem.storeA (P:=P) q.b i (q.s+o) us vs 0 L w hw f2 yY u2.one
                       have hLL:L'=lupd L i (some (q.b,bx T0 (Ae_ vs (q.s+o) us))):=funext λj=>by
                         by_cases e':j=i
                         . subst e';rw[D_,s4];rfl
                         . rw[C_ _ _ _ _ e',s3 j e']
                       subst hLL
                       have r1:∀ ats,(Builtin.copy_ #[T,T2] ats #[.slice (some ⟨q.b,q.s+o,none⟩) la cap,ev F y]).run P w = .ok (goInt (l+1)) w':=λats=>
                         Iz_ (P:=P) (ats:=ats) hT (Ah_ hm) (O0_ hlb hy w) hl (u3 w hw) s1
                       exact⟨_,w',β,_,by rw[ha.eval,Ga_ ex rfl r1],s2,by simp only[VR];rfl, .set hr hi e2 e3 b2⟩
                     . cases e
                   . cases e
                 . cases e
               . cases e
           . cases e
       . cases e
     . cases e
   . cases e
 . cases e
def rgE {R:Type} (P:Program) (h:He) (nx:Nat) (T:TypeId) (a:CV) (k:Ke R):Option R:=match a with
 | .str m s=>match P.underlying T with
   |some .string=>Tr.setK 40 h nx (.itr m s 0) λh=>k (.ptr nx 0) h (nx+1)
   |_=>none
 |_=>none
theorem e_rg {R:Type} {k:Ke R} {r:R} {a:CV} {d:Nat} {pos:String} {af:Array Edge} (e:rgE P h nx T a k=some r):∃ c h' nx',k c h' nx'=some r/\∀ {β:Be} {L:Ls} {F:Fr},Nat.blt d n=true->HR β h nx L->VR β a (ev F x)->Es P n N F H L β h nx ⟨some d, .range T x,ty,pos,af,none⟩ c h' nx':=by
 unfold rgE at e
 split at e
 . rename_i m s
   split at e
   . rename_i hT
     obtain⟨h',e1,e2,e3⟩:=Tr.setK_ok _ _ _ _ _ _ e
     refine⟨_,h',_,e1,λ{β L F} hd hr hx ops K kk=>?_⟩
     simp only[VR] at hx
     refine Lu_ nx hd hx.2 hT λb=>kk (bset β nx ⟨b,0,0⟩) _ _ ?_ (.new hr e2 e3 ⟨_,H_,rfl,hx.1,rfl⟩)
     exact yL
   . cases e
 . cases e
def nxE {R:Type} (h:He) (nx:Nat) (a:CV) (k:Ke R):Option R:=match a with
 | .ptr i 0=>match h.get i with
   |some (.itr m s p)=>bif Nat.blt p m then (bif Nat.blt (s/256 ^ p%256) 128 then Tr.setK 40 h i (.itr m s (p+1)) λh=>k (.tup [.bool true, .int .i64 (p:Int), .int .i32 ((s/256 ^ p%256:Nat):Int)]) h nx else none) else k (.tup [.bool false]) h nx
   |_=>none
 |_=>none
theorem e_nx {R:Type} {k:Ke R} {r:R} {a:CV} {d:Nat} {pos:String} {af:Array Edge} (e:nxE h nx a k=some r):∃ c h' nx',k c h' nx'=some r/\∀ {β:Be} {L:Ls} {F:Fr},Nat.blt d n=true->HR β h nx L->VR β a (ev F x)->Es P n N F H L β h nx ⟨some d, .next x true,ty,pos,af,none⟩ c h' nx':=by
 unfold nxE at e
 split at e
 . rename_i i
   split at e
   . rename_i m s p hi
     cases hb:Nat.blt p m with
     |false=>
       rw[hb] at e
       simp only[cond_false] at e
       refine⟨_,_,_,e,λ{β L F} hd hr hx ops K kk=>?_⟩
       simp only[VR] at hx;obtain⟨q,hq,ex⟩:=hx
       obtain⟨q',h1,h0,h2,h3⟩:=hr.br i _ hi
       rw[hq] at h1;cases h1
       rw[h0] at ex
       have hge:m<=p:=by
         rcases Nat.lt_or_ge p m with q|q
         . have :Nat.blt p m=true:=Nat.ble_eq_true_of_le q
           rw[hb] at this;cases this
         . exact q
       exact Go_ i hd ex h3 (by rw[B_];exact hge) (kk β _ _ (by simp only[VR];exact⟨[.bool false],rfl, .cons Y .nil⟩) (.refl hr))
     |true=>
       rw[hb] at e
       simp only[cond_true] at e
       have hlt:=A4_ hb
       cases hb2:Nat.blt (s/256 ^ p%256) 128 with
       |false=>rw[hb2] at e;cases e
       |true=>
         rw[hb2] at e
         simp only[cond_true] at e
         obtain⟨h',e1,e2,e3⟩:=Tr.setK_ok _ _ _ _ _ _ e
         refine⟨_,h',_,e1,λ{β L F} hd hr hx ops K kk=>?_⟩
         simp only[VR] at hx;obtain⟨q,hq,ex⟩:=hx
         obtain⟨q',h1,h0,h2,h3⟩:=hr.br i _ hi
         rw[hq] at h1;cases h1
         rw[h0] at ex
         have hget:((dec m s).getD p 0).toNat=s/256 ^ p%256:=by
           rw[List.getD_eq_getElem?_getD,Dz_ m s p hlt];simp
         refine Fr_ i hd ex h3 (by rw[B_];exact hlt) (by rw[hget];exact A4_ hb2) (kk β _ _ ?_ (.set hr hi e2 e3 ⟨q,hq,h0,h2,rfl⟩))
         simp only[VR]
         exact⟨[.bool true, .int .i64 p, .int .i32 (((dec m s).getD p 0).toNat:Int)],rfl, .cons Y (.cons Y (.cons (by rw[hget];rfl) .nil))⟩
   . cases e
 . cases e
end
end Go.CE
namespace Go.CE
open Go.SW
noncomputable section
variable {P:Program} {n:Nat} {N:SW.Rest} {F:Fr} {H:Hp} {L:Ls} {ty T T' T2:TypeId} {x y z:Operand} {β:Be} {f:Fe} {h:He} {nx:Nat}
inductive XK where
 |noesc
 |count
 |ixb
 |mknz (e:TypeId)
abbrev Xt:=List (FuncId×XK)
def xkE:Xt->FuncId->Option XK
 |[],_=>none
 |(a,k)::r,g=>bif Nat.beq a g then some k else xkE r g
def XSp (P:Program) (g:FuncId):XK->Prop
 | .noesc=>∀ v w,(callFunc g #[v]).run P w = .ok (.value v) w
 | .count=>∀ (s:Bs) (c:Int) w,(callFunc g #[SW.str s, .int .u8 c]).run P w = .ok (.value (.int .i64 (Lib.countByte s c.toNat.toUInt8))) w
 | .ixb=>∀ (s:Bs) (c:Int) w,(callFunc g #[SW.str s, .int .u8 c]).run P w = .ok (.value (.int .i64 (Lib.indexByte s c.toNat.toUInt8))) w
 | .mknz e=>∀ (m:Nat) w,m<=281474976710656->∃ cs:List Value,m<=cs.length/\(∀ v∈cs,v.oneCell'=true)/\(callFunc g #[.int .i64 (m:Int)]).run P w = .ok (.value (.slice (some ⟨w.heap.size,0,none⟩) m cs.length)) {w with drawn:=w.drawn+2,heap:=w.heap.push (bx e cs)}
def XOk (P:Program) (X:Xt):Prop:=∀ g k,xkE X g=some k->XSp P g k
def cntN:Nat->Nat->Nat->Nat
 |0,_,_=>0
 |n+1,x,c=>(bif Nat.beq (x%256) c then 1 else 0)+cntN n (x/256) c
def ixN:Nat->Nat->Nat->Nat->Option Nat
 |0,_,_,_=>none
 |n+1,x,c,i=>bif Nat.beq (x%256) c then some i else ixN n (x/256) c (i+1)
theorem u8_eq {a c:Nat} (hc:c<256):(UInt8.ofNat (a%256)==UInt8.ofNat c)=Nat.beq (a%256) c:=by
 rw[Bool.eq_iff_iff,beq_iff_eq];constructor;intro e;have :=congrArg UInt8.toNat e;simp at this;have e2:c%256=c:=Nat.mod_eq_of_lt hc;rw[show a%256=c by omega];exact Nat.beq_refl _;intro e;rw[Nat.eq_of_beq_eq_true e]
theorem J1_ {c:Nat} (hc:c<256):∀ (m x:Nat),Lib.countByte (dec m x) (UInt8.ofNat c)=cntN m x c
 |0,_=>by simp[Lib.countByte,dec,cntN]
 |m+1,x=>by
   have ih:=J1_ hc m (x/256)
   unfold Lib.countByte at ih ⊢
   simp only[dec,cntN,List.count_cons,ih,u8_eq hc]
   cases Nat.beq (x%256) c<;>simp<;>omega
theorem Oy_ {c:Nat} (hc:c<256):∀ (m x i:Nat),(match ixN m x c i with|some j=>(j:Int)|none=>-1)=(if Lib.indexByte (dec m x) (UInt8.ofNat c) = -1 then -1 else Lib.indexByte (dec m x) (UInt8.ofNat c)+i)
 |0,_,_=>by simp[Lib.indexByte,dec,ixN]
 |m+1,x,i=>by
   have ih:=Oy_ hc m (x/256) (i+1)
   have hge:=Lib.indexByte_ge (dec m (x/256)) (UInt8.ofNat c)
   simp only[dec,ixN,Lib.indexByte,u8_eq hc]
   cases hb:Nat.beq (x%256) c with
   |true=>simp
   |false=>
     simp only[cond_false,Bool.false_eq_true,if_false]
     rw[ih]
     by_cases h1:Lib.indexByte (dec m (x/256)) (UInt8.ofNat c) = -1
     . simp[h1]
     . have h2:¬(Lib.indexByte (dec m (x/256)) (UInt8.ofNat c)+1 = -1):=by omega
       simp only[beq_iff_eq,h1,if_false,h2]
       omega
def xtE {R:Type} (h:He) (nx:Nat) (xk:XK) (args:List CV) (k:Ke R):Option R:=match xk with
 | .noesc=>match args with
   |[a]=>k a h nx
   |_=>none
 | .count=>match args with
   |[.str m s, .int .u8 (.ofNat c)]=>bif Nat.blt c 256 then k (.int .i64 (cntN m s c:Nat)) h nx else none
   |_=>none
 | .ixb=>match args with
   |[.str m s, .int .u8 (.ofNat c)]=>bif Nat.blt c 256 then k (.int .i64 (match ixN m s c 0 with|some j=>(j:Int)|none=>-1)) h nx else none
   |_=>none
 | .mknz e=>match args with
   |[.int .i64 (.ofNat m)]=>bif Nat.ble m 281474976710656 then Tr.setK 40 h nx (.bys e 0 0 true) λh=>k (.slu nx 0 m 1) h (nx+1) else none
   |_=>none
theorem e_xt {R:Type} {k:Ke R} {r:R} {xk:XK} {g:FuncId} {args:List CV} (hX:XSp P g xk) (e:xtE h nx xk args k=some r):∃ c h' nx',k c h' nx'=some r/\∀ {β:Be} {L:Ls} {vs:List Value} {w:World},HR β h nx L->VRs β args vs->Mem N H L w->∃ v w' β' L',(callFunc g vs.toArray).run P w = .ok (.value v) w'/\Mem N H L' w'/\VR β' c v/\Post β h nx L β' h' nx' L':=by
 unfold xtE at e
 split at e
 . split at e
   refine⟨_,_,_,e,λ{β L vs w} hr hv hm=>?_⟩
   obtain⟨v,us,rfl,h1,h2⟩:=hv.cons_inv
   rw[h2.nil_inv]
   exact⟨v,w,β,L,hX v w,hm,h1, .refl hr⟩
   . cases e
 . split at e
   . rename_i m s c
     cases hb:Nat.blt c 256 with
     |false=>rw[hb] at e;cases e
     |true=>
       rw[hb] at e
       have hc:=A4_ hb
       simp only[cond_true] at e
       refine⟨_,_,_,e,λ{β L vs w} hr hv hm=>?_⟩
       obtain⟨v,us,rfl,h1,h2⟩:=hv.cons_inv
       obtain⟨v2,us2,rfl,h3,h4⟩:=h2.cons_inv
       rw[h4.nil_inv]
       simp only[VR] at h1 h3
       obtain⟨_,rfl⟩:=h1;subst h3
       refine⟨_,w,β,L,hX _ _ w,hm,?_, .refl hr⟩
       simp only[VR]
       have :=J1_ hc m s
       show Value.int .i64 (Lib.countByte (dec m s) (UInt8.ofNat c):Nat)=_
       rw[this]
   . cases e
 . split at e
   . rename_i m s c
     cases hb:Nat.blt c 256 with
     |false=>rw[hb] at e;cases e
     |true=>
       rw[hb] at e
       have hc:=A4_ hb
       simp only[cond_true] at e
       refine⟨_,_,_,e,λ{β L vs w} hr hv hm=>?_⟩
       obtain⟨v,us,rfl,h1,h2⟩:=hv.cons_inv
       obtain⟨v2,us2,rfl,h3,h4⟩:=h2.cons_inv
       rw[h4.nil_inv]
       simp only[VR] at h1 h3
       obtain⟨_,rfl⟩:=h1;subst h3
       refine⟨_,w,β,L,hX _ _ w,hm,?_, .refl hr⟩
       simp only[VR]
       have :=Oy_ hc m s 0
       show Value.int .i64 (Lib.indexByte (dec m s) (UInt8.ofNat c))=_
       rw[this]
       congr 1
       split<;>omega
   . cases e
 . rename_i e0
   split at e
   . rename_i m
     cases hb:Nat.ble m 281474976710656 with
     |false=>rw[hb] at e;cases e
     |true=>
       rw[hb] at e
       simp only[cond_true] at e
       obtain⟨h',e1,e2,e3⟩:=Tr.setK_ok _ _ _ _ _ _ e
       refine⟨_,h',_,e1,λ{β L vs w} hr hv hm=>?_⟩
       obtain⟨v,us,rfl,h1,h2⟩:=hv.cons_inv
       rw[h2.nil_inv]
       simp only[VR] at h1;subst h1
       obtain⟨cs,c1,c2,c3⟩:=hX m w (Nat.le_of_ble_eq_true hb)
       refine⟨_,_,bset β nx ⟨w.heap.size,0,cs.length⟩,lupd L nx (some (w.heap.size,bx e0 cs)),c3,(hm.drew (w.drawn+2)).push nx _,?_, .new hr e2 e3 ⟨_,cs,H_,rfl,by simp,by simp,λg=>(by cases g),by simp,by simp[dec],c2⟩⟩
       simp only[VR]
       exact⟨_,cs.length,_,H_,by simp,c1,rfl,λ_=>rfl⟩
   . cases e
end
end Go.CE
namespace Go.CE
open Go.SW
noncomputable section
variable {P:Program} {n:Nat} {N:SW.Rest} {F:Fr} {H:Hp} {L:Ls} {ty T T' T2:TypeId} {x y z:Operand} {β:Be} {f:Fe} {h:He} {nx:Nat}
def upE (P:Program) (h:He) (T T':TypeId) (a:CV):Option CV:=match a with
 | .ptr i 0=>match h.get i with
   |some (.cells e cs false)=>match P.underlying T with
     |some (.pointer t)=>match P.underlying T' with
       |some .unsafePointer=>match szE P t with
         |some (_+1)=>match cs with
           |_::_=>some (.ptr i 0)
           |[]=>none
         |_=>none
       |_=>none
     |some .unsafePointer=>match P.underlying T' with
       |some (.pointer u)=>match P.info? u with
         |some _=>bif liesAt P P.depth e (cs.length/P.cellsOf e) 0 u 1 then some (.ptr i 0) else none
         |none=>none
       |_=>none
     |_=>none
   |_=>none
 |_=>none
theorem y_up {a c:CV} (hr:HR β h nx L) (hx:VR β a (ev F x)) (e:upE P h T T' a=some c):Yl P N F H L β (.convert T T' x) ty c:=by
 unfold upE at e
 split at e
 . rename_i i
   split at e
   . rename_i e0 cs hi
     have hx':=hx
     simp only[VR] at hx;obtain⟨q,hq,ex⟩:=hx
     obtain⟨q',vs,f1,f2,f3,f4,f5,f6,f7⟩:=hr.br i _ hi
     rw[hq] at f1;cases f1
     obtain⟨g1,g2⟩:=f5 Y
     rw[g1] at ex
     split at e
     . rename_i t hT
       split at e
       . rename_i hT'
         split at e
         . rename_i k hk
           split at e
           simp only[Option.some.injEq] at e;subst e
           obtain⟨j,hj⟩:∃ j,P.info? t=some j:=by
             unfold szE at hk;split at hk
             . rename_i j hj;exact⟨j,hj⟩
             . cases hk
           have hs:j.size≠0:=by unfold szE at hk;rw[hj] at hk;simp at hk;omega
           refine⟨_,hx',?_⟩
           rw[ex]
           exact D6_ ex f2 (by simp[f3,g1,g2]) hT hT' hj hs
           . cases e
         . cases e
       . cases e
     . rename_i hT
       split at e
       . rename_i u hT'
         split at e
         . rename_i j hj
           cases hb:liesAt P P.depth e0 (cs.length/P.cellsOf e0) 0 u 1 with
           |false=>rw[hb] at e;cases e
           |true=>
             rw[hb] at e
             simp only[cond_true,Option.some.injEq] at e;subst e
             refine⟨_,hx',?_⟩
             rw[ex]
             exact Cr_ ex f2 hT hT' hj (by rw[f3,g1,g2,Nat.zero_add];exact hb)
         . cases e
       . cases e
     . cases e
   . cases e
 . cases e
def usdE (a:CV):Option CV:=match a with
 | .nils=>some .nilp
 | .slu i o (_+1) _=>some (.ptr i o)
 | .sl i o _ (_+1)=>some (.ptr i o)
 |_=>none
theorem y_usd {a c:CV} {ats:Array TypeId} (hx:VR β a (ev F x)) (e:usdE a=some c):Yl P N F H L β (.call ⟨.builtin .unsafeSliceData,#[x],ats⟩) ty c:=by
 unfold usdE at e
 split at e
 simp only[Option.some.injEq] at e;subst e;simp only[VR] at hx;refine⟨.pointer none,by simp only[VR],λd pos af g w _=>G_ (args:=#[.slice none 0 0]) xH λcs=>?_⟩;simp[builtin,Lib.run_unsafeSliceData_nil]
 . rename_i i o len k
   simp only[Option.some.injEq] at e;subst e
   simp only[VR] at hx;obtain⟨q,cc,aa,hq,_,hle,ex,ha⟩:=hx
   have :=ha yY;subst this
   refine⟨_,by simp only[VR];exact⟨q,hq,rfl⟩,λd pos af g w _=>G_ (args:=#[.slice (some ⟨q.b,q.s+o,none⟩) (len+1) cc]) (by simp[ex]) λcs=>?_⟩
   simp[builtin,Lib.run_unsafeSliceData_row _ _ _ _ _ _ (show cc≠0 by omega)]
 . rename_i i o len cap
   simp only[Option.some.injEq] at e;subst e
   simp only[VR] at hx;obtain⟨q,hq,ex⟩:=hx
   refine⟨_,by simp only[VR];exact⟨q,hq,rfl⟩,λd pos af g w _=>G_ (args:=#[.slice (some ⟨q.b,q.s+o,none⟩) len (cap+1)]) (by simp[ex]) λcs=>?_⟩
   simp[builtin,Lib.run_unsafeSliceData_row _ _ _ _ _ _ (show cap+1≠0 by omega)]
 . cases e
def usE {R:Type} (P:Program) (h:He) (nx:Nat) (T1:TypeId) (a b:CV) (k:Ke R):Option R:=match natE b with
 |some l=>match a with
   | .nilp=>match l with
     |0=>k (.str 0 0) h nx
     |_=>none
   | .ptr i o=>match l with
     |0=>none
     |_=>match h.get i with
       |some (.bys e m s gr)=>match P.underlying T1 with
         |some (.pointer e')=>bif Nat.beq e e'&&(Nat.beq (P.cellsOf e) 1&&(Nat.ble (o+l) m&&Nat.ble l 9223372036854775807)) then Tr.setK 40 h i .dead λh=>k (.str l (s/256 ^ o%256 ^ l)) h nx else none
         |_=>none
       |_=>none
   |_=>none
 |none=>none
theorem Nk_ {e:TypeId} (hc:P.cellsOf e=1) (count o m:Nat) (hn:o+m<=count):liesAt P P.depth e count o e m=true:=by
 have hd:P.depth=(2*(P.types.size+Made.depth)+1)+1:=rfl;rw[hd];simp only[liesAt,Bool.or_eq_true];left;rw[hd];have h1:o%1=0:=Nat.mod_one o;simp[rowAt,hc,hn,sameLayout,h1]
theorem N7_ {g o cells:Nat} {pt it ty e:TypeId} {w:World} (hp:P.underlying pt=some (.pointer e)) (hc:P.cellsOf e=1) (hsh:w.shape? g=some (e,cells)) (l:Bs) (h0:l≠[]) (hn:o+l.length<=cells) (h63:l.length<=9223372036854775807)
   (hcell:∀ j x,l[j]? = some x->w.cell? ((⟨g,o,none⟩:Addr).add j)=some (.int .u8 x.toNat)) :
   (Builtin.unsafeString_ #[pt,it] ty #[.pointer (some ⟨g,o,none⟩), .int .i64 l.length]).run P w = .ok (.string ⟨l.toArray⟩) (w.freeze ⟨g,o,none⟩ l.length):=by
 have hl:l.length≠0:=by simpa using h0
 have hlb:=Lib.run_loadBytes (P:=P) w l ⟨g,o,none⟩ .empty hcell;have hlies:=Nk_ (P:=P) hc (cells/P.cellsOf e) o l.length (by rw[hc];simpa using hn);have h63':¬(9223372036854775807:Int)<(l.length:Int):=by omega
 obtain⟨m1,m2,m3,hdef⟩:∃ m1 m2 m3,Builtin.unsafeString_ #[pt,it] ty #[.pointer (some ⟨g,o,none⟩), .int .i64 l.length] =
     (do
       let n <- asInt (.int .i64 l.length)
       if n<0 then runtimePanic (.error m1)
       if n>IntKind.i64.max then unsupported (.unsafePointer m2)
       if n=0 then pure (.string .empty)
       else if <- variablesAt ⟨g,o,none⟩ (<- elemOf pt) n.toNat then do
         let s <- loadBytes ⟨g,o,none⟩ .empty n.toNat
         freeze ⟨g,o,none⟩ n.toNat
         pure (.string s)
       else unsupported (.unsafePointer m3)):=⟨_,_,_,rfl⟩
 rw[hdef];have hmax:IntKind.i64.max=9223372036854775807:=rfl;have hneg:¬(l.length:Int)<0:=by omega
 simp[asInt,asIntOf,hmax,h63',hneg,hl,variablesAt,hsh,elemOf,run_underlying hp,hlies,hlb]
theorem e_us {R:Type} {k:Ke R} {r:R} {a b:CV} {T1 T3:TypeId} {d:Nat} {pos:String} {af:Array Edge} (e:usE P h nx T1 a b k=some r):∃ c h' nx',k c h' nx'=some r/\∀ {β:Be} {L:Ls} {F:Fr},Nat.blt d n=true->HR β h nx L->VR β a (ev F x)->VR β b (ev F y)->Es P n N F H L β h nx ⟨some d, .call ⟨.builtin .unsafeString,#[x,y],#[T1,T3]⟩,ty,pos,af,none⟩ c h' nx':=by
 unfold usE at e
 split at e
 . rename_i l hl
   split at e
   . split at e
     refine⟨_,_,_,e,λ{β L F} hd hr hx hy ops K kk ac w ha hm=>?_⟩
     rw[if_pos xC]
     unfold Oper.wp
     simp only[VR] at hx
     obtain⟨k1,ey⟩:=Bt_ hl hy
     have :(execOp ac.eval ⟨some d, .call ⟨.builtin .unsafeString,#[x,y],#[T1,T3]⟩,ty,pos,af,none⟩).run P w = .ok (.value (SW.str [])) w:=by
       rw[ha.eval]
       refine G_ (args:=#[.pointer none, .int k1 0]) (by simp[hx,ey]) λcs=>?_
       have :(Builtin.unsafeString_ #[T1,T3] ty #[.pointer none, .int k1 0]).run P w = .ok (.string .empty) w:=by
         exact Lib.run_unsafeString_none (P:=P) (w:=w) T1 T3 ty none
       simp[builtin,this,SW.str]
       rfl
     rw[this]
     exact⟨_,H,_,ha.put xF _,hm,kk β _ L ⟨by simp,rfl⟩ (.refl hr)⟩
     . cases e
   . rename_i i o
     split at e
     . cases e
     . rename_i hl0
       split at e
       . rename_i e0 m s gr hi
         split at e
         . rename_i e' hT
           cases hb:(Nat.beq e0 e'&&(Nat.beq (P.cellsOf e0) 1&&(Nat.ble (o+l) m&&Nat.ble l 9223372036854775807))) with
           |false=>rw[hb] at e;cases e
           |true=>
             rw[hb] at e
             simp only[Bool.and_eq_true] at hb
             obtain⟨b1,b2,b3,b4⟩:=hb
             have b1:=Nat.eq_of_beq_eq_true b1;subst b1
             have b2:=Nat.eq_of_beq_eq_true b2
             have b3:=Nat.le_of_ble_eq_true b3
             have b4:=Nat.le_of_ble_eq_true b4
             simp only[cond_true] at e
             obtain⟨h',e1,e2,e3⟩:=Tr.setK_ok _ _ _ _ _ _ e
             refine⟨_,h',_,e1,λ{β L F} hd hr hx hy ops K kk ac w ha hm=>?_⟩
             simp only[VR] at hx;obtain⟨q,hq,ex⟩:=hx
             obtain⟨k1,ey⟩:=Bt_ hl hy
             obtain⟨q',vs,f1,f2,f3,f4,f5,f6,f7,f8⟩:=hr.br i _ hi
             rw[hq] at f1;cases f1
             have hlen:(dec l (s/256 ^ o%256 ^ l)).length=l:=B_ _ _
             have hsub:SW.sub vs (q.s+o) l=(dec l (s/256 ^ o%256 ^ l)).map u8v:=by
               rw[<- Dg_ (m:=m) b3,f7,<- List.map_drop,<- List.map_take,Bq_ o m s yY,Bc_ l (m-o) _ yY]
             have hbk:=hm.l i q.b _ f2
             rw[if_pos xC]
             unfold Oper.wp
             have hrun:=N7_ (P:=P) (w:=w) (it:=T3) (ty:=ty) (g:=q.b) (o:=q.s+o) hT b2 (cells:=vs.length) (by simp [World.shape?,hbk,bx]) (dec l (s/256 ^ o%256 ^ l)) (λe=>hl0 (by have :=congrArg List.length e;rw [hlen] at this;simpa using this)) (by rw [hlen];omega) (by rw [hlen];exact b4) (λj c hj=>by
               rw[M_]
               refine hm.cellL f2 ?_
               have hjl:j<l:=by have :=(List.getElem?_eq_some_iff.1 hj).1;omega
               have h2:=congrArg (λr:List Value=>r[j]?) hsub
               simp only[SW.sub,List.getElem?_take,hjl,if_true,List.getElem?_drop,List.getElem?_map,hj,Option.map_some] at h2
               exact h2)
             rw[hlen] at hrun
             have hk1:k1 = .i64\/True:= .inr Z
             have this :(execOp ac.eval ⟨some d, .call ⟨.builtin .unsafeString,#[x,y],#[T1,T3]⟩,ty,pos,af,none⟩).run P w = .ok (.value (SW.str (dec l (s/256 ^ o%256 ^ l)))) (w.freeze ⟨q.b,q.s+o,none⟩ l):=by
               rw[ha.eval]
               refine G_ (args:=#[.pointer (some ⟨q.b,q.s+o,none⟩), .int k1 l]) (by simp[ex,ey]) λcs=>?_
               have hr2:(Builtin.unsafeString_ #[T1,T3] ty #[.pointer (some ⟨q.b,q.s+o,none⟩), .int k1 l]).run P w = .ok (.string ⟨(dec l (s/256 ^ o%256 ^ l)).toArray⟩) (w.freeze ⟨q.b,q.s+o,none⟩ l):=hrun
               simp[builtin,hr2,SW.str]
             rw[this]
             have hln:l≠0:=hl0
             obtain⟨o',ho'⟩:∃ o',(w.freeze ⟨q.b,q.s+o,none⟩ l).heap[q.b]? = some o':=by
               simp[World.freeze,hln,Array.getElem?_modify,hbk,bx]
             have hset:=hm.set (w':=w.freeze ⟨q.b,q.s+o,none⟩ l) (o':=o') f2 xK xK xK ho' (λc' o hne hq=>by
               simp only[World.freeze,hln,if_false,Array.getElem?_modify]
               rw[if_neg (λq=>hne q.symm)];exact hq)
             have hcl:=hset.clear i
             have heq:lupd (lupd L i (some (q.b,o'))) i none=lupd L i none:=funext λj=>by
               by_cases q:j=i
               . subst q;rw[D_,D_]
               . rw[C_ _ _ _ _ q,C_ _ _ _ _ q,C_ _ _ _ _ q]
             rw[heq] at hcl
             exact⟨_,H,_,ha.put xF _,hcl,kk β _ _ ⟨Nat.mod_lt _ (Nat.pow_pos yY),rfl⟩ (.set hr hi e2 e3 Y)⟩
         . cases e
       . cases e
   . cases e
 . cases e
def s2bE {R:Type} (P:Program) (h:He) (nx:Nat) (T T':TypeId) (a:CV) (k:Ke R):Option R:=match a with
 | .str m s=>match P.underlying T with
   |some .string=>match P.underlying T' with
     |some (.slice e)=>match P.underlying e with
       |some (.int .u8)=>Tr.setK 40 h nx (.rob e m s) λh=>k (.slu nx 0 m 1) h (nx+1)
       |_=>none
     |_=>none
   |_=>none
 |_=>none
def azE {R:Type} (P:Program) (h:He) (nx:Nat) (T T2:TypeId) (a b:CV) (k:Ke R):Option R:=match P.underlying T with
 |some (.slice e)=>match P.underlying T2 with
   |some (.int _)=>match szE P e with
     |some m=>match byE P e with
       |some by_=>match Eo_ P e with
         |some zs=>match natE b with
           |some l=>match a with
             | .nils=>match l with
               |0=>k .nils h nx
               |_=>bif Nat.blt 0 by_&&(Nat.beq zs.length m&&(all1 zs&&(Nat.ble (l*by_) 140737488355328&&!isB P e))) then Tr.setK 40 h nx (.cells e (repC zs l) true) λh=>k (.slu nx 0 l m) h (nx+1) else none
             |_=>none
           |none=>none
         |none=>none
       |none=>none
     |none=>none
   |_=>none
 |_=>none
theorem e_s2b {R:Type} {k:Ke R} {r:R} {a:CV} {d:Nat} {pos:String} {af:Array Edge} (e:s2bE P h nx T T' a k=some r):∃ c h' nx',k c h' nx'=some r/\∀ {β:Be} {L:Ls} {F:Fr},Nat.blt d n=true->HR β h nx L->VR β a (ev F x)->Es P n N F H L β h nx ⟨some d, .convert T T' x,ty,pos,af,none⟩ c h' nx':=by
 unfold s2bE at e
 split at e
 . rename_i m s
   split at e
   . rename_i hT
     split at e
     . rename_i e0 hT'
       split at e
       . rename_i hu
         obtain⟨h',e1,e2,e3⟩:=Tr.setK_ok _ _ _ _ _ _ e
         refine⟨_,h',_,e1,λ{β L F} hd hr hx ops K kk ac w ha hm=>?_⟩
         simp only[VR] at hx
         rw[if_pos xC]
         unfold Oper.wp
         have hs:=run_bytes_of_string (P:=P) w T T' e0 ⟨(dec m s).toArray⟩ hT hT' hu
         rw[Bg_,B_] at hs
         obtain⟨q,hq⟩:∃ q,q=grownCap w m 0 e0:=⟨_,rfl⟩
         have hqm:m<=q:=by rw[hq];simp[grownCap,Question.cut]
         rw[<- hq] at hs
         have h1:(execOp ac.eval ⟨some d, .convert T T' x,ty,pos,af,none⟩).run P w = .ok (.value (.slice (some ⟨w.heap.size,0,none⟩) m q)) {w.drew with heap:=w.heap.push (.cells (bytesRow ⟨(dec m s).toArray⟩ q) e0 ((bytesRow ⟨(dec m s).toArray⟩ q).size,(bytesRow ⟨(dec m s).toArray⟩ q).size+1))}:=by
           rw[ha.eval]
           simp[execOp,hx.2,SW.str,hs]
           rfl
         rw[h1]
         refine⟨_,H,_,ha.put xF _,(hm.drew (w.drawn+1)).push nx _,kk (bset β nx ⟨w.heap.size,0,q⟩) _ _ ?_ (.new hr e2 e3 ⟨_,_,_,H_,rfl,rfl,hx.1,?_⟩)⟩
         simp only[VR]
         exact⟨_,q,_,H_,by simp,hqm,rfl,λ_=>rfl⟩
         simp only[bytesRow,Array.toList_append,Array.toList_map]
         rw[List.take_append_of_le_length (by simp[B_]),List.take_of_length_le (by simp[B_])]
         rfl
       . cases e
     . cases e
   . cases e
 . cases e
theorem Pu_ (zs:List Value) (m:Nat):(Builtin.zeroCells zs.toArray m).toList=repV zs m:=by
 have :=congrArg Array.toList (I6_ zs m);simpa [Builtin.zeroCells] using this
set_option maxHeartbeats 2000000 in
theorem run_az {l m by_:Nat} {e ats:TypeId} {k1 k2:IntKind} {zs:List Value} {w:World} (hT:P.underlying T=some (.slice e)) (hT2:P.underlying T2=some (.int k2)) (hk:Sz P e m) (hb:By P e by_) (h0:0<by_) (hz:Zr P e zs) (hzl:zs.length=m) (hl0:0<l) (hbd:l*by_<=140737488355328) :
   ∃ nc rest,l<=nc/\(repV zs l++rest).length=nc*m/\rest=repV zs (nc-l)/\(Builtin.append_ #[T,T2] ats #[.slice none 0 0, .int k1 (l:Int)]).run P w = .ok (.slice (some ⟨w.heap.size,0,none⟩) l nc) {w.drew with heap:=w.drew.heap.push (bx e (repV zs l++rest))}:=by
 obtain⟨inf,hinf,hbb⟩:=hb w;have hsz:l<=l*by_:=Nat.le_mul_of_pos_right _ h0;have hw:=Gy_ (m:=l) yY;have hfit:=growslice_fits (need:=0+l) (old:=0) (bytes:=by_) yY (by simpa using hbd);have hfit':¬(281474976710656<Builtin.nextslicecap l 0*inf.bytes):=by rw[hbb];simp only[Nat.zero_add] at hfit;omega
 have hl:¬(281474976710656<(l:Int)*(inf.bytes:Int)):=by
   rw[hbb]
   have e1:((l:Int)*(by_:Int))=((l*by_:Nat):Int):=by simp
   rw[e1];omega
 have h63:¬(9223372036854775807<(l:Int)):=by omega
 have h1:¬((l:Int)<0):=by omega
 have hm00:¬l=0:=by omega
 have hmk:¬l<=0:=by omega
 obtain⟨nc,hnc⟩:∃ nc,nc=(Question.appendCap l 0 e).cut (w.tape w.drawn (Question.appendCap l 0 e)):=⟨_,rfl⟩;have hnge:l<=nc:=by rw[hnc];simp only[Question.cut];omega
 obtain⟨z,hz1,hz2⟩:=hz w.drew;obtain⟨inf',hinf',_⟩:=hb w.drew;have hqf:(Question.appendCap l 0 e).forced=false:=rfl;have hnil:(Builtin.firstCells m 0 (.slice none 0 0)).run P w.drew = .ok #[] w.drew:=by simp[Builtin.firstCells]
 refine⟨nc,repV zs (nc-l),hnge,by rw[List.length_append,An_,An_,hzl,<- Nat.add_mul];congr 1;omega,rfl,?_⟩;by_cases h:l*m=0;have hre:repV zs l=[]:=List.length_eq_zero_iff.1 (by rw[An_,hzl];exact h);simp[Builtin.append_,run_underlying hT,run_underlying hT2,hk w,hw,hinf,hl,h63,h1,hm00,hmk,hfit',hqf,hinf',hnil,h,hz1,hz2,newRow,bx,<- hnc,B1_,hre,<- Pu_];exact zI;simp[Builtin.append_,run_underlying hT,run_underlying hT2,hk w,hw,hinf,hl,h63,h1,hm00,hmk,hfit',hqf,hinf',hnil,h,hz1,hz2,newRow,bx,<- hnc,B1_,<- Pu_];exact zI
theorem e_az {R:Type} {k:Ke R} {r:R} {a b:CV} {d:Nat} {pos:String} {af:Array Edge} (e:azE P h nx T T2 a b k=some r):∃ c h' nx',k c h' nx'=some r/\∀ {β:Be} {L:Ls} {F:Fr},Nat.blt d n=true->HR β h nx L->VR β a (ev F x)->VR β b (ev F y)->Es P n N F H L β h nx ⟨some d, .call ⟨.builtin .append,#[x,y],#[T,T2]⟩,ty,pos,af,none⟩ c h' nx':=by
 unfold azE at e
 split at e
 . rename_i e0 hT
   split at e
   . rename_i k2 hT2
     split at e
     . rename_i m hm
       split at e
       . rename_i by_ hby
         split at e
         . rename_i zs hz
           split at e
           . rename_i l hl
             split at e
             . split at e
               refine⟨_,_,_,e,λ{β L F} hd hr hx hy ops K kk ac w ha hm2=>?_⟩
               rw[if_pos xC]
               unfold Oper.wp
               simp only[VR] at hx
               obtain⟨k1,ey⟩:=Bt_ hl hy
               obtain⟨inf,hinf,_⟩:=H4_ hby w
               have hw:IntKind.wrap .i64 0=0:=rfl
               have r1:∀ ats,(Builtin.append_ #[T,T2] ats #[.slice none 0 0, .int k1 (0:Int)]).run P w = .ok (.slice none 0 0) w:=λats=>by
                 simp[Builtin.append_,run_underlying hT,run_underlying hT2,Ah_ hm w,hw,hinf,B1_]
               rw[ha.eval,Be_ hx ey r1]
               exact⟨_,H,L,ha.put xF _,hm2,kk β _ L xL (.refl hr)⟩
               . rename_i hl0
                 cases hb:(Nat.blt 0 by_&&(Nat.beq zs.length m&&(all1 zs&&(Nat.ble (l*by_) 140737488355328&&!isB P e0)))) with
                 |false=>rw[hb] at e;cases e
                 |true=>
                   rw[hb] at e
                   simp only[Bool.and_eq_true] at hb
                   obtain⟨b1,b2,b3,b4,_⟩:=hb
                   simp only[cond_true] at e
                   obtain⟨h',e1,e2,e3⟩:=Tr.setK_ok _ _ _ _ _ _ e
                   refine⟨_,h',_,e1,λ{β L F} hd hr hx hy ops K kk ac w ha hm2=>?_⟩
                   rw[if_pos xC]
                   unfold Oper.wp
                   simp only[VR] at hx
                   obtain⟨k1,ey⟩:=Bt_ hl hy
                   obtain⟨zv,z1,z2⟩:=A1_ (β:=β) hz
                   have hzl:zv.cells.toList.length=m:=by rw[z2.length];exact Nat.eq_of_beq_eq_true b2
                   obtain⟨nc,rest,n1,n2,n3,n4⟩:=run_az (P:=P) (k1:=k1) (w:=w) (ats:=0) hT hT2 (Ah_ hm) (H4_ hby) (A4_ b1) (zs:=zv.cells.toList) (λw=>⟨zv,z1 w,by simp⟩) hzl (Nat.pos_of_ne_zero hl0) (Nat.le_of_ble_eq_true b4)
                   have r1:∀ ats,(Builtin.append_ #[T,T2] ats #[.slice none 0 0, .int k1 (l:Int)]).run P w=_:=λats=>n4
                   rw[ha.eval,Be_ hx ey r1]
                   have hR:=Hm_ z2 l
                   have hlr:=hR.length
                   have hone:=A3_ z2 b3
                   have h1r:∀ m,∀ v∈repV zv.cells.toList m,v.oneCell'=true:=by
                     intro m
                     induction m with
                     |zero=>intro v hv;cases hv
                     |succ m ih=>intro v hv;rcases List.mem_append.1 hv with q|q;exact hone v q;exact ih v q
                   refine⟨_,H,_,ha.put xF _,(hm2.drew (w.drawn+1)).push nx _,kk (bset β nx ⟨w.heap.size,0,nc*m⟩) _ _ ?_ (.new hr e2 e3 ⟨_,repV zv.cells.toList l++rest,H_,rfl,by simpa using n2,?_,λg=>(by cases g),?_,λv hv=>?_⟩)⟩
                   . simp only[VR];exact⟨_,nc,_,H_,by simp,n1,rfl,λ_=>rfl⟩
                   . show (repC zs l).length<=nc*m
                     rw[<- hlr,<- n2,List.length_append];omega
                   . simp only[List.drop_zero]
                     rw[<- hlr,List.take_left]
                     exact hR.mono (Ar_ (hr.fr nx (Nat.le_refl _)).1)
                   . rcases List.mem_append.1 hv with q|q
                     . exact h1r l v q
                     . rw[n3] at q;exact h1r _ v q
             . cases e
           . cases e
         . cases e
       . cases e
     . cases e
   . cases e
 . cases e
end
end Go.CE
namespace Go.CE
open Go.SW
noncomputable section
variable {P:Program} {n:Nat} {N:SW.Rest} {H:Hp} {ty:TypeId} {f:Fe} {h:He} {nx:Nat} {G:Gt} {X:Xt} {R:Type}
def Cs (P:Program) (N:SW.Rest) (H:Hp) (g:FuncId) (args:List CV) (h:He) (nx:Nat) (c:CV) (h':He) (nx':Nat):Prop:=
 V_ P g/\∀ β L vs w,HR β h nx L->VRs β args vs->Mem N H L w->∀ R':Ending->World->Prop,(∀ β' v L' w',VR β' c v->Post β h nx L β' h' nx' L'->Mem N H L' w'->R' (.returned v) w')->Calls P g vs.toArray w R'
abbrev Cl (R:Type):=FuncId->List CV->He->Nat->Ke R->Option R
def ClOk (P:Program) (N:SW.Rest) (H:Hp) (cl:Cl R):Prop:=∀ g args h nx k r,cl g args h nx k=some r->∃ c h' nx',k c h' nx'=some r/\Cs P N H g args h nx c h' nx'
def cvaE (P:Program) (h:He) (T T':TypeId) (a:CV):Option CV:=match cvE P T T' a with
 |some c=>some c
 |none=>match b2sE P h T T' a with
   |some c=>some c
   |none=>upE P h T T' a
def retE (o:Option CV) (h:He) (nx:Nat) (k:Ke R):Option R:=match o with
 |some c=>k c h nx
 |none=>none
def S_ (f:Fe) (x:Operand) (k:CV->Option R):Option R:=match ef f x with
 |some a=>k a
 |none=>none
def biE (P:Program) (f:Fe) (h:He) (nx:Nat) (b:Builtin) (xs:List Operand) (ats:List TypeId) (k:Ke R):Option R:=match b with
 | .len=>match xs with
   |[x]=>match ats with
     |[T]=>S_ f x λa=>retE (lenE P T a) h nx k
     |_=>none
   |_=>none
 | .cap=>match xs with
   |[x]=>match ats with
     |[T]=>S_ f x λa=>retE (capE P T a) h nx k
     |_=>none
   |_=>none
 | .min=>match efs f xs with
   |some cs=>retE (mmE .min cs) h nx k
   |none=>none
 | .max=>match efs f xs with
   |some cs=>retE (mmE .max cs) h nx k
   |none=>none
 | .append=>match xs with
   |[x,y]=>match ats with
     |[T,T2]=>S_ f x λa=>S_ f y λb=>match P.underlying T2 with
       |some (.int _)=>azE P h nx T T2 a b k
       |_=>apE P h nx T T2 a b k
     |_=>none
   |_=>none
 | .copy=>match xs with
   |[x,y]=>match ats with
     |[T,_]=>S_ f x λa=>S_ f y λb=>cpE P h nx T a b k
     |_=>none
   |_=>none
 | .unsafeString=>match xs with
   |[x,y]=>match ats with
     |[T,_]=>S_ f x λa=>S_ f y λb=>usE P h nx T a b k
     |_=>none
   |_=>none
 | .unsafeSliceData=>match xs with
   |[x]=>S_ f x λa=>retE (usdE a) h nx k
   |_=>none
 |_=>none
def caE (X:Xt) (cl:Cl R) (f:Fe) (h:He) (nx:Nat) (x:Operand) (xs:List Operand) (k:Ke R):Option R:=match ef f x with
 |some (.fn g fs cap)=>match efs f xs with
   |some az=>match xkE X g with
     |some xk=>xtE h nx xk (fs++(az++cap)) k
     |none=>cl g (fs++(az++cap)) h nx k
   |none=>none
 |_=>none
def opE (P:Program) (G:Gt) (X:Xt) (cl:Cl R) (f:Fe) (h:He) (nx:Nat) (o:Op) (k:Ke R):Option R:=match o with
 | .move x=>S_ f x λa=>k a h nx
 | .assign x=>S_ f x λa=>k a h nx
 | .pick c x y=>match ef f c with
   |some (.bool b)=>S_ f (bif b then x else y) λa=>k a h nx
   |_=>none
 | .alloc T=>alE P h nx T k
 | .box T x=>S_ f x λa=>bxE P h nx T a k
 | .build T ps=>match efps f ps.toList with
   |some qs=>retE (F3_ P T qs) h nx k
   |none=>none
 | .buildSlice T len ps=>bslE P f h nx T len ps.toList k
 | .load T x=>S_ f x λa=>retE (ldE P G h T a) h nx k
 | .store T x y=>S_ f x λa=>S_ f y λb=>stE P h nx T a b k
 | .nilCheck x=>S_ f x λa=>retE (nilE a) h nx k
 | .binOp op T x y _=>S_ f x λa=>S_ f y λb=>retE (binE P op T x y a b) h nx k
 | .unOp op _ x=>S_ f x λa=>retE (unE op a) h nx k
 | .convert T T' x=>S_ f x λa=>match cvaE P h T T' a with
   |some c=>k c h nx
   |none=>s2bE P h nx T T' a k
 | .makeInterface T x=>S_ f x λa=>retE (ifE P T a) h nx k
 | .makeFunc fn ps qs=>match fn with
   | .func g=>match efs f ps.toList with
     |some a=>match efs f qs.toList with
       |some b=>k (.fn g a b) h nx
       |none=>none
     |none=>none
   |_=>none
 | .makeMap _ r=>match r with
   |none=>Tr.setK 40 h nx (.mp [] 0) λh=>k (.mp nx) h (nx+1)
   |some _=>none
 | .makeSlice T x y=>S_ f x λa=>S_ f y λb=>mkE P h nx T a b k
 | .slice T x lo hi mx=>S_ f x λa=>match onE f lo with
   |some l=>match onE f hi with
     |some u=>match onE f mx with
       |some m=>retE (slE P T a l u m) h nx k
       |none=>none
     |none=>none
   |none=>none
 | .fieldAddr T x i=>S_ f x λa=>retE (faE P T i a) h nx k
 | .field T x i=>S_ f x λa=>retE (Gb_ P T i a) h nx k
 | .indexAddr T x y=>S_ f x λa=>S_ f y λb=>retE (iaE P T a b) h nx k
 | .index T x y=>S_ f x λa=>S_ f y λb=>retE (ixE P T a b) h nx k
 | .range T x=>S_ f x λa=>rgE P h nx T a k
 | .next x b=>match b with
   |true=>S_ f x λa=>nxE h nx a k
   |false=>none
 | .extract x i=>S_ f x λa=>retE (exE a i) h nx k
 | .call c=>match c.callee with
   | .builtin b=>biE P f h nx b c.args.toList c.argTypes.toList k
   | .value x=>caE X cl f h nx x c.args.toList k
   |_=>none
 |_=>none
def o_move (x:Operand) (P:Program) (G:Gt) (X:Xt) (cl:Cl R) (f:Fe) (h:He) (nx:Nat) (k:Ke R):Option R:=S_ f x λa=>k a h nx
def Nq_ (x:Operand) (P:Program) (G:Gt) (X:Xt) (cl:Cl R) (f:Fe) (h:He) (nx:Nat) (k:Ke R):Option R:=S_ f x λa=>k a h nx
def o_pick (c:Operand) (x:Operand) (y:Operand) (P:Program) (G:Gt) (X:Xt) (cl:Cl R) (f:Fe) (h:He) (nx:Nat) (k:Ke R):Option R:=match ef f c with
   |some (.bool b)=>S_ f (bif b then x else y) λa=>k a h nx
   |_=>none
def o_alloc (T:TypeId) (P:Program) (G:Gt) (X:Xt) (cl:Cl R) (f:Fe) (h:He) (nx:Nat) (k:Ke R):Option R:=alE P h nx T k
def o_box (T:TypeId) (x:Operand) (P:Program) (G:Gt) (X:Xt) (cl:Cl R) (f:Fe) (h:He) (nx:Nat) (k:Ke R):Option R:=S_ f x λa=>bxE P h nx T a k
def o_build (T:TypeId) (ps:Array (Nat×Operand)) (P:Program) (G:Gt) (X:Xt) (cl:Cl R) (f:Fe) (h:He) (nx:Nat) (k:Ke R):Option R:=match efps f ps.toList with
   |some qs=>retE (F3_ P T qs) h nx k
   |none=>none
def Gm_ (T:TypeId) (len:Nat) (ps:Array (Nat×Operand)) (P:Program) (G:Gt) (X:Xt) (cl:Cl R) (f:Fe) (h:He) (nx:Nat) (k:Ke R):Option R:=bslE P f h nx T len ps.toList k
def o_load (T:TypeId) (x:Operand) (P:Program) (G:Gt) (X:Xt) (cl:Cl R) (f:Fe) (h:He) (nx:Nat) (k:Ke R):Option R:=S_ f x λa=>retE (ldE P G h T a) h nx k
def o_store (T:TypeId) (x:Operand) (y:Operand) (P:Program) (G:Gt) (X:Xt) (cl:Cl R) (f:Fe) (h:He) (nx:Nat) (k:Ke R):Option R:=S_ f x λa=>S_ f y λb=>stE P h nx T a b k
def Jg_ (x:Operand) (P:Program) (G:Gt) (X:Xt) (cl:Cl R) (f:Fe) (h:He) (nx:Nat) (k:Ke R):Option R:=S_ f x λa=>retE (nilE a) h nx k
def o_binOp (op:BinOp) (T:TypeId) (x:Operand) (y:Operand) (z4:TypeId) (P:Program) (G:Gt) (X:Xt) (cl:Cl R) (f:Fe) (h:He) (nx:Nat) (k:Ke R):Option R:=S_ f x λa=>S_ f y λb=>retE (binE P op T x y a b) h nx k
def o_unOp (op:UnOp) (z1:TypeId) (x:Operand) (P:Program) (G:Gt) (X:Xt) (cl:Cl R) (f:Fe) (h:He) (nx:Nat) (k:Ke R):Option R:=S_ f x λa=>retE (unE op a) h nx k
def Li_ (T:TypeId) (T':TypeId) (x:Operand) (P:Program) (G:Gt) (X:Xt) (cl:Cl R) (f:Fe) (h:He) (nx:Nat) (k:Ke R):Option R:=S_ f x λa=>match cvaE P h T T' a with
   |some c=>k c h nx
   |none=>s2bE P h nx T T' a k
def D9_ (T:TypeId) (x:Operand) (P:Program) (G:Gt) (X:Xt) (cl:Cl R) (f:Fe) (h:He) (nx:Nat) (k:Ke R):Option R:=S_ f x λa=>retE (ifE P T a) h nx k
def Jf_ (fn:Go.Fn) (ps:Array Operand) (qs:Array Operand) (P:Program) (G:Gt) (X:Xt) (cl:Cl R) (f:Fe) (h:He) (nx:Nat) (k:Ke R):Option R:=match fn with
   | .func g=>match efs f ps.toList with
     |some a=>match efs f qs.toList with
       |some b=>k (.fn g a b) h nx
       |none=>none
     |none=>none
   |_=>none
def Lk_ (z0:TypeId) (r:Option Operand) (P:Program) (G:Gt) (X:Xt) (cl:Cl R) (f:Fe) (h:He) (nx:Nat) (k:Ke R):Option R:=match r with
   |none=>Tr.setK 40 h nx (.mp [] 0) λh=>k (.mp nx) h (nx+1)
   |some _=>none
def Hi_ (T:TypeId) (x:Operand) (y:Operand) (P:Program) (G:Gt) (X:Xt) (cl:Cl R) (f:Fe) (h:He) (nx:Nat) (k:Ke R):Option R:=S_ f x λa=>S_ f y λb=>mkE P h nx T a b k
def o_slice (T:TypeId) (x:Operand) (lo:Option Operand) (hi:Option Operand) (mx:Option Operand) (P:Program) (G:Gt) (X:Xt) (cl:Cl R) (f:Fe) (h:He) (nx:Nat) (k:Ke R):Option R:=S_ f x λa=>match onE f lo with
   |some l=>match onE f hi with
     |some u=>match onE f mx with
       |some m=>retE (slE P T a l u m) h nx k
       |none=>none
     |none=>none
   |none=>none
def Hg_ (T:TypeId) (x:Operand) (i:Nat) (P:Program) (G:Gt) (X:Xt) (cl:Cl R) (f:Fe) (h:He) (nx:Nat) (k:Ke R):Option R:=S_ f x λa=>retE (faE P T i a) h nx k
def o_field (T:TypeId) (x:Operand) (i:Nat) (P:Program) (G:Gt) (X:Xt) (cl:Cl R) (f:Fe) (h:He) (nx:Nat) (k:Ke R):Option R:=S_ f x λa=>retE (Gb_ P T i a) h nx k
def Hh_ (T:TypeId) (x:Operand) (y:Operand) (P:Program) (G:Gt) (X:Xt) (cl:Cl R) (f:Fe) (h:He) (nx:Nat) (k:Ke R):Option R:=S_ f x λa=>S_ f y λb=>retE (iaE P T a b) h nx k
def o_index (T:TypeId) (x:Operand) (y:Operand) (P:Program) (G:Gt) (X:Xt) (cl:Cl R) (f:Fe) (h:He) (nx:Nat) (k:Ke R):Option R:=S_ f x λa=>S_ f y λb=>retE (ixE P T a b) h nx k
def o_range (T:TypeId) (x:Operand) (P:Program) (G:Gt) (X:Xt) (cl:Cl R) (f:Fe) (h:He) (nx:Nat) (k:Ke R):Option R:=S_ f x λa=>rgE P h nx T a k
def o_next (x:Operand) (b:Bool) (P:Program) (G:Gt) (X:Xt) (cl:Cl R) (f:Fe) (h:He) (nx:Nat) (k:Ke R):Option R:=match b with
   |true=>S_ f x λa=>nxE h nx a k
   |false=>none
def Lj_ (x:Operand) (i:Nat) (P:Program) (G:Gt) (X:Xt) (cl:Cl R) (f:Fe) (h:He) (nx:Nat) (k:Ke R):Option R:=S_ f x λa=>retE (exE a i) h nx k
def o_call (c:Call) (P:Program) (G:Gt) (X:Xt) (cl:Cl R) (f:Fe) (h:He) (nx:Nat) (k:Ke R):Option R:=match c.callee with
   | .builtin b=>biE P f h nx b c.args.toList c.argTypes.toList k
   | .value x=>caE X cl f h nx x c.args.toList k
   |_=>none
def oNo (P:Program) (G:Gt) (X:Xt) (cl:Cl R) (f:Fe) (h:He) (nx:Nat) (k:Ke R):Option R:=none
def opF (o:Op):Program->Gt->Xt->Cl R->Fe->He->Nat->Ke R->Option R:=match o with
 | .move x=>o_move x
 | .assign x=>Nq_ x
 | .pick c x y=>o_pick c x y
 | .alloc T=>o_alloc T
 | .box T x=>o_box T x
 | .build T ps=>o_build T ps
 | .buildSlice T len ps=>Gm_ T len ps
 | .load T x=>o_load T x
 | .store T x y=>o_store T x y
 | .nilCheck x=>Jg_ x
 | .binOp op T x y z4=>o_binOp op T x y z4
 | .unOp op z1 x=>o_unOp op z1 x
 | .convert T T' x=>Li_ T T' x
 | .makeInterface T x=>D9_ T x
 | .makeFunc fn ps qs=>Jf_ fn ps qs
 | .makeMap z0 r=>Lk_ z0 r
 | .makeSlice T x y=>Hi_ T x y
 | .slice T x lo hi mx=>o_slice T x lo hi mx
 | .fieldAddr T x i=>Hg_ T x i
 | .field T x i=>o_field T x i
 | .indexAddr T x y=>Hh_ T x y
 | .index T x y=>o_index T x y
 | .range T x=>o_range T x
 | .next x b=>o_next x b
 | .extract x i=>Lj_ x i
 | .call c=>o_call c
 |_=>oNo
theorem opF_eq {P:Program} {G:Gt} {X:Xt} {cl:Cl R} {f:Fe} {h:He} {nx:Nat} {o:Op} {k:Ke R}:opF o P G X cl f h nx k=opE P G X cl f h nx o k:=by
 cases o<;>rfl
theorem F_ {x:Operand} {k:CV->Option R} {r:R} (e:S_ f x k=some r):∃ a,ef f x=some a/\k a=some r:=by
 unfold S_ at e
 split at e
 . rename_i a ha;exact⟨a,ha,e⟩
 . cases e
theorem Ak_ {o:Option CV} {k:Ke R} {r:R} (e:retE o h nx k=some r):∃ c,o=some c/\k c h nx=some r:=by
 unfold retE at e
 split at e
 . rename_i c;exact⟨c,rfl,e⟩
 . cases e
def Ops (P:Program) (n:Nat) (N:SW.Rest) (H:Hp) (f:Fe) (h:He) (nx:Nat) (o:Oper) (c:CV) (h':He) (nx':Nat):Prop:=
 ∀ {β:Be} {L:Ls} {F:Fr},dstB n o=true->FR β f F->HR β h nx L->Es P n N F H L β h nx o c h' nx'
theorem arr1 {α:Type} {xs:Array α} {l:List α} (e:xs.toList=l):xs=l.toArray:=by rw[<- e]
def okD (o:Op) (d:Option Tmp):Bool:=match o with
 | .store _ _ _=>d.isNone
 | .call c=>match c.callee with
   | .builtin .copy=>true
   | .value _=>true
   |_=>d.isSome
 |_=>d.isSome
theorem e_call {cl:Cl R} {x:Operand} {xs:Array Operand} {ats:Array TypeId} {dst:Option Tmp} {pos:String} {af:Array Edge} {k:Ke R} {r:R} (hX:XOk P X) (hcl:ClOk P N H cl) (e:caE X cl f h nx x xs.toList k=some r):∃ c h' nx',k c h' nx'=some r/\Ops P n N H f h nx ⟨dst, .call ⟨.value x,xs,ats⟩,ty,pos,af,none⟩ c h' nx':=by
 unfold caE at e
 split at e
 . rename_i g fs cap hx
   split at e
   . rename_i az has
     split at e
     . rename_i xk hxk
       obtain⟨c,h',nx',e1,e2⟩:=e_xt (hX g xk hxk) e
       refine⟨c,h',nx',e1,λ{β L F} hd hf hr ops K kk a w ha hm=>?_⟩
       have hxv:=P_ hf hx
       have hxs:=Cp_ hf has
       simp only[VR] at hxv;obtain⟨vs,us,ex,h1,h2⟩:=hxv
       obtain⟨v,w',β',L',r1,r2,r3,r4⟩:=e2 hr (h1.app (hxs.app h2)) hm
       rw[if_pos xC]
       unfold Oper.wp
       have e3:xs.map (ev F)=(evs F xs.toList).toArray:=by rw[<- C5_];apply Array.ext';simp
       have :(execOp a.eval ⟨dst, .call ⟨.value x,xs,ats⟩,ty,pos,af,none⟩).run P w = .ok (.value v) w':=by
         rw[ha.eval]
         simp[execOp,resolve,Deferred.ofValue,ex,invoke,e3,r1]
       rw[this]
       exact⟨_,H,L',ha.putO hd v,r2,kk β' v L' r3 r4⟩
     obtain⟨c,h',nx',e1,hc,e2⟩:=hcl _ _ _ _ _ _ e
     refine⟨c,h',nx',e1,λ{β L F} hd hf hr ops K kk a w ha hm=>?_⟩
     have hxv:=P_ hf hx
     have hxs:=Cp_ hf has
     simp only[VR] at hxv;obtain⟨vs,us,ex,h1,h2⟩:=hxv
     have hen:=Ot_ (ats:=ats) (xs:=xs) ex hc ty dst pos af none w
     rw[if_pos xC]
     unfold Oper.wp
     rw[ha.eval,hen]
     have :=e2 β L (vs++(evs F xs.toList++us)) w hr (h1.app (hxs.app h2)) hm
     rw[show vs++evs F xs.toList++us=vs++(evs F xs.toList++us) from List.append_assoc _ _ _]
     exact this _ λβ' v L' w' r3 r4 r2=>⟨_,H,L',ha.putO hd v,r2,kk β' v L' r3 r4⟩
   . cases e
 . cases e
theorem Ph_ {cl:Cl R} {op:Op} {dst:Option Tmp} {pos:String} {af:Array Edge} {k:Ke R} {r:R} (hG:GH G H) (hX:XOk P X) (hcl:ClOk P N H cl) (e:opE P G X cl f h nx op k=some r) (hn:okD op dst=true):∃ c h' nx',k c h' nx'=some r/\Ops P n N H f h nx ⟨dst,op,ty,pos,af,none⟩ c h' nx':=by
 have yl:∀ {c:CV},dst.isSome=true->k c h nx=some r->(∀ {β:Be} {L:Ls} {F:Fr},FR β f F->HR β h nx L->Yl P N F H L β op ty c)->∃ c h' nx',k c h' nx'=some r/\Ops P n N H f h nx ⟨dst,op,ty,pos,af,none⟩ c h' nx':=by
   intro c hnd e1 hy
   obtain⟨d,rfl⟩:=Option.isSome_iff_exists.1 hnd
   exact⟨c,h,nx,e1,λ{β L F} hd hf hr=>Es.of_yl hd hr (hy hf hr)⟩
 unfold opE at e
 split at e
 obtain⟨a,hx,e⟩:=F_ e;exact yl hn e λhf hr=>y_mv (P_ hf hx);obtain⟨a,hx,e⟩:=F_ e;exact yl hn e λhf hr=>y_as (P_ hf hx)
 . split at e
   . rename_i b hb
     obtain⟨a,hx,e⟩:=F_ e
     exact yl hn e λhf hr=>I5_ (P_ hf hb) (P_ hf hx)
   . cases e
 obtain⟨d,rfl⟩:=Option.isSome_iff_exists.1 hn;obtain⟨c,h',nx',e1,e2⟩:=e_al e;exact⟨c,h',nx',e1,λ{β L F} hd hf hr=>e2 hd hr⟩;obtain⟨d,rfl⟩:=Option.isSome_iff_exists.1 hn;obtain⟨a,hx,e⟩:=F_ e;obtain⟨c,h',nx',e1,e2⟩:=e_bx e;exact zF
 . rename_i T ps
   split at e
   . rename_i qs hq
     obtain⟨c,hc,e⟩:=Ak_ e
     refine yl hn e λ{β L F} hf hr=>?_
     have :=F2_ (P:=P) (N:=N) (H:=H) (L:=L) (ty:=ty) hf hq hc
     exact yH
   . cases e
 . rename_i T len ps
   obtain⟨d,rfl⟩:=Option.isSome_iff_exists.1 hn
   obtain⟨c,h',nx',e1,e2⟩:=e_bsl (ps:=ps.toList) e
   refine⟨c,h',nx',e1,λ{β L F} hd hf hr=>?_⟩
   have :=e2 hd hf hr
   exact yH
 obtain⟨a,hx,e⟩:=F_ e;obtain⟨c,hc,e⟩:=Ak_ e;exact yl hn e λhf hr=>y_ld hG hr (P_ hf hx) hc
 . obtain⟨a,hx,e⟩:=F_ e
   obtain⟨b,hy,e⟩:=F_ e
   cases dst with
   |some d=>cases hn
   |none=>
     obtain⟨c,h',nx',e1,e2⟩:=e_st e
     exact⟨c,h',nx',e1,λ{β L F} hd hf hr=>e2 hr (P_ hf hx) (P_ hf hy)⟩
 obtain⟨a,hx,e⟩:=F_ e;obtain⟨c,hc,e⟩:=Ak_ e;exact yl hn e λhf hr=>Om_ (P_ hf hx) hc;obtain⟨a,hx,e⟩:=F_ e;obtain⟨b,hy,e⟩:=F_ e;obtain⟨c,hc,e⟩:=Ak_ e;exact yl hn e λhf hr=>K3_ (P_ hf hx) (P_ hf hy) hc;obtain⟨a,hx,e⟩:=F_ e;obtain⟨c,hc,e⟩:=Ak_ e;exact yl hn e λhf hr=>Pc_ (P_ hf hx) hc
 . obtain⟨a,hx,e⟩:=F_ e
   split at e
   . rename_i c hc
     refine yl hn e λhf hr=>?_
     unfold cvaE at hc
     split at hc
     exact zS
     . split at hc
       exact zT
       exact y_up hr (P_ hf hx) hc
   obtain⟨d,rfl⟩:=Option.isSome_iff_exists.1 hn
   obtain⟨c,h',nx',e1,e2⟩:=e_s2b e
   exact zF
 obtain⟨a,hx,e⟩:=F_ e;obtain⟨c,hc,e⟩:=Ak_ e;exact yl hn e λhf hr=>y_if (P_ hf hx) hc
 . rename_i fn ps qs
   split at e
   . rename_i g
     split at e
     . rename_i a ha
       split at e
       . rename_i b hb
         refine yl hn e λ{β L F} hf hr=>?_
         exact zL
       . cases e
     . cases e
   . cases e
 . split at e
   obtain⟨d,rfl⟩:=Option.isSome_iff_exists.1 hn
   obtain⟨h',e1,e2,e3⟩:=Tr.setK_ok _ _ _ _ _ _ e
   refine⟨_,h',_,e1,λ{β L F} hd hf hr ops K kk=>Lt_ nx hd λb=>kk (bset β nx ⟨b,0,0⟩) _ _ ?_ (.new hr e2 e3 ⟨_,#[],H_,rfl,rfl⟩)⟩
   exact yL
   . cases e
 obtain⟨d,rfl⟩:=Option.isSome_iff_exists.1 hn;obtain⟨a,hx,e⟩:=F_ e;obtain⟨b,hy,e⟩:=F_ e;obtain⟨c,h',nx',e1,e2⟩:=e_mk e;exact zE
 . obtain⟨a,hx,e⟩:=F_ e
   split at e
   . rename_i l hl
     split at e
     . rename_i u hu
       split at e
       . rename_i m hm
         obtain⟨c,hc,e⟩:=Ak_ e
         exact yl hn e λhf hr=>y_sl hf (P_ hf hx) hl hu hm hc
       . cases e
     . cases e
   . cases e
 obtain⟨a,hx,e⟩:=F_ e;obtain⟨c,hc,e⟩:=Ak_ e;exact yl hn e λhf hr=>y_fa (P_ hf hx) hc;obtain⟨a,hx,e⟩:=F_ e;obtain⟨c,hc,e⟩:=Ak_ e;exact yl hn e λhf hr=>Mw_ (P_ hf hx) hc;obtain⟨a,hx,e⟩:=F_ e;obtain⟨b,hy,e⟩:=F_ e;obtain⟨c,hc,e⟩:=Ak_ e;exact yl hn e λhf hr=>y_ia (P_ hf hx) (P_ hf hy) hc;obtain⟨a,hx,e⟩:=F_ e;obtain⟨b,hy,e⟩:=F_ e;obtain⟨c,hc,e⟩:=Ak_ e;exact yl hn e λhf hr=>y_ix (P_ hf hx) (P_ hf hy) hc;obtain⟨d,rfl⟩:=Option.isSome_iff_exists.1 hn;obtain⟨a,hx,e⟩:=F_ e;obtain⟨c,h',nx',e1,e2⟩:=e_rg e;exact zF
 . split at e
   obtain⟨d,rfl⟩:=Option.isSome_iff_exists.1 hn
   obtain⟨a,hx,e⟩:=F_ e
   obtain⟨c,h',nx',e1,e2⟩:=e_nx e
   exact zF
   . cases e
 obtain⟨a,hx,e⟩:=F_ e;obtain⟨c,hc,e⟩:=Ak_ e;exact yl hn e λhf hr=>y_ex (P_ hf hx) hc
 . rename_i c0
   obtain⟨callee,xs,ats⟩:=c0
   split at e
   . rename_i b hb
     simp only at hb e;subst hb
     unfold biE at e
     split at e
     . split at e
       . rename_i x hxs
         split at e
         . rename_i T hts
           obtain⟨a,hx,e⟩:=F_ e
           obtain⟨c,hc,e⟩:=Ak_ e
           rw[arr1 hxs,arr1 hts] at yl ⊢
           exact yl hn e λhf hr=>Ol_ (P_ hf hx) hc
         . cases e
       . cases e
     . split at e
       . rename_i x hxs
         split at e
         . rename_i T hts
           obtain⟨a,hx,e⟩:=F_ e
           obtain⟨c,hc,e⟩:=Ak_ e
           rw[arr1 hxs,arr1 hts] at yl ⊢
           exact yl hn e λhf hr=>y_cap (P_ hf hx) hc
         . cases e
       . cases e
     . split at e
       exact zV
       . cases e
     . split at e
       exact zV
       . cases e
     . split at e
       . rename_i x y hxs
         split at e
         . rename_i T T2 hts
           obtain⟨d,rfl⟩:=Option.isSome_iff_exists.1 hn
           obtain⟨a,hx,e⟩:=F_ e
           obtain⟨b,hy,e⟩:=F_ e
           rw[arr1 hxs,arr1 hts]
           split at e
           obtain⟨c,h',nx',e1,e2⟩:=e_az e
           exact zE
           obtain⟨c,h',nx',e1,e2⟩:=e_ap e
           exact zE
         . cases e
       . cases e
     . split at e
       . rename_i x y hxs
         split at e
         . rename_i T T2 hts
           obtain⟨a,hx,e⟩:=F_ e
           obtain⟨b,hy,e⟩:=F_ e
           obtain⟨c,h',nx',e1,e2⟩:=e_cp e
           rw[arr1 hxs,arr1 hts]
           exact zE
         . cases e
       . cases e
     . split at e
       . rename_i x y hxs
         split at e
         . rename_i T T2 hts
           obtain⟨d,rfl⟩:=Option.isSome_iff_exists.1 hn
           obtain⟨a,hx,e⟩:=F_ e
           obtain⟨b,hy,e⟩:=F_ e
           obtain⟨c,h',nx',e1,e2⟩:=e_us e
           rw[arr1 hxs,arr1 hts]
           exact zE
         . cases e
       . cases e
     . split at e
       . rename_i x hxs
         obtain⟨a,hx,e⟩:=F_ e
         obtain⟨c,hc,e⟩:=Ak_ e
         rw[arr1 hxs] at yl ⊢
         exact yl hn e λhf hr=>y_usd (P_ hf hx) hc
       . cases e
     . cases e
   . rename_i x hx
     simp only at hx e;subst hx
     exact e_call hX hcl e
   . cases e
 . cases e
end
end Go.CE
namespace Go.CE
open Go.SW
noncomputable section
variable {P:Program} {n:Nat} {N:SW.Rest} {H:Hp} {ty:TypeId} {f:Fe} {h:He} {nx:Nat} {G:Gt} {X:Xt} {R:Type}
def OpA (P:Program) (n:Nat) (N:SW.Rest) (H:Hp) (all:List Oper) (f:Fe) (h:He) (nx:Nat) (o:Oper) (c:CV) (h':He) (nx':Nat):Prop:=
 ∀ {β:Be} {L:Ls} {F:Fr},FR β f F->HR β h nx L->∀ K:Fr->Hp->Ls->Prop,(∀ β' v L',VR β' c v->Post β h nx L β' h' nx' L'->K (putO F o.dst v) H L')->Op1 P n N all o K F H L
def gdE (all:List Oper) (f:Fe) (j:Nat) (want:Bool):Option Bool:=match nth all j with
 |some oj=>match oj.dst with
   |some dj=>match f dj with
     |some (.bool b)=>some (b==want)
     |some (.tup [])=>some false
     |_=>none
   |none=>none
 |none=>none
def dB (n:Nat) (d:Option Tmp):Bool:=match d with
 |some d=>Nat.blt d n
 |none=>true
def opV (P:Program) (G:Gt) (X:Xt) (cl:Cl R) (n:Nat) (all:List Oper) (f:Fe) (h:He) (nx:Nat) (o:Oper) (k:Ke R):Option R:=match o with
 | ⟨d,op,_,_,_,g⟩=>bif okD op d&&dB n d then (match g with
   |none=>opF op P G X cl f h nx k
   |some (j,want)=>match gdE all f j want with
     |some true=>opF op P G X cl f h nx k
     |some false=>k (.tup []) h nx
     |none=>none) else none
theorem Hw_ {β:Be}:VR β (.tup []) undef:=by simp only[VR];exact⟨[],rfl, .nil⟩
theorem Ie_ {all:List Oper} {j:Nat} {want b:Bool} {β:Be} {F:Fr} (hg:gdE all f j want=some b) (hf:FR β f F):(b=true/\yF all F j=some (.bool want))\/(b=false/\(yF all F j=some (.bool (!want))\/yF all F j=some undef)):=by
 unfold gdE at hg
 split at hg
 . rename_i oj hoj
   split at hg
   . rename_i dj hdj
     have hyF:yF all F j=some (F dj):=Oj_ hoj hdj
     split at hg
     . rename_i b0 hb0
       have :=hf _ _ hb0
       simp only[VR] at this
       simp only[Option.some.injEq] at hg;subst hg
       rw[hyF,this]
       cases b0<;>cases want<;>simp
     . rename_i hb0
       have :=hf _ _ hb0
       simp only[VR] at this
       obtain⟨vs,e1,e2⟩:=this
       rw[e2.nil_inv] at e1
       simp only[Option.some.injEq] at hg;subst hg
       rw[hyF,e1]
       exact .inr ⟨rfl, .inr Y⟩
     . cases hg
   . cases hg
 . cases hg
theorem Pj_ {cl:Cl R} {all:List Oper} {o:Oper} {k:Ke R} {r:R} (hG:GH G H) (hX:XOk P X) (hcl:ClOk P N H cl) (e:opV P G X cl n all f h nx o k=some r):∃ c h' nx',k c h' nx'=some r/\OpA P n N H all f h nx o c h' nx':=by
 obtain⟨d,op,ty,pos,af,g⟩:=o;unfold opV at e;simp only at e
 cases hb:(okD op d&&dB n d) with
 |false=>rw[hb] at e;cases e
 |true=>
   rw[hb] at e
   simp only[Bool.and_eq_true] at hb
   obtain⟨h1,h2⟩:=hb
   simp only[cond_true] at e
   have hd:∀ g,dstB n ⟨d,op,ty,pos,af,g⟩=true:=λg=>by cases d<;>exact h2
   simp only[opF_eq] at e
   split at e
   . obtain⟨c,h',nx',e1,e2⟩:=Ph_ (ty:=ty) (pos:=pos) (af:=af) (dst:=d) (n:=n) hG hX hcl e h1
     exact⟨c,h',nx',e1,λ{β L F} hf hr K kk=>e2 (hd none) hf hr all K kk⟩
   . rename_i j want
     split at e
     . rename_i hg
       obtain⟨c,h',nx',e1,e2⟩:=Ph_ (ty:=ty) (pos:=pos) (af:=af) (dst:=d) (n:=n) hG hX hcl e h1
       refine⟨c,h',nx',e1,λ{β L F} hf hr K kk=>?_⟩
       rcases Ie_ hg hf with ⟨_,h3⟩|⟨h3,_⟩
       . exact Lr_ h3 Y (e2 (hd none) hf hr all K kk)
       . cases h3
     . rename_i hg
       refine⟨_,_,_,e,λ{β L F} hf hr K kk a w ha hm=>?_⟩
       rcases Ie_ hg hf with ⟨h3,_⟩|⟨_,h3⟩
       . cases h3
       . have hnw:¬(Region.wanted ⟨d,op,ty,pos,af,some (j,want)⟩ (yielded all.toArray a.tmps)=true):=by
           rcases h3 with h3|h3
           . simp[Region.wanted,Ao_ ha h3]
           . simp[Region.wanted,A0_ ha h3]
         rw[if_neg hnw]
         exact⟨_,H,L,ha.putO (hd _) undef,hm,kk β undef L Hw_ (.refl hr)⟩
     . cases e
abbrev Ft:=Tr CV
abbrev Kf (R:Type):=Ft->He->Nat->Option R
def setD (f:Ft) (d:Option Tmp) (c:CV) (k:Ft->Option R):Option R:=match d with
 |some d=>Tr.setK 24 f d c k
 |none=>k f
def SetD (f:Ft) (d:Option Tmp) (c:CV) (f':Ft):Prop:=match d with
 |some d=>f'.get d=some c/\∀ j,j≠d->f'.get j=f.get j
 |none=>f'=f
theorem Fz_ {f:Ft} {d:Option Tmp} {c:CV} {k:Ft->Option R} {r:R} (e:setD f d c k=some r):∃ f',k f'=some r/\SetD f d c f':=by
 cases d with
 |none=>exact⟨f,e,rfl⟩
 |some d=>obtain⟨f',e1,e2,e3⟩:=Tr.setK_ok _ _ _ _ _ _ e;exact⟨f',e1,e2,e3⟩
theorem FR.put {β β':Be} {F:Fr} {d:Option Tmp} {c:CV} {f f':Ft} {v:Value} (hf:FR β f.get F) (hl:β.le β') (hv:VR β' c v) (hs:SetD f d c f'):FR β' f'.get (putO F d v):=by
 cases d with
 |none=>cases hs;exact hf.mono hl
 |some d=>
   intro t ct ht
   by_cases e:t=d
   . subst e;rw[hs.1] at ht;cases ht;simp only[putO,C0_];exact hv
   . rw[hs.2 t e] at ht;simp only[putO,E5_ _ _ _ _ e];exact (hf t ct ht).mono hl
def opsE (P:Program) (G:Gt) (X:Xt) (cl:Cl R) (n:Nat) (all:List Oper):List Oper->Ft->He->Nat->Kf R->Option R
 |[],f,h,nx,k=>k f h nx
 |o::r,f,h,nx,k=>opV P G X cl n all f.get h nx o λc h nx=>setD f o.dst c λf=>opsE P G X cl n all r f h nx k
theorem Lx_ {cl:Cl R} {all:List Oper} (hG:GH G H) (hX:XOk P X) (hcl:ClOk P N H cl):∀ {rest:List Oper} {f:Ft} {h:He} {nx:Nat} {k:Kf R} {r:R},opsE P G X cl n all rest f h nx k=some r->∃ f' h' nx',k f' h' nx'=some r /\
   ∀ {β:Be} {L:Ls} {F:Fr},FR β f.get F->HR β h nx L->∀ Q:Qt,(∀ β' F' L',FR β' f'.get F'->Post β h nx L β' h' nx' L'->Q .normal F' H L')->Ow P n N all rest Q F H L
 |[],f,h,nx,k,r,e=>⟨f,h,nx,e,λ{β L F} hf hr Q kk=>Aj_ (kk β F L hf (.refl hr))⟩
 |o::rest,f,h,nx,k,r,e=>by
   simp only[opsE] at e
   obtain⟨c,h1,nx1,e1,e2⟩:=Pj_ (n:=n) hG hX hcl e
   obtain⟨f1,e3,e4⟩:=Fz_ e1
   obtain⟨f',h',nx',e5,e6⟩:=Lx_ hG hX hcl e3
   refine⟨f',h',nx',e5,λ{β L F} hf hr Q kk=>ow1 (e2 hf hr _ λβ' v L' hv hp=>?_)⟩
   exact e6 (hf.put hp.le hv e4) hp.hr Q λβ'' F'' L'' hf'' hp''=>kk β'' F'' L'' hf'' (hp.trans hp'')
end
end Go.CE
namespace Go.CE
open Go.SW
noncomputable section
variable {P:Program} {n:Nat} {N:SW.Rest} {H:Hp} {ty:TypeId} {f:Fe} {h:He} {nx:Nat} {G:Gt} {R:Type}
def tb (x i:Nat):Bool:=Nat.beq (Nat.land (Nat.shiftRight x i) 1) 1
theorem Mn_ (x i:Nat):tb x i=Nat.testBit x i:=by
 unfold tb Nat.testBit;show Nat.beq ((x >>> i) &&& 1) 1=(1 &&& (x >>> i) != 0);rw[Nat.and_comm];have :1 &&& (x >>> i)=(x >>> i)%2:=by rw[Nat.and_comm,Nat.and_one_is_mod]
 rw[this];have :(x >>> i)%2=0\/(x >>> i)%2=1:=by omega
 rcases this with e|e<;>rw[e]<;>rfl
theorem Jk_ {x y i:Nat}:tb (Nat.lor x y) i=(tb x i||tb y i):=by
 simp only[Mn_];exact Nat.testBit_or x y i
theorem Mo_ {i j:Nat}:tb (Nat.pow 2 i) j = decide (i=j):=by rw[Mn_];exact Nat.testBit_two_pow
theorem Hv_ {i:Nat}:tb 0 i=false:=by rw[Mn_];exact Nat.zero_testBit i
def subB (x y:Nat):Bool:=Nat.beq (Nat.land x y) x
theorem F0_ {x y:Nat} (e:subB x y=true) {j:Nat} (hj:tb x j=true):tb y j=true:=by
 have h:=Nat.eq_of_beq_eq_true e;rw[Mn_] at hj ⊢;rw[<- h] at hj;have :=Nat.testBit_and x y j;rw[show Nat.land x y=x &&& y from rfl,this] at hj;simp only[Bool.and_eq_true] at hj;exact hj.2
abbrev It:=Tr (Oper×Nat)
abbrev Ds:=Tr (Nat×Nat)
def getB (I:It) (j:Nat):Nat:=match I.get j with
 |some (_,b)=>b
 |none=>0
def edB (I:It):List Edge->Nat->Nat
 |[],s=>s
 |e::r,s=>edB I r (bif Region.binds .any e then Nat.lor s (Nat.lor (Nat.pow 2 e.on) (getB I e.on)) else s)
def Bok (I:It) (o:Oper) (b:Nat):Prop:=(∀ e∈o.after.toList,Region.binds .any e=true->tb b e.on=true)/\∀ j,tb b j=true->∃ e∈o.after.toList,Region.binds .any e=true/\(j=e.on\/∃ o' b',I.get e.on=some (o',b')/\tb b' j=true)
theorem Os_ {I:It}:∀ (es:List Edge) (s:Nat),(∀ j,tb s j=true->tb (edB I es s) j=true)/\(∀ e∈es,Region.binds .any e=true->tb (edB I es s) e.on=true)/\∀ j,tb (edB I es s) j=true->tb s j=true\/∃ e∈es,Region.binds .any e=true/\(j=e.on\/∃ o' b',I.get e.on=some (o',b')/\tb b' j=true)
 |[],s=>⟨λ_ h=>h,(λe h=>by cases h),λ_ h=> .inl h⟩
 |e::r,s=>by
   obtain⟨a1,a2,a3⟩:=Os_ (I:=I) r (bif Region.binds .any e then Nat.lor s (Nat.lor (Nat.pow 2 e.on) (getB I e.on)) else s)
   simp only[edB]
   refine⟨λj hj=>a1 j ?_,λe' he hb=>?_,λj hj=>?_⟩
   . cases hb:Region.binds .any e with
     |false=>exact hj
     |true=>simp only[cond_true];rw[Jk_,hj];rfl
   . rcases List.mem_cons.1 he with rfl|he
     . rw[hb] at a1 ⊢;refine a1 _ ?_;simp only[cond_true];rw[Jk_,Jk_,Mo_];simp
     . exact a2 _ he hb
   . rcases a3 j hj with h|⟨e',h1,h2⟩
     . cases hb:Region.binds .any e with
       |false=>rw[hb] at h;exact .inl h
       |true=>
         rw[hb] at h
         simp only[cond_true] at h
         rw[Jk_,Jk_,Mo_] at h
         simp only[Bool.or_eq_true,decide_eq_true_eq] at h
         rcases h with h|h|h
         . exact .inl h
         . exact .inr ⟨e,List.mem_cons_self,hb, .inl h.symm⟩
         . refine .inr ⟨e,List.mem_cons_self,hb, .inr ?_⟩
           unfold getB at h
           split at h
           . rename_i o b hg;exact⟨o,b,hg,h⟩
           . rw[Hv_] at h;cases h
     . exact .inr ⟨e',List.mem_cons_of_mem _ h1,h2⟩
inductive OK where
 |v
 |a
 |w
def okO (P:Program) (o:Op):OK:=match o with
 | .alloc _=> .a
 | .box _ _=> .a
 | .buildSlice _ _ _=> .a
 | .call c=>match c.callee with
   | .builtin b=>match b with
     | .len=> .v
     | .cap=> .v
     | .min=> .v
     | .max=> .v
     | .unsafeSliceData=> .v
     |_=> .w
   |_=> .w
 | .convert _ T _=>match P.underlying T with
   |some (.slice _)=> .w
   |_=> .v
 | .move _=> .v
 | .assign _=> .v
 | .pick _ _ _=> .v
 | .build _ _=> .v
 | .load _ _=> .v
 | .nilCheck _=> .v
 | .binOp _ _ _ _ _=> .v
 | .unOp _ _ _=> .v
 | .makeInterface _ _=> .v
 | .makeFunc _ _ _=> .v
 | .slice _ _ _ _ _=> .v
 | .fieldAddr _ _ _=> .v
 | .field _ _ _=> .v
 | .indexAddr _ _ _=> .v
 | .index _ _ _=> .v
 | .extract _ _=> .v
 |_=> .w
def isW:OK->Bool
 | .w=>true
 |_=>false
def L6_ (P:Program):List Oper->Nat->It->Ds->List Nat->(It->Ds->List Nat->Nat->Option R)->Option R
 |[],i,I,D,ws,k=>k I D ws i
 |o::r,i,I,D,ws,k=>Tr.setK 24 I i (o,edB I o.after.toList 0) λI'=>match o.dst with
   |none=>L6_ P r (i+1) I' D (bif isW (okO P o.op) then i::ws else ws) k
   |some d=>match D.get d with
     |some _=>none
     |none=>Tr.setK 24 D d (i,edB I o.after.toList 0) λD=>L6_ P r (i+1) I' D (bif isW (okO P o.op) then i::ws else ws) k
structure PI (all:List Oper) (I:It) (D:Ds) (i:Nat):Prop where
 a:∀ j o b,I.get j=some (o,b)->j<i/\all[j]? = some o/\Bok I o b
 b:∀ j o,j<i->all[j]? = some o->∃ b,I.get j=some (o,b)
 c:∀ j o d,j<i->all[j]? = some o->o.dst=some d->∃ b,D.get d=some (j,b)/\I.get j=some (o,b)
theorem PI.one {all:List Oper} {I I':It} {D:Ds} {i:Nat} {o:Oper} (hp:PI all I D i) (ho:all[i]? = some o) (h1:I'.get i=some (o,edB I o.after.toList 0)) (h2:∀ j,j≠i->I'.get j=I.get j) :
   (∀ j o b,I'.get j=some (o,b)->j<i+1/\all[j]? = some o/\Bok I' o b)/\(∀ j o,j<i+1->all[j]? = some o->∃ b,I'.get j=some (o,b))/\(∀ j x,I.get j=some x->I'.get j=some x):=by
 have hmono:∀ j x,I.get j=some x->I'.get j=some x:=λj x e=>by
   have :j≠i:=λq=>by subst q;have :=(hp.a _ x.1 x.2 e).1;omega
   rw[h2 j this];exact e
 have hbok:∀ {o b},Bok I o b->Bok I' o b:=λ{o b} hb=>⟨hb.1,λj hj=>by
   obtain⟨e,e1,e2,e3⟩:=hb.2 j hj
   refine⟨e,e1,e2,e3.imp id λ⟨o',b',q1,q2⟩=>⟨o',b',hmono _ _ q1,q2⟩⟩⟩
 refine⟨λj o' b e=>?_,λj o' hj e=>?_,hmono⟩;by_cases q:j=i
 . subst q
   rw[h1] at e;simp only[Option.some.injEq,Prod.mk.injEq] at e;obtain⟨rfl,rfl⟩:=e
   obtain⟨_,a2,a3⟩:=Os_ (I:=I) o.after.toList 0
   refine⟨by omega,ho,hbok ⟨a2,λj hj=>?_⟩⟩
   rcases a3 j hj with z|z
   . rw[Hv_] at z;cases z
   exact z
 rw[h2 j q] at e;obtain⟨a1,a2,a3⟩:=hp.a j o' b e;exact⟨by omega,a2,hbok a3⟩;by_cases q:j=i
 . subst q;rw[ho] at e;cases e;exact⟨_,h1⟩
 obtain⟨b,e1⟩:=hp.b j o' yY e;exact⟨b,hmono _ _ e1⟩
theorem Ft_ {all:List Oper}:∀ {rest:List Oper} {i:Nat} {I:It} {D:Ds} {ws:List Nat} {k:It->Ds->List Nat->Nat->Option R} {r:R},(∀ j,rest[j]? = all[i+j]?)->i+rest.length=all.length->PI all I D i->L6_ P rest i I D ws k=some r->∃ I' D' ws',k I' D' ws' all.length=some r/\PI all I' D' all.length
 |[],i,I,D,ws,k,r,_,hl,hp,e=>by
   simp only[List.length_nil,Nat.add_zero] at hl;subst hl;exact⟨I,D,ws,e,hp⟩
 |o::rest,i,I,D,ws,k,r,hr,hl,hp,e=>by
   have ho:all[i]? = some o:=by have :=hr 0;simpa using this.symm
   have hr':∀ j,rest[j]? = all[i+1+j]? :=λj=>by have :=hr (j+1);rw[show i+1+j=i+(j+1) by omega];simpa using this
   have hl':i+1+rest.length=all.length:=by simp only[List.length_cons] at hl;omega
   simp only[L6_] at e
   obtain⟨I',e1,h1,h2⟩:=Tr.setK_ok _ _ _ _ _ _ e
   obtain⟨a1,a2,a3⟩:=hp.one ho h1 h2
   split at e1
   . rename_i hd
     refine Ft_ hr' hl' ⟨a1,a2,λj o' d hj ho' hd'=>?_⟩ e1
     by_cases q:j=i
     . subst q;rw[ho] at ho';cases ho';rw[hd] at hd';cases hd'
     . obtain⟨b,b1,b2⟩:=hp.c j o' d yY ho' hd';exact⟨b,b1,a3 _ _ b2⟩
   . rename_i d hd
     split at e1
     . cases e1
     . rename_i hD
       obtain⟨D',e2,h3,h4⟩:=Tr.setK_ok _ _ _ _ _ _ e1
       refine Ft_ hr' hl' ⟨a1,a2,λj o' d' hj ho' hd'=>?_⟩ e2
       by_cases q:j=i
       . subst q;rw[ho] at ho';cases ho';rw[hd] at hd';cases hd';exact⟨_,h3,h1⟩
       . obtain⟨b,b1,b2⟩:=hp.c j o' d' yY ho' hd'
         have :d'≠d:=λz=>by subst z;rw[hD] at b1;cases b1
         exact⟨b,by rw[h4 _ this];exact b1,a3 _ _ b2⟩
def bitsE:Nat->Nat->List Nat->List Nat
 |0,_,acc=>acc
 |fu+1,x,acc=>bif Nat.beq x 0 then acc else bitsE fu (Nat.sub x (Nat.pow 2 (Nat.log2 x))) (Nat.log2 x::acc)
def planE (I:It) (m:Nat):List Nat->Nat->List Nat->List Nat
 |[],todo,acc=>bitsE m todo acc
 |w::ws,todo,acc=>planE I m ws (Nat.land todo (getB I w)) (w::bitsE m (Nat.sub todo (Nat.lor (Nat.land todo (getB I w)) (Nat.pow 2 w))) acc)
end
end Go.CE
namespace Go.CE
open Go.SW
noncomputable section
variable {P:Program} {n:Nat} {N:SW.Rest} {H:Hp} {ty:TypeId} {f:Fe} {h:He} {nx:Nat} {G:Gt} {R:Type}
def Bn_ (f:Fe) (x:Operand) (k:CV->Option R):Option R:=match ef f x with
 |some a=>k a
 |none=>none
theorem Aa_ {x:Operand} {k:CV->Option R} {r:R} (e:Bn_ f x k=some r):∃ a,ef f x=some a/\k a=some r:=F_ e
def opQ (P:Program) (G:Gt) (f:Fe) (h:He) (o:Op):Option CV:=match o with
 | .move x=>ef f x
 | .assign x=>ef f x
 | .pick c x y=>match ef f c with
   |some (.bool b)=>ef f (bif b then x else y)
   |_=>none
 | .build T ps=>match efps f ps.toList with
   |some qs=>F3_ P T qs
   |none=>none
 | .load T x=>Bn_ f x λa=>ldE P G h T a
 | .nilCheck x=>Bn_ f x λa=>nilE a
 | .binOp op T x y _=>Bn_ f x λa=>Bn_ f y λb=>binE P op T x y a b
 | .unOp op _ x=>Bn_ f x λa=>unE op a
 | .convert T T' x=>Bn_ f x λa=>cvaE P h T T' a
 | .makeInterface T x=>Bn_ f x λa=>ifE P T a
 | .makeFunc fn ps qs=>match fn with
   | .func g=>match efs f ps.toList with
     |some a=>match efs f qs.toList with
       |some b=>some (.fn g a b)
       |none=>none
     |none=>none
   |_=>none
 | .slice T x lo hi mx=>Bn_ f x λa=>match onE f lo with
   |some l=>match onE f hi with
     |some u=>match onE f mx with
       |some m=>slE P T a l u m
       |none=>none
     |none=>none
   |none=>none
 | .fieldAddr T x i=>Bn_ f x λa=>faE P T i a
 | .field T x i=>Bn_ f x λa=>Gb_ P T i a
 | .indexAddr T x y=>Bn_ f x λa=>Bn_ f y λb=>iaE P T a b
 | .index T x y=>Bn_ f x λa=>Bn_ f y λb=>ixE P T a b
 | .extract x i=>Bn_ f x λa=>exE a i
 | .call c=>match c.callee with
   | .builtin b=>match b with
     | .len=>match c.args.toList with
       |[x]=>match c.argTypes.toList with
         |[T]=>Bn_ f x λa=>lenE P T a
         |_=>none
       |_=>none
     | .cap=>match c.args.toList with
       |[x]=>match c.argTypes.toList with
         |[T]=>Bn_ f x λa=>capE P T a
         |_=>none
       |_=>none
     | .min=>match efs f c.args.toList with
       |some cs=>mmE .min cs
       |none=>none
     | .max=>match efs f c.args.toList with
       |some cs=>mmE .max cs
       |none=>none
     | .unsafeSliceData=>match c.args.toList with
       |[x]=>Bn_ f x λa=>usdE a
       |_=>none
     |_=>none
   |_=>none
 |_=>none
theorem Pi_ {op:Op} {c:CV} (hG:GH G H) (e:opQ P G f h op=some c) {β:Be} {L:Ls} {F:Fr} (hf:FR β f F) (hr:HR β h nx L):Yl P N F H L β op ty c:=by
 unfold opQ at e
 split at e
 exact y_mv (P_ hf e);exact y_as (P_ hf e)
 . split at e
   . rename_i b hb
     exact I5_ (P_ hf hb) (P_ hf e)
   . cases e
 . rename_i T ps
   split at e
   . rename_i qs hq
     have :=F2_ (P:=P) (N:=N) (H:=H) (L:=L) (ty:=ty) hf hq e
     exact yH
   . cases e
 obtain⟨a,hx,e⟩:=Aa_ e;exact y_ld hG hr (P_ hf hx) e;obtain⟨a,hx,e⟩:=Aa_ e;exact Om_ (P_ hf hx) e;obtain⟨a,hx,e⟩:=Aa_ e;obtain⟨b,hy,e⟩:=Aa_ e;exact K3_ (P_ hf hx) (P_ hf hy) e;obtain⟨a,hx,e⟩:=Aa_ e;exact Pc_ (P_ hf hx) e
 . obtain⟨a,hx,hc⟩:=Aa_ e
   unfold cvaE at hc
   split at hc
   exact zS
   . split at hc
     exact zT
     exact y_up hr (P_ hf hx) hc
 obtain⟨a,hx,e⟩:=Aa_ e;exact y_if (P_ hf hx) e
 . rename_i fn ps qs
   split at e
   . rename_i g
     split at e
     . rename_i a ha
       split at e
       . rename_i b hb
         simp only[Option.some.injEq] at e;subst e
         exact zL
       . cases e
     . cases e
   . cases e
 . obtain⟨a,hx,e⟩:=Aa_ e
   split at e
   . rename_i l hl
     split at e
     . rename_i u hu
       split at e
       . rename_i m hm
         exact y_sl hf (P_ hf hx) hl hu hm e
       . cases e
     . cases e
   . cases e
 obtain⟨a,hx,e⟩:=Aa_ e;exact y_fa (P_ hf hx) e;obtain⟨a,hx,e⟩:=Aa_ e;exact Mw_ (P_ hf hx) e;obtain⟨a,hx,e⟩:=Aa_ e;obtain⟨b,hy,e⟩:=Aa_ e;exact y_ia (P_ hf hx) (P_ hf hy) e;obtain⟨a,hx,e⟩:=Aa_ e;obtain⟨b,hy,e⟩:=Aa_ e;exact y_ix (P_ hf hx) (P_ hf hy) e;obtain⟨a,hx,e⟩:=Aa_ e;exact y_ex (P_ hf hx) e
 . rename_i c0
   obtain⟨callee,xs,ats⟩:=c0
   split at e
   . rename_i b hb
     simp only at hb e;subst hb
     split at e
     . split at e
       . rename_i x hxs
         split at e
         . rename_i T hts
           obtain⟨a,hx,e⟩:=Aa_ e
           rw[arr1 hxs,arr1 hts]
           exact Ol_ (P_ hf hx) e
         . cases e
       . cases e
     . split at e
       . rename_i x hxs
         split at e
         . rename_i T hts
           obtain⟨a,hx,e⟩:=Aa_ e
           rw[arr1 hxs,arr1 hts]
           exact y_cap (P_ hf hx) e
         . cases e
       . cases e
     . split at e
       exact zU
       . cases e
     . split at e
       exact zU
       . cases e
     . split at e
       . rename_i x hxs
         obtain⟨a,hx,e⟩:=Aa_ e
         rw[arr1 hxs]
         exact y_usd (P_ hf hx) e
       . cases e
     . cases e
   . cases e
 . cases e
def La_ (o:Op):Bool:=match o with
 | .load _ _=>true
 | .convert _ _ _=>true
 |_=>false
theorem Nt_ {op:Op} (h':He) (e:La_ op=false):opQ P G f h op=opQ P G f h' op:=by
 cases op<;>first|rfl|cases e
def OpQ (P:Program) (n:Nat) (N:SW.Rest) (H:Hp) (all:List Oper) (f:Fe) (h:He) (o:Oper) (c:CV):Prop:=
 ∀ {β:Be} {L:Ls} {F:Fr} {nx:Nat},FR β f F->HR β h nx L->∀ K:Fr->Hp->Ls->Prop,(∀ v,VR β c v->K (putO F o.dst v) H L)->Op1 P n N all o K F H L
def opQV (P:Program) (G:Gt) (n:Nat) (all:List Oper) (f:Fe) (h:He) (o:Oper):Option CV:=match o.dst with
 | some d=>bif Nat.blt d n then (match o.guard with
   |none=>opQ P G f h o.op
   |some (j,want)=>match gdE all f j want with
     |some true=>opQ P G f h o.op
     |some false=>some (.tup [])
     |none=>none) else none
 |none=>none
theorem Lw_ {all:List Oper} {o:Oper} (h':He) (e:La_ o.op=false):opQV P G n all f h o=opQV P G n all f h' o:=by
 unfold opQV;simp only[Nt_ (P:=P) (G:=G) (f:=f) (h:=h) h' e]
theorem Eb_ {all:List Oper} {o:Oper} {c:CV} (hG:GH G H) (e:opQV P G n all f h o=some c):OpQ P n N H all f h o c:=by
 obtain⟨d,op,ty,pos,af,g⟩:=o;intro β L F nx hf hr K kk;unfold opQV at e;simp only at e
 split at e
 . rename_i d0
   cases hb:Nat.blt d0 n with
   |false=>rw[hb] at e;cases e
   |true=>
     rw[hb] at e
     simp only[cond_true] at e
     split at e
     . obtain⟨v,h1,h2⟩:=Pi_ (N:=N) (ty:=ty) hG e hf hr
       exact Ea_ hb h2 (kk v h1)
     . rename_i j want
       cases hg:gdE all f j want with
       |none=>rw[hg] at e;cases e
       |some b=>
         rw[hg] at e
         rcases Ie_ hg hf with ⟨rfl,h3⟩|⟨rfl,h3⟩
         . obtain⟨v,h1,h2⟩:=Pi_ (N:=N) (ty:=ty) hG e hf hr
           exact Lr_ h3 Y (Ea_ hb h2 (kk v h1))
         . simp only[Option.some.injEq] at e;subst e
           intro a w ha hm
           have hnw:¬(Region.wanted ⟨some d0,op,ty,pos,af,some (j,want)⟩ (yielded all.toArray a.tmps)=true):=by
             rcases h3 with h3|h3
             . simp[Region.wanted,Ao_ ha h3]
             . simp[Region.wanted,A0_ ha h3]
           rw[if_neg hnw]
           exact⟨_,H,L,ha.put (by simpa using hb) undef,hm,kk undef Hw_⟩
 . cases e
def opA (P:Program) (f:Fe) (j:Nat) (o:Op):Option (CV×HB):=match o with
 | .alloc T=>match Eo_ P T with
   |some cs=>match mkB P T cs with
     |some hb=>some (.ptr j 0,hb)
     |none=>none
   |none=>none
 | .box T x=>match ef f x with
   |some a=>match Dv_ a with
     |some cs=>match mkB P T cs with
       |some hb=>some (.ptr j 0,hb)
       |none=>none
     |none=>none
   |none=>none
 | .buildSlice T len ps=>match P.underlying T with
   |some (.slice e)=>match szE P e with
     |some m=>match Eo_ P e with
       |some _=>match efps f ps.toList with
         |some qs=>match ordE m 0 qs with
           | some cs=>bif Nat.beq qs.length len&&Nat.ble (len*m) 16777216 then (match mkB P e cs with
             |some hb=>some (.sl j 0 len len,hb)
             |none=>none) else none
           |none=>none
         |none=>none
       |none=>none
     |none=>none
   |_=>none
 |_=>none
def AOk (P:Program) (n:Nat) (N:SW.Rest) (H:Hp) (all:List Oper) (f:Fe) (j:Nat) (o:Oper) (c:CV) (hb:HB):Prop:=
 ∀ {β:Be} {L:Ls} {F:Fr},FR β f F->β j=none->∀ K:Fr->Hp->Ls->Prop,(∀ q x v,VR (bset β j q) c v->BR (bset β j q) j hb x->K (putO F o.dst v) H (lupd L j x))->Op1 P n N all o K F H L
def opAV (P:Program) (n:Nat) (all:List Oper) (f:Fe) (j:Nat) (o:Oper):Option (CV×HB):=match o.dst with
 | some d=>bif Nat.blt d n then (match o.guard with
   |none=>opA P f j o.op
   |some (i,want)=>match gdE all f i want with
     |some true=>opA P f j o.op
     |some false=>some (.tup [], .dead)
     |none=>none) else none
 |none=>none
theorem Lv_ {all:List Oper} {d0:Tmp} {op:Op} {pos:String} {af:Array Edge} {j:Nat} {c:CV} {hb:HB} (hd:Nat.blt d0 n=true) (e:opA P f j op=some (c,hb)):AOk P n N H all f j ⟨some d0,op,ty,pos,af,none⟩ c hb:=by
 intro β L F hf hj K kk;have hle:∀ q,β.le (bset β j q):=λq=>Ar_ hj;unfold opA at e
 split at e
 . split at e
   . rename_i cs hz
     split at e
     . rename_i hb0 hB
       simp only[Option.some.injEq,Prod.mk.injEq] at e;obtain⟨rfl,rfl⟩:=e
       obtain⟨zv,z1,z2⟩:=A1_ (β:=β) hz
       refine By_ (cs:=zv.cells.toList) j hd (λw=>⟨zv,z1 w,by simp⟩) λb=>?_
       exact kk ⟨b,0,zv.cells.toList.length⟩ _ _ xY (Gl_ hB (z2.mono (hle _)) H_)
     . cases e
   . cases e
 . rename_i T x
   split at e
   . rename_i a hx
     split at e
     . rename_i cs hc
       split at e
       . rename_i hb0 hB
         simp only[Option.some.injEq,Prod.mk.injEq] at e;obtain⟨rfl,rfl⟩:=e
         have hv:=Bh_ hc (P_ hf hx)
         intro ac w ha hm
         rw[if_pos xC]
         unfold Oper.wp
         have :(execOp ac.eval ⟨some d0, .box T x,ty,pos,af,none⟩).run P w = .ok (.value (.pointer (some ⟨w.heap.size,0,none⟩))) {w with heap:=w.heap.push (bx T (ev F x).cells.toList)}:=by
           rw[ha.eval]
           simp[execOp,Instr.box,newVar,newRow,bx]
         rw[this]
         exact⟨_,H,_,ha.put xF _,hm.push j _,kk ⟨w.heap.size,0,(ev F x).cells.toList.length⟩ _ _ xY (Gl_ hB (hv.mono (hle _)) H_)⟩
       . cases e
     . cases e
   . cases e
 . rename_i T len ps
   split at e
   . rename_i e0 hT
     split at e
     . rename_i m hm
       split at e
       . rename_i zs hz
         split at e
         . rename_i qs hq
           split at e
           . rename_i cs hc
             cases hb0:(Nat.beq qs.length len&&Nat.ble (len*m) 16777216) with
             |false=>rw[hb0] at e;cases e
             |true=>
               rw[hb0] at e
               simp only[Bool.and_eq_true] at hb0
               simp only[cond_true] at e
               split at e
               . rename_i hb1 hB
                 simp only[Option.some.injEq,Prod.mk.injEq] at e;obtain⟨rfl,rfl⟩:=e
                 have hp:=Fg_ hf hq
                 obtain⟨a1,a2,a3⟩:=Hk_ hc hp
                 obtain⟨zv,z1,_⟩:=A1_ (β:=β) hz
                 have :=Ca_ (P:=P) (n:=n) (N:=N) (ty:=ty) (F:=F) (H:=H) (L:=L) (K:=K) (pos:=pos) (af:=af) (ops:=all) (ps:=ps.toList) j hd hT (Ah_ hm) ⟨zv,z1⟩ Y a1 (by rw[a3];exact Nat.eq_of_beq_eq_true hb0.1) Y (Nat.le_of_ble_eq_true hb0.2) λb=>kk ⟨b,0,_⟩ _ _ xY (Gl_ hB (a2.mono (hle _)) H_)
                 exact yH
               . cases e
           . cases e
         . cases e
       . cases e
     . cases e
   . cases e
 . cases e
theorem opA_ok {all:List Oper} {o:Oper} {j:Nat} {c:CV} {hb:HB} (e:opAV P n all f j o=some (c,hb)):AOk P n N H all f j o c hb:=by
 obtain⟨d,op,ty,pos,af,g⟩:=o;intro β L F hf hj K kk;unfold opAV at e;simp only at e
 split at e
 . rename_i d0
   cases hd:Nat.blt d0 n with
   |false=>rw[hd] at e;cases e
   |true=>
     rw[hd] at e
     simp only[cond_true] at e
     split at e
     . exact Lv_ hd e hf hj K kk
     . rename_i i want
       cases hg:gdE all f i want with
       |none=>rw[hg] at e;cases e
       |some b=>
         rw[hg] at e
         rcases Ie_ hg hf with ⟨rfl,h3⟩|⟨rfl,h3⟩
         . exact Lr_ h3 Y (Lv_ hd e hf hj K kk)
         . simp only[Option.some.injEq,Prod.mk.injEq] at e;obtain⟨rfl,rfl⟩:=e
           intro a w ha hm
           have hnw:¬(Region.wanted ⟨some d0,op,ty,pos,af,some (i,want)⟩ (yielded all.toArray a.tmps)=true):=by
             rcases h3 with h3|h3
             . simp[Region.wanted,Ao_ ha h3]
             . simp[Region.wanted,A0_ ha h3]
           rw[if_neg hnw]
           exact⟨_,H,lupd L j none,ha.put xF undef,hm.clear j,kk ⟨0,0,0⟩ none undef Hw_ Y⟩
 . cases e
end
end Go.CE
