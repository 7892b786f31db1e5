/-
  A part of the proof of ScriptTells: Closed runs: one operation, whichever it is. Over any program; it asks that calls go as0 is said of
-/
import Derived.Test.YtlemlalknchmcaaGreatDoorScriptTellsP3
import Derived.Test.YtlemlalknchmcaaGreatDoorScriptTellsP2
import Derived.LoopN
import Derived.Lib.Repeat
import Derived.Lib.MakeNoZero
set_option linter.unusedVariables false
set_option linter.unusedSimpArgs false
set_option maxRecDepth 100000
set_option maxHeartbeats 4000000
open Array renaming getD_eq_getD_getElem?->A7,getElem?_eq_getElem->AU
open BitVec renaming ofInt->A4
open Bool renaming and_eq_true->A2,false_or->BK,not_false->GA,or_eq_true->CT,rec->D6
open Go.Exit renaming exit->HK
open Go.Extern.BytealgMakeNoZero renaming digits->B8
open Go.IntKind renaming bits->A5
open Go.Lib renaming repeatL->HE,size_digits->GB
open Go.Oper renaming wp->AX
open Go.Question renaming forced->FF
open Go.Region renaming binds->BC,ready->BP,wanted->AP
open Int renaming ofNat->AQ,ofNat_eq_natCast->B9
open List renaming cons_append->C6,length_cons->AE,mem_append_left->BD,mem_append_right->CS,mem_cons_of_mem->AB,mem_cons_self->AK,range->EF,suffix_cons->C1,suffix_refl->DW
open Nat renaming and_comm->HA,beq->A3,ble->A6,blt->AC,div->EN,eq_of_beq_eq_true->A0,land->EE,le_add_right->G3,le_of_ble_eq_true->A1,le_trans->C7,lor->D7,lt_of_lt_of_le->BV,mod->DG,mod_eq_of_lt->C9,mod_lt->D0,mul_comm->CD,mul_le_mul_right->BS,pow->B3,pow_add->FS,sub->CZ,xor->E8,xor_lt_two_pow->DI,zero_add->BG
open Option renaming rec->GS
namespace Go.CE
open Go.SW
noncomputable section
variable{P:Program}{n:Nat}{N:SW.Rest}{H:Hp}{ty:TypeId}{f:Fe}{h:He}{nx:Nat}{G:Gt}{X:Xt}{R:Type}
def Cs(P:Program)(N:SW.Rest)(H:Hp)(g:FuncId)(args:List CV)(h:He)(nx:Nat)(c:CV)(h':He)(nx':Nat):Prop:=
 S_ P g/\∀ β L vs w,HR β h nx L->VRs β args vs->Mem N H L w->∀ R':Ending->World->Prop,(∀ β' v L' w',VR β' c v->Post β h nx L β' h' nx' L'->Mem N H L' w'->R' (.returned v) w')->Calls P g vs.toArray w R'
abbrev Cl(R:Type):=FuncId->List CV->He->Nat->Ke R->Option R
def ClOk(P:Program)(N:SW.Rest)(H:Hp)(cl:Cl R):Prop:=∀ g args h nx k r,cl g args h nx k=some r->∃ c h' nx',k c h' nx'=some r/\Cs P N H g args h nx c h' nx'
def cvaE(P:Program)(h:He)(T T':TypeId)(a:CV):Option CV:=match cvE P T T' a with
 |some c=>some c
 |none=>match b2sE P h T T' a with
   |some c=>some c
   |none=>upE P h T T' a
def retE(o:Option CV)(h:He)(nx:Nat)(k:Ke R):Option R:=match o with
 |some c=>k c h nx
 |none=>none
def T_(f:Fe)(x:Operand)(k:CV->Option R):Option R:=match ef f x with
 |some a=>k a
 |none=>none
def biE(P:Program)(f:Fe)(h:He)(nx:Nat)(b:Builtin)(xs:List Operand)(ats:List TypeId)(k:Ke R):Option R:=match b with
 | .len=>match xs with
   |[x]=>match ats with
     |[T]=>T_ f x λa=>retE (lenE P T a) h nx k
     |_=>none
   |_=>none
 | .cap=>match xs with
   |[x]=>match ats with
     |[T]=>T_ f x λa=>retE (capE P T a) h nx k
     |_=>none
   |_=>none
 | .min=>match efs f xs with
   |some cs=>retE (mmE .min cs) h nx k
   |none=>none
 | .max=>match efs f xs with
   |some cs=>retE (mmE .max cs) h nx k
   |none=>none
 | .append=>match xs with
   |[x,y]=>match ats with
     |[T,T2]=>T_ f x λa=>T_ f y λb=>match P.underlying T2 with
       |some (.int _)=>azE P h nx T T2 a b k
       |_=>apE P h nx T T2 a b k
     |_=>none
   |_=>none
 | .copy=>match xs with
   |[x,y]=>match ats with
     |[T,_]=>T_ f x λa=>T_ f y λb=>cpE P h nx T a b k
     |_=>none
   |_=>none
 | .unsafeString=>match xs with
   |[x,y]=>match ats with
     |[T,_]=>T_ f x λa=>T_ f y λb=>usE P h nx T a b k
     |_=>none
   |_=>none
 | .unsafeSliceData=>match xs with
   |[x]=>T_ f x λa=>retE (usdE a) h nx k
   |_=>none
 |_=>none
def caE(X:Xt)(cl:Cl R)(f:Fe)(h:He)(nx:Nat)(x:Operand)(xs:List Operand)(k:Ke R):Option R:=match ef f x with
 |some (.fn g fs cap)=>match efs f xs with
   |some az=>match xkE X g with
     |some xk=>xtE h nx xk (fs++(az++cap)) k
     |none=>cl g (fs++(az++cap)) h nx k
   |none=>none
 |_=>none
def opE(P:Program)(G:Gt)(X:Xt)(cl:Cl R)(f:Fe)(h:He)(nx:Nat)(o:Op)(k:Ke R):Option R:=match o with
 | .move x=>T_ f x λa=>k a h nx
 | .assign x=>T_ f x λa=>k a h nx
 | .pick c x y=>match ef f c with
   |some (.bool b)=>T_ f (bif b then x else y) λa=>k a h nx
   |_=>none
 | .alloc T=>alE P h nx T k
 | .box T x=>T_ f x λa=>bxE P h nx T a k
 | .build T ps=>match efps f ps.toList with
   |some qs=>retE (G6_ P T qs) h nx k
   |none=>none
 | .buildSlice T len ps=>bslE P f h nx T len ps.toList k
 | .load T x=>T_ f x λa=>retE (ldE P G h T a) h nx k
 | .store T x y=>T_ f x λa=>T_ f y λb=>stE P h nx T a b k
 | .nilCheck x=>T_ f x λa=>retE (nilE a) h nx k
 | .binOp op T x y _=>T_ f x λa=>T_ f y λb=>retE (binE P op T x y a b) h nx k
 | .unOp op _ x=>T_ f x λa=>retE (unE op a) h nx k
 | .convert T T' x=>T_ f x λa=>match cvaE P h T T' a with
   |some c=>k c h nx
   |none=>s2bE P h nx T T' a k
 | .makeInterface T x=>T_ f x λa=>retE (ifE P T a) h nx k
 | .makeFunc fn ps qs=>match fn with
   | .func g=>match efs f ps.toList with
     |some a=>match efs f qs.toList with
       |some b=>k (.fn g a b) h nx
       |none=>none
     |none=>none
   |_=>none
 | .makeMap _ r=>match r with
   |none=>Tr.setK 40 h nx (.mp [] 0) λh=>k (.mp nx) h (nx+1)
   |some _=>none
 | .makeSlice T x y=>T_ f x λa=>T_ f y λb=>mkE P h nx T a b k
 | .slice T x lo hi mx=>T_ f x λa=>match onE f lo with
   |some l=>match onE f hi with
     |some u=>match onE f mx with
       |some m=>retE (slE P T a l u m) h nx k
       |none=>none
     |none=>none
   |none=>none
 | .fieldAddr T x i=>T_ f x λa=>retE (faE P T i a) h nx k
 | .field T x i=>T_ f x λa=>retE (Hd_ P T i a) h nx k
 | .indexAddr T x y=>T_ f x λa=>T_ f y λb=>retE (iaE P T a b) h nx k
 | .index T x y=>T_ f x λa=>T_ f y λb=>retE (ixE P T a b) h nx k
 | .range T x=>T_ f x λa=>rgE P h nx T a k
 | .next x b=>match b with
   |true=>T_ f x λa=>nxE h nx a k
   |false=>none
 | .extract x i=>T_ f x λa=>retE (exE a i) h nx k
 | .call c=>match c.callee with
   | .builtin b=>biE P f h nx b c.args.toList c.argTypes.toList k
   | .value x=>caE X cl f h nx x c.args.toList k
   |_=>none
 |_=>none
def o_move(x:Operand)(P:Program)(G:Gt)(X:Xt)(cl:Cl R)(f:Fe)(h:He)(nx:Nat)(k:Ke R):Option R:=T_ f x λa=>k a h nx
def Pe_(x:Operand)(P:Program)(G:Gt)(X:Xt)(cl:Cl R)(f:Fe)(h:He)(nx:Nat)(k:Ke R):Option R:=T_ f x λa=>k a h nx
def o_pick(c:Operand)(x:Operand)(y:Operand)(P:Program)(G:Gt)(X:Xt)(cl:Cl R)(f:Fe)(h:He)(nx:Nat)(k:Ke R):Option R:=match ef f c with
   |some (.bool b)=>T_ f (bif b then x else y) λa=>k a h nx
   |_=>none
def o_alloc(T:TypeId)(P:Program)(G:Gt)(X:Xt)(cl:Cl R)(f:Fe)(h:He)(nx:Nat)(k:Ke R):Option R:=alE P h nx T k
def o_box(T:TypeId)(x:Operand)(P:Program)(G:Gt)(X:Xt)(cl:Cl R)(f:Fe)(h:He)(nx:Nat)(k:Ke R):Option R:=T_ f x λa=>bxE P h nx T a k
def o_build(T:TypeId)(ps:Array (Nat×Operand))(P:Program)(G:Gt)(X:Xt)(cl:Cl R)(f:Fe)(h:He)(nx:Nat)(k:Ke R):Option R:=match efps f ps.toList with
   |some qs=>retE (G6_ P T qs) h nx k
   |none=>none
def Hr_(T:TypeId)(len:Nat)(ps:Array (Nat×Operand))(P:Program)(G:Gt)(X:Xt)(cl:Cl R)(f:Fe)(h:He)(nx:Nat)(k:Ke R):Option R:=bslE P f h nx T len ps.toList k
def o_load(T:TypeId)(x:Operand)(P:Program)(G:Gt)(X:Xt)(cl:Cl R)(f:Fe)(h:He)(nx:Nat)(k:Ke R):Option R:=T_ f x λa=>retE (ldE P G h T a) h nx k
def o_store(T:TypeId)(x:Operand)(y:Operand)(P:Program)(G:Gt)(X:Xt)(cl:Cl R)(f:Fe)(h:He)(nx:Nat)(k:Ke R):Option R:=T_ f x λa=>T_ f y λb=>stE P h nx T a b k
def Kr_(x:Operand)(P:Program)(G:Gt)(X:Xt)(cl:Cl R)(f:Fe)(h:He)(nx:Nat)(k:Ke R):Option R:=T_ f x λa=>retE (nilE a) h nx k
def o_binOp(op:BinOp)(T:TypeId)(x:Operand)(y:Operand)(z4:TypeId)(P:Program)(G:Gt)(X:Xt)(cl:Cl R)(f:Fe)(h:He)(nx:Nat)(k:Ke R):Option R:=T_ f x λa=>T_ f y λb=>retE (binE P op T x y a b) h nx k
def o_unOp(op:UnOp)(z1:TypeId)(x:Operand)(P:Program)(G:Gt)(X:Xt)(cl:Cl R)(f:Fe)(h:He)(nx:Nat)(k:Ke R):Option R:=T_ f x λa=>retE (unE op a) h nx k
def Mw_(T:TypeId)(T':TypeId)(x:Operand)(P:Program)(G:Gt)(X:Xt)(cl:Cl R)(f:Fe)(h:He)(nx:Nat)(k:Ke R):Option R:=T_ f x λa=>match cvaE P h T T' a with
   |some c=>k c h nx
   |none=>s2bE P h nx T T' a k
def E0_(T:TypeId)(x:Operand)(P:Program)(G:Gt)(X:Xt)(cl:Cl R)(f:Fe)(h:He)(nx:Nat)(k:Ke R):Option R:=T_ f x λa=>retE (ifE P T a) h nx k
def Kq_(fn:Go.Fn)(ps:Array Operand)(qs:Array Operand)(P:Program)(G:Gt)(X:Xt)(cl:Cl R)(f:Fe)(h:He)(nx:Nat)(k:Ke R):Option R:=match fn with
   | .func g=>match efs f ps.toList with
     |some a=>match efs f qs.toList with
       |some b=>k (.fn g a b) h nx
       |none=>none
     |none=>none
   |_=>none
def My_(z0:TypeId)(r:Option Operand)(P:Program)(G:Gt)(X:Xt)(cl:Cl R)(f:Fe)(h:He)(nx:Nat)(k:Ke R):Option R:=match r with
   |none=>Tr.setK 40 h nx (.mp [] 0) λh=>k (.mp nx) h (nx+1)
   |some _=>none
def Im_(T:TypeId)(x:Operand)(y:Operand)(P:Program)(G:Gt)(X:Xt)(cl:Cl R)(f:Fe)(h:He)(nx:Nat)(k:Ke R):Option R:=T_ f x λa=>T_ f y λb=>mkE P h nx T a b k
def o_slice(T:TypeId)(x:Operand)(lo:Option Operand)(hi:Option Operand)(mx:Option Operand)(P:Program)(G:Gt)(X:Xt)(cl:Cl R)(f:Fe)(h:He)(nx:Nat)(k:Ke R):Option R:=T_ f x λa=>match onE f lo with
   |some l=>match onE f hi with
     |some u=>match onE f mx with
       |some m=>retE (slE P T a l u m) h nx k
       |none=>none
     |none=>none
   |none=>none
def Ik_(T:TypeId)(x:Operand)(i:Nat)(P:Program)(G:Gt)(X:Xt)(cl:Cl R)(f:Fe)(h:He)(nx:Nat)(k:Ke R):Option R:=T_ f x λa=>retE (faE P T i a) h nx k
def o_field(T:TypeId)(x:Operand)(i:Nat)(P:Program)(G:Gt)(X:Xt)(cl:Cl R)(f:Fe)(h:He)(nx:Nat)(k:Ke R):Option R:=T_ f x λa=>retE (Hd_ P T i a) h nx k
def Il_(T:TypeId)(x:Operand)(y:Operand)(P:Program)(G:Gt)(X:Xt)(cl:Cl R)(f:Fe)(h:He)(nx:Nat)(k:Ke R):Option R:=T_ f x λa=>T_ f y λb=>retE (iaE P T a b) h nx k
def o_index(T:TypeId)(x:Operand)(y:Operand)(P:Program)(G:Gt)(X:Xt)(cl:Cl R)(f:Fe)(h:He)(nx:Nat)(k:Ke R):Option R:=T_ f x λa=>T_ f y λb=>retE (ixE P T a b) h nx k
def o_range(T:TypeId)(x:Operand)(P:Program)(G:Gt)(X:Xt)(cl:Cl R)(f:Fe)(h:He)(nx:Nat)(k:Ke R):Option R:=T_ f x λa=>rgE P h nx T a k
def o_next(x:Operand)(b:Bool)(P:Program)(G:Gt)(X:Xt)(cl:Cl R)(f:Fe)(h:He)(nx:Nat)(k:Ke R):Option R:=match b with
   |true=>T_ f x λa=>nxE h nx a k
   |false=>none
def Mx_(x:Operand)(i:Nat)(P:Program)(G:Gt)(X:Xt)(cl:Cl R)(f:Fe)(h:He)(nx:Nat)(k:Ke R):Option R:=T_ f x λa=>retE (exE a i) h nx k
def o_call(c:Call)(P:Program)(G:Gt)(X:Xt)(cl:Cl R)(f:Fe)(h:He)(nx:Nat)(k:Ke R):Option R:=match c.callee with
   | .builtin b=>biE P f h nx b c.args.toList c.argTypes.toList k
   | .value x=>caE X cl f h nx x c.args.toList k
   |_=>none
def oNo(P:Program)(G:Gt)(X:Xt)(cl:Cl R)(f:Fe)(h:He)(nx:Nat)(k:Ke R):Option R:=none
def opF(o:Op):Program->Gt->Xt->Cl R->Fe->He->Nat->Ke R->Option R:=match o with
 | .move x=>o_move x
 | .assign x=>Pe_ x
 | .pick c x y=>o_pick c x y
 | .alloc T=>o_alloc T
 | .box T x=>o_box T x
 | .build T ps=>o_build T ps
 | .buildSlice T len ps=>Hr_ T len ps
 | .load T x=>o_load T x
 | .store T x y=>o_store T x y
 | .nilCheck x=>Kr_ x
 | .binOp op T x y z4=>o_binOp op T x y z4
 | .unOp op z1 x=>o_unOp op z1 x
 | .convert T T' x=>Mw_ T T' x
 | .makeInterface T x=>E0_ T x
 | .makeFunc fn ps qs=>Kq_ fn ps qs
 | .makeMap z0 r=>My_ z0 r
 | .makeSlice T x y=>Im_ T x y
 | .slice T x lo hi mx=>o_slice T x lo hi mx
 | .fieldAddr T x i=>Ik_ T x i
 | .field T x i=>o_field T x i
 | .indexAddr T x y=>Il_ T x y
 | .index T x y=>o_index T x y
 | .range T x=>o_range T x
 | .next x b=>o_next x b
 | .extract x i=>Mx_ x i
 | .call c=>o_call c
 |_=>oNo
theorem opF_eq{P:Program}{G:Gt}{X:Xt}{cl:Cl R}{f:Fe}{h:He}{nx:Nat}{o:Op}{k:Ke R}:opF o P G X cl f h nx k=opE P G X cl f h nx o k:=by
 cases o<;>rfl
theorem H_{x:Operand}{k:CV->Option R}{r:R}(e:T_ f x k=some r):∃ a,ef f x=some a/\k a=some r:=by
 unfold T_ at e
 split at e
 . rename_i a ha;exact⟨a,ha,e⟩
 . cases e
theorem Am_{o:Option CV}{k:Ke R}{r:R}(e:retE o h nx k=some r):∃ c,o=some c/\k c h nx=some r:=by
 unfold retE at e
 split at e
 . rename_i c;exact⟨c,rfl,e⟩
 . cases e
def Ops(P:Program)(n:Nat)(N:SW.Rest)(H:Hp)(f:Fe)(h:He)(nx:Nat)(o:Oper)(c:CV)(h':He)(nx':Nat):Prop:=
 ∀ {β:Be} {L:Ls} {F:Fr},dstB n o=true->FR β f F->HR β h nx L->Es P n N F H L β h nx o c h' nx'
theorem arr1{α:Type}{xs:Array α}{l:List α}(e:xs.toList=l):xs=l.toArray:=by rw[<- e]
def okD(o:Op)(d:Option Tmp):Bool:=match o with
 | .store _ _ _=>d.isNone
 | .call c=>match c.callee with
   | .builtin .copy=>true
   | .value _=>true
   |_=>d.isSome
 |_=>d.isSome
theorem e_call{cl:Cl R}{x:Operand}{xs:Array Operand}{ats:Array TypeId}{dst:Option Tmp}{pos:String}{af:Array Edge}{k:Ke R}{r:R}(hX:XOk P X)(hcl:ClOk P N H cl)(e:caE X cl f h nx x xs.toList k=some r):∃ c h' nx',k c h' nx'=some r/\Ops P n N H f h nx ⟨dst, .call ⟨.value x,xs,ats⟩,ty,pos,af,none⟩ c h' nx':=by
 unfold caE at e
 split at e
 . rename_i g fs cap hx
   split at e
   . rename_i az has
     split at e
     . rename_i xk hxk
       obtain⟨c,h',nx',e1,e2⟩:=e_xt (hX g xk hxk) e
       refine⟨c,h',nx',e1,λ{β L F} hd hf hr ops K kk a w ha hm=>?_⟩
       have hxv:=P_ hf hx
       have hxs:=C5_ hf has
       simp only[VR] at hxv;obtain⟨vs,us,ex,h1,h2⟩:=hxv
       obtain⟨v,w',β',L',r1,r2,r3,r4⟩:=e2 hr (h1.app (hxs.app h2)) hm
       rw[if_pos xR]
       unfold AX
       have e3:xs.map (ev F)=(evs F xs.toList).toArray:=by rw[<- Dm_];apply Array.ext';simp
       have :(execOp a.eval ⟨dst, .call ⟨.value x,xs,ats⟩,ty,pos,af,none⟩).run P w = .ok (.value v) w':=by
         rw[ha.eval]
         simp[execOp,resolve,Deferred.ofValue,ex,invoke,e3,r1]
       rw[this]
       exact⟨_,H,L',ha.putO hd v,r2,kk β' v L' r3 r4⟩
     obtain⟨c,h',nx',e1,hc,e2⟩:=hcl _ _ _ _ _ _ e
     refine⟨c,h',nx',e1,λ{β L F} hd hf hr ops K kk a w ha hm=>?_⟩
     have hxv:=P_ hf hx
     have hxs:=C5_ hf has
     simp only[VR] at hxv;obtain⟨vs,us,ex,h1,h2⟩:=hxv
     have hen:=Qn_ (ats:=ats) (xs:=xs) ex hc ty dst pos af none w
     rw[if_pos xR]
     unfold AX
     rw[ha.eval,hen]
     have :=e2 β L (vs++(evs F xs.toList++us)) w hr (h1.app (hxs.app h2)) hm
     rw[show vs++evs F xs.toList++us=vs++(evs F xs.toList++us) from List.append_assoc _ _ _]
     exact this _ λβ' v L' w' r3 r4 r2=>⟨_,H,L',ha.putO hd v,r2,kk β' v L' r3 r4⟩
   . cases e
 . cases e
theorem Ra_{cl:Cl R}{op:Op}{dst:Option Tmp}{pos:String}{af:Array Edge}{k:Ke R}{r:R}(hG:GH G H)(hX:XOk P X)(hcl:ClOk P N H cl)(e:opE P G X cl f h nx op k=some r)(hn:okD op dst=true):∃ c h' nx',k c h' nx'=some r/\Ops P n N H f h nx ⟨dst,op,ty,pos,af,none⟩ c h' nx':=by
 have yl:∀ {c:CV},dst.isSome=true->k c h nx=some r->(∀ {β:Be} {L:Ls} {F:Fr},FR β f F->HR β h nx L->Yl P N F H L β op ty c)->∃ c h' nx',k c h' nx'=some r/\Ops P n N H f h nx ⟨dst,op,ty,pos,af,none⟩ c h' nx':=by
   intro c hnd e1 hy
   obtain⟨d,rfl⟩:=Option.isSome_iff_exists.1 hnd
   exact⟨c,h,nx,e1,λ{β L F} hd hf hr=>Es.of_yl hd hr (hy hf hr)⟩
 unfold opE at e
 split at e
 obtain⟨a,hx,e⟩:=H_ e;exact yl hn e λhf hr=>y_mv (P_ hf hx);obtain⟨a,hx,e⟩:=H_ e;exact yl hn e λhf hr=>y_as (P_ hf hx)
 . split at e
   . rename_i b hb
     obtain⟨a,hx,e⟩:=H_ e
     exact yl hn e λhf hr=>Kd_ (P_ hf hb) (P_ hf hx)
   . cases e
 obtain⟨d,rfl⟩:=Option.isSome_iff_exists.1 hn;obtain⟨c,h',nx',e1,e2⟩:=e_al e;exact⟨c,h',nx',e1,λ{β L F} hd hf hr=>e2 hd hr⟩;obtain⟨d,rfl⟩:=Option.isSome_iff_exists.1 hn;obtain⟨a,hx,e⟩:=H_ e;obtain⟨c,h',nx',e1,e2⟩:=e_bx e;exact zI
 . rename_i T ps
   split at e
   . rename_i qs hq
     obtain⟨c,hc,e⟩:=Am_ e
     refine yl hn e λ{β L F} hf hr=>?_
     have :=G5_ (P:=P) (N:=N) (H:=H) (L:=L) (ty:=ty) hf hq hc
     exact yS
   . cases e
 . rename_i T len ps
   obtain⟨d,rfl⟩:=Option.isSome_iff_exists.1 hn
   obtain⟨c,h',nx',e1,e2⟩:=e_bsl (ps:=ps.toList) e
   refine⟨c,h',nx',e1,λ{β L F} hd hf hr=>?_⟩
   have :=e2 hd hf hr
   exact yS
 obtain⟨a,hx,e⟩:=H_ e;obtain⟨c,hc,e⟩:=Am_ e;exact yl hn e λhf hr=>y_ld hG hr (P_ hf hx) hc
 . obtain⟨a,hx,e⟩:=H_ e
   obtain⟨b,hy,e⟩:=H_ e
   cases dst with
   |some d=>cases hn
   |none=>
     obtain⟨c,h',nx',e1,e2⟩:=e_st e
     exact⟨c,h',nx',e1,λ{β L F} hd hf hr=>e2 hr (P_ hf hx) (P_ hf hy)⟩
 obtain⟨a,hx,e⟩:=H_ e;obtain⟨c,hc,e⟩:=Am_ e;exact yl hn e λhf hr=>Qd_ (P_ hf hx) hc;obtain⟨a,hx,e⟩:=H_ e;obtain⟨b,hy,e⟩:=H_ e;obtain⟨c,hc,e⟩:=Am_ e;exact yl hn e λhf hr=>Mj_ (P_ hf hx) (P_ hf hy) hc;obtain⟨a,hx,e⟩:=H_ e;obtain⟨c,hc,e⟩:=Am_ e;exact yl hn e λhf hr=>Q7_ (P_ hf hx) hc
 . obtain⟨a,hx,e⟩:=H_ e
   split at e
   . rename_i c hc
     refine yl hn e λhf hr=>?_
     unfold cvaE at hc
     split at hc
     exact yB
     . split at hc
       exact yC
       exact y_up hr (P_ hf hx) hc
   obtain⟨d,rfl⟩:=Option.isSome_iff_exists.1 hn
   obtain⟨c,h',nx',e1,e2⟩:=e_s2b e
   exact zI
 obtain⟨a,hx,e⟩:=H_ e;obtain⟨c,hc,e⟩:=Am_ e;exact yl hn e λhf hr=>y_if (P_ hf hx) hc
 . rename_i fn ps qs
   split at e
   . rename_i g
     split at e
     . rename_i a ha
       split at e
       . rename_i b hb
         refine yl hn e λ{β L F} hf hr=>?_
         exact zP
       . cases e
     . cases e
   . cases e
 . split at e
   obtain⟨d,rfl⟩:=Option.isSome_iff_exists.1 hn
   obtain⟨h',e1,e2,e3⟩:=Tr.setK_ok _ _ _ _ _ _ e
   refine⟨_,h',_,e1,λ{β L F} hd hf hr ops K kk=>M7_ nx hd λb=>kk (bset β nx ⟨b,0,0⟩) _ _ ?_ (.new hr e2 e3 ⟨_,#[],J_,rfl,rfl⟩)⟩
   exact yW
   . cases e
 obtain⟨d,rfl⟩:=Option.isSome_iff_exists.1 hn;obtain⟨a,hx,e⟩:=H_ e;obtain⟨b,hy,e⟩:=H_ e;obtain⟨c,h',nx',e1,e2⟩:=e_mk e;exact zH
 . obtain⟨a,hx,e⟩:=H_ e
   split at e
   . rename_i l hl
     split at e
     . rename_i u hu
       split at e
       . rename_i m hm
         obtain⟨c,hc,e⟩:=Am_ e
         exact yl hn e λhf hr=>y_sl hf (P_ hf hx) hl hu hm hc
       . cases e
     . cases e
   . cases e
 obtain⟨a,hx,e⟩:=H_ e;obtain⟨c,hc,e⟩:=Am_ e;exact yl hn e λhf hr=>y_fa (P_ hf hx) hc;obtain⟨a,hx,e⟩:=H_ e;obtain⟨c,hc,e⟩:=Am_ e;exact yl hn e λhf hr=>Oi_ (P_ hf hx) hc;obtain⟨a,hx,e⟩:=H_ e;obtain⟨b,hy,e⟩:=H_ e;obtain⟨c,hc,e⟩:=Am_ e;exact yl hn e λhf hr=>y_ia (P_ hf hx) (P_ hf hy) hc;obtain⟨a,hx,e⟩:=H_ e;obtain⟨b,hy,e⟩:=H_ e;obtain⟨c,hc,e⟩:=Am_ e;exact yl hn e λhf hr=>y_ix (P_ hf hx) (P_ hf hy) hc;obtain⟨d,rfl⟩:=Option.isSome_iff_exists.1 hn;obtain⟨a,hx,e⟩:=H_ e;obtain⟨c,h',nx',e1,e2⟩:=e_rg e;exact zI
 . split at e
   obtain⟨d,rfl⟩:=Option.isSome_iff_exists.1 hn
   obtain⟨a,hx,e⟩:=H_ e
   obtain⟨c,h',nx',e1,e2⟩:=e_nx e
   exact zI
   . cases e
 obtain⟨a,hx,e⟩:=H_ e;obtain⟨c,hc,e⟩:=Am_ e;exact yl hn e λhf hr=>y_ex (P_ hf hx) hc
 . rename_i c0
   obtain⟨callee,xs,ats⟩:=c0
   split at e
   . rename_i b hb
     simp only at hb e;subst hb
     unfold biE at e
     split at e
     . split at e
       . rename_i x hxs
         split at e
         . rename_i T hts
           obtain⟨a,hx,e⟩:=H_ e
           obtain⟨c,hc,e⟩:=Am_ e
           rw[arr1 hxs,arr1 hts] at yl ⊢
           exact yl hn e λhf hr=>Qc_ (P_ hf hx) hc
         . cases e
       . cases e
     . split at e
       . rename_i x hxs
         split at e
         . rename_i T hts
           obtain⟨a,hx,e⟩:=H_ e
           obtain⟨c,hc,e⟩:=Am_ e
           rw[arr1 hxs,arr1 hts] at yl ⊢
           exact yl hn e λhf hr=>y_cap (P_ hf hx) hc
         . cases e
       . cases e
     . split at e
       exact yE
       . cases e
     . split at e
       exact yE
       . cases e
     . split at e
       . rename_i x y hxs
         split at e
         . rename_i T T2 hts
           obtain⟨d,rfl⟩:=Option.isSome_iff_exists.1 hn
           obtain⟨a,hx,e⟩:=H_ e
           obtain⟨b,hy,e⟩:=H_ e
           rw[arr1 hxs,arr1 hts]
           split at e
           obtain⟨c,h',nx',e1,e2⟩:=e_az e
           exact zH
           obtain⟨c,h',nx',e1,e2⟩:=e_ap e
           exact zH
         . cases e
       . cases e
     . split at e
       . rename_i x y hxs
         split at e
         . rename_i T T2 hts
           obtain⟨a,hx,e⟩:=H_ e
           obtain⟨b,hy,e⟩:=H_ e
           obtain⟨c,h',nx',e1,e2⟩:=e_cp e
           rw[arr1 hxs,arr1 hts]
           exact zH
         . cases e
       . cases e
     . split at e
       . rename_i x y hxs
         split at e
         . rename_i T T2 hts
           obtain⟨d,rfl⟩:=Option.isSome_iff_exists.1 hn
           obtain⟨a,hx,e⟩:=H_ e
           obtain⟨b,hy,e⟩:=H_ e
           obtain⟨c,h',nx',e1,e2⟩:=e_us e
           rw[arr1 hxs,arr1 hts]
           exact zH
         . cases e
       . cases e
     . split at e
       . rename_i x hxs
         obtain⟨a,hx,e⟩:=H_ e
         obtain⟨c,hc,e⟩:=Am_ e
         rw[arr1 hxs] at yl ⊢
         exact yl hn e λhf hr=>y_usd (P_ hf hx) hc
       . cases e
     . cases e
   . rename_i x hx
     simp only at hx e;subst hx
     exact e_call hX hcl e
   . cases e
 . cases e
end
end Go.CE
namespace Go.CE
open Go.SW
noncomputable section
variable{P:Program}{n:Nat}{N:SW.Rest}{H:Hp}{ty:TypeId}{f:Fe}{h:He}{nx:Nat}{G:Gt}{X:Xt}{R:Type}
def OpA(P:Program)(n:Nat)(N:SW.Rest)(H:Hp)(all:List Oper)(f:Fe)(h:He)(nx:Nat)(o:Oper)(c:CV)(h':He)(nx':Nat):Prop:=
 ∀ {β:Be} {L:Ls} {F:Fr},FR β f F->HR β h nx L->∀ K:Fr->Hp->Ls->Prop,(∀ β' v L',VR β' c v->Post β h nx L β' h' nx' L'->K (putO F o.dst v) H L')->Op1 P n N all o K F H L
def gdE(all:List Oper)(f:Fe)(j:Nat)(want:Bool):Option Bool:=match nth all j with
 |some oj=>match oj.dst with
   |some dj=>match f dj with
     |some (.bool b)=>some (b==want)
     |some (.tup [])=>some false
     |_=>none
   |none=>none
 |none=>none
def dB(n:Nat)(d:Option Tmp):Bool:=match d with
 |some d=>AC d n
 |none=>true
def opV(P:Program)(G:Gt)(X:Xt)(cl:Cl R)(n:Nat)(all:List Oper)(f:Fe)(h:He)(nx:Nat)(o:Oper)(k:Ke R):Option R:=match o with
 | ⟨d,op,_,_,_,g⟩=>bif okD op d&&dB n d then (match g with
   |none=>opF op P G X cl f h nx k
   |some (j,want)=>match gdE all f j want with
     |some true=>opF op P G X cl f h nx k
     |some false=>k (.tup []) h nx
     |none=>none) else none
theorem I4_{β:Be}:VR β (.tup []) undef:=by simp only[VR];exact⟨[],rfl, .nil⟩
theorem Jk_{all:List Oper}{j:Nat}{want b:Bool}{β:Be}{F:Fr}(hg:gdE all f j want=some b)(hf:FR β f F):(b=true/\yF all F j=some (.bool want))\/(b=false/\(yF all F j=some (.bool (!want))\/yF all F j=some undef)):=by
 unfold gdE at hg
 split at hg
 . rename_i oj hoj
   split at hg
   . rename_i dj hdj
     have hyF:yF all F j=some (F dj):=Qa_ hoj hdj
     split at hg
     . rename_i b0 hb0
       have :=hf _ _ hb0
       simp only[VR] at this
       simp only[Option.some.injEq] at hg;subst hg
       rw[hyF,this]
       cases b0<;>cases want<;>simp
     . rename_i hb0
       have :=hf _ _ hb0
       simp only[VR] at this
       obtain⟨vs,e1,e2⟩:=this
       rw[e2.nil_inv] at e1
       simp only[Option.some.injEq] at hg;subst hg
       rw[hyF,e1]
       exact .inr ⟨rfl, .inr Y⟩
     . cases hg
   . cases hg
 . cases hg
theorem Rc_{cl:Cl R}{all:List Oper}{o:Oper}{k:Ke R}{r:R}(hG:GH G H)(hX:XOk P X)(hcl:ClOk P N H cl)(e:opV P G X cl n all f h nx o k=some r):∃ c h' nx',k c h' nx'=some r/\OpA P n N H all f h nx o c h' nx':=by
 obtain⟨d,op,ty,pos,af,g⟩:=o;unfold opV at e;simp only at e
 cases hb:(okD op d&&dB n d) with
 |false=>rw[hb] at e;cases e
 |true=>
   rw[hb] at e
   simp only[A2] at hb
   obtain⟨h1,h2⟩:=hb
   simp only[cond_true] at e
   have hd:∀ g,dstB n ⟨d,op,ty,pos,af,g⟩=true:=λg=>by cases d<;>exact h2
   simp only[opF_eq] at e
   split at e
   . obtain⟨c,h',nx',e1,e2⟩:=Ra_ (ty:=ty) (pos:=pos) (af:=af) (dst:=d) (n:=n) hG hX hcl e h1
     exact⟨c,h',nx',e1,λ{β L F} hf hr K kk=>e2 (hd none) hf hr all K kk⟩
   . rename_i j want
     split at e
     . rename_i hg
       obtain⟨c,h',nx',e1,e2⟩:=Ra_ (ty:=ty) (pos:=pos) (af:=af) (dst:=d) (n:=n) hG hX hcl e h1
       refine⟨c,h',nx',e1,λ{β L F} hf hr K kk=>?_⟩
       rcases Jk_ hg hf with ⟨_,h3⟩|⟨h3,_⟩
       . exact Jy_ h3 Y (e2 (hd none) hf hr all K kk)
       . cases h3
     . rename_i hg
       refine⟨_,_,_,e,λ{β L F} hf hr K kk a w ha hm=>?_⟩
       rcases Jk_ hg hf with ⟨h3,_⟩|⟨_,h3⟩
       . cases h3
       . have hnw:¬(AP ⟨d,op,ty,pos,af,some (j,want)⟩ (yielded all.toArray a.tmps)=true):=by
           rcases h3 with h3|h3
           . simp[AP,As_ ha h3]
           . simp[AP,Ba_ ha h3]
         rw[if_neg hnw]
         exact⟨_,H,L,ha.putO (hd _) undef,hm,kk β undef L I4_ (.refl hr)⟩
     . cases e
abbrev Ft:=Tr CV
abbrev Kf(R:Type):=Ft->He->Nat->Option R
def setD(f:Ft)(d:Option Tmp)(c:CV)(k:Ft->Option R):Option R:=match d with
 |some d=>Tr.setK 24 f d c k
 |none=>k f
def SetD(f:Ft)(d:Option Tmp)(c:CV)(f':Ft):Prop:=match d with
 |some d=>f'.get d=some c/\∀ j,j≠d->f'.get j=f.get j
 |none=>f'=f
theorem G0_{f:Ft}{d:Option Tmp}{c:CV}{k:Ft->Option R}{r:R}(e:setD f d c k=some r):∃ f',k f'=some r/\SetD f d c f':=by
 cases d with
 |none=>exact⟨f,e,rfl⟩
 |some d=>obtain⟨f',e1,e2,e3⟩:=Tr.setK_ok _ _ _ _ _ _ e;exact⟨f',e1,e2,e3⟩
theorem FR.put{β β':Be}{F:Fr}{d:Option Tmp}{c:CV}{f f':Ft}{v:Value}(hf:FR β f.get F)(hl:β.le β')(hv:VR β' c v)(hs:SetD f d c f'):FR β' f'.get (putO F d v):=by
 cases d with
 |none=>cases hs;exact hf.mono hl
 |some d=>
   intro t ct ht
   by_cases e:t=d
   . subst e;rw[hs.1] at ht;cases ht;simp only[putO,Dg_];exact hv
   . rw[hs.2 t e] at ht;simp only[putO,F6_ _ _ _ _ e];exact (hf t ct ht).mono hl
def opsE(P:Program)(G:Gt)(X:Xt)(cl:Cl R)(n:Nat)(all:List Oper):List Oper->Ft->He->Nat->Kf R->Option R
 |[],f,h,nx,k=>k f h nx
 |o::r,f,h,nx,k=>opV P G X cl n all f.get h nx o λc h nx=>setD f o.dst c λf=>opsE P G X cl n all r f h nx k
theorem Nc_{cl:Cl R}{all:List Oper}(hG:GH G H)(hX:XOk P X)(hcl:ClOk P N H cl):∀ {rest:List Oper} {f:Ft} {h:He} {nx:Nat} {k:Kf R} {r:R},opsE P G X cl n all rest f h nx k=some r->∃ f' h' nx',k f' h' nx'=some r /\
   ∀ {β:Be} {L:Ls} {F:Fr},FR β f.get F->HR β h nx L->∀ Q:Qt,(∀ β' F' L',FR β' f'.get F'->Post β h nx L β' h' nx' L'->Q .normal F' H L')->Ow P n N all rest Q F H L
 |[],f,h,nx,k,r,e=>⟨f,h,nx,e,λ{β L F} hf hr Q kk=>Ah_ (kk β F L hf (.refl hr))⟩
 |o::rest,f,h,nx,k,r,e=>by
   simp only[opsE] at e
   obtain⟨c,h1,nx1,e1,e2⟩:=Rc_ (n:=n) hG hX hcl e
   obtain⟨f1,e3,e4⟩:=G0_ e1
   obtain⟨f',h',nx',e5,e6⟩:=Nc_ hG hX hcl e3
   refine⟨f',h',nx',e5,λ{β L F} hf hr Q kk=>ow1 (e2 hf hr _ λβ' v L' hv hp=>?_)⟩
   exact e6 (hf.put hp.le hv e4) hp.hr Q λβ'' F'' L'' hf'' hp''=>kk β'' F'' L'' hf'' (hp.trans hp'')
end
end Go.CE
namespace Go.CE
open Go.SW
noncomputable section
variable{P:Program}{n:Nat}{N:SW.Rest}{H:Hp}{ty:TypeId}{f:Fe}{h:He}{nx:Nat}{G:Gt}{R:Type}
def tb(x i:Nat):Bool:=A3 (EE (Nat.shiftRight x i) 1) 1
theorem N8_(x i:Nat):tb x i=Nat.testBit x i:=by
 unfold tb Nat.testBit;show A3 ((x >>> i) &&& 1) 1=(1 &&& (x >>> i) != 0);rw[HA];have :1 &&& (x >>> i)=(x >>> i)%2:=by rw[HA,Nat.and_one_is_mod]
 rw[this];have :(x >>> i)%2=0\/(x >>> i)%2=1:=by omega
 rcases this with e|e<;>rw[e]<;>rfl
theorem Ky_{x y i:Nat}:tb (Nat.lor x y) i=(tb x i||tb y i):=by
 simp only[N8_];exact Nat.testBit_or x y i
theorem N9_{i j:Nat}:tb (Nat.pow 2 i) j = decide (i=j):=by rw[N8_];exact Nat.testBit_two_pow
theorem I3_{i:Nat}:tb 0 i=false:=by rw[N8_];exact Nat.zero_testBit i
def subB(x y:Nat):Bool:=A3 (EE x y) x
theorem G3_{x y:Nat}(e:subB x y=true){j:Nat}(hj:tb x j=true):tb y j=true:=by
 have h:=A0 e;rw[N8_] at hj ⊢;rw[<- h] at hj;have :=Nat.testBit_and x y j;rw[show EE x y=x &&& y from rfl,this] at hj;simp only[A2] at hj;exact hj.2
abbrev It:=Tr (Oper×Nat)
abbrev Ds:=Tr (Nat×Nat)
def getB(I:It)(j:Nat):Nat:=match I.get j with
 |some (_,b)=>b
 |none=>0
def edB(I:It):List Edge->Nat->Nat
 |[],s=>s
 |e::r,s=>edB I r (bif BC .any e then D7 s (D7 (B3 2 e.on) (getB I e.on)) else s)
def Bok(I:It)(o:Oper)(b:Nat):Prop:=(∀ e∈o.after.toList,BC .any e=true->tb b e.on=true)/\∀ j,tb b j=true->∃ e∈o.after.toList,BC .any e=true/\(j=e.on\/∃ o' b',I.get e.on=some (o',b')/\tb b' j=true)
theorem Qm_{I:It}:∀ (es:List Edge) (s:Nat),(∀ j,tb s j=true->tb (edB I es s) j=true)/\(∀ e∈es,Region.binds .any e=true->tb (edB I es s) e.on=true)/\∀ j,tb (edB I es s) j=true->tb s j=true\/∃ e∈es,Region.binds .any e=true/\(j=e.on\/∃ o' b',I.get e.on=some (o',b')/\tb b' j=true)
 |[],s=>⟨λ_ h=>h,(λe h=>by cases h),λ_ h=> .inl h⟩
 |e::r,s=>by
   obtain⟨a1,a2,a3⟩:=Qm_ (I:=I) r (bif BC .any e then D7 s (D7 (B3 2 e.on) (getB I e.on)) else s)
   simp only[edB]
   refine⟨λj hj=>a1 j ?_,λe' he hb=>?_,λj hj=>?_⟩
   . cases hb:BC .any e with
     |false=>exact hj
     |true=>simp only[cond_true];rw[Ky_,hj];rfl
   . rcases List.mem_cons.1 he with rfl|he
     . rw[hb] at a1 ⊢;refine a1 _ ?_;simp only[cond_true];rw[Ky_,Ky_,N9_];simp
     . exact a2 _ he hb
   . rcases a3 j hj with h|⟨e',h1,h2⟩
     . cases hb:BC .any e with
       |false=>rw[hb] at h;exact .inl h
       |true=>
         rw[hb] at h
         simp only[cond_true] at h
         rw[Ky_,Ky_,N9_] at h
         simp only[CT,decide_eq_true_eq] at h
         rcases h with h|h|h
         . exact .inl h
         . exact .inr ⟨e,AK,hb, .inl h.symm⟩
         . refine .inr ⟨e,AK,hb, .inr ?_⟩
           unfold getB at h
           split at h
           . rename_i o b hg;exact⟨o,b,hg,h⟩
           . rw[I3_] at h;cases h
     . exact .inr ⟨e',AB _ h1,h2⟩
inductive OK where
 |v
 |a
 |w
def okO(P:Program)(o:Op):OK:=match o with
 | .alloc _=> .a
 | .box _ _=> .a
 | .buildSlice _ _ _=> .a
 | .call c=>match c.callee with
   | .builtin b=>match b with
     | .len=> .v
     | .cap=> .v
     | .min=> .v
     | .max=> .v
     | .unsafeSliceData=> .v
     |_=> .w
   |_=> .w
 | .convert _ T _=>match P.underlying T with
   |some (.slice _)=> .w
   |_=> .v
 | .move _=> .v
 | .assign _=> .v
 | .pick _ _ _=> .v
 | .build _ _=> .v
 | .load _ _=> .v
 | .nilCheck _=> .v
 | .binOp _ _ _ _ _=> .v
 | .unOp _ _ _=> .v
 | .makeInterface _ _=> .v
 | .makeFunc _ _ _=> .v
 | .slice _ _ _ _ _=> .v
 | .fieldAddr _ _ _=> .v
 | .field _ _ _=> .v
 | .indexAddr _ _ _=> .v
 | .index _ _ _=> .v
 | .extract _ _=> .v
 |_=> .w
def isW:OK->Bool
 | .w=>true
 |_=>false
def Nm_(P:Program):List Oper->Nat->It->Ds->List Nat->(It->Ds->List Nat->Nat->Option R)->Option R
 |[],i,I,D,ws,k=>k I D ws i
 |o::r,i,I,D,ws,k=>Tr.setK 24 I i (o,edB I o.after.toList 0) λI'=>match o.dst with
   |none=>Nm_ P r (i+1) I' D (bif isW (okO P o.op) then i::ws else ws) k
   |some d=>match D.get d with
     |some _=>none
     |none=>Tr.setK 24 D d (i,edB I o.after.toList 0) λD=>Nm_ P r (i+1) I' D (bif isW (okO P o.op) then i::ws else ws) k
structure PI(all:List Oper)(I:It)(D:Ds)(i:Nat):Prop where
 a:∀ j o b,I.get j=some (o,b)->j<i/\all[j]? = some o/\Bok I o b
 b:∀ j o,j<i->all[j]? = some o->∃ b,I.get j=some (o,b)
 c:∀ j o d,j<i->all[j]? = some o->o.dst=some d->∃ b,D.get d=some (j,b)/\I.get j=some (o,b)
theorem PI.one{all:List Oper}{I I':It}{D:Ds}{i:Nat}{o:Oper}(hp:PI all I D i)(ho:all[i]? = some o)(h1:I'.get i=some (o,edB I o.after.toList 0))(h2:∀ j,j≠i->I'.get j=I.get j) :
   (∀ j o b,I'.get j=some (o,b)->j<i+1/\all[j]? = some o/\Bok I' o b)/\(∀ j o,j<i+1->all[j]? = some o->∃ b,I'.get j=some (o,b))/\(∀ j x,I.get j=some x->I'.get j=some x):=by
 have hmono:∀ j x,I.get j=some x->I'.get j=some x:=λj x e=>by
   have :j≠i:=λq=>by subst q;have :=(hp.a _ x.1 x.2 e).1;omega
   rw[h2 j this];exact e
 have hbok:∀ {o b},Bok I o b->Bok I' o b:=λ{o b} hb=>⟨hb.1,λj hj=>by
   obtain⟨e,e1,e2,e3⟩:=hb.2 j hj
   refine⟨e,e1,e2,e3.imp id λ⟨o',b',q1,q2⟩=>⟨o',b',hmono _ _ q1,q2⟩⟩⟩
 refine⟨λj o' b e=>?_,λj o' hj e=>?_,hmono⟩;by_cases q:j=i
 . subst q
   rw[h1] at e;simp only[Option.some.injEq,Prod.mk.injEq] at e;obtain⟨rfl,rfl⟩:=e
   obtain⟨_,a2,a3⟩:=Qm_ (I:=I) o.after.toList 0
   refine⟨by omega,ho,hbok ⟨a2,λj hj=>?_⟩⟩
   rcases a3 j hj with z|z
   . rw[I3_] at z;cases z
   exact z
 rw[h2 j q] at e;obtain⟨a1,a2,a3⟩:=hp.a j o' b e;exact⟨by omega,a2,hbok a3⟩;by_cases q:j=i
 . subst q;rw[ho] at e;cases e;exact⟨_,h1⟩
 obtain⟨b,e1⟩:=hp.b j o' xN e;exact⟨b,hmono _ _ e1⟩
theorem Gt_{all:List Oper}:∀ {rest:List Oper} {i:Nat} {I:It} {D:Ds} {ws:List Nat} {k:It->Ds->List Nat->Nat->Option R} {r:R},(∀ j,rest[j]? = all[i+j]?)->i+rest.length=all.length->PI all I D i->Nm_ P rest i I D ws k=some r->∃ I' D' ws',k I' D' ws' all.length=some r/\PI all I' D' all.length
 |[],i,I,D,ws,k,r,_,hl,hp,e=>by
   simp only[List.length_nil,Nat.add_zero] at hl;subst hl;exact⟨I,D,ws,e,hp⟩
 |o::rest,i,I,D,ws,k,r,hr,hl,hp,e=>by
   have ho:all[i]? = some o:=by have :=hr 0;simpa using this.symm
   have hr':∀ j,rest[j]? = all[i+1+j]? :=λj=>by have :=hr (j+1);rw[show i+1+j=i+(j+1) by omega];simpa using this
   have hl':i+1+rest.length=all.length:=by simp only[AE] at hl;omega
   simp only[Nm_] at e
   obtain⟨I',e1,h1,h2⟩:=Tr.setK_ok _ _ _ _ _ _ e
   obtain⟨a1,a2,a3⟩:=hp.one ho h1 h2
   split at e1
   . rename_i hd
     refine Gt_ hr' hl' ⟨a1,a2,λj o' d hj ho' hd'=>?_⟩ e1
     by_cases q:j=i
     . subst q;rw[ho] at ho';cases ho';rw[hd] at hd';cases hd'
     . obtain⟨b,b1,b2⟩:=hp.c j o' d xN ho' hd';exact⟨b,b1,a3 _ _ b2⟩
   . rename_i d hd
     split at e1
     . cases e1
     . rename_i hD
       obtain⟨D',e2,h3,h4⟩:=Tr.setK_ok _ _ _ _ _ _ e1
       refine Gt_ hr' hl' ⟨a1,a2,λj o' d' hj ho' hd'=>?_⟩ e2
       by_cases q:j=i
       . subst q;rw[ho] at ho';cases ho';rw[hd] at hd';cases hd';exact⟨_,h3,h1⟩
       . obtain⟨b,b1,b2⟩:=hp.c j o' d' xN ho' hd'
         have :d'≠d:=λz=>by subst z;rw[hD] at b1;cases b1
         exact⟨b,by rw[h4 _ this];exact b1,a3 _ _ b2⟩
def bitsE:Nat->Nat->List Nat->List Nat
 |0,_,acc=>acc
 |fu+1,x,acc=>bif A3 x 0 then acc else bitsE fu (CZ x (B3 2 (Nat.log2 x))) (Nat.log2 x::acc)
def planE(I:It)(m:Nat):List Nat->Nat->List Nat->List Nat
 |[],todo,acc=>bitsE m todo acc
 |w::ws,todo,acc=>planE I m ws (EE todo (getB I w)) (w::bitsE m (CZ todo (D7 (EE todo (getB I w)) (B3 2 w))) acc)
end
end Go.CE
namespace Go.CE
open Go.SW
noncomputable section
variable{P:Program}{n:Nat}{N:SW.Rest}{H:Hp}{ty:TypeId}{f:Fe}{h:He}{nx:Nat}{G:Gt}{R:Type}
def Bu_(f:Fe)(x:Operand)(k:CV->Option R):Option R:=match ef f x with
 |some a=>k a
 |none=>none
theorem Y_{x:Operand}{k:CV->Option R}{r:R}(e:Bu_ f x k=some r):∃ a,ef f x=some a/\k a=some r:=H_ e
def opQ(P:Program)(G:Gt)(f:Fe)(h:He)(o:Op):Option CV:=match o with
 | .move x=>ef f x
 | .assign x=>ef f x
 | .pick c x y=>match ef f c with
   |some (.bool b)=>ef f (bif b then x else y)
   |_=>none
 | .build T ps=>match efps f ps.toList with
   |some qs=>G6_ P T qs
   |none=>none
 | .load T x=>Bu_ f x λa=>ldE P G h T a
 | .nilCheck x=>Bu_ f x λa=>nilE a
 | .binOp op T x y _=>Bu_ f x λa=>Bu_ f y λb=>binE P op T x y a b
 | .unOp op _ x=>Bu_ f x λa=>unE op a
 | .convert T T' x=>Bu_ f x λa=>cvaE P h T T' a
 | .makeInterface T x=>Bu_ f x λa=>ifE P T a
 | .makeFunc fn ps qs=>match fn with
   | .func g=>match efs f ps.toList with
     |some a=>match efs f qs.toList with
       |some b=>some (.fn g a b)
       |none=>none
     |none=>none
   |_=>none
 | .slice T x lo hi mx=>Bu_ f x λa=>match onE f lo with
   |some l=>match onE f hi with
     |some u=>match onE f mx with
       |some m=>slE P T a l u m
       |none=>none
     |none=>none
   |none=>none
 | .fieldAddr T x i=>Bu_ f x λa=>faE P T i a
 | .field T x i=>Bu_ f x λa=>Hd_ P T i a
 | .indexAddr T x y=>Bu_ f x λa=>Bu_ f y λb=>iaE P T a b
 | .index T x y=>Bu_ f x λa=>Bu_ f y λb=>ixE P T a b
 | .extract x i=>Bu_ f x λa=>exE a i
 | .call c=>match c.callee with
   | .builtin b=>match b with
     | .len=>match c.args.toList with
       |[x]=>match c.argTypes.toList with
         |[T]=>Bu_ f x λa=>lenE P T a
         |_=>none
       |_=>none
     | .cap=>match c.args.toList with
       |[x]=>match c.argTypes.toList with
         |[T]=>Bu_ f x λa=>capE P T a
         |_=>none
       |_=>none
     | .min=>match efs f c.args.toList with
       |some cs=>mmE .min cs
       |none=>none
     | .max=>match efs f c.args.toList with
       |some cs=>mmE .max cs
       |none=>none
     | .unsafeSliceData=>match c.args.toList with
       |[x]=>Bu_ f x λa=>usdE a
       |_=>none
     |_=>none
   |_=>none
 |_=>none
theorem Rb_{op:Op}{c:CV}(hG:GH G H)(e:opQ P G f h op=some c){β:Be}{L:Ls}{F:Fr}(hf:FR β f F)(hr:HR β h nx L):Yl P N F H L β op ty c:=by
 unfold opQ at e
 split at e
 exact y_mv (P_ hf e);exact y_as (P_ hf e)
 . split at e
   . rename_i b hb
     exact Kd_ (P_ hf hb) (P_ hf e)
   . cases e
 . rename_i T ps
   split at e
   . rename_i qs hq
     have :=G5_ (P:=P) (N:=N) (H:=H) (L:=L) (ty:=ty) hf hq e
     exact yS
   . cases e
 obtain⟨a,hx,e⟩:=Y_ e;exact y_ld hG hr (P_ hf hx) e;obtain⟨a,hx,e⟩:=Y_ e;exact Qd_ (P_ hf hx) e;obtain⟨a,hx,e⟩:=Y_ e;obtain⟨b,hy,e⟩:=Y_ e;exact Mj_ (P_ hf hx) (P_ hf hy) e;obtain⟨a,hx,e⟩:=Y_ e;exact Q7_ (P_ hf hx) e
 . obtain⟨a,hx,hc⟩:=Y_ e
   unfold cvaE at hc
   split at hc
   exact yB
   . split at hc
     exact yC
     exact y_up hr (P_ hf hx) hc
 obtain⟨a,hx,e⟩:=Y_ e;exact y_if (P_ hf hx) e
 . rename_i fn ps qs
   split at e
   . rename_i g
     split at e
     . rename_i a ha
       split at e
       . rename_i b hb
         simp only[Option.some.injEq] at e;subst e
         exact zP
       . cases e
     . cases e
   . cases e
 . obtain⟨a,hx,e⟩:=Y_ e
   split at e
   . rename_i l hl
     split at e
     . rename_i u hu
       split at e
       . rename_i m hm
         exact y_sl hf (P_ hf hx) hl hu hm e
       . cases e
     . cases e
   . cases e
 obtain⟨a,hx,e⟩:=Y_ e;exact y_fa (P_ hf hx) e;obtain⟨a,hx,e⟩:=Y_ e;exact Oi_ (P_ hf hx) e;obtain⟨a,hx,e⟩:=Y_ e;obtain⟨b,hy,e⟩:=Y_ e;exact y_ia (P_ hf hx) (P_ hf hy) e;obtain⟨a,hx,e⟩:=Y_ e;obtain⟨b,hy,e⟩:=Y_ e;exact y_ix (P_ hf hx) (P_ hf hy) e;obtain⟨a,hx,e⟩:=Y_ e;exact y_ex (P_ hf hx) e
 . rename_i c0
   obtain⟨callee,xs,ats⟩:=c0
   split at e
   . rename_i b hb
     simp only at hb e;subst hb
     split at e
     . split at e
       . rename_i x hxs
         split at e
         . rename_i T hts
           obtain⟨a,hx,e⟩:=Y_ e
           rw[arr1 hxs,arr1 hts]
           exact Qc_ (P_ hf hx) e
         . cases e
       . cases e
     . split at e
       . rename_i x hxs
         split at e
         . rename_i T hts
           obtain⟨a,hx,e⟩:=Y_ e
           rw[arr1 hxs,arr1 hts]
           exact y_cap (P_ hf hx) e
         . cases e
       . cases e
     . split at e
       exact yD
       . cases e
     . split at e
       exact yD
       . cases e
     . split at e
       . rename_i x hxs
         obtain⟨a,hx,e⟩:=Y_ e
         rw[arr1 hxs]
         exact y_usd (P_ hf hx) e
       . cases e
     . cases e
   . cases e
 . cases e
def Mq_(o:Op):Bool:=match o with
 | .load _ _=>true
 | .convert _ _ _=>true
 |_=>false
theorem Ph_{op:Op}(h':He)(e:Mq_ op=false):opQ P G f h op=opQ P G f h' op:=by
 cases op<;>first|rfl|cases e
def OpQ(P:Program)(n:Nat)(N:SW.Rest)(H:Hp)(all:List Oper)(f:Fe)(h:He)(o:Oper)(c:CV):Prop:=
 ∀ {β:Be} {L:Ls} {F:Fr} {nx:Nat},FR β f F->HR β h nx L->∀ K:Fr->Hp->Ls->Prop,(∀ v,VR β c v->K (putO F o.dst v) H L)->Op1 P n N all o K F H L
def opQV(P:Program)(G:Gt)(n:Nat)(all:List Oper)(f:Fe)(h:He)(o:Oper):Option CV:=match o.dst with
 | some d=>bif AC d n then (match o.guard with
   |none=>opQ P G f h o.op
   |some (j,want)=>match gdE all f j want with
     |some true=>opQ P G f h o.op
     |some false=>some (.tup [])
     |none=>none) else none
 |none=>none
theorem Nb_{all:List Oper}{o:Oper}(h':He)(e:Mq_ o.op=false):opQV P G n all f h o=opQV P G n all f h' o:=by
 unfold opQV;simp only[Ph_ (P:=P) (G:=G) (f:=f) (h:=h) h' e]
theorem E1_{all:List Oper}{o:Oper}{c:CV}(hG:GH G H)(e:opQV P G n all f h o=some c):OpQ P n N H all f h o c:=by
 obtain⟨d,op,ty,pos,af,g⟩:=o;intro β L F nx hf hr K kk;unfold opQV at e;simp only at e
 split at e
 . rename_i d0
   cases hb:AC d0 n with
   |false=>rw[hb] at e;cases e
   |true=>
     rw[hb] at e
     simp only[cond_true] at e
     split at e
     . obtain⟨v,h1,h2⟩:=Rb_ (N:=N) (ty:=ty) hG e hf hr
       exact Du_ hb h2 (kk v h1)
     . rename_i j want
       cases hg:gdE all f j want with
       |none=>rw[hg] at e;cases e
       |some b=>
         rw[hg] at e
         rcases Jk_ hg hf with ⟨rfl,h3⟩|⟨rfl,h3⟩
         . obtain⟨v,h1,h2⟩:=Rb_ (N:=N) (ty:=ty) hG e hf hr
           exact Jy_ h3 Y (Du_ hb h2 (kk v h1))
         . simp only[Option.some.injEq] at e;subst e
           intro a w ha hm
           have hnw:¬(AP ⟨some d0,op,ty,pos,af,some (j,want)⟩ (yielded all.toArray a.tmps)=true):=by
             rcases h3 with h3|h3
             . simp[AP,As_ ha h3]
             . simp[AP,Ba_ ha h3]
           rw[if_neg hnw]
           exact⟨_,H,L,ha.put (by simpa using hb) undef,hm,kk undef I4_⟩
 . cases e
def opA(P:Program)(f:Fe)(j:Nat)(o:Op):Option (CV×HB):=match o with
 | .alloc T=>match Fg_ P T with
   |some cs=>match mkB P T cs with
     |some hb=>some (.ptr j 0,hb)
     |none=>none
   |none=>none
 | .box T x=>match ef f x with
   |some a=>match Ek_ a with
     |some cs=>match mkB P T cs with
       |some hb=>some (.ptr j 0,hb)
       |none=>none
     |none=>none
   |none=>none
 | .buildSlice T len ps=>match P.underlying T with
   |some (.slice e)=>match szE P e with
     |some m=>match Fg_ P e with
       |some _=>match efps f ps.toList with
         |some qs=>match ordE m 0 qs with
           | some cs=>bif A3 qs.length len&&A6 (len*m) 16777216 then (match mkB P e cs with
             |some hb=>some (.sl j 0 len len,hb)
             |none=>none) else none
           |none=>none
         |none=>none
       |none=>none
     |none=>none
   |_=>none
 |_=>none
def AOk(P:Program)(n:Nat)(N:SW.Rest)(H:Hp)(all:List Oper)(f:Fe)(j:Nat)(o:Oper)(c:CV)(hb:HB):Prop:=
 ∀ {β:Be} {L:Ls} {F:Fr},FR β f F->β j=none->∀ K:Fr->Hp->Ls->Prop,(∀ q x v,VR (bset β j q) c v->BR (bset β j q) j hb x->K (putO F o.dst v) H (lupd L j x))->Op1 P n N all o K F H L
def opAV(P:Program)(n:Nat)(all:List Oper)(f:Fe)(j:Nat)(o:Oper):Option (CV×HB):=match o.dst with
 | some d=>bif AC d n then (match o.guard with
   |none=>opA P f j o.op
   |some (i,want)=>match gdE all f i want with
     |some true=>opA P f j o.op
     |some false=>some (.tup [], .dead)
     |none=>none) else none
 |none=>none
theorem Na_{all:List Oper}{d0:Tmp}{op:Op}{pos:String}{af:Array Edge}{j:Nat}{c:CV}{hb:HB}(hd:Nat.blt d0 n=true)(e:opA P f j op=some (c,hb)):AOk P n N H all f j ⟨some d0,op,ty,pos,af,none⟩ c hb:=by
 intro β L F hf hj K kk;have hle:∀ q,β.le (bset β j q):=λq=>Ay_ hj;unfold opA at e
 split at e
 . split at e
   . rename_i cs hz
     split at e
     . rename_i hb0 hB
       simp only[Option.some.injEq,Prod.mk.injEq] at e;obtain⟨rfl,rfl⟩:=e
       obtain⟨zv,z1,z2⟩:=Bb_ (β:=β) hz
       refine Ca_ (cs:=zv.cells.toList) j hd (λw=>⟨zv,z1 w,by simp⟩) λb=>?_
       exact kk ⟨b,0,zv.cells.toList.length⟩ _ _ wQ (Ho_ hB (z2.mono (hle _)) J_)
     . cases e
   . cases e
 . rename_i T x
   split at e
   . rename_i a hx
     split at e
     . rename_i cs hc
       split at e
       . rename_i hb0 hB
         simp only[Option.some.injEq,Prod.mk.injEq] at e;obtain⟨rfl,rfl⟩:=e
         have hv:=Bo_ hc (P_ hf hx)
         intro ac w ha hm
         rw[if_pos xR]
         unfold AX
         have :(execOp ac.eval ⟨some d0, .box T x,ty,pos,af,none⟩).run P w = .ok (.value (.pointer (some ⟨w.heap.size,0,none⟩))) {w with heap:=w.heap.push (bx T (ev F x).cells.toList)}:=by
           rw[ha.eval]
           simp[execOp,Instr.box,newVar,newRow,bx]
         rw[this]
         exact⟨_,H,_,ha.put xU _,hm.push j _,kk ⟨w.heap.size,0,(ev F x).cells.toList.length⟩ _ _ wQ (Ho_ hB (hv.mono (hle _)) J_)⟩
       . cases e
     . cases e
   . cases e
 . rename_i T len ps
   split at e
   . rename_i e0 hT
     split at e
     . rename_i m hm
       split at e
       . rename_i zs hz
         split at e
         . rename_i qs hq
           split at e
           . rename_i cs hc
             cases hb0:(A3 qs.length len&&A6 (len*m) 16777216) with
             |false=>rw[hb0] at e;cases e
             |true=>
               rw[hb0] at e
               simp only[A2] at hb0
               simp only[cond_true] at e
               split at e
               . rename_i hb1 hB
                 simp only[Option.some.injEq,Prod.mk.injEq] at e;obtain⟨rfl,rfl⟩:=e
                 have hp:=Gg_ hf hq
                 obtain⟨a1,a2,a3⟩:=Io_ hc hp
                 obtain⟨zv,z1,_⟩:=Bb_ (β:=β) hz
                 have :=Cn_ (P:=P) (n:=n) (N:=N) (ty:=ty) (F:=F) (H:=H) (L:=L) (K:=K) (pos:=pos) (af:=af) (ops:=all) (ps:=ps.toList) j hd hT (Af_ hm) ⟨zv,z1⟩ Y a1 (by rw[a3];exact A0 hb0.1) Y (A1 hb0.2) λb=>kk ⟨b,0,_⟩ _ _ wQ (Ho_ hB (a2.mono (hle _)) J_)
                 exact yS
               . cases e
           . cases e
         . cases e
       . cases e
     . cases e
   . cases e
 . cases e
theorem opA_ok{all:List Oper}{o:Oper}{j:Nat}{c:CV}{hb:HB}(e:opAV P n all f j o=some (c,hb)):AOk P n N H all f j o c hb:=by
 obtain⟨d,op,ty,pos,af,g⟩:=o;intro β L F hf hj K kk;unfold opAV at e;simp only at e
 split at e
 . rename_i d0
   cases hd:AC d0 n with
   |false=>rw[hd] at e;cases e
   |true=>
     rw[hd] at e
     simp only[cond_true] at e
     split at e
     . exact Na_ hd e hf hj K kk
     . rename_i i want
       cases hg:gdE all f i want with
       |none=>rw[hg] at e;cases e
       |some b=>
         rw[hg] at e
         rcases Jk_ hg hf with ⟨rfl,h3⟩|⟨rfl,h3⟩
         . exact Jy_ h3 Y (Na_ hd e hf hj K kk)
         . simp only[Option.some.injEq,Prod.mk.injEq] at e;obtain⟨rfl,rfl⟩:=e
           intro a w ha hm
           have hnw:¬(AP ⟨some d0,op,ty,pos,af,some (i,want)⟩ (yielded all.toArray a.tmps)=true):=by
             rcases h3 with h3|h3
             . simp[AP,As_ ha h3]
             . simp[AP,Ba_ ha h3]
           rw[if_neg hnw]
           exact⟨_,H,lupd L j none,ha.put xU undef,hm.clear j,kk ⟨0,0,0⟩ none undef I4_ Y⟩
 . cases e
end
end Go.CE
namespace Go.CE
open Go.SW
noncomputable section
variable{P:Program}{n:Nat}{N:SW.Rest}{H:Hp}{f:Fe}{h h0:He}{nx n0 base:Nat}{G:Gt}{X:Xt}{R:Type}{all:List Oper}{I:It}{D:Ds}{f0:Ft}
mutual
def cvB:CV->CV->Bool
 | .int k z, .int k' z'=>decide (k=k') && decide (z=z')
 | .bool b, .bool b'=>b==b'
 | .str n x, .str m y=>A3 n m&&A3 x y
 | .agg a, .agg b=>cvsB a b
 | .tup a, .tup b=>cvsB a b
 | .ptr i o, .ptr j p=>A3 i j&&A3 o p
 | .gp i o, .gp j p=>A3 i j&&A3 o p
 | .nilp, .nilp=>true
 | .sl i o l c, .sl j p m d=>A3 i j&&(A3 o p&&(A3 l m&&A3 c d))
 | .slu i o l c, .slu j p m d=>A3 i j&&(A3 o p&&(A3 l m&&A3 c d))
 | .nils, .nils=>true
 | .fn f a b, .fn g c d=>A3 f g&&(cvsB a c&&cvsB b d)
 | .nilf, .nilf=>true
 | .mp i, .mp j=>A3 i j
 | .nilm, .nilm=>true
 | .nili, .nili=>true
 |_,_=>false
def cvsB:List CV->List CV->Bool
 |[],[]=>true
 |a::r,b::s=>cvB a b&&cvsB r s
 |_,_=>false
end
mutual
theorem G8_:∀ {a b:CV},cvB a b=true->a=b
 | .int k z,b,e=>by cases b<;>simp only[cvB,A2,decide_eq_true_eq,reduceCtorEq] at e;rw[e.1,e.2]
 | .bool x,b,e=>by cases b<;>simp only[cvB,reduceCtorEq,beq_iff_eq] at e;rw[e]
 | .str n x,b,e=>by
   exact zC
 | .agg a,b,e=>by cases b<;>simp only[cvB,reduceCtorEq] at e;rw[Cz_ e]
 | .tup a,b,e=>by cases b<;>simp only[cvB,reduceCtorEq] at e;rw[Cz_ e]
 | .ptr i o,b,e=>by
   exact zC
 | .gp i o,b,e=>by
   exact zC
 | .nilp,b,e=>by cases b<;>simp only[cvB,reduceCtorEq] at e;rfl
 | .sl i o l c,b,e=>by
   exact zB
 | .slu i o l c,b,e=>by
   exact zB
 | .nils,b,e=>by cases b<;>simp only[cvB,reduceCtorEq] at e;rfl
 | .fn f x y,b,e=>by
   cases b<;>simp only[cvB,A2,reduceCtorEq] at e
   rw[A0 e.1,Cz_ e.2.1,Cz_ e.2.2]
 | .nilf,b,e=>by cases b<;>simp only[cvB,reduceCtorEq] at e;rfl
 | .mp i,b,e=>by cases b<;>simp only[cvB,reduceCtorEq] at e;rw[A0 e]
 | .nilm,b,e=>by cases b<;>simp only[cvB,reduceCtorEq] at e;rfl
 | .ifc _ _,b,e=>by cases b<;>simp only[cvB,reduceCtorEq] at e
 | .nili,b,e=>by cases b<;>simp only[cvB,reduceCtorEq] at e;rfl
theorem Cz_:∀ {a b:List CV},cvsB a b=true->a=b
 |[],b,e=>by cases b<;>simp only[cvsB,reduceCtorEq] at e;rfl
 |x::r,b,e=>by
   cases b with
   |nil=>simp only[cvsB,reduceCtorEq] at e
   |cons y s=>simp only[cvsB,A2] at e;rw[G8_ e.1,Cz_ e.2]
end
def chkV(P:Program)(G:Gt)(n:Nat)(all:List Oper)(f:Fe)(o:Oper)(b:Nat)(h0:He):List (Nat×He)->Option CV
 |[]=>opQV P G n all f h0 o
 |(w,h)::r=>match opQV P G n all f h o with
   | some c=>bif tb b w then some c else (match chkV P G n all f o b h0 r with
     |some d=>bif cvB c d then some c else none
     |none=>none)
   |none=>none
def valV(P:Program)(G:Gt)(n:Nat)(all:List Oper)(f:Fe)(o:Oper)(b:Nat)(h0:He)(vs:List (Nat×He)):Option CV:=bif Mq_ o.op then chkV P G n all f o b h0 vs else opQV P G n all f h0 o
def mskE(D:Ds)(i b:Nat)(f:Ft):Fe:=λt=>match D.get t with
 |none=>f.get t
 |some (j,bj)=>bif A3 j i||(tb b j||tb bj i) then f.get t else none
def segE(P:Program)(G:Gt)(X:Xt)(cl:Cl R)(n base:Nat)(all:List Oper)(I:It)(D:Ds)(h0:He):List Nat->Ft->He->Nat->List (Nat×He)->Nat->Kf R->Option R
 |[],f,h,nx,_,pb,k=>bif subB (CZ (B3 2 all.length) 1) pb then k f h nx else none
 |i::r,f,h,nx,vs,pb,k=>match I.get i with
   | some (o,b)=>bif tb pb i then none else bif subB b pb then (match okO P o.op with
     | .v=>match valV P G n all (mskE D i b f) o b h0 vs with
       |some c=>setD f o.dst c λf=>segE P G X cl n base all I D h0 r f h nx vs (D7 pb (B3 2 i)) k
       |none=>none
     | .a=>match opAV P n all (mskE D i b f) (base+i) o with
       |some (c,hb)=>Tr.setK 40 h (base+i) hb λh=>setD f o.dst c λf=>segE P G X cl n base all I D h0 r f h nx vs (D7 pb (B3 2 i)) k
       |none=>none
     | .w=>bif subB pb b then opV P G X cl n all (mskE D i b f) h nx o λc h nx=>setD f o.dst c λf=>segE P G X cl n base all I D h0 r f h nx ((i,h)::vs) (D7 pb (B3 2 i)) k else none) else none
   |none=>none
structure Rec where
 i:Nat
 o:Oper
 b:Nat
 c:CV
 h:He
 nx:Nat
 hb:HB
def hcur(h0:He):List Rec->He
 |[]=>h0
 |q::_=>q.h
def ncur(n0:Nat):List Rec->Nat
 |[]=>n0
 |q::_=>q.nx
def vOf(P:Program):List Rec->List (Nat×He)
 |[]=>[]
 |q::r=>match okO P q.o.op with
   | .w=>(q.i,q.h)::vOf P r
   |_=>vOf P r
def Ei_(P:Program)(n:Nat)(N:SW.Rest)(H:Hp)(all:List Oper)(h0:He)(fe:Fe)(o:Oper)(b:Nat)(c:CV):List Rec->Prop
 |[]=>OpQ P n N H all fe h0 o c
 |q::r=>match okO P q.o.op with
   | .w=>OpQ P n N H all fe q.h o c/\(tb b q.i=true\/Ei_ P n N H all h0 fe o b c r)
   |_=>Ei_ P n N H all h0 fe o b c r
theorem Gc_{o:Oper}{b:Nat}(hG:GH G H):∀ {pre:List Rec} {c:CV},chkV P G n all f o b h0 (vOf P pre)=some c->Ei_ P n N H all h0 f o b c pre
 |[],c,e=>E1_ hG e
 |q::r,c,e=>by
   unfold vOf at e
   unfold Ei_
   split at e
   . rename_i ho
     simp only[chkV] at e
     split at e
     . rename_i c0 hc
       cases hb:tb b q.i with
       |true=>
         rw[hb] at e;simp only[cond_true,Option.some.injEq] at e;subst e
         exact⟨E1_ hG hc, .inl Y⟩
       |false=>
         rw[hb] at e;simp only[cond_false] at e
         split at e
         . rename_i d hd
           cases hcd:cvB c0 d with
           |false=>rw[hcd] at e;cases e
           |true=>
             rw[hcd] at e;simp only[cond_true,Option.some.injEq] at e;subst e
             have :=G8_ hcd;subst this
             exact⟨E1_ hG hc, .inr (Gc_ hG hd)⟩
         . cases e
     . cases e
   . rename_i ho
     cases hk:okO P q.o.op with
     |w=>exact absurd hk ho
     |v=>exact Gc_ hG e
     |a=>exact Gc_ hG e
theorem Gx_{o:Oper}{b:Nat}(hG:GH G H){c:CV}(hl:Mq_ o.op=false)(e:opQV P G n all f h0 o=some c):∀ {pre:List Rec},Ei_ P n N H all h0 f o b c pre
 |[]=>E1_ hG e
 |q::r=>by
   unfold Ei_
   cases hk:okO P q.o.op with
   |w=>exact⟨E1_ hG ((Nb_ (h:=q.h) h0 hl).trans e), .inr (Gx_ hG hl e)⟩
   |v=>exact Gx_ hG hl e
   |a=>exact Gx_ hG hl e
theorem valV_ok{o:Oper}{b:Nat}(hG:GH G H){pre:List Rec}{c:CV}(e:valV P G n all f o b h0 (vOf P pre)=some c):Ei_ P n N H all h0 f o b c pre:=by
 unfold valV at e
 cases hl:Mq_ o.op with
 |true=>rw[hl] at e;exact Gc_ hG e
 |false=>rw[hl] at e;exact Gx_ hG hl e
def Fok(all:List Oper)(I:It)(f0:Ft)(pre:List Rec)(i b:Nat)(fe:Fe):Prop:=
 ∀ t c,fe t=some c->(∃ q∈pre,q.o.dst=some t/\q.c=c/\tb b q.i=true)\/(f0.get t=some c/\∀ j o bj,I.get j=some (o,bj)->o.dst=some t->j=i\/tb bj i=true)
def Kind(P:Program)(n:Nat)(N:SW.Rest)(H:Hp)(all:List Oper)(base n0:Nat)(h0:He)(pre:List Rec)(x:Rec)(fe:Fe):Prop:=match okO P x.o.op with
 | .v=>x.h=hcur h0 pre/\x.nx=ncur n0 pre/\Ei_ P n N H all h0 fe x.o x.b x.c pre
 | .a=>x.nx=ncur n0 pre/\AOk P n N H all fe (base+x.i) x.o x.c x.hb/\x.h.get (base+x.i)=some x.hb/\∀ j,j≠base+x.i->x.h.get j=(hcur h0 pre).get j
 | .w=>(∀ q∈pre,tb x.b q.i=true)/\OpA P n N H all fe (hcur h0 pre) (ncur n0 pre) x.o x.c x.h x.nx
structure Loc(P:Program)(n:Nat)(N:SW.Rest)(H:Hp)(all:List Oper)(I:It)(f0:Ft)(base n0:Nat)(h0:He)(pre:List Rec)(x:Rec):Prop where
 g:I.get x.i=some (x.o,x.b)
 u:∀ q∈pre,q.i≠x.i
 s:∀ j,tb x.b j=true->∃ q∈pre,q.i=j
 k:∃ fe,Fok all I f0 pre x.i x.b fe/\Kind P n N H all base n0 h0 pre x fe
def Good(P:Program)(n:Nat)(N:SW.Rest)(H:Hp)(all:List Oper)(I:It)(f0:Ft)(base n0:Nat)(h0:He):List Rec->Prop
 |[]=>True
 |x::pre=>Good P n N H all I f0 base n0 h0 pre/\Loc P n N H all I f0 base n0 h0 pre x
theorem Dn_{full:List Rec}(hg:Good P n N H all I f0 base n0 h0 full){x:Rec}(hx:x∈full):∃ pre,(x::pre) <:+ full/\Loc P n N H all I f0 base n0 h0 pre x:=by
 induction full with
 |nil=>cases hx
 |cons y r ih=>
   rcases List.mem_cons.1 hx with rfl|hx
   . exact⟨r,DW _,hg.2⟩
   . obtain⟨pre,h1,h2⟩:=ih hg.1 hx
     exact⟨pre,h1.trans (C1 _ _),h2⟩
theorem Gm_{full:List Rec}(hg:Good P n N H all I f0 base n0 h0 full){x:Rec}{pre:List Rec}(hx:(x::pre) <:+ full):Loc P n N H all I f0 base n0 h0 pre x:=by
 obtain⟨s,rfl⟩:=hx
 induction s with
 |nil=>exact hg.2
 |cons y s ih=>exact ih hg.1
theorem Bm_{full:List Rec}(hg:Good P n N H all I f0 base n0 h0 full){x y:Rec}(hx:x∈full)(hy:y∈full)(e:x.i=y.i):x=y:=by
 induction full with
 |nil=>cases hx
 |cons z r ih=>
   rcases List.mem_cons.1 hx with h1|h1<;>rcases List.mem_cons.1 hy with h2|h2
   . rw[h1,h2]
   . subst h1;exact absurd e.symm (hg.2.u y h2)
   . subst h2;exact absurd e (hg.2.u x h1)
   . exact ih hg.1 h1 h2
structure SR(P:Program)(f0:Ft)(pre:List Rec)(f:Ft)(vs:List (Nat×He))(pb:Nat):Prop where
 f:∀ t c,f.get t=some c->(∃ q∈pre,q.o.dst=some t/\q.c=c)\/(f0.get t=some c/\∀ q∈pre,q.o.dst≠some t)
 vs:vs=vOf P pre
 pb:∀ j,tb pb j=true↔∃ q∈pre,q.i=j
theorem SR.put{pre:List Rec}{f f':Ft}{vs vs':List (Nat×He)}{pb:Nat}(hs:SR P f0 pre f vs pb){x:Rec}(h1:SetD f x.o.dst x.c f')(h2:vs'=vOf P (x::pre)):SR P f0 (x::pre) f' vs' (Nat.lor pb (Nat.pow 2 x.i)):=by
 refine⟨λt c e=>?_,h2,λj=>?_⟩
 . cases hd:x.o.dst with
   |none=>
     rw[hd] at h1;simp only[SetD] at h1;subst h1
     rcases hs.f t c e with ⟨q,q1,q2⟩|⟨q1,q2⟩
     . exact .inl ⟨q,AB _ q1,q2⟩
     . exact .inr ⟨q1,λq hq=>by rcases List.mem_cons.1 hq with rfl|hq;(rw[hd];simp);exact q2 q hq⟩
   |some d=>
     rw[hd] at h1;simp only[SetD] at h1
     by_cases q:t=d
     . subst q;rw[h1.1] at e;cases e;exact .inl ⟨x,AK,hd,rfl⟩
     . rw[h1.2 t q] at e
       rcases hs.f t c e with ⟨q,q1,q2⟩|⟨q1,q2⟩
       . exact .inl ⟨q,AB _ q1,q2⟩
       . exact .inr ⟨q1,λy hy=>by rcases List.mem_cons.1 hy with rfl|hy;(rw[hd];simp;exact λz=>q z.symm);exact q2 y hy⟩
 rw[Ky_,N9_];simp only[CT,decide_eq_true_eq,List.mem_cons];constructor;rintro (z|z);obtain⟨q,q1,q2⟩:=(hs.pb j).1 z;exact⟨q, .inr q1,q2⟩;exact⟨x, .inl Y,z⟩;rintro⟨q,rfl|q1,q2⟩;exact .inr q2;exact .inl ((hs.pb j).2 ⟨q,q1,q2⟩)
theorem msk_ok(hp:PI all I D all.length){pre:List Rec}(hg:Good P n N H all I f0 base n0 h0 pre){ft:Ft}{vs:List (Nat×He)}{pb i b:Nat}(hs:SR P f0 pre ft vs pb)(hb:subB b pb=true)(hi:tb pb i=false):Fok all I f0 pre i b (mskE D i b ft):=by
 have hu:∀ q∈pre,I.get q.i=some (q.o,q.b):=λq hq=>(Dn_ hg hq).elim λ_ z=>z.2.g;have hD:∀ j o bj t,I.get j=some (o,bj)->o.dst=some t->D.get t=some (j,bj):=λj o bj t e hd=>by
   obtain⟨a1,a2,_⟩:=hp.a j o bj e
   obtain⟨b',b1,b2⟩:=hp.c j o t a1 a2 hd
   rw[e] at b2;simp only[Option.some.injEq,Prod.mk.injEq] at b2;rw[b2.2];exact b1
 intro t c e;unfold mskE at e
 split at e
 . rename_i hDn
   rcases hs.f t c e with ⟨q,q1,q2,_⟩|⟨q1,q2⟩
   . rw[hD _ _ _ _ (hu q q1) q2] at hDn;cases hDn
   exact .inr ⟨q1,λj o bj hj hd=>by rw[hD _ _ _ _ hj hd] at hDn;cases hDn⟩
 . rename_i j bj hDj
   cases hc:(A3 j i||(tb b j||tb bj i)) with
   |false=>rw[hc] at e;cases e
   |true=>
     rw[hc] at e
     simp only[cond_true] at e
     simp only[CT] at hc
     rcases hs.f t c e with ⟨q,q1,q2,q3⟩|⟨q1,q2⟩
     . have :=hD _ _ _ _ (hu q q1) q2
       rw[hDj] at this;simp only[Option.some.injEq,Prod.mk.injEq] at this
       obtain⟨z1,z2⟩:=this
       have hne:tb pb j=true:=(hs.pb j).2 ⟨q,q1,z1.symm⟩
       rcases hc with hc|hc|hc
       . rw[A0 hc] at hne;rw[hne] at hi;cases hi
       . exact .inl ⟨q,q1,q2,q3,z1 ▸ hc⟩
       . obtain⟨pre',p1,p2⟩:=Dn_ hg q1
         obtain⟨y,y1,y2⟩:=p2.s i (z2 ▸ hc)
         have :tb pb i=true:=(hs.pb i).2 ⟨y,p1.subset (AB _ y1),y2⟩
         rw[this] at hi;cases hi
     . refine .inr ⟨q1,λj' o' bj' hj' hd'=>?_⟩
       have :=hD _ _ _ _ hj' hd'
       rw[hDj] at this;simp only[Option.some.injEq,Prod.mk.injEq] at this
       obtain⟨rfl,rfl⟩:=this
       rcases hc with hc|hc|hc
       . exact .inl (A0 hc)
       . obtain⟨y,y1,y2⟩:=(hs.pb j).1 (G3_ hb hc)
         exact absurd ((by
           have :=hu y y1
           rw[y2,hj'] at this;simp only[Option.some.injEq,Prod.mk.injEq] at this
           rw[<- this.1];exact hd'):y.o.dst=some t) (q2 y y1)
       . exact .inr hc
theorem vOf_v{x:Rec}{pre:List Rec}(e:okO P x.o.op ≠ .w):vOf P (x::pre)=vOf P pre:=by
 conv=>lhs;unfold vOf
 split
 . rename_i h;exact absurd h e
 rfl
theorem vOf_w{x:Rec}{pre:List Rec}(e:okO P x.o.op = .w):vOf P (x::pre)=(x.i,x.h)::vOf P pre:=by
 conv=>lhs;unfold vOf
 rw[e]
theorem J7_{cl:Cl R}(hG:GH G H)(hX:XOk P X)(hcl:ClOk P N H cl)(hp:PI all I D all.length):∀ {pl:List Nat} {pre:List Rec} {ft:Ft} {vs:List (Nat×He)} {pb:Nat} {k:Kf R} {r:R},
   Good P n N H all I f0 base n0 h0 pre->SR P f0 pre ft vs pb->segE P G X cl n base all I D h0 pl ft (hcur h0 pre) (ncur n0 pre) vs pb k=some r ->
   ∃ full f' vs' pb',k f' (hcur h0 full) (ncur n0 full)=some r/\Good P n N H all I f0 base n0 h0 full/\SR P f0 full f' vs' pb'/\∀ j,j<all.length->∃ q∈full,q.i=j
 |[],pre,ft,vs,pb,k,r,hg,hs,e=>by
   simp only[segE] at e
   cases hb:subB (CZ (B3 2 all.length) 1) pb with
   |false=>rw[hb] at e;cases e
   |true=>
     rw[hb] at e
     refine⟨pre,ft,vs,pb,e,hg,hs,λj hj=>(hs.pb j).1 (G3_ hb ?_)⟩
     rw[N8_]
     have :=Nat.testBit_two_pow_sub_one all.length j
     rw[show CZ (B3 2 all.length) 1=2 ^ all.length-1 from rfl,this]
     simpa using hj
 |i::rest,pre,ft,vs,pb,k,r,hg,hs,e=>by
   simp only[segE] at e
   split at e
   . rename_i o b hI
     cases h1:tb pb i with
     |true=>rw[h1] at e;cases e
     |false=>
       rw[h1] at e
       simp only[cond_false] at e
       cases h2:subB b pb with
       |false=>rw[h2] at e;cases e
       |true=>
         rw[h2] at e
         simp only[cond_true] at e
         have hfe:=msk_ok hp hg hs h2 h1
         have hun:∀ q∈pre,q.i≠i:=λq hq z=>by
           have :=(hs.pb i).2 ⟨q,hq,z⟩;rw[h1] at this;cases this
         have hsu:∀ j,tb b j=true->∃ q∈pre,q.i=j:=λj hj=>(hs.pb j).1 (G3_ h2 hj)
         split at e
         . rename_i hk
           split at e
           . rename_i c hc
             obtain⟨f1,e1,e2⟩:=G0_ e
             rw[hs.vs] at hc
             have hv:=valV_ok (N:=N) hG hc
             refine J7_ (pre:=⟨i,o,b,c,hcur h0 pre,ncur n0 pre, .dead⟩::pre) hG hX hcl hp ⟨hg,⟨hI,hun,hsu,_,hfe,?_⟩⟩ (hs.put (x:=⟨i,o,b,c,hcur h0 pre,ncur n0 pre, .dead⟩) e2 wV) e1
             unfold Kind;simp only[hk];exact⟨trivial,trivial,hv⟩
           . cases e
         . rename_i hk
           split at e
           . rename_i c hb hc
             obtain⟨h',e1,e2,e3⟩:=Tr.setK_ok _ _ _ _ _ _ e
             obtain⟨f1,e4,e5⟩:=G0_ e1
             have ha:AOk P n N H all (mskE D i b ft) (base+i) o c hb:=opA_ok hc
             refine J7_ (pre:=⟨i,o,b,c,h',ncur n0 pre,hb⟩::pre) hG hX hcl hp ⟨hg,⟨hI,hun,hsu,_,hfe,?_⟩⟩ (hs.put (x:=⟨i,o,b,c,h',ncur n0 pre,hb⟩) e5 wV) e4
             unfold Kind;simp only[hk];exact⟨trivial,ha,e2,e3⟩
           . cases e
         . rename_i hk
           cases h3:subB pb b with
           |false=>rw[h3] at e;cases e
           |true=>
             rw[h3] at e
             simp only[cond_true] at e
             obtain⟨c,h',nx',e1,e2⟩:=Rc_ (n:=n) hG hX hcl e
             obtain⟨f1,e4,e5⟩:=G0_ e1
             refine J7_ (pre:=⟨i,o,b,c,h',nx', .dead⟩::pre) hG hX hcl hp ⟨hg,⟨hI,hun,hsu,_,hfe,?_⟩⟩ (hs.put (x:=⟨i,o,b,c,h',nx', .dead⟩) e5 (by rw[vOf_w hk,hs.vs])) e4
             unfold Kind;simp only[hk];exact⟨λq hq=>G3_ h3 ((hs.pb _).2 ⟨q,hq,rfl⟩),e2⟩
   . cases e
end
end Go.CE
namespace Go.CE
open Go.SW
noncomputable section
variable{P:Program}{n:Nat}{N:SW.Rest}{H:Hp}{f:Fe}{h h0:He}{nx n0 base:Nat}{G:Gt}{X:Xt}{R:Type}{all:List Oper}{I:It}{D:Ds}{f0:Ft}
structure MI(P:Program)(all:List Oper)(I:It)(f0:Ft)(base n0:Nat)(h0:He)(full:List Rec)(β0:Be)(L0:Ls)(listed:Array Bool)(β:Be)(L:Ls)(F:Fr)(vp:List Rec):Prop where
 sz:listed.size=all.length
 cl:∀ i o b,I.get i=some (o,b)->listed.getD i false=true->∀ j,tb b j=true->listed.getD j false=true
 vs:vp <:+ full
 vh:∀ q r,vp=q::r->okO P q.o.op = .w
 vl:∀ q∈vp,listed.getD q.i false=true
 vn:∀ q∈full,okO P q.o.op = .w->listed.getD q.i false=true->q∈vp
 hr:HR β (hcur h0 vp) (ncur n0 vp) L
 nb:base+all.length<=ncur n0 vp
 ex:∀ q∈full,q∉vp->okO P q.o.op = .a->(hcur h0 vp).get (base+q.i)=none/\(listed.getD q.i false=true->BR β (base+q.i) q.hb (L (base+q.i)))/\(listed.getD q.i false=false->β (base+q.i)=none/\L (base+q.i)=none)
 fr:∀ t c,f0.get t=some c->(∀ q∈full,listed.getD q.i false=true->q.o.dst≠some t)->VR β c (F t)
 fd:∀ q∈full,listed.getD q.i false=true->∀ t,q.o.dst=some t->VR β q.c (F t)
 le:β0.le β
 ou:∀ i,i<base->h0.get i=none->L i=L0 i/\β i=β0 i/\(hcur h0 vp).get i=none
theorem P3_{α:Type}{x:α}{a b full:List α}(h1:a <:+ full)(h2:(x::b) <:+ full)(hx:x∉a):a <:+ b:=by
 rcases List.suffix_or_suffix_of_suffix h1 h2 with h|h
 . rcases List.suffix_cons_iff.1 h with h|h
   subst h;exact absurd AK hx
   exact h
 exact absurd (h.subset AK) hx
theorem HR.see{β:Be}{L:Ls}{h':He}{j:Nat}{hb:HB}(hr:HR β h nx L)(hj:j<nx)(h1:h'.get j=some hb)(h2:∀ i,i≠j->h'.get i=h.get i)(hB:BR β j hb (L j)):HR β h' nx L:=by
 refine⟨λi b e=>?_,λi b e=>?_,hr.fr⟩;by_cases q:i=j
 . subst q;rw[h1] at e;cases e;exact hB
 rw[h2 i q] at e;exact hr.br i b e;by_cases q:i=j;subst q;exact hj;rw[h2 i q] at e;exact hr.lt i b e
theorem HR.hid{β:Be}{L:Ls}{j:Nat}{q:Pl}{x:Option (Nat×Obj)}(hr:HR β h nx L)(hj:j<nx)(h0:h.get j=none)(hb:β j=none):HR (bset β j q) h nx (lupd L j x):=by
 refine⟨λi b e=>?_,hr.lt,λi hi=>?_⟩;have :i≠j:=λz=>by subst z;rw[h0] at e;cases e
 rw[D_ _ _ _ _ this];exact (hr.br i b e).mono (Ay_ hb);have :i≠j:=by omega
 rw[D_ _ _ _ _ this];refine⟨?_,(hr.fr i hi).2⟩;unfold bset;rw[if_neg this];exact (hr.fr i hi).1
theorem hr_up(hp:PI all I D all.length){full:List Rec}(hg:Good P n N H all I f0 base n0 h0 full){β:Be}{L:Ls}{vp:List Rec}(hr:HR β (hcur h0 vp) (ncur n0 vp) L)(hn:base+all.length<=ncur n0 vp)
   :∀ (mid:List Rec),(mid++vp) <:+ full->(∀ q∈mid,q∉vp/\okO P q.o.op ≠ .w/\(okO P q.o.op = .a->BR β (base+q.i) q.hb (L (base+q.i)))) ->
   HR β (hcur h0 (mid++vp)) (ncur n0 (mid++vp)) L/\ncur n0 (mid++vp)=ncur n0 vp/\∀ j,(∀ q∈mid,okO P q.o.op = .a->base+q.i≠j)->(hcur h0 (mid++vp)).get j=(hcur h0 vp).get j
 |[],_,_=>⟨hr,rfl,λ_ _=>rfl⟩
 |x::mid,hs,hm=>by
   have hs':(mid++vp) <:+ full:=(C1 _ _).trans hs
   obtain⟨a1,a2,a3⟩:=hr_up hp hg hr hn mid hs' λq hq=>hm q (AB _ hq)
   obtain⟨_,m2,m3⟩:=hm x AK
   have hloc:=Gm_ hg (show (x::(mid++vp)) <:+ full from hs)
   obtain⟨fe,_,hk⟩:=hloc.k
   unfold Kind at hk
   cases hok:okO P x.o.op with
   |w=>exact absurd hok m2
   |v=>
     rw[hok] at hk
     obtain⟨k1,k2,_⟩:=hk
     simp only[C6,hcur,ncur]
     rw[k1,k2]
     exact⟨a1,a2,λj hj=>a3 j λq hq=>hj q (AB _ hq)⟩
   |a=>
     rw[hok] at hk
     obtain⟨k1,k2,k3,k4⟩:=hk
     have hlt:=(hp.a _ _ _ hloc.g).1
     simp only[C6,hcur,ncur]
     rw[k1]
     refine⟨a1.see (by rw[a2];omega) k3 k4 (m3 hok),a2,λj hj=>?_⟩
     rw[k4 j λz=>hj x AK hok z.symm]
     exact a3 j λq hq=>hj q (AB _ hq)
theorem Kb_{fe:Fe}{o:Oper}{b:Nat}{c:CV}{vp:List Rec}(hh:∀ q r,vp=q::r->okO P q.o.op = .w):∀ (mid:List Rec),(∀ q∈mid,okO P q.o.op = .w->tb b q.i=false)->Ei_ P n N H all h0 fe o b c (mid++vp)->OpQ P n N H all fe (hcur h0 vp) o c
 |[],_,h=>by
   cases vp with
   |nil=>exact h
   |cons q r=>simp only[List.nil_append] at h;unfold Ei_ at h;rw[hh q r rfl] at h;exact h.1
 |x::mid,hm,h=>by
   simp only[C6] at h
   unfold Ei_ at h
   cases hok:okO P x.o.op with
   |w=>
     rw[hok] at h
     rcases h.2 with z|z
     . rw[hm x AK hok] at z;cases z
     . exact Kb_ hh mid (λq hq=>hm q (AB _ hq)) z
   |v=>rw[hok] at h;exact Kb_ hh mid (λq hq=>hm q (AB _ hq)) h
   |a=>rw[hok] at h;exact Kb_ hh mid (λq hq=>hm q (AB _ hq)) h
theorem lset{listed:Array Bool}{i j:Nat}(hi:i<listed.size):(listed.setIfInBounds i true).getD j false=(decide (j=i)||listed.getD j false):=by
 simp only[A7,Array.getElem?_setIfInBounds];by_cases e:i=j;subst e;simp[hi];simp[e,Ne.symm e]
theorem Ms_{full:List Rec}(hg:Good P n N H all I f0 base n0 h0 full){vp:List Rec}{mid:List Rec}(hs:(mid++vp) <:+ full):∀ q∈mid,∀ y∈vp,y.i≠q.i:=by
 induction mid with
 |nil=>intro q hq;cases hq
 |cons x mid ih=>
   intro q hq y hy
   rcases List.mem_cons.1 hq with hq|hq
   . subst hq;exact (Gm_ hg (show (q::(mid++vp)) <:+ full from hs)).u y (CS _ hy)
   . exact ih ((C1 _ _).trans hs) q hq y hy
theorem frames(hp:PI all I D all.length){full:List Rec}(hg:Good P n N H all I f0 base n0 h0 full){β0:Be}{L0:Ls}{listed:Array Bool}{β β':Be}{L:Ls}{F:Fr}{vp:List Rec}(hm:MI P all I f0 base n0 h0 full β0 L0 listed β L F vp){x:Rec}(hx:x∈full)(hxl:listed.getD x.i false=false)(hl:β.le β'){v:Value}(hv:VR β' x.c v) :
   (∀ t c,f0.get t=some c->(∀ q∈full,(listed.setIfInBounds x.i true).getD q.i false=true->q.o.dst≠some t)->VR β' c (putO F x.o.dst v t))/\∀ q∈full,(listed.setIfInBounds x.i true).getD q.i false=true->∀ t,q.o.dst=some t->VR β' q.c (putO F x.o.dst v t):=by
 have hI:∀ q∈full,I.get q.i=some (q.o,q.b):=λq hq=>(Dn_ hg hq).elim λ_ z=>z.2.g;have hlt:x.i<listed.size:=by rw[hm.sz];exact (hp.a _ _ _ (hI x hx)).1
 have hput:∀ t,x.o.dst≠some t->putO F x.o.dst v t=F t:=λt ht=>by
   cases hd:x.o.dst with
   |none=>rfl
   |some d=>simp only[putO];exact F6_ _ _ _ _ λz=>ht (by rw[hd,z])
 refine⟨λt c e ha=>?_,λq hq hql t ht=>?_⟩;have h1:x.o.dst≠some t:=ha x hx (by rw[lset hlt];simp);rw[hput t h1];exact (hm.fr t c e λq hq hql=>ha q hq (by rw[lset hlt,hql];simp)).mono hl;by_cases e:q.i=x.i;have :=Bm_ hg hq hx e;subst this;rw[ht];simp only[putO,Dg_];exact hv;rw[lset hlt] at hql;simp only[e,decide_false,BK] at hql;have :x.o.dst≠some t:=λz=>by
   obtain⟨_,a2,_⟩:=hp.a _ _ _ (hI q hq)
   obtain⟨_,b2,_⟩:=hp.a _ _ _ (hI x hx)
   obtain⟨_,c1,_⟩:=hp.c _ _ t (hp.a _ _ _ (hI q hq)).1 a2 ht
   obtain⟨_,d1,_⟩:=hp.c _ _ t (hp.a _ _ _ (hI x hx)).1 b2 z
   rw[c1] at d1;simp only[Option.some.injEq,Prod.mk.injEq] at d1
   exact e d1.1
 rw[hput t this];exact (hm.fd q hq hql t ht).mono hl
theorem mi_step(hp:PI all I D all.length){full:List Rec}(hg:Good P n N H all I f0 base n0 h0 full){β0:Be}{L0:Ls}{listed:Array Bool}{β:Be}{L:Ls}{F:Fr}{vp:List Rec}(hm:MI P all I f0 base n0 h0 full β0 L0 listed β L F vp){x:Rec}(hx:x∈full)(hxl:listed.getD x.i false=false)(hxb:∀ j,tb x.b j=true->listed.getD j false=true) :
   Op1 P n N all x.o (λF' H' L'=>H'=H/\∃ β' vp',MI P all I f0 base n0 h0 full β0 L0 (listed.setIfInBounds x.i true) β' L' F' vp') F H L:=by
 have hI:∀ q∈full,I.get q.i=some (q.o,q.b):=λq hq=>(Dn_ hg hq).elim λ_ z=>z.2.g;have hxm:x.i<all.length:=(hp.a _ _ _ (hI x hx)).1;have hlt:x.i<listed.size:=by rw[hm.sz];exact hxm
 obtain⟨pre,hs,hloc⟩:=Dn_ hg hx;have hxv:x∉vp:=λz=>by rw[hm.vl x z] at hxl;cases hxl
 have hvp:vp <:+ pre:=P3_ hm.vs hs hxv;have hpre:pre <:+ full:=(C1 _ _).trans hs;have hmo:∀ j,listed.getD j false=true->(listed.setIfInBounds x.i true).getD j false=true:=λj e=>by rw[lset hlt,e];simp
 have hsz:(listed.setIfInBounds x.i true).size=all.length:=by rw[Array.size_setIfInBounds];exact hm.sz
 have hcl:∀ i o b,I.get i=some (o,b)->(listed.setIfInBounds x.i true).getD i false=true->∀ j,tb b j=true->(listed.setIfInBounds x.i true).getD j false=true:=λi o b e h1 j hj=>by
   by_cases q:i=x.i
   . subst q
     rw[hI x hx] at e;simp only[Option.some.injEq,Prod.mk.injEq] at e
     exact hmo _ (hxb j (e.2 ▸ hj))
   . rw[lset hlt] at h1;simp only[q,decide_false,BK] at h1
     exact hmo _ (hm.cl i o b e h1 j hj)
 obtain⟨fe,hfo,hk⟩:=hloc.k;have hfr:FR β fe F:=λt c e=>by
   rcases hfo t c e with ⟨q,q1,q2,q3,q4⟩|⟨q1,q2⟩
   . rw[<- q3];exact hm.fd q (hpre.subset q1) (hxb _ q4) t q2
   . refine hm.fr t c q1 λq hq hql hd=>?_
     rcases q2 _ _ _ (hI q hq) hd with z|z
     . rw[z,hxl] at hql;cases hql
     . have :=hm.cl _ _ _ (hI q hq) hql _ z
       rw[this] at hxl;cases hxl
 unfold Kind at hk
 cases hok:okO P x.o.op with
 |v=>
   rw[hok] at hk
   obtain⟨_,_,hv⟩:=hk
   obtain⟨mid,hmid⟩:=hvp
   rw[<- hmid] at hv
   have hq:OpQ P n N H all fe (hcur h0 vp) x.o x.c:=Kb_ hm.vh mid (λq hq hw=>by
     cases hb:tb x.b q.i with
     |false=>rfl
     |true=>
       have hqf:q∈full:=hpre.subset (hmid ▸ BD _ hq)
       have :=hm.vn q hqf hw (hxb _ hb)
       exact absurd Y (Ms_ hg (by rw[hmid];exact hpre) q hq q this)) hv
   refine hq hfr hm.hr _ λv hv=>⟨rfl,β,vp,?_⟩
   obtain⟨g1,g2⟩:=frames hp hg hm hx hxl (.refl β) hv
   refine⟨hsz,hcl,hm.vs,hm.vh,λq hq=>hmo _ (hm.vl q hq),λq hq hw hql=>?_,hm.hr,hm.nb,λq hq hqv ha=>?_,g1,g2,hm.le,hm.ou⟩
   . rw[lset hlt] at hql
     by_cases e:q.i=x.i
     . exact zN
     . exact yY
   . obtain⟨a1,a2,a3⟩:=hm.ex q hq hqv ha
     have e:q.i≠x.i:=λe=>by have :=Bm_ hg hq hx e;subst this;rw[hok] at ha;cases ha
     rw[lset hlt];simp only[e,decide_false,BK]
     exact⟨a1,a2,a3⟩
 |a=>
   rw[hok] at hk
   obtain⟨_,hA,_,_⟩:=hk
   obtain⟨a1,_,a3⟩:=hm.ex x hx hxv hok
   obtain⟨b1,b2⟩:=a3 hxl
   refine hA hfr b1 _ λq y v hv hB=>⟨rfl,bset β (base+x.i) q,vp,?_⟩
   obtain⟨g1,g2⟩:=frames hp hg hm hx hxl (Ay_ b1) hv
   have hnb:=hm.nb
   refine⟨hsz,hcl,hm.vs,hm.vh,λq hq=>hmo _ (hm.vl q hq),λq hq hw hql=>?_,hm.hr.hid xN a1 b1,hm.nb,λy hy hyv ha=>?_,g1,g2,hm.le.trans (Ay_ b1),λi hi e=>?_⟩
   . rw[lset hlt] at hql
     by_cases e:q.i=x.i
     . exact zN
     . exact yY
   . obtain⟨c1,c2,c3⟩:=hm.ex y hy hyv ha
     rw[lset hlt]
     by_cases e:y.i=x.i
     . have :=Bm_ hg hy hx e
       subst this
       refine⟨c1,λ_=>by rw[E_];exact hB,λz=>?_⟩
       simp at z
     . simp only[e,decide_false,BK]
       have e':base+y.i≠base+x.i:=by omega
       rw[D_ _ _ _ _ e']
       refine⟨c1,λz=>(c2 z).mono (Ay_ b1),λz=>⟨?_,(c3 z).2⟩⟩
       unfold bset;rw[if_neg e'];exact (c3 z).1
   . have e':i≠base+x.i:=by omega
     obtain⟨c1,c2,c3⟩:=hm.ou i hi e
     rw[D_ _ _ _ _ e']
     refine⟨c1,?_,c3⟩
     unfold bset;rw[if_neg e'];exact c2
 |w=>
   rw[hok] at hk
   obtain⟨hlate,hW⟩:=hk
   have hpl:∀ q∈pre,listed.getD q.i false=true:=λq hq=>hxb _ (hlate q hq)
   obtain⟨mid,hmid⟩:=hvp
   have hmf:(mid++vp) <:+ full:=by rw[hmid];exact hpre
   have hmn:=Ms_ hg hmf
   obtain⟨u1,u2,u3⟩:=hr_up hp hg hm.hr hm.nb mid hmf λq hq=>by
     have hqf:q∈full:=hmf.subset (BD _ hq)
     have hqv:q∉vp:=λz=>hmn q hq q z Y
     have hql:=hpl q (hmid ▸ BD _ hq)
     exact⟨hqv,λhw=>hqv (hm.vn q hqf hw hql),λha=>(hm.ex q hqf hqv ha).2.1 hql⟩
   rw[hmid] at u1 u2 u3
   have hnb:=hm.nb
   refine hW hfr u1 _ λβ' v L' hv hpo=>⟨rfl,β',x::pre,?_⟩
   obtain⟨g1,g2⟩:=frames hp hg hm hx hxl hpo.le hv
   refine⟨hsz,hcl,hs,λq r e=>?_,λq hq=>?_,λq hq hw hql=>?_,hpo.hr,?_,λq hq hqv ha=>?_,g1,g2,hm.le.trans hpo.le,λi hi e=>?_⟩
   . cases e;exact hok
   . rcases List.mem_cons.1 hq with rfl|hq
     . rw[lset hlt];simp
     . exact hmo _ (hpl q hq)
   . rw[lset hlt] at hql
     by_cases e:q.i=x.i
     . have :=Bm_ hg hq hx e;subst this;exact AK
     . simp only[e,decide_false,BK] at hql
       exact AB _ (hmid ▸ CS _ (hm.vn q hq hw hql))
   . have :=hpo.nle;show base+all.length<=x.nx;omega
   . have hqx:q.i≠x.i:=λe=>hqv (by have :=Bm_ hg hq hx e;subst this;exact AK)
     have hqp:q∉pre:=λz=>hqv (AB _ z)
     have hqvp:q∉vp:=λz=>hqp (hmid ▸ CS _ z)
     obtain⟨c1,c2,c3⟩:=hm.ex q hq hqvp ha
     have hqm:q.i<all.length:=(hp.a _ _ _ (hI q hq)).1
     have hget:(hcur h0 pre).get (base+q.i)=none:=by
       rw[u3 _ λy hy _ e=>?_]
       . exact c1
       . have hyf:y∈full:=hmf.subset (BD _ hy)
         have :=Bm_ hg hyf hq xN
         subst this
         exact hqp (hmid ▸ BD _ hy)
     obtain⟨d1,d2,d3⟩:=hpo.fr (base+q.i) xN hget
     rw[lset hlt];simp only[hqx,decide_false,BK]
     rw[d1,d2]
     exact⟨d3,λz=>(c2 z).mono hpo.le,c3⟩
   . obtain⟨c1,c2,c3⟩:=hm.ou i hi e
     have hget:(hcur h0 pre).get i=none:=by
       rw[u3 _ λy hy _ e=>by omega];exact c3
     obtain⟨d1,d2,d3⟩:=hpo.fr i xN hget
     exact⟨d1.trans c1,d2.trans c2,d3⟩
end
end Go.CE
namespace Go.CE
open Go.SW
noncomputable section
variable{P:Program}{n:Nat}{N:SW.Rest}{H:Hp}{f:Fe}{h h0:He}{nx n0 base:Nat}{G:Gt}{X:Xt}{R:Type}{all:List Oper}{I:It}{D:Ds}{f0:Ft}
def left(m:Nat)(listed:Array Bool):Nat:=((EF m).filter λj=>!listed.getD j false).length
theorem O9_{m i:Nat}{listed:Array Bool}(hi:i<m)(hs:listed.size=m)(hl:listed.getD i false=false):left m (listed.setIfInBounds i true)+1 = left m listed:=by
 have key:∀ (l:List Nat),l.Nodup->i∈l->(l.filter λj=>!(listed.setIfInBounds i true).getD j false).length+1=(l.filter λj=>!listed.getD j false).length:=by
   intro l hn hil
   induction l with
   |nil=>cases hil
   |cons a l ih=>
     rw[List.nodup_cons] at hn
     simp only[List.filter_cons,lset (show i<listed.size by omega)]
     by_cases e:a=i
     . subst e
       simp only[decide_true,Bool.true_or,Bool.not_true,Bool.false_eq_true,if_false,hl,GA,if_true,AE]
       congr 1
       have :∀ j∈l,(!((decide (j=a))||listed.getD j false))=(!listed.getD j false):=λj hj=>by
         have :j≠a:=λz=>hn.1 (z ▸ hj)
         simp[this]
       rw[List.filter_congr this]
     . have hil':i∈l:=by rcases List.mem_cons.1 hil with z|z;exact absurd z.symm e;exact z
       have :=ih hn.2 hil'
       simp only[lset (show i<listed.size by omega)] at this
       simp only[e,decide_false,BK]
       cases listed.getD a false
       . simp only[GA,if_true,AE];omega
       . exact xC
 exact key _ List.nodup_range (List.mem_range.2 hi)
theorem Oz_(hp:PI all I D all.length){full:List Rec}(hg:Good P n N H all I f0 base n0 h0 full)(hfu:∀ j,j<all.length->∃ q∈full,q.i=j){β0:Be}{L0:Ls}{ft:Ft}{vs:List (Nat×He)}{pb:Nat}(hsr:SR P f0 full ft vs pb){Q:Qt}
   (fin:∀ β F L,β0.le β->HR β (hcur h0 full) (ncur n0 full) L->FR β ft.get F->base<=ncur n0 full->(∀ i,i<base->h0.get i=none->L i=L0 i/\β i=β0 i/\(hcur h0 full).get i=none)->Q .normal F H L) :
   ∀ (fuel:Nat) (listed:Array Bool) (β:Be) (L:Ls) (F:Fr) (vp:List Rec),left all.length listed<=fuel->MI P all I f0 base n0 h0 full β0 L0 listed β L F vp->∀ a w,At n a F->Mem N H L w->wpAny P .any all.toArray (lift n N Q) fuel listed a w:=by
 have hI:∀ q∈full,I.get q.i=some (q.o,q.b):=λq hq=>(Dn_ hg hq).elim λ_ z=>z.2.g;have hend:∀ (listed:Array Bool) (β:Be) (L:Ls) (F:Fr) (vp:List Rec),MI P all I f0 base n0 h0 full β0 L0 listed β L F vp->(∀ q∈full,listed.getD q.i false=true)->Q .normal F H L:=by
   intro listed β L F vp hm hl
   obtain⟨mid,hmid⟩:=hm.vs
   have hmf:(mid++vp) <:+ full:=by rw[hmid];exact DW _
   have hmn:=Ms_ hg hmf
   obtain⟨u1,u2,u3⟩:=hr_up hp hg hm.hr hm.nb mid hmf λq hq=>by
     have hqf:q∈full:=hmf.subset (BD _ hq)
     have hqv:q∉vp:=λz=>hmn q hq q z Y
     exact⟨hqv,λhw=>hqv (hm.vn q hqf hw (hl q hqf)),λha=>(hm.ex q hqf hqv ha).2.1 (hl q hqf)⟩
   rw[hmid] at u1 u2 u3
   have hnb:=hm.nb
   refine fin β F L hm.le u1 (λt c e=>?_) xN λi hi e=>?_
   . rcases hsr.f t c e with ⟨q,q1,q2,q3⟩|⟨q1,q2⟩
     . rw[<- q3];exact hm.fd q q1 (hl q q1) t q2
     . exact hm.fr t c q1 λq hq _=>q2 q hq
   . obtain⟨c1,c2,c3⟩:=hm.ou i hi e
     exact⟨c1,c2,by rw[u3 _ λy hy _ e=>by omega];exact c3⟩
 have hready:∀ (listed:Array Bool) (β:Be) (L:Ls) (F:Fr) (vp:List Rec),MI P all I f0 base n0 h0 full β0 L0 listed β L F vp->BP .any all.toArray listed=[]->∀ q∈full,listed.getD q.i false=true:=by
   intro listed β L F vp hm hr
   have key:∀ (l:List Rec),l <:+ full->∀ q∈l,listed.getD q.i false=true:=by
     intro l
     induction l with
     |nil=>intro _ q hq;cases hq
     |cons x pre ih=>
       intro hs q hq
       have ihp:=ih ((C1 _ _).trans hs)
       rcases List.mem_cons.1 hq with rfl|hq
       . cases hxl:listed.getD q.i false with
         |true=>rfl
         |false=>
           exfalso
           have hloc:=Gm_ hg hs
           obtain⟨a1,a2,a3⟩:=hp.a _ _ _ hloc.g
           have :q.i∈BP .any all.toArray listed:=by
             rw[mem_ready]
             refine⟨?_,q.o,by simpa using a2,λe he hb=>?_⟩
             . have hsz:=hm.sz
               rw[A7,AU xN] at hxl ⊢
               exact hxl
             . obtain⟨y,y1,y2⟩:=hloc.s _ (a3.1 e (by simpa using he) hb)
               rw[<- y2];exact ihp y y1
           rw[hr] at this;cases this
       . exact ihp q hq
   exact key full (DW _)
 intro fuel
 induction fuel with
 |zero=>
   intro listed β L F vp hf hm a w ha hw
   have hall:∀ j,j<all.length->listed.getD j false=true:=λj hj=>by
     cases e:listed.getD j false with
     |true=>rfl
     |false=>
       have :left all.length listed=0:=Nat.le_zero.1 hf
       have :=List.length_eq_zero_iff.1 this
       have hmem:j∈(EF all.length).filter λj=>!listed.getD j false:=List.mem_filter.2 ⟨List.mem_range.2 hj,by rw[e];rfl⟩
       rw[this] at hmem;cases hmem
   have hr:BP .any all.toArray listed=[]:=by
     apply List.eq_nil_iff_forall_not_mem.2
     intro j hj
     obtain⟨h1,o,ho,_⟩:=mem_ready.1 hj
     have hj':j<all.length:=by
       have :=(Array.getElem?_eq_some_iff.1 ho).1
       exact xC
     have h2:=hall j hj'
     have hsz:=hm.sz
     rw[A7,AU xN] at h1 h2
     simp only[Option.getD_some] at h1 h2
     rw[h1] at h2;cases h2
   exact⟨hr,F,H,L,ha,hw,hend _ _ _ _ _ hm (hready _ _ _ _ _ hm hr)⟩
 |succ fuel ih=>
   intro listed β L F vp hf hm a w ha hw
   refine⟨λhr=>⟨F,H,L,ha,hw,hend _ _ _ _ _ hm (hready _ _ _ _ _ hm hr)⟩,λi hi=>?_⟩
   obtain⟨h1,o,ho,hall⟩:=mem_ready.1 hi
   have ho':all[i]? = some o:=by simpa using ho
   have hil:i<all.length:=(List.getElem?_eq_some_iff.1 ho').1
   obtain⟨x,hx,hxi⟩:=hfu i hil
   subst hxi
   have hsz:=hm.sz
   have hxl:listed.getD x.i false=false:=by
     rw[A7,AU xN] at h1 ⊢
     exact h1
   obtain⟨a1,a2,a3⟩:=hp.a _ _ _ (hI x hx)
   have hxo:x.o=o:=by rw[ho'] at a2;cases a2;rfl
   have hxb:∀ j,tb x.b j=true->listed.getD j false=true:=λj hj=>by
     obtain⟨e,e1,e2,e3⟩:=a3.2 j hj
     have hel:=hall e (by rw[<- hxo];simpa using e1) e2
     rcases e3 with rfl|⟨o',b',g1,g2⟩
     . exact hel
     . exact hm.cl _ _ _ g1 hel _ g2
   have hst:=mi_step hp hg hm hx hxl hxb a w ha hw
   have hle:left all.length (listed.setIfInBounds x.i true)<=fuel:=by
     have :=O9_ hil hm.sz hxl;omega
   unfold wpOp
   rw[ho]
   simp only
   rw[hxo] at hst
   split
   . rename_i hwt
     rw[if_pos hwt] at hst
     left
     refine Cs_ (λa' w' ⟨F',H',L',x1,x2,x3,β',vp',x4⟩=>?_) (λ_ _ _ z=>z.elim) hst
     subst x3
     exact ih _ β' L' F' vp' hle x4 a' w' x1 x2
   . rename_i hwt
     rw[if_neg hwt] at hst
     obtain⟨F',H',L',x1,x2,x3,β',vp',x4⟩:=hst
     subst x3
     exact ih _ β' L' F' vp' hle x4 _ w x1 x2
def Ox_(P:Program)(G:Gt)(X:Xt)(cl:Cl R)(n:Nat)(all:List Oper)(f:Ft)(h:He)(nx:Nat)(k:Kf R):Option R:=
 Nm_ P all 0 .e .e [] λI D ws m=>segE P G X cl n nx all I D h (planE I m ws (CZ (B3 2 m) 1) []) f h (nx+m) [] 0 k
theorem HR.up{β:Be}{L:Ls}{m:Nat}(hr:HR β h nx L)(hl:nx<=m):HR β h m L:=⟨hr.br,λi b e=>BV (hr.lt i b e) hl,λi hi=>hr.fr i (C7 hl hi)⟩
theorem Oy_{cl:Cl R}{k:Kf R}{r:R}{id:Nat}(hmx:P.follows .mixedOrders=true)(hG:GH G H)(hX:XOk P X)(hcl:ClOk P N H cl)(e:Ox_ P G X cl n all f0 h nx k=some r):∃ f' h' nx',k f' h' nx'=some r /\
   ∀ {β:Be} {L:Ls} {F:Fr},FR β f0.get F->HR β h nx L->∀ Q:Qt,(∀ β' F' L',FR β' f'.get F'->Post β h nx L β' h' nx' L'->Q .normal F' H L')->Cw P n N (.region id all.toArray true) Q F H L:=by
 unfold Ox_ at e;obtain⟨I,D,ws,e1,hp⟩:=Gt_ (all:=all) (rest:=all) (i:=0) (λj=>by rw[BG]) (by rw[BG]) ⟨λj o b z=>by simp[Tr.get] at z,λj o z=>by omega,λj o d z=>by omega⟩ e;obtain⟨full,f',vs',pb',e2,hg,hs,hfu⟩:=J7_ (n:=n) (N:=N) (H:=H) (h0:=h) (n0:=nx+all.length) (base:=nx) (f0:=f0) (pre:=[]) hG hX hcl hp Z ⟨λt c z=> .inr ⟨z,λq hq=>by cases hq⟩,rfl,λj=>⟨λz=>(by rw[I3_] at z;cases z),λ⟨q,hq,_⟩=>by cases hq⟩⟩ e1
 refine⟨f',_,_,e2,λ{β L F} hf hr Q kk a w ha hw=>wp_region_any hmx ?_⟩;have hz:∀ i:Nat,(Array.replicate all.toArray.size false).getD i false=false:=λi=>by
   rw[A7]
   by_cases hi:i<all.toArray.size
   . rw[AU wL];simp
   . rw[Array.getElem?_eq_none wL];rfl
 refine Oz_ (β0:=β) (L0:=L) hp hg hfu hs (λβ' F' L' b1 b2 b3 b4 b5=>kk β' F' L' b3 ⟨b1,b4,b2,b5⟩) _ _ β L F [] ?_ ?_ _ _ ha (hw.drew _);unfold left;refine C7 (List.length_filter_le _ _) xP
 . refine⟨by simp,λi o b _ z=>wK,List.nil_suffix,λq r z=>(by cases z),λq z=>(by cases z),λq _ _ z=>wK,hr.up (G3 _ _),Nat.le_refl _,λq hq _ _=>⟨?_,λz=>wK,λ_=>hr.fr _ (G3 _ _)⟩,λt c e _=>hf t c e,λq _ z=>wK, .refl _,λi _ z=>⟨rfl,rfl,z⟩⟩
   show h.get (nx+q.i)=none
   cases e:h.get (nx+q.i) with
   |none=>rfl
   |some hb=>have :=hr.lt _ _ e;omega
end
end Go.CE
namespace Go.CE
open Go.SW
noncomputable section
variable{P:Program}{n:Nat}{N:SW.Rest}{H:Hp}{f:Fe}{h h0:He}{nx:Nat}{G:Gt}{X:Xt}{R:Type}{β:Be}{L:Ls}{F:Fr}
def inE{R:Type}:List CV->Nat->Ft->(Ft->Option R)->Option R
 |[],_,f,k=>k f
 |c::r,i,f,k=>Tr.setK 24 f i c λf=>inE r (i+1) f k
theorem Qs_:∀ {cs:List CV} {i:Nat} {f:Ft} {k:Ft->Option R} {r:R},inE cs i f k=some r->∃ f',k f'=some r/\∀ t c,f'.get t=some c->(i<=t/\cs[t-i]? = some c)\/f.get t=some c
 |[],i,f,k,r,e=>⟨f,e,λt c h=> .inr h⟩
 |c::cs,i,f,k,r,e=>by
   simp only[inE] at e
   obtain⟨f1,e1,e2,e3⟩:=Tr.setK_ok _ _ _ _ _ _ e
   obtain⟨f',e4,e5⟩:=Qs_ e1
   refine⟨f',e4,λt x hx=>?_⟩
   rcases e5 t x hx with ⟨h1,h2⟩|h1
   . refine .inl ⟨by omega,?_⟩
     rw[show t-i=(t-(i+1))+1 by omega];simpa using h2
   . by_cases q:t=i
     . subst q;rw[e2] at h1;cases h1;exact .inl ⟨Nat.le_refl _,by simp⟩
     . rw[e3 t q] at h1;exact .inr h1
theorem init_fr{cs:List CV}{vs:List Value}{f':Ft}(hv:VRs β cs vs)(h:∀ t c,f'.get t=some c->(0<=t/\cs[t-0]? = some c)\/(Tr.e:Ft).get t=some c):FR β f'.get (D7_ vs.toArray):=λt c e=>by
 rcases h t c e with ⟨_,h1⟩|h1
 . obtain⟨v,h2,h3⟩:=hv.get h1
   simp only[Nat.sub_zero] at h2
   simp only[D7_,List.getD_eq_getElem?_getD,h2]
   exact h3
 . simp[Tr.get] at h1
def rvE(P:Program)(G:Gt)(f:Ft)(h:He)(r:ResultVar):Option CV:=match r with
 | .tmp t=>f.get t
 | .cell a T=>match f.get a with
   |some (.ptr i o)=>ldE P G h T (.ptr i o)
   |_=>none
def rvsE(P:Program)(G:Gt)(f:Ft)(h:He):List ResultVar->Option (List CV)
 |[]=>some []
 |r::l=>match rvE P G f h r with
   |some c=>match rvsE P G f h l with
     |some cs=>some (c::cs)
     |none=>none
   |none=>none
def resE(cs:List CV):CV:=match cs with
 |[c]=>c
 |cs=> .tup cs
theorem rvE_ok{f:Ft}{r:ResultVar}{c:CV}(hG:GH G H)(hf:FR β f.get F)(hr:HR β h nx L)(e:rvE P G f h r=some c):∃ v,VR β c v/\RV P N F H L r v:=by
 unfold rvE at e
 split at e
 exact⟨_,hf _ _ e,rv_t Y⟩
 . rename_i a T
   split at e
   . rename_i i o ha
     have hp:=hf _ _ ha
     obtain⟨v,h1,h2⟩:=y_ld (N:=N) (ty:=0) (x:= .tmp a) hG hr hp e
     refine⟨v,h1,λw tmps ht hm=>?_⟩
     simp only[VR] at hp;obtain⟨q,_,hp⟩:=hp
     have h3:=h2 none "" #[] none w hm
     simp only[execOp,ev,Instr.loadAt,hp,rvS,ht] at h3 ⊢
     simp[Instr.sureAddr,asAddr] at h3 ⊢
     generalize (loadVar T {block:=q.b,off:=q.s+o}).run P w=res at *
     cases res with
     |ok x w'=>simpa using h3
     |halt x w'=>simp at h3
   . cases e
theorem Nz_{f:Ft}(hG:GH G H)(hf:FR β f.get F)(hr:HR β h nx L):∀ {rs:List ResultVar} {cs:List CV},rvsE P G f h rs=some cs->∃ vs,VRs β cs vs/\∀ (w:World) (tmps:Array Value),(∀ t,tmps.getD t undef=F t)->Mem N H L w->(rs.mapM (rvS tmps)).run P w = .ok vs w
 |[],cs,e=>by simp only[rvsE,Option.some.injEq] at e;subst e;exact⟨[], .nil,λw tmps _ _=>by simp⟩
 |r::rs,cs,e=>by
   simp only[rvsE] at e
   split at e
   . rename_i c hc
     split at e
     . rename_i cs' hcs
       simp only[Option.some.injEq] at e;subst e
       obtain⟨v,h1,h2⟩:=rvE_ok (N:=N) hG hf hr hc
       obtain⟨vs,h3,h4⟩:=Nz_ hG hf hr hcs
       exact⟨v::vs, .cons h1 h3,λw tmps ht hm=>by simp[List.mapM_cons,h2 w tmps ht hm,h4 w tmps ht hm]⟩
     . cases e
   . cases e
theorem resE_ok{fn:Func}{f:Ft}{cs:List CV}(hG:GH G H)(hf:FR β f.get F)(hr:HR β h nx L)(e:rvsE P G f h fn.results.toList=some cs):∃ v,VR β (resE cs) v/\Res P N fn F H L v:=by
 obtain⟨vs,h1,h2⟩:=Nz_ (N:=N) hG hf hr e;have hm:∀ (w:World) (tmps:Array Value),(∀ t,tmps.getD t undef=F t)->Mem N H L w->(fn.results.mapM (rvS tmps)).run P w = .ok vs.toArray w:=λw tmps ht hw=>by
   have :=h2 w tmps ht hw
   rw[Array.mapM_eq_mapM_toList]
   simp[this]
 have hl:=h1.length
 match cs,vs,h1,hl with
 |[c],[v],h1,_=>
   obtain⟨_,_,e1,h3,_⟩:=h1.cons_inv
   cases e1
   exact⟨v,h3,λw tmps ht hw=>by simp[A1_,hm w tmps ht hw]⟩
 |[],[],_,_=>exact⟨.tuple #[],by simp only[resE,VR];exact⟨[],rfl, .nil⟩,λw tmps ht hw=>by simp[A1_,hm w tmps ht hw]⟩
 |c::d::cs,v::u::vs,h1,_=>
   refine⟨.tuple (v::u::vs).toArray,by simp only[resE,VR];exact⟨_,rfl,h1⟩,λw tmps ht hw=>?_⟩
   simp[A1_,hm w tmps ht hw]
end
end Go.CE
namespace Go.CE
open Go.SW
noncomputable section
variable{P:Program}{n:Nat}{N:SW.Rest}{H:Hp}{h:He}{nx:Nat}{G:Gt}{X:Xt}{R:Type}{β:Be}{L:Ls}{F:Fr}
inductive CK where
 |yes
 |rep
 |pure (φ:List CV->Option CV)
 |snap (φ:List CV->He->Nat->Option (CV×He×Nat))
abbrev Ct:=List (FuncId×CK)
def ckE:Ct->FuncId->Option CK
 |[],_=>none
 |(a,k)::r,g=>bif A3 a g then some k else ckE r g
def repN(n x:Nat):Nat->Nat
 |0=>0
 |c+1=>x+repN n x c*256 ^ n
theorem Nq_{n x:Nat}(hx:x<256 ^ n):∀ c,dec (n*c) (repN n x c)=Lib.repeatL (dec n x) c/\repN n x c<256 ^ (n*c)
 |0=>⟨rfl,by simp[repN]⟩
 |c+1=>by
   obtain⟨h1,h2⟩:=Nq_ hx c
   simp only[repN,HE]
   rw[<- h1,C0_ _ _ _ _ hx,Nat.mul_succ,Nat.add_comm (n*c) n]
   refine⟨rfl,?_⟩
   have e:256 ^ (n+n*c)=256 ^ (n*c)*256 ^ n:=by rw[FS,CD]
   have :(repN n x c+1)*256 ^ n<=256 ^ (n*c)*256 ^ n:=BS _ h2
   exact yL
theorem Hw_(n:Nat):∀ c,repN n 0 c=0
 |0=>rfl
 |c+1=>by simp[repN,Hw_ n c]
def ctE(k:CK)(args:List CV)(h:He)(nx:Nat)(kk:Ke R):Option R:=match k with
 | .yes=>match args with
   |[]=>kk (.bool true) h nx
   |_=>none
 | .rep=>match args with
   |[.str n x, .int .i64 (.ofNat c)]=>bif A6 (n*c) 140737488355328&&A6 c 9223372036854775807 then kk (.str (n*c) (bif A3 x 0 then 0 else repN n x c)) h nx else none
   |_=>none
 | .pure φ=>match φ args with
   |some c=>kk c h nx
   |none=>none
 | .snap φ=>match φ args h nx with
   |some r=>kk r.1 r.2.1 r.2.2
   |none=>none
def CSp(P:Program)(G:Gt)(g:FuncId):CK->Prop
 | .yes=>S_ P g/\∀ H,GH G H->∀ N L w,Mem N H L w->Calls P g #[] w λen w'=>en = .returned (.bool true)/\Mem N H L w'
 | .rep=>S_ P g/\∀ (s:Bs) (c:Nat) N H L w,s.length*c<=140737488355328->c<=9223372036854775807->Mem N H L w->Calls P g #[SW.str s, .int .i64 (c:Int)] w λen w'=>en = .returned (SW.str (HE s c))/\Mem N H L w'
 | .pure φ=>S_ P g/\∀ args c,φ args=some c->∀ H,GH G H->∀ β N L vs w,VRs β args vs->Mem N H L w->Calls P g vs.toArray w λen w'=>∃ v,en = .returned v/\VR β c v/\Mem N H L w'
 | .snap φ=>S_ P g/\∀ args h nx c h' nx',φ args h nx=some (c,h',nx')->∀ N H,GH G H->Cs P N H g args h nx c h' nx'
def COk(P:Program)(G:Gt)(C:Ct):Prop:=∀ g k,ckE C g=some k->CSp P G g k
theorem ctE_ok{k:CK}{args:List CV}{kk:Ke R}{r:R}{g:FuncId}(hG:GH G H)(hC:CSp P G g k)(e:ctE k args h nx kk=some r):∃ c h' nx',kk c h' nx'=some r/\Cs P N H g args h nx c h' nx':=by
 unfold ctE at e
 split at e
 . split at e
   refine⟨_,h,nx,e,hC.1,λβ L vs w hr hv hm R' kk=>?_⟩
   rw[hv.nil_inv]
   exact (hC.2 H hG N L w hm).mono λen w' ⟨h1,h2⟩=>h1 ▸ kk β _ L w' wE (.refl hr) h2
   . cases e
 . split at e
   . rename_i n x c
     cases hb:(A6 (n*c) 140737488355328&&A6 c 9223372036854775807) with
     |false=>rw[hb] at e;cases e
     |true=>
       rw[hb] at e
       simp only[A2] at hb
       simp only[cond_true] at e
       refine⟨_,h,nx,e,hC.1,λβ L vs w hr hv hm R' kk=>?_⟩
       obtain⟨v,us,rfl,h1,h2⟩:=hv.cons_inv
       obtain⟨v',us',rfl,h3,h4⟩:=h2.cons_inv
       rw[h4.nil_inv]
       simp only[VR] at h1 h3
       obtain⟨hx,rfl⟩:=h1
       subst h3
       have hl:(dec n x).length=n:=C_ n x
       refine (hC.2 (dec n x) c N H L w (by rw[hl];exact A1 hb.1) (A1 hb.2) hm).mono λen w' ⟨h1,h2⟩=>h1 ▸ kk β _ L w' ?_ (.refl hr) h2
       obtain⟨r1,r2⟩:=Nq_ hx c
       have :(bif A3 x 0 then 0 else repN n x c)=repN n x c:=by
         cases hz:A3 x 0 with
         |false=>rfl
         |true=>rw[A0 hz];exact (Hw_ n c).symm
       rw[this]
       simp only[VR]
       exact⟨r2,by rw[r1]⟩
   . cases e
 . split at e
   . rename_i c hc
     refine⟨_,h,nx,e,hC.1,λβ L vs w hr hv hm R' kk=>?_⟩
     exact (hC.2 _ _ hc H hG β N L vs w hv hm).mono λen w' ⟨v,h1,h2,h3⟩=>h1 ▸ kk β v L w' h2 (.refl hr) h3
   . cases e
 . split at e
   . rename_i c hc
     exact⟨_,_,_,e,hC.2 _ _ _ _ _ _ hc N H hG⟩
   . cases e
abbrev Kx(R:Type):=Exit->Ft->He->Nat->Option R
def retX:Exit->Bool
 | .normal=>true
 | .ret=>true
 |_=>false
def Fh_(P:Program)(G:Gt)(C:Ct)(ev_:Code->Nat->Ft->He->Nat->Kx R->Option R):Cl R:=λg args h nx k=>match ckE C g with
 |some ck=>ctE ck args h nx k
 |none=>match P.funcs[g]? with
 |some fn=>match fn.body with
   |some c=>bif A6 args.length fn.ntmps then inE args 0 .e λf=>ev_ c fn.ntmps f h nx λe f h nx=>
       bif retX e then (match rvsE P G f h fn.results.toList with
         |some cs=>k (resE cs) h nx
         |none=>none) else none
     else none
   |none=>none
 |none=>none
def evC(P:Program)(G:Gt)(X:Xt)(C:Ct):Nat->Code->Nat->Ft->He->Nat->Kx R->Option R
 |0,_,_,_,_,_,_=>none
 |fu+1,c,n,f,h,nx,k=>match c with
   | .skip=>k .normal f h nx
   | .label _=>k .normal f h nx
   | .seq a b=>evC P G X C fu a n f h nx λe f h nx=>match e with
     | .normal=>evC P G X C fu b n f h nx k
     |e=>k e f h nx
   | .cond x a b=>match ef f.get x with
     |some (.bool t)=>match t with
       |true=>evC P G X C fu a n f h nx k
       |false=>evC P G X C fu b n f h nx k
     |_=>none
   | .block id b=>evC P G X C fu b n f h nx λe f h nx=>match e with
     | .exit i=>bif A3 i id then k .normal f h nx else k (.exit i) f h nx
     |e=>k e f h nx
   | .loop b=>evC P G X C fu b n f h nx λe f h nx=>match e with
     | .normal=>evC P G X C fu (.loop b) n f h nx k
     |e=>k e f h nx
   | .scope b=>evC P G X C fu b n f h nx λe f h nx=>match e with
     | .goto _=>none
     |e=>k e f h nx
   | .exit i=>k (.exit i) f h nx
   | .ret=>k .ret f h nx
   | .region _ ops draw=>match draw with
     |false=>opsE P G X (Fh_ P G C (evC P G X C fu)) n ops.toList ops.toList f h nx λf h nx=>k .normal f h nx
     |true=>Ox_ P G X (Fh_ P G C (evC P G X C fu)) n ops.toList f h nx λf h nx=>k .normal f h nx
   |_=>none
def Cx(P:Program)(n:Nat)(N:SW.Rest)(m:Nat)(c:Code)(Q:Qt)(F:Fr)(H:Hp)(L:Ls):Prop:=match c with
 | .loop b=>∀ a w,At n a F->Mem N H L w->Code.rounds P b (lift n N Q) m a w
 |c=>Cw P n N c Q F H L
theorem Cx.cw{m:Nat}{c:Code}{Q:Qt}(h:Cx P n N m c Q F H L):Cw P n N c Q F H L:=by
 cases c with
 |loop b=>exact λa w ha hm=>wp_loop_rounds m (h a w ha hm)
 |_=>exact h
def EvOk(P:Program)(N:SW.Rest)(H:Hp)(R:Type)(ev_:Code->Nat->Ft->He->Nat->Kx R->Option R):Prop:=
 ∀ c n f h nx k r,ev_ c n f h nx k=some r->∃ e f' h' nx' m,k e f' h' nx'=some r/\∀ {β:Be} {L:Ls} {F:Fr},FR β f.get F->HR β h nx L->∀ Q:Qt,(∀ β' F' L',FR β' f'.get F'->Post β h nx L β' h' nx' L'->Q e F' H L')->Cx P n N m c Q F H L
def CbO(P:Program):Prop:=∀ g fn,P.funcs[g]? = some fn->fn.body.isNone=false->S_ P g
theorem Ga_{C:Ct}{ev_:Code->Nat->Ft->He->Nat->Kx R->Option R}(hG:GH G H)(hC:COk P G C)(hcb:CbO P)(hev:EvOk P N H R ev_):ClOk P N H (Fh_ P G C ev_):=by
 intro g args h nx k r e;unfold Fh_ at e
 split at e
 . rename_i ck hck
   exact ctE_ok hG (hC _ _ hck) e
 split at e
 . rename_i fn hfn
   split at e
   . rename_i c hc
     cases hb:A6 args.length fn.ntmps with
     |false=>rw[hb] at e;cases e
     |true=>
       rw[hb] at e
       simp only[cond_true] at e
       obtain⟨f,e1,e2⟩:=Qs_ e
       obtain⟨ex,f',h',nx',m,e3,e4⟩:=hev _ _ _ _ _ _ _ e1
       cases hx:retX ex with
       |false=>rw[hx] at e3;cases e3
       |true=>
         rw[hx] at e3
         simp only[cond_true] at e3
         split at e3
         . rename_i cs hcs
           refine⟨_,h',nx',e3,hcb g fn hfn (by rw[hc];rfl),λβ L vs w hr hv hm R' kk=>?_⟩
           have hs:vs.toArray.size<=fn.ntmps:=by
             have :=A1 hb
             have :=hv.length
             simp;omega
           refine Bv_ (H0:=H) (R:=λv H' L'=>H'=H/\∃ β',VR β' (resE cs) v/\Post β h nx L β' h' nx' L') hfn hc hs ?_ hm λv H' L' w' hR hl hm'=>?_
           . refine (e4 (init_fr hv e2) hr _ λβ' F' L' hf' hp=>?_).cw
             obtain⟨v,h1,h2⟩:=resE_ok (N:=N) (F:=F') (L:=L') hG hf' hp.hr hcs
             cases ex with
             |normal=>exact fnK_n h2 (.refl H) ⟨rfl,β',h1,hp⟩
             |ret=>exact L5_ h2 (.refl H) ⟨rfl,β',h1,hp⟩
             |_=>cases hx
           . obtain⟨rfl,β',h1,h2⟩:=hR
             exact kk β' v L' w' h1 h2 hm'
         . cases e3
   . cases e
 . cases e
theorem Lu_{C:Ct}(hmx:P.follows .mixedOrders=true)(hC:COk P G C)(hcb:CbO P)(hG:GH G H)(hX:XOk P X):∀ fu,EvOk P N H R (evC P G X C fu)
 |0=>λc n f h nx k r e=>by simp only[evC] at e;cases e
 |fu+1=>λc n f h nx k r e=>by
   have ih:=Lu_ hmx hC hcb hG hX fu
   have hcl:=Ga_ (N:=N) hG hC hcb ih
   cases c with
   |skip=>simp only[evC] at e;exact⟨_,f,h,nx,0,e,λ{β L F} hf hr Q kk=>En_ (kk β F L hf (.refl hr))⟩
   |label l=>simp only[evC] at e;exact⟨_,f,h,nx,0,e,λ{β L F} hf hr Q kk=>Jc_ (kk β F L hf (.refl hr))⟩
   |ret=>simp only[evC] at e;exact⟨_,f,h,nx,0,e,λ{β L F} hf hr Q kk=>Fo_ (kk β F L hf (.refl hr))⟩
   |seq a b=>
     simp only[evC] at e
     obtain⟨e1,f1,h1,nx1,m1,z1,z2⟩:=ih _ _ _ _ _ _ _ e
     cases e1 with
     |normal=>
       simp only at z1
       obtain⟨e2,f2,h2,nx2,m2,y1,y2⟩:=ih _ _ _ _ _ _ _ z1
       refine⟨e2,f2,h2,nx2,0,y1,λ{β L F} hf hr Q kk=>Ab_ (z2 hf hr (seqK P n N b Q) λβ' F' L' hf' hp=>?_).cw⟩
       exact (y2 hf' hp.hr Q λβ'' F'' L'' hf'' hp'=>kk β'' F'' L'' hf'' (hp.trans hp')).cw
     |_=>exact⟨_,f1,h1,nx1,0,z1,λ{β L F} hf hr Q kk=>Ab_ (z2 hf hr (seqK P n N b Q) λβ' F' L' hf' hp=>by unfold seqK;exact kk β' F' L' hf' hp).cw⟩
   |cond x a b=>
     simp only[evC] at e
     split at e
     . rename_i t ht
       have hev:∀ {β:Be} {F:Fr},FR β f.get F->ev F x = .bool t:=λhf=>by have :=P_ hf ht;simpa only[VR] using this
       cases t with
       |true=>
         obtain⟨e1,f1,h1,nx1,m1,z1,z2⟩:=ih _ _ _ _ _ _ _ e
         exact⟨e1,f1,h1,nx1,0,z1,λ{β L F} hf hr Q kk=>G9_ (hev hf) Y (z2 hf hr Q kk).cw⟩
       |false=>
         obtain⟨e1,f1,h1,nx1,m1,z1,z2⟩:=ih _ _ _ _ _ _ _ e
         exact⟨e1,f1,h1,nx1,0,z1,λ{β L F} hf hr Q kk=>Em_ (hev hf) Y (z2 hf hr Q kk).cw⟩
     . cases e
   |block id b=>
     simp only[evC] at e
     obtain⟨e1,f1,h1,nx1,m1,z1,z2⟩:=ih _ _ _ _ _ _ _ e
     have hex:(∃ i,e1=HK i)\/∀ i,e1≠HK i:=by cases e1<;>first|exact .inl ⟨_,rfl⟩|exact .inr λi h=>by cases h
     rcases hex with ⟨i,rfl⟩|hne
     . simp only at z1
       cases hb:A3 i id with
       |true=>
         rw[hb] at z1
         have :=A0 hb;subst this
         exact⟨_,f1,h1,nx1,0,z1,λ{β L F} hf hr Q kk=>Bi_ (z2 hf hr (blkK _ Q) λβ' F' L' hf' hp=>by unfold blkK;simpa using kk β' F' L' hf' hp).cw⟩
       |false=>
         rw[hb] at z1
         have :i≠id:=Nat.ne_of_beq_eq_false hb
         exact⟨_,f1,h1,nx1,0,z1,λ{β L F} hf hr Q kk=>Bi_ (z2 hf hr (blkK id Q) λβ' F' L' hf' hp=>by unfold blkK;simpa [this] using kk β' F' L' hf' hp).cw⟩
     . cases e1<;>first
         |exact absurd Y (hne _)
         |exact⟨_,f1,h1,nx1,0,z1,λ{β L F} hf hr Q kk=>Bi_ (z2 hf hr (blkK id Q) λβ' F' L' hf' hp=>by unfold blkK;simpa using kk β' F' L' hf' hp).cw⟩
   |loop b=>
     simp only[evC] at e
     obtain⟨e1,f1,h1,nx1,m1,z1,z2⟩:=ih _ _ _ _ _ _ _ e
     cases e1 with
     |normal=>
       simp only at z1
       obtain⟨e2,f2,h2,nx2,m2,y1,y2⟩:=ih _ _ _ _ _ _ _ z1
       refine⟨e2,f2,h2,nx2,m2+1,y1,λ{β L F} hf hr Q kk a w ha hm=>?_⟩
       rw[rounds_succ]
       refine wp_mono ((z2 hf hr (λex F' H' L'=>ex = .normal/\H'=H/\∃ β',FR β' f1.get F'/\Post β h nx L β' h1 nx1 L') λβ' F' L' hf' hp=>⟨rfl,rfl,β',hf',hp⟩).cw a w ha hm) λex a' w' hq=>?_
       obtain⟨F',H',L',ha',hm',rfl,rfl,β',hf',hp⟩:=hq
       exact y2 hf' hp.hr Q (λβ'' F'' L'' hf'' hp'=>kk β'' F'' L'' hf'' (hp.trans hp')) a' w' ha' hm'
     |_=>
       refine⟨_,f1,h1,nx1,1,z1,λ{β L F} hf hr Q kk a w ha hm=>?_⟩
       rw[rounds_succ]
       refine wp_mono ((z2 hf hr (λex F' H' L'=>ex ≠ .normal/\Q ex F' H' L') λβ' F' L' hf' hp=>⟨by simp,kk β' F' L' hf' hp⟩).cw a w ha hm) λex a' w' hq=>?_
       obtain⟨F',H',L',ha',hm',hne,hq⟩:=hq
       cases ex with
       |normal=>exact absurd Y hne
       |_=>exact⟨F',H',L',ha',hm',hq⟩
   |scope b=>
     simp only[evC] at e
     obtain⟨e1,f1,h1,nx1,m1,z1,z2⟩:=ih _ _ _ _ _ _ _ e
     cases e1 with
     |goto l=>simp only at z1;cases z1
     |_=>exact⟨_,f1,h1,nx1,0,z1,λ{β L F} hf hr Q kk=>Jd_ (z2 hf hr (scK Q) λβ' F' L' hf' hp=>by unfold scK;exact kk β' F' L' hf' hp).cw⟩
   |region id ops draw=>
     simp only[evC] at e
     have ho:ops.toList.toArray=ops:=by simp
     cases draw with
     |false=>
       obtain⟨f',h',nx',e1,e2⟩:=Nc_ (n:=n) hG hX hcl e
       refine⟨_,f',h',nx',0,e1,λ{β L F} hf hr Q kk=>?_⟩
       have :=O_ (id:=id) (e2 hf hr Q λβ' F' L' hf' hp=>kk β' F' L' hf' hp)
       rw[ho] at this;exact this
     |true=>
       obtain⟨f',h',nx',e1,e2⟩:=Oy_ (n:=n) (id:=id) hmx hG hX hcl e
       refine⟨_,f',h',nx',0,e1,λ{β L F} hf hr Q kk=>?_⟩
       have :=e2 hf hr Q λβ' F' L' hf' hp=>kk β' F' L' hf' hp
       rw[ho] at this;exact this
   |_=>first
     |(simp only[evC] at e;cases e;done)
     |(simp only[evC] at e;exact⟨_,f,h,nx,0,e,λ{β L F} hf hr Q kk=>Ge_ (kk β F L hf (.refl hr))⟩)
def runE(P:Program)(G:Gt)(X:Xt)(C:Ct)(fu:Nat)(g:FuncId):Option Bool:=Fh_ P G C (evC P G X C fu) g [] .e 0 λc _ _=>match c with
 | .bool b=>some b
 |_=>none
theorem Iv_{C:Ct}{fu:Nat}{g:FuncId}{b:Bool}(hmx:P.follows .mixedOrders=true)(hC:COk P G C)(hcb:CbO P)(hX:XOk P X)(e:runE P G X C fu g=some b) :
   S_ P g/\∀ H,GH G H->∀ N L w,Mem N H L w->Calls P g #[] w λen w'=>en = .returned (.bool b)/\Mem N H L w':=by
 have hc:S_ P g:=by
   unfold runE Fh_ at e
   split at e
   . rename_i ck hck
     have :=hC _ _ hck
     cases ck<;>exact this.1
   split at e
   . rename_i fn hfn
     split at e
     . rename_i c hc
       exact hcb g fn hfn (by rw[hc];rfl)
     . cases e
   . cases e
 refine⟨hc,λH hG N L w hm=>?_⟩;obtain⟨c,h',nx',e1,e2⟩:=Ga_ (N:=N.plus L) hG hC hcb (Lu_ hmx hC hcb hG hX fu) _ _ _ _ _ _ e;have hv:∀ {β:Be} {v:Value},VR β c v->v = .bool b:=λ{β v} hv=>by
   split at e1
   . simp only[Option.some.injEq] at e1;subst e1;simpa only[VR] using hv
   . cases e1
 exact e2.2 (λ_=>none) l0 [] w ⟨λi hb e=>by simp[Tr.get] at e,λi hb e=>by simp[Tr.get] at e,λ_ _=>⟨rfl,rfl⟩⟩ .nil hm.aside _ λβ' v L' w' h1 _ h3=>⟨by rw[hv h1],hm.back h3⟩
end
end Go.CE
namespace Go.CE
open Go.SW
variable{P:Program}{H:Hp}{G:Gt}
def GC(H:Hp)(g:Nat)(cs:List CV):Prop:=∃ vs T fr,H g=some (.cells vs T fr)/\∀ β,VRs β cs vs.toList
theorem GC.mono{H':Hp}{g:Nat}{cs:List CV}(h:GC H g cs)(hl:HLe H H'):GC H' g cs:=by
 obtain⟨vs,T,fr,e,h1⟩:=h;exact⟨vs,T,fr,hl _ _ e,h1⟩
theorem gh_nil:GH [] H:=⟨λg cs e=>by cases e⟩
theorem Ib_{g:Nat}{cs:List CV}(h:GC H g cs)(k:GH G H):GH ((g,cs)::G) H:=⟨λg' cs' e=>by
 simp only[gbE] at e
 cases hb:A3 g g' with
 |true=>rw[hb] at e;simp only[cond_true,Option.some.injEq] at e;subst e;rw[<- A0 hb];exact h
 |false=>rw[hb] at e;exact k.h _ _ e⟩
theorem Oe_{β:Be}{k:IntKind}:∀ (zs:List Int),VRs β (zs.map (CV.int k)) (zs.map (Value.int k))
 |[]=> .nil
 |z::r=> .cons wE (Oe_ r)
theorem Qr_{g:Nat}{k:IntKind}{zs:List Int}(h:∃ T fr,H g=some (.cells (zs.map (Value.int k)).toArray T fr)):GC H g (zs.map (CV.int k)):=by
 obtain⟨T,fr,e⟩:=h;exact⟨_,T,fr,e,λβ=>Oe_ zs⟩
def cS(s:Bs):CV:= .str s.length (enc s)
theorem Of_{β:Be}:∀ (zs:List Bs),VRs β (zs.map cS) (zs.map SW.str)
 |[]=> .nil
 |z::r=> .cons (by simp only[cS,VR];exact⟨Je_ z,by rw[Gf_]⟩) (Of_ r)
theorem gc_str{g:Nat}{zs:List Bs}(h:∃ T fr,H g=some (.cells (zs.map SW.str).toArray T fr)):GC H g (zs.map cS):=by
 obtain⟨T,fr,e⟩:=h;exact⟨_,T,fr,e,λβ=>Of_ zs⟩
theorem xok_nil:XOk P []:=λg k e=>by cases e
theorem Eg_{g:FuncId}{k:XK}{X:Xt}(h:XSp P g k)(r:XOk P X):XOk P ((g,k)::X):=λg' k' e=>by
 simp only[xkE] at e
 cases hb:A3 g g' with
 |true=>rw[hb] at e;simp only[cond_true,Option.some.injEq] at e;subst e;rw[<- A0 hb];exact h
 |false=>rw[hb] at e;exact r _ _ e
section
variable{f:FuncId}{fn:Func}(hf:P.funcs[f]? = some fn)(hname:(fn.name == "runtime.NumGoroutine")=false)(hb:fn.body.isNone=true)(hn:Extern.findNext fn=none)
include hf hname hb hn
theorem x_noesc(he:Extern.find fn=some Extern.AbiNoEscape.same):XSp P f .noesc:=Jv_ hf hname hb hn he
theorem x_count(he:Extern.find fn=some Extern.BytealgCount.count):XSp P f .count:=λs c w=>by
 rw[run_callFunc_extern hf hname hb hn he]
 have :=Lib.run_countString (P:=P) ⟨s.toArray⟩ c w
 unfold SW.str
 rw[this];rfl
theorem x_ixb(he:Extern.find fn=some Extern.BytealgIndexByte.indexByte):XSp P f .ixb:=λs c w=>by
 rw[run_callFunc_extern hf hname hb hn he]
 have :=Lib.run_indexByteString (P:=P) ⟨s.toArray⟩ c w
 unfold SW.str
 rw[this];rfl
omit hf hname hb hn in
theorem Fq_:∀ (n t:Nat) (acc:Array Value),(∀ v∈acc.toList,v.oneCell'=true)->∀ v∈(Extern.BytealgMakeNoZero.digits n t acc).toList,v.oneCell'=true
 |0,t,acc,h=>by unfold B8;exact h
 |n+1,t,acc,h=>by
   unfold B8
   refine Fq_ n _ _ λv hv=>?_
   simp only[Array.toList_push,List.mem_append,List.mem_singleton] at hv
   rcases hv with hv|rfl
   . exact h v hv
   . rfl
theorem x_mknz{ps:Array TypeId}{t e:TypeId}(ht:P.underlying t=some (.slice e))(he:Extern.find fn=some (Extern.BytealgMakeNoZero.makeNoZero ps #[t])):XSp P f (.mknz e):=λn w hn'=>by
 obtain⟨m1,m2,qq,hq,hdef⟩:∃ m1 m2 qq,FF qq=false/\Extern.BytealgMakeNoZero.makeNoZero ps #[t] #[.int .i64 n] =
     (do
       let .slice elem <- underlying t|stuck m1
       if (n:Int)<0||(n:Int)>2 ^ 48 then runtimePanic (.error m2)
       let cap <- choose (.appendCap (n:Int).toNat 0 elem)
       askRoom cap
       let bytes <- choose qq
       let a <- newRow elem (B8 cap bytes #[])
       pure (.slice (some a) (n:Int).toNat cap)):=⟨_,_,_,rfl,rfl⟩
 refine⟨(B8 (grownCap w n 0 e) (qq.cut (w.tape (w.drawn+1) qq)) #[]).toList,?_,Fq_ _ _ _ (λv hv=>by cases hv),?_⟩
 . rw[Array.length_toList,GB]
   simpa using grownCap_ge w n 0 e
 . rw[run_callFunc_extern hf hname hb hn he,hdef]
   have h1:¬(n:Int)<0:=by omega
   have h2:¬(281474976710656:Int)<(n:Int):=by omega
   simp[run_underlying ht,h1,h2,hq,show FF (.appendCap n 0 e)=false from rfl,newRow,GB,grownCap,Result.andThen,bx]
   rfl
end
theorem cok_nil:COk P G []:=λg k e=>by cases e
theorem G_{g:FuncId}{k:CK}{C:Ct}(h:CSp P G g k)(r:COk P G C):COk P G ((g,k)::C):=λg' k' e=>by
 simp only[ckE] at e
 cases hb:A3 g g' with
 |true=>rw[hb] at e;simp only[cond_true,Option.some.injEq] at e;subst e;rw[<- A0 hb];exact h
 |false=>rw[hb] at e;exact r _ _ e
def cbB(P:Program):Bool:=P.funcs.toList.all λfn=>fn.body.isNone||!(fn.name == "runtime.NumGoroutine")
theorem cb_ok(h:cbB P=true):CbO P:=λg fn hf hb=>by
 have hm:fn∈P.funcs.toList:=Array.mem_toList_iff.2 (Array.mem_of_getElem? hf)
 have :=List.all_eq_true.1 h fn hm
 rw[hb] at this
 simp only[BK,Bool.not_eq_true'] at this
 exact Ak_ hf this hb
theorem fn_run{Gb':Gb}{X:Xt}{C:Ct}{fu:Nat}{g:FuncId}(hg:∀ H,Gb'.p H->GH G H)(h:CSp P G g .yes):SW.Fn P Gb' g [] (.bool true):=
 ⟨h.1,rfl,λN H L w vs hp hs hm=>by
   cases hs.inv_nil
   exact (h.2 H (hg H hp) N L w hm).mono λe w' ⟨h1,h2⟩=>⟨_,H,h1,Sim.bool, .refl H,h2⟩⟩
end Go.CE
namespace Go.CE
open Go.SW
noncomputable section
variable{R:Type}
def opW(d:Option Tmp)(op:Op)(g:Option (Nat×Bool))(P:Program)(G:Gt)(X:Xt)(cl:Cl R)(n:Nat)(all:List Oper)(f:Fe)(h:He)(nx:Nat)(k:Ke R):Option R:=
 D6 (motive:=λ_=>Option R) none (GS (motive:=λ_=>Option R) (opF op P G X cl f h nx k) (λg=>match gdE all f g.1 g.2 with
   |some true=>opF op P G X cl f h nx k
   |some false=>k (.tup []) h nx
   |none=>none) g) (okD op d&&dB n d)
theorem opW_eq{P:Program}{G:Gt}{X:Xt}{cl:Cl R}{n:Nat}{all:List Oper}{f:Fe}{h:He}{nx:Nat}{o:Oper}{k:Ke R}:opW o.dst o.op o.guard P G X cl n all f h nx k=opV P G X cl n all f h nx o k:=by
 obtain⟨d,op,ty,pos,af,g⟩:=o;unfold opW opV;simp only
 cases (okD op d&&dB n d) with
 |false=>rfl
 |true=>cases g<;>rfl
def setF(d:Option Tmp)(f:Ft)(c:CV)(k:Ft->Option R):Option R:=GS (motive:=λ_=>Option R) (k f) (λd=>sS 24 d f c k) d
def opC(o:Oper)(ih:Program->Gt->Xt->Cl R->Nat->List Oper->Ft->He->Nat->Kf R->Option R)(P:Program)(G:Gt)(X:Xt)(cl:Cl R)(n:Nat)(all:List Oper)(f:Ft)(h:He)(nx:Nat)(k:Kf R):Option R:=
 Oper.rec (motive:=λ_=>Option R) (λd op _ _ _ g=>opW d op g P G X cl n all f.get h nx λc h nx=>setF d f c λf=>ih P G X cl n all f h nx k) o
def opsF(l:List Oper):Program->Gt->Xt->Cl R->Nat->List Oper->Ft->He->Nat->Kf R->Option R:=
 List.rec (motive:=λ_=>Program->Gt->Xt->Cl R->Nat->List Oper->Ft->He->Nat->Kf R->Option R) (λ_ _ _ _ _ _ f h nx k=>k f h nx) (λo _ ih=>opC o ih) l
theorem Nd_{P:Program}{G:Gt}{X:Xt}{cl:Cl R}{n:Nat}{all:List Oper}:∀ {l:List Oper} {f:Ft} {h:He} {nx:Nat} {k:Kf R},opsF l P G X cl n all f h nx k=opsE P G X cl n all l f h nx k
 |[],f,h,nx,k=>rfl
 |o::r,f,h,nx,k=>by
   have ih:=λf h nx=>Nd_ (P:=P) (G:=G) (X:=X) (cl:=cl) (n:=n) (all:=all) (l:=r) (f:=f) (h:=h) (nx:=nx) (k:=k)
   show opC o (opsF r) P G X cl n all f h nx k=_
   unfold opC opsE
   rw[<- opW_eq]
   obtain⟨d,op,ty,pos,af,g⟩:=o
   simp only[ih]
   cases d<;>rfl
abbrev Rc(R:Type):=Code->Nat->Ft->He->Nat->Kx R->Option R
def kN(k:Kx R)(f:Ft)(h:He)(nx:Nat):Option R:=k .normal f h nx
def thn(e:Exit):(Ft->He->Nat->Option R)->Kx R->Ft->He->Nat->Option R:=match e with
 | .normal=>λa _=>a
 | .exit i=>λ_ k=>k (.exit i)
 | .goto i=>λ_ k=>k (.goto i)
 | .ret=>λ_ k=>k .ret
 | .panic c=>λ_ k=>k (.panic c)
 | .outgrown=>λ_ k=>k .outgrown
def blk(e:Exit):Nat->Kx R->Ft->He->Nat->Option R:=match e with
 | .normal=>λ_ k=>k .normal
 | .exit i=>λid k f h nx=>bif A3 i id then k .normal f h nx else k (.exit i) f h nx
 | .goto i=>λ_ k=>k (.goto i)
 | .ret=>λ_ k=>k .ret
 | .panic c=>λ_ k=>k (.panic c)
 | .outgrown=>λ_ k=>k .outgrown
def scp(e:Exit):Kx R->Ft->He->Nat->Option R:=match e with
 | .normal=>λk=>k .normal
 | .exit i=>λk=>k (.exit i)
 | .goto _=>λ_ _ _ _=>none
 | .ret=>λk=>k .ret
 | .panic c=>λk=>k (.panic c)
 | .outgrown=>λk=>k .outgrown
def cSkip(P:Program)(G:Gt)(X:Xt)(C:Ct)(rc:Rc R)(n:Nat)(f:Ft)(h:He)(nx:Nat)(k:Kx R):Option R:=k .normal f h nx
def cExit(i:Nat)(P:Program)(G:Gt)(X:Xt)(C:Ct)(rc:Rc R)(n:Nat)(f:Ft)(h:He)(nx:Nat)(k:Kx R):Option R:=k (.exit i) f h nx
def cRet(P:Program)(G:Gt)(X:Xt)(C:Ct)(rc:Rc R)(n:Nat)(f:Ft)(h:He)(nx:Nat)(k:Kx R):Option R:=k .ret f h nx
def cNo(P:Program)(G:Gt)(X:Xt)(C:Ct)(rc:Rc R)(n:Nat)(f:Ft)(h:He)(nx:Nat)(k:Kx R):Option R:=none
def cSeq(a b:Code)(P:Program)(G:Gt)(X:Xt)(C:Ct)(rc:Rc R)(n:Nat)(f:Ft)(h:He)(nx:Nat)(k:Kx R):Option R:=rc a n f h nx λe f h nx=>thn e (λf h nx=>rc b n f h nx k) k f h nx
def cCond(x:Operand)(a b:Code)(P:Program)(G:Gt)(X:Xt)(C:Ct)(rc:Rc R)(n:Nat)(f:Ft)(h:He)(nx:Nat)(k:Kx R):Option R:=match ef f.get x with
 |some (.bool t)=>rc (D6 (motive:=λ_=>Code) b a t) n f h nx k
 |_=>none
def Qh_(id:Nat)(b:Code)(P:Program)(G:Gt)(X:Xt)(C:Ct)(rc:Rc R)(n:Nat)(f:Ft)(h:He)(nx:Nat)(k:Kx R):Option R:=rc b n f h nx λe=>blk e id k
def cLoop(b:Code)(P:Program)(G:Gt)(X:Xt)(C:Ct)(rc:Rc R)(n:Nat)(f:Ft)(h:He)(nx:Nat)(k:Kx R):Option R:=rc b n f h nx λe f h nx=>thn e (λf h nx=>rc (.loop b) n f h nx k) k f h nx
def Qi_(b:Code)(P:Program)(G:Gt)(X:Xt)(C:Ct)(rc:Rc R)(n:Nat)(f:Ft)(h:He)(nx:Nat)(k:Kx R):Option R:=rc b n f h nx λe=>scp e k
def cReg(l:List Oper)(P:Program)(G:Gt)(X:Xt)(C:Ct)(rc:Rc R)(n:Nat)(f:Ft)(h:He)(nx:Nat)(k:Kx R):Option R:=opsF l P G X (Fh_ P G C rc) n l f h nx (kN k)
def cDrw(l:List Oper)(P:Program)(G:Gt)(X:Xt)(C:Ct)(rc:Rc R)(n:Nat)(f:Ft)(h:He)(nx:Nat)(k:Kx R):Option R:=Ox_ P G X (Fh_ P G C rc) n l f h nx (kN k)
def cD(c:Code):Program->Gt->Xt->Ct->Rc R->Nat->Ft->He->Nat->Kx R->Option R:=match c with
 | .skip=>cSkip
 | .label _=>cSkip
 | .seq a b=>cSeq a b
 | .cond x a b=>cCond x a b
 | .block id b=>Qh_ id b
 | .loop b=>cLoop b
 | .scope b=>Qi_ b
 | .exit i=>cExit i
 | .ret=>cRet
 | .region _ ops draw=>D6 (motive:=λ_=>Program->Gt->Xt->Ct->Rc R->Nat->Ft->He->Nat->Kx R->Option R) (cReg ops.toList) (cDrw ops.toList) draw
 |_=>cNo
def evF(P:Program)(G:Gt)(X:Xt)(C:Ct)(fu:Nat):Rc R:=Nat.rec (motive:=λ_=>Rc R) (λ_ _ _ _ _ _=>none) (λ_ ih c=>cD c P G X C ih) fu
theorem Lv_{P:Program}{G:Gt}{X:Xt}{C:Ct}:∀ (fu:Nat),(evF P G X C fu:Rc R)=evC P G X C fu
 |0=>by funext c n f h nx k;simp only[evC];rfl
 |fu+1=>by
   have ih:(evF P G X C fu:Rc R)=evC P G X C fu:=Lv_ fu
   funext c n f h nx k
   show cD c P G X C (evF P G X C fu) n f h nx k=_
   rw[ih]
   cases c with
   |seq a b=>simp only[evC,cD,cSeq];congr 1;funext e f h nx;cases e<;>rfl
   |cond x a b=>
     simp only[evC,cD,cCond]
     cases ef f.get x with
     |none=>rfl
     |some c=>
       cases c with
       |bool t=>cases t<;>rfl
       |_=>rfl
   |block id b=>simp only[evC,cD,Qh_];congr 1;funext e f h nx;cases e<;>rfl
   |loop b=>simp only[evC,cD,cLoop];congr 1;funext e f h nx;cases e<;>rfl
   |scope b=>simp only[evC,cD,Qi_];congr 1;funext e f h nx;cases e<;>rfl
   |region id ops draw=>
     cases draw with
     |false=>simp only[evC,cD,cReg];exact Nd_
     |true=>simp only[evC,cD,cDrw];rfl
   |_=>simp only[evC];rfl
def runF(P:Program)(G:Gt)(X:Xt)(C:Ct)(fu:Nat)(g:FuncId):Option Bool:=Fh_ P G C (evF P G X C fu) g [] .e 0 λc _ _=>match c with
 | .bool b=>some b
 |_=>none
theorem Q_{P:Program}{G:Gt}{X:Xt}{C:Ct}{fu:Nat}{g:FuncId}(hmx:P.follows .mixedOrders=true)(hC:COk P G C)(hcb:CbO P)(hX:XOk P X)(e:runF P G X C fu g=some true):CSp P G g .yes:=by
 refine Iv_ (X:=X) (C:=C) (fu:=fu) hmx hC hcb hX ?_;unfold runF at e;rw[Lv_] at e;exact e
end
end Go.CE
namespace Go.CE
open Go.SW
noncomputable section
variable{P:Program}{H:Hp}{h:He}{nx:Nat}{G:Gt}{X:Xt}{C:Ct}
def msB:List (CV×CV×Nat)->List (CV×CV×Nat)->Bool
 |[],[]=>true
 |a::r,b::s=>cvB a.1 b.1&&(cvB a.2.1 b.2.1&&(A3 a.2.2 b.2.2&&msB r s))
 |_,_=>false
theorem Q8_:∀ {a b:List (CV×CV×Nat)},msB a b=true->a=b
 |[],b,e=>by cases b<;>simp only[msB,reduceCtorEq] at e;rfl
 |x::r,b,e=>by
   cases b with
   |nil=>simp only[msB,reduceCtorEq] at e
   |cons y s=>
     simp only[msB,A2] at e
     obtain⟨x1,x2,x3⟩:=x;obtain⟨y1,y2,y3⟩:=y
     simp only at e
     rw[G8_ e.1,G8_ e.2.1,A0 e.2.2.1,Q8_ e.2.2.2]
def hbB:HB->HB->Bool
 | .cells T cs g, .cells T' cs' g'=>A3 T T'&&(cvsB cs cs'&&(g==g'))
 | .bys T n x g, .bys T' n' x' g'=>A3 T T'&&(A3 n n'&&(A3 x x'&&(g==g')))
 | .rob T n x, .rob T' n' x'=>A3 T T'&&(A3 n n'&&A3 x x')
 | .itr n x p, .itr n' x' p'=>A3 n n'&&(A3 x x'&&A3 p p')
 | .mp es k, .mp es' k'=>msB es es'&&A3 k k'
 | .dead, .dead=>true
 |_,_=>false
theorem hbB_ok{a b:HB}(e:hbB a b=true):a=b:=by
 cases a<;>cases b<;>simp only[hbB,A2,beq_iff_eq,reduceCtorEq] at e<;>first
   |rfl
   |(rw[A0 e.1,Cz_ e.2.1,e.2.2])
   |(rw[A0 e.1,A0 e.2.1,A0 e.2.2.1,e.2.2.2])
   |(rw[A0 e.1,A0 e.2.1,A0 e.2.2])
   |(rw[Q8_ e.1,A0 e.2])
def hasB(x:Option HB)(b:HB):Bool:=match x with
 |some a=>hbB a b
 |none=>false
theorem L8_{x:Option HB}{b:HB}(e:hasB x b=true):x=some b:=by
 cases x with
 |none=>cases e
 |some a=>rw[hbB_ok e]
abbrev Bl:=List (Nat×HB)
def setA{R:Type}:Bl->He->(He->Option R)->Option R
 |[],h,k=>k h
 |b::r,h,k=>Tr.setK 24 h b.1 b.2 λh=>setA r h k
def ov:Bl->Nat->Option HB->Option HB
 |[],_,x=>x
 |b::r,i,x=>ov r i (if i=b.1 then some b.2 else x)
theorem Gy_{R:Type}:∀ {l:Bl} {h:He} {k:He->Option R} {r:R},setA l h k=some r->∃ h',k h'=some r/\∀ i,h'.get i=ov l i (h.get i)
 |[],h,k,r,e=>⟨h,e,λ_=>rfl⟩
 |b::l,h,k,r,e=>by
   simp only[setA] at e
   obtain⟨h1,e1,e2,e3⟩:=Tr.setK_ok _ _ _ _ _ _ e
   obtain⟨h',e4,e5⟩:=Gy_ e1
   refine⟨h',e4,λi=>?_⟩
   rw[e5,ov]
   by_cases q:i=b.1
   . rw[if_pos q,q,e2]
   . rw[if_neg q,e3 i q]
theorem Cb_:∀ {l:Bl} {i:Nat} {x:Option HB},(∀ b∈l,i≠b.1)->ov l i x=x
 |[],_,_,_=>rfl
 |b::l,i,x,h=>by rw[ov,if_neg (h b xP),Cb_ λc hc=>h c (by simp[hc])]
theorem Ip_:∀ {l:Bl} {i:Nat},(∃ b∈l,i=b.1)->∃ y,∀ x,ov l i x=some y
 |[],_,⟨b,hb,_⟩=>by cases hb
 |b::l,i,h=>by
   by_cases q:∃ c∈l,i=c.1
   . obtain⟨y,hy⟩:=Ip_ q;exact⟨y,λx=>by rw[ov,hy]⟩
   . obtain⟨c,hc,e⟩:=h
     rcases List.mem_cons.1 hc with rfl|hc
     . exact⟨c.2,λx=>by rw[ov,if_pos e,Cb_ λd hd k=>q ⟨d,hd,k⟩]⟩
     . exact absurd ⟨c,hc,e⟩ q
def allB(h:He):Bl->Bool
 |[]=>true
 |b::r=>hasB (h.get b.1) b.2&&allB h r
theorem H4_{h:He}:∀ {l:Bl},allB h l=true->∀ b∈l,h.get b.1=some b.2
 |[],_,b,hb=>by cases hb
 |c::r,e,b,hb=>by
   simp only[allB,A2] at e
   rcases List.mem_cons.1 hb with rfl|hb
   . exact L8_ e.1
   . exact H4_ e.2 b hb
def Ix_(h t:He):Bl->Bool
 |[]=>true
 | b::r=>(match t.get b.1 with
   |some y=>hasB (h.get b.1) y
   |none=>false)&&Ix_ h t r
theorem Gw_{h t:He}:∀ {l:Bl},Ix_ h t l=true->∀ b∈l,∃ y,t.get b.1=some y/\h.get b.1=some y
 |[],_,b,hb=>by cases hb
 |c::r,e,b,hb=>by
   simp only[Ix_,A2] at e
   rcases List.mem_cons.1 hb with rfl|hb
   . obtain⟨e1,_⟩:=e
     split at e1
     . rename_i y hy;exact⟨y,hy,L8_ e1⟩
     . cases e1
   . exact Gw_ e.2 b hb
structure Sn where
 args:List CV
 nx:Nat
 I:Bl
 c:CV
 nx':Nat
 U:Bl
def runS(P:Program)(G:Gt)(X:Xt)(C:Ct)(fu:Nat)(g:FuncId)(S:Sn):Option Unit:=
 setA S.I .e λh=>Fh_ P G C (evF P G X C fu) g S.args h S.nx λc h' nx'=>
   bif cvB c S.c&&A3 nx' S.nx' then setA S.U h λt=>bif Ix_ h' t S.I&&Ix_ h' t S.U then some () else none else none
def snF(l:List Sn):List CV->He->Nat->Option (CV×He×Nat):=match l with
 |[]=>λ_ _ _=>none
 |S::r=>λargs h nx=>bif A3 nx S.nx&&(cvsB args S.args&&allB h S.I) then setA S.U h λh=>some (S.c,h,S.nx') else snF r args h nx
theorem Nv_{fu:Nat}{g:FuncId}{S:Sn}(hmx:P.follows .mixedOrders=true)(hC:COk P G C)(hcb:CbO P)(hX:XOk P X)(e:runS P G X C fu g S=some ()){h0:He}(hi:allB h0 S.I=true){t0:He}(ht:∀ i,t0.get i=ov S.U i (h0.get i)){N:SW.Rest}(hG:GH G H):Cs P N H g S.args h0 S.nx S.c t0 S.nx':=by
 unfold runS at e;obtain⟨h,e1,g1⟩:=Gy_ e;rw[Lv_] at e1;obtain⟨c,h',nx',e2,hcs⟩:=Ga_ (N:=N) (H:=H) hG hC hcb (Lu_ hmx hC hcb hG hX fu) _ _ _ _ _ _ e1
 cases q:(cvB c S.c&&A3 nx' S.nx') with
 |false=>rw[q] at e2;cases e2
 |true=>
   rw[q] at e2;simp only[cond_true] at e2
   simp only[A2] at q
   have q1:=G8_ q.1;have q2:=A0 q.2
   subst q1;subst q2
   obtain⟨t,e3,g2⟩:=Gy_ e2
   cases q3:(Ix_ h' t S.I&&Ix_ h' t S.U) with
   |false=>rw[q3] at e3;cases e3
   |true=>
     simp only[A2] at q3
     have s1:=Gw_ q3.1;have s2:=Gw_ q3.2
     have hI:=H4_ hi
     have he:(Tr.e:He).get = λ_=>none:=by funext i;rfl
     have hle:∀ i y,h.get i=some y->h0.get i=some y:=λi y hy=>by
       by_cases k:∃ b∈S.I,i=b.1
       . obtain⟨b,hb,rfl⟩:=k
         obtain⟨z,hz⟩:=Ip_ ⟨b,hb,rfl⟩
         have :∀ (l:Bl),(∀ b∈l,h0.get b.1=some b.2)->∀ (x:Option HB) (j:Nat),x=none\/x=h0.get j->ov l j x=none\/ov l j x=h0.get j:=λl=>by
           induction l with
           |nil=>intro _ x j hx;exact hx
           |cons b r ih=>
             intro hl x j hx
             rw[ov]
             refine ih (λc hc=>hl c (by simp[hc])) _ j ?_
             by_cases q:j=b.1
             . rw[if_pos q,q,hl b xP];exact .inr Y
             . rw[if_neg q];exact hx
         rcases this S.I hI none b.1 (.inl rfl) with w|w
         . rw[hz] at w;cases w
         . rw[<- w,<- hy,g1,he]
       . rw[g1,Cb_ (λb hb k'=>k ⟨b,hb,k'⟩),he] at hy;cases hy
     refine⟨hcs.1,λβ L vs w hr hv hm R' kk=>?_⟩
     refine hcs.2 β L vs w ⟨λi y hy=>hr.br i y (hle i y hy),λi y hy=>hr.lt i y (hle i y hy),hr.fr⟩ hv hm R' λβ' v L' w' hv' hp hm'=>?_
     refine kk β' v L' w' hv' ⟨hp.le,hp.nle,⟨λi y hy=>?_,λi y hy=>?_,hp.hr.fr⟩,λi hn h0n=>?_⟩ hm'
     all_goals try rw[ht] at hy
     . by_cases k:∃ b∈S.U,i=b.1
       . obtain⟨z,hz⟩:=Ip_ k
         obtain⟨b,hb,rfl⟩:=k
         obtain⟨y',t1,t2⟩:=s2 b hb
         rw[g2,hz] at t1
         rw[hz] at hy
         cases hy.symm.trans t1
         exact hp.hr.br _ _ t2
       . rw[Cb_ (λb hb k'=>k ⟨b,hb,k'⟩)] at hy
         by_cases k2:∃ b∈S.I,i=b.1
         . obtain⟨b,hb,rfl⟩:=k2
           obtain⟨y',t1,t2⟩:=s1 b hb
           rw[g2,Cb_ (λb' hb' k'=>k ⟨b',hb',k'⟩)] at t1
           have :=hle _ _ t1
           rw[hy] at this;cases this
           exact hp.hr.br _ _ t2
         . have hn:h.get i=none:=by rw[g1,Cb_ (λb hb k'=>k2 ⟨b,hb,k'⟩),he]
           obtain⟨f1,f2,f3⟩:=hp.fr i (hr.lt _ _ hy) hn
           rw[f1];exact (hr.br _ _ hy).mono hp.le
     . by_cases k:∃ b∈S.U,i=b.1
       . obtain⟨b,hb,rfl⟩:=k
         obtain⟨y',t1,t2⟩:=s2 b hb
         exact hp.hr.lt _ _ t2
       . rw[Cb_ (λb hb k'=>k ⟨b,hb,k'⟩)] at hy
         exact BV (hr.lt _ _ hy) hp.nle
     . have hn':h.get i=none:=by
         cases w:h.get i with
         |none=>rfl
         |some y=>rw[hle i y w] at h0n;cases h0n
       obtain⟨f1,f2,f3⟩:=hp.fr i hn hn'
       refine⟨f1,f2,?_⟩
       rw[ht,Cb_,h0n]
       intro b hb k
       subst k
       obtain⟨y',t1,t2⟩:=s2 b hb
       rw[f3] at t2;cases t2
theorem N1_{g:FuncId}(hcl:S_ P g):∀ {l:List Sn},(∀ S∈l,∀ (h0:He),allB h0 S.I=true->∀ t0:He,(∀ i,t0.get i=ov S.U i (h0.get i))->∀ N H,GH G H->Cs P N H g S.args h0 S.nx S.c t0 S.nx')->CSp P G g (.snap (snF l))
 |[],_=>⟨hcl,λargs h nx c h' nx' e=>by simp only[snF,reduceCtorEq] at e⟩
 | S::r,hs=>⟨hcl,λargs h nx c h' nx' e=>by
     simp only[snF] at e
     cases q:(A3 nx S.nx&&(cvsB args S.args&&allB h S.I)) with
     |true=>
       rw[q] at e;simp only[cond_true] at e
       simp only[A2] at q
       obtain⟨q1,q2,q3⟩:=q
       have q1:=A0 q1;have q2:=Cz_ q2
       subst q1;subst q2
       obtain⟨t,e1,e2⟩:=Gy_ e
       simp only[Option.some.injEq,Prod.mk.injEq] at e1
       obtain⟨rfl,rfl,rfl⟩:=e1
       exact λN H hG=>hs S xP h q3 _ e2 N H hG
     |false=>
       rw[q] at e;simp only[cond_false] at e
       exact (N1_ hcl λT hT=>hs T (by simp[hT])).2 args h nx c h' nx' e⟩
end
end Go.CE
namespace Go.CE
open Go.SW
variable{P:Program}{H:Hp}{G:Gt}
def rv:Nat->Nat->Nat
 |0,_=>0
 |k+1,n=>DG (EN n (B3 256 k)) 256+256*rv k n
theorem Jf_:∀ k n,enc (numB k n)=rv k n
 |0,_=>rfl
 |k+1,n=>by
   simp only[numB,enc,rv,Jf_ k n]
   rw[show (UInt8.ofNat (n/256 ^ k)).toNat=n/256 ^ k%256 from by simp]
   rfl
def nK(b:Int):Nat:=match b with
 | .ofNat b=>bif A6 b 8 then b else 8
 | .negSucc _=>0
theorem nK_eq(b:Int):nK b=numK b:=by
 unfold nK numK
 cases b with
 |ofNat b=>
   simp only
   cases h:A6 b 8 with
   |true=>have :=A1 h;simp only[cond_true,B9];omega
   |false=>
     have :¬b<=8:=λq=>by rw[Nat.ble_eq_true_of_le q] at h;cases h
     simp only[cond_false,B9];omega
 |negSucc b=>simp only;omega
def numS:List CV->Option CV
 |[.agg [.str l x, .int .i64 e], .int .u64 (.ofNat n), .int .i64 (.ofNat b)]=>
   bif A6 l 4611686018427387904&&(A6 n 18446744073709551615&&A6 b 9223372036854775807) then some (.agg [.str (l+nK (.ofNat b)) (Nat.add x (Nat.mul (rv (nK (.ofNat b)) n) (B3 256 l))), .int .i64 e]) else none
 |_=>none
theorem Pd_{g:FuncId}(hc:S_ P g)(h:∀ (H:Hp) (o:Out) (n:Int),0<=n/\n<=18446744073709551615->∀ (bytes:Int),-9223372036854775808<=bytes/\bytes<=9223372036854775807->o.s.length<=4611686018427387904->Pr P g #[.agg (Out.cells o).toArray, .int .u64 n, .int .i64 bytes] H (.agg (Out.cells (Ne_ o n bytes)).toArray)):CSp P G g (.pure numS):=by
 refine⟨hc,λargs c e H hG β N L vs w hv hm=>?_⟩;unfold numS at e
 split at e
 . rename_i l x e0 n b
   cases hb:(A6 l 4611686018427387904&&(A6 n 18446744073709551615&&A6 b 9223372036854775807)) with
   |false=>rw[hb] at e;cases e
   |true=>
     rw[hb] at e
     simp only[A2] at hb
     simp only[cond_true,Option.some.injEq] at e;subst e
     obtain⟨v1,us,rfl,h1,h2⟩:=hv.cons_inv
     obtain⟨v2,us,rfl,h3,h4⟩:=h2.cons_inv
     obtain⟨v3,us,rfl,h5,h6⟩:=h4.cons_inv
     rw[h6.nil_inv]
     simp only[VR] at h1 h3 h5
     obtain⟨ws,rfl,h1⟩:=h1
     obtain⟨u1,us,rfl,g1,g2⟩:=VRs.cons_inv h1
     obtain⟨u2,us,rfl,g3,g4⟩:=g2.cons_inv
     rw[g4.nil_inv]
     simp only[VR] at g1 g3
     obtain⟨hx,rfl⟩:=g1
     subst g3;subst h3;subst h5
     have hl:(dec l x).length=l:=C_ l x
     have :=h H ⟨dec l x,e0⟩ (AQ n) ⟨Int.natCast_nonneg _,by have :=A1 hb.2.1;simp only[B9];omega⟩ (AQ b) ⟨by simp only[B9];omega,by have :=A1 hb.2.2;simp only[B9];omega⟩ (by show (dec l x).length<=_;rw[hl];exact A1 hb.1) N L w hm
     refine this.mono λen w' ⟨h1,h2⟩=>⟨_,h1,?_,h2⟩
     simp only[Ne_,Out.cells,VR]
     refine⟨_,rfl,?_⟩
     have hk:rv (nK (.ofNat b)) n=enc (numB (numK (.ofNat b)) n):=by rw[nK_eq,Jf_]
     have hk2:(numB (numK (.ofNat b)) n).length=numK (.ofNat b):=Ec_ _ _
     have hlt:=Je_ (numB (numK (.ofNat b)) n)
     rw[hk2] at hlt
     refine VRs.cons ?_ (VRs.cons wE .nil)
     simp only[VR]
     rw[hk,nK_eq]
     refine⟨?_,?_⟩
     . show x+enc (numB (numK (AQ b)) n)*256 ^ l<_
       have e:256 ^ (l+numK (AQ b))=256 ^ numK (AQ b)*256 ^ l:=by rw[FS,CD]
       have :(enc (numB (numK (AQ b)) n)+1)*256 ^ l<=256 ^ numK (AQ b)*256 ^ l:=BS _ hlt
       exact yL
     . show _=SW.str (dec (l+numK (AQ b)) (x+enc (numB (numK (AQ b)) n)*256 ^ l))
       rw[<- C0_ l _ x _ hx]
       have e:=Gf_ (numB (numK (AQ b)) n)
       rw[hk2] at e
       rw[e];rfl
 . cases e
def crcT':Nat:=9937593612760466100516450665319420528403982636753068485404800763335476026940182181175496972418787619281442302519629725716261212251300561153615832085954560
def tabN(i:Nat):Nat:=DG (EN crcT' (B3 2 (Nat.mul 32 i))) 4294967296
theorem tabN_eq:∀ i,i<16->laidT.getD i 0=Int.ofNat (tabN i):=by decide +kernel
theorem N6_(i:Nat):tabN i<4294967296:=D0 _ xQ
def crcN(r:Nat):Nat:=E8 (EN r 16) (tabN (DG r 16))
theorem H2_{a b:Nat}(ha:a<4294967296)(hb:b<4294967296):Oh_ (Int.ofNat a) (Int.ofNat b)=Int.ofNat (Nat.xor a b):=by
 have hx:E8 a b<4294967296:=DI (n:=32) ha hb;have e:(A4 (A5 .u32) (AQ a) ^^^ A4 (A5 .u32) (AQ b)).toNat=E8 a b:=by
   rw[BitVec.toNat_xor,G7_,G7_]
   show (a%4294967296) ^^^ (b%4294967296)=_
   rw[C9 ha,C9 hb];rfl
 unfold Oh_;rw[e];clear e;generalize E8 a b=z at *;exact yV
theorem K8_{a:Nat}(ha:a<4294967296):(K9_ (Int.ofNat a) 15).toNat=a%16:=by
 have e:(A4 (A5 .u32) (AQ a) &&& A4 (A5 .u32) 15).toNat=a%16:=by
   rw[BitVec.toNat_and,G7_,show (15:Int)=AQ 15 from rfl,G7_]
   show (a%4294967296) &&& (15%4294967296)=_
   rw[C9 ha]
   exact Nat.and_two_pow_sub_one_eq_mod a 4
 unfold K9_;rw[e];exact yV
theorem Jb_{a:Nat}(ha:a<4294967296):SW.crc1 (Int.ofNat a)=Int.ofNat (crcN a):=by
 unfold SW.crc1 crcN;rw[K8_ ha,tabN_eq _ (D0 _ xQ)];have e:Int.fdiv (AQ a) (2 ^ (min (4:Int).toNat (A5 .u32)))=AQ (a/16):=by
   show Int.fdiv (AQ a) 16=_
   rw[Int.fdiv_eq_ediv_of_nonneg _ xQ]
   rfl
 rw[e,H2_ xN (N6_ _)];rfl
theorem crcN_lt{a:Nat}(ha:a<4294967296):crcN a<4294967296:=DI (n:=32) (show a/16<2 ^ 32 by omega) (N6_ _)
def crcS:List CV->Option CV
 |[.int .u32 (.ofNat r), .int .u8 (.ofNat b)]=>bif AC r 4294967296&&AC b 256 then some (.int .u32 (.ofNat (crcN (crcN (E8 r b))))) else none
 |_=>none
theorem Fc_{β:Be}{k:IntKind}:∀ {zs:List Int} {vs:List Value},VRs β (zs.map (CV.int k)) vs->vs=zs.map (Value.int k)
 |[],_,h=>h.nil_inv
 |z::r,_,h=>by
   obtain⟨v,us,rfl,h1,h2⟩:=VRs.cons_inv h
   simp only[VR] at h1
   subst h1
   rw[Fc_ h2];rfl
theorem gh_tab{t:Nat}{zs:List Int}(h:GH G H)(e:gbE G t=some (zs.map (CV.int .u32))):GTab H t zs:=by
 obtain⟨vs,T,fr,h1,h2⟩:=h.h _ _ e;refine⟨T,fr,?_⟩;rw[<- Fc_ (h2 λ_=>none)];simpa using h1
theorem Or_{g:FuncId}{t:Nat}(hg:gbE G t=some (laidT.map (CV.int .u32)))(hc:S_ P g)(h:∀ (H:Hp),GTab H t laidT->∀ (r:Int),0<=r/\r<=4294967295->∀ (b:Int),0<=b/\b<=255->Pr P g #[.int .u32 r, .int .u8 b] H (.int .u32 (Gd_ r b))):CSp P G g (.pure crcS):=by
 refine⟨hc,λargs c e H hG β N L vs w hv hm=>?_⟩;unfold crcS at e
 split at e
 . rename_i r b
   cases hb:(AC r 4294967296&&AC b 256) with
   |false=>rw[hb] at e;cases e
   |true=>
     rw[hb] at e
     simp only[A2] at hb
     have hr:=A1 hb.1;have hb:=A1 hb.2
     simp only[cond_true,Option.some.injEq] at e;subst e
     obtain⟨v1,us,rfl,h1,h2⟩:=hv.cons_inv
     obtain⟨v2,us,rfl,h3,h4⟩:=h2.cons_inv
     rw[h4.nil_inv]
     simp only[VR] at h1 h3
     subst h1;subst h3
     refine (h H (gh_tab hG hg) (AQ r) ⟨Int.natCast_nonneg _,by simp only[B9];omega⟩ (AQ b) ⟨Int.natCast_nonneg _,by simp only[B9];omega⟩ N L w hm).mono λen w' ⟨h1,h2⟩=>⟨_,h1,?_,h2⟩
     simp only[VR]
     unfold Gd_
     have hx:E8 r b<4294967296:=DI (n:=32) xN xN
     rw[H2_ xN xN]
     simp only[Op_]
     rw[Jb_ hx,Jb_ (crcN_lt hx)]
 . cases e
end Go.CE
