/-
  A part of the proof of ScriptTells: The library's contract of strings.Repeat, laid at this seat (printed by the kit's lay-plain.mjs), and turned
-/
import Derived.Shelf.LaysM
import Derived.Shelf.Strings.Repeat
import Derived.Test.YtlemlalknchmcaaGreatDoorScriptTellsP1
import Derived.Test.YtlemlalknchmcaaGreatDoorProg
import Derived.MapKept
import Derived.Lib.Bytealg
set_option linter.unusedVariables false
set_option linter.unusedSimpArgs false
set_option maxRecDepth 100000
set_option maxHeartbeats 4000000
open Array renaming ext'->DD,getElem?_modify->BL,toList_map->DU
open BitVec renaming ofInt->A4
open Bool renaming and_eq_true->A2,eq_iff_iff->E6,false_eq_true->DK,rec->D6,true_and->EU
open Go.Builtin renaming append_->AM,copy_->D2,firstCells->A8,lenOf->B4,min2->G2,unsafeString_->CM,zeroCells->AI
open Go.Instr renaming indexAt->CG,makeSlice->FW,slice->C4,sliceAt->BJ,sliceBounds->BU,sureAddr->BB
open Go.IntKind renaming bits->A5,signed->B5,wrap->AA
open Go.Lib renaming countByte->DE,indexByte->C5,run_unsafeSliceData_row->E7
open Go.Op renaming intArith->EJ
open Go.Oper renaming wp->AX
open Go.Question renaming appendCap->AN,cut->CY
open Go.Result renaming andThen_ok->AF
open Go.Sem renaming run_bind->AL,run_pure->B6
open Go.Value renaming int->BM
open Go.World renaming freeze->EQ
open Int renaming natCast_emod->G1
open List renaming drop_succ_cons->FC,drop_zero->BW,ext_getElem?->DO,foldl_cons->CU,getD_eq_getElem?_getD->AO,getElem?_append->D1,getElem?_drop->AS,getElem?_eq_none->BQ,getElem?_map->AR,getElem?_take->AD,length->EB,length_append->AH,length_cons->AE,length_drop->E2,length_take->FV,map_append->CA,map_cons->DF,map_drop->C2,map_take->C3,mem_of_mem_drop->F6,mem_of_mem_take->F7,take_left->EG,take_length->FT,take_of_length_le->BZ,take_succ_cons->FD
open Nat renaming add_assoc->AZ,add_mul->AG,beq->A3,beq_refl->H8,ble->A6,ble_eq_true_of_le->BN,blt->AC,div->EN,div_div_eq_div_mul->EZ,eq_of_beq_eq_true->A0,le_of_ble_eq_true->A1,le_refl->AY,lt_of_lt_of_le->BV,lt_succ_self->DZ,min->H9,mod->DG,mod_eq_of_lt->C9,mod_lt->D0,mul_assoc->GQ,mul_comm->CD,mul_le_mul_right->BS,ne_of_beq_eq_false->BA,one_mul->FN,pos_of_ne_zero->DH,pow->B3,pow_add->FS,pow_pos->BH,pow_succ->BE,rec->H7,sub->CZ,zero_add->BG
open Option renaming map_some->AV
open UInt8 renaming ofNat->B7,toNat->GR
open Go.Proofs.Tryz
namespace Go.Proofs
open Go.Shelf
def Tryz.lays105_ren:Go.Shelf.Ren:=⟨λ|105=>360|212=>445|99=>446|165=>67|166=>68|170=>447|169=>69|263=>516|264=>517|206=>518|240=>104|241=>105|276=>143|277=>144|n=>n,λ|9=>9|3=>3|4=>4|20=>20|0=>0|46=>221|109=>589|5=>5|72=>118|76=>122|51=>68|146=>513|53=>28|148=>642|70=>115|37=>116|75=>121|127=>173|164=>225|80=>124|n=>n,λ|n=>n⟩
theorem Tryz.lays105:Go.Proofs.Lays.n105 prog Tryz.lays105_ren:={
 mixed:=by kernel_rfl
 f99:=func446.trans (congrArg some xO)
 f105:=func360.trans (congrArg some xO)
 f165:=func67.trans (congrArg some xO)
 f166:=func68.trans (congrArg some xO)
 f169:=func69.trans (congrArg some xO)
 f170:=func447.trans (congrArg some xO)
 f206:=func518.trans (congrArg some xO)
 f212:=func445.trans (congrArg some xO)
 f240:=func104.trans (congrArg some xO)
 f241:=func105.trans (congrArg some xO)
 f263:=func516.trans (congrArg some xO)
 f264:=func517.trans (congrArg some xO)
 f276:=func143.trans (congrArg some xO)
 f277:=func144.trans (congrArg some xO)
 t0:=underlying0
 a0:=isAgg0
 z0:=sizeOf0
 v0:=zeroValue0
 t3:=underlying3
 a3:=isAgg3
 z3:=sizeOf3
 v3:=zeroValue3
 t4:=underlying4
 a4:=isAgg4
 z4:=sizeOf4
 v4:=zeroValue4
 t5:=underlying5
 a5:=isAgg5
 z5:=sizeOf5
 v5:=zeroValue5
 t9:=underlying9
 a9:=isAgg9
 z9:=sizeOf9
 v9:=zeroValue9
 t20:=underlying20
 a20:=isAgg20
 z20:=sizeOf20
 v20:=zeroValue20
 t37:=underlying116
 a37:=isAgg116
 z37:=sizeOf116
 v37:=zeroValue116
 t46:=underlying221
 a46:=isAgg221
 z46:=sizeOf221
 v46:=zeroValue221
 t51:=underlying68
 a51:=isAgg68
 z51:=sizeOf68
 v51:=zeroValue68
 t53:=underlying28
 a53:=isAgg28
 z53:=sizeOf28
 v53:=zeroValue28
 t70:=underlying115
 a70:=isAgg115
 z70:=sizeOf115
 v70:=zeroValue115
 t72:=underlying118
 a72:=isAgg118
 z72:=sizeOf118
 v72:=zeroValue118
 t75:=underlying121
 a75:=isAgg121
 z75:=sizeOf121
 v75:=zeroValue121
 t76:=underlying122
 a76:=isAgg122
 z76:=sizeOf122
 v76:=zeroValue122
 t109:=underlying589
 a109:=isAgg589
 z109:=sizeOf589
 v109:=zeroValue589
 t127:=underlying173
 a127:=isAgg173
 z127:=sizeOf173
 v127:=zeroValue173
 t146:=underlying513
 a146:=isAgg513
 z146:=sizeOf513
 v146:=zeroValue513
 t148:=underlying642
 a148:=isAgg642
 z148:=sizeOf642
 v148:=zeroValue642
 t164:=underlying225
 a164:=isAgg225
 z164:=sizeOf225
 v164:=zeroValue225}
theorem Tryz.Builder_Extra_105:Builder.Extra prog Tryz.lays105_ren:={
 sizeBuilder:=by kernel_rfl
 liesBuilder:=by kernel_rfl
 t5:=underlying5
 a5:=isAgg5
 z5:=sizeOf5
 v5:=zeroValue5
 infoByte:=by kernel_rfl
 cellsByte:=by kernel_rfl
 sizeByte:=by kernel_rfl
 neB5:=by decide}
open Go.RowKit Go.Lib in
theorem Tryz.strings_Repeat(s:ByteArray)(c:Nat)(w:World)(hc:c<=9223372036854775807)(hlen:s.size*c<=140737488355328) :
   Calls prog 360 #[.string s, .int .i64 c] w λe w'=>e = .returned (.string ⟨(Lib.repeatL s.data.toList c).toArray⟩)/\Below w.heap.size w w':=Any.strings_Repeat Tryz.lays105 Tryz.Builder_Extra_105 s c w hc hlen
end Go.Proofs
namespace Go.SW
open Go.Proofs
theorem I1_(s:Bs)(c:Nat)(N:Rest)(H:Hp)(L:Ls)(w:World)(h:s.length*c<=140737488355328)(hc:c<=9223372036854775807)(hm:Mem N H L w):Calls prog 360 #[str s, .int .i64 (c:Int)] w λen w'=>en = .returned (str (Lib.repeatL s c))/\Mem N H L w':=by
 refine (Tryz.strings_Repeat ⟨s.toArray⟩ c w hc (by simpa [ByteArray.size] using h)).mono λe w' ⟨he,hb⟩=>⟨he,?_⟩;refine hm.of_same hb.os hb.tape hb.output λc o ho=>?_;exact yN
end Go.SW
namespace Go.SW
open Go.MapKept
variable{P:Program}{n:Nat}{N:Rest}{ops:List Oper}{F:Fr}{H:Hp}{L:Ls}{K:Fr->Hp->Ls->Prop}{T ty d:Nat}{pos:String}{af:Array Edge}{x y z:Operand}{κ ν:Type}
theorem M7_(i:Nat)(hd:Nat.blt d n=true)(k:∀ b,K (upd F d (.map (some b))) H (lupd L i (some (b, .map #[] 0)))):Op1 P n N ops ⟨some d, .makeMap T none,ty,pos,af,none⟩ K F H L:=by
 intro a w ha hm;rw[if_pos xR];unfold AX;have :(execOp a.eval ⟨some d, .makeMap T none,ty,pos,af,none⟩).run P w = .ok (.value (.map (some w.heap.size))) {w with heap:=w.heap.push (.map #[] 0)}:=by
   rw[ha.eval]
   simp[execOp,Instr.makeMap,Result.andThen]
 exact yR
end Go.SW
namespace Go.CE
open Go.SW
inductive Tr(α:Type) where
 |e
 |n (l:Tr α) (v:Option α) (r:Tr α)
noncomputable def Tr.get{α:Type}(t:Tr α)(k:Nat):Option α:=Tr.rec (motive:=λ_=>Nat->Option α) (λ_=>none) (λ_ v _ ihl ihr k=>H7 (motive:=λ_=>Option α) v (λk _=>D6 (motive:=λ_=>Option α) (ihr (EN k 2)) (ihl (EN k 2)) (A3 (DG k 2) 0)) k) t k
theorem Tr.get_e{α:Type}{k:Nat}:(Tr.e:Tr α).get k=none:=rfl
theorem Tr.get_0{α:Type}{l r:Tr α}{v:Option α}:(Tr.n l v r).get 0=v:=rfl
theorem Tr.get_s{α:Type}{l r:Tr α}{v:Option α}{k:Nat}:(Tr.n l v r).get (k+1) = bif Nat.beq (k%2) 0 then l.get (k/2) else r.get (k/2):=by
 show D6 (motive:=λ_=>Option α) (r.get (k/2)) (l.get (k/2)) (A3 (k%2) 0)=_
 cases A3 (k%2) 0<;>rfl
section
variable{α β:Type}
noncomputable def sRoot(t:Tr α)(v:α)(c:Tr α->Option β):Option β:=Tr.rec (motive:=λ_=>Option β) (c (.n .e (some v) .e)) (λl _ r _ _=>c (.n l (some v) r)) t
noncomputable def sL(ih:Tr α->α->(Tr α->Option β)->Option β)(t:Tr α)(v:α)(c:Tr α->Option β):Option β:=Tr.rec (motive:=λ_=>Option β) (ih .e v λl=>c (.n l none .e)) (λl w r _ _=>ih l v λl=>c (.n l w r)) t
noncomputable def sR(ih:Tr α->α->(Tr α->Option β)->Option β)(t:Tr α)(v:α)(c:Tr α->Option β):Option β:=Tr.rec (motive:=λ_=>Option β) (ih .e v λr=>c (.n .e none r)) (λl w r _ _=>ih r v λr=>c (.n l w r)) t
noncomputable def sS:Nat->Nat->Tr α->α->(Tr α->Option β)->Option β:=H7 (motive:=λ_=>Nat->Tr α->α->(Tr α->Option β)->Option β) (λ_ _ _ _=>none) (λ_ ih k=>H7 (motive:=λ_=>Tr α->α->(Tr α->Option β)->Option β) sRoot (λk _=>D6 (motive:=λ_=>Tr α->α->(Tr α->Option β)->Option β) (sR (ih (EN k 2))) (sL (ih (EN k 2))) (A3 (DG k 2) 0)) k)
end
noncomputable def Tr.setK{α β:Type}(d:Nat)(t:Tr α)(k:Nat)(v:α)(c:Tr α->Option β):Option β:=sS d k t v c
theorem Tr.setK_0{α β:Type}{t:Tr α}{k:Nat}{v:α}{c:Tr α->Option β}:Tr.setK 0 t k v c=none:=rfl
theorem Tr.setK_e0{α β:Type}{d:Nat}{v:α}{c:Tr α->Option β}:Tr.setK (d+1) .e 0 v c=c (.n .e (some v) .e):=rfl
theorem Tr.setK_n0{α β:Type}{d:Nat}{l r:Tr α}{w:Option α}{v:α}{c:Tr α->Option β}:Tr.setK (d+1) (.n l w r) 0 v c=c (.n l (some v) r):=rfl
theorem Tr.setK_es{α β:Type}{d k:Nat}{v:α}{c:Tr α->Option β}:Tr.setK (d+1) .e (k+1) v c = bif Nat.beq (k%2) 0 then Tr.setK d .e (k/2) v (λl=>c (.n l none .e)) else Tr.setK d .e (k/2) v (λr=>c (.n .e none r)):=by
 show D6 (motive:=λ_=>Tr α->α->(Tr α->Option β)->Option β) (sR (sS d (k/2))) (sL (sS d (k/2))) (A3 (k%2) 0) .e v c=_
 cases A3 (k%2) 0<;>rfl
theorem Tr.setK_ns{α β:Type}{d k:Nat}{l r:Tr α}{w:Option α}{v:α}{c:Tr α->Option β}:Tr.setK (d+1) (.n l w r) (k+1) v c = bif Nat.beq (k%2) 0 then Tr.setK d l (k/2) v (λl=>c (.n l w r)) else Tr.setK d r (k/2) v (λr=>c (.n l w r)):=by
 show D6 (motive:=λ_=>Tr α->α->(Tr α->Option β)->Option β) (sR (sS d (k/2))) (sL (sS d (k/2))) (A3 (k%2) 0) (.n l w r) v c=_
 cases A3 (k%2) 0<;>rfl
theorem Tr.setK_ok{α β:Type}:∀ (d:Nat) (t:Tr α) (k:Nat) (v:α) (c:Tr α->Option β) (z:β),Tr.setK d t k v c=some z ->
   ∃ t':Tr α,c t'=some z/\t'.get k=some v/\∀ j,j≠k->t'.get j=t.get j
 |0,_,_,_,_,_,h=>by rw[Tr.setK_0] at h;cases h
 |d+1,t,k,v,c,z,h=>by
   have hp:∀ a b:Nat,a%2=b%2->a/2=b/2->a=b:=λa b _ _=>by omega
   have h01:∀ a:Nat,a%2=0\/a%2=1:=λa=>by omega
   cases t with
   |e=>
     cases k with
     |zero=>
       simp only[Tr.setK_e0,Tr.setK_n0,Tr.setK_es,Tr.setK_ns] at h
       exact⟨_,h,rfl,λj hj=>by cases j with|zero=>exact absurd Y hj|succ j=>simp[Tr.get_e,Tr.get_0,Tr.get_s]⟩
     |succ k=>
       simp only[Tr.setK_e0,Tr.setK_n0,Tr.setK_es,Tr.setK_ns] at h
       cases e:A3 (k%2) 0 with
       |true=>
         rw[e] at h
         obtain⟨t',h1,h2,h3⟩:=Tr.setK_ok d _ _ _ _ _ h
         refine⟨_,h1,by simp[Tr.get_s,e,h2],λj hj=>?_⟩
         cases j with
         |zero=>simp[Tr.get_e,Tr.get_0,Tr.get_s]
         |succ j=>
           simp only[Tr.get_e,Tr.get_0,Tr.get_s]
           cases e':A3 (j%2) 0 with
           |true=>
             have a:=A0 e;have b:=A0 e'
             have :=h3 (j/2) (λq=>hj wN)
             simpa [Tr.get_e] using this
           |false=>rfl
       |false=>
         rw[e] at h
         obtain⟨t',h1,h2,h3⟩:=Tr.setK_ok d _ _ _ _ _ h
         refine⟨_,h1,by simp[Tr.get_s,e,h2],λj hj=>?_⟩
         cases j with
         |zero=>simp[Tr.get_e,Tr.get_0,Tr.get_s]
         |succ j=>
           simp only[Tr.get_e,Tr.get_0,Tr.get_s]
           cases e':A3 (j%2) 0 with
           |true=>rfl
           |false=>
             have a:=BA e;have b:=BA e'
             have :=h3 (j/2) (λq=>hj wN)
             simpa [Tr.get_e] using this
   |n l w r=>
     cases k with
     |zero=>
       simp only[Tr.setK_e0,Tr.setK_n0,Tr.setK_es,Tr.setK_ns] at h
       exact⟨_,h,rfl,λj hj=>by cases j with|zero=>exact absurd Y hj|succ j=>simp[Tr.get_e,Tr.get_0,Tr.get_s]⟩
     |succ k=>
       simp only[Tr.setK_e0,Tr.setK_n0,Tr.setK_es,Tr.setK_ns] at h
       cases e:A3 (k%2) 0 with
       |true=>
         rw[e] at h
         obtain⟨t',h1,h2,h3⟩:=Tr.setK_ok d _ _ _ _ _ h
         refine⟨_,h1,by simp[Tr.get_s,e,h2],λj hj=>?_⟩
         cases j with
         |zero=>simp[Tr.get_e,Tr.get_0,Tr.get_s]
         |succ j=>
           simp only[Tr.get_e,Tr.get_0,Tr.get_s]
           cases e':A3 (j%2) 0 with
           |true=>
             have a:=A0 e;have b:=A0 e'
             exact h3 (j/2) (λq=>hj wN)
           |false=>rfl
       |false=>
         rw[e] at h
         obtain⟨t',h1,h2,h3⟩:=Tr.setK_ok d _ _ _ _ _ h
         refine⟨_,h1,by simp[Tr.get_s,e,h2],λj hj=>?_⟩
         cases j with
         |zero=>simp[Tr.get_e,Tr.get_0,Tr.get_s]
         |succ j=>
           simp only[Tr.get_e,Tr.get_0,Tr.get_s]
           cases e':A3 (j%2) 0 with
           |true=>rfl
           |false=>
             have a:=BA e;have b:=BA e'
             exact h3 (j/2) (λq=>hj wN)
inductive CV where
 |int (k:IntKind) (z:Int)
 |bool (b:Bool)
 |str (n x:Nat)
 |agg (cs:List CV)
 |tup (vs:List CV)
 |ptr (i off:Nat)
 |gp (g off:Nat)
 |nilp
 |sl (i off len cap:Nat)
 |slu (i off len k:Nat)
 |nils
 |fn (f:FuncId) (first cap:List CV)
 |nilf
 |mp (i:Nat)
 |nilm
 |ifc (t:TypeId) (v:CV)
 |nili
structure Pl where
 b:Nat
 s:Nat
 r:Nat
abbrev Be:=Nat->Option Pl
def Be.le(β β':Be):Prop:=∀ i q,β i=some q->β' i=some q
theorem Be.le.refl(β:Be):β.le β:=λ_ _ h=>h
theorem Be.le.trans{a b c:Be}(h:a.le b)(k:b.le c):a.le c:=λi q x=>k i q (h i q x)
def dec:Nat->Nat->Bs
 |0,_=>[]
 |n+1,x=>B7 (x%256)::dec n (x/256)
theorem C_:∀ (n x:Nat),(dec n x).length=n
 |0,_=>rfl
 |n+1,x=>by simp[dec,C_ n]
theorem C0_:∀ (n m x y:Nat),x<256 ^ n->dec n x++dec m y=dec (n+m) (x+y*256 ^ n)
 |0,m,x,y,h=>by simp at h;subst h;simp[dec]
 |n+1,m,x,y,h=>by
   have h1:x/256<256 ^ n:=by rw[BE] at h;omega
   have e:(x+y*256 ^ (n+1))%256=x%256:=by rw[BE,<- GQ];omega
   have e2:(x+y*256 ^ (n+1))/256=x/256+y*256 ^ n:=by rw[BE,<- GQ];omega
   rw[show n+1+m=(n+m)+1 by omega]
   simp only[dec,List.cons_append]
   rw[C0_ n m _ y h1,e,e2]
theorem Bx_:∀ (l n x:Nat),l<=n->(dec n x).drop l=dec (n-l) (x/256 ^ l)
 |0,n,x,_=>by simp
 |l+1,0,x,h=>by omega
 |l+1,n+1,x,h=>by
   simp only[dec,FC]
   rw[Bx_ l n _ xN,EZ,BE,CD 256,show n+1-(l+1)=n-l by omega]
theorem Bj_:∀ (l n x:Nat),l<=n->(dec n x).take l=dec l (x%256 ^ l)
 |0,n,x,_=>by simp[dec]
 |l+1,0,x,h=>by omega
 |l+1,n+1,x,h=>by
   simp only[dec,FD]
   have e:x%256 ^ (l+1)%256=x%256:=by rw[BE];exact Nat.mod_mod_of_dvd _ ⟨256 ^ l,CD _ _⟩
   have e2:x%256 ^ (l+1)/256=x/256%256 ^ l:=by rw[BE,CD];exact Nat.mod_mul_right_div_self _ _ _
   rw[Bj_ l n _ xN,e,e2]
theorem Ln_:∀ (n x y:Nat),x<256 ^ n->y<256 ^ n->dec n x=dec n y->x=y
 |0,x,y,h,k,_=>by simp at h k;omega
 |n+1,x,y,h,k,e=>by
   rw[BE] at h k
   simp only[dec,List.cons.injEq] at e
   have :=Ln_ n _ _ xN xN e.2
   have e1:=congrArg GR e.1
   simp at e1
   omega
theorem Eo_:∀ (n x i:Nat),i<n->(dec n x)[i]? = some (UInt8.ofNat (x/256 ^ i%256))
 |0,_,_,h=>by omega
 |n+1,x,0,_=>by simp[dec]
 |n+1,x,i+1,h=>by
   simp only[dec,List.getElem?_cons_succ]
   rw[Eo_ n _ i xN,EZ,BE,CD 256]
def enc:Bs->Nat
 |[]=>0
 |a::r=>a.toNat+256*enc r
theorem Je_:∀ (s:Bs),enc s<256 ^ s.length
 |[]=>by simp[enc]
 |a::r=>by
   have :=Je_ r
   have h:=a.toNat_lt
   simp only[enc,AE,BE]
   omega
theorem Gf_:∀ (s:Bs),dec s.length (enc s)=s
 |[]=>rfl
 |a::r=>by
   have h:=a.toNat_lt
   simp only[enc,AE,dec]
   rw[show (a.toNat+256*enc r)%256=a.toNat by omega,show (a.toNat+256*enc r)/256=enc r by omega,Gf_ r]
   simp
mutual
def VR(β:Be):CV->Value->Prop
 | .int k z,v=>v = .int k z
 | .bool b,v=>v = .bool b
 | .str n x,v=>x<256 ^ n/\v=SW.str (dec n x)
 | .agg cs,v=>∃ vs,v = .agg vs.toArray/\VRs β cs vs
 | .tup cs,v=>∃ vs,v = .tuple vs.toArray/\VRs β cs vs
 | .ptr i off,v=>∃ q,β i=some q/\v = .pointer (some ⟨q.b,q.s+off,none⟩)
 | .gp g off,v=>v = .pointer (some ⟨g,off,none⟩)
 | .nilp,v=>v = .pointer none
 | .sl i off len cap,v=>∃ q,β i=some q/\v = .slice (some ⟨q.b,q.s+off,none⟩) len cap
 | .slu i off len k,v=>∃ q c a,β i=some q/\off+c*k=q.r/\len<=c/\v = .slice (some a) len c/\(0<c->a=⟨q.b,q.s+off,none⟩)
 | .nils,v=>v = .slice none 0 0
 | .fn f first cap,v=>∃ vs us,v = .func (.func f) vs.toArray us.toArray/\VRs β first vs/\VRs β cap us
 | .nilf,v=>v = .nilFunc
 | .mp i,v=>∃ q,β i=some q/\v = .map (some q.b)
 | .nilm,v=>v = .map none
 | .ifc t x,v=>∃ u,v = .iface t u/\VR β x u
 | .nili,v=>v = .nilIface
def VRs(β:Be):List CV->List Value->Prop
 |[],vs=>vs=[]
 |c::r,vs=>∃ v us,vs=v::us/\VR β c v/\VRs β r us
end
mutual
theorem VR.mono{β β':Be}(hl:β.le β'):∀ {c:CV} {v:Value},VR β c v->VR β' c v
 | .int _ _,_,h=>h
 | .bool _,_,h=>h
 | .str _ _,_,h=>h
 | .agg _,_,h=>by simp only[VR] at h ⊢;obtain⟨vs,rfl,h1⟩:=h;exact⟨vs,rfl,VRs.mono hl h1⟩
 | .tup _,_,h=>by simp only[VR] at h ⊢;obtain⟨vs,rfl,h1⟩:=h;exact⟨vs,rfl,VRs.mono hl h1⟩
 | .ptr _ _,_,h=>by simp only[VR] at h ⊢;obtain⟨q,h1,h2⟩:=h;exact⟨q,hl _ _ h1,h2⟩
 | .gp _ _,_,h=>h
 | .nilp,_,h=>h
 | .sl _ _ _ _,_,h=>by simp only[VR] at h ⊢;obtain⟨q,h1,h2⟩:=h;exact⟨q,hl _ _ h1,h2⟩
 | .slu _ _ _ _,_,h=>by simp only[VR] at h ⊢;obtain⟨q,c,a,h1,h2⟩:=h;exact⟨q,c,a,hl _ _ h1,h2⟩
 | .nils,_,h=>h
 | .fn _ _ _,_,h=>by simp only[VR] at h ⊢;obtain⟨vs,us,rfl,h1,h2⟩:=h;exact⟨vs,us,rfl,VRs.mono hl h1,VRs.mono hl h2⟩
 | .nilf,_,h=>h
 | .mp _,_,h=>by simp only[VR] at h ⊢;obtain⟨q,h1,h2⟩:=h;exact⟨q,hl _ _ h1,h2⟩
 | .nilm,_,h=>h
 | .ifc _ _,_,h=>by simp only[VR] at h ⊢;obtain⟨u,rfl,h1⟩:=h;exact⟨u,rfl,VR.mono hl h1⟩
 | .nili,_,h=>h
theorem VRs.mono{β β':Be}(hl:β.le β'):∀ {cs:List CV} {vs:List Value},VRs β cs vs->VRs β' cs vs
 |[],_,h=>h
 |_::_,_,h=>by simp only[VRs] at h ⊢;obtain⟨v,us,rfl,h1,h2⟩:=h;exact⟨v,us,rfl,VR.mono hl h1,VRs.mono hl h2⟩
end
theorem VRs.length{β:Be}:∀ {cs:List CV} {vs:List Value},VRs β cs vs->vs.length=cs.length
 |[],_,h=>by simp only[VRs] at h;subst h;rfl
 |_::_,_,h=>by simp only[VRs] at h;obtain⟨v,us,rfl,_,h2⟩:=h;simp[VRs.length h2]
theorem VRs.nil{β:Be}:VRs β [] []:=by simp[VRs]
theorem VRs.cons{β:Be}{c:CV}{v:Value}{cs:List CV}{vs:List Value}(h:VR β c v)(k:VRs β cs vs):VRs β (c::cs) (v::vs):=by simp only[VRs];exact⟨v,vs,rfl,h,k⟩
theorem VRs.cons_inv{β:Be}{c:CV}{cs:List CV}{vs:List Value}(h:VRs β (c::cs) vs):∃ v us,vs=v::us/\VR β c v/\VRs β cs us:=by simpa only[VRs] using h
theorem VRs.nil_inv{β:Be}{vs:List Value}(h:VRs β [] vs):vs=[]:=by simpa only[VRs] using h
theorem VRs.app{β:Be}:∀ {cs ds:List CV} {vs us:List Value},VRs β cs vs->VRs β ds us->VRs β (cs++ds) (vs++us)
 |[],_,_,_,h,k=>by rw[h.nil_inv];exact k
 |_::_,_,_,_,h,k=>by obtain⟨v,us',rfl,h1,h2⟩:=h.cons_inv;exact .cons h1 (h2.app k)
theorem VRs.get{β:Be}:∀ {cs:List CV} {vs:List Value},VRs β cs vs->∀ {i:Nat} {c:CV},cs[i]? = some c->∃ v,vs[i]? = some v/\VR β c v
 |[],_,_,i,c,e=>by simp at e
 |_::_,_,h,i,c,e=>by
   obtain⟨v,us,rfl,h1,h2⟩:=h.cons_inv
   cases i with
   |zero=>simp at e;subst e;exact⟨v,rfl,h1⟩
   |succ i=>simp at e;obtain⟨w,h3,h4⟩:=h2.get e;exact⟨w,by simpa using h3,h4⟩
theorem VRs.take{β:Be}:∀ (n:Nat) {cs:List CV} {vs:List Value},VRs β cs vs->VRs β (cs.take n) (vs.take n)
 |0,_,_,_=>by simp[VRs]
 |n+1,[],_,h=>by rw[h.nil_inv];simp[VRs]
 |n+1,_::_,_,h=>by obtain⟨v,us,rfl,h1,h2⟩:=h.cons_inv;simp only[FD];exact .cons h1 (h2.take n)
theorem VRs.drop{β:Be}:∀ (n:Nat) {cs:List CV} {vs:List Value},VRs β cs vs->VRs β (cs.drop n) (vs.drop n)
 |0,_,_,h=>by simpa using h
 |n+1,[],_,h=>by rw[h.nil_inv];simp[VRs]
 |n+1,_::_,_,h=>by obtain⟨v,us,rfl,h1,h2⟩:=h.cons_inv;simp only[FC];exact h2.drop n
theorem VRs.set{β:Be}:∀ {cs:List CV} {vs:List Value} (n:Nat) {c:CV} {v:Value},VRs β cs vs->VR β c v->VRs β (cs.set n c) (vs.set n v)
 |[],_,_,_,_,h,_=>by rw[h.nil_inv];simp[VRs]
 |_::_,_,0,_,_,h,k=>by obtain⟨v,us,rfl,h1,h2⟩:=h.cons_inv;exact .cons k h2
 |_::_,_,n+1,_,_,h,k=>by obtain⟨v,us,rfl,h1,h2⟩:=h.cons_inv;exact .cons h1 (h2.set n k)
def one:CV->Bool
 | .agg _=>false
 | .tup _=>false
 |_=>true
theorem M2_{β:Be}{c:CV}{v:Value}(h:VR β c v)(ho:one c=true):v.oneCell'=true:=by
 cases c<;>simp only[VR,one] at h ho<;>first
   |(subst h;rfl)
   |(cases ho;done)
   |(obtain⟨_,rfl⟩:=h;rfl)
   |(obtain⟨_,_,rfl⟩:=h;rfl)
   |(obtain⟨_,rfl,_⟩:=h;rfl)
   |(obtain⟨_,_,_,_,_,_,rfl,_⟩:=h;rfl)
   |(obtain⟨_,_,rfl,_⟩:=h;rfl)
def all1:List CV->Bool
 |[]=>true
 |c::r=>one c&&all1 r
theorem Bd_{β:Be}:∀ {cs:List CV} {vs:List Value},VRs β cs vs->all1 cs=true->∀ v∈vs,v.oneCell'=true
 |[],_,h,_,v,hv=>by rw[h.nil_inv] at hv;cases hv
 |_::_,_,h,k,v,hv=>by
   obtain⟨w,us,rfl,h1,h2⟩:=h.cons_inv
   simp only[all1,A2] at k
   rcases List.mem_cons.1 hv with rfl|hv
   . exact M2_ h1 k.1
   . exact Bd_ h2 k.2 v hv
inductive HB where
 |cells (T:TypeId) (cs:List CV) (gr:Bool)
 |bys (T:TypeId) (n x:Nat) (gr:Bool)
 |rob (T:TypeId) (n x:Nat)
 |itr (n x p:Nat)
 |mp (es:List (CV×CV×Nat)) (clk:Nat)
 |dead
def ER(β:Be)(x:CV×CV×Nat)(e:MapEntry):Prop:=VR β x.1 e.key/\VR β x.2.1 e.val/\e.born=x.2.2
def ERs(β:Be):List (CV×CV×Nat)->List MapEntry->Prop
 |[],es=>es=[]
 |x::r,es=>∃ e fs,es=e::fs/\ER β x e/\ERs β r fs
theorem ERs.mono{β β':Be}(hl:β.le β'):∀ {xs:List (CV×CV×Nat)} {es:List MapEntry},ERs β xs es->ERs β' xs es
 |[],_,h=>h
 |_::_,_,h=>by simp only[ERs] at h ⊢;obtain⟨e,fs,rfl,h1,h2⟩:=h;exact⟨e,fs,rfl,⟨h1.1.mono hl,h1.2.1.mono hl,h1.2.2⟩,h2.mono hl⟩
def BR(β:Be)(i:Nat):HB->Option (Nat×Obj)->Prop
 | .cells T cs gr,x=>∃ q vs,β i=some q/\x=some (q.b,bx T vs)/\vs.length=q.s+q.r/\cs.length<=q.r/\(gr=false->q.s=0/\q.r=cs.length)/\VRs β cs ((vs.drop q.s).take cs.length)/\∀ v∈vs,v.oneCell'=true
 | .bys T n z gr,x=>∃ q vs,β i=some q/\x=some (q.b,bx T vs)/\vs.length=q.s+q.r/\n<=q.r/\(gr=false->q.s=0/\q.r=n)/\z<256 ^ n/\(vs.drop q.s).take n=(dec n z).map u8v/\∀ v∈vs,v.oneCell'=true
 | .rob T n z,x=>∃ q vs fr,β i=some q/\x=some (q.b, .cells vs T fr)/\q.s=0/\z<256 ^ n/\vs.toList.take n=(dec n z).map u8v
 | .itr n z p,x=>∃ q,β i=some q/\q.s=0/\z<256 ^ n/\x=some (q.b,SW.itr (dec n z) p)
 | .mp es clk,x=>∃ q fs,β i=some q/\x=some (q.b, .map fs clk)/\ERs β es fs.toList
 | .dead,x=>x=none
theorem BR.mono{β β':Be}(hl:β.le β'){i:Nat}{hb:HB}{x:Option (Nat×Obj)}(h:BR β i hb x):BR β' i hb x:=by
 cases hb with
 |cells T cs gr=>obtain⟨q,vs,h1,h2,h3,h4,h5,h6,h7⟩:=h;exact⟨q,vs,hl _ _ h1,h2,h3,h4,h5,h6.mono hl,h7⟩
 |bys T n z gr=>obtain⟨q,vs,h1,h2⟩:=h;exact⟨q,vs,hl _ _ h1,h2⟩
 |rob T n z=>obtain⟨q,vs,fr,h1,h2⟩:=h;exact⟨q,vs,fr,hl _ _ h1,h2⟩
 |itr n z p=>obtain⟨q,h1,h2⟩:=h;exact⟨q,hl _ _ h1,h2⟩
 |mp es clk=>obtain⟨q,fs,h1,h2,h3⟩:=h;exact⟨q,fs,hl _ _ h1,h2,h3.mono hl⟩
 |dead=>exact h
abbrev Fe:=Nat->Option CV
abbrev He:=Tr HB
def FR(β:Be)(f:Fe)(F:Fr):Prop:=∀ t c,f t=some c->VR β c (F t)
structure HR(β:Be)(h:He)(nx:Nat)(L:Ls):Prop where
 br:∀ i hb,h.get i=some hb->BR β i hb (L i)
 lt:∀ i hb,h.get i=some hb->i<nx
 fr:∀ i,nx<=i->β i=none/\L i=none
theorem FR.mono{β β':Be}(hl:β.le β'){f:Fe}{F:Fr}(h:FR β f F):FR β' f F:=λt c e=>(h t c e).mono hl
variable{P:Program}{N:SW.Rest}{F:Fr}{H:Hp}{L:Ls}{ty T T':TypeId}{x y z:Operand}{β:Be}{f:Fe}
def vC1:Value->Option CV
 | .int k n=>some (.int k n)
 | .bool b=>some (.bool b)
 | .string s=>some (.str s.data.toList.length (enc s.data.toList))
 | .pointer none=>some .nilp
 | .slice none 0 0=>some .nils
 | .nilFunc=>some .nilf
 | .map none=>some .nilm
 | .nilIface=>some .nili
 |_=>none
def vCs:List Value->Option (List CV)
 |[]=>some []
 |v::r=>match vC1 v with
   |some c=>match vCs r with
     |some cs=>some (c::cs)
     |none=>none
   |none=>none
def vC:Value->Option CV
 | .agg cs=>match vCs cs.toList with
   |some cs=>some (.agg cs)
   |none=>none
 |v=>vC1 v
theorem Rg_{v:Value}{c:CV}(h:vC1 v=some c):VR β c v:=by
 unfold vC1 at h
 split at h<;>first|(cases h;done)|skip
 all_goals (simp only[Option.some.injEq] at h;subst h)
 all_goals simp only[VR]
 rename_i s
 exact⟨Je_ _,by rw[Gf_];exact J9_ s⟩
theorem Od_:∀ {vs:List Value} {cs:List CV},vCs vs=some cs->VRs β cs vs
 |[],cs,h=>by simp only[vCs,Option.some.injEq] at h;subst h;exact .nil
 |v::r,cs,h=>by
   simp only[vCs] at h
   split at h
   . rename_i c hc
     split at h
     . rename_i ds hd
       simp only[Option.some.injEq] at h;subst h
       exact .cons (Rg_ hc) (Od_ hd)
     . cases h
   . cases h
theorem vC_ok{v:Value}{c:CV}(h:vC v=some c):VR β c v:=by
 unfold vC at h
 split at h
 . rename_i cs
   split at h
   . rename_i ds hd
     simp only[Option.some.injEq] at h;subst h
     simp only[VR]
     exact⟨cs.toList,rfl,Od_ hd⟩
   . cases h
 exact Rg_ h
def ef(f:Fe):Operand->Option CV
 | .tmp t=>f t
 | .const v=>vC v
 | .global g=>some (.gp g 0)
 | .func g=>some (.fn g [] [])
theorem P_(hf:FR β f F){c:CV}(h:ef f x=some c):VR β c (ev F x):=by
 cases x with
 |tmp t=>exact hf t c h
 |const v=>exact vC_ok h
 |func g=>simp only[ef,Option.some.injEq] at h;subst h;simp only[VR,ev];exact⟨[],[],rfl, .nil, .nil⟩
 |_=>simp only[ef,Option.some.injEq] at h;subst h;simp[VR,ev]
def efs(f:Fe):List Operand->Option (List CV)
 |[]=>some []
 |x::r=>match ef f x with
   |some c=>match efs f r with
     |some cs=>some (c::cs)
     |none=>none
   |none=>none
theorem C5_(hf:FR β f F):∀ {xs:List Operand} {cs:List CV},efs f xs=some cs->VRs β cs (evs F xs)
 |[],cs,h=>by simp only[efs,Option.some.injEq] at h;subst h;exact .nil
 |x::r,cs,h=>by
   simp only[efs] at h
   split at h
   . rename_i c hc
     split at h
     . rename_i ds hd
       simp only[Option.some.injEq] at h;subst h
       exact .cons (P_ hf hc) (C5_ hf hd)
     . cases h
   . cases h
def bI(op:BinOp)(k:IntKind)(a b:Int):Option CV:=
 match op with
 | .add=>some (.int k (k.wrap (a+b)))
 | .sub=>some (.int k (k.wrap (a-b)))
 | .mul=>some (.int k (k.wrap (a*b)))
 | .quo=>bif decide (b=0) then none else some (.int k (k.wrap (a.tdiv b)))
 | .rem=>bif decide (b=0) then none else some (.int k (a.tmod b))
 | .and=>some (.int k (k.wrap (A4 k.bits a &&& A4 k.bits b).toNat))
 | .or=>some (.int k (k.wrap (A4 k.bits a |||A4 k.bits b).toNat))
 | .xor=>some (.int k (k.wrap (A4 k.bits a ^^^ A4 k.bits b).toNat))
 | .andNot=>some (.int k (k.wrap (A4 k.bits a &&& ~~~A4 k.bits b).toNat))
 | .eql=>some (.bool (decide (a=b)))
 | .neq=>some (.bool (!decide (a=b)))
 | .lss=>some (.bool (decide (a<b)))
 | .leq=>some (.bool (decide (a<=b)))
 | .gtr=>some (.bool (decide (a>b)))
 | .geq=>some (.bool (decide (a>=b)))
 |_=>none
def mxN(k:IntKind):Nat:=match k with
 | .i8=>127
 | .i16=>32767
 | .i32=>2147483647
 | .i64=>9223372036854775807
 | .u8=>255
 | .u16=>65535
 | .u32=>4294967295
 | .u64=>18446744073709551615
def p2(n:Nat):Int:= .ofNat (B3 2 n)
theorem Pk_(n:Nat):p2 n=(2:Int) ^ n:=by
 show ((2 ^ n:Nat):Int)=_;rw[Int.natCast_pow];rfl
def wrN(k:IntKind)(r:Nat):Int:=bif k.signed&&AC (mxN k) r then .negSucc (CZ (CZ (B3 2 k.bits) r) 1) else .ofNat r
def wrF(k:IntKind)(z:Int):Int:=match z with
 | .ofNat m=>bif A6 m (mxN k) then .ofNat m else wrN k (DG m (B3 2 k.bits))
 | .negSucc m=>bif k.signed&&A6 m (mxN k) then .negSucc m else wrN k (CZ (CZ (B3 2 k.bits) 1) (DG m (B3 2 k.bits)))
theorem Ri_(k:IntKind)(r:Nat)(z:Int)(h:z%p2 k.bits=(r:Int))(hr:r<Nat.pow 2 k.bits):wrN k r=k.wrap z:=by
 unfold wrN AA;rw[<- Pk_,h]
 cases hs:k.signed with
 |false=>simp
 |true=>
   simp only[EU]
   cases hb:AC (mxN k) r with
   |true=>
     have hb:=A1 hb
     cases k<;>simp only[mxN,B5,reduceCtorEq] at hb hs<;>simp only[p2,A5] at hr ⊢ <;>simp at hr ⊢ <;>(rw[if_pos xN];omega)
   |false=>
     have hb:¬mxN k+1<=r:=λq=>by rw[show AC (mxN k) r=true from BN q] at hb;cases hb
     cases k<;>simp only[mxN,B5,reduceCtorEq] at hb hs<;>simp only[p2,A5] at hr ⊢ <;>simp at hr ⊢ <;>omega
theorem H0_(k:IntKind)(z:Int):wrF k z=k.wrap z:=by
 unfold wrF
 cases z with
 |ofNat m=>
   simp only
   cases hb:A6 m (mxN k) with
   |false=>
     refine Ri_ k _ _ ?_ (D0 _ (BH xQ))
     show ((m:Int)%((B3 2 k.bits:Nat):Int))=_
     exact (G1 _ _).symm
   |true=>
     have h:=A1 hb
     simp only[cond_true]
     cases k<;>simp only[mxN] at h<;>simp[AA,A5,B5]<;>omega
 |negSucc m=>
   simp only
   cases hb:(k.signed&&A6 m (mxN k)) with
   |true=>
     simp only[A2] at hb
     have h:=A1 hb.2
     have hs:=hb.1
     simp only[cond_true]
     cases k<;>simp only[mxN,B5,reduceCtorEq] at h hs<;>simp only[AA,A5,B5,<- Pk_,Int.negSucc_eq,EU]<;>simp only[p2,Nat.reducePow,show ∀ a b,B3 a b=a ^ b from λ_ _=>rfl,decide_eq_true_eq]<;>(simp only[Int.ofNat_eq_natCast] at *;split<;>omega)
   |false=>
     simp only[cond_false]
     have hp:0<B3 2 k.bits:=BH xQ
     have hm:=D0 m hp
     refine Ri_ k _ _ ?_ (by simp only[Nat.sub_eq];omega)
     show (Int.negSucc m%((B3 2 k.bits:Nat):Int))=_
     generalize B3 2 k.bits=q at *
     rw[Int.negSucc_emod_ofNat]
     have e:((m%q:Nat):Int)=(m:Int)%(q:Int):=G1 m q
     have hm:m%q<q:=hm
     show _=((q-1-m%q:Nat):Int)
     generalize m%q=r at *
     simp only[Int.subNatNat_eq_coe,Nat.succ_eq_add_one]
     omega
def nBit(f:Nat->Nat->Nat)(k:IntKind)(a b:Int)(d:Int):Int:=match a with
 | .ofNat a=>match b with
   | .ofNat b=>wrF k (.ofNat (f (DG a (B3 2 k.bits)) (DG b (B3 2 k.bits))))
   |_=>d
 |_=>d
def iAdd(k:IntKind)(a b:Int):Option CV:=some (.int k (wrF k (a+b)))
def iSub(k:IntKind)(a b:Int):Option CV:=some (.int k (wrF k (a-b)))
def iMul(k:IntKind)(a b:Int):Option CV:=some (.int k (wrF k (a*b)))
def iQuo(k:IntKind)(a b:Int):Option CV:=bif decide (b=0) then none else some (.int k (wrF k (a.tdiv b)))
def iRem(k:IntKind)(a b:Int):Option CV:=bif decide (b=0) then none else some (.int k (a.tmod b))
def iAnd(k:IntKind)(a b:Int):Option CV:=some (.int k (nBit Nat.land k a b (k.wrap (A4 k.bits a &&& A4 k.bits b).toNat)))
def iOr(k:IntKind)(a b:Int):Option CV:=some (.int k (nBit Nat.lor k a b (k.wrap (A4 k.bits a |||A4 k.bits b).toNat)))
def iXor(k:IntKind)(a b:Int):Option CV:=some (.int k (nBit Nat.xor k a b (k.wrap (A4 k.bits a ^^^ A4 k.bits b).toNat)))
def iAn(k:IntKind)(a b:Int):Option CV:=some (.int k (k.wrap (A4 k.bits a &&& ~~~A4 k.bits b).toNat))
def iEql(_:IntKind)(a b:Int):Option CV:=some (.bool (decide (a=b)))
def iNeq(_:IntKind)(a b:Int):Option CV:=some (.bool (!decide (a=b)))
def iLss(_:IntKind)(a b:Int):Option CV:=some (.bool (decide (a<b)))
def iLeq(_:IntKind)(a b:Int):Option CV:=some (.bool (decide (a<=b)))
def iGtr(_:IntKind)(a b:Int):Option CV:=some (.bool (decide (a>b)))
def iGeq(_:IntKind)(a b:Int):Option CV:=some (.bool (decide (a>=b)))
def iNo(_:IntKind)(_ _:Int):Option CV:=none
def bF(op:BinOp):IntKind->Int->Int->Option CV:=match op with
 | .add=>iAdd
 | .sub=>iSub
 | .mul=>iMul
 | .quo=>iQuo
 | .rem=>iRem
 | .and=>iAnd
 | .or=>iOr
 | .xor=>iXor
 | .andNot=>iAn
 | .eql=>iEql
 | .neq=>iNeq
 | .lss=>iLss
 | .leq=>iLeq
 | .gtr=>iGtr
 | .geq=>iGeq
 |_=>iNo
theorem G7_(w a:Nat):(BitVec.ofInt w (Int.ofNat a)).toNat=a%2 ^ w:=by
 rw[BitVec.toNat_ofInt];have :(Int.ofNat a)%((2 ^ w:Nat):Int)=((a%2 ^ w:Nat):Int):=by simp
 rw[this];exact Int.toNat_natCast _
theorem bF_eq(op:BinOp)(k:IntKind)(a b:Int):bF op k a b=bI op k a b:=by
 cases op<;>simp only[bF,bI,iAdd,iSub,iMul,iQuo,iRem,iAnd,iOr,iXor,iAn,iEql,iNeq,iLss,iLeq,iGtr,iGeq,iNo,H0_]
 all_goals
   cases a<;>cases b<;>simp only[nBit,H0_,BitVec.toNat_and,BitVec.toNat_or,BitVec.toNat_xor,G7_]
   rfl
def bSh(op:BinOp)(k:IntKind)(a b:Int):Option CV:=
 bif decide (b<0) then none else match op with
 | .shl=>some (.int k (wrF k (a*p2 (min b.toNat k.bits))))
 | .shr=>some (.int k (a.fdiv (p2 (min b.toNat k.bits))))
 |_=>none
def bS(op:BinOp)(n x m y:Nat):Option CV:=
 match op with
 | .add=>bif A6 (n+m) 9223372036854775807 then some (.str (n+m) (x+y*256 ^ n)) else none
 | .eql=>some (.bool (A3 n m&&A3 x y))
 | .neq=>some (.bool (!(A3 n m&&A3 x y)))
 | .lss=>some (.bool (Op.bytesLess (dec n x) (dec m y)))
 |_=>none
def isSh:BinOp->Bool
 | .shl=>true
 | .shr=>true
 |_=>false
theorem lo_sh{op:BinOp}{k k':IntKind}{a b:Int}{c:CV}(hx:ev F x = .int k a)(hy:ev F y = .int k' b)(h:bSh op k a b=some c):∃ v,VR β c v/\Lo P N (.binOp op T x y T') ty F H L v:=by
 unfold bSh at h
 cases hb:decide (b<0) with
 |true=>rw[hb] at h;cases h
 |false=>
   rw[hb] at h
   have h0:0<=b:=by simpa using hb
   simp only[cond_false] at h
   cases op<;>first|(cases h;done)|(simp only[Option.some.injEq] at h;subst h)
   . exact⟨_,rfl,by rw[H0_,Pk_];exact Q5_ hx hy h0⟩
   . exact⟨_,rfl,by rw[Pk_];exact Jr_ hx hy h0⟩
theorem lo_bI{op:BinOp}{k:IntKind}{a b:Int}{c:CV}(hx:ev F x = .int k a)(hy:ev F y = .int k b)(h:bI op k a b=some c):∃ v,VR β c v/\Lo P N (.binOp op T x y T') ty F H L v:=by
 have g:∀ {op:BinOp} {v:Value},(∀ w,(binOp op T (.int k a) (.int k b)).run P w = .ok v w)->Lo P N (.binOp op T x y T') ty F H L v:=λh=>Aa_ hx hy (L_) h
 cases op<;>simp only[bI] at h<;>first
   |(cases h;done)
   |(simp only[Option.some.injEq] at h;subst h;refine⟨_,rfl,g λw=>?_⟩;simp[binOp,EJ,Op.intBits,Op.intCmp];done)
   |(simp only[Option.some.injEq] at h;subst h;refine⟨_,rfl,g λw=>?_⟩;simp[binOp,Op.intCmp,bne,Ma_];done)
   |skip
 all_goals (cases hb:decide (b=0) with
   |true=>rw[hb] at h;cases h
   |false=>
     rw[hb] at h
     have h0:¬b=0:=by simpa using hb
     simp only[cond_false,Option.some.injEq] at h
     subst h;refine⟨_,rfl,g λw=>?_⟩;simp[binOp,Op.intDiv,h0])
theorem Lm_{n m x y:Nat}(h:x<256 ^ n)(k:y<256 ^ m):decide (dec n x=dec m y)=(Nat.beq n m&&Nat.beq x y):=by
 rw[E6];simp only[decide_eq_true_eq,A2];constructor;intro e;have hl:=congrArg EB e;rw[C_,C_] at hl;subst hl;exact⟨Nat.beq_refl _,by rw[Ln_ n x y h k e];exact H8 _⟩;rintro⟨e1,e2⟩;rw[A0 e1,A0 e2]
theorem Jt_{n m x y:Nat}(h:x<256 ^ n)(k:y<256 ^ m):x+y*256 ^ n<256 ^ (n+m):=by
 have :(y+1)*256 ^ n<=256 ^ m*256 ^ n:=BS _ k;rw[FS,CD (256 ^ n)];exact yL
theorem lo_bS{op:BinOp}{n m a b:Nat}{c:CV}(ha:a<256 ^ n)(hb:b<256 ^ m)(hx:ev F x=SW.str (dec n a))(hy:ev F y=SW.str (dec m b))(h:bS op n a m b=some c):∃ v,VR β c v/\Lo P N (.binOp op T x y T') ty F H L v:=by
 cases op<;>simp only[bS] at h<;>first|(cases h;done)|skip
 . cases hb':A6 (n+m) 9223372036854775807 with
   |false=>rw[hb'] at h;cases h
   |true=>
     rw[hb'] at h
     simp only[cond_true,Option.some.injEq] at h;subst h
     refine⟨_,⟨Jt_ ha hb,rfl⟩,?_⟩
     have :=Mk_ (P:=P) (N:=N) (H:=H) (L:=L) (ty:=ty) (T:=T) (T':=T') hx hy (by rw[C_,C_];exact A1 hb')
     rwa [C0_ _ _ _ _ ha] at this
 . simp only[Option.some.injEq] at h;subst h
   refine⟨_,rfl,?_⟩
   have :=Mm_ (P:=P) (N:=N) (H:=H) (L:=L) (ty:=ty) (T:=T) (T':=T') hx hy
   rwa [Lm_ ha hb] at this
 . simp only[Option.some.injEq] at h;subst h
   refine⟨_,rfl,?_⟩
   have :=Mo_ (P:=P) (N:=N) (H:=H) (L:=L) (ty:=ty) (T:=T) (T':=T') hx hy
   rwa [Lm_ ha hb] at this
 simp only[Option.some.injEq] at h;subst h;exact⟨_,rfl,Mn_ hx hy⟩
end Go.CE
namespace Go.CE
open Go.SW
variable{P:Program}{N:SW.Rest}{F:Fr}{H:Hp}{L:Ls}{ty T T':TypeId}{x y z:Operand}{β:Be}{f:Fe}
def szE(P:Program)(T:TypeId):Option Nat:=match P.info? T with
 |some i=>some i.size
 |none=>none
theorem Af_{k:Nat}(h:szE P T=some k):Sz P T k:=by
 unfold szE at h
 split at h
 . rename_i i hi;simp only[Option.some.injEq] at h;intro w;simp[sizeOf,typeInfo,hi,h]
 . cases h
theorem szE_cells{k:Nat}(h:szE P T=some k):P.cellsOf T=k:=by
 unfold szE at h
 split at h
 . rename_i i hi;simp only[Option.some.injEq] at h;simp[Program.cellsOf,hi,h]
 . cases h
def agE(P:Program)(T:TypeId):Option Bool:=match P.underlying T with
 |some (.struct _)=>some true
 |some (.array _ _)=>some true
 |some _=>some false
 |none=>none
theorem Cu_{g:Bool}(h:agE P T=some g):Ag P T g:=by
 unfold agE at h;intro w
 split at h
 exact yI;exact yI
 . rename_i d h1 h2 hu
   simp only[Option.some.injEq] at h;subst h
   cases d<;>first|(exact (h1 _ Y).elim)|(exact (h2 _ _ Y).elim)|simp[isAgg,run_underlying hu]
 . cases h
mutual
def eqC(P:Program):Nat->TypeId->CV->CV->Option Bool
 |0,_,_,_=>none
 |d+1,t,a,b=>match P.underlying t with
   |some (.int _)=>match a with
     | .int k p=>match b with
       | .int k' q=>bif decide (k=k') then some (decide (p=q)) else none
       |_=>none
     |_=>none
   |some .string=>match a with
     | .str n p=>match b with
       | .str m q=>some (A3 n m&&A3 p q)
       |_=>none
     |_=>none
   |some .bool=>match a with
     | .bool p=>match b with
       | .bool q=>some (decide (p=q))
       |_=>none
     |_=>none
   |some (.struct fs)=>match a with
     | .agg p=>match b with
       | .agg q=>bif P.stoodInHeld t then none else eqFs P d p q fs.toList
       |_=>none
     |_=>none
   |_=>none
def eqFs(P:Program):Nat->List CV->List CV->List Field->Option Bool
 |0,_,_,_=>none
 |d+1,_,_,[]=>some true
 |d+1,p,q,f::fs=>bif decide (f.name = "_") then none else
   match agE P f.type with
   |some true=>match szE P f.type with
     |some k=>match eqC P d f.type (.agg ((p.drop f.offset).take k)) (.agg ((q.drop f.offset).take k)) with
       |some r=>match eqFs P d p q fs with
         |some r'=>some (r&&r')
         |none=>none
       |none=>none
     |none=>none
   |some false=>match p[f.offset]? with
     |some a=>match q[f.offset]? with
       |some b=>match eqC P d f.type a b with
         |some r=>match eqFs P d p q fs with
           |some r'=>some (r&&r')
           |none=>none
         |none=>none
       |none=>none
     |none=>none
   |none=>none
end
mutual
theorem Lt_:∀ (d:Nat) {t:TypeId} {a b:CV} {u v:Value} {r:Bool},eqC P d t a b=some r->VR β a u->VR β b v->∀ e,d<=e->EqV P e t u v r
 |0,_,_,_,_,_,_,h,_,_,_,_=>by simp[eqC] at h
 |d+1,t,a,b,u,v,r,h,ha,hb,e,he=>by
   obtain⟨e,rfl⟩:∃ e',e=e'+1:=⟨e-1,by omega⟩
   simp only[eqC] at h
   split at h
   . rename_i hu
     split at h
     . rename_i k p
       split at h
       . rename_i k' q
         simp only[VR] at ha hb;subst ha;subst hb
         cases hk:decide (k=k') with
         |true=>rw[hk] at h;simp only[cond_true,Option.some.injEq] at h;subst h;have :=of_decide_eq_true hk;subst this;exact eqv_int hu
         |false=>rw[hk] at h;cases h
       . cases h
     . cases h
   . rename_i hu
     split at h
     . rename_i n p
       split at h
       . rename_i m q
         simp only[VR] at ha hb
         obtain⟨ha,rfl⟩:=ha;obtain⟨hb,rfl⟩:=hb
         simp only[Option.some.injEq] at h;subst h
         have :=eqv_str (P:=P) (d:=e) (a:=dec n p) (b:=dec m q) hu
         rwa [Lm_ ha hb] at this
       . cases h
     . cases h
   . rename_i hu
     split at h
     . split at h
       . simp only[VR] at ha hb;subst ha;subst hb
         simp only[Option.some.injEq] at h;subst h
         exact O0_ hu
       . cases h
     . cases h
   . rename_i fs hu
     split at h
     . split at h
       . simp only[VR] at ha hb
         obtain⟨xs,rfl,ha⟩:=ha;obtain⟨ys,rfl,hb⟩:=hb
         cases hs:P.stoodInHeld t with
         |true=>rw[hs] at h;cases h
         |false=>
           rw[hs] at h
           exact eqv_agg hu hs (H7_ d h ha hb e xN)
       . cases h
     . cases h
   . cases h
theorem H7_:∀ (d:Nat) {p q:List CV} {xs ys:List Value} {fs:List Field} {r:Bool},eqFs P d p q fs=some r->VRs β p xs->VRs β q ys->∀ e,d<=e->EqF P e xs ys fs r
 |0,_,_,_,_,_,_,h,_,_,_,_=>by simp[eqFs] at h
 |d+1,p,q,xs,ys,[],r,h,_,_,e,he=>by
   simp only[eqFs,Option.some.injEq] at h;subst h;exact eqf_nil
 |d+1,p,q,xs,ys,f::fs,r,h,hp,hq,e,he=>by
   simp only[eqFs] at h
   cases hn:decide (f.name = "_") with
   |true=>rw[hn] at h;cases h
   |false=>
     rw[hn] at h
     have hn':¬f.name = "_" :=of_decide_eq_false hn
     simp only[cond_false] at h
     split at h
     . rename_i hg
       split at h
       . rename_i k hk
         split at h
         . rename_i r1 h1
           split at h
           . rename_i r2 h2
             simp only[Option.some.injEq] at h;subst h
             refine eqf_A hn' (Cu_ hg) (Af_ hk) Y Y (Lt_ d h1 ?_ ?_ e xN) (H7_ d h2 hp hq e xN)
             . simp only[VR];exact⟨_,rfl,(hp.drop _).take _⟩
             . simp only[VR];exact⟨_,rfl,(hq.drop _).take _⟩
           . cases h
         . cases h
       . cases h
     . rename_i hg
       split at h
       . rename_i a ha
         split at h
         . rename_i b hb
           split at h
           . rename_i r1 h1
             split at h
             . rename_i r2 h2
               simp only[Option.some.injEq] at h;subst h
               obtain⟨u,e1,e2⟩:=hp.get ha
               obtain⟨v,e3,e4⟩:=hq.get hb
               exact eqf_1 hn' (Cu_ hg) e1 e3 (Lt_ d h1 e2 e4 e xN) (H7_ d h2 hp hq e xN)
             . cases h
           . cases h
         . cases h
       . cases h
     . cases h
end
def eqE(P:Program)(T:TypeId)(x y:Operand)(a b:CV):Option Bool:=
 match a with
 | .bool p=>match b with
   | .bool q=>match P.underlying T with
     |some .bool=>some (p==q)
     |_=>none
   |_=>none
 | .agg p=>match b with
   | .agg q=>bif P.eqGuardType P.depth T then none else eqC P 40 T (.agg p) (.agg q)
   |_=>none
 | .ptr i o=>match b with
   | .nilp=>match P.underlying T with
     |some (.pointer _)=>some false
     |_=>none
   | .ptr j q=>bif A3 i j&&A3 o q then (match P.underlying T with
     |some (.pointer e)=>match P.info? e with
       |some _=>some true
       |none=>none
     |_=>none) else none
   |_=>none
 | .gp _ _=>match b with
   | .nilp=>match P.underlying T with
     |some (.pointer _)=>some false
     |_=>none
   |_=>none
 | .nilp=>match b with
   | .nilp=>match P.underlying T with
     |some (.pointer _)=>some true
     |_=>none
   |_=>none
 | .sl _ _ _ _=>match b with
   | .nils=>match P.underlying T with
     |some (.slice _)=>some false
     |_=>none
   |_=>none
 | .slu _ _ _ _=>match b with
   | .nils=>match P.underlying T with
     |some (.slice _)=>some false
     |_=>none
   |_=>none
 | .nils=>match b with
   | .nils=>match P.underlying T with
     |some (.slice _)=>some true
     |_=>none
   |_=>none
 | .nilf=>match b with
   | .nilf=>match P.underlying T with
     |some (.func _ _ _)=>some true
     |_=>none
   |_=>none
 | .fn _ _ _=>match b with
   | .nilf=>match P.underlying T with
     |some (.func _ _ _)=>some false
     |_=>none
   |_=>none
 | .nili=>match b with
   | .nili=>match y with
     | .const _=>match P.underlying T with
       |some (.interface _)=>some true
       |_=>none
     |_=>none
   |_=>none
 | .ifc _ _=>match b with
   | .nili=>match P.underlying T with
     |some (.interface _)=>some false
     |_=>none
   |_=>none
 |_=>none
end Go.CE
namespace Go.CE
open Go.SW
variable{P:Program}{N:SW.Rest}{F:Fr}{H:Hp}{L:Ls}{ty T T':TypeId}{x y z:Operand}{β:Be}{f:Fe}
theorem Hg_{op:BinOp}{u v:Value}(h1:∀ a b,u = .agg a->v = .agg b->P.eqGuardType P.depth T=false)(h2:u = .nilIface->v = .nilIface->∃ c,y = .const c)(w:World):(eqGuard op T x y u v).run P w = .ok () w:=by
 cases u<;>cases v<;>first
   |(exact run_eqGuard_agg w op T x y _ _ (h1 _ _ Y Y))
   |(obtain⟨c,rfl⟩:=h2 Y Y;cases op<;>simp[eqGuard];done)
   |(cases op<;>simp[eqGuard];done)
theorem B2_{u v:Value}{r:Bool}(h:∀ d w,(Op.equalIn (d+1) T u v).run P w = .ok r w):EqV P 10000 T u v r:=λw=>h 9999 w
theorem Bq_{u v:Value}{r:Bool}(hx:ev F x=u)(hy:ev F y=v)(h1:∀ a b,u = .agg a->v = .agg b->P.eqGuardType P.depth T=false)(h2:u = .nilIface->v = .nilIface->∃ c,y = .const c)
   (hi:∀ k a,u ≠ .int k a) (hs:∀ a,u ≠ .string a) (hf:∀ k a,u ≠ .float k a) (hc:∀ k a b,u ≠ .complex k a b) (h:EqV P 10000 T u v r):Lo P N (.binOp .eql T x y T') ty F H L (.bool r)/\Lo P N (.binOp .neq T x y T') ty F H L (.bool (!r)):=by
 constructor;exact zV;exact zV
theorem Qz_{a b:CV}{r:Bool}(hx:VR β a (ev F x))(hy:VR β b (ev F y))(h:eqE P T x y a b=some r):Lo P N (.binOp .eql T x y T') ty F H L (.bool r)/\Lo P N (.binOp .neq T x y T') ty F H L (.bool (!r)):=by
 generalize hu:ev F x=u at hx;generalize hv:ev F y=v at hy;unfold eqE at h
 split at h
 . -- truth values
   split at h
   . split at h
     . rename_i hT
       simp only[VR] at hx hy;subst hx;subst hy
       simp only[Option.some.injEq] at h;subst h
       refine Bq_ hu hv xP xP xP xP xP xP (B2_ λd w=>Bk_ d hT w)
     . cases h
   . cases h
 . -- structs
   rename_i p
   split at h
   . rename_i q
     cases hg:P.eqGuardType P.depth T with
     |true=>rw[hg] at h;cases h
     |false=>
       rw[hg] at h
       simp only[cond_false] at h
       have hE:=Lt_ 40 h hx hy 10000 xN
       simp only[VR] at hx hy
       obtain⟨xs,rfl,hx⟩:=hx;obtain⟨ys,rfl,hy⟩:=hy
       exact Bq_ hu hv (λ_ _ _ _=>hg) xP xP xP xP xP hE
   . cases h
 . -- a pointer
   split at h
   . split at h
     . rename_i e hT
       simp only[VR] at hx hy;obtain⟨q,_,rfl⟩:=hx;exact xG
     . cases h
   . rename_i i o _ j q
     cases hb:(A3 i j&&A3 o q) with
     |false=>rw[hb] at h;cases h
     |true=>
       rw[hb] at h
       simp only[A2] at hb
       have e1:=A0 hb.1;have e2:=A0 hb.2
       subst e1;subst e2
       simp only[cond_true] at h
       split at h
       . rename_i e hT
         split at h
         . rename_i j hj
           simp only[VR] at hx hy;obtain⟨q1,h1,rfl⟩:=hx;obtain⟨q2,h2,rfl⟩:=hy
           rw[h1] at h2;cases h2
           simp only[Option.some.injEq] at h;subst h
           refine Bq_ hu hv xP xP xP xP xP xP (B2_ λd w=>?_)
           by_cases h0:j.size=0
           . simp[Op.equalIn,run_underlying hT,sizeOf,typeInfo,hj,h0]
           . simp[Op.equalIn,run_underlying hT,sizeOf,typeInfo,hj,h0,sameAddr]
         . cases h
       . cases h
   . cases h
 . split at h
   . split at h
     . rename_i e hT
       simp only[VR] at hx hy;subst hx;exact xG
     . cases h
   . cases h
 . split at h
   . split at h
     . rename_i e hT
       exact xM
     . cases h
   . cases h
 . split at h
   . split at h
     . rename_i e hT
       simp only[VR] at hx hy;obtain⟨q,_,rfl⟩:=hx;exact xF
     . cases h
   . cases h
 . split at h
   . split at h
     . rename_i e hT
       simp only[VR] at hx hy;obtain⟨q,c,a,_,_,_,rfl,_⟩:=hx;exact xF
     . cases h
   . cases h
 . split at h
   . split at h
     . rename_i e hT
       exact xM
     . cases h
   . cases h
 . split at h
   . split at h
     . rename_i hT
       exact xM
     . cases h
   . cases h
 . split at h
   . split at h
     . rename_i hT
       simp only[VR] at hx hy;obtain⟨vs,us,rfl,_⟩:=hx;exact xF
     . cases h
   . cases h
 . split at h
   . split at h
     . split at h
       . rename_i hT
         simp only[VR] at hx hy;subst hx;subst hy
         simp only[Option.some.injEq] at h;subst h
         refine Bq_ hu hv xP (λ_ _=>⟨_,rfl⟩) xP xP xP xP (B2_ λd w=>?_)
         exact yZ
       . cases h
     . cases h
   . cases h
 . split at h
   . split at h
     . rename_i hT
       simp only[VR] at hx hy;obtain⟨u',rfl,_⟩:=hx;exact xF
     . cases h
   . cases h
 . cases h
def binE(P:Program)(op:BinOp)(T:TypeId)(x y:Operand)(a b:CV):Option CV:=
 match a with
 | .int k p=>match b with
   | .int k' q=>bif isSh op then bSh op k p q else bif decide (k=k') then bF op k p q else none
   |_=>none
 | .str n p=>match b with
   | .str m q=>bS op n p m q
   |_=>none
 |a=>match op with
   | .eql=>match eqE P T x y a b with
     |some r=>some (.bool r)
     |none=>none
   | .neq=>match eqE P T x y a b with
     |some r=>some (.bool (!r))
     |none=>none
   |_=>none
theorem Mj_{op:BinOp}{a b c:CV}(hx:VR β a (ev F x))(hy:VR β b (ev F y))(h:binE P op T x y a b=some c):∃ v,VR β c v/\Lo P N (.binOp op T x y T') ty F H L v:=by
 unfold binE at h
 split at h
 . rename_i k p
   split at h
   . rename_i k' q
     simp only[VR] at hx hy
     cases hs:isSh op with
     |true=>rw[hs] at h;exact lo_sh hx hy h
     |false=>
       rw[hs] at h
       cases hk:decide (k=k') with
       |true=>rw[hk] at h;have :=of_decide_eq_true hk;subst this;simp only[cond_false,cond_true,bF_eq] at h;exact lo_bI hx hy h
       |false=>rw[hk] at h;cases h
   . cases h
 . split at h
   simp only[VR] at hx hy
   exact lo_bS hx.1 hy.1 hx.2 hy.2 h
   . cases h
 . split at h
   . split at h
     . rename_i r hr
       simp only[Option.some.injEq] at h;subst h
       exact⟨_,rfl,(Qz_ hx hy hr).1⟩
     . cases h
   . split at h
     . rename_i r hr
       simp only[Option.some.injEq] at h;subst h
       exact⟨_,rfl,(Qz_ hx hy hr).2⟩
     . cases h
   . cases h
def unE(op:UnOp)(a:CV):Option CV:=
 match a with
 | .bool b=>match op with
   | .not=>some (.bool (!b))
   |_=>none
 | .int k n=>match op with
   | .neg=>some (.int k (wrF k (0-n)))
   | .xor=>some (.int k (k.wrap (A4 k.bits (bif k.signed then -1 else k.max) ^^^ A4 k.bits n).toNat))
   |_=>none
 |_=>none
theorem Q7_{op:UnOp}{a c:CV}(hx:VR β a (ev F x))(h:unE op a=some c):∃ v,VR β c v/\Lo P N (.unOp op T x) ty F H L v:=by
 unfold unE at h
 split at h
 . split at h
   simp only[Option.some.injEq] at h;subst h;simp only[VR] at hx;exact⟨_,rfl,Q4_ hx⟩
   . cases h
 . rename_i k n
   split at h
   simp only[Option.some.injEq] at h;subst h;simp only[VR] at hx
   exact⟨_,rfl,λd pos af g w _=>by simp[execOp,hx,Op.unary,EJ,H0_]⟩
   . cases hk:k.signed with
     |true=>
       rw[hk] at h
       simp only[cond_true,Option.some.injEq] at h;subst h;simp only[VR] at hx
       exact⟨_,rfl,λd pos af g w _=>by simp[execOp,hx,Op.unary,Op.intBits,hk]⟩
     |false=>
       rw[hk] at h
       simp only[cond_false,Option.some.injEq] at h;subst h;simp only[VR] at hx
       exact⟨_,rfl,Qx_ hx hk⟩
   . cases h
 . cases h
def cvE(P:Program)(T T':TypeId)(a:CV):Option CV:=
 match a with
 | .int _ n=>match P.underlying T with
   |some _=>match P.underlying T' with
     |some (.int k)=>some (.int k (wrF k n))
     |_=>none
   |none=>none
 | .str n x=>match P.underlying T with
   |some .string=>match P.underlying T' with
     |some .string=>some (.str n x)
     |_=>none
   |_=>none
 |_=>none
theorem Qy_{a c:CV}(hx:VR β a (ev F x))(h:cvE P T T' a=some c):∃ v,VR β c v/\Lo P N (.convert T T' x) ty F H L v:=by
 unfold cvE at h
 split at h
 . split at h
   . rename_i hT
     split at h
     . rename_i hT'
       simp only[Option.some.injEq] at h;subst h;simp only[VR] at hx
       rw[H0_];exact⟨_,rfl,Gn_ hx (by rw[hT];rfl) hT'⟩
     . cases h
   . cases h
 . split at h
   . rename_i hT
     split at h
     . rename_i hT'
       simp only[Option.some.injEq] at h;subst h;simp only[VR] at hx
       exact⟨_,⟨hx.1,rfl⟩,Ev_ hx.2 hT hT'⟩
     . cases h
   . cases h
 . cases h
end Go.CE
namespace Go.CE
open Go.SW
variable{P:Program}{N:SW.Rest}{F:Fr}{H:Hp}{L:Ls}{ty T T':TypeId}{x y z:Operand}{β:Be}{f:Fe}
abbrev Yl(P:Program)(N:SW.Rest)(F:Fr)(H:Hp)(L:Ls)(β:Be)(op:Op)(ty:TypeId)(c:CV):Prop:=∃ v,VR β c v/\Lo P N op ty F H L v
theorem y_mv{c:CV}(hx:VR β c (ev F x)):Yl P N F H L β (.move x) ty c:=⟨_,hx,λd pos af g w _=>by simp[execOp]⟩
theorem y_as{c:CV}(hx:VR β c (ev F x)):Yl P N F H L β (.assign x) ty c:=⟨_,hx,λd pos af g w _=>by simp[execOp]⟩
theorem Kd_{b:Bool}{c:CV}(hx:VR β (.bool b) (ev F x))(hy:VR β c (ev F (bif b then y else z))):Yl P N F H L β (.pick x y z) ty c:=by
 simp only[VR] at hx;refine⟨_,hy,λd pos af g w _=>?_⟩
 cases b<;>simp[execOp,hx,asBool]
def Fg_(P:Program)(T:TypeId):Option (List CV):=match P.info? T with
 |some i=>match i.zero with
   |some z=>vCs z.cells.toList
   |none=>none
 |none=>none
theorem Bb_{cs:List CV}(h:Fg_ P T=some cs):∃ z:Value,(∀ w,(zeroValue T).run P w = .ok z w)/\VRs β cs z.cells.toList:=by
 unfold Fg_ at h
 split at h
 . rename_i i hi
   split at h
   . rename_i z hz
     exact⟨z,λw=>by simp[zeroValue,typeInfo,hi,hz],Od_ h⟩
   . cases h
 . cases h
def Ek_:CV->Option (List CV)
 | .agg cs=>some cs
 | .tup _=>none
 |c=>some [c]
theorem Bo_{c:CV}{cs:List CV}{v:Value}(h:Ek_ c=some cs)(hv:VR β c v):VRs β cs v.cells.toList:=by
 unfold Ek_ at h
 split at h
 simp only[Option.some.injEq] at h;subst h;simp only[VR] at hv;obtain⟨vs,rfl,hv⟩:=hv;simpa [Value.cells] using hv
 . cases h
 . rename_i h1 h2
   simp only[Option.some.injEq] at h;subst h
   have :v.cells = #[v]:=by
     cases c<;>simp only[VR] at hv<;>first
       |(exact absurd Y (h1 _))|(exact absurd Y (h2 _))
       |(subst hv;rfl)
       |(obtain⟨_,rfl⟩:=hv;rfl)
       |(obtain⟨_,_,rfl⟩:=hv;rfl)
       |(obtain⟨_,rfl,_⟩:=hv;rfl)
       |(obtain⟨_,_,_,_,_,_,rfl,_⟩:=hv;rfl)
       |(obtain⟨_,_,rfl,_⟩:=hv;rfl)
   rw[this]
   exact .cons hv .nil
def Cg_:List CV->Nat->List CV->List CV
 |cs,_,[]=>cs
 |cs,o,v::r=>Cg_ (cs.set o v) (o+1) r
theorem Df_:∀ (ds cs:List CV) (o:Nat) {vs us:List Value},VRs β cs vs->VRs β ds us->VRs β (Cg_ cs o ds) (Ad_ vs o us)
 |[],_,_,_,_,h,k=>by rw[k.nil_inv];exact h
 |_::_,_,_,_,_,h,k=>by obtain⟨v,us',rfl,h1,h2⟩:=k.cons_inv;simp only[Cg_,Ad_];exact Df_ _ _ _ (h.set _ h1) h2
theorem Aw_:∀ (ds cs:List CV) (o:Nat),(Cg_ cs o ds).length=cs.length
 |[],_,_=>rfl
 |_::r,cs,o=>by simp only[Cg_];rw[Aw_ r];simp
def L0_(places:List (Nat×Nat)):List CV->List (Nat×CV)->Option (List CV)
 |cs,[]=>some cs
 |cs,(i,c)::r=>match places[i]? with
   |some (o,k)=>match Ek_ c with
     |some ds=>bif A3 ds.length k&&A6 (o+k) cs.length then L0_ places (Cg_ cs o ds) r else none
     |none=>none
   |none=>none
def efps(f:Fe):List (Nat×Operand)->Option (List (Nat×CV))
 |[]=>some []
 |(i,x)::r=>match ef f x with
   |some c=>match efps f r with
     |some cs=>some ((i,c)::cs)
     |none=>none
   |none=>none
def VRp(β:Be):List (Nat×CV)->List (Nat×Value)->Prop
 |[],vs=>vs=[]
 |(i,c)::r,vs=>∃ v us,vs=(i,v)::us/\VR β c v/\VRp β r us
theorem Gg_(hf:FR β f F):∀ {xs:List (Nat×Operand)} {cs:List (Nat×CV)},efps f xs=some cs->VRp β cs (evp F xs)
 |[],cs,h=>by simp only[efps,Option.some.injEq] at h;subst h;rfl
 |(i,x)::r,cs,h=>by
   simp only[efps] at h
   split at h
   . rename_i c hc
     split at h
     . rename_i ds hd
       simp only[Option.some.injEq] at h;subst h
       exact⟨_,_,rfl,P_ hf hc,Gg_ hf hd⟩
     . cases h
   . cases h
theorem F2_:∀ (vs cs:List Value) (o j:Nat),(vs.zipIdx j).foldl (λ(cs:Array Value) (p:Value×Nat)=>cs.setIfInBounds (o+p.2) p.1) cs.toArray=(Ad_ cs (o+j) vs).toArray
 |[],cs,o,j=>by simp[Ad_]
 |v::r,cs,o,j=>by
   rw[List.zipIdx_cons,CU]
   have :=F2_ r (cs.set (o+j) v) o (j+1)
   simp only[Ad_]
   rw[show o+j+1=o+(j+1) by omega,<- this]
   congr 1
   simp
theorem Jh_(places:List (Nat×Nat)):∀ {ps:List (Nat×CV)} {cs ds:List CV} {vs:List Value} {us:List (Nat×Value)},L0_ places cs ps=some ds->VRs β cs vs->VRp β ps us ->
   ∃ ws,Instr.fill (places.toArray[·]?) vs.toArray us=some ws.toArray/\VRs β ds ws
 |[],cs,ds,vs,us,h,hv,hu=>by
   simp only[L0_,Option.some.injEq] at h;subst h
   simp only[VRp] at hu;subst hu
   exact⟨vs,rfl,hv⟩
 |(i,c)::r,cs,ds,vs,us,h,hv,hu=>by
   simp only[VRp] at hu
   obtain⟨v,us',rfl,h1,h2⟩:=hu
   simp only[L0_] at h
   split at h
   . rename_i o k hi
     split at h
     . rename_i es he
       cases hb:(A3 es.length k&&A6 (o+k) cs.length) with
       |false=>rw[hb] at h;cases h
       |true=>
         rw[hb] at h
         simp only[A2] at hb
         have e1:=A0 hb.1
         have e2:=A1 hb.2
         have hc:=Bo_ he h1
         obtain⟨ws,hw1,hw2⟩:=Jh_ places (ps:=r) h (Df_ es cs o hv hc) h2
         have hl:v.cells.size=k:=by have :=hc.length;simp at this;omega
         have hl2:=hv.length
         refine⟨ws,?_,hw2⟩
         simp only[Instr.fill]
         have hi':(places.toArray[i]? :Option (Nat×Nat))=some (o,k):=by simpa using hi
         rw[hi']
         have hcond:¬((decide (v.cells.size≠k) || decide (o+v.cells.size>vs.toArray.size))=true):=by simp[hl];omega
         simp only[]
         rw[if_neg hcond]
         have hz:=F2_ v.cells.toList vs o 0
         rw[Nat.add_zero] at hz
         rw[<- hw1,<- hz,<- Array.foldl_toList,Array.toList_zipIdx]
     . cases h
   . cases h
def Eq_(P:Program)(fs:List Field):Option (List (Nat×Nat)):=match fs with
 |[]=>some []
 |f::r=>match szE P f.type with
   |some k=>match Eq_ P r with
     |some l=>some ((f.offset,k)::l)
     |none=>none
   |none=>none
theorem Fr_:∀ {fs:List Field} {l:List (Nat×Nat)},Eq_ P fs=some l->∀ w,(fs.mapM (λf=>(do pure (f.offset,<- sizeOf f.type):Sem (Nat×Nat)))).run P w = .ok l w
 |[],l,h,w=>by simp only[Eq_,Option.some.injEq] at h;subst h;simp
 |f::r,l,h,w=>by
   simp only[Eq_] at h
   split at h
   . rename_i k hk
     split at h
     . rename_i l' hl
       simp only[Option.some.injEq] at h;subst h
       have :=Fr_ hl w
       simp only[List.mapM_cons,AL,Af_ hk w,AF,B6,this]
     . cases h
   . cases h
def G6_(P:Program)(T:TypeId)(ps:List (Nat×CV)):Option CV:=
 match Fg_ P T with
 |some z=>match P.underlying T with
   |some (.struct fs)=>match Eq_ P fs.toList with
     |some l=>match L0_ l z ps with
       |some cs=>some (.agg cs)
       |none=>none
     |none=>none
   |_=>none
 |none=>none
theorem G5_{ps:List (Nat×Operand)}{qs:List (Nat×CV)}{c:CV}(hf:FR β f F)(hq:efps f ps=some qs)(h:G6_ P T qs=some c):Yl P N F H L β (.build T ps.toArray) ty c:=by
 unfold G6_ at h
 split at h
 . rename_i z hz
   split at h
   . rename_i fs hu
     split at h
     . rename_i l hl
       split at h
       . rename_i cs hcs
         simp only[Option.some.injEq] at h;subst h
         obtain⟨zv,hz1,hz2⟩:=Bb_ (β:=β) hz
         obtain⟨ws,hw1,hw2⟩:=Jh_ l hcs hz2 (Gg_ hf hq)
         refine⟨.agg ws.toArray,by simp only[VR];exact⟨ws,rfl,hw2⟩,Jo_ Y λw=>?_⟩
         have hm:=Fr_ hl w
         have hm2:(fs.mapM (λf=>(do pure (f.offset,<- sizeOf f.type):Sem (Nat×Nat)))).run P w = .ok l.toArray w:=by
           rw[Array.mapM_eq_mapM_toList]
           have hm':(fs.toList.mapM (λf=>Prod.mk f.offset <$> sizeOf f.type:Field->Sem (Nat×Nat))).run P w = .ok l w:=by
             have :=hm
             exact xC
           simp[hm']
         have e0:zv.cells.toList.toArray=zv.cells:=by simp
         rw[e0] at hw1
         simp only[Instr.build,AL,hz1 w,AF,run_underlying hu,hm2,hw1,B6]
       . cases h
     . cases h
   . cases h
 . cases h
end Go.CE
namespace Go.CE
open Go.SW
variable{P:Program}{N:SW.Rest}{F:Fr}{H:Hp}{L:Ls}{ty T T':TypeId}{x y z:Operand}{β:Be}{f:Fe}
def nilE(a:CV):Option CV:=match a with
 | .ptr i o=>some (.ptr i o)
 | .gp g o=>some (.gp g o)
 | .fn g p q=>some (.fn g p q)
 |_=>none
theorem Qd_{a c:CV}(hx:VR β a (ev F x))(h:nilE a=some c):Yl P N F H L β (.nilCheck x) ty c:=by
 unfold nilE at h
 split at h<;>first|(cases h;done)|skip
 all_goals (simp only[Option.some.injEq] at h;subst h)
 have hx':=hx;simp only[VR] at hx';obtain⟨q,_,e⟩:=hx';exact⟨_,hx,e ▸ W_ e⟩;have hx':=hx;simp only[VR] at hx';exact⟨_,hx,hx' ▸ W_ hx'⟩;have hx':=hx;simp only[VR] at hx';obtain⟨vs,us,e,_,_⟩:=hx';exact⟨_,hx,λd pos af g w _=>by simp[execOp,e]⟩
theorem y_fn{g:FuncId}{ps qs:List Operand}{a b:List CV}(hf:FR β f F)(ha:efs f ps=some a)(hb:efs f qs=some b):Yl P N F H L β (.makeFunc (.func g) ps.toArray qs.toArray) ty (.fn g a b):=
 ⟨_,by simp only[VR];exact⟨_,_,rfl,C5_ hf ha,C5_ hf hb⟩,D0_ Y Y⟩
def ifE(P:Program)(T:TypeId)(a:CV):Option CV:=match P.underlying T with
 |some (.interface _)=>none
 |some _=>some (.ifc T a)
 |none=>none
theorem y_if{a c:CV}(hx:VR β a (ev F x))(h:ifE P T a=some c):Yl P N F H L β (.makeInterface T x) ty c:=by
 unfold ifE at h
 split at h
 . cases h
 . rename_i d hd hu
   simp only[Option.some.injEq] at h;subst h
   refine⟨_,by simp only[VR];exact⟨_,rfl,hx⟩,λ_ _ _ _ w _=>?_⟩
   cases d<;>first|(exact (hd _ Y).elim)|simp[execOp,Instr.makeInterface,run_underlying hu]
 . cases h
def fldE(P:Program)(T:TypeId)(i:Nat):Option Nat:=match P.underlying T with
 |some (.struct fs)=>match fs.toList[i]? with
   |some fd=>match szE P fd.type with
     |some k=>bif A3 k 0 then none else some fd.offset
     |none=>none
   |none=>none
 |_=>none
theorem L4_{i o:Nat}(h:fldE P T i=some o):Fld P T i o:=by
 unfold fldE at h
 split at h
 . rename_i fs hu
   split at h
   . rename_i fd hf
     split at h
     . rename_i k hk
       cases hb:A3 k 0 with
       |true=>rw[hb] at h;cases h
       |false=>
         rw[hb] at h
         simp only[cond_false,Option.some.injEq] at h;subst h
         have h0:k≠0:=BA hb
         have hfa:fs[i]? = some fd:=by simpa using hf
         intro b off w
         simp[Instr.fieldAt,run_underlying hu,hfa,BB,fieldPlace,Af_ hk w,h0,K_]
     . cases h
   . cases h
 . cases h
def faE(P:Program)(T:TypeId)(i:Nat)(a:CV):Option CV:=match fldE P T i with
 |some o=>match a with
   | .ptr j p=>some (.ptr j (p+o))
   | .gp g p=>some (.gp g (p+o))
   |_=>none
 |none=>none
theorem y_fa{i:Nat}{a c:CV}(hx:VR β a (ev F x))(h:faE P T i a=some c):Yl P N F H L β (.fieldAddr T x i) ty c:=by
 unfold faE at h
 split at h
 . rename_i o ho
   split at h
   simp only[Option.some.injEq] at h;subst h
   simp only[VR] at hx ⊢;obtain⟨q,h1,e⟩:=hx
   exact⟨_,⟨q,h1,rfl⟩,by rw[<- AZ];exact R_ e (L4_ ho)⟩
   simp only[Option.some.injEq] at h;subst h
   simp only[VR] at hx ⊢
   exact⟨_,rfl,R_ hx (L4_ ho)⟩
   . cases h
 . cases h
def Pm_(P:Program)(t:TypeId)(cs:List CV)(o:Nat):Option CV:=match agE P t with
 |some true=>match szE P t with
   |some k=>some (.agg ((cs.drop o).take k))
   |none=>none
 |some false=>cs[o]?
 |none=>none
theorem J0_{t:TypeId}{cs:List CV}{o:Nat}{c:CV}{vs:List Value}(h:Pm_ P t cs o=some c)(hv:VRs β cs vs):∃ v,VR β c v/\∀ w,(part t vs.toArray o).run P w = .ok v w:=by
 unfold Pm_ at h
 split at h
 . rename_i hg
   split at h
   . rename_i k hk
     simp only[Option.some.injEq] at h;subst h
     exact⟨.agg (sub vs o k).toArray,by simp only[VR];exact⟨_,rfl,(hv.drop _).take _⟩,Nk_ (Cu_ hg) (Af_ hk) Y⟩
   . cases h
 . rename_i hg
   obtain⟨v,e,hv⟩:=hv.get h
   exact⟨v,hv,Nj_ (Cu_ hg) e⟩
 . cases h
def Hd_(P:Program)(T:TypeId)(i:Nat)(a:CV):Option CV:=match a with
 | .agg cs=>match P.underlying T with
   |some (.struct fs)=>match fs.toList[i]? with
     |some fd=>Pm_ P fd.type cs fd.offset
     |none=>none
   |_=>none
 |_=>none
theorem Oi_{i:Nat}{a c:CV}(hx:VR β a (ev F x))(h:Hd_ P T i a=some c):Yl P N F H L β (.field T x i) ty c:=by
 unfold Hd_ at h
 split at h
 . split at h
   . rename_i fs hu
     split at h
     . rename_i fd hf
       simp only[VR] at hx;obtain⟨vs,e,hv⟩:=hx
       obtain⟨v,h1,h2⟩:=J0_ h hv
       have hfa:fs[i]? = some fd:=by simpa using hf
       exact⟨v,h1,λ_ _ _ _ w _=>by simp[execOp,Instr.field,run_underlying hu,hfa,e,asAgg,h2 w]⟩
     . cases h
   . cases h
 . cases h
def natE(a:CV):Option Nat:=match a with
 | .int _ z=>match z with
   | .ofNat n=>some n
   | .negSucc _=>none
 |_=>none
theorem B0_{a:CV}{n:Nat}{v:Value}(h:natE a=some n)(hv:VR β a v):∃ k,v = .int k (n:Int):=by
 unfold natE at h
 split at h
 . split at h
   simp only[Option.some.injEq] at h;subst h;simp only[VR] at hv;exact⟨_,hv⟩
   . cases h
 . cases h
def ixE(P:Program)(T:TypeId)(a b:CV):Option CV:=match natE b with
 |some m=>match a with
   | .str n s=>match P.underlying T with
     |some .string=>bif AC m n then some (.int .u8 ((s/256 ^ m%256:Nat):Int)) else none
     |_=>none
   | .agg cs=>match P.underlying T with
     |some (.array len e)=>match szE P e with
       |some k=>bif AC m len then Pm_ P e cs (m*k) else none
       |none=>none
     |_=>none
   |_=>none
 |none=>none
theorem y_ix{a b c:CV}(hx:VR β a (ev F x))(hy:VR β b (ev F y))(h:ixE P T a b=some c):Yl P N F H L β (.index T x y) ty c:=by
 unfold ixE at h
 split at h
 . rename_i m hm
   obtain⟨k0,ey⟩:=B0_ hm hy
   split at h
   . rename_i n s
     split at h
     . rename_i hT
       cases hb:AC m n with
       |false=>rw[hb] at h;cases h
       |true=>
         rw[hb] at h
         have hlt:m<n:=BV (DZ m) (A1 hb)
         simp only[cond_true,Option.some.injEq] at h;subst h
         simp only[VR] at hx
         refine⟨_,rfl,?_⟩
         have :=Dz_ (P:=P) (N:=N) (H:=H) (L:=L) (ty:=ty) (T:=T) m hx.2 ey hT Y (by rw[C_];exact hlt)
         have e:((dec n s).getD m 0).toNat=s/256 ^ m%256:=by
           rw[AO,Eo_ n s m hlt];simp
         rw[e] at this
         exact this
     . cases h
   . rename_i cs
     split at h
     . rename_i len e hT
       split at h
       . rename_i k hk
         cases hb:AC m len with
         |false=>rw[hb] at h;cases h
         |true=>
           rw[hb] at h
           have hlt:m<len:=BV (DZ m) (A1 hb)
           simp only[cond_true] at h
           simp only[VR] at hx;obtain⟨vs,ex,hv⟩:=hx
           obtain⟨v,h1,h2⟩:=J0_ h hv
           refine⟨v,h1,λ_ _ _ _ w _=>?_⟩
           have hi:((m:Nat):Int)<(len:Int):=by omega
           simp[execOp,Instr.index,ex,ey,asIntOf,run_underlying hT,hlt,Af_ hk w,h2 w]
       . cases h
     . cases h
   . cases h
 . cases h
def iaE(P:Program)(T:TypeId)(a b:CV):Option CV:=match natE b with
 |some m=>match P.underlying T with
   |some (.slice e)=>match szE P e with
     |some k=>match a with
       | .sl i o len _=>bif AC m len then some (.ptr i (o+m*k)) else none
       | .slu i o len _=>bif AC m len then some (.ptr i (o+m*k)) else none
       |_=>none
     |none=>none
   |some (.array len e)=>match szE P e with
     | some k=>bif AC m len then (match a with
       | .ptr i o=>some (.ptr i (o+m*k))
       | .gp g o=>some (.gp g (o+m*k))
       |_=>none) else none
     |none=>none
   |_=>none
 |none=>none
theorem Be_{m n:Nat}(h:Nat.blt m n=true):m<n:=BV (DZ m) (A1 h)
theorem y_ia{a b c:CV}(hx:VR β a (ev F x))(hy:VR β b (ev F y))(h:iaE P T a b=some c):Yl P N F H L β (.indexAddr T x y) ty c:=by
 unfold iaE at h
 split at h
 . rename_i m hm
   obtain⟨k0,ey⟩:=B0_ hm hy
   split at h
   . rename_i e hT
     split at h
     . rename_i k hk
       split at h
       . rename_i i o len cap
         cases hb:AC m len with
         |false=>rw[hb] at h;cases h
         |true=>
           rw[hb] at h
           have hlt:=Be_ hb
           simp only[cond_true,Option.some.injEq] at h;subst h
           simp only[VR] at hx ⊢;obtain⟨q,h1,ex⟩:=hx
           refine⟨_,⟨q,h1,rfl⟩,λ_ _ _ _ w _=>?_⟩
           simp[execOp,CG,ex,ey,asIntOf,run_underlying hT,hlt,Af_ hk w,K_,AZ]
       . rename_i i o len k'
         cases hb:AC m len with
         |false=>rw[hb] at h;cases h
         |true=>
           rw[hb] at h
           have hlt:=Be_ hb
           simp only[cond_true,Option.some.injEq] at h;subst h
           simp only[VR] at hx ⊢;obtain⟨q,cc,aa,h1,_,hle,ex,ha⟩:=hx
           have ha:=ha xN;subst ha
           refine⟨_,⟨q,h1,rfl⟩,λ_ _ _ _ w _=>?_⟩
           simp[execOp,CG,ex,ey,asIntOf,run_underlying hT,hlt,Af_ hk w,K_,AZ]
       . cases h
     . cases h
   . rename_i len e hT
     split at h
     . rename_i k hk
       cases hb:AC m len with
       |false=>rw[hb] at h;cases h
       |true=>
         rw[hb] at h
         have hlt:=Be_ hb
         simp only[cond_true] at h
         split at h
         . simp only[Option.some.injEq] at h;subst h
           simp only[VR] at hx ⊢;obtain⟨q,h1,ex⟩:=hx
           refine⟨_,⟨q,h1,rfl⟩,λ_ _ _ _ w _=>?_⟩
           simp[execOp,CG,ex,ey,asIntOf,run_underlying hT,hlt,Af_ hk w,K_,AZ,BB]
         . simp only[Option.some.injEq] at h;subst h
           simp only[VR] at hx ⊢
           refine⟨_,rfl,λ_ _ _ _ w _=>?_⟩
           simp[execOp,CG,hx,ey,asIntOf,run_underlying hT,hlt,Af_ hk w,K_,BB]
         . cases h
     . cases h
   . cases h
 . cases h
def exE(a:CV)(i:Nat):Option CV:=match a with
 | .tup vs=>vs[i]?
 |_=>none
theorem y_ex{a c:CV}{i:Nat}(hx:VR β a (ev F x))(h:exE a i=some c):Yl P N F H L β (.extract x i) ty c:=by
 unfold exE at h
 split at h
 simp only[VR] at hx;obtain⟨vs,ex,hv⟩:=hx;obtain⟨v,e,h1⟩:=hv.get h;exact⟨v,h1,Fv_ ex (by simpa using e)⟩
 . cases h
def lenE(P:Program)(T:TypeId)(a:CV):Option CV:=match P.underlying T with
 |some .string=>match a with
   | .str n _=>some (.int .i64 (n:Int))
   |_=>none
 |some (.slice _)=>match a with
   | .sl _ _ n _=>some (.int .i64 (n:Int))
   | .slu _ _ n _=>some (.int .i64 (n:Int))
   | .nils=>some (.int .i64 ((0:Nat):Int))
   |_=>none
 |_=>none
theorem Qc_{a c:CV}(hx:VR β a (ev F x))(h:lenE P T a=some c):Yl P N F H L β (.call ⟨.builtin .len,#[x],#[T]⟩) ty c:=by
 unfold lenE at h
 split at h
 . rename_i hT
   split at h
   . rename_i n s
     simp only[Option.some.injEq] at h;subst h
     simp only[VR] at hx
     refine⟨_,rfl,?_⟩
     have :=Fx_ (P:=P) (N:=N) (H:=H) (L:=L) (ty:=ty) hx.2 hT
     rwa [C_] at this
   . cases h
 . rename_i e hT
   split at h
   simp only[Option.some.injEq] at h;subst h
   simp only[VR] at hx;obtain⟨q,_,ex⟩:=hx
   exact⟨_,rfl,Br_ ex hT⟩
   simp only[Option.some.injEq] at h;subst h
   simp only[VR] at hx;obtain⟨q,c,a,_,_,_,ex,_⟩:=hx
   exact⟨_,rfl,Br_ ex hT⟩
   simp only[Option.some.injEq] at h;subst h
   simp only[VR] at hx
   exact⟨_,rfl,Br_ hx hT⟩
   . cases h
 . cases h
def capE(P:Program)(T:TypeId)(a:CV):Option CV:=match P.underlying T with
 |some (.slice _)=>match a with
   | .sl _ _ _ n=>some (.int .i64 (n:Int))
   | .nils=>some (.int .i64 ((0:Nat):Int))
   |_=>none
 |_=>none
theorem y_cap{a c:CV}(hx:VR β a (ev F x))(h:capE P T a=some c):Yl P N F H L β (.call ⟨.builtin .cap,#[x],#[T]⟩) ty c:=by
 unfold capE at h
 split at h
 . rename_i e hT
   split at h
   simp only[Option.some.injEq] at h;subst h
   simp only[VR] at hx;obtain⟨q,_,ex⟩:=hx
   exact⟨_,rfl,Hj_ ex hT⟩
   simp only[Option.some.injEq] at h;subst h
   simp only[VR] at hx
   exact⟨_,rfl,Hj_ hx hT⟩
   . cases h
 . cases h
def Mb_(k:IntKind):List CV->Option (List Int)
 |[]=>some []
 | .int k' z::r=>bif decide (k'=k) then (match Mb_ k r with
   |some l=>some (z::l)
   |none=>none) else none
 |_::_=>none
theorem Jl_{k:IntKind}:∀ {cs:List CV} {zs:List Int} {vs:List Value},Mb_ k cs=some zs->VRs β cs vs->vs=zs.map (Value.int k)
 |[],zs,vs,h,hv=>by simp only[Mb_,Option.some.injEq] at h;subst h;rw[hv.nil_inv];rfl
 |c::r,zs,vs,h,hv=>by
   obtain⟨v,us,rfl,h1,h2⟩:=hv.cons_inv
   cases c<;>simp only[Mb_] at h<;>first|(cases h;done)|skip
   rename_i k' z
   cases hk:decide (k'=k) with
   |false=>rw[hk] at h;cases h
   |true=>
     rw[hk] at h
     have :=of_decide_eq_true hk;subst this
     simp only[cond_true] at h
     split at h
     . rename_i l hl
       simp only[Option.some.injEq] at h;subst h
       simp only[VR] at h1;subst h1
       rw[Jl_ hl h2];rfl
     . cases h
theorem lo_minN{k:IntKind}{xs:List Operand}{z r:Int}(zs:List Int){ats:Array TypeId}(hx:evs F xs=(z::zs).map (Value.int k))(hr:zs.foldl min z=r):Lo P N (.call ⟨.builtin .min,xs.toArray,ats⟩) ty F H L (.int k r):=λd pos af g w _=>by
 refine I_ (args:=((z::zs).map (BM k)).toArray) (by simp[Dm_,hx]) λcs=>?_
 have key:∀ (zs:List Int) (z:Int),((zs.map (BM k)).foldlM G2 (BM k z)).run P w = .ok (BM k (zs.foldl min z)) w:=by
   intro zs
   induction zs with
   |nil=>intro z;simp
   |cons a r ih=>
     intro z
     have e:(if a<z then a else z)=min z a:=by omega
     simp only[DF,List.foldlM_cons,G2,AL,B6,AF,e,CU]
     exact ih _
 have :=key zs z
 simp[builtin,Builtin.min_,this,hr]
def mmE(b:Builtin)(cs:List CV):Option CV:=match cs with
 | .int k z::r=>match Mb_ k r with
   |some zs=>match b with
     | .min=>some (.int k (zs.foldl min z))
     | .max=>some (.int k (zs.foldl max z))
     |_=>none
   |none=>none
 |_=>none
theorem y_mm{b:Builtin}{xs:List Operand}{ats:Array TypeId}{cs:List CV}{c:CV}(hx:VRs β cs (evs F xs))(h:mmE b cs=some c):Yl P N F H L β (.call ⟨.builtin b,xs.toArray,ats⟩) ty c:=by
 unfold mmE at h
 split at h
 . rename_i k z r
   split at h
   . rename_i zs hz
     obtain⟨v,us,e,h1,h2⟩:=hx.cons_inv
     simp only[VR] at h1;subst h1
     have e2:=Jl_ hz h2
     subst e2
     split at h
     simp only[Option.some.injEq] at h;subst h
     exact⟨_,rfl,lo_minN zs e Y⟩
     simp only[Option.some.injEq] at h;subst h
     exact⟨_,rfl,lo_maxN zs e Y⟩
     . cases h
   . cases h
 . cases h
end Go.CE
namespace Go.CE
open Go.SW
variable{P:Program}{N:SW.Rest}{F:Fr}{H:Hp}{L:Ls}{ty T T':TypeId}{x y z:Operand}{β:Be}{f:Fe}
def onE(f:Fe):Option Operand->Option (Option Nat)
 |none=>some none
 |some x=>match ef f x with
   |some c=>match natE c with
     |some n=>some (some n)
     |none=>none
   |none=>none
def Bd(l:Option Nat)(v:Option Value):Prop:=match l with
 |none=>v=none
 |some n=>∃ k,v=some (.int k (n:Int))
theorem M0_(hf:FR β f F){o:Option Operand}{l:Option Nat}(h:onE f o=some l):Bd l (o.map (ev F)):=by
 unfold onE at h
 split at h
 simp only[Option.some.injEq] at h;subst h;rfl
 . split at h
   . rename_i c hc
     split at h
     . rename_i n hn
       simp only[Option.some.injEq] at h;subst h
       obtain⟨k,e⟩:=B0_ hn (P_ hf hc)
       exact⟨k,by simp[e]⟩
     . cases h
   . cases h
def bdE(len cap:Nat)(lo hi mx:Option Nat):Option (Nat×Nat×Nat):=
 match mx with
 |none=>match hi with
   |none=>bif A6 (lo.getD 0) len then some (lo.getD 0,len,cap) else none
   |some h=>bif A6 h cap&&A6 (lo.getD 0) h then some (lo.getD 0,h,cap) else none
 |some m=>match hi with
   |none=>none
   |some h=>bif A6 m cap&&(A6 h m&&A6 (lo.getD 0) h) then some (lo.getD 0,h,m) else none
theorem E6_{i y:Nat}{k:IntKind}{c:BoundsCode}(h:i<=y)(w:World):(Instr.sliceBound (.int k (i:Int)) y c).run P w = .ok i w:=by
 have h2:((i:Nat):Int)<=(y:Int):=by omega
 simp[Instr.sliceBound,asIntOf,h]
theorem run_lo{lo:Option Nat}{a:Option Value}{y mm:Nat}{cd:BoundsCode}{w:World}:Bd lo a->lo.getD 0<=y->((match a with
     |some v=>do
       let l <- Instr.sliceBound v y cd
       pure (l,y,mm)
     |none=>do
       let l <- pure 0
       pure (l,y,mm)):Sem (Nat×Nat×Nat)).run P w = .ok (lo.getD 0,y,mm) w:=by
 intro h1 hy
 cases lo with
 |none=>simp only[Bd] at h1;subst h1;simp
 |some n=>
   obtain⟨k,rfl⟩:=h1
   have hn:n<=y:=hy
   simp[E6_ (P:=P) (k:=k) (c:=cd) hn w]
theorem Fm_{len cap:Nat}{lo hi mx:Option Nat}{a b c:Option Value}{l h m:Nat}(he:bdE len cap lo hi mx=some (l,h,m))(h1:Bd lo a)(h2:Bd hi b)(h3:Bd mx c)(q:Bool)(w:World):(Instr.sliceBounds q len cap a b c).run P w = .ok (l,h,m) w:=by
 unfold bdE at he
 split at he
 . simp only[Bd] at h3;subst h3
   split at he
   . simp only[Bd] at h2;subst h2
     cases hb:A6 (lo.getD 0) len with
     |false=>rw[hb] at he;cases he
     |true=>
       rw[hb] at he
       simp only[cond_true,Option.some.injEq,Prod.mk.injEq] at he
       obtain⟨rfl,rfl,rfl⟩:=he
       have hy:lo.getD 0<=len:=A1 hb
       simp only[BU,AL,B6,AF]
       cases lo with
       |none=>simp only[Bd] at h1;subst h1;simp
       |some n=>
         obtain⟨k1,rfl⟩:=h1
         have hn:n<=len:=hy
         simp[E6_ (P:=P) (k:=k1) hn w]
   . rename_i hh
     obtain⟨k,rfl⟩:=h2
     cases hb:(A6 hh cap&&A6 (lo.getD 0) hh) with
     |false=>rw[hb] at he;cases he
     |true=>
       rw[hb] at he
       simp only[A2] at hb
       simp only[cond_true,Option.some.injEq,Prod.mk.injEq] at he
       obtain⟨rfl,rfl,rfl⟩:=he
       have e1:=E6_ (P:=P) (k:=k) (c:=if q then .sliceAcap else .sliceAlen) (A1 hb.1) w
       have hy:lo.getD 0<=hh:=A1 hb.2
       simp only[BU,AL,B6,AF,e1]
       cases lo with
       |none=>simp only[Bd] at h1;subst h1;simp
       |some n=>
         obtain⟨k1,rfl⟩:=h1
         have hn:n<=hh:=hy
         simp[E6_ (P:=P) (k:=k1) hn w]
 . rename_i mm
   obtain⟨k3,rfl⟩:=h3
   split at he
   . cases he
   . rename_i hh
     obtain⟨k,rfl⟩:=h2
     cases hb:(A6 mm cap&&(A6 hh mm&&A6 (lo.getD 0) hh)) with
     |false=>rw[hb] at he;cases he
     |true=>
       rw[hb] at he
       simp only[A2] at hb
       simp only[cond_true,Option.some.injEq,Prod.mk.injEq] at he
       obtain⟨rfl,rfl,rfl⟩:=he
       have e0:=E6_ (P:=P) (k:=k3) (c:=if q then .slice3Acap else .slice3Alen) (A1 hb.1) w
       have e1:=E6_ (P:=P) (k:=k) (c:= .slice3B) (A1 hb.2.1) w
       have hy:lo.getD 0<=hh:=A1 hb.2.2
       simp only[BU,AL,B6,AF,e1,e0]
       cases lo with
       |none=>simp only[Bd] at h1;subst h1;simp
       |some n=>
         obtain⟨k1,rfl⟩:=h1
         have hn:n<=hh:=hy
         simp[E6_ (P:=P) (k:=k1) hn w]
theorem I8_{len cap:Nat}{lo hi mx:Option Nat}{l h m:Nat}(hc:len<=cap)(he:bdE len cap lo hi mx=some (l,h,m)):l<=h/\h<=m/\m<=cap:=by
 unfold bdE at he
 split at he
 . split at he
   . cases hb:A6 (lo.getD 0) len with
     |false=>rw[hb] at he;cases he
     |true=>rw[hb] at he;simp only[cond_true,Option.some.injEq,Prod.mk.injEq] at he;obtain⟨rfl,rfl,rfl⟩:=he;have :=A1 hb;omega
   . rename_i hh
     cases hb:(A6 hh cap&&A6 (lo.getD 0) hh) with
     |false=>rw[hb] at he;cases he
     |true=>rw[hb] at he;simp only[cond_true,Option.some.injEq,Prod.mk.injEq] at he;obtain⟨rfl,rfl,rfl⟩:=he;simp only[A2] at hb;have :=A1 hb.1;have :=A1 hb.2;omega
 . rename_i mm
   split at he
   . cases he
   . rename_i hh
     cases hb:(A6 mm cap&&(A6 hh mm&&A6 (lo.getD 0) hh)) with
     |false=>rw[hb] at he;cases he
     |true=>rw[hb] at he;simp only[cond_true,Option.some.injEq,Prod.mk.injEq] at he;obtain⟨rfl,rfl,rfl⟩:=he;simp only[A2] at hb;have :=A1 hb.1;have :=A1 hb.2.1;have :=A1 hb.2.2;omega
def slE(P:Program)(T:TypeId)(a:CV)(lo hi mx:Option Nat):Option CV:=match P.underlying T with
 |some .string=>match a with
   | .str n s=>match mx with
     |none=>match bdE n n lo hi none with
       |some (l,h,_)=>some (.str (h-l) (s/256 ^ l%256 ^ (h-l)))
       |none=>none
     |some _=>none
   |_=>none
 |some (.slice e)=>match szE P e with
   |some k=>match a with
     | .sl i o len cap=>bif A6 len cap then (match bdE len cap lo hi mx with
       |some (l,h,m)=>some (.sl i (bif A3 m l then o else o+l*k) (h-l) (m-l))
       |none=>none) else none
     | .slu i o len k'=>bif A3 k k' then (match mx with
       |none=>match bdE len len lo hi none with
         |some (l,h,_)=>some (.slu i (o+l*k) (h-l) k)
         |none=>none
       |some m=>match bdE len len lo hi (some m) with
         |some (l,h,m)=>bif A3 m l then none else some (.sl i (o+l*k) (h-l) (m-l))
         |none=>none) else none
     | .nils=>match bdE 0 0 lo hi mx with
       |some _=>some .nils
       |none=>none
     |_=>none
   |none=>none
 |some (.array n e)=>match szE P e with
   |some k=>match a with
     | .ptr i o=>match bdE n n lo hi mx with
       |some (l,h,m)=>some (.sl i (bif A3 m l then o else o+l*k) (h-l) (m-l))
       |none=>none
     |_=>none
   |none=>none
 |_=>none
theorem if_beq{m l o k:Nat}{b:Nat}:(if m=l then (⟨b,o,none⟩:Addr) else (⟨b,o,none⟩:Addr).add (l*k))=⟨b,bif Nat.beq m l then o else o+l*k,none⟩:=by
 by_cases h:m=l;subst h;simp;have :A3 m l=false:=D1_ h;simp[h,this,K_]
theorem On_{len cap:Nat}{lo hi:Option Nat}{l h m:Nat}(hc:len<=cap)(he:bdE len len lo hi none=some (l,h,m)):bdE len cap lo hi none=some (l,h,cap)/\h<=len:=by
 unfold bdE at he ⊢;simp only at he ⊢
 split at he
 . cases hb:A6 (lo.getD 0) len with
   |false=>rw[hb] at he;cases he
   |true=>rw[hb] at he;simp only[cond_true,Option.some.injEq,Prod.mk.injEq] at he;obtain⟨rfl,rfl,rfl⟩:=he;simp
 . rename_i hh
   cases hb:(A6 hh len&&A6 (lo.getD 0) hh) with
   |false=>rw[hb] at he;cases he
   |true=>
     rw[hb] at he;simp only[cond_true,Option.some.injEq,Prod.mk.injEq] at he;obtain⟨rfl,rfl,rfl⟩:=he
     simp only[A2] at hb
     have h1:=A1 hb.1
     have :A6 hh cap=true:=BN xN
     simp[this,hb.2];exact h1
theorem Ld_{len cap:Nat}{lo hi:Option Nat}{l h m m0:Nat}(hc:len<=cap)(he:bdE len len lo hi (some m0)=some (l,h,m)):bdE len cap lo hi (some m0)=some (l,h,m)/\m<=len/\m=m0:=by
 unfold bdE at he ⊢;simp only at he ⊢
 split at he
 . cases he
 . rename_i hh
   cases hb:(A6 m0 len&&(A6 hh m0&&A6 (lo.getD 0) hh)) with
   |false=>rw[hb] at he;cases he
   |true=>
     rw[hb] at he;simp only[cond_true,Option.some.injEq,Prod.mk.injEq] at he;obtain⟨rfl,rfl,rfl⟩:=he
     simp only[A2] at hb
     have h1:=A1 hb.1
     have :A6 m0 cap=true:=BN xN
     simp[this,hb.2.1,hb.2.2];exact h1
theorem y_sl{lo hi mx:Option Operand}{l0 h0 m0:Option Nat}{a c:CV}(hf:FR β f F)(hx:VR β a (ev F x))(h1:onE f lo=some l0)(h2:onE f hi=some h0)(h3:onE f mx=some m0)(h:slE P T a l0 h0 m0=some c):Yl P N F H L β (.slice T x lo hi mx) ty c:=by
 have b1:=M0_ hf h1;have b2:=M0_ hf h2;have b3:=M0_ hf h3;unfold slE at h
 split at h
 . rename_i hT
   split at h
   . rename_i n s
     simp only[VR] at hx
     split at h
     . split at h
       . rename_i l hh mm hb
         simp only[Option.some.injEq] at h;subst h
         obtain⟨e1,e2,e3⟩:=I8_ (AY _) hb
         refine⟨_,⟨Nat.mod_lt _ (BH xN),rfl⟩,λ_ _ _ _ w _=>?_⟩
         have hr:=Fm_ (P:=P) hb b1 b2 (show Bd none none from rfl) false w
         have hm:mx.map (ev F)=none:=b3
         have hs:(⟨(dec n s).toArray⟩:ByteArray).size=n:=by rw[Au_,C_]
         have key:(⟨(dec n s).toArray⟩:ByteArray).extract l hh=⟨(dec (hh-l) (s/256 ^ l%256 ^ (hh-l))).toArray⟩:=by
           rw[Bc_,Bx_ l n s xN,Bj_ (hh-l) (n-l) _ xN]
         have ex:ev F x = .string ⟨(dec n s).toArray⟩:=hx.2
         simp only[execOp,BJ,C4,ex,run_underlying hT,AL,AF,hm,hs,hr,B6,key,Option.isSome_none,DK,if_false]
         rfl
       . cases h
     . cases h
   . cases h
 . rename_i e hT
   split at h
   . rename_i k hk
     split at h
     . rename_i i o len cap
       simp only[VR] at hx;obtain⟨q,hq,ex⟩:=hx
       cases hlc:A6 len cap with
       |false=>rw[hlc] at h;cases h
       |true=>
         rw[hlc] at h
         simp only[cond_true] at h
         split at h
         . rename_i l hh mm hb
           simp only[Option.some.injEq] at h;subst h
           refine⟨_,by simp only[VR];exact⟨q,hq,rfl⟩,λ_ _ _ _ w _=>?_⟩
           have hr:=Fm_ (P:=P) hb b1 b2 b3 true w
           simp only[execOp,BJ,C4,ex,run_underlying hT,AL,AF,hr,B6,Af_ hk w,AV]
           congr 4
           by_cases hml:mm=l
           . subst hml;simp
           . exact zQ
         . cases h
     . rename_i i o len k'
       simp only[VR] at hx;obtain⟨q,cc,aa,hq,hroom,hle,ex,hae⟩:=hx
       cases hkk:A3 k k' with
       |false=>rw[hkk] at h;cases h
       |true=>
       rw[hkk] at h
       have :=A0 hkk
       subst this
       simp only[cond_true] at h
       split at h
       . split at h
         . rename_i l hh mm hb
           simp only[Option.some.injEq] at h;subst h
           obtain⟨hb2,hl⟩:=On_ hle hb
           obtain⟨e1,e2,e3⟩:=I8_ hle hb2
           refine ⟨_,by
             simp only[VR]
             refine⟨q,cc-l,if cc=l then aa else aa.add (l*k),hq,?_,by omega,rfl,λh0=>?_⟩
             . have :cc*k=l*k+(cc-l)*k:=by rw[<- AG];congr 1;omega
               omega
             . rw[if_neg xN,hae xN,K_,AZ],λ_ _ _ _ w _=>?_⟩
           have hr:=Fm_ (P:=P) hb2 b1 b2 b3 true w
           simp only[execOp,BJ,C4,ex,run_underlying hT,AL,AF,hr,B6,Af_ hk w,AV]
           congr 3
           split<;>rfl
         . cases h
       . split at h
         . rename_i m00 _ l hh mm hb
           obtain⟨hb2,hl,_⟩:=Ld_ hle hb
           obtain⟨e1,e2,e3⟩:=I8_ hle hb2
           cases hml:A3 mm l with
           |true=>rw[hml] at h;cases h
           |false=>
             rw[hml] at h
             simp only[cond_false,Option.some.injEq] at h;subst h
             have hne:=BA hml
             have ha:=hae xN
             subst ha
             refine⟨_,by simp only[VR];exact⟨q,hq,rfl⟩,λ_ _ _ _ w _=>?_⟩
             have hr:=Fm_ (P:=P) hb2 b1 b2 b3 true w
             simp only[execOp,BJ,C4,ex,run_underlying hT,AL,AF,hr,B6,Af_ hk w,AV]
             simp[hne,K_,AZ]
         . cases h
     . simp only[VR] at hx
       split at h
       . rename_i l hb
         obtain⟨l,hh,mm⟩:=l
         simp only[Option.some.injEq] at h;subst h
         obtain⟨e1,e2,e3⟩:=I8_ (AY _) hb
         have l0:l=0:=by omega
         have l1:hh=0:=by omega
         have l2:mm=0:=by omega
         subst l0;subst l1;subst l2
         refine⟨_,rfl,λ_ _ _ _ w _=>?_⟩
         have hr:=Fm_ (P:=P) hb b1 b2 b3 true w
         simp[execOp,BJ,C4,hx,run_underlying hT,hr,Af_ hk w]
       . cases h
     . cases h
   . cases h
 . rename_i n e hT
   split at h
   . rename_i k hk
     split at h
     . rename_i i o
       simp only[VR] at hx;obtain⟨q,hq,ex⟩:=hx
       split at h
       . rename_i l hh mm hb
         simp only[Option.some.injEq] at h;subst h
         refine⟨_,by simp only[VR];exact⟨q,hq,rfl⟩,λ_ _ _ _ w _=>?_⟩
         have hr:=Fm_ (P:=P) hb b1 b2 b3 false w
         simp only[execOp,BJ,BB,ex,run_underlying hT,AL,AF,hr,B6,Af_ hk w]
         congr 4
         by_cases hml:mm=l
         subst hml;simp
         exact zQ
       . cases h
     . cases h
   . cases h
 . cases h
end Go.CE
namespace Go.CE
open Go.SW
noncomputable section
variable{P:Program}{n:Nat}{N:SW.Rest}{F:Fr}{H:Hp}{L:Ls}{ty T T':TypeId}{x y z:Operand}{β:Be}{f:Fe}{h:He}{nx:Nat}
abbrev Gt:=List (Nat×List CV)
def gbE:Gt->Nat->Option (List CV)
 |[],_=>none
 |(a,cs)::r,g=>bif A3 a g then some cs else gbE r g
structure GH(G:Gt)(H:Hp):Prop where
 h:∀ g cs,gbE G g=some cs->∃ vs T fr,H g=some (.cells vs T fr)/\∀ β,VRs β cs vs.toList
theorem Lf_{cs:List CV}{vs:List Value}{s:Nat}(hv:VRs β cs ((vs.drop s).take cs.length)){o:Nat}{c:CV}(hc:cs[o]? = some c):∃ v,vs[s+o]? = some v/\VR β c v:=by
 obtain⟨v,e,h1⟩:=hv.get hc;have hlt:o<cs.length:=(List.getElem?_eq_some_iff.1 hc).1;rw[AD,if_pos hlt,AS] at e;exact⟨v,e,h1⟩
theorem D3_{vs:List Value}{s m o k:Nat}(hm:o+k<=m):(((vs.drop s).take m).drop o).take k=sub vs (s+o) k:=by
 unfold sub;rw[List.drop_take,List.take_take,List.drop_drop,Nat.min_eq_left xN]
def u8s(n x:Nat):List CV:=match n with
 |0=>[]
 |n+1=> .int .u8 ((x%256:Nat):Int)::u8s n (x/256)
theorem Rf_:∀ (n x:Nat),VRs β (u8s n x) ((dec n x).map u8v)
 |0,_=> .nil
 |n+1,x=>by
   simp only[u8s,dec,DF]
   refine .cons ?_ (Rf_ n _)
   simp only[VR,u8v]
   simp
theorem Kz_:∀ (n x:Nat),(u8s n x).length=n
 |0,_=>rfl
 |n+1,x=>by simp[u8s,Kz_ n]
def ldE(P:Program)(G:Gt)(h:He)(T:TypeId)(a:CV):Option CV:=match agE P T with
 |some true=>match szE P T with
   |some k=>match a with
     | .ptr i o=>match h.get i with
       |some (.cells _ cs _)=>bif A6 (o+k) cs.length then some (.agg ((cs.drop o).take k)) else none
       |some (.bys _ m z _)=>bif A6 (o+k) m then some (.agg (u8s k (z/256 ^ o%256 ^ k))) else none
       |_=>none
     |_=>none
   |none=>none
 |some false=>match a with
   | .ptr i o=>match h.get i with
     |some (.cells _ cs _)=>cs[o]?
     |some (.bys _ m z _)=>bif AC o m then some (.int .u8 ((z/256 ^ o%256:Nat):Int)) else none
     |some (.rob _ m z)=>bif AC o m then some (.int .u8 ((z/256 ^ o%256:Nat):Int)) else none
     |_=>none
   | .gp g o=>match gbE G g with
     |some cs=>cs[o]?
     |none=>none
   |_=>none
 |none=>none
theorem y_ld{G:Gt}{a c:CV}(hG:GH G H)(hh:HR β h nx L)(hx:VR β a (ev F x))(he:ldE P G h T a=some c):Yl P N F H L β (.load T x) ty c:=by
 unfold ldE at he
 split at he
 . rename_i hg
   split at he
   . rename_i k hk
     split at he
     . rename_i i o
       simp only[VR] at hx;obtain⟨q,hq,ex⟩:=hx
       split at he
       . rename_i T0 cs gr hi
         cases hb:A6 (o+k) cs.length with
         |false=>rw[hb] at he;cases he
         |true=>
           rw[hb] at he
           have hle:=A1 hb
           simp only[cond_true,Option.some.injEq] at he;subst he
           obtain⟨q',vs,h1,h2,h3,h4,_,h6,_⟩:=hh.br i _ hi
           rw[hq] at h1;cases h1
           have hs:sub vs (q.s+o) k=(((vs.drop q.s).take cs.length).drop o).take k:=(D3_ hle).symm
           refine⟨.agg (sub vs (q.s+o) k).toArray,?_,Eb_ ex (Cu_ hg) (Af_ hk) h2 Y ?_⟩
           . simp only[VR];rw[hs];exact⟨_,rfl,(h6.drop o).take k⟩
           . simp[sub];omega
       . rename_i T0 m zz gr hi
         cases hb:A6 (o+k) m with
         |false=>rw[hb] at he;cases he
         |true=>
           rw[hb] at he
           have hle:=A1 hb
           simp only[cond_true,Option.some.injEq] at he;subst he
           obtain⟨q',vs,h1,h2,h3,h4,_,_,h6,_⟩:=hh.br i _ hi
           rw[hq] at h1;cases h1
           have hs:sub vs (q.s+o) k=(((vs.drop q.s).take m).drop o).take k:=(D3_ hle).symm
           refine⟨.agg (sub vs (q.s+o) k).toArray,?_,Eb_ ex (Cu_ hg) (Af_ hk) h2 Y ?_⟩
           . simp only[VR];rw[hs,h6,<- C2,<- C3,Bx_ o m zz xN,Bj_ k (m-o) _ xN]
             exact⟨_,rfl,Rf_ _ _⟩
           . simp[sub];omega
       . cases he
     . cases he
   . cases he
 . rename_i hg
   split at he
   . rename_i i o
     simp only[VR] at hx;obtain⟨q,hq,ex⟩:=hx
     split at he
     . rename_i T0 cs gr hi
       obtain⟨q',vs,h1,h2,h3,h4,_,h6,_⟩:=hh.br i _ hi
       rw[hq] at h1;cases h1
       obtain⟨v,e,hv⟩:=Lf_ h6 he
       exact⟨v,hv,A2_ ex (Cu_ hg) h2 e⟩
     . rename_i T0 m zz gr hi
       cases hb:AC o m with
       |false=>rw[hb] at he;cases he
       |true=>
         rw[hb] at he
         have hlt:=Be_ hb
         simp only[cond_true,Option.some.injEq] at he;subst he
         obtain⟨q',vs,h1,h2,h3,h4,_,_,h6,_⟩:=hh.br i _ hi
         rw[hq] at h1;cases h1
         have e:vs[q.s+o]? = some (u8v (B7 (zz/256 ^ o%256))):=by
           have :=congrArg (λl:List Value=>l[o]?) h6
           simp only[AR,Eo_ m zz o hlt,AV] at this
           rw[AD,if_pos hlt,AS] at this
           exact this
         refine⟨_,?_,A2_ ex (Cu_ hg) h2 e⟩
         simp only[VR,u8v];simp
     . rename_i T0 m zz hi
       cases hb:AC o m with
       |false=>rw[hb] at he;cases he
       |true=>
         rw[hb] at he
         have hlt:=Be_ hb
         simp only[cond_true,Option.some.injEq] at he;subst he
         obtain⟨q',vs,fr,h1,h2,h3,h4,h6⟩:=hh.br i _ hi
         rw[hq] at h1;cases h1
         have e:vs[o]? = some (u8v (B7 (zz/256 ^ o%256))):=by
           have :=congrArg (λl:List Value=>l[o]?) h6
           simp only[AR,Eo_ m zz o hlt,AV] at this
           rw[AD,if_pos hlt] at this
           exact xC
         rw[h3,BG] at ex
         refine⟨u8v (B7 (zz/256 ^ o%256)),?_,λd pos af g w hm=>?_⟩
         . simp only[VR,u8v];simp
         . have hc:w.cell? ⟨q.b,o,none⟩=some (u8v (B7 (zz/256 ^ o%256))):=by simp[World.cell?,hm.l i q.b _ h2,e]
           simp[execOp,Instr.loadAt,ex,BB,loadVar,Cu_ hg w,hc]
     . cases he
   . rename_i g o
     simp only[VR] at hx
     split at he
     . rename_i cs hg2
       obtain⟨vs,T0,fr,h1,h2⟩:=hG.h g cs hg2
       obtain⟨v,e,hv⟩:=(h2 β).get he
       exact⟨v,hv,Jp_ hx (Cu_ hg) h1 (by simpa using e)⟩
     . cases he
   . cases he
 . cases he
def b2sE(P:Program)(h:He)(T T':TypeId)(a:CV):Option CV:=match P.underlying T with
 |some (.slice e)=>match P.underlying T' with
   |some .string=>match P.underlying e with
     |some (.int .u8)=>match a with
       | .sl i o len _=>match h.get i with
         |some (.bys _ m z _)=>bif A6 (o+len) m then some (.str len (z/256 ^ o%256 ^ len)) else none
         |_=>none
       | .slu i o len _=>match h.get i with
         |some (.bys _ m z _)=>bif A6 (o+len) m&&AC 0 len then some (.str len (z/256 ^ o%256 ^ len)) else none
         |_=>none
       | .nils=>some (.str 0 0)
       |_=>none
     |_=>none
   |_=>none
 |_=>none
theorem lo_b2sG{e b o cap i T2:Nat}(l:Bs){vs:List Value}(hx:ev F x = .slice (some ⟨b,o,none⟩) l.length cap)(hT:P.underlying T=some (.slice e))(hT':P.underlying T'=some .string)(he:P.underlying e=some (.int .u8))(hi:L i=some (b,bx T2 vs))(hz:sub vs o l.length=l.map u8v) :
   Lo P N (.convert T T' x) ty F H L (SW.str l):=λd pos af g w hm=>by
 have :=run_convert_bytes_back (P:=P) w T T' e ⟨b,o,none⟩ cap l hT he hT' (λj hj=>by
   rw[K_]
   refine hm.cellL hi ?_
   have e1:=congrArg (λl:List Value=>l[j]?) hz
   simp only[sub,AD,if_pos hj,AS] at e1
   rw[e1]
   simp[hj,u8v])
 simp[execOp,hx,this,SW.str]
theorem Pv_{e:TypeId}(hT:P.underlying T=some (.slice e))(hT':P.underlying T'=some .string)(he:P.underlying e=some (.int .u8))(w:World):(convert T T' (.slice none 0 0)).run P w = .ok (SW.str []) w:=by
 simp[convert,run_underlying hT,run_underlying hT',run_underlying he,Conv.bytesToString,SW.str];rfl
theorem y_b2s{a c:CV}(hh:HR β h nx L)(hx:VR β a (ev F x))(he:b2sE P h T T' a=some c):Yl P N F H L β (.convert T T' x) ty c:=by
 have key:∀ {i o len m zz T0:Nat} {gr:Bool} {q:Pl} {cap:Nat},β i=some q->h.get i=some (.bys T0 m zz gr)->A6 (o+len) m=true->∀ {e:TypeId},P.underlying T=some (.slice e)->P.underlying T'=some .string->P.underlying e=some (.int .u8) ->
     ev F x = .slice (some ⟨q.b,q.s+o,none⟩) len cap->Yl P N F H L β (.convert T T' x) ty (.str len (zz/256 ^ o%256 ^ len)):=by
   intro i o len m zz T0 gr q cap hq hi hb e hT hT' hu ex
   have hle:=A1 hb
   obtain⟨q',vs,h1,h2,h3,h4,_,_,h6,_⟩:=hh.br i _ hi
   rw[hq] at h1;cases h1
   refine⟨_,⟨Nat.mod_lt _ (BH xN),rfl⟩,lo_b2sG (dec len (zz/256 ^ o%256 ^ len)) (by rw[C_];exact ex) hT hT' hu h2 ?_⟩
   rw[C_,<- D3_ (m:=m) hle,h6,<- C2,<- C3,Bx_ o m zz xN,Bj_ len (m-o) _ xN]
 unfold b2sE at he
 split at he
 . rename_i e hT
   split at he
   . rename_i hT'
     split at he
     . rename_i hu
       split at he
       . rename_i i o len cap
         simp only[VR] at hx;obtain⟨q,hq,ex⟩:=hx
         split at he
         . rename_i T0 m zz gr hi
           cases hb:A6 (o+len) m with
           |false=>rw[hb] at he;cases he
           |true=>
             rw[hb] at he
             simp only[cond_true,Option.some.injEq] at he;subst he
             exact key hq hi hb hT hT' hu ex
         . cases he
       . rename_i i o len k
         simp only[VR] at hx;obtain⟨q,cc,aa,hq,_,hle,ex,ha⟩:=hx
         split at he
         . rename_i T0 m zz gr hi
           cases hb:(A6 (o+len) m&&AC 0 len) with
           |false=>rw[hb] at he;cases he
           |true=>
             rw[hb] at he
             simp only[A2] at hb
             simp only[cond_true,Option.some.injEq] at he;subst he
             have :=Be_ hb.2
             have ha:=ha xN;subst ha
             exact key hq hi hb.1 hT hT' hu ex
         . cases he
       simp only[VR] at hx
       simp only[Option.some.injEq] at he;subst he
       refine⟨SW.str [],by simp only[VR];exact⟨by simp,rfl⟩,λ_ _ _ _ w _=>?_⟩
       simp[execOp,hx,Pv_ hT hT' hu w]
       . cases he
     . cases he
   . cases he
 . cases he
end
end Go.CE
namespace Go.CE
open Go.SW
noncomputable section
variable{P:Program}{n:Nat}{N:SW.Rest}{F:Fr}{H:Hp}{L:Ls}{ty T T':TypeId}{x y z:Operand}{β:Be}{f:Fe}{h:He}{nx:Nat}
structure Post(β:Be)(h:He)(nx:Nat)(L:Ls)(β':Be)(h':He)(nx':Nat)(L':Ls):Prop where
 le:β.le β'
 nle:nx<=nx'
 hr:HR β' h' nx' L'
 fr:∀ i,i<nx->h.get i=none->L' i=L i/\β' i=β i/\h'.get i=none
theorem Post.refl(hr:HR β h nx L):Post β h nx L β h nx L:=⟨.refl _,AY _,hr,λ_ _ e=>⟨rfl,rfl,e⟩⟩
theorem Post.trans{β' β'':Be}{h' h'':He}{nx' nx'':Nat}{L' L'':Ls}(a:Post β h nx L β' h' nx' L')(b:Post β' h' nx' L' β'' h'' nx'' L''):Post β h nx L β'' h'' nx'' L'':=
 ⟨a.le.trans b.le,Nat.le_trans a.nle b.nle,b.hr,λi hi e=>by
   obtain⟨a1,a2,a3⟩:=a.fr i hi e
   obtain⟨b1,b2,b3⟩:=b.fr i (BV hi a.nle) a3
   exact⟨b1.trans a1,b2.trans a2,b3⟩⟩
def bset(β:Be)(i:Nat)(q:Pl):Be:=λj=>if j=i then some q else β j
theorem Ay_{i:Nat}{q:Pl}(h:β i=none):β.le (bset β i q):=λj p e=>by
 unfold bset;split
 . rename_i e';subst e';rw[h] at e;cases e
 . exact e
theorem J_{i:Nat}{q:Pl}:bset β i q i=some q:=by simp[bset]
theorem Post.new{h':He}{hb:HB}{q:Pl}{x:Option (Nat×Obj)}(hr:HR β h nx L)(h1:h'.get nx=some hb)(h2:∀ j,j≠nx->h'.get j=h.get j)(hB:BR (bset β nx q) nx hb x):Post β h nx L (bset β nx q) h' (nx+1) (lupd L nx x):=by
 have h0:=(hr.fr nx (AY _)).1;refine⟨Ay_ h0,Nat.le_succ _,⟨λi b e=>?_,λi b e=>?_,λi hi=>?_⟩,λi hi e=>?_⟩;by_cases e':i=nx
 . subst e';rw[h1] at e;cases e;rw[E_];exact hB
 rw[h2 i e'] at e;rw[D_ _ _ _ _ e'];exact (hr.br i b e).mono (Ay_ h0);by_cases e':i=nx;omega;rw[h2 i e'] at e;have :=hr.lt i b e;omega;have e':i≠nx:=by omega
 rw[D_ _ _ _ _ e'];have :=hr.fr i xN;exact⟨by unfold bset;rw[if_neg e'];exact this.1,this.2⟩;have e':i≠nx:=by omega
 rw[D_ _ _ _ _ e',h2 i e'];exact⟨rfl,by unfold bset;rw[if_neg e'],e⟩
theorem Post.set{h':He}{i:Nat}{hb hb0:HB}{x:Option (Nat×Obj)}(hr:HR β h nx L)(h0:h.get i=some hb0)(h1:h'.get i=some hb)(h2:∀ j,j≠i->h'.get j=h.get j)(hB:BR β i hb x):Post β h nx L β h' nx (lupd L i x):=by
 have hlt:=hr.lt i _ h0;refine⟨.refl _,AY _,⟨λj b e=>?_,λj b e=>?_,λj hj=>?_⟩,λj hj e=>?_⟩;by_cases e':j=i
 . subst e';rw[h1] at e;cases e;rw[E_];exact hB
 rw[h2 j e'] at e;rw[D_ _ _ _ _ e'];exact hr.br j b e;by_cases e':j=i;subst e';exact hlt;rw[h2 j e'] at e;exact hr.lt j b e;have e':j≠i:=by omega
 rw[D_ _ _ _ _ e'];exact hr.fr j hj;have e':j≠i:=λq=>by subst q;rw[h0] at e;cases e
 rw[D_ _ _ _ _ e',h2 j e'];exact⟨rfl,rfl,e⟩
def pkE:List CV->Option (Nat×Nat)
 |[]=>some (0,0)
 | .int .u8 (.ofNat z)::r=>bif AC z 256 then (match pkE r with
   |some (n,x)=>some (n+1,z+256*x)
   |none=>none) else none
 |_::_=>none
theorem J1_:∀ {cs:List CV} {m x:Nat} {vs:List Value},pkE cs=some (m,x)->VRs β cs vs->vs=(dec m x).map u8v/\x<256 ^ m
 |[],m,x,vs,e,hv=>by simp only[pkE,Option.some.injEq,Prod.mk.injEq] at e;obtain⟨rfl,rfl⟩:=e;rw[hv.nil_inv];exact⟨rfl,by simp⟩
 |c::r,m,x,vs,e,hv=>by
   obtain⟨v,us,rfl,h1,h2⟩:=hv.cons_inv
   unfold pkE at e
   split at e
   . rename_i e0;cases e0
   . rename_i z r' e0
     cases e0
     cases hb:AC z 256 with
     |false=>rw[hb] at e;cases e
     |true=>
       rw[hb] at e
       have hlt:=Be_ hb
       simp only[cond_true] at e
       split at e
       . rename_i m' x' hr
         simp only[Option.some.injEq,Prod.mk.injEq] at e;obtain⟨rfl,rfl⟩:=e
         obtain⟨e1,e2⟩:=J1_ hr h2
         simp only[VR] at h1;subst h1
         have a1:(z+256*x')%256=z:=by omega
         have a2:(z+256*x')/256=x':=by omega
         refine⟨?_,by rw[BE];omega⟩
         simp only[dec,DF,a1,a2,<- e1,u8v]
         congr 2
         rw[UInt8.toNat_ofNat']
         have :z%2 ^ 8=z:=C9 hlt
         rw[this];rfl
       . cases e
   . cases e
def isB(P:Program)(T:TypeId):Bool:=match P.underlying T with
 |some (.int .u8)=>true
 |some (.array _ e)=>match P.underlying e with
   |some (.int .u8)=>true
   |_=>false
 |_=>false
def mkB(P:Program)(T:TypeId)(cs:List CV):Option HB:=match isB P T with
 |true=>match pkE cs with
   |some (n,x)=>some (.bys T n x false)
   |none=>none
 |false=>bif all1 cs then some (.cells T cs false) else none
theorem Ho_{cs:List CV}{hb:HB}{vs:List Value}{i b:Nat}(e:mkB P T cs=some hb)(hv:VRs β cs vs)(hi:β i=some ⟨b,0,vs.length⟩):BR β i hb (some (b,bx T vs)):=by
 unfold mkB at e
 split at e
 . split at e
   . rename_i m x hp
     simp only[Option.some.injEq] at e;subst e
     obtain⟨e1,e2⟩:=J1_ hp hv
     have hl:vs.length=m:=by rw[e1];simp[C_]
     refine⟨_,vs,hi,rfl,by simp,by simp;omega,λ_=>⟨rfl,by simp;omega⟩,e2,?_,λv hv=>?_⟩
     rw[BW,<- hl,FT];exact hl ▸ e1
     rw[e1] at hv;obtain⟨a,_,rfl⟩:=List.mem_map.1 hv;rfl
   . cases e
 . cases ha:all1 cs with
   |false=>rw[ha] at e;cases e
   |true=>
     rw[ha] at e
     simp only[cond_true,Option.some.injEq] at e;subst e
     have hl:=hv.length
     refine⟨_,vs,hi,rfl,by simp,by simp;omega,λ_=>⟨rfl,hl⟩,?_,Bd_ hv ha⟩
     rw[BW,<- hl,FT];exact hv
def Es(P:Program)(n:Nat)(N:SW.Rest)(F:Fr)(H:Hp)(L:Ls)(β:Be)(h:He)(nx:Nat)(o:Oper)(c:CV)(h':He)(nx':Nat):Prop:=
 ∀ (ops:List Oper) (K:Fr->Hp->Ls->Prop),(∀ β' v L',VR β' c v->Post β h nx L β' h' nx' L'->K (putO F o.dst v) H L')->Op1 P n N ops o K F H L
theorem Es.of_yl{op:Op}{d:Nat}{pos:String}{af:Array Edge}{c:CV}(hd:Nat.blt d n=true)(hr:HR β h nx L)(hy:Yl P N F H L β op ty c):Es P n N F H L β h nx ⟨some d,op,ty,pos,af,none⟩ c h nx:=λops K k=>by
 obtain⟨v,h1,h2⟩:=hy
 exact Du_ hd h2 (k β v L h1 (.refl hr))
abbrev Ke(R:Type):=CV->He->Nat->Option R
def newE{R:Type}(P:Program)(h:He)(nx:Nat)(T:TypeId)(cs:List CV)(k:Ke R):Option R:=match mkB P T cs with
 |some hb=>Tr.setK 40 h nx hb λh=>k (.ptr nx 0) h (nx+1)
 |none=>none
theorem Mt_{R:Type}{cs:List CV}{k:Ke R}{z:R}(e:newE P h nx T cs k=some z):∃ h',k (.ptr nx 0) h' (nx+1)=some z/\∀ {β:Be} {L:Ls} {vs:List Value} (b:Nat),HR β h nx L->VRs β cs vs->VR (bset β nx ⟨b,0,vs.length⟩) (.ptr nx 0) (.pointer (some ⟨b,0,none⟩))/\Post β h nx L (bset β nx ⟨b,0,vs.length⟩) h' (nx+1) (lupd L nx (some (b,bx T vs))):=by
 unfold newE at e
 split at e
 . rename_i hb hB
   obtain⟨h',e1,e2,e3⟩:=Tr.setK_ok _ _ _ _ _ _ e
   exact yA
 . cases e
def alE{R:Type}(P:Program)(h:He)(nx:Nat)(T:TypeId)(k:Ke R):Option R:=match Fg_ P T with
 |some cs=>newE P h nx T cs k
 |none=>none
theorem e_al{R:Type}{k:Ke R}{r:R}{d:Nat}{pos:String}{af:Array Edge}(e:alE P h nx T k=some r):∃ c h' nx',k c h' nx'=some r/\∀ {β:Be} {L:Ls} {F:Fr},Nat.blt d n=true->HR β h nx L->Es P n N F H L β h nx ⟨some d, .alloc T,ty,pos,af,none⟩ c h' nx':=by
 unfold alE at e
 split at e
 . rename_i cs hz
   obtain⟨h',e1,e2⟩:=Mt_ e
   refine⟨_,h',_,e1,λ{β L F} hd hr ops K k=>?_⟩
   obtain⟨zv,z1,z2⟩:=Bb_ (β:=β) hz
   refine Ca_ (cs:=zv.cells.toList) nx hd (λw=>⟨zv,z1 w,by simp⟩) λb=>?_
   obtain⟨a1,a2⟩:=e2 b hr z2
   exact k _ _ _ a1 a2
 . cases e
def bxE{R:Type}(P:Program)(h:He)(nx:Nat)(T:TypeId)(a:CV)(k:Ke R):Option R:=match Ek_ a with
 |some cs=>newE P h nx T cs k
 |none=>none
theorem e_bx{R:Type}{k:Ke R}{r:R}{a:CV}{d:Nat}{pos:String}{af:Array Edge}(e:bxE P h nx T a k=some r):∃ c h' nx',k c h' nx'=some r/\∀ {β:Be} {L:Ls} {F:Fr},Nat.blt d n=true->HR β h nx L->VR β a (ev F x)->Es P n N F H L β h nx ⟨some d, .box T x,ty,pos,af,none⟩ c h' nx':=by
 unfold bxE at e
 split at e
 . rename_i cs hc
   obtain⟨h',e1,e2⟩:=Mt_ e
   refine⟨_,h',_,e1,λ{β L F} hd hr hx ops K k=>?_⟩
   have hv:=Bo_ hc hx
   intro ac w ha hm
   rw[if_pos xR]
   unfold AX
   have :(execOp ac.eval ⟨some d, .box T x,ty,pos,af,none⟩).run P w = .ok (.value (.pointer (some ⟨w.heap.size,0,none⟩))) {w with heap:=w.heap.push (bx T (ev F x).cells.toList)}:=by
     rw[ha.eval]
     simp[execOp,Instr.box,newVar,newRow,bx]
   rw[this]
   obtain⟨a1,a2⟩:=e2 w.heap.size hr hv
   exact⟨_,H,_,ha.put xU _,hm.push nx _,k _ _ _ a1 a2⟩
 . cases e
def stE{R:Type}(P:Program)(h:He)(nx:Nat)(T:TypeId)(a b:CV)(k:Ke R):Option R:=match a with
 | .ptr i o=>match Ek_ b with
   |some ds=>match szE P T with
     | some m=>bif A3 ds.length m&&all1 ds then (match h.get i with
       |some (.cells T0 cs gr)=>bif A6 (o+m) cs.length then Tr.setK 40 h i (.cells T0 (Cg_ cs o ds) gr) λh=>k (.tup []) h nx else none
       |some (.bys T0 l x gr)=>match pkE ds with
         |some (_,u)=>bif A6 (o+m) l then Tr.setK 40 h i (.bys T0 l (x%256 ^ o+u*256 ^ o+x/256 ^ (o+m)*256 ^ (o+m)) gr) λh=>k (.tup []) h nx else none
         |none=>none
       |_=>none) else none
     |none=>none
   |none=>none
 |_=>none
theorem A9_:∀ (us vs:List Value) (o:Nat),o+us.length<=vs.length->Ad_ vs o us=vs.take o++us++vs.drop (o+us.length)
 |[],vs,o,_=>by simp[Ad_]
 |u::r,vs,o,hl=>by
   simp only[AE] at hl
   simp only[Ad_,AE]
   rw[A9_ r (vs.set o u) (o+1) xS]
   have hlt:o<vs.length:=by omega
   rw[List.take_add_one,List.take_set_of_le (AY _)]
   rw[List.drop_set_of_lt xN]
   simp[hlt,show o+(r.length+1)=o+1+r.length by omega]
theorem Ch_{vs us:List Value}{s o m:Nat}(hm:o+us.length<=m)(hl:s+m<=vs.length):((Ad_ vs (s+o) us).drop s).take m=Ad_ ((vs.drop s).take m) o us:=by
 rw[A9_ us vs (s+o) xN,A9_ us _ o xS]
 apply DO
 intro j;simp only[AD,AS,D1,AH,FV,E2];by_cases hj:j<m;rw[if_pos hj];have e1:min (s+o) vs.length=s+o:=by omega
 have e2:min o (min m (vs.length-s))=o:=by omega
 rw[e1,e2];by_cases h1:j<o;rw[if_pos xN,if_pos xN,if_pos xN,if_pos xN,if_pos h1,if_pos hj,if_pos h1];by_cases h2:j<o+us.length
 . rw[if_pos xN,if_neg xN,if_pos xN,if_neg xN]
   congr 1;omega
 . rw[if_neg xN,if_neg xN]
   rw[if_pos xN]
   congr 1;omega
 . rw[if_neg hj]
   symm
   rw[if_neg xN]
   rw[if_neg xN]
theorem Lo_{l m o x u:Nat}(hx:x<256 ^ l)(hu:u<256 ^ m)(hl:o+m<=l):(dec l x).take o++dec m u++(dec l x).drop (o+m)=dec l (x%256 ^ o+u*256 ^ o+x/256 ^ (o+m)*256 ^ (o+m))/\x%256 ^ o+u*256 ^ o+x/256 ^ (o+m)*256 ^ (o+m)<256 ^ l:=by
 have h0:x%256 ^ o<256 ^ o:=D0 _ (BH xN);have h1:x%256 ^ o+u*256 ^ o<256 ^ (o+m):=Jt_ h0 hu;have h2:x/256 ^ (o+m)<256 ^ (l-(o+m)):=by
   rw[Nat.div_lt_iff_lt_mul (BH xN),<- FS]
   rwa [show l-(o+m)+(o+m)=l by omega]
 have h3:=Jt_ h1 h2;rw[show o+m+(l-(o+m))=l by omega] at h3;refine⟨?_,h3⟩;rw[Bj_ o l x xN,Bx_ (o+m) l x hl,C0_ o m _ _ h0,C0_ _ _ _ _ h1,show o+m+(l-(o+m))=l by omega]
theorem Gz_{cs ds:List CV}{vs us:List Value}{s o:Nat}(hv:VRs β cs ((vs.drop s).take cs.length))(hd:VRs β ds us)(hm:o+ds.length<=cs.length)(hl:s+cs.length<=vs.length):VRs β (Cg_ cs o ds) (((Ad_ vs (s+o) us).drop s).take (Cg_ cs o ds).length):=by
 rw[Aw_,Ch_ (by rw[hd.length];exact hm) hl];exact Df_ _ _ _ hv hd
theorem Bs_:∀ (us vs:List Value) (o:Nat),(∀ v∈vs,v.oneCell'=true)->(∀ v∈us,v.oneCell'=true)->∀ v∈Ad_ vs o us,v.oneCell'=true
 |[],_,_,h,_,v,hv=>h v hv
 | u::r,vs,o,h,k,v,hv=>Bs_ r (vs.set o u) (o+1) (λw hw=>by
     rcases List.mem_or_eq_of_mem_set hw with q|rfl
     . exact h w q
     . exact k _ xP) (λw hw=>k w (by simp[hw])) v hv
theorem BR.cells_set{i b T0:Nat}{cs ds:List CV}{gr:Bool}{vs us:List Value}{o:Nat}(hB:BR β i (.cells T0 cs gr) (some (b,bx T0 vs)))(hd:VRs β ds us)(h1:all1 ds=true)(hm:o+ds.length<=cs.length):∃ q,β i=some q/\b=q.b/\q.s+o+us.length<=vs.length/\BR β i (.cells T0 (Cg_ cs o ds) gr) (some (b,bx T0 (Ad_ vs (q.s+o) us))):=by
 obtain⟨q,vs',e1,e2,e3,e4,e5,e6,e7⟩:=hB;simp only[Option.some.injEq,Prod.mk.injEq] at e2;obtain⟨rfl,e2⟩:=e2;have :vs=vs':=by
   exact yX
 subst this;have hl:=hd.length;exact⟨q,e1,rfl,by omega,q,_,e1,rfl,by rw[A7_];exact e3,by rw[Aw_];exact e4,λg=>by rw[Aw_];exact e5 g,Gz_ e6 hd hm xN,Bs_ _ _ _ e7 (Bd_ hd h1)⟩
theorem BR.bys_set{i b T0:Nat}{l x m u:Nat}{gr:Bool}{vs:List Value}{o:Nat}(hB:BR β i (.bys T0 l x gr) (some (b,bx T0 vs)))(hu:u<256 ^ m)(hm:o+m<=l):∃ q,β i=some q/\b=q.b/\q.s+o+m<=vs.length/\BR β i (.bys T0 l (x%256 ^ o+u*256 ^ o+x/256 ^ (o+m)*256 ^ (o+m)) gr) (some (b,bx T0 (Ad_ vs (q.s+o) ((dec m u).map u8v)))):=by
 obtain⟨q,vs',e1,e2,e3,e4,e5,e6,e7,e8⟩:=hB;simp only[Option.some.injEq,Prod.mk.injEq] at e2;obtain⟨rfl,e2⟩:=e2;have :vs=vs':=by
   exact yX
 subst this;have hl:((dec m u).map u8v).length=m:=by simp[C_]
 obtain⟨d1,d2⟩:=Lo_ e6 hu hm;refine⟨q,e1,rfl,by omega,q,_,e1,rfl,by rw[A7_];exact e3,e4,e5,d2,?_,Bs_ _ _ _ e8 (λv hv=>by obtain⟨a,_,rfl⟩:=List.mem_map.1 hv;rfl)⟩;rw[Ch_ (by rw[hl];exact hm) xN,e7,A9_ _ _ _ (by rw[hl];simp[C_];omega),hl,<- C3,<- C2,<- CA,<- CA,d1]
theorem e_st{R:Type}{k:Ke R}{r:R}{a c:CV}{pos:String}{af:Array Edge}(e:stE P h nx T a c k=some r):∃ c' h' nx',k c' h' nx'=some r/\∀ {β:Be} {L:Ls} {F:Fr},HR β h nx L->VR β a (ev F x)->VR β c (ev F y)->Es P n N F H L β h nx ⟨none, .store T x y,ty,pos,af,none⟩ c' h' nx':=by
 have key:∀ {β:Be} {L:Ls} {F:Fr} {i o m:Nat} {q:Pl} {T0:TypeId} {vs us:List Value} {h':He} {hb hb0:HB},HR β h nx L->h.get i=some hb0->β i=some q->L i=some (q.b,bx T0 vs)->ev F x = .pointer (some ⟨q.b,q.s+o,none⟩)->us=(ev F y).cells.toList->us.length=m->szE P T=some m->q.s+o+us.length<=vs.length->(∀ v∈us,v.oneCell'=true) ->
     h'.get i=some hb->(∀ j,j≠i->h'.get j=h.get j)->BR β i hb (some (q.b,bx T0 (Ad_ vs (q.s+o) us)))->Es P n N F H L β h nx ⟨none, .store T x y,ty,pos,af,none⟩ (.tup []) h' nx:=by
   intro β L F i o m q T0 vs us h' hb hb0 hr hi0 hq hi ex hus hm hk hl h1 g1 g2 hB ops K kk ac w ha hmm
   rw[if_pos xR]
   unfold AX
   obtain⟨w',L',e1,e2,e3,e4⟩:=Mem.storeA (P:=P) q.b i (q.s+o) us vs 0 L w hmm hi wI h1
   have hcs:(ev F y).cells.size=m:=by rw[<- hm,hus];simp
   have :(execOp ac.eval ⟨none, .store T x y,ty,pos,af,none⟩).run P w = .ok .skip w':=by
     rw[ha.eval]
     rw[hus] at e1
     simp[execOp,Instr.storeAt,ex,BB,storeVar,Af_ hk w,hcs,e1]
   rw[this]
   have hL:L'=lupd L i (some (q.b,bx T0 (Ad_ vs (q.s+o) us))):=funext λj=>by
     by_cases e':j=i
     . subst e';rw[E_,e4];rfl
     . rw[D_ _ _ _ _ e',e3 j e']
   subst hL
   exact⟨_,_,_,ha,e2,kk β undef _ (by simp only[VR];exact⟨[],rfl, .nil⟩) (.set hr hi0 g1 g2 hB)⟩
 unfold stE at e
 split at e
 . rename_i i o
   split at e
   . rename_i ds hds
     split at e
     . rename_i m hm
       cases hb:(A3 ds.length m&&all1 ds) with
       |false=>rw[hb] at e;cases e
       |true=>
         rw[hb] at e
         simp only[A2] at hb
         have hlen:=A0 hb.1
         simp only[cond_true] at e
         split at e
         . rename_i T0 cs gr hi
           cases hb2:A6 (o+m) cs.length with
           |false=>rw[hb2] at e;cases e
           |true=>
             rw[hb2] at e
             have hle:=A1 hb2
             simp only[cond_true] at e
             obtain⟨h',e1,e2,e3⟩:=Tr.setK_ok _ _ _ _ _ _ e
             refine⟨_,h',_,e1,λ{β L F} hr hx hy=>?_⟩
             have hv:=Bo_ hds hy
             have hB:=hr.br i _ hi
             obtain⟨q,vs,f1,f2,_⟩:=hB
             have hB:=hr.br i _ hi
             rw[f2] at hB
             obtain⟨q',g1,g2,g3,g4⟩:=BR.cells_set (o:=o) hB hv hb.2 xN
             rw[f1] at g1;cases g1
             simp only[VR] at hx;obtain⟨q2,hq,ex⟩:=hx
             rw[f1] at hq;cases hq
             exact key hr hi f1 f2 ex Y (by rw[hv.length];exact hlen) hm g3 (Bd_ hv hb.2) e2 e3 g4
         . rename_i T0 l x0 gr hi
           split at e
           . rename_i m' u hp
             cases hb2:A6 (o+m) l with
             |false=>rw[hb2] at e;cases e
             |true=>
               rw[hb2] at e
               have hle:=A1 hb2
               simp only[cond_true] at e
               obtain⟨h',e1,e2,e3⟩:=Tr.setK_ok _ _ _ _ _ _ e
               refine⟨_,h',_,e1,λ{β L F} hr hx hy=>?_⟩
               have hv:=Bo_ hds hy
               obtain⟨p1,p2⟩:=J1_ hp hv
               have hm':m'=m:=by have :=hv.length;rw[p1] at this;simp[C_] at this;omega
               subst hm'
               obtain⟨q,vs,f1,f2,_⟩:=hr.br i _ hi
               have hB:=hr.br i _ hi
               rw[f2] at hB
               obtain⟨q',g1,g2,g3,g4⟩:=BR.bys_set (o:=o) hB p2 hle
               rw[f1] at g1;cases g1
               simp only[VR] at hx;obtain⟨q2,hq,ex⟩:=hx
               rw[f1] at hq;cases hq
               exact key hr hi f1 f2 ex p1.symm (by simp[C_]) hm (by simp[C_];exact g3) (λv hv=>by obtain⟨a,_,rfl⟩:=List.mem_map.1 hv;rfl) e2 e3 g4
           . cases e
         . cases e
     . cases e
   . cases e
 . cases e
end
end Go.CE
namespace Go.CE
open Go.SW
noncomputable section
variable{P:Program}{n:Nat}{N:SW.Rest}{F:Fr}{H:Hp}{L:Ls}{ty T T' T2:TypeId}{x y z:Operand}{β:Be}{f:Fe}{h:He}{nx:Nat}
def byE(P:Program)(T:TypeId):Option Nat:=match P.info? T with
 |some i=>some i.bytes
 |none=>none
theorem Ja_{k:Nat}(e:byE P T=some k):By P T k:=by
 unfold byE at e
 split at e
 . rename_i i hi;simp only[Option.some.injEq] at e;intro w;exact⟨i,by simp[typeInfo,hi],e⟩
 . cases e
def ordE(k:Nat):Nat->List (Nat×CV)->Option (List CV)
 |_,[]=>some []
 | i,(j,c)::r=>bif A3 j i then (match Ek_ c with
   | some ds=>bif A3 ds.length k then (match ordE k (i+1) r with
     |some es=>some (ds++es)
     |none=>none) else none
   |none=>none) else none
theorem Io_{k:Nat}:∀ {ps:List (Nat×CV)} {i:Nat} {cs:List CV} {vs:List (Nat×Value)},ordE k i ps=some cs->VRp β ps vs->Et_ k i vs/\VRs β cs (Bw_ vs)/\vs.length=ps.length
 |[],i,cs,vs,e,hv=>by
   simp only[ordE,Option.some.injEq] at e;subst e
   simp only[VRp] at hv;subst hv
   exact⟨trivial, .nil,rfl⟩
 |(j,c)::r,i,cs,vs,e,hv=>by
   simp only[VRp] at hv
   obtain⟨v,us,rfl,h1,h2⟩:=hv
   simp only[ordE] at e
   cases hj:A3 j i with
   |false=>rw[hj] at e;cases e
   |true=>
     rw[hj] at e
     simp only[cond_true] at e
     split at e
     . rename_i ds hd
       cases hk:A3 ds.length k with
       |false=>rw[hk] at e;cases e
       |true=>
         rw[hk] at e
         simp only[cond_true] at e
         split at e
         . rename_i es he
           simp only[Option.some.injEq] at e;subst e
           obtain⟨a1,a2,a3⟩:=Io_ he h2
           have hc:=Bo_ hd h1
           have :=hc.length
           have hk':=A0 hk
           simp at this
           exact⟨⟨Nat.eq_of_beq_eq_true hj,by show v.cells.size=k;omega,a1⟩,hc.app a2,by simp[a3]⟩
         . cases e
     . cases e
def newS{R:Type}(P:Program)(h:He)(nx:Nat)(e len:Nat)(cs:List CV)(k:Ke R):Option R:=match mkB P e cs with
 |some hb=>Tr.setK 40 h nx hb λh=>k (.sl nx 0 len len) h (nx+1)
 |none=>none
theorem newS_ok{R:Type}{cs:List CV}{k:Ke R}{z:R}{e len:Nat}(e0:newS P h nx e len cs k=some z):∃ h',k (.sl nx 0 len len) h' (nx+1)=some z/\∀ {β:Be} {L:Ls} {vs:List Value} (b:Nat),HR β h nx L->VRs β cs vs->VR (bset β nx ⟨b,0,vs.length⟩) (.sl nx 0 len len) (.slice (some ⟨b,0,none⟩) len len)/\Post β h nx L (bset β nx ⟨b,0,vs.length⟩) h' (nx+1) (lupd L nx (some (b,bx e vs))):=by
 unfold newS at e0
 split at e0
 . rename_i hb hB
   obtain⟨h',e1,e2,e3⟩:=Tr.setK_ok _ _ _ _ _ _ e0
   exact yA
 . cases e0
def bslE{R:Type}(P:Program)(f:Fe)(h:He)(nx:Nat)(T len:Nat)(ps:List (Nat×Operand))(k:Ke R):Option R:=match P.underlying T with
 |some (.slice e)=>match szE P e with
   |some m=>match Fg_ P e with
     |some _=>match efps f ps with
       |some qs=>match ordE m 0 qs with
         |some cs=>bif A3 qs.length len&&A6 (len*m) 16777216 then newS P h nx e len cs k else none
         |none=>none
       |none=>none
     |none=>none
   |none=>none
 |_=>none
theorem e_bsl{R:Type}{k:Ke R}{r:R}{len:Nat}{ps:List (Nat×Operand)}{d:Nat}{pos:String}{af:Array Edge}(e:bslE P f h nx T len ps k=some r):∃ c h' nx',k c h' nx'=some r/\∀ {β:Be} {L:Ls} {F:Fr},Nat.blt d n=true->FR β f F->HR β h nx L->Es P n N F H L β h nx ⟨some d, .buildSlice T len ps.toArray,ty,pos,af,none⟩ c h' nx':=by
 unfold bslE at e
 split at e
 . rename_i e0 hT
   split at e
   . rename_i m hm
     split at e
     . rename_i zs hz
       split at e
       . rename_i qs hq
         split at e
         . rename_i cs hc
           cases hb:(A3 qs.length len&&A6 (len*m) 16777216) with
           |false=>rw[hb] at e;cases e
           |true=>
             rw[hb] at e
             simp only[A2] at hb
             simp only[cond_true] at e
             obtain⟨h',e1,e2⟩:=newS_ok e
             refine⟨_,h',_,e1,λ{β L F} hd hf hr ops K kk=>?_⟩
             have hp:=Gg_ hf hq
             obtain⟨a1,a2,a3⟩:=Io_ hc hp
             obtain⟨zv,z1,_⟩:=Bb_ (β:=β) hz
             refine Cn_ nx hd hT (Af_ hm) ⟨zv,z1⟩ Y a1 (by rw[a3];exact A0 hb.1) Y (A1 hb.2) λb=>?_
             obtain⟨b1,b2⟩:=e2 b hr a2
             exact kk _ _ _ b1 b2
         . cases e
       . cases e
     . cases e
   . cases e
 . cases e
def repC(zs:List CV):Nat->List CV
 |0=>[]
 |n+1=>zs++repC zs n
def repV(zs:List Value):Nat->List Value
 |0=>[]
 |n+1=>zs++repV zs n
theorem It_{zs:List CV}{vs:List Value}(hv:VRs β zs vs):∀ m,VRs β (repC zs m) (repV vs m)
 |0=> .nil
 |m+1=>hv.app (It_ hv m)
theorem Aq_(zs:List Value):∀ m,(repV zs m).length=m*zs.length
 |0=>by simp[repV]
 |m+1=>by simp only[repV,AH,Aq_ zs m,AG,FN];omega
theorem J4_(zs:List Value):∀ m i,i<m*zs.length->(repV zs m)[i]? = zs[i%zs.length]?
 |0,i,hi=>by simp at hi
 |m+1,i,hi=>by
   simp only[repV,D1]
   split
   . rename_i hlt;rw[C9 hlt]
   . rename_i hge
     rw[J4_ zs m (i-zs.length) (by rw[AG,FN] at hi;omega)]
     congr 1
     exact (Nat.mod_eq_sub_mod xN).symm
theorem Ke_(zs:List Value)(m:Nat):((Array.range (m*zs.length)).map (λi=>zs.toArray[i%zs.toArray.size]!))=(repV zs m).toArray:=by
 apply DD
 apply DO
 intro i;simp only[DU,Array.toList_range,AR,List.getElem?_range'];by_cases hi:i<m*zs.length;have h0:0<zs.length:=by
   rcases Nat.eq_zero_or_pos zs.length with q|q
   . rw[q] at hi;simp at hi
   . exact q
 have hmod:i%zs.length<zs.length:=D0 _ h0;rw[J4_ zs m i hi];simp[hi,hmod];rw[BQ (l:=repV zs m) (by rw[Aq_];omega)];simp[hi]
def mkE{R:Type}(P:Program)(h:He)(nx:Nat)(T:TypeId)(a b:CV)(k:Ke R):Option R:=match P.underlying T with
 |some (.slice e)=>match szE P e with
   |some m=>match byE P e with
     |some by_=>match natE a with
       |some l=>match natE b with
         | some c=>bif A6 l c&&(A6 (by_*c) 281474976710656&&AC 0 by_) then (match isB P e with
           | true=>bif A3 m 1 then (match Fg_ P e with
             |some zz=>bif (match pkE zz with|some (q,w)=>A3 q 1&&A3 w 0|none=>false) then Tr.setK 40 h nx (.bys e c 0 false) λh=>k (.sl nx 0 l c) h (nx+1) else none
             |none=>none) else none
           |false=>match Fg_ P e with
             |some zs=>bif A3 zs.length m&&all1 (repC zs c) then Tr.setK 40 h nx (.cells e (repC zs c) false) λh=>k (.sl nx 0 l c) h (nx+1) else none
             |none=>none) else none
         |none=>none
       |none=>none
     |none=>none
   |none=>none
 |_=>none
theorem H1_{m:Nat}(h9:m<=9223372036854775807):IntKind.wrap .i64 (m:Int)=(m:Int):=by
 simp only[AA,A5,B5];simp;split<;>omega
theorem run_mk{l c m by_:Nat}{e:TypeId}{k1 k2:IntKind}{zs:List Value}{zv:Value}{w:World}(hT:P.underlying T=some (.slice e))(hm:szE P e=some m)(hb:byE P e=some by_)(hz:∀ w,(zeroValue e).run P w = .ok zv w)(hzs:zv.cells=zs.toArray)(hzl:zs.length=m)(hlc:l<=c)(hbd:by_*c<=281474976710656)(h0:0<by_) :
   (Instr.makeSlice T (.int k1 (l:Int)) (.int k2 (c:Int))).run P w = .ok (.slice (some ⟨w.heap.size,0,none⟩) l c) {w with heap:=w.heap.push (bx e (repV zs c))}:=by
 have hc9:c<=9223372036854775807:=by
   have :c<=by_*c:=Nat.le_mul_of_pos_left _ h0
   omega
 obtain⟨inf,hinf,hbb⟩:=Ja_ hb w;have h2:¬(281474976710656<(inf.bytes:Int)*(c:Int)):=by
   rw[hbb]
   have e1:((by_:Int)*(c:Int))=((by_*c:Nat):Int):=by simp
   rw[e1];omega
 have h4:¬((c:Int)<(l:Int)):=by omega
 have h5:¬((c:Int)<0):=by omega
 have h6:¬((l:Int)<0):=by omega
 have hrep:=Ke_ zs c;rw[hzl] at hrep;by_cases h0:c*m=0;have :repV zs c=[]:=List.length_eq_zero_iff.1 (by rw[Aq_,hzl];exact h0);have hr:Array.range 0 = #[]:=by apply DD;simp
 simp[FW,run_underlying hT,Cf_,hinf,H1_ hc9,H1_ (show l<=9223372036854775807 by omega),h2,h4,h5,h6,Af_ hm w,h0,newRow,bx,this,hr];rw[<- hzs] at hrep;simp[FW,run_underlying hT,Cf_,hinf,H1_ hc9,H1_ (show l<=9223372036854775807 by omega),h2,h4,h5,h6,Af_ hm w,h0,newRow,bx,hz];rw[hrep]
theorem Ow_:∀ n,dec n 0=List.replicate n 0
 |0=>rfl
 |n+1=>by simp only[dec,Nat.zero_mod,Nat.zero_div,Ow_ n,List.replicate_succ];rfl
theorem e_mk{R:Type}{k:Ke R}{r:R}{a b:CV}{d:Nat}{pos:String}{af:Array Edge}(e:mkE P h nx T a b k=some r):∃ c h' nx',k c h' nx'=some r/\∀ {β:Be} {L:Ls} {F:Fr},Nat.blt d n=true->HR β h nx L->VR β a (ev F x)->VR β b (ev F y)->Es P n N F H L β h nx ⟨some d, .makeSlice T x y,ty,pos,af,none⟩ c h' nx':=by
 unfold mkE at e
 split at e
 . rename_i e0 hT
   split at e
   . rename_i m hm
     split at e
     . rename_i by_ hby
       split at e
       . rename_i l hl
         split at e
         . rename_i c hc
           cases hb:(A6 l c&&(A6 (by_*c) 281474976710656&&AC 0 by_)) with
           |false=>rw[hb] at e;cases e
           |true=>
             rw[hb] at e
             simp only[A2] at hb
             have hlc:=A1 hb.1
             have hbd:=A1 hb.2.1
             have h0:=Be_ hb.2.2
             simp only[cond_true] at e
             have key:∀ {β:Be} {L:Ls} {F:Fr} {zv:Value} {h':He} {hb:HB},AC d n=true->HR β h nx L->VR β a (ev F x)->VR β b (ev F y)->(∀ w,(zeroValue e0).run P w = .ok zv w)->zv.cells.toList.length=m->h'.get nx=some hb->(∀ j,j≠nx->h'.get j=h.get j) ->
                 (∀ b,BR (bset β nx ⟨b,0,c*m⟩) nx hb (some (b,bx e0 (repV zv.cells.toList c))))->Es P n N F H L β h nx ⟨some d, .makeSlice T x y,ty,pos,af,none⟩ (.sl nx 0 l c) h' (nx+1):=by
               intro β L F zv h' hb hd hr hx hy hz hzl g1 g2 hB ops K kk ac w ha hmm
               rw[if_pos xR]
               unfold AX
               obtain⟨k1,ex⟩:=B0_ hl hx
               obtain⟨k2,ey⟩:=B0_ hc hy
               have hrun:=run_mk (k1:=k1) (k2:=k2) (w:=w) hT hm hby hz (zs:=zv.cells.toList) xP hzl hlc hbd h0
               have :(execOp ac.eval ⟨some d, .makeSlice T x y,ty,pos,af,none⟩).run P w = .ok (.value (.slice (some ⟨w.heap.size,0,none⟩) l c)) {w with heap:=w.heap.push (bx e0 (repV zv.cells.toList c))}:=by
                 rw[ha.eval]
                 simp only[execOp,ex,ey,AL,hrun,AF,B6]
               rw[this]
               refine⟨_,H,_,ha.put xU _,hmm.push nx _,kk (bset β nx ⟨w.heap.size,0,c*m⟩) _ _ ?_ (.new hr g1 g2 (hB _))⟩
               exact yW
             split at e
             . rename_i hB
               cases hm1:A3 m 1 with
               |false=>rw[hm1] at e;cases e
               |true=>
                 rw[hm1] at e
                 have hm1':=A0 hm1
                 subst hm1'
                 simp only[cond_true] at e
                 split at e
                 . rename_i zz hz0
                   cases hz1:(match pkE zz with|some (q,w)=>A3 q 1&&A3 w 0|none=>false) with
                   |false=>rw[hz1] at e;cases e
                   |true=>
                     rw[hz1] at e
                     simp only[cond_true] at e
                     obtain⟨h',e1,e2,e3⟩:=Tr.setK_ok _ _ _ _ _ _ e
                     refine⟨_,h',_,e1,λ{β L F} hd hr hx hy=>?_⟩
                     obtain⟨zv,z1,z2⟩:=Bb_ (β:=β) hz0
                     split at hz1
                     . rename_i q w hp
                       simp only[A2] at hz1
                       have q1:=A0 hz1.1
                       have w1:=A0 hz1.2
                       subst q1;subst w1
                       obtain⟨p1,_⟩:=J1_ hp z2
                       have hrp:∀ c,repV zv.cells.toList c=(dec c 0).map u8v:=by
                         intro c
                         rw[p1]
                         induction c with
                         |zero=>rfl
                         |succ c ih=>simp only[repV,ih];simp[dec,u8v]
                       have hlen:(repV zv.cells.toList c).length=c:=by rw[hrp];simp[C_]
                       refine key hd hr hx hy z1 (by rw[p1];rfl) e2 e3 λb=>⟨_,_,J_,rfl,by simp[hlen],by simp,λ_=>⟨rfl,by simp⟩,BH xN,?_,λv hv=>?_⟩
                       . simp only[BW]
                         rw[BZ xN,hrp]
                       . rw[hrp] at hv;obtain⟨a,_,rfl⟩:=List.mem_map.1 hv;rfl
                     . cases hz1
                 . cases e
             . split at e
               . rename_i zz hz0
                 cases hz1:(A3 zz.length m&&all1 (repC zz c)) with
                 |false=>rw[hz1] at e;cases e
                 |true=>
                   rw[hz1] at e
                   simp only[A2] at hz1
                   simp only[cond_true] at e
                   obtain⟨h',e1,e2,e3⟩:=Tr.setK_ok _ _ _ _ _ _ e
                   refine⟨_,h',_,e1,λ{β L F} hd hr hx hy=>?_⟩
                   obtain⟨zv,z1,z2⟩:=Bb_ (β:=β) hz0
                   have hlm:zv.cells.toList.length=m:=by rw[z2.length];exact A0 hz1.1
                   have hlen:(repV zv.cells.toList c).length=c*m:=by rw[Aq_,hlm]
                   have hR:=It_ z2 c
                   have hlr:=hR.length
                   refine key hd hr hx hy z1 hlm e2 e3 λb=>⟨_,_,J_,rfl,by simp[hlen],by simp;omega,λ_=>⟨rfl,by simp;omega⟩,?_,Bd_ hR hz1.2⟩
                   simp only[BW]
                   rw[BZ xN]
                   exact hR.mono (Ay_ (hr.fr nx (AY _)).1)
               . cases e
         . cases e
       . cases e
     . cases e
   . cases e
 . cases e
end
end Go.CE
namespace Go.CE
open Go.SW
noncomputable section
variable{P:Program}{n:Nat}{N:SW.Rest}{F:Fr}{H:Hp}{L:Ls}{ty T T' T2:TypeId}{x y z:Operand}{β:Be}{f:Fe}{h:He}{nx:Nat}
theorem D2_{k len m cap b o i:Nat}{e ats T0:TypeId}{d2:TypeDesc}{sv:Value}{vs news:List Value}{w:World}(hT:P.underlying T=some (.slice e))(hT2:P.underlying T2=some d2)(hd2:Ez_ d2=true)(hk:Sz P e k)(hs:Src P N H L k sv m news)(hone:∀ u∈news,u.oneCell'=true)
   (hm:Mem N H L w) (hi:L i=some (b,bx T0 vs)) (hle:len+m<=cap) (hl:o+len*k+news.length<=vs.length) :
   ∃ w',(Builtin.append_ #[T,T2] ats #[.slice (some ⟨b,o,none⟩) len cap,sv]).run P w = .ok (.slice (some ⟨b,o,none⟩) (len+m) cap) w'/\Mem N H (lupd L i (some (b,bx T0 (Ad_ vs (o+len*k) news)))) w':=by
 obtain⟨hlen,hcells⟩:=hs.2 w hm;obtain⟨w',L',e1,e2,e3,e4⟩:=Mem.storeA (P:=P) b i (o+len*k) news vs 0 L w hm hi xN hone;have hLL:L'=lupd L i (some (b,bx T0 (Ad_ vs (o+len*k) news))):=funext λq=>by
   by_cases e':q=i
   . subst e';rw[E_,e4];rfl
   . rw[D_ _ _ _ _ e',e3 q e']
 subst hLL;refine⟨w',?_,e2⟩;rw[D9_ hT hT2 hd2 hk hlen hle];simp[hcells,K_,e1]
theorem Hx_{k len m cap bytes:Nat}{e ats:TypeId}{d2:TypeDesc}{sv:Value}{base:Option Addr}{zs old news:List Value}{w:World}(j:Nat)(hT:P.underlying T=some (.slice e))(hT2:P.underlying T2=some d2)(hd2:Ez_ d2=true)(hk:Sz P e k)(hb:By P e bytes)(h0:0<bytes)(hz:Zr P e zs)(hzl:zs.length=k)(hzo:∀ u∈zs,u.oneCell'=true)
   (hs:Src P N H L k sv m news) (hm:Mem N H L w) (hle:¬len+m<=cap) (hbd:(len+m)*bytes<=140737488355328) (hold:∀ w,Mem N H L w->(Builtin.firstCells k len (.slice base len cap)).run P w = .ok old.toArray w) (hol:old.length=len*k) :
   ∃ w' nc b rest,(Builtin.append_ #[T,T2] ats #[.slice base len cap,sv]).run P w = .ok (.slice (some ⟨b,0,none⟩) (len+m) nc) w'/\len+m<=nc/\(old++news++rest).length=nc*k/\(∀ u∈rest,u.oneCell'=true)/\Mem N H (lupd L j (some (b,bx e (old++news++rest)))) w':=by
 obtain⟨inf,hinf,hbb⟩:=hb w;obtain⟨hlen,hcells⟩:=hs.2 w hm;have hfit:=growslice_fits (need:=len+m) (old:=cap) (bytes:=bytes) xN hbd;have hgrow:=I7_ (P:=P) (ats:=ats) (base:=base) hT hT2 hd2 hk hlen hle hinf xN (by rw[hbb];omega);obtain⟨nc,hnc⟩:∃ nc,nc=(AN (len+m) cap e).cut (w.tape w.drawn (AN (len+m) cap e)):=⟨_,rfl⟩;have hnge:len+m<=nc:=by rw[hnc];simp only[CY];omega
 have hzc:∀ q,(AI zs.toArray q).size=q*k:=λq=>by simp[AI,hzl]
 refine⟨_,nc,w.heap.size,(AI zs.toArray (nc-(len+m))).toList,?_,hnge,?_,λu hu=>?_,(hm.drew (w.drawn+1)).push j _⟩;rw[hgrow];obtain⟨z,hz1,hz2⟩:=hz w.drew;obtain⟨inf',hinf',_⟩:=hb w.drew;obtain⟨_,hcells'⟩:=hs.2 w.drew (hm.drew (w.drawn+1));have hold':=hold w.drew (hm.drew (w.drawn+1));have hq:(AN (len+m) cap e).forced=false:=rfl;simp[hq,hinf',hcells',hz1,hz2,newRow,bx,hold',<- hnc];exact yT
 . simp only[AH,Array.length_toList,hzc,hs.1,hol]
   rw[<- AG,<- AG]
   congr 1;omega
 simp only[AI,DU,List.mem_map] at hu;obtain⟨q,hq,rfl⟩:=hu;have h1:q<(nc-(len+m))*zs.length:=by simpa using hq
 have h0:0<zs.length:=DH λe=>by rw[e] at h1;simp at h1
 have hmod:q%zs.length<zs.length:=D0 _ h0;have :zs.toArray[q%zs.toArray.size]! = zs[q%zs.length]:=by simp[hmod]
 rw[this];exact hzo _ (List.getElem_mem hmod)
theorem Mem.renum{w:World}{i j:Nat}{x:Option (Nat×Obj)}(hm:Mem N H (lupd L i x) w)(hj:L j=none)(hij:j≠i):Mem N H (lupd (lupd L i none) j x) w:=by
 have hx:∀ q (y:Nat×Obj),lupd (lupd L i none) j x q=some y->∃ q',lupd L i x q'=some y/\(q=j/\q'=i\/q≠j/\q'=q/\q≠i):=λq y e=>by
   by_cases e1:q=j
   . subst e1;rw[E_] at e;exact⟨i,by rw[E_];exact e, .inl ⟨rfl,rfl⟩⟩
   . rw[D_ _ _ _ _ e1] at e
     obtain⟨e2,e3⟩:=Hn_ e
     exact⟨q,by rw[D_ _ _ _ _ e2];exact e3, .inr ⟨e1,rfl,e2⟩⟩
 refine hm.sub (λq y e=>?_) (λq q' y y' e e' hb=>?_);obtain⟨p,h1,_⟩:=hx q y e;exact⟨p,h1⟩
 . obtain⟨p,h1,c1⟩:=hx q y e
   obtain⟨p',h2,c2⟩:=hx q' y' e'
   obtain⟨yb,yo⟩:=y;obtain⟨yb',yo'⟩:=y'
   cases (show yb=yb' from hb)
   have :=hm.ll p p' yb yo yo' h1 h2
   omega
theorem Post.take{h1 h2:He}{i:Nat}{hb hb0:HB}{q:Pl}{x:Option (Nat×Obj)}(hr:HR β h nx L)(h0:h.get i=some hb0)(g1:h1.get i=some .dead)(g2:∀ j,j≠i->h1.get j=h.get j)(g3:h2.get nx=some hb)(g4:∀ j,j≠nx->h2.get j=h1.get j)(hB:BR (bset β nx q) nx hb x) :
   Post β h nx L (bset β nx q) h2 (nx+1) (lupd (lupd L i none) nx x):=
 (Post.set hr h0 g1 g2 (show BR β i .dead none from rfl)).trans (.new (Post.set hr h0 g1 g2 (show BR β i .dead none from rfl)).hr g3 g4 hB)
end
end Go.CE
namespace Go.CE
open Go.SW
noncomputable section
variable{P:Program}{n:Nat}{N:SW.Rest}{F:Fr}{H:Hp}{L:Ls}{ty T T' T2:TypeId}{x y z:Operand}{β:Be}{f:Fe}{h:He}{nx:Nat}
inductive CC where
 |b (n x:Nat)
 |c (cs:List CV)
def CC.len:CC->Nat
 | .b n _=>n
 | .c cs=>cs.length
def CC.R(β:Be):CC->List Value->Prop
 | .b n x,vs=>x<256 ^ n/\vs=(dec n x).map u8v
 | .c cs,vs=>VRs β cs vs/\∀ v∈vs,v.oneCell'=true
theorem CC.R.length{c:CC}{vs:List Value}(hr:c.R β vs):vs.length=c.len:=by
 cases c with
 |b n x=>rw[hr.2];simp[CC.len,C_]
 |c cs=>exact hr.1.length
theorem CC.R.one{c:CC}{vs:List Value}(hr:c.R β vs):∀ v∈vs,v.oneCell'=true:=by
 cases c with
 |b n x=>intro v hv;rw[hr.2] at hv;obtain⟨a,_,rfl⟩:=List.mem_map.1 hv;rfl
 |c cs=>exact hr.2
theorem CC.R.mono{β':Be}(hl:β.le β'){c:CC}{vs:List Value}(hr:c.R β vs):c.R β' vs:=by
 cases c with
 |b n x=>exact hr
 |c cs=>exact⟨hr.1.mono hl,hr.2⟩
def CC.sub(o m:Nat)(c:CC):Option CC:=bif A6 (o+m) c.len then (match c with
 | .b _ x=>some (.b m (x/256 ^ o%256 ^ m))
 | .c cs=>some (.c ((cs.drop o).take m))) else none
theorem CC.sub_ok{o m:Nat}{c d:CC}{vs:List Value}(e:c.sub o m=some d)(hr:c.R β vs):d.R β ((vs.drop o).take m)/\d.len=m/\o+m<=c.len:=by
 unfold CC.sub at e
 cases hb:A6 (o+m) c.len with
 |false=>rw[hb] at e;cases e
 |true=>
   rw[hb] at e
   have hle:=A1 hb
   simp only[cond_true] at e
   split at e
   . rename_i l x
     simp only[Option.some.injEq] at e;subst e
     simp only[CC.len] at hle
     refine⟨⟨Nat.mod_lt _ (BH xN),?_⟩,rfl,hle⟩
     rw[hr.2,<- C2,<- C3,Bx_ o l x xN,Bj_ m (l-o) _ xN]
   . rename_i cs
     simp only[Option.some.injEq] at e;subst e
     simp only[CC.len] at hle
     exact⟨⟨(hr.1.drop o).take m,λv hv=>hr.2 v (F6 (F7 hv))⟩,by simp[CC.len];omega,hle⟩
def CC.app(c d:CC):Option CC:=match c with
 | .b n x=>match d with
   | .b m y=>some (.b (n+m) (x+y*256 ^ n))
   | .c _=>none
 | .c cs=>match d with
   | .c ds=>some (.c (cs++ds))
   | .b _ _=>none
theorem CC.app_ok{c d e:CC}{vs us:List Value}(h:c.app d=some e)(hc:c.R β vs)(hd:d.R β us):e.R β (vs++us)/\e.len=c.len+d.len:=by
 unfold CC.app at h
 split at h
 . split at h
   simp only[Option.some.injEq] at h;subst h
   exact⟨⟨Jt_ hc.1 hd.1,by rw[hc.2,hd.2,<- CA,C0_ _ _ _ _ hc.1]⟩,rfl⟩
   . cases h
 . split at h
   simp only[Option.some.injEq] at h;subst h
   exact⟨⟨hc.1.app hd.1,λv hv=>(List.mem_append.1 hv).elim (hc.2 v) (hd.2 v)⟩,by simp[CC.len]⟩
   . cases h
def CC.put(o:Nat)(c d:CC):Option CC:=bif A6 (o+d.len) c.len then (match c with
 | .b n x=>match d with
   | .b m u=>some (.b n (x%256 ^ o+u*256 ^ o+x/256 ^ (o+m)*256 ^ (o+m)))
   | .c _=>none
 | .c cs=>match d with
   | .c ds=>some (.c (Cg_ cs o ds))
   | .b _ _=>none) else none
theorem CC.put_ok{o:Nat}{c d e:CC}{vs us:List Value}(h:c.put o d=some e)(hc:c.R β vs)(hd:d.R β us):e.R β (Ad_ vs o us)/\e.len=c.len/\o+d.len<=c.len:=by
 unfold CC.put at h
 cases hb:A6 (o+d.len) c.len with
 |false=>rw[hb] at h;cases h
 |true=>
   rw[hb] at h
   have hle:=A1 hb
   simp only[cond_true] at h
   split at h
   . rename_i l x
     split at h
     . rename_i m u
       simp only[Option.some.injEq] at h;subst h
       simp only[CC.len] at hle
       obtain⟨d1,d2⟩:=Lo_ hc.1 hd.1 hle
       refine⟨⟨d2,?_⟩,rfl,hle⟩
       rw[hc.2,hd.2,A9_ _ _ _ (by simp[C_];omega)]
       simp only[List.length_map,C_]
       rw[<- C3,<- C2,<- CA,<- CA,d1]
     . cases h
   . split at h
     . simp only[Option.some.injEq] at h;subst h
       exact⟨⟨Df_ _ _ _ hc.1 hd.1,Bs_ _ _ _ hc.2 hd.2⟩,by simp[CC.len,Aw_],hle⟩
     . cases h
def hbC:HB->Option (TypeId×CC×Bool)
 | .cells T cs gr=>some (T, .c cs,gr)
 | .bys T n x gr=>some (T, .b n x,gr)
 |_=>none
def CC.hb(T:TypeId)(c:CC)(gr:Bool):HB:=match c with
 | .b n x=> .bys T n x gr
 | .c cs=> .cells T cs gr
theorem BR.cc{i:Nat}{hb:HB}{c:CC}{gr:Bool}{x:Option (Nat×Obj)}(hB:BR β i hb x)(e:hbC hb=some (T,c,gr)):∃ q vs,β i=some q/\x=some (q.b,bx T vs)/\vs.length=q.s+q.r/\c.len<=q.r/\(gr=false->q.s=0/\q.r=c.len)/\c.R β ((vs.drop q.s).take c.len)/\(∀ v∈vs,v.oneCell'=true):=by
 unfold hbC at e
 split at e
 simp only[Option.some.injEq,Prod.mk.injEq] at e;obtain⟨rfl,rfl,rfl⟩:=e;obtain⟨q,vs,h1,h2,h3,h4,h5,h6,h7⟩:=hB;exact⟨q,vs,h1,h2,h3,h4,h5,⟨h6,λv hv=>h7 v (F6 (F7 hv))⟩,h7⟩;simp only[Option.some.injEq,Prod.mk.injEq] at e;obtain⟨rfl,rfl,rfl⟩:=e;obtain⟨q,vs,h1,h2,h3,h4,h5,h6,h7,h8⟩:=hB;exact⟨q,vs,h1,h2,h3,h4,h5,⟨h6,h7⟩,h8⟩
 . cases e
theorem CC.br{i:Nat}{c:CC}{gr:Bool}{q:Pl}{vs:List Value}(h1:β i=some q)(h3:vs.length=q.s+q.r)(h4:c.len<=q.r)(h5:gr=false->q.s=0/\q.r=c.len)(h6:c.R β ((vs.drop q.s).take c.len))(h7:∀ v∈vs,v.oneCell'=true):BR β i (c.hb T gr) (some (q.b,bx T vs)):=by
 cases c with
 |b n x=>exact⟨q,vs,h1,rfl,h3,h4,h5,h6.1,h6.2,h7⟩
 |c cs=>exact⟨q,vs,h1,rfl,h3,h4,h5,h6.1,h7⟩
def CC.nil(isb:Bool):CC:=bif isb then .b 0 0 else .c []
theorem CC.nil_ok{isb:Bool}:(CC.nil isb).R β []/\(CC.nil isb).len=0:=by
 cases isb
 exact⟨⟨.nil,λv hv=>by cases hv⟩,rfl⟩
 exact⟨⟨by simp,rfl⟩,rfl⟩
def srcE(h:He)(isb:Bool)(k:Nat)(a:CV):Option (Nat×CC):=match a with
 | .str n x=>bif isb then some (n, .b n x) else none
 | .nils=>some (0,CC.nil isb)
 | .sl i o len _=>match len with
   |0=>some (0,CC.nil isb)
   |_=>match h.get i with
     |some hb=>match hbC hb with
       |some (_,c,_)=>match c.sub o (len*k) with
         |some d=>some (len,d)
         |none=>none
       |none=>none
     |none=>none
 | .slu i o len _=>match len with
   |0=>some (0,CC.nil isb)
   |_=>match h.get i with
     |some hb=>match hbC hb with
       |some (_,c,_)=>match c.sub o (len*k) with
         |some d=>some (len,d)
         |none=>none
       |none=>none
     |none=>none
 |_=>none
theorem P2_{k:Nat}{a:Option Addr}{c:Nat}:Src P N H L k (.slice a 0 c) 0 []:=⟨by simp,λw _=>⟨by simp [B4],by
 cases a<;>simp[A8,loadCells,loadCellsFrom]⟩⟩
theorem I0_{b o i len cap k T0:Nat}{vs:List Value}(hi:L i=some (b,bx T0 vs))(hl:o+len*k<=vs.length):Src P N H L k (.slice (some ⟨b,o,none⟩) len cap) len (SW.sub vs o (len*k)):=by
 have hlen:(SW.sub vs o (len*k)).length=len*k:=by simp[SW.sub];omega
 refine⟨hlen,λw hm=>⟨by simp[B4],?_⟩⟩
 have :=run_loadCells_list (P:=P) w ⟨b,o,none⟩ (SW.sub vs o (len*k)) (λj v hj=>by
   rw[K_]
   refine hm.cellL hi ?_
   simp only[SW.sub,AD,AS] at hj
   split at hj
   . exact hj
   . cases hj)
 rw[hlen] at this;exact xB
theorem Fb_{isb:Bool}{k m:Nat}{a:CV}{d:CC}{v:Value}(e:srcE h isb k a=some (m,d))(hk:isb=true->k=1)(hr:HR β h nx L)(hv:VR β a v):∃ us,Src P N H L k v m us/\d.R β us:=by
 have nil:∀ {aa:Option Addr} {c:Nat},∃ us,Src P N H L k (.slice aa 0 c) 0 us/\(CC.nil isb).R β us:=λ{aa c}=>⟨[],P2_,CC.nil_ok.1⟩;have blk:∀ {i o len cap:Nat} {q:Pl} {hb:HB} {T0:TypeId} {c:CC} {gr:Bool} {d:CC},β i=some q->h.get i=some hb->hbC hb=some (T0,c,gr)->c.sub o (len*k)=some d->∃ us,Src P N H L k (.slice (some ⟨q.b,q.s+o,none⟩) len cap) len us/\d.R β us:=by
   intro i o len cap q hb T0 c gr d hq hi hc hs
   obtain⟨q',vs,f1,f2,f3,f4,f5,f6,f7⟩:=(hr.br i _ hi).cc hc
   rw[hq] at f1;cases f1
   obtain⟨s1,s2,s3⟩:=CC.sub_ok hs f6
   refine⟨_,I0_ f2 xN,?_⟩
   rw[<- D3_ (m:=c.len) s3]
   exact s1
 unfold srcE at e
 split at e
 . rename_i l x
   cases isb with
   |false=>cases e
   |true=>
     simp only[cond_true,Option.some.injEq,Prod.mk.injEq] at e
     obtain⟨rfl,rfl⟩:=e
     have :=hk Y;subst this
     simp only[VR] at hv
     rw[hv.2]
     have hs:=src_str (P:=P) (N:=N) (H:=H) (L:=L) (l:=dec l x)
     rw[C_] at hs
     exact⟨_,hs,hv.1,rfl⟩
 simp only[Option.some.injEq,Prod.mk.injEq] at e;obtain⟨rfl,rfl⟩:=e;simp only[VR] at hv;subst hv;exact nil
 . rename_i i o len cap
   simp only[VR] at hv;obtain⟨q,hq,rfl⟩:=hv
   cases len with
   |zero=>simp only[Option.some.injEq,Prod.mk.injEq] at e;obtain⟨rfl,rfl⟩:=e;exact nil
   |succ len=>
     simp only at e
     split at e
     . rename_i hb hi
       split at e
       . rename_i T0 c gr hc
         split at e
         . exact yG
         . cases e
       . cases e
     . cases e
 . rename_i i o len k'
   simp only[VR] at hv;obtain⟨q,cc,aa,hq,_,hle,rfl,ha⟩:=hv
   cases len with
   |zero=>simp only[Option.some.injEq,Prod.mk.injEq] at e;obtain⟨rfl,rfl⟩:=e;exact nil
   |succ len=>
     simp only at e
     have :=ha xN;subst this
     split at e
     . rename_i hb hi
       split at e
       . rename_i T0 c gr hc
         split at e
         . exact yG
         . cases e
       . cases e
     . cases e
 . cases e
end
end Go.CE
namespace Go.CE
open Go.SW
noncomputable section
variable{P:Program}{n:Nat}{N:SW.Rest}{F:Fr}{H:Hp}{L:Ls}{ty T T' T2:TypeId}{x y z:Operand}{β:Be}{f:Fe}{h:He}{nx:Nat}
def apT(P:Program)(T T2:TypeId):Option (TypeId×Nat×Nat):=match P.underlying T with
 |some (.slice e)=>match P.underlying T2 with
   |some d2=>match szE P e with
     |some m=>match byE P e with
       |some by_=>match Fg_ P e with
         |some zs=>bif Ez_ d2&&(AC 0 by_&&(A3 zs.length m&&(all1 zs&&(AC 0 m&&(!isB P e||A3 m 1))))) then some (e,m,by_) else none
         |none=>none
       |none=>none
     |none=>none
   |none=>none
 |_=>none
structure ApT(P:Program)(T T2:TypeId)(e m by_:Nat):Prop where
 hT:P.underlying T=some (.slice e)
 hT2:∃ d2,P.underlying T2=some d2/\Ez_ d2=true
 hk:Sz P e m
 hb:By P e by_
 h0:0<by_
 hz:∃ zs:List Value,Zr P e zs/\zs.length=m/\∀ u∈zs,u.oneCell'=true
 hm:0<m
 hB:isB P e=true->m=1
theorem apT_ok{e m by_:Nat}(he:apT P T T2=some (e,m,by_)):ApT P T T2 e m by_:=by
 unfold apT at he
 split at he
 . rename_i e' hT
   split at he
   . rename_i d2 hT2
     split at he
     . rename_i m' hm
       split at he
       . rename_i b' hb
         split at he
         . rename_i zs hz
           cases hc:(Ez_ d2&&(AC 0 b'&&(A3 zs.length m'&&(all1 zs&&(AC 0 m'&&(!isB P e'||A3 m' 1)))))) with
           |false=>rw[hc] at he;cases he
           |true=>
             rw[hc] at he
             simp only[cond_true,Option.some.injEq,Prod.mk.injEq] at he
             obtain⟨rfl,rfl,rfl⟩:=he
             simp only[A2] at hc
             obtain⟨c1,c2,c3,c4,c6,c5⟩:=hc
             obtain⟨zv,z1,z2⟩:=Bb_ (β:=λ_=>none) hz
             refine⟨hT,⟨d2,hT2,c1⟩,Af_ hm,Ja_ hb,Be_ c2,⟨zv.cells.toList,λw=>⟨zv,z1 w,by simp⟩,by rw[z2.length];exact A0 c3,Bd_ z2 c4⟩,Be_ c6,λhB=>?_⟩
             rw[hB] at c5
             simpa using c5
         . cases he
       . cases he
     . cases he
   . cases he
 . cases he
def grE{R:Type}(h:He)(nx:Nat)(e m len by_:Nat)(c:CC)(k:Ke R):Option R:=
 bif A6 (len*by_) 140737488355328&&A3 c.len (len*m) then Tr.setK 40 h nx (c.hb e true) λh=>k (.slu nx 0 len m) h (nx+1) else none
def apE{R:Type}(P:Program)(h:He)(nx:Nat)(T T2:TypeId)(a b:CV)(k:Ke R):Option R:=match apT P T T2 with
 |some (e,m,by_)=>match srcE h (isB P e) m b with
   |some (l,d)=>match a with
     | .nils=>match l with
       |0=>k .nils h nx
       |_=>grE h nx e m l by_ d k
     | .sl i o len cap=>match l with
       |0=>bif A6 len cap then k (.sl i o len cap) h nx else none
       |_=>match h.get i with
         |some hb=>match hbC hb with
           | some (T0,c,gr)=>bif A6 (len+l) cap then (match c.put (o+len*m) d with
               |some c'=>Tr.setK 40 h i (c'.hb T0 gr) λh=>k (.sl i o (len+l) cap) h nx
               |none=>none) else (match c.sub o (len*m) with
               |some c0=>match c0.app d with
                 |some c'=>grE h nx e m (len+l) by_ c' k
                 |none=>none
               |none=>none)
           |none=>none
         |none=>none
     | .slu i o len m'=>bif A3 m' m then (match l with
       |0=>k (.slu i o len m) h nx
       |_=>match h.get i with
         |some hb=>match hbC hb with
           | some (T0,c,gr)=>bif A6 (o+(len+l)*m) c.len then (match c.put (o+len*m) d with
               |some c'=>Tr.setK 40 h i (c'.hb T0 gr) λh=>k (.slu i o (len+l) m) h nx
               |none=>none) else bif A3 (o+len*m) c.len&&A3 T0 e then (match c.sub o (len*m) with
               |some c0=>match c0.app d with
                 |some c'=>Tr.setK 40 h i .dead λh=>grE h nx e m (len+l) by_ c' k
                 |none=>none
               |none=>none) else none
           |none=>none
         |none=>none) else none
     |_=>none
   |none=>none
 |none=>none
theorem Bl_{v sv r:Value}{w w':World}{d:Option Tmp}{pos:String}{af:Array Edge}{g:Option (Nat×Bool)}(hx:ev F x=v)(hy:ev F y=sv)(h:∀ ats,(Builtin.append_ #[T,T2] ats #[v,sv]).run P w = .ok r w'):(execOp (ev F) ⟨d, .call ⟨.builtin .append,#[x,y],#[T,T2]⟩,ty,pos,af,g⟩).run P w = .ok (.value r) w':=
 I_ (args:=#[v,sv]) wJ λcs=>by simp[builtin,h]
theorem HR.cc{i:Nat}{hb:HB}{c:CC}{gr:Bool}{q:Pl}{T0:TypeId}(hr:HR β h nx L)(hi:h.get i=some hb)(hc:hbC hb=some (T0,c,gr))(hq:β i=some q):∃ vs,L i=some (q.b,bx T0 vs)/\vs.length=q.s+q.r/\c.len<=q.r/\(gr=false->q.s=0/\q.r=c.len)/\c.R β ((vs.drop q.s).take c.len)/\(∀ v∈vs,v.oneCell'=true):=by
 obtain⟨q',vs,f1,f2⟩:=(hr.br i _ hi).cc hc;rw[hq] at f1;cases f1
 exact⟨vs,f2⟩
theorem CC.put_br{i:Nat}{c d c':CC}{gr:Bool}{q:Pl}{vs us:List Value}{o:Nat}(hq:β i=some q)(e:c.put o d=some c')(g3:vs.length=q.s+q.r)(g4:c.len<=q.r)(g5:gr=false->q.s=0/\q.r=c.len)(g6:c.R β ((vs.drop q.s).take c.len))(g7:∀ v∈vs,v.oneCell'=true)(hd:d.R β us):q.s+o+us.length<=vs.length/\BR β i (c'.hb T gr) (some (q.b,bx T (Ad_ vs (q.s+o) us))):=by
 obtain⟨p1,p2,p3⟩:=CC.put_ok e g6 hd;have hl:=hd.length;refine⟨by omega,CC.br hq (by rw[A7_];exact g3) xN (λg=>by rw[p2];exact g5 g) ?_ (Bs_ _ _ _ g7 hd.one)⟩;rw[p2,Ch_ (m:=c.len) xN xN];exact p1
theorem P7_{vs us:List Value}{s p:Nat}(hl:s+p+us.length<=vs.length):((Ad_ vs (s+p) us).drop s).take (p+us.length)=SW.sub vs s p++us:=by
 rw[A9_ _ _ _ hl,SW.sub]
 apply DO
 intro j;simp only[AD,AS,D1,AH,FV,E2];have e1:min (s+p) vs.length=s+p:=by omega
 have e2:min p (vs.length-s)=p:=by omega
 rw[e1,e2];by_cases h1:j<p;simp only[h1,if_true];rw[if_pos xN,if_pos xN,if_pos xN,if_pos xN];by_cases h2:j<p+us.length
 . rw[if_pos h2,if_pos xN,if_neg xN,if_neg h1]
   congr 1;omega
 rw[if_neg h2,if_neg h1,BQ xN]
theorem e_ap{R:Type}{k:Ke R}{r:R}{a b:CV}{dd:Nat}{pos:String}{af:Array Edge}(e:apE P h nx T T2 a b k=some r):∃ c h' nx',k c h' nx'=some r/\∀ {β:Be} {L:Ls} {F:Fr},Nat.blt dd n=true->HR β h nx L->VR β a (ev F x)->VR β b (ev F y)->Es P n N F H L β h nx ⟨some dd, .call ⟨.builtin .append,#[x,y],#[T,T2]⟩,ty,pos,af,none⟩ c h' nx':=by
 unfold apE at e
 split at e
 . rename_i et m by_ hA
   have hA:=apT_ok hA
   obtain⟨d2,hT2,hd2⟩:=hA.hT2
   obtain⟨zs,hz,hzl,hzo⟩:=hA.hz
   split at e
   . rename_i l d hs
     have room:∀ {β:Be} {L:Ls} {F:Fr} {i o len cap:Nat} {hb:HB} {q:Pl} {T0:TypeId} {c c':CC} {gr:Bool} {h':He} {rc:CV},AC dd n=true->HR β h nx L->VR β b (ev F y)->h.get i=some hb->hbC hb=some (T0,c,gr)->β i=some q->c.put (o+len*m) d=some c'->len+l<=cap->h'.get i=some (c'.hb T0 gr)->(∀ j,j≠i->h'.get j=h.get j) ->
         ev F x = .slice (some ⟨q.b,q.s+o,none⟩) len cap->VR β rc (.slice (some ⟨q.b,q.s+o,none⟩) (len+l) cap)->Es P n N F H L β h nx ⟨some dd, .call ⟨.builtin .append,#[x,y],#[T,T2]⟩,ty,pos,af,none⟩ rc h' nx:=by
       intro β L F i o len cap hb q T0 c c' gr h' rc hd hr hy hi hc hq hp hle g1 g2 ex hrc ops K kk ac w ha hm
       obtain⟨us,hsrc,hus⟩:=Fb_ hs hA.hB hr hy
       obtain⟨vs,f2,f3,f4,f5,f6,f7⟩:=hr.cc hi hc hq
       obtain⟨b1,b2⟩:=CC.put_br hq hp f3 f4 f5 f6 f7 hus
       rw[if_pos xR]
       unfold AX
       have hrun:∀ ats,_:=λats=>D2_ (P:=P) (ats:=ats) (len:=len) (cap:=cap) hA.hT hT2 hd2 hA.hk hsrc hus.one hm f2 hle (o:=q.s+o) xN
       obtain⟨w',r1,r2⟩:=hrun 0
       have r1':∀ ats,(AM #[T,T2] ats #[.slice (some ⟨q.b,q.s+o,none⟩) len cap,ev F y]).run P w = .ok (.slice (some ⟨q.b,q.s+o,none⟩) (len+l) cap) w':=λats=>r1
       rw[ha.eval,Bl_ ex rfl r1']
       rw[AZ] at r2
       exact⟨_,H,_,ha.put xU _,r2,kk β _ _ hrc (.set hr hi g1 g2 b2)⟩
     have grow:∀ {β:Be} {L L1:Ls} {F:Fr} {len cap:Nat} {base:Option Addr} {old:List Value} {c':CC} {h' h1:He},AC dd n=true->HR β h nx L->Post β h nx L β h1 nx L1->(∀ w x,Mem N H (lupd L nx x) w->Mem N H (lupd L1 nx x) w)->VR β b (ev F y)->(∀ w,Mem N H L w->(A8 m len (.slice base len cap)).run P w = .ok old.toArray w)->old.length=len*m->(∀ us,d.R β us->c'.R β (old++us))->¬len+l<=cap->(len+l)*by_<=140737488355328->h'.get nx=some (c'.hb et true)->(∀ j,j≠nx->h'.get j=h1.get j) ->
         ev F x = .slice base len cap->∀ (ac:Act) (w:World),At n ac F->Mem N H L w->∃ nc b w' β' L',(execOp ac.eval ⟨some dd, .call ⟨.builtin .append,#[x,y],#[T,T2]⟩,ty,pos,af,none⟩).run P w = .ok (.value (.slice (some ⟨b,0,none⟩) (len+l) nc)) w'/\Mem N H L' w'/\VR β' (.slu nx 0 (len+l) m) (.slice (some ⟨b,0,none⟩) (len+l) nc)/\Post β h nx L β' h' (nx+1) L':=by
       intro β L L1 F len cap base old c' h' h1 hd hr hP hL1 hy hold holl hcc hle hbd g1 g2 ex ac w ha hm
       obtain⟨us,hsrc,hus⟩:=Fb_ hs hA.hB hr hy
       obtain⟨w',nc,b,rest,r1,r2,r3,r4,r5⟩:=Hx_ (P:=P) (ats:=0) (len:=len) (cap:=cap) (base:=base) nx hA.hT hT2 hd2 hA.hk hA.hb hA.h0 hz hzl hzo hsrc hm hle hbd hold holl
       have r1':∀ ats,(AM #[T,T2] ats #[.slice base len cap,ev F y]).run P w = .ok (.slice (some ⟨b,0,none⟩) (len+l) nc) w':=λats=>r1
       have a1:=hcc us hus
       have hla:=a1.length
       refine⟨nc,b,w',bset β nx ⟨b,0,nc*m⟩,lupd L1 nx (some (b,bx et (old++us++rest))),by rw[ha.eval,Bl_ ex rfl r1'],hL1 _ _ r5,?_,hP.trans (.new hP.hr g1 g2 ?_)⟩
       . simp only[VR]
         exact⟨_,nc,_,J_,by simp,r2,rfl,λ_=>rfl⟩
       . have hlen:(old++us).length<=nc*m:=by
           have :=r3;simp only[AH] at this ⊢;omega
         refine CC.br (q:=⟨b,0,nc*m⟩) J_ (by simpa using r3) (by show c'.len<=nc*m;omega) (λg=>by cases g) ?_ (λv hv=>?_)
         . simp only[BW]
           rw[<- hla,EG]
           exact a1.mono (Ay_ (hP.hr.fr nx (AY _)).1)
         . rcases List.mem_append.1 hv with q|q
           . exact a1.one v q
           . exact r4 v q
     have idn:∀ {L:Ls} (w:World) (x:Option (Nat×Obj)),Mem N H (lupd L nx x) w->Mem N H (lupd L nx x) w:=λ_ _ h=>h
     have hgr:∀ {len:Nat} {c:CC} {h1:He},grE h1 nx et m len by_ c k=some r->∃ h',k (.slu nx 0 len m) h' (nx+1)=some r/\len*by_<=140737488355328/\c.len=len*m/\h'.get nx=some (c.hb et true)/\∀ j,j≠nx->h'.get j=h1.get j:=by
       intro len c h1 e
       unfold grE at e
       cases hb:(A6 (len*by_) 140737488355328&&A3 c.len (len*m)) with
       |false=>rw[hb] at e;cases e
       |true=>
         rw[hb] at e
         simp only[A2] at hb
         simp only[cond_true] at e
         obtain⟨h',e1,e2,e3⟩:=Tr.setK_ok _ _ _ _ _ _ e
         exact⟨h',e1,A1 hb.1,A0 hb.2,e2,e3⟩
     have wrap:∀ {β:Be} {L:Ls} {F:Fr} {c:CV} {h':He} {nx':Nat},AC dd n=true->(∀ (ac:Act) (w:World),At n ac F->Mem N H L w->∃ v w' β' L',(execOp ac.eval ⟨some dd, .call ⟨.builtin .append,#[x,y],#[T,T2]⟩,ty,pos,af,none⟩).run P w = .ok (.value v) w'/\Mem N H L' w'/\VR β' c v/\Post β h nx L β' h' nx' L')->Es P n N F H L β h nx ⟨some dd, .call ⟨.builtin .append,#[x,y],#[T,T2]⟩,ty,pos,af,none⟩ c h' nx':=by
       intro β L F c h' nx' hd hk ops K kk ac w ha hm
       obtain⟨v,w',β',L',a1,a2,a3,a4⟩:=hk ac w ha hm
       rw[if_pos xR]
       unfold AX
       rw[a1]
       exact⟨_,H,_,ha.put xU _,a2,kk β' v L' a3 a4⟩
     have none0:∀ {β:Be} {L:Ls} {F:Fr} {w:World} {base:Option Addr} {len cap:Nat} {b:CV} {d:CC},l=0->srcE h (isB P et) m b=some (l,d)->HR β h nx L->VR β b (ev F y)->Mem N H L w->len<=cap->∀ ats,(AM #[T,T2] ats #[.slice base len cap,ev F y]).run P w = .ok (.slice base len cap) w:=by
       intro β L F w base len cap b d hl0 hs hr hy hm hle ats
       obtain⟨us,hsrc,hus⟩:=Fb_ hs hA.hB hr hy
       obtain⟨hlen,hcells⟩:=hsrc.2 w hm
       have hus0:us=[]:=List.length_eq_zero_iff.1 (by rw[hsrc.1,hl0];simp)
       subst hus0;subst hl0
       rw[D9_ (P:=P) (ats:=ats) (base:=base) hA.hT hT2 hd2 hA.hk hlen xN]
       cases base<;>simp[hcells,storeCells]
     split at e
     . -- nothing yet
       split at e
       refine⟨_,_,_,e,λ{β L F} hd hr hx hy=>wrap hd λac w ha hm=>?_⟩
       obtain⟨us,hsrc,hus⟩:=Fb_ hs hA.hB hr hy
       simp only[VR] at hx
       obtain⟨hlen,hcells⟩:=hsrc.2 w hm
       have hus0:us=[]:=List.length_eq_zero_iff.1 (by rw[hsrc.1];simp)
       have r1:∀ ats,(AM #[T,T2] ats #[.slice none 0 0,ev F y]).run P w = .ok (.slice none 0 0) w:=λats=>by
         rw[D9_ (P:=P) (ats:=ats) (base:=none) hA.hT hT2 hd2 hA.hk hlen xN]
         simp[hcells]
       exact⟨_,w,β,L,by rw[ha.eval,Bl_ hx rfl r1],hm,by simp only[VR], .refl hr⟩
       . rename_i l0 hl0
         obtain⟨h',e1,e2,e3,e4,e5⟩:=hgr e
         refine⟨_,h',_,e1,λ{β L F} hd hr hx hy=>wrap hd λac w ha hm=>?_⟩
         simp only[VR] at hx
         obtain⟨nc,b,w',β',L',q⟩:=grow (L1:=L) (h1:=h) (old:=[]) (len:=0) (cap:=0) (base:=none) hd hr (.refl hr) (λ_ _ h=>h) hy (λw _=>by simp[A8]) xP (λus h=>by simpa using h) (λhq=>hl0 xN) (by simpa using e2) (by simpa using e4) e5 hx ac w ha hm
         exact⟨_,w',β',L',by simpa using q⟩
     . -- a slice of known room
       rename_i i o len cap
       split at e
       . cases hlc:A6 len cap with
         |false=>rw[hlc] at e;cases e
         |true=>
           rw[hlc] at e
           simp only[cond_true] at e
           refine⟨_,_,_,e,λ{β L F} hd hr hx hy=>wrap hd λac w ha hm=>?_⟩
           have hx':=hx
           simp only[VR] at hx;obtain⟨q,hq,ex⟩:=hx
           exact⟨_,w,β,L,by rw[ha.eval,Bl_ ex rfl (none0 rfl hs hr hy hm (A1 hlc))],hm,ex ▸ hx', .refl hr⟩
       . split at e
         . rename_i hb hi
           split at e
           . rename_i T0 c gr hc
             cases hroom:A6 (len+l) cap with
             |true=>
               rw[hroom] at e
               simp only[cond_true] at e
               split at e
               . rename_i c' hp
                 obtain⟨h',e1,e2,e3⟩:=Tr.setK_ok _ _ _ _ _ _ e
                 refine⟨_,h',_,e1,λ{β L F} hd hr hx hy=>?_⟩
                 simp only[VR] at hx;obtain⟨q,hq,ex⟩:=hx
                 exact room hd hr hy hi hc hq hp (A1 hroom) e2 e3 ex (by simp only[VR];exact⟨q,hq,rfl⟩)
               . cases e
             |false=>
               rw[hroom] at e
               simp only[cond_false] at e
               split at e
               . rename_i c0 hs0
                 split at e
                 . rename_i c' happ
                   obtain⟨h',e1,e2,e3,e4,e5⟩:=hgr e
                   refine⟨_,h',_,e1,λ{β L F} hd hr hx hy=>wrap hd λac w ha hm=>?_⟩
                   simp only[VR] at hx;obtain⟨q,hq,ex⟩:=hx
                   obtain⟨vs,f2,f3,f4,f5,f6,f7⟩:=hr.cc hi hc hq
                   obtain⟨s1,s2,s3⟩:=CC.sub_ok hs0 f6
                   rw[D3_ s3] at s1
                   obtain⟨nc,b,w',β',L',q⟩:=grow (L1:=L) (h1:=h) (old:=SW.sub vs (q.s+o) (len*m)) (len:=len) (cap:=cap) (base:=some ⟨q.b,q.s+o,none⟩) hd hr (.refl hr) (λ_ _ h=>h) hy (λw hm=>((I0_ (P:=P) (len:=len) (cap:=cap) f2 xN).2 w hm).2) (by rw[s1.length];exact s2) (λus h=>(CC.app_ok happ s1 h).1) (λhq=>by have :=BN hq;rw[hroom] at this;cases this) e2 e4 e5 ex ac w ha hm
                   exact⟨_,w',β',L',q⟩
                 . cases e
               . cases e
           . cases e
         . cases e
     . -- one of unknown room
       rename_i i o len m'
       cases hmm:A3 m' m with
       |false=>rw[hmm] at e;cases e
       |true=>
         rw[hmm] at e
         have :=A0 hmm
         subst this
         simp only[cond_true] at e
         split at e
         . refine⟨_,_,_,e,λ{β L F} hd hr hx hy=>wrap hd λac w ha hm=>?_⟩
           have hx':=hx
           simp only[VR] at hx;obtain⟨q,cc,aa,hq,_,hle,ex,_⟩:=hx
           exact⟨_,w,β,L,by rw[ha.eval,Bl_ ex rfl (none0 rfl hs hr hy hm hle)],hm,ex ▸ hx', .refl hr⟩
         . rename_i hl0
           split at e
           . rename_i hb hi
             split at e
             . rename_i T0 c gr hc
               have hl1:0<l:=DH hl0
               cases hroom:A6 (o+(len+l)*m') c.len with
               |true=>
                 rw[hroom] at e
                 have hrl:=A1 hroom
                 simp only[cond_true] at e
                 split at e
                 . rename_i c' hp
                   obtain⟨h',e1,e2,e3⟩:=Tr.setK_ok _ _ _ _ _ _ e
                   refine⟨_,h',_,e1,λ{β L F} hd hr hx hy=>?_⟩
                   simp only[VR] at hx;obtain⟨q,cc,aa,hq,hrm,hle,ex,ha⟩:=hx
                   obtain⟨vs,f2,f3,f4,f5,f6,f7⟩:=hr.cc hi hc hq
                   have hcap:len+l<=cc:=by
                     have :(len+l)*m'<=cc*m':=by omega
                     exact Nat.le_of_mul_le_mul_right this hA.hm
                   have haa:=ha xN;subst haa
                   exact room hd hr hy hi hc hq hp hcap e2 e3 ex (by simp only[VR];exact⟨q,cc,_,hq,hrm,hcap,rfl,λ_=>rfl⟩)
                 . cases e
               |false=>
                 rw[hroom] at e
                 simp only[cond_false] at e
                 cases hend:(A3 (o+len*m') c.len&&A3 T0 et) with
                 |false=>rw[hend] at e;cases e
                 |true=>
                   rw[hend] at e
                   simp only[A2] at hend
                   have hend1:=A0 hend.1
                   have hT0:=A0 hend.2
                   subst hT0
                   simp only[cond_true] at e
                   split at e
                   . rename_i c0 hs0
                     split at e
                     . rename_i c' happ
                       obtain⟨h1,e0,d1,d2⟩:=Tr.setK_ok _ _ _ _ _ _ e
                       obtain⟨h',e1,e2,e3,e4,e5⟩:=hgr e0
                       refine⟨_,h',_,e1,λ{β L F} hd hr hx hy=>wrap hd λac w ha hm=>?_⟩
                       simp only[VR] at hx;obtain⟨q,cc,aa,hq,hrm,hle,ex,haa⟩:=hx
                       obtain⟨vs,f2,f3,f4,f5,f6,f7⟩:=hr.cc hi hc hq
                       obtain⟨s1,s2,s3⟩:=CC.sub_ok hs0 f6
                       rw[D3_ s3] at s1
                       have hinx:i<nx:=hr.lt i _ hi
                       have hLn:L nx=none:=(hr.fr nx (AY _)).2
                       by_cases hcap:len+l<=cc
                       . -- in place, under a new number
                         have haa:=haa xN;subst haa
                         obtain⟨us,hsrc,hus⟩:=Fb_ hs hA.hB hr hy
                         have hfit:q.s+o+len*m'+us.length<=vs.length:=by
                           have h1:(len+l)*m'<=cc*m':=BS _ hcap
                           rw[hsrc.1];rw[AG] at h1;omega
                         obtain⟨w',r1,r2⟩:=D2_ (P:=P) (ats:=0) (len:=len) (cap:=cc) hA.hT hT2 hd2 hA.hk hsrc hus.one hm f2 hcap (o:=q.s+o) hfit
                         have r1':∀ ats,(AM #[T,T2] ats #[.slice (some ⟨q.b,q.s+o,none⟩) len cc,ev F y]).run P w = .ok (.slice (some ⟨q.b,q.s+o,none⟩) (len+l) cc) w':=λats=>r1
                         have a1:=(CC.app_ok happ s1 hus).1
                         refine⟨_,w',bset β nx ⟨q.b,q.s+o,q.r-o⟩,_,by rw[ha.eval,Bl_ ex rfl r1'],Mem.renum r2 hLn xN,?_, .take hr hi d1 d2 e4 e5 ?_⟩
                         . simp only[VR]
                           exact⟨_,cc,_,J_,by simp;omega,hcap,rfl,λ_=>by simp⟩
                         . have hla:=a1.length
                           have hsl:(SW.sub vs (q.s+o) (len*m')).length=len*m':=by rw[s1.length];exact s2
                           refine CC.br (q:=⟨q.b,q.s+o,q.r-o⟩) J_ (by rw[A7_];simp;omega) ?_ (λg=>by cases g) ?_ (Bs_ _ _ _ f7 hus.one)
                           . show c'.len<=q.r-o
                             rw[<- hla,AH,hsl];omega
                           . rw[<- hla,AH,hsl]
                             have :=P7_ (vs:=vs) (us:=us) (s:=q.s+o) (p:=len*m') hfit
                             rw[this]
                             exact a1.mono (Ay_ (hr.fr nx (AY _)).1)
                       . have hmem:∀ (w:World) (x:Option (Nat×Obj)),Mem N H (lupd L nx x) w->Mem N H (lupd (lupd L i none) nx x) w:=λw x hm=>by
                           have hx:∀ j y,lupd (lupd L i none) nx x j=some y->lupd L nx x j=some y:=λj y e=>by
                             by_cases e':j=nx
                             . subst e';rw[E_] at e ⊢;exact e
                             . rw[D_ _ _ _ _ e'] at e ⊢;exact (Hn_ e).2
                           exact hm.sub (λj y e=>⟨j,hx j y e⟩) λj j' y y' e e' hb=>by
                             obtain⟨yb,yo⟩:=y;obtain⟨yb',yo'⟩:=y'
                             cases (show yb=yb' from hb)
                             exact hm.ll j j' yb yo yo' (hx _ _ e) (hx _ _ e')
                         have hold:∀ w,Mem N H L w->(A8 m' len (.slice (some aa) len cc)).run P w = .ok (SW.sub vs (q.s+o) (len*m')).toArray w:=λw hm=>by
                           cases len with
                           |zero=>simp[SW.sub,A8,loadCells,loadCellsFrom]
                           |succ len=>
                             have :=haa xN;subst this
                             exact ((I0_ (P:=P) (len:=len+1) (cap:=cc) f2 xN).2 w hm).2
                         obtain⟨nc,b,w',β',L',q⟩:=grow (L1:=lupd L i none) (h1:=h1) (old:=SW.sub vs (q.s+o) (len*m')) (len:=len) (cap:=cc) (base:=some aa) hd hr (Post.set hr hi d1 d2 (show BR β i .dead none from rfl)) hmem hy hold (by rw[s1.length];exact s2) (λus h=>(CC.app_ok happ s1 h).1) hcap e2 e4 e5 ex ac w ha hm
                         exact⟨_,w',β',L',q⟩
                     . cases e
                   . cases e
             . cases e
           . cases e
     . cases e
   . cases e
 . cases e
end
end Go.CE
namespace Go.CE
open Go.SW
noncomputable section
variable{P:Program}{n:Nat}{N:SW.Rest}{F:Fr}{H:Hp}{L:Ls}{ty T T' T2:TypeId}{x y z:Operand}{β:Be}{f:Fe}{h:He}{nx:Nat}
def lnE(a:CV):Option Nat:=match a with
 | .str n _=>some n
 | .nils=>some 0
 | .sl _ _ n _=>some n
 | .slu _ _ n _=>some n
 |_=>none
theorem Qv_{a:CV}{m:Nat}{v:Value}(e:lnE a=some m)(hv:VR β a v)(w:World):(Builtin.lenOf v).run P w = .ok m w:=by
 unfold lnE at e
 split at e
 simp only[Option.some.injEq] at e;subst e;simp only[VR] at hv;rw[hv.2];simp[B4,SW.str,Au_,C_];simp only[Option.some.injEq] at e;subst e;simp only[VR] at hv;subst hv;simp[B4];simp only[Option.some.injEq] at e;subst e;simp only[VR] at hv;obtain⟨q,_,rfl⟩:=hv;simp[B4];simp only[Option.some.injEq] at e;subst e;simp only[VR] at hv;obtain⟨q,c,a,_,_,_,rfl,_⟩:=hv;simp[B4]
 . cases e
def fcE(h:He)(isb:Bool)(k m:Nat)(a:CV):Option CC:=match m with
 |0=>some (CC.nil isb)
 |_=>match a with
   | .str n x=>bif isb&&A6 m n then some (.b m (x%256 ^ m)) else none
   | .sl i o len _=>bif A6 m len then (match h.get i with
     |some hb=>match hbC hb with
       |some (_,c,_)=>c.sub o (m*k)
       |none=>none
     |none=>none) else none
   | .slu i o len _=>bif A6 m len then (match h.get i with
     |some hb=>match hbC hb with
       |some (_,c,_)=>c.sub o (m*k)
       |none=>none
     |none=>none) else none
   |_=>none
theorem Nx_{b o i len cap m k T0:Nat}{vs:List Value}{w:World}(hm:Mem N H L w)(hi:L i=some (b,bx T0 vs))(hl:o+m*k<=vs.length):(Builtin.firstCells k m (.slice (some ⟨b,o,none⟩) len cap)).run P w = .ok (SW.sub vs o (m*k)).toArray w:=by
 have hlen:(SW.sub vs o (m*k)).length=m*k:=by simp[SW.sub];omega
 have :=run_loadCells_list (P:=P) w ⟨b,o,none⟩ (SW.sub vs o (m*k)) (λj v hj=>by
   rw[K_]
   refine hm.cellL hi ?_
   simp only[SW.sub,AD,AS] at hj
   split at hj
   . exact hj
   . cases hj)
 rw[hlen] at this;exact xB
theorem Qp_{isb:Bool}{k m:Nat}{a:CV}{d:CC}{v:Value}(e:fcE h isb k m a=some d)(hk:isb=true->k=1)(hr:HR β h nx L)(hv:VR β a v)(hsl:∃ l,lnE a=some l):∃ us,us.length=m*k/\d.R β us/\∀ w,Mem N H L w->(Builtin.firstCells k m v).run P w = .ok us.toArray w:=by
 cases m with
 |zero=>
   simp only[fcE,Option.some.injEq] at e;subst e
   refine⟨[],by simp,CC.nil_ok.1,λw _=>?_⟩
   obtain⟨l,hl⟩:=hsl
   unfold lnE at hl
   split at hl
   . simp only[VR] at hv;rw[hv.2];simp[A8,SW.str,Bc_]
   . simp only[VR] at hv;subst hv;simp[A8]
   . simp only[VR] at hv;obtain⟨q,_,rfl⟩:=hv;simp[A8,loadCells,loadCellsFrom]
   . simp only[VR] at hv;obtain⟨q,c,a,_,_,_,rfl,_⟩:=hv;simp[A8,loadCells,loadCellsFrom]
   . cases hl
 |succ m=>
   have blk:∀ {i o len cap:Nat} {q:Pl} {hb:HB} {T0:TypeId} {c:CC} {gr:Bool},β i=some q->h.get i=some hb->hbC hb=some (T0,c,gr)->c.sub o ((m+1)*k)=some d->∃ us,us.length=(m+1)*k/\d.R β us/\∀ w,Mem N H L w->(A8 k (m+1) (.slice (some ⟨q.b,q.s+o,none⟩) len cap)).run P w = .ok us.toArray w:=by
     intro i o len cap q hb T0 c gr hq hi hc hs
     obtain⟨vs,f2,f3,f4,f5,f6,f7⟩:=hr.cc hi hc hq
     obtain⟨s1,s2,s3⟩:=CC.sub_ok hs f6
     rw[D3_ s3] at s1
     exact⟨_,by rw[s1.length,s2],s1,λw hm=>Nx_ hm f2 xN⟩
   simp only[fcE] at e
   split at e
   . rename_i l x
     cases hb:(isb&&A6 (m+1) l) with
     |false=>rw[hb] at e;cases e
     |true=>
       rw[hb] at e
       simp only[A2] at hb
       have :=hk hb.1;subst this
       have hle:=A1 hb.2
       simp only[cond_true,Option.some.injEq] at e;subst e
       simp only[VR] at hv
       refine⟨(dec (m+1) (x%256 ^ (m+1))).map u8v,by simp[C_],⟨Nat.mod_lt _ (BH xN),rfl⟩,λw _=>?_⟩
       rw[hv.2,<- Bj_ (m+1) l x hle]
       simp only[A8,SW.str,Bc_]
       simp
       rfl
   . rename_i i o len cap
     cases hb:A6 (m+1) len with
     |false=>rw[hb] at e;cases e
     |true=>
       rw[hb] at e
       simp only[cond_true] at e
       simp only[VR] at hv;obtain⟨q,hq,rfl⟩:=hv
       split at e
       . rename_i hb hi
         split at e
         . rename_i T0 c gr hc;exact blk hq hi hc e
         . cases e
       . cases e
   . rename_i i o len k'
     cases hb:A6 (m+1) len with
     |false=>rw[hb] at e;cases e
     |true=>
       rw[hb] at e
       have hle:=A1 hb
       simp only[cond_true] at e
       simp only[VR] at hv;obtain⟨q,cc,aa,hq,_,hle2,rfl,ha⟩:=hv
       have :=ha xN;subst this
       split at e
       . rename_i hb hi
         split at e
         . rename_i T0 c gr hc;exact blk hq hi hc e
         . cases e
       . cases e
   . cases e
def cpE{R:Type}(P:Program)(h:He)(nx:Nat)(T:TypeId)(a b:CV)(k:Ke R):Option R:=match P.underlying T with
 |some (.slice e)=>match szE P e with
   |some m=>match lnE a with
     |some la=>match lnE b with
       | some lb=>bif (!isB P e)||A3 m 1 then (match fcE h (isB P e) m (H9 lb la) b with
         |some d=>match H9 lb la with
           |0=>bif (match a with| .str _ _=>true|_=>false) then none else k (.int .i64 ((0:Nat):Int)) h nx
           |l+1=>match (match a with| .sl i o _ _=>some (i,o)| .slu i o _ _=>some (i,o)|_=>none) with
             |some (i,o)=>match h.get i with
               |some hb=>match hbC hb with
                 |some (T0,c,gr)=>match c.put o d with
                   |some c'=>Tr.setK 40 h i (c'.hb T0 gr) λh=>k (.int .i64 ((l+1:Nat):Int)) h nx
                   |none=>none
                 |none=>none
               |none=>none
             |none=>none
         |none=>none) else none
       |none=>none
     |none=>none
   |none=>none
 |_=>none
theorem J6_{base:Option Addr}{len cap m lb l:Nat}{e:TypeId}{ats:TypeId}{sv:Value}{us:List Value}{w w':World}(hT:P.underlying T=some (.slice e))(hk:Sz P e m)(hlb:(Builtin.lenOf sv).run P w = .ok lb w)(hl:Nat.min lb len=l)(hf:(Builtin.firstCells m l sv).run P w = .ok us.toArray w)(hs:(match base with|some a=>storeCells a us|none=>pure ():Sem Unit).run P w = .ok () w'):(Builtin.copy_ #[T,T2] ats #[.slice base len cap,sv]).run P w = .ok (goInt l) w':=by
 cases base with
 |none=>simp at hs;subst hs;simp[D2,run_underlying hT,hlb,hk w,hl,hf]
 |some a=>simp only at hs;simp[D2,run_underlying hT,hlb,hk w,hl,hf,hs]
theorem Hc_{v sv r:Value}{w w':World}{d:Option Tmp}{pos:String}{af:Array Edge}{g:Option (Nat×Bool)}(hx:ev F x=v)(hy:ev F y=sv)(h:∀ ats,(Builtin.copy_ #[T,T2] ats #[v,sv]).run P w = .ok r w'):(execOp (ev F) ⟨d, .call ⟨.builtin .copy,#[x,y],#[T,T2]⟩,ty,pos,af,g⟩).run P w = .ok (.value r) w':=
 I_ (args:=#[v,sv]) wJ λcs=>by simp[builtin,h]
theorem e_cp{R:Type}{k:Ke R}{r:R}{a b:CV}{dst:Option Tmp}{pos:String}{af:Array Edge}(e:cpE P h nx T a b k=some r):∃ c h' nx',k c h' nx'=some r/\∀ {β:Be} {L:Ls} {F:Fr},dstB n ⟨dst, .call ⟨.builtin .copy,#[x,y],#[T,T2]⟩,ty,pos,af,none⟩=true->HR β h nx L->VR β a (ev F x)->VR β b (ev F y)->Es P n N F H L β h nx ⟨dst, .call ⟨.builtin .copy,#[x,y],#[T,T2]⟩,ty,pos,af,none⟩ c h' nx':=by
 unfold cpE at e
 split at e
 . rename_i et hT
   split at e
   . rename_i m hm
     split at e
     . rename_i la hla
       split at e
       . rename_i lb hlb
         cases hB:((!isB P et)||A3 m 1) with
         |false=>rw[hB] at e;cases e
         |true=>
           rw[hB] at e
           have hB1:isB P et=true->m=1:=λq=>by rw[q] at hB;simpa using hB
           simp only[cond_true] at e
           split at e
           . rename_i d hd
             have wrap:∀ {β:Be} {L:Ls} {F:Fr} {c:CV} {h':He} {nx':Nat},dstB n ⟨dst, .call ⟨.builtin .copy,#[x,y],#[T,T2]⟩,ty,pos,af,none⟩=true->(∀ (ac:Act) (w:World),At n ac F->Mem N H L w->∃ v w' β' L',(execOp ac.eval ⟨dst, .call ⟨.builtin .copy,#[x,y],#[T,T2]⟩,ty,pos,af,none⟩).run P w = .ok (.value v) w'/\Mem N H L' w'/\VR β' c v/\Post β h nx L β' h' nx' L')->Es P n N F H L β h nx ⟨dst, .call ⟨.builtin .copy,#[x,y],#[T,T2]⟩,ty,pos,af,none⟩ c h' nx':=by
               intro β L F c h' nx' hdst hk ops K kk ac w ha hw
               obtain⟨v,w',β',L',a1,a2,a3,a4⟩:=hk ac w ha hw
               rw[if_pos xR]
               unfold AX
               rw[a1]
               exact⟨_,H,_,ha.putO hdst v,a2,kk β' v L' a3 a4⟩
             cases hl:H9 lb la with
             |zero=>
               rw[hl] at e hd
               simp only at e
               cases hs:(match a with| .str _ _=>true|_=>false) with
               |true=>rw[hs] at e;cases e
               |false=>
                 rw[hs] at e
                 simp only[cond_false] at e
                 refine⟨_,_,_,e,λ{β L F} hdst hr hx hy=>wrap hdst λac w ha hw=>?_⟩
                 obtain⟨us,u1,u2,u3⟩:=Qp_ hd hB1 hr hy ⟨_,hlb⟩
                 have hus0:us=[]:=List.length_eq_zero_iff.1 (by rw[u1];simp)
                 subst hus0
                 obtain⟨base,cap,ex⟩:∃ base cap,ev F x = .slice base la cap:=by
                   unfold lnE at hla
                   split at hla
                   . cases hs
                   . simp only[Option.some.injEq] at hla;subst hla;simp only[VR] at hx;exact⟨_,_,hx⟩
                   . simp only[Option.some.injEq] at hla;subst hla;simp only[VR] at hx;obtain⟨q,_,ex⟩:=hx;exact⟨_,_,ex⟩
                   . simp only[Option.some.injEq] at hla;subst hla;simp only[VR] at hx;obtain⟨q,c,a,_,_,_,ex,_⟩:=hx;exact⟨_,_,ex⟩
                   . cases hla
                 have r1:∀ ats,(D2 #[T,T2] ats #[.slice base la cap,ev F y]).run P w = .ok (goInt 0) w:=λats=>
                   J6_ (P:=P) (ats:=ats) hT (Af_ hm) (Qv_ hlb hy w) hl (u3 w hw) (by cases base<;>simp[storeCells])
                 exact⟨_,w,β,L,by rw[ha.eval,Hc_ ex rfl r1],hw,by simp only[VR];rfl, .refl hr⟩
             |succ l=>
               rw[hl] at e hd
               simp only at e
               split at e
               . rename_i i o hio
                 split at e
                 . rename_i hb hi
                   split at e
                   . rename_i T0 c gr hc
                     split at e
                     . rename_i c' hp
                       obtain⟨h',e1,e2,e3⟩:=Tr.setK_ok _ _ _ _ _ _ e
                       refine⟨_,h',_,e1,λ{β L F} hdst hr hx hy=>wrap hdst λac w ha hw=>?_⟩
                       obtain⟨us,u1,u2,u3⟩:=Qp_ hd hB1 hr hy ⟨_,hlb⟩
                       obtain⟨q,cap,hq,ex⟩:∃ q cap,β i=some q/\ev F x = .slice (some ⟨q.b,q.s+o,none⟩) la cap:=by
                         have hmn:=Nat.min_le_right lb la
                         have hl':min lb la=l+1:=hl
                         cases a<;>simp only[Option.some.injEq,Prod.mk.injEq,reduceCtorEq] at hio
                         . obtain⟨rfl,rfl⟩:=hio
                           simp only[lnE,Option.some.injEq] at hla;subst hla
                           simp only[VR] at hx;obtain⟨q,h1,h2⟩:=hx;exact⟨q,_,h1,h2⟩
                         . obtain⟨rfl,rfl⟩:=hio
                           simp only[lnE,Option.some.injEq] at hla;subst hla
                           simp only[VR] at hx;obtain⟨q,cc,aa,h1,_,hle,h2,h3⟩:=hx
                           have :=h3 xN;subst this
                           exact⟨q,_,h1,h2⟩
                       obtain⟨vs,f2,f3,f4,f5,f6,f7⟩:=hr.cc hi hc hq
                       obtain⟨b1,b2⟩:=CC.put_br (T:=T0) hq hp f3 f4 f5 f6 f7 u2
                       obtain⟨w',L',s1,s2,s3,s4⟩:=Mem.storeA (P:=P) q.b i (q.s+o) us vs 0 L w hw f2 xN u2.one
                       have hLL:L'=lupd L i (some (q.b,bx T0 (Ad_ vs (q.s+o) us))):=funext λj=>by
                         by_cases e':j=i
                         . subst e';rw[E_,s4];rfl
                         . rw[D_ _ _ _ _ e',s3 j e']
                       subst hLL
                       have r1:∀ ats,(D2 #[T,T2] ats #[.slice (some ⟨q.b,q.s+o,none⟩) la cap,ev F y]).run P w = .ok (goInt (l+1)) w':=λats=>
                         J6_ (P:=P) (ats:=ats) hT (Af_ hm) (Qv_ hlb hy w) hl (u3 w hw) s1
                       exact⟨_,w',β,_,by rw[ha.eval,Hc_ ex rfl r1],s2,by simp only[VR];rfl, .set hr hi e2 e3 b2⟩
                     . cases e
                   . cases e
                 . cases e
               . cases e
           . cases e
       . cases e
     . cases e
   . cases e
 . cases e
def rgE{R:Type}(P:Program)(h:He)(nx:Nat)(T:TypeId)(a:CV)(k:Ke R):Option R:=match a with
 | .str m s=>match P.underlying T with
   |some .string=>Tr.setK 40 h nx (.itr m s 0) λh=>k (.ptr nx 0) h (nx+1)
   |_=>none
 |_=>none
theorem e_rg{R:Type}{k:Ke R}{r:R}{a:CV}{d:Nat}{pos:String}{af:Array Edge}(e:rgE P h nx T a k=some r):∃ c h' nx',k c h' nx'=some r/\∀ {β:Be} {L:Ls} {F:Fr},Nat.blt d n=true->HR β h nx L->VR β a (ev F x)->Es P n N F H L β h nx ⟨some d, .range T x,ty,pos,af,none⟩ c h' nx':=by
 unfold rgE at e
 split at e
 . rename_i m s
   split at e
   . rename_i hT
     obtain⟨h',e1,e2,e3⟩:=Tr.setK_ok _ _ _ _ _ _ e
     refine⟨_,h',_,e1,λ{β L F} hd hr hx ops K kk=>?_⟩
     simp only[VR] at hx
     refine M9_ nx hd hx.2 hT λb=>kk (bset β nx ⟨b,0,0⟩) _ _ ?_ (.new hr e2 e3 ⟨_,J_,rfl,hx.1,rfl⟩)
     exact yW
   . cases e
 . cases e
def nxE{R:Type}(h:He)(nx:Nat)(a:CV)(k:Ke R):Option R:=match a with
 | .ptr i 0=>match h.get i with
   |some (.itr m s p)=>bif AC p m then (bif AC (s/256 ^ p%256) 128 then Tr.setK 40 h i (.itr m s (p+1)) λh=>k (.tup [.bool true, .int .i64 (p:Int), .int .i32 ((s/256 ^ p%256:Nat):Int)]) h nx else none) else k (.tup [.bool false]) h nx
   |_=>none
 |_=>none
theorem e_nx{R:Type}{k:Ke R}{r:R}{a:CV}{d:Nat}{pos:String}{af:Array Edge}(e:nxE h nx a k=some r):∃ c h' nx',k c h' nx'=some r/\∀ {β:Be} {L:Ls} {F:Fr},Nat.blt d n=true->HR β h nx L->VR β a (ev F x)->Es P n N F H L β h nx ⟨some d, .next x true,ty,pos,af,none⟩ c h' nx':=by
 unfold nxE at e
 split at e
 . rename_i i
   split at e
   . rename_i m s p hi
     cases hb:AC p m with
     |false=>
       rw[hb] at e
       simp only[cond_false] at e
       refine⟨_,_,_,e,λ{β L F} hd hr hx ops K kk=>?_⟩
       simp only[VR] at hx;obtain⟨q,hq,ex⟩:=hx
       obtain⟨q',h1,h0,h2,h3⟩:=hr.br i _ hi
       rw[hq] at h1;cases h1
       rw[h0] at ex
       have hge:m<=p:=by
         rcases Nat.lt_or_ge p m with q|q
         . have :AC p m=true:=BN q
           rw[hb] at this;cases this
         . exact q
       exact Ht_ i hd ex h3 (by rw[C_];exact hge) (kk β _ _ (by simp only[VR];exact⟨[.bool false],rfl, .cons Y .nil⟩) (.refl hr))
     |true=>
       rw[hb] at e
       simp only[cond_true] at e
       have hlt:=Be_ hb
       cases hb2:AC (s/256 ^ p%256) 128 with
       |false=>rw[hb2] at e;cases e
       |true=>
         rw[hb2] at e
         simp only[cond_true] at e
         obtain⟨h',e1,e2,e3⟩:=Tr.setK_ok _ _ _ _ _ _ e
         refine⟨_,h',_,e1,λ{β L F} hd hr hx ops K kk=>?_⟩
         simp only[VR] at hx;obtain⟨q,hq,ex⟩:=hx
         obtain⟨q',h1,h0,h2,h3⟩:=hr.br i _ hi
         rw[hq] at h1;cases h1
         rw[h0] at ex
         have hget:((dec m s).getD p 0).toNat=s/256 ^ p%256:=by
           rw[AO,Eo_ m s p hlt];simp
         refine Gr_ i hd ex h3 (by rw[C_];exact hlt) (by rw[hget];exact Be_ hb2) (kk β _ _ ?_ (.set hr hi e2 e3 ⟨q,hq,h0,h2,rfl⟩))
         simp only[VR]
         exact⟨[.bool true, .int .i64 p, .int .i32 (((dec m s).getD p 0).toNat:Int)],rfl, .cons Y (.cons Y (.cons (by rw[hget];rfl) .nil))⟩
   . cases e
 . cases e
end
end Go.CE
namespace Go.CE
open Go.SW
noncomputable section
variable{P:Program}{n:Nat}{N:SW.Rest}{F:Fr}{H:Hp}{L:Ls}{ty T T' T2:TypeId}{x y z:Operand}{β:Be}{f:Fe}{h:He}{nx:Nat}
inductive XK where
 |noesc
 |count
 |ixb
 |mknz (e:TypeId)
abbrev Xt:=List (FuncId×XK)
def xkE:Xt->FuncId->Option XK
 |[],_=>none
 |(a,k)::r,g=>bif A3 a g then some k else xkE r g
def XSp(P:Program)(g:FuncId):XK->Prop
 | .noesc=>∀ v w,(callFunc g #[v]).run P w = .ok (.value v) w
 | .count=>∀ (s:Bs) (c:Int) w,(callFunc g #[SW.str s, .int .u8 c]).run P w = .ok (.value (.int .i64 (DE s c.toNat.toUInt8))) w
 | .ixb=>∀ (s:Bs) (c:Int) w,(callFunc g #[SW.str s, .int .u8 c]).run P w = .ok (.value (.int .i64 (C5 s c.toNat.toUInt8))) w
 | .mknz e=>∀ (m:Nat) w,m<=281474976710656->∃ cs:List Value,m<=cs.length/\(∀ v∈cs,v.oneCell'=true)/\(callFunc g #[.int .i64 (m:Int)]).run P w = .ok (.value (.slice (some ⟨w.heap.size,0,none⟩) m cs.length)) {w with drawn:=w.drawn+2,heap:=w.heap.push (bx e cs)}
def XOk(P:Program)(X:Xt):Prop:=∀ g k,xkE X g=some k->XSp P g k
def cntN:Nat->Nat->Nat->Nat
 |0,_,_=>0
 |n+1,x,c=>(bif A3 (x%256) c then 1 else 0)+cntN n (x/256) c
def ixN:Nat->Nat->Nat->Nat->Option Nat
 |0,_,_,_=>none
 |n+1,x,c,i=>bif A3 (x%256) c then some i else ixN n (x/256) c (i+1)
theorem u8_eq{a c:Nat}(hc:c<256):(UInt8.ofNat (a%256)==UInt8.ofNat c)=Nat.beq (a%256) c:=by
 rw[E6,beq_iff_eq];constructor;intro e;have :=congrArg GR e;simp at this;have e2:c%256=c:=C9 hc;rw[show a%256=c by omega];exact H8 _;intro e;rw[A0 e]
theorem Lg_{c:Nat}(hc:c<256):∀ (m x:Nat),Lib.countByte (dec m x) (UInt8.ofNat c)=cntN m x c
 |0,_=>by simp[DE,dec,cntN]
 |m+1,x=>by
   have ih:=Lg_ hc m (x/256)
   unfold DE at ih ⊢
   simp only[dec,cntN,List.count_cons,ih,u8_eq hc]
   cases A3 (x%256) c<;>simp<;>omega
theorem Qt_{c:Nat}(hc:c<256):∀ (m x i:Nat),(match ixN m x c i with|some j=>(j:Int)|none=>-1)=(if Lib.indexByte (dec m x) (UInt8.ofNat c) = -1 then -1 else Lib.indexByte (dec m x) (UInt8.ofNat c)+i)
 |0,_,_=>by simp[C5,dec,ixN]
 |m+1,x,i=>by
   have ih:=Qt_ hc m (x/256) (i+1)
   have hge:=Lib.indexByte_ge (dec m (x/256)) (B7 c)
   simp only[dec,ixN,C5,u8_eq hc]
   cases hb:A3 (x%256) c with
   |true=>simp
   |false=>
     simp only[cond_false,DK,if_false]
     rw[ih]
     by_cases h1:C5 (dec m (x/256)) (B7 c) = -1
     . simp[h1]
     . have h2:¬(C5 (dec m (x/256)) (B7 c)+1 = -1):=by omega
       simp only[beq_iff_eq,h1,if_false,h2]
       omega
def xtE{R:Type}(h:He)(nx:Nat)(xk:XK)(args:List CV)(k:Ke R):Option R:=match xk with
 | .noesc=>match args with
   |[a]=>k a h nx
   |_=>none
 | .count=>match args with
   |[.str m s, .int .u8 (.ofNat c)]=>bif AC c 256 then k (.int .i64 (cntN m s c:Nat)) h nx else none
   |_=>none
 | .ixb=>match args with
   |[.str m s, .int .u8 (.ofNat c)]=>bif AC c 256 then k (.int .i64 (match ixN m s c 0 with|some j=>(j:Int)|none=>-1)) h nx else none
   |_=>none
 | .mknz e=>match args with
   |[.int .i64 (.ofNat m)]=>bif A6 m 281474976710656 then Tr.setK 40 h nx (.bys e 0 0 true) λh=>k (.slu nx 0 m 1) h (nx+1) else none
   |_=>none
theorem e_xt{R:Type}{k:Ke R}{r:R}{xk:XK}{g:FuncId}{args:List CV}(hX:XSp P g xk)(e:xtE h nx xk args k=some r):∃ c h' nx',k c h' nx'=some r/\∀ {β:Be} {L:Ls} {vs:List Value} {w:World},HR β h nx L->VRs β args vs->Mem N H L w->∃ v w' β' L',(callFunc g vs.toArray).run P w = .ok (.value v) w'/\Mem N H L' w'/\VR β' c v/\Post β h nx L β' h' nx' L':=by
 unfold xtE at e
 split at e
 . split at e
   refine⟨_,_,_,e,λ{β L vs w} hr hv hm=>?_⟩
   obtain⟨v,us,rfl,h1,h2⟩:=hv.cons_inv
   rw[h2.nil_inv]
   exact⟨v,w,β,L,hX v w,hm,h1, .refl hr⟩
   . cases e
 . split at e
   . rename_i m s c
     cases hb:AC c 256 with
     |false=>rw[hb] at e;cases e
     |true=>
       rw[hb] at e
       have hc:=Be_ hb
       simp only[cond_true] at e
       refine⟨_,_,_,e,λ{β L vs w} hr hv hm=>?_⟩
       obtain⟨v,us,rfl,h1,h2⟩:=hv.cons_inv
       obtain⟨v2,us2,rfl,h3,h4⟩:=h2.cons_inv
       rw[h4.nil_inv]
       simp only[VR] at h1 h3
       obtain⟨_,rfl⟩:=h1;subst h3
       refine⟨_,w,β,L,hX _ _ w,hm,?_, .refl hr⟩
       simp only[VR]
       have :=Lg_ hc m s
       show BM .i64 (DE (dec m s) (B7 c):Nat)=_
       rw[this]
   . cases e
 . split at e
   . rename_i m s c
     cases hb:AC c 256 with
     |false=>rw[hb] at e;cases e
     |true=>
       rw[hb] at e
       have hc:=Be_ hb
       simp only[cond_true] at e
       refine⟨_,_,_,e,λ{β L vs w} hr hv hm=>?_⟩
       obtain⟨v,us,rfl,h1,h2⟩:=hv.cons_inv
       obtain⟨v2,us2,rfl,h3,h4⟩:=h2.cons_inv
       rw[h4.nil_inv]
       simp only[VR] at h1 h3
       obtain⟨_,rfl⟩:=h1;subst h3
       refine⟨_,w,β,L,hX _ _ w,hm,?_, .refl hr⟩
       simp only[VR]
       have :=Qt_ hc m s 0
       show BM .i64 (C5 (dec m s) (B7 c))=_
       rw[this]
       congr 1
       split<;>omega
   . cases e
 . rename_i e0
   split at e
   . rename_i m
     cases hb:A6 m 281474976710656 with
     |false=>rw[hb] at e;cases e
     |true=>
       rw[hb] at e
       simp only[cond_true] at e
       obtain⟨h',e1,e2,e3⟩:=Tr.setK_ok _ _ _ _ _ _ e
       refine⟨_,h',_,e1,λ{β L vs w} hr hv hm=>?_⟩
       obtain⟨v,us,rfl,h1,h2⟩:=hv.cons_inv
       rw[h2.nil_inv]
       simp only[VR] at h1;subst h1
       obtain⟨cs,c1,c2,c3⟩:=hX m w (A1 hb)
       refine⟨_,_,bset β nx ⟨w.heap.size,0,cs.length⟩,lupd L nx (some (w.heap.size,bx e0 cs)),c3,(hm.drew (w.drawn+2)).push nx _,?_, .new hr e2 e3 ⟨_,cs,J_,rfl,by simp,by simp,λg=>(by cases g),by simp,by simp[dec],c2⟩⟩
       simp only[VR]
       exact⟨_,cs.length,_,J_,by simp,c1,rfl,λ_=>rfl⟩
   . cases e
end
end Go.CE
namespace Go.CE
open Go.SW
noncomputable section
variable{P:Program}{n:Nat}{N:SW.Rest}{F:Fr}{H:Hp}{L:Ls}{ty T T' T2:TypeId}{x y z:Operand}{β:Be}{f:Fe}{h:He}{nx:Nat}
def upE(P:Program)(h:He)(T T':TypeId)(a:CV):Option CV:=match a with
 | .ptr i 0=>match h.get i with
   |some (.cells e cs false)=>match P.underlying T with
     |some (.pointer t)=>match P.underlying T' with
       |some .unsafePointer=>match szE P t with
         |some (_+1)=>match cs with
           |_::_=>some (.ptr i 0)
           |[]=>none
         |_=>none
       |_=>none
     |some .unsafePointer=>match P.underlying T' with
       |some (.pointer u)=>match P.info? u with
         |some _=>bif liesAt P P.depth e (cs.length/P.cellsOf e) 0 u 1 then some (.ptr i 0) else none
         |none=>none
       |_=>none
     |_=>none
   |_=>none
 |_=>none
theorem y_up{a c:CV}(hr:HR β h nx L)(hx:VR β a (ev F x))(e:upE P h T T' a=some c):Yl P N F H L β (.convert T T' x) ty c:=by
 unfold upE at e
 split at e
 . rename_i i
   split at e
   . rename_i e0 cs hi
     have hx':=hx
     simp only[VR] at hx;obtain⟨q,hq,ex⟩:=hx
     obtain⟨q',vs,f1,f2,f3,f4,f5,f6,f7⟩:=hr.br i _ hi
     rw[hq] at f1;cases f1
     obtain⟨g1,g2⟩:=f5 Y
     rw[g1] at ex
     split at e
     . rename_i t hT
       split at e
       . rename_i hT'
         split at e
         . rename_i k hk
           split at e
           simp only[Option.some.injEq] at e;subst e
           obtain⟨j,hj⟩:∃ j,P.info? t=some j:=by
             unfold szE at hk;split at hk
             . rename_i j hj;exact⟨j,hj⟩
             . cases hk
           have hs:j.size≠0:=by unfold szE at hk;rw[hj] at hk;simp at hk;omega
           refine⟨_,hx',?_⟩
           rw[ex]
           exact Ey_ ex f2 (by simp[f3,g1,g2]) hT hT' hj hs
           . cases e
         . cases e
       . cases e
     . rename_i hT
       split at e
       . rename_i u hT'
         split at e
         . rename_i j hj
           cases hb:liesAt P P.depth e0 (cs.length/P.cellsOf e0) 0 u 1 with
           |false=>rw[hb] at e;cases e
           |true=>
             rw[hb] at e
             simp only[cond_true,Option.some.injEq] at e;subst e
             refine⟨_,hx',?_⟩
             rw[ex]
             exact C8_ ex f2 hT hT' hj (by rw[f3,g1,g2,BG];exact hb)
         . cases e
       . cases e
     . cases e
   . cases e
 . cases e
def usdE(a:CV):Option CV:=match a with
 | .nils=>some .nilp
 | .slu i o (_+1) _=>some (.ptr i o)
 | .sl i o _ (_+1)=>some (.ptr i o)
 |_=>none
theorem y_usd{a c:CV}{ats:Array TypeId}(hx:VR β a (ev F x))(e:usdE a=some c):Yl P N F H L β (.call ⟨.builtin .unsafeSliceData,#[x],ats⟩) ty c:=by
 unfold usdE at e
 split at e
 simp only[Option.some.injEq] at e;subst e;simp only[VR] at hx;refine⟨.pointer none,by simp only[VR],λd pos af g w _=>I_ (args:=#[.slice none 0 0]) xX λcs=>?_⟩;simp[builtin,Lib.run_unsafeSliceData_nil]
 . rename_i i o len k
   simp only[Option.some.injEq] at e;subst e
   simp only[VR] at hx;obtain⟨q,cc,aa,hq,_,hle,ex,ha⟩:=hx
   have :=ha xN;subst this
   refine⟨_,by simp only[VR];exact⟨q,hq,rfl⟩,λd pos af g w _=>I_ (args:=#[.slice (some ⟨q.b,q.s+o,none⟩) (len+1) cc]) (by simp[ex]) λcs=>?_⟩
   simp[builtin,E7 _ _ _ _ _ _ (show cc≠0 by omega)]
 . rename_i i o len cap
   simp only[Option.some.injEq] at e;subst e
   simp only[VR] at hx;obtain⟨q,hq,ex⟩:=hx
   refine⟨_,by simp only[VR];exact⟨q,hq,rfl⟩,λd pos af g w _=>I_ (args:=#[.slice (some ⟨q.b,q.s+o,none⟩) len (cap+1)]) (by simp[ex]) λcs=>?_⟩
   simp[builtin,E7 _ _ _ _ _ _ (show cap+1≠0 by omega)]
 . cases e
def usE{R:Type}(P:Program)(h:He)(nx:Nat)(T1:TypeId)(a b:CV)(k:Ke R):Option R:=match natE b with
 |some l=>match a with
   | .nilp=>match l with
     |0=>k (.str 0 0) h nx
     |_=>none
   | .ptr i o=>match l with
     |0=>none
     |_=>match h.get i with
       |some (.bys e m s gr)=>match P.underlying T1 with
         |some (.pointer e')=>bif A3 e e'&&(A3 (P.cellsOf e) 1&&(A6 (o+l) m&&A6 l 9223372036854775807)) then Tr.setK 40 h i .dead λh=>k (.str l (s/256 ^ o%256 ^ l)) h nx else none
         |_=>none
       |_=>none
   |_=>none
 |none=>none
theorem Pa_{e:TypeId}(hc:P.cellsOf e=1)(count o m:Nat)(hn:o+m<=count):liesAt P P.depth e count o e m=true:=by
 have hd:P.depth=(2*(P.types.size+Made.depth)+1)+1:=rfl;rw[hd];simp only[liesAt,Bool.or_eq_true];left;rw[hd];have h1:o%1=0:=Nat.mod_one o;simp[rowAt,hc,hn,sameLayout,h1]
theorem Px_{g o cells:Nat}{pt it ty e:TypeId}{w:World}(hp:P.underlying pt=some (.pointer e))(hc:P.cellsOf e=1)(hsh:w.shape? g=some (e,cells))(l:Bs)(h0:l≠[])(hn:o+l.length<=cells)(h63:l.length<=9223372036854775807)
   (hcell:∀ j x,l[j]? = some x->w.cell? ((⟨g,o,none⟩:Addr).add j)=some (.int .u8 x.toNat)) :
   (Builtin.unsafeString_ #[pt,it] ty #[.pointer (some ⟨g,o,none⟩), .int .i64 l.length]).run P w = .ok (.string ⟨l.toArray⟩) (w.freeze ⟨g,o,none⟩ l.length):=by
 have hl:l.length≠0:=by simpa using h0
 have hlb:=Lib.run_loadBytes (P:=P) w l ⟨g,o,none⟩ .empty hcell;have hlies:=Pa_ (P:=P) hc (cells/P.cellsOf e) o l.length (by rw[hc];simpa using hn);have h63':¬(9223372036854775807:Int)<(l.length:Int):=by omega
 obtain⟨m1,m2,m3,hdef⟩:∃ m1 m2 m3,CM #[pt,it] ty #[.pointer (some ⟨g,o,none⟩), .int .i64 l.length] =
     (do
       let n <- asInt (.int .i64 l.length)
       if n<0 then runtimePanic (.error m1)
       if n>IntKind.i64.max then unsupported (.unsafePointer m2)
       if n=0 then pure (.string .empty)
       else if <- variablesAt ⟨g,o,none⟩ (<- elemOf pt) n.toNat then do
         let s <- loadBytes ⟨g,o,none⟩ .empty n.toNat
         freeze ⟨g,o,none⟩ n.toNat
         pure (.string s)
       else unsupported (.unsafePointer m3)):=⟨_,_,_,rfl⟩
 rw[hdef];have hmax:IntKind.i64.max=9223372036854775807:=rfl;have hneg:¬(l.length:Int)<0:=by omega
 simp[asInt,asIntOf,hmax,h63',hneg,hl,variablesAt,hsh,elemOf,run_underlying hp,hlies,hlb]
theorem e_us{R:Type}{k:Ke R}{r:R}{a b:CV}{T1 T3:TypeId}{d:Nat}{pos:String}{af:Array Edge}(e:usE P h nx T1 a b k=some r):∃ c h' nx',k c h' nx'=some r/\∀ {β:Be} {L:Ls} {F:Fr},Nat.blt d n=true->HR β h nx L->VR β a (ev F x)->VR β b (ev F y)->Es P n N F H L β h nx ⟨some d, .call ⟨.builtin .unsafeString,#[x,y],#[T1,T3]⟩,ty,pos,af,none⟩ c h' nx':=by
 unfold usE at e
 split at e
 . rename_i l hl
   split at e
   . split at e
     refine⟨_,_,_,e,λ{β L F} hd hr hx hy ops K kk ac w ha hm=>?_⟩
     rw[if_pos xR]
     unfold AX
     simp only[VR] at hx
     obtain⟨k1,ey⟩:=B0_ hl hy
     have :(execOp ac.eval ⟨some d, .call ⟨.builtin .unsafeString,#[x,y],#[T1,T3]⟩,ty,pos,af,none⟩).run P w = .ok (.value (SW.str [])) w:=by
       rw[ha.eval]
       refine I_ (args:=#[.pointer none, .int k1 0]) (by simp[hx,ey]) λcs=>?_
       have :(CM #[T1,T3] ty #[.pointer none, .int k1 0]).run P w = .ok (.string .empty) w:=by
         exact Lib.run_unsafeString_none (P:=P) (w:=w) T1 T3 ty none
       simp[builtin,this,SW.str]
       rfl
     rw[this]
     exact⟨_,H,_,ha.put xU _,hm,kk β _ L ⟨by simp,rfl⟩ (.refl hr)⟩
     . cases e
   . rename_i i o
     split at e
     . cases e
     . rename_i hl0
       split at e
       . rename_i e0 m s gr hi
         split at e
         . rename_i e' hT
           cases hb:(A3 e0 e'&&(A3 (P.cellsOf e0) 1&&(A6 (o+l) m&&A6 l 9223372036854775807))) with
           |false=>rw[hb] at e;cases e
           |true=>
             rw[hb] at e
             simp only[A2] at hb
             obtain⟨b1,b2,b3,b4⟩:=hb
             have b1:=A0 b1;subst b1
             have b2:=A0 b2
             have b3:=A1 b3
             have b4:=A1 b4
             simp only[cond_true] at e
             obtain⟨h',e1,e2,e3⟩:=Tr.setK_ok _ _ _ _ _ _ e
             refine⟨_,h',_,e1,λ{β L F} hd hr hx hy ops K kk ac w ha hm=>?_⟩
             simp only[VR] at hx;obtain⟨q,hq,ex⟩:=hx
             obtain⟨k1,ey⟩:=B0_ hl hy
             obtain⟨q',vs,f1,f2,f3,f4,f5,f6,f7,f8⟩:=hr.br i _ hi
             rw[hq] at f1;cases f1
             have hlen:(dec l (s/256 ^ o%256 ^ l)).length=l:=C_ _ _
             have hsub:SW.sub vs (q.s+o) l=(dec l (s/256 ^ o%256 ^ l)).map u8v:=by
               rw[<- D3_ (m:=m) b3,f7,<- C2,<- C3,Bx_ o m s xN,Bj_ l (m-o) _ xN]
             have hbk:=hm.l i q.b _ f2
             rw[if_pos xR]
             unfold AX
             have hrun:=Px_ (P:=P) (w:=w) (it:=T3) (ty:=ty) (g:=q.b) (o:=q.s+o) hT b2 (cells:=vs.length) (by simp [World.shape?,hbk,bx]) (dec l (s/256 ^ o%256 ^ l)) (λe=>hl0 (by have :=congrArg EB e;rw [hlen] at this;simpa using this)) (by rw [hlen];omega) (by rw [hlen];exact b4) (λj c hj=>by
               rw[K_]
               refine hm.cellL f2 ?_
               have hjl:j<l:=by have :=(List.getElem?_eq_some_iff.1 hj).1;omega
               have h2:=congrArg (λr:List Value=>r[j]?) hsub
               simp only[SW.sub,AD,hjl,if_true,AS,AR,hj,AV] at h2
               exact h2)
             rw[hlen] at hrun
             have hk1:k1 = .i64\/True:= .inr Z
             have this :(execOp ac.eval ⟨some d, .call ⟨.builtin .unsafeString,#[x,y],#[T1,T3]⟩,ty,pos,af,none⟩).run P w = .ok (.value (SW.str (dec l (s/256 ^ o%256 ^ l)))) (w.freeze ⟨q.b,q.s+o,none⟩ l):=by
               rw[ha.eval]
               refine I_ (args:=#[.pointer (some ⟨q.b,q.s+o,none⟩), .int k1 l]) (by simp[ex,ey]) λcs=>?_
               have hr2:(CM #[T1,T3] ty #[.pointer (some ⟨q.b,q.s+o,none⟩), .int k1 l]).run P w = .ok (.string ⟨(dec l (s/256 ^ o%256 ^ l)).toArray⟩) (w.freeze ⟨q.b,q.s+o,none⟩ l):=hrun
               simp[builtin,hr2,SW.str]
             rw[this]
             have hln:l≠0:=hl0
             obtain⟨o',ho'⟩:∃ o',(w.freeze ⟨q.b,q.s+o,none⟩ l).heap[q.b]? = some o':=by
               simp[EQ,hln,BL,hbk,bx]
             have hset:=hm.set (w':=w.freeze ⟨q.b,q.s+o,none⟩ l) (o':=o') f2 wF wF wF ho' (λc' o hne hq=>by
               simp only[EQ,hln,if_false,BL]
               rw[if_neg (λq=>hne q.symm)];exact hq)
             have hcl:=hset.clear i
             have heq:lupd (lupd L i (some (q.b,o'))) i none=lupd L i none:=funext λj=>by
               by_cases q:j=i
               . subst q;rw[E_,E_]
               . rw[D_ _ _ _ _ q,D_ _ _ _ _ q,D_ _ _ _ _ q]
             rw[heq] at hcl
             exact⟨_,H,_,ha.put xU _,hcl,kk β _ _ ⟨Nat.mod_lt _ (BH xN),rfl⟩ (.set hr hi e2 e3 Y)⟩
         . cases e
       . cases e
   . cases e
 . cases e
def s2bE{R:Type}(P:Program)(h:He)(nx:Nat)(T T':TypeId)(a:CV)(k:Ke R):Option R:=match a with
 | .str m s=>match P.underlying T with
   |some .string=>match P.underlying T' with
     |some (.slice e)=>match P.underlying e with
       |some (.int .u8)=>Tr.setK 40 h nx (.rob e m s) λh=>k (.slu nx 0 m 1) h (nx+1)
       |_=>none
     |_=>none
   |_=>none
 |_=>none
def azE{R:Type}(P:Program)(h:He)(nx:Nat)(T T2:TypeId)(a b:CV)(k:Ke R):Option R:=match P.underlying T with
 |some (.slice e)=>match P.underlying T2 with
   |some (.int _)=>match szE P e with
     |some m=>match byE P e with
       |some by_=>match Fg_ P e with
         |some zs=>match natE b with
           |some l=>match a with
             | .nils=>match l with
               |0=>k .nils h nx
               |_=>bif AC 0 by_&&(A3 zs.length m&&(all1 zs&&(A6 (l*by_) 140737488355328&&!isB P e))) then Tr.setK 40 h nx (.cells e (repC zs l) true) λh=>k (.slu nx 0 l m) h (nx+1) else none
             |_=>none
           |none=>none
         |none=>none
       |none=>none
     |none=>none
   |_=>none
 |_=>none
theorem e_s2b{R:Type}{k:Ke R}{r:R}{a:CV}{d:Nat}{pos:String}{af:Array Edge}(e:s2bE P h nx T T' a k=some r):∃ c h' nx',k c h' nx'=some r/\∀ {β:Be} {L:Ls} {F:Fr},Nat.blt d n=true->HR β h nx L->VR β a (ev F x)->Es P n N F H L β h nx ⟨some d, .convert T T' x,ty,pos,af,none⟩ c h' nx':=by
 unfold s2bE at e
 split at e
 . rename_i m s
   split at e
   . rename_i hT
     split at e
     . rename_i e0 hT'
       split at e
       . rename_i hu
         obtain⟨h',e1,e2,e3⟩:=Tr.setK_ok _ _ _ _ _ _ e
         refine⟨_,h',_,e1,λ{β L F} hd hr hx ops K kk ac w ha hm=>?_⟩
         simp only[VR] at hx
         rw[if_pos xR]
         unfold AX
         have hs:=run_bytes_of_string (P:=P) w T T' e0 ⟨(dec m s).toArray⟩ hT hT' hu
         rw[Au_,C_] at hs
         obtain⟨q,hq⟩:∃ q,q=grownCap w m 0 e0:=⟨_,rfl⟩
         have hqm:m<=q:=by rw[hq];simp[grownCap,CY]
         rw[<- hq] at hs
         have h1:(execOp ac.eval ⟨some d, .convert T T' x,ty,pos,af,none⟩).run P w = .ok (.value (.slice (some ⟨w.heap.size,0,none⟩) m q)) {w.drew with heap:=w.heap.push (.cells (bytesRow ⟨(dec m s).toArray⟩ q) e0 ((bytesRow ⟨(dec m s).toArray⟩ q).size,(bytesRow ⟨(dec m s).toArray⟩ q).size+1))}:=by
           rw[ha.eval]
           simp[execOp,hx.2,SW.str,hs]
           rfl
         rw[h1]
         refine⟨_,H,_,ha.put xU _,(hm.drew (w.drawn+1)).push nx _,kk (bset β nx ⟨w.heap.size,0,q⟩) _ _ ?_ (.new hr e2 e3 ⟨_,_,_,J_,rfl,rfl,hx.1,?_⟩)⟩
         simp only[VR]
         exact⟨_,q,_,J_,by simp,hqm,rfl,λ_=>rfl⟩
         simp only[bytesRow,Array.toList_append,DU]
         rw[List.take_append_of_le_length (by simp[C_]),BZ (by simp[C_])]
         rfl
       . cases e
     . cases e
   . cases e
 . cases e
theorem Rk_(zs:List Value)(m:Nat):(Builtin.zeroCells zs.toArray m).toList=repV zs m:=by
 have :=congrArg Array.toList (Ke_ zs m);simpa [AI] using this
set_option maxHeartbeats 2000000 in
theorem run_az{l m by_:Nat}{e ats:TypeId}{k1 k2:IntKind}{zs:List Value}{w:World}(hT:P.underlying T=some (.slice e))(hT2:P.underlying T2=some (.int k2))(hk:Sz P e m)(hb:By P e by_)(h0:0<by_)(hz:Zr P e zs)(hzl:zs.length=m)(hl0:0<l)(hbd:l*by_<=140737488355328) :
   ∃ nc rest,l<=nc/\(repV zs l++rest).length=nc*m/\rest=repV zs (nc-l)/\(Builtin.append_ #[T,T2] ats #[.slice none 0 0, .int k1 (l:Int)]).run P w = .ok (.slice (some ⟨w.heap.size,0,none⟩) l nc) {w.drew with heap:=w.drew.heap.push (bx e (repV zs l++rest))}:=by
 obtain⟨inf,hinf,hbb⟩:=hb w;have hsz:l<=l*by_:=Nat.le_mul_of_pos_right _ h0;have hw:=H1_ (m:=l) xN;have hfit:=growslice_fits (need:=0+l) (old:=0) (bytes:=by_) xN (by simpa using hbd);have hfit':¬(281474976710656<Builtin.nextslicecap l 0*inf.bytes):=by rw[hbb];simp only[BG] at hfit;omega
 have hl:¬(281474976710656<(l:Int)*(inf.bytes:Int)):=by
   rw[hbb]
   have e1:((l:Int)*(by_:Int))=((l*by_:Nat):Int):=by simp
   rw[e1];omega
 have h63:¬(9223372036854775807<(l:Int)):=by omega
 have h1:¬((l:Int)<0):=by omega
 have hm00:¬l=0:=by omega
 have hmk:¬l<=0:=by omega
 obtain⟨nc,hnc⟩:∃ nc,nc=(AN l 0 e).cut (w.tape w.drawn (AN l 0 e)):=⟨_,rfl⟩;have hnge:l<=nc:=by rw[hnc];simp only[CY];omega
 obtain⟨z,hz1,hz2⟩:=hz w.drew;obtain⟨inf',hinf',_⟩:=hb w.drew;have hqf:(AN l 0 e).forced=false:=rfl;have hnil:(A8 m 0 (.slice none 0 0)).run P w.drew = .ok #[] w.drew:=by simp[A8]
 refine⟨nc,repV zs (nc-l),hnge,by rw[AH,Aq_,Aq_,hzl,<- AG];congr 1;omega,rfl,?_⟩;by_cases h:l*m=0;have hre:repV zs l=[]:=List.length_eq_zero_iff.1 (by rw[Aq_,hzl];exact h);simp[AM,run_underlying hT,run_underlying hT2,hk w,hw,hinf,hl,h63,h1,hm00,hmk,hfit',hqf,hinf',hnil,h,hz1,hz2,newRow,bx,<- hnc,Cf_,hre,<- Rk_];exact zL;simp[AM,run_underlying hT,run_underlying hT2,hk w,hw,hinf,hl,h63,h1,hm00,hmk,hfit',hqf,hinf',hnil,h,hz1,hz2,newRow,bx,<- hnc,Cf_,<- Rk_];exact zL
theorem e_az{R:Type}{k:Ke R}{r:R}{a b:CV}{d:Nat}{pos:String}{af:Array Edge}(e:azE P h nx T T2 a b k=some r):∃ c h' nx',k c h' nx'=some r/\∀ {β:Be} {L:Ls} {F:Fr},Nat.blt d n=true->HR β h nx L->VR β a (ev F x)->VR β b (ev F y)->Es P n N F H L β h nx ⟨some d, .call ⟨.builtin .append,#[x,y],#[T,T2]⟩,ty,pos,af,none⟩ c h' nx':=by
 unfold azE at e
 split at e
 . rename_i e0 hT
   split at e
   . rename_i k2 hT2
     split at e
     . rename_i m hm
       split at e
       . rename_i by_ hby
         split at e
         . rename_i zs hz
           split at e
           . rename_i l hl
             split at e
             . split at e
               refine⟨_,_,_,e,λ{β L F} hd hr hx hy ops K kk ac w ha hm2=>?_⟩
               rw[if_pos xR]
               unfold AX
               simp only[VR] at hx
               obtain⟨k1,ey⟩:=B0_ hl hy
               obtain⟨inf,hinf,_⟩:=Ja_ hby w
               have hw:AA .i64 0=0:=rfl
               have r1:∀ ats,(AM #[T,T2] ats #[.slice none 0 0, .int k1 (0:Int)]).run P w = .ok (.slice none 0 0) w:=λats=>by
                 simp[AM,run_underlying hT,run_underlying hT2,Af_ hm w,hw,hinf,Cf_]
               rw[ha.eval,Bl_ hx ey r1]
               exact⟨_,H,L,ha.put xU _,hm2,kk β _ L wE (.refl hr)⟩
               . rename_i hl0
                 cases hb:(AC 0 by_&&(A3 zs.length m&&(all1 zs&&(A6 (l*by_) 140737488355328&&!isB P e0)))) with
                 |false=>rw[hb] at e;cases e
                 |true=>
                   rw[hb] at e
                   simp only[A2] at hb
                   obtain⟨b1,b2,b3,b4,_⟩:=hb
                   simp only[cond_true] at e
                   obtain⟨h',e1,e2,e3⟩:=Tr.setK_ok _ _ _ _ _ _ e
                   refine⟨_,h',_,e1,λ{β L F} hd hr hx hy ops K kk ac w ha hm2=>?_⟩
                   rw[if_pos xR]
                   unfold AX
                   simp only[VR] at hx
                   obtain⟨k1,ey⟩:=B0_ hl hy
                   obtain⟨zv,z1,z2⟩:=Bb_ (β:=β) hz
                   have hzl:zv.cells.toList.length=m:=by rw[z2.length];exact A0 b2
                   obtain⟨nc,rest,n1,n2,n3,n4⟩:=run_az (P:=P) (k1:=k1) (w:=w) (ats:=0) hT hT2 (Af_ hm) (Ja_ hby) (Be_ b1) (zs:=zv.cells.toList) (λw=>⟨zv,z1 w,by simp⟩) hzl (DH hl0) (A1 b4)
                   have r1:∀ ats,(AM #[T,T2] ats #[.slice none 0 0, .int k1 (l:Int)]).run P w=_:=λats=>n4
                   rw[ha.eval,Bl_ hx ey r1]
                   have hR:=It_ z2 l
                   have hlr:=hR.length
                   have hone:=Bd_ z2 b3
                   have h1r:∀ m,∀ v∈repV zv.cells.toList m,v.oneCell'=true:=by
                     intro m
                     induction m with
                     |zero=>intro v hv;cases hv
                     |succ m ih=>intro v hv;rcases List.mem_append.1 hv with q|q;exact hone v q;exact ih v q
                   refine⟨_,H,_,ha.put xU _,(hm2.drew (w.drawn+1)).push nx _,kk (bset β nx ⟨w.heap.size,0,nc*m⟩) _ _ ?_ (.new hr e2 e3 ⟨_,repV zv.cells.toList l++rest,J_,rfl,by simpa using n2,?_,λg=>(by cases g),?_,λv hv=>?_⟩)⟩
                   . simp only[VR];exact⟨_,nc,_,J_,by simp,n1,rfl,λ_=>rfl⟩
                   . show (repC zs l).length<=nc*m
                     rw[<- hlr,<- n2,AH];omega
                   . simp only[BW]
                     rw[<- hlr,EG]
                     exact hR.mono (Ay_ (hr.fr nx (AY _)).1)
                   . rcases List.mem_append.1 hv with q|q
                     . exact h1r l v q
                     . rw[n3] at q;exact h1r _ v q
             . cases e
           . cases e
         . cases e
       . cases e
     . cases e
   . cases e
 . cases e
end
end Go.CE
