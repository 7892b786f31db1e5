/-
  A part of the proof of VaultAgain: What the examples of the chapters 15 to 17 and 25 ask. Plain.
-/
import Derived.Test.YtfojlhfchpkhlaaGreatDoorVaultAgainP6
import Derived.Test.YtfojlhfchpkhlaaGreatDoorVaultAgainP8
import Derived.Shelf.Strings.FieldsFuncAny
import Derived.Shelf.Pu.ParseUintPublic10
import Derived.Test.YtfojlhfchpkhlaaGreatDoorProg
import Derived.Shelf.Strings.Repeat
import Derived.Shelf.Strings.Split
set_option linter.unusedVariables false
set_option linter.unusedSimpArgs false
set_option maxRecDepth 100000
set_option maxHeartbeats 4000000
open BitVec renaming ofInt->AF
open Bool renaming eq_iff_iff->BE
open ByteArray renaming size->CV
open Go.IntKind renaming bits->AC,wrap->A0
open Go.Value renaming int->GZ
open Int renaming fdiv->GJ,le_refl->BX
open List renaming any_cons->EO,drop_of_length_le->A9,foldl_cons->BP,foldl_nil->EC,length_map->C8,mem_of_getElem?->A4
open Nat renaming zero_le->AT
open Go.Proofs.Tryz
namespace Go.SW.V
open Go.SW
theorem dkn_w{n:Int}{d:Bi_}(h:Em_ n=d):DwOk d:=by subst h;exact λy hy=>by cases hy
abbrev x25a:Bool×Int×Bi_×Ay_:=(true,0,d25a,(⟨s25a,g25a⟩:Ay_))
abbrev x25b:Aq_×Int×Ay_:=((H_ s25a d25n).2.1,0,(⟨s25b,g25b⟩:Ay_))
abbrev x25c:Int×Ay_:=(0,(⟨s25b,g25c⟩:Ay_))
abbrev x25f:Bool×Int×Bi_×Ay_:=(true,0,d25f,(⟨s25f,g25f⟩:Ay_))
theorem w25a:DwOk d25a:=λy hy=>by cases hy
theorem w25c:DwOk d25c:=λy hy=>by cases hy
theorem z1{r:Bi_}{r1:Bool×Int×Bi_×Ay_}(h:Em_ 80=r)(e:Dl_ p25 0 r 0=r1):r1=x25a:=by
 subst h;subst e;exact st1
theorem z2{r1:Bool×Int×Bi_×Ay_}{r2:Aq_×Int×Ay_}(h:r1=x25a)(e:Et_ (⟨r1.2.2.2.store,(⟨r1.2.2.1,r1.2.2.2.log.A4_,r1.2.2.2.log.gen,r1.2.2.2.log.ready,r1.2.2.2.log.broken,r1.2.2.2.log.done,r1.2.2.2.log.waits⟩:C5_)⟩:Ay_) d25n=r2):r2=x25b:=by
 subst h;subst e;exact st2
theorem z3{r2:Aq_×Int×Ay_}{r3:Int×Ay_}(h:r2=x25b)(e:Dn_ r2.2.2=r3):r3=x25c:=by
 subst h;subst e;exact st3
theorem z5{r3:Int×Ay_}{r4 r5:Bi_}(h:r3=x25c)(e:Cq_ r3.2.log.d 0=r4)(e2:G0_ r4=r5):r5=d25c:=by
 subst h;subst e;subst e2;exact st4
theorem z6{r5:Bi_}{r6:Bool×Int×Bi_×Ay_}(h:r5=d25c)(e:Dl_ p25 0 r5 0=r6):r6=x25f:=by
 subst h;subst e;exact st5
theorem z7{r6:Bool×Int×Bi_×Ay_}{r7:Ab_}(h:r6=x25f)(e:L_ (⟨r6.2.2.2.store,(⟨r6.2.2.1,r6.2.2.2.log.A4_,r6.2.2.2.log.gen,r6.2.2.2.log.ready,r6.2.2.2.log.broken,r6.2.2.2.log.done,r6.2.2.2.log.waits⟩:C5_)⟩:Ay_)=r7):r7=s25f.x:=by
 subst h;subst e;rfl
theorem n25:s25f.x.notes.kept.length<=1000:=by decide +kernel
theorem po25:PoOk p25:=Vc_ qY
theorem ok25a:StOk s25a/\StB s25a:=⟨M4_ po25 qF,newB _ _⟩
theorem dd25:DdG d25n/\0<=d25n.kind:=⟨⟨⟨by decide,by decide,by decide,by decide⟩,by decide,by decide,by decide,by decide,λ_ h=>by cases h⟩,by decide⟩
theorem d80{d:Bi_}(h:Em_ 80=d):d.lasts.length<=100000/\d.waits.length<=50000/\0<=d.D8_:=by
 subst h;refine⟨?_,AT _,BX _⟩;unfold Em_;simp only[List.length_replicate];omega
theorem v25a:d25a.waits.length<=50000/\0<=d25a.D8_/\d25a.lasts.length<=100000/\g25a.done.length<=400000/\g25a.waits.length<=400000/\(-1<=g25a.A4_/\g25a.A4_<=1):=by decide +kernel
theorem v25b:d25a.waits.length<=50000/\0<=d25a.D8_/\d25a.lasts.length<=100000/\g25b.done.length<=400000/\g25b.waits.length<=400000/\(-1<=g25b.A4_/\g25b.A4_<=1):=by decide +kernel
theorem v25c:d25c.lasts.length<=100000/\d25c.waits.length<=50000/\0<=d25c.D8_:=by decide +kernel
theorem q5{d:Bi_}(h:d=d25c):DwOk d/\d.lasts.length<=100000/\d.waits.length<=50000/\0<=d.D8_:=by subst h;exact⟨w25c,v25c⟩
theorem h25a:g25a.ready=true->0<=g25a.A4_:=λ_=>BX _
theorem h25b:g25b.ready=true->0<=g25b.A4_:=λ_=>BX _
def O9_(n:Int):Bs:=
 (List.replicate ((n).toNat) 0)
def Xb_:Bool:=
 lt (Em_ 2) λr=>
 lt (Ap_ r 1 [97,98]) λr1=>
 lt (Cq_ r1.2 1) λr2=>
 (bif decide (r1.1=0) then
 lt (Hf_ r2) λr3=>
 (bif !r3 then
 lt (Mw_ r2) λr4=>
 lt (O9_ 64) λr5=>
 lt (O9_ 63) λr6=>
 (decide (r4=((r5++[97])++r6)))
 else false)
 else false)
def Pz_:Bool:=
 (Xb_)
variable{P:Program}{N:Rest}{H0:Env}{fF:Nat->PV}{fL:Nat->Blk}{ty:Nat}{x y z:Operand}
theorem qpick{b:Bool}(hx:evP fF x = .bool b)(hy:evP fF y = .bool true)(hz:evP fF z = .bool false):Qy P N H0 ⟨fF,fL⟩ (.pick x y z) ty (.bool b):=λF H L ha=>
 ⟨_,Sim.bool,λ_ _ _=>Xu_ (ha.ev hx).sim.inv_bool (by rw[(ha.ev hy).sim.inv_bool,(ha.ev hz).sim.inv_bool];cases b<;>rfl)⟩
def seg_Size(record:Bs):Int:=
 ((record.length:Int)+9)
def Xc_:Bool:=
 lt (Ik_ ((B3_ [[97,98]]).1)) λr=>
 ((((((((decide (((B3_ [[97,98]]).2)=0))&&(decide ((((B3_ [[97,98]]).1).length:Int)=11)))&&(decide ((((B3_ [[97,98]]).1).take 6)=[0,0,0,2,97,98])))&&(decide (((((B3_ [[97,98]]).1).getD 10 0).toNat:Int)=165)))&&(decide (r.1=[97,98])))&&(decide (r.2.1=11)))&&(decide (r.2.2=0)))&&(decide ((seg_Size [97,98])=11)))
def P0_:Bool:=
 (Xc_)
def Xe_:Bool:=
 lt (Em_ 12) λr=>
 lt (H0_ r) λr1=>
 (bif (((((Pz_)&&(P0_))&&(decide (r1.2.2.2.1=0)))&&(decide (r1.2.1=[])))&&(decide ((r1.2.2.1.length:Int)=0))) then
 lt (He_ (⟨r1.2.2.2.2.1,r1.2.2.2.2.2.A4_,r1.2.2.2.2.2.gen,r1.2.2.2.2.2.ready,r1.2.2.2.2.2.broken,r1.2.2.2.2.2.done,r1.2.2.2.2.2.waits⟩:C5_)) λr2=>
 (bif !r2 then
 lt (Eg_ (⟨r1.2.2.2.2.1,r1.2.2.2.2.2.A4_,r1.2.2.2.2.2.gen,r1.2.2.2.2.2.ready,r1.2.2.2.2.2.broken,r1.2.2.2.2.2.done,r1.2.2.2.2.2.waits⟩:C5_) [97,98]) λr3=>
 (bif decide (r3.1=0) then
 lt (He_ r3.2) λr4=>
 (bif r4 then
 lt (Hz_ r3.2) λr5=>
 (bif decide (r5=309) then
 lt (Sm_ r3.2) λr6=>
 (decide (r6=1))
 else false)
 else false)
 else false)
 else false)
 else false)
def Xd_:Bool:=
 (Xe_)
def Td_:Bool:=
 lt (Em_ 80) λr=>
 lt (Dl_ aW 0 r 0) λr1=>
 lt (Et_ (⟨r1.2.2.2.store,(⟨r1.2.2.1,r1.2.2.2.log.A4_,r1.2.2.2.log.gen,r1.2.2.2.log.ready,r1.2.2.2.log.broken,r1.2.2.2.log.done,r1.2.2.2.log.waits⟩:C5_)⟩:Ay_) bO) λr2=>
 lt (Dn_ r2.2.2) λr3=>
 lt (Cq_ r3.2.log.d 0) λr4=>
 lt (G0_ r4) λr5=>
 lt (Dl_ aW 0 r5 0) λr6=>
 lt (L_ (⟨r6.2.2.2.store,(⟨r6.2.2.1,r6.2.2.2.log.A4_,r6.2.2.2.log.gen,r6.2.2.2.log.ready,r6.2.2.2.log.broken,r6.2.2.2.log.done,r6.2.2.2.log.waits⟩:C5_)⟩:Ay_)) λr7=>
 lt (M7_ r7.notes) λr8=>
 (((((((((Xd_)&&(Xm_))&&(decide (r1.2.1=0)))&&(decide (r2.2.1=0)))&&(decide (r3.1=0)))&&(decide (r6.2.1=0)))&&(decide ((r8.length:Int)=2)))&&(decide (((gt r8 0).kind)=9)))&&(decide (((gt r8 1).kind)=3)))
theorem awake25:Td_=true:=by
 unfold Td_;generalize hr:Em_ 80=r;rw[lt];generalize h1:Dl_ p25 0 r 0=r1;have e1:=z1 hr h1;rw[lt];generalize h2:Et_ (⟨r1.2.2.2.store,(⟨r1.2.2.1,r1.2.2.2.log.A4_,r1.2.2.2.log.gen,r1.2.2.2.log.ready,r1.2.2.2.log.broken,r1.2.2.2.log.done,r1.2.2.2.log.waits⟩:C5_)⟩:Ay_) d25n=r2;have e2:=z2 e1 h2;rw[lt];generalize h3:Dn_ r2.2.2=r3;have e3:=z3 e2 h3;rw[lt];generalize h4:Cq_ r3.2.log.d 0=r4;rw[lt];generalize h5:G0_ r4=r5;have e5:=z5 e3 h4 h5;rw[lt];generalize h6:Dl_ p25 0 r5 0=r6;have e6:=z6 e5 h6;rw[lt];generalize h7:L_ (⟨r6.2.2.2.store,(⟨r6.2.2.1,r6.2.2.2.log.A4_,r6.2.2.2.log.gen,r6.2.2.2.log.ready,r6.2.2.2.log.broken,r6.2.2.2.log.done,r6.2.2.2.log.waits⟩:C5_)⟩:Ay_)=r7;have e7:=z7 e6 h7;rw[lt,lt,e1,e2,e3,e6,e7];decide +kernel
def Eo_(p:F_)(tick:Int)(cut:Int)(r:Int):List G_->Ay_->Bool
 |[],vt=>lt (Dn_ vt) λr4=>
 (bif !decide (r4.1=0) then
 false
 else lt (Aw_ p r (L_ r4.2)) λr5=>
 lt (H_ r5 (Y2_ tick)) λr6=>
 lt (Cq_ r4.2.log.d cut) λr7=>
 lt (G0_ r7) λr8=>
 lt (Dl_ p r r8 tick) λr9=>
 (bif r9.1 then
 ((decide (r9.2.1=17))||((decide (r9.2.1=0))&&(Ot_ (L_ (⟨r9.2.2.2.store,(⟨r9.2.2.1,r9.2.2.2.log.A4_,r9.2.2.2.log.gen,r9.2.2.2.log.ready,r9.2.2.2.log.broken,r9.2.2.2.log.done,r9.2.2.2.log.waits⟩:C5_)⟩:Ay_)) (S_ (r6.1)))))
 else ((decide (r9.2.1=17))||((decide (r9.2.1=0))&&false))))
 |x::t,vt=>lt (Et_ vt x) λr3=>
 Eo_ p tick cut r t r3.2.2
def Ln_(p:F_)(place:Int)(l:List G_)(tick:Int)(cut:Int):Bool:=
 (bif ((!(N4_ p))||(!(Of_ l))) then
 true
 else lt (l23_At p place) λr=>
 lt (Em_ 120) λr1=>
 lt (Dl_ p r r1 0) λr2=>
 (bif r2.1 then
 Eo_ p tick cut r l (⟨r2.2.2.2.store,(⟨r2.2.2.1,r2.2.2.2.log.A4_,r2.2.2.2.log.gen,r2.2.2.2.log.ready,r2.2.2.2.log.broken,r2.2.2.2.log.done,r2.2.2.2.log.waits⟩:C5_)⟩:Ay_)
 else false))
variable{P:Program}{n:Nat}{N:Rest}{H0:Env}{fF:Nat->PV}{fL:Nat->Blk}
end Go.SW.V
namespace Go.Proofs
open Go.Shelf
def Tryz.lays229_ren:Go.Shelf.Ren:=⟨λ|229=>319|n=>n,λ|9=>9|40=>385|31=>106|152=>398|3=>3|0=>0|4=>4|21=>21|154=>400|n=>n,λ|n=>n⟩
theorem Tryz.lays229:Go.Proofs.Lays.n229 prog Tryz.lays229_ren:={
 mixed:=by kernel_rfl
 f229:=func319.trans (congrArg some qE)
 t0:=underlying0
 a0:=isAgg0
 z0:=sizeOf0
 v0:=zeroValue0
 t3:=underlying3
 a3:=isAgg3
 z3:=sizeOf3
 v3:=zeroValue3
 t4:=underlying4
 a4:=isAgg4
 z4:=sizeOf4
 v4:=zeroValue4
 t9:=underlying9
 a9:=isAgg9
 z9:=sizeOf9
 v9:=zeroValue9
 t21:=underlying21
 a21:=isAgg21
 z21:=sizeOf21
 v21:=zeroValue21
 t31:=underlying106
 a31:=isAgg106
 z31:=sizeOf106
 v31:=zeroValue106
 t40:=underlying385
 a40:=isAgg385
 z40:=sizeOf385
 v40:=zeroValue385
 t152:=underlying398
 a152:=isAgg398
 z152:=sizeOf398
 v152:=zeroValue398
 t154:=underlying400
 a154:=isAgg400
 z154:=sizeOf400
 v154:=zeroValue400}
open Go.RowKit Go.Lib in
theorem Tryz.strings_FieldsFunc(g:Nat)(lb:Array Value)(eg:∀ args w,(callFunc g args).run prog w = .ok (.enter g args) w)(p:Nat->Bool)(s:ByteArray)(w:World)(hs:s.size<=4294967296)(hp:PredAt prog g lb encR p w) :
   Calls prog 319 #[.string s, .func (.func g) #[] lb] w λe w'=>∃ A,e = .returned (.slice (some ⟨A,0,none⟩) (Lib.goFieldsP p s).length (Lib.goFieldsP p s).length)/\w.heap.size<=A /\
     w'.ownsRow w.heap.size 9 1 (.slice (some ⟨A,0,none⟩) (Lib.goFieldsP p s).length (Lib.goFieldsP p s).length) (Lib.goFieldsP p s).length ((Lib.goFieldsP p s).map Value.string)/\Below w.heap.size w w':=Any.strings_FieldsFunc Tryz.lays229 g lb eg p s w hs hp qE qE
def Tryz.laysPu14_ren:Go.Shelf.Ren:=⟨λ|14=>352|16=>360|17=>361|19=>362|20=>363|21=>364|22=>365|23=>366|24=>367|25=>368|27=>370|26=>369|28=>371|29=>372|30=>373|31=>374|32=>375|33=>376|35=>378|34=>377|36=>379|37=>380|38=>381|39=>382|40=>383|n=>n,λ|9=>9|3=>3|22=>38|24=>212|25=>410|4=>4|34=>421|5=>5|36=>311|37=>116|0=>0|39=>423|21=>21|44=>427|47=>303|50=>431|48=>429|2=>2|52=>433|55=>435|59=>438|60=>90|20=>20|61=>439|65=>442|66=>309|67=>166|n=>n,λ|0=>4|1=>5|2=>6|3=>7|4=>8|n=>n⟩
theorem Tryz.laysPu14:Go.Proofs.LaysPu.n14 prog Tryz.laysPu14_ren:={
 mixed:=by kernel_rfl
 f14:=func352.trans (congrArg some qE)
 f16:=func360.trans (congrArg some qE)
 f17:=func361.trans (congrArg some qE)
 f19:=func362.trans (congrArg some qE)
 f20:=func363.trans (congrArg some qE)
 f21:=func364.trans (congrArg some qE)
 f22:=func365.trans (congrArg some qE)
 f23:=func366.trans (congrArg some qE)
 f24:=func367.trans (congrArg some qE)
 f25:=func368.trans (congrArg some qE)
 f26:=func369.trans (congrArg some qE)
 f27:=func370.trans (congrArg some qE)
 f28:=func371.trans (congrArg some qE)
 f29:=func372.trans (congrArg some qE)
 f30:=func373.trans (congrArg some qE)
 f31:=func374.trans (congrArg some qE)
 f32:=func375.trans (congrArg some qE)
 f33:=func376.trans (congrArg some qE)
 f34:=func377.trans (congrArg some qE)
 f35:=func378.trans (congrArg some qE)
 f36:=func379.trans (congrArg some qE)
 f37:=func380.trans (congrArg some qE)
 f38:=func381.trans (congrArg some qE)
 f39:=func382.trans (congrArg some qE)
 f40:=func383.trans (congrArg some qE)
 t0:=underlying0
 a0:=isAgg0
 z0:=sizeOf0
 v0:=zeroValue0
 i0:=by kernel_rfl
 t2:=underlying2
 a2:=isAgg2
 z2:=sizeOf2
 v2:=zeroValue2
 i2:=by kernel_rfl
 t3:=underlying3
 a3:=isAgg3
 z3:=sizeOf3
 v3:=zeroValue3
 i3:=by kernel_rfl
 t4:=underlying4
 a4:=isAgg4
 z4:=sizeOf4
 v4:=zeroValue4
 i4:=by kernel_rfl
 t5:=underlying5
 a5:=isAgg5
 z5:=sizeOf5
 v5:=zeroValue5
 i5:=by kernel_rfl
 t9:=underlying9
 a9:=isAgg9
 z9:=sizeOf9
 v9:=zeroValue9
 i9:=by kernel_rfl
 t20:=underlying20
 a20:=isAgg20
 z20:=sizeOf20
 v20:=zeroValue20
 i20:=by kernel_rfl
 t21:=underlying21
 a21:=isAgg21
 z21:=sizeOf21
 v21:=zeroValue21
 i21:=by kernel_rfl
 t22:=underlying38
 a22:=isAgg38
 z22:=sizeOf38
 v22:=zeroValue38
 i22:=by kernel_rfl
 t24:=underlying212
 a24:=isAgg212
 z24:=sizeOf212
 v24:=zeroValue212
 i24:=by kernel_rfl
 t25:=underlying410
 a25:=isAgg410
 z25:=sizeOf410
 v25:=zeroValue410
 i25:=by kernel_rfl
 t34:=underlying421
 a34:=isAgg421
 z34:=sizeOf421
 v34:=zeroValue421
 i34:=by kernel_rfl
 c34:=by kernel_rfl
 t36:=underlying311
 a36:=isAgg311
 z36:=sizeOf311
 v36:=zeroValue311
 i36:=by kernel_rfl
 t37:=underlying116
 a37:=isAgg116
 z37:=sizeOf116
 v37:=zeroValue116
 i37:=by kernel_rfl
 t39:=underlying423
 a39:=isAgg423
 z39:=sizeOf423
 v39:=zeroValue423
 i39:=by kernel_rfl
 t44:=underlying427
 a44:=isAgg427
 z44:=sizeOf427
 v44:=zeroValue427
 i44:=by kernel_rfl
 t47:=underlying303
 a47:=isAgg303
 z47:=sizeOf303
 v47:=zeroValue303
 i47:=by kernel_rfl
 t48:=underlying429
 a48:=isAgg429
 z48:=sizeOf429
 v48:=zeroValue429
 i48:=by kernel_rfl
 t50:=underlying431
 a50:=isAgg431
 z50:=sizeOf431
 v50:=zeroValue431
 i50:=by kernel_rfl
 t52:=underlying433
 a52:=isAgg433
 z52:=sizeOf433
 v52:=zeroValue433
 i52:=by kernel_rfl
 t55:=underlying435
 a55:=isAgg435
 z55:=sizeOf435
 v55:=zeroValue435
 i55:=by kernel_rfl
 t59:=underlying438
 a59:=isAgg438
 z59:=sizeOf438
 v59:=zeroValue438
 i59:=by kernel_rfl
 t60:=underlying90
 a60:=isAgg90
 z60:=sizeOf90
 v60:=zeroValue90
 i60:=by kernel_rfl
 t61:=underlying439
 a61:=isAgg439
 z61:=sizeOf439
 t65:=underlying442
 a65:=isAgg442
 z65:=sizeOf442
 v65:=zeroValue442
 i65:=by kernel_rfl
 t66:=underlying309
 a66:=isAgg309
 z66:=sizeOf309
 v66:=zeroValue309
 i66:=by kernel_rfl
 t67:=underlying166
 a67:=isAgg166
 z67:=sizeOf166
 v67:=zeroValue166
 i67:=by kernel_rfl
 g0:=by kernel_rfl
 m0:=by kernel_rfl
 g1:=by kernel_rfl
 m1:=by kernel_rfl
 g2:=by kernel_rfl
 m2:=by kernel_rfl
 g3:=by kernel_rfl
 m3:=by kernel_rfl
 g4:=by kernel_rfl
 m4:=by kernel_rfl}
open Go.RowKit Go.Lib in
theorem Tryz.strconv_ParseUint_10_at64_ok(s:ByteArray)(hmax:s.size<=9223372036854775806)(u:Nat)(h:Lib.parseUintB 64 s.data.toList = .ok u)(w:World) :
   Calls prog 352 #[.string s, .int .i64 10, .int .i64 64] w λe w'=>e = .returned (.tuple #[.int .u64 u, .nilIface])/\(w'=w\/w'=Lib.bytesWorld w 5 s):=Any.strconv_ParseUint_10_at64_ok Tryz.laysPu14 s hmax u h w
open Go.RowKit Go.Lib in
theorem Tryz.isBlank(w:World):PredAt prog 320 #[] encR (λr=>decide ((r:Int)=32)) w:=λW r _=>by
 unfold FnGives
 go_enter func320,ntmps320
 go_wp2
 go_ret
 exact⟨rfl,0,rfl⟩
end Go.Proofs
namespace Go.SW
open Go.Proofs Go.RowKit
theorem strings_Flds(H:Hp)(s:Bs)(hs:s.length<=65536):Ph prog 319 #[str s, .func (.func 320) #[] #[]] H (λv H'=>∃ (a:Option Addr) (c:Nat),v = .slice a (flds s).length c/\SlH strE 1 H' (.slice a (flds s).length c) (flds s)):=by
 refine ph_rowB (T:=9) (flds_str s) (λw hw=>by have :=flds_piece s w hw;omega) λN L w hm=>?_;have :=Tryz.strings_FieldsFunc 320 #[] (enters_of func320 qE Z) _ ⟨s.toArray⟩ w (by simp[CV];omega) (Tryz.isBlank w);refine this.mono λe w' ⟨A,h1,h2,h3,h4⟩=>⟨A,?_,h2,?_,h4⟩;rw[h1,C8];rw[C8];exact h3
theorem strconv_PU(s:Bs)(hl:s.length<=19)(h0:0<s.length)(hd:I4_ s=true)(w:World):Calls prog 352 #[str s, .int .i64 10, .int .i64 64] w λe w'=>e = .returned (.tuple #[.int .u64 (dec s:Int), .nilIface])/\Below w.heap.size w w':=by
 refine (Tryz.strconv_ParseUint_10_at64_ok ⟨s.toArray⟩ (by simp[CV];omega) (dec s) (dec_ok hl h0 hd).1 w).mono λe w' ⟨he,hw⟩=>⟨he,?_⟩
 rcases hw with rfl|rfl
 exact Below.refl _ _;exact Go.Joins.below_bytesWorld _ _ _ _ (Nat.le_refl _)
end Go.SW
namespace Go.Proofs
open Go.Shelf
def Tryz.lays105_ren:Go.Shelf.Ren:=⟨λ|105=>147|212=>219|99=>220|165=>221|166=>114|170=>222|169=>115|263=>268|264=>269|206=>270|240=>200|241=>271|276=>255|277=>290|n=>n,λ|9=>9|3=>3|4=>4|20=>20|0=>0|46=>311|109=>319|5=>5|72=>210|76=>215|51=>90|146=>356|53=>38|148=>358|70=>208|37=>116|75=>212|127=>303|164=>351|80=>166|n=>n,λ|n=>n⟩
theorem Tryz.lays105:Go.Proofs.Lays.n105 prog Tryz.lays105_ren:={
 mixed:=by kernel_rfl
 f99:=func220.trans (congrArg some qE)
 f105:=func147.trans (congrArg some qE)
 f165:=func221.trans (congrArg some qE)
 f166:=func114.trans (congrArg some qE)
 f169:=func115.trans (congrArg some qE)
 f170:=func222.trans (congrArg some qE)
 f206:=func270.trans (congrArg some qE)
 f212:=func219.trans (congrArg some qE)
 f240:=func200.trans (congrArg some qE)
 f241:=func271.trans (congrArg some qE)
 f263:=func268.trans (congrArg some qE)
 f264:=func269.trans (congrArg some qE)
 f276:=func255.trans (congrArg some qE)
 f277:=func290.trans (congrArg some qE)
 t0:=underlying0
 a0:=isAgg0
 z0:=sizeOf0
 v0:=zeroValue0
 t3:=underlying3
 a3:=isAgg3
 z3:=sizeOf3
 v3:=zeroValue3
 t4:=underlying4
 a4:=isAgg4
 z4:=sizeOf4
 v4:=zeroValue4
 t5:=underlying5
 a5:=isAgg5
 z5:=sizeOf5
 v5:=zeroValue5
 t9:=underlying9
 a9:=isAgg9
 z9:=sizeOf9
 v9:=zeroValue9
 t20:=underlying20
 a20:=isAgg20
 z20:=sizeOf20
 v20:=zeroValue20
 t37:=underlying116
 a37:=isAgg116
 z37:=sizeOf116
 v37:=zeroValue116
 t46:=underlying311
 a46:=isAgg311
 z46:=sizeOf311
 v46:=zeroValue311
 t51:=underlying90
 a51:=isAgg90
 z51:=sizeOf90
 v51:=zeroValue90
 t53:=underlying38
 a53:=isAgg38
 z53:=sizeOf38
 v53:=zeroValue38
 t70:=underlying208
 a70:=isAgg208
 z70:=sizeOf208
 v70:=zeroValue208
 t72:=underlying210
 a72:=isAgg210
 z72:=sizeOf210
 v72:=zeroValue210
 t75:=underlying212
 a75:=isAgg212
 z75:=sizeOf212
 v75:=zeroValue212
 t76:=underlying215
 a76:=isAgg215
 z76:=sizeOf215
 v76:=zeroValue215
 t109:=underlying319
 a109:=isAgg319
 z109:=sizeOf319
 v109:=zeroValue319
 t127:=underlying303
 a127:=isAgg303
 z127:=sizeOf303
 v127:=zeroValue303
 t146:=underlying356
 a146:=isAgg356
 z146:=sizeOf356
 v146:=zeroValue356
 t148:=underlying358
 a148:=isAgg358
 z148:=sizeOf358
 v148:=zeroValue358
 t164:=underlying351
 a164:=isAgg351
 z164:=sizeOf351
 v164:=zeroValue351}
theorem Tryz.Builder_Extra_105:Builder.Extra prog Tryz.lays105_ren:={
 sizeBuilder:=by kernel_rfl
 liesBuilder:=by kernel_rfl
 t5:=underlying5
 a5:=isAgg5
 z5:=sizeOf5
 v5:=zeroValue5
 infoByte:=by kernel_rfl
 cellsByte:=by kernel_rfl
 sizeByte:=by kernel_rfl
 neB5:=by decide}
open Go.RowKit Go.Lib in
theorem Tryz.strings_Repeat(s:ByteArray)(c:Nat)(w:World)(hc:c<=9223372036854775807)(hlen:s.size*c<=140737488355328) :
   Calls prog 147 #[.string s, .int .i64 c] w λe w'=>e = .returned (.string ⟨(Lib.repeatL s.data.toList c).toArray⟩)/\Below w.heap.size w w':=Any.strings_Repeat Tryz.lays105 Tryz.Builder_Extra_105 s c w hc hlen
end Go.Proofs
namespace Go.SW
open Go.Proofs
theorem strings_Rpt(s:Bs)(c:Nat)(N:Rest)(H:Hp)(L:Ls)(w:World)(h:s.length*c<=140737488355328)(hc:c<=9223372036854775807)(hm:Mem N H L w):Calls prog 147 #[str s, .int .i64 (c:Int)] w λen w'=>en = .returned (str (Lib.repeatL s c))/\Mem N H L w':=by
 refine (Tryz.strings_Repeat ⟨s.toArray⟩ c w hc (by simpa [CV] using h)).mono λe w' ⟨he,hb⟩=>⟨he,?_⟩;refine hm.of_same hb.os hb.tape hb.output λc o ho=>?_;exact tF
end Go.SW
namespace Go.Proofs
open Go.Shelf
def Tryz.lays146_ren:Go.Shelf.Ren:=⟨λ|146=>291|221=>305|268=>316|138=>317|143=>318|195=>335|197=>336|218=>337|219=>338|260=>347|217=>348|225=>349|224=>350|267=>351|266=>358|314=>359|n=>n,λ|9=>9|31=>106|3=>3|4=>4|0=>0|105=>395|21=>21|5=>5|46=>311|119=>415|139=>418|138=>417|146=>356|51=>90|n=>n,λ|1=>1|3=>2|4=>3|n=>n⟩
theorem Tryz.lays146:Go.Proofs.Lays.n146 prog Tryz.lays146_ren:={
 mixed:=by kernel_rfl
 f138:=func317.trans (congrArg some qE)
 f143:=func318.trans (congrArg some qE)
 f146:=func291.trans (congrArg some qE)
 f195:=func335.trans (congrArg some qE)
 f197:=func336.trans (congrArg some qE)
 f217:=func348.trans (congrArg some qE)
 f218:=func337.trans (congrArg some qE)
 f219:=func338.trans (congrArg some qE)
 f221:=func305.trans (congrArg some qE)
 f224:=func350.trans (congrArg some qE)
 f225:=func349.trans (congrArg some qE)
 f260:=func347.trans (congrArg some qE)
 f266:=func358.trans (congrArg some qE)
 f267:=func351.trans (congrArg some qE)
 f268:=func316.trans (congrArg some qE)
 f314:=func359.trans (congrArg some qE)
 t0:=underlying0
 a0:=isAgg0
 z0:=sizeOf0
 v0:=zeroValue0
 t3:=underlying3
 a3:=isAgg3
 z3:=sizeOf3
 v3:=zeroValue3
 t4:=underlying4
 a4:=isAgg4
 z4:=sizeOf4
 v4:=zeroValue4
 t5:=underlying5
 a5:=isAgg5
 z5:=sizeOf5
 v5:=zeroValue5
 t9:=underlying9
 a9:=isAgg9
 z9:=sizeOf9
 v9:=zeroValue9
 t21:=underlying21
 a21:=isAgg21
 z21:=sizeOf21
 v21:=zeroValue21
 t31:=underlying106
 a31:=isAgg106
 z31:=sizeOf106
 v31:=zeroValue106
 t46:=underlying311
 a46:=isAgg311
 z46:=sizeOf311
 v46:=zeroValue311
 t51:=underlying90
 a51:=isAgg90
 z51:=sizeOf90
 v51:=zeroValue90
 t105:=underlying395
 a105:=isAgg395
 z105:=sizeOf395
 v105:=zeroValue395
 t119:=underlying415
 a119:=isAgg415
 z119:=sizeOf415
 t138:=underlying417
 a138:=isAgg417
 z138:=sizeOf417
 v138:=zeroValue417
 t139:=underlying418
 a139:=isAgg418
 z139:=sizeOf418
 v139:=zeroValue418
 t146:=underlying356
 a146:=isAgg356
 z146:=sizeOf356
 v146:=zeroValue356
 g1:=by kernel_rfl
 g3:=by kernel_rfl
 g4:=by kernel_rfl}
open Go.RowKit Go.Lib in
theorem Tryz.strings_Split(s sep:ByteArray)(m:Int)(w:World)(hs:s.size<4294967281)(hm:w.cell? ⟨1,0,none⟩=some (.int .i64 m))(h1:1<=sep.size) :
   Calls prog 291 #[.string s, .string sep] w λe w'=>
     e = .returned (.slice (some ⟨w.heap.size,0,none⟩) (Lib.countB s sep+1) (Lib.countB s sep+1))/\w'=w.alloc (.cells ((Lib.splitB sep 0 (Lib.countB s sep) s).map Value.string).toArray 9):=Any.strings_Split Tryz.lays146 qE s sep m w hs hm h1
end Go.Proofs
namespace Go.SW
open Go.Proofs
theorem strings_Split(H:Hp)(s p:Bs)(hp:p=[46])(hML:GInt H 1)(hs:s.length<4294967281):Ph prog 291 #[str s,str p] H (λv H'=>∃ (a:Option Addr) (c:Nat),v = .slice a (dots s).length c/\SlH strE 1 H' (.slice a (dots s).length c) (dots s)):=by
 subst hp;refine ph_strs (T:=9) (λw hw=>by have :=Ui_ s w hw;omega) λN L w hm=>have⟨m,hc⟩:=hML.cell hm;(Tryz.strings_Split ⟨s.toArray⟩ ⟨#[46]⟩ m w (by simpa [Ko_] using hs) hc qF).mono λe w' ⟨he,hw⟩=>⟨?_,?_⟩;rw[he,splitB_len];rw[hw,Yp_]
theorem strings_SplitL(H:Hp)(s p:Bs)(hp:p=[10])(hML:GInt H 1)(hs:s.length<4294967281):Ph prog 291 #[str s,str p] H (λv H'=>∃ (a:Option Addr) (c:Nat),v = .slice a (cuts 10 s).length c/\SlH strE 1 H' (.slice a (cuts 10 s).length c) (cuts 10 s)):=by
 subst hp;refine ph_strs (T:=9) (λw hw=>by have :=Uf_ 10 s w hw;omega) λN L w hm=>have⟨m,hc⟩:=hML.cell hm;(Tryz.strings_Split ⟨s.toArray⟩ ⟨#[10]⟩ m w (by simpa [Ko_] using hs) hc qF).mono λe w' ⟨he,hw⟩=>⟨?_,?_⟩;rw[he,splitB_clen];rw[hw,Yo_]
theorem ag208:Ag prog 208 false:=λw=>by kernel_rfl
theorem ag9:Ag prog 9 false:=λw=>by kernel_rfl
theorem cb200:Aa_ prog 200:=P_ func200
theorem Rr_:Fld prog 210 0 0:=λb o w=>by kernel_rfl
theorem Xo_:liesAt prog prog.depth 210 (2/prog.cellsOf 210) 0 210 1=true:=by kernel_rfl
theorem ne255:NoEsc prog 255:=noEsc_of func255 qE qE qE qE
theorem sz208:Sz prog 208 1:=λw=>by kernel_rfl
theorem sz9:Sz prog 9 1:=λw=>by kernel_rfl
theorem ti210:∃ j,prog.info? 210=some j:=Option.isSome_iff_exists.1 qE
theorem tz210:∃ j,prog.info? 210=some j/\j.size≠0:=exInfo qE
set_option maxRecDepth 100000 in
theorem copyCheck{n:Nat}{N:Rest}{F:Fr}{H:Hp}{L:Ls}{ops:List Oper}{ty d:Nat}{pos:String}{af:Array Edge}{K:Fr->Hp->Ls->Prop}{x:Operand}{ats:Array TypeId}{b:Nat}{p v:Value}(i:Nat)(hx:ev F x = .pointer (some ⟨b,0,none⟩))(hi:L i=some (b,bx 210 [p,v]))
   (hp:p = .pointer none\/p = .pointer (some ⟨b,0,none⟩)) (hd:Nat.blt d n=true) (k:K (upd F d (.tuple #[])) H (lupd L i (some (b,bx 210 [.pointer (some ⟨b,0,none⟩),v])))):Op1 prog n N ops ⟨some d, .call ⟨.value (.func 200),#[x],ats⟩,ty,pos,af,none⟩ K F H L:=by
 refine op1_in (en_f (vs:=[.pointer (some ⟨b,0,none⟩)]) cb200 (by simp[evs,hx])) func200 rfl ntmps200 rfl hd (Ki_ (F6_ (ol (hd:=rfl) (Iu_ (v:= .pointer (some ⟨_,_,none⟩)) rfl) (ol (hd:=rfl) (Gq_ rfl) (ol (hd:=rfl) (E3_ rfl Rr_)<|ol (Kv_ (i:=i) (v:=p) Z ag208 hi Z) ?_)))))
 rcases hp with rfl|rfl
 exact ol (lo_pnil Z Z underlying208) (Jt_ (Jx_ (cw_cond_t Z Z (F6_ (ol (Iu_ (v:= .pointer (some ⟨_,_,none⟩)) Z)<|ol (Iu_ (v:= .pointer (some ⟨_,_,none⟩)) Z) (ol (Xy_ (i:=i) Z hi Z underlying208 underlying351 (tz210).choose_spec.1 (tz210).choose_spec.2) (ol (lo_noEsc (v:= .pointer (some ⟨_,_,none⟩)) ne255 Z) (ol (Tl_ (i:=i) Z hi underlying351 underlying208 (ti210).choose_spec Xo_) (ol (Gq_ Z) (ol (E3_ Z Rr_)<|vR))))))))))
 . refine ol (Ut_ Z Z underlying208) (Jt_ (Jx_ (Su_ Z Z (Ki_ (F6_ ?_)))))
   refine ol (Iu_ (v:= .pointer (some ⟨_,_,none⟩)) Z) (ol (Gq_ Z) (ol (E3_ Z Rr_) (ol (Kv_ (i:=i) (v:= .pointer (some ⟨b,0,none⟩)) Z ag208 hi Z) (ol (Iu_ (v:= .pointer (some ⟨_,_,none⟩)) Z) (ol (Xv_ Z Z underlying208 (ti210).choose_spec) ?_)))))
   refine Jt_ (Jx_ (Su_ Z Z (cw_skip (fnK_n (res0 Z) (.refl _) ?_))))
   rwa [lupd_eta hi] at k
theorem sz5:Sz prog 5 1:=λw=>by kernel_rfl
theorem ag116:Ag prog 116 false:=λw=>by kernel_rfl
theorem ag161:Ag prog 161 true:=λw=>by kernel_rfl
theorem by5:By prog 5 1:=by_of qE
theorem cb112:Aa_ prog 112:=P_ func112
theorem cb115:Aa_ prog 115:=P_ func115
theorem co5:prog.cellsOf 5=1:=by kernel_rfl
theorem fl161_0:Fld prog 161 0 0:=λb o w=>by kernel_rfl
theorem fl210_1:Fld prog 210 1 1:=λb o w=>by kernel_rfl
theorem mixd:prog.follows .mixedOrders=true:=by kernel_rfl
theorem sz116:Sz prog 116 1:=λw=>by kernel_rfl
theorem sz161:Sz prog 161 2:=λw=>by kernel_rfl
theorem zr161:Zr prog 161 [str [], .int .i64 0]:=λw=>⟨.agg #[str [], .int .i64 0],by kernel_rfl,rfl⟩
theorem zr210:Zr prog 210 [.pointer none, .slice none 0 0]:=λw=>⟨.agg #[.pointer none, .slice none 0 0],by kernel_rfl,rfl⟩
theorem zr5:Zr prog 5 [.int .u8 0]:=λw=>⟨.int .u8 0,by kernel_rfl,rfl⟩
theorem zx5:∃ z,∀ w,(zeroValue 5).run prog w = .ok z w:=⟨.int .u8 0,λw=>by kernel_rfl⟩
theorem out_Num(H:Hp)(o:Out)(n:Int)(n_r:0<=n/\n<=18446744073709551615)(bytes:Int)(bytes_r:-9223372036854775808<=bytes/\bytes<=9223372036854775807)(hlen:o.s.length<=4611686018427387904):Pr prog 75 #[.agg (Out.cells o).toArray, .int .u64 n, .int .i64 bytes] H (.agg (Out.cells (C_ o n bytes)).toArray):=by
 refine pr_cw func75 Z ntmps75 Z (λN=>?_);refine Ki_ (F6_ (ow1 (op1_box (cs:=[_,_]) 0 Z Z (λb1=>?_))));refine ow1 (Ts_ 1 Z zr161 (λb2=>?_));refine Jt_ (Jx_ (Ki_ (F6_ (ow1 (Ts_ 2 Z zr210 (λb3=>?_))))));refine Jt_ (Jx_ (Ki_ (Ki_ (F6_ (omi Z Z<|ol (lo_max Z Z) (ol (lo_min Z Z) (ol (lo_sub Z Z Vd_) (oai Z Z (Jt_ (Jx_<|cw_block<|cw_loop5 [8,13,14,15,16,17,18,19,20,21,22] [2,3,4] (λ(j:Nat) (bs:Bs) (p:Value) (v:Value) (en:Option (Nat×Obj)) G=>upd (G) 8 (.int .i64 ((j:Int)-1))) (λ(j:Nat) (bs:Bs) (p:Value) (v:Value) (en:Option (Nat×Obj)) G=>lupd (lupd (G) 2 (some (b3,bx 210 [p,v]))) 3 (en)) (λ(j:Nat) (bs:Bs) (p:Value) (v:Value) (en:Option (Nat×Obj)) H'=>bs++numB j n.toNat=numB (numK bytes) n.toNat/\bs.length+j=numK bytes/\OwnV 1 5 v en bs.length (bs.map u8v)/\(bs.length=0->v = .slice none 0 0)/\(p = .pointer none\/p = .pointer (some ⟨b3,0,none⟩))) (λ(j:Nat) (bs:Bs) (p:Value) (v:Value) (en:Option (Nat×Obj))=>j) (numK bytes) [] (.pointer none) (.slice none 0 0) none (upd_intro (Zz_ nA) (congrArg (GZ .i64) (show min (max bytes 0) 8-1=((numK bytes:Nat):Int)-1 by unfold numK;omega))) (Q1_ (Q1_ (Xt_ offl_refl) Z) Z) ?_ ?_))))))))));exact⟨rfl,by simp,O6_,λ_=>rfl, .inl rfl⟩;intro j bs p v en J5 JL5 H5 hp4 hl5;obtain⟨hk1,hk2,ho,hz,hpp⟩:=hp4;have hk8:numK bytes<=8:=by unfold numK;omega
 refine Ki_ (Ki_ (F6_ (omi Z Z (ol (lo_geq Z Z) (Jt_<|Jx_ (cw_cond Z (λh6=>?_) (λh6=>?_)))))));have p7:=dt h6;refine cw_skip (Jx_ (Ki_ (cw_block (F6_ (omi Z Z<|omi Z Z (ol (lo_mul Z Z Vd_) (ol (lo_shr Z Z qD) ?_)))))));have :=wr_u8 (GJ n (2 ^ (min ((8*((j:Int)-1)):Int).toNat (AC .u64))));refine ol (lo_conv Z (by rw[underlying38];rfl) underlying5)<|ow1 (op1_in (en_f cb112 Z) func112 Z ntmps112 Z Z<|Ki_ (F6_ (ol (M0_ Z) (Jt_ (Jx_ (Ki_<|F6_ (ol (Iu_ (v:= .pointer (some ⟨_,_,none⟩)) Z)<|ow1 (copyCheck 2 Z Z hpp Z<|Jt_ (Jx_ (Ki_ (F6_ (ol (Iu_ (v:= .pointer (some ⟨_,_,none⟩)) Z) (ol (Iu_ (v:= .pointer (some ⟨_,_,none⟩)) Z)<|ol (Gq_ Z) (ol (E3_ Z fl210_1) (ol (Kv_ (i:=2) Z ag116 Z Z) (omi Z Z<|ow1 (Z2_ (cs:=[_]) 4 Z underlying116 sz5 zx5 Z ⟨Z,Z,U⟩ Z Z qF (λb8=>?_))))))))))))))))));refine ow1 (op1_app 3 Z Z underlying116 underlying116 Z sz5 by5 qF zr5 ho (src_bx (i:=4) Z Z) (List.all_eq_true.1 Z) Z qD Z (λv9 en10 ho11=>?_));have ho12:=byte_app (bs:=bs) ho11 (by first|rfl|simp) wrap8r;refine ol (Gq_ Z) (ol (E3_ Z fl210_1)<|ow1 (Km_ (i:=2) Z Z (ownV_one ho12) sz116 Z Z<|Jt_ (Jx_ (Ki_ (F6_ (ol (M0_ Z) (Jt_<|Jx_ (cw_ret (fnK_r (res1 Z (rv_t Z)) (.refl _) (Jt_ (blkK_n (Jx_<|F6_ (omi Z Z (ol (lo_sub Z Z Vd_) (oai Z Z (Jt_<|next5 (j-1) (bs++[UInt8.ofNat ((A0 .u8 (GJ n (2 ^ (min ((8*((j:Int)-1)):Int).toNat (AC .u64)))))).toNat]) (.pointer (some ⟨b3,0,none⟩)) v9 en10 (upd_intro (Zz_ nA) (congrArg (GZ .i64) (show ((j:Int)-1)-1=((j-1:Nat):Int)-1 by omega))) (Q1_ (Q1_ (Xt_ (by first|exact offl_refl|(repeat (first|exact offl_mask|refine offl_upd Z ?_|refine offl_mask2 Z ?_)))) Z) Z) hl5 ?_ ?_))))))))))))))));refine⟨?_,?_,ho12,(nz_of ho12 qI), .inr rfl⟩;rw[byte_of n_r.1 qD qD,List.append_assoc,<- hk1];obtain⟨q,rfl⟩:∃ q,j=q+1:=⟨j-1,by omega⟩;simp[numB];simp;omega;omega;have p13:=df h6;refine cw_exit (seqK_e (loopK_e (blkK_hit (Jx_ (Ki_<|cw_anyX 3 mixd (vw_q 0 Z (λ_ _ hh hl=>E3_ Z fl161_0)<|vw_q 1 Z (λ_ _ hh hl=>Kv_ (i:=0) (v:=str _) Z ag9 (hl _ _ Z) Z)<|vw_e 2 Z qE (op1_in (en_f cb115 Z) func115 Z ntmps115 Z Z<|Ki_ (F6_ (ol (M0_ (v:=str _) Z) (Jt_ (Jx_ (Ki_<|cw_anyX 3 mixd<|vw_q 0 Z (λ_ _ hh hl=>Iu_ (v:= .pointer (some ⟨_,_,none⟩)) Z)<|vw_q 1 Z (λ_ _ hh hl=>Gq_ Z)<|vw_q 2 Z (λ_ _ hh hl=>E3_ Z fl210_1)<|vw_q 3 Z (λ_ _ hh hl=>Kv_ (i:=2) Z ag116 (hl _ _ Z) Z)<|vw_q 4 Z (λ_ _ hh hl=>lo_usd Z ho hz)<|vw_q 5 Z (λ_ _ hh hl=>Iu_ (v:= .pointer (some ⟨_,_,none⟩)) Z)<|vw_q 6 Z (λ_ _ hh hl=>Gq_ Z)<|vw_q 7 Z (λ_ _ hh hl=>E3_ Z fl210_1)<|vw_q 8 Z (λ_ _ hh hl=>Kv_ (i:=2) Z ag116 (hl _ _ Z) Z)<|vw_q 9 Z (λ_ _ hh hl=>Zy_ Z ho underlying116)<|vw_e 10 Z qE (op1_ustr (l:=bs) 3 Z Z underlying303 co5 ho hz nK Z<|⟨⟨(.refl _),qR⟩,?_⟩)))))))))))));refine vw_q 11 Z (λ_ _ hh hl=>M0_ (v:=str _) Z)<|vw_done qE (Jx_ (cw_ret (fnK_r (res1 Z (rv_t (v:=str _) Z)) (.refl _)<|⟨⟨(.refl _),qR⟩,?_⟩)));refine vw_q 3 Z (λ_ _ hh hl=>lo_cat Z Z nK)<|vw_q 4 Z (λ_ _ hh hl=>E3_ Z fl161_0)<|vw_t 5 Z qE qE (Km_ (i:=0) (v:=str _) Z Z Z sz9 Z Z<|vw_done qE (Jx_ (Ki_ (F6_ (ol (V3_ (i:=0) (vs:=[_,_]) Z ag161 sz161 Z Z Z)<|ow1 (Z3_ (i:=1) (vs:=[_,_]) Z Z Z sz161 Z Z Z<|Jt_ (Jx_ (cw_ret (fnK_r (res1 Z (rv_c (i:=1) (vs:=[_,_]) Z ag161 sz161 Z Z Z)) ((HLe.refl _).trans hl5) ?_)))))))));obtain rfl :j=0:=by omega
 simp only[numB,List.append_nil] at hk1;subst hk1;rfl
end Go.SW
namespace Go.SW.V
open Go.SW
variable{P:Program}{n:Nat}{N:Rest}{H0:Env}{all rest:List Oper}{Q:Qs}{ks:List Kt}{fF:Nat->PV}{fL:Nat->Blk}{ty d:Nat}{pos:String}{af:Array Edge}{x:Operand}
theorem nN{ι:Type _}{keep kL:List Nat}{G:Nat->PV}{GL:Nat->Blk}{lv:ι->List (Nat×PV)}{lL:ι->List (Nat×Blk)}{Φ:ι->Prop}{μ:ι->Nat}{m:Nat}(x':ι)(hΦ:Φ x')(h1:keep.map fF=keep.map G:=by exact Z)(h2:kL.map fL=kL.map GL:=by exact Z)
   (hA:AllF fF (lv x'):=by repeat' (first|exact U|refine⟨rfl,?_⟩)) (hB:AllL fL (lL x'):=by repeat' (first|exact U|refine⟨rfl,?_⟩)) (hm:μ x'<m:=by ((try simp only[]);omega)):Hd P n N H0 Q (.ex .normal) (.lp (LJ (λx=>⟨mkF (lv x) keep G,mkL (lL x) kL GL⟩) Φ μ m)::ks) ⟨fF,fL⟩:=next x' h1 h2 hA hB hm hΦ
theorem nI{ι:Type _}{keep kL:List Nat}{G:Nat->PV}{GL:Nat->Blk}{lv:ι->List (Nat×PV)}{lL:ι->List (Nat×Blk)}{Φ:ι->Prop}{μ:ι->Nat}{m:Nat}{A E:Prop}(x':ι)(e:E)(hΦ:(A/\E)=Φ x':=by exact Z)(hA:A:=by (first|omega|((try simp only[]);omega)|((try simp only[List.length_append,List.length_cons,List.length_nil,List.length_set]);omega)))
   (h1:keep.map fF=keep.map G:=by exact Z) (h2:kL.map fL=kL.map GL:=by exact Z)
   (h3:AllF fF (lv x'):=by repeat' (first|exact U|refine⟨rfl,?_⟩)) (h4:AllL fL (lL x'):=by repeat' (first|exact U|refine⟨rfl,?_⟩)) (hm:μ x'<m:=by ((try simp only[]);omega)):Hd P n N H0 Q (.ex .normal) (.lp (LJ (λx=>⟨mkF (lv x) keep G,mkL (lL x) kL GL⟩) Φ μ m)::ks) ⟨fF,fL⟩:=next x' h1 h2 h3 h4 hm (hΦ ▸ ⟨hA,e⟩)
theorem nJ{ι:Type _}{keep kL:List Nat}{G:Nat->PV}{GL:Nat->Blk}{lv:ι->List (Nat×PV)}{lL:ι->List (Nat×Blk)}{Φ:ι->Prop}{μ:ι->Nat}{m:Nat}{A E I:Prop}(x':ι)(e:E)(hΦ:(A/\E/\I)=Φ x':=by exact Z)(hA:A:=by (first|omega|((try simp only[]);omega)|((try simp only[List.length_append,List.length_cons,List.length_nil,List.length_set]);omega)))(hI:I:=by ((repeat' refine And.intro ?_ ?_)<;>(first|omega|((try simp only[]);omega)|((try simp only[List.length_append,List.length_cons,List.length_nil,List.length_set]);omega))))
   (h1:keep.map fF=keep.map G:=by exact Z) (h2:kL.map fL=kL.map GL:=by exact Z)
   (h3:AllF fF (lv x'):=by repeat' (first|exact U|refine⟨rfl,?_⟩)) (h4:AllL fL (lL x'):=by repeat' (first|exact U|refine⟨rfl,?_⟩)) (hm:μ x'<m:=by ((try simp only[]);omega)):Hd P n N H0 Q (.ex .normal) (.lp (LJ (λx=>⟨mkF (lv x) keep G,mkL (lL x) kL GL⟩) Φ μ m)::ks) ⟨fF,fL⟩:=next x' h1 h2 h3 h4 hm (hΦ ▸ ⟨hA,e,hI⟩)
structure Lps where
 lv:List (Nat×PV)
 lL:List (Nat×Blk)
 Φ:Prop
 μ:Nat
theorem lP{ι:Type _}{c:Code}(keep kL:List Nat)(S:ι->Lps)(x0:ι)(hΦ:(S x0).Φ)(body:∀ x,(S x).Φ->Hd P n N H0 Q (.code c) (.lp (LJ (λx=>⟨mkF (S x).lv keep fF,mkL (S x).lL kL fL⟩) (λx=>(S x).Φ) (λx=>(S x).μ) (S x).μ)::ks) ⟨mkF (S x).lv keep fF,mkL (S x).lL kL fL⟩)
   (hA:AllF fF (S x0).lv:=by repeat' (first|exact U|refine⟨rfl,?_⟩)) (hB:AllL fL (S x0).lL:=by repeat' (first|exact U|refine⟨rfl,?_⟩)):Hd P n N H0 Q (.code (.loop c)) ks ⟨fF,fL⟩:=loop keep kL (λx=>(S x).lv) (λx=>(S x).lL) (λx=>(S x).Φ) (λx=>(S x).μ) x0 hA hB hΦ body
theorem rR{ι:Type}{tb:Tb}{rs:List ResultVar}{m:Nat}{Φ:ι->Prop}{res:ι->PV}{post:ι->List Blk}{ps:List PV}{as0 bs:List Nat}(g:ι)(σ:List Nat)(hg:Φ g)(h:Jv_ tb ⟨fF,fL⟩ rs=some (ps,as0,bs):=by exact Z)(he:as0=bs:=by exact Z)(hn:M6_ σ=true:=by exact Z)(hl:σ.length=m:=by exact Z)(hp:PLe (tupP ps) (renR σ (res g)):=by exact ple Z)
   (hL:BLe (σ.map fL) ((post g).map (renB σ)):=by repeat' (first|exact U|refine⟨.inr Z,?_⟩|refine⟨.inl Z,?_⟩)) (hi:inBs m (post g)=true:=by exact Z) (hir:inR m (res g)=true:=by exact Z):Hd P n N H0 (fgK tb rs m Φ res post) (.ex .ret) [] ⟨fF,fL⟩:=rgr g σ hg hn hl h he hp hL hi hir
theorem rQ{ι:Type}{tb:Tb}{rs:List ResultVar}{m:Nat}{Φ:ι->Prop}{res:ι->PV}{post:ι->List Blk}{ps:List PV}{as0 bs:List Nat}(g:ι)(σ:List Nat)(hg:Φ g)(h:Jv_ tb ⟨fF,fL⟩ rs=some (ps,as0,bs))(hp:PLe (tupP ps) (renR σ (res g)))(he:as0=bs:=by exact Z)(hn:M6_ σ=true:=by exact Z)(hl:σ.length=m:=by exact Z)
   (hL:BLe (σ.map fL) ((post g).map (renB σ)):=by repeat' (first|exact U|refine⟨.inr Z,?_⟩|refine⟨.inl Z,?_⟩)) (hi:inBs m (post g)=true:=by exact Z) (hir:inR m (res g)=true:=by exact Z):Hd P n N H0 (fgK tb rs m Φ res post) (.ex .ret) [] ⟨fF,fL⟩:=rgr g σ hg hn hl h he hp hL hi hir
theorem rN{ι:Type}{tb:Tb}{rs:List ResultVar}{m:Nat}{Φ:ι->Prop}{res:ι->PV}{post:ι->List Blk}{ps:List PV}{as0 bs:List Nat}(g:ι)(σ:List Nat)(hg:Φ g)(h:Jv_ tb ⟨fF,fL⟩ rs=some (ps,as0,bs):=by exact Z)(he:as0=bs:=by exact Z)(hn:M6_ σ=true:=by exact Z)(hl:σ.length=m:=by exact Z)(hp:PLe (tupP ps) (renR σ (res g)):=by exact ple Z)
   (hL:BLe (σ.map fL) ((post g).map (renB σ)):=by repeat' (first|exact U|refine⟨.inr Z,?_⟩|refine⟨.inl Z,?_⟩)) (hi:inBs m (post g)=true:=by exact Z) (hir:inR m (res g)=true:=by exact Z):Hd P n N H0 (fgK tb rs m Φ res post) (.ex .normal) [] ⟨fF,fL⟩:=rgn g σ hg hn hl h he hp hL hi hir
theorem eB{t:Nat}{b c:Bool}(h:b=c)(k:Hd P n N H0 Q (.ops all rest) ks ⟨updp fF t (.bool c),fL⟩)(hf:fF t = .bool b:=by exact Z):Hd P n N H0 Q (.ops all rest) ks ⟨fF,fL⟩:=Za_ (p':= .bool c) (by rw[hf,h];exact ple Z) Z k
theorem gE{α β γ:Type}{v:β}{g:α}{kf:α->β}{f:FuncId}{args args':List PV}{as0:Array Operand}{ats:Array TypeId}{pre:List Blk}{Φ:α×γ->Prop}{res:α×γ->PV}{post:α×γ->List Blk}(e:v=lt g kf)(js:List Nat)(h:Fg P H0.g f args pre Φ res post)(ha:argsP fF x as0.toList=some (f,args'))(he:args'=args.map (renP js))
   (kk:∀ r u,g=r->v=kf r->Hd P n N H0 Q (.ops all rest) ks ⟨updp (Ry_ js fF) d (renR js (res (r,u))),newL js (post (r,u)) fL⟩)
   (hΦ:∀ r u,Φ (r,u)->g=r:=by exact λ_ _ h=>h) (hj:M6_ js=true:=by exact Z) (hl:js.length=pre.length:=by exact Z) (hL:BLe (js.map fL) (pre.map (renB js)):=by repeat' (first|exact U|refine⟨.inr Z,?_⟩|refine⟨.inl Z,?_⟩)) (hi:inBs js.length pre=true:=by exact Z) (hia:inPs js.length args=true:=by exact Z) (hd:Nat.blt d n=true:=by exact Z)
   (hpl:∀ g,(post g).length=js.length:=by exact λ_=>rfl) (hno:∀ g,(renR js (res g)).noOsl=true:=by exact λ_=>rfl):Hd P n N H0 Q (.ops all (⟨some d, .call ⟨.value x,as0,ats⟩,ty,pos,af,none⟩::rest)) ks ⟨fF,fL⟩:=
 ef2 (Ji_ js h ha he hj hl hL hi hia hd hpl hno λ(r,u) q=>kk r u (hΦ r u q) (e.trans (Dp_ (hΦ r u q).symm)))
theorem gF{α β:Type}{v:β}{g:α}{kf:α->β}{f:FuncId}{args args':List PV}{as0:Array Operand}{ats:Array TypeId}{pre:List Blk}{Φ:α->Prop}{res:α->PV}{post:α->List Blk}(e:v=lt g kf)(js:List Nat)(h:Fg P H0.g f args pre Φ res post)(ha:argsP fF x as0.toList=some (f,args'))(he:args'=args.map (renP js))
   (kk:∀ r,g=r->v=kf r->Hd P n N H0 Q (.ops all rest) ks ⟨updp (Ry_ js fF) d (renR js (res r)),newL js (post r) fL⟩)
   (hΦ:∀ r,Φ r->g=r:=by exact λ_ h=>h) (hj:M6_ js=true:=by exact Z) (hl:js.length=pre.length:=by exact Z) (hL:BLe (js.map fL) (pre.map (renB js)):=by repeat' (first|exact U|refine⟨.inr Z,?_⟩|refine⟨.inl Z,?_⟩)) (hi:inBs js.length pre=true:=by exact Z) (hia:inPs js.length args=true:=by exact Z) (hd:Nat.blt d n=true:=by exact Z)
   (hpl:∀ g,(post g).length=js.length:=by exact λ_=>rfl) (hno:∀ g,(renR js (res g)).noOsl=true:=by exact λ_=>rfl):Hd P n N H0 Q (.ops all (⟨some d, .call ⟨.value x,as0,ats⟩,ty,pos,af,none⟩::rest)) ks ⟨fF,fL⟩:=
 ef2 (Ji_ js h ha he hj hl hL hi hia hd hpl hno λr q=>kk r (hΦ r q) (e.trans (Dp_ (hΦ r q).symm)))
theorem gV{α β γ:Type}{v:β}{g:α}{kf:α->β}{f:FuncId}{args args':List PV}{as0:Array Operand}{ats:Array TypeId}{pre:List Blk}{Φ:α×γ->Prop}{res:α×γ->PV}{post:α×γ->List Blk}{xs:List Nat}{fuel:Nat}{listed:Array Bool}(e:v=lt g kf)(i:Nat)(js:List Nat)(h:Fg P H0.g f args pre Φ res post)(ha:argsP fF x as0.toList=some (f,args'))(he:args'=args.map (renP js))
   (kk:∀ r u,g=r->v=kf r->Hv P n N H0 Q (some xs) all fuel (listed.setIfInBounds i true) ks ⟨updp (Ry_ js fF) d (renR js (res (r,u))),newL js (post (r,u)) fL⟩)
   (hΦ:∀ r u,Φ (r,u)->g=r:=by exact λ_ _ h=>h) (hI:nth all i=some ⟨some d, .call ⟨.value x,as0,ats⟩,ty,pos,af,none⟩:=by exact Z) (hr:Region.ready .any all.toArray listed=[i]:=by kernel_rfl) (hJ:js.all (memB xs)=true:=by exact Z) (hj:M6_ js=true:=by exact Z) (hl:js.length=pre.length:=by exact Z) (hL:BLe (js.map fL) (pre.map (renB js)):=by repeat' (first|exact U|refine⟨.inr Z,?_⟩|refine⟨.inl Z,?_⟩)) (hi:inBs js.length pre=true:=by exact Z) (hia:inPs js.length args=true:=by exact Z) (hd:Nat.blt d n=true:=by exact Z)
   (hpl:∀ g,(post g).length=js.length:=by exact λ_=>rfl) (hno:∀ g,(renR js (res g)).noOsl=true:=by exact λ_=>rfl):Hv P n N H0 Q (some xs) all (fuel+1) listed ks ⟨fF,fL⟩:=
 ve2s i hI (hr:=hr) (hj:=hJ) (Ji_ js h ha he hj hl hL hi hia hd hpl hno λ(r,u) q=>kk r u (hΦ r u q) (e.trans (Dp_ (hΦ r u q).symm)))
theorem fD{tb:Tb}{G:Gb}{m:Nat}{f:FuncId}{fn:Func}{c:Code}{args:List PV}{α:Type}{enc:α->PV}{a b:α}(hf:P.funcs[f]? = some fn)(ht:tbB P tb=true)(e:a=b)(h:PV.wfs args->∀ N H,G.p H->∀ z,z=b->Hd P m N ⟨H,G⟩ (rtK tb fn.results.toList (enc z)) (.code c) [] ⟨O4_ args,λ_=> .no⟩)(hn:fn.ntmps=m:=by exact Z)(hb:fn.body=some c:=by exact Z)(hs:Nat.ble args.length m=true:=by exact Z)(h1:(fn.name == "runtime.NumGoroutine")=false:=by kernel_rfl)(h2:fn.body.isNone=false:=by kernel_rfl)(hno:(enc a).noOsl=true:=by exact Z)(hna:Du_ args=true:=by exact Z):Fn P G f args (enc a):=
 fC hf ht hn (λw N H hG=>h w N H hG a e) hb hs h1 h2 hno hna
theorem lsG0{α τ:Type}[Inhabited α]{l v:τ}{xs:List α}{k:Nat}{g:List α->τ}(e:l=g (xs.drop k))(q:g (gt xs k::xs.drop (k+1))=v)(h:k<xs.length:=by omega):l=v:=Vm_ (f:=λzz=>g zz) e (dropG h) q
theorem lsN0{α τ:Type}{l v:τ}{xs:List α}{k:Nat}{g:List α->τ}(e:l=g (xs.drop k))(q:g []=v)(h:¬k<xs.length:=by omega):l=v:=Vm_ (f:=λzz=>g zz) e (dropN h) q
theorem lsG1{α τ:Type}{β0:Type _}[Inhabited α]{l v:τ}{xs:List α}{k:Nat}{g:List α->β0->τ}{b0:β0}(e:l=g (xs.drop k) b0)(q:g (gt xs k::xs.drop (k+1)) b0=v)(h:k<xs.length:=by omega):l=v:=Vm_ (f:=λzz=>g zz b0) e (dropG h) q
theorem lsN1{α τ:Type}{β0:Type _}{l v:τ}{xs:List α}{k:Nat}{g:List α->β0->τ}{b0:β0}(e:l=g (xs.drop k) b0)(q:g [] b0=v)(h:¬k<xs.length:=by omega):l=v:=Vm_ (f:=λzz=>g zz b0) e (dropN h) q
theorem lsG2{α τ:Type}{β0 β1:Type _}[Inhabited α]{l v:τ}{xs:List α}{k:Nat}{g:List α->β0->β1->τ}{b0:β0}{b1:β1}(e:l=g (xs.drop k) b0 b1)(q:g (gt xs k::xs.drop (k+1)) b0 b1=v)(h:k<xs.length:=by omega):l=v:=Vm_ (f:=λzz=>g zz b0 b1) e (dropG h) q
theorem lsN2{α τ:Type}{β0 β1:Type _}{l v:τ}{xs:List α}{k:Nat}{g:List α->β0->β1->τ}{b0:β0}{b1:β1}(e:l=g (xs.drop k) b0 b1)(q:g [] b0 b1=v)(h:¬k<xs.length:=by omega):l=v:=Vm_ (f:=λzz=>g zz b0 b1) e (dropN h) q
theorem lsG3{α τ:Type}{β0 β1 β2:Type _}[Inhabited α]{l v:τ}{xs:List α}{k:Nat}{g:List α->β0->β1->β2->τ}{b0:β0}{b1:β1}{b2:β2}(e:l=g (xs.drop k) b0 b1 b2)(q:g (gt xs k::xs.drop (k+1)) b0 b1 b2=v)(h:k<xs.length:=by omega):l=v:=Vm_ (f:=λzz=>g zz b0 b1 b2) e (dropG h) q
theorem lsN3{α τ:Type}{β0 β1 β2:Type _}{l v:τ}{xs:List α}{k:Nat}{g:List α->β0->β1->β2->τ}{b0:β0}{b1:β1}{b2:β2}(e:l=g (xs.drop k) b0 b1 b2)(q:g [] b0 b1 b2=v)(h:¬k<xs.length:=by omega):l=v:=Vm_ (f:=λzz=>g zz b0 b1 b2) e (dropN h) q
theorem lsG5{α τ:Type}{β0 β1 β2 β3 β4:Type _}[Inhabited α]{l v:τ}{xs:List α}{k:Nat}{g:List α->β0->β1->β2->β3->β4->τ}{b0:β0}{b1:β1}{b2:β2}{b3:β3}{b4:β4}(e:l=g (xs.drop k) b0 b1 b2 b3 b4)(q:g (gt xs k::xs.drop (k+1)) b0 b1 b2 b3 b4=v)(h:k<xs.length:=by omega):l=v:=Vm_ (f:=λzz=>g zz b0 b1 b2 b3 b4) e (dropG h) q
theorem lsN5{α τ:Type}{β0 β1 β2 β3 β4:Type _}{l v:τ}{xs:List α}{k:Nat}{g:List α->β0->β1->β2->β3->β4->τ}{b0:β0}{b1:β1}{b2:β2}{b3:β3}{b4:β4}(e:l=g (xs.drop k) b0 b1 b2 b3 b4)(q:g [] b0 b1 b2 b3 b4=v)(h:¬k<xs.length:=by omega):l=v:=Vm_ (f:=λzz=>g zz b0 b1 b2 b3 b4) e (dropN h) q
theorem qJ{T ty d:Nat}{y:Operand}{tb:Tb}{α:Type}[Inhabited α]{ti te:TI}{e:TypeId}{enc:α->List PV}{xs:List α}{kk:IntKind}{i:Int}(ht:tbB P tb=true)(m:Nat)(k:(PV.el (enc (gt xs m)) 0).wf->Hd P n N H0 Q (.ops all rest) ks ⟨updp fF d (.el (enc (gt xs m)) 0),fL⟩)(hx:evP fF x = .sl enc xs:=by exact Z)(hy:evP fF y = .int kk i:=by exact Z)(hi:i=m:=by first|exact Z|omega)(hm:m<xs.length:=by omega)(hti:lkT tb T=some ti:=by exact Z)(htk:ti.k = .slc e:=by exact Z)(hte:lkT tb e=some te:=by exact Z)(hsz:te.size=(enc (gt xs m)).length:=by exact Z)(hd:Nat.blt d n=true:=by exact Z):Hd P n N H0 Q (.ops all (⟨some d, .indexAddr T x y,ty,pos,af,none⟩::rest)) ks ⟨fF,fL⟩:=q1 (qidx ht m hx hy hi (getG hm) hti htk hte hsz) hd k
end Go.SW.V
namespace Go.SW.V
open Go.SW Go.Proofs
abbrev aD:PV:=.int .u64 0
abbrev aG:PV:=.int .u8 0
abbrev aI:PV:=.int .i64 0
abbrev aU:PV:=.bool false
abbrev aQ:PV:=.str []
abbrev aX:PV:=.val (.slice none 0 0)
abbrev aH:PV:=.sl Mail.pc []
abbrev ty9:TI:=⟨.str,1,16,[aQ]⟩
abbrev ty3:TI:=⟨.int .i64,1,8,[aI]⟩
abbrev ty33:TI:=⟨.int .i64,1,8,[aI]⟩
abbrev ty38:TI:=⟨.int .u64,1,8,[aD]⟩
abbrev ty161:TI:=⟨.agg [(0,1),(1,1)],2,24,[aQ,aI]⟩
abbrev ty310:TI:=⟨.agg [(0,1),(1,1)],2,24,[aQ,aI]⟩
abbrev ty106:TI:=⟨.slc 9,1,24,[.sl strc []]⟩
abbrev ty2:TI:=⟨.int .i64,1,8,[aI]⟩
abbrev ty5:TI:=⟨.int .u8,1,1,[aG]⟩
abbrev ty43:TI:=⟨.slc 232,1,24,[.sl Pair.pc []]⟩
abbrev ty232:TI:=⟨.agg [(0,1),(1,1),(2,1),(3,1)],4,48,[aQ,aG,aI,aQ]⟩
abbrev ty4:TI:=⟨.bool,1,1,[aU]⟩
abbrev ty45:TI:=⟨.agg [(0,1),(1,1),(2,1),(3,1),(4,1),(5,1)],6,88,[aQ,aQ,aU,aQ, .sl Pair.pc [],aU]⟩
abbrev ty116:TI:=⟨.slc 5,1,24,[.sl u8c []]⟩
abbrev ty90:TI:=⟨.int .u32,1,4,[.int .u32 0]⟩
abbrev ty40:TI:=⟨.agg [(0,1),(1,1),(2,1)],3,40,[aQ,aG,aQ]⟩
abbrev ty42:TI:=⟨.agg [(0,1),(1,1),(2,1),(3,1)],4,48,[aQ,aD,aD,aQ]⟩
abbrev ty47:TI:=⟨.agg [(0,1),(1,1),(2,1),(3,1),(4,1),(5,1),(6,1)],7,96,[aD,aQ,aQ, .sl Pair.pc [],aQ,aD,aG]⟩
abbrev ty49:TI:=⟨.agg [(0,1),(1,1),(2,3),(5,4),(9,6),(15,1),(16,1),(17,1),(18,1),(19,1),(20,1),(21,7),(28,1)],29,344,[aG,aD,aQ,aG,aQ,aQ,aD,aD,aQ,aQ,aQ,aU,aQ, .sl Pair.pc [],aU,aQ,aD,aG,aG,aG,aD,aD,aQ,aQ, .sl Pair.pc [],aQ,aD,aG,aQ]⟩
abbrev ty261:TI:=⟨.slc 33,1,24,[.sl i64c []]⟩
abbrev ty301:TI:=⟨.agg [(0,1),(1,1),(2,1),(3,1)],4,56,[aG,aQ, .sl Pair.pc [],aU]⟩
abbrev ty56:TI:=⟨.slc 40,1,24,[.sl W_.pc []]⟩
abbrev ty59:TI:=⟨.agg [(0,1),(1,1)],2,48,[.sl W_.pc [], .sl Q_.pc []]⟩
abbrev ty57:TI:=⟨.slc 45,1,24,[.sl Q_.pc []]⟩
abbrev ty346:TI:=⟨.slc 56,1,24,[.sl (slc W_.pc) []]⟩
abbrev ty349:TI:=⟨.slc 57,1,24,[.sl (slc Q_.pc) []]⟩
abbrev ty27:TI:=⟨.slc 49,1,24,[.sl G_.pc []]⟩
abbrev ty22:TI:=⟨.slc 94,1,24,[.sl A8_.pc []]⟩
abbrev ty23:TI:=⟨.slc 3,1,24,[.sl i64c []]⟩
abbrev ty24:TI:=⟨.slc 124,1,24,[.sl B9_.pc []]⟩
abbrev ty26:TI:=⟨.agg [(0,1),(1,1),(2,1),(3,1),(4,1)],5,88,[aI,aI, .sl A8_.pc [], .sl i64c [], .sl B9_.pc []]⟩
abbrev ty51:TI:=⟨.agg [(0,7),(7,1),(8,1)],9,104,[aD,aQ,aQ, .sl Pair.pc [],aQ,aD,aG,aU,aU]⟩
abbrev ty60:TI:=⟨.slc 200,1,24,[.sl Go_.pc []]⟩
abbrev ty61:TI:=⟨.slc 47,1,24,[aH]⟩
abbrev ty67:TI:=⟨.slc 97,1,24,[.sl Eb_.pc []]⟩
abbrev ty69:TI:=⟨.agg [(0,1),(1,1)],2,32,[aD, .sl Eb_.pc []]⟩
abbrev ty92:TI:=⟨.agg [(0,1),(1,1)],2,8,[aG, .int .u32 0]⟩
abbrev ty94:TI:=⟨.agg [(0,1),(1,2),(3,1),(4,1)],5,40,[aQ,aG, .int .u32 0,aI,aD]⟩
abbrev ty97:TI:=⟨.agg [(0,1),(1,1),(2,1)],3,32,[aD,aG,aQ]⟩
abbrev ty124:TI:=⟨.agg [(0,1),(1,1),(2,1)],3,24,[aI,aI,aI]⟩
abbrev ty144:TI:=⟨.oth,1,8,[.val .nilFunc]⟩
abbrev ty196:TI:=⟨.slc 51,1,24,[.sl Z_.pc []]⟩
abbrev ty198:TI:=⟨.agg [(0,1)],1,24,[.sl Z_.pc []]⟩
abbrev ty200:TI:=⟨.agg [(0,4),(4,1)],5,72,[aQ,aD,aD,aQ, .sl Z_.pc []]⟩
abbrev ty291:TI:=⟨.slc 67,1,24,[.sl (slc Eb_.pc) []]⟩
abbrev ty330:TI:=⟨.slc 60,1,24,[.sl (slc Go_.pc) []]⟩
abbrev ty369:TI:=⟨.slc 196,1,24,[.sl (slc Z_.pc) []]⟩
abbrev ty374:TI:=⟨.slc 61,1,24,[.sl (slc Mail.pc) []]⟩
abbrev ty63:TI:=⟨.agg [(0,1),(1,1)],2,32,[aD,aH]⟩
abbrev ty66:TI:=⟨.agg [(0,1),(1,1),(2,1),(3,32)],35,552,[aD,aI, .sl Go_.pc [],aD,aH,aD,aH,aD,aH,aD,aH,aD,aH,aD,aH,aD,aH,aD,aH,aD,aH,aD,aH,aD,aH,aD,aH,aD,aH,aD,aH,aD,aH,aD,aH]⟩
abbrev ty64:TI:=⟨.arr,32,512,[aD,aH,aD,aH,aD,aH,aD,aH,aD,aH,aD,aH,aD,aH,aD,aH,aD,aH,aD,aH,aD,aH,aD,aH,aD,aH,aD,aH,aD,aH,aD,aH]⟩
abbrev ty247:TI:=⟨.slc 42,1,24,[.sl M_.pc []]⟩
abbrev ty75:TI:=⟨.agg [(0,2),(2,35),(37,2),(39,16),(55,16)],71,888,[.sl W_.pc [], .sl Q_.pc [],aD,aI, .sl Go_.pc [],aD,aH,aD,aH,aD,aH,aD,aH,aD,aH,aD,aH,aD,aH,aD,aH,aD,aH,aD,aH,aD,aH,aD,aH,aD,aH,aD,aH,aD,aH,aD,aH,aD, .sl Eb_.pc [],aD,aD,aD,aD,aD,aD,aD,aD,aD,aD,aD,aD,aD,aD,aD,aD,aD,aI,aD,aI,aD,aI,aD,aI,aD,aI,aD,aI,aD,aI,aD,aI]⟩
abbrev ty78:TI:=⟨.agg [(0,71),(71,5),(76,1)],77,984,[.sl W_.pc [], .sl Q_.pc [],aD,aI, .sl Go_.pc [],aD,aH,aD,aH,aD,aH,aD,aH,aD,aH,aD,aH,aD,aH,aD,aH,aD,aH,aD,aH,aD,aH,aD,aH,aD,aH,aD,aH,aD,aH,aD,aH,aD, .sl Eb_.pc [],aD,aD,aD,aD,aD,aD,aD,aD,aD,aD,aD,aD,aD,aD,aD,aD,aD,aI,aD,aI,aD,aI,aD,aI,aD,aI,aD,aI,aD,aI,aD,aI,aI,aI, .sl A8_.pc [], .sl i64c [], .sl B9_.pc [],aI]⟩
abbrev ty53:TI:=⟨.agg [(0,9),(9,1),(10,1)],11,120,[aD,aQ,aQ, .sl Pair.pc [],aQ,aD,aG,aU,aU,aI,aI]⟩
abbrev ty72:TI:=⟨.agg [(0,1),(1,1)],2,16,[aD,aI]⟩
abbrev ty177:TI:=⟨.slc 191,1,24,[.sl H1_.pc []]⟩
abbrev ty191:TI:=⟨.agg [(0,1),(1,7)],8,112,[aQ,aD,aQ,aQ, .sl Pair.pc [],aQ,aD,aG]⟩
abbrev ty99:TI:=⟨.slc 139,1,24,[.sl A8_.pc []]⟩
abbrev ty100:TI:=⟨.slc 141,1,24,[.sl B9_.pc []]⟩
abbrev ty102:TI:=⟨.agg [(0,1),(1,1),(2,1),(3,1),(4,1)],5,88,[aI,aI, .sl A8_.pc [], .sl i64c [], .sl B9_.pc []]⟩
abbrev ty139:TI:=⟨.agg [(0,1),(1,2),(3,1),(4,1)],5,40,[aQ,aG, .int .u32 0,aI,aD]⟩
abbrev ty141:TI:=⟨.agg [(0,1),(1,1),(2,1)],3,24,[aI,aI,aI]⟩
abbrev ty70:TI:=⟨.arr,16,128,[aD,aD,aD,aD,aD,aD,aD,aD,aD,aD,aD,aD,aD,aD,aD,aD]⟩
abbrev ty73:TI:=⟨.arr,16,128,[aD,aI,aD,aI,aD,aI,aD,aI,aD,aI,aD,aI,aD,aI,aD,aI]⟩
abbrev ty241:TI:=⟨.agg [(0,1),(1,1)],2,32,[.val (.pointer none), .sl G_.pc []]⟩
abbrev ty119:TI:=⟨.agg [(0,1),(1,1),(2,1),(3,1),(4,1),(5,1)],6,72,[.sl u8c [], .sl Ht_.pc [],aU,aU,aI,aI]⟩
abbrev ty227:TI:=⟨.agg [(0,1),(1,1)],2,24,[aI,aQ]⟩
abbrev ty117:TI:=⟨.slc 227,1,24,[.sl Ht_.pc []]⟩
abbrev ty309:TI:=⟨.arr,64,64,[aG,aG,aG,aG,aG,aG,aG,aG,aG,aG,aG,aG,aG,aG,aG,aG,aG,aG,aG,aG,aG,aG,aG,aG,aG,aG,aG,aG,aG,aG,aG,aG,aG,aG,aG,aG,aG,aG,aG,aG,aG,aG,aG,aG,aG,aG,aG,aG,aG,aG,aG,aG,aG,aG,aG,aG,aG,aG,aG,aG,aG,aG,aG,aG]⟩
abbrev ty210:TI:=⟨.agg [(0,1),(1,1)],2,32,[.val (.pointer none),aX]⟩
abbrev ty36:TI:=⟨.oth,1,8,[.val (.pointer none)]⟩
abbrev ty147:TI:=⟨.agg [(0,1),(1,1),(2,1),(3,1),(4,1),(5,1),(6,1)],7,64,[.val (.pointer none),aI,aD,aU,aU,aQ,aQ]⟩
abbrev ty105:TI:=⟨.oth,1,8,[.val (.pointer none)]⟩
abbrev ty115:TI:=⟨.agg [(0,77),(77,1)],78,992,[.sl W_.pc [], .sl Q_.pc [],aD,aI, .sl Go_.pc [],aD,aH,aD,aH,aD,aH,aD,aH,aD,aH,aD,aH,aD,aH,aD,aH,aD,aH,aD,aH,aD,aH,aD,aH,aD,aH,aD,aH,aD,aH,aD,aH,aD, .sl Eb_.pc [],aD,aD,aD,aD,aD,aD,aD,aD,aD,aD,aD,aD,aD,aD,aD,aD,aD,aI,aD,aI,aD,aI,aD,aI,aD,aI,aD,aI,aD,aI,aD,aI,aI,aI, .sl A8_.pc [], .sl i64c [], .sl B9_.pc [],aI, .val (.pointer none)]⟩
abbrev ty82:TI:=⟨.slc 53,1,24,[.sl Aq_.pc []]⟩
def tbu:Tb:=[(9,ty9),(38,ty38),(5,ty5),(3,ty3),(47,ty47),(42,ty42),(40,ty40),(4,ty4),(26,ty26),(51,ty51),(49,ty49),(94,ty94),(43,ty43),(66,ty66),(198,ty198),(22,ty22),(45,ty45),(69,ty69),(97,ty97),(60,ty60),(200,ty200),(196,ty196),(24,ty24),(63,ty63),(92,ty92),(56,ty56),(78,ty78),(23,ty23),(61,ty61),(106,ty106),(75,ty75),(59,ty59),(161,ty161),(90,ty90),(124,ty124),(67,ty67),(53,ty53),(369,ty369),(374,ty374),(57,ty57),(119,ty119),(227,ty227),(33,ty33),(330,ty330),(291,ty291),(261,ty261),(27,ty27),(147,ty147),(232,ty232),(144,ty144),(116,ty116),(177,ty177),(191,ty191),(349,ty349),(2,ty2),(70,ty70),(73,ty73),(301,ty301),(346,ty346),(72,ty72),(64,ty64),(210,ty210),(99,ty99),(100,ty100),(102,ty102),(139,ty139),(141,ty141),(36,ty36),(247,ty247),(115,ty115),(310,ty310),(117,ty117),(105,ty105),(82,ty82),(241,ty241),(309,ty309)]
theorem A_:tbB prog tbu=true:=by kernel_rfl
section
variable{n:Nat}{N:Rest}{H0:Env}{all:List Oper}{Q:Qs}{ks:List Kt}{fF:Nat->PV}{fL:Nat->Blk}
theorem kA(k:Nat){c c':Cf}{ks':List Kt}{F':Nat->PV}{L':Nat->Blk}{az bs:List Nat}(next :Hd prog n N H0 Q c' ks' ⟨F',L'⟩)(h:run tbu n k c ks fF fL [] [] []=some ⟨c',ks',F',L',[],az,bs⟩:=by exact Z)(he:az=bs:=by exact Z):Hd prog n N H0 Q c ks ⟨fF,fL⟩:=gx A_ k next h he
theorem kB(k:Nat)(is:List Nat){c c':Cf}{ks':List Kt}{F':(Nat->Nat)->Nat->PV}{L':(Nat->Nat)->Nat->Blk}{az bs:(Nat->Nat)->List Nat}(next :∀ B:Nat->Nat,Hd prog n N H0 Q c' ks' ⟨F' B,L' B⟩)(h:∀ B,runE tbu n k is B c ks fF fL [] [] []=some ⟨c',ks',F' B,L' B,[],az B,bs B⟩:=by exact λ_=>rfl)(he:∀ B,az B=bs B:=by exact λ_=>rfl):Hd prog n N H0 Q c ks ⟨fF,fL⟩:=gm A_ k is next h he
theorem kC(k:Nat){c c':Cf}{ks':List Kt}{F':Nat->PV}{L':Nat->Blk}{ps:List Prop}{az bs:List Nat}(next :Hd prog n N H0 Q c' ks' ⟨F',L'⟩)(h:run tbu n k c ks fF fL [] [] []=some ⟨c',ks',F',L',ps,az,bs⟩:=by exact Z)(he:az=bs:=by exact Z)(hp:AllP ps:=by repeat' (first|exact U|refine And.intro ?_ ?_|exact λhc=>hc|exact Z|exact λhc=>rfl|omega|(intro hc;omega)|(intro hc;rw[hc];rfl))):Hd prog n N H0 Q c ks ⟨fF,fL⟩:=gy A_ k next h he hp
theorem kD(k:Nat)(is:List Nat){c c':Cf}{ks':List Kt}{F':(Nat->Nat)->Nat->PV}{L':(Nat->Nat)->Nat->Blk}{ps:(Nat->Nat)->List Prop}{az bs:(Nat->Nat)->List Nat}(next :∀ B:Nat->Nat,Hd prog n N H0 Q c' ks' ⟨F' B,L' B⟩)(h:∀ B,runE tbu n k is B c ks fF fL [] [] []=some ⟨c',ks',F' B,L' B,ps B,az B,bs B⟩:=by exact λ_=>rfl)(he:∀ B,az B=bs B:=by exact λ_=>rfl)(hp:∀ B,AllP (ps B):=by intro B;repeat' (first|exact U|refine And.intro ?_ ?_|exact λhc=>hc|exact Z|exact λhc=>rfl|omega|(intro hc;omega)|(intro hc;rw[hc];rfl))):Hd prog n N H0 Q c ks ⟨fF,fL⟩:=gmy A_ k is next h he hp
theorem kE(order:List Nat)(f:Nat){xs:Option (List Nat)}{fuel:Nat}{listed:Array Bool}{F':Nat->PV}{L':Nat->Blk}{az bs:List Nat}(next :Hv prog n N H0 Q xs all f (lst listed order) ks ⟨F',L'⟩)(hf:fuel=f+order.length:=by exact Z)(hc:chkV n all order listed=true:=by kernel_rfl)(h:runV tbu xs all order fF fL [] [] []=some ⟨F',L',[],az,bs⟩:=by exact Z)(he:az=bs:=by exact Z):Hv prog n N H0 Q xs all fuel listed ks ⟨fF,fL⟩:=gX A_ order f next hf hc h he
theorem kF(order:List Nat)(f:Nat){xs:Option (List Nat)}{fuel:Nat}{listed:Array Bool}{F':Nat->PV}{L':Nat->Blk}{ps:List Prop}{az bs:List Nat}(next :Hv prog n N H0 Q xs all f (lst listed order) ks ⟨F',L'⟩)(hf:fuel=f+order.length:=by exact Z)(hc:chkV n all order listed=true:=by kernel_rfl)(h:runV tbu xs all order fF fL [] [] []=some ⟨F',L',ps,az,bs⟩:=by exact Z)(he:az=bs:=by exact Z)(hp:AllP ps:=by repeat' (first|exact U|refine And.intro ?_ ?_|exact λhc=>hc|exact Z|exact λhc=>rfl|omega|(intro hc;omega)|(intro hc;rw[hc];rfl))):Hv prog n N H0 Q xs all fuel listed ks ⟨fF,fL⟩:=gXy A_ order f next hf hc h he hp
theorem kG{G:Gb}{m:Nat}{f:FuncId}{fn:Func}{c:Code}{args:List PV}{res:PV}(hf:prog.funcs[f]? = some fn)(hn:fn.ntmps=m)(h:PV.wfs args->∀ N H,G.p H->Hd prog m N ⟨H,G⟩ (rtK tbu fn.results.toList res) (.code c) [] ⟨O4_ args,λ_=> .no⟩)(hb:fn.body=some c:=by exact Z)(hs:Nat.ble args.length m=true:=by exact Z)(h1:(fn.name == "runtime.NumGoroutine")=false:=by kernel_rfl)(h2:fn.body.isNone=false:=by kernel_rfl)(hno:res.noOsl=true:=by exact Z)(hna:Du_ args=true:=by exact Z):Fn prog G f args res:=fC hf A_ hn h hb hs h1 h2 hno hna
theorem kI{T ty d:Nat}{rest:List Oper}{pos:String}{af:Array Edge}{x y:Operand}{α:Type}{ti te:TI}{e:TypeId}{enc:α->List PV}{xs:List α}{kk:IntKind}{i:Int}(m:Nat){a:α}(hm:xs[m]? = some a)(k:(PV.el (enc a) 0).wf->Hd prog n N H0 Q (.ops all rest) ks ⟨updp fF d (.el (enc a) 0),fL⟩)(hx:evP fF x = .sl enc xs:=by exact Z)(hy:evP fF y = .int kk i:=by exact Z)(hi:i=m:=by exact Z)(hti:lkT tbu T=some ti:=by exact Z)(htk:ti.k = .slc e:=by exact Z)(hte:lkT tbu e=some te:=by exact Z)(hsz:te.size=(enc a).length:=by exact Z)(hd:Nat.blt d n=true:=by exact Z):Hd prog n N H0 Q (.ops all (⟨some d, .indexAddr T x y,ty,pos,af,none⟩::rest)) ks ⟨fF,fL⟩:=q1 (qidx A_ m hx hy hi hm hti htk hte hsz) hd k
theorem kN(k:Nat){c:Cf}{ks':List Kt}{F':Nat->PV}{L':Nat->Blk}{az:List Nat}{x:Operand}{y z:Code}{t:Prop}{i:Decidable t}(p:t->Hd prog n N H0 Q (.code y) ks' ⟨F',L'⟩)(q:¬t->Hd prog n N H0 Q (.code z) ks' ⟨F',L'⟩)(h:run tbu n k c ks fF fL [] [] []=some ⟨.code (.cond x y z),ks',F',L',[],az,az⟩:=by exact Z)(hc:evP F' x = .bool (decide t):=by exact Z):Hd prog n N H0 Q c ks ⟨fF,fL⟩:=kA k (cn hc p q) h Z
theorem kM(k:Nat){c:Cf}{ks':List Kt}{F':Nat->PV}{L':Nat->Blk}{az:List Nat}{x:Operand}{y z:Code}{t:Bool}(p:t=true->Hd prog n N H0 Q (.code y) ks' ⟨F',L'⟩)(q:t=false->Hd prog n N H0 Q (.code z) ks' ⟨F',L'⟩)(h:run tbu n k c ks fF fL [] [] []=some ⟨.code (.cond x y z),ks',F',L',[],az,az⟩:=by exact Z)(hc:evP F' x = .bool t:=by exact Z):Hd prog n N H0 Q c ks ⟨fF,fL⟩:=kA k (cnd hc p q) h Z
theorem kL(k:Nat){c:Cf}{ks':List Kt}{F':Nat->PV}{L':Nat->Blk}{az:List Nat}{rest:List Oper}{f:FuncId}{args:List PV}{res:PV}{x:Operand}{xs:Array Operand}{ats:Array TypeId}{ty d:Nat}{pos:String}{af:Array Edge}(g:Fn prog H0.g f args res)(h:run tbu n k c ks fF fL [] [] []=some ⟨.ops all (⟨some d, .call ⟨.value x,xs,ats⟩,ty,pos,af,none⟩::rest),ks',F',L',[],az,az⟩)(ha:argsP F' x xs.toList=some (f,args))(hd:Nat.blt d n=true)(q:res.wf->Hd prog n N H0 Q (.ops all rest) ks' ⟨updp F' d res,L'⟩):Hd prog n N H0 Q c ks ⟨fF,fL⟩:=kA k (call g ha hd q) h Z
theorem kR(k:Nat){c:Cf}{F':Nat->PV}{L':Nat->Blk}{az as0:List Nat}{rs:List ResultVar}{res p:PV}(q:p=res)(h:run tbu n k c ks fF fL [] [] []=some ⟨.ex .ret,[],F',L',[],az,az⟩:=by exact Z)(hs:Jv_ tbu ⟨F',L'⟩ rs=some ([p],as0,as0):=by exact Z):Hd prog n N H0 (rtK tbu rs res) c ks ⟨fF,fL⟩:=kA k (rt1 hs Z (ple q)) h Z
theorem jA(k:Nat){c c':Cf}{ks':List Kt}{F':Nat->PV}{L':Nat->Blk}{az:List Nat}(h:run tbu n k c ks fF fL [] [] []=some ⟨c',ks',F',L',[],az,az⟩)(q:Hd prog n N H0 Q c' ks' ⟨F',L'⟩):Hd prog n N H0 Q c ks ⟨fF,fL⟩:=kA k q h Z
theorem jG{G:Gb}{m:Nat}{f:FuncId}{fn:Func}{c:Code}{args:List PV}{res:PV}(hf:prog.funcs[f]? = some fn)(hn:fn.ntmps=m)(hb:fn.body=some c)(h:PV.wfs args->∀ N H,G.p H->Hd prog m N ⟨H,G⟩ (rtK tbu fn.results.toList res) (.code c) [] ⟨O4_ args,λ_=> .no⟩)(hs:Nat.ble args.length m=true:=by exact rfl)(h1:(fn.name == "runtime.NumGoroutine")=false:=by kernel_rfl)(h2:fn.body.isNone=false:=by kernel_rfl)(hno:res.noOsl=true:=by exact rfl)(hna:Du_ args=true:=by exact rfl):Fn prog G f args res:=kG hf hn h hb hs h1 h2 hno hna
theorem jI{T ty d:Nat}{rest:List Oper}{pos:String}{af:Array Edge}{x y:Operand}{α:Type}{ti te:TI}{e:TypeId}{enc:α->List PV}{xs:List α}{kk:IntKind}{i:Int}(m:Nat){a:α}(hm:xs[m]? = some a)(hx:evP fF x = .sl enc xs)(hy:evP fF y = .int kk i)(hi:i=m)(k:(PV.el (enc a) 0).wf->Hd prog n N H0 Q (.ops all rest) ks ⟨updp fF d (.el (enc a) 0),fL⟩)(hti:lkT tbu T=some ti:=by exact rfl)(htk:ti.k = .slc e:=by exact rfl)(hte:lkT tbu e=some te:=by exact rfl)(hsz:te.size=(enc a).length:=by exact rfl)(hd:Nat.blt d n=true:=by exact rfl):Hd prog n N H0 Q (.ops all (⟨some d, .indexAddr T x y,ty,pos,af,none⟩::rest)) ks ⟨fF,fL⟩:=kI m hm k hx hy hi hti htk hte hsz hd
theorem jB(k:Nat)(is:List Nat){c c':Cf}{ks':List Kt}{F':(Nat->Nat)->Nat->PV}{L':(Nat->Nat)->Nat->Blk}{az:(Nat->Nat)->List Nat}(h:(λB=>runE tbu n k is B c ks fF fL [] [] [])=λB=>some ⟨c',ks',F' B,L' B,[],az B,az B⟩)(q:∀ B:Nat->Nat,Hd prog n N H0 Q c' ks' ⟨F' B,L' B⟩):Hd prog n N H0 Q c ks ⟨fF,fL⟩:=kB k is q (λB=>congrFun h B) λ_=>rfl
theorem jC(k:Nat){c c':Cf}{ks':List Kt}{F':Nat->PV}{L':Nat->Blk}{ps:List Prop}{az:List Nat}(h:run tbu n k c ks fF fL [] [] []=some ⟨c',ks',F',L',ps,az,az⟩)(q:Hd prog n N H0 Q c' ks' ⟨F',L'⟩)(hp:AllP ps:=by repeat' (first|exact U|refine And.intro ?_ ?_|exact λhc=>hc|exact Z|exact λhc=>rfl|omega|(intro hc;omega)|(intro hc;rw[hc];rfl))):Hd prog n N H0 Q c ks ⟨fF,fL⟩:=kC k q h rfl hp
theorem jD(k:Nat)(is:List Nat){c c':Cf}{ks':List Kt}{F':(Nat->Nat)->Nat->PV}{L':(Nat->Nat)->Nat->Blk}{ps:(Nat->Nat)->List Prop}{az:(Nat->Nat)->List Nat}(h:(λB=>runE tbu n k is B c ks fF fL [] [] [])=λB=>some ⟨c',ks',F' B,L' B,ps B,az B,az B⟩)(q:∀ B:Nat->Nat,Hd prog n N H0 Q c' ks' ⟨F' B,L' B⟩)(hp:∀ B,AllP (ps B):=by intro B;repeat' (first|exact U|refine And.intro ?_ ?_|exact λhc=>hc|exact Z|exact λhc=>rfl|omega|(intro hc;omega)|(intro hc;rw[hc];rfl))):Hd prog n N H0 Q c ks ⟨fF,fL⟩:=kD k is q (λB=>congrFun h B) (λ_=>rfl) hp
theorem jE(order:List Nat)(f:Nat){xs:Option (List Nat)}{fuel:Nat}{listed:Array Bool}{F':Nat->PV}{L':Nat->Blk}{az:List Nat}(h:runV tbu xs all order fF fL [] [] []=some ⟨F',L',[],az,az⟩)(q:Hv prog n N H0 Q xs all f (lst listed order) ks ⟨F',L'⟩)(hf:fuel=f+order.length:=by exact rfl)(hc:chkV n all order listed=true:=by kernel_rfl):Hv prog n N H0 Q xs all fuel listed ks ⟨fF,fL⟩:=kE order f q hf hc h rfl
theorem jx{tb:Tb}(ht:tbB prog tb=true)(k:Nat){c c':Cf}{ks':List Kt}{F':Nat->PV}{L':Nat->Blk}{az:List Nat}(h:run tb n k c ks fF fL [] [] []=some ⟨c',ks',F',L',[],az,az⟩)(q:Hd prog n N H0 Q c' ks' ⟨F',L'⟩):Hd prog n N H0 Q c ks ⟨fF,fL⟩:=gx ht k q h rfl
theorem jy{tb:Tb}(ht:tbB prog tb=true)(k:Nat){c c':Cf}{ks':List Kt}{F':Nat->PV}{L':Nat->Blk}{ps:List Prop}{az:List Nat}(h:run tb n k c ks fF fL [] [] []=some ⟨c',ks',F',L',ps,az,az⟩)(q:Hd prog n N H0 Q c' ks' ⟨F',L'⟩)(hp:AllP ps:=by repeat' (first|exact U|refine And.intro ?_ ?_|exact λhc=>hc|exact Z|exact λhc=>rfl|omega|(intro hc;omega)|(intro hc;rw[hc];rfl))):Hd prog n N H0 Q c ks ⟨fF,fL⟩:=gy ht k q h rfl hp
theorem jX{tb:Tb}(ht:tbB prog tb=true)(order:List Nat)(f:Nat){xs:Option (List Nat)}{fuel:Nat}{listed:Array Bool}{F':Nat->PV}{L':Nat->Blk}{az:List Nat}(h:runV tb xs all order fF fL [] [] []=some ⟨F',L',[],az,az⟩)(q:Hv prog n N H0 Q xs all f (lst listed order) ks ⟨F',L'⟩)(hf:fuel=f+order.length:=by exact rfl)(hc:chkV n all order listed=true:=by kernel_rfl):Hv prog n N H0 Q xs all fuel listed ks ⟨fF,fL⟩:=gX ht order f q hf hc h rfl
theorem jF{tb:Tb}{G:Gb}{m:Nat}{f:FuncId}{fn:Func}{c:Code}{args:List PV}{α:Type}{enc:α->PV}{a b:α}(hf:prog.funcs[f]? = some fn)(ht:tbB prog tb=true)(e:a=b)(hn:fn.ntmps=m)(hb:fn.body=some c)(h:PV.wfs args->∀ N H,G.p H->∀ z,z=b->Hd prog m N ⟨H,G⟩ (rtK tb fn.results.toList (enc z)) (.code c) [] ⟨O4_ args,λ_=> .no⟩)(hs:Nat.ble args.length m=true:=by exact Z)(h1:(fn.name == "runtime.NumGoroutine")=false:=by kernel_rfl)(h2:fn.body.isNone=false:=by kernel_rfl)(hno:(enc a).noOsl=true:=by exact Z)(hna:Du_ args=true:=by exact Z):Fn prog G f args (enc a):=fD hf ht e h hn hb hs h1 h2 hno hna
end
def gb:Gb:=⟨λH=>GInt H 1/\GTab H 0 laidT/\GPow H 6,λH H' hl h=>⟨h.1.mono hl,h.2.1.mono hl,h.2.2.mono hl⟩⟩
abbrev aC:=@Fn prog gb
theorem gbML{H:Hp}(h:gb.p H):GInt H 1:=h.1
theorem gbCrc{H:Hp}(h:gb.p H):GTab H 0 laidT:=h.2.1
theorem gbPow{H:Hp}(h:gb.p H):GPow H 6:=h.2.2
theorem r4_letter{c:Int}:aC 131 [.int .u8 c] (.bool (letter c)):=by
 refine jG func131 ntmps131 Z λw N H hG=>jC 33 Z<|rt1 Z Z (ple ?_);simp[letter, *]
theorem Yz_{s:Bs}:aC 162 [.str s] (.bool (plain s)):=by
 refine kG func162 ntmps162 λw N H hG=>?_;have s_l:s.length<=9223372036854775807:=w.1;refine jA 14 Z<|lP (ι:=Nat) [0,5,6] [] (λk=>⟨[(7,aA k)],[],k<=s.length/\(s.drop k).all (λc=>letter c.toNat)=plain s,s.length-k⟩) 0 ⟨by omega,rfl⟩<|λk ⟨hk1,hk2⟩=>kN 6 (λp0=>?_) λp1=>?_;have :=u8r (s.getD k 0);refine jA 14 Z<|q1 (sidx A_ k Z Z Z Z Z qD) Z λw0=>jC 16 Z<|cnd Z (λh0=>have h1:=bl h0;have p2:=dt h1;have h2:=br h0;have p3:=dt h2;jA 2 Z<|cndT Z h0<|vF) λh0=>jC 11 Z<|cnd Z (λh1=>have h2:=bl h1;have p2:=dt h2;have h3:=br h1;have p3:=dt h3;jA 2 Z<|cndT Z h1<|vF) λh1=>kM 7 (λh2=>?_) (λh2=>?_);have p2:=dt h2;exact jA 2 Z<|cndT Z h2<|vF;have p2:=df h2;refine kN 6 (λp3=>?_) λp4=>?_;exact vF;refine kR 12 ?_;exact xR;refine kR 11 ?_;exact xR
theorem F0_{s:Bs}:aC 86 [.str s] (aA (F1_ s)):=by
 refine jG func86 ntmps86 Z λw N H hG=>kN 14 (λp0=>?_) λp1=>?_;exact vQ;refine kN 8 (λp2=>?_) λp3=>?_;exact vQ;refine kL 3 Yz_ Z Z Z λw0=>kM 4 (λh0=>?_) (λh0=>?_);have h1:=Ff_ h0;exact vQ;have h1:=D6_ h0;refine kR 9 ?_;simp[F1_, *]<;>omega
theorem out_Num(o:Out)(n bytes:Int)(hlen:o.s.length<=4611686018427387904):Fn prog gb 75 [.agg (Out.pc o),.int .u64 n,.int .i64 bytes] (.agg (Out.pc (C_ o n bytes))):=
 fn_of_pr (vs:=[.agg [str o.s, .int .i64 o.err].toArray, .int .u64 n, .int .i64 bytes]) (v:= .agg [str (C_ o n bytes).s, .int .i64 (C_ o n bytes).err].toArray) (P_ func75) Z Z
   (λw H=>Sims.cons (Sim.toAgg (Sims.cons (Sim.str w.1.1) (Sims.cons (Sim.int w.1.2.1.1 w.1.2.1.2) Sims.nil))) (Sims.cons (Sim.int w.2.1.1 w.2.1.2) (Sims.cons (Sim.int w.2.2.1.1 w.2.2.1.2) Sims.nil)))
   (λw H=>Sim.toAgg (Sims.cons (Sim.str (by have :=Y_ o n bytes;omega)) (Sims.cons (Sim.int w.1.2.1.1 w.1.2.1.2) Sims.nil)))
   (λw H hG=>SW.out_Num H o n w.2.1 bytes w.2.2.1 hlen)
theorem Kb_(o:Out)(s:Bs)(hlen:o.s.length+s.length<=4611686018427387904:=by ((try have :=hrl qG);first|omega|(simp[C_,Af_,Ad_,numK]<;>omega))):aC 79 [.agg (Out.pc o), .str s] (.agg (Out.pc (Af_ o s))):=by
 exact jG func79 ntmps79 Z λw N H hG=>gmp A_ 23 [0,1] (λ_=>rfl) (λ_=>rfl) (λ_=>⟨(by first|omega|(simp<;>omega)),trivial⟩) λB0=>vW
theorem Di_(o:Out):aC 82 [.agg (Out.pc o)] (.str o.s):=by
 exact jG func82 ntmps82 Z λw N H hG=>jB 14 [0] Z λB0=>vW
theorem Ex_(o:Out){s:Bs}(hlen:o.s.length+s.length<=4611686018427386000:=by ((try have :=hrl qG);first|omega|(simp[C_,Af_,Ad_,numK]<;>omega))):aC 76 [.agg (Out.pc o), .str s] (.agg (Out.pc (J_ o s))):=by
 refine kG func76 ntmps76 λw N H hG=>?_;refine kB 14 [0,1] λB0=>?_;refine cn Z (λp0=>?_) λp1=>?_;refine kN 8 (λp2=>?_) λp3=>?_;refine kB 13 [] λ_=>?_;exact vX;refine kB 10 [] λ_=>?_;exact vX;refine jA 7 Z<|q1 (Ju_ A_ Z Z Z Z Mf_) Z λw0=>call (out_Num _ _ _ qK) Z Z λw1=>?_;have :=Y_ o (s.length:Int) 2;refine kL 1 (Kb_ _ _) Z Z Z λw2=>?_;have :=Eq_ (C_ o (s.length:Int) 2) s;refine kB 4 [] λ_=>?_;exact vX
theorem Oo_{s:Bs}:Fb prog gb 134 [.str s] 310 (In.pc (⟨s,0⟩)):=by
 exact fb_cw A_ func134 Z ntmps134 Z (P_ func134) Z Z λw N H hG=>jB 14 [0] Z λB0=>rb Z Z Z Z Z<|ples_rfl
theorem Jo_{i:In}{code:Int}:Fm prog gb 215 [aA code] 310 (In.pc i) (.tup []) (In.pc (B2_ i code)):=by
 refine S2_ A_ func215 Z ntmps215 Z (P_ func215) Z Z Z Z λw wp b N H hG=>jA 3 Z<|q1 (qpne underlying234 Z Z) Z λw0=>jC 13 Z<|cnd Z (λh0=>?_) (λh0=>?_);have h1:=bl h0;have h2:=br h1;have p0:=dt h2;have h3:=br h0;have h4:=Ff_ h3;have p1:=df h4;refine jB 11 [] Z λ_=>rm0n Z Z ?_ Z Z Z ?_;exact ple (by first|rfl|(simp[B2_, *];done));exact vS;refine jA 1 Z<|rm0n Z Z ?_ Z Z Z ?_;exact ple (by first|rfl|(simp[B2_, *];done));exact vS
theorem W2_{i:In}(n:Int):Fm prog gb 139 [aA n] 310 (In.pc i) (.str ((Fk_ i n).1)) (In.pc ((Fk_ i n).2)):=by
 refine S2_ A_ func139 Z ntmps139 Z (P_ func139) Z Z Z Z λw wp b N H hG=>jA 11 Z<|q1 (qpeq underlying234 Z Z) Z λw0=>kM 14 (λh0=>?_) (λh0=>?_);have h1:=Ff_ h0;have p0:=df h1;refine jA 2 Z<|cndT Z h0<|jA 8 Z<|rm1 Z Z ?_ Z Z ?_;exact zN;exact vU;have h1:=D6_ h0;have p0:=dt h1;refine kN 6 (λp1=>?_) λp2=>?_;refine jA 8 Z<|rm1 Z Z ?_ Z Z ?_;exact zN;exact vU;refine kN 12 (λp3=>?_) λp4=>?_;refine jA 3 Z<|ef (Ag_ Jo_ Z Z Z Z Z λw1 w12p=>jA 10 Z<|rm1 Z Z ?_ Z Z ?_);exact zN;exact vU;refine jA 10 Z<|q1 (sshi A_ (n).toNat Z Z Z Z qD qD) Z λw1=>jA 11 Z<|q1 (sslo A_ (n).toNat Z Z Z Z qD qD) Z λw2=>jB 12 [] Z λ_=>rm1 Z Z ?_ Z Z ?_;exact zN;exact vU
theorem cb291:Aa_ prog 291:=P_ func291
theorem strings_Split(s p:Bs)(hp:p=[46])(hs:s.length<4294967281):aC 291 [.str s, .str p] (.sl strc (dots s)):=
 ⟨cb291,rfl,λN H L w us hg hsim hm=>by
   obtain⟨v1,_,rfl,h1,h2⟩:=hsim.inv_cons;obtain⟨v2,_,rfl,h3,h4⟩:=h2.inv_cons
   cases h4.inv_nil
   rw[h1.inv_str.1,h3.inv_str.1]
   refine (SW.strings_Split H s p hp (gbML hg) hs N L w hm).mono λ_ _ ⟨v,H',h5,⟨a,c,h6,h7⟩,h8,h9⟩=>⟨v,H',h5,?_,h8,h9⟩
   rw[h6]
   exact Sim.of_slh (k:=1) ⟨h7.1,λm hm=>by
     have⟨cs,hE,hat⟩:=h7.2 m hm;have⟨hE1,hE2⟩:=hE;subst hE1;exact⟨_,⟨rfl,Sims.nil.cons (Sim.str hE2),λu hu=>by simp at hu;subst hu;rfl⟩,hat⟩⟩ (by have :=dots_le s;omega)⟩
theorem Sn_{s:Bs}(hs:s.length<4294967281:=by omega):aC 274 [.str s] (.sl strc (El_ s)):=by
 refine jG func274 ntmps274 Z λw N H hG=>kN 12 (λp0=>?_) λp1=>?_;refine jA 7 Z<|rt1 Z Z<|Kz_ ?_;simp[El_, *];refine kL 5 (strings_Split _ _ (by rfl) qD) Z Z Z λw0=>kR 4 ?_;simp[El_, *]
theorem words_key{s:Bs}(besides:List Bs):aC 228 [.str s, .sl strc besides] (aA (keyE besides s)):=by
 refine kG func228 ntmps228 λw N H hG=>?_;have s_l:s.length<=9223372036854775807:=w.1;have besides_l:besides.length<=140737488355328:=w.2.1.1;refine kN 14 (λp0=>?_) λp1=>?_;refine kR 8 ?_;simp[keyE, *];refine kL 9 Sn_ Z Z Z λw0=>jA 5 Z<|lP (ι:=Nat) [0,1,9,10,11,12,13,14] [] (λk=>⟨[(15,aA k)],[],k<=(El_ s).length/\(El_ s).any (isBad besides)=((El_ s).drop k).any (isBad besides),(El_ s).length-k⟩) 0 ⟨Nat.zero_le _,by simp⟩<|λk ⟨hk1,hk2⟩=>have hwl:=words_le s;kN 6 (λp2=>?_) λp3=>?_;have⟨c0,hc0⟩:=getE (xs:=El_ s) (m:=k) qD;refine jA 6 Z<|jI k hc0 Z Z Z λw1=>jA 13 Z<|lP (ι:=Nat) [0,1,6,9,10,11,12,13,14,15,16,17,18,19,20] [] (λj=>⟨[(21,aA j)],[],j<=besides.length/\besides.contains c0=(besides.drop j).contains c0,besides.length-j⟩) 0 ⟨Nat.zero_le _,by simp⟩<|λj ⟨hj1,hj2⟩=>kN 6 (λp4=>?_) λp5=>?_;have⟨c1,hc1⟩:=getE (xs:=besides) (m:=j) qD;refine jA 6 Z<|jI j hc1 Z Z Z λw2=>kN 11 (λp6=>?_) λp7=>?_;refine jC 12 Z<|nN (k+1) ?_;refine⟨by omega,?_⟩;rw[hk2,Fu_ hc0,EO];have hb:isBad besides c0=false:=by
   unfold isBad
   rw[hj2,Fu_ hc1]
   first|(simp[*];done)|simp_all
 simp[hb];refine jC 7 Z<|nN (j+1) ?_;refine⟨by omega,?_⟩;rw[hj2,Fu_ hc1,List.contains_cons];simp[*];refine jA 11 Z<|Ig_ Z (λhc=>(Yz_)) Z λ_=>jC 4 Z<|cnd Z (λh0=>?_) (λh0=>?_);refine kR 12 ?_;have hb:isBad besides c0=true:=by
   exact rG
 unfold keyE;rw[if_neg qD,hk2,Fu_ hc0,EO,hb];rfl;have h1:=orl h0;have p6:=df h1;have h2:=orr h0;have h3:=D6_ h2;refine jC 7 Z<|nN (k+1) ?_;refine⟨by omega,?_⟩;rw[hk2,Fu_ hc0,EO];have hb:isBad besides c0=false:=by
   exact rG
 simp[hb];refine kR 12 ?_;unfold keyE;exact tO
theorem words_Key{s:Bs}:aC 164 [.str s] (aA (keyE [] s)):=by
 refine jG func164 ntmps164 Z λw N H hG=>kL 8 (Fn.le (words_key []) (B_ (ple Z) (B_ As_ A0_)) (ple Z) Z) Z Z Z λw0=>kR 4 ?_;rfl
theorem ag2:Ag prog 2 false:=λw=>by kernel_rfl
theorem ag5:Ag prog 5 false:=λw=>by kernel_rfl
theorem ag9:Ag prog 9 false:=λw=>by kernel_rfl
theorem eqg232:prog.eqGuardType prog.depth 232=false:=by kernel_rfl
theorem mixd:prog.follows .mixedOrders=true:=by kernel_rfl
theorem veq232(p q:Pair):∀ (H:Hp) (vs us:List Value),Sims H (Pair.pc p) vs->Sims H (Pair.pc q) us->EqV prog 10000 232 (.agg vs.toArray) (.agg us.toArray) (decide (p=q)):=by
 intro H vs us hv hu;obtain⟨_,_,rfl,v0,v_0⟩:=hv.inv_cons;obtain⟨_,_,rfl,v1,v_1⟩:=v_0.inv_cons;obtain⟨_,_,rfl,v2,v_2⟩:=v_1.inv_cons;obtain⟨_,_,rfl,v3,v_3⟩:=v_2.inv_cons
 cases v_3.inv_nil
 cases v0.inv_str.1;cases v1.inv_int.1;cases v2.inv_int.1;cases v3.inv_str.1
 obtain⟨_,_,rfl,u0,u_0⟩:=hu.inv_cons;obtain⟨_,_,rfl,u1,u_1⟩:=u_0.inv_cons;obtain⟨_,_,rfl,u2,u_2⟩:=u_1.inv_cons;obtain⟨_,_,rfl,u3,u_3⟩:=u_2.inv_cons
 cases u_3.inv_nil
 cases u0.inv_str.1;cases u1.inv_int.1;cases u2.inv_int.1;cases u3.inv_str.1
 exact EqV.to' (Lb_ underlying232 (Jr_ ag9 Z Z (Rq_ underlying9) (Jr_ ag5 Z Z (Dz_ underlying5) (Jr_ ag2 Z Z (Dz_ underlying2) (Jr_ ag9 Z Z (Rq_ underlying9) La_))))) nM
theorem eq_Pair{a:List Pair}{b:List Pair}:aC 256 [.sl Pair.pc a, .sl Pair.pc b] (.bool (decide (a=b))):=by
 refine kG func256 ntmps256 λw N H hG=>?_;have a_l:a.length<=140737488355328:=w.1.1;refine kM 15 (λh0=>?_) (λh0=>?_);exact yS;have h1:=D6_ h0;have p0:=dt h1;refine jA 11 Z<|lP (ι:=Nat) [0,1,6,7,8,9,10,11,12] [] (λk=>⟨[(13,aA k)],[],k<=a.length /\ decide (a=b) = decide (a.drop k=b.drop k),a.length-k⟩) 0 ⟨Nat.zero_le _,rfl⟩<|λk ⟨hk1,hk2⟩=>kM 6 (λh2=>?_) (λh2=>?_);have p1:=dt h2;refine jA 11 Z<|aN [0,1,2,3,4,5] 9 mixd<|kE [0,1] 7 ?_;have⟨c0,hc0⟩:=getE (xs:=a) (m:=k) qD;refine vq 2 (qidx A_ k Z Z Z hc0 Z Z Z Z) Z λw0=>kE [3,4,5] 3 ?_;have⟨c1,hc1⟩:=getE (xs:=b) (m:=k) qD;refine vq 6 (qidx A_ k Z Z Z hc1 Z Z Z Z) Z λw1=>jE [7] 1 Z<|vq 8 (sane Z Z eqg232 (veq232 c0 c1)) Z λw2=>vD<|kM 1 (λh3=>?_) (λh3=>?_);exact yV;exact yU;exact xB
theorem head_Same{a:List Pair}{b:List Pair}:aC 226 [.sl Pair.pc a, .sl Pair.pc b] (.bool (decide (a=b))):=by
 refine jG func226 ntmps226 Z λw N H hG=>kL 9 eq_Pair Z Z Z λw0=>kR 4 ?_;rfl
theorem idxF_Pair{s:List Pair}{f:FuncId}{f_fst f_cap:List PV}(f_p:Pair->Bool)(f_h:∀ x,aC f (argsP.apL f_fst ((.agg (Pair.pc x))::f_cap)) (.bool (f_p x))):aC 272 [.sl Pair.pc s, .fn f f_fst f_cap] (aA (idxP f_p s)):=by
 refine kG func272 ntmps272 λw N H hG=>?_;have s_l:s.length<=140737488355328:=w.1.1;refine jA 14 Z<|lP (ι:=Nat) [0,1,6,7] [] (λk=>⟨[(8,aA k)],[],k<=s.length/\idxP f_p s=idxF f_p k (s.drop k),s.length-k⟩) 0 ⟨Nat.zero_le _,rfl⟩<|λk ⟨hk1,hk2⟩=>kM 6 (λh0=>?_) (λh0=>?_);have p0:=dt h0;have⟨c0,hc0⟩:=getE (xs:=s) (m:=k) qD;refine jA 15 Z<|jI k hc0 Z Z Z λw0=>kL 1 (f_h c0) Z Z Z λw1=>kM 2 (λh1=>?_) (λh1=>?_);exact vN;exact vB;exact yZ
theorem head_Find1(p:Pair)(key:Bs):aC 273 [.agg (Pair.pc p), .el [.str key] 0] (.bool (decide (p.key=key))):=by
 exact jG func273 ntmps273 Z λw N H hG=>jB 16 [0] Z λB0=>vW
theorem head_Find{h:List Pair}{key:Bs}:aC 227 [.sl Pair.pc h, .str key] (.tup [.agg (Pair.pc ((Y6_ h key).getD Pair.zero)), .bool ((Y6_ h key).isSome)]):=by
 refine jG func227 ntmps227 Z λw N H hG=>jB 10 [0,1] Z λB0=>freeze (i:=0) (t:=3) Z Z Z Z<|kL 1 (idxF_Pair (λz_4:Pair=>decide (z_4.key=key)) (λz_4=>head_Find1 z_4 key)) Z Z Z λw0=>have hix5:=Nl_ (λz_4:Pair=>decide (z_4.key=key)) h;kN 10 (λp0=>?_) λp1=>?_;refine jB 9 [] Z λ_=>rt2 Z Z<|ple ?_;have e:=S5_ qG;have e0:Y6_ h key=none:=by unfold Y6_;rw[<- e];congr 1;funext x;exact Xs_ _ _
 rw[e0];rfl;have⟨c0,hc0⟩:=getE (xs:=h) (m:=(idxP (λz_4:Pair=>decide (z_4.key=key)) h).toNat) qD;refine jA 6 Z<|q1 (qidx A_ (idxP (λz_4:Pair=>decide (z_4.key=key)) h).toNat Z Z qD hc0 Z Z Z Z) Z λw1=>jB 6 [] Z λ_=>rt2 Z Z<|ple ?_;have e:=(idxP_get qG hc0).2;have e0:Y6_ h key=some c0:=by unfold Y6_;rw[<- e];congr 1;funext x;exact Xs_ _ _
 rw[e0];rfl
theorem Wy_{p:Pair}{ahead:List Pair}:aC 163 [.agg (Pair.pc p), .sl Pair.pc ahead] (aA (Fg_ p ahead)):=by
 refine jG func163 ntmps163 Z λw N H hG=>jB 11 [0] Z λB0=>call F0_ Z Z λw0=>kM 9 (λh0=>?_) (λh0=>?_);have h1:=Ff_ h0;exact vP;have h1:=D6_ h0;have p0:=dt h1;refine kL 7 head_Find Z Z Z λw1=>jB 18 [1] Z λB1=>cnd Z (λh2=>have p1:=dt h2;vP) λh2=>have p1:=df h2;jC 14 Z<|cnd Z (λh3=>have h4:=bl h3;have h5:=br h3;vP) λh3=>jC 18 Z<|cnd Z (λh4=>have h5:=bl h4;have h6:=bl h5;have p2:=dt h6;have h7:=br h5;have h8:=Ff_ h7;have h9:=br h4;have h10:=Ff_ h9;vP) λh4=>jC 14 Z<|cnd Z (λh5=>have h6:=bl h5;have p2:=dt h6;have h7:=br h5;have h8:=Ff_ h7;jA 2 Z<|cndT Z h5<|vP) λh5=>jC 12 Z<|cnd Z (λh6=>have h7:=bl h6;have h8:=Ff_ h7;have h9:=br h6;have h10:=Ff_ h9;vP) λh6=>kM 6 (λh7=>?_) (λh7=>?_);exact vP;refine kR 9 ?_;refine congrArg (PV.int .i64) ?_;simp only[bl1] at *;unfold Fg_;exact zA
theorem Mu_{h:List Pair}:aC 89 [.sl Pair.pc h] (aA (H2_ h)):=by
 refine jG func89 ntmps89 Z λw N H hG=>kN 13 (λp0=>?_) λp1=>?_;refine kR 7 ?_;simp[H2_, *];refine jA 11 Z<|lP (ι:=Nat) [0,6,7,8,9,10] [] (λk=>⟨[(11,aA k)],[],k<=h.length/\Md_ [] h=Md_ (h.take k) (h.drop k),h.length-k⟩) 0 ⟨Nat.zero_le _,rfl⟩<|λk ⟨hk1,hk2⟩=>kN 6 (λp2=>?_) λp3=>?_;have⟨c0,hc0⟩:=getE (xs:=h) (m:=k) qD;refine jA 7 Z<|jI k hc0 Z Z Z λw0=>jB 7 [0] Z λB0=>aN [1,2,3,4,5,6] 6 mixd<|jE [0,1,2] 3 Z<|vq 3 (lshi A_ k Z Z Z Z Z (λ_=>rfl) Z) Z λw1=>vC 4 Z Wy_ Z λw2=>have :=Tt_ c0 (h.take k);jE [5] 0 Z<|vD<|kM 7 (λh0=>?_) (λh0=>?_);have h1:=Ff_ h0;have p4:=df h1;refine kR 12 ?_;unfold H2_;rw[if_neg qD,hk2,Fu_ hc0];simp only[Md_];rw[if_pos qD];have h1:=D6_ h0;have p4:=dt h1;refine jC 7 Z<|nN (k+1) ?_;refine⟨by omega,?_⟩;rw[hk2,Fu_ hc0,takeE hc0];simp only[Md_];rw[if_neg qD];refine kR 11 ?_;unfold H2_;exact tO
theorem deed_sameBind{a:Q_}{b:Q_}:aC 160 [a.ag,b.ag] (.bool (decide (a=b))):=by
 exact jG func160 ntmps160 Z λw N H hG=>jD 40 [0,1] Z λB0=>Ig_ Z (λhc=>(head_Same)) Z λ_=>jC 12 Z<|rt1 Z Z (ple<|congrArg PV.bool (by rw[BE];first|(simp[Q_.eq_iff,and_assoc];done)|(simp[Q_.eq_iff];grind)))
theorem Vw_{yes:Bool}:aC 201 [.bool yes] (aB (bitN yes)):=by
 refine jG func201 ntmps201 Z λw N H hG=>kM 11 (λh0=>?_) (λh0=>?_);refine kR 7 ?_;simp only[bitN, *];rfl;refine kR 8 ?_;simp only[bitN, *];rfl
theorem Dt_(i:In){bytes:Int}:Fm prog gb 135 [aA bytes] 310 (In.pc i) (aB (((R_ i bytes)).1)) (In.pc (((R_ i bytes)).2)):=by
 refine S2_ A_ func135 Z ntmps135 Z (P_ func135) Z Z Z Z λw wp b N H hG=>have hb0:=Px_ i (min bytes 8);jA 16 Z<|ef (Ag_ (W2_ (min bytes 8)) Z Z Z Z Z λw0 w1p=>ef (ss2b A_ Z Z Z Z Z Z Z qD Z<|jA 5 Z<|lP (ι:=Nat) [0,1,4,8,9,10,11,12,13] [0] (λk=>⟨[(5,aB (beN ((Fk_ i (min bytes 8)).1.take k):Int)),(14,aA k)],[],k<=(Fk_ i (min bytes 8)).1.length,(Fk_ i (min bytes 8)).1.length-k⟩) 0 ?_ ?_));exact AT _;rintro k hp0;refine kN 6 (λp0=>?_) λp1=>?_;have⟨c0,hc0⟩:=getE (xs:=(Fk_ i (min bytes 8)).1) (m:=k) qD;refine jA 6 Z<|jI k hc0 Z Z Z λw1=>have :=G9_ ((AF (AC .u64) (A0 .u64 ((beN ((Fk_ i (min bytes 8)).1.take k):Int)*2 ^ (min (8:Int).toNat (AC .u64)))) |||AF (AC .u64) ((c0).toNat:Int)).toNat);jC 18 Z<|nN (k+1) ?_ (hA:=⟨(congrArg (PV.int .u64) (num_step hc0 qD)),rfl,trivial⟩);omega;refine jA 12 Z<|rm1 Z Z ?_ Z Z ?_;refine ple ?_;simp only[R_];rw[List.take_of_length_le qD];exact ples Z
theorem Fr_{i:In}{most:Int}:Fm prog gb 211 [aA most] 310 (In.pc i) (.str (((V_ i most)).1)) (In.pc (((V_ i most)).2)):=by
 refine S2_ A_ func211 Z ntmps211 Z (P_ func211) Z Z Z Z λw wp b N H hG=>jA 8 Z<|ef (Ag_ (Dt_ _) Z Z Z Z Z λw0 w1p=>have :=Ao_ i 2;q1 (Ju_ A_ Z Z Z Z Vd_) Z λw1=>kN 11 (λp0=>?_) λp1=>?_);refine jA 2 Z<|ef (Ag_ Jo_ Z Z Z Z Z λw2 w5p=>jA 6 Z<|ef (Ag_ (W2_ _) Z Z Z Z Z λw3 w6p=>jA 4 Z<|rm1 Z Z ?_ Z Z ?_));exact ple (by simp[V_, *]);exact ples (by simp[V_,In.pc, *]);refine jA 6 Z<|ef (Ag_ (W2_ _) Z Z Z Z Z λw2 w8p=>jA 4 Z<|rm1 Z Z ?_ Z Z ?_);exact ple (by simp[V_, *]);exact ples (by simp[V_,In.pc, *])
theorem in_Left{i:In}:Fm prog gb 217 [] 310 (In.pc i) (aA (i.s.length:Int)) (In.pc i):=by
 refine S2_ A_ func217 Z ntmps217 Z (P_ func217) Z Z Z Z λw wp b N H hG=>jA 9 Z<|q1 (qpeq underlying234 Z Z) Z λw1=>jA 16 Z<|rm1 Z Z ?_ Z Z ?_;exact ple Z;exact ples Z
theorem H9_{i:In}:Fm prog gb 144 [] 310 (In.pc i) (aA i.err) (In.pc i):=by
 refine S2_ A_ func144 Z ntmps144 Z (P_ func144) Z Z Z Z λw wp b N H hG=>jA 9 Z<|q1 (qpeq underlying234 Z Z) Z λw1=>jA 15 Z<|rm1 Z Z ?_ Z Z ?_;exact ple Z;exact ples Z
theorem in_End{i:In}:Fm prog gb 141 [] 310 (In.pc i) (aA (Vj_ i)) (In.pc i):=by
 refine S2_ A_ func141 Z ntmps141 Z (P_ func141) Z Z Z Z λw wp b N H hG=>jA 9 Z<|ef (Ag_ H9_ Z Z Z Z Z λw0 w1p=>jA 3 Z<|Ss_ Z (λhc=>(in_Left)) Z Z Z Z λ_=>jC 4 Z<|cnd Z (λh0=>?_) (λh0=>?_));have h1:=bl h0;have p0:=dt h1;have h2:=br h0;have p1:=dt h2;refine jA 7 Z<|rm1 Z Z ?_ Z Z ?_;exact qC;exact ples Z;refine jA 5 Z<|ef (Ag_ H9_ Z Z Z Z Z λw1 w7p=>jA 4 Z<|rm1 Z Z ?_ Z Z ?_);exact qC;exact ples Z
theorem Mt_{pattern:Bs}{key:Bs}(hp:pattern.length<4294967281:=by first|omega|(simp;done)|decide)(hk:key.length<4294967281:=by first|omega|(simp;done)|decide):aC 275 [.str pattern, .str key] (.bool (mt (El_ pattern) (El_ key))):=by
 refine jG func275 ntmps275 Z λw N H hG=>kL 8 Sn_ Z Z Z λw0=>kL 1 Sn_ Z Z Z λw1=>jA 18 Z<|lP (ι:=Nat×Nat×Int×Nat) [0,1,5,6,11,12,13,14] [] (λ⟨i,j,b,f⟩=>⟨[(7,aA i),(8,aA j),(9,aA b),(10,aA f)],[],MI (El_ pattern) (El_ key) i j b f,mmu (El_ pattern) (El_ key) j b f⟩) ⟨0,0,(-1),0⟩ ?_ ?_;exact MI.start _ _;rintro⟨i,j,b,f⟩ hp0;have hmi:=hp0;have hwp:=words_le pattern;have hwk:=words_le key;have :=hmi.hi;have :=hmi.hj;have :=hmi.hf;have :=hmi.hb;have :=hmi.hbi;refine kM 9 (λh0=>?_) (λh0=>?_);have p0:=dt h0;have⟨c0,hc0⟩:=getJ (El_ pattern) i;refine jA 13 Z<|q1g [25,26] Z (λhc=>qidx A_ i Z Z Z (hc0 qN) Z Z Z Z) λ_=>jC 6 Z<|cnd Z (λh1=>?_) (λh1=>?_);have h2:=bl h1;have p1:=dt h2;have h3:=br h1;have p2:=dt h3;refine kC 15 ?_;have⟨c1,hc1⟩:=getE (xs:=El_ key) (m:=j) qD;refine next ⟨(i+1),j,((i:Int)+1),j⟩ Z Z ⟨(congrArg (PV.int .i64) qD),rfl,rfl,rfl,trivial⟩ U ?_ ?_;exact mmu_hash hmi qD;exact MI.hash hmi nE;refine jA 1 Z<|aN [0,1,2,3,4,5] 23 mixd<|jE [0,1,2,3,4,5,6] 16 Z<|vqg 7 [41,42] Z Z (λhc=>qidx A_ i Z Z Z (hc0 qN) Z Z Z Z) λ_=>kF [8,9,10,11,12] 10 ?_;refine vqg 13 [47,48] Z Z (λhc=>qidx A_ i Z Z Z (hc0 qN) Z Z Z Z) λ_=>kF [14,15,16] 6 ?_;have⟨c1,hc1⟩:=getJ (El_ key) j;refine vqg 17 [51,52] Z Z (λhc=>qidx A_ j Z Z Z (hc1 qN) Z Z Z Z) λ_=>kF [18,19,20,21,22] 0 ?_;refine vD<|kM 1 (λh2=>?_) (λh2=>?_)
 . have h3:=bl h2;have p1:=dt h3;refine jC 10 Z<|next ⟨(i+1),(j+1),b,f⟩ Z Z ⟨(congrArg (PV.int .i64) qD),rfl,rfl,rfl,trivial⟩ U ?_ ?_
   exact mmu_step qD
   first|exact MI.step hmi (hc0 qN) (hc1 qN) qG (by first|exact .inl qG|exact .inr qG)|exact MI.step hmi (hc0 qN) (hc1 qN) (by simp_all) (by first|(left;simp_all;done)|(right;simp_all;done)|grind)
 refine kM 7 (λh3=>?_) (λh3=>?_);have p1:=dt h3;refine kC 15 ?_;have hbad:∀ w,(El_ pattern)[i]? = some w->w≠[35]/\w≠[42]/\w≠c1:=by
   intro w hw;have⟨hlt,_⟩:=List.getElem?_eq_some_iff.1 hw
   rw[(hc0 qN)] at hw;cases hw
   first|exact⟨by assumption,by assumption,by assumption⟩|(refine⟨?_,?_,?_⟩<;>intro q<;>simp_all)
 refine next ⟨b.toNat,(f+1),b,(f+1)⟩ Z Z ⟨(congrArg (PV.int .i64) qD),rfl,rfl,rfl,trivial⟩ U ?_ ?_;exact mmu_back hmi.hf qD;exact MI.back hmi (hc1 qN) qD hbad;have p1:=df h3;refine kR 11 ?_;have hbad:∀ w,(El_ pattern)[i]? = some w->w≠[35]/\w≠[42]/\w≠c1:=by
   intro w hw;have⟨hlt,_⟩:=List.getElem?_eq_some_iff.1 hw
   rw[(hc0 qN)] at hw;cases hw
   first|exact⟨by assumption,by assumption,by assumption⟩|(refine⟨?_,?_,?_⟩<;>intro q<;>simp_all)
 exact congrArg PV.bool (MI.none hmi (hc1 qN) qD hbad).symm;have p0:=df h0;refine jA 7 Z<|lP (ι:=Nat) [0,1,5,6,8,9,10,11,12,13,14,15,16,17,18] [] (λq=>⟨[(7,aA q)],[],q<=(El_ pattern).length/\mt (El_ pattern) (El_ key)=mt ((El_ pattern).drop q) [],(El_ pattern).length-q⟩) i ⟨by omega,hmi.fin qD⟩<|λq ⟨hq1,hq2⟩=>have⟨c0,hc0⟩:=getJ (El_ pattern) q;jA 10 Z<|q1g [74,75] Z (λhc=>qidx A_ q Z Z Z (hc0 qN) Z Z Z Z) λ_=>jC 5 Z<|cnd Z (λh1=>have h2:=bl h1;have p1:=dt h2;have h3:=br h1;have p2:=dt h3;jC 9 Z<|nN (q+1) ⟨by omega,mt_end hq2 nE⟩) λh1=>kR 15 ?_;refine congrArg PV.bool ?_;rw[hq2];by_cases hql:q<(El_ pattern).length;rw[mt_endN (hc0 qN) (by first|assumption|simp_all)];rw[decide_eq_false_iff_not];omega;have hqe:q=(El_ pattern).length:=by omega
 subst hqe;rw[List.drop_length];simp[mt]
theorem words_Pattern{s:Bs}:aC 254 [.str s] (aA (keyE patB s)):=by
 refine jG func254 ntmps254 Z λw N H hG=>jA 8 Z<|ef (bsl 0 strc [[42],[35]] A_ Z Z Z Z Z (λ_=>rfl) Z λu0=>ef (Pk_ 0 Z (words_key _) Z λw0=>kR 4 ?_));rfl
theorem Oc_(h:List Pair):aC 77 [.sl Pair.pc h] (.tup [.str (Bt_ h),aA (H2_ h)]):=by
 refine kG func77 ntmps77 λw N H hG=>?_;have h_l:h.length<=140737488355328:=w.1.1;refine kL 10 Mu_ Z Z Z λw0=>kM 9 (λh0=>?_) (λh0=>?_);have h1:=Ff_ h0;have p0:=df h1;refine jA 9 Z<|rt2 Z Z<|ple ?_;unfold Bt_;rw[if_neg qD];have h1:=D6_ h0;have p0:=dt h1;refine jA 7 Z<|q1 (Ju_ A_ Z Z Z Z Mf_) Z λw1=>call (out_Num aE _ _ qK) Z Z λw2=>have :=Y_ aE (h.length:Int) 1;jB 13 [0] Z λB0=>lP (ι:=Nat×Out) [0,2,3,4,5,8,9,10,11,13,14,15,16,17,18,19] [] (λ⟨k,o⟩=>⟨[(20,aA k)],[(0, .box (B0 0) 161 [.str o.s,aA o.err])],k<=h.length/\h.foldl Iw_ (C_ ⟨[],0⟩ h.length 1)=(h.drop k).foldl Iw_ o/\o.s.length<=8+110*k,h.length-k⟩) ⟨0,(C_ aE (h.length:Int) 1)⟩ ⟨Nat.zero_le _,rfl,by simp at *;omega⟩<|λ⟨k,o⟩ ⟨hk1,hk2,hk3⟩=>have hok:=Lm_ (h:=h) qG;kN 6 (λp1=>?_) λp2=>?_
 . obtain⟨c0,hc0⟩:=getE (xs:=h) (m:=k) qD;have hpk:=hok.2 c0 (A4 hc0);refine jA 6 Z<|jI k hc0 Z Z Z λw3=>jB 6 [1] Z λB1=>aN [2,3,4,5,6,7] 9 mixd<|jE [0,1,2] 6 Z<|vC 3 Z (Ex_ _) Z λw4=>have :=A7_ o c0.key;jE [4,5,6] 2 Z<|vC 7 Z (out_Num _ _ _ qK) Z λw5=>have :=Y_ (J_ o c0.key) c0.kind 1;vT 8 Z (sA A_ ?_);refine vD<|kN 14 (λp3=>?_) λp4=>?_
   . refine jA 5 Z<|call (out_Num _ _ _ qK) Z Z λw6=>have :=Y_ (C_ (J_ o c0.key) c0.kind 1) (A0 .u64 c0.num) 8;jD 9 [] Z λ_=>next ⟨(k+1),(C_ (C_ (J_ o c0.key) c0.kind 1) (A0 .u64 c0.num) 8)⟩ Z Z ⟨Z,U⟩ ⟨Z,U⟩ ?_ ?_
     exact sM
     have e:(C_ (C_ (J_ o c0.key) c0.kind 1) (A0 .u64 c0.num) 8)=Iw_ o c0:=by unfold Iw_;first|(rw[if_pos qD];done)|(rw[if_neg qD,if_pos qD];done)|(rw[if_neg qD,if_neg qD,if_pos qD];done)|(rw[if_neg qD,if_neg qD,if_neg qD];done)
     exact sN
   refine kN 6 (λp5=>?_) λp6=>?_
   . refine kL 4 (Ex_ _) Z Z Z λw6=>have :=A7_ (C_ (J_ o c0.key) c0.kind 1) c0.text;jD 9 [] Z λ_=>next ⟨(k+1),(J_ (C_ (J_ o c0.key) c0.kind 1) c0.text)⟩ Z Z ⟨Z,U⟩ ⟨Z,U⟩ ?_ ?_
     exact sM
     have e:(J_ (C_ (J_ o c0.key) c0.kind 1) c0.text)=Iw_ o c0:=by unfold Iw_;first|(rw[if_pos qD];done)|(rw[if_neg qD,if_pos qD];done)|(rw[if_neg qD,if_neg qD,if_pos qD];done)|(rw[if_neg qD,if_neg qD,if_neg qD];done)
     exact sN
   refine kN 6 (λp7=>?_) λp8=>?_
   . refine jA 5 Z<|call (out_Num _ _ _ qK) Z Z λw6=>have :=Y_ (C_ (J_ o c0.key) c0.kind 1) (A0 .u64 c0.num) 1;jD 9 [] Z λ_=>next ⟨(k+1),(C_ (C_ (J_ o c0.key) c0.kind 1) (A0 .u64 c0.num) 1)⟩ Z Z ⟨Z,U⟩ ⟨Z,U⟩ ?_ ?_
     exact sM
     have e:(C_ (C_ (J_ o c0.key) c0.kind 1) (A0 .u64 c0.num) 1)=Iw_ o c0:=by unfold Iw_;first|(rw[if_pos qD];done)|(rw[if_neg qD,if_pos qD];done)|(rw[if_neg qD,if_neg qD,if_pos qD];done)|(rw[if_neg qD,if_neg qD,if_neg qD];done)
     exact sN
   refine jC 8 Z<|next ⟨(k+1),(C_ (J_ o c0.key) c0.kind 1)⟩ Z Z ⟨Z,U⟩ ⟨Z,U⟩ ?_ ?_
   exact sM
   have e:(C_ (J_ o c0.key) c0.kind 1)=Iw_ o c0:=by unfold Iw_;first|(rw[if_pos qD];done)|(rw[if_neg qD,if_pos qD];done)|(rw[if_neg qD,if_neg qD,if_pos qD];done)|(rw[if_neg qD,if_neg qD,if_neg qD];done)
   exact sN
 refine kL 8 (Di_ _) Z Z Z λw3=>jA 5 Z<|rt2 Z Z<|ple ?_;unfold Bt_;rw[if_pos qG];rw[A9 qD,EC] at hk2;rw[show Wx_ h=o from hk2];have e0:H2_ h=0:=by assumption
 rw[e0]
theorem head_one{i:In}:Fm prog gb 266 [] 310 (In.pc i) (.agg (Pair.pc (((Bx_ i)).1))) (In.pc (((Bx_ i)).2)):=by
 refine S2_ A_ func266 Z ntmps266 Z (P_ func266) Z Z Z Z λw wp b N H hG=>jB 8 [1] Z λB0=>ef (Ag_ Fr_ Z Z Z Z Z λw0 w3p=>?_);have :=Ar_ i 16;generalize hg0:V_ i 16=g0 at *;refine jA 1 Z<|ef (Ag_ (Dt_ _) Z Z Z Z Z λw1 w6p=>?_);have :=Ao_ ((g0).2) 1;generalize hg1:R_ ((g0).2) 1=g1 at *;refine q1 (Ju_ A_ Z Z Z Z Vs_) Z λw2=>jB 19 [2] Z λB1=>cn Z (λp0=>?_) λp1=>?_
 . refine jA 2 Z<|ef (Ag_ (Dt_ _) Z Z Z Z Z λw3 w14p=>?_);have :=Ao_ ((g1).2) 8;generalize hg2:R_ ((g1).2) 8=g2 at *;refine jB 13 [] Z λ_=>rm1 Z Z ?_ Z Z ?_;have e:Bx_ i=((⟨(g0).1,(g1).1,(A0 .i64 ((g2).1)),[]⟩:Pair),((g2).2)):=by unfold Bx_;simp only;(repeat first|simp only[hg0,hg1,hg2]|rw[if_pos qD]|rw[if_neg qD]);all_goals first|rfl|(rw[Gn_];done)|(simp[*];done)|(rw[Gn_];simp[*];done)
   exact zM
   have e:Bx_ i=((⟨(g0).1,(g1).1,(A0 .i64 ((g2).1)),[]⟩:Pair),((g2).2)):=by unfold Bx_;simp only;(repeat first|simp only[hg0,hg1,hg2]|rw[if_pos qD]|rw[if_neg qD]);all_goals first|rfl|(rw[Gn_];done)|(simp[*];done)|(rw[Gn_];simp[*];done)
   exact zO
 refine kN 6 (λp2=>?_) λp3=>?_
 . refine jA 2 Z<|ef (Ag_ Fr_ Z Z Z Z Z λw3 w21p=>?_);have :=Ar_ ((g1).2) 64;generalize hg2:V_ ((g1).2) 64=g2 at *;refine jB 12 [] Z λ_=>rm1 Z Z ?_ Z Z ?_;have e:Bx_ i=((⟨(g0).1,(g1).1,0,(g2).1⟩:Pair),((g2).2)):=by unfold Bx_;simp only;(repeat first|simp only[hg0,hg1,hg2]|rw[if_pos qD]|rw[if_neg qD]);all_goals first|rfl|(rw[Gn_];done)|(simp[*];done)|(rw[Gn_];simp[*];done)
   exact zM
   have e:Bx_ i=((⟨(g0).1,(g1).1,0,(g2).1⟩:Pair),((g2).2)):=by unfold Bx_;simp only;(repeat first|simp only[hg0,hg1,hg2]|rw[if_pos qD]|rw[if_neg qD]);all_goals first|rfl|(rw[Gn_];done)|(simp[*];done)|(rw[Gn_];simp[*];done)
   exact zO
 refine kN 6 (λp4=>?_) λp5=>?_
 . refine jA 2 Z<|ef (Ag_ (Dt_ _) Z Z Z Z Z λw3 w28p=>?_);have :=Ao_ ((g1).2) 1;generalize hg2:R_ ((g1).2) 1=g2 at *;refine q1 (Ju_ A_ Z Z Z Z Vd_) Z λw4=>jB 12 [] Z λ_=>rm1 Z Z ?_ Z Z ?_;have e:Bx_ i=((⟨(g0).1,(g1).1,(g2).1,[]⟩:Pair),((g2).2)):=by unfold Bx_;simp only;(repeat first|simp only[hg0,hg1,hg2]|rw[if_pos qD]|rw[if_neg qD]);all_goals first|rfl|(rw[Gn_];done)|(simp[*];done)|(rw[Gn_];simp[*];done)
   exact zM
   have e:Bx_ i=((⟨(g0).1,(g1).1,(g2).1,[]⟩:Pair),((g2).2)):=by unfold Bx_;simp only;(repeat first|simp only[hg0,hg1,hg2]|rw[if_pos qD]|rw[if_neg qD]);all_goals first|rfl|(rw[Gn_];done)|(simp[*];done)|(rw[Gn_];simp[*];done)
   exact zO
 refine jA 2 Z<|ef (Ag_ Jo_ Z Z Z Z Z λw3 w34p=>jB 10 [] Z λ_=>rm1 Z Z ?_ Z Z ?_);have e:Bx_ i=((⟨(g0).1,(g1).1,0,[]⟩:Pair),(B2_ ((g1).2) 8)):=by unfold Bx_;simp only;(repeat first|simp only[hg0,hg1]|rw[if_pos qD]|rw[if_neg qD]);all_goals first|rfl|(rw[Gn_];done)|(simp[*];done)|(rw[Gn_];simp[*];done)
 exact zM;have e:Bx_ i=((⟨(g0).1,(g1).1,0,[]⟩:Pair),(B2_ ((g1).2) 8)):=by unfold Bx_;simp only;(repeat first|simp only[hg0,hg1]|rw[if_pos qD]|rw[if_neg qD]);all_goals first|rfl|(rw[Gn_];done)|(simp[*];done)|(rw[Gn_];simp[*];done)
 exact zO
theorem S4_{i:In}:Fm prog gb 212 [] 310 (In.pc i) (.sl Pair.pc (((Br_ i)).1)) (In.pc (((Br_ i)).2)):=by
 refine S2_ A_ func212 Z ntmps212 Z (P_ func212) Z Z Z Z λw wp b N H hG=>jA 8 Z<|ef (Ag_ (Dt_ _) Z Z Z Z Z λw0 w1p=>?_);have :=Ao_ i 1;generalize hg0:R_ i 1=g0 at *;refine q1 (Ju_ A_ Z Z Z Z Vd_) Z λw1=>kN 10 (λp0=>?_) λp1=>?_
 . refine jA 2 Z<|ef (Ag_ Jo_ Z Z Z Z Z λw2 w7p=>jA 15 Z<|Id_ (t:=4) (k:=4) (e:=232) 1 Pair.pc Z Z<|lP (ι:=Nat×(List Pair)×Value×In) [0,3,6,7,8,9,10,11,13] [] (λ⟨k,h,u_h,j⟩=>⟨[(4, .osl 1),(14,aA k)],[(1, .arr u_h 4 232 Pair.pc h),(0, .box b 310 [.str j.s,aA j.err])],k<=((g0).1).toNat/\Br_ i=I3_ (((g0).1).toNat-k) j h/\h.length<=k,((g0).1).toNat-k⟩) ⟨0,[],(.slice none 0 0),(B2_ ((g0).2) 6)⟩ ⟨Nat.zero_le _,by unfold Br_;(repeat first|simp only[hg0]|rw[if_pos qD]|rw[if_neg qD]);all_goals rfl,AT _⟩<|λ⟨k,h,u_h,j⟩ ⟨hk1,hk2,hk3⟩=>kN 6 (λp2=>?_) λp3=>?_)
   refine jA 7 Z<|ef (Ag_ head_one Z Z Z Z Z λw3 w11p=>?_);generalize hg1:Bx_ j=g1 at *;refine jB 8 [2] Z λB0=>ef (Ag_ H9_ Z Z Z Z Z λw4 w16p=>kM 3 (λh0=>?_) (λh0=>?_))
   have p4:=dt h0;refine jA 4 Z<|ef (Pk_ 1 Z Wy_ Z λw5=>?_);have :=Tt_ ((g1).1) h;generalize hg2:Fg_ ((g1).1) h=g2 at *;refine ef (Ag_ Jo_ Z Z Z Z Z λw6 w22p=>jA 6 Z<|ef (Ag_ H9_ Z Z Z Z Z λw7 w23p=>kM 3 (λh1=>?_) (λh1=>?_)))
   have h2:=Ff_ h1;have p5:=df h2;refine jA 12 Z<|rm1 Z Z ?_ Z Z ?_
   have e:Br_ i=([],(B2_ ((g1).2) g2)):=by
     exact tL
   exact Kz_ qT
   have e:Br_ i=([],(B2_ ((g1).2) g2)):=by
     exact tL
   exact zO
   have h2:=D6_ h1;have p5:=dt h2;refine jA 5 Z<|ef (bsl 3 Pair.pc [((g1).1)] A_ Z Z Z Z Z (λ_=>rfl) Z λu0=>ef (app A_ [((g1).1)] Z Z Z Z Z Z Z (K6_ Z Z) λu1=>jC 8 Z<|next ⟨(k+1),(h++[((g1).1)]),(u1),(B2_ ((g1).2) g2)⟩ Z Z ⟨Z,Z,U⟩ ⟨Z,Z,U⟩ ?_ ?_))
   exact sM
   exact uR
   have p4:=df h0;refine jA 6 Z<|ef (Ag_ H9_ Z Z Z Z Z λw5 w32p=>jA 3 Z<|cndT Z (by rw[h0]<;>rfl)<|jA 12 Z<|rm1 Z Z ?_ Z Z ?_)
   have e:Br_ i=([],((g1).2)):=by
     exact tK
   exact Kz_ qT
   have e:Br_ i=([],((g1).2)):=by
     exact tK
   exact zO
   refine jA 11 Z<|Ks_ 1 Z<|jA 1 Z<|rm1 Z Z ?_ Z Z ?_
   have e:Br_ i=(h,j):=by
     exact tM
   exact ple qT
   have e:Br_ i=(h,j):=by
     exact tM
   exact zO
 refine jA 15 Z<|Id_ (t:=4) (k:=4) (e:=232) 1 Pair.pc Z Z<|lP (ι:=Nat×(List Pair)×Value×In) [0,3,6,7,8,9,10,13] [] (λ⟨k,h,u_h,j⟩=>⟨[(4, .osl 1),(14,aA k)],[(1, .arr u_h 4 232 Pair.pc h),(0, .box b 310 [.str j.s,aA j.err])],k<=((g0).1).toNat/\Br_ i=I3_ (((g0).1).toNat-k) j h/\h.length<=k,((g0).1).toNat-k⟩) ⟨0,[],(.slice none 0 0),((g0).2)⟩ ⟨Nat.zero_le _,by unfold Br_;(repeat first|simp only[hg0]|rw[if_pos qD]|rw[if_neg qD]);all_goals rfl,AT _⟩<|λ⟨k,h,u_h,j⟩ ⟨hk1,hk2,hk3⟩=>kN 6 (λp2=>?_) λp3=>?_;refine jA 7 Z<|ef (Ag_ head_one Z Z Z Z Z λw2 w38p=>?_);generalize hg1:Bx_ j=g1 at *;refine jB 8 [2] Z λB0=>ef (Ag_ H9_ Z Z Z Z Z λw3 w43p=>kM 3 (λh0=>?_) (λh0=>?_));have p4:=dt h0;refine jA 4 Z<|ef (Pk_ 1 Z Wy_ Z λw4=>?_);have :=Tt_ ((g1).1) h;generalize hg2:Fg_ ((g1).1) h=g2 at *;refine ef (Ag_ Jo_ Z Z Z Z Z λw5 w49p=>jA 6 Z<|ef (Ag_ H9_ Z Z Z Z Z λw6 w50p=>kM 3 (λh1=>?_) (λh1=>?_)));have h2:=Ff_ h1;have p5:=df h2;refine jA 12 Z<|rm1 Z Z ?_ Z Z ?_;have e:Br_ i=([],(B2_ ((g1).2) g2)):=by
   exact tL
 exact Kz_ qT;have e:Br_ i=([],(B2_ ((g1).2) g2)):=by
   exact tL
 exact zO;have h2:=D6_ h1;have p5:=dt h2;refine jA 5 Z<|ef (bsl 3 Pair.pc [((g1).1)] A_ Z Z Z Z Z (λ_=>rfl) Z λu0=>ef (app A_ [((g1).1)] Z Z Z Z Z Z Z (K6_ Z Z) λu1=>jC 8 Z<|next ⟨(k+1),(h++[((g1).1)]),(u1),(B2_ ((g1).2) g2)⟩ Z Z ⟨Z,Z,U⟩ ⟨Z,Z,U⟩ ?_ ?_));exact sM;exact uR;have p4:=df h0;refine jA 6 Z<|ef (Ag_ H9_ Z Z Z Z Z λw4 w59p=>jA 3 Z<|cndT Z (by rw[h0]<;>rfl)<|jA 12 Z<|rm1 Z Z ?_ Z Z ?_);have e:Br_ i=([],((g1).2)):=by
   exact tK
 exact Kz_ qT;have e:Br_ i=([],((g1).2)):=by
   exact tK
 exact zO;refine jA 11 Z<|Ks_ 1 Z<|jA 1 Z<|rm1 Z Z ?_ Z Z ?_;have e:Br_ i=(h,j):=by
   exact tM
 exact ple qT;have e:Br_ i=(h,j):=by
   exact tM
 exact zO
theorem sz90:Sz prog 90 1:=λw=>by kernel_rfl
theorem crc_Step{r:Int}{b:Int}:aC 224 [.int .u32 r, .int .u8 b] (.int .u32 (Ps_ r b)):=by
 refine jG func224 ntmps224 Z λw N H hG=>have :=Y0_ ((AF (AC .u32) r ^^^ AF (AC .u32) b).toNat);jA 21 Z<|lP (ι:=Nat×Int) [1,4,5,6,7,8] [] (λ⟨k,q⟩=>⟨[(0, .int .u32 q),(9,aA k)],[],k<=2/\crcIt (2-k) q=Ps_ r b,2-k⟩) ⟨0,(xor32 r b)⟩ ⟨Nat.zero_le _,rfl⟩<|λ⟨k,q⟩ ⟨hk1,hk2⟩=>kN 6 (λp0=>?_) λp1=>?_;have :=Y0_ ((AF (AC .u32) q &&& AF (AC .u32) 15).toNat);refine jC 9 Z<|q1 (qgtab (m:=((A0 .u32 ((AF (AC .u32) q &&& AF (AC .u32) 15).toNat))).toNat) laidT qF (λ_ h=>gbCrc h) Z underlying360 sz90 qD and15_lt Z) Z λw0=>have :=Y0_ ((AF (AC .u32) (GJ q (2 ^ (min (4:Int).toNat (AC .u32)))) ^^^ AF (AC .u32) (laidT.getD ((A0 .u32 ((AF (AC .u32) q &&& AF (AC .u32) 15).toNat))).toNat 0)).toNat);jC 10 Z<|nN ⟨(k+1),(crc1 q)⟩ ?_
 try simp only[]
 refine⟨by omega,?_⟩;rw[<- hk2,show 2-k=(2-(k+1))+1 by omega];rfl;refine kR 12 ?_;obtain rfl :k=2:=by omega
 exact congrArg (PV.int .u32) hk2
theorem Wl_(parts:List Bs):aC 151 [.sl strc parts] (.int .u32 (Im_ parts)):=by
 refine kG func151 ntmps151 λw N H hG=>?_;have parts_l:parts.length<=140737488355328:=w.1.1;refine jA 19 Z<|lP (ι:=Nat×Int) [0,2,7,8] [] (λ⟨k,r⟩=>⟨[(3, .int .u32 r),(9,aA k)],[],k<=parts.length/\parts.foldl crcB 4294967295=(parts.drop k).foldl crcB r/\0<=r/\r<=4294967295,parts.length-k⟩) ⟨0,4294967295⟩ ⟨Nat.zero_le _,rfl,by omega,by omega⟩<|λ⟨k,r⟩ ⟨hk1,hk2,hk3,hk4⟩=>kN 6 (λp0=>?_) λp1=>?_;have⟨c4,hc0⟩:=getE (xs:=parts) (m:=k) qD;have c4_l:c4.length<=9223372036854775807:=(w.1.2 c4 (A4 hc0)).1;refine jA 6 Z<|jI k hc0 Z Z Z λw0=>jA 12 Z<|lP (ι:=Nat×Int) [0,2,5,7,8,9,10,11,12,13,14] [] (λ⟨j,q⟩=>⟨[(3, .int .u32 q),(15,aA j)],[],j<=c4.length/\c4.foldl (λq c=>Ps_ q c.toNat) r=(c4.drop j).foldl (λq c=>Ps_ q c.toNat) q/\0<=q/\q<=4294967295,c4.length-j⟩) ⟨0,r⟩ ⟨Nat.zero_le _,rfl,by omega,by omega⟩<|λ⟨j,q⟩ ⟨hj1,hj2,hj3,hj4⟩=>kN 6 (λp2=>?_) λp3=>?_;have :=u8r (c4.getD j 0);refine jA 14 Z<|q1 (sidx A_ j Z Z Z Z Z qD) Z λw1=>call crc_Step Z Z λw2=>have :=crcStep_r q ((c4.getD j 0).toNat:Int);jC 8 Z<|nN ⟨(j+1),(Ps_ q (c4.getD j 0).toNat)⟩ ?_;refine⟨by omega,?_,by omega,by omega⟩;rw[hj2,Lr_ (k:=j) qD,BP];refine jC 10 Z<|nN ⟨(k+1),q⟩ ?_;refine⟨by omega,?_,by omega,by omega⟩;rw[hk2,Fu_ hc0,BP];rw[A9 qD,EC] at hj2;rw[show crcB r c4=q from hj2];refine kR 13 ?_;rw[A9 qD,EC] at hk2;unfold Im_;rw[hk2]
theorem ag38:Ag prog 38 false:=λw=>by kernel_rfl
theorem eqg40:prog.eqGuardType prog.depth 40=false:=by kernel_rfl
theorem eqg42:prog.eqGuardType prog.depth 42=false:=by kernel_rfl
theorem veq40(p q:W_):∀ (H:Hp) (vs us:List Value),Sims H (W_.pc p) vs->Sims H (W_.pc q) us->EqV prog 10000 40 (.agg vs.toArray) (.agg us.toArray) (decide (p=q)):=by
 intro H vs us hv hu;obtain⟨_,_,rfl,v0,v_0⟩:=hv.inv_cons;obtain⟨_,_,rfl,v1,v_1⟩:=v_0.inv_cons;obtain⟨_,_,rfl,v2,v_2⟩:=v_1.inv_cons
 cases v_2.inv_nil
 cases v0.inv_str.1;cases v1.inv_int.1;cases v2.inv_str.1
 obtain⟨_,_,rfl,u0,u_0⟩:=hu.inv_cons;obtain⟨_,_,rfl,u1,u_1⟩:=u_0.inv_cons;obtain⟨_,_,rfl,u2,u_2⟩:=u_1.inv_cons
 cases u_2.inv_nil
 cases u0.inv_str.1;cases u1.inv_int.1;cases u2.inv_str.1
 exact EqV.to' (Lb_ underlying40 (Jr_ ag9 Z Z (Rq_ underlying9) (Jr_ ag5 Z Z (Dz_ underlying5) (Jr_ ag9 Z Z (Rq_ underlying9) La_)))) oY
theorem veq42(p q:M_):∀ (H:Hp) (vs us:List Value),Sims H (M_.pc p) vs->Sims H (M_.pc q) us->EqV prog 10000 42 (.agg vs.toArray) (.agg us.toArray) (decide (p=q)):=by
 intro H vs us hv hu;obtain⟨_,_,rfl,v0,v_0⟩:=hv.inv_cons;obtain⟨_,_,rfl,v1,v_1⟩:=v_0.inv_cons;obtain⟨_,_,rfl,v2,v_2⟩:=v_1.inv_cons;obtain⟨_,_,rfl,v3,v_3⟩:=v_2.inv_cons
 cases v_3.inv_nil
 cases v0.inv_str.1;cases v1.inv_int.1;cases v2.inv_int.1;cases v3.inv_str.1
 obtain⟨_,_,rfl,u0,u_0⟩:=hu.inv_cons;obtain⟨_,_,rfl,u1,u_1⟩:=u_0.inv_cons;obtain⟨_,_,rfl,u2,u_2⟩:=u_1.inv_cons;obtain⟨_,_,rfl,u3,u_3⟩:=u_2.inv_cons
 cases u_3.inv_nil
 cases u0.inv_str.1;cases u1.inv_int.1;cases u2.inv_int.1;cases u3.inv_str.1
 exact EqV.to' (Lb_ underlying42 (Jr_ ag9 Z Z (Rq_ underlying9) (Jr_ ag38 Z Z (Dz_ underlying38) (Jr_ ag38 Z Z (Dz_ underlying38) (Jr_ ag9 Z Z (Rq_ underlying9) La_))))) nM
theorem Lf_(m:Mail):aC 90 [m.ag] (aA (Hs_ m)):=by
 refine jG func90 ntmps90 Z λw N H hG=>jB 11 [0] Z λB0=>call F0_ Z Z λw0=>kM 9 (λh0=>?_) (λh0=>?_);have h1:=Ff_ h0;exact rZ;have h1:=D6_ h0;have p0:=dt h1;refine kL 7 words_Key Z Z Z λw1=>kM 9 (λh2=>?_) (λh2=>?_);have h3:=Ff_ h2;exact rZ;have h3:=D6_ h2;have p1:=dt h3;refine kL 7 Mu_ Z Z Z λw2=>kM 11 (λh4=>?_) (λh4=>?_);have h5:=Ff_ h4;refine kR 9 ?_;exact xO;have h5:=D6_ h4;have p2:=dt h5;refine kM 9 (λh6=>?_) (λh6=>?_);have p3:=dt h6;exact rZ;have p3:=df h6;refine kM 8 (λh7=>?_) (λh7=>?_);have p4:=dt h7;exact rZ;have p4:=df h7;refine kR 9 ?_;exact xO
theorem Ol_(m:Mail):aC 156 [m.ag] (.tup [.str (B0_ m),aA (Hs_ m)]):=by
 refine kG func156 ntmps156 λw N H hG=>?_;have m_w:=Mail.pwf w.1;have m_w':=m_w;simp only[Mail.wf] at m_w';refine kB 11 [0] λB0=>?_;refine call (Lf_ _) Z Z λw0=>?_;have :=P5_ m;have hmo3:=λh=>Mm_ (m:=m) h;refine kM 9 (λh0=>?_) (λh0=>?_);have h1:=Ff_ h0;have p0:=df h1;refine kA 9 ?_;refine rt2 Z Z ?_;refine ple ?_;simp[B0_,X5_, *];have h1:=D6_ h0;have p0:=dt h1;refine kL 6 (Oc_ _) Z Z Z λw1=>?_;have :=Gw_ m.head;refine kA 8 ?_;refine aN [1,2,3,4,5,6] 17 mixd<|kE [0,1,2] 14 ?_;refine vC 3 Z (out_Num aE _ _ qK) Z λw2=>?_;have nl0:aE.s.length=0:=rfl;have :=Y_ aE m.id 8;refine kE [4,5] 11 ?_;refine vC 6 Z (Ex_ _) Z λw3=>?_;have :=A7_ (C_ aE m.id 8) m.Bm_;refine kE [7,8] 8 ?_;refine vC 9 Z (Ex_ _) Z λw4=>?_;have :=A7_ (J_ (C_ aE m.id 8) m.Bm_) m.key;refine kE [10] 6 ?_;refine vC 11 Z (Kb_ _ _) Z λw5=>?_;have :=Eq_ (J_ (J_ (C_ aE m.id 8) m.Bm_) m.key) (Bt_ m.head);refine kE [12,13] 3 ?_;refine vC 14 Z (Ex_ _) Z λw6=>?_;have :=A7_ (Af_ (J_ (J_ (C_ aE m.id 8) m.Bm_) m.key) (Bt_ m.head)) m.body;refine vE 15 Z (aL A_ 1 λb0=>?_);refine vT 16 Z (sA A_ ?_);refine vD<|kA 2 ?_;refine aN [2,3,4,5,6,7] 11 mixd<|kE [0,1,2] 8 ?_;refine vC 3 Z (out_Num _ _ _ qK) Z λw7=>?_;have :=Y_ (J_ (Af_ (J_ (J_ (C_ aE m.id 8) m.Bm_) m.key) (Bt_ m.head)) m.body) m.due 8;refine kE [4,5,6] 4 ?_;refine vC 7 Z (out_Num _ _ _ qK) Z λw8=>?_;have :=Y_ (C_ (J_ (Af_ (J_ (J_ (C_ aE m.id 8) m.Bm_) m.key) (Bt_ m.head)) m.body) m.due 8) m.hops 1;refine vC 8 Z (Di_ _) Z λw9=>kE [9,10] 0 ?_;refine vD<|kA 2 ?_;refine rt2 Z Z ?_;refine ple ?_;simp[B0_,X5_, *]
theorem Zm_{s:Bs}:aC 88 [.str s] (aA (Me_ s)):=by
 refine jG func88 ntmps88 Z λw N H hG=>kN 12 (λp0=>?_) λp1=>?_;refine kR 7 ?_;simp[Me_, *];refine kL 5 F0_ Z Z Z λw0=>kR 4 ?_;simp[Me_, *]
theorem N9_{b:Bool}{e:Int}:aC 87 [.bool b,aA e] (aA (I5_ b e)):=by
 refine jG func87 ntmps87 Z λw N H hG=>kM 11 (λh0=>?_) (λh0=>?_);refine kR 8 ?_;simp[I5_, *];refine kR 8 ?_;simp[I5_, *]
theorem X7_{a:Mail}{b:Mail}:aC 161 [a.ag,b.ag] (.bool (decide (a=b))):=by
 exact jG func161 ntmps161 Z λw N H hG=>jD 33 [0,1] Z λB0=>Ig_ Z (λhc=>(head_Same)) Z λ_=>jC 26 Z<|rt1 Z Z (ple<|congrArg PV.bool (by rw[BE];first|(simp[Mail.eq_iff,and_assoc];done)|(simp[Mail.eq_iff];grind)))
theorem deed_Same{a:G_}{b:G_}:aC 83 [a.ag,b.ag] (.bool (decide (a=b))):=by
 exact jG func83 ntmps83 Z λw N H hG=>jD 26 [0,1] Z λB0=>q1g [19,21] Z (λhc=>saeq Z Z eqg40 (veq40 a.Bm_ b.Bm_)) λ_=>jC 6 Z<|q1g [26,28] Z (λhc=>saeq Z Z eqg42 (veq42 a.queue b.queue)) λ_=>jC 6 Z<|Ig_ Z (λhc=>(deed_sameBind)) Z λ_=>jC 48 Z<|Ig_ Z (λhc=>(X7_)) Z λ_=>jC 12 Z<|rt1 Z Z (ple<|congrArg PV.bool (by rw[BE];first|(simp[G_.eq_iff,and_assoc];done)|(simp[G_.eq_iff];grind)))
theorem deed_told{d:G_}:aC 84 [d.ag] (.agg (G_.pc (H4_ d))):=by
 refine jG func84 ntmps84 Z λw N H hG=>jB 31 [0,1,2] Z λB0=>cn Z (λp0=>?_) λp1=>?_;refine jB 15 [] Z λ_=>rt1 Z Z (ple ?_);have e:H4_ d=(⟨d.kind,d.tick,d.Bm_,aM,aP,[],0,0,0,0,0,aJ,[]⟩:G_):=by
   exact rC
 rw[e];rfl;refine kN 6 (λp2=>?_) λp3=>?_;refine jB 15 [] Z λ_=>rt1 Z Z (ple ?_);have e:H4_ d=(⟨d.kind,d.tick,aO,d.queue,aP,[],0,0,0,0,0,aJ,[]⟩:G_):=by
   exact rC
 rw[e];rfl;refine kM 7 (λh0=>?_) (λh0=>?_);have p4:=dt h0;refine jA 2 Z<|cndT Z h0<|jB 15 [] Z λ_=>rt1 Z Z (ple ?_);have e:H4_ d=(⟨d.kind,d.tick,aO,aM,d.bind,[],0,0,0,0,0,aJ,[]⟩:G_):=by
   exact rC
 rw[e];rfl;have p4:=df h0;refine kN 5 (λp5=>?_) λp6=>?_;refine jB 15 [] Z λ_=>rt1 Z Z (ple ?_);have e:H4_ d=(⟨d.kind,d.tick,aO,aM,d.bind,[],0,0,0,0,0,aJ,[]⟩:G_):=by
   exact rC
 rw[e];rfl;refine kN 6 (λp7=>?_) λp8=>?_;refine jB 15 [] Z λ_=>rt1 Z Z (ple ?_);have e:H4_ d=(⟨d.kind,d.tick,aO,aM,aP,[],0,0,0,0,0,d.Ah_,[]⟩:G_):=by
   exact rC
 rw[e];rfl;refine kM 7 (λh1=>?_) (λh1=>?_);have p9:=dt h1;refine jA 2 Z<|cndT Z h1<|jB 15 [] Z λ_=>rt1 Z Z (ple ?_);have e:H4_ d=(⟨d.kind,d.tick,aO,aM,aP,d.name,0,0,0,0,0,aJ,[]⟩:G_):=by
   exact rC
 rw[e];rfl;have p9:=df h1;refine kM 6 (λh2=>?_) (λh2=>?_);have p10:=dt h2;refine jA 2 Z<|cndT Z h2<|jB 15 [] Z λ_=>rt1 Z Z (ple ?_);have e:H4_ d=(⟨d.kind,d.tick,aO,aM,aP,d.name,0,0,0,0,0,aJ,[]⟩:G_):=by
   exact rC
 rw[e];rfl;have p10:=df h2;refine kN 5 (λp11=>?_) λp12=>?_;refine jB 15 [] Z λ_=>rt1 Z Z (ple ?_);have e:H4_ d=(⟨d.kind,d.tick,aO,aM,aP,d.name,0,0,0,0,0,aJ,[]⟩:G_):=by
   exact rC
 rw[e];rfl;refine kN 6 (λp13=>?_) λp14=>?_;refine aN [2,3,4,5,6,7,8] 12 mixd<|jE [0,1,2,3,4,5,6] 5 Z<|vE 7 Z (sO A_ ?_);refine jE [8] 3 Z<|vE 9 Z (sO A_ ?_);refine jE [10] 1 Z<|vT 11 Z (sO A_ ?_);refine vD<|jB 9 [] Z λ_=>rt1 Z Z (ple ?_);have e:H4_ d=(⟨d.kind,d.tick,aO,aM,aP,d.name,d.id,d.how,0,0,0,aJ,[]⟩:G_):=by
   exact rC
 rw[e];rfl;refine kN 6 (λp15=>?_) λp16=>?_;refine aN [2,3,4,5,6,7,8] 12 mixd<|jE [0,1,2,3,4,5,6] 5 Z<|vE 7 Z (sO A_ ?_);refine jE [8] 3 Z<|vE 9 Z (sO A_ ?_);refine jE [10] 1 Z<|vT 11 Z (sA A_ ?_);refine vD<|jB 9 [] Z λ_=>rt1 Z Z (ple ?_);have e:H4_ d=(⟨d.kind,d.tick,aO,aM,aP,[],0,0,d.frm,0,d.number,d.Ah_,[]⟩:G_):=by
   exact rC
 rw[e];rfl;refine kN 6 (λp17=>?_) λp18=>?_;refine aN [2,3,4,5,6,7,8] 8 mixd<|jE [0,1,2,3,4] 3 Z<|vE 5 Z (sO A_ ?_);refine jE [6] 1 Z<|vT 7 Z (sO A_ ?_);refine vD<|jB 9 [] Z λ_=>rt1 Z Z (ple ?_);have e:H4_ d=(⟨d.kind,d.tick,aO,aM,aP,[],0,0,0,d.code,0,aJ,d.text⟩:G_):=by
   exact rC
 rw[e];rfl;refine jB 10 [] Z λ_=>rt1 Z Z (ple ?_);have e:H4_ d=(⟨d.kind,d.tick,aO,aM,aP,[],0,0,0,0,0,aJ,[]⟩:G_):=by
   exact rC
 rw[e];rfl
theorem Oa_{l:List Int}:aC 85 [.sl i64c l] (aA (Kj_ l)):=by
 refine kG func85 ntmps85 λw N H hG=>?_;have l_l:l.length<=140737488355328:=w.1.1;refine jA 14 Z<|lP (ι:=Nat) [0,5,6] [] (λk=>⟨[(7,aA k)],[],k<=l.length/\Kj_ l=Kj_ (l.drop k),l.length-k⟩) 0 ⟨Nat.zero_le _,rfl⟩<|λk ⟨hk1,hk2⟩=>kN 6 (λp0=>?_) λp1=>?_
 . have⟨c0,hc0⟩:=getE (xs:=l) (m:=k) qD;refine jA 6 Z<|jI k hc0 Z Z Z λw0=>kM 10 (λh0=>?_) (λh0=>?_)
   have h1:=Ff_ h0;have p2:=df h1;refine kR 12 ?_;refine congrArg (PV.int .i64) ?_
   rw[hk2,Fu_ hc0]
   unfold Kj_
   rw[if_pos qG]
   have h1:=D6_ h0;have p2:=dt h1;refine jC 7 Z<|nN (k+1) ?_;refine⟨by omega,?_⟩
   rw[hk2,Fu_ hc0]
   conv=>lhs;unfold Kj_
   rw[if_neg qD]
 refine kR 11 ?_;refine congrArg (PV.int .i64) ?_;rw[hk2,A9 qD];rfl
theorem Zl_{d:G_}:aC 36 [d.ag] (aA (Fj_ d)):=by
 refine jG func36 ntmps36 Z λw N H hG=>jB 16 [0] Z λB0=>cn Z (λp0=>?_) λp1=>?_;exact qA;refine jA 1 Z<|aN [1,2,3,4,5,6] 6 mixd<|jE [0,1] 4 Z<|vE 2 Z (eC deed_told Z λw0=>vC 3 Z deed_Same Z λw1=>jE [4,5] 0 Z<|vD<|kM 1 (λh0=>?_) (λh0=>?_));have h1:=Ff_ h0;have p2:=df h1;exact qA;have h1:=D6_ h0;have p2:=dt h1;refine kN 17 (λp3=>?_) λp4=>?_;refine jA 1 Z<|aN [1,2,3,4,5,6] 16 mixd<|jE [0,1,2] 13 Z<|vC 3 Z F0_ Z λw2=>jE [4,5,6,7] 8 Z<|vC 8 Z N9_ Z λw3=>jE [9,10,11] 4 Z<|vC 12 Z Zm_ Z λw4=>have :=To_ d.Bm_.to';vE 13 Z (bsl 1 i64c [F1_ d.Bm_.name,I5_ (decide (4<d.Bm_.sort)) 8,Me_ d.Bm_.to'] A_ Z Z Z Z Z (λ_=>rfl) Z λu0=>vE 14 Z (Pk_ 1 Z Oa_ Z λw5=>jE [15] 0 Z<|vD<|kR 4 ?_));exact xQ;refine kN 6 (λp5=>?_) λp6=>?_;refine jA 1 Z<|aN [1,2,3,4,5,6] 11 mixd<|jE [0,1,2] 8 Z<|vC 3 Z F0_ Z λw2=>jE [4,5,6] 4 Z<|vC 7 Z Zm_ Z λw3=>have :=To_ d.queue.dead;vE 8 Z (bsl 1 i64c [F1_ d.queue.name,Me_ d.queue.dead] A_ Z Z Z Z Z (λ_=>rfl) Z λu0=>vE 9 Z (Pk_ 1 Z Oa_ Z λw4=>jE [10] 0 Z<|vD<|kR 4 ?_));exact xQ;refine kM 7 (λh2=>?_) (λh2=>?_);have p7:=dt h2;exact jA 2 Z<|cndT Z h2<|rW;have p7:=df h2;refine kN 5 (λp8=>?_) λp9=>?_;exact rW;refine kM 7 (λh3=>?_) (λh3=>?_);have p10:=dt h3;exact jA 2 Z<|cndT Z h3<|rY;have p10:=df h3;refine kN 5 (λp11=>?_) λp12=>?_;exact rY;refine kM 7 (λh4=>?_) (λh4=>?_);have p13:=dt h4;exact jA 2 Z<|cndT Z h4<|qA;have p13:=df h4;refine kN 5 (λp14=>?_) λp15=>?_;exact qA;refine kN 6 (λp16=>?_) λp17=>?_;refine kL 6 N9_ Z Z Z λw2=>kR 6 ?_;exact xQ;refine jA 4 Z<|aN [1,2,3,4,5,6] 10 mixd<|jE [0,1] 8 Z<|vC 2 Z F0_ Z λw2=>jE [3,4,5] 4 Z<|vC 6 Z N9_ Z λw3=>vE 7 Z (bsl 1 i64c [F1_ d.name,I5_ (decide (2<d.how)) 7] A_ Z Z Z Z Z (λ_=>rfl) Z λu0=>vE 8 Z (Pk_ 1 Z Oa_ Z λw4=>jE [9] 0 Z<|vD<|kR 2 ?_));exact xQ
theorem Zk_(d:G_):aC 113 [d.ag] (.tup [.str (Bd_ d),aA (Fj_ d)]):=by
 refine kG func113 ntmps113 λw N H hG=>?_;have d_w:=G_.pwf w.1;have d_w':=d_w;simp only[G_.wf,W_.wf,M_.wf,Q_.wf,Mail.wf] at d_w';refine jB 11 [0] Z λB0=>call Zl_ Z Z λw0=>have :=deedE_r d;kM 9 (λh0=>?_) (λh0=>?_)
 . have h1:=Ff_ h0;have p0:=df h1;refine jA 9 Z<|rt2 Z Z<|ple ?_;have e:Bd_ d=[]:=by
     unfold Bd_
     first
       |(rw[if_neg qG];done)
       |(rw[if_pos qG];unfold I6_;(repeat (first|rw[if_pos qD]|rw[if_neg qD]|rw[if_pos qG]|rw[if_neg qG]|rw[if_neg (not_not_intro qG)]));first|done|rfl)
   exact tD
 have h1:=D6_ h0;have p0:=dt h1;have hdk:=Qr_ (d:=d) qD p0;obtain⟨dk1,dk2,dk3,dk4,dk5,dk6,dk7,dk8,dk9,dk10,dk11,dk12,dk13,dk14,dk15,dk16,dk17,dk18,dk19⟩:=hdk;refine jA 3 Z<|aN [1,2,3,4,5,6] 10 mixd<|jE [0,1,2,3] 6 Z<|vC 4 Z (out_Num aE _ _ qK) Z λw1=>?_;have nl0:aE.s.length=0:=rfl;have :=Y_ aE d.kind 1;refine jE [5,6] 3 Z<|vC 7 Z (out_Num _ _ _ qK) Z λw2=>have :=Y_ (C_ aE d.kind 1) d.tick 8;vE 8 Z (aL A_ 1 λb0=>?_);refine vT 9 Z (sA A_ ?_);refine vD<|kL 5 (Ol_ _) Z Z Z λw3=>have :=Gz_ d.Ah_;kN 21 (λp1=>?_) λp2=>?_
 . refine aN [2,3,4,5,6,7] 15 mixd<|jE [0,1,2,3] 11 Z<|vC 4 Z (Ex_ _) Z λw4=>have :=A7_ (C_ (C_ aE d.kind 1) d.tick 8) d.Bm_.name;jE [5,6,7,8] 6 Z<|vC 9 Z (out_Num _ _ _ qK) Z λw5=>have :=Y_ (J_ (C_ (C_ aE d.kind 1) d.tick 8) d.Bm_.name) d.Bm_.sort 1;jE [10,11,12] 2 Z<|vC 13 Z (Ex_ _) Z λw6=>have :=A7_ (C_ (J_ (C_ (C_ aE d.kind 1) d.tick 8) d.Bm_.name) d.Bm_.sort 1) d.Bm_.to';vT 14 Z (sA A_ ?_);refine vD<|kL 5 (Di_ _) Z Z Z λw7=>jA 5 Z<|rt2 Z Z<|ple ?_;have e:Bd_ d=(J_ (C_ (J_ (C_ (C_ aE d.kind 1) d.tick 8) d.Bm_.name) d.Bm_.sort 1) d.Bm_.to').s:=by
     unfold Bd_
     first
       |(rw[if_neg qG];done)
       |(rw[if_pos qG];unfold I6_;(repeat (first|rw[if_pos qD]|rw[if_neg qD]|rw[if_pos qG]|rw[if_neg qG]|rw[if_neg (not_not_intro qG)]));first|done|rfl)
   exact tD
 refine kN 6 (λp3=>?_) λp4=>?_
 . refine aN [2,3,4,5,6,7] 18 mixd<|jE [0,1,2,3] 14 Z<|vC 4 Z (Ex_ _) Z λw4=>have :=A7_ (C_ (C_ aE d.kind 1) d.tick 8) d.queue.name;jE [5,6,7] 10 Z<|vC 8 Z (out_Num _ _ _ qK) Z λw5=>have :=Y_ (J_ (C_ (C_ aE d.kind 1) d.tick 8) d.queue.name) d.queue.most 8;jE [9,10,11] 6 Z<|vC 12 Z (out_Num _ _ _ qK) Z λw6=>have :=Y_ (C_ (J_ (C_ (C_ aE d.kind 1) d.tick 8) d.queue.name) d.queue.most 8) d.queue.life 8;jE [13,14,15] 2 Z<|vC 16 Z (Ex_ _) Z λw7=>have :=A7_ (C_ (C_ (J_ (C_ (C_ aE d.kind 1) d.tick 8) d.queue.name) d.queue.most 8) d.queue.life 8) d.queue.dead;vT 17 Z (sA A_ ?_);refine vD<|kL 5 (Di_ _) Z Z Z λw8=>jA 5 Z<|rt2 Z Z<|ple ?_;have e:Bd_ d=(J_ (C_ (C_ (J_ (C_ (C_ aE d.kind 1) d.tick 8) d.queue.name) d.queue.most 8) d.queue.life 8) d.queue.dead).s:=by
     unfold Bd_
     first
       |(rw[if_neg qG];done)
       |(rw[if_pos qG];unfold I6_;(repeat (first|rw[if_pos qD]|rw[if_neg qD]|rw[if_pos qG]|rw[if_neg qG]|rw[if_neg (not_not_intro qG)]));first|done|rfl)
   exact tD
 refine kM 7 (λh2=>?_) (λh2=>?_)
 . have p5:=dt h2;refine jA 2 Z<|cndT Z h2<|jB 12 [2] Z λB1=>call (Oc_ _) Z Z λw4=>have :=Gw_ d.bind.want;jA 7 Z<|aN [3,4,5,6,7,8] 21 mixd<|jE [0,1,2] 18 Z<|vC 3 Z (Ex_ _) Z λw5=>have :=A7_ (C_ (C_ aE d.kind 1) d.tick 8) d.bind.Bm_;jE [4,5] 15 Z<|vC 6 Z (Ex_ _) Z λw6=>have :=A7_ (J_ (C_ (C_ aE d.kind 1) d.tick 8) d.bind.Bm_) d.bind.to';jE [7,8] 12 Z<|vC 9 Z Vw_ Z λw7=>vC 10 Z (out_Num _ _ _ qK) Z λw8=>have :=Y_ (J_ (J_ (C_ (C_ aE d.kind 1) d.tick 8) d.bind.Bm_) d.bind.to') (bitN d.bind.up) 1;jE [11,12] 8 Z<|vC 13 Z (Ex_ _) Z λw9=>have :=A7_ (C_ (J_ (J_ (C_ (C_ aE d.kind 1) d.tick 8) d.bind.Bm_) d.bind.to') (bitN d.bind.up) 1) d.bind.key;jE [14] 6 Z<|vC 15 Z (Kb_ _ _) Z λw10=>have :=Eq_ (J_ (C_ (J_ (J_ (C_ (C_ aE d.kind 1) d.tick 8) d.bind.Bm_) d.bind.to') (bitN d.bind.up) 1) d.bind.key) (Bt_ d.bind.want);jE [16,17] 3 Z<|vC 18 Z Vw_ Z λw11=>vC 19 Z (out_Num _ _ _ qK) Z λw12=>have :=Y_ (Af_ (J_ (C_ (J_ (J_ (C_ (C_ aE d.kind 1) d.tick 8) d.bind.Bm_) d.bind.to') (bitN d.bind.up) 1) d.bind.key) (Bt_ d.bind.want)) (bitN d.bind.all) 1;vT 20 Z (sA A_ ?_);refine vD<|kL 5 (Di_ _) Z Z Z λw13=>jA 5 Z<|rt2 Z Z<|ple ?_;have e:Bd_ d=(C_ (Af_ (J_ (C_ (J_ (J_ (C_ (C_ aE d.kind 1) d.tick 8) d.bind.Bm_) d.bind.to') (bitN d.bind.up) 1) d.bind.key) (Bt_ d.bind.want)) (bitN d.bind.all) 1).s:=by
     unfold Bd_
     first
       |(rw[if_neg qG];done)
       |(rw[if_pos qG];unfold I6_;(repeat (first|rw[if_pos qD]|rw[if_neg qD]|rw[if_pos qG]|rw[if_neg qG]|rw[if_neg (not_not_intro qG)]));first|done|rfl)
   exact tD
 have p5:=df h2;refine kN 5 (λp6=>?_) λp7=>?_
 . refine jB 12 [2] Z λB1=>call (Oc_ _) Z Z λw4=>have :=Gw_ d.bind.want;jA 7 Z<|aN [3,4,5,6,7,8] 21 mixd<|jE [0,1,2] 18 Z<|vC 3 Z (Ex_ _) Z λw5=>have :=A7_ (C_ (C_ aE d.kind 1) d.tick 8) d.bind.Bm_;jE [4,5] 15 Z<|vC 6 Z (Ex_ _) Z λw6=>have :=A7_ (J_ (C_ (C_ aE d.kind 1) d.tick 8) d.bind.Bm_) d.bind.to';jE [7,8] 12 Z<|vC 9 Z Vw_ Z λw7=>vC 10 Z (out_Num _ _ _ qK) Z λw8=>have :=Y_ (J_ (J_ (C_ (C_ aE d.kind 1) d.tick 8) d.bind.Bm_) d.bind.to') (bitN d.bind.up) 1;jE [11,12] 8 Z<|vC 13 Z (Ex_ _) Z λw9=>have :=A7_ (C_ (J_ (J_ (C_ (C_ aE d.kind 1) d.tick 8) d.bind.Bm_) d.bind.to') (bitN d.bind.up) 1) d.bind.key;jE [14] 6 Z<|vC 15 Z (Kb_ _ _) Z λw10=>have :=Eq_ (J_ (C_ (J_ (J_ (C_ (C_ aE d.kind 1) d.tick 8) d.bind.Bm_) d.bind.to') (bitN d.bind.up) 1) d.bind.key) (Bt_ d.bind.want);jE [16,17] 3 Z<|vC 18 Z Vw_ Z λw11=>vC 19 Z (out_Num _ _ _ qK) Z λw12=>have :=Y_ (Af_ (J_ (C_ (J_ (J_ (C_ (C_ aE d.kind 1) d.tick 8) d.bind.Bm_) d.bind.to') (bitN d.bind.up) 1) d.bind.key) (Bt_ d.bind.want)) (bitN d.bind.all) 1;vT 20 Z (sA A_ ?_);refine vD<|kL 5 (Di_ _) Z Z Z λw13=>jA 5 Z<|rt2 Z Z<|ple ?_;have e:Bd_ d=(C_ (Af_ (J_ (C_ (J_ (J_ (C_ (C_ aE d.kind 1) d.tick 8) d.bind.Bm_) d.bind.to') (bitN d.bind.up) 1) d.bind.key) (Bt_ d.bind.want)) (bitN d.bind.all) 1).s:=by
     unfold Bd_
     first
       |(rw[if_neg qG];done)
       |(rw[if_pos qG];unfold I6_;(repeat (first|rw[if_pos qD]|rw[if_neg qD]|rw[if_pos qG]|rw[if_neg qG]|rw[if_neg (not_not_intro qG)]));first|done|rfl)
   exact tD
 refine kN 6 (λp8=>?_) λp9=>?_
 . refine kL 3 (Kb_ _ _) Z Z Z λw4=>have :=Eq_ (C_ (C_ aE d.kind 1) d.tick 8) (B0_ d.Ah_);jB 7 [] Z λ_=>call (Di_ _) Z Z λw5=>jA 5 Z<|rt2 Z Z<|ple ?_;have e:Bd_ d=(Af_ (C_ (C_ aE d.kind 1) d.tick 8) (B0_ d.Ah_)).s:=by
     unfold Bd_
     first
       |(rw[if_neg qG];done)
       |(rw[if_pos qG];unfold I6_;(repeat (first|rw[if_pos qD]|rw[if_neg qD]|rw[if_pos qG]|rw[if_neg qG]|rw[if_neg (not_not_intro qG)]));first|done|rfl)
   exact tD
 refine kM 7 (λh3=>?_) (λh3=>?_)
 . have p10:=dt h3;refine jA 2 Z<|cndT Z h3<|kL 4 (Ex_ _) Z Z Z λw4=>have :=A7_ (C_ (C_ aE d.kind 1) d.tick 8) d.name;jB 7 [] Z λ_=>call (Di_ _) Z Z λw5=>jA 5 Z<|rt2 Z Z<|ple ?_;have e:Bd_ d=(J_ (C_ (C_ aE d.kind 1) d.tick 8) d.name).s:=by
     unfold Bd_
     first
       |(rw[if_neg qG];done)
       |(rw[if_pos qG];unfold I6_;(repeat (first|rw[if_pos qD]|rw[if_neg qD]|rw[if_pos qG]|rw[if_neg qG]|rw[if_neg (not_not_intro qG)]));first|done|rfl)
   exact tD
 have p10:=df h3;refine kM 6 (λh4=>?_) (λh4=>?_)
 . have p11:=dt h4;refine jA 2 Z<|cndT Z h4<|kL 4 (Ex_ _) Z Z Z λw4=>have :=A7_ (C_ (C_ aE d.kind 1) d.tick 8) d.name;jB 7 [] Z λ_=>call (Di_ _) Z Z λw5=>jA 5 Z<|rt2 Z Z<|ple ?_;have e:Bd_ d=(J_ (C_ (C_ aE d.kind 1) d.tick 8) d.name).s:=by
     unfold Bd_
     first
       |(rw[if_neg qG];done)
       |(rw[if_pos qG];unfold I6_;(repeat (first|rw[if_pos qD]|rw[if_neg qD]|rw[if_pos qG]|rw[if_neg qG]|rw[if_neg (not_not_intro qG)]));first|done|rfl)
   exact tD
 have p11:=df h4;refine kN 5 (λp12=>?_) λp13=>?_
 . refine kL 4 (Ex_ _) Z Z Z λw4=>have :=A7_ (C_ (C_ aE d.kind 1) d.tick 8) d.name;jB 7 [] Z λ_=>call (Di_ _) Z Z λw5=>jA 5 Z<|rt2 Z Z<|ple ?_;have e:Bd_ d=(J_ (C_ (C_ aE d.kind 1) d.tick 8) d.name).s:=by
     unfold Bd_
     first
       |(rw[if_neg qG];done)
       |(rw[if_pos qG];unfold I6_;(repeat (first|rw[if_pos qD]|rw[if_neg qD]|rw[if_pos qG]|rw[if_neg qG]|rw[if_neg (not_not_intro qG)]));first|done|rfl)
   exact tD
 refine kN 6 (λp14=>?_) λp15=>?_
 . refine aN [2,3,4,5,6,7] 12 mixd<|jE [0,1,2] 9 Z<|vC 3 Z (Ex_ _) Z λw4=>have :=A7_ (C_ (C_ aE d.kind 1) d.tick 8) d.name;jE [4,5] 6 Z<|vC 6 Z (out_Num _ _ _ qK) Z λw5=>have :=Y_ (J_ (C_ (C_ aE d.kind 1) d.tick 8) d.name) d.id 8;jE [7,8,9] 2 Z<|vC 10 Z (out_Num _ _ _ qK) Z λw6=>have :=Y_ (C_ (J_ (C_ (C_ aE d.kind 1) d.tick 8) d.name) d.id 8) d.how 1;vT 11 Z (sA A_ ?_);refine vD<|kL 5 (Di_ _) Z Z Z λw7=>jA 5 Z<|rt2 Z Z<|ple ?_;have e:Bd_ d=(C_ (C_ (J_ (C_ (C_ aE d.kind 1) d.tick 8) d.name) d.id 8) d.how 1).s:=by
     unfold Bd_
     first
       |(rw[if_neg qG];done)
       |(rw[if_pos qG];unfold I6_;(repeat (first|rw[if_pos qD]|rw[if_neg qD]|rw[if_pos qG]|rw[if_neg qG]|rw[if_neg (not_not_intro qG)]));first|done|rfl)
   exact tD
 refine kN 6 (λp16=>?_) λp17=>?_
 . refine aN [2,3,4,5,6,7] 11 mixd<|jE [0,1,2,3] 7 Z<|vC 4 Z (out_Num _ _ _ qK) Z λw4=>have :=Y_ (C_ (C_ aE d.kind 1) d.tick 8) d.frm 1;jE [5,6] 4 Z<|vC 7 Z (out_Num _ _ _ qK) Z λw5=>have :=Y_ (C_ (C_ (C_ aE d.kind 1) d.tick 8) d.frm 1) d.number 8;jE [8] 2 Z<|vC 9 Z (Kb_ _ _) Z λw6=>have :=Eq_ (C_ (C_ (C_ (C_ aE d.kind 1) d.tick 8) d.frm 1) d.number 8) (B0_ d.Ah_);vT 10 Z (sA A_ ?_);refine vD<|kL 5 (Di_ _) Z Z Z λw7=>jA 5 Z<|rt2 Z Z<|ple ?_;have e:Bd_ d=(Af_ (C_ (C_ (C_ (C_ aE d.kind 1) d.tick 8) d.frm 1) d.number 8) (B0_ d.Ah_)).s:=by
     unfold Bd_
     first
       |(rw[if_neg qG];done)
       |(rw[if_pos qG];unfold I6_;(repeat (first|rw[if_pos qD]|rw[if_neg qD]|rw[if_pos qG]|rw[if_neg qG]|rw[if_neg (not_not_intro qG)]));first|done|rfl)
   exact tD
 refine kN 6 (λp18=>?_) λp19=>?_
 . refine aN [2,3,4,5,6,7] 9 mixd<|jE [0,1,2,3] 5 Z<|vC 4 Z (out_Num _ _ _ qK) Z λw4=>have :=Y_ (C_ (C_ aE d.kind 1) d.tick 8) d.code 1;jE [5,6] 2 Z<|vC 7 Z (Ex_ _) Z λw5=>have :=A7_ (C_ (C_ (C_ aE d.kind 1) d.tick 8) d.code 1) d.text;vT 8 Z (sA A_ ?_);refine vD<|kL 5 (Di_ _) Z Z Z λw6=>jA 5 Z<|rt2 Z Z<|ple ?_;have e:Bd_ d=(J_ (C_ (C_ (C_ aE d.kind 1) d.tick 8) d.code 1) d.text).s:=by
     unfold Bd_
     first
       |(rw[if_neg qG];done)
       |(rw[if_pos qG];unfold I6_;(repeat (first|rw[if_pos qD]|rw[if_neg qD]|rw[if_pos qG]|rw[if_neg qG]|rw[if_neg (not_not_intro qG)]));first|done|rfl)
   exact tD
 refine kL 6 (Di_ _) Z Z Z λw4=>jA 5 Z<|rt2 Z Z<|ple ?_;have e:Bd_ d=(C_ (C_ aE d.kind 1) d.tick 8).s:=by
   unfold Bd_
   first
     |(rw[if_neg qG];done)
     |(rw[if_pos qG];unfold I6_;(repeat (first|rw[if_pos qD]|rw[if_neg qD]|rw[if_pos qG]|rw[if_neg qG]|rw[if_neg (not_not_intro qG)]));first|done|rfl)
 exact tD
theorem Tn_{i:In}:Fm prog gb 218 [] 310 (In.pc i) (.agg (Mail.pc (((De_ i)).1))) (In.pc (((De_ i)).2)):=by
 refine S2_ A_ func218 Z ntmps218 Z (P_ func218) Z Z Z Z λw wp b N H hG=>jB 8 [1] Z λB0=>ef (Ag_ (Dt_ _) Z Z Z Z Z λw0 w3p=>?_);have :=Ao_ i 8;generalize hg0:R_ i 8=g0 at *;refine jB 8 [2] Z λB1=>ef (Ag_ Fr_ Z Z Z Z Z λw1 w8p=>?_);have :=Ar_ ((g0).2) 16;generalize hg1:V_ ((g0).2) 16=g1 at *;refine jB 7 [] Z λ_=>ef (Ag_ Fr_ Z Z Z Z Z λw2 w12p=>?_);have :=Ar_ ((g1).2) 64;generalize hg2:V_ ((g1).2) 64=g2 at *;refine jB 7 [] Z λ_=>ef (Ag_ S4_ Z Z Z Z Z λw3 w16p=>?_);have :=Kk_ ((g2).2);generalize hg3:Br_ ((g2).2)=g3 at *;refine jB 7 [] Z λ_=>ef (Ag_ Fr_ Z Z Z Z Z λw4 w20p=>?_);have :=Ar_ ((g3).2) 256;generalize hg4:V_ ((g3).2) 256=g4 at *;refine jB 7 [] Z λ_=>ef (Ag_ (Dt_ _) Z Z Z Z Z λw5 w24p=>?_);have :=Ao_ ((g4).2) 8;generalize hg5:R_ ((g4).2) 8=g5 at *;refine jB 7 [] Z λ_=>ef (Ag_ (Dt_ _) Z Z Z Z Z λw6 w28p=>?_);have :=Ao_ ((g5).2) 1;generalize hg6:R_ ((g5).2) 1=g6 at *;refine q1 (Ju_ A_ Z Z Z Z Vs_) Z λw7=>jB 8 [] Z λ_=>ef (Ag_ H9_ Z Z Z Z Z λw8 w33p=>kM 3 (λh0=>?_) (λh0=>?_))
 . have p0:=dt h0;refine kL 3 (Lf_ (⟨(g0).1,(g1).1,(g2).1,(g3).1,(g4).1,(g5).1,(g6).1⟩:Mail)) Z Z Z λw9=>have :=P5_ (⟨(g0).1,(g1).1,(g2).1,(g3).1,(g4).1,(g5).1,(g6).1⟩:Mail);ef (Ag_ Jo_ Z Z Z Z Z λw10 w37p=>jA 6 Z<|ef (Ag_ H9_ Z Z Z Z Z λw11 w38p=>kM 3 (λh1=>?_) (λh1=>?_)))
   . have h2:=Ff_ h1;have p1:=df h2;refine jB 8 [] Z λ_=>rm1 Z Z ?_ Z Z ?_
     . have e:De_ i=(aJ,(B2_ ((g6).2) (Hs_ (⟨(g0).1,(g1).1,(g2).1,(g3).1,(g4).1,(g5).1,(g6).1⟩:Mail)))):=by unfold De_;simp only;(repeat first|simp only[hg0,hg1,hg2,hg3,hg4,hg5,hg6]|rw[if_pos qD]|rw[if_neg qD]);all_goals first|rfl|(simp[*];done)|(simp[*];rfl)
       exact zM
     have e:De_ i=(aJ,(B2_ ((g6).2) (Hs_ (⟨(g0).1,(g1).1,(g2).1,(g3).1,(g4).1,(g5).1,(g6).1⟩:Mail)))):=by unfold De_;simp only;(repeat first|simp only[hg0,hg1,hg2,hg3,hg4,hg5,hg6]|rw[if_pos qD]|rw[if_neg qD]);all_goals first|rfl|(simp[*];done)|(simp[*];rfl)
     exact zO
   have h2:=D6_ h1;have p1:=dt h2;refine jB 9 [] Z λ_=>rm1 Z Z ?_ Z Z ?_
   . have e:De_ i=((⟨(g0).1,(g1).1,(g2).1,(g3).1,(g4).1,(g5).1,(g6).1⟩:Mail),(B2_ ((g6).2) (Hs_ (⟨(g0).1,(g1).1,(g2).1,(g3).1,(g4).1,(g5).1,(g6).1⟩:Mail)))):=by unfold De_;simp only;(repeat first|simp only[hg0,hg1,hg2,hg3,hg4,hg5,hg6]|rw[if_pos qD]|rw[if_neg qD]);all_goals first|rfl|(simp[*];done)|(simp[*];rfl)
     exact zM
   have e:De_ i=((⟨(g0).1,(g1).1,(g2).1,(g3).1,(g4).1,(g5).1,(g6).1⟩:Mail),(B2_ ((g6).2) (Hs_ (⟨(g0).1,(g1).1,(g2).1,(g3).1,(g4).1,(g5).1,(g6).1⟩:Mail)))):=by unfold De_;simp only;(repeat first|simp only[hg0,hg1,hg2,hg3,hg4,hg5,hg6]|rw[if_pos qD]|rw[if_neg qD]);all_goals first|rfl|(simp[*];done)|(simp[*];rfl)
   exact zO
 have p0:=df h0;refine jA 6 Z<|ef (Ag_ H9_ Z Z Z Z Z λw9 w47p=>jA 3 Z<|cndT Z (by rw[h0]<;>rfl)<|jB 8 [] Z λ_=>rm1 Z Z ?_ Z Z ?_)
 . have e:De_ i=(aJ,((g6).2)):=by unfold De_;simp only;(repeat first|simp only[hg0,hg1,hg2,hg3,hg4,hg5,hg6]|rw[if_pos qD]|rw[if_neg qD]);all_goals first|rfl|(simp[*];done)|(simp[*];rfl)
   exact zM
 have e:De_ i=(aJ,((g6).2)):=by unfold De_;simp only;(repeat first|simp only[hg0,hg1,hg2,hg3,hg4,hg5,hg6]|rw[if_pos qD]|rw[if_neg qD]);all_goals first|rfl|(simp[*];done)|(simp[*];rfl)
 exact zO
theorem deed_read{i:In}:Fm prog gb 145 [] 310 (In.pc i) (.agg (G_.pc (((Gi_ i)).1))) (In.pc (((Gi_ i)).2)):=by
 refine S2_ A_ func145 Z ntmps145 Z (P_ func145) Z Z Z Z λw wp b N H hG=>jB 8 [1] Z λB0=>ef (Ag_ (Dt_ _) Z Z Z Z Z λw0 w3p=>?_);have :=Ao_ i 1;generalize hg0:R_ i 1=g0 at *;refine q1 (Ju_ A_ Z Z Z Z Vs_) Z λw1=>jA 1 Z<|ef (Ag_ (Dt_ _) Z Z Z Z Z λw2 w7p=>?_);have :=Ao_ ((g0).2) 8;generalize hg1:R_ ((g0).2) 8=g1 at *;refine jB 19 [2] Z λB1=>cn Z (λp0=>?_) λp1=>?_
 . refine jA 3 Z<|ef (Ag_ Fr_ Z Z Z Z Z λw3 w14p=>?_);have :=Ar_ ((g1).2) 16;generalize hg2:V_ ((g1).2) 16=g2 at *;refine jA 1 Z<|ef (Ag_ (Dt_ _) Z Z Z Z Z λw4 w17p=>?_);have :=Ao_ ((g2).2) 1;generalize hg3:R_ ((g2).2) 1=g3 at *;refine q1 (Ju_ A_ Z Z Z Z Vs_) Z λw5=>jB 7 [] Z λ_=>ef (Ag_ Fr_ Z Z Z Z Z λw6 w22p=>?_);have :=Ar_ ((g3).2) 16;generalize hg4:V_ ((g3).2) 16=g4 at *;refine jB 13 [] Z λ_=>rm1 Z Z ?_ Z Z ?_
   . have e:Gi_ i=((⟨(g0).1,(g1).1,(⟨(g2).1,(g3).1,(g4).1⟩:W_),aM,aP,[],0,0,0,0,0,aJ,[]⟩:G_),((g4).2)):=by unfold Gi_ Jq_;simp only[G_.blank,D3_];(repeat first|simp only[hg0,hg1,hg2,hg3,hg4]|rw[if_pos qD]|rw[if_neg qD]);all_goals first|rfl|(simp[*];done)|(simp[*];rfl)
     exact zM
   have e:Gi_ i=((⟨(g0).1,(g1).1,(⟨(g2).1,(g3).1,(g4).1⟩:W_),aM,aP,[],0,0,0,0,0,aJ,[]⟩:G_),((g4).2)):=by unfold Gi_ Jq_;simp only[G_.blank,D3_];(repeat first|simp only[hg0,hg1,hg2,hg3,hg4]|rw[if_pos qD]|rw[if_neg qD]);all_goals first|rfl|(simp[*];done)|(simp[*];rfl)
   exact zO
 refine kN 6 (λp2=>?_) λp3=>?_
 . refine jA 3 Z<|ef (Ag_ Fr_ Z Z Z Z Z λw3 w29p=>?_);have :=Ar_ ((g1).2) 16;generalize hg2:V_ ((g1).2) 16=g2 at *;refine jA 1 Z<|ef (Ag_ (Dt_ _) Z Z Z Z Z λw4 w32p=>?_);have :=Ao_ ((g2).2) 8;generalize hg3:R_ ((g2).2) 8=g3 at *;refine jA 1 Z<|ef (Ag_ (Dt_ _) Z Z Z Z Z λw5 w35p=>?_);have :=Ao_ ((g3).2) 8;generalize hg4:R_ ((g3).2) 8=g4 at *;refine jB 7 [] Z λ_=>ef (Ag_ Fr_ Z Z Z Z Z λw6 w39p=>?_);have :=Ar_ ((g4).2) 16;generalize hg5:V_ ((g4).2) 16=g5 at *;refine jB 13 [] Z λ_=>rm1 Z Z ?_ Z Z ?_
   . have e:Gi_ i=((⟨(g0).1,(g1).1,aO,(⟨(g2).1,(g3).1,(g4).1,(g5).1⟩:M_),aP,[],0,0,0,0,0,aJ,[]⟩:G_),((g5).2)):=by unfold Gi_ Jq_;simp only[G_.blank,D3_];(repeat first|simp only[hg0,hg1,hg2,hg3,hg4,hg5]|rw[if_pos qD]|rw[if_neg qD]);all_goals first|rfl|(simp[*];done)|(simp[*];rfl)
     exact zM
   have e:Gi_ i=((⟨(g0).1,(g1).1,aO,(⟨(g2).1,(g3).1,(g4).1,(g5).1⟩:M_),aP,[],0,0,0,0,0,aJ,[]⟩:G_),((g5).2)):=by unfold Gi_ Jq_;simp only[G_.blank,D3_];(repeat first|simp only[hg0,hg1,hg2,hg3,hg4,hg5]|rw[if_pos qD]|rw[if_neg qD]);all_goals first|rfl|(simp[*];done)|(simp[*];rfl)
   exact zO
 refine kM 7 (λh0=>?_) (λh0=>?_);have p4:=dt h0;refine jA 2 Z<|cndT Z h0<|jA 3 Z<|ef (Ag_ Fr_ Z Z Z Z Z λw3 w46p=>?_);have :=Ar_ ((g1).2) 16;generalize hg2:V_ ((g1).2) 16=g2 at *;refine jA 1 Z<|ef (Ag_ Fr_ Z Z Z Z Z λw4 w49p=>?_);have :=Ar_ ((g2).2) 16;generalize hg3:V_ ((g2).2) 16=g3 at *;refine jA 1 Z<|ef (Ag_ (Dt_ _) Z Z Z Z Z λw5 w52p=>?_);have :=Ao_ ((g3).2) 1;generalize hg4:R_ ((g3).2) 1=g4 at *;refine jB 9 [] Z λ_=>ef (Ag_ Fr_ Z Z Z Z Z λw6 w56p=>?_);have :=Ar_ ((g4).2) 64;generalize hg5:V_ ((g4).2) 64=g5 at *;refine jB 8 [] Z λ_=>ef (Ag_ S4_ Z Z Z Z Z λw7 w60p=>?_);have :=Kk_ ((g5).2);generalize hg6:Br_ ((g5).2)=g6 at *;refine jB 7 [] Z λ_=>ef (Ag_ (Dt_ _) Z Z Z Z Z λw8 w64p=>?_);have :=Ao_ ((g6).2) 1;generalize hg7:R_ ((g6).2) 1=g7 at *;refine jB 14 [] Z λ_=>rm1 Z Z ?_ Z Z ?_;exact yN;exact yO;have p4:=df h0;refine kN 5 (λp5=>?_) λp6=>?_;refine jA 3 Z<|ef (Ag_ Fr_ Z Z Z Z Z λw3 w71p=>?_);have :=Ar_ ((g1).2) 16;generalize hg2:V_ ((g1).2) 16=g2 at *;refine jA 1 Z<|ef (Ag_ Fr_ Z Z Z Z Z λw4 w74p=>?_);have :=Ar_ ((g2).2) 16;generalize hg3:V_ ((g2).2) 16=g3 at *;refine jA 1 Z<|ef (Ag_ (Dt_ _) Z Z Z Z Z λw5 w77p=>?_);have :=Ao_ ((g3).2) 1;generalize hg4:R_ ((g3).2) 1=g4 at *;refine jB 9 [] Z λ_=>ef (Ag_ Fr_ Z Z Z Z Z λw6 w81p=>?_);have :=Ar_ ((g4).2) 64;generalize hg5:V_ ((g4).2) 64=g5 at *;refine jB 8 [] Z λ_=>ef (Ag_ S4_ Z Z Z Z Z λw7 w85p=>?_);have :=Kk_ ((g5).2);generalize hg6:Br_ ((g5).2)=g6 at *;refine jB 7 [] Z λ_=>ef (Ag_ (Dt_ _) Z Z Z Z Z λw8 w89p=>?_);have :=Ao_ ((g6).2) 1;generalize hg7:R_ ((g6).2) 1=g7 at *;refine jB 14 [] Z λ_=>rm1 Z Z ?_ Z Z ?_;exact yN;exact yO;refine kN 6 (λp7=>?_) λp8=>?_
 . refine jA 2 Z<|ef (Ag_ Tn_ Z Z Z Z Z λw3 w96p=>?_);have :=Le_ ((g1).2);generalize hg2:De_ ((g1).2)=g2 at *;refine jB 12 [] Z λ_=>rm1 Z Z ?_ Z Z ?_
   . have e:Gi_ i=((⟨(g0).1,(g1).1,aO,aM,aP,[],0,0,0,0,0,((g2).1),[]⟩:G_),((g2).2)):=by unfold Gi_ Jq_;simp only[G_.blank,D3_];(repeat first|simp only[hg0,hg1,hg2]|rw[if_pos qD]|rw[if_neg qD]);all_goals first|rfl|(simp[*];done)|(simp[*];rfl)
     exact zM
   have e:Gi_ i=((⟨(g0).1,(g1).1,aO,aM,aP,[],0,0,0,0,0,((g2).1),[]⟩:G_),((g2).2)):=by unfold Gi_ Jq_;simp only[G_.blank,D3_];(repeat first|simp only[hg0,hg1,hg2]|rw[if_pos qD]|rw[if_neg qD]);all_goals first|rfl|(simp[*];done)|(simp[*];rfl)
   exact zO
 refine kM 7 (λh1=>?_) (λh1=>?_);have p9:=dt h1;refine jA 2 Z<|cndT Z h1<|jA 2 Z<|ef (Ag_ Fr_ Z Z Z Z Z λw3 w103p=>?_);have :=Ar_ ((g1).2) 16;generalize hg2:V_ ((g1).2) 16=g2 at *;refine jB 12 [] Z λ_=>rm1 Z Z ?_ Z Z ?_;exact yP;exact yQ;have p9:=df h1;refine kM 6 (λh2=>?_) (λh2=>?_);have p10:=dt h2;refine jA 2 Z<|cndT Z h2<|jA 2 Z<|ef (Ag_ Fr_ Z Z Z Z Z λw3 w110p=>?_);have :=Ar_ ((g1).2) 16;generalize hg2:V_ ((g1).2) 16=g2 at *;refine jB 12 [] Z λ_=>rm1 Z Z ?_ Z Z ?_;exact yP;exact yQ;have p10:=df h2;refine kN 5 (λp11=>?_) λp12=>?_;refine jA 2 Z<|ef (Ag_ Fr_ Z Z Z Z Z λw3 w117p=>?_);have :=Ar_ ((g1).2) 16;generalize hg2:V_ ((g1).2) 16=g2 at *;refine jB 12 [] Z λ_=>rm1 Z Z ?_ Z Z ?_;exact yP;exact yQ;refine kN 6 (λp13=>?_) λp14=>?_
 . refine jA 2 Z<|ef (Ag_ Fr_ Z Z Z Z Z λw3 w124p=>?_);have :=Ar_ ((g1).2) 16;generalize hg2:V_ ((g1).2) 16=g2 at *;refine jA 1 Z<|ef (Ag_ (Dt_ _) Z Z Z Z Z λw4 w127p=>?_);have :=Ao_ ((g2).2) 8;generalize hg3:R_ ((g2).2) 8=g3 at *;refine jA 1 Z<|ef (Ag_ (Dt_ _) Z Z Z Z Z λw5 w130p=>?_);have :=Ao_ ((g3).2) 1;generalize hg4:R_ ((g3).2) 1=g4 at *;refine q1 (Ju_ A_ Z Z Z Z Vs_) Z λw6=>jB 16 [] Z λ_=>rm1 Z Z ?_ Z Z ?_
   . have e:Gi_ i=((⟨(g0).1,(g1).1,aO,aM,aP,(g2).1,(g3).1,(g4).1,0,0,0,aJ,[]⟩:G_),((g4).2)):=by unfold Gi_ Jq_;simp only[G_.blank,D3_];(repeat first|simp only[hg0,hg1,hg2,hg3,hg4]|rw[if_pos qD]|rw[if_neg qD]);all_goals first|rfl|(simp[*];done)|(simp[*];rfl)
     exact zM
   have e:Gi_ i=((⟨(g0).1,(g1).1,aO,aM,aP,(g2).1,(g3).1,(g4).1,0,0,0,aJ,[]⟩:G_),((g4).2)):=by unfold Gi_ Jq_;simp only[G_.blank,D3_];(repeat first|simp only[hg0,hg1,hg2,hg3,hg4]|rw[if_pos qD]|rw[if_neg qD]);all_goals first|rfl|(simp[*];done)|(simp[*];rfl)
   exact zO
 refine kN 6 (λp15=>?_) λp16=>?_
 . refine jA 2 Z<|ef (Ag_ (Dt_ _) Z Z Z Z Z λw3 w138p=>?_);have :=Ao_ ((g1).2) 1;generalize hg2:R_ ((g1).2) 1=g2 at *;refine q1 (Ju_ A_ Z Z Z Z Vs_) Z λw4=>jA 1 Z<|ef (Ag_ (Dt_ _) Z Z Z Z Z λw5 w142p=>?_);have :=Ao_ ((g2).2) 8;generalize hg3:R_ ((g2).2) 8=g3 at *;refine jA 1 Z<|ef (Ag_ Tn_ Z Z Z Z Z λw6 w145p=>?_);have :=Le_ ((g3).2);generalize hg4:De_ ((g3).2)=g4 at *;refine jB 16 [] Z λ_=>rm1 Z Z ?_ Z Z ?_
   . have e:Gi_ i=((⟨(g0).1,(g1).1,aO,aM,aP,[],0,0,(g2).1,0,(g3).1,((g4).1),[]⟩:G_),((g4).2)):=by unfold Gi_ Jq_;simp only[G_.blank,D3_];(repeat first|simp only[hg0,hg1,hg2,hg3,hg4]|rw[if_pos qD]|rw[if_neg qD]);all_goals first|rfl|(simp[*];done)|(simp[*];rfl)
     exact zM
   have e:Gi_ i=((⟨(g0).1,(g1).1,aO,aM,aP,[],0,0,(g2).1,0,(g3).1,((g4).1),[]⟩:G_),((g4).2)):=by unfold Gi_ Jq_;simp only[G_.blank,D3_];(repeat first|simp only[hg0,hg1,hg2,hg3,hg4]|rw[if_pos qD]|rw[if_neg qD]);all_goals first|rfl|(simp[*];done)|(simp[*];rfl)
   exact zO
 refine kN 6 (λp17=>?_) λp18=>?_
 . refine jA 2 Z<|ef (Ag_ (Dt_ _) Z Z Z Z Z λw3 w152p=>?_);have :=Ao_ ((g1).2) 1;generalize hg2:R_ ((g1).2) 1=g2 at *;refine q1 (Ju_ A_ Z Z Z Z Vs_) Z λw4=>jA 1 Z<|ef (Ag_ Fr_ Z Z Z Z Z λw5 w156p=>?_);have :=Ar_ ((g2).2) 64;generalize hg3:V_ ((g2).2) 64=g3 at *;refine jB 14 [] Z λ_=>rm1 Z Z ?_ Z Z ?_
   . have e:Gi_ i=((⟨(g0).1,(g1).1,aO,aM,aP,[],0,0,0,(g2).1,0,aJ,(g3).1⟩:G_),((g3).2)):=by unfold Gi_ Jq_;simp only[G_.blank,D3_];(repeat first|simp only[hg0,hg1,hg2,hg3]|rw[if_pos qD]|rw[if_neg qD]);all_goals first|rfl|(simp[*];done)|(simp[*];rfl)
     exact zM
   have e:Gi_ i=((⟨(g0).1,(g1).1,aO,aM,aP,[],0,0,0,(g2).1,0,aJ,(g3).1⟩:G_),((g3).2)):=by unfold Gi_ Jq_;simp only[G_.blank,D3_];(repeat first|simp only[hg0,hg1,hg2,hg3]|rw[if_pos qD]|rw[if_neg qD]);all_goals first|rfl|(simp[*];done)|(simp[*];rfl)
   exact zO
 refine jB 10 [] Z λ_=>rm1 Z Z ?_ Z Z ?_
 . have e:Gi_ i=((⟨(g0).1,(g1).1,aO,aM,aP,[],0,0,0,0,0,aJ,[]⟩:G_),((g1).2)):=by unfold Gi_ Jq_;simp only[G_.blank,D3_];(repeat first|simp only[hg0,hg1]|rw[if_pos qD]|rw[if_neg qD]);all_goals first|rfl|(simp[*];done)|(simp[*];rfl)
   exact zM
 have e:Gi_ i=((⟨(g0).1,(g1).1,aO,aM,aP,[],0,0,0,0,0,aJ,[]⟩:G_),((g1).2)):=by unfold Gi_ Jq_;simp only[G_.blank,D3_];(repeat first|simp only[hg0,hg1]|rw[if_pos qD]|rw[if_neg qD]);all_goals first|rfl|(simp[*];done)|(simp[*];rfl)
 exact zO
theorem r4_Name{s:Bs}:aC 58 [.str s] (aA (F1_ s)):=by
 refine jG func58 ntmps58 Z λw N H hG=>kN 13 (λp0=>?_) λp1=>?_;refine kR 7 ?_;have :s=[]:=List.eq_nil_of_length_eq_zero qD;subst this;rfl;refine kN 10 (λp2=>?_) λp3=>?_;refine kR 7 ?_;have hne:¬s=[]:=λq=>by subst q;simp at *
 unfold F1_;rw[if_neg hne,if_pos qD];refine jA 9 Z<|lP (ι:=Nat) [0,4,5,6,7,8,9] [] (λk=>⟨[(3,aA k)],[],k<=s.length/\(s.drop k).all (λc=>letter c.toNat)=plain s,s.length-k⟩) 0 ⟨by omega,rfl⟩<|λk ⟨hk1,hk2⟩=>kN 9 (λp4=>?_) λp5=>?_;have :=u8r (s.getD k 0);refine jA 8 Z<|q1 (sidx A_ k Z Z Z Z Z qD) Z λw0=>call r4_letter Z Z λw1=>kM 3 (λh0=>?_) (λh0=>?_);have h1:=Ff_ h0;refine kR 11 ?_;have hne:¬s=[]:=λq=>by subst q;simp at *
 unfold F1_;rw[if_neg hne,if_neg qD,<- hk2,Zw_ (k:=k) qD];simp only[*,Bool.false_and,Bool.false_eq_true,if_false];have h1:=D6_ h0;refine jC 8 Z<|nN (k+1) ?_;refine⟨by omega,?_⟩;rw[<- hk2,Zw_ (k:=k) qD];simp only[*,Bool.true_and];refine kR 11 ?_;have hne:¬s=[]:=λq=>by subst q;simp at *
 unfold F1_;rw[if_neg hne,if_neg qD,<- hk2,A9 qD];rfl
theorem l09_Light{h:List Pair}:aC 60 [.sl Pair.pc h] (.bool (Tf_ h)):=by
 refine jG func60 ntmps60 Z λw N H hG=>kN 13 (λp0=>?_) λp1=>?_;refine kR 7 ?_;exact congrArg PV.bool (by simp[Tf_];omega);refine jA 11 Z<|lP (ι:=Nat) [0,5,6,7,8,9] [] (λk=>⟨[(10,aA k)],[],k<=h.length/\h.all lightP=(h.drop k).all lightP,h.length-k⟩) 0 ⟨Nat.zero_le _,rfl⟩<|λk ⟨hk1,hk2⟩=>kN 6 (λp2=>?_) λp3=>?_;have⟨c0,hc0⟩:=getE (xs:=h) (m:=k) qD;refine jA 6 Z<|jI k hc0 Z Z Z λw0=>jD 19 [0] Z λB0=>cnd Z (λh0=>?_) (λh0=>?_);refine kR 11 ?_;exact congrArg PV.bool (by unfold Tf_;rw[all_miss hk2 (Fu_ hc0) (by simp[lightP];first|omega|grind)];simp);have h1:=orl h0;have p4:=df h1;have h2:=orr h0;have p5:=df h2;exact jC 7 Z<|nN (k+1) ⟨by omega,all_step hk2 (Fu_ hc0) (by simp[lightP];omega)⟩;refine kR 11 ?_;exact congrArg PV.bool (by unfold Tf_;rw[all_end hk2 qD];simp;omega)
theorem l13_Light{m:Mail}:aC 61 [m.ag] (.bool (Un_ m)):=by
 refine kG func61 ntmps61 λw N H hG=>?_;have m_w:=Mail.pwf w.1;have m_w':=m_w;simp only[Mail.wf] at m_w';refine jD 21 [0] Z λB0=>Ig_ Z (λhc=>(l09_Light)) Z λ_=>jC 11 Z<|rt1 Z Z (ple<|congrArg PV.bool ?_);unfold Un_;exact yG
theorem l22_Light{d:G_}:aC 27 [d.ag] (.bool (Te_ d)):=by
 refine kG func27 ntmps27 λw N H hG=>?_;have d_w:=G_.pwf w.1;have d_w':=d_w;simp only[G_.wf,W_.wf,M_.wf,Q_.wf,Mail.wf] at d_w';refine jB 35 [0] Z λB0=>q1 (qmaxN (z:=(d.Bm_.name.length:Int)) (r:=(max (max (max (max (max (max (d.Bm_.name.length:Int) (d.Bm_.to'.length:Int)) (d.queue.name.length:Int)) (d.queue.dead.length:Int)) (d.bind.Bm_.length:Int)) (d.bind.to'.length:Int)) (d.name.length:Int))) [(d.Bm_.to'.length:Int),(d.queue.name.length:Int),(d.queue.dead.length:Int),(d.bind.Bm_.length:Int),(d.bind.to'.length:Int),(d.name.length:Int)] Z Z Vd_) Z λw0=>jC 22 Z<|Ig_ Z (λhc=>(l09_Light)) Z λ_=>jC 4 Z<|Ig_ Z (λhc=>(l13_Light)) Z λ_=>jC 5 Z<|rt1 Z Z (ple<|congrArg PV.bool ?_);unfold Te_;exact yG
theorem rule_Check(r:Rule):aC 199 [r.ag] (aA (T4_ r)):=by
 refine kG func199 ntmps199 λw N H hG=>?_;have r_w:=Rule.pwf w.1;have r_w':=r_w;simp only[Rule.wf] at r_w';refine jB 21 [0] Z λB0=>cn Z (λp0=>?_) λp1=>?_;refine kR 8 ?_;exact xN;refine kN 8 (λp2=>?_) λp3=>?_;refine kL 3 words_Key Z Z Z λw0=>kM 11 (λh0=>?_) (λh0=>?_);have h1:=Ff_ h0;refine kR 8 ?_;exact xN;exact rH;refine kL 3 words_Pattern Z Z Z λw0=>kM 11 (λh0=>?_) (λh0=>?_);have h1:=Ff_ h0;refine kR 8 ?_;exact xN;exact rH
theorem rule_heads{r:Rule}{h:List Pair}:aC 276 [r.ag, .sl Pair.pc h] (.bool (N2_ r.all h r.want)):=by
 refine kG func276 ntmps276 λw N H hG=>?_;have r_want_l:r.want.length<=140737488355328:=w.1.2.2.1.1;refine jB 20 [0] Z λB0=>lP (ι:=Nat) [0,1,2,10,11,12] [0] (λk=>⟨[(13,aA k)],[],k<=r.want.length/\N2_ r.all h r.want=N2_ r.all h (r.want.drop k),r.want.length-k⟩) 0 ⟨Nat.zero_le _,rfl⟩<|λk ⟨hk1,hk2⟩=>kN 6 (λp0=>?_) λp1=>?_;have⟨c0,hc0⟩:=getE (xs:=r.want) (m:=k) qD;refine jA 6 Z<|jI k hc0 Z Z Z λw0=>jB 10 [1] Z λB1=>call head_Find Z Z λw1=>jB 14 [2] Z λB2=>q1g [26,27] Z (λhc=>saeq Z Z eqg232 (veq232 ((Y6_ h c0.key).getD Pair.zero) c0)) λ_=>jC 15 Z<|cnd Z (λh0=>have h1:=bl h0;have h2:=bl h1;have h3:=br h1;have p2:=dt h3;have h4:=br h0;rX) λh0=>kM 6 (λh1=>?_) (λh1=>?_);have h2:=bl h1;have h3:=br h1;have p2:=dt h3;refine kR 13 ?_;refine congrArg PV.bool ?_;exact tJ;refine kM 7 (λh2=>?_) (λh2=>?_);refine kR 13 ?_;refine congrArg PV.bool ?_;exact tJ;exact rX;refine kR 14 ?_;refine congrArg PV.bool ?_;rw[hk2,A9 qD];rfl
theorem Yl_(r:Rule)(key:Bs)(h:List Pair)(hrk:r.key.length<4294967281:=by first|omega|(simp;done)|decide)(hk:key.length<4294967281:=by first|omega|(simp;done)|decide):aC 232 [r.ag, .str key, .sl Pair.pc h] (.bool (Uj_ r key h)):=by
 refine jG func232 ntmps232 Z λw N H hG=>jB 20 [0] Z λB0=>cn Z (λp0=>?_) λp1=>?_;refine kR 12 ?_;exact xS;refine kN 6 (λp2=>?_) λp3=>?_;refine kL 5 Mt_ Z Z Z λw0=>kR 6 ?_;exact xS;refine kN 6 (λp4=>?_) λp5=>?_;refine kL 4 rule_heads Z Z Z λw0=>kR 6 ?_;exact xS;refine kR 9 ?_;exact xS
theorem match_Same{a:Rule}{b:Rule}:aC 202 [a.ag,b.ag] (.bool (decide (a=b))):=by
 exact jG func202 ntmps202 Z λw N H hG=>jD 33 [0,1] Z λB0=>Ig_ Z (λhc=>(eq_Pair)) Z λ_=>jC 5 Z<|rt1 Z Z (ple<|congrArg PV.bool (by rw[BE];first|(simp[Rule.eq_iff,and_assoc];done)|(simp[Rule.eq_iff];grind)))
theorem eq_Str{a:List Bs}{b:List Bs}:aC 334 [.sl strc a, .sl strc b] (.bool (decide (a=b))):=by
 refine kG func334 ntmps334 λw N H hG=>?_;have a_l:a.length<=140737488355328:=w.1.1;refine kM 15 (λh0=>?_) (λh0=>?_);exact yS;have h1:=D6_ h0;have p0:=dt h1;refine jA 11 Z<|lP (ι:=Nat) [0,1,6,7,8,9,10,11,12] [] (λk=>⟨[(13,aA k)],[],k<=a.length /\ decide (a=b) = decide (a.drop k=b.drop k),a.length-k⟩) 0 ⟨Nat.zero_le _,rfl⟩<|λk ⟨hk1,hk2⟩=>kM 6 (λh2=>?_) (λh2=>?_);have p1:=dt h2;refine jA 11 Z<|aN [0,1,2,3,4,5] 9 mixd<|kE [0,1] 7 ?_;have⟨c0,hc0⟩:=getE (xs:=a) (m:=k) qD;refine vq 2 (qidx A_ k Z Z Z hc0 Z Z Z Z) Z λw0=>kE [3,4,5] 3 ?_;have⟨c1,hc1⟩:=getE (xs:=b) (m:=k) qD;refine vq 6 (qidx A_ k Z Z Z hc1 Z Z Z Z) Z λw1=>jE [7,8] 0 Z<|vD<|kM 1 (λh3=>?_) (λh3=>?_);exact yV;exact yU;exact xB
theorem index_Str{l:List Bs}{x:Bs}:aC 292 [.sl strc l, .str x] (aA (idxP (λy=>decide (x=y)) l)):=by
 refine kG func292 ntmps292 λw N H hG=>?_;have l_l:l.length<=140737488355328:=w.1.1;refine jA 14 Z<|lP (ι:=Nat) [0,1,6,7] [] (λk=>⟨[(8,aA k)],[],k<=l.length/\idxP (λy=>decide (x=y)) l=idxF (λy=>decide (x=y)) k (l.drop k),l.length-k⟩) 0 ⟨Nat.zero_le _,rfl⟩<|λk ⟨hik1,hik2⟩=>kM 6 (λh0=>?_) (λh0=>?_);have p0:=dt h0;have⟨c0,hc0⟩:=getE (xs:=l) (m:=k) qD;refine jA 15 Z<|jI k hc0 Z Z Z λw0=>kM 4 (λh1=>?_) (λh1=>?_);have p1:=dt h1;exact vM;have p1:=df h1;exact jC 7 Z<|nN (k+1) ⟨by omega,Mk_ hik2 (Fu_ hc0) qG⟩;have p0:=df h0;exact vL
theorem contains_Str{l:List Bs}{x:Bs}:aC 277 [.sl strc l, .str x] (.bool (decide (x∈l))):=by
 refine jG func277 ntmps277 Z λw N H hG=>kL 9 index_Str Z Z Z λw0=>have :=idxP_r (λy=>decide (x=y)) l;kR 5 ?_;refine congrArg PV.bool ?_;rw[BE,decide_eq_true_eq,decide_eq_true_eq,idxP_any];simp
theorem shop_check{x:W_}:aC 191 [.agg (W_.pc x)] (aA (L2_ x)):=by
 refine jG func191 ntmps191 Z λw N H hG=>jB 11 [0] Z λB0=>call F0_ Z Z λw0=>kM 9 (λh0=>?_) (λh0=>?_);have h1:=Ff_ h0;refine kR 8 ?_;exact xP;have h1:=D6_ h0;have p0:=dt h1;refine kM 12 (λh2=>?_) (λh2=>?_);have p1:=dt h2;refine kR 8 ?_;exact xP;have p1:=df h2;refine kM 8 (λh3=>?_) (λh3=>?_);have p2:=dt h3;refine kL 4 F0_ Z Z Z λw1=>kR 6 ?_;exact xP;have p2:=df h3;refine kM 8 (λh4=>?_) (λh4=>?_);have h5:=Ff_ h4;refine kR 8 ?_;exact xP;have h5:=D6_ h4;refine kR 9 ?_;exact xP
theorem Sq_{b:A3_}{name:Bs}:aC 171 [b.ag, .str name] (.tup [.agg (W_.pc ((Fl_ b.Bs_ name).getD W_.zero)), .bool ((Fl_ b.Bs_ name).isSome)]):=by
 refine kG func171 ntmps171 λw N H hG=>?_;have b_shops_l:b.Bs_.length<=140737488355328:=w.1.1.1;refine jB 17 [0,1] Z λB0=>lP (ι:=Nat) [0,1,2,4,8,9,10] [0,1] (λk=>⟨[(11,aA k)],[],k<=b.Bs_.length/\Fl_ b.Bs_ name=Fl_ (b.Bs_.drop k) name,b.Bs_.length-k⟩) 0 ⟨Nat.zero_le _,rfl⟩<|λk ⟨hk1,hk2⟩=>kM 6 (λh0=>?_) (λh0=>?_);have p0:=dt h0;have⟨c0,hc0⟩:=getE (xs:=b.Bs_) (m:=k) qD;refine jA 6 Z<|jI k hc0 Z Z Z λw0=>jB 13 [2] Z λB1=>cnd Z (λh1=>?_) (λh1=>?_);have p1:=dt h1;refine jB 13 [] Z λ_=>rt2 Z Z<|ple ?_;have e:=shopOf_hit hk2 (Fu_ hc0) qG;rw[e];rfl;have p1:=df h1;exact jC 7 Z<|nN (k+1) ⟨by omega,shopOf_miss hk2 (Fu_ hc0) qG⟩;have p0:=df h0;refine jB 13 [] Z λ_=>rt2 Z Z<|ple ?_;rw[A9 qD] at hk2;rw[hk2];rfl
theorem Sp_{x:Q_}{sort:Int}:aC 198 [x.ag, .int .u8 sort] (.agg (Rule.pc (Kp_ x sort))):=by
 exact jG func198 ntmps198 Z λw N H hG=>jB 20 [0,1] Z λB0=>vW
theorem bind_same(x:Q_)(y:Q_):aC 120 [x.ag,y.ag] (.bool (decide (x=y))):=by
 refine jG func120 ntmps120 Z λw N H hG=>jB 8 [0,1] Z λB0=>aN [2,3,4,5,6,7] 27 mixd<|kF [0,1,2,3,4,5,6,7,8,9,10,11,12,13,14,15,16,17,18,19,20,22] 5 ?_;refine vE 21 Z (Wo_ Z (λhc=>(Sp_)) Z aF Z Z λ_=>vE 23 Z (Wo_ Z (λhc=>(Sp_)) Z aF Z Z λ_=>Yw_ 24 Z Z (λhc=>(match_Same)) Z λ_=>kF [25,26] 0 ?_));refine vD<|kR 2 ?_;exact congrArg PV.bool (by rw[BE];first|(simp[Q_.eq_iff,Kp_,and_assoc];done)|(simp[Q_.eq_iff,Kp_];grind))
theorem Zi_{s:List Pair}(hl:s.length<=1000000:=by first|omega|(simp;done)|(simp;omega)):aC 176 [.sl Pair.pc s] (.sl Pair.pc s):=by
 refine jG func176 ntmps176 Z λw N H hG=>jA 9 Z<|ef (lnil A_ Z Z Z Z Z λb0 hb2=>kM 2 (λh0=>?_) (λh0=>?_));exact wH;exact jA 4 Z<|ef (bsl 0 Pair.pc [] A_ Z Z Z Z Z (λ_=>rfl) Z λu0=>xZ)
theorem Zf_{x:Q_}(hl:x.want.length<=1000000:=by first|omega|(simp;done)|decide):aC 153 [x.ag] (x.ag):=by
 exact jG func153 ntmps153 Z λw N H hG=>jB 10 [0,1] Z λB0=>call Zi_ Z Z λw0=>jB 11 [] Z λ_=>vW
theorem idxF_Bind{s:List Q_}{f:FuncId}{f_fst f_cap:List PV}(f_p:Q_->Bool)(f_h:∀ x,aC f (argsP.apL f_fst ((x.ag)::f_cap)) (.bool (f_p x))):aC 252 [.sl Q_.pc s, .fn f f_fst f_cap] (aA (idxP f_p s)):=by
 refine kG func252 ntmps252 λw N H hG=>?_;have s_l:s.length<=140737488355328:=w.1.1;refine jA 14 Z<|lP (ι:=Nat) [0,1,6,7] [] (λk=>⟨[(8,aA k)],[],k<=s.length/\idxP f_p s=idxF f_p k (s.drop k),s.length-k⟩) 0 ⟨Nat.zero_le _,rfl⟩<|λk ⟨hk1,hk2⟩=>kM 6 (λh0=>?_) (λh0=>?_);have p0:=dt h0;have⟨c0,hc0⟩:=getE (xs:=s) (m:=k) qD;refine jA 15 Z<|jI k hc0 Z Z Z λw0=>kL 1 (f_h c0) Z Z Z λw1=>kM 2 (λh1=>?_) (λh1=>?_);exact vN;exact vB;exact yZ
theorem grow_Shop{n:Int}(hn:0<=n/\n<=100000000:=by omega):Fo prog gb 251 [.val (.slice none 0 0),aA n] (λu=> .val u) 3 40 W_.pc ([]:List W_):=by
 refine fo_cw A_ func251 Z ntmps251 Z (P_ func251) (λ_=>rfl) Z λw N H hG=>kM 12 (λh0=>?_) (λh0=>?_);exact xA;have p0:=df h0;refine jA 7 Z<|q1 (Vq_ A_ Z Z Z) Z λw0=>jA 1 Z<|q1 (Vr_ A_ Z Z Z) Z λw1=>jC 11 Z<|cn Z (λp1=>?_) λp2=>?_;exact jA 3 Z<|q1 (Vq_ A_ Z Z Z) Z λw2=>q1 (qcut0 A_ Z Z Z Z Z) Z λw3=>jA 1 Z<|ef (appz (m:=((n-(0-0))).toNat) 0 A_ Z Z Z Z Z Z Z Z Z Z qD qD pG Z Z λu0=>jA 1 Z<|q1 (Vr_ A_ Z Z Z) Z λw4=>ef (ocut W_.pc A_ Z Z Z Z Z Z Z λu1=>wP));exact jA 8 Z<|Id_ (t:=4) (k:=3) (e:=40) 0 W_.pc Z Z<|xJ
theorem Wh_{ls:List (List W_)}(hl:ls.flatten.length<=100000000:=by first|omega|(simp;done)|(simp;omega)|(simp only[List.flatten_cons,List.flatten_nil,List.length_append,List.append_nil];simp;omega)):aC 192 [.sl (slc W_.pc) ls] (.sl W_.pc ls.flatten):=by
 refine kG func192 ntmps192 λw N H hG=>?_;have ls_l:ls.length<=140737488355328:=w.1.1;refine jA 19 Z<|lP (ι:=Nat×Int) [0,2,9,10] [] (λ⟨k,n⟩=>⟨[(3,aA n),(11,aA k)],[],k<=ls.length/\n=((ls.take k).flatten.length:Int),ls.length-k⟩) ⟨0,0⟩ ⟨Nat.zero_le _,by simp⟩<|λ⟨k,n⟩ ⟨hk1,hk2⟩=>have hg0:=E0_ ls k;kN 6 (λp0=>?_) λp1=>?_;have⟨c0,hc0⟩:=getE (xs:=ls) (m:=k) qD;exact jA 6 Z<|jI k hc0 Z Z Z λw0=>go A_ 19 Z Z ⟨pI,trivial⟩<|cnd Z (λh0=>xD) λh0=>xC;refine jA 8 Z<|ef (Mx_ 0 grow_Shop Z Z λu0 w0=>jA 12 Z<|Yu_ (t:=6) 0 Z Z<|lP (ι:=Nat×(List W_)×Value) [0,2,3,9,10,11,12,23,24,25,26] [] (λ⟨k,out,u_out⟩=>⟨[(6, .osl 0),(27,aA k)],[(0, .arr u_out 3 40 W_.pc out)],k<=ls.length/\out=(ls.take k).flatten,ls.length-k⟩) ⟨0,([]:List W_),(u0)⟩ ⟨Nat.zero_le _,by simp⟩<|λ⟨k,out,u_out⟩ ⟨hk1,hk2⟩=>kN 6 (λp2=>?_) λp3=>?_);exact xG;exact wA
theorem grow_Bind{n:Int}(hn:0<=n/\n<=100000000:=by omega):Fo prog gb 253 [.val (.slice none 0 0),aA n] (λu=> .val u) 6 45 Q_.pc ([]:List Q_):=by
 refine fo_cw A_ func253 Z ntmps253 Z (P_ func253) (λ_=>rfl) Z λw N H hG=>kM 12 (λh0=>?_) (λh0=>?_);exact xA;have p0:=df h0;refine jA 7 Z<|q1 (Vq_ A_ Z Z Z) Z λw0=>jA 1 Z<|q1 (Vr_ A_ Z Z Z) Z λw1=>jC 11 Z<|cn Z (λp1=>?_) λp2=>?_;exact jA 3 Z<|q1 (Vq_ A_ Z Z Z) Z λw2=>q1 (qcut0 A_ Z Z Z Z Z) Z λw3=>jA 1 Z<|ef (appz (m:=((n-(0-0))).toNat) 0 A_ Z Z Z Z Z Z Z Z Z Z qD qD pG Z Z λu0=>jA 1 Z<|q1 (Vr_ A_ Z Z Z) Z λw4=>ef (ocut Q_.pc A_ Z Z Z Z Z Z Z λu1=>wP));exact jA 8 Z<|Id_ (t:=4) (k:=6) (e:=45) 0 Q_.pc Z Z<|xJ
theorem Wf_{ls:List (List Q_)}(hl:ls.flatten.length<=100000000:=by first|omega|(simp;done)|(simp;omega)|(simp only[List.flatten_cons,List.flatten_nil,List.length_append,List.append_nil];simp;omega)):aC 197 [.sl (slc Q_.pc) ls] (.sl Q_.pc ls.flatten):=by
 refine kG func197 ntmps197 λw N H hG=>?_;have ls_l:ls.length<=140737488355328:=w.1.1;refine jA 19 Z<|lP (ι:=Nat×Int) [0,2,9,10] [] (λ⟨k,n⟩=>⟨[(3,aA n),(11,aA k)],[],k<=ls.length/\n=((ls.take k).flatten.length:Int),ls.length-k⟩) ⟨0,0⟩ ⟨Nat.zero_le _,by simp⟩<|λ⟨k,n⟩ ⟨hk1,hk2⟩=>have hg0:=E0_ ls k;kN 6 (λp0=>?_) λp1=>?_;have⟨c0,hc0⟩:=getE (xs:=ls) (m:=k) qD;exact jA 6 Z<|jI k hc0 Z Z Z λw0=>go A_ 19 Z Z ⟨pI,trivial⟩<|cnd Z (λh0=>xD) λh0=>xC;refine jA 8 Z<|ef (Mx_ 0 grow_Bind Z Z λu0 w0=>jA 12 Z<|Yu_ (t:=6) 0 Z Z<|lP (ι:=Nat×(List Q_)×Value) [0,2,3,9,10,11,12,23,24,25,26] [] (λ⟨k,out,u_out⟩=>⟨[(6, .osl 0),(27,aA k)],[(0, .arr u_out 6 45 Q_.pc out)],k<=ls.length/\out=(ls.take k).flatten,ls.length-k⟩) ⟨0,([]:List Q_),(u0)⟩ ⟨Nat.zero_le _,by simp⟩<|λ⟨k,out,u_out⟩ ⟨hk1,hk2⟩=>kN 6 (λp2=>?_) λp3=>?_);exact xG;exact wA
abbrev R0_:(A3_×Int)->PV:=λr=> .tup [.agg (A3_.pc r.1),aA r.2]
theorem Vf_{l:List Bs}{s:Bs}(hl:l.length<=100000:=by first|omega|(simp;omega)|decide +kernel):Fl prog gb 233 [.str s] (λu=> .val u) 1 9 strc l (Ir_ l s):=by
 refine fl_cw A_ func233 Z ntmps233 Z (P_ func233) (λ_=>rfl) Z λw l_l u0 N H hG=>have e0:=Ir_.eq_1 l s;jA 10 Z<|ef (Pk_ 0 Z contains_Str Z λw0=>jA 2 Z<|cD e0 (λp0 e1=>?_) (λp1 e2=>?_));exact jA 6 Z<|Je_ (t:=4) (i:=0) Z Z<|jA 2 Z<|ro1 (j:=0) Z Z Z<|(congrArg (λr:(List Bs)=>r) e1).symm;exact jA 6 Z<|ef (bsl 1 strc [s] A_ Z Z Z Z Z (λ_=>rfl) Z λu1=>ef (app A_ [s] Z Z Z Z Z Z Z (K6_ Z Z) λu2=>jA 3 Z<|Je_ (t:=4) (i:=0) Z Z<|jA 1 Z<|ro1 (j:=0) Z Z Z<|(congrArg (λr:(List Bs)=>r) e2).symm))
theorem Nz_(b:A3_)(x:W_)(hs:b.Bs_.length<=1000:=by first|omega|(simp;omega)|decide +kernel):aC 108 [b.ag, .agg (W_.pc x)] (R0_ (C0_ b x)):=by
 exact jF func108 A_ (C0_.eq_1 b x) Z Z λw N H hG z e0=>jB 12 [0,1,2] Z λB0=>call shop_check Z Z λw0=>have :=shopE_r x;jA 9 Z<|cN e0 (λp0 e1=>wQ) λp1 e2=>kL 7 Sq_ Z Z Z λw1=>jB 16 [3] Z λB1=>q1g [25,26] Z (λhc=>saeq Z Z eqg40 (veq40 x ((Fl_ b.Bs_ x.name).getD W_.zero))) λ_=>jC 4 Z<|cE e2 (λh0 e3=>have h1:=bl h0;have h2:=br h0;wS) λh0 e4=>jA 6 Z<|cE e4 (λh1 e5=>wT) λh1 e6=>jA 9 Z<|cD e6 (λp2 e7=>wU) λp3 e8=>jA 8 Z<|ef (bsl 4 W_.pc [x] A_ Z Z Z Z Z (λ_=>rfl) Z λu0=>give 4 Z<|ef (bsl 4 (slc W_.pc) [b.Bs_,[x]] A_ Z Z Z Z Z (λ_=>rfl) Z λu1=>give 4 Z<|call Wh_ Z Z λw2=>jB 12 [] Z λ_=>(by subst e8;exact qr2)))
theorem Nc_{b:A3_}{x:Q_}:aC 196 [b.ag,x.ag] (aA (By_ b x)):=by
 exact jG func196 ntmps196 Z λw N H hG=>have e0:=By_.eq_1 b x;jB 13 [0,1] Z λB0=>call (idxF_Bind (λz_4:Q_=>decide (x=z_4)) (λz_4=>bind_same x z_4)) Z Z λw0=>jA 4 Z<|zW
abbrev R1_:Int->PV:=λr=>aA r
abbrev R2_:((List Bs)×(List Bs)×Int)->PV:=λr=> .tup [.sl strc r.1, .sl strc r.2.1,aA r.2.2]
theorem K3_{b:A3_}(x:Q_)(hb:b.binds.length<=1000:=by first|omega|(simp;omega)|decide +kernel)(hw:x.want.length<=1000:=by first|omega|(simp;omega)|decide +kernel):aC 111 [b.ag,x.ag] (R0_ (Bv_ b x)):=by
 refine jF func111 A_ (Bv_.eq_1 b x) Z Z λw N H hG z e0=>jB 13 [0,1,2] Z λB0=>call Sq_ Z Z λw0=>jB 17 [3] Z λB1=>cE e0 (λh0 e1=>have h1:=Ff_ h0;wQ) λh0 e2=>have h1:=D6_ h0;jA 8 Z<|cD e2 (λp0 e3=>wS) λp1 e4=>kL 8 F0_ Z Z Z λw1=>jA 9 Z<|cN e4 (λp2 e5=>wT) λp3 e6=>kL 8 Sp_ Z Z Z λw2=>call (rule_Check _) Z Z λw3=>jA 11 Z<|cN e6 (λp4 e7=>jB 11 [] Z λ_=>by subst e7;exact qr2) λp5 e8=>jA 4 Z<|cV e8 R1_ Nc_ Z λr hr0 e9 w4=>jA 4 Z<|cD e9 (λp6 e10=>jB 10 [] Z λ_=>by subst e10;exact qr2) λp7 e11=>jA 9 Z<|cD e11 (λp8 e12=>jB 10 [] Z λ_=>by subst e12;exact qr2) λp9 e13=>jA 4 Z<|aN [4,5,6,7,8,9] 9 mixd<|jE [0,1,2] 6 Z<|vE 3 Z (eC Zf_ Z λw5=>vE 4 Z (bsl 4 Q_.pc [x] A_ Z Z Z Z Z (λ_=>rfl) Z λu0=>vE 5 Z (Y5_ 4 Z (bsl 4 (slc Q_.pc) [b.binds,[x]] A_ Z Z Z Z Z (λ_=>rfl) Z λu1=>vE 6 Z (Y5_ 4 Z (eweak (eC Wf_ Z λw6=>jE [7] 1 Z<|vT 8 Z (sO A_ ?_))))))));exact vD<|jB 9 [] Z λ_=>(by subst e13;exact qr2)
theorem Nb_(b:A3_)(Bm_:Bs)(key:Bs)(h:List Pair)(hb:b.binds.length<=1000:=by first|omega|(simp;omega)|decide +kernel)(hk:key.length<4294967281:=by first|omega|(simp;omega)|decide +kernel)(hr:∀ y∈b.binds,y.key.length<4294967281:=by first|assumption|decide +kernel):aC 170 [b.ag, .str Bm_, .str key, .sl Pair.pc h] (R2_ (Ej_ b Bm_ key h)):=by
 refine jF func170 A_ (Ej_.eq_1 b Bm_ key h) Z Z λw N H hG z e0=>jB 13 [0] Z λB0=>call Sq_ Z Z λw0=>jB 17 [1] Z λB1=>cE e0 (λh0 e1=>have h1:=Ff_ h0;jA 11 Z<|(by subst e1;exact rt3 Z Z (E4_ (B_ As_ (B_ As_ (B_ (ple Z) A0_)))))) λh0 e2=>have h1:=D6_ h0;jA 8 Z<|cD e2 (λp0 e3=>jA 1 Z<|aN [2,3,4,5,6,7] 6 mixd<|jE [0,1,3] 3 Z<|vE 2 Z (bsl 2 strc [((Fl_ b.Bs_ Bm_).getD W_.zero).to'] A_ Z Z Z Z Z (λ_=>rfl) Z λu0=>jE [4,5] 0 Z<|vD<|jA 1 Z<|Ks_ 2 Z<|jA 4 Z<|(by subst e3;exact rt3 Z Z (E4_ (B_ As_ (B_ (ple Z) (B_ (ple Z) A0_))))))) λp1 e4=>jA 22 Z<|Id_ (t:=13) (k:=1) (e:=9) 2 strc Z Z<|Id_ (t:=14) (k:=1) (e:=9) 3 strc Z Z<|lP (ι:=Nat×(List Bs)×(List Bs)×Value×Value) [1,2,3,8,9,10,11,34,35] [0,1] (λ⟨k,queues,places,u_queues,u_places⟩=>⟨[(36,aA k),(13, .osl 2),(14, .osl 3)],[(2, .arr u_queues 1 9 strc queues),(3, .arr u_places 1 9 strc places)],k<=b.binds.length/\z=Ct_ b Bm_ key h (b.binds.drop k) queues places/\queues.length<=k/\places.length<=k,b.binds.length-k⟩) ⟨0,[],[],(.slice none 0 0),(.slice none 0 0)⟩ ⟨Nat.zero_le _,e4,qL⟩<|λ⟨k,queues,places,u_queues,u_places⟩ ⟨hp17_1,hp17_2,hp17_3⟩=>kN 6 (λp2=>?_) λp3=>?_;have e5:=lsG2 hp17_2 (Ct_.eq_2 _ _ _ _ _ _ _ _);have hc0:=getG (xs:=b.binds) (k:=k) qD;have hr_hc21:=hr (gt b.binds k) (A4 hc0);refine jA 6 Z<|jI k hc0 Z Z Z λw1=>jB 7 [4] Z λB2=>have⟨o,e_o,q_o⟩:=I9_ e5;H8_ (ι:=Bool) [1,2,3,8,9,10,11,13,14,16,34,35,36] [0,1,2,3,4] (λv=>[(44, .bool v)]) (λv=>[]) (λv=>o=v) ?_ ?_;refine jA 9 Z<|cN e_o (λp4 e6=>?_) (λp5 e7=>?_);refine jA 1 Z<|nX (!decide (((gt b.binds k).Bm_)=Bm_)) ?_ ⟨Z,U⟩ U;exact e6;refine kL 4 Sp_ Z Z Z λw2=>kL 2 (Yl_ _ _ _ (hrk:=by simp only[Kp_];omega)) Z Z Z λw3=>jA 3 Z<|nX (!(Uj_ (Kp_ (gt b.binds k) (((Fl_ b.Bs_ Bm_).getD W_.zero).sort)) key h)) ?_ ⟨Z,U⟩ U;exact e7;rintro v hp0;have e6:=M2_ q_o hp0;refine jA 1 Z<|cE e6 (λh2 e7=>jC 8 Z<|nJ ⟨(k+1),queues,places,(u_queues),(u_places)⟩ e7) λh2 e8=>jA 7 Z<|cE e8 (λh3 e9=>?_) (λh3 e10=>?_);refine jA 4 Z<|ef (ecallw Vf_ Z Z Z Z Z Z ?_);generalize hr0:Ir_ places ((gt b.binds k).to')=r;intro u0 w2;have e11:=e9.trans (Dp_ hr0.symm);have hr0:=hr0.symm;have hA0:=hr0.symm ▸ put_len places ((gt b.binds k).to');exact jC 9 Z<|lj_osl (t:=14) 3 Z Z<|nJ ⟨(k+1),queues,r,(u_queues),(u0)⟩ e11;refine jA 4 Z<|ef (ecallw Vf_ Z Z Z Z Z Z ?_);generalize hr0:Ir_ queues ((gt b.binds k).to')=r0;intro u0 w2;have e11:=e10.trans (Dp_ hr0.symm);have hr0:=hr0.symm;have hA0:=hr0.symm ▸ put_len queues ((gt b.binds k).to');exact jC 9 Z<|lj_osl (t:=13) 2 Z Z<|nJ ⟨(k+1),r0,places,(u0),(u_places)⟩ e11;have e5:=lsN2 hp17_2 (Ct_.eq_1 _ _ _ _ _ _);exact jA 14 Z<|Ks_ 2 Z<|Ks_ 3 Z<|jA 2 Z<|(by subst e5;exact qr3)
abbrev R3_:Bool->PV:=λr=> .bool r
theorem l23_Light_ok{l:List G_}:aC 7 [.sl G_.pc l] (R3_ (Of_ l)):=by
 refine fD func7 A_ (Of_.eq_1 l) λw N H hG z e0=>?_;have l_l:l.length<=140737488355328:=w.1.1;refine jA 14 Z<|lP (ι:=Nat) [0,5,6] [] (λk=>⟨[(7,aA k)],[],k<=l.length/\z=Hh_ l (l.drop k),l.length-k⟩) 0 ⟨Nat.zero_le _,e0⟩<|λk ⟨hp1_1,hp1_2⟩=>kN 6 (λp0=>?_) λp1=>?_;have e1:=lsG0 hp1_2 (Hh_.eq_2 _ _ _);refine jA 6 Z<|qJ A_ k λw0=>?_;exact jB 8 [0] Z λB0=>call l22_Light Z Z λw1=>jA 3 Z<|cE e1 (λh0 e2=>have h1:=Ff_ h0;jA 11 Z<|by subst e2;exact qr1) λh0 e3=>have h1:=D6_ h0;jC 7 Z<|nI (k+1) e3;have e1:=lsN0 hp1_2 (Hh_.eq_1 _);exact jA 14 Z<|(by subst e1;exact qr1)
theorem ag208:Ag prog 208 false:=λw=>by kernel_rfl
theorem cb200:Aa_ prog 200:=P_ func200
theorem Rr_:Fld prog 210 0 0:=λb o w=>by kernel_rfl
theorem Xo_:liesAt prog prog.depth 210 (2/prog.cellsOf 210) 0 210 1=true:=by kernel_rfl
theorem ne255:NoEsc prog 255:=noEsc_of func255 qE qE qE qE
theorem sz208:Sz prog 208 1:=λw=>by kernel_rfl
theorem ti210:∃ j,prog.info? 210=some j:=Option.isSome_iff_exists.1 qE
theorem tz210:∃ j,prog.info? 210=some j/\j.size≠0:=exInfo qE
set_option maxRecDepth 100000 in
theorem copyCheck{n:Nat}{N:Rest}{F:Fr}{H:Hp}{L:Ls}{ops:List Oper}{ty d:Nat}{pos:String}{af:Array Edge}{K:Fr->Hp->Ls->Prop}{x:Operand}{ats:Array TypeId}{b:Nat}{p v:Value}(i:Nat)(hx:ev F x = .pointer (some ⟨b,0,none⟩))(hi:L i=some (b,bx 210 [p,v]))
   (hp:p = .pointer none\/p = .pointer (some ⟨b,0,none⟩)) (hd:Nat.blt d n=true) (k:K (upd F d (.tuple #[])) H (lupd L i (some (b,bx 210 [.pointer (some ⟨b,0,none⟩),v])))):Op1 prog n N ops ⟨some d, .call ⟨.value (.func 200),#[x],ats⟩,ty,pos,af,none⟩ K F H L:=by
 refine op1_in (en_f (vs:=[.pointer (some ⟨b,0,none⟩)]) cb200 (by simp[evs,hx])) func200 rfl ntmps200 rfl hd<|Ki_<|F6_<|ow1 (Iv_ Z (Iu_ (v:= .pointer (some ⟨_,_,none⟩)) Z)<|ow1 (Iv_ Z (Gq_ Z)<|ow1 (Iv_ Z (E3_ Z Rr_)<|ow1 (Iv_ Z (Kv_ (i:=i) (v:=p) Z ag208 hi Z) ?_))))
 rcases hp with rfl|rfl
 exact ow1 (Iv_ Z (lo_pnil Z Z underlying208)<|Jt_<|Jx_<|cw_cond_t Z Z<|F6_<|ow1 (Iv_ Z (Iu_ (v:= .pointer (some ⟨_,_,none⟩)) Z)<|ow1 (Iv_ Z (Iu_ (v:= .pointer (some ⟨_,_,none⟩)) Z)<|ow1 (Iv_ Z (Xy_ (i:=i) Z hi Z underlying208 underlying351 (tz210).choose_spec.1 (tz210).choose_spec.2)<|ow1 (Iv_ Z (lo_noEsc (v:= .pointer (some ⟨_,_,none⟩)) ne255 Z)<|ow1 (Iv_ Z (Tl_ (i:=i) Z hi underlying351 underlying208 (ti210).choose_spec Xo_)<|ow1 (Iv_ Z (Gq_ Z)<|ow1 (Iv_ Z (E3_ Z Rr_)<|vR))))))))
 . refine ow1 (Iv_ Z (Ut_ Z Z underlying208)<|Jt_<|Jx_<|Su_ Z Z<|Ki_<|F6_<|ow1 (Iv_ Z (Iu_ (v:= .pointer (some ⟨_,_,none⟩)) Z)<|ow1 (Iv_ Z (Gq_ Z)<|ow1 (Iv_ Z (E3_ Z Rr_)<|ow1 (Iv_ Z (Kv_ (i:=i) (v:= .pointer (some ⟨b,0,none⟩)) Z ag208 hi Z)<|ow1 (Iv_ Z (Iu_ (v:= .pointer (some ⟨_,_,none⟩)) Z)<|ow1 (Iv_ Z (Xv_ Z Z underlying208 (ti210).choose_spec)<|Jt_<|Jx_<|Su_ Z Z<|cw_skip<|fnK_n (res0 Z) (.refl _) ?_)))))))
   rwa [lupd_eta hi] at k
theorem Ov_{n:Nat}{N:Rest}{H0:Env}{all:List Oper}{fF:Nat->PV}{fL:Nat->Blk}{ty d:Nat}{pos:String}{af:Array Edge}{x:Operand}{ats:Array TypeId}{K:St->Prop}{i b:Nat}{pv:Value}{q:PV}(hx:evP fF x = .own i b 0)(hb:fL i = .box b 210 [.val pv,q])(hp:pv = .pointer none\/pv = .pointer (some ⟨b,0,none⟩))(hd:Nat.blt d n=true)
   (k:K ⟨updp fF d (.tup []),lups fL i (.box b 210 [.val (.pointer (some ⟨b,0,none⟩)),q])⟩):E1 prog n N H0 all ⟨some d, .call ⟨.value (.func 200),#[x],ats⟩,ty,pos,af,none⟩ (some i) ⟨fF,fL⟩ K:=by
 intro F H L ha;have h1:=(Cm_ ha.f x).sim;simp only at h1;rw[hx] at h1;have h3:=ha.l i;simp only[hb] at h3;have⟨vs,hL,hs1,hs2⟩:=h3
 match vs,hs1,hs2,hL with
 |[v1,v2],hs1,hs2,hL=>
   have e1:v1=pv:=(hs2 0 _ _ Z Z).sim.inv_val;subst e1;refine copyCheck i h1.inv_own hL hp hd ⟨.refl H,only,_,(ha.turnB i (B:= .box b 210 [.val (.pointer (some ⟨b,0,none⟩)),q]) U ⟨[.pointer (some ⟨b,0,none⟩),v2],rfl,rfl,λj p v hp' hv=>?_⟩).put (p:= .tup []) d (show Sim H (.tup []) (.tuple #[]) from Sim.tup (vs:=[]) Z (λ_ _ _ h _=>by cases h)),k⟩
   match j,hp',hv with
   |0,hp',hv=>cases hp';cases hv;exact Sim.val
   |1,hp',hv=>exact Pc_ hb (hs2 1 p v hp' hv)
   |j+2,hp',hv=>cases hp'
abbrev R4_:Mail->PV:=λr=>r.ag
theorem Iq_{n:Int}{least:Int}{most:Int}:aC 249 [aA n,aA least,aA most] (.bool (Ey_ n least most)):=by
 exact jG func249 ntmps249 Z λw N H hG=>have e0:=Ey_.eq_1 n least most;jC 19 Z<|zP
theorem In_{a:Dc_}{b:Dc_}:aC 182 [a.ag,b.ag] (.bool (Ii_ a b)):=by
 exact jG func182 ntmps182 Z λw N H hG=>have e0:=Ii_.eq_1 a b;have :=Y0_ ((AF (AC .u32) a.set_ &&& ~~~ AF (AC .u32) b.set_).toNat);jD 26 [0,1] Z λB0=>zP
theorem Gm_{p:F_}{i:Int}:aC 181 [p.ag,aA i] (.bool (Cc_ p i)):=by
 refine kG func181 ntmps181 λw N H hG=>?_;have p_places_l:p.places.length<=140737488355328:=w.1.2.2.1.1;have e0:=Cc_.eq_1 p i;exact jD 13 [0] Z λB0=>call Iq_ Z Z λw0=>jA 4 Z<|zP
theorem Yb_(x:A8_)(x1:Bs):aC 190 [x.ag, .el [.str x1] 0] (.bool (Nu_ x x1)):=by
 exact jG func190 ntmps190 Z λw N H hG=>have e0:=Nu_.eq_1 x x1;rV
theorem Vn_(x:B9_)(x1:Int)(x2:Int):aC 184 [x.ag, .el [aA x1] 0, .el [aA x2] 0] (.bool (K0_ x x1 x2)):=by
 exact jG func184 ntmps184 Z λw N H hG=>have e0:=K0_.eq_1 x x1 x2;jD 22 [0] Z λB0=>zP
theorem Re_{n:B8_}:aC 304 [n.ag] (aB (Lh_ n)):=by
 exact jG func304 ntmps304 Z λw N H hG=>have e0:=Lh_.eq_1 n;wW
theorem Y9_{p:F_}{tick:Int}(hs:0<p.slots.length:=by omega):aC 237 [p.ag,aB tick] (aB (Nd_ p tick)):=by
 refine kG func237 ntmps237 λw N H hG=>?_;have p_slots_l:p.slots.length<=140737488355328:=w.1.2.2.2.1.1;have tick_r:0<=tick/\tick<=18446744073709551615:=w.2.1;have e0:=Nd_.eq_1 p tick;exact jB 12 [0] Z λB0=>q1 (Ju_ A_ Z Z Z Z Mf_) Z λw0=>jC 5 Z<|rt1 Z Z (Am_ (λr:Int=>aB r) e0 (ple Z))
theorem Ia_(m:Mail)(hh:m.head.length<=1000000:=by first|omega|(simp;omega)|decide +kernel):aC 95 [m.ag] (.agg (Mail.pc (K_ m))):=by
 exact jG func95 ntmps95 Z λw N H hG=>have e0:=K_.eq_1 m;jB 10 [0,1] Z λB0=>call Zi_ Z Z λw0=>jB 11 [] Z λ_=>rt1 Z Z (Am_ (λr:Mail=>r.ag) e0 (ple Z))
theorem Nq_(m:Mail):aC 235 [m.ag] (aA (D0_ m)):=by
 exact jG func235 ntmps235 Z λw N H hG=>have e0:=D0_.eq_1 m;jB 9 [0] Z λB0=>call (Ol_ _) Z Z λw0=>have :=Gz_ m;jA 15 Z<|zW
theorem I1_{x:Z_}(hh:x.Ah_.head.length<=1000000:=by omega):aC 225 [x.ag] (.agg (Z_.pc (Ck_ x))):=by
 exact jG func225 ntmps225 Z λw N H hG=>have e0:=Ck_.eq_1 x;jB 10 [0,1] Z λB0=>cV e0 R4_ (Ia_ _) Z λr hr0 e1 w0=>jB 11 [] Z λ_=>rt1 Z Z (Am_ (λr:Z_=>r.ag) e1 (ple Z))
theorem line_all_ok{x0:Mail}:aC 242 [x0.ag] (.bool (line_all x0)):=by
 exact jG func242 ntmps242 Z λw N H hG=>have e0:=line_all.eq_1 x0;jB 12 [0] Z λB0=>zP
theorem line_of1_ok(x:Z_)(x1:Int):aC 283 [x.ag, .el [aB x1] 0] (.bool (Qz_ x x1)):=by
 exact jG func283 ntmps283 Z λw N H hG=>have e0:=Qz_.eq_1 x x1;jB 17 [0] Z λB0=>zP
theorem L8_(l:Ax_):aC 154 [l.ag] (aA (Fe_ l)):=by
 exact jG func154 ntmps154 Z λw N H hG=>have e0:=Fe_.eq_1 l;jB 15 [0] Z λB0=>zW
theorem line_Late1_ok{m:Mail}{x1:Int}:aC 248 [m.ag, .el [aB x1] 0] (.bool (Uo_ m x1)):=by
 exact jG func248 ntmps248 Z λw N H hG=>have e0:=Uo_.eq_1 m x1;jD 21 [0] Z λB0=>zP
theorem Ti_(x:Z_):aC 282 [x.ag, .el [.fn 242 [] []] 0] (.bool (Ku_ x)):=by
 exact jG func282 ntmps282 Z λw N H hG=>have e0:=Ku_.eq_1 x;jD 15 [0] Z λB0=>callgF Z (λhc=>(line_all_ok)) Z aF Z Z λ_=>wZ
theorem Rw_(x:Z_)(x1:Int):aC 282 [x.ag, .el [.fn 248 [] [.el [aB x1] 0]] 0] (.bool (J3_ x x1)):=by
 exact jG func282 ntmps282 Z λw N H hG=>have e0:=J3_.eq_1 x x1;jD 15 [0] Z λB0=>callgF Z (λhc=>(line_Late1_ok)) Z aF Z Z λ_=>wZ
theorem Zr_{s:List A8_}(f:FuncId)(f_fst f_cap:List PV)(f_p:A8_->Bool)(f_h:∀ x,aC f (argsP.apL f_fst ((x.ag)::f_cap)) (.bool (f_p x))):aC 189 [.sl A8_.pc s, .fn f f_fst f_cap] (aA (idxP f_p s)):=by
 refine kG func189 ntmps189 λw N H hG=>?_;have s_l:s.length<=140737488355328:=w.1.1;refine jA 14 Z<|lP (ι:=Nat) [0,1,6,7] [] (λk=>⟨[(8,aA k)],[],k<=s.length/\idxP f_p s=idxF f_p k (s.drop k),s.length-k⟩) 0 ⟨Nat.zero_le _,rfl⟩<|λk ⟨hk1,hk2⟩=>kM 6 (λh0=>?_) (λh0=>?_);have p0:=dt h0;have⟨c0,hc0⟩:=getE (xs:=s) (m:=k) qD;refine jA 15 Z<|jI k hc0 Z Z Z λw0=>kL 1 (f_h c0) Z Z Z λw1=>kM 2 (λh1=>?_) (λh1=>?_);exact vN;exact vB;exact yZ
theorem cF_Place{s:List A8_}{f:FuncId}{f_fst f_cap:List PV}(f_p:A8_->Bool)(f_h:∀ x,aC f (argsP.apL f_fst ((x.ag)::f_cap)) (.bool (f_p x))):aC 355 [.sl A8_.pc s, .fn f f_fst f_cap] (.bool (decide (0<=idxP f_p s))):=by
 refine jG func355 ntmps355 Z λw N H hG=>kL 9 (Zr_ f f_fst f_cap f_p f_h) Z Z Z λw0=>kR 5 ?_;rfl
theorem Zq_{s:List B9_}(f:FuncId)(f_fst f_cap:List PV)(f_p:B9_->Bool)(f_h:∀ x,aC f (argsP.apL f_fst ((x.ag)::f_cap)) (.bool (f_p x))):aC 183 [.sl B9_.pc s, .fn f f_fst f_cap] (aA (idxP f_p s)):=by
 refine kG func183 ntmps183 λw N H hG=>?_;have s_l:s.length<=140737488355328:=w.1.1;refine jA 14 Z<|lP (ι:=Nat) [0,1,6,7] [] (λk=>⟨[(8,aA k)],[],k<=s.length/\idxP f_p s=idxF f_p k (s.drop k),s.length-k⟩) 0 ⟨Nat.zero_le _,rfl⟩<|λk ⟨hk1,hk2⟩=>kM 6 (λh0=>?_) (λh0=>?_);have p0:=dt h0;have⟨c0,hc0⟩:=getE (xs:=s) (m:=k) qD;refine jA 15 Z<|jI k hc0 Z Z Z λw0=>kL 1 (f_h c0) Z Z Z λw1=>kM 2 (λh1=>?_) (λh1=>?_);exact vN;exact vB;exact yZ
theorem cF_Grant{s:List B9_}{f:FuncId}{f_fst f_cap:List PV}(f_p:B9_->Bool)(f_h:∀ x,aC f (argsP.apL f_fst ((x.ag)::f_cap)) (.bool (f_p x))):aC 357 [.sl B9_.pc s, .fn f f_fst f_cap] (.bool (decide (0<=idxP f_p s))):=by
 refine jG func357 ntmps357 Z λw N H hG=>kL 9 (Zq_ f f_fst f_cap f_p f_h) Z Z Z λw0=>kR 5 ?_;rfl
theorem grow_Note{n:Int}(hn:0<=n/\n<=100000000:=by omega):Fo prog gb 188 [.val (.slice none 0 0),aA n] (λu=> .val u) 3 97 Eb_.pc ([]:List Eb_):=by
 refine fo_cw A_ func188 Z ntmps188 Z (P_ func188) (λ_=>rfl) Z λw N H hG=>kM 12 (λh0=>?_) (λh0=>?_);exact xA;have p0:=df h0;refine jA 7 Z<|q1 (Vq_ A_ Z Z Z) Z λw0=>jA 1 Z<|q1 (Vr_ A_ Z Z Z) Z λw1=>jC 11 Z<|cn Z (λp1=>?_) λp2=>?_;exact jA 3 Z<|q1 (Vq_ A_ Z Z Z) Z λw2=>q1 (qcut0 A_ Z Z Z Z Z) Z λw3=>jA 1 Z<|ef (appz (m:=((n-(0-0))).toNat) 0 A_ Z Z Z Z Z Z Z Z Z Z qD qD pG Z Z λu0=>jA 1 Z<|q1 (Vr_ A_ Z Z Z) Z λw4=>ef (ocut Eb_.pc A_ Z Z Z Z Z Z Z λu1=>wP));exact jA 8 Z<|Id_ (t:=4) (k:=3) (e:=97) 0 Eb_.pc Z Z<|xJ
theorem concat_Note{ls:List (List Eb_)}(hl:ls.flatten.length<=100000000:=by first|omega|(simp;done)|(simp;omega)|(simp only[List.flatten_cons,List.flatten_nil,List.length_append,List.append_nil];simp;omega)):aC 106 [.sl (slc Eb_.pc) ls] (.sl Eb_.pc ls.flatten):=by
 refine kG func106 ntmps106 λw N H hG=>?_;have ls_l:ls.length<=140737488355328:=w.1.1;refine jA 19 Z<|lP (ι:=Nat×Int) [0,2,9,10] [] (λ⟨k,n⟩=>⟨[(3,aA n),(11,aA k)],[],k<=ls.length/\n=((ls.take k).flatten.length:Int),ls.length-k⟩) ⟨0,0⟩ ⟨Nat.zero_le _,by simp⟩<|λ⟨k,n⟩ ⟨hk1,hk2⟩=>have hg0:=E0_ ls k;kN 6 (λp0=>?_) λp1=>?_;have⟨c0,hc0⟩:=getE (xs:=ls) (m:=k) qD;exact jA 6 Z<|jI k hc0 Z Z Z λw0=>go A_ 19 Z Z ⟨pI,trivial⟩<|cnd Z (λh0=>xD) λh0=>xC;refine jA 8 Z<|ef (Mx_ 0 grow_Note Z Z λu0 w0=>jA 12 Z<|Yu_ (t:=6) 0 Z Z<|lP (ι:=Nat×(List Eb_)×Value) [0,2,3,9,10,11,12,23,24,25,26] [] (λ⟨k,out,u_out⟩=>⟨[(6, .osl 0),(27,aA k)],[(0, .arr u_out 3 97 Eb_.pc out)],k<=ls.length/\out=(ls.take k).flatten,ls.length-k⟩) ⟨0,([]:List Eb_),(u0)⟩ ⟨Nat.zero_le _,by simp⟩<|λ⟨k,out,u_out⟩ ⟨hk1,hk2⟩=>kN 6 (λp2=>?_) λp3=>?_);exact xG;exact wA
theorem grow_Item{n:Int}(hn:0<=n/\n<=100000000:=by omega):Fo prog gb 284 [.val (.slice none 0 0),aA n] (λu=> .val u) 9 51 Z_.pc ([]:List Z_):=by
 refine fo_cw A_ func284 Z ntmps284 Z (P_ func284) (λ_=>rfl) Z λw N H hG=>kM 12 (λh0=>?_) (λh0=>?_);exact xA;have p0:=df h0;refine jA 7 Z<|q1 (Vq_ A_ Z Z Z) Z λw0=>jA 1 Z<|q1 (Vr_ A_ Z Z Z) Z λw1=>jC 11 Z<|cn Z (λp1=>?_) λp2=>?_;exact jA 3 Z<|q1 (Vq_ A_ Z Z Z) Z λw2=>q1 (qcut0 A_ Z Z Z Z Z) Z λw3=>jA 1 Z<|ef (appz (m:=((n-(0-0))).toNat) 0 A_ Z Z Z Z Z Z Z Z Z Z qD qD pG Z Z λu0=>jA 1 Z<|q1 (Vr_ A_ Z Z Z) Z λw4=>ef (ocut Z_.pc A_ Z Z Z Z Z Z Z λu1=>wP));exact jA 8 Z<|Id_ (t:=4) (k:=9) (e:=51) 0 Z_.pc Z Z<|xJ
theorem Wg_{ls:List (List Z_)}(hl:ls.flatten.length<=100000000:=by first|omega|(simp;done)|(simp;omega)|(simp only[List.flatten_cons,List.flatten_nil,List.length_append,List.append_nil];simp;omega)):aC 246 [.sl (slc Z_.pc) ls] (.sl Z_.pc ls.flatten):=by
 refine kG func246 ntmps246 λw N H hG=>?_;have ls_l:ls.length<=140737488355328:=w.1.1;refine jA 19 Z<|lP (ι:=Nat×Int) [0,2,9,10] [] (λ⟨k,n⟩=>⟨[(3,aA n),(11,aA k)],[],k<=ls.length/\n=((ls.take k).flatten.length:Int),ls.length-k⟩) ⟨0,0⟩ ⟨Nat.zero_le _,by simp⟩<|λ⟨k,n⟩ ⟨hk1,hk2⟩=>have hg0:=E0_ ls k;kN 6 (λp0=>?_) λp1=>?_;have⟨c0,hc0⟩:=getE (xs:=ls) (m:=k) qD;exact jA 6 Z<|jI k hc0 Z Z Z λw0=>go A_ 19 Z Z ⟨pI,trivial⟩<|cnd Z (λh0=>xD) λh0=>xC;refine jA 8 Z<|ef (Mx_ 0 grow_Item Z Z λu0 w0=>jA 12 Z<|Yu_ (t:=6) 0 Z Z<|lP (ι:=Nat×(List Z_)×Value) [0,2,3,9,10,11,12,23,24,25,26] [] (λ⟨k,out,u_out⟩=>⟨[(6, .osl 0),(27,aA k)],[(0, .arr u_out 9 51 Z_.pc out)],k<=ls.length/\out=(ls.take k).flatten,ls.length-k⟩) ⟨0,([]:List Z_),(u0)⟩ ⟨Nat.zero_le _,by simp⟩<|λ⟨k,out,u_out⟩ ⟨hk1,hk2⟩=>kN 6 (λp2=>?_) λp3=>?_);exact xG;exact wA
theorem Wz_{s:List Z_}{f:FuncId}{f_fst f_cap:List PV}(f_p:Z_->Bool)(f_h:∀ x,aC f (argsP.apL f_fst ((x.ag)::f_cap)) (.bool (f_p x))):aC 281 [.sl Z_.pc s, .fn f f_fst f_cap] (aA (idxP f_p s)):=by
 refine kG func281 ntmps281 λw N H hG=>?_;have s_l:s.length<=140737488355328:=w.1.1;refine jA 14 Z<|lP (ι:=Nat) [0,1,6,7] [] (λk=>⟨[(8,aA k)],[],k<=s.length/\idxP f_p s=idxF f_p k (s.drop k),s.length-k⟩) 0 ⟨Nat.zero_le _,rfl⟩<|λk ⟨hk1,hk2⟩=>kM 6 (λh0=>?_) (λh0=>?_);have p0:=dt h0;have⟨c0,hc0⟩:=getE (xs:=s) (m:=k) qD;refine jA 15 Z<|jI k hc0 Z Z Z λw0=>kL 1 (f_h c0) Z Z Z λw1=>kM 2 (λh1=>?_) (λh1=>?_);exact vN;exact vB;exact yZ
theorem grow_row{n:Int}(hn:0<=n/\n<=100000000:=by omega):Fo prog gb 231 [.val (.slice none 0 0),aA n] (λu=> .val u) 5 200 Go_.pc ([]:List Go_):=by
 refine fo_cw A_ func231 Z ntmps231 Z (P_ func231) (λ_=>rfl) Z λw N H hG=>kM 12 (λh0=>?_) (λh0=>?_);exact xA;have p0:=df h0;refine jA 7 Z<|q1 (Vq_ A_ Z Z Z) Z λw0=>jA 1 Z<|q1 (Vr_ A_ Z Z Z) Z λw1=>jC 11 Z<|cn Z (λp1=>?_) λp2=>?_;exact jA 3 Z<|q1 (Vq_ A_ Z Z Z) Z λw2=>q1 (qcut0 A_ Z Z Z Z Z) Z λw3=>jA 1 Z<|ef (appz (m:=((n-(0-0))).toNat) 0 A_ Z Z Z Z Z Z Z Z Z Z qD qD pG Z Z λu0=>jA 1 Z<|q1 (Vr_ A_ Z Z Z) Z λw4=>ef (ocut Go_.pc A_ Z Z Z Z Z Z Z λu1=>wP));exact jA 8 Z<|Id_ (t:=4) (k:=5) (e:=200) 0 Go_.pc Z Z<|xJ
theorem Zj_{ls:List (List Go_)}(hl:ls.flatten.length<=100000000:=by first|omega|(simp;done)|(simp;omega)|(simp only[List.flatten_cons,List.flatten_nil,List.length_append,List.append_nil];simp;omega)):aC 167 [.sl (slc Go_.pc) ls] (.sl Go_.pc ls.flatten):=by
 refine kG func167 ntmps167 λw N H hG=>?_;have ls_l:ls.length<=140737488355328:=w.1.1;refine jA 19 Z<|lP (ι:=Nat×Int) [0,2,9,10] [] (λ⟨k,n⟩=>⟨[(3,aA n),(11,aA k)],[],k<=ls.length/\n=((ls.take k).flatten.length:Int),ls.length-k⟩) ⟨0,0⟩ ⟨Nat.zero_le _,by simp⟩<|λ⟨k,n⟩ ⟨hk1,hk2⟩=>have hg0:=E0_ ls k;kN 6 (λp0=>?_) λp1=>?_;have⟨c0,hc0⟩:=getE (xs:=ls) (m:=k) qD;exact jA 6 Z<|jI k hc0 Z Z Z λw0=>go A_ 19 Z Z ⟨pI,trivial⟩<|cnd Z (λh0=>xD) λh0=>xC;refine jA 8 Z<|ef (Mx_ 0 grow_row Z Z λu0 w0=>jA 12 Z<|Yu_ (t:=6) 0 Z Z<|lP (ι:=Nat×(List Go_)×Value) [0,2,3,9,10,11,12,23,24,25,26] [] (λ⟨k,out,u_out⟩=>⟨[(6, .osl 0),(27,aA k)],[(0, .arr u_out 5 200 Go_.pc out)],k<=ls.length/\out=(ls.take k).flatten,ls.length-k⟩) ⟨0,([]:List Go_),(u0)⟩ ⟨Nat.zero_le _,by simp⟩<|λ⟨k,out,u_out⟩ ⟨hk1,hk2⟩=>kN 6 (λp2=>?_) λp3=>?_);exact xG;exact wA
theorem idxF_row{s:List Go_}{f:FuncId}{f_fst f_cap:List PV}(f_p:Go_->Bool)(f_h:∀ x,aC f (argsP.apL f_fst ((.agg (Go_.pc x))::f_cap)) (.bool (f_p x))):aC 229 [.sl Go_.pc s, .fn f f_fst f_cap] (aA (idxP f_p s)):=by
 refine kG func229 ntmps229 λw N H hG=>?_;have s_l:s.length<=140737488355328:=w.1.1;refine jA 14 Z<|lP (ι:=Nat) [0,1,6,7] [] (λk=>⟨[(8,aA k)],[],k<=s.length/\idxP f_p s=idxF f_p k (s.drop k),s.length-k⟩) 0 ⟨Nat.zero_le _,rfl⟩<|λk ⟨hk1,hk2⟩=>kM 6 (λh0=>?_) (λh0=>?_);have p0:=dt h0;have⟨c0,hc0⟩:=getE (xs:=s) (m:=k) qD;refine jA 15 Z<|jI k hc0 Z Z Z λw0=>kL 1 (f_h c0) Z Z Z λw1=>kM 2 (λh1=>?_) (λh1=>?_);exact vN;exact vB;exact yZ
theorem grow_Mail{n:Int}(hn:0<=n/\n<=100000000:=by omega):Fo prog gb 294 [.val (.slice none 0 0),aA n] (λu=> .val u) 7 47 Mail.pc ([]:List Mail):=by
 refine fo_cw A_ func294 Z ntmps294 Z (P_ func294) (λ_=>rfl) Z λw N H hG=>kM 12 (λh0=>?_) (λh0=>?_);exact xA;have p0:=df h0;refine jA 7 Z<|q1 (Vq_ A_ Z Z Z) Z λw0=>jA 1 Z<|q1 (Vr_ A_ Z Z Z) Z λw1=>jC 11 Z<|cn Z (λp1=>?_) λp2=>?_;exact jA 3 Z<|q1 (Vq_ A_ Z Z Z) Z λw2=>q1 (qcut0 A_ Z Z Z Z Z) Z λw3=>jA 1 Z<|ef (appz (m:=((n-(0-0))).toNat) 0 A_ Z Z Z Z Z Z Z Z Z Z qD qD pG Z Z λu0=>jA 1 Z<|q1 (Vr_ A_ Z Z Z) Z λw4=>ef (ocut Mail.pc A_ Z Z Z Z Z Z Z λu1=>wP));exact jA 8 Z<|Id_ (t:=4) (k:=7) (e:=47) 0 Mail.pc Z Z<|xJ
theorem concat_Mail{ls:List (List Mail)}(hl:ls.flatten.length<=100000000:=by first|omega|(simp;done)|(simp;omega)|(simp only[List.flatten_cons,List.flatten_nil,List.length_append,List.append_nil];simp;omega)):aC 279 [.sl (slc Mail.pc) ls] (.sl Mail.pc ls.flatten):=by
 refine kG func279 ntmps279 λw N H hG=>?_;have ls_l:ls.length<=140737488355328:=w.1.1;refine jA 19 Z<|lP (ι:=Nat×Int) [0,2,9,10] [] (λ⟨k,n⟩=>⟨[(3,aA n),(11,aA k)],[],k<=ls.length/\n=((ls.take k).flatten.length:Int),ls.length-k⟩) ⟨0,0⟩ ⟨Nat.zero_le _,by simp⟩<|λ⟨k,n⟩ ⟨hk1,hk2⟩=>have hg0:=E0_ ls k;kN 6 (λp0=>?_) λp1=>?_;have⟨c0,hc0⟩:=getE (xs:=ls) (m:=k) qD;exact jA 6 Z<|jI k hc0 Z Z Z λw0=>go A_ 19 Z Z ⟨pI,trivial⟩<|cnd Z (λh0=>xD) λh0=>xC;refine jA 8 Z<|ef (Mx_ 0 grow_Mail Z Z λu0 w0=>jA 12 Z<|Yu_ (t:=6) 0 Z Z<|lP (ι:=Nat×(List Mail)×Value) [0,2,3,9,10,11,12,23,24,25,26] [] (λ⟨k,out,u_out⟩=>⟨[(6, .osl 0),(27,aA k)],[(0, .arr u_out 7 47 Mail.pc out)],k<=ls.length/\out=(ls.take k).flatten,ls.length-k⟩) ⟨0,([]:List Mail),(u0)⟩ ⟨Nat.zero_le _,by simp⟩<|λ⟨k,out,u_out⟩ ⟨hk1,hk2⟩=>kN 6 (λp2=>?_) λp3=>?_);exact xG;exact wA
theorem index_int{l:List Int}{x:Int}:aC 343 [.sl i64c l,aA x] (aA (idxP (λy=>decide (x=y)) l)):=by
 refine kG func343 ntmps343 λw N H hG=>?_;have l_l:l.length<=140737488355328:=w.1.1;refine jA 14 Z<|lP (ι:=Nat) [0,1,6,7] [] (λk=>⟨[(8,aA k)],[],k<=l.length/\idxP (λy=>decide (x=y)) l=idxF (λy=>decide (x=y)) k (l.drop k),l.length-k⟩) 0 ⟨Nat.zero_le _,rfl⟩<|λk ⟨hik1,hik2⟩=>kN 6 (λp0=>?_) λp1=>?_;have⟨c0,hc0⟩:=getE (xs:=l) (m:=k) qD;refine jA 15 Z<|jI k hc0 Z Z Z λw0=>kN 4 (λp2=>?_) λp3=>?_;exact vM;exact jC 7 Z<|nN (k+1) ⟨by omega,Mk_ hik2 (Fu_ hc0) (by first|assumption|(simp[*];done)|grind)⟩;exact vL
theorem idxF_Shop{s:List W_}{f:FuncId}{f_fst f_cap:List PV}(f_p:W_->Bool)(f_h:∀ x,aC f (argsP.apL f_fst ((.agg (W_.pc x))::f_cap)) (.bool (f_p x))):aC 193 [.sl W_.pc s, .fn f f_fst f_cap] (aA (idxP f_p s)):=by
 refine kG func193 ntmps193 λw N H hG=>?_;have s_l:s.length<=140737488355328:=w.1.1;refine jA 14 Z<|lP (ι:=Nat) [0,1,6,7] [] (λk=>⟨[(8,aA k)],[],k<=s.length/\idxP f_p s=idxF f_p k (s.drop k),s.length-k⟩) 0 ⟨Nat.zero_le _,rfl⟩<|λk ⟨hk1,hk2⟩=>kM 6 (λh0=>?_) (λh0=>?_);have p0:=dt h0;have⟨c0,hc0⟩:=getE (xs:=s) (m:=k) qD;refine jA 15 Z<|jI k hc0 Z Z Z λw0=>kL 1 (f_h c0) Z Z Z λw1=>kM 2 (λh1=>?_) (λh1=>?_);exact vN;exact vB;exact yZ
theorem clone_Place{s:List A8_}(hl:s.length<=100000000:=by first|omega|(simp;done)|(simp;omega)):aC 33 [.sl A8_.pc s] (.sl A8_.pc s):=by
 refine jG func33 ntmps33 Z λw N H hG=>jA 9 Z<|ef (lnil A_ Z Z Z Z Z λb0 hb2=>kM 2 (λh0=>?_) (λh0=>?_));exact wH;exact jA 4 Z<|ef (bsl 0 A8_.pc [] A_ Z Z Z Z Z (λ_=>rfl) Z λu0=>xZ)
theorem clone_Grant{s:List B9_}(hl:s.length<=100000000:=by first|omega|(simp;done)|(simp;omega)):aC 35 [.sl B9_.pc s] (.sl B9_.pc s):=by
 refine jG func35 ntmps35 Z λw N H hG=>jA 9 Z<|ef (lnil A_ Z Z Z Z Z λb0 hb2=>kM 2 (λh0=>?_) (λh0=>?_));exact wH;exact jA 4 Z<|ef (bsl 0 B9_.pc [] A_ Z Z Z Z Z (λ_=>rfl) Z λu0=>xZ)
theorem clone_Note{s:List Eb_}(hl:s.length<=100000000:=by first|omega|(simp;done)|(simp;omega)):aC 55 [.sl Eb_.pc s] (.sl Eb_.pc s):=by
 refine jG func55 ntmps55 Z λw N H hG=>jA 9 Z<|ef (lnil A_ Z Z Z Z Z λb0 hb2=>kM 2 (λh0=>?_) (λh0=>?_));exact wH;exact jA 4 Z<|ef (bsl 0 Eb_.pc [] A_ Z Z Z Z Z (λ_=>rfl) Z λu0=>xZ)
theorem Rx_{s:List Z_}(hl:s.length<=100000:=by first|omega|(simp;omega)|decide +kernel):Fo prog gb 250 [.sl Z_.pc s] (λu=> .val u) 9 51 Z_.pc s:=by
 refine fo_cw A_ func250 Z ntmps250 Z (P_ func250) (λ_=>rfl) Z λw N H hG=>jA 9 Z<|ef (lnil A_ Z Z Z Z Z λb0 hb2=>kM 2 (λh0=>?_) (λh0=>?_));exact jA 5 Z<|Id_ (t:=2) (k:=9) (e:=51) 0 Z_.pc Z Z<|rI;exact jA 4 Z<|ef (bsl 0 Z_.pc [] A_ Z Z Z Z Z (λ_=>rfl) Z λu0=>xY)
theorem oclone_row{s:List Go_}(hl:s.length<=100000:=by first|omega|(simp;omega)|decide +kernel):Fo prog gb 185 [.sl Go_.pc s] (λu=> .val u) 5 200 Go_.pc s:=by
 refine fo_cw A_ func185 Z ntmps185 Z (P_ func185) (λ_=>rfl) Z λw N H hG=>jA 9 Z<|ef (lnil A_ Z Z Z Z Z λb0 hb2=>kM 2 (λh0=>?_) (λh0=>?_));exact jA 5 Z<|Id_ (t:=2) (k:=5) (e:=200) 0 Go_.pc Z Z<|rI;exact jA 4 Z<|ef (bsl 0 Go_.pc [] A_ Z Z Z Z Z (λ_=>rfl) Z λu0=>xY)
theorem clone_int{s:List Int}(hl:s.length<=100000000:=by first|omega|(simp;done)|(simp;omega)):aC 34 [.sl i64c s] (.sl i64c s):=by
 refine jG func34 ntmps34 Z λw N H hG=>jA 9 Z<|ef (lnil A_ Z Z Z Z Z λb0 hb2=>kM 2 (λh0=>?_) (λh0=>?_));exact wH;exact jA 4 Z<|ef (bsl 0 i64c [] A_ Z Z Z Z Z (λ_=>rfl) Z λu0=>xZ)
end Go.SW.V
