/-
  A part of the proof of VaultTogether.
-/
import Derived.Test.YthjabjnhbhmdfaaGreatDoorVaultTogetherP3
import Derived.Test.YthjabjnhbhmdfaaGreatDoorVaultTogetherP6
import Derived.Test.YthjabjnhbhmdfaaGreatDoorVaultTogetherP7
import Derived.Test.YthjabjnhbhmdfaaGreatDoorVaultTogetherP8
import Derived.Test.YthjabjnhbhmdfaaGreatDoorVaultTogetherP4
import Derived.Test.YthjabjnhbhmdfaaGreatDoorVaultTogetherP5
import Derived.Test.YthjabjnhbhmdfaaGreatDoorVaultTogetherP2
import Derived.Shelf.LaysM
import Derived.Shelf.Strings.FieldsFuncAny
import Derived.Shelf.Pu.ParseUintPublic10
import Derived.Lib.SmallJoins
import Derived.Test.YthjabjnhbhmdfaaGreatDoorProg
import Derived.Shelf.Strings.Repeat
import Derived.Test.YthjabjnhbhmdfaaGreatDoorVaultTogetherP1
import Derived.Shelf.Strings.Split
import Derived.KernelRfl
set_option linter.unusedVariables false
set_option linter.unusedSimpArgs false
set_option maxRecDepth 100000
set_option maxHeartbeats 4000000
open BitVec renaming ofInt->AA
open Bool renaming eq_iff_iff->B6
open ByteArray renaming size->CF
open Go.IntKind renaming bits->A9,wrap->A0
open Go.Value renaming int->GF
open Int renaming fdiv->FY,le_refl->BP
open List renaming any_cons->E5,drop_of_length_le->AB,foldl_cons->BG,foldl_nil->DS,length_map->C8,mem_of_getElem?->A2
open Nat renaming zero_le->AQ
open Go.Proofs.Tryz
namespace Go.SW.V
open Go.SW
theorem dkn_w{n:Int}{d:Bw_}(h:Da_ n=d):DwOk d:=by subst h;exact λy hy=>by cases hy
abbrev x25a:Bool×Int×Bw_×Au_:=(true,0,d25a,(⟨s25a,g25a⟩:Au_))
abbrev x25b:Af_×Int×Au_:=((K_ s25a d25n).2.1,0,(⟨s25b,g25b⟩:Au_))
abbrev x25c:Int×Au_:=(0,(⟨s25b,g25c⟩:Au_))
abbrev x25f:Bool×Int×Bw_×Au_:=(true,0,d25f,(⟨s25f,g25f⟩:Au_))
theorem w25a:DwOk d25a:=λy hy=>by cases hy
theorem w25c:DwOk d25c:=λy hy=>by cases hy
theorem z1{r:Bw_}{r1:Bool×Int×Bw_×Au_}(h:Da_ 80=r)(e:Dx_ p25 0 r 0=r1):r1=x25a:=by
 subst h;subst e;exact st1
theorem z2{r1:Bool×Int×Bw_×Au_}{r2:Af_×Int×Au_}(h:r1=x25a)(e:D0_ (⟨r1.2.2.2.store,(⟨r1.2.2.1,r1.2.2.2.log.Bj_,r1.2.2.2.log.gen,r1.2.2.2.log.ready,r1.2.2.2.log.broken,r1.2.2.2.log.done,r1.2.2.2.log.waits⟩:Dy_)⟩:Au_) d25n=r2):r2=x25b:=by
 subst h;subst e;exact st2
theorem z3{r2:Af_×Int×Au_}{r3:Int×Au_}(h:r2=x25b)(e:Fu_ r2.2.2=r3):r3=x25c:=by
 subst h;subst e;exact st3
theorem z5{r3:Int×Au_}{r4 r5:Bw_}(h:r3=x25c)(e:Co_ r3.2.log.d 0=r4)(e2:I8_ r4=r5):r5=d25c:=by
 subst h;subst e;subst e2;exact st4
theorem z6{r5:Bw_}{r6:Bool×Int×Bw_×Au_}(h:r5=d25c)(e:Dx_ p25 0 r5 0=r6):r6=x25f:=by
 subst h;subst e;exact st5
theorem z7{r6:Bool×Int×Bw_×Au_}{r7:Ac_}(h:r6=x25f)(e:Ay_ (⟨r6.2.2.2.store,(⟨r6.2.2.1,r6.2.2.2.log.Bj_,r6.2.2.2.log.gen,r6.2.2.2.log.ready,r6.2.2.2.log.broken,r6.2.2.2.log.done,r6.2.2.2.log.waits⟩:Dy_)⟩:Au_)=r7):r7=s25f.x:=by
 subst h;subst e;rfl
theorem n25:s25f.x.notes.kept.length<=1000:=by decide +kernel
theorem po25:PoOk p25:=Uj_ qO
theorem ok25a:StOk s25a/\StB s25a:=⟨Mq_ po25 rX,newB _ _⟩
theorem dd25:DdG d25n/\0<=d25n.kind:=⟨⟨⟨by decide,by decide,by decide,by decide⟩,by decide,by decide,by decide,by decide,λ_ h=>by cases h⟩,by decide⟩
theorem d80{d:Bw_}(h:Da_ 80=d):d.lasts.length<=100000/\d.waits.length<=50000/\0<=d.El_:=by
 subst h;refine⟨?_,AQ _,BP _⟩;unfold Da_;simp only[List.length_replicate];omega
theorem v25a:d25a.waits.length<=50000/\0<=d25a.El_/\d25a.lasts.length<=100000/\g25a.done.length<=400000/\g25a.waits.length<=400000/\(-1<=g25a.Bj_/\g25a.Bj_<=1):=by decide +kernel
theorem v25b:d25a.waits.length<=50000/\0<=d25a.El_/\d25a.lasts.length<=100000/\g25b.done.length<=400000/\g25b.waits.length<=400000/\(-1<=g25b.Bj_/\g25b.Bj_<=1):=by decide +kernel
theorem v25c:d25c.lasts.length<=100000/\d25c.waits.length<=50000/\0<=d25c.El_:=by decide +kernel
theorem q5{d:Bw_}(h:d=d25c):DwOk d/\d.lasts.length<=100000/\d.waits.length<=50000/\0<=d.El_:=by subst h;exact⟨w25c,v25c⟩
theorem h25a:g25a.ready=true->0<=g25a.Bj_:=λ_=>BP _
theorem h25b:g25b.ready=true->0<=g25b.Bj_:=λ_=>BP _
def Oq_(n:Int):Bs:=
 (List.replicate ((n).toNat) 0)
def Wg_:Bool:=
 lt (Da_ 2) λr=>
 lt (Am_ r 1 [97,98]) λr1=>
 lt (Co_ r1.2 1) λr2=>
 (bif decide (r1.1=0) then
 lt (Ha_ r2) λr3=>
 (bif !r3 then
 lt (Kn_ r2) λr4=>
 lt (Oq_ 64) λr5=>
 lt (Oq_ 63) λr6=>
 (decide (r4=((r5++[97])++r6)))
 else false)
 else false)
def Pl_:Bool:=
 (Wg_)
variable{P:Program}{N:Rest}{H0:Env}{fF:Nat->PV}{fL:Nat->Blk}{ty:Nat}{x y z:Operand}
theorem qpick{b:Bool}(hx:evP fF x = .bool b)(hy:evP fF y = .bool true)(hz:evP fF z = .bool false):Qy P N H0 ⟨fF,fL⟩ (.pick x y z) ty (.bool b):=λF H L ha=>
 ⟨_,Sim.bool,λ_ _ _=>Wz_ (ha.ev hx).sim.inv_bool (by rw[(ha.ev hy).sim.inv_bool,(ha.ev hz).sim.inv_bool];cases b<;>rfl)⟩
end Go.SW.V
namespace Go.SW.V
open Go.SW
def seg_Size(record:Bs):Int:=
 ((record.length:Int)+9)
def Wh_:Bool:=
 lt (I3_ ((Bd_ [[97,98]]).1)) λr=>
 ((((((((decide (((Bd_ [[97,98]]).2)=0))&&(decide ((((Bd_ [[97,98]]).1).length:Int)=11)))&&(decide ((((Bd_ [[97,98]]).1).take 6)=[0,0,0,2,97,98])))&&(decide (((((Bd_ [[97,98]]).1).getD 10 0).toNat:Int)=165)))&&(decide (r.1=[97,98])))&&(decide (r.2.1=11)))&&(decide (r.2.2=0)))&&(decide ((seg_Size [97,98])=11)))
def Pm_:Bool:=
 (Wh_)
def Wj_:Bool:=
 lt (Da_ 12) λr=>
 lt (H6_ r) λr1=>
 (bif (((((Pl_)&&(Pm_))&&(decide (r1.2.2.2.1=0)))&&(decide (r1.2.1=[])))&&(decide ((r1.2.2.1.length:Int)=0))) then
 lt (Ep_ (⟨r1.2.2.2.2.1,r1.2.2.2.2.2.Bj_,r1.2.2.2.2.2.gen,r1.2.2.2.2.2.ready,r1.2.2.2.2.2.broken,r1.2.2.2.2.2.done,r1.2.2.2.2.2.waits⟩:Dy_)) λr2=>
 (bif !r2 then
 lt (Bb_ (⟨r1.2.2.2.2.1,r1.2.2.2.2.2.Bj_,r1.2.2.2.2.2.gen,r1.2.2.2.2.2.ready,r1.2.2.2.2.2.broken,r1.2.2.2.2.2.done,r1.2.2.2.2.2.waits⟩:Dy_) [97,98]) λr3=>
 (bif decide (r3.1=0) then
 lt (Ep_ r3.2) λr4=>
 (bif r4 then
 lt (F1_ r3.2) λr5=>
 (bif decide (r5=309) then
 lt (Oz_ r3.2) λr6=>
 (decide (r6=1))
 else false)
 else false)
 else false)
 else false)
 else false)
def Wi_:Bool:=
 (Wj_)
def Sp_:Bool:=
 lt (Da_ 80) λr=>
 lt (Dx_ (⟨4,1,[(⟨[108,111,119],(⟨0,0⟩:Cr_),500,1⟩:Av_)],[0],[]⟩:F_) 0 r 0) λr1=>
 lt (D0_ (⟨r1.2.2.2.store,(⟨r1.2.2.1,r1.2.2.2.log.Bj_,r1.2.2.2.log.gen,r1.2.2.2.log.ready,r1.2.2.2.log.broken,r1.2.2.2.log.done,r1.2.2.2.log.waits⟩:Dy_)⟩:Au_) (⟨12,0,(⟨[],0,[]⟩:W_),(⟨[],0,0,[]⟩:T_),(⟨[],[],false,[],[],false⟩:O_),[],0,0,0,9,0,(⟨0,[],[],[],[],0,0⟩:Mail),[]⟩:G_)) λr2=>
 lt (Fu_ r2.2.2) λr3=>
 lt (Co_ r3.2.log.d 0) λr4=>
 lt (I8_ r4) λr5=>
 lt (Dx_ (⟨4,1,[(⟨[108,111,119],(⟨0,0⟩:Cr_),500,1⟩:Av_)],[0],[]⟩:F_) 0 r5 0) λr6=>
 lt (Ay_ (⟨r6.2.2.2.store,(⟨r6.2.2.1,r6.2.2.2.log.Bj_,r6.2.2.2.log.gen,r6.2.2.2.log.ready,r6.2.2.2.log.broken,r6.2.2.2.log.done,r6.2.2.2.log.waits⟩:Dy_)⟩:Au_)) λr7=>
 lt (Ms_ r7.notes) λr8=>
 (((((((((Wi_)&&(Wr_))&&(decide (r1.2.1=0)))&&(decide (r2.2.1=0)))&&(decide (r3.1=0)))&&(decide (r6.2.1=0)))&&(decide ((r8.length:Int)=2)))&&(decide (((gt r8 0).kind)=9)))&&(decide (((gt r8 1).kind)=3)))
theorem awake25:Sp_=true:=by
 unfold Sp_;generalize hr:Da_ 80=r;rw[lt];generalize h1:Dx_ p25 0 r 0=r1;have e1:=z1 hr h1;rw[lt];generalize h2:D0_ (⟨r1.2.2.2.store,(⟨r1.2.2.1,r1.2.2.2.log.Bj_,r1.2.2.2.log.gen,r1.2.2.2.log.ready,r1.2.2.2.log.broken,r1.2.2.2.log.done,r1.2.2.2.log.waits⟩:Dy_)⟩:Au_) d25n=r2;have e2:=z2 e1 h2;rw[lt];generalize h3:Fu_ r2.2.2=r3;have e3:=z3 e2 h3;rw[lt];generalize h4:Co_ r3.2.log.d 0=r4;rw[lt];generalize h5:I8_ r4=r5;have e5:=z5 e3 h4 h5;rw[lt];generalize h6:Dx_ p25 0 r5 0=r6;have e6:=z6 e5 h6;rw[lt];generalize h7:Ay_ (⟨r6.2.2.2.store,(⟨r6.2.2.1,r6.2.2.2.log.Bj_,r6.2.2.2.log.gen,r6.2.2.2.log.ready,r6.2.2.2.log.broken,r6.2.2.2.log.done,r6.2.2.2.log.waits⟩:Dy_)⟩:Au_)=r7;have e7:=z7 e6 h7;rw[lt,lt,e1,e2,e3,e6,e7];decide +kernel
def Bh_:List G_->Nat->Int->D_->Int×D_
 |[],k1,bad1,x1=>(bad1,x1)
 |x2::t,k1,bad1,x1=>lt (K_ x1 x2) λr6=>
 (bif !decide (r6.2.2=0) then
 ((k1:Int),x1)
 else Bh_ t (k1+1) bad1 r6.1)
def Cz_(p:F_)(group:List G_)(r:Int):List G_->Au_->Bool
 |[],vt=>lt (Ay_ vt) λr4=>
 lt (E4_ p r r4) λr5=>
 (lt2 (Bh_ group 0 (-1) r5) (λbad x=>
 lt (A4_ vt group) λr7=>
 (bif decide (0<=bad) then
 ((((!decide (r7.2.2.1=0))&&(decide (r7.2.1=bad)))&&(decide ((r7.1.length:Int)=0)))&&(Iu_ (Ay_ r7.2.2.2) r4))
 else (bif decide (r7.2.2.1=17) then
 ((decide (r7.2.1=0))&&(Iu_ (Ay_ r7.2.2.2) r4))
 else ((((decide (r7.2.2.1=0))&&(decide (r7.2.1=0)))&&(decide ((r7.1.length:Int)=(group.length:Int))))&&(Iu_ (Ay_ r7.2.2.2) (Aa_ x)))))))
 |x3::t1,vt=>lt (D0_ vt x3) λr3=>
 Cz_ p group r t1 r3.2.2
def H7_(p:F_)(place:Int)(l:List G_)(group:List G_):Bool:=
 (bif (((!(Np_ p))||(!(Kq_ l)))||(!(Kq_ group))) then
 true
 else lt (Uf_ p place) λr=>
 lt (Da_ 120) λr1=>
 lt (Dx_ p r r1 0) λr2=>
 (bif r2.1 then
 Cz_ p group r l (⟨r2.2.2.2.store,(⟨r2.2.2.1,r2.2.2.2.log.Bj_,r2.2.2.2.log.gen,r2.2.2.2.log.ready,r2.2.2.2.log.broken,r2.2.2.2.log.done,r2.2.2.2.log.waits⟩:Dy_)⟩:Au_)
 else false))
variable{P:Program}{n:Nat}{N:Rest}{H0:Env}{fF:Nat->PV}{fL:Nat->Blk}
end Go.SW.V
namespace Go.Proofs
open Go.Shelf
def Tryz.lays229_ren:Go.Shelf.Ren:=⟨λ|229=>319|n=>n,λ|9=>9|40=>385|31=>106|152=>398|3=>3|0=>0|4=>4|21=>21|154=>400|n=>n,λ|n=>n⟩
theorem Tryz.lays229:Go.Proofs.Lays.n229 prog Tryz.lays229_ren:={
 mixed:=by kernel_rfl
 f229:=func319.trans (congrArg some rW)
 t0:=underlying0
 a0:=isAgg0
 z0:=sizeOf0
 v0:=zeroValue0
 t3:=underlying3
 a3:=isAgg3
 z3:=sizeOf3
 v3:=zeroValue3
 t4:=underlying4
 a4:=isAgg4
 z4:=sizeOf4
 v4:=zeroValue4
 t9:=underlying9
 a9:=isAgg9
 z9:=sizeOf9
 v9:=zeroValue9
 t21:=underlying21
 a21:=isAgg21
 z21:=sizeOf21
 v21:=zeroValue21
 t31:=underlying106
 a31:=isAgg106
 z31:=sizeOf106
 v31:=zeroValue106
 t40:=underlying385
 a40:=isAgg385
 z40:=sizeOf385
 v40:=zeroValue385
 t152:=underlying398
 a152:=isAgg398
 z152:=sizeOf398
 v152:=zeroValue398
 t154:=underlying400
 a154:=isAgg400
 z154:=sizeOf400
 v154:=zeroValue400}
open Go.RowKit Go.Lib in
theorem Tryz.strings_FieldsFunc(g:Nat)(lb:Array Value)(eg:∀ args w,(callFunc g args).run prog w = .ok (.enter g args) w)(p:Nat->Bool)(s:ByteArray)(w:World)(hs:s.size<=4294967296)(hp:PredAt prog g lb encR p w) :
   Calls prog 319 #[.string s, .func (.func g) #[] lb] w λe w'=>∃ A,e = .returned (.slice (some ⟨A,0,none⟩) (Lib.goFieldsP p s).length (Lib.goFieldsP p s).length)/\w.heap.size<=A /\
     w'.ownsRow w.heap.size 9 1 (.slice (some ⟨A,0,none⟩) (Lib.goFieldsP p s).length (Lib.goFieldsP p s).length) (Lib.goFieldsP p s).length ((Lib.goFieldsP p s).map Value.string)/\Below w.heap.size w w':=Any.strings_FieldsFunc Tryz.lays229 g lb eg p s w hs hp rW rW
def Tryz.laysPu14_ren:Go.Shelf.Ren:=⟨λ|14=>352|16=>360|17=>361|19=>362|20=>363|21=>364|22=>365|23=>366|24=>367|25=>368|27=>370|26=>369|28=>371|29=>372|30=>373|31=>374|32=>375|33=>376|35=>378|34=>377|36=>379|37=>380|38=>381|39=>382|40=>383|n=>n,λ|9=>9|3=>3|22=>38|24=>212|25=>410|4=>4|34=>421|5=>5|36=>311|37=>116|0=>0|39=>423|21=>21|44=>427|47=>303|50=>431|48=>429|2=>2|52=>433|55=>435|59=>438|60=>90|20=>20|61=>439|65=>442|66=>309|67=>166|n=>n,λ|0=>4|1=>5|2=>6|3=>7|4=>8|n=>n⟩
theorem Tryz.laysPu14:Go.Proofs.LaysPu.n14 prog Tryz.laysPu14_ren:={
 mixed:=by kernel_rfl
 f14:=func352.trans (congrArg some rW)
 f16:=func360.trans (congrArg some rW)
 f17:=func361.trans (congrArg some rW)
 f19:=func362.trans (congrArg some rW)
 f20:=func363.trans (congrArg some rW)
 f21:=func364.trans (congrArg some rW)
 f22:=func365.trans (congrArg some rW)
 f23:=func366.trans (congrArg some rW)
 f24:=func367.trans (congrArg some rW)
 f25:=func368.trans (congrArg some rW)
 f26:=func369.trans (congrArg some rW)
 f27:=func370.trans (congrArg some rW)
 f28:=func371.trans (congrArg some rW)
 f29:=func372.trans (congrArg some rW)
 f30:=func373.trans (congrArg some rW)
 f31:=func374.trans (congrArg some rW)
 f32:=func375.trans (congrArg some rW)
 f33:=func376.trans (congrArg some rW)
 f34:=func377.trans (congrArg some rW)
 f35:=func378.trans (congrArg some rW)
 f36:=func379.trans (congrArg some rW)
 f37:=func380.trans (congrArg some rW)
 f38:=func381.trans (congrArg some rW)
 f39:=func382.trans (congrArg some rW)
 f40:=func383.trans (congrArg some rW)
 t0:=underlying0
 a0:=isAgg0
 z0:=sizeOf0
 v0:=zeroValue0
 i0:=by kernel_rfl
 t2:=underlying2
 a2:=isAgg2
 z2:=sizeOf2
 v2:=zeroValue2
 i2:=by kernel_rfl
 t3:=underlying3
 a3:=isAgg3
 z3:=sizeOf3
 v3:=zeroValue3
 i3:=by kernel_rfl
 t4:=underlying4
 a4:=isAgg4
 z4:=sizeOf4
 v4:=zeroValue4
 i4:=by kernel_rfl
 t5:=underlying5
 a5:=isAgg5
 z5:=sizeOf5
 v5:=zeroValue5
 i5:=by kernel_rfl
 t9:=underlying9
 a9:=isAgg9
 z9:=sizeOf9
 v9:=zeroValue9
 i9:=by kernel_rfl
 t20:=underlying20
 a20:=isAgg20
 z20:=sizeOf20
 v20:=zeroValue20
 i20:=by kernel_rfl
 t21:=underlying21
 a21:=isAgg21
 z21:=sizeOf21
 v21:=zeroValue21
 i21:=by kernel_rfl
 t22:=underlying38
 a22:=isAgg38
 z22:=sizeOf38
 v22:=zeroValue38
 i22:=by kernel_rfl
 t24:=underlying212
 a24:=isAgg212
 z24:=sizeOf212
 v24:=zeroValue212
 i24:=by kernel_rfl
 t25:=underlying410
 a25:=isAgg410
 z25:=sizeOf410
 v25:=zeroValue410
 i25:=by kernel_rfl
 t34:=underlying421
 a34:=isAgg421
 z34:=sizeOf421
 v34:=zeroValue421
 i34:=by kernel_rfl
 c34:=by kernel_rfl
 t36:=underlying311
 a36:=isAgg311
 z36:=sizeOf311
 v36:=zeroValue311
 i36:=by kernel_rfl
 t37:=underlying116
 a37:=isAgg116
 z37:=sizeOf116
 v37:=zeroValue116
 i37:=by kernel_rfl
 t39:=underlying423
 a39:=isAgg423
 z39:=sizeOf423
 v39:=zeroValue423
 i39:=by kernel_rfl
 t44:=underlying427
 a44:=isAgg427
 z44:=sizeOf427
 v44:=zeroValue427
 i44:=by kernel_rfl
 t47:=underlying303
 a47:=isAgg303
 z47:=sizeOf303
 v47:=zeroValue303
 i47:=by kernel_rfl
 t48:=underlying429
 a48:=isAgg429
 z48:=sizeOf429
 v48:=zeroValue429
 i48:=by kernel_rfl
 t50:=underlying431
 a50:=isAgg431
 z50:=sizeOf431
 v50:=zeroValue431
 i50:=by kernel_rfl
 t52:=underlying433
 a52:=isAgg433
 z52:=sizeOf433
 v52:=zeroValue433
 i52:=by kernel_rfl
 t55:=underlying435
 a55:=isAgg435
 z55:=sizeOf435
 v55:=zeroValue435
 i55:=by kernel_rfl
 t59:=underlying438
 a59:=isAgg438
 z59:=sizeOf438
 v59:=zeroValue438
 i59:=by kernel_rfl
 t60:=underlying90
 a60:=isAgg90
 z60:=sizeOf90
 v60:=zeroValue90
 i60:=by kernel_rfl
 t61:=underlying439
 a61:=isAgg439
 z61:=sizeOf439
 t65:=underlying442
 a65:=isAgg442
 z65:=sizeOf442
 v65:=zeroValue442
 i65:=by kernel_rfl
 t66:=underlying309
 a66:=isAgg309
 z66:=sizeOf309
 v66:=zeroValue309
 i66:=by kernel_rfl
 t67:=underlying166
 a67:=isAgg166
 z67:=sizeOf166
 v67:=zeroValue166
 i67:=by kernel_rfl
 g0:=by kernel_rfl
 m0:=by kernel_rfl
 g1:=by kernel_rfl
 m1:=by kernel_rfl
 g2:=by kernel_rfl
 m2:=by kernel_rfl
 g3:=by kernel_rfl
 m3:=by kernel_rfl
 g4:=by kernel_rfl
 m4:=by kernel_rfl}
open Go.RowKit Go.Lib in
theorem Tryz.strconv_ParseUint_10_at64_ok(s:ByteArray)(hmax:s.size<=9223372036854775806)(u:Nat)(h:Lib.parseUintB 64 s.data.toList = .ok u)(w:World) :
   Calls prog 352 #[.string s, .int .i64 10, .int .i64 64] w λe w'=>e = .returned (.tuple #[.int .u64 u, .nilIface])/\(w'=w\/w'=Lib.bytesWorld w 5 s):=Any.strconv_ParseUint_10_at64_ok Tryz.laysPu14 s hmax u h w
open Go.RowKit Go.Lib in
theorem Tryz.isBlank(w:World):PredAt prog 320 #[] encR (λr=>decide ((r:Int)=32)) w:=λW r _=>by
 unfold FnGives
 go_enter func320,ntmps320
 go_wp2
 go_ret
 exact⟨rfl,0,rfl⟩
end Go.Proofs
namespace Go.SW
open Go.Proofs Go.RowKit
theorem strings_Flds(H:Hp)(s:Bs)(hs:s.length<=65536):Ph prog 319 #[str s, .func (.func 320) #[] #[]] H (λv H'=>∃ (a:Option Addr) (c:Nat),v = .slice a (flds s).length c/\SlH strE 1 H' (.slice a (flds s).length c) (flds s)):=by
 refine ph_rowB (T:=9) (flds_str s) (λw hw=>by have :=flds_piece s w hw;omega) λN L w hm=>?_;have :=Tryz.strings_FieldsFunc 320 #[] (enters_of func320 rW Z) _ ⟨s.toArray⟩ w (by simp[CF];omega) (Tryz.isBlank w);refine this.mono λe w' ⟨A,h1,h2,h3,h4⟩=>⟨A,?_,h2,?_,h4⟩;rw[h1,C8];rw[C8];exact h3
theorem strconv_PU(s:Bs)(hl:s.length<=19)(h0:0<s.length)(hd:I5_ s=true)(w:World):Calls prog 352 #[str s, .int .i64 10, .int .i64 64] w λe w'=>e = .returned (.tuple #[.int .u64 (dec s:Int), .nilIface])/\Below w.heap.size w w':=by
 refine (Tryz.strconv_ParseUint_10_at64_ok ⟨s.toArray⟩ (by simp[CF];omega) (dec s) (dec_ok hl h0 hd).1 w).mono λe w' ⟨he,hw⟩=>⟨he,?_⟩
 rcases hw with rfl|rfl
 exact Below.refl _ _;exact Go.Joins.below_bytesWorld _ _ _ _ (Nat.le_refl _)
end Go.SW
namespace Go.Proofs
open Go.Shelf
def Tryz.lays105_ren:Go.Shelf.Ren:=⟨λ|105=>147|212=>219|99=>220|165=>221|166=>114|170=>222|169=>115|263=>268|264=>269|206=>270|240=>200|241=>271|276=>255|277=>290|n=>n,λ|9=>9|3=>3|4=>4|20=>20|0=>0|46=>311|109=>319|5=>5|72=>210|76=>215|51=>90|146=>356|53=>38|148=>358|70=>208|37=>116|75=>212|127=>303|164=>351|80=>166|n=>n,λ|n=>n⟩
theorem Tryz.lays105:Go.Proofs.Lays.n105 prog Tryz.lays105_ren:={
 mixed:=by kernel_rfl
 f99:=func220.trans (congrArg some rW)
 f105:=func147.trans (congrArg some rW)
 f165:=func221.trans (congrArg some rW)
 f166:=func114.trans (congrArg some rW)
 f169:=func115.trans (congrArg some rW)
 f170:=func222.trans (congrArg some rW)
 f206:=func270.trans (congrArg some rW)
 f212:=func219.trans (congrArg some rW)
 f240:=func200.trans (congrArg some rW)
 f241:=func271.trans (congrArg some rW)
 f263:=func268.trans (congrArg some rW)
 f264:=func269.trans (congrArg some rW)
 f276:=func255.trans (congrArg some rW)
 f277:=func290.trans (congrArg some rW)
 t0:=underlying0
 a0:=isAgg0
 z0:=sizeOf0
 v0:=zeroValue0
 t3:=underlying3
 a3:=isAgg3
 z3:=sizeOf3
 v3:=zeroValue3
 t4:=underlying4
 a4:=isAgg4
 z4:=sizeOf4
 v4:=zeroValue4
 t5:=underlying5
 a5:=isAgg5
 z5:=sizeOf5
 v5:=zeroValue5
 t9:=underlying9
 a9:=isAgg9
 z9:=sizeOf9
 v9:=zeroValue9
 t20:=underlying20
 a20:=isAgg20
 z20:=sizeOf20
 v20:=zeroValue20
 t37:=underlying116
 a37:=isAgg116
 z37:=sizeOf116
 v37:=zeroValue116
 t46:=underlying311
 a46:=isAgg311
 z46:=sizeOf311
 v46:=zeroValue311
 t51:=underlying90
 a51:=isAgg90
 z51:=sizeOf90
 v51:=zeroValue90
 t53:=underlying38
 a53:=isAgg38
 z53:=sizeOf38
 v53:=zeroValue38
 t70:=underlying208
 a70:=isAgg208
 z70:=sizeOf208
 v70:=zeroValue208
 t72:=underlying210
 a72:=isAgg210
 z72:=sizeOf210
 v72:=zeroValue210
 t75:=underlying212
 a75:=isAgg212
 z75:=sizeOf212
 v75:=zeroValue212
 t76:=underlying215
 a76:=isAgg215
 z76:=sizeOf215
 v76:=zeroValue215
 t109:=underlying319
 a109:=isAgg319
 z109:=sizeOf319
 v109:=zeroValue319
 t127:=underlying303
 a127:=isAgg303
 z127:=sizeOf303
 v127:=zeroValue303
 t146:=underlying356
 a146:=isAgg356
 z146:=sizeOf356
 v146:=zeroValue356
 t148:=underlying358
 a148:=isAgg358
 z148:=sizeOf358
 v148:=zeroValue358
 t164:=underlying351
 a164:=isAgg351
 z164:=sizeOf351
 v164:=zeroValue351}
theorem Tryz.Builder_Extra_105:Builder.Extra prog Tryz.lays105_ren:={
 sizeBuilder:=by kernel_rfl
 liesBuilder:=by kernel_rfl
 t5:=underlying5
 a5:=isAgg5
 z5:=sizeOf5
 v5:=zeroValue5
 infoByte:=by kernel_rfl
 cellsByte:=by kernel_rfl
 sizeByte:=by kernel_rfl
 neB5:=by decide}
open Go.RowKit Go.Lib in
theorem Tryz.strings_Repeat(s:ByteArray)(c:Nat)(w:World)(hc:c<=9223372036854775807)(hlen:s.size*c<=140737488355328) :
   Calls prog 147 #[.string s, .int .i64 c] w λe w'=>e = .returned (.string ⟨(Lib.repeatL s.data.toList c).toArray⟩)/\Below w.heap.size w w':=Any.strings_Repeat Tryz.lays105 Tryz.Builder_Extra_105 s c w hc hlen
end Go.Proofs
namespace Go.SW
open Go.Proofs
theorem strings_Rpt(s:Bs)(c:Nat)(N:Rest)(H:Hp)(L:Ls)(w:World)(h:s.length*c<=140737488355328)(hc:c<=9223372036854775807)(hm:Mem N H L w):Calls prog 147 #[str s, .int .i64 (c:Int)] w λen w'=>en = .returned (str (Lib.repeatL s c))/\Mem N H L w':=by
 refine (Tryz.strings_Repeat ⟨s.toArray⟩ c w hc (by simpa [CF] using h)).mono λe w' ⟨he,hb⟩=>⟨he,?_⟩;refine hm.of_same hb.os hb.tape hb.output λc o ho=>?_;exact tJ
end Go.SW
namespace Go.Proofs
open Go.Shelf
def Tryz.lays146_ren:Go.Shelf.Ren:=⟨λ|146=>291|221=>305|268=>316|138=>317|143=>318|195=>335|197=>336|218=>337|219=>338|260=>347|217=>348|225=>349|224=>350|267=>351|266=>358|314=>359|n=>n,λ|9=>9|31=>106|3=>3|4=>4|0=>0|105=>395|21=>21|5=>5|46=>311|119=>415|139=>418|138=>417|146=>356|51=>90|n=>n,λ|1=>1|3=>2|4=>3|n=>n⟩
theorem Tryz.lays146:Go.Proofs.Lays.n146 prog Tryz.lays146_ren:={
 mixed:=by kernel_rfl
 f138:=func317.trans (congrArg some rW)
 f143:=func318.trans (congrArg some rW)
 f146:=func291.trans (congrArg some rW)
 f195:=func335.trans (congrArg some rW)
 f197:=func336.trans (congrArg some rW)
 f217:=func348.trans (congrArg some rW)
 f218:=func337.trans (congrArg some rW)
 f219:=func338.trans (congrArg some rW)
 f221:=func305.trans (congrArg some rW)
 f224:=func350.trans (congrArg some rW)
 f225:=func349.trans (congrArg some rW)
 f260:=func347.trans (congrArg some rW)
 f266:=func358.trans (congrArg some rW)
 f267:=func351.trans (congrArg some rW)
 f268:=func316.trans (congrArg some rW)
 f314:=func359.trans (congrArg some rW)
 t0:=underlying0
 a0:=isAgg0
 z0:=sizeOf0
 v0:=zeroValue0
 t3:=underlying3
 a3:=isAgg3
 z3:=sizeOf3
 v3:=zeroValue3
 t4:=underlying4
 a4:=isAgg4
 z4:=sizeOf4
 v4:=zeroValue4
 t5:=underlying5
 a5:=isAgg5
 z5:=sizeOf5
 v5:=zeroValue5
 t9:=underlying9
 a9:=isAgg9
 z9:=sizeOf9
 v9:=zeroValue9
 t21:=underlying21
 a21:=isAgg21
 z21:=sizeOf21
 v21:=zeroValue21
 t31:=underlying106
 a31:=isAgg106
 z31:=sizeOf106
 v31:=zeroValue106
 t46:=underlying311
 a46:=isAgg311
 z46:=sizeOf311
 v46:=zeroValue311
 t51:=underlying90
 a51:=isAgg90
 z51:=sizeOf90
 v51:=zeroValue90
 t105:=underlying395
 a105:=isAgg395
 z105:=sizeOf395
 v105:=zeroValue395
 t119:=underlying415
 a119:=isAgg415
 z119:=sizeOf415
 t138:=underlying417
 a138:=isAgg417
 z138:=sizeOf417
 v138:=zeroValue417
 t139:=underlying418
 a139:=isAgg418
 z139:=sizeOf418
 v139:=zeroValue418
 t146:=underlying356
 a146:=isAgg356
 z146:=sizeOf356
 v146:=zeroValue356
 g1:=by kernel_rfl
 g3:=by kernel_rfl
 g4:=by kernel_rfl}
open Go.RowKit Go.Lib in
theorem Tryz.strings_Split(s sep:ByteArray)(m:Int)(w:World)(hs:s.size<4294967281)(hm:w.cell? ⟨1,0,none⟩=some (.int .i64 m))(h1:1<=sep.size) :
   Calls prog 291 #[.string s, .string sep] w λe w'=>
     e = .returned (.slice (some ⟨w.heap.size,0,none⟩) (Lib.countB s sep+1) (Lib.countB s sep+1))/\w'=w.alloc (.cells ((Lib.splitB sep 0 (Lib.countB s sep) s).map Value.string).toArray 9):=Any.strings_Split Tryz.lays146 rW s sep m w hs hm h1
end Go.Proofs
namespace Go.SW
open Go.Proofs
theorem strings_Split(H:Hp)(s p:Bs)(hp:p=[46])(hML:GInt H 1)(hs:s.length<4294967281):Ph prog 291 #[str s,str p] H (λv H'=>∃ (a:Option Addr) (c:Nat),v = .slice a (dots s).length c/\SlH strE 1 H' (.slice a (dots s).length c) (dots s)):=by
 subst hp;refine ph_strs (T:=9) (λw hw=>by have :=Tp_ s w hw;omega) λN L w hm=>?_;obtain⟨m,hc⟩:=hML.cell hm;refine (Tryz.strings_Split ⟨s.toArray⟩ ⟨#[46]⟩ m w (by simpa [Kk_] using hs) hc rX).mono λe w' ⟨he,hw⟩=>⟨?_,?_⟩;rw[he,Zd_];rw[hw,Xt_]
theorem strings_SplitL(H:Hp)(s p:Bs)(hp:p=[10])(hML:GInt H 1)(hs:s.length<4294967281):Ph prog 291 #[str s,str p] H (λv H'=>∃ (a:Option Addr) (c:Nat),v = .slice a (cuts 10 s).length c/\SlH strE 1 H' (.slice a (cuts 10 s).length c) (cuts 10 s)):=by
 subst hp;refine ph_strs (T:=9) (λw hw=>by have :=Tn_ 10 s w hw;omega) λN L w hm=>?_;obtain⟨m,hc⟩:=hML.cell hm;refine (Tryz.strings_Split ⟨s.toArray⟩ ⟨#[10]⟩ m w (by simpa [Kk_] using hs) hc rX).mono λe w' ⟨he,hw⟩=>⟨?_,?_⟩;rw[he,splitB_clen];rw[hw,Xs_]
theorem ag208:Ag prog 208 false:=λw=>by kernel_rfl
theorem ag9:Ag prog 9 false:=λw=>by kernel_rfl
theorem cb200:S_ prog 200:=J_ func200 rW rW
theorem Q9_:Fld prog 210 0 0:=λb o w=>by kernel_rfl
theorem Wt_:liesAt prog prog.depth 210 (2/prog.cellsOf 210) 0 210 1=true:=by kernel_rfl
theorem ne255:NoEsc prog 255:=noEsc_of func255 rW rW rW rW
theorem sz208:Sz prog 208 1:=λw=>by kernel_rfl
theorem sz9:Sz prog 9 1:=λw=>by kernel_rfl
theorem ti210:∃ j,prog.info? 210=some j:=Option.isSome_iff_exists.1 rW
theorem tz210:∃ j,prog.info? 210=some j/\j.size≠0:=exInfo rW
set_option maxRecDepth 100000 in
theorem copyCheck{n:Nat}{N:Rest}{F:Fr}{H:Hp}{L:Ls}{ops:List Oper}{ty d:Nat}{pos:String}{af:Array Edge}{K:Fr->Hp->Ls->Prop}{x:Operand}{ats:Array TypeId}{b:Nat}{p v:Value}(i:Nat)(hx:ev F x = .pointer (some ⟨b,0,none⟩))(hi:L i=some (b,bx 210 [p,v]))
   (hp:p = .pointer none\/p = .pointer (some ⟨b,0,none⟩)) (hd:Nat.blt d n=true) (k:K (upd F d (.tuple #[])) H (lupd L i (some (b,bx 210 [.pointer (some ⟨b,0,none⟩),v])))):Op1 prog n N ops ⟨some d, .call ⟨.value (.func 200),#[x],ats⟩,ty,pos,af,none⟩ K F H L:=by
 refine op1_in (en_f (vs:=[.pointer (some ⟨b,0,none⟩)]) cb200 (by simp[evs,hx])) func200 rfl ntmps200 rfl hd (Kd_ (Fr_ (ol rfl (Iw_ (v:= .pointer (some ⟨_,_,none⟩)) rfl) (ol rfl (F7_ rfl) (ol rfl (Et_ rfl Q9_) ?_)))));refine ol Z (Kt_ (i:=i) (v:=p) Z ag208 hi Z) ?_
 rcases hp with rfl|rfl
 refine ol Z (lo_pnil Z Z underlying208) (Jt_ (Jy_ (cw_cond_t Z Z (Fr_ (ol Z (Iw_ (v:= .pointer (some ⟨_,_,none⟩)) Z) ?_)))));refine ol Z (Iw_ (v:= .pointer (some ⟨_,_,none⟩)) Z) (ol Z (W3_ (i:=i) Z hi Z underlying208 underlying351 (tz210).choose_spec.1 (tz210).choose_spec.2) (ol Z (lo_noEsc (v:= .pointer (some ⟨_,_,none⟩)) ne255 Z) (ol Z (Sx_ (i:=i) Z hi underlying351 underlying208 (ti210).choose_spec Wt_) (ol Z (F7_ Z) (ol Z (Et_ Z Q9_) ?_)))));exact uC
 . refine ol Z (T0_ Z Z underlying208) (Jt_ (Jy_ (Rz_ Z Z (Kd_ (Fr_ ?_)))))
   refine ol Z (Iw_ (v:= .pointer (some ⟨_,_,none⟩)) Z) (ol Z (F7_ Z) (ol Z (Et_ Z Q9_) (ol Z (Kt_ (i:=i) (v:= .pointer (some ⟨b,0,none⟩)) Z ag208 hi Z) (ol Z (Iw_ (v:= .pointer (some ⟨_,_,none⟩)) Z) (ol Z (W0_ Z Z underlying208 (ti210).choose_spec) ?_)))))
   refine Jt_ (Jy_ (Rz_ Z Z (Zp_ (fnK_n (res0 Z) (.refl _) ?_))))
   rwa [lupd_eta hi] at k
theorem sz5:Sz prog 5 1:=λw=>by kernel_rfl
theorem ag116:Ag prog 116 false:=λw=>by kernel_rfl
theorem ag161:Ag prog 161 true:=λw=>by kernel_rfl
theorem by5:By prog 5 1:=by_of rW
theorem cb112:S_ prog 112:=J_ func112 rW rW
theorem cb115:S_ prog 115:=J_ func115 rW rW
theorem co5:prog.cellsOf 5=1:=by kernel_rfl
theorem fl161_0:Fld prog 161 0 0:=λb o w=>by kernel_rfl
theorem Z3_:Fld prog 210 1 1:=λb o w=>by kernel_rfl
theorem mixd:prog.follows .mixedOrders=true:=by kernel_rfl
theorem sz116:Sz prog 116 1:=λw=>by kernel_rfl
theorem sz161:Sz prog 161 2:=λw=>by kernel_rfl
theorem zr161:Zr prog 161 [str [], .int .i64 0]:=λw=>⟨.agg #[str [], .int .i64 0],by kernel_rfl,rfl⟩
theorem zr210:Zr prog 210 [.pointer none, .slice none 0 0]:=λw=>⟨.agg #[.pointer none, .slice none 0 0],by kernel_rfl,rfl⟩
theorem zr5:Zr prog 5 [.int .u8 0]:=λw=>⟨.int .u8 0,by kernel_rfl,rfl⟩
theorem zx5:∃ z,∀ w,(zeroValue 5).run prog w = .ok z w:=⟨.int .u8 0,λw=>by kernel_rfl⟩
theorem out_Num(H:Hp)(o:Out)(n:Int)(n_r:0<=n/\n<=18446744073709551615)(bytes:Int)(bytes_r:-9223372036854775808<=bytes/\bytes<=9223372036854775807)(hlen:o.s.length<=4611686018427387904):Pr prog 75 #[.agg (Out.cells o).toArray, .int .u64 n, .int .i64 bytes] H (.agg (Out.cells (B_ o n bytes)).toArray):=by
 refine pr_cw func75 Z ntmps75 Z (λN=>?_);refine Kd_ (Fr_ (ow1 (op1_box (cs:=[_,_]) 0 Z Z (λb1=>?_))));refine ow1 (S4_ 1 Z zr161 (λb2=>?_));refine Jt_ (Jy_ (Kd_ (Fr_ (ow1 (S4_ 2 Z zr210 (λb3=>?_))))));refine Jt_ (Jy_ (Kd_ (Kd_ (Fr_ (omi Z Z ?_)))));refine ol Z (lo_max Z Z) (ol Z (lo_min Z Z) (ol Z (lo_sub Z Z (Uk_ rV)) (oai Z Z (Jt_ (Jy_ ?_)))));refine Zn_ ?_;refine cw_loop5 [8,13,14,15,16,17,18,19,20,21,22] [2,3,4] (λ(j:Nat) (bs:Bs) (p:Value) (v:Value) (en:Option (Nat×Obj)) G=>upd (G) 8 (.int .i64 ((j:Int)-1))) (λ(j:Nat) (bs:Bs) (p:Value) (v:Value) (en:Option (Nat×Obj)) G=>lupd (lupd (G) 2 (some (b3,bx 210 [p,v]))) 3 (en)) (λ(j:Nat) (bs:Bs) (p:Value) (v:Value) (en:Option (Nat×Obj)) H'=>bs++numB j n.toNat=numB (numK bytes) n.toNat/\bs.length+j=numK bytes/\OwnV 1 5 v en bs.length (bs.map u8v)/\(bs.length=0->v = .slice none 0 0)/\(p = .pointer none\/p = .pointer (some ⟨b3,0,none⟩))) (λ(j:Nat) (bs:Bs) (p:Value) (v:Value) (en:Option (Nat×Obj))=>j) (numK bytes) [] (.pointer none) (.slice none 0 0) none (upd_intro (Y0_ oO) (congrArg (GF .i64) (show min (max bytes 0) 8-1=((numK bytes:Nat):Int)-1 by unfold numK;omega))) (Qk_ (Qk_ (Wy_ offl_refl) Z) Z) ?_ ?_;exact⟨rfl,by simp,On_,λ_=>rfl, .inl rfl⟩;intro j bs p v en J5 JL5 H5 hp4 hl5;obtain⟨hk1,hk2,ho,hz,hpp⟩:=hp4;have hk8:numK bytes<=8:=by unfold numK;omega
 refine Kd_ (Kd_ (Fr_ (omi Z Z (ol Z (lo_geq Z Z) (Jt_ ?_)))));refine Jy_ (Zo_ Z (λh6=>?_) (λh6=>?_));have p7:=dt h6;refine Zp_ (Jy_ (Kd_ (Zn_ (Fr_ (omi Z Z ?_)))));refine omi Z Z (ol Z (lo_mul Z Z (Uk_ rV)) (ol Z (lo_shr Z Z rV) ?_));have :=wr_u8 (FY n (2 ^ (min ((8*((j:Int)-1)):Int).toNat (A9 .u64))));refine ol Z (lo_conv Z (by rw[underlying38];rfl) underlying5) ?_;refine ow1 (op1_in (en_f cb112 Z) func112 Z ntmps112 Z Z ?_);refine Kd_ (Fr_ (ol Z (Ml_ Z) (Jt_ (Jy_ (Kd_ ?_)))));refine Fr_ (ol Z (Iw_ (v:= .pointer (some ⟨_,_,none⟩)) Z) ?_);refine ow1 (copyCheck 2 Z Z hpp Z ?_);refine Jt_ (Jy_ (Kd_ (Fr_ (ol Z (Iw_ (v:= .pointer (some ⟨_,_,none⟩)) Z) (ol Z (Iw_ (v:= .pointer (some ⟨_,_,none⟩)) Z) ?_)))));refine ol Z (F7_ Z) (ol Z (Et_ Z Z3_) (ol Z (Kt_ (i:=2) Z ag116 Z Z) (omi Z Z ?_)));refine ow1 (Y4_ (cs:=[_]) 4 Z underlying116 sz5 zx5 Z ⟨Z,Z,U⟩ Z Z rX (λb8=>?_));refine ow1 (op1_app 3 Z Z underlying116 underlying116 Z sz5 by5 rX zr5 ho (src_bx (i:=4) Z Z) (List.all_eq_true.1 Z) Z rV Z (λv9 en10 ho11=>?_));have ho12:=byte_app (bs:=bs) ho11 (by first|rfl|simp) (wrap8r _);refine ol Z (F7_ Z) (ol Z (Et_ Z Z3_) ?_);refine ow1 (Ld_ (i:=2) Z Z (ownV_one ho12) sz116 Z Z ?_);refine Jt_ (Jy_ (Kd_ (Fr_ (ol Z (Ml_ Z) (Jt_ ?_)))));refine Jy_ (cw_ret (fnK_r (res1 Z (rv_t Z)) (.refl _) (Jt_ (blkK_n (Jy_ ?_)))));refine Fr_ (omi Z Z (ol Z (lo_sub Z Z (Uk_ rV)) (oai Z Z (Jt_ ?_))));refine next5 (j-1) (bs++[UInt8.ofNat ((A0 .u8 (FY n (2 ^ (min ((8*((j:Int)-1)):Int).toNat (A9 .u64)))))).toNat]) (.pointer (some ⟨b3,0,none⟩)) v9 en10 (upd_intro (Y0_ oO) (congrArg (GF .i64) (show ((j:Int)-1)-1=((j-1:Nat):Int)-1 by omega))) (Qk_ (Qk_ (Wy_ (by first|exact offl_refl|(repeat (first|exact offl_mask|refine offl_upd Z ?_|refine offl_mask2 Z ?_)))) Z) Z) hl5 ?_ ?_;refine⟨?_,?_,ho12,(nz_of ho12 qB), .inr rfl⟩;rw[byte_of n_r.1 rV rV,List.append_assoc,<- hk1];obtain⟨q,rfl⟩:∃ q,j=q+1:=⟨j-1,by omega⟩;simp[numB];simp;omega;omega;have p13:=df h6;refine cw_exit (seqK_e (loopK_e (blkK_hit (Jy_ (Kd_ ?_)))));refine cw_anyX 3 mixd (vw_q 0 Z rW qJ (λ_ _ hh hl=>Et_ Z fl161_0) ?_);refine vw_q 1 Z rW qJ (λ_ _ hh hl=>Kt_ (i:=0) (v:=str _) Z ag9 (hl _ _ Z) Z) ?_;refine vw_e 2 Z rW (op1_in (en_f cb115 Z) func115 Z ntmps115 Z Z ?_);refine Kd_ (Fr_ (ol Z (Ml_ (v:=str _) Z) (Jt_ (Jy_ (Kd_ ?_)))));refine cw_anyX 3 mixd ?_;refine vw_q 0 Z rW qJ (λ_ _ hh hl=>Iw_ (v:= .pointer (some ⟨_,_,none⟩)) Z) ?_;refine vw_q 1 Z rW qJ (λ_ _ hh hl=>F7_ Z) ?_;refine vw_q 2 Z rW qJ (λ_ _ hh hl=>Et_ Z Z3_) ?_;refine vw_q 3 Z rW qJ (λ_ _ hh hl=>Kt_ (i:=2) Z ag116 (hl _ _ Z) Z) ?_;refine vw_q 4 Z rW qJ (λ_ _ hh hl=>lo_usd Z ho hz) ?_;refine vw_q 5 Z rW qJ (λ_ _ hh hl=>Iw_ (v:= .pointer (some ⟨_,_,none⟩)) Z) ?_;refine vw_q 6 Z rW qJ (λ_ _ hh hl=>F7_ Z) ?_;refine vw_q 7 Z rW qJ (λ_ _ hh hl=>Et_ Z Z3_) ?_;refine vw_q 8 Z rW qJ (λ_ _ hh hl=>Kt_ (i:=2) Z ag116 (hl _ _ Z) Z) ?_;refine vw_q 9 Z rW qJ (λ_ _ hh hl=>Yz_ Z ho underlying116) ?_;refine vw_e 10 Z rW (op1_ustr (l:=bs) 3 Z Z underlying303 co5 ho hz oJ Z ?_);refine⟨⟨(.refl _),qJ⟩,?_⟩;refine vw_q 11 Z rW qJ (λ_ _ hh hl=>Ml_ (v:=str _) Z) ?_;refine vw_done rW (Jy_ (cw_ret (fnK_r (res1 Z (rv_t (v:=str _) Z)) (.refl _) ?_)));refine⟨⟨(.refl _),qJ⟩,?_⟩;refine vw_q 3 Z rW qJ (λ_ _ hh hl=>lo_cat Z Z oJ) ?_;refine vw_q 4 Z rW qJ (λ_ _ hh hl=>Et_ Z fl161_0) ?_;refine vw_t 5 Z rW rW (Ld_ (i:=0) (v:=str _) Z Z Z sz9 Z Z ?_);refine vw_done rW (Jy_ (Kd_ (Fr_ (ol Z (Va_ (i:=0) (vs:=[_,_]) Z ag161 sz161 Z Z Z) ?_))));refine ow1 (Y5_ (i:=1) (vs:=[_,_]) Z Z Z sz161 Z Z Z ?_);refine Jt_ (Jy_ (cw_ret (fnK_r (res1 Z (rv_c (i:=1) (vs:=[_,_]) Z ag161 sz161 Z Z Z)) ((HLe.refl _).trans hl5) ?_)));obtain rfl :j=0:=by omega
 simp only[numB,List.append_nil] at hk1;subst hk1;rfl
end Go.SW
namespace Go.SW.V
open Go.SW Go.Proofs
abbrev ty9:TI:=⟨.str,1,16,[.str []]⟩
abbrev ty3:TI:=⟨.int .i64,1,8,[.int .i64 0]⟩
abbrev ty33:TI:=⟨.int .i64,1,8,[.int .i64 0]⟩
abbrev ty38:TI:=⟨.int .u64,1,8,[.int .u64 0]⟩
abbrev ty161:TI:=⟨.agg [(0,1),(1,1)],2,24,[.str [], .int .i64 0]⟩
abbrev ty310:TI:=⟨.agg [(0,1),(1,1)],2,24,[.str [], .int .i64 0]⟩
abbrev ty106:TI:=⟨.slc 9,1,24,[.sl strc []]⟩
abbrev ty2:TI:=⟨.int .i64,1,8,[.int .i64 0]⟩
abbrev ty5:TI:=⟨.int .u8,1,1,[.int .u8 0]⟩
abbrev ty43:TI:=⟨.slc 232,1,24,[.sl Pair.pc []]⟩
abbrev ty232:TI:=⟨.agg [(0,1),(1,1),(2,1),(3,1)],4,48,[.str [], .int .u8 0, .int .i64 0, .str []]⟩
abbrev ty4:TI:=⟨.bool,1,1,[.bool false]⟩
abbrev ty45:TI:=⟨.agg [(0,1),(1,1),(2,1),(3,1),(4,1),(5,1)],6,88,[.str [], .str [], .bool false, .str [], .sl Pair.pc [], .bool false]⟩
abbrev ty116:TI:=⟨.slc 5,1,24,[.sl u8c []]⟩
abbrev ty90:TI:=⟨.int .u32,1,4,[.int .u32 0]⟩
abbrev ty40:TI:=⟨.agg [(0,1),(1,1),(2,1)],3,40,[.str [], .int .u8 0, .str []]⟩
abbrev ty42:TI:=⟨.agg [(0,1),(1,1),(2,1),(3,1)],4,48,[.str [], .int .u64 0, .int .u64 0, .str []]⟩
abbrev ty47:TI:=⟨.agg [(0,1),(1,1),(2,1),(3,1),(4,1),(5,1),(6,1)],7,96,[.int .u64 0, .str [], .str [], .sl Pair.pc [], .str [], .int .u64 0, .int .u8 0]⟩
abbrev ty49:TI:=⟨.agg [(0,1),(1,1),(2,3),(5,4),(9,6),(15,1),(16,1),(17,1),(18,1),(19,1),(20,1),(21,7),(28,1)],29,344,[.int .u8 0, .int .u64 0, .str [], .int .u8 0, .str [], .str [], .int .u64 0, .int .u64 0, .str [], .str [], .str [], .bool false, .str [], .sl Pair.pc [], .bool false, .str [], .int .u64 0, .int .u8 0, .int .u8 0, .int .u8 0, .int .u64 0, .int .u64 0, .str [], .str [], .sl Pair.pc [], .str [], .int .u64 0, .int .u8 0, .str []]⟩
abbrev ty261:TI:=⟨.slc 33,1,24,[.sl i64c []]⟩
abbrev ty301:TI:=⟨.agg [(0,1),(1,1),(2,1),(3,1)],4,56,[.int .u8 0, .str [], .sl Pair.pc [], .bool false]⟩
abbrev ty56:TI:=⟨.slc 40,1,24,[.sl W_.pc []]⟩
abbrev ty59:TI:=⟨.agg [(0,1),(1,1)],2,48,[.sl W_.pc [], .sl O_.pc []]⟩
abbrev ty57:TI:=⟨.slc 45,1,24,[.sl O_.pc []]⟩
abbrev ty346:TI:=⟨.slc 56,1,24,[.sl (slc W_.pc) []]⟩
abbrev ty349:TI:=⟨.slc 57,1,24,[.sl (slc O_.pc) []]⟩
abbrev ty27:TI:=⟨.slc 49,1,24,[.sl G_.pc []]⟩
abbrev ty22:TI:=⟨.slc 94,1,24,[.sl Av_.pc []]⟩
abbrev ty23:TI:=⟨.slc 3,1,24,[.sl i64c []]⟩
abbrev ty24:TI:=⟨.slc 124,1,24,[.sl Bv_.pc []]⟩
abbrev ty26:TI:=⟨.agg [(0,1),(1,1),(2,1),(3,1),(4,1)],5,88,[.int .i64 0, .int .i64 0, .sl Av_.pc [], .sl i64c [], .sl Bv_.pc []]⟩
abbrev ty51:TI:=⟨.agg [(0,7),(7,1),(8,1)],9,104,[.int .u64 0, .str [], .str [], .sl Pair.pc [], .str [], .int .u64 0, .int .u8 0, .bool false, .bool false]⟩
abbrev ty60:TI:=⟨.slc 200,1,24,[.sl Hh_.pc []]⟩
abbrev ty61:TI:=⟨.slc 47,1,24,[.sl Mail.pc []]⟩
abbrev ty67:TI:=⟨.slc 97,1,24,[.sl Ea_.pc []]⟩
abbrev ty69:TI:=⟨.agg [(0,1),(1,1)],2,32,[.int .u64 0, .sl Ea_.pc []]⟩
abbrev ty92:TI:=⟨.agg [(0,1),(1,1)],2,8,[.int .u8 0, .int .u32 0]⟩
abbrev ty94:TI:=⟨.agg [(0,1),(1,2),(3,1),(4,1)],5,40,[.str [], .int .u8 0, .int .u32 0, .int .i64 0, .int .u64 0]⟩
abbrev ty97:TI:=⟨.agg [(0,1),(1,1),(2,1)],3,32,[.int .u64 0, .int .u8 0, .str []]⟩
abbrev ty124:TI:=⟨.agg [(0,1),(1,1),(2,1)],3,24,[.int .i64 0, .int .i64 0, .int .i64 0]⟩
abbrev ty144:TI:=⟨.oth,1,8,[.val .nilFunc]⟩
abbrev ty196:TI:=⟨.slc 51,1,24,[.sl V_.pc []]⟩
abbrev ty198:TI:=⟨.agg [(0,1)],1,24,[.sl V_.pc []]⟩
abbrev ty200:TI:=⟨.agg [(0,4),(4,1)],5,72,[.str [], .int .u64 0, .int .u64 0, .str [], .sl V_.pc []]⟩
abbrev ty291:TI:=⟨.slc 67,1,24,[.sl (slc Ea_.pc) []]⟩
abbrev ty330:TI:=⟨.slc 60,1,24,[.sl (slc Hh_.pc) []]⟩
abbrev ty369:TI:=⟨.slc 196,1,24,[.sl (slc V_.pc) []]⟩
abbrev ty374:TI:=⟨.slc 61,1,24,[.sl (slc Mail.pc) []]⟩
abbrev ty63:TI:=⟨.agg [(0,1),(1,1)],2,32,[.int .u64 0, .sl Mail.pc []]⟩
abbrev ty66:TI:=⟨.agg [(0,1),(1,1),(2,1),(3,32)],35,552,[.int .u64 0, .int .i64 0, .sl Hh_.pc [], .int .u64 0, .sl Mail.pc [], .int .u64 0, .sl Mail.pc [], .int .u64 0, .sl Mail.pc [], .int .u64 0, .sl Mail.pc [], .int .u64 0, .sl Mail.pc [], .int .u64 0, .sl Mail.pc [], .int .u64 0, .sl Mail.pc [], .int .u64 0, .sl Mail.pc [], .int .u64 0, .sl Mail.pc [], .int .u64 0, .sl Mail.pc [], .int .u64 0, .sl Mail.pc [], .int .u64 0, .sl Mail.pc [], .int .u64 0, .sl Mail.pc [], .int .u64 0, .sl Mail.pc [], .int .u64 0, .sl Mail.pc [], .int .u64 0, .sl Mail.pc []]⟩
abbrev ty64:TI:=⟨.arr,32,512,[.int .u64 0, .sl Mail.pc [], .int .u64 0, .sl Mail.pc [], .int .u64 0, .sl Mail.pc [], .int .u64 0, .sl Mail.pc [], .int .u64 0, .sl Mail.pc [], .int .u64 0, .sl Mail.pc [], .int .u64 0, .sl Mail.pc [], .int .u64 0, .sl Mail.pc [], .int .u64 0, .sl Mail.pc [], .int .u64 0, .sl Mail.pc [], .int .u64 0, .sl Mail.pc [], .int .u64 0, .sl Mail.pc [], .int .u64 0, .sl Mail.pc [], .int .u64 0, .sl Mail.pc [], .int .u64 0, .sl Mail.pc [], .int .u64 0, .sl Mail.pc []]⟩
abbrev ty247:TI:=⟨.slc 42,1,24,[.sl T_.pc []]⟩
abbrev ty75:TI:=⟨.agg [(0,2),(2,35),(37,2),(39,16),(55,16)],71,888,[.sl W_.pc [], .sl O_.pc [], .int .u64 0, .int .i64 0, .sl Hh_.pc [], .int .u64 0, .sl Mail.pc [], .int .u64 0, .sl Mail.pc [], .int .u64 0, .sl Mail.pc [], .int .u64 0, .sl Mail.pc [], .int .u64 0, .sl Mail.pc [], .int .u64 0, .sl Mail.pc [], .int .u64 0, .sl Mail.pc [], .int .u64 0, .sl Mail.pc [], .int .u64 0, .sl Mail.pc [], .int .u64 0, .sl Mail.pc [], .int .u64 0, .sl Mail.pc [], .int .u64 0, .sl Mail.pc [], .int .u64 0, .sl Mail.pc [], .int .u64 0, .sl Mail.pc [], .int .u64 0, .sl Mail.pc [], .int .u64 0, .sl Mail.pc [], .int .u64 0, .sl Ea_.pc [], .int .u64 0, .int .u64 0, .int .u64 0, .int .u64 0, .int .u64 0, .int .u64 0, .int .u64 0, .int .u64 0, .int .u64 0, .int .u64 0, .int .u64 0, .int .u64 0, .int .u64 0, .int .u64 0, .int .u64 0, .int .u64 0, .int .u64 0, .int .i64 0, .int .u64 0, .int .i64 0, .int .u64 0, .int .i64 0, .int .u64 0, .int .i64 0, .int .u64 0, .int .i64 0, .int .u64 0, .int .i64 0, .int .u64 0, .int .i64 0, .int .u64 0, .int .i64 0]⟩
abbrev ty78:TI:=⟨.agg [(0,71),(71,5),(76,1)],77,984,[.sl W_.pc [], .sl O_.pc [], .int .u64 0, .int .i64 0, .sl Hh_.pc [], .int .u64 0, .sl Mail.pc [], .int .u64 0, .sl Mail.pc [], .int .u64 0, .sl Mail.pc [], .int .u64 0, .sl Mail.pc [], .int .u64 0, .sl Mail.pc [], .int .u64 0, .sl Mail.pc [], .int .u64 0, .sl Mail.pc [], .int .u64 0, .sl Mail.pc [], .int .u64 0, .sl Mail.pc [], .int .u64 0, .sl Mail.pc [], .int .u64 0, .sl Mail.pc [], .int .u64 0, .sl Mail.pc [], .int .u64 0, .sl Mail.pc [], .int .u64 0, .sl Mail.pc [], .int .u64 0, .sl Mail.pc [], .int .u64 0, .sl Mail.pc [], .int .u64 0, .sl Ea_.pc [], .int .u64 0, .int .u64 0, .int .u64 0, .int .u64 0, .int .u64 0, .int .u64 0, .int .u64 0, .int .u64 0, .int .u64 0, .int .u64 0, .int .u64 0, .int .u64 0, .int .u64 0, .int .u64 0, .int .u64 0, .int .u64 0, .int .u64 0, .int .i64 0, .int .u64 0, .int .i64 0, .int .u64 0, .int .i64 0, .int .u64 0, .int .i64 0, .int .u64 0, .int .i64 0, .int .u64 0, .int .i64 0, .int .u64 0, .int .i64 0, .int .u64 0, .int .i64 0, .int .i64 0, .int .i64 0, .sl Av_.pc [], .sl i64c [], .sl Bv_.pc [], .int .i64 0]⟩
abbrev ty53:TI:=⟨.agg [(0,9),(9,1),(10,1)],11,120,[.int .u64 0, .str [], .str [], .sl Pair.pc [], .str [], .int .u64 0, .int .u8 0, .bool false, .bool false, .int .i64 0, .int .i64 0]⟩
abbrev ty72:TI:=⟨.agg [(0,1),(1,1)],2,16,[.int .u64 0, .int .i64 0]⟩
abbrev ty177:TI:=⟨.slc 191,1,24,[.sl H2_.pc []]⟩
abbrev ty191:TI:=⟨.agg [(0,1),(1,7)],8,112,[.str [], .int .u64 0, .str [], .str [], .sl Pair.pc [], .str [], .int .u64 0, .int .u8 0]⟩
abbrev ty99:TI:=⟨.slc 139,1,24,[.sl Av_.pc []]⟩
abbrev ty100:TI:=⟨.slc 141,1,24,[.sl Bv_.pc []]⟩
abbrev ty102:TI:=⟨.agg [(0,1),(1,1),(2,1),(3,1),(4,1)],5,88,[.int .i64 0, .int .i64 0, .sl Av_.pc [], .sl i64c [], .sl Bv_.pc []]⟩
abbrev ty139:TI:=⟨.agg [(0,1),(1,2),(3,1),(4,1)],5,40,[.str [], .int .u8 0, .int .u32 0, .int .i64 0, .int .u64 0]⟩
abbrev ty141:TI:=⟨.agg [(0,1),(1,1),(2,1)],3,24,[.int .i64 0, .int .i64 0, .int .i64 0]⟩
abbrev ty70:TI:=⟨.arr,16,128,[.int .u64 0, .int .u64 0, .int .u64 0, .int .u64 0, .int .u64 0, .int .u64 0, .int .u64 0, .int .u64 0, .int .u64 0, .int .u64 0, .int .u64 0, .int .u64 0, .int .u64 0, .int .u64 0, .int .u64 0, .int .u64 0]⟩
abbrev ty73:TI:=⟨.arr,16,128,[.int .u64 0, .int .i64 0, .int .u64 0, .int .i64 0, .int .u64 0, .int .i64 0, .int .u64 0, .int .i64 0, .int .u64 0, .int .i64 0, .int .u64 0, .int .i64 0, .int .u64 0, .int .i64 0, .int .u64 0, .int .i64 0]⟩
abbrev ty241:TI:=⟨.agg [(0,1),(1,1)],2,32,[.val (.pointer none), .sl G_.pc []]⟩
abbrev ty119:TI:=⟨.agg [(0,1),(1,1),(2,1),(3,1),(4,1),(5,1)],6,72,[.sl u8c [], .sl Im_.pc [], .bool false, .bool false, .int .i64 0, .int .i64 0]⟩
abbrev ty227:TI:=⟨.agg [(0,1),(1,1)],2,24,[.int .i64 0, .str []]⟩
abbrev ty117:TI:=⟨.slc 227,1,24,[.sl Im_.pc []]⟩
abbrev ty309:TI:=⟨.arr,64,64,[.int .u8 0, .int .u8 0, .int .u8 0, .int .u8 0, .int .u8 0, .int .u8 0, .int .u8 0, .int .u8 0, .int .u8 0, .int .u8 0, .int .u8 0, .int .u8 0, .int .u8 0, .int .u8 0, .int .u8 0, .int .u8 0, .int .u8 0, .int .u8 0, .int .u8 0, .int .u8 0, .int .u8 0, .int .u8 0, .int .u8 0, .int .u8 0, .int .u8 0, .int .u8 0, .int .u8 0, .int .u8 0, .int .u8 0, .int .u8 0, .int .u8 0, .int .u8 0, .int .u8 0, .int .u8 0, .int .u8 0, .int .u8 0, .int .u8 0, .int .u8 0, .int .u8 0, .int .u8 0, .int .u8 0, .int .u8 0, .int .u8 0, .int .u8 0, .int .u8 0, .int .u8 0, .int .u8 0, .int .u8 0, .int .u8 0, .int .u8 0, .int .u8 0, .int .u8 0, .int .u8 0, .int .u8 0, .int .u8 0, .int .u8 0, .int .u8 0, .int .u8 0, .int .u8 0, .int .u8 0, .int .u8 0, .int .u8 0, .int .u8 0, .int .u8 0]⟩
abbrev ty210:TI:=⟨.agg [(0,1),(1,1)],2,32,[.val (.pointer none), .val (.slice none 0 0)]⟩
abbrev ty36:TI:=⟨.oth,1,8,[.val (.pointer none)]⟩
abbrev ty147:TI:=⟨.agg [(0,1),(1,1),(2,1),(3,1),(4,1),(5,1),(6,1)],7,64,[.val (.pointer none), .int .i64 0, .int .u64 0, .bool false, .bool false, .str [], .str []]⟩
abbrev ty105:TI:=⟨.oth,1,8,[.val (.pointer none)]⟩
abbrev ty115:TI:=⟨.agg [(0,77),(77,1)],78,992,[.sl W_.pc [], .sl O_.pc [], .int .u64 0, .int .i64 0, .sl Hh_.pc [], .int .u64 0, .sl Mail.pc [], .int .u64 0, .sl Mail.pc [], .int .u64 0, .sl Mail.pc [], .int .u64 0, .sl Mail.pc [], .int .u64 0, .sl Mail.pc [], .int .u64 0, .sl Mail.pc [], .int .u64 0, .sl Mail.pc [], .int .u64 0, .sl Mail.pc [], .int .u64 0, .sl Mail.pc [], .int .u64 0, .sl Mail.pc [], .int .u64 0, .sl Mail.pc [], .int .u64 0, .sl Mail.pc [], .int .u64 0, .sl Mail.pc [], .int .u64 0, .sl Mail.pc [], .int .u64 0, .sl Mail.pc [], .int .u64 0, .sl Mail.pc [], .int .u64 0, .sl Ea_.pc [], .int .u64 0, .int .u64 0, .int .u64 0, .int .u64 0, .int .u64 0, .int .u64 0, .int .u64 0, .int .u64 0, .int .u64 0, .int .u64 0, .int .u64 0, .int .u64 0, .int .u64 0, .int .u64 0, .int .u64 0, .int .u64 0, .int .u64 0, .int .i64 0, .int .u64 0, .int .i64 0, .int .u64 0, .int .i64 0, .int .u64 0, .int .i64 0, .int .u64 0, .int .i64 0, .int .u64 0, .int .i64 0, .int .u64 0, .int .i64 0, .int .u64 0, .int .i64 0, .int .i64 0, .int .i64 0, .sl Av_.pc [], .sl i64c [], .sl Bv_.pc [], .int .i64 0, .val (.pointer none)]⟩
abbrev ty82:TI:=⟨.slc 53,1,24,[.sl Af_.pc []]⟩
def tbu:Tb:=[(9,ty9),(38,ty38),(5,ty5),(3,ty3),(47,ty47),(42,ty42),(40,ty40),(4,ty4),(51,ty51),(26,ty26),(94,ty94),(66,ty66),(43,ty43),(198,ty198),(22,ty22),(45,ty45),(49,ty49),(69,ty69),(97,ty97),(60,ty60),(200,ty200),(196,ty196),(24,ty24),(63,ty63),(92,ty92),(56,ty56),(75,ty75),(23,ty23),(61,ty61),(106,ty106),(59,ty59),(90,ty90),(161,ty161),(78,ty78),(124,ty124),(67,ty67),(369,ty369),(374,ty374),(57,ty57),(53,ty53),(119,ty119),(227,ty227),(33,ty33),(330,ty330),(291,ty291),(261,ty261),(147,ty147),(232,ty232),(144,ty144),(116,ty116),(177,ty177),(191,ty191),(27,ty27),(349,ty349),(70,ty70),(73,ty73),(2,ty2),(301,ty301),(346,ty346),(72,ty72),(64,ty64),(210,ty210),(99,ty99),(100,ty100),(102,ty102),(139,ty139),(141,ty141),(82,ty82),(36,ty36),(247,ty247),(115,ty115),(310,ty310),(117,ty117),(105,ty105),(241,ty241),(309,ty309)]
theorem C_:tbB prog tbu=true:=by kernel_rfl
section
variable{n:Nat}{N:Rest}{H0:Env}{all:List Oper}{Q:Qs}{ks:List Kt}{fF:Nat->PV}{fL:Nat->Blk}
theorem kA(k:Nat){c c':Cf}{ks':List Kt}{F':Nat->PV}{L':Nat->Blk}{az bs:List Nat}(next :Hd prog n N H0 Q c' ks' ⟨F',L'⟩)(h:run tbu n k c ks fF fL [] [] []=some ⟨c',ks',F',L',[],az,bs⟩:=by exact Z)(he:az=bs:=by exact Z):Hd prog n N H0 Q c ks ⟨fF,fL⟩:=gx C_ k next h he
theorem kB(k:Nat)(is:List Nat){c c':Cf}{ks':List Kt}{F':(Nat->Nat)->Nat->PV}{L':(Nat->Nat)->Nat->Blk}{az bs:(Nat->Nat)->List Nat}(next :∀ B:Nat->Nat,Hd prog n N H0 Q c' ks' ⟨F' B,L' B⟩)(h:∀ B,runE tbu n k is B c ks fF fL [] [] []=some ⟨c',ks',F' B,L' B,[],az B,bs B⟩:=by exact λ_=>rfl)(he:∀ B,az B=bs B:=by exact λ_=>rfl):Hd prog n N H0 Q c ks ⟨fF,fL⟩:=gm C_ k is next h he
theorem kC(k:Nat){c c':Cf}{ks':List Kt}{F':Nat->PV}{L':Nat->Blk}{ps:List Prop}{az bs:List Nat}(next :Hd prog n N H0 Q c' ks' ⟨F',L'⟩)(h:run tbu n k c ks fF fL [] [] []=some ⟨c',ks',F',L',ps,az,bs⟩:=by exact Z)(he:az=bs:=by exact Z)(hp:AllP ps:=by repeat' (first|exact U|refine And.intro ?_ ?_|exact λhc=>hc|exact Z|exact λhc=>rfl|omega|(intro hc;omega)|(intro hc;rw[hc];rfl))):Hd prog n N H0 Q c ks ⟨fF,fL⟩:=gy C_ k next h he hp
theorem kD(k:Nat)(is:List Nat){c c':Cf}{ks':List Kt}{F':(Nat->Nat)->Nat->PV}{L':(Nat->Nat)->Nat->Blk}{ps:(Nat->Nat)->List Prop}{az bs:(Nat->Nat)->List Nat}(next :∀ B:Nat->Nat,Hd prog n N H0 Q c' ks' ⟨F' B,L' B⟩)(h:∀ B,runE tbu n k is B c ks fF fL [] [] []=some ⟨c',ks',F' B,L' B,ps B,az B,bs B⟩:=by exact λ_=>rfl)(he:∀ B,az B=bs B:=by exact λ_=>rfl)(hp:∀ B,AllP (ps B):=by intro B;repeat' (first|exact U|refine And.intro ?_ ?_|exact λhc=>hc|exact Z|exact λhc=>rfl|omega|(intro hc;omega)|(intro hc;rw[hc];rfl))):Hd prog n N H0 Q c ks ⟨fF,fL⟩:=gmy C_ k is next h he hp
theorem kE(order:List Nat)(f:Nat){xs:Option (List Nat)}{fuel:Nat}{listed:Array Bool}{F':Nat->PV}{L':Nat->Blk}{az bs:List Nat}(next :Hv prog n N H0 Q xs all f (lst listed order) ks ⟨F',L'⟩)(hf:fuel=f+order.length:=by exact Z)(hc:chkV n all order listed=true:=by kernel_rfl)(h:runV tbu xs all order fF fL [] [] []=some ⟨F',L',[],az,bs⟩:=by exact Z)(he:az=bs:=by exact Z):Hv prog n N H0 Q xs all fuel listed ks ⟨fF,fL⟩:=gX C_ order f next hf hc h he
theorem kF(order:List Nat)(f:Nat){xs:Option (List Nat)}{fuel:Nat}{listed:Array Bool}{F':Nat->PV}{L':Nat->Blk}{ps:List Prop}{az bs:List Nat}(next :Hv prog n N H0 Q xs all f (lst listed order) ks ⟨F',L'⟩)(hf:fuel=f+order.length:=by exact Z)(hc:chkV n all order listed=true:=by kernel_rfl)(h:runV tbu xs all order fF fL [] [] []=some ⟨F',L',ps,az,bs⟩:=by exact Z)(he:az=bs:=by exact Z)(hp:AllP ps:=by repeat' (first|exact U|refine And.intro ?_ ?_|exact λhc=>hc|exact Z|exact λhc=>rfl|omega|(intro hc;omega)|(intro hc;rw[hc];rfl))):Hv prog n N H0 Q xs all fuel listed ks ⟨fF,fL⟩:=gXy C_ order f next hf hc h he hp
theorem kG{G:Gb}{m:Nat}{f:FuncId}{fn:Func}{c:Code}{args:List PV}{res:PV}(hf:prog.funcs[f]? = some fn)(hn:fn.ntmps=m)(h:PV.wfs args->∀ N H,G.p H->Hd prog m N ⟨H,G⟩ (rtK tbu fn.results.toList res) (.code c) [] ⟨O8_ args,λ_=> .no⟩)(hb:fn.body=some c:=by exact Z)(hs:Nat.ble args.length m=true:=by exact Z)(h1:(fn.name == "runtime.NumGoroutine")=false:=by kernel_rfl)(h2:fn.body.isNone=false:=by kernel_rfl)(hno:res.noOsl=true:=by exact Z)(hna:Df_ args=true:=by exact Z):Fn prog G f args res:=fC hf C_ hn h hb hs h1 h2 hno hna
theorem kI{T ty d:Nat}{rest:List Oper}{pos:String}{af:Array Edge}{x y:Operand}{α:Type}{ti te:TI}{e:TypeId}{enc:α->List PV}{xs:List α}{kk:IntKind}{i:Int}(m:Nat){a:α}(hm:xs[m]? = some a)(k:(PV.el (enc a) 0).wf->Hd prog n N H0 Q (.ops all rest) ks ⟨updp fF d (.el (enc a) 0),fL⟩)(hx:evP fF x = .sl enc xs:=by exact Z)(hy:evP fF y = .int kk i:=by exact Z)(hi:i=m:=by exact Z)(hti:lkT tbu T=some ti:=by exact Z)(htk:ti.k = .slc e:=by exact Z)(hte:lkT tbu e=some te:=by exact Z)(hsz:te.size=(enc a).length:=by exact Z)(hd:Nat.blt d n=true:=by exact Z):Hd prog n N H0 Q (.ops all (⟨some d, .indexAddr T x y,ty,pos,af,none⟩::rest)) ks ⟨fF,fL⟩:=q1 (qidx C_ m hx hy hi hm hti htk hte hsz) hd k
theorem kN(k:Nat){c:Cf}{ks':List Kt}{F':Nat->PV}{L':Nat->Blk}{az:List Nat}{x:Operand}{y z:Code}{t:Prop}{i:Decidable t}(p:t->Hd prog n N H0 Q (.code y) ks' ⟨F',L'⟩)(q:¬t->Hd prog n N H0 Q (.code z) ks' ⟨F',L'⟩)(h:run tbu n k c ks fF fL [] [] []=some ⟨.code (.cond x y z),ks',F',L',[],az,az⟩:=by exact Z)(hc:evP F' x = .bool (decide t):=by exact Z):Hd prog n N H0 Q c ks ⟨fF,fL⟩:=kA k (cn hc p q) h Z
theorem kM(k:Nat){c:Cf}{ks':List Kt}{F':Nat->PV}{L':Nat->Blk}{az:List Nat}{x:Operand}{y z:Code}{t:Bool}(p:t=true->Hd prog n N H0 Q (.code y) ks' ⟨F',L'⟩)(q:t=false->Hd prog n N H0 Q (.code z) ks' ⟨F',L'⟩)(h:run tbu n k c ks fF fL [] [] []=some ⟨.code (.cond x y z),ks',F',L',[],az,az⟩:=by exact Z)(hc:evP F' x = .bool t:=by exact Z):Hd prog n N H0 Q c ks ⟨fF,fL⟩:=kA k (cnd hc p q) h Z
theorem kL(k:Nat){c:Cf}{ks':List Kt}{F':Nat->PV}{L':Nat->Blk}{az:List Nat}{rest:List Oper}{f:FuncId}{args:List PV}{res:PV}{x:Operand}{xs:Array Operand}{ats:Array TypeId}{ty d:Nat}{pos:String}{af:Array Edge}(g:Fn prog H0.g f args res)(h:run tbu n k c ks fF fL [] [] []=some ⟨.ops all (⟨some d, .call ⟨.value x,xs,ats⟩,ty,pos,af,none⟩::rest),ks',F',L',[],az,az⟩)(ha:argsP F' x xs.toList=some (f,args))(hd:Nat.blt d n=true)(q:res.wf->Hd prog n N H0 Q (.ops all rest) ks' ⟨updp F' d res,L'⟩):Hd prog n N H0 Q c ks ⟨fF,fL⟩:=kA k (call g ha hd q) h Z
theorem kR(k:Nat){c:Cf}{F':Nat->PV}{L':Nat->Blk}{az as0:List Nat}{rs:List ResultVar}{res p:PV}(q:p=res)(h:run tbu n k c ks fF fL [] [] []=some ⟨.ex .ret,[],F',L',[],az,az⟩:=by exact Z)(hs:Jx_ tbu ⟨F',L'⟩ rs=some ([p],as0,as0):=by exact Z):Hd prog n N H0 (rtK tbu rs res) c ks ⟨fF,fL⟩:=kA k (rt1 hs Z (ple q)) h Z
theorem jA(k:Nat){c c':Cf}{ks':List Kt}{F':Nat->PV}{L':Nat->Blk}{az:List Nat}(h:run tbu n k c ks fF fL [] [] []=some ⟨c',ks',F',L',[],az,az⟩)(q:Hd prog n N H0 Q c' ks' ⟨F',L'⟩):Hd prog n N H0 Q c ks ⟨fF,fL⟩:=kA k q h Z
end
def gb:Gb:=⟨λH=>GInt H 1/\GTab H 0 laidT/\GPow H 6,λH H' hl h=>⟨h.1.mono hl,h.2.1.mono hl,h.2.2.mono hl⟩⟩
theorem gbML{H:Hp}(h:gb.p H):GInt H 1:=h.1
theorem gbCrc{H:Hp}(h:gb.p H):GTab H 0 laidT:=h.2.1
theorem gbPow{H:Hp}(h:gb.p H):GPow H 6:=h.2.2
theorem r4_letter(c:Int):Fn prog gb 131 [.int .u8 c] (.bool (letter c)):=by
 refine kG func131 ntmps131 λw N H hG=>?_;refine kC 33 ?_;refine rt1 Z Z (ple ?_);simp[letter, *]
theorem X1_(s:Bs):Fn prog gb 162 [.str s] (.bool (plain s)):=by
 refine kG func162 ntmps162 λw N H hG=>?_;have s_l:s.length<=9223372036854775807:=w.1;refine kA 14 ?_;refine loop (ι:=Nat) [0,5,6] [] (λk=>[(7, .int .i64 (k:Int))]) (λk=>[]) (λk=>k<=s.length/\(s.drop k).all (λc=>letter c.toNat)=plain s) (λk=>s.length-k) 0 ⟨Z,U⟩ U ?_ ?_;exact⟨by omega,rfl⟩;rintro k hp0;obtain⟨hk1,hk2⟩:=hp0;refine kN 6 (λp0=>?_) λp1=>?_;have :=u8r (s.getD k 0);refine jA 14 Z<|q1 (sidx C_ k Z Z Z Z Z rV) Z λw0=>kC 16 ?_;refine cnd Z (λh0=>?_) (λh0=>?_);have h1:=bl h0;have p2:=dt h1;have h2:=br h0;have p3:=dt h2;refine kA 2 ?_;refine cndT Z h0 ?_;refine kC 8 ?_;refine next (k+1) Z Z ⟨Z,U⟩ U ?_ ?_;omega;exact xA;refine kC 11 ?_;refine cnd Z (λh1=>?_) (λh1=>?_);have h2:=bl h1;have p2:=dt h2;have h3:=br h1;have p3:=dt h3;refine kA 2 ?_;refine cndT Z h1 ?_;refine kC 8 ?_;refine next (k+1) Z Z ⟨Z,U⟩ U ?_ ?_;omega;exact xA;refine kM 7 (λh2=>?_) (λh2=>?_);have p2:=dt h2;refine kA 2 ?_;refine cndT Z h2 ?_;refine kC 8 ?_;refine next (k+1) Z Z ⟨Z,U⟩ U ?_ ?_;omega;exact xA;have p2:=df h2;refine kN 6 (λp3=>?_) λp4=>?_;refine kC 8 ?_;refine next (k+1) Z Z ⟨Z,U⟩ U ?_ ?_;omega;exact xA;refine kR 12 ?_;exact wJ;refine kR 11 ?_;exact wJ
theorem Fl_(s:Bs):Fn prog gb 86 [.str s] (.int .i64 (Gp_ s)):=by
 refine kG func86 ntmps86 λw N H hG=>?_;refine kN 14 (λp0=>?_) λp1=>?_;exact uB;refine kN 8 (λp2=>?_) λp3=>?_;exact uB;refine kL 3 (X1_ _) Z Z Z λw0=>kM 4 (λh0=>?_) (λh0=>?_);have h1:=E2_ h0;exact uB;have h1:=D1_ h0;refine kR 9 ?_;simp[Gp_, *]<;>omega
theorem cb75:S_ prog 75:=J_ func75 rW rW
theorem out_Num(o:Out)(n bytes:Int)(hlen:o.s.length<=4611686018427387904):Fn prog gb 75 [.agg (Out.pc o), .int .u64 n, .int .i64 bytes] (.agg (Out.pc (B_ o n bytes))):=
 fn_of_pr (vs:=[.agg [str o.s, .int .i64 o.err].toArray, .int .u64 n, .int .i64 bytes]) (v:= .agg [str (B_ o n bytes).s, .int .i64 (B_ o n bytes).err].toArray) cb75 Z Z
   (λw H=>Sims.cons (Sim.toAgg (Sims.cons (Sim.str w.1.1) (Sims.cons (Sim.int w.1.2.1.1 w.1.2.1.2) Sims.nil))) (Sims.cons (Sim.int w.2.1.1 w.2.1.2) (Sims.cons (Sim.int w.2.2.1.1 w.2.2.1.2) Sims.nil)))
   (λw H=>Sim.toAgg (Sims.cons (Sim.str (by have :=Q_ o n bytes;omega)) (Sims.cons (Sim.int w.1.2.1.1 w.1.2.1.2) Sims.nil)))
   (λw H hG=>SW.out_Num H o n w.2.1 bytes w.2.2.1 hlen)
theorem J7_(o:Out)(s:Bs)(hlen:o.s.length+s.length<=4611686018427387904:=by ((try have :=hrl rY);first|omega|(simp[B_,Y_,Z_,numK]<;>omega))):Fn prog gb 79 [.agg (Out.pc o), .str s] (.agg (Out.pc (Y_ o s))):=by
 refine kG func79 ntmps79 λw N H hG=>?_;refine gmp C_ 23 [0,1] (λ_=>rfl) (λ_=>rfl) (λ_=>⟨(by first|omega|(simp<;>omega)),trivial⟩) λB0=>?_;exact uG
theorem C3_(o:Out):Fn prog gb 82 [.agg (Out.pc o)] (.str o.s):=by
 refine kG func82 ntmps82 λw N H hG=>?_;refine kB 14 [0] λB0=>?_;exact uG
theorem En_(o:Out)(s:Bs)(hlen:o.s.length+s.length<=4611686018427386000:=by ((try have :=hrl rY);first|omega|(simp[B_,Y_,Z_,numK]<;>omega))):Fn prog gb 76 [.agg (Out.pc o), .str s] (.agg (Out.pc (H_ o s))):=by
 refine kG func76 ntmps76 λw N H hG=>?_;refine kB 14 [0,1] λB0=>?_;refine cn Z (λp0=>?_) λp1=>?_;refine kN 8 (λp2=>?_) λp3=>?_;refine kB 13 [] λ_=>?_;exact uH;refine kB 10 [] λ_=>?_;exact uH;refine jA 7 Z<|q1 (Ju_ C_ Z Z Z Z (L4_ rV)) Z λw0=>call (out_Num _ _ _ qA) Z Z λw1=>?_;have :=Q_ o (s.length:Int) 2;refine kL 1 (J7_ _ _) Z Z Z λw2=>?_;have :=Ed_ (B_ o (s.length:Int) 2) s;refine kB 4 [] λ_=>?_;exact uH
theorem cb134:S_ prog 134:=J_ func134 rW rW
theorem cb139:S_ prog 139:=J_ func139 rW rW
theorem cb215:S_ prog 215:=J_ func215 rW rW
theorem N5_(s:Bs):Fb prog gb 134 [.str s] 310 (In.pc (⟨s,0⟩)):=by
 refine fb_cw C_ func134 Z ntmps134 Z cb134 Z Z λw N H hG=>?_;refine kB 14 [0] λB0=>?_;refine rb Z Z Z Z Z ?_;exact ples_rfl
theorem Jm_(i:In)(code:Int):Fm prog gb 215 [.int .i64 code] 310 (In.pc i) (.tup []) (In.pc (Bt_ i code)):=by
 refine Sg_ C_ func215 Z ntmps215 Z cb215 Z Z Z Z λw wp b N H hG=>?_;refine jA 3 Z<|q1 (qpne underlying234 Z Z) Z λw0=>kC 13 ?_;refine cnd Z (λh0=>?_) (λh0=>?_);have h1:=bl h0;have h2:=br h1;have p0:=dt h2;have h3:=br h0;have h4:=E2_ h3;have p1:=df h4;refine kB 11 [] λ_=>?_;refine rm0n Z Z ?_ Z Z Z ?_;exact ple (by first|rfl|(simp[Bt_, *];done));exact uD;refine kA 1 ?_;refine rm0n Z Z ?_ Z Z Z ?_;exact ple (by first|rfl|(simp[Bt_, *];done));exact uD
theorem V7_(i:In)(n:Int):Fm prog gb 139 [.int .i64 n] 310 (In.pc i) (.str ((Fm_ i n).1)) (In.pc ((Fm_ i n).2)):=by
 refine Sg_ C_ func139 Z ntmps139 Z cb139 Z Z Z Z λw wp b N H hG=>?_;refine jA 11 Z<|q1 (qpeq underlying234 Z Z) Z λw0=>kM 14 (λh0=>?_) (λh0=>?_);have h1:=E2_ h0;have p0:=df h1;refine kA 2 ?_;refine cndT Z h0 ?_;refine kA 8 ?_;refine rm1 Z Z ?_ Z Z Z ?_;exact zM;exact uE;have h1:=D1_ h0;have p0:=dt h1;refine kN 6 (λp1=>?_) λp2=>?_;refine kA 8 ?_;refine rm1 Z Z ?_ Z Z Z ?_;exact zM;exact uE;refine kN 12 (λp3=>?_) λp4=>?_;refine jA 3 Z<|ef (ecallm (Jm_ _ _) Z Z Z Z Z λw1 w12p=>?_);refine kA 10 ?_;refine rm1 Z Z ?_ Z Z Z ?_;exact zM;exact uE;refine jA 10 Z<|q1 (sshi C_ (n).toNat Z Z Z Z rV rV) Z λw1=>jA 11 Z<|q1 (sslo C_ (n).toNat Z Z Z Z rV rV) Z λw2=>kB 12 [] λ_=>?_;refine rm1 Z Z ?_ Z Z Z ?_;exact zM;exact uE
theorem cb291:S_ prog 291:=J_ func291 rW rW
theorem strings_Split(s p:Bs)(hp:p=[46])(hs:s.length<4294967281):Fn prog gb 291 [.str s, .str p] (.sl strc (dots s)):=
 ⟨cb291,rfl,λN H L w us hg hsim hm=>by
   obtain⟨v1,_,rfl,h1,h2⟩:=hsim.inv_cons;obtain⟨v2,_,rfl,h3,h4⟩:=h2.inv_cons
   cases h4.inv_nil
   rw[h1.inv_str.1,h3.inv_str.1]
   refine (SW.strings_Split H s p hp (gbML hg) hs N L w hm).mono λ_ _ ⟨v,H',h5,⟨a,c,h6,h7⟩,h8,h9⟩=>⟨v,H',h5,?_,h8,h9⟩
   rw[h6]
   exact Sim.of_slh (k:=1) ⟨h7.1,λm hm=>by
     obtain⟨cs,hE,hat⟩:=h7.2 m hm;obtain⟨hE1,hE2⟩:=hE;subst hE1;exact⟨_,⟨rfl,Sims.nil.cons (Sim.str hE2),λu hu=>by simp at hu;subst hu;rfl⟩,hat⟩⟩ (by have :=dots_le s;omega)⟩
theorem Rr_(s:Bs)(hs:s.length<4294967281:=by omega):Fn prog gb 274 [.str s] (.sl strc (D9_ s)):=by
 refine kG func274 ntmps274 λw N H hG=>?_;refine kN 12 (λp0=>?_) λp1=>?_;refine kA 7 ?_;refine rt1 Z Z ?_;refine Kw_ ?_;simp[D9_, *];refine kL 5 (strings_Split _ _ (by rfl) rV) Z Z Z λw0=>kR 4 ?_;simp[D9_, *]
theorem words_key(s:Bs)(besides:List Bs):Fn prog gb 228 [.str s, .sl strc besides] (.int .i64 (keyE besides s)):=by
 refine kG func228 ntmps228 λw N H hG=>?_;have s_l:s.length<=9223372036854775807:=w.1;have besides_l:besides.length<=140737488355328:=w.2.1.1;refine kN 14 (λp0=>?_) λp1=>?_;refine kR 8 ?_;simp[keyE, *];refine kL 9 (Rr_ _) Z Z Z λw0=>kA 5 ?_;refine loop (ι:=Nat) [0,1,9,10,11,12,13,14] [] (λk=>[(15, .int .i64 (k:Int))]) (λk=>[]) (λk=>k<=(D9_ s).length/\(D9_ s).any (isBad besides)=((D9_ s).drop k).any (isBad besides)) (λk=>(D9_ s).length-k) 0 ⟨Z,U⟩ U ?_ ?_;exact yB;rintro k hp0;obtain⟨hk1,hk2⟩:=hp0;have hwl:=words_le s;refine kN 6 (λp2=>?_) λp3=>?_;obtain⟨c0,hc0⟩:=getE (xs:=D9_ s) (m:=k) rV;refine jA 6 Z<|kI k hc0 λw1=>?_;refine kA 13 ?_;refine loop (ι:=Nat) [0,1,6,9,10,11,12,13,14,15,16,17,18,19,20] [] (λj=>[(21, .int .i64 (j:Int))]) (λj=>[]) (λj=>j<=besides.length/\besides.contains c0=(besides.drop j).contains c0) (λj=>besides.length-j) 0 ⟨Z,U⟩ U ?_ ?_;exact yB;rintro j hp1;obtain⟨hj1,hj2⟩:=hp1;refine kN 6 (λp4=>?_) λp5=>?_;obtain⟨c1,hc1⟩:=getE (xs:=besides) (m:=j) rV;refine jA 6 Z<|kI j hc1 λw2=>?_;refine kN 11 (λp6=>?_) λp7=>?_;refine kC 12 ?_;refine next (k+1) Z Z ⟨Z,U⟩ U ?_ ?_;omega;refine⟨by omega,?_⟩;rw[hk2,Fc_ hc0,E5];have hb:isBad besides c0=false:=by
   unfold isBad
   rw[hj2,Fc_ hc1]
   first|(simp[*];done)|simp_all
 simp[hb];refine kC 7 ?_;refine next (j+1) Z Z ⟨Z,U⟩ U ?_ ?_;omega;refine⟨by omega,?_⟩;rw[hj2,Fc_ hc1,List.contains_cons];simp[*];refine kA 11 ?_;refine H9_ Z (λhc=>(X1_ _)) Z ⟨(λhc=>hc),trivial⟩ Z Z λ_=>?_;refine kC 4 ?_;refine cnd Z (λh0=>?_) (λh0=>?_);refine kR 12 ?_;have hb:isBad besides c0=true:=by
   exact rG
 unfold keyE;rw[if_neg rV,hk2,Fc_ hc0,E5,hb];rfl;have h1:=orl h0;have p6:=df h1;have h2:=orr h0;have h3:=D1_ h2;refine kC 7 ?_;refine next (k+1) Z Z ⟨Z,U⟩ U ?_ ?_;omega;refine⟨by omega,?_⟩;rw[hk2,Fc_ hc0,E5];have hb:isBad besides c0=false:=by
   exact rG
 simp[hb];refine kR 12 ?_;unfold keyE;exact tQ
theorem words_Key(s:Bs):Fn prog gb 164 [.str s] (.int .i64 (keyE [] s)):=by
 refine kG func164 ntmps164 λw N H hG=>?_;refine kL 8 (Fn.le (words_key _ []) (A_ (ple Z) (A_ Al_ Aq_)) (ple Z) Z) Z Z Z λw0=>kR 4 ?_;rfl
theorem ag2:Ag prog 2 false:=λw=>by kernel_rfl
theorem ag5:Ag prog 5 false:=λw=>by kernel_rfl
theorem ag9:Ag prog 9 false:=λw=>by kernel_rfl
theorem eqg232:prog.eqGuardType prog.depth 232=false:=by kernel_rfl
theorem mixd:prog.follows .mixedOrders=true:=by kernel_rfl
theorem veq232(p q:Pair):∀ (H:Hp) (vs us:List Value),Sims H (Pair.pc p) vs->Sims H (Pair.pc q) us->EqV prog 10000 232 (.agg vs.toArray) (.agg us.toArray) (decide (p=q)):=by
 intro H vs us hv hu;obtain⟨_,_,rfl,v0,v_0⟩:=hv.inv_cons;obtain⟨_,_,rfl,v1,v_1⟩:=v_0.inv_cons;obtain⟨_,_,rfl,v2,v_2⟩:=v_1.inv_cons;obtain⟨_,_,rfl,v3,v_3⟩:=v_2.inv_cons
 cases v_3.inv_nil
 cases v0.inv_str.1;cases v1.inv_int.1;cases v2.inv_int.1;cases v3.inv_str.1
 obtain⟨_,_,rfl,u0,u_0⟩:=hu.inv_cons;obtain⟨_,_,rfl,u1,u_1⟩:=u_0.inv_cons;obtain⟨_,_,rfl,u2,u_2⟩:=u_1.inv_cons;obtain⟨_,_,rfl,u3,u_3⟩:=u_2.inv_cons
 cases u_3.inv_nil
 cases u0.inv_str.1;cases u1.inv_int.1;cases u2.inv_int.1;cases u3.inv_str.1
 exact EqV.to' (K6_ underlying232 rW (Jo_ rX ag9 Z Z (Q8_ underlying9) (Jo_ rX ag5 Z Z (Ds_ underlying5) (Jo_ rX ag2 Z Z (Ds_ underlying2) (Jo_ rX ag9 Z Z (Q8_ underlying9) K5_))))) oL
theorem eq_Pair(a:List Pair)(b:List Pair):Fn prog gb 256 [.sl Pair.pc a, .sl Pair.pc b] (.bool (decide (a=b))):=by
 refine kG func256 ntmps256 λw N H hG=>?_;have a_l:a.length<=140737488355328:=w.1.1;refine kM 15 (λh0=>?_) (λh0=>?_);exact xQ;have h1:=D1_ h0;have p0:=dt h1;refine kA 11 ?_;refine loop (ι:=Nat) [0,1,6,7,8,9,10,11,12] [] (λk=>[(13, .int .i64 (k:Int))]) (λk=>[]) (λk=>k<=a.length /\ decide (a=b) = decide (a.drop k=b.drop k)) (λk=>a.length-k) 0 ⟨Z,U⟩ U ?_ ?_;exact yJ;rintro k hp0;obtain⟨hk1,hk2⟩:=hp0;refine kM 6 (λh2=>?_) (λh2=>?_);have p1:=dt h2;refine kA 11 ?_;refine aN [0,1,2,3,4,5] 9 mixd<|kE [0,1] 7 ?_;obtain⟨c0,hc0⟩:=getE (xs:=a) (m:=k) rV;refine vq 2 (qidx C_ k Z Z Z hc0 Z Z Z Z) Z rW Z λw0=>kE [3,4,5] 3 ?_;obtain⟨c1,hc1⟩:=getE (xs:=b) (m:=k) rV;refine vq 6 (qidx C_ k Z Z Z hc1 Z Z Z Z) Z rW Z λw1=>kE [7] 1 ?_;refine vq 8 (sane Z Z eqg232 (veq232 c0 c1)) Z rW Z λw2=>vD ?_;refine kM 1 (λh3=>?_) (λh3=>?_);exact xS;have h4:=D1_ h3;have p2:=dt h4;refine kC 7 ?_;refine next (k+1) Z Z ⟨Z,U⟩ U ?_ ?_;omega;exact yY;exact xY
theorem head_Same(a:List Pair)(b:List Pair):Fn prog gb 226 [.sl Pair.pc a, .sl Pair.pc b] (.bool (decide (a=b))):=by
 refine kG func226 ntmps226 λw N H hG=>?_;refine kL 9 (eq_Pair _ _) Z Z Z λw0=>kR 4 ?_;rfl
theorem idxF_Pair(s:List Pair)(f:FuncId)(f_fst f_cap:List PV)(f_p:Pair->Bool)(f_h:∀ x,Fn prog gb f (argsP.apL f_fst ((.agg (Pair.pc x))::f_cap)) (.bool (f_p x))):Fn prog gb 272 [.sl Pair.pc s, .fn f f_fst f_cap] (.int .i64 (idxP f_p s)):=by
 refine kG func272 ntmps272 λw N H hG=>?_;have s_l:s.length<=140737488355328:=w.1.1;refine kA 14 ?_;refine loop (ι:=Nat) [0,1,6,7] [] (λk=>[(8, .int .i64 (k:Int))]) (λk=>[]) (λk=>k<=s.length/\idxP f_p s=idxF f_p k (s.drop k)) (λk=>s.length-k) 0 ⟨Z,U⟩ U ?_ ?_;exact yJ;rintro k hp0;obtain⟨hk1,hk2⟩:=hp0;refine kM 6 (λh0=>?_) (λh0=>?_);have p0:=dt h0;obtain⟨c0,hc0⟩:=getE (xs:=s) (m:=k) rV;refine jA 15 Z<|kI k hc0 λw0=>?_;refine kL 1 (f_h c0) Z Z Z λw1=>kM 2 (λh1=>?_) (λh1=>?_);exact vY;refine kC 7 ?_;refine next (k+1) Z Z ⟨Z,U⟩ U ?_ ?_;omega;exact yX;exact xW
theorem head_Find1(p:Pair)(key:Bs):Fn prog gb 273 [.agg (Pair.pc p), .el [.str key] 0] (.bool (decide (p.key=key))):=by
 refine kG func273 ntmps273 λw N H hG=>?_;refine kB 16 [0] λB0=>?_;exact uG
theorem head_Find(h:List Pair)(key:Bs):Fn prog gb 227 [.sl Pair.pc h, .str key] (.tup [.agg (Pair.pc ((Ya_ h key).getD Pair.zero)), .bool ((Ya_ h key).isSome)]):=by
 refine kG func227 ntmps227 λw N H hG=>?_;refine kB 10 [0,1] λB0=>?_;refine freeze (i:=0) (t:=3) Z Z Z Z<|kL 1 (idxF_Pair _ _ _ _ (λz_4:Pair=>decide (z_4.key=key)) (λz_4=>head_Find1 z_4 key)) Z Z Z λw0=>?_;have hix5:=Q4_ (λz_4:Pair=>decide (z_4.key=key)) h;refine kN 10 (λp0=>?_) λp1=>?_;refine kB 9 [] λ_=>?_;refine rt2 Z Z ?_;refine ple ?_;have e:=idxP_neg rY;have e0:Ya_ h key=none:=by unfold Ya_;rw[<- e];congr 1;funext x;exact Wx_ _ _
 rw[e0];rfl;obtain⟨c0,hc0⟩:=getE (xs:=h) (m:=(idxP (λz_4:Pair=>decide (z_4.key=key)) h).toNat) rV;refine jA 6 Z<|q1 (qidx C_ (idxP (λz_4:Pair=>decide (z_4.key=key)) h).toNat Z Z rV hc0 Z Z Z Z) Z λw1=>kB 6 [] λ_=>?_;refine rt2 Z Z ?_;refine ple ?_;have e:=(idxP_get rY hc0).2;have e0:Ya_ h key=some c0:=by unfold Ya_;rw[<- e];congr 1;funext x;exact Wx_ _ _
 rw[e0];rfl
theorem V3_(p:Pair)(ahead:List Pair):Fn prog gb 163 [.agg (Pair.pc p), .sl Pair.pc ahead] (.int .i64 (Fg_ p ahead)):=by
 refine kG func163 ntmps163 λw N H hG=>?_;refine kB 11 [0] λB0=>?_;refine call (Fl_ _) Z Z λw0=>kM 9 (λh0=>?_) (λh0=>?_);have h1:=E2_ h0;exact uA;have h1:=D1_ h0;have p0:=dt h1;refine kL 7 (head_Find _ _) Z Z Z λw1=>kB 18 [1] λB1=>?_;refine cnd Z (λh2=>?_) (λh2=>?_);have p1:=dt h2;exact uA;have p1:=df h2;refine kC 14 ?_;refine cnd Z (λh3=>?_) (λh3=>?_);have h4:=bl h3;have h5:=br h3;exact uA;refine kC 18 ?_;refine cnd Z (λh4=>?_) (λh4=>?_);have h5:=bl h4;have h6:=bl h5;have p2:=dt h6;have h7:=br h5;have h8:=E2_ h7;have h9:=br h4;have h10:=E2_ h9;exact uA;refine kC 14 ?_;refine cnd Z (λh5=>?_) (λh5=>?_);have h6:=bl h5;have p2:=dt h6;have h7:=br h5;have h8:=E2_ h7;refine kA 2 ?_;refine cndT Z h5 ?_;exact uA;refine kC 12 ?_;refine cnd Z (λh6=>?_) (λh6=>?_);have h7:=bl h6;have h8:=E2_ h7;have h9:=br h6;have h10:=E2_ h9;exact uA;refine kM 6 (λh7=>?_) (λh7=>?_);exact uA;refine kR 9 ?_;refine congrArg (PV.int .i64) ?_;simp only[bl1] at *;unfold Fg_;exact zA
theorem Md_(h:List Pair):Fn prog gb 89 [.sl Pair.pc h] (.int .i64 (Ii_ h)):=by
 refine kG func89 ntmps89 λw N H hG=>?_;refine kN 13 (λp0=>?_) λp1=>?_;refine kR 7 ?_;simp[Ii_, *];refine kA 11 ?_;refine loop (ι:=Nat) [0,6,7,8,9,10] [] (λk=>[(11, .int .i64 (k:Int))]) (λk=>[]) (λk=>k<=h.length/\M9_ [] h=M9_ (h.take k) (h.drop k)) (λk=>h.length-k) 0 ⟨Z,U⟩ U ?_ ?_;exact yJ;rintro k hp0;obtain⟨hk1,hk2⟩:=hp0;refine kN 6 (λp2=>?_) λp3=>?_;obtain⟨c0,hc0⟩:=getE (xs:=h) (m:=k) rV;refine jA 7 Z<|kI k hc0 λw0=>?_;refine kB 7 [0] λB0=>?_;refine aN [1,2,3,4,5,6] 6 mixd<|kE [0,1,2] 3 ?_;refine vq 3 (lshi C_ k Z Z Z Z Z (λ_=>rfl) Z rV) Z rW Z λw1=>vC 4 Z (V3_ _ _) Z λw2=>?_;have :=S5_ c0 (h.take k);refine kE [5] 0 ?_;refine vD<|kM 7 (λh0=>?_) (λh0=>?_);have h1:=E2_ h0;have p4:=df h1;refine kR 12 ?_;unfold Ii_;rw[if_neg rV,hk2,Fc_ hc0];simp only[M9_];rw[if_pos rV];have h1:=D1_ h0;have p4:=dt h1;refine kC 7 ?_;refine next (k+1) Z Z ⟨Z,U⟩ U ?_ ?_;omega;refine⟨by omega,?_⟩;rw[hk2,Fc_ hc0,takeE hc0];simp only[M9_];rw[if_neg rV];refine kR 11 ?_;unfold Ii_;exact tQ
theorem Zr_(a:O_)(b:O_):Fn prog gb 160 [.agg (O_.pc a), .agg (O_.pc b)] (.bool (decide (a=b))):=by
 refine kG func160 ntmps160 λw N H hG=>?_;refine kD 40 [0,1] λB0=>?_;refine H9_ Z (λhc=>(head_Same _ _)) Z ⟨(λhc=>hc),(λhc=>hc),trivial⟩ Z Z λ_=>?_;refine kC 12 ?_;refine rt1 Z Z (ple ?_);exact congrArg PV.bool (by rw[B6];first|(simp[O_.eq_iff,and_assoc];done)|(simp[O_.eq_iff];grind))
theorem U1_(yes:Bool):Fn prog gb 201 [.bool yes] (.int .u64 (bitN yes)):=by
 refine kG func201 ntmps201 λw N H hG=>?_;refine kM 11 (λh0=>?_) (λh0=>?_);refine kR 7 ?_;simp only[bitN, *];rfl;refine kR 8 ?_;simp only[bitN, *];rfl
theorem cb135:S_ prog 135:=J_ func135 rW rW
theorem cb141:S_ prog 141:=J_ func141 rW rW
theorem cb144:S_ prog 144:=J_ func144 rW rW
theorem cb211:S_ prog 211:=J_ func211 rW rW
theorem cb217:S_ prog 217:=J_ func217 rW rW
theorem Dk_(i:In)(bytes:Int):Fm prog gb 135 [.int .i64 bytes] 310 (In.pc i) (.int .u64 (((R_ i bytes)).1)) (In.pc (((R_ i bytes)).2)):=by
 refine Sg_ C_ func135 Z ntmps135 Z cb135 Z Z Z Z λw wp b N H hG=>?_;have hb0:=Pj_ i (min bytes 8);refine jA 16 Z<|ef (ecallm (V7_ _ (min bytes 8)) Z Z Z Z Z λw0 w1p=>?_);refine ef (ss2b C_ Z Z Z Z Z Z Z rV Z ?_);refine kA 5 ?_;refine loop (ι:=Nat) [0,1,4,8,9,10,11,12,13] [0] (λk=>[(5, .int .u64 (beN ((Fm_ i (min bytes 8)).1.take k):Int)),(14, .int .i64 (k:Int))]) (λk=>[]) (λk=>k<=(Fm_ i (min bytes 8)).1.length) (λk=>(Fm_ i (min bytes 8)).1.length-k) 0 ⟨Z,Z,U⟩ U ?_ ?_;exact AQ _;rintro k hp0;refine kN 6 (λp0=>?_) λp1=>?_;obtain⟨c0,hc0⟩:=getE (xs:=(Fm_ i (min bytes 8)).1) (m:=k) rV;refine jA 6 Z<|kI k hc0 λw1=>?_;have :=Hq_ ((AA (A9 .u64) (A0 .u64 ((beN ((Fm_ i (min bytes 8)).1.take k):Int)*2 ^ (min (8:Int).toNat (A9 .u64)))) |||AA (A9 .u64) ((c0).toNat:Int)).toNat);refine kC 18 ?_;refine next (k+1) Z Z ⟨(congrArg (PV.int .u64) (num_step hc0 rV)),rfl,trivial⟩ U ?_ ?_;omega;omega;refine kA 12 ?_;refine rm1 Z Z ?_ Z Z Z ?_;refine ple ?_;simp only[R_];rw[List.take_of_length_le rV];exact ples Z
theorem E9_(i:In)(most:Int):Fm prog gb 211 [.int .i64 most] 310 (In.pc i) (.str (((P_ i most)).1)) (In.pc (((P_ i most)).2)):=by
 refine Sg_ C_ func211 Z ntmps211 Z cb211 Z Z Z Z λw wp b N H hG=>?_;refine jA 8 Z<|ef (ecallm (Dk_ _ _) Z Z Z Z Z λw0 w1p=>?_);have :=Ai_ i 2;refine q1 (Ju_ C_ Z Z Z Z (Uk_ rV)) Z λw1=>kN 11 (λp0=>?_) λp1=>?_;refine jA 2 Z<|ef (ecallm (Jm_ _ _) Z Z Z Z Z λw2 w5p=>?_);refine jA 6 Z<|ef (ecallm (V7_ _ _) Z Z Z Z Z λw3 w6p=>?_);refine kA 4 ?_;refine rm1 Z Z ?_ Z Z Z ?_;exact ple (by simp[P_, *]);exact ples (by simp[P_,In.pc, *]);refine jA 6 Z<|ef (ecallm (V7_ _ _) Z Z Z Z Z λw2 w8p=>?_);refine kA 4 ?_;refine rm1 Z Z ?_ Z Z Z ?_;exact ple (by simp[P_, *]);exact ples (by simp[P_,In.pc, *])
theorem in_Left(i:In):Fm prog gb 217 [] 310 (In.pc i) (.int .i64 (i.s.length:Int)) (In.pc i):=by
 refine Sg_ C_ func217 Z ntmps217 Z cb217 Z Z Z Z λw wp b N H hG=>?_;refine jA 9 Z<|q1 (qpeq underlying234 Z Z) Z λw1=>kA 16 ?_;refine rm1 Z Z ?_ Z Z Z ?_;exact ple Z;exact ples Z
theorem Ib_(i:In):Fm prog gb 144 [] 310 (In.pc i) (.int .i64 i.err) (In.pc i):=by
 refine Sg_ C_ func144 Z ntmps144 Z cb144 Z Z Z Z λw wp b N H hG=>?_;refine jA 9 Z<|q1 (qpeq underlying234 Z Z) Z λw1=>kA 15 ?_;refine rm1 Z Z ?_ Z Z Z ?_;exact ple Z;exact ples Z
theorem in_End(i:In):Fm prog gb 141 [] 310 (In.pc i) (.int .i64 (inEnd i)) (In.pc i):=by
 refine Sg_ C_ func141 Z ntmps141 Z cb141 Z Z Z Z λw wp b N H hG=>?_;refine jA 9 Z<|ef (ecallm (Ib_ _) Z Z Z Z Z λw0 w1p=>?_);refine kA 3 ?_;refine callgm Z (λhc=>(in_Left _)) Z Z Z Z ⟨(λhc=>hc),trivial⟩ Z Z λ_=>?_;refine kC 4 ?_;refine cnd Z (λh0=>?_) (λh0=>?_);have h1:=bl h0;have p0:=dt h1;have h2:=br h0;have p1:=dt h2;refine kA 7 ?_;refine rm1 Z Z ?_ Z Z Z ?_;exact rU;exact ples Z;refine jA 5 Z<|ef (ecallm (Ib_ _) Z Z Z Z Z λw1 w7p=>?_);refine kA 4 ?_;refine rm1 Z Z ?_ Z Z Z ?_;exact rU;exact ples Z
theorem Mc_(pattern:Bs)(key:Bs)(hp:pattern.length<4294967281:=by first|omega|(simp;done)|decide)(hk:key.length<4294967281:=by first|omega|(simp;done)|decide):Fn prog gb 275 [.str pattern, .str key] (.bool (mt (D9_ pattern) (D9_ key))):=by
 refine kG func275 ntmps275 λw N H hG=>?_;refine kL 8 (Rr_ _) Z Z Z λw0=>kL 1 (Rr_ _) Z Z Z λw1=>kA 18 ?_;refine loop (ι:=Nat×Nat×Int×Nat) [0,1,5,6,11,12,13,14] [] (λ⟨i,j,b,f⟩=>[(7, .int .i64 (i:Int)),(8, .int .i64 (j:Int)),(9, .int .i64 b),(10, .int .i64 (f:Int))]) (λ⟨i,j,b,f⟩=>[]) (λ⟨i,j,b,f⟩=>MI (D9_ pattern) (D9_ key) i j b f) (λ⟨i,j,b,f⟩=>mmu (D9_ pattern) (D9_ key) j b f) ⟨0,0,(-1),0⟩ ⟨Z,Z,Z,Z,U⟩ U ?_ ?_;exact MI.start _ _;rintro⟨i,j,b,f⟩ hp0;have hmi:=hp0;have hwp:=words_le pattern;have hwk:=words_le key;have :=hmi.hi;have :=hmi.hj;have :=hmi.hf;have :=hmi.hb;have :=hmi.hbi;refine kM 9 (λh0=>?_) (λh0=>?_);have p0:=dt h0;obtain⟨c0,hc0⟩:=getJ (D9_ pattern) i;refine kA 13 ?_;refine q1g [25,26] Z (λhc=>qidx C_ i Z Z Z (hc0 qE) Z Z Z Z) ⟨(λhc=>hc),(λhc=>hc),trivial⟩ Z Z Z λ_=>?_;refine kC 6 ?_;refine cnd Z (λh1=>?_) (λh1=>?_);have h2:=bl h1;have p1:=dt h2;have h3:=br h1;have p2:=dt h3;refine kC 15 ?_;obtain⟨c1,hc1⟩:=getE (xs:=D9_ key) (m:=j) rV;refine next ⟨(i+1),j,((i:Int)+1),j⟩ Z Z ⟨(congrArg (PV.int .i64) rV),rfl,rfl,rfl,trivial⟩ U ?_ ?_;exact mmu_hash hmi rV;exact MI.hash hmi oH;refine kA 1 ?_;refine aN [0,1,2,3,4,5] 23 mixd<|kE [0,1,2,3,4,5,6] 16 ?_;refine vqg 7 [41,42] Z rW Z Z (λhc=>qidx C_ i Z Z Z (hc0 qE) Z Z Z Z) ⟨(λhc=>hc),(λhc=>hc),trivial⟩ Z λ_=>?_;refine kF [8,9,10,11,12] 10 ?_;refine vqg 13 [47,48] Z rW Z Z (λhc=>qidx C_ i Z Z Z (hc0 qE) Z Z Z Z) ⟨(λhc=>hc),(λhc=>hc),trivial⟩ Z λ_=>?_;refine kF [14,15,16] 6 ?_;obtain⟨c1,hc1⟩:=getJ (D9_ key) j;refine vqg 17 [51,52] Z rW Z Z (λhc=>qidx C_ j Z Z Z (hc1 qE) Z Z Z Z) ⟨(λhc=>hc),(λhc=>hc),trivial⟩ Z λ_=>?_;refine kF [18,19,20,21,22] 0 ?_;refine vD<|kM 1 (λh2=>?_) (λh2=>?_)
 . have h3:=bl h2;have p1:=dt h3;refine kC 10 ?_;refine next ⟨(i+1),(j+1),b,f⟩ Z Z ⟨(congrArg (PV.int .i64) rV),rfl,rfl,rfl,trivial⟩ U ?_ ?_
   exact mmu_step rV
   first|exact MI.step hmi (hc0 qE) (hc1 qE) rY (by first|exact .inl rY|exact .inr rY)|exact MI.step hmi (hc0 qE) (hc1 qE) (by simp_all) (by first|(left;simp_all;done)|(right;simp_all;done)|grind)
 refine kM 7 (λh3=>?_) (λh3=>?_);have p1:=dt h3;refine kC 15 ?_;have hbad:∀ w,(D9_ pattern)[i]? = some w->w≠[35]/\w≠[42]/\w≠c1:=by
   intro w hw;obtain⟨hlt,_⟩:=List.getElem?_eq_some_iff.1 hw
   rw[(hc0 qE)] at hw;cases hw
   first|exact⟨by assumption,by assumption,by assumption⟩|(refine⟨?_,?_,?_⟩<;>intro q<;>simp_all)
 refine next ⟨b.toNat,(f+1),b,(f+1)⟩ Z Z ⟨(congrArg (PV.int .i64) rV),rfl,rfl,rfl,trivial⟩ U ?_ ?_;exact mmu_back hmi.hf rV;exact MI.back hmi (hc1 qE) rV hbad;have p1:=df h3;refine kR 11 ?_;have hbad:∀ w,(D9_ pattern)[i]? = some w->w≠[35]/\w≠[42]/\w≠c1:=by
   intro w hw;obtain⟨hlt,_⟩:=List.getElem?_eq_some_iff.1 hw
   rw[(hc0 qE)] at hw;cases hw
   first|exact⟨by assumption,by assumption,by assumption⟩|(refine⟨?_,?_,?_⟩<;>intro q<;>simp_all)
 exact congrArg PV.bool (MI.none hmi (hc1 qE) rV hbad).symm;have p0:=df h0;refine kA 7 ?_;refine loop (ι:=Nat) [0,1,5,6,8,9,10,11,12,13,14,15,16,17,18] [] (λq=>[(7, .int .i64 (q:Int))]) (λq=>[]) (λq=>q<=(D9_ pattern).length/\mt (D9_ pattern) (D9_ key)=mt ((D9_ pattern).drop q) []) (λq=>(D9_ pattern).length-q) i ⟨Z,U⟩ U ?_ ?_;exact⟨by omega,hmi.fin rV⟩;rintro q hp1;obtain⟨hq1,hq2⟩:=hp1;obtain⟨c0,hc0⟩:=getJ (D9_ pattern) q;refine kA 10 ?_;refine q1g [74,75] Z (λhc=>qidx C_ q Z Z Z (hc0 qE) Z Z Z Z) ⟨(λhc=>hc),(λhc=>hc),trivial⟩ Z Z Z λ_=>?_;refine kC 5 ?_;refine cnd Z (λh1=>?_) (λh1=>?_);have h2:=bl h1;have p1:=dt h2;have h3:=br h1;have p2:=dt h3;refine kC 9 ?_;refine next (q+1) Z Z ⟨Z,U⟩ U ?_ ?_;omega;exact⟨by omega,mt_end hq2 oH⟩;refine kR 15 ?_;refine congrArg PV.bool ?_;rw[hq2];by_cases hql:q<(D9_ pattern).length;rw[mt_endN (hc0 qE) (by first|assumption|simp_all)];rw[decide_eq_false_iff_not];omega;have hqe:q=(D9_ pattern).length:=by omega
 subst hqe;rw[List.drop_length];simp[mt]
theorem words_Pattern(s:Bs):Fn prog gb 254 [.str s] (.int .i64 (keyE patB s)):=by
 refine kG func254 ntmps254 λw N H hG=>?_;refine jA 8 Z<|ef (bsl 0 strc [[42],[35]] C_ Z Z Z Z Z (λ_=>rfl) Z rX rX Z λu0=>?_);refine ef (O7_ 0 Z (words_key _ _) Z Z Z λw0=>?_);refine kR 4 ?_;rfl
theorem cb212:S_ prog 212:=J_ func212 rW rW
theorem cb266:S_ prog 266:=J_ func266 rW rW
theorem Nv_(h:List Pair):Fn prog gb 77 [.sl Pair.pc h] (.tup [.str (Cp_ h), .int .i64 (Ii_ h)]):=by
 refine kG func77 ntmps77 λw N H hG=>?_;have h_l:h.length<=140737488355328:=w.1.1;refine kL 10 (Md_ _) Z Z Z λw0=>kM 9 (λh0=>?_) (λh0=>?_);have h1:=E2_ h0;have p0:=df h1;refine kA 9 ?_;refine rt2 Z Z ?_;refine ple ?_;unfold Cp_;rw[if_neg rV];have h1:=D1_ h0;have p0:=dt h1;refine jA 7 Z<|q1 (Ju_ C_ Z Z Z Z (L4_ rV)) Z λw1=>call (out_Num (⟨[],0⟩:Out) _ _ qA) Z Z λw2=>?_;have :=Q_ (⟨[],0⟩:Out) (h.length:Int) 1;refine kB 13 [0] λB0=>?_;refine loop (ι:=Nat×Out) [0,2,3,4,5,8,9,10,11,13,14,15,16,17,18,19] [] (λ⟨k,o⟩=>[(20, .int .i64 (k:Int))]) (λ⟨k,o⟩=>[(0, .box (B0 0) 161 [.str o.s, .int .i64 o.err])]) (λ⟨k,o⟩=>k<=h.length/\h.foldl Iy_ (B_ ⟨[],0⟩ h.length 1)=(h.drop k).foldl Iy_ o/\o.s.length<=8+110*k) (λ⟨k,o⟩=>h.length-k) ⟨0,(B_ (⟨[],0⟩:Out) (h.length:Int) 1)⟩ ⟨Z,U⟩ ⟨Z,U⟩ ?_ ?_;exact⟨Nat.zero_le _,rfl,by simp at *;omega⟩;rintro⟨k,o⟩ hp0;obtain⟨hk1,hk2,hk3⟩:=hp0;have hok:=M8_ (h:=h) rY;refine kN 6 (λp1=>?_) λp2=>?_
 . obtain⟨c0,hc0⟩:=getE (xs:=h) (m:=k) rV;have hpk:=hok.2 c0 (A2 hc0);refine jA 6 Z<|kI k hc0 λw3=>?_;refine kB 6 [1] λB1=>?_;refine aN [2,3,4,5,6,7] 9 mixd<|kE [0,1,2] 6 ?_;refine vC 3 Z (En_ _ _) Z λw4=>?_;have :=Aw_ o c0.key;refine kE [4,5,6] 2 ?_;refine vC 7 Z (out_Num _ _ _ qA) Z λw5=>?_;have :=Q_ (H_ o c0.key) c0.kind 1;refine vT 8 Z (sA C_ ?_);refine vD<|kN 14 (λp3=>?_) λp4=>?_
   . refine kA 5 ?_;refine call (out_Num _ _ _ qA) Z Z λw6=>?_;have :=Q_ (B_ (H_ o c0.key) c0.kind 1) (A0 .u64 c0.num) 8;refine kD 9 [] λ_=>?_;refine next ⟨(k+1),(B_ (B_ (H_ o c0.key) c0.kind 1) (A0 .u64 c0.num) 8)⟩ Z Z ⟨Z,U⟩ ⟨Z,U⟩ ?_ ?_
     exact sH
     have e:(B_ (B_ (H_ o c0.key) c0.kind 1) (A0 .u64 c0.num) 8)=Iy_ o c0:=by unfold Iy_;first|(rw[if_pos rV];done)|(rw[if_neg rV,if_pos rV];done)|(rw[if_neg rV,if_neg rV,if_pos rV];done)|(rw[if_neg rV,if_neg rV,if_neg rV];done)
     exact sI
   refine kN 6 (λp5=>?_) λp6=>?_
   . refine kL 4 (En_ _ _) Z Z Z λw6=>?_;have :=Aw_ (B_ (H_ o c0.key) c0.kind 1) c0.text;refine kD 9 [] λ_=>?_;refine next ⟨(k+1),(H_ (B_ (H_ o c0.key) c0.kind 1) c0.text)⟩ Z Z ⟨Z,U⟩ ⟨Z,U⟩ ?_ ?_
     exact sH
     have e:(H_ (B_ (H_ o c0.key) c0.kind 1) c0.text)=Iy_ o c0:=by unfold Iy_;first|(rw[if_pos rV];done)|(rw[if_neg rV,if_pos rV];done)|(rw[if_neg rV,if_neg rV,if_pos rV];done)|(rw[if_neg rV,if_neg rV,if_neg rV];done)
     exact sI
   refine kN 6 (λp7=>?_) λp8=>?_
   . refine kA 5 ?_;refine call (out_Num _ _ _ qA) Z Z λw6=>?_;have :=Q_ (B_ (H_ o c0.key) c0.kind 1) (A0 .u64 c0.num) 1;refine kD 9 [] λ_=>?_;refine next ⟨(k+1),(B_ (B_ (H_ o c0.key) c0.kind 1) (A0 .u64 c0.num) 1)⟩ Z Z ⟨Z,U⟩ ⟨Z,U⟩ ?_ ?_
     exact sH
     have e:(B_ (B_ (H_ o c0.key) c0.kind 1) (A0 .u64 c0.num) 1)=Iy_ o c0:=by unfold Iy_;first|(rw[if_pos rV];done)|(rw[if_neg rV,if_pos rV];done)|(rw[if_neg rV,if_neg rV,if_pos rV];done)|(rw[if_neg rV,if_neg rV,if_neg rV];done)
     exact sI
   refine kC 8 ?_;refine next ⟨(k+1),(B_ (H_ o c0.key) c0.kind 1)⟩ Z Z ⟨Z,U⟩ ⟨Z,U⟩ ?_ ?_
   exact sH
   have e:(B_ (H_ o c0.key) c0.kind 1)=Iy_ o c0:=by unfold Iy_;first|(rw[if_pos rV];done)|(rw[if_neg rV,if_pos rV];done)|(rw[if_neg rV,if_neg rV,if_pos rV];done)|(rw[if_neg rV,if_neg rV,if_neg rV];done)
   exact sI
 refine kL 8 (C3_ _) Z Z Z λw3=>kA 5 ?_;refine rt2 Z Z ?_;refine ple ?_;unfold Cp_;rw[if_pos rY];rw[AB rV,DS] at hk2;rw[show V2_ h=o from hk2];have e0:Ii_ h=0:=by assumption
 rw[e0]
theorem head_one(i:In):Fm prog gb 266 [] 310 (In.pc i) (.agg (Pair.pc (((Bp_ i)).1))) (In.pc (((Bp_ i)).2)):=by
 refine Sg_ C_ func266 Z ntmps266 Z cb266 Z Z Z Z λw wp b N H hG=>?_;refine kB 8 [1] λB0=>?_;refine ef (ecallm (E9_ _ _) Z Z Z Z Z λw0 w3p=>?_);have :=Ak_ i 16;generalize hg0:P_ i 16=g0 at *;refine jA 1 Z<|ef (ecallm (Dk_ _ _) Z Z Z Z Z λw1 w6p=>?_);have :=Ai_ ((g0).2) 1;generalize hg1:R_ ((g0).2) 1=g1 at *;refine q1 (Ju_ C_ Z Z Z Z (Uy_ rV)) Z λw2=>kB 19 [2] λB1=>?_;refine cn Z (λp0=>?_) λp1=>?_
 . refine jA 2 Z<|ef (ecallm (Dk_ _ _) Z Z Z Z Z λw3 w14p=>?_);have :=Ai_ ((g1).2) 8;generalize hg2:R_ ((g1).2) 8=g2 at *;refine kB 13 [] λ_=>?_;refine rm1 Z Z ?_ Z Z Z ?_;have e:Bp_ i=((⟨(g0).1,(g1).1,(A0 .i64 ((g2).1)),[]⟩:Pair),((g2).2)):=by unfold Bp_;simp only;(repeat first|simp only[hg0,hg1,hg2]|rw[if_pos rV]|rw[if_neg rV]);all_goals first|rfl|(rw[G0_ rV rV];done)|(simp[*];done)|(rw[G0_ rV rV];simp[*];done)
   exact zL
   have e:Bp_ i=((⟨(g0).1,(g1).1,(A0 .i64 ((g2).1)),[]⟩:Pair),((g2).2)):=by unfold Bp_;simp only;(repeat first|simp only[hg0,hg1,hg2]|rw[if_pos rV]|rw[if_neg rV]);all_goals first|rfl|(rw[G0_ rV rV];done)|(simp[*];done)|(rw[G0_ rV rV];simp[*];done)
   exact zN
 refine kN 6 (λp2=>?_) λp3=>?_
 . refine jA 2 Z<|ef (ecallm (E9_ _ _) Z Z Z Z Z λw3 w21p=>?_);have :=Ak_ ((g1).2) 64;generalize hg2:P_ ((g1).2) 64=g2 at *;refine kB 12 [] λ_=>?_;refine rm1 Z Z ?_ Z Z Z ?_;have e:Bp_ i=((⟨(g0).1,(g1).1,0,(g2).1⟩:Pair),((g2).2)):=by unfold Bp_;simp only;(repeat first|simp only[hg0,hg1,hg2]|rw[if_pos rV]|rw[if_neg rV]);all_goals first|rfl|(rw[G0_ rV rV];done)|(simp[*];done)|(rw[G0_ rV rV];simp[*];done)
   exact zL
   have e:Bp_ i=((⟨(g0).1,(g1).1,0,(g2).1⟩:Pair),((g2).2)):=by unfold Bp_;simp only;(repeat first|simp only[hg0,hg1,hg2]|rw[if_pos rV]|rw[if_neg rV]);all_goals first|rfl|(rw[G0_ rV rV];done)|(simp[*];done)|(rw[G0_ rV rV];simp[*];done)
   exact zN
 refine kN 6 (λp4=>?_) λp5=>?_
 . refine jA 2 Z<|ef (ecallm (Dk_ _ _) Z Z Z Z Z λw3 w28p=>?_);have :=Ai_ ((g1).2) 1;generalize hg2:R_ ((g1).2) 1=g2 at *;refine q1 (Ju_ C_ Z Z Z Z (Uk_ rV)) Z λw4=>kB 12 [] λ_=>?_;refine rm1 Z Z ?_ Z Z Z ?_;have e:Bp_ i=((⟨(g0).1,(g1).1,(g2).1,[]⟩:Pair),((g2).2)):=by unfold Bp_;simp only;(repeat first|simp only[hg0,hg1,hg2]|rw[if_pos rV]|rw[if_neg rV]);all_goals first|rfl|(rw[G0_ rV rV];done)|(simp[*];done)|(rw[G0_ rV rV];simp[*];done)
   exact zL
   have e:Bp_ i=((⟨(g0).1,(g1).1,(g2).1,[]⟩:Pair),((g2).2)):=by unfold Bp_;simp only;(repeat first|simp only[hg0,hg1,hg2]|rw[if_pos rV]|rw[if_neg rV]);all_goals first|rfl|(rw[G0_ rV rV];done)|(simp[*];done)|(rw[G0_ rV rV];simp[*];done)
   exact zN
 refine jA 2 Z<|ef (ecallm (Jm_ _ _) Z Z Z Z Z λw3 w34p=>?_);refine kB 10 [] λ_=>?_;refine rm1 Z Z ?_ Z Z Z ?_;have e:Bp_ i=((⟨(g0).1,(g1).1,0,[]⟩:Pair),(Bt_ ((g1).2) 8)):=by unfold Bp_;simp only;(repeat first|simp only[hg0,hg1]|rw[if_pos rV]|rw[if_neg rV]);all_goals first|rfl|(rw[G0_ rV rV];done)|(simp[*];done)|(rw[G0_ rV rV];simp[*];done)
 exact zL;have e:Bp_ i=((⟨(g0).1,(g1).1,0,[]⟩:Pair),(Bt_ ((g1).2) 8)):=by unfold Bp_;simp only;(repeat first|simp only[hg0,hg1]|rw[if_pos rV]|rw[if_neg rV]);all_goals first|rfl|(rw[G0_ rV rV];done)|(simp[*];done)|(rw[G0_ rV rV];simp[*];done)
 exact zN
theorem Si_(i:In):Fm prog gb 212 [] 310 (In.pc i) (.sl Pair.pc (((Bx_ i)).1)) (In.pc (((Bx_ i)).2)):=by
 refine Sg_ C_ func212 Z ntmps212 Z cb212 Z Z Z Z λw wp b N H hG=>?_;refine jA 8 Z<|ef (ecallm (Dk_ _ _) Z Z Z Z Z λw0 w1p=>?_);have :=Ai_ i 1;generalize hg0:R_ i 1=g0 at *;refine q1 (Ju_ C_ Z Z Z Z (Uk_ rV)) Z λw1=>kN 10 (λp0=>?_) λp1=>?_;refine jA 2 Z<|ef (ecallm (Jm_ _ _) Z Z Z Z Z λw2 w7p=>?_);refine kA 15 ?_;refine sw_own (t:=4) (k:=4) (e:=232) 1 Pair.pc Z Z ?_;refine loop (ι:=Nat×(List Pair)×Value×In) [0,3,6,7,8,9,10,11,13] [] (λ⟨k,h,u_h,j⟩=>[(4, .osl 1),(14, .int .i64 (k:Int))]) (λ⟨k,h,u_h,j⟩=>[(1, .arr u_h 4 232 Pair.pc h),(0, .box b 310 [.str j.s, .int .i64 j.err])]) (λ⟨k,h,u_h,j⟩=>k<=((g0).1).toNat/\Bx_ i=Jv_ (((g0).1).toNat-k) j h/\h.length<=k) (λ⟨k,h,u_h,j⟩=>((g0).1).toNat-k) ⟨0,[],(.slice none 0 0),(Bt_ ((g0).2) 6)⟩ ⟨Z,Z,U⟩ ⟨Z,Z,U⟩ ?_ ?_;exact yC;rintro⟨k,h,u_h,j⟩ hp0;obtain⟨hk1,hk2,hk3⟩:=hp0;refine kN 6 (λp2=>?_) λp3=>?_;refine jA 7 Z<|ef (ecallm (head_one _) Z Z Z Z Z λw3 w11p=>?_);generalize hg1:Bp_ j=g1 at *;refine kB 8 [2] λB0=>?_;refine ef (ecallm (Ib_ _) Z Z Z Z Z λw4 w16p=>?_);refine kM 3 (λh0=>?_) (λh0=>?_);have p4:=dt h0;refine jA 4 Z<|ef (O7_ 1 Z (V3_ _ _) Z Z Z λw5=>?_);have :=S5_ ((g1).1) h;generalize hg2:Fg_ ((g1).1) h=g2 at *;refine ef (ecallm (Jm_ _ _) Z Z Z Z Z λw6 w22p=>?_);refine jA 6 Z<|ef (ecallm (Ib_ _) Z Z Z Z Z λw7 w23p=>?_);refine kM 3 (λh1=>?_) (λh1=>?_);have h2:=E2_ h1;have p5:=df h2;refine kA 12 ?_;refine rm1 Z Z ?_ Z Z Z ?_;have e:Bx_ i=([],(Bt_ ((g1).2) g2)):=by
   exact tN
 exact Kw_ qP;have e:Bx_ i=([],(Bt_ ((g1).2) g2)):=by
   exact tN
 exact zN;have h2:=D1_ h1;have p5:=dt h2;refine jA 5 Z<|ef (bsl 3 Pair.pc [((g1).1)] C_ Z Z Z Z Z (λ_=>rfl) Z rX rX Z λu0=>?_);refine ef (app C_ [((g1).1)] Z Z Z Z Z Z Z Z Z (src_o Z Z) qC Z λu1=>?_);refine kC 8 ?_;refine next ⟨(k+1),(h++[((g1).1)]),(u1),(Bt_ ((g1).2) g2)⟩ Z Z ⟨Z,Z,U⟩ ⟨Z,Z,U⟩ ?_ ?_;exact sH;exact uZ;have p4:=df h0;refine jA 6 Z<|ef (ecallm (Ib_ _) Z Z Z Z Z λw5 w32p=>?_);refine kA 3 ?_;refine cndT Z (by rw[h0]<;>rfl) ?_;refine kA 12 ?_;refine rm1 Z Z ?_ Z Z Z ?_;have e:Bx_ i=([],((g1).2)):=by
   exact tM
 exact Kw_ qP;have e:Bx_ i=([],((g1).2)):=by
   exact tM
 exact zN;refine kA 11 ?_;refine Kp_ 1 Z ?_;refine kA 1 ?_;refine rm1 Z Z ?_ Z Z Z ?_;have e:Bx_ i=(h,j):=by
   exact tO
 exact ple qP;have e:Bx_ i=(h,j):=by
   exact tO
 exact zN;refine kA 15 ?_;refine sw_own (t:=4) (k:=4) (e:=232) 1 Pair.pc Z Z ?_;refine loop (ι:=Nat×(List Pair)×Value×In) [0,3,6,7,8,9,10,13] [] (λ⟨k,h,u_h,j⟩=>[(4, .osl 1),(14, .int .i64 (k:Int))]) (λ⟨k,h,u_h,j⟩=>[(1, .arr u_h 4 232 Pair.pc h),(0, .box b 310 [.str j.s, .int .i64 j.err])]) (λ⟨k,h,u_h,j⟩=>k<=((g0).1).toNat/\Bx_ i=Jv_ (((g0).1).toNat-k) j h/\h.length<=k) (λ⟨k,h,u_h,j⟩=>((g0).1).toNat-k) ⟨0,[],(.slice none 0 0),((g0).2)⟩ ⟨Z,Z,U⟩ ⟨Z,Z,U⟩ ?_ ?_;exact yC;rintro⟨k,h,u_h,j⟩ hp0;obtain⟨hk1,hk2,hk3⟩:=hp0;refine kN 6 (λp2=>?_) λp3=>?_;refine jA 7 Z<|ef (ecallm (head_one _) Z Z Z Z Z λw2 w38p=>?_);generalize hg1:Bp_ j=g1 at *;refine kB 8 [2] λB0=>?_;refine ef (ecallm (Ib_ _) Z Z Z Z Z λw3 w43p=>?_);refine kM 3 (λh0=>?_) (λh0=>?_);have p4:=dt h0;refine jA 4 Z<|ef (O7_ 1 Z (V3_ _ _) Z Z Z λw4=>?_);have :=S5_ ((g1).1) h;generalize hg2:Fg_ ((g1).1) h=g2 at *;refine ef (ecallm (Jm_ _ _) Z Z Z Z Z λw5 w49p=>?_);refine jA 6 Z<|ef (ecallm (Ib_ _) Z Z Z Z Z λw6 w50p=>?_);refine kM 3 (λh1=>?_) (λh1=>?_);have h2:=E2_ h1;have p5:=df h2;refine kA 12 ?_;refine rm1 Z Z ?_ Z Z Z ?_;have e:Bx_ i=([],(Bt_ ((g1).2) g2)):=by
   exact tN
 exact Kw_ qP;have e:Bx_ i=([],(Bt_ ((g1).2) g2)):=by
   exact tN
 exact zN;have h2:=D1_ h1;have p5:=dt h2;refine jA 5 Z<|ef (bsl 3 Pair.pc [((g1).1)] C_ Z Z Z Z Z (λ_=>rfl) Z rX rX Z λu0=>?_);refine ef (app C_ [((g1).1)] Z Z Z Z Z Z Z Z Z (src_o Z Z) qC Z λu1=>?_);refine kC 8 ?_;refine next ⟨(k+1),(h++[((g1).1)]),(u1),(Bt_ ((g1).2) g2)⟩ Z Z ⟨Z,Z,U⟩ ⟨Z,Z,U⟩ ?_ ?_;exact sH;exact uZ;have p4:=df h0;refine jA 6 Z<|ef (ecallm (Ib_ _) Z Z Z Z Z λw4 w59p=>?_);refine kA 3 ?_;refine cndT Z (by rw[h0]<;>rfl) ?_;refine kA 12 ?_;refine rm1 Z Z ?_ Z Z Z ?_;have e:Bx_ i=([],((g1).2)):=by
   exact tM
 exact Kw_ qP;have e:Bx_ i=([],((g1).2)):=by
   exact tM
 exact zN;refine kA 11 ?_;refine Kp_ 1 Z ?_;refine kA 1 ?_;refine rm1 Z Z ?_ Z Z Z ?_;have e:Bx_ i=(h,j):=by
   exact tO
 exact ple qP;have e:Bx_ i=(h,j):=by
   exact tO
 exact zN
theorem sz90:Sz prog 90 1:=λw=>by kernel_rfl
theorem crc_Step(r:Int)(b:Int):Fn prog gb 224 [.int .u32 r, .int .u8 b] (.int .u32 (Pg_ r b)):=by
 refine kG func224 ntmps224 λw N H hG=>?_;have :=X2_ ((AA (A9 .u32) r ^^^ AA (A9 .u32) b).toNat);refine kA 21 ?_;refine loop (ι:=Nat×Int) [1,4,5,6,7,8] [] (λ⟨k,q⟩=>[(0, .int .u32 q),(9, .int .i64 (k:Int))]) (λ⟨k,q⟩=>[]) (λ⟨k,q⟩=>k<=2/\crcIt (2-k) q=Pg_ r b) (λ⟨k,q⟩=>2-k) ⟨0,(xor32 r b)⟩ ⟨Z,Z,U⟩ U ?_ ?_;exact yJ;rintro⟨k,q⟩ hp0;obtain⟨hk1,hk2⟩:=hp0;refine kN 6 (λp0=>?_) λp1=>?_;have :=X2_ ((AA (A9 .u32) q &&& AA (A9 .u32) 15).toNat);refine kC 9 ?_;refine q1 (qgtab (m:=((A0 .u32 ((AA (A9 .u32) q &&& AA (A9 .u32) 15).toNat))).toNat) laidT rX (λ_ h=>gbCrc h) Z underlying360 sz90 rV (and15_lt _) Z) Z λw0=>?_;have :=X2_ ((AA (A9 .u32) (FY q (2 ^ (min (4:Int).toNat (A9 .u32)))) ^^^ AA (A9 .u32) (laidT.getD ((A0 .u32 ((AA (A9 .u32) q &&& AA (A9 .u32) 15).toNat))).toNat 0)).toNat);refine kC 10 ?_;refine next ⟨(k+1),(crc1 q)⟩ Z Z ⟨Z,Z,U⟩ U ?_ ?_;exact zB
 try simp only[]
 refine⟨by omega,?_⟩;rw[<- hk2,show 2-k=(2-(k+1))+1 by omega];rfl;refine kR 12 ?_;obtain rfl :k=2:=by omega
 exact congrArg (PV.int .u32) hk2
theorem Vr_(parts:List Bs):Fn prog gb 151 [.sl strc parts] (.int .u32 (K2_ parts)):=by
 refine kG func151 ntmps151 λw N H hG=>?_;have parts_l:parts.length<=140737488355328:=w.1.1;refine kA 19 ?_;refine loop (ι:=Nat×Int) [0,2,7,8] [] (λ⟨k,r⟩=>[(3, .int .u32 r),(9, .int .i64 (k:Int))]) (λ⟨k,r⟩=>[]) (λ⟨k,r⟩=>k<=parts.length/\parts.foldl crcB 4294967295=(parts.drop k).foldl crcB r/\0<=r/\r<=4294967295) (λ⟨k,r⟩=>parts.length-k) ⟨0,4294967295⟩ ⟨Z,Z,U⟩ U ?_ ?_;exact⟨Nat.zero_le _,rfl,by omega,by omega⟩;rintro⟨k,r⟩ hp0;obtain⟨hk1,hk2,hk3,hk4⟩:=hp0;refine kN 6 (λp0=>?_) λp1=>?_;obtain⟨c4,hc0⟩:=getE (xs:=parts) (m:=k) rV;have c4_l:c4.length<=9223372036854775807:=(w.1.2 c4 (A2 hc0)).1;refine jA 6 Z<|kI k hc0 λw0=>?_;refine kA 12 ?_;refine loop (ι:=Nat×Int) [0,2,5,7,8,9,10,11,12,13,14] [] (λ⟨j,q⟩=>[(3, .int .u32 q),(15, .int .i64 (j:Int))]) (λ⟨j,q⟩=>[]) (λ⟨j,q⟩=>j<=c4.length/\c4.foldl (λq c=>Pg_ q c.toNat) r=(c4.drop j).foldl (λq c=>Pg_ q c.toNat) q/\0<=q/\q<=4294967295) (λ⟨j,q⟩=>c4.length-j) ⟨0,r⟩ ⟨Z,Z,U⟩ U ?_ ?_;exact⟨Nat.zero_le _,rfl,by omega,by omega⟩;rintro⟨j,q⟩ hp1;obtain⟨hj1,hj2,hj3,hj4⟩:=hp1;refine kN 6 (λp2=>?_) λp3=>?_;have :=u8r (c4.getD j 0);refine jA 14 Z<|q1 (sidx C_ j Z Z Z Z Z rV) Z λw1=>call (crc_Step _ _) Z Z λw2=>?_;have :=crcStep_r q ((c4.getD j 0).toNat:Int);refine kC 8 ?_;refine next ⟨(j+1),(Pg_ q (c4.getD j 0).toNat)⟩ Z Z ⟨Z,Z,U⟩ U ?_ ?_;exact zB;refine⟨by omega,?_,by omega,by omega⟩;rw[hj2,Ll_ (k:=j) rV,BG];refine kC 10 ?_;refine next ⟨(k+1),q⟩ Z Z ⟨Z,Z,U⟩ U ?_ ?_;exact zB;refine⟨by omega,?_,by omega,by omega⟩;rw[hk2,Fc_ hc0,BG];rw[AB rV,DS] at hj2;rw[show crcB r c4=q from hj2];refine kR 13 ?_;rw[AB rV,DS] at hk2;unfold K2_;rw[hk2]
theorem ag38:Ag prog 38 false:=λw=>by kernel_rfl
theorem eqg40:prog.eqGuardType prog.depth 40=false:=by kernel_rfl
theorem eqg42:prog.eqGuardType prog.depth 42=false:=by kernel_rfl
theorem veq40(p q:W_):∀ (H:Hp) (vs us:List Value),Sims H (W_.pc p) vs->Sims H (W_.pc q) us->EqV prog 10000 40 (.agg vs.toArray) (.agg us.toArray) (decide (p=q)):=by
 intro H vs us hv hu;obtain⟨_,_,rfl,v0,v_0⟩:=hv.inv_cons;obtain⟨_,_,rfl,v1,v_1⟩:=v_0.inv_cons;obtain⟨_,_,rfl,v2,v_2⟩:=v_1.inv_cons
 cases v_2.inv_nil
 cases v0.inv_str.1;cases v1.inv_int.1;cases v2.inv_str.1
 obtain⟨_,_,rfl,u0,u_0⟩:=hu.inv_cons;obtain⟨_,_,rfl,u1,u_1⟩:=u_0.inv_cons;obtain⟨_,_,rfl,u2,u_2⟩:=u_1.inv_cons
 cases u_2.inv_nil
 cases u0.inv_str.1;cases u1.inv_int.1;cases u2.inv_str.1
 exact EqV.to' (K6_ underlying40 rW (Jo_ rX ag9 Z Z (Q8_ underlying9) (Jo_ rX ag5 Z Z (Ds_ underlying5) (Jo_ rX ag9 Z Z (Q8_ underlying9) K5_)))) oI
theorem veq42(p q:T_):∀ (H:Hp) (vs us:List Value),Sims H (T_.pc p) vs->Sims H (T_.pc q) us->EqV prog 10000 42 (.agg vs.toArray) (.agg us.toArray) (decide (p=q)):=by
 intro H vs us hv hu;obtain⟨_,_,rfl,v0,v_0⟩:=hv.inv_cons;obtain⟨_,_,rfl,v1,v_1⟩:=v_0.inv_cons;obtain⟨_,_,rfl,v2,v_2⟩:=v_1.inv_cons;obtain⟨_,_,rfl,v3,v_3⟩:=v_2.inv_cons
 cases v_3.inv_nil
 cases v0.inv_str.1;cases v1.inv_int.1;cases v2.inv_int.1;cases v3.inv_str.1
 obtain⟨_,_,rfl,u0,u_0⟩:=hu.inv_cons;obtain⟨_,_,rfl,u1,u_1⟩:=u_0.inv_cons;obtain⟨_,_,rfl,u2,u_2⟩:=u_1.inv_cons;obtain⟨_,_,rfl,u3,u_3⟩:=u_2.inv_cons
 cases u_3.inv_nil
 cases u0.inv_str.1;cases u1.inv_int.1;cases u2.inv_int.1;cases u3.inv_str.1
 exact EqV.to' (K6_ underlying42 rW (Jo_ rX ag9 Z Z (Q8_ underlying9) (Jo_ rX ag38 Z Z (Ds_ underlying38) (Jo_ rX ag38 Z Z (Ds_ underlying38) (Jo_ rX ag9 Z Z (Q8_ underlying9) K5_))))) oL
theorem La_(m:Mail):Fn prog gb 90 [.agg (Mail.pc m)] (.int .i64 (Ja_ m)):=by
 refine kG func90 ntmps90 λw N H hG=>?_;refine kB 11 [0] λB0=>?_;refine call (Fl_ _) Z Z λw0=>kM 9 (λh0=>?_) (λh0=>?_);have h1:=E2_ h0;exact rR;have h1:=D1_ h0;have p0:=dt h1;refine kL 7 (words_Key _) Z Z Z λw1=>kM 9 (λh2=>?_) (λh2=>?_);have h3:=E2_ h2;exact rR;have h3:=D1_ h2;have p1:=dt h3;refine kL 7 (Md_ _) Z Z Z λw2=>kM 11 (λh4=>?_) (λh4=>?_);have h5:=E2_ h4;refine kR 9 ?_;exact wG;have h5:=D1_ h4;have p2:=dt h5;refine kM 9 (λh6=>?_) (λh6=>?_);have p3:=dt h6;exact rR;have p3:=df h6;refine kM 8 (λh7=>?_) (λh7=>?_);have p4:=dt h7;exact rR;have p4:=df h7;refine kR 9 ?_;exact wG
theorem N2_(m:Mail):Fn prog gb 156 [.agg (Mail.pc m)] (.tup [.str (Dj_ m), .int .i64 (Ja_ m)]):=by
 refine kG func156 ntmps156 λw N H hG=>?_;have m_w:=Mail.pwf w.1;have m_w':=m_w;simp only[Mail.wf] at m_w';refine kB 11 [0] λB0=>?_;refine call (La_ _) Z Z λw0=>?_;have :=Pr_ m;have hmo3:=λh=>Ol_ (m:=m) h;refine kM 9 (λh0=>?_) (λh0=>?_);have h1:=E2_ h0;have p0:=df h1;refine kA 9 ?_;refine rt2 Z Z ?_;refine ple ?_;simp[Dj_,Xa_, *];have h1:=D1_ h0;have p0:=dt h1;refine kL 6 (Nv_ _) Z Z Z λw1=>?_;have :=Gc_ m.head;refine kA 8 ?_;refine aN [1,2,3,4,5,6] 17 mixd<|kE [0,1,2] 14 ?_;refine vC 3 Z (out_Num (⟨[],0⟩:Out) _ _ qA) Z λw2=>?_;have nl0:(⟨[],0⟩:Out).s.length=0:=rfl;have :=Q_ (⟨[],0⟩:Out) m.id 8;refine kE [4,5] 11 ?_;refine vC 6 Z (En_ _ _) Z λw3=>?_;have :=Aw_ (B_ (⟨[],0⟩:Out) m.id 8) m.Bl_;refine kE [7,8] 8 ?_;refine vC 9 Z (En_ _ _) Z λw4=>?_;have :=Aw_ (H_ (B_ (⟨[],0⟩:Out) m.id 8) m.Bl_) m.key;refine kE [10] 6 ?_;refine vC 11 Z (J7_ _ _) Z λw5=>?_;have :=Ed_ (H_ (H_ (B_ (⟨[],0⟩:Out) m.id 8) m.Bl_) m.key) (Cp_ m.head);refine kE [12,13] 3 ?_;refine vC 14 Z (En_ _ _) Z λw6=>?_;have :=Aw_ (Y_ (H_ (H_ (B_ (⟨[],0⟩:Out) m.id 8) m.Bl_) m.key) (Cp_ m.head)) m.body;refine vE 15 Z (aL C_ 1 λb0=>?_);refine vT 16 Z (sA C_ ?_);refine vD<|kA 2 ?_;refine aN [2,3,4,5,6,7] 11 mixd<|kE [0,1,2] 8 ?_;refine vC 3 Z (out_Num _ _ _ qA) Z λw7=>?_;have :=Q_ (H_ (Y_ (H_ (H_ (B_ (⟨[],0⟩:Out) m.id 8) m.Bl_) m.key) (Cp_ m.head)) m.body) m.due 8;refine kE [4,5,6] 4 ?_;refine vC 7 Z (out_Num _ _ _ qA) Z λw8=>?_;have :=Q_ (B_ (H_ (Y_ (H_ (H_ (B_ (⟨[],0⟩:Out) m.id 8) m.Bl_) m.key) (Cp_ m.head)) m.body) m.due 8) m.hops 1;refine vC 8 Z (C3_ _) Z λw9=>kE [9,10] 0 ?_;refine vD<|kA 2 ?_;refine rt2 Z Z ?_;refine ple ?_;simp[Dj_,Xa_, *]
theorem Yq_(s:Bs):Fn prog gb 88 [.str s] (.int .i64 (O3_ s)):=by
 refine kG func88 ntmps88 λw N H hG=>?_;refine kN 12 (λp0=>?_) λp1=>?_;refine kR 7 ?_;simp[O3_, *];refine kL 5 (Fl_ _) Z Z Z λw0=>kR 4 ?_;simp[O3_, *]
theorem Nr_(b:Bool)(e:Int):Fn prog gb 87 [.bool b, .int .i64 e] (.int .i64 (Jn_ b e)):=by
 refine kG func87 ntmps87 λw N H hG=>?_;refine kM 11 (λh0=>?_) (λh0=>?_);refine kR 8 ?_;simp[Jn_, *];refine kR 8 ?_;simp[Jn_, *]
theorem Xc_(a:Mail)(b:Mail):Fn prog gb 161 [.agg (Mail.pc a), .agg (Mail.pc b)] (.bool (decide (a=b))):=by
 refine kG func161 ntmps161 λw N H hG=>?_;refine kD 33 [0,1] λB0=>?_;refine H9_ Z (λhc=>(head_Same _ _)) Z ⟨(λhc=>hc),(λhc=>hc),trivial⟩ Z Z λ_=>?_;refine kC 26 ?_;refine rt1 Z Z (ple ?_);exact congrArg PV.bool (by rw[B6];first|(simp[Mail.eq_iff,and_assoc];done)|(simp[Mail.eq_iff];grind))
theorem deed_Same(a:G_)(b:G_):Fn prog gb 83 [.agg (G_.pc a), .agg (G_.pc b)] (.bool (decide (a=b))):=by
 refine kG func83 ntmps83 λw N H hG=>?_;refine kD 26 [0,1] λB0=>?_;refine q1g [19,21] Z (λhc=>saeq Z Z eqg40 (veq40 a.Bl_ b.Bl_)) ⟨(λhc=>hc),(λhc=>hc),trivial⟩ Z Z Z λ_=>?_;refine kC 6 ?_;refine q1g [26,28] Z (λhc=>saeq Z Z eqg42 (veq42 a.queue b.queue)) ⟨(λhc=>hc),(λhc=>hc),trivial⟩ Z Z Z λ_=>?_;refine kC 6 ?_;refine H9_ Z (λhc=>(Zr_ _ _)) Z ⟨(λhc=>hc),(λhc=>hc),trivial⟩ Z Z λ_=>?_;refine kC 48 ?_;refine H9_ Z (λhc=>(Xc_ _ _)) Z ⟨(λhc=>hc),(λhc=>hc),trivial⟩ Z Z λ_=>?_;refine kC 12 ?_;refine rt1 Z Z (ple ?_);exact congrArg PV.bool (by rw[B6];first|(simp[G_.eq_iff,and_assoc];done)|(simp[G_.eq_iff];grind))
theorem deed_told(d:G_):Fn prog gb 84 [.agg (G_.pc d)] (.agg (G_.pc (I4_ d))):=by
 refine kG func84 ntmps84 λw N H hG=>?_;refine kB 31 [0,1,2] λB0=>?_;refine cn Z (λp0=>?_) λp1=>?_;refine kB 15 [] λ_=>?_;refine rt1 Z Z (ple ?_);have e:I4_ d=(⟨d.kind,d.tick,d.Bl_,(⟨[],0,0,[]⟩:T_),(⟨[],[],false,[],[],false⟩:O_),[],0,0,0,0,0,(⟨0,[],[],[],[],0,0⟩:Mail),[]⟩:G_):=by
   exact rC
 rw[e];rfl;refine kN 6 (λp2=>?_) λp3=>?_;refine kB 15 [] λ_=>?_;refine rt1 Z Z (ple ?_);have e:I4_ d=(⟨d.kind,d.tick,(⟨[],0,[]⟩:W_),d.queue,(⟨[],[],false,[],[],false⟩:O_),[],0,0,0,0,0,(⟨0,[],[],[],[],0,0⟩:Mail),[]⟩:G_):=by
   exact rC
 rw[e];rfl;refine kM 7 (λh0=>?_) (λh0=>?_);have p4:=dt h0;refine kA 2 ?_;refine cndT Z h0 ?_;refine kB 15 [] λ_=>?_;refine rt1 Z Z (ple ?_);have e:I4_ d=(⟨d.kind,d.tick,(⟨[],0,[]⟩:W_),(⟨[],0,0,[]⟩:T_),d.bind,[],0,0,0,0,0,(⟨0,[],[],[],[],0,0⟩:Mail),[]⟩:G_):=by
   exact rC
 rw[e];rfl;have p4:=df h0;refine kN 5 (λp5=>?_) λp6=>?_;refine kB 15 [] λ_=>?_;refine rt1 Z Z (ple ?_);have e:I4_ d=(⟨d.kind,d.tick,(⟨[],0,[]⟩:W_),(⟨[],0,0,[]⟩:T_),d.bind,[],0,0,0,0,0,(⟨0,[],[],[],[],0,0⟩:Mail),[]⟩:G_):=by
   exact rC
 rw[e];rfl;refine kN 6 (λp7=>?_) λp8=>?_;refine kB 15 [] λ_=>?_;refine rt1 Z Z (ple ?_);have e:I4_ d=(⟨d.kind,d.tick,(⟨[],0,[]⟩:W_),(⟨[],0,0,[]⟩:T_),(⟨[],[],false,[],[],false⟩:O_),[],0,0,0,0,0,d.Ad_,[]⟩:G_):=by
   exact rC
 rw[e];rfl;refine kM 7 (λh1=>?_) (λh1=>?_);have p9:=dt h1;refine kA 2 ?_;refine cndT Z h1 ?_;refine kB 15 [] λ_=>?_;refine rt1 Z Z (ple ?_);have e:I4_ d=(⟨d.kind,d.tick,(⟨[],0,[]⟩:W_),(⟨[],0,0,[]⟩:T_),(⟨[],[],false,[],[],false⟩:O_),d.name,0,0,0,0,0,(⟨0,[],[],[],[],0,0⟩:Mail),[]⟩:G_):=by
   exact rC
 rw[e];rfl;have p9:=df h1;refine kM 6 (λh2=>?_) (λh2=>?_);have p10:=dt h2;refine kA 2 ?_;refine cndT Z h2 ?_;refine kB 15 [] λ_=>?_;refine rt1 Z Z (ple ?_);have e:I4_ d=(⟨d.kind,d.tick,(⟨[],0,[]⟩:W_),(⟨[],0,0,[]⟩:T_),(⟨[],[],false,[],[],false⟩:O_),d.name,0,0,0,0,0,(⟨0,[],[],[],[],0,0⟩:Mail),[]⟩:G_):=by
   exact rC
 rw[e];rfl;have p10:=df h2;refine kN 5 (λp11=>?_) λp12=>?_;refine kB 15 [] λ_=>?_;refine rt1 Z Z (ple ?_);have e:I4_ d=(⟨d.kind,d.tick,(⟨[],0,[]⟩:W_),(⟨[],0,0,[]⟩:T_),(⟨[],[],false,[],[],false⟩:O_),d.name,0,0,0,0,0,(⟨0,[],[],[],[],0,0⟩:Mail),[]⟩:G_):=by
   exact rC
 rw[e];rfl;refine kN 6 (λp13=>?_) λp14=>?_;refine aN [2,3,4,5,6,7,8] 12 mixd<|kE [0,1,2,3,4,5,6] 5 ?_;refine vE 7 Z (sO C_ ?_);refine kE [8] 3 ?_;refine vE 9 Z (sO C_ ?_);refine kE [10] 1 ?_;refine vT 11 Z (sO C_ ?_);refine vD<|kB 9 [] λ_=>?_;refine rt1 Z Z (ple ?_);have e:I4_ d=(⟨d.kind,d.tick,(⟨[],0,[]⟩:W_),(⟨[],0,0,[]⟩:T_),(⟨[],[],false,[],[],false⟩:O_),d.name,d.id,d.how,0,0,0,(⟨0,[],[],[],[],0,0⟩:Mail),[]⟩:G_):=by
   exact rC
 rw[e];rfl;refine kN 6 (λp15=>?_) λp16=>?_;refine aN [2,3,4,5,6,7,8] 12 mixd<|kE [0,1,2,3,4,5,6] 5 ?_;refine vE 7 Z (sO C_ ?_);refine kE [8] 3 ?_;refine vE 9 Z (sO C_ ?_);refine kE [10] 1 ?_;refine vT 11 Z (sA C_ ?_);refine vD<|kB 9 [] λ_=>?_;refine rt1 Z Z (ple ?_);have e:I4_ d=(⟨d.kind,d.tick,(⟨[],0,[]⟩:W_),(⟨[],0,0,[]⟩:T_),(⟨[],[],false,[],[],false⟩:O_),[],0,0,d.frm,0,d.number,d.Ad_,[]⟩:G_):=by
   exact rC
 rw[e];rfl;refine kN 6 (λp17=>?_) λp18=>?_;refine aN [2,3,4,5,6,7,8] 8 mixd<|kE [0,1,2,3,4] 3 ?_;refine vE 5 Z (sO C_ ?_);refine kE [6] 1 ?_;refine vT 7 Z (sO C_ ?_);refine vD<|kB 9 [] λ_=>?_;refine rt1 Z Z (ple ?_);have e:I4_ d=(⟨d.kind,d.tick,(⟨[],0,[]⟩:W_),(⟨[],0,0,[]⟩:T_),(⟨[],[],false,[],[],false⟩:O_),[],0,0,0,d.code,0,(⟨0,[],[],[],[],0,0⟩:Mail),d.text⟩:G_):=by
   exact rC
 rw[e];rfl;refine kB 10 [] λ_=>?_;refine rt1 Z Z (ple ?_);have e:I4_ d=(⟨d.kind,d.tick,(⟨[],0,[]⟩:W_),(⟨[],0,0,[]⟩:T_),(⟨[],[],false,[],[],false⟩:O_),[],0,0,0,0,0,(⟨0,[],[],[],[],0,0⟩:Mail),[]⟩:G_):=by
   exact rC
 rw[e];rfl
theorem Nt_(l:List Int):Fn prog gb 85 [.sl i64c l] (.int .i64 (Lm_ l)):=by
 refine kG func85 ntmps85 λw N H hG=>?_;have l_l:l.length<=140737488355328:=w.1.1;refine kA 14 ?_;refine loop (ι:=Nat) [0,5,6] [] (λk=>[(7, .int .i64 (k:Int))]) (λk=>[]) (λk=>k<=l.length/\Lm_ l=Lm_ (l.drop k)) (λk=>l.length-k) 0 ⟨Z,U⟩ U ?_ ?_;exact yJ;rintro k hp0;obtain⟨hk1,hk2⟩:=hp0;refine kN 6 (λp0=>?_) λp1=>?_
 . obtain⟨c0,hc0⟩:=getE (xs:=l) (m:=k) rV;refine jA 6 Z<|kI k hc0 λw0=>?_;refine kM 10 (λh0=>?_) (λh0=>?_)
   have h1:=E2_ h0;have p2:=df h1;refine kR 12 ?_;refine congrArg (PV.int .i64) ?_
   rw[hk2,Fc_ hc0]
   unfold Lm_
   rw[if_pos rY]
   have h1:=D1_ h0;have p2:=dt h1;refine kC 7 ?_;refine next (k+1) Z Z ⟨Z,U⟩ U ?_ ?_
   omega
   refine⟨by omega,?_⟩
   rw[hk2,Fc_ hc0]
   conv=>lhs;unfold Lm_
   rw[if_neg rV]
 refine kR 11 ?_;refine congrArg (PV.int .i64) ?_;rw[hk2,AB rV];rfl
theorem Yp_(d:G_):Fn prog gb 36 [.agg (G_.pc d)] (.int .i64 (G2_ d)):=by
 refine kG func36 ntmps36 λw N H hG=>?_;refine kB 16 [0] λB0=>?_;refine cn Z (λp0=>?_) λp1=>?_;exact rS;refine kA 1 ?_;refine aN [1,2,3,4,5,6] 6 mixd<|kE [0,1] 4 ?_;refine vE 2 Z (eC (deed_told _) Z λw0=>?_);refine vC 3 Z (deed_Same _ _) Z λw1=>kE [4,5] 0 ?_;refine vD<|kM 1 (λh0=>?_) (λh0=>?_);have h1:=E2_ h0;have p2:=df h1;exact rS;have h1:=D1_ h0;have p2:=dt h1;refine kN 17 (λp3=>?_) λp4=>?_;refine kA 1 ?_;refine aN [1,2,3,4,5,6] 16 mixd<|kE [0,1,2] 13 ?_;refine vC 3 Z (Fl_ _) Z λw2=>kE [4,5,6,7] 8 ?_;refine vC 8 Z (Nr_ _ _) Z λw3=>kE [9,10,11] 4 ?_;refine vC 12 Z (Yq_ _) Z λw4=>?_;have :=S0_ d.Bl_.to';refine vE 13 Z (bsl 1 i64c [Gp_ d.Bl_.name,Jn_ (decide (4<d.Bl_.sort)) 8,O3_ d.Bl_.to'] C_ Z Z Z Z Z (λ_=>rfl) Z rX rX Z λu0=>?_);refine vE 14 Z (O7_ 1 Z (Nt_ _) Z Z Z λw5=>?_);refine kE [15] 0 ?_;refine vD<|kR 4 ?_;exact wI;refine kN 6 (λp5=>?_) λp6=>?_;refine kA 1 ?_;refine aN [1,2,3,4,5,6] 11 mixd<|kE [0,1,2] 8 ?_;refine vC 3 Z (Fl_ _) Z λw2=>kE [4,5,6] 4 ?_;refine vC 7 Z (Yq_ _) Z λw3=>?_;have :=S0_ d.queue.dead;refine vE 8 Z (bsl 1 i64c [Gp_ d.queue.name,O3_ d.queue.dead] C_ Z Z Z Z Z (λ_=>rfl) Z rX rX Z λu0=>?_);refine vE 9 Z (O7_ 1 Z (Nt_ _) Z Z Z λw4=>?_);refine kE [10] 0 ?_;refine vD<|kR 4 ?_;exact wI;refine kM 7 (λh2=>?_) (λh2=>?_);have p7:=dt h2;refine kA 2 ?_;refine cndT Z h2 ?_;exact rP;have p7:=df h2;refine kN 5 (λp8=>?_) λp9=>?_;exact rP;refine kM 7 (λh3=>?_) (λh3=>?_);have p10:=dt h3;refine kA 2 ?_;refine cndT Z h3 ?_;exact rQ;have p10:=df h3;refine kN 5 (λp11=>?_) λp12=>?_;exact rQ;refine kM 7 (λh4=>?_) (λh4=>?_);have p13:=dt h4;refine kA 2 ?_;refine cndT Z h4 ?_;exact rS;have p13:=df h4;refine kN 5 (λp14=>?_) λp15=>?_;exact rS;refine kN 6 (λp16=>?_) λp17=>?_;refine kL 6 (Nr_ _ _) Z Z Z λw2=>kR 6 ?_;exact wI;refine kA 4 ?_;refine aN [1,2,3,4,5,6] 10 mixd<|kE [0,1] 8 ?_;refine vC 2 Z (Fl_ _) Z λw2=>kE [3,4,5] 4 ?_;refine vC 6 Z (Nr_ _ _) Z λw3=>vE 7 Z (bsl 1 i64c [Gp_ d.name,Jn_ (decide (2<d.how)) 7] C_ Z Z Z Z Z (λ_=>rfl) Z rX rX Z λu0=>?_);refine vE 8 Z (O7_ 1 Z (Nt_ _) Z Z Z λw4=>?_);refine kE [9] 0 ?_;refine vD<|kR 2 ?_;exact wI
theorem Yo_(d:G_):Fn prog gb 113 [.agg (G_.pc d)] (.tup [.str (Bm_ d), .int .i64 (G2_ d)]):=by
 refine kG func113 ntmps113 λw N H hG=>?_;have d_w:=G_.pwf w.1;have d_w':=d_w;simp only[G_.wf,W_.wf,T_.wf,O_.wf,Mail.wf] at d_w';refine kB 11 [0] λB0=>?_;refine call (Yp_ _) Z Z λw0=>?_;have :=deedE_r d;refine kM 9 (λh0=>?_) (λh0=>?_)
 . have h1:=E2_ h0;have p0:=df h1;refine kA 9 ?_;refine rt2 Z Z ?_;refine ple ?_;have e:Bm_ d=[]:=by
     unfold Bm_
     first
       |(rw[if_neg rY];done)
       |(rw[if_pos rY];unfold I7_;(repeat (first|rw[if_pos rV]|rw[if_neg rV]|rw[if_pos rY]|rw[if_neg rY]|rw[if_neg (not_not_intro rY)]));first|done|rfl)
   exact tH
 have h1:=D1_ h0;have p0:=dt h1;have hdk:=Sb_ (d:=d) rV p0;obtain⟨dk1,dk2,dk3,dk4,dk5,dk6,dk7,dk8,dk9,dk10,dk11,dk12,dk13,dk14,dk15,dk16,dk17,dk18,dk19⟩:=hdk;refine kA 3 ?_;refine aN [1,2,3,4,5,6] 10 mixd<|kE [0,1,2,3] 6 ?_;refine vC 4 Z (out_Num (⟨[],0⟩:Out) _ _ qA) Z λw1=>?_;have nl0:(⟨[],0⟩:Out).s.length=0:=rfl;have :=Q_ (⟨[],0⟩:Out) d.kind 1;refine kE [5,6] 3 ?_;refine vC 7 Z (out_Num _ _ _ qA) Z λw2=>?_;have :=Q_ (B_ (⟨[],0⟩:Out) d.kind 1) d.tick 8;refine vE 8 Z (aL C_ 1 λb0=>?_);refine vT 9 Z (sA C_ ?_);refine vD<|kL 5 (N2_ _) Z Z Z λw3=>?_;have :=Ge_ d.Ad_;refine kN 21 (λp1=>?_) λp2=>?_
 . refine aN [2,3,4,5,6,7] 15 mixd<|kE [0,1,2,3] 11 ?_;refine vC 4 Z (En_ _ _) Z λw4=>?_;have :=Aw_ (B_ (B_ (⟨[],0⟩:Out) d.kind 1) d.tick 8) d.Bl_.name;refine kE [5,6,7,8] 6 ?_;refine vC 9 Z (out_Num _ _ _ qA) Z λw5=>?_;have :=Q_ (H_ (B_ (B_ (⟨[],0⟩:Out) d.kind 1) d.tick 8) d.Bl_.name) d.Bl_.sort 1;refine kE [10,11,12] 2 ?_;refine vC 13 Z (En_ _ _) Z λw6=>?_;have :=Aw_ (B_ (H_ (B_ (B_ (⟨[],0⟩:Out) d.kind 1) d.tick 8) d.Bl_.name) d.Bl_.sort 1) d.Bl_.to';refine vT 14 Z (sA C_ ?_);refine vD<|kL 5 (C3_ _) Z Z Z λw7=>kA 5 ?_;refine rt2 Z Z ?_;refine ple ?_;have e:Bm_ d=(H_ (B_ (H_ (B_ (B_ (⟨[],0⟩:Out) d.kind 1) d.tick 8) d.Bl_.name) d.Bl_.sort 1) d.Bl_.to').s:=by
     unfold Bm_
     first
       |(rw[if_neg rY];done)
       |(rw[if_pos rY];unfold I7_;(repeat (first|rw[if_pos rV]|rw[if_neg rV]|rw[if_pos rY]|rw[if_neg rY]|rw[if_neg (not_not_intro rY)]));first|done|rfl)
   exact tH
 refine kN 6 (λp3=>?_) λp4=>?_
 . refine aN [2,3,4,5,6,7] 18 mixd<|kE [0,1,2,3] 14 ?_;refine vC 4 Z (En_ _ _) Z λw4=>?_;have :=Aw_ (B_ (B_ (⟨[],0⟩:Out) d.kind 1) d.tick 8) d.queue.name;refine kE [5,6,7] 10 ?_;refine vC 8 Z (out_Num _ _ _ qA) Z λw5=>?_;have :=Q_ (H_ (B_ (B_ (⟨[],0⟩:Out) d.kind 1) d.tick 8) d.queue.name) d.queue.most 8;refine kE [9,10,11] 6 ?_;refine vC 12 Z (out_Num _ _ _ qA) Z λw6=>?_;have :=Q_ (B_ (H_ (B_ (B_ (⟨[],0⟩:Out) d.kind 1) d.tick 8) d.queue.name) d.queue.most 8) d.queue.life 8;refine kE [13,14,15] 2 ?_;refine vC 16 Z (En_ _ _) Z λw7=>?_;have :=Aw_ (B_ (B_ (H_ (B_ (B_ (⟨[],0⟩:Out) d.kind 1) d.tick 8) d.queue.name) d.queue.most 8) d.queue.life 8) d.queue.dead;refine vT 17 Z (sA C_ ?_);refine vD<|kL 5 (C3_ _) Z Z Z λw8=>kA 5 ?_;refine rt2 Z Z ?_;refine ple ?_;have e:Bm_ d=(H_ (B_ (B_ (H_ (B_ (B_ (⟨[],0⟩:Out) d.kind 1) d.tick 8) d.queue.name) d.queue.most 8) d.queue.life 8) d.queue.dead).s:=by
     unfold Bm_
     first
       |(rw[if_neg rY];done)
       |(rw[if_pos rY];unfold I7_;(repeat (first|rw[if_pos rV]|rw[if_neg rV]|rw[if_pos rY]|rw[if_neg rY]|rw[if_neg (not_not_intro rY)]));first|done|rfl)
   exact tH
 refine kM 7 (λh2=>?_) (λh2=>?_)
 . have p5:=dt h2;refine kA 2 ?_;refine cndT Z h2 ?_;refine kB 12 [2] λB1=>?_;refine call (Nv_ _) Z Z λw4=>?_;have :=Gc_ d.bind.want;refine kA 7 ?_;refine aN [3,4,5,6,7,8] 21 mixd<|kE [0,1,2] 18 ?_;refine vC 3 Z (En_ _ _) Z λw5=>?_;have :=Aw_ (B_ (B_ (⟨[],0⟩:Out) d.kind 1) d.tick 8) d.bind.Bl_;refine kE [4,5] 15 ?_;refine vC 6 Z (En_ _ _) Z λw6=>?_;have :=Aw_ (H_ (B_ (B_ (⟨[],0⟩:Out) d.kind 1) d.tick 8) d.bind.Bl_) d.bind.to';refine kE [7,8] 12 ?_;refine vC 9 Z (U1_ _) Z λw7=>vC 10 Z (out_Num _ _ _ qA) Z λw8=>?_;have :=Q_ (H_ (H_ (B_ (B_ (⟨[],0⟩:Out) d.kind 1) d.tick 8) d.bind.Bl_) d.bind.to') (bitN d.bind.up) 1;refine kE [11,12] 8 ?_;refine vC 13 Z (En_ _ _) Z λw9=>?_;have :=Aw_ (B_ (H_ (H_ (B_ (B_ (⟨[],0⟩:Out) d.kind 1) d.tick 8) d.bind.Bl_) d.bind.to') (bitN d.bind.up) 1) d.bind.key;refine kE [14] 6 ?_;refine vC 15 Z (J7_ _ _) Z λw10=>?_;have :=Ed_ (H_ (B_ (H_ (H_ (B_ (B_ (⟨[],0⟩:Out) d.kind 1) d.tick 8) d.bind.Bl_) d.bind.to') (bitN d.bind.up) 1) d.bind.key) (Cp_ d.bind.want);refine kE [16,17] 3 ?_;refine vC 18 Z (U1_ _) Z λw11=>vC 19 Z (out_Num _ _ _ qA) Z λw12=>?_;have :=Q_ (Y_ (H_ (B_ (H_ (H_ (B_ (B_ (⟨[],0⟩:Out) d.kind 1) d.tick 8) d.bind.Bl_) d.bind.to') (bitN d.bind.up) 1) d.bind.key) (Cp_ d.bind.want)) (bitN d.bind.all) 1;refine vT 20 Z (sA C_ ?_);refine vD<|kL 5 (C3_ _) Z Z Z λw13=>kA 5 ?_;refine rt2 Z Z ?_;refine ple ?_;have e:Bm_ d=(B_ (Y_ (H_ (B_ (H_ (H_ (B_ (B_ (⟨[],0⟩:Out) d.kind 1) d.tick 8) d.bind.Bl_) d.bind.to') (bitN d.bind.up) 1) d.bind.key) (Cp_ d.bind.want)) (bitN d.bind.all) 1).s:=by
     unfold Bm_
     first
       |(rw[if_neg rY];done)
       |(rw[if_pos rY];unfold I7_;(repeat (first|rw[if_pos rV]|rw[if_neg rV]|rw[if_pos rY]|rw[if_neg rY]|rw[if_neg (not_not_intro rY)]));first|done|rfl)
   exact tH
 have p5:=df h2;refine kN 5 (λp6=>?_) λp7=>?_
 . refine kB 12 [2] λB1=>?_;refine call (Nv_ _) Z Z λw4=>?_;have :=Gc_ d.bind.want;refine kA 7 ?_;refine aN [3,4,5,6,7,8] 21 mixd<|kE [0,1,2] 18 ?_;refine vC 3 Z (En_ _ _) Z λw5=>?_;have :=Aw_ (B_ (B_ (⟨[],0⟩:Out) d.kind 1) d.tick 8) d.bind.Bl_;refine kE [4,5] 15 ?_;refine vC 6 Z (En_ _ _) Z λw6=>?_;have :=Aw_ (H_ (B_ (B_ (⟨[],0⟩:Out) d.kind 1) d.tick 8) d.bind.Bl_) d.bind.to';refine kE [7,8] 12 ?_;refine vC 9 Z (U1_ _) Z λw7=>vC 10 Z (out_Num _ _ _ qA) Z λw8=>?_;have :=Q_ (H_ (H_ (B_ (B_ (⟨[],0⟩:Out) d.kind 1) d.tick 8) d.bind.Bl_) d.bind.to') (bitN d.bind.up) 1;refine kE [11,12] 8 ?_;refine vC 13 Z (En_ _ _) Z λw9=>?_;have :=Aw_ (B_ (H_ (H_ (B_ (B_ (⟨[],0⟩:Out) d.kind 1) d.tick 8) d.bind.Bl_) d.bind.to') (bitN d.bind.up) 1) d.bind.key;refine kE [14] 6 ?_;refine vC 15 Z (J7_ _ _) Z λw10=>?_;have :=Ed_ (H_ (B_ (H_ (H_ (B_ (B_ (⟨[],0⟩:Out) d.kind 1) d.tick 8) d.bind.Bl_) d.bind.to') (bitN d.bind.up) 1) d.bind.key) (Cp_ d.bind.want);refine kE [16,17] 3 ?_;refine vC 18 Z (U1_ _) Z λw11=>vC 19 Z (out_Num _ _ _ qA) Z λw12=>?_;have :=Q_ (Y_ (H_ (B_ (H_ (H_ (B_ (B_ (⟨[],0⟩:Out) d.kind 1) d.tick 8) d.bind.Bl_) d.bind.to') (bitN d.bind.up) 1) d.bind.key) (Cp_ d.bind.want)) (bitN d.bind.all) 1;refine vT 20 Z (sA C_ ?_);refine vD<|kL 5 (C3_ _) Z Z Z λw13=>kA 5 ?_;refine rt2 Z Z ?_;refine ple ?_;have e:Bm_ d=(B_ (Y_ (H_ (B_ (H_ (H_ (B_ (B_ (⟨[],0⟩:Out) d.kind 1) d.tick 8) d.bind.Bl_) d.bind.to') (bitN d.bind.up) 1) d.bind.key) (Cp_ d.bind.want)) (bitN d.bind.all) 1).s:=by
     unfold Bm_
     first
       |(rw[if_neg rY];done)
       |(rw[if_pos rY];unfold I7_;(repeat (first|rw[if_pos rV]|rw[if_neg rV]|rw[if_pos rY]|rw[if_neg rY]|rw[if_neg (not_not_intro rY)]));first|done|rfl)
   exact tH
 refine kN 6 (λp8=>?_) λp9=>?_
 . refine kL 3 (J7_ _ _) Z Z Z λw4=>?_;have :=Ed_ (B_ (B_ (⟨[],0⟩:Out) d.kind 1) d.tick 8) (Dj_ d.Ad_);refine kB 7 [] λ_=>?_;refine call (C3_ _) Z Z λw5=>kA 5 ?_;refine rt2 Z Z ?_;refine ple ?_;have e:Bm_ d=(Y_ (B_ (B_ (⟨[],0⟩:Out) d.kind 1) d.tick 8) (Dj_ d.Ad_)).s:=by
     unfold Bm_
     first
       |(rw[if_neg rY];done)
       |(rw[if_pos rY];unfold I7_;(repeat (first|rw[if_pos rV]|rw[if_neg rV]|rw[if_pos rY]|rw[if_neg rY]|rw[if_neg (not_not_intro rY)]));first|done|rfl)
   exact tH
 refine kM 7 (λh3=>?_) (λh3=>?_)
 . have p10:=dt h3;refine kA 2 ?_;refine cndT Z h3 ?_;refine kL 4 (En_ _ _) Z Z Z λw4=>?_;have :=Aw_ (B_ (B_ (⟨[],0⟩:Out) d.kind 1) d.tick 8) d.name;refine kB 7 [] λ_=>?_;refine call (C3_ _) Z Z λw5=>kA 5 ?_;refine rt2 Z Z ?_;refine ple ?_;have e:Bm_ d=(H_ (B_ (B_ (⟨[],0⟩:Out) d.kind 1) d.tick 8) d.name).s:=by
     unfold Bm_
     first
       |(rw[if_neg rY];done)
       |(rw[if_pos rY];unfold I7_;(repeat (first|rw[if_pos rV]|rw[if_neg rV]|rw[if_pos rY]|rw[if_neg rY]|rw[if_neg (not_not_intro rY)]));first|done|rfl)
   exact tH
 have p10:=df h3;refine kM 6 (λh4=>?_) (λh4=>?_)
 . have p11:=dt h4;refine kA 2 ?_;refine cndT Z h4 ?_;refine kL 4 (En_ _ _) Z Z Z λw4=>?_;have :=Aw_ (B_ (B_ (⟨[],0⟩:Out) d.kind 1) d.tick 8) d.name;refine kB 7 [] λ_=>?_;refine call (C3_ _) Z Z λw5=>kA 5 ?_;refine rt2 Z Z ?_;refine ple ?_;have e:Bm_ d=(H_ (B_ (B_ (⟨[],0⟩:Out) d.kind 1) d.tick 8) d.name).s:=by
     unfold Bm_
     first
       |(rw[if_neg rY];done)
       |(rw[if_pos rY];unfold I7_;(repeat (first|rw[if_pos rV]|rw[if_neg rV]|rw[if_pos rY]|rw[if_neg rY]|rw[if_neg (not_not_intro rY)]));first|done|rfl)
   exact tH
 have p11:=df h4;refine kN 5 (λp12=>?_) λp13=>?_
 . refine kL 4 (En_ _ _) Z Z Z λw4=>?_;have :=Aw_ (B_ (B_ (⟨[],0⟩:Out) d.kind 1) d.tick 8) d.name;refine kB 7 [] λ_=>?_;refine call (C3_ _) Z Z λw5=>kA 5 ?_;refine rt2 Z Z ?_;refine ple ?_;have e:Bm_ d=(H_ (B_ (B_ (⟨[],0⟩:Out) d.kind 1) d.tick 8) d.name).s:=by
     unfold Bm_
     first
       |(rw[if_neg rY];done)
       |(rw[if_pos rY];unfold I7_;(repeat (first|rw[if_pos rV]|rw[if_neg rV]|rw[if_pos rY]|rw[if_neg rY]|rw[if_neg (not_not_intro rY)]));first|done|rfl)
   exact tH
 refine kN 6 (λp14=>?_) λp15=>?_
 . refine aN [2,3,4,5,6,7] 12 mixd<|kE [0,1,2] 9 ?_;refine vC 3 Z (En_ _ _) Z λw4=>?_;have :=Aw_ (B_ (B_ (⟨[],0⟩:Out) d.kind 1) d.tick 8) d.name;refine kE [4,5] 6 ?_;refine vC 6 Z (out_Num _ _ _ qA) Z λw5=>?_;have :=Q_ (H_ (B_ (B_ (⟨[],0⟩:Out) d.kind 1) d.tick 8) d.name) d.id 8;refine kE [7,8,9] 2 ?_;refine vC 10 Z (out_Num _ _ _ qA) Z λw6=>?_;have :=Q_ (B_ (H_ (B_ (B_ (⟨[],0⟩:Out) d.kind 1) d.tick 8) d.name) d.id 8) d.how 1;refine vT 11 Z (sA C_ ?_);refine vD<|kL 5 (C3_ _) Z Z Z λw7=>kA 5 ?_;refine rt2 Z Z ?_;refine ple ?_;have e:Bm_ d=(B_ (B_ (H_ (B_ (B_ (⟨[],0⟩:Out) d.kind 1) d.tick 8) d.name) d.id 8) d.how 1).s:=by
     unfold Bm_
     first
       |(rw[if_neg rY];done)
       |(rw[if_pos rY];unfold I7_;(repeat (first|rw[if_pos rV]|rw[if_neg rV]|rw[if_pos rY]|rw[if_neg rY]|rw[if_neg (not_not_intro rY)]));first|done|rfl)
   exact tH
 refine kN 6 (λp16=>?_) λp17=>?_
 . refine aN [2,3,4,5,6,7] 11 mixd<|kE [0,1,2,3] 7 ?_;refine vC 4 Z (out_Num _ _ _ qA) Z λw4=>?_;have :=Q_ (B_ (B_ (⟨[],0⟩:Out) d.kind 1) d.tick 8) d.frm 1;refine kE [5,6] 4 ?_;refine vC 7 Z (out_Num _ _ _ qA) Z λw5=>?_;have :=Q_ (B_ (B_ (B_ (⟨[],0⟩:Out) d.kind 1) d.tick 8) d.frm 1) d.number 8;refine kE [8] 2 ?_;refine vC 9 Z (J7_ _ _) Z λw6=>?_;have :=Ed_ (B_ (B_ (B_ (B_ (⟨[],0⟩:Out) d.kind 1) d.tick 8) d.frm 1) d.number 8) (Dj_ d.Ad_);refine vT 10 Z (sA C_ ?_);refine vD<|kL 5 (C3_ _) Z Z Z λw7=>kA 5 ?_;refine rt2 Z Z ?_;refine ple ?_;have e:Bm_ d=(Y_ (B_ (B_ (B_ (B_ (⟨[],0⟩:Out) d.kind 1) d.tick 8) d.frm 1) d.number 8) (Dj_ d.Ad_)).s:=by
     unfold Bm_
     first
       |(rw[if_neg rY];done)
       |(rw[if_pos rY];unfold I7_;(repeat (first|rw[if_pos rV]|rw[if_neg rV]|rw[if_pos rY]|rw[if_neg rY]|rw[if_neg (not_not_intro rY)]));first|done|rfl)
   exact tH
 refine kN 6 (λp18=>?_) λp19=>?_
 . refine aN [2,3,4,5,6,7] 9 mixd<|kE [0,1,2,3] 5 ?_;refine vC 4 Z (out_Num _ _ _ qA) Z λw4=>?_;have :=Q_ (B_ (B_ (⟨[],0⟩:Out) d.kind 1) d.tick 8) d.code 1;refine kE [5,6] 2 ?_;refine vC 7 Z (En_ _ _) Z λw5=>?_;have :=Aw_ (B_ (B_ (B_ (⟨[],0⟩:Out) d.kind 1) d.tick 8) d.code 1) d.text;refine vT 8 Z (sA C_ ?_);refine vD<|kL 5 (C3_ _) Z Z Z λw6=>kA 5 ?_;refine rt2 Z Z ?_;refine ple ?_;have e:Bm_ d=(H_ (B_ (B_ (B_ (⟨[],0⟩:Out) d.kind 1) d.tick 8) d.code 1) d.text).s:=by
     unfold Bm_
     first
       |(rw[if_neg rY];done)
       |(rw[if_pos rY];unfold I7_;(repeat (first|rw[if_pos rV]|rw[if_neg rV]|rw[if_pos rY]|rw[if_neg rY]|rw[if_neg (not_not_intro rY)]));first|done|rfl)
   exact tH
 refine kL 6 (C3_ _) Z Z Z λw4=>kA 5 ?_;refine rt2 Z Z ?_;refine ple ?_;have e:Bm_ d=(B_ (B_ (⟨[],0⟩:Out) d.kind 1) d.tick 8).s:=by
   unfold Bm_
   first
     |(rw[if_neg rY];done)
     |(rw[if_pos rY];unfold I7_;(repeat (first|rw[if_pos rV]|rw[if_neg rV]|rw[if_pos rY]|rw[if_neg rY]|rw[if_neg (not_not_intro rY)]));first|done|rfl)
 exact tH
theorem cb145:S_ prog 145:=J_ func145 rW rW
theorem cb218:S_ prog 218:=J_ func218 rW rW
theorem Sz_(i:In):Fm prog gb 218 [] 310 (In.pc i) (.agg (Mail.pc (((D5_ i)).1))) (In.pc (((D5_ i)).2)):=by
 refine Sg_ C_ func218 Z ntmps218 Z cb218 Z Z Z Z λw wp b N H hG=>?_;refine kB 8 [1] λB0=>?_;refine ef (ecallm (Dk_ _ _) Z Z Z Z Z λw0 w3p=>?_);have :=Ai_ i 8;generalize hg0:R_ i 8=g0 at *;refine kB 8 [2] λB1=>?_;refine ef (ecallm (E9_ _ _) Z Z Z Z Z λw1 w8p=>?_);have :=Ak_ ((g0).2) 16;generalize hg1:P_ ((g0).2) 16=g1 at *;refine kB 7 [] λ_=>?_;refine ef (ecallm (E9_ _ _) Z Z Z Z Z λw2 w12p=>?_);have :=Ak_ ((g1).2) 64;generalize hg2:P_ ((g1).2) 64=g2 at *;refine kB 7 [] λ_=>?_;refine ef (ecallm (Si_ _) Z Z Z Z Z λw3 w16p=>?_);have :=Ke_ ((g2).2);generalize hg3:Bx_ ((g2).2)=g3 at *;refine kB 7 [] λ_=>?_;refine ef (ecallm (E9_ _ _) Z Z Z Z Z λw4 w20p=>?_);have :=Ak_ ((g3).2) 256;generalize hg4:P_ ((g3).2) 256=g4 at *;refine kB 7 [] λ_=>?_;refine ef (ecallm (Dk_ _ _) Z Z Z Z Z λw5 w24p=>?_);have :=Ai_ ((g4).2) 8;generalize hg5:R_ ((g4).2) 8=g5 at *;refine kB 7 [] λ_=>?_;refine ef (ecallm (Dk_ _ _) Z Z Z Z Z λw6 w28p=>?_);have :=Ai_ ((g5).2) 1;generalize hg6:R_ ((g5).2) 1=g6 at *;refine q1 (Ju_ C_ Z Z Z Z (Uy_ rV)) Z λw7=>kB 8 [] λ_=>?_;refine ef (ecallm (Ib_ _) Z Z Z Z Z λw8 w33p=>?_);refine kM 3 (λh0=>?_) (λh0=>?_)
 . have p0:=dt h0;refine kL 3 (La_ (⟨(g0).1,(g1).1,(g2).1,(g3).1,(g4).1,(g5).1,(g6).1⟩:Mail)) Z Z Z λw9=>?_;have :=Pr_ (⟨(g0).1,(g1).1,(g2).1,(g3).1,(g4).1,(g5).1,(g6).1⟩:Mail);refine ef (ecallm (Jm_ _ _) Z Z Z Z Z λw10 w37p=>?_);refine jA 6 Z<|ef (ecallm (Ib_ _) Z Z Z Z Z λw11 w38p=>?_);refine kM 3 (λh1=>?_) (λh1=>?_)
   . have h2:=E2_ h1;have p1:=df h2;refine kB 8 [] λ_=>?_;refine rm1 Z Z ?_ Z Z Z ?_
     . have e:D5_ i=((⟨0,[],[],[],[],0,0⟩:Mail),(Bt_ ((g6).2) (Ja_ (⟨(g0).1,(g1).1,(g2).1,(g3).1,(g4).1,(g5).1,(g6).1⟩:Mail)))):=by unfold D5_;simp only;(repeat first|simp only[hg0,hg1,hg2,hg3,hg4,hg5,hg6]|rw[if_pos rV]|rw[if_neg rV]);all_goals first|rfl|(simp[*];done)|(simp[*];rfl)
       exact zL
     have e:D5_ i=((⟨0,[],[],[],[],0,0⟩:Mail),(Bt_ ((g6).2) (Ja_ (⟨(g0).1,(g1).1,(g2).1,(g3).1,(g4).1,(g5).1,(g6).1⟩:Mail)))):=by unfold D5_;simp only;(repeat first|simp only[hg0,hg1,hg2,hg3,hg4,hg5,hg6]|rw[if_pos rV]|rw[if_neg rV]);all_goals first|rfl|(simp[*];done)|(simp[*];rfl)
     exact zN
   have h2:=D1_ h1;have p1:=dt h2;refine kB 9 [] λ_=>?_;refine rm1 Z Z ?_ Z Z Z ?_
   . have e:D5_ i=((⟨(g0).1,(g1).1,(g2).1,(g3).1,(g4).1,(g5).1,(g6).1⟩:Mail),(Bt_ ((g6).2) (Ja_ (⟨(g0).1,(g1).1,(g2).1,(g3).1,(g4).1,(g5).1,(g6).1⟩:Mail)))):=by unfold D5_;simp only;(repeat first|simp only[hg0,hg1,hg2,hg3,hg4,hg5,hg6]|rw[if_pos rV]|rw[if_neg rV]);all_goals first|rfl|(simp[*];done)|(simp[*];rfl)
     exact zL
   have e:D5_ i=((⟨(g0).1,(g1).1,(g2).1,(g3).1,(g4).1,(g5).1,(g6).1⟩:Mail),(Bt_ ((g6).2) (Ja_ (⟨(g0).1,(g1).1,(g2).1,(g3).1,(g4).1,(g5).1,(g6).1⟩:Mail)))):=by unfold D5_;simp only;(repeat first|simp only[hg0,hg1,hg2,hg3,hg4,hg5,hg6]|rw[if_pos rV]|rw[if_neg rV]);all_goals first|rfl|(simp[*];done)|(simp[*];rfl)
   exact zN
 have p0:=df h0;refine jA 6 Z<|ef (ecallm (Ib_ _) Z Z Z Z Z λw9 w47p=>?_);refine kA 3 ?_;refine cndT Z (by rw[h0]<;>rfl) ?_;refine kB 8 [] λ_=>?_;refine rm1 Z Z ?_ Z Z Z ?_
 . have e:D5_ i=((⟨0,[],[],[],[],0,0⟩:Mail),((g6).2)):=by unfold D5_;simp only;(repeat first|simp only[hg0,hg1,hg2,hg3,hg4,hg5,hg6]|rw[if_pos rV]|rw[if_neg rV]);all_goals first|rfl|(simp[*];done)|(simp[*];rfl)
   exact zL
 have e:D5_ i=((⟨0,[],[],[],[],0,0⟩:Mail),((g6).2)):=by unfold D5_;simp only;(repeat first|simp only[hg0,hg1,hg2,hg3,hg4,hg5,hg6]|rw[if_pos rV]|rw[if_neg rV]);all_goals first|rfl|(simp[*];done)|(simp[*];rfl)
 exact zN
theorem deed_read(i:In):Fm prog gb 145 [] 310 (In.pc i) (.agg (G_.pc (((Gf_ i)).1))) (In.pc (((Gf_ i)).2)):=by
 refine Sg_ C_ func145 Z ntmps145 Z cb145 Z Z Z Z λw wp b N H hG=>?_;refine kB 8 [1] λB0=>?_;refine ef (ecallm (Dk_ _ _) Z Z Z Z Z λw0 w3p=>?_);have :=Ai_ i 1;generalize hg0:R_ i 1=g0 at *;refine q1 (Ju_ C_ Z Z Z Z (Uy_ rV)) Z λw1=>jA 1 Z<|ef (ecallm (Dk_ _ _) Z Z Z Z Z λw2 w7p=>?_);have :=Ai_ ((g0).2) 8;generalize hg1:R_ ((g0).2) 8=g1 at *;refine kB 19 [2] λB1=>?_;refine cn Z (λp0=>?_) λp1=>?_
 . refine jA 3 Z<|ef (ecallm (E9_ _ _) Z Z Z Z Z λw3 w14p=>?_);have :=Ak_ ((g1).2) 16;generalize hg2:P_ ((g1).2) 16=g2 at *;refine jA 1 Z<|ef (ecallm (Dk_ _ _) Z Z Z Z Z λw4 w17p=>?_);have :=Ai_ ((g2).2) 1;generalize hg3:R_ ((g2).2) 1=g3 at *;refine q1 (Ju_ C_ Z Z Z Z (Uy_ rV)) Z λw5=>kB 7 [] λ_=>?_;refine ef (ecallm (E9_ _ _) Z Z Z Z Z λw6 w22p=>?_);have :=Ak_ ((g3).2) 16;generalize hg4:P_ ((g3).2) 16=g4 at *;refine kB 13 [] λ_=>?_;refine rm1 Z Z ?_ Z Z Z ?_
   . have e:Gf_ i=((⟨(g0).1,(g1).1,(⟨(g2).1,(g3).1,(g4).1⟩:W_),(⟨[],0,0,[]⟩:T_),(⟨[],[],false,[],[],false⟩:O_),[],0,0,0,0,0,(⟨0,[],[],[],[],0,0⟩:Mail),[]⟩:G_),((g4).2)):=by unfold Gf_ Jw_;simp only[G_.blank,Em_];(repeat first|simp only[hg0,hg1,hg2,hg3,hg4]|rw[if_pos rV]|rw[if_neg rV]);all_goals first|rfl|(simp[*];done)|(simp[*];rfl)
     exact zL
   have e:Gf_ i=((⟨(g0).1,(g1).1,(⟨(g2).1,(g3).1,(g4).1⟩:W_),(⟨[],0,0,[]⟩:T_),(⟨[],[],false,[],[],false⟩:O_),[],0,0,0,0,0,(⟨0,[],[],[],[],0,0⟩:Mail),[]⟩:G_),((g4).2)):=by unfold Gf_ Jw_;simp only[G_.blank,Em_];(repeat first|simp only[hg0,hg1,hg2,hg3,hg4]|rw[if_pos rV]|rw[if_neg rV]);all_goals first|rfl|(simp[*];done)|(simp[*];rfl)
   exact zN
 refine kN 6 (λp2=>?_) λp3=>?_
 . refine jA 3 Z<|ef (ecallm (E9_ _ _) Z Z Z Z Z λw3 w29p=>?_);have :=Ak_ ((g1).2) 16;generalize hg2:P_ ((g1).2) 16=g2 at *;refine jA 1 Z<|ef (ecallm (Dk_ _ _) Z Z Z Z Z λw4 w32p=>?_);have :=Ai_ ((g2).2) 8;generalize hg3:R_ ((g2).2) 8=g3 at *;refine jA 1 Z<|ef (ecallm (Dk_ _ _) Z Z Z Z Z λw5 w35p=>?_);have :=Ai_ ((g3).2) 8;generalize hg4:R_ ((g3).2) 8=g4 at *;refine kB 7 [] λ_=>?_;refine ef (ecallm (E9_ _ _) Z Z Z Z Z λw6 w39p=>?_);have :=Ak_ ((g4).2) 16;generalize hg5:P_ ((g4).2) 16=g5 at *;refine kB 13 [] λ_=>?_;refine rm1 Z Z ?_ Z Z Z ?_
   . have e:Gf_ i=((⟨(g0).1,(g1).1,(⟨[],0,[]⟩:W_),(⟨(g2).1,(g3).1,(g4).1,(g5).1⟩:T_),(⟨[],[],false,[],[],false⟩:O_),[],0,0,0,0,0,(⟨0,[],[],[],[],0,0⟩:Mail),[]⟩:G_),((g5).2)):=by unfold Gf_ Jw_;simp only[G_.blank,Em_];(repeat first|simp only[hg0,hg1,hg2,hg3,hg4,hg5]|rw[if_pos rV]|rw[if_neg rV]);all_goals first|rfl|(simp[*];done)|(simp[*];rfl)
     exact zL
   have e:Gf_ i=((⟨(g0).1,(g1).1,(⟨[],0,[]⟩:W_),(⟨(g2).1,(g3).1,(g4).1,(g5).1⟩:T_),(⟨[],[],false,[],[],false⟩:O_),[],0,0,0,0,0,(⟨0,[],[],[],[],0,0⟩:Mail),[]⟩:G_),((g5).2)):=by unfold Gf_ Jw_;simp only[G_.blank,Em_];(repeat first|simp only[hg0,hg1,hg2,hg3,hg4,hg5]|rw[if_pos rV]|rw[if_neg rV]);all_goals first|rfl|(simp[*];done)|(simp[*];rfl)
   exact zN
 refine kM 7 (λh0=>?_) (λh0=>?_);have p4:=dt h0;refine kA 2 ?_;refine cndT Z h0 ?_;refine jA 3 Z<|ef (ecallm (E9_ _ _) Z Z Z Z Z λw3 w46p=>?_);have :=Ak_ ((g1).2) 16;generalize hg2:P_ ((g1).2) 16=g2 at *;refine jA 1 Z<|ef (ecallm (E9_ _ _) Z Z Z Z Z λw4 w49p=>?_);have :=Ak_ ((g2).2) 16;generalize hg3:P_ ((g2).2) 16=g3 at *;refine jA 1 Z<|ef (ecallm (Dk_ _ _) Z Z Z Z Z λw5 w52p=>?_);have :=Ai_ ((g3).2) 1;generalize hg4:R_ ((g3).2) 1=g4 at *;refine kB 9 [] λ_=>?_;refine ef (ecallm (E9_ _ _) Z Z Z Z Z λw6 w56p=>?_);have :=Ak_ ((g4).2) 64;generalize hg5:P_ ((g4).2) 64=g5 at *;refine kB 8 [] λ_=>?_;refine ef (ecallm (Si_ _) Z Z Z Z Z λw7 w60p=>?_);have :=Ke_ ((g5).2);generalize hg6:Bx_ ((g5).2)=g6 at *;refine kB 7 [] λ_=>?_;refine ef (ecallm (Dk_ _ _) Z Z Z Z Z λw8 w64p=>?_);have :=Ai_ ((g6).2) 1;generalize hg7:R_ ((g6).2) 1=g7 at *;refine kB 14 [] λ_=>?_;refine rm1 Z Z ?_ Z Z Z ?_;exact xL;exact xM;have p4:=df h0;refine kN 5 (λp5=>?_) λp6=>?_;refine jA 3 Z<|ef (ecallm (E9_ _ _) Z Z Z Z Z λw3 w71p=>?_);have :=Ak_ ((g1).2) 16;generalize hg2:P_ ((g1).2) 16=g2 at *;refine jA 1 Z<|ef (ecallm (E9_ _ _) Z Z Z Z Z λw4 w74p=>?_);have :=Ak_ ((g2).2) 16;generalize hg3:P_ ((g2).2) 16=g3 at *;refine jA 1 Z<|ef (ecallm (Dk_ _ _) Z Z Z Z Z λw5 w77p=>?_);have :=Ai_ ((g3).2) 1;generalize hg4:R_ ((g3).2) 1=g4 at *;refine kB 9 [] λ_=>?_;refine ef (ecallm (E9_ _ _) Z Z Z Z Z λw6 w81p=>?_);have :=Ak_ ((g4).2) 64;generalize hg5:P_ ((g4).2) 64=g5 at *;refine kB 8 [] λ_=>?_;refine ef (ecallm (Si_ _) Z Z Z Z Z λw7 w85p=>?_);have :=Ke_ ((g5).2);generalize hg6:Bx_ ((g5).2)=g6 at *;refine kB 7 [] λ_=>?_;refine ef (ecallm (Dk_ _ _) Z Z Z Z Z λw8 w89p=>?_);have :=Ai_ ((g6).2) 1;generalize hg7:R_ ((g6).2) 1=g7 at *;refine kB 14 [] λ_=>?_;refine rm1 Z Z ?_ Z Z Z ?_;exact xL;exact xM;refine kN 6 (λp7=>?_) λp8=>?_
 . refine jA 2 Z<|ef (ecallm (Sz_ _) Z Z Z Z Z λw3 w96p=>?_);have :=K9_ ((g1).2);generalize hg2:D5_ ((g1).2)=g2 at *;refine kB 12 [] λ_=>?_;refine rm1 Z Z ?_ Z Z Z ?_
   . have e:Gf_ i=((⟨(g0).1,(g1).1,(⟨[],0,[]⟩:W_),(⟨[],0,0,[]⟩:T_),(⟨[],[],false,[],[],false⟩:O_),[],0,0,0,0,0,((g2).1),[]⟩:G_),((g2).2)):=by unfold Gf_ Jw_;simp only[G_.blank,Em_];(repeat first|simp only[hg0,hg1,hg2]|rw[if_pos rV]|rw[if_neg rV]);all_goals first|rfl|(simp[*];done)|(simp[*];rfl)
     exact zL
   have e:Gf_ i=((⟨(g0).1,(g1).1,(⟨[],0,[]⟩:W_),(⟨[],0,0,[]⟩:T_),(⟨[],[],false,[],[],false⟩:O_),[],0,0,0,0,0,((g2).1),[]⟩:G_),((g2).2)):=by unfold Gf_ Jw_;simp only[G_.blank,Em_];(repeat first|simp only[hg0,hg1,hg2]|rw[if_pos rV]|rw[if_neg rV]);all_goals first|rfl|(simp[*];done)|(simp[*];rfl)
   exact zN
 refine kM 7 (λh1=>?_) (λh1=>?_);have p9:=dt h1;refine kA 2 ?_;refine cndT Z h1 ?_;refine jA 2 Z<|ef (ecallm (E9_ _ _) Z Z Z Z Z λw3 w103p=>?_);have :=Ak_ ((g1).2) 16;generalize hg2:P_ ((g1).2) 16=g2 at *;refine kB 12 [] λ_=>?_;refine rm1 Z Z ?_ Z Z Z ?_;exact xN;exact xO;have p9:=df h1;refine kM 6 (λh2=>?_) (λh2=>?_);have p10:=dt h2;refine kA 2 ?_;refine cndT Z h2 ?_;refine jA 2 Z<|ef (ecallm (E9_ _ _) Z Z Z Z Z λw3 w110p=>?_);have :=Ak_ ((g1).2) 16;generalize hg2:P_ ((g1).2) 16=g2 at *;refine kB 12 [] λ_=>?_;refine rm1 Z Z ?_ Z Z Z ?_;exact xN;exact xO;have p10:=df h2;refine kN 5 (λp11=>?_) λp12=>?_;refine jA 2 Z<|ef (ecallm (E9_ _ _) Z Z Z Z Z λw3 w117p=>?_);have :=Ak_ ((g1).2) 16;generalize hg2:P_ ((g1).2) 16=g2 at *;refine kB 12 [] λ_=>?_;refine rm1 Z Z ?_ Z Z Z ?_;exact xN;exact xO;refine kN 6 (λp13=>?_) λp14=>?_
 . refine jA 2 Z<|ef (ecallm (E9_ _ _) Z Z Z Z Z λw3 w124p=>?_);have :=Ak_ ((g1).2) 16;generalize hg2:P_ ((g1).2) 16=g2 at *;refine jA 1 Z<|ef (ecallm (Dk_ _ _) Z Z Z Z Z λw4 w127p=>?_);have :=Ai_ ((g2).2) 8;generalize hg3:R_ ((g2).2) 8=g3 at *;refine jA 1 Z<|ef (ecallm (Dk_ _ _) Z Z Z Z Z λw5 w130p=>?_);have :=Ai_ ((g3).2) 1;generalize hg4:R_ ((g3).2) 1=g4 at *;refine q1 (Ju_ C_ Z Z Z Z (Uy_ rV)) Z λw6=>kB 16 [] λ_=>?_;refine rm1 Z Z ?_ Z Z Z ?_
   . have e:Gf_ i=((⟨(g0).1,(g1).1,(⟨[],0,[]⟩:W_),(⟨[],0,0,[]⟩:T_),(⟨[],[],false,[],[],false⟩:O_),(g2).1,(g3).1,(g4).1,0,0,0,(⟨0,[],[],[],[],0,0⟩:Mail),[]⟩:G_),((g4).2)):=by unfold Gf_ Jw_;simp only[G_.blank,Em_];(repeat first|simp only[hg0,hg1,hg2,hg3,hg4]|rw[if_pos rV]|rw[if_neg rV]);all_goals first|rfl|(simp[*];done)|(simp[*];rfl)
     exact zL
   have e:Gf_ i=((⟨(g0).1,(g1).1,(⟨[],0,[]⟩:W_),(⟨[],0,0,[]⟩:T_),(⟨[],[],false,[],[],false⟩:O_),(g2).1,(g3).1,(g4).1,0,0,0,(⟨0,[],[],[],[],0,0⟩:Mail),[]⟩:G_),((g4).2)):=by unfold Gf_ Jw_;simp only[G_.blank,Em_];(repeat first|simp only[hg0,hg1,hg2,hg3,hg4]|rw[if_pos rV]|rw[if_neg rV]);all_goals first|rfl|(simp[*];done)|(simp[*];rfl)
   exact zN
 refine kN 6 (λp15=>?_) λp16=>?_
 . refine jA 2 Z<|ef (ecallm (Dk_ _ _) Z Z Z Z Z λw3 w138p=>?_);have :=Ai_ ((g1).2) 1;generalize hg2:R_ ((g1).2) 1=g2 at *;refine q1 (Ju_ C_ Z Z Z Z (Uy_ rV)) Z λw4=>jA 1 Z<|ef (ecallm (Dk_ _ _) Z Z Z Z Z λw5 w142p=>?_);have :=Ai_ ((g2).2) 8;generalize hg3:R_ ((g2).2) 8=g3 at *;refine jA 1 Z<|ef (ecallm (Sz_ _) Z Z Z Z Z λw6 w145p=>?_);have :=K9_ ((g3).2);generalize hg4:D5_ ((g3).2)=g4 at *;refine kB 16 [] λ_=>?_;refine rm1 Z Z ?_ Z Z Z ?_
   . have e:Gf_ i=((⟨(g0).1,(g1).1,(⟨[],0,[]⟩:W_),(⟨[],0,0,[]⟩:T_),(⟨[],[],false,[],[],false⟩:O_),[],0,0,(g2).1,0,(g3).1,((g4).1),[]⟩:G_),((g4).2)):=by unfold Gf_ Jw_;simp only[G_.blank,Em_];(repeat first|simp only[hg0,hg1,hg2,hg3,hg4]|rw[if_pos rV]|rw[if_neg rV]);all_goals first|rfl|(simp[*];done)|(simp[*];rfl)
     exact zL
   have e:Gf_ i=((⟨(g0).1,(g1).1,(⟨[],0,[]⟩:W_),(⟨[],0,0,[]⟩:T_),(⟨[],[],false,[],[],false⟩:O_),[],0,0,(g2).1,0,(g3).1,((g4).1),[]⟩:G_),((g4).2)):=by unfold Gf_ Jw_;simp only[G_.blank,Em_];(repeat first|simp only[hg0,hg1,hg2,hg3,hg4]|rw[if_pos rV]|rw[if_neg rV]);all_goals first|rfl|(simp[*];done)|(simp[*];rfl)
   exact zN
 refine kN 6 (λp17=>?_) λp18=>?_
 . refine jA 2 Z<|ef (ecallm (Dk_ _ _) Z Z Z Z Z λw3 w152p=>?_);have :=Ai_ ((g1).2) 1;generalize hg2:R_ ((g1).2) 1=g2 at *;refine q1 (Ju_ C_ Z Z Z Z (Uy_ rV)) Z λw4=>jA 1 Z<|ef (ecallm (E9_ _ _) Z Z Z Z Z λw5 w156p=>?_);have :=Ak_ ((g2).2) 64;generalize hg3:P_ ((g2).2) 64=g3 at *;refine kB 14 [] λ_=>?_;refine rm1 Z Z ?_ Z Z Z ?_
   . have e:Gf_ i=((⟨(g0).1,(g1).1,(⟨[],0,[]⟩:W_),(⟨[],0,0,[]⟩:T_),(⟨[],[],false,[],[],false⟩:O_),[],0,0,0,(g2).1,0,(⟨0,[],[],[],[],0,0⟩:Mail),(g3).1⟩:G_),((g3).2)):=by unfold Gf_ Jw_;simp only[G_.blank,Em_];(repeat first|simp only[hg0,hg1,hg2,hg3]|rw[if_pos rV]|rw[if_neg rV]);all_goals first|rfl|(simp[*];done)|(simp[*];rfl)
     exact zL
   have e:Gf_ i=((⟨(g0).1,(g1).1,(⟨[],0,[]⟩:W_),(⟨[],0,0,[]⟩:T_),(⟨[],[],false,[],[],false⟩:O_),[],0,0,0,(g2).1,0,(⟨0,[],[],[],[],0,0⟩:Mail),(g3).1⟩:G_),((g3).2)):=by unfold Gf_ Jw_;simp only[G_.blank,Em_];(repeat first|simp only[hg0,hg1,hg2,hg3]|rw[if_pos rV]|rw[if_neg rV]);all_goals first|rfl|(simp[*];done)|(simp[*];rfl)
   exact zN
 refine kB 10 [] λ_=>?_;refine rm1 Z Z ?_ Z Z Z ?_
 . have e:Gf_ i=((⟨(g0).1,(g1).1,(⟨[],0,[]⟩:W_),(⟨[],0,0,[]⟩:T_),(⟨[],[],false,[],[],false⟩:O_),[],0,0,0,0,0,(⟨0,[],[],[],[],0,0⟩:Mail),[]⟩:G_),((g1).2)):=by unfold Gf_ Jw_;simp only[G_.blank,Em_];(repeat first|simp only[hg0,hg1]|rw[if_pos rV]|rw[if_neg rV]);all_goals first|rfl|(simp[*];done)|(simp[*];rfl)
   exact zL
 have e:Gf_ i=((⟨(g0).1,(g1).1,(⟨[],0,[]⟩:W_),(⟨[],0,0,[]⟩:T_),(⟨[],[],false,[],[],false⟩:O_),[],0,0,0,0,0,(⟨0,[],[],[],[],0,0⟩:Mail),[]⟩:G_),((g1).2)):=by unfold Gf_ Jw_;simp only[G_.blank,Em_];(repeat first|simp only[hg0,hg1]|rw[if_pos rV]|rw[if_neg rV]);all_goals first|rfl|(simp[*];done)|(simp[*];rfl)
 exact zN
theorem r4_Name(s:Bs):Fn prog gb 58 [.str s] (.int .i64 (Gp_ s)):=by
 refine kG func58 ntmps58 λw N H hG=>?_;refine kN 13 (λp0=>?_) λp1=>?_;refine kR 7 ?_;have :s=[]:=List.eq_nil_of_length_eq_zero rV;subst this;rfl;refine kN 10 (λp2=>?_) λp3=>?_;refine kR 7 ?_;have hne:¬s=[]:=λq=>by subst q;simp at *
 unfold Gp_;rw[if_neg hne,if_pos rV];refine kA 9 ?_;refine loop (ι:=Nat) [0,4,5,6,7,8,9] [] (λk=>[(3, .int .i64 (k:Int))]) (λk=>[]) (λk=>k<=s.length/\(s.drop k).all (λc=>letter c.toNat)=plain s) (λk=>s.length-k) 0 ⟨Z,U⟩ U ?_ ?_;exact⟨by omega,rfl⟩;rintro k hp0;obtain⟨hk1,hk2⟩:=hp0;refine kN 9 (λp4=>?_) λp5=>?_;have :=u8r (s.getD k 0);refine jA 8 Z<|q1 (sidx C_ k Z Z Z Z Z rV) Z λw0=>call (r4_letter _) Z Z λw1=>kM 3 (λh0=>?_) (λh0=>?_);have h1:=E2_ h0;refine kR 11 ?_;have hne:¬s=[]:=λq=>by subst q;simp at *
 unfold Gp_;rw[if_neg hne,if_neg rV,<- hk2,Yx_ (k:=k) rV];simp only[*,Bool.false_and,Bool.false_eq_true,if_false];have h1:=D1_ h0;refine kC 8 ?_;refine next (k+1) Z Z ⟨Z,U⟩ U ?_ ?_;omega;refine⟨by omega,?_⟩;rw[<- hk2,Yx_ (k:=k) rV];simp only[*,Bool.true_and];refine kR 11 ?_;have hne:¬s=[]:=λq=>by subst q;simp at *
 unfold Gp_;rw[if_neg hne,if_neg rV,<- hk2,AB rV];rfl
theorem l09_Light(h:List Pair):Fn prog gb 60 [.sl Pair.pc h] (.bool (Sr_ h)):=by
 refine kG func60 ntmps60 λw N H hG=>?_;refine kN 13 (λp0=>?_) λp1=>?_;refine kR 7 ?_;exact congrArg PV.bool (by simp[Sr_];omega);refine kA 11 ?_;refine loop (ι:=Nat) [0,5,6,7,8,9] [] (λk=>[(10, .int .i64 (k:Int))]) (λk=>[]) (λk=>k<=h.length/\h.all lightP=(h.drop k).all lightP) (λk=>h.length-k) 0 ⟨Z,U⟩ U ?_ ?_;exact yJ;rintro k hp0;obtain⟨hk1,hk2⟩:=hp0;refine kN 6 (λp2=>?_) λp3=>?_;obtain⟨c0,hc0⟩:=getE (xs:=h) (m:=k) rV;refine jA 6 Z<|kI k hc0 λw0=>?_;refine kD 19 [0] λB0=>?_;refine cnd Z (λh0=>?_) (λh0=>?_);refine kR 11 ?_;exact congrArg PV.bool (by unfold Sr_;rw[all_miss hk2 (Fc_ hc0) (by simp[lightP];first|omega|grind)];simp);have h1:=orl h0;have p4:=df h1;have h2:=orr h0;have p5:=df h2;refine kC 7 ?_;refine next (k+1) Z Z ⟨Z,U⟩ U ?_ ?_;omega;exact⟨by omega,all_step hk2 (Fc_ hc0) (by simp[lightP];omega)⟩;refine kR 11 ?_;exact congrArg PV.bool (by unfold Sr_;rw[all_end hk2 rV];simp;omega)
theorem l13_Light(m:Mail):Fn prog gb 61 [.agg (Mail.pc m)] (.bool (Tu_ m)):=by
 refine kG func61 ntmps61 λw N H hG=>?_;have m_w:=Mail.pwf w.1;have m_w':=m_w;simp only[Mail.wf] at m_w';refine kD 21 [0] λB0=>?_;refine H9_ Z (λhc=>(l09_Light _)) Z ⟨(λhc=>hc),trivial⟩ Z Z λ_=>?_;refine kC 11 ?_;refine rt1 Z Z (ple ?_);refine congrArg PV.bool ?_;unfold Tu_;exact xG
theorem l22_Light(d:G_):Fn prog gb 27 [.agg (G_.pc d)] (.bool (Sq_ d)):=by
 refine kG func27 ntmps27 λw N H hG=>?_;have d_w:=G_.pwf w.1;have d_w':=d_w;simp only[G_.wf,W_.wf,T_.wf,O_.wf,Mail.wf] at d_w';refine kB 35 [0] λB0=>?_;refine q1 (qmaxN (z:=(d.Bl_.name.length:Int)) (r:=(max (max (max (max (max (max (d.Bl_.name.length:Int) (d.Bl_.to'.length:Int)) (d.queue.name.length:Int)) (d.queue.dead.length:Int)) (d.bind.Bl_.length:Int)) (d.bind.to'.length:Int)) (d.name.length:Int))) [(d.Bl_.to'.length:Int),(d.queue.name.length:Int),(d.queue.dead.length:Int),(d.bind.Bl_.length:Int),(d.bind.to'.length:Int),(d.name.length:Int)] Z Z (Uk_ rV)) Z λw0=>kC 22 ?_;refine H9_ Z (λhc=>(l09_Light _)) Z ⟨(λhc=>hc),trivial⟩ Z Z λ_=>?_;refine kC 4 ?_;refine H9_ Z (λhc=>(l13_Light _)) Z ⟨(λhc=>hc),trivial⟩ Z Z λ_=>?_;refine kC 5 ?_;refine rt1 Z Z (ple ?_);refine congrArg PV.bool ?_;unfold Sq_;exact xG
theorem Za_(r:Rule):Fn prog gb 199 [.agg (Rule.pc r)] (.int .i64 (Xo_ r)):=by
 refine kG func199 ntmps199 λw N H hG=>?_;have r_w:=Rule.pwf w.1;have r_w':=r_w;simp only[Rule.wf] at r_w';refine kB 21 [0] λB0=>?_;refine cn Z (λp0=>?_) λp1=>?_;refine kR 8 ?_;exact wF;refine kN 8 (λp2=>?_) λp3=>?_;refine kL 3 (words_Key _) Z Z Z λw0=>kM 11 (λh0=>?_) (λh0=>?_);have h1:=E2_ h0;refine kR 8 ?_;exact wF;exact rH;refine kL 3 (words_Pattern _) Z Z Z λw0=>kM 11 (λh0=>?_) (λh0=>?_);have h1:=E2_ h0;refine kR 8 ?_;exact wF;exact rH
theorem rule_heads(r:Rule)(h:List Pair):Fn prog gb 276 [.agg (Rule.pc r), .sl Pair.pc h] (.bool (No_ r.all h r.want)):=by
 refine kG func276 ntmps276 λw N H hG=>?_;have r_want_l:r.want.length<=140737488355328:=w.1.2.2.1.1;refine kB 20 [0] λB0=>?_;refine loop (ι:=Nat) [0,1,2,10,11,12] [0] (λk=>[(13, .int .i64 (k:Int))]) (λk=>[]) (λk=>k<=r.want.length/\No_ r.all h r.want=No_ r.all h (r.want.drop k)) (λk=>r.want.length-k) 0 ⟨Z,U⟩ U ?_ ?_;exact yJ;rintro k hp0;obtain⟨hk1,hk2⟩:=hp0;refine kN 6 (λp0=>?_) λp1=>?_;obtain⟨c0,hc0⟩:=getE (xs:=r.want) (m:=k) rV;refine jA 6 Z<|kI k hc0 λw0=>?_;refine kB 10 [1] λB1=>?_;refine call (head_Find _ _) Z Z λw1=>kB 14 [2] λB2=>?_;refine q1g [26,27] Z (λhc=>saeq Z Z eqg232 (veq232 ((Ya_ h c0.key).getD Pair.zero) c0)) ⟨(λhc=>hc),(λhc=>hc),trivial⟩ Z Z Z λ_=>?_;refine kC 15 ?_;refine cnd Z (λh0=>?_) (λh0=>?_);have h1:=bl h0;have h2:=bl h1;have h3:=br h1;have p2:=dt h3;have h4:=br h0;refine kC 8 ?_;refine next (k+1) Z Z ⟨Z,U⟩ U ?_ ?_;omega;refine⟨by omega,?_⟩;exact tL;refine kM 6 (λh1=>?_) (λh1=>?_);have h2:=bl h1;have h3:=br h1;have p2:=dt h3;refine kR 13 ?_;refine congrArg PV.bool ?_;exact tL;refine kM 7 (λh2=>?_) (λh2=>?_);refine kR 13 ?_;refine congrArg PV.bool ?_;exact tL;refine kC 8 ?_;refine next (k+1) Z Z ⟨Z,U⟩ U ?_ ?_;omega;refine⟨by omega,?_⟩;exact tL;refine kR 14 ?_;refine congrArg PV.bool ?_;rw[hk2,AB rV];rfl
theorem Xp_(r:Rule)(key:Bs)(h:List Pair)(hrk:r.key.length<4294967281:=by first|omega|(simp;done)|decide)(hk:key.length<4294967281:=by first|omega|(simp;done)|decide):Fn prog gb 232 [.agg (Rule.pc r), .str key, .sl Pair.pc h] (.bool (Tr_ r key h)):=by
 refine kG func232 ntmps232 λw N H hG=>?_;refine kB 20 [0] λB0=>?_;refine cn Z (λp0=>?_) λp1=>?_;refine kR 12 ?_;exact wK;refine kN 6 (λp2=>?_) λp3=>?_;refine kL 5 (Mc_ _ _) Z Z Z λw0=>kR 6 ?_;exact wK;refine kN 6 (λp4=>?_) λp5=>?_;refine kL 4 (rule_heads _ _) Z Z Z λw0=>kR 6 ?_;exact wK;refine kR 9 ?_;exact wK
theorem match_Same(a:Rule)(b:Rule):Fn prog gb 202 [.agg (Rule.pc a), .agg (Rule.pc b)] (.bool (decide (a=b))):=by
 refine kG func202 ntmps202 λw N H hG=>?_;refine kD 33 [0,1] λB0=>?_;refine H9_ Z (λhc=>(eq_Pair _ _)) Z ⟨(λhc=>hc),(λhc=>hc),trivial⟩ Z Z λ_=>?_;refine kC 5 ?_;refine rt1 Z Z (ple ?_);exact congrArg PV.bool (by rw[B6];first|(simp[Rule.eq_iff,and_assoc];done)|(simp[Rule.eq_iff];grind))
theorem eq_Str(a:List Bs)(b:List Bs):Fn prog gb 334 [.sl strc a, .sl strc b] (.bool (decide (a=b))):=by
 refine kG func334 ntmps334 λw N H hG=>?_;have a_l:a.length<=140737488355328:=w.1.1;refine kM 15 (λh0=>?_) (λh0=>?_);exact xQ;have h1:=D1_ h0;have p0:=dt h1;refine kA 11 ?_;refine loop (ι:=Nat) [0,1,6,7,8,9,10,11,12] [] (λk=>[(13, .int .i64 (k:Int))]) (λk=>[]) (λk=>k<=a.length /\ decide (a=b) = decide (a.drop k=b.drop k)) (λk=>a.length-k) 0 ⟨Z,U⟩ U ?_ ?_;exact yJ;rintro k hp0;obtain⟨hk1,hk2⟩:=hp0;refine kM 6 (λh2=>?_) (λh2=>?_);have p1:=dt h2;refine kA 11 ?_;refine aN [0,1,2,3,4,5] 9 mixd<|kE [0,1] 7 ?_;obtain⟨c0,hc0⟩:=getE (xs:=a) (m:=k) rV;refine vq 2 (qidx C_ k Z Z Z hc0 Z Z Z Z) Z rW Z λw0=>kE [3,4,5] 3 ?_;obtain⟨c1,hc1⟩:=getE (xs:=b) (m:=k) rV;refine vq 6 (qidx C_ k Z Z Z hc1 Z Z Z Z) Z rW Z λw1=>kE [7,8] 0 ?_;refine vD<|kM 1 (λh3=>?_) (λh3=>?_);exact xS;have h4:=D1_ h3;have p2:=dt h4;refine kC 7 ?_;refine next (k+1) Z Z ⟨Z,U⟩ U ?_ ?_;omega;exact yY;exact xY
theorem index_Str(l:List Bs)(x:Bs):Fn prog gb 292 [.sl strc l, .str x] (.int .i64 (idxP (λy=>decide (x=y)) l)):=by
 refine kG func292 ntmps292 λw N H hG=>?_;have l_l:l.length<=140737488355328:=w.1.1;refine kA 14 ?_;refine loop (ι:=Nat) [0,1,6,7] [] (λk=>[(8, .int .i64 (k:Int))]) (λk=>[]) (λk=>k<=l.length/\idxP (λy=>decide (x=y)) l=idxF (λy=>decide (x=y)) k (l.drop k)) (λk=>l.length-k) 0 ⟨Z,U⟩ U ?_ ?_;exact yJ;rintro k hp0;obtain⟨hik1,hik2⟩:=hp0;refine kM 6 (λh0=>?_) (λh0=>?_);have p0:=dt h0;obtain⟨c0,hc0⟩:=getE (xs:=l) (m:=k) rV;refine jA 15 Z<|kI k hc0 λw0=>?_;refine kM 4 (λh1=>?_) (λh1=>?_);have p1:=dt h1;exact vX;have p1:=df h1;refine kC 7 ?_;refine next (k+1) Z Z ⟨Z,U⟩ U ?_ ?_;omega;exact⟨by omega,L7_ hik2 (Fc_ hc0) rY⟩;have p0:=df h0;exact vW
theorem contains_Str(l:List Bs)(x:Bs):Fn prog gb 277 [.sl strc l, .str x] (.bool (decide (x∈l))):=by
 refine kG func277 ntmps277 λw N H hG=>?_;refine kL 9 (index_Str _ _) Z Z Z λw0=>?_;have :=idxP_r (λy=>decide (x=y)) l;refine kR 5 ?_;refine congrArg PV.bool ?_;rw[B6,decide_eq_true_eq,decide_eq_true_eq,idxP_any];simp
theorem shop_check(x:W_):Fn prog gb 191 [.agg (W_.pc x)] (.int .i64 (P2_ x)):=by
 refine kG func191 ntmps191 λw N H hG=>?_;refine kB 11 [0] λB0=>?_;refine call (Fl_ _) Z Z λw0=>kM 9 (λh0=>?_) (λh0=>?_);have h1:=E2_ h0;refine kR 8 ?_;exact wH;have h1:=D1_ h0;have p0:=dt h1;refine kM 12 (λh2=>?_) (λh2=>?_);have p1:=dt h2;refine kR 8 ?_;exact wH;have p1:=df h2;refine kM 8 (λh3=>?_) (λh3=>?_);have p2:=dt h3;refine kL 4 (Fl_ _) Z Z Z λw1=>kR 6 ?_;exact wH;have p2:=df h3;refine kM 8 (λh4=>?_) (λh4=>?_);have h5:=E2_ h4;refine kR 8 ?_;exact wH;have h5:=D1_ h4;refine kR 9 ?_;exact wH
theorem Rv_(b:Az_)(name:Bs):Fn prog gb 171 [.agg (Az_.pc b), .str name] (.tup [.agg (W_.pc ((H1_ b.D3_ name).getD W_.zero)), .bool ((H1_ b.D3_ name).isSome)]):=by
 refine kG func171 ntmps171 λw N H hG=>?_;have b_shops_l:b.D3_.length<=140737488355328:=w.1.1.1;refine kB 17 [0,1] λB0=>?_;refine loop (ι:=Nat) [0,1,2,4,8,9,10] [0,1] (λk=>[(11, .int .i64 (k:Int))]) (λk=>[]) (λk=>k<=b.D3_.length/\H1_ b.D3_ name=H1_ (b.D3_.drop k) name) (λk=>b.D3_.length-k) 0 ⟨Z,U⟩ U ?_ ?_;exact yJ;rintro k hp0;obtain⟨hk1,hk2⟩:=hp0;refine kM 6 (λh0=>?_) (λh0=>?_);have p0:=dt h0;obtain⟨c0,hc0⟩:=getE (xs:=b.D3_) (m:=k) rV;refine jA 6 Z<|kI k hc0 λw0=>?_;refine kB 13 [2] λB1=>?_;refine cnd Z (λh1=>?_) (λh1=>?_);have p1:=dt h1;refine kB 13 [] λ_=>?_;refine rt2 Z Z ?_;refine ple ?_;have e:=shopOf_hit hk2 (Fc_ hc0) rY;rw[e];rfl;have p1:=df h1;refine kC 7 ?_;refine next (k+1) Z Z ⟨Z,U⟩ U ?_ ?_;exact zB;exact⟨by omega,shopOf_miss hk2 (Fc_ hc0) rY⟩;have p0:=df h0;refine kB 13 [] λ_=>?_;refine rt2 Z Z ?_;refine ple ?_;rw[AB rV] at hk2;rw[hk2];rfl
theorem Ru_(x:O_)(sort:Int):Fn prog gb 198 [.agg (O_.pc x), .int .u8 sort] (.agg (Rule.pc (M5_ x sort))):=by
 refine kG func198 ntmps198 λw N H hG=>?_;refine kB 20 [0,1] λB0=>?_;exact uG
theorem bind_same(x:O_)(y:O_):Fn prog gb 120 [.agg (O_.pc x), .agg (O_.pc y)] (.bool (decide (x=y))):=by
 refine kG func120 ntmps120 λw N H hG=>?_;refine kB 8 [0,1] λB0=>?_;refine aN [2,3,4,5,6,7] 27 mixd<|kF [0,1,2,3,4,5,6,7,8,9,10,11,12,13,14,15,16,17,18,19,20,22] 5 ?_;refine vE 21 Z (ecallg Z (λhc=>(Ru_ _ _)) Z ⟨(λhc=>hc),trivial⟩ Z Z λ_=>?_);refine vE 23 Z (ecallg Z (λhc=>(Ru_ _ _)) Z ⟨(λhc=>hc),trivial⟩ Z Z λ_=>?_);refine Ti_ 24 Z rW Z (λhc=>(match_Same _ _)) Z Z ⟨(λhc=>hc),(λhc=>hc),trivial⟩ Z λ_=>?_;refine kF [25,26] 0 ?_;refine vD<|kR 2 ?_;exact congrArg PV.bool (by rw[B6];first|(simp[O_.eq_iff,M5_,and_assoc];done)|(simp[O_.eq_iff,M5_];grind))
theorem Ym_(s:List Pair)(hl:s.length<=1000000:=by first|omega|(simp;done)|(simp;omega)):Fn prog gb 176 [.sl Pair.pc s] (.sl Pair.pc s):=by
 refine kG func176 ntmps176 λw N H hG=>?_;refine jA 9 Z<|ef (lnil C_ Z Z Z Z Z λb0 hb2=>?_);refine kM 2 (λh0=>?_) (λh0=>?_);exact wV;refine jA 4 Z<|ef (bsl 0 Pair.pc [] C_ Z Z Z Z Z (λ_=>rfl) Z rX rX Z λu0=>?_);exact wM
theorem Yj_(x:O_)(hl:x.want.length<=1000000:=by first|omega|(simp;done)|decide):Fn prog gb 153 [.agg (O_.pc x)] (.agg (O_.pc x)):=by
 refine kG func153 ntmps153 λw N H hG=>?_;refine kB 10 [0,1] λB0=>?_;refine call (Ym_ _) Z Z λw0=>kB 11 [] λ_=>?_;exact uG
theorem idxF_Bind(s:List O_)(f:FuncId)(f_fst f_cap:List PV)(f_p:O_->Bool)(f_h:∀ x,Fn prog gb f (argsP.apL f_fst ((.agg (O_.pc x))::f_cap)) (.bool (f_p x))):Fn prog gb 252 [.sl O_.pc s, .fn f f_fst f_cap] (.int .i64 (idxP f_p s)):=by
 refine kG func252 ntmps252 λw N H hG=>?_;have s_l:s.length<=140737488355328:=w.1.1;refine kA 14 ?_;refine loop (ι:=Nat) [0,1,6,7] [] (λk=>[(8, .int .i64 (k:Int))]) (λk=>[]) (λk=>k<=s.length/\idxP f_p s=idxF f_p k (s.drop k)) (λk=>s.length-k) 0 ⟨Z,U⟩ U ?_ ?_;exact yJ;rintro k hp0;obtain⟨hk1,hk2⟩:=hp0;refine kM 6 (λh0=>?_) (λh0=>?_);have p0:=dt h0;obtain⟨c0,hc0⟩:=getE (xs:=s) (m:=k) rV;refine jA 15 Z<|kI k hc0 λw0=>?_;refine kL 1 (f_h c0) Z Z Z λw1=>kM 2 (λh1=>?_) (λh1=>?_);exact vY;refine kC 7 ?_;refine next (k+1) Z Z ⟨Z,U⟩ U ?_ ?_;omega;exact yX;exact xW
theorem cb251:S_ prog 251:=J_ func251 rW rW
theorem cb253:S_ prog 253:=J_ func253 rW rW
theorem grow_Shop(n:Int)(hn:0<=n/\n<=100000000:=by omega):Fo prog gb 251 [.val (.slice none 0 0), .int .i64 n] (λu=> .val u) 3 40 W_.pc ([]:List W_):=by
 refine Z4_ C_ func251 Z ntmps251 Z cb251 (λ_=>rfl) Z λw N H hG=>?_;refine kM 12 (λh0=>?_) (λh0=>?_);exact xX;have p0:=df h0;refine jA 7 Z<|q1 (Uw_ C_ Z Z Z) Z λw0=>jA 1 Z<|q1 (Ux_ C_ Z Z Z) Z λw1=>kC 11 ?_;refine cn Z (λp1=>?_) λp2=>?_;refine jA 3 Z<|q1 (Uw_ C_ Z Z Z) Z λw2=>q1 (qcut0 C_ Z Z Z Z Z rV) Z λw3=>jA 1 Z<|ef (appz (m:=((n-(0-0))).toNat) 0 C_ Z Z Z Z Z Z Z Z Z Z rV rV qX Z Z λu0=>?_);refine jA 1 Z<|q1 (Ux_ C_ Z Z Z) Z λw4=>ef (ocut W_.pc C_ Z Z Z Z Z Z rV Z λu1=>?_);exact vG;refine kA 8 ?_;refine sw_own (t:=4) (k:=3) (e:=40) 0 W_.pc Z Z ?_;exact wC
theorem Vp_(ls:List (List W_))(hl:ls.flatten.length<=100000000:=by first|omega|(simp;done)|(simp;omega)|(simp only[List.flatten_cons,List.flatten_nil,List.length_append,List.append_nil];simp;omega)):Fn prog gb 192 [.sl (slc W_.pc) ls] (.sl W_.pc ls.flatten):=by
 refine kG func192 ntmps192 λw N H hG=>?_;have ls_l:ls.length<=140737488355328:=w.1.1;refine kA 19 ?_;refine loop (ι:=Nat×Int) [0,2,9,10] [] (λ⟨k,n⟩=>[(3, .int .i64 n),(11, .int .i64 (k:Int))]) (λ⟨k,n⟩=>[]) (λ⟨k,n⟩=>k<=ls.length/\n=((ls.take k).flatten.length:Int)) (λ⟨k,n⟩=>ls.length-k) ⟨0,0⟩ ⟨Z,Z,U⟩ U ?_ ?_;exact yB;rintro⟨k,n⟩ hp0;obtain⟨hk1,hk2⟩:=hp0;have hg0:=Eq_ ls k;refine kN 6 (λp0=>?_) λp1=>?_;obtain⟨c0,hc0⟩:=getE (xs:=ls) (m:=k) rV;refine jA 6 Z<|kI k hc0 λw0=>?_;refine go C_ 19 Z Z ⟨qH,trivial⟩ ?_;refine cnd Z (λh0=>?_) (λh0=>?_);exact xZ;have p2:=df h0;refine go C_ 7 Z Z ⟨qH,trivial⟩ ?_;refine next ⟨(k+1),(n+(c0.length:Int))⟩ Z Z ⟨Z,Z,U⟩ U ?_ ?_;exact zB;exact xT;refine jA 8 Z<|ef (Mh_ 0 (grow_Shop _) Z Z λu0 w0=>?_);refine kA 12 ?_;refine Xx_ (t:=6) 0 Z Z ?_;refine loop (ι:=Nat×(List W_)×Value) [0,2,3,9,10,11,12,23,24,25,26] [] (λ⟨k,out,u_out⟩=>[(6, .osl 0),(27, .int .i64 (k:Int))]) (λ⟨k,out,u_out⟩=>[(0, .arr u_out 3 40 W_.pc out)]) (λ⟨k,out,u_out⟩=>k<=ls.length/\out=(ls.take k).flatten) (λ⟨k,out,u_out⟩=>ls.length-k) ⟨0,([]:List W_),(u0)⟩ ⟨Z,Z,U⟩ ⟨Z,U⟩ ?_ ?_;exact yB;rintro⟨k,out,u_out⟩ hp1;obtain⟨hk1,hk2⟩:=hp1;refine kN 6 (λp2=>?_) λp3=>?_;obtain⟨c0,hc0⟩:=getE (xs:=ls) (m:=k) rV;refine jA 6 Z<|kI k hc0 λw1=>?_;refine jA 7 Z<|ef (app C_ c0 Z Z Z Z Z Z Z Z Z (Rg_ Z (λ_=>rfl)) pB Z λu1=>?_);refine go C_ 8 Z Z ⟨qH,trivial⟩ ?_;refine next ⟨(k+1),(out++c0),(u1)⟩ Z Z ⟨Z,Z,U⟩ ⟨Z,U⟩ ?_ ?_;exact zB;exact yZ;exact wO
theorem grow_Bind(n:Int)(hn:0<=n/\n<=100000000:=by omega):Fo prog gb 253 [.val (.slice none 0 0), .int .i64 n] (λu=> .val u) 6 45 O_.pc ([]:List O_):=by
 refine Z4_ C_ func253 Z ntmps253 Z cb253 (λ_=>rfl) Z λw N H hG=>?_;refine kM 12 (λh0=>?_) (λh0=>?_);exact xX;have p0:=df h0;refine jA 7 Z<|q1 (Uw_ C_ Z Z Z) Z λw0=>jA 1 Z<|q1 (Ux_ C_ Z Z Z) Z λw1=>kC 11 ?_;refine cn Z (λp1=>?_) λp2=>?_;refine jA 3 Z<|q1 (Uw_ C_ Z Z Z) Z λw2=>q1 (qcut0 C_ Z Z Z Z Z rV) Z λw3=>jA 1 Z<|ef (appz (m:=((n-(0-0))).toNat) 0 C_ Z Z Z Z Z Z Z Z Z Z rV rV qX Z Z λu0=>?_);refine jA 1 Z<|q1 (Ux_ C_ Z Z Z) Z λw4=>ef (ocut O_.pc C_ Z Z Z Z Z Z rV Z λu1=>?_);exact vG;refine kA 8 ?_;refine sw_own (t:=4) (k:=6) (e:=45) 0 O_.pc Z Z ?_;exact wC
theorem Vn_(ls:List (List O_))(hl:ls.flatten.length<=100000000:=by first|omega|(simp;done)|(simp;omega)|(simp only[List.flatten_cons,List.flatten_nil,List.length_append,List.append_nil];simp;omega)):Fn prog gb 197 [.sl (slc O_.pc) ls] (.sl O_.pc ls.flatten):=by
 refine kG func197 ntmps197 λw N H hG=>?_;have ls_l:ls.length<=140737488355328:=w.1.1;refine kA 19 ?_;refine loop (ι:=Nat×Int) [0,2,9,10] [] (λ⟨k,n⟩=>[(3, .int .i64 n),(11, .int .i64 (k:Int))]) (λ⟨k,n⟩=>[]) (λ⟨k,n⟩=>k<=ls.length/\n=((ls.take k).flatten.length:Int)) (λ⟨k,n⟩=>ls.length-k) ⟨0,0⟩ ⟨Z,Z,U⟩ U ?_ ?_;exact yB;rintro⟨k,n⟩ hp0;obtain⟨hk1,hk2⟩:=hp0;have hg0:=Eq_ ls k;refine kN 6 (λp0=>?_) λp1=>?_;obtain⟨c0,hc0⟩:=getE (xs:=ls) (m:=k) rV;refine jA 6 Z<|kI k hc0 λw0=>?_;refine go C_ 19 Z Z ⟨qH,trivial⟩ ?_;refine cnd Z (λh0=>?_) (λh0=>?_);exact xZ;have p2:=df h0;refine go C_ 7 Z Z ⟨qH,trivial⟩ ?_;refine next ⟨(k+1),(n+(c0.length:Int))⟩ Z Z ⟨Z,Z,U⟩ U ?_ ?_;exact zB;exact xT;refine jA 8 Z<|ef (Mh_ 0 (grow_Bind _) Z Z λu0 w0=>?_);refine kA 12 ?_;refine Xx_ (t:=6) 0 Z Z ?_;refine loop (ι:=Nat×(List O_)×Value) [0,2,3,9,10,11,12,23,24,25,26] [] (λ⟨k,out,u_out⟩=>[(6, .osl 0),(27, .int .i64 (k:Int))]) (λ⟨k,out,u_out⟩=>[(0, .arr u_out 6 45 O_.pc out)]) (λ⟨k,out,u_out⟩=>k<=ls.length/\out=(ls.take k).flatten) (λ⟨k,out,u_out⟩=>ls.length-k) ⟨0,([]:List O_),(u0)⟩ ⟨Z,Z,U⟩ ⟨Z,U⟩ ?_ ?_;exact yB;rintro⟨k,out,u_out⟩ hp1;obtain⟨hk1,hk2⟩:=hp1;refine kN 6 (λp2=>?_) λp3=>?_;obtain⟨c0,hc0⟩:=getE (xs:=ls) (m:=k) rV;refine jA 6 Z<|kI k hc0 λw1=>?_;refine jA 7 Z<|ef (app C_ c0 Z Z Z Z Z Z Z Z Z (Rg_ Z (λ_=>rfl)) pB Z λu1=>?_);refine go C_ 8 Z Z ⟨qH,trivial⟩ ?_;refine next ⟨(k+1),(out++c0),(u1)⟩ Z Z ⟨Z,Z,U⟩ ⟨Z,U⟩ ?_ ?_;exact zB;exact yZ;exact wO
theorem cb233:S_ prog 233:=J_ func233 rW rW
theorem Um_(l:List Bs)(s:Bs)(hl:l.length<=100000:=by first|omega|(simp;omega)|decide +kernel):Fl prog gb 233 [.str s] (λu=> .val u) 1 9 strc l (Iq_ l s):=by
 refine fl_cw C_ func233 Z ntmps233 Z cb233 (λ_=>rfl) Z λw l_l u0 N H hG=>?_;have e0:=Iq_.eq_1 l s;refine jA 10 Z<|ef (O7_ 0 Z (contains_Str _ _) Z Z Z λw0=>?_);refine jA 2 Z<|cD e0 (λp0 e1=>?_) (λp1 e2=>?_);refine kA 6 ?_;refine Je_ (t:=4) (i:=0) Z Z ?_;refine kA 2 ?_;refine ro1 (j:=0) Z Z Z ?_;exact (congrArg (λr:(List Bs)=>r) e1).symm;refine jA 6 Z<|ef (bsl 1 strc [s] C_ Z Z Z Z Z (λ_=>rfl) Z rX rX Z λu1=>?_);refine ef (app C_ [s] Z Z Z Z Z Z Z Z Z (src_o Z Z) qC Z λu2=>?_);refine kA 3 ?_;refine Je_ (t:=4) (i:=0) Z Z ?_;refine kA 1 ?_;refine ro1 (j:=0) Z Z Z ?_;exact (congrArg (λr:(List Bs)=>r) e2).symm
theorem Nk_(b:Az_)(x:W_)(hs:b.D3_.length<=1000:=by first|omega|(simp;omega)|decide +kernel):Fn prog gb 108 [.agg (Az_.pc b), .agg (W_.pc x)] (.tup [.agg (Az_.pc ((Dd_ b x).1)), .int .i64 ((Dd_ b x).2)]):=by
 refine kG func108 ntmps108 λw N H hG=>?_;have e0:=Dd_.eq_1 b x;generalize Dd_ b x=z at e0 ⊢;refine kB 12 [0,1,2] λB0=>?_;refine call (shop_check _) Z Z λw0=>?_;have :=shopE_r x;refine jA 9 Z<|cN e0 (λp0 e1=>?_) (λp1 e2=>?_);exact vH;refine kL 7 (Rv_ _ _) Z Z Z λw1=>kB 16 [3] λB1=>?_;refine q1g [25,26] Z (λhc=>saeq Z Z eqg40 (veq40 x ((H1_ b.D3_ x.name).getD W_.zero))) ⟨(λhc=>hc),(λhc=>hc),trivial⟩ Z Z Z λ_=>?_;refine kC 4 ?_;refine cE e2 (λh0 e3=>?_) (λh0 e4=>?_);have h1:=bl h0;have h2:=br h0;exact vJ;refine jA 6 Z<|cE e4 (λh1 e5=>?_) (λh1 e6=>?_);exact vK;refine jA 9 Z<|cD e6 (λp2 e7=>?_) (λp3 e8=>?_);exact vL;refine jA 8 Z<|ef (bsl 4 W_.pc [x] C_ Z Z Z Z Z (λ_=>rfl) Z rX rX Z λu0=>?_);refine give 4 Z<|ef (bsl 4 (slc W_.pc) [b.D3_,[x]] C_ Z Z Z Z Z (λ_=>rfl) Z rX rX Z λu1=>?_);refine give 4 Z<|call (Vp_ _) Z Z λw2=>kB 12 [] λ_=>?_;subst e8;exact qr2
theorem Mx_(b:Az_)(x:O_):Fn prog gb 196 [.agg (Az_.pc b), .agg (O_.pc x)] (.int .i64 (Fe_ b x)):=by
 refine kG func196 ntmps196 λw N H hG=>?_;have e0:=Fe_.eq_1 b x;refine kB 13 [0,1] λB0=>?_;refine call (idxF_Bind _ _ _ _ (λz_4:O_=>decide (x=z_4)) (λz_4=>bind_same x z_4)) Z Z λw0=>kA 4 ?_;exact zW
abbrev R0_:Int->PV:=λr=> .int .i64 r
theorem Kz_(b:Az_)(x:O_)(hb:b.binds.length<=1000:=by first|omega|(simp;omega)|decide +kernel)(hw:x.want.length<=1000:=by first|omega|(simp;omega)|decide +kernel):Fn prog gb 111 [.agg (Az_.pc b), .agg (O_.pc x)] (.tup [.agg (Az_.pc ((B0_ b x).1)), .int .i64 ((B0_ b x).2)]):=by
 refine kG func111 ntmps111 λw N H hG=>?_;have e0:=B0_.eq_1 b x;generalize B0_ b x=z at e0 ⊢;refine kB 13 [0,1,2] λB0=>?_;refine call (Rv_ _ _) Z Z λw0=>kB 17 [3] λB1=>?_;refine cE e0 (λh0 e1=>?_) (λh0 e2=>?_);have h1:=E2_ h0;exact vH;have h1:=D1_ h0;refine jA 8 Z<|cD e2 (λp0 e3=>?_) (λp1 e4=>?_);exact vJ;refine kL 8 (Fl_ _) Z Z Z λw1=>jA 9 Z<|cN e4 (λp2 e5=>?_) (λp3 e6=>?_);exact vK;refine kL 8 (Ru_ _ _) Z Z Z λw2=>call (Za_ _) Z Z λw3=>jA 11 Z<|cN e6 (λp4 e7=>?_) (λp5 e8=>?_);refine kB 11 [] λ_=>?_;subst e7;exact qr2;refine jA 4 Z<|cV e8 R0_ (Mx_ _ _) Z λr hr0 e9 w4=>jA 4 Z<|cD e9 (λp6 e10=>?_) (λp7 e11=>?_);refine kB 10 [] λ_=>?_;subst e10;exact qr2;refine jA 9 Z<|cD e11 (λp8 e12=>?_) (λp9 e13=>?_);refine kB 10 [] λ_=>?_;subst e12;exact qr2;refine kA 4 ?_;refine aN [4,5,6,7,8,9] 9 mixd<|kE [0,1,2] 6 ?_;refine vE 3 Z (eC (Yj_ _) Z λw5=>?_);refine vE 4 Z (bsl 4 O_.pc [x] C_ Z Z Z Z Z (λ_=>rfl) Z rX rX Z λu0=>?_);refine vE 5 Z (X9_ 4 Z (bsl 4 (slc O_.pc) [b.binds,[x]] C_ Z Z Z Z Z (λ_=>rfl) Z rX rX Z λu1=>?_));refine vE 6 Z (X9_ 4 Z (eweak (eC (Vn_ _) Z λw6=>?_)));refine kE [7] 1 ?_;refine vT 8 Z (sO C_ ?_);refine vD<|kB 9 [] λ_=>?_;subst e13;exact qr2
theorem Mw_(b:Az_)(Bl_:Bs)(key:Bs)(h:List Pair)(hb:b.binds.length<=1000:=by first|omega|(simp;omega)|decide +kernel)(hk:key.length<4294967281:=by first|omega|(simp;omega)|decide +kernel)(hr:∀ y∈b.binds,y.key.length<4294967281:=by first|assumption|decide +kernel):Fn prog gb 170 [.agg (Az_.pc b), .str Bl_, .str key, .sl Pair.pc h] (.tup [.sl strc ((Cs_ b Bl_ key h).1), .sl strc ((Cs_ b Bl_ key h).2.1), .int .i64 ((Cs_ b Bl_ key h).2.2)]):=by
 refine kG func170 ntmps170 λw N H hG=>?_;have e0:=Cs_.eq_1 b Bl_ key h;generalize Cs_ b Bl_ key h=z at e0 ⊢;refine kB 13 [0] λB0=>?_;refine call (Rv_ _ _) Z Z λw0=>kB 17 [1] λB1=>?_;refine cE e0 (λh0 e1=>?_) (λh0 e2=>?_);have h1:=E2_ h0;refine kA 11 ?_;subst e1;exact rt3 Z Z (Eu_ (A_ Al_ (A_ Al_ (A_ (ple Z) Aq_))));have h1:=D1_ h0;refine jA 8 Z<|cD e2 (λp0 e3=>?_) (λp1 e4=>?_);refine kA 1 ?_;refine aN [2,3,4,5,6,7] 6 mixd<|kE [0,1,3] 3 ?_;refine vE 2 Z (bsl 2 strc [((H1_ b.D3_ Bl_).getD W_.zero).to'] C_ Z Z Z Z Z (λ_=>rfl) Z rX rX Z λu0=>?_);refine kE [4,5] 0 ?_;refine vD<|kA 1 ?_;refine Kp_ 2 Z ?_;refine kA 4 ?_;subst e3;exact rt3 Z Z (Eu_ (A_ Al_ (A_ (ple Z) (A_ (ple Z) Aq_))));refine kA 22 ?_;refine sw_own (t:=13) (k:=1) (e:=9) 2 strc Z Z ?_;refine sw_own (t:=14) (k:=1) (e:=9) 3 strc Z Z ?_;refine loop (ι:=Nat×(List Bs)×(List Bs)×Value×Value) [1,2,3,8,9,10,11,34,35] [0,1] (λ⟨k,queues,places,u_queues,u_places⟩=>[(36, .int .i64 (k:Int)),(13, .osl 2),(14, .osl 3)]) (λ⟨k,queues,places,u_queues,u_places⟩=>[(2, .arr u_queues 1 9 strc queues),(3, .arr u_places 1 9 strc places)]) (λ⟨k,queues,places,u_queues,u_places⟩=>k<=b.binds.length/\z=Bq_ b Bl_ key h (b.binds.drop k) queues places/\queues.length<=k/\places.length<=k) (λ⟨k,queues,places,u_queues,u_places⟩=>b.binds.length-k) ⟨0,[],[],(.slice none 0 0),(.slice none 0 0)⟩ ⟨Z,Z,Z,U⟩ ⟨Z,Z,U⟩ ?_ ?_;exact⟨Nat.zero_le _,e4,qC⟩;rintro⟨k,queues,places,u_queues,u_places⟩ ⟨hp17_1,hp17_2,hp17_3⟩;refine kN 6 (λp2=>?_) λp3=>?_;have e5:=Cm_ (f:=λzz=>Bq_ b Bl_ key h zz queues places) hp17_2 (Gv_ rV) (Bq_.eq_2 _ _ _ _ _ _ _ _);have hc0:=getG (xs:=b.binds) (k:=k) rV;have hr_hc21:=hr (gt b.binds k) (A2 hc0);refine jA 6 Z<|kI k hc0 λw1=>?_;refine kB 7 [4] λB2=>?_;obtain⟨o,e_o,q_o⟩:=I9_ e5;refine Ia_ (ι:=Bool) [1,2,3,8,9,10,11,13,14,16,34,35,36] [0,1,2,3,4] (λv=>[(44, .bool v)]) (λv=>[]) (λv=>o=v) ?_ ?_;refine jA 9 Z<|cN e_o (λp4 e6=>?_) (λp5 e7=>?_);refine kA 1 ?_;refine nX (!decide (((gt b.binds k).Bl_)=Bl_)) ?_ ⟨Z,U⟩ U;exact e6;refine kL 4 (Ru_ _ _) Z Z Z λw2=>kL 2 (Xp_ _ _ _ (hrk:=by simp only[M5_];omega)) Z Z Z λw3=>?_;refine kA 3 ?_;refine nX (!(Tr_ (M5_ (gt b.binds k) (((H1_ b.D3_ Bl_).getD W_.zero).sort)) key h)) ?_ ⟨Z,U⟩ U;exact e7;rintro v hp0;have e6:=Mn_ q_o hp0;refine jA 1 Z<|cE e6 (λh2 e7=>?_) (λh2 e8=>?_);refine kC 8 ?_;refine next ⟨(k+1),queues,places,(u_queues),(u_places)⟩ Z Z ⟨Z,Z,Z,U⟩ ⟨Z,Z,U⟩ ?_ ?_;exact zB;exact⟨by (try simp only[]);omega,e7,⟨by (try simp only[]);omega,by (try simp only[]);omega⟩⟩;refine jA 7 Z<|cE e8 (λh3 e9=>?_) (λh3 e10=>?_);refine jA 4 Z<|ef (ecallw (Um_ _ _) Z Z Z Z Z Z ?_);generalize hr0:Iq_ places ((gt b.binds k).to')=r;intro u0 w2;have e11:=e9.trans (A1_ hr0.symm);have hr0:=hr0.symm;have hA0:=put_len places ((gt b.binds k).to')
 (try rw[<- hr0] at hA0)
 refine kC 9 ?_;refine lj_osl (t:=14) 3 Z Z ?_;refine next ⟨(k+1),queues,r,(u_queues),(u0)⟩ Z Z ⟨Z,Z,Z,U⟩ ⟨Z,Z,U⟩ ?_ ?_;exact zB;exact yN;refine jA 4 Z<|ef (ecallw (Um_ _ _) Z Z Z Z Z Z ?_);generalize hr0:Iq_ queues ((gt b.binds k).to')=r0;intro u0 w2;have e11:=e10.trans (A1_ hr0.symm);have hr0:=hr0.symm;have hA0:=put_len queues ((gt b.binds k).to')
 (try rw[<- hr0] at hA0)
 refine kC 9 ?_;refine lj_osl (t:=13) 2 Z Z ?_;refine next ⟨(k+1),r0,places,(u0),(u_places)⟩ Z Z ⟨Z,Z,Z,U⟩ ⟨Z,Z,U⟩ ?_ ?_;exact zB;exact yN;have e5:=Cm_ (f:=λzz=>Bq_ b Bl_ key h zz queues places) hp17_2 (Gw_ rV) (Bq_.eq_1 _ _ _ _ _ _);refine kA 14 ?_;refine Kp_ 2 Z ?_;refine Kp_ 3 Z ?_;refine kA 2 ?_;subst e5;exact qr3
theorem Ug_(l:List G_):Fn prog gb 7 [.sl G_.pc l] (.bool (Kq_ l)):=by
 refine kG func7 ntmps7 λw N H hG=>?_;have l_l:l.length<=140737488355328:=w.1.1;have e0:=Kq_.eq_1 l;generalize Kq_ l=z at e0 ⊢;refine kA 14 ?_;refine loop (ι:=Nat) [0,5,6] [] (λk=>[(7, .int .i64 (k:Int))]) (λk=>[]) (λk=>k<=l.length/\z=Fz_ l (l.drop k)) (λk=>l.length-k) 0 ⟨Z,U⟩ U ?_ ?_;exact yH;rintro k ⟨hp1_1,hp1_2⟩;refine kN 6 (λp0=>?_) λp1=>?_;have e1:=Cm_ (f:=λzz=>Fz_ l zz) hp1_2 (Gv_ rV) (Fz_.eq_2 _ _ _);have hc0:=getG (xs:=l) (k:=k) rV;refine jA 6 Z<|kI k hc0 λw0=>?_;refine kB 8 [0] λB0=>?_;refine call (l22_Light _) Z Z λw1=>jA 3 Z<|cE e1 (λh0 e2=>?_) (λh0 e3=>?_);have h1:=E2_ h0;refine kA 11 ?_;subst e2;exact qr1;have h1:=D1_ h0;refine kC 7 ?_;refine next (k+1) Z Z ⟨Z,U⟩ U ?_ ?_;exact zB;exact⟨by (try simp only[]);omega,e3⟩;have e1:=Cm_ (f:=λzz=>Fz_ l zz) hp1_2 (Gw_ rV) (Fz_.eq_1 _);refine kA 14 ?_;subst e1;exact qr1
end Go.SW.V
