/-
  A part of the proof of PurgeComes: The library's contracts of strings.FieldsFunc (at the function that asks for blanks) and strconv.ParseUint
-/
import Derived.Shelf.LaysM
import Derived.Shelf.Strings.FieldsFuncAny
import Derived.Shelf.Pu.ParseUintPublic10
import Derived.Lib.SmallJoins
import Derived.Test.YtlemlalknchmcaaGreatDoorPurgeComesP2
import Derived.Test.YtlemlalknchmcaaGreatDoorProg
import Derived.KernelRfl
import Derived.Test.YtlemlalknchmcaaGreatDoorPurgeComesP3
import Derived.RangeFuncNested
import Derived.RangeFuncBound
import Derived.RangeFuncCalls
import Derived.RangeFuncLeaves
import Derived.Shelf.Abstract
import Derived.Shelf.RegionOpen
import Derived.WalkKit
import Derived.OwnWalkIn
import Derived.TacticsInMore
import Derived.LoopNIn
import Derived.LoopIn
set_option linter.unusedVariables false
set_option linter.unusedSimpArgs false
set_option maxRecDepth 100000
set_option maxHeartbeats 4000000
open Go.Proofs.Tryz
namespace Go.Proofs
open Go.Shelf
def Tryz.lays229_ren:Go.Shelf.Ren:=⟨λ|229=>94|n=>n,λ|9=>9|40=>163|31=>79|152=>207|3=>3|0=>0|4=>4|21=>21|154=>209|n=>n,λ|n=>n⟩
theorem Tryz.lays229:Go.Proofs.Lays.n229 prog Tryz.lays229_ren:={
 mixed:=by kernel_rfl
 f229:=func94.trans (congrArg some xO)
 t0:=underlying0
 a0:=isAgg0
 z0:=sizeOf0
 v0:=zeroValue0
 t3:=underlying3
 a3:=isAgg3
 z3:=sizeOf3
 v3:=zeroValue3
 t4:=underlying4
 a4:=isAgg4
 z4:=sizeOf4
 v4:=zeroValue4
 t9:=underlying9
 a9:=isAgg9
 z9:=sizeOf9
 v9:=zeroValue9
 t21:=underlying21
 a21:=isAgg21
 z21:=sizeOf21
 v21:=zeroValue21
 t31:=underlying79
 a31:=isAgg79
 z31:=sizeOf79
 v31:=zeroValue79
 t40:=underlying163
 a40:=isAgg163
 z40:=sizeOf163
 v40:=zeroValue163
 t152:=underlying207
 a152:=isAgg207
 z152:=sizeOf207
 v152:=zeroValue207
 t154:=underlying209
 a154:=isAgg209
 z154:=sizeOf209
 v154:=zeroValue209}
open Go.RowKit Go.Lib in
theorem Tryz.strings_FieldsFunc (g:Nat) (lb:Array Value) (eg:∀ args w,(callFunc g args).run prog w = .ok (.enter g args) w) (p:Nat->Bool) (s:ByteArray) (w:World) (hs:s.size<=4294967296) (hp:PredAt prog g lb encR p w) :
   Calls prog 94 #[.string s, .func (.func g) #[] lb] w λe w'=>∃ A,e = .returned (.slice (some ⟨A,0,none⟩) (Lib.goFieldsP p s).length (Lib.goFieldsP p s).length)/\w.heap.size<=A /\
     w'.ownsRow w.heap.size 9 1 (.slice (some ⟨A,0,none⟩) (Lib.goFieldsP p s).length (Lib.goFieldsP p s).length) (Lib.goFieldsP p s).length ((Lib.goFieldsP p s).map Value.string)/\Below w.heap.size w w':=Any.strings_FieldsFunc Tryz.lays229 g lb eg p s w hs hp xO xO
def Tryz.laysPu14_ren:Go.Shelf.Ren:=⟨λ|14=>122|16=>172|17=>173|19=>231|20=>232|21=>233|22=>234|23=>235|24=>236|25=>325|27=>97|26=>326|28=>136|29=>194|30=>99|31=>100|32=>101|33=>102|35=>138|34=>137|36=>139|37=>140|38=>141|39=>195|40=>196|n=>n,λ|9=>9|3=>3|22=>28|24=>121|25=>188|4=>4|34=>369|5=>5|36=>221|37=>116|0=>0|39=>371|21=>21|44=>459|47=>173|50=>546|48=>544|2=>2|52=>167|55=>170|59=>219|60=>68|20=>20|61=>220|65=>410|66=>411|67=>124|n=>n,λ|0=>8|1=>9|2=>1|3=>5|4=>6|n=>n⟩
theorem Tryz.laysPu14:Go.Proofs.LaysPu.n14 prog Tryz.laysPu14_ren:={
 mixed:=by kernel_rfl
 f14:=func122.trans (congrArg some xO)
 f16:=func172.trans (congrArg some xO)
 f17:=func173.trans (congrArg some xO)
 f19:=func231.trans (congrArg some xO)
 f20:=func232.trans (congrArg some xO)
 f21:=func233.trans (congrArg some xO)
 f22:=func234.trans (congrArg some xO)
 f23:=func235.trans (congrArg some xO)
 f24:=func236.trans (congrArg some xO)
 f25:=func325.trans (congrArg some xO)
 f26:=func326.trans (congrArg some xO)
 f27:=func97.trans (congrArg some xO)
 f28:=func136.trans (congrArg some xO)
 f29:=func194.trans (congrArg some xO)
 f30:=func99.trans (congrArg some xO)
 f31:=func100.trans (congrArg some xO)
 f32:=func101.trans (congrArg some xO)
 f33:=func102.trans (congrArg some xO)
 f34:=func137.trans (congrArg some xO)
 f35:=func138.trans (congrArg some xO)
 f36:=func139.trans (congrArg some xO)
 f37:=func140.trans (congrArg some xO)
 f38:=func141.trans (congrArg some xO)
 f39:=func195.trans (congrArg some xO)
 f40:=func196.trans (congrArg some xO)
 t0:=underlying0
 a0:=isAgg0
 z0:=sizeOf0
 v0:=zeroValue0
 i0:=by kernel_rfl
 t2:=underlying2
 a2:=isAgg2
 z2:=sizeOf2
 v2:=zeroValue2
 i2:=by kernel_rfl
 t3:=underlying3
 a3:=isAgg3
 z3:=sizeOf3
 v3:=zeroValue3
 i3:=by kernel_rfl
 t4:=underlying4
 a4:=isAgg4
 z4:=sizeOf4
 v4:=zeroValue4
 i4:=by kernel_rfl
 t5:=underlying5
 a5:=isAgg5
 z5:=sizeOf5
 v5:=zeroValue5
 i5:=by kernel_rfl
 t9:=underlying9
 a9:=isAgg9
 z9:=sizeOf9
 v9:=zeroValue9
 i9:=by kernel_rfl
 t20:=underlying20
 a20:=isAgg20
 z20:=sizeOf20
 v20:=zeroValue20
 i20:=by kernel_rfl
 t21:=underlying21
 a21:=isAgg21
 z21:=sizeOf21
 v21:=zeroValue21
 i21:=by kernel_rfl
 t22:=underlying28
 a22:=isAgg28
 z22:=sizeOf28
 v22:=zeroValue28
 i22:=by kernel_rfl
 t24:=underlying121
 a24:=isAgg121
 z24:=sizeOf121
 v24:=zeroValue121
 i24:=by kernel_rfl
 t25:=underlying188
 a25:=isAgg188
 z25:=sizeOf188
 v25:=zeroValue188
 i25:=by kernel_rfl
 t34:=underlying369
 a34:=isAgg369
 z34:=sizeOf369
 v34:=zeroValue369
 i34:=by kernel_rfl
 c34:=by kernel_rfl
 t36:=underlying221
 a36:=isAgg221
 z36:=sizeOf221
 v36:=zeroValue221
 i36:=by kernel_rfl
 t37:=underlying116
 a37:=isAgg116
 z37:=sizeOf116
 v37:=zeroValue116
 i37:=by kernel_rfl
 t39:=underlying371
 a39:=isAgg371
 z39:=sizeOf371
 v39:=zeroValue371
 i39:=by kernel_rfl
 t44:=underlying459
 a44:=isAgg459
 z44:=sizeOf459
 v44:=zeroValue459
 i44:=by kernel_rfl
 t47:=underlying173
 a47:=isAgg173
 z47:=sizeOf173
 v47:=zeroValue173
 i47:=by kernel_rfl
 t48:=underlying544
 a48:=isAgg544
 z48:=sizeOf544
 v48:=zeroValue544
 i48:=by kernel_rfl
 t50:=underlying546
 a50:=isAgg546
 z50:=sizeOf546
 v50:=zeroValue546
 i50:=by kernel_rfl
 t52:=underlying167
 a52:=isAgg167
 z52:=sizeOf167
 v52:=zeroValue167
 i52:=by kernel_rfl
 t55:=underlying170
 a55:=isAgg170
 z55:=sizeOf170
 v55:=zeroValue170
 i55:=by kernel_rfl
 t59:=underlying219
 a59:=isAgg219
 z59:=sizeOf219
 v59:=zeroValue219
 i59:=by kernel_rfl
 t60:=underlying68
 a60:=isAgg68
 z60:=sizeOf68
 v60:=zeroValue68
 i60:=by kernel_rfl
 t61:=underlying220
 a61:=isAgg220
 z61:=sizeOf220
 t65:=underlying410
 a65:=isAgg410
 z65:=sizeOf410
 v65:=zeroValue410
 i65:=by kernel_rfl
 t66:=underlying411
 a66:=isAgg411
 z66:=sizeOf411
 v66:=zeroValue411
 i66:=by kernel_rfl
 t67:=underlying124
 a67:=isAgg124
 z67:=sizeOf124
 v67:=zeroValue124
 i67:=by kernel_rfl
 g0:=by kernel_rfl
 m0:=by kernel_rfl
 g1:=by kernel_rfl
 m1:=by kernel_rfl
 g2:=by kernel_rfl
 m2:=by kernel_rfl
 g3:=by kernel_rfl
 m3:=by kernel_rfl
 g4:=by kernel_rfl
 m4:=by kernel_rfl}
open Go.RowKit Go.Lib in
theorem Tryz.strconv_ParseUint_10_at64_ok (s:ByteArray) (hmax:s.size<=9223372036854775806) (u:Nat) (h:Lib.parseUintB 64 s.data.toList = .ok u) (w:World) :
   Calls prog 122 #[.string s, .int .i64 10, .int .i64 64] w λe w'=>e = .returned (.tuple #[.int .u64 u, .nilIface])/\(w'=w\/w'=Lib.bytesWorld w 5 s):=Any.strconv_ParseUint_10_at64_ok Tryz.laysPu14 s hmax u h w
open Go.RowKit Go.Lib in
theorem Tryz.isBlank (w:World):PredAt prog 166 #[] encR (λr=>decide ((r:Int)=32)) w:=λW r _=>by
 unfold FnGives
 go_enter func166,ntmps166
 go_wp2
 go_ret
 exact⟨rfl,0,rfl⟩
end Go.Proofs
namespace Go.SW
open Go.Proofs Go.RowKit
theorem U7_ (H:Hp) (s:Bs) (hs:s.length<=65536):Ph prog 94 #[str s, .func (.func 166) #[] #[]] H (λv H'=>∃ (a:Option Addr) (c:Nat),v = .slice a (flds s).length c/\SlH strE 1 H' (.slice a (flds s).length c) (flds s)):=by
 refine ph_rowB (T:=9) (Sp_ s) (λw hw=>by have :=N0_ s w hw;omega) λN L w hm=>?_;have :=Tryz.strings_FieldsFunc 166 #[] (enters_of func166 xO Y) _ ⟨s.toArray⟩ w (by simp[ByteArray.size];omega) (Tryz.isBlank w);refine this.mono λe w' ⟨A,h1,h2,h3,h4⟩=>⟨A,?_,h2,?_,h4⟩;rw[h1,List.length_map];rw[List.length_map];exact h3
theorem strconv_PU (s:Bs) (hl:s.length<=19) (h0:0<s.length) (hd:Fc_ s=true) (w:World):Calls prog 122 #[str s, .int .i64 10, .int .i64 64] w λe w'=>e = .returned (.tuple #[.int .u64 (dec s:Int), .nilIface])/\Below w.heap.size w w':=by
 refine (Tryz.strconv_ParseUint_10_at64_ok ⟨s.toArray⟩ (by simp[ByteArray.size];omega) (dec s) (dec_ok hl h0 hd).1 w).mono λe w' ⟨he,hw⟩=>⟨he,?_⟩
 rcases hw with rfl|rfl
 exact Below.refl _ _;exact Go.Joins.below_bytesWorld _ _ _ _ (Nat.le_refl _)
end Go.SW
namespace Go.SW.V
open Go.SW Go.Proofs
theorem r4_Name (s:Bs):Fn prog gb 38 [.str s] (.int .i64 (Dt_ s)):=by
 refine kG func38 ntmps38 λw N H hG=>?_;refine kN 13 (λp0=>?_) λp1=>?_;refine kR 7 ?_;have :s=[]:=List.eq_nil_of_length_eq_zero xN;subst this;rfl;refine kN 10 (λp2=>?_) λp3=>?_;refine kR 7 ?_;have hne:¬s=[]:=λq=>by subst q;simp at *
 unfold Dt_;rw[if_neg hne,if_pos xN];refine kA 9 ?_;refine loop (ι:=Nat) [0,4,5,6,7,8,9] [] (λk=>[(3, .int .i64 (k:Int))]) (λk=>[]) (λk=>k<=s.length/\(s.drop k).all (λc=>letter c.toNat)=plain s) (λk=>s.length-k) 0 ⟨Y,Z⟩ Z ?_ ?_;exact⟨by omega,rfl⟩;rintro k hp0;obtain⟨hk1,hk2⟩:=hp0;refine kN 9 (λp4=>?_) λp5=>?_;have :=u8r (s.getD k 0);refine jA 8 Y<|q1 (sidx Bd_ k Y Y Y Y Y xN) Y λw0=>call (Rg_ _) Y Y λw1=>kM 3 (λh0=>?_) (λh0=>?_);have h1:=S5_ h0;refine kR 11 ?_;have hne:¬s=[]:=λq=>by subst q;simp at *
 unfold Dt_;rw[if_neg hne,if_neg xN,<- hk2,Il_ (k:=k) xN];simp only[*,Bool.false_and,Bool.false_eq_true,if_false];have h1:=Ls_ h0;refine kC 8 ?_;refine next (k+1) Y Y ⟨Y,Z⟩ Z ?_ ?_;omega;refine⟨by omega,?_⟩;rw[<- hk2,Il_ (k:=k) xN];simp only[*,Bool.true_and];refine kR 11 ?_;have hne:¬s=[]:=λq=>by subst q;simp at *
 unfold Dt_;rw[if_neg hne,if_neg xN,<- hk2,List.drop_of_length_le xN];rfl
theorem Gj_ (n:Int) (least:Int) (most:Int):Fn prog gb 116 [.int .i64 n, .int .i64 least, .int .i64 most] (.bool (Ap_ n least most)):=by
 refine kG func116 ntmps116 λw N H hG=>?_;have e0:=Ap_.eq_1 n least most;refine kC 19 ?_;exact zE
theorem Gg_ (a:An_) (b:An_):Fn prog gb 79 [.agg (An_.pc a), .agg (An_.pc b)] (.bool (Bt_ a b)):=by
 refine kG func79 ntmps79 λw N H hG=>?_;have e0:=Bt_.eq_1 a b;have :=Nu_ ((BitVec.ofInt (IntKind.bits .u32) a.Fq_ &&& ~~~ BitVec.ofInt (IntKind.bits .u32) b.Fq_).toNat);refine kD 26 [0,1] λB0=>?_;exact zE
theorem Bz_ (p:A_) (i:Int):Fn prog gb 78 [.agg (A_.pc p), .int .i64 i] (.bool (L_ p i)):=by
 refine kG func78 ntmps78 λw N H hG=>?_;have p_places_l:p.places.length<=140737488355328:=w.1.2.2.1.1;have e0:=L_.eq_1 p i;refine kD 13 [0] λB0=>?_;refine call (Gj_ _ _ _) Y Y λw0=>kA 4 ?_;exact zE
theorem Gi_ (x:U_) (x1:Int) (x2:Int):Fn prog gb 81 [.agg (U_.pc x), .el [.int .i64 x1] 0, .el [.int .i64 x2] 0] (.bool (B9_ x x1 x2)):=by
 refine kG func81 ntmps81 λw N H hG=>?_;have e0:=B9_.eq_1 x x1 x2;refine kD 22 [0] λB0=>?_;exact zE
theorem N1_ (s:List U_) (f:FuncId) (f_fst f_cap:List PV) (f_p:U_->Bool) (f_h:∀ x,Fn prog gb f (argsP.apL f_fst ((.agg (U_.pc x))::f_cap)) (.bool (f_p x))):Fn prog gb 80 [.sl U_.pc s, .fn f f_fst f_cap] (.int .i64 (idxP f_p s)):=by
 refine kG func80 ntmps80 λw N H hG=>?_;have s_l:s.length<=140737488355328:=w.1.1;refine kA 14 ?_;refine loop (ι:=Nat) [0,1,6,7] [] (λk=>[(8, .int .i64 (k:Int))]) (λk=>[]) (λk=>k<=s.length/\idxP f_p s=idxF f_p k (s.drop k)) (λk=>s.length-k) 0 ⟨Y,Z⟩ Z ?_ ?_;exact⟨Nat.zero_le _,rfl⟩;rintro k hp0;obtain⟨hk1,hk2⟩:=hp0;refine kM 6 (λh0=>?_) (λh0=>?_);have p0:=dt h0;obtain⟨c0,hc0⟩:=getE (xs:=s) (m:=k) xN;refine jA 15 Y<|kI k hc0 λw0=>?_;refine kL 1 (f_h c0) Y Y Y λw1=>kM 2 (λh1=>?_) (λh1=>?_);refine kR 12 ?_;exact congrArg (PV.int .i64) (Pw_ hk2 (Le_ hc0) xY).symm;refine kC 7 ?_;refine next (k+1) Y Y ⟨Y,Z⟩ Z ?_ ?_;omega;exact⟨by omega,My_ hk2 (Le_ hc0) xY⟩;have p0:=df h0;refine kR 11 ?_;exact congrArg (PV.int .i64) (Pv_ hk2 xN).symm
theorem Px_ (l:List Int) (x:Int):Fn prog gb 50 [.sl i64c l, .int .i64 x] (.int .i64 (idxP (λy=>decide (x=y)) l)):=by
 refine kG func50 ntmps50 λw N H hG=>?_;have l_l:l.length<=140737488355328:=w.1.1;refine kA 14 ?_;refine loop (ι:=Nat) [0,1,6,7] [] (λk=>[(8, .int .i64 (k:Int))]) (λk=>[]) (λk=>k<=l.length/\idxP (λy=>decide (x=y)) l=idxF (λy=>decide (x=y)) k (l.drop k)) (λk=>l.length-k) 0 ⟨Y,Z⟩ Z ?_ ?_;exact⟨Nat.zero_le _,rfl⟩;rintro k hp0;obtain⟨hik1,hik2⟩:=hp0;refine kN 6 (λp0=>?_) λp1=>?_;obtain⟨c0,hc0⟩:=getE (xs:=l) (m:=k) xN;refine jA 15 Y<|kI k hc0 λw0=>?_;refine kN 4 (λp2=>?_) λp3=>?_;refine kR 12 ?_;exact congrArg (PV.int .i64) (Pw_ hik2 (Le_ hc0) (by first|assumption|(simp[*];done))).symm;refine kC 7 ?_;refine next (k+1) Y Y ⟨Y,Z⟩ Z ?_ ?_;omega;exact⟨by omega,My_ hik2 (Le_ hc0) (by first|assumption|(simp[*];done)|grind)⟩;refine kR 11 ?_;exact congrArg (PV.int .i64) (Pv_ hik2 xN).symm
theorem mixd:prog.follows .mixedOrders=true:=by kernel_rfl
theorem D3_ (p:A_) (from_:Int) (to_:Int):Fn prog gb 51 [.agg (A_.pc p), .int .i64 from_, .int .i64 to_] (.bool (Ak_ p from_ to_)):=by
 refine kG func51 ntmps51 λw N H hG=>?_;have e0:=Ak_.eq_1 p from_ to_;refine kB 7 [0] λB0=>?_;refine aN [1,2,3,4,5,6] 29 mixd<|kE [0,1,2,3,4,5] 23 ?_;refine vcallg 6 Y xO Y (λhc=>(Bz_ _ _)) Y Y ⟨(λhc=>hc),(λhc=>hc),trivial⟩ Y λ_=>kF [7,8,9,10] 18 ?_;refine vcallg 11 Y xO Y (λhc=>(Bz_ _ _)) Y Y ⟨(λhc=>hc),(λhc=>hc),trivial⟩ Y λ_=>kF [12,13,14,15,16] 12 ?_;refine vqg 17 [22,23] Y xO Y Y (λhc=>qidx Bd_ (from_).toNat Y Y wJ (getG wJ) Y Y Y Y) ⟨(λhc=>hc),(λhc=>hc),trivial⟩ Y λ_=>?_;refine kF [18,19,20,21,22] 6 ?_;refine vqg 23 [28,29] Y xO Y Y (λhc=>qidx Bd_ (to_).toNat Y Y wJ (getG wJ) Y Y Y Y) ⟨(λhc=>hc),(λhc=>hc),trivial⟩ Y λ_=>?_;refine kF [24,25] 3 ?_;refine vcallg 26 Y xO Y (λhc=>(Gg_ _ _)) Y Y ⟨(λhc=>hc),(λhc=>hc),trivial⟩ Y λ_=>kF [27,28] 0 ?_;refine vD<|kA 2 ?_;exact zE
theorem D4_ (p:A_) (from_:Int) (to_:Int):Fn prog gb 52 [.agg (A_.pc p), .int .i64 from_, .int .i64 to_] (.int .i64 (A1_ p from_ to_)):=by
 refine kG func52 ntmps52 λw N H hG=>?_;have e0:=A1_.eq_1 p from_ to_;refine kB 12 [0,1,2] λB0=>?_;refine freeze (i:=1) (t:=4) Y Y Y Y<|freeze (i:=2) (t:=5) Y Y Y Y ?_;refine kL 1 (N1_ _ _ _ _ (λz_5:U_=>(B9_ z_5 from_ to_)) (λz_5=>Gi_ z_5 from_ to_)) Y Y Y λw0=>kA 4 ?_;exact rt1 Y Y (B8_ (λr:Int=> .int .i64 r) e0 (ple Y))
theorem ag5:Ag prog 5 false:=λw=>by kernel_rfl
theorem ag68:Ag prog 68 false:=λw=>by kernel_rfl
theorem eqg70:prog.eqGuardType prog.depth 70=false:=by kernel_rfl
theorem veq70 (p q:An_):∀ (H:Hp) (vs us:List Value),Sims H (An_.pc p) vs->Sims H (An_.pc q) us->EqV prog 10000 70 (.agg vs.toArray) (.agg us.toArray) (decide (p=q)):=by
 intro H vs us hv hu;obtain⟨_,_,rfl,v0,v_0⟩:=hv.inv_cons;obtain⟨_,_,rfl,v1,v_1⟩:=v_0.inv_cons
 cases v_1.inv_nil
 cases v0.inv_int.1;cases v1.inv_int.1
 obtain⟨_,_,rfl,u0,u_0⟩:=hu.inv_cons;obtain⟨_,_,rfl,u1,u_1⟩:=u_0.inv_cons
 cases u_1.inv_nil
 cases u0.inv_int.1;cases u1.inv_int.1
 exact EqV.to' (Lh_ underlying70 xO (I7_ xQ ag5 Y Y (D9_ underlying5) (I7_ xQ ag68 Y Y (D9_ underlying68) Lg_))) (by obtain⟨a0,a1⟩:=p;obtain⟨b0,b1⟩:=q;rw[Bool.eq_iff_iff];simp)
theorem Ir_ (a:An_) (i:Int) (hi:0<=i/\i<32:=by omega):Fn prog gb 77 [.agg (An_.pc a), .int .i64 i] (.bool (B7_ a i)):=by
 refine kG func77 ntmps77 λw N H hG=>?_;have a_set__r:0<=a.Fq_/\a.Fq_<=4294967295:=w.1.2.1;have hf0:=has_fd a i xN;have e0:=B7_.eq_1 a i;refine kD 18 [0] λB0=>?_;exact zE
theorem F9_ (a:An_) (b:An_):Fn prog gb 49 [.agg (An_.pc a), .agg (An_.pc b)] (.bool (Cl_ a b)):=by
 refine kG func49 ntmps49 λw N H hG=>?_;have e0:=Cl_.eq_1 a b;generalize Cl_ a b=z at e0 ⊢;refine kB 17 [0,1] λB0=>?_;refine cD e0 (λp0 e1=>?_) (λp1 e2=>?_);exact zY;refine kA 9 ?_;refine loop (ι:=Nat×Nat) [2,3] [0,1] (λ⟨f,i⟩=>[(5, .int .i64 (i:Int))]) (λ⟨f,i⟩=>[]) (λ⟨f,i⟩=>32-i<f/\z=A9_ a b f i) (λ⟨f,i⟩=>f) ⟨(32-0+1),0⟩ ⟨Y,Z⟩ Z ?_ ?_;exact⟨Nat.lt_succ_self _,e2⟩;rintro⟨f,i⟩ ⟨hp9_1,hp9_2⟩;obtain⟨f1,rfl⟩:∃ q,f=q+1:=⟨f-1,by omega⟩;have e_f1:=hp9_2.trans (A9_.eq_2 _ _ _ _);refine jA 7 Y<|cD e_f1 (λp2 e3=>?_) (λp3 e4=>?_);refine kL 8 (Ir_ _ _) Y Y Y λw0=>kA 3 ?_;refine callg Y (λhc=>(Ir_ _ _)) Y ⟨(λhc=>hc),(λhc=>hc),trivial⟩ Y Y λ_=>kC 4 ?_;refine cE e3 (λh0 e5=>?_) (λh0 e6=>?_);have h1:=bl h0;have h2:=br h0;refine kA 11 ?_;subst e5;exact qr1;refine kC 8 ?_;refine next ⟨f1,(i+1)⟩ Y Y ⟨Y,Z⟩ Z ?_ ?_;exact zA;exact⟨by (try simp only[]);omega,e6⟩;refine kA 11 ?_;subst e4;exact qr1
theorem Ky_ (p:A_):Fn prog gb 29 [.agg (A_.pc p)] (.int .i64 (Ef_ p)):=by
 refine kG func29 ntmps29 λw N H hG=>?_;have e0:=Ef_.eq_1 p;generalize Ef_ p=z at e0 ⊢;refine kD 29 [0] λB0=>?_;refine cE e0 (λh0 e1=>?_) (λh0 e2=>?_);exact zY;have h1:=orl h0;have h2:=orl h1;have h3:=orl h2;have h4:=orr h2;have h5:=orr h1;have h6:=orr h0;refine jA 17 Y<|cD e2 (λp0 e3=>?_) (λp1 e4=>?_);refine kA 7 ?_;subst e3;exact qr1;refine jA 9 Y<|cD e4 (λp2 e5=>?_) (λp3 e6=>?_);refine kA 7 ?_;subst e5;exact qr1;refine kA 12 ?_;refine loop (ι:=Nat) [1,3,45,46] [0] (λk=>[(47, .int .i64 (k:Int))]) (λk=>[]) (λk=>k<=p.places.length/\z=Ag_ p (p.places.drop k) k) (λk=>p.places.length-k) 0 ⟨Y,Z⟩ Z ?_ ?_;exact⟨Nat.zero_le _,e6⟩;rintro k ⟨hp26_1,hp26_2⟩;refine kN 6 (λp4=>?_) λp5=>?_;have e7:=Bq_ (f:=λzz=>Ag_ p zz k) hp26_2 (E5_ xN) (Ag_.eq_2 _ _ _ _);refine kA 3 ?_;obtain⟨o,e_o,q_o⟩:=Hl_ e7;refine joinc (ι:=Unit) [1,3,45,46,47] [0] (λ_=>[]) (λ_=>[]) (λ_=>o = .fin ()) ?_ ?_;have hc0:=getG (xs:=p.places) (k:=k) xN;refine jA 4 Y<|kI k hc0 λw0=>?_;refine kB 10 [1] λB1=>?_;refine call (r4_Name _) Y Y λw1=>jA 10 Y<|cN e_o (λp6 e8=>?_) (λp7 e9=>?_);refine kA 14 ?_;have e10:=Ea_ q_o e8;subst e10;exact qr1;refine kC 26 ?_;refine cE e9 (λh7 e10=>?_) (λh7 e11=>?_);refine kA 13 ?_;have e12:=Ea_ q_o e10;subst e12;exact qr1;have h8:=orl h7;have h9:=orl h8;have h10:=orl h9;have h11:=orr h9;have h12:=orr h8;have h13:=orr h7;refine jA 7 Y<|q1 (lshi Bd_ k Y Y Y Y Y (λ_=>rfl) Y xN) Y λw2=>kA 5 ?_;refine loop (ι:=Nat) [1,3,5,45,46,47,80,81] [0,1] (λk0=>[(82, .int .i64 (k0:Int))]) (λk0=>[]) (λk0=>k0<=(p.places.take k).length/\o=Aq_ (gt p.places k) ((p.places.take k).drop k0)) (λk0=>(p.places.take k).length-k0) 0 ⟨Y,Z⟩ Z ?_ ?_;exact⟨Nat.zero_le _,e11⟩;rintro k0 ⟨hp58_1,hp58_2⟩;have hkl:(p.places.take k).length<=p.places.length:=List.length_take_le' ..;refine kN 6 (λp8=>?_) λp9=>?_;have e12:=Bq_ (f:=λzz=>Aq_ (gt p.places k) zz) hp58_2 (E5_ xN) (Aq_.eq_2 _ _ _);have hc1:=getG (xs:=(p.places.take k)) (k:=k0) xN;refine jA 6 Y<|kI k0 hc1 λw3=>?_;refine kD 17 [2] λB2=>?_;refine q1g [93,95] Y (λhc=>saeq Y Y eqg70 (veq70 ((gt (p.places.take k) k0).label) ((gt p.places k).label))) ⟨(λhc=>hc),(λhc=>hc),trivial⟩ Y Y Y λ_=>?_;refine kC 3 ?_;refine cE e12 (λh14 e13=>?_) (λh14 e14=>?_);refine kA 16 ?_;have e15:=Ea_ q_o e13;subst e15;exact qr1;have h15:=orl h14;have h16:=orr h14;refine kC 7 ?_;refine next (k0+1) Y Y ⟨Y,Z⟩ Z ?_ ?_;exact zA;exact⟨by (try simp only[]);omega,e14⟩;have e12:=Bq_ (f:=λzz=>Aq_ (gt p.places k) zz) hp58_2 (E6_ xN) (Aq_.eq_1 _);refine kA 5 ?_;refine nX () ?_ Z Z;exact e12;rintro _ hp0;have e8:=Lp_ q_o hp0;refine kC 5 ?_;refine next (k+1) Y Y ⟨Y,Z⟩ Z ?_ ?_;exact zA;exact⟨by (try simp only[]);omega,e8⟩;have e7:=Bq_ (f:=λzz=>Ag_ p zz k) hp26_2 (E6_ xN) (Ag_.eq_1 _ _);refine jA 14 Y<|cD e7 (λp6 e8=>?_) (λp7 e9=>?_);refine kA 7 ?_;subst e8;exact qr1;refine jA 11 Y<|cD e9 (λp8 e10=>?_) (λp9 e11=>?_);refine kA 7 ?_;subst e10;exact qr1;refine kA 12 ?_;refine loop (ι:=Nat) [1,3,109,110] [0] (λk0=>[(111, .int .i64 (k0:Int))]) (λk0=>[]) (λk0=>k0<=p.slots.length/\z=Ab_ p (p.slots.drop k0)) (λk0=>p.slots.length-k0) 0 ⟨Y,Z⟩ Z ?_ ?_;exact⟨Nat.zero_le _,e11⟩;rintro k0 ⟨hp90_1,hp90_2⟩;refine kN 6 (λp10=>?_) λp11=>?_;have e12:=Bq_ (f:=λzz=>Ab_ p zz) hp90_2 (E5_ xN) (Ab_.eq_2 _ _ _);have hc0:=getG (xs:=p.slots) (k:=k0) xN;refine jA 6 Y<|kI k0 hc0 λw0=>?_;refine kC 15 ?_;refine cE e12 (λh7 e13=>?_) (λh7 e14=>?_);refine kA 11 ?_;subst e13;exact qr1;have h8:=orl h7;have h9:=orr h7;refine kC 7 ?_;refine next (k0+1) Y Y ⟨Y,Z⟩ Z ?_ ?_;exact zA;exact⟨by (try simp only[]);omega,e14⟩;have e12:=Bq_ (f:=λzz=>Ab_ p zz) hp90_2 (E6_ xN) (Ab_.eq_1 _);refine jA 14 Y<|cD e12 (λp12 e13=>?_) (λp13 e14=>?_);refine kA 7 ?_;subst e13;exact qr1;refine kA 12 ?_;refine loop (ι:=Nat) [1,3,128,129] [0] (λk1=>[(130, .int .i64 (k1:Int))]) (λk1=>[]) (λk1=>k1<=p.grants.length/\z=Ah_ p (p.grants.drop k1) k1) (λk1=>p.grants.length-k1) 0 ⟨Y,Z⟩ Z ?_ ?_;exact⟨Nat.zero_le _,e14⟩;rintro k1 ⟨hp110_1,hp110_2⟩;refine kN 6 (λp14=>?_) λp15=>?_;have e15:=Bq_ (f:=λzz=>Ah_ p zz k1) hp110_2 (E5_ xN) (Ah_.eq_2 _ _ _ _);refine kA 3 ?_;obtain⟨o1,e_o1,q_o1⟩:=Hl_ e15;refine joinc (ι:=Unit) [1,3,128,129,130] [0] (λ_=>[]) (λ_=>[]) (λ_=>o1 = .fin ()) ?_ ?_;have hc0:=getG (xs:=p.grants) (k:=k1) xN;refine jA 4 Y<|kI k1 hc0 λw0=>?_;refine kD 31 [1] λB1=>?_;refine cE e_o1 (λh7 e16=>?_) (λh7 e17=>?_);refine kA 13 ?_;have e18:=Ea_ q_o1 e16;subst e18;exact qr1;have h8:=orl h7;have h9:=orl h8;have h10:=orl h9;have p16:=df h10;have h11:=orr h9;have p17:=df h11;have h12:=orr h8;have p18:=df h12;have h13:=orr h7;have p19:=df h13;refine kA 4 ?_;refine aN [2,3,4,5,6,7] 15 mixd<|kE [0,1,2,3] 11 ?_;have hc1:=getG (xs:=p.places) (k:=((gt p.grants k1).frm).toNat) xN;refine vq 4 (qidx Bd_ ((gt p.grants k1).frm).toNat Y Y xN hc1 Y Y Y Y) Y xO Y λw1=>kE [5,6,7,8,9,10] 4 ?_;have hc2:=getG (xs:=p.places) (k:=((gt p.grants k1).to').toNat) xN;refine vq 11 (qidx Bd_ ((gt p.grants k1).to').toNat Y Y xN hc2 Y Y Y Y) Y xO Y λw2=>kE [12,13] 1 ?_;refine vC 14 Y (F9_ _ _) Y λw3=>vD ?_;refine jA 1 Y<|cE e17 (λh14 e18=>?_) (λh14 e19=>?_);refine kA 13 ?_;have e20:=Ea_ q_o1 e18;subst e20;exact qr1;refine kC 15 ?_;refine cE e19 (λh15 e20=>?_) (λh15 e21=>?_);refine kA 13 ?_;have e22:=Ea_ q_o1 e20;subst e22;exact qr1;have h16:=orl h15;have h17:=orr h15;refine jA 7 Y<|q1 (lshi Bd_ k1 Y Y Y Y Y (λ_=>rfl) Y xN) Y λw4=>kA 5 ?_;refine loop (ι:=Nat) [1,3,12,128,129,130,181,182] [0,1] (λk2=>[(183, .int .i64 (k2:Int))]) (λk2=>[]) (λk2=>k2<=(p.grants.take k1).length/\o1=Ar_ (gt p.grants k1) ((p.grants.take k1).drop k2)) (λk2=>(p.grants.take k1).length-k2) 0 ⟨Y,Z⟩ Z ?_ ?_;exact⟨Nat.zero_le _,e21⟩;rintro k2 ⟨hp150_1,hp150_2⟩;have hkl:(p.grants.take k1).length<=p.grants.length:=List.length_take_le' ..;refine kN 6 (λp20=>?_) λp21=>?_;have e22:=Bq_ (f:=λzz=>Ar_ (gt p.grants k1) zz) hp150_2 (E5_ xN) (Ar_.eq_2 _ _ _);have hc3:=getG (xs:=(p.grants.take k1)) (k:=k2) xN;refine jA 6 Y<|kI k2 hc3 λw5=>?_;refine kD 21 [2] λB2=>?_;refine cE e22 (λh18 e23=>?_) (λh18 e24=>?_);have h19:=bl h18;have h20:=br h18;refine kA 16 ?_;have e25:=Ea_ q_o1 e23;subst e25;exact qr1;refine kC 7 ?_;refine next (k2+1) Y Y ⟨Y,Z⟩ Z ?_ ?_;exact zA;exact⟨by (try simp only[]);omega,e24⟩;have e22:=Bq_ (f:=λzz=>Ar_ (gt p.grants k1) zz) hp150_2 (E6_ xN) (Ar_.eq_1 _);refine kA 5 ?_;refine nX () ?_ Z Z;exact e22;rintro _ hp0;have e16:=Lp_ q_o1 hp0;refine kC 5 ?_;refine next (k1+1) Y Y ⟨Y,Z⟩ Z ?_ ?_;exact zA;exact⟨by (try simp only[]);omega,e16⟩;have e15:=Bq_ (f:=λzz=>Ah_ p zz k1) hp110_2 (E6_ xN) (Ah_.eq_1 _ _);refine kA 12 ?_;refine loop (ι:=Nat×Nat) [1,3] [0] (λ⟨f,i⟩=>[(15, .int .i64 (i:Int))]) (λ⟨f,i⟩=>[]) (λ⟨f,i⟩=>p.places.length-i<f/\z=C1_ p f i) (λ⟨f,i⟩=>f) ⟨(p.places.length-0+1),0⟩ ⟨Y,Z⟩ Z ?_ ?_;exact⟨Nat.lt_succ_self _,e15⟩;rintro⟨f,i⟩ ⟨hp172_1,hp172_2⟩;obtain⟨f1,rfl⟩:∃ q,f=q+1:=⟨f-1,by omega⟩;have e_f1:=hp172_2.trans (C1_.eq_2 _ _ _);refine jA 8 Y<|cD e_f1 (λp16 e16=>?_) (λp17 e17=>?_);refine kA 3 ?_;obtain⟨o2,e_o2,q_o2⟩:=Hl_ e16;refine joinc (ι:=Unit) [1,3,15] [0] (λ_=>[]) (λ_=>[]) (λ_=>o2 = .fin ()) ?_ ?_;refine kA 16 ?_;refine loop (ι:=Nat×Bool) [1,3,15,207,208] [0] (λ⟨k2,has⟩=>[(209, .int .i64 (k2:Int)),(16, .bool has)]) (λ⟨k2,has⟩=>[]) (λ⟨k2,has⟩=>k2<=p.slots.length/\o2=Ba_ i (p.slots.drop k2) has) (λ⟨k2,has⟩=>p.slots.length-k2) ⟨0,false⟩ ⟨Y,Y,Z⟩ Z ?_ ?_;exact⟨Nat.zero_le _,e_o2⟩;rintro⟨k2,has⟩ ⟨hp176_1,hp176_2⟩;refine kN 6 (λp18=>?_) λp19=>?_;have e18:=Bq_ (f:=λzz=>Ba_ i zz has) hp176_2 (E5_ xN) (Ba_.eq_2 _ _ _ _);have hc0:=getG (xs:=p.slots) (k:=k2) xN;refine jA 6 Y<|kI k2 hc0 λw0=>?_;refine kC 19 ?_;refine next ⟨(k2+1),(has||(decide ((gt p.slots k2)=(i:Int))))⟩ Y Y ⟨Y,Y,Z⟩ Z ?_ ?_;exact zA;exact⟨by (try simp only[]);omega,e18⟩;have e18:=Bq_ (f:=λzz=>Ba_ i zz has) hp176_2 (E6_ xN) (Ba_.eq_1 _ _);refine jA 11 Y<|cE e18 (λh7 e19=>?_) (λh7 e20=>?_);have h8:=S5_ h7;refine kA 12 ?_;have e21:=Ea_ q_o2 e19;subst e21;exact qr1;have h8:=Ls_ h7;refine kA 2 ?_;refine nX () ?_ Z Z;exact e20;rintro _ hp0;have e18:=Lp_ q_o2 hp0;refine kC 6 ?_;refine next ⟨f1,(i+1)⟩ Y Y ⟨Y,Z⟩ Z ?_ ?_;exact zA;exact⟨by (try simp only[]);omega,e18⟩;refine kA 11 ?_;subst e17;exact qr1
theorem Kl_ (p:A_):Fn prog gb 28 [.agg (A_.pc p)] (.bool (C6_ p)):=by
 refine kG func28 ntmps28 λw N H hG=>?_;have e0:=C6_.eq_1 p;generalize C6_ p=z at e0 ⊢;refine kD 27 [0] λB0=>?_;refine cE e0 (λh0 e1=>?_) (λh0 e2=>?_);exact zY;have h1:=orl h0;have h2:=orl h1;have p0:=df h2;have h3:=orr h1;have h4:=orr h0;refine kA 12 ?_;refine loop (ι:=Nat) [22,23] [0] (λk=>[(24, .int .i64 (k:Int))]) (λk=>[]) (λk=>k<=p.places.length/\z=A7_ (p.places.drop k)) (λk=>p.places.length-k) 0 ⟨Y,Z⟩ Z ?_ ?_;exact⟨Nat.zero_le _,e2⟩;rintro k ⟨hp13_1,hp13_2⟩;refine kN 6 (λp1=>?_) λp2=>?_;have e3:=Bq_ (f:=λzz=>A7_ zz) hp13_2 (E5_ xN) (A7_.eq_2 _ _);have hc0:=getG (xs:=p.places) (k:=k) xN;refine jA 6 Y<|kI k hc0 λw0=>?_;refine kB 13 [1] λB1=>?_;refine cD e3 (λp3 e4=>?_) (λp4 e5=>?_);refine kA 11 ?_;subst e4;exact qr1;refine kC 7 ?_;refine next (k+1) Y Y ⟨Y,Z⟩ Z ?_ ?_;exact zA;exact⟨by (try simp only[]);omega,e5⟩;have e3:=Bq_ (f:=λzz=>A7_ zz) hp13_2 (E6_ xN) (A7_.eq_1);refine kA 11 ?_;subst e3;exact qr1
abbrev Tz_:TI:=⟨.agg [(0,1),(1,1),(2,1),(3,1),(4,1)],5,88,[.int .i64 0, .int .i64 0, .val (.slice none 0 0), .val (.slice none 0 0), .val (.slice none 0 0)]⟩
def tbv99b:Tb:=[(3,ty3),(35,ty35),(36,ty36),(37,ty37),(39,ty39),(41,ty41),(42,ty42),(44,Tz_),(72,ty72),(73,ty73),(75,ty75),(76,ty76)]
theorem S_:tbB prog tbv99b=true:=by kernel_rfl
theorem Km_ (p:A_) (hp:p.places.length<=100000/\p.slots.length<=100000/\p.grants.length<=100000:=by first|assumption|omega|exact poOk_l (by first|assumption|exact StOk.pol xY)|exact P1_ (by first|assumption|simpa using hc)):Fn prog gb 13 [.agg (A_.pc p)] (.agg (A_.pc (Fe_ p))):=by
 refine fC func13 S_ ntmps13 λw N H hG=>?_;have e0:=Fe_.eq_1 p;refine gm S_ 27 [0,1,2] λB0=>?_;refine Oz_ (i:=2) (o:=2) (k:=5) (e:=73) 3 Ad_.pc Y xQ Y Y ?_;refine Oz_ (i:=2) (o:=3) (k:=1) (e:=3) 4 i64c Y xQ Y Y ?_;refine Oz_ (i:=2) (o:=4) (k:=3) (e:=76) 5 U_.pc Y xQ Y Y ?_;refine loop (ι:=Nat×Int×Int×(List Ad_)×(List Int)×(List U_)×Value×Value×Value) [1,2,3,14,15] [0,1] (λ⟨k,work,give_,places,slots,grants,u_places,u_slots,u_grants⟩=>[(16, .int .i64 (k:Int))]) (λ⟨k,work,give_,places,slots,grants,u_places,u_slots,u_grants⟩=>[(2, .box (B0 2) 44 [.int .i64 work, .int .i64 give_, .osl 3, .osl 4, .osl 5]),(3, .arr u_places 5 73 Ad_.pc places),(4, .arr u_slots 1 3 i64c slots),(5, .arr u_grants 3 76 U_.pc grants)]) (λ⟨k,work,give_,places,slots,grants,u_places,u_slots,u_grants⟩=>k<=p.places.length/\Fe_ p=Bg_ p (p.places.drop k) work give_ places slots grants/\places.length<=k/\slots.length=0/\grants.length=0) (λ⟨k,work,give_,places,slots,grants,u_places,u_slots,u_grants⟩=>p.places.length-k) ⟨0,p.work,p.give,[],[],[],(.slice none 0 0),(.slice none 0 0),(.slice none 0 0)⟩ ⟨Y,Z⟩ ⟨Y,Y,Y,Y,Z⟩ ?_ ?_;exact⟨Nat.zero_le _,e0,⟨by simp,by simp,by simp⟩⟩;rintro⟨k,work,give_,places,slots,grants,u_places,u_slots,u_grants⟩ ⟨hp5_1,hp5_2,hp5_3⟩;refine gx S_ 6 ?_;refine cn Y (λp0=>?_) λp1=>?_;have e1:=Bq_ (f:=λzz=>Bg_ p zz work give_ places slots grants) hp5_2 (E5_ xN) (Bg_.eq_2 _ _ _ _ _ _ _ _);have hc0:=getG (xs:=p.places) (k:=k) xN;refine gx S_ 6 ?_;refine q1 (qidx S_ k Y Y Y hc0 Y Y Y Y) Y λw0=>gm S_ 9 [6] λB1=>?_;refine ef (bsl 7 Ad_.pc [(gt p.places k)] S_ Y Y Y Y Y (λ_=>rfl) Y xQ xQ Y λu0=>?_);refine ef (app S_ [(gt p.places k)] Y Y Y Y Y Y Y Y Y (src_o Y Y) xZ Y λu1=>?_);refine gx S_ 1 ?_;refine ef (L6_ S_ Y Y Y Y Y Y Y Y Y ?_);refine gy S_ 7 ?_;refine next ⟨(k+1),work,give_,(places++[(gt p.places k)]),slots,grants,(u1),(u_slots),(u_grants)⟩ Y Y ⟨Y,Z⟩ ⟨Y,Y,Y,Y,Z⟩ ?_ ?_;exact zA;exact⟨by (try simp only[]);omega,e1,⟨wY,by omega,by omega⟩⟩;have e1:=Bq_ (f:=λzz=>Bg_ p zz work give_ places slots grants) hp5_2 (E6_ xN) (Bg_.eq_1 _ _ _ _ _ _);refine gx S_ 11 ?_;refine ef (app S_ p.slots Y Y Y Y Y Y Y Y Y (src_l Y (λ_=>rfl)) xZ Y λu0=>?_);refine gx S_ 1 ?_;refine ef (L6_ S_ Y Y Y Y Y Y Y Y Y ?_);refine gx S_ 12 ?_;refine loop (ι:=Nat×Int×Int×(List Ad_)×(List Int)×(List U_)×Value×Value×Value) [2,3,34,35] [0,1] (λ⟨k0,work1,give_1,places1,slots1,grants1,u_places1,u_slots1,u_grants1⟩=>[(36, .int .i64 (k0:Int))]) (λ⟨k0,work1,give_1,places1,slots1,grants1,u_places1,u_slots1,u_grants1⟩=>[(2, .box (B0 2) 44 [.int .i64 work1, .int .i64 give_1, .osl 3, .osl 4, .osl 5]),(3, .arr u_places1 5 73 Ad_.pc places1),(4, .arr u_slots1 1 3 i64c slots1),(5, .arr u_grants1 3 76 U_.pc grants1)]) (λ⟨k0,work1,give_1,places1,slots1,grants1,u_places1,u_slots1,u_grants1⟩=>k0<=p.grants.length/\Fe_ p=Bh_ (p.grants.drop k0) work1 give_1 places1 slots1 grants1/\grants1.length<=k0) (λ⟨k0,work1,give_1,places1,slots1,grants1,u_places1,u_slots1,u_grants1⟩=>p.grants.length-k0) ⟨0,work,give_,places,(slots++p.slots),grants,(u_places),(u0),(u_grants)⟩ ⟨Y,Z⟩ ⟨Y,Y,Y,Y,Z⟩ ?_ ?_;exact⟨Nat.zero_le _,e1,by omega⟩;rintro⟨k0,work1,give_1,places1,slots1,grants1,u_places1,u_slots1,u_grants1⟩ ⟨hp18_1,hp18_2,hp18_3⟩;refine gx S_ 6 ?_;refine cn Y (λp2=>?_) λp3=>?_;have e2:=Bq_ (f:=λzz=>Bh_ zz work1 give_1 places1 slots1 grants1) hp18_2 (E5_ xN) (Bh_.eq_2 _ _ _ _ _ _ _);have hc0:=getG (xs:=p.grants) (k:=k0) xN;refine gx S_ 6 ?_;refine q1 (qidx S_ k0 Y Y Y hc0 Y Y Y Y) Y λw0=>gm S_ 9 [6] λB1=>?_;refine ef (bsl 7 U_.pc [(gt p.grants k0)] S_ Y Y Y Y Y (λ_=>rfl) Y xQ xQ Y λu1=>?_);refine ef (app S_ [(gt p.grants k0)] Y Y Y Y Y Y Y Y Y (src_o Y Y) xZ Y λu2=>?_);refine gx S_ 1 ?_;refine ef (L6_ S_ Y Y Y Y Y Y Y Y Y ?_);refine gy S_ 7 ?_;refine next ⟨(k0+1),work1,give_1,places1,slots1,(grants1++[(gt p.grants k0)]),(u_places1),(u_slots1),(u2)⟩ Y Y ⟨Y,Z⟩ ⟨Y,Y,Y,Y,Z⟩ ?_ ?_;exact zA;exact zG;have e2:=Bq_ (f:=λzz=>Bh_ zz work1 give_1 places1 slots1 grants1) hp18_2 (E6_ xN) (Bh_.eq_1 _ _ _ _ _);refine gx S_ 7 ?_;refine give 3 Y<|give 4 Y ?_;refine give 5 Y<|gm S_ 5 [] λ_=>?_;exact rt1 Y Y (B8_ (λr:A_=> .agg (A_.pc r)) e2 (ple Y))
theorem N2_ (p:A_):Fn prog gb 12 [.agg (A_.pc p)] (.bool (E8_ p)):=by
 refine kG func12 ntmps12 λw N H hG=>?_;have e0:=E8_.eq_1 p;refine kB 9 [0] λB0=>?_;refine call (Kl_ _) Y Y λw0=>kA 2 ?_;refine callg Y (λhc=>(Km_ _)) Y ⟨(λhc=>hc),trivial⟩ Y Y λ_=>callg Y (λhc=>(Ky_ _)) Y ⟨(λhc=>hc),trivial⟩ Y Y λ_=>kC 6 ?_;exact zE
theorem Kz_ (p:A_) (from_:Int) (to_:Int):Fn prog gb 53 [.agg (A_.pc p), .int .i64 from_, .int .i64 to_] (.bool (Eg_ p from_ to_)):=by
 refine kG func53 ntmps53 λw N H hG=>?_;have e0:=Eg_.eq_1 p from_ to_;refine kB 15 [0] λB0=>?_;refine aN [1,2,3,4,5,6] 37 mixd<|kF [0,1,2,3,4,5,6,7,8,9,10,11,12,13,14,15,16,17,18,19,20,21,22,23,24] 12 ?_;refine vqg 25 [34,35] Y xO Y Y (λhc=>qidx Bd_ (from_).toNat Y Y wF (getG wF) Y Y Y Y) ⟨(λhc=>hc),(λhc=>hc),trivial⟩ Y λ_=>?_;refine kF [26,27,28,29,30] 6 ?_;refine vqg 31 [40,41] Y xO Y Y (λhc=>qidx Bd_ (to_).toNat Y Y wF (getG wF) Y Y Y Y) ⟨(λhc=>hc),(λhc=>hc),trivial⟩ Y λ_=>?_;refine kF [32,33] 3 ?_;refine vcallg 34 Y xO Y (λhc=>(F9_ _ _)) Y Y ⟨(λhc=>hc),(λhc=>hc),trivial⟩ Y λ_=>kF [35,36] 0 ?_;refine vD<|kA 2 ?_;exact zE
theorem Jq_ (p:A_) (from_:Int) (to_:Int):Fn prog gb 54 [.agg (A_.pc p), .int .i64 from_, .int .i64 to_] (.int .i64 (Dg_ p from_ to_)):=by
 refine kG func54 ntmps54 λw N H hG=>?_;have p_grants_l:p.grants.length<=140737488355328:=w.1.2.2.2.2.1.1;have e0:=Dg_.eq_1 p from_ to_;generalize Dg_ p from_ to_=z at e0 ⊢;refine kB 16 [0] λB0=>?_;refine loop (ι:=Nat) [1,2,10,11] [0] (λk=>[(12, .int .i64 (k:Int))]) (λk=>[]) (λk=>k<=p.grants.length/\z=As_ from_ to_ (p.grants.drop k) k) (λk=>p.grants.length-k) 0 ⟨Y,Z⟩ Z ?_ ?_;exact⟨Nat.zero_le _,e0⟩;rintro k ⟨hp3_1,hp3_2⟩;refine kN 6 (λp0=>?_) λp1=>?_;have e1:=Bq_ (f:=λzz=>As_ from_ to_ zz k) hp3_2 (E5_ xN) (As_.eq_2 _ _ _ _ _);have hc0:=getG (xs:=p.grants) (k:=k) xN;refine jA 7 Y<|kI k hc0 λw0=>?_;refine kD 20 [1] λB1=>?_;refine cE e1 (λh0 e2=>?_) (λh0 e3=>?_);have h1:=bl h0;have h2:=br h0;refine kA 12 ?_;subst e2;exact qr1;refine kC 7 ?_;refine next (k+1) Y Y ⟨Y,Z⟩ Z ?_ ?_;exact zA;exact⟨by (try simp only[]);omega,e3⟩;have e1:=Bq_ (f:=λzz=>As_ from_ to_ zz k) hp3_2 (E6_ xN) (As_.eq_1 _ _ _);refine kA 11 ?_;subst e1;exact qr1
abbrev R0_:Int->PV:=λr=> .int .i64 r
theorem Ch_ (s:List Int) (v:Int):Fn prog gb 30 [.sl i64c s, .int .i64 v] (.bool (Ay_ s v)):=by
 refine kG func30 ntmps30 λw N H hG=>?_;have e0:=Ay_.eq_1 s v;refine jA 9 Y<|cV e0 R0_ (Px_ _ _) Y λr hr0 e1 w0=>kA 5 ?_;exact rt1 Y Y (B8_ (λr:Bool=> .bool r) e1 (ple Y))
abbrev ty3zn:TI:=⟨.int .i64,1,8,[.int .i64 0]⟩
abbrev ty28zn:TI:=⟨.int .u64,1,8,[.int .u64 0]⟩
abbrev ty36zn:TI:=⟨.slc 3,1,24,[.sl i64c []]⟩
abbrev ty39zn:TI:=⟨.agg [(0,1),(1,1),(2,1),(3,1),(4,1)],5,88,[.int .i64 0, .int .i64 0, .sl Ad_.pc [], .sl i64c [], .sl U_.pc []]⟩
def tbzn:Tb:=[(3,ty3zn),(28,ty28zn),(36,ty36zn),(39,ty39zn)]
theorem Gd_:tbB prog tbzn=true:=by kernel_rfl
def gb0:Gb:=⟨λ_=>True,λ_ _ _ _=>trivial⟩
theorem At_v (wk gv:Int) (v1 v2:Value) (zs:List Int) (tick:Int) (hs:0<zs.length) (hl:zs.length<=1000):Fn prog gb0 145 [.agg [.int .i64 wk, .int .i64 gv, .usl v1, .sl i64c zs, .usl v2], .int .u64 tick] (.int .i64 (gt zs ((tick%(zs.length:Int))).toNat)):=by
 refine fC func145 Gd_ ntmps145 λw N H hG=>?_;have tick_r:0<=tick/\tick<=18446744073709551615:=w.2.1;have hem:=Int.emod_lt_of_pos tick (show (0:Int)<zs.length by omega);have hen:=Int.emod_nonneg tick (show (zs.length:Int)≠0 by omega);refine gm Gd_ 7 [0] λB0=>?_;refine aN [1,2,3,4,5,6] 11 (show prog.follows .mixedOrders=true by kernel_rfl) ?_;refine gX Gd_ [0,1,2,3,4,5] 5 ?_;refine vE 6 Y (eqy (qconv Gd_ Y Y Y Y (rg_u64 xN)) Y λw0=>?_);refine gXy Gd_ [7] 3 ?_;have hc0:=getG (xs:=zs) (k:=((tick%(zs.length:Int))).toNat) xN;refine vq 8 (qidx Gd_ ((tick%(zs.length:Int))).toNat Y Y xN hc0 Y Y Y Y) Y xO Y λw1=>?_;refine gX Gd_ [9,10] 0 ?_;refine vD ?_;refine gx Gd_ 2 ?_;exact rt1 Y Y (ple Y)
end Go.SW.V
namespace Go.Proofs
open Go.RowKit Go.Shelf Go.SW
theorem At_w (w:World) (wk gv:Int) (rk:-9223372036854775808<=wk/\wk<=9223372036854775807) (rg:-9223372036854775808<=gv/\gv<=9223372036854775807) (v1 v2:Value) (o1:v1.oneCell'=true) (o2:v2.oneCell'=true) (b off cap:Nat) (zs:List Int) (hz:∀ z∈zs,-9223372036854775808<=z/\z<=9223372036854775807)
   (h0:0<zs.length) (hl:zs.length<=1000) (hcap:zs.length<=cap) (c:Array Value) (T:TypeId) (fr:Nat×Nat) (hb:w.heap[b]? = some (.cells c T fr)) (hc:∀ j,j<zs.length->c[off+j]? = some (.int .i64 (V.gt zs j))) (t:Nat) (ht:t<=18446744073709551615) :
   Calls prog 145 #[.agg #[.int .i64 wk, .int .i64 gv,v1, .slice (some ⟨b,off,none⟩) zs.length cap,v2], .int .u64 t] w λe w'=>e = .returned (.int .i64 (V.gt zs (t%zs.length)))/\Below w.heap.size w w':=by
 have hs:Sim (hp w) (.sl i64c zs) (.slice (some ⟨b,off,none⟩) zs.length cap):=by
   refine Sim.sl 1 (λi=>[.int .i64 (V.gt zs i)]) hcap xN (λi x hx=>?_) (λi x j p v hx hp hv=>?_)
   . have hi:i<zs.length:=by
       rcases Nat.lt_or_ge i zs.length with q|q
       . exact q
       . rw[List.getElem?_eq_none q] at hx;cases hx
     refine⟨rfl,⟨b,off,_,_,c,T,fr,rfl,hb,rfl,λj hj=>?_⟩,λu hu=>by rw[List.mem_singleton.1 hu];rfl⟩
     obtain rfl :j=0:=by omega
     rw[show off+i*1+0=off+i by omega,hc i hi];rfl
   . have hi:i<zs.length:=by
       rcases Nat.lt_or_ge i zs.length with q|q
       . exact q
       . rw[List.getElem?_eq_none q] at hx;cases hx
     rw[V.getG hi] at hx;cases hx
     cases j with
     |zero=>cases hp;cases hv;have :=hz _ (V.gt_mem hi);exact Sim.int this.1 this.2
     |succ j=>cases hp
 have ht':IntKind.min .u64<=(t:Int)/\(t:Int)<=IntKind.max .u64:=by
   show (0:Int)<=t/\(t:Int)<=18446744073709551615
   omega
 have h:=(V.At_v wk gv v1 v2 zs t h0 hl).run (Rk_ w) (hp w) l0 w [.agg #[.int .i64 wk, .int .i64 gv,v1, .slice (some ⟨b,off,none⟩) zs.length cap,v2], .int .u64 t] Z
   (Sims.cons (Sim.toAgg (vs:=[.int .i64 wk, .int .i64 gv,v1, .slice (some ⟨b,off,none⟩) zs.length cap,v2]) (Sims.cons (Sim.int rk.1 rk.2) (Sims.cons (Sim.int rg.1 rg.2) (Sims.cons (Sim.usl o1) (Sims.cons hs (Sims.cons (Sim.usl o2) Sims.nil)))))) (Sims.cons (Sim.int ht'.1 ht'.2) Sims.nil)) (mem0 w)
 refine h.mono λe w' ⟨v,H',e1,e2,e3,e4⟩=>?_;have hb':Below w.heap.size w w':=by
   have hk:∀ k,k<w.heap.size->w'.heap[k]? = w.heap[k]? :=λk hk=>by
     have e:w.heap[k]? = some w.heap[k]:=Array.getElem?_eq_getElem hk
     rw[e];exact e4.h k _ (e3 k _ e)
   refine⟨e4.os,e4.tape,e4.output,?_,hk⟩
   by_cases z:w.heap.size=0
   . omega
   . have :=hk (w.heap.size-1) xN
     exact yJ
 refine⟨?_,hb'⟩;rw[e1]
 cases e2
 rw[show ((t:Int)%(zs.length:Int)).toNat=t%zs.length by rw[<- Int.natCast_emod];rfl]
end Go.Proofs
namespace Go.Proofs
open Go.RowKit Go.Shelf
attribute [local go_sem] Oper.semAt_some
def upF {α:Type} (f:Nat->α) (k:Nat):List α:=(List.range k).map f
theorem Gw_ {α:Type} (f:Nat->α) (k:Nat):upF f (k+1)=upF f k++[f k]:=by simp[upF,List.range_succ]
theorem Et_ {α:Type} (f:Nat->α) (k:Nat):(upF f k).length=k:=by simp[upF]
def fN (zs:List Int) (t0:Nat) (j:Nat):Int×Int:=((t0:Int)+(j:Int),Go.SW.V.gt zs ((t0+j)%zs.length))
/-- What a round keeps: two blocks. -/
structure KpS (b Bp:Nat) (W W':World):Prop where
 size:W.heap.size<=W'.heap.size
 kb:W'.heap[b]? = W.heap[b]?
 kp:W'.heap[Bp]? = W.heap[Bp]?
theorem KpS.refl {b Bp:Nat} (W:World):KpS b Bp W W:=⟨Nat.le_refl _,rfl,rfl⟩
theorem KpS.trans {b Bp:Nat} {A B C:World} (h:KpS b Bp A B) (k:KpS b Bp B C):KpS b Bp A C:=⟨Nat.le_trans h.size k.size,k.kb.trans h.kb,k.kp.trans h.kp⟩
theorem All1_in (n:Nat) (hn:1<=n) (l Bt Bp b off cap:Nat) (wk gv:Int) (rk:-9223372036854775808<=wk/\wk<=9223372036854775807) (rg:-9223372036854775808<=gv/\gv<=9223372036854775807) (v1 v2:Value) (o1:v1.oneCell'=true) (o2:v2.oneCell'=true) (zs:List Int) (hz:∀ z∈zs,-9223372036854775808<=z/\z<=9223372036854775807)
   (h0:0<zs.length) (hl:zs.length<=1000) (hcap:zs.length<=cap) (c:Array Value) (T:TypeId) (fr:Nat×Nat) (hcc:∀ j,j<zs.length->c[off+j]? = some (.int .i64 (Go.SW.V.gt zs j))) (t0:Nat) (ht:t0<=18446744073709551615)
   (J Jx:List (Int×Int)->World->Prop)
   (hY:∀ pre x W,J pre W->pre.length<18446744073709551616->YieldAt Fence.wide (n-1) prog l #[.int .u64 x.1, .int .i64 x.2] W λe W'=>
     (e = .returned (.bool true)/\J (pre++[x]) W'/\KpS b Bp W W')\/(e = .returned (.bool false)/\Jx (pre++[x]) W'))
   (W:World) (hb:W.heap[b]? = some (.cells c T fr)) (hBt:W.cell? ⟨Bt,0,none⟩=some (.int .u64 t0)) (hBp:W.heap[Bp]? = some (.cells #[.int .i64 wk, .int .i64 gv,v1, .slice (some ⟨b,off,none⟩) zs.length cap,v2] 39)) (hJa:AbidesFrom W.heap.size J) (hJ:J [] W) :
   CallsIn Fence.wide n prog 313 #[.func (.yield l) #[] #[], .pointer (some ⟨Bt,0,none⟩), .pointer (some ⟨Bp,0,none⟩)] W λe W'=>(∃ v,e = .returned v) /\
     ((∃ ys,(∃ k,t0+k=18446744073709551616/\ys=upF (fN zs t0) k)/\J ys W')\/(∃ pre,(∃ k,t0+k<=18446744073709551616/\pre=upF (fN zs t0) k)/\Jx pre W')):=by
 refine callsIn_of_wp func313 Y Z ?_ Y
 simp only[ntmps313,List.size_toArray,List.length_cons,List.length_nil,Nat.reduceAdd,Nat.reduceSub,Array.replicate_succ,Array.replicate_zero,List.push_toArray,List.append_toArray,List.nil_append,List.cons_append]
 gi_wp2
 gi_loopw [4] (λi wr=>∃ k:Nat,t0+k<=18446744073709551615/\i = .int .u64 ((t0:Int)+(k:Int))/\J (upF (fN zs t0) k) wr/\KpS b Bp W wr)
   (λi _=>18446744073709551615-(intOf i).toNat)
 case atStart=>exact⟨0,by omega,rfl,hJ,KpS.refl _⟩
 case round=>
   obtain⟨k,hk,rfl,hJs,hnx⟩:=hrel
   have hbr:wr.heap[b]? = some (.cells c T fr):=hnx.kb.trans hb
   have hpr:wr.heap[Bp]? = some (.cells #[.int .i64 wk, .int .i64 gv,v1, .slice (some ⟨b,off,none⟩) zs.length cap,v2] 39):=hnx.kp.trans hBp
   have p0:wr.cell? ⟨Bp,0,none⟩=some (.int .i64 wk):=by simp[World.cell?,hpr]
   have p1:wr.cell? ⟨Bp,1,none⟩=some (.int .i64 gv):=by simp[World.cell?,hpr]
   have p2:wr.cell? ⟨Bp,2,none⟩=some v1:=by simp[World.cell?,hpr]
   have p3:wr.cell? ⟨Bp,3,none⟩=some (.slice (some ⟨b,off,none⟩) zs.length cap):=by simp[World.cell?,hpr]
   have p4:wr.cell? ⟨Bp,4,none⟩=some v2:=by simp[World.cell?,hpr]
   gi_wp2
   rw[show (t0:Int)+(k:Int)=((t0+k:Nat):Int) by omega]
   refine⟨trivial,(callsIn_wide.2 (At_w wr wk gv rk rg v1 v2 o1 o2 b off cap zs hz h0 hl hcap c T fr hbr hcc (t0+k) hk)).mono ?_⟩
   rintro e W2 ⟨rfl,hB2⟩
   have hJ2:=hJa _ wr W2 none hJs ⟨hB2.os,hB2.tape,hB2.output,hB2.size,λj hj _=>hB2.block j hj⟩ (λr e=>by cases e)
   have hn2:KpS b Bp W W2:=hnx.trans ⟨hB2.size,hB2.block _ (Array.getElem?_eq_some_iff.1 hbr).1,hB2.block _ (Array.getElem?_eq_some_iff.1 hpr).1⟩
   obtain⟨fn,tmps,assign,body,hy,hR⟩:=hY _ (fN zs t0 k) W2 hJ2 (by rw[Et_];omega)
   dsimp only[fN] at hy
   gi_wp2
   refine hR.mono ?_
   rintro e W3 (⟨rfl,hJ3,hk3⟩|⟨rfl,hJx3⟩)
   . by_cases hmax:t0+k=18446744073709551615
     . gi_wp2
       refine bodyPost_ret (results_none Y _ _ _) Y ?_
       exact⟨⟨_,rfl⟩, .inl ⟨_,⟨k+1,by omega,(Gw_ _ _).symm⟩,hJ3⟩⟩
     . gi_wp2
       refine⟨⟨k+1,by omega,by rw[show ((k+1:Nat):Int)=(k:Int)+1 by omega,Int.add_assoc],by rw[Gw_];exact hJ3,hn2.trans hk3⟩,?_⟩
       simp only[intOf];omega
   . gi_wp2
     go_end0
     exact⟨⟨_,rfl⟩, .inr ⟨_,⟨k+1,by omega,(Gw_ _ _).symm⟩,hJx3⟩⟩
theorem Nx_ (n:Nat) (hn:1<=n) (Bt Bp b off cap:Nat) (wk gv:Int) (rk:-9223372036854775808<=wk/\wk<=9223372036854775807) (rg:-9223372036854775808<=gv/\gv<=9223372036854775807) (v1 v2:Value) (o1:v1.oneCell'=true) (o2:v2.oneCell'=true) (zs:List Int) (hz:∀ z∈zs,-9223372036854775808<=z/\z<=9223372036854775807)
   (h0:0<zs.length) (hl:zs.length<=1000) (hcap:zs.length<=cap) (c:Array Value) (T:TypeId) (fr:Nat×Nat) (hcc:∀ j,j<zs.length->c[off+j]? = some (.int .i64 (Go.SW.V.gt zs j))) (t0:Nat) (ht:t0<=18446744073709551615)
   (w:World) (hb:w.heap[b]? = some (.cells c T fr)) (hBt:w.heap[Bt]? = some (.cells #[.int .u64 t0] 28)) (hBp:w.heap[Bp]? = some (.cells #[.int .i64 wk, .int .i64 gv,v1, .slice (some ⟨b,off,none⟩) zs.length cap,v2] 39)) :
   SeqStopsK Fence.wide n prog 313 #[.pointer (some ⟨Bt,0,none⟩), .pointer (some ⟨Bp,0,none⟩)] (λx:Int×Int=>#[Value.int .u64 x.1, .int .i64 x.2]) (KpS b Bp) (λys=>∃ k,t0+k=18446744073709551616/\ys=upF (fN zs t0) k) (λpre=>∃ k,t0+k<=18446744073709551616/\pre=upF (fN zs t0) k) 18446744073709551616 w:=λl J Jx W hW hJa _ hY hJ=>by
 have hlt:∀ {k:Nat} {o:Obj},w.heap[k]? = some o->W.heap[k]? = some o:=λ{k o} h=>(hW.block k (Array.getElem?_eq_some_iff.1 h).1).trans h
 exact All1_in n hn l Bt Bp b off cap wk gv rk rg v1 v2 o1 o2 zs hz h0 hl hcap c T fr hcc t0 ht J Jx hY W (hlt hb) (by simp[World.cell?,hlt hBt]) (hlt hBp) hJa hJ
attribute [local go_sem] Oper.semAt_some
theorem All_in (n:Nat) (w:World) (wk gv:Int) (v1 v2 v3:Value) (o1:v1.oneCell'=true) (o2:v2.oneCell'=true) (o3:v3.oneCell'=true) (t0:Nat) :
   CallsIn Fence.wide n prog 225 #[.agg #[.int .i64 wk, .int .i64 gv,v1,v3,v2], .int .u64 t0] w λe w'=>e = .returned (.func (.func 313) #[] #[.pointer (some ⟨w.heap.size+1,0,none⟩), .pointer (some ⟨w.heap.size,0,none⟩)])/\w'=(w.alloc (.cells #[.int .i64 wk, .int .i64 gv,v1,v3,v2] 39)).alloc (.cells #[.int .u64 t0] 28):=by
 refine callsIn_of_wp func225 Y Z ?_ Y;simp only[ntmps225,List.size_toArray,List.length_cons,List.length_nil,Nat.reduceAdd,Nat.reduceSub,Array.replicate_succ,Array.replicate_zero,List.push_toArray,List.append_toArray,List.nil_append,List.cons_append]
 gi_wp2
 go_ret
 exact⟨rfl,rfl⟩
theorem cO {W:World} {a b:Addr} {v u:Value} (h:a.block≠b.block) (k:W.cell? b=some u):(W.setCell a v).cell? b=some u:=by
 rw[World.cell?_setCell_other _ _ _ _ (by rintro rfl;exact h Y)];exact k
theorem hN {w:World} {k:Nat} {o:Obj} (h:k=w.heap.size):(w.alloc o).heap[k]? = some o:=by rw[h];exact World.alloc_heap_new w o
theorem hO {w:World} {k:Nat} {o x:Obj} (h:w.heap[k]? = some x):(w.alloc o).heap[k]? = some x:=(Below.heap_alloc _ _ _ (Array.getElem?_eq_some_iff.1 h).1).trans h
theorem hC {w:World} {k j:Nat} {cs:Array Value} {T:TypeId} {fr:Nat×Nat} {v:Value} (h:w.heap[k]? = some (.cells cs T fr)) (e:cs[j]? = some v):w.cell? ⟨k,j,none⟩=some v:=by simp[World.cell?,h,e]
theorem hF {w:World} {k j:Nat} {cs:Array Value} {T:TypeId} {fr:Nat×Nat} (h:w.heap[k]? = some (.cells cs T fr)) (e:fr=(0,0)):w.frozen? ⟨k,j,none⟩=false:=by subst e;simp[World.frozen?,h]
theorem cS {W:World} {a:Addr} {v u:Value} (k:W.cell? a=some u):(W.setCell a v).cell? a=some v:=World.cell?_setCell_same _ _ _ k
theorem fO {W:World} {a b:Addr} {v:Value} {c:Bool} (k:W.frozen? b=c):(W.setCell a v).frozen? b=c:=by
 rw[World.frozen?_setCell];exact k
theorem snN {pre:List (Int×Int)} {x:Int×Int} {place:Int} (h:∀ y∈pre,y.2≠place) (hx:x.2≠place):∀ y∈pre++[x],y.2≠place:=λy hy=>by
 rcases List.mem_append.1 hy with q|q
 . exact h y q
 . rw[List.mem_singleton.1 q];exact hx
theorem Next_in (n:Nat) (hn:2<=n) (w:World) (wk gv:Int) (rk:-9223372036854775808<=wk/\wk<=9223372036854775807) (rg:-9223372036854775808<=gv/\gv<=9223372036854775807) (v1 v2:Value) (o1:v1.oneCell'=true) (o2:v2.oneCell'=true) (b off cap:Nat) (zs:List Int) (hz:∀ z∈zs,-9223372036854775808<=z/\z<=9223372036854775807)
   (h0:0<zs.length) (hl:zs.length<=1000) (hcap:zs.length<=cap) (c:Array Value) (T:TypeId) (fr:Nat×Nat) (hb:w.heap[b]? = some (.cells c T fr)) (hcc:∀ j,j<zs.length->c[off+j]? = some (.int .i64 (Go.SW.V.gt zs j))) (place:Int) (t0:Nat) (ht:t0+zs.length<=18446744073709551615) :
   CallsIn Fence.wide n prog 162 #[.agg #[.int .i64 wk, .int .i64 gv,v1, .slice (some ⟨b,off,none⟩) zs.length cap,v2], .int .i64 place, .int .u64 t0] w λe w'=>
     ((∃ k,k<zs.length/\(∀ j,j<k->(fN zs t0 j).2≠place)/\(fN zs t0 k).2=place/\e = .returned (.tuple #[.int .u64 (fN zs t0 k).1, .bool true]))\/((∀ j,j<zs.length->(fN zs t0 j).2≠place)/\e = .returned (.tuple #[.int .u64 0, .bool false])))/\Below w.heap.size w w':=by
 have h1:1<=n:=by omega
 refine callsIn_of_wp_marks func162 Y Z ?_ Y;simp only[ntmps162,List.size_toArray,List.length_cons,List.length_nil,Nat.reduceAdd,Nat.reduceSub,Array.replicate_succ,Array.replicate_zero,List.push_toArray,List.append_toArray,List.nil_append,List.cons_append]
 gi_wp2
 refine⟨trivial,(All_in (n-1) _ wk gv v1 v2 _ o1 o2 Y t0).mono ?_⟩;rintro e W1 ⟨rfl,rfl⟩
 gi_wp2
 refine wpIn_rangeFunc_ownF Y h1 (gf:=313) Y Z (enters_of func313 xO Y)
   (Nx_ (n-1) xN (w.heap.size+1+1+1+1+1+1) (w.heap.size+1+1+1+1+1) b off cap wk gv rk rg v1 v2 o1 o2 zs hz h0 hl hcap c T fr hcc t0 xN _ ?hb ?hBt ?hBp)
   (λh k=>h.trans k) ?hKb (Below.refl _ _) (λ_=>rfl)
   (λpre W=>(W.cell? ⟨w.heap.size,3,none⟩=some (.slice (some ⟨b,off,none⟩) zs.length cap)/\W.cell? ⟨w.heap.size+1,0,none⟩=some (.int .i64 place)/\(W.cell? ⟨w.heap.size+1+1,0,none⟩=some (.int .u64 0)/\W.frozen? ⟨w.heap.size+1+1,0,none⟩=false)/\(W.cell? ⟨w.heap.size+1+1+1,0,none⟩=some (.bool false)/\W.frozen? ⟨w.heap.size+1+1+1,0,none⟩=false)/\W.cell? ⟨w.heap.size+1+1+1+1,0,none⟩=some (.int .i64 pre.length)/\W.frozen? ⟨w.heap.size+1+1+1+1,0,none⟩=false)/\((∀ y∈pre,y.2≠place)/\pre.length<zs.length)/\Below w.heap.size w W)
   (λc pre W=>((c = .ret/\∃ p0 x,pre=p0++[x]/\(∀ y∈p0,y.2≠place)/\x.2=place/\p0.length<zs.length/\W.cell? ⟨w.heap.size+1+1,0,none⟩=some (.int .u64 x.1)/\W.cell? ⟨w.heap.size+1+1+1,0,none⟩=some (.bool true))\/(c = .exit 0/\(∀ y∈pre,y.2≠place)/\pre.length=zs.length/\(W.cell? ⟨w.heap.size+1+1,0,none⟩=some (.int .u64 0)/\W.frozen? ⟨w.heap.size+1+1,0,none⟩=false)/\(W.cell? ⟨w.heap.size+1+1+1,0,none⟩=some (.bool false)/\W.frozen? ⟨w.heap.size+1+1+1,0,none⟩=false)))/\Below w.heap.size w W)
   ?hI ?hIx ?hI0
   (λx=>{tmps:=#[.agg #[Value.int .i64 wk, .int .i64 gv,v1, .slice (some ⟨b,off,none⟩) zs.length cap,v2], .int .i64 place, .int .u64 t0, .pointer (some ⟨w.heap.size,0,none⟩), .pointer (some ⟨w.heap.size+1,0,none⟩),undef, .pointer (some ⟨w.heap.size+1+1,0,none⟩), .pointer (some ⟨w.heap.size+1+1+1,0,none⟩), .pointer (some ⟨w.heap.size+1+1+1+1,0,none⟩), .int .u64 x.1, .int .i64 x.2, .agg #[Value.int .i64 wk, .int .i64 gv,v1, .slice (some ⟨b,off,none⟩) zs.length cap,v2], .int .u64 t0, .func (.func 313) #[] #[.pointer (some ⟨w.heap.size+1+1+1+1+1+1,0,none⟩), .pointer (some ⟨w.heap.size+1+1+1+1+1,0,none⟩)], .int .u64 x.1, .int .i64 x.2,undef,undef,undef,undef,undef,undef,undef,undef,undef,undef,undef],defers:=[]}) ?assign ?body ?done ?stop
 case assign=>
   intro l x W K hK
   gi_wp2
   exact hK
 case hb=>
   exact (Below.block ((((((((Below.refl _ w).alloc xP _).alloc xP _).alloc xS _).alloc xS _).alloc xS _).alloc xS _).alloc xS _) b (Array.getElem?_eq_some_iff.1 hb).1).trans hb
 case hBt=>exact hN xP
 case hBp=>exact hO (hN xP)
 case hKb=>
   intro W l o o' hl _ _ _
   simp only[World.size_alloc] at hl
   have hbl:=(Array.getElem?_eq_some_iff.1 hb).1
   exact⟨by simp[World.putObj],World.putObj_heap_other xN,World.putObj_heap_other xN⟩
 case hI=>
   intro s A B row hs hg hr
   have hr':=λr e=>(hr r e).2
   obtain⟨⟨c0,cp,⟨ca,fa⟩,⟨cb,fb⟩,ci,fi⟩,hne,hB⟩:=hs
   exact⟨⟨cell_kept c0 hg hr',cell_kept cp hg hr',⟨cell_kept ca hg hr',(frozen_kept ca hg hr').trans fa⟩,⟨cell_kept cb hg hr',(frozen_kept cb hg hr').trans fb⟩,cell_kept ci hg hr',(frozen_kept ci hg hr').trans fi⟩,hne,hB.grown hg hB.size (λk e=>by have :=(hr k e).1;simp only[World.size_alloc] at this;omega)⟩
 case hIx=>
   intro c s A B row hs hg hr
   have hr':=λr e=>(hr r e).2
   obtain⟨hs,hB⟩:=hs
   refine⟨?_,hB.grown hg hB.size (λk e=>by have :=(hr k e).1;simp only[World.size_alloc] at this;omega)⟩
   rcases hs with ⟨rfl,p0,x,e1,e2,e3,e4,e5,e6⟩|⟨rfl,e2,e3,⟨ca,fa⟩,⟨cb,fb⟩⟩
   . exact .inl ⟨rfl,p0,x,e1,e2,e3,e4,cell_kept e5 hg hr',cell_kept e6 hg hr'⟩
   . exact .inr ⟨rfl,e2,e3,⟨cell_kept ca hg hr',(frozen_kept ca hg hr').trans fa⟩,⟨cell_kept cb hg hr',(frozen_kept cb hg hr').trans fb⟩⟩
 case hI0=>
   refine⟨?_,⟨by simp,by simpa using h0⟩,?_⟩
   . exact⟨hC (hO (hO (hO (hO (hO (hO (hN xP))))))) rfl,hC (hO (hO (hO (hO (hO (hN xP)))))) rfl,⟨hC (hO (hO (hO (hO (hN xP))))) rfl,hF (hO (hO (hO (hO (hN xP))))) rfl⟩,⟨hC (hO (hO (hO (hN xP)))) rfl,hF (hO (hO (hO (hN xP)))) rfl⟩,hC (hO (hO (hN xP))) rfl,hF (hO (hO (hN xP))) rfl⟩
   . exact (((((((Below.refl _ w).alloc xP _).alloc xP _).alloc xS _).alloc xS _).alloc xS _).alloc xS _).alloc xS _
 case done=>
   rintro D xs W _ ⟨k,hk,rfl⟩ ⟨_,⟨_,h9⟩,_⟩ hK
   rw[Et_] at h9
   omega
 case body=>
   rintro l pre x W ⟨⟨c0,cp,⟨ca,fa⟩,⟨cb,fb⟩,ci,fi⟩,⟨hne,hlt⟩,hB⟩ _
   have hbl:=(Array.getElem?_eq_some_iff.1 hb).1
   gi_wp2
   . rename_i hx
     exact⟨(KeepsOthers.setCell _ _ _).trans (KeepsOthers.setCell _ _ _), .inl ⟨rfl,pre,x,rfl,hne,by simpa using hx,hlt,cO xX (cS ca),cS (cO xX cb)⟩,(hB.setCell xS _).setCell xS _⟩
   . rename_i hx hy
     exact⟨KeepsOthers.setCell _ _ _, .inr ⟨rfl,snN hne (by simpa using hx),by simp;omega,⟨cO xX ca,fO fa⟩,cO xX cb,fO fb⟩,hB.setCell xS _⟩
   . rename_i hx hy
     exact⟨KeepsOthers.setCell _ _ _,⟨by simp[World.setCell],Below.heap_setCell _ _ _ _ xS,Below.heap_setCell _ _ _ _ xP⟩,⟨cO xX c0,cO xX cp,⟨cO xX ca,fO fa⟩,⟨cO xX cb,fO fb⟩,by rw[List.length_append];exact cS ci,fO fi⟩,⟨snN hne (by simpa using hx),by simp;omega⟩,hB.setCell xS _⟩
 case stop=>
   rintro D c pre W hD ⟨k,_,rfl⟩ ⟨hs,hB⟩ hK
   simp only[World.size_alloc] at hD
   rcases hs with ⟨rfl,p0,x,e1,e2,e3,e4,e5,e6⟩|⟨rfl,e2,e3,⟨ca,fa⟩,⟨cb,fb⟩⟩
   . gi_wp2
     refine⟨by simp, .inl ⟨_,_,rfl,run_takeDeferred hK,?_⟩⟩
     have h5:=cell_kept e5 (grownBy_putObj' _ D (.deferred none)) (λr e=>by cases e;exact⟨_,hK,rfl⟩)
     have h6:=cell_kept e6 (grownBy_putObj' _ D (.deferred none)) (λr e=>by cases e;exact⟨_,hK,rfl⟩)
     have hk:k=p0.length+1:=by have :=congrArg List.length e1;simpa [Et_] using this
     rw[hk,Gw_] at e1
     obtain⟨q1,q2⟩:=List.append_inj' e1 Y
     have q3:x=fN zs t0 p0.length:=(List.cons.inj q2).1.symm
     refine⟨.tuple #[.int .u64 x.1, .bool true],?_, .inl ⟨p0.length,e4,λj hj=>e2 _ (by rw[<- q1];simp only[upF,List.mem_map,List.mem_range];exact⟨j,hj,rfl⟩),by rw[<- q3];exact e3,by rw[<- q3]⟩,hB.grown (grownBy_putObj' W D _) hB.size (λr e=>by cases e;omega)⟩
     simp[results,Tryz.f162,go_sem,h5,h6]
   . gi_wp2
     have hK':=((KeepsOthers.setCell W ⟨w.heap.size+1+1,0,none⟩ (.int .u64 0)).trans (KeepsOthers.setCell _ ⟨w.heap.size+1+1+1,0,none⟩ (.bool false))).same D _ hK Y
     refine⟨by simp, .inl ⟨_,_,rfl,run_takeDeferred hK',?_⟩⟩
     have h5:=cell_kept (cO (b:=⟨w.heap.size+1+1,0,none⟩) (a:=⟨w.heap.size+1+1+1,0,none⟩) (v:= .bool false) xP (cS (v:= .int .u64 0) ca)) (grownBy_putObj' _ D (.deferred none)) (λr e=>by cases e;exact⟨_,hK',rfl⟩)
     have h6:=cell_kept (cS (v:= .bool false) (cO (b:=⟨w.heap.size+1+1+1,0,none⟩) (a:=⟨w.heap.size+1+1,0,none⟩) (v:= .int .u64 0) xP cb)) (grownBy_putObj' _ D (.deferred none)) (λr e=>by cases e;exact⟨_,hK',rfl⟩)
     rw[Et_] at e3
     refine⟨.tuple #[.int .u64 0, .bool false],?_, .inr ⟨λj hj=>e2 _ (by simp only[upF,List.mem_map,List.mem_range];exact⟨j,by omega,rfl⟩),rfl⟩,((hB.setCell xS _).setCell xS _).grown (grownBy_putObj' _ D _) ((hB.setCell xS _).setCell xS _).size (λr e=>by cases e;omega)⟩
     simp[results,Tryz.f162,go_sem,h5,h6]
end Go.Proofs
