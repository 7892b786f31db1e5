/-
  A part of the proof of ScriptTells: Lists of short words, joined by a blank. Plain Lean; no condition.
-/
import Derived.Test.YtlemlalknchmcaaGreatDoorScriptTellsP2
import Derived.Shelf.LaysM
import Derived.Shelf.Strings.OnBuilder
import Derived.Shelf.Strconv.Itoa3
import Derived.Lib.AppendIntMem
import Derived.Lib.Walk
import Derived.WalkKit
import Derived.BigCall
import Derived.BigGuard
import Derived.Test.YtlemlalknchmcaaGreatDoorProg
import Derived.Shelf.Strings.Fields
import Derived.Test.YtlemlalknchmcaaGreatDoorScriptTellsP1
import Derived.KernelRfl
import Derived.Test.YtlemlalknchmcaaGreatDoorScriptTellsP6
import Derived.Test.YtlemlalknchmcaaGreatDoorScriptTellsP13
import Derived.LaidByTextLater
set_option linter.unusedVariables false
set_option linter.unusedSimpArgs false
set_option maxRecDepth 100000
set_option maxHeartbeats 4000000
open BitVec renaming ofInt->A4
open Bool renaming eq_iff_iff->E6
open Go.DataW renaming lit->HF,trod->HC
open Go.IntKind renaming bits->A5,wrap->AA
open Go.Obj renaming cells->EV
open Go.World renaming holding->D9
open List renaming foldl->HG,getElem?_eq_none->BQ,getElem?_map->AR,length->EB,length_cons->AE,length_nil->BT
open Nat renaming testBit->HH,testBit_or->GK
open Go.Proofs.Tryz
namespace Go.SW.V
open Go.SW
def Wds(l:List Bs):Prop:=∀ z∈l,z.length<=1000
theorem Fe_:Wds []:=λ_ h=>absurd h (List.not_mem_nil)
theorem Di_{z:Bs}{l:List Bs}(h:z.length<=1000)(hl:Wds l):Wds (z::l):=λy hy=>by
 rcases List.mem_cons.1 hy with rfl|hy
 . exact h
 . exact hl y hy
theorem Fd_{a b:List Bs}(h:Wds a)(hl:Wds b):Wds (a++b):=λy hy=>by
 rcases List.mem_append.1 hy with hy|hy
 . exact h y hy
 . exact hl y hy
theorem Kc_:∀ {l:List Bs},Wds l->(joinB l [32]).length<=l.length*1001
 |[],_=>by simp[joinB]
 |[a],h=>by have :=h a xP;simp only[joinB,AE,BT];omega
 |a::b::r,h=>by
   have h1:=h a xP
   have h2:=Kc_ (l:=b::r) λz hz=>h z (List.mem_cons_of_mem _ hz)
   simp only[joinB,List.length_append,AE,BT] at *
   omega
theorem Cv_(n:Int):(A_ n).length<=1000:=by have :=B_ n;unfold A_;omega
theorem Bn_{s:Bs}(h:s.length<=1000):(U_ s).length<=1000:=by
 unfold U_;exact zD
theorem F_{s:Bs}(h:s.length<=1000):(A3_ s).length<=1000:=by
 unfold A3_;exact zD
theorem An_(k:Nat):(gt rplW k).length<=1000:=by
 by_cases h:k<rplW.length;have :=rpl_short _ (gt_mem h);omega;unfold gt;rw[List.getD_eq_getElem?_getD,BQ xN];decide
theorem and7'(x:BitVec 8):(IntKind.wrap .u8 ((x &&& 7#8).toNat:Int)).toNat<8:=by
 have :(x &&& 7#8).toNat<=7:=by rw[BitVec.toNat_and];exact Nat.and_le_right
 rw[IntKind.wrap_u8];omega
theorem and7(x:BitVec (IntKind.bits .u8)):(IntKind.wrap .u8 ((x &&& BitVec.ofInt (IntKind.bits .u8) 7).toNat:Int)).toNat<8:=and7' x
theorem dig_one:∀ n:Nat,n<10->((([48,49,50,51,52,53,54,55,56,57]:Bs).drop n).take (n+1-n))=[UInt8.ofNat (48+n)]:=by decide +kernel
theorem Ql_{n:Int}(h0:0<=n)(h1:n<10):PV.str ((([48,49,50,51,52,53,54,55,56,57]:Bs).drop n.toNat).take ((IntKind.wrap .u64 (n+1)).toNat-n.toNat))=PV.str (decB n):=by
 have e:(AA .u64 (n+1)).toNat=n.toNat+1:=by rw[IntKind.wrap_u64];omega
 rw[e,dig_one _ xN,Fp_ h0 h1]
theorem Qk_{n:Int}(h0:10<=n)(h1:n<=18446744073709551615):PV.str (decB (n/10)++decB (n%10))=PV.str (decB n):=by rw[Ov_ h0 h1]
end Go.SW.V
set_option maxHeartbeats 6400000
namespace Go.Proofs
open Go.Shelf
def Tryz.lays156_ren:Go.Shelf.Ren:=⟨λ|156=>45|165=>67|166=>68|169=>69|240=>104|241=>105|276=>143|277=>144|n=>n,λ|31=>79|9=>9|3=>3|4=>4|0=>0|20=>20|72=>118|76=>122|70=>115|37=>116|75=>121|127=>173|164=>225|5=>5|80=>124|n=>n,λ|n=>n⟩
theorem Tryz.lays156:Go.Proofs.Lays.n156 prog Tryz.lays156_ren:={
 mixed:=by kernel_rfl
 f156:=func45.trans (congrArg some xO)
 f165:=func67.trans (congrArg some xO)
 f166:=func68.trans (congrArg some xO)
 f169:=func69.trans (congrArg some xO)
 f240:=func104.trans (congrArg some xO)
 f241:=func105.trans (congrArg some xO)
 f276:=func143.trans (congrArg some xO)
 f277:=func144.trans (congrArg some xO)
 t0:=underlying0
 a0:=isAgg0
 z0:=sizeOf0
 v0:=zeroValue0
 t3:=underlying3
 a3:=isAgg3
 z3:=sizeOf3
 v3:=zeroValue3
 t4:=underlying4
 a4:=isAgg4
 z4:=sizeOf4
 v4:=zeroValue4
 t9:=underlying9
 a9:=isAgg9
 z9:=sizeOf9
 v9:=zeroValue9
 t20:=underlying20
 a20:=isAgg20
 z20:=sizeOf20
 v20:=zeroValue20
 t31:=underlying79
 a31:=isAgg79
 z31:=sizeOf79
 v31:=zeroValue79
 t37:=underlying116
 a37:=isAgg116
 z37:=sizeOf116
 v37:=zeroValue116
 t70:=underlying115
 a70:=isAgg115
 z70:=sizeOf115
 v70:=zeroValue115
 t72:=underlying118
 a72:=isAgg118
 z72:=sizeOf118
 v72:=zeroValue118
 t75:=underlying121
 a75:=isAgg121
 z75:=sizeOf121
 v75:=zeroValue121
 t76:=underlying122
 a76:=isAgg122
 z76:=sizeOf122
 v76:=zeroValue122
 t127:=underlying173
 a127:=isAgg173
 z127:=sizeOf173
 v127:=zeroValue173
 t164:=underlying225
 a164:=isAgg225
 z164:=sizeOf225
 v164:=zeroValue225}
theorem Tryz.Builder_Extra_156:Builder.Extra prog Tryz.lays156_ren:={
 sizeBuilder:=by kernel_rfl
 liesBuilder:=by kernel_rfl
 t5:=underlying5
 a5:=isAgg5
 z5:=sizeOf5
 v5:=zeroValue5
 infoByte:=by kernel_rfl
 cellsByte:=by kernel_rfl
 sizeByte:=by kernel_rfl
 neB5:=by decide}
theorem Tryz.strings_Join_none(a:Option Addr)(c:Nat)(sep:ByteArray)(w:World) :
   Calls prog 45 #[.slice a 0 c, .string sep] w λe w'=>e = .returned (.string ⟨#[]⟩)/\w'=w:=Any.strings_Join_none Tryz.lays156 Tryz.Builder_Extra_156 a c sep w
open Go.RowKit in
theorem Tryz.strings_Join(bk o c:Nat)(xs:List ByteArray)(sep:ByteArray)(w:World)(hcells:∀ (j:Nat) x,xs[j]? = some x->w.cell? ⟨bk,o+j,none⟩=some (.string x))(hbk:bk<w.heap.size)(hN:xs.length<=140737488355328)(hcap:xs.length<=c)(hlen:(Lib.join (xs.map (·.data.toList)) sep.data.toList).length<=140737488355328) :
   Calls prog 45 #[.slice (some ⟨bk,o,none⟩) xs.length c, .string sep] w λe w'=>e = .returned (.string ⟨(Lib.join (xs.map (·.data.toList)) sep.data.toList).toArray⟩)/\Below w.heap.size w w':=Any.strings_Join Tryz.lays156 Tryz.Builder_Extra_156 bk o c xs sep w hcells hbk hN hcap hlen
def Tryz.lays283_ren:Go.Shelf.Ren:=⟨λ|283=>99|n=>n,λ|3=>3|9=>9|4=>4|n=>n,λ|n=>n⟩
theorem Tryz.lays283:Go.Proofs.Lays.n283 prog Tryz.lays283_ren:={
 mixed:=by kernel_rfl
 f283:=func99.trans (congrArg some xO)
 t3:=underlying3
 a3:=isAgg3
 z3:=sizeOf3
 v3:=zeroValue3
 t4:=underlying4
 a4:=isAgg4
 z4:=sizeOf4
 v4:=zeroValue4
 t9:=underlying9
 a9:=isAgg9
 z9:=sizeOf9
 v9:=zeroValue9}
open Go.Lib in
theorem Tryz.internal_strconv_small(i:Nat)(h:i<100)(w:World) :
   Calls prog 99 #[.int .i64 i] w λe w'=>e = .returned (.string ⟨(Lib.decDigits i).toArray⟩)/\w'=w:=Any.internal_strconv_small Tryz.lays283 i h w
def Tryz.laysM284_ren:Go.Shelf.Ren:=⟨λ|284=>100|129=>138|317=>137|318=>139|n=>n,λ|53=>28|3=>3|212=>219|0=>0|4=>4|46=>221|5=>5|9=>9|n=>n,λ|17=>1|n=>n⟩
theorem Tryz.laysM284:Go.Proofs.LaysM.n284 prog Tryz.laysM284_ren:={
 mixed:=by kernel_rfl
 f129:=func138.trans (congrArg some xO)
 f284:=func100.trans (congrArg some xO)
 f317:=func137.trans (congrArg some xO)
 f318:=func139.trans (congrArg some xO)
 t0:=underlying0
 a0:=isAgg0
 z0:=sizeOf0
 v0:=zeroValue0
 t3:=underlying3
 a3:=isAgg3
 z3:=sizeOf3
 v3:=zeroValue3
 t4:=underlying4
 a4:=isAgg4
 z4:=sizeOf4
 v4:=zeroValue4
 t5:=underlying5
 a5:=isAgg5
 z5:=sizeOf5
 v5:=zeroValue5
 t9:=underlying9
 a9:=isAgg9
 z9:=sizeOf9
 v9:=zeroValue9
 t46:=underlying221
 a46:=isAgg221
 z46:=sizeOf221
 v46:=zeroValue221
 t53:=underlying28
 a53:=isAgg28
 z53:=sizeOf28
 v53:=zeroValue28
 t212:=underlying219
 a212:=isAgg219
 z212:=sizeOf219
 v212:=zeroValue219
 g17:=by kernel_rfl
 i0:=by kernel_rfl
 i3:=by kernel_rfl
 i4:=by kernel_rfl
 i5:=by kernel_rfl
 i9:=by kernel_rfl
 i46:=by kernel_rfl
 i53:=by kernel_rfl
 i212:=by kernel_rfl
 m17:=by kernel_rfl}
open Go.Lib in
theorem Tryz.internal_strconv_numDigits(u:Nat)(h1:1<=u)(h2:u<18446744073709551616)(w:World)(htab:Lib.TabIs prog w "internal/strconv.uint64pow10" .u64 Lib.pow10Tab) :
   Calls prog 100 #[.int .u64 u] w λe w'=>e = .returned (.int .i64 (Lib.nDigits u))/\w'=w:=Any.internal_strconv_numDigits Tryz.laysM284 u h1 h2 w htab
def Tryz.lays285_ren:Go.Shelf.Ren:=⟨λ|285=>101|n=>n,λ|37=>116|53=>28|3=>3|4=>4|51=>68|9=>9|5=>5|0=>0|n=>n,λ|n=>n⟩
theorem Tryz.lays285:Go.Proofs.Lays.n285 prog Tryz.lays285_ren:={
 mixed:=by kernel_rfl
 f285:=func101.trans (congrArg some xO)
 t0:=underlying0
 a0:=isAgg0
 z0:=sizeOf0
 v0:=zeroValue0
 t3:=underlying3
 a3:=isAgg3
 z3:=sizeOf3
 v3:=zeroValue3
 t4:=underlying4
 a4:=isAgg4
 z4:=sizeOf4
 v4:=zeroValue4
 t5:=underlying5
 a5:=isAgg5
 z5:=sizeOf5
 v5:=zeroValue5
 t9:=underlying9
 a9:=isAgg9
 z9:=sizeOf9
 v9:=zeroValue9
 t37:=underlying116
 a37:=isAgg116
 z37:=sizeOf116
 v37:=zeroValue116
 t51:=underlying68
 a51:=isAgg68
 z51:=sizeOf68
 v51:=zeroValue68
 t53:=underlying28
 a53:=isAgg28
 z53:=sizeOf28
 v53:=zeroValue28}
open Go.RowKit Go.Sort Go.Lib in
theorem Tryz.internal_strconv_formatBase10(blk off cap:Nat)(u:Nat)(d:Array UInt8)(w:World)(hH:Holds (λ(b:UInt8)=>Value.int .u8 (b.toNat:Int)) w blk off d)(hu:u<10 ^ d.size)(hu64:u<18446744073709551616)(hsz:d.size<4611686018427387904) :
   Calls prog 101 #[.slice (some ⟨blk,off,none⟩) d.size cap, .int .u64 u] w λe w'=>
     e = .returned (.tuple #[])/\∃ (n v':Nat) (dk:Array UInt8),w'=(putRow (λ(b:UInt8)=>Value.int .u8 (b.toNat:Int)) w blk off dk).drewN n/\FmtInv d.size u 0 v' dk:=Any.internal_strconv_formatBase10 Tryz.lays285 blk off cap u d w hH hu hu64 hsz
open Go.RowKit Go.Sort Go.Lib
theorem Tryz.FU0(u:Nat)(hu64:u<18446744073709551616)(w:World)(htab:Lib.TabIs prog w "internal/strconv.uint64pow10" .u64 Lib.pow10Tab) :
   Calls prog 65 #[.int .u64 u, .int .i64 10] w λe w'=>e = .returned (.string ⟨(Lib.decDigits u).toArray⟩)/\∃ k os,w'=grow (w.drewN k) os:=by
 have t3:=underlying3;have a3:=isAgg3;have z3:=sizeOf3;have v3:=zeroValue3;have t4:=underlying4;have a4:=isAgg4;have z4:=sizeOf4;have v4:=zeroValue4;have t5:=underlying5;have a5:=isAgg5;have z5:=sizeOf5;have v5:=zeroValue5;have t9:=underlying9;have a9:=isAgg9;have z9:=sizeOf9;have v9:=zeroValue9;have t22:=underlying22;have a22:=isAgg22;have z22:=sizeOf22;have v22:=zeroValue22;have t116:=underlying116;have a116:=isAgg116;have z116:=sizeOf116;have v116:=zeroValue116;have t167:=underlying167;have a167:=isAgg167;have z167:=sizeOf167;have v167:=zeroValue167;have e99:∀ args w,(callFunc 99 args).run prog w = .ok (.enter 99 args) w:=enters_of func99 xO Y;have e100:∀ args w,(callFunc 100 args).run prog w = .ok (.enter 100 args) w:=enters_of func100 xO Y;have e101:∀ args w,(callFunc 101 args).run prog w = .ok (.enter 101 args) w:=enters_of func101 xO Y;by_cases hs:u<100
 . go_enter func65,ntmps65
   go_wp2_with (go_at_fn 99;refine (Tryz.internal_strconv_small u hs _).mono ?_;rintro e w' ⟨rfl,rfl⟩)
   go_ret
   exact⟨rfl,0,#[],by simp[World.drewN_zero]⟩
 . have hu1:1<=u:=by omega
   have hnd20:Lib.nDigits u<=20:=Lib.nDigits_le20 u hu64
   have hb3:Lib.nDigits u<=24:=by omega
   have hal:prog.arrayLen 167=24:=by simp[Program.arrayLen,underlying167]
   have hsl1:∀ W,(Instr.sliceAt 167 (.pointer (some ⟨w.heap.size,0,none⟩)) none (some (.int .i64 (Lib.nDigits u:Int))) none).run prog W = .ok (.slice (some ⟨w.heap.size,0,none⟩) (Lib.nDigits u) 24) W:=λW=>by
     rw[run_sliceAt_array_h W 167 ⟨w.heap.size,0,none⟩ (by simp[Program.arrayLen,Program.elem,underlying167]) .i64 (Lib.nDigits u:Int) xN (by rw[hal];omega)]
     go_simp
   have hH0:=Lib.holds_zero0 w 167 (Lib.nDigits u) xN
   have hfmt:=Tryz.internal_strconv_formatBase10 w.heap.size 0 24 u (Array.replicate (Lib.nDigits u) 0) (w.alloc (.cells Lib.zeros24 167)) hH0 (by rw[Array.size_replicate];exact Lib.lt_pow_nDigits u) hu64 (by rw[Array.size_replicate];omega)
   rw[Array.size_replicate] at hfmt
   have HH0:=Lib.hid hH0
   clear hH0 hal
   go_enter func65,ntmps65
   go_wp2_with (first
     |(go_at_fn 100;refine (Tryz.internal_strconv_numDigits u hu1 hu64 _ (Lib.tabIs_alloc htab _)).mono ?_;rintro e w' ⟨rfl,rfl⟩))
   go_at_fn 101
   refine hfmt.mono ?_
   rintro e w' ⟨rfl,k,v',dk,rfl,hF⟩
   have hcv:(convert 116 9 (.slice (some ⟨w.heap.size,0,none⟩) (Lib.nDigits u) 24)).run prog ((putRow (λ(b:UInt8)=>Value.int .u8 (b.toNat:Int)) (w.alloc (.cells Lib.zeros24 167)) w.heap.size 0 dk).drewN k) = .ok (.string ⟨(Lib.decDigits u).toArray⟩) ((putRow (λ(b:UInt8)=>Value.int .u8 (b.toNat:Int)) (w.alloc (.cells Lib.zeros24 167)) w.heap.size 0 dk).drewN k):=by
     have h:=run_convert_bytes_back (P:=prog) ((putRow (λ(b:UInt8)=>Value.int .u8 (b.toNat:Int)) (w.alloc (.cells Lib.zeros24 167)) w.heap.size 0 dk).drewN k) 116 9 5 ⟨w.heap.size,0,none⟩ 24 (Lib.decDigits u) underlying116 underlying5 underlying9 (λj hj=>by
       rw[Lib.row_is_numeral hF j hj,Lib.add_plain,World.cell?_drewN]
       exact cell?_putRow (λ(b:UInt8)=>Value.int .u8 (b.toNat:Int)) _ w.heap.size 0 _ dk HH0.out (by rw[hF.size,Array.size_replicate]) j (by rw[hF.size];rw[Lib.decDigits_length] at hj;exact hj))
     rw[Lib.decDigits_length] at h
     exact h
   go_wp2
   go_ret
   obtain⟨os,eo⟩:=Lib.fin_at w (.cells Lib.zeros24 167) dk k 0
   exact⟨rfl,k,os,eo⟩
theorem Tryz.FU(u:Nat)(hu64:u<18446744073709551616)(w:World)(htab:Lib.TabIs prog w "internal/strconv.uint64pow10" .u64 Lib.pow10Tab) :
   Calls prog 42 #[.int .u64 u, .int .i64 10] w λe w'=>e = .returned (.string ⟨(Lib.decDigits u).toArray⟩)/\∃ k os,w'=grow (w.drewN k) os:=by
 have e65:∀ args w,(callFunc 65 args).run prog w = .ok (.enter 65 args) w:=enters_of func65 xO Y
 go_enter func42,ntmps42
 go_wp2_with (go_at_fn 65;refine (Tryz.FU0 u hu64 _ htab).mono ?_;rintro e w' ⟨rfl,k,os,rfl⟩)
 go_ret
 exact⟨rfl,k,os,rfl⟩
end Go.Proofs
namespace Go.SW
open Go.Proofs Go.RowKit
theorem strconv_FUC(n:Int){H:Hp}(hg:GPow H 1)(hr:0<=n/\n<=18446744073709551615){N:Rest}{L:Ls}{w:World}(hm:Mem N H L w):Calls prog 42 #[.int .u64 n, .int .i64 10] w λe w'=>e = .returned (str (V.decB n))/\Below w.heap.size w w':=by
 obtain⟨u,rfl⟩:∃ u:Nat,n=u:=⟨n.toNat,by omega⟩;refine (Tryz.FU u xN w (hg.tab hm xO)).mono λe w' ⟨he,k,os,hw⟩=>⟨?_,hw ▸ Lib.below_grow _ _ (Nat.le_refl _) _ _⟩;rw[he,V.decB_eq,if_pos hr,Int.toNat_natCast];rfl
end Go.SW
namespace Go.Proofs
open Go.Shelf
def Tryz.lays157_ren:Go.Shelf.Ren:=⟨λ|157=>66|229=>94|199=>103|261=>142|311=>197|312=>198|n=>n,λ|9=>9|31=>79|3=>3|5=>5|4=>4|119=>172|0=>0|40=>163|152=>207|21=>21|154=>209|51=>68|141=>224|196=>315|193=>312|198=>318|49=>316|194=>313|201=>321|226=>412|46=>221|227=>413|n=>n,λ|0=>0|6=>2|n=>n⟩
theorem Tryz.lays157:Go.Proofs.Lays.n157 prog Tryz.lays157_ren:={
 mixed:=by kernel_rfl
 f157:=func66.trans (congrArg some xO)
 f199:=func103.trans (congrArg some xO)
 f229:=func94.trans (congrArg some xO)
 f261:=func142.trans (congrArg some xO)
 f311:=func197.trans (congrArg some xO)
 f312:=func198.trans (congrArg some xO)
 t0:=underlying0
 a0:=isAgg0
 z0:=sizeOf0
 v0:=zeroValue0
 t3:=underlying3
 a3:=isAgg3
 z3:=sizeOf3
 v3:=zeroValue3
 t4:=underlying4
 a4:=isAgg4
 z4:=sizeOf4
 v4:=zeroValue4
 t5:=underlying5
 a5:=isAgg5
 z5:=sizeOf5
 v5:=zeroValue5
 t9:=underlying9
 a9:=isAgg9
 z9:=sizeOf9
 v9:=zeroValue9
 t21:=underlying21
 a21:=isAgg21
 z21:=sizeOf21
 v21:=zeroValue21
 t31:=underlying79
 a31:=isAgg79
 z31:=sizeOf79
 v31:=zeroValue79
 t40:=underlying163
 a40:=isAgg163
 z40:=sizeOf163
 v40:=zeroValue163
 t46:=underlying221
 a46:=isAgg221
 z46:=sizeOf221
 v46:=zeroValue221
 t49:=underlying316
 a49:=isAgg316
 z49:=sizeOf316
 v49:=zeroValue316
 t51:=underlying68
 a51:=isAgg68
 z51:=sizeOf68
 v51:=zeroValue68
 t119:=underlying172
 a119:=isAgg172
 z119:=sizeOf172
 t141:=underlying224
 a141:=isAgg224
 z141:=sizeOf224
 v141:=zeroValue224
 t152:=underlying207
 a152:=isAgg207
 z152:=sizeOf207
 v152:=zeroValue207
 t154:=underlying209
 a154:=isAgg209
 z154:=sizeOf209
 v154:=zeroValue209
 t193:=underlying312
 a193:=isAgg312
 z193:=sizeOf312
 v193:=zeroValue312
 t194:=underlying313
 a194:=isAgg313
 z194:=sizeOf313
 v194:=zeroValue313
 t196:=underlying315
 a196:=isAgg315
 z196:=sizeOf315
 v196:=zeroValue315
 t198:=underlying318
 a198:=isAgg318
 z198:=sizeOf318
 v198:=zeroValue318
 t201:=underlying321
 a201:=isAgg321
 z201:=sizeOf321
 v201:=zeroValue321
 t226:=underlying412
 a226:=isAgg412
 z226:=sizeOf412
 v226:=zeroValue412
 t227:=underlying413
 a227:=isAgg413
 z227:=sizeOf413
 v227:=zeroValue413
 g0:=by kernel_rfl
 g6:=by kernel_rfl}
open Go.RowKit Go.Lib in
theorem Tryz.strings_Fields(s:ByteArray)(w:World)(hs:s.size<4294967281)(hascii:∀ (j:Nat) b,s.data.toList[j]? = some b->b.toNat<128)(htab:Lib.TabIs prog w "strings.asciiSpace" .u8 Lib.asciiSpaceTab) :
   Calls prog 66 #[.string s] w λe w'=>
     e = .returned (.slice (some ⟨w.heap.size,0,none⟩) (Lib.fields s.data.toList).length (Lib.fields s.data.toList).length)/\w'=w.alloc (.cells ((Lib.fields s.data.toList).map λl=>Value.string ⟨l.toArray⟩).toArray 9):=Any.strings_Fields Tryz.lays157 xO xO s w hs hascii htab
end Go.Proofs
namespace Go.SW
open Go.Proofs
theorem strings_FldsR(H:Hp)(hg:GSpc H 0):Ph prog 66 #[str V.rplB] H (λv H'=>∃ (a:Option Addr) (c:Nat),v = .slice a V.rplW.length c/\SlH strE 1 H' (.slice a V.rplW.length c) V.rplW):=by
 refine Iq_ (T:=9) (λw hw=>by have :=V.rpl_short w hw;omega) λN L w hm=>?_;refine (Tryz.strings_Fields ⟨V.rplB.toArray⟩ w (by decide +kernel) (by simpa using V.rpl_ascii) (hg.tab hm xO)).mono λe w' ⟨he,hw⟩=>⟨?_,?_⟩;rw[he,show (⟨V.rplB.toArray⟩:ByteArray).data.toList=V.rplB from by simp,V.rpl_fields];rw[hw,show (⟨V.rplB.toArray⟩:ByteArray).data.toList=V.rplB from by simp,V.rpl_fields];rfl
end Go.SW
namespace Go.SW.V
open Go.SW Go.Proofs
theorem r9_Pair(p:Pair)(ahead:List Pair):Fn prog gb 64 [.agg (Pair.pc p), .sl Pair.pc ahead] (.int .i64 (Cc_ p ahead)):=by
 refine kG func64 ntmps64 λw N H hG=>?_;have ahead_l:ahead.length<=140737488355328:=w.2.1.1;refine kB 10 [0] λB0=>?_;refine call (Is_ _) Y Y λw0=>kM 10 (λh0=>?_) (λh0=>?_);have h1:=Mv_ h0;have p0:=df h1;refine kR 8 ?_;exact zW;have h1:=D8_ h0;have p0:=dt h1;refine kM 10 (λh2=>?_) (λh2=>?_);have p1:=dt h2;exact xK;have p1:=df h2;refine kC 16 ?_;refine cnd Y (λh3=>?_) (λh3=>?_);have h4:=bl h3;have p2:=dt h4;have h5:=br h3;have p3:=dt h5;exact xK;refine kC 20 ?_;refine cnd Y (λh4=>?_) (λh4=>?_);have h5:=bl h4;have p2:=dt h5;exact xK;refine kC 25 ?_;refine cnd Y (λh5=>?_) (λh5=>?_);exact xK;have h6:=orl h5;have h7:=orr h5;refine kA 11 ?_;refine loop (ι:=Nat) [0,1,2,5,8,9,10,11,12,14,15,16,17,18,19,20,21,22,23,24,25,26,27,28,29,30,31,32,33,34,35,36,37,38,39,40,41,42,43,44,45,46,47,48,49,50,51,52,53,54,55,56,57,58] [0] (λk=>[(59, .int .i64 (k:Int))]) (λk=>[]) (λk=>k<=ahead.length/\C6_ ahead p.key=C6_ (ahead.drop k) p.key) (λk=>ahead.length-k) 0 ⟨Y,Z⟩ Z ?_ ?_;exact zG;rintro k hp0;obtain⟨hk1,hk2⟩:=hp0;refine kM 6 (λh8=>?_) (λh8=>?_);have p2:=dt h8;obtain⟨c0,hc0⟩:=getE (xs:=ahead) (m:=k) xN;refine jA 6 Y<|kI k hc0 λw1=>?_;refine kB 14 [1] λB1=>?_;refine cnd Y (λh9=>?_) (λh9=>?_);have p3:=dt h9;refine kR 11 ?_;have e0:=L2_ hk2 (Fj_ hc0) wA;clear hk2;exact zW;have p3:=df h9;refine kC 7 ?_;refine next (k+1) Y Y ⟨Y,Z⟩ Z ?_ ?_;omega;exact⟨by omega,Kg_ hk2 (Fj_ hc0) wA⟩;have p2:=df h8;refine kR 11 ?_;have e0:C6_ ahead p.key=none:=by rw[hk2,List.drop_of_length_le xN];rfl
 clear hk2;exact zW
theorem Pr_(h:List Pair):Fn prog gb 40 [.sl Pair.pc h] (.int .i64 (Kh_ h)):=by
 refine kG func40 ntmps40 λw N H hG=>?_;refine kN 13 (λp0=>?_) λp1=>?_;refine kR 7 ?_;simp[Kh_, *];refine kA 11 ?_;refine loop (ι:=Nat) [0,6,7,8,9,10] [] (λk=>[(11, .int .i64 (k:Int))]) (λk=>[]) (λk=>k<=h.length/\Ft_ [] h=Ft_ (h.take k) (h.drop k)) (λk=>h.length-k) 0 ⟨Y,Z⟩ Z ?_ ?_;exact zG;rintro k hp0;obtain⟨hk1,hk2⟩:=hp0;refine kN 6 (λp2=>?_) λp3=>?_;obtain⟨c0,hc0⟩:=getE (xs:=h) (m:=k) xN;refine jA 7 Y<|kI k hc0 λw0=>?_;refine kB 7 [0] λB0=>?_;refine aN [1,2,3,4,5,6] 6 mixd<|kE [0,1,2] 3 ?_;refine vq 3 (lshi X_ k Y Y Y Y Y (λ_=>rfl) Y xN) Y xO Y λw1=>vC 4 Y (r9_Pair _ _) Y λw2=>?_;have :=Nh_ c0 (h.take k);refine kE [5] 0 ?_;refine vD<|kM 7 (λh0=>?_) (λh0=>?_);have h1:=Mv_ h0;have p4:=df h1;refine kR 12 ?_;unfold Kh_;rw[if_neg xN,hk2,Fj_ hc0];simp only[Ft_];rw[if_pos xN];have h1:=D8_ h0;have p4:=dt h1;refine kC 7 ?_;refine next (k+1) Y Y ⟨Y,Z⟩ Z ?_ ?_;omega;refine⟨by omega,?_⟩;rw[hk2,Fj_ hc0,takeE hc0];simp only[Ft_];rw[if_neg xN];refine kR 11 ?_;unfold Kh_;exact yQ
theorem Ku_(kind:Int):Fn prog gb 36 [.int .u8 kind] (.bool (decide (kind=2\/kind=3\/kind=5\/kind=6\/kind=7))):=by
 refine kG func36 ntmps36 λw N H hG=>?_;have kind_r:0<=kind/\kind<=255:=w.1;refine kC 29 ?_;exact zY
theorem Kt_(kind:Int):Fn prog gb 37 [.int .u8 kind] (.bool (decide (kind=3\/kind=6))):=by
 refine kG func37 ntmps37 λw N H hG=>?_;have kind_r:0<=kind/\kind<=255:=w.1;refine kC 17 ?_;exact zY
theorem Mc_(h:List Pair):Fn prog gb 35 [.sl Pair.pc h] (.bool (Eu_ h)):=by
 refine kG func35 ntmps35 λw N H hG=>?_;refine kN 13 (λp0=>?_) λp1=>?_;refine kR 7 ?_;exact congrArg PV.bool (by simp[Eu_];omega);refine kA 11 ?_;refine loop (ι:=Nat) [0,5,6,7,8,9] [] (λk=>[(10, .int .i64 (k:Int))]) (λk=>[]) (λk=>k<=h.length/\h.all Hi_=(h.drop k).all Hi_) (λk=>h.length-k) 0 ⟨Y,Z⟩ Z ?_ ?_;exact zG;rintro k hp0;obtain⟨hk1,hk2⟩:=hp0;refine kN 6 (λp2=>?_) λp3=>?_;obtain⟨c0,hc0⟩:=getE (xs:=h) (m:=k) xN;refine jA 6 Y<|kI k hc0 λw0=>?_;refine kD 19 [0] λB0=>?_;refine cnd Y (λh0=>?_) (λh0=>?_);refine kR 11 ?_;exact congrArg PV.bool (by unfold Eu_;rw[Ok_ hk2 (Fj_ hc0) (by simp[Hi_];first|omega|grind)];simp);have h1:=orl h0;have p4:=df h1;have h2:=orr h0;have p5:=df h2;refine kC 7 ?_;refine next (k+1) Y Y ⟨Y,Z⟩ Z ?_ ?_;omega;exact⟨by omega,Ol_ hk2 (Fj_ hc0) (by simp[Hi_];omega)⟩;refine kR 11 ?_;exact congrArg PV.bool (by unfold Eu_;rw[all_end hk2 xN];simp;omega)
theorem Md_(r:Reply):Fn prog gb 20 [.agg (Reply.pc r)] (.bool (Fu_ r)):=by
 refine kG func20 ntmps20 λw N H hG=>?_;have r_w:=Reply.pwf w.1;have r_w':=r_w;simp only[Reply.wf,Mail.wf] at r_w';have r_mail_head_k:=Reply.kd9 w.1;have r_mail_head_k2:r.M_.head.length<=140737488355328:=w.1.2.2.2.2.2.2.2.2.2.1.1;refine kD 28 [0] λB0=>?_;refine callg Y (λhc=>(Mc_ _)) Y ⟨(λhc=>hc),trivial⟩ Y Y λ_=>kC 12 ?_;refine rt1 Y Y (ple ?_);refine congrArg PV.bool ?_;unfold Fu_
 first|(simp only[*,Bool.and_true,Bool.true_and,Bool.false_and,Bool.and_false,decide_true,decide_false];done)|(rw[E6];simp[and_assoc];done)|(rw[E6];simp;grind)
theorem Qu_(r:Reply)(hl:r.M_.head.length<=1000000):Fn prog gb 22 [.agg (Reply.pc r)] (.agg (Reply.pc r)):=by
 refine kG func22 ntmps22 λw N H hG=>?_;refine kB 15 [0,1,2] λB0=>?_;refine ef (bsl 3 Pair.pc [] X_ Y Y Y Y Y (λ_=>rfl) Y xQ xQ Y λu0=>?_);refine jA 3 Y<|ef (app X_ r.M_.head Y Y Y Y Y Y Y Y Y (src_l Y (λ_=>rfl)) wB Y λu1=>?_);refine kA 2 ?_;refine give 3 Y<|ef (sO X_ ?_);refine kB 9 [] λ_=>?_;refine rt1 Y Y (ple ?_);rfl
theorem No_(r:Reply):Fn prog gb 21 [.agg (Reply.pc r)] (.int .i64 (E4_ r)):=by
 refine kG func21 ntmps21 λw N H hG=>?_;have r_w:=Reply.pwf w.1;have r_w':=r_w;simp only[Reply.wf,Mail.wf] at r_w';have r_mail_head_k:=Reply.kd9 w.1;have r_mail_head_k2:r.M_.head.length<=140737488355328:=w.1.2.2.2.2.2.2.2.2.2.1.1;refine kB 14 [0] λB0=>?_;refine cn Y (λp0=>?_) λp1=>?_;refine kR 7 ?_;exact zR;refine kD 33 [1] λB1=>?_;refine callg Y (λhc=>(Ku_ _)) Y ⟨(λhc=>hc),trivial⟩ Y Y λ_=>kC 10 ?_;refine callg Y (λhc=>(Kt_ _)) Y ⟨(λhc=>hc),trivial⟩ Y Y λ_=>kC 15 ?_;refine cnd Y (λh0=>?_) (λh0=>?_);refine kR 7 ?_;exact zR;have h1:=orl h0;have h2:=orl h1;have h3:=orl h2;have h4:=orl h3;have h5:=orl h4;have h6:=D8_ h5;have p2:=dt h6;have h7:=orr h4;have h8:=D8_ h7;have p3:=dt h8;have h9:=orr h3;have h10:=D8_ h9;have p4:=dt h10;have h11:=orr h2;have h12:=orr h1;have h13:=orr h0;refine kM 10 (λh14=>?_) (λh14=>?_);have h15:=Mv_ h14;have p5:=df h15;refine kC 28 ?_;refine cnd Y (λh16=>?_) (λh16=>?_);refine kR 8 ?_;exact zR;have h17:=orl h16;have h18:=orl h17;have h19:=orl h18;have h20:=orl h19;have h21:=orr h19;have h22:=D8_ h21;have p6:=dt h22;have h23:=orr h18;have h24:=D8_ h23;have p7:=dt h24;have h25:=orr h17;have p8:=df h25;have h26:=orr h16;have h27:=D8_ h26;have p9:=dt h27;refine kN 10 (λp10=>?_) λp11=>?_;refine kL 4 (Is_ _) Y Y Y λw0=>kR 6 ?_;exact zR;exact xL;have h15:=D8_ h14;have p5:=dt h15;refine kL 6 (Is_ _) Y Y Y λw0=>kM 10 (λh16=>?_) (λh16=>?_);have p6:=dt h16;refine kL 3 (r4_Key _ _) Y Y Y λw1=>kN 10 (λp7=>?_) λp8=>?_;refine kL 3 (Pr_ _) Y Y Y λw2=>kC 16 ?_;refine cnd Y (λh17=>?_) (λh17=>?_);exact xJ;exact xL;refine kC 15 ?_;refine cnd Y (λh17=>?_) (λh17=>?_);exact xJ;exact xL;have p6:=df h16;refine kA 9 ?_;refine cndF Y h16 ?_;refine kC 15 ?_;refine cnd Y (λh17=>?_) (λh17=>?_);have h18:=bl h17;have p7:=dt h18;have h19:=br h17;have p8:=dt h19;refine kR 11 ?_;exact zR;exact xL
theorem cb42:S_ prog 42:=Ak_ func42 xO xO
theorem cb45:S_ prog 45:=Ak_ func45 xO xO
theorem cb66:S_ prog 66:=Ak_ func66 xO xO
theorem strings_Join(xs:List Bs)(sep:Bs)(hl:(joinB xs sep).length<=140737488355328):Fn prog gb 45 [.sl strc xs, .str sep] (.str (joinB xs sep)):=join_fn (cb45) Tryz.strings_Join_none Tryz.strings_Join xs sep hl
theorem Kw_(n:Int)(b:Int)(hb:b=10):Fn prog gb 42 [.int .u64 n, .int .i64 b] (.str (decB n)):=
 ⟨cb42,rfl,λN H L w us hg hsim hm=>by
   obtain⟨v1,_,rfl,h1,h2⟩:=hsim.inv_cons;obtain⟨v2,_,rfl,h3,h4⟩:=h2.inv_cons
   cases h4.inv_nil
   rw[h1.inv_int.1,h3.inv_int.1,hb]
   refine (SW.strconv_FUC n (gbPow hg) h1.inv_int.2 hm).mono λ_ _ ⟨he,hb⟩=>⟨_,H,he,Sim.str (by have :=B_ n;omega), .refl H,Mem.below hm hb⟩⟩
theorem G2_(s:Bs)(hs:s=rplB):Fn prog gb 66 [.str s] (.sl strc rplW):=
 ⟨cb66,rfl,λN H L w us hg hsim hm=>by
   obtain⟨v1,_,rfl,h1,h2⟩:=hsim.inv_cons
   cases h2.inv_nil
   rw[h1.inv_str.1,hs]
   refine (SW.strings_FldsR H (gbSpc hg) N L w hm).mono λ_ _ ⟨v,H',h5,⟨a,c,h6,h7⟩,h8,h9⟩=>⟨v,H',h5,?_,h8,h9⟩
   rw[h6]
   exact Sim.of_slh (k:=1) ⟨h7.1,λm hm=>by
     obtain⟨cs,hE,hat⟩:=h7.2 m hm;obtain⟨hE1,hE2⟩:=hE;subst hE1;exact⟨_,⟨rfl,Sims.nil.cons (Sim.str hE2),λu hu=>by simp at hu;subst hu;rfl⟩,hat⟩⟩ xQ⟩
theorem A0_(n:Int):Fn prog gb 46 [.int .u64 n] (.str (decB n)):=by
 refine kG func46 ntmps46 λw N H hG=>?_;have n_r:0<=n/\n<=18446744073709551615:=w.1;refine kN 12 (λp0=>?_) λp1=>?_
 . have :=wr_u64 (n+1);refine jA 5 Y<|q1 (ssl X_ (n).toNat ((AA .u64 (n+1))).toNat Y Y Y Y Y xN xN wX wX) Y λw0=>?_;refine kR 5 ?_
   exact zM
 refine kC 6 ?_;refine call (A0_ _) Y Y λw0=>?_;have hB5:=B_ (n/10);refine kC 2 ?_;refine call (A0_ _) Y Y λw1=>?_;have hB7:=B_ (n%10);refine go X_ 5 Y Y ⟨(by have :=B_ (n/10);have :=B_ (n%10);omega),trivial⟩ ?_;refine rt1 Y Y (ple ?_)
 exact zM
termination_by n.toNat
decreasing_by all_goals omega
theorem Dw_:Fn prog gb 43 [] (.sl strc (Ai_)):=by
 refine kG func43 ntmps43 λw N H hG=>?_;have e0:=Ai_.eq_1;refine kL 7 (G2_ _ (by rfl)) Y Y Y λw0=>kA 4 ?_;exact rt1 Y Y (Nl_ (λr:(List Bs)=> .sl strc r) e0 (ple Y))
theorem Cw_(s:Bs):Fn prog gb 44 [.str s] (.str (U_ s)):=by
 refine kG func44 ntmps44 λw N H hG=>?_;have s_l:s.length<=9223372036854775807:=w.1;have e0:=U_.eq_1 s;generalize U_ s=z at e0 ⊢;refine jA 12 Y<|cD e0 (λp0 e1=>?_) (λp1 e2=>?_);exact zX;refine kA 9 ?_;subst e2;exact qr1
theorem Ag_(n:Int):Fn prog gb 41 [.int .u64 n] (.str (A_ n)):=by
 refine kG func41 ntmps41 λw N H hG=>?_;have n_r:0<=n/\n<=18446744073709551615:=w.1;have e0:=A_.eq_1 n;refine kL 8 (Kw_ _ _ (by rfl)) Y Y Y λw0=>?_;have hB1:=B_ n;refine kA 4 ?_;exact rt1 Y Y (Nl_ (λr:Bs=> .str r) e0 (ple Y))
theorem E3_(s:Bs):Fn prog gb 47 [.str s] (.str (A3_ s)):=by
 refine kG func47 ntmps47 λw N H hG=>?_;have s_l:s.length<=9223372036854775807:=w.1;have e0:=A3_.eq_1 s;generalize A3_ s=z at e0 ⊢;refine jA 12 Y<|cD e0 (λp0 e1=>?_) (λp1 e2=>?_);exact zX;refine kA 9 ?_;subst e2;exact qr1
abbrev R0_:Bs->PV:=λr=> .str r
theorem Fk_(client:Int)(r:Reply)(hr:r.name.length<=1000/\r.M_.B4_.length<=1000/\r.M_.key.length<=1000/\r.M_.body.length<=1000:=by first|assumption|omega):Fn prog gb 23 [.int .u64 client, .agg (Reply.pc r)] (.str (Bg_ client r)):=by
 refine kG func23 ntmps23 λw N H hG=>?_;have client_r:0<=client/\client<=18446744073709551615:=w.1;have r_mail_head_l:r.M_.head.length<=140737488355328:=w.2.1.2.2.2.2.2.2.2.2.2.1.1;have e0:=Bg_.eq_1 client r;refine kB 12 [0] λB0=>?_;refine aN [1,2,3,4,5,6] 16 mixd<|kE [0,1] 14 ?_;refine vC 2 Y (Ag_ _) Y λw0=>?_;have hB3:=B_ client;refine kE [3,4,5,6] 9 ?_;refine vC 7 Y (Ag_ _) Y λw1=>?_;have hB5:=B_ r.channel;have :=wr_u8 ((A4 (A5 .u8) r.kind &&& A4 (A5 .u8) 7).toNat);refine kE [9,10,11] 5 ?_;refine vE 8 Y (eC Dw_ Y ?_);generalize hr0:Ai_=r0;intro w2;have e1:=e0.trans (lt_eq hr0.symm);have hc0:=getG (xs:=r0) (k:=((AA .u8 ((A4 (A5 .u8) r.kind &&& A4 (A5 .u8) 7).toNat))).toNat) (Nat.lt_of_lt_of_eq (and7 _) (congrArg EB (by assumption :Ai_=_)));refine vq 12 (qidx X_ ((AA .u8 ((A4 (A5 .u8) r.kind &&& A4 (A5 .u8) 7).toNat))).toNat Y Y xN hc0 Y Y Y Y) Y xO Y λw3=>kE [13] 2 ?_;refine vE 14 Y (bsl 1 strc [(A_ client),(A_ r.channel),(gt r0 (((AA .u8 ((A4 (A5 .u8) r.kind &&& A4 (A5 .u8) 7).toNat))).toNat))] X_ Y Y Y Y Y (λ_=>rfl) Y xQ xQ Y λu0=>?_);refine kE [15] 0 ?_;refine vD<|kA 2 ?_;obtain⟨o,e_o,q_o⟩:=C9_ e1;refine O4_ (ι:=(List Bs)×Value) [4] [0] (λ⟨l,u_l⟩=>[(6, .osl 1)]) (λ⟨l,u_l⟩=>[(1, .arr u_l 1 9 strc l)]) (λ⟨l,u_l⟩=>o=l/\l.length<=9/\Wds l) ?_ ?_;refine jA 13 Y<|cD e_o (λp0 e2=>?_) (λp1 e3=>?_);refine jA 4 Y<|ef (bsl 2 strc [r.name] X_ Y Y Y Y Y (λ_=>rfl) Y xQ xQ Y λu1=>?_);refine ef (app X_ [r.name] Y Y Y Y Y Y Y Y Y (src_o Y Y) wB Y λu2=>?_);refine kA 3 ?_;refine nX ⟨([(A_ client),(A_ r.channel),(gt r0 (((AA .u8 ((A4 (A5 .u8) r.kind &&& A4 (A5 .u8) 7).toNat))).toNat))]++[r.name]),(u2)⟩ ?_ ⟨Y,Z⟩ ⟨Y,Z⟩;exact⟨e2,wG⟩;refine kA 1 ?_;obtain⟨o1,e_o1,q_o1⟩:=C9_ e3;refine O4_ (ι:=Bool) [3,4,5,6,24] [0,1] (λv=>[(32, .bool v)]) (λv=>[]) (λv=>o1=v) ?_ ?_;refine jA 6 Y<|cD e_o1 (λp2 e4=>?_) (λp3 e5=>?_);refine kA 1 ?_;refine nX (decide (r.kind=2)) ?_ ⟨Y,Z⟩ Z;exact e4;refine jA 6 Y<|cD e5 (λp4 e6=>?_) (λp5 e7=>?_);refine kA 1 ?_;refine nX (decide (r.kind=5)) ?_ ⟨Y,Z⟩ Z;exact e6;refine kA 4 ?_;refine nX (decide (r.kind=7)) ?_ ⟨Y,Z⟩ Z;exact e7;rintro v hp0;have e4:=Gp_ q_o1 hp0;refine jA 1 Y<|cE e4 (λh0 e5=>?_) (λh0 e6=>?_);refine jA 5 Y<|cV e5 R0_ (Ag_ _) Y λr1 hr1 e7 w4=>?_;have hA0:=B_ r.n
 (try rw[<- hr1] at hA0)
 refine ef (bsl 2 strc [r1] X_ Y Y Y Y Y (λ_=>rfl) Y xQ xQ Y λu1=>?_);refine ef (app X_ [r1] Y Y Y Y Y Y Y Y Y (src_o Y Y) wB Y λu2=>?_);refine kA 3 ?_;refine nX ⟨([(A_ client),(A_ r.channel),(gt r0 (((AA .u8 ((A4 (A5 .u8) r.kind &&& A4 (A5 .u8) 7).toNat))).toNat))]++[r1]),(u2)⟩ ?_ ⟨Y,Z⟩ ⟨Y,Z⟩;exact⟨e7,wG⟩;refine jA 6 Y<|cD e6 (λp2 e7=>?_) (λp3 e8=>?_);refine aN [1,2,3,4,5,6,7] 12 mixd<|kE [0,1,2,3] 8 ?_;refine vC 4 Y (Ag_ _) Y λw4=>?_;have hB44:=B_ r.n;refine kE [5,6,7] 4 ?_;refine vC 8 Y (Ag_ _) Y λw5=>?_;have hB46:=B_ r.m;refine vE 9 Y (bsl 2 strc [(A_ r.n),(A_ r.m)] X_ Y Y Y Y Y (λ_=>rfl) Y xQ xQ Y λu1=>?_);refine vE 10 Y (app X_ [(A_ r.n),(A_ r.m)] Y Y Y Y Y Y Y Y Y (src_o Y Y) wB Y λu2=>?_);refine kE [11] 0 ?_;refine vD<|kA 1 ?_;refine nX ⟨([(A_ client),(A_ r.channel),(gt r0 (((AA .u8 ((A4 (A5 .u8) r.kind &&& A4 (A5 .u8) 7).toNat))).toNat))]++[(A_ r.n),(A_ r.m)]),(u2)⟩ ?_ ⟨Y,Z⟩ ⟨Y,Z⟩;exact⟨e7,wG⟩;refine jA 6 Y<|cD e8 (λp4 e9=>?_) (λp5 e10=>?_);refine kA 6 ?_;obtain⟨o2,e_o2,q_o2⟩:=C9_ e9;refine O4_ (ι:=Bs) [3,4,5,6] [0,1] (λyes=>[(7, .str yes)]) (λyes=>[]) (λyes=>o2=yes/\yes.length<=1000) ?_ ?_;refine jA 6 Y<|cE e_o2 (λh1 e11=>?_) (λh1 e12=>?_);refine kA 3 ?_;refine nX [121,101,115] ?_ ⟨Y,Z⟩ Z;exact⟨e11,xQ⟩;refine kA 1 ?_;refine nX [110,111] ?_ ⟨Y,Z⟩ Z;exact⟨e12,xQ⟩;rintro yes ⟨hp58,hp58_3⟩;have e11:=Gp_ q_o2 hp58;refine kA 1 ?_;refine aN [1,2,3,4,5,6,7] 24 mixd<|kE [0,1,2,3] 20 ?_;refine vC 4 Y (Ag_ _) Y λw4=>?_;have hB60:=B_ r.n;refine kE [5,6,7] 16 ?_;refine vC 8 Y (Ag_ _) Y λw5=>?_;have hB62:=B_ r.m;refine kE [9,10,11,12,13,14,15] 8 ?_;refine vC 16 Y (Cw_ _) Y λw6=>kE [17,18,19] 4 ?_;refine vC 20 Y (Cw_ _) Y λw7=>vE 21 Y (bsl 2 strc [(A_ r.n),(A_ r.m),yes,r.M_.B4_,(U_ r.M_.key),(U_ r.M_.body)] X_ Y Y Y Y Y (λ_=>rfl) Y xQ xQ Y λu1=>?_);refine vE 22 Y (app X_ [(A_ r.n),(A_ r.m),yes,r.M_.B4_,(U_ r.M_.key),(U_ r.M_.body)] Y Y Y Y Y Y Y Y Y (src_o Y Y) wB Y λu2=>?_);refine kE [23] 0 ?_;refine vD<|kA 1 ?_;refine nX ⟨([(A_ client),(A_ r.channel),(gt r0 (((AA .u8 ((A4 (A5 .u8) r.kind &&& A4 (A5 .u8) 7).toNat))).toNat))]++[(A_ r.n),(A_ r.m),yes,r.M_.B4_,(U_ r.M_.key),(U_ r.M_.body)]),(u2)⟩ ?_ ⟨Y,Z⟩ ⟨Y,Z⟩;exact⟨e11,wG⟩;refine kA 2 ?_;refine nX ⟨[(A_ client),(A_ r.channel),(gt r0 (((AA .u8 ((A4 (A5 .u8) r.kind &&& A4 (A5 .u8) 7).toNat))).toNat))],(u0)⟩ ?_ ⟨Y,Z⟩ ⟨Y,Z⟩;exact⟨e10,wG⟩;rintro⟨l,u_l⟩ ⟨hp70,hp70_3⟩;have e2:=Gp_ q_o hp70;refine jA 4 Y<|ef (calll 1 Y (strings_Join _ _ (by have hq:=Kc_ hp70_3.2;omega)) Y Y Y λw4=>?_);refine kA 4 ?_;exact rt1 Y Y (Nl_ (λr:Bs=> .str r) e2 (ple Y))
theorem Ir_(client:Int)(r:Reply)(hr:r.name.length<=1000/\r.M_.B4_.length<=1000/\r.M_.key.length<=1000/\r.M_.body.length<=1000:=by first|assumption|omega)(hk:r.kind<=7:=by first|assumption|omega)(hk0:0<=r.kind:=by first|assumption|omega):Fn prog gb 24 [.int .u64 client, .agg (Reply.pc r)] (.str (Cp_ client r)):=by
 refine kG func24 ntmps24 λw N H hG=>?_;have client_r:0<=client/\client<=18446744073709551615:=w.1;have r_mail_head_l:r.M_.head.length<=140737488355328:=w.2.1.2.2.2.2.2.2.2.2.2.1.1;have e0:=Cp_.eq_1 client r;generalize Cp_ client r=z at e0 ⊢;refine kB 8 [0] λB0=>?_;refine ef (bsl 1 strc [[119,101,108,99,111,109,101],[100,111,110,101],[114,101,102,117,115,101,100],[115,101,110,116],[110,111,116,104,105,110,103],[107,101,112,116],[108,111,115,116],[98,121,101]] X_ Y Y Y Y Y (λ_=>rfl) Y xQ xQ Y λu0=>?_);refine kA 4 ?_;refine aN [2,3,4,5,6,7] 16 mixd<|kE [0] 15 ?_;refine vC 1 Y (A0_ _) Y λw0=>?_;have hB4:=B_ client;refine gov X_ [2,3,4,5] 10 Y xO Y Y ⟨xV,trivial⟩ ?_;refine vC 6 Y (A0_ _) Y λw1=>?_;have hB6:=B_ r.channel;refine gov X_ [7,8,9,10,11] 4 Y xO Y Y ⟨xV,xV,trivial⟩ ?_;refine vq 12 (eidx (r.kind).toNat X_ Y Y Y Y Y Y Y xN (by first|omega|(simp only[AE,BT];omega))) Y xO Y λw2=>?_;have hc0:=getG (xs:=([[119,101,108,99,111,109,101],[100,111,110,101],[114,101,102,117,115,101,100],[115,101,110,116],[110,111,116,104,105,110,103],[107,101,112,116],[108,111,115,116],[98,121,101]]:List Bs)) (k:=(r.kind).toNat) (by simp only[AE,BT];omega);refine vE 13 Y (elod1 (i:=1) (.str (gt [[119,101,108,99,111,109,101],[100,111,110,101],[114,101,102,117,115,101,100],[115,101,110,116],[110,111,116,104,105,110,103],[107,101,112,116],[108,111,115,116],[98,121,101]] ((r.kind).toNat))) ((r.kind).toNat) 0 X_ Y Y Y Y hc0 Y Y Y Y λw3=>?_);refine gov X_ [14,15] 0 Y xO Y Y ⟨xV,trivial⟩ ?_;refine vD<|jA 9 Y<|cD e0 (λp0 e1=>?_) (λp1 e2=>?_);refine go X_ 12 Y Y ⟨xV,xV,trivial⟩ ?_;subst e1;exact qr1;refine kC 15 ?_;refine cE e2 (λh0 e3=>?_) (λh0 e4=>?_);refine kA 8 ?_;subst e3;exact qr1;have h1:=orl h0;have p2:=df h1;have h2:=orr h0;have p3:=df h2;refine go X_ 8 Y Y ⟨xV,trivial⟩ ?_;refine call (A0_ _) Y Y λw4=>?_;have hB23:=B_ r.n;refine go X_ 12 Y Y ⟨xV,trivial⟩ ?_;refine cD e4 (λp4 e5=>?_) (λp5 e6=>?_);refine go X_ 6 Y Y ⟨xV,trivial⟩ ?_;refine call (A0_ _) Y Y λw5=>?_;have hB28:=B_ r.m;refine go X_ 6 Y Y ⟨xV,trivial⟩ ?_;subst e5;exact qr1;refine jA 10 Y<|cN e6 (λp6 e7=>?_) (λp7 e8=>?_);refine kA 8 ?_;subst e7;exact qr1;refine kA 8 ?_;obtain⟨o,e_o,q_o⟩:=C9_ e8;refine O4_ (ι:=Bs) [3,4,6] [0,1] (λyes=>[(7, .str yes)]) (λyes=>[]) (λyes=>o=yes/\yes.length<=1000) ?_ ?_;refine jA 6 Y<|cE e_o (λh3 e9=>?_) (λh3 e10=>?_);refine kA 3 ?_;refine nX [32,121,101,115,32] ?_ ⟨Y,Z⟩ Z;exact⟨e9,xQ⟩;refine kA 1 ?_;refine nX [32,110,111,32] ?_ ⟨Y,Z⟩ Z;exact⟨e10,xQ⟩;rintro yes ⟨hp42,hp42_3⟩;have e9:=Gp_ q_o hp42;refine kA 2 ?_;refine aN [2,3,4,5,6,7] 25 mixd<|gov X_ [0,1,2,3] 21 Y xO Y Y ⟨xV,trivial⟩ ?_;refine vC 4 Y (A0_ _) Y λw5=>?_;have hB44:=B_ r.m;refine gov X_ [5,6,7,8,9,10,11,12,13,14,15] 9 Y xO Y Y ⟨xV,xV,xV,xV,trivial⟩ ?_;refine vC 16 Y (E3_ _) Y λw6=>gov X_ [17,18,19,20,21] 3 Y xO Y Y ⟨xV,xV,trivial⟩ ?_;refine vC 22 Y (E3_ _) Y λw7=>gov X_ [23,24] 0 Y xO Y Y ⟨xV,trivial⟩ ?_;refine vD<|kA 2 ?_;subst e9;exact qr1
theorem Me_:Fn prog gb 19 [] (.bool true):=Go.CE.f31a
theorem l31_ScriptTells_ok(client:Int)(r:Reply):Fn prog gb 6 [.int .u64 client, .agg (Reply.pc r)] (.bool (Al_ client r)):=by
 refine kG func6 ntmps6 λw N H hG=>?_;have client_r:0<=client/\client<=18446744073709551615:=w.1;have r_mail_head_l:r.M_.head.length<=140737488355328:=w.2.1.2.2.2.2.2.2.2.2.2.1.1;have e0:=Al_.eq_1 client r;generalize Al_ client r=z at e0 ⊢;refine kB 9 [0] λB0=>?_;refine call Me_ Y Y λw0=>kA 3 ?_;refine cndF Y Y ?_;refine kL 6 (Md_ _) Y Y Y λw1=>?_;have hlr4:=Bp_ r;refine kA 3 ?_;refine callg Y (λhc=>(Qu_ _ wS)) Y ⟨(λhc=>hc),trivial⟩ Y Y λ_=>?_;refine callg Y (λhc=>(No_ _)) Y ⟨(λhc=>hc),trivial⟩ Y Y λ_=>kC 4 ?_;refine cE e0 (λh0 e1=>?_) (λh0 e2=>?_);exact zX;have h1:=orl h0;have h2:=D8_ h1;have h3:=orr h0;have h4:=D8_ h3;have p0:=dt h4;refine kA 3 ?_;refine aN [1,2,3,4,5,6] 9 mixd<|kE [0,1] 7 ?_;refine vC 2 Y (Fk_ _ r (hr:=by have :=Bp_ r wA;omega)) Y λw2=>?_;refine kE [3,4] 4 ?_;refine vE 5 Y (eC (Qu_ r wS) Y λw3=>?_);refine vC 6 Y (Ir_ _ r (hr:=by have :=Bp_ r wA;omega) (hk:=by exact F0_ wA) (hk0:=by exact E5_ wA)) Y λw4=>?_;refine kE [7,8] 0 ?_;refine vD<|kA 2 ?_;subst e2;exact qr1
end Go.SW.V
namespace Go.SW
open Go.ChangeShapes Go.WideShapes Go.ChangeAt Go.RowKit
variable{P:Program}
theorem Gb_{Ht:Type}{enc:TypeId×Value->Ht}{w:World}{base:Nat}{sp:Nat->Bool}{held:Bool}{fuel:Nat}{t e:TypeId}{n:Nat}{cs:List Value}{zs:List Bs}{p:List MemPlace}
   (ht:P.underlying t=some (.array n e)) (he:P.underlying e=some .string) (hce:P.cellsOf e=1) (hct:P.cellsOf t=n)
   (h:DataW.trod enc P w base sp held fuel t cs=some (.agg (zs.map λz=> .lit (.string z)),p)):cs=zs.map str:=by
 cases fuel with
 |zero=>simp[HC] at h
 |succ fuel=>
   simp only[HC,ht,hce,hct,Nat.mul_one] at h
   split at h
   . rename_i hl
     obtain⟨xs,hm,hx⟩:=Option.map_eq_some_iff.1 h
     have hxs:xs.map (·.1)=zs.map λz=>(HF (.string z):DataW Ht):=by
       have :=congrArg Prod.fst hx
       exact xC
     have hxl:xs.length=n:=by simpa using Lib.mapM_length hm
     have hzl:zs.length=n:=by
       have :=congrArg EB hxs
       simp at this
       omega
     apply List.ext_getElem?
     intro i
     by_cases hi:i<n
     . obtain⟨b,hb,hf⟩:=Lib.mapM_at hm i i (by simp[hi])
       obtain⟨z,hc,rfl,_⟩:=DataW.trod_string he hf
       have h1:cs[i]? = some (.string z):=by
         have :=congrArg (·[0]?) hc
         simpa [List.getElem?_take,List.getElem?_drop] using this
       have h2:(xs.map (·.1))[i]? = some (HF (.string z.data.toList):DataW Ht):=by simp[hb]
       rw[hxs] at h2
       simp only[AR,Option.map_eq_some_iff,DataW.lit.injEq,Lit.string.injEq] at h2
       obtain⟨z',hz',rfl⟩:=h2
       rw[h1,AR,hz',J9_]
       rfl
     . rw[BQ xN,BQ xS]
   . cases h
theorem O2_{w:World}{g n:Nat}{name:String}{zs:List Bs}{rest:List (String×DataW Unit)}{t e:TypeId}(hg:P.globalNamed name=some g)(hty:(P.globals[g]?).map (·.type)=some t)(ht:P.underlying t=some (.array n e))(he:P.underlying e=some .string)(hce:P.cellsOf e=1)(hct:P.cellsOf t=n)
   (h:laidMet P ((name, .agg (zs.map λz=> .lit (.string z)))::rest) w):GStrs (hp w) g zs:=by
 obtain⟨ps,⟨g',t',cs,fuel,p,q,hg',ht',hvar,hd,_,_⟩,_⟩:=h;obtain rfl :=Option.some.inj (hg.symm.trans hg');obtain rfl :=Option.some.inj (hty.symm.trans ht');have hc:=Gb_ ht he hce hct hd;obtain rfl :cs=(zs.map str).toArray:=by rw[<- hc]
 unfold World.var? at hvar;rw[hg] at hvar;simp only[Option.bind_some] at hvar
 split at hvar
 . rename_i cs T fr hh
   cases hvar
   exact⟨T,fr,hh⟩
 . cases hvar
end Go.SW
namespace Go.SW
def errD:DataW Unit->Bs
 | .iface _ (.ptr (.agg [.lit (.string b)]))=>b
 |_=>[]
def layE(pt low:Nat):Nat->List (Nat×DataW Unit)->Array Obj->Array Obj
 |_,[],h=>h
 | k,x::l,h=>layE pt low (k+1) l (h.modify x.1 λ
   | .cells _ t frozen=> .cells #[.iface pt (.pointer (some ⟨low+k,0,none⟩))] t frozen
   |o=>o)
noncomputable def laidWE(P:Program)(os:Os)(pt st:Nat)(l e:List (Nat×DataW Unit)):World:=
 let low:=(D9 P os ⟨#[],#[],[]⟩).heap.size
 let w0:=D9 P os ⟨(e.map λx=>EV #[.string ⟨(errD x.2).toArray⟩] st).toArray,#[],[]⟩
 {w0 with heap:=layE pt low 0 e (HG (λh x=>h.modify x.1 (layD x.2)) w0.heap l)}
noncomputable def laidWR(P:Program)(os:Os)(pt st:Nat)(l e:List (Nat×DataW Unit))(g rt r16 k:Nat)(rows:List Value)(lat:Int):World:=
 let low:=(D9 P os ⟨#[],#[],[]⟩).heap.size
 let n:=e.length
 let w0:=D9 P os ⟨((e.map λx=>EV #[.string ⟨(errD x.2).toArray⟩] st)++[EV rows.toArray r16,EV #[.slice (some ⟨low+n,0,none⟩) k k, .slice none 0 0, .int .i64 lat] rt]).toArray,#[],[]⟩
 {w0 with heap:=(layE pt low 0 e (HG (λh x=>h.modify x.1 (layD x.2)) w0.heap l)).modify g λ
   | .cells _ t frozen=> .cells #[.pointer (some ⟨low+n+1,0,none⟩)] t frozen
   |o=>o}
def keyM:MemPlace->Option Nat
 | .cell b o=>bif Nat.blt o 1024 then some (b*1024+o) else none
 | .map _=>none
def ndM:List MemPlace->Nat->Bool
 |[],_=>true
 |p::r,m=>match keyM p with
   |some k=>bif HH m k then false else ndM r (m |||1 <<< k)
   |none=>false
theorem Q9_:∀ {ps:List MemPlace} {m:Nat},ndM ps m=true->ps.Nodup/\∀ p∈ps,∀ k,keyM p=some k->m.testBit k=false
 |[],_,_=>⟨List.nodup_nil,λ_ h=>by cases h⟩
 |p::r,m,h=>by
   simp only[ndM] at h
   cases hk:keyM p with
   |none=>rw[hk] at h;cases h
   |some k=>
     rw[hk] at h
     simp only at h
     cases ht:HH m k with
     |true=>rw[ht] at h;cases h
     |false=>
       rw[ht] at h
       simp only[cond_false] at h
       obtain⟨h1,h2⟩:=Q9_ h
       refine⟨List.nodup_cons.2 ⟨λhm=>?_,h1⟩,λq hq j hj=>?_⟩
       . have :=h2 p hm k hk
         rw[GK] at this
         simp[Nat.one_shiftLeft,Nat.testBit_two_pow_self] at this
       . rcases List.mem_cons.1 hq with rfl|hq
         . rw[hk] at hj;cases hj;exact ht
         . have :=h2 q hq j hj
           rw[GK] at this
           simp only[Bool.or_eq_false_iff] at this
           exact this.1
theorem tieM{o:Option (List (String×DataW Unit)×List MemPlace)}{f:List MemPlace->Bool}(h:o.map (λx=>ndM x.2 0&&f x.2)=some true):o.map (λx=>decide x.2.Nodup&&f x.2)=some true:=by
 cases o with
 |none=>cases h
 |some x=>
   simp only[Option.map_some,Option.some.injEq,Bool.and_eq_true] at h ⊢
   exact⟨decide_eq_true (Q9_ h.1).1,h.2⟩
end Go.SW
namespace Go.SW.V
open Go.SW
theorem Oa_{k:Int}(h0:0<=k)(h7:k<=7):(IntKind.wrap .u8 ((BitVec.ofInt (IntKind.bits .u8) k &&& BitVec.ofInt (IntKind.bits .u8) 7).toNat)).toNat=k.toNat:=by
 have hk:k=0\/k=1\/k=2\/k=3\/k=4\/k=5\/k=6\/k=7:=by omega
 rcases hk with rfl|rfl|rfl|rfl|rfl|rfl|rfl|rfl<;>decide
theorem tell_eq(client:Int)(r:Reply)(h0:0<=r.kind)(h7:r.kind<=7):Bg_ client r=Cp_ client r:=by
 have hk:r.kind=0\/r.kind=1\/r.kind=2\/r.kind=3\/r.kind=4\/r.kind=5\/r.kind=6\/r.kind=7:=by omega
 simp only[Bg_,Cp_,Ai_,lt,lt1,A_,Oa_ h0 h7];rw[show U_=A3_ from rfl];generalize decB client=a;generalize decB r.channel=b;generalize decB r.n=c;generalize decB r.m=d;generalize A3_ r.M_.key=e;generalize A3_ r.M_.body=f
 cases r.yes<;>rcases hk with h|h|h|h|h|h|h|h<;>simp[h,joinB,rplW,gt]
theorem law31_tells(client:Int)(r:Reply)(hw:(PV.agg (Reply.pc r)).wf):Al_ client r=true:=by
 unfold Al_
 cases hl:Fu_ r with
 |false=>rfl
 |true=>
   by_cases he:E4_ r=0
   . have hk:=F0_ he
     have hz:0<=r.kind:=E5_ hw
     rw[tell_eq client r hz hk]
     simp
   . simp[he]
end Go.SW.V
