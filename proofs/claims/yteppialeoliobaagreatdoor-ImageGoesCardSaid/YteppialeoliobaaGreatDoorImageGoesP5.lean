/-
  A part of the proof of ImageGoes: The walks of this seat, printed by program: stairwellref04.letter, words.plain, strings.Builder.copyCheck, octet.New, octet.In.Fail, octet.In.Raw, octet.In.Left, octet.In.Err, octet.In.End.
-/
import Derived.Test.YteppialeoliobaaGreatDoorProg
import Derived.Test.YteppialeoliobaaGreatDoorImageGoesP2
import Derived.KernelRfl
import Derived.Test.YteppialeoliobaaGreatDoorImageGoesP4
import Derived.Test.YteppialeoliobaaGreatDoorImageGoesP3
import Derived.Test.YteppialeoliobaaGreatDoorImageGoesP1
set_option linter.unusedVariables false
set_option linter.unusedSimpArgs false
set_option maxRecDepth 100000
set_option maxHeartbeats 4000000
open Go.Proofs.Tryz
namespace Go.SW
open Go.Proofs
theorem ag218:Ag prog 218 false:=λw=>by kernel_rfl
theorem ag9:Ag prog 9 false:=λw=>by kernel_rfl
theorem cb204:An_ prog 204:=Ad_ func204 (by kernel_rfl) (by kernel_rfl)
theorem Zz_:Fld prog 220 0 0:=λb o w=>by kernel_rfl
theorem la220_220:liesAt prog prog.depth 220 (2/prog.cellsOf 220) 0 220 1=true:=by kernel_rfl
theorem ne249:NoEsc prog 249:=noEsc_of func249 (by kernel_rfl) (by kernel_rfl) (by kernel_rfl) (by kernel_rfl)
theorem sz218:Sz prog 218 1:=λw=>by kernel_rfl
theorem sz9:Sz prog 9 1:=λw=>by kernel_rfl
theorem ti220:∃ j,prog.info? 220=some j:=Option.isSome_iff_exists.1 (by kernel_rfl)
theorem tz220:∃ j,prog.info? 220=some j/\j.size≠0:=exInfo (by kernel_rfl)
set_option maxRecDepth 100000 in
theorem copyCheck {n:Nat} {N:Rest} {F:Fr} {H:Hp} {L:Ls} {ops:List Oper} {ty d:Nat} {pos:String} {af:Array Edge} {K:Fr->Hp->Ls->Prop} {x:Operand} {ats:Array TypeId} {b:Nat} {p v:Value} (i:Nat) (hx:ev F x = .pointer (some ⟨b,0,none⟩)) (hi:L i=some (b,bx 220 [p,v]))
   (hp:p = .pointer none\/p = .pointer (some ⟨b,0,none⟩)) (hd:Nat.blt d n=true) (k:K (upd F d (.tuple #[])) H (lupd L i (some (b,bx 220 [.pointer (some ⟨b,0,none⟩),v])))):Op1 prog n N ops ⟨some d, .call ⟨.value (.func 204),#[x],ats⟩,ty,pos,af,none⟩ K F H L:=by
 refine op1_in (en_f (vs:=[.pointer (some ⟨b,0,none⟩)]) cb204 (by simp[evs,hx])) func204 rfl ntmps204 rfl hd (I0_ (Fq_ (ol rfl (I7_ (v:= .pointer (some ⟨_,_,none⟩)) rfl) (ol rfl (Gl_ rfl) (ol rfl (E4_ rfl Zz_) ?_)))))
 refine ol rfl (J6_ (i:=i) (v:=p) rfl ag218 hi rfl) ?_
 rcases hp with rfl|rfl
 . refine ol rfl (lo_pnil rfl rfl underlying218) (Jm_ (I2_ (cw_cond_t rfl rfl (Fq_ (ol rfl (I7_ (v:= .pointer (some ⟨_,_,none⟩)) rfl) ?_)))))
   refine ol rfl (I7_ (v:= .pointer (some ⟨_,_,none⟩)) rfl) (ol rfl (lo_toUnsafe (i:=i) rfl hi rfl underlying218 underlying334 (tz220).choose_spec.1 (tz220).choose_spec.2) (ol rfl (lo_noEsc (v:= .pointer (some ⟨_,_,none⟩)) ne249 rfl) (ol rfl (Wf_ (i:=i) rfl hi underlying334 underlying218 (ti220).choose_spec la220_220) (ol rfl (Gl_ rfl) (ol rfl (E4_ rfl Zz_) ?_)))))
   refine ow1 (Kd_ (i:=i) (v:= .pointer (some ⟨_,_,none⟩)) rfl rfl rfl sz218 hi rfl ?_)
   refine Jm_ ?_
   exact fnK_n (res0 rfl) (.refl _) k
 . refine ol rfl (Uq_ rfl rfl underlying218) (Jm_ (I2_ (W8_ rfl rfl (I0_ (Fq_ ?_)))))
   refine ol rfl (I7_ (v:= .pointer (some ⟨_,_,none⟩)) rfl) (ol rfl (Gl_ rfl) (ol rfl (E4_ rfl Zz_) (ol rfl (J6_ (i:=i) (v:= .pointer (some ⟨b,0,none⟩)) rfl ag218 hi rfl) (ol rfl (I7_ (v:= .pointer (some ⟨_,_,none⟩)) rfl) (ol rfl (lo_pne_self rfl rfl underlying218 (ti220).choose_spec) ?_)))))
   refine Jm_ (I2_ (W8_ rfl rfl (Zt_ (fnK_n (res0 rfl) (.refl _) ?_))))
   rwa [lupd_eta hi] at k
theorem sz5:Sz prog 5 1:=λw=>by kernel_rfl
theorem ag134:Ag prog 134 true:=λw=>by kernel_rfl
theorem ag216:Ag prog 216 false:=λw=>by kernel_rfl
theorem by5:By prog 5 1:=by_of (by kernel_rfl)
theorem cb125:An_ prog 125:=Ad_ func125 (by kernel_rfl) (by kernel_rfl)
theorem cb126:An_ prog 126:=Ad_ func126 (by kernel_rfl) (by kernel_rfl)
theorem co5:prog.cellsOf 5=1:=by kernel_rfl
theorem fl134_0:Fld prog 134 0 0:=λb o w=>by kernel_rfl
theorem Vp_:Fld prog 220 1 1:=λb o w=>by kernel_rfl
theorem mixd:prog.follows .mixedOrders=true:=by kernel_rfl
theorem sz134:Sz prog 134 2:=λw=>by kernel_rfl
theorem sz216:Sz prog 216 1:=λw=>by kernel_rfl
theorem zr134:Zr prog 134 [str [], .int .i64 0]:=λw=>⟨.agg #[str [], .int .i64 0],by kernel_rfl,rfl⟩
theorem zr220:Zr prog 220 [.pointer none, .slice none 0 0]:=λw=>⟨.agg #[.pointer none, .slice none 0 0],by kernel_rfl,rfl⟩
theorem zr5:Zr prog 5 [.int .u8 0]:=λw=>⟨.int .u8 0,by kernel_rfl,rfl⟩
theorem zx5:∃ z,∀ w,(zeroValue 5).run prog w = .ok z w:=⟨.int .u8 0,λw=>by kernel_rfl⟩
theorem out_Num (H:Hp) (o:Out) (n:Int) (n_r:0<=n/\n<=18446744073709551615) (bytes:Int) (bytes_r:-9223372036854775808<=bytes/\bytes<=9223372036854775807) (hlen:o.s.length<=4611686018427387904):Pr prog 52 #[.agg (Out.cells o).toArray, .int .u64 n, .int .i64 bytes] H (.agg (Out.cells (B_ o n bytes)).toArray):=by
 refine pr_cw func52 rfl ntmps52 rfl (λN=>?_)
 refine I0_ (Fq_ (ow1 (op1_box (cs:=[_,_]) 0 rfl rfl (λb1=>?_))))
 refine ow1 (Te_ 1 rfl zr134 (λb2=>?_))
 refine Jm_ (I2_ (I0_ (Fq_ (ow1 (Te_ 2 rfl zr220 (λb3=>?_))))))
 refine Jm_ (I2_ (I0_ (I0_ (Fq_ (omi rfl rfl ?_)))))
 refine ol rfl (lo_max rfl rfl) (ol rfl (lo_min rfl rfl) (ol rfl (lo_sub rfl rfl (Qt_ (by omega))) (oai rfl rfl (Jm_ (I2_ ?_)))))
 refine Vc_ ?_
 refine cw_loop5 [8,13,14,15,16,17,18,19,20,21,22] [2,3,4] (λ(j:Nat) (bs:Bs) (p:Value) (v:Value) (en:Option (Nat×Obj)) G=>upd (G) 8 (.int .i64 ((j:Int)-1))) (λ(j:Nat) (bs:Bs) (p:Value) (v:Value) (en:Option (Nat×Obj)) G=>lupd (lupd (G) 2 (some (b3,bx 220 [p,v]))) 3 (en)) (λ(j:Nat) (bs:Bs) (p:Value) (v:Value) (en:Option (Nat×Obj)) H'=>bs++numB j n.toNat=numB (numK bytes) n.toNat/\bs.length+j=numK bytes/\OwnV 1 5 v en bs.length (bs.map u8v)/\(bs.length=0->v = .slice none 0 0)/\(p = .pointer none\/p = .pointer (some ⟨b3,0,none⟩))) (λ(j:Nat) (bs:Bs) (p:Value) (v:Value) (en:Option (Nat×Obj))=>j) (numK bytes) [] (.pointer none) (.slice none 0 0) none (Zj_ (Ur_ (by first|exact off_refl|(repeat (first|exact off_mask|refine off_upd rfl ?_|refine Yw_ rfl ?_)))) (congrArg (Value.int .i64) (show min (max bytes 0) 8-1=((numK bytes:Nat):Int)-1 by unfold numK;omega))) (Nw_ (Nw_ (S1_ Yx_) rfl) rfl) ?_ ?_
 . exact⟨rfl,by simp,Pq_,λ_=>rfl, .inl rfl⟩
 intro j bs p v en J5 JL5 H5 hp4 hl5
 obtain⟨hk1,hk2,ho,hz,hpp⟩:=hp4
 have hk8:numK bytes<=8:=by unfold numK;omega
 refine I0_ (I0_ (Fq_ (omi rfl rfl (ol rfl (lo_geq rfl rfl) (Jm_ ?_)))))
 refine I2_ (Vd_ rfl (λh6=>?_) (λh6=>?_))
 . have p7:=dt h6
   refine Zt_ (I2_ (I0_ (Vc_ (Fq_ (omi rfl rfl ?_)))))
   refine omi rfl rfl (ol rfl (lo_mul rfl rfl (Qt_ (by omega))) (ol rfl (lo_shr rfl rfl (by omega)) ?_))
   have :=wr_u8 (Int.fdiv n (2 ^ (min ((8*((j:Int)-1)):Int).toNat (IntKind.bits .u64))))
   refine ol rfl (lo_conv rfl (by rw[underlying36];rfl) underlying5) ?_
   refine ow1 (op1_in (en_f cb125 rfl) func125 rfl ntmps125 rfl rfl ?_)
   refine I0_ (Fq_ (ol rfl (Kl_ rfl) (Jm_ (I2_ (I0_ ?_)))))
   refine Fq_ (ol rfl (I7_ (v:= .pointer (some ⟨_,_,none⟩)) rfl) ?_)
   refine ow1 (copyCheck 2 rfl rfl hpp rfl ?_)
   refine Jm_ (I2_ (I0_ (Fq_ (ol rfl (I7_ (v:= .pointer (some ⟨_,_,none⟩)) rfl) (ol rfl (I7_ (v:= .pointer (some ⟨_,_,none⟩)) rfl) ?_)))))
   refine ol rfl (Gl_ rfl) (ol rfl (E4_ rfl Vp_) (ol rfl (J6_ (i:=2) rfl ag216 rfl rfl) (omi rfl rfl ?_)))
   refine ow1 (Ut_ (cs:=[_]) 4 rfl underlying216 sz5 zx5 rfl ⟨rfl,rfl,trivial⟩ rfl rfl (by decide) (λb8=>?_))
   refine ow1 (op1_app 3 rfl rfl underlying216 underlying216 rfl sz5 by5 (by decide) zr5 ho (src_bx (i:=4) rfl rfl) (List.all_eq_true.1 rfl) rfl (by omega) rfl (λv9 en10 ho11=>?_))
   have ho12:=byte_app (bs:=bs) ho11 (by first|rfl|simp) (wrap8r _)
   refine ol rfl (Gl_ rfl) (ol rfl (E4_ rfl Vp_) ?_)
   refine ow1 (Kd_ (i:=2) rfl rfl (ownV_one ho12) sz216 rfl rfl ?_)
   refine Jm_ (I2_ (I0_ (Fq_ (ol rfl (Kl_ rfl) (Jm_ ?_)))))
   refine I2_ (cw_ret (fnK_r (res1 rfl (rv_t rfl)) (.refl _) (Jm_ (blkK_n (I2_ ?_)))))
   refine Fq_ (omi rfl rfl (ol rfl (lo_sub rfl rfl (Qt_ (by omega))) (oai rfl rfl (Jm_ ?_))))
   refine next5 (j-1) (bs++[UInt8.ofNat ((IntKind.wrap .u8 (Int.fdiv n (2 ^ (min ((8*((j:Int)-1)):Int).toNat (IntKind.bits .u64)))))).toNat]) (.pointer (some ⟨b3,0,none⟩)) v9 en10 (Zj_ (Ur_ (by first|exact off_refl|(repeat (first|exact off_mask|refine off_upd rfl ?_|refine Yw_ rfl ?_)))) (congrArg (Value.int .i64) (show ((j:Int)-1)-1=((j-1:Nat):Int)-1 by omega))) (Nw_ (Nw_ (S1_ (by first|exact Yx_|(repeat (first|exact offl_mask|refine offl_upd rfl ?_|refine offl_mask2 rfl ?_)))) rfl) rfl) hl5 ?_ ?_
   . refine⟨?_,?_,ho12,(nz_of ho12 (by simp)), .inr rfl⟩
     . rw[byte_of n_r.1 (by omega) (by omega),List.append_assoc,<- hk1]
       obtain⟨q,rfl⟩:∃ q,j=q+1:=⟨j-1,by omega⟩
       simp[numB]
     simp;omega
   omega
 have p13:=df h6
 refine cw_exit (seqK_e (loopK_e (blkK_hit (I2_ (I0_ ?_)))))
 refine cw_anyX 3 mixd (vw_q 0 rfl (by kernel_rfl) (by repeat (first|exact I1_|exact LLe.refl _|exact Gf_|refine Jk_ ?_ rfl)) (λ_ _ hh hl=>E4_ rfl fl134_0) ?_)
 refine vw_q 1 rfl (by kernel_rfl) (by repeat (first|exact I1_|exact LLe.refl _|exact Gf_|refine Jk_ ?_ rfl)) (λ_ _ hh hl=>J6_ (i:=0) (v:=str _) rfl ag9 (hl _ _ rfl) rfl) ?_
 refine vw_e 2 rfl (by kernel_rfl) (op1_in (en_f cb126 rfl) func126 rfl ntmps126 rfl rfl ?_)
 refine I0_ (Fq_ (ol rfl (Kl_ (v:=str _) rfl) (Jm_ (I2_ (I0_ ?_)))))
 refine cw_anyX 3 mixd ?_
 refine vw_q 0 rfl (by kernel_rfl) (by repeat (first|exact I1_|exact LLe.refl _|exact Gf_|refine Jk_ ?_ rfl)) (λ_ _ hh hl=>I7_ (v:= .pointer (some ⟨_,_,none⟩)) rfl) ?_
 refine vw_q 1 rfl (by kernel_rfl) (by repeat (first|exact I1_|exact LLe.refl _|exact Gf_|refine Jk_ ?_ rfl)) (λ_ _ hh hl=>Gl_ rfl) ?_
 refine vw_q 2 rfl (by kernel_rfl) (by repeat (first|exact I1_|exact LLe.refl _|exact Gf_|refine Jk_ ?_ rfl)) (λ_ _ hh hl=>E4_ rfl Vp_) ?_
 refine vw_q 3 rfl (by kernel_rfl) (by repeat (first|exact I1_|exact LLe.refl _|exact Gf_|refine Jk_ ?_ rfl)) (λ_ _ hh hl=>J6_ (i:=2) rfl ag216 (hl _ _ rfl) rfl) ?_
 refine vw_q 4 rfl (by kernel_rfl) (by repeat (first|exact I1_|exact LLe.refl _|exact Gf_|refine Jk_ ?_ rfl)) (λ_ _ hh hl=>lo_usd rfl ho hz) ?_
 refine vw_q 5 rfl (by kernel_rfl) (by repeat (first|exact I1_|exact LLe.refl _|exact Gf_|refine Jk_ ?_ rfl)) (λ_ _ hh hl=>I7_ (v:= .pointer (some ⟨_,_,none⟩)) rfl) ?_
 refine vw_q 6 rfl (by kernel_rfl) (by repeat (first|exact I1_|exact LLe.refl _|exact Gf_|refine Jk_ ?_ rfl)) (λ_ _ hh hl=>Gl_ rfl) ?_
 refine vw_q 7 rfl (by kernel_rfl) (by repeat (first|exact I1_|exact LLe.refl _|exact Gf_|refine Jk_ ?_ rfl)) (λ_ _ hh hl=>E4_ rfl Vp_) ?_
 refine vw_q 8 rfl (by kernel_rfl) (by repeat (first|exact I1_|exact LLe.refl _|exact Gf_|refine Jk_ ?_ rfl)) (λ_ _ hh hl=>J6_ (i:=2) rfl ag216 (hl _ _ rfl) rfl) ?_
 refine vw_q 9 rfl (by kernel_rfl) (by repeat (first|exact I1_|exact LLe.refl _|exact Gf_|refine Jk_ ?_ rfl)) (λ_ _ hh hl=>Up_ rfl ho underlying216) ?_
 refine vw_e 10 rfl (by kernel_rfl) (op1_ustr (l:=bs) 3 rfl rfl underlying294 co5 ho hz (by have hq:=Aw_ (numK bytes) n.toNat;simp[numK] at *;omega) rfl ?_)
 refine⟨⟨(.refl _),(by repeat (first|exact I1_|exact LLe.refl _|exact Gf_|refine Jk_ ?_ rfl))⟩,?_⟩
 refine vw_q 11 rfl (by kernel_rfl) (by repeat (first|exact I1_|exact LLe.refl _|exact Gf_|refine Jk_ ?_ rfl)) (λ_ _ hh hl=>Kl_ (v:=str _) rfl) ?_
 refine vw_done (by kernel_rfl) (I2_ (cw_ret (fnK_r (res1 rfl (rv_t (v:=str _) rfl)) (.refl _) ?_)))
 refine⟨⟨(.refl _),(by repeat (first|exact I1_|exact LLe.refl _|exact Gf_|refine Jk_ ?_ rfl))⟩,?_⟩
 refine vw_q 3 rfl (by kernel_rfl) (by repeat (first|exact I1_|exact LLe.refl _|exact Gf_|refine Jk_ ?_ rfl)) (λ_ _ hh hl=>lo_cat rfl rfl (by have hq:=Aw_ (numK bytes) n.toNat;simp[numK] at *;omega)) ?_
 refine vw_q 4 rfl (by kernel_rfl) (by repeat (first|exact I1_|exact LLe.refl _|exact Gf_|refine Jk_ ?_ rfl)) (λ_ _ hh hl=>E4_ rfl fl134_0) ?_
 refine vw_t 5 rfl (by kernel_rfl) (by kernel_rfl) (Kd_ (i:=0) (v:=str _) rfl rfl rfl sz9 rfl rfl ?_)
 refine vw_done (by kernel_rfl) (I2_ (I0_ (Fq_ (ol rfl (Rb_ (i:=0) (vs:=[_,_]) rfl ag134 sz134 rfl rfl rfl) ?_))))
 refine ow1 (Uu_ (i:=1) (vs:=[_,_]) rfl rfl rfl sz134 rfl rfl rfl ?_)
 refine Jm_ (I2_ (cw_ret (fnK_r (res1 rfl (rv_c (i:=1) (vs:=[_,_]) rfl ag134 sz134 rfl rfl rfl)) ((HLe.refl _).trans hl5) ?_)))
 obtain rfl :j=0:=by omega
 simp only[numB,List.append_nil] at hk1
 subst hk1
 rfl
end Go.SW
namespace Go.SW.V
open Go.SW Go.Proofs
abbrev ty9:TI:=⟨.str,1,16,[.str []]⟩
abbrev ty3:TI:=⟨.int .i64,1,8,[.int .i64 0]⟩
abbrev ty36:TI:=⟨.int .u64,1,8,[.int .u64 0]⟩
abbrev ty71:TI:=⟨.int .i64,1,8,[.int .i64 0]⟩
abbrev ty134:TI:=⟨.agg [(0,1),(1,1)],2,24,[.str [], .int .i64 0]⟩
abbrev ty211:TI:=⟨.agg [(0,1),(1,1)],2,24,[.str [], .int .i64 0]⟩
abbrev ty86:TI:=⟨.slc 9,1,24,[.sl strc []]⟩
abbrev ty2:TI:=⟨.int .i64,1,8,[.int .i64 0]⟩
abbrev ty5:TI:=⟨.int .u8,1,1,[.int .u8 0]⟩
abbrev ty60:TI:=⟨.slc 225,1,24,[.sl Pair.pc []]⟩
abbrev ty225:TI:=⟨.agg [(0,1),(1,1),(2,1),(3,1)],4,48,[.str [], .int .u8 0, .int .i64 0, .str []]⟩
abbrev ty4:TI:=⟨.bool,1,1,[.bool false]⟩
abbrev ty62:TI:=⟨.agg [(0,1),(1,1),(2,1),(3,1),(4,1),(5,1)],6,88,[.str [], .str [], .bool false, .str [], .sl Pair.pc [], .bool false]⟩
abbrev ty216:TI:=⟨.slc 5,1,24,[.sl u8c []]⟩
abbrev ty57:TI:=⟨.agg [(0,1),(1,1),(2,1)],3,40,[.str [], .int .u8 0, .str []]⟩
abbrev ty59:TI:=⟨.agg [(0,1),(1,1),(2,1),(3,1)],4,48,[.str [], .int .u64 0, .int .u64 0, .str []]⟩
abbrev ty64:TI:=⟨.agg [(0,1),(1,1),(2,1),(3,1),(4,1),(5,1),(6,1)],7,96,[.int .u64 0, .str [], .str [], .sl Pair.pc [], .str [], .int .u64 0, .int .u8 0]⟩
abbrev ty66:TI:=⟨.agg [(0,1),(1,1),(2,3),(5,4),(9,6),(15,1),(16,1),(17,1),(18,1),(19,1),(20,1),(21,7),(28,1)],29,344,[.int .u8 0, .int .u64 0, .str [], .int .u8 0, .str [], .str [], .int .u64 0, .int .u64 0, .str [], .str [], .str [], .bool false, .str [], .sl Pair.pc [], .bool false, .str [], .int .u64 0, .int .u8 0, .int .u8 0, .int .u8 0, .int .u64 0, .int .u64 0, .str [], .str [], .sl Pair.pc [], .str [], .int .u64 0, .int .u8 0, .str []]⟩
abbrev ty250:TI:=⟨.slc 71,1,24,[.sl i64c []]⟩
abbrev ty289:TI:=⟨.agg [(0,1),(1,1),(2,1),(3,1)],4,56,[.int .u8 0, .str [], .sl Pair.pc [], .bool false]⟩
abbrev ty32:TI:=⟨.slc 57,1,24,[.sl W_.pc []]⟩
abbrev ty35:TI:=⟨.agg [(0,1),(1,1)],2,48,[.sl W_.pc [], .sl Q_.pc []]⟩
abbrev ty33:TI:=⟨.slc 62,1,24,[.sl Q_.pc []]⟩
abbrev ty328:TI:=⟨.slc 32,1,24,[.sl (slc W_.pc) []]⟩
abbrev ty331:TI:=⟨.slc 33,1,24,[.sl (slc Q_.pc) []]⟩
abbrev ty27:TI:=⟨.slc 66,1,24,[.sl O_.pc []]⟩
abbrev ty22:TI:=⟨.slc 99,1,24,[.sl A5_.pc []]⟩
abbrev ty23:TI:=⟨.slc 3,1,24,[.sl i64c []]⟩
abbrev ty24:TI:=⟨.slc 145,1,24,[.sl Bz_.pc []]⟩
abbrev ty26:TI:=⟨.agg [(0,1),(1,1),(2,1),(3,1),(4,1)],5,88,[.int .i64 0, .int .i64 0, .sl A5_.pc [], .sl i64c [], .sl Bz_.pc []]⟩
abbrev ty37:TI:=⟨.slc 167,1,24,[.sl Fd_.pc []]⟩
abbrev ty38:TI:=⟨.slc 64,1,24,[.sl Mail.pc []]⟩
abbrev ty44:TI:=⟨.slc 120,1,24,[.sl Eh_.pc []]⟩
abbrev ty46:TI:=⟨.agg [(0,1),(1,1)],2,32,[.int .u64 0, .sl Eh_.pc []]⟩
abbrev ty68:TI:=⟨.agg [(0,7),(7,1),(8,1)],9,104,[.int .u64 0, .str [], .str [], .sl Pair.pc [], .str [], .int .u64 0, .int .u8 0, .bool false, .bool false]⟩
abbrev ty95:TI:=⟨.int .u32,1,4,[.int .u32 0]⟩
abbrev ty97:TI:=⟨.agg [(0,1),(1,1)],2,8,[.int .u8 0, .int .u32 0]⟩
abbrev ty99:TI:=⟨.agg [(0,1),(1,2),(3,1),(4,1)],5,40,[.str [], .int .u8 0, .int .u32 0, .int .i64 0, .int .u64 0]⟩
abbrev ty120:TI:=⟨.agg [(0,1),(1,1),(2,1)],3,32,[.int .u64 0, .int .u8 0, .str []]⟩
abbrev ty145:TI:=⟨.agg [(0,1),(1,1),(2,1)],3,24,[.int .i64 0, .int .i64 0, .int .i64 0]⟩
abbrev ty163:TI:=⟨.slc 68,1,24,[.sl K_.pc []]⟩
abbrev ty165:TI:=⟨.agg [(0,1)],1,24,[.sl K_.pc []]⟩
abbrev ty167:TI:=⟨.agg [(0,4),(4,1)],5,72,[.str [], .int .u64 0, .int .u64 0, .str [], .sl K_.pc []]⟩
abbrev ty174:TI:=⟨.oth,1,8,[.val .nilFunc]⟩
abbrev ty279:TI:=⟨.slc 44,1,24,[.sl (slc Eh_.pc) []]⟩
abbrev ty313:TI:=⟨.slc 37,1,24,[.sl (slc Fd_.pc) []]⟩
abbrev ty354:TI:=⟨.slc 163,1,24,[.sl (slc K_.pc) []]⟩
abbrev ty365:TI:=⟨.slc 38,1,24,[.sl (slc Mail.pc) []]⟩
abbrev ty40:TI:=⟨.agg [(0,1),(1,1)],2,32,[.int .u64 0, .sl Mail.pc []]⟩
abbrev ty43:TI:=⟨.agg [(0,1),(1,1),(2,1),(3,32)],35,552,[.int .u64 0, .int .i64 0, .sl Fd_.pc [], .int .u64 0, .sl Mail.pc [], .int .u64 0, .sl Mail.pc [], .int .u64 0, .sl Mail.pc [], .int .u64 0, .sl Mail.pc [], .int .u64 0, .sl Mail.pc [], .int .u64 0, .sl Mail.pc [], .int .u64 0, .sl Mail.pc [], .int .u64 0, .sl Mail.pc [], .int .u64 0, .sl Mail.pc [], .int .u64 0, .sl Mail.pc [], .int .u64 0, .sl Mail.pc [], .int .u64 0, .sl Mail.pc [], .int .u64 0, .sl Mail.pc [], .int .u64 0, .sl Mail.pc [], .int .u64 0, .sl Mail.pc [], .int .u64 0, .sl Mail.pc []]⟩
abbrev ty41:TI:=⟨.arr,32,512,[.int .u64 0, .sl Mail.pc [], .int .u64 0, .sl Mail.pc [], .int .u64 0, .sl Mail.pc [], .int .u64 0, .sl Mail.pc [], .int .u64 0, .sl Mail.pc [], .int .u64 0, .sl Mail.pc [], .int .u64 0, .sl Mail.pc [], .int .u64 0, .sl Mail.pc [], .int .u64 0, .sl Mail.pc [], .int .u64 0, .sl Mail.pc [], .int .u64 0, .sl Mail.pc [], .int .u64 0, .sl Mail.pc [], .int .u64 0, .sl Mail.pc [], .int .u64 0, .sl Mail.pc [], .int .u64 0, .sl Mail.pc [], .int .u64 0, .sl Mail.pc []]⟩
abbrev ty90:TI:=⟨.slc 59,1,24,[.sl U_.pc []]⟩
abbrev ty52:TI:=⟨.agg [(0,2),(2,35),(37,2),(39,16),(55,16)],71,888,[.sl W_.pc [], .sl Q_.pc [], .int .u64 0, .int .i64 0, .sl Fd_.pc [], .int .u64 0, .sl Mail.pc [], .int .u64 0, .sl Mail.pc [], .int .u64 0, .sl Mail.pc [], .int .u64 0, .sl Mail.pc [], .int .u64 0, .sl Mail.pc [], .int .u64 0, .sl Mail.pc [], .int .u64 0, .sl Mail.pc [], .int .u64 0, .sl Mail.pc [], .int .u64 0, .sl Mail.pc [], .int .u64 0, .sl Mail.pc [], .int .u64 0, .sl Mail.pc [], .int .u64 0, .sl Mail.pc [], .int .u64 0, .sl Mail.pc [], .int .u64 0, .sl Mail.pc [], .int .u64 0, .sl Mail.pc [], .int .u64 0, .sl Mail.pc [], .int .u64 0, .sl Eh_.pc [], .int .u64 0, .int .u64 0, .int .u64 0, .int .u64 0, .int .u64 0, .int .u64 0, .int .u64 0, .int .u64 0, .int .u64 0, .int .u64 0, .int .u64 0, .int .u64 0, .int .u64 0, .int .u64 0, .int .u64 0, .int .u64 0, .int .u64 0, .int .i64 0, .int .u64 0, .int .i64 0, .int .u64 0, .int .i64 0, .int .u64 0, .int .i64 0, .int .u64 0, .int .i64 0, .int .u64 0, .int .i64 0, .int .u64 0, .int .i64 0, .int .u64 0, .int .i64 0]⟩
abbrev ty54:TI:=⟨.agg [(0,71),(71,5),(76,1)],77,984,[.sl W_.pc [], .sl Q_.pc [], .int .u64 0, .int .i64 0, .sl Fd_.pc [], .int .u64 0, .sl Mail.pc [], .int .u64 0, .sl Mail.pc [], .int .u64 0, .sl Mail.pc [], .int .u64 0, .sl Mail.pc [], .int .u64 0, .sl Mail.pc [], .int .u64 0, .sl Mail.pc [], .int .u64 0, .sl Mail.pc [], .int .u64 0, .sl Mail.pc [], .int .u64 0, .sl Mail.pc [], .int .u64 0, .sl Mail.pc [], .int .u64 0, .sl Mail.pc [], .int .u64 0, .sl Mail.pc [], .int .u64 0, .sl Mail.pc [], .int .u64 0, .sl Mail.pc [], .int .u64 0, .sl Mail.pc [], .int .u64 0, .sl Mail.pc [], .int .u64 0, .sl Eh_.pc [], .int .u64 0, .int .u64 0, .int .u64 0, .int .u64 0, .int .u64 0, .int .u64 0, .int .u64 0, .int .u64 0, .int .u64 0, .int .u64 0, .int .u64 0, .int .u64 0, .int .u64 0, .int .u64 0, .int .u64 0, .int .u64 0, .int .u64 0, .int .i64 0, .int .u64 0, .int .i64 0, .int .u64 0, .int .i64 0, .int .u64 0, .int .i64 0, .int .u64 0, .int .i64 0, .int .u64 0, .int .i64 0, .int .u64 0, .int .i64 0, .int .u64 0, .int .i64 0, .int .i64 0, .int .i64 0, .sl A5_.pc [], .sl i64c [], .sl Bz_.pc [], .int .i64 0]⟩
abbrev ty49:TI:=⟨.agg [(0,1),(1,1)],2,16,[.int .u64 0, .int .i64 0]⟩
abbrev ty70:TI:=⟨.agg [(0,9),(9,1),(10,1)],11,120,[.int .u64 0, .str [], .str [], .sl Pair.pc [], .str [], .int .u64 0, .int .u8 0, .bool false, .bool false, .int .i64 0, .int .i64 0]⟩
abbrev ty185:TI:=⟨.slc 199,1,24,[.sl Gw_.pc []]⟩
abbrev ty199:TI:=⟨.agg [(0,1),(1,7)],8,112,[.str [], .int .u64 0, .str [], .str [], .sl Pair.pc [], .str [], .int .u64 0, .int .u8 0]⟩
abbrev ty103:TI:=⟨.slc 169,1,24,[.sl A5_.pc []]⟩
abbrev ty104:TI:=⟨.slc 171,1,24,[.sl Bz_.pc []]⟩
abbrev ty106:TI:=⟨.agg [(0,1),(1,1),(2,1),(3,1),(4,1)],5,88,[.int .i64 0, .int .i64 0, .sl A5_.pc [], .sl i64c [], .sl Bz_.pc []]⟩
abbrev ty169:TI:=⟨.agg [(0,1),(1,2),(3,1),(4,1)],5,40,[.str [], .int .u8 0, .int .u32 0, .int .i64 0, .int .u64 0]⟩
abbrev ty171:TI:=⟨.agg [(0,1),(1,1),(2,1)],3,24,[.int .i64 0, .int .i64 0, .int .i64 0]⟩
abbrev ty47:TI:=⟨.arr,16,128,[.int .u64 0, .int .u64 0, .int .u64 0, .int .u64 0, .int .u64 0, .int .u64 0, .int .u64 0, .int .u64 0, .int .u64 0, .int .u64 0, .int .u64 0, .int .u64 0, .int .u64 0, .int .u64 0, .int .u64 0, .int .u64 0]⟩
abbrev ty50:TI:=⟨.arr,16,128,[.int .u64 0, .int .i64 0, .int .u64 0, .int .i64 0, .int .u64 0, .int .i64 0, .int .u64 0, .int .i64 0, .int .u64 0, .int .i64 0, .int .u64 0, .int .i64 0, .int .u64 0, .int .i64 0, .int .u64 0, .int .i64 0]⟩
abbrev ty125:TI:=⟨.agg [(0,1),(1,1)],2,32,[.val (.pointer none), .sl O_.pc []]⟩
abbrev ty80:TI:=⟨.agg [(0,7),(7,1),(8,1)],9,104,[.int .u64 0, .str [], .str [], .sl Pair.pc [], .str [], .int .u64 0, .int .u8 0, .bool false, .bool false]⟩
abbrev ty82:TI:=⟨.agg [(0,9),(9,1),(10,1)],11,120,[.int .u64 0, .str [], .str [], .sl Pair.pc [], .str [], .int .u64 0, .int .u8 0, .bool false, .bool false, .int .i64 0, .int .i64 0]⟩
def tbu:Tb:=[(9,ty9),(36,ty36),(3,ty3),(5,ty5),(64,ty64),(59,ty59),(68,ty68),(57,ty57),(4,ty4),(26,ty26),(43,ty43),(165,ty165),(99,ty99),(60,ty60),(22,ty22),(62,ty62),(46,ty46),(37,ty37),(120,ty120),(167,ty167),(163,ty163),(66,ty66),(40,ty40),(24,ty24),(97,ty97),(32,ty32),(52,ty52),(38,ty38),(23,ty23),(35,ty35),(134,ty134),(145,ty145),(44,ty44),(95,ty95),(54,ty54),(33,ty33),(354,ty354),(365,ty365),(71,ty71),(70,ty70),(313,ty313),(250,ty250),(279,ty279),(225,ty225),(86,ty86),(174,ty174),(185,ty185),(199,ty199),(331,ty331),(47,ty47),(50,ty50),(2,ty2),(289,ty289),(328,ty328),(49,ty49),(41,ty41),(27,ty27),(103,ty103),(104,ty104),(106,ty106),(169,ty169),(171,ty171),(90,ty90),(211,ty211),(216,ty216),(125,ty125),(80,ty80),(82,ty82)]
theorem F_:tbB prog tbu=true:=by kernel_rfl
section
variable {n:Nat} {N:Rest} {H0:Env} {all:List Oper} {Q:Qs} {ks:List Kt} {fF:Nat->PV} {fL:Nat->Blk}
theorem kA (k:Nat) {c c':Cf} {ks':List Kt} {F':Nat->PV} {L':Nat->Blk} {az bs:List Nat} (next :Hd prog n N H0 Q c' ks' ⟨F',L'⟩) (h:run tbu n k c ks fF fL [] [] []=some ⟨c',ks',F',L',[],az,bs⟩:=by exact rfl) (he:az=bs:=by exact rfl):Hd prog n N H0 Q c ks ⟨fF,fL⟩:=gx F_ k next h he
theorem kB (k:Nat) (is:List Nat) {c c':Cf} {ks':List Kt} {F':(Nat->Nat)->Nat->PV} {L':(Nat->Nat)->Nat->Blk} {az bs:(Nat->Nat)->List Nat} (next :∀ B:Nat->Nat,Hd prog n N H0 Q c' ks' ⟨F' B,L' B⟩) (h:∀ B,runE tbu n k is B c ks fF fL [] [] []=some ⟨c',ks',F' B,L' B,[],az B,bs B⟩:=by exact λ_=>rfl) (he:∀ B,az B=bs B:=by exact λ_=>rfl):Hd prog n N H0 Q c ks ⟨fF,fL⟩:=gm F_ k is next h he
theorem kC (k:Nat) {c c':Cf} {ks':List Kt} {F':Nat->PV} {L':Nat->Blk} {ps:List Prop} {az bs:List Nat} (next :Hd prog n N H0 Q c' ks' ⟨F',L'⟩) (h:run tbu n k c ks fF fL [] [] []=some ⟨c',ks',F',L',ps,az,bs⟩:=by exact rfl) (he:az=bs:=by exact rfl) (hp:AllP ps:=by repeat' (first|exact trivial|refine And.intro ?_ ?_|exact λhc=>hc|exact rfl|exact λhc=>rfl|omega|(intro hc;omega)|(intro hc;rw[hc];rfl))):Hd prog n N H0 Q c ks ⟨fF,fL⟩:=gy F_ k next h he hp
theorem kD (k:Nat) (is:List Nat) {c c':Cf} {ks':List Kt} {F':(Nat->Nat)->Nat->PV} {L':(Nat->Nat)->Nat->Blk} {ps:(Nat->Nat)->List Prop} {az bs:(Nat->Nat)->List Nat} (next :∀ B:Nat->Nat,Hd prog n N H0 Q c' ks' ⟨F' B,L' B⟩) (h:∀ B,runE tbu n k is B c ks fF fL [] [] []=some ⟨c',ks',F' B,L' B,ps B,az B,bs B⟩:=by exact λ_=>rfl) (he:∀ B,az B=bs B:=by exact λ_=>rfl) (hp:∀ B,AllP (ps B):=by intro B;repeat' (first|exact trivial|refine And.intro ?_ ?_|exact λhc=>hc|exact rfl|exact λhc=>rfl|omega|(intro hc;omega)|(intro hc;rw[hc];rfl))):Hd prog n N H0 Q c ks ⟨fF,fL⟩:=gmy F_ k is next h he hp
theorem kE (order:List Nat) (f:Nat) {xs:Option (List Nat)} {fuel:Nat} {listed:Array Bool} {F':Nat->PV} {L':Nat->Blk} {az bs:List Nat} (next :Hv prog n N H0 Q xs all f (lst listed order) ks ⟨F',L'⟩) (hf:fuel=f+order.length:=by exact rfl) (hc:chkV n all order listed=true:=by kernel_rfl) (h:runV tbu xs all order fF fL [] [] []=some ⟨F',L',[],az,bs⟩:=by exact rfl) (he:az=bs:=by exact rfl):Hv prog n N H0 Q xs all fuel listed ks ⟨fF,fL⟩:=gX F_ order f next hf hc h he
theorem kF (order:List Nat) (f:Nat) {xs:Option (List Nat)} {fuel:Nat} {listed:Array Bool} {F':Nat->PV} {L':Nat->Blk} {ps:List Prop} {az bs:List Nat} (next :Hv prog n N H0 Q xs all f (lst listed order) ks ⟨F',L'⟩) (hf:fuel=f+order.length:=by exact rfl) (hc:chkV n all order listed=true:=by kernel_rfl) (h:runV tbu xs all order fF fL [] [] []=some ⟨F',L',ps,az,bs⟩:=by exact rfl) (he:az=bs:=by exact rfl) (hp:AllP ps:=by repeat' (first|exact trivial|refine And.intro ?_ ?_|exact λhc=>hc|exact rfl|exact λhc=>rfl|omega|(intro hc;omega)|(intro hc;rw[hc];rfl))):Hv prog n N H0 Q xs all fuel listed ks ⟨fF,fL⟩:=gXy F_ order f next hf hc h he hp
theorem kG {G:Gb} {m:Nat} {f:FuncId} {fn:Func} {c:Code} {args:List PV} {res:PV} (hf:prog.funcs[f]? = some fn) (hn:fn.ntmps=m) (h:PV.wfs args->∀ N H,G.p H->Hd prog m N ⟨H,G⟩ (rtK tbu fn.results.toList res) (.code c) [] ⟨My_ args,λ_=> .no⟩) (hb:fn.body=some c:=by exact rfl) (hs:Nat.ble args.length m=true:=by exact rfl) (h1:(fn.name == "runtime.NumGoroutine")=false:=by kernel_rfl) (h2:fn.body.isNone=false:=by kernel_rfl) (hno:res.noOsl=true:=by exact rfl) (hna:Ct_ args=true:=by exact rfl):Fn prog G f args res:=fC hf F_ hn h hb hs h1 h2 hno hna
theorem kI {T ty d:Nat} {rest:List Oper} {pos:String} {af:Array Edge} {x y:Operand} {α:Type} {ti te:TI} {e:TypeId} {enc:α->List PV} {xs:List α} {kk:IntKind} {i:Int} (m:Nat) {a:α} (hm:xs[m]? = some a) (k:(PV.el (enc a) 0).wf->Hd prog n N H0 Q (.ops all rest) ks ⟨updp fF d (.el (enc a) 0),fL⟩) (hx:evP fF x = .sl enc xs:=by exact rfl) (hy:evP fF y = .int kk i:=by exact rfl) (hi:i=m:=by exact rfl) (hti:lkT tbu T=some ti:=by exact rfl) (htk:ti.k = .slc e:=by exact rfl) (hte:lkT tbu e=some te:=by exact rfl) (hsz:te.size=(enc a).length:=by exact rfl) (hd:Nat.blt d n=true:=by exact rfl):Hd prog n N H0 Q (.ops all (⟨some d, .indexAddr T x y,ty,pos,af,none⟩::rest)) ks ⟨fF,fL⟩:=q1 (qidx F_ m hx hy hi hm hti htk hte hsz) hd k
end
def gb:Gb:=⟨λH=>GInt H 1/\GPow H 0,λH H' hl h=>⟨h.1.mono hl,h.2.mono hl⟩⟩
theorem gbML {H:Hp} (h:gb.p H):GInt H 1:=h.1
theorem gbPow {H:Hp} (h:gb.p H):GPow H 0:=h.2
theorem r4_letter (c:Int):Fn prog gb 160 [.int .u8 c] (.bool (letter c)):=by
 refine kG func160 ntmps160 λw N H hG=>?_;refine kC 33 ?_;refine rt1 rfl rfl (ple ?_)
 simp[letter, *]
theorem Tx_ (s:Bs):Fn prog gb 164 [.str s] (.bool (plain s)):=by
 refine kG func164 ntmps164 λw N H hG=>?_;have s_l:s.length<=9223372036854775807:=w.1;refine kA 14 ?_;refine loop (ι:=Nat) [0,5,6] [] (λk=>[(7, .int .i64 (k:Int))]) (λk=>[]) (λk=>k<=s.length/\(s.drop k).all (λc=>letter c.toNat)=plain s) (λk=>s.length-k) 0 ⟨rfl,trivial⟩ trivial ?_ ?_
 . exact⟨by omega,rfl⟩
 rintro k hp1;obtain⟨hk1,hk2⟩:=hp1;refine kA 6 ?_;refine cn rfl (λp3=>?_) λp21=>?_
 . have :=u8r (s.getD k 0);refine kA 14 ?_;refine q1 (sidx F_ k rfl rfl rfl rfl rfl (by omega)) rfl λw4=>?_;refine kC 16 ?_;refine cnd rfl (λh5=>?_) (λh5=>?_)
   . have h6:=bl h5;have p7:=dt h6;have h8:=br h5;have p9:=dt h8;refine kA 2 ?_;refine cndT rfl h5 ?_;refine kC 8 ?_;refine next (k+1) rfl rfl ⟨rfl,trivial⟩ trivial ?_ ?_
     . omega
     exact⟨by omega,by rw[<- hk2,Kh_ (k:=k) (by omega),List.all_cons];generalize ((s.getD k 0).toNat:Int)=z at *;simp[letter, *]⟩
   refine kC 11 ?_;refine cnd rfl (λh10=>?_) (λh10=>?_)
   . have h11:=bl h10;have p12:=dt h11;have h13:=br h10;have p14:=dt h13;refine kA 2 ?_;refine cndT rfl h10 ?_;refine kC 8 ?_;refine next (k+1) rfl rfl ⟨rfl,trivial⟩ trivial ?_ ?_
     . omega
     exact⟨by omega,by rw[<- hk2,Kh_ (k:=k) (by omega),List.all_cons];generalize ((s.getD k 0).toNat:Int)=z at *;simp[letter, *]⟩
   refine kA 7 ?_;refine cnd rfl (λh15=>?_) (λh15=>?_)
   . have p16:=dt h15;refine kA 2 ?_;refine cndT rfl h15 ?_;refine kC 8 ?_;refine next (k+1) rfl rfl ⟨rfl,trivial⟩ trivial ?_ ?_
     . omega
     exact⟨by omega,by rw[<- hk2,Kh_ (k:=k) (by omega),List.all_cons];generalize ((s.getD k 0).toNat:Int)=z at *;simp[letter, *]⟩
   have p17:=df h15;refine kA 6 ?_;refine cn rfl (λp19=>?_) λp20=>?_
   . refine kC 8 ?_;refine next (k+1) rfl rfl ⟨rfl,trivial⟩ trivial ?_ ?_
     . omega
     exact⟨by omega,by rw[<- hk2,Kh_ (k:=k) (by omega),List.all_cons];generalize ((s.getD k 0).toNat:Int)=z at *;simp[letter, *]⟩
   refine kA 12 ?_;refine rt1 rfl rfl (ple ?_);refine congrArg PV.bool ?_;first|(rw[<- hk2,Kh_ (k:=k) (by omega),List.all_cons];generalize ((s.getD k 0).toNat:Int)=z at *;simp[letter, *];done)|(rw[<- hk2,List.drop_of_length_le (by omega)];rfl)
 refine kA 11 ?_;refine rt1 rfl rfl (ple ?_);refine congrArg PV.bool ?_;first|(rw[<- hk2,Kh_ (k:=k) (by omega),List.all_cons];generalize ((s.getD k 0).toNat:Int)=z at *;simp[letter, *];done)|(rw[<- hk2,List.drop_of_length_le (by omega)];rfl)
theorem Es_ (s:Bs):Fn prog gb 91 [.str s] (.int .i64 (Et_ s)):=by
 refine kG func91 ntmps91 λw N H hG=>?_;refine kA 14 ?_;refine cn rfl (λp2=>?_) λp3=>?_
 . refine kA 8 ?_;refine rt1 rfl rfl (ple ?_)
   simp[Et_, *]<;>omega
 refine kA 8 ?_;refine cn rfl (λp5=>?_) λp6=>?_
 . refine kA 8 ?_;refine rt1 rfl rfl (ple ?_)
   simp[Et_, *]<;>omega
 refine kA 3 ?_;refine call (Tx_ _) rfl rfl λw7=>?_;refine kA 4 ?_;refine cnd rfl (λh8=>?_) (λh8=>?_)
 . have h9:=Ek_ h8;refine kA 8 ?_;refine rt1 rfl rfl (ple ?_)
   simp[Et_, *]<;>omega
 have h10:=Di_ h8;refine kA 9 ?_;refine rt1 rfl rfl (ple ?_)
 simp[Et_, *]<;>omega
theorem cb52:An_ prog 52:=Ad_ func52 (by kernel_rfl) (by kernel_rfl)
theorem out_Num (o:Out) (n bytes:Int) (hlen:o.s.length<=4611686018427387904):Fn prog gb 52 [.agg (Out.pc o), .int .u64 n, .int .i64 bytes] (.agg (Out.pc (B_ o n bytes))):=
 fn_of_pr (vs:=[.agg [str o.s, .int .i64 o.err].toArray, .int .u64 n, .int .i64 bytes]) (v:= .agg [str (B_ o n bytes).s, .int .i64 (B_ o n bytes).err].toArray) cb52 rfl rfl
   (λw H=>Sims.cons (Sim.toAgg (Sims.cons (Sim.str w.1.1) (Sims.cons (Sim.int w.1.2.1.1 w.1.2.1.2) Sims.nil))) (Sims.cons (Sim.int w.2.1.1 w.2.1.2) (Sims.cons (Sim.int w.2.2.1.1 w.2.2.1.2) Sims.nil)))
   (λw H=>Sim.toAgg (Sims.cons (Sim.str (by have :=R_ o n bytes;omega)) (Sims.cons (Sim.int w.1.2.1.1 w.1.2.1.2) Sims.nil)))
   (λw H hG=>SW.out_Num H o n w.2.1 bytes w.2.2.1 hlen)
theorem Ja_ (o:Out) (s:Bs) (hlen:o.s.length+s.length<=4611686018427387904:=by ((try have :=hrl (by assumption));first|omega|(simp[B_,Ao_,Aw_,numK]<;>omega))):Fn prog gb 56 [.agg (Out.pc o), .str s] (.agg (Out.pc (Ao_ o s))):=by
 refine kG func56 ntmps56 λw N H hG=>?_;refine gmp F_ 23 [0,1] (λ_=>rfl) (λ_=>rfl) (λ_=>⟨(by first|omega|(simp<;>omega)),trivial⟩) λB2=>?_;refine rt1 rfl rfl (ple ?_)
 rfl
theorem Dp_ (o:Out):Fn prog gb 59 [.agg (Out.pc o)] (.str o.s):=by
 refine kG func59 ntmps59 λw N H hG=>?_;refine kB 14 [0] λB2=>?_;refine rt1 rfl rfl (ple ?_)
 rfl
theorem Dv_ (o:Out) (s:Bs) (hlen:o.s.length+s.length<=4611686018427386000:=by ((try have :=hrl (by assumption));first|omega|(simp[B_,Ao_,Aw_,numK]<;>omega))):Fn prog gb 53 [.agg (Out.pc o), .str s] (.agg (Out.pc (H_ o s))):=by
 refine kG func53 ntmps53 λw N H hG=>?_;refine kB 14 [0,1] λB2=>?_;refine cn rfl (λp5=>?_) λp11=>?_
 . refine kA 8 ?_;refine cn rfl (λp7=>?_) λp9=>?_
   . refine kB 13 [] λ_=>?_;refine rt1 rfl rfl (ple ?_)
     simp[H_,Out.pc, *]
   refine kB 10 [] λ_=>?_;refine rt1 rfl rfl (ple ?_)
   simp[H_,Out.pc, *]
 refine kA 7 ?_;refine q1 (qconv F_ rfl rfl rfl rfl (Kp_ (by omega))) rfl λw12=>?_;refine call (out_Num _ _ _ (by ((try have :=hrl (by assumption));first|omega|(simp[B_,Ao_,Aw_,numK]<;>omega)))) rfl rfl λw13=>?_;have :=R_ o (s.length:Int) 2;refine kA 1 ?_;refine call (Ja_ _ _) rfl rfl λw14=>?_;have :=Ec_ (B_ o (s.length:Int) 2) s;refine kB 4 [] λ_=>?_;refine rt1 rfl rfl (ple ?_)
 simp[H_,Out.pc, *]
theorem cb122:An_ prog 122:=Ad_ func122 (by kernel_rfl) (by kernel_rfl)
theorem cb44:An_ prog 44:=Ad_ func44 (by kernel_rfl) (by kernel_rfl)
theorem cb47:An_ prog 47:=Ad_ func47 (by kernel_rfl) (by kernel_rfl)
theorem Td_ (s:Bs):Fb prog gb 44 [.str s] 211 (In.pc (⟨s,0⟩)):=by
 refine fb_cw F_ func44 rfl ntmps44 rfl cb44 rfl rfl λw N H hG=>?_;refine kB 14 [0] λB2=>?_;refine rb rfl rfl rfl rfl rfl ?_;exact ples_rfl
theorem H5_ (i:In) (code:Int):Fm prog gb 122 [.int .i64 code] 211 (In.pc i) (.tup []) (In.pc (Bl_ i code)):=by
 refine P5_ F_ func122 rfl ntmps122 rfl cb122 rfl rfl rfl rfl λw wp b N H hG=>?_;refine kA 3 ?_;refine q1 (qpne underlying122 rfl rfl) rfl λw1=>?_;refine kC 13 ?_;refine cnd rfl (λh2=>?_) (λh2=>?_)
 . have h3:=bl h2;have h4:=bl h3;have h5:=br h3;have p6:=dt h5;have h7:=br h2;have h8:=Ek_ h7;have p9:=df h8;refine kB 11 [] λ_=>?_;refine rm0n rfl rfl ?_ rfl rfl rfl ?_
   . exact ple (by first|rfl|(simp[Bl_, *];done))
   refine ples ?_
   first|rfl|(simp[Bl_,In.pc, *];done)|(simp only[Bl_];split<;>simp_all [In.pc])
 refine kA 1 ?_;refine rm0n rfl rfl ?_ rfl rfl rfl ?_
 . exact ple (by first|rfl|(simp[Bl_, *];done))
 refine ples ?_
 first|rfl|(simp[Bl_,In.pc, *];done)|(simp only[Bl_];split<;>simp_all [In.pc])
theorem Uj_ (i:In) (n:Int):Fm prog gb 47 [.int .i64 n] 211 (In.pc i) (.str ((Fg_ i n).1)) (In.pc ((Fg_ i n).2)):=by
 refine P5_ F_ func47 rfl ntmps47 rfl cb47 rfl rfl rfl rfl λw wp b N H hG=>?_;refine kA 11 ?_;refine q1 (qpeq underlying122 rfl rfl) rfl λw1=>?_;refine kA 14 ?_;refine cnd rfl (λh2=>?_) (λh2=>?_)
 . have h3:=Ek_ h2;have p4:=df h3;refine kA 2 ?_;refine cndT rfl h2 ?_;refine kA 8 ?_;refine rm1 rfl rfl ?_ rfl rfl rfl ?_
   . exact ple (by first|rfl|(simp[Fg_,Bl_, *];done))
   refine ples ?_
   first|rfl|(simp[Fg_,Bl_,In.pc, *];done)|(simp only[Fg_,Bl_];split<;>simp_all [In.pc])
 have h5:=Di_ h2;have p6:=dt h5;refine kA 6 ?_;refine cn rfl (λp8=>?_) λp9=>?_
 . refine kA 8 ?_;refine rm1 rfl rfl ?_ rfl rfl rfl ?_
   . exact ple (by first|rfl|(simp[Fg_,Bl_, *];done))
   refine ples ?_
   first|rfl|(simp[Fg_,Bl_,In.pc, *];done)|(simp only[Fg_,Bl_];split<;>simp_all [In.pc])
 refine kA 12 ?_;refine cn rfl (λp11=>?_) λp13=>?_
 . refine kA 3 ?_;refine ef (ecallm (H5_ _ _) rfl rfl rfl rfl rfl λw12 w12p=>?_);refine kA 10 ?_;refine rm1 rfl rfl ?_ rfl rfl rfl ?_
   . exact ple (by first|rfl|(simp[Fg_,Bl_, *];done))
   refine ples ?_
   first|rfl|(simp[Fg_,Bl_,In.pc, *];done)|(simp only[Fg_,Bl_];split<;>simp_all [In.pc])
 refine kA 10 ?_;refine q1 (sshi F_ (n).toNat rfl rfl rfl rfl (by omega) (by omega)) rfl λw14=>?_;refine kA 11 ?_;refine q1 (sslo F_ (n).toNat rfl rfl rfl rfl (by omega) (by omega)) rfl λw15=>?_;refine kB 12 [] λ_=>?_;refine rm1 rfl rfl ?_ rfl rfl rfl ?_
 . exact ple (by first|rfl|(simp[Fg_,Bl_, *];done))
 refine ples ?_
 first|rfl|(simp[Fg_,Bl_,In.pc, *];done)|(simp only[Fg_,Bl_];split<;>simp_all [In.pc])
theorem cb284:An_ prog 284:=Ad_ func284 (by kernel_rfl) (by kernel_rfl)
theorem strings_Split (s p:Bs) (hp:p=[46]) (hs:s.length<4294967281):Fn prog gb 284 [.str s, .str p] (.sl strc (dots s)):=
 ⟨cb284,rfl,λN H L w us hg hsim hm=>by
   obtain⟨v1,_,rfl,h1,h2⟩:=hsim.inv_cons;obtain⟨v2,_,rfl,h3,h4⟩:=h2.inv_cons
   cases h4.inv_nil
   rw[h1.inv_str.1,h3.inv_str.1]
   refine (SW.strings_Split H s p hp (gbML hg) hs N L w hm).mono λ_ _ ⟨v,H',h5,⟨a,c,h6,h7⟩,h8,h9⟩=>⟨v,H',h5,?_,h8,h9⟩
   rw[h6]
   exact Sim.of_slh (k:=1) ⟨h7.1,λm hm=>by
     obtain⟨cs,hE,hat⟩:=h7.2 m hm;obtain⟨hE1,hE2⟩:=hE;subst hE1;exact⟨_,⟨rfl,Sims.nil.cons (Sim.str hE2),λu hu=>by simp at hu;subst hu;rfl⟩,hat⟩⟩ (by have :=dots_le s;omega)⟩
theorem Ox_ (s:Bs) (hs:s.length<4294967281:=by omega):Fn prog gb 268 [.str s] (.sl strc (Dn_ s)):=by
 refine kG func268 ntmps268 λw N H hG=>?_;refine kA 12 ?_;refine cn rfl (λp2=>?_) λp3=>?_
 . refine kA 7 ?_;refine rt1 rfl rfl ?_;refine Jf_ ?_
   simp[Dn_, *]
 refine kA 5 ?_;refine call (strings_Split _ _ (by rfl) (by omega)) rfl rfl λw4=>?_;refine kA 4 ?_;refine rt1 rfl rfl (ple ?_)
 simp[Dn_, *]
theorem Zl_ (s:Bs) (besides:List Bs):Fn prog gb 224 [.str s, .sl strc besides] (.int .i64 (keyE besides s)):=by
 refine kG func224 ntmps224 λw N H hG=>?_;have s_l:s.length<=9223372036854775807:=w.1;have besides_l:besides.length<=140737488355328:=w.2.1.1;refine kA 14 ?_;refine cn rfl (λp2=>?_) λp3=>?_
 . refine kA 8 ?_;refine rt1 rfl rfl (ple ?_)
   simp[keyE, *]
 refine kA 9 ?_;refine call (Ox_ _) rfl rfl λw4=>?_;refine kA 5 ?_;refine loop (ι:=Nat) [0,1,9,10,11,12,13,14] [] (λk=>[(15, .int .i64 (k:Int))]) (λk=>[]) (λk=>k<=(Dn_ s).length/\(Dn_ s).any (V1_ besides)=((Dn_ s).drop k).any (V1_ besides)) (λk=>(Dn_ s).length-k) 0 ⟨rfl,trivial⟩ trivial ?_ ?_
 . exact⟨Nat.zero_le _,by simp⟩
 rintro k hp5;obtain⟨hk1,hk2⟩:=hp5;have hwl:=Wz_ s;refine kA 6 ?_;refine cn rfl (λp7=>?_) λp26=>?_
 . obtain⟨c8,hc9⟩:=getE (xs:=Dn_ s) (m:=k) (by omega);have c8_l:c8.length<=9223372036854775807:=(w4.2 c8 (List.mem_of_getElem? hc9)).1;refine kA 6 ?_;refine kI k hc9 λw10=>?_;refine kA 13 ?_;refine loop (ι:=Nat) [0,1,6,9,10,11,12,13,14,15,16,17,18,19,20] [] (λj=>[(21, .int .i64 (j:Int))]) (λj=>[]) (λj=>j<=besides.length/\besides.contains c8=(besides.drop j).contains c8) (λj=>besides.length-j) 0 ⟨rfl,trivial⟩ trivial ?_ ?_
   . exact⟨Nat.zero_le _,by simp⟩
   rintro j hp11;obtain⟨hj1,hj2⟩:=hp11;refine kA 6 ?_;refine cn rfl (λp13=>?_) λp20=>?_
   . obtain⟨c14,hc15⟩:=getE (xs:=besides) (m:=j) (by omega);have c14_l:c14.length<=9223372036854775807:=(w.2.1.2 c14 (List.mem_of_getElem? hc15)).1;refine kA 6 ?_;refine kI j hc15 λw16=>?_;refine kA 11 ?_;refine cn rfl (λp18=>?_) λp19=>?_
     . refine kC 12 ?_;refine next (k+1) rfl rfl ⟨rfl,trivial⟩ trivial ?_ ?_
       . omega
       refine⟨by omega,?_⟩
       rw[hk2,Eg_ hc9,List.any_cons]
       have hb:V1_ besides c8=false:=by
         unfold V1_
         rw[hj2,Eg_ hc15]
         first|(simp[*];done)|simp_all
       simp[hb]
     refine kC 7 ?_;refine next (j+1) rfl rfl ⟨rfl,trivial⟩ trivial ?_ ?_
     . omega
     refine⟨by omega,?_⟩
     rw[hj2,Eg_ hc15,List.contains_cons]
     simp[*]
   refine kA 11 ?_;refine callg rfl (λhc=>(Tx_ _)) rfl ⟨(λhc=>hc),trivial⟩ rfl rfl λ_=>?_;refine kC 4 ?_;refine cnd rfl (λh21=>?_) (λh21=>?_)
   . refine kA 12 ?_;refine rt1 rfl rfl (ple ?_);have hb:V1_ besides c8=true:=by
       unfold V1_
       rw[hj2,List.drop_of_length_le (by omega)]
       first|(simp[*];done)|simp_all
     unfold keyE
     rw[if_neg (by omega),hk2,Eg_ hc9,List.any_cons,hb]
     rfl
   have h22:=orl h21;have p23:=df h22;have h24:=orr h21;have h25:=Di_ h24;refine kC 7 ?_;refine next (k+1) rfl rfl ⟨rfl,trivial⟩ trivial ?_ ?_
   . omega
   refine⟨by omega,?_⟩
   rw[hk2,Eg_ hc9,List.any_cons]
   have hb:V1_ besides c8=false:=by
     unfold V1_
     rw[hj2,List.drop_of_length_le (by omega)]
     first|(simp[*];done)|simp_all
   simp[hb]
 refine kA 12 ?_;refine rt1 rfl rfl (ple ?_)
 unfold keyE
 rw[if_neg (by omega),hk2,List.drop_of_length_le (by omega)]
 rfl
theorem Zk_ (s:Bs):Fn prog gb 166 [.str s] (.int .i64 (keyE [] s)):=by
 refine kG func166 ntmps166 λw N H hG=>?_;refine kA 8 ?_;refine call (Fn.le (Zl_ _ []) (A_ (ple rfl) (A_ Aq_ A8_)) (ple rfl) rfl) rfl rfl λw1=>?_;refine kA 4 ?_;refine rt1 rfl rfl (ple ?_)
 rfl
theorem ag2:Ag prog 2 false:=λw=>by kernel_rfl
theorem ag5:Ag prog 5 false:=λw=>by kernel_rfl
theorem ag9:Ag prog 9 false:=λw=>by kernel_rfl
theorem eqg225:prog.eqGuardType prog.depth 225=false:=by kernel_rfl
theorem mixd:prog.follows .mixedOrders=true:=by kernel_rfl
theorem veq225 (p q:Pair):∀ (H:Hp) (vs us:List Value),Sims H (Pair.pc p) vs->Sims H (Pair.pc q) us->EqV prog 10000 225 (.agg vs.toArray) (.agg us.toArray) (decide (p=q)):=by
 intro H vs us hv hu;obtain⟨_,_,rfl,v0,v_0⟩:=hv.inv_cons;obtain⟨_,_,rfl,v1,v_1⟩:=v_0.inv_cons;obtain⟨_,_,rfl,v2,v_2⟩:=v_1.inv_cons;obtain⟨_,_,rfl,v3,v_3⟩:=v_2.inv_cons
 cases v_3.inv_nil
 cases v0.inv_str.1;cases v1.inv_int.1;cases v2.inv_int.1;cases v3.inv_str.1
 obtain⟨_,_,rfl,u0,u_0⟩:=hu.inv_cons;obtain⟨_,_,rfl,u1,u_1⟩:=u_0.inv_cons;obtain⟨_,_,rfl,u2,u_2⟩:=u_1.inv_cons;obtain⟨_,_,rfl,u3,u_3⟩:=u_2.inv_cons
 cases u_3.inv_nil
 cases u0.inv_str.1;cases u1.inv_int.1;cases u2.inv_int.1;cases u3.inv_str.1
 exact EqV.to' (I5_ underlying225 (by kernel_rfl) (H6_ (by decide) ag9 rfl rfl (Oh_ underlying9) (H6_ (by decide) ag5 rfl rfl (C8_ underlying5) (H6_ (by decide) ag2 rfl rfl (C8_ underlying2) (H6_ (by decide) ag9 rfl rfl (Oh_ underlying9) I4_))))) (by obtain⟨a0,a1,a2,a3⟩:=p;obtain⟨b0,b1,b2,b3⟩:=q;rw[Bool.eq_iff_iff];simp)
theorem eq_Pair (a:List Pair) (b:List Pair):Fn prog gb 250 [.sl Pair.pc a, .sl Pair.pc b] (.bool (decide (a=b))):=by
 refine kG func250 ntmps250 λw N H hG=>?_;have a_l:a.length<=140737488355328:=w.1.1;have b_l:b.length<=140737488355328:=w.2.1.1;refine kA 15 ?_;refine cnd rfl (λh1=>?_) (λh1=>?_)
 . have h2:=Ek_ h1;have p3:=df h2;refine kA 7 ?_;refine rt1 rfl rfl (ple ?_);exact congrArg PV.bool (Rx_ (by assumption)).symm
 have h4:=Di_ h1;have p5:=dt h4;refine kA 11 ?_;refine loop (ι:=Nat) [0,1,6,7,8,9,10,11,12] [] (λk=>[(13, .int .i64 (k:Int))]) (λk=>[]) (λk=>k<=a.length /\ decide (a=b) = decide (a.drop k=b.drop k)) (λk=>a.length-k) 0 ⟨rfl,trivial⟩ trivial ?_ ?_
 . exact⟨Nat.zero_le _,rfl⟩
 rintro k hp6;obtain⟨hk1,hk2⟩:=hp6;refine kA 6 ?_;refine cnd rfl (λh7=>?_) (λh7=>?_)
 . have p8:=dt h7;refine kA 11 ?_;refine aN [0,1,2,3,4,5] 9 mixd ?_;refine kE [0,1] 7 ?_;obtain⟨c9,hc10⟩:=getE (xs:=a) (m:=k) (by omega);have c9_w:=Pair.pwf (w.1.2 c9 (List.mem_of_getElem? hc10));refine vq 2 (qidx F_ k rfl rfl rfl hc10 rfl rfl rfl rfl) rfl (by kernel_rfl) rfl λw11=>?_;refine kE [3,4,5] 3 ?_;obtain⟨c12,hc13⟩:=getE (xs:=b) (m:=k) (by omega);have c12_w:=Pair.pwf (w.2.1.2 c12 (List.mem_of_getElem? hc13));refine vq 6 (qidx F_ k rfl rfl rfl hc13 rfl rfl rfl rfl) rfl (by kernel_rfl) rfl λw14=>?_;refine kE [7] 1 ?_;refine vq 8 (sane rfl rfl eqg225 (veq225 c9 c12)) rfl (by kernel_rfl) rfl λw15=>?_;refine vD ?_;refine kA 1 ?_;refine cnd rfl (λh16=>?_) (λh16=>?_)
   . have h17:=Ek_ h16;have p18:=df h17;refine kA 11 ?_;refine rt1 rfl rfl (ple ?_);exact congrArg PV.bool (O3_ hk2 (Eg_ hc10) (Eg_ hc13) (by assumption)).symm
   have h19:=Di_ h16;have p20:=dt h19;refine kC 7 ?_;refine next (k+1) rfl rfl ⟨rfl,trivial⟩ trivial ?_ ?_
   . omega
   exact⟨by omega,O4_ hk2 (Eg_ hc10) (Eg_ hc13) (by assumption)⟩
 have p21:=df h7;refine kA 11 ?_;refine rt1 rfl rfl (ple ?_);exact congrArg PV.bool (Rw_ hk2 (by omega) (by omega)).symm
theorem Xk_ (a:List Pair) (b:List Pair):Fn prog gb 222 [.sl Pair.pc a, .sl Pair.pc b] (.bool (decide (a=b))):=by
 refine kG func222 ntmps222 λw N H hG=>?_;refine kA 9 ?_;refine call (eq_Pair _ _) rfl rfl λw1=>?_;refine kA 4 ?_;refine rt1 rfl rfl (ple ?_)
 rfl
theorem idxF_Pair (s:List Pair) (f:FuncId) (f_fst f_cap:List PV) (f_p:Pair->Bool) (f_h:∀ x,Fn prog gb f (argsP.apL f_fst ((.agg (Pair.pc x))::f_cap)) (.bool (f_p x))):Fn prog gb 266 [.sl Pair.pc s, .fn f f_fst f_cap] (.int .i64 (idxP f_p s)):=by
 refine kG func266 ntmps266 λw N H hG=>?_;have s_l:s.length<=140737488355328:=w.1.1;refine kA 14 ?_;refine loop (ι:=Nat) [0,1,6,7] [] (λk=>[(8, .int .i64 (k:Int))]) (λk=>[]) (λk=>k<=s.length/\idxP f_p s=idxF f_p k (s.drop k)) (λk=>s.length-k) 0 ⟨rfl,trivial⟩ trivial ?_ ?_
 . exact⟨Nat.zero_le _,rfl⟩
 rintro k hp1;obtain⟨hk1,hk2⟩:=hp1;refine kA 6 ?_;refine cnd rfl (λh2=>?_) (λh2=>?_)
 . have p3:=dt h2;obtain⟨c4,hc5⟩:=getE (xs:=s) (m:=k) (by omega);have c4_w:=Pair.pwf (w.1.2 c4 (List.mem_of_getElem? hc5));refine kA 15 ?_;refine kI k hc5 λw6=>?_;refine kA 1 ?_;refine call (f_h c4) rfl rfl λw7=>?_;refine kA 2 ?_;refine cnd rfl (λh8=>?_) (λh8=>?_)
   . refine kA 12 ?_;refine rt1 rfl rfl (ple ?_);exact congrArg (PV.int .i64) (L8_ hk2 (Eg_ hc5) (by assumption)).symm
   refine kC 7 ?_;refine next (k+1) rfl rfl ⟨rfl,trivial⟩ trivial ?_ ?_
   . omega
   exact⟨by omega,J4_ hk2 (Eg_ hc5) (by assumption)⟩
 have p9:=df h2;refine kA 11 ?_;refine rt1 rfl rfl (ple ?_);exact congrArg (PV.int .i64) (L7_ hk2 (by omega)).symm
theorem head_Find1 (p:Pair) (key:Bs):Fn prog gb 267 [.agg (Pair.pc p), .el [.str key] 0] (.bool (decide (p.key=key))):=by
 refine kG func267 ntmps267 λw N H hG=>?_;refine kB 16 [0] λB2=>?_;refine rt1 rfl rfl (ple ?_)
 rfl
theorem Xi_ (h:List Pair) (key:Bs):Fn prog gb 223 [.sl Pair.pc h, .str key] (.tup [.agg (Pair.pc ((T0_ h key).getD Pair.zero)), .bool ((T0_ h key).isSome)]):=by
 refine kG func223 ntmps223 λw N H hG=>?_;refine kB 10 [0,1] λB2=>?_;refine freeze (i:=0) (t:=3) rfl rfl rfl rfl ?_;refine kA 1 ?_;refine call (idxF_Pair _ _ _ _ (λz_4:Pair=>decide (z_4.key=key)) (λz_4=>head_Find1 z_4 key)) rfl rfl λw5=>?_;have hix5:=Hg_ (λz_4:Pair=>decide (z_4.key=key)) h;refine kA 10 ?_;refine cn rfl (λp7=>?_) λp9=>?_
 . refine kB 9 [] λ_=>?_;refine rt2 rfl rfl ?_;refine ple ?_;have e:=O7_ (by assumption);have e2:T0_ h key=none:=by unfold T0_;rw[<- e];congr 1;funext x;exact S0_ _ _
   rw[e2];rfl
 obtain⟨c10,hc11⟩:=getE (xs:=h) (m:=(idxP (λz_4:Pair=>decide (z_4.key=key)) h).toNat) (by omega);have c10_w:=Pair.pwf (w.1.2 c10 (List.mem_of_getElem? hc11));refine kA 6 ?_;refine q1 (qidx F_ (idxP (λz_4:Pair=>decide (z_4.key=key)) h).toNat rfl rfl (by omega) hc11 rfl rfl rfl rfl) rfl λw12=>?_;refine kB 6 [] λ_=>?_;refine rt2 rfl rfl ?_;refine ple ?_;have e:=(idxP_get (by assumption) hc11).2;have e2:T0_ h key=some c10:=by unfold T0_;rw[<- e];congr 1;funext x;exact S0_ _ _
 rw[e2];rfl
theorem Sd_ (p:Pair) (ahead:List Pair):Fn prog gb 165 [.agg (Pair.pc p), .sl Pair.pc ahead] (.int .i64 (Ed_ p ahead)):=by
 refine kG func165 ntmps165 λw N H hG=>?_;refine kB 11 [0] λB2=>?_;refine call (Es_ _) rfl rfl λw3=>?_;refine kA 9 ?_;refine cnd rfl (λh4=>?_) (λh4=>?_)
 . have h5:=Ek_ h4;have p6:=df h5;refine kA 8 ?_;refine rt1 rfl rfl (ple ?_);refine congrArg (PV.int .i64) ?_
   simp only[bl1] at *
   unfold Ed_
   (repeat' split)<;>first|rfl|(exfalso;omega)|(exfalso;simp_all;done)|(exfalso;simp_all;omega)|grind
 have h7:=Di_ h4;have p8:=dt h7;refine kA 7 ?_;refine call (Xi_ _ _) rfl rfl λw9=>?_;refine kB 18 [1] λB11=>?_;refine cnd rfl (λh12=>?_) (λh12=>?_)
 . have p13:=dt h12;refine kA 8 ?_;refine rt1 rfl rfl (ple ?_);refine congrArg (PV.int .i64) ?_
   simp only[bl1] at *
   unfold Ed_
   (repeat' split)<;>first|rfl|(exfalso;omega)|(exfalso;simp_all;done)|(exfalso;simp_all;omega)|grind
 have p14:=df h12;refine kC 14 ?_;refine cnd rfl (λh15=>?_) (λh15=>?_)
 . have h16:=bl h15;have p17:=dt h16;have h18:=br h15;have p19:=dt h18;refine kA 8 ?_;refine rt1 rfl rfl (ple ?_);refine congrArg (PV.int .i64) ?_
   simp only[bl1] at *
   unfold Ed_
   (repeat' split)<;>first|rfl|(exfalso;omega)|(exfalso;simp_all;done)|(exfalso;simp_all;omega)|grind
 refine kC 18 ?_;refine cnd rfl (λh20=>?_) (λh20=>?_)
 . have h21:=bl h20;have h22:=bl h21;have p23:=dt h22;have h24:=br h21;have h25:=Ek_ h24;have p26:=df h25;have h27:=br h20;have h28:=Ek_ h27;have p29:=df h28;refine kA 8 ?_;refine rt1 rfl rfl (ple ?_);refine congrArg (PV.int .i64) ?_
   simp only[bl1] at *
   unfold Ed_
   (repeat' split)<;>first|rfl|(exfalso;omega)|(exfalso;simp_all;done)|(exfalso;simp_all;omega)|grind
 refine kC 14 ?_;refine cnd rfl (λh30=>?_) (λh30=>?_)
 . have h31:=bl h30;have p32:=dt h31;have h33:=br h30;have h34:=Ek_ h33;have p35:=df h34;refine kA 2 ?_;refine cndT rfl h30 ?_;refine kA 8 ?_;refine rt1 rfl rfl (ple ?_);refine congrArg (PV.int .i64) ?_
   simp only[bl1] at *
   unfold Ed_
   (repeat' split)<;>first|rfl|(exfalso;omega)|(exfalso;simp_all;done)|(exfalso;simp_all;omega)|grind
 refine kC 12 ?_;refine cnd rfl (λh36=>?_) (λh36=>?_)
 . have h37:=bl h36;have h38:=Ek_ h37;have p39:=df h38;have h40:=br h36;have h41:=Ek_ h40;have p42:=df h41;refine kA 8 ?_;refine rt1 rfl rfl (ple ?_);refine congrArg (PV.int .i64) ?_
   simp only[bl1] at *
   unfold Ed_
   (repeat' split)<;>first|rfl|(exfalso;omega)|(exfalso;simp_all;done)|(exfalso;simp_all;omega)|grind
 refine kA 6 ?_;refine cnd rfl (λh43=>?_) (λh43=>?_)
 . refine kA 8 ?_;refine rt1 rfl rfl (ple ?_);refine congrArg (PV.int .i64) ?_
   simp only[bl1] at *
   unfold Ed_
   (repeat' split)<;>first|rfl|(exfalso;omega)|(exfalso;simp_all;done)|(exfalso;simp_all;omega)|grind
 refine kA 9 ?_;refine rt1 rfl rfl (ple ?_);refine congrArg (PV.int .i64) ?_
 simp only[bl1] at *
 unfold Ed_
 (repeat' split)<;>first|rfl|(exfalso;omega)|(exfalso;simp_all;done)|(exfalso;simp_all;omega)|grind
theorem Ka_ (h:List Pair):Fn prog gb 94 [.sl Pair.pc h] (.int .i64 (Gq_ h)):=by
 refine kG func94 ntmps94 λw N H hG=>?_;refine kA 13 ?_;refine cn rfl (λp2=>?_) λp3=>?_
 . refine kA 7 ?_;refine rt1 rfl rfl (ple ?_)
   simp[Gq_, *]
 refine kA 11 ?_;refine loop (ι:=Nat) [0,6,7,8,9,10] [] (λk=>[(11, .int .i64 (k:Int))]) (λk=>[]) (λk=>k<=h.length/\J0_ [] h=J0_ (h.take k) (h.drop k)) (λk=>h.length-k) 0 ⟨rfl,trivial⟩ trivial ?_ ?_
 . exact⟨Nat.zero_le _,rfl⟩
 rintro k hp4;obtain⟨hk1,hk2⟩:=hp4;refine kA 6 ?_;refine cn rfl (λp6=>?_) λp19=>?_
 . obtain⟨c7,hc8⟩:=getE (xs:=h) (m:=k) (by omega);have c7_w:=Pair.pwf (w.1.2 c7 (List.mem_of_getElem? hc8));refine kA 7 ?_;refine kI k hc8 λw9=>?_;refine kB 7 [0] λB11=>?_;refine aN [1,2,3,4,5,6] 6 mixd ?_;refine kE [0,1,2] 3 ?_;refine vq 3 (lshi F_ k rfl rfl rfl rfl rfl (λ_=>rfl) rfl (by omega)) rfl (by kernel_rfl) rfl λw12=>?_;refine vC 4 rfl (Sd_ _ _) rfl λw13=>?_;have :=Pr_ c7 (h.take k);refine kE [5] 0 ?_;refine vD ?_;refine kA 7 ?_;refine cnd rfl (λh14=>?_) (λh14=>?_)
   . have h15:=Ek_ h14;have p16:=df h15;refine kA 12 ?_;refine rt1 rfl rfl (ple ?_)
     unfold Gq_
     rw[if_neg (by omega),hk2,Eg_ hc8]
     simp only[J0_]
     rw[if_pos (by omega)]
   have h17:=Di_ h14;have p18:=dt h17;refine kC 7 ?_;refine next (k+1) rfl rfl ⟨rfl,trivial⟩ trivial ?_ ?_
   . omega
   refine⟨by omega,?_⟩
   rw[hk2,Eg_ hc8,takeE hc8]
   simp only[J0_]
   rw[if_neg (by omega)]
 refine kA 11 ?_;refine rt1 rfl rfl (ple ?_)
 unfold Gq_
 rw[if_neg (by omega),hk2,List.drop_of_length_le (by omega)]
 rfl
theorem Vh_ (a:Q_) (b:Q_):Fn prog gb 162 [.agg (Q_.pc a), .agg (Q_.pc b)] (.bool (decide (a=b))):=by
 refine kG func162 ntmps162 λw N H hG=>?_;refine kD 40 [0,1] λB2=>?_;refine callg rfl (λhc=>(Xk_ _ _)) rfl ⟨(λhc=>hc),(λhc=>hc),trivial⟩ rfl rfl λ_=>?_;refine kC 12 ?_;refine rt1 rfl rfl (ple ?_);exact congrArg PV.bool (by rw[Bool.eq_iff_iff];first|(simp[Q_.eq_iff,and_assoc];done)|(simp[Q_.eq_iff];grind))
theorem Q6_ (yes:Bool):Fn prog gb 291 [.bool yes] (.int .u64 (bitN yes)):=by
 refine kG func291 ntmps291 λw N H hG=>?_;refine kA 11 ?_;refine cnd rfl (λh1=>?_) (λh1=>?_)
 . refine kA 7 ?_;refine rt1 rfl rfl (ple ?_)
   simp only[bitN, *];rfl
 refine kA 8 ?_;refine rt1 rfl rfl (ple ?_)
 simp only[bitN, *];rfl
theorem cb117:An_ prog 117:=Ad_ func117 (by kernel_rfl) (by kernel_rfl)
theorem cb118:An_ prog 118:=Ad_ func118 (by kernel_rfl) (by kernel_rfl)
theorem cb124:An_ prog 124:=Ad_ func124 (by kernel_rfl) (by kernel_rfl)
theorem cb48:An_ prog 48:=Ad_ func48 (by kernel_rfl) (by kernel_rfl)
theorem cb50:An_ prog 50:=Ad_ func50 (by kernel_rfl) (by kernel_rfl)
theorem E2_ (i:In) (bytes:Int):Fm prog gb 48 [.int .i64 bytes] 211 (In.pc i) (.int .u64 (((Y_ i bytes)).1)) (In.pc (((Y_ i bytes)).2)):=by
 refine P5_ F_ func48 rfl ntmps48 rfl cb48 rfl rfl rfl rfl λw wp b N H hG=>?_;have hb0:=O8_ i (min bytes 8);refine kA 16 ?_;refine ef (ecallm (Uj_ _ (min bytes 8)) rfl rfl rfl rfl rfl λw1 w1p=>?_);refine ef (ss2b F_ rfl rfl rfl rfl rfl rfl rfl (by omega) rfl ?_);refine kA 5 ?_;refine loop (ι:=Nat) [0,1,4,8,9,10,11,12,13] [0] (λk=>[(5, .int .u64 (beN ((Fg_ i (min bytes 8)).1.take k):Int)),(14, .int .i64 (k:Int))]) (λk=>[]) (λk=>k<=(Fg_ i (min bytes 8)).1.length) (λk=>(Fg_ i (min bytes 8)).1.length-k) 0 ⟨rfl,rfl,trivial⟩ trivial ?_ ?_
 . exact Nat.zero_le _
 rintro k hp2;have hb:=O8_ i (min bytes 8);refine kA 6 ?_;refine cn rfl (λp4=>?_) λp8=>?_
 . obtain⟨c5,hc6⟩:=getE (xs:=(Fg_ i (min bytes 8)).1) (m:=k) (by omega);refine kA 6 ?_;refine kI k hc6 λw7=>?_;have :=Go_ ((BitVec.ofInt (IntKind.bits .u64) (IntKind.wrap .u64 ((beN ((Fg_ i (min bytes 8)).1.take k):Int)*2 ^ (min (8:Int).toNat (IntKind.bits .u64)))) |||BitVec.ofInt (IntKind.bits .u64) ((c5).toNat:Int)).toNat)
   refine kC 18 ?_;refine next (k+1) rfl rfl ⟨(congrArg (PV.int .u64) (num_step hc6 (by omega))),rfl,trivial⟩ trivial ?_ ?_
   . omega
   omega
 refine kA 12 ?_;refine rm1 rfl rfl ?_ rfl rfl rfl ?_
 . refine ple ?_
   simp only[Y_]
   rw[List.take_of_length_le (by omega)]
 exact ples rfl
theorem Ho_ (i:In) (most:Int):Fm prog gb 118 [.int .i64 most] 211 (In.pc i) (.str (((X_ i most)).1)) (In.pc (((X_ i most)).2)):=by
 refine P5_ F_ func118 rfl ntmps118 rfl cb118 rfl rfl rfl rfl λw wp b N H hG=>?_;refine kA 8 ?_;refine ef (ecallm (E2_ _ _) rfl rfl rfl rfl rfl λw1 w1p=>?_);have :=Bs_ i 2;refine q1 (qconv F_ rfl rfl rfl rfl (Qt_ (by omega))) rfl λw2=>?_;refine kA 11 ?_;refine cn rfl (λp4=>?_) λp7=>?_
 . refine kA 2 ?_;refine ef (ecallm (H5_ _ _) rfl rfl rfl rfl rfl λw5 w5p=>?_);refine kA 6 ?_;refine ef (ecallm (Uj_ _ _) rfl rfl rfl rfl rfl λw6 w6p=>?_);refine kA 4 ?_;refine rm1 rfl rfl ?_ rfl rfl rfl ?_
   . exact ple (by simp[X_, *])
   exact ples (by simp[X_,In.pc, *])
 refine kA 6 ?_;refine ef (ecallm (Uj_ _ _) rfl rfl rfl rfl rfl λw8 w8p=>?_);refine kA 4 ?_;refine rm1 rfl rfl ?_ rfl rfl rfl ?_
 . exact ple (by simp[X_, *])
 exact ples (by simp[X_,In.pc, *])
theorem in_Left (i:In):Fm prog gb 124 [] 211 (In.pc i) (.int .i64 (i.s.length:Int)) (In.pc i):=by
 refine P5_ F_ func124 rfl ntmps124 rfl cb124 rfl rfl rfl rfl λw wp b N H hG=>?_;refine kA 9 ?_;refine q1 (qpeq underlying122 rfl rfl) rfl λw1=>?_;refine kA 16 ?_;refine rm1 rfl rfl ?_ rfl rfl rfl ?_
 . exact ple rfl
 exact ples rfl
theorem Hn_ (i:In):Fm prog gb 117 [] 211 (In.pc i) (.int .i64 i.err) (In.pc i):=by
 refine P5_ F_ func117 rfl ntmps117 rfl cb117 rfl rfl rfl rfl λw wp b N H hG=>?_;refine kA 9 ?_;refine q1 (qpeq underlying122 rfl rfl) rfl λw1=>?_;refine kA 15 ?_;refine rm1 rfl rfl ?_ rfl rfl rfl ?_
 . exact ple rfl
 exact ples rfl
theorem in_End (i:In):Fm prog gb 50 [] 211 (In.pc i) (.int .i64 (Vz_ i)) (In.pc i):=by
 refine P5_ F_ func50 rfl ntmps50 rfl cb50 rfl rfl rfl rfl λw wp b N H hG=>?_;refine kA 9 ?_;refine ef (ecallm (Hn_ _) rfl rfl rfl rfl rfl λw1 w1p=>?_);refine kA 3 ?_;refine callgm rfl (λhc=>(in_Left _)) rfl rfl rfl rfl ⟨(λhc=>hc),trivial⟩ rfl rfl λ_=>?_;refine kC 4 ?_;refine cnd rfl (λh2=>?_) (λh2=>?_)
 . have h3:=bl h2;have p4:=dt h3;have h5:=br h2;have p6:=dt h5;refine kA 7 ?_;refine rm1 rfl rfl ?_ rfl rfl rfl ?_
   . refine ple ?_;refine congrArg (PV.int .i64) ?_
     simp only[bl1] at *
     unfold Vz_
     (repeat' split)<;>first|rfl|(exfalso;omega)|(exfalso;simp_all;done)|(exfalso;simp_all;omega)|grind
   exact ples rfl
 refine kA 5 ?_;refine ef (ecallm (Hn_ _) rfl rfl rfl rfl rfl λw7 w7p=>?_);refine kA 4 ?_;refine rm1 rfl rfl ?_ rfl rfl rfl ?_
 . refine ple ?_;refine congrArg (PV.int .i64) ?_
   simp only[bl1] at *
   unfold Vz_
   (repeat' split)<;>first|rfl|(exfalso;omega)|(exfalso;simp_all;done)|(exfalso;simp_all;omega)|grind
 exact ples rfl
theorem J9_ (pattern:Bs) (key:Bs) (hp:pattern.length<4294967281:=by first|omega|(simp;done)|decide) (hk:key.length<4294967281:=by first|omega|(simp;done)|decide):Fn prog gb 269 [.str pattern, .str key] (.bool (mt (Dn_ pattern) (Dn_ key))):=by
 refine kG func269 ntmps269 λw N H hG=>?_;refine kA 8 ?_;refine call (Ox_ _) rfl rfl λw1=>?_;refine kA 1 ?_;refine call (Ox_ _) rfl rfl λw2=>?_;refine kA 18 ?_;refine loop (ι:=Nat×Nat×Int×Nat) [0,1,5,6,11,12,13,14] [] (λ⟨i,j,b,f⟩=>[(7, .int .i64 (i:Int)),(8, .int .i64 (j:Int)),(9, .int .i64 b),(10, .int .i64 (f:Int))]) (λ⟨i,j,b,f⟩=>[]) (λ⟨i,j,b,f⟩=>MI (Dn_ pattern) (Dn_ key) i j b f) (λ⟨i,j,b,f⟩=>mmu (Dn_ pattern) (Dn_ key) j b f) ⟨0,0,(-1),0⟩ ⟨rfl,rfl,rfl,rfl,trivial⟩ trivial ?_ ?_
 . exact MI.start _ _
 rintro⟨i,j,b,f⟩ hp3;have hmi:=hp3;have hwp:=Wz_ pattern;have hwk:=Wz_ key;have :=hmi.hi;have :=hmi.hj;have :=hmi.hf;have :=hmi.hb;have :=hmi.hbi;refine kA 9 ?_;refine cnd rfl (λh4=>?_) (λh4=>?_)
 . have p5:=dt h4;obtain⟨c6,hc7⟩:=getJ (Dn_ pattern) i;refine kA 13 ?_;refine q1g [25,26] rfl (λhc=>qidx F_ i rfl rfl rfl (hc7 (by first|omega|(simp only[gOf,bl2] at *;omega))) rfl rfl rfl rfl) ⟨(λhc=>hc),(λhc=>hc),trivial⟩ rfl rfl rfl λ_=>?_;refine kC 6 ?_;refine cnd rfl (λh8=>?_) (λh8=>?_)
   . have h9:=bl h8;have p10:=dt h9;have h11:=br h8;have p12:=dt h11;refine kC 15 ?_;obtain⟨c13,hc14⟩:=getE (xs:=Dn_ key) (m:=j) (by omega);refine next ⟨(i+1),j,((i:Int)+1),j⟩ rfl rfl ⟨(congrArg (PV.int .i64) (by omega)),rfl,rfl,rfl,trivial⟩ trivial ?_ ?_
     . exact mmu_hash hmi (by omega)
     exact MI.hash hmi (by rw[(hc7 (by first|omega|(simp only[gOf,bl2] at *;omega)))];simp[*])
   refine kA 1 ?_;refine aN [0,1,2,3,4,5] 23 mixd ?_;refine kE [0,1,2,3,4,5,6] 16 ?_;refine vqg 7 [41,42] rfl (by kernel_rfl) rfl rfl (λhc=>qidx F_ i rfl rfl rfl (hc7 (by first|omega|(simp only[gOf,bl2] at *;omega))) rfl rfl rfl rfl) ⟨(λhc=>hc),(λhc=>hc),trivial⟩ rfl λ_=>?_;refine kF [8,9,10,11,12] 10 ?_;refine vqg 13 [47,48] rfl (by kernel_rfl) rfl rfl (λhc=>qidx F_ i rfl rfl rfl (hc7 (by first|omega|(simp only[gOf,bl2] at *;omega))) rfl rfl rfl rfl) ⟨(λhc=>hc),(λhc=>hc),trivial⟩ rfl λ_=>?_;refine kF [14,15,16] 6 ?_;obtain⟨c15,hc16⟩:=getJ (Dn_ key) j;refine vqg 17 [51,52] rfl (by kernel_rfl) rfl rfl (λhc=>qidx F_ j rfl rfl rfl (hc16 (by first|omega|(simp only[gOf,bl2] at *;omega))) rfl rfl rfl rfl) ⟨(λhc=>hc),(λhc=>hc),trivial⟩ rfl λ_=>?_;refine kF [18,19,20,21,22] 0 ?_;refine vD ?_;refine kA 1 ?_;refine cnd rfl (λh17=>?_) (λh17=>?_)
   . have h18:=bl h17;have p19:=dt h18;have h20:=br h17;refine kC 10 ?_;refine next ⟨(i+1),(j+1),b,f⟩ rfl rfl ⟨(congrArg (PV.int .i64) (by omega)),rfl,rfl,rfl,trivial⟩ trivial ?_ ?_
     . exact mmu_step (by omega)
     first|exact MI.step hmi (hc7 (by first|omega|(simp only[gOf,bl2] at *;omega))) (hc16 (by first|omega|(simp only[gOf,bl2] at *;omega))) (by assumption) (by first|exact .inl (by assumption)|exact .inr (by assumption))|exact MI.step hmi (hc7 (by first|omega|(simp only[gOf,bl2] at *;omega))) (hc16 (by first|omega|(simp only[gOf,bl2] at *;omega))) (by simp_all) (by first|(left;simp_all;done)|(right;simp_all;done)|grind)
   refine kA 7 ?_;refine cnd rfl (λh21=>?_) (λh21=>?_)
   . have p22:=dt h21;refine kC 15 ?_;have hbad:∀ w,(Dn_ pattern)[i]? = some w->w≠[35]/\w≠[42]/\w≠c15:=by
       intro w hw;obtain⟨hlt,_⟩:=List.getElem?_eq_some_iff.1 hw
       rw[(hc7 (by first|omega|(simp only[gOf,bl2] at *;omega)))] at hw;cases hw
       first|exact⟨by assumption,by assumption,by assumption⟩|(refine⟨?_,?_,?_⟩<;>intro q<;>simp_all)
     refine next ⟨b.toNat,(f+1),b,(f+1)⟩ rfl rfl ⟨(congrArg (PV.int .i64) (by omega)),rfl,rfl,rfl,trivial⟩ trivial ?_ ?_
     . exact mmu_back hmi.hf (by omega)
     exact MI.back hmi (hc16 (by first|omega|(simp only[gOf,bl2] at *;omega))) (by omega) hbad
   have p23:=df h21;refine kA 11 ?_;refine rt1 rfl rfl (ple ?_);have hbad:∀ w,(Dn_ pattern)[i]? = some w->w≠[35]/\w≠[42]/\w≠c15:=by
     intro w hw;obtain⟨hlt,_⟩:=List.getElem?_eq_some_iff.1 hw
     rw[(hc7 (by first|omega|(simp only[gOf,bl2] at *;omega)))] at hw;cases hw
     first|exact⟨by assumption,by assumption,by assumption⟩|(refine⟨?_,?_,?_⟩<;>intro q<;>simp_all)
   exact congrArg PV.bool (MI.none hmi (hc16 (by first|omega|(simp only[gOf,bl2] at *;omega))) (by omega) hbad).symm
 have p24:=df h4;refine kA 7 ?_;refine loop (ι:=Nat) [0,1,5,6,8,9,10,11,12,13,14,15,16,17,18] [] (λq=>[(7, .int .i64 (q:Int))]) (λq=>[]) (λq=>q<=(Dn_ pattern).length/\mt (Dn_ pattern) (Dn_ key)=mt ((Dn_ pattern).drop q) []) (λq=>(Dn_ pattern).length-q) i ⟨rfl,trivial⟩ trivial ?_ ?_
 . exact⟨by omega,hmi.fin (by omega)⟩
 rintro q hp25;obtain⟨hq1,hq2⟩:=hp25;obtain⟨c26,hc27⟩:=getJ (Dn_ pattern) q;refine kA 10 ?_;refine q1g [74,75] rfl (λhc=>qidx F_ q rfl rfl rfl (hc27 (by first|omega|(simp only[gOf,bl2] at *;omega))) rfl rfl rfl rfl) ⟨(λhc=>hc),(λhc=>hc),trivial⟩ rfl rfl rfl λ_=>?_;refine kC 5 ?_;refine cnd rfl (λh28=>?_) (λh28=>?_)
 . have h29:=bl h28;have p30:=dt h29;have h31:=br h28;have p32:=dt h31;refine kC 9 ?_;refine next (q+1) rfl rfl ⟨rfl,trivial⟩ trivial ?_ ?_
   . omega
   exact⟨by omega,mt_end hq2 (by rw[(hc27 (by first|omega|(simp only[gOf,bl2] at *;omega)))];simp[*])⟩
 refine kA 15 ?_;refine rt1 rfl rfl (ple ?_);refine congrArg PV.bool ?_
 rw[hq2]
 by_cases hql:q<(Dn_ pattern).length
 . rw[mt_endN (hc27 (by first|omega|(simp only[gOf,bl2] at *;omega))) (by first|assumption|simp_all)]
   rw[decide_eq_false_iff_not];omega
 have hqe:q=(Dn_ pattern).length:=by omega
 subst hqe
 rw[List.drop_length];simp[mt]
theorem Wy_ (s:Bs):Fn prog gb 247 [.str s] (.int .i64 (keyE patB s)):=by
 refine kG func247 ntmps247 λw N H hG=>?_;refine kA 8 ?_;refine ef (bsl 0 strc [[42],[35]] F_ rfl rfl rfl rfl rfl (λ_=>rfl) rfl (by decide) (by decide) rfl λu1=>?_);refine ef (calll 0 rfl (Zl_ _ _) rfl rfl rfl λw2=>?_);refine kA 4 ?_;refine rt1 rfl rfl (ple ?_)
 rfl
theorem cb119:An_ prog 119:=Ad_ func119 (by kernel_rfl) (by kernel_rfl)
theorem cb201:An_ prog 201:=Ad_ func201 (by kernel_rfl) (by kernel_rfl)
theorem Lp_ (h:List Pair):Fn prog gb 54 [.sl Pair.pc h] (.tup [.str (Bg_ h), .int .i64 (Gq_ h)]):=by
 refine kG func54 ntmps54 λw N H hG=>?_;have h_l:h.length<=140737488355328:=w.1.1;refine kA 10 ?_;refine call (Ka_ _) rfl rfl λw1=>?_;refine kA 9 ?_;refine cnd rfl (λh2=>?_) (λh2=>?_)
 . have h3:=Ek_ h2;have p4:=df h3;refine kA 9 ?_;refine rt2 rfl rfl ?_;refine ple ?_
   unfold Bg_
   rw[if_neg (by omega)]
 have h5:=Di_ h2;have p6:=dt h5;refine kA 7 ?_;refine q1 (qconv F_ rfl rfl rfl rfl (Kp_ (by omega))) rfl λw7=>?_;refine call (out_Num (⟨[],0⟩:Out) _ _ (by ((try have :=hrl (by assumption));first|omega|(simp[B_,Ao_,Aw_,numK]<;>omega)))) rfl rfl λw8=>?_;have nl0:(⟨[],0⟩:Out).s.length=0:=rfl;have :=R_ (⟨[],0⟩:Out) (h.length:Int) 1;refine kB 13 [0] λB10=>?_;refine loop (ι:=Nat×Out) [0,2,3,4,5,8,9,10,11,13,14,15,16,17,18,19] [] (λ⟨k,o⟩=>[(20, .int .i64 (k:Int))]) (λ⟨k,o⟩=>[(0, .box (B10 0) 134 [.str o.s, .int .i64 o.err])]) (λ⟨k,o⟩=>k<=h.length/\h.foldl Hd_ (B_ ⟨[],0⟩ h.length 1)=(h.drop k).foldl Hd_ o/\o.s.length<=8+110*k) (λ⟨k,o⟩=>h.length-k) ⟨0,(B_ (⟨[],0⟩:Out) (h.length:Int) 1)⟩ ⟨rfl,trivial⟩ ⟨rfl,trivial⟩ ?_ ?_
 . exact⟨Nat.zero_le _,rfl,by simp at *;omega⟩
 rintro⟨k,o⟩ hp11;obtain⟨hk1,hk2,hk3⟩:=hp11;have hok:=Ky_ (h:=h) (by assumption);refine kA 6 ?_;refine cn rfl (λp13=>?_) λp36=>?_
 . obtain⟨c14,hc15⟩:=getE (xs:=h) (m:=k) (by omega);have hpk:=hok.2 c14 (List.mem_of_getElem? hc15);have c14_w:=Pair.pwf (w.1.2 c14 (List.mem_of_getElem? hc15));refine kA 6 ?_;refine kI k hc15 λw16=>?_;refine kB 6 [1] λB18=>?_;refine aN [2,3,4,5,6,7] 9 mixd ?_;refine kE [0,1,2] 6 ?_;refine vC 3 rfl (Dv_ _ _) rfl λw19=>?_;have :=At_ o c14.key;refine kE [4,5,6] 2 ?_;refine vC 7 rfl (out_Num _ _ _ (by ((try have :=hrl (by assumption));first|omega|(simp[B_,Ao_,Aw_,numK]<;>omega)))) rfl λw20=>?_;have :=R_ (H_ o c14.key) c14.kind 1;refine vT 8 rfl (sA F_ ?_);refine vD ?_;refine kA 14 ?_;refine cn rfl (λp22=>?_) λp25=>?_
   . refine kA 5 ?_;refine call (out_Num _ _ _ (by ((try have :=hrl (by assumption));first|omega|(simp[B_,Ao_,Aw_,numK]<;>omega)))) rfl rfl λw23=>?_;have :=R_ (B_ (H_ o c14.key) c14.kind 1) (IntKind.wrap .u64 c14.num) 8;refine kD 9 [] λ_=>?_;refine next ⟨(k+1),(B_ (B_ (H_ o c14.key) c14.kind 1) (IntKind.wrap .u64 c14.num) 8)⟩ rfl rfl ⟨rfl,trivial⟩ ⟨rfl,trivial⟩ ?_ ?_
     . simp only[];omega
     have e:(B_ (B_ (H_ o c14.key) c14.kind 1) (IntKind.wrap .u64 c14.num) 8)=Hd_ o c14:=by unfold Hd_;first|(rw[if_pos (by omega)];done)|(rw[if_neg (by omega),if_pos (by omega)];done)|(rw[if_neg (by omega),if_neg (by omega),if_pos (by omega)];done)|(rw[if_neg (by omega),if_neg (by omega),if_neg (by omega)];done)
     simp only[]
     rw[e]
     have hlo:=Kn_ (o:=o) (hok.2 c14 (List.mem_of_getElem? hc15));refine⟨by omega,?_,by omega⟩
     rw[hk2,Eg_ hc15,List.foldl_cons]
   refine kA 6 ?_;refine cn rfl (λp27=>?_) λp30=>?_
   . refine kA 4 ?_;refine call (Dv_ _ _) rfl rfl λw28=>?_;have :=At_ (B_ (H_ o c14.key) c14.kind 1) c14.text;refine kD 9 [] λ_=>?_;refine next ⟨(k+1),(H_ (B_ (H_ o c14.key) c14.kind 1) c14.text)⟩ rfl rfl ⟨rfl,trivial⟩ ⟨rfl,trivial⟩ ?_ ?_
     . simp only[];omega
     have e:(H_ (B_ (H_ o c14.key) c14.kind 1) c14.text)=Hd_ o c14:=by unfold Hd_;first|(rw[if_pos (by omega)];done)|(rw[if_neg (by omega),if_pos (by omega)];done)|(rw[if_neg (by omega),if_neg (by omega),if_pos (by omega)];done)|(rw[if_neg (by omega),if_neg (by omega),if_neg (by omega)];done)
     simp only[]
     rw[e]
     have hlo:=Kn_ (o:=o) (hok.2 c14 (List.mem_of_getElem? hc15));refine⟨by omega,?_,by omega⟩
     rw[hk2,Eg_ hc15,List.foldl_cons]
   refine kA 6 ?_;refine cn rfl (λp32=>?_) λp35=>?_
   . refine kA 5 ?_;refine call (out_Num _ _ _ (by ((try have :=hrl (by assumption));first|omega|(simp[B_,Ao_,Aw_,numK]<;>omega)))) rfl rfl λw33=>?_;have :=R_ (B_ (H_ o c14.key) c14.kind 1) (IntKind.wrap .u64 c14.num) 1;refine kD 9 [] λ_=>?_;refine next ⟨(k+1),(B_ (B_ (H_ o c14.key) c14.kind 1) (IntKind.wrap .u64 c14.num) 1)⟩ rfl rfl ⟨rfl,trivial⟩ ⟨rfl,trivial⟩ ?_ ?_
     . simp only[];omega
     have e:(B_ (B_ (H_ o c14.key) c14.kind 1) (IntKind.wrap .u64 c14.num) 1)=Hd_ o c14:=by unfold Hd_;first|(rw[if_pos (by omega)];done)|(rw[if_neg (by omega),if_pos (by omega)];done)|(rw[if_neg (by omega),if_neg (by omega),if_pos (by omega)];done)|(rw[if_neg (by omega),if_neg (by omega),if_neg (by omega)];done)
     simp only[]
     rw[e]
     have hlo:=Kn_ (o:=o) (hok.2 c14 (List.mem_of_getElem? hc15));refine⟨by omega,?_,by omega⟩
     rw[hk2,Eg_ hc15,List.foldl_cons]
   refine kC 8 ?_;refine next ⟨(k+1),(B_ (H_ o c14.key) c14.kind 1)⟩ rfl rfl ⟨rfl,trivial⟩ ⟨rfl,trivial⟩ ?_ ?_
   . simp only[];omega
   have e:(B_ (H_ o c14.key) c14.kind 1)=Hd_ o c14:=by unfold Hd_;first|(rw[if_pos (by omega)];done)|(rw[if_neg (by omega),if_pos (by omega)];done)|(rw[if_neg (by omega),if_neg (by omega),if_pos (by omega)];done)|(rw[if_neg (by omega),if_neg (by omega),if_neg (by omega)];done)
   simp only[]
   rw[e]
   have hlo:=Kn_ (o:=o) (hok.2 c14 (List.mem_of_getElem? hc15));refine⟨by omega,?_,by omega⟩
   rw[hk2,Eg_ hc15,List.foldl_cons]
 refine kA 8 ?_;refine call (Dp_ _) rfl rfl λw37=>?_;refine kA 5 ?_;refine rt2 rfl rfl ?_;refine ple ?_
 unfold Bg_
 rw[if_pos (by assumption)]
 rw[List.drop_of_length_le (by omega),List.foldl_nil] at hk2
 rw[show Sc_ h=o from hk2]
 have e0:Gq_ h=0:=by assumption
 rw[e0]
theorem head_one (i:In):Fm prog gb 201 [] 211 (In.pc i) (.agg (Pair.pc (((Bj_ i)).1))) (In.pc (((Bj_ i)).2)):=by
 refine P5_ F_ func201 rfl ntmps201 rfl cb201 rfl rfl rfl rfl λw wp b N H hG=>?_;refine kB 8 [1] λB2=>?_;refine ef (ecallm (Ho_ _ _) rfl rfl rfl rfl rfl λw3 w3p=>?_);have :=Cp_ i 16;generalize hg5:X_ i 16=g4 at *;refine kA 1 ?_;refine ef (ecallm (E2_ _ _) rfl rfl rfl rfl rfl λw6 w6p=>?_);have :=Bs_ ((g4).2) 1;generalize hg8:Y_ ((g4).2) 1=g7 at *;refine q1 (qconv F_ rfl rfl rfl rfl (rg_u8 (by omega))) rfl λw9=>?_;refine kB 19 [2] λB11=>?_;refine cn rfl (λp13=>?_) λp18=>?_
 . refine kA 2 ?_;refine ef (ecallm (E2_ _ _) rfl rfl rfl rfl rfl λw14 w14p=>?_);have :=Bs_ ((g7).2) 8;generalize hg16:Y_ ((g7).2) 8=g15 at *;refine kB 13 [] λ_=>?_;refine rm1 rfl rfl ?_ rfl rfl rfl ?_;have e:Bj_ i=((⟨(g4).1,(g7).1,(IntKind.wrap .i64 ((g15).1)),[]⟩:Pair),((g15).2)):=by unfold Bj_;simp only;(repeat first|simp only[hg5,hg8,hg16]|rw[if_pos (by omega)]|rw[if_neg (by omega)]);all_goals first|rfl|(rw[Fl_ (by omega) (by omega)];done)|(simp[*];done)|(rw[Fl_ (by omega) (by omega)];simp[*];done)
   . exact ple (by first|(rw[e];done)|(rw[e];rfl))
   have e:Bj_ i=((⟨(g4).1,(g7).1,(IntKind.wrap .i64 ((g15).1)),[]⟩:Pair),((g15).2)):=by unfold Bj_;simp only;(repeat first|simp only[hg5,hg8,hg16]|rw[if_pos (by omega)]|rw[if_neg (by omega)]);all_goals first|rfl|(rw[Fl_ (by omega) (by omega)];done)|(simp[*];done)|(rw[Fl_ (by omega) (by omega)];simp[*];done)
   exact ples (by first|(rw[e];done)|(rw[e];rfl))
 refine kA 6 ?_;refine cn rfl (λp20=>?_) λp25=>?_
 . refine kA 2 ?_;refine ef (ecallm (Ho_ _ _) rfl rfl rfl rfl rfl λw21 w21p=>?_);have :=Cp_ ((g7).2) 64;generalize hg23:X_ ((g7).2) 64=g22 at *;refine kB 12 [] λ_=>?_;refine rm1 rfl rfl ?_ rfl rfl rfl ?_;have e:Bj_ i=((⟨(g4).1,(g7).1,0,(g22).1⟩:Pair),((g22).2)):=by unfold Bj_;simp only;(repeat first|simp only[hg5,hg8,hg23]|rw[if_pos (by omega)]|rw[if_neg (by omega)]);all_goals first|rfl|(rw[Fl_ (by omega) (by omega)];done)|(simp[*];done)|(rw[Fl_ (by omega) (by omega)];simp[*];done)
   . exact ple (by first|(rw[e];done)|(rw[e];rfl))
   have e:Bj_ i=((⟨(g4).1,(g7).1,0,(g22).1⟩:Pair),((g22).2)):=by unfold Bj_;simp only;(repeat first|simp only[hg5,hg8,hg23]|rw[if_pos (by omega)]|rw[if_neg (by omega)]);all_goals first|rfl|(rw[Fl_ (by omega) (by omega)];done)|(simp[*];done)|(rw[Fl_ (by omega) (by omega)];simp[*];done)
   exact ples (by first|(rw[e];done)|(rw[e];rfl))
 refine kA 6 ?_;refine cn rfl (λp27=>?_) λp33=>?_
 . refine kA 2 ?_;refine ef (ecallm (E2_ _ _) rfl rfl rfl rfl rfl λw28 w28p=>?_);have :=Bs_ ((g7).2) 1;generalize hg30:Y_ ((g7).2) 1=g29 at *;refine q1 (qconv F_ rfl rfl rfl rfl (Qt_ (by omega))) rfl λw31=>?_;refine kB 12 [] λ_=>?_;refine rm1 rfl rfl ?_ rfl rfl rfl ?_;have e:Bj_ i=((⟨(g4).1,(g7).1,(g29).1,[]⟩:Pair),((g29).2)):=by unfold Bj_;simp only;(repeat first|simp only[hg5,hg8,hg30]|rw[if_pos (by omega)]|rw[if_neg (by omega)]);all_goals first|rfl|(rw[Fl_ (by omega) (by omega)];done)|(simp[*];done)|(rw[Fl_ (by omega) (by omega)];simp[*];done)
   . exact ple (by first|(rw[e];done)|(rw[e];rfl))
   have e:Bj_ i=((⟨(g4).1,(g7).1,(g29).1,[]⟩:Pair),((g29).2)):=by unfold Bj_;simp only;(repeat first|simp only[hg5,hg8,hg30]|rw[if_pos (by omega)]|rw[if_neg (by omega)]);all_goals first|rfl|(rw[Fl_ (by omega) (by omega)];done)|(simp[*];done)|(rw[Fl_ (by omega) (by omega)];simp[*];done)
   exact ples (by first|(rw[e];done)|(rw[e];rfl))
 refine kA 2 ?_;refine ef (ecallm (H5_ _ _) rfl rfl rfl rfl rfl λw34 w34p=>?_);refine kB 10 [] λ_=>?_;refine rm1 rfl rfl ?_ rfl rfl rfl ?_;have e:Bj_ i=((⟨(g4).1,(g7).1,0,[]⟩:Pair),(Bl_ ((g7).2) 8)):=by unfold Bj_;simp only;(repeat first|simp only[hg5,hg8]|rw[if_pos (by omega)]|rw[if_neg (by omega)]);all_goals first|rfl|(rw[Fl_ (by omega) (by omega)];done)|(simp[*];done)|(rw[Fl_ (by omega) (by omega)];simp[*];done)
 . exact ple (by first|(rw[e];done)|(rw[e];rfl))
 have e:Bj_ i=((⟨(g4).1,(g7).1,0,[]⟩:Pair),(Bl_ ((g7).2) 8)):=by unfold Bj_;simp only;(repeat first|simp only[hg5,hg8]|rw[if_pos (by omega)]|rw[if_neg (by omega)]);all_goals first|rfl|(rw[Fl_ (by omega) (by omega)];done)|(simp[*];done)|(rw[Fl_ (by omega) (by omega)];simp[*];done)
 exact ples (by first|(rw[e];done)|(rw[e];rfl))
theorem Xj_ (i:In):Fm prog gb 119 [] 211 (In.pc i) (.sl Pair.pc (((Bt_ i)).1)) (In.pc (((Bt_ i)).2)):=by
 refine P5_ F_ func119 rfl ntmps119 rfl cb119 rfl rfl rfl rfl λw wp b N H hG=>?_;refine kA 8 ?_;refine ef (ecallm (E2_ _ _) rfl rfl rfl rfl rfl λw1 w1p=>?_);have :=Bs_ i 1;generalize hg3:Y_ i 1=g2 at *;refine q1 (qconv F_ rfl rfl rfl rfl (Qt_ (by omega))) rfl λw4=>?_;refine kA 10 ?_;refine cn rfl (λp6=>?_) λp34=>?_
 . refine kA 2 ?_;refine ef (ecallm (H5_ _ _) rfl rfl rfl rfl rfl λw7 w7p=>?_);refine kA 15 ?_;refine sw_own (t:=4) (k:=4) (e:=225) 1 Pair.pc rfl rfl ?_;refine loop (ι:=Nat×(List Pair)×Value×In) [0,3,6,7,8,9,10,11,13] [] (λ⟨k,h,u_h,j⟩=>[(4, .osl 1),(14, .int .i64 (k:Int))]) (λ⟨k,h,u_h,j⟩=>[(1, .arr u_h 4 225 Pair.pc h),(0, .box b 211 [.str j.s, .int .i64 j.err])]) (λ⟨k,h,u_h,j⟩=>k<=((g2).1).toNat/\Bt_ i=Hj_ (((g2).1).toNat-k) j h/\h.length<=k) (λ⟨k,h,u_h,j⟩=>((g2).1).toNat-k) ⟨0,[],(.slice none 0 0),(Bl_ ((g2).2) 6)⟩ ⟨rfl,rfl,trivial⟩ ⟨rfl,rfl,trivial⟩ ?_ ?_
   . exact⟨Nat.zero_le _,by unfold Bt_;(repeat first|simp only[hg3]|rw[if_pos (by omega)]|rw[if_neg (by omega)]);all_goals rfl,Nat.zero_le _⟩
   rintro⟨k,h,u_h,j⟩ hp8;obtain⟨hk1,hk2,hk3⟩:=hp8;refine kA 6 ?_;refine cn rfl (λp10=>?_) λp33=>?_
   . refine kA 7 ?_;refine ef (ecallm (head_one _) rfl rfl rfl rfl rfl λw11 w11p=>?_);generalize hg13:Bj_ j=g12 at *;refine kB 8 [2] λB15=>?_;refine ef (ecallm (Hn_ _) rfl rfl rfl rfl rfl λw16 w16p=>?_);refine kA 3 ?_;refine cnd rfl (λh17=>?_) (λh17=>?_)
     . have p18:=dt h17;refine kA 4 ?_;refine ef (calll 1 rfl (Sd_ _ _) rfl rfl rfl λw19=>?_);have :=Pr_ ((g12).1) h;generalize hg21:Ed_ ((g12).1) h=g20 at *;refine ef (ecallm (H5_ _ _) rfl rfl rfl rfl rfl λw22 w22p=>?_);refine kA 6 ?_;refine ef (ecallm (Hn_ _) rfl rfl rfl rfl rfl λw23 w23p=>?_);refine kA 3 ?_;refine cnd rfl (λh24=>?_) (λh24=>?_)
       . have h25:=Ek_ h24;have p26:=df h25;refine kA 12 ?_;refine rm1 rfl rfl ?_ rfl rfl rfl ?_
         . have e:Bt_ i=([],(Bl_ ((g12).2) g20)):=by
             rw[hk2,show ((g2).1).toNat-k=(((g2).1).toNat-(k+1))+1 by omega]
             have z:=λk=>Nz_ (k:=k) (h:=h) (show Bj_ j=(g12.1,g12.2) from hg13) (by omega) (by rw[hg21];omega)
             rw[hg21] at z
             exact z _
           exact Jf_ (by rw[e])
         have e:Bt_ i=([],(Bl_ ((g12).2) g20)):=by
           rw[hk2,show ((g2).1).toNat-k=(((g2).1).toNat-(k+1))+1 by omega]
           have z:=λk=>Nz_ (k:=k) (h:=h) (show Bj_ j=(g12.1,g12.2) from hg13) (by omega) (by rw[hg21];omega)
           rw[hg21] at z
           exact z _
         exact ples (by first|(rw[e];done)|(rw[e];rfl))
       have h27:=Di_ h24;have p28:=dt h27;refine kA 5 ?_;refine ef (bsl 3 Pair.pc [((g12).1)] F_ rfl rfl rfl rfl rfl (λ_=>rfl) rfl (by decide) (by decide) rfl λu29=>?_);refine ef (app F_ [((g12).1)] rfl rfl rfl rfl rfl rfl rfl rfl rfl (src_o rfl rfl) (by first|omega|(simp;omega)) rfl λu30=>?_);refine kC 8 ?_;refine next ⟨(k+1),(h++[((g12).1)]),(u30),(Bl_ ((g12).2) g20)⟩ rfl rfl ⟨rfl,rfl,trivial⟩ ⟨rfl,rfl,trivial⟩ ?_ ?_
       . simp only[];omega
       refine⟨by omega,?_,by simp;omega⟩
       rw[hk2,show ((g2).1).toNat-k=(((g2).1).toNat-(k+1))+1 by omega]
       have z:=λk=>Y4_ (k:=k) (h:=h) (show Bj_ j=(g12.1,g12.2) from hg13) (by omega) (by rw[hg21];omega)
       rw[hg21] at z
       exact z _
     have p31:=df h17;refine kA 6 ?_;refine ef (ecallm (Hn_ _) rfl rfl rfl rfl rfl λw32 w32p=>?_);refine kA 3 ?_;refine cndT rfl (by rw[h17]<;>rfl) ?_;refine kA 12 ?_;refine rm1 rfl rfl ?_ rfl rfl rfl ?_
     . have e:Bt_ i=([],((g12).2)):=by
         rw[hk2,show ((g2).1).toNat-k=(((g2).1).toNat-(k+1))+1 by omega]
         exact Ny_ (show Bj_ j=(g12.1,g12.2) from hg13) (by omega)
       exact Jf_ (by rw[e])
     have e:Bt_ i=([],((g12).2)):=by
       rw[hk2,show ((g2).1).toNat-k=(((g2).1).toNat-(k+1))+1 by omega]
       exact Ny_ (show Bj_ j=(g12.1,g12.2) from hg13) (by omega)
     exact ples (by first|(rw[e];done)|(rw[e];rfl))
   refine kA 11 ?_;refine givec 1 rfl ?_;refine kA 1 ?_;refine rm1 rfl rfl ?_ rfl rfl rfl ?_
   . have e:Bt_ i=(h,j):=by
       rw[hk2,show ((g2).1).toNat-k=0 by omega]
       rfl
     exact ple (by rw[e])
   have e:Bt_ i=(h,j):=by
     rw[hk2,show ((g2).1).toNat-k=0 by omega]
     rfl
   exact ples (by first|(rw[e];done)|(rw[e];rfl))
 refine kA 15 ?_;refine sw_own (t:=4) (k:=4) (e:=225) 1 Pair.pc rfl rfl ?_;refine loop (ι:=Nat×(List Pair)×Value×In) [0,3,6,7,8,9,10,13] [] (λ⟨k,h,u_h,j⟩=>[(4, .osl 1),(14, .int .i64 (k:Int))]) (λ⟨k,h,u_h,j⟩=>[(1, .arr u_h 4 225 Pair.pc h),(0, .box b 211 [.str j.s, .int .i64 j.err])]) (λ⟨k,h,u_h,j⟩=>k<=((g2).1).toNat/\Bt_ i=Hj_ (((g2).1).toNat-k) j h/\h.length<=k) (λ⟨k,h,u_h,j⟩=>((g2).1).toNat-k) ⟨0,[],(.slice none 0 0),((g2).2)⟩ ⟨rfl,rfl,trivial⟩ ⟨rfl,rfl,trivial⟩ ?_ ?_
 . exact⟨Nat.zero_le _,by unfold Bt_;(repeat first|simp only[hg3]|rw[if_pos (by omega)]|rw[if_neg (by omega)]);all_goals rfl,Nat.zero_le _⟩
 rintro⟨k,h,u_h,j⟩ hp35;obtain⟨hk1,hk2,hk3⟩:=hp35;refine kA 6 ?_;refine cn rfl (λp37=>?_) λp60=>?_
 . refine kA 7 ?_;refine ef (ecallm (head_one _) rfl rfl rfl rfl rfl λw38 w38p=>?_);generalize hg40:Bj_ j=g39 at *;refine kB 8 [2] λB42=>?_;refine ef (ecallm (Hn_ _) rfl rfl rfl rfl rfl λw43 w43p=>?_);refine kA 3 ?_;refine cnd rfl (λh44=>?_) (λh44=>?_)
   . have p45:=dt h44;refine kA 4 ?_;refine ef (calll 1 rfl (Sd_ _ _) rfl rfl rfl λw46=>?_);have :=Pr_ ((g39).1) h;generalize hg48:Ed_ ((g39).1) h=g47 at *;refine ef (ecallm (H5_ _ _) rfl rfl rfl rfl rfl λw49 w49p=>?_);refine kA 6 ?_;refine ef (ecallm (Hn_ _) rfl rfl rfl rfl rfl λw50 w50p=>?_);refine kA 3 ?_;refine cnd rfl (λh51=>?_) (λh51=>?_)
     . have h52:=Ek_ h51;have p53:=df h52;refine kA 12 ?_;refine rm1 rfl rfl ?_ rfl rfl rfl ?_
       . have e:Bt_ i=([],(Bl_ ((g39).2) g47)):=by
           rw[hk2,show ((g2).1).toNat-k=(((g2).1).toNat-(k+1))+1 by omega]
           have z:=λk=>Nz_ (k:=k) (h:=h) (show Bj_ j=(g39.1,g39.2) from hg40) (by omega) (by rw[hg48];omega)
           rw[hg48] at z
           exact z _
         exact Jf_ (by rw[e])
       have e:Bt_ i=([],(Bl_ ((g39).2) g47)):=by
         rw[hk2,show ((g2).1).toNat-k=(((g2).1).toNat-(k+1))+1 by omega]
         have z:=λk=>Nz_ (k:=k) (h:=h) (show Bj_ j=(g39.1,g39.2) from hg40) (by omega) (by rw[hg48];omega)
         rw[hg48] at z
         exact z _
       exact ples (by first|(rw[e];done)|(rw[e];rfl))
     have h54:=Di_ h51;have p55:=dt h54;refine kA 5 ?_;refine ef (bsl 3 Pair.pc [((g39).1)] F_ rfl rfl rfl rfl rfl (λ_=>rfl) rfl (by decide) (by decide) rfl λu56=>?_);refine ef (app F_ [((g39).1)] rfl rfl rfl rfl rfl rfl rfl rfl rfl (src_o rfl rfl) (by first|omega|(simp;omega)) rfl λu57=>?_);refine kC 8 ?_;refine next ⟨(k+1),(h++[((g39).1)]),(u57),(Bl_ ((g39).2) g47)⟩ rfl rfl ⟨rfl,rfl,trivial⟩ ⟨rfl,rfl,trivial⟩ ?_ ?_
     . simp only[];omega
     refine⟨by omega,?_,by simp;omega⟩
     rw[hk2,show ((g2).1).toNat-k=(((g2).1).toNat-(k+1))+1 by omega]
     have z:=λk=>Y4_ (k:=k) (h:=h) (show Bj_ j=(g39.1,g39.2) from hg40) (by omega) (by rw[hg48];omega)
     rw[hg48] at z
     exact z _
   have p58:=df h44;refine kA 6 ?_;refine ef (ecallm (Hn_ _) rfl rfl rfl rfl rfl λw59 w59p=>?_);refine kA 3 ?_;refine cndT rfl (by rw[h44]<;>rfl) ?_;refine kA 12 ?_;refine rm1 rfl rfl ?_ rfl rfl rfl ?_
   . have e:Bt_ i=([],((g39).2)):=by
       rw[hk2,show ((g2).1).toNat-k=(((g2).1).toNat-(k+1))+1 by omega]
       exact Ny_ (show Bj_ j=(g39.1,g39.2) from hg40) (by omega)
     exact Jf_ (by rw[e])
   have e:Bt_ i=([],((g39).2)):=by
     rw[hk2,show ((g2).1).toNat-k=(((g2).1).toNat-(k+1))+1 by omega]
     exact Ny_ (show Bj_ j=(g39.1,g39.2) from hg40) (by omega)
   exact ples (by first|(rw[e];done)|(rw[e];rfl))
 refine kA 11 ?_;refine givec 1 rfl ?_;refine kA 1 ?_;refine rm1 rfl rfl ?_ rfl rfl rfl ?_
 . have e:Bt_ i=(h,j):=by
     rw[hk2,show ((g2).1).toNat-k=0 by omega]
     rfl
   exact ple (by rw[e])
 have e:Bt_ i=(h,j):=by
   rw[hk2,show ((g2).1).toNat-k=0 by omega]
   rfl
 exact ples (by first|(rw[e];done)|(rw[e];rfl))
theorem ag36:Ag prog 36 false:=λw=>by kernel_rfl
theorem eqg57:prog.eqGuardType prog.depth 57=false:=by kernel_rfl
theorem eqg59:prog.eqGuardType prog.depth 59=false:=by kernel_rfl
theorem veq57 (p q:W_):∀ (H:Hp) (vs us:List Value),Sims H (W_.pc p) vs->Sims H (W_.pc q) us->EqV prog 10000 57 (.agg vs.toArray) (.agg us.toArray) (decide (p=q)):=by
 intro H vs us hv hu;obtain⟨_,_,rfl,v0,v_0⟩:=hv.inv_cons;obtain⟨_,_,rfl,v1,v_1⟩:=v_0.inv_cons;obtain⟨_,_,rfl,v2,v_2⟩:=v_1.inv_cons
 cases v_2.inv_nil
 cases v0.inv_str.1;cases v1.inv_int.1;cases v2.inv_str.1
 obtain⟨_,_,rfl,u0,u_0⟩:=hu.inv_cons;obtain⟨_,_,rfl,u1,u_1⟩:=u_0.inv_cons;obtain⟨_,_,rfl,u2,u_2⟩:=u_1.inv_cons
 cases u_2.inv_nil
 cases u0.inv_str.1;cases u1.inv_int.1;cases u2.inv_str.1
 exact EqV.to' (I5_ underlying57 (by kernel_rfl) (H6_ (by decide) ag9 rfl rfl (Oh_ underlying9) (H6_ (by decide) ag5 rfl rfl (C8_ underlying5) (H6_ (by decide) ag9 rfl rfl (Oh_ underlying9) I4_)))) (by obtain⟨a0,a1,a2⟩:=p;obtain⟨b0,b1,b2⟩:=q;rw[Bool.eq_iff_iff];simp)
theorem veq59 (p q:U_):∀ (H:Hp) (vs us:List Value),Sims H (U_.pc p) vs->Sims H (U_.pc q) us->EqV prog 10000 59 (.agg vs.toArray) (.agg us.toArray) (decide (p=q)):=by
 intro H vs us hv hu;obtain⟨_,_,rfl,v0,v_0⟩:=hv.inv_cons;obtain⟨_,_,rfl,v1,v_1⟩:=v_0.inv_cons;obtain⟨_,_,rfl,v2,v_2⟩:=v_1.inv_cons;obtain⟨_,_,rfl,v3,v_3⟩:=v_2.inv_cons
 cases v_3.inv_nil
 cases v0.inv_str.1;cases v1.inv_int.1;cases v2.inv_int.1;cases v3.inv_str.1
 obtain⟨_,_,rfl,u0,u_0⟩:=hu.inv_cons;obtain⟨_,_,rfl,u1,u_1⟩:=u_0.inv_cons;obtain⟨_,_,rfl,u2,u_2⟩:=u_1.inv_cons;obtain⟨_,_,rfl,u3,u_3⟩:=u_2.inv_cons
 cases u_3.inv_nil
 cases u0.inv_str.1;cases u1.inv_int.1;cases u2.inv_int.1;cases u3.inv_str.1
 exact EqV.to' (I5_ underlying59 (by kernel_rfl) (H6_ (by decide) ag9 rfl rfl (Oh_ underlying9) (H6_ (by decide) ag36 rfl rfl (C8_ underlying36) (H6_ (by decide) ag36 rfl rfl (C8_ underlying36) (H6_ (by decide) ag9 rfl rfl (Oh_ underlying9) I4_))))) (by obtain⟨a0,a1,a2,a3⟩:=p;obtain⟨b0,b1,b2,b3⟩:=q;rw[Bool.eq_iff_iff];simp)
theorem I8_ (m:Mail):Fn prog gb 95 [.agg (Mail.pc m)] (.int .i64 (F7_ m)):=by
 refine kG func95 ntmps95 λw N H hG=>?_;refine kB 11 [0] λB2=>?_;refine call (Es_ _) rfl rfl λw3=>?_;refine kA 9 ?_;refine cnd rfl (λh4=>?_) (λh4=>?_)
 . have h5:=Ek_ h4;have p6:=df h5;refine kA 8 ?_;refine rt1 rfl rfl (ple ?_);refine congrArg (PV.int .i64) ?_
   simp only[bl1] at *
   unfold F7_
   (repeat' split)<;>first|rfl|(exfalso;omega)|(exfalso;simp_all;done)|(exfalso;simp_all;omega)|grind
 have h7:=Di_ h4;have p8:=dt h7;refine kA 7 ?_;refine call (Zk_ _) rfl rfl λw9=>?_;refine kA 9 ?_;refine cnd rfl (λh10=>?_) (λh10=>?_)
 . have h11:=Ek_ h10;have p12:=df h11;refine kA 8 ?_;refine rt1 rfl rfl (ple ?_);refine congrArg (PV.int .i64) ?_
   simp only[bl1] at *
   unfold F7_
   (repeat' split)<;>first|rfl|(exfalso;omega)|(exfalso;simp_all;done)|(exfalso;simp_all;omega)|grind
 have h13:=Di_ h10;have p14:=dt h13;refine kA 7 ?_;refine call (Ka_ _) rfl rfl λw15=>?_;refine kA 11 ?_;refine cnd rfl (λh16=>?_) (λh16=>?_)
 . have h17:=Ek_ h16;have p18:=df h17;refine kA 9 ?_;refine rt1 rfl rfl (ple ?_);refine congrArg (PV.int .i64) ?_
   simp only[bl1] at *
   unfold F7_
   (repeat' split)<;>first|rfl|(exfalso;omega)|(exfalso;simp_all;done)|(exfalso;simp_all;omega)|grind
 have h19:=Di_ h16;have p20:=dt h19;refine kA 9 ?_;refine cnd rfl (λh21=>?_) (λh21=>?_)
 . have p22:=dt h21;refine kA 8 ?_;refine rt1 rfl rfl (ple ?_);refine congrArg (PV.int .i64) ?_
   simp only[bl1] at *
   unfold F7_
   (repeat' split)<;>first|rfl|(exfalso;omega)|(exfalso;simp_all;done)|(exfalso;simp_all;omega)|grind
 have p23:=df h21;refine kA 8 ?_;refine cnd rfl (λh24=>?_) (λh24=>?_)
 . have p25:=dt h24;refine kA 8 ?_;refine rt1 rfl rfl (ple ?_);refine congrArg (PV.int .i64) ?_
   simp only[bl1] at *
   unfold F7_
   (repeat' split)<;>first|rfl|(exfalso;omega)|(exfalso;simp_all;done)|(exfalso;simp_all;omega)|grind
 have p26:=df h24;refine kA 9 ?_;refine rt1 rfl rfl (ple ?_);refine congrArg (PV.int .i64) ?_
 simp only[bl1] at *
 unfold F7_
 (repeat' split)<;>first|rfl|(exfalso;omega)|(exfalso;simp_all;done)|(exfalso;simp_all;omega)|grind
theorem Lx_ (m:Mail):Fn prog gb 129 [.agg (Mail.pc m)] (.tup [.str (Bm_ m), .int .i64 (F7_ m)]):=by
 refine kG func129 ntmps129 λw N H hG=>?_;have m_w:=Mail.pwf w.1;have m_w':=m_w
 simp only[Mail.wf] at m_w'
 have m_head_k:=Mail.kd3 w.1;have m_head_k2:m.head.length<=140737488355328:=w.1.2.2.2.1.1;refine kB 11 [0] λB2=>?_;refine call (I8_ _) rfl rfl λw3=>?_;have :=M5_ m;have hmo3:=λh=>G1_ (m:=m) h;refine kA 9 ?_;refine cnd rfl (λh4=>?_) (λh4=>?_)
 . have h5:=Ek_ h4;have p6:=df h5;refine kA 9 ?_;refine rt2 rfl rfl ?_;refine ple ?_
   simp[Bm_,Ta_, *]
 have h7:=Di_ h4;have p8:=dt h7;refine kA 6 ?_;refine call (Lp_ _) rfl rfl λw9=>?_;have :=Gc_ m.head;refine kA 8 ?_;refine aN [1,2,3,4,5,6] 17 mixd ?_;refine kE [0,1,2] 14 ?_;refine vC 3 rfl (out_Num (⟨[],0⟩:Out) _ _ (by ((try have :=hrl (by assumption));first|omega|(simp[B_,Ao_,Aw_,numK]<;>omega)))) rfl λw10=>?_;have nl0:(⟨[],0⟩:Out).s.length=0:=rfl;have :=R_ (⟨[],0⟩:Out) m.id 8;refine kE [4,5] 11 ?_;refine vC 6 rfl (Dv_ _ _) rfl λw11=>?_;have :=At_ (B_ (⟨[],0⟩:Out) m.id 8) m.A9_;refine kE [7,8] 8 ?_;refine vC 9 rfl (Dv_ _ _) rfl λw12=>?_;have :=At_ (H_ (B_ (⟨[],0⟩:Out) m.id 8) m.A9_) m.key;refine kE [10] 6 ?_;refine vC 11 rfl (Ja_ _ _) rfl λw13=>?_;have :=Ec_ (H_ (H_ (B_ (⟨[],0⟩:Out) m.id 8) m.A9_) m.key) (Bg_ m.head);refine kE [12,13] 3 ?_;refine vC 14 rfl (Dv_ _ _) rfl λw14=>?_;have :=At_ (Ao_ (H_ (H_ (B_ (⟨[],0⟩:Out) m.id 8) m.A9_) m.key) (Bg_ m.head)) m.body;refine vE 15 rfl (aL F_ 1 λb15=>?_);refine vT 16 rfl (sA F_ ?_);refine vD ?_;refine kA 2 ?_;refine aN [2,3,4,5,6,7] 11 mixd ?_;refine kE [0,1,2] 8 ?_;refine vC 3 rfl (out_Num _ _ _ (by ((try have :=hrl (by assumption));first|omega|(simp[B_,Ao_,Aw_,numK]<;>omega)))) rfl λw16=>?_;have :=R_ (H_ (Ao_ (H_ (H_ (B_ (⟨[],0⟩:Out) m.id 8) m.A9_) m.key) (Bg_ m.head)) m.body) m.due 8;refine kE [4,5,6] 4 ?_;refine vC 7 rfl (out_Num _ _ _ (by ((try have :=hrl (by assumption));first|omega|(simp[B_,Ao_,Aw_,numK]<;>omega)))) rfl λw17=>?_;have :=R_ (B_ (H_ (Ao_ (H_ (H_ (B_ (⟨[],0⟩:Out) m.id 8) m.A9_) m.key) (Bg_ m.head)) m.body) m.due 8) m.hops 1;refine vC 8 rfl (Dp_ _) rfl λw18=>?_;refine kE [9,10] 0 ?_;refine vD ?_;refine kA 2 ?_;refine rt2 rfl rfl ?_;refine ple ?_
 simp[Bm_,Ta_, *]
theorem Uf_ (s:Bs):Fn prog gb 93 [.str s] (.int .i64 (J1_ s)):=by
 refine kG func93 ntmps93 λw N H hG=>?_;refine kA 12 ?_;refine cn rfl (λp2=>?_) λp3=>?_
 . refine kA 7 ?_;refine rt1 rfl rfl (ple ?_)
   simp[J1_, *]
 refine kA 5 ?_;refine call (Es_ _) rfl rfl λw4=>?_;refine kA 4 ?_;refine rt1 rfl rfl (ple ?_)
 simp[J1_, *]
theorem Lm_ (b:Bool) (e:Int):Fn prog gb 92 [.bool b, .int .i64 e] (.int .i64 (Hl_ b e)):=by
 refine kG func92 ntmps92 λw N H hG=>?_;refine kA 11 ?_;refine cnd rfl (λh1=>?_) (λh1=>?_)
 . refine kA 8 ?_;refine rt1 rfl rfl (ple ?_)
   simp[Hl_, *]
 refine kA 8 ?_;refine rt1 rfl rfl (ple ?_)
 simp[Hl_, *]
theorem Tc_ (a:Mail) (b:Mail):Fn prog gb 163 [.agg (Mail.pc a), .agg (Mail.pc b)] (.bool (decide (a=b))):=by
 refine kG func163 ntmps163 λw N H hG=>?_;refine kD 33 [0,1] λB2=>?_;refine callg rfl (λhc=>(Xk_ _ _)) rfl ⟨(λhc=>hc),(λhc=>hc),trivial⟩ rfl rfl λ_=>?_;refine kC 26 ?_;refine rt1 rfl rfl (ple ?_);exact congrArg PV.bool (by rw[Bool.eq_iff_iff];first|(simp[Mail.eq_iff,and_assoc];done)|(simp[Mail.eq_iff];grind))
theorem deed_Same (a:O_) (b:O_):Fn prog gb 88 [.agg (O_.pc a), .agg (O_.pc b)] (.bool (decide (a=b))):=by
 refine kG func88 ntmps88 λw N H hG=>?_;refine kD 26 [0,1] λB2=>?_;refine q1g [19,21] rfl (λhc=>saeq rfl rfl eqg57 (veq57 a.A9_ b.A9_)) ⟨(λhc=>hc),(λhc=>hc),trivial⟩ rfl rfl rfl λ_=>?_;refine kC 6 ?_;refine q1g [26,28] rfl (λhc=>saeq rfl rfl eqg59 (veq59 a.queue b.queue)) ⟨(λhc=>hc),(λhc=>hc),trivial⟩ rfl rfl rfl λ_=>?_;refine kC 6 ?_;refine callg rfl (λhc=>(Vh_ _ _)) rfl ⟨(λhc=>hc),(λhc=>hc),trivial⟩ rfl rfl λ_=>?_;refine kC 48 ?_;refine callg rfl (λhc=>(Tc_ _ _)) rfl ⟨(λhc=>hc),(λhc=>hc),trivial⟩ rfl rfl λ_=>?_;refine kC 12 ?_;refine rt1 rfl rfl (ple ?_);exact congrArg PV.bool (by rw[Bool.eq_iff_iff];first|(simp[O_.eq_iff,and_assoc];done)|(simp[O_.eq_iff];grind))
theorem deed_told (d:O_):Fn prog gb 89 [.agg (O_.pc d)] (.agg (O_.pc (G4_ d))):=by
 refine kG func89 ntmps89 λw N H hG=>?_;refine kB 31 [0,1,2] λB2=>?_;refine cn rfl (λp6=>?_) λp8=>?_
 . refine kB 15 [] λ_=>?_;refine rt1 rfl rfl (ple ?_);have e:G4_ d=(⟨d.kind,d.tick,d.A9_,(⟨[],0,0,[]⟩:U_),(⟨[],[],false,[],[],false⟩:Q_),[],0,0,0,0,0,(⟨0,[],[],[],[],0,0⟩:Mail),[]⟩:O_):=by
     unfold G4_
     repeat (first|rw[if_pos (by omega)]|rw[if_neg (by omega)])
     rfl
   rw[e];rfl
 refine kA 6 ?_;refine cn rfl (λp10=>?_) λp12=>?_
 . refine kB 15 [] λ_=>?_;refine rt1 rfl rfl (ple ?_);have e:G4_ d=(⟨d.kind,d.tick,(⟨[],0,[]⟩:W_),d.queue,(⟨[],[],false,[],[],false⟩:Q_),[],0,0,0,0,0,(⟨0,[],[],[],[],0,0⟩:Mail),[]⟩:O_):=by
     unfold G4_
     repeat (first|rw[if_pos (by omega)]|rw[if_neg (by omega)])
     rfl
   rw[e];rfl
 refine kA 7 ?_;refine cnd rfl (λh13=>?_) (λh13=>?_)
 . have p14:=dt h13;refine kA 2 ?_;refine cndT rfl h13 ?_;refine kB 15 [] λ_=>?_;refine rt1 rfl rfl (ple ?_);have e:G4_ d=(⟨d.kind,d.tick,(⟨[],0,[]⟩:W_),(⟨[],0,0,[]⟩:U_),d.bind,[],0,0,0,0,0,(⟨0,[],[],[],[],0,0⟩:Mail),[]⟩:O_):=by
     unfold G4_
     repeat (first|rw[if_pos (by omega)]|rw[if_neg (by omega)])
     rfl
   rw[e];rfl
 have p16:=df h13;refine kA 5 ?_;refine cn rfl (λp18=>?_) λp20=>?_
 . refine kB 15 [] λ_=>?_;refine rt1 rfl rfl (ple ?_);have e:G4_ d=(⟨d.kind,d.tick,(⟨[],0,[]⟩:W_),(⟨[],0,0,[]⟩:U_),d.bind,[],0,0,0,0,0,(⟨0,[],[],[],[],0,0⟩:Mail),[]⟩:O_):=by
     unfold G4_
     repeat (first|rw[if_pos (by omega)]|rw[if_neg (by omega)])
     rfl
   rw[e];rfl
 refine kA 6 ?_;refine cn rfl (λp22=>?_) λp24=>?_
 . refine kB 15 [] λ_=>?_;refine rt1 rfl rfl (ple ?_);have e:G4_ d=(⟨d.kind,d.tick,(⟨[],0,[]⟩:W_),(⟨[],0,0,[]⟩:U_),(⟨[],[],false,[],[],false⟩:Q_),[],0,0,0,0,0,d.Z_,[]⟩:O_):=by
     unfold G4_
     repeat (first|rw[if_pos (by omega)]|rw[if_neg (by omega)])
     rfl
   rw[e];rfl
 refine kA 7 ?_;refine cnd rfl (λh25=>?_) (λh25=>?_)
 . have p26:=dt h25;refine kA 2 ?_;refine cndT rfl h25 ?_;refine kB 15 [] λ_=>?_;refine rt1 rfl rfl (ple ?_);have e:G4_ d=(⟨d.kind,d.tick,(⟨[],0,[]⟩:W_),(⟨[],0,0,[]⟩:U_),(⟨[],[],false,[],[],false⟩:Q_),d.name,0,0,0,0,0,(⟨0,[],[],[],[],0,0⟩:Mail),[]⟩:O_):=by
     unfold G4_
     repeat (first|rw[if_pos (by omega)]|rw[if_neg (by omega)])
     rfl
   rw[e];rfl
 have p28:=df h25;refine kA 6 ?_;refine cnd rfl (λh29=>?_) (λh29=>?_)
 . have p30:=dt h29;refine kA 2 ?_;refine cndT rfl h29 ?_;refine kB 15 [] λ_=>?_;refine rt1 rfl rfl (ple ?_);have e:G4_ d=(⟨d.kind,d.tick,(⟨[],0,[]⟩:W_),(⟨[],0,0,[]⟩:U_),(⟨[],[],false,[],[],false⟩:Q_),d.name,0,0,0,0,0,(⟨0,[],[],[],[],0,0⟩:Mail),[]⟩:O_):=by
     unfold G4_
     repeat (first|rw[if_pos (by omega)]|rw[if_neg (by omega)])
     rfl
   rw[e];rfl
 have p32:=df h29;refine kA 5 ?_;refine cn rfl (λp34=>?_) λp36=>?_
 . refine kB 15 [] λ_=>?_;refine rt1 rfl rfl (ple ?_);have e:G4_ d=(⟨d.kind,d.tick,(⟨[],0,[]⟩:W_),(⟨[],0,0,[]⟩:U_),(⟨[],[],false,[],[],false⟩:Q_),d.name,0,0,0,0,0,(⟨0,[],[],[],[],0,0⟩:Mail),[]⟩:O_):=by
     unfold G4_
     repeat (first|rw[if_pos (by omega)]|rw[if_neg (by omega)])
     rfl
   rw[e];rfl
 refine kA 6 ?_;refine cn rfl (λp38=>?_) λp40=>?_
 . refine aN [2,3,4,5,6,7,8] 12 mixd ?_;refine kE [0,1,2,3,4,5,6] 5 ?_;refine vE 7 rfl (sO F_ ?_);refine kE [8] 3 ?_;refine vE 9 rfl (sO F_ ?_);refine kE [10] 1 ?_;refine vT 11 rfl (sO F_ ?_);refine vD ?_;refine kB 9 [] λ_=>?_;refine rt1 rfl rfl (ple ?_);have e:G4_ d=(⟨d.kind,d.tick,(⟨[],0,[]⟩:W_),(⟨[],0,0,[]⟩:U_),(⟨[],[],false,[],[],false⟩:Q_),d.name,d.id,d.how,0,0,0,(⟨0,[],[],[],[],0,0⟩:Mail),[]⟩:O_):=by
     unfold G4_
     repeat (first|rw[if_pos (by omega)]|rw[if_neg (by omega)])
     rfl
   rw[e];rfl
 refine kA 6 ?_;refine cn rfl (λp42=>?_) λp44=>?_
 . refine aN [2,3,4,5,6,7,8] 12 mixd ?_;refine kE [0,1,2,3,4,5,6] 5 ?_;refine vE 7 rfl (sO F_ ?_);refine kE [8] 3 ?_;refine vE 9 rfl (sO F_ ?_);refine kE [10] 1 ?_;refine vT 11 rfl (sA F_ ?_);refine vD ?_;refine kB 9 [] λ_=>?_;refine rt1 rfl rfl (ple ?_);have e:G4_ d=(⟨d.kind,d.tick,(⟨[],0,[]⟩:W_),(⟨[],0,0,[]⟩:U_),(⟨[],[],false,[],[],false⟩:Q_),[],0,0,d.frm,0,d.number,d.Z_,[]⟩:O_):=by
     unfold G4_
     repeat (first|rw[if_pos (by omega)]|rw[if_neg (by omega)])
     rfl
   rw[e];rfl
 refine kA 6 ?_;refine cn rfl (λp46=>?_) λp48=>?_
 . refine aN [2,3,4,5,6,7,8] 8 mixd ?_;refine kE [0,1,2,3,4] 3 ?_;refine vE 5 rfl (sO F_ ?_);refine kE [6] 1 ?_;refine vT 7 rfl (sO F_ ?_);refine vD ?_;refine kB 9 [] λ_=>?_;refine rt1 rfl rfl (ple ?_);have e:G4_ d=(⟨d.kind,d.tick,(⟨[],0,[]⟩:W_),(⟨[],0,0,[]⟩:U_),(⟨[],[],false,[],[],false⟩:Q_),[],0,0,0,d.code,0,(⟨0,[],[],[],[],0,0⟩:Mail),d.text⟩:O_):=by
     unfold G4_
     repeat (first|rw[if_pos (by omega)]|rw[if_neg (by omega)])
     rfl
   rw[e];rfl
 refine kB 10 [] λ_=>?_;refine rt1 rfl rfl (ple ?_);have e:G4_ d=(⟨d.kind,d.tick,(⟨[],0,[]⟩:W_),(⟨[],0,0,[]⟩:U_),(⟨[],[],false,[],[],false⟩:Q_),[],0,0,0,0,0,(⟨0,[],[],[],[],0,0⟩:Mail),[]⟩:O_):=by
   unfold G4_
   repeat (first|rw[if_pos (by omega)]|rw[if_neg (by omega)])
   rfl
 rw[e];rfl
theorem Ln_ (l:List Int):Fn prog gb 90 [.sl i64c l] (.int .i64 (Il_ l)):=by
 refine kG func90 ntmps90 λw N H hG=>?_;have l_l:l.length<=140737488355328:=w.1.1;refine kA 14 ?_;refine loop (ι:=Nat) [0,5,6] [] (λk=>[(7, .int .i64 (k:Int))]) (λk=>[]) (λk=>k<=l.length/\Il_ l=Il_ (l.drop k)) (λk=>l.length-k) 0 ⟨rfl,trivial⟩ trivial ?_ ?_
 . exact⟨Nat.zero_le _,rfl⟩
 rintro k hp1;obtain⟨hk1,hk2⟩:=hp1;refine kA 6 ?_;refine cn rfl (λp3=>?_) λp12=>?_
 . obtain⟨c4,hc5⟩:=getE (xs:=l) (m:=k) (by omega);refine kA 6 ?_;refine kI k hc5 λw6=>?_;refine kA 10 ?_;refine cnd rfl (λh7=>?_) (λh7=>?_)
   . have h8:=Ek_ h7;have p9:=df h8;refine kA 12 ?_;refine rt1 rfl rfl (ple ?_);refine congrArg (PV.int .i64) ?_
     rw[hk2,Eg_ hc5]
     unfold Il_
     rw[if_pos (by assumption)]
   have h10:=Di_ h7;have p11:=dt h10;refine kC 7 ?_;refine next (k+1) rfl rfl ⟨rfl,trivial⟩ trivial ?_ ?_
   . omega
   refine⟨by omega,?_⟩
   rw[hk2,Eg_ hc5]
   conv=>lhs;unfold Il_
   rw[if_neg (by omega)]
 refine kA 11 ?_;refine rt1 rfl rfl (ple ?_);refine congrArg (PV.int .i64) ?_
 rw[hk2,List.drop_of_length_le (by omega)]
 rfl
theorem Ue_ (d:O_):Fn prog gb 33 [.agg (O_.pc d)] (.int .i64 (Fs_ d)):=by
 refine kG func33 ntmps33 λw N H hG=>?_;refine kB 16 [0] λB2=>?_;refine cn rfl (λp4=>?_) λp5=>?_
 . refine kA 8 ?_;refine rt1 rfl rfl (ple ?_);refine congrArg (PV.int .i64) ?_
   unfold Fs_
   repeat (first|rw[if_pos (by omega)]|rw[if_neg (by omega)]|rw[if_pos (by assumption)]|rw[if_neg (not_not_intro (by assumption))])
   all_goals first|done|rfl
 refine kA 1 ?_;refine aN [1,2,3,4,5,6] 6 mixd ?_;refine kE [0,1] 4 ?_;refine vE 2 rfl (eC (deed_told _) rfl λw6=>?_);refine vC 3 rfl (deed_Same _ _) rfl λw7=>?_;refine kE [4,5] 0 ?_;refine vD ?_;refine kA 1 ?_;refine cnd rfl (λh8=>?_) (λh8=>?_)
 . have h9:=Ek_ h8;have p10:=df h9;refine kA 8 ?_;refine rt1 rfl rfl (ple ?_);refine congrArg (PV.int .i64) ?_
   unfold Fs_
   repeat (first|rw[if_pos (by omega)]|rw[if_neg (by omega)]|rw[if_pos (by assumption)]|rw[if_neg (not_not_intro (by assumption))])
   all_goals first|done|rfl
 have h11:=Di_ h8;have p12:=dt h11;refine kA 17 ?_;refine cn rfl (λp14=>?_) λp20=>?_
 . refine kA 1 ?_;refine aN [1,2,3,4,5,6] 16 mixd ?_;refine kE [0,1,2] 13 ?_;refine vC 3 rfl (Es_ _) rfl λw15=>?_;refine kE [4,5,6,7] 8 ?_;refine vC 8 rfl (Lm_ _ _) rfl λw16=>?_;refine kE [9,10,11] 4 ?_;refine vC 12 rfl (Uf_ _) rfl λw17=>?_;have :=Pn_ d.A9_.to';refine vE 13 rfl (bsl 1 i64c [Et_ d.A9_.name,Hl_ (decide (4<d.A9_.sort)) 8,J1_ d.A9_.to'] F_ rfl rfl rfl rfl rfl (λ_=>rfl) rfl (by decide) (by decide) rfl λu18=>?_);refine vE 14 rfl (calll 1 rfl (Ln_ _) rfl rfl rfl λw19=>?_);refine kE [15] 0 ?_;refine vD ?_;refine kA 4 ?_;refine rt1 rfl rfl (ple ?_);refine congrArg (PV.int .i64) ?_
   unfold Fs_
   repeat (first|rw[if_pos (by omega)]|rw[if_neg (by omega)]|rw[if_pos (by assumption)]|rw[if_neg (not_not_intro (by assumption))])
   all_goals first|done|rfl
 refine kA 6 ?_;refine cn rfl (λp22=>?_) λp27=>?_
 . refine kA 1 ?_;refine aN [1,2,3,4,5,6] 11 mixd ?_;refine kE [0,1,2] 8 ?_;refine vC 3 rfl (Es_ _) rfl λw23=>?_;refine kE [4,5,6] 4 ?_;refine vC 7 rfl (Uf_ _) rfl λw24=>?_;have :=Pn_ d.queue.dead;refine vE 8 rfl (bsl 1 i64c [Et_ d.queue.name,J1_ d.queue.dead] F_ rfl rfl rfl rfl rfl (λ_=>rfl) rfl (by decide) (by decide) rfl λu25=>?_);refine vE 9 rfl (calll 1 rfl (Ln_ _) rfl rfl rfl λw26=>?_);refine kE [10] 0 ?_;refine vD ?_;refine kA 4 ?_;refine rt1 rfl rfl (ple ?_);refine congrArg (PV.int .i64) ?_
   unfold Fs_
   repeat (first|rw[if_pos (by omega)]|rw[if_neg (by omega)]|rw[if_pos (by assumption)]|rw[if_neg (not_not_intro (by assumption))])
   all_goals first|done|rfl
 refine kA 7 ?_;refine cnd rfl (λh28=>?_) (λh28=>?_)
 . have p29:=dt h28;refine kA 2 ?_;refine cndT rfl h28 ?_;refine kB 9 [1] λB31=>?_;refine aN [2,3,4,5,6,7] 17 mixd ?_;refine kE [0,1] 15 ?_;refine vC 2 rfl (Es_ _) rfl λw32=>?_;refine kE [3,4] 12 ?_;refine vC 5 rfl (Es_ _) rfl λw33=>?_;refine kE [6,7,8,9] 7 ?_;refine vC 10 rfl (Lm_ _ _) rfl λw34=>?_;refine kE [11,12] 4 ?_;refine vC 13 rfl (Ka_ _) rfl λw35=>?_;refine vE 14 rfl (bsl 2 i64c [Et_ d.bind.A9_,Et_ d.bind.to',Hl_ (decide (64<(d.bind.key.length:Int))) 5,Gq_ d.bind.want] F_ rfl rfl rfl rfl rfl (λ_=>rfl) rfl (by decide) (by decide) rfl λu36=>?_);refine vE 15 rfl (calll 2 rfl (Ln_ _) rfl rfl rfl λw37=>?_);refine kE [16] 0 ?_;refine vD ?_;refine kA 4 ?_;refine rt1 rfl rfl (ple ?_);refine congrArg (PV.int .i64) ?_
   unfold Fs_
   repeat (first|rw[if_pos (by omega)]|rw[if_neg (by omega)]|rw[if_pos (by assumption)]|rw[if_neg (not_not_intro (by assumption))])
   all_goals first|done|rfl
 have p38:=df h28;refine kA 5 ?_;refine cn rfl (λp40=>?_) λp49=>?_
 . refine kB 9 [1] λB42=>?_;refine aN [2,3,4,5,6,7] 17 mixd ?_;refine kE [0,1] 15 ?_;refine vC 2 rfl (Es_ _) rfl λw43=>?_;refine kE [3,4] 12 ?_;refine vC 5 rfl (Es_ _) rfl λw44=>?_;refine kE [6,7,8,9] 7 ?_;refine vC 10 rfl (Lm_ _ _) rfl λw45=>?_;refine kE [11,12] 4 ?_;refine vC 13 rfl (Ka_ _) rfl λw46=>?_;refine vE 14 rfl (bsl 2 i64c [Et_ d.bind.A9_,Et_ d.bind.to',Hl_ (decide (64<(d.bind.key.length:Int))) 5,Gq_ d.bind.want] F_ rfl rfl rfl rfl rfl (λ_=>rfl) rfl (by decide) (by decide) rfl λu47=>?_);refine vE 15 rfl (calll 2 rfl (Ln_ _) rfl rfl rfl λw48=>?_);refine kE [16] 0 ?_;refine vD ?_;refine kA 4 ?_;refine rt1 rfl rfl (ple ?_);refine congrArg (PV.int .i64) ?_
   unfold Fs_
   repeat (first|rw[if_pos (by omega)]|rw[if_neg (by omega)]|rw[if_pos (by assumption)]|rw[if_neg (not_not_intro (by assumption))])
   all_goals first|done|rfl
 refine kA 7 ?_;refine cnd rfl (λh50=>?_) (λh50=>?_)
 . have p51:=dt h50;refine kA 2 ?_;refine cndT rfl h50 ?_;refine kA 4 ?_;refine call (I8_ _) rfl rfl λw52=>?_;have :=M5_ d.Z_;have hmo52:=λh=>G1_ (m:=d.Z_) h;refine kA 6 ?_;refine rt1 rfl rfl (ple ?_);refine congrArg (PV.int .i64) ?_
   unfold Fs_
   repeat (first|rw[if_pos (by omega)]|rw[if_neg (by omega)]|rw[if_pos (by assumption)]|rw[if_neg (not_not_intro (by assumption))])
   all_goals first|done|rfl
 have p53:=df h50;refine kA 5 ?_;refine cn rfl (λp55=>?_) λp57=>?_
 . refine kA 4 ?_;refine call (I8_ _) rfl rfl λw56=>?_;have :=M5_ d.Z_;have hmo56:=λh=>G1_ (m:=d.Z_) h;refine kA 6 ?_;refine rt1 rfl rfl (ple ?_);refine congrArg (PV.int .i64) ?_
   unfold Fs_
   repeat (first|rw[if_pos (by omega)]|rw[if_neg (by omega)]|rw[if_pos (by assumption)]|rw[if_neg (not_not_intro (by assumption))])
   all_goals first|done|rfl
 refine kA 7 ?_;refine cnd rfl (λh58=>?_) (λh58=>?_)
 . have p59:=dt h58;refine kA 2 ?_;refine cndT rfl h58 ?_;refine kA 8 ?_;refine rt1 rfl rfl (ple ?_);refine congrArg (PV.int .i64) ?_
   unfold Fs_
   repeat (first|rw[if_pos (by omega)]|rw[if_neg (by omega)]|rw[if_pos (by assumption)]|rw[if_neg (not_not_intro (by assumption))])
   all_goals first|done|rfl
 have p60:=df h58;refine kA 5 ?_;refine cn rfl (λp62=>?_) λp63=>?_
 . refine kA 8 ?_;refine rt1 rfl rfl (ple ?_);refine congrArg (PV.int .i64) ?_
   unfold Fs_
   repeat (first|rw[if_pos (by omega)]|rw[if_neg (by omega)]|rw[if_pos (by assumption)]|rw[if_neg (not_not_intro (by assumption))])
   all_goals first|done|rfl
 refine kA 6 ?_;refine cn rfl (λp65=>?_) λp67=>?_
 . refine kA 6 ?_;refine call (Lm_ _ _) rfl rfl λw66=>?_;refine kA 6 ?_;refine rt1 rfl rfl (ple ?_);refine congrArg (PV.int .i64) ?_
   unfold Fs_
   repeat (first|rw[if_pos (by omega)]|rw[if_neg (by omega)]|rw[if_pos (by assumption)]|rw[if_neg (not_not_intro (by assumption))])
   all_goals first|done|rfl
 refine kA 4 ?_;refine aN [1,2,3,4,5,6] 10 mixd ?_;refine kE [0,1] 8 ?_;refine vC 2 rfl (Es_ _) rfl λw68=>?_;refine kE [3,4,5] 4 ?_;refine vC 6 rfl (Lm_ _ _) rfl λw69=>?_;refine vE 7 rfl (bsl 1 i64c [Et_ d.name,Hl_ (decide (2<d.how)) 7] F_ rfl rfl rfl rfl rfl (λ_=>rfl) rfl (by decide) (by decide) rfl λu70=>?_);refine vE 8 rfl (calll 1 rfl (Ln_ _) rfl rfl rfl λw71=>?_);refine kE [9] 0 ?_;refine vD ?_;refine kA 2 ?_;refine rt1 rfl rfl (ple ?_);refine congrArg (PV.int .i64) ?_
 unfold Fs_
 repeat (first|rw[if_pos (by omega)]|rw[if_neg (by omega)]|rw[if_pos (by assumption)]|rw[if_neg (not_not_intro (by assumption))])
 all_goals first|done|rfl
theorem deed_Bytes (d:O_):Fn prog gb 262 [.agg (O_.pc d)] (.tup [.str (Cd_ d), .int .i64 (Fs_ d)]):=by
 refine kG func262 ntmps262 λw N H hG=>?_;have d_w:=O_.pwf w.1;have d_w':=d_w
 simp only[O_.wf,W_.wf,U_.wf,Q_.wf,Mail.wf] at d_w'
 have d_bind_want_k:=O_.kd13 w.1;have d_bind_want_k2:d.bind.want.length<=140737488355328:=w.1.2.2.2.2.2.2.2.2.2.2.2.2.2.1.1;have d_mail_head_k:=O_.kd24 w.1;have d_mail_head_k2:d.Z_.head.length<=140737488355328:=w.1.2.2.2.2.2.2.2.2.2.2.2.2.2.2.2.2.2.2.2.2.2.2.2.2.1.1;refine kB 11 [0] λB2=>?_;refine call (Ue_ _) rfl rfl λw3=>?_;have :=Zu_ d;refine kA 9 ?_;refine cnd rfl (λh4=>?_) (λh4=>?_)
 . have h5:=Ek_ h4;have p6:=df h5;refine kA 9 ?_;refine rt2 rfl rfl ?_;refine ple ?_;have e:Cd_ d=[]:=by
     unfold Cd_
     first
       |(rw[if_neg (by assumption)];done)
       |(rw[if_pos (by assumption)];unfold H4_;(repeat (first|rw[if_pos (by omega)]|rw[if_neg (by omega)]|rw[if_pos (by assumption)]|rw[if_neg (by assumption)]|rw[if_neg (not_not_intro (by assumption))]));first|done|rfl)
   rw[e]
   try (rw[show Fs_ d=0 by assumption])
 have h7:=Di_ h4;have p8:=dt h7;have hdk:=Vg_ (d:=d) (by omega) p8;obtain⟨dk1,dk2,dk3,dk4,dk5,dk6,dk7,dk8,dk9,dk10,dk11,dk12,dk13,dk14,dk15,dk16,dk17,dk18,dk19⟩:=hdk;refine kA 3 ?_;refine aN [1,2,3,4,5,6] 10 mixd ?_;refine kE [0,1,2,3] 6 ?_;refine vC 4 rfl (out_Num (⟨[],0⟩:Out) _ _ (by ((try have :=hrl (by assumption));first|omega|(simp[B_,Ao_,Aw_,numK]<;>omega)))) rfl λw9=>?_;have nl0:(⟨[],0⟩:Out).s.length=0:=rfl;have :=R_ (⟨[],0⟩:Out) d.kind 1;refine kE [5,6] 3 ?_;refine vC 7 rfl (out_Num _ _ _ (by ((try have :=hrl (by assumption));first|omega|(simp[B_,Ao_,Aw_,numK]<;>omega)))) rfl λw10=>?_;have :=R_ (B_ (⟨[],0⟩:Out) d.kind 1) d.tick 8;refine vE 8 rfl (aL F_ 1 λb11=>?_);refine vT 9 rfl (sA F_ ?_);refine vD ?_;refine kA 5 ?_;refine call (Lx_ _) rfl rfl λw12=>?_;have :=Ft_ d.Z_;refine kA 21 ?_;refine cn rfl (λp14=>?_) λp19=>?_
 . refine aN [2,3,4,5,6,7] 15 mixd ?_;refine kE [0,1,2,3] 11 ?_;refine vC 4 rfl (Dv_ _ _) rfl λw15=>?_;have :=At_ (B_ (B_ (⟨[],0⟩:Out) d.kind 1) d.tick 8) d.A9_.name;refine kE [5,6,7,8] 6 ?_;refine vC 9 rfl (out_Num _ _ _ (by ((try have :=hrl (by assumption));first|omega|(simp[B_,Ao_,Aw_,numK]<;>omega)))) rfl λw16=>?_;have :=R_ (H_ (B_ (B_ (⟨[],0⟩:Out) d.kind 1) d.tick 8) d.A9_.name) d.A9_.sort 1;refine kE [10,11,12] 2 ?_;refine vC 13 rfl (Dv_ _ _) rfl λw17=>?_;have :=At_ (B_ (H_ (B_ (B_ (⟨[],0⟩:Out) d.kind 1) d.tick 8) d.A9_.name) d.A9_.sort 1) d.A9_.to';refine vT 14 rfl (sA F_ ?_);refine vD ?_;refine kA 5 ?_;refine call (Dp_ _) rfl rfl λw18=>?_;refine kA 5 ?_;refine rt2 rfl rfl ?_;refine ple ?_;have e:Cd_ d=(H_ (B_ (H_ (B_ (B_ (⟨[],0⟩:Out) d.kind 1) d.tick 8) d.A9_.name) d.A9_.sort 1) d.A9_.to').s:=by
     unfold Cd_
     first
       |(rw[if_neg (by assumption)];done)
       |(rw[if_pos (by assumption)];unfold H4_;(repeat (first|rw[if_pos (by omega)]|rw[if_neg (by omega)]|rw[if_pos (by assumption)]|rw[if_neg (by assumption)]|rw[if_neg (not_not_intro (by assumption))]));first|done|rfl)
   rw[e]
   try (rw[show Fs_ d=0 by assumption])
 refine kA 6 ?_;refine cn rfl (λp21=>?_) λp27=>?_
 . refine aN [2,3,4,5,6,7] 18 mixd ?_;refine kE [0,1,2,3] 14 ?_;refine vC 4 rfl (Dv_ _ _) rfl λw22=>?_;have :=At_ (B_ (B_ (⟨[],0⟩:Out) d.kind 1) d.tick 8) d.queue.name;refine kE [5,6,7] 10 ?_;refine vC 8 rfl (out_Num _ _ _ (by ((try have :=hrl (by assumption));first|omega|(simp[B_,Ao_,Aw_,numK]<;>omega)))) rfl λw23=>?_;have :=R_ (H_ (B_ (B_ (⟨[],0⟩:Out) d.kind 1) d.tick 8) d.queue.name) d.queue.most 8;refine kE [9,10,11] 6 ?_;refine vC 12 rfl (out_Num _ _ _ (by ((try have :=hrl (by assumption));first|omega|(simp[B_,Ao_,Aw_,numK]<;>omega)))) rfl λw24=>?_;have :=R_ (B_ (H_ (B_ (B_ (⟨[],0⟩:Out) d.kind 1) d.tick 8) d.queue.name) d.queue.most 8) d.queue.life 8;refine kE [13,14,15] 2 ?_;refine vC 16 rfl (Dv_ _ _) rfl λw25=>?_;have :=At_ (B_ (B_ (H_ (B_ (B_ (⟨[],0⟩:Out) d.kind 1) d.tick 8) d.queue.name) d.queue.most 8) d.queue.life 8) d.queue.dead;refine vT 17 rfl (sA F_ ?_);refine vD ?_;refine kA 5 ?_;refine call (Dp_ _) rfl rfl λw26=>?_;refine kA 5 ?_;refine rt2 rfl rfl ?_;refine ple ?_;have e:Cd_ d=(H_ (B_ (B_ (H_ (B_ (B_ (⟨[],0⟩:Out) d.kind 1) d.tick 8) d.queue.name) d.queue.most 8) d.queue.life 8) d.queue.dead).s:=by
     unfold Cd_
     first
       |(rw[if_neg (by assumption)];done)
       |(rw[if_pos (by assumption)];unfold H4_;(repeat (first|rw[if_pos (by omega)]|rw[if_neg (by omega)]|rw[if_pos (by assumption)]|rw[if_neg (by assumption)]|rw[if_neg (not_not_intro (by assumption))]));first|done|rfl)
   rw[e]
   try (rw[show Fs_ d=0 by assumption])
 refine kA 7 ?_;refine cnd rfl (λh28=>?_) (λh28=>?_)
 . have p29:=dt h28;refine kA 2 ?_;refine cndT rfl h28 ?_;refine kB 12 [2] λB31=>?_;refine call (Lp_ _) rfl rfl λw32=>?_;have :=Gc_ d.bind.want;refine kA 7 ?_;refine aN [3,4,5,6,7,8] 21 mixd ?_;refine kE [0,1,2] 18 ?_;refine vC 3 rfl (Dv_ _ _) rfl λw33=>?_;have :=At_ (B_ (B_ (⟨[],0⟩:Out) d.kind 1) d.tick 8) d.bind.A9_;refine kE [4,5] 15 ?_;refine vC 6 rfl (Dv_ _ _) rfl λw34=>?_;have :=At_ (H_ (B_ (B_ (⟨[],0⟩:Out) d.kind 1) d.tick 8) d.bind.A9_) d.bind.to';refine kE [7,8] 12 ?_;refine vC 9 rfl (Q6_ _) rfl λw35=>?_;refine vC 10 rfl (out_Num _ _ _ (by ((try have :=hrl (by assumption));first|omega|(simp[B_,Ao_,Aw_,numK]<;>omega)))) rfl λw36=>?_;have :=R_ (H_ (H_ (B_ (B_ (⟨[],0⟩:Out) d.kind 1) d.tick 8) d.bind.A9_) d.bind.to') (bitN d.bind.up) 1;refine kE [11,12] 8 ?_;refine vC 13 rfl (Dv_ _ _) rfl λw37=>?_;have :=At_ (B_ (H_ (H_ (B_ (B_ (⟨[],0⟩:Out) d.kind 1) d.tick 8) d.bind.A9_) d.bind.to') (bitN d.bind.up) 1) d.bind.key;refine kE [14] 6 ?_;refine vC 15 rfl (Ja_ _ _) rfl λw38=>?_;have :=Ec_ (H_ (B_ (H_ (H_ (B_ (B_ (⟨[],0⟩:Out) d.kind 1) d.tick 8) d.bind.A9_) d.bind.to') (bitN d.bind.up) 1) d.bind.key) (Bg_ d.bind.want);refine kE [16,17] 3 ?_;refine vC 18 rfl (Q6_ _) rfl λw39=>?_;refine vC 19 rfl (out_Num _ _ _ (by ((try have :=hrl (by assumption));first|omega|(simp[B_,Ao_,Aw_,numK]<;>omega)))) rfl λw40=>?_;have :=R_ (Ao_ (H_ (B_ (H_ (H_ (B_ (B_ (⟨[],0⟩:Out) d.kind 1) d.tick 8) d.bind.A9_) d.bind.to') (bitN d.bind.up) 1) d.bind.key) (Bg_ d.bind.want)) (bitN d.bind.all) 1;refine vT 20 rfl (sA F_ ?_);refine vD ?_;refine kA 5 ?_;refine call (Dp_ _) rfl rfl λw41=>?_;refine kA 5 ?_;refine rt2 rfl rfl ?_;refine ple ?_;have e:Cd_ d=(B_ (Ao_ (H_ (B_ (H_ (H_ (B_ (B_ (⟨[],0⟩:Out) d.kind 1) d.tick 8) d.bind.A9_) d.bind.to') (bitN d.bind.up) 1) d.bind.key) (Bg_ d.bind.want)) (bitN d.bind.all) 1).s:=by
     unfold Cd_
     first
       |(rw[if_neg (by assumption)];done)
       |(rw[if_pos (by assumption)];unfold H4_;(repeat (first|rw[if_pos (by omega)]|rw[if_neg (by omega)]|rw[if_pos (by assumption)]|rw[if_neg (by assumption)]|rw[if_neg (not_not_intro (by assumption))]));first|done|rfl)
   rw[e]
   try (rw[show Fs_ d=0 by assumption])
 have p42:=df h28;refine kA 5 ?_;refine cn rfl (λp44=>?_) λp57=>?_
 . refine kB 12 [2] λB46=>?_;refine call (Lp_ _) rfl rfl λw47=>?_;have :=Gc_ d.bind.want;refine kA 7 ?_;refine aN [3,4,5,6,7,8] 21 mixd ?_;refine kE [0,1,2] 18 ?_;refine vC 3 rfl (Dv_ _ _) rfl λw48=>?_;have :=At_ (B_ (B_ (⟨[],0⟩:Out) d.kind 1) d.tick 8) d.bind.A9_;refine kE [4,5] 15 ?_;refine vC 6 rfl (Dv_ _ _) rfl λw49=>?_;have :=At_ (H_ (B_ (B_ (⟨[],0⟩:Out) d.kind 1) d.tick 8) d.bind.A9_) d.bind.to';refine kE [7,8] 12 ?_;refine vC 9 rfl (Q6_ _) rfl λw50=>?_;refine vC 10 rfl (out_Num _ _ _ (by ((try have :=hrl (by assumption));first|omega|(simp[B_,Ao_,Aw_,numK]<;>omega)))) rfl λw51=>?_;have :=R_ (H_ (H_ (B_ (B_ (⟨[],0⟩:Out) d.kind 1) d.tick 8) d.bind.A9_) d.bind.to') (bitN d.bind.up) 1;refine kE [11,12] 8 ?_;refine vC 13 rfl (Dv_ _ _) rfl λw52=>?_;have :=At_ (B_ (H_ (H_ (B_ (B_ (⟨[],0⟩:Out) d.kind 1) d.tick 8) d.bind.A9_) d.bind.to') (bitN d.bind.up) 1) d.bind.key;refine kE [14] 6 ?_;refine vC 15 rfl (Ja_ _ _) rfl λw53=>?_;have :=Ec_ (H_ (B_ (H_ (H_ (B_ (B_ (⟨[],0⟩:Out) d.kind 1) d.tick 8) d.bind.A9_) d.bind.to') (bitN d.bind.up) 1) d.bind.key) (Bg_ d.bind.want);refine kE [16,17] 3 ?_;refine vC 18 rfl (Q6_ _) rfl λw54=>?_;refine vC 19 rfl (out_Num _ _ _ (by ((try have :=hrl (by assumption));first|omega|(simp[B_,Ao_,Aw_,numK]<;>omega)))) rfl λw55=>?_;have :=R_ (Ao_ (H_ (B_ (H_ (H_ (B_ (B_ (⟨[],0⟩:Out) d.kind 1) d.tick 8) d.bind.A9_) d.bind.to') (bitN d.bind.up) 1) d.bind.key) (Bg_ d.bind.want)) (bitN d.bind.all) 1;refine vT 20 rfl (sA F_ ?_);refine vD ?_;refine kA 5 ?_;refine call (Dp_ _) rfl rfl λw56=>?_;refine kA 5 ?_;refine rt2 rfl rfl ?_;refine ple ?_;have e:Cd_ d=(B_ (Ao_ (H_ (B_ (H_ (H_ (B_ (B_ (⟨[],0⟩:Out) d.kind 1) d.tick 8) d.bind.A9_) d.bind.to') (bitN d.bind.up) 1) d.bind.key) (Bg_ d.bind.want)) (bitN d.bind.all) 1).s:=by
     unfold Cd_
     first
       |(rw[if_neg (by assumption)];done)
       |(rw[if_pos (by assumption)];unfold H4_;(repeat (first|rw[if_pos (by omega)]|rw[if_neg (by omega)]|rw[if_pos (by assumption)]|rw[if_neg (by assumption)]|rw[if_neg (not_not_intro (by assumption))]));first|done|rfl)
   rw[e]
   try (rw[show Fs_ d=0 by assumption])
 refine kA 6 ?_;refine cn rfl (λp59=>?_) λp63=>?_
 . refine kA 3 ?_;refine call (Ja_ _ _) rfl rfl λw60=>?_;have :=Ec_ (B_ (B_ (⟨[],0⟩:Out) d.kind 1) d.tick 8) (Bm_ d.Z_);refine kB 7 [] λ_=>?_;refine call (Dp_ _) rfl rfl λw62=>?_;refine kA 5 ?_;refine rt2 rfl rfl ?_;refine ple ?_;have e:Cd_ d=(Ao_ (B_ (B_ (⟨[],0⟩:Out) d.kind 1) d.tick 8) (Bm_ d.Z_)).s:=by
     unfold Cd_
     first
       |(rw[if_neg (by assumption)];done)
       |(rw[if_pos (by assumption)];unfold H4_;(repeat (first|rw[if_pos (by omega)]|rw[if_neg (by omega)]|rw[if_pos (by assumption)]|rw[if_neg (by assumption)]|rw[if_neg (not_not_intro (by assumption))]));first|done|rfl)
   rw[e]
   try (rw[show Fs_ d=0 by assumption])
 refine kA 7 ?_;refine cnd rfl (λh64=>?_) (λh64=>?_)
 . have p65:=dt h64;refine kA 2 ?_;refine cndT rfl h64 ?_;refine kA 4 ?_;refine call (Dv_ _ _) rfl rfl λw66=>?_;have :=At_ (B_ (B_ (⟨[],0⟩:Out) d.kind 1) d.tick 8) d.name;refine kB 7 [] λ_=>?_;refine call (Dp_ _) rfl rfl λw68=>?_;refine kA 5 ?_;refine rt2 rfl rfl ?_;refine ple ?_;have e:Cd_ d=(H_ (B_ (B_ (⟨[],0⟩:Out) d.kind 1) d.tick 8) d.name).s:=by
     unfold Cd_
     first
       |(rw[if_neg (by assumption)];done)
       |(rw[if_pos (by assumption)];unfold H4_;(repeat (first|rw[if_pos (by omega)]|rw[if_neg (by omega)]|rw[if_pos (by assumption)]|rw[if_neg (by assumption)]|rw[if_neg (not_not_intro (by assumption))]));first|done|rfl)
   rw[e]
   try (rw[show Fs_ d=0 by assumption])
 have p69:=df h64;refine kA 6 ?_;refine cnd rfl (λh70=>?_) (λh70=>?_)
 . have p71:=dt h70;refine kA 2 ?_;refine cndT rfl h70 ?_;refine kA 4 ?_;refine call (Dv_ _ _) rfl rfl λw72=>?_;have :=At_ (B_ (B_ (⟨[],0⟩:Out) d.kind 1) d.tick 8) d.name;refine kB 7 [] λ_=>?_;refine call (Dp_ _) rfl rfl λw74=>?_;refine kA 5 ?_;refine rt2 rfl rfl ?_;refine ple ?_;have e:Cd_ d=(H_ (B_ (B_ (⟨[],0⟩:Out) d.kind 1) d.tick 8) d.name).s:=by
     unfold Cd_
     first
       |(rw[if_neg (by assumption)];done)
       |(rw[if_pos (by assumption)];unfold H4_;(repeat (first|rw[if_pos (by omega)]|rw[if_neg (by omega)]|rw[if_pos (by assumption)]|rw[if_neg (by assumption)]|rw[if_neg (not_not_intro (by assumption))]));first|done|rfl)
   rw[e]
   try (rw[show Fs_ d=0 by assumption])
 have p75:=df h70;refine kA 5 ?_;refine cn rfl (λp77=>?_) λp81=>?_
 . refine kA 4 ?_;refine call (Dv_ _ _) rfl rfl λw78=>?_;have :=At_ (B_ (B_ (⟨[],0⟩:Out) d.kind 1) d.tick 8) d.name;refine kB 7 [] λ_=>?_;refine call (Dp_ _) rfl rfl λw80=>?_;refine kA 5 ?_;refine rt2 rfl rfl ?_;refine ple ?_;have e:Cd_ d=(H_ (B_ (B_ (⟨[],0⟩:Out) d.kind 1) d.tick 8) d.name).s:=by
     unfold Cd_
     first
       |(rw[if_neg (by assumption)];done)
       |(rw[if_pos (by assumption)];unfold H4_;(repeat (first|rw[if_pos (by omega)]|rw[if_neg (by omega)]|rw[if_pos (by assumption)]|rw[if_neg (by assumption)]|rw[if_neg (not_not_intro (by assumption))]));first|done|rfl)
   rw[e]
   try (rw[show Fs_ d=0 by assumption])
 refine kA 6 ?_;refine cn rfl (λp83=>?_) λp88=>?_
 . refine aN [2,3,4,5,6,7] 12 mixd ?_;refine kE [0,1,2] 9 ?_;refine vC 3 rfl (Dv_ _ _) rfl λw84=>?_;have :=At_ (B_ (B_ (⟨[],0⟩:Out) d.kind 1) d.tick 8) d.name;refine kE [4,5] 6 ?_;refine vC 6 rfl (out_Num _ _ _ (by ((try have :=hrl (by assumption));first|omega|(simp[B_,Ao_,Aw_,numK]<;>omega)))) rfl λw85=>?_;have :=R_ (H_ (B_ (B_ (⟨[],0⟩:Out) d.kind 1) d.tick 8) d.name) d.id 8;refine kE [7,8,9] 2 ?_;refine vC 10 rfl (out_Num _ _ _ (by ((try have :=hrl (by assumption));first|omega|(simp[B_,Ao_,Aw_,numK]<;>omega)))) rfl λw86=>?_;have :=R_ (B_ (H_ (B_ (B_ (⟨[],0⟩:Out) d.kind 1) d.tick 8) d.name) d.id 8) d.how 1;refine vT 11 rfl (sA F_ ?_);refine vD ?_;refine kA 5 ?_;refine call (Dp_ _) rfl rfl λw87=>?_;refine kA 5 ?_;refine rt2 rfl rfl ?_;refine ple ?_;have e:Cd_ d=(B_ (B_ (H_ (B_ (B_ (⟨[],0⟩:Out) d.kind 1) d.tick 8) d.name) d.id 8) d.how 1).s:=by
     unfold Cd_
     first
       |(rw[if_neg (by assumption)];done)
       |(rw[if_pos (by assumption)];unfold H4_;(repeat (first|rw[if_pos (by omega)]|rw[if_neg (by omega)]|rw[if_pos (by assumption)]|rw[if_neg (by assumption)]|rw[if_neg (not_not_intro (by assumption))]));first|done|rfl)
   rw[e]
   try (rw[show Fs_ d=0 by assumption])
 refine kA 6 ?_;refine cn rfl (λp90=>?_) λp95=>?_
 . refine aN [2,3,4,5,6,7] 11 mixd ?_;refine kE [0,1,2,3] 7 ?_;refine vC 4 rfl (out_Num _ _ _ (by ((try have :=hrl (by assumption));first|omega|(simp[B_,Ao_,Aw_,numK]<;>omega)))) rfl λw91=>?_;have :=R_ (B_ (B_ (⟨[],0⟩:Out) d.kind 1) d.tick 8) d.frm 1;refine kE [5,6] 4 ?_;refine vC 7 rfl (out_Num _ _ _ (by ((try have :=hrl (by assumption));first|omega|(simp[B_,Ao_,Aw_,numK]<;>omega)))) rfl λw92=>?_;have :=R_ (B_ (B_ (B_ (⟨[],0⟩:Out) d.kind 1) d.tick 8) d.frm 1) d.number 8;refine kE [8] 2 ?_;refine vC 9 rfl (Ja_ _ _) rfl λw93=>?_;have :=Ec_ (B_ (B_ (B_ (B_ (⟨[],0⟩:Out) d.kind 1) d.tick 8) d.frm 1) d.number 8) (Bm_ d.Z_);refine vT 10 rfl (sA F_ ?_);refine vD ?_;refine kA 5 ?_;refine call (Dp_ _) rfl rfl λw94=>?_;refine kA 5 ?_;refine rt2 rfl rfl ?_;refine ple ?_;have e:Cd_ d=(Ao_ (B_ (B_ (B_ (B_ (⟨[],0⟩:Out) d.kind 1) d.tick 8) d.frm 1) d.number 8) (Bm_ d.Z_)).s:=by
     unfold Cd_
     first
       |(rw[if_neg (by assumption)];done)
       |(rw[if_pos (by assumption)];unfold H4_;(repeat (first|rw[if_pos (by omega)]|rw[if_neg (by omega)]|rw[if_pos (by assumption)]|rw[if_neg (by assumption)]|rw[if_neg (not_not_intro (by assumption))]));first|done|rfl)
   rw[e]
   try (rw[show Fs_ d=0 by assumption])
 refine kA 6 ?_;refine cn rfl (λp97=>?_) λp101=>?_
 . refine aN [2,3,4,5,6,7] 9 mixd ?_;refine kE [0,1,2,3] 5 ?_;refine vC 4 rfl (out_Num _ _ _ (by ((try have :=hrl (by assumption));first|omega|(simp[B_,Ao_,Aw_,numK]<;>omega)))) rfl λw98=>?_;have :=R_ (B_ (B_ (⟨[],0⟩:Out) d.kind 1) d.tick 8) d.code 1;refine kE [5,6] 2 ?_;refine vC 7 rfl (Dv_ _ _) rfl λw99=>?_;have :=At_ (B_ (B_ (B_ (⟨[],0⟩:Out) d.kind 1) d.tick 8) d.code 1) d.text;refine vT 8 rfl (sA F_ ?_);refine vD ?_;refine kA 5 ?_;refine call (Dp_ _) rfl rfl λw100=>?_;refine kA 5 ?_;refine rt2 rfl rfl ?_;refine ple ?_;have e:Cd_ d=(H_ (B_ (B_ (B_ (⟨[],0⟩:Out) d.kind 1) d.tick 8) d.code 1) d.text).s:=by
     unfold Cd_
     first
       |(rw[if_neg (by assumption)];done)
       |(rw[if_pos (by assumption)];unfold H4_;(repeat (first|rw[if_pos (by omega)]|rw[if_neg (by omega)]|rw[if_pos (by assumption)]|rw[if_neg (by assumption)]|rw[if_neg (not_not_intro (by assumption))]));first|done|rfl)
   rw[e]
   try (rw[show Fs_ d=0 by assumption])
 refine kA 6 ?_;refine call (Dp_ _) rfl rfl λw102=>?_;refine kA 5 ?_;refine rt2 rfl rfl ?_;refine ple ?_;have e:Cd_ d=(B_ (B_ (⟨[],0⟩:Out) d.kind 1) d.tick 8).s:=by
   unfold Cd_
   first
     |(rw[if_neg (by assumption)];done)
     |(rw[if_pos (by assumption)];unfold H4_;(repeat (first|rw[if_pos (by omega)]|rw[if_neg (by omega)]|rw[if_pos (by assumption)]|rw[if_neg (by assumption)]|rw[if_neg (not_not_intro (by assumption))]));first|done|rfl)
 rw[e]
 try (rw[show Fs_ d=0 by assumption])
theorem cb202:An_ prog 202:=Ad_ func202 (by kernel_rfl) (by kernel_rfl)
theorem Yr_ (i:In):Fm prog gb 202 [] 211 (In.pc i) (.agg (Mail.pc (((Dz_ i)).1))) (In.pc (((Dz_ i)).2)):=by
 refine P5_ F_ func202 rfl ntmps202 rfl cb202 rfl rfl rfl rfl λw wp b N H hG=>?_;refine kB 8 [1] λB2=>?_;refine ef (ecallm (E2_ _ _) rfl rfl rfl rfl rfl λw3 w3p=>?_);have :=Bs_ i 8;generalize hg5:Y_ i 8=g4 at *;refine kB 8 [2] λB7=>?_;refine ef (ecallm (Ho_ _ _) rfl rfl rfl rfl rfl λw8 w8p=>?_);have :=Cp_ ((g4).2) 16;generalize hg10:X_ ((g4).2) 16=g9 at *;refine kB 7 [] λ_=>?_;refine ef (ecallm (Ho_ _ _) rfl rfl rfl rfl rfl λw12 w12p=>?_);have :=Cp_ ((g9).2) 64;generalize hg14:X_ ((g9).2) 64=g13 at *;refine kB 7 [] λ_=>?_;refine ef (ecallm (Xj_ _) rfl rfl rfl rfl rfl λw16 w16p=>?_);have :=Mx_ ((g13).2);generalize hg18:Bt_ ((g13).2)=g17 at *;refine kB 7 [] λ_=>?_;refine ef (ecallm (Ho_ _ _) rfl rfl rfl rfl rfl λw20 w20p=>?_);have :=Cp_ ((g17).2) 256;generalize hg22:X_ ((g17).2) 256=g21 at *;refine kB 7 [] λ_=>?_;refine ef (ecallm (E2_ _ _) rfl rfl rfl rfl rfl λw24 w24p=>?_);have :=Bs_ ((g21).2) 8;generalize hg26:Y_ ((g21).2) 8=g25 at *;refine kB 7 [] λ_=>?_;refine ef (ecallm (E2_ _ _) rfl rfl rfl rfl rfl λw28 w28p=>?_);have :=Bs_ ((g25).2) 1;generalize hg30:Y_ ((g25).2) 1=g29 at *;refine q1 (qconv F_ rfl rfl rfl rfl (rg_u8 (by omega))) rfl λw31=>?_;refine kB 8 [] λ_=>?_;refine ef (ecallm (Hn_ _) rfl rfl rfl rfl rfl λw33 w33p=>?_);refine kA 3 ?_;refine cnd rfl (λh34=>?_) (λh34=>?_)
 . have p35:=dt h34;refine kA 3 ?_;refine call (I8_ (⟨(g4).1,(g9).1,(g13).1,(g17).1,(g21).1,(g25).1,(g29).1⟩:Mail)) rfl rfl λw36=>?_;have :=M5_ (⟨(g4).1,(g9).1,(g13).1,(g17).1,(g21).1,(g25).1,(g29).1⟩:Mail);have hmo36:=λh=>G1_ (m:=(⟨(g4).1,(g9).1,(g13).1,(g17).1,(g21).1,(g25).1,(g29).1⟩:Mail)) h;refine ef (ecallm (H5_ _ _) rfl rfl rfl rfl rfl λw37 w37p=>?_);refine kA 6 ?_;refine ef (ecallm (Hn_ _) rfl rfl rfl rfl rfl λw38 w38p=>?_);refine kA 3 ?_;refine cnd rfl (λh39=>?_) (λh39=>?_)
   . have h40:=Ek_ h39;have p41:=df h40;refine kB 8 [] λ_=>?_;refine rm1 rfl rfl ?_ rfl rfl rfl ?_
     . have e:Dz_ i=((⟨0,[],[],[],[],0,0⟩:Mail),(Bl_ ((g29).2) (F7_ (⟨(g4).1,(g9).1,(g13).1,(g17).1,(g21).1,(g25).1,(g29).1⟩:Mail)))):=by unfold Dz_;simp only;(repeat first|simp only[hg5,hg10,hg14,hg18,hg22,hg26,hg30]|rw[if_pos (by omega)]|rw[if_neg (by omega)]);all_goals first|rfl|(simp[*];done)|(simp[*];rfl)
       exact ple (by first|(rw[e];done)|(rw[e];rfl))
     have e:Dz_ i=((⟨0,[],[],[],[],0,0⟩:Mail),(Bl_ ((g29).2) (F7_ (⟨(g4).1,(g9).1,(g13).1,(g17).1,(g21).1,(g25).1,(g29).1⟩:Mail)))):=by unfold Dz_;simp only;(repeat first|simp only[hg5,hg10,hg14,hg18,hg22,hg26,hg30]|rw[if_pos (by omega)]|rw[if_neg (by omega)]);all_goals first|rfl|(simp[*];done)|(simp[*];rfl)
     exact ples (by first|(rw[e];done)|(rw[e];rfl))
   have h43:=Di_ h39;have p44:=dt h43;refine kB 9 [] λ_=>?_;refine rm1 rfl rfl ?_ rfl rfl rfl ?_
   . have e:Dz_ i=((⟨(g4).1,(g9).1,(g13).1,(g17).1,(g21).1,(g25).1,(g29).1⟩:Mail),(Bl_ ((g29).2) (F7_ (⟨(g4).1,(g9).1,(g13).1,(g17).1,(g21).1,(g25).1,(g29).1⟩:Mail)))):=by unfold Dz_;simp only;(repeat first|simp only[hg5,hg10,hg14,hg18,hg22,hg26,hg30]|rw[if_pos (by omega)]|rw[if_neg (by omega)]);all_goals first|rfl|(simp[*];done)|(simp[*];rfl)
     exact ple (by first|(rw[e];done)|(rw[e];rfl))
   have e:Dz_ i=((⟨(g4).1,(g9).1,(g13).1,(g17).1,(g21).1,(g25).1,(g29).1⟩:Mail),(Bl_ ((g29).2) (F7_ (⟨(g4).1,(g9).1,(g13).1,(g17).1,(g21).1,(g25).1,(g29).1⟩:Mail)))):=by unfold Dz_;simp only;(repeat first|simp only[hg5,hg10,hg14,hg18,hg22,hg26,hg30]|rw[if_pos (by omega)]|rw[if_neg (by omega)]);all_goals first|rfl|(simp[*];done)|(simp[*];rfl)
   exact ples (by first|(rw[e];done)|(rw[e];rfl))
 have p46:=df h34;refine kA 6 ?_;refine ef (ecallm (Hn_ _) rfl rfl rfl rfl rfl λw47 w47p=>?_);refine kA 3 ?_;refine cndT rfl (by rw[h34]<;>rfl) ?_;refine kB 8 [] λ_=>?_;refine rm1 rfl rfl ?_ rfl rfl rfl ?_
 . have e:Dz_ i=((⟨0,[],[],[],[],0,0⟩:Mail),((g29).2)):=by unfold Dz_;simp only;(repeat first|simp only[hg5,hg10,hg14,hg18,hg22,hg26,hg30]|rw[if_pos (by omega)]|rw[if_neg (by omega)]);all_goals first|rfl|(simp[*];done)|(simp[*];rfl)
   exact ple (by first|(rw[e];done)|(rw[e];rfl))
 have e:Dz_ i=((⟨0,[],[],[],[],0,0⟩:Mail),((g29).2)):=by unfold Dz_;simp only;(repeat first|simp only[hg5,hg10,hg14,hg18,hg22,hg26,hg30]|rw[if_pos (by omega)]|rw[if_neg (by omega)]);all_goals first|rfl|(simp[*];done)|(simp[*];rfl)
 exact ples (by first|(rw[e];done)|(rw[e];rfl))
theorem r4_Name (s:Bs):Fn prog gb 84 [.str s] (.int .i64 (Et_ s)):=by
 refine kG func84 ntmps84 λw N H hG=>?_;refine kA 13 ?_;refine cn rfl (λp2=>?_) λp3=>?_
 . refine kA 7 ?_;refine rt1 rfl rfl (ple ?_);have :s=[]:=List.eq_nil_of_length_eq_zero (by omega);subst this
   rfl
 refine kA 10 ?_;refine cn rfl (λp5=>?_) λp6=>?_
 . refine kA 7 ?_;refine rt1 rfl rfl (ple ?_);have hne:¬s=[]:=λq=>by subst q;simp at *
   unfold Et_
   rw[if_neg hne,if_pos (by omega)]
 refine kA 9 ?_;refine loop (ι:=Nat) [0,4,5,6,7,8,9] [] (λk=>[(3, .int .i64 (k:Int))]) (λk=>[]) (λk=>k<=s.length/\(s.drop k).all (λc=>letter c.toNat)=plain s) (λk=>s.length-k) 0 ⟨rfl,trivial⟩ trivial ?_ ?_
 . exact⟨by omega,rfl⟩
 rintro k hp7;obtain⟨hk1,hk2⟩:=hp7;refine kA 9 ?_;refine cn rfl (λp9=>?_) λp15=>?_
 . have :=u8r (s.getD k 0);refine kA 8 ?_;refine q1 (sidx F_ k rfl rfl rfl rfl rfl (by omega)) rfl λw10=>?_;refine call (r4_letter _) rfl rfl λw11=>?_;refine kA 3 ?_;refine cnd rfl (λh12=>?_) (λh12=>?_)
   . have h13:=Ek_ h12;refine kA 11 ?_;refine rt1 rfl rfl (ple ?_);have hne:¬s=[]:=λq=>by subst q;simp at *
     unfold Et_
     rw[if_neg hne,if_neg (by omega),<- hk2,Um_ (k:=k) (by omega)]
     simp only[*,Bool.false_and,Bool.false_eq_true,if_false]
   have h14:=Di_ h12;refine kC 8 ?_;refine next (k+1) rfl rfl ⟨rfl,trivial⟩ trivial ?_ ?_
   . omega
   refine⟨by omega,?_⟩
   rw[<- hk2,Um_ (k:=k) (by omega)]
   simp only[*,Bool.true_and]
 refine kA 11 ?_;refine rt1 rfl rfl (ple ?_);have hne:¬s=[]:=λq=>by subst q;simp at *
 unfold Et_
 rw[if_neg hne,if_neg (by omega),<- hk2,List.drop_of_length_le (by omega)]
 rfl
theorem r9_Same (a:List Pair) (b:List Pair):Fn prog gb 206 [.sl Pair.pc a, .sl Pair.pc b] (.bool (decide (a=b))):=by
 refine kG func206 ntmps206 λw N H hG=>?_;have a_l:a.length<=140737488355328:=w.1.1;have b_l:b.length<=140737488355328:=w.2.1.1;refine kA 15 ?_;refine cnd rfl (λh1=>?_) (λh1=>?_)
 . have h2:=Ek_ h1;have p3:=df h2;refine kA 7 ?_;refine rt1 rfl rfl (ple ?_);exact congrArg PV.bool (Rx_ (by assumption)).symm
 have h4:=Di_ h1;have p5:=dt h4;refine kA 11 ?_;refine loop (ι:=Nat) [0,1,6,7,8,9,10,11,12] [] (λk=>[(13, .int .i64 (k:Int))]) (λk=>[]) (λk=>k<=a.length /\ decide (a=b) = decide (a.drop k=b.drop k)) (λk=>a.length-k) 0 ⟨rfl,trivial⟩ trivial ?_ ?_
 . exact⟨Nat.zero_le _,rfl⟩
 rintro k hp6;obtain⟨hk1,hk2⟩:=hp6;refine kA 6 ?_;refine cnd rfl (λh7=>?_) (λh7=>?_)
 . have p8:=dt h7;refine kA 11 ?_;refine aN [0,1,2,3,4,5] 9 mixd ?_;refine kE [0,1] 7 ?_;obtain⟨c9,hc10⟩:=getE (xs:=a) (m:=k) (by omega);have c9_w:=Pair.pwf (w.1.2 c9 (List.mem_of_getElem? hc10));refine vq 2 (qidx F_ k rfl rfl rfl hc10 rfl rfl rfl rfl) rfl (by kernel_rfl) rfl λw11=>?_;refine kE [3,4,5] 3 ?_;obtain⟨c12,hc13⟩:=getE (xs:=b) (m:=k) (by omega);have c12_w:=Pair.pwf (w.2.1.2 c12 (List.mem_of_getElem? hc13));refine vq 6 (qidx F_ k rfl rfl rfl hc13 rfl rfl rfl rfl) rfl (by kernel_rfl) rfl λw14=>?_;refine kE [7] 1 ?_;refine vq 8 (sane rfl rfl eqg225 (veq225 c9 c12)) rfl (by kernel_rfl) rfl λw15=>?_;refine vD ?_;refine kA 1 ?_;refine cnd rfl (λh16=>?_) (λh16=>?_)
   . have h17:=Ek_ h16;have p18:=df h17;refine kA 11 ?_;refine rt1 rfl rfl (ple ?_);exact congrArg PV.bool (O3_ hk2 (Eg_ hc10) (Eg_ hc13) (by assumption)).symm
   have h19:=Di_ h16;have p20:=dt h19;refine kC 7 ?_;refine next (k+1) rfl rfl ⟨rfl,trivial⟩ trivial ?_ ?_
   . omega
   exact⟨by omega,O4_ hk2 (Eg_ hc10) (Eg_ hc13) (by assumption)⟩
 have p21:=df h7;refine kA 11 ?_;refine rt1 rfl rfl (ple ?_);exact congrArg PV.bool (Rw_ hk2 (by omega) (by omega)).symm
theorem X0_ (h:List Pair):Fn prog gb 86 [.sl Pair.pc h] (.bool (Pg_ h)):=by
 refine kG func86 ntmps86 λw N H hG=>?_;refine kA 13 ?_;refine cn rfl (λp2=>?_) λp3=>?_
 . refine kA 7 ?_;refine rt1 rfl rfl (ple ?_);exact congrArg PV.bool (by simp[Pg_];omega)
 refine kA 11 ?_;refine loop (ι:=Nat) [0,5,6,7,8,9] [] (λk=>[(10, .int .i64 (k:Int))]) (λk=>[]) (λk=>k<=h.length/\h.all Yh_=(h.drop k).all Yh_) (λk=>h.length-k) 0 ⟨rfl,trivial⟩ trivial ?_ ?_
 . exact⟨Nat.zero_le _,rfl⟩
 rintro k hp4;obtain⟨hk1,hk2⟩:=hp4;refine kA 6 ?_;refine cn rfl (λp6=>?_) λp17=>?_
 . obtain⟨c7,hc8⟩:=getE (xs:=h) (m:=k) (by omega);have c7_w:=Pair.pwf (w.1.2 c7 (List.mem_of_getElem? hc8));refine kA 6 ?_;refine kI k hc8 λw9=>?_;refine kD 19 [0] λB11=>?_;refine cnd rfl (λh12=>?_) (λh12=>?_)
   . refine kA 11 ?_;refine rt1 rfl rfl (ple ?_);exact congrArg PV.bool (by unfold Pg_;rw[all_miss hk2 (Eg_ hc8) (by simp[Yh_];first|omega|grind)];simp)
   have h13:=orl h12;have p14:=df h13;have h15:=orr h12;have p16:=df h15;refine kC 7 ?_;refine next (k+1) rfl rfl ⟨rfl,trivial⟩ trivial ?_ ?_
   . omega
   exact⟨by omega,all_step hk2 (Eg_ hc8) (by simp[Yh_];omega)⟩
 refine kA 11 ?_;refine rt1 rfl rfl (ple ?_);exact congrArg PV.bool (by unfold Pg_;rw[all_end hk2 (by omega)];simp;omega)
theorem l13_Light (m:Mail):Fn prog gb 87 [.agg (Mail.pc m)] (.bool (Qa_ m)):=by
 refine kG func87 ntmps87 λw N H hG=>?_;have m_w:=Mail.pwf w.1;have m_w':=m_w
 simp only[Mail.wf] at m_w'
 have m_head_k:=Mail.kd3 w.1;have m_head_k2:m.head.length<=140737488355328:=w.1.2.2.2.1.1;refine kD 21 [0] λB2=>?_;refine callg rfl (λhc=>(X0_ _)) rfl ⟨(λhc=>hc),trivial⟩ rfl rfl λ_=>?_;refine kC 11 ?_;refine rt1 rfl rfl (ple ?_);refine congrArg PV.bool ?_
 unfold Qa_
 first|(simp only[*,Bool.and_true,Bool.true_and,Bool.false_and,Bool.and_false,decide_true,decide_false];done)|(rw[Bool.eq_iff_iff];simp[and_assoc];done)|(rw[Bool.eq_iff_iff];simp;grind)
theorem l22_Light (d:O_):Fn prog gb 31 [.agg (O_.pc d)] (.bool (Pf_ d)):=by
 refine kG func31 ntmps31 λw N H hG=>?_;have d_w:=O_.pwf w.1;have d_w':=d_w
 simp only[O_.wf,W_.wf,U_.wf,Q_.wf,Mail.wf] at d_w'
 have d_bind_want_k:=O_.kd13 w.1;have d_bind_want_k2:d.bind.want.length<=140737488355328:=w.1.2.2.2.2.2.2.2.2.2.2.2.2.2.1.1;have d_mail_head_k:=O_.kd24 w.1;have d_mail_head_k2:d.Z_.head.length<=140737488355328:=w.1.2.2.2.2.2.2.2.2.2.2.2.2.2.2.2.2.2.2.2.2.2.2.2.2.1.1;refine kB 35 [0] λB2=>?_;refine q1 (qmaxN (z:=(d.A9_.name.length:Int)) (r:=(max (max (max (max (max (max (d.A9_.name.length:Int) (d.A9_.to'.length:Int)) (d.queue.name.length:Int)) (d.queue.dead.length:Int)) (d.bind.A9_.length:Int)) (d.bind.to'.length:Int)) (d.name.length:Int))) [(d.A9_.to'.length:Int),(d.queue.name.length:Int),(d.queue.dead.length:Int),(d.bind.A9_.length:Int),(d.bind.to'.length:Int),(d.name.length:Int)] rfl rfl (Qt_ (by omega))) rfl λw3=>?_;refine kC 22 ?_;refine callg rfl (λhc=>(X0_ _)) rfl ⟨(λhc=>hc),trivial⟩ rfl rfl λ_=>?_;refine kC 4 ?_;refine callg rfl (λhc=>(l13_Light _)) rfl ⟨(λhc=>hc),trivial⟩ rfl rfl λ_=>?_;refine kC 5 ?_;refine rt1 rfl rfl (ple ?_);refine congrArg PV.bool ?_
 unfold Pf_
 first|(simp only[*,Bool.and_true,Bool.true_and,Bool.false_and,Bool.and_false,decide_true,decide_false];done)|(rw[Bool.eq_iff_iff];simp[and_assoc];done)|(rw[Bool.eq_iff_iff];simp;grind)
theorem r13_Same (a:Mail) (b:Mail):Fn prog gb 133 [.agg (Mail.pc a), .agg (Mail.pc b)] (.bool (decide (a=b))):=by
 refine kG func133 ntmps133 λw N H hG=>?_;refine kD 33 [0,1] λB2=>?_;refine callg rfl (λhc=>(r9_Same _ _)) rfl ⟨(λhc=>hc),(λhc=>hc),trivial⟩ rfl rfl λ_=>?_;refine kC 26 ?_;refine rt1 rfl rfl (ple ?_);exact congrArg PV.bool (by rw[Bool.eq_iff_iff];first|(simp[Mail.eq_iff,and_assoc];done)|(simp[Mail.eq_iff];grind))
theorem U0_ (r:Rule):Fn prog gb 200 [.agg (Rule.pc r)] (.int .i64 (Px_ r)):=by
 refine kG func200 ntmps200 λw N H hG=>?_;have r_w:=Rule.pwf w.1;have r_w':=r_w
 simp only[Rule.wf] at r_w'
 have r_want_k:=Rule.kd2 w.1;have r_want_k2:r.want.length<=140737488355328:=w.1.2.2.1.1;refine kB 21 [0] λB2=>?_;refine cn rfl (λp4=>?_) λp5=>?_
 . refine kA 8 ?_;refine rt1 rfl rfl (ple ?_);refine congrArg (PV.int .i64) ?_
   (try simp only[bl1] at *)
   unfold Px_
   repeat (first|rw[if_pos (by omega)]|rw[if_neg (by omega)])
   all_goals first|done|rfl|omega
 refine kA 8 ?_;refine cn rfl (λp7=>?_) λp15=>?_
 . refine kA 3 ?_;refine call (Zk_ _) rfl rfl λw8=>?_;refine kA 11 ?_;refine cnd rfl (λh9=>?_) (λh9=>?_)
   . have h10:=Ek_ h9;have p11:=df h10;refine kA 8 ?_;refine rt1 rfl rfl (ple ?_);refine congrArg (PV.int .i64) ?_
     (try simp only[bl1] at *)
     unfold Px_
     repeat (first|rw[if_pos (by omega)]|rw[if_neg (by omega)])
     all_goals first|done|rfl|omega
   have h12:=Di_ h9;have p13:=dt h12;refine kA 6 ?_;refine call (Ka_ _) rfl rfl λw14=>?_;refine kA 4 ?_;refine rt1 rfl rfl (ple ?_);refine congrArg (PV.int .i64) ?_
   (try simp only[bl1] at *)
   unfold Px_
   repeat (first|rw[if_pos (by omega)]|rw[if_neg (by omega)])
   all_goals first|done|rfl|omega
 refine kA 3 ?_;refine call (Wy_ _) rfl rfl λw16=>?_;refine kA 11 ?_;refine cnd rfl (λh17=>?_) (λh17=>?_)
 . have h18:=Ek_ h17;have p19:=df h18;refine kA 8 ?_;refine rt1 rfl rfl (ple ?_);refine congrArg (PV.int .i64) ?_
   (try simp only[bl1] at *)
   unfold Px_
   repeat (first|rw[if_pos (by omega)]|rw[if_neg (by omega)])
   all_goals first|done|rfl|omega
 have h20:=Di_ h17;have p21:=dt h20;refine kA 6 ?_;refine call (Ka_ _) rfl rfl λw22=>?_;refine kA 4 ?_;refine rt1 rfl rfl (ple ?_);refine congrArg (PV.int .i64) ?_
 (try simp only[bl1] at *)
 unfold Px_
 repeat (first|rw[if_pos (by omega)]|rw[if_neg (by omega)])
 all_goals first|done|rfl|omega
theorem rule_heads (r:Rule) (h:List Pair):Fn prog gb 270 [.agg (Rule.pc r), .sl Pair.pc h] (.bool (Lg_ r.all h r.want)):=by
 refine kG func270 ntmps270 λw N H hG=>?_;have r_want_l:r.want.length<=140737488355328:=w.1.2.2.1.1;have h_l:h.length<=140737488355328:=w.2.1.1;refine kB 20 [0] λB2=>?_;refine loop (ι:=Nat) [0,1,2,10,11,12] [0] (λk=>[(13, .int .i64 (k:Int))]) (λk=>[]) (λk=>k<=r.want.length/\Lg_ r.all h r.want=Lg_ r.all h (r.want.drop k)) (λk=>r.want.length-k) 0 ⟨rfl,trivial⟩ trivial ?_ ?_
 . exact⟨Nat.zero_le _,rfl⟩
 rintro k hp3;obtain⟨hk1,hk2⟩:=hp3;refine kA 6 ?_;refine cn rfl (λp5=>?_) λp25=>?_
 . obtain⟨c6,hc7⟩:=getE (xs:=r.want) (m:=k) (by omega);have c6_w:=Pair.pwf (w.1.2.2.1.2 c6 (List.mem_of_getElem? hc7));refine kA 6 ?_;refine kI k hc7 λw8=>?_;refine kB 10 [1] λB10=>?_;refine call (Xi_ _ _) rfl rfl λw11=>?_;refine kB 14 [2] λB13=>?_;refine q1g [26,27] rfl (λhc=>saeq rfl rfl eqg225 (veq225 ((T0_ h c6.key).getD Pair.zero) c6)) ⟨(λhc=>hc),(λhc=>hc),trivial⟩ rfl rfl rfl λ_=>?_;refine kC 15 ?_;refine cnd rfl (λh14=>?_) (λh14=>?_)
   . have h15:=bl h14;have h16:=bl h15;have h17:=br h15;have p18:=dt h17;have h19:=br h14;refine kC 8 ?_;refine next (k+1) rfl rfl ⟨rfl,trivial⟩ trivial ?_ ?_
     . omega
     refine⟨by omega,?_⟩
     rw[hk2,Eg_ hc7]
     simp only[Lg_]
     first|(simp only[hasP];simp[*];done)|(unfold hasP;simp_all;done)|(unfold hasP;grind)
   refine kA 6 ?_;refine cnd rfl (λh20=>?_) (λh20=>?_)
   . have h21:=bl h20;have h22:=br h20;have p23:=dt h22;refine kA 13 ?_;refine rt1 rfl rfl (ple ?_);refine congrArg PV.bool ?_
     rw[hk2,Eg_ hc7]
     simp only[Lg_]
     first|(simp only[hasP];simp[*];done)|(unfold hasP;simp_all;done)|(unfold hasP;grind)
   refine kA 7 ?_;refine cnd rfl (λh24=>?_) (λh24=>?_)
   . refine kA 13 ?_;refine rt1 rfl rfl (ple ?_);refine congrArg PV.bool ?_
     rw[hk2,Eg_ hc7]
     simp only[Lg_]
     first|(simp only[hasP];simp[*];done)|(unfold hasP;simp_all;done)|(unfold hasP;grind)
   refine kC 8 ?_;refine next (k+1) rfl rfl ⟨rfl,trivial⟩ trivial ?_ ?_
   . omega
   refine⟨by omega,?_⟩
   rw[hk2,Eg_ hc7]
   simp only[Lg_]
   first|(simp only[hasP];simp[*];done)|(unfold hasP;simp_all;done)|(unfold hasP;grind)
 refine kA 14 ?_;refine rt1 rfl rfl (ple ?_);refine congrArg PV.bool ?_
 rw[hk2,List.drop_of_length_le (by omega)]
 rfl
theorem Tp_ (r:Rule) (key:Bs) (h:List Pair) (hrk:r.key.length<4294967281:=by first|omega|(simp;done)|decide) (hk:key.length<4294967281:=by first|omega|(simp;done)|decide):Fn prog gb 228 [.agg (Rule.pc r), .str key, .sl Pair.pc h] (.bool (P7_ r key h)):=by
 refine kG func228 ntmps228 λw N H hG=>?_;refine kB 20 [0] λB2=>?_;refine cn rfl (λp4=>?_) λp5=>?_
 . refine kA 12 ?_;refine rt1 rfl rfl (ple ?_);refine congrArg PV.bool ?_
   first|(simp[P7_, *];done)|(simp[P7_, *];omega)
 refine kA 6 ?_;refine cn rfl (λp7=>?_) λp9=>?_
 . refine kA 5 ?_;refine call (J9_ _ _) rfl rfl λw8=>?_;refine kA 6 ?_;refine rt1 rfl rfl (ple ?_);refine congrArg PV.bool ?_
   first|(simp[P7_, *];done)|(simp[P7_, *];omega)
 refine kA 6 ?_;refine cn rfl (λp11=>?_) λp13=>?_
 . refine kA 4 ?_;refine call (rule_heads _ _) rfl rfl λw12=>?_;refine kA 6 ?_;refine rt1 rfl rfl (ple ?_);refine congrArg PV.bool ?_
   first|(simp[P7_, *];done)|(simp[P7_, *];omega)
 refine kA 9 ?_;refine rt1 rfl rfl (ple ?_);refine congrArg PV.bool ?_
 first|(simp[P7_, *];done)|(simp[P7_, *];omega)
theorem match_Same (a:Rule) (b:Rule):Fn prog gb 207 [.agg (Rule.pc a), .agg (Rule.pc b)] (.bool (decide (a=b))):=by
 refine kG func207 ntmps207 λw N H hG=>?_;refine kD 33 [0,1] λB2=>?_;refine callg rfl (λhc=>(eq_Pair _ _)) rfl ⟨(λhc=>hc),(λhc=>hc),trivial⟩ rfl rfl λ_=>?_;refine kC 5 ?_;refine rt1 rfl rfl (ple ?_);exact congrArg PV.bool (by rw[Bool.eq_iff_iff];first|(simp[Rule.eq_iff,and_assoc];done)|(simp[Rule.eq_iff];grind))
theorem eq_Str (a:List Bs) (b:List Bs):Fn prog gb 24 [.sl strc a, .sl strc b] (.bool (decide (a=b))):=by
 refine kG func24 ntmps24 λw N H hG=>?_;have a_l:a.length<=140737488355328:=w.1.1;have b_l:b.length<=140737488355328:=w.2.1.1;refine kA 15 ?_;refine cnd rfl (λh1=>?_) (λh1=>?_)
 . have h2:=Ek_ h1;have p3:=df h2;refine kA 7 ?_;refine rt1 rfl rfl (ple ?_);exact congrArg PV.bool (Rx_ (by assumption)).symm
 have h4:=Di_ h1;have p5:=dt h4;refine kA 11 ?_;refine loop (ι:=Nat) [0,1,6,7,8,9,10,11,12] [] (λk=>[(13, .int .i64 (k:Int))]) (λk=>[]) (λk=>k<=a.length /\ decide (a=b) = decide (a.drop k=b.drop k)) (λk=>a.length-k) 0 ⟨rfl,trivial⟩ trivial ?_ ?_
 . exact⟨Nat.zero_le _,rfl⟩
 rintro k hp6;obtain⟨hk1,hk2⟩:=hp6;refine kA 6 ?_;refine cnd rfl (λh7=>?_) (λh7=>?_)
 . have p8:=dt h7;refine kA 11 ?_;refine aN [0,1,2,3,4,5] 9 mixd ?_;refine kE [0,1] 7 ?_;obtain⟨c9,hc10⟩:=getE (xs:=a) (m:=k) (by omega);have c9_l:c9.length<=9223372036854775807:=(w.1.2 c9 (List.mem_of_getElem? hc10)).1;refine vq 2 (qidx F_ k rfl rfl rfl hc10 rfl rfl rfl rfl) rfl (by kernel_rfl) rfl λw11=>?_;refine kE [3,4,5] 3 ?_;obtain⟨c12,hc13⟩:=getE (xs:=b) (m:=k) (by omega);have c12_l:c12.length<=9223372036854775807:=(w.2.1.2 c12 (List.mem_of_getElem? hc13)).1;refine vq 6 (qidx F_ k rfl rfl rfl hc13 rfl rfl rfl rfl) rfl (by kernel_rfl) rfl λw14=>?_;refine kE [7,8] 0 ?_;refine vD ?_;refine kA 1 ?_;refine cnd rfl (λh15=>?_) (λh15=>?_)
   . have h16:=Ek_ h15;have p17:=df h16;refine kA 11 ?_;refine rt1 rfl rfl (ple ?_);exact congrArg PV.bool (O3_ hk2 (Eg_ hc10) (Eg_ hc13) (by assumption)).symm
   have h18:=Di_ h15;have p19:=dt h18;refine kC 7 ?_;refine next (k+1) rfl rfl ⟨rfl,trivial⟩ trivial ?_ ?_
   . omega
   exact⟨by omega,O4_ hk2 (Eg_ hc10) (Eg_ hc13) (by assumption)⟩
 have p20:=df h7;refine kA 11 ?_;refine rt1 rfl rfl (ple ?_);exact congrArg PV.bool (Rw_ hk2 (by omega) (by omega)).symm
theorem index_Str (l:List Bs) (x:Bs):Fn prog gb 294 [.sl strc l, .str x] (.int .i64 (idxP (λy=>decide (x=y)) l)):=by
 refine kG func294 ntmps294 λw N H hG=>?_;have l_l:l.length<=140737488355328:=w.1.1;have x_l:x.length<=9223372036854775807:=w.2.1;refine kA 14 ?_;refine loop (ι:=Nat) [0,1,6,7] [] (λk=>[(8, .int .i64 (k:Int))]) (λk=>[]) (λk=>k<=l.length/\idxP (λy=>decide (x=y)) l=idxF (λy=>decide (x=y)) k (l.drop k)) (λk=>l.length-k) 0 ⟨rfl,trivial⟩ trivial ?_ ?_
 . exact⟨Nat.zero_le _,rfl⟩
 rintro k hp1;obtain⟨hik1,hik2⟩:=hp1;refine kA 6 ?_;refine cnd rfl (λh2=>?_) (λh2=>?_)
 . have p3:=dt h2;obtain⟨c4,hc5⟩:=getE (xs:=l) (m:=k) (by omega);have c4_l:c4.length<=9223372036854775807:=(w.1.2 c4 (List.mem_of_getElem? hc5)).1;refine kA 15 ?_;refine kI k hc5 λw6=>?_;refine kA 4 ?_;refine cnd rfl (λh7=>?_) (λh7=>?_)
   . have p8:=dt h7;refine kA 12 ?_;refine rt1 rfl rfl (ple ?_);exact congrArg (PV.int .i64) (L8_ hik2 (Eg_ hc5) (by first|assumption|(simp[*];done))).symm
   have p9:=df h7;refine kC 7 ?_;refine next (k+1) rfl rfl ⟨rfl,trivial⟩ trivial ?_ ?_
   . omega
   exact⟨by omega,J4_ hik2 (Eg_ hc5) (by assumption)⟩
 have p10:=df h2;refine kA 11 ?_;refine rt1 rfl rfl (ple ?_);exact congrArg (PV.int .i64) (L7_ hik2 (by omega)).symm
theorem W6_ (l:List Bs) (x:Bs):Fn prog gb 271 [.sl strc l, .str x] (.bool (decide (x∈l))):=by
 refine kG func271 ntmps271 λw N H hG=>?_;refine kA 9 ?_;refine call (index_Str _ _) rfl rfl λw1=>?_;have :=idxP_r (λy=>decide (x=y)) l;refine kA 5 ?_;refine rt1 rfl rfl (ple ?_);refine congrArg PV.bool ?_
 rw[Bool.eq_iff_iff,decide_eq_true_eq,decide_eq_true_eq,idxP_any]
 simp
theorem shop_check (x:W_):Fn prog gb 192 [.agg (W_.pc x)] (.int .i64 (Jy_ x)):=by
 refine kG func192 ntmps192 λw N H hG=>?_;refine kB 11 [0] λB2=>?_;refine call (Es_ _) rfl rfl λw3=>?_;refine kA 9 ?_;refine cnd rfl (λh4=>?_) (λh4=>?_)
 . have h5:=Ek_ h4;have p6:=df h5;refine kA 8 ?_;refine rt1 rfl rfl (ple ?_);refine congrArg (PV.int .i64) ?_
   simp only[bl1] at *
   unfold Jy_
   (repeat' split)<;>first|rfl|(exfalso;omega)|(exfalso;simp_all;done)|(exfalso;simp_all;omega)|grind
 have h7:=Di_ h4;have p8:=dt h7;refine kA 12 ?_;refine cnd rfl (λh9=>?_) (λh9=>?_)
 . have p10:=dt h9;refine kA 8 ?_;refine rt1 rfl rfl (ple ?_);refine congrArg (PV.int .i64) ?_
   simp only[bl1] at *
   unfold Jy_
   (repeat' split)<;>first|rfl|(exfalso;omega)|(exfalso;simp_all;done)|(exfalso;simp_all;omega)|grind
 have p11:=df h9;refine kA 8 ?_;refine cnd rfl (λh12=>?_) (λh12=>?_)
 . have p13:=dt h12;refine kA 4 ?_;refine call (Es_ _) rfl rfl λw14=>?_;refine kA 6 ?_;refine rt1 rfl rfl (ple ?_);refine congrArg (PV.int .i64) ?_
   simp only[bl1] at *
   unfold Jy_
   (repeat' split)<;>first|rfl|(exfalso;omega)|(exfalso;simp_all;done)|(exfalso;simp_all;omega)|grind
 have p15:=df h12;refine kA 8 ?_;refine cnd rfl (λh16=>?_) (λh16=>?_)
 . have h17:=Ek_ h16;have p18:=df h17;refine kA 8 ?_;refine rt1 rfl rfl (ple ?_);refine congrArg (PV.int .i64) ?_
   simp only[bl1] at *
   unfold Jy_
   (repeat' split)<;>first|rfl|(exfalso;omega)|(exfalso;simp_all;done)|(exfalso;simp_all;omega)|grind
 have h19:=Di_ h16;have p20:=dt h19;refine kA 9 ?_;refine rt1 rfl rfl (ple ?_);refine congrArg (PV.int .i64) ?_
 simp only[bl1] at *
 unfold Jy_
 (repeat' split)<;>first|rfl|(exfalso;omega)|(exfalso;simp_all;done)|(exfalso;simp_all;omega)|grind
theorem O0_ (b:Ap_) (name:Bs):Fn prog gb 173 [.agg (Ap_.pc b), .str name] (.tup [.agg (W_.pc ((Ef_ b.Ba_ name).getD W_.zero)), .bool ((Ef_ b.Ba_ name).isSome)]):=by
 refine kG func173 ntmps173 λw N H hG=>?_;have b_shops_l:b.Ba_.length<=140737488355328:=w.1.1.1;have b_binds_l:b.binds.length<=140737488355328:=w.1.2.1.1;have name_l:name.length<=9223372036854775807:=w.2.1;refine kB 17 [0,1] λB2=>?_;refine loop (ι:=Nat) [0,1,2,4,8,9,10] [0,1] (λk=>[(11, .int .i64 (k:Int))]) (λk=>[]) (λk=>k<=b.Ba_.length/\Ef_ b.Ba_ name=Ef_ (b.Ba_.drop k) name) (λk=>b.Ba_.length-k) 0 ⟨rfl,trivial⟩ trivial ?_ ?_
 . exact⟨Nat.zero_le _,rfl⟩
 rintro k hp4;obtain⟨hk1,hk2⟩:=hp4;refine kA 6 ?_;refine cnd rfl (λh5=>?_) (λh5=>?_)
 . have p6:=dt h5;obtain⟨c7,hc8⟩:=getE (xs:=b.Ba_) (m:=k) (by omega);have c7_w:=W_.pwf (w.1.1.2 c7 (List.mem_of_getElem? hc8));refine kA 6 ?_;refine kI k hc8 λw9=>?_;refine kB 13 [2] λB11=>?_;refine cnd rfl (λh12=>?_) (λh12=>?_)
   . have p13:=dt h12;refine kB 13 [] λ_=>?_;refine rt2 rfl rfl ?_;refine ple ?_;have e:=shopOf_hit hk2 (Eg_ hc8) (by assumption)
     rw[e]
     rfl
   have p15:=df h12;refine kC 7 ?_;refine next (k+1) rfl rfl ⟨rfl,trivial⟩ trivial ?_ ?_
   . (try simp only[]);omega
   exact⟨by omega,shopOf_miss hk2 (Eg_ hc8) (by assumption)⟩
 have p16:=df h5;refine kB 13 [] λ_=>?_;refine rt2 rfl rfl ?_;refine ple ?_
 rw[List.drop_of_length_le (by omega)] at hk2
 rw[hk2]
 rfl
theorem Oz_ (x:Q_) (sort:Int):Fn prog gb 199 [.agg (Q_.pc x), .int .u8 sort] (.agg (Rule.pc (Io_ x sort))):=by
 refine kG func199 ntmps199 λw N H hG=>?_;refine kB 20 [0,1] λB2=>?_;refine rt1 rfl rfl (ple ?_)
 rfl
theorem W1_ (x:Q_) (y:Q_):Fn prog gb 136 [.agg (Q_.pc x), .agg (Q_.pc y)] (.bool (decide (x=y))):=by
 refine kG func136 ntmps136 λw N H hG=>?_;refine kB 8 [0,1] λB2=>?_;refine aN [2,3,4,5,6,7] 27 mixd ?_;refine kF [0,1,2,3,4,5,6,7,8,9,10,11,12,13,14,15,16,17,18,19,20,22] 5 ?_;refine vE 21 rfl (ecallg rfl (λhc=>(Oz_ _ _)) rfl ⟨(λhc=>hc),trivial⟩ rfl rfl λ_=>?_);refine vE 23 rfl (ecallg rfl (λhc=>(Oz_ _ _)) rfl ⟨(λhc=>hc),trivial⟩ rfl rfl λ_=>?_);refine vcallg 24 rfl (by kernel_rfl) rfl (λhc=>(match_Same _ _)) rfl rfl ⟨(λhc=>hc),(λhc=>hc),trivial⟩ rfl λ_=>?_;refine kF [25,26] 0 ?_;refine vD ?_;refine kA 2 ?_;refine rt1 rfl rfl (ple ?_);exact congrArg PV.bool (by rw[Bool.eq_iff_iff];first|(simp[Q_.eq_iff,Io_,and_assoc];done)|(simp[Q_.eq_iff,Io_];grind))
theorem Uc_ (s:List Pair) (hl:s.length<=1000000:=by first|omega|(simp;done)|(simp;omega)):Fn prog gb 154 [.sl Pair.pc s] (.sl Pair.pc s):=by
 refine kG func154 ntmps154 λw N H hG=>?_;refine kA 9 ?_;refine ef (lnil F_ rfl rfl rfl rfl rfl λb1 hb2=>?_);refine kA 2 ?_;refine cnd rfl (λh3=>?_) (λh3=>?_)
 . refine kA 7 ?_;refine rt1 rfl rfl ?_;refine Jf_ ?_;exact hb2 (by assumption)
 refine kA 4 ?_;refine ef (bsl 0 Pair.pc [] F_ rfl rfl rfl rfl rfl (λ_=>rfl) rfl (by decide) (by decide) rfl λu4=>?_);refine kA 1 ?_;refine ef (app F_ s rfl rfl rfl rfl rfl rfl rfl rfl rfl (src_l rfl (λ_=>rfl)) (by first|omega|(simp;omega)) rfl λu5=>?_);refine kA 3 ?_;refine givec 0 rfl ?_;refine kA 1 ?_;refine rt1 rfl rfl (ple ?_)
 simp
theorem T8_ (x:Q_) (hl:x.want.length<=1000000:=by first|omega|(simp;done)|decide):Fn prog gb 80 [.agg (Q_.pc x)] (.agg (Q_.pc x)):=by
 refine kG func80 ntmps80 λw N H hG=>?_;refine kB 10 [0,1] λB2=>?_;refine call (Uc_ _) rfl rfl λw4=>?_;refine kB 11 [] λ_=>?_;refine rt1 rfl rfl (ple ?_)
 rfl
theorem idxF_Bind (s:List Q_) (f:FuncId) (f_fst f_cap:List PV) (f_p:Q_->Bool) (f_h:∀ x,Fn prog gb f (argsP.apL f_fst ((.agg (Q_.pc x))::f_cap)) (.bool (f_p x))):Fn prog gb 245 [.sl Q_.pc s, .fn f f_fst f_cap] (.int .i64 (idxP f_p s)):=by
 refine kG func245 ntmps245 λw N H hG=>?_;have s_l:s.length<=140737488355328:=w.1.1;refine kA 14 ?_;refine loop (ι:=Nat) [0,1,6,7] [] (λk=>[(8, .int .i64 (k:Int))]) (λk=>[]) (λk=>k<=s.length/\idxP f_p s=idxF f_p k (s.drop k)) (λk=>s.length-k) 0 ⟨rfl,trivial⟩ trivial ?_ ?_
 . exact⟨Nat.zero_le _,rfl⟩
 rintro k hp1;obtain⟨hk1,hk2⟩:=hp1;refine kA 6 ?_;refine cnd rfl (λh2=>?_) (λh2=>?_)
 . have p3:=dt h2;obtain⟨c4,hc5⟩:=getE (xs:=s) (m:=k) (by omega);have c4_w:=Q_.pwf (w.1.2 c4 (List.mem_of_getElem? hc5));refine kA 15 ?_;refine kI k hc5 λw6=>?_;refine kA 1 ?_;refine call (f_h c4) rfl rfl λw7=>?_;refine kA 2 ?_;refine cnd rfl (λh8=>?_) (λh8=>?_)
   . refine kA 12 ?_;refine rt1 rfl rfl (ple ?_);exact congrArg (PV.int .i64) (L8_ hk2 (Eg_ hc5) (by assumption)).symm
   refine kC 7 ?_;refine next (k+1) rfl rfl ⟨rfl,trivial⟩ trivial ?_ ?_
   . omega
   exact⟨by omega,J4_ hk2 (Eg_ hc5) (by assumption)⟩
 have p9:=df h2;refine kA 11 ?_;refine rt1 rfl rfl (ple ?_);exact congrArg (PV.int .i64) (L7_ hk2 (by omega)).symm
theorem l01_awake:Fn prog gb 252 [] (.bool true):=by
 refine kG func252 ntmps252 λw N H hG=>?_;refine kA 8 ?_;refine call (out_Num (⟨[],0⟩:Out) _ _ (by ((try have :=hrl (by assumption));first|omega|(simp[B_,Ao_,Aw_,numK]<;>omega)))) rfl rfl λw1=>?_;have nl0:(⟨[],0⟩:Out).s.length=0:=rfl;have :=R_ (⟨[],0⟩:Out) 258 2;refine call (Dp_ _) rfl rfl λw2=>?_;refine kA 1 ?_;refine so_rt (t:=4) (p':= .bool true) (ple (congrArg PV.bool (show decide (((B_ (⟨[],0⟩:Out) 258 2).s)=[1,2])=true by decide +kernel))) rfl ?_;refine kA 1 ?_;refine ungd rfl rfl ?_;refine kA 1 ?_;refine ungd rfl rfl ?_;refine call (Dv_ (⟨[],0⟩:Out) _) rfl rfl λw3=>?_;have nl0:(⟨[],0⟩:Out).s.length=0:=rfl;have :=At_ (⟨[],0⟩:Out) [97,98];refine ungd rfl rfl ?_;refine call (Dp_ _) rfl rfl λw4=>?_;refine ungd rfl rfl ?_;refine kA 1 ?_;refine so_rt (t:=9) (p':= .bool true) (ple (congrArg PV.bool (show decide (((H_ (⟨[],0⟩:Out) [97,98]).s)=[0,2,97,98])=true by decide +kernel))) rfl ?_;refine kA 2 ?_;refine ungd rfl rfl ?_;refine ef (ecallb 0 (Td_ _) rfl rfl λw5 b6=>?_);refine ungd rfl rfl ?_;refine ef (ecallm (E2_ (⟨[1,2],0⟩) _) rfl rfl rfl rfl rfl λw7 w7p=>?_);have :=Bs_ (⟨[1,2],0⟩) 2;refine ungd rfl rfl ?_;refine kA 1 ?_;refine so_rt (t:=14) (p':= .bool true) (ple (congrArg PV.bool (show decide ((((Y_ (⟨[1,2],0⟩) 2)).1)=258)=true by decide +kernel))) rfl ?_;refine kA 5 ?_;refine rt1 rfl rfl (ple ?_);exact congrArg PV.bool (by first|rfl|decide +kernel)
theorem Si_:Fn prog gb 212 [] (.bool true):=by
 refine kG func212 ntmps212 λw N H hG=>?_;refine kA 7 ?_;refine call l01_awake rfl rfl λw1=>?_;refine kA 4 ?_;refine rt1 rfl rfl (ple ?_)
 rfl
theorem l04_awake:Fn prog gb 288 [] (.bool true):=by
 refine kG func288 ntmps288 λw N H hG=>?_;refine kA 7 ?_;refine call (J9_ _ _) rfl rfl λw1=>?_;refine so_rt (t:=1) (p':= .bool true) (ple (congrArg PV.bool (show mt (Dn_ [97,46,42,46,35]) (Dn_ [97,46,98])=true by decide +kernel))) rfl ?_;refine kA 1 ?_;refine ungd rfl rfl ?_;refine call (J9_ _ _) rfl rfl λw2=>?_;refine so_rt (t:=3) (p':= .bool true) (ple (congrArg PV.bool (show mt (Dn_ [97,46,42,46,35]) (Dn_ [97,46,98,46,99,46,100])=true by decide +kernel))) rfl ?_;refine kA 2 ?_;refine ungd rfl rfl ?_;refine call (J9_ _ _) rfl rfl λw3=>?_;refine so_rt (t:=6) (p':= .bool false) (ple (congrArg PV.bool (show mt (Dn_ [97,46,42,46,35]) (Dn_ [97])=false by decide +kernel))) rfl ?_;refine ungd rfl rfl ?_;refine kA 1 ?_;refine so_rt (t:=7) (p':= .bool true) (ple (congrArg PV.bool (show !false=true by decide +kernel))) rfl ?_;refine kA 2 ?_;refine ungd rfl rfl ?_;refine call (Es_ _) rfl rfl λw4=>?_;refine ungd rfl rfl ?_;refine kA 1 ?_;refine so_rt (t:=11) (p':= .bool true) (ple (congrArg PV.bool (show decide ((Et_ [97,45,49])=0)=true by decide +kernel))) rfl ?_;refine kA 5 ?_;refine rt1 rfl rfl (ple ?_);exact congrArg PV.bool (by first|rfl|decide +kernel)
theorem Mz_:Fn prog gb 259 [] (.bool true):=by
 refine kG func259 ntmps259 λw N H hG=>?_;refine kA 7 ?_;refine call l04_awake rfl rfl λw1=>?_;refine kA 4 ?_;refine rt1 rfl rfl (ple ?_)
 rfl
theorem l09_awake:Fn prog gb 321 [] (.bool true):=by
 refine kG func321 ntmps321 λw N H hG=>?_;refine kA 7 ?_;refine call (Fn.le (Lp_ []) (A_ Aq_ A8_) (ple rfl) rfl) rfl rfl λw1=>?_;have :=Gc_ [];refine kA 9 ?_;refine call Si_ rfl rfl λw2=>?_;refine kA 1 ?_;refine ungd rfl rfl ?_;refine call Mz_ rfl rfl λw3=>?_;refine kA 2 ?_;refine ungd rfl rfl ?_;refine kA 1 ?_;refine ungd rfl rfl ?_;refine kA 1 ?_;refine so_rt (t:=13) (p':= .bool true) (ple (congrArg PV.bool (show decide ((Gq_ [])=0)=true by decide +kernel))) rfl ?_;refine kA 2 ?_;refine ungd rfl rfl ?_;refine kA 1 ?_;refine ungd rfl rfl ?_;refine kA 1 ?_;refine so_rt (t:=17) (p':= .bool true) (ple (congrArg PV.bool (show decide ((Bg_ [])=[0])=true by decide +kernel))) rfl ?_;refine kA 5 ?_;refine rt1 rfl rfl (ple ?_);exact congrArg PV.bool (by first|rfl|decide +kernel)
theorem Xz_:Fn prog gb 311 [] (.bool true):=by
 refine kG func311 ntmps311 λw N H hG=>?_;refine kA 7 ?_;refine call l09_awake rfl rfl λw1=>?_;refine kA 4 ?_;refine rt1 rfl rfl (ple ?_)
 rfl
theorem l10_awake:Fn prog gb 322 [] (.bool true):=by
 refine kG func322 ntmps322 λw N H hG=>?_;refine kB 14 [0] λB2=>?_;refine call Mz_ rfl rfl λw3=>?_;refine kA 1 ?_;refine ungd rfl rfl ?_;refine call Xz_ rfl rfl λw4=>?_;refine kA 2 ?_;refine ungd rfl rfl ?_;refine kA 1 ?_;refine ungd rfl rfl ?_;refine call (U0_ (⟨2,[97,46,35],[],false⟩:Rule)) rfl rfl λw5=>?_;refine ungd rfl rfl ?_;refine kA 1 ?_;refine so_rt (t:=10) (p':= .bool true) (ple (congrArg PV.bool (show decide ((Px_ (⟨2,[97,46,35],[],false⟩:Rule))=0)=true by decide +kernel))) rfl ?_;refine kA 2 ?_;refine ungd rfl rfl ?_;refine kA 1 ?_;refine ungd rfl rfl ?_;refine call (Fn.le (Tp_ (⟨2,[97,46,35],[],false⟩:Rule) _ []) (A_ (ple rfl) (A_ (ple rfl) (A_ Aq_ A8_))) (ple rfl) rfl) rfl rfl λw6=>?_;refine so_rt (t:=14) (p':= .bool true) (ple (congrArg PV.bool (show P7_ (⟨2,[97,46,35],[],false⟩:Rule) [97,46,98] []=true by decide +kernel))) rfl ?_;refine kA 2 ?_;refine ungd rfl rfl ?_;refine kA 1 ?_;refine ungd rfl rfl ?_;refine call (Fn.le (Tp_ (⟨2,[97,46,35],[],false⟩:Rule) _ []) (A_ (ple rfl) (A_ (ple rfl) (A_ Aq_ A8_))) (ple rfl) rfl) rfl rfl λw7=>?_;refine so_rt (t:=18) (p':= .bool false) (ple (congrArg PV.bool (show P7_ (⟨2,[97,46,35],[],false⟩:Rule) [98] []=false by decide +kernel))) rfl ?_;refine ungd rfl rfl ?_;refine kA 1 ?_;refine so_rt (t:=19) (p':= .bool true) (ple (congrArg PV.bool (show !false=true by decide +kernel))) rfl ?_;refine kA 5 ?_;refine rt1 rfl rfl (ple ?_);exact congrArg PV.bool (by first|rfl|decide +kernel)
theorem l10_Awake:Fn prog gb 312 [] (.bool true):=by
 refine kG func312 ntmps312 λw N H hG=>?_;refine kA 7 ?_;refine call l10_awake rfl rfl λw1=>?_;refine kA 4 ?_;refine rt1 rfl rfl (ple ?_)
 rfl
theorem l13_awake:Fn prog gb 292 [] (.bool true):=by
 refine kG func292 ntmps292 λw N H hG=>?_;refine kA 8 ?_;refine call (Lx_ (⟨0,[97],[],[],[],0,0⟩:Mail)) rfl rfl λw1=>?_;have :=Ft_ (⟨0,[97],[],[],[],0,0⟩:Mail);refine kA 9 ?_;refine call Xz_ rfl rfl λw2=>?_;refine kA 1 ?_;refine ungd rfl rfl ?_;refine kA 1 ?_;refine ungd rfl rfl ?_;refine kA 1 ?_;refine so_rt (t:=11) (p':= .bool true) (ple (congrArg PV.bool (show decide ((F7_ (⟨0,[97],[],[],[],0,0⟩:Mail))=0)=true by decide +kernel))) rfl ?_;refine kA 2 ?_;refine ungd rfl rfl ?_;refine kA 1 ?_;refine ungd rfl rfl ?_;refine kA 1 ?_;refine ungd rfl rfl ?_;refine kA 1 ?_;refine so_rt (t:=16) (p':= .bool true) (ple (congrArg PV.bool (show decide (((Bm_ (⟨0,[97],[],[],[],0,0⟩:Mail)).length:Int)=25)=true by decide +kernel))) rfl ?_;refine kA 5 ?_;refine rt1 rfl rfl (ple ?_);exact congrArg PV.bool (by first|rfl|decide +kernel)
theorem So_:Fn prog gb 263 [] (.bool true):=by
 refine kG func263 ntmps263 λw N H hG=>?_;refine kA 7 ?_;refine call l13_awake rfl rfl λw1=>?_;refine kA 4 ?_;refine rt1 rfl rfl (ple ?_)
 rfl
theorem cb244:An_ prog 244:=Ad_ func244 (by kernel_rfl) (by kernel_rfl)
theorem cb246:An_ prog 246:=Ad_ func246 (by kernel_rfl) (by kernel_rfl)
theorem grow_Shop (n:Int) (hn:0<=n/\n<=100000000:=by omega):Fo prog gb 244 [.val (.slice none 0 0), .int .i64 n] (λu=> .val u) 3 57 W_.pc ([]:List W_):=by
 refine Vq_ F_ func244 rfl ntmps244 rfl cb244 (λ_=>rfl) rfl λw N H hG=>?_;refine kA 12 ?_;refine cnd rfl (λh1=>?_) (λh1=>?_)
 . have p2:=dt h1
   exfalso;omega
 have p3:=df h1;refine kA 7 ?_;refine q1 (qcap0 F_ rfl rfl rfl) rfl λw4=>?_;refine kA 1 ?_;refine q1 (qlen0 F_ rfl rfl rfl) rfl λw5=>?_;refine kC 11 ?_;refine cn rfl (λp7=>?_) λp13=>?_
 . refine kA 3 ?_;refine q1 (qcap0 F_ rfl rfl rfl) rfl λw8=>?_;refine q1 (qcut0 F_ rfl rfl rfl rfl rfl (by omega)) rfl λw9=>?_;refine kA 1 ?_;refine ef (appz (m:=((n-(0-0))).toNat) 0 F_ rfl rfl rfl rfl rfl rfl rfl rfl rfl rfl (by omega) (by omega) (by (try simp only[]);omega) rfl rfl λu10=>?_);refine kA 1 ?_;refine q1 (qlen0 F_ rfl rfl rfl) rfl λw11=>?_;refine ef (ocut W_.pc F_ rfl rfl rfl rfl rfl rfl (by omega) rfl λu12=>?_);refine kA 9 ?_;refine sw_val (t:=4) (i:=0) rfl rfl ?_;refine kA 1 ?_;refine ro1 (j:=0) rfl rfl rfl ?_
   rfl
 refine kA 8 ?_;refine sw_own (t:=4) (k:=3) (e:=57) 0 W_.pc rfl rfl ?_;refine sw_val (t:=4) (i:=0) rfl rfl ?_;refine kA 1 ?_;refine ro1 (j:=0) rfl rfl rfl ?_
 rfl
theorem Rr_ (ls:List (List W_)) (hl:ls.flatten.length<=100000000:=by first|omega|(simp;done)|(simp;omega)|(simp only[List.flatten_cons,List.flatten_nil,List.length_append,List.append_nil];simp;omega)):Fn prog gb 193 [.sl (slc W_.pc) ls] (.sl W_.pc ls.flatten):=by
 refine kG func193 ntmps193 λw N H hG=>?_;have ls_l:ls.length<=140737488355328:=w.1.1;refine kA 19 ?_;refine loop (ι:=Nat×Int) [0,2,9,10] [] (λ⟨k,n⟩=>[(3, .int .i64 n),(11, .int .i64 (k:Int))]) (λ⟨k,n⟩=>[]) (λ⟨k,n⟩=>k<=ls.length/\n=((ls.take k).flatten.length:Int)) (λ⟨k,n⟩=>ls.length-k) ⟨0,0⟩ ⟨rfl,rfl,trivial⟩ trivial ?_ ?_
 . exact⟨Nat.zero_le _,by simp⟩
 rintro⟨k,n⟩ hp1;obtain⟨hk1,hk2⟩:=hp1;have hg0:=Dx_ ls k;refine kA 6 ?_;refine cn rfl (λp3=>?_) λp10=>?_
 . obtain⟨c4,hc5⟩:=getE (xs:=ls) (m:=k) (by omega);refine kA 6 ?_;refine kI k hc5 λw6=>?_;refine go F_ 19 rfl rfl ⟨(by have hg:=Dx_ ls (k+1);have hfl:=congrArg List.length (B0_ (by assumption :ls[k]? = some _));simp only[List.length_append] at hfl;omega),trivial⟩ ?_;refine cnd rfl (λh7=>?_) (λh7=>?_)
   . have p8:=dt h7
     exfalso;omega
   have p9:=df h7;refine go F_ 7 rfl rfl ⟨(by have hg:=Dx_ ls (k+1);have hfl:=congrArg List.length (B0_ (by assumption :ls[k]? = some _));simp only[List.length_append] at hfl;omega),trivial⟩ ?_;refine next ⟨(k+1),(n+(c4.length:Int))⟩ rfl rfl ⟨rfl,rfl,trivial⟩ trivial ?_ ?_
   . (try simp only[]);omega
   have hf:=B0_ hc5;have hg:=Dx_ ls (k+1);have hfl:=congrArg List.length hf
   simp only[List.length_append] at hfl
   exact⟨by omega,by (try simp only[]);omega⟩
 refine kA 8 ?_;refine ef (ecallo 0 (grow_Shop _) rfl rfl λu12 w11=>?_);refine kA 12 ?_;refine sw_osl (t:=6) 0 rfl rfl ?_;refine loop (ι:=Nat×(List W_)×Value) [0,2,3,9,10,11,12,23,24,25,26] [] (λ⟨k,out,u_out⟩=>[(6, .osl 0),(27, .int .i64 (k:Int))]) (λ⟨k,out,u_out⟩=>[(0, .arr u_out 3 57 W_.pc out)]) (λ⟨k,out,u_out⟩=>k<=ls.length/\out=(ls.take k).flatten) (λ⟨k,out,u_out⟩=>ls.length-k) ⟨0,([]:List W_),(u12)⟩ ⟨rfl,rfl,trivial⟩ ⟨rfl,trivial⟩ ?_ ?_
 . exact⟨Nat.zero_le _,by simp⟩
 rintro⟨k,out,u_out⟩ hp13;obtain⟨hk1,hk2⟩:=hp13;refine kA 6 ?_;refine cn rfl (λp15=>?_) λp20=>?_
 . obtain⟨c16,hc17⟩:=getE (xs:=ls) (m:=k) (by omega);refine kA 6 ?_;refine kI k hc17 λw18=>?_;refine kA 7 ?_;refine ef (app F_ c16 rfl rfl rfl rfl rfl rfl rfl rfl rfl (src_l rfl (λ_=>rfl)) (by have hg:=Dx_ ls (k+1);have hfl:=congrArg List.length (B0_ (by assumption :ls[k]? = some _));simp only[List.length_append] at hfl;subst hk2;(try simp only[]);omega) rfl λu19=>?_);refine go F_ 8 rfl rfl ⟨(by have hg:=Dx_ ls (k+1);have hfl:=congrArg List.length (B0_ (by assumption :ls[k]? = some _));simp only[List.length_append] at hfl;omega),trivial⟩ ?_;refine next ⟨(k+1),(out++c16),(u19)⟩ rfl rfl ⟨rfl,rfl,trivial⟩ ⟨rfl,trivial⟩ ?_ ?_
   . (try simp only[]);omega
   exact⟨by omega,by (try simp only[]);rw[B0_ hc17,hk2]⟩
 refine kA 11 ?_;refine givec 0 rfl ?_;refine kA 1 ?_;refine rt1 rfl rfl (ple ?_)
 rw[hk2,Lo_ (by omega)]
theorem grow_Bind (n:Int) (hn:0<=n/\n<=100000000:=by omega):Fo prog gb 246 [.val (.slice none 0 0), .int .i64 n] (λu=> .val u) 6 62 Q_.pc ([]:List Q_):=by
 refine Vq_ F_ func246 rfl ntmps246 rfl cb246 (λ_=>rfl) rfl λw N H hG=>?_;refine kA 12 ?_;refine cnd rfl (λh1=>?_) (λh1=>?_)
 . have p2:=dt h1
   exfalso;omega
 have p3:=df h1;refine kA 7 ?_;refine q1 (qcap0 F_ rfl rfl rfl) rfl λw4=>?_;refine kA 1 ?_;refine q1 (qlen0 F_ rfl rfl rfl) rfl λw5=>?_;refine kC 11 ?_;refine cn rfl (λp7=>?_) λp13=>?_
 . refine kA 3 ?_;refine q1 (qcap0 F_ rfl rfl rfl) rfl λw8=>?_;refine q1 (qcut0 F_ rfl rfl rfl rfl rfl (by omega)) rfl λw9=>?_;refine kA 1 ?_;refine ef (appz (m:=((n-(0-0))).toNat) 0 F_ rfl rfl rfl rfl rfl rfl rfl rfl rfl rfl (by omega) (by omega) (by (try simp only[]);omega) rfl rfl λu10=>?_);refine kA 1 ?_;refine q1 (qlen0 F_ rfl rfl rfl) rfl λw11=>?_;refine ef (ocut Q_.pc F_ rfl rfl rfl rfl rfl rfl (by omega) rfl λu12=>?_);refine kA 9 ?_;refine sw_val (t:=4) (i:=0) rfl rfl ?_;refine kA 1 ?_;refine ro1 (j:=0) rfl rfl rfl ?_
   rfl
 refine kA 8 ?_;refine sw_own (t:=4) (k:=6) (e:=62) 0 Q_.pc rfl rfl ?_;refine sw_val (t:=4) (i:=0) rfl rfl ?_;refine kA 1 ?_;refine ro1 (j:=0) rfl rfl rfl ?_
 rfl
theorem Rp_ (ls:List (List Q_)) (hl:ls.flatten.length<=100000000:=by first|omega|(simp;done)|(simp;omega)|(simp only[List.flatten_cons,List.flatten_nil,List.length_append,List.append_nil];simp;omega)):Fn prog gb 198 [.sl (slc Q_.pc) ls] (.sl Q_.pc ls.flatten):=by
 refine kG func198 ntmps198 λw N H hG=>?_;have ls_l:ls.length<=140737488355328:=w.1.1;refine kA 19 ?_;refine loop (ι:=Nat×Int) [0,2,9,10] [] (λ⟨k,n⟩=>[(3, .int .i64 n),(11, .int .i64 (k:Int))]) (λ⟨k,n⟩=>[]) (λ⟨k,n⟩=>k<=ls.length/\n=((ls.take k).flatten.length:Int)) (λ⟨k,n⟩=>ls.length-k) ⟨0,0⟩ ⟨rfl,rfl,trivial⟩ trivial ?_ ?_
 . exact⟨Nat.zero_le _,by simp⟩
 rintro⟨k,n⟩ hp1;obtain⟨hk1,hk2⟩:=hp1;have hg0:=Dx_ ls k;refine kA 6 ?_;refine cn rfl (λp3=>?_) λp10=>?_
 . obtain⟨c4,hc5⟩:=getE (xs:=ls) (m:=k) (by omega);refine kA 6 ?_;refine kI k hc5 λw6=>?_;refine go F_ 19 rfl rfl ⟨(by have hg:=Dx_ ls (k+1);have hfl:=congrArg List.length (B0_ (by assumption :ls[k]? = some _));simp only[List.length_append] at hfl;omega),trivial⟩ ?_;refine cnd rfl (λh7=>?_) (λh7=>?_)
   . have p8:=dt h7
     exfalso;omega
   have p9:=df h7;refine go F_ 7 rfl rfl ⟨(by have hg:=Dx_ ls (k+1);have hfl:=congrArg List.length (B0_ (by assumption :ls[k]? = some _));simp only[List.length_append] at hfl;omega),trivial⟩ ?_;refine next ⟨(k+1),(n+(c4.length:Int))⟩ rfl rfl ⟨rfl,rfl,trivial⟩ trivial ?_ ?_
   . (try simp only[]);omega
   have hf:=B0_ hc5;have hg:=Dx_ ls (k+1);have hfl:=congrArg List.length hf
   simp only[List.length_append] at hfl
   exact⟨by omega,by (try simp only[]);omega⟩
 refine kA 8 ?_;refine ef (ecallo 0 (grow_Bind _) rfl rfl λu12 w11=>?_);refine kA 12 ?_;refine sw_osl (t:=6) 0 rfl rfl ?_;refine loop (ι:=Nat×(List Q_)×Value) [0,2,3,9,10,11,12,23,24,25,26] [] (λ⟨k,out,u_out⟩=>[(6, .osl 0),(27, .int .i64 (k:Int))]) (λ⟨k,out,u_out⟩=>[(0, .arr u_out 6 62 Q_.pc out)]) (λ⟨k,out,u_out⟩=>k<=ls.length/\out=(ls.take k).flatten) (λ⟨k,out,u_out⟩=>ls.length-k) ⟨0,([]:List Q_),(u12)⟩ ⟨rfl,rfl,trivial⟩ ⟨rfl,trivial⟩ ?_ ?_
 . exact⟨Nat.zero_le _,by simp⟩
 rintro⟨k,out,u_out⟩ hp13;obtain⟨hk1,hk2⟩:=hp13;refine kA 6 ?_;refine cn rfl (λp15=>?_) λp20=>?_
 . obtain⟨c16,hc17⟩:=getE (xs:=ls) (m:=k) (by omega);refine kA 6 ?_;refine kI k hc17 λw18=>?_;refine kA 7 ?_;refine ef (app F_ c16 rfl rfl rfl rfl rfl rfl rfl rfl rfl (src_l rfl (λ_=>rfl)) (by have hg:=Dx_ ls (k+1);have hfl:=congrArg List.length (B0_ (by assumption :ls[k]? = some _));simp only[List.length_append] at hfl;subst hk2;(try simp only[]);omega) rfl λu19=>?_);refine go F_ 8 rfl rfl ⟨(by have hg:=Dx_ ls (k+1);have hfl:=congrArg List.length (B0_ (by assumption :ls[k]? = some _));simp only[List.length_append] at hfl;omega),trivial⟩ ?_;refine next ⟨(k+1),(out++c16),(u19)⟩ rfl rfl ⟨rfl,rfl,trivial⟩ ⟨rfl,trivial⟩ ?_ ?_
   . (try simp only[]);omega
   exact⟨by omega,by (try simp only[]);rw[B0_ hc17,hk2]⟩
 refine kA 11 ?_;refine givec 0 rfl ?_;refine kA 1 ?_;refine rt1 rfl rfl (ple ?_)
 rw[hk2,Lo_ (by omega)]
theorem cb229:An_ prog 229:=Ad_ func229 (by kernel_rfl) (by kernel_rfl)
theorem Qv_ (l:List Bs) (s:Bs) (hl:l.length<=100000:=by first|omega|(simp;omega)|decide +kernel):Fl prog gb 229 [.str s] (λu=> .val u) 1 9 strc l (G9_ l s):=by
 refine fl_cw F_ func229 rfl ntmps229 rfl cb229 (λ_=>rfl) rfl λw l_l u0 N H hG=>?_;have e0:=G9_.eq_1 l s;refine kA 10 ?_;refine ef (calll 0 rfl (W6_ _ _) rfl rfl rfl λw1=>?_);refine kA 2 ?_;refine cD e0 (λp3 e4=>?_) (λp5 e6=>?_)
 . refine kA 6 ?_;refine sw_val (t:=4) (i:=0) rfl rfl ?_;refine kA 2 ?_;refine ro1 (j:=0) rfl rfl rfl ?_;exact (congrArg (λr:(List Bs)=>r) e4).symm
 refine kA 6 ?_;refine ef (bsl 1 strc [s] F_ rfl rfl rfl rfl rfl (λ_=>rfl) rfl (by decide) (by decide) rfl λu7=>?_);refine ef (app F_ [s] rfl rfl rfl rfl rfl rfl rfl rfl rfl (src_o rfl rfl) (by first|omega|(simp;omega)) rfl λu8=>?_);refine kA 3 ?_;refine sw_val (t:=4) (i:=0) rfl rfl ?_;refine kA 1 ?_;refine ro1 (j:=0) rfl rfl rfl ?_;exact (congrArg (λr:(List Bs)=>r) e6).symm
theorem Lc_ (b:Ap_) (x:W_) (hs:b.Ba_.length<=1000:=by first|omega|(simp;omega)|decide +kernel):Fn prog gb 113 [.agg (Ap_.pc b), .agg (W_.pc x)] (.tup [.agg (Ap_.pc ((Bw_ b x).1)), .int .i64 ((Bw_ b x).2)]):=by
 refine kG func113 ntmps113 λw N H hG=>?_;have e0:=Bw_.eq_1 b x;generalize Bw_ b x=z at e0 ⊢;refine kB 12 [0,1,2] λB2=>?_;refine call (shop_check _) rfl rfl λw5=>?_;have :=shopE_r x;refine kA 9 ?_;refine cN e0 (λp8 e9=>?_) (λp12 e13=>?_)
 . refine kB 10 [] λ_=>?_;subst e9;exact qr2
 refine kA 7 ?_;refine call (O0_ _ _) rfl rfl λw14=>?_;refine kB 16 [3] λB16=>?_;refine q1g [25,26] rfl (λhc=>saeq rfl rfl eqg57 (veq57 x ((Ef_ b.Ba_ x.name).getD W_.zero))) ⟨(λhc=>hc),(λhc=>hc),trivial⟩ rfl rfl rfl λ_=>?_;refine kC 4 ?_;refine cE e13 (λh17 e21=>?_) (λh17 e23=>?_)
 . have h18:=bl h17;have h19:=br h17;have p20:=dt h19;refine kB 10 [] λ_=>?_;subst e21;exact qr2
 refine kA 6 ?_;refine cE e23 (λh24 e25=>?_) (λh24 e27=>?_)
 . refine kB 10 [] λ_=>?_;subst e25;exact qr2
 refine kA 9 ?_;refine cD e27 (λp29 e30=>?_) (λp32 e33=>?_)
 . refine kB 10 [] λ_=>?_;subst e30;exact qr2
 refine kA 8 ?_;refine ef (bsl 4 W_.pc [x] F_ rfl rfl rfl rfl rfl (λ_=>rfl) rfl (by decide) (by decide) rfl λu34=>?_);refine give 4 rfl ?_;refine ef (bsl 4 (slc W_.pc) [b.Ba_,[x]] F_ rfl rfl rfl rfl rfl (λ_=>rfl) rfl (by decide) (by decide) rfl λu35=>?_);refine give 4 rfl ?_;refine call (Rr_ _) rfl rfl λw36=>?_;have hfl36:([b.Ba_,[x]].flatten).length=b.Ba_.length+1:=by simp only[List.flatten_cons,List.flatten_nil,List.length_append,List.length_nil,List.length_cons,Nat.add_zero,Nat.zero_add]
 refine kB 12 [] λ_=>?_;subst e33;exact qr2
theorem Ks_ (b:Ap_) (x:Q_):Fn prog gb 197 [.agg (Ap_.pc b), .agg (Q_.pc x)] (.int .i64 (Bk_ b x)):=by
 refine kG func197 ntmps197 λw N H hG=>?_;have e0:=Bk_.eq_1 b x;refine kB 13 [0,1] λB2=>?_;refine call (idxF_Bind _ _ _ _ (λz_4:Q_=>decide (x=z_4)) (λz_4=>W1_ x z_4)) rfl rfl λw5=>?_;have hix5:=Hg_ (λz_4:Q_=>decide (x=z_4)) b.binds;refine kA 4 ?_;exact rt1 rfl rfl (Aj_ (λr:Int=> .int .i64 r) e0 (ple rfl))
abbrev R0_:Int->PV:=λr=> .int .i64 r
theorem Ix_ (b:Ap_) (x:Q_) (hb:b.binds.length<=1000:=by first|omega|(simp;omega)|decide +kernel) (hw:x.want.length<=1000:=by first|omega|(simp;omega)|decide +kernel):Fn prog gb 116 [.agg (Ap_.pc b), .agg (Q_.pc x)] (.tup [.agg (Ap_.pc ((A3_ b x).1)), .int .i64 ((A3_ b x).2)]):=by
 refine kG func116 ntmps116 λw N H hG=>?_;have e0:=A3_.eq_1 b x;generalize A3_ b x=z at e0 ⊢;refine kB 13 [0,1,2] λB2=>?_;refine call (O0_ _ _) rfl rfl λw5=>?_;refine kB 17 [3] λB7=>?_;refine cE e0 (λh8 e10=>?_) (λh8 e13=>?_)
 . have h9:=Ek_ h8;refine kB 10 [] λ_=>?_;subst e10;exact qr2
 have h12:=Di_ h8;refine kA 8 ?_;refine cD e13 (λp15 e16=>?_) (λp18 e19=>?_)
 . refine kB 10 [] λ_=>?_;subst e16;exact qr2
 refine kA 8 ?_;refine call (Es_ _) rfl rfl λw20=>?_;refine kA 9 ?_;refine cN e19 (λp23 e24=>?_) (λp27 e28=>?_)
 . refine kB 10 [] λ_=>?_;subst e24;exact qr2
 refine kA 8 ?_;refine call (Oz_ _ _) rfl rfl λw29=>?_;refine call (U0_ _) rfl rfl λw30=>?_;refine kA 11 ?_;refine cN e28 (λp33 e34=>?_) (λp37 e38=>?_)
 . refine kB 11 [] λ_=>?_;subst e34;exact qr2
 refine kA 4 ?_;refine cV e38 R0_ (Ks_ _ _) rfl λr hr39 e41 w40=>?_;have hA41:=there_r b x
 (try rw[<- hr39] at hA41)
 refine kA 4 ?_;refine cD e41 (λp44 e45=>?_) (λp47 e48=>?_)
 . refine kB 10 [] λ_=>?_;subst e45;exact qr2
 refine kA 9 ?_;refine cD e48 (λp50 e51=>?_) (λp53 e54=>?_)
 . refine kB 10 [] λ_=>?_;subst e51;exact qr2
 refine kA 4 ?_;refine aN [4,5,6,7,8,9] 9 mixd ?_;refine kE [0,1,2] 6 ?_;refine vE 3 rfl (eC (T8_ _) rfl λw55=>?_);refine vE 4 rfl (bsl 4 Q_.pc [x] F_ rfl rfl rfl rfl rfl (λ_=>rfl) rfl (by decide) (by decide) rfl λu56=>?_);refine vE 5 rfl (Tz_ 4 rfl (bsl 4 (slc Q_.pc) [b.binds,[x]] F_ rfl rfl rfl rfl rfl (λ_=>rfl) rfl (by decide) (by decide) rfl λu57=>?_));refine vE 6 rfl (Tz_ 4 rfl (Zy_ (eC (Rp_ _) rfl λw58=>?_)));have hfl58:([b.binds,[x]].flatten).length=b.binds.length+1:=by simp only[List.flatten_cons,List.flatten_nil,List.length_append,List.length_nil,List.length_cons,Nat.add_zero,Nat.zero_add]
 refine kE [7] 1 ?_;refine vT 8 rfl (sO F_ ?_);refine vD ?_;refine kB 9 [] λ_=>?_;subst e54;exact qr2
theorem Kr_ (b:Ap_) (A9_:Bs) (key:Bs) (h:List Pair) (hb:b.binds.length<=1000:=by first|omega|(simp;omega)|decide +kernel) (hk:key.length<4294967281:=by first|omega|(simp;omega)|decide +kernel) (hr:∀ y∈b.binds,y.key.length<4294967281:=by first|assumption|decide +kernel):Fn prog gb 172 [.agg (Ap_.pc b), .str A9_, .str key, .sl Pair.pc h] (.tup [.sl strc ((Ci_ b A9_ key h).1), .sl strc ((Ci_ b A9_ key h).2.1), .int .i64 ((Ci_ b A9_ key h).2.2)]):=by
 refine kG func172 ntmps172 λw N H hG=>?_;have e0:=Ci_.eq_1 b A9_ key h;generalize Ci_ b A9_ key h=z at e0 ⊢;refine kB 13 [0] λB2=>?_;refine call (O0_ _ _) rfl rfl λw3=>?_;refine kB 17 [1] λB5=>?_;refine cE e0 (λh6 e8=>?_) (λh6 e10=>?_)
 . have h7:=Ek_ h6;refine kA 11 ?_;subst e8;exact rt3 rfl rfl (Fv_ (A_ Aq_ (A_ Aq_ (A_ (ple rfl) A8_))))
 have h9:=Di_ h6;refine kA 8 ?_;refine cD e10 (λp12 e13=>?_) (λp15 e16=>?_)
 . refine kA 1 ?_;refine aN [2,3,4,5,6,7] 6 mixd ?_;refine kE [0,1,3] 3 ?_;refine vE 2 rfl (bsl 2 strc [((Ef_ b.Ba_ A9_).getD W_.zero).to'] F_ rfl rfl rfl rfl rfl (λ_=>rfl) rfl (by decide) (by decide) rfl λu14=>?_);refine kE [4,5] 0 ?_;refine vD ?_;refine kA 1 ?_;refine givec 2 rfl ?_;refine kA 4 ?_;subst e13;exact rt3 rfl rfl (Fv_ (A_ Aq_ (A_ (ple rfl) (A_ (ple rfl) A8_))))
 refine kA 22 ?_;refine sw_own (t:=13) (k:=1) (e:=9) 2 strc rfl rfl ?_;refine sw_own (t:=14) (k:=1) (e:=9) 3 strc rfl rfl ?_;refine loop (ι:=Nat×(List Bs)×(List Bs)×Value×Value) [1,2,3,8,9,10,11,34,35] [0,1] (λ⟨k,queues,places,u_queues,u_places⟩=>[(36, .int .i64 (k:Int)),(13, .osl 2),(14, .osl 3)]) (λ⟨k,queues,places,u_queues,u_places⟩=>[(2, .arr u_queues 1 9 strc queues),(3, .arr u_places 1 9 strc places)]) (λ⟨k,queues,places,u_queues,u_places⟩=>k<=b.binds.length/\z=Bo_ b A9_ key h (b.binds.drop k) queues places/\queues.length<=k/\places.length<=k) (λ⟨k,queues,places,u_queues,u_places⟩=>b.binds.length-k) ⟨0,[],[],(.slice none 0 0),(.slice none 0 0)⟩ ⟨rfl,rfl,rfl,trivial⟩ ⟨rfl,rfl,trivial⟩ ?_ ?_
 . exact⟨Nat.zero_le _,e16,(by first|omega|(simp;done)|(simp;omega))⟩
 rintro⟨k,queues,places,u_queues,u_places⟩ ⟨hp17_1,hp17_2,hp17_3⟩;refine kA 6 ?_;refine cn rfl (λp19=>?_) λp52=>?_
 . have e20:=C6_ (f:=λzz=>Bo_ b A9_ key h zz queues places) hp17_2 (Gb_ (by omega)) (Bo_.eq_2 _ _ _ _ _ _ _ _);have hc21:=getG (xs:=b.binds) (k:=k) (by omega);have hr_hc21:=hr (gt b.binds k) (List.mem_of_getElem? hc21);refine kA 6 ?_;refine kI k hc21 λw22=>?_;refine kB 7 [4] λB24=>?_;obtain⟨o,e_o,q_o⟩:=Hq_ e20;refine Hu_ (ι:=Bool) [1,2,3,8,9,10,11,13,14,16,34,35,36] [0,1,2,3,4] (λv=>[(44, .bool v)]) (λv=>[]) (λv=>o=v) ?_ ?_
   . refine kA 9 ?_;refine cN e_o (λp27 e28=>?_) (λp30 e31=>?_)
     . refine kA 1 ?_;refine nX (!decide (((gt b.binds k).A9_)=A9_)) ?_ ⟨rfl,trivial⟩ trivial;exact e28
     refine kA 4 ?_;refine call (Oz_ _ _) rfl rfl λw32=>?_;refine kA 2 ?_;refine call (Tp_ _ _ _ (hrk:=by simp only[Io_];omega)) rfl rfl λw33=>?_;refine kA 3 ?_;refine nX (!(P7_ (Io_ (gt b.binds k) (((Ef_ b.Ba_ A9_).getD W_.zero).sort)) key h)) ?_ ⟨rfl,trivial⟩ trivial;exact e31
   rintro v hp34;have e35:=Km_ q_o hp34;refine kA 1 ?_;refine cE e35 (λh36 e37=>?_) (λh36 e38=>?_)
   . refine kC 8 ?_;refine next ⟨(k+1),queues,places,(u_queues),(u_places)⟩ rfl rfl ⟨rfl,rfl,rfl,trivial⟩ ⟨rfl,rfl,trivial⟩ ?_ ?_
     . (try simp only[]);omega
     exact⟨by (try simp only[]);omega,e37,⟨by (try simp only[]);omega,by (try simp only[]);omega⟩⟩
   refine kA 7 ?_;refine cE e38 (λh39 e40=>?_) (λh39 e46=>?_)
   . refine kA 4 ?_;refine ef (ecallw (Qv_ _ _) rfl rfl rfl rfl rfl rfl ?_);generalize hr43:G9_ places ((gt b.binds k).to')=r;intro u41 w42;have e44:=e40.trans (Dh_ hr43.symm);have hr43:=hr43.symm;have hA44:=put_len places ((gt b.binds k).to')
     (try rw[<- hr43] at hA44)
     refine kC 9 ?_;refine lj_osl (t:=14) 3 rfl rfl ?_;refine next ⟨(k+1),queues,r,(u_queues),(u41)⟩ rfl rfl ⟨rfl,rfl,rfl,trivial⟩ ⟨rfl,rfl,trivial⟩ ?_ ?_
     . (try simp only[]);omega
     exact⟨by (try simp only[]);omega,e44,⟨by (try simp only[]);omega,by (try simp only[]);omega⟩⟩
   refine kA 4 ?_;refine ef (ecallw (Qv_ _ _) rfl rfl rfl rfl rfl rfl ?_);generalize hr49:G9_ queues ((gt b.binds k).to')=r1;intro u47 w48;have e50:=e46.trans (Dh_ hr49.symm);have hr49:=hr49.symm;have hA50:=put_len queues ((gt b.binds k).to')
   (try rw[<- hr49] at hA50)
   refine kC 9 ?_;refine lj_osl (t:=13) 2 rfl rfl ?_;refine next ⟨(k+1),r1,places,(u47),(u_places)⟩ rfl rfl ⟨rfl,rfl,rfl,trivial⟩ ⟨rfl,rfl,trivial⟩ ?_ ?_
   . (try simp only[]);omega
   exact⟨by (try simp only[]);omega,e50,⟨by (try simp only[]);omega,by (try simp only[]);omega⟩⟩
 have e53:=C6_ (f:=λzz=>Bo_ b A9_ key h zz queues places) hp17_2 (Gp_ (by omega)) (Bo_.eq_1 _ _ _ _ _ _);refine kA 14 ?_;refine givec 2 rfl ?_;refine givec 3 rfl ?_;refine kA 2 ?_;subst e53;exact qr3
theorem Qq_ (l:List O_):Fn prog gb 7 [.sl O_.pc l] (.bool (Ip_ l)):=by
 refine kG func7 ntmps7 λw N H hG=>?_;have l_l:l.length<=140737488355328:=w.1.1;have e0:=Ip_.eq_1 l;generalize Ip_ l=z at e0 ⊢;refine kA 14 ?_;refine loop (ι:=Nat) [0,5,6] [] (λk=>[(7, .int .i64 (k:Int))]) (λk=>[]) (λk=>k<=l.length/\z=E3_ l (l.drop k)) (λk=>l.length-k) 0 ⟨rfl,trivial⟩ trivial ?_ ?_
 . exact⟨Nat.zero_le _,e0⟩
 rintro k ⟨hp1_1,hp1_2⟩;refine kA 6 ?_;refine cn rfl (λp3=>?_) λp15=>?_
 . have e4:=C6_ (f:=λzz=>E3_ l zz) hp1_2 (Gb_ (by omega)) (E3_.eq_2 _ _ _);have hc5:=getG (xs:=l) (k:=k) (by omega);refine kA 6 ?_;refine kI k hc5 λw6=>?_;refine kB 8 [0] λB8=>?_;refine call (l22_Light _) rfl rfl λw9=>?_;have hld9:=Un_ (gt l k);refine kA 3 ?_;refine cE e4 (λh10 e12=>?_) (λh10 e14=>?_)
   . have h11:=Ek_ h10;refine kA 11 ?_;subst e12;exact qr1
   have h13:=Di_ h10;refine kC 7 ?_;refine next (k+1) rfl rfl ⟨rfl,trivial⟩ trivial ?_ ?_
   . (try simp only[]);omega
   exact⟨by (try simp only[]);omega,e14⟩
 have e16:=C6_ (f:=λzz=>E3_ l zz) hp1_2 (Gp_ (by omega)) (E3_.eq_1 _);refine kA 14 ?_;subst e16;exact qr1
theorem l14_awake:Fn prog gb 293 [] (.bool true):=by
 refine kG func293 ntmps293 λw N H hG=>?_;refine kA 9 ?_;refine call (Lc_ (⟨[],[]⟩:Ap_) (⟨[97],1,[]⟩:W_)) rfl rfl λw1=>?_;refine kB 12 [0] λB3=>?_;refine call (Ix_ _ (⟨[97],[113],false,[],[],false⟩:Q_)) rfl rfl λw4=>?_;refine kB 10 [] λ_=>?_;refine call (Ix_ _ (⟨[97],[113],false,[120],[],false⟩:Q_)) rfl rfl λw6=>?_;refine kB 10 [] λ_=>?_;refine call (Fn.le (Kr_ _ _ _ []) (A_ (ple rfl) (A_ (ple rfl) (A_ (ple rfl) (A_ Aq_ A8_)))) (ple rfl) rfl) rfl rfl λw8=>?_;refine kA 11 ?_;refine call Mz_ rfl rfl λw9=>?_;refine kA 1 ?_;refine ungd rfl rfl ?_;refine call l10_Awake rfl rfl λw10=>?_;refine kA 2 ?_;refine ungd rfl rfl ?_;refine kA 1 ?_;refine ungd rfl rfl ?_;refine kA 1 ?_;refine so_rt (t:=37) (p':= .bool true) (ple (congrArg PV.bool (show decide (((A3_ ((A3_ ((Bw_ (⟨[],[]⟩:Ap_) (⟨[97],1,[]⟩:W_)).1) (⟨[97],[113],false,[],[],false⟩:Q_)).1) (⟨[97],[113],false,[120],[],false⟩:Q_)).2)=0)=true by decide +kernel))) rfl ?_;refine kA 2 ?_;refine ungd rfl rfl ?_;refine kA 1 ?_;refine ungd rfl rfl ?_;refine kA 1 ?_;refine so_rt (t:=41) (p':= .bool true) (ple (congrArg PV.bool (show decide (((Ci_ ((A3_ ((A3_ ((Bw_ (⟨[],[]⟩:Ap_) (⟨[97],1,[]⟩:W_)).1) (⟨[97],[113],false,[],[],false⟩:Q_)).1) (⟨[97],[113],false,[120],[],false⟩:Q_)).1) [97] [] []).2.2)=0)=true by decide +kernel))) rfl ?_;refine kA 2 ?_;refine ungd rfl rfl ?_;refine kA 1 ?_;refine ungd rfl rfl ?_;refine ef (bsl 1 strc [[113]] F_ rfl rfl rfl rfl rfl (λ_=>rfl) rfl (by decide) (by decide) rfl λu11=>?_);refine ungd rfl rfl ?_;refine ef (calll 1 rfl (eq_Str _ _) rfl rfl rfl λw12=>?_);refine so_rt (t:=46) (p':= .bool true) (ple (congrArg PV.bool (show decide (((Ci_ ((A3_ ((A3_ ((Bw_ (⟨[],[]⟩:Ap_) (⟨[97],1,[]⟩:W_)).1) (⟨[97],[113],false,[],[],false⟩:Q_)).1) (⟨[97],[113],false,[120],[],false⟩:Q_)).1) [97] [] []).1)=[[113]])=true by decide +kernel))) rfl ?_;refine kA 2 ?_;refine ungd rfl rfl ?_;refine kA 1 ?_;refine ungd rfl rfl ?_;refine kA 1 ?_;refine ungd rfl rfl ?_;refine kA 1 ?_;refine so_rt (t:=51) (p':= .bool true) (ple (congrArg PV.bool (show decide ((((Ci_ ((A3_ ((A3_ ((Bw_ (⟨[],[]⟩:Ap_) (⟨[97],1,[]⟩:W_)).1) (⟨[97],[113],false,[],[],false⟩:Q_)).1) (⟨[97],[113],false,[120],[],false⟩:Q_)).1) [97] [] []).2.1).length:Int)=0)=true by decide +kernel))) rfl ?_;refine kA 5 ?_;refine rt1 rfl rfl (ple ?_);exact congrArg PV.bool (by first|rfl|decide +kernel)
theorem l14_Awake:Fn prog gb 264 [] (.bool true):=by
 refine kG func264 ntmps264 λw N H hG=>?_;refine kA 7 ?_;refine call l14_awake rfl rfl λw1=>?_;refine kA 4 ?_;refine rt1 rfl rfl (ple ?_)
 rfl
theorem l22_awake:Fn prog gb 220 [] (.bool true):=by
 refine kG func220 ntmps220 λw N H hG=>?_;refine kA 8 ?_;refine call (deed_Bytes (⟨11,1,(⟨[],0,[]⟩:W_),(⟨[],0,0,[]⟩:U_),(⟨[],[],false,[],[],false⟩:Q_),[],0,0,0,0,0,(⟨0,[],[],[],[],0,0⟩:Mail),[]⟩:O_)) rfl rfl λw1=>?_;have :=Vf_ (d:=(⟨11,1,(⟨[],0,[]⟩:W_),(⟨[],0,0,[]⟩:U_),(⟨[],[],false,[],[],false⟩:Q_),[],0,0,0,0,0,(⟨0,[],[],[],[],0,0⟩:Mail),[]⟩:O_)) (by first|omega|decide);have :=Zu_ (⟨11,1,(⟨[],0,[]⟩:W_),(⟨[],0,0,[]⟩:U_),(⟨[],[],false,[],[],false⟩:Q_),[],0,0,0,0,0,(⟨0,[],[],[],[],0,0⟩:Mail),[]⟩:O_);refine kA 9 ?_;refine call So_ rfl rfl λw2=>?_;refine kA 1 ?_;refine ungd rfl rfl ?_;refine call l14_Awake rfl rfl λw3=>?_;refine kA 2 ?_;refine ungd rfl rfl ?_;refine kA 1 ?_;refine ungd rfl rfl ?_;refine kA 1 ?_;refine so_rt (t:=14) (p':= .bool true) (ple (congrArg PV.bool (show decide ((Fs_ (⟨11,1,(⟨[],0,[]⟩:W_),(⟨[],0,0,[]⟩:U_),(⟨[],[],false,[],[],false⟩:Q_),[],0,0,0,0,0,(⟨0,[],[],[],[],0,0⟩:Mail),[]⟩:O_))=0)=true by decide +kernel))) rfl ?_;refine kA 2 ?_;refine ungd rfl rfl ?_;refine kA 1 ?_;refine ungd rfl rfl ?_;refine kA 1 ?_;refine ungd rfl rfl ?_;refine kA 1 ?_;refine so_rt (t:=19) (p':= .bool true) (ple (congrArg PV.bool (show decide (((Cd_ (⟨11,1,(⟨[],0,[]⟩:W_),(⟨[],0,0,[]⟩:U_),(⟨[],[],false,[],[],false⟩:Q_),[],0,0,0,0,0,(⟨0,[],[],[],[],0,0⟩:Mail),[]⟩:O_)).length:Int)=9)=true by decide +kernel))) rfl ?_;refine kA 5 ?_;refine rt1 rfl rfl (ple ?_);exact congrArg PV.bool (by first|rfl|decide +kernel)
theorem l22_Awake:Fn prog gb 158 [] (.bool true):=by
 refine kG func158 ntmps158 λw N H hG=>?_;refine kA 7 ?_;refine call l22_awake rfl rfl λw1=>?_;refine kA 4 ?_;refine rt1 rfl rfl (ple ?_)
 rfl
end Go.SW.V
