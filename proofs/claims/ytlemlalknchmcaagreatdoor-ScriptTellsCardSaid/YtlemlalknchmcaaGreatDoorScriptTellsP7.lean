/-
  A part of the proof of ScriptTells: A closed run at this seat: the example of chapter 06 holds; its one call through an iterator goes by the
-/
import Derived.Test.YtlemlalknchmcaaGreatDoorScriptTellsP5
import Derived.Test.YtlemlalknchmcaaGreatDoorScriptTellsP6
set_option linter.unusedVariables false
set_option linter.unusedSimpArgs false
set_option maxRecDepth 100000
set_option maxHeartbeats 4000000
open Int renaming ofNat->AQ
open Nat renaming le_refl->AY
open Go.Proofs.Tryz
namespace Go.CE
open Go.SW Go.Proofs
def S06:Sn:=⟨[.agg [I 1,I 1, .slu 104 0 2 5, .slu 180 0 3 1, .nils],I 1,U 5],252,[(180, .cells 3 [I 0,I 1,I 0] true)], .tup [U 7, .bool true],252,[]⟩
theorem S06_ok(h0:He)(hi:allB h0 S06.I=true)(t0:He)(ht:∀ i,t0.get i=ov S06.U i (h0.get i))(N:SW.Rest)(H:Hp):Cs prog N H 162 S06.args h0 S06.nx S06.c t0 S06.nx':=by
 refine⟨cbE _ _ func162 xO,λβ L vs w hr hv hm R' kk=>?_⟩;obtain⟨x,us,rfl,h1,hv⟩:=hv.cons_inv;obtain⟨y,us,rfl,h2,hv⟩:=hv.cons_inv;obtain⟨z,us,rfl,h3,hv⟩:=hv.cons_inv
 cases hv.nil_inv
 simp only[VR,I,U] at h1 h2 h3;obtain⟨aS,rfl,h1⟩:=h1;obtain⟨a1,aS,rfl,k1,h1⟩:=h1.cons_inv;obtain⟨a2,aS,rfl,k2,h1⟩:=h1.cons_inv;obtain⟨a3,aS,rfl,k3,h1⟩:=h1.cons_inv;obtain⟨a4,aS,rfl,k4,h1⟩:=h1.cons_inv;obtain⟨a5,aS,rfl,k5,h1⟩:=h1.cons_inv
 cases h1.nil_inv
 have o3:=M2_ k3 Y;have o5:=M2_ k5 Y;simp only[VR] at k1 k2 k4;subst k1 k2 h2 h3;obtain⟨q,c,a,e1,e2,e3,rfl,e4⟩:=k4;obtain⟨q',ws,g1,g2,g3,g4,g5,g6,g7⟩:=hr.br 180 _ (H4_ hi _ (List.mem_singleton.2 Y))
 cases e1.symm.trans g1
 cases e4 xN
 have hb:=hm.l 180 _ _ g2;have hcc:∀ j,j<([0,1,0]:List Int).length->ws.toArray[q.s+0+j]? = some (.int .i64 (Go.SW.V.gt [0,1,0] j)):=λj hj=>by
   have :∃ n:Nat,([I 0,I 1,I 0]:List CV)[j]? = some (I n)/\Go.SW.V.gt [0,1,0] j=(AQ n):=by
     match j,hj with
     |0,_=>exact⟨0,rfl,rfl⟩
     |1,_=>exact⟨1,rfl,rfl⟩
     |2,_=>exact⟨0,rfl,rfl⟩
   obtain⟨n,p1,p2⟩:=this
   obtain⟨v,p3,p4⟩:=g6.get p1
   simp only[VR,I] at p4
   subst p4
   rw[p2,List.getElem?_toArray,Nat.add_zero,<- List.getElem?_drop]
   rw[<- List.getElem?_take_of_lt (show j<[I 0,I 1,I 0].length from hj)];exact p3
 have hN:=Next_in 2 (AY _) w (AQ 1) (AQ 1) xQ xQ a3 a5 o3 o5 q.b (q.s+0) c [0,1,0] xQ xQ xQ e3 ws.toArray 3 (0,0) hb hcc (AQ 1) 5 xQ;refine (callsIn_wide.1 hN).mono λen w' ⟨hh,hB⟩=>?_;have hK:∀ (b:Nat) (o:Obj),w.heap[b]? = some o->w'.heap[b]? = some o:=λb o h=>(hB.block b (Array.getElem?_eq_some_iff.1 h).1).trans h;have he:en = .returned (.tuple #[.int .u64 (AQ 7), .bool true]):=by
   rcases hh with ⟨k,hk,n1,n2,rfl⟩|⟨n1,_⟩
   . match k,hk,n1,n2 with
     |0,_,_,n2=>exact absurd n2 xQ
     |1,_,_,n2=>exact absurd n2 xQ
     |2,_,_,_=>rfl
   . exact absurd Y (n1 2 xQ)
 rw[he];have hg:∀ i,t0.get i=h0.get i:=λi=>ht i;exact kk β _ L w' (by simp only[VR,S06,U];exact⟨[_,_],rfl, .cons wE (.cons wE .nil)⟩) ⟨λ_ _ h=>h,AY _,⟨λi b e=>hr.br i b (by rw[<- hg];exact e),λi b e=>hr.lt i b (by rw[<- hg];exact e),hr.fr⟩,λi _ e=>⟨rfl,rfl,by rw[hg];exact e⟩⟩
   ⟨hB.os.trans hm.os,hB.tape.trans hm.tape,hB.output.trans hm.output,λb o h=>hK b o (hm.n b o h),λb o h=>hK b o (hm.h b o h),λi b o h=>hK b o (hm.l i b o h),hm.nh,hm.nl,hm.ll⟩
theorem c06_162:CSp prog gT 162 (.snap (snF [S06])):=N1_ (cbE _ _ func162 xO) λS hS h0 hi t0 ht N H _=>by
 cases List.mem_singleton.1 hS
 exact S06_ok h0 hi t0 ht N H
theorem a06:CSp prog gT 73 .yes:=Q_ (X:=xT) (C:=((162, .snap (snF [S06]))::cT05)) (fu:=1000000) mixE (G_ c06_162 cE05) cbE xE xO
def cT06:Ct:=(73, .yes)::cT05
theorem cE06:COk prog gT cT06:=G_ a06 cE05
theorem a07:CSp prog gT 483 .yes:=Q_ (X:=xT) (C:=cT06) (fu:=1000000) mixE cE06 cbE xE xO
def cT07:Ct:=(483, .yes)::cT06
theorem cE07:COk prog gT cT07:=G_ a07 cE06
theorem a08:CSp prog gT 320 .yes:=Q_ (X:=xT) (C:=cT07) (fu:=1000000) mixE cE07 cbE xE xO
def cT08:Ct:=(320, .yes)::cT07
theorem cE08:COk prog gT cT08:=G_ a08 cE07
theorem a09:CSp prog gT 486 .yes:=Q_ (X:=xT) (C:=cT08) (fu:=1000000) mixE cE08 cbE xE xO
def cT09:Ct:=(486, .yes)::cT08
theorem cE09:COk prog gT cT09:=G_ a09 cE08
theorem a10:CSp prog gT 485 .yes:=Q_ (X:=xT) (C:=cT09) (fu:=1000000) mixE cE09 cbE xE xO
def cT10:Ct:=(485, .yes)::cT09
theorem cE10:COk prog gT cT10:=G_ a10 cE09
theorem a11:CSp prog gT 321 .yes:=Q_ (X:=xT) (C:=cT10) (fu:=1000000) mixE cE10 cbE xE xO
def cT11:Ct:=(321, .yes)::cT10
theorem cE11:COk prog gT cT11:=G_ a11 cE10
theorem a12:CSp prog gT 322 .yes:=Q_ (X:=xT) (C:=cT11) (fu:=1000000) mixE cE11 cbE xE xO
def cT12:Ct:=(322, .yes)::cT11
theorem cE12:COk prog gT cT12:=G_ a12 cE11
theorem a13:CSp prog gT 580 .yes:=Q_ (X:=xT) (C:=cT12) (fu:=1000000) mixE cE12 cbE xE xO
def cT13:Ct:=(580, .yes)::cT12
theorem cE13:COk prog gT cT13:=G_ a13 cE12
theorem a14:CSp prog gT 581 .yes:=Q_ (X:=xT) (C:=cT13) (fu:=1000000) mixE cE13 cbE xE xO
def cT14:Ct:=(581, .yes)::cT13
theorem cE14:COk prog gT cT14:=G_ a14 cE13
theorem a15:CSp prog gT 478 .yes:=Q_ (X:=xT) (C:=cT14) (fu:=1000000) mixE cE14 cbE xE xO
def cT15:Ct:=(478, .yes)::cT14
theorem cE15:COk prog gT cT15:=G_ a15 cE14
theorem a16:CSp prog gT 479 .yes:=Q_ (X:=xT) (C:=cT15) (fu:=1000000) mixE cE15 cbE xE xO
def cT16:Ct:=(479, .yes)::cT15
theorem cE16:COk prog gT cT16:=G_ a16 cE15
theorem a17:CSp prog gT 318 .yes:=Q_ (X:=xT) (C:=cT16) (fu:=1000000) mixE cE16 cbE xE xO
def cT17:Ct:=(318, .yes)::cT16
theorem cE17:COk prog gT cT17:=G_ a17 cE16
end Go.CE
