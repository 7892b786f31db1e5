/-
  A part of the proof of ImageShort: The walks of this seat, printed by program: stairwellref21.Size, stairwelllaw23.Of, stairwellref33.book.
-/
import Derived.Test.YtdanlhjbbojfgaaGreatDoorProg
import Derived.Test.YtdanlhjbbojfgaaGreatDoorImageShortP4
import Derived.KernelRfl
import Derived.Test.YtdanlhjbbojfgaaGreatDoorImageShortP6
import Derived.Test.YtdanlhjbbojfgaaGreatDoorImageShortP3
set_option linter.unusedVariables false
set_option linter.unusedSimpArgs false
set_option maxRecDepth 100000
set_option maxHeartbeats 4000000
namespace Go.SW.V
open Go.SW Go.Proofs
def tbv150:Tb:=[(3,ty3),(4,ty4),(5,ty5),(9,ty9),(22,ty22),(24,ty24),(45,ty45),(47,ty47),(51,ty51),(53,ty53),(71,ty71),(75,ty75),(169,X3_),(238,X4_),(240,Sl_)]
theorem Dm_:tbB Tryz.prog tbv150=true:=by kernel_rfl
theorem Po_ (yes:Bool):Fn Tryz.prog gb 76 [.bool yes] (.int .u64 (D4_ yes)):=by
  refine fC Tryz.func76 Dm_ Tryz.ntmps76 fun w N H hG=>?_;have e0:=D4_.eq_1 yes;generalize D4_ yes=z at e0 ⊢;refine gx Dm_ 11 ?_;refine cE e0 (fun h1 e2=>?_) (fun h1 e3=>?_)
  · refine gx Dm_ 7 ?_;subst e2;exact qr1
  refine gx Dm_ 8 ?_;subst e3;exact qr1
theorem St_ (x:ItemR):Fn Tryz.prog gb 159 [.agg (ItemR.pc x)] (.int .u64 (Fh_ x)):=by
  refine fC Tryz.func159 Dm_ Tryz.ntmps159 fun w N H hG=>?_;have x_mail_head_l:x.mail.head.length<=140737488355328:=w.1.2.2.2.1.1;have e0:=Fh_.eq_1 x;generalize Fh_ x=z at e0 ⊢;refine gm Dm_ 18 [0] fun B2=>?_;refine cE e0 (fun h3 e4=>?_) (fun h3 e8=>?_)
  · refine gx Dm_ 11 ?_;refine cE e4 (fun h5 e6=>?_) (fun h5 e7=>?_)
    · have :=F3_ (1+2);refine gx Dm_ 13 ?_;subst e6;exact qr1
    refine gx Dm_ 9 ?_;subst e7;exact qr1
  refine gx Dm_ 9 ?_;refine cE e8 (fun h9 e10=>?_) (fun h9 e11=>?_)
  · have :=F3_ (0+2);refine gx Dm_ 13 ?_;subst e10;exact qr1
  refine gx Dm_ 9 ?_;subst e11;exact qr1
theorem M9_ (n:A4_) (hk:n.kept.length<=1000/\∀ x∈n.kept,x.text.length<=1000:=by assumption):Fn Tryz.prog gb 79 [.agg (A4_.pc n)] (.str (Bw_ n)):=by
  refine fC Tryz.func79 Dm_ Tryz.ntmps79 fun w N H hG=>?_;have n_kept_l:n.kept.length<=140737488355328:=w.1.2.1.1;have hk1:=hk.1;have e0:=Bw_.eq_1 n;refine gm Dm_ 7 [0] fun B2=>?_;refine G4_ (ι:=Nat) [1,2] [0] (fun b3=>[(3, .own 1 b3 0)]) (fun b3=>[(1, .box b3 169 [.str ((B_ (B_ (⟨[],0⟩:Out) n.total 8) (n.kept.length:Int) 1).s), .int .i64 ((B_ (B_ (⟨[],0⟩:Out) n.total 8) (n.kept.length:Int) 1).err)])]) (fun b3=>PV.wf (.agg (Out.pc (B_ (⟨[],0⟩:Out) n.total 8)))/\PV.wf (.agg (Out.pc (B_ (B_ (⟨[],0⟩:Out) n.total 8) (n.kept.length:Int) 1)))) ?_ ?_
  · refine aN [1,2,3,4,5,6,7,8] 11 mixd ?_;refine gX Dm_ [0,1,2] 8 ?_;refine vC 3 rfl (out_Num (⟨[],0⟩:Out) _ _ (by ((try have :=hrl (by assumption));first|omega|(simp[B_,W_,Q_,numK]<;>omega)))) rfl fun w4=>?_;refine gX Dm_ [4,5,6] 4 ?_;refine veL 7 [9] (by kernel_rfl) ⟨⟨_,rfl,?_⟩,⟨_,rfl,?_⟩,trivial⟩
    · refine ej rfl (eqy (qconv Dm_ rfl rfl rfl rfl (J1_ (by omega))) rfl fun w5=>?_);refine vC 8 rfl (out_Num (B_ (⟨[],0⟩:Out) n.total 8) _ _ (by ((try have :=hrl (by assumption));first|omega|(simp[B_,W_,Q_,numK]<;>omega)))) rfl fun w6=>?_;refine vE 9 rfl (aL Dm_ 1 fun b7=>?_);refine vE 10 rfl (sA Dm_ ?_);refine vD ?_;refine nX (b7) ?_ ⟨rfl,trivial⟩ ⟨rfl,trivial⟩;exact⟨w4,w6⟩
    refine ej rfl (aL Dm_ 1 fun b8=>?_);refine vE 7 rfl (eqy (qconv Dm_ rfl rfl rfl rfl (J1_ (by omega))) rfl fun w9=>?_);refine vC 8 rfl (out_Num (B_ (⟨[],0⟩:Out) n.total 8) _ _ (by ((try have :=hrl (by assumption));first|omega|(simp[B_,W_,Q_,numK]<;>omega)))) rfl fun w10=>?_;refine vE 10 rfl (sA Dm_ ?_);refine vD ?_;refine nX (b8) ?_ ⟨rfl,trivial⟩ ⟨rfl,trivial⟩;exact⟨w4,w10⟩
  rintro b3 ⟨w11,w12⟩;have nl0:(⟨[],0⟩:Out).s.length=0:=rfl;have :=F_ (⟨[],0⟩:Out) n.total 8;have :=F_ (B_ (⟨[],0⟩:Out) n.total 8) (n.kept.length:Int) 1;refine gx Dm_ 11 ?_;refine loop (ι:=Nat×Out) [2,3,16,17] [0] (fun ⟨k,x⟩=>[(18, .int .i64 (k:Int))]) (fun ⟨k,x⟩=>[(1, .box b3 169 (Out.pc x))]) (fun ⟨k,x⟩=>k<=n.kept.length/\Bw_ n=An_ (n.kept.drop k) x/\x.s.length<=16+1100*k) (fun ⟨k,x⟩=>n.kept.length-k) ⟨0,(B_ (B_ (⟨[],0⟩:Out) n.total 8) (n.kept.length:Int) 1)⟩ ⟨rfl,trivial⟩ ⟨rfl,trivial⟩ ?_ ?_
  · exact⟨Nat.zero_le _,e0,by omega⟩
  rintro⟨k,x⟩ ⟨hp13_1,hp13_2,hp13_3⟩;refine gx Dm_ 6 ?_;refine cn rfl (fun p15=>?_) fun p24=>?_
  · have e16:=B0_ (f:=fun zz=>An_ zz x) hp13_2 (Fz_ (by omega)) (An_.eq_2 _ _ _);have hc17:=getG (xs:=n.kept) (k:=k) (by omega);have hz_hc17:=hk.2 (gt n.kept k) (List.mem_of_getElem? hc17);refine gx Dm_ 6 ?_;refine q1 (qidx Dm_ k rfl rfl rfl hc17 rfl rfl rfl rfl) rfl fun w18=>?_;refine gm Dm_ 5 [2] fun B20=>?_;refine aN [3,4,5,6,7,8] 12 mixd ?_;refine gX Dm_ [0,1,2] 9 ?_;refine vC 3 rfl (out_Num _ _ _ (by ((try have :=hrl (by assumption));first|omega|(simp[B_,W_,Q_,numK]<;>omega)))) rfl fun w21=>?_;have :=F_ x ((gt n.kept k).tick) 8;refine gX Dm_ [4,5,6] 5 ?_;refine vC 7 rfl (out_Num _ _ _ (by ((try have :=hrl (by assumption));first|omega|(simp[B_,W_,Q_,numK]<;>omega)))) rfl fun w22=>?_;have :=F_ (B_ x ((gt n.kept k).tick) 8) ((gt n.kept k).kind) 1;refine gX Dm_ [8,9] 2 ?_;refine vC 10 rfl (Ck_ _ _) rfl fun w23=>?_;have :=U_ (B_ (B_ x ((gt n.kept k).tick) 8) ((gt n.kept k).kind) 1) ((gt n.kept k).text);refine vT 11 rfl (sA Dm_ ?_);refine vD ?_;refine gy Dm_ 6 ?_;refine next ⟨(k+1),(D_ (B_ (B_ x ((gt n.kept k).tick) 8) ((gt n.kept k).kind) 1) ((gt n.kept k).text))⟩ rfl rfl ⟨rfl,trivial⟩ ⟨rfl,trivial⟩ ?_ ?_
    · (try simp only[]);omega
    exact⟨by (try simp only[]);omega,e16,by omega⟩
  have e25:=B0_ (f:=fun zz=>An_ zz x) hp13_2 (F0_ (by omega)) (An_.eq_1 _);refine gx Dm_ 8 ?_;refine call (Cf_ _) rfl rfl fun w26=>?_;refine gx Dm_ 4 ?_;exact rt1 rfl rfl (P_ (fun r:Bs=> .str r) e25 (ple rfl))
theorem Or_ (x:RiseR) (hk:x.kept.length<=1000:=by assumption):Fn Tryz.prog gb 160 [.agg (RiseR.pc x)] (.str (Cv_ x)):=by
  refine fC Tryz.func160 Dm_ Tryz.ntmps160 fun w N H hG=>?_;have x_kept_l:x.kept.length<=140737488355328:=w.1.2.1.1;have e0:=Cv_.eq_1 x;refine gm Dm_ 7 [0] fun B2=>?_;refine G4_ (ι:=Nat) [1,2] [0] (fun b3=>[(3, .own 1 b3 0)]) (fun b3=>[(1, .box b3 169 [.str ((B_ (B_ (⟨[],0⟩:Out) x.total 8) (x.kept.length:Int) 1).s), .int .i64 ((B_ (B_ (⟨[],0⟩:Out) x.total 8) (x.kept.length:Int) 1).err)])]) (fun b3=>PV.wf (.agg (Out.pc (B_ (⟨[],0⟩:Out) x.total 8)))/\PV.wf (.agg (Out.pc (B_ (B_ (⟨[],0⟩:Out) x.total 8) (x.kept.length:Int) 1)))) ?_ ?_
  · refine aN [1,2,3,4,5,6,7,8] 11 mixd ?_;refine gX Dm_ [0,1,2] 8 ?_;refine vC 3 rfl (out_Num (⟨[],0⟩:Out) _ _ (by ((try have :=hrl (by assumption));first|omega|(simp[B_,W_,Q_,numK]<;>omega)))) rfl fun w4=>?_;refine gX Dm_ [4,5,6] 4 ?_;refine veL 7 [9] (by kernel_rfl) ⟨⟨_,rfl,?_⟩,⟨_,rfl,?_⟩,trivial⟩
    · refine ej rfl (eqy (qconv Dm_ rfl rfl rfl rfl (J1_ (by omega))) rfl fun w5=>?_);refine vC 8 rfl (out_Num (B_ (⟨[],0⟩:Out) x.total 8) _ _ (by ((try have :=hrl (by assumption));first|omega|(simp[B_,W_,Q_,numK]<;>omega)))) rfl fun w6=>?_;refine vE 9 rfl (aL Dm_ 1 fun b7=>?_);refine vE 10 rfl (sA Dm_ ?_);refine vD ?_;refine nX (b7) ?_ ⟨rfl,trivial⟩ ⟨rfl,trivial⟩;exact⟨w4,w6⟩
    refine ej rfl (aL Dm_ 1 fun b8=>?_);refine vE 7 rfl (eqy (qconv Dm_ rfl rfl rfl rfl (J1_ (by omega))) rfl fun w9=>?_);refine vC 8 rfl (out_Num (B_ (⟨[],0⟩:Out) x.total 8) _ _ (by ((try have :=hrl (by assumption));first|omega|(simp[B_,W_,Q_,numK]<;>omega)))) rfl fun w10=>?_;refine vE 10 rfl (sA Dm_ ?_);refine vD ?_;refine nX (b8) ?_ ⟨rfl,trivial⟩ ⟨rfl,trivial⟩;exact⟨w4,w10⟩
  rintro b3 ⟨w11,w12⟩;have nl0:(⟨[],0⟩:Out).s.length=0:=rfl;have :=F_ (⟨[],0⟩:Out) x.total 8;have :=F_ (B_ (⟨[],0⟩:Out) x.total 8) (x.kept.length:Int) 1;refine gx Dm_ 11 ?_;refine loop (ι:=Nat×Out) [2,3,18,19] [0] (fun ⟨k,x1⟩=>[(20, .int .i64 (k:Int))]) (fun ⟨k,x1⟩=>[(1, .box b3 169 (Out.pc x1))]) (fun ⟨k,x1⟩=>k<=x.kept.length/\Cv_ x=B1_ (x.kept.drop k) x1/\x1.s.length<=16+3000*k) (fun ⟨k,x1⟩=>x.kept.length-k) ⟨0,(B_ (B_ (⟨[],0⟩:Out) x.total 8) (x.kept.length:Int) 1)⟩ ⟨rfl,trivial⟩ ⟨rfl,trivial⟩ ?_ ?_
  · exact⟨Nat.zero_le _,e0,by omega⟩
  rintro⟨k,x1⟩ ⟨hp13_1,hp13_2,hp13_3⟩;refine gx Dm_ 6 ?_;refine cn rfl (fun p15=>?_) fun p24=>?_
  · have e16:=B0_ (f:=fun zz=>B1_ zz x1) hp13_2 (Fz_ (by omega)) (B1_.eq_2 _ _ _);have hc17:=getG (xs:=x.kept) (k:=k) (by omega);refine gx Dm_ 6 ?_;refine q1 (qidx Dm_ k rfl rfl rfl hc17 rfl rfl rfl rfl) rfl fun w18=>?_;refine gm Dm_ 8 [2] fun B20=>?_;refine call (K2_ _) rfl rfl fun w21=>?_;have :=Ex_ (gt x.kept k);refine gx Dm_ 10 ?_;refine call (Ik_ _ _) rfl rfl fun w22=>?_;have :=C3_ x1 (B3_ (gt x.kept k));refine gmy Dm_ 8 [] fun _=>?_;refine next ⟨(k+1),(W_ x1 (B3_ (gt x.kept k)))⟩ rfl rfl ⟨rfl,trivial⟩ ⟨rfl,trivial⟩ ?_ ?_
    · (try simp only[]);omega
    exact⟨by (try simp only[]);omega,e16,by omega⟩
  have e25:=B0_ (f:=fun zz=>B1_ zz x1) hp13_2 (F0_ (by omega)) (B1_.eq_1 _);refine gx Dm_ 8 ?_;refine call (Cf_ _) rfl rfl fun w26=>?_;refine gx Dm_ 4 ?_;exact rt1 rfl rfl (P_ (fun r:Bs=> .str r) e25 (ple rfl))
theorem line_Of_ok (items:List ItemR) (hi:∀ y∈items,MlOk y.mail:=by assumption):Fn Tryz.prog gb 233 [.sl ItemR.pc items] (.tup [.agg (LineR.pc ((Pb_ items).1)), .int .i64 ((Pb_ items).2)]):=by
  refine fC Tryz.func233 Dm_ Tryz.ntmps233 fun w N H hG=>?_;have items_l:items.length<=140737488355328:=w.1.1;have e0:=Pb_.eq_1 items;generalize Pb_ items=z at e0 ⊢;refine gm Dm_ 20 [0,1] fun B2=>?_;refine loop (ι:=Nat×LineR) [2,4,9,10] [0] (fun ⟨k,x⟩=>[(11, .int .i64 (k:Int))]) (fun ⟨k,x⟩=>[(1, .box (B2 1) 240 (LineR.pc x))]) (fun ⟨k,x⟩=>k<=items.length/\z=G5_ (items.drop k) x) (fun ⟨k,x⟩=>items.length-k) ⟨0,(⟨[]⟩:LineR)⟩ ⟨rfl,trivial⟩ ⟨rfl,trivial⟩ ?_ ?_
  · exact⟨Nat.zero_le _,e0⟩
  rintro⟨k,x⟩ ⟨hp4_1,hp4_2⟩;refine gx Dm_ 6 ?_;refine cn rfl (fun p6=>?_) fun p26=>?_
  · have e7:=B0_ (f:=fun zz=>G5_ zz x) hp4_2 (Fz_ (by omega)) (G5_.eq_2 _ _ _);have hc8:=getG (xs:=items) (k:=k) (by omega);have hz_hc8:=(hi (gt items k) (List.mem_of_getElem? hc8)).1;refine gx Dm_ 6 ?_;refine q1 (qidx Dm_ k rfl rfl rfl hc8 rfl rfl rfl rfl) rfl fun w9=>?_;refine gm Dm_ 9 [2] fun B11=>?_;refine cV e7 R2_ (Lr_ _ _) rfl fun r hr12 e14 w13=>?_;refine gm Dm_ 15 [3] fun B16=>?_;refine cN e14 (fun p19 e20=>?_) (fun p23 e24=>?_)
    · refine gm Dm_ 15 [] fun _=>?_;subst e20;exact qr2
    refine gmy Dm_ 12 [] fun _=>?_;refine next ⟨(k+1),r.1⟩ rfl rfl ⟨rfl,trivial⟩ ⟨rfl,trivial⟩ ?_ ?_
    · (try simp only[]);omega
    exact⟨by (try simp only[]);omega,e24⟩
  have e27:=B0_ (f:=fun zz=>G5_ zz x) hp4_2 (F0_ (by omega)) (G5_.eq_1 _);refine gm Dm_ 13 [] fun _=>?_;subst e27;exact qr2
def tbv151:Tb:=[(3,ty3),(9,ty9),(22,ty22),(44,ty44),(47,ty47),(48,ty48),(50,ty50),(66,ty66),(71,ty71),(75,ty75),(169,X3_),(238,X4_),(240,Sl_),(242,ty242)]
theorem Ej_:tbB Tryz.prog tbv151=true:=by kernel_rfl
theorem Jd_ (s:E_) (hs:StkOk s:=by assumption) (hq:RoB s:=by assumption):Fn Tryz.prog gb 78 [.agg (E_.pc s)] (.str (Bl_ s)):=by
  refine fC Tryz.func78 Ej_ Tryz.ntmps78 fun w N H hG=>?_;have s_rows_l:s.rows.length<=140737488355328:=w.1.2.2.1.1;have hs8:=hs.1.1;have e0:=Bl_.eq_1 s;refine gm Ej_ 7 [0] fun B2=>?_;refine G4_ (ι:=Nat) [1,2] [0] (fun b3=>[(3, .own 1 b3 0)]) (fun b3=>[(1, .box b3 169 [.str ((B_ (B_ (⟨[],0⟩:Out) s.next 8) (s.rows.length:Int) 1).s), .int .i64 ((B_ (B_ (⟨[],0⟩:Out) s.next 8) (s.rows.length:Int) 1).err)])]) (fun b3=>PV.wf (.agg (Out.pc (B_ (⟨[],0⟩:Out) s.next 8)))/\PV.wf (.agg (Out.pc (B_ (B_ (⟨[],0⟩:Out) s.next 8) (s.rows.length:Int) 1)))) ?_ ?_
  · refine aN [1,2,3,4,5,6,7,8] 11 mixd ?_;refine gX Ej_ [0,1,2] 8 ?_;refine vC 3 rfl (out_Num (⟨[],0⟩:Out) _ _ (by ((try have :=hrl (by assumption));first|omega|(simp[B_,W_,Q_,numK]<;>omega)))) rfl fun w4=>?_;refine gX Ej_ [4,5,6] 4 ?_;refine veL 7 [9] (by kernel_rfl) ⟨⟨_,rfl,?_⟩,⟨_,rfl,?_⟩,trivial⟩
    · refine ej rfl (eqy (qconv Ej_ rfl rfl rfl rfl (J1_ (by omega))) rfl fun w5=>?_);refine vC 8 rfl (out_Num (B_ (⟨[],0⟩:Out) s.next 8) _ _ (by ((try have :=hrl (by assumption));first|omega|(simp[B_,W_,Q_,numK]<;>omega)))) rfl fun w6=>?_;refine vE 9 rfl (aL Ej_ 1 fun b7=>?_);refine vE 10 rfl (sA Ej_ ?_);refine vD ?_;refine nX (b7) ?_ ⟨rfl,trivial⟩ ⟨rfl,trivial⟩;exact⟨w4,w6⟩
    refine ej rfl (aL Ej_ 1 fun b8=>?_);refine vE 7 rfl (eqy (qconv Ej_ rfl rfl rfl rfl (J1_ (by omega))) rfl fun w9=>?_);refine vC 8 rfl (out_Num (B_ (⟨[],0⟩:Out) s.next 8) _ _ (by ((try have :=hrl (by assumption));first|omega|(simp[B_,W_,Q_,numK]<;>omega)))) rfl fun w10=>?_;refine vE 10 rfl (sA Ej_ ?_);refine vD ?_;refine nX (b8) ?_ ⟨rfl,trivial⟩ ⟨rfl,trivial⟩;exact⟨w4,w10⟩
  rintro b3 ⟨w11,w12⟩;have nl0:(⟨[],0⟩:Out).s.length=0:=rfl;have :=F_ (⟨[],0⟩:Out) s.next 8;have :=F_ (B_ (⟨[],0⟩:Out) s.next 8) (s.rows.length:Int) 1;refine gx Ej_ 11 ?_;refine loop (ι:=Nat×Out) [1,2,3,24,25] [0] (fun ⟨k,x⟩=>[(26, .int .i64 (k:Int))]) (fun ⟨k,x⟩=>[(1, .box b3 169 (Out.pc x))]) (fun ⟨k,x⟩=>k<=s.rows.length/\Bl_ s=A7_ s (s.rows.drop k) x/\x.s.length<=16+300000*k) (fun ⟨k,x⟩=>s.rows.length-k) ⟨0,(B_ (B_ (⟨[],0⟩:Out) s.next 8) (s.rows.length:Int) 1)⟩ ⟨rfl,trivial⟩ ⟨rfl,trivial⟩ ?_ ?_
  · exact⟨Nat.zero_le _,e0,by omega⟩
  rintro⟨k,x⟩ ⟨hp13_1,hp13_2,hp13_3⟩;refine gx Ej_ 6 ?_;refine cn rfl (fun p15=>?_) fun p46=>?_
  · have e16:=B0_ (f:=fun zz=>A7_ s zz x) hp13_2 (Fz_ (by omega)) (A7_.eq_2 _ _ _ _);refine gx Ej_ 3 ?_;obtain⟨o,e_o,q_o⟩:=Gx_ e16;refine G4_ (ι:=Out) [1,2,3,24,25,26] [0] (fun x1=>[]) (fun x1=>[(1, .box b3 169 (Out.pc x1))]) (fun x1=>o=x1/\x1.s.length<=16+300000*(k+1)) ?_ ?_
    · have hc17:=getG (xs:=s.rows) (k:=k) (by omega);have hz_hc17:=RwsOk.at hs.1 hc17;have hy_hc17:=qcheck_f (hq (gt s.rows k) (List.mem_of_getElem? hc17));refine gx Ej_ 3 ?_;refine q1 (qidx Ej_ k rfl rfl rfl hc17 rfl rfl rfl rfl) rfl fun w18=>?_;refine gm Ej_ 6 [2] fun B20=>?_;refine aN [3,4,5,6,7,8] 23 mixd ?_;refine gX Ej_ [0,1,2,3] 19 ?_;refine vC 4 rfl (Ck_ x _) rfl fun w21=>?_;have :=U_ x ((gt s.rows k).q.name);refine gX Ej_ [5,6,7] 15 ?_;refine vC 8 rfl (out_Num (D_ x ((gt s.rows k).q.name)) _ _ (by ((try have :=hrl (by assumption));first|omega|(simp[B_,W_,Q_,numK]<;>omega)))) rfl fun w22=>?_;have :=F_ (D_ x ((gt s.rows k).q.name)) ((gt s.rows k).q.most) 8;refine gX Ej_ [9,10,11] 11 ?_;refine vC 12 rfl (out_Num (B_ (D_ x ((gt s.rows k).q.name)) ((gt s.rows k).q.most) 8) _ _ (by ((try have :=hrl (by assumption));first|omega|(simp[B_,W_,Q_,numK]<;>omega)))) rfl fun w23=>?_;have :=F_ (B_ (D_ x ((gt s.rows k).q.name)) ((gt s.rows k).q.most) 8) ((gt s.rows k).q.life) 8;refine gX Ej_ [13,14,15] 7 ?_;refine vC 16 rfl (Ck_ (B_ (B_ (D_ x ((gt s.rows k).q.name)) ((gt s.rows k).q.most) 8) ((gt s.rows k).q.life) 8) _) rfl fun w24=>?_;have :=U_ (B_ (B_ (D_ x ((gt s.rows k).q.name)) ((gt s.rows k).q.most) 8) ((gt s.rows k).q.life) 8) ((gt s.rows k).q.dead);refine gX Ej_ [17,18] 4 ?_;refine vC 19 rfl (I7_ ((gt s.rows k).l)) rfl fun w25=>?_;refine gX Ej_ [20] 2 ?_;refine vC 21 rfl (out_Num (D_ (B_ (B_ (D_ x ((gt s.rows k).q.name)) ((gt s.rows k).q.most) 8) ((gt s.rows k).q.life) 8) ((gt s.rows k).q.dead)) _ _ (by ((try have :=hrl (by assumption));first|omega|(simp[B_,W_,Q_,numK]<;>omega)))) rfl fun w26=>?_;have :=F_ (D_ (B_ (B_ (D_ x ((gt s.rows k).q.name)) ((gt s.rows k).q.most) 8) ((gt s.rows k).q.life) 8) ((gt s.rows k).q.dead)) (IntKind.wrap .u64 (Eb_ ((gt s.rows k).l))) 1;refine vT 22 rfl (sA Ej_ ?_);refine vD ?_;refine gx Ej_ 5 ?_;refine cV e_o R40_ (Pw_ _) rfl fun r hr27 e29 w28=>?_;have :=all_len hz_hc17
      (try rw[<- hr27] at this)
      refine gx Ej_ 5 ?_;refine loop (ι:=Nat×Out) [1,2,3,24,25,26,54,55] [0,2] (fun ⟨k1,x2⟩=>[(56, .int .i64 (k1:Int))]) (fun ⟨k1,x2⟩=>[(1, .box b3 169 (Out.pc x2))]) (fun ⟨k1,x2⟩=>k1<=r.length/\o=Av_ (r.drop k1) x2/\x2.s.length<=16+300000*k+100+4000*k1) (fun ⟨k1,x2⟩=>r.length-k1) ⟨0,(B_ (D_ (B_ (B_ (D_ x ((gt s.rows k).q.name)) ((gt s.rows k).q.most) 8) ((gt s.rows k).q.life) 8) ((gt s.rows k).q.dead)) (IntKind.wrap .u64 (Eb_ ((gt s.rows k).l))) 1)⟩ ⟨rfl,trivial⟩ ⟨rfl,trivial⟩ ?_ ?_
      · exact⟨Nat.zero_le _,e29,by omega⟩
      rintro⟨k1,x2⟩ ⟨hp30_1,hp30_2,hp30_3⟩;refine gx Ej_ 6 ?_;refine cn rfl (fun p32=>?_) fun p42=>?_
      · have e33:=B0_ (f:=fun zz=>Av_ zz x2) hp30_2 (Fz_ (by omega)) (Av_.eq_2 _ _ _);have hc34:=getG (xs:=r) (k:=k1) (by omega);refine gx Ej_ 6 ?_;refine q1 (qidx Ej_ k1 rfl rfl rfl hc34 rfl rfl rfl rfl) rfl fun w35=>?_;refine gm Ej_ 9 [3] fun B37=>?_;refine call (K2_ _) rfl rfl fun w38=>?_;have :=Ex_ ((gt r k1).mail);refine gx Ej_ 7 ?_;refine aN [4,5,6,7,8,9] 7 mixd ?_;refine gX Ej_ [0,1] 5 ?_;refine vC 2 rfl (St_ (gt r k1)) rfl fun w39=>?_;refine vC 3 rfl (out_Num x2 _ _ (by ((try have :=hrl (by assumption));first|omega|(simp[B_,W_,Q_,numK]<;>omega)))) rfl fun w40=>?_;have :=F_ x2 (Fh_ (gt r k1)) 1;refine gX Ej_ [4] 2 ?_;refine vC 5 rfl (Ik_ (B_ x2 (Fh_ (gt r k1)) 1) _) rfl fun w41=>?_;have :=C3_ (B_ x2 (Fh_ (gt r k1)) 1) (B3_ ((gt r k1).mail));refine vT 6 rfl (sA Ej_ ?_);refine vD ?_;refine gy Ej_ 6 ?_;refine next ⟨(k1+1),(W_ (B_ x2 (Fh_ (gt r k1)) 1) (B3_ ((gt r k1).mail)))⟩ rfl rfl ⟨rfl,trivial⟩ ⟨rfl,trivial⟩ ?_ ?_
        · (try simp only[]);omega
        exact⟨by (try simp only[]);omega,e33,by omega⟩
      have e43:=B0_ (f:=fun zz=>Av_ zz x2) hp30_2 (F0_ (by omega)) (Av_.eq_1 _);refine gx Ej_ 5 ?_;refine nX x2 ?_ trivial ⟨rfl,trivial⟩;exact⟨e43,by omega⟩
    rintro x1 ⟨hp44,hp44_3⟩;have e45:=Jx_ q_o hp44;refine gy Ej_ 5 ?_;refine next ⟨(k+1),x1⟩ rfl rfl ⟨rfl,trivial⟩ ⟨rfl,trivial⟩ ?_ ?_
    · (try simp only[]);omega
    exact⟨by (try simp only[]);omega,e45,by omega⟩
  have e47:=B0_ (f:=fun zz=>A7_ s zz x) hp13_2 (F0_ (by omega)) (A7_.eq_1 _ _);refine gm Ej_ 24 [2] fun B49=>?_;refine loop (ι:=Nat×Int×Nat×Out) [2,3,10,75] [0,1] (fun ⟨f,many,v,x4⟩=>[(11, .int .u64 many),(76, .int .i64 (v:Int))]) (fun ⟨f,many,v,x4⟩=>[(2, .box (B49 0) 169 (Out.pc x4))]) (fun ⟨f,many,v,x4⟩=>16-v<f/\Bl_ s=C9_ s x f many v x4/\v<=16/\x4.s.length<=60000*v) (fun ⟨f,many,v,x4⟩=>f) ⟨(16-0+1),0,0,(⟨[],0⟩:Out)⟩ ⟨rfl,rfl,trivial⟩ ⟨rfl,trivial⟩ ?_ ?_
  · exact⟨Nat.lt_succ_self _,e47,⟨by simp,by simp⟩⟩
  rintro⟨f,many,v,x4⟩ ⟨hp50_1,hp50_2,hp50_3⟩;obtain⟨f1,rfl⟩:∃ q,f=q+1:=⟨f-1,by omega⟩;have e_f1:=hp50_2.trans (C9_.eq_2 _ _ _ _ _ _);refine gx Ej_ 6 ?_;refine cD e_f1 (fun p52 e53=>?_) (fun p69 e70=>?_)
  · refine gx Ej_ 7 ?_;refine q1 (qaivA (fun q=>[.int .u64 ((A16.get s.rises q).total), .sl Mail.pc ((A16.get s.rises q).kept)]) v Ej_ rfl rfl Tryz.underlying48 rfl rfl rfl rfl (by omega) (bw16 rfl rfl rfl rfl rfl rfl rfl rfl rfl rfl rfl rfl rfl rfl rfl rfl)) rfl fun w54=>?_;refine gm Ej_ 8 [3] fun B56=>?_;refine cV e53 R10_ (Os_ _) rfl fun r1 hr57 e59 w58=>?_;refine gx Ej_ 3 ?_;refine cD e59 (fun p61 e62=>?_) (fun p67 e68=>?_)
    · refine gx Ej_ 1 ?_;refine aN [4,5,6,7,8,9] 8 mixd ?_;refine gX Ej_ [0,1,4] 5 ?_;refine vE 2 rfl (eqy (qconv Ej_ rfl rfl rfl rfl (J1_ (by omega))) rfl fun w63=>?_);refine vC 3 rfl (out_Num x4 _ _ (by ((try have :=hrl (by assumption));first|omega|(simp[B_,W_,Q_,numK]<;>omega)))) rfl fun w64=>?_;have :=F_ x4 (v:Int) 1;refine vC 5 rfl (Or_ (A16.get s.rises v) (hk:=by exact Nat.le_trans (hs.2.1 v (by omega)).1 (by decide))) rfl fun w65=>?_;have :=rb_len (hs.2.1 v (by omega));refine vC 6 rfl (Ik_ (B_ x4 (v:Int) 1) _) rfl fun w66=>?_;have :=C3_ (B_ x4 (v:Int) 1) (Cv_ (A16.get s.rises v));refine vT 7 rfl (sA Ej_ ?_);refine vD ?_;have :=F3_ (many+1);refine gy Ej_ 12 ?_;refine next ⟨f1,(IntKind.wrap .u64 (many+1)),(v+1),(W_ (B_ x4 (v:Int) 1) (Cv_ (A16.get s.rises v)))⟩ rfl rfl ⟨rfl,rfl,trivial⟩ ⟨rfl,trivial⟩ ?_ ?_
      · (try simp only[]);omega
      exact⟨by (try simp only[]);omega,e62,⟨by (try simp only[]);omega,by (try simp only[]);omega⟩⟩
    refine gy Ej_ 7 ?_;refine next ⟨f1,many,(v+1),x4⟩ rfl rfl ⟨rfl,rfl,trivial⟩ ⟨rfl,trivial⟩ ?_ ?_
    · (try simp only[]);omega
    exact⟨by (try simp only[]);omega,e68,⟨by (try simp only[]);omega,by (try simp only[]);omega⟩⟩
  refine gx Ej_ 6 ?_;refine aN [3,4,5,6,7,8] 8 mixd ?_;refine gX Ej_ [0,1] 6 ?_;refine vC 2 rfl (out_Num x _ _ (by ((try have :=hrl (by assumption));first|omega|(simp[B_,W_,Q_,numK]<;>omega)))) rfl fun w71=>?_;have :=F_ x many 1;refine gX Ej_ [3] 4 ?_;refine vC 4 rfl (Cf_ x4) rfl fun w72=>?_;refine vC 5 rfl (Ik_ (B_ x many 1) _) rfl fun w73=>?_;have :=C3_ (B_ x many 1) x4.s;refine vC 6 rfl (Cf_ (W_ (B_ x many 1) x4.s)) rfl fun w74=>?_;refine gX Ej_ [7] 0 ?_;refine vD ?_;refine gx Ej_ 2 ?_;exact rt1 rfl rfl (P_ (fun r:Bs=> .str r) e70 (ple rfl))
theorem cb165:R_ Tryz.prog 165:=L_ Tryz.func165 (by kernel_rfl) (by kernel_rfl)
abbrev ty47v152:TI:=⟨.agg [(0,1),(1,1)],2,32,[.int .u64 0, .val (.slice none 0 0)]⟩
def tbv152:Tb:=[(22,ty22),(45,ty45),(47,ty47v152),(71,ty71)]
theorem H8_:tbB Tryz.prog tbv152=true:=by kernel_rfl
theorem Xr_ (i:In):Fm Tryz.prog gb 165 [] 272 (In.pc i) (.agg (RiseR.pc ((I1_ i).1))) (In.pc ((I1_ i).2)):=by
  refine O1_ H8_ Tryz.func165 rfl Tryz.ntmps165 rfl cb165 rfl rfl rfl rfl fun w wp b N H hG=>?_;have i_s_l:i.s.length<=9223372036854775807:=wp.1;have i_err_r:-9223372036854775808<=i.err/\i.err<=9223372036854775807:=wp.2.1;have e0:=I1_.eq_1 i;refine gm H8_ 8 [1] fun B2=>?_;refine ef (ecallm (D0_ _ _) rfl rfl rfl rfl rfl ?_);generalize hr4:J_ i 8=r;intro w3 w3p;have e5:=e0.trans (Co_ hr4.symm);have :=Ah_ i 8
  (try simp only[hr4] at *)
  refine gm H8_ 8 [2] fun B8=>?_;refine ef (ecallm (D0_ _ _) rfl rfl rfl rfl rfl ?_);generalize hr10:J_ r.2 1=r1;intro w9 w9p;have e11:=e5.trans (Co_ hr10.symm);have :=Ah_ r.2 1
  (try simp only[hr10] at *)
  refine gx H8_ 4 ?_;obtain⟨o,e_o,q_o⟩:=Gx_ e11;refine G4_ (ι:=In) [0,2,3,4] [1,2] (fun x=>[]) (fun x=>[(0, .box b 272 (In.pc x))]) (fun x=>o=x) ?_ ?_
  · refine gx H8_ 4 ?_;refine ef (ecallm (Gu_ _) rfl rfl rfl rfl rfl fun w13 w13p=>?_);refine gx H8_ 4 ?_;refine cN e_o (fun p16 e17=>?_) (fun p19 e20=>?_)
    · refine gx H8_ 2 ?_;refine nX r1.2 ?_ trivial ⟨rfl,trivial⟩;exact e17
    refine gx H8_ 7 ?_;refine cD e20 (fun p22 e23=>?_) (fun p25 e26=>?_)
    · refine gx H8_ 2 ?_;refine ef (ecallm (Hd_ _ _) rfl rfl rfl rfl rfl fun w24 w24p=>?_);refine gx H8_ 2 ?_;refine nX (Ai_ r1.2 6) ?_ trivial ⟨rfl,trivial⟩;exact e23
    refine gx H8_ 10 ?_;refine cN e26 (fun p29 e30=>?_) (fun p33 e34=>?_)
    · refine gx H8_ 2 ?_;refine ef (ecallm (Hd_ _ _) rfl rfl rfl rfl rfl fun w31 w31p=>?_);refine gx H8_ 2 ?_;refine nX (Ai_ r1.2 7) ?_ trivial ⟨rfl,trivial⟩;exact e30
    refine gx H8_ 2 ?_;refine nX r1.2 ?_ trivial ⟨rfl,trivial⟩;exact e34
  rintro x hp35;have e36:=Jx_ q_o hp35;refine gx H8_ 8 ?_;refine N6_ (i:=2) (o:=1) (k:=7) (e:=71) 3 Mail.pc rfl (by decide) rfl rfl ?_;refine loop (ι:=Nat×Int×Int×(List Mail)×In×Value) [0,2,3,4] [1] (fun ⟨f,k,total,kept,x1,u_kept⟩=>[(5, .int .u64 k)]) (fun ⟨f,k,total,kept,x1,u_kept⟩=>[(2, .box (B8 0) 47 [.int .u64 total, .osl 3]),(3, .arr u_kept 7 71 Mail.pc kept),(0, .box b 272 (In.pc x1))]) (fun ⟨f,k,total,kept,x1,u_kept⟩=>(r1.1-k).toNat<f/\I1_ i=Hz_ r1 f k total kept x1/\0<=k/\k<=255/\(kept.length:Int)=k) (fun ⟨f,k,total,kept,x1,u_kept⟩=>f) ⟨((r1.1-0).toNat+1),0,r.1,[],x,(.slice none 0 0)⟩ ⟨rfl,trivial⟩ ⟨rfl,rfl,rfl,trivial⟩ ?_ ?_
  · exact⟨Nat.lt_succ_self _,e36,⟨by simp,by simp,by simp⟩⟩
  rintro⟨f,k,total,kept,x1,u_kept⟩ ⟨hp37_1,hp37_2,hp37_3⟩;obtain⟨f1,rfl⟩:∃ q,f=q+1:=⟨f-1,by omega⟩;have e_f1:=hp37_2.trans (Hz_.eq_2 _ _ _ _ _ _);refine gx H8_ 8 ?_;refine callgm rfl (fun hc=>(Gu_ _)) rfl rfl rfl rfl ⟨(fun hc=>hc),trivial⟩ rfl rfl fun _=>?_;refine gy H8_ 4 ?_;refine cE e_f1 (fun h38 e43=>?_) (fun h38 e50=>?_)
  · have h39:=bl h38;have p40:=dt h39;have h41:=br h38;have p42:=dt h41;refine gx H8_ 4 ?_;refine aN [0,3,4,5,6,7,8,9] 8 mixd ?_;refine gX H8_ [0,1,2] 5 ?_;refine vE 3 rfl (ecallm (Xc_ _) rfl rfl rfl rfl rfl ?_);generalize hr45:Dv_ x1=r2;intro w44 w44p;have e46:=e43.trans (Co_ hr45.symm);have :=Rt_ x1;have :=Li_ x1
    (try simp only[hr45] at *)
    refine vE 4 rfl (bsl 4 Mail.pc [r2.1] H8_ rfl rfl rfl rfl rfl (fun _=>rfl) rfl (by decide) (by decide) rfl fun u48=>?_);refine vE 5 rfl (app H8_ [r2.1] rfl rfl rfl rfl rfl rfl rfl rfl rfl (src_o rfl rfl) (by first|omega|(simp;omega)) rfl fun u49=>?_);refine gX H8_ [6] 1 ?_;refine vT 7 rfl (Im_ H8_ rfl rfl rfl rfl rfl rfl rfl rfl rfl ?_);refine vD ?_;have :=F3_ (k+1);refine gx H8_ 7 ?_;refine next ⟨f1,(IntKind.wrap .u64 (k+1)),total,(kept++[r2.1]),r2.2,(u49)⟩ rfl rfl ⟨rfl,trivial⟩ ⟨rfl,rfl,rfl,trivial⟩ ?_ ?_
    · (try simp only[]);omega
    exact⟨(by (try simp only[]);rw[Cp_ (by omega) (by omega)];omega),e46,⟨(by (try simp only[]);rw[Cp_ (by omega) (by omega)];omega),(by (try simp only[]);rw[Cp_ (by omega) (by omega)];omega),(by simp only[List.length_append,List.length_cons,List.length_nil];rw[Cp_ (by omega) (by omega)];omega)⟩⟩
  refine gx H8_ 9 ?_;refine ef (ecallm (Gu_ _) rfl rfl rfl rfl rfl fun w51 w51p=>?_);refine gx H8_ 3 ?_;refine cN e50 (fun p54 e55=>?_) (fun p58 e59=>?_)
  · refine gm H8_ 8 [] fun _=>?_;exact rm1 rfl rfl (P_ (fun r:RiseR×In=> .agg (RiseR.pc r.1)) e55 (Ez_ (A_ (ple rfl) (A_ S_ Aa_)))) rfl rfl rfl (Me_ (fun r:RiseR×In=>In.pc r.2) e55 (ples rfl))
  refine gx H8_ 4 ?_;refine give 3 rfl ?_;refine gm H8_ 5 [] fun _=>?_;exact rm1 rfl rfl (P_ (fun r:RiseR×In=> .agg (RiseR.pc r.1)) e59 (ple rfl)) rfl rfl rfl (Me_ (fun r:RiseR×In=>In.pc r.2) e59 (ples rfl))
theorem cb86:R_ Tryz.prog 86:=L_ Tryz.func86 (by kernel_rfl) (by kernel_rfl)
abbrev ty53v153:TI:=⟨.agg [(0,1),(1,1)],2,32,[.int .u64 0, .val (.slice none 0 0)]⟩
def tbv153:Tb:=[(5,ty5),(9,ty9),(22,ty22),(24,ty24),(51,ty51),(53,ty53v153)]
theorem Hk_:tbB Tryz.prog tbv153=true:=by kernel_rfl
theorem On_ (i:In):Fm Tryz.prog gb 86 [] 272 (In.pc i) (.agg (A4_.pc ((Cq_ i).1))) (In.pc ((Cq_ i).2)):=by
  refine O1_ Hk_ Tryz.func86 rfl Tryz.ntmps86 rfl cb86 rfl rfl rfl rfl fun w wp b N H hG=>?_;have i_s_l:i.s.length<=9223372036854775807:=wp.1;have i_err_r:-9223372036854775808<=i.err/\i.err<=9223372036854775807:=wp.2.1;have e0:=Cq_.eq_1 i;refine gm Hk_ 8 [1] fun B2=>?_;refine ef (ecallm (D0_ _ _) rfl rfl rfl rfl rfl ?_);generalize hr4:J_ i 8=r;intro w3 w3p;have e5:=e0.trans (Co_ hr4.symm);have :=Ah_ i 8
  (try simp only[hr4] at *)
  refine gm Hk_ 8 [2] fun B8=>?_;refine ef (ecallm (D0_ _ _) rfl rfl rfl rfl rfl ?_);generalize hr10:J_ r.2 1=r1;intro w9 w9p;have e11:=e5.trans (Co_ hr10.symm);have :=Ah_ r.2 1
  (try simp only[hr10] at *)
  refine gx Hk_ 4 ?_;obtain⟨o,e_o,q_o⟩:=Gx_ e11;refine G4_ (ι:=In) [0,2,3,4] [1,2] (fun x=>[]) (fun x=>[(0, .box b 272 (In.pc x))]) (fun x=>o=x) ?_ ?_
  · refine gx Hk_ 4 ?_;refine ef (ecallm (Gu_ _) rfl rfl rfl rfl rfl fun w13 w13p=>?_);refine gx Hk_ 4 ?_;refine cN e_o (fun p16 e17=>?_) (fun p19 e20=>?_)
    · refine gx Hk_ 2 ?_;refine nX r1.2 ?_ trivial ⟨rfl,trivial⟩;exact e17
    refine gx Hk_ 7 ?_;refine cD e20 (fun p22 e23=>?_) (fun p25 e26=>?_)
    · refine gx Hk_ 2 ?_;refine ef (ecallm (Hd_ _ _) rfl rfl rfl rfl rfl fun w24 w24p=>?_);refine gx Hk_ 2 ?_;refine nX (Ai_ r1.2 6) ?_ trivial ⟨rfl,trivial⟩;exact e23
    refine gx Hk_ 10 ?_;refine cN e26 (fun p29 e30=>?_) (fun p33 e34=>?_)
    · refine gx Hk_ 2 ?_;refine ef (ecallm (Hd_ _ _) rfl rfl rfl rfl rfl fun w31 w31p=>?_);refine gx Hk_ 2 ?_;refine nX (Ai_ r1.2 7) ?_ trivial ⟨rfl,trivial⟩;exact e30
    refine gx Hk_ 2 ?_;refine nX r1.2 ?_ trivial ⟨rfl,trivial⟩;exact e34
  rintro x hp35;have e36:=Jx_ q_o hp35;refine gx Hk_ 8 ?_;refine N6_ (i:=2) (o:=1) (k:=3) (e:=24) 3 NoteR.pc rfl (by decide) rfl rfl ?_;refine loop (ι:=Nat×Int×Int×(List NoteR)×In×Value) [0,2,3,4] [1] (fun ⟨f,k,total,kept,x1,u_kept⟩=>[(5, .int .u64 k)]) (fun ⟨f,k,total,kept,x1,u_kept⟩=>[(2, .box (B8 0) 53 [.int .u64 total, .osl 3]),(3, .arr u_kept 3 24 NoteR.pc kept),(0, .box b 272 (In.pc x1))]) (fun ⟨f,k,total,kept,x1,u_kept⟩=>(r1.1-k).toNat<f/\Cq_ i=Ey_ r1 f k total kept x1/\0<=k/\k<=255/\(kept.length:Int)=k) (fun ⟨f,k,total,kept,x1,u_kept⟩=>f) ⟨((r1.1-0).toNat+1),0,r.1,[],x,(.slice none 0 0)⟩ ⟨rfl,trivial⟩ ⟨rfl,rfl,rfl,trivial⟩ ?_ ?_
  · exact⟨Nat.lt_succ_self _,e36,⟨by simp,by simp,by simp⟩⟩
  rintro⟨f,k,total,kept,x1,u_kept⟩ ⟨hp37_1,hp37_2,hp37_3⟩;obtain⟨f1,rfl⟩:∃ q,f=q+1:=⟨f-1,by omega⟩;have e_f1:=hp37_2.trans (Ey_.eq_2 _ _ _ _ _ _);refine gx Hk_ 8 ?_;refine callgm rfl (fun hc=>(Gu_ _)) rfl rfl rfl rfl ⟨(fun hc=>hc),trivial⟩ rfl rfl fun _=>?_;refine gy Hk_ 4 ?_;refine cE e_f1 (fun h38 e43=>?_) (fun h38 e62=>?_)
  · have h39:=bl h38;have p40:=dt h39;have h41:=br h38;have p42:=dt h41;refine gx Hk_ 7 ?_;refine ef (ecallm (D0_ _ _) rfl rfl rfl rfl rfl ?_);generalize hr45:J_ x1 8=r2;intro w44 w44p;have e46:=e43.trans (Co_ hr45.symm);have :=Ah_ x1 8
    (try simp only[hr45] at *)
    refine gx Hk_ 1 ?_;refine ef (ecallm (D0_ _ _) rfl rfl rfl rfl rfl ?_);generalize hr49:J_ r2.2 1=r3;intro w48 w48p;have e50:=e46.trans (Co_ hr49.symm);have :=Ah_ r2.2 1
    (try simp only[hr49] at *)
    refine q1 (qconv Hk_ rfl rfl rfl rfl (Zg_ (by omega))) rfl fun w52=>?_;refine gm Hk_ 8 [4] fun B54=>?_;refine ef (ecallm (Gv_ _ _) rfl rfl rfl rfl rfl ?_);generalize hr56:I_ r3.2 64=r4;intro w55 w55p;have e57:=e50.trans (Co_ hr56.symm);have :=Bf_ r3.2 64
    (try simp only[hr56] at *)
    refine gm Hk_ 8 [] fun _=>?_;refine ef (bsl 5 NoteR.pc [(⟨r2.1,r3.1,r4.1⟩:NoteR)] Hk_ rfl rfl rfl rfl rfl (fun _=>rfl) rfl (by decide) (by decide) rfl fun u60=>?_);refine ef (app Hk_ [(⟨r2.1,r3.1,r4.1⟩:NoteR)] rfl rfl rfl rfl rfl rfl rfl rfl rfl (src_o rfl rfl) (by first|omega|(simp;omega)) rfl fun u61=>?_);refine gx Hk_ 1 ?_;refine ef (Im_ Hk_ rfl rfl rfl rfl rfl rfl rfl rfl rfl ?_);have :=F3_ (k+1);refine gx Hk_ 8 ?_;refine next ⟨f1,(IntKind.wrap .u64 (k+1)),total,(kept++[(⟨r2.1,r3.1,r4.1⟩:NoteR)]),r4.2,(u61)⟩ rfl rfl ⟨rfl,trivial⟩ ⟨rfl,rfl,rfl,trivial⟩ ?_ ?_
    · (try simp only[]);omega
    exact⟨(by (try simp only[]);rw[Cp_ (by omega) (by omega)];omega),e57,⟨(by (try simp only[]);rw[Cp_ (by omega) (by omega)];omega),(by (try simp only[]);rw[Cp_ (by omega) (by omega)];omega),(by simp only[List.length_append,List.length_cons,List.length_nil];rw[Cp_ (by omega) (by omega)];omega)⟩⟩
  refine gx Hk_ 9 ?_;refine ef (ecallm (Gu_ _) rfl rfl rfl rfl rfl fun w63 w63p=>?_);refine gx Hk_ 3 ?_;refine cN e62 (fun p66 e67=>?_) (fun p70 e71=>?_)
  · refine gm Hk_ 8 [] fun _=>?_;exact rm1 rfl rfl (P_ (fun r:A4_×In=> .agg (A4_.pc r.1)) e67 (Ez_ (A_ (ple rfl) (A_ S_ Aa_)))) rfl rfl rfl (Me_ (fun r:A4_×In=>In.pc r.2) e67 (ples rfl))
  refine gx Hk_ 4 ?_;refine give 3 rfl ?_;refine gm Hk_ 5 [] fun _=>?_;exact rm1 rfl rfl (P_ (fun r:A4_×In=> .agg (A4_.pc r.1)) e71 (ple rfl)) rfl rfl rfl (Me_ (fun r:A4_×In=>In.pc r.2) e71 (ples rfl))
def tbv154:Tb:=[(3,ty3),(4,ty4),(5,ty5),(9,ty9),(22,ty22),(40,ty40),(41,ty41),(43,ty43),(50,ty50),(53,ty53),(54,ty54),(56,ty56),(57,ty57),(59,ty59),(64,ty64),(67,ty67),(69,ty69),(169,X3_)]
theorem Ec_:tbB Tryz.prog tbv154=true:=by kernel_rfl
theorem Kp_ (x:K_) (hx:ImOk x:=by assumption):Fn Tryz.prog gb 25 [.agg (K_.pc x)] (.str (Bb_ x)):=by
  refine fC Tryz.func25 Ec_ Tryz.ntmps25 fun w N H hG=>?_;have x_book_shops_l:x.book.shops.length<=140737488355328:=w.1.1.1;have x_book_binds_l:x.book.binds.length<=140737488355328:=w.1.2.1.1;have x_stock_rows_l:x.stock.rows.length<=140737488355328:=w.1.2.2.2.2.1.1;have x_notes_kept_l:x.notes.kept.length<=140737488355328:=w.1.2.2.2.2.2.2.2.2.2.2.2.2.2.2.2.2.2.2.2.2.2.2.2.2.2.2.2.2.2.2.2.2.2.2.2.2.2.2.1.1;have hx1:=hx.1.1;have hx2:=hx.1.2.1;have e0:=Bb_.eq_1 x;refine gm Ec_ 7 [0] fun B2=>?_;refine aN [1,2,3,4,5,6] 8 mixd ?_;refine gX Ec_ [0,1,3,4] 4 ?_;refine vE 2 rfl (eC (Np_ x.book) rfl ?_);generalize hr4:Eq_ x.book=r;intro w3;have e5:=e0.trans (Co_ hr4.symm);have hr4:=hr4.symm;have hA5:=Ve_ x.book
  (try rw[<- hr4] at hA5)
  have hA6:=congrArg List.length (Ve_ x.book)
  (try rw[<- hr4] at hA6)
  have hsh:=shops_f hx.1 hx.2.1
  (try rw[<- hr4] at hsh)
  refine vE 5 rfl (eC (No_ x.book (hb:=by exact bk_want hx.1 hx.2.1)) rfl ?_);generalize hr9:C0_ x.book=r1;intro w8;have e10:=e5.trans (Co_ hr9.symm);have hr9:=hr9.symm;have hA10:=Tt_ x.book
  (try rw[<- hr9] at hA10)
  have hA11:=congrArg List.length (Tt_ x.book)
  (try rw[<- hr9] at hA11)
  have hbi:=binds_f hx.1 hx.2.1
  (try rw[<- hr9] at hbi)
  refine gX Ec_ [6,7] 0 ?_;refine vD ?_;refine gx Ec_ 6 ?_;refine q1 (qconv Ec_ rfl rfl rfl rfl (J1_ (by omega))) rfl fun w13=>?_;refine call (out_Num (⟨[],0⟩:Out) _ _ (by ((try have :=hrl (by assumption));first|omega|(simp[B_,W_,Q_,numK]<;>omega)))) rfl rfl fun w14=>?_;have nl0:(⟨[],0⟩:Out).s.length=0:=rfl;have :=F_ (⟨[],0⟩:Out) (r.length:Int) 1;refine gm Ec_ 13 [1] fun B16=>?_;refine loop (ι:=Nat×Out) [1,2,4,5,28,29] [0] (fun ⟨k,x1⟩=>[(30, .int .i64 (k:Int))]) (fun ⟨k,x1⟩=>[(1, .box (B16 0) 169 (Out.pc x1))]) (fun ⟨k,x1⟩=>k<=r.length/\Bb_ x=Ds_ x r1 (r.drop k) x1/\x1.s.length<=8+100*k) (fun ⟨k,x1⟩=>r.length-k) ⟨0,(B_ (⟨[],0⟩:Out) (r.length:Int) 1)⟩ ⟨rfl,trivial⟩ ⟨rfl,trivial⟩ ?_ ?_
  · exact⟨Nat.zero_le _,e10,by omega⟩
  rintro⟨k,x1⟩ ⟨hp17_1,hp17_2,hp17_3⟩;refine gx Ec_ 6 ?_;refine cn rfl (fun p19=>?_) fun p28=>?_
  · have e20:=B0_ (f:=fun zz=>Ds_ x r1 zz x1) hp17_2 (Fz_ (by omega)) (Ds_.eq_2 _ _ _ _ _);have hc21:=getG (xs:=r) (k:=k) (by omega);have hy_hc21:=Sg_ (hsh.2 (gt r k) (List.mem_of_getElem? hc21));refine gx Ec_ 6 ?_;refine q1 (qidx Ec_ k rfl rfl rfl hc21 rfl rfl rfl rfl) rfl fun w22=>?_;refine gm Ec_ 5 [2] fun B24=>?_;refine aN [3,4,5,6,7,8] 12 mixd ?_;refine gX Ec_ [0,1,2] 9 ?_;refine vC 3 rfl (Ck_ x1 _) rfl fun w25=>?_;have :=U_ x1 ((gt r k).name);refine gX Ec_ [4,5,6] 5 ?_;refine vC 7 rfl (out_Num (D_ x1 ((gt r k).name)) _ _ (by ((try have :=hrl (by assumption));first|omega|(simp[B_,W_,Q_,numK]<;>omega)))) rfl fun w26=>?_;have :=F_ (D_ x1 ((gt r k).name)) ((gt r k).sort) 1;refine gX Ec_ [8,9] 2 ?_;refine vC 10 rfl (Ck_ (B_ (D_ x1 ((gt r k).name)) ((gt r k).sort) 1) _) rfl fun w27=>?_;have :=U_ (B_ (D_ x1 ((gt r k).name)) ((gt r k).sort) 1) ((gt r k).to');refine vT 11 rfl (sA Ec_ ?_);refine vD ?_;refine gy Ec_ 6 ?_;refine nY ⟨(k+1),(D_ (B_ (D_ x1 ((gt r k).name)) ((gt r k).sort) 1) ((gt r k).to'))⟩ ⟨rfl,trivial⟩ ⟨rfl,trivial⟩ ?_ ?_
    · (try simp only[]);omega
    exact⟨by (try simp only[]);omega,e20,by omega⟩
  have e29:=B0_ (f:=fun zz=>Ds_ x r1 zz x1) hp17_2 (F0_ (by omega)) (Ds_.eq_1 _ _ _);refine gx Ec_ 10 ?_;refine q1 (qconv Ec_ rfl rfl rfl rfl (J1_ (by omega))) rfl fun w30=>?_;refine call (out_Num _ _ _ (by ((try have :=hrl (by assumption));first|omega|(simp[B_,W_,Q_,numK]<;>omega)))) rfl rfl fun w31=>?_;have :=F_ x1 (r1.length:Int) 1;refine gm Ec_ 12 [] fun _=>?_;refine loop (ι:=Nat×Out) [1,2,5,51,52] [0] (fun ⟨k1,x2⟩=>[(53, .int .i64 (k1:Int))]) (fun ⟨k1,x2⟩=>[(1, .box (B16 0) 169 (Out.pc x2))]) (fun ⟨k1,x2⟩=>k1<=r1.length/\Bb_ x=Cy_ x (r1.drop k1) x2/\x2.s.length<=1000+1300*k1) (fun ⟨k1,x2⟩=>r1.length-k1) ⟨0,(B_ x1 (r1.length:Int) 1)⟩ ⟨rfl,trivial⟩ ⟨rfl,trivial⟩ ?_ ?_
  · exact⟨Nat.zero_le _,e29,by omega⟩
  rintro⟨k1,x2⟩ ⟨hp33_1,hp33_2,hp33_3⟩;refine gx Ec_ 6 ?_;refine cn rfl (fun p35=>?_) fun p50=>?_
  · have e36:=B0_ (f:=fun zz=>Cy_ x zz x2) hp33_2 (Fz_ (by omega)) (Cy_.eq_2 _ _ _ _);have hc37:=getG (xs:=r1) (k:=k1) (by omega);have hy_hc37:=bib_f (hbi.2 (gt r1 k1) (List.mem_of_getElem? hc37));refine gx Ec_ 6 ?_;refine q1 (qidx Ec_ k1 rfl rfl rfl hc37 rfl rfl rfl rfl) rfl fun w38=>?_;refine gm Ec_ 9 [2] fun B40=>?_;refine call (Kv_ _) rfl rfl fun w41=>?_;have :=Fm_ ((gt r1 k1).want);have :=Fm_ ((gt r1 k1).want);refine gx Ec_ 7 ?_;refine aN [3,4,5,6,7,8] 21 mixd ?_;refine gX Ec_ [0,1,2] 18 ?_;refine vC 3 rfl (Ck_ x2 _) rfl fun w42=>?_;have :=U_ x2 ((gt r1 k1).shop);refine gX Ec_ [4,5] 15 ?_;refine vC 6 rfl (Ck_ (D_ x2 ((gt r1 k1).shop)) _) rfl fun w43=>?_;have :=U_ (D_ x2 ((gt r1 k1).shop)) ((gt r1 k1).to');refine gX Ec_ [7,8] 12 ?_;refine vC 9 rfl (Po_ _) rfl fun w44=>?_;refine vC 10 rfl (out_Num (D_ (D_ x2 ((gt r1 k1).shop)) ((gt r1 k1).to')) _ _ (by ((try have :=hrl (by assumption));first|omega|(simp[B_,W_,Q_,numK]<;>omega)))) rfl fun w45=>?_;have :=F_ (D_ (D_ x2 ((gt r1 k1).shop)) ((gt r1 k1).to')) (D4_ ((gt r1 k1).up)) 1;refine gX Ec_ [11,12] 8 ?_;refine vC 13 rfl (Ck_ (B_ (D_ (D_ x2 ((gt r1 k1).shop)) ((gt r1 k1).to')) (D4_ ((gt r1 k1).up)) 1) _) rfl fun w46=>?_;have :=U_ (B_ (D_ (D_ x2 ((gt r1 k1).shop)) ((gt r1 k1).to')) (D4_ ((gt r1 k1).up)) 1) ((gt r1 k1).key);refine gX Ec_ [14] 6 ?_;refine vC 15 rfl (Ik_ (D_ (B_ (D_ (D_ x2 ((gt r1 k1).shop)) ((gt r1 k1).to')) (D4_ ((gt r1 k1).up)) 1) ((gt r1 k1).key)) _) rfl fun w47=>?_;have :=C3_ (D_ (B_ (D_ (D_ x2 ((gt r1 k1).shop)) ((gt r1 k1).to')) (D4_ ((gt r1 k1).up)) 1) ((gt r1 k1).key)) (Ax_ ((gt r1 k1).want));refine gX Ec_ [16,17] 3 ?_;refine vC 18 rfl (Po_ _) rfl fun w48=>?_;refine vC 19 rfl (out_Num (W_ (D_ (B_ (D_ (D_ x2 ((gt r1 k1).shop)) ((gt r1 k1).to')) (D4_ ((gt r1 k1).up)) 1) ((gt r1 k1).key)) (Ax_ ((gt r1 k1).want))) _ _ (by ((try have :=hrl (by assumption));first|omega|(simp[B_,W_,Q_,numK]<;>omega)))) rfl fun w49=>?_;have :=F_ (W_ (D_ (B_ (D_ (D_ x2 ((gt r1 k1).shop)) ((gt r1 k1).to')) (D4_ ((gt r1 k1).up)) 1) ((gt r1 k1).key)) (Ax_ ((gt r1 k1).want))) (D4_ ((gt r1 k1).all)) 1;refine vT 20 rfl (sA Ec_ ?_);refine vD ?_;refine gy Ec_ 6 ?_;refine nY ⟨(k1+1),(B_ (W_ (D_ (B_ (D_ (D_ x2 ((gt r1 k1).shop)) ((gt r1 k1).to')) (D4_ ((gt r1 k1).up)) 1) ((gt r1 k1).key)) (Ax_ ((gt r1 k1).want))) (D4_ ((gt r1 k1).all)) 1)⟩ ⟨rfl,trivial⟩ ⟨rfl,trivial⟩ ?_ ?_
    · (try simp only[]);omega
    exact⟨by (try simp only[]);omega,e36,by omega⟩
  have e51:=B0_ (f:=fun zz=>Cy_ x zz x2) hp33_2 (F0_ (by omega)) (Cy_.eq_1 _ _);refine gx Ec_ 9 ?_;refine cV e51 R33_ (Jd_ _ (hs:=by exact hx.2.2.1) (hq:=by exact hx.2.2.2.1)) rfl fun r2 hr52 e54 w53=>?_;have hkb:=kb_len hx.2.2.1 hx.2.2.2.1
  (try rw[<- hr52] at hkb)
  refine gx Ec_ 4 ?_;refine aN [2,3,4,5,6,7] 12 mixd ?_;refine gX Ec_ [0,1,2,5,7,8] 6 ?_;refine vE 3 rfl (eqy (qconv Ec_ rfl rfl rfl rfl (J1_ (by omega))) rfl fun w55=>?_);refine vC 4 rfl (out_Num x2 _ _ (by ((try have :=hrl (by assumption));first|omega|(simp[B_,W_,Q_,numK]<;>omega)))) rfl fun w56=>?_;have :=F_ x2 (r2.length:Int) 4;refine vC 6 rfl (Ik_ (B_ x2 (r2.length:Int) 4) _) rfl fun w57=>?_;have :=C3_ (B_ x2 (r2.length:Int) 4) r2;refine vC 9 rfl (M9_ x.notes (hk:=by exact⟨Nat.le_trans hx.2.2.2.2.1 (by decide),fun y hy=>Nat.le_trans (hx.2.2.2.2.2 y hy).1 (by decide)⟩)) rfl fun w58=>?_;have :=nb_len hx.2.2.2.2.1 hx.2.2.2.2.2;refine vC 10 rfl (Ik_ (W_ (B_ x2 (r2.length:Int) 4) r2) _) rfl fun w59=>?_;have :=C3_ (W_ (B_ x2 (r2.length:Int) 4) r2) (Bw_ x.notes);refine vT 11 rfl (sA Ec_ ?_);refine vD ?_;refine gx Ec_ 10 ?_;refine loop (ι:=Nat×Nat×Out) [1,2,5,99] [0] (fun ⟨f,v,x3⟩=>[(100, .int .i64 (v:Int))]) (fun ⟨f,v,x3⟩=>[(1, .box (B16 0) 169 (Out.pc x3))]) (fun ⟨f,v,x3⟩=>16-v<f/\Bb_ x=Gh_ x f v x3/\v<=16/\x3.s.length<=4000000+8*v) (fun ⟨f,v,x3⟩=>f) ⟨(16-0+1),0,(W_ (W_ (B_ x2 (r2.length:Int) 4) r2) (Bw_ x.notes))⟩ ⟨rfl,trivial⟩ ⟨rfl,trivial⟩ ?_ ?_
  · exact⟨Nat.lt_succ_self _,e54,⟨by simp,by omega⟩⟩
  rintro⟨f,v,x3⟩ ⟨hp60_1,hp60_2,hp60_3⟩;obtain⟨f1,rfl⟩:∃ q,f=q+1:=⟨f-1,by omega⟩;have e_f1:=hp60_2.trans (Gh_.eq_2 _ _ _ _);refine gx Ec_ 6 ?_;refine cD e_f1 (fun p62 e63=>?_) (fun p67 e68=>?_)
  · refine gx Ec_ 6 ?_;refine q1 (qaiv1 (fun q=> .int .u64 (A16.get x.seen q)) v Ec_ rfl rfl Tryz.underlying54 rfl rfl rfl rfl (by omega) (fun _=>rfl) (bw16 rfl rfl rfl rfl rfl rfl rfl rfl rfl rfl rfl rfl rfl rfl rfl rfl)) rfl fun w64=>?_;refine gx Ec_ 6 ?_;refine call (out_Num _ _ _ (by ((try have :=hrl (by assumption));first|omega|(simp[B_,W_,Q_,numK]<;>omega)))) rfl rfl fun w65=>?_;have :=F_ x3 (A16.get x.seen v) 8;refine gmy Ec_ 8 [] fun _=>?_;refine nY ⟨f1,(v+1),(B_ x3 (A16.get x.seen v) 8)⟩ ⟨rfl,trivial⟩ ⟨rfl,trivial⟩ ?_ ?_
    · (try simp only[]);omega
    exact⟨by (try simp only[]);omega,e63,⟨by (try simp only[]);omega,by (try simp only[]);omega⟩⟩
  refine gx Ec_ 14 ?_;refine loop (ι:=Nat×Nat×Out) [2,5,108] [0] (fun ⟨f2,v1,x4⟩=>[(109, .int .i64 (v1:Int))]) (fun ⟨f2,v1,x4⟩=>[(1, .box (B16 0) 169 (Out.pc x4))]) (fun ⟨f2,v1,x4⟩=>8-v1<f2/\Bb_ x=Gi_ x f2 v1 x4/\v1<=8/\x4.s.length<=4001000+16*v1) (fun ⟨f2,v1,x4⟩=>f2) ⟨(8-0+1),0,x3⟩ ⟨rfl,trivial⟩ ⟨rfl,trivial⟩ ?_ ?_
  · exact⟨Nat.lt_succ_self _,e68,⟨by simp,by omega⟩⟩
  rintro⟨f2,v1,x4⟩ ⟨hp69_1,hp69_2,hp69_3⟩;obtain⟨f3,rfl⟩:∃ q,f2=q+1:=⟨f2-1,by omega⟩;have e_f3:=hp69_2.trans (Gi_.eq_2 _ _ _ _);refine gx Ec_ 6 ?_;refine cD e_f3 (fun p71 e72=>?_) (fun p78 e79=>?_)
  · refine gx Ec_ 6 ?_;refine q1 (qaivA (fun q=>[.int .u64 ((A8.get x.spent q).round), .int .i64 ((A8.get x.spent q).count)]) v1 Ec_ rfl rfl Tryz.underlying57 rfl rfl rfl rfl (by omega) (bw8 rfl rfl rfl rfl rfl rfl rfl rfl)) rfl fun w73=>?_;refine gm Ec_ 4 [2] fun B75=>?_;refine aN [3,4,5,6,7,8] 9 mixd ?_;refine gX Ec_ [0,1,2] 6 ?_;refine vC 3 rfl (out_Num x4 _ _ (by ((try have :=hrl (by assumption));first|omega|(simp[B_,W_,Q_,numK]<;>omega)))) rfl fun w76=>?_;have :=F_ x4 ((A8.get x.spent v1).round) 8;refine gX Ec_ [4,5,6] 2 ?_;refine vC 7 rfl (out_Num (B_ x4 ((A8.get x.spent v1).round) 8) _ _ (by ((try have :=hrl (by assumption));first|omega|(simp[B_,W_,Q_,numK]<;>omega)))) rfl fun w77=>?_;have :=F_ (B_ x4 ((A8.get x.spent v1).round) 8) (IntKind.wrap .u64 ((A8.get x.spent v1).count)) 1;refine vT 8 rfl (sA Ec_ ?_);refine vD ?_;refine gy Ec_ 6 ?_;refine nY ⟨f3,(v1+1),(B_ (B_ x4 ((A8.get x.spent v1).round) 8) (IntKind.wrap .u64 ((A8.get x.spent v1).count)) 1)⟩ ⟨rfl,trivial⟩ ⟨rfl,trivial⟩ ?_ ?_
    · (try simp only[]);omega
    exact⟨by (try simp only[]);omega,e72,⟨by (try simp only[]);omega,by (try simp only[]);omega⟩⟩
  refine gx Ec_ 8 ?_;refine call (Cf_ _) rfl rfl fun w80=>?_;refine gx Ec_ 4 ?_;exact rt1 rfl rfl (P_ (fun r:Bs=> .str r) e79 (ple rfl))
theorem cb164:R_ Tryz.prog 164:=L_ Tryz.func164 (by kernel_rfl) (by kernel_rfl)
def tbv155a:Tb:=[(3,ty3),(9,ty9),(22,ty22),(44,ty44),(50,ty50),(66,ty66),(71,ty71),(75,ty75),(238,X4_),(240,Sl_)]
theorem Am_:tbB Tryz.prog tbv155a=true:=by kernel_rfl
theorem Lz_ (s:E_) (i:In) (hs:StkOk s:=by assumption):Fy Tryz.prog gb 164 (.agg (E_.pc s)) [] 272 (In.pc i) (.agg (E_.pc ((B5_ s i).1))) (In.pc ((B5_ s i).2)):=by
  refine fy_cw Am_ Tryz.func164 rfl Tryz.ntmps164 rfl cb164 rfl rfl rfl rfl fun w wp b N H hG=>?_;have s_rows_l:s.rows.length<=140737488355328:=w.1.2.2.1.1;have i_s_l:i.s.length<=9223372036854775807:=wp.1;have i_err_r:-9223372036854775808<=i.err/\i.err<=9223372036854775807:=wp.2.1;have e0:=B5_.eq_1 s i;refine gm Am_ 9 [1,2] fun B2=>?_;refine ef (ecallm (Gv_ _ _) rfl rfl rfl rfl rfl ?_);generalize hr5:I_ i 16=r;intro w4 w4p;have e6:=e0.trans (Co_ hr5.symm);have :=Bf_ i 16
  (try simp only[hr5] at *)
  refine gx Am_ 1 ?_;refine ef (ecallm (D0_ _ _) rfl rfl rfl rfl rfl ?_);generalize hr9:J_ r.2 8=r1;intro w8 w8p;have e10:=e6.trans (Co_ hr9.symm);have :=Ah_ r.2 8
  (try simp only[hr9] at *)
  refine gx Am_ 1 ?_;refine ef (ecallm (D0_ _ _) rfl rfl rfl rfl rfl ?_);generalize hr13:J_ r1.2 8=r2;intro w12 w12p;have e14:=e10.trans (Co_ hr13.symm);have :=Ah_ r1.2 8
  (try simp only[hr13] at *)
  refine gm Am_ 8 [3] fun B17=>?_;refine ef (ecallm (Gv_ _ _) rfl rfl rfl rfl rfl ?_);generalize hr19:I_ r2.2 16=r3;intro w18 w18p;have e20:=e14.trans (Co_ hr19.symm);have :=Bf_ r2.2 16
  (try simp only[hr19] at *)
  refine gm Am_ 13 [] fun _=>?_;refine ef (ecallm (D0_ _ _) rfl rfl rfl rfl rfl ?_);generalize hr24:J_ r3.2 1=r4;intro w23 w23p;have e25:=e20.trans (Co_ hr24.symm);have :=Ah_ r3.2 1
  (try simp only[hr24] at *)
  refine gx Am_ 4 ?_;refine sw_own (t:=6) (k:=9) (e:=75) 4 ItemR.pc rfl rfl ?_;refine loop (ι:=Nat×(List ItemR)×Int×In×Value) [1,2,4,5] [1,2,3] (fun ⟨f,items,n,x,u_items⟩=>[(6, .osl 4),(7, .int .u64 n)]) (fun ⟨f,items,n,x,u_items⟩=>[(4, .arr u_items 9 75 ItemR.pc items),(0, .box b 272 (In.pc x))]) (fun ⟨f,items,n,x,u_items⟩=>(n).toNat<f/\B5_ s i=Bt_ s r r1 r2 r3 f items n x/\0<=n/\(items.length:Int)+n<=255/\∀ y∈items,MlOk y.mail) (fun ⟨f,items,n,x,u_items⟩=>f) ⟨((r4.1).toNat+1),[],r4.1,r4.2,(.slice none 0 0)⟩ ⟨rfl,rfl,trivial⟩ ⟨rfl,rfl,trivial⟩ ?_ ?_
  · exact⟨Nat.lt_succ_self _,e25,⟨by omega,by (try simp only[List.length_nil]);omega,mls_nil⟩⟩
  rintro⟨f,items,n,x,u_items⟩ ⟨hp27_1,hp27_2,hp27_3⟩;obtain⟨hi1,hi2,hi3⟩:=hp27_3;obtain⟨f1,rfl⟩:∃ q,f=q+1:=⟨f-1,by omega⟩;have e_f1:=hp27_2.trans (Bt_.eq_2 _ _ _ _ _ _ _ _ _);refine gx Am_ 7 ?_;refine callgm rfl (fun hc=>(Gu_ _)) rfl rfl rfl rfl ⟨(fun hc=>hc),trivial⟩ rfl rfl fun _=>?_;refine gy Am_ 4 ?_;refine cE e_f1 (fun h28 e33=>?_) (fun h28 e55=>?_)
  · have h29:=bl h28;have p30:=dt h29;have h31:=br h28;have p32:=dt h31;refine gx Am_ 7 ?_;refine ef (ecallm (D0_ _ _) rfl rfl rfl rfl rfl ?_);generalize hr35:J_ x 1=r5;intro w34 w34p;have e36:=e33.trans (Co_ hr35.symm);have :=Ah_ x 1
    (try simp only[hr35] at *)
    refine gx Am_ 6 ?_;refine ef (ecallm (Xc_ _) rfl rfl rfl rfl rfl ?_);generalize hr39:Dv_ r5.2=r6;intro w38 w38p;have e40:=e36.trans (Co_ hr39.symm);have :=Rt_ r5.2;have :=Li_ r5.2
    (try simp only[hr39] at *)
    refine gmy Am_ 31 [5] fun B43=>?_;refine cE e40 (fun h44 e45=>?_) (fun h44 e52=>?_)
    · refine gx Am_ 2 ?_;refine ef (ecallm (Hd_ _ _) rfl rfl rfl rfl rfl fun w46 w46p=>?_);refine gx Am_ 5 ?_;refine ef (bsl 6 ItemR.pc [(⟨r6.1,decide ((r5.1%2)=1),decide ((r5.1/2)=1)⟩:ItemR)] Am_ rfl rfl rfl rfl rfl (fun _=>rfl) rfl (by decide) (by decide) rfl fun u47=>?_);refine ef (app Am_ [(⟨r6.1,decide ((r5.1%2)=1),decide ((r5.1/2)=1)⟩:ItemR)] rfl rfl rfl rfl rfl rfl rfl rfl rfl (src_o rfl rfl) (by first|omega|(simp;omega)) rfl fun u48=>?_);have :=F3_ (n-1);refine gx Am_ 9 ?_;refine next ⟨f1,(items++[(⟨r6.1,decide ((r5.1%2)=1),decide ((r5.1/2)=1)⟩:ItemR)]),(IntKind.wrap .u64 (n-1)),(Ai_ r6.2 4),(u48)⟩ rfl rfl ⟨rfl,rfl,trivial⟩ ⟨rfl,rfl,trivial⟩ ?_ ?_
      · (try simp only[]);omega
      exact⟨(by (try simp only[]);rw[Cp_ (by omega) (by omega)];omega),e45,⟨by (try simp only[]);rw[Cp_ (by omega) (by omega)];omega,by simp only[List.length_append,List.length_cons,List.length_nil];rw[Cp_ (by omega) (by omega)];omega,Zb_ (by assumption) (by assumption)⟩⟩
    have h49:=orl h44;have p50:=df h49;have h51:=orr h44;refine gx Am_ 5 ?_;refine ef (bsl 6 ItemR.pc [(⟨r6.1,decide ((r5.1%2)=1),decide ((r5.1/2)=1)⟩:ItemR)] Am_ rfl rfl rfl rfl rfl (fun _=>rfl) rfl (by decide) (by decide) rfl fun u53=>?_);refine ef (app Am_ [(⟨r6.1,decide ((r5.1%2)=1),decide ((r5.1/2)=1)⟩:ItemR)] rfl rfl rfl rfl rfl rfl rfl rfl rfl (src_o rfl rfl) (by first|omega|(simp;omega)) rfl fun u54=>?_);have :=F3_ (n-1);refine gx Am_ 9 ?_;refine next ⟨f1,(items++[(⟨r6.1,decide ((r5.1%2)=1),decide ((r5.1/2)=1)⟩:ItemR)]),(IntKind.wrap .u64 (n-1)),r6.2,(u54)⟩ rfl rfl ⟨rfl,rfl,trivial⟩ ⟨rfl,rfl,trivial⟩ ?_ ?_
    · (try simp only[]);omega
    exact⟨(by (try simp only[]);rw[Cp_ (by omega) (by omega)];omega),e52,⟨by (try simp only[]);rw[Cp_ (by omega) (by omega)];omega,by simp only[List.length_append,List.length_cons,List.length_nil];rw[Cp_ (by omega) (by omega)];omega,Zb_ (by assumption) (by assumption)⟩⟩
  refine gx Am_ 8 ?_;refine give 4 rfl ?_;refine cV e55 R2_ (line_Of_ok _) rfl fun r7 hr56 e58 w57=>?_;have hA58:=lof_ok (t:=items) (by assumption)
  (try rw[<- hr56] at hA58)
  refine gm Am_ 12 [4] fun B61=>?_;refine ef (ecallm (Hd_ _ _) rfl rfl rfl rfl rfl fun w62 w62p=>?_);refine gx Am_ 3 ?_;obtain⟨o,e_o,q_o⟩:=Gx_ e58;refine G4_ (ι:=In) [1,2,4,5,10] [1,2,3,4] (fun x1=>[]) (fun x1=>[(0, .box b 272 (In.pc x1))]) (fun x1=>o=x1) ?_ ?_
  · refine gx Am_ 1 ?_;refine aN [5,6,7,8,9,10] 13 mixd ?_;refine gX Am_ [0] 12 ?_;refine vC 1 rfl (I7_ r7.1) rfl fun w63=>?_;refine gXy Am_ [2,3,4,5,6,7,8,9] 3 ?_;refine vcallg 10 rfl (by kernel_rfl) rfl (fun hc=>(Dp_ s _)) rfl rfl ⟨(fun hc=>hc),(fun hc=>hc),trivial⟩ rfl fun _=>?_;refine gXy Am_ [11,12] 0 ?_;refine vD ?_;refine gx Am_ 1 ?_;refine cE e_o (fun h64 e65=>?_) (fun h64 e71=>?_)
    · refine gx Am_ 2 ?_;refine ef (ecallm (Hd_ _ _) rfl rfl rfl rfl rfl fun w66 w66p=>?_);refine gx Am_ 1 ?_;refine nX (Ai_ (Ai_ x r7.2) 4) ?_ trivial ⟨rfl,trivial⟩;exact e65
    have h67:=orl h64;have p68:=df h67;have h69:=orr h64;have p70:=df h69;refine gx Am_ 1 ?_;refine nX (Ai_ x r7.2) ?_ trivial ⟨rfl,trivial⟩;exact e71
  rintro x1 hp72;have e73:=Jx_ q_o hp72;refine gx Am_ 5 ?_;refine cV e73 R11_ (Hv_ _ (⟨r.1,r1.1,r2.1,r3.1⟩:QueueR)) rfl fun r8 hr74 e76 w75=>?_;have hA76:=Lg_ (q:=(⟨r.1,r1.1,r2.1,r3.1⟩:QueueR)) (s:=s) (by first|assumption|exact StOk.stk (by assumption))
  (try rw[<- hr74] at hA76)
  have hmr:=(Lg_ (q:=(⟨r.1,r1.1,r2.1,r3.1⟩:QueueR)) (s:=s) hs).1.1
  (try rw[<- hr74] at hmr)
  have hmk:=Wg_ s (⟨r.1,r1.1,r2.1,r3.1⟩:QueueR)
  (try rw[<- hr74] at hmk)
  refine gm Am_ 11 [] fun _=>?_;refine ef (ecallm (Hd_ _ _) rfl rfl rfl rfl rfl fun w79 w79p=>?_);refine gx Am_ 6 ?_;refine ef (ecallm (Gu_ _) rfl rfl rfl rfl rfl fun w80 w80p=>?_);refine gx Am_ 3 ?_;refine cE e76 (fun h81 e83=>?_) (fun h81 e90=>?_)
  · have p82:=dt h81;have hfl:=(P8_ (dt h81)).2;refine gy Am_ 7 ?_;refine cV e83 R6_ (D9_ _ _ _ (hs:=by exact Nat.le_trans (by assumption :StkOk _).1.1 (by decide)) (hk:=by have :=hmk hfl;omega)) rfl fun r9 hr84 e86 w85=>?_;have hA86:=H1_ r8.1 ((r8.1.rows.length:Int)-1) r7.1
    (try rw[<- hr84] at hA86)
    have hwi:=Lh_ (s:=r8.1) (k:=((r8.1.rows.length:Int)-1)) (l:=r7.1) (by assumption) (by assumption) (by have :=hmk hfl;omega);refine gm Am_ 10 [] fun _=>?_;exact rm1 rfl rfl (P_ (fun r:E_×In=> .agg (E_.pc r.1)) e86 (ple rfl)) rfl rfl rfl (Me_ (fun r:E_×In=>In.pc r.2) e86 (ples rfl))
  have p89:=df h81;refine gm Am_ 9 [] fun _=>?_;exact rm1 rfl rfl (P_ (fun r:E_×In=> .agg (E_.pc r.1)) e90 (ple rfl)) rfl rfl rfl (Me_ (fun r:E_×In=>In.pc r.2) e90 (ples rfl))
def tbv155:Tb:=[(47,ty47),(50,ty50)]
theorem H0_:tbB Tryz.prog tbv155=true:=by kernel_rfl
theorem Lp_ (text:Bs) (bytes:Int) (hb:bytes<=1000000:=by omega):Fn Tryz.prog gb 83 [.str text, .int .i64 bytes] (.tup [.agg (E_.pc ((F9_ text bytes).1)), .int .i64 ((F9_ text bytes).2)]):=by
  refine fC Tryz.func83 H0_ Tryz.ntmps83 fun w N H hG=>?_;have text_l:text.length<=9223372036854775807:=w.1;have bytes_r:-9223372036854775808<=bytes/\bytes<=9223372036854775807:=w.2.1;have e0:=F9_.eq_1 text bytes;generalize F9_ text bytes=z at e0 ⊢;refine gm H0_ 9 [0] fun B2=>?_;refine ef (ecallb 1 (Rv_ _) rfl rfl fun w3 b4=>?_);refine gx H0_ 6 ?_;refine ef (ecallm (D0_ (⟨text,0⟩) _) rfl rfl rfl rfl rfl ?_);generalize hr6:J_ (⟨text,0⟩) 8=r;intro w5 w5p;have e7:=e0.trans (Co_ hr6.symm);have :=Ah_ (⟨text,0⟩) 8
  (try simp only[hr6] at *)
  refine gx H0_ 1 ?_;refine cV e7 R6_ (Ml_ _ _) rfl fun r1 hr9 e11 w10=>?_;have hnw:=knew_f r.1 bytes hb
  (try first|rw[<- hr9] at hnw|rw[hr9] at hnw)
  refine gm H0_ 8 [2] fun B13=>?_;refine ef (ecallm (D0_ _ _) rfl rfl rfl rfl rfl ?_);generalize hr15:J_ r.2 1=r2;intro w14 w14p;have e16:=e11.trans (Co_ hr15.symm);have :=Ah_ r.2 1
  (try simp only[hr15] at *)
  refine gx H0_ 4 ?_;refine loop (ι:=Nat×Int×In×E_) [0,4,5,6,7] [0] (fun ⟨f,n,x,x1⟩=>[(8, .int .u64 n)]) (fun ⟨f,n,x,x1⟩=>[(1, .box b4 272 (In.pc x)),(2, .box (B13 0) 50 (E_.pc x1))]) (fun ⟨f,n,x,x1⟩=>(n).toNat<f/\z=Ht_ text f n x x1/\(0<=n/\n<=255)/\StkOk x1/\RoB x1) (fun ⟨f,n,x,x1⟩=>f) ⟨((r2.1).toNat+1),r2.1,r2.2,r1⟩ ⟨rfl,trivial⟩ ⟨rfl,rfl,trivial⟩ ?_ ?_
  · exact⟨Nat.lt_succ_self _,e16,⟨by omega,hnw.1,hnw.2⟩⟩
  rintro⟨f,n,x,x1⟩ ⟨hp18_1,hp18_2,hp18_3⟩;obtain⟨hi1,hi2,hi3⟩:=hp18_3;obtain⟨f1,rfl⟩:∃ q,f=q+1:=⟨f-1,by omega⟩;have e_f1:=hp18_2.trans (Ht_.eq_2 _ _ _ _ _);refine gx H0_ 7 ?_;refine callgm rfl (fun hc=>(Gu_ _)) rfl rfl rfl rfl ⟨(fun hc=>hc),trivial⟩ rfl rfl fun _=>?_;refine gy H0_ 4 ?_;refine cE e_f1 (fun h19 e24=>?_) (fun h19 e29=>?_)
  · have h20:=bl h19;have p21:=dt h20;have h22:=br h19;have p23:=dt h22;refine gx H0_ 7 ?_;refine ef (ecally (Lz_ _ _) rfl rfl rfl rfl rfl ?_);generalize hr26:B5_ x1 x=r3;intro w25 w25p;have e27:=e24.trans (Co_ hr26.symm);have hrr:=rrow_ok hi2 hi3 x
    (try first|rw[<- hr26.symm] at hrr|rw[hr26.symm] at hrr)
    have :=F3_ (n-1);refine gm H0_ 9 [] fun _=>?_;refine next ⟨f1,(IntKind.wrap .u64 (n-1)),r3.2,r3.1⟩ rfl rfl ⟨rfl,trivial⟩ ⟨rfl,rfl,trivial⟩ ?_ ?_
    · (try simp only[]);omega
    exact⟨(by (try simp only[]);rw[Cp_ (by omega) (by omega)];omega),e27,⟨(by (try simp only[]);rw[Cp_ (by omega) (by omega)];omega),hrr.1,hrr.2⟩⟩
  refine gx H0_ 6 ?_;obtain⟨o,e_o,q_o⟩:=Xb_ e29;refine G4_ (ι:=In×E_) [0,4,5,6,7] [0] (fun ⟨x2,x3⟩=>[]) (fun ⟨x2,x3⟩=>[(1, .box b4 272 (In.pc x2)),(2, .box (B13 0) 50 (E_.pc x3))]) (fun ⟨x2,x3⟩=>o=(x2,x3)/\StkOk x3/\RoB x3) ?_ ?_
  · refine gx H0_ 3 ?_;refine ef (ecallm (D0_ _ _) rfl rfl rfl rfl rfl ?_);generalize hr31:J_ x 1=r4;intro w30 w30p;have e32:=e_o.trans (Co_ hr31.symm);have :=Ah_ x 1
    (try simp only[hr31] at *)
    refine gx H0_ 4 ?_;refine loop (ι:=Nat×Int×In×E_) [0,4,5,6,7] [0] (fun ⟨f2,n1,x4,x5⟩=>[(9, .int .u64 n1)]) (fun ⟨f2,n1,x4,x5⟩=>[(1, .box b4 272 (In.pc x4)),(2, .box (B13 0) 50 (E_.pc x5))]) (fun ⟨f2,n1,x4,x5⟩=>(n1).toNat<f2/\o=Hu_ f2 n1 x4 x5/\(0<=n1/\n1<=255)/\StkOk x5/\RoB x5) (fun ⟨f2,n1,x4,x5⟩=>f2) ⟨((r4.1).toNat+1),r4.1,r4.2,x1⟩ ⟨rfl,trivial⟩ ⟨rfl,rfl,trivial⟩ ?_ ?_
    · exact⟨Nat.lt_succ_self _,e32,⟨by omega,hi2,hi3⟩⟩
    rintro⟨f2,n1,x4,x5⟩ ⟨hp34_1,hp34_2,hp34_3⟩;obtain⟨hi1,hi2,hi3⟩:=hp34_3;obtain⟨f3,rfl⟩:∃ q,f2=q+1:=⟨f2-1,by omega⟩;have e_f3:=hp34_2.trans (Hu_.eq_2 _ _ _ _);refine gx H0_ 7 ?_;refine callgm rfl (fun hc=>(Gu_ _)) rfl rfl rfl rfl ⟨(fun hc=>hc),trivial⟩ rfl rfl fun _=>?_;refine gy H0_ 4 ?_;refine cE e_f3 (fun h35 e40=>?_) (fun h35 e57=>?_)
    · have h36:=bl h35;have p37:=dt h36;have h38:=br h35;have p39:=dt h38;refine gx H0_ 7 ?_;refine ef (ecallm (D0_ _ _) rfl rfl rfl rfl rfl ?_);generalize hr42:J_ x4 1=r5;intro w41 w41p;have e43:=e40.trans (Co_ hr42.symm);have :=Ah_ x4 1
      (try simp only[hr42] at *)
      refine gx H0_ 6 ?_;refine ef (ecallm (Xr_ _) rfl rfl rfl rfl rfl ?_);generalize hr46:I1_ r5.2=r6;intro w45 w45p;have e47:=e43.trans (Co_ hr46.symm);have hri:=rread_ok r5.2
      (try first|rw[<- hr46.symm] at hri|rw[hr46.symm] at hri)
      refine gm H0_ 11 [3] fun B49=>?_;refine cD e47 (fun p51 e52=>?_) (fun p54 e55=>?_)
      · refine gx H0_ 3 ?_;refine ef (ecallm (Hd_ _ _) rfl rfl rfl rfl rfl fun w53 w53p=>?_);refine gx H0_ 8 ?_;refine nX ⟨(Ai_ r6.2 4),x5⟩ ?_ trivial ⟨rfl,rfl,trivial⟩;exact⟨e52,⟨hi2,hi3⟩⟩
      refine gx H0_ 6 ?_;refine q1 (qaia (r5.1).toNat rfl rfl Tryz.underlying48 sz47 (by omega) (by omega)) rfl fun w56=>?_;refine ef (Qe_ (sz:=2) (len:=16) (fun q=>E_.pc (⟨x5.next,x5.bytes,x5.rows,(A16.set x5.rises r6.1 q)⟩:E_)) ((r5.1).toNat) 3 2 0 H0_ rfl rfl rfl rfl rfl rfl rfl rfl rfl (by omega) (bw16 rfl rfl rfl rfl rfl rfl rfl rfl rfl rfl rfl rfl rfl rfl rfl rfl) rfl (bw16 rfl rfl rfl rfl rfl rfl rfl rfl rfl rfl rfl rfl rfl rfl rfl rfl) rfl ?_);have :=F3_ (n1-1);refine gx H0_ 8 ?_;refine next ⟨f3,(IntKind.wrap .u64 (n1-1)),r6.2,(⟨x5.next,x5.bytes,x5.rows,(A16.set x5.rises r6.1 ((r5.1).toNat))⟩:E_)⟩ rfl rfl ⟨rfl,trivial⟩ ⟨rfl,rfl,trivial⟩ ?_ ?_
      · (try simp only[]);omega
      exact⟨(by (try simp only[]);rw[Cp_ (by omega) (by omega)];omega),e55,⟨(by (try simp only[]);rw[Cp_ (by omega) (by omega)];omega),hi2.set _ (by omega) hri,hi3⟩⟩
    refine gx H0_ 4 ?_;refine nX ⟨x4,x5⟩ ?_ trivial ⟨rfl,rfl,trivial⟩;exact⟨e57,⟨hi2,hi3⟩⟩
  rintro⟨x2,x3⟩ ⟨hp58,hp58_3⟩;have e59:=lt2_fin q_o hp58;refine gx H0_ 5 ?_;refine ef (ecallm (in_End _) rfl rfl rfl rfl rfl fun w60 w60p=>?_);refine gx H0_ 3 ?_;refine callg rfl (fun hc=>(J5_ _ (hs:=by exact (by assumption :StkOk _/\RoB _).1))) rfl ⟨(fun hc=>hc),trivial⟩ rfl rfl fun _=>?_;refine gy H0_ 4 ?_;refine callg rfl (fun hc=>(Jd_ _ (hs:=by exact (by assumption :StkOk _/\RoB _).1) (hq:=by exact (by assumption :StkOk _/\RoB _).2))) rfl ⟨(fun hc=>hc),trivial⟩ rfl rfl fun _=>?_;refine gy H0_ 5 ?_;refine cE e59 (fun h61 e62=>?_) (fun h61 e73=>?_)
  · refine gm H0_ 9 [] fun _=>?_;subst e62;exact qr2
  have h64:=orl h61;have h65:=orl h64;have h66:=Ct_ h65;have p67:=dt h66;have h68:=orr h64;have p69:=df h68;have h70:=orr h61;have h71:=Ct_ h70;have p72:=dt h71;refine gm H0_ 10 [] fun _=>?_;subst e73;exact qr2
theorem ag43:Ag Tryz.prog 43 true:=fun w=>by kernel_rfl
theorem cb88:R_ Tryz.prog 88:=L_ Tryz.func88 (by kernel_rfl) (by kernel_rfl)
theorem sz43:Sz Tryz.prog 43 2:=fun w=>by kernel_rfl
abbrev ty180:TI:=⟨.agg [(0,1),(1,1)],2,32,[.val (.pointer none), .sl DeedR.pc []]⟩
def tbv155b:Tb:=[(36,ty36),(43,ty43),(61,ty61),(66,ty66),(73,ty73),(77,ty77),(180,ty180),(187,ty187)]
theorem Dd_:tbB Tryz.prog tbv155b=true:=by kernel_rfl
theorem Fy_ (r:RdR) (s:C_) (queues:List QueueR) (hs:StOk s:=by assumption) (hd:∀ d∈r.deeds,DdG d:=by assumption):Fm Tryz.prog gb 88 [.agg (C_.pc s), .sl QueueR.pc queues] 180 (RdR.pc r) (.tup [.agg (BookR.pc ((Af_ r s queues).1)), .bool ((Af_ r s queues).2.1)]) (RdR.pc ((Af_ r s queues).2.2)):=by
  refine O1_ Dd_ Tryz.func88 rfl Tryz.ntmps88 rfl cb88 rfl rfl rfl rfl fun w wp b N H hG=>?_;have s_x_book_shops_l:s.x.book.shops.length<=140737488355328:=w.1.1.1;have s_x_book_binds_l:s.x.book.binds.length<=140737488355328:=w.1.2.1.1;have s_x_stock_rows_l:s.x.stock.rows.length<=140737488355328:=w.1.2.2.2.2.1.1;have s_x_notes_kept_l:s.x.notes.kept.length<=140737488355328:=w.1.2.2.2.2.2.2.2.2.2.2.2.2.2.2.2.2.2.2.2.2.2.2.2.2.2.2.2.2.2.2.2.2.2.2.2.2.2.2.1.1;have s_policy_places_l:s.policy.places.length<=140737488355328:=w.1.2.2.2.2.2.2.2.2.2.2.2.2.2.2.2.2.2.2.2.2.2.2.2.2.2.2.2.2.2.2.2.2.2.2.2.2.2.2.2.2.2.2.2.2.2.2.2.2.2.2.2.2.2.2.2.2.2.2.2.2.2.2.2.2.2.2.2.2.2.2.2.2.2.1.1;have s_policy_slots_l:s.policy.slots.length<=140737488355328:=w.1.2.2.2.2.2.2.2.2.2.2.2.2.2.2.2.2.2.2.2.2.2.2.2.2.2.2.2.2.2.2.2.2.2.2.2.2.2.2.2.2.2.2.2.2.2.2.2.2.2.2.2.2.2.2.2.2.2.2.2.2.2.2.2.2.2.2.2.2.2.2.2.2.2.2.1.1;have s_policy_grants_l:s.policy.grants.length<=140737488355328:=w.1.2.2.2.2.2.2.2.2.2.2.2.2.2.2.2.2.2.2.2.2.2.2.2.2.2.2.2.2.2.2.2.2.2.2.2.2.2.2.2.2.2.2.2.2.2.2.2.2.2.2.2.2.2.2.2.2.2.2.2.2.2.2.2.2.2.2.2.2.2.2.2.2.2.2.2.1.1;have queues_l:queues.length<=140737488355328:=w.2.1.1;have r_deeds_l:r.deeds.length<=140737488355328:=wp.2.1.1;have e0:=Af_.eq_1 r s queues;refine gm Dd_ 16 [1,2] fun B2=>?_;refine loop (ι:=Nat×C_) [0,4,6,7,16,17] [0,2] (fun ⟨k,x⟩=>[(18, .int .i64 (k:Int))]) (fun ⟨k,x⟩=>[(1, .box (B2 0) 61 (C_.pc x))]) (fun ⟨k,x⟩=>k<=queues.length/\Af_ r s queues=A6_ r (queues.drop k) x/\StOk x) (fun ⟨k,x⟩=>queues.length-k) ⟨0,s⟩ ⟨rfl,trivial⟩ ⟨rfl,trivial⟩ ?_ ?_
  · exact⟨Nat.zero_le _,e0,hs⟩
  rintro⟨k,x⟩ ⟨hp4_1,hp4_2,hp4_3⟩;refine gx Dd_ 6 ?_;refine cn rfl (fun p6=>?_) fun p17=>?_
  · have e7:=B0_ (f:=fun zz=>A6_ r zz x) hp4_2 (Fz_ (by omega)) (A6_.eq_2 _ _ _ _);have hc8:=getG (xs:=queues) (k:=k) (by omega);refine gx Dd_ 6 ?_;refine q1 (qidx Dd_ k rfl rfl rfl hc8 rfl rfl rfl rfl) rfl fun w9=>?_;refine gm Dd_ 9 [3] fun B11=>?_;refine cV e7 R22_ (E9_ _ (⟨2,0,(⟨[],0,[]⟩:ShopR),(gt queues k),(⟨[],[],false,[],[],false⟩:BindR),[],0,0,0,0,0,(⟨0,[],[],[],[],0,0⟩:Mail),[]⟩:DeedR) (hd:=by first|assumption|exact (ddq _).1)) rfl fun r1 hr12 e14 w13=>?_;have hA14:=T7_ (s:=x) (d:=(⟨2,0,(⟨[],0,[]⟩:ShopR),(gt queues k),(⟨[],[],false,[],[],false⟩:BindR),[],0,0,0,0,0,(⟨0,[],[],[],[],0,0⟩:Mail),[]⟩:DeedR)) (by assumption) (by first|assumption|exact dd1 (by decide +kernel)|exact⟨by first|(simp;done)|omega,by first|(simp;done)|omega,by first|(simp;done)|((try dsimp only);omega),by first|(simp;done)|((try dsimp only);omega)⟩) (by first|assumption|omega|(dsimp only;omega)|decide +kernel)
    (try rw[<- hr12] at hA14)
    refine gmy Dd_ 12 [] fun _=>?_;refine next ⟨(k+1),r1.1⟩ rfl rfl ⟨rfl,trivial⟩ ⟨rfl,trivial⟩ ?_ ?_
    · (try simp only[]);omega
    exact⟨by (try simp only[]);omega,e14,by assumption⟩
  have e18:=B0_ (f:=fun zz=>A6_ r zz x) hp4_2 (F0_ (by omega)) (A6_.eq_1 _ _);refine gx Dd_ 17 ?_;refine loop (ι:=Nat×C_) [4,6,34,35] [0,2] (fun ⟨k1,x1⟩=>[(36, .int .i64 (k1:Int))]) (fun ⟨k1,x1⟩=>[(1, .box (B2 0) 61 (C_.pc x1))]) (fun ⟨k1,x1⟩=>k1<=r.deeds.length/\Af_ r s queues=Bg_ r (r.deeds.drop k1) x1/\StOk x1) (fun ⟨k1,x1⟩=>r.deeds.length-k1) ⟨0,x⟩ ⟨rfl,trivial⟩ ⟨rfl,trivial⟩ ?_ ?_
  · exact⟨Nat.zero_le _,e18,by assumption⟩
  rintro⟨k1,x1⟩ ⟨hp19_1,hp19_2,hp19_3⟩;refine gx Dd_ 6 ?_;refine cn rfl (fun p21=>?_) fun p49=>?_
  · have e22:=B0_ (f:=fun zz=>Bg_ r zz x1) hp19_2 (Fz_ (by omega)) (Bg_.eq_2 _ _ _ _);have hc23:=getG (xs:=r.deeds) (k:=k1) (by omega);have hd_hc23:=hd (gt r.deeds k1) (List.mem_of_getElem? hc23);have hdo_hc23:=hd_hc23.1;have hdh_hc23:=hd_hc23.2.2.2.1;refine gx Dd_ 6 ?_;refine q1 (qidx Dd_ k1 rfl rfl rfl hc23 rfl rfl rfl rfl) rfl fun w24=>?_;refine gm Dd_ 8 [3] fun B26=>?_;refine cV e22 R39_ (Ev_ _) rfl fun r2 hr27 e29 w28=>?_;refine q1 (qfA rfl Tryz.underlying59 rfl ag43 sz43 rfl) rfl fun w30=>?_;refine gm Dd_ 8 [4] fun B32=>?_;refine cV e29 R22_ (E9_ _ _ (hd:=by first|assumption|exact (ddq _).1)) rfl fun r3 hr33 e35 w34=>?_;have hA35:=T7_ (s:=x1) (d:=(gt r.deeds k1)) (by assumption) (by first|assumption|exact dd1 (by decide +kernel)|exact⟨by first|(simp;done)|omega,by first|(simp;done)|omega,by first|(simp;done)|((try dsimp only);omega),by first|(simp;done)|((try dsimp only);omega)⟩) (by first|assumption|omega|(dsimp only;omega)|decide +kernel)
    (try rw[<- hr33] at hA35)
    refine gm Dd_ 13 [5,6] fun B38=>?_;refine aN [7,8,9,10,11,12] 9 mixd ?_;refine gX Dd_ [0,1,2,3,4] 4 ?_;refine vE 5 rfl (ecallg rfl (fun hc=>(Ev_ r3.1)) rfl ⟨(fun hc=>hc),trivial⟩ rfl rfl fun _=>?_);refine vqg 6 [55] rfl (by kernel_rfl) rfl rfl (fun hc=>qfA rfl Tryz.underlying59 rfl ag43 sz43 rfl) ⟨(fun hc=>hc),trivial⟩ rfl fun _=>?_;refine vcallg 7 rfl (by kernel_rfl) rfl (fun hc=>(Ou_ r2.book ((C6_ r3.1).book))) rfl rfl ⟨(fun hc=>hc),(fun hc=>hc),trivial⟩ rfl fun _=>?_;refine gXy Dd_ [8] 0 ?_;refine vD ?_;refine gx Dd_ 1 ?_;refine cE e35 (fun h40 e41=>?_) (fun h40 e47=>?_)
    · refine gm Dd_ 14 [] fun _=>?_;exact rm2 rfl rfl (P_ (fun r:BookR×Bool×RdR=> .tup [.agg (BookR.pc r.1), .bool r.2.1]) e41 (ple rfl)) rfl rfl rfl (Me_ (fun r:BookR×Bool×RdR=>RdR.pc r.2.2) e41 (ples rfl))
    have h43:=orl h40;have h44:=Ct_ h43;have p45:=dt h44;have h46:=orr h40;refine gmy Dd_ 12 [] fun _=>?_;refine next ⟨(k1+1),r3.1⟩ rfl rfl ⟨rfl,trivial⟩ ⟨rfl,trivial⟩ ?_ ?_
    · (try simp only[]);omega
    exact⟨by (try simp only[]);omega,e47,by assumption⟩
  have e50:=B0_ (f:=fun zz=>Bg_ r zz x1) hp19_2 (F0_ (by omega)) (Bg_.eq_1 _ _);refine gx Dd_ 8 ?_;refine cV e50 R39_ (Ev_ _) rfl fun r4 hr51 e53 w52=>?_;refine q1 (qfA rfl Tryz.underlying59 rfl ag43 sz43 rfl) rfl fun w54=>?_;refine gm Dd_ 5 [] fun _=>?_;exact rm2 rfl rfl (P_ (fun r:BookR×Bool×RdR=> .tup [.agg (BookR.pc r.1), .bool r.2.1]) e53 (ple rfl)) rfl rfl rfl (Me_ (fun r:BookR×Bool×RdR=>RdR.pc r.2.2) e53 (ples rfl))
theorem cb82:R_ Tryz.prog 82:=L_ Tryz.func82 (by kernel_rfl) (by kernel_rfl)
abbrev ty177:TI:=⟨.oth,1,8,[.val (.pointer none)]⟩
abbrev ty180v156:TI:=⟨.agg [(0,1),(1,1)],2,32,[.val (.pointer none), .val (.slice none 0 0)]⟩
def tbv156:Tb:=[(3,ty3),(4,ty4),(5,ty5),(9,ty9),(22,ty22),(31,ty31),(35,ty35),(36,ty36),(43,ty43),(50,ty50),(56,ty56),(59,ty59),(64,ty64),(67,ty67),(69,ty69),(73,ty73),(129,Oy_),(177,ty177),(180,ty180v156)]
theorem Y_:tbB Tryz.prog tbv156=true:=by kernel_rfl
theorem Ld_ (text:Bs) (p:PolicyR) (place:Int) (hp:PoOk p:=by assumption) (hk:0<=place/\place<p.places.length:=by omega):Fn Tryz.prog gb 26 [.str text, .agg (PolicyR.pc p), .int .i64 place] (.tup [.agg (K_.pc ((El_ text p place).1)), .int .i64 ((El_ text p place).2)]):=by
  refine fC Tryz.func26 Y_ Tryz.ntmps26 fun w N H hG=>?_;have text_l:text.length<=9223372036854775807:=w.1;have p_places_l:p.places.length<=140737488355328:=w.2.1.2.2.1.1;have p_slots_l:p.slots.length<=140737488355328:=w.2.1.2.2.2.1.1;have p_grants_l:p.grants.length<=140737488355328:=w.2.1.2.2.2.2.1.1;have place_r:-9223372036854775808<=place/\place<=9223372036854775807:=w.2.2.1;have e0:=El_.eq_1 text p place;generalize El_ text p place=z at e0 ⊢;refine gm Y_ 10 [0,1] fun B2=>?_;refine ef (ecallb 2 (Rv_ _) rfl rfl fun w4 b5=>?_);refine gm Y_ 8 [3] fun B7=>?_;refine hinl [] Y_ Tryz.func82 rfl Tryz.ntmps82 cb82 rfl rfl rfl rfl fun Hc8 hHc8=>?_;refine gx Y_ 7 ?_;refine ef (ecallm (D0_ (⟨text,0⟩) _) rfl rfl rfl rfl rfl ?_);generalize hr10:J_ (⟨text,0⟩) 1=r;intro w9 w9p;have e11:=e0.trans (Co_ hr10.symm);have :=Ah_ (⟨text,0⟩) 1;have hz_13:EqN (⟨text,0⟩) 1 r:=(hr10.symm).symm
  (try simp only[hr10] at *)
  refine gx Y_ 4 ?_;refine N6_ (i:=3) (o:=1) (k:=29) (e:=73) 4 DeedR.pc rfl (by decide) rfl rfl ?_;refine loop (ι:=Nat×Int×In×(List DeedR)×Value) [0] [0,1] (fun ⟨f,n,x,deeds,u_deeds⟩=>[(2, .int .u64 n)]) (fun ⟨f,n,x,deeds,u_deeds⟩=>[(2, .box b5 272 (In.pc x)),(3, .box (B7 0) 180 [.own 2 b5 0, .osl 4]),(4, .arr u_deeds 29 73 DeedR.pc deeds)]) (fun ⟨f,n,x,deeds,u_deeds⟩=>(n).toNat<f/\z=G2_ text p place f n x deeds/\(0<=n/\n<=255/\(deeds.length:Int)+n<=255)/\DdsG x deeds/\True) (fun ⟨f,n,x,deeds,u_deeds⟩=>f) ⟨((r.1).toNat+1),r.1,r.2,[],(.slice none 0 0)⟩ ⟨rfl,trivial⟩ ⟨rfl,rfl,rfl,trivial⟩ ?_ ?_
  · exact⟨Nat.lt_succ_self _,e11,⟨⟨by omega,by omega,by (try simp only[List.length_nil]);omega⟩,dds_nil _,trivial⟩⟩
  rintro⟨f,n,x,deeds,u_deeds⟩ ⟨hp14_1,hp14_2,hp14_3⟩;obtain⟨hi1,hi2,hi3⟩:=hp14_3;obtain⟨f1,rfl⟩:∃ q,f=q+1:=⟨f-1,by omega⟩;have e_f1:=hp14_2.trans (G2_.eq_2 _ _ _ _ _ _ _);refine gy Y_ 10 ?_;refine callgm rfl (fun hc=>(Gu_ _)) rfl rfl rfl rfl ⟨(fun hc=>hc),trivial⟩ rfl rfl fun _=>?_;refine gy Y_ 4 ?_;refine cE e_f1 (fun h15 e20=>?_) (fun h15 e53=>?_)
  · have h16:=bl h15;have p17:=dt h16;have h18:=br h15;have p19:=dt h18;refine gx Y_ 5 ?_;refine G4_ (ι:=Nat) [0,2] [0,1,3,4] (fun b21=>[(3, .own 5 b21 0)]) (fun b21=>[(2, .box b5 272 [.str ((((J_ (((I_ x 16)).2) 1)).2).s), .int .i64 ((((J_ (((I_ x 16)).2) 1)).2).err)]),(5, .box b21 64 [.str (((I_ x 16)).1), .int .u8 (((J_ (((I_ x 16)).2) 1)).1), .str []])]) (fun b21=>PV.wf (.str (((I_ x 16)).1))/\PV.wfs (In.pc (((I_ x 16)).2))/\PV.wf (.int .u64 (((J_ (((I_ x 16)).2) 1)).1))/\PV.wfs (In.pc (((J_ (((I_ x 16)).2) 1)).2))) ?_ ?_
    · refine aN [2,5,6,7,8,9,10,11,12] 14 mixd ?_;refine gX Y_ [0,1,2,3,5,6,7,8] 6 ?_;refine veL 4 [12] (by kernel_rfl) ⟨⟨_,rfl,?_⟩,⟨_,rfl,?_⟩,trivial⟩
      · refine ej rfl (ecallm (Gv_ _ _) rfl rfl rfl rfl rfl fun w22 w22p=>?_);have :=Bf_ x 16;refine veL 9 [12] (by kernel_rfl) ⟨⟨_,rfl,?_⟩,⟨_,rfl,?_⟩,trivial⟩
        · refine ej rfl (ecallm (D0_ _ _) rfl rfl rfl rfl rfl fun w23 w23p=>?_);have :=Ah_ (((I_ x 16)).2) 1;refine veL 10 [12] (by kernel_rfl) ⟨⟨_,rfl,?_⟩,⟨_,rfl,?_⟩,trivial⟩
          · refine ej rfl (eqy (qconv Y_ rfl rfl rfl rfl (Zg_ (by omega))) rfl fun w24=>?_);refine gX Y_ [11] 2 ?_;refine vE 12 rfl (aL Y_ 5 fun b25=>?_);refine vE 13 rfl (sA Y_ ?_);refine vD ?_;refine nX (b25) ?_ ⟨rfl,trivial⟩ ⟨rfl,rfl,trivial⟩;exact⟨w22,w22p,w23,w23p⟩
          refine ej rfl (aL Y_ 5 fun b26=>?_);refine vE 10 rfl (eqy (qconv Y_ rfl rfl rfl rfl (Zg_ (by omega))) rfl fun w27=>?_);refine gX Y_ [11] 1 ?_;refine vE 13 rfl (sA Y_ ?_);refine vD ?_;refine nX (b26) ?_ ⟨rfl,trivial⟩ ⟨rfl,rfl,trivial⟩;exact⟨w22,w22p,w23,w23p⟩
        refine ej rfl (aL Y_ 5 fun b28=>?_);refine vE 9 rfl (ecallm (D0_ _ _) rfl rfl rfl rfl rfl fun w29 w29p=>?_);have :=Ah_ (((I_ x 16)).2) 1;refine vE 10 rfl (eqy (qconv Y_ rfl rfl rfl rfl (Zg_ (by omega))) rfl fun w30=>?_);refine gX Y_ [11] 1 ?_;refine vE 13 rfl (sA Y_ ?_);refine vD ?_;refine nX (b28) ?_ ⟨rfl,trivial⟩ ⟨rfl,rfl,trivial⟩;exact⟨w22,w22p,w29,w29p⟩
      refine ej rfl (aL Y_ 5 fun b31=>?_);refine vE 4 rfl (ecallm (Gv_ _ _) rfl rfl rfl rfl rfl fun w32 w32p=>?_);have :=Bf_ x 16;refine vE 9 rfl (ecallm (D0_ _ _) rfl rfl rfl rfl rfl fun w33 w33p=>?_);have :=Ah_ (((I_ x 16)).2) 1;refine vE 10 rfl (eqy (qconv Y_ rfl rfl rfl rfl (Zg_ (by omega))) rfl fun w34=>?_);refine gX Y_ [11] 1 ?_;refine vE 13 rfl (sA Y_ ?_);refine vD ?_;refine nX (b31) ?_ ⟨rfl,trivial⟩ ⟨rfl,rfl,trivial⟩;exact⟨w32,w32p,w33,w33p⟩
    generalize hr35:I_ x 16=r1;generalize hr36:J_ ((r1).2) 1=r2;rintro b21 ⟨w37,w38,w39,w40⟩;have e41:=e20.trans (Co_ hr35.symm);have hr35:=hr35.symm;have :=Bf_ x 16;have hz_42:EqT x 16 r1:=(hr35).symm;have e43:=e41.trans (Co_ hr36.symm);have hr36:=hr36.symm;have :=Ah_ ((r1).2) 1;have hz_44:EqN ((r1).2) 1 r2:=(hr36).symm;refine gx Y_ 7 ?_;refine ef (ecallm (Gv_ _ _) rfl rfl rfl rfl rfl ?_);generalize hr46:I_ ((r2).2) 16=r3;intro w45 w45p;have e47:=e43.trans (Co_ hr46.symm);have :=Bf_ ((r2).2) 16;have hz_49:EqT ((r2).2) 16 r3:=(hr46.symm).symm
    (try simp only[hr46] at *)
    refine gm Y_ 4 [] fun _=>?_;refine aN [4,6,7,8,9,10,11] 12 mixd ?_;refine gX Y_ [0,1,2,3,4,5,6] 5 ?_;refine vE 7 rfl (bsl 6 DeedR.pc [(⟨0,0,(⟨(r1).1,(r2).1,r3.1⟩:ShopR),(⟨[],0,0,[]⟩:QueueR),(⟨[],[],false,[],[],false⟩:BindR),[],0,0,0,0,0,(⟨0,[],[],[],[],0,0⟩:Mail),[]⟩:DeedR)] Y_ rfl rfl rfl rfl rfl (fun _=>rfl) rfl (by decide) (by decide) rfl fun u51=>?_);refine vE 8 rfl (app Y_ [(⟨0,0,(⟨(r1).1,(r2).1,r3.1⟩:ShopR),(⟨[],0,0,[]⟩:QueueR),(⟨[],[],false,[],[],false⟩:BindR),[],0,0,0,0,0,(⟨0,[],[],[],[],0,0⟩:Mail),[]⟩:DeedR)] rfl rfl rfl rfl rfl rfl rfl rfl rfl (src_o rfl rfl) (by first|omega|(simp;omega)) rfl fun u52=>?_);refine gX Y_ [9,10] 1 ?_;refine vtp 11 rfl (by kernel_rfl) (by kernel_rfl) (Im_ Y_ rfl rfl rfl rfl rfl rfl rfl rfl rfl ?_);refine vD ?_;have :=F3_ (n-1);refine gx Y_ 7 ?_;refine next ⟨f1,(IntKind.wrap .u64 (n-1)),r3.2,(deeds++[(⟨0,0,(⟨(r1).1,(r2).1,r3.1⟩:ShopR),(⟨[],0,0,[]⟩:QueueR),(⟨[],[],false,[],[],false⟩:BindR),[],0,0,0,0,0,(⟨0,[],[],[],[],0,0⟩:Mail),[]⟩:DeedR)]),(u52)⟩ rfl rfl ⟨rfl,trivial⟩ ⟨rfl,rfl,rfl,trivial⟩ ?_ ?_
    · (try simp only[]);omega
    exact⟨(by (try simp only[]);rw[Cp_ (by omega) (by omega)];omega),e47,⟨⟨(by (try simp only[]);rw[Cp_ (by omega) (by omega)];omega),(by (try simp only[]);rw[Cp_ (by omega) (by omega)];omega),by (try simp only[List.length_append,List.length_cons,List.length_nil]);rw[Cp_ (by omega) (by omega)];omega⟩,Z5_ hi2 hz_42 hz_44 hz_49,trivial⟩⟩
  refine gx Y_ 11 ?_;refine ef (ecallm (D0_ _ _) rfl rfl rfl rfl rfl ?_);generalize hr55:J_ x 1=r4;intro w54 w54p;have e56:=e53.trans (Co_ hr55.symm);have :=Ah_ x 1;have hz_58:EqN x 1 r4:=(hr55.symm).symm
  (try simp only[hr55] at *)
  refine gx Y_ 4 ?_;refine loop (ι:=Nat×Int×In×(List DeedR)×Value) [0] [0,1] (fun ⟨f2,n1,x1,deeds1,u_deeds1⟩=>[(4, .int .u64 n1)]) (fun ⟨f2,n1,x1,deeds1,u_deeds1⟩=>[(2, .box b5 272 (In.pc x1)),(3, .box (B7 0) 180 [.own 2 b5 0, .osl 4]),(4, .arr u_deeds1 29 73 DeedR.pc deeds1)]) (fun ⟨f2,n1,x1,deeds1,u_deeds1⟩=>(n1).toNat<f2/\z=G3_ text p place f2 n1 x1 deeds1/\(0<=n1/\n1<=255/\(deeds1.length:Int)+n1<=510)/\DdsG x1 deeds1/\True) (fun ⟨f2,n1,x1,deeds1,u_deeds1⟩=>f2) ⟨((r4.1).toNat+1),r4.1,r4.2,deeds,(u_deeds)⟩ ⟨rfl,trivial⟩ ⟨rfl,rfl,rfl,trivial⟩ ?_ ?_
  · exact⟨Nat.lt_succ_self _,e56,⟨⟨by omega,by omega,by omega⟩,I5_ hi2 hz_58,trivial⟩⟩
  rintro⟨f2,n1,x1,deeds1,u_deeds1⟩ ⟨hp59_1,hp59_2,hp59_3⟩;obtain⟨hi1,hi2,hi3⟩:=hp59_3;obtain⟨f3,rfl⟩:∃ q,f2=q+1:=⟨f2-1,by omega⟩;have e_f3:=hp59_2.trans (G3_.eq_2 _ _ _ _ _ _ _);refine gy Y_ 10 ?_;refine callgm rfl (fun hc=>(Gu_ _)) rfl rfl rfl rfl ⟨(fun hc=>hc),trivial⟩ rfl rfl fun _=>?_;refine gy Y_ 4 ?_;refine cE e_f3 (fun h60 e65=>?_) (fun h60 e115=>?_)
  · have h61:=bl h60;have p62:=dt h61;have h63:=br h60;have p64:=dt h63;refine gx Y_ 5 ?_;refine G4_ (ι:=Nat) [0,4] [0,1,3,4] (fun b66=>[(5, .own 5 b66 0)]) (fun b66=>[(2, .box b5 272 [.str ((((J_ (((I_ (((I_ x1 16)).2) 16)).2) 1)).2).s), .int .i64 ((((J_ (((I_ (((I_ x1 16)).2) 16)).2) 1)).2).err)]),(5, .box b66 69 (BindR.pc (⟨((I_ x1 16)).1,((I_ (((I_ x1 16)).2) 16)).1,decide ((((J_ (((I_ (((I_ x1 16)).2) 16)).2) 1)).1)=1),[],[],false⟩:BindR)))]) (fun b66=>PV.wf (.str (((I_ x1 16)).1))/\PV.wfs (In.pc (((I_ x1 16)).2))/\PV.wf (.str (((I_ (((I_ x1 16)).2) 16)).1))/\PV.wfs (In.pc (((I_ (((I_ x1 16)).2) 16)).2))/\PV.wf (.int .u64 (((J_ (((I_ (((I_ x1 16)).2) 16)).2) 1)).1))/\PV.wfs (In.pc (((J_ (((I_ (((I_ x1 16)).2) 16)).2) 1)).2))) ?_ ?_
    · refine aN [2,5,6,7,8,9,10,11,12] 19 mixd ?_;refine gX Y_ [0,1,2,3,5,6,7,8,10,11,12,13] 7 ?_;refine veL 4 [17] (by kernel_rfl) ⟨⟨_,rfl,?_⟩,⟨_,rfl,?_⟩,trivial⟩
      · refine ej rfl (ecallm (Gv_ _ _) rfl rfl rfl rfl rfl fun w67 w67p=>?_);have :=Bf_ x1 16;refine veL 9 [17] (by kernel_rfl) ⟨⟨_,rfl,?_⟩,⟨_,rfl,?_⟩,trivial⟩
        · refine ej rfl (ecallm (Gv_ _ _) rfl rfl rfl rfl rfl fun w68 w68p=>?_);have :=Bf_ (((I_ x1 16)).2) 16;refine veL 14 [17] (by kernel_rfl) ⟨⟨_,rfl,?_⟩,⟨_,rfl,?_⟩,trivial⟩
          · refine ej rfl (ecallm (D0_ _ _) rfl rfl rfl rfl rfl fun w69 w69p=>?_);have :=Ah_ (((I_ (((I_ x1 16)).2) 16)).2) 1;refine gX Y_ [15,16] 2 ?_;refine vE 17 rfl (aL Y_ 5 fun b70=>?_);refine vE 18 rfl (sA Y_ ?_);refine vD ?_;refine nX (b70) ?_ ⟨rfl,trivial⟩ ⟨rfl,rfl,trivial⟩;exact⟨w67,w67p,w68,w68p,w69,w69p⟩
          refine ej rfl (aL Y_ 5 fun b71=>?_);refine vE 14 rfl (ecallm (D0_ _ _) rfl rfl rfl rfl rfl fun w72 w72p=>?_);have :=Ah_ (((I_ (((I_ x1 16)).2) 16)).2) 1;refine gX Y_ [15,16] 1 ?_;refine vE 18 rfl (sA Y_ ?_);refine vD ?_;refine nX (b71) ?_ ⟨rfl,trivial⟩ ⟨rfl,rfl,trivial⟩;exact⟨w67,w67p,w68,w68p,w72,w72p⟩
        refine ej rfl (aL Y_ 5 fun b73=>?_);refine vE 9 rfl (ecallm (Gv_ _ _) rfl rfl rfl rfl rfl fun w74 w74p=>?_);have :=Bf_ (((I_ x1 16)).2) 16;refine vE 14 rfl (ecallm (D0_ _ _) rfl rfl rfl rfl rfl fun w75 w75p=>?_);have :=Ah_ (((I_ (((I_ x1 16)).2) 16)).2) 1;refine gX Y_ [15,16] 1 ?_;refine vE 18 rfl (sA Y_ ?_);refine vD ?_;refine nX (b73) ?_ ⟨rfl,trivial⟩ ⟨rfl,rfl,trivial⟩;exact⟨w67,w67p,w74,w74p,w75,w75p⟩
      refine ej rfl (aL Y_ 5 fun b76=>?_);refine vE 4 rfl (ecallm (Gv_ _ _) rfl rfl rfl rfl rfl fun w77 w77p=>?_);have :=Bf_ x1 16;refine vE 9 rfl (ecallm (Gv_ _ _) rfl rfl rfl rfl rfl fun w78 w78p=>?_);have :=Bf_ (((I_ x1 16)).2) 16;refine vE 14 rfl (ecallm (D0_ _ _) rfl rfl rfl rfl rfl fun w79 w79p=>?_);have :=Ah_ (((I_ (((I_ x1 16)).2) 16)).2) 1;refine gX Y_ [15,16] 1 ?_;refine vE 18 rfl (sA Y_ ?_);refine vD ?_;refine nX (b76) ?_ ⟨rfl,trivial⟩ ⟨rfl,rfl,trivial⟩;exact⟨w77,w77p,w78,w78p,w79,w79p⟩
    generalize hr80:I_ x1 16=r5;generalize hr81:I_ ((r5).2) 16=r6;generalize hr82:J_ ((r6).2) 1=r7;rintro b66 ⟨w83,w84,w85,w86,w87,w88⟩;have e89:=e65.trans (Co_ hr80.symm);have hr80:=hr80.symm;have :=Bf_ x1 16;have hz_90:EqT x1 16 r5:=(hr80).symm;have e91:=e89.trans (Co_ hr81.symm);have hr81:=hr81.symm;have :=Bf_ ((r5).2) 16;have hz_92:EqT ((r5).2) 16 r6:=(hr81).symm;have e93:=e91.trans (Co_ hr82.symm);have hr82:=hr82.symm;have :=Ah_ ((r6).2) 1;have hz_94:EqN ((r6).2) 1 r7:=(hr82).symm;refine gx Y_ 7 ?_;refine ef (ecallm (Gv_ _ _) rfl rfl rfl rfl rfl ?_);generalize hr96:I_ ((r7).2) 64=r8;intro w95 w95p;have e97:=e93.trans (Co_ hr96.symm);have :=Bf_ ((r7).2) 64;have hz_99:EqT ((r7).2) 64 r8:=(hr96.symm).symm
    (try simp only[hr96] at *)
    refine gm Y_ 10 [] fun _=>?_;refine ef (ecallm (Wa_ _) rfl rfl rfl rfl rfl ?_);generalize hr102:Aw_ r8.2=r9;intro w101 w101p;have e103:=e97.trans (Co_ hr102.symm);have :=L2_ r8.2;have hz_105:EqH r8.2 r9:=(hr102.symm).symm
    (try simp only[hr102] at *)
    refine gm Y_ 10 [] fun _=>?_;refine ef (ecallm (D0_ _ _) rfl rfl rfl rfl rfl ?_);generalize hr108:J_ r9.2 1=r10;intro w107 w107p;have e109:=e103.trans (Co_ hr108.symm);have :=Ah_ r9.2 1;have hz_111:EqN r9.2 1 r10:=(hr108.symm).symm
    (try simp only[hr108] at *)
    refine gm Y_ 5 [] fun _=>?_;refine aN [4,6,7,8,9,10,11] 12 mixd ?_;refine gX Y_ [0,1,2,3,4,5,6] 5 ?_;refine vE 7 rfl (bsl 6 DeedR.pc [(⟨4,0,(⟨[],0,[]⟩:ShopR),(⟨[],0,0,[]⟩:QueueR),(⟨(r5).1,(r6).1,decide (((r7).1)=1),r8.1,r9.1,decide (r10.1=1)⟩:BindR),[],0,0,0,0,0,(⟨0,[],[],[],[],0,0⟩:Mail),[]⟩:DeedR)] Y_ rfl rfl rfl rfl rfl (fun _=>rfl) rfl (by decide) (by decide) rfl fun u113=>?_);refine vE 8 rfl (app Y_ [(⟨4,0,(⟨[],0,[]⟩:ShopR),(⟨[],0,0,[]⟩:QueueR),(⟨(r5).1,(r6).1,decide (((r7).1)=1),r8.1,r9.1,decide (r10.1=1)⟩:BindR),[],0,0,0,0,0,(⟨0,[],[],[],[],0,0⟩:Mail),[]⟩:DeedR)] rfl rfl rfl rfl rfl rfl rfl rfl rfl (src_o rfl rfl) (by first|omega|(simp;omega)) rfl fun u114=>?_);refine gX Y_ [9,10] 1 ?_;refine vtp 11 rfl (by kernel_rfl) (by kernel_rfl) (Im_ Y_ rfl rfl rfl rfl rfl rfl rfl rfl rfl ?_);refine vD ?_;have :=F3_ (n1-1);refine gx Y_ 7 ?_;refine next ⟨f3,(IntKind.wrap .u64 (n1-1)),r10.2,(deeds1++[(⟨4,0,(⟨[],0,[]⟩:ShopR),(⟨[],0,0,[]⟩:QueueR),(⟨(r5).1,(r6).1,decide (((r7).1)=1),r8.1,r9.1,decide (r10.1=1)⟩:BindR),[],0,0,0,0,0,(⟨0,[],[],[],[],0,0⟩:Mail),[]⟩:DeedR)]),(u114)⟩ rfl rfl ⟨rfl,trivial⟩ ⟨rfl,rfl,rfl,trivial⟩ ?_ ?_
    · (try simp only[]);omega
    exact⟨(by (try simp only[]);rw[Cp_ (by omega) (by omega)];omega),e109,⟨⟨(by (try simp only[]);rw[Cp_ (by omega) (by omega)];omega),(by (try simp only[]);rw[Cp_ (by omega) (by omega)];omega),by (try simp only[List.length_append,List.length_cons,List.length_nil]);rw[Cp_ (by omega) (by omega)];omega⟩,Z4_ hi2 hz_90 hz_92 hz_94 hz_99 hz_105 hz_111,trivial⟩⟩
  refine gx Y_ 4 ?_;refine inln rfl rfl rfl trivial ?_;refine gx Y_ 3 ?_;refine G4_ (ι:=Nat) [0,2,4,6,7,8] [0,1,3,4] (fun b116=>[(9, .own 5 b116 0),(10, .int .i64 ((F9_ ((Em_ (((J_ x1 4)).2) (IntKind.wrap .i64 (((J_ x1 4)).1))).1) ((gt p.places ((place).toNat)).bytes)).2))]) (fun b116=>[(2, .box b5 272 [.str (((Em_ (((J_ x1 4)).2) (IntKind.wrap .i64 (((J_ x1 4)).1))).2).s), .int .i64 (((Em_ (((J_ x1 4)).2) (IntKind.wrap .i64 (((J_ x1 4)).1))).2).err)]),(5, .box b116 50 (E_.pc ((F9_ ((Em_ (((J_ x1 4)).2) (IntKind.wrap .i64 (((J_ x1 4)).1))).1) ((gt p.places ((place).toNat)).bytes)).1)))]) (fun b116=>PV.wf (.int .u64 (((J_ x1 4)).1))/\PV.wfs (In.pc (((J_ x1 4)).2))/\PV.wf (.str ((Em_ (((J_ x1 4)).2) (IntKind.wrap .i64 (((J_ x1 4)).1))).1))/\PV.wfs (In.pc ((Em_ (((J_ x1 4)).2) (IntKind.wrap .i64 (((J_ x1 4)).1))).2))/\PV.wf (.tup [.agg (E_.pc ((F9_ ((Em_ (((J_ x1 4)).2) (IntKind.wrap .i64 (((J_ x1 4)).1))).1) ((gt p.places ((place).toNat)).bytes)).1)), .int .i64 ((F9_ ((Em_ (((J_ x1 4)).2) (IntKind.wrap .i64 (((J_ x1 4)).1))).1) ((gt p.places ((place).toNat)).bytes)).2)])) ?_ ?_
  · refine aN [2,5,6,7,8,9,10,11,12] 24 mixd ?_;refine gX Y_ [0,1,2,3,4,5,6,7,11,12,13] 13 ?_;have hc117:=getG (xs:=p.places) (k:=(place).toNat) (by omega);refine vq 14 (qidx Y_ (place).toNat rfl rfl (by omega) hc117 rfl rfl rfl rfl) rfl (by kernel_rfl) rfl fun w118=>?_;refine gX Y_ [15,16] 10 ?_;refine veL 8 [21] (by kernel_rfl) ⟨⟨_,rfl,?_⟩,⟨_,rfl,?_⟩,trivial⟩
    · refine ej rfl (ecallm (D0_ _ _) rfl rfl rfl rfl rfl fun w119 w119p=>?_);have :=Ah_ x1 4;refine gX Y_ [9] 8 ?_;refine veL 10 [21] (by kernel_rfl) ⟨⟨_,rfl,?_⟩,⟨_,rfl,?_⟩,trivial⟩
      · refine ej rfl (ecallm (S7_ _ _) rfl rfl rfl rfl rfl fun w120 w120p=>?_);refine veL 17 [21] (by kernel_rfl) ⟨⟨_,rfl,?_⟩,⟨_,rfl,?_⟩,trivial⟩
        · refine ej rfl (eC (Lp_ _ _ (hb:=by exact Pf_ hp hk)) rfl fun w121=>?_);refine gX Y_ [18,19,20] 3 ?_;refine vE 21 rfl (aL Y_ 5 fun b122=>?_);refine vE 22 rfl (sA Y_ ?_);refine gX Y_ [23] 0 ?_;refine vD ?_;refine nX (b122) ?_ ⟨rfl,rfl,trivial⟩ ⟨rfl,rfl,trivial⟩;exact⟨w119,w119p,w120,w120p,w121⟩
        refine ej rfl (aL Y_ 5 fun b123=>?_);refine vE 17 rfl (eC (Lp_ _ _ (hb:=by exact Pf_ hp hk)) rfl fun w124=>?_);refine gX Y_ [18,19,20] 2 ?_;refine vE 22 rfl (sA Y_ ?_);refine gX Y_ [23] 0 ?_;refine vD ?_;refine nX (b123) ?_ ⟨rfl,rfl,trivial⟩ ⟨rfl,rfl,trivial⟩;exact⟨w119,w119p,w120,w120p,w124⟩
      refine ej rfl (aL Y_ 5 fun b125=>?_);refine vE 10 rfl (ecallm (S7_ _ _) rfl rfl rfl rfl rfl fun w126 w126p=>?_);refine vE 17 rfl (eC (Lp_ _ _ (hb:=by exact Pf_ hp hk)) rfl fun w127=>?_);refine gX Y_ [18,19,20] 2 ?_;refine vE 22 rfl (sA Y_ ?_);refine gX Y_ [23] 0 ?_;refine vD ?_;refine nX (b125) ?_ ⟨rfl,rfl,trivial⟩ ⟨rfl,rfl,trivial⟩;exact⟨w119,w119p,w126,w126p,w127⟩
    refine ej rfl (aL Y_ 5 fun b128=>?_);refine vE 8 rfl (ecallm (D0_ _ _) rfl rfl rfl rfl rfl fun w129 w129p=>?_);have :=Ah_ x1 4;refine gX Y_ [9] 7 ?_;refine vE 10 rfl (ecallm (S7_ _ _) rfl rfl rfl rfl rfl fun w130 w130p=>?_);refine vE 17 rfl (eC (Lp_ _ _ (hb:=by exact Pf_ hp hk)) rfl fun w131=>?_);refine gX Y_ [18,19,20] 2 ?_;refine vE 22 rfl (sA Y_ ?_);refine gX Y_ [23] 0 ?_;refine vD ?_;refine nX (b128) ?_ ⟨rfl,rfl,trivial⟩ ⟨rfl,rfl,trivial⟩;exact⟨w129,w129p,w130,w130p,w131⟩
  generalize hr132:J_ x1 4=r11;generalize hr133:Em_ ((r11).2) (IntKind.wrap .i64 ((r11).1))=r12;generalize hr134:F9_ (r12.1) ((gt p.places ((place).toNat)).bytes)=r13;rintro b116 ⟨w135,w136,w137,w138,w139⟩;have e140:=e115.trans (Co_ hr132.symm);have hr132:=hr132.symm;have :=Ah_ x1 4;have hz_141:EqN x1 4 r11:=(hr132).symm;have e142:=e140.trans (Co_ hr133.symm);have hr133:=hr133.symm;have hz_143:EqR ((r11).2) (IntKind.wrap .i64 ((r11).1)) r12:=(hr133).symm;have e144:=e142.trans (Co_ hr134.symm);have hr134:=hr134.symm;have hkf:=kof_ok r12.1 ((gt p.places ((place).toNat)).bytes) (Pf_ hp hk)
  (try first|rw[<- hr134] at hkf|rw[hr134] at hkf)
  refine gx Y_ 2 ?_;refine G4_ (ι:=Nat) [0,2,4,6,7,8,9,10] [0,1,3,4,5] (fun b145=>[(11, .own 6 b145 0)]) (fun b145=>[(2, .box b5 272 [.str (((Cq_ (r12.2)).2).s), .int .i64 (((Cq_ (r12.2)).2).err)]),(6, .box b145 59 (K_.pc (⟨(⟨[],[]⟩:BookR),(r13.1),((Cq_ (r12.2)).1),(⟨0,0,0,0,0,0,0,0,0,0,0,0,0,0,0,0⟩:A16_u64),(⟨(⟨0,0⟩:O_),(⟨0,0⟩:O_),(⟨0,0⟩:O_),(⟨0,0⟩:O_),(⟨0,0⟩:O_),(⟨0,0⟩:O_),(⟨0,0⟩:O_),(⟨0,0⟩:O_)⟩:A8_SpentR)⟩:K_)))]) (fun b145=>PV.wf (.agg (A4_.pc ((Cq_ (r12.2)).1)))/\PV.wfs (In.pc ((Cq_ (r12.2)).2))) ?_ ?_
  · refine aN [2,6,7,8,9,10,11,12,13] 9 mixd ?_;refine gX Y_ [0,1,2,3,4] 4 ?_;refine veL 5 [7] (by kernel_rfl) ⟨⟨_,rfl,?_⟩,⟨_,rfl,?_⟩,trivial⟩
    · refine ej rfl (ecallm (On_ _) rfl rfl rfl rfl rfl fun w146 w146p=>?_);refine gX Y_ [6] 2 ?_;refine vE 7 rfl (aL Y_ 6 fun b147=>?_);refine vE 8 rfl (sA Y_ ?_);refine vD ?_;refine nX (b147) ?_ ⟨rfl,trivial⟩ ⟨rfl,rfl,trivial⟩;exact⟨w146,w146p⟩
    refine ej rfl (aL Y_ 6 fun b148=>?_);refine vE 5 rfl (ecallm (On_ _) rfl rfl rfl rfl rfl fun w149 w149p=>?_);refine gX Y_ [6] 1 ?_;refine vE 8 rfl (sA Y_ ?_);refine vD ?_;refine nX (b148) ?_ ⟨rfl,trivial⟩ ⟨rfl,rfl,trivial⟩;exact⟨w149,w149p⟩
  generalize hr150:Cq_ (r12.2)=r14;rintro b145 ⟨w151,w152⟩;have e153:=e144.trans (Co_ hr150.symm);have hr150:=hr150.symm;have hz_154:EqO (r12.2) r14:=(hr150).symm;have hnf:=nread_ok (r12.2)
  (try first|rw[<- hr150] at hnf|rw[hr150] at hnf)
  refine gx Y_ 8 ?_;refine loop (ι:=Nat×Nat×In×K_) [0,2,4,6,7,8,9,10,11] [0,1,3,4,5] (fun ⟨f4,v,x2,x3⟩=>[(50, .int .i64 (v:Int))]) (fun ⟨f4,v,x2,x3⟩=>[(2, .box b5 272 (In.pc x2)),(6, .box b145 59 (K_.pc x3))]) (fun ⟨f4,v,x2,x3⟩=>16-v<f4/\z=F5_ text p place deeds1 r13 f4 v x2 x3/\v<=16/\DdsG x2 deeds1/\PkOk x3) (fun ⟨f4,v,x2,x3⟩=>f4) ⟨(16-0+1),0,(r14.2),(⟨(⟨[],[]⟩:BookR),(r13.1),(r14.1),(⟨0,0,0,0,0,0,0,0,0,0,0,0,0,0,0,0⟩:A16_u64),(⟨(⟨0,0⟩:O_),(⟨0,0⟩:O_),(⟨0,0⟩:O_),(⟨0,0⟩:O_),(⟨0,0⟩:O_),(⟨0,0⟩:O_),(⟨0,0⟩:O_),(⟨0,0⟩:O_)⟩:A8_SpentR)⟩:K_)⟩ ⟨rfl,trivial⟩ ⟨rfl,rfl,trivial⟩ ?_ ?_
  · exact⟨Nat.lt_succ_self _,e153,⟨by simp,Vx_ (dds_raw (I5_ hi2 hz_141) hz_143) hz_154,⟨hkf.1,hkf.2,hnf.1,hnf.2⟩⟩⟩
  rintro⟨f4,v,x2,x3⟩ ⟨hp155_1,hp155_2,hp155_3⟩;obtain⟨hi1,hi2,hi3⟩:=hp155_3;obtain⟨f5,rfl⟩:∃ q,f4=q+1:=⟨f4-1,by omega⟩;have e_f5:=hp155_2.trans (F5_.eq_2 _ _ _ _ _ _ _ _ _);refine gx Y_ 6 ?_;refine cD e_f5 (fun p157 e158=>?_) (fun p165 e166=>?_)
  · refine gx Y_ 16 ?_;refine ef (ecallm (D0_ _ _) rfl rfl rfl rfl rfl ?_);generalize hr160:J_ x2 8=r15;intro w159 w159p;have e161:=e158.trans (Co_ hr160.symm);have :=Ah_ x2 8;have hz_163:EqN x2 8 r15:=(hr160.symm).symm
    (try simp only[hr160] at *)
    refine gx Y_ 1 ?_;refine q1 (qaia v rfl rfl Tryz.underlying54 sz22 rfl (by omega)) rfl fun w164=>?_;refine ef (ostoreS1 (len:=16) (fun q=>K_.pc (⟨x3.book,x3.stock,x3.notes,(A16.set x3.seen r15.1 q),x3.spent⟩:K_)) v 39 1 0 Y_ rfl rfl rfl rfl rfl rfl rfl (by omega) (bw16 rfl rfl rfl rfl rfl rfl rfl rfl rfl rfl rfl rfl rfl rfl rfl rfl) rfl (bw16 rfl rfl rfl rfl rfl rfl rfl rfl rfl rfl rfl rfl rfl rfl rfl rfl) rfl ?_);refine gy Y_ 7 ?_;refine next ⟨f5,(v+1),r15.2,(⟨x3.book,x3.stock,x3.notes,(A16.set x3.seen r15.1 v),x3.spent⟩:K_)⟩ rfl rfl ⟨rfl,trivial⟩ ⟨rfl,rfl,trivial⟩ ?_ ?_
    · (try simp only[]);omega
    exact⟨by (try simp only[]);omega,e161,⟨by (try simp only[]);omega,I5_ hi2 hz_163,hi3⟩⟩
  refine gx Y_ 12 ?_;refine loop (ι:=Nat×Int×Nat×In×K_) [0,2,4,6,7,8,9,11] [0,1,3,4,5] (fun ⟨f6,e_1,v1,x4,x5⟩=>[(10, .int .i64 e_1),(62, .int .i64 (v1:Int))]) (fun ⟨f6,e_1,v1,x4,x5⟩=>[(2, .box b5 272 (In.pc x4)),(6, .box b145 59 (K_.pc x5))]) (fun ⟨f6,e_1,v1,x4,x5⟩=>8-v1<f6/\z=F6_ text p place deeds1 r13 f6 e_1 v1 x4 x5/\v1<=8/\DdsG x4 deeds1/\PkOk x5) (fun ⟨f6,e_1,v1,x4,x5⟩=>f6) ⟨(8-0+1),r13.2,0,x2,x3⟩ ⟨rfl,rfl,trivial⟩ ⟨rfl,rfl,trivial⟩ ?_ ?_
  · exact⟨Nat.lt_succ_self _,e166,⟨by simp,hi2,hi3⟩⟩
  rintro⟨f6,e_1,v1,x4,x5⟩ ⟨hp167_1,hp167_2,hp167_3⟩;obtain⟨hi1,hi2,hi3⟩:=hp167_3;obtain⟨f7,rfl⟩:∃ q,f6=q+1:=⟨f6-1,by omega⟩;have e_f7:=hp167_2.trans (F6_.eq_2 _ _ _ _ _ _ _ _ _ _);refine gx Y_ 6 ?_;refine cD e_f7 (fun p169 e170=>?_) (fun p190 e191=>?_)
  · refine gx Y_ 11 ?_;refine aN [2,7,8,9,10,11,12] 16 mixd ?_;refine gX Y_ [0,1,2,3,4,6,7,8,9,13] 6 ?_;refine vE 5 rfl (ecallm (D0_ _ _) rfl rfl rfl rfl rfl ?_);generalize hr172:J_ x4 8=r16;intro w171 w171p;have e173:=e170.trans (Co_ hr172.symm);have :=Ah_ x4 8;have hz_175:EqN x4 8 r16:=(hr172.symm).symm
    (try simp only[hr172] at *)
    refine vE 10 rfl (ecallm (D0_ _ _) rfl rfl rfl rfl rfl ?_);generalize hr177:J_ r16.2 1=r17;intro w176 w176p;have e178:=e173.trans (Co_ hr177.symm);have :=Ah_ r16.2 1;have hz_180:EqN r16.2 1 r17:=(hr177.symm).symm
    (try simp only[hr177] at *)
    refine vE 11 rfl (eqy (qconv Y_ rfl rfl rfl rfl (Pr_ (by omega))) rfl fun w181=>?_);refine gX Y_ [12] 2 ?_;refine vq 14 (qaia v1 rfl rfl Tryz.underlying57 sz56 rfl (by omega)) rfl (by kernel_rfl) rfl fun w182=>?_;refine vtp 15 rfl (by kernel_rfl) (by kernel_rfl) (Qe_ (sz:=2) (len:=8) (fun q=>K_.pc (⟨x5.book,x5.stock,x5.notes,x5.seen,(A8.set x5.spent (⟨r16.1,r17.1⟩:O_) q)⟩:K_)) v1 55 2 0 Y_ rfl rfl rfl rfl rfl rfl rfl rfl rfl (by omega) (bw8 rfl rfl rfl rfl rfl rfl rfl rfl) rfl (bw8 rfl rfl rfl rfl rfl rfl rfl rfl) rfl ?_);refine vD ?_;refine gx Y_ 5 ?_;refine q1 (qaia v1 rfl rfl Tryz.underlying57 sz56 rfl (by omega)) rfl fun w183=>?_;refine gx Y_ 1 ?_;refine ef (oloadS1 (len:=8) (fun q=> .int .i64 ((A8.get (A8.set x5.spent (⟨r16.1,r17.1⟩:O_) v1) q).count)) v1 55 2 1 Y_ rfl rfl rfl rfl rfl rfl (by omega) (bw8 rfl rfl rfl rfl rfl rfl rfl rfl) rfl fun w184=>?_);refine gx Y_ 3 ?_;refine cD e178 (fun p186 e187=>?_) (fun p188 e189=>?_)
    · refine gy Y_ 9 ?_;refine next ⟨f7,4,(v1+1),r17.2,(⟨x5.book,x5.stock,x5.notes,x5.seen,(A8.set x5.spent (⟨r16.1,r17.1⟩:O_) v1)⟩:K_)⟩ rfl rfl ⟨rfl,rfl,trivial⟩ ⟨rfl,rfl,trivial⟩ ?_ ?_
      · (try simp only[]);omega
      exact⟨by (try simp only[]);omega,e187,⟨by (try simp only[]);omega,I5_ (I5_ hi2 hz_175) hz_180,hi3⟩⟩
    refine gy Y_ 7 ?_;refine next ⟨f7,e_1,(v1+1),r17.2,(⟨x5.book,x5.stock,x5.notes,x5.seen,(A8.set x5.spent (⟨r16.1,r17.1⟩:O_) v1)⟩:K_)⟩ rfl rfl ⟨rfl,rfl,trivial⟩ ⟨rfl,rfl,trivial⟩ ?_ ?_
    · (try simp only[]);omega
    exact⟨by (try simp only[]);omega,e189,⟨by (try simp only[]);omega,I5_ (I5_ hi2 hz_175) hz_180,hi3⟩⟩
  refine gx Y_ 12 ?_;refine ef (ecallm (in_End _) rfl rfl rfl rfl rfl fun w192 w192p=>?_);refine gy Y_ 7 ?_;refine cE e191 (fun h193 e194=>?_) (fun h193 e202=>?_)
  · refine gm Y_ 9 [] fun _=>?_;subst e194;exact qr2
  have h196:=orl h193;have h197:=Ct_ h196;have p198:=dt h197;have hie:=inEnd_e (dt h197);have h199:=orr h193;have h200:=Ct_ h199;have p201:=dt h200;refine gx Y_ 3 ?_;refine givec 4 rfl ?_;refine bx_junk (i:=3) 0 rfl ?_;refine G4_ (ι:=Nat) [0,6,7,11] [0,1,2,5,6] (fun b203=>[(14, .own 4 b203 0),(15, .bool ((Af_ (⟨(),deeds1⟩:RdR) (A8_ p place) (Aq_ (r13.1))).2.1))]) (fun b203=>[(3, .box (B7 0) 180 [.junk, .sl DeedR.pc (((Af_ (⟨(),deeds1⟩:RdR) (A8_ p place) (Aq_ (r13.1))).2.2).deeds)]),(4, .box b203 43 [.sl ShopR.pc (((Af_ (⟨(),deeds1⟩:RdR) (A8_ p place) (Aq_ (r13.1))).1).shops), .sl BindR.pc (((Af_ (⟨(),deeds1⟩:RdR) (A8_ p place) (Aq_ (r13.1))).1).binds)])]) (fun b203=>PV.wf (.agg (C_.pc (A8_ p place)))/\PV.wf (.sl QueueR.pc (Aq_ (r13.1)))/\PV.wf (.tup [.agg (BookR.pc ((Af_ (⟨(),deeds1⟩:RdR) (A8_ p place) (Aq_ (r13.1))).1)), .bool ((Af_ (⟨(),deeds1⟩:RdR) (A8_ p place) (Aq_ (r13.1))).2.1)])/\PV.wfs (RdR.pc ((Af_ (⟨(),deeds1⟩:RdR) (A8_ p place) (Aq_ (r13.1))).2.2))) ?_ ?_
  · refine aN [3,4,7,8,9,10,11,12,13] 13 mixd ?_;refine gX Y_ [0,1,2,4] 9 ?_;refine veL 3 [10] (by kernel_rfl) ⟨⟨_,rfl,?_⟩,⟨_,rfl,?_⟩,trivial⟩
    · refine ej rfl (eC (I4_ p _) rfl fun w204=>?_);have hB204:=Kg_ (p:=p) (k:=place) (by first|assumption|exact Mf_ (by decide +kernel)) (by first|omega|(simp;done)|decide +kernel);refine veL 5 [10] (by kernel_rfl) ⟨⟨_,rfl,?_⟩,⟨_,rfl,?_⟩,trivial⟩
      · refine ej rfl (eC (G1_ (r13.1) (hs:=by exact Nat.le_trans hkf.1.1.1 (by decide))) rfl fun w206=>?_);refine veL 6 [10] (by kernel_rfl) ⟨⟨_,rfl,?_⟩,⟨_,rfl,?_⟩,trivial⟩
        · refine ej rfl (ecallm (Fy_ (⟨(),deeds1⟩:RdR) (A8_ p place) _ (hs:=by first|assumption|exact Kg_ hp hk) (hd:=by exact hi2 hie)) rfl rfl rfl rfl rfl fun w207 w207p=>?_);refine gX Y_ [7,8,9] 3 ?_;refine vE 10 rfl (aL Y_ 4 fun b208=>?_);refine vE 11 rfl (sA Y_ ?_);refine gX Y_ [12] 0 ?_;refine vD ?_;refine nX (b208) ?_ ⟨rfl,rfl,trivial⟩ ⟨rfl,rfl,trivial⟩;exact⟨w204,w206,w207,w207p⟩
        refine ej rfl (aL Y_ 4 fun b209=>?_);refine vE 6 rfl (ecallm (Fy_ (⟨(),deeds1⟩:RdR) (A8_ p place) _ (hs:=by first|assumption|exact Kg_ hp hk) (hd:=by exact hi2 hie)) rfl rfl rfl rfl rfl fun w210 w210p=>?_);refine gX Y_ [7,8,9] 2 ?_;refine vE 11 rfl (sA Y_ ?_);refine gX Y_ [12] 0 ?_;refine vD ?_;refine nX (b209) ?_ ⟨rfl,rfl,trivial⟩ ⟨rfl,rfl,trivial⟩;exact⟨w204,w206,w210,w210p⟩
      refine ej rfl (aL Y_ 4 fun b211=>?_);refine vE 5 rfl (eC (G1_ (r13.1) (hs:=by exact Nat.le_trans hkf.1.1.1 (by decide))) rfl fun w212=>?_);refine vE 6 rfl (ecallm (Fy_ (⟨(),deeds1⟩:RdR) (A8_ p place) _ (hs:=by first|assumption|exact Kg_ hp hk) (hd:=by exact hi2 hie)) rfl rfl rfl rfl rfl fun w213 w213p=>?_);refine gX Y_ [7,8,9] 2 ?_;refine vE 11 rfl (sA Y_ ?_);refine gX Y_ [12] 0 ?_;refine vD ?_;refine nX (b211) ?_ ⟨rfl,rfl,trivial⟩ ⟨rfl,rfl,trivial⟩;exact⟨w204,w212,w213,w213p⟩
    refine ej rfl (aL Y_ 4 fun b214=>?_);refine vE 3 rfl (eC (I4_ p _) rfl fun w215=>?_);have hB215:=Kg_ (p:=p) (k:=place) (by first|assumption|exact Mf_ (by decide +kernel)) (by first|omega|(simp;done)|decide +kernel);refine vE 5 rfl (eC (G1_ (r13.1) (hs:=by exact Nat.le_trans hkf.1.1.1 (by decide))) rfl fun w217=>?_);refine vE 6 rfl (ecallm (Fy_ (⟨(),deeds1⟩:RdR) (A8_ p place) _ (hs:=by first|assumption|exact Kg_ hp hk) (hd:=by exact hi2 hie)) rfl rfl rfl rfl rfl fun w218 w218p=>?_);refine gX Y_ [7,8,9] 2 ?_;refine vE 11 rfl (sA Y_ ?_);refine gX Y_ [12] 0 ?_;refine vD ?_;refine nX (b214) ?_ ⟨rfl,rfl,trivial⟩ ⟨rfl,rfl,trivial⟩;exact⟨w215,w217,w218,w218p⟩
  generalize hr219:A8_ p place=r18;generalize hr220:Aq_ (r13.1)=r19;generalize hr221:Af_ (⟨(),deeds1⟩:RdR) r18 r19=r20;rintro b203 ⟨w222,w223,w224,w225⟩;have e226:=e202.trans (Co_ hr219.symm);have hr219:=hr219.symm;have hA226:=Kg_ (p:=p) (k:=place) (by first|assumption|exact Mf_ (by decide +kernel)) (by first|omega|(simp;done)|decide +kernel)
  (try rw[<- hr219] at hA226)
  have hnS:=Kg_ hp hk
  (try first|rw[<- hr219] at hnS|rw[hr219] at hnS)
  have hnB:=newB p place
  (try first|rw[<- hr219] at hnB|rw[hr219] at hnB)
  have e228:=e226.trans (Co_ hr220.symm);have hr220:=hr220.symm;have e229:=e228.trans (Co_ hr221.symm);have hr221:=hr221.symm;have hbf:=book_ok (⟨(),deeds1⟩:RdR) r18 r19 hnS hnB (hi2 hie)
  (try first|rw[<- hr221] at hbf|rw[hr221] at hbf)
  refine gm Y_ 15 [] fun _=>?_;refine callg rfl (fun hc=>(Kp_ (⟨(r20.1),x5.stock,x5.notes,x5.seen,x5.spent⟩:K_) (hx:=by exact imOk_of hbf hi3))) rfl ⟨(fun hc=>hc),trivial⟩ rfl rfl fun _=>?_;refine gy Y_ 5 ?_;refine cE e229 (fun h231 e232=>?_) (fun h231 e239=>?_)
  · refine gm Y_ 9 [] fun _=>?_;subst e232;exact qr2
  have h234:=orl h231;have h235:=Ct_ h234;have h236:=orr h231;have h237:=Ct_ h236;have p238:=dt h237;refine gm Y_ 10 [] fun _=>?_;subst e239;exact qr2
abbrev R41_:(K_×Int)->PV:=fun r=> .tup [.agg (K_.pc r.1), .int .i64 r.2]
abbrev ty112:TI:=⟨.int .u16,1,2,[.int .u16 0]⟩
def tbv157:Tb:=[(3,ty3),(9,ty9),(31,ty31),(32,ty32),(35,ty35),(36,ty36),(50,ty50),(59,ty59),(61,ty61),(73,ty73),(112,ty112),(129,Oy_)]
theorem Fx_:tbB Tryz.prog tbv157=true:=by kernel_rfl
theorem W2_:Fn Tryz.prog gb 24 [] (.bool (Od_)):=by
  refine fC Tryz.func24 Fx_ Tryz.ntmps24 fun w N H hG=>?_;have e0:=Od_.eq_1;refine gx Fx_ 8 ?_;refine ef (bsl 0 PlaceR.pc [(⟨[108,111,119],(⟨0,0⟩:LabelR),500,1⟩:PlaceR)] Fx_ rfl rfl rfl rfl rfl (fun _=>rfl) rfl (by decide) (by decide) rfl fun u1=>?_);refine ef (bsl 1 i64c [0] Fx_ rfl rfl rfl rfl rfl (fun _=>rfl) rfl (by decide) (by decide) rfl fun u2=>?_);refine gm Fx_ 3 [2] fun B4=>?_;refine bx_tie (i:=2) (o:=2) 0 rfl rfl rfl ?_;refine bx_tie (i:=2) (o:=3) 1 rfl rfl rfl ?_;refine gx Fx_ 3 ?_;refine givec 0 rfl ?_;refine givec 1 rfl ?_;refine gx Fx_ 2 ?_;refine cV e0 R21_ (I4_ (⟨4,1,[(⟨[108,111,119],(⟨0,0⟩:LabelR),500,1⟩:PlaceR)],[0],[]⟩:PolicyR) _ (hp:=by first|assumption|exact Mf_ (by decide +kernel)) (hk:=by first|omega|decide +kernel)) rfl fun r hr5 e7 w6=>?_;have hA7:=Kg_ (p:=(⟨4,1,[(⟨[108,111,119],(⟨0,0⟩:LabelR),500,1⟩:PlaceR)],[0],[]⟩:PolicyR)) (k:=0) (by first|assumption|exact Mf_ (by decide +kernel)) (by first|omega|(simp;done)|decide +kernel)
  (try rw[<- hr5] at hA7)
  have hnS:=Kg_ (p:=(⟨4,1,[(⟨[108,111,119],(⟨0,0⟩:LabelR),500,1⟩:PlaceR)],[0],[]⟩:PolicyR)) (k:=0) (Mf_ (by decide +kernel)) (by decide +kernel)
  (try first|rw[<- hr5] at hnS|rw[hr5] at hnS)
  have hnB:=newB (⟨4,1,[(⟨[108,111,119],(⟨0,0⟩:LabelR),500,1⟩:PlaceR)],[0],[]⟩:PolicyR) 0
  (try first|rw[<- hr5] at hnB|rw[hr5] at hnB)
  refine cV e7 R39_ (Ev_ _) rfl fun r1 hr9 e11 w10=>?_;have hix:=im_st hnS hnB
  (try first|rw[<- hr9] at hix|rw[hr9] at hix)
  refine cV e11 R33_ (Kp_ _ (hx:=by exact hix)) rfl fun r2 hr12 e14 w13=>?_;refine gx Fx_ 7 ?_;refine cV e14 R41_ (Ld_ _ (⟨4,1,[(⟨[108,111,119],(⟨0,0⟩:LabelR),500,1⟩:PlaceR)],[0],[]⟩:PolicyR) _ (hp:=by exact Mf_ (by decide +kernel)) (hk:=by first|omega|decide +kernel)) rfl fun r3 hr15 e17 w16=>?_;refine gm Fx_ 10 [0] fun B19=>?_;refine call Wz_ rfl rfl fun w20=>?_;refine gy Fx_ 12 ?_;refine callg rfl (fun hc=>(Nw_ _)) rfl ⟨(fun hc=>hc),trivial⟩ rfl rfl fun _=>?_;refine gy Fx_ 6 ?_;exact rt1 rfl rfl (P_ (fun r:Bool=> .bool r) e17 (ple rfl))
theorem l24_ImageShort_ok (p:PolicyR) (place:Int) (l:List DeedR) (cut:Int):Fn Tryz.prog gb 5 [.agg (PolicyR.pc p), .int .u8 place, .sl DeedR.pc l, .int .u16 cut] (.bool (Hj_ p place l cut)):=by
  refine fC Tryz.func5 Fx_ Tryz.ntmps5 fun w N H hG=>?_;have p_work_r:-9223372036854775808<=p.work/\p.work<=9223372036854775807:=w.1.1;have p_give_r:-9223372036854775808<=p.give/\p.give<=9223372036854775807:=w.1.2.1;have p_places_l:p.places.length<=140737488355328:=w.1.2.2.1.1;have p_slots_l:p.slots.length<=140737488355328:=w.1.2.2.2.1.1;have p_grants_l:p.grants.length<=140737488355328:=w.1.2.2.2.2.1.1;have place_r:0<=place/\place<=255:=w.2.1;have l_l:l.length<=140737488355328:=w.2.2.1.1;have cut_r:0<=cut/\cut<=65535:=w.2.2.2.1;have e0:=Hj_.eq_1 p place l cut;generalize Hj_ p place l cut=z at e0 ⊢;refine gm Fx_ 9 [0] fun B2=>?_;refine call W2_ rfl rfl fun w3=>?_;refine gx Fx_ 3 ?_;refine cE e0 (fun h4 e6=>?_) (fun h4 e8=>?_)
  · have h5:=Dk_ h4;refine gx Fx_ 7 ?_;subst e6;exact qr1
  have h7:=Ct_ h4;refine gx Fx_ 6 ?_;refine call (l05_May_ok _) rfl rfl fun w9=>?_;refine gx Fx_ 3 ?_;refine callg rfl (fun hc=>(W0_ _)) rfl ⟨(fun hc=>hc),trivial⟩ rfl rfl fun _=>?_;refine gy Fx_ 4 ?_;refine cE e8 (fun h10 e11=>?_) (fun h10 e17=>?_)
  · refine gx Fx_ 7 ?_;subst e11;exact qr1
  have h12:=orl h10;have h13:=Ct_ h12;obtain⟨hpo,hpl0,hpl1,hsl0,hsl1,hgl,hpn⟩:=l05_may2 h13;have h14:=orr h10;have h15:=Ct_ h14;have hb15:=l23_ddl h15
  (try obtain⟨hb15a,hb15b⟩:=hb15)
  refine gx Fx_ 6 ?_;refine cV e17 R0_ (l23_At_ok _ _) rfl fun r hr18 e20 w19=>?_;have hA20:=at_r p place (by omega)
  (try rw[<- hr18] at hA20)
  have hat:0<=r/\r<p.places.length:=by rw[hr18];exact at_r p place (by omega)
  refine gx Fx_ 7 ?_;refine cV e20 R21_ (I4_ _ _ (hp:=by first|assumption|exact Mf_ (by decide +kernel)) (hk:=by first|omega|decide +kernel)) rfl fun r1 hr22 e24 w23=>?_;have hA24:=Kg_ (p:=p) (k:=r) (by first|assumption|exact Mf_ (by decide +kernel)) (by first|omega|(simp;done)|decide +kernel)
  (try rw[<- hr22] at hA24)
  have hA25:=newB p r
  (try rw[<- hr22] at hA25)
  refine gm Fx_ 13 [1] fun B28=>?_;refine loop (ι:=Nat×C_) [3,4,8,9,10,32,33] [0] (fun ⟨k,x⟩=>[(34, .int .i64 (k:Int))]) (fun ⟨k,x⟩=>[(1, .box (B28 0) 61 (C_.pc x))]) (fun ⟨k,x⟩=>k<=l.length/\z=Cd_ p cut r (l.drop k) x/\StOk x/\StB x) (fun ⟨k,x⟩=>l.length-k) ⟨0,r1⟩ ⟨rfl,trivial⟩ ⟨rfl,trivial⟩ ?_ ?_
  · exact⟨Nat.zero_le _,e24,⟨by assumption,by assumption⟩⟩
  rintro⟨k,x⟩ ⟨hp29_1,hp29_2,hp29_3⟩;obtain⟨hi1,hi2⟩:=hp29_3;refine gx Fx_ 6 ?_;refine cn rfl (fun p31=>?_) fun p43=>?_
  · have e32:=B0_ (f:=fun zz=>Cd_ p cut r zz x) hp29_2 (Fz_ (by omega)) (Cd_.eq_2 _ _ _ _ _ _);have hc33:=getG (xs:=l) (k:=k) (by omega);have hy_hc33:=dd_mem (by assumption) hc33;have hx_hc33:=Vz_ (by first|exact w.1|exact w.2.1|exact w.2.2.1|exact w.2.2.2.1) hc33;have hs_hc33:=V0_ (by first|exact w.1|exact w.2.1|exact w.2.2.1|exact w.2.2.2.1) hc33;have hw_hc33:=V1_ (by first|exact w.1|exact w.2.1|exact w.2.2.1|exact w.2.2.2.1) hc33;have hc_hc33:=Vy_ (by first|exact w.1|exact w.2.1|exact w.2.2.1|exact w.2.2.2.1) hc33;refine gx Fx_ 6 ?_;refine q1 (qidx Fx_ k rfl rfl rfl hc33 rfl rfl rfl rfl) rfl fun w34=>?_;refine gm Fx_ 8 [2] fun B36=>?_;refine cV e32 R22_ (E9_ _ _) rfl fun r2 hr37 e39 w38=>?_;have hA39:=T7_ (s:=x) (d:=(gt l k)) (by assumption) (by first|assumption|exact dd1 (by decide +kernel)|exact⟨by first|(simp;done)|omega,by first|(simp;done)|omega,by first|(simp;done)|((try dsimp only);omega),by first|(simp;done)|((try dsimp only);omega)⟩) (by first|assumption|omega|(dsimp only;omega)|decide +kernel)
    (try rw[<- hr37] at hA39)
    have hA40:=doB (s:=x) (d:=(gt l k)) (by assumption) (by assumption) (by assumption) (by assumption) (by assumption) (by assumption)
    (try rw[<- hr37] at hA40)
    refine gmy Fx_ 12 [] fun _=>?_;refine nY ⟨(k+1),r2.1⟩ ⟨rfl,trivial⟩ ⟨rfl,trivial⟩ ?_ ?_
    · (try simp only[]);omega
    exact⟨by (try simp only[]);omega,e39,⟨by assumption,by assumption⟩⟩
  have e44:=B0_ (f:=fun zz=>Cd_ p cut r zz x) hp29_2 (F0_ (by omega)) (Cd_.eq_1 _ _ _ _);refine gx Fx_ 8 ?_;refine cV e44 R39_ (Ev_ _) rfl fun r3 hr45 e47 w46=>?_;have hix:=im_st hi1 hi2
  (try first|rw[<- hr45] at hix|rw[hr45] at hix)
  refine cV e47 R33_ (Kp_ _ (hx:=by exact hix)) rfl fun r4 hr48 e50 w49=>?_;have hip:=im_pos hix
  (try first|rw[<- hr48] at hip|rw[hr48] at hip)
  have hmo:=And.intro (Int.emod_nonneg cut (show ((r4.length:Nat):Int)≠0 by omega)) (Int.emod_lt_of_pos cut (show (0:Int)<((r4.length:Nat):Int) by omega));refine gx Fx_ 4 ?_;refine G4_ (ι:=Nat) [8] [0,1] (fun b51=>[(14, .own 2 b51 0),(15, .int .i64 ((El_ (r4.take ((cut%(r4.length:Int))).toNat) p r).2))]) (fun b51=>[(2, .box b51 59 (K_.pc ((El_ (r4.take ((cut%(r4.length:Int))).toNat) p r).1)))]) (fun b51=>PV.wf (.tup [.agg (K_.pc ((El_ (r4.take ((cut%(r4.length:Int))).toNat) p r).1)), .int .i64 ((El_ (r4.take ((cut%(r4.length:Int))).toNat) p r).2)])) ?_ ?_
  · refine aN [2,3,4,5,6,7,8,9] 16 mixd ?_;refine gXy Fx_ [0,1,2,3,4,5] 10 ?_;refine vq 6 (sshi Fx_ ((cut%(r4.length:Int))).toNat rfl rfl rfl rfl (by omega) (by omega)) rfl (by kernel_rfl) rfl fun w52=>?_;refine gX Fx_ [7,8] 7 ?_;refine veL 9 [13] (by kernel_rfl) ⟨⟨_,rfl,?_⟩,⟨_,rfl,?_⟩,trivial⟩
    · refine ej rfl (eC (Ld_ _ p _ (hp:=by exact hpo) (hk:=by exact hat)) rfl fun w53=>?_);refine gX Fx_ [10,11,12] 3 ?_;refine vE 13 rfl (aL Fx_ 2 fun b54=>?_);refine vE 14 rfl (sA Fx_ ?_);refine gX Fx_ [15] 0 ?_;refine vD ?_;refine nZ (b54) ?_ ⟨rfl,rfl,trivial⟩ ⟨rfl,trivial⟩;exact w53
    refine ej rfl (aL Fx_ 2 fun b55=>?_);refine vE 9 rfl (eC (Ld_ _ p _ (hp:=by exact hpo) (hk:=by exact hat)) rfl fun w56=>?_);refine gX Fx_ [10,11,12] 2 ?_;refine vE 14 rfl (sA Fx_ ?_);refine gX Fx_ [15] 0 ?_;refine vD ?_;refine nZ (b55) ?_ ⟨rfl,rfl,trivial⟩ ⟨rfl,trivial⟩;exact w56
  generalize hr57:El_ (r4.take ((cut%(r4.length:Int))).toNat) p r=r5;rintro b51 w58;have e59:=e50.trans (Co_ hr57.symm);refine gx Fx_ 8 ?_;refine callg rfl (fun hc=>(Vg_ _ (⟨(⟨[],[]⟩:BookR),(⟨0,0,[],(⟨(⟨0,[]⟩:RiseR),(⟨0,[]⟩:RiseR),(⟨0,[]⟩:RiseR),(⟨0,[]⟩:RiseR),(⟨0,[]⟩:RiseR),(⟨0,[]⟩:RiseR),(⟨0,[]⟩:RiseR),(⟨0,[]⟩:RiseR),(⟨0,[]⟩:RiseR),(⟨0,[]⟩:RiseR),(⟨0,[]⟩:RiseR),(⟨0,[]⟩:RiseR),(⟨0,[]⟩:RiseR),(⟨0,[]⟩:RiseR),(⟨0,[]⟩:RiseR),(⟨0,[]⟩:RiseR)⟩:A16_RiseR)⟩:E_),(⟨0,[]⟩:A4_),(⟨0,0,0,0,0,0,0,0,0,0,0,0,0,0,0,0⟩:A16_u64),(⟨(⟨0,0⟩:O_),(⟨0,0⟩:O_),(⟨0,0⟩:O_),(⟨0,0⟩:O_),(⟨0,0⟩:O_),(⟨0,0⟩:O_),(⟨0,0⟩:O_),(⟨0,0⟩:O_)⟩:A8_SpentR)⟩:K_))) rfl ⟨(fun hc=>hc),(fun hc=>hc),trivial⟩ rfl rfl fun _=>?_;refine gy Fx_ 5 ?_;subst e59;exact qr1
end Go.SW.V
namespace Go.SW
def errD:DataW Unit->Bs
  | .iface _ (.ptr (.agg [.lit (.string b)]))=>b
  |_=>[]
def layE (pt low:Nat):Nat->List (Nat×DataW Unit)->Array Obj->Array Obj
  |_,[],h=>h
  | k,x::l,h=>layE pt low (k+1) l (h.modify x.1 fun
    | .cells _ t frozen=> .cells #[.iface pt (.pointer (some ⟨low+k,0,none⟩))] t frozen
    |o=>o)
noncomputable def laidWE (P:Program) (os:Os) (pt st:Nat) (l e:List (Nat×DataW Unit)):World:=
  let low:=(World.holding P os ⟨#[],#[],[]⟩).heap.size
  let w0:=World.holding P os ⟨(e.map fun x=>Obj.cells #[.string ⟨(errD x.2).toArray⟩] st).toArray,#[],[]⟩
  {w0 with heap:=layE pt low 0 e (List.foldl (fun h x=>h.modify x.1 (layD x.2)) w0.heap l)}
end Go.SW
namespace Go.SW.V
open Go.SW
theorem awake24:Od_=true:=by decide +kernel
def zParts:K_:=(⟨(⟨[],[]⟩:BookR),(⟨0,0,[],(⟨(⟨0,[]⟩:RiseR),(⟨0,[]⟩:RiseR),(⟨0,[]⟩:RiseR),(⟨0,[]⟩:RiseR),(⟨0,[]⟩:RiseR),(⟨0,[]⟩:RiseR),(⟨0,[]⟩:RiseR),(⟨0,[]⟩:RiseR),(⟨0,[]⟩:RiseR),(⟨0,[]⟩:RiseR),(⟨0,[]⟩:RiseR),(⟨0,[]⟩:RiseR),(⟨0,[]⟩:RiseR),(⟨0,[]⟩:RiseR),(⟨0,[]⟩:RiseR),(⟨0,[]⟩:RiseR)⟩:A16_RiseR)⟩:E_),(⟨0,[]⟩:A4_),(⟨0,0,0,0,0,0,0,0,0,0,0,0,0,0,0,0⟩:A16_u64),(⟨(⟨0,0⟩:O_),(⟨0,0⟩:O_),(⟨0,0⟩:O_),(⟨0,0⟩:O_),(⟨0,0⟩:O_),(⟨0,0⟩:O_),(⟨0,0⟩:O_),(⟨0,0⟩:O_)⟩:A8_SpentR)⟩:K_)
def RdA (text:Bs) (r:K_×Int):Prop:=r=(zParts,4)\/(r.2=0/\ImOk r.1/\Bb_ r.1=text)
theorem ird3 {text:Bs} {p:PolicyR} {k:Int} (hp:PoOk p) (hk:0<=k/\k<p.places.length) {deeds:List DeedR} {q:E_×Int}:∀ (f:Nat) (e:Int) (v:Nat) (i:In) (x:K_),8-v<f->DdsG i deeds->PkOk x->RdA text (F6_ text p k deeds q f e v i x)
  |0,_,_,_,_,h,_,_=>by omega
  |f+1,e,v,i,x,h,hd,hx=>by
    rw[F6_]
    refine bt (P:=RdA text) (fun c=>?_) fun _=>bt (P:=RdA text) (fun _=> .inl rfl) fun c=>?_
    · simp only[decide_eq_true_eq] at c
      unfold lt
      have h2:=I5_ (I5_ hd (n:=8) rfl) (n:=1) rfl
      exact bt (P:=RdA text) (fun _=>ird3 hp hk f _ _ _ _ (by omega) h2 hx) fun _=>ird3 hp hk f _ _ _ _ (by omega) h2 hx
    · simp only[Bool.or_eq_false_iff,Bool.not_eq_false',decide_eq_true_eq] at c
      have hb:=book_ok (⟨(),deeds⟩:RdR) (A8_ p k) (Aq_ q.1) (Kg_ hp hk) (newB p k) (hd (inEnd_e c.1))
      unfold lt
      refine bt (P:=RdA text) (fun _=> .inl rfl) fun c2=> .inr ⟨rfl,imOk_of hb hx,?_⟩
      simp only[Bool.or_eq_false_iff,Bool.not_eq_false',decide_eq_true_eq] at c2
      exact c2.2
theorem ird2 {text:Bs} {p:PolicyR} {k:Int} (hp:PoOk p) (hk:0<=k/\k<p.places.length) {deeds:List DeedR} {q:E_×Int}:∀ (f v:Nat) (i:In) (x:K_),16-v<f->DdsG i deeds->PkOk x->RdA text (F5_ text p k deeds q f v i x)
  |0,_,_,_,h,_,_=>by omega
  |f+1,v,i,x,h,hd,hx=>by
    rw[F5_]
    refine bt (P:=RdA text) (fun c=>?_) fun _=>ird3 hp hk _ _ _ _ _ (by omega) hd hx
    simp only[decide_eq_true_eq] at c
    exact ird2 hp hk f _ _ _ (by omega) (I5_ hd (n:=8) rfl) hx
theorem ird1b {text:Bs} {p:PolicyR} {k:Int} (hp:PoOk p) (hk:0<=k/\k<p.places.length) {i:In} {deeds:List DeedR} (hd:DdsG i deeds) {r11 r12 r14:_} {r13:E_×Int} (e1:J_ i 4=r11) (e2:Em_ r11.2 (IntKind.wrap .i64 r11.1)=r12) (e3:F9_ r12.1 ((gt p.places k.toNat).bytes)=r13) (e4:Cq_ r12.2=r14) (x:K_) (hx1:x.stock=r13.1) (hx2:x.notes=r14.1) (f:Nat) (hf:16<f):RdA text (F5_ text p k deeds r13 f 0 r14.2 x):=by
  have g:=kof_ok r12.1 ((gt p.places k.toNat).bytes) (Pf_ hp hk)
  rw[e3,<- hx1] at g
  have g2:=nread_ok r12.2
  rw[e4,<- hx2] at g2
  exact ird2 hp hk _ _ _ _ hf (Vx_ (dds_raw (I5_ hd e1) e2) e4) ⟨g.1,g.2,g2.1,g2.2⟩
theorem ird1 {text:Bs} {p:PolicyR} {k:Int} (hp:PoOk p) (hk:0<=k/\k<p.places.length) (f:Nat):∀ (n:Int) (i:In) (deeds:List DeedR),n.toNat<f->0<=n->n<=255->DdsG i deeds->RdA text (G3_ text p k f n i deeds):=by
  induction f with
  |zero=>intro n i deeds h _ _ _;omega
  |succ f ih=>
    intro n i deeds h h0 h5 hd
    rw[G3_.eq_2]
    refine bt (P:=RdA text) (fun c=>?_) fun _=>?_
    · simp only[Bool.and_eq_true,decide_eq_true_eq] at c
      have a1:(IntKind.wrap .u64 (n-1)).toNat<f:=by rw[Cp_ (by omega) (by omega)];omega
      have a2:0<=IntKind.wrap .u64 (n-1):=by rw[Cp_ (by omega) (by omega)];omega
      have a3:IntKind.wrap .u64 (n-1)<=255:=by rw[Cp_ (by omega) (by omega)];omega
      generalize IntKind.wrap .u64 (n-1)=m at a1 a2 a3 ⊢
      rw[lt]
      generalize e5:I_ i 16=r5
      rw[lt]
      generalize e6:I_ r5.2 16=r6
      rw[lt]
      generalize e7:J_ r6.2 1=r7
      rw[lt]
      generalize e8:I_ r7.2 64=r8
      rw[lt]
      generalize e9:Aw_ r8.2=r9
      rw[lt]
      generalize e10:J_ r9.2 1=r10
      exact ih _ _ _ a1 a2 a3 (Z4_ hd e5 e6 e7 e8 e9 e10)
    · rw[lt]
      generalize e1:J_ i 4=r11
      rw[lt]
      generalize e2:Em_ r11.2 (IntKind.wrap .i64 r11.1)=r12
      rw[lt]
      generalize e3:F9_ r12.1 ((gt p.places k.toNat).bytes)=r13
      rw[lt]
      generalize e4:Cq_ r12.2=r14
      exact ird1b hp hk hd e1 e2 e3 e4 _ rfl rfl _ (by decide)
theorem ird0 {text:Bs} {p:PolicyR} {k:Int} (hp:PoOk p) (hk:0<=k/\k<p.places.length) (f:Nat):∀ (n:Int) (i:In) (deeds:List DeedR),n.toNat<f->0<=n->n<=255->DdsG i deeds->RdA text (G2_ text p k f n i deeds):=by
  induction f with
  |zero=>intro n i deeds h _ _ _;omega
  |succ f ih=>
    intro n i deeds h h0 h5 hd
    rw[G2_]
    refine bt (P:=RdA text) (fun c=>?_) fun _=>?_
    · simp only[Bool.and_eq_true,decide_eq_true_eq] at c
      have a1:(IntKind.wrap .u64 (n-1)).toNat<f:=by rw[Cp_ (by omega) (by omega)];omega
      have a2:0<=IntKind.wrap .u64 (n-1):=by rw[Cp_ (by omega) (by omega)];omega
      have a3:IntKind.wrap .u64 (n-1)<=255:=by rw[Cp_ (by omega) (by omega)];omega
      generalize IntKind.wrap .u64 (n-1)=m at a1 a2 a3 ⊢
      unfold lt
      dsimp only
      generalize e1:I_ i 16=r1
      generalize e2:J_ r1.2 1=r2
      generalize e3:I_ r2.2 16=r3
      have h2:=Z5_ hd e1 e2 e3
      exact ih _ _ _ a1 a2 a3 h2
    · unfold lt
      dsimp only
      have h1:=Ah_ i 1
      have h2:=I5_ hd (n:=1) (r:=J_ i 1) rfl
      generalize J_ i 1=r at h1 h2 ⊢
      exact ird1 hp hk _ _ _ _ (by omega) h1.1 (h1.2.2.2 (by decide)) h2
theorem iread_or (text:Bs) {p:PolicyR} {k:Int} (hp:PoOk p) (hk:0<=k/\k<p.places.length):RdA text (El_ text p k):=by
  unfold El_ lt
  have h1:=Ah_ (⟨text,0⟩:In) 1
  exact ird0 hp hk _ _ _ _ (by omega) h1.1 (h1.2.2.2 (by decide)) (dds_nil _)
theorem iread_cut {x:K_} {p:PolicyR} {k:Int} (hp:PoOk p) (hk:0<=k/\k<p.places.length) (hx:ImOk x) (c:Int):El_ ((Bb_ x).take (c%((Bb_ x).length:Int)).toNat) p k=(zParts,4):=by
  have hl:=im_pos hx
  have h0:=Int.emod_nonneg c (show ((Bb_ x).length:Int)≠0 by omega)
  have h1:=Int.emod_lt_of_pos c (show (0:Int)<((Bb_ x).length:Int) by omega)
  rcases iread_or ((Bb_ x).take (c%((Bb_ x).length:Int)).toNat) hp hk with h|⟨_,h3,h4⟩
  · exact h
  · have h5:=List.take_append_drop (c%((Bb_ x).length:Int)).toNat (Bb_ x)
    rw[<- h4] at h5
    have h6:=im_cut hx h3 h5.symm
    have h7:=congrArg List.length h6
    rw[List.length_drop,List.length_nil] at h7
    omega
theorem same_zero:M5_ zParts zParts=true:=by decide +kernel
theorem Xy_ {p:PolicyR} {a:Int} {c:Int} (hp:PoOk p) (ha:0<=a/\a<p.places.length):∀ (l:List DeedR) (x:C_),(∀ d∈l,DdOk d/\(0<=d.code/\d.code<=255)/\0<=d.mail.hops/\0<=d.shop.sort/\(∀ p∈d.bind.want,p.wf))->StOk x->StB x->Cd_ p c a l x=true
  |[],x,_,hs,hb=>by
    unfold Cd_ lt
    dsimp only
    rw[iread_cut hp ha (im_st hs hb) c]
    rw[Bool.and_eq_true];exact⟨rfl,same_zero⟩
  |d::l,x,hd,hs,hb=>by
    unfold Cd_ lt
    obtain⟨d1,d3,d4,d5,d6⟩:=hd d (by simp)
    exact Xy_ hp ha l _ (fun q hq=>hd q (by simp[hq])) (T7_ hs d1 d4) (doB d3 hs d4 d5 d6 hb)
theorem law24_short (p:PolicyR) (place:Int) (l:List DeedR) (cut:Int) (hw:(PV.sl DeedR.pc l).wf):Hj_ p place l cut=true:=by
  unfold Hj_
  rw[awake24,Bool.not_true,cond_false]
  cases hm:Kq_ p with
  |false=>rfl
  |true=>
    cases hl:Ju_ l with
    |false=>rfl
    |true=>
      simp only[Bool.not_true,Bool.false_or,cond_false]
      unfold lt
      obtain⟨h1,h2,_,_,_,_,h7⟩:=l05_may2 hm
      have hat:=at_r p place (by omega)
      have hdd:=l23_ddl hl
      refine Xy_ h1 hat l _ (fun d hd=>?_) (Kg_ h1 hat) (newB _ _)
      obtain⟨k,hk⟩:=List.getElem?_of_mem hd
      exact⟨hdd.1.1 d hd,Vy_ hw hk,Vz_ hw hk,V0_ hw hk,V1_ hw hk⟩
end Go.SW.V
