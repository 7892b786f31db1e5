/-
  A part of the proof of PurgeOrder: The walks of this seat, printed by program: stairwelllaw30.Light.
-/
import Derived.Test.YtlemlalknchmcaaGreatDoorProg
import Derived.Test.YtlemlalknchmcaaGreatDoorPurgeOrderP2
import Derived.KernelRfl
import Derived.Test.YtlemlalknchmcaaGreatDoorPurgeOrderP6
import Derived.Test.YtlemlalknchmcaaGreatDoorPurgeOrderP3
import Derived.Test.YtlemlalknchmcaaGreatDoorPurgeOrderP13
set_option linter.unusedVariables false
set_option linter.unusedSimpArgs false
set_option maxRecDepth 100000
set_option maxHeartbeats 4000000
open Go.Proofs.Tryz
namespace Go.SW.V
open Go.SW Go.Proofs
theorem Jy_ (l:List Y_):Fn prog gb 8 [.sl Y_.pc l] (.bool (B7_ l)):=by
 refine kG func8 ntmps8 λw N H hG=>?_;have l_l:l.length<=140737488355328:=w.1.1;have e0:=B7_.eq_1 l;generalize B7_ l=z at e0 ⊢;refine kA 14 ?_;refine loop (ι:=Nat) [0,5,6] [] (λk=>[(7, .int .i64 (k:Int))]) (λk=>[]) (λk=>k<=l.length/\z=Ae_ l (l.drop k)) (λk=>l.length-k) 0 ⟨Y,Z⟩ Z ?_ ?_;exact⟨Nat.zero_le _,e0⟩;rintro k ⟨hp1_1,hp1_2⟩;refine kN 6 (λp0=>?_) λp1=>?_;have e1:=Cg_ (f:=λzz=>Ae_ l zz) hp1_2 (Gq_ xI) (Ae_.eq_2 _ _ _);have hc0:=getG (xs:=l) (k:=k) xI;refine jA 6 Y<|kI k hc0 λw0=>?_;refine kB 13 [0] λB0=>?_;refine cD e1 (λp2 e2=>?_) (λp3 e3=>?_);refine kA 11 ?_;subst e2;exact qr1;refine kC 7 ?_;refine next (k+1) Y Y ⟨Y,Z⟩ Z ?_ ?_;exact zA;exact⟨by (try simp only[]);omega,e3⟩;have e1:=Cg_ (f:=λzz=>Ae_ l zz) hp1_2 (Gr_ xI) (Ae_.eq_1 _);refine kA 14 ?_;subst e1;exact qr1
theorem Hb_ (p:A_) (from_:Int) (to_:Int):Fn prog gb 31 [.agg (A_.pc p), .int .i64 from_, .int .i64 to_] (.bool (P_ p from_ to_)):=by
 refine kG func31 ntmps31 λw N H hG=>?_;have p_places_l:p.places.length<=140737488355328:=w.1.2.2.1.1;have p_slots_l:p.slots.length<=140737488355328:=w.1.2.2.2.1.1;have p_grants_l:p.grants.length<=140737488355328:=w.1.2.2.2.2.1.1;have from__r:-9223372036854775808<=from_/\from_<=9223372036854775807:=w.2.1;have to__r:-9223372036854775808<=to_/\to_<=9223372036854775807:=w.2.2.1;have e0:=P_.eq_1 p from_ to_;refine kB 15 [0] λB0=>?_;refine callg Y (λhc=>(Dt_ _ _ _)) Y ⟨(λhc=>hc),(λhc=>hc),(λhc=>hc),trivial⟩ Y Y λ_=>kC 5 ?_;refine callg Y (λhc=>(Du_ _ _ _)) Y ⟨(λhc=>hc),(λhc=>hc),(λhc=>hc),trivial⟩ Y Y λ_=>kC 6 ?_;exact zE
theorem A9_ (p:A_) (from_:Int) (to_:Int) (hl:p.places.length<=16:=by assumption):Fn prog gb 17 [.agg (A_.pc p), .int .i64 from_, .int .i64 to_] (.bool (By_ (P_ p) p.places.length from_ to_)):=by
 refine kG func17 ntmps17 λw N H hG=>?_;have p_places_l:p.places.length<=140737488355328:=w.1.2.2.1.1;have p_slots_l:p.slots.length<=140737488355328:=w.1.2.2.2.1.1;have p_grants_l:p.grants.length<=140737488355328:=w.1.2.2.2.2.1.1;have from__r:-9223372036854775808<=from_/\from_<=9223372036854775807:=w.2.1;have to__r:-9223372036854775808<=to_/\to_<=9223372036854775807:=w.2.2.1;refine kD 36 [0] λB0=>?_;refine cnd Y (λh0=>?_) (λh0=>?_)
 . refine kR 8 ?_
   first|(refine CI.out ?_;assumption)|(refine CI.fin hco (.inr ?_) ?_<;>first|omega|assumption)|(refine CI.fin (hci.push hii ?_ ?_ ?_) (.inl ?_) ?_<;>first|assumption|omega)
 have h1:=orl h0;have h2:=orl h1;have h3:=orl h2;have p0:=df h3;have h4:=orr h2;have p1:=df h4;have h5:=orr h1;have p2:=df h5;have h6:=orr h0;have p3:=df h6;refine jA 5 Y<|ef (bsl 1 i64c [from_] Ch_ Y Y Y Y Y (λ_=>rfl) Y xL xL Y λu0=>?_);refine kA 13 ?_;refine loop (ι:=Nat×(List Int)×Nat×Value) [2,3,6,7] [0] (λ⟨f,reached,i,u_reached⟩=>[(8, .osl 1),(9, .int .i64 (i:Int))]) (λ⟨f,reached,i,u_reached⟩=>[(1, .arr u_reached 1 3 i64c reached)]) (λ⟨f,reached,i,u_reached⟩=>(p.places.length+1-i)<f/\True/\CI (P_ p) p.places.length from_ reached i 0/\i<=reached.length) (λ⟨f,reached,i,u_reached⟩=>f) ⟨((p.places.length+1-0)+1),[from_],0,(u0)⟩ ⟨Y,Y,Z⟩ ⟨Y,Z⟩ ?_ ?_;exact⟨Nat.lt_succ_self _,trivial,⟨CI.start (by simp_all) (by simp_all),by simp⟩⟩;rintro⟨f,reached,i,u_reached⟩ ⟨hp15_1,hp15_2,hp15_3⟩;obtain⟨hco,hil⟩:=hp15_3;have hlo:=hco.len;obtain⟨f1,rfl⟩:∃ q,f=q+1:=⟨f-1,by omega⟩;refine kN 9 (λp4=>?_) λp5=>?_;refine kA 11 ?_;refine loop (ι:=Nat×(List Int)×Nat×Value) [2,3,6,7,9,38] [0] (λ⟨f2,reached1,v,u_reached1⟩=>[(8, .osl 1),(39, .int .i64 (v:Int))]) (λ⟨f2,reached1,v,u_reached1⟩=>[(1, .arr u_reached1 1 3 i64c reached1)]) (λ⟨f2,reached1,v,u_reached1⟩=>p.places.length-v<f2/\True/\CI (P_ p) p.places.length from_ reached1 i v/\i<reached1.length) (λ⟨f2,reached1,v,u_reached1⟩=>f2) ⟨(p.places.length-0+1),reached,0,(u_reached)⟩ ⟨Y,Y,Z⟩ ⟨Y,Z⟩ ?_ ?_;exact⟨Nat.lt_succ_self _,hp15_2,⟨hco,by omega⟩⟩;rintro⟨f2,reached1,v,u_reached1⟩ ⟨hp18_1,hp18_2,hp18_3⟩;obtain⟨hci,hii⟩:=hp18_3;have hln:=hci.len;obtain⟨f3,rfl⟩:∃ q,f2=q+1:=⟨f2-1,by omega⟩;refine kN 6 (λp6=>?_) λp7=>?_;refine jA 17 Y<|ef (calll 1 Y (B6_ _ _) Y Y Y λw0=>?_);refine kM 3 (λh7=>?_) (λh7=>?_);refine kA 2 ?_;refine cndT Y h7 ?_;refine kC 9 ?_;refine next ⟨f3,reached1,(v+1),(u_reached1)⟩ Y Y ⟨Y,Y,Z⟩ ⟨Y,Z⟩ ?_ ?_;exact zA;exact⟨by (try simp only[]);omega,hp18_2,wI⟩;refine aN [2,3,4,5,6,7] 9 mixd<|kE [0,1,2] 6 ?_;refine vq 3 (eidx i Ch_ Y Y Y Y Y Y Y Y xI) Y xJ Y λw1=>kE [5] 4 ?_;have hc0:=getG (xs:=reached1) (k:=i) xI;refine vE 4 Y (elod1 (i:=1) (.int .i64 (gt reached1 i)) i 0 Ch_ Y Y Y Y hc0 Y Y Y Y λw2=>?_);refine vC 6 Y (Hb_ _ _ _) Y λw3=>kE [7,8] 0 ?_;refine vD<|kM 1 (λh8=>?_) (λh8=>?_);have h9:=not_t h8;refine kC 9 ?_;refine next ⟨f3,reached1,(v+1),(u_reached1)⟩ Y Y ⟨Y,Y,Z⟩ ⟨Y,Z⟩ ?_ ?_;exact zA;exact⟨by (try simp only[]);omega,hp18_2,wI⟩;have h9:=Nh_ h8;refine jA 7 Y<|ef (bsl 2 i64c [(v:Int)] Ch_ Y Y Y Y Y (λ_=>rfl) Y xL xL Y λu1=>?_);refine ef (app Ch_ [(v:Int)] Y Y Y Y Y Y Y Y Y (src_o Y Y) wB Y λu2=>?_);refine kN 11 (λp8=>?_) λp9=>?_
 . refine jA 14 Y<|ef (calll 1 Y (B6_ _ _) Y Y Y λw4=>?_);refine kR 5 ?_
   first|(refine CI.out ?_;assumption)|(refine CI.fin hco (.inr ?_) ?_<;>first|omega|assumption)|(refine CI.fin (hci.push hii ?_ ?_ ?_) (.inl ?_) ?_<;>first|assumption|omega)
 refine kC 7 ?_;refine next ⟨f3,(reached1++[(v:Int)]),(v+1),(u2)⟩ Y Y ⟨Y,Y,Z⟩ ⟨Y,Z⟩ ?_ ?_;exact zA;exact⟨by (try simp only[]);omega,hp18_2,wI⟩;refine kC 11 ?_;refine next ⟨f1,reached1,(i+1),(u_reached1)⟩ Y Y ⟨Y,Y,Z⟩ ⟨Y,Z⟩ ?_ ?_;exact zA;exact⟨by (try simp only[]);omega,hp18_2,⟨CI.next hci xI,by omega⟩⟩;refine jA 9 Y<|ef (calll 1 Y (B6_ _ _) Y Y Y λw0=>?_);refine kR 5 ?_
 first|(refine CI.out ?_;assumption)|(refine CI.fin hco (.inr ?_) ?_<;>first|omega|assumption)|(refine CI.fin (hci.push hii ?_ ?_ ?_) (.inl ?_) ?_<;>first|assumption|omega)
theorem Ep_ (p:A_) (place:Int) (l:List Y_) (hl:p.places.length<=16:=by assumption) (hl2:l.length<=80:=by first|assumption|omega):Fn prog gb 14 [.agg (A_.pc p), .int .i64 place, .sl Y_.pc l] (.sl Y_.pc (X_ p place l)):=by
 refine kG func14 ntmps14 λw N H hG=>?_;have p_places_l:p.places.length<=140737488355328:=w.1.2.2.1.1;have p_slots_l:p.slots.length<=140737488355328:=w.1.2.2.2.1.1;have p_grants_l:p.grants.length<=140737488355328:=w.1.2.2.2.2.1.1;have place_r:-9223372036854775808<=place/\place<=9223372036854775807:=w.2.1;have l_l:l.length<=140737488355328:=w.2.2.1.1;have e0:=X_.eq_1 p place l;refine kB 20 [0] λB0=>?_;refine sw_own (t:=7) (k:=6) (e:=30) 1 Y_.pc Y Y ?_;refine loop (ι:=Nat×(List Y_)×Value) [1,3,6,10,11] [0] (λ⟨k,out,u_out⟩=>[(12, .int .i64 (k:Int)),(7, .osl 1)]) (λ⟨k,out,u_out⟩=>[(1, .arr u_out 6 30 Y_.pc out)]) (λ⟨k,out,u_out⟩=>k<=l.length/\X_ p place l=R_ p place (l.drop k) out/\out.length<=k) (λ⟨k,out,u_out⟩=>l.length-k) ⟨0,[],(.slice none 0 0)⟩ ⟨Y,Y,Z⟩ ⟨Y,Z⟩ ?_ ?_;exact⟨Nat.zero_le _,e0,by simp⟩;rintro⟨k,out,u_out⟩ ⟨hp3_1,hp3_2,hp3_3⟩;have hol:out.length<=k:=hp3_3;refine kN 6 (λp0=>?_) λp1=>?_;have e1:=Cg_ (f:=λzz=>R_ p place zz out) hp3_2 (Gq_ xI) (R_.eq_2 _ _ _ _ _);have hc0:=getG (xs:=l) (k:=k) xI;refine jA 6 Y<|kI k hc0 λw0=>?_;refine kD 15 [2] λB1=>?_;refine callg Y (λhc=>(A9_ _ _ _)) Y ⟨(λhc=>hc),(λhc=>hc),(λhc=>hc),trivial⟩ Y Y λ_=>kC 3 ?_;refine cE e1 (λh0 e2=>?_) (λh0 e3=>?_);refine jA 3 Y<|ef (bsl 3 Y_.pc [(gt l k)] Ch_ Y Y Y Y Y (λ_=>rfl) Y xL xL Y λu0=>?_);refine ef (app Ch_ [(gt l k)] Y Y Y Y Y Y Y Y Y (src_o Y Y) wB Y λu1=>?_);refine kC 8 ?_;refine next ⟨(k+1),(out++[(gt l k)]),(u1)⟩ Y Y ⟨Y,Y,Z⟩ ⟨Y,Z⟩ ?_ ?_;exact zA;exact zF;have h1:=orl h0;have p2:=df h1;have h2:=orr h0;refine kC 7 ?_;refine next ⟨(k+1),out,(u_out)⟩ Y Y ⟨Y,Y,Z⟩ ⟨Y,Z⟩ ?_ ?_;exact zA;exact⟨by (try simp only[]);omega,e3,wP⟩;have e1:=Cg_ (f:=λzz=>R_ p place zz out) hp3_2 (Gr_ xI) (R_.eq_1 _ _ _);refine kA 11 ?_;refine givec 1 Y<|kA 1 ?_;exact rt1 Y Y (Dn_ (λr:(List Y_)=> .sl Y_.pc r) e1 (ple Y))
abbrev R1_:(List Y_)->PV:=λr=> .sl Y_.pc r
theorem Pa_:Fn prog gb 11 [] (.bool true):=Go.CE.f32a
theorem l32_PurgeOrder_ok (p:A_) (a:Int) (b:Int) (c:Int) (l:List Y_):Fn prog gb 5 [.agg (A_.pc p), .int .u8 a, .int .u8 b, .int .u8 c, .sl Y_.pc l] (.bool (A8_ p a b c l)):=by
 refine kG func5 ntmps5 λw N H hG=>?_;have p_places_l:p.places.length<=140737488355328:=w.1.2.2.1.1;have p_slots_l:p.slots.length<=140737488355328:=w.1.2.2.2.1.1;have p_grants_l:p.grants.length<=140737488355328:=w.1.2.2.2.2.1.1;have a_r:0<=a/\a<=255:=w.2.1;have b_r:0<=b/\b<=255:=w.2.2.1;have c_r:0<=c/\c<=255:=w.2.2.2.1;have l_l:l.length<=140737488355328:=w.2.2.2.2.1.1;have e0:=A8_.eq_1 p a b c l;generalize A8_ p a b c l=z at e0 ⊢;refine kB 9 [0] λB0=>?_;refine call Pa_ Y Y λw0=>kA 3 ?_;refine cndF Y Y ?_;refine kL 6 (M8_ _) Y Y Y λw1=>kA 3 ?_;refine callg Y (λhc=>(Jy_ _)) Y ⟨(λhc=>hc),trivial⟩ Y Y λ_=>kC 4 ?_;refine cE e0 (λh0 e1=>?_) (λh0 e2=>?_);exact zT;have h1:=orl h0;have h2:=Nh_ h1;obtain⟨hpo,hpl0,hpl1,hsl0,hsl1,hgl⟩:=O9_ h2;have h3:=orr h0;have h4:=Nh_ h3;have hb10:=light_l h4
 (try obtain⟨hb10a,hb10b⟩:=hb10)
 refine kA 11 ?_;refine aN [1,2,3,4,5,6] 15 mixd<|kF [0,1,2,3,4,5,6,7,8,9,10,11,12,13,14] 0 ?_;refine vD<|kL 7 (A9_ _ _ _) Y Y Y λw2=>kA 5 ?_;refine callg Y (λhc=>(A9_ _ _ _)) Y ⟨(λhc=>hc),(λhc=>hc),(λhc=>hc),trivial⟩ Y Y λ_=>kC 4 ?_;refine callg Y (λhc=>(A9_ _ _ _)) Y ⟨(λhc=>hc),(λhc=>hc),(λhc=>hc),trivial⟩ Y Y λ_=>kC 5 ?_;refine callg Y (λhc=>(A9_ _ _ _)) Y ⟨(λhc=>hc),(λhc=>hc),(λhc=>hc),trivial⟩ Y Y λ_=>kC 5 ?_;refine cE e2 (λh5 e3=>?_) (λh5 e4=>?_);refine kA 7 ?_;subst e3;exact qr1;have h6:=orl h5;have h7:=Nh_ h6;have h8:=orr h5;refine jA 7 Y<|cV e4 R1_ (Ep_ _ _ _) Y λr hr0 e5 w3=>?_;have hA0:=Hc_ p (a%(p.places.length:Int)) l
 (try rw[<- hr0] at hA0)
 refine jA 8 Y<|cV e5 R1_ (Ep_ _ _ _) Y λr0 hr1 e6 w4=>?_;have hA1:=Hc_ p (a%(p.places.length:Int)) r
 (try rw[<- hr1] at hA1)
 refine kC 15 ?_;subst e6;exact qr1
end Go.SW.V
namespace Go.SW
open Go.ChangeShapes Go.WideShapes Go.ChangeAt Go.RowKit
variable {P:Program}
theorem Ik_ {Ht:Type} {enc:TypeId×Value->Ht} {w:World} {base:Nat} {sp:Nat->Bool} {held:Bool} {fuel:Nat} {t e:TypeId} {n:Nat} {cs:List Value} {zs:List Bs} {p:List MemPlace}
   (ht:P.underlying t=some (.array n e)) (he:P.underlying e=some .string) (hce:P.cellsOf e=1) (hct:P.cellsOf t=n)
   (h:DataW.trod enc P w base sp held fuel t cs=some (.agg (zs.map λz=> .lit (.string z)),p)):cs=zs.map str:=by
 cases fuel with
 |zero=>simp[DataW.trod] at h
 |succ fuel=>
   simp only[DataW.trod,ht,hce,hct,Nat.mul_one] at h
   split at h
   . rename_i hl
     obtain⟨xs,hm,hx⟩:=Option.map_eq_some_iff.1 h
     have hxs:xs.map (·.1)=zs.map λz=>(DataW.lit (.string z):DataW Ht):=by
       have :=congrArg Prod.fst hx
       exact yZ
     have hxl:xs.length=n:=by simpa using Lib.mapM_length hm
     have hzl:zs.length=n:=by
       have :=congrArg List.length hxs
       simp at this
       omega
     apply List.ext_getElem?
     intro i
     by_cases hi:i<n
     . obtain⟨b,hb,hf⟩:=Lib.mapM_at hm i i (by simp[hi])
       obtain⟨z,hc,rfl,_⟩:=DataW.trod_string he hf
       have h1:cs[i]? = some (.string z):=by
         have :=congrArg (·[0]?) hc
         simpa [List.getElem?_take,List.getElem?_drop] using this
       have h2:(xs.map (·.1))[i]? = some (DataW.lit (.string z.data.toList):DataW Ht):=by simp[hb]
       rw[hxs] at h2
       simp only[List.getElem?_map,Option.map_eq_some_iff,DataW.lit.injEq,Lit.string.injEq] at h2
       obtain⟨z',hz',rfl⟩:=h2
       rw[h1,List.getElem?_map,hz',Mw_]
       rfl
     . rw[List.getElem?_eq_none xI,List.getElem?_eq_none xN]
   . cases h
theorem Rs_ {w:World} {g n:Nat} {name:String} {zs:List Bs} {rest:List (String×DataW Unit)} {t e:TypeId} (hg:P.globalNamed name=some g) (hty:(P.globals[g]?).map (·.type)=some t) (ht:P.underlying t=some (.array n e)) (he:P.underlying e=some .string) (hce:P.cellsOf e=1) (hct:P.cellsOf t=n)
   (h:laidMet P ((name, .agg (zs.map λz=> .lit (.string z)))::rest) w):GStrs (hp w) g zs:=by
 obtain⟨ps,⟨g',t',cs,fuel,p,q,hg',ht',hvar,hd,_,_⟩,_⟩:=h;obtain rfl :=Option.some.inj (hg.symm.trans hg');obtain rfl :=Option.some.inj (hty.symm.trans ht');have hc:=Ik_ ht he hce hct hd;obtain rfl :cs=(zs.map str).toArray:=by rw[<- hc]
 unfold World.var? at hvar;rw[hg] at hvar;simp only[Option.bind_some] at hvar
 split at hvar
 . rename_i cs T fr hh
   cases hvar
   exact⟨T,fr,hh⟩
 . cases hvar
end Go.SW
namespace Go.SW
def errD:DataW Unit->Bs
 | .iface _ (.ptr (.agg [.lit (.string b)]))=>b
 |_=>[]
def layE (pt low:Nat):Nat->List (Nat×DataW Unit)->Array Obj->Array Obj
 |_,[],h=>h
 | k,x::l,h=>layE pt low (k+1) l (h.modify x.1 λ
   | .cells _ t frozen=> .cells #[.iface pt (.pointer (some ⟨low+k,0,none⟩))] t frozen
   |o=>o)
noncomputable def laidWE (P:Program) (os:Os) (pt st:Nat) (l e:List (Nat×DataW Unit)):World:=
 let low:=(World.holding P os ⟨#[],#[],[]⟩).heap.size
 let w0:=World.holding P os ⟨(e.map λx=>Obj.cells #[.string ⟨(errD x.2).toArray⟩] st).toArray,#[],[]⟩
 {w0 with heap:=layE pt low 0 e (List.foldl (λh x=>h.modify x.1 (layD x.2)) w0.heap l)}
end Go.SW
namespace Go.SW.V
open Go.SW
theorem law32_order (p:A_) (a b c:Int) (l:List Y_):A8_ p a b c l=true:=by
 simp only[A8_,lt]
 cases hm:(Eu_ p) with
 |false=>simp
 |true=>
   cases hl:(B7_ l) with
   |false=>simp
   |true=>
     obtain⟨_,hn,_⟩:=O9_ hm
     simp only[Bool.not_true,Bool.or_false,cond_false]
     have h0:=Int.emod_nonneg a (show (p.places.length:Int)≠0 by omega)
     have h1:=Int.emod_lt_of_pos a (show (0:Int)<p.places.length by omega)
     rw[M4_ h0 h1]
     simp only[Bool.not_true,Bool.false_or]
     rw[K7_]
     have hle:=Hc_ p (a%(p.places.length:Int)) l
     have hlast:((decide (((X_ p (a%(p.places.length:Int)) l).length:Int)=((X_ p (a%(p.places.length:Int)) l).length:Int)))&&(decide (((X_ p (a%(p.places.length:Int)) l).length:Int)<=(l.length:Int))))=true:=by
       simp only[decide_true,Bool.true_and,decide_eq_true_eq];omega
     rw[hlast]
     cases hab:By_ (P_ p) p.places.length (a%(p.places.length:Int)) (b%(p.places.length:Int)) with
     |false=>simp
     |true=>
       cases hbc:By_ (P_ p) p.places.length (b%(p.places.length:Int)) (c%(p.places.length:Int)) with
       |false=>simp
       |true=>rw[Kl_ hab hbc];rfl
end Go.SW.V
