/-
  A part of the proof of ReportNotes: What functions answer, printed by program out of their walks: policy.Parse.
-/
import Derived.Test.YtdanlhjbbojfgaaGreatDoorReportNotesP2
import Derived.Test.YtdanlhjbbojfgaaGreatDoorReportNotesP3
import Derived.Shelf.LaysM
import Derived.Shelf.Strings.OnBuilder
import Derived.Shelf.Strconv.Itoa3
import Derived.Lib.AppendIntMem
import Derived.Lib.Walk
import Derived.WalkKit
import Derived.BigCall
import Derived.BigGuard
import Derived.Test.YtdanlhjbbojfgaaGreatDoorProg
import Derived.Shelf.Strings.FieldsFuncAny
import Derived.Shelf.Pu.ParseUintPublic10
import Derived.Lib.SmallJoins
import Derived.Shelf.Strings.Split
import Derived.KernelRfl
set_option linter.unusedVariables false
set_option linter.unusedSimpArgs false
set_option maxRecDepth 100000
set_option maxHeartbeats 4000000
namespace Go.SW.V
open Go.SW
def Ad_:List Bs->Nat->Int->Int->List T_->List Int->List Ar_->D_×Int×Int
  |[],k,work,give_,places,slots,grants=>lt (E4_ (⟨work,give_,places,slots,grants⟩:D_)) fun r16=>
 (bif !decide (r16=0) then
 ((⟨0,0,[],[],[]⟩:D_),0,r16)
 else ((⟨work,give_,places,slots,grants⟩:D_),0,0))
  |x::t,k,work,give_,places,slots,grants=>lt (Hr_ x) fun r=>
 (bif ((decide ((r.length:Int)=0))||(decide ((((gt r 0).getD 0 0).toNat:Int)=35))) then
 Ad_ t (k+1) work give_ places slots grants
 else (bif decide ((gt r 0)=[108,97,98,101,108]) then
 (bif !decide ((r.length:Int)=5) then
 ((⟨0,0,[],[],[]⟩:D_),((k:Int)+1),4)
 else (bif decide ((gt r 0)=[119,111,114,107]) then
 lt (Dg_ (gt r 1)) fun r1=>
 (bif !decide (r1.2=0) then
 ((⟨0,0,[],[],[]⟩:D_),((k:Int)+1),r1.2)
 else Ad_ t (k+1) r1.1 give_ places slots grants)
 else (bif decide ((gt r 0)=[103,105,118,101]) then
 lt (Dg_ (gt r 1)) fun r2=>
 (bif !decide (r2.2=0) then
 ((⟨0,0,[],[],[]⟩:D_),((k:Int)+1),r2.2)
 else Ad_ t (k+1) work r2.1 places slots grants)
 else (bif decide ((gt r 0)=[115,108,111,116]) then
 lt (V_ (⟨work,give_,places,slots,grants⟩:D_) (gt r 1)) fun r3=>
 (bif !decide (r3.2=0) then
 ((⟨0,0,[],[],[]⟩:D_),((k:Int)+1),r3.2)
 else Ad_ t (k+1) work give_ places (slots++[r3.1]) grants)
 else lt (Ej_ (gt r 2)) fun r4=>
 (bif !decide (r4.2=0) then
 ((⟨0,0,[],[],[]⟩:D_),((k:Int)+1),r4.2)
 else lt (Dg_ (gt r 3)) fun r5=>
 (bif !decide (r5.2=0) then
 ((⟨0,0,[],[],[]⟩:D_),((k:Int)+1),r5.2)
 else lt (F7_ (gt r 4) 18446744073709551615) fun r6=>
 (bif !decide (r6.2=0) then
 ((⟨0,0,[],[],[]⟩:D_),((k:Int)+1),r6.2)
 else Ad_ t (k+1) work give_ (places++[(⟨(gt r 1),r4.1,r5.1,r6.1⟩:T_)]) slots grants)))))))
 else (bif decide ((gt r 0)=[103,114,97,110,116]) then
 (bif !decide ((r.length:Int)=4) then
 ((⟨0,0,[],[],[]⟩:D_),((k:Int)+1),4)
 else (bif decide ((gt r 0)=[119,111,114,107]) then
 lt (Dg_ (gt r 1)) fun r7=>
 (bif !decide (r7.2=0) then
 ((⟨0,0,[],[],[]⟩:D_),((k:Int)+1),r7.2)
 else Ad_ t (k+1) r7.1 give_ places slots grants)
 else (bif decide ((gt r 0)=[103,105,118,101]) then
 lt (Dg_ (gt r 1)) fun r8=>
 (bif !decide (r8.2=0) then
 ((⟨0,0,[],[],[]⟩:D_),((k:Int)+1),r8.2)
 else Ad_ t (k+1) work r8.1 places slots grants)
 else (bif decide ((gt r 0)=[115,108,111,116]) then
 lt (V_ (⟨work,give_,places,slots,grants⟩:D_) (gt r 1)) fun r9=>
 (bif !decide (r9.2=0) then
 ((⟨0,0,[],[],[]⟩:D_),((k:Int)+1),r9.2)
 else Ad_ t (k+1) work give_ places (slots++[r9.1]) grants)
 else lt (V_ (⟨work,give_,places,slots,grants⟩:D_) (gt r 1)) fun r10=>
 (bif !decide (r10.2=0) then
 ((⟨0,0,[],[],[]⟩:D_),((k:Int)+1),r10.2)
 else lt (V_ (⟨work,give_,places,slots,grants⟩:D_) (gt r 2)) fun r11=>
 (bif !decide (r11.2=0) then
 ((⟨0,0,[],[],[]⟩:D_),((k:Int)+1),r11.2)
 else lt (Dg_ (gt r 3)) fun r12=>
 (bif !decide (r12.2=0) then
 ((⟨0,0,[],[],[]⟩:D_),((k:Int)+1),r12.2)
 else Ad_ t (k+1) work give_ places slots (grants++[(⟨r10.1,r11.1,r12.1⟩:Ar_)]))))))))
 else (bif decide ((gt r 0)=[119,111,114,107]) then
 (bif !decide ((r.length:Int)=2) then
 ((⟨0,0,[],[],[]⟩:D_),((k:Int)+1),4)
 else lt (Dg_ (gt r 1)) fun r13=>
 (bif !decide (r13.2=0) then
 ((⟨0,0,[],[],[]⟩:D_),((k:Int)+1),r13.2)
 else Ad_ t (k+1) r13.1 give_ places slots grants))
 else (bif decide ((gt r 0)=[103,105,118,101]) then
 (bif !decide ((r.length:Int)=2) then
 ((⟨0,0,[],[],[]⟩:D_),((k:Int)+1),4)
 else lt (Dg_ (gt r 1)) fun r14=>
 (bif !decide (r14.2=0) then
 ((⟨0,0,[],[],[]⟩:D_),((k:Int)+1),r14.2)
 else Ad_ t (k+1) work r14.1 places slots grants))
 else (bif decide ((gt r 0)=[115,108,111,116]) then
 (bif !decide ((r.length:Int)=2) then
 ((⟨0,0,[],[],[]⟩:D_),((k:Int)+1),4)
 else lt (V_ (⟨work,give_,places,slots,grants⟩:D_) (gt r 1)) fun r15=>
 (bif !decide (r15.2=0) then
 ((⟨0,0,[],[],[]⟩:D_),((k:Int)+1),r15.2)
 else Ad_ t (k+1) work give_ places (slots++[r15.1]) grants))
 else ((⟨0,0,[],[],[]⟩:D_),((k:Int)+1),4)))))))
def Go_ (s:Bs):D_×Int×Int:=
 Ad_ (cuts 10 s) 0 0 0 [] [] []
def Os_:Bool:=
 lt (Ej_ [50,58,48,58,53]) fun r=>
 lt (Ej_ [51,58,48,58,53,58,55]) fun r1=>
 lt (Ej_ [51,58,53]) fun r2=>
 ((((((decide (r.2=0))&&(decide (r1.2=0)))&&(decide (r2.2=0)))&&(E2_ r.1 r1.1))&&(!(E2_ r.1 r2.1)))&&(!(E2_ r1.1 r.1)))
def Jd_:Bool:=
 (Os_)
def Ou_:Bool:=
 lt (Go_ [119,111,114,107,32,52,10,103,105,118,101,32,49,10,108,97,98,101,108,32,108,111,119,32,48,32,53,49,50,32,49,10,115,108,111,116,32,108,111,119]) fun r=>
 (((((((Jd_)&&true)&&(decide (r.2.1=0)))&&(decide (r.2.2=0)))&&(decide ((r.1.places.length:Int)=1)))&&(decide (r.1.work=4)))&&(decide (((gt r.1.places 0).bytes)=512)))
def Ot_:Bool:=
 (Ou_)
def Ox_:Bool:=
 lt (B8_ (⟨[]⟩:LineR) (⟨3,[97],[],[],[],0,0⟩:Mail)) fun r=>
 lt (B8_ r.1 (⟨5,[97],[],[],[],0,0⟩:Mail)) fun r1=>
 lt (B5_ r1.1) fun r2=>
 lt (B5_ r2.1) fun r3=>
 lt (Dx_ r3.1 3) fun r4=>
 lt (Dd_ r4.1) fun r5=>
 (((((((((decide (r.2=0))&&(decide (r1.2=0)))&&r2.2.2)&&(decide (r2.2.1.mail.id=3)))&&r3.2.2)&&(decide (r3.2.1.mail.id=5)))&&(decide (r4.2=0)))&&r5.2)&&(decide (r5.1.id=3)))
def Ow_:Bool:=
 (Ox_)
def Iu_:Nat->Nat->Db_->Bool
  |0,_,_=>default
  | f2+1,v,x=>(bif decide ((v:Int)<40) then
 lt (B6_ x (⟨0,(IntKind.wrap .u8 (v:Int)),[]⟩:NoteR)) fun r=>
 Iu_ f2 (v+1) r.1
 else lt (Ev_ x 9) fun r1=>
 lt (Ev_ x 8) fun r2=>
 (((r1.2&&(decide (r1.1.kind=8)))&&(!r2.2))&&(decide ((F5_ x)=40))))
def L8_:Bool:=
 Iu_ (40-0+1) 0 (⟨0,[]⟩:Db_)
def Oy_:Bool:=
 (L8_)
def Iv_:Nat->Nat->RiseR->Bool
  |0,_,_=>default
  | f2+1,v,x=>(bif decide ((v:Int)<20) then
 lt (A1_ x (⟨0,[97],[],[],[],0,0⟩:Mail)) fun r=>
 Iv_ f2 (v+1) r.1
 else lt (D8_ x 0) fun r1=>
 lt (D8_ x 20) fun r2=>
 (((decide (r1.1=5))&&r1.2.2)&&(!r2.2.2)))
def L9_:Bool:=
 Iv_ (20-0+1) 0 (⟨0,[]⟩:RiseR)
def Oz_:Bool:=
 (L9_)
def O1_:Bool:=
 lt (Dq_ 7 100) fun r=>
 lt (Ca_ r (⟨[113],3,0,[]⟩:I_)) fun r1=>
 lt (Ao_ r1.1 [113] (⟨0,[97],[],[],[],0,0⟩:Mail)) fun r2=>
 (((((Ow_)&&(Oz_))&&(decide (r1.2=0)))&&(decide (r2.2.2.2=0)))&&(decide (r2.2.1=7)))
def O0_:Bool:=
 (O1_)
def Iw_:Nat->Nat->B_->Bool
  |0,_,_=>default
  | f2+1,v,x=>(bif decide ((v:Int)<([(⟨0,0,(⟨[97],1,[]⟩:ShopR),(⟨[],0,0,[]⟩:I_),(⟨[],[],false,[],[],false⟩:BindR),[],0,0,0,0,0,(⟨0,[],[],[],[],0,0⟩:Mail),[]⟩:DeedR),(⟨2,0,(⟨[],0,[]⟩:ShopR),(⟨[113],4,0,[]⟩:I_),(⟨[],[],false,[],[],false⟩:BindR),[],0,0,0,0,0,(⟨0,[],[],[],[],0,0⟩:Mail),[]⟩:DeedR),(⟨4,0,(⟨[],0,[]⟩:ShopR),(⟨[],0,0,[]⟩:I_),(⟨[97],[113],false,[],[],false⟩:BindR),[],0,0,0,0,0,(⟨0,[],[],[],[],0,0⟩:Mail),[]⟩:DeedR)].length:Int)) then
 lt (Cn_ x (gt [(⟨0,0,(⟨[97],1,[]⟩:ShopR),(⟨[],0,0,[]⟩:I_),(⟨[],[],false,[],[],false⟩:BindR),[],0,0,0,0,0,(⟨0,[],[],[],[],0,0⟩:Mail),[]⟩:DeedR),(⟨2,0,(⟨[],0,[]⟩:ShopR),(⟨[113],4,0,[]⟩:I_),(⟨[],[],false,[],[],false⟩:BindR),[],0,0,0,0,0,(⟨0,[],[],[],[],0,0⟩:Mail),[]⟩:DeedR),(⟨4,0,(⟨[],0,[]⟩:ShopR),(⟨[],0,0,[]⟩:I_),(⟨[97],[113],false,[],[],false⟩:BindR),[],0,0,0,0,0,(⟨0,[],[],[],[],0,0⟩:Mail),[]⟩:DeedR)] v)) fun r1=>
 (bif !decide (r1.2.2=0) then
 false
 else Iw_ f2 (v+1) r1.1)
 else lt (Cn_ x (⟨6,0,(⟨[],0,[]⟩:ShopR),(⟨[],0,0,[]⟩:I_),(⟨[],[],false,[],[],false⟩:BindR),[],0,0,0,0,0,(⟨0,[97],[],[],[120],0,0⟩:Mail),[]⟩:DeedR)) fun r2=>
 lt (Cn_ r2.1 (⟨7,0,(⟨[],0,[]⟩:ShopR),(⟨[],0,0,[]⟩:I_),(⟨[],[],false,[],[],false⟩:BindR),[113],0,0,0,0,0,(⟨0,[],[],[],[],0,0⟩:Mail),[]⟩:DeedR)) fun r3=>
 ((((((((Ot_)&&(O0_))&&true)&&(Oy_))&&(decide (r2.2.2=0)))&&(decide (r2.2.1.count=1)))&&(decide (r3.2.2=0)))&&(decide (r3.2.1.item.mail.body=[120]))))
def Ma_:Bool:=
 lt (Cp_ (⟨4,1,[(⟨[108,111,119],(⟨0,0⟩:Aw_),500,1⟩:T_)],[0],[]⟩:D_) 0) fun r=>
 Iw_ (([(⟨0,0,(⟨[97],1,[]⟩:ShopR),(⟨[],0,0,[]⟩:I_),(⟨[],[],false,[],[],false⟩:BindR),[],0,0,0,0,0,(⟨0,[],[],[],[],0,0⟩:Mail),[]⟩:DeedR),(⟨2,0,(⟨[],0,[]⟩:ShopR),(⟨[113],4,0,[]⟩:I_),(⟨[],[],false,[],[],false⟩:BindR),[],0,0,0,0,0,(⟨0,[],[],[],[],0,0⟩:Mail),[]⟩:DeedR),(⟨4,0,(⟨[],0,[]⟩:ShopR),(⟨[],0,0,[]⟩:I_),(⟨[97],[113],false,[],[],false⟩:BindR),[],0,0,0,0,0,(⟨0,[],[],[],[],0,0⟩:Mail),[]⟩:DeedR)].length)-0+1) 0 r
def Ax_ (s:Bs):Bs:=
 (bif decide (s=[]) then
 [46]
 else s)
def Ay_ (n:Int):Bs:=
 (decB n)
def Fb_ (b:BookR):(List ShopR):=
 b.shops
def As_:List ItemR->Int->Int
  |[],n=>n
  | x::t,n=>(bif !(x.lent) then
 As_ t (n+1)
 else As_ t n)
def Bf_ (l:LineR):Int:=
 As_ l.items 0
def A3_:List BindR->List BindR->(List BindR)
  |[],out=>out
  |x::t,out=>A3_ t (out++[x])
def Ef_ (b:BookR):(List BindR):=
 A3_ b.binds []
theorem Kl_ (s:Bs):(Ax_ s).length<=s.length+1:=by
  unfold Ax_
  by_cases h:s=[]
  · rw[decide_eq_true h];simp
  · rw[decide_eq_false h];simp
theorem Hg_ (n:Int):(Ay_ n).length<=20:=He_ n
theorem Vh_:∀ (l:List ItemR) (n:Int),n<=As_ l n/\As_ l n<=n+l.length
  |[],n=>by simp[As_]
  |x::t,n=>by
    unfold As_
    have h1:=Vh_ t n
    have h2:=Vh_ t (n+1)
    cases e:!x.lent with
    |true=>simp only[cond_true,List.length_cons];omega
    |false=>simp only[cond_false,List.length_cons];omega
theorem lrdy_b (l:LineR):0<=Bf_ l/\Bf_ l<=l.items.length:=by
  have :=Vh_ l.items 0
  unfold Bf_
  omega
def D2_ (a:Aw_):Nat->Bs->Nat->Bs
  |0,_,_=>default
  | f2+1,s,v=>(bif decide ((v:Int)<32) then
 (bif decide ((IntKind.wrap .u32 ((BitVec.ofInt (IntKind.bits .u32) (Int.fdiv a.set_ (2 ^ (min ((v:Int):Int).toNat (IntKind.bits .u32)))) &&& BitVec.ofInt (IntKind.bits .u32) 1).toNat))=1) then
 D2_ a f2 (s++([58]++(itoB (v:Int)))) (v+1)
 else D2_ a f2 s (v+1))
 else s)
def Ek_ (a:Aw_):Bs:=
 D2_ a (32-0+1) (itoB a.level) 0
def Es_ (kind:Int):Bs:=
 (bif decide (0<=(kind-1)) then
 (bif decide ((kind-1)<([[108,111,115,116],[114,101,108,101,97,115,101,100],[119,111,107,101,110],[114,101,102,117,115,101,100],[98,101,103,117,110],[111,118,101,114]].length:Int)) then
 (gt [[108,111,115,116],[114,101,108,101,97,115,101,100],[119,111,107,101,110],[114,101,102,117,115,101,100],[98,101,103,117,110],[111,118,101,114]] (((kind-1)).toNat))
 else lt (Ay_ kind) fun r=>
 r)
 else lt (Ay_ kind) fun r1=>
 r1)
def Ba_ (p:D_) (k:Int):Bs:=
 (bif decide (k<(p.places.length:Int)) then
 ((gt p.places ((k).toNat)).name)
 else (itoB k))
end Go.SW.V
namespace Go.SW
variable {P:Program} {n:Nat} {N:Rest} {H0:Env} {all rest:List Oper} {Q:Qs} {ks:List Kt} {T ty d:Nat} {pos:String} {af:Array Edge} {x:Operand} {K:St->Prop}
def E2 (P:Program) (n:Nat) (N:Rest) (H0:Env) (all:List Oper) (o:Oper) (js:List Nat) (s:St) (K:St->Prop):Prop:=
  ∀ F H L,Abs H0 s F H L->Op1 P n N all o (fun F' H' L'=>HLe H H'/\(∀ q,memB js q=false->L' q=L q)/\∃ s',Abs H0 s' F' H' L'/\K s') F H L
theorem ef2 {o:Oper} {js:List Nat} {s:St} (h:E2 P n N H0 all o js s (fun s'=>Hd P n N H0 Q (.ops all rest) ks s')):Hd P n N H0 Q (.ops all (o::rest)) ks s:=fun F H L ha=>
  ow1 ((h F H L ha).imp fun F' H' L' ⟨_,_,s',h1,h2⟩=>h2 F' H' L' h1)
theorem ve2s {xs:List Nat} {fuel:Nat} {listed:Array Bool} {o:Oper} {js:List Nat} {s:St} (i:Nat) (hi:nth all i=some o) (hr:Region.ready .any all.toArray listed=[i]) (hj:js.all (memB xs)=true) (h:E2 P n N H0 all o js s (fun s'=>Hv P n N H0 Q (some xs) all fuel (listed.setIfInBounds i true) ks s')):Hv P n N H0 Q (some xs) all (fuel+1) listed ks s:=by
  intro F H L Lk ha hL
  rw[G5_] at hi
  have hle:∀ L':Ls,(∀ q,memB js q=false->L' q=L q)->LkR (some xs) Lk L':=fun L' hL' q=>by
    rw[hL q]
    cases e:memB xs q with
    |true=>rfl
    |false=>
      refine (hL' q ?_).symm
      cases e2:memB js q with
      |false=>rfl
      |true=>have :=List.all_eq_true.1 hj q (Jk_ e2);rw[e] at this;cases this
  refine vw_e i hi hr ((h F H L ha).imp fun F' H' L' ⟨h1,h2,s',h3,h4⟩=>⟨⟨h1,fun q x hx=>?_⟩,h4 F' H' L' Lk h3 (hle L' h2)⟩)
  have :=hle L' h2 q
  rw[this] at hx
  cases e:memB xs q with
  |true=>rw[e] at hx;cases hx
  |false=>rw[e] at hx;exact hx
def tlL {α:Type} (b T:Nat) (u:Value) (k e:Nat) (enc:α->List PV) (xs:List α):Nat->Blk:=lups (lups (fun _=> .no) 0 (.box b T [.osl 1])) 1 (.arr u k e enc xs)
def two (L M:Ls) (i j:Nat):Ls:=fun q=>if q=i then M 0 else if q=j then M 1 else L q
structure Fs (P:Program) (G:Gb) (f:FuncId) (args:List PV) (T k e:Nat) {α:Type} (enc:α->List PV) (xs ys:List α):Prop where
  cb:O_ P f
  run:∀ (N:Rest) (H:Hp) (L:Ls) (w:World) (i j b:Nat) (vs:List Value) (u:Value),G.p H->Sims H args vs->i≠j->L i=some (b,bx T [u]) ->
    SimB (tlL b T u k e enc xs) H (.arr u k e enc xs) (L j)->Mem N H L w ->
    Calls P f (Value.pointer (some ⟨b,0,none⟩)::vs).toArray w fun en w'=>∃ H' u' M,en = .returned (.tuple #[])/\M 0=some (b,bx T [u'])/\SimB (tlL b T u' k e enc ys) H' (.arr u' k e enc ys) (M 1)/\HLe H H'/\Mem N H' (two L M i j) w'
def fsK {α:Type} (tb:Tb) (rs:List ResultVar) (b T k e:Nat) (enc:α->List PV) (ys:List α):Qs:=fun en s=>rtK tb rs (.tup []) en s/\s.L 0 = .box b T [.osl 1]/\∃ u',s.L 1 = .arr u' k e enc ys
theorem rsn {α:Type} {tb:Tb} {rs:List ResultVar} {b T k e:Nat} {enc:α->List PV} {ys:List α} {s:St} {ps:List PV} {as0 bs:List Nat} {u:Value} (h:F1_ tb s rs=some (ps,as0,bs)) (he:as0=bs) (hp:PLe (tupP ps) (.tup [])) (hb:s.L 0 = .box b T [.osl 1]) (hl:s.L 1 = .arr u k e enc ys):Hd P n N H0 (fsK tb rs b T k e enc ys) (.ex .normal) [] s:=⟨⟨.inl rfl,ps,as0,bs,h,he,hp⟩,hb,u,hl⟩
theorem mem_two {N:Rest} {H H':Hp} {L M:Ls} {w w':World} {i j:Nat} (h:Mem N H L w) (hij:i≠j) (k:Mem (N.plus (lupd (lupd L i none) j none)) H' M w'):Mem N H' (two L M i j) w':=by
  have hr:∀ {q:Nat} {x:Nat×Obj},lupd (lupd L i none) j none q=some x->q≠j/\q≠i/\L q=some x:=fun hq=>by
    obtain⟨h1,h2⟩:=Ii_ hq
    obtain⟨h3,h4⟩:=Ii_ h2
    exact⟨h1,h3,h4⟩
  have hl:∀ {q:Nat} {x:Nat×Obj},q≠i->q≠j->L q=some x->lupd (lupd L i none) j none q=some x:=fun h1 h2 h3=>by
    rw[Aj_ _ _ _ _ h2,Aj_ _ _ _ _ h1];exact h3
  have hinj:∀ (p q:Nat) (x y:Nat×Obj),lupd (lupd L i none) j none p=some x->lupd (lupd L i none) j none q=some y->x.1=y.1->p=q:=fun p q x y hp hq e=>h.inj p q x y (hr hp).2.2 (hr hq).2.2 e
  have hnb:∀ b o,N.heap b=some o->∀ (q:Nat) (x:Nat×Obj),lupd (lupd L i none) j none q=some x->x.1≠b:=fun b o hb q x hq=>h.nBoth b o hb q x (hr hq).2.2
  have hsub:Mem N H (lupd (lupd L i none) j none) w:=h.sub (fun q x hq=>⟨q,(hr hq).2.2⟩) hinj
  have hdis:∀ {a:Nat} {x:Nat×Obj} {q:Nat} {y:Nat×Obj},M a=some x->q≠i->q≠j->L q=some y->x.1≠y.1:=fun {a x q y} ha h1 h2 hq e=>by
    obtain⟨xb,xo⟩:=x
    obtain⟨yb,yo⟩:=y
    have e':xb=yb:=e
    have hn:=(k.nl a xb xo ha).1
    have :(N.plus (lupd (lupd L i none) j none)).heap yb=some yo:=Rest.plus_of hsub (i:=q) (hl h1 h2 hq)
    rw[e'] at hn
    rw[hn] at this;cases this
  refine h.unframe (Lr:=lupd (lupd L i none) j none) (fun q x hq=>⟨q,(hr hq).2.2⟩) hinj k (fun q x hq=>?_) (fun p q x y hp hq e=>?_) hnb
  · unfold two at hq
    split at hq
    · exact .inl ⟨0,hq⟩
    · split at hq
      · exact .inl ⟨1,hq⟩
      · rename_i h1 h2;exact .inr ⟨q,hl h1 h2 hq⟩
  · have hM:=k.inj
    unfold two at hp hq
    by_cases p1:p=i
    · rw[if_pos p1] at hp
      by_cases q1:q=i
      · rw[p1,q1]
      · rw[if_neg q1] at hq
        by_cases q2:q=j
        · rw[if_pos q2] at hq;have :=hM 0 1 x y hp hq e;cases this
        · rw[if_neg q2] at hq;exact (hdis hp q1 q2 hq e).elim
    · rw[if_neg p1] at hp
      by_cases p2:p=j
      · rw[if_pos p2] at hp
        by_cases q1:q=i
        · rw[if_pos q1] at hq;have :=hM 1 0 x y hp hq e;cases this
        · rw[if_neg q1] at hq
          by_cases q2:q=j
          · rw[p2,q2]
          · rw[if_neg q2] at hq;exact (hdis hp q1 q2 hq e).elim
      · rw[if_neg p2] at hp
        by_cases q1:q=i
        · rw[if_pos q1] at hq;exact (hdis hq p1 p2 hp e.symm).elim
        · rw[if_neg q1] at hq
          by_cases q2:q=j
          · rw[if_pos q2] at hq;exact (hdis hq p1 p2 hp e.symm).elim
          · rw[if_neg q2] at hq;exact h.inj p q x y hp hq e
theorem mem_both {N:Rest} {H:Hp} {L:Ls} {w:World} {i j:Nat} (h:Mem N H L w) (hij:i≠j):Mem (N.plus (lupd (lupd L i none) j none)) H (fun q=>if q=0 then L i else if q=1 then L j else none) w:=by
  have hr:∀ {q:Nat} {x:Nat×Obj},lupd (lupd L i none) j none q=some x->q≠j/\q≠i/\L q=some x:=fun hq=>by
    obtain⟨h1,h2⟩:=Ii_ hq
    obtain⟨h3,h4⟩:=Ii_ h2
    exact⟨h1,h3,h4⟩
  have hc:∀ (q:Nat) (x:Nat×Obj),(if q=0 then L i else if q=1 then L j else none)=some x->(q=0/\L i=some x)\/(q=1/\L j=some x):=fun q x hq=>by
    split at hq
    · rename_i e;exact .inl ⟨e,hq⟩
    · split at hq
      · rename_i e;exact .inr ⟨e,hq⟩
      · cases hq
  refine h.frame _ _ (fun q x hq=>?_) (fun q x hq=>⟨q,(hr hq).2.2⟩) (fun p q x y hp hq e=>?_) (fun p q x y hp hq e=>h.inj p q x y (hr hp).2.2 (hr hq).2.2 e) (fun p q x y hp hq e=>?_)
  · rcases hc q x hq with ⟨_,h1⟩|⟨_,h1⟩
    · exact⟨i,h1⟩
    · exact⟨j,h1⟩
  · rcases hc p x hp with ⟨e1,h1⟩|⟨e1,h1⟩
    · rcases hc q y hq with ⟨e2,h2⟩|⟨e2,h2⟩
      · rw[e1,e2]
      · exact (hij (h.inj _ _ _ _ h1 h2 e)).elim
    · rcases hc q y hq with ⟨e2,h2⟩|⟨e2,h2⟩
      · exact (hij (h.inj _ _ _ _ h2 h1 e.symm)).elim
      · rw[e1,e2]
  · obtain⟨g1,g2,g3⟩:=hr hq
    rcases hc p x hp with ⟨_,h1⟩|⟨_,h1⟩
    · exact g2 (h.inj _ _ _ _ g3 h1 e.symm)
    · exact g1 (h.inj _ _ _ _ g3 h1 e.symm)
theorem fs_cw {α:Type} {tb:Tb} {G:Gb} {m:Nat} {f:FuncId} {fn:Func} {c:Code} {args:List PV} {T k e:Nat} {enc:α->List PV} {xs ys:List α} (ht:tbB P tb=true) (hf:P.funcs[f]? = some fn) (hb:fn.body=some c) (hn:fn.ntmps=m) (hs:Nat.ble (args.length+1) m=true) (hcb:O_ P f) (hna:A7_ args=true)
    (h:PV.wfs args->xs.length<=140737488355328->∀ b u N H,G.p H->Hd P m N ⟨H,G⟩ (fsK tb fn.results.toList b T k e enc ys) (.code c) [] ⟨K4_ (.own 0 b 0::args),tlL b T u k e enc xs⟩):Fs P G f args T k e enc xs ys:=by
  refine⟨hcb,fun N H L w i j b vs u hg hsim hij hL hx hm=>?_⟩
  subst hn
  have hs':Sims H (.own 0 b 0::args) (Value.pointer (some ⟨b,0,none⟩)::vs):=hsim.cons Sim.own
  have hlen:xs.length<=140737488355328:=by obtain⟨_,_,_,h⟩:=hx;exact h
  have h1:=h hsim.wf hlen b u (N.plus (lupd (lupd L i none) j none)) H hg (Hj_ (Value.pointer (some ⟨b,0,none⟩)::vs).toArray) H (fun q=>if q=0 then L i else if q=1 then L j else none) ⟨.refl H,hg,fun t=>It_ hs' (by simp [A7_,hna,PV.noOsl]) t,fun q=>by
    by_cases e1:q=1
    · subst e1;exact hx
    · by_cases e0:q=0
      · subst e0;exact ⟨[u],hL,by
          refine⟨rfl,fun a p v hp hv=>?_⟩
          cases a with
          |zero=>simp at hp hv;subst hp;subst hv;simp[SimT,tlL,lups]
          |succ a=>simp at hp⟩
      · simp only[tlL,Fr_ _ _ _ _ e1,Fr_ _ _ _ _ e0];trivial⟩
  refine E0_ (R:=fun v H' L'=>v = .tuple #[]/\∃ u',L' 0=some (b,bx T [u'])/\SimB (tlL b T u' k e enc ys) H' (.arr u' k e enc ys) (L' 1)) (H0:=H) hf hb (by have :=Nat.le_of_ble_eq_true hs;simp[hsim.1];omega) (G7_ (fun en F' H' L' hq=>?_) h1) (mem_both hm hij) ?_
  · obtain⟨s',ha',hq',hq0,u',hq1⟩:=hq
    obtain⟨he,v,hr,hv⟩:=Kk_ (N:=N.plus (lupd (lupd L i none) j none)) ht ha' hq'
    obtain⟨vs0,rfl,hvs⟩:=hv.inv_tup
    have hz:vs0=[]:=List.length_eq_zero_iff.1 hvs.1
    subst hz
    have h3:=ha'.l 0
    rw[hq0] at h3
    obtain⟨vc,hL0,hl0,hsv⟩:=h3
    have h4:=ha'.l 1
    rw[hq1] at h4
    have hvc:vc=[u']:=by
      match vc,hl0 with
      |[v],_=>
        have :=hsv 0 (.osl 1) v rfl rfl
        simp only[SimT,hq1] at this
        rw[this]
    subst hvc
    rcases he with rfl|rfl
    · exact⟨_,hr,ha'.le,rfl,u',hL0,h4⟩
    · exact⟨_,hr,ha'.le,rfl,u',hL0,h4⟩
  · intro v H' L' w' ⟨hv,u',h0,h1⟩ hl hm'
    subst hv
    exact⟨H',u',L',rfl,h0,h1,hl,mem_two hm hij hm'⟩
theorem fcall {α:Type} {f:FuncId} {args:List PV} {as0:Array Operand} {ats:Array TypeId} {i j b b' T0 k e off:Nat} {u:Value} {enc:α->List PV} {xs ys:List α} {s:St} (h:Fs P H0.g f args T0 k e enc xs ys) (ha:argsP s.F x as0.toList=some (f, .own i b off::args)) (hoff:off=0) (hb:s.L i = .box b' T0 [.osl j]) (hj:s.L j = .arr u k e enc xs) (hij:Nat.beq i j=false) (hbb:b'=b) (hd:Nat.blt d n=true)
    (kk:∀ u',K ⟨updp (Ge_ j s.F) d (.tup []),lups (lups (Ey_ j s.L) j (.arr u' k e enc ys)) i (.box b T0 [.osl j])⟩):E2 P n N H0 all ⟨some d, .call ⟨.value x,as0,ats⟩,ty,pos,af,none⟩ [i,j] s K:=by
  intro F H L hab
  subst hoff;subst hbb
  have hij':i≠j:=fun q=>by subst q;simp at hij
  obtain⟨us,h1,h2⟩:=Gs_ (ats:=ats) hab.f ha h.cb
  obtain⟨v0,vs,rfl,h3,h4⟩:=h1.inv_cons
  have h5:=h3.inv_own
  subst h5
  have h6:=hab.l i
  rw[hb] at h6
  obtain⟨vc,hL,hl,hsv⟩:=h6
  have hvc:vc=[u]:=by
    match vc,hl with
    |[v],_=>
      have :=hsv 0 (.osl j) v rfl rfl
      simp only[SimT,hj] at this
      rw[this]
  subst hvc
  have h7:=hab.l j
  rw[hj] at h7
  intro a w hA hm
  rw[if_pos (by simp[Region.wanted])]
  unfold Oper.wp
  rw[hA.eval,h2]
  refine (h.run N H L w i j b' vs u hab.g h4 hij' hL h7 hm).mono fun e' w' ⟨H',u',M,he,hM0,hM1,hl',hm'⟩=>?_
  subst he
  have g1:=(hab.mono hl').turn j (B:= .arr u' k e enc ys) (x:=M 1) hM1
  have g2:=g1.turnB i (B:= .box b' T0 [.osl j]) (x:=M 0) trivial ⟨[u'],hM0,rfl,fun a p v hp hv=>by
    cases a with
    |zero=>
      simp at hp hv;subst hp;subst hv
      simp only[SimT,Fr_ _ _ _ _ (Ne.symm hij'),Cf_]
    |succ a=>simp at hp⟩
  have e1:lupd (lupd L j (M 1)) i (M 0)=two L M i j:=by
    funext q
    unfold two
    by_cases q1:q=i
    · subst q1;rw[Ap_,if_pos rfl]
    · rw[Aj_ _ _ _ _ q1,if_neg q1]
      by_cases q2:q=j
      · subst q2;rw[Ap_,if_pos rfl]
      · rw[Aj_ _ _ _ _ q2,if_neg q2]
  rw[e1] at g2
  refine⟨_,H',_,hA.put (by simpa using hd) (.tuple #[]),hm',hl',fun q hq=>?_,_,Abs.put (p:= .tup []) g2 d (Sim.tup (cs:=[]) (vs:=[]) rfl (fun _ _ _ h=>by cases h)),kk u'⟩
  simp only[memB] at hq
  unfold two
  have q1:q≠i:=fun e=>by subst e;simp at hq
  have q2:q≠j:=fun e=>by subst e;simp at hq
  rw[if_neg q1,if_neg q2]
end Go.SW
namespace Go.SW.V
open Go.SW
variable {P:Program} {n:Nat} {N:Rest} {H0:Env} {all rest:List Oper} {Q:Qs} {ks:List Kt} {fF:Nat->PV} {fL:Nat->Blk} {T ty d:Nat} {pos:String} {af:Array Edge} {x:Operand} {K:St->Prop}
theorem rsn {α:Type} {tb:Tb} {rs:List ResultVar} {b T k e:Nat} {enc:α->List PV} {ys zs:List α} {ps:List PV} {as0 bs:List Nat} {u:Value} (hy:zs=ys) (h:F1_ tb ⟨fF,fL⟩ rs=some (ps,as0,bs)) (he:as0=bs) (hp:PLe (tupP ps) (.tup [])) (hb:fL 0 = .box b T [.osl 1]) (hl:fL 1 = .arr u k e enc ys):Hd P n N H0 (fsK tb rs b T k e enc zs) (.ex .normal) [] ⟨fF,fL⟩:=by subst hy;exact SW.rsn h he hp hb hl
theorem fcall {α:Type} {f:FuncId} {args:List PV} {as0:Array Operand} {ats:Array TypeId} {i j b b' T0 k e off:Nat} {u:Value} {enc:α->List PV} {xs ys:List α} (h:Fs P H0.g f args T0 k e enc xs ys) (ha:argsP fF x as0.toList=some (f, .own i b off::args)) (hoff:off=0) (hb:fL i = .box b' T0 [.osl j]) (hj:fL j = .arr u k e enc xs) (hij:Nat.beq i j=false) (hbb:b'=b) (hd:Nat.blt d n=true)
    (kk:∀ u',K ⟨updp (Ge_ j fF) d (.tup []),lups (lups (Ey_ j fL) j (.arr u' k e enc ys)) i (.box b T0 [.osl j])⟩):E2 P n N H0 all ⟨some d, .call ⟨.value x,as0,ats⟩,ty,pos,af,none⟩ [i,j] ⟨fF,fL⟩ K:=SW.fcall (s:=⟨fF,fL⟩) h ha hoff hb hj hij hbb hd kk
theorem Qd_ {α:Type} {e k:Nat} {u:Value} {enc:α->List PV} {xs:List α} {o:Oper} {js:List Nat} (i:Nat) (hb:fL i = .arr u k e enc xs) (h:E2 P n N H0 all o js ⟨Rm_ i enc xs fF,P1_ i enc xs fL⟩ K):E2 P n N H0 all o (i::js) ⟨fF,fL⟩ K:=by
  intro F H L ha a w hA hm
  obtain⟨H1,hl1,hg1,hm1⟩:=hm.giveO (i:=i) rfl
  have ha1:=ha.give hb hl1 hg1
  refine (h F H1 (lupd L i none) ha1).imp (fun F' H' L' ⟨x,y,z⟩=>⟨hl1.trans x,fun q hq=>?_,z⟩) a w hA hm1
  simp only[memB] at hq
  have hne:q≠i:=fun e=>by subst e;simp at hq
  have hb:Nat.beq q i=false:=by cases e:Nat.beq q i with
    |false=>rfl
    |true=>exact (hne (Nat.eq_of_beq_eq_true e)).elim
  rw[hb,cond_false] at hq
  exact (y q hq).trans (Aj_ _ _ _ _ hne)
end Go.SW.V
namespace Go.SW
structure Yc_ where
  l:List Bs
deriving DecidableEq,Inhabited
def Yc_.pc (x:Yc_):List PV:=[.sl strc x.l]
end Go.SW
namespace Go.SW.V
open Go.SW
def Bl_ (t:List Bs) (words:List Bs):List Bs:=
 (t++[joinB words [32]])
theorem Z4_ {s:F_} {n:Bs} (h:StkOk s):LnOk (Eg_ s n):=by
  unfold Eg_ lt
  refine bt (P:=LnOk) (fun _=>Mh_) fun _=>?_
  generalize (P_ s n).toNat=k
  cases e:s.rows[k]? with
  |none=>
    have :(gt s.rows k)=default:=by simp[gt,e]
    rw[this];exact Mh_
  |some x=>
    have :(gt s.rows k)=x:=by simp[gt,e]
    rw[this];exact h.1.at e
theorem Pj_:∀ (t:List RowR) (out:List I_),(Aq_ t out).length=out.length+t.length
  |[],out=>rfl
  |x::t,out=>by
    unfold Aq_
    rw[Pj_ t];simp;omega
theorem Nd_ {s:F_} (h:StkOk s):(Bs_ s).length<=8:=by
  unfold Bs_
  rw[Pj_]
  have :=h.1.1
  simp;omega
structure Clo (B:BookR->Prop) (K:F_->Prop) (M:Db_->Prop):Prop where
  ma:∀ {b x},0<=x.sort->B b->B (Bh_ b x).1
  bd:∀ {b x},(∀ p∈x.want,p.wf)->B b->B (An_ b x).1
  dp:∀ {b n},B b->B (Di_ b n).1
  ub:∀ {b x},B b->B (Cg_ b x).1
  fg:∀ {b q},B b->B (D0_ b q)
  km:∀ {k q},K k->K (Ca_ k q).1
  kd:∀ {k n},K k->K (Cy_ k n).1
  kp:∀ {k n m},StkOk k->K k->K (Ao_ k n m).1
  kl:∀ {k n},K k->K (Bz_ k n).1
  kr:∀ {k n i},K k->K (X_ k n i).1
  kb:∀ {k n i},K k->K (Cx_ k n i).1
  ks:∀ {k p m},K k->K (A9_ k p m).1
  kw:∀ {k},StkOk k->K k->K (Eh_ k)
  na:∀ {n x},0<=x.kind/\x.kind<=255->M n->M (B6_ n x).1
def Cl (B:BookR->Prop) (K:F_->Prop) (M:Db_->Prop) (s:B_):Prop:=B s.x.book/\K s.x.stock/\M s.x.notes
section
variable {B:BookR->Prop} {K:F_->Prop} {M:Db_->Prop} (C:Clo B K M)
include C
variable {s:B_}
omit C in
theorem Cl.stock (h:Cl B K M s) {k:F_} (hk:K k):Cl B K M ⟨⟨s.x.book,k,s.x.notes,s.x.seen,s.x.spent⟩,s.policy,s.place⟩:=⟨h.1,hk,h.2.2⟩
section
variable {m:Mail} {tick:Int} {r:List Bs×List Bs×Int}
end
section
variable {d:DeedR}
end
end
def BiB (y:BindR):Prop:=y.shop.length<=16/\Dp_ y.to'=0/\y.key.length<=64/\Fn_ y.want=0/\∀ p∈y.want,p.wf
def BkB (b:BookR):Prop:=(∀ s∈b.shops,Mt_ s=0/\0<=s.sort)/\∀ y∈b.binds,BiB y
def RoB (k:F_):Prop:=∀ r∈k.rows,C6_ r.q=0
def NoB (n:Db_):Prop:=∀ x∈n.kept,x.text.length<=64/\0<=x.kind/\x.kind<=255
theorem Kg_ {s:Bs} (h:Dp_ s=0):s.length<=16:=by
  unfold Dp_ at h
  split at h
  · cases h
  · split at h
    · cases h
    · omega
theorem shopE_f {x:ShopR} (h:Mt_ x=0):x.name.length<=16/\x.to'.length<=16/\x.sort<=4:=by
  unfold Mt_ at h
  split at h
  · rename_i q;exact (q h).elim
  · rename_i q
    split at h
    · cases h
    · refine⟨Kg_ (by simpa using q),?_,by omega⟩
      split at h
      · exact Kg_ h
      · split at h
        · cases h
        · rename_i q2;rw[show x.to'=[] by simpa using q2];simp
theorem qcheck_f {q:I_} (h:C6_ q=0):q.name.length<=16/\q.dead.length<=16/\1<=q.most/\q.most<=64:=by
  unfold C6_ at h
  by_cases q1:Dp_ q.name=0
  · rw[decide_eq_true q1] at h
    simp only[Bool.not_true,cond_false] at h
    cases e:(decide (q.most<1) || decide (64<q.most)) with
    |true=>rw[e] at h;cases h
    |false=>
      rw[e] at h
      simp only[cond_false] at h
      simp only[Bool.or_eq_false_iff,decide_eq_false_iff_not] at e
      refine⟨Kg_ q1,?_,by omega,by omega⟩
      by_cases q2:q.dead=[]
      · rw[q2];simp
      · rw[decide_eq_false q2] at h;exact Kg_ h
  · rw[decide_eq_false q1] at h;exact (q1 h).elim
def StB (s:B_):Prop:=Cl BkB RoB NoB s
theorem newB (p:D_) (k:Int):StB (Cp_ p k):=⟨⟨(fun _ h=>by cases h),fun _ h=>by cases h⟩,(fun _ h=>by cases h),fun _ h=>by cases h⟩
theorem Hy_ (t words:List Bs):(Bl_ t words).length=t.length+1:=by simp[Bl_]
theorem M9_ (a:Aw_):∀ (f v:Nat) (s:Bs),s.length<=21+22*v->v<=32->(D2_ a f s v).length<=725
  |0,_,_,_,_=>by show ([]:Bs).length<=725;simp
  |f+1,v,s,hs,hv=>by
    unfold D2_
    let Q:Bs->Prop:=fun r=>r.length<=725
    refine bt (P:=Q) (fun e=>?_) fun _=>by show s.length<=725;omega
    have hv':v<32:=by have :=of_decide_eq_true e;omega
    refine bt (P:=Q) (fun _=>M9_ a f (v+1) _ ?_ (by omega)) fun _=>M9_ a f (v+1) _ (by omega) (by omega)
    have :=Fk_ (v:Int)
    simp only[List.length_append,List.length_cons,List.length_nil];omega
theorem ltext_len (a:Aw_):(Ek_ a).length<=725:=M9_ a _ 0 _ (by have :=Fk_ a.level;omega) (by decide)
theorem rwhat_len (k:Int):(Es_ k).length<=20:=by
  unfold Es_ lt
  let Q:Bs->Prop:=fun r=>r.length<=20
  refine bt (P:=Q) (fun e1=>bt (P:=Q) (fun e=>?_) fun _=>Hg_ k) fun _=>Hg_ k
  have h1:(k-1).toNat<6:=by
    have :=of_decide_eq_true e
    have :=of_decide_eq_true e1
    simp only[List.length_cons,List.length_nil] at *
    omega
  have key:∀ n,n<6->(gt [[108,111,115,116],[114,101,108,101,97,115,101,100],[119,111,107,101,110],[114,101,102,117,115,101,100],[98,101,103,117,110],[111,118,101,114]] n:Bs).length<=20:=by decide +kernel
  exact key _ h1
theorem Ne_ (p:D_) (k:Int) (h:p.places.length<=100000/\0<=k/\∀ y∈p.places,y.name.length<=300):(Ba_ p k).length<=300:=by
  unfold Ba_
  let Q:Bs->Prop:=fun r=>r.length<=300
  refine bt (P:=Q) (fun e=>h.2.2 _ (Kf_ ?_)) fun _=>Nat.le_trans (Fk_ k) (by decide)
  have :=of_decide_eq_true e
  omega
def RpOk (p:D_) (place:Int) (x:Ab_):Prop:=PoOk p/\(0<=place/\place<p.places.length)/\(∀ y∈p.places,y.name.length<=300)/\PrOk x/\BkB x.book/\RoB x.stock/\NoB x.notes
def RpP (p:D_):Prop:=p.places.length<=100000/\∀ y∈p.places,y.name.length<=300
theorem Pk_:∀ (l:List RowR) (out:List I_) (q:I_),q∈Aq_ l out->q∈out\/∃ r∈l,r.q=q
  |[],out,q,h=> .inl h
  |x::t,out,q,h=>by
    rcases Pk_ t _ q h with h|⟨r,hr,e⟩
    · rcases List.mem_append.1 h with h|h
      · exact .inl h
      · exact .inr ⟨x,by simp,(List.mem_singleton.1 h).symm⟩
    · exact .inr ⟨r,by simp[hr],e⟩
theorem queues_f {s:F_} (h:RoB s) {q:I_} (hq:q∈Bs_ s):q.name.length<=16/\q.dead.length<=16/\1<=q.most/\q.most<=64:=by
  rcases Pk_ s.rows [] q hq with h1|⟨r,hr,e⟩
  · cases h1
  · rw[<- e];exact qcheck_f (h r hr)
theorem St_:∀ (l out:List BindR),A3_ l out=out++l
  |[],out=>by simp[A3_]
  |x::t,out=>by unfold A3_;rw[St_ t];simp
theorem Qy_ (b:BookR):Ef_ b=b.binds:=by unfold Ef_;rw[St_];rfl
theorem Z5_ (l:LineR):A4_ l=(l.items.length:Int):=rfl
theorem rise_ok2 {s:F_} {k:Int} (h:StkOk s):RiOk (Cz_ s k):=by
  unfold Cz_
  refine bt (P:=RiOk) (fun _=>Sj_) fun e=>?_
  simp only[Bool.or_eq_false_iff,decide_eq_false_iff_not] at e
  exact h.2.1 _ (by omega)
theorem W8_ (b:BookR):Fb_ b=b.shops:=rfl
theorem S6_ {h:List Pair} (e:Fn_ h=0):h.length<=8:=by
  unfold Fn_ at e
  split at e
  · cases e
  · omega
theorem bk_want {b:BookR} (h:BkOk b) (k:BkB b):b.binds.length<=1000/\∀ y∈b.binds,y.want.length<=1000:=
  ⟨by have :=h.2.1;omega,fun y hy=>by have :=S6_ (k.2 y hy).2.2.2.1;omega⟩
def E5_ (n:NoteR):Bs:=
 (joinB [[110,111,116,101],(Ay_ n.tick),(Es_ n.kind),(Ax_ n.text)] [32])
def Da_:List BindR->List Bs->List Bs
  |[],l1=>l1
  | x1::t1,l1=>(lt1 ((bif x1.up then
 [117,112]
 else [113,117,101,117,101])) (fun to_=>
 (lt1 ((bif x1.all then
 [97,108,108]
 else [97,110,121])) (fun all=>
 lt (Bl_ l1 [[98,105,110,100],x1.shop,x1.to',to_,(Ax_ (x1.key)),all,itoB ((x1.want).length:Int)]) fun r3=>
 Da_ t1 r3))))
def Co_ (x:Ab_):List ShopR->List Bs->List Bs
  |[],l=>lt (Ef_ x.book) fun r2=>
 Da_ r2 l
  |x2::t2,l=>lt (Bl_ l [[115,104,111,112],x2.name,(gt [[100,105,114,101,99,116],[102,97,110,111,117,116],[116,111,112,105,99],[104,101,97,100,115],[114,101,108,101,97,115,101]] ((x2.sort).toNat)),(Ax_ (x2.to'))]) fun r1=>
 Co_ x t2 r1
def F2_ (t:List Bs) (x:Ab_):List Bs:=
 lt (Fb_ x.book) fun r=>
 Co_ x r t
def Ed_ (p:D_) (x:Ab_):Nat->Nat->List Bs->List Bs
  |0,_,_=>default
  | f2+1,v,l1=>(bif decide ((v:Int)<16) then
 lt (Cz_ x.stock (v:Int)) fun r3=>
 lt (B7_ r3) fun r4=>
 (bif decide (0<r4) then
 lt (F8_ r3) fun r5=>
 lt (Bl_ l1 [[114,105,115,101],(Ba_ p (v:Int)),(Ay_ (B7_ r3)),itoB (r5.length:Int)]) fun r6=>
 Ed_ p x f2 (v+1) r6
 else Ed_ p x f2 (v+1) l1)
 else l1)
def Cr_ (p:D_) (x:Ab_):List I_->List Bs->List Bs
  |[],l=>Ed_ p x (16-0+1) 0 l
  |x1::t1,l=>lt (Eg_ x.stock (x1.name)) fun r1=>
 lt (Bl_ l [[113,117,101,117,101],x1.name,itoB (A4_ r1),(Ay_ (x1.most)),itoB ((A4_ r1)-(Bf_ r1)),(Ax_ (x1.dead))]) fun r2=>
 Cr_ p x t1 r2
def Ez_ (t:List Bs) (p:D_) (x:Ab_):List Bs:=
 lt (Bs_ x.stock) fun r=>
 Cr_ p x r t
theorem Qv_:∀ (l:List BindR) (t:List Bs),(Da_ l t).length=t.length+l.length
  |[],t=>rfl
  |x::r,t=>by
    unfold Da_ lt lt1
    rw[Qv_ r,Hy_];simp only[List.length_cons];omega
theorem Qu_ (x:Ab_):∀ (l:List ShopR) (t:List Bs),(Co_ x l t).length=t.length+l.length+x.book.binds.length
  |[],t=>by unfold Co_ lt;rw[Qv_,Qy_];rfl
  |y::r,t=>by
    unfold Co_ lt
    rw[Qu_ x r,Hy_];simp only[List.length_cons];omega
theorem tbook_len {t:List Bs} {x:Ab_} (h:BkOk x.book):(F2_ t x).length<=t.length+40:=by
  unfold F2_ lt Fb_
  rw[Qu_]
  have :=h.1;have :=h.2.1
  omega
theorem Lz_ (p:D_) (x:Ab_):∀ (f v:Nat) (t:List Bs),v<=16->16-v<f->(Ed_ p x f v t).length<=t.length+(16-v)
  |0,_,_,_,h=>by omega
  |f+1,v,t,hv,hf=>by
    unfold Ed_ lt
    let Q:List Bs->Prop:=fun r=>r.length<=t.length+(16-v)
    refine bt (P:=Q) (fun e=>?_) fun _=>by show t.length<=t.length+(16-v);omega
    have hv':v<16:=by have :=of_decide_eq_true e;omega
    refine bt (P:=Q) (fun _=>?_) fun _=>?_
    · have :=Lz_ p x f (v+1) (Bl_ t [[114,105,115,101],(Ba_ p (v:Int)),(Ay_ (B7_ (Cz_ x.stock (v:Int)))),itoB ((F8_ (Cz_ x.stock (v:Int))).length:Int)]) (by omega) (by omega)
      rw[Hy_] at this
      exact Nat.le_trans this (by omega)
    · exact Nat.le_trans (Lz_ p x f (v+1) t (by omega) (by omega)) (by omega)
theorem Pu_ (p:D_) (x:Ab_):∀ (l:List I_) (t:List Bs),(Cr_ p x l t).length<=t.length+l.length+16
  |[],t=>Lz_ p x _ 0 t (by decide) (by decide)
  |y::r,t=>by
    unfold Cr_ lt
    refine Nat.le_trans (Pu_ p x r _) ?_
    rw[Hy_];simp only[List.length_cons];omega
theorem X6_ {t:List Bs} {p:D_} {x:Ab_} (h:StkOk x.stock):(Ez_ t p x).length<=t.length+24:=by
  unfold Ez_ lt
  have h1:=Nd_ h
  exact Nat.le_trans (Pu_ p x (Bs_ x.stock) t) (by omega)
theorem nall_eq (n:Db_):G0_ n=n.kept:=rfl
def D7_:List NoteR->List Bs->(List Bs)
  |[],l2=>l2
  |x1::t,l2=>D7_ t (l2++[(E5_ x1)])
def F0_ (p:D_) (place:Int) (x:Ab_):Nat->Nat->List Bs->(List Bs)
  |0,_,_=>default
  | f4+1,v1,l1=>(bif decide ((v1:Int)<8) then
 (bif (((decide (0<((A8.get x.spent v1).count)))&&(decide ((v1:Int)<(p.grants.length:Int))))&&(decide (((gt p.grants v1).frm)=place))) then
 lt (Bl_ l1 [[115,112,101,110,116],(Ba_ p ((gt p.grants v1).to')),(Ay_ ((A8.get x.spent v1).round)),itoB ((A8.get x.spent v1).count)]) fun r6=>
 F0_ p place x f4 (v1+1) r6
 else F0_ p place x f4 (v1+1) l1)
 else lt (F5_ x.notes) fun r7=>
 lt (Ay_ r7) fun r8=>
 lt (Bl_ l1 [[110,111,116,101,115],r8]) fun r9=>
 lt (G0_ x.notes) fun r10=>
 D7_ r10 r9)
def Fz_ (p:D_) (place:Int) (x:Ab_):Nat->Nat->List Bs->(List Bs)
  |0,_,_=>default
  | f5+1,v,l=>(bif decide ((v:Int)<16) then
 (bif decide (0<(A16.get x.seen v)) then
 lt (Ba_ p (v:Int)) fun r3=>
 lt (Ay_ (A16.get x.seen v)) fun r4=>
 lt (Bl_ l [[115,101,101,110],r3,r4]) fun r5=>
 Fz_ p place x f5 (v+1) r5
 else Fz_ p place x f5 (v+1) l)
 else F0_ p place x (8-0+1) 0 l)
def Gq_ (p:D_) (place:Int) (x:Ab_):(List Bs):=
 lt (Bl_ [] [[112,108,97,99,101],(gt p.places ((place).toNat)).name,(Ek_ ((gt p.places ((place).toNat)).label)),itoB (Z_ x.stock),itoB ((gt p.places ((place).toNat)).bytes)]) fun r=>
 lt (F2_ r x) fun r1=>
 lt (Ez_ r1 p x) fun r2=>
 Fz_ p place x (16-0+1) 0 r2
theorem dig_one:∀ n:Nat,n<10->((([48,49,50,51,52,53,54,55,56,57]:Bs).drop n).take (n+1-n))=[UInt8.ofNat (48+n)]:=by decide +kernel
theorem dig_lo {n:Int} (h0:0<=n) (h1:n<10):PV.str ((([48,49,50,51,52,53,54,55,56,57]:Bs).drop n.toNat).take ((IntKind.wrap .u64 (n+1)).toNat-n.toNat))=PV.str (decB n):=by
  have e:(IntKind.wrap .u64 (n+1)).toNat=n.toNat+1:=by rw[IntKind.wrap_u64];omega
  rw[e,dig_one _ (by omega),Qa_ h0 h1]
theorem dig_hi {n:Int} (h0:10<=n) (h1:n<=18446744073709551615):PV.str (decB (n/10)++decB (n%10))=PV.str (decB n):=by rw[decB_big h0 h1]
def J9_:Bool:=
 (Ma_)
def Mp_ (s:Bs):Bs:=
 (bif decide (s=[]) then
 [46]
 else s)
def Vm_ (n:Int):Bs:=
 (decB (IntKind.wrap .u64 n))
def H6_ (kind:Int):Bs:=
 (bif decide (kind=1) then
 [108,111,115,116]
 else (bif decide (kind=2) then
 [114,101,108,101,97,115,101,100]
 else (bif decide (kind=3) then
 [119,111,107,101,110]
 else (bif decide (kind=4) then
 [114,101,102,117,115,101,100]
 else (bif decide (kind=5) then
 [98,101,103,117,110]
 else (bif decide (kind=6) then
 [111,118,101,114]
 else lt (Vm_ kind) fun r=>
 r))))))
theorem Vp_ (s:Bs):(Mp_ s).length<=s.length+1:=Kl_ s
theorem Vo_ (k:Int):(H6_ k).length<=20:=by
  unfold H6_ lt
  let Q:Bs->Prop:=fun r=>r.length<=20
  refine bt (P:=Q) (fun _=>(by decide :([108,111,115,116]:Bs).length<=20)) fun _=>bt (P:=Q) (fun _=>(by decide :([114,101,108,101,97,115,101,100]:Bs).length<=20)) fun _=>bt (P:=Q) (fun _=>(by decide :([119,111,107,101,110]:Bs).length<=20)) fun _=>bt (P:=Q) (fun _=>(by decide :([114,101,102,117,115,101,100]:Bs).length<=20)) fun _=>bt (P:=Q) (fun _=>(by decide :([98,101,103,117,110]:Bs).length<=20)) fun _=>bt (P:=Q) (fun _=>(by decide :([111,118,101,114]:Bs).length<=20)) fun _=>?_
  exact He_ _
theorem rp_new {p:D_} {k:Int} (hp:PoOk p) (hk:0<=k/\k<p.places.length) (hn:∀ y∈p.places,y.name.length<=300):RpOk p k (Ew_ (Cp_ p k)):=
  ⟨hp,hk,hn,(new_ok hp hk).1,(newB p k).1,(newB p k).2.1,(newB p k).2.2⟩
theorem rp_one {p:D_} {k:Int} {r:B_} {x:Ab_} (h1:r=Cp_ p k) (h2:x=Ew_ r) (hp:PoOk p) (hk:0<=k/\k<p.places.length) (hn:∀ y∈p.places,y.name.length<=300):RpOk p k x:=by subst h2;subst h1;exact rp_new hp hk hn
def Mb_:Bool:=
 lt (Cp_ (⟨4,1,[(⟨[108,111,119],(⟨0,0⟩:Aw_),500,1⟩:T_)],[0],[]⟩:D_) 0) fun r=>
 lt (Ew_ r) fun r1=>
 lt (Gq_ (⟨4,1,[(⟨[108,111,119],(⟨0,0⟩:Aw_),500,1⟩:T_)],[0],[]⟩:D_) 0 r1) fun r2=>
 (bif ((Jd_)&&(J9_)) then
 (decide (r2=[[112,108,97,99,101,32,108,111,119,32,48,32,48,32,53,48,48],[110,111,116,101,115,32,48]]))
 else false)
def Mo_ (n:NoteR):Bs:=
 ((((([110,111,116,101,32]++(decB n.tick))++[32])++(H6_ n.kind))++[32])++(Mp_ n.text))
def Fp_ (n:NoteR):Bool:=
 (bif !(Mb_) then
 false
 else (bif decide (80<(n.text.length:Int)) then
 true
 else ((decide ((E5_ n)=(Mo_ n)))&&(decide ((Es_ n.kind)=(H6_ n.kind))))))
end Go.SW.V
set_option maxHeartbeats 6400000
namespace Go.Proofs
open Go.Shelf
def Tryz.lays156_ren:Go.Shelf.Ren:=⟨fun|156=>31|165=>95|166=>96|169=>97|240=>184|241=>185|276=>244|277=>245|n=>n,fun|31=>106|9=>9|3=>3|4=>4|0=>0|20=>20|72=>195|76=>199|70=>192|37=>193|75=>198|127=>289|164=>346|5=>5|80=>175|n=>n,fun|n=>n⟩
theorem Tryz.lays156:Go.Proofs.Lays.n156 Tryz.prog Tryz.lays156_ren:={
  mixed:=by kernel_rfl
  f156:=Tryz.func31.trans (congrArg some (by kernel_rfl))
  f165:=Tryz.func95.trans (congrArg some (by kernel_rfl))
  f166:=Tryz.func96.trans (congrArg some (by kernel_rfl))
  f169:=Tryz.func97.trans (congrArg some (by kernel_rfl))
  f240:=Tryz.func184.trans (congrArg some (by kernel_rfl))
  f241:=Tryz.func185.trans (congrArg some (by kernel_rfl))
  f276:=Tryz.func244.trans (congrArg some (by kernel_rfl))
  f277:=Tryz.func245.trans (congrArg some (by kernel_rfl))
  t0:=Tryz.underlying0
  a0:=Tryz.isAgg0
  z0:=Tryz.sizeOf0
  v0:=Tryz.zeroValue0
  t3:=Tryz.underlying3
  a3:=Tryz.isAgg3
  z3:=Tryz.sizeOf3
  v3:=Tryz.zeroValue3
  t4:=Tryz.underlying4
  a4:=Tryz.isAgg4
  z4:=Tryz.sizeOf4
  v4:=Tryz.zeroValue4
  t9:=Tryz.underlying9
  a9:=Tryz.isAgg9
  z9:=Tryz.sizeOf9
  v9:=Tryz.zeroValue9
  t20:=Tryz.underlying20
  a20:=Tryz.isAgg20
  z20:=Tryz.sizeOf20
  v20:=Tryz.zeroValue20
  t31:=Tryz.underlying106
  a31:=Tryz.isAgg106
  z31:=Tryz.sizeOf106
  v31:=Tryz.zeroValue106
  t37:=Tryz.underlying193
  a37:=Tryz.isAgg193
  z37:=Tryz.sizeOf193
  v37:=Tryz.zeroValue193
  t70:=Tryz.underlying192
  a70:=Tryz.isAgg192
  z70:=Tryz.sizeOf192
  v70:=Tryz.zeroValue192
  t72:=Tryz.underlying195
  a72:=Tryz.isAgg195
  z72:=Tryz.sizeOf195
  v72:=Tryz.zeroValue195
  t75:=Tryz.underlying198
  a75:=Tryz.isAgg198
  z75:=Tryz.sizeOf198
  v75:=Tryz.zeroValue198
  t76:=Tryz.underlying199
  a76:=Tryz.isAgg199
  z76:=Tryz.sizeOf199
  v76:=Tryz.zeroValue199
  t127:=Tryz.underlying289
  a127:=Tryz.isAgg289
  z127:=Tryz.sizeOf289
  v127:=Tryz.zeroValue289
  t164:=Tryz.underlying346
  a164:=Tryz.isAgg346
  z164:=Tryz.sizeOf346
  v164:=Tryz.zeroValue346}
theorem Tryz.Builder_Extra_156:Builder.Extra Tryz.prog Tryz.lays156_ren:={
  sizeBuilder:=by kernel_rfl
  liesBuilder:=by kernel_rfl
  t5:=Tryz.underlying5
  a5:=Tryz.isAgg5
  z5:=Tryz.sizeOf5
  v5:=Tryz.zeroValue5
  infoByte:=by kernel_rfl
  cellsByte:=by kernel_rfl
  sizeByte:=by kernel_rfl
  neB5:=by decide}
theorem Tryz.strings_Join_none (a:Option Addr) (c:Nat) (sep:ByteArray) (w:World) :
    Calls Tryz.prog 31 #[.slice a 0 c, .string sep] w fun e w'=>e = .returned (.string ⟨#[]⟩)/\w'=w:=Any.strings_Join_none Tryz.lays156 Tryz.Builder_Extra_156 a c sep w
open Go.RowKit in
theorem Tryz.strings_Join (bk o c:Nat) (xs:List ByteArray) (sep:ByteArray) (w:World) (hcells:∀ (j:Nat) x,xs[j]? = some x->w.cell? ⟨bk,o+j,none⟩=some (.string x)) (hbk:bk<w.heap.size) (hN:xs.length<=140737488355328) (hcap:xs.length<=c) (hlen:(Lib.join (xs.map (·.data.toList)) sep.data.toList).length<=140737488355328) :
    Calls Tryz.prog 31 #[.slice (some ⟨bk,o,none⟩) xs.length c, .string sep] w fun e w'=>e = .returned (.string ⟨(Lib.join (xs.map (·.data.toList)) sep.data.toList).toArray⟩)/\Below w.heap.size w w':=Any.strings_Join Tryz.lays156 Tryz.Builder_Extra_156 bk o c xs sep w hcells hbk hN hcap hlen
def Tryz.lays283_ren:Go.Shelf.Ren:=⟨fun|283=>246|n=>n,fun|3=>3|9=>9|4=>4|n=>n,fun|n=>n⟩
theorem Tryz.lays283:Go.Proofs.Lays.n283 Tryz.prog Tryz.lays283_ren:={
  mixed:=by kernel_rfl
  f283:=Tryz.func246.trans (congrArg some (by kernel_rfl))
  t3:=Tryz.underlying3
  a3:=Tryz.isAgg3
  z3:=Tryz.sizeOf3
  v3:=Tryz.zeroValue3
  t4:=Tryz.underlying4
  a4:=Tryz.isAgg4
  z4:=Tryz.sizeOf4
  v4:=Tryz.zeroValue4
  t9:=Tryz.underlying9
  a9:=Tryz.isAgg9
  z9:=Tryz.sizeOf9
  v9:=Tryz.zeroValue9}
open Go.Lib in
theorem Tryz.internal_strconv_small (i:Nat) (h:i<100) (w:World) :
    Calls Tryz.prog 246 #[.int .i64 i] w fun e w'=>e = .returned (.string ⟨(Lib.decDigits i).toArray⟩)/\w'=w:=Any.internal_strconv_small Tryz.lays283 i h w
def Tryz.laysM284_ren:Go.Shelf.Ren:=⟨fun|284=>247|129=>289|317=>288|318=>290|n=>n,fun|53=>22|3=>3|212=>388|0=>0|4=>4|46=>277|5=>5|9=>9|n=>n,fun|17=>1|n=>n⟩
theorem Tryz.laysM284:Go.Proofs.LaysM.n284 Tryz.prog Tryz.laysM284_ren:={
  mixed:=by kernel_rfl
  f129:=Tryz.func289.trans (congrArg some (by kernel_rfl))
  f284:=Tryz.func247.trans (congrArg some (by kernel_rfl))
  f317:=Tryz.func288.trans (congrArg some (by kernel_rfl))
  f318:=Tryz.func290.trans (congrArg some (by kernel_rfl))
  t0:=Tryz.underlying0
  a0:=Tryz.isAgg0
  z0:=Tryz.sizeOf0
  v0:=Tryz.zeroValue0
  t3:=Tryz.underlying3
  a3:=Tryz.isAgg3
  z3:=Tryz.sizeOf3
  v3:=Tryz.zeroValue3
  t4:=Tryz.underlying4
  a4:=Tryz.isAgg4
  z4:=Tryz.sizeOf4
  v4:=Tryz.zeroValue4
  t5:=Tryz.underlying5
  a5:=Tryz.isAgg5
  z5:=Tryz.sizeOf5
  v5:=Tryz.zeroValue5
  t9:=Tryz.underlying9
  a9:=Tryz.isAgg9
  z9:=Tryz.sizeOf9
  v9:=Tryz.zeroValue9
  t46:=Tryz.underlying277
  a46:=Tryz.isAgg277
  z46:=Tryz.sizeOf277
  v46:=Tryz.zeroValue277
  t53:=Tryz.underlying22
  a53:=Tryz.isAgg22
  z53:=Tryz.sizeOf22
  v53:=Tryz.zeroValue22
  t212:=Tryz.underlying388
  a212:=Tryz.isAgg388
  z212:=Tryz.sizeOf388
  v212:=Tryz.zeroValue388
  g17:=by kernel_rfl
  i0:=by kernel_rfl
  i3:=by kernel_rfl
  i4:=by kernel_rfl
  i5:=by kernel_rfl
  i9:=by kernel_rfl
  i46:=by kernel_rfl
  i53:=by kernel_rfl
  i212:=by kernel_rfl
  m17:=by kernel_rfl}
open Go.Lib in
theorem Tryz.internal_strconv_numDigits (u:Nat) (h1:1<=u) (h2:u<18446744073709551616) (w:World) (htab:Lib.TabIs Tryz.prog w "internal/strconv.uint64pow10" .u64 Lib.pow10Tab) :
    Calls Tryz.prog 247 #[.int .u64 u] w fun e w'=>e = .returned (.int .i64 (Lib.nDigits u))/\w'=w:=Any.internal_strconv_numDigits Tryz.laysM284 u h1 h2 w htab
def Tryz.lays285_ren:Go.Shelf.Ren:=⟨fun|285=>248|n=>n,fun|37=>193|53=>22|3=>3|4=>4|51=>125|9=>9|5=>5|0=>0|n=>n,fun|n=>n⟩
theorem Tryz.lays285:Go.Proofs.Lays.n285 Tryz.prog Tryz.lays285_ren:={
  mixed:=by kernel_rfl
  f285:=Tryz.func248.trans (congrArg some (by kernel_rfl))
  t0:=Tryz.underlying0
  a0:=Tryz.isAgg0
  z0:=Tryz.sizeOf0
  v0:=Tryz.zeroValue0
  t3:=Tryz.underlying3
  a3:=Tryz.isAgg3
  z3:=Tryz.sizeOf3
  v3:=Tryz.zeroValue3
  t4:=Tryz.underlying4
  a4:=Tryz.isAgg4
  z4:=Tryz.sizeOf4
  v4:=Tryz.zeroValue4
  t5:=Tryz.underlying5
  a5:=Tryz.isAgg5
  z5:=Tryz.sizeOf5
  v5:=Tryz.zeroValue5
  t9:=Tryz.underlying9
  a9:=Tryz.isAgg9
  z9:=Tryz.sizeOf9
  v9:=Tryz.zeroValue9
  t37:=Tryz.underlying193
  a37:=Tryz.isAgg193
  z37:=Tryz.sizeOf193
  v37:=Tryz.zeroValue193
  t51:=Tryz.underlying125
  a51:=Tryz.isAgg125
  z51:=Tryz.sizeOf125
  v51:=Tryz.zeroValue125
  t53:=Tryz.underlying22
  a53:=Tryz.isAgg22
  z53:=Tryz.sizeOf22
  v53:=Tryz.zeroValue22}
open Go.RowKit Go.Sort Go.Lib in
theorem Tryz.internal_strconv_formatBase10 (blk off cap:Nat) (u:Nat) (d:Array UInt8) (w:World) (hH:Holds (fun (b:UInt8)=>Value.int .u8 (b.toNat:Int)) w blk off d) (hu:u<10 ^ d.size) (hu64:u<18446744073709551616) (hsz:d.size<4611686018427387904) :
    Calls Tryz.prog 248 #[.slice (some ⟨blk,off,none⟩) d.size cap, .int .u64 u] w fun e w'=>
      e = .returned (.tuple #[])/\∃ (n v':Nat) (dk:Array UInt8),w'=(putRow (fun (b:UInt8)=>Value.int .u8 (b.toNat:Int)) w blk off dk).drewN n/\FmtInv d.size u 0 v' dk:=Any.internal_strconv_formatBase10 Tryz.lays285 blk off cap u d w hH hu hu64 hsz
def Tryz.laysM171_ren:Go.Shelf.Ren:=⟨fun|171=>58|243=>141|246=>227|283=>246|284=>247|285=>248|286=>249|129=>289|317=>288|318=>290|319=>291|320=>292|337=>320|338=>321|n=>n,fun|3=>3|9=>9|2=>2|4=>4|171=>349|0=>0|53=>22|37=>193|5=>5|173=>352|212=>388|51=>125|20=>20|213=>389|46=>277|232=>420|233=>421|n=>n,fun|17=>1|18=>2|19=>3|n=>n⟩
theorem Tryz.laysM171:Go.Proofs.LaysM.n171 Tryz.prog Tryz.laysM171_ren:={
  mixed:=by kernel_rfl
  f129:=Tryz.func289.trans (congrArg some (by kernel_rfl))
  f171:=Tryz.func58.trans (congrArg some (by kernel_rfl))
  f243:=Tryz.func141.trans (congrArg some (by kernel_rfl))
  f246:=Tryz.func227.trans (congrArg some (by kernel_rfl))
  f283:=Tryz.func246.trans (congrArg some (by kernel_rfl))
  f284:=Tryz.func247.trans (congrArg some (by kernel_rfl))
  f285:=Tryz.func248.trans (congrArg some (by kernel_rfl))
  f286:=Tryz.func249.trans (congrArg some (by kernel_rfl))
  f317:=Tryz.func288.trans (congrArg some (by kernel_rfl))
  f318:=Tryz.func290.trans (congrArg some (by kernel_rfl))
  f319:=Tryz.func291.trans (congrArg some (by kernel_rfl))
  f320:=Tryz.func292.trans (congrArg some (by kernel_rfl))
  f337:=Tryz.func320.trans (congrArg some (by kernel_rfl))
  f338:=Tryz.func321.trans (congrArg some (by kernel_rfl))
  t0:=Tryz.underlying0
  a0:=Tryz.isAgg0
  z0:=Tryz.sizeOf0
  v0:=Tryz.zeroValue0
  t2:=Tryz.underlying2
  a2:=Tryz.isAgg2
  z2:=Tryz.sizeOf2
  v2:=Tryz.zeroValue2
  t3:=Tryz.underlying3
  a3:=Tryz.isAgg3
  z3:=Tryz.sizeOf3
  v3:=Tryz.zeroValue3
  t4:=Tryz.underlying4
  a4:=Tryz.isAgg4
  z4:=Tryz.sizeOf4
  v4:=Tryz.zeroValue4
  t5:=Tryz.underlying5
  a5:=Tryz.isAgg5
  z5:=Tryz.sizeOf5
  v5:=Tryz.zeroValue5
  t9:=Tryz.underlying9
  a9:=Tryz.isAgg9
  z9:=Tryz.sizeOf9
  v9:=Tryz.zeroValue9
  t20:=Tryz.underlying20
  a20:=Tryz.isAgg20
  z20:=Tryz.sizeOf20
  v20:=Tryz.zeroValue20
  t37:=Tryz.underlying193
  a37:=Tryz.isAgg193
  z37:=Tryz.sizeOf193
  v37:=Tryz.zeroValue193
  t46:=Tryz.underlying277
  a46:=Tryz.isAgg277
  z46:=Tryz.sizeOf277
  v46:=Tryz.zeroValue277
  t51:=Tryz.underlying125
  a51:=Tryz.isAgg125
  z51:=Tryz.sizeOf125
  v51:=Tryz.zeroValue125
  t53:=Tryz.underlying22
  a53:=Tryz.isAgg22
  z53:=Tryz.sizeOf22
  v53:=Tryz.zeroValue22
  t171:=Tryz.underlying349
  a171:=Tryz.isAgg349
  z171:=Tryz.sizeOf349
  v171:=Tryz.zeroValue349
  t173:=Tryz.underlying352
  a173:=Tryz.isAgg352
  z173:=Tryz.sizeOf352
  v173:=Tryz.zeroValue352
  t212:=Tryz.underlying388
  a212:=Tryz.isAgg388
  z212:=Tryz.sizeOf388
  v212:=Tryz.zeroValue388
  t213:=Tryz.underlying389
  a213:=Tryz.isAgg389
  z213:=Tryz.sizeOf389
  t232:=Tryz.underlying420
  a232:=Tryz.isAgg420
  z232:=Tryz.sizeOf420
  v232:=Tryz.zeroValue420
  t233:=Tryz.underlying421
  a233:=Tryz.isAgg421
  z233:=Tryz.sizeOf421
  v233:=Tryz.zeroValue421
  g17:=by kernel_rfl
  g18:=by kernel_rfl
  g19:=by kernel_rfl
  i0:=by kernel_rfl
  i2:=by kernel_rfl
  i3:=by kernel_rfl
  i4:=by kernel_rfl
  i5:=by kernel_rfl
  i9:=by kernel_rfl
  i20:=by kernel_rfl
  i37:=by kernel_rfl
  i46:=by kernel_rfl
  i51:=by kernel_rfl
  i53:=by kernel_rfl
  i171:=by kernel_rfl
  i173:=by kernel_rfl
  i212:=by kernel_rfl
  i232:=by kernel_rfl
  i233:=by kernel_rfl
  m17:=by kernel_rfl
  m18:=by kernel_rfl
  m19:=by kernel_rfl}
open Go.RowKit Go.Sort Go.Lib in
theorem Tryz.strconv_Itoa (n:Int) (h0:-9223372036854775808<=n) (h1:n<=9223372036854775807) (w:World) (htab:Lib.TabIs Tryz.prog w "internal/strconv.uint64pow10" .u64 Lib.pow10Tab) :
    Calls Tryz.prog 58 #[.int .i64 n] w fun e w'=>e = .returned (.string ⟨(Lib.itoa n).toArray⟩)/\∃ k os,w'=grow (w.drewN k) os:=Any.strconv_Itoa Tryz.laysM171 n h0 h1 w htab
open Go.RowKit Go.Sort Go.Lib
theorem Tryz.FU0 (u:Nat) (hu64:u<18446744073709551616) (w:World) (htab:Lib.TabIs Tryz.prog w "internal/strconv.uint64pow10" .u64 Lib.pow10Tab) :
    Calls Tryz.prog 186 #[.int .u64 u, .int .i64 10] w fun e w'=>e = .returned (.string ⟨(Lib.decDigits u).toArray⟩)/\∃ k os,w'=grow (w.drewN k) os:=by
  have t3:=Tryz.underlying3;have a3:=Tryz.isAgg3;have z3:=Tryz.sizeOf3;have v3:=Tryz.zeroValue3
  have t4:=Tryz.underlying4;have a4:=Tryz.isAgg4;have z4:=Tryz.sizeOf4;have v4:=Tryz.zeroValue4
  have t5:=Tryz.underlying5;have a5:=Tryz.isAgg5;have z5:=Tryz.sizeOf5;have v5:=Tryz.zeroValue5
  have t9:=Tryz.underlying9;have a9:=Tryz.isAgg9;have z9:=Tryz.sizeOf9;have v9:=Tryz.zeroValue9
  have t22:=Tryz.underlying22;have a22:=Tryz.isAgg22;have z22:=Tryz.sizeOf22;have v22:=Tryz.zeroValue22
  have t193:=Tryz.underlying193;have a193:=Tryz.isAgg193;have z193:=Tryz.sizeOf193;have v193:=Tryz.zeroValue193
  have t349:=Tryz.underlying349;have a349:=Tryz.isAgg349;have z349:=Tryz.sizeOf349;have v349:=Tryz.zeroValue349
  have e246:∀ args w,(callFunc 246 args).run Tryz.prog w = .ok (.enter 246 args) w:=enters_of Tryz.func246 (by kernel_rfl) rfl
  have e247:∀ args w,(callFunc 247 args).run Tryz.prog w = .ok (.enter 247 args) w:=enters_of Tryz.func247 (by kernel_rfl) rfl
  have e248:∀ args w,(callFunc 248 args).run Tryz.prog w = .ok (.enter 248 args) w:=enters_of Tryz.func248 (by kernel_rfl) rfl
  by_cases hs:u<100
  · go_enter Tryz.func186,Tryz.ntmps186
    go_wp2_with (go_at_fn 246;refine (Tryz.internal_strconv_small u hs _).mono ?_;rintro e w' ⟨rfl,rfl⟩)
    go_ret
    exact⟨rfl,0,#[],by simp[World.drewN_zero]⟩
  · have hu1:1<=u:=by omega
    have hnd20:Lib.nDigits u<=20:=Lib.nDigits_le20 u hu64
    have hb3:Lib.nDigits u<=24:=by omega
    have hal:Tryz.prog.arrayLen 349=24:=by simp[Program.arrayLen,Tryz.underlying349]
    have hsl1:∀ W,(Instr.sliceAt 349 (.pointer (some ⟨w.heap.size,0,none⟩)) none (some (.int .i64 (Lib.nDigits u:Int))) none).run Tryz.prog W = .ok (.slice (some ⟨w.heap.size,0,none⟩) (Lib.nDigits u) 24) W:=fun W=>by
      rw[run_sliceAt_array_h W 349 ⟨w.heap.size,0,none⟩ (by simp[Program.arrayLen,Program.elem,Tryz.underlying349]) .i64 (Lib.nDigits u:Int) (by omega) (by rw[hal];omega)]
      go_simp
    have hH0:=Lib.holds_zero0 w 349 (Lib.nDigits u) (by omega)
    have hfmt:=Tryz.internal_strconv_formatBase10 w.heap.size 0 24 u (Array.replicate (Lib.nDigits u) 0) (w.alloc (.cells Lib.zeros24 349)) hH0 (by rw[Array.size_replicate];exact Lib.lt_pow_nDigits u) hu64 (by rw[Array.size_replicate];omega)
    rw[Array.size_replicate] at hfmt
    have HH0:=Lib.hid hH0
    clear hH0 hal
    go_enter Tryz.func186,Tryz.ntmps186
    go_wp2_with (first
      |(go_at_fn 247;refine (Tryz.internal_strconv_numDigits u hu1 hu64 _ (Lib.tabIs_alloc htab _)).mono ?_;rintro e w' ⟨rfl,rfl⟩))
    go_at_fn 248
    refine hfmt.mono ?_
    rintro e w' ⟨rfl,k,v',dk,rfl,hF⟩
    have hcv:(convert 193 9 (.slice (some ⟨w.heap.size,0,none⟩) (Lib.nDigits u) 24)).run Tryz.prog ((putRow (fun (b:UInt8)=>Value.int .u8 (b.toNat:Int)) (w.alloc (.cells Lib.zeros24 349)) w.heap.size 0 dk).drewN k) = .ok (.string ⟨(Lib.decDigits u).toArray⟩) ((putRow (fun (b:UInt8)=>Value.int .u8 (b.toNat:Int)) (w.alloc (.cells Lib.zeros24 349)) w.heap.size 0 dk).drewN k):=by
      have h:=run_convert_bytes_back (P:=Tryz.prog) ((putRow (fun (b:UInt8)=>Value.int .u8 (b.toNat:Int)) (w.alloc (.cells Lib.zeros24 349)) w.heap.size 0 dk).drewN k) 193 9 5 ⟨w.heap.size,0,none⟩ 24 (Lib.decDigits u) Tryz.underlying193 Tryz.underlying5 Tryz.underlying9 (fun j hj=>by
        rw[Lib.row_is_numeral hF j hj,Lib.add_plain,World.cell?_drewN]
        exact cell?_putRow (fun (b:UInt8)=>Value.int .u8 (b.toNat:Int)) _ w.heap.size 0 _ dk HH0.out (by rw[hF.size,Array.size_replicate]) j (by rw[hF.size];rw[Lib.decDigits_length] at hj;exact hj))
      rw[Lib.decDigits_length] at h
      exact h
    go_wp2
    go_ret
    obtain⟨os,eo⟩:=Lib.fin_at w (.cells Lib.zeros24 349) dk k 0
    exact⟨rfl,k,os,eo⟩
theorem Tryz.FU (u:Nat) (hu64:u<18446744073709551616) (w:World) (htab:Lib.TabIs Tryz.prog w "internal/strconv.uint64pow10" .u64 Lib.pow10Tab) :
    Calls Tryz.prog 98 #[.int .u64 u, .int .i64 10] w fun e w'=>e = .returned (.string ⟨(Lib.decDigits u).toArray⟩)/\∃ k os,w'=grow (w.drewN k) os:=by
  have e186:∀ args w,(callFunc 186 args).run Tryz.prog w = .ok (.enter 186 args) w:=enters_of Tryz.func186 (by kernel_rfl) rfl
  go_enter Tryz.func98,Tryz.ntmps98
  go_wp2_with (go_at_fn 186;refine (Tryz.FU0 u hu64 _ htab).mono ?_;rintro e w' ⟨rfl,k,os,rfl⟩)
  go_ret
  exact⟨rfl,k,os,rfl⟩
end Go.Proofs
namespace Go.SW
open Go.Proofs Go.RowKit
theorem strconv_FUC (n:Int) {H:Hp} (hg:GPow H 1) (hr:0<=n/\n<=18446744073709551615) {N:Rest} {L:Ls} {w:World} (hm:Mem N H L w):Calls Tryz.prog 98 #[.int .u64 n, .int .i64 10] w fun e w'=>e = .returned (str (V.decB n))/\Below w.heap.size w w':=by
  obtain⟨u,rfl⟩:∃ u:Nat,n=u:=⟨n.toNat,by omega⟩
  refine (Tryz.FU u (by omega) w (hg.tab hm (by kernel_rfl))).mono fun e w' ⟨he,k,os,hw⟩=>⟨?_,hw ▸ Lib.below_grow _ _ (Nat.le_refl _) _ _⟩
  rw[he,V.decB_eq,if_pos hr,Int.toNat_natCast];rfl
theorem strconv_IAC (n:Int) {H:Hp} (hg:GPow H 1) (hr:-9223372036854775808<=n/\n<=9223372036854775807) {N:Rest} {L:Ls} {w:World} (hm:Mem N H L w):Calls Tryz.prog 58 #[.int .i64 n] w fun e w'=>e = .returned (str (V.itoB n))/\Below w.heap.size w w':=by
  refine (Tryz.strconv_Itoa n hr.1 hr.2 w (hg.tab hm (by kernel_rfl))).mono fun e w' ⟨he,k,os,hw⟩=>⟨?_,hw ▸ Lib.below_grow _ _ (Nat.le_refl _) _ _⟩
  rw[he,V.itoB_eq,if_pos hr];rfl
end Go.SW
namespace Go.Proofs
open Go.Shelf
def Tryz.lays229_ren:Go.Shelf.Ren:=⟨fun|229=>327|n=>n,fun|9=>9|40=>413|31=>106|152=>424|3=>3|0=>0|4=>4|21=>21|154=>426|n=>n,fun|n=>n⟩
theorem Tryz.lays229:Go.Proofs.Lays.n229 Tryz.prog Tryz.lays229_ren:={
  mixed:=by kernel_rfl
  f229:=Tryz.func327.trans (congrArg some (by kernel_rfl))
  t0:=Tryz.underlying0
  a0:=Tryz.isAgg0
  z0:=Tryz.sizeOf0
  v0:=Tryz.zeroValue0
  t3:=Tryz.underlying3
  a3:=Tryz.isAgg3
  z3:=Tryz.sizeOf3
  v3:=Tryz.zeroValue3
  t4:=Tryz.underlying4
  a4:=Tryz.isAgg4
  z4:=Tryz.sizeOf4
  v4:=Tryz.zeroValue4
  t9:=Tryz.underlying9
  a9:=Tryz.isAgg9
  z9:=Tryz.sizeOf9
  v9:=Tryz.zeroValue9
  t21:=Tryz.underlying21
  a21:=Tryz.isAgg21
  z21:=Tryz.sizeOf21
  v21:=Tryz.zeroValue21
  t31:=Tryz.underlying106
  a31:=Tryz.isAgg106
  z31:=Tryz.sizeOf106
  v31:=Tryz.zeroValue106
  t40:=Tryz.underlying413
  a40:=Tryz.isAgg413
  z40:=Tryz.sizeOf413
  v40:=Tryz.zeroValue413
  t152:=Tryz.underlying424
  a152:=Tryz.isAgg424
  z152:=Tryz.sizeOf424
  v152:=Tryz.zeroValue424
  t154:=Tryz.underlying426
  a154:=Tryz.isAgg426
  z154:=Tryz.sizeOf426
  v154:=Tryz.zeroValue426}
open Go.RowKit Go.Lib in
theorem Tryz.strings_FieldsFunc (g:Nat) (lb:Array Value) (eg:∀ args w,(callFunc g args).run Tryz.prog w = .ok (.enter g args) w) (p:Nat->Bool) (s:ByteArray) (w:World) (hs:s.size<=4294967296) (hp:PredAt Tryz.prog g lb encR p w) :
    Calls Tryz.prog 327 #[.string s, .func (.func g) #[] lb] w fun e w'=>∃ A,e = .returned (.slice (some ⟨A,0,none⟩) (Lib.goFieldsP p s).length (Lib.goFieldsP p s).length)/\w.heap.size<=A /\
      w'.ownsRow w.heap.size 9 1 (.slice (some ⟨A,0,none⟩) (Lib.goFieldsP p s).length (Lib.goFieldsP p s).length) (Lib.goFieldsP p s).length ((Lib.goFieldsP p s).map Value.string)/\Below w.heap.size w w':=Any.strings_FieldsFunc Tryz.lays229 g lb eg p s w hs hp (by kernel_rfl) (by kernel_rfl)
def Tryz.laysPu14_ren:Go.Shelf.Ren:=⟨fun|14=>355|16=>366|17=>367|19=>370|20=>371|21=>372|22=>373|23=>374|24=>375|25=>376|27=>58|26=>377|28=>141|29=>227|30=>246|31=>247|32=>248|33=>249|35=>289|34=>288|36=>290|37=>291|38=>292|39=>320|40=>321|n=>n,fun|9=>9|3=>3|22=>22|24=>198|25=>436|4=>4|34=>448|5=>5|36=>277|37=>193|0=>0|39=>450|21=>21|44=>454|47=>289|50=>458|48=>456|2=>2|52=>349|55=>352|59=>388|60=>125|20=>20|61=>389|65=>420|66=>421|67=>175|n=>n,fun|0=>6|1=>7|2=>1|3=>2|4=>3|n=>n⟩
theorem Tryz.laysPu14:Go.Proofs.LaysPu.n14 Tryz.prog Tryz.laysPu14_ren:={
  mixed:=by kernel_rfl
  f14:=Tryz.func355.trans (congrArg some (by kernel_rfl))
  f16:=Tryz.func366.trans (congrArg some (by kernel_rfl))
  f17:=Tryz.func367.trans (congrArg some (by kernel_rfl))
  f19:=Tryz.func370.trans (congrArg some (by kernel_rfl))
  f20:=Tryz.func371.trans (congrArg some (by kernel_rfl))
  f21:=Tryz.func372.trans (congrArg some (by kernel_rfl))
  f22:=Tryz.func373.trans (congrArg some (by kernel_rfl))
  f23:=Tryz.func374.trans (congrArg some (by kernel_rfl))
  f24:=Tryz.func375.trans (congrArg some (by kernel_rfl))
  f25:=Tryz.func376.trans (congrArg some (by kernel_rfl))
  f26:=Tryz.func377.trans (congrArg some (by kernel_rfl))
  f27:=Tryz.func58.trans (congrArg some (by kernel_rfl))
  f28:=Tryz.func141.trans (congrArg some (by kernel_rfl))
  f29:=Tryz.func227.trans (congrArg some (by kernel_rfl))
  f30:=Tryz.func246.trans (congrArg some (by kernel_rfl))
  f31:=Tryz.func247.trans (congrArg some (by kernel_rfl))
  f32:=Tryz.func248.trans (congrArg some (by kernel_rfl))
  f33:=Tryz.func249.trans (congrArg some (by kernel_rfl))
  f34:=Tryz.func288.trans (congrArg some (by kernel_rfl))
  f35:=Tryz.func289.trans (congrArg some (by kernel_rfl))
  f36:=Tryz.func290.trans (congrArg some (by kernel_rfl))
  f37:=Tryz.func291.trans (congrArg some (by kernel_rfl))
  f38:=Tryz.func292.trans (congrArg some (by kernel_rfl))
  f39:=Tryz.func320.trans (congrArg some (by kernel_rfl))
  f40:=Tryz.func321.trans (congrArg some (by kernel_rfl))
  t0:=Tryz.underlying0
  a0:=Tryz.isAgg0
  z0:=Tryz.sizeOf0
  v0:=Tryz.zeroValue0
  i0:=by kernel_rfl
  t2:=Tryz.underlying2
  a2:=Tryz.isAgg2
  z2:=Tryz.sizeOf2
  v2:=Tryz.zeroValue2
  i2:=by kernel_rfl
  t3:=Tryz.underlying3
  a3:=Tryz.isAgg3
  z3:=Tryz.sizeOf3
  v3:=Tryz.zeroValue3
  i3:=by kernel_rfl
  t4:=Tryz.underlying4
  a4:=Tryz.isAgg4
  z4:=Tryz.sizeOf4
  v4:=Tryz.zeroValue4
  i4:=by kernel_rfl
  t5:=Tryz.underlying5
  a5:=Tryz.isAgg5
  z5:=Tryz.sizeOf5
  v5:=Tryz.zeroValue5
  i5:=by kernel_rfl
  t9:=Tryz.underlying9
  a9:=Tryz.isAgg9
  z9:=Tryz.sizeOf9
  v9:=Tryz.zeroValue9
  i9:=by kernel_rfl
  t20:=Tryz.underlying20
  a20:=Tryz.isAgg20
  z20:=Tryz.sizeOf20
  v20:=Tryz.zeroValue20
  i20:=by kernel_rfl
  t21:=Tryz.underlying21
  a21:=Tryz.isAgg21
  z21:=Tryz.sizeOf21
  v21:=Tryz.zeroValue21
  i21:=by kernel_rfl
  t22:=Tryz.underlying22
  a22:=Tryz.isAgg22
  z22:=Tryz.sizeOf22
  v22:=Tryz.zeroValue22
  i22:=by kernel_rfl
  t24:=Tryz.underlying198
  a24:=Tryz.isAgg198
  z24:=Tryz.sizeOf198
  v24:=Tryz.zeroValue198
  i24:=by kernel_rfl
  t25:=Tryz.underlying436
  a25:=Tryz.isAgg436
  z25:=Tryz.sizeOf436
  v25:=Tryz.zeroValue436
  i25:=by kernel_rfl
  t34:=Tryz.underlying448
  a34:=Tryz.isAgg448
  z34:=Tryz.sizeOf448
  v34:=Tryz.zeroValue448
  i34:=by kernel_rfl
  c34:=by kernel_rfl
  t36:=Tryz.underlying277
  a36:=Tryz.isAgg277
  z36:=Tryz.sizeOf277
  v36:=Tryz.zeroValue277
  i36:=by kernel_rfl
  t37:=Tryz.underlying193
  a37:=Tryz.isAgg193
  z37:=Tryz.sizeOf193
  v37:=Tryz.zeroValue193
  i37:=by kernel_rfl
  t39:=Tryz.underlying450
  a39:=Tryz.isAgg450
  z39:=Tryz.sizeOf450
  v39:=Tryz.zeroValue450
  i39:=by kernel_rfl
  t44:=Tryz.underlying454
  a44:=Tryz.isAgg454
  z44:=Tryz.sizeOf454
  v44:=Tryz.zeroValue454
  i44:=by kernel_rfl
  t47:=Tryz.underlying289
  a47:=Tryz.isAgg289
  z47:=Tryz.sizeOf289
  v47:=Tryz.zeroValue289
  i47:=by kernel_rfl
  t48:=Tryz.underlying456
  a48:=Tryz.isAgg456
  z48:=Tryz.sizeOf456
  v48:=Tryz.zeroValue456
  i48:=by kernel_rfl
  t50:=Tryz.underlying458
  a50:=Tryz.isAgg458
  z50:=Tryz.sizeOf458
  v50:=Tryz.zeroValue458
  i50:=by kernel_rfl
  t52:=Tryz.underlying349
  a52:=Tryz.isAgg349
  z52:=Tryz.sizeOf349
  v52:=Tryz.zeroValue349
  i52:=by kernel_rfl
  t55:=Tryz.underlying352
  a55:=Tryz.isAgg352
  z55:=Tryz.sizeOf352
  v55:=Tryz.zeroValue352
  i55:=by kernel_rfl
  t59:=Tryz.underlying388
  a59:=Tryz.isAgg388
  z59:=Tryz.sizeOf388
  v59:=Tryz.zeroValue388
  i59:=by kernel_rfl
  t60:=Tryz.underlying125
  a60:=Tryz.isAgg125
  z60:=Tryz.sizeOf125
  v60:=Tryz.zeroValue125
  i60:=by kernel_rfl
  t61:=Tryz.underlying389
  a61:=Tryz.isAgg389
  z61:=Tryz.sizeOf389
  t65:=Tryz.underlying420
  a65:=Tryz.isAgg420
  z65:=Tryz.sizeOf420
  v65:=Tryz.zeroValue420
  i65:=by kernel_rfl
  t66:=Tryz.underlying421
  a66:=Tryz.isAgg421
  z66:=Tryz.sizeOf421
  v66:=Tryz.zeroValue421
  i66:=by kernel_rfl
  t67:=Tryz.underlying175
  a67:=Tryz.isAgg175
  z67:=Tryz.sizeOf175
  v67:=Tryz.zeroValue175
  i67:=by kernel_rfl
  g0:=by kernel_rfl
  m0:=by kernel_rfl
  g1:=by kernel_rfl
  m1:=by kernel_rfl
  g2:=by kernel_rfl
  m2:=by kernel_rfl
  g3:=by kernel_rfl
  m3:=by kernel_rfl
  g4:=by kernel_rfl
  m4:=by kernel_rfl}
open Go.RowKit Go.Lib in
theorem Tryz.strconv_ParseUint_10_at64_ok (s:ByteArray) (hmax:s.size<=9223372036854775806) (u:Nat) (h:Lib.parseUintB 64 s.data.toList = .ok u) (w:World) :
    Calls Tryz.prog 355 #[.string s, .int .i64 10, .int .i64 64] w fun e w'=>e = .returned (.tuple #[.int .u64 u, .nilIface])/\(w'=w\/w'=Lib.bytesWorld w 5 s):=Any.strconv_ParseUint_10_at64_ok Tryz.laysPu14 s hmax u h w
open Go.RowKit Go.Lib in
theorem Tryz.isBlank (w:World):PredAt Tryz.prog 328 #[] encR (fun r=>decide ((r:Int)=32)) w:=fun W r _=>by
  unfold FnGives
  go_enter Tryz.func328,Tryz.ntmps328
  go_wp2
  go_ret
  exact⟨rfl,0,rfl⟩
end Go.Proofs
namespace Go.SW
open Go.Proofs Go.RowKit
theorem strings_Flds (H:Hp) (s:Bs) (hs:s.length<=65536):Ph Tryz.prog 327 #[str s, .func (.func 328) #[] #[]] H (fun v H'=>∃ (a:Option Addr) (c:Nat),v = .slice a (flds s).length c/\SlH strE 1 H' (.slice a (flds s).length c) (flds s)):=by
  refine ph_rowB (T:=9) (flds_str s) (fun w hw=>by have :=Xj_ s w hw;omega) fun N L w hm=>?_
  have :=Tryz.strings_FieldsFunc 328 #[] (enters_of Tryz.func328 (by kernel_rfl) rfl) _ ⟨s.toArray⟩ w (by simp[ByteArray.size];omega) (Tryz.isBlank w)
  refine this.mono fun e w' ⟨A,h1,h2,h3,h4⟩=>⟨A,?_,h2,?_,h4⟩
  · rw[h1,List.length_map]
  · rw[List.length_map];exact h3
theorem strconv_PU (s:Bs) (hl:s.length<=19) (h0:0<s.length) (hd:Fm_ s=true) (w:World):Calls Tryz.prog 355 #[str s, .int .i64 10, .int .i64 64] w fun e w'=>e = .returned (.tuple #[.int .u64 (dec s:Int), .nilIface])/\Below w.heap.size w w':=by
  refine (Tryz.strconv_ParseUint_10_at64_ok ⟨s.toArray⟩ (by simp[ByteArray.size];omega) (dec s) (dec_ok hl h0 hd).1 w).mono fun e w' ⟨he,hw⟩=>⟨he,?_⟩
  rcases hw with rfl|rfl
  · exact Below.refl _ _
  · exact Go.Joins.below_bytesWorld _ _ _ _ (Nat.le_refl _)
end Go.SW
namespace Go.Proofs
open Go.Shelf
def Tryz.lays146_ren:Go.Shelf.Ren:=⟨fun|146=>310|221=>326|268=>341|138=>342|143=>343|195=>351|197=>352|218=>353|219=>354|260=>361|217=>362|225=>363|224=>364|267=>365|266=>368|314=>369|n=>n,fun|9=>9|31=>106|3=>3|4=>4|0=>0|105=>433|21=>21|5=>5|46=>277|119=>442|139=>445|138=>444|146=>446|51=>125|n=>n,fun|1=>0|3=>4|4=>5|n=>n⟩
theorem Tryz.lays146:Go.Proofs.Lays.n146 Tryz.prog Tryz.lays146_ren:={
  mixed:=by kernel_rfl
  f138:=Tryz.func342.trans (congrArg some (by kernel_rfl))
  f143:=Tryz.func343.trans (congrArg some (by kernel_rfl))
  f146:=Tryz.func310.trans (congrArg some (by kernel_rfl))
  f195:=Tryz.func351.trans (congrArg some (by kernel_rfl))
  f197:=Tryz.func352.trans (congrArg some (by kernel_rfl))
  f217:=Tryz.func362.trans (congrArg some (by kernel_rfl))
  f218:=Tryz.func353.trans (congrArg some (by kernel_rfl))
  f219:=Tryz.func354.trans (congrArg some (by kernel_rfl))
  f221:=Tryz.func326.trans (congrArg some (by kernel_rfl))
  f224:=Tryz.func364.trans (congrArg some (by kernel_rfl))
  f225:=Tryz.func363.trans (congrArg some (by kernel_rfl))
  f260:=Tryz.func361.trans (congrArg some (by kernel_rfl))
  f266:=Tryz.func368.trans (congrArg some (by kernel_rfl))
  f267:=Tryz.func365.trans (congrArg some (by kernel_rfl))
  f268:=Tryz.func341.trans (congrArg some (by kernel_rfl))
  f314:=Tryz.func369.trans (congrArg some (by kernel_rfl))
  t0:=Tryz.underlying0
  a0:=Tryz.isAgg0
  z0:=Tryz.sizeOf0
  v0:=Tryz.zeroValue0
  t3:=Tryz.underlying3
  a3:=Tryz.isAgg3
  z3:=Tryz.sizeOf3
  v3:=Tryz.zeroValue3
  t4:=Tryz.underlying4
  a4:=Tryz.isAgg4
  z4:=Tryz.sizeOf4
  v4:=Tryz.zeroValue4
  t5:=Tryz.underlying5
  a5:=Tryz.isAgg5
  z5:=Tryz.sizeOf5
  v5:=Tryz.zeroValue5
  t9:=Tryz.underlying9
  a9:=Tryz.isAgg9
  z9:=Tryz.sizeOf9
  v9:=Tryz.zeroValue9
  t21:=Tryz.underlying21
  a21:=Tryz.isAgg21
  z21:=Tryz.sizeOf21
  v21:=Tryz.zeroValue21
  t31:=Tryz.underlying106
  a31:=Tryz.isAgg106
  z31:=Tryz.sizeOf106
  v31:=Tryz.zeroValue106
  t46:=Tryz.underlying277
  a46:=Tryz.isAgg277
  z46:=Tryz.sizeOf277
  v46:=Tryz.zeroValue277
  t51:=Tryz.underlying125
  a51:=Tryz.isAgg125
  z51:=Tryz.sizeOf125
  v51:=Tryz.zeroValue125
  t105:=Tryz.underlying433
  a105:=Tryz.isAgg433
  z105:=Tryz.sizeOf433
  v105:=Tryz.zeroValue433
  t119:=Tryz.underlying442
  a119:=Tryz.isAgg442
  z119:=Tryz.sizeOf442
  t138:=Tryz.underlying444
  a138:=Tryz.isAgg444
  z138:=Tryz.sizeOf444
  v138:=Tryz.zeroValue444
  t139:=Tryz.underlying445
  a139:=Tryz.isAgg445
  z139:=Tryz.sizeOf445
  v139:=Tryz.zeroValue445
  t146:=Tryz.underlying446
  a146:=Tryz.isAgg446
  z146:=Tryz.sizeOf446
  v146:=Tryz.zeroValue446
  g1:=by kernel_rfl
  g3:=by kernel_rfl
  g4:=by kernel_rfl}
open Go.RowKit Go.Lib in
theorem Tryz.strings_Split (s sep:ByteArray) (m:Int) (w:World) (hs:s.size<4294967281) (hm:w.cell? ⟨0,0,none⟩=some (.int .i64 m)) (h1:1<=sep.size) :
    Calls Tryz.prog 310 #[.string s, .string sep] w fun e w'=>
      e = .returned (.slice (some ⟨w.heap.size,0,none⟩) (Lib.countB s sep+1) (Lib.countB s sep+1))/\w'=w.alloc (.cells ((Lib.splitB sep 0 (Lib.countB s sep) s).map Value.string).toArray 9):=Any.strings_Split Tryz.lays146 (by kernel_rfl) s sep m w hs hm h1
end Go.Proofs
namespace Go.SW
open Go.Proofs
theorem strings_Split (H:Hp) (s p:Bs) (hp:p=[46]) (hML:GInt H 0) (hs:s.length<4294967281):Ph Tryz.prog 310 #[str s,str p] H (fun v H'=>∃ (a:Option Addr) (c:Nat),v = .slice a (dots s).length c/\SlH strE 1 H' (.slice a (dots s).length c) (dots s)):=by
  subst hp
  refine ph_strs (T:=9) (fun w hw=>by have :=Mz_ s w hw;omega) fun N L w hm=>?_
  obtain⟨m,hc⟩:=hML.cell hm
  refine (Tryz.strings_Split ⟨s.toArray⟩ ⟨#[46]⟩ m w (by simpa [Hu_] using hs) hc (by decide)).mono fun e w' ⟨he,hw⟩=>⟨?_,?_⟩
  · rw[he,Qt_]
  · rw[hw,Pq_]
theorem strings_SplitL (H:Hp) (s p:Bs) (hp:p=[10]) (hML:GInt H 0) (hs:s.length<4294967281):Ph Tryz.prog 310 #[str s,str p] H (fun v H'=>∃ (a:Option Addr) (c:Nat),v = .slice a (cuts 10 s).length c/\SlH strE 1 H' (.slice a (cuts 10 s).length c) (cuts 10 s)):=by
  subst hp
  refine ph_strs (T:=9) (fun w hw=>by have :=My_ 10 s w hw;omega) fun N L w hm=>?_
  obtain⟨m,hc⟩:=hML.cell hm
  refine (Tryz.strings_Split ⟨s.toArray⟩ ⟨#[10]⟩ m w (by simpa [Hu_] using hs) hc (by decide)).mono fun e w' ⟨he,hw⟩=>⟨?_,?_⟩
  · rw[he,Vv_]
  · rw[hw,Pp_]
theorem ag192:Ag Tryz.prog 192 false:=fun w=>by kernel_rfl
theorem ag9:Ag Tryz.prog 9 false:=fun w=>by kernel_rfl
theorem cb184:O_ Tryz.prog 184:=K_ Tryz.func184 (by kernel_rfl) (by kernel_rfl)
theorem U1_:Fld Tryz.prog 195 0 0:=fun b o w=>by kernel_rfl
theorem Z0_:liesAt Tryz.prog Tryz.prog.depth 195 (2/Tryz.prog.cellsOf 195) 0 195 1=true:=by kernel_rfl
theorem ne244:NoEsc Tryz.prog 244:=noEsc_of Tryz.func244 (by kernel_rfl) (by kernel_rfl) (by kernel_rfl) (by kernel_rfl)
theorem sz192:Sz Tryz.prog 192 1:=fun w=>by kernel_rfl
theorem sz9:Sz Tryz.prog 9 1:=fun w=>by kernel_rfl
theorem ti195:∃ j,Tryz.prog.info? 195=some j:=Option.isSome_iff_exists.1 (by kernel_rfl)
theorem tz195:∃ j,Tryz.prog.info? 195=some j/\j.size≠0:=exInfo (by kernel_rfl)
set_option maxRecDepth 100000 in
theorem copyCheck {n:Nat} {N:Rest} {F:Fr} {H:Hp} {L:Ls} {ops:List Oper} {ty d:Nat} {pos:String} {af:Array Edge} {K:Fr->Hp->Ls->Prop} {x:Operand} {ats:Array TypeId} {b:Nat} {p v:Value} (i:Nat) (hx:ev F x = .pointer (some ⟨b,0,none⟩)) (hi:L i=some (b,bx 195 [p,v]))
    (hp:p = .pointer none\/p = .pointer (some ⟨b,0,none⟩)) (hd:Nat.blt d n=true) (k:K (upd F d (.tuple #[])) H (lupd L i (some (b,bx 195 [.pointer (some ⟨b,0,none⟩),v])))):Op1 Tryz.prog n N ops ⟨some d, .call ⟨.value (.func 184),#[x],ats⟩,ty,pos,af,none⟩ K F H L:=by
  refine op1_in (en_f (vs:=[.pointer (some ⟨b,0,none⟩)]) cb184 (by simp[evs,hx])) Tryz.func184 rfl Tryz.ntmps184 rfl hd (G3_ (Dn_ (ol rfl (G9_ (v:= .pointer (some ⟨_,_,none⟩)) rfl) (ol rfl (Er_ rfl) (ol rfl (Cw_ rfl U1_) ?_)))))
  refine ol rfl (H3_ (i:=i) (v:=p) rfl ag192 hi rfl) ?_
  rcases hp with rfl|rfl
  · refine ol rfl (lo_pnil rfl rfl Tryz.underlying192) (Ho_ (G6_ (Yq_ rfl rfl (Dn_ (ol rfl (G9_ (v:= .pointer (some ⟨_,_,none⟩)) rfl) ?_)))))
    refine ol rfl (G9_ (v:= .pointer (some ⟨_,_,none⟩)) rfl) (ol rfl (Vg_ (i:=i) rfl hi rfl Tryz.underlying192 Tryz.underlying346 (tz195).choose_spec.1 (tz195).choose_spec.2) (ol rfl (lo_noEsc (v:= .pointer (some ⟨_,_,none⟩)) ne244 rfl) (ol rfl (Sd_ (i:=i) rfl hi Tryz.underlying346 Tryz.underlying192 (ti195).choose_spec Z0_) (ol rfl (Er_ rfl) (ol rfl (Cw_ rfl U1_) ?_)))))
    refine ow1 (Ib_ (i:=i) (v:= .pointer (some ⟨_,_,none⟩)) rfl rfl rfl sz192 hi rfl ?_)
    refine Ho_ ?_
    exact fnK_n (res0 rfl) (.refl _) k
  · refine ol rfl (Qk_ rfl rfl Tryz.underlying192) (Ho_ (G6_ (S0_ rfl rfl (G3_ (Dn_ ?_)))))
    refine ol rfl (G9_ (v:= .pointer (some ⟨_,_,none⟩)) rfl) (ol rfl (Er_ rfl) (ol rfl (Cw_ rfl U1_) (ol rfl (H3_ (i:=i) (v:= .pointer (some ⟨b,0,none⟩)) rfl ag192 hi rfl) (ol rfl (G9_ (v:= .pointer (some ⟨_,_,none⟩)) rfl) (ol rfl (Ve_ rfl rfl Tryz.underlying192 (ti195).choose_spec) ?_)))))
    refine Ho_ (G6_ (S0_ rfl rfl (Ux_ (fnK_n (res0 rfl) (.refl _) ?_))))
    rwa [Wr_ hi] at k
theorem sz5:Sz Tryz.prog 5 1:=fun w=>by kernel_rfl
theorem ag169:Ag Tryz.prog 169 true:=fun w=>by kernel_rfl
theorem ag193:Ag Tryz.prog 193 false:=fun w=>by kernel_rfl
theorem by5:By Tryz.prog 5 1:=by_of (by kernel_rfl)
theorem cb156:O_ Tryz.prog 156:=K_ Tryz.func156 (by kernel_rfl) (by kernel_rfl)
theorem cb97:O_ Tryz.prog 97:=K_ Tryz.func97 (by kernel_rfl) (by kernel_rfl)
theorem co5:Tryz.prog.cellsOf 5=1:=by kernel_rfl
theorem Y6_:Fld Tryz.prog 169 0 0:=fun b o w=>by kernel_rfl
theorem Ri_:Fld Tryz.prog 195 1 1:=fun b o w=>by kernel_rfl
theorem mixd:Tryz.prog.follows .mixedOrders=true:=by kernel_rfl
theorem sz169:Sz Tryz.prog 169 2:=fun w=>by kernel_rfl
theorem sz193:Sz Tryz.prog 193 1:=fun w=>by kernel_rfl
theorem zr169:Zr Tryz.prog 169 [str [], .int .i64 0]:=fun w=>⟨.agg #[str [], .int .i64 0],by kernel_rfl,rfl⟩
theorem zr195:Zr Tryz.prog 195 [.pointer none, .slice none 0 0]:=fun w=>⟨.agg #[.pointer none, .slice none 0 0],by kernel_rfl,rfl⟩
theorem zr5:Zr Tryz.prog 5 [.int .u8 0]:=fun w=>⟨.int .u8 0,by kernel_rfl,rfl⟩
theorem zx5:∃ z,∀ w,(zeroValue 5).run Tryz.prog w = .ok z w:=⟨.int .u8 0,fun w=>by kernel_rfl⟩
theorem out_Num (H:Hp) (o:Out) (n:Int) (n_r:0<=n/\n<=18446744073709551615) (bytes:Int) (bytes_r:-9223372036854775808<=bytes/\bytes<=9223372036854775807) (hlen:o.s.length<=4611686018427387904):Pr Tryz.prog 73 #[.agg (Out.cells o).toArray, .int .u64 n, .int .i64 bytes] H (.agg (Out.cells (C_ o n bytes)).toArray):=by
  refine pr_cw Tryz.func73 rfl Tryz.ntmps73 rfl (fun N=>?_)
  refine G3_ (Dn_ (ow1 (op1_box (cs:=[_,_]) 0 rfl rfl (fun b1=>?_))))
  refine ow1 (Pd_ 1 rfl zr169 (fun b2=>?_))
  refine Ho_ (G6_ (G3_ (Dn_ (ow1 (Pd_ 2 rfl zr195 (fun b3=>?_))))))
  refine Ho_ (G6_ (G3_ (G3_ (Dn_ (omi rfl rfl ?_)))))
  refine ol rfl (lo_max rfl rfl) (ol rfl (lo_min rfl rfl) (ol rfl (lo_sub rfl rfl (rg_i64 (by omega))) (oai rfl rfl (Ho_ (G6_ ?_)))))
  refine Q7_ ?_
  refine cw_loop5 [8,13,14,15,16,17,18,19,20,21,22] [2,3,4] (fun (j:Nat) (bs:Bs) (p:Value) (v:Value) (en:Option (Nat×Obj)) G=>upd (G) 8 (.int .i64 ((j:Int)-1))) (fun (j:Nat) (bs:Bs) (p:Value) (v:Value) (en:Option (Nat×Obj)) G=>lupd (lupd (G) 2 (some (b3,bx 195 [p,v]))) 3 (en)) (fun (j:Nat) (bs:Bs) (p:Value) (v:Value) (en:Option (Nat×Obj)) H'=>bs++numB j n.toNat=numB (numK bytes) n.toNat/\bs.length+j=numK bytes/\OwnV 1 5 v en bs.length (bs.map u8v)/\(bs.length=0->v = .slice none 0 0)/\(p = .pointer none\/p = .pointer (some ⟨b3,0,none⟩))) (fun (j:Nat) (bs:Bs) (p:Value) (v:Value) (en:Option (Nat×Obj))=>j) (numK bytes) [] (.pointer none) (.slice none 0 0) none (Un_ (Ql_ (by first|exact Wv_|(repeat (first|exact Wu_|refine off_upd rfl ?_|refine T4_ rfl ?_)))) (congrArg (Value.int .i64) (show min (max bytes 0) 8-1=((numK bytes:Nat):Int)-1 by unfold numK;omega))) (K0_ (K0_ (O5_ T5_) rfl) rfl) ?_ ?_
  · exact⟨rfl,by simp,Ml_,fun _=>rfl, .inl rfl⟩
  intro j bs p v en J5 JL5 H5 hp4 hl5
  obtain⟨hk1,hk2,ho,hz,hpp⟩:=hp4
  have hk8:numK bytes<=8:=by unfold numK;omega
  refine G3_ (G3_ (Dn_ (omi rfl rfl (ol rfl (lo_geq rfl rfl) (Ho_ ?_)))))
  refine G6_ (Q8_ rfl (fun h6=>?_) (fun h6=>?_))
  · have p7:=dt h6
    refine Ux_ (G6_ (G3_ (Q7_ (Dn_ (omi rfl rfl ?_)))))
    refine omi rfl rfl (ol rfl (lo_mul rfl rfl (rg_i64 (by omega))) (ol rfl (lo_shr rfl rfl (by omega)) ?_))
    have :=wr_u8 (Int.fdiv n (2 ^ (min ((8*((j:Int)-1)):Int).toNat (IntKind.bits .u64))))
    refine ol rfl (Vc_ rfl (by rw[Tryz.underlying22];rfl) Tryz.underlying5) ?_
    refine ow1 (op1_in (en_f cb156 rfl) Tryz.func156 rfl Tryz.ntmps156 rfl rfl ?_)
    refine G3_ (Dn_ (ol rfl (Ih_ rfl) (Ho_ (G6_ (G3_ ?_)))))
    refine Dn_ (ol rfl (G9_ (v:= .pointer (some ⟨_,_,none⟩)) rfl) ?_)
    refine ow1 (copyCheck 2 rfl rfl hpp rfl ?_)
    refine Ho_ (G6_ (G3_ (Dn_ (ol rfl (G9_ (v:= .pointer (some ⟨_,_,none⟩)) rfl) (ol rfl (G9_ (v:= .pointer (some ⟨_,_,none⟩)) rfl) ?_)))))
    refine ol rfl (Er_ rfl) (ol rfl (Cw_ rfl Ri_) (ol rfl (H3_ (i:=2) rfl ag193 rfl rfl) (omi rfl rfl ?_)))
    refine ow1 (Qm_ (cs:=[_]) 4 rfl Tryz.underlying193 sz5 zx5 rfl ⟨rfl,rfl,trivial⟩ rfl rfl (by decide) (fun b8=>?_))
    refine ow1 (op1_app 3 rfl rfl Tryz.underlying193 Tryz.underlying193 rfl sz5 by5 (by decide) zr5 ho (src_bx (i:=4) rfl rfl) (List.all_eq_true.1 rfl) rfl (by omega) rfl (fun v9 en10 ho11=>?_))
    have ho12:=byte_app (bs:=bs) ho11 (by first|rfl|simp) (wrap8r _)
    refine ol rfl (Er_ rfl) (ol rfl (Cw_ rfl Ri_) ?_)
    refine ow1 (Ib_ (i:=2) rfl rfl (ownV_one ho12) sz193 rfl rfl ?_)
    refine Ho_ (G6_ (G3_ (Dn_ (ol rfl (Ih_ rfl) (Ho_ ?_)))))
    refine G6_ (V6_ (fnK_r (res1 rfl (rv_t rfl)) (.refl _) (Ho_ (blkK_n (G6_ ?_)))))
    refine Dn_ (omi rfl rfl (ol rfl (lo_sub rfl rfl (rg_i64 (by omega))) (oai rfl rfl (Ho_ ?_))))
    refine next5 (j-1) (bs++[UInt8.ofNat ((IntKind.wrap .u8 (Int.fdiv n (2 ^ (min ((8*((j:Int)-1)):Int).toNat (IntKind.bits .u64)))))).toNat]) (.pointer (some ⟨b3,0,none⟩)) v9 en10 (Un_ (Ql_ (by first|exact Wv_|(repeat (first|exact Wu_|refine off_upd rfl ?_|refine T4_ rfl ?_)))) (congrArg (Value.int .i64) (show ((j:Int)-1)-1=((j-1:Nat):Int)-1 by omega))) (K0_ (K0_ (O5_ (by first|exact T5_|(repeat (first|exact offl_mask|refine offl_upd rfl ?_|refine Xv_ rfl ?_)))) rfl) rfl) hl5 ?_ ?_
    · refine⟨?_,?_,ho12,(nz_of ho12 (by simp)), .inr rfl⟩
      · rw[byte_of n_r.1 (by omega) (by omega),List.append_assoc,<- hk1]
        obtain⟨q,rfl⟩:∃ q,j=q+1:=⟨j-1,by omega⟩
        simp[numB]
      simp;omega
    omega
  have p13:=df h6
  refine Yr_ (seqK_e (loopK_e (blkK_hit (G6_ (G3_ ?_)))))
  refine Yp_ 3 mixd (vw_q 0 rfl (by kernel_rfl) (by repeat (first|exact G4_|exact LLe.refl _|exact Em_|refine Hl_ ?_ rfl)) (fun _ _ hh hl=>Cw_ rfl Y6_) ?_)
  refine vw_q 1 rfl (by kernel_rfl) (by repeat (first|exact G4_|exact LLe.refl _|exact Em_|refine Hl_ ?_ rfl)) (fun _ _ hh hl=>H3_ (i:=0) (v:=str _) rfl ag9 (hl _ _ rfl) rfl) ?_
  refine vw_e 2 rfl (by kernel_rfl) (op1_in (en_f cb97 rfl) Tryz.func97 rfl Tryz.ntmps97 rfl rfl ?_)
  refine G3_ (Dn_ (ol rfl (Ih_ (v:=str _) rfl) (Ho_ (G6_ (G3_ ?_)))))
  refine Yp_ 3 mixd ?_
  refine vw_q 0 rfl (by kernel_rfl) (by repeat (first|exact G4_|exact LLe.refl _|exact Em_|refine Hl_ ?_ rfl)) (fun _ _ hh hl=>G9_ (v:= .pointer (some ⟨_,_,none⟩)) rfl) ?_
  refine vw_q 1 rfl (by kernel_rfl) (by repeat (first|exact G4_|exact LLe.refl _|exact Em_|refine Hl_ ?_ rfl)) (fun _ _ hh hl=>Er_ rfl) ?_
  refine vw_q 2 rfl (by kernel_rfl) (by repeat (first|exact G4_|exact LLe.refl _|exact Em_|refine Hl_ ?_ rfl)) (fun _ _ hh hl=>Cw_ rfl Ri_) ?_
  refine vw_q 3 rfl (by kernel_rfl) (by repeat (first|exact G4_|exact LLe.refl _|exact Em_|refine Hl_ ?_ rfl)) (fun _ _ hh hl=>H3_ (i:=2) rfl ag193 (hl _ _ rfl) rfl) ?_
  refine vw_q 4 rfl (by kernel_rfl) (by repeat (first|exact G4_|exact LLe.refl _|exact Em_|refine Hl_ ?_ rfl)) (fun _ _ hh hl=>lo_usd rfl ho hz) ?_
  refine vw_q 5 rfl (by kernel_rfl) (by repeat (first|exact G4_|exact LLe.refl _|exact Em_|refine Hl_ ?_ rfl)) (fun _ _ hh hl=>G9_ (v:= .pointer (some ⟨_,_,none⟩)) rfl) ?_
  refine vw_q 6 rfl (by kernel_rfl) (by repeat (first|exact G4_|exact LLe.refl _|exact Em_|refine Hl_ ?_ rfl)) (fun _ _ hh hl=>Er_ rfl) ?_
  refine vw_q 7 rfl (by kernel_rfl) (by repeat (first|exact G4_|exact LLe.refl _|exact Em_|refine Hl_ ?_ rfl)) (fun _ _ hh hl=>Cw_ rfl Ri_) ?_
  refine vw_q 8 rfl (by kernel_rfl) (by repeat (first|exact G4_|exact LLe.refl _|exact Em_|refine Hl_ ?_ rfl)) (fun _ _ hh hl=>H3_ (i:=2) rfl ag193 (hl _ _ rfl) rfl) ?_
  refine vw_q 9 rfl (by kernel_rfl) (by repeat (first|exact G4_|exact LLe.refl _|exact Em_|refine Hl_ ?_ rfl)) (fun _ _ hh hl=>Qj_ rfl ho Tryz.underlying193) ?_
  refine vw_e 10 rfl (by kernel_rfl) (op1_ustr (l:=bs) 3 rfl rfl Tryz.underlying289 co5 ho hz (by have hq:=Bc_ (numK bytes) n.toNat;simp[numK] at *;omega) rfl ?_)
  refine⟨⟨(.refl _),(by repeat (first|exact G4_|exact LLe.refl _|exact Em_|refine Hl_ ?_ rfl))⟩,?_⟩
  refine vw_q 11 rfl (by kernel_rfl) (by repeat (first|exact G4_|exact LLe.refl _|exact Em_|refine Hl_ ?_ rfl)) (fun _ _ hh hl=>Ih_ (v:=str _) rfl) ?_
  refine V0_ (by kernel_rfl) (G6_ (V6_ (fnK_r (res1 rfl (rv_t (v:=str _) rfl)) (.refl _) ?_)))
  refine⟨⟨(.refl _),(by repeat (first|exact G4_|exact LLe.refl _|exact Em_|refine Hl_ ?_ rfl))⟩,?_⟩
  refine vw_q 3 rfl (by kernel_rfl) (by repeat (first|exact G4_|exact LLe.refl _|exact Em_|refine Hl_ ?_ rfl)) (fun _ _ hh hl=>lo_cat rfl rfl (by have hq:=Bc_ (numK bytes) n.toNat;simp[numK] at *;omega)) ?_
  refine vw_q 4 rfl (by kernel_rfl) (by repeat (first|exact G4_|exact LLe.refl _|exact Em_|refine Hl_ ?_ rfl)) (fun _ _ hh hl=>Cw_ rfl Y6_) ?_
  refine vw_t 5 rfl (by kernel_rfl) (by kernel_rfl) (Ib_ (i:=0) (v:=str _) rfl rfl rfl sz9 rfl rfl ?_)
  refine V0_ (by kernel_rfl) (G6_ (G3_ (Dn_ (ol rfl (N4_ (i:=0) (vs:=[_,_]) rfl ag169 sz169 rfl rfl rfl) ?_))))
  refine ow1 (Qn_ (i:=1) (vs:=[_,_]) rfl rfl rfl sz169 rfl rfl rfl ?_)
  refine Ho_ (G6_ (V6_ (fnK_r (res1 rfl (rv_c (i:=1) (vs:=[_,_]) rfl ag169 sz169 rfl rfl rfl)) ((HLe.refl _).trans hl5) ?_)))
  obtain rfl :j=0:=by omega
  simp only[numB,List.append_nil] at hk1
  subst hk1
  rfl
end Go.SW
namespace Go.SW.V
open Go.SW Go.Proofs
def gb:Gb:=⟨fun H=>GInt H 0/\GPow H 1,fun H H' hl h=>⟨h.1.mono hl,h.2.mono hl⟩⟩
theorem gbML {H:Hp} (h:gb.p H):GInt H 0:=h.1
theorem gbPow {H:Hp} (h:gb.p H):GPow H 1:=h.2
abbrev ty9:TI:=⟨.str,1,16,[.str []]⟩
def tbv1:Tb:=[(9,ty9)]
theorem tv1:tbB Tryz.prog tbv1=true:=by kernel_rfl
theorem r4_letter (c:Int):Fn Tryz.prog gb 187 [.int .u8 c] (.bool (letter c)):=by
  refine fC Tryz.func187 tv1 Tryz.ntmps187 fun w N H hG=>?_;refine gy tv1 33 ?_;refine rt1 rfl rfl (ple ?_)
  simp[letter, *]
theorem Pv_ (s:Bs):Fn Tryz.prog gb 190 [.str s] (.bool (plain s)):=by
  refine fC Tryz.func190 tv1 Tryz.ntmps190 fun w N H hG=>?_;have s_l:s.length<=9223372036854775807:=w.1;refine gx tv1 14 ?_;refine loop (ι:=Nat) [0,5,6] [] (fun k=>[(7, .int .i64 (k:Int))]) (fun k=>[]) (fun k=>k<=s.length/\(s.drop k).all (fun c=>letter c.toNat)=plain s) (fun k=>s.length-k) 0 ⟨rfl,trivial⟩ trivial ?_ ?_
  · exact⟨by omega,rfl⟩
  rintro k hp1;obtain⟨hk1,hk2⟩:=hp1;refine gx tv1 6 ?_;refine cn rfl (fun p3=>?_) fun p21=>?_
  · have :=u8r (s.getD k 0);refine gx tv1 14 ?_;refine q1 (sidx tv1 k rfl rfl rfl rfl rfl (by omega)) rfl fun w4=>?_;refine gy tv1 16 ?_;refine cnd rfl (fun h5=>?_) (fun h5=>?_)
    · have h6:=bl h5;have p7:=dt h6;have h8:=br h5;have p9:=dt h8;refine gx tv1 2 ?_;refine cndT rfl h5 ?_;refine gy tv1 8 ?_;refine next (k+1) rfl rfl ⟨rfl,trivial⟩ trivial ?_ ?_
      · omega
      exact⟨by omega,by rw[<- hk2,Id_ (k:=k) (by omega),List.all_cons];generalize ((s.getD k 0).toNat:Int)=z at *;simp[letter, *]⟩
    refine gy tv1 11 ?_;refine cnd rfl (fun h10=>?_) (fun h10=>?_)
    · have h11:=bl h10;have p12:=dt h11;have h13:=br h10;have p14:=dt h13;refine gx tv1 2 ?_;refine cndT rfl h10 ?_;refine gy tv1 8 ?_;refine next (k+1) rfl rfl ⟨rfl,trivial⟩ trivial ?_ ?_
      · omega
      exact⟨by omega,by rw[<- hk2,Id_ (k:=k) (by omega),List.all_cons];generalize ((s.getD k 0).toNat:Int)=z at *;simp[letter, *]⟩
    refine gx tv1 7 ?_;refine cnd rfl (fun h15=>?_) (fun h15=>?_)
    · have p16:=dt h15;refine gx tv1 2 ?_;refine cndT rfl h15 ?_;refine gy tv1 8 ?_;refine next (k+1) rfl rfl ⟨rfl,trivial⟩ trivial ?_ ?_
      · omega
      exact⟨by omega,by rw[<- hk2,Id_ (k:=k) (by omega),List.all_cons];generalize ((s.getD k 0).toNat:Int)=z at *;simp[letter, *]⟩
    have p17:=df h15;refine gx tv1 6 ?_;refine cn rfl (fun p19=>?_) fun p20=>?_
    · refine gy tv1 8 ?_;refine next (k+1) rfl rfl ⟨rfl,trivial⟩ trivial ?_ ?_
      · omega
      exact⟨by omega,by rw[<- hk2,Id_ (k:=k) (by omega),List.all_cons];generalize ((s.getD k 0).toNat:Int)=z at *;simp[letter, *]⟩
    refine gx tv1 12 ?_;refine rt1 rfl rfl (ple ?_);refine congrArg PV.bool ?_;first|(rw[<- hk2,Id_ (k:=k) (by omega),List.all_cons];generalize ((s.getD k 0).toNat:Int)=z at *;simp[letter, *];done)|(rw[<- hk2,List.drop_of_length_le (by omega)];rfl)
  refine gx tv1 11 ?_;refine rt1 rfl rfl (ple ?_);refine congrArg PV.bool ?_;first|(rw[<- hk2,Id_ (k:=k) (by omega),List.all_cons];generalize ((s.getD k 0).toNat:Int)=z at *;simp[letter, *];done)|(rw[<- hk2,List.drop_of_length_le (by omega)];rfl)
theorem Cj_ (s:Bs):Fn Tryz.prog gb 109 [.str s] (.int .i64 (Dp_ s)):=by
  refine fC Tryz.func109 tv1 Tryz.ntmps109 fun w N H hG=>?_;refine gx tv1 14 ?_;refine cn rfl (fun p2=>?_) fun p3=>?_
  · refine gx tv1 8 ?_;refine rt1 rfl rfl (ple ?_)
    simp[Dp_, *]<;>omega
  refine gx tv1 8 ?_;refine cn rfl (fun p5=>?_) fun p6=>?_
  · refine gx tv1 8 ?_;refine rt1 rfl rfl (ple ?_)
    simp[Dp_, *]<;>omega
  refine gx tv1 3 ?_;refine call (Pv_ _) rfl rfl fun w7=>?_;refine gx tv1 4 ?_;refine cnd rfl (fun h8=>?_) (fun h8=>?_)
  · have h9:=Df_ h8;refine gx tv1 8 ?_;refine rt1 rfl rfl (ple ?_)
    simp[Dp_, *]<;>omega
  have h10:=Ds_ h8;refine gx tv1 9 ?_;refine rt1 rfl rfl (ple ?_)
  simp[Dp_, *]<;>omega
theorem cb73:O_ Tryz.prog 73:=K_ Tryz.func73 (by kernel_rfl) (by kernel_rfl)
abbrev ty3:TI:=⟨.int .i64,1,8,[.int .i64 0]⟩
abbrev ty22:TI:=⟨.int .u64,1,8,[.int .u64 0]⟩
abbrev ty78:TI:=⟨.int .i64,1,8,[.int .i64 0]⟩
abbrev ty169:TI:=⟨.agg [(0,1),(1,1)],2,24,[.str [], .int .i64 0]⟩
def tbv2:Tb:=[(3,ty3),(9,ty9),(22,ty22),(78,ty78),(169,ty169)]
theorem tv2:tbB Tryz.prog tbv2=true:=by kernel_rfl
theorem out_Num (o:Out) (n bytes:Int) (hlen:o.s.length<=4611686018427387904):Fn Tryz.prog gb 73 [.agg (Out.pc o), .int .u64 n, .int .i64 bytes] (.agg (Out.pc (C_ o n bytes))):=
  fn_of_pr (vs:=[.agg [str o.s, .int .i64 o.err].toArray, .int .u64 n, .int .i64 bytes]) (v:= .agg [str (C_ o n bytes).s, .int .i64 (C_ o n bytes).err].toArray) cb73 rfl rfl
    (fun w H=>Sims.cons (Sim.toAgg (Sims.cons (Sim.str w.1.1) (Sims.cons (Sim.int w.1.2.1.1 w.1.2.1.2) Sims.nil))) (Sims.cons (Sim.int w.2.1.1 w.2.1.2) (Sims.cons (Sim.int w.2.2.1.1 w.2.2.1.2) Sims.nil)))
    (fun w H=>Sim.toAgg (Sims.cons (Sim.str (by have :=Ac_ o n bytes;omega)) (Sims.cons (Sim.int w.1.2.1.1 w.1.2.1.2) Sims.nil)))
    (fun w H hG=>SW.out_Num H o n w.2.1 bytes w.2.2.1 hlen)
theorem Nc_ (o:Out) (s:Bs) (hlen:o.s.length+s.length<=4611686018427387904:=by ((try have :=hrl (by assumption));first|omega|(simp[C_,Bq_,Bc_,numK]<;>omega))):Fn Tryz.prog gb 77 [.agg (Out.pc o), .str s] (.agg (Out.pc (Bq_ o s))):=by
  refine fC Tryz.func77 tv2 Tryz.ntmps77 fun w N H hG=>?_;refine gmp tv2 23 [0,1] (fun _=>rfl) (fun _=>rfl) (fun _=>⟨(by first|omega|(simp<;>omega)),trivial⟩) fun B2=>?_;refine rt1 rfl rfl (ple ?_)
  rfl
theorem Cs_ (o:Out):Fn Tryz.prog gb 80 [.agg (Out.pc o)] (.str o.s):=by
  refine fC Tryz.func80 tv2 Tryz.ntmps80 fun w N H hG=>?_;refine gm tv2 14 [0] fun B2=>?_;refine rt1 rfl rfl (ple ?_)
  rfl
theorem C9_ (o:Out) (s:Bs) (hlen:o.s.length+s.length<=4611686018427386000:=by ((try have :=hrl (by assumption));first|omega|(simp[C_,Bq_,Bc_,numK]<;>omega))):Fn Tryz.prog gb 74 [.agg (Out.pc o), .str s] (.agg (Out.pc (E_ o s))):=by
  refine fC Tryz.func74 tv2 Tryz.ntmps74 fun w N H hG=>?_;refine gm tv2 14 [0,1] fun B2=>?_;refine cn rfl (fun p5=>?_) fun p11=>?_
  · refine gx tv2 8 ?_;refine cn rfl (fun p7=>?_) fun p9=>?_
    · refine gm tv2 13 [] fun _=>?_;refine rt1 rfl rfl (ple ?_)
      simp[E_,Out.pc, *]
    refine gm tv2 10 [] fun _=>?_;refine rt1 rfl rfl (ple ?_)
    simp[E_,Out.pc, *]
  refine gx tv2 7 ?_;refine q1 (qconv tv2 rfl rfl rfl rfl (Uc_ (by omega))) rfl fun w12=>?_;refine call (out_Num _ _ _ (by ((try have :=hrl (by assumption));first|omega|(simp[C_,Bq_,Bc_,numK]<;>omega)))) rfl rfl fun w13=>?_;have :=Ac_ o (s.length:Int) 2;refine gx tv2 1 ?_;refine call (Nc_ _ _) rfl rfl fun w14=>?_;have :=Gn_ (C_ o (s.length:Int) 2) s;refine gm tv2 4 [] fun _=>?_;refine rt1 rfl rfl (ple ?_)
  simp[E_,Out.pc, *]
theorem cb166:O_ Tryz.prog 166:=K_ Tryz.func166 (by kernel_rfl) (by kernel_rfl)
theorem cb81:O_ Tryz.prog 81:=K_ Tryz.func81 (by kernel_rfl) (by kernel_rfl)
theorem cb84:O_ Tryz.prog 84:=K_ Tryz.func84 (by kernel_rfl) (by kernel_rfl)
abbrev ty272:TI:=⟨.agg [(0,1),(1,1)],2,24,[.str [], .int .i64 0]⟩
def tbv3:Tb:=[(9,ty9),(78,ty78),(272,ty272)]
theorem tv3:tbB Tryz.prog tbv3=true:=by kernel_rfl
theorem octet_New (s:Bs):Fb Tryz.prog gb 81 [.str s] 272 (In.pc (⟨s,0⟩)):=by
  refine fb_cw tv3 Tryz.func81 rfl Tryz.ntmps81 rfl cb81 rfl rfl fun w N H hG=>?_;refine gm tv3 14 [0] fun B2=>?_;refine rb rfl rfl rfl rfl rfl ?_;exact W1_
theorem in_Fail (i:In) (code:Int):Fm Tryz.prog gb 166 [.int .i64 code] 272 (In.pc i) (.tup []) (In.pc (Gt_ i code)):=by
  refine fm_cw tv3 Tryz.func166 rfl Tryz.ntmps166 rfl cb166 rfl rfl rfl rfl fun w wp b N H hG=>?_;refine gx tv3 3 ?_;refine q1 (qpne Tryz.underlying177 rfl rfl) rfl fun w1=>?_;refine gy tv3 13 ?_;refine cnd rfl (fun h2=>?_) (fun h2=>?_)
  · have h3:=bl h2;have h4:=bl h3;have h5:=br h3;have p6:=dt h5;have h7:=br h2;have h8:=Df_ h7;have p9:=df h8;refine gm tv3 11 [] fun _=>?_;refine rm0n rfl rfl ?_ rfl rfl rfl ?_
    · exact ple (by first|rfl|(simp[Gt_, *];done))
    refine ples ?_
    first|rfl|(simp[Gt_,In.pc, *];done)|(simp only[Gt_];split<;>simp_all [In.pc])
  refine gx tv3 1 ?_;refine rm0n rfl rfl ?_ rfl rfl rfl ?_
  · exact ple (by first|rfl|(simp[Gt_, *];done))
  refine ples ?_
  first|rfl|(simp[Gt_,In.pc, *];done)|(simp only[Gt_];split<;>simp_all [In.pc])
theorem in_Raw (i:In) (n:Int):Fm Tryz.prog gb 84 [.int .i64 n] 272 (In.pc i) (.str ((Hi_ i n).1)) (In.pc ((Hi_ i n).2)):=by
  refine fm_cw tv3 Tryz.func84 rfl Tryz.ntmps84 rfl cb84 rfl rfl rfl rfl fun w wp b N H hG=>?_;refine gx tv3 11 ?_;refine q1 (qpeq Tryz.underlying177 rfl rfl) rfl fun w1=>?_;refine gx tv3 14 ?_;refine cnd rfl (fun h2=>?_) (fun h2=>?_)
  · have h3:=Df_ h2;have p4:=df h3;refine gx tv3 2 ?_;refine cndT rfl h2 ?_;refine gx tv3 8 ?_;refine rm1 rfl rfl ?_ rfl rfl rfl ?_
    · exact ple (by first|rfl|(simp[Hi_,Gt_, *];done))
    refine ples ?_
    first|rfl|(simp[Hi_,Gt_,In.pc, *];done)|(simp only[Hi_,Gt_];split<;>simp_all [In.pc])
  have h5:=Ds_ h2;have p6:=dt h5;refine gx tv3 6 ?_;refine cn rfl (fun p8=>?_) fun p9=>?_
  · refine gx tv3 8 ?_;refine rm1 rfl rfl ?_ rfl rfl rfl ?_
    · exact ple (by first|rfl|(simp[Hi_,Gt_, *];done))
    refine ples ?_
    first|rfl|(simp[Hi_,Gt_,In.pc, *];done)|(simp only[Hi_,Gt_];split<;>simp_all [In.pc])
  refine gx tv3 12 ?_;refine cn rfl (fun p11=>?_) fun p13=>?_
  · refine gx tv3 3 ?_;refine ef (ecallm (in_Fail _ _) rfl rfl rfl rfl rfl fun w12 w12p=>?_);refine gx tv3 10 ?_;refine rm1 rfl rfl ?_ rfl rfl rfl ?_
    · exact ple (by first|rfl|(simp[Hi_,Gt_, *];done))
    refine ples ?_
    first|rfl|(simp[Hi_,Gt_,In.pc, *];done)|(simp only[Hi_,Gt_];split<;>simp_all [In.pc])
  refine gx tv3 10 ?_;refine q1 (sshi tv3 (n).toNat rfl rfl rfl rfl (by omega) (by omega)) rfl fun w14=>?_;refine gx tv3 11 ?_;refine q1 (sslo tv3 (n).toNat rfl rfl rfl rfl (by omega) (by omega)) rfl fun w15=>?_;refine gm tv3 12 [] fun _=>?_;refine rm1 rfl rfl ?_ rfl rfl rfl ?_
  · exact ple (by first|rfl|(simp[Hi_,Gt_, *];done))
  refine ples ?_
  first|rfl|(simp[Hi_,Gt_,In.pc, *];done)|(simp only[Hi_,Gt_];split<;>simp_all [In.pc])
theorem cb310:O_ Tryz.prog 310:=K_ Tryz.func310 (by kernel_rfl) (by kernel_rfl)
abbrev Mw_:TI:=⟨.slc 9,1,24,[.sl strc []]⟩
def tbv4:Tb:=[(9,ty9),(106,Mw_)]
theorem tv4:tbB Tryz.prog tbv4=true:=by kernel_rfl
theorem strings_Split (s p:Bs) (hp:p=[46]) (hs:s.length<4294967281):Fn Tryz.prog gb 310 [.str s, .str p] (.sl strc (dots s)):=
  ⟨cb310,rfl,fun N H L w us hg hsim hm=>by
    obtain⟨v1,_,rfl,h1,h2⟩:=hsim.inv_cons;obtain⟨v2,_,rfl,h3,h4⟩:=h2.inv_cons
    cases h4.inv_nil
    rw[h1.inv_str.1,h3.inv_str.1]
    refine (SW.strings_Split H s p hp (gbML hg) hs N L w hm).mono fun _ _ ⟨v,H',h5,⟨a,c,h6,h7⟩,h8,h9⟩=>⟨v,H',h5,?_,h8,h9⟩
    rw[h6]
    exact Sim.of_slh (k:=1) ⟨h7.1,fun m hm=>by
      obtain⟨cs,hE,hat⟩:=h7.2 m hm;obtain⟨hE1,hE2⟩:=hE;subst hE1;exact⟨_,⟨rfl,Sims.nil.cons (Sim.str hE2),fun u hu=>by simp at hu;subst hu;rfl⟩,hat⟩⟩ (by have :=Yv_ s;omega)⟩
theorem L1_ (s:Bs) (hs:s.length<4294967281:=by omega):Fn Tryz.prog gb 295 [.str s] (.sl strc (Bj_ s)):=by
  refine fC Tryz.func295 tv4 Tryz.ntmps295 fun w N H hG=>?_;refine gx tv4 12 ?_;refine cn rfl (fun p2=>?_) fun p3=>?_
  · refine gx tv4 7 ?_;refine rt1 rfl rfl ?_;refine Jv_ ?_
    simp[Bj_, *]
  refine gx tv4 5 ?_;refine call (strings_Split _ _ (by rfl) (by omega)) rfl rfl fun w4=>?_;refine gx tv4 4 ?_;refine rt1 rfl rfl (ple ?_)
  simp[Bj_, *]
theorem Up_ (s:Bs) (besides:List Bs):Fn Tryz.prog gb 252 [.str s, .sl strc besides] (.int .i64 (keyE besides s)):=by
  refine fC Tryz.func252 tv4 Tryz.ntmps252 fun w N H hG=>?_;have s_l:s.length<=9223372036854775807:=w.1;have besides_l:besides.length<=140737488355328:=w.2.1.1;refine gx tv4 14 ?_;refine cn rfl (fun p2=>?_) fun p3=>?_
  · refine gx tv4 8 ?_;refine rt1 rfl rfl (ple ?_)
    simp[keyE, *]
  refine gx tv4 9 ?_;refine call (L1_ _) rfl rfl fun w4=>?_;refine gx tv4 5 ?_;refine loop (ι:=Nat) [0,1,9,10,11,12,13,14] [] (fun k=>[(15, .int .i64 (k:Int))]) (fun k=>[]) (fun k=>k<=(Bj_ s).length/\(Bj_ s).any (Ru_ besides)=((Bj_ s).drop k).any (Ru_ besides)) (fun k=>(Bj_ s).length-k) 0 ⟨rfl,trivial⟩ trivial ?_ ?_
  · exact⟨Nat.zero_le _,by simp⟩
  rintro k hp5;obtain⟨hk1,hk2⟩:=hp5;have hwl:=Sr_ s;refine gx tv4 6 ?_;refine cn rfl (fun p7=>?_) fun p26=>?_
  · obtain⟨c8,hc9⟩:=getE (xs:=Bj_ s) (m:=k) (by omega);have c8_l:c8.length<=9223372036854775807:=(w4.2 c8 (List.mem_of_getElem? hc9)).1;refine gx tv4 6 ?_;refine q1 (qidx tv4 k rfl rfl rfl hc9 rfl rfl rfl rfl) rfl fun w10=>?_;refine gx tv4 13 ?_;refine loop (ι:=Nat) [0,1,6,9,10,11,12,13,14,15,16,17,18,19,20] [] (fun j=>[(21, .int .i64 (j:Int))]) (fun j=>[]) (fun j=>j<=besides.length/\besides.contains c8=(besides.drop j).contains c8) (fun j=>besides.length-j) 0 ⟨rfl,trivial⟩ trivial ?_ ?_
    · exact⟨Nat.zero_le _,by simp⟩
    rintro j hp11;obtain⟨hj1,hj2⟩:=hp11;refine gx tv4 6 ?_;refine cn rfl (fun p13=>?_) fun p20=>?_
    · obtain⟨c14,hc15⟩:=getE (xs:=besides) (m:=j) (by omega);have c14_l:c14.length<=9223372036854775807:=(w.2.1.2 c14 (List.mem_of_getElem? hc15)).1;refine gx tv4 6 ?_;refine q1 (qidx tv4 j rfl rfl rfl hc15 rfl rfl rfl rfl) rfl fun w16=>?_;refine gx tv4 11 ?_;refine cn rfl (fun p18=>?_) fun p19=>?_
      · refine gy tv4 12 ?_;refine next (k+1) rfl rfl ⟨rfl,trivial⟩ trivial ?_ ?_
        · omega
        refine⟨by omega,?_⟩
        rw[hk2,Dc_ hc9,List.any_cons]
        have hb:Ru_ besides c8=false:=by
          unfold Ru_
          rw[hj2,Dc_ hc15]
          first|(simp[*];done)|simp_all
        simp[hb]
      refine gy tv4 7 ?_;refine next (j+1) rfl rfl ⟨rfl,trivial⟩ trivial ?_ ?_
      · omega
      refine⟨by omega,?_⟩
      rw[hj2,Dc_ hc15,List.contains_cons]
      simp[*]
    refine gx tv4 11 ?_;refine callg rfl (fun hc=>(Pv_ _)) rfl ⟨(fun hc=>hc),trivial⟩ rfl rfl fun _=>?_;refine gy tv4 4 ?_;refine cnd rfl (fun h21=>?_) (fun h21=>?_)
    · refine gx tv4 12 ?_;refine rt1 rfl rfl (ple ?_);have hb:Ru_ besides c8=true:=by
        unfold Ru_
        rw[hj2,List.drop_of_length_le (by omega)]
        first|(simp[*];done)|simp_all
      unfold keyE
      rw[if_neg (by omega),hk2,Dc_ hc9,List.any_cons,hb]
      rfl
    have h22:=orl h21;have p23:=df h22;have h24:=orr h21;have h25:=Ds_ h24;refine gy tv4 7 ?_;refine next (k+1) rfl rfl ⟨rfl,trivial⟩ trivial ?_ ?_
    · omega
    refine⟨by omega,?_⟩
    rw[hk2,Dc_ hc9,List.any_cons]
    have hb:Ru_ besides c8=false:=by
      unfold Ru_
      rw[hj2,List.drop_of_length_le (by omega)]
      first|(simp[*];done)|simp_all
    simp[hb]
  refine gx tv4 12 ?_;refine rt1 rfl rfl (ple ?_)
  unfold keyE
  rw[if_neg (by omega),hk2,List.drop_of_length_le (by omega)]
  rfl
theorem Uo_ (s:Bs):Fn Tryz.prog gb 192 [.str s] (.int .i64 (keyE [] s)):=by
  refine fC Tryz.func192 tv4 Tryz.ntmps192 fun w N H hG=>?_;refine gx tv4 8 ?_;refine call (Fn.le (Up_ _ []) (A_ (ple rfl) (A_ M_ R_)) (ple rfl) rfl) rfl rfl fun w1=>?_;refine gx tv4 4 ?_;refine rt1 rfl rfl (ple ?_)
  rfl
theorem ag2:Ag Tryz.prog 2 false:=fun w=>by kernel_rfl
theorem ag5:Ag Tryz.prog 5 false:=fun w=>by kernel_rfl
theorem ag9:Ag Tryz.prog 9 false:=fun w=>by kernel_rfl
theorem eqg268:Tryz.prog.eqGuardType Tryz.prog.depth 268=false:=by kernel_rfl
theorem mixd:Tryz.prog.follows .mixedOrders=true:=by kernel_rfl
theorem veq268 (p q:Pair):∀ (H:Hp) (vs us:List Value),Sims H (Pair.pc p) vs->Sims H (Pair.pc q) us->EqV Tryz.prog 10000 268 (.agg vs.toArray) (.agg us.toArray) (decide (p=q)):=by
  intro H vs us hv hu;obtain⟨_,_,rfl,v0,v_0⟩:=hv.inv_cons;obtain⟨_,_,rfl,v1,v_1⟩:=v_0.inv_cons;obtain⟨_,_,rfl,v2,v_2⟩:=v_1.inv_cons;obtain⟨_,_,rfl,v3,v_3⟩:=v_2.inv_cons
  cases v_3.inv_nil
  cases v0.inv_str.1;cases v1.inv_int.1;cases v2.inv_int.1;cases v3.inv_str.1
  obtain⟨_,_,rfl,u0,u_0⟩:=hu.inv_cons;obtain⟨_,_,rfl,u1,u_1⟩:=u_0.inv_cons;obtain⟨_,_,rfl,u2,u_2⟩:=u_1.inv_cons;obtain⟨_,_,rfl,u3,u_3⟩:=u_2.inv_cons
  cases u_3.inv_nil
  cases u0.inv_str.1;cases u1.inv_int.1;cases u2.inv_int.1;cases u3.inv_str.1
  exact EqV.to' (Rf_ Tryz.underlying268 (by kernel_rfl) (M0_ (by decide) ag9 rfl rfl (M1_ Tryz.underlying9) (M0_ (by decide) ag5 rfl rfl (Lf_ Tryz.underlying5) (M0_ (by decide) ag2 rfl rfl (Lf_ Tryz.underlying2) (M0_ (by decide) ag9 rfl rfl (M1_ Tryz.underlying9) Rd_))))) (by obtain⟨a0,a1,a2,a3⟩:=p;obtain⟨b0,b1,b2,b3⟩:=q;rw[Bool.eq_iff_iff];simp)
abbrev ty2:TI:=⟨.int .i64,1,8,[.int .i64 0]⟩
abbrev ty5:TI:=⟨.int .u8,1,1,[.int .u8 0]⟩
abbrev ty67:TI:=⟨.slc 268,1,24,[.sl Pair.pc []]⟩
abbrev ty268:TI:=⟨.agg [(0,1),(1,1),(2,1),(3,1)],4,48,[.str [], .int .u8 0, .int .i64 0, .str []]⟩
def tbv5:Tb:=[(2,ty2),(5,ty5),(9,ty9),(67,ty67),(268,ty268)]
theorem tv5:tbB Tryz.prog tbv5=true:=by kernel_rfl
theorem Y1_ (a:List Pair) (b:List Pair):Fn Tryz.prog gb 279 [.sl Pair.pc a, .sl Pair.pc b] (.bool (decide (a=b))):=by
  refine fC Tryz.func279 tv5 Tryz.ntmps279 fun w N H hG=>?_;have a_l:a.length<=140737488355328:=w.1.1;have b_l:b.length<=140737488355328:=w.2.1.1;refine gx tv5 15 ?_;refine cnd rfl (fun h1=>?_) (fun h1=>?_)
  · have h2:=Df_ h1;have p3:=df h2;refine gx tv5 7 ?_;refine rt1 rfl rfl (ple ?_);exact congrArg PV.bool (Y0_ (by assumption)).symm
  have h4:=Ds_ h1;have p5:=dt h4;refine gx tv5 11 ?_;refine loop (ι:=Nat) [0,1,6,7,8,9,10,11,12] [] (fun k=>[(13, .int .i64 (k:Int))]) (fun k=>[]) (fun k=>k<=a.length /\ decide (a=b) = decide (a.drop k=b.drop k)) (fun k=>a.length-k) 0 ⟨rfl,trivial⟩ trivial ?_ ?_
  · exact⟨Nat.zero_le _,rfl⟩
  rintro k hp6;obtain⟨hk1,hk2⟩:=hp6;refine gx tv5 6 ?_;refine cnd rfl (fun h7=>?_) (fun h7=>?_)
  · have p8:=dt h7;refine gx tv5 11 ?_;refine aN [0,1,2,3,4,5] 9 mixd ?_;refine gX tv5 [0,1] 7 ?_;obtain⟨c9,hc10⟩:=getE (xs:=a) (m:=k) (by omega);have c9_w:=Pair.pwf (w.1.2 c9 (List.mem_of_getElem? hc10));refine vq 2 (qidx tv5 k rfl rfl rfl hc10 rfl rfl rfl rfl) rfl (by kernel_rfl) rfl fun w11=>?_;refine gX tv5 [3,4,5] 3 ?_;obtain⟨c12,hc13⟩:=getE (xs:=b) (m:=k) (by omega);have c12_w:=Pair.pwf (w.2.1.2 c12 (List.mem_of_getElem? hc13));refine vq 6 (qidx tv5 k rfl rfl rfl hc13 rfl rfl rfl rfl) rfl (by kernel_rfl) rfl fun w14=>?_;refine gX tv5 [7] 1 ?_;refine vq 8 (sane rfl rfl eqg268 (veq268 c9 c12)) rfl (by kernel_rfl) rfl fun w15=>?_;refine vD ?_;refine gx tv5 1 ?_;refine cnd rfl (fun h16=>?_) (fun h16=>?_)
    · have h17:=Df_ h16;have p18:=df h17;refine gx tv5 11 ?_;refine rt1 rfl rfl (ple ?_);exact congrArg PV.bool (V8_ hk2 (Dc_ hc10) (Dc_ hc13) (by assumption)).symm
    have h19:=Ds_ h16;have p20:=dt h19;refine gy tv5 7 ?_;refine next (k+1) rfl rfl ⟨rfl,trivial⟩ trivial ?_ ?_
    · omega
    exact⟨by omega,V9_ hk2 (Dc_ hc10) (Dc_ hc13) (by assumption)⟩
  have p21:=df h7;refine gx tv5 11 ?_;refine rt1 rfl rfl (ple ?_);exact congrArg PV.bool (Yz_ hk2 (by omega) (by omega)).symm
theorem S9_ (a:List Pair) (b:List Pair):Fn Tryz.prog gb 250 [.sl Pair.pc a, .sl Pair.pc b] (.bool (decide (a=b))):=by
  refine fC Tryz.func250 tv5 Tryz.ntmps250 fun w N H hG=>?_;refine gx tv5 9 ?_;refine call (Y1_ _ _) rfl rfl fun w1=>?_;refine gx tv5 4 ?_;refine rt1 rfl rfl (ple ?_)
  rfl
theorem Zh_ (s:List Pair) (f:FuncId) (f_fst f_cap:List PV) (f_p:Pair->Bool) (f_h:∀ x,Fn Tryz.prog gb f (argsP.apL f_fst ((.agg (Pair.pc x))::f_cap)) (.bool (f_p x))):Fn Tryz.prog gb 293 [.sl Pair.pc s, .fn f f_fst f_cap] (.int .i64 (idxP f_p s)):=by
  refine fC Tryz.func293 tv5 Tryz.ntmps293 fun w N H hG=>?_;have s_l:s.length<=140737488355328:=w.1.1;refine gx tv5 14 ?_;refine loop (ι:=Nat) [0,1,6,7] [] (fun k=>[(8, .int .i64 (k:Int))]) (fun k=>[]) (fun k=>k<=s.length/\idxP f_p s=idxF f_p k (s.drop k)) (fun k=>s.length-k) 0 ⟨rfl,trivial⟩ trivial ?_ ?_
  · exact⟨Nat.zero_le _,rfl⟩
  rintro k hp1;obtain⟨hk1,hk2⟩:=hp1;refine gx tv5 6 ?_;refine cnd rfl (fun h2=>?_) (fun h2=>?_)
  · have p3:=dt h2;obtain⟨c4,hc5⟩:=getE (xs:=s) (m:=k) (by omega);have c4_w:=Pair.pwf (w.1.2 c4 (List.mem_of_getElem? hc5));refine gx tv5 15 ?_;refine q1 (qidx tv5 k rfl rfl rfl hc5 rfl rfl rfl rfl) rfl fun w6=>?_;refine gx tv5 1 ?_;refine call (f_h c4) rfl rfl fun w7=>?_;refine gx tv5 2 ?_;refine cnd rfl (fun h8=>?_) (fun h8=>?_)
    · refine gx tv5 12 ?_;refine rt1 rfl rfl (ple ?_);exact congrArg (PV.int .i64) (Jt_ hk2 (Dc_ hc5) (by assumption)).symm
    refine gy tv5 7 ?_;refine next (k+1) rfl rfl ⟨rfl,trivial⟩ trivial ?_ ?_
    · omega
    exact⟨by omega,H2_ hk2 (Dc_ hc5) (by assumption)⟩
  have p9:=df h2;refine gx tv5 11 ?_;refine rt1 rfl rfl (ple ?_);exact congrArg (PV.int .i64) (Js_ hk2 (by omega)).symm
theorem Xk_ (p:Pair) (key:Bs):Fn Tryz.prog gb 294 [.agg (Pair.pc p), .el [.str key] 0] (.bool (decide (p.key=key))):=by
  refine fC Tryz.func294 tv5 Tryz.ntmps294 fun w N H hG=>?_;refine gm tv5 16 [0] fun B2=>?_;refine rt1 rfl rfl (ple ?_)
  rfl
theorem S8_ (h:List Pair) (key:Bs):Fn Tryz.prog gb 251 [.sl Pair.pc h, .str key] (.tup [.agg (Pair.pc ((P0_ h key).getD Pair.zero)), .bool ((P0_ h key).isSome)]):=by
  refine fC Tryz.func251 tv5 Tryz.ntmps251 fun w N H hG=>?_;refine gm tv5 10 [0,1] fun B2=>?_;refine freeze (i:=0) (t:=3) rfl rfl rfl rfl ?_;refine gx tv5 1 ?_;refine call (Zh_ _ _ _ _ (fun z_4:Pair=>decide (z_4.key=key)) (fun z_4=>Xk_ z_4 key)) rfl rfl fun w5=>?_;have hix5:=Gm_ (fun z_4:Pair=>decide (z_4.key=key)) h;refine gx tv5 10 ?_;refine cn rfl (fun p7=>?_) fun p9=>?_
  · refine gm tv5 9 [] fun _=>?_;refine rt2 rfl rfl ?_;refine ple ?_;have e:=Rr_ (by assumption);have e2:P0_ h key=none:=by unfold P0_;rw[<- e];congr 1;funext x;exact O4_ _ _
    rw[e2];rfl
  obtain⟨c10,hc11⟩:=getE (xs:=h) (m:=(idxP (fun z_4:Pair=>decide (z_4.key=key)) h).toNat) (by omega);have c10_w:=Pair.pwf (w.1.2 c10 (List.mem_of_getElem? hc11));refine gx tv5 6 ?_;refine q1 (qidx tv5 (idxP (fun z_4:Pair=>decide (z_4.key=key)) h).toNat rfl rfl (by omega) hc11 rfl rfl rfl rfl) rfl fun w12=>?_;refine gm tv5 6 [] fun _=>?_;refine rt2 rfl rfl ?_;refine ple ?_;have e:=(Wg_ (by assumption) hc11).2;have e2:P0_ h key=some c10:=by unfold P0_;rw[<- e];congr 1;funext x;exact O4_ _ _
  rw[e2];rfl
theorem Zf_ (p:Pair) (ahead:List Pair):Fn Tryz.prog gb 191 [.agg (Pair.pc p), .sl Pair.pc ahead] (.int .i64 (Ga_ p ahead)):=by
  refine fC Tryz.func191 tv5 Tryz.ntmps191 fun w N H hG=>?_;refine gm tv5 11 [0] fun B2=>?_;refine call (Cj_ _) rfl rfl fun w3=>?_;refine gx tv5 9 ?_;refine cnd rfl (fun h4=>?_) (fun h4=>?_)
  · have h5:=Df_ h4;have p6:=df h5;refine gx tv5 8 ?_;refine rt1 rfl rfl (ple ?_);refine congrArg (PV.int .i64) ?_
    simp only[bl1] at *
    unfold Ga_
    (repeat' split)<;>first|rfl|(exfalso;omega)|(exfalso;simp_all;done)|(exfalso;simp_all;omega)|grind
  have h7:=Ds_ h4;have p8:=dt h7;refine gx tv5 7 ?_;refine call (S8_ _ _) rfl rfl fun w9=>?_;refine gm tv5 18 [1] fun B11=>?_;refine cnd rfl (fun h12=>?_) (fun h12=>?_)
  · have p13:=dt h12;refine gx tv5 8 ?_;refine rt1 rfl rfl (ple ?_);refine congrArg (PV.int .i64) ?_
    simp only[bl1] at *
    unfold Ga_
    (repeat' split)<;>first|rfl|(exfalso;omega)|(exfalso;simp_all;done)|(exfalso;simp_all;omega)|grind
  have p14:=df h12;refine gy tv5 14 ?_;refine cnd rfl (fun h15=>?_) (fun h15=>?_)
  · have h16:=bl h15;have p17:=dt h16;have h18:=br h15;have p19:=dt h18;refine gx tv5 8 ?_;refine rt1 rfl rfl (ple ?_);refine congrArg (PV.int .i64) ?_
    simp only[bl1] at *
    unfold Ga_
    (repeat' split)<;>first|rfl|(exfalso;omega)|(exfalso;simp_all;done)|(exfalso;simp_all;omega)|grind
  refine gy tv5 18 ?_;refine cnd rfl (fun h20=>?_) (fun h20=>?_)
  · have h21:=bl h20;have h22:=bl h21;have p23:=dt h22;have h24:=br h21;have h25:=Df_ h24;have p26:=df h25;have h27:=br h20;have h28:=Df_ h27;have p29:=df h28;refine gx tv5 8 ?_;refine rt1 rfl rfl (ple ?_);refine congrArg (PV.int .i64) ?_
    simp only[bl1] at *
    unfold Ga_
    (repeat' split)<;>first|rfl|(exfalso;omega)|(exfalso;simp_all;done)|(exfalso;simp_all;omega)|grind
  refine gy tv5 14 ?_;refine cnd rfl (fun h30=>?_) (fun h30=>?_)
  · have h31:=bl h30;have p32:=dt h31;have h33:=br h30;have h34:=Df_ h33;have p35:=df h34;refine gx tv5 2 ?_;refine cndT rfl h30 ?_;refine gx tv5 8 ?_;refine rt1 rfl rfl (ple ?_);refine congrArg (PV.int .i64) ?_
    simp only[bl1] at *
    unfold Ga_
    (repeat' split)<;>first|rfl|(exfalso;omega)|(exfalso;simp_all;done)|(exfalso;simp_all;omega)|grind
  refine gy tv5 12 ?_;refine cnd rfl (fun h36=>?_) (fun h36=>?_)
  · have h37:=bl h36;have h38:=Df_ h37;have p39:=df h38;have h40:=br h36;have h41:=Df_ h40;have p42:=df h41;refine gx tv5 8 ?_;refine rt1 rfl rfl (ple ?_);refine congrArg (PV.int .i64) ?_
    simp only[bl1] at *
    unfold Ga_
    (repeat' split)<;>first|rfl|(exfalso;omega)|(exfalso;simp_all;done)|(exfalso;simp_all;omega)|grind
  refine gx tv5 6 ?_;refine cnd rfl (fun h43=>?_) (fun h43=>?_)
  · refine gx tv5 8 ?_;refine rt1 rfl rfl (ple ?_);refine congrArg (PV.int .i64) ?_
    simp only[bl1] at *
    unfold Ga_
    (repeat' split)<;>first|rfl|(exfalso;omega)|(exfalso;simp_all;done)|(exfalso;simp_all;omega)|grind
  refine gx tv5 9 ?_;refine rt1 rfl rfl (ple ?_);refine congrArg (PV.int .i64) ?_
  simp only[bl1] at *
  unfold Ga_
  (repeat' split)<;>first|rfl|(exfalso;omega)|(exfalso;simp_all;done)|(exfalso;simp_all;omega)|grind
theorem H9_ (h:List Pair):Fn Tryz.prog gb 112 [.sl Pair.pc h] (.int .i64 (Fn_ h)):=by
  refine fC Tryz.func112 tv5 Tryz.ntmps112 fun w N H hG=>?_;refine gx tv5 13 ?_;refine cn rfl (fun p2=>?_) fun p3=>?_
  · refine gx tv5 7 ?_;refine rt1 rfl rfl (ple ?_)
    simp[Fn_, *]
  refine gx tv5 11 ?_;refine loop (ι:=Nat) [0,6,7,8,9,10] [] (fun k=>[(11, .int .i64 (k:Int))]) (fun k=>[]) (fun k=>k<=h.length/\Jy_ [] h=Jy_ (h.take k) (h.drop k)) (fun k=>h.length-k) 0 ⟨rfl,trivial⟩ trivial ?_ ?_
  · exact⟨Nat.zero_le _,rfl⟩
  rintro k hp4;obtain⟨hk1,hk2⟩:=hp4;refine gx tv5 6 ?_;refine cn rfl (fun p6=>?_) fun p19=>?_
  · obtain⟨c7,hc8⟩:=getE (xs:=h) (m:=k) (by omega);have c7_w:=Pair.pwf (w.1.2 c7 (List.mem_of_getElem? hc8));refine gx tv5 7 ?_;refine q1 (qidx tv5 k rfl rfl rfl hc8 rfl rfl rfl rfl) rfl fun w9=>?_;refine gm tv5 7 [0] fun B11=>?_;refine aN [1,2,3,4,5,6] 6 mixd ?_;refine gX tv5 [0,1,2] 3 ?_;refine vq 3 (lshi tv5 k rfl rfl rfl rfl rfl (fun _=>rfl) rfl (by omega)) rfl (by kernel_rfl) rfl fun w12=>?_;refine vC 4 rfl (Zf_ _ _) rfl fun w13=>?_;have :=T7_ c7 (h.take k);refine gX tv5 [5] 0 ?_;refine vD ?_;refine gx tv5 7 ?_;refine cnd rfl (fun h14=>?_) (fun h14=>?_)
    · have h15:=Df_ h14;have p16:=df h15;refine gx tv5 12 ?_;refine rt1 rfl rfl (ple ?_)
      unfold Fn_
      rw[if_neg (by omega),hk2,Dc_ hc8]
      simp only[Jy_]
      rw[if_pos (by omega)]
    have h17:=Ds_ h14;have p18:=dt h17;refine gy tv5 7 ?_;refine next (k+1) rfl rfl ⟨rfl,trivial⟩ trivial ?_ ?_
    · omega
    refine⟨by omega,?_⟩
    rw[hk2,Dc_ hc8,takeE hc8]
    simp only[Jy_]
    rw[if_neg (by omega)]
  refine gx tv5 11 ?_;refine rt1 rfl rfl (ple ?_)
  unfold Fn_
  rw[if_neg (by omega),hk2,List.drop_of_length_le (by omega)]
  rfl
abbrev ty4:TI:=⟨.bool,1,1,[.bool false]⟩
abbrev ty69:TI:=⟨.agg [(0,1),(1,1),(2,1),(3,1),(4,1),(5,1)],6,88,[.str [], .str [], .bool false, .str [], .sl Pair.pc [], .bool false]⟩
def tbv9:Tb:=[(4,ty4),(9,ty9),(67,ty67),(69,ty69)]
theorem tv9:tbB Tryz.prog tbv9=true:=by kernel_rfl
theorem Rc_ (a:BindR) (b:BindR):Fn Tryz.prog gb 188 [.agg (BindR.pc a), .agg (BindR.pc b)] (.bool (decide (a=b))):=by
  refine fC Tryz.func188 tv9 Tryz.ntmps188 fun w N H hG=>?_;refine gmy tv9 40 [0,1] fun B2=>?_;refine callg rfl (fun hc=>(S9_ _ _)) rfl ⟨(fun hc=>hc),(fun hc=>hc),trivial⟩ rfl rfl fun _=>?_;refine gy tv9 12 ?_;refine rt1 rfl rfl (ple ?_);exact congrArg PV.bool (by rw[Bool.eq_iff_iff];first|(simp[BindR.eq_iff,and_assoc];done)|(simp[BindR.eq_iff];grind))
theorem N2_ (yes:Bool):Fn Tryz.prog gb 317 [.bool yes] (.int .u64 (bitN yes)):=by
  refine fC Tryz.func317 tv9 Tryz.ntmps317 fun w N H hG=>?_;refine gx tv9 11 ?_;refine cnd rfl (fun h1=>?_) (fun h1=>?_)
  · refine gx tv9 7 ?_;refine rt1 rfl rfl (ple ?_)
    simp only[bitN, *];rfl
  refine gx tv9 8 ?_;refine rt1 rfl rfl (ple ?_)
  simp only[bitN, *];rfl
theorem cb85:O_ Tryz.prog 85:=K_ Tryz.func85 (by kernel_rfl) (by kernel_rfl)
abbrev ty193:TI:=⟨.slc 5,1,24,[.sl u8c []]⟩
def tbv6:Tb:=[(3,ty3),(5,ty5),(9,ty9),(22,ty22),(78,ty78),(193,ty193),(272,ty272)]
theorem tv6:tbB Tryz.prog tbv6=true:=by kernel_rfl
theorem in_Num (i:In) (bytes:Int):Fm Tryz.prog gb 85 [.int .i64 bytes] 272 (In.pc i) (.int .u64 (((Rs_ i bytes)).1)) (In.pc (((Rs_ i bytes)).2)):=by
  refine fm_cw tv6 Tryz.func85 rfl Tryz.ntmps85 rfl cb85 rfl rfl rfl rfl fun w wp b N H hG=>?_;have hb0:=Oq_ i (min bytes 8);refine gx tv6 16 ?_;refine ef (ecallm (in_Raw _ (min bytes 8)) rfl rfl rfl rfl rfl fun w1 w1p=>?_);refine ef (ss2b tv6 rfl rfl rfl rfl rfl rfl rfl (by omega) rfl ?_);refine gx tv6 5 ?_;refine loop (ι:=Nat) [0,1,4,8,9,10,11,12,13] [0] (fun k=>[(5, .int .u64 (beN ((Hi_ i (min bytes 8)).1.take k):Int)),(14, .int .i64 (k:Int))]) (fun k=>[]) (fun k=>k<=(Hi_ i (min bytes 8)).1.length) (fun k=>(Hi_ i (min bytes 8)).1.length-k) 0 ⟨rfl,rfl,trivial⟩ trivial ?_ ?_
  · exact Nat.zero_le _
  rintro k hp2;have hb:=Oq_ i (min bytes 8);refine gx tv6 6 ?_;refine cn rfl (fun p4=>?_) fun p8=>?_
  · obtain⟨c5,hc6⟩:=getE (xs:=(Hi_ i (min bytes 8)).1) (m:=k) (by omega);refine gx tv6 6 ?_;refine q1 (qidx tv6 k rfl rfl rfl hc6 rfl rfl rfl rfl) rfl fun w7=>?_;have :=Iq_ ((BitVec.ofInt (IntKind.bits .u64) (IntKind.wrap .u64 ((beN ((Hi_ i (min bytes 8)).1.take k):Int)*2 ^ (min (8:Int).toNat (IntKind.bits .u64)))) |||BitVec.ofInt (IntKind.bits .u64) ((c5).toNat:Int)).toNat)
    refine gy tv6 18 ?_;refine next (k+1) rfl rfl ⟨(congrArg (PV.int .u64) (num_step hc6 (by omega))),rfl,trivial⟩ trivial ?_ ?_
    · omega
    omega
  refine gx tv6 12 ?_;refine rm1 rfl rfl ?_ rfl rfl rfl ?_
  · refine ple ?_
    simp only[Rs_]
    rw[List.take_of_length_le (by omega)]
  exact ples rfl
def tbv7:Tb:=[(9,ty9),(106,Mw_)]
theorem tv7:tbB Tryz.prog tbv7=true:=by kernel_rfl
theorem H8_ (pattern:Bs) (key:Bs) (hp:pattern.length<4294967281:=by first|omega|(simp;done)|decide) (hk:key.length<4294967281:=by first|omega|(simp;done)|decide):Fn Tryz.prog gb 296 [.str pattern, .str key] (.bool (mt (Bj_ pattern) (Bj_ key))):=by
  refine fC Tryz.func296 tv7 Tryz.ntmps296 fun w N H hG=>?_;refine gx tv7 8 ?_;refine call (L1_ _) rfl rfl fun w1=>?_;refine gx tv7 1 ?_;refine call (L1_ _) rfl rfl fun w2=>?_;refine gx tv7 18 ?_;refine loop (ι:=Nat×Nat×Int×Nat) [0,1,5,6,11,12,13,14] [] (fun ⟨i,j,b,f⟩=>[(7, .int .i64 (i:Int)),(8, .int .i64 (j:Int)),(9, .int .i64 b),(10, .int .i64 (f:Int))]) (fun ⟨i,j,b,f⟩=>[]) (fun ⟨i,j,b,f⟩=>MI (Bj_ pattern) (Bj_ key) i j b f) (fun ⟨i,j,b,f⟩=>mmu (Bj_ pattern) (Bj_ key) j b f) ⟨0,0,(-1),0⟩ ⟨rfl,rfl,rfl,rfl,trivial⟩ trivial ?_ ?_
  · exact MI.start _ _
  rintro⟨i,j,b,f⟩ hp3;have hmi:=hp3;have hwp:=Sr_ pattern;have hwk:=Sr_ key;have :=hmi.hi;have :=hmi.hj;have :=hmi.hf;have :=hmi.hb;have :=hmi.hbi;refine gx tv7 9 ?_;refine cnd rfl (fun h4=>?_) (fun h4=>?_)
  · have p5:=dt h4;obtain⟨c6,hc7⟩:=getJ (Bj_ pattern) i;refine gx tv7 13 ?_;refine q1g [25,26] rfl (fun hc=>qidx tv7 i rfl rfl rfl (hc7 (by first|omega|(simp only[gOf,bl2] at *;omega))) rfl rfl rfl rfl) ⟨(fun hc=>hc),(fun hc=>hc),trivial⟩ rfl rfl rfl fun _=>?_;refine gy tv7 6 ?_;refine cnd rfl (fun h8=>?_) (fun h8=>?_)
    · have h9:=bl h8;have p10:=dt h9;have h11:=br h8;have p12:=dt h11;refine gy tv7 15 ?_;obtain⟨c13,hc14⟩:=getE (xs:=Bj_ key) (m:=j) (by omega);refine next ⟨(i+1),j,((i:Int)+1),j⟩ rfl rfl ⟨(congrArg (PV.int .i64) (by omega)),rfl,rfl,rfl,trivial⟩ trivial ?_ ?_
      · exact mmu_hash hmi (by omega)
      exact MI.hash hmi (by rw[(hc7 (by first|omega|(simp only[gOf,bl2] at *;omega)))];simp[*])
    refine gx tv7 1 ?_;refine aN [0,1,2,3,4,5] 23 mixd ?_;refine gX tv7 [0,1,2,3,4,5,6] 16 ?_;refine vqg 7 [41,42] rfl (by kernel_rfl) rfl rfl (fun hc=>qidx tv7 i rfl rfl rfl (hc7 (by first|omega|(simp only[gOf,bl2] at *;omega))) rfl rfl rfl rfl) ⟨(fun hc=>hc),(fun hc=>hc),trivial⟩ rfl fun _=>?_;refine gXy tv7 [8,9,10,11,12] 10 ?_;refine vqg 13 [47,48] rfl (by kernel_rfl) rfl rfl (fun hc=>qidx tv7 i rfl rfl rfl (hc7 (by first|omega|(simp only[gOf,bl2] at *;omega))) rfl rfl rfl rfl) ⟨(fun hc=>hc),(fun hc=>hc),trivial⟩ rfl fun _=>?_;refine gXy tv7 [14,15,16] 6 ?_;obtain⟨c15,hc16⟩:=getJ (Bj_ key) j;refine vqg 17 [51,52] rfl (by kernel_rfl) rfl rfl (fun hc=>qidx tv7 j rfl rfl rfl (hc16 (by first|omega|(simp only[gOf,bl2] at *;omega))) rfl rfl rfl rfl) ⟨(fun hc=>hc),(fun hc=>hc),trivial⟩ rfl fun _=>?_;refine gXy tv7 [18,19,20,21,22] 0 ?_;refine vD ?_;refine gx tv7 1 ?_;refine cnd rfl (fun h17=>?_) (fun h17=>?_)
    · have h18:=bl h17;have p19:=dt h18;have h20:=br h17;refine gy tv7 10 ?_;refine next ⟨(i+1),(j+1),b,f⟩ rfl rfl ⟨(congrArg (PV.int .i64) (by omega)),rfl,rfl,rfl,trivial⟩ trivial ?_ ?_
      · exact mmu_step (by omega)
      first|exact MI.step hmi (hc7 (by first|omega|(simp only[gOf,bl2] at *;omega))) (hc16 (by first|omega|(simp only[gOf,bl2] at *;omega))) (by assumption) (by first|exact .inl (by assumption)|exact .inr (by assumption))|exact MI.step hmi (hc7 (by first|omega|(simp only[gOf,bl2] at *;omega))) (hc16 (by first|omega|(simp only[gOf,bl2] at *;omega))) (by simp_all) (by first|(left;simp_all;done)|(right;simp_all;done)|grind)
    refine gx tv7 7 ?_;refine cnd rfl (fun h21=>?_) (fun h21=>?_)
    · have p22:=dt h21;refine gy tv7 15 ?_;have hbad:∀ w,(Bj_ pattern)[i]? = some w->w≠[35]/\w≠[42]/\w≠c15:=by
        intro w hw;obtain⟨hlt,_⟩:=List.getElem?_eq_some_iff.1 hw
        rw[(hc7 (by first|omega|(simp only[gOf,bl2] at *;omega)))] at hw;cases hw
        first|exact⟨by assumption,by assumption,by assumption⟩|(refine⟨?_,?_,?_⟩<;>intro q<;>simp_all)
      refine next ⟨b.toNat,(f+1),b,(f+1)⟩ rfl rfl ⟨(congrArg (PV.int .i64) (by omega)),rfl,rfl,rfl,trivial⟩ trivial ?_ ?_
      · exact mmu_back hmi.hf (by omega)
      exact MI.back hmi (hc16 (by first|omega|(simp only[gOf,bl2] at *;omega))) (by omega) hbad
    have p23:=df h21;refine gx tv7 11 ?_;refine rt1 rfl rfl (ple ?_);have hbad:∀ w,(Bj_ pattern)[i]? = some w->w≠[35]/\w≠[42]/\w≠c15:=by
      intro w hw;obtain⟨hlt,_⟩:=List.getElem?_eq_some_iff.1 hw
      rw[(hc7 (by first|omega|(simp only[gOf,bl2] at *;omega)))] at hw;cases hw
      first|exact⟨by assumption,by assumption,by assumption⟩|(refine⟨?_,?_,?_⟩<;>intro q<;>simp_all)
    exact congrArg PV.bool (MI.none hmi (hc16 (by first|omega|(simp only[gOf,bl2] at *;omega))) (by omega) hbad).symm
  have p24:=df h4;refine gx tv7 7 ?_;refine loop (ι:=Nat) [0,1,5,6,8,9,10,11,12,13,14,15,16,17,18] [] (fun q=>[(7, .int .i64 (q:Int))]) (fun q=>[]) (fun q=>q<=(Bj_ pattern).length/\mt (Bj_ pattern) (Bj_ key)=mt ((Bj_ pattern).drop q) []) (fun q=>(Bj_ pattern).length-q) i ⟨rfl,trivial⟩ trivial ?_ ?_
  · exact⟨by omega,hmi.fin (by omega)⟩
  rintro q hp25;obtain⟨hq1,hq2⟩:=hp25;obtain⟨c26,hc27⟩:=getJ (Bj_ pattern) q;refine gx tv7 10 ?_;refine q1g [74,75] rfl (fun hc=>qidx tv7 q rfl rfl rfl (hc27 (by first|omega|(simp only[gOf,bl2] at *;omega))) rfl rfl rfl rfl) ⟨(fun hc=>hc),(fun hc=>hc),trivial⟩ rfl rfl rfl fun _=>?_;refine gy tv7 5 ?_;refine cnd rfl (fun h28=>?_) (fun h28=>?_)
  · have h29:=bl h28;have p30:=dt h29;have h31:=br h28;have p32:=dt h31;refine gy tv7 9 ?_;refine next (q+1) rfl rfl ⟨rfl,trivial⟩ trivial ?_ ?_
    · omega
    exact⟨by omega,mt_end hq2 (by rw[(hc27 (by first|omega|(simp only[gOf,bl2] at *;omega)))];simp[*])⟩
  refine gx tv7 15 ?_;refine rt1 rfl rfl (ple ?_);refine congrArg PV.bool ?_
  rw[hq2]
  by_cases hql:q<(Bj_ pattern).length
  · rw[mt_endN (hc27 (by first|omega|(simp only[gOf,bl2] at *;omega))) (by first|assumption|simp_all)]
    rw[decide_eq_false_iff_not];omega
  have hqe:q=(Bj_ pattern).length:=by omega
  subst hqe
  rw[List.drop_length];simp[mt]
theorem Sq_ (s:Bs):Fn Tryz.prog gb 275 [.str s] (.int .i64 (keyE patB s)):=by
  refine fC Tryz.func275 tv7 Tryz.ntmps275 fun w N H hG=>?_;refine gx tv7 8 ?_;refine ef (bsl 0 strc [[42],[35]] tv7 rfl rfl rfl rfl rfl (fun _=>rfl) rfl (by decide) (by decide) rfl fun u1=>?_);refine ef (calll 0 rfl (Up_ _ _) rfl rfl rfl fun w2=>?_);refine gx tv7 4 ?_;refine rt1 rfl rfl (ple ?_)
  rfl
def tbv8:Tb:=[(2,ty2),(3,ty3),(5,ty5),(9,ty9),(22,ty22),(67,ty67),(169,ty169),(268,ty268)]
theorem tv8:tbB Tryz.prog tbv8=true:=by kernel_rfl
theorem Kv_ (h:List Pair):Fn Tryz.prog gb 75 [.sl Pair.pc h] (.tup [.str (Be_ h), .int .i64 (Fn_ h)]):=by
  refine fC Tryz.func75 tv8 Tryz.ntmps75 fun w N H hG=>?_;have h_l:h.length<=140737488355328:=w.1.1;refine gx tv8 10 ?_;refine call (H9_ _) rfl rfl fun w1=>?_;refine gx tv8 9 ?_;refine cnd rfl (fun h2=>?_) (fun h2=>?_)
  · have h3:=Df_ h2;have p4:=df h3;refine gx tv8 9 ?_;refine rt2 rfl rfl ?_;refine ple ?_
    unfold Be_
    rw[if_neg (by omega)]
  have h5:=Ds_ h2;have p6:=dt h5;refine gx tv8 7 ?_;refine q1 (qconv tv8 rfl rfl rfl rfl (Uc_ (by omega))) rfl fun w7=>?_;refine call (out_Num (⟨[],0⟩:Out) _ _ (by ((try have :=hrl (by assumption));first|omega|(simp[C_,Bq_,Bc_,numK]<;>omega)))) rfl rfl fun w8=>?_;have nl0:(⟨[],0⟩:Out).s.length=0:=rfl;have :=Ac_ (⟨[],0⟩:Out) (h.length:Int) 1;refine gm tv8 13 [0] fun B10=>?_;refine loop (ι:=Nat×Out) [0,2,3,4,5,8,9,10,11,13,14,15,16,17,18,19] [] (fun ⟨k,o⟩=>[(20, .int .i64 (k:Int))]) (fun ⟨k,o⟩=>[(0, .box (B10 0) 169 [.str o.s, .int .i64 o.err])]) (fun ⟨k,o⟩=>k<=h.length/\h.foldl Fh_ (C_ ⟨[],0⟩ h.length 1)=(h.drop k).foldl Fh_ o/\o.s.length<=8+110*k) (fun ⟨k,o⟩=>h.length-k) ⟨0,(C_ (⟨[],0⟩:Out) (h.length:Int) 1)⟩ ⟨rfl,trivial⟩ ⟨rfl,trivial⟩ ?_ ?_
  · exact⟨Nat.zero_le _,rfl,by simp at *;omega⟩
  rintro⟨k,o⟩ hp11;obtain⟨hk1,hk2,hk3⟩:=hp11;have hok:=L6_ (h:=h) (by assumption);refine gx tv8 6 ?_;refine cn rfl (fun p13=>?_) fun p36=>?_
  · obtain⟨c14,hc15⟩:=getE (xs:=h) (m:=k) (by omega);have hpk:=hok.2 c14 (List.mem_of_getElem? hc15);have c14_w:=Pair.pwf (w.1.2 c14 (List.mem_of_getElem? hc15));refine gx tv8 6 ?_;refine q1 (qidx tv8 k rfl rfl rfl hc15 rfl rfl rfl rfl) rfl fun w16=>?_;refine gm tv8 6 [1] fun B18=>?_;refine aN [2,3,4,5,6,7] 9 mixd ?_;refine gX tv8 [0,1,2] 6 ?_;refine vC 3 rfl (C9_ _ _) rfl fun w19=>?_;have :=Ai_ o c14.key;refine gX tv8 [4,5,6] 2 ?_;refine vC 7 rfl (out_Num _ _ _ (by ((try have :=hrl (by assumption));first|omega|(simp[C_,Bq_,Bc_,numK]<;>omega)))) rfl fun w20=>?_;have :=Ac_ (E_ o c14.key) c14.kind 1;refine vT 8 rfl (sA tv8 ?_);refine vD ?_;refine gx tv8 14 ?_;refine cn rfl (fun p22=>?_) fun p25=>?_
    · refine gx tv8 5 ?_;refine call (out_Num _ _ _ (by ((try have :=hrl (by assumption));first|omega|(simp[C_,Bq_,Bc_,numK]<;>omega)))) rfl rfl fun w23=>?_;have :=Ac_ (C_ (E_ o c14.key) c14.kind 1) (IntKind.wrap .u64 c14.num) 8;refine gmy tv8 9 [] fun _=>?_;refine next ⟨(k+1),(C_ (C_ (E_ o c14.key) c14.kind 1) (IntKind.wrap .u64 c14.num) 8)⟩ rfl rfl ⟨rfl,trivial⟩ ⟨rfl,trivial⟩ ?_ ?_
      · simp only[];omega
      have e:(C_ (C_ (E_ o c14.key) c14.kind 1) (IntKind.wrap .u64 c14.num) 8)=Fh_ o c14:=by unfold Fh_;first|(rw[if_pos (by omega)];done)|(rw[if_neg (by omega),if_pos (by omega)];done)|(rw[if_neg (by omega),if_neg (by omega),if_pos (by omega)];done)|(rw[if_neg (by omega),if_neg (by omega),if_neg (by omega)];done)
      simp only[]
      rw[e]
      have hlo:=Ij_ (o:=o) (hok.2 c14 (List.mem_of_getElem? hc15));refine⟨by omega,?_,by omega⟩
      rw[hk2,Dc_ hc15,List.foldl_cons]
    refine gx tv8 6 ?_;refine cn rfl (fun p27=>?_) fun p30=>?_
    · refine gx tv8 4 ?_;refine call (C9_ _ _) rfl rfl fun w28=>?_;have :=Ai_ (C_ (E_ o c14.key) c14.kind 1) c14.text;refine gmy tv8 9 [] fun _=>?_;refine next ⟨(k+1),(E_ (C_ (E_ o c14.key) c14.kind 1) c14.text)⟩ rfl rfl ⟨rfl,trivial⟩ ⟨rfl,trivial⟩ ?_ ?_
      · simp only[];omega
      have e:(E_ (C_ (E_ o c14.key) c14.kind 1) c14.text)=Fh_ o c14:=by unfold Fh_;first|(rw[if_pos (by omega)];done)|(rw[if_neg (by omega),if_pos (by omega)];done)|(rw[if_neg (by omega),if_neg (by omega),if_pos (by omega)];done)|(rw[if_neg (by omega),if_neg (by omega),if_neg (by omega)];done)
      simp only[]
      rw[e]
      have hlo:=Ij_ (o:=o) (hok.2 c14 (List.mem_of_getElem? hc15));refine⟨by omega,?_,by omega⟩
      rw[hk2,Dc_ hc15,List.foldl_cons]
    refine gx tv8 6 ?_;refine cn rfl (fun p32=>?_) fun p35=>?_
    · refine gx tv8 5 ?_;refine call (out_Num _ _ _ (by ((try have :=hrl (by assumption));first|omega|(simp[C_,Bq_,Bc_,numK]<;>omega)))) rfl rfl fun w33=>?_;have :=Ac_ (C_ (E_ o c14.key) c14.kind 1) (IntKind.wrap .u64 c14.num) 1;refine gmy tv8 9 [] fun _=>?_;refine next ⟨(k+1),(C_ (C_ (E_ o c14.key) c14.kind 1) (IntKind.wrap .u64 c14.num) 1)⟩ rfl rfl ⟨rfl,trivial⟩ ⟨rfl,trivial⟩ ?_ ?_
      · simp only[];omega
      have e:(C_ (C_ (E_ o c14.key) c14.kind 1) (IntKind.wrap .u64 c14.num) 1)=Fh_ o c14:=by unfold Fh_;first|(rw[if_pos (by omega)];done)|(rw[if_neg (by omega),if_pos (by omega)];done)|(rw[if_neg (by omega),if_neg (by omega),if_pos (by omega)];done)|(rw[if_neg (by omega),if_neg (by omega),if_neg (by omega)];done)
      simp only[]
      rw[e]
      have hlo:=Ij_ (o:=o) (hok.2 c14 (List.mem_of_getElem? hc15));refine⟨by omega,?_,by omega⟩
      rw[hk2,Dc_ hc15,List.foldl_cons]
    refine gy tv8 8 ?_;refine next ⟨(k+1),(C_ (E_ o c14.key) c14.kind 1)⟩ rfl rfl ⟨rfl,trivial⟩ ⟨rfl,trivial⟩ ?_ ?_
    · simp only[];omega
    have e:(C_ (E_ o c14.key) c14.kind 1)=Fh_ o c14:=by unfold Fh_;first|(rw[if_pos (by omega)];done)|(rw[if_neg (by omega),if_pos (by omega)];done)|(rw[if_neg (by omega),if_neg (by omega),if_pos (by omega)];done)|(rw[if_neg (by omega),if_neg (by omega),if_neg (by omega)];done)
    simp only[]
    rw[e]
    have hlo:=Ij_ (o:=o) (hok.2 c14 (List.mem_of_getElem? hc15));refine⟨by omega,?_,by omega⟩
    rw[hk2,Dc_ hc15,List.foldl_cons]
  refine gx tv8 8 ?_;refine call (Cs_ _) rfl rfl fun w37=>?_;refine gx tv8 5 ?_;refine rt2 rfl rfl ?_;refine ple ?_
  unfold Be_
  rw[if_pos (by assumption)]
  rw[List.drop_of_length_le (by omega),List.foldl_nil] at hk2
  rw[show On_ h=o from hk2]
  have e0:Fn_ h=0:=by assumption
  rw[e0]
theorem ag22:Ag Tryz.prog 22 false:=fun w=>by kernel_rfl
theorem eqg64:Tryz.prog.eqGuardType Tryz.prog.depth 64=false:=by kernel_rfl
theorem eqg66:Tryz.prog.eqGuardType Tryz.prog.depth 66=false:=by kernel_rfl
theorem veq64 (p q:ShopR):∀ (H:Hp) (vs us:List Value),Sims H (ShopR.pc p) vs->Sims H (ShopR.pc q) us->EqV Tryz.prog 10000 64 (.agg vs.toArray) (.agg us.toArray) (decide (p=q)):=by
  intro H vs us hv hu;obtain⟨_,_,rfl,v0,v_0⟩:=hv.inv_cons;obtain⟨_,_,rfl,v1,v_1⟩:=v_0.inv_cons;obtain⟨_,_,rfl,v2,v_2⟩:=v_1.inv_cons
  cases v_2.inv_nil
  cases v0.inv_str.1;cases v1.inv_int.1;cases v2.inv_str.1
  obtain⟨_,_,rfl,u0,u_0⟩:=hu.inv_cons;obtain⟨_,_,rfl,u1,u_1⟩:=u_0.inv_cons;obtain⟨_,_,rfl,u2,u_2⟩:=u_1.inv_cons
  cases u_2.inv_nil
  cases u0.inv_str.1;cases u1.inv_int.1;cases u2.inv_str.1
  exact EqV.to' (Rf_ Tryz.underlying64 (by kernel_rfl) (M0_ (by decide) ag9 rfl rfl (M1_ Tryz.underlying9) (M0_ (by decide) ag5 rfl rfl (Lf_ Tryz.underlying5) (M0_ (by decide) ag9 rfl rfl (M1_ Tryz.underlying9) Rd_)))) (by obtain⟨a0,a1,a2⟩:=p;obtain⟨b0,b1,b2⟩:=q;rw[Bool.eq_iff_iff];simp)
theorem veq66 (p q:I_):∀ (H:Hp) (vs us:List Value),Sims H (I_.pc p) vs->Sims H (I_.pc q) us->EqV Tryz.prog 10000 66 (.agg vs.toArray) (.agg us.toArray) (decide (p=q)):=by
  intro H vs us hv hu;obtain⟨_,_,rfl,v0,v_0⟩:=hv.inv_cons;obtain⟨_,_,rfl,v1,v_1⟩:=v_0.inv_cons;obtain⟨_,_,rfl,v2,v_2⟩:=v_1.inv_cons;obtain⟨_,_,rfl,v3,v_3⟩:=v_2.inv_cons
  cases v_3.inv_nil
  cases v0.inv_str.1;cases v1.inv_int.1;cases v2.inv_int.1;cases v3.inv_str.1
  obtain⟨_,_,rfl,u0,u_0⟩:=hu.inv_cons;obtain⟨_,_,rfl,u1,u_1⟩:=u_0.inv_cons;obtain⟨_,_,rfl,u2,u_2⟩:=u_1.inv_cons;obtain⟨_,_,rfl,u3,u_3⟩:=u_2.inv_cons
  cases u_3.inv_nil
  cases u0.inv_str.1;cases u1.inv_int.1;cases u2.inv_int.1;cases u3.inv_str.1
  exact EqV.to' (Rf_ Tryz.underlying66 (by kernel_rfl) (M0_ (by decide) ag9 rfl rfl (M1_ Tryz.underlying9) (M0_ (by decide) ag22 rfl rfl (Lf_ Tryz.underlying22) (M0_ (by decide) ag22 rfl rfl (Lf_ Tryz.underlying22) (M0_ (by decide) ag9 rfl rfl (M1_ Tryz.underlying9) Rd_))))) (by obtain⟨a0,a1,a2,a3⟩:=p;obtain⟨b0,b1,b2,b3⟩:=q;rw[Bool.eq_iff_iff];simp)
abbrev ty64:TI:=⟨.agg [(0,1),(1,1),(2,1)],3,40,[.str [], .int .u8 0, .str []]⟩
abbrev ty66:TI:=⟨.agg [(0,1),(1,1),(2,1),(3,1)],4,48,[.str [], .int .u64 0, .int .u64 0, .str []]⟩
abbrev ty71:TI:=⟨.agg [(0,1),(1,1),(2,1),(3,1),(4,1),(5,1),(6,1)],7,96,[.int .u64 0, .str [], .str [], .sl Pair.pc [], .str [], .int .u64 0, .int .u8 0]⟩
abbrev ty73:TI:=⟨.agg [(0,1),(1,1),(2,3),(5,4),(9,6),(15,1),(16,1),(17,1),(18,1),(19,1),(20,1),(21,7),(28,1)],29,344,[.int .u8 0, .int .u64 0, .str [], .int .u8 0, .str [], .str [], .int .u64 0, .int .u64 0, .str [], .str [], .str [], .bool false, .str [], .sl Pair.pc [], .bool false, .str [], .int .u64 0, .int .u8 0, .int .u8 0, .int .u8 0, .int .u64 0, .int .u64 0, .str [], .str [], .sl Pair.pc [], .str [], .int .u64 0, .int .u8 0, .str []]⟩
def tbv14:Tb:=[(5,ty5),(9,ty9),(22,ty22),(64,ty64),(66,ty66),(67,ty67),(69,ty69),(71,ty71),(73,ty73),(169,ty169)]
theorem tv14:tbB Tryz.prog tbv14=true:=by kernel_rfl
theorem Ia_ (m:Mail):Fn Tryz.prog gb 113 [.agg (Mail.pc m)] (.int .i64 (Gy_ m)):=by
  refine fC Tryz.func113 tv14 Tryz.ntmps113 fun w N H hG=>?_;refine gm tv14 11 [0] fun B2=>?_;refine call (Cj_ _) rfl rfl fun w3=>?_;refine gx tv14 9 ?_;refine cnd rfl (fun h4=>?_) (fun h4=>?_)
  · have h5:=Df_ h4;have p6:=df h5;refine gx tv14 8 ?_;refine rt1 rfl rfl (ple ?_);refine congrArg (PV.int .i64) ?_
    simp only[bl1] at *
    unfold Gy_
    (repeat' split)<;>first|rfl|(exfalso;omega)|(exfalso;simp_all;done)|(exfalso;simp_all;omega)|grind
  have h7:=Ds_ h4;have p8:=dt h7;refine gx tv14 7 ?_;refine call (Uo_ _) rfl rfl fun w9=>?_;refine gx tv14 9 ?_;refine cnd rfl (fun h10=>?_) (fun h10=>?_)
  · have h11:=Df_ h10;have p12:=df h11;refine gx tv14 8 ?_;refine rt1 rfl rfl (ple ?_);refine congrArg (PV.int .i64) ?_
    simp only[bl1] at *
    unfold Gy_
    (repeat' split)<;>first|rfl|(exfalso;omega)|(exfalso;simp_all;done)|(exfalso;simp_all;omega)|grind
  have h13:=Ds_ h10;have p14:=dt h13;refine gx tv14 7 ?_;refine call (H9_ _) rfl rfl fun w15=>?_;refine gx tv14 11 ?_;refine cnd rfl (fun h16=>?_) (fun h16=>?_)
  · have h17:=Df_ h16;have p18:=df h17;refine gx tv14 9 ?_;refine rt1 rfl rfl (ple ?_);refine congrArg (PV.int .i64) ?_
    simp only[bl1] at *
    unfold Gy_
    (repeat' split)<;>first|rfl|(exfalso;omega)|(exfalso;simp_all;done)|(exfalso;simp_all;omega)|grind
  have h19:=Ds_ h16;have p20:=dt h19;refine gx tv14 9 ?_;refine cnd rfl (fun h21=>?_) (fun h21=>?_)
  · have p22:=dt h21;refine gx tv14 8 ?_;refine rt1 rfl rfl (ple ?_);refine congrArg (PV.int .i64) ?_
    simp only[bl1] at *
    unfold Gy_
    (repeat' split)<;>first|rfl|(exfalso;omega)|(exfalso;simp_all;done)|(exfalso;simp_all;omega)|grind
  have p23:=df h21;refine gx tv14 8 ?_;refine cnd rfl (fun h24=>?_) (fun h24=>?_)
  · have p25:=dt h24;refine gx tv14 8 ?_;refine rt1 rfl rfl (ple ?_);refine congrArg (PV.int .i64) ?_
    simp only[bl1] at *
    unfold Gy_
    (repeat' split)<;>first|rfl|(exfalso;omega)|(exfalso;simp_all;done)|(exfalso;simp_all;omega)|grind
  have p26:=df h24;refine gx tv14 9 ?_;refine rt1 rfl rfl (ple ?_);refine congrArg (PV.int .i64) ?_
  simp only[bl1] at *
  unfold Gy_
  (repeat' split)<;>first|rfl|(exfalso;omega)|(exfalso;simp_all;done)|(exfalso;simp_all;omega)|grind
theorem Na_ (m:Mail):Fn Tryz.prog gb 158 [.agg (Mail.pc m)] (.tup [.str (Do_ m), .int .i64 (Gy_ m)]):=by
  refine fC Tryz.func158 tv14 Tryz.ntmps158 fun w N H hG=>?_;have m_w:=Mail.pwf w.1;have m_w':=m_w
  simp only[Mail.wf] at m_w'
  have m_head_k:=Mail.kd3 w.1;have m_head_k2:m.head.length<=140737488355328:=w.1.2.2.2.1.1;refine gm tv14 11 [0] fun B2=>?_;refine call (Ia_ _) rfl rfl fun w3=>?_;have :=Lh_ m;have hmo3:=fun h=>Gh_ (m:=m) h;refine gx tv14 9 ?_;refine cnd rfl (fun h4=>?_) (fun h4=>?_)
  · have h5:=Df_ h4;have p6:=df h5;refine gx tv14 9 ?_;refine rt2 rfl rfl ?_;refine ple ?_
    simp[Do_,Pb_, *]
  have h7:=Ds_ h4;have p8:=dt h7;refine gx tv14 6 ?_;refine call (Kv_ _) rfl rfl fun w9=>?_;have :=F3_ m.head;refine gx tv14 8 ?_;refine aN [1,2,3,4,5,6] 17 mixd ?_;refine gX tv14 [0,1,2] 14 ?_;refine vC 3 rfl (out_Num (⟨[],0⟩:Out) _ _ (by ((try have :=hrl (by assumption));first|omega|(simp[C_,Bq_,Bc_,numK]<;>omega)))) rfl fun w10=>?_;have nl0:(⟨[],0⟩:Out).s.length=0:=rfl;have :=Ac_ (⟨[],0⟩:Out) m.id 8;refine gX tv14 [4,5] 11 ?_;refine vC 6 rfl (C9_ _ _) rfl fun w11=>?_;have :=Ai_ (C_ (⟨[],0⟩:Out) m.id 8) m.shop;refine gX tv14 [7,8] 8 ?_;refine vC 9 rfl (C9_ _ _) rfl fun w12=>?_;have :=Ai_ (E_ (C_ (⟨[],0⟩:Out) m.id 8) m.shop) m.key;refine gX tv14 [10] 6 ?_;refine vC 11 rfl (Nc_ _ _) rfl fun w13=>?_;have :=Gn_ (E_ (E_ (C_ (⟨[],0⟩:Out) m.id 8) m.shop) m.key) (Be_ m.head);refine gX tv14 [12,13] 3 ?_;refine vC 14 rfl (C9_ _ _) rfl fun w14=>?_;have :=Ai_ (Bq_ (E_ (E_ (C_ (⟨[],0⟩:Out) m.id 8) m.shop) m.key) (Be_ m.head)) m.body;refine vE 15 rfl (aL tv14 1 fun b15=>?_);refine vT 16 rfl (sA tv14 ?_);refine vD ?_;refine gx tv14 2 ?_;refine aN [2,3,4,5,6,7] 11 mixd ?_;refine gX tv14 [0,1,2] 8 ?_;refine vC 3 rfl (out_Num _ _ _ (by ((try have :=hrl (by assumption));first|omega|(simp[C_,Bq_,Bc_,numK]<;>omega)))) rfl fun w16=>?_;have :=Ac_ (E_ (Bq_ (E_ (E_ (C_ (⟨[],0⟩:Out) m.id 8) m.shop) m.key) (Be_ m.head)) m.body) m.due 8;refine gX tv14 [4,5,6] 4 ?_;refine vC 7 rfl (out_Num _ _ _ (by ((try have :=hrl (by assumption));first|omega|(simp[C_,Bq_,Bc_,numK]<;>omega)))) rfl fun w17=>?_;have :=Ac_ (C_ (E_ (Bq_ (E_ (E_ (C_ (⟨[],0⟩:Out) m.id 8) m.shop) m.key) (Be_ m.head)) m.body) m.due 8) m.hops 1;refine vC 8 rfl (Cs_ _) rfl fun w18=>?_;refine gX tv14 [9,10] 0 ?_;refine vD ?_;refine gx tv14 2 ?_;refine rt2 rfl rfl ?_;refine ple ?_
  simp[Do_,Pb_, *]
theorem Qc_ (s:Bs):Fn Tryz.prog gb 111 [.str s] (.int .i64 (Jz_ s)):=by
  refine fC Tryz.func111 tv14 Tryz.ntmps111 fun w N H hG=>?_;refine gx tv14 12 ?_;refine cn rfl (fun p2=>?_) fun p3=>?_
  · refine gx tv14 7 ?_;refine rt1 rfl rfl (ple ?_)
    simp[Jz_, *]
  refine gx tv14 5 ?_;refine call (Cj_ _) rfl rfl fun w4=>?_;refine gx tv14 4 ?_;refine rt1 rfl rfl (ple ?_)
  simp[Jz_, *]
theorem Ja_ (b:Bool) (e:Int):Fn Tryz.prog gb 110 [.bool b, .int .i64 e] (.int .i64 (Gc_ b e)):=by
  refine fC Tryz.func110 tv14 Tryz.ntmps110 fun w N H hG=>?_;refine gx tv14 11 ?_;refine cnd rfl (fun h1=>?_) (fun h1=>?_)
  · refine gx tv14 8 ?_;refine rt1 rfl rfl (ple ?_)
    simp[Gc_, *]
  refine gx tv14 8 ?_;refine rt1 rfl rfl (ple ?_)
  simp[Gc_, *]
theorem mail_Same (a:Mail) (b:Mail):Fn Tryz.prog gb 189 [.agg (Mail.pc a), .agg (Mail.pc b)] (.bool (decide (a=b))):=by
  refine fC Tryz.func189 tv14 Tryz.ntmps189 fun w N H hG=>?_;refine gmy tv14 33 [0,1] fun B2=>?_;refine callg rfl (fun hc=>(S9_ _ _)) rfl ⟨(fun hc=>hc),(fun hc=>hc),trivial⟩ rfl rfl fun _=>?_;refine gy tv14 26 ?_;refine rt1 rfl rfl (ple ?_);exact congrArg PV.bool (by rw[Bool.eq_iff_iff];first|(simp[Mail.eq_iff,and_assoc];done)|(simp[Mail.eq_iff];grind))
theorem Yt_ (a:DeedR) (b:DeedR):Fn Tryz.prog gb 106 [.agg (DeedR.pc a), .agg (DeedR.pc b)] (.bool (decide (a=b))):=by
  refine fC Tryz.func106 tv14 Tryz.ntmps106 fun w N H hG=>?_;refine gmy tv14 26 [0,1] fun B2=>?_;refine q1g [19,21] rfl (fun hc=>saeq rfl rfl eqg64 (veq64 a.shop b.shop)) ⟨(fun hc=>hc),(fun hc=>hc),trivial⟩ rfl rfl rfl fun _=>?_;refine gy tv14 6 ?_;refine q1g [26,28] rfl (fun hc=>saeq rfl rfl eqg66 (veq66 a.queue b.queue)) ⟨(fun hc=>hc),(fun hc=>hc),trivial⟩ rfl rfl rfl fun _=>?_;refine gy tv14 6 ?_;refine callg rfl (fun hc=>(Rc_ _ _)) rfl ⟨(fun hc=>hc),(fun hc=>hc),trivial⟩ rfl rfl fun _=>?_;refine gy tv14 48 ?_;refine callg rfl (fun hc=>(mail_Same _ _)) rfl ⟨(fun hc=>hc),(fun hc=>hc),trivial⟩ rfl rfl fun _=>?_;refine gy tv14 12 ?_;refine rt1 rfl rfl (ple ?_);exact congrArg PV.bool (by rw[Bool.eq_iff_iff];first|(simp[DeedR.eq_iff,and_assoc];done)|(simp[DeedR.eq_iff];grind))
abbrev ty292:TI:=⟨.slc 78,1,24,[.sl i64c []]⟩
def tbv15:Tb:=[(5,ty5),(9,ty9),(22,ty22),(64,ty64),(66,ty66),(67,ty67),(69,ty69),(71,ty71),(73,ty73),(78,ty78),(292,ty292)]
theorem tv15:tbB Tryz.prog tbv15=true:=by kernel_rfl
theorem Yu_ (d:DeedR):Fn Tryz.prog gb 107 [.agg (DeedR.pc d)] (.agg (DeedR.pc (Fl_ d))):=by
  refine fC Tryz.func107 tv15 Tryz.ntmps107 fun w N H hG=>?_;refine gm tv15 31 [0,1,2] fun B2=>?_;refine cn rfl (fun p6=>?_) fun p8=>?_
  · refine gm tv15 15 [] fun _=>?_;refine rt1 rfl rfl (ple ?_);have e:Fl_ d=(⟨d.kind,d.tick,d.shop,(⟨[],0,0,[]⟩:I_),(⟨[],[],false,[],[],false⟩:BindR),[],0,0,0,0,0,(⟨0,[],[],[],[],0,0⟩:Mail),[]⟩:DeedR):=by
      unfold Fl_
      repeat (first|rw[if_pos (by omega)]|rw[if_neg (by omega)])
      rfl
    rw[e];rfl
  refine gx tv15 6 ?_;refine cn rfl (fun p10=>?_) fun p12=>?_
  · refine gm tv15 15 [] fun _=>?_;refine rt1 rfl rfl (ple ?_);have e:Fl_ d=(⟨d.kind,d.tick,(⟨[],0,[]⟩:ShopR),d.queue,(⟨[],[],false,[],[],false⟩:BindR),[],0,0,0,0,0,(⟨0,[],[],[],[],0,0⟩:Mail),[]⟩:DeedR):=by
      unfold Fl_
      repeat (first|rw[if_pos (by omega)]|rw[if_neg (by omega)])
      rfl
    rw[e];rfl
  refine gx tv15 7 ?_;refine cnd rfl (fun h13=>?_) (fun h13=>?_)
  · have p14:=dt h13;refine gx tv15 2 ?_;refine cndT rfl h13 ?_;refine gm tv15 15 [] fun _=>?_;refine rt1 rfl rfl (ple ?_);have e:Fl_ d=(⟨d.kind,d.tick,(⟨[],0,[]⟩:ShopR),(⟨[],0,0,[]⟩:I_),d.bind,[],0,0,0,0,0,(⟨0,[],[],[],[],0,0⟩:Mail),[]⟩:DeedR):=by
      unfold Fl_
      repeat (first|rw[if_pos (by omega)]|rw[if_neg (by omega)])
      rfl
    rw[e];rfl
  have p16:=df h13;refine gx tv15 5 ?_;refine cn rfl (fun p18=>?_) fun p20=>?_
  · refine gm tv15 15 [] fun _=>?_;refine rt1 rfl rfl (ple ?_);have e:Fl_ d=(⟨d.kind,d.tick,(⟨[],0,[]⟩:ShopR),(⟨[],0,0,[]⟩:I_),d.bind,[],0,0,0,0,0,(⟨0,[],[],[],[],0,0⟩:Mail),[]⟩:DeedR):=by
      unfold Fl_
      repeat (first|rw[if_pos (by omega)]|rw[if_neg (by omega)])
      rfl
    rw[e];rfl
  refine gx tv15 6 ?_;refine cn rfl (fun p22=>?_) fun p24=>?_
  · refine gm tv15 15 [] fun _=>?_;refine rt1 rfl rfl (ple ?_);have e:Fl_ d=(⟨d.kind,d.tick,(⟨[],0,[]⟩:ShopR),(⟨[],0,0,[]⟩:I_),(⟨[],[],false,[],[],false⟩:BindR),[],0,0,0,0,0,d.mail,[]⟩:DeedR):=by
      unfold Fl_
      repeat (first|rw[if_pos (by omega)]|rw[if_neg (by omega)])
      rfl
    rw[e];rfl
  refine gx tv15 7 ?_;refine cnd rfl (fun h25=>?_) (fun h25=>?_)
  · have p26:=dt h25;refine gx tv15 2 ?_;refine cndT rfl h25 ?_;refine gm tv15 15 [] fun _=>?_;refine rt1 rfl rfl (ple ?_);have e:Fl_ d=(⟨d.kind,d.tick,(⟨[],0,[]⟩:ShopR),(⟨[],0,0,[]⟩:I_),(⟨[],[],false,[],[],false⟩:BindR),d.name,0,0,0,0,0,(⟨0,[],[],[],[],0,0⟩:Mail),[]⟩:DeedR):=by
      unfold Fl_
      repeat (first|rw[if_pos (by omega)]|rw[if_neg (by omega)])
      rfl
    rw[e];rfl
  have p28:=df h25;refine gx tv15 6 ?_;refine cnd rfl (fun h29=>?_) (fun h29=>?_)
  · have p30:=dt h29;refine gx tv15 2 ?_;refine cndT rfl h29 ?_;refine gm tv15 15 [] fun _=>?_;refine rt1 rfl rfl (ple ?_);have e:Fl_ d=(⟨d.kind,d.tick,(⟨[],0,[]⟩:ShopR),(⟨[],0,0,[]⟩:I_),(⟨[],[],false,[],[],false⟩:BindR),d.name,0,0,0,0,0,(⟨0,[],[],[],[],0,0⟩:Mail),[]⟩:DeedR):=by
      unfold Fl_
      repeat (first|rw[if_pos (by omega)]|rw[if_neg (by omega)])
      rfl
    rw[e];rfl
  have p32:=df h29;refine gx tv15 5 ?_;refine cn rfl (fun p34=>?_) fun p36=>?_
  · refine gm tv15 15 [] fun _=>?_;refine rt1 rfl rfl (ple ?_);have e:Fl_ d=(⟨d.kind,d.tick,(⟨[],0,[]⟩:ShopR),(⟨[],0,0,[]⟩:I_),(⟨[],[],false,[],[],false⟩:BindR),d.name,0,0,0,0,0,(⟨0,[],[],[],[],0,0⟩:Mail),[]⟩:DeedR):=by
      unfold Fl_
      repeat (first|rw[if_pos (by omega)]|rw[if_neg (by omega)])
      rfl
    rw[e];rfl
  refine gx tv15 6 ?_;refine cn rfl (fun p38=>?_) fun p40=>?_
  · refine aN [2,3,4,5,6,7,8] 12 mixd ?_;refine gX tv15 [0,1,2,3,4,5,6] 5 ?_;refine vE 7 rfl (sO tv15 ?_);refine gX tv15 [8] 3 ?_;refine vE 9 rfl (sO tv15 ?_);refine gX tv15 [10] 1 ?_;refine vT 11 rfl (sO tv15 ?_);refine vD ?_;refine gm tv15 9 [] fun _=>?_;refine rt1 rfl rfl (ple ?_);have e:Fl_ d=(⟨d.kind,d.tick,(⟨[],0,[]⟩:ShopR),(⟨[],0,0,[]⟩:I_),(⟨[],[],false,[],[],false⟩:BindR),d.name,d.id,d.how,0,0,0,(⟨0,[],[],[],[],0,0⟩:Mail),[]⟩:DeedR):=by
      unfold Fl_
      repeat (first|rw[if_pos (by omega)]|rw[if_neg (by omega)])
      rfl
    rw[e];rfl
  refine gx tv15 6 ?_;refine cn rfl (fun p42=>?_) fun p44=>?_
  · refine aN [2,3,4,5,6,7,8] 12 mixd ?_;refine gX tv15 [0,1,2,3,4,5,6] 5 ?_;refine vE 7 rfl (sO tv15 ?_);refine gX tv15 [8] 3 ?_;refine vE 9 rfl (sO tv15 ?_);refine gX tv15 [10] 1 ?_;refine vT 11 rfl (sA tv15 ?_);refine vD ?_;refine gm tv15 9 [] fun _=>?_;refine rt1 rfl rfl (ple ?_);have e:Fl_ d=(⟨d.kind,d.tick,(⟨[],0,[]⟩:ShopR),(⟨[],0,0,[]⟩:I_),(⟨[],[],false,[],[],false⟩:BindR),[],0,0,d.frm,0,d.number,d.mail,[]⟩:DeedR):=by
      unfold Fl_
      repeat (first|rw[if_pos (by omega)]|rw[if_neg (by omega)])
      rfl
    rw[e];rfl
  refine gx tv15 6 ?_;refine cn rfl (fun p46=>?_) fun p48=>?_
  · refine aN [2,3,4,5,6,7,8] 8 mixd ?_;refine gX tv15 [0,1,2,3,4] 3 ?_;refine vE 5 rfl (sO tv15 ?_);refine gX tv15 [6] 1 ?_;refine vT 7 rfl (sO tv15 ?_);refine vD ?_;refine gm tv15 9 [] fun _=>?_;refine rt1 rfl rfl (ple ?_);have e:Fl_ d=(⟨d.kind,d.tick,(⟨[],0,[]⟩:ShopR),(⟨[],0,0,[]⟩:I_),(⟨[],[],false,[],[],false⟩:BindR),[],0,0,0,d.code,0,(⟨0,[],[],[],[],0,0⟩:Mail),d.text⟩:DeedR):=by
      unfold Fl_
      repeat (first|rw[if_pos (by omega)]|rw[if_neg (by omega)])
      rfl
    rw[e];rfl
  refine gm tv15 10 [] fun _=>?_;refine rt1 rfl rfl (ple ?_);have e:Fl_ d=(⟨d.kind,d.tick,(⟨[],0,[]⟩:ShopR),(⟨[],0,0,[]⟩:I_),(⟨[],[],false,[],[],false⟩:BindR),[],0,0,0,0,0,(⟨0,[],[],[],[],0,0⟩:Mail),[]⟩:DeedR):=by
    unfold Fl_
    repeat (first|rw[if_pos (by omega)]|rw[if_neg (by omega)])
    rfl
  rw[e];rfl
theorem Jb_ (l:List Int):Fn Tryz.prog gb 108 [.sl i64c l] (.int .i64 (Hh_ l)):=by
  refine fC Tryz.func108 tv15 Tryz.ntmps108 fun w N H hG=>?_;have l_l:l.length<=140737488355328:=w.1.1;refine gx tv15 14 ?_;refine loop (ι:=Nat) [0,5,6] [] (fun k=>[(7, .int .i64 (k:Int))]) (fun k=>[]) (fun k=>k<=l.length/\Hh_ l=Hh_ (l.drop k)) (fun k=>l.length-k) 0 ⟨rfl,trivial⟩ trivial ?_ ?_
  · exact⟨Nat.zero_le _,rfl⟩
  rintro k hp1;obtain⟨hk1,hk2⟩:=hp1;refine gx tv15 6 ?_;refine cn rfl (fun p3=>?_) fun p12=>?_
  · obtain⟨c4,hc5⟩:=getE (xs:=l) (m:=k) (by omega);refine gx tv15 6 ?_;refine q1 (qidx tv15 k rfl rfl rfl hc5 rfl rfl rfl rfl) rfl fun w6=>?_;refine gx tv15 10 ?_;refine cnd rfl (fun h7=>?_) (fun h7=>?_)
    · have h8:=Df_ h7;have p9:=df h8;refine gx tv15 12 ?_;refine rt1 rfl rfl (ple ?_);refine congrArg (PV.int .i64) ?_
      rw[hk2,Dc_ hc5]
      unfold Hh_
      rw[if_pos (by assumption)]
    have h10:=Ds_ h7;have p11:=dt h10;refine gy tv15 7 ?_;refine next (k+1) rfl rfl ⟨rfl,trivial⟩ trivial ?_ ?_
    · omega
    refine⟨by omega,?_⟩
    rw[hk2,Dc_ hc5]
    conv=>lhs;unfold Hh_
    rw[if_neg (by omega)]
  refine gx tv15 11 ?_;refine rt1 rfl rfl (ple ?_);refine congrArg (PV.int .i64) ?_
  rw[hk2,List.drop_of_length_le (by omega)]
  rfl
theorem Qb_ (d:DeedR):Fn Tryz.prog gb 42 [.agg (DeedR.pc d)] (.int .i64 (E1_ d)):=by
  refine fC Tryz.func42 tv15 Tryz.ntmps42 fun w N H hG=>?_;refine gm tv15 16 [0] fun B2=>?_;refine cn rfl (fun p4=>?_) fun p5=>?_
  · refine gx tv15 8 ?_;refine rt1 rfl rfl (ple ?_);refine congrArg (PV.int .i64) ?_
    unfold E1_
    repeat (first|rw[if_pos (by omega)]|rw[if_neg (by omega)]|rw[if_pos (by assumption)]|rw[if_neg (not_not_intro (by assumption))])
    all_goals first|done|rfl
  refine gx tv15 1 ?_;refine aN [1,2,3,4,5,6] 6 mixd ?_;refine gX tv15 [0,1] 4 ?_;refine vE 2 rfl (eC (Yu_ _) rfl fun w6=>?_);refine vC 3 rfl (Yt_ _ _) rfl fun w7=>?_;refine gX tv15 [4,5] 0 ?_;refine vD ?_;refine gx tv15 1 ?_;refine cnd rfl (fun h8=>?_) (fun h8=>?_)
  · have h9:=Df_ h8;have p10:=df h9;refine gx tv15 8 ?_;refine rt1 rfl rfl (ple ?_);refine congrArg (PV.int .i64) ?_
    unfold E1_
    repeat (first|rw[if_pos (by omega)]|rw[if_neg (by omega)]|rw[if_pos (by assumption)]|rw[if_neg (not_not_intro (by assumption))])
    all_goals first|done|rfl
  have h11:=Ds_ h8;have p12:=dt h11;refine gx tv15 17 ?_;refine cn rfl (fun p14=>?_) fun p20=>?_
  · refine gx tv15 1 ?_;refine aN [1,2,3,4,5,6] 16 mixd ?_;refine gX tv15 [0,1,2] 13 ?_;refine vC 3 rfl (Cj_ _) rfl fun w15=>?_;refine gX tv15 [4,5,6,7] 8 ?_;refine vC 8 rfl (Ja_ _ _) rfl fun w16=>?_;refine gX tv15 [9,10,11] 4 ?_;refine vC 12 rfl (Qc_ _) rfl fun w17=>?_;have :=Mj_ d.shop.to';refine vE 13 rfl (bsl 1 i64c [Dp_ d.shop.name,Gc_ (decide (4<d.shop.sort)) 8,Jz_ d.shop.to'] tv15 rfl rfl rfl rfl rfl (fun _=>rfl) rfl (by decide) (by decide) rfl fun u18=>?_);refine vE 14 rfl (calll 1 rfl (Jb_ _) rfl rfl rfl fun w19=>?_);refine gX tv15 [15] 0 ?_;refine vD ?_;refine gx tv15 4 ?_;refine rt1 rfl rfl (ple ?_);refine congrArg (PV.int .i64) ?_
    unfold E1_
    repeat (first|rw[if_pos (by omega)]|rw[if_neg (by omega)]|rw[if_pos (by assumption)]|rw[if_neg (not_not_intro (by assumption))])
    all_goals first|done|rfl
  refine gx tv15 6 ?_;refine cn rfl (fun p22=>?_) fun p27=>?_
  · refine gx tv15 1 ?_;refine aN [1,2,3,4,5,6] 11 mixd ?_;refine gX tv15 [0,1,2] 8 ?_;refine vC 3 rfl (Cj_ _) rfl fun w23=>?_;refine gX tv15 [4,5,6] 4 ?_;refine vC 7 rfl (Qc_ _) rfl fun w24=>?_;have :=Mj_ d.queue.dead;refine vE 8 rfl (bsl 1 i64c [Dp_ d.queue.name,Jz_ d.queue.dead] tv15 rfl rfl rfl rfl rfl (fun _=>rfl) rfl (by decide) (by decide) rfl fun u25=>?_);refine vE 9 rfl (calll 1 rfl (Jb_ _) rfl rfl rfl fun w26=>?_);refine gX tv15 [10] 0 ?_;refine vD ?_;refine gx tv15 4 ?_;refine rt1 rfl rfl (ple ?_);refine congrArg (PV.int .i64) ?_
    unfold E1_
    repeat (first|rw[if_pos (by omega)]|rw[if_neg (by omega)]|rw[if_pos (by assumption)]|rw[if_neg (not_not_intro (by assumption))])
    all_goals first|done|rfl
  refine gx tv15 7 ?_;refine cnd rfl (fun h28=>?_) (fun h28=>?_)
  · have p29:=dt h28;refine gx tv15 2 ?_;refine cndT rfl h28 ?_;refine gm tv15 9 [1] fun B31=>?_;refine aN [2,3,4,5,6,7] 17 mixd ?_;refine gX tv15 [0,1] 15 ?_;refine vC 2 rfl (Cj_ _) rfl fun w32=>?_;refine gX tv15 [3,4] 12 ?_;refine vC 5 rfl (Cj_ _) rfl fun w33=>?_;refine gX tv15 [6,7,8,9] 7 ?_;refine vC 10 rfl (Ja_ _ _) rfl fun w34=>?_;refine gX tv15 [11,12] 4 ?_;refine vC 13 rfl (H9_ _) rfl fun w35=>?_;refine vE 14 rfl (bsl 2 i64c [Dp_ d.bind.shop,Dp_ d.bind.to',Gc_ (decide (64<(d.bind.key.length:Int))) 5,Fn_ d.bind.want] tv15 rfl rfl rfl rfl rfl (fun _=>rfl) rfl (by decide) (by decide) rfl fun u36=>?_);refine vE 15 rfl (calll 2 rfl (Jb_ _) rfl rfl rfl fun w37=>?_);refine gX tv15 [16] 0 ?_;refine vD ?_;refine gx tv15 4 ?_;refine rt1 rfl rfl (ple ?_);refine congrArg (PV.int .i64) ?_
    unfold E1_
    repeat (first|rw[if_pos (by omega)]|rw[if_neg (by omega)]|rw[if_pos (by assumption)]|rw[if_neg (not_not_intro (by assumption))])
    all_goals first|done|rfl
  have p38:=df h28;refine gx tv15 5 ?_;refine cn rfl (fun p40=>?_) fun p49=>?_
  · refine gm tv15 9 [1] fun B42=>?_;refine aN [2,3,4,5,6,7] 17 mixd ?_;refine gX tv15 [0,1] 15 ?_;refine vC 2 rfl (Cj_ _) rfl fun w43=>?_;refine gX tv15 [3,4] 12 ?_;refine vC 5 rfl (Cj_ _) rfl fun w44=>?_;refine gX tv15 [6,7,8,9] 7 ?_;refine vC 10 rfl (Ja_ _ _) rfl fun w45=>?_;refine gX tv15 [11,12] 4 ?_;refine vC 13 rfl (H9_ _) rfl fun w46=>?_;refine vE 14 rfl (bsl 2 i64c [Dp_ d.bind.shop,Dp_ d.bind.to',Gc_ (decide (64<(d.bind.key.length:Int))) 5,Fn_ d.bind.want] tv15 rfl rfl rfl rfl rfl (fun _=>rfl) rfl (by decide) (by decide) rfl fun u47=>?_);refine vE 15 rfl (calll 2 rfl (Jb_ _) rfl rfl rfl fun w48=>?_);refine gX tv15 [16] 0 ?_;refine vD ?_;refine gx tv15 4 ?_;refine rt1 rfl rfl (ple ?_);refine congrArg (PV.int .i64) ?_
    unfold E1_
    repeat (first|rw[if_pos (by omega)]|rw[if_neg (by omega)]|rw[if_pos (by assumption)]|rw[if_neg (not_not_intro (by assumption))])
    all_goals first|done|rfl
  refine gx tv15 7 ?_;refine cnd rfl (fun h50=>?_) (fun h50=>?_)
  · have p51:=dt h50;refine gx tv15 2 ?_;refine cndT rfl h50 ?_;refine gx tv15 4 ?_;refine call (Ia_ _) rfl rfl fun w52=>?_;have :=Lh_ d.mail;have hmo52:=fun h=>Gh_ (m:=d.mail) h;refine gx tv15 6 ?_;refine rt1 rfl rfl (ple ?_);refine congrArg (PV.int .i64) ?_
    unfold E1_
    repeat (first|rw[if_pos (by omega)]|rw[if_neg (by omega)]|rw[if_pos (by assumption)]|rw[if_neg (not_not_intro (by assumption))])
    all_goals first|done|rfl
  have p53:=df h50;refine gx tv15 5 ?_;refine cn rfl (fun p55=>?_) fun p57=>?_
  · refine gx tv15 4 ?_;refine call (Ia_ _) rfl rfl fun w56=>?_;have :=Lh_ d.mail;have hmo56:=fun h=>Gh_ (m:=d.mail) h;refine gx tv15 6 ?_;refine rt1 rfl rfl (ple ?_);refine congrArg (PV.int .i64) ?_
    unfold E1_
    repeat (first|rw[if_pos (by omega)]|rw[if_neg (by omega)]|rw[if_pos (by assumption)]|rw[if_neg (not_not_intro (by assumption))])
    all_goals first|done|rfl
  refine gx tv15 7 ?_;refine cnd rfl (fun h58=>?_) (fun h58=>?_)
  · have p59:=dt h58;refine gx tv15 2 ?_;refine cndT rfl h58 ?_;refine gx tv15 8 ?_;refine rt1 rfl rfl (ple ?_);refine congrArg (PV.int .i64) ?_
    unfold E1_
    repeat (first|rw[if_pos (by omega)]|rw[if_neg (by omega)]|rw[if_pos (by assumption)]|rw[if_neg (not_not_intro (by assumption))])
    all_goals first|done|rfl
  have p60:=df h58;refine gx tv15 5 ?_;refine cn rfl (fun p62=>?_) fun p63=>?_
  · refine gx tv15 8 ?_;refine rt1 rfl rfl (ple ?_);refine congrArg (PV.int .i64) ?_
    unfold E1_
    repeat (first|rw[if_pos (by omega)]|rw[if_neg (by omega)]|rw[if_pos (by assumption)]|rw[if_neg (not_not_intro (by assumption))])
    all_goals first|done|rfl
  refine gx tv15 6 ?_;refine cn rfl (fun p65=>?_) fun p67=>?_
  · refine gx tv15 6 ?_;refine call (Ja_ _ _) rfl rfl fun w66=>?_;refine gx tv15 6 ?_;refine rt1 rfl rfl (ple ?_);refine congrArg (PV.int .i64) ?_
    unfold E1_
    repeat (first|rw[if_pos (by omega)]|rw[if_neg (by omega)]|rw[if_pos (by assumption)]|rw[if_neg (not_not_intro (by assumption))])
    all_goals first|done|rfl
  refine gx tv15 4 ?_;refine aN [1,2,3,4,5,6] 10 mixd ?_;refine gX tv15 [0,1] 8 ?_;refine vC 2 rfl (Cj_ _) rfl fun w68=>?_;refine gX tv15 [3,4,5] 4 ?_;refine vC 6 rfl (Ja_ _ _) rfl fun w69=>?_;refine vE 7 rfl (bsl 1 i64c [Dp_ d.name,Gc_ (decide (2<d.how)) 7] tv15 rfl rfl rfl rfl rfl (fun _=>rfl) rfl (by decide) (by decide) rfl fun u70=>?_);refine vE 8 rfl (calll 1 rfl (Jb_ _) rfl rfl rfl fun w71=>?_);refine gX tv15 [9] 0 ?_;refine vD ?_;refine gx tv15 2 ?_;refine rt1 rfl rfl (ple ?_);refine congrArg (PV.int .i64) ?_
  unfold E1_
  repeat (first|rw[if_pos (by omega)]|rw[if_neg (by omega)]|rw[if_pos (by assumption)]|rw[if_neg (not_not_intro (by assumption))])
  all_goals first|done|rfl
def tbv16:Tb:=[(4,ty4),(5,ty5),(9,ty9),(22,ty22),(64,ty64),(66,ty66),(67,ty67),(69,ty69),(71,ty71),(73,ty73),(169,ty169)]
theorem tv16:tbB Tryz.prog tbv16=true:=by kernel_rfl
theorem Xi_ (d:DeedR):Fn Tryz.prog gb 284 [.agg (DeedR.pc d)] (.tup [.str (Am_ d), .int .i64 (E1_ d)]):=by
  refine fC Tryz.func284 tv16 Tryz.ntmps284 fun w N H hG=>?_;have d_w:=DeedR.pwf w.1;have d_w':=d_w
  simp only[DeedR.wf,ShopR.wf,I_.wf,BindR.wf,Mail.wf] at d_w'
  have d_bind_want_k:=DeedR.kd13 w.1;have d_bind_want_k2:d.bind.want.length<=140737488355328:=w.1.2.2.2.2.2.2.2.2.2.2.2.2.2.1.1;have d_mail_head_k:=DeedR.kd24 w.1;have d_mail_head_k2:d.mail.head.length<=140737488355328:=w.1.2.2.2.2.2.2.2.2.2.2.2.2.2.2.2.2.2.2.2.2.2.2.2.2.1.1;refine gm tv16 11 [0] fun B2=>?_;refine call (Qb_ _) rfl rfl fun w3=>?_;have :=Uy_ d;refine gx tv16 9 ?_;refine cnd rfl (fun h4=>?_) (fun h4=>?_)
  · have h5:=Df_ h4;have p6:=df h5;refine gx tv16 9 ?_;refine rt2 rfl rfl ?_;refine ple ?_;have e:Am_ d=[]:=by
      unfold Am_
      first
        |(rw[if_neg (by assumption)];done)
        |(rw[if_pos (by assumption)];unfold F9_;(repeat (first|rw[if_pos (by omega)]|rw[if_neg (by omega)]|rw[if_pos (by assumption)]|rw[if_neg (by assumption)]|rw[if_neg (not_not_intro (by assumption))]));first|done|rfl)
    rw[e]
    try (rw[show E1_ d=0 by assumption])
  have h7:=Ds_ h4;have p8:=dt h7;have hdk:=Rb_ (d:=d) (by omega) p8;obtain⟨dk1,dk2,dk3,dk4,dk5,dk6,dk7,dk8,dk9,dk10,dk11,dk12,dk13,dk14,dk15,dk16,dk17,dk18,dk19⟩:=hdk;refine gx tv16 3 ?_;refine aN [1,2,3,4,5,6] 10 mixd ?_;refine gX tv16 [0,1,2,3] 6 ?_;refine vC 4 rfl (out_Num (⟨[],0⟩:Out) _ _ (by ((try have :=hrl (by assumption));first|omega|(simp[C_,Bq_,Bc_,numK]<;>omega)))) rfl fun w9=>?_;have nl0:(⟨[],0⟩:Out).s.length=0:=rfl;have :=Ac_ (⟨[],0⟩:Out) d.kind 1;refine gX tv16 [5,6] 3 ?_;refine vC 7 rfl (out_Num _ _ _ (by ((try have :=hrl (by assumption));first|omega|(simp[C_,Bq_,Bc_,numK]<;>omega)))) rfl fun w10=>?_;have :=Ac_ (C_ (⟨[],0⟩:Out) d.kind 1) d.tick 8;refine vE 8 rfl (aL tv16 1 fun b11=>?_);refine vT 9 rfl (sA tv16 ?_);refine vD ?_;refine gx tv16 5 ?_;refine call (Na_ _) rfl rfl fun w12=>?_;have :=Gx_ d.mail;refine gx tv16 21 ?_;refine cn rfl (fun p14=>?_) fun p19=>?_
  · refine aN [2,3,4,5,6,7] 15 mixd ?_;refine gX tv16 [0,1,2,3] 11 ?_;refine vC 4 rfl (C9_ _ _) rfl fun w15=>?_;have :=Ai_ (C_ (C_ (⟨[],0⟩:Out) d.kind 1) d.tick 8) d.shop.name;refine gX tv16 [5,6,7,8] 6 ?_;refine vC 9 rfl (out_Num _ _ _ (by ((try have :=hrl (by assumption));first|omega|(simp[C_,Bq_,Bc_,numK]<;>omega)))) rfl fun w16=>?_;have :=Ac_ (E_ (C_ (C_ (⟨[],0⟩:Out) d.kind 1) d.tick 8) d.shop.name) d.shop.sort 1;refine gX tv16 [10,11,12] 2 ?_;refine vC 13 rfl (C9_ _ _) rfl fun w17=>?_;have :=Ai_ (C_ (E_ (C_ (C_ (⟨[],0⟩:Out) d.kind 1) d.tick 8) d.shop.name) d.shop.sort 1) d.shop.to';refine vT 14 rfl (sA tv16 ?_);refine vD ?_;refine gx tv16 5 ?_;refine call (Cs_ _) rfl rfl fun w18=>?_;refine gx tv16 5 ?_;refine rt2 rfl rfl ?_;refine ple ?_;have e:Am_ d=(E_ (C_ (E_ (C_ (C_ (⟨[],0⟩:Out) d.kind 1) d.tick 8) d.shop.name) d.shop.sort 1) d.shop.to').s:=by
      unfold Am_
      first
        |(rw[if_neg (by assumption)];done)
        |(rw[if_pos (by assumption)];unfold F9_;(repeat (first|rw[if_pos (by omega)]|rw[if_neg (by omega)]|rw[if_pos (by assumption)]|rw[if_neg (by assumption)]|rw[if_neg (not_not_intro (by assumption))]));first|done|rfl)
    rw[e]
    try (rw[show E1_ d=0 by assumption])
  refine gx tv16 6 ?_;refine cn rfl (fun p21=>?_) fun p27=>?_
  · refine aN [2,3,4,5,6,7] 18 mixd ?_;refine gX tv16 [0,1,2,3] 14 ?_;refine vC 4 rfl (C9_ _ _) rfl fun w22=>?_;have :=Ai_ (C_ (C_ (⟨[],0⟩:Out) d.kind 1) d.tick 8) d.queue.name;refine gX tv16 [5,6,7] 10 ?_;refine vC 8 rfl (out_Num _ _ _ (by ((try have :=hrl (by assumption));first|omega|(simp[C_,Bq_,Bc_,numK]<;>omega)))) rfl fun w23=>?_;have :=Ac_ (E_ (C_ (C_ (⟨[],0⟩:Out) d.kind 1) d.tick 8) d.queue.name) d.queue.most 8;refine gX tv16 [9,10,11] 6 ?_;refine vC 12 rfl (out_Num _ _ _ (by ((try have :=hrl (by assumption));first|omega|(simp[C_,Bq_,Bc_,numK]<;>omega)))) rfl fun w24=>?_;have :=Ac_ (C_ (E_ (C_ (C_ (⟨[],0⟩:Out) d.kind 1) d.tick 8) d.queue.name) d.queue.most 8) d.queue.life 8;refine gX tv16 [13,14,15] 2 ?_;refine vC 16 rfl (C9_ _ _) rfl fun w25=>?_;have :=Ai_ (C_ (C_ (E_ (C_ (C_ (⟨[],0⟩:Out) d.kind 1) d.tick 8) d.queue.name) d.queue.most 8) d.queue.life 8) d.queue.dead;refine vT 17 rfl (sA tv16 ?_);refine vD ?_;refine gx tv16 5 ?_;refine call (Cs_ _) rfl rfl fun w26=>?_;refine gx tv16 5 ?_;refine rt2 rfl rfl ?_;refine ple ?_;have e:Am_ d=(E_ (C_ (C_ (E_ (C_ (C_ (⟨[],0⟩:Out) d.kind 1) d.tick 8) d.queue.name) d.queue.most 8) d.queue.life 8) d.queue.dead).s:=by
      unfold Am_
      first
        |(rw[if_neg (by assumption)];done)
        |(rw[if_pos (by assumption)];unfold F9_;(repeat (first|rw[if_pos (by omega)]|rw[if_neg (by omega)]|rw[if_pos (by assumption)]|rw[if_neg (by assumption)]|rw[if_neg (not_not_intro (by assumption))]));first|done|rfl)
    rw[e]
    try (rw[show E1_ d=0 by assumption])
  refine gx tv16 7 ?_;refine cnd rfl (fun h28=>?_) (fun h28=>?_)
  · have p29:=dt h28;refine gx tv16 2 ?_;refine cndT rfl h28 ?_;refine gm tv16 12 [2] fun B31=>?_;refine call (Kv_ _) rfl rfl fun w32=>?_;have :=F3_ d.bind.want;refine gx tv16 7 ?_;refine aN [3,4,5,6,7,8] 21 mixd ?_;refine gX tv16 [0,1,2] 18 ?_;refine vC 3 rfl (C9_ _ _) rfl fun w33=>?_;have :=Ai_ (C_ (C_ (⟨[],0⟩:Out) d.kind 1) d.tick 8) d.bind.shop;refine gX tv16 [4,5] 15 ?_;refine vC 6 rfl (C9_ _ _) rfl fun w34=>?_;have :=Ai_ (E_ (C_ (C_ (⟨[],0⟩:Out) d.kind 1) d.tick 8) d.bind.shop) d.bind.to';refine gX tv16 [7,8] 12 ?_;refine vC 9 rfl (N2_ _) rfl fun w35=>?_;refine vC 10 rfl (out_Num _ _ _ (by ((try have :=hrl (by assumption));first|omega|(simp[C_,Bq_,Bc_,numK]<;>omega)))) rfl fun w36=>?_;have :=Ac_ (E_ (E_ (C_ (C_ (⟨[],0⟩:Out) d.kind 1) d.tick 8) d.bind.shop) d.bind.to') (bitN d.bind.up) 1;refine gX tv16 [11,12] 8 ?_;refine vC 13 rfl (C9_ _ _) rfl fun w37=>?_;have :=Ai_ (C_ (E_ (E_ (C_ (C_ (⟨[],0⟩:Out) d.kind 1) d.tick 8) d.bind.shop) d.bind.to') (bitN d.bind.up) 1) d.bind.key;refine gX tv16 [14] 6 ?_;refine vC 15 rfl (Nc_ _ _) rfl fun w38=>?_;have :=Gn_ (E_ (C_ (E_ (E_ (C_ (C_ (⟨[],0⟩:Out) d.kind 1) d.tick 8) d.bind.shop) d.bind.to') (bitN d.bind.up) 1) d.bind.key) (Be_ d.bind.want);refine gX tv16 [16,17] 3 ?_;refine vC 18 rfl (N2_ _) rfl fun w39=>?_;refine vC 19 rfl (out_Num _ _ _ (by ((try have :=hrl (by assumption));first|omega|(simp[C_,Bq_,Bc_,numK]<;>omega)))) rfl fun w40=>?_;have :=Ac_ (Bq_ (E_ (C_ (E_ (E_ (C_ (C_ (⟨[],0⟩:Out) d.kind 1) d.tick 8) d.bind.shop) d.bind.to') (bitN d.bind.up) 1) d.bind.key) (Be_ d.bind.want)) (bitN d.bind.all) 1;refine vT 20 rfl (sA tv16 ?_);refine vD ?_;refine gx tv16 5 ?_;refine call (Cs_ _) rfl rfl fun w41=>?_;refine gx tv16 5 ?_;refine rt2 rfl rfl ?_;refine ple ?_;have e:Am_ d=(C_ (Bq_ (E_ (C_ (E_ (E_ (C_ (C_ (⟨[],0⟩:Out) d.kind 1) d.tick 8) d.bind.shop) d.bind.to') (bitN d.bind.up) 1) d.bind.key) (Be_ d.bind.want)) (bitN d.bind.all) 1).s:=by
      unfold Am_
      first
        |(rw[if_neg (by assumption)];done)
        |(rw[if_pos (by assumption)];unfold F9_;(repeat (first|rw[if_pos (by omega)]|rw[if_neg (by omega)]|rw[if_pos (by assumption)]|rw[if_neg (by assumption)]|rw[if_neg (not_not_intro (by assumption))]));first|done|rfl)
    rw[e]
    try (rw[show E1_ d=0 by assumption])
  have p42:=df h28;refine gx tv16 5 ?_;refine cn rfl (fun p44=>?_) fun p57=>?_
  · refine gm tv16 12 [2] fun B46=>?_;refine call (Kv_ _) rfl rfl fun w47=>?_;have :=F3_ d.bind.want;refine gx tv16 7 ?_;refine aN [3,4,5,6,7,8] 21 mixd ?_;refine gX tv16 [0,1,2] 18 ?_;refine vC 3 rfl (C9_ _ _) rfl fun w48=>?_;have :=Ai_ (C_ (C_ (⟨[],0⟩:Out) d.kind 1) d.tick 8) d.bind.shop;refine gX tv16 [4,5] 15 ?_;refine vC 6 rfl (C9_ _ _) rfl fun w49=>?_;have :=Ai_ (E_ (C_ (C_ (⟨[],0⟩:Out) d.kind 1) d.tick 8) d.bind.shop) d.bind.to';refine gX tv16 [7,8] 12 ?_;refine vC 9 rfl (N2_ _) rfl fun w50=>?_;refine vC 10 rfl (out_Num _ _ _ (by ((try have :=hrl (by assumption));first|omega|(simp[C_,Bq_,Bc_,numK]<;>omega)))) rfl fun w51=>?_;have :=Ac_ (E_ (E_ (C_ (C_ (⟨[],0⟩:Out) d.kind 1) d.tick 8) d.bind.shop) d.bind.to') (bitN d.bind.up) 1;refine gX tv16 [11,12] 8 ?_;refine vC 13 rfl (C9_ _ _) rfl fun w52=>?_;have :=Ai_ (C_ (E_ (E_ (C_ (C_ (⟨[],0⟩:Out) d.kind 1) d.tick 8) d.bind.shop) d.bind.to') (bitN d.bind.up) 1) d.bind.key;refine gX tv16 [14] 6 ?_;refine vC 15 rfl (Nc_ _ _) rfl fun w53=>?_;have :=Gn_ (E_ (C_ (E_ (E_ (C_ (C_ (⟨[],0⟩:Out) d.kind 1) d.tick 8) d.bind.shop) d.bind.to') (bitN d.bind.up) 1) d.bind.key) (Be_ d.bind.want);refine gX tv16 [16,17] 3 ?_;refine vC 18 rfl (N2_ _) rfl fun w54=>?_;refine vC 19 rfl (out_Num _ _ _ (by ((try have :=hrl (by assumption));first|omega|(simp[C_,Bq_,Bc_,numK]<;>omega)))) rfl fun w55=>?_;have :=Ac_ (Bq_ (E_ (C_ (E_ (E_ (C_ (C_ (⟨[],0⟩:Out) d.kind 1) d.tick 8) d.bind.shop) d.bind.to') (bitN d.bind.up) 1) d.bind.key) (Be_ d.bind.want)) (bitN d.bind.all) 1;refine vT 20 rfl (sA tv16 ?_);refine vD ?_;refine gx tv16 5 ?_;refine call (Cs_ _) rfl rfl fun w56=>?_;refine gx tv16 5 ?_;refine rt2 rfl rfl ?_;refine ple ?_;have e:Am_ d=(C_ (Bq_ (E_ (C_ (E_ (E_ (C_ (C_ (⟨[],0⟩:Out) d.kind 1) d.tick 8) d.bind.shop) d.bind.to') (bitN d.bind.up) 1) d.bind.key) (Be_ d.bind.want)) (bitN d.bind.all) 1).s:=by
      unfold Am_
      first
        |(rw[if_neg (by assumption)];done)
        |(rw[if_pos (by assumption)];unfold F9_;(repeat (first|rw[if_pos (by omega)]|rw[if_neg (by omega)]|rw[if_pos (by assumption)]|rw[if_neg (by assumption)]|rw[if_neg (not_not_intro (by assumption))]));first|done|rfl)
    rw[e]
    try (rw[show E1_ d=0 by assumption])
  refine gx tv16 6 ?_;refine cn rfl (fun p59=>?_) fun p63=>?_
  · refine gx tv16 3 ?_;refine call (Nc_ _ _) rfl rfl fun w60=>?_;have :=Gn_ (C_ (C_ (⟨[],0⟩:Out) d.kind 1) d.tick 8) (Do_ d.mail);refine gm tv16 7 [] fun _=>?_;refine call (Cs_ _) rfl rfl fun w62=>?_;refine gx tv16 5 ?_;refine rt2 rfl rfl ?_;refine ple ?_;have e:Am_ d=(Bq_ (C_ (C_ (⟨[],0⟩:Out) d.kind 1) d.tick 8) (Do_ d.mail)).s:=by
      unfold Am_
      first
        |(rw[if_neg (by assumption)];done)
        |(rw[if_pos (by assumption)];unfold F9_;(repeat (first|rw[if_pos (by omega)]|rw[if_neg (by omega)]|rw[if_pos (by assumption)]|rw[if_neg (by assumption)]|rw[if_neg (not_not_intro (by assumption))]));first|done|rfl)
    rw[e]
    try (rw[show E1_ d=0 by assumption])
  refine gx tv16 7 ?_;refine cnd rfl (fun h64=>?_) (fun h64=>?_)
  · have p65:=dt h64;refine gx tv16 2 ?_;refine cndT rfl h64 ?_;refine gx tv16 4 ?_;refine call (C9_ _ _) rfl rfl fun w66=>?_;have :=Ai_ (C_ (C_ (⟨[],0⟩:Out) d.kind 1) d.tick 8) d.name;refine gm tv16 7 [] fun _=>?_;refine call (Cs_ _) rfl rfl fun w68=>?_;refine gx tv16 5 ?_;refine rt2 rfl rfl ?_;refine ple ?_;have e:Am_ d=(E_ (C_ (C_ (⟨[],0⟩:Out) d.kind 1) d.tick 8) d.name).s:=by
      unfold Am_
      first
        |(rw[if_neg (by assumption)];done)
        |(rw[if_pos (by assumption)];unfold F9_;(repeat (first|rw[if_pos (by omega)]|rw[if_neg (by omega)]|rw[if_pos (by assumption)]|rw[if_neg (by assumption)]|rw[if_neg (not_not_intro (by assumption))]));first|done|rfl)
    rw[e]
    try (rw[show E1_ d=0 by assumption])
  have p69:=df h64;refine gx tv16 6 ?_;refine cnd rfl (fun h70=>?_) (fun h70=>?_)
  · have p71:=dt h70;refine gx tv16 2 ?_;refine cndT rfl h70 ?_;refine gx tv16 4 ?_;refine call (C9_ _ _) rfl rfl fun w72=>?_;have :=Ai_ (C_ (C_ (⟨[],0⟩:Out) d.kind 1) d.tick 8) d.name;refine gm tv16 7 [] fun _=>?_;refine call (Cs_ _) rfl rfl fun w74=>?_;refine gx tv16 5 ?_;refine rt2 rfl rfl ?_;refine ple ?_;have e:Am_ d=(E_ (C_ (C_ (⟨[],0⟩:Out) d.kind 1) d.tick 8) d.name).s:=by
      unfold Am_
      first
        |(rw[if_neg (by assumption)];done)
        |(rw[if_pos (by assumption)];unfold F9_;(repeat (first|rw[if_pos (by omega)]|rw[if_neg (by omega)]|rw[if_pos (by assumption)]|rw[if_neg (by assumption)]|rw[if_neg (not_not_intro (by assumption))]));first|done|rfl)
    rw[e]
    try (rw[show E1_ d=0 by assumption])
  have p75:=df h70;refine gx tv16 5 ?_;refine cn rfl (fun p77=>?_) fun p81=>?_
  · refine gx tv16 4 ?_;refine call (C9_ _ _) rfl rfl fun w78=>?_;have :=Ai_ (C_ (C_ (⟨[],0⟩:Out) d.kind 1) d.tick 8) d.name;refine gm tv16 7 [] fun _=>?_;refine call (Cs_ _) rfl rfl fun w80=>?_;refine gx tv16 5 ?_;refine rt2 rfl rfl ?_;refine ple ?_;have e:Am_ d=(E_ (C_ (C_ (⟨[],0⟩:Out) d.kind 1) d.tick 8) d.name).s:=by
      unfold Am_
      first
        |(rw[if_neg (by assumption)];done)
        |(rw[if_pos (by assumption)];unfold F9_;(repeat (first|rw[if_pos (by omega)]|rw[if_neg (by omega)]|rw[if_pos (by assumption)]|rw[if_neg (by assumption)]|rw[if_neg (not_not_intro (by assumption))]));first|done|rfl)
    rw[e]
    try (rw[show E1_ d=0 by assumption])
  refine gx tv16 6 ?_;refine cn rfl (fun p83=>?_) fun p88=>?_
  · refine aN [2,3,4,5,6,7] 12 mixd ?_;refine gX tv16 [0,1,2] 9 ?_;refine vC 3 rfl (C9_ _ _) rfl fun w84=>?_;have :=Ai_ (C_ (C_ (⟨[],0⟩:Out) d.kind 1) d.tick 8) d.name;refine gX tv16 [4,5] 6 ?_;refine vC 6 rfl (out_Num _ _ _ (by ((try have :=hrl (by assumption));first|omega|(simp[C_,Bq_,Bc_,numK]<;>omega)))) rfl fun w85=>?_;have :=Ac_ (E_ (C_ (C_ (⟨[],0⟩:Out) d.kind 1) d.tick 8) d.name) d.id 8;refine gX tv16 [7,8,9] 2 ?_;refine vC 10 rfl (out_Num _ _ _ (by ((try have :=hrl (by assumption));first|omega|(simp[C_,Bq_,Bc_,numK]<;>omega)))) rfl fun w86=>?_;have :=Ac_ (C_ (E_ (C_ (C_ (⟨[],0⟩:Out) d.kind 1) d.tick 8) d.name) d.id 8) d.how 1;refine vT 11 rfl (sA tv16 ?_);refine vD ?_;refine gx tv16 5 ?_;refine call (Cs_ _) rfl rfl fun w87=>?_;refine gx tv16 5 ?_;refine rt2 rfl rfl ?_;refine ple ?_;have e:Am_ d=(C_ (C_ (E_ (C_ (C_ (⟨[],0⟩:Out) d.kind 1) d.tick 8) d.name) d.id 8) d.how 1).s:=by
      unfold Am_
      first
        |(rw[if_neg (by assumption)];done)
        |(rw[if_pos (by assumption)];unfold F9_;(repeat (first|rw[if_pos (by omega)]|rw[if_neg (by omega)]|rw[if_pos (by assumption)]|rw[if_neg (by assumption)]|rw[if_neg (not_not_intro (by assumption))]));first|done|rfl)
    rw[e]
    try (rw[show E1_ d=0 by assumption])
  refine gx tv16 6 ?_;refine cn rfl (fun p90=>?_) fun p95=>?_
  · refine aN [2,3,4,5,6,7] 11 mixd ?_;refine gX tv16 [0,1,2,3] 7 ?_;refine vC 4 rfl (out_Num _ _ _ (by ((try have :=hrl (by assumption));first|omega|(simp[C_,Bq_,Bc_,numK]<;>omega)))) rfl fun w91=>?_;have :=Ac_ (C_ (C_ (⟨[],0⟩:Out) d.kind 1) d.tick 8) d.frm 1;refine gX tv16 [5,6] 4 ?_;refine vC 7 rfl (out_Num _ _ _ (by ((try have :=hrl (by assumption));first|omega|(simp[C_,Bq_,Bc_,numK]<;>omega)))) rfl fun w92=>?_;have :=Ac_ (C_ (C_ (C_ (⟨[],0⟩:Out) d.kind 1) d.tick 8) d.frm 1) d.number 8;refine gX tv16 [8] 2 ?_;refine vC 9 rfl (Nc_ _ _) rfl fun w93=>?_;have :=Gn_ (C_ (C_ (C_ (C_ (⟨[],0⟩:Out) d.kind 1) d.tick 8) d.frm 1) d.number 8) (Do_ d.mail);refine vT 10 rfl (sA tv16 ?_);refine vD ?_;refine gx tv16 5 ?_;refine call (Cs_ _) rfl rfl fun w94=>?_;refine gx tv16 5 ?_;refine rt2 rfl rfl ?_;refine ple ?_;have e:Am_ d=(Bq_ (C_ (C_ (C_ (C_ (⟨[],0⟩:Out) d.kind 1) d.tick 8) d.frm 1) d.number 8) (Do_ d.mail)).s:=by
      unfold Am_
      first
        |(rw[if_neg (by assumption)];done)
        |(rw[if_pos (by assumption)];unfold F9_;(repeat (first|rw[if_pos (by omega)]|rw[if_neg (by omega)]|rw[if_pos (by assumption)]|rw[if_neg (by assumption)]|rw[if_neg (not_not_intro (by assumption))]));first|done|rfl)
    rw[e]
    try (rw[show E1_ d=0 by assumption])
  refine gx tv16 6 ?_;refine cn rfl (fun p97=>?_) fun p101=>?_
  · refine aN [2,3,4,5,6,7] 9 mixd ?_;refine gX tv16 [0,1,2,3] 5 ?_;refine vC 4 rfl (out_Num _ _ _ (by ((try have :=hrl (by assumption));first|omega|(simp[C_,Bq_,Bc_,numK]<;>omega)))) rfl fun w98=>?_;have :=Ac_ (C_ (C_ (⟨[],0⟩:Out) d.kind 1) d.tick 8) d.code 1;refine gX tv16 [5,6] 2 ?_;refine vC 7 rfl (C9_ _ _) rfl fun w99=>?_;have :=Ai_ (C_ (C_ (C_ (⟨[],0⟩:Out) d.kind 1) d.tick 8) d.code 1) d.text;refine vT 8 rfl (sA tv16 ?_);refine vD ?_;refine gx tv16 5 ?_;refine call (Cs_ _) rfl rfl fun w100=>?_;refine gx tv16 5 ?_;refine rt2 rfl rfl ?_;refine ple ?_;have e:Am_ d=(E_ (C_ (C_ (C_ (⟨[],0⟩:Out) d.kind 1) d.tick 8) d.code 1) d.text).s:=by
      unfold Am_
      first
        |(rw[if_neg (by assumption)];done)
        |(rw[if_pos (by assumption)];unfold F9_;(repeat (first|rw[if_pos (by omega)]|rw[if_neg (by omega)]|rw[if_pos (by assumption)]|rw[if_neg (by assumption)]|rw[if_neg (not_not_intro (by assumption))]));first|done|rfl)
    rw[e]
    try (rw[show E1_ d=0 by assumption])
  refine gx tv16 6 ?_;refine call (Cs_ _) rfl rfl fun w102=>?_;refine gx tv16 5 ?_;refine rt2 rfl rfl ?_;refine ple ?_;have e:Am_ d=(C_ (C_ (⟨[],0⟩:Out) d.kind 1) d.tick 8).s:=by
    unfold Am_
    first
      |(rw[if_neg (by assumption)];done)
      |(rw[if_pos (by assumption)];unfold F9_;(repeat (first|rw[if_pos (by omega)]|rw[if_neg (by omega)]|rw[if_pos (by assumption)]|rw[if_neg (by assumption)]|rw[if_neg (not_not_intro (by assumption))]));first|done|rfl)
  rw[e]
  try (rw[show E1_ d=0 by assumption])
def tbv18:Tb:=[(9,ty9),(106,Mw_)]
theorem tv18:tbB Tryz.prog tbv18=true:=by kernel_rfl
theorem r4_Name (s:Bs):Fn Tryz.prog gb 99 [.str s] (.int .i64 (Dp_ s)):=by
  refine fC Tryz.func99 tv18 Tryz.ntmps99 fun w N H hG=>?_;refine gx tv18 13 ?_;refine cn rfl (fun p2=>?_) fun p3=>?_
  · refine gx tv18 7 ?_;refine rt1 rfl rfl (ple ?_);have :s=[]:=List.eq_nil_of_length_eq_zero (by omega);subst this
    rfl
  refine gx tv18 10 ?_;refine cn rfl (fun p5=>?_) fun p6=>?_
  · refine gx tv18 7 ?_;refine rt1 rfl rfl (ple ?_);have hne:¬s=[]:=fun q=>by subst q;simp at *
    unfold Dp_
    rw[if_neg hne,if_pos (by omega)]
  refine gx tv18 9 ?_;refine loop (ι:=Nat) [0,4,5,6,7,8,9] [] (fun k=>[(3, .int .i64 (k:Int))]) (fun k=>[]) (fun k=>k<=s.length/\(s.drop k).all (fun c=>letter c.toNat)=plain s) (fun k=>s.length-k) 0 ⟨rfl,trivial⟩ trivial ?_ ?_
  · exact⟨by omega,rfl⟩
  rintro k hp7;obtain⟨hk1,hk2⟩:=hp7;refine gx tv18 9 ?_;refine cn rfl (fun p9=>?_) fun p15=>?_
  · have :=u8r (s.getD k 0);refine gx tv18 8 ?_;refine q1 (sidx tv18 k rfl rfl rfl rfl rfl (by omega)) rfl fun w10=>?_;refine call (r4_letter _) rfl rfl fun w11=>?_;refine gx tv18 3 ?_;refine cnd rfl (fun h12=>?_) (fun h12=>?_)
    · have h13:=Df_ h12;refine gx tv18 11 ?_;refine rt1 rfl rfl (ple ?_);have hne:¬s=[]:=fun q=>by subst q;simp at *
      unfold Dp_
      rw[if_neg hne,if_neg (by omega),<- hk2,Qh_ (k:=k) (by omega)]
      simp only[*,Bool.false_and,Bool.false_eq_true,if_false]
    have h14:=Ds_ h12;refine gy tv18 8 ?_;refine next (k+1) rfl rfl ⟨rfl,trivial⟩ trivial ?_ ?_
    · omega
    refine⟨by omega,?_⟩
    rw[<- hk2,Qh_ (k:=k) (by omega)]
    simp only[*,Bool.true_and]
  refine gx tv18 11 ?_;refine rt1 rfl rfl (ple ?_);have hne:¬s=[]:=fun q=>by subst q;simp at *
  unfold Dp_
  rw[if_neg hne,if_neg (by omega),<- hk2,List.drop_of_length_le (by omega)]
  rfl
abbrev ty332:TI:=⟨.agg [(0,1),(1,1),(2,1),(3,1)],4,56,[.int .u8 0, .str [], .sl Pair.pc [], .bool false]⟩
def tbv22:Tb:=[(4,ty4),(5,ty5),(9,ty9),(67,ty67),(268,ty268),(332,ty332)]
theorem tv22:tbB Tryz.prog tbv22=true:=by kernel_rfl
theorem Qp_ (r:Rule):Fn Tryz.prog gb 226 [.agg (Rule.pc r)] (.int .i64 (Sl_ r)):=by
  refine fC Tryz.func226 tv22 Tryz.ntmps226 fun w N H hG=>?_;have r_w:=Rule.pwf w.1;have r_w':=r_w
  simp only[Rule.wf] at r_w'
  have r_want_k:=Rule.kd2 w.1;have r_want_k2:r.want.length<=140737488355328:=w.1.2.2.1.1;refine gm tv22 21 [0] fun B2=>?_;refine cn rfl (fun p4=>?_) fun p5=>?_
  · refine gx tv22 8 ?_;refine rt1 rfl rfl (ple ?_);refine congrArg (PV.int .i64) ?_
    (try simp only[bl1] at *)
    unfold Sl_
    repeat (first|rw[if_pos (by omega)]|rw[if_neg (by omega)])
    all_goals first|done|rfl|omega
  refine gx tv22 8 ?_;refine cn rfl (fun p7=>?_) fun p15=>?_
  · refine gx tv22 3 ?_;refine call (Uo_ _) rfl rfl fun w8=>?_;refine gx tv22 11 ?_;refine cnd rfl (fun h9=>?_) (fun h9=>?_)
    · have h10:=Df_ h9;have p11:=df h10;refine gx tv22 8 ?_;refine rt1 rfl rfl (ple ?_);refine congrArg (PV.int .i64) ?_
      (try simp only[bl1] at *)
      unfold Sl_
      repeat (first|rw[if_pos (by omega)]|rw[if_neg (by omega)])
      all_goals first|done|rfl|omega
    have h12:=Ds_ h9;have p13:=dt h12;refine gx tv22 6 ?_;refine call (H9_ _) rfl rfl fun w14=>?_;refine gx tv22 4 ?_;refine rt1 rfl rfl (ple ?_);refine congrArg (PV.int .i64) ?_
    (try simp only[bl1] at *)
    unfold Sl_
    repeat (first|rw[if_pos (by omega)]|rw[if_neg (by omega)])
    all_goals first|done|rfl|omega
  refine gx tv22 3 ?_;refine call (Sq_ _) rfl rfl fun w16=>?_;refine gx tv22 11 ?_;refine cnd rfl (fun h17=>?_) (fun h17=>?_)
  · have h18:=Df_ h17;have p19:=df h18;refine gx tv22 8 ?_;refine rt1 rfl rfl (ple ?_);refine congrArg (PV.int .i64) ?_
    (try simp only[bl1] at *)
    unfold Sl_
    repeat (first|rw[if_pos (by omega)]|rw[if_neg (by omega)])
    all_goals first|done|rfl|omega
  have h20:=Ds_ h17;have p21:=dt h20;refine gx tv22 6 ?_;refine call (H9_ _) rfl rfl fun w22=>?_;refine gx tv22 4 ?_;refine rt1 rfl rfl (ple ?_);refine congrArg (PV.int .i64) ?_
  (try simp only[bl1] at *)
  unfold Sl_
  repeat (first|rw[if_pos (by omega)]|rw[if_neg (by omega)])
  all_goals first|done|rfl|omega
theorem X0_ (r:Rule) (h:List Pair):Fn Tryz.prog gb 297 [.agg (Rule.pc r), .sl Pair.pc h] (.bool (I7_ r.all h r.want)):=by
  refine fC Tryz.func297 tv22 Tryz.ntmps297 fun w N H hG=>?_;have r_want_l:r.want.length<=140737488355328:=w.1.2.2.1.1;have h_l:h.length<=140737488355328:=w.2.1.1;refine gm tv22 20 [0] fun B2=>?_;refine loop (ι:=Nat) [0,1,2,10,11,12] [0] (fun k=>[(13, .int .i64 (k:Int))]) (fun k=>[]) (fun k=>k<=r.want.length/\I7_ r.all h r.want=I7_ r.all h (r.want.drop k)) (fun k=>r.want.length-k) 0 ⟨rfl,trivial⟩ trivial ?_ ?_
  · exact⟨Nat.zero_le _,rfl⟩
  rintro k hp3;obtain⟨hk1,hk2⟩:=hp3;refine gx tv22 6 ?_;refine cn rfl (fun p5=>?_) fun p25=>?_
  · obtain⟨c6,hc7⟩:=getE (xs:=r.want) (m:=k) (by omega);have c6_w:=Pair.pwf (w.1.2.2.1.2 c6 (List.mem_of_getElem? hc7));refine gx tv22 6 ?_;refine q1 (qidx tv22 k rfl rfl rfl hc7 rfl rfl rfl rfl) rfl fun w8=>?_;refine gm tv22 10 [1] fun B10=>?_;refine call (S8_ _ _) rfl rfl fun w11=>?_;refine gm tv22 14 [2] fun B13=>?_;refine q1g [26,27] rfl (fun hc=>saeq rfl rfl eqg268 (veq268 ((P0_ h c6.key).getD Pair.zero) c6)) ⟨(fun hc=>hc),(fun hc=>hc),trivial⟩ rfl rfl rfl fun _=>?_;refine gy tv22 15 ?_;refine cnd rfl (fun h14=>?_) (fun h14=>?_)
    · have h15:=bl h14;have h16:=bl h15;have h17:=br h15;have p18:=dt h17;have h19:=br h14;refine gy tv22 8 ?_;refine next (k+1) rfl rfl ⟨rfl,trivial⟩ trivial ?_ ?_
      · omega
      refine⟨by omega,?_⟩
      rw[hk2,Dc_ hc7]
      simp only[I7_]
      first|(simp only[hasP];simp[*];done)|(unfold hasP;simp_all;done)|(unfold hasP;grind)
    refine gx tv22 6 ?_;refine cnd rfl (fun h20=>?_) (fun h20=>?_)
    · have h21:=bl h20;have h22:=br h20;have p23:=dt h22;refine gx tv22 13 ?_;refine rt1 rfl rfl (ple ?_);refine congrArg PV.bool ?_
      rw[hk2,Dc_ hc7]
      simp only[I7_]
      first|(simp only[hasP];simp[*];done)|(unfold hasP;simp_all;done)|(unfold hasP;grind)
    refine gx tv22 7 ?_;refine cnd rfl (fun h24=>?_) (fun h24=>?_)
    · refine gx tv22 13 ?_;refine rt1 rfl rfl (ple ?_);refine congrArg PV.bool ?_
      rw[hk2,Dc_ hc7]
      simp only[I7_]
      first|(simp only[hasP];simp[*];done)|(unfold hasP;simp_all;done)|(unfold hasP;grind)
    refine gy tv22 8 ?_;refine next (k+1) rfl rfl ⟨rfl,trivial⟩ trivial ?_ ?_
    · omega
    refine⟨by omega,?_⟩
    rw[hk2,Dc_ hc7]
    simp only[I7_]
    first|(simp only[hasP];simp[*];done)|(unfold hasP;simp_all;done)|(unfold hasP;grind)
  refine gx tv22 14 ?_;refine rt1 rfl rfl (ple ?_);refine congrArg PV.bool ?_
  rw[hk2,List.drop_of_length_le (by omega)]
  rfl
theorem Po_ (r:Rule) (key:Bs) (h:List Pair) (hrk:r.key.length<4294967281:=by first|omega|(simp;done)|decide) (hk:key.length<4294967281:=by first|omega|(simp;done)|decide):Fn Tryz.prog gb 256 [.agg (Rule.pc r), .str key, .sl Pair.pc h] (.bool (M3_ r key h)):=by
  refine fC Tryz.func256 tv22 Tryz.ntmps256 fun w N H hG=>?_;refine gm tv22 20 [0] fun B2=>?_;refine cn rfl (fun p4=>?_) fun p5=>?_
  · refine gx tv22 12 ?_;refine rt1 rfl rfl (ple ?_);refine congrArg PV.bool ?_
    first|(simp[M3_, *];done)|(simp[M3_, *];omega)
  refine gx tv22 6 ?_;refine cn rfl (fun p7=>?_) fun p9=>?_
  · refine gx tv22 5 ?_;refine call (H8_ _ _) rfl rfl fun w8=>?_;refine gx tv22 6 ?_;refine rt1 rfl rfl (ple ?_);refine congrArg PV.bool ?_
    first|(simp[M3_, *];done)|(simp[M3_, *];omega)
  refine gx tv22 6 ?_;refine cn rfl (fun p11=>?_) fun p13=>?_
  · refine gx tv22 4 ?_;refine call (X0_ _ _) rfl rfl fun w12=>?_;refine gx tv22 6 ?_;refine rt1 rfl rfl (ple ?_);refine congrArg PV.bool ?_
    first|(simp[M3_, *];done)|(simp[M3_, *];omega)
  refine gx tv22 9 ?_;refine rt1 rfl rfl (ple ?_);refine congrArg PV.bool ?_
  first|(simp[M3_, *];done)|(simp[M3_, *];omega)
theorem Xr_ (a:Rule) (b:Rule):Fn Tryz.prog gb 234 [.agg (Rule.pc a), .agg (Rule.pc b)] (.bool (decide (a=b))):=by
  refine fC Tryz.func234 tv22 Tryz.ntmps234 fun w N H hG=>?_;refine gmy tv22 33 [0,1] fun B2=>?_;refine callg rfl (fun hc=>(Y1_ _ _)) rfl ⟨(fun hc=>hc),(fun hc=>hc),trivial⟩ rfl rfl fun _=>?_;refine gy tv22 5 ?_;refine rt1 rfl rfl (ple ?_);exact congrArg PV.bool (by rw[Bool.eq_iff_iff];first|(simp[Rule.eq_iff,and_assoc];done)|(simp[Rule.eq_iff];grind))
abbrev ty40:TI:=⟨.slc 64,1,24,[.sl ShopR.pc []]⟩
abbrev ty43:TI:=⟨.agg [(0,1),(1,1)],2,48,[.sl ShopR.pc [], .sl BindR.pc []]⟩
def tbv23:Tb:=[(5,ty5),(9,ty9),(40,ty40),(43,ty43),(64,ty64),(106,Mw_)]
theorem tv23:tbB Tryz.prog tbv23=true:=by kernel_rfl
theorem eq_Str (a:List Bs) (b:List Bs):Fn Tryz.prog gb 19 [.sl strc a, .sl strc b] (.bool (decide (a=b))):=by
  refine fC Tryz.func19 tv23 Tryz.ntmps19 fun w N H hG=>?_;have a_l:a.length<=140737488355328:=w.1.1;have b_l:b.length<=140737488355328:=w.2.1.1;refine gx tv23 15 ?_;refine cnd rfl (fun h1=>?_) (fun h1=>?_)
  · have h2:=Df_ h1;have p3:=df h2;refine gx tv23 7 ?_;refine rt1 rfl rfl (ple ?_);exact congrArg PV.bool (Y0_ (by assumption)).symm
  have h4:=Ds_ h1;have p5:=dt h4;refine gx tv23 11 ?_;refine loop (ι:=Nat) [0,1,6,7,8,9,10,11,12] [] (fun k=>[(13, .int .i64 (k:Int))]) (fun k=>[]) (fun k=>k<=a.length /\ decide (a=b) = decide (a.drop k=b.drop k)) (fun k=>a.length-k) 0 ⟨rfl,trivial⟩ trivial ?_ ?_
  · exact⟨Nat.zero_le _,rfl⟩
  rintro k hp6;obtain⟨hk1,hk2⟩:=hp6;refine gx tv23 6 ?_;refine cnd rfl (fun h7=>?_) (fun h7=>?_)
  · have p8:=dt h7;refine gx tv23 11 ?_;refine aN [0,1,2,3,4,5] 9 mixd ?_;refine gX tv23 [0,1] 7 ?_;obtain⟨c9,hc10⟩:=getE (xs:=a) (m:=k) (by omega);have c9_l:c9.length<=9223372036854775807:=(w.1.2 c9 (List.mem_of_getElem? hc10)).1;refine vq 2 (qidx tv23 k rfl rfl rfl hc10 rfl rfl rfl rfl) rfl (by kernel_rfl) rfl fun w11=>?_;refine gX tv23 [3,4,5] 3 ?_;obtain⟨c12,hc13⟩:=getE (xs:=b) (m:=k) (by omega);have c12_l:c12.length<=9223372036854775807:=(w.2.1.2 c12 (List.mem_of_getElem? hc13)).1;refine vq 6 (qidx tv23 k rfl rfl rfl hc13 rfl rfl rfl rfl) rfl (by kernel_rfl) rfl fun w14=>?_;refine gX tv23 [7,8] 0 ?_;refine vD ?_;refine gx tv23 1 ?_;refine cnd rfl (fun h15=>?_) (fun h15=>?_)
    · have h16:=Df_ h15;have p17:=df h16;refine gx tv23 11 ?_;refine rt1 rfl rfl (ple ?_);exact congrArg PV.bool (V8_ hk2 (Dc_ hc10) (Dc_ hc13) (by assumption)).symm
    have h18:=Ds_ h15;have p19:=dt h18;refine gy tv23 7 ?_;refine next (k+1) rfl rfl ⟨rfl,trivial⟩ trivial ?_ ?_
    · omega
    exact⟨by omega,V9_ hk2 (Dc_ hc10) (Dc_ hc13) (by assumption)⟩
  have p20:=df h7;refine gx tv23 11 ?_;refine rt1 rfl rfl (ple ?_);exact congrArg PV.bool (Yz_ hk2 (by omega) (by omega)).symm
theorem Zk_ (l:List Bs) (x:Bs):Fn Tryz.prog gb 322 [.sl strc l, .str x] (.int .i64 (idxP (fun y=>decide (x=y)) l)):=by
  refine fC Tryz.func322 tv23 Tryz.ntmps322 fun w N H hG=>?_;have l_l:l.length<=140737488355328:=w.1.1;have x_l:x.length<=9223372036854775807:=w.2.1;refine gx tv23 14 ?_;refine loop (ι:=Nat) [0,1,6,7] [] (fun k=>[(8, .int .i64 (k:Int))]) (fun k=>[]) (fun k=>k<=l.length/\idxP (fun y=>decide (x=y)) l=idxF (fun y=>decide (x=y)) k (l.drop k)) (fun k=>l.length-k) 0 ⟨rfl,trivial⟩ trivial ?_ ?_
  · exact⟨Nat.zero_le _,rfl⟩
  rintro k hp1;obtain⟨hik1,hik2⟩:=hp1;refine gx tv23 6 ?_;refine cnd rfl (fun h2=>?_) (fun h2=>?_)
  · have p3:=dt h2;obtain⟨c4,hc5⟩:=getE (xs:=l) (m:=k) (by omega);have c4_l:c4.length<=9223372036854775807:=(w.1.2 c4 (List.mem_of_getElem? hc5)).1;refine gx tv23 15 ?_;refine q1 (qidx tv23 k rfl rfl rfl hc5 rfl rfl rfl rfl) rfl fun w6=>?_;refine gx tv23 4 ?_;refine cnd rfl (fun h7=>?_) (fun h7=>?_)
    · have p8:=dt h7;refine gx tv23 12 ?_;refine rt1 rfl rfl (ple ?_);exact congrArg (PV.int .i64) (Jt_ hik2 (Dc_ hc5) (by first|assumption|(simp[*];done))).symm
    have p9:=df h7;refine gy tv23 7 ?_;refine next (k+1) rfl rfl ⟨rfl,trivial⟩ trivial ?_ ?_
    · omega
    exact⟨by omega,H2_ hik2 (Dc_ hc5) (by assumption)⟩
  have p10:=df h2;refine gx tv23 11 ?_;refine rt1 rfl rfl (ple ?_);exact congrArg (PV.int .i64) (Js_ hik2 (by omega)).symm
theorem Sy_ (l:List Bs) (x:Bs):Fn Tryz.prog gb 298 [.sl strc l, .str x] (.bool (decide (x∈l))):=by
  refine fC Tryz.func298 tv23 Tryz.ntmps298 fun w N H hG=>?_;refine gx tv23 9 ?_;refine call (Zk_ _ _) rfl rfl fun w1=>?_;have :=idxP_r (fun y=>decide (x=y)) l;refine gx tv23 5 ?_;refine rt1 rfl rfl (ple ?_);refine congrArg PV.bool ?_
  rw[Bool.eq_iff_iff,decide_eq_true_eq,decide_eq_true_eq,idxP_any]
  simp
theorem X2_ (x:ShopR):Fn Tryz.prog gb 218 [.agg (ShopR.pc x)] (.int .i64 (Mt_ x)):=by
  refine fC Tryz.func218 tv23 Tryz.ntmps218 fun w N H hG=>?_;refine gm tv23 11 [0] fun B2=>?_;refine call (Cj_ _) rfl rfl fun w3=>?_;refine gx tv23 9 ?_;refine cnd rfl (fun h4=>?_) (fun h4=>?_)
  · have h5:=Df_ h4;have p6:=df h5;refine gx tv23 8 ?_;refine rt1 rfl rfl (ple ?_);refine congrArg (PV.int .i64) ?_
    simp only[bl1] at *
    unfold Mt_
    (repeat' split)<;>first|rfl|(exfalso;omega)|(exfalso;simp_all;done)|(exfalso;simp_all;omega)|grind
  have h7:=Ds_ h4;have p8:=dt h7;refine gx tv23 12 ?_;refine cnd rfl (fun h9=>?_) (fun h9=>?_)
  · have p10:=dt h9;refine gx tv23 8 ?_;refine rt1 rfl rfl (ple ?_);refine congrArg (PV.int .i64) ?_
    simp only[bl1] at *
    unfold Mt_
    (repeat' split)<;>first|rfl|(exfalso;omega)|(exfalso;simp_all;done)|(exfalso;simp_all;omega)|grind
  have p11:=df h9;refine gx tv23 8 ?_;refine cnd rfl (fun h12=>?_) (fun h12=>?_)
  · have p13:=dt h12;refine gx tv23 4 ?_;refine call (Cj_ _) rfl rfl fun w14=>?_;refine gx tv23 6 ?_;refine rt1 rfl rfl (ple ?_);refine congrArg (PV.int .i64) ?_
    simp only[bl1] at *
    unfold Mt_
    (repeat' split)<;>first|rfl|(exfalso;omega)|(exfalso;simp_all;done)|(exfalso;simp_all;omega)|grind
  have p15:=df h12;refine gx tv23 8 ?_;refine cnd rfl (fun h16=>?_) (fun h16=>?_)
  · have h17:=Df_ h16;have p18:=df h17;refine gx tv23 8 ?_;refine rt1 rfl rfl (ple ?_);refine congrArg (PV.int .i64) ?_
    simp only[bl1] at *
    unfold Mt_
    (repeat' split)<;>first|rfl|(exfalso;omega)|(exfalso;simp_all;done)|(exfalso;simp_all;omega)|grind
  have h19:=Ds_ h16;have p20:=dt h19;refine gx tv23 9 ?_;refine rt1 rfl rfl (ple ?_);refine congrArg (PV.int .i64) ?_
  simp only[bl1] at *
  unfold Mt_
  (repeat' split)<;>first|rfl|(exfalso;omega)|(exfalso;simp_all;done)|(exfalso;simp_all;omega)|grind
theorem L3_ (b:BookR) (name:Bs):Fn Tryz.prog gb 199 [.agg (BookR.pc b), .str name] (.tup [.agg (ShopR.pc ((Et_ b.shops name).getD ShopR.zero)), .bool ((Et_ b.shops name).isSome)]):=by
  refine fC Tryz.func199 tv23 Tryz.ntmps199 fun w N H hG=>?_;have b_shops_l:b.shops.length<=140737488355328:=w.1.1.1;have b_binds_l:b.binds.length<=140737488355328:=w.1.2.1.1;have name_l:name.length<=9223372036854775807:=w.2.1;refine gm tv23 17 [0,1] fun B2=>?_;refine loop (ι:=Nat) [0,1,2,4,8,9,10] [0,1] (fun k=>[(11, .int .i64 (k:Int))]) (fun k=>[]) (fun k=>k<=b.shops.length/\Et_ b.shops name=Et_ (b.shops.drop k) name) (fun k=>b.shops.length-k) 0 ⟨rfl,trivial⟩ trivial ?_ ?_
  · exact⟨Nat.zero_le _,rfl⟩
  rintro k hp4;obtain⟨hk1,hk2⟩:=hp4;refine gx tv23 6 ?_;refine cnd rfl (fun h5=>?_) (fun h5=>?_)
  · have p6:=dt h5;obtain⟨c7,hc8⟩:=getE (xs:=b.shops) (m:=k) (by omega);have c7_w:=ShopR.pwf (w.1.1.2 c7 (List.mem_of_getElem? hc8));refine gx tv23 6 ?_;refine q1 (qidx tv23 k rfl rfl rfl hc8 rfl rfl rfl rfl) rfl fun w9=>?_;refine gm tv23 13 [2] fun B11=>?_;refine cnd rfl (fun h12=>?_) (fun h12=>?_)
    · have p13:=dt h12;refine gm tv23 13 [] fun _=>?_;refine rt2 rfl rfl ?_;refine ple ?_;have e:=X1_ hk2 (Dc_ hc8) (by assumption)
      rw[e]
      rfl
    have p15:=df h12;refine gy tv23 7 ?_;refine next (k+1) rfl rfl ⟨rfl,trivial⟩ trivial ?_ ?_
    · (try simp only[]);omega
    exact⟨by omega,Vu_ hk2 (Dc_ hc8) (by assumption)⟩
  have p16:=df h5;refine gm tv23 13 [] fun _=>?_;refine rt2 rfl rfl ?_;refine ple ?_
  rw[List.drop_of_length_le (by omega)] at hk2
  rw[hk2]
  rfl
abbrev ty41:TI:=⟨.slc 69,1,24,[.sl BindR.pc []]⟩
def tbv24:Tb:=[(4,ty4),(9,ty9),(41,ty41),(67,ty67),(69,ty69),(268,ty268),(332,ty332)]
theorem tv24:tbB Tryz.prog tbv24=true:=by kernel_rfl
theorem L2_ (x:BindR) (sort:Int):Fn Tryz.prog gb 225 [.agg (BindR.pc x), .int .u8 sort] (.agg (Rule.pc (Ir_ x sort))):=by
  refine fC Tryz.func225 tv24 Tryz.ntmps225 fun w N H hG=>?_;refine gm tv24 20 [0,1] fun B2=>?_;refine rt1 rfl rfl (ple ?_)
  rfl
theorem Yk_ (x:BindR) (y:BindR):Fn Tryz.prog gb 170 [.agg (BindR.pc x), .agg (BindR.pc y)] (.bool (decide (x=y))):=by
  refine fC Tryz.func170 tv24 Tryz.ntmps170 fun w N H hG=>?_;refine gm tv24 8 [0,1] fun B2=>?_;refine aN [2,3,4,5,6,7] 27 mixd ?_;refine gXy tv24 [0,1,2,3,4,5,6,7,8,9,10,11,12,13,14,15,16,17,18,19,20,22] 5 ?_;refine vE 21 rfl (ecallg rfl (fun hc=>(L2_ _ _)) rfl ⟨(fun hc=>hc),trivial⟩ rfl rfl fun _=>?_);refine vE 23 rfl (ecallg rfl (fun hc=>(L2_ _ _)) rfl ⟨(fun hc=>hc),trivial⟩ rfl rfl fun _=>?_);refine vcallg 24 rfl (by kernel_rfl) rfl (fun hc=>(Xr_ _ _)) rfl rfl ⟨(fun hc=>hc),(fun hc=>hc),trivial⟩ rfl fun _=>?_;refine gXy tv24 [25,26] 0 ?_;refine vD ?_;refine gx tv24 2 ?_;refine rt1 rfl rfl (ple ?_);exact congrArg PV.bool (by rw[Bool.eq_iff_iff];first|(simp[BindR.eq_iff,Ir_,and_assoc];done)|(simp[BindR.eq_iff,Ir_];grind))
theorem P8_ (s:List Pair) (hl:s.length<=1000000:=by first|omega|(simp;done)|(simp;omega)):Fn Tryz.prog gb 204 [.sl Pair.pc s] (.sl Pair.pc s):=by
  refine fC Tryz.func204 tv24 Tryz.ntmps204 fun w N H hG=>?_;refine gx tv24 9 ?_;refine ef (lnil tv24 rfl rfl rfl rfl rfl fun b1 hb2=>?_);refine gx tv24 2 ?_;refine cnd rfl (fun h3=>?_) (fun h3=>?_)
  · refine gx tv24 7 ?_;refine rt1 rfl rfl ?_;refine Jv_ ?_;exact hb2 (by assumption)
  refine gx tv24 4 ?_;refine ef (bsl 0 Pair.pc [] tv24 rfl rfl rfl rfl rfl (fun _=>rfl) rfl (by decide) (by decide) rfl fun u4=>?_);refine gx tv24 1 ?_;refine ef (app tv24 s rfl rfl rfl rfl rfl rfl rfl rfl rfl (src_l rfl (fun _=>rfl)) (by first|omega|(simp;omega)) rfl fun u5=>?_);refine gx tv24 3 ?_;refine givec 0 rfl ?_;refine gx tv24 1 ?_;refine rt1 rfl rfl (ple ?_)
  simp
theorem P6_ (x:BindR) (hl:x.want.length<=1000000:=by first|omega|(simp;done)|decide):Fn Tryz.prog gb 155 [.agg (BindR.pc x)] (.agg (BindR.pc x)):=by
  refine fC Tryz.func155 tv24 Tryz.ntmps155 fun w N H hG=>?_;refine gm tv24 10 [0,1] fun B2=>?_;refine call (P8_ _) rfl rfl fun w4=>?_;refine gm tv24 11 [] fun _=>?_;refine rt1 rfl rfl (ple ?_)
  rfl
theorem Zg_ (s:List BindR) (f:FuncId) (f_fst f_cap:List PV) (f_p:BindR->Bool) (f_h:∀ x,Fn Tryz.prog gb f (argsP.apL f_fst ((.agg (BindR.pc x))::f_cap)) (.bool (f_p x))):Fn Tryz.prog gb 273 [.sl BindR.pc s, .fn f f_fst f_cap] (.int .i64 (idxP f_p s)):=by
  refine fC Tryz.func273 tv24 Tryz.ntmps273 fun w N H hG=>?_;have s_l:s.length<=140737488355328:=w.1.1;refine gx tv24 14 ?_;refine loop (ι:=Nat) [0,1,6,7] [] (fun k=>[(8, .int .i64 (k:Int))]) (fun k=>[]) (fun k=>k<=s.length/\idxP f_p s=idxF f_p k (s.drop k)) (fun k=>s.length-k) 0 ⟨rfl,trivial⟩ trivial ?_ ?_
  · exact⟨Nat.zero_le _,rfl⟩
  rintro k hp1;obtain⟨hk1,hk2⟩:=hp1;refine gx tv24 6 ?_;refine cnd rfl (fun h2=>?_) (fun h2=>?_)
  · have p3:=dt h2;obtain⟨c4,hc5⟩:=getE (xs:=s) (m:=k) (by omega);have c4_w:=BindR.pwf (w.1.2 c4 (List.mem_of_getElem? hc5));refine gx tv24 15 ?_;refine q1 (qidx tv24 k rfl rfl rfl hc5 rfl rfl rfl rfl) rfl fun w6=>?_;refine gx tv24 1 ?_;refine call (f_h c4) rfl rfl fun w7=>?_;refine gx tv24 2 ?_;refine cnd rfl (fun h8=>?_) (fun h8=>?_)
    · refine gx tv24 12 ?_;refine rt1 rfl rfl (ple ?_);exact congrArg (PV.int .i64) (Jt_ hk2 (Dc_ hc5) (by assumption)).symm
    refine gy tv24 7 ?_;refine next (k+1) rfl rfl ⟨rfl,trivial⟩ trivial ?_ ?_
    · omega
    exact⟨by omega,H2_ hk2 (Dc_ hc5) (by assumption)⟩
  have p9:=df h2;refine gx tv24 11 ?_;refine rt1 rfl rfl (ple ?_);exact congrArg (PV.int .i64) (Js_ hk2 (by omega)).symm
def tbv25:Tb:=[(9,ty9),(71,ty71),(169,ty169),(332,ty332)]
theorem tv25:tbB Tryz.prog tbv25=true:=by kernel_rfl
theorem Zn_:Fn Tryz.prog gb 239 [] (.bool true):=by
  refine fC Tryz.func239 tv25 Tryz.ntmps239 fun w N H hG=>?_;refine gx tv25 8 ?_;refine call (out_Num (⟨[],0⟩:Out) _ _ (by ((try have :=hrl (by assumption));first|omega|(simp[C_,Bq_,Bc_,numK]<;>omega)))) rfl rfl fun w1=>?_;have nl0:(⟨[],0⟩:Out).s.length=0:=rfl;have :=Ac_ (⟨[],0⟩:Out) 258 2;refine call (Cs_ _) rfl rfl fun w2=>?_;refine gx tv25 1 ?_;refine so_rt (t:=4) (p':= .bool true) (ple (congrArg PV.bool (show decide (((C_ (⟨[],0⟩:Out) 258 2).s)=[1,2])=true by decide +kernel))) rfl ?_;refine gx tv25 1 ?_;refine ungd rfl rfl ?_;refine gx tv25 1 ?_;refine ungd rfl rfl ?_;refine call (C9_ (⟨[],0⟩:Out) _) rfl rfl fun w3=>?_;have nl0:(⟨[],0⟩:Out).s.length=0:=rfl;have :=Ai_ (⟨[],0⟩:Out) [97,98];refine ungd rfl rfl ?_;refine call (Cs_ _) rfl rfl fun w4=>?_;refine ungd rfl rfl ?_;refine gx tv25 1 ?_;refine so_rt (t:=9) (p':= .bool true) (ple (congrArg PV.bool (show decide (((E_ (⟨[],0⟩:Out) [97,98]).s)=[0,2,97,98])=true by decide +kernel))) rfl ?_;refine gx tv25 2 ?_;refine ungd rfl rfl ?_;refine ef (ecallb 0 (octet_New _) rfl rfl fun w5 b6=>?_);refine ungd rfl rfl ?_;refine ef (ecallm (in_Num (⟨[1,2],0⟩) _) rfl rfl rfl rfl rfl fun w7 w7p=>?_);have :=inNum_r (⟨[1,2],0⟩) 2;refine ungd rfl rfl ?_;refine gx tv25 1 ?_;refine so_rt (t:=14) (p':= .bool true) (ple (congrArg PV.bool (show decide ((((Rs_ (⟨[1,2],0⟩) 2)).1)=258)=true by decide +kernel))) rfl ?_;refine gx tv25 5 ?_;refine rt1 rfl rfl (ple ?_);exact congrArg PV.bool (by first|rfl|decide +kernel)
theorem Or_:Fn Tryz.prog gb 177 [] (.bool true):=by
  refine fC Tryz.func177 tv25 Tryz.ntmps177 fun w N H hG=>?_;refine gx tv25 7 ?_;refine call Zn_ rfl rfl fun w1=>?_;refine gx tv25 4 ?_;refine rt1 rfl rfl (ple ?_)
  rfl
theorem Zo_:Fn Tryz.prog gb 314 [] (.bool true):=by
  refine fC Tryz.func314 tv25 Tryz.ntmps314 fun w N H hG=>?_;refine gx tv25 7 ?_;refine call (H8_ _ _) rfl rfl fun w1=>?_;refine so_rt (t:=1) (p':= .bool true) (ple (congrArg PV.bool (show mt (Bj_ [97,46,42,46,35]) (Bj_ [97,46,98])=true by decide +kernel))) rfl ?_;refine gx tv25 1 ?_;refine ungd rfl rfl ?_;refine call (H8_ _ _) rfl rfl fun w2=>?_;refine so_rt (t:=3) (p':= .bool true) (ple (congrArg PV.bool (show mt (Bj_ [97,46,42,46,35]) (Bj_ [97,46,98,46,99,46,100])=true by decide +kernel))) rfl ?_;refine gx tv25 2 ?_;refine ungd rfl rfl ?_;refine call (H8_ _ _) rfl rfl fun w3=>?_;refine so_rt (t:=6) (p':= .bool false) (ple (congrArg PV.bool (show mt (Bj_ [97,46,42,46,35]) (Bj_ [97])=false by decide +kernel))) rfl ?_;refine ungd rfl rfl ?_;refine gx tv25 1 ?_;refine so_rt (t:=7) (p':= .bool true) (ple (congrArg PV.bool (show !false=true by decide +kernel))) rfl ?_;refine gx tv25 2 ?_;refine ungd rfl rfl ?_;refine call (Cj_ _) rfl rfl fun w4=>?_;refine ungd rfl rfl ?_;refine gx tv25 1 ?_;refine so_rt (t:=11) (p':= .bool true) (ple (congrArg PV.bool (show decide ((Dp_ [97,45,49])=0)=true by decide +kernel))) rfl ?_;refine gx tv25 5 ?_;refine rt1 rfl rfl (ple ?_);exact congrArg PV.bool (by first|rfl|decide +kernel)
theorem J8_:Fn Tryz.prog gb 281 [] (.bool true):=by
  refine fC Tryz.func281 tv25 Tryz.ntmps281 fun w N H hG=>?_;refine gx tv25 7 ?_;refine call Zo_ rfl rfl fun w1=>?_;refine gx tv25 4 ?_;refine rt1 rfl rfl (ple ?_)
  rfl
theorem Zs_:Fn Tryz.prog gb 349 [] (.bool true):=by
  refine fC Tryz.func349 tv25 Tryz.ntmps349 fun w N H hG=>?_;refine gx tv25 7 ?_;refine call (Fn.le (Kv_ []) (A_ M_ R_) (ple rfl) rfl) rfl rfl fun w1=>?_;have :=F3_ [];refine gx tv25 9 ?_;refine call Or_ rfl rfl fun w2=>?_;refine gx tv25 1 ?_;refine ungd rfl rfl ?_;refine call J8_ rfl rfl fun w3=>?_;refine gx tv25 2 ?_;refine ungd rfl rfl ?_;refine gx tv25 1 ?_;refine ungd rfl rfl ?_;refine gx tv25 1 ?_;refine so_rt (t:=13) (p':= .bool true) (ple (congrArg PV.bool (show decide ((Fn_ [])=0)=true by decide +kernel))) rfl ?_;refine gx tv25 2 ?_;refine ungd rfl rfl ?_;refine gx tv25 1 ?_;refine ungd rfl rfl ?_;refine gx tv25 1 ?_;refine so_rt (t:=17) (p':= .bool true) (ple (congrArg PV.bool (show decide ((Be_ [])=[0])=true by decide +kernel))) rfl ?_;refine gx tv25 5 ?_;refine rt1 rfl rfl (ple ?_);exact congrArg PV.bool (by first|rfl|decide +kernel)
theorem Tk_:Fn Tryz.prog gb 339 [] (.bool true):=by
  refine fC Tryz.func339 tv25 Tryz.ntmps339 fun w N H hG=>?_;refine gx tv25 7 ?_;refine call Zs_ rfl rfl fun w1=>?_;refine gx tv25 4 ?_;refine rt1 rfl rfl (ple ?_)
  rfl
theorem Zu_:Fn Tryz.prog gb 350 [] (.bool true):=by
  refine fC Tryz.func350 tv25 Tryz.ntmps350 fun w N H hG=>?_;refine gm tv25 14 [0] fun B2=>?_;refine call J8_ rfl rfl fun w3=>?_;refine gx tv25 1 ?_;refine ungd rfl rfl ?_;refine call Tk_ rfl rfl fun w4=>?_;refine gx tv25 2 ?_;refine ungd rfl rfl ?_;refine gx tv25 1 ?_;refine ungd rfl rfl ?_;refine call (Qp_ (⟨2,[97,46,35],[],false⟩:Rule)) rfl rfl fun w5=>?_;refine ungd rfl rfl ?_;refine gx tv25 1 ?_;refine so_rt (t:=10) (p':= .bool true) (ple (congrArg PV.bool (show decide ((Sl_ (⟨2,[97,46,35],[],false⟩:Rule))=0)=true by decide +kernel))) rfl ?_;refine gx tv25 2 ?_;refine ungd rfl rfl ?_;refine gx tv25 1 ?_;refine ungd rfl rfl ?_;refine call (Fn.le (Po_ (⟨2,[97,46,35],[],false⟩:Rule) _ []) (A_ (ple rfl) (A_ (ple rfl) (A_ M_ R_))) (ple rfl) rfl) rfl rfl fun w6=>?_;refine so_rt (t:=14) (p':= .bool true) (ple (congrArg PV.bool (show M3_ (⟨2,[97,46,35],[],false⟩:Rule) [97,46,98] []=true by decide +kernel))) rfl ?_;refine gx tv25 2 ?_;refine ungd rfl rfl ?_;refine gx tv25 1 ?_;refine ungd rfl rfl ?_;refine call (Fn.le (Po_ (⟨2,[97,46,35],[],false⟩:Rule) _ []) (A_ (ple rfl) (A_ (ple rfl) (A_ M_ R_))) (ple rfl) rfl) rfl rfl fun w7=>?_;refine so_rt (t:=18) (p':= .bool false) (ple (congrArg PV.bool (show M3_ (⟨2,[97,46,35],[],false⟩:Rule) [98] []=false by decide +kernel))) rfl ?_;refine ungd rfl rfl ?_;refine gx tv25 1 ?_;refine so_rt (t:=19) (p':= .bool true) (ple (congrArg PV.bool (show !false=true by decide +kernel))) rfl ?_;refine gx tv25 5 ?_;refine rt1 rfl rfl (ple ?_);exact congrArg PV.bool (by first|rfl|decide +kernel)
theorem Zt_:Fn Tryz.prog gb 340 [] (.bool true):=by
  refine fC Tryz.func340 tv25 Tryz.ntmps340 fun w N H hG=>?_;refine gx tv25 7 ?_;refine call Zu_ rfl rfl fun w1=>?_;refine gx tv25 4 ?_;refine rt1 rfl rfl (ple ?_)
  rfl
theorem Zv_:Fn Tryz.prog gb 318 [] (.bool true):=by
  refine fC Tryz.func318 tv25 Tryz.ntmps318 fun w N H hG=>?_;refine gx tv25 8 ?_;refine call (Na_ (⟨0,[97],[],[],[],0,0⟩:Mail)) rfl rfl fun w1=>?_;have :=Gx_ (⟨0,[97],[],[],[],0,0⟩:Mail);refine gx tv25 9 ?_;refine call Tk_ rfl rfl fun w2=>?_;refine gx tv25 1 ?_;refine ungd rfl rfl ?_;refine gx tv25 1 ?_;refine ungd rfl rfl ?_;refine gx tv25 1 ?_;refine so_rt (t:=11) (p':= .bool true) (ple (congrArg PV.bool (show decide ((Gy_ (⟨0,[97],[],[],[],0,0⟩:Mail))=0)=true by decide +kernel))) rfl ?_;refine gx tv25 2 ?_;refine ungd rfl rfl ?_;refine gx tv25 1 ?_;refine ungd rfl rfl ?_;refine gx tv25 1 ?_;refine ungd rfl rfl ?_;refine gx tv25 1 ?_;refine so_rt (t:=16) (p':= .bool true) (ple (congrArg PV.bool (show decide (((Do_ (⟨0,[97],[],[],[],0,0⟩:Mail)).length:Int)=25)=true by decide +kernel))) rfl ?_;refine gx tv25 5 ?_;refine rt1 rfl rfl (ple ?_);exact congrArg PV.bool (by first|rfl|decide +kernel)
theorem Ov_:Fn Tryz.prog gb 285 [] (.bool true):=by
  refine fC Tryz.func285 tv25 Tryz.ntmps285 fun w N H hG=>?_;refine gx tv25 7 ?_;refine call Zv_ rfl rfl fun w1=>?_;refine gx tv25 4 ?_;refine rt1 rfl rfl (ple ?_)
  rfl
theorem cb272:O_ Tryz.prog 272:=K_ Tryz.func272 (by kernel_rfl) (by kernel_rfl)
theorem cb274:O_ Tryz.prog 274:=K_ Tryz.func274 (by kernel_rfl) (by kernel_rfl)
abbrev ty374:TI:=⟨.slc 40,1,24,[.sl (slc ShopR.pc) []]⟩
abbrev ty377:TI:=⟨.slc 41,1,24,[.sl (slc BindR.pc) []]⟩
def tbv40:Tb:=[(3,ty3),(40,ty40),(41,ty41),(64,ty64),(69,ty69),(374,ty374),(377,ty377)]
theorem tv40:tbB Tryz.prog tbv40=true:=by kernel_rfl
theorem Zd_ (n:Int) (hn:0<=n/\n<=100000000:=by omega):Fo Tryz.prog gb 272 [.val (.slice none 0 0), .int .i64 n] (fun u=> .val u) 3 64 ShopR.pc ([]:List ShopR):=by
  refine Rj_ tv40 Tryz.func272 rfl Tryz.ntmps272 rfl cb272 (fun _=>rfl) rfl fun w N H hG=>?_;refine gx tv40 12 ?_;refine cnd rfl (fun h1=>?_) (fun h1=>?_)
  · have p2:=dt h1
    exfalso;omega
  have p3:=df h1;refine gx tv40 7 ?_;refine q1 (qcap0 tv40 rfl rfl rfl) rfl fun w4=>?_;refine gx tv40 1 ?_;refine q1 (qlen0 tv40 rfl rfl rfl) rfl fun w5=>?_;refine gy tv40 11 ?_;refine cn rfl (fun p7=>?_) fun p13=>?_
  · refine gx tv40 3 ?_;refine q1 (qcap0 tv40 rfl rfl rfl) rfl fun w8=>?_;refine q1 (qcut0 tv40 rfl rfl rfl rfl rfl (by omega)) rfl fun w9=>?_;refine gx tv40 1 ?_;refine ef (appz (m:=((n-(0-0))).toNat) 0 tv40 rfl rfl rfl rfl rfl rfl rfl rfl rfl rfl (by omega) (by omega) (by (try simp only[]);omega) rfl rfl fun u10=>?_);refine gx tv40 1 ?_;refine q1 (qlen0 tv40 rfl rfl rfl) rfl fun w11=>?_;refine ef (ocut ShopR.pc tv40 rfl rfl rfl rfl rfl rfl (by omega) rfl fun u12=>?_);refine gx tv40 9 ?_;refine sw_val (t:=4) (i:=0) rfl rfl ?_;refine gx tv40 1 ?_;refine ro1 (j:=0) rfl rfl rfl ?_
    rfl
  refine gx tv40 8 ?_;refine sw_own (t:=4) (k:=3) (e:=64) 0 ShopR.pc rfl rfl ?_;refine sw_val (t:=4) (i:=0) rfl rfl ?_;refine gx tv40 1 ?_;refine ro1 (j:=0) rfl rfl rfl ?_
  rfl
theorem Og_ (ls:List (List ShopR)) (hl:ls.flatten.length<=100000000:=by first|omega|(simp;done)|(simp;omega)|(simp only[List.flatten_cons,List.flatten_nil,List.length_append,List.append_nil];simp;omega)):Fn Tryz.prog gb 219 [.sl (slc ShopR.pc) ls] (.sl ShopR.pc ls.flatten):=by
  refine fC Tryz.func219 tv40 Tryz.ntmps219 fun w N H hG=>?_;have ls_l:ls.length<=140737488355328:=w.1.1;refine gx tv40 19 ?_;refine loop (ι:=Nat×Int) [0,2,9,10] [] (fun ⟨k,n⟩=>[(3, .int .i64 n),(11, .int .i64 (k:Int))]) (fun ⟨k,n⟩=>[]) (fun ⟨k,n⟩=>k<=ls.length/\n=((ls.take k).flatten.length:Int)) (fun ⟨k,n⟩=>ls.length-k) ⟨0,0⟩ ⟨rfl,rfl,trivial⟩ trivial ?_ ?_
  · exact⟨Nat.zero_le _,by simp⟩
  rintro⟨k,n⟩ hp1;obtain⟨hk1,hk2⟩:=hp1;have hg0:=Bt_ ls k;refine gx tv40 6 ?_;refine cn rfl (fun p3=>?_) fun p10=>?_
  · obtain⟨c4,hc5⟩:=getE (xs:=ls) (m:=k) (by omega);refine gx tv40 6 ?_;refine q1 (qidx tv40 k rfl rfl rfl hc5 rfl rfl rfl rfl) rfl fun w6=>?_;refine go tv40 19 rfl rfl ⟨(by have hg:=Bt_ ls (k+1);have hfl:=congrArg List.length (Ah_ (by assumption :ls[k]? = some _));simp only[List.length_append] at hfl;omega),trivial⟩ ?_;refine cnd rfl (fun h7=>?_) (fun h7=>?_)
    · have p8:=dt h7
      exfalso;omega
    have p9:=df h7;refine go tv40 7 rfl rfl ⟨(by have hg:=Bt_ ls (k+1);have hfl:=congrArg List.length (Ah_ (by assumption :ls[k]? = some _));simp only[List.length_append] at hfl;omega),trivial⟩ ?_;refine next ⟨(k+1),(n+(c4.length:Int))⟩ rfl rfl ⟨rfl,rfl,trivial⟩ trivial ?_ ?_
    · (try simp only[]);omega
    have hf:=Ah_ hc5;have hg:=Bt_ ls (k+1);have hfl:=congrArg List.length hf
    simp only[List.length_append] at hfl
    exact⟨by omega,by (try simp only[]);omega⟩
  refine gx tv40 8 ?_;refine ef (ecallo 0 (Zd_ _) rfl rfl fun u12 w11=>?_);refine gx tv40 12 ?_;refine sw_osl (t:=6) 0 rfl rfl ?_;refine loop (ι:=Nat×(List ShopR)×Value) [0,2,3,9,10,11,12,23,24,25,26] [] (fun ⟨k,out,u_out⟩=>[(6, .osl 0),(27, .int .i64 (k:Int))]) (fun ⟨k,out,u_out⟩=>[(0, .arr u_out 3 64 ShopR.pc out)]) (fun ⟨k,out,u_out⟩=>k<=ls.length/\out=(ls.take k).flatten) (fun ⟨k,out,u_out⟩=>ls.length-k) ⟨0,([]:List ShopR),(u12)⟩ ⟨rfl,rfl,trivial⟩ ⟨rfl,trivial⟩ ?_ ?_
  · exact⟨Nat.zero_le _,by simp⟩
  rintro⟨k,out,u_out⟩ hp13;obtain⟨hk1,hk2⟩:=hp13;refine gx tv40 6 ?_;refine cn rfl (fun p15=>?_) fun p20=>?_
  · obtain⟨c16,hc17⟩:=getE (xs:=ls) (m:=k) (by omega);refine gx tv40 6 ?_;refine q1 (qidx tv40 k rfl rfl rfl hc17 rfl rfl rfl rfl) rfl fun w18=>?_;refine gx tv40 7 ?_;refine ef (app tv40 c16 rfl rfl rfl rfl rfl rfl rfl rfl rfl (src_l rfl (fun _=>rfl)) (by have hg:=Bt_ ls (k+1);have hfl:=congrArg List.length (Ah_ (by assumption :ls[k]? = some _));simp only[List.length_append] at hfl;subst hk2;(try simp only[]);omega) rfl fun u19=>?_);refine go tv40 8 rfl rfl ⟨(by have hg:=Bt_ ls (k+1);have hfl:=congrArg List.length (Ah_ (by assumption :ls[k]? = some _));simp only[List.length_append] at hfl;omega),trivial⟩ ?_;refine next ⟨(k+1),(out++c16),(u19)⟩ rfl rfl ⟨rfl,rfl,trivial⟩ ⟨rfl,trivial⟩ ?_ ?_
    · (try simp only[]);omega
    exact⟨by omega,by (try simp only[]);rw[Ah_ hc17,hk2]⟩
  refine gx tv40 11 ?_;refine givec 0 rfl ?_;refine gx tv40 1 ?_;refine rt1 rfl rfl (ple ?_)
  rw[hk2,Jc_ (by omega)]
theorem Y9_ (n:Int) (hn:0<=n/\n<=100000000:=by omega):Fo Tryz.prog gb 274 [.val (.slice none 0 0), .int .i64 n] (fun u=> .val u) 6 69 BindR.pc ([]:List BindR):=by
  refine Rj_ tv40 Tryz.func274 rfl Tryz.ntmps274 rfl cb274 (fun _=>rfl) rfl fun w N H hG=>?_;refine gx tv40 12 ?_;refine cnd rfl (fun h1=>?_) (fun h1=>?_)
  · have p2:=dt h1
    exfalso;omega
  have p3:=df h1;refine gx tv40 7 ?_;refine q1 (qcap0 tv40 rfl rfl rfl) rfl fun w4=>?_;refine gx tv40 1 ?_;refine q1 (qlen0 tv40 rfl rfl rfl) rfl fun w5=>?_;refine gy tv40 11 ?_;refine cn rfl (fun p7=>?_) fun p13=>?_
  · refine gx tv40 3 ?_;refine q1 (qcap0 tv40 rfl rfl rfl) rfl fun w8=>?_;refine q1 (qcut0 tv40 rfl rfl rfl rfl rfl (by omega)) rfl fun w9=>?_;refine gx tv40 1 ?_;refine ef (appz (m:=((n-(0-0))).toNat) 0 tv40 rfl rfl rfl rfl rfl rfl rfl rfl rfl rfl (by omega) (by omega) (by (try simp only[]);omega) rfl rfl fun u10=>?_);refine gx tv40 1 ?_;refine q1 (qlen0 tv40 rfl rfl rfl) rfl fun w11=>?_;refine ef (ocut BindR.pc tv40 rfl rfl rfl rfl rfl rfl (by omega) rfl fun u12=>?_);refine gx tv40 9 ?_;refine sw_val (t:=4) (i:=0) rfl rfl ?_;refine gx tv40 1 ?_;refine ro1 (j:=0) rfl rfl rfl ?_
    rfl
  refine gx tv40 8 ?_;refine sw_own (t:=4) (k:=6) (e:=69) 0 BindR.pc rfl rfl ?_;refine sw_val (t:=4) (i:=0) rfl rfl ?_;refine gx tv40 1 ?_;refine ro1 (j:=0) rfl rfl rfl ?_
  rfl
theorem Oe_ (ls:List (List BindR)) (hl:ls.flatten.length<=100000000:=by first|omega|(simp;done)|(simp;omega)|(simp only[List.flatten_cons,List.flatten_nil,List.length_append,List.append_nil];simp;omega)):Fn Tryz.prog gb 224 [.sl (slc BindR.pc) ls] (.sl BindR.pc ls.flatten):=by
  refine fC Tryz.func224 tv40 Tryz.ntmps224 fun w N H hG=>?_;have ls_l:ls.length<=140737488355328:=w.1.1;refine gx tv40 19 ?_;refine loop (ι:=Nat×Int) [0,2,9,10] [] (fun ⟨k,n⟩=>[(3, .int .i64 n),(11, .int .i64 (k:Int))]) (fun ⟨k,n⟩=>[]) (fun ⟨k,n⟩=>k<=ls.length/\n=((ls.take k).flatten.length:Int)) (fun ⟨k,n⟩=>ls.length-k) ⟨0,0⟩ ⟨rfl,rfl,trivial⟩ trivial ?_ ?_
  · exact⟨Nat.zero_le _,by simp⟩
  rintro⟨k,n⟩ hp1;obtain⟨hk1,hk2⟩:=hp1;have hg0:=Bt_ ls k;refine gx tv40 6 ?_;refine cn rfl (fun p3=>?_) fun p10=>?_
  · obtain⟨c4,hc5⟩:=getE (xs:=ls) (m:=k) (by omega);refine gx tv40 6 ?_;refine q1 (qidx tv40 k rfl rfl rfl hc5 rfl rfl rfl rfl) rfl fun w6=>?_;refine go tv40 19 rfl rfl ⟨(by have hg:=Bt_ ls (k+1);have hfl:=congrArg List.length (Ah_ (by assumption :ls[k]? = some _));simp only[List.length_append] at hfl;omega),trivial⟩ ?_;refine cnd rfl (fun h7=>?_) (fun h7=>?_)
    · have p8:=dt h7
      exfalso;omega
    have p9:=df h7;refine go tv40 7 rfl rfl ⟨(by have hg:=Bt_ ls (k+1);have hfl:=congrArg List.length (Ah_ (by assumption :ls[k]? = some _));simp only[List.length_append] at hfl;omega),trivial⟩ ?_;refine next ⟨(k+1),(n+(c4.length:Int))⟩ rfl rfl ⟨rfl,rfl,trivial⟩ trivial ?_ ?_
    · (try simp only[]);omega
    have hf:=Ah_ hc5;have hg:=Bt_ ls (k+1);have hfl:=congrArg List.length hf
    simp only[List.length_append] at hfl
    exact⟨by omega,by (try simp only[]);omega⟩
  refine gx tv40 8 ?_;refine ef (ecallo 0 (Y9_ _) rfl rfl fun u12 w11=>?_);refine gx tv40 12 ?_;refine sw_osl (t:=6) 0 rfl rfl ?_;refine loop (ι:=Nat×(List BindR)×Value) [0,2,3,9,10,11,12,23,24,25,26] [] (fun ⟨k,out,u_out⟩=>[(6, .osl 0),(27, .int .i64 (k:Int))]) (fun ⟨k,out,u_out⟩=>[(0, .arr u_out 6 69 BindR.pc out)]) (fun ⟨k,out,u_out⟩=>k<=ls.length/\out=(ls.take k).flatten) (fun ⟨k,out,u_out⟩=>ls.length-k) ⟨0,([]:List BindR),(u12)⟩ ⟨rfl,rfl,trivial⟩ ⟨rfl,trivial⟩ ?_ ?_
  · exact⟨Nat.zero_le _,by simp⟩
  rintro⟨k,out,u_out⟩ hp13;obtain⟨hk1,hk2⟩:=hp13;refine gx tv40 6 ?_;refine cn rfl (fun p15=>?_) fun p20=>?_
  · obtain⟨c16,hc17⟩:=getE (xs:=ls) (m:=k) (by omega);refine gx tv40 6 ?_;refine q1 (qidx tv40 k rfl rfl rfl hc17 rfl rfl rfl rfl) rfl fun w18=>?_;refine gx tv40 7 ?_;refine ef (app tv40 c16 rfl rfl rfl rfl rfl rfl rfl rfl rfl (src_l rfl (fun _=>rfl)) (by have hg:=Bt_ ls (k+1);have hfl:=congrArg List.length (Ah_ (by assumption :ls[k]? = some _));simp only[List.length_append] at hfl;subst hk2;(try simp only[]);omega) rfl fun u19=>?_);refine go tv40 8 rfl rfl ⟨(by have hg:=Bt_ ls (k+1);have hfl:=congrArg List.length (Ah_ (by assumption :ls[k]? = some _));simp only[List.length_append] at hfl;omega),trivial⟩ ?_;refine next ⟨(k+1),(out++c16),(u19)⟩ rfl rfl ⟨rfl,rfl,trivial⟩ ⟨rfl,trivial⟩ ?_ ?_
    · (try simp only[]);omega
    exact⟨by omega,by (try simp only[]);rw[Ah_ hc17,hk2]⟩
  refine gx tv40 11 ?_;refine givec 0 rfl ?_;refine gx tv40 1 ?_;refine rt1 rfl rfl (ple ?_)
  rw[hk2,Jc_ (by omega)]
theorem cb257:O_ Tryz.prog 257:=K_ Tryz.func257 (by kernel_rfl) (by kernel_rfl)
def tbv45:Tb:=[(9,ty9),(40,ty40),(41,ty41),(43,ty43),(64,ty64),(69,ty69),(106,Mw_),(374,ty374)]
theorem tv45:tbB Tryz.prog tbv45=true:=by kernel_rfl
theorem Nq_ (l:List Bs) (s:Bs) (hl:l.length<=100000:=by first|omega|(simp;omega)|decide +kernel):Fl Tryz.prog gb 257 [.str s] (fun u=> .val u) 1 9 strc l (Fc_ l s):=by
  refine fl_cw tv45 Tryz.func257 rfl Tryz.ntmps257 rfl cb257 (fun _=>rfl) rfl fun w l_l u0 N H hG=>?_;have e0:=Fc_.eq_1 l s;refine gx tv45 10 ?_;refine ef (calll 0 rfl (Sy_ _ _) rfl rfl rfl fun w1=>?_);refine gx tv45 2 ?_;refine cD e0 (fun p3 e4=>?_) (fun p5 e6=>?_)
  · refine gx tv45 6 ?_;refine sw_val (t:=4) (i:=0) rfl rfl ?_;refine gx tv45 2 ?_;refine ro1 (j:=0) rfl rfl rfl ?_;exact (congrArg (fun r:(List Bs)=>r) e4).symm
  refine gx tv45 6 ?_;refine ef (bsl 1 strc [s] tv45 rfl rfl rfl rfl rfl (fun _=>rfl) rfl (by decide) (by decide) rfl fun u7=>?_);refine ef (app tv45 [s] rfl rfl rfl rfl rfl rfl rfl rfl rfl (src_o rfl rfl) (by first|omega|(simp;omega)) rfl fun u8=>?_);refine gx tv45 3 ?_;refine sw_val (t:=4) (i:=0) rfl rfl ?_;refine gx tv45 1 ?_;refine ro1 (j:=0) rfl rfl rfl ?_;exact (congrArg (fun r:(List Bs)=>r) e6).symm
theorem I4_ (b:BookR) (x:ShopR) (hs:b.shops.length<=1000:=by first|omega|(simp;omega)|decide +kernel):Fn Tryz.prog gb 131 [.agg (BookR.pc b), .agg (ShopR.pc x)] (.tup [.agg (BookR.pc ((Bh_ b x).1)), .int .i64 ((Bh_ b x).2)]):=by
  refine fC Tryz.func131 tv45 Tryz.ntmps131 fun w N H hG=>?_;have e0:=Bh_.eq_1 b x;generalize Bh_ b x=z at e0 ⊢;refine gm tv45 12 [0,1,2] fun B2=>?_;refine call (X2_ _) rfl rfl fun w5=>?_;have :=shopE_r x;refine gx tv45 9 ?_;refine cN e0 (fun p8 e9=>?_) (fun p12 e13=>?_)
  · refine gm tv45 10 [] fun _=>?_;subst e9;exact qr2
  refine gx tv45 7 ?_;refine call (L3_ _ _) rfl rfl fun w14=>?_;refine gm tv45 16 [3] fun B16=>?_;refine q1g [25,26] rfl (fun hc=>saeq rfl rfl eqg64 (veq64 x ((Et_ b.shops x.name).getD ShopR.zero))) ⟨(fun hc=>hc),(fun hc=>hc),trivial⟩ rfl rfl rfl fun _=>?_;refine gy tv45 4 ?_;refine cE e13 (fun h17 e21=>?_) (fun h17 e23=>?_)
  · have h18:=bl h17;have h19:=br h17;have p20:=dt h19;refine gm tv45 10 [] fun _=>?_;subst e21;exact qr2
  refine gx tv45 6 ?_;refine cE e23 (fun h24 e25=>?_) (fun h24 e27=>?_)
  · refine gm tv45 10 [] fun _=>?_;subst e25;exact qr2
  refine gx tv45 9 ?_;refine cD e27 (fun p29 e30=>?_) (fun p32 e33=>?_)
  · refine gm tv45 10 [] fun _=>?_;subst e30;exact qr2
  refine gx tv45 8 ?_;refine ef (bsl 4 ShopR.pc [x] tv45 rfl rfl rfl rfl rfl (fun _=>rfl) rfl (by decide) (by decide) rfl fun u34=>?_);refine give 4 rfl ?_;refine ef (bsl 4 (slc ShopR.pc) [b.shops,[x]] tv45 rfl rfl rfl rfl rfl (fun _=>rfl) rfl (by decide) (by decide) rfl fun u35=>?_);refine give 4 rfl ?_;refine call (Og_ _) rfl rfl fun w36=>?_;have hfl36:([b.shops,[x]].flatten).length=b.shops.length+1:=by simp only[List.flatten_cons,List.flatten_nil,List.length_append,List.length_nil,List.length_cons,Nat.add_zero,Nat.zero_add]
  refine gm tv45 12 [] fun _=>?_;subst e33;exact qr2
theorem In_ (b:BookR) (x:BindR):Fn Tryz.prog gb 223 [.agg (BookR.pc b), .agg (BindR.pc x)] (.int .i64 (B9_ b x)):=by
  refine fC Tryz.func223 tv45 Tryz.ntmps223 fun w N H hG=>?_;have e0:=B9_.eq_1 b x;refine gm tv45 13 [0,1] fun B2=>?_;refine call (Zg_ _ _ _ _ (fun z_4:BindR=>decide (x=z_4)) (fun z_4=>Yk_ x z_4)) rfl rfl fun w5=>?_;have hix5:=Gm_ (fun z_4:BindR=>decide (x=z_4)) b.binds;refine gx tv45 4 ?_;exact rt1 rfl rfl (Q_ (fun r:Int=> .int .i64 r) e0 (ple rfl))
end Go.SW.V
