/-
  A part of the proof of ScriptTells: Closed runs at this seat: package variables that are read, functions without a body, calls whose outcome is
-/
import Derived.Test.YtlemlalknchmcaaGreatDoorProg
import Derived.Test.YtlemlalknchmcaaGreatDoorScriptTellsP2
import Derived.Test.YtlemlalknchmcaaGreatDoorScriptTellsP3
import Derived.Test.YtlemlalknchmcaaGreatDoorScriptTellsP4
import Derived.KernelRfl
set_option linter.unusedVariables false
set_option linter.unusedSimpArgs false
set_option maxRecDepth 100000
set_option maxHeartbeats 4000000
open Go.Proofs.Tryz
namespace Go.CE
open Go.SW Go.Proofs
def gT:Gt:=[(7,laidT.map (CV.int .u32)),(3,tellsT.map cS),(1,Go.Lib.pow10Tab.map (CV.int .u64))]
theorem ghE{H:Hp}(h:V.gb.p H):GH gT H:=Ib_ (Qr_ (V.gbCrc h)) (Ib_ (gc_str (V.gbTells h)) (Ib_ (Qr_ (V.gbPow h)) (gh_nil)))
theorem mixE:prog.follows .mixedOrders=true:=by kernel_rfl
theorem cbE:CbO prog:=cb_ok xO
def xT:Xt:=[(143, .noesc),(144, .mknz 5),(188, .count),(372, .ixb)]
theorem xE:XOk prog xT:=Eg_ (x_noesc func143 xO xO xO xO) (Eg_ (x_mknz func144 xO xO xO (ps:=#[3]) (t:=116) (e:=5) underlying116 xO) (Eg_ (x_count func188 xO xO xO xO) (Eg_ (x_ixb func372 xO xO xO xO) (xok_nil))))
def cT:Ct:=[(360, .rep),(221, .pure crcS),(158, .pure numS)]
theorem cE0:COk prog gT cT:=G_ (⟨(cbE _ _ func360 xO),λs c N H L w h hc hm=>I1_ s c N H L w h hc hm⟩) (G_ (Or_ (t:=7) Y (cbE _ _ func221 xO) (λH hT r hr b hb=>Oq_ H r hr b hb hT)) (G_ (Pd_ (cbE _ _ func158 xO) (λH o n hn b hb hl=>out_Num H o n hn b hb hl)) (cok_nil)))
def I(n:Nat):CV:= .int .i64 (.ofNat n)
def B(n:Nat):CV:= .int .u8 (.ofNat n)
def U(n:Nat):CV:= .int .u64 (.ofNat n)
def W(n:Nat):CV:= .int .u32 (.ofNat n)
theorem a01:CSp prog gT 476 .yes:=Q_ (X:=xT) (C:=cT) (fu:=1000000) mixE cE0 cbE xE xO
def cT01:Ct:=(476, .yes)::cT
theorem cE01:COk prog gT cT01:=G_ a01 cE0
theorem a02:CSp prog gT 561 .yes:=Q_ (X:=xT) (C:=cT01) (fu:=1000000) mixE cE01 cbE xE xO
def cT02:Ct:=(561, .yes)::cT01
theorem cE02:COk prog gT cT02:=G_ a02 cE01
theorem a04:CSp prog gT 315 .yes:=Q_ (X:=xT) (C:=cT02) (fu:=1000000) mixE cE02 cbE xE xO
def cT04:Ct:=(315, .yes)::cT02
theorem cE04:COk prog gT cT04:=G_ a04 cE02
theorem a03:CSp prog gT 314 .yes:=Q_ (X:=xT) (C:=cT04) (fu:=1000000) mixE cE04 cbE xE xO
def cT03:Ct:=(314, .yes)::cT04
theorem cE03:COk prog gT cT03:=G_ a03 cE04
theorem a05:CSp prog gT 163 .yes:=Q_ (X:=xT) (C:=cT03) (fu:=1000000) mixE cE03 cbE xE xO
def cT05:Ct:=(163, .yes)::cT03
theorem cE05:COk prog gT cT05:=G_ a05 cE03
end Go.CE
