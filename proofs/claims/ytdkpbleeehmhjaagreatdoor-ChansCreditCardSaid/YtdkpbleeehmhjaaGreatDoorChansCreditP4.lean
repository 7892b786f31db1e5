/-
  A part of the proof of ChansCredit: The walks of this seat, printed by program: deed.Deed.told, deed.first, deed.Deed.Check. The walks of this seat, printed by program: deed.Deed.Bytes. The walks of this seat, printed by program: stairwellref04.Name, stairwellref04.Split, stairwellref04.Key. The walks of this seat, printed by program: stairwellref09.Pair, stairwellref09.Check, stairwellref09.Same. The walks of this seat, printed by program: stairwelllaw09.Light, stairwelllaw13.Light, stairwelllaw22.Light, stairwelllaw14.To, stairwelllaw22.To. The walks of this seat, printed by program: stairwellref13.Same, stairwellref14.SameBind, stairwellref22.Same, stairwellref22.names, stairwellref22.maybe, stairwellref22.spare, stairwellref22.checkBind, stairwellref13.Check, stairwellref22.Check. The walks of this seat, printed by program: match.Rule.Check, match.Rule.heads, match.Rule.Goes, match.Same. The walks of this seat, printed by program: slices.Equal[[]string,string], slices.Index[[]string,string], slices.Contains[[]string,string], route.Shop.check, route.Book.Shop. The walks of this seat, printed by program: route.Bind.rule, route.Bind.same, api.Pair], route.Bind.clone, route.Bind]. The walks of this seat, printed by program: stairwelllaw01.awake, stairwelllaw01.Awake, stairwelllaw04.awake, stairwelllaw04.Awake, stairwelllaw09.awake, stairwelllaw09.Awake, stairwelllaw10.awake, stairwelllaw10.Awake, stairwelllaw13.awake, stairwelllaw13.Awake. The walks of this seat, printed by program: deed.Deed], deed.Deed], deed.Deed], deed.Deed], chans.Taker], chans.Taker], chans.Taker], chans.Taker], chans.Lent], chans.Lent], chans.Lent], chans.Lent], route.Shop], route.Shop], route.Bind], route.Bind]. The walks of this seat, printed by program: draft.Draft.Settles$1, draft.Draft.Settles, draft.clone, draft.Draft.check, draft.Draft.Len, stairwellref26.Settles, chans.New, chans.Chan.Credit, chans.Chan.Room, chans.Chan.of$1, chans.Chan.of, chans.Chan.Sure, chans.Chan.Put, chans.Chan.Number, chans.Chan.Draft, chans.Chan.Drafts, chans.Chan.Undo, stairwellref27.New, stairwellref27.Credit, stairwellref27.Room, stairwellref27.Sure, stairwellref27.Put, stairwellref27.Draft, stairwellref27.Undo, stairwellref27.SameTakers, stairwellref27.SameLent. The walks of this seat, printed by program: route.put, route.Book.Make, route.Book.there. The walks of this seat, printed by program: route.Book.Bind, route.Book.Leads. The walks of this seat, printed by program: draft.Draft.Add, draft.Draft.At, stairwellref26.Add, stairwellref26.At, stairwelllaw22.All, stairwelllaw23.Light, stairwellref22.SameAll, chans.Chan.Take, chans.Chan.Leave, chans.Chan.Takers, chans.Chan.Lend, chans.Chan.Unsettled, chans.Chan.Settles, chans.Chan.Gone, stairwellref27.Take, stairwellref27.Leave, stairwellref27.Lend, stairwellref27.Open. The walks of this seat, printed by program: chans.Chan.Hold, chans.Chan.Held, stairwellref27.Settles, stairwellref27.Gone, stairwellref27.Hold, stairwellref27.Held. The walks of this seat, printed by program:
-/
import Derived.Test.YtdkpbleeehmhjaaGreatDoorProg
import Derived.Test.YtdkpbleeehmhjaaGreatDoorChansCreditP3
import Derived.KernelRfl
import Derived.Test.YtdkpbleeehmhjaaGreatDoorChansCreditP1
import Derived.ProofKit
import Derived.OpenShut
import Derived.Deep.Slices
import Derived.Carry
import Derived.Lib.LaidTab
import Derived.SizedLaws
set_option linter.unusedVariables false
set_option linter.unusedSimpArgs false
set_option linter.unusedVariables false
set_option maxRecDepth 100000
set_option maxHeartbeats 4000000
namespace Go.SW.V
open Go.SW Go.Proofs
theorem cb104 : Callable Tryz.prog 104 := callable_of Tryz.func104 (by kernel_rfl) (by kernel_rfl)
theorem cb105 : Callable Tryz.prog 105 := callable_of Tryz.func105 (by kernel_rfl) (by kernel_rfl)
theorem cb82 : Callable Tryz.prog 82 := callable_of Tryz.func82 (by kernel_rfl) (by kernel_rfl)
def tbv15 : Tb := [(5, ⟨.int .u8, 1, 1, [.int .u8 0]⟩),
  (9, ⟨.str, 1, 16, [.str []]⟩),
  (22, ⟨.int .u64, 1, 8, [.int .u64 0]⟩),
  (31, ⟨.int .i64, 1, 8, [.int .i64 0]⟩),
  (44, ⟨.agg [(0, 1), (1, 1), (2, 1)], 3, 40, [.str [], .int .u8 0, .str []]⟩),
  (46, ⟨.agg [(0, 1), (1, 1), (2, 1), (3, 1)], 4, 48, [.str [], .int .u64 0, .int .u64 0, .str []]⟩),
  (47, ⟨.slc 139, 1, 24, [.sl Pair.pc []]⟩),
  (49, ⟨.agg [(0, 1), (1, 1), (2, 1), (3, 1), (4, 1), (5, 1)], 6, 88, [.str [], .str [], .bool false, .str [], .sl Pair.pc [], .bool false]⟩),
  (51, ⟨.agg [(0, 1), (1, 1), (2, 1), (3, 1), (4, 1), (5, 1), (6, 1)], 7, 96, [.int .u64 0, .str [], .str [], .sl Pair.pc [], .str [], .int .u64 0, .int .u8 0]⟩),
  (53, ⟨.agg [(0, 1), (1, 1), (2, 3), (5, 4), (9, 6), (15, 1), (16, 1), (17, 1), (18, 1), (19, 1), (20, 1), (21, 7), (28, 1)], 29, 344, [.int .u8 0, .int .u64 0, .str [], .int .u8 0, .str [], .str [], .int .u64 0, .int .u64 0, .str [], .str [], .str [], .bool false, .str [], .sl Pair.pc [], .bool false, .str [], .int .u64 0, .int .u8 0, .int .u8 0, .int .u8 0, .int .u64 0, .int .u64 0, .str [], .str [], .sl Pair.pc [], .str [], .int .u64 0, .int .u8 0, .str []]⟩),
  (178, ⟨.slc 31, 1, 24, [.sl i64c []]⟩)]
theorem tbv15ok : tbB Tryz.prog tbv15 = true := by kernel_rfl
theorem deed_told (d : DeedR) : Fn Tryz.prog gb 104 [.agg (DeedR.pc d)] (.agg (DeedR.pc (toldD d))) := by
  refine fn_cw tbv15ok Tryz.func104 rfl Tryz.ntmps104 rfl cb104 rfl rfl fun w N H hG => ?_
  have d_bind_want_l : d.bind.want.length ≤ 140737488355328 := w.1.2.2.2.2.2.2.2.2.2.2.2.2.2.1.1
  have d_mail_head_l : d.mail.head.length ≤ 140737488355328 := w.1.2.2.2.2.2.2.2.2.2.2.2.2.2.2.2.2.2.2.2.2.2.2.2.2.1.1
  refine go tbv15ok 2 rfl rfl trivial ?_
  refine ef (boxA 0 rfl rfl rfl fun b1 => ?_)
  refine ef (alloc tbv15ok 1 rfl rfl rfl rfl fun b2 => ?_)
  refine go tbv15ok 9 rfl rfl trivial ?_
  refine ef (alloc tbv15ok 2 rfl rfl rfl rfl fun b3 => ?_)
  refine ef (storeA tbv15ok rfl rfl rfl rfl rfl rfl rfl rfl rfl rfl ?_)
  refine go tbv15ok 16 rfl rfl trivial ?_
  refine cnd rfl (fun h4 => ?_) (fun h4 => ?_)
  · have p5 := dt h4
    refine go tbv15ok 4 rfl rfl trivial ?_
    refine ef (storeA tbv15ok rfl rfl rfl rfl rfl rfl rfl rfl rfl rfl ?_)
    refine go tbv15ok 6 rfl rfl trivial ?_
    refine ef (storeA tbv15ok rfl rfl rfl rfl rfl rfl rfl rfl rfl rfl ?_)
    refine go tbv15ok 3 rfl rfl trivial ?_
    refine rt1 rfl rfl ?_
    refine ple ?_
    have e : toldD d = (⟨d.kind, d.tick, d.shop, (⟨[], 0, 0, []⟩ : QueueR), (⟨[], [], false, [], [], false⟩ : BindR), [], 0, 0, 0, 0, 0, (⟨0, [], [], [], [], 0, 0⟩ : Mail), []⟩ : DeedR) := by
      unfold toldD
      repeat (first | rw [if_pos (by omega)] | rw [if_neg (by omega)])
      rfl
    rw [e]; rfl
  · have p6 := df h4
    refine go tbv15ok 6 rfl rfl trivial ?_
    refine cnd rfl (fun h7 => ?_) (fun h7 => ?_)
    · have p8 := dt h7
      refine go tbv15ok 4 rfl rfl trivial ?_
      refine ef (storeA tbv15ok rfl rfl rfl rfl rfl rfl rfl rfl rfl rfl ?_)
      refine go tbv15ok 6 rfl rfl trivial ?_
      refine ef (storeA tbv15ok rfl rfl rfl rfl rfl rfl rfl rfl rfl rfl ?_)
      refine go tbv15ok 3 rfl rfl trivial ?_
      refine rt1 rfl rfl ?_
      refine ple ?_
      have e : toldD d = (⟨d.kind, d.tick, (⟨[], 0, []⟩ : ShopR), d.queue, (⟨[], [], false, [], [], false⟩ : BindR), [], 0, 0, 0, 0, 0, (⟨0, [], [], [], [], 0, 0⟩ : Mail), []⟩ : DeedR) := by
        unfold toldD
        repeat (first | rw [if_pos (by omega)] | rw [if_neg (by omega)])
        rfl
      rw [e]; rfl
    · have p9 := df h7
      refine go tbv15ok 7 rfl rfl trivial ?_
      refine cnd rfl (fun h10 => ?_) (fun h10 => ?_)
      · have p11 := dt h10
        refine go tbv15ok 2 rfl rfl trivial ?_
        refine cndT rfl h10 ?_
        refine go tbv15ok 4 rfl rfl trivial ?_
        refine ef (storeA tbv15ok rfl rfl rfl rfl rfl rfl rfl rfl rfl rfl ?_)
        refine go tbv15ok 6 rfl rfl trivial ?_
        refine ef (storeA tbv15ok rfl rfl rfl rfl rfl rfl rfl rfl rfl rfl ?_)
        refine go tbv15ok 3 rfl rfl trivial ?_
        refine rt1 rfl rfl ?_
        refine ple ?_
        have e : toldD d = (⟨d.kind, d.tick, (⟨[], 0, []⟩ : ShopR), (⟨[], 0, 0, []⟩ : QueueR), d.bind, [], 0, 0, 0, 0, 0, (⟨0, [], [], [], [], 0, 0⟩ : Mail), []⟩ : DeedR) := by
          unfold toldD
          repeat (first | rw [if_pos (by omega)] | rw [if_neg (by omega)])
          rfl
        rw [e]; rfl
      · have p12 := df h10
        refine go tbv15ok 5 rfl rfl trivial ?_
        refine cnd rfl (fun h13 => ?_) (fun h13 => ?_)
        · have p14 := dt h13
          refine go tbv15ok 4 rfl rfl trivial ?_
          refine ef (storeA tbv15ok rfl rfl rfl rfl rfl rfl rfl rfl rfl rfl ?_)
          refine go tbv15ok 6 rfl rfl trivial ?_
          refine ef (storeA tbv15ok rfl rfl rfl rfl rfl rfl rfl rfl rfl rfl ?_)
          refine go tbv15ok 3 rfl rfl trivial ?_
          refine rt1 rfl rfl ?_
          refine ple ?_
          have e : toldD d = (⟨d.kind, d.tick, (⟨[], 0, []⟩ : ShopR), (⟨[], 0, 0, []⟩ : QueueR), d.bind, [], 0, 0, 0, 0, 0, (⟨0, [], [], [], [], 0, 0⟩ : Mail), []⟩ : DeedR) := by
            unfold toldD
            repeat (first | rw [if_pos (by omega)] | rw [if_neg (by omega)])
            rfl
          rw [e]; rfl
        · have p15 := df h13
          refine go tbv15ok 6 rfl rfl trivial ?_
          refine cnd rfl (fun h16 => ?_) (fun h16 => ?_)
          · have p17 := dt h16
            refine go tbv15ok 4 rfl rfl trivial ?_
            refine ef (storeA tbv15ok rfl rfl rfl rfl rfl rfl rfl rfl rfl rfl ?_)
            refine go tbv15ok 6 rfl rfl trivial ?_
            refine ef (storeA tbv15ok rfl rfl rfl rfl rfl rfl rfl rfl rfl rfl ?_)
            refine go tbv15ok 3 rfl rfl trivial ?_
            refine rt1 rfl rfl ?_
            refine ple ?_
            have e : toldD d = (⟨d.kind, d.tick, (⟨[], 0, []⟩ : ShopR), (⟨[], 0, 0, []⟩ : QueueR), (⟨[], [], false, [], [], false⟩ : BindR), [], 0, 0, 0, 0, 0, d.mail, []⟩ : DeedR) := by
              unfold toldD
              repeat (first | rw [if_pos (by omega)] | rw [if_neg (by omega)])
              rfl
            rw [e]; rfl
          · have p18 := df h16
            refine go tbv15ok 7 rfl rfl trivial ?_
            refine cnd rfl (fun h19 => ?_) (fun h19 => ?_)
            · have p20 := dt h19
              refine go tbv15ok 2 rfl rfl trivial ?_
              refine cndT rfl h19 ?_
              refine go tbv15ok 4 rfl rfl trivial ?_
              refine ef (store1 tbv15ok rfl rfl rfl rfl rfl rfl rfl rfl rfl ?_)
              refine go tbv15ok 6 rfl rfl trivial ?_
              refine ef (storeA tbv15ok rfl rfl rfl rfl rfl rfl rfl rfl rfl rfl ?_)
              refine go tbv15ok 3 rfl rfl trivial ?_
              refine rt1 rfl rfl ?_
              refine ple ?_
              have e : toldD d = (⟨d.kind, d.tick, (⟨[], 0, []⟩ : ShopR), (⟨[], 0, 0, []⟩ : QueueR), (⟨[], [], false, [], [], false⟩ : BindR), d.name, 0, 0, 0, 0, 0, (⟨0, [], [], [], [], 0, 0⟩ : Mail), []⟩ : DeedR) := by
                unfold toldD
                repeat (first | rw [if_pos (by omega)] | rw [if_neg (by omega)])
                rfl
              rw [e]; rfl
            · have p21 := df h19
              refine go tbv15ok 6 rfl rfl trivial ?_
              refine cnd rfl (fun h22 => ?_) (fun h22 => ?_)
              · have p23 := dt h22
                refine go tbv15ok 2 rfl rfl trivial ?_
                refine cndT rfl h22 ?_
                refine go tbv15ok 4 rfl rfl trivial ?_
                refine ef (store1 tbv15ok rfl rfl rfl rfl rfl rfl rfl rfl rfl ?_)
                refine go tbv15ok 6 rfl rfl trivial ?_
                refine ef (storeA tbv15ok rfl rfl rfl rfl rfl rfl rfl rfl rfl rfl ?_)
                refine go tbv15ok 3 rfl rfl trivial ?_
                refine rt1 rfl rfl ?_
                refine ple ?_
                have e : toldD d = (⟨d.kind, d.tick, (⟨[], 0, []⟩ : ShopR), (⟨[], 0, 0, []⟩ : QueueR), (⟨[], [], false, [], [], false⟩ : BindR), d.name, 0, 0, 0, 0, 0, (⟨0, [], [], [], [], 0, 0⟩ : Mail), []⟩ : DeedR) := by
                  unfold toldD
                  repeat (first | rw [if_pos (by omega)] | rw [if_neg (by omega)])
                  rfl
                rw [e]; rfl
              · have p24 := df h22
                refine go tbv15ok 5 rfl rfl trivial ?_
                refine cnd rfl (fun h25 => ?_) (fun h25 => ?_)
                · have p26 := dt h25
                  refine go tbv15ok 4 rfl rfl trivial ?_
                  refine ef (store1 tbv15ok rfl rfl rfl rfl rfl rfl rfl rfl rfl ?_)
                  refine go tbv15ok 6 rfl rfl trivial ?_
                  refine ef (storeA tbv15ok rfl rfl rfl rfl rfl rfl rfl rfl rfl rfl ?_)
                  refine go tbv15ok 3 rfl rfl trivial ?_
                  refine rt1 rfl rfl ?_
                  refine ple ?_
                  have e : toldD d = (⟨d.kind, d.tick, (⟨[], 0, []⟩ : ShopR), (⟨[], 0, 0, []⟩ : QueueR), (⟨[], [], false, [], [], false⟩ : BindR), d.name, 0, 0, 0, 0, 0, (⟨0, [], [], [], [], 0, 0⟩ : Mail), []⟩ : DeedR) := by
                    unfold toldD
                    repeat (first | rw [if_pos (by omega)] | rw [if_neg (by omega)])
                    rfl
                  rw [e]; rfl
                · have p27 := df h25
                  refine go tbv15ok 6 rfl rfl trivial ?_
                  refine cnd rfl (fun h28 => ?_) (fun h28 => ?_)
                  · have p29 := dt h28
                    refine any [2, 3, 4, 5, 6, 7, 8] 12 mixd rfl ?_
                    refine gov tbv15ok [0, 1, 2, 3, 4, 5, 6] 5 rfl (by kernel_rfl) rfl rfl trivial ?_
                    refine ve 7 rfl (by kernel_rfl) rfl (store1 tbv15ok rfl rfl rfl rfl rfl rfl rfl rfl rfl ?_)
                    refine gov tbv15ok [8] 3 rfl (by kernel_rfl) rfl rfl trivial ?_
                    refine ve 9 rfl (by kernel_rfl) rfl (store1 tbv15ok rfl rfl rfl rfl rfl rfl rfl rfl rfl ?_)
                    refine gov tbv15ok [10] 1 rfl (by kernel_rfl) rfl rfl trivial ?_
                    refine vt 11 rfl (by kernel_rfl) (by kernel_rfl) (store1 tbv15ok rfl rfl rfl rfl rfl rfl rfl rfl rfl ?_)
                    refine vdone (by kernel_rfl) ?_
                    refine go tbv15ok 5 rfl rfl trivial ?_
                    refine ef (storeA tbv15ok rfl rfl rfl rfl rfl rfl rfl rfl rfl rfl ?_)
                    refine go tbv15ok 3 rfl rfl trivial ?_
                    refine rt1 rfl rfl ?_
                    refine ple ?_
                    have e : toldD d = (⟨d.kind, d.tick, (⟨[], 0, []⟩ : ShopR), (⟨[], 0, 0, []⟩ : QueueR), (⟨[], [], false, [], [], false⟩ : BindR), d.name, d.id, d.how, 0, 0, 0, (⟨0, [], [], [], [], 0, 0⟩ : Mail), []⟩ : DeedR) := by
                      unfold toldD
                      repeat (first | rw [if_pos (by omega)] | rw [if_neg (by omega)])
                      rfl
                    rw [e]; rfl
                  · have p30 := df h28
                    refine go tbv15ok 6 rfl rfl trivial ?_
                    refine cnd rfl (fun h31 => ?_) (fun h31 => ?_)
                    · have p32 := dt h31
                      refine any [2, 3, 4, 5, 6, 7, 8] 12 mixd rfl ?_
                      refine gov tbv15ok [0, 1, 2, 3, 4, 5, 6] 5 rfl (by kernel_rfl) rfl rfl trivial ?_
                      refine ve 7 rfl (by kernel_rfl) rfl (store1 tbv15ok rfl rfl rfl rfl rfl rfl rfl rfl rfl ?_)
                      refine gov tbv15ok [8] 3 rfl (by kernel_rfl) rfl rfl trivial ?_
                      refine ve 9 rfl (by kernel_rfl) rfl (store1 tbv15ok rfl rfl rfl rfl rfl rfl rfl rfl rfl ?_)
                      refine gov tbv15ok [10] 1 rfl (by kernel_rfl) rfl rfl trivial ?_
                      refine vt 11 rfl (by kernel_rfl) (by kernel_rfl) (storeA tbv15ok rfl rfl rfl rfl rfl rfl rfl rfl rfl rfl ?_)
                      refine vdone (by kernel_rfl) ?_
                      refine go tbv15ok 5 rfl rfl trivial ?_
                      refine ef (storeA tbv15ok rfl rfl rfl rfl rfl rfl rfl rfl rfl rfl ?_)
                      refine go tbv15ok 3 rfl rfl trivial ?_
                      refine rt1 rfl rfl ?_
                      refine ple ?_
                      have e : toldD d = (⟨d.kind, d.tick, (⟨[], 0, []⟩ : ShopR), (⟨[], 0, 0, []⟩ : QueueR), (⟨[], [], false, [], [], false⟩ : BindR), [], 0, 0, d.frm, 0, d.number, d.mail, []⟩ : DeedR) := by
                        unfold toldD
                        repeat (first | rw [if_pos (by omega)] | rw [if_neg (by omega)])
                        rfl
                      rw [e]; rfl
                    · have p33 := df h31
                      refine go tbv15ok 6 rfl rfl trivial ?_
                      refine cnd rfl (fun h34 => ?_) (fun h34 => ?_)
                      · have p35 := dt h34
                        refine any [2, 3, 4, 5, 6, 7, 8] 8 mixd rfl ?_
                        refine gov tbv15ok [0, 1, 2, 3, 4] 3 rfl (by kernel_rfl) rfl rfl trivial ?_
                        refine ve 5 rfl (by kernel_rfl) rfl (store1 tbv15ok rfl rfl rfl rfl rfl rfl rfl rfl rfl ?_)
                        refine gov tbv15ok [6] 1 rfl (by kernel_rfl) rfl rfl trivial ?_
                        refine vt 7 rfl (by kernel_rfl) (by kernel_rfl) (store1 tbv15ok rfl rfl rfl rfl rfl rfl rfl rfl rfl ?_)
                        refine vdone (by kernel_rfl) ?_
                        refine go tbv15ok 5 rfl rfl trivial ?_
                        refine ef (storeA tbv15ok rfl rfl rfl rfl rfl rfl rfl rfl rfl rfl ?_)
                        refine go tbv15ok 3 rfl rfl trivial ?_
                        refine rt1 rfl rfl ?_
                        refine ple ?_
                        have e : toldD d = (⟨d.kind, d.tick, (⟨[], 0, []⟩ : ShopR), (⟨[], 0, 0, []⟩ : QueueR), (⟨[], [], false, [], [], false⟩ : BindR), [], 0, 0, 0, d.code, 0, (⟨0, [], [], [], [], 0, 0⟩ : Mail), d.text⟩ : DeedR) := by
                          unfold toldD
                          repeat (first | rw [if_pos (by omega)] | rw [if_neg (by omega)])
                          rfl
                        rw [e]; rfl
                      · have p36 := df h34
                        refine go tbv15ok 6 rfl rfl trivial ?_
                        refine ef (storeA tbv15ok rfl rfl rfl rfl rfl rfl rfl rfl rfl rfl ?_)
                        refine go tbv15ok 3 rfl rfl trivial ?_
                        refine rt1 rfl rfl ?_
                        refine ple ?_
                        have e : toldD d = (⟨d.kind, d.tick, (⟨[], 0, []⟩ : ShopR), (⟨[], 0, 0, []⟩ : QueueR), (⟨[], [], false, [], [], false⟩ : BindR), [], 0, 0, 0, 0, 0, (⟨0, [], [], [], [], 0, 0⟩ : Mail), []⟩ : DeedR) := by
                          unfold toldD
                          repeat (first | rw [if_pos (by omega)] | rw [if_neg (by omega)])
                          rfl
                        rw [e]; rfl
theorem deed_first (l : List Int) : Fn Tryz.prog gb 105 [.sl i64c l] (.int .i64 (firstE l)) := by
  refine fn_cw tbv15ok Tryz.func105 rfl Tryz.ntmps105 rfl cb105 rfl rfl fun w N H hG => ?_
  have l_l : l.length ≤ 140737488355328 := w.1.1
  refine go tbv15ok 14 rfl rfl trivial ?_
  refine loop (ι := Nat) [0, 5, 6] [] (fun k => [(7, .int .i64 (k : Int))]) (fun k => []) (fun k => k ≤ l.length ∧ firstE l = firstE (l.drop k)) (fun k => l.length - k) 0 ⟨rfl, trivial⟩ trivial ?_ ?_
  · exact ⟨Nat.zero_le _, rfl⟩
  · rintro k hp1
    obtain ⟨hk1, hk2⟩ := hp1
    refine go tbv15ok 6 rfl rfl trivial ?_
    refine cnd rfl (fun h2 => ?_) (fun h2 => ?_)
    · have p3 := dt h2
      obtain ⟨c4, hc5⟩ := getE (xs := l) (m := k) (by omega)
      refine go tbv15ok 6 rfl rfl trivial ?_
      refine q1 (qidx tbv15ok k rfl rfl rfl hc5 rfl rfl rfl rfl) rfl fun w6 => ?_
      refine go tbv15ok 10 rfl rfl trivial ?_
      refine cnd rfl (fun h7 => ?_) (fun h7 => ?_)
      · have h8 := not_t h7
        have p9 := df h8
        refine go tbv15ok 12 rfl rfl trivial ?_
        refine rt1 rfl rfl ?_
        refine ple ?_
        refine congrArg (PV.int .i64) ?_
        rw [hk2, dropE hc5]
        unfold firstE
        rw [if_pos (by assumption)]
      · have h10 := not_f h7
        have p11 := dt h10
        refine go tbv15ok 7 rfl rfl ⟨(by omega), trivial⟩ ?_
        refine next (k + 1) rfl rfl ⟨rfl, trivial⟩ trivial ?_ ?_
        · omega
        · refine ⟨by omega, ?_⟩
          rw [hk2, dropE hc5]
          conv => lhs; unfold firstE
          rw [if_neg (by omega)]
    · have p12 := df h2
      refine go tbv15ok 11 rfl rfl trivial ?_
      refine rt1 rfl rfl ?_
      refine ple ?_
      refine congrArg (PV.int .i64) ?_
      rw [hk2, List.drop_of_length_le (by omega)]
      rfl
theorem deed_Check (d : DeedR) : Fn Tryz.prog gb 82 [.agg (DeedR.pc d)] (.int .i64 (deedE d)) := by
  refine fn_cw tbv15ok Tryz.func82 rfl Tryz.ntmps82 rfl cb82 rfl rfl fun w N H hG => ?_
  have d_bind_want_l : d.bind.want.length ≤ 140737488355328 := w.1.2.2.2.2.2.2.2.2.2.2.2.2.2.1.1
  have d_mail_head_l : d.mail.head.length ≤ 140737488355328 := w.1.2.2.2.2.2.2.2.2.2.2.2.2.2.2.2.2.2.2.2.2.2.2.2.2.1.1
  refine go tbv15ok 2 rfl rfl trivial ?_
  refine ef (boxA 0 rfl rfl rfl fun b1 => ?_)
  refine go tbv15ok 13 rfl rfl trivial ?_
  refine cnd rfl (fun h2 => ?_) (fun h2 => ?_)
  · have p3 := dt h2
    refine go tbv15ok 8 rfl rfl trivial ?_
    refine rt1 rfl rfl ?_
    refine ple ?_
    refine congrArg (PV.int .i64) ?_
    unfold deedE
    repeat (first | rw [if_pos (by omega)] | rw [if_neg (by omega)] | rw [if_pos (by assumption)] | rw [if_neg (not_not_intro (by assumption))])
    all_goals first | done | rfl
  · have p4 := df h2
    refine go tbv15ok 1 rfl rfl trivial ?_
    refine any [1, 2, 3, 4, 5, 6] 6 mixd rfl ?_
    refine gov tbv15ok [0, 1] 4 rfl (by kernel_rfl) rfl rfl trivial ?_
    refine ve 2 rfl (by kernel_rfl) rfl (ecall (deed_told _) rfl rfl fun w5 => ?_)
    refine vcall 3 rfl (by kernel_rfl) (deed_Same _ _) rfl rfl fun w6 => ?_
    refine gov tbv15ok [4, 5] 0 rfl (by kernel_rfl) rfl rfl trivial ?_
    refine vdone (by kernel_rfl) ?_
    refine go tbv15ok 1 rfl rfl trivial ?_
    refine cnd rfl (fun h7 => ?_) (fun h7 => ?_)
    · have h8 := not_t h7
      have p9 := df h8
      refine go tbv15ok 8 rfl rfl trivial ?_
      refine rt1 rfl rfl ?_
      refine ple ?_
      refine congrArg (PV.int .i64) ?_
      unfold deedE
      repeat (first | rw [if_pos (by omega)] | rw [if_neg (by omega)] | rw [if_pos (by assumption)] | rw [if_neg (not_not_intro (by assumption))])
      all_goals first | done | rfl
    · have h10 := not_f h7
      have p11 := dt h10
      refine go tbv15ok 17 rfl rfl trivial ?_
      refine cnd rfl (fun h12 => ?_) (fun h12 => ?_)
      · have p13 := dt h12
        refine go tbv15ok 1 rfl rfl trivial ?_
        refine any [1, 2, 3, 4, 5, 6] 16 mixd rfl ?_
        refine gov tbv15ok [0, 1, 2] 13 rfl (by kernel_rfl) rfl rfl trivial ?_
        refine vcall 3 rfl (by kernel_rfl) (words_Name _) rfl rfl fun w14 => ?_
        refine gov tbv15ok [4, 5, 6, 7] 8 rfl (by kernel_rfl) rfl rfl trivial ?_
        refine vcall 8 rfl (by kernel_rfl) (deed_bound _ _) rfl rfl fun w15 => ?_
        refine gov tbv15ok [9, 10, 11] 4 rfl (by kernel_rfl) rfl rfl trivial ?_
        refine vcall 12 rfl (by kernel_rfl) (deed_maybe _) rfl rfl fun w16 => ?_
        have := maybeE_r d.shop.to
        refine ve 13 rfl (by kernel_rfl) rfl (bsl 1 i64c [nameE d.shop.name, boundE (decide (4 < d.shop.sort)) 8, maybeE d.shop.to] tbv15ok rfl rfl rfl rfl rfl (fun _ => rfl) rfl (by decide) (by decide) rfl fun u17 => ?_)
        refine ve 14 rfl (by kernel_rfl) rfl (calll 1 rfl (deed_first _) rfl rfl rfl fun w18 => ?_)
        refine gov tbv15ok [15] 0 rfl (by kernel_rfl) rfl rfl trivial ?_
        refine vdone (by kernel_rfl) ?_
        refine go tbv15ok 4 rfl rfl trivial ?_
        refine rt1 rfl rfl ?_
        refine ple ?_
        refine congrArg (PV.int .i64) ?_
        unfold deedE
        repeat (first | rw [if_pos (by omega)] | rw [if_neg (by omega)] | rw [if_pos (by assumption)] | rw [if_neg (not_not_intro (by assumption))])
        all_goals first | done | rfl
      · have p19 := df h12
        refine go tbv15ok 6 rfl rfl trivial ?_
        refine cnd rfl (fun h20 => ?_) (fun h20 => ?_)
        · have p21 := dt h20
          refine go tbv15ok 1 rfl rfl trivial ?_
          refine any [1, 2, 3, 4, 5, 6] 11 mixd rfl ?_
          refine gov tbv15ok [0, 1, 2] 8 rfl (by kernel_rfl) rfl rfl trivial ?_
          refine vcall 3 rfl (by kernel_rfl) (words_Name _) rfl rfl fun w22 => ?_
          refine gov tbv15ok [4, 5, 6] 4 rfl (by kernel_rfl) rfl rfl trivial ?_
          refine vcall 7 rfl (by kernel_rfl) (deed_maybe _) rfl rfl fun w23 => ?_
          have := maybeE_r d.queue.dead
          refine ve 8 rfl (by kernel_rfl) rfl (bsl 1 i64c [nameE d.queue.name, maybeE d.queue.dead] tbv15ok rfl rfl rfl rfl rfl (fun _ => rfl) rfl (by decide) (by decide) rfl fun u24 => ?_)
          refine ve 9 rfl (by kernel_rfl) rfl (calll 1 rfl (deed_first _) rfl rfl rfl fun w25 => ?_)
          refine gov tbv15ok [10] 0 rfl (by kernel_rfl) rfl rfl trivial ?_
          refine vdone (by kernel_rfl) ?_
          refine go tbv15ok 4 rfl rfl trivial ?_
          refine rt1 rfl rfl ?_
          refine ple ?_
          refine congrArg (PV.int .i64) ?_
          unfold deedE
          repeat (first | rw [if_pos (by omega)] | rw [if_neg (by omega)] | rw [if_pos (by assumption)] | rw [if_neg (not_not_intro (by assumption))])
          all_goals first | done | rfl
        · have p26 := df h20
          refine go tbv15ok 7 rfl rfl trivial ?_
          refine cnd rfl (fun h27 => ?_) (fun h27 => ?_)
          · have p28 := dt h27
            refine go tbv15ok 2 rfl rfl trivial ?_
            refine cndT rfl h27 ?_
            refine go tbv15ok 4 rfl rfl trivial ?_
            refine ef (alloc tbv15ok 1 rfl rfl rfl rfl fun b29 => ?_)
            refine ef (storeA tbv15ok rfl rfl rfl rfl rfl rfl rfl rfl rfl rfl ?_)
            refine go tbv15ok 3 rfl rfl trivial ?_
            refine any [2, 3, 4, 5, 6, 7] 17 mixd rfl ?_
            refine gov tbv15ok [0, 1] 15 rfl (by kernel_rfl) rfl rfl trivial ?_
            refine vcall 2 rfl (by kernel_rfl) (words_Name _) rfl rfl fun w30 => ?_
            refine gov tbv15ok [3, 4] 12 rfl (by kernel_rfl) rfl rfl trivial ?_
            refine vcall 5 rfl (by kernel_rfl) (words_Name _) rfl rfl fun w31 => ?_
            refine gov tbv15ok [6, 7, 8, 9] 7 rfl (by kernel_rfl) rfl rfl trivial ?_
            refine vcall 10 rfl (by kernel_rfl) (deed_bound _ _) rfl rfl fun w32 => ?_
            refine gov tbv15ok [11, 12] 4 rfl (by kernel_rfl) rfl rfl trivial ?_
            refine vcall 13 rfl (by kernel_rfl) (head_Check _) rfl rfl fun w33 => ?_
            refine ve 14 rfl (by kernel_rfl) rfl (bsl 2 i64c [nameE d.bind.shop, nameE d.bind.to, boundE (decide (64 < (d.bind.key.length : Int))) 5, headE d.bind.want] tbv15ok rfl rfl rfl rfl rfl (fun _ => rfl) rfl (by decide) (by decide) rfl fun u34 => ?_)
            refine ve 15 rfl (by kernel_rfl) rfl (calll 2 rfl (deed_first _) rfl rfl rfl fun w35 => ?_)
            refine gov tbv15ok [16] 0 rfl (by kernel_rfl) rfl rfl trivial ?_
            refine vdone (by kernel_rfl) ?_
            refine go tbv15ok 4 rfl rfl trivial ?_
            refine rt1 rfl rfl ?_
            refine ple ?_
            refine congrArg (PV.int .i64) ?_
            unfold deedE
            repeat (first | rw [if_pos (by omega)] | rw [if_neg (by omega)] | rw [if_pos (by assumption)] | rw [if_neg (not_not_intro (by assumption))])
            all_goals first | done | rfl
          · have p36 := df h27
            refine go tbv15ok 5 rfl rfl trivial ?_
            refine cnd rfl (fun h37 => ?_) (fun h37 => ?_)
            · have p38 := dt h37
              refine go tbv15ok 4 rfl rfl trivial ?_
              refine ef (alloc tbv15ok 1 rfl rfl rfl rfl fun b39 => ?_)
              refine ef (storeA tbv15ok rfl rfl rfl rfl rfl rfl rfl rfl rfl rfl ?_)
              refine go tbv15ok 3 rfl rfl trivial ?_
              refine any [2, 3, 4, 5, 6, 7] 17 mixd rfl ?_
              refine gov tbv15ok [0, 1] 15 rfl (by kernel_rfl) rfl rfl trivial ?_
              refine vcall 2 rfl (by kernel_rfl) (words_Name _) rfl rfl fun w40 => ?_
              refine gov tbv15ok [3, 4] 12 rfl (by kernel_rfl) rfl rfl trivial ?_
              refine vcall 5 rfl (by kernel_rfl) (words_Name _) rfl rfl fun w41 => ?_
              refine gov tbv15ok [6, 7, 8, 9] 7 rfl (by kernel_rfl) rfl rfl trivial ?_
              refine vcall 10 rfl (by kernel_rfl) (deed_bound _ _) rfl rfl fun w42 => ?_
              refine gov tbv15ok [11, 12] 4 rfl (by kernel_rfl) rfl rfl trivial ?_
              refine vcall 13 rfl (by kernel_rfl) (head_Check _) rfl rfl fun w43 => ?_
              refine ve 14 rfl (by kernel_rfl) rfl (bsl 2 i64c [nameE d.bind.shop, nameE d.bind.to, boundE (decide (64 < (d.bind.key.length : Int))) 5, headE d.bind.want] tbv15ok rfl rfl rfl rfl rfl (fun _ => rfl) rfl (by decide) (by decide) rfl fun u44 => ?_)
              refine ve 15 rfl (by kernel_rfl) rfl (calll 2 rfl (deed_first _) rfl rfl rfl fun w45 => ?_)
              refine gov tbv15ok [16] 0 rfl (by kernel_rfl) rfl rfl trivial ?_
              refine vdone (by kernel_rfl) ?_
              refine go tbv15ok 4 rfl rfl trivial ?_
              refine rt1 rfl rfl ?_
              refine ple ?_
              refine congrArg (PV.int .i64) ?_
              unfold deedE
              repeat (first | rw [if_pos (by omega)] | rw [if_neg (by omega)] | rw [if_pos (by assumption)] | rw [if_neg (not_not_intro (by assumption))])
              all_goals first | done | rfl
            · have p46 := df h37
              refine go tbv15ok 7 rfl rfl trivial ?_
              refine cnd rfl (fun h47 => ?_) (fun h47 => ?_)
              · have p48 := dt h47
                refine go tbv15ok 2 rfl rfl trivial ?_
                refine cndT rfl h47 ?_
                refine go tbv15ok 4 rfl rfl trivial ?_
                refine call (mail_Check _) rfl rfl fun w49 => ?_
                have := mailC_r d.mail
                have hmo49 := fun h => mailC_ok (m := d.mail) h
                refine go tbv15ok 6 rfl rfl trivial ?_
                refine rt1 rfl rfl ?_
                refine ple ?_
                refine congrArg (PV.int .i64) ?_
                unfold deedE
                repeat (first | rw [if_pos (by omega)] | rw [if_neg (by omega)] | rw [if_pos (by assumption)] | rw [if_neg (not_not_intro (by assumption))])
                all_goals first | done | rfl
              · have p50 := df h47
                refine go tbv15ok 5 rfl rfl trivial ?_
                refine cnd rfl (fun h51 => ?_) (fun h51 => ?_)
                · have p52 := dt h51
                  refine go tbv15ok 4 rfl rfl trivial ?_
                  refine call (mail_Check _) rfl rfl fun w53 => ?_
                  have := mailC_r d.mail
                  have hmo53 := fun h => mailC_ok (m := d.mail) h
                  refine go tbv15ok 6 rfl rfl trivial ?_
                  refine rt1 rfl rfl ?_
                  refine ple ?_
                  refine congrArg (PV.int .i64) ?_
                  unfold deedE
                  repeat (first | rw [if_pos (by omega)] | rw [if_neg (by omega)] | rw [if_pos (by assumption)] | rw [if_neg (not_not_intro (by assumption))])
                  all_goals first | done | rfl
                · have p54 := df h51
                  refine go tbv15ok 7 rfl rfl trivial ?_
                  refine cnd rfl (fun h55 => ?_) (fun h55 => ?_)
                  · have p56 := dt h55
                    refine go tbv15ok 2 rfl rfl trivial ?_
                    refine cndT rfl h55 ?_
                    refine go tbv15ok 8 rfl rfl trivial ?_
                    refine rt1 rfl rfl ?_
                    refine ple ?_
                    refine congrArg (PV.int .i64) ?_
                    unfold deedE
                    repeat (first | rw [if_pos (by omega)] | rw [if_neg (by omega)] | rw [if_pos (by assumption)] | rw [if_neg (not_not_intro (by assumption))])
                    all_goals first | done | rfl
                  · have p57 := df h55
                    refine go tbv15ok 5 rfl rfl trivial ?_
                    refine cnd rfl (fun h58 => ?_) (fun h58 => ?_)
                    · have p59 := dt h58
                      refine go tbv15ok 8 rfl rfl trivial ?_
                      refine rt1 rfl rfl ?_
                      refine ple ?_
                      refine congrArg (PV.int .i64) ?_
                      unfold deedE
                      repeat (first | rw [if_pos (by omega)] | rw [if_neg (by omega)] | rw [if_pos (by assumption)] | rw [if_neg (not_not_intro (by assumption))])
                      all_goals first | done | rfl
                    · have p60 := df h58
                      refine go tbv15ok 6 rfl rfl trivial ?_
                      refine cnd rfl (fun h61 => ?_) (fun h61 => ?_)
                      · have p62 := dt h61
                        refine go tbv15ok 6 rfl rfl trivial ?_
                        refine call (deed_bound _ _) rfl rfl fun w63 => ?_
                        refine go tbv15ok 6 rfl rfl trivial ?_
                        refine rt1 rfl rfl ?_
                        refine ple ?_
                        refine congrArg (PV.int .i64) ?_
                        unfold deedE
                        repeat (first | rw [if_pos (by omega)] | rw [if_neg (by omega)] | rw [if_pos (by assumption)] | rw [if_neg (not_not_intro (by assumption))])
                        all_goals first | done | rfl
                      · have p64 := df h61
                        refine go tbv15ok 4 rfl rfl trivial ?_
                        refine any [1, 2, 3, 4, 5, 6] 10 mixd rfl ?_
                        refine gov tbv15ok [0, 1] 8 rfl (by kernel_rfl) rfl rfl trivial ?_
                        refine vcall 2 rfl (by kernel_rfl) (words_Name _) rfl rfl fun w65 => ?_
                        refine gov tbv15ok [3, 4, 5] 4 rfl (by kernel_rfl) rfl rfl trivial ?_
                        refine vcall 6 rfl (by kernel_rfl) (deed_bound _ _) rfl rfl fun w66 => ?_
                        refine ve 7 rfl (by kernel_rfl) rfl (bsl 1 i64c [nameE d.name, boundE (decide (2 < d.how)) 7] tbv15ok rfl rfl rfl rfl rfl (fun _ => rfl) rfl (by decide) (by decide) rfl fun u67 => ?_)
                        refine ve 8 rfl (by kernel_rfl) rfl (calll 1 rfl (deed_first _) rfl rfl rfl fun w68 => ?_)
                        refine gov tbv15ok [9] 0 rfl (by kernel_rfl) rfl rfl trivial ?_
                        refine vdone (by kernel_rfl) ?_
                        refine go tbv15ok 2 rfl rfl trivial ?_
                        refine rt1 rfl rfl ?_
                        refine ple ?_
                        refine congrArg (PV.int .i64) ?_
                        unfold deedE
                        repeat (first | rw [if_pos (by omega)] | rw [if_neg (by omega)] | rw [if_pos (by assumption)] | rw [if_neg (not_not_intro (by assumption))])
                        all_goals first | done | rfl
end Go.SW.V
set_option linter.unusedVariables false
set_option maxRecDepth 100000
set_option maxHeartbeats 4000000
namespace Go.SW.V
open Go.SW Go.Proofs
theorem cb100 : Callable Tryz.prog 100 := callable_of Tryz.func100 (by kernel_rfl) (by kernel_rfl)
def tbv16 : Tb := [(4, ⟨.bool, 1, 1, [.bool false]⟩),
  (5, ⟨.int .u8, 1, 1, [.int .u8 0]⟩),
  (9, ⟨.str, 1, 16, [.str []]⟩),
  (22, ⟨.int .u64, 1, 8, [.int .u64 0]⟩),
  (44, ⟨.agg [(0, 1), (1, 1), (2, 1)], 3, 40, [.str [], .int .u8 0, .str []]⟩),
  (46, ⟨.agg [(0, 1), (1, 1), (2, 1), (3, 1)], 4, 48, [.str [], .int .u64 0, .int .u64 0, .str []]⟩),
  (47, ⟨.slc 139, 1, 24, [.sl Pair.pc []]⟩),
  (49, ⟨.agg [(0, 1), (1, 1), (2, 1), (3, 1), (4, 1), (5, 1)], 6, 88, [.str [], .str [], .bool false, .str [], .sl Pair.pc [], .bool false]⟩),
  (51, ⟨.agg [(0, 1), (1, 1), (2, 1), (3, 1), (4, 1), (5, 1), (6, 1)], 7, 96, [.int .u64 0, .str [], .str [], .sl Pair.pc [], .str [], .int .u64 0, .int .u8 0]⟩),
  (53, ⟨.agg [(0, 1), (1, 1), (2, 3), (5, 4), (9, 6), (15, 1), (16, 1), (17, 1), (18, 1), (19, 1), (20, 1), (21, 7), (28, 1)], 29, 344, [.int .u8 0, .int .u64 0, .str [], .int .u8 0, .str [], .str [], .int .u64 0, .int .u64 0, .str [], .str [], .str [], .bool false, .str [], .sl Pair.pc [], .bool false, .str [], .int .u64 0, .int .u8 0, .int .u8 0, .int .u8 0, .int .u64 0, .int .u64 0, .str [], .str [], .sl Pair.pc [], .str [], .int .u64 0, .int .u8 0, .str []]⟩),
  (170, ⟨.agg [(0, 1), (1, 1)], 2, 24, [.str [], .int .i64 0]⟩)]
theorem tbv16ok : tbB Tryz.prog tbv16 = true := by kernel_rfl
theorem deed_Bytes (d : DeedR) : Fn Tryz.prog gb 100 [.agg (DeedR.pc d)] (.tup [.str (deedBytes d), .int .i64 (deedE d)]) := by
  refine fn_cw tbv16ok Tryz.func100 rfl Tryz.ntmps100 rfl cb100 rfl rfl fun w N H hG => ?_
  have d_w := DeedR.pwf w.1
  have d_w' := d_w
  simp only [DeedR.wf, ShopR.wf, QueueR.wf, BindR.wf, Mail.wf] at d_w'
  have d_bind_want_k := DeedR.kd13 w.1
  have d_bind_want_k2 : d.bind.want.length ≤ 140737488355328 := w.1.2.2.2.2.2.2.2.2.2.2.2.2.2.1.1
  have d_mail_head_k := DeedR.kd24 w.1
  have d_mail_head_k2 : d.mail.head.length ≤ 140737488355328 := w.1.2.2.2.2.2.2.2.2.2.2.2.2.2.2.2.2.2.2.2.2.2.2.2.2.1.1
  refine go tbv16ok 2 rfl rfl trivial ?_
  refine ef (boxA 0 rfl rfl rfl fun b1 => ?_)
  refine go tbv16ok 8 rfl rfl trivial ?_
  refine call (deed_Check _) rfl rfl fun w2 => ?_
  have := deedE_r d
  refine go tbv16ok 9 rfl rfl trivial ?_
  refine cnd rfl (fun h3 => ?_) (fun h3 => ?_)
  · have h4 := not_t h3
    have p5 := df h4
    refine go tbv16ok 9 rfl rfl trivial ?_
    refine rt2 rfl rfl ?_
    refine ple ?_
    have e : deedBytes d = [] := by
      unfold deedBytes
      first
        | (rw [if_neg (by assumption)]; done)
        | (rw [if_pos (by assumption)]; unfold deedOut; (repeat (first | rw [if_pos (by omega)] | rw [if_neg (by omega)] | rw [if_pos (by assumption)] | rw [if_neg (by assumption)] | rw [if_neg (not_not_intro (by assumption))])); first | done | rfl)
    rw [e]
    try (rw [show deedE d = 0 by assumption])
  · have h6 := not_f h3
    have p7 := dt h6
    have hdk := deedE_ok (d := d) (by omega) p7
    obtain ⟨dk1, dk2, dk3, dk4, dk5, dk6, dk7, dk8, dk9, dk10, dk11, dk12, dk13, dk14, dk15, dk16, dk17, dk18, dk19⟩ := hdk
    refine go tbv16ok 3 rfl rfl trivial ?_
    refine any [1, 2, 3, 4, 5, 6] 10 mixd rfl ?_
    refine gov tbv16ok [0, 1, 2, 3] 6 rfl (by kernel_rfl) rfl rfl trivial ?_
    refine vcall 4 rfl (by kernel_rfl) (out_Num (⟨[], 0⟩ : Out) _ _ (by first | omega | (have := hrl (by assumption); omega) | (simp [outNum, outRaw, numB_len, numK] <;> omega) | (have := hrl (by assumption); simp [outNum, outRaw, numB_len, numK] <;> omega))) rfl rfl fun w8 => ?_
    have nl0 : (⟨[], 0⟩ : Out).s.length = 0 := rfl
    have := outNum_len (⟨[], 0⟩ : Out) d.kind 1
    refine gov tbv16ok [5, 6] 3 rfl (by kernel_rfl) rfl rfl trivial ?_
    refine vcall 7 rfl (by kernel_rfl) (out_Num _ _ _ (by first | omega | (have := hrl (by assumption); omega) | (simp [outNum, outRaw, numB_len, numK] <;> omega) | (have := hrl (by assumption); simp [outNum, outRaw, numB_len, numK] <;> omega))) rfl rfl fun w9 => ?_
    have := outNum_len (outNum (⟨[], 0⟩ : Out) d.kind 1) d.tick 8
    refine ve 8 rfl (by kernel_rfl) rfl (alloc tbv16ok 1 rfl rfl rfl rfl fun b10 => ?_)
    refine vt 9 rfl (by kernel_rfl) (by kernel_rfl) (storeA tbv16ok rfl rfl rfl rfl rfl rfl rfl rfl rfl rfl ?_)
    refine vdone (by kernel_rfl) ?_
    refine go tbv16ok 5 rfl rfl trivial ?_
    refine call (mail_Bytes _) rfl rfl fun w11 => ?_
    have := mailBytes_len d.mail
    refine go tbv16ok 21 rfl rfl trivial ?_
    refine cnd rfl (fun h12 => ?_) (fun h12 => ?_)
    · have p13 := dt h12
      refine any [2, 3, 4, 5, 6, 7] 15 mixd rfl ?_
      refine gov tbv16ok [0, 1, 2, 3] 11 rfl (by kernel_rfl) rfl rfl trivial ?_
      refine vcall 4 rfl (by kernel_rfl) (out_Text _ _ (by first | omega | (have := hrl (by assumption); omega) | (simp [outNum, outRaw, numB_len, numK] <;> omega) | (have := hrl (by assumption); simp [outNum, outRaw, numB_len, numK] <;> omega))) rfl rfl fun w14 => ?_
      have := outText_len (outNum (outNum (⟨[], 0⟩ : Out) d.kind 1) d.tick 8) d.shop.name
      refine gov tbv16ok [5, 6, 7, 8] 6 rfl (by kernel_rfl) rfl rfl trivial ?_
      refine vcall 9 rfl (by kernel_rfl) (out_Num _ _ _ (by first | omega | (have := hrl (by assumption); omega) | (simp [outNum, outRaw, numB_len, numK] <;> omega) | (have := hrl (by assumption); simp [outNum, outRaw, numB_len, numK] <;> omega))) rfl rfl fun w15 => ?_
      have := outNum_len (outText (outNum (outNum (⟨[], 0⟩ : Out) d.kind 1) d.tick 8) d.shop.name) d.shop.sort 1
      refine gov tbv16ok [10, 11, 12] 2 rfl (by kernel_rfl) rfl rfl trivial ?_
      refine vcall 13 rfl (by kernel_rfl) (out_Text _ _ (by first | omega | (have := hrl (by assumption); omega) | (simp [outNum, outRaw, numB_len, numK] <;> omega) | (have := hrl (by assumption); simp [outNum, outRaw, numB_len, numK] <;> omega))) rfl rfl fun w16 => ?_
      have := outText_len (outNum (outText (outNum (outNum (⟨[], 0⟩ : Out) d.kind 1) d.tick 8) d.shop.name) d.shop.sort 1) d.shop.to
      refine vt 14 rfl (by kernel_rfl) (by kernel_rfl) (storeA tbv16ok rfl rfl rfl rfl rfl rfl rfl rfl rfl rfl ?_)
      refine vdone (by kernel_rfl) ?_
      refine go tbv16ok 5 rfl rfl trivial ?_
      refine call (out_String _) rfl rfl fun w17 => ?_
      refine go tbv16ok 5 rfl rfl trivial ?_
      refine rt2 rfl rfl ?_
      refine ple ?_
      have e : deedBytes d = (outText (outNum (outText (outNum (outNum (⟨[], 0⟩ : Out) d.kind 1) d.tick 8) d.shop.name) d.shop.sort 1) d.shop.to).s := by
        unfold deedBytes
        first
          | (rw [if_neg (by assumption)]; done)
          | (rw [if_pos (by assumption)]; unfold deedOut; (repeat (first | rw [if_pos (by omega)] | rw [if_neg (by omega)] | rw [if_pos (by assumption)] | rw [if_neg (by assumption)] | rw [if_neg (not_not_intro (by assumption))])); first | done | rfl)
      rw [e]
      try (rw [show deedE d = 0 by assumption])
    · have p18 := df h12
      refine go tbv16ok 6 rfl rfl trivial ?_
      refine cnd rfl (fun h19 => ?_) (fun h19 => ?_)
      · have p20 := dt h19
        refine any [2, 3, 4, 5, 6, 7] 18 mixd rfl ?_
        refine gov tbv16ok [0, 1, 2, 3] 14 rfl (by kernel_rfl) rfl rfl trivial ?_
        refine vcall 4 rfl (by kernel_rfl) (out_Text _ _ (by first | omega | (have := hrl (by assumption); omega) | (simp [outNum, outRaw, numB_len, numK] <;> omega) | (have := hrl (by assumption); simp [outNum, outRaw, numB_len, numK] <;> omega))) rfl rfl fun w21 => ?_
        have := outText_len (outNum (outNum (⟨[], 0⟩ : Out) d.kind 1) d.tick 8) d.queue.name
        refine gov tbv16ok [5, 6, 7] 10 rfl (by kernel_rfl) rfl rfl trivial ?_
        refine vcall 8 rfl (by kernel_rfl) (out_Num _ _ _ (by first | omega | (have := hrl (by assumption); omega) | (simp [outNum, outRaw, numB_len, numK] <;> omega) | (have := hrl (by assumption); simp [outNum, outRaw, numB_len, numK] <;> omega))) rfl rfl fun w22 => ?_
        have := outNum_len (outText (outNum (outNum (⟨[], 0⟩ : Out) d.kind 1) d.tick 8) d.queue.name) d.queue.most 8
        refine gov tbv16ok [9, 10, 11] 6 rfl (by kernel_rfl) rfl rfl trivial ?_
        refine vcall 12 rfl (by kernel_rfl) (out_Num _ _ _ (by first | omega | (have := hrl (by assumption); omega) | (simp [outNum, outRaw, numB_len, numK] <;> omega) | (have := hrl (by assumption); simp [outNum, outRaw, numB_len, numK] <;> omega))) rfl rfl fun w23 => ?_
        have := outNum_len (outNum (outText (outNum (outNum (⟨[], 0⟩ : Out) d.kind 1) d.tick 8) d.queue.name) d.queue.most 8) d.queue.life 8
        refine gov tbv16ok [13, 14, 15] 2 rfl (by kernel_rfl) rfl rfl trivial ?_
        refine vcall 16 rfl (by kernel_rfl) (out_Text _ _ (by first | omega | (have := hrl (by assumption); omega) | (simp [outNum, outRaw, numB_len, numK] <;> omega) | (have := hrl (by assumption); simp [outNum, outRaw, numB_len, numK] <;> omega))) rfl rfl fun w24 => ?_
        have := outText_len (outNum (outNum (outText (outNum (outNum (⟨[], 0⟩ : Out) d.kind 1) d.tick 8) d.queue.name) d.queue.most 8) d.queue.life 8) d.queue.dead
        refine vt 17 rfl (by kernel_rfl) (by kernel_rfl) (storeA tbv16ok rfl rfl rfl rfl rfl rfl rfl rfl rfl rfl ?_)
        refine vdone (by kernel_rfl) ?_
        refine go tbv16ok 5 rfl rfl trivial ?_
        refine call (out_String _) rfl rfl fun w25 => ?_
        refine go tbv16ok 5 rfl rfl trivial ?_
        refine rt2 rfl rfl ?_
        refine ple ?_
        have e : deedBytes d = (outText (outNum (outNum (outText (outNum (outNum (⟨[], 0⟩ : Out) d.kind 1) d.tick 8) d.queue.name) d.queue.most 8) d.queue.life 8) d.queue.dead).s := by
          unfold deedBytes
          first
            | (rw [if_neg (by assumption)]; done)
            | (rw [if_pos (by assumption)]; unfold deedOut; (repeat (first | rw [if_pos (by omega)] | rw [if_neg (by omega)] | rw [if_pos (by assumption)] | rw [if_neg (by assumption)] | rw [if_neg (not_not_intro (by assumption))])); first | done | rfl)
        rw [e]
        try (rw [show deedE d = 0 by assumption])
      · have p26 := df h19
        refine go tbv16ok 7 rfl rfl trivial ?_
        refine cnd rfl (fun h27 => ?_) (fun h27 => ?_)
        · have p28 := dt h27
          refine go tbv16ok 2 rfl rfl trivial ?_
          refine cndT rfl h27 ?_
          refine go tbv16ok 4 rfl rfl trivial ?_
          refine ef (alloc tbv16ok 2 rfl rfl rfl rfl fun b29 => ?_)
          refine ef (storeA tbv16ok rfl rfl rfl rfl rfl rfl rfl rfl rfl rfl ?_)
          refine go tbv16ok 6 rfl rfl trivial ?_
          refine call (head_Bytes _) rfl rfl fun w30 => ?_
          have := headBytes_len d.bind.want
          refine go tbv16ok 7 rfl rfl trivial ?_
          refine any [3, 4, 5, 6, 7, 8] 21 mixd rfl ?_
          refine gov tbv16ok [0, 1, 2] 18 rfl (by kernel_rfl) rfl rfl trivial ?_
          refine vcall 3 rfl (by kernel_rfl) (out_Text _ _ (by first | omega | (have := hrl (by assumption); omega) | (simp [outNum, outRaw, numB_len, numK] <;> omega) | (have := hrl (by assumption); simp [outNum, outRaw, numB_len, numK] <;> omega))) rfl rfl fun w31 => ?_
          have := outText_len (outNum (outNum (⟨[], 0⟩ : Out) d.kind 1) d.tick 8) d.bind.shop
          refine gov tbv16ok [4, 5] 15 rfl (by kernel_rfl) rfl rfl trivial ?_
          refine vcall 6 rfl (by kernel_rfl) (out_Text _ _ (by first | omega | (have := hrl (by assumption); omega) | (simp [outNum, outRaw, numB_len, numK] <;> omega) | (have := hrl (by assumption); simp [outNum, outRaw, numB_len, numK] <;> omega))) rfl rfl fun w32 => ?_
          have := outText_len (outText (outNum (outNum (⟨[], 0⟩ : Out) d.kind 1) d.tick 8) d.bind.shop) d.bind.to
          refine gov tbv16ok [7, 8] 12 rfl (by kernel_rfl) rfl rfl trivial ?_
          refine vcall 9 rfl (by kernel_rfl) (deed_bit _) rfl rfl fun w33 => ?_
          refine vcall 10 rfl (by kernel_rfl) (out_Num _ _ _ (by first | omega | (have := hrl (by assumption); omega) | (simp [outNum, outRaw, numB_len, numK] <;> omega) | (have := hrl (by assumption); simp [outNum, outRaw, numB_len, numK] <;> omega))) rfl rfl fun w34 => ?_
          have := outNum_len (outText (outText (outNum (outNum (⟨[], 0⟩ : Out) d.kind 1) d.tick 8) d.bind.shop) d.bind.to) (bitN d.bind.up) 1
          refine gov tbv16ok [11, 12] 8 rfl (by kernel_rfl) rfl rfl trivial ?_
          refine vcall 13 rfl (by kernel_rfl) (out_Text _ _ (by first | omega | (have := hrl (by assumption); omega) | (simp [outNum, outRaw, numB_len, numK] <;> omega) | (have := hrl (by assumption); simp [outNum, outRaw, numB_len, numK] <;> omega))) rfl rfl fun w35 => ?_
          have := outText_len (outNum (outText (outText (outNum (outNum (⟨[], 0⟩ : Out) d.kind 1) d.tick 8) d.bind.shop) d.bind.to) (bitN d.bind.up) 1) d.bind.key
          refine gov tbv16ok [14] 6 rfl (by kernel_rfl) rfl rfl trivial ?_
          refine vcall 15 rfl (by kernel_rfl) (out_Raw _ _ (by first | omega | (have := hrl (by assumption); omega) | (simp [outNum, outRaw, numB_len, numK] <;> omega) | (have := hrl (by assumption); simp [outNum, outRaw, numB_len, numK] <;> omega))) rfl rfl fun w36 => ?_
          have := outRaw_len (outText (outNum (outText (outText (outNum (outNum (⟨[], 0⟩ : Out) d.kind 1) d.tick 8) d.bind.shop) d.bind.to) (bitN d.bind.up) 1) d.bind.key) (headBytes d.bind.want)
          refine gov tbv16ok [16, 17] 3 rfl (by kernel_rfl) rfl rfl trivial ?_
          refine vcall 18 rfl (by kernel_rfl) (deed_bit _) rfl rfl fun w37 => ?_
          refine vcall 19 rfl (by kernel_rfl) (out_Num _ _ _ (by first | omega | (have := hrl (by assumption); omega) | (simp [outNum, outRaw, numB_len, numK] <;> omega) | (have := hrl (by assumption); simp [outNum, outRaw, numB_len, numK] <;> omega))) rfl rfl fun w38 => ?_
          have := outNum_len (outRaw (outText (outNum (outText (outText (outNum (outNum (⟨[], 0⟩ : Out) d.kind 1) d.tick 8) d.bind.shop) d.bind.to) (bitN d.bind.up) 1) d.bind.key) (headBytes d.bind.want)) (bitN d.bind.all) 1
          refine vt 20 rfl (by kernel_rfl) (by kernel_rfl) (storeA tbv16ok rfl rfl rfl rfl rfl rfl rfl rfl rfl rfl ?_)
          refine vdone (by kernel_rfl) ?_
          refine go tbv16ok 5 rfl rfl trivial ?_
          refine call (out_String _) rfl rfl fun w39 => ?_
          refine go tbv16ok 5 rfl rfl trivial ?_
          refine rt2 rfl rfl ?_
          refine ple ?_
          have e : deedBytes d = (outNum (outRaw (outText (outNum (outText (outText (outNum (outNum (⟨[], 0⟩ : Out) d.kind 1) d.tick 8) d.bind.shop) d.bind.to) (bitN d.bind.up) 1) d.bind.key) (headBytes d.bind.want)) (bitN d.bind.all) 1).s := by
            unfold deedBytes
            first
              | (rw [if_neg (by assumption)]; done)
              | (rw [if_pos (by assumption)]; unfold deedOut; (repeat (first | rw [if_pos (by omega)] | rw [if_neg (by omega)] | rw [if_pos (by assumption)] | rw [if_neg (by assumption)] | rw [if_neg (not_not_intro (by assumption))])); first | done | rfl)
          rw [e]
          try (rw [show deedE d = 0 by assumption])
        · have p40 := df h27
          refine go tbv16ok 5 rfl rfl trivial ?_
          refine cnd rfl (fun h41 => ?_) (fun h41 => ?_)
          · have p42 := dt h41
            refine go tbv16ok 4 rfl rfl trivial ?_
            refine ef (alloc tbv16ok 2 rfl rfl rfl rfl fun b43 => ?_)
            refine ef (storeA tbv16ok rfl rfl rfl rfl rfl rfl rfl rfl rfl rfl ?_)
            refine go tbv16ok 6 rfl rfl trivial ?_
            refine call (head_Bytes _) rfl rfl fun w44 => ?_
            have := headBytes_len d.bind.want
            refine go tbv16ok 7 rfl rfl trivial ?_
            refine any [3, 4, 5, 6, 7, 8] 21 mixd rfl ?_
            refine gov tbv16ok [0, 1, 2] 18 rfl (by kernel_rfl) rfl rfl trivial ?_
            refine vcall 3 rfl (by kernel_rfl) (out_Text _ _ (by first | omega | (have := hrl (by assumption); omega) | (simp [outNum, outRaw, numB_len, numK] <;> omega) | (have := hrl (by assumption); simp [outNum, outRaw, numB_len, numK] <;> omega))) rfl rfl fun w45 => ?_
            have := outText_len (outNum (outNum (⟨[], 0⟩ : Out) d.kind 1) d.tick 8) d.bind.shop
            refine gov tbv16ok [4, 5] 15 rfl (by kernel_rfl) rfl rfl trivial ?_
            refine vcall 6 rfl (by kernel_rfl) (out_Text _ _ (by first | omega | (have := hrl (by assumption); omega) | (simp [outNum, outRaw, numB_len, numK] <;> omega) | (have := hrl (by assumption); simp [outNum, outRaw, numB_len, numK] <;> omega))) rfl rfl fun w46 => ?_
            have := outText_len (outText (outNum (outNum (⟨[], 0⟩ : Out) d.kind 1) d.tick 8) d.bind.shop) d.bind.to
            refine gov tbv16ok [7, 8] 12 rfl (by kernel_rfl) rfl rfl trivial ?_
            refine vcall 9 rfl (by kernel_rfl) (deed_bit _) rfl rfl fun w47 => ?_
            refine vcall 10 rfl (by kernel_rfl) (out_Num _ _ _ (by first | omega | (have := hrl (by assumption); omega) | (simp [outNum, outRaw, numB_len, numK] <;> omega) | (have := hrl (by assumption); simp [outNum, outRaw, numB_len, numK] <;> omega))) rfl rfl fun w48 => ?_
            have := outNum_len (outText (outText (outNum (outNum (⟨[], 0⟩ : Out) d.kind 1) d.tick 8) d.bind.shop) d.bind.to) (bitN d.bind.up) 1
            refine gov tbv16ok [11, 12] 8 rfl (by kernel_rfl) rfl rfl trivial ?_
            refine vcall 13 rfl (by kernel_rfl) (out_Text _ _ (by first | omega | (have := hrl (by assumption); omega) | (simp [outNum, outRaw, numB_len, numK] <;> omega) | (have := hrl (by assumption); simp [outNum, outRaw, numB_len, numK] <;> omega))) rfl rfl fun w49 => ?_
            have := outText_len (outNum (outText (outText (outNum (outNum (⟨[], 0⟩ : Out) d.kind 1) d.tick 8) d.bind.shop) d.bind.to) (bitN d.bind.up) 1) d.bind.key
            refine gov tbv16ok [14] 6 rfl (by kernel_rfl) rfl rfl trivial ?_
            refine vcall 15 rfl (by kernel_rfl) (out_Raw _ _ (by first | omega | (have := hrl (by assumption); omega) | (simp [outNum, outRaw, numB_len, numK] <;> omega) | (have := hrl (by assumption); simp [outNum, outRaw, numB_len, numK] <;> omega))) rfl rfl fun w50 => ?_
            have := outRaw_len (outText (outNum (outText (outText (outNum (outNum (⟨[], 0⟩ : Out) d.kind 1) d.tick 8) d.bind.shop) d.bind.to) (bitN d.bind.up) 1) d.bind.key) (headBytes d.bind.want)
            refine gov tbv16ok [16, 17] 3 rfl (by kernel_rfl) rfl rfl trivial ?_
            refine vcall 18 rfl (by kernel_rfl) (deed_bit _) rfl rfl fun w51 => ?_
            refine vcall 19 rfl (by kernel_rfl) (out_Num _ _ _ (by first | omega | (have := hrl (by assumption); omega) | (simp [outNum, outRaw, numB_len, numK] <;> omega) | (have := hrl (by assumption); simp [outNum, outRaw, numB_len, numK] <;> omega))) rfl rfl fun w52 => ?_
            have := outNum_len (outRaw (outText (outNum (outText (outText (outNum (outNum (⟨[], 0⟩ : Out) d.kind 1) d.tick 8) d.bind.shop) d.bind.to) (bitN d.bind.up) 1) d.bind.key) (headBytes d.bind.want)) (bitN d.bind.all) 1
            refine vt 20 rfl (by kernel_rfl) (by kernel_rfl) (storeA tbv16ok rfl rfl rfl rfl rfl rfl rfl rfl rfl rfl ?_)
            refine vdone (by kernel_rfl) ?_
            refine go tbv16ok 5 rfl rfl trivial ?_
            refine call (out_String _) rfl rfl fun w53 => ?_
            refine go tbv16ok 5 rfl rfl trivial ?_
            refine rt2 rfl rfl ?_
            refine ple ?_
            have e : deedBytes d = (outNum (outRaw (outText (outNum (outText (outText (outNum (outNum (⟨[], 0⟩ : Out) d.kind 1) d.tick 8) d.bind.shop) d.bind.to) (bitN d.bind.up) 1) d.bind.key) (headBytes d.bind.want)) (bitN d.bind.all) 1).s := by
              unfold deedBytes
              first
                | (rw [if_neg (by assumption)]; done)
                | (rw [if_pos (by assumption)]; unfold deedOut; (repeat (first | rw [if_pos (by omega)] | rw [if_neg (by omega)] | rw [if_pos (by assumption)] | rw [if_neg (by assumption)] | rw [if_neg (not_not_intro (by assumption))])); first | done | rfl)
            rw [e]
            try (rw [show deedE d = 0 by assumption])
          · have p54 := df h41
            refine go tbv16ok 6 rfl rfl trivial ?_
            refine cnd rfl (fun h55 => ?_) (fun h55 => ?_)
            · have p56 := dt h55
              refine go tbv16ok 3 rfl rfl trivial ?_
              refine call (out_Raw _ _ (by first | omega | (have := hrl (by assumption); omega) | (simp [outNum, outRaw, numB_len, numK] <;> omega) | (have := hrl (by assumption); simp [outNum, outRaw, numB_len, numK] <;> omega))) rfl rfl fun w57 => ?_
              have := outRaw_len (outNum (outNum (⟨[], 0⟩ : Out) d.kind 1) d.tick 8) (mailBytes d.mail)
              refine ef (storeA tbv16ok rfl rfl rfl rfl rfl rfl rfl rfl rfl rfl ?_)
              refine go tbv16ok 6 rfl rfl trivial ?_
              refine call (out_String _) rfl rfl fun w58 => ?_
              refine go tbv16ok 5 rfl rfl trivial ?_
              refine rt2 rfl rfl ?_
              refine ple ?_
              have e : deedBytes d = (outRaw (outNum (outNum (⟨[], 0⟩ : Out) d.kind 1) d.tick 8) (mailBytes d.mail)).s := by
                unfold deedBytes
                first
                  | (rw [if_neg (by assumption)]; done)
                  | (rw [if_pos (by assumption)]; unfold deedOut; (repeat (first | rw [if_pos (by omega)] | rw [if_neg (by omega)] | rw [if_pos (by assumption)] | rw [if_neg (by assumption)] | rw [if_neg (not_not_intro (by assumption))])); first | done | rfl)
              rw [e]
              try (rw [show deedE d = 0 by assumption])
            · have p59 := df h55
              refine go tbv16ok 7 rfl rfl trivial ?_
              refine cnd rfl (fun h60 => ?_) (fun h60 => ?_)
              · have p61 := dt h60
                refine go tbv16ok 2 rfl rfl trivial ?_
                refine cndT rfl h60 ?_
                refine go tbv16ok 4 rfl rfl trivial ?_
                refine call (out_Text _ _ (by first | omega | (have := hrl (by assumption); omega) | (simp [outNum, outRaw, numB_len, numK] <;> omega) | (have := hrl (by assumption); simp [outNum, outRaw, numB_len, numK] <;> omega))) rfl rfl fun w62 => ?_
                have := outText_len (outNum (outNum (⟨[], 0⟩ : Out) d.kind 1) d.tick 8) d.name
                refine ef (storeA tbv16ok rfl rfl rfl rfl rfl rfl rfl rfl rfl rfl ?_)
                refine go tbv16ok 6 rfl rfl trivial ?_
                refine call (out_String _) rfl rfl fun w63 => ?_
                refine go tbv16ok 5 rfl rfl trivial ?_
                refine rt2 rfl rfl ?_
                refine ple ?_
                have e : deedBytes d = (outText (outNum (outNum (⟨[], 0⟩ : Out) d.kind 1) d.tick 8) d.name).s := by
                  unfold deedBytes
                  first
                    | (rw [if_neg (by assumption)]; done)
                    | (rw [if_pos (by assumption)]; unfold deedOut; (repeat (first | rw [if_pos (by omega)] | rw [if_neg (by omega)] | rw [if_pos (by assumption)] | rw [if_neg (by assumption)] | rw [if_neg (not_not_intro (by assumption))])); first | done | rfl)
                rw [e]
                try (rw [show deedE d = 0 by assumption])
              · have p64 := df h60
                refine go tbv16ok 6 rfl rfl trivial ?_
                refine cnd rfl (fun h65 => ?_) (fun h65 => ?_)
                · have p66 := dt h65
                  refine go tbv16ok 2 rfl rfl trivial ?_
                  refine cndT rfl h65 ?_
                  refine go tbv16ok 4 rfl rfl trivial ?_
                  refine call (out_Text _ _ (by first | omega | (have := hrl (by assumption); omega) | (simp [outNum, outRaw, numB_len, numK] <;> omega) | (have := hrl (by assumption); simp [outNum, outRaw, numB_len, numK] <;> omega))) rfl rfl fun w67 => ?_
                  have := outText_len (outNum (outNum (⟨[], 0⟩ : Out) d.kind 1) d.tick 8) d.name
                  refine ef (storeA tbv16ok rfl rfl rfl rfl rfl rfl rfl rfl rfl rfl ?_)
                  refine go tbv16ok 6 rfl rfl trivial ?_
                  refine call (out_String _) rfl rfl fun w68 => ?_
                  refine go tbv16ok 5 rfl rfl trivial ?_
                  refine rt2 rfl rfl ?_
                  refine ple ?_
                  have e : deedBytes d = (outText (outNum (outNum (⟨[], 0⟩ : Out) d.kind 1) d.tick 8) d.name).s := by
                    unfold deedBytes
                    first
                      | (rw [if_neg (by assumption)]; done)
                      | (rw [if_pos (by assumption)]; unfold deedOut; (repeat (first | rw [if_pos (by omega)] | rw [if_neg (by omega)] | rw [if_pos (by assumption)] | rw [if_neg (by assumption)] | rw [if_neg (not_not_intro (by assumption))])); first | done | rfl)
                  rw [e]
                  try (rw [show deedE d = 0 by assumption])
                · have p69 := df h65
                  refine go tbv16ok 5 rfl rfl trivial ?_
                  refine cnd rfl (fun h70 => ?_) (fun h70 => ?_)
                  · have p71 := dt h70
                    refine go tbv16ok 4 rfl rfl trivial ?_
                    refine call (out_Text _ _ (by first | omega | (have := hrl (by assumption); omega) | (simp [outNum, outRaw, numB_len, numK] <;> omega) | (have := hrl (by assumption); simp [outNum, outRaw, numB_len, numK] <;> omega))) rfl rfl fun w72 => ?_
                    have := outText_len (outNum (outNum (⟨[], 0⟩ : Out) d.kind 1) d.tick 8) d.name
                    refine ef (storeA tbv16ok rfl rfl rfl rfl rfl rfl rfl rfl rfl rfl ?_)
                    refine go tbv16ok 6 rfl rfl trivial ?_
                    refine call (out_String _) rfl rfl fun w73 => ?_
                    refine go tbv16ok 5 rfl rfl trivial ?_
                    refine rt2 rfl rfl ?_
                    refine ple ?_
                    have e : deedBytes d = (outText (outNum (outNum (⟨[], 0⟩ : Out) d.kind 1) d.tick 8) d.name).s := by
                      unfold deedBytes
                      first
                        | (rw [if_neg (by assumption)]; done)
                        | (rw [if_pos (by assumption)]; unfold deedOut; (repeat (first | rw [if_pos (by omega)] | rw [if_neg (by omega)] | rw [if_pos (by assumption)] | rw [if_neg (by assumption)] | rw [if_neg (not_not_intro (by assumption))])); first | done | rfl)
                    rw [e]
                    try (rw [show deedE d = 0 by assumption])
                  · have p74 := df h70
                    refine go tbv16ok 6 rfl rfl trivial ?_
                    refine cnd rfl (fun h75 => ?_) (fun h75 => ?_)
                    · have p76 := dt h75
                      refine any [2, 3, 4, 5, 6, 7] 12 mixd rfl ?_
                      refine gov tbv16ok [0, 1, 2] 9 rfl (by kernel_rfl) rfl rfl trivial ?_
                      refine vcall 3 rfl (by kernel_rfl) (out_Text _ _ (by first | omega | (have := hrl (by assumption); omega) | (simp [outNum, outRaw, numB_len, numK] <;> omega) | (have := hrl (by assumption); simp [outNum, outRaw, numB_len, numK] <;> omega))) rfl rfl fun w77 => ?_
                      have := outText_len (outNum (outNum (⟨[], 0⟩ : Out) d.kind 1) d.tick 8) d.name
                      refine gov tbv16ok [4, 5] 6 rfl (by kernel_rfl) rfl rfl trivial ?_
                      refine vcall 6 rfl (by kernel_rfl) (out_Num _ _ _ (by first | omega | (have := hrl (by assumption); omega) | (simp [outNum, outRaw, numB_len, numK] <;> omega) | (have := hrl (by assumption); simp [outNum, outRaw, numB_len, numK] <;> omega))) rfl rfl fun w78 => ?_
                      have := outNum_len (outText (outNum (outNum (⟨[], 0⟩ : Out) d.kind 1) d.tick 8) d.name) d.id 8
                      refine gov tbv16ok [7, 8, 9] 2 rfl (by kernel_rfl) rfl rfl trivial ?_
                      refine vcall 10 rfl (by kernel_rfl) (out_Num _ _ _ (by first | omega | (have := hrl (by assumption); omega) | (simp [outNum, outRaw, numB_len, numK] <;> omega) | (have := hrl (by assumption); simp [outNum, outRaw, numB_len, numK] <;> omega))) rfl rfl fun w79 => ?_
                      have := outNum_len (outNum (outText (outNum (outNum (⟨[], 0⟩ : Out) d.kind 1) d.tick 8) d.name) d.id 8) d.how 1
                      refine vt 11 rfl (by kernel_rfl) (by kernel_rfl) (storeA tbv16ok rfl rfl rfl rfl rfl rfl rfl rfl rfl rfl ?_)
                      refine vdone (by kernel_rfl) ?_
                      refine go tbv16ok 5 rfl rfl trivial ?_
                      refine call (out_String _) rfl rfl fun w80 => ?_
                      refine go tbv16ok 5 rfl rfl trivial ?_
                      refine rt2 rfl rfl ?_
                      refine ple ?_
                      have e : deedBytes d = (outNum (outNum (outText (outNum (outNum (⟨[], 0⟩ : Out) d.kind 1) d.tick 8) d.name) d.id 8) d.how 1).s := by
                        unfold deedBytes
                        first
                          | (rw [if_neg (by assumption)]; done)
                          | (rw [if_pos (by assumption)]; unfold deedOut; (repeat (first | rw [if_pos (by omega)] | rw [if_neg (by omega)] | rw [if_pos (by assumption)] | rw [if_neg (by assumption)] | rw [if_neg (not_not_intro (by assumption))])); first | done | rfl)
                      rw [e]
                      try (rw [show deedE d = 0 by assumption])
                    · have p81 := df h75
                      refine go tbv16ok 6 rfl rfl trivial ?_
                      refine cnd rfl (fun h82 => ?_) (fun h82 => ?_)
                      · have p83 := dt h82
                        refine any [2, 3, 4, 5, 6, 7] 11 mixd rfl ?_
                        refine gov tbv16ok [0, 1, 2, 3] 7 rfl (by kernel_rfl) rfl rfl trivial ?_
                        refine vcall 4 rfl (by kernel_rfl) (out_Num _ _ _ (by first | omega | (have := hrl (by assumption); omega) | (simp [outNum, outRaw, numB_len, numK] <;> omega) | (have := hrl (by assumption); simp [outNum, outRaw, numB_len, numK] <;> omega))) rfl rfl fun w84 => ?_
                        have := outNum_len (outNum (outNum (⟨[], 0⟩ : Out) d.kind 1) d.tick 8) d.frm 1
                        refine gov tbv16ok [5, 6] 4 rfl (by kernel_rfl) rfl rfl trivial ?_
                        refine vcall 7 rfl (by kernel_rfl) (out_Num _ _ _ (by first | omega | (have := hrl (by assumption); omega) | (simp [outNum, outRaw, numB_len, numK] <;> omega) | (have := hrl (by assumption); simp [outNum, outRaw, numB_len, numK] <;> omega))) rfl rfl fun w85 => ?_
                        have := outNum_len (outNum (outNum (outNum (⟨[], 0⟩ : Out) d.kind 1) d.tick 8) d.frm 1) d.number 8
                        refine gov tbv16ok [8] 2 rfl (by kernel_rfl) rfl rfl trivial ?_
                        refine vcall 9 rfl (by kernel_rfl) (out_Raw _ _ (by first | omega | (have := hrl (by assumption); omega) | (simp [outNum, outRaw, numB_len, numK] <;> omega) | (have := hrl (by assumption); simp [outNum, outRaw, numB_len, numK] <;> omega))) rfl rfl fun w86 => ?_
                        have := outRaw_len (outNum (outNum (outNum (outNum (⟨[], 0⟩ : Out) d.kind 1) d.tick 8) d.frm 1) d.number 8) (mailBytes d.mail)
                        refine vt 10 rfl (by kernel_rfl) (by kernel_rfl) (storeA tbv16ok rfl rfl rfl rfl rfl rfl rfl rfl rfl rfl ?_)
                        refine vdone (by kernel_rfl) ?_
                        refine go tbv16ok 5 rfl rfl trivial ?_
                        refine call (out_String _) rfl rfl fun w87 => ?_
                        refine go tbv16ok 5 rfl rfl trivial ?_
                        refine rt2 rfl rfl ?_
                        refine ple ?_
                        have e : deedBytes d = (outRaw (outNum (outNum (outNum (outNum (⟨[], 0⟩ : Out) d.kind 1) d.tick 8) d.frm 1) d.number 8) (mailBytes d.mail)).s := by
                          unfold deedBytes
                          first
                            | (rw [if_neg (by assumption)]; done)
                            | (rw [if_pos (by assumption)]; unfold deedOut; (repeat (first | rw [if_pos (by omega)] | rw [if_neg (by omega)] | rw [if_pos (by assumption)] | rw [if_neg (by assumption)] | rw [if_neg (not_not_intro (by assumption))])); first | done | rfl)
                        rw [e]
                        try (rw [show deedE d = 0 by assumption])
                      · have p88 := df h82
                        refine go tbv16ok 6 rfl rfl trivial ?_
                        refine cnd rfl (fun h89 => ?_) (fun h89 => ?_)
                        · have p90 := dt h89
                          refine any [2, 3, 4, 5, 6, 7] 9 mixd rfl ?_
                          refine gov tbv16ok [0, 1, 2, 3] 5 rfl (by kernel_rfl) rfl rfl trivial ?_
                          refine vcall 4 rfl (by kernel_rfl) (out_Num _ _ _ (by first | omega | (have := hrl (by assumption); omega) | (simp [outNum, outRaw, numB_len, numK] <;> omega) | (have := hrl (by assumption); simp [outNum, outRaw, numB_len, numK] <;> omega))) rfl rfl fun w91 => ?_
                          have := outNum_len (outNum (outNum (⟨[], 0⟩ : Out) d.kind 1) d.tick 8) d.code 1
                          refine gov tbv16ok [5, 6] 2 rfl (by kernel_rfl) rfl rfl trivial ?_
                          refine vcall 7 rfl (by kernel_rfl) (out_Text _ _ (by first | omega | (have := hrl (by assumption); omega) | (simp [outNum, outRaw, numB_len, numK] <;> omega) | (have := hrl (by assumption); simp [outNum, outRaw, numB_len, numK] <;> omega))) rfl rfl fun w92 => ?_
                          have := outText_len (outNum (outNum (outNum (⟨[], 0⟩ : Out) d.kind 1) d.tick 8) d.code 1) d.text
                          refine vt 8 rfl (by kernel_rfl) (by kernel_rfl) (storeA tbv16ok rfl rfl rfl rfl rfl rfl rfl rfl rfl rfl ?_)
                          refine vdone (by kernel_rfl) ?_
                          refine go tbv16ok 5 rfl rfl trivial ?_
                          refine call (out_String _) rfl rfl fun w93 => ?_
                          refine go tbv16ok 5 rfl rfl trivial ?_
                          refine rt2 rfl rfl ?_
                          refine ple ?_
                          have e : deedBytes d = (outText (outNum (outNum (outNum (⟨[], 0⟩ : Out) d.kind 1) d.tick 8) d.code 1) d.text).s := by
                            unfold deedBytes
                            first
                              | (rw [if_neg (by assumption)]; done)
                              | (rw [if_pos (by assumption)]; unfold deedOut; (repeat (first | rw [if_pos (by omega)] | rw [if_neg (by omega)] | rw [if_pos (by assumption)] | rw [if_neg (by assumption)] | rw [if_neg (not_not_intro (by assumption))])); first | done | rfl)
                          rw [e]
                          try (rw [show deedE d = 0 by assumption])
                        · have p94 := df h89
                          refine go tbv16ok 6 rfl rfl trivial ?_
                          refine call (out_String _) rfl rfl fun w95 => ?_
                          refine go tbv16ok 5 rfl rfl trivial ?_
                          refine rt2 rfl rfl ?_
                          refine ple ?_
                          have e : deedBytes d = (outNum (outNum (⟨[], 0⟩ : Out) d.kind 1) d.tick 8).s := by
                            unfold deedBytes
                            first
                              | (rw [if_neg (by assumption)]; done)
                              | (rw [if_pos (by assumption)]; unfold deedOut; (repeat (first | rw [if_pos (by omega)] | rw [if_neg (by omega)] | rw [if_pos (by assumption)] | rw [if_neg (by assumption)] | rw [if_neg (not_not_intro (by assumption))])); first | done | rfl)
                          rw [e]
                          try (rw [show deedE d = 0 by assumption])
end Go.SW.V
set_option linter.unusedVariables false
set_option maxRecDepth 100000
set_option maxHeartbeats 4000000
namespace Go.SW.V
open Go.SW Go.Proofs
end Go.SW.V
set_option linter.unusedVariables false
set_option maxRecDepth 100000
set_option maxHeartbeats 4000000
namespace Go.SW.V
open Go.SW Go.Proofs
end Go.SW.V
set_option linter.unusedVariables false
set_option maxRecDepth 100000
set_option maxHeartbeats 4000000
namespace Go.SW.V
open Go.SW Go.Proofs
end Go.SW.V
set_option linter.unusedVariables false
set_option maxRecDepth 100000
set_option maxHeartbeats 4000000
namespace Go.SW.V
open Go.SW Go.Proofs
end Go.SW.V
set_option linter.unusedVariables false
set_option maxRecDepth 100000
set_option maxHeartbeats 4000000
namespace Go.SW.V
open Go.SW Go.Proofs
theorem cb148 : Callable Tryz.prog 148 := callable_of Tryz.func148 (by kernel_rfl) (by kernel_rfl)
theorem cb152 : Callable Tryz.prog 152 := callable_of Tryz.func152 (by kernel_rfl) (by kernel_rfl)
theorem cb168 : Callable Tryz.prog 168 := callable_of Tryz.func168 (by kernel_rfl) (by kernel_rfl)
theorem cb172 : Callable Tryz.prog 172 := callable_of Tryz.func172 (by kernel_rfl) (by kernel_rfl)
def tbv22 : Tb := [(4, ⟨.bool, 1, 1, [.bool false]⟩),
  (5, ⟨.int .u8, 1, 1, [.int .u8 0]⟩),
  (9, ⟨.str, 1, 16, [.str []]⟩),
  (47, ⟨.slc 139, 1, 24, [.sl Pair.pc []]⟩),
  (139, ⟨.agg [(0, 1), (1, 1), (2, 1), (3, 1)], 4, 48, [.str [], .int .u8 0, .int .i64 0, .str []]⟩),
  (206, ⟨.agg [(0, 1), (1, 1), (2, 1), (3, 1)], 4, 56, [.int .u8 0, .str [], .sl Pair.pc [], .bool false]⟩)]
theorem tbv22ok : tbB Tryz.prog tbv22 = true := by kernel_rfl
theorem rule_Check (r : Rule) : Fn Tryz.prog gb 148 [.agg (Rule.pc r)] (.int .i64 (ruleE r)) := by
  refine fn_cw tbv22ok Tryz.func148 rfl Tryz.ntmps148 rfl cb148 rfl rfl fun w N H hG => ?_
  have r_w := Rule.pwf w.1
  have r_w' := r_w
  simp only [Rule.wf] at r_w'
  have r_want_k := Rule.kd2 w.1
  have r_want_k2 : r.want.length ≤ 140737488355328 := w.1.2.2.1.1
  refine go tbv22ok 2 rfl rfl trivial ?_
  refine ef (boxA 0 rfl rfl rfl fun b1 => ?_)
  refine go tbv22ok 18 rfl rfl trivial ?_
  refine cnd rfl (fun h2 => ?_) (fun h2 => ?_)
  · have p3 := dt h2
    refine go tbv22ok 8 rfl rfl trivial ?_
    refine rt1 rfl rfl ?_
    refine ple ?_
    refine congrArg (PV.int .i64) ?_
    (try simp only [Bool.or_eq_true, Bool.and_eq_true, Bool.not_eq_true', decide_eq_true_eq, Bool.or_eq_false_iff, Bool.and_eq_false_iff, Bool.not_eq_false', decide_eq_false_iff_not, beq_iff_eq, beq_eq_false_iff_ne] at *)
    unfold ruleE
    repeat (first | rw [if_pos (by omega)] | rw [if_neg (by omega)])
    all_goals first | done | rfl | omega
  · have p4 := df h2
    refine go tbv22ok 8 rfl rfl trivial ?_
    refine cnd rfl (fun h5 => ?_) (fun h5 => ?_)
    · have p6 := dt h5
      refine go tbv22ok 3 rfl rfl trivial ?_
      refine call (words_Key _) rfl rfl fun w7 => ?_
      refine go tbv22ok 11 rfl rfl trivial ?_
      refine cnd rfl (fun h8 => ?_) (fun h8 => ?_)
      · have h9 := not_t h8
        have p10 := df h9
        refine go tbv22ok 8 rfl rfl trivial ?_
        refine rt1 rfl rfl ?_
        refine ple ?_
        refine congrArg (PV.int .i64) ?_
        (try simp only [Bool.or_eq_true, Bool.and_eq_true, Bool.not_eq_true', decide_eq_true_eq, Bool.or_eq_false_iff, Bool.and_eq_false_iff, Bool.not_eq_false', decide_eq_false_iff_not, beq_iff_eq, beq_eq_false_iff_ne] at *)
        unfold ruleE
        repeat (first | rw [if_pos (by omega)] | rw [if_neg (by omega)])
        all_goals first | done | rfl | omega
      · have h11 := not_f h8
        have p12 := dt h11
        refine go tbv22ok 6 rfl rfl trivial ?_
        refine call (head_Check _) rfl rfl fun w13 => ?_
        refine go tbv22ok 4 rfl rfl trivial ?_
        refine rt1 rfl rfl ?_
        refine ple ?_
        refine congrArg (PV.int .i64) ?_
        (try simp only [Bool.or_eq_true, Bool.and_eq_true, Bool.not_eq_true', decide_eq_true_eq, Bool.or_eq_false_iff, Bool.and_eq_false_iff, Bool.not_eq_false', decide_eq_false_iff_not, beq_iff_eq, beq_eq_false_iff_ne] at *)
        unfold ruleE
        repeat (first | rw [if_pos (by omega)] | rw [if_neg (by omega)])
        all_goals first | done | rfl | omega
    · have p14 := df h5
      refine go tbv22ok 3 rfl rfl trivial ?_
      refine call (words_Pattern _) rfl rfl fun w15 => ?_
      refine go tbv22ok 11 rfl rfl trivial ?_
      refine cnd rfl (fun h16 => ?_) (fun h16 => ?_)
      · have h17 := not_t h16
        have p18 := df h17
        refine go tbv22ok 8 rfl rfl trivial ?_
        refine rt1 rfl rfl ?_
        refine ple ?_
        refine congrArg (PV.int .i64) ?_
        (try simp only [Bool.or_eq_true, Bool.and_eq_true, Bool.not_eq_true', decide_eq_true_eq, Bool.or_eq_false_iff, Bool.and_eq_false_iff, Bool.not_eq_false', decide_eq_false_iff_not, beq_iff_eq, beq_eq_false_iff_ne] at *)
        unfold ruleE
        repeat (first | rw [if_pos (by omega)] | rw [if_neg (by omega)])
        all_goals first | done | rfl | omega
      · have h19 := not_f h16
        have p20 := dt h19
        refine go tbv22ok 6 rfl rfl trivial ?_
        refine call (head_Check _) rfl rfl fun w21 => ?_
        refine go tbv22ok 4 rfl rfl trivial ?_
        refine rt1 rfl rfl ?_
        refine ple ?_
        refine congrArg (PV.int .i64) ?_
        (try simp only [Bool.or_eq_true, Bool.and_eq_true, Bool.not_eq_true', decide_eq_true_eq, Bool.or_eq_false_iff, Bool.and_eq_false_iff, Bool.not_eq_false', decide_eq_false_iff_not, beq_iff_eq, beq_eq_false_iff_ne] at *)
        unfold ruleE
        repeat (first | rw [if_pos (by omega)] | rw [if_neg (by omega)])
        all_goals first | done | rfl | omega
theorem rule_heads (r : Rule) (h : List Pair) : Fn Tryz.prog gb 168 [.agg (Rule.pc r), .sl Pair.pc h] (.bool (headsGo r.all h r.want)) := by
  refine fn_cw tbv22ok Tryz.func168 rfl Tryz.ntmps168 rfl cb168 rfl rfl fun w N H hG => ?_
  have r_want_l : r.want.length ≤ 140737488355328 := w.1.2.2.1.1
  have h_l : h.length ≤ 140737488355328 := w.2.1.1
  refine go tbv22ok 2 rfl rfl trivial ?_
  refine ef (boxA 0 rfl rfl rfl fun b1 => ?_)
  refine go tbv22ok 17 rfl rfl trivial ?_
  refine loop (ι := Nat) [0, 1, 2, 10, 11, 12] [0] (fun k => [(13, .int .i64 (k : Int))]) (fun k => []) (fun k => k ≤ r.want.length ∧ headsGo r.all h r.want = headsGo r.all h (r.want.drop k)) (fun k => r.want.length - k) 0 ⟨rfl, trivial⟩ trivial ?_ ?_
  · exact ⟨Nat.zero_le _, rfl⟩
  · rintro k hp2
    obtain ⟨hk1, hk2⟩ := hp2
    refine go tbv22ok 6 rfl rfl trivial ?_
    refine cnd rfl (fun h3 => ?_) (fun h3 => ?_)
    · have p4 := dt h3
      obtain ⟨c5, hc6⟩ := getE (xs := r.want) (m := k) (by omega)
      have c5_w := Pair.pwf (w.1.2.2.1.2 c5 (List.mem_of_getElem? hc6))
      refine go tbv22ok 6 rfl rfl trivial ?_
      refine q1 (qidx tbv22ok k rfl rfl rfl hc6 rfl rfl rfl rfl) rfl fun w7 => ?_
      refine go tbv22ok 1 rfl rfl trivial ?_
      refine ef (alloc tbv22ok 1 rfl rfl rfl rfl fun b8 => ?_)
      refine ef (storeA tbv22ok rfl rfl rfl rfl rfl rfl rfl rfl rfl rfl ?_)
      refine go tbv22ok 7 rfl rfl trivial ?_
      refine call (head_Find _ _) rfl rfl fun w9 => ?_
      refine go tbv22ok 3 rfl rfl trivial ?_
      refine ef (alloc tbv22ok 2 rfl rfl rfl rfl fun b10 => ?_)
      refine ef (storeA tbv22ok rfl rfl rfl rfl rfl rfl rfl rfl rfl rfl ?_)
      refine go tbv22ok 9 rfl rfl trivial ?_
      refine q1g [26, 27] rfl (fun hc => saeq rfl rfl eqg139 (veq139 ((findP h c5.key).getD Pair.zero) c5)) ⟨(fun hc => hc), (fun hc => hc), trivial⟩ rfl rfl rfl fun _ => ?_
      refine go tbv22ok 15 rfl rfl ⟨rfl, rfl, (fun hc => hc), rfl, rfl, trivial⟩ ?_
      refine cnd rfl (fun h11 => ?_) (fun h11 => ?_)
      · have h12 := bl h11
        have h13 := bl h12
        have h14 := br h12
        have p15 := dt h14
        have h16 := br h11
        refine go tbv22ok 8 rfl rfl ⟨(by omega), trivial⟩ ?_
        refine next (k + 1) rfl rfl ⟨rfl, trivial⟩ trivial ?_ ?_
        · omega
        · refine ⟨by omega, ?_⟩
          rw [hk2, dropE hc6]
          simp only [headsGo]
          first | (simp only [hasP]; simp [*]; done) | (unfold hasP; simp_all; done) | (unfold hasP; grind)
      · refine go tbv22ok 6 rfl rfl trivial ?_
        refine cnd rfl (fun h17 => ?_) (fun h17 => ?_)
        · have h18 := bl h17
          have h19 := br h17
          have p20 := dt h19
          refine go tbv22ok 13 rfl rfl trivial ?_
          refine rt1 rfl rfl ?_
          refine ple ?_
          refine congrArg PV.bool ?_
          rw [hk2, dropE hc6]
          simp only [headsGo]
          first | (simp only [hasP]; simp [*]; done) | (unfold hasP; simp_all; done) | (unfold hasP; grind)
        · refine go tbv22ok 7 rfl rfl trivial ?_
          refine cnd rfl (fun h21 => ?_) (fun h21 => ?_)
          · refine go tbv22ok 13 rfl rfl trivial ?_
            refine rt1 rfl rfl ?_
            refine ple ?_
            refine congrArg PV.bool ?_
            rw [hk2, dropE hc6]
            simp only [headsGo]
            first | (simp only [hasP]; simp [*]; done) | (unfold hasP; simp_all; done) | (unfold hasP; grind)
          · refine go tbv22ok 8 rfl rfl ⟨(by omega), trivial⟩ ?_
            refine next (k + 1) rfl rfl ⟨rfl, trivial⟩ trivial ?_ ?_
            · omega
            · refine ⟨by omega, ?_⟩
              rw [hk2, dropE hc6]
              simp only [headsGo]
              first | (simp only [hasP]; simp [*]; done) | (unfold hasP; simp_all; done) | (unfold hasP; grind)
    · have p22 := df h3
      refine go tbv22ok 14 rfl rfl trivial ?_
      refine rt1 rfl rfl ?_
      refine ple ?_
      refine congrArg PV.bool ?_
      rw [hk2, List.drop_of_length_le (by omega)]
      rfl
theorem rule_Goes (r : Rule) (key : Bs) (h : List Pair) (hrk : r.key.length < 4294967281) (hk : key.length < 4294967281) : Fn Tryz.prog gb 152 [.agg (Rule.pc r), .str key, .sl Pair.pc h] (.bool (goesR r key h)) := by
  refine fn_cw tbv22ok Tryz.func152 rfl Tryz.ntmps152 rfl cb152 rfl rfl fun w N H hG => ?_
  have r_want_l : r.want.length ≤ 140737488355328 := w.1.2.2.1.1
  have key_l : key.length ≤ 9223372036854775807 := w.2.1
  have h_l : h.length ≤ 140737488355328 := w.2.2.1.1
  refine go tbv22ok 2 rfl rfl trivial ?_
  refine ef (boxA 0 rfl rfl rfl fun b1 => ?_)
  refine go tbv22ok 17 rfl rfl trivial ?_
  refine cnd rfl (fun h2 => ?_) (fun h2 => ?_)
  · have p3 := dt h2
    refine go tbv22ok 12 rfl rfl trivial ?_
    refine rt1 rfl rfl ?_
    refine ple ?_
    refine congrArg PV.bool ?_
    first | (simp [goesR, *]; done) | (simp [goesR, *]; omega)
  · have p4 := df h2
    refine go tbv22ok 6 rfl rfl trivial ?_
    refine cnd rfl (fun h5 => ?_) (fun h5 => ?_)
    · have p6 := dt h5
      refine go tbv22ok 5 rfl rfl trivial ?_
      refine call (words_Matches _ _ (by first | omega | (simp; done) | decide) (by first | omega | (simp; done) | decide)) rfl rfl fun w7 => ?_
      refine go tbv22ok 6 rfl rfl trivial ?_
      refine rt1 rfl rfl ?_
      refine ple ?_
      refine congrArg PV.bool ?_
      first | (simp [goesR, *]; done) | (simp [goesR, *]; omega)
    · have p8 := df h5
      refine go tbv22ok 6 rfl rfl trivial ?_
      refine cnd rfl (fun h9 => ?_) (fun h9 => ?_)
      · have p10 := dt h9
        refine go tbv22ok 4 rfl rfl trivial ?_
        refine call (rule_heads _ _) rfl rfl fun w11 => ?_
        refine go tbv22ok 6 rfl rfl trivial ?_
        refine rt1 rfl rfl ?_
        refine ple ?_
        refine congrArg PV.bool ?_
        first | (simp [goesR, *]; done) | (simp [goesR, *]; omega)
      · have p12 := df h9
        refine go tbv22ok 9 rfl rfl trivial ?_
        refine rt1 rfl rfl ?_
        refine ple ?_
        refine congrArg PV.bool ?_
        first | (simp [goesR, *]; done) | (simp [goesR, *]; omega)
theorem match_Same (a : Rule) (b : Rule) : Fn Tryz.prog gb 172 [.agg (Rule.pc a), .agg (Rule.pc b)] (.bool (decide (a = b))) := by
  refine fn_cw tbv22ok Tryz.func172 rfl Tryz.ntmps172 rfl cb172 rfl rfl fun w N H hG => ?_
  have a_want_l : a.want.length ≤ 140737488355328 := w.1.2.2.1.1
  have b_want_l : b.want.length ≤ 140737488355328 := w.2.1.2.2.1.1
  refine go tbv22ok 2 rfl rfl trivial ?_
  refine ef (boxA 0 rfl rfl rfl fun b1 => ?_)
  refine ef (boxA 1 rfl rfl rfl fun b2 => ?_)
  refine go tbv22ok 29 rfl rfl ⟨(fun hc => hc), (fun hc => hc), (fun hc => hc), (fun hc => hc), rfl, rfl, (fun hc => hc), (fun hc => hc), (fun hc => hc), (fun hc => hc), rfl, rfl, (fun hc => hc), (fun hc => hc), trivial⟩ ?_
  refine callg rfl (fun hc => (eq_Pair _ _)) rfl ⟨(fun hc => hc), (fun hc => hc), trivial⟩ rfl rfl fun _ => ?_
  refine go tbv22ok 5 rfl rfl ⟨rfl, rfl, trivial⟩ ?_
  refine rt1 rfl rfl ?_
  refine ple ?_
  exact congrArg PV.bool (by rw [Bool.eq_iff_iff]; first | (simp [Rule.eq_iff, and_assoc]; done) | (simp [Rule.eq_iff]; grind))
end Go.SW.V
set_option linter.unusedVariables false
set_option maxRecDepth 100000
set_option maxHeartbeats 4000000
namespace Go.SW.V
open Go.SW Go.Proofs
theorem cb138 : Callable Tryz.prog 138 := callable_of Tryz.func138 (by kernel_rfl) (by kernel_rfl)
theorem cb144 : Callable Tryz.prog 144 := callable_of Tryz.func144 (by kernel_rfl) (by kernel_rfl)
theorem cb145 : Callable Tryz.prog 145 := callable_of Tryz.func145 (by kernel_rfl) (by kernel_rfl)
theorem cb169 : Callable Tryz.prog 169 := callable_of Tryz.func169 (by kernel_rfl) (by kernel_rfl)
theorem cb173 : Callable Tryz.prog 173 := callable_of Tryz.func173 (by kernel_rfl) (by kernel_rfl)
def tbv23 : Tb := [(5, ⟨.int .u8, 1, 1, [.int .u8 0]⟩),
  (9, ⟨.str, 1, 16, [.str []]⟩),
  (44, ⟨.agg [(0, 1), (1, 1), (2, 1)], 3, 40, [.str [], .int .u8 0, .str []]⟩),
  (146, ⟨.slc 9, 1, 24, [.sl strc []]⟩),
  (188, ⟨.slc 44, 1, 24, [.sl ShopR.pc []]⟩),
  (191, ⟨.agg [(0, 1), (1, 1)], 2, 48, [.sl ShopR.pc [], .sl BindR.pc []]⟩)]
theorem tbv23ok : tbB Tryz.prog tbv23 = true := by kernel_rfl
theorem eq_Str (a : List Bs) (b : List Bs) : Fn Tryz.prog gb 138 [.sl strc a, .sl strc b] (.bool (decide (a = b))) := by
  refine fn_cw tbv23ok Tryz.func138 rfl Tryz.ntmps138 rfl cb138 rfl rfl fun w N H hG => ?_
  have a_l : a.length ≤ 140737488355328 := w.1.1
  have b_l : b.length ≤ 140737488355328 := w.2.1.1
  refine go tbv23ok 15 rfl rfl trivial ?_
  refine cnd rfl (fun h1 => ?_) (fun h1 => ?_)
  · have h2 := not_t h1
    have p3 := df h2
    refine go tbv23ok 7 rfl rfl trivial ?_
    refine rt1 rfl rfl ?_
    refine ple ?_
    exact congrArg PV.bool (eqL_len (by assumption)).symm
  · have h4 := not_f h1
    have p5 := dt h4
    refine go tbv23ok 11 rfl rfl trivial ?_
    refine loop (ι := Nat) [0, 1, 6, 7, 8, 9, 10, 11, 12] [] (fun k => [(13, .int .i64 (k : Int))]) (fun k => []) (fun k => k ≤ a.length ∧ decide (a = b) = decide (a.drop k = b.drop k)) (fun k => a.length - k) 0 ⟨rfl, trivial⟩ trivial ?_ ?_
    · exact ⟨Nat.zero_le _, rfl⟩
    · rintro k hp6
      obtain ⟨hk1, hk2⟩ := hp6
      refine go tbv23ok 6 rfl rfl trivial ?_
      refine cnd rfl (fun h7 => ?_) (fun h7 => ?_)
      · have p8 := dt h7
        refine go tbv23ok 11 rfl rfl trivial ?_
        refine any [0, 1, 2, 3, 4, 5] 9 mixd rfl ?_
        refine gov tbv23ok [0, 1] 7 rfl (by kernel_rfl) rfl rfl trivial ?_
        obtain ⟨c9, hc10⟩ := getE (xs := a) (m := k) (by omega)
        have c9_l : c9.length ≤ 9223372036854775807 := (w.1.2 c9 (List.mem_of_getElem? hc10)).1
        refine vq 2 (qidx tbv23ok k rfl rfl rfl hc10 rfl rfl rfl rfl) rfl (by kernel_rfl) rfl fun w11 => ?_
        refine gov tbv23ok [3, 4, 5] 3 rfl (by kernel_rfl) rfl rfl trivial ?_
        obtain ⟨c12, hc13⟩ := getE (xs := b) (m := k) (by omega)
        have c12_l : c12.length ≤ 9223372036854775807 := (w.2.1.2 c12 (List.mem_of_getElem? hc13)).1
        refine vq 6 (qidx tbv23ok k rfl rfl rfl hc13 rfl rfl rfl rfl) rfl (by kernel_rfl) rfl fun w14 => ?_
        refine gov tbv23ok [7, 8] 0 rfl (by kernel_rfl) rfl rfl trivial ?_
        refine vdone (by kernel_rfl) ?_
        refine go tbv23ok 1 rfl rfl trivial ?_
        refine cnd rfl (fun h15 => ?_) (fun h15 => ?_)
        · have h16 := not_t h15
          have p17 := df h16
          refine go tbv23ok 11 rfl rfl trivial ?_
          refine rt1 rfl rfl ?_
          refine ple ?_
          exact congrArg PV.bool (eqL_miss hk2 (dropE hc10) (dropE hc13) (by assumption)).symm
        · have h18 := not_f h15
          have p19 := dt h18
          refine go tbv23ok 7 rfl rfl ⟨(by omega), trivial⟩ ?_
          refine next (k + 1) rfl rfl ⟨rfl, trivial⟩ trivial ?_ ?_
          · omega
          · exact ⟨by omega, eqL_step hk2 (dropE hc10) (dropE hc13) (by assumption)⟩
      · have p20 := df h7
        refine go tbv23ok 11 rfl rfl trivial ?_
        refine rt1 rfl rfl ?_
        refine ple ?_
        exact congrArg PV.bool (eqL_end hk2 (by omega) (by omega)).symm
theorem index_Str (l : List Bs) (x : Bs) : Fn Tryz.prog gb 173 [.sl strc l, .str x] (.int .i64 (idxP (fun y => decide (x = y)) l)) := by
  refine fn_cw tbv23ok Tryz.func173 rfl Tryz.ntmps173 rfl cb173 rfl rfl fun w N H hG => ?_
  have l_l : l.length ≤ 140737488355328 := w.1.1
  have x_l : x.length ≤ 9223372036854775807 := w.2.1
  refine go tbv23ok 14 rfl rfl trivial ?_
  refine loop (ι := Nat) [0, 1, 6, 7] [] (fun k => [(8, .int .i64 (k : Int))]) (fun k => []) (fun k => k ≤ l.length ∧ idxP (fun y => decide (x = y)) l = idxF (fun y => decide (x = y)) k (l.drop k)) (fun k => l.length - k) 0 ⟨rfl, trivial⟩ trivial ?_ ?_
  · exact ⟨Nat.zero_le _, rfl⟩
  · rintro k hp1
    obtain ⟨hik1, hik2⟩ := hp1
    refine go tbv23ok 6 rfl rfl trivial ?_
    refine cnd rfl (fun h2 => ?_) (fun h2 => ?_)
    · have p3 := dt h2
      obtain ⟨c4, hc5⟩ := getE (xs := l) (m := k) (by omega)
      have c4_l : c4.length ≤ 9223372036854775807 := (w.1.2 c4 (List.mem_of_getElem? hc5)).1
      refine go tbv23ok 15 rfl rfl trivial ?_
      refine q1 (qidx tbv23ok k rfl rfl rfl hc5 rfl rfl rfl rfl) rfl fun w6 => ?_
      refine go tbv23ok 4 rfl rfl trivial ?_
      refine cnd rfl (fun h7 => ?_) (fun h7 => ?_)
      · have p8 := dt h7
        refine go tbv23ok 12 rfl rfl trivial ?_
        refine rt1 rfl rfl ?_
        refine ple ?_
        exact congrArg (PV.int .i64) (idx_hit hik2 (dropE hc5) (by first | assumption | (simp [*]; done))).symm
      · have p9 := df h7
        refine go tbv23ok 7 rfl rfl ⟨(by omega), trivial⟩ ?_
        refine next (k + 1) rfl rfl ⟨rfl, trivial⟩ trivial ?_ ?_
        · omega
        · exact ⟨by omega, idx_miss hik2 (dropE hc5) (by assumption)⟩
    · have p10 := df h2
      refine go tbv23ok 11 rfl rfl trivial ?_
      refine rt1 rfl rfl ?_
      refine ple ?_
      exact congrArg (PV.int .i64) (idx_end hik2 (by omega)).symm
theorem contains_Str (l : List Bs) (x : Bs) : Fn Tryz.prog gb 169 [.sl strc l, .str x] (.bool (decide (x ∈ l))) := by
  refine fn_cw tbv23ok Tryz.func169 rfl Tryz.ntmps169 rfl cb169 rfl rfl fun w N H hG => ?_
  have l_l : l.length ≤ 140737488355328 := w.1.1
  have x_l : x.length ≤ 9223372036854775807 := w.2.1
  refine go tbv23ok 9 rfl rfl trivial ?_
  refine call (index_Str _ _) rfl rfl fun w1 => ?_
  have := idxP_r (fun y => decide (x = y)) l
  refine go tbv23ok 5 rfl rfl trivial ?_
  refine rt1 rfl rfl ?_
  refine ple ?_
  refine congrArg PV.bool ?_
  rw [Bool.eq_iff_iff, decide_eq_true_eq, decide_eq_true_eq, idxP_any]
  simp
theorem shop_check (x : ShopR) : Fn Tryz.prog gb 144 [.agg (ShopR.pc x)] (.int .i64 (shopE x)) := by
  refine fn_cw tbv23ok Tryz.func144 rfl Tryz.ntmps144 rfl cb144 rfl rfl fun w N H hG => ?_
  refine go tbv23ok 2 rfl rfl trivial ?_
  refine ef (boxA 0 rfl rfl rfl fun b1 => ?_)
  refine go tbv23ok 8 rfl rfl trivial ?_
  refine call (words_Name _) rfl rfl fun w2 => ?_
  refine go tbv23ok 9 rfl rfl trivial ?_
  refine cnd rfl (fun h3 => ?_) (fun h3 => ?_)
  · have h4 := not_t h3
    have p5 := df h4
    refine go tbv23ok 8 rfl rfl trivial ?_
    refine rt1 rfl rfl ?_
    refine ple ?_
    refine congrArg (PV.int .i64) ?_
    simp only [Bool.or_eq_true, Bool.and_eq_true, Bool.not_eq_true', decide_eq_true_eq, Bool.or_eq_false_iff, Bool.and_eq_false_iff, Bool.not_eq_false', decide_eq_false_iff_not, beq_iff_eq, beq_eq_false_iff_ne] at *
    unfold shopE
    (repeat' split) <;> first | rfl | (exfalso; omega) | (exfalso; simp_all; done) | (exfalso; simp_all; omega) | grind
  · have h6 := not_f h3
    have p7 := dt h6
    refine go tbv23ok 12 rfl rfl trivial ?_
    refine cnd rfl (fun h8 => ?_) (fun h8 => ?_)
    · have p9 := dt h8
      refine go tbv23ok 8 rfl rfl trivial ?_
      refine rt1 rfl rfl ?_
      refine ple ?_
      refine congrArg (PV.int .i64) ?_
      simp only [Bool.or_eq_true, Bool.and_eq_true, Bool.not_eq_true', decide_eq_true_eq, Bool.or_eq_false_iff, Bool.and_eq_false_iff, Bool.not_eq_false', decide_eq_false_iff_not, beq_iff_eq, beq_eq_false_iff_ne] at *
      unfold shopE
      (repeat' split) <;> first | rfl | (exfalso; omega) | (exfalso; simp_all; done) | (exfalso; simp_all; omega) | grind
    · have p10 := df h8
      refine go tbv23ok 8 rfl rfl trivial ?_
      refine cnd rfl (fun h11 => ?_) (fun h11 => ?_)
      · have p12 := dt h11
        refine go tbv23ok 4 rfl rfl trivial ?_
        refine call (words_Name _) rfl rfl fun w13 => ?_
        refine go tbv23ok 6 rfl rfl trivial ?_
        refine rt1 rfl rfl ?_
        refine ple ?_
        refine congrArg (PV.int .i64) ?_
        simp only [Bool.or_eq_true, Bool.and_eq_true, Bool.not_eq_true', decide_eq_true_eq, Bool.or_eq_false_iff, Bool.and_eq_false_iff, Bool.not_eq_false', decide_eq_false_iff_not, beq_iff_eq, beq_eq_false_iff_ne] at *
        unfold shopE
        (repeat' split) <;> first | rfl | (exfalso; omega) | (exfalso; simp_all; done) | (exfalso; simp_all; omega) | grind
      · have p14 := df h11
        refine go tbv23ok 8 rfl rfl trivial ?_
        refine cnd rfl (fun h15 => ?_) (fun h15 => ?_)
        · have h16 := not_t h15
          have p17 := df h16
          refine go tbv23ok 8 rfl rfl trivial ?_
          refine rt1 rfl rfl ?_
          refine ple ?_
          refine congrArg (PV.int .i64) ?_
          simp only [Bool.or_eq_true, Bool.and_eq_true, Bool.not_eq_true', decide_eq_true_eq, Bool.or_eq_false_iff, Bool.and_eq_false_iff, Bool.not_eq_false', decide_eq_false_iff_not, beq_iff_eq, beq_eq_false_iff_ne] at *
          unfold shopE
          (repeat' split) <;> first | rfl | (exfalso; omega) | (exfalso; simp_all; done) | (exfalso; simp_all; omega) | grind
        · have h18 := not_f h15
          have p19 := dt h18
          refine go tbv23ok 9 rfl rfl trivial ?_
          refine rt1 rfl rfl ?_
          refine ple ?_
          refine congrArg (PV.int .i64) ?_
          simp only [Bool.or_eq_true, Bool.and_eq_true, Bool.not_eq_true', decide_eq_true_eq, Bool.or_eq_false_iff, Bool.and_eq_false_iff, Bool.not_eq_false', decide_eq_false_iff_not, beq_iff_eq, beq_eq_false_iff_ne] at *
          unfold shopE
          (repeat' split) <;> first | rfl | (exfalso; omega) | (exfalso; simp_all; done) | (exfalso; simp_all; omega) | grind
theorem book_Shop (b : BookR) (name : Bs) : Fn Tryz.prog gb 145 [.agg (BookR.pc b), .str name] (.tup [.agg (ShopR.pc ((shopOf b.shops name).getD ShopR.zero)), .bool ((shopOf b.shops name).isSome)]) := by
  refine fn_cw tbv23ok Tryz.func145 rfl Tryz.ntmps145 rfl cb145 rfl rfl fun w N H hG => ?_
  have b_shops_l : b.shops.length ≤ 140737488355328 := w.1.1.1
  have b_binds_l : b.binds.length ≤ 140737488355328 := w.1.2.1.1
  have name_l : name.length ≤ 9223372036854775807 := w.2.1
  refine go tbv23ok 2 rfl rfl trivial ?_
  refine ef (boxA 0 rfl rfl rfl fun b1 => ?_)
  refine ef (alloc tbv23ok 1 rfl rfl rfl rfl fun b2 => ?_)
  refine go tbv23ok 13 rfl rfl trivial ?_
  refine loop (ι := Nat) [0, 1, 2, 4, 8, 9, 10] [0, 1] (fun k => [(11, .int .i64 (k : Int))]) (fun k => []) (fun k => k ≤ b.shops.length ∧ shopOf b.shops name = shopOf (b.shops.drop k) name) (fun k => b.shops.length - k) 0 ⟨rfl, trivial⟩ trivial ?_ ?_
  · exact ⟨Nat.zero_le _, rfl⟩
  · rintro k hp3
    obtain ⟨hk1, hk2⟩ := hp3
    refine go tbv23ok 6 rfl rfl trivial ?_
    refine cnd rfl (fun h4 => ?_) (fun h4 => ?_)
    · have p5 := dt h4
      obtain ⟨c6, hc7⟩ := getE (xs := b.shops) (m := k) (by omega)
      have c6_w := ShopR.pwf (w.1.1.2 c6 (List.mem_of_getElem? hc7))
      refine go tbv23ok 6 rfl rfl trivial ?_
      refine q1 (qidx tbv23ok k rfl rfl rfl hc7 rfl rfl rfl rfl) rfl fun w8 => ?_
      refine go tbv23ok 1 rfl rfl trivial ?_
      refine ef (alloc tbv23ok 2 rfl rfl rfl rfl fun b9 => ?_)
      refine ef (storeA tbv23ok rfl rfl rfl rfl rfl rfl rfl rfl rfl rfl ?_)
      refine go tbv23ok 10 rfl rfl trivial ?_
      refine cnd rfl (fun h10 => ?_) (fun h10 => ?_)
      · have p11 := dt h10
        refine go tbv23ok 3 rfl rfl trivial ?_
        refine ef (storeA tbv23ok rfl rfl rfl rfl rfl rfl rfl rfl rfl rfl ?_)
        refine go tbv23ok 9 rfl rfl trivial ?_
        refine rt2 rfl rfl ?_
        refine ple ?_
        have e := shopOf_hit hk2 (dropE hc7) (by assumption)
        rw [e]
        rfl
      · have p12 := df h10
        refine go tbv23ok 7 rfl rfl ⟨(by omega), trivial⟩ ?_
        refine next (k + 1) rfl rfl ⟨rfl, trivial⟩ trivial ?_ ?_
        · (try simp only []); omega
        · exact ⟨by omega, shopOf_miss hk2 (dropE hc7) (by assumption)⟩
    · have p13 := df h4
      refine go tbv23ok 8 rfl rfl trivial ?_
      refine ef (storeA tbv23ok rfl rfl rfl rfl rfl rfl rfl rfl rfl rfl ?_)
      refine go tbv23ok 4 rfl rfl trivial ?_
      refine rt2 rfl rfl ?_
      refine ple ?_
      rw [List.drop_of_length_le (by omega)] at hk2
      rw [hk2]
      rfl
end Go.SW.V
set_option linter.unusedVariables false
set_option maxRecDepth 100000
set_option maxHeartbeats 4000000
namespace Go.SW.V
open Go.SW Go.Proofs
theorem cb147 : Callable Tryz.prog 147 := callable_of Tryz.func147 (by kernel_rfl) (by kernel_rfl)
theorem cb151 : Callable Tryz.prog 151 := callable_of Tryz.func151 (by kernel_rfl) (by kernel_rfl)
theorem cb164 : Callable Tryz.prog 164 := callable_of Tryz.func164 (by kernel_rfl) (by kernel_rfl)
theorem cb165 : Callable Tryz.prog 165 := callable_of Tryz.func165 (by kernel_rfl) (by kernel_rfl)
theorem cb84 : Callable Tryz.prog 84 := callable_of Tryz.func84 (by kernel_rfl) (by kernel_rfl)
def tbv24 : Tb := [(4, ⟨.bool, 1, 1, [.bool false]⟩),
  (9, ⟨.str, 1, 16, [.str []]⟩),
  (47, ⟨.slc 139, 1, 24, [.sl Pair.pc []]⟩),
  (49, ⟨.agg [(0, 1), (1, 1), (2, 1), (3, 1), (4, 1), (5, 1)], 6, 88, [.str [], .str [], .bool false, .str [], .sl Pair.pc [], .bool false]⟩),
  (139, ⟨.agg [(0, 1), (1, 1), (2, 1), (3, 1)], 4, 48, [.str [], .int .u8 0, .int .i64 0, .str []]⟩),
  (189, ⟨.slc 49, 1, 24, [.sl BindR.pc []]⟩),
  (206, ⟨.agg [(0, 1), (1, 1), (2, 1), (3, 1)], 4, 56, [.int .u8 0, .str [], .sl Pair.pc [], .bool false]⟩)]
theorem tbv24ok : tbB Tryz.prog tbv24 = true := by kernel_rfl
theorem bind_rule (x : BindR) (sort : Int) : Fn Tryz.prog gb 147 [.agg (BindR.pc x), .int .u8 sort] (.agg (Rule.pc (bindRule x sort))) := by
  refine fn_cw tbv24ok Tryz.func147 rfl Tryz.ntmps147 rfl cb147 rfl rfl fun w N H hG => ?_
  have x_want_l : x.want.length ≤ 140737488355328 := w.1.2.2.2.2.1.1
  have sort_r : 0 ≤ sort ∧ sort ≤ 255 := w.2.1
  refine go tbv24ok 2 rfl rfl trivial ?_
  refine ef (boxA 0 rfl rfl rfl fun b1 => ?_)
  refine ef (alloc tbv24ok 1 rfl rfl rfl rfl fun b2 => ?_)
  refine go tbv24ok 12 rfl rfl trivial ?_
  refine ef (storeA tbv24ok rfl rfl rfl rfl rfl rfl rfl rfl rfl rfl ?_)
  refine go tbv24ok 3 rfl rfl trivial ?_
  refine rt1 rfl rfl ?_
  refine ple ?_
  rfl
theorem bind_same (x : BindR) (y : BindR) : Fn Tryz.prog gb 165 [.agg (BindR.pc x), .agg (BindR.pc y)] (.bool (decide (x = y))) := by
  refine fn_cw tbv24ok Tryz.func165 rfl Tryz.ntmps165 rfl cb165 rfl rfl fun w N H hG => ?_
  have x_want_l : x.want.length ≤ 140737488355328 := w.1.2.2.2.2.1.1
  have y_want_l : y.want.length ≤ 140737488355328 := w.2.1.2.2.2.2.1.1
  refine go tbv24ok 2 rfl rfl trivial ?_
  refine ef (boxA 0 rfl rfl rfl fun b1 => ?_)
  refine ef (boxA 1 rfl rfl rfl fun b2 => ?_)
  refine go tbv24ok 4 rfl rfl trivial ?_
  refine any [2, 3, 4, 5, 6, 7] 27 mixd rfl ?_
  refine gov tbv24ok [0, 1, 2, 3, 4, 5, 6, 7, 8, 9, 10, 11, 12, 13, 14, 15, 16, 17, 18, 19, 20, 22] 5 rfl (by kernel_rfl) rfl rfl ⟨(fun hc => hc), (fun hc => hc), (fun hc => hc), (fun hc => hc), rfl, rfl, (fun hc => hc), (fun hc => hc), (fun hc => hc), (fun hc => hc), rfl, rfl, trivial⟩ ?_
  refine ve 21 rfl (by kernel_rfl) rfl (ecallg rfl (fun hc => (bind_rule _ _)) rfl ⟨(fun hc => hc), trivial⟩ rfl rfl fun _ => ?_)
  refine ve 23 rfl (by kernel_rfl) rfl (ecallg rfl (fun hc => (bind_rule _ _)) rfl ⟨(fun hc => hc), trivial⟩ rfl rfl fun _ => ?_)
  refine vcallg 24 rfl (by kernel_rfl) rfl (fun hc => (match_Same _ _)) rfl rfl ⟨(fun hc => hc), (fun hc => hc), trivial⟩ rfl fun _ => ?_
  refine gov tbv24ok [25, 26] 0 rfl (by kernel_rfl) rfl rfl ⟨rfl, rfl, trivial⟩ ?_
  refine vdone (by kernel_rfl) ?_
  refine go tbv24ok 2 rfl rfl trivial ?_
  refine rt1 rfl rfl ?_
  refine ple ?_
  exact congrArg PV.bool (by rw [Bool.eq_iff_iff]; first | (simp [BindR.eq_iff, bindRule, and_assoc]; done) | (simp [BindR.eq_iff, bindRule]; grind))
theorem clone_Pair (s : List Pair) (hl : s.length ≤ 1000000) : Fn Tryz.prog gb 84 [.sl Pair.pc s] (.sl Pair.pc s) := by
  refine fn_cw tbv24ok Tryz.func84 rfl Tryz.ntmps84 rfl cb84 rfl rfl fun w N H hG => ?_
  have s_l : s.length ≤ 140737488355328 := w.1.1
  refine go tbv24ok 9 rfl rfl trivial ?_
  refine ef (lnil tbv24ok rfl rfl rfl rfl rfl fun b1 hb2 => ?_)
  refine go tbv24ok 2 rfl rfl trivial ?_
  refine cnd rfl (fun h3 => ?_) (fun h3 => ?_)
  · refine go tbv24ok 7 rfl rfl trivial ?_
    refine rt1 rfl rfl ?_
    refine ple_nilx ?_
    exact hb2 (by assumption)
  · refine go tbv24ok 4 rfl rfl trivial ?_
    refine ef (bsl 0 Pair.pc [] tbv24ok rfl rfl rfl rfl rfl (fun _ => rfl) rfl (by decide) (by decide) rfl fun u4 => ?_)
    refine go tbv24ok 1 rfl rfl trivial ?_
    refine ef (app tbv24ok s rfl rfl rfl rfl rfl rfl rfl rfl rfl (src_l rfl (fun _ => rfl)) (by first | omega | (simp; omega)) rfl fun u5 => ?_)
    refine go tbv24ok 3 rfl rfl trivial ?_
    refine givec 0 rfl ?_
    refine go tbv24ok 1 rfl rfl trivial ?_
    refine rt1 rfl rfl ?_
    refine ple ?_
    simp
theorem bind_clone (x : BindR) (hl : x.want.length ≤ 1000000) : Fn Tryz.prog gb 151 [.agg (BindR.pc x)] (.agg (BindR.pc x)) := by
  refine fn_cw tbv24ok Tryz.func151 rfl Tryz.ntmps151 rfl cb151 rfl rfl fun w N H hG => ?_
  have x_want_l : x.want.length ≤ 140737488355328 := w.1.2.2.2.2.1.1
  refine go tbv24ok 2 rfl rfl trivial ?_
  refine ef (boxA 0 rfl rfl rfl fun b1 => ?_)
  refine ef (alloc tbv24ok 1 rfl rfl rfl rfl fun b2 => ?_)
  refine go tbv24ok 6 rfl rfl trivial ?_
  refine call (clone_Pair _ (by first | omega | (simp; done) | (simp; omega))) rfl rfl fun w3 => ?_
  refine go tbv24ok 1 rfl rfl trivial ?_
  refine ef (store1 tbv24ok rfl rfl rfl rfl rfl rfl rfl rfl rfl ?_)
  refine go tbv24ok 5 rfl rfl trivial ?_
  refine ef (storeA tbv24ok rfl rfl rfl rfl rfl rfl rfl rfl rfl rfl ?_)
  refine go tbv24ok 3 rfl rfl trivial ?_
  refine rt1 rfl rfl ?_
  refine ple ?_
  rfl
theorem idxF_Bind (s : List BindR) (f : FuncId) (f_fst f_cap : List PV) (f_p : BindR → Bool) (f_h : ∀ x, Fn Tryz.prog gb f (argsP.apL f_fst ((.agg (BindR.pc x)) :: f_cap)) (.bool (f_p x))) : Fn Tryz.prog gb 164 [.sl BindR.pc s, .fn f f_fst f_cap] (.int .i64 (idxP f_p s)) := by
  refine fn_cw tbv24ok Tryz.func164 rfl Tryz.ntmps164 rfl cb164 rfl rfl fun w N H hG => ?_
  have s_l : s.length ≤ 140737488355328 := w.1.1
  refine go tbv24ok 14 rfl rfl trivial ?_
  refine loop (ι := Nat) [0, 1, 6, 7] [] (fun k => [(8, .int .i64 (k : Int))]) (fun k => []) (fun k => k ≤ s.length ∧ idxP f_p s = idxF f_p k (s.drop k)) (fun k => s.length - k) 0 ⟨rfl, trivial⟩ trivial ?_ ?_
  · exact ⟨Nat.zero_le _, rfl⟩
  · rintro k hp1
    obtain ⟨hk1, hk2⟩ := hp1
    refine go tbv24ok 6 rfl rfl trivial ?_
    refine cnd rfl (fun h2 => ?_) (fun h2 => ?_)
    · have p3 := dt h2
      obtain ⟨c4, hc5⟩ := getE (xs := s) (m := k) (by omega)
      have c4_w := BindR.pwf (w.1.2 c4 (List.mem_of_getElem? hc5))
      refine go tbv24ok 15 rfl rfl trivial ?_
      refine q1 (qidx tbv24ok k rfl rfl rfl hc5 rfl rfl rfl rfl) rfl fun w6 => ?_
      refine go tbv24ok 1 rfl rfl trivial ?_
      refine call (f_h c4) rfl rfl fun w7 => ?_
      refine go tbv24ok 2 rfl rfl trivial ?_
      refine cnd rfl (fun h8 => ?_) (fun h8 => ?_)
      · refine go tbv24ok 12 rfl rfl trivial ?_
        refine rt1 rfl rfl ?_
        refine ple ?_
        exact congrArg (PV.int .i64) (idx_hit hk2 (dropE hc5) (by assumption)).symm
      · refine go tbv24ok 7 rfl rfl ⟨(by omega), trivial⟩ ?_
        refine next (k + 1) rfl rfl ⟨rfl, trivial⟩ trivial ?_ ?_
        · omega
        · exact ⟨by omega, idx_miss hk2 (dropE hc5) (by assumption)⟩
    · have p9 := df h2
      refine go tbv24ok 11 rfl rfl trivial ?_
      refine rt1 rfl rfl ?_
      refine ple ?_
      exact congrArg (PV.int .i64) (idx_end hk2 (by omega)).symm
end Go.SW.V
set_option linter.unusedVariables false
set_option maxRecDepth 100000
set_option maxHeartbeats 4000000
namespace Go.SW.V
open Go.SW Go.Proofs
theorem cb101 : Callable Tryz.prog 101 := callable_of Tryz.func101 (by kernel_rfl) (by kernel_rfl)
theorem cb123 : Callable Tryz.prog 123 := callable_of Tryz.func123 (by kernel_rfl) (by kernel_rfl)
theorem cb132 : Callable Tryz.prog 132 := callable_of Tryz.func132 (by kernel_rfl) (by kernel_rfl)
theorem cb136 : Callable Tryz.prog 136 := callable_of Tryz.func136 (by kernel_rfl) (by kernel_rfl)
theorem cb137 : Callable Tryz.prog 137 := callable_of Tryz.func137 (by kernel_rfl) (by kernel_rfl)
theorem cb143 : Callable Tryz.prog 143 := callable_of Tryz.func143 (by kernel_rfl) (by kernel_rfl)
theorem cb154 : Callable Tryz.prog 154 := callable_of Tryz.func154 (by kernel_rfl) (by kernel_rfl)
theorem cb155 : Callable Tryz.prog 155 := callable_of Tryz.func155 (by kernel_rfl) (by kernel_rfl)
theorem cb161 : Callable Tryz.prog 161 := callable_of Tryz.func161 (by kernel_rfl) (by kernel_rfl)
theorem cb171 : Callable Tryz.prog 171 := callable_of Tryz.func171 (by kernel_rfl) (by kernel_rfl)
def tbv25 : Tb := [(9, ⟨.str, 1, 16, [.str []]⟩),
  (51, ⟨.agg [(0, 1), (1, 1), (2, 1), (3, 1), (4, 1), (5, 1), (6, 1)], 7, 96, [.int .u64 0, .str [], .str [], .sl Pair.pc [], .str [], .int .u64 0, .int .u8 0]⟩),
  (170, ⟨.agg [(0, 1), (1, 1)], 2, 24, [.str [], .int .i64 0]⟩),
  (206, ⟨.agg [(0, 1), (1, 1), (2, 1), (3, 1)], 4, 56, [.int .u8 0, .str [], .sl Pair.pc [], .bool false]⟩)]
theorem tbv25ok : tbB Tryz.prog tbv25 = true := by kernel_rfl
theorem l01_awake : Fn Tryz.prog gb 171 [] (.bool true) := by
  refine fn_cw tbv25ok Tryz.func171 rfl Tryz.ntmps171 rfl cb171 rfl rfl fun w N H hG => ?_
  refine go tbv25ok 8 rfl rfl trivial ?_
  refine call (out_Num (⟨[], 0⟩ : Out) _ _ (by first | omega | (have := hrl (by assumption); omega) | (simp [outNum, outRaw, numB_len, numK] <;> omega) | (have := hrl (by assumption); simp [outNum, outRaw, numB_len, numK] <;> omega))) rfl rfl fun w1 => ?_
  have nl0 : (⟨[], 0⟩ : Out).s.length = 0 := rfl
  have := outNum_len (⟨[], 0⟩ : Out) 258 2
  refine call (out_String _) rfl rfl fun w2 => ?_
  refine go tbv25ok 1 rfl rfl trivial ?_
  refine so_rt (t := 4) (p' := .bool true) (ple (congrArg PV.bool (show decide (((outNum (⟨[], 0⟩ : Out) 258 2).s) = [1, 2]) = true by decide +kernel))) rfl ?_
  refine go tbv25ok 1 rfl rfl trivial ?_
  refine ungd rfl rfl ?_
  refine go tbv25ok 1 rfl rfl trivial ?_
  refine ungd rfl rfl ?_
  refine call (out_Text (⟨[], 0⟩ : Out) _ (by first | omega | (have := hrl (by assumption); omega) | (simp [outNum, outRaw, numB_len, numK] <;> omega) | (have := hrl (by assumption); simp [outNum, outRaw, numB_len, numK] <;> omega))) rfl rfl fun w3 => ?_
  have nl0 : (⟨[], 0⟩ : Out).s.length = 0 := rfl
  have := outText_len (⟨[], 0⟩ : Out) [97, 98]
  refine ungd rfl rfl ?_
  refine call (out_String _) rfl rfl fun w4 => ?_
  refine ungd rfl rfl ?_
  refine go tbv25ok 1 rfl rfl trivial ?_
  refine so_rt (t := 9) (p' := .bool true) (ple (congrArg PV.bool (show decide (((outText (⟨[], 0⟩ : Out) [97, 98]).s) = [0, 2, 97, 98]) = true by decide +kernel))) rfl ?_
  refine go tbv25ok 2 rfl rfl trivial ?_
  refine ungd rfl rfl ?_
  refine ef (ecallb 0 (octet_New _) rfl rfl fun w5 b6 => ?_)
  refine ungd rfl rfl ?_
  refine ef (ecallm (in_Num (⟨[1, 2], 0⟩) _) rfl rfl rfl rfl rfl fun w7 w7p => ?_)
  have := inNum_r (⟨[1, 2], 0⟩) 2
  refine ungd rfl rfl ?_
  refine go tbv25ok 1 rfl rfl trivial ?_
  refine so_rt (t := 14) (p' := .bool true) (ple (congrArg PV.bool (show decide ((((inNum (⟨[1, 2], 0⟩) 2)).1) = 258) = true by decide +kernel))) rfl ?_
  refine go tbv25ok 5 rfl rfl trivial ?_
  refine rt1 rfl rfl ?_
  refine ple ?_
  exact congrArg PV.bool (by first | rfl | decide +kernel)
theorem l01_Awake : Fn Tryz.prog gb 161 [] (.bool true) := by
  refine fn_cw tbv25ok Tryz.func161 rfl Tryz.ntmps161 rfl cb161 rfl rfl fun w N H hG => ?_
  refine go tbv25ok 7 rfl rfl trivial ?_
  refine call l01_awake rfl rfl fun w1 => ?_
  refine go tbv25ok 4 rfl rfl trivial ?_
  refine rt1 rfl rfl ?_
  refine ple ?_
  rfl
theorem l04_awake : Fn Tryz.prog gb 154 [] (.bool true) := by
  refine fn_cw tbv25ok Tryz.func154 rfl Tryz.ntmps154 rfl cb154 rfl rfl fun w N H hG => ?_
  refine go tbv25ok 7 rfl rfl trivial ?_
  refine call (words_Matches _ _ (by first | omega | (simp; done) | decide) (by first | omega | (simp; done) | decide)) rfl rfl fun w1 => ?_
  refine so_rt (t := 1) (p' := .bool true) (ple (congrArg PV.bool (show mt (wordsOf [97, 46, 42, 46, 35]) (wordsOf [97, 46, 98]) = true by decide +kernel))) rfl ?_
  refine go tbv25ok 1 rfl rfl trivial ?_
  refine ungd rfl rfl ?_
  refine call (words_Matches _ _ (by first | omega | (simp; done) | decide) (by first | omega | (simp; done) | decide)) rfl rfl fun w2 => ?_
  refine so_rt (t := 3) (p' := .bool true) (ple (congrArg PV.bool (show mt (wordsOf [97, 46, 42, 46, 35]) (wordsOf [97, 46, 98, 46, 99, 46, 100]) = true by decide +kernel))) rfl ?_
  refine go tbv25ok 2 rfl rfl trivial ?_
  refine ungd rfl rfl ?_
  refine call (words_Matches _ _ (by first | omega | (simp; done) | decide) (by first | omega | (simp; done) | decide)) rfl rfl fun w3 => ?_
  refine so_rt (t := 6) (p' := .bool false) (ple (congrArg PV.bool (show mt (wordsOf [97, 46, 42, 46, 35]) (wordsOf [97]) = false by decide +kernel))) rfl ?_
  refine ungd rfl rfl ?_
  refine go tbv25ok 1 rfl rfl trivial ?_
  refine so_rt (t := 7) (p' := .bool true) (ple (congrArg PV.bool (show !false = true by decide +kernel))) rfl ?_
  refine go tbv25ok 2 rfl rfl trivial ?_
  refine ungd rfl rfl ?_
  refine call (words_Name _) rfl rfl fun w4 => ?_
  refine ungd rfl rfl ?_
  refine go tbv25ok 1 rfl rfl trivial ?_
  refine so_rt (t := 11) (p' := .bool true) (ple (congrArg PV.bool (show decide ((nameE [97, 45, 49]) = 0) = true by decide +kernel))) rfl ?_
  refine go tbv25ok 5 rfl rfl trivial ?_
  refine rt1 rfl rfl ?_
  refine ple ?_
  exact congrArg PV.bool (by first | rfl | decide +kernel)
theorem l04_Awake : Fn Tryz.prog gb 136 [] (.bool true) := by
  refine fn_cw tbv25ok Tryz.func136 rfl Tryz.ntmps136 rfl cb136 rfl rfl fun w N H hG => ?_
  refine go tbv25ok 7 rfl rfl trivial ?_
  refine call l04_awake rfl rfl fun w1 => ?_
  refine go tbv25ok 4 rfl rfl trivial ?_
  refine rt1 rfl rfl ?_
  refine ple ?_
  rfl
theorem l09_awake : Fn Tryz.prog gb 143 [] (.bool true) := by
  refine fn_cw tbv25ok Tryz.func143 rfl Tryz.ntmps143 rfl cb143 rfl rfl fun w N H hG => ?_
  refine go tbv25ok 7 rfl rfl trivial ?_
  refine call (Fn.le (head_Bytes []) (ples_cons ple_nil ples_nil) (ple rfl) rfl) rfl rfl fun w1 => ?_
  have := headBytes_len []
  refine go tbv25ok 9 rfl rfl trivial ?_
  refine call l01_Awake rfl rfl fun w2 => ?_
  refine go tbv25ok 1 rfl rfl trivial ?_
  refine ungd rfl rfl ?_
  refine call l04_Awake rfl rfl fun w3 => ?_
  refine go tbv25ok 2 rfl rfl trivial ?_
  refine ungd rfl rfl ?_
  refine go tbv25ok 1 rfl rfl trivial ?_
  refine ungd rfl rfl ?_
  refine go tbv25ok 1 rfl rfl trivial ?_
  refine so_rt (t := 13) (p' := .bool true) (ple (congrArg PV.bool (show decide ((headE []) = 0) = true by decide +kernel))) rfl ?_
  refine go tbv25ok 2 rfl rfl trivial ?_
  refine ungd rfl rfl ?_
  refine go tbv25ok 1 rfl rfl trivial ?_
  refine ungd rfl rfl ?_
  refine go tbv25ok 1 rfl rfl trivial ?_
  refine so_rt (t := 17) (p' := .bool true) (ple (congrArg PV.bool (show decide ((headBytes []) = [0]) = true by decide +kernel))) rfl ?_
  refine go tbv25ok 5 rfl rfl trivial ?_
  refine rt1 rfl rfl ?_
  refine ple ?_
  exact congrArg PV.bool (by first | rfl | decide +kernel)
theorem l09_Awake : Fn Tryz.prog gb 132 [] (.bool true) := by
  refine fn_cw tbv25ok Tryz.func132 rfl Tryz.ntmps132 rfl cb132 rfl rfl fun w N H hG => ?_
  refine go tbv25ok 7 rfl rfl trivial ?_
  refine call l09_awake rfl rfl fun w1 => ?_
  refine go tbv25ok 4 rfl rfl trivial ?_
  refine rt1 rfl rfl ?_
  refine ple ?_
  rfl
theorem l10_awake : Fn Tryz.prog gb 155 [] (.bool true) := by
  refine fn_cw tbv25ok Tryz.func155 rfl Tryz.ntmps155 rfl cb155 rfl rfl fun w N H hG => ?_
  refine go tbv25ok 8 rfl rfl trivial ?_
  refine ef (alloc tbv25ok 0 rfl rfl rfl rfl fun b1 => ?_)
  refine ef (storeA tbv25ok rfl rfl rfl rfl rfl rfl rfl rfl rfl rfl ?_)
  refine go tbv25ok 4 rfl rfl trivial ?_
  refine call l04_Awake rfl rfl fun w2 => ?_
  refine go tbv25ok 1 rfl rfl trivial ?_
  refine ungd rfl rfl ?_
  refine call l09_Awake rfl rfl fun w3 => ?_
  refine go tbv25ok 2 rfl rfl trivial ?_
  refine ungd rfl rfl ?_
  refine go tbv25ok 1 rfl rfl trivial ?_
  refine ungd rfl rfl ?_
  refine call (rule_Check (⟨2, [97, 46, 35], [], false⟩ : Rule)) rfl rfl fun w4 => ?_
  refine ungd rfl rfl ?_
  refine go tbv25ok 1 rfl rfl trivial ?_
  refine so_rt (t := 10) (p' := .bool true) (ple (congrArg PV.bool (show decide ((ruleE (⟨2, [97, 46, 35], [], false⟩ : Rule)) = 0) = true by decide +kernel))) rfl ?_
  refine go tbv25ok 2 rfl rfl trivial ?_
  refine ungd rfl rfl ?_
  refine go tbv25ok 1 rfl rfl trivial ?_
  refine ungd rfl rfl ?_
  refine call (Fn.le (rule_Goes (⟨2, [97, 46, 35], [], false⟩ : Rule) _ [] (by first | omega | (simp; done) | decide) (by first | omega | (simp; done) | decide)) (ples_cons (ple rfl) (ples_cons (ple rfl) (ples_cons ple_nil ples_nil))) (ple rfl) rfl) rfl rfl fun w5 => ?_
  refine so_rt (t := 14) (p' := .bool true) (ple (congrArg PV.bool (show goesR (⟨2, [97, 46, 35], [], false⟩ : Rule) [97, 46, 98] [] = true by decide +kernel))) rfl ?_
  refine go tbv25ok 2 rfl rfl trivial ?_
  refine ungd rfl rfl ?_
  refine go tbv25ok 1 rfl rfl trivial ?_
  refine ungd rfl rfl ?_
  refine call (Fn.le (rule_Goes (⟨2, [97, 46, 35], [], false⟩ : Rule) _ [] (by first | omega | (simp; done) | decide) (by first | omega | (simp; done) | decide)) (ples_cons (ple rfl) (ples_cons (ple rfl) (ples_cons ple_nil ples_nil))) (ple rfl) rfl) rfl rfl fun w6 => ?_
  refine so_rt (t := 18) (p' := .bool false) (ple (congrArg PV.bool (show goesR (⟨2, [97, 46, 35], [], false⟩ : Rule) [98] [] = false by decide +kernel))) rfl ?_
  refine ungd rfl rfl ?_
  refine go tbv25ok 1 rfl rfl trivial ?_
  refine so_rt (t := 19) (p' := .bool true) (ple (congrArg PV.bool (show !false = true by decide +kernel))) rfl ?_
  refine go tbv25ok 5 rfl rfl trivial ?_
  refine rt1 rfl rfl ?_
  refine ple ?_
  exact congrArg PV.bool (by first | rfl | decide +kernel)
theorem l10_Awake : Fn Tryz.prog gb 137 [] (.bool true) := by
  refine fn_cw tbv25ok Tryz.func137 rfl Tryz.ntmps137 rfl cb137 rfl rfl fun w N H hG => ?_
  refine go tbv25ok 7 rfl rfl trivial ?_
  refine call l10_awake rfl rfl fun w1 => ?_
  refine go tbv25ok 4 rfl rfl trivial ?_
  refine rt1 rfl rfl ?_
  refine ple ?_
  rfl
theorem l13_awake : Fn Tryz.prog gb 123 [] (.bool true) := by
  refine fn_cw tbv25ok Tryz.func123 rfl Tryz.ntmps123 rfl cb123 rfl rfl fun w N H hG => ?_
  refine go tbv25ok 8 rfl rfl trivial ?_
  refine call (mail_Bytes (⟨0, [97], [], [], [], 0, 0⟩ : Mail)) rfl rfl fun w1 => ?_
  have := mailBytes_len (⟨0, [97], [], [], [], 0, 0⟩ : Mail)
  refine go tbv25ok 9 rfl rfl trivial ?_
  refine call l09_Awake rfl rfl fun w2 => ?_
  refine go tbv25ok 1 rfl rfl trivial ?_
  refine ungd rfl rfl ?_
  refine go tbv25ok 1 rfl rfl trivial ?_
  refine ungd rfl rfl ?_
  refine go tbv25ok 1 rfl rfl trivial ?_
  refine so_rt (t := 11) (p' := .bool true) (ple (congrArg PV.bool (show decide ((mailC (⟨0, [97], [], [], [], 0, 0⟩ : Mail)) = 0) = true by decide +kernel))) rfl ?_
  refine go tbv25ok 2 rfl rfl trivial ?_
  refine ungd rfl rfl ?_
  refine go tbv25ok 1 rfl rfl trivial ?_
  refine ungd rfl rfl ?_
  refine go tbv25ok 1 rfl rfl trivial ?_
  refine ungd rfl rfl ?_
  refine go tbv25ok 1 rfl rfl trivial ?_
  refine so_rt (t := 16) (p' := .bool true) (ple (congrArg PV.bool (show decide (((mailBytes (⟨0, [97], [], [], [], 0, 0⟩ : Mail)).length : Int) = 25) = true by decide +kernel))) rfl ?_
  refine go tbv25ok 5 rfl rfl trivial ?_
  refine rt1 rfl rfl ?_
  refine ple ?_
  exact congrArg PV.bool (by first | rfl | decide +kernel)
theorem l13_Awake : Fn Tryz.prog gb 101 [] (.bool true) := by
  refine fn_cw tbv25ok Tryz.func101 rfl Tryz.ntmps101 rfl cb101 rfl rfl fun w N H hG => ?_
  refine go tbv25ok 7 rfl rfl trivial ?_
  refine call l13_awake rfl rfl fun w1 => ?_
  refine go tbv25ok 4 rfl rfl trivial ?_
  refine rt1 rfl rfl ?_
  refine ple ?_
  rfl
end Go.SW.V
set_option linter.unusedVariables false
set_option maxRecDepth 100000
set_option maxHeartbeats 4000000
namespace Go.SW.V
open Go.SW Go.Proofs
theorem cb146 : Callable Tryz.prog 146 := callable_of Tryz.func146 (by kernel_rfl) (by kernel_rfl)
theorem cb150 : Callable Tryz.prog 150 := callable_of Tryz.func150 (by kernel_rfl) (by kernel_rfl)
theorem cb162 : Callable Tryz.prog 162 := callable_of Tryz.func162 (by kernel_rfl) (by kernel_rfl)
theorem cb166 : Callable Tryz.prog 166 := callable_of Tryz.func166 (by kernel_rfl) (by kernel_rfl)
theorem cb37 : Callable Tryz.prog 37 := callable_of Tryz.func37 (by kernel_rfl) (by kernel_rfl)
theorem cb38 : Callable Tryz.prog 38 := callable_of Tryz.func38 (by kernel_rfl) (by kernel_rfl)
theorem cb80 : Callable Tryz.prog 80 := callable_of Tryz.func80 (by kernel_rfl) (by kernel_rfl)
def tbv40 : Tb := [(3, ⟨.int .i64, 1, 8, [.int .i64 0]⟩),
  (24, ⟨.slc 126, 1, 24, [.sl TakerR.pc []]⟩),
  (25, ⟨.slc 39, 1, 24, [.sl LentR.pc []]⟩),
  (26, ⟨.slc 53, 1, 24, [.sl DeedR.pc []]⟩),
  (39, ⟨.agg [(0, 1), (1, 1)], 2, 24, [.int .u64 0, .str []]⟩),
  (44, ⟨.agg [(0, 1), (1, 1), (2, 1)], 3, 40, [.str [], .int .u8 0, .str []]⟩),
  (49, ⟨.agg [(0, 1), (1, 1), (2, 1), (3, 1), (4, 1), (5, 1)], 6, 88, [.str [], .str [], .bool false, .str [], .sl Pair.pc [], .bool false]⟩),
  (53, ⟨.agg [(0, 1), (1, 1), (2, 3), (5, 4), (9, 6), (15, 1), (16, 1), (17, 1), (18, 1), (19, 1), (20, 1), (21, 7), (28, 1)], 29, 344, [.int .u8 0, .int .u64 0, .str [], .int .u8 0, .str [], .str [], .int .u64 0, .int .u64 0, .str [], .str [], .str [], .bool false, .str [], .sl Pair.pc [], .bool false, .str [], .int .u64 0, .int .u8 0, .int .u8 0, .int .u8 0, .int .u64 0, .int .u64 0, .str [], .str [], .sl Pair.pc [], .str [], .int .u64 0, .int .u8 0, .str []]⟩),
  (126, ⟨.agg [(0, 1), (1, 1)], 2, 24, [.int .u64 0, .str []]⟩),
  (132, ⟨.slc 25, 1, 24, [.sl (slc LentR.pc) []]⟩),
  (135, ⟨.slc 26, 1, 24, [.sl (slc DeedR.pc) []]⟩),
  (166, ⟨.slc 24, 1, 24, [.sl (slc TakerR.pc) []]⟩),
  (188, ⟨.slc 44, 1, 24, [.sl ShopR.pc []]⟩),
  (189, ⟨.slc 49, 1, 24, [.sl BindR.pc []]⟩),
  (217, ⟨.slc 188, 1, 24, [.sl (slc ShopR.pc) []]⟩),
  (221, ⟨.slc 189, 1, 24, [.sl (slc BindR.pc) []]⟩)]
theorem tbv40ok : tbB Tryz.prog tbv40 = true := by kernel_rfl
theorem grow_Lent (n : Int) (hn : 0 ≤ n ∧ n ≤ 1000000) : Fo Tryz.prog gb 80 [.val (.slice none 0 0), .int .i64 n] (fun u => .val u) 2 39 LentR.pc ([] : List LentR) := by
  refine fo_cw tbv40ok Tryz.func80 rfl Tryz.ntmps80 rfl cb80 (fun _ => rfl) rfl fun w N H hG => ?_
  have n_r : -9223372036854775808 ≤ n ∧ n ≤ 9223372036854775807 := w.2.1
  refine go tbv40ok 12 rfl rfl trivial ?_
  refine cnd rfl (fun h1 => ?_) (fun h1 => ?_)
  · have p2 := dt h1
    exfalso; omega
  · have p3 := df h1
    refine go tbv40ok 7 rfl rfl trivial ?_
    refine q1 (qcap0 tbv40ok rfl rfl rfl) rfl fun w4 => ?_
    refine go tbv40ok 1 rfl rfl trivial ?_
    refine q1 (qlen0 tbv40ok rfl rfl rfl) rfl fun w5 => ?_
    refine go tbv40ok 11 rfl rfl ⟨(by omega), (by omega), trivial⟩ ?_
    refine cnd rfl (fun h6 => ?_) (fun h6 => ?_)
    · have p7 := dt h6
      refine go tbv40ok 3 rfl rfl trivial ?_
      refine q1 (qcap0 tbv40ok rfl rfl rfl) rfl fun w8 => ?_
      refine q1 (qcut0 tbv40ok rfl rfl rfl rfl rfl (by omega)) rfl fun w9 => ?_
      refine go tbv40ok 1 rfl rfl trivial ?_
      refine ef (appz (m := ((n - (0 - 0))).toNat) 0 tbv40ok rfl rfl rfl rfl rfl rfl rfl rfl rfl rfl (by omega) (by omega) (by (try simp only []); omega) rfl rfl fun u10 => ?_)
      refine go tbv40ok 1 rfl rfl trivial ?_
      refine q1 (qlen0 tbv40ok rfl rfl rfl) rfl fun w11 => ?_
      refine ef (ocut LentR.pc tbv40ok rfl rfl rfl rfl rfl rfl (by omega) rfl fun u12 => ?_)
      refine go tbv40ok 9 rfl rfl trivial ?_
      refine sw_val (t := 4) (i := 0) rfl rfl ?_
      refine go tbv40ok 1 rfl rfl trivial ?_
      refine ro1 (j := 0) rfl rfl rfl ?_
      rfl
    · have p13 := df h6
      refine go tbv40ok 8 rfl rfl trivial ?_
      refine sw_own (t := 4) (k := 2) (e := 39) 0 LentR.pc rfl rfl ?_
      refine sw_val (t := 4) (i := 0) rfl rfl ?_
      refine go tbv40ok 1 rfl rfl trivial ?_
      refine ro1 (j := 0) rfl rfl rfl ?_
      rfl
theorem concat_Lent (ls : List (List LentR)) (hl : ls.flatten.length ≤ 1000000) : Fn Tryz.prog gb 38 [.sl (slc LentR.pc) ls] (.sl LentR.pc ls.flatten) := by
  refine fn_cw tbv40ok Tryz.func38 rfl Tryz.ntmps38 rfl cb38 rfl rfl fun w N H hG => ?_
  have ls_l : ls.length ≤ 140737488355328 := w.1.1
  refine go tbv40ok 19 rfl rfl trivial ?_
  refine loop (ι := Nat × Int) [0, 2, 9, 10] [] (fun ⟨k, n⟩ => [(3, .int .i64 n), (11, .int .i64 (k : Int))]) (fun ⟨k, n⟩ => []) (fun ⟨k, n⟩ => k ≤ ls.length ∧ n = ((ls.take k).flatten.length : Int)) (fun ⟨k, n⟩ => ls.length - k) ⟨0, 0⟩ ⟨rfl, rfl, trivial⟩ trivial ?_ ?_
  · exact ⟨Nat.zero_le _, by simp⟩
  · rintro ⟨k, n⟩ hp1
    obtain ⟨hk1, hk2⟩ := hp1
    have hg0 := flat_le ls k
    refine go tbv40ok 6 rfl rfl trivial ?_
    refine cnd rfl (fun h2 => ?_) (fun h2 => ?_)
    · have p3 := dt h2
      obtain ⟨c4, hc5⟩ := getE (xs := ls) (m := k) (by omega)
      refine go tbv40ok 6 rfl rfl trivial ?_
      refine q1 (qidx tbv40ok k rfl rfl rfl hc5 rfl rfl rfl rfl) rfl fun w6 => ?_
      refine go tbv40ok 19 rfl rfl ⟨(by have hg := flat_le ls (k + 1); have hfl := congrArg List.length (flat_step (by assumption : ls[k]? = some _)); simp only [List.length_append] at hfl; omega), trivial⟩ ?_
      refine cnd rfl (fun h7 => ?_) (fun h7 => ?_)
      · have p8 := dt h7
        exfalso; omega
      · have p9 := df h7
        refine go tbv40ok 7 rfl rfl ⟨(by have hg := flat_le ls (k + 1); have hfl := congrArg List.length (flat_step (by assumption : ls[k]? = some _)); simp only [List.length_append] at hfl; omega), trivial⟩ ?_
        refine next ⟨(k + 1), (n + (c4.length : Int))⟩ rfl rfl ⟨rfl, rfl, trivial⟩ trivial ?_ ?_
        · (try simp only []); omega
        · have hf := flat_step hc5
          have hg := flat_le ls (k + 1)
          have hfl := congrArg List.length hf
          simp only [List.length_append] at hfl
          exact ⟨by omega, by (try simp only []); omega⟩
    · have p10 := df h2
      refine go tbv40ok 8 rfl rfl trivial ?_
      refine ef (ecallo 0 (grow_Lent _ (by omega)) rfl rfl fun u12 w11 => ?_)
      refine go tbv40ok 12 rfl rfl trivial ?_
      refine sw_osl (t := 6) 0 rfl rfl ?_
      refine loop (ι := Nat × (List LentR) × Value) [0, 2, 3, 9, 10, 11, 12, 23, 24, 25, 26] [] (fun ⟨k, out, u_out⟩ => [(6, .osl 0), (27, .int .i64 (k : Int))]) (fun ⟨k, out, u_out⟩ => [(0, .arr u_out 2 39 LentR.pc out)]) (fun ⟨k, out, u_out⟩ => k ≤ ls.length ∧ out = (ls.take k).flatten) (fun ⟨k, out, u_out⟩ => ls.length - k) ⟨0, ([] : List LentR), (u12)⟩ ⟨rfl, rfl, trivial⟩ ⟨rfl, trivial⟩ ?_ ?_
      · exact ⟨Nat.zero_le _, by simp⟩
      · rintro ⟨k, out, u_out⟩ hp13
        obtain ⟨hk1, hk2⟩ := hp13
        refine go tbv40ok 6 rfl rfl trivial ?_
        refine cnd rfl (fun h14 => ?_) (fun h14 => ?_)
        · have p15 := dt h14
          obtain ⟨c16, hc17⟩ := getE (xs := ls) (m := k) (by omega)
          refine go tbv40ok 6 rfl rfl trivial ?_
          refine q1 (qidx tbv40ok k rfl rfl rfl hc17 rfl rfl rfl rfl) rfl fun w18 => ?_
          refine go tbv40ok 7 rfl rfl trivial ?_
          refine ef (app tbv40ok c16 rfl rfl rfl rfl rfl rfl rfl rfl rfl (src_l rfl (fun _ => rfl)) (by have hg := flat_le ls (k + 1); have hfl := congrArg List.length (flat_step (by assumption : ls[k]? = some _)); simp only [List.length_append] at hfl; subst hk2; (try simp only []); omega) rfl fun u19 => ?_)
          refine go tbv40ok 8 rfl rfl ⟨(by have hg := flat_le ls (k + 1); have hfl := congrArg List.length (flat_step (by assumption : ls[k]? = some _)); simp only [List.length_append] at hfl; omega), trivial⟩ ?_
          refine next ⟨(k + 1), (out ++ c16), (u19)⟩ rfl rfl ⟨rfl, rfl, trivial⟩ ⟨rfl, trivial⟩ ?_ ?_
          · (try simp only []); omega
          · exact ⟨by omega, by (try simp only []); rw [flat_step hc17, hk2]⟩
        · have p20 := df h14
          refine go tbv40ok 11 rfl rfl trivial ?_
          refine givec 0 rfl ?_
          refine go tbv40ok 1 rfl rfl trivial ?_
          refine rt1 rfl rfl ?_
          refine ple ?_
          rw [hk2, flat_full (by omega)]
theorem clone_Lent (s : List LentR) (hl : s.length ≤ 1000000) : Fn Tryz.prog gb 37 [.sl LentR.pc s] (.sl LentR.pc s) := by
  refine fn_cw tbv40ok Tryz.func37 rfl Tryz.ntmps37 rfl cb37 rfl rfl fun w N H hG => ?_
  have s_l : s.length ≤ 140737488355328 := w.1.1
  refine go tbv40ok 9 rfl rfl trivial ?_
  refine ef (lnil tbv40ok rfl rfl rfl rfl rfl fun b1 hb2 => ?_)
  refine go tbv40ok 2 rfl rfl trivial ?_
  refine cnd rfl (fun h3 => ?_) (fun h3 => ?_)
  · refine go tbv40ok 7 rfl rfl trivial ?_
    refine rt1 rfl rfl ?_
    refine ple_nilx ?_
    exact hb2 (by assumption)
  · refine go tbv40ok 4 rfl rfl trivial ?_
    refine ef (bsl 0 LentR.pc [] tbv40ok rfl rfl rfl rfl rfl (fun _ => rfl) rfl (by decide) (by decide) rfl fun u4 => ?_)
    refine go tbv40ok 1 rfl rfl trivial ?_
    refine ef (app tbv40ok s rfl rfl rfl rfl rfl rfl rfl rfl rfl (src_l rfl (fun _ => rfl)) (by first | omega | (simp; omega)) rfl fun u5 => ?_)
    refine go tbv40ok 3 rfl rfl trivial ?_
    refine givec 0 rfl ?_
    refine go tbv40ok 1 rfl rfl trivial ?_
    refine rt1 rfl rfl ?_
    refine ple ?_
    simp
theorem grow_Shop (n : Int) (hn : 0 ≤ n ∧ n ≤ 1000000) : Fo Tryz.prog gb 162 [.val (.slice none 0 0), .int .i64 n] (fun u => .val u) 3 44 ShopR.pc ([] : List ShopR) := by
  refine fo_cw tbv40ok Tryz.func162 rfl Tryz.ntmps162 rfl cb162 (fun _ => rfl) rfl fun w N H hG => ?_
  have n_r : -9223372036854775808 ≤ n ∧ n ≤ 9223372036854775807 := w.2.1
  refine go tbv40ok 12 rfl rfl trivial ?_
  refine cnd rfl (fun h1 => ?_) (fun h1 => ?_)
  · have p2 := dt h1
    exfalso; omega
  · have p3 := df h1
    refine go tbv40ok 7 rfl rfl trivial ?_
    refine q1 (qcap0 tbv40ok rfl rfl rfl) rfl fun w4 => ?_
    refine go tbv40ok 1 rfl rfl trivial ?_
    refine q1 (qlen0 tbv40ok rfl rfl rfl) rfl fun w5 => ?_
    refine go tbv40ok 11 rfl rfl ⟨(by omega), (by omega), trivial⟩ ?_
    refine cnd rfl (fun h6 => ?_) (fun h6 => ?_)
    · have p7 := dt h6
      refine go tbv40ok 3 rfl rfl trivial ?_
      refine q1 (qcap0 tbv40ok rfl rfl rfl) rfl fun w8 => ?_
      refine q1 (qcut0 tbv40ok rfl rfl rfl rfl rfl (by omega)) rfl fun w9 => ?_
      refine go tbv40ok 1 rfl rfl trivial ?_
      refine ef (appz (m := ((n - (0 - 0))).toNat) 0 tbv40ok rfl rfl rfl rfl rfl rfl rfl rfl rfl rfl (by omega) (by omega) (by (try simp only []); omega) rfl rfl fun u10 => ?_)
      refine go tbv40ok 1 rfl rfl trivial ?_
      refine q1 (qlen0 tbv40ok rfl rfl rfl) rfl fun w11 => ?_
      refine ef (ocut ShopR.pc tbv40ok rfl rfl rfl rfl rfl rfl (by omega) rfl fun u12 => ?_)
      refine go tbv40ok 9 rfl rfl trivial ?_
      refine sw_val (t := 4) (i := 0) rfl rfl ?_
      refine go tbv40ok 1 rfl rfl trivial ?_
      refine ro1 (j := 0) rfl rfl rfl ?_
      rfl
    · have p13 := df h6
      refine go tbv40ok 8 rfl rfl trivial ?_
      refine sw_own (t := 4) (k := 3) (e := 44) 0 ShopR.pc rfl rfl ?_
      refine sw_val (t := 4) (i := 0) rfl rfl ?_
      refine go tbv40ok 1 rfl rfl trivial ?_
      refine ro1 (j := 0) rfl rfl rfl ?_
      rfl
theorem concat_Shop (ls : List (List ShopR)) (hl : ls.flatten.length ≤ 1000000) : Fn Tryz.prog gb 146 [.sl (slc ShopR.pc) ls] (.sl ShopR.pc ls.flatten) := by
  refine fn_cw tbv40ok Tryz.func146 rfl Tryz.ntmps146 rfl cb146 rfl rfl fun w N H hG => ?_
  have ls_l : ls.length ≤ 140737488355328 := w.1.1
  refine go tbv40ok 19 rfl rfl trivial ?_
  refine loop (ι := Nat × Int) [0, 2, 9, 10] [] (fun ⟨k, n⟩ => [(3, .int .i64 n), (11, .int .i64 (k : Int))]) (fun ⟨k, n⟩ => []) (fun ⟨k, n⟩ => k ≤ ls.length ∧ n = ((ls.take k).flatten.length : Int)) (fun ⟨k, n⟩ => ls.length - k) ⟨0, 0⟩ ⟨rfl, rfl, trivial⟩ trivial ?_ ?_
  · exact ⟨Nat.zero_le _, by simp⟩
  · rintro ⟨k, n⟩ hp1
    obtain ⟨hk1, hk2⟩ := hp1
    have hg0 := flat_le ls k
    refine go tbv40ok 6 rfl rfl trivial ?_
    refine cnd rfl (fun h2 => ?_) (fun h2 => ?_)
    · have p3 := dt h2
      obtain ⟨c4, hc5⟩ := getE (xs := ls) (m := k) (by omega)
      refine go tbv40ok 6 rfl rfl trivial ?_
      refine q1 (qidx tbv40ok k rfl rfl rfl hc5 rfl rfl rfl rfl) rfl fun w6 => ?_
      refine go tbv40ok 19 rfl rfl ⟨(by have hg := flat_le ls (k + 1); have hfl := congrArg List.length (flat_step (by assumption : ls[k]? = some _)); simp only [List.length_append] at hfl; omega), trivial⟩ ?_
      refine cnd rfl (fun h7 => ?_) (fun h7 => ?_)
      · have p8 := dt h7
        exfalso; omega
      · have p9 := df h7
        refine go tbv40ok 7 rfl rfl ⟨(by have hg := flat_le ls (k + 1); have hfl := congrArg List.length (flat_step (by assumption : ls[k]? = some _)); simp only [List.length_append] at hfl; omega), trivial⟩ ?_
        refine next ⟨(k + 1), (n + (c4.length : Int))⟩ rfl rfl ⟨rfl, rfl, trivial⟩ trivial ?_ ?_
        · (try simp only []); omega
        · have hf := flat_step hc5
          have hg := flat_le ls (k + 1)
          have hfl := congrArg List.length hf
          simp only [List.length_append] at hfl
          exact ⟨by omega, by (try simp only []); omega⟩
    · have p10 := df h2
      refine go tbv40ok 8 rfl rfl trivial ?_
      refine ef (ecallo 0 (grow_Shop _ (by omega)) rfl rfl fun u12 w11 => ?_)
      refine go tbv40ok 12 rfl rfl trivial ?_
      refine sw_osl (t := 6) 0 rfl rfl ?_
      refine loop (ι := Nat × (List ShopR) × Value) [0, 2, 3, 9, 10, 11, 12, 23, 24, 25, 26] [] (fun ⟨k, out, u_out⟩ => [(6, .osl 0), (27, .int .i64 (k : Int))]) (fun ⟨k, out, u_out⟩ => [(0, .arr u_out 3 44 ShopR.pc out)]) (fun ⟨k, out, u_out⟩ => k ≤ ls.length ∧ out = (ls.take k).flatten) (fun ⟨k, out, u_out⟩ => ls.length - k) ⟨0, ([] : List ShopR), (u12)⟩ ⟨rfl, rfl, trivial⟩ ⟨rfl, trivial⟩ ?_ ?_
      · exact ⟨Nat.zero_le _, by simp⟩
      · rintro ⟨k, out, u_out⟩ hp13
        obtain ⟨hk1, hk2⟩ := hp13
        refine go tbv40ok 6 rfl rfl trivial ?_
        refine cnd rfl (fun h14 => ?_) (fun h14 => ?_)
        · have p15 := dt h14
          obtain ⟨c16, hc17⟩ := getE (xs := ls) (m := k) (by omega)
          refine go tbv40ok 6 rfl rfl trivial ?_
          refine q1 (qidx tbv40ok k rfl rfl rfl hc17 rfl rfl rfl rfl) rfl fun w18 => ?_
          refine go tbv40ok 7 rfl rfl trivial ?_
          refine ef (app tbv40ok c16 rfl rfl rfl rfl rfl rfl rfl rfl rfl (src_l rfl (fun _ => rfl)) (by have hg := flat_le ls (k + 1); have hfl := congrArg List.length (flat_step (by assumption : ls[k]? = some _)); simp only [List.length_append] at hfl; subst hk2; (try simp only []); omega) rfl fun u19 => ?_)
          refine go tbv40ok 8 rfl rfl ⟨(by have hg := flat_le ls (k + 1); have hfl := congrArg List.length (flat_step (by assumption : ls[k]? = some _)); simp only [List.length_append] at hfl; omega), trivial⟩ ?_
          refine next ⟨(k + 1), (out ++ c16), (u19)⟩ rfl rfl ⟨rfl, rfl, trivial⟩ ⟨rfl, trivial⟩ ?_ ?_
          · (try simp only []); omega
          · exact ⟨by omega, by (try simp only []); rw [flat_step hc17, hk2]⟩
        · have p20 := df h14
          refine go tbv40ok 11 rfl rfl trivial ?_
          refine givec 0 rfl ?_
          refine go tbv40ok 1 rfl rfl trivial ?_
          refine rt1 rfl rfl ?_
          refine ple ?_
          rw [hk2, flat_full (by omega)]
theorem grow_Bind (n : Int) (hn : 0 ≤ n ∧ n ≤ 1000000) : Fo Tryz.prog gb 166 [.val (.slice none 0 0), .int .i64 n] (fun u => .val u) 6 49 BindR.pc ([] : List BindR) := by
  refine fo_cw tbv40ok Tryz.func166 rfl Tryz.ntmps166 rfl cb166 (fun _ => rfl) rfl fun w N H hG => ?_
  have n_r : -9223372036854775808 ≤ n ∧ n ≤ 9223372036854775807 := w.2.1
  refine go tbv40ok 12 rfl rfl trivial ?_
  refine cnd rfl (fun h1 => ?_) (fun h1 => ?_)
  · have p2 := dt h1
    exfalso; omega
  · have p3 := df h1
    refine go tbv40ok 7 rfl rfl trivial ?_
    refine q1 (qcap0 tbv40ok rfl rfl rfl) rfl fun w4 => ?_
    refine go tbv40ok 1 rfl rfl trivial ?_
    refine q1 (qlen0 tbv40ok rfl rfl rfl) rfl fun w5 => ?_
    refine go tbv40ok 11 rfl rfl ⟨(by omega), (by omega), trivial⟩ ?_
    refine cnd rfl (fun h6 => ?_) (fun h6 => ?_)
    · have p7 := dt h6
      refine go tbv40ok 3 rfl rfl trivial ?_
      refine q1 (qcap0 tbv40ok rfl rfl rfl) rfl fun w8 => ?_
      refine q1 (qcut0 tbv40ok rfl rfl rfl rfl rfl (by omega)) rfl fun w9 => ?_
      refine go tbv40ok 1 rfl rfl trivial ?_
      refine ef (appz (m := ((n - (0 - 0))).toNat) 0 tbv40ok rfl rfl rfl rfl rfl rfl rfl rfl rfl rfl (by omega) (by omega) (by (try simp only []); omega) rfl rfl fun u10 => ?_)
      refine go tbv40ok 1 rfl rfl trivial ?_
      refine q1 (qlen0 tbv40ok rfl rfl rfl) rfl fun w11 => ?_
      refine ef (ocut BindR.pc tbv40ok rfl rfl rfl rfl rfl rfl (by omega) rfl fun u12 => ?_)
      refine go tbv40ok 9 rfl rfl trivial ?_
      refine sw_val (t := 4) (i := 0) rfl rfl ?_
      refine go tbv40ok 1 rfl rfl trivial ?_
      refine ro1 (j := 0) rfl rfl rfl ?_
      rfl
    · have p13 := df h6
      refine go tbv40ok 8 rfl rfl trivial ?_
      refine sw_own (t := 4) (k := 6) (e := 49) 0 BindR.pc rfl rfl ?_
      refine sw_val (t := 4) (i := 0) rfl rfl ?_
      refine go tbv40ok 1 rfl rfl trivial ?_
      refine ro1 (j := 0) rfl rfl rfl ?_
      rfl
theorem concat_Bind (ls : List (List BindR)) (hl : ls.flatten.length ≤ 1000000) : Fn Tryz.prog gb 150 [.sl (slc BindR.pc) ls] (.sl BindR.pc ls.flatten) := by
  refine fn_cw tbv40ok Tryz.func150 rfl Tryz.ntmps150 rfl cb150 rfl rfl fun w N H hG => ?_
  have ls_l : ls.length ≤ 140737488355328 := w.1.1
  refine go tbv40ok 19 rfl rfl trivial ?_
  refine loop (ι := Nat × Int) [0, 2, 9, 10] [] (fun ⟨k, n⟩ => [(3, .int .i64 n), (11, .int .i64 (k : Int))]) (fun ⟨k, n⟩ => []) (fun ⟨k, n⟩ => k ≤ ls.length ∧ n = ((ls.take k).flatten.length : Int)) (fun ⟨k, n⟩ => ls.length - k) ⟨0, 0⟩ ⟨rfl, rfl, trivial⟩ trivial ?_ ?_
  · exact ⟨Nat.zero_le _, by simp⟩
  · rintro ⟨k, n⟩ hp1
    obtain ⟨hk1, hk2⟩ := hp1
    have hg0 := flat_le ls k
    refine go tbv40ok 6 rfl rfl trivial ?_
    refine cnd rfl (fun h2 => ?_) (fun h2 => ?_)
    · have p3 := dt h2
      obtain ⟨c4, hc5⟩ := getE (xs := ls) (m := k) (by omega)
      refine go tbv40ok 6 rfl rfl trivial ?_
      refine q1 (qidx tbv40ok k rfl rfl rfl hc5 rfl rfl rfl rfl) rfl fun w6 => ?_
      refine go tbv40ok 19 rfl rfl ⟨(by have hg := flat_le ls (k + 1); have hfl := congrArg List.length (flat_step (by assumption : ls[k]? = some _)); simp only [List.length_append] at hfl; omega), trivial⟩ ?_
      refine cnd rfl (fun h7 => ?_) (fun h7 => ?_)
      · have p8 := dt h7
        exfalso; omega
      · have p9 := df h7
        refine go tbv40ok 7 rfl rfl ⟨(by have hg := flat_le ls (k + 1); have hfl := congrArg List.length (flat_step (by assumption : ls[k]? = some _)); simp only [List.length_append] at hfl; omega), trivial⟩ ?_
        refine next ⟨(k + 1), (n + (c4.length : Int))⟩ rfl rfl ⟨rfl, rfl, trivial⟩ trivial ?_ ?_
        · (try simp only []); omega
        · have hf := flat_step hc5
          have hg := flat_le ls (k + 1)
          have hfl := congrArg List.length hf
          simp only [List.length_append] at hfl
          exact ⟨by omega, by (try simp only []); omega⟩
    · have p10 := df h2
      refine go tbv40ok 8 rfl rfl trivial ?_
      refine ef (ecallo 0 (grow_Bind _ (by omega)) rfl rfl fun u12 w11 => ?_)
      refine go tbv40ok 12 rfl rfl trivial ?_
      refine sw_osl (t := 6) 0 rfl rfl ?_
      refine loop (ι := Nat × (List BindR) × Value) [0, 2, 3, 9, 10, 11, 12, 23, 24, 25, 26] [] (fun ⟨k, out, u_out⟩ => [(6, .osl 0), (27, .int .i64 (k : Int))]) (fun ⟨k, out, u_out⟩ => [(0, .arr u_out 6 49 BindR.pc out)]) (fun ⟨k, out, u_out⟩ => k ≤ ls.length ∧ out = (ls.take k).flatten) (fun ⟨k, out, u_out⟩ => ls.length - k) ⟨0, ([] : List BindR), (u12)⟩ ⟨rfl, rfl, trivial⟩ ⟨rfl, trivial⟩ ?_ ?_
      · exact ⟨Nat.zero_le _, by simp⟩
      · rintro ⟨k, out, u_out⟩ hp13
        obtain ⟨hk1, hk2⟩ := hp13
        refine go tbv40ok 6 rfl rfl trivial ?_
        refine cnd rfl (fun h14 => ?_) (fun h14 => ?_)
        · have p15 := dt h14
          obtain ⟨c16, hc17⟩ := getE (xs := ls) (m := k) (by omega)
          refine go tbv40ok 6 rfl rfl trivial ?_
          refine q1 (qidx tbv40ok k rfl rfl rfl hc17 rfl rfl rfl rfl) rfl fun w18 => ?_
          refine go tbv40ok 7 rfl rfl trivial ?_
          refine ef (app tbv40ok c16 rfl rfl rfl rfl rfl rfl rfl rfl rfl (src_l rfl (fun _ => rfl)) (by have hg := flat_le ls (k + 1); have hfl := congrArg List.length (flat_step (by assumption : ls[k]? = some _)); simp only [List.length_append] at hfl; subst hk2; (try simp only []); omega) rfl fun u19 => ?_)
          refine go tbv40ok 8 rfl rfl ⟨(by have hg := flat_le ls (k + 1); have hfl := congrArg List.length (flat_step (by assumption : ls[k]? = some _)); simp only [List.length_append] at hfl; omega), trivial⟩ ?_
          refine next ⟨(k + 1), (out ++ c16), (u19)⟩ rfl rfl ⟨rfl, rfl, trivial⟩ ⟨rfl, trivial⟩ ?_ ?_
          · (try simp only []); omega
          · exact ⟨by omega, by (try simp only []); rw [flat_step hc17, hk2]⟩
        · have p20 := df h14
          refine go tbv40ok 11 rfl rfl trivial ?_
          refine givec 0 rfl ?_
          refine go tbv40ok 1 rfl rfl trivial ?_
          refine rt1 rfl rfl ?_
          refine ple ?_
          rw [hk2, flat_full (by omega)]
end Go.SW.V
set_option linter.unusedVariables false
set_option maxRecDepth 100000
set_option maxHeartbeats 4000000
namespace Go.SW.V
open Go.SW Go.Proofs
theorem cb10 : Callable Tryz.prog 10 := callable_of Tryz.func10 (by kernel_rfl) (by kernel_rfl)
theorem cb11 : Callable Tryz.prog 11 := callable_of Tryz.func11 (by kernel_rfl) (by kernel_rfl)
theorem cb12 : Callable Tryz.prog 12 := callable_of Tryz.func12 (by kernel_rfl) (by kernel_rfl)
def tbv41 : Tb := [(3, ⟨.int .i64, 1, 8, [.int .i64 0]⟩),
  (4, ⟨.bool, 1, 1, [.bool false]⟩),
  (5, ⟨.int .u8, 1, 1, [.int .u8 0]⟩),
  (9, ⟨.str, 1, 16, [.str []]⟩),
  (22, ⟨.int .u64, 1, 8, [.int .u64 0]⟩),
  (24, ⟨.slc 126, 1, 24, [.sl TakerR.pc []]⟩),
  (25, ⟨.slc 39, 1, 24, [.sl LentR.pc []]⟩),
  (26, ⟨.slc 53, 1, 24, [.sl DeedR.pc []]⟩),
  (28, ⟨.agg [(0, 1)], 1, 24, [.sl DeedR.pc []]⟩),
  (30, ⟨.agg [(0, 1), (1, 1), (2, 1), (3, 1), (4, 1), (5, 1), (6, 1)], 7, 96, [.int .i64 0, .sl TakerR.pc [], .sl LentR.pc [], .bool false, .bool false, .int .u64 0, .sl DeedR.pc []]⟩),
  (42, ⟨.slc 62, 1, 24, [.sl DeedR.pc []]⟩),
  (47, ⟨.slc 139, 1, 24, [.sl Pair.pc []]⟩),
  (51, ⟨.agg [(0, 1), (1, 1), (2, 1), (3, 1), (4, 1), (5, 1), (6, 1)], 7, 96, [.int .u64 0, .str [], .str [], .sl Pair.pc [], .str [], .int .u64 0, .int .u8 0]⟩),
  (53, ⟨.agg [(0, 1), (1, 1), (2, 3), (5, 4), (9, 6), (15, 1), (16, 1), (17, 1), (18, 1), (19, 1), (20, 1), (21, 7), (28, 1)], 29, 344, [.int .u8 0, .int .u64 0, .str [], .int .u8 0, .str [], .str [], .int .u64 0, .int .u64 0, .str [], .str [], .str [], .bool false, .str [], .sl Pair.pc [], .bool false, .str [], .int .u64 0, .int .u8 0, .int .u8 0, .int .u8 0, .int .u64 0, .int .u64 0, .str [], .str [], .sl Pair.pc [], .str [], .int .u64 0, .int .u8 0, .str []]⟩),
  (62, ⟨.agg [(0, 1), (1, 1), (2, 3), (5, 4), (9, 6), (15, 1), (16, 1), (17, 1), (18, 1), (19, 1), (20, 1), (21, 7), (28, 1)], 29, 344, [.int .u8 0, .int .u64 0, .str [], .int .u8 0, .str [], .str [], .int .u64 0, .int .u64 0, .str [], .str [], .str [], .bool false, .str [], .sl Pair.pc [], .bool false, .str [], .int .u64 0, .int .u8 0, .int .u8 0, .int .u8 0, .int .u64 0, .int .u64 0, .str [], .str [], .sl Pair.pc [], .str [], .int .u64 0, .int .u8 0, .str []]⟩),
  (84, ⟨.slc 127, 1, 24, [.sl TakerR.pc []]⟩),
  (85, ⟨.slc 113, 1, 24, [.sl LentR.pc []]⟩),
  (87, ⟨.agg [(0, 1), (1, 1), (2, 1), (3, 1), (4, 1), (5, 1), (6, 1)], 7, 96, [.int .i64 0, .sl TakerR.pc [], .sl LentR.pc [], .bool false, .bool false, .int .u64 0, .sl DeedR.pc []]⟩),
  (113, ⟨.agg [(0, 1), (1, 1)], 2, 24, [.int .u64 0, .str []]⟩),
  (126, ⟨.agg [(0, 1), (1, 1)], 2, 24, [.int .u64 0, .str []]⟩),
  (127, ⟨.agg [(0, 1), (1, 1)], 2, 24, [.int .u64 0, .str []]⟩)]
theorem tbv41ok : tbB Tryz.prog tbv41 = true := by kernel_rfl
theorem chans_New_ok : Fn Tryz.prog gb 10 [] (.agg (ChanR.pc (chans_New))) := by
  refine fn_cw tbv41ok Tryz.func10 rfl Tryz.ntmps10 rfl cb10 rfl rfl fun w N H hG => ?_
  have e0 := chans_New.eq_1
  refine go tbv41ok 2 rfl rfl trivial ?_
  refine ef (alloc tbv41ok 0 rfl rfl rfl rfl fun b1 => ?_)
  refine go tbv41ok 5 rfl rfl trivial ?_
  refine ef (storeA tbv41ok rfl rfl rfl rfl rfl rfl rfl rfl rfl rfl ?_)
  refine go tbv41ok 3 rfl rfl trivial ?_
  exact rt1 rfl rfl (ple_of (fun r : ChanR => .agg (ChanR.pc r)) e0 (ple rfl))
theorem chans_Chan_Credit_ok (c : ChanR) (n : Int) : Fn Tryz.prog gb 11 [.agg (ChanR.pc c), .int .u64 n] (.tup [.agg (ChanR.pc ((chans_Chan_Credit c n).1)), .int .i64 ((chans_Chan_Credit c n).2)]) := by
  refine fn_cw tbv41ok Tryz.func11 rfl Tryz.ntmps11 rfl cb11 rfl rfl fun w N H hG => ?_
  have c_takers_l : c.takers.length ≤ 140737488355328 := w.1.2.1.1
  have c_lent_l : c.lent.length ≤ 140737488355328 := w.1.2.2.1.1
  have c_held_l_l : c.held.l.length ≤ 140737488355328 := w.1.2.2.2.2.2.2.1.1
  have n_r : 0 ≤ n ∧ n ≤ 18446744073709551615 := w.2.1
  have e0 := chans_Chan_Credit.eq_1 c n
  refine go tbv41ok 2 rfl rfl trivial ?_
  refine ef (boxA 0 rfl rfl rfl fun b1 => ?_)
  refine ef (alloc tbv41ok 1 rfl rfl rfl rfl fun b2 => ?_)
  refine go tbv41ok 14 rfl rfl ⟨(fun hc => hc), rfl, rfl, trivial⟩ ?_
  refine cnd rfl (fun h3 => ?_) (fun h3 => ?_)
  · have e4 := e0.trans (condT h3)
    refine go tbv41ok 3 rfl rfl trivial ?_
    refine ef (storeA tbv41ok rfl rfl rfl rfl rfl rfl rfl rfl rfl rfl ?_)
    refine go tbv41ok 5 rfl rfl trivial ?_
    exact rt2 rfl rfl (ple_of (fun r : ChanR × Int => .tup [.agg (ChanR.pc r.1), .int .i64 r.2]) e4 (ple rfl))
  · have h5 := orl h3
    have p6 := df h5
    have h7 := orr h3
    have p8 := df h7
    have e9 := e0.trans (condF h3)
    refine go tbv41ok 7 rfl rfl trivial ?_
    refine ef (store1 tbv41ok rfl rfl rfl rfl rfl rfl rfl rfl rfl ?_)
    refine go tbv41ok 5 rfl rfl trivial ?_
    refine ef (storeA tbv41ok rfl rfl rfl rfl rfl rfl rfl rfl rfl rfl ?_)
    refine go tbv41ok 4 rfl rfl trivial ?_
    exact rt2 rfl rfl (ple_of (fun r : ChanR × Int => .tup [.agg (ChanR.pc r.1), .int .i64 r.2]) e9 (ple rfl))
theorem chans_Chan_Room_ok (c : ChanR) (hc : 0 ≤ c.credit ∧ c.credit ≤ 1000) : Fn Tryz.prog gb 12 [.agg (ChanR.pc c)] (.int .i64 (chans_Chan_Room c)) := by
  refine fn_cw tbv41ok Tryz.func12 rfl Tryz.ntmps12 rfl cb12 rfl rfl fun w N H hG => ?_
  have c_takers_l : c.takers.length ≤ 140737488355328 := w.1.2.1.1
  have c_lent_l : c.lent.length ≤ 140737488355328 := w.1.2.2.1.1
  have c_held_l_l : c.held.l.length ≤ 140737488355328 := w.1.2.2.2.2.2.2.1.1
  have e0 := chans_Chan_Room.eq_1 c
  refine go tbv41ok 2 rfl rfl trivial ?_
  refine ef (boxA 0 rfl rfl rfl fun b1 => ?_)
  refine go tbv41ok 16 rfl rfl ⟨(by omega), trivial⟩ ?_
  exact rt1 rfl rfl (ple_of (fun r : Int => .int .i64 r) e0 (ple rfl))
end Go.SW.V
set_option linter.unusedVariables false
set_option maxRecDepth 100000
set_option maxHeartbeats 4000000
namespace Go.SW.V
open Go.SW Go.Proofs
theorem cb133 : Callable Tryz.prog 133 := callable_of Tryz.func133 (by kernel_rfl) (by kernel_rfl)
theorem cb149 : Callable Tryz.prog 149 := callable_of Tryz.func149 (by kernel_rfl) (by kernel_rfl)
theorem cb153 : Callable Tryz.prog 153 := callable_of Tryz.func153 (by kernel_rfl) (by kernel_rfl)
def tbv45 : Tb := [(9, ⟨.str, 1, 16, [.str []]⟩),
  (44, ⟨.agg [(0, 1), (1, 1), (2, 1)], 3, 40, [.str [], .int .u8 0, .str []]⟩),
  (49, ⟨.agg [(0, 1), (1, 1), (2, 1), (3, 1), (4, 1), (5, 1)], 6, 88, [.str [], .str [], .bool false, .str [], .sl Pair.pc [], .bool false]⟩),
  (146, ⟨.slc 9, 1, 24, [.sl strc []]⟩),
  (188, ⟨.slc 44, 1, 24, [.sl ShopR.pc []]⟩),
  (189, ⟨.slc 49, 1, 24, [.sl BindR.pc []]⟩),
  (191, ⟨.agg [(0, 1), (1, 1)], 2, 48, [.sl ShopR.pc [], .sl BindR.pc []]⟩),
  (217, ⟨.slc 188, 1, 24, [.sl (slc ShopR.pc) []]⟩)]
theorem tbv45ok : tbB Tryz.prog tbv45 = true := by kernel_rfl
theorem route_put_ok (l : List Bs) (s : Bs) (hl : l.length ≤ 100000) : Fl Tryz.prog gb 153 [.str s] (fun u => .val u) 1 9 strc l (route_put l s) := by
  refine fl_cw tbv45ok Tryz.func153 rfl Tryz.ntmps153 rfl cb153 (fun _ => rfl) rfl fun w l_l u0 N H hG => ?_
  have s_l : s.length ≤ 9223372036854775807 := w.1
  have e0 := route_put.eq_1 l s
  refine go tbv45ok 10 rfl rfl trivial ?_
  refine ef (calll 0 rfl (contains_Str _ _) rfl rfl rfl fun w1 => ?_)
  refine go tbv45ok 2 rfl rfl trivial ?_
  refine cnd rfl (fun h2 => ?_) (fun h2 => ?_)
  · have p3 := dt h2
    have e4 := e0.trans (condT h2)
    refine go tbv45ok 6 rfl rfl trivial ?_
    refine sw_val (t := 4) (i := 0) rfl rfl ?_
    refine go tbv45ok 2 rfl rfl trivial ?_
    refine ro1 (j := 0) rfl rfl rfl ?_
    · exact (congrArg (fun r : (List Bs) => r) e4).symm
  · have p5 := df h2
    have e6 := e0.trans (condF h2)
    refine go tbv45ok 6 rfl rfl trivial ?_
    refine ef (bsl 1 strc [s] tbv45ok rfl rfl rfl rfl rfl (fun _ => rfl) rfl (by decide) (by decide) rfl fun u7 => ?_)
    refine ef (app tbv45ok [s] rfl rfl rfl rfl rfl rfl rfl rfl rfl (src_o rfl rfl) (by first | omega | (simp; omega)) rfl fun u8 => ?_)
    refine go tbv45ok 3 rfl rfl trivial ?_
    refine sw_val (t := 4) (i := 0) rfl rfl ?_
    refine go tbv45ok 1 rfl rfl trivial ?_
    refine ro1 (j := 0) rfl rfl rfl ?_
    · exact (congrArg (fun r : (List Bs) => r) e6).symm
theorem route_Book_Make_ok (b : BookR) (x : ShopR) (hs : b.shops.length ≤ 1000) : Fn Tryz.prog gb 133 [.agg (BookR.pc b), .agg (ShopR.pc x)] (.tup [.agg (BookR.pc ((route_Book_Make b x).1)), .int .i64 ((route_Book_Make b x).2)]) := by
  refine fn_cw tbv45ok Tryz.func133 rfl Tryz.ntmps133 rfl cb133 rfl rfl fun w N H hG => ?_
  have b_shops_l : b.shops.length ≤ 140737488355328 := w.1.1.1
  have b_binds_l : b.binds.length ≤ 140737488355328 := w.1.2.1.1
  have e0 := route_Book_Make.eq_1 b x
  refine go tbv45ok 2 rfl rfl trivial ?_
  refine ef (boxA 0 rfl rfl rfl fun b1 => ?_)
  refine ef (boxA 1 rfl rfl rfl fun b2 => ?_)
  refine ef (alloc tbv45ok 2 rfl rfl rfl rfl fun b3 => ?_)
  refine go tbv45ok 7 rfl rfl trivial ?_
  refine call (shop_check _) rfl rfl fun w4 => ?_
  have := shopE_r x
  refine go tbv45ok 9 rfl rfl trivial ?_
  refine cnd rfl (fun h5 => ?_) (fun h5 => ?_)
  · have h6 := not_t h5
    have p7 := df h6
    have e8 := e0.trans (condT h5)
    refine go tbv45ok 4 rfl rfl trivial ?_
    refine ef (storeA tbv45ok rfl rfl rfl rfl rfl rfl rfl rfl rfl rfl ?_)
    refine go tbv45ok 5 rfl rfl trivial ?_
    exact rt2 rfl rfl (ple_of (fun r : BookR × Int => .tup [.agg (BookR.pc r.1), .int .i64 r.2]) e8 (ple rfl))
  · have h9 := not_f h5
    have p10 := dt h9
    have e11 := e0.trans (condF h5)
    refine go tbv45ok 7 rfl rfl trivial ?_
    refine call (book_Shop _ _) rfl rfl fun w12 => ?_
    refine go tbv45ok 3 rfl rfl trivial ?_
    refine ef (alloc tbv45ok 3 rfl rfl rfl rfl fun b13 => ?_)
    refine ef (storeA tbv45ok rfl rfl rfl rfl rfl rfl rfl rfl rfl rfl ?_)
    refine go tbv45ok 11 rfl rfl trivial ?_
    refine q1g [25, 26] rfl (fun hc => saeq rfl rfl eqg44 (veq44 x ((shopOf b.shops x.name).getD ShopR.zero))) ⟨(fun hc => hc), (fun hc => hc), trivial⟩ rfl rfl rfl fun _ => ?_
    refine go tbv45ok 4 rfl rfl ⟨rfl, rfl, trivial⟩ ?_
    refine cnd rfl (fun h14 => ?_) (fun h14 => ?_)
    · have h15 := bl h14
      have h16 := br h14
      have p17 := dt h16
      have e18 := e11.trans (condT h14)
      refine go tbv45ok 3 rfl rfl trivial ?_
      refine ef (storeA tbv45ok rfl rfl rfl rfl rfl rfl rfl rfl rfl rfl ?_)
      refine go tbv45ok 6 rfl rfl trivial ?_
      exact rt2 rfl rfl (ple_of (fun r : BookR × Int => .tup [.agg (BookR.pc r.1), .int .i64 r.2]) e18 (ple rfl))
    · have e19 := e11.trans (condF h14)
      refine go tbv45ok 6 rfl rfl trivial ?_
      refine cnd rfl (fun h20 => ?_) (fun h20 => ?_)
      · have e21 := e19.trans (condT h20)
        refine go tbv45ok 3 rfl rfl trivial ?_
        refine ef (storeA tbv45ok rfl rfl rfl rfl rfl rfl rfl rfl rfl rfl ?_)
        refine go tbv45ok 6 rfl rfl trivial ?_
        exact rt2 rfl rfl (ple_of (fun r : BookR × Int => .tup [.agg (BookR.pc r.1), .int .i64 r.2]) e21 (ple rfl))
      · have e22 := e19.trans (condF h20)
        refine go tbv45ok 9 rfl rfl trivial ?_
        refine cnd rfl (fun h23 => ?_) (fun h23 => ?_)
        · have p24 := dt h23
          have e25 := e22.trans (condT h23)
          refine go tbv45ok 3 rfl rfl trivial ?_
          refine ef (storeA tbv45ok rfl rfl rfl rfl rfl rfl rfl rfl rfl rfl ?_)
          refine go tbv45ok 6 rfl rfl trivial ?_
          exact rt2 rfl rfl (ple_of (fun r : BookR × Int => .tup [.agg (BookR.pc r.1), .int .i64 r.2]) e25 (ple rfl))
        · have p26 := df h23
          have e27 := e22.trans (condF h23)
          refine go tbv45ok 8 rfl rfl trivial ?_
          refine ef (bsl 4 ShopR.pc [x] tbv45ok rfl rfl rfl rfl rfl (fun _ => rfl) rfl (by decide) (by decide) rfl fun u28 => ?_)
          refine give 4 rfl ?_
          refine ef (bsl 4 (slc ShopR.pc) [b.shops, [x]] tbv45ok rfl rfl rfl rfl rfl (fun _ => rfl) rfl (by decide) (by decide) rfl fun u29 => ?_)
          refine give 4 rfl ?_
          refine call (concat_Shop _ (by first | omega | (simp; done) | (simp; omega) | (simp only [List.flatten_cons, List.flatten_nil, List.length_append, List.append_nil]; simp; omega))) rfl rfl fun w30 => ?_
          refine go tbv45ok 1 rfl rfl trivial ?_
          refine ef (store1 tbv45ok rfl rfl rfl rfl rfl rfl rfl rfl rfl ?_)
          refine go tbv45ok 5 rfl rfl trivial ?_
          refine ef (storeA tbv45ok rfl rfl rfl rfl rfl rfl rfl rfl rfl rfl ?_)
          refine go tbv45ok 4 rfl rfl trivial ?_
          exact rt2 rfl rfl (ple_of (fun r : BookR × Int => .tup [.agg (BookR.pc r.1), .int .i64 r.2]) e27 (ple rfl))
theorem route_Book_there_ok (b : BookR) (x : BindR) : Fn Tryz.prog gb 149 [.agg (BookR.pc b), .agg (BindR.pc x)] (.int .i64 (route_Book_there b x)) := by
  refine fn_cw tbv45ok Tryz.func149 rfl Tryz.ntmps149 rfl cb149 rfl rfl fun w N H hG => ?_
  have b_shops_l : b.shops.length ≤ 140737488355328 := w.1.1.1
  have b_binds_l : b.binds.length ≤ 140737488355328 := w.1.2.1.1
  have x_want_l : x.want.length ≤ 140737488355328 := w.2.1.2.2.2.2.1.1
  have e0 := route_Book_there.eq_1 b x
  refine go tbv45ok 2 rfl rfl trivial ?_
  refine ef (boxA 0 rfl rfl rfl fun b1 => ?_)
  refine ef (boxA 1 rfl rfl rfl fun b2 => ?_)
  refine go tbv45ok 9 rfl rfl trivial ?_
  refine call (idxF_Bind _ _ _ _ (fun z_3 : BindR => decide (x = z_3)) (fun z_3 => bind_same x z_3)) rfl rfl fun w4 => ?_
  have hix4 := idxP_b (fun z_3 : BindR => decide (x = z_3)) b.binds
  refine go tbv45ok 4 rfl rfl trivial ?_
  exact rt1 rfl rfl (ple_of (fun r : Int => .int .i64 r) e0 (ple rfl))
end Go.SW.V
set_option linter.unusedVariables false
set_option maxRecDepth 100000
set_option maxHeartbeats 4000000
namespace Go.SW.V
open Go.SW Go.Proofs
theorem cb134 : Callable Tryz.prog 134 := callable_of Tryz.func134 (by kernel_rfl) (by kernel_rfl)
theorem cb135 : Callable Tryz.prog 135 := callable_of Tryz.func135 (by kernel_rfl) (by kernel_rfl)
def tbv46 : Tb := [(4, ⟨.bool, 1, 1, [.bool false]⟩),
  (5, ⟨.int .u8, 1, 1, [.int .u8 0]⟩),
  (9, ⟨.str, 1, 16, [.str []]⟩),
  (44, ⟨.agg [(0, 1), (1, 1), (2, 1)], 3, 40, [.str [], .int .u8 0, .str []]⟩),
  (49, ⟨.agg [(0, 1), (1, 1), (2, 1), (3, 1), (4, 1), (5, 1)], 6, 88, [.str [], .str [], .bool false, .str [], .sl Pair.pc [], .bool false]⟩),
  (146, ⟨.slc 9, 1, 24, [.sl strc []]⟩),
  (189, ⟨.slc 49, 1, 24, [.sl BindR.pc []]⟩),
  (191, ⟨.agg [(0, 1), (1, 1)], 2, 48, [.sl ShopR.pc [], .sl BindR.pc []]⟩),
  (221, ⟨.slc 189, 1, 24, [.sl (slc BindR.pc) []]⟩)]
theorem tbv46ok : tbB Tryz.prog tbv46 = true := by kernel_rfl
theorem route_Book_Bind_ok (b : BookR) (x : BindR) (hb : b.binds.length ≤ 1000) (hw : x.want.length ≤ 1000) : Fn Tryz.prog gb 134 [.agg (BookR.pc b), .agg (BindR.pc x)] (.tup [.agg (BookR.pc ((route_Book_Bind b x).1)), .int .i64 ((route_Book_Bind b x).2)]) := by
  refine fn_cw tbv46ok Tryz.func134 rfl Tryz.ntmps134 rfl cb134 rfl rfl fun w N H hG => ?_
  have b_shops_l : b.shops.length ≤ 140737488355328 := w.1.1.1
  have b_binds_l : b.binds.length ≤ 140737488355328 := w.1.2.1.1
  have x_want_l : x.want.length ≤ 140737488355328 := w.2.1.2.2.2.2.1.1
  have e0 := route_Book_Bind.eq_1 b x
  refine go tbv46ok 2 rfl rfl trivial ?_
  refine ef (boxA 0 rfl rfl rfl fun b1 => ?_)
  refine ef (boxA 1 rfl rfl rfl fun b2 => ?_)
  refine ef (alloc tbv46ok 2 rfl rfl rfl rfl fun b3 => ?_)
  refine go tbv46ok 8 rfl rfl trivial ?_
  refine call (book_Shop _ _) rfl rfl fun w4 => ?_
  refine go tbv46ok 3 rfl rfl trivial ?_
  refine ef (alloc tbv46ok 3 rfl rfl rfl rfl fun b5 => ?_)
  refine ef (storeA tbv46ok rfl rfl rfl rfl rfl rfl rfl rfl rfl rfl ?_)
  refine go tbv46ok 12 rfl rfl trivial ?_
  refine cnd rfl (fun h6 => ?_) (fun h6 => ?_)
  · have h7 := not_t h6
    have e8 := e0.trans (condT h6)
    refine go tbv46ok 3 rfl rfl trivial ?_
    refine ef (storeA tbv46ok rfl rfl rfl rfl rfl rfl rfl rfl rfl rfl ?_)
    refine go tbv46ok 6 rfl rfl trivial ?_
    exact rt2 rfl rfl (ple_of (fun r : BookR × Int => .tup [.agg (BookR.pc r.1), .int .i64 r.2]) e8 (ple rfl))
  · have h9 := not_f h6
    have e10 := e0.trans (condF h6)
    refine go tbv46ok 8 rfl rfl trivial ?_
    refine cnd rfl (fun h11 => ?_) (fun h11 => ?_)
    · have p12 := dt h11
      have e13 := e10.trans (condT h11)
      refine go tbv46ok 3 rfl rfl trivial ?_
      refine ef (storeA tbv46ok rfl rfl rfl rfl rfl rfl rfl rfl rfl rfl ?_)
      refine go tbv46ok 6 rfl rfl trivial ?_
      exact rt2 rfl rfl (ple_of (fun r : BookR × Int => .tup [.agg (BookR.pc r.1), .int .i64 r.2]) e13 (ple rfl))
    · have p14 := df h11
      have e15 := e10.trans (condF h11)
      refine go tbv46ok 8 rfl rfl trivial ?_
      refine call (words_Name _) rfl rfl fun w16 => ?_
      refine go tbv46ok 9 rfl rfl trivial ?_
      refine cnd rfl (fun h17 => ?_) (fun h17 => ?_)
      · have h18 := not_t h17
        have p19 := df h18
        have e20 := e15.trans (condT h17)
        refine go tbv46ok 4 rfl rfl trivial ?_
        refine ef (storeA tbv46ok rfl rfl rfl rfl rfl rfl rfl rfl rfl rfl ?_)
        refine go tbv46ok 5 rfl rfl trivial ?_
        exact rt2 rfl rfl (ple_of (fun r : BookR × Int => .tup [.agg (BookR.pc r.1), .int .i64 r.2]) e20 (ple rfl))
      · have h21 := not_f h17
        have p22 := dt h21
        have e23 := e15.trans (condF h17)
        refine go tbv46ok 8 rfl rfl trivial ?_
        refine call (bind_rule _ _) rfl rfl fun w24 => ?_
        refine call (rule_Check _) rfl rfl fun w25 => ?_
        refine go tbv46ok 11 rfl rfl trivial ?_
        refine cnd rfl (fun h26 => ?_) (fun h26 => ?_)
        · have h27 := not_t h26
          have p28 := df h27
          have e29 := e23.trans (condT h26)
          refine go tbv46ok 4 rfl rfl trivial ?_
          refine ef (storeA tbv46ok rfl rfl rfl rfl rfl rfl rfl rfl rfl rfl ?_)
          refine go tbv46ok 6 rfl rfl trivial ?_
          exact rt2 rfl rfl (ple_of (fun r : BookR × Int => .tup [.agg (BookR.pc r.1), .int .i64 r.2]) e29 (ple rfl))
        · have h30 := not_f h26
          have p31 := dt h30
          have e32 := e23.trans (condF h26)
          refine go tbv46ok 4 rfl rfl trivial ?_
          refine callv (route_Book_there b x) (fun r : Int => .int .i64 r) (route_Book_there_ok _ _) rfl rfl fun r hr33 w34 => ?_
          have e35 := e32.trans (lt_eq hr33)
          have hA35 := there_r b x
          (try rw [← hr33] at hA35)
          refine go tbv46ok 4 rfl rfl trivial ?_
          refine cnd rfl (fun h37 => ?_) (fun h37 => ?_)
          · have p38 := dt h37
            have e39 := e35.trans (condT h37)
            refine go tbv46ok 3 rfl rfl trivial ?_
            refine ef (storeA tbv46ok rfl rfl rfl rfl rfl rfl rfl rfl rfl rfl ?_)
            refine go tbv46ok 6 rfl rfl trivial ?_
            exact rt2 rfl rfl (ple_of (fun r : BookR × Int => .tup [.agg (BookR.pc r.1), .int .i64 r.2]) e39 (ple rfl))
          · have p40 := df h37
            have e41 := e35.trans (condF h37)
            refine go tbv46ok 9 rfl rfl trivial ?_
            refine cnd rfl (fun h42 => ?_) (fun h42 => ?_)
            · have p43 := dt h42
              have e44 := e41.trans (condT h42)
              refine go tbv46ok 3 rfl rfl trivial ?_
              refine ef (storeA tbv46ok rfl rfl rfl rfl rfl rfl rfl rfl rfl rfl ?_)
              refine go tbv46ok 6 rfl rfl trivial ?_
              exact rt2 rfl rfl (ple_of (fun r : BookR × Int => .tup [.agg (BookR.pc r.1), .int .i64 r.2]) e44 (ple rfl))
            · have p45 := df h42
              have e46 := e41.trans (condF h42)
              refine go tbv46ok 4 rfl rfl trivial ?_
              refine any [4, 5, 6, 7, 8, 9] 9 mixd rfl ?_
              refine gov tbv46ok [0, 1, 2] 6 rfl (by kernel_rfl) rfl rfl trivial ?_
              refine ve 3 rfl (by kernel_rfl) rfl (ecall (bind_clone _ (by first | omega | (simp; done) | decide)) rfl rfl fun w47 => ?_)
              refine ve 4 rfl (by kernel_rfl) rfl (bsl 4 BindR.pc [x] tbv46ok rfl rfl rfl rfl rfl (fun _ => rfl) rfl (by decide) (by decide) rfl fun u48 => ?_)
              refine ve 5 rfl (by kernel_rfl) rfl (egive 4 rfl (bsl 4 (slc BindR.pc) [b.binds, [x]] tbv46ok rfl rfl rfl rfl rfl (fun _ => rfl) rfl (by decide) (by decide) rfl fun u49 => ?_))
              refine ve 6 rfl (by kernel_rfl) rfl (egive 4 rfl (eweak (ecall (concat_Bind _ (by first | omega | (simp; done) | (simp; omega) | (simp only [List.flatten_cons, List.flatten_nil, List.length_append, List.append_nil]; simp; omega))) rfl rfl fun w50 => ?_)))
              refine gov tbv46ok [7] 1 rfl (by kernel_rfl) rfl rfl trivial ?_
              refine vt 8 rfl (by kernel_rfl) (by kernel_rfl) (store1 tbv46ok rfl rfl rfl rfl rfl rfl rfl rfl rfl ?_)
              refine vdone (by kernel_rfl) ?_
              refine go tbv46ok 4 rfl rfl trivial ?_
              refine ef (storeA tbv46ok rfl rfl rfl rfl rfl rfl rfl rfl rfl rfl ?_)
              refine go tbv46ok 4 rfl rfl trivial ?_
              exact rt2 rfl rfl (ple_of (fun r : BookR × Int => .tup [.agg (BookR.pc r.1), .int .i64 r.2]) e46 (ple rfl))
theorem route_Book_Leads_ok (b : BookR) (shop : Bs) (key : Bs) (h : List Pair) (hb : b.binds.length ≤ 1000) (hk : key.length < 4294967281) (hr : ∀ y ∈ b.binds, y.key.length < 4294967281) : Fn Tryz.prog gb 135 [.agg (BookR.pc b), .str shop, .str key, .sl Pair.pc h] (.tup [.sl strc ((route_Book_Leads b shop key h).1), .sl strc ((route_Book_Leads b shop key h).2.1), .int .i64 ((route_Book_Leads b shop key h).2.2)]) := by
  refine fn_cw tbv46ok Tryz.func135 rfl Tryz.ntmps135 rfl cb135 rfl rfl fun w N H hG => ?_
  have b_shops_l : b.shops.length ≤ 140737488355328 := w.1.1.1
  have b_binds_l : b.binds.length ≤ 140737488355328 := w.1.2.1.1
  have shop_l : shop.length ≤ 9223372036854775807 := w.2.1
  have key_l : key.length ≤ 9223372036854775807 := w.2.2.1
  have h_l : h.length ≤ 140737488355328 := w.2.2.2.1.1
  have e0 := route_Book_Leads.eq_1 b shop key h
  refine go tbv46ok 2 rfl rfl trivial ?_
  refine ef (boxA 0 rfl rfl rfl fun b1 => ?_)
  refine go tbv46ok 10 rfl rfl trivial ?_
  refine call (book_Shop _ _) rfl rfl fun w2 => ?_
  refine go tbv46ok 3 rfl rfl trivial ?_
  refine ef (alloc tbv46ok 1 rfl rfl rfl rfl fun b3 => ?_)
  refine ef (storeA tbv46ok rfl rfl rfl rfl rfl rfl rfl rfl rfl rfl ?_)
  refine go tbv46ok 12 rfl rfl trivial ?_
  refine cnd rfl (fun h4 => ?_) (fun h4 => ?_)
  · have h5 := not_t h4
    have e6 := e0.trans (condT h4)
    refine go tbv46ok 11 rfl rfl trivial ?_
    exact rt3 rfl rfl (ple_of (fun r : (List Bs) × (List Bs) × Int => .tup [.sl strc r.1, .sl strc r.2.1, .int .i64 r.2.2]) e6 (ple_tup (ples_cons ple_nil (ples_cons ple_nil (ples_cons (ple rfl) ples_nil)))))
  · have h7 := not_f h4
    have e8 := e0.trans (condF h4)
    refine go tbv46ok 8 rfl rfl trivial ?_
    refine cnd rfl (fun h9 => ?_) (fun h9 => ?_)
    · have p10 := dt h9
      have e11 := e8.trans (condT h9)
      refine go tbv46ok 1 rfl rfl trivial ?_
      refine any [2, 3, 4, 5, 6, 7] 6 mixd rfl ?_
      refine gov tbv46ok [0, 1, 3] 3 rfl (by kernel_rfl) rfl rfl trivial ?_
      refine ve 2 rfl (by kernel_rfl) rfl (bsl 2 strc [((shopOf b.shops shop).getD ShopR.zero).to] tbv46ok rfl rfl rfl rfl rfl (fun _ => rfl) rfl (by decide) (by decide) rfl fun u12 => ?_)
      refine gov tbv46ok [4, 5] 0 rfl (by kernel_rfl) rfl rfl trivial ?_
      refine vdone (by kernel_rfl) ?_
      refine go tbv46ok 1 rfl rfl trivial ?_
      refine givec 2 rfl ?_
      refine go tbv46ok 4 rfl rfl trivial ?_
      exact rt3 rfl rfl (ple_of (fun r : (List Bs) × (List Bs) × Int => .tup [.sl strc r.1, .sl strc r.2.1, .int .i64 r.2.2]) e11 (ple_tup (ples_cons ple_nil (ples_cons (ple rfl) (ples_cons (ple rfl) ples_nil)))))
    · have p13 := df h9
      have e14 := e8.trans (condF h9)
      refine go tbv46ok 22 rfl rfl trivial ?_
      refine sw_own (t := 13) (k := 1) (e := 9) 2 strc rfl rfl ?_
      refine sw_own (t := 14) (k := 1) (e := 9) 3 strc rfl rfl ?_
      refine loop (ι := Nat × (List Bs) × (List Bs) × Value × Value) [1, 2, 3, 8, 9, 10, 11, 34, 35] [0, 1] (fun ⟨k, queues, places, u_queues, u_places⟩ => [(36, .int .i64 (k : Int)), (13, .osl 2), (14, .osl 3)]) (fun ⟨k, queues, places, u_queues, u_places⟩ => [(2, .arr u_queues 1 9 strc queues), (3, .arr u_places 1 9 strc places)]) (fun ⟨k, queues, places, u_queues, u_places⟩ => k ≤ b.binds.length ∧ route_Book_Leads b shop key h = route_Book_Leads_l0 b shop key h (b.binds.drop k)  queues places ∧ queues.length ≤ k ∧ places.length ≤ k) (fun ⟨k, queues, places, u_queues, u_places⟩ => b.binds.length - k) ⟨0, [], [], (.slice none 0 0), (.slice none 0 0)⟩ ⟨rfl, rfl, rfl, trivial⟩ ⟨rfl, rfl, trivial⟩ ?_ ?_
      · exact ⟨Nat.zero_le _, e14, (by first | omega | (simp; done) | (simp; omega))⟩
      · rintro ⟨k, queues, places, u_queues, u_places⟩ ⟨hp15_1, hp15_2, hp15_3⟩
        refine go tbv46ok 6 rfl rfl trivial ?_
        refine cnd rfl (fun h16 => ?_) (fun h16 => ?_)
        · have p17 := dt h16
          have e18 := lstep (f := fun zz => route_Book_Leads_l0 b shop key h zz  queues places) hp15_2 (dropG (by omega)) (route_Book_Leads_l0.eq_2 _ _ _ _ _ _ _ _)
          have hc19 := getG (xs := b.binds) (k := k) (by omega)
          have hr_hc19 := hr (gt b.binds k) (List.mem_of_getElem? hc19)
          refine go tbv46ok 6 rfl rfl trivial ?_
          refine q1 (qidx tbv46ok k rfl rfl rfl hc19 rfl rfl rfl rfl) rfl fun w20 => ?_
          refine go tbv46ok 1 rfl rfl trivial ?_
          refine ef (alloc tbv46ok 4 rfl rfl rfl rfl fun b21 => ?_)
          refine ef (storeA tbv46ok rfl rfl rfl rfl rfl rfl rfl rfl rfl rfl ?_)
          refine go tbv46ok 4 rfl rfl trivial ?_
          obtain ⟨o, e_o, q_o⟩ := lt1_split e18
          refine joinc (ι := Bool) [1, 2, 3, 8, 9, 10, 11, 13, 14, 16, 34, 35, 36] [0, 1, 2, 3, 4] (fun v => [(44, .bool v)]) (fun v => []) (fun v => o = v) ?_ ?_
          · refine go tbv46ok 9 rfl rfl trivial ?_
            refine cnd rfl (fun h22 => ?_) (fun h22 => ?_)
            · have h23 := not_t h22
              have p24 := df h23
              have e25 := e_o.trans (condT h22)
              refine go tbv46ok 1 rfl rfl trivial ?_
              refine next (!decide (((gt b.binds k).shop) = shop)) rfl rfl ⟨rfl, trivial⟩ trivial (by decide) ?_
              exact e25
            · have h26 := not_f h22
              have p27 := dt h26
              have e28 := e_o.trans (condF h22)
              refine go tbv46ok 4 rfl rfl trivial ?_
              refine call (bind_rule _ _) rfl rfl fun w29 => ?_
              refine go tbv46ok 2 rfl rfl trivial ?_
              refine call (rule_Goes _ _ _ (by simp only [bindRule]; omega) (by first | omega | (simp; done) | decide)) rfl rfl fun w30 => ?_
              refine go tbv46ok 3 rfl rfl trivial ?_
              refine next (!(goesR (bindRule (gt b.binds k) (((shopOf b.shops shop).getD ShopR.zero).sort)) key h)) rfl rfl ⟨rfl, trivial⟩ trivial (by decide) ?_
              exact e28
          · rintro v hp31
            have e32 := lt1_fin q_o hp31
            refine go tbv46ok 1 rfl rfl trivial ?_
            refine cnd rfl (fun h33 => ?_) (fun h33 => ?_)
            · have e34 := e32.trans (condT h33)
              refine go tbv46ok 8 rfl rfl ⟨(by omega), trivial⟩ ?_
              refine next ⟨(k + 1), queues, places, (u_queues), (u_places)⟩ rfl rfl ⟨rfl, rfl, rfl, trivial⟩ ⟨rfl, rfl, trivial⟩ ?_ ?_
              · (try simp only []); omega
              · exact ⟨by (try simp only []); omega, e34, ⟨by (try simp only []); omega, by (try simp only []); omega⟩⟩
            · have e35 := e32.trans (condF h33)
              refine go tbv46ok 7 rfl rfl trivial ?_
              refine cnd rfl (fun h36 => ?_) (fun h36 => ?_)
              · have e37 := e35.trans (condT h36)
                refine go tbv46ok 4 rfl rfl trivial ?_
                refine ef (ecallw (route_put_ok _ _ (by first | omega | (simp; omega) | decide +kernel)) rfl rfl rfl rfl rfl rfl ?_)
                generalize hr40 : route_put places ((gt b.binds k).to) = r
                intro u38 w39
                have e41 := e37.trans (lt_eq hr40.symm)
                have hr40 := hr40.symm
                have hA41 := put_len places ((gt b.binds k).to)
                (try rw [← hr40] at hA41)
                refine go tbv46ok 9 rfl rfl ⟨(by omega), trivial⟩ ?_
                refine lj_osl (t := 14) 3 rfl rfl ?_
                refine next ⟨(k + 1), queues, r, (u_queues), (u38)⟩ rfl rfl ⟨rfl, rfl, rfl, trivial⟩ ⟨rfl, rfl, trivial⟩ ?_ ?_
                · (try simp only []); omega
                · exact ⟨by (try simp only []); omega, e41, ⟨by (try simp only []); omega, by (try simp only []); omega⟩⟩
              · have e43 := e35.trans (condF h36)
                refine go tbv46ok 4 rfl rfl trivial ?_
                refine ef (ecallw (route_put_ok _ _ (by first | omega | (simp; omega) | decide +kernel)) rfl rfl rfl rfl rfl rfl ?_)
                generalize hr46 : route_put queues ((gt b.binds k).to) = r1
                intro u44 w45
                have e47 := e43.trans (lt_eq hr46.symm)
                have hr46 := hr46.symm
                have hA47 := put_len queues ((gt b.binds k).to)
                (try rw [← hr46] at hA47)
                refine go tbv46ok 9 rfl rfl ⟨(by omega), trivial⟩ ?_
                refine lj_osl (t := 13) 2 rfl rfl ?_
                refine next ⟨(k + 1), r1, places, (u44), (u_places)⟩ rfl rfl ⟨rfl, rfl, rfl, trivial⟩ ⟨rfl, rfl, trivial⟩ ?_ ?_
                · (try simp only []); omega
                · exact ⟨by (try simp only []); omega, e47, ⟨by (try simp only []); omega, by (try simp only []); omega⟩⟩
        · have p49 := df h16
          have e50 := lstep (f := fun zz => route_Book_Leads_l0 b shop key h zz  queues places) hp15_2 (dropN (by omega)) (route_Book_Leads_l0.eq_1 _ _ _ _ _ _)
          refine go tbv46ok 14 rfl rfl trivial ?_
          refine givec 2 rfl ?_
          refine givec 3 rfl ?_
          refine go tbv46ok 2 rfl rfl trivial ?_
          exact rt3 rfl rfl (ple_of (fun r : (List Bs) × (List Bs) × Int => .tup [.sl strc r.1, .sl strc r.2.1, .int .i64 r.2.2]) e50 (ple rfl))
end Go.SW.V
set_option linter.unusedVariables false
set_option maxRecDepth 100000
set_option maxHeartbeats 4000000
namespace Go.SW.V
open Go.SW Go.Proofs
theorem cb13 : Callable Tryz.prog 13 := callable_of Tryz.func13 (by kernel_rfl) (by kernel_rfl)
theorem cb14 : Callable Tryz.prog 14 := callable_of Tryz.func14 (by kernel_rfl) (by kernel_rfl)
def tbv42 : Tb := [(4, ⟨.bool, 1, 1, [.bool false]⟩),
  (5, ⟨.int .u8, 1, 1, [.int .u8 0]⟩),
  (9, ⟨.str, 1, 16, [.str []]⟩),
  (22, ⟨.int .u64, 1, 8, [.int .u64 0]⟩),
  (24, ⟨.slc 126, 1, 24, [.sl TakerR.pc []]⟩),
  (25, ⟨.slc 39, 1, 24, [.sl LentR.pc []]⟩),
  (26, ⟨.slc 53, 1, 24, [.sl DeedR.pc []]⟩),
  (28, ⟨.agg [(0, 1)], 1, 24, [.sl DeedR.pc []]⟩),
  (30, ⟨.agg [(0, 1), (1, 1), (2, 1), (3, 1), (4, 1), (5, 1), (6, 1)], 7, 96, [.int .i64 0, .sl TakerR.pc [], .sl LentR.pc [], .bool false, .bool false, .int .u64 0, .sl DeedR.pc []]⟩),
  (39, ⟨.agg [(0, 1), (1, 1)], 2, 24, [.int .u64 0, .str []]⟩),
  (42, ⟨.slc 62, 1, 24, [.sl DeedR.pc []]⟩),
  (51, ⟨.agg [(0, 1), (1, 1), (2, 1), (3, 1), (4, 1), (5, 1), (6, 1)], 7, 96, [.int .u64 0, .str [], .str [], .sl Pair.pc [], .str [], .int .u64 0, .int .u8 0]⟩),
  (53, ⟨.agg [(0, 1), (1, 1), (2, 3), (5, 4), (9, 6), (15, 1), (16, 1), (17, 1), (18, 1), (19, 1), (20, 1), (21, 7), (28, 1)], 29, 344, [.int .u8 0, .int .u64 0, .str [], .int .u8 0, .str [], .str [], .int .u64 0, .int .u64 0, .str [], .str [], .str [], .bool false, .str [], .sl Pair.pc [], .bool false, .str [], .int .u64 0, .int .u8 0, .int .u8 0, .int .u8 0, .int .u64 0, .int .u64 0, .str [], .str [], .sl Pair.pc [], .str [], .int .u64 0, .int .u8 0, .str []]⟩),
  (62, ⟨.agg [(0, 1), (1, 1), (2, 3), (5, 4), (9, 6), (15, 1), (16, 1), (17, 1), (18, 1), (19, 1), (20, 1), (21, 7), (28, 1)], 29, 344, [.int .u8 0, .int .u64 0, .str [], .int .u8 0, .str [], .str [], .int .u64 0, .int .u64 0, .str [], .str [], .str [], .bool false, .str [], .sl Pair.pc [], .bool false, .str [], .int .u64 0, .int .u8 0, .int .u8 0, .int .u8 0, .int .u64 0, .int .u64 0, .str [], .str [], .sl Pair.pc [], .str [], .int .u64 0, .int .u8 0, .str []]⟩),
  (84, ⟨.slc 127, 1, 24, [.sl TakerR.pc []]⟩),
  (85, ⟨.slc 113, 1, 24, [.sl LentR.pc []]⟩),
  (87, ⟨.agg [(0, 1), (1, 1), (2, 1), (3, 1), (4, 1), (5, 1), (6, 1)], 7, 96, [.int .i64 0, .sl TakerR.pc [], .sl LentR.pc [], .bool false, .bool false, .int .u64 0, .sl DeedR.pc []]⟩),
  (113, ⟨.agg [(0, 1), (1, 1)], 2, 24, [.int .u64 0, .str []]⟩),
  (126, ⟨.agg [(0, 1), (1, 1)], 2, 24, [.int .u64 0, .str []]⟩),
  (127, ⟨.agg [(0, 1), (1, 1)], 2, 24, [.int .u64 0, .str []]⟩),
  (132, ⟨.slc 25, 1, 24, [.sl (slc LentR.pc) []]⟩),
  (135, ⟨.slc 26, 1, 24, [.sl (slc DeedR.pc) []]⟩),
  (166, ⟨.slc 24, 1, 24, [.sl (slc TakerR.pc) []]⟩)]
theorem tbv42ok : tbB Tryz.prog tbv42 = true := by kernel_rfl
theorem chans_Chan_Lend_ok (c : ChanR) (x : LentR) (hn : c.lent.length ≤ 1000) : Fn Tryz.prog gb 14 [.agg (ChanR.pc c), .agg (LentR.pc x)] (.agg (ChanR.pc (chans_Chan_Lend c x))) := by
  refine fn_cw tbv42ok Tryz.func14 rfl Tryz.ntmps14 rfl cb14 rfl rfl fun w N H hG => ?_
  have c_takers_l : c.takers.length ≤ 140737488355328 := w.1.2.1.1
  have c_lent_l : c.lent.length ≤ 140737488355328 := w.1.2.2.1.1
  have c_held_l_l : c.held.l.length ≤ 140737488355328 := w.1.2.2.2.2.2.2.1.1
  have e0 := chans_Chan_Lend.eq_1 c x
  refine go tbv42ok 2 rfl rfl trivial ?_
  refine ef (boxA 0 rfl rfl rfl fun b1 => ?_)
  refine ef (boxA 1 rfl rfl rfl fun b2 => ?_)
  refine ef (alloc tbv42ok 2 rfl rfl rfl rfl fun b3 => ?_)
  refine go tbv42ok 7 rfl rfl trivial ?_
  refine ef (bsl 3 LentR.pc [x] tbv42ok rfl rfl rfl rfl rfl (fun _ => rfl) rfl (by decide) (by decide) rfl fun u4 => ?_)
  refine give 3 rfl ?_
  refine ef (bsl 3 (slc LentR.pc) [c.lent, [x]] tbv42ok rfl rfl rfl rfl rfl (fun _ => rfl) rfl (by decide) (by decide) rfl fun u5 => ?_)
  refine give 3 rfl ?_
  refine call (concat_Lent _ (by first | omega | (simp; done) | (simp; omega) | (simp only [List.flatten_cons, List.flatten_nil, List.length_append, List.append_nil]; simp; omega))) rfl rfl fun w6 => ?_
  refine go tbv42ok 1 rfl rfl trivial ?_
  refine ef (store1 tbv42ok rfl rfl rfl rfl rfl rfl rfl rfl rfl ?_)
  refine go tbv42ok 5 rfl rfl trivial ?_
  refine ef (storeA tbv42ok rfl rfl rfl rfl rfl rfl rfl rfl rfl rfl ?_)
  refine go tbv42ok 3 rfl rfl trivial ?_
  exact rt1 rfl rfl (ple_of (fun r : ChanR => .agg (ChanR.pc r)) e0 (ple rfl))
theorem chans_Chan_Unsettled_ok (c : ChanR) (hn : c.lent.length ≤ 1000) : Fn Tryz.prog gb 13 [.agg (ChanR.pc c)] (.sl LentR.pc (chans_Chan_Unsettled c)) := by
  refine fn_cw tbv42ok Tryz.func13 rfl Tryz.ntmps13 rfl cb13 rfl rfl fun w N H hG => ?_
  have c_takers_l : c.takers.length ≤ 140737488355328 := w.1.2.1.1
  have c_lent_l : c.lent.length ≤ 140737488355328 := w.1.2.2.1.1
  have c_held_l_l : c.held.l.length ≤ 140737488355328 := w.1.2.2.2.2.2.2.1.1
  have e0 := chans_Chan_Unsettled.eq_1 c
  refine go tbv42ok 2 rfl rfl trivial ?_
  refine ef (boxA 0 rfl rfl rfl fun b1 => ?_)
  refine go tbv42ok 7 rfl rfl trivial ?_
  refine call (clone_Lent _ (by first | omega | (simp; done) | (simp; omega))) rfl rfl fun w2 => ?_
  refine go tbv42ok 4 rfl rfl trivial ?_
  exact rt1 rfl rfl (ple_of (fun r : (List LentR) => .sl LentR.pc r) e0 (ple rfl))
end Go.SW.V
set_option linter.unusedVariables false
set_option maxRecDepth 100000
set_option maxHeartbeats 4000000
namespace Go.SW.V
open Go.SW Go.Proofs
end Go.SW.V
set_option linter.unusedVariables false
set_option maxRecDepth 100000
set_option maxHeartbeats 4000000
namespace Go.SW.V
open Go.SW Go.Proofs
theorem cb102 : Callable Tryz.prog 102 := callable_of Tryz.func102 (by kernel_rfl) (by kernel_rfl)
theorem cb124 : Callable Tryz.prog 124 := callable_of Tryz.func124 (by kernel_rfl) (by kernel_rfl)
theorem cb15 : Callable Tryz.prog 15 := callable_of Tryz.func15 (by kernel_rfl) (by kernel_rfl)
theorem cb36 : Callable Tryz.prog 36 := callable_of Tryz.func36 (by kernel_rfl) (by kernel_rfl)
theorem cb39 : Callable Tryz.prog 39 := callable_of Tryz.func39 (by kernel_rfl) (by kernel_rfl)
theorem cb81 : Callable Tryz.prog 81 := callable_of Tryz.func81 (by kernel_rfl) (by kernel_rfl)
theorem cb9 : Callable Tryz.prog 9 := callable_of Tryz.func9 (by kernel_rfl) (by kernel_rfl)
def tbv47 : Tb := [(9, ⟨.str, 1, 16, [.str []]⟩),
  (30, ⟨.agg [(0, 1), (1, 1), (2, 1), (3, 1), (4, 1), (5, 1), (6, 1)], 7, 96, [.int .i64 0, .sl TakerR.pc [], .sl LentR.pc [], .bool false, .bool false, .int .u64 0, .sl DeedR.pc []]⟩),
  (39, ⟨.agg [(0, 1), (1, 1)], 2, 24, [.int .u64 0, .str []]⟩),
  (44, ⟨.agg [(0, 1), (1, 1), (2, 1)], 3, 40, [.str [], .int .u8 0, .str []]⟩),
  (49, ⟨.agg [(0, 1), (1, 1), (2, 1), (3, 1), (4, 1), (5, 1)], 6, 88, [.str [], .str [], .bool false, .str [], .sl Pair.pc [], .bool false]⟩),
  (53, ⟨.agg [(0, 1), (1, 1), (2, 3), (5, 4), (9, 6), (15, 1), (16, 1), (17, 1), (18, 1), (19, 1), (20, 1), (21, 7), (28, 1)], 29, 344, [.int .u8 0, .int .u64 0, .str [], .int .u8 0, .str [], .str [], .int .u64 0, .int .u64 0, .str [], .str [], .str [], .bool false, .str [], .sl Pair.pc [], .bool false, .str [], .int .u64 0, .int .u8 0, .int .u8 0, .int .u8 0, .int .u64 0, .int .u64 0, .str [], .str [], .sl Pair.pc [], .str [], .int .u64 0, .int .u8 0, .str []]⟩),
  (146, ⟨.slc 9, 1, 24, [.sl strc []]⟩),
  (191, ⟨.agg [(0, 1), (1, 1)], 2, 48, [.sl ShopR.pc [], .sl BindR.pc []]⟩)]
theorem tbv47ok : tbB Tryz.prog tbv47 = true := by kernel_rfl
theorem l14_awake : Fn Tryz.prog gb 124 [] (.bool true) := by
  refine fn_cw tbv47ok Tryz.func124 rfl Tryz.ntmps124 rfl cb124 rfl rfl fun w N H hG => ?_
  refine go tbv47ok 9 rfl rfl trivial ?_
  refine call (route_Book_Make_ok (⟨[], []⟩ : BookR) (⟨[97], 1, []⟩ : ShopR) (by first | omega | (simp; omega) | decide +kernel)) rfl rfl fun w1 => ?_
  refine go tbv47ok 3 rfl rfl trivial ?_
  refine ef (alloc tbv47ok 0 rfl rfl rfl rfl fun b2 => ?_)
  refine ef (storeA tbv47ok rfl rfl rfl rfl rfl rfl rfl rfl rfl rfl ?_)
  refine go tbv47ok 7 rfl rfl trivial ?_
  refine call (route_Book_Bind_ok _ (⟨[97], [113], false, [], [], false⟩ : BindR) (by first | omega | (simp; omega) | decide +kernel) (by first | omega | (simp; omega) | decide +kernel)) rfl rfl fun w3 => ?_
  refine go tbv47ok 3 rfl rfl trivial ?_
  refine ef (storeA tbv47ok rfl rfl rfl rfl rfl rfl rfl rfl rfl rfl ?_)
  refine go tbv47ok 6 rfl rfl trivial ?_
  refine call (route_Book_Bind_ok _ (⟨[97], [113], false, [120], [], false⟩ : BindR) (by first | omega | (simp; omega) | decide +kernel) (by first | omega | (simp; omega) | decide +kernel)) rfl rfl fun w4 => ?_
  refine go tbv47ok 3 rfl rfl trivial ?_
  refine ef (storeA tbv47ok rfl rfl rfl rfl rfl rfl rfl rfl rfl rfl ?_)
  refine go tbv47ok 6 rfl rfl trivial ?_
  refine call (Fn.le (route_Book_Leads_ok _ _ _ [] (by first | omega | (simp; omega) | decide +kernel) (by first | omega | (simp; omega) | decide +kernel) (by first | assumption | decide +kernel)) (ples_cons (ple rfl) (ples_cons (ple rfl) (ples_cons (ple rfl) (ples_cons ple_nil ples_nil)))) (ple rfl) rfl) rfl rfl fun w5 => ?_
  refine go tbv47ok 11 rfl rfl trivial ?_
  refine call l04_Awake rfl rfl fun w6 => ?_
  refine go tbv47ok 1 rfl rfl trivial ?_
  refine ungd rfl rfl ?_
  refine call l10_Awake rfl rfl fun w7 => ?_
  refine go tbv47ok 2 rfl rfl trivial ?_
  refine ungd rfl rfl ?_
  refine go tbv47ok 1 rfl rfl trivial ?_
  refine ungd rfl rfl ?_
  refine go tbv47ok 1 rfl rfl trivial ?_
  refine so_rt (t := 37) (p' := .bool true) (ple (congrArg PV.bool (show decide (((route_Book_Bind ((route_Book_Bind ((route_Book_Make (⟨[], []⟩ : BookR) (⟨[97], 1, []⟩ : ShopR)).1) (⟨[97], [113], false, [], [], false⟩ : BindR)).1) (⟨[97], [113], false, [120], [], false⟩ : BindR)).2) = 0) = true by decide +kernel))) rfl ?_
  refine go tbv47ok 2 rfl rfl trivial ?_
  refine ungd rfl rfl ?_
  refine go tbv47ok 1 rfl rfl trivial ?_
  refine ungd rfl rfl ?_
  refine go tbv47ok 1 rfl rfl trivial ?_
  refine so_rt (t := 41) (p' := .bool true) (ple (congrArg PV.bool (show decide (((route_Book_Leads ((route_Book_Bind ((route_Book_Bind ((route_Book_Make (⟨[], []⟩ : BookR) (⟨[97], 1, []⟩ : ShopR)).1) (⟨[97], [113], false, [], [], false⟩ : BindR)).1) (⟨[97], [113], false, [120], [], false⟩ : BindR)).1) [97] [] []).2.2) = 0) = true by decide +kernel))) rfl ?_
  refine go tbv47ok 2 rfl rfl trivial ?_
  refine ungd rfl rfl ?_
  refine go tbv47ok 1 rfl rfl trivial ?_
  refine ungd rfl rfl ?_
  refine ef (bsl 1 strc [[113]] tbv47ok rfl rfl rfl rfl rfl (fun _ => rfl) rfl (by decide) (by decide) rfl fun u8 => ?_)
  refine ungd rfl rfl ?_
  refine ef (calll 1 rfl (eq_Str _ _) rfl rfl rfl fun w9 => ?_)
  refine so_rt (t := 46) (p' := .bool true) (ple (congrArg PV.bool (show decide (((route_Book_Leads ((route_Book_Bind ((route_Book_Bind ((route_Book_Make (⟨[], []⟩ : BookR) (⟨[97], 1, []⟩ : ShopR)).1) (⟨[97], [113], false, [], [], false⟩ : BindR)).1) (⟨[97], [113], false, [120], [], false⟩ : BindR)).1) [97] [] []).1) = [[113]]) = true by decide +kernel))) rfl ?_
  refine go tbv47ok 2 rfl rfl trivial ?_
  refine ungd rfl rfl ?_
  refine go tbv47ok 1 rfl rfl trivial ?_
  refine ungd rfl rfl ?_
  refine go tbv47ok 1 rfl rfl trivial ?_
  refine ungd rfl rfl ?_
  refine go tbv47ok 1 rfl rfl trivial ?_
  refine so_rt (t := 51) (p' := .bool true) (ple (congrArg PV.bool (show decide ((((route_Book_Leads ((route_Book_Bind ((route_Book_Bind ((route_Book_Make (⟨[], []⟩ : BookR) (⟨[97], 1, []⟩ : ShopR)).1) (⟨[97], [113], false, [], [], false⟩ : BindR)).1) (⟨[97], [113], false, [120], [], false⟩ : BindR)).1) [97] [] []).2.1).length : Int) = 0) = true by decide +kernel))) rfl ?_
  refine go tbv47ok 5 rfl rfl trivial ?_
  refine rt1 rfl rfl ?_
  refine ple ?_
  exact congrArg PV.bool (by first | rfl | decide +kernel)
theorem l14_Awake : Fn Tryz.prog gb 102 [] (.bool true) := by
  refine fn_cw tbv47ok Tryz.func102 rfl Tryz.ntmps102 rfl cb102 rfl rfl fun w N H hG => ?_
  refine go tbv47ok 7 rfl rfl trivial ?_
  refine call l14_awake rfl rfl fun w1 => ?_
  refine go tbv47ok 4 rfl rfl trivial ?_
  refine rt1 rfl rfl ?_
  refine ple ?_
  rfl
theorem l22_awake : Fn Tryz.prog gb 81 [] (.bool true) := by
  refine fn_cw tbv47ok Tryz.func81 rfl Tryz.ntmps81 rfl cb81 rfl rfl fun w N H hG => ?_
  refine go tbv47ok 8 rfl rfl trivial ?_
  refine call (deed_Bytes (⟨11, 1, (⟨[], 0, []⟩ : ShopR), (⟨[], 0, 0, []⟩ : QueueR), (⟨[], [], false, [], [], false⟩ : BindR), [], 0, 0, 0, 0, 0, (⟨0, [], [], [], [], 0, 0⟩ : Mail), []⟩ : DeedR)) rfl rfl fun w1 => ?_
  have := deedBytes_len (d := (⟨11, 1, (⟨[], 0, []⟩ : ShopR), (⟨[], 0, 0, []⟩ : QueueR), (⟨[], [], false, [], [], false⟩ : BindR), [], 0, 0, 0, 0, 0, (⟨0, [], [], [], [], 0, 0⟩ : Mail), []⟩ : DeedR)) (by first | omega | decide)
  have := deedE_r (⟨11, 1, (⟨[], 0, []⟩ : ShopR), (⟨[], 0, 0, []⟩ : QueueR), (⟨[], [], false, [], [], false⟩ : BindR), [], 0, 0, 0, 0, 0, (⟨0, [], [], [], [], 0, 0⟩ : Mail), []⟩ : DeedR)
  refine go tbv47ok 9 rfl rfl trivial ?_
  refine call l13_Awake rfl rfl fun w2 => ?_
  refine go tbv47ok 1 rfl rfl trivial ?_
  refine ungd rfl rfl ?_
  refine call l14_Awake rfl rfl fun w3 => ?_
  refine go tbv47ok 2 rfl rfl trivial ?_
  refine ungd rfl rfl ?_
  refine go tbv47ok 1 rfl rfl trivial ?_
  refine ungd rfl rfl ?_
  refine go tbv47ok 1 rfl rfl trivial ?_
  refine so_rt (t := 14) (p' := .bool true) (ple (congrArg PV.bool (show decide ((deedE (⟨11, 1, (⟨[], 0, []⟩ : ShopR), (⟨[], 0, 0, []⟩ : QueueR), (⟨[], [], false, [], [], false⟩ : BindR), [], 0, 0, 0, 0, 0, (⟨0, [], [], [], [], 0, 0⟩ : Mail), []⟩ : DeedR)) = 0) = true by decide +kernel))) rfl ?_
  refine go tbv47ok 2 rfl rfl trivial ?_
  refine ungd rfl rfl ?_
  refine go tbv47ok 1 rfl rfl trivial ?_
  refine ungd rfl rfl ?_
  refine go tbv47ok 1 rfl rfl trivial ?_
  refine ungd rfl rfl ?_
  refine go tbv47ok 1 rfl rfl trivial ?_
  refine so_rt (t := 19) (p' := .bool true) (ple (congrArg PV.bool (show decide (((deedBytes (⟨11, 1, (⟨[], 0, []⟩ : ShopR), (⟨[], 0, 0, []⟩ : QueueR), (⟨[], [], false, [], [], false⟩ : BindR), [], 0, 0, 0, 0, 0, (⟨0, [], [], [], [], 0, 0⟩ : Mail), []⟩ : DeedR)).length : Int) = 9) = true by decide +kernel))) rfl ?_
  refine go tbv47ok 5 rfl rfl trivial ?_
  refine rt1 rfl rfl ?_
  refine ple ?_
  exact congrArg PV.bool (by first | rfl | decide +kernel)
theorem l22_Awake : Fn Tryz.prog gb 39 [] (.bool true) := by
  refine fn_cw tbv47ok Tryz.func39 rfl Tryz.ntmps39 rfl cb39 rfl rfl fun w N H hG => ?_
  refine go tbv47ok 7 rfl rfl trivial ?_
  refine call l22_awake rfl rfl fun w1 => ?_
  refine go tbv47ok 4 rfl rfl trivial ?_
  refine rt1 rfl rfl ?_
  refine ple ?_
  rfl
theorem l26_awake : Fn Tryz.prog gb 15 [] (.bool true) := by
  refine fn_cw tbv47ok Tryz.func15 rfl Tryz.ntmps15 rfl cb15 rfl rfl fun w N H hG => ?_
  refine go tbv47ok 7 rfl rfl trivial ?_
  refine call l22_Awake rfl rfl fun w1 => ?_
  refine go tbv47ok 1 rfl rfl trivial ?_
  refine ungd rfl rfl ?_
  refine call (draft_Life _ _) rfl rfl fun w2 => ?_
  refine ungd rfl rfl ?_
  refine go tbv47ok 1 rfl rfl trivial ?_
  refine so_rt (t := 4) (p' := .bool true) (ple (congrArg PV.bool (show decide ((lifeN 3 4) = 7) = true by decide +kernel))) rfl ?_
  refine go tbv47ok 2 rfl rfl trivial ?_
  refine ungd rfl rfl ?_
  refine call (draft_Life _ _) rfl rfl fun w3 => ?_
  refine ungd rfl rfl ?_
  refine go tbv47ok 1 rfl rfl trivial ?_
  refine so_rt (t := 8) (p' := .bool true) (ple (congrArg PV.bool (show decide ((lifeN 18446744073709551615 1) = 0) = true by decide +kernel))) rfl ?_
  refine go tbv47ok 5 rfl rfl trivial ?_
  refine rt1 rfl rfl ?_
  refine ple ?_
  exact congrArg PV.bool (by first | rfl | decide +kernel)
theorem l26_Awake : Fn Tryz.prog gb 36 [] (.bool true) := by
  refine fn_cw tbv47ok Tryz.func36 rfl Tryz.ntmps36 rfl cb36 rfl rfl fun w N H hG => ?_
  refine go tbv47ok 7 rfl rfl trivial ?_
  refine call l26_awake rfl rfl fun w1 => ?_
  refine go tbv47ok 4 rfl rfl trivial ?_
  refine rt1 rfl rfl ?_
  refine ple ?_
  rfl
theorem l27_awake : Fn Tryz.prog gb 9 [] (.bool true) := by
  refine fn_cw tbv47ok Tryz.func9 rfl Tryz.ntmps9 rfl cb9 rfl rfl fun w N H hG => ?_
  refine go tbv47ok 7 rfl rfl trivial ?_
  refine call chans_New_ok rfl rfl fun w1 => ?_
  refine call (chans_Chan_Credit_ok _ _) rfl rfl fun w2 => ?_
  refine go tbv47ok 3 rfl rfl trivial ?_
  refine ef (alloc tbv47ok 0 rfl rfl rfl rfl fun b3 => ?_)
  refine ef (storeA tbv47ok rfl rfl rfl rfl rfl rfl rfl rfl rfl rfl ?_)
  refine go tbv47ok 5 rfl rfl trivial ?_
  refine call l26_Awake rfl rfl fun w4 => ?_
  refine go tbv47ok 1 rfl rfl trivial ?_
  refine ungd rfl rfl ?_
  refine go tbv47ok 1 rfl rfl trivial ?_
  refine ungd rfl rfl ?_
  refine go tbv47ok 1 rfl rfl trivial ?_
  refine so_rt (t := 11) (p' := .bool true) (ple (congrArg PV.bool (show decide (((chans_Chan_Credit (chans_New) 1).2) = 0) = true by decide +kernel))) rfl ?_
  refine go tbv47ok 2 rfl rfl trivial ?_
  refine ungd rfl rfl ?_
  refine go tbv47ok 1 rfl rfl trivial ?_
  refine ungd rfl rfl ?_
  refine call (chans_Chan_Room_ok _ (by first | omega | (simp; omega) | decide +kernel)) rfl rfl fun w5 => ?_
  refine ungd rfl rfl ?_
  refine go tbv47ok 1 rfl rfl trivial ?_
  refine so_rt (t := 16) (p' := .bool true) (ple (congrArg PV.bool (show decide ((chans_Chan_Room ((chans_Chan_Credit (chans_New) 1).1)) = 1) = true by decide +kernel))) rfl ?_
  refine go tbv47ok 2 rfl rfl trivial ?_
  refine ungd rfl rfl ?_
  refine go tbv47ok 1 rfl rfl trivial ?_
  refine ungd rfl rfl ?_
  refine go tbv47ok 1 rfl rfl trivial ?_
  refine ungd rfl rfl ?_
  refine call (chans_Chan_Lend_ok _ (⟨1, [113]⟩ : LentR) (by first | omega | (simp; omega) | decide +kernel)) rfl rfl fun w6 => ?_
  refine ungd rfl rfl ?_
  refine call (chans_Chan_Room_ok _ (by first | omega | (simp; omega) | decide +kernel)) rfl rfl fun w7 => ?_
  refine ungd rfl rfl ?_
  refine go tbv47ok 1 rfl rfl trivial ?_
  refine so_rt (t := 23) (p' := .bool true) (ple (congrArg PV.bool (show decide ((chans_Chan_Room (chans_Chan_Lend ((chans_Chan_Credit (chans_New) 1).1) (⟨1, [113]⟩ : LentR))) = 0) = true by decide +kernel))) rfl ?_
  refine go tbv47ok 5 rfl rfl trivial ?_
  refine rt1 rfl rfl ?_
  refine ple ?_
  exact congrArg PV.bool (by first | rfl | decide +kernel)
end Go.SW.V
set_option linter.unusedVariables false
set_option maxRecDepth 100000
set_option maxHeartbeats 4000000
namespace Go.SW.V
open Go.SW Go.Proofs
end Go.SW.V
set_option linter.unusedVariables false
set_option maxRecDepth 100000
set_option maxHeartbeats 4000000
namespace Go.SW.V
open Go.SW Go.Proofs
end Go.SW.V
set_option linter.unusedVariables false
set_option maxRecDepth 100000
set_option maxHeartbeats 4000000
namespace Go.SW.V
open Go.SW Go.Proofs
theorem cb3 : Callable Tryz.prog 3 := callable_of Tryz.func3 (by kernel_rfl) (by kernel_rfl)
def tbv50 : Tb := [(3, ⟨.int .i64, 1, 8, [.int .i64 0]⟩),
  (4, ⟨.bool, 1, 1, [.bool false]⟩),
  (5, ⟨.int .u8, 1, 1, [.int .u8 0]⟩),
  (22, ⟨.int .u64, 1, 8, [.int .u64 0]⟩),
  (25, ⟨.slc 39, 1, 24, [.sl LentR.pc []]⟩),
  (30, ⟨.agg [(0, 1), (1, 1), (2, 1), (3, 1), (4, 1), (5, 1), (6, 1)], 7, 96, [.int .i64 0, .sl TakerR.pc [], .sl LentR.pc [], .bool false, .bool false, .int .u64 0, .sl DeedR.pc []]⟩),
  (39, ⟨.agg [(0, 1), (1, 1)], 2, 24, [.int .u64 0, .str []]⟩),
  (76, ⟨.slc 80, 1, 24, [.sl ActR.pc []]⟩),
  (80, ⟨.agg [(0, 1), (1, 1), (2, 1), (3, 1), (4, 1), (5, 1)], 6, 72, [.int .u8 0, .int .u64 0, .int .u64 0, .str [], .bool false, .sl DeedR.pc []]⟩),
  (87, ⟨.agg [(0, 1), (1, 1), (2, 1), (3, 1), (4, 1), (5, 1), (6, 1)], 7, 96, [.int .i64 0, .sl TakerR.pc [], .sl LentR.pc [], .bool false, .bool false, .int .u64 0, .sl DeedR.pc []]⟩)]
theorem tbv50ok : tbB Tryz.prog tbv50 = true := by kernel_rfl
theorem l27_ChansCredit_ok (n : Int) (lent : Int) : Fn Tryz.prog gb 3 [.int .u64 n, .int .u8 lent] (.bool (l27_ChansCredit n lent)) := by
  refine fn_cw tbv50ok Tryz.func3 rfl Tryz.ntmps3 rfl cb3 rfl rfl fun w N H hG => ?_
  have n_r : 0 ≤ n ∧ n ≤ 18446744073709551615 := w.1
  have lent_r : 0 ≤ lent ∧ lent ≤ 255 := w.2.1
  have e0 := l27_ChansCredit.eq_1 n lent
  refine go tbv50ok 8 rfl rfl trivial ?_
  refine call l27_awake rfl rfl fun w1 => ?_
  refine go tbv50ok 3 rfl rfl trivial ?_
  refine cndF rfl rfl ?_
  refine go tbv50ok 4 rfl rfl trivial ?_
  refine callv (chans_New) (fun r : ChanR => .agg (ChanR.pc r)) chans_New_ok rfl rfl fun r hr2 w3 => ?_
  have e4 := e0.trans (lt_eq hr2)
  have hA4 := cok_new 0
  (try rw [← hr2] at hA4)
  refine go tbv50ok 1 rfl rfl trivial ?_
  refine callv (chans_Chan_Credit r n) (fun r : ChanR × Int => .tup [.agg (ChanR.pc r.1), .int .i64 r.2]) (chans_Chan_Credit_ok _ _) rfl rfl fun r1 hr6 w7 => ?_
  have e8 := e4.trans (lt_eq hr6)
  have hA8 := credit_ok r n
  (try rw [← hr6] at hA8)
  have hA9 := fun h => cok_Credit (c := r) (n := 0) n h
  (try rw [← hr6] at hA9)
  (try have hA9b := hA9 (by first | assumption | omega | exact dok_nil | (simp; done)))
  refine go tbv50ok 3 rfl rfl trivial ?_
  refine ef (alloc tbv50ok 0 rfl rfl rfl rfl fun b11 => ?_)
  refine ef (storeA tbv50ok rfl rfl rfl rfl rfl rfl rfl rfl rfl rfl ?_)
  refine go tbv50ok 9 rfl rfl trivial ?_
  obtain ⟨o, e_o, q_o⟩ := lt1_split e8
  refine joinc (ι := Int) [0, 1, 4, 5, 6] [0] (fun want => [(7, .int .i64 want)]) (fun want => []) (fun want => o = want ∧ 0 ≤ want ∧ want ≤ 16) ?_ ?_
  · refine go tbv50ok 6 rfl rfl trivial ?_
    refine cnd rfl (fun h12 => ?_) (fun h12 => ?_)
    · have p13 := dt h12
      have e14 := e_o.trans (condT h12)
      refine go tbv50ok 5 rfl rfl trivial ?_
      refine next (IntKind.wrap .i64 n) rfl rfl ⟨rfl, trivial⟩ trivial (by decide) ?_
      exact ⟨e14, (by (try simp only []); omega)⟩
    · have p15 := df h12
      have e16 := e_o.trans (condF h12)
      refine go tbv50ok 1 rfl rfl trivial ?_
      refine next 16 rfl rfl ⟨rfl, trivial⟩ trivial (by decide) ?_
      exact ⟨e16, (by (try simp only []); omega)⟩
  · rintro want ⟨hp17, hp17_3⟩
    have e18 := lt1_fin q_o hp17
    refine go tbv50ok 15 rfl rfl ⟨(fun hc => hc), rfl, rfl, trivial⟩ ?_
    refine cnd rfl (fun h19 => ?_) (fun h19 => ?_)
    · have h20 := not_t h19
      have p21 := beqF h20
      have e22 := e18.trans (condT h19)
      refine go tbv50ok 7 rfl rfl trivial ?_
      exact rt1 rfl rfl (ple_of (fun r : Bool => .bool r) e22 (ple rfl))
    · have h23 := not_f h19
      have p24 := beqT h23
      have e25 := e18.trans (condF h19)
      refine go tbv50ok 12 rfl rfl ⟨(by omega), (by omega), trivial⟩ ?_
      refine loop (ι := Nat × Nat × ChanR) [1, 5, 7, 32] [] (fun ⟨f, v, x⟩ => [(33, .int .i64 (v : Int))]) (fun ⟨f, v, x⟩ => [(0, .box b11 30 [.int .i64 x.credit, .sl TakerR.pc x.takers, .sl LentR.pc x.lent, .bool x.sure, .bool x.drafts, .int .u64 x.puts, .sl DeedR.pc x.held.l])]) (fun ⟨f, v, x⟩ => ((lent % 30) - (v : Int)).toNat < f ∧ l27_ChansCredit n lent = l27_ChansCredit_l0 lent want f v x ∧ COk x v) (fun ⟨f, v, x⟩ => f) ⟨(((lent % 30) - (0 : Int)).toNat + 1), 0, r1.1⟩ ⟨rfl, trivial⟩ ⟨rfl, trivial⟩ ?_ ?_
      · exact ⟨Nat.lt_succ_self _, e25, by assumption⟩
      · rintro ⟨f, v, x⟩ ⟨hp26_1, hp26_2, hp26_3⟩
        have hd0 := hp26_3
        obtain ⟨hd1, hd2, hd3, hd4⟩ := hp26_3
        obtain ⟨f1, rfl⟩ : ∃ q, f = q + 1 := ⟨f - 1, by omega⟩
        have e_f1 := hp26_2.trans (l27_ChansCredit_l0.eq_2 _ _ _ _ _)
        refine go tbv50ok 6 rfl rfl trivial ?_
        refine cnd rfl (fun h27 => ?_) (fun h27 => ?_)
        · have p28 := dt h27
          have e29 := e_f1.trans (condT h27)
          refine go tbv50ok 14 rfl rfl trivial ?_
          refine callv (chans_Chan_Room x) (fun r : Int => .int .i64 r) (chans_Chan_Room_ok _ (by first | omega | (simp; omega) | decide +kernel)) rfl rfl fun r2 hr30 w31 => ?_
          have e32 := e29.trans (lt_eq hr30)
          refine go tbv50ok 7 rfl rfl ⟨(by omega), trivial⟩ ?_
          refine callg rfl (fun hc => (chans_Chan_Unsettled_ok _ (by first | omega | (simp; omega) | decide +kernel))) rfl ⟨(fun hc => hc), trivial⟩ rfl rfl fun _ => ?_
          refine go tbv50ok 6 rfl rfl ⟨(fun hc => hc), (fun hc => hc), (fun hc => hc), rfl, rfl, trivial⟩ ?_
          refine cnd rfl (fun h33 => ?_) (fun h33 => ?_)
          · have e34 := e32.trans (condT h33)
            refine go tbv50ok 12 rfl rfl trivial ?_
            exact rt1 rfl rfl (ple_of (fun r : Bool => .bool r) e34 (ple rfl))
          · have h35 := orl h33
            have h36 := not_f h35
            have p37 := dt h36
            have h38 := orr h33
            have h39 := not_f h38
            have p40 := dt h39
            have e41 := e32.trans (condF h33)
            refine go tbv50ok 5 rfl rfl trivial ?_
            refine q1 (qconv tbv50ok rfl rfl rfl rfl (rg_u64 (by omega))) rfl fun w42 => ?_
            refine go tbv50ok 1 rfl rfl trivial ?_
            refine callv (chans_Chan_Lend x (⟨(v : Int), [113]⟩ : LentR)) (fun r : ChanR => .agg (ChanR.pc r)) (chans_Chan_Lend_ok _ (⟨(v : Int), [113]⟩ : LentR) (by first | omega | (simp; omega) | decide +kernel)) rfl rfl fun r3 hr43 w44 => ?_
            have e45 := e41.trans (lt_eq hr43)
            have hA45 := cok_Lend (c := x) (⟨(v : Int), [113]⟩ : LentR) (by assumption)
            (try rw [← hr43] at hA45)
            refine ef (storeA tbv50ok rfl rfl rfl rfl rfl rfl rfl rfl rfl rfl ?_)
            refine go tbv50ok 7 rfl rfl ⟨(by omega), trivial⟩ ?_
            refine next ⟨f1, (v + 1), r3⟩ rfl rfl ⟨rfl, trivial⟩ ⟨rfl, trivial⟩ ?_ ?_
            · (try simp only []); omega
            · exact ⟨by (try simp only []); omega, e45, by assumption⟩
        · have p47 := df h27
          have e48 := e_f1.trans (condF h27)
          refine go tbv50ok 8 rfl rfl trivial ?_
          refine callv (chans_Chan_Room x) (fun r : Int => .int .i64 r) (chans_Chan_Room_ok _ (by first | omega | (simp; omega) | decide +kernel)) rfl rfl fun r4 hr49 w50 => ?_
          have e51 := e48.trans (lt_eq hr49)
          refine go tbv50ok 11 rfl rfl ⟨(by omega), (by omega), (by omega), trivial⟩ ?_
          exact rt1 rfl rfl (ple_of (fun r : Bool => .bool r) e51 (ple rfl))
end Go.SW.V
namespace Go.SW
open Go.ChangeShapes Go.WideShapes Go.ChangeAt Go.RowKit
def hp (w : World) : Hp := fun b => w.heap[b]?
def rest0 (w : World) : Rest := ⟨fun _ => none, w.os, w.tape, w.output⟩
theorem mem0 (w : World) : Mem (rest0 w) (hp w) l0 w :=
  { os := rfl, tape := rfl, output := rfl, n := fun _ _ h => (by cases h), h := fun _ _ h => h, l := fun _ _ _ h => (by cases h), nh := fun _ _ h => (by cases h), nl := fun _ _ _ h => (by cases h), ll := fun _ _ _ _ _ h => (by cases h) }
theorem mem0_below {w w' : World} {L : Ls} (h : Mem (rest0 w) (hp w) L w') : Below w.heap.size w w' := by
  have hb : ∀ k, k < w.heap.size → w'.heap[k]? = w.heap[k]? := fun k hk => by
    have e : w.heap[k]? = some w.heap[k] := Array.getElem?_eq_getElem hk
    rw [e]; exact h.h k _ e
  refine ⟨h.os, h.tape, h.output, ?_, hb⟩
  by_cases z : w.heap.size = 0
  · omega
  · have := hb (w.heap.size - 1) (by omega)
    rw [Array.getElem?_eq_getElem (show w.heap.size - 1 < w.heap.size by omega)] at this
    have := (Array.getElem?_eq_some_iff.1 this).1
    omega
section
variable {Ht : Type} {enc : TypeId × Value → Ht} {P : Program} {w : World} {base fuel : Nat} {spare : Nat → Bool} {held : Bool} {cs : List Value} {x : DataW Ht × List MemPlace} {t : TypeId}
end
theorem params_ok {P : Program} {ts : Array TypeId} (h : (ts.toList.all fun t => P.readableRec t && decide (t < P.types.size)) = true) : ∀ t ∈ ts.toList, P.readableRec t = true ∧ t < P.types.size := fun t ht => by
  have := List.all_eq_true.1 h t ht
  simpa using this
theorem rd_one_int {Ht : Type} {enc : TypeId × Value → Ht} {P : Program} {w : World} {r : Reach} {b0 base : Nat} {spare : Nat → Bool} {held : Bool} {t : TypeId} {k : IntKind} {v : Value} {d : DataW Ht} {p : List MemPlace} (hs : P.underlying t = some (.int k)) (hv : Value.okWide P w r b0 t v)
    (h : DataW.Trod enc P w base spare held t v d p) : ∃ z : Int, v = .int k z ∧ k.min ≤ z ∧ z ≤ k.max := by
  obtain ⟨z, rfl, _, _, hw⟩ := open_int hs hv h
  refine ⟨z, rfl, ?_⟩
  simp only [Lit.wf, Bool.and_eq_true, decide_eq_true_eq] at hw; exact hw
/-- The cells of a datum. -/
def flatD : Nat → DataW Unit → List Value
  | _, .lit (.int k n) => [.int k n]
  | _, .lit (.string s) => [.string ⟨s.toArray⟩]
  | _, .lit (.bool b) => [.bool b]
  | n + 1, .agg l => l.flatMap (flatD n)
  | _, _ => []
/-- The settled world, with data laid in its variables. -/
def layD (d : DataW Unit) : Obj → Obj
  | .cells _ t frozen => .cells (flatD 5 d).toArray t frozen
  | o => o
noncomputable def laidW (P : Program) (os : Os) (l : List (Nat × DataW Unit)) : World :=
  let w0 := World.holding P os ⟨#[], #[], []⟩
  { w0 with heap := List.foldl (fun h x => h.modify x.1 (layD x.2)) w0.heap l }
/-- Each argument reads as it did, where below the heap's old size nothing has turned. -/
theorem trodAll_stays {Ht : Type} {enc : TypeId × Value → Ht} {P : Program} (hl : laidOutB P = true) {W W' : World} (hb : Below W.heap.size W W') {sp : Nat → Bool} : ∀ {ts : List TypeId} {vs : List Value} {ds : List (DataW Ht)} {ps : List MemPlace}, (∀ t ∈ ts, P.readableRec t = true ∧ t < P.types.size) →
    DataW.TrodAll enc P W 0 (fun _ => true) true ts vs ds ps → (∀ x ∈ ps, x.block < W.heap.size) → (∀ x ∈ ps, sp x.block = true) → DataW.TrodAll enc P W' 0 sp true ts vs ds ps := by
  intro ts
  induction ts with
  | nil => intro vs ds ps _ h _ _; cases vs <;> cases ds <;> first | exact h | exact h.elim
  | cons t ts ih =>
    intro vs ds ps hr h hlt hsp
    obtain ⟨v, vs', d, ds', p, q, rfl, rfl, rfl, h1, h2⟩ := trodAll_cons h
    exact trodAll_cons_mk (WideElems.Trod_stays hl (hr t (by simp)).1 (hr t (by simp)).2 h1 (fun x hx => hb.same (hlt x (by simp [hx]))) (fun x hx => hsp x (by simp [hx]))) (ih (fun u hu => hr u (by simp [hu])) h2 (fun x hx => hlt x (by simp [hx])) (fun x hx => hsp x (by simp [hx])))
section
variable {Ht : Type} {enc : TypeId × Value → Ht} {P : Program}
/-- A row's last step where below the heap's old size nothing has turned: it hands back true, and the arguments read as they did. -/
theorem law_post {f : Func} {s : ChangeSpec} {apart fresh again : Bool} {W W' : World} {args : Array Value} {ds : List (DataW Ht)} {before : List MemPlace} {tb : TypeId} (hvars : s.vars = [])
    (hW : DataW.Whole enc P f.params.toList s.vars apart W args.toList ds [] before) (hb : Below W.heap.size W W') (hl : laidOutB P = true) (hr : ∀ t ∈ f.params.toList, P.readableRec t = true ∧ t < P.types.size)
    (hres : f.resultTypes = #[tb]) (hu : P.underlying tb = some .bool) (hfn : s.fn Ht (ds ++ []) = { results := [.lit (.bool true)], args := ds }) : s.post enc P f apart fresh false again W args (.bool true) W' := by
  have hlt : ∀ p ∈ before, p.block < W.heap.size := fun p hp => hW.lt p hp
  have hold : ∀ p ∈ before, (fun b => decide (b < W.heap.size)) p.block = true := fun p hp => by simpa using hlt p hp
  have hW0 := hW
  obtain ⟨p, q, hA, hV, rfl, hz, hn⟩ := hW0
  have hq : q = [] := by
    rw [hvars] at hV
    exact (trodVars_none hV).2
  subst hq
  rw [List.append_nil] at hlt hold hz hn hW
  have hA0 : DataW.TrodAll enc P W 0 (fun _ => true) true f.params.toList args.toList ds p := hA
  have hargs : ∀ sp : Nat → Bool, (∀ x ∈ p, sp x.block = true) → DataW.TrodAll enc P W' 0 sp true f.params.toList args.toList ds p := fun sp hs => trodAll_stays hl hb hr hA0 hlt hs
  have hvs : ∀ sp : Nat → Bool, DataW.TrodVars enc P W' sp s.vars ([] : List (DataW Ht)) [] := fun sp => by rw [hvars]; rfl
  have hR : ∀ (b : Nat) (sp : Nat → Bool) (hd : Bool), DataW.TrodAll enc P W' b sp hd f.resultTypes.toList ((Value.bool true).resultList f.resultTypes.size) [.lit (.bool true)] [] := fun b sp hd => by
    rw [hres]
    exact trodAll_mk1 (shut_bool hu true)
  have hok : ∀ (j : Nat) (t : TypeId) (r : Value), f.resultTypes[j]? = some t → ((Value.bool true).resultList f.resultTypes.size)[j]? = some r → Value.okWide P W' .any 0 t r := ok_one hres rfl (okWide_bool_mk hu true)
  refine ⟨ds, [], p, [], p, [], hW, ?_, ?_, ?_, World.keptBut_mono (fun x hx => ⟨hx, Or.inr (by simpa using hx)⟩) (hb.frame (· ∈ p)), fun _ => ?_⟩
  · rw [hfn]; exact hR _ _ _
  · rw [hfn]; exact hargs _ hold
  · rw [hfn]; exact hvs _
  · refine ⟨hok, _, _, ([] ++ p) ++ [], ⟨[] ++ p, [], trodAll_append (hargs _ (fun _ _ => rfl)) (hR _ _ _), hvs _, rfl, ?_, ?_⟩, ?_⟩
    · intro b off hp
      have hin : MemPlace.cell b off ∈ p := by simpa using hp
      rw [hb.frozen (hlt _ hin)]
      exact hz b off hin
    · intro ha
      have := hn ha
      simpa using this
    · intro x hx _
      simpa using hx
/-- A variable of type int holds an int. -/
theorem gint_of_shape {w : World} {g : Nat} {t : TypeId} {zero : Array Value} (h : w.ShapedOpen P) (hg : g < P.globals.size)
    (h0 : ((begin P (fun _ _ => 0) default).world.heap[g]?).bind Obj.row? = some (zero, t)) (hz : zero.size = 1)
    (hb : P.buildable t = true) (hc : P.cellTypes P.depth t = some [t]) (hu : P.underlying t = some (.int .i64)) : GInt (hp w) g := by
  obtain ⟨cs, hh, hs, hr⟩ := h.1 g zero t hg h0
  obtain ⟨ts, hts, _, hall⟩ := hr hb
  rw [hc] at hts
  cases hts
  have h1 : 0 < cs.size := by omega
  obtain ⟨u, hu', hok⟩ := hall 0 cs[0] (by simp [h1])
  have : u = t := by simpa using hu'.symm
  subst this
  unfold Cell.ok at hok
  rw [hu] at hok
  have hv : ∃ m, cs[0] = .int .i64 m := by
    cases hv : cs[0] <;> rw [hv] at hok <;> first | exact ⟨_, by rw [hok.1]⟩ | simp at hok
  obtain ⟨m, hm⟩ := hv
  refine ⟨m, u, (0, 0), ?_⟩
  show w.heap[g]? = _
  rw [hh]
  have e : cs = #[.int .i64 m] := by
    apply Array.ext
    · simp; omega
    · intro i hi1 hi2
      have : i = 0 := by simp at hi2; omega
      subst this
      simpa using hm
  rw [e]
end
end Go.SW
namespace Go.SW
open Go.ChangeShapes Go.WideShapes Go.ChangeAt Go.RowKit
variable {P : Program}
end Go.SW
namespace Go.SW
open Go.ChangeShapes Go.WideShapes Go.ChangeAt Go.RowKit
variable {P : Program}
/-- What is read at a type stands for something. -/
def Rdv {α : Type} (P : Program) (t : TypeId) (en : α → List PV) (k : Nat) : Prop :=
  ∀ (Ht : Type) (enc : TypeId × Value → Ht) (w : World) (base : Nat) (spare : Nat → Bool) (held : Bool) (fuel : Nat) (cs : List Value) (x : DataW Ht × List MemPlace),
    DataW.trod enc P w base spare held fuel t cs = some x → (∀ n ∈ x.1.weights P t, n ≤ reachBytes) → ∃ r : α, RowE en k (hp w) r cs
/-! Arguments -/
section
variable {Ht : Type} {enc : TypeId × Value → Ht} {w : World} {r : Reach} {b0 base : Nat} {spare : Nat → Bool} {held : Bool} {t : TypeId} {v : Value} {d : DataW Ht} {p : List MemPlace}
theorem arg_int {k : IntKind} (hs : P.underlying t = some (.int k)) (hv : Value.okWide P w r b0 t v) (h : DataW.Trod enc P w base spare held t v d p) : ∃ z : Int, Sim (hp w) (.int k z) v := by
  obtain ⟨z, rfl, h1, h2⟩ := rd_one_int hs hv h
  exact ⟨z, .int h1 h2⟩
end
/-- A law's call, closed. -/
theorem law_run {G : Gb} {f : FuncId} {args : List PV} {b : Bool} {vs : List Value} {W : World} (h : Fn P G f args (.bool b)) (hg : G.p (hp W)) (hs : Sims (hp W) args vs) (hb : b = true) : Calls P f vs.toArray W fun e W' => e = .returned (.bool true) ∧ Mem (rest0 W) (hp W) l0 W' :=
  (h.run (rest0 W) (hp W) l0 W vs hg hs (mem0 W)).mono fun _ _ ⟨v, H', h1, h2, h3, h4⟩ => ⟨by rw [h1, h2.inv_bool, hb], h4.le h3⟩
end Go.SW
namespace Go.SW.V
open Go.SW
/-! In parts, or at once -/
/-! As many as0 there is room for -/
def putD (m : Mail) : DeedR := ⟨6, 0, ⟨[], 0, []⟩, ⟨[], 0, 0, []⟩, ⟨[], [], false, [], [], false⟩, [], 0, 0, 0, 0, 0, m, []⟩
end Go.SW.V
namespace Go.SW.V
open Go.SW
structure Inv (c : ChanR) : Prop where
  tags : (c.takers.map TakerR.tag).Nodup
  held : c.drafts = false → c.held.l = []
  puts : c.sure = false → c.puts = 0
  light : ∀ d ∈ c.held.l, lightD d = true
  lent : ∀ x ∈ c.lent, x.queue.length ≤ 40
def cutL (x : LentR) : List LentR → List LentR
  | [] => []
  | y :: l => if x = y then l else y :: cutL x l
/-! What stays so -/
/-! Credit -/
theorem credit0 (lent want : Int) (hl : 0 ≤ lent) : ∀ (f v : Nat) (x : ChanR), x.credit = want → x.lent.length = v → (v : Int) ≤ lent % 30 → (lent % 30).toNat < f + v → l27_ChansCredit_l0 lent want f v x = true
  | 0, v, x, _, _, h, hf => by omega
  | f + 1, v, x, h1, h2, h, hf => by
    simp only [l27_ChansCredit_l0, lt]
    by_cases e : (v : Int) < lent % 30
    · simp only [e, decide_true, cond_true, chans_Chan_Room, chans_Chan_Unsettled, h1, h2, Bool.not_true, Bool.or_self, cond_false]
      exact credit0 lent want hl f (v + 1) _ h1 (by simp [chans_Chan_Lend, h2]) (by omega) (by omega)
    · have : (v : Int) = lent % 30 := by omega
      simp only [e, decide_false, cond_false, chans_Chan_Room, h1, h2]
      rw [this]; simp
theorem l27_credit (n lent : Int) (hn : 0 ≤ n) (hl : 0 ≤ lent) : l27_ChansCredit n lent = true := by
  unfold l27_ChansCredit
  simp only [lt, lt1, chans_Chan_Credit]
  by_cases e : n < 1 ∨ 16 < n
  · have e1 : (decide (n < 1) || decide (16 < n)) = true := by simpa using e
    have e2 : (decide (1 ≤ n) && decide (n ≤ 16)) = false := by
      rw [Bool.and_eq_false_iff]; simp; omega
    simp only [e1, cond_true, e2]
    simp only [show decide ((7 : Int) = 0) = false from by decide, cond_false, beq_self_eq_true, Bool.not_true]
    exact credit0 lent 16 hl _ 0 chans_New rfl rfl (by omega) (by omega)
  · have e1 : (decide (n < 1) || decide (16 < n)) = false := by
      rw [Bool.or_eq_false_iff]; simp; omega
    have e2 : (decide (1 ≤ n) && decide (n ≤ 16)) = true := by
      rw [Bool.and_eq_true]; simp; omega
    simp only [e1, cond_false, e2, decide_true, cond_true, beq_self_eq_true, Bool.not_true]
    exact credit0 lent _ hl _ 0 _ rfl rfl (by omega) (by omega)
end Go.SW.V
