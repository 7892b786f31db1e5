/-
  A part of the proof of ChansPlay: The walks of this seat, printed by program: route.Book.Bind, route.Book.Leads. The walks of this seat, printed by program: draft.Draft.Add, draft.Draft.At, stairwellref26.Add, stairwellref26.At, stairwelllaw22.All, stairwelllaw23.Light, stairwellref22.SameAll, chans.Chan.Take, chans.Chan.Leave, chans.Chan.Takers, chans.Chan.Lend, chans.Chan.Unsettled, chans.Chan.Settles, chans.Chan.Gone, stairwellref27.Take, stairwellref27.Leave, stairwellref27.Lend, stairwellref27.Open. The walks of this seat, printed by program: chans.Chan.Hold, chans.Chan.Held, stairwellref27.Settles, stairwellref27.Gone, stairwellref27.Hold, stairwellref27.Held. The walks of this seat, printed by program: stairwelllaw14.awake, stairwelllaw14.Awake, stairwelllaw22.awake, stairwelllaw22.Awake, stairwelllaw26.awake, stairwelllaw26.Awake, stairwelllaw27.awake. The walks of this seat, printed by program: stairwelllaw26.DraftPlays, stairwelllaw26.DraftParts, stairwelllaw26.DraftFull. The walks of this seat, printed by program: stairwelllaw27.Light, stairwelllaw27.settled, stairwelllaw27.done, stairwelllaw27.told. The walks of this seat, printed by program: stairwelllaw27.ChansPlay, stairwelllaw27.ChansCredit. From the data that a row's arguments read as to the ground of the walks, and back: a world seen as one that is read alone; integers, texts, bools, structs, slices opened; the row's last step. Over any program; no condition. How long a slice that was handed over can be. Over any program; no condition. From the data that a row's arguments read as0 to what values stand for. Over any program; each asks what it lists. Drafts: the code's answers are the document's; the laws of chapter 26. Plain laws; each asks what it lists.
-/
import Derived.Test.YtdkpbleeehmhjaaGreatDoorProg
import Derived.Test.YtdkpbleeehmhjaaGreatDoorChansPlayP3
import Derived.KernelRfl
import Derived.Test.YtdkpbleeehmhjaaGreatDoorChansPlayP5
import Derived.Test.YtdkpbleeehmhjaaGreatDoorChansPlayP1
import Derived.ProofKit
import Derived.OpenShut
import Derived.Deep.Slices
import Derived.Carry
import Derived.Lib.LaidTab
import Derived.SizedLaws
set_option linter.unusedVariables false
set_option linter.unusedSimpArgs false
set_option linter.unusedVariables false
set_option maxRecDepth 100000
set_option maxHeartbeats 4000000
namespace Go.SW.V
open Go.SW Go.Proofs
theorem cb134 : Callable Tryz.prog 134 := callable_of Tryz.func134 (by kernel_rfl) (by kernel_rfl)
theorem cb135 : Callable Tryz.prog 135 := callable_of Tryz.func135 (by kernel_rfl) (by kernel_rfl)
def tbv46 : Tb := [(4, ⟨.bool, 1, 1, [.bool false]⟩),
  (5, ⟨.int .u8, 1, 1, [.int .u8 0]⟩),
  (9, ⟨.str, 1, 16, [.str []]⟩),
  (44, ⟨.agg [(0, 1), (1, 1), (2, 1)], 3, 40, [.str [], .int .u8 0, .str []]⟩),
  (49, ⟨.agg [(0, 1), (1, 1), (2, 1), (3, 1), (4, 1), (5, 1)], 6, 88, [.str [], .str [], .bool false, .str [], .sl Pair.pc [], .bool false]⟩),
  (146, ⟨.slc 9, 1, 24, [.sl strc []]⟩),
  (189, ⟨.slc 49, 1, 24, [.sl BindR.pc []]⟩),
  (191, ⟨.agg [(0, 1), (1, 1)], 2, 48, [.sl ShopR.pc [], .sl BindR.pc []]⟩),
  (221, ⟨.slc 189, 1, 24, [.sl (slc BindR.pc) []]⟩)]
theorem tbv46ok : tbB Tryz.prog tbv46 = true := by kernel_rfl
theorem route_Book_Bind_ok (b : BookR) (x : BindR) (hb : b.binds.length ≤ 1000) (hw : x.want.length ≤ 1000) : Fn Tryz.prog gb 134 [.agg (BookR.pc b), .agg (BindR.pc x)] (.tup [.agg (BookR.pc ((route_Book_Bind b x).1)), .int .i64 ((route_Book_Bind b x).2)]) := by
  refine fn_cw tbv46ok Tryz.func134 rfl Tryz.ntmps134 rfl cb134 rfl rfl fun w N H hG => ?_
  have b_shops_l : b.shops.length ≤ 140737488355328 := w.1.1.1
  have b_binds_l : b.binds.length ≤ 140737488355328 := w.1.2.1.1
  have x_want_l : x.want.length ≤ 140737488355328 := w.2.1.2.2.2.2.1.1
  have e0 := route_Book_Bind.eq_1 b x
  refine go tbv46ok 2 rfl rfl trivial ?_
  refine ef (boxA 0 rfl rfl rfl fun b1 => ?_)
  refine ef (boxA 1 rfl rfl rfl fun b2 => ?_)
  refine ef (alloc tbv46ok 2 rfl rfl rfl rfl fun b3 => ?_)
  refine go tbv46ok 8 rfl rfl trivial ?_
  refine call (book_Shop _ _) rfl rfl fun w4 => ?_
  refine go tbv46ok 3 rfl rfl trivial ?_
  refine ef (alloc tbv46ok 3 rfl rfl rfl rfl fun b5 => ?_)
  refine ef (storeA tbv46ok rfl rfl rfl rfl rfl rfl rfl rfl rfl rfl ?_)
  refine go tbv46ok 12 rfl rfl trivial ?_
  refine cnd rfl (fun h6 => ?_) (fun h6 => ?_)
  · have h7 := not_t h6
    have e8 := e0.trans (condT h6)
    refine go tbv46ok 3 rfl rfl trivial ?_
    refine ef (storeA tbv46ok rfl rfl rfl rfl rfl rfl rfl rfl rfl rfl ?_)
    refine go tbv46ok 6 rfl rfl trivial ?_
    exact rt2 rfl rfl (ple_of (fun r : BookR × Int => .tup [.agg (BookR.pc r.1), .int .i64 r.2]) e8 (ple rfl))
  · have h9 := not_f h6
    have e10 := e0.trans (condF h6)
    refine go tbv46ok 8 rfl rfl trivial ?_
    refine cnd rfl (fun h11 => ?_) (fun h11 => ?_)
    · have p12 := dt h11
      have e13 := e10.trans (condT h11)
      refine go tbv46ok 3 rfl rfl trivial ?_
      refine ef (storeA tbv46ok rfl rfl rfl rfl rfl rfl rfl rfl rfl rfl ?_)
      refine go tbv46ok 6 rfl rfl trivial ?_
      exact rt2 rfl rfl (ple_of (fun r : BookR × Int => .tup [.agg (BookR.pc r.1), .int .i64 r.2]) e13 (ple rfl))
    · have p14 := df h11
      have e15 := e10.trans (condF h11)
      refine go tbv46ok 8 rfl rfl trivial ?_
      refine call (words_Name _) rfl rfl fun w16 => ?_
      refine go tbv46ok 9 rfl rfl trivial ?_
      refine cnd rfl (fun h17 => ?_) (fun h17 => ?_)
      · have h18 := not_t h17
        have p19 := df h18
        have e20 := e15.trans (condT h17)
        refine go tbv46ok 4 rfl rfl trivial ?_
        refine ef (storeA tbv46ok rfl rfl rfl rfl rfl rfl rfl rfl rfl rfl ?_)
        refine go tbv46ok 5 rfl rfl trivial ?_
        exact rt2 rfl rfl (ple_of (fun r : BookR × Int => .tup [.agg (BookR.pc r.1), .int .i64 r.2]) e20 (ple rfl))
      · have h21 := not_f h17
        have p22 := dt h21
        have e23 := e15.trans (condF h17)
        refine go tbv46ok 8 rfl rfl trivial ?_
        refine call (bind_rule _ _) rfl rfl fun w24 => ?_
        refine call (rule_Check _) rfl rfl fun w25 => ?_
        refine go tbv46ok 11 rfl rfl trivial ?_
        refine cnd rfl (fun h26 => ?_) (fun h26 => ?_)
        · have h27 := not_t h26
          have p28 := df h27
          have e29 := e23.trans (condT h26)
          refine go tbv46ok 4 rfl rfl trivial ?_
          refine ef (storeA tbv46ok rfl rfl rfl rfl rfl rfl rfl rfl rfl rfl ?_)
          refine go tbv46ok 6 rfl rfl trivial ?_
          exact rt2 rfl rfl (ple_of (fun r : BookR × Int => .tup [.agg (BookR.pc r.1), .int .i64 r.2]) e29 (ple rfl))
        · have h30 := not_f h26
          have p31 := dt h30
          have e32 := e23.trans (condF h26)
          refine go tbv46ok 4 rfl rfl trivial ?_
          refine callv (route_Book_there b x) (fun r : Int => .int .i64 r) (route_Book_there_ok _ _) rfl rfl fun r hr33 w34 => ?_
          have e35 := e32.trans (lt_eq hr33)
          have hA35 := there_r b x
          (try rw [← hr33] at hA35)
          refine go tbv46ok 4 rfl rfl trivial ?_
          refine cnd rfl (fun h37 => ?_) (fun h37 => ?_)
          · have p38 := dt h37
            have e39 := e35.trans (condT h37)
            refine go tbv46ok 3 rfl rfl trivial ?_
            refine ef (storeA tbv46ok rfl rfl rfl rfl rfl rfl rfl rfl rfl rfl ?_)
            refine go tbv46ok 6 rfl rfl trivial ?_
            exact rt2 rfl rfl (ple_of (fun r : BookR × Int => .tup [.agg (BookR.pc r.1), .int .i64 r.2]) e39 (ple rfl))
          · have p40 := df h37
            have e41 := e35.trans (condF h37)
            refine go tbv46ok 9 rfl rfl trivial ?_
            refine cnd rfl (fun h42 => ?_) (fun h42 => ?_)
            · have p43 := dt h42
              have e44 := e41.trans (condT h42)
              refine go tbv46ok 3 rfl rfl trivial ?_
              refine ef (storeA tbv46ok rfl rfl rfl rfl rfl rfl rfl rfl rfl rfl ?_)
              refine go tbv46ok 6 rfl rfl trivial ?_
              exact rt2 rfl rfl (ple_of (fun r : BookR × Int => .tup [.agg (BookR.pc r.1), .int .i64 r.2]) e44 (ple rfl))
            · have p45 := df h42
              have e46 := e41.trans (condF h42)
              refine go tbv46ok 4 rfl rfl trivial ?_
              refine any [4, 5, 6, 7, 8, 9] 9 mixd rfl ?_
              refine gov tbv46ok [0, 1, 2] 6 rfl (by kernel_rfl) rfl rfl trivial ?_
              refine ve 3 rfl (by kernel_rfl) rfl (ecall (bind_clone _ (by first | omega | (simp; done) | decide)) rfl rfl fun w47 => ?_)
              refine ve 4 rfl (by kernel_rfl) rfl (bsl 4 BindR.pc [x] tbv46ok rfl rfl rfl rfl rfl (fun _ => rfl) rfl (by decide) (by decide) rfl fun u48 => ?_)
              refine ve 5 rfl (by kernel_rfl) rfl (egive 4 rfl (bsl 4 (slc BindR.pc) [b.binds, [x]] tbv46ok rfl rfl rfl rfl rfl (fun _ => rfl) rfl (by decide) (by decide) rfl fun u49 => ?_))
              refine ve 6 rfl (by kernel_rfl) rfl (egive 4 rfl (eweak (ecall (concat_Bind _ (by first | omega | (simp; done) | (simp; omega) | (simp only [List.flatten_cons, List.flatten_nil, List.length_append, List.append_nil]; simp; omega))) rfl rfl fun w50 => ?_)))
              refine gov tbv46ok [7] 1 rfl (by kernel_rfl) rfl rfl trivial ?_
              refine vt 8 rfl (by kernel_rfl) (by kernel_rfl) (store1 tbv46ok rfl rfl rfl rfl rfl rfl rfl rfl rfl ?_)
              refine vdone (by kernel_rfl) ?_
              refine go tbv46ok 4 rfl rfl trivial ?_
              refine ef (storeA tbv46ok rfl rfl rfl rfl rfl rfl rfl rfl rfl rfl ?_)
              refine go tbv46ok 4 rfl rfl trivial ?_
              exact rt2 rfl rfl (ple_of (fun r : BookR × Int => .tup [.agg (BookR.pc r.1), .int .i64 r.2]) e46 (ple rfl))
theorem route_Book_Leads_ok (b : BookR) (shop : Bs) (key : Bs) (h : List Pair) (hb : b.binds.length ≤ 1000) (hk : key.length < 4294967281) (hr : ∀ y ∈ b.binds, y.key.length < 4294967281) : Fn Tryz.prog gb 135 [.agg (BookR.pc b), .str shop, .str key, .sl Pair.pc h] (.tup [.sl strc ((route_Book_Leads b shop key h).1), .sl strc ((route_Book_Leads b shop key h).2.1), .int .i64 ((route_Book_Leads b shop key h).2.2)]) := by
  refine fn_cw tbv46ok Tryz.func135 rfl Tryz.ntmps135 rfl cb135 rfl rfl fun w N H hG => ?_
  have b_shops_l : b.shops.length ≤ 140737488355328 := w.1.1.1
  have b_binds_l : b.binds.length ≤ 140737488355328 := w.1.2.1.1
  have shop_l : shop.length ≤ 9223372036854775807 := w.2.1
  have key_l : key.length ≤ 9223372036854775807 := w.2.2.1
  have h_l : h.length ≤ 140737488355328 := w.2.2.2.1.1
  have e0 := route_Book_Leads.eq_1 b shop key h
  refine go tbv46ok 2 rfl rfl trivial ?_
  refine ef (boxA 0 rfl rfl rfl fun b1 => ?_)
  refine go tbv46ok 10 rfl rfl trivial ?_
  refine call (book_Shop _ _) rfl rfl fun w2 => ?_
  refine go tbv46ok 3 rfl rfl trivial ?_
  refine ef (alloc tbv46ok 1 rfl rfl rfl rfl fun b3 => ?_)
  refine ef (storeA tbv46ok rfl rfl rfl rfl rfl rfl rfl rfl rfl rfl ?_)
  refine go tbv46ok 12 rfl rfl trivial ?_
  refine cnd rfl (fun h4 => ?_) (fun h4 => ?_)
  · have h5 := not_t h4
    have e6 := e0.trans (condT h4)
    refine go tbv46ok 11 rfl rfl trivial ?_
    exact rt3 rfl rfl (ple_of (fun r : (List Bs) × (List Bs) × Int => .tup [.sl strc r.1, .sl strc r.2.1, .int .i64 r.2.2]) e6 (ple_tup (ples_cons ple_nil (ples_cons ple_nil (ples_cons (ple rfl) ples_nil)))))
  · have h7 := not_f h4
    have e8 := e0.trans (condF h4)
    refine go tbv46ok 8 rfl rfl trivial ?_
    refine cnd rfl (fun h9 => ?_) (fun h9 => ?_)
    · have p10 := dt h9
      have e11 := e8.trans (condT h9)
      refine go tbv46ok 1 rfl rfl trivial ?_
      refine any [2, 3, 4, 5, 6, 7] 6 mixd rfl ?_
      refine gov tbv46ok [0, 1, 3] 3 rfl (by kernel_rfl) rfl rfl trivial ?_
      refine ve 2 rfl (by kernel_rfl) rfl (bsl 2 strc [((shopOf b.shops shop).getD ShopR.zero).to] tbv46ok rfl rfl rfl rfl rfl (fun _ => rfl) rfl (by decide) (by decide) rfl fun u12 => ?_)
      refine gov tbv46ok [4, 5] 0 rfl (by kernel_rfl) rfl rfl trivial ?_
      refine vdone (by kernel_rfl) ?_
      refine go tbv46ok 1 rfl rfl trivial ?_
      refine givec 2 rfl ?_
      refine go tbv46ok 4 rfl rfl trivial ?_
      exact rt3 rfl rfl (ple_of (fun r : (List Bs) × (List Bs) × Int => .tup [.sl strc r.1, .sl strc r.2.1, .int .i64 r.2.2]) e11 (ple_tup (ples_cons ple_nil (ples_cons (ple rfl) (ples_cons (ple rfl) ples_nil)))))
    · have p13 := df h9
      have e14 := e8.trans (condF h9)
      refine go tbv46ok 22 rfl rfl trivial ?_
      refine sw_own (t := 13) (k := 1) (e := 9) 2 strc rfl rfl ?_
      refine sw_own (t := 14) (k := 1) (e := 9) 3 strc rfl rfl ?_
      refine loop (ι := Nat × (List Bs) × (List Bs) × Value × Value) [1, 2, 3, 8, 9, 10, 11, 34, 35] [0, 1] (fun ⟨k, queues, places, u_queues, u_places⟩ => [(36, .int .i64 (k : Int)), (13, .osl 2), (14, .osl 3)]) (fun ⟨k, queues, places, u_queues, u_places⟩ => [(2, .arr u_queues 1 9 strc queues), (3, .arr u_places 1 9 strc places)]) (fun ⟨k, queues, places, u_queues, u_places⟩ => k ≤ b.binds.length ∧ route_Book_Leads b shop key h = route_Book_Leads_l0 b shop key h (b.binds.drop k)  queues places ∧ queues.length ≤ k ∧ places.length ≤ k) (fun ⟨k, queues, places, u_queues, u_places⟩ => b.binds.length - k) ⟨0, [], [], (.slice none 0 0), (.slice none 0 0)⟩ ⟨rfl, rfl, rfl, trivial⟩ ⟨rfl, rfl, trivial⟩ ?_ ?_
      · exact ⟨Nat.zero_le _, e14, (by first | omega | (simp; done) | (simp; omega))⟩
      · rintro ⟨k, queues, places, u_queues, u_places⟩ ⟨hp15_1, hp15_2, hp15_3⟩
        refine go tbv46ok 6 rfl rfl trivial ?_
        refine cnd rfl (fun h16 => ?_) (fun h16 => ?_)
        · have p17 := dt h16
          have e18 := lstep (f := fun zz => route_Book_Leads_l0 b shop key h zz  queues places) hp15_2 (dropG (by omega)) (route_Book_Leads_l0.eq_2 _ _ _ _ _ _ _ _)
          have hc19 := getG (xs := b.binds) (k := k) (by omega)
          have hr_hc19 := hr (gt b.binds k) (List.mem_of_getElem? hc19)
          refine go tbv46ok 6 rfl rfl trivial ?_
          refine q1 (qidx tbv46ok k rfl rfl rfl hc19 rfl rfl rfl rfl) rfl fun w20 => ?_
          refine go tbv46ok 1 rfl rfl trivial ?_
          refine ef (alloc tbv46ok 4 rfl rfl rfl rfl fun b21 => ?_)
          refine ef (storeA tbv46ok rfl rfl rfl rfl rfl rfl rfl rfl rfl rfl ?_)
          refine go tbv46ok 4 rfl rfl trivial ?_
          obtain ⟨o, e_o, q_o⟩ := lt1_split e18
          refine joinc (ι := Bool) [1, 2, 3, 8, 9, 10, 11, 13, 14, 16, 34, 35, 36] [0, 1, 2, 3, 4] (fun v => [(44, .bool v)]) (fun v => []) (fun v => o = v) ?_ ?_
          · refine go tbv46ok 9 rfl rfl trivial ?_
            refine cnd rfl (fun h22 => ?_) (fun h22 => ?_)
            · have h23 := not_t h22
              have p24 := df h23
              have e25 := e_o.trans (condT h22)
              refine go tbv46ok 1 rfl rfl trivial ?_
              refine next (!decide (((gt b.binds k).shop) = shop)) rfl rfl ⟨rfl, trivial⟩ trivial (by decide) ?_
              exact e25
            · have h26 := not_f h22
              have p27 := dt h26
              have e28 := e_o.trans (condF h22)
              refine go tbv46ok 4 rfl rfl trivial ?_
              refine call (bind_rule _ _) rfl rfl fun w29 => ?_
              refine go tbv46ok 2 rfl rfl trivial ?_
              refine call (rule_Goes _ _ _ (by simp only [bindRule]; omega) (by first | omega | (simp; done) | decide)) rfl rfl fun w30 => ?_
              refine go tbv46ok 3 rfl rfl trivial ?_
              refine next (!(goesR (bindRule (gt b.binds k) (((shopOf b.shops shop).getD ShopR.zero).sort)) key h)) rfl rfl ⟨rfl, trivial⟩ trivial (by decide) ?_
              exact e28
          · rintro v hp31
            have e32 := lt1_fin q_o hp31
            refine go tbv46ok 1 rfl rfl trivial ?_
            refine cnd rfl (fun h33 => ?_) (fun h33 => ?_)
            · have e34 := e32.trans (condT h33)
              refine go tbv46ok 8 rfl rfl ⟨(by omega), trivial⟩ ?_
              refine next ⟨(k + 1), queues, places, (u_queues), (u_places)⟩ rfl rfl ⟨rfl, rfl, rfl, trivial⟩ ⟨rfl, rfl, trivial⟩ ?_ ?_
              · (try simp only []); omega
              · exact ⟨by (try simp only []); omega, e34, ⟨by (try simp only []); omega, by (try simp only []); omega⟩⟩
            · have e35 := e32.trans (condF h33)
              refine go tbv46ok 7 rfl rfl trivial ?_
              refine cnd rfl (fun h36 => ?_) (fun h36 => ?_)
              · have e37 := e35.trans (condT h36)
                refine go tbv46ok 4 rfl rfl trivial ?_
                refine ef (ecallw (route_put_ok _ _ (by first | omega | (simp; omega) | decide +kernel)) rfl rfl rfl rfl rfl rfl ?_)
                generalize hr40 : route_put places ((gt b.binds k).to) = r
                intro u38 w39
                have e41 := e37.trans (lt_eq hr40.symm)
                have hr40 := hr40.symm
                have hA41 := put_len places ((gt b.binds k).to)
                (try rw [← hr40] at hA41)
                refine go tbv46ok 9 rfl rfl ⟨(by omega), trivial⟩ ?_
                refine lj_osl (t := 14) 3 rfl rfl ?_
                refine next ⟨(k + 1), queues, r, (u_queues), (u38)⟩ rfl rfl ⟨rfl, rfl, rfl, trivial⟩ ⟨rfl, rfl, trivial⟩ ?_ ?_
                · (try simp only []); omega
                · exact ⟨by (try simp only []); omega, e41, ⟨by (try simp only []); omega, by (try simp only []); omega⟩⟩
              · have e43 := e35.trans (condF h36)
                refine go tbv46ok 4 rfl rfl trivial ?_
                refine ef (ecallw (route_put_ok _ _ (by first | omega | (simp; omega) | decide +kernel)) rfl rfl rfl rfl rfl rfl ?_)
                generalize hr46 : route_put queues ((gt b.binds k).to) = r1
                intro u44 w45
                have e47 := e43.trans (lt_eq hr46.symm)
                have hr46 := hr46.symm
                have hA47 := put_len queues ((gt b.binds k).to)
                (try rw [← hr46] at hA47)
                refine go tbv46ok 9 rfl rfl ⟨(by omega), trivial⟩ ?_
                refine lj_osl (t := 13) 2 rfl rfl ?_
                refine next ⟨(k + 1), r1, places, (u44), (u_places)⟩ rfl rfl ⟨rfl, rfl, rfl, trivial⟩ ⟨rfl, rfl, trivial⟩ ?_ ?_
                · (try simp only []); omega
                · exact ⟨by (try simp only []); omega, e47, ⟨by (try simp only []); omega, by (try simp only []); omega⟩⟩
        · have p49 := df h16
          have e50 := lstep (f := fun zz => route_Book_Leads_l0 b shop key h zz  queues places) hp15_2 (dropN (by omega)) (route_Book_Leads_l0.eq_1 _ _ _ _ _ _)
          refine go tbv46ok 14 rfl rfl trivial ?_
          refine givec 2 rfl ?_
          refine givec 3 rfl ?_
          refine go tbv46ok 2 rfl rfl trivial ?_
          exact rt3 rfl rfl (ple_of (fun r : (List Bs) × (List Bs) × Int => .tup [.sl strc r.1, .sl strc r.2.1, .int .i64 r.2.2]) e50 (ple rfl))
end Go.SW.V
set_option linter.unusedVariables false
set_option maxRecDepth 100000
set_option maxHeartbeats 4000000
namespace Go.SW.V
open Go.SW Go.Proofs
theorem cb115 : Callable Tryz.prog 115 := callable_of Tryz.func115 (by kernel_rfl) (by kernel_rfl)
theorem cb13 : Callable Tryz.prog 13 := callable_of Tryz.func13 (by kernel_rfl) (by kernel_rfl)
theorem cb14 : Callable Tryz.prog 14 := callable_of Tryz.func14 (by kernel_rfl) (by kernel_rfl)
theorem cb16 : Callable Tryz.prog 16 := callable_of Tryz.func16 (by kernel_rfl) (by kernel_rfl)
theorem cb17 : Callable Tryz.prog 17 := callable_of Tryz.func17 (by kernel_rfl) (by kernel_rfl)
theorem cb18 : Callable Tryz.prog 18 := callable_of Tryz.func18 (by kernel_rfl) (by kernel_rfl)
theorem cb20 : Callable Tryz.prog 20 := callable_of Tryz.func20 (by kernel_rfl) (by kernel_rfl)
theorem cb21 : Callable Tryz.prog 21 := callable_of Tryz.func21 (by kernel_rfl) (by kernel_rfl)
theorem cb22 : Callable Tryz.prog 22 := callable_of Tryz.func22 (by kernel_rfl) (by kernel_rfl)
theorem cb23 : Callable Tryz.prog 23 := callable_of Tryz.func23 (by kernel_rfl) (by kernel_rfl)
theorem cb31 : Callable Tryz.prog 31 := callable_of Tryz.func31 (by kernel_rfl) (by kernel_rfl)
theorem cb32 : Callable Tryz.prog 32 := callable_of Tryz.func32 (by kernel_rfl) (by kernel_rfl)
theorem cb56 : Callable Tryz.prog 56 := callable_of Tryz.func56 (by kernel_rfl) (by kernel_rfl)
theorem cb57 : Callable Tryz.prog 57 := callable_of Tryz.func57 (by kernel_rfl) (by kernel_rfl)
theorem cb58 : Callable Tryz.prog 58 := callable_of Tryz.func58 (by kernel_rfl) (by kernel_rfl)
theorem cb59 : Callable Tryz.prog 59 := callable_of Tryz.func59 (by kernel_rfl) (by kernel_rfl)
theorem cb60 : Callable Tryz.prog 60 := callable_of Tryz.func60 (by kernel_rfl) (by kernel_rfl)
theorem cb74 : Callable Tryz.prog 74 := callable_of Tryz.func74 (by kernel_rfl) (by kernel_rfl)
def tbv42 : Tb := [(4, ⟨.bool, 1, 1, [.bool false]⟩),
  (5, ⟨.int .u8, 1, 1, [.int .u8 0]⟩),
  (9, ⟨.str, 1, 16, [.str []]⟩),
  (22, ⟨.int .u64, 1, 8, [.int .u64 0]⟩),
  (24, ⟨.slc 126, 1, 24, [.sl TakerR.pc []]⟩),
  (25, ⟨.slc 39, 1, 24, [.sl LentR.pc []]⟩),
  (26, ⟨.slc 53, 1, 24, [.sl DeedR.pc []]⟩),
  (28, ⟨.agg [(0, 1)], 1, 24, [.sl DeedR.pc []]⟩),
  (30, ⟨.agg [(0, 1), (1, 1), (2, 1), (3, 1), (4, 1), (5, 1), (6, 1)], 7, 96, [.int .i64 0, .sl TakerR.pc [], .sl LentR.pc [], .bool false, .bool false, .int .u64 0, .sl DeedR.pc []]⟩),
  (39, ⟨.agg [(0, 1), (1, 1)], 2, 24, [.int .u64 0, .str []]⟩),
  (42, ⟨.slc 62, 1, 24, [.sl DeedR.pc []]⟩),
  (51, ⟨.agg [(0, 1), (1, 1), (2, 1), (3, 1), (4, 1), (5, 1), (6, 1)], 7, 96, [.int .u64 0, .str [], .str [], .sl Pair.pc [], .str [], .int .u64 0, .int .u8 0]⟩),
  (53, ⟨.agg [(0, 1), (1, 1), (2, 3), (5, 4), (9, 6), (15, 1), (16, 1), (17, 1), (18, 1), (19, 1), (20, 1), (21, 7), (28, 1)], 29, 344, [.int .u8 0, .int .u64 0, .str [], .int .u8 0, .str [], .str [], .int .u64 0, .int .u64 0, .str [], .str [], .str [], .bool false, .str [], .sl Pair.pc [], .bool false, .str [], .int .u64 0, .int .u8 0, .int .u8 0, .int .u8 0, .int .u64 0, .int .u64 0, .str [], .str [], .sl Pair.pc [], .str [], .int .u64 0, .int .u8 0, .str []]⟩),
  (62, ⟨.agg [(0, 1), (1, 1), (2, 3), (5, 4), (9, 6), (15, 1), (16, 1), (17, 1), (18, 1), (19, 1), (20, 1), (21, 7), (28, 1)], 29, 344, [.int .u8 0, .int .u64 0, .str [], .int .u8 0, .str [], .str [], .int .u64 0, .int .u64 0, .str [], .str [], .str [], .bool false, .str [], .sl Pair.pc [], .bool false, .str [], .int .u64 0, .int .u8 0, .int .u8 0, .int .u8 0, .int .u64 0, .int .u64 0, .str [], .str [], .sl Pair.pc [], .str [], .int .u64 0, .int .u8 0, .str []]⟩),
  (84, ⟨.slc 127, 1, 24, [.sl TakerR.pc []]⟩),
  (85, ⟨.slc 113, 1, 24, [.sl LentR.pc []]⟩),
  (87, ⟨.agg [(0, 1), (1, 1), (2, 1), (3, 1), (4, 1), (5, 1), (6, 1)], 7, 96, [.int .i64 0, .sl TakerR.pc [], .sl LentR.pc [], .bool false, .bool false, .int .u64 0, .sl DeedR.pc []]⟩),
  (113, ⟨.agg [(0, 1), (1, 1)], 2, 24, [.int .u64 0, .str []]⟩),
  (126, ⟨.agg [(0, 1), (1, 1)], 2, 24, [.int .u64 0, .str []]⟩),
  (127, ⟨.agg [(0, 1), (1, 1)], 2, 24, [.int .u64 0, .str []]⟩),
  (132, ⟨.slc 25, 1, 24, [.sl (slc LentR.pc) []]⟩),
  (135, ⟨.slc 26, 1, 24, [.sl (slc DeedR.pc) []]⟩),
  (166, ⟨.slc 24, 1, 24, [.sl (slc TakerR.pc) []]⟩)]
theorem tbv42ok : tbB Tryz.prog tbv42 = true := by kernel_rfl
theorem draft_Draft_Add_ok (x : DraftR) (l : List DeedR) (hx : x.l.length ≤ 1000) : Fn Tryz.prog gb 17 [.agg (DraftR.pc x), .sl DeedR.pc l] (.tup [.agg (DraftR.pc ((draft_Draft_Add x l).1)), .int .i64 ((draft_Draft_Add x l).2)]) := by
  refine fn_cw tbv42ok Tryz.func17 rfl Tryz.ntmps17 rfl cb17 rfl rfl fun w N H hG => ?_
  have x_l_l : x.l.length ≤ 140737488355328 := w.1.1.1
  have l_l : l.length ≤ 140737488355328 := w.2.1.1
  have e0 := draft_Draft_Add.eq_1 x l
  refine go tbv42ok 2 rfl rfl trivial ?_
  refine ef (boxA 0 rfl rfl rfl fun b1 => ?_)
  refine ef (alloc tbv42ok 1 rfl rfl rfl rfl fun b2 => ?_)
  refine go tbv42ok 6 rfl rfl trivial ?_
  refine ef (alloc tbv42ok 2 rfl rfl rfl rfl fun b3 => ?_)
  refine ef (storeA tbv42ok rfl rfl rfl rfl rfl rfl rfl rfl rfl rfl ?_)
  refine go tbv42ok 11 rfl rfl trivial ?_
  refine loop (ι := Nat × DraftR) [2, 4, 6, 11, 12] [0, 1] (fun ⟨k, x1⟩ => [(13, .int .i64 (k : Int))]) (fun ⟨k, x1⟩ => [(2, .box b3 28 [.sl DeedR.pc x1.l])]) (fun ⟨k, x1⟩ => k ≤ l.length ∧ draft_Draft_Add x l = draft_Draft_Add_l0 x (l.drop k)  x1 ∧ x1.l.length ≤ 1000) (fun ⟨k, x1⟩ => l.length - k) ⟨0, x⟩ ⟨rfl, trivial⟩ ⟨rfl, trivial⟩ ?_ ?_
  · exact ⟨Nat.zero_le _, e0, (by first | omega | (simp; done) | (simp; omega))⟩
  · rintro ⟨k, x1⟩ ⟨hp4_1, hp4_2, hp4_3⟩
    refine go tbv42ok 6 rfl rfl trivial ?_
    refine cnd rfl (fun h5 => ?_) (fun h5 => ?_)
    · have p6 := dt h5
      have e7 := lstep (f := fun zz => draft_Draft_Add_l0 x zz  x1) hp4_2 (dropG (by omega)) (draft_Draft_Add_l0.eq_2 _ _ _ _)
      have hc8 := getG (xs := l) (k := k) (by omega)
      refine go tbv42ok 6 rfl rfl trivial ?_
      refine q1 (qidx tbv42ok k rfl rfl rfl hc8 rfl rfl rfl rfl) rfl fun w9 => ?_
      refine go tbv42ok 1 rfl rfl trivial ?_
      refine ef (alloc tbv42ok 3 rfl rfl rfl rfl fun b10 => ?_)
      refine ef (storeA tbv42ok rfl rfl rfl rfl rfl rfl rfl rfl rfl rfl ?_)
      refine go tbv42ok 7 rfl rfl trivial ?_
      refine callv (draft_Draft_check x1 (gt l k)) (fun r : Int => .int .i64 r) (draft_Draft_check_ok _ _) rfl rfl fun r hr11 w12 => ?_
      have e13 := e7.trans (lt_eq hr11)
      have hA13 := chk_lt x1 (gt l k)
      (try rw [← hr11] at hA13)
      have hA14 := chk_head x1 (gt l k)
      (try rw [← hr11] at hA14)
      refine go tbv42ok 9 rfl rfl trivial ?_
      refine cnd rfl (fun h16 => ?_) (fun h16 => ?_)
      · have h17 := not_t h16
        have p18 := df h17
        have e19 := e13.trans (condT h16)
        refine go tbv42ok 4 rfl rfl trivial ?_
        refine ef (storeA tbv42ok rfl rfl rfl rfl rfl rfl rfl rfl rfl rfl ?_)
        refine go tbv42ok 10 rfl rfl trivial ?_
        exact rt2 rfl rfl (ple_of (fun r : DraftR × Int => .tup [.agg (DraftR.pc r.1), .int .i64 r.2]) e19 (ple rfl))
      · have h20 := not_f h16
        have p21 := dt h20
        have e22 := e13.trans (condF h16)
        refine go tbv42ok 2 rfl rfl trivial ?_
        refine any [4, 5, 6, 7, 8, 9] 9 mixd rfl ?_
        refine gov tbv42ok [0, 1, 2] 6 rfl (by kernel_rfl) rfl rfl trivial ?_
        refine ve 3 rfl (by kernel_rfl) rfl (ecall (draft_clone_ok _ (by first | omega | (simp; done) | decide)) rfl rfl ?_)
        generalize hr24 : draft_clone (gt l k) = r1
        intro w23
        have e25 := e22.trans (lt_eq hr24.symm)
        refine ve 4 rfl (by kernel_rfl) rfl (bsl 4 DeedR.pc [r1] tbv42ok rfl rfl rfl rfl rfl (fun _ => rfl) rfl (by decide) (by decide) rfl fun u26 => ?_)
        refine ve 5 rfl (by kernel_rfl) rfl (egive 4 rfl (bsl 4 (slc DeedR.pc) [x1.l, [r1]] tbv42ok rfl rfl rfl rfl rfl (fun _ => rfl) rfl (by decide) (by decide) rfl fun u27 => ?_))
        refine ve 6 rfl (by kernel_rfl) rfl (egive 4 rfl (eweak (ecall (concat_Deed _ (by first | omega | (simp; done) | (simp; omega) | (simp only [List.flatten_cons, List.flatten_nil, List.length_append, List.append_nil]; simp; omega))) rfl rfl fun w28 => ?_)))
        refine gov tbv42ok [7] 1 rfl (by kernel_rfl) rfl rfl trivial ?_
        refine vt 8 rfl (by kernel_rfl) (by kernel_rfl) (storeA tbv42ok rfl rfl rfl rfl rfl rfl rfl rfl rfl rfl ?_)
        refine vdone (by kernel_rfl) ?_
        refine go tbv42ok 6 rfl rfl ⟨(by omega), trivial⟩ ?_
        refine next ⟨(k + 1), (⟨[x1.l, [r1]].flatten⟩ : DraftR)⟩ rfl rfl ⟨rfl, trivial⟩ ⟨rfl, trivial⟩ ?_ ?_
        · (try simp only []); omega
        · exact ⟨by (try simp only []); omega, e25, (by (try simp only [List.length_append, List.length_cons, List.length_nil, List.flatten_cons, List.flatten_nil, List.append_nil, List.length_take, List.length_drop]); omega)⟩
    · have p29 := df h5
      have e30 := lstep (f := fun zz => draft_Draft_Add_l0 x zz  x1) hp4_2 (dropN (by omega)) (draft_Draft_Add_l0.eq_1 _ _)
      refine go tbv42ok 8 rfl rfl trivial ?_
      refine ef (storeA tbv42ok rfl rfl rfl rfl rfl rfl rfl rfl rfl rfl ?_)
      refine go tbv42ok 4 rfl rfl trivial ?_
      exact rt2 rfl rfl (ple_of (fun r : DraftR × Int => .tup [.agg (DraftR.pc r.1), .int .i64 r.2]) e30 (ple rfl))
theorem draft_Draft_At_ok (x : DraftR) (tick : Int) (hx : x.l.length ≤ 1000) (hh : ∀ d ∈ x.l, d.mail.head.length ≤ 1000000) : Fn Tryz.prog gb 21 [.agg (DraftR.pc x), .int .u64 tick] (.sl DeedR.pc (draft_Draft_At x tick)) := by
  refine fn_cw tbv42ok Tryz.func21 rfl Tryz.ntmps21 rfl cb21 rfl rfl fun w N H hG => ?_
  have x_l_l : x.l.length ≤ 140737488355328 := w.1.1.1
  have tick_r : 0 ≤ tick ∧ tick ≤ 18446744073709551615 := w.2.1
  have e0 := draft_Draft_At.eq_1 x tick
  refine go tbv42ok 2 rfl rfl trivial ?_
  refine ef (boxA 0 rfl rfl rfl fun b1 => ?_)
  refine go tbv42ok 18 rfl rfl trivial ?_
  refine sw_own (t := 5) (k := 29) (e := 53) 1 DeedR.pc rfl rfl ?_
  refine loop (ι := Nat × (List DeedR) × Value) [1, 4, 9, 10] [0] (fun ⟨k, out, u_out⟩ => [(11, .int .i64 (k : Int)), (5, .osl 1)]) (fun ⟨k, out, u_out⟩ => [(1, .arr u_out 29 53 DeedR.pc out)]) (fun ⟨k, out, u_out⟩ => k ≤ x.l.length ∧ draft_Draft_At x tick = draft_Draft_At_l0 tick (x.l.drop k)  out ∧ out.length ≤ k) (fun ⟨k, out, u_out⟩ => x.l.length - k) ⟨0, [], (.slice none 0 0)⟩ ⟨rfl, rfl, trivial⟩ ⟨rfl, trivial⟩ ?_ ?_
  · exact ⟨Nat.zero_le _, e0, (by first | omega | (simp; done) | (simp; omega))⟩
  · rintro ⟨k, out, u_out⟩ ⟨hp2_1, hp2_2, hp2_3⟩
    refine go tbv42ok 6 rfl rfl trivial ?_
    refine cnd rfl (fun h3 => ?_) (fun h3 => ?_)
    · have p4 := dt h3
      have e5 := lstep (f := fun zz => draft_Draft_At_l0 tick zz  out) hp2_2 (dropG (by omega)) (draft_Draft_At_l0.eq_2 _ _ _ _)
      have hc6 := getG (xs := x.l) (k := k) (by omega)
      have hh_hc6 := hh (gt x.l k) (List.mem_of_getElem? hc6)
      refine go tbv42ok 6 rfl rfl trivial ?_
      refine q1 (qidx tbv42ok k rfl rfl rfl hc6 rfl rfl rfl rfl) rfl fun w7 => ?_
      refine go tbv42ok 1 rfl rfl trivial ?_
      refine ef (alloc tbv42ok 2 rfl rfl rfl rfl fun b8 => ?_)
      refine ef (storeA tbv42ok rfl rfl rfl rfl rfl rfl rfl rfl rfl rfl ?_)
      refine go tbv42ok 5 rfl rfl trivial ?_
      refine callv (draft_clone (gt x.l k)) (fun r : DeedR => .agg (DeedR.pc r)) (draft_clone_ok _ (by first | omega | (simp; done) | decide)) rfl rfl fun r hr9 w10 => ?_
      have e11 := e5.trans (lt_eq hr9)
      refine ef (storeA tbv42ok rfl rfl rfl rfl rfl rfl rfl rfl rfl rfl ?_)
      refine go tbv42ok 6 rfl rfl trivial ?_
      refine ef (store1 tbv42ok rfl rfl rfl rfl rfl rfl rfl rfl rfl ?_)
      refine go tbv42ok 10 rfl rfl trivial ?_
      refine cnd rfl (fun h12 => ?_) (fun h12 => ?_)
      · have p13 := dt h12
        have e14 := e11.trans (condT h12)
        refine go tbv42ok 5 rfl rfl trivial ?_
        refine call (draft_Life _ _) rfl rfl fun w15 => ?_
        refine go tbv42ok 2 rfl rfl trivial ?_
        refine ef (store1 tbv42ok rfl rfl rfl rfl rfl rfl rfl rfl rfl ?_)
        refine go tbv42ok 5 rfl rfl trivial ?_
        refine ef (bsl 3 DeedR.pc [(⟨r.kind, tick, r.shop, r.queue, r.bind, r.name, r.id, r.how, r.frm, r.code, r.number, (⟨r.mail.id, r.mail.shop, r.mail.key, r.mail.head, r.mail.body, lifeN tick r.mail.due, r.mail.hops⟩ : Mail), r.text⟩ : DeedR)] tbv42ok rfl rfl rfl rfl rfl (fun _ => rfl) rfl (by decide) (by decide) rfl fun u16 => ?_)
        refine ef (app tbv42ok [(⟨r.kind, tick, r.shop, r.queue, r.bind, r.name, r.id, r.how, r.frm, r.code, r.number, (⟨r.mail.id, r.mail.shop, r.mail.key, r.mail.head, r.mail.body, lifeN tick r.mail.due, r.mail.hops⟩ : Mail), r.text⟩ : DeedR)] rfl rfl rfl rfl rfl rfl rfl rfl rfl (src_o rfl rfl) (by first | omega | (simp; omega)) rfl fun u17 => ?_)
        refine go tbv42ok 8 rfl rfl ⟨(by omega), trivial⟩ ?_
        refine next ⟨(k + 1), (out ++ [(⟨r.kind, tick, r.shop, r.queue, r.bind, r.name, r.id, r.how, r.frm, r.code, r.number, (⟨r.mail.id, r.mail.shop, r.mail.key, r.mail.head, r.mail.body, lifeN tick r.mail.due, r.mail.hops⟩ : Mail), r.text⟩ : DeedR)]), (u17)⟩ rfl rfl ⟨rfl, rfl, trivial⟩ ⟨rfl, trivial⟩ ?_ ?_
        · (try simp only []); omega
        · exact ⟨by (try simp only []); omega, e14, (by (try simp only [List.length_append, List.length_cons, List.length_nil, List.flatten_cons, List.flatten_nil, List.append_nil, List.length_take, List.length_drop]); omega)⟩
      · have p18 := df h12
        have e19 := e11.trans (condF h12)
        refine go tbv42ok 5 rfl rfl trivial ?_
        refine ef (bsl 3 DeedR.pc [(⟨r.kind, tick, r.shop, r.queue, r.bind, r.name, r.id, r.how, r.frm, r.code, r.number, r.mail, r.text⟩ : DeedR)] tbv42ok rfl rfl rfl rfl rfl (fun _ => rfl) rfl (by decide) (by decide) rfl fun u20 => ?_)
        refine ef (app tbv42ok [(⟨r.kind, tick, r.shop, r.queue, r.bind, r.name, r.id, r.how, r.frm, r.code, r.number, r.mail, r.text⟩ : DeedR)] rfl rfl rfl rfl rfl rfl rfl rfl rfl (src_o rfl rfl) (by first | omega | (simp; omega)) rfl fun u21 => ?_)
        refine go tbv42ok 8 rfl rfl ⟨(by omega), trivial⟩ ?_
        refine next ⟨(k + 1), (out ++ [(⟨r.kind, tick, r.shop, r.queue, r.bind, r.name, r.id, r.how, r.frm, r.code, r.number, r.mail, r.text⟩ : DeedR)]), (u21)⟩ rfl rfl ⟨rfl, rfl, trivial⟩ ⟨rfl, trivial⟩ ?_ ?_
        · (try simp only []); omega
        · exact ⟨by (try simp only []); omega, e19, (by (try simp only [List.length_append, List.length_cons, List.length_nil, List.flatten_cons, List.flatten_nil, List.append_nil, List.length_take, List.length_drop]); omega)⟩
    · have p22 := df h3
      have e23 := lstep (f := fun zz => draft_Draft_At_l0 tick zz  out) hp2_2 (dropN (by omega)) (draft_Draft_At_l0.eq_1 _ _)
      refine go tbv42ok 11 rfl rfl trivial ?_
      refine givec 1 rfl ?_
      refine go tbv42ok 1 rfl rfl trivial ?_
      exact rt1 rfl rfl (ple_of (fun r : (List DeedR) => .sl DeedR.pc r) e23 (ple rfl))
theorem r26_Add_ok (x : List DeedR) (l : List DeedR) (hx : x.length ≤ 1000) : Fn Tryz.prog gb 18 [.sl DeedR.pc x, .sl DeedR.pc l] (.tup [.sl DeedR.pc ((r26_Add x l).1), .int .i64 ((r26_Add x l).2)]) := by
  refine fn_cw tbv42ok Tryz.func18 rfl Tryz.ntmps18 rfl cb18 rfl rfl fun w N H hG => ?_
  have x_l : x.length ≤ 140737488355328 := w.1.1
  have l_l : l.length ≤ 140737488355328 := w.2.1.1
  have e0 := r26_Add.eq_1 x l
  refine go tbv42ok 15 rfl rfl trivial ?_
  refine ef (app0 0 tbv42ok x rfl rfl rfl rfl rfl rfl rfl (src_l rfl (fun _ => rfl)) (by first | omega | (simp; omega)) rfl rfl fun u1 => ?_)
  refine go tbv42ok 12 rfl rfl trivial ?_
  refine loop (ι := Nat × (List DeedR) × Value) [0, 13, 14] [] (fun ⟨k, out, u_out⟩ => [(15, .int .i64 (k : Int)), (6, .osl 0)]) (fun ⟨k, out, u_out⟩ => [(0, .arr u_out 29 62 DeedR.pc out)]) (fun ⟨k, out, u_out⟩ => k ≤ l.length ∧ r26_Add x l = r26_Add_l0 x (l.drop k)  out ∧ out.length ≤ 1000) (fun ⟨k, out, u_out⟩ => l.length - k) ⟨0, x, (u1)⟩ ⟨rfl, rfl, trivial⟩ ⟨rfl, trivial⟩ ?_ ?_
  · exact ⟨Nat.zero_le _, e0, (by first | omega | (simp; done) | (simp; omega))⟩
  · rintro ⟨k, out, u_out⟩ ⟨hp2_1, hp2_2, hp2_3⟩
    refine go tbv42ok 6 rfl rfl trivial ?_
    refine cnd rfl (fun h3 => ?_) (fun h3 => ?_)
    · have p4 := dt h3
      have e5 := lstep (f := fun zz => r26_Add_l0 x zz  out) hp2_2 (dropG (by omega)) (r26_Add_l0.eq_2 _ _ _ _)
      have hc6 := getG (xs := l) (k := k) (by omega)
      refine go tbv42ok 6 rfl rfl trivial ?_
      refine q1 (qidx tbv42ok k rfl rfl rfl hc6 rfl rfl rfl rfl) rfl fun w7 => ?_
      refine go tbv42ok 1 rfl rfl trivial ?_
      refine ef (alloc tbv42ok 1 rfl rfl rfl rfl fun b8 => ?_)
      refine ef (storeA tbv42ok rfl rfl rfl rfl rfl rfl rfl rfl rfl rfl ?_)
      refine go tbv42ok 15 rfl rfl ⟨(fun hc => hc), (fun hc => hc), rfl, rfl, trivial⟩ ?_
      refine cnd rfl (fun h9 => ?_) (fun h9 => ?_)
      · have h10 := bl h9
        have h11 := not_t h10
        have p12 := df h11
        have h13 := br h9
        have h14 := not_t h13
        have p15 := df h14
        have e16 := e5.trans (condT h9)
        refine go tbv42ok 14 rfl rfl trivial ?_
        exact rt2 rfl rfl (ple_of (fun r : (List DeedR) × Int => .tup [.sl DeedR.pc r.1, .int .i64 r.2]) e16 (ple rfl))
      · have e17 := e5.trans (condF h9)
        refine go tbv42ok 5 rfl rfl trivial ?_
        refine call (r22_Check _) rfl rfl fun w18 => ?_
        have := deedE_r (gt l k)
        refine go tbv42ok 10 rfl rfl trivial ?_
        refine cnd rfl (fun h19 => ?_) (fun h19 => ?_)
        · have h20 := not_t h19
          have p21 := df h20
          have e22 := e17.trans (condT h19)
          refine go tbv42ok 15 rfl rfl trivial ?_
          exact rt2 rfl rfl (ple_of (fun r : (List DeedR) × Int => .tup [.sl DeedR.pc r.1, .int .i64 r.2]) e22 (ple rfl))
        · have h23 := not_f h19
          have p24 := dt h23
          have e25 := e17.trans (condF h19)
          refine go tbv42ok 9 rfl rfl trivial ?_
          refine bcase (decide (((gt l k).kind) = 8)) (fun h26 => ?_) (fun h26 => ?_)
          · have p27 := dt h26
            have e28 := e25.trans (condT h26)
            refine so_rt (t := 36) (p' := .bool true) (ple (congrArg PV.bool h26)) rfl ?_
            refine so_rt (t := 37) (p' := .bool true) (ple (congrArg PV.bool h26)) rfl ?_
            refine ungd rfl rfl ?_
            refine go tbv42ok 1 rfl rfl trivial ?_
            refine ungd rfl rfl ?_
            refine go tbv42ok 1 rfl rfl trivial ?_
            refine ungd rfl rfl ?_
            refine go tbv42ok 1 rfl rfl trivial ?_
            refine ungd rfl rfl ?_
            refine go tbv42ok 1 rfl rfl trivial ?_
            refine ungd rfl rfl ?_
            refine go tbv42ok 1 rfl rfl trivial ?_
            refine ungd rfl rfl ?_
            refine ef (calll 0 rfl (r26_Settles_ok _ _ _) rfl rfl rfl fun w29 => ?_)
            refine go tbv42ok 3 rfl rfl trivial ?_
            refine cnd rfl (fun h30 => ?_) (fun h30 => ?_)
            · have e31 := e28.trans (condT h30)
              refine go tbv42ok 14 rfl rfl trivial ?_
              exact rt2 rfl rfl (ple_of (fun r : (List DeedR) × Int => .tup [.sl DeedR.pc r.1, .int .i64 r.2]) e31 (ple rfl))
            · have e32 := e28.trans (condF h30)
              refine go tbv42ok 10 rfl rfl trivial ?_
              refine cnd rfl (fun h33 => ?_) (fun h33 => ?_)
              · have p34 := dt h33
                have e35 := e32.trans (condT h33)
                refine go tbv42ok 14 rfl rfl trivial ?_
                exact rt2 rfl rfl (ple_of (fun r : (List DeedR) × Int => .tup [.sl DeedR.pc r.1, .int .i64 r.2]) e35 (ple rfl))
              · have p36 := df h33
                have e37 := e32.trans (condF h33)
                refine go tbv42ok 5 rfl rfl trivial ?_
                refine ef (bsl 2 DeedR.pc [(gt l k)] tbv42ok rfl rfl rfl rfl rfl (fun _ => rfl) rfl (by decide) (by decide) rfl fun u38 => ?_)
                refine ef (app tbv42ok [(gt l k)] rfl rfl rfl rfl rfl rfl rfl rfl rfl (src_o rfl rfl) (by first | omega | (simp; omega)) rfl fun u39 => ?_)
                refine go tbv42ok 8 rfl rfl ⟨(by omega), trivial⟩ ?_
                refine next ⟨(k + 1), (out ++ [(gt l k)]), (u39)⟩ rfl rfl ⟨rfl, rfl, trivial⟩ ⟨rfl, trivial⟩ ?_ ?_
                · (try simp only []); omega
                · exact ⟨by (try simp only []); omega, e37, (by (try simp only [List.length_append, List.length_cons, List.length_nil, List.flatten_cons, List.flatten_nil, List.append_nil, List.length_take, List.length_drop]); omega)⟩
          · have p40 := df h26
            have e41 := e25.trans (condF h26)
            refine so_rt (t := 36) (p' := .bool false) (ple (congrArg PV.bool h26)) rfl ?_
            refine so_rt (t := 37) (p' := .bool false) (ple (congrArg PV.bool h26)) rfl ?_
            refine ungs rfl rfl rfl ?_
            refine ungs rfl rfl rfl ?_
            refine ungs rfl rfl rfl ?_
            refine ungs rfl rfl rfl ?_
            refine ungs rfl rfl rfl ?_
            refine ungs rfl rfl rfl ?_
            refine go tbv42ok 14 rfl rfl trivial ?_
            refine cnd rfl (fun h42 => ?_) (fun h42 => ?_)
            · have p43 := dt h42
              have e44 := e41.trans (condT h42)
              refine go tbv42ok 14 rfl rfl trivial ?_
              exact rt2 rfl rfl (ple_of (fun r : (List DeedR) × Int => .tup [.sl DeedR.pc r.1, .int .i64 r.2]) e44 (ple rfl))
            · have p45 := df h42
              have e46 := e41.trans (condF h42)
              refine go tbv42ok 5 rfl rfl trivial ?_
              refine ef (bsl 2 DeedR.pc [(gt l k)] tbv42ok rfl rfl rfl rfl rfl (fun _ => rfl) rfl (by decide) (by decide) rfl fun u47 => ?_)
              refine ef (app tbv42ok [(gt l k)] rfl rfl rfl rfl rfl rfl rfl rfl rfl (src_o rfl rfl) (by first | omega | (simp; omega)) rfl fun u48 => ?_)
              refine go tbv42ok 8 rfl rfl ⟨(by omega), trivial⟩ ?_
              refine next ⟨(k + 1), (out ++ [(gt l k)]), (u48)⟩ rfl rfl ⟨rfl, rfl, trivial⟩ ⟨rfl, trivial⟩ ?_ ?_
              · (try simp only []); omega
              · exact ⟨by (try simp only []); omega, e46, (by (try simp only [List.length_append, List.length_cons, List.length_nil, List.flatten_cons, List.flatten_nil, List.append_nil, List.length_take, List.length_drop]); omega)⟩
    · have p49 := df h3
      have e50 := lstep (f := fun zz => r26_Add_l0 x zz  out) hp2_2 (dropN (by omega)) (r26_Add_l0.eq_1 _ _)
      refine go tbv42ok 12 rfl rfl trivial ?_
      refine givec 0 rfl ?_
      refine go tbv42ok 1 rfl rfl trivial ?_
      exact rt2 rfl rfl (ple_of (fun r : (List DeedR) × Int => .tup [.sl DeedR.pc r.1, .int .i64 r.2]) e50 (ple rfl))
theorem r26_At_ok (x : List DeedR) (tick : Int) (hx : x.length ≤ 1000) : Fn Tryz.prog gb 23 [.sl DeedR.pc x, .int .u64 tick] (.sl DeedR.pc (r26_At x tick)) := by
  refine fn_cw tbv42ok Tryz.func23 rfl Tryz.ntmps23 rfl cb23 rfl rfl fun w N H hG => ?_
  have x_l : x.length ≤ 140737488355328 := w.1.1
  have tick_r : 0 ≤ tick ∧ tick ≤ 18446744073709551615 := w.2.1
  have e0 := r26_At.eq_1 x tick
  refine go tbv42ok 19 rfl rfl trivial ?_
  refine sw_own (t := 5) (k := 29) (e := 62) 0 DeedR.pc rfl rfl ?_
  refine loop (ι := Nat × (List DeedR) × Value) [1, 4, 8, 9] [] (fun ⟨k, out, u_out⟩ => [(10, .int .i64 (k : Int)), (5, .osl 0)]) (fun ⟨k, out, u_out⟩ => [(0, .arr u_out 29 62 DeedR.pc out)]) (fun ⟨k, out, u_out⟩ => k ≤ x.length ∧ r26_At x tick = r26_At_l0 tick (x.drop k)  out ∧ out.length ≤ k) (fun ⟨k, out, u_out⟩ => x.length - k) ⟨0, [], (.slice none 0 0)⟩ ⟨rfl, rfl, trivial⟩ ⟨rfl, trivial⟩ ?_ ?_
  · exact ⟨Nat.zero_le _, e0, (by first | omega | (simp; done) | (simp; omega))⟩
  · rintro ⟨k, out, u_out⟩ ⟨hp1_1, hp1_2, hp1_3⟩
    refine go tbv42ok 6 rfl rfl trivial ?_
    refine cnd rfl (fun h2 => ?_) (fun h2 => ?_)
    · have p3 := dt h2
      have e4 := lstep (f := fun zz => r26_At_l0 tick zz  out) hp1_2 (dropG (by omega)) (r26_At_l0.eq_2 _ _ _ _)
      have hc5 := getG (xs := x) (k := k) (by omega)
      refine go tbv42ok 6 rfl rfl trivial ?_
      refine q1 (qidx tbv42ok k rfl rfl rfl hc5 rfl rfl rfl rfl) rfl fun w6 => ?_
      refine go tbv42ok 1 rfl rfl trivial ?_
      refine ef (alloc tbv42ok 1 rfl rfl rfl rfl fun b7 => ?_)
      refine ef (storeA tbv42ok rfl rfl rfl rfl rfl rfl rfl rfl rfl rfl ?_)
      refine go tbv42ok 6 rfl rfl trivial ?_
      refine ef (store1 tbv42ok rfl rfl rfl rfl rfl rfl rfl rfl rfl ?_)
      refine go tbv42ok 10 rfl rfl trivial ?_
      refine cnd rfl (fun h8 => ?_) (fun h8 => ?_)
      · have p9 := dt h8
        have e10 := e4.trans (condT h8)
        refine go tbv42ok 5 rfl rfl trivial ?_
        refine call (r26_Life _ _) rfl rfl fun w11 => ?_
        refine go tbv42ok 2 rfl rfl trivial ?_
        refine ef (store1 tbv42ok rfl rfl rfl rfl rfl rfl rfl rfl rfl ?_)
        refine go tbv42ok 5 rfl rfl trivial ?_
        refine ef (bsl 2 DeedR.pc [(⟨(gt x k).kind, tick, (gt x k).shop, (gt x k).queue, (gt x k).bind, (gt x k).name, (gt x k).id, (gt x k).how, (gt x k).frm, (gt x k).code, (gt x k).number, (⟨(gt x k).mail.id, (gt x k).mail.shop, (gt x k).mail.key, (gt x k).mail.head, (gt x k).mail.body, lifeN tick ((gt x k).mail.due), (gt x k).mail.hops⟩ : Mail), (gt x k).text⟩ : DeedR)] tbv42ok rfl rfl rfl rfl rfl (fun _ => rfl) rfl (by decide) (by decide) rfl fun u12 => ?_)
        refine ef (app tbv42ok [(⟨(gt x k).kind, tick, (gt x k).shop, (gt x k).queue, (gt x k).bind, (gt x k).name, (gt x k).id, (gt x k).how, (gt x k).frm, (gt x k).code, (gt x k).number, (⟨(gt x k).mail.id, (gt x k).mail.shop, (gt x k).mail.key, (gt x k).mail.head, (gt x k).mail.body, lifeN tick ((gt x k).mail.due), (gt x k).mail.hops⟩ : Mail), (gt x k).text⟩ : DeedR)] rfl rfl rfl rfl rfl rfl rfl rfl rfl (src_o rfl rfl) (by first | omega | (simp; omega)) rfl fun u13 => ?_)
        refine go tbv42ok 8 rfl rfl ⟨(by omega), trivial⟩ ?_
        refine next ⟨(k + 1), (out ++ [(⟨(gt x k).kind, tick, (gt x k).shop, (gt x k).queue, (gt x k).bind, (gt x k).name, (gt x k).id, (gt x k).how, (gt x k).frm, (gt x k).code, (gt x k).number, (⟨(gt x k).mail.id, (gt x k).mail.shop, (gt x k).mail.key, (gt x k).mail.head, (gt x k).mail.body, lifeN tick ((gt x k).mail.due), (gt x k).mail.hops⟩ : Mail), (gt x k).text⟩ : DeedR)]), (u13)⟩ rfl rfl ⟨rfl, rfl, trivial⟩ ⟨rfl, trivial⟩ ?_ ?_
        · (try simp only []); omega
        · exact ⟨by (try simp only []); omega, e10, (by (try simp only [List.length_append, List.length_cons, List.length_nil, List.flatten_cons, List.flatten_nil, List.append_nil, List.length_take, List.length_drop]); omega)⟩
      · have p14 := df h8
        have e15 := e4.trans (condF h8)
        refine go tbv42ok 5 rfl rfl trivial ?_
        refine ef (bsl 2 DeedR.pc [(⟨(gt x k).kind, tick, (gt x k).shop, (gt x k).queue, (gt x k).bind, (gt x k).name, (gt x k).id, (gt x k).how, (gt x k).frm, (gt x k).code, (gt x k).number, (gt x k).mail, (gt x k).text⟩ : DeedR)] tbv42ok rfl rfl rfl rfl rfl (fun _ => rfl) rfl (by decide) (by decide) rfl fun u16 => ?_)
        refine ef (app tbv42ok [(⟨(gt x k).kind, tick, (gt x k).shop, (gt x k).queue, (gt x k).bind, (gt x k).name, (gt x k).id, (gt x k).how, (gt x k).frm, (gt x k).code, (gt x k).number, (gt x k).mail, (gt x k).text⟩ : DeedR)] rfl rfl rfl rfl rfl rfl rfl rfl rfl (src_o rfl rfl) (by first | omega | (simp; omega)) rfl fun u17 => ?_)
        refine go tbv42ok 8 rfl rfl ⟨(by omega), trivial⟩ ?_
        refine next ⟨(k + 1), (out ++ [(⟨(gt x k).kind, tick, (gt x k).shop, (gt x k).queue, (gt x k).bind, (gt x k).name, (gt x k).id, (gt x k).how, (gt x k).frm, (gt x k).code, (gt x k).number, (gt x k).mail, (gt x k).text⟩ : DeedR)]), (u17)⟩ rfl rfl ⟨rfl, rfl, trivial⟩ ⟨rfl, trivial⟩ ?_ ?_
        · (try simp only []); omega
        · exact ⟨by (try simp only []); omega, e15, (by (try simp only [List.length_append, List.length_cons, List.length_nil, List.flatten_cons, List.flatten_nil, List.append_nil, List.length_take, List.length_drop]); omega)⟩
    · have p18 := df h2
      have e19 := lstep (f := fun zz => r26_At_l0 tick zz  out) hp1_2 (dropN (by omega)) (r26_At_l0.eq_1 _ _)
      refine go tbv42ok 11 rfl rfl trivial ?_
      refine givec 0 rfl ?_
      refine go tbv42ok 1 rfl rfl trivial ?_
      exact rt1 rfl rfl (ple_of (fun r : (List DeedR) => .sl DeedR.pc r) e19 (ple rfl))
theorem l22_All_ok (l : List DeedR) (hl : l.length ≤ 1000) : Fn Tryz.prog gb 20 [.sl DeedR.pc l] (.tup [.sl DeedR.pc ((l22_All l).1), .bool ((l22_All l).2)]) := by
  refine fn_cw tbv42ok Tryz.func20 rfl Tryz.ntmps20 rfl cb20 rfl rfl fun w N H hG => ?_
  have l_l : l.length ≤ 140737488355328 := w.1.1
  have e0 := l22_All.eq_1 l
  refine go tbv42ok 20 rfl rfl trivial ?_
  refine sw_own (t := 4) (k := 29) (e := 62) 0 DeedR.pc rfl rfl ?_
  refine loop (ι := Nat × (List DeedR) × Value) [7, 8] [] (fun ⟨k, out, u_out⟩ => [(9, .int .i64 (k : Int)), (4, .osl 0)]) (fun ⟨k, out, u_out⟩ => [(0, .arr u_out 29 62 DeedR.pc out)]) (fun ⟨k, out, u_out⟩ => k ≤ l.length ∧ l22_All l = l22_All_l0 (l.drop k)  out ∧ out.length ≤ k) (fun ⟨k, out, u_out⟩ => l.length - k) ⟨0, [], (.slice none 0 0)⟩ ⟨rfl, rfl, trivial⟩ ⟨rfl, trivial⟩ ?_ ?_
  · exact ⟨Nat.zero_le _, e0, (by first | omega | (simp; done) | (simp; omega))⟩
  · rintro ⟨k, out, u_out⟩ ⟨hp1_1, hp1_2, hp1_3⟩
    refine go tbv42ok 6 rfl rfl trivial ?_
    refine cnd rfl (fun h2 => ?_) (fun h2 => ?_)
    · have p3 := dt h2
      have e4 := lstep (f := fun zz => l22_All_l0 zz  out) hp1_2 (dropG (by omega)) (l22_All_l0.eq_2 _ _ _)
      have hc5 := getG (xs := l) (k := k) (by omega)
      refine go tbv42ok 6 rfl rfl trivial ?_
      refine q1 (qidx tbv42ok k rfl rfl rfl hc5 rfl rfl rfl rfl) rfl fun w6 => ?_
      refine go tbv42ok 1 rfl rfl trivial ?_
      refine ef (alloc tbv42ok 1 rfl rfl rfl rfl fun b7 => ?_)
      refine ef (storeA tbv42ok rfl rfl rfl rfl rfl rfl rfl rfl rfl rfl ?_)
      refine go tbv42ok 6 rfl rfl trivial ?_
      refine call (l22_Light _) rfl rfl fun w8 => ?_
      have hld8 := lightD_len (gt l k)
      refine go tbv42ok 3 rfl rfl trivial ?_
      refine cnd rfl (fun h9 => ?_) (fun h9 => ?_)
      · have h10 := not_t h9
        have e11 := e4.trans (condT h9)
        refine go tbv42ok 13 rfl rfl trivial ?_
        exact rt2 rfl rfl (ple_of (fun r : (List DeedR) × Bool => .tup [.sl DeedR.pc r.1, .bool r.2]) e11 (ple_tup (ples_cons ple_nil (ples_cons (ple rfl) ples_nil))))
      · have h12 := not_f h9
        have e13 := e4.trans (condF h9)
        refine go tbv42ok 5 rfl rfl trivial ?_
        refine call (l22_To _ (by first | omega | (have := lightD_len (gt l k) (by assumption); omega))) rfl rfl fun w14 => ?_
        refine ef (bsl 2 DeedR.pc [(gt l k)] tbv42ok rfl rfl rfl rfl rfl (fun _ => rfl) rfl (by decide) (by decide) rfl fun u15 => ?_)
        refine ef (app tbv42ok [(gt l k)] rfl rfl rfl rfl rfl rfl rfl rfl rfl (src_o rfl rfl) (by first | omega | (simp; omega)) rfl fun u16 => ?_)
        refine go tbv42ok 8 rfl rfl ⟨(by omega), trivial⟩ ?_
        refine next ⟨(k + 1), (out ++ [(gt l k)]), (u16)⟩ rfl rfl ⟨rfl, rfl, trivial⟩ ⟨rfl, trivial⟩ ?_ ?_
        · (try simp only []); omega
        · exact ⟨by (try simp only []); omega, e13, (by (try simp only [List.length_append, List.length_cons, List.length_nil, List.flatten_cons, List.flatten_nil, List.append_nil, List.length_take, List.length_drop]); omega)⟩
    · have p17 := df h2
      have e18 := lstep (f := fun zz => l22_All_l0 zz  out) hp1_2 (dropN (by omega)) (l22_All_l0.eq_1 _)
      refine go tbv42ok 12 rfl rfl trivial ?_
      refine givec 0 rfl ?_
      refine go tbv42ok 1 rfl rfl trivial ?_
      exact rt2 rfl rfl (ple_of (fun r : (List DeedR) × Bool => .tup [.sl DeedR.pc r.1, .bool r.2]) e18 (ple rfl))
theorem l23_Light_ok (l : List DeedR) : Fn Tryz.prog gb 16 [.sl DeedR.pc l] (.bool (l23_Light l)) := by
  refine fn_cw tbv42ok Tryz.func16 rfl Tryz.ntmps16 rfl cb16 rfl rfl fun w N H hG => ?_
  have l_l : l.length ≤ 140737488355328 := w.1.1
  have e0 := l23_Light.eq_1 l
  refine go tbv42ok 14 rfl rfl trivial ?_
  refine loop (ι := Nat) [0, 5, 6] [] (fun k => [(7, .int .i64 (k : Int))]) (fun k => []) (fun k => k ≤ l.length ∧ l23_Light l = l23_Light_l0 l (l.drop k) ) (fun k => l.length - k) 0 ⟨rfl, trivial⟩ trivial ?_ ?_
  · exact ⟨Nat.zero_le _, e0⟩
  · rintro k ⟨hp1_1, hp1_2⟩
    refine go tbv42ok 6 rfl rfl trivial ?_
    refine cnd rfl (fun h2 => ?_) (fun h2 => ?_)
    · have p3 := dt h2
      have e4 := lstep (f := fun zz => l23_Light_l0 l zz ) hp1_2 (dropG (by omega)) (l23_Light_l0.eq_2 _ _ _)
      have hc5 := getG (xs := l) (k := k) (by omega)
      refine go tbv42ok 6 rfl rfl trivial ?_
      refine q1 (qidx tbv42ok k rfl rfl rfl hc5 rfl rfl rfl rfl) rfl fun w6 => ?_
      refine go tbv42ok 1 rfl rfl trivial ?_
      refine ef (alloc tbv42ok 0 rfl rfl rfl rfl fun b7 => ?_)
      refine ef (storeA tbv42ok rfl rfl rfl rfl rfl rfl rfl rfl rfl rfl ?_)
      refine go tbv42ok 5 rfl rfl trivial ?_
      refine call (l22_Light _) rfl rfl fun w8 => ?_
      have hld8 := lightD_len (gt l k)
      refine go tbv42ok 3 rfl rfl trivial ?_
      refine cnd rfl (fun h9 => ?_) (fun h9 => ?_)
      · have h10 := not_t h9
        have e11 := e4.trans (condT h9)
        refine go tbv42ok 11 rfl rfl trivial ?_
        exact rt1 rfl rfl (ple_of (fun r : Bool => .bool r) e11 (ple rfl))
      · have h12 := not_f h9
        have e13 := e4.trans (condF h9)
        refine go tbv42ok 7 rfl rfl ⟨(by omega), trivial⟩ ?_
        refine next (k + 1) rfl rfl ⟨rfl, trivial⟩ trivial ?_ ?_
        · (try simp only []); omega
        · exact ⟨by (try simp only []); omega, e13⟩
    · have p14 := df h2
      have e15 := lstep (f := fun zz => l23_Light_l0 l zz ) hp1_2 (dropN (by omega)) (l23_Light_l0.eq_1 _)
      refine go tbv42ok 14 rfl rfl trivial ?_
      exact rt1 rfl rfl (ple_of (fun r : Bool => .bool r) e15 (ple rfl))
theorem r22_SameAll_ok (a : List DeedR) (b : List DeedR) : Fn Tryz.prog gb 22 [.sl DeedR.pc a, .sl DeedR.pc b] (.bool (r22_SameAll a b)) := by
  refine fn_cw tbv42ok Tryz.func22 rfl Tryz.ntmps22 rfl cb22 rfl rfl fun w N H hG => ?_
  have a_l : a.length ≤ 140737488355328 := w.1.1
  have b_l : b.length ≤ 140737488355328 := w.2.1.1
  have e0 := r22_SameAll.eq_1 a b
  refine go tbv42ok 15 rfl rfl trivial ?_
  refine cnd rfl (fun h1 => ?_) (fun h1 => ?_)
  · have h2 := not_t h1
    have p3 := df h2
    have e4 := e0.trans (condT h1)
    refine go tbv42ok 7 rfl rfl trivial ?_
    exact rt1 rfl rfl (ple_of (fun r : Bool => .bool r) e4 (ple rfl))
  · have h5 := not_f h1
    have p6 := dt h5
    have e7 := e0.trans (condF h1)
    refine go tbv42ok 11 rfl rfl trivial ?_
    refine loop (ι := Nat) [0, 1, 12] [] (fun k => [(13, .int .i64 (k : Int))]) (fun k => []) (fun k => k ≤ a.length ∧ r22_SameAll a b = r22_SameAll_l0 b (a.drop k) k) (fun k => a.length - k) 0 ⟨rfl, trivial⟩ trivial ?_ ?_
    · exact ⟨Nat.zero_le _, e7⟩
    · rintro k ⟨hp8_1, hp8_2⟩
      refine go tbv42ok 6 rfl rfl trivial ?_
      refine cnd rfl (fun h9 => ?_) (fun h9 => ?_)
      · have p10 := dt h9
        have e11 := lstep (f := fun zz => r22_SameAll_l0 b zz k) hp8_2 (dropG (by omega)) (r22_SameAll_l0.eq_2 _ _ _ _)
        refine go tbv42ok 11 rfl rfl trivial ?_
        refine any [0, 1, 2, 3, 4, 5] 10 mixd rfl ?_
        refine gov tbv42ok [0, 1] 8 rfl (by kernel_rfl) rfl rfl trivial ?_
        have hc12 := getG (xs := a) (k := k) (by omega)
        refine vq 2 (qidx tbv42ok k rfl rfl rfl hc12 rfl rfl rfl rfl) rfl (by kernel_rfl) rfl fun w13 => ?_
        refine gov tbv42ok [3, 4, 5] 4 rfl (by kernel_rfl) rfl rfl trivial ?_
        have hc14 := getG (xs := b) (k := k) (by omega)
        refine vq 6 (qidx tbv42ok k rfl rfl rfl hc14 rfl rfl rfl rfl) rfl (by kernel_rfl) rfl fun w15 => ?_
        refine gov tbv42ok [7] 2 rfl (by kernel_rfl) rfl rfl trivial ?_
        refine vcall 8 rfl (by kernel_rfl) (r22_Same _ _) rfl rfl fun w16 => ?_
        refine gov tbv42ok [9] 0 rfl (by kernel_rfl) rfl rfl trivial ?_
        refine vdone (by kernel_rfl) ?_
        refine go tbv42ok 1 rfl rfl trivial ?_
        refine cnd rfl (fun h17 => ?_) (fun h17 => ?_)
        · have h18 := not_t h17
          have p19 := df h18
          have e20 := e11.trans (condT h17)
          refine go tbv42ok 11 rfl rfl trivial ?_
          exact rt1 rfl rfl (ple_of (fun r : Bool => .bool r) e20 (ple rfl))
        · have h21 := not_f h17
          have p22 := dt h21
          have e23 := e11.trans (condF h17)
          refine go tbv42ok 7 rfl rfl ⟨(by omega), trivial⟩ ?_
          refine next (k + 1) rfl rfl ⟨rfl, trivial⟩ trivial ?_ ?_
          · (try simp only []); omega
          · exact ⟨by (try simp only []); omega, e23⟩
      · have p24 := df h9
        have e25 := lstep (f := fun zz => r22_SameAll_l0 b zz k) hp8_2 (dropN (by omega)) (r22_SameAll_l0.eq_1 _ _)
        refine go tbv42ok 11 rfl rfl trivial ?_
        exact rt1 rfl rfl (ple_of (fun r : Bool => .bool r) e25 (ple rfl))
theorem chans_Chan_Take_ok (c : ChanR) (tag : Int) (queue : Bs) (ht : c.takers.length ≤ 1000) : Fn Tryz.prog gb 56 [.agg (ChanR.pc c), .int .u64 tag, .str queue] (.tup [.agg (ChanR.pc ((chans_Chan_Take c tag queue).1)), .int .i64 ((chans_Chan_Take c tag queue).2)]) := by
  refine fn_cw tbv42ok Tryz.func56 rfl Tryz.ntmps56 rfl cb56 rfl rfl fun w N H hG => ?_
  have c_takers_l : c.takers.length ≤ 140737488355328 := w.1.2.1.1
  have c_lent_l : c.lent.length ≤ 140737488355328 := w.1.2.2.1.1
  have c_held_l_l : c.held.l.length ≤ 140737488355328 := w.1.2.2.2.2.2.2.1.1
  have tag_r : 0 ≤ tag ∧ tag ≤ 18446744073709551615 := w.2.1
  have queue_l : queue.length ≤ 9223372036854775807 := w.2.2.1
  have e0 := chans_Chan_Take.eq_1 c tag queue
  refine go tbv42ok 2 rfl rfl trivial ?_
  refine ef (boxA 0 rfl rfl rfl fun b1 => ?_)
  refine ef (alloc tbv42ok 1 rfl rfl rfl rfl fun b2 => ?_)
  refine go tbv42ok 12 rfl rfl trivial ?_
  refine cnd rfl (fun h3 => ?_) (fun h3 => ?_)
  · have p4 := dt h3
    have e5 := e0.trans (condT h3)
    refine go tbv42ok 3 rfl rfl trivial ?_
    refine ef (storeA tbv42ok rfl rfl rfl rfl rfl rfl rfl rfl rfl rfl ?_)
    refine go tbv42ok 6 rfl rfl trivial ?_
    exact rt2 rfl rfl (ple_of (fun r : ChanR × Int => .tup [.agg (ChanR.pc r.1), .int .i64 r.2]) e5 (ple rfl))
  · have p6 := df h3
    have e7 := e0.trans (condF h3)
    refine go tbv42ok 4 rfl rfl trivial ?_
    refine callv (chans_Chan_of c tag) (fun r : Int => .int .i64 r) (chans_Chan_of_ok _ _) rfl rfl fun r hr8 w9 => ?_
    have e10 := e7.trans (lt_eq hr8)
    have hA10 := chans_of_r c tag
    (try rw [← hr8] at hA10)
    refine go tbv42ok 4 rfl rfl trivial ?_
    refine cnd rfl (fun h12 => ?_) (fun h12 => ?_)
    · have p13 := dt h12
      have e14 := e10.trans (condT h12)
      refine go tbv42ok 3 rfl rfl trivial ?_
      refine ef (storeA tbv42ok rfl rfl rfl rfl rfl rfl rfl rfl rfl rfl ?_)
      refine go tbv42ok 6 rfl rfl trivial ?_
      exact rt2 rfl rfl (ple_of (fun r : ChanR × Int => .tup [.agg (ChanR.pc r.1), .int .i64 r.2]) e14 (ple rfl))
    · have p15 := df h12
      have e16 := e10.trans (condF h12)
      refine go tbv42ok 9 rfl rfl trivial ?_
      refine cnd rfl (fun h17 => ?_) (fun h17 => ?_)
      · have p18 := dt h17
        have e19 := e16.trans (condT h17)
        refine go tbv42ok 3 rfl rfl trivial ?_
        refine ef (storeA tbv42ok rfl rfl rfl rfl rfl rfl rfl rfl rfl rfl ?_)
        refine go tbv42ok 6 rfl rfl trivial ?_
        exact rt2 rfl rfl (ple_of (fun r : ChanR × Int => .tup [.agg (ChanR.pc r.1), .int .i64 r.2]) e19 (ple rfl))
      · have p20 := df h17
        have e21 := e16.trans (condF h17)
        refine go tbv42ok 10 rfl rfl trivial ?_
        refine ef (bsl 2 TakerR.pc [(⟨tag, queue⟩ : TakerR)] tbv42ok rfl rfl rfl rfl rfl (fun _ => rfl) rfl (by decide) (by decide) rfl fun u22 => ?_)
        refine give 2 rfl ?_
        refine ef (bsl 2 (slc TakerR.pc) [c.takers, [(⟨tag, queue⟩ : TakerR)]] tbv42ok rfl rfl rfl rfl rfl (fun _ => rfl) rfl (by decide) (by decide) rfl fun u23 => ?_)
        refine give 2 rfl ?_
        refine call (concat_Taker _ (by first | omega | (simp; done) | (simp; omega) | (simp only [List.flatten_cons, List.flatten_nil, List.length_append, List.append_nil]; simp; omega))) rfl rfl fun w24 => ?_
        refine go tbv42ok 1 rfl rfl trivial ?_
        refine ef (store1 tbv42ok rfl rfl rfl rfl rfl rfl rfl rfl rfl ?_)
        refine go tbv42ok 5 rfl rfl trivial ?_
        refine ef (storeA tbv42ok rfl rfl rfl rfl rfl rfl rfl rfl rfl rfl ?_)
        refine go tbv42ok 4 rfl rfl trivial ?_
        exact rt2 rfl rfl (ple_of (fun r : ChanR × Int => .tup [.agg (ChanR.pc r.1), .int .i64 r.2]) e21 (ple rfl))
theorem chans_Chan_Leave_ok (c : ChanR) (tag : Int) (ht : c.takers.length ≤ 1000) : Fn Tryz.prog gb 58 [.agg (ChanR.pc c), .int .u64 tag] (.tup [.agg (ChanR.pc ((chans_Chan_Leave c tag).1)), .int .i64 ((chans_Chan_Leave c tag).2)]) := by
  refine fn_cw tbv42ok Tryz.func58 rfl Tryz.ntmps58 rfl cb58 rfl rfl fun w N H hG => ?_
  have c_takers_l : c.takers.length ≤ 140737488355328 := w.1.2.1.1
  have c_lent_l : c.lent.length ≤ 140737488355328 := w.1.2.2.1.1
  have c_held_l_l : c.held.l.length ≤ 140737488355328 := w.1.2.2.2.2.2.2.1.1
  have tag_r : 0 ≤ tag ∧ tag ≤ 18446744073709551615 := w.2.1
  have e0 := chans_Chan_Leave.eq_1 c tag
  refine go tbv42ok 2 rfl rfl trivial ?_
  refine ef (boxA 0 rfl rfl rfl fun b1 => ?_)
  refine ef (alloc tbv42ok 1 rfl rfl rfl rfl fun b2 => ?_)
  refine go tbv42ok 7 rfl rfl trivial ?_
  refine callv (chans_Chan_of c tag) (fun r : Int => .int .i64 r) (chans_Chan_of_ok _ _) rfl rfl fun r hr3 w4 => ?_
  have e5 := e0.trans (lt_eq hr3)
  have hA5 := chans_of_r c tag
  (try rw [← hr3] at hA5)
  refine go tbv42ok 10 rfl rfl trivial ?_
  refine cnd rfl (fun h7 => ?_) (fun h7 => ?_)
  · have p8 := dt h7
    have e9 := e5.trans (condT h7)
    refine go tbv42ok 3 rfl rfl trivial ?_
    refine ef (storeA tbv42ok rfl rfl rfl rfl rfl rfl rfl rfl rfl rfl ?_)
    refine go tbv42ok 5 rfl rfl trivial ?_
    exact rt2 rfl rfl (ple_of (fun r : ChanR × Int => .tup [.agg (ChanR.pc r.1), .int .i64 r.2]) e9 (ple rfl))
  · have p10 := df h7
    have e11 := e5.trans (condF h7)
    refine go tbv42ok 3 rfl rfl trivial ?_
    refine any [2, 3, 4, 5, 6, 7] 13 mixd rfl ?_
    refine gov tbv42ok [0, 1, 2] 10 rfl (by kernel_rfl) rfl rfl trivial ?_
    refine vq 3 (lshi tbv42ok (r).toNat rfl rfl rfl rfl rfl (fun _ => rfl) (by omega) (by omega)) rfl (by kernel_rfl) rfl fun w12 => ?_
    refine gov tbv42ok [4, 5, 6, 7] 5 rfl (by kernel_rfl) rfl rfl ⟨(by omega), trivial⟩ ?_
    refine vq 8 (lslo tbv42ok ((r + 1)).toNat rfl rfl rfl rfl rfl (fun _ => rfl) (by omega) (by omega)) rfl (by kernel_rfl) rfl fun w13 => ?_
    refine ve 9 rfl (by kernel_rfl) rfl (bsl 2 (slc TakerR.pc) [(c.takers.take (r).toNat), (c.takers.drop ((r + 1)).toNat)] tbv42ok rfl rfl rfl rfl rfl (fun _ => rfl) rfl (by decide) (by decide) rfl fun u14 => ?_)
    refine ve 10 rfl (by kernel_rfl) rfl (egive 2 rfl (eweak (ecall (concat_Taker _ (by first | omega | (simp; done) | (simp; omega) | (simp only [List.flatten_cons, List.flatten_nil, List.length_append, List.append_nil]; simp; omega))) rfl rfl fun w15 => ?_)))
    refine gov tbv42ok [11] 1 rfl (by kernel_rfl) rfl rfl trivial ?_
    refine vt 12 rfl (by kernel_rfl) (by kernel_rfl) (store1 tbv42ok rfl rfl rfl rfl rfl rfl rfl rfl rfl ?_)
    refine vdone (by kernel_rfl) ?_
    refine go tbv42ok 4 rfl rfl trivial ?_
    refine ef (storeA tbv42ok rfl rfl rfl rfl rfl rfl rfl rfl rfl rfl ?_)
    refine go tbv42ok 4 rfl rfl trivial ?_
    exact rt2 rfl rfl (ple_of (fun r : ChanR × Int => .tup [.agg (ChanR.pc r.1), .int .i64 r.2]) e11 (ple rfl))
theorem chans_Chan_Takers_ok (c : ChanR) (ht : c.takers.length ≤ 1000) : Fn Tryz.prog gb 74 [.agg (ChanR.pc c)] (.sl TakerR.pc (chans_Chan_Takers c)) := by
  refine fn_cw tbv42ok Tryz.func74 rfl Tryz.ntmps74 rfl cb74 rfl rfl fun w N H hG => ?_
  have c_takers_l : c.takers.length ≤ 140737488355328 := w.1.2.1.1
  have c_lent_l : c.lent.length ≤ 140737488355328 := w.1.2.2.1.1
  have c_held_l_l : c.held.l.length ≤ 140737488355328 := w.1.2.2.2.2.2.2.1.1
  have e0 := chans_Chan_Takers.eq_1 c
  refine go tbv42ok 2 rfl rfl trivial ?_
  refine ef (boxA 0 rfl rfl rfl fun b1 => ?_)
  refine go tbv42ok 7 rfl rfl trivial ?_
  refine call (clone_Taker _ (by first | omega | (simp; done) | (simp; omega))) rfl rfl fun w2 => ?_
  refine go tbv42ok 4 rfl rfl trivial ?_
  exact rt1 rfl rfl (ple_of (fun r : (List TakerR) => .sl TakerR.pc r) e0 (ple rfl))
theorem chans_Chan_Lend_ok (c : ChanR) (x : LentR) (hn : c.lent.length ≤ 1000) : Fn Tryz.prog gb 14 [.agg (ChanR.pc c), .agg (LentR.pc x)] (.agg (ChanR.pc (chans_Chan_Lend c x))) := by
  refine fn_cw tbv42ok Tryz.func14 rfl Tryz.ntmps14 rfl cb14 rfl rfl fun w N H hG => ?_
  have c_takers_l : c.takers.length ≤ 140737488355328 := w.1.2.1.1
  have c_lent_l : c.lent.length ≤ 140737488355328 := w.1.2.2.1.1
  have c_held_l_l : c.held.l.length ≤ 140737488355328 := w.1.2.2.2.2.2.2.1.1
  have e0 := chans_Chan_Lend.eq_1 c x
  refine go tbv42ok 2 rfl rfl trivial ?_
  refine ef (boxA 0 rfl rfl rfl fun b1 => ?_)
  refine ef (boxA 1 rfl rfl rfl fun b2 => ?_)
  refine ef (alloc tbv42ok 2 rfl rfl rfl rfl fun b3 => ?_)
  refine go tbv42ok 7 rfl rfl trivial ?_
  refine ef (bsl 3 LentR.pc [x] tbv42ok rfl rfl rfl rfl rfl (fun _ => rfl) rfl (by decide) (by decide) rfl fun u4 => ?_)
  refine give 3 rfl ?_
  refine ef (bsl 3 (slc LentR.pc) [c.lent, [x]] tbv42ok rfl rfl rfl rfl rfl (fun _ => rfl) rfl (by decide) (by decide) rfl fun u5 => ?_)
  refine give 3 rfl ?_
  refine call (concat_Lent _ (by first | omega | (simp; done) | (simp; omega) | (simp only [List.flatten_cons, List.flatten_nil, List.length_append, List.append_nil]; simp; omega))) rfl rfl fun w6 => ?_
  refine go tbv42ok 1 rfl rfl trivial ?_
  refine ef (store1 tbv42ok rfl rfl rfl rfl rfl rfl rfl rfl rfl ?_)
  refine go tbv42ok 5 rfl rfl trivial ?_
  refine ef (storeA tbv42ok rfl rfl rfl rfl rfl rfl rfl rfl rfl rfl ?_)
  refine go tbv42ok 3 rfl rfl trivial ?_
  exact rt1 rfl rfl (ple_of (fun r : ChanR => .agg (ChanR.pc r)) e0 (ple rfl))
theorem chans_Chan_Unsettled_ok (c : ChanR) (hn : c.lent.length ≤ 1000) : Fn Tryz.prog gb 13 [.agg (ChanR.pc c)] (.sl LentR.pc (chans_Chan_Unsettled c)) := by
  refine fn_cw tbv42ok Tryz.func13 rfl Tryz.ntmps13 rfl cb13 rfl rfl fun w N H hG => ?_
  have c_takers_l : c.takers.length ≤ 140737488355328 := w.1.2.1.1
  have c_lent_l : c.lent.length ≤ 140737488355328 := w.1.2.2.1.1
  have c_held_l_l : c.held.l.length ≤ 140737488355328 := w.1.2.2.2.2.2.2.1.1
  have e0 := chans_Chan_Unsettled.eq_1 c
  refine go tbv42ok 2 rfl rfl trivial ?_
  refine ef (boxA 0 rfl rfl rfl fun b1 => ?_)
  refine go tbv42ok 7 rfl rfl trivial ?_
  refine call (clone_Lent _ (by first | omega | (simp; done) | (simp; omega))) rfl rfl fun w2 => ?_
  refine go tbv42ok 4 rfl rfl trivial ?_
  exact rt1 rfl rfl (ple_of (fun r : (List LentR) => .sl LentR.pc r) e0 (ple rfl))
theorem chans_Chan_Settles_ok (c : ChanR) (id : Int) (how : Int) (upto : Bool) (hn : c.lent.length ≤ 1000) : Fn Tryz.prog gb 31 [.agg (ChanR.pc c), .int .u64 id, .int .u64 how, .bool upto] (.tup [.sl DeedR.pc ((chans_Chan_Settles c id how upto).1), .int .i64 ((chans_Chan_Settles c id how upto).2)]) := by
  refine fn_cw tbv42ok Tryz.func31 rfl Tryz.ntmps31 rfl cb31 rfl rfl fun w N H hG => ?_
  have c_takers_l : c.takers.length ≤ 140737488355328 := w.1.2.1.1
  have c_lent_l : c.lent.length ≤ 140737488355328 := w.1.2.2.1.1
  have c_held_l_l : c.held.l.length ≤ 140737488355328 := w.1.2.2.2.2.2.2.1.1
  have id_r : 0 ≤ id ∧ id ≤ 18446744073709551615 := w.2.1
  have how_r : 0 ≤ how ∧ how ≤ 18446744073709551615 := w.2.2.1
  have e0 := chans_Chan_Settles.eq_1 c id how upto
  refine go tbv42ok 2 rfl rfl trivial ?_
  refine ef (boxA 0 rfl rfl rfl fun b1 => ?_)
  refine go tbv42ok 11 rfl rfl trivial ?_
  refine cnd rfl (fun h2 => ?_) (fun h2 => ?_)
  · have p3 := dt h2
    have e4 := e0.trans (condT h2)
    refine go tbv42ok 8 rfl rfl trivial ?_
    exact rt2 rfl rfl (ple_of (fun r : (List DeedR) × Int => .tup [.sl DeedR.pc r.1, .int .i64 r.2]) e4 (ple_tup (ples_cons ple_nil (ples_cons (ple rfl) ples_nil))))
  · have p5 := df h2
    have e6 := e0.trans (condF h2)
    refine go tbv42ok 17 rfl rfl trivial ?_
    refine sw_own (t := 10) (k := 29) (e := 53) 1 DeedR.pc rfl rfl ?_
    refine loop (ι := Nat × (List DeedR) × Value) [1, 2, 3, 4, 16, 17] [0] (fun ⟨k, out, u_out⟩ => [(18, .int .i64 (k : Int)), (10, .osl 1)]) (fun ⟨k, out, u_out⟩ => [(1, .arr u_out 29 53 DeedR.pc out)]) (fun ⟨k, out, u_out⟩ => k ≤ c.lent.length ∧ chans_Chan_Settles c id how upto = chans_Chan_Settles_l0 c id how upto (c.lent.drop k)  out ∧ out.length ≤ k) (fun ⟨k, out, u_out⟩ => c.lent.length - k) ⟨0, [], (.slice none 0 0)⟩ ⟨rfl, rfl, trivial⟩ ⟨rfl, trivial⟩ ?_ ?_
    · exact ⟨Nat.zero_le _, e6, (by first | omega | (simp; done) | (simp; omega))⟩
    · rintro ⟨k, out, u_out⟩ ⟨hp7_1, hp7_2, hp7_3⟩
      refine go tbv42ok 6 rfl rfl trivial ?_
      refine cnd rfl (fun h8 => ?_) (fun h8 => ?_)
      · have p9 := dt h8
        have e10 := lstep (f := fun zz => chans_Chan_Settles_l0 c id how upto zz  out) hp7_2 (dropG (by omega)) (chans_Chan_Settles_l0.eq_2 _ _ _ _ _ _ _)
        have hc11 := getG (xs := c.lent) (k := k) (by omega)
        refine go tbv42ok 6 rfl rfl trivial ?_
        refine q1 (qidx tbv42ok k rfl rfl rfl hc11 rfl rfl rfl rfl) rfl fun w12 => ?_
        refine go tbv42ok 1 rfl rfl trivial ?_
        refine ef (alloc tbv42ok 2 rfl rfl rfl rfl fun b13 => ?_)
        refine ef (storeA tbv42ok rfl rfl rfl rfl rfl rfl rfl rfl rfl rfl ?_)
        refine go tbv42ok 14 rfl rfl ⟨(fun hc => hc), (fun hc => hc), (fun hc => hc), trivial⟩ ?_
        refine callg rfl (fun hc => (draft_Draft_Settles_ok _ _ _)) rfl ⟨(fun hc => hc), (fun hc => hc), (fun hc => hc), trivial⟩ rfl rfl fun _ => ?_
        refine go tbv42ok 13 rfl rfl ⟨rfl, rfl, (fun hc => hc), (fun hc => hc), (fun hc => hc), (fun hc => hc), (fun hc => hc), (fun hc => hc), (fun hc => (by rw [hc]; rfl)), (fun hc => rfl), rfl, rfl, trivial⟩ ?_
        refine cnd rfl (fun h14 => ?_) (fun h14 => ?_)
        · have e15 := e10.trans (condT h14)
          refine go tbv42ok 8 rfl rfl ⟨(by omega), trivial⟩ ?_
          refine next ⟨(k + 1), out, (u_out)⟩ rfl rfl ⟨rfl, rfl, trivial⟩ ⟨rfl, trivial⟩ ?_ ?_
          · (try simp only []); omega
          · exact ⟨by (try simp only []); omega, e15, (by (try simp only [List.length_append, List.length_cons, List.length_nil, List.flatten_cons, List.flatten_nil, List.append_nil, List.length_take, List.length_drop]); omega)⟩
        · have h16 := orl h14
          have h17 := orr h14
          have e18 := e10.trans (condF h14)
          refine go tbv42ok 12 rfl rfl trivial ?_
          refine ef (bsl 3 DeedR.pc [(⟨8, 0, (⟨[], 0, []⟩ : ShopR), (⟨[], 0, 0, []⟩ : QueueR), (⟨[], [], false, [], [], false⟩ : BindR), (gt c.lent k).queue, (gt c.lent k).id, (IntKind.wrap .u8 how), 0, 0, 0, (⟨0, [], [], [], [], 0, 0⟩ : Mail), []⟩ : DeedR)] tbv42ok rfl rfl rfl rfl rfl (fun _ => rfl) rfl (by decide) (by decide) rfl fun u19 => ?_)
          refine ef (app tbv42ok [(⟨8, 0, (⟨[], 0, []⟩ : ShopR), (⟨[], 0, 0, []⟩ : QueueR), (⟨[], [], false, [], [], false⟩ : BindR), (gt c.lent k).queue, (gt c.lent k).id, (IntKind.wrap .u8 how), 0, 0, 0, (⟨0, [], [], [], [], 0, 0⟩ : Mail), []⟩ : DeedR)] rfl rfl rfl rfl rfl rfl rfl rfl rfl (src_o rfl rfl) (by first | omega | (simp; omega)) rfl fun u20 => ?_)
          refine go tbv42ok 11 rfl rfl trivial ?_
          refine cnd rfl (fun h21 => ?_) (fun h21 => ?_)
          · have p22 := dt h21
            have e23 := e18.trans (condT h21)
            refine go tbv42ok 7 rfl rfl trivial ?_
            refine givec 1 rfl ?_
            refine go tbv42ok 6 rfl rfl trivial ?_
            exact rt2 rfl rfl (ple_of (fun r : (List DeedR) × Int => .tup [.sl DeedR.pc r.1, .int .i64 r.2]) e23 (ple rfl))
          · have p24 := df h21
            have e25 := e18.trans (condF h21)
            refine go tbv42ok 7 rfl rfl ⟨(by omega), trivial⟩ ?_
            refine next ⟨(k + 1), (out ++ [(⟨8, 0, (⟨[], 0, []⟩ : ShopR), (⟨[], 0, 0, []⟩ : QueueR), (⟨[], [], false, [], [], false⟩ : BindR), (gt c.lent k).queue, (gt c.lent k).id, (IntKind.wrap .u8 how), 0, 0, 0, (⟨0, [], [], [], [], 0, 0⟩ : Mail), []⟩ : DeedR)]), (u20)⟩ rfl rfl ⟨rfl, rfl, trivial⟩ ⟨rfl, trivial⟩ ?_ ?_
            · (try simp only []); omega
            · exact ⟨by (try simp only []); omega, e25, (by (try simp only [List.length_append, List.length_cons, List.length_nil, List.flatten_cons, List.flatten_nil, List.append_nil, List.length_take, List.length_drop]); omega)⟩
      · have p26 := df h8
        have e27 := lstep (f := fun zz => chans_Chan_Settles_l0 c id how upto zz  out) hp7_2 (dropN (by omega)) (chans_Chan_Settles_l0.eq_1 _ _ _ _ _)
        refine go tbv42ok 12 rfl rfl trivial ?_
        exact rt2 rfl rfl (ple_of (fun r : (List DeedR) × Int => .tup [.sl DeedR.pc r.1, .int .i64 r.2]) e27 (ple_tup (ples_cons ple_nil (ples_cons (ple rfl) ples_nil))))
theorem chans_Chan_Gone_ok (c : ChanR) (l : List DeedR) (hn : c.lent.length ≤ 1000) : Fn Tryz.prog gb 32 [.agg (ChanR.pc c), .sl DeedR.pc l] (.agg (ChanR.pc (chans_Chan_Gone c l))) := by
  refine fn_cw tbv42ok Tryz.func32 rfl Tryz.ntmps32 rfl cb32 rfl rfl fun w N H hG => ?_
  have c_takers_l : c.takers.length ≤ 140737488355328 := w.1.2.1.1
  have c_lent_l : c.lent.length ≤ 140737488355328 := w.1.2.2.1.1
  have c_held_l_l : c.held.l.length ≤ 140737488355328 := w.1.2.2.2.2.2.2.1.1
  have l_l : l.length ≤ 140737488355328 := w.2.1.1
  have e0 := chans_Chan_Gone.eq_1 c l
  refine go tbv42ok 2 rfl rfl trivial ?_
  refine ef (boxA 0 rfl rfl rfl fun b1 => ?_)
  refine ef (alloc tbv42ok 1 rfl rfl rfl rfl fun b2 => ?_)
  refine go tbv42ok 11 rfl rfl trivial ?_
  refine loop (ι := Nat × ChanR) [2, 4, 8, 9] [1] (fun ⟨k, x⟩ => [(10, .int .i64 (k : Int))]) (fun ⟨k, x⟩ => [(0, .box b1 30 [.int .i64 x.credit, .sl TakerR.pc x.takers, .sl LentR.pc x.lent, .bool x.sure, .bool x.drafts, .int .u64 x.puts, .sl DeedR.pc x.held.l])]) (fun ⟨k, x⟩ => k ≤ l.length ∧ chans_Chan_Gone c l = chans_Chan_Gone_l0 (l.drop k)  x ∧ x.lent.length ≤ 1000) (fun ⟨k, x⟩ => l.length - k) ⟨0, c⟩ ⟨rfl, trivial⟩ ⟨rfl, trivial⟩ ?_ ?_
  · exact ⟨Nat.zero_le _, e0, (by first | omega | (simp; done) | (simp; omega))⟩
  · rintro ⟨k, x⟩ ⟨hp3_1, hp3_2, hp3_3⟩
    refine go tbv42ok 6 rfl rfl trivial ?_
    refine cnd rfl (fun h4 => ?_) (fun h4 => ?_)
    · have p5 := dt h4
      have e6 := lstep (f := fun zz => chans_Chan_Gone_l0 zz  x) hp3_2 (dropG (by omega)) (chans_Chan_Gone_l0.eq_2 _ _ _)
      have hc7 := getG (xs := l) (k := k) (by omega)
      refine go tbv42ok 6 rfl rfl trivial ?_
      refine q1 (qidx tbv42ok k rfl rfl rfl hc7 rfl rfl rfl rfl) rfl fun w8 => ?_
      refine go tbv42ok 1 rfl rfl trivial ?_
      refine ef (alloc tbv42ok 2 rfl rfl rfl rfl fun b9 => ?_)
      refine ef (storeA tbv42ok rfl rfl rfl rfl rfl rfl rfl rfl rfl rfl ?_)
      refine go tbv42ok 11 rfl rfl trivial ?_
      refine callv (idxP (fun y => decide ((⟨(gt l k).id, (gt l k).name⟩ : LentR) = y)) x.lent) (fun r : Int => .int .i64 r) (index_Lent _ (⟨(gt l k).id, (gt l k).name⟩ : LentR)) rfl rfl fun r hr10 w11 => ?_
      have e12 := e6.trans (lt_eq hr10)
      have hA12 := idxP_b (fun y => decide ((⟨(gt l k).id, (gt l k).name⟩ : LentR) = y)) x.lent
      (try rw [← hr10] at hA12)
      refine go tbv42ok 14 rfl rfl ⟨(fun hc => hc), rfl, rfl, trivial⟩ ?_
      refine cnd rfl (fun h14 => ?_) (fun h14 => ?_)
      · have h15 := bl h14
        have p16 := dt h15
        have h17 := br h14
        have p18 := dt h17
        have e19 := e12.trans (condT h14)
        refine any [3, 4, 5, 6, 7, 8] 13 mixd rfl ?_
        refine gov tbv42ok [0, 1, 2] 10 rfl (by kernel_rfl) rfl rfl trivial ?_
        refine vq 3 (lshi tbv42ok (r).toNat rfl rfl rfl rfl rfl (fun _ => rfl) (by omega) (by omega)) rfl (by kernel_rfl) rfl fun w20 => ?_
        refine gov tbv42ok [4, 5, 6, 7] 5 rfl (by kernel_rfl) rfl rfl ⟨(by omega), trivial⟩ ?_
        refine vq 8 (lslo tbv42ok ((r + 1)).toNat rfl rfl rfl rfl rfl (fun _ => rfl) (by omega) (by omega)) rfl (by kernel_rfl) rfl fun w21 => ?_
        refine ve 9 rfl (by kernel_rfl) rfl (bsl 3 (slc LentR.pc) [(x.lent.take (r).toNat), (x.lent.drop ((r + 1)).toNat)] tbv42ok rfl rfl rfl rfl rfl (fun _ => rfl) rfl (by decide) (by decide) rfl fun u22 => ?_)
        refine ve 10 rfl (by kernel_rfl) rfl (egive 3 rfl (eweak (ecall (concat_Lent _ (by first | omega | (simp; done) | (simp; omega) | (simp only [List.flatten_cons, List.flatten_nil, List.length_append, List.append_nil]; simp; omega))) rfl rfl fun w23 => ?_)))
        refine gov tbv42ok [11] 1 rfl (by kernel_rfl) rfl rfl trivial ?_
        refine vt 12 rfl (by kernel_rfl) (by kernel_rfl) (store1 tbv42ok rfl rfl rfl rfl rfl rfl rfl rfl rfl ?_)
        refine vdone (by kernel_rfl) ?_
        refine go tbv42ok 6 rfl rfl ⟨(by omega), trivial⟩ ?_
        refine next ⟨(k + 1), (⟨x.credit, x.takers, [(x.lent.take (r).toNat), (x.lent.drop ((r + 1)).toNat)].flatten, x.sure, x.drafts, x.puts, x.held⟩ : ChanR)⟩ rfl rfl ⟨rfl, trivial⟩ ⟨rfl, trivial⟩ ?_ ?_
        · (try simp only []); omega
        · exact ⟨by (try simp only []); omega, e19, (by (try simp only [List.length_append, List.length_cons, List.length_nil, List.flatten_cons, List.flatten_nil, List.append_nil, List.length_take, List.length_drop]); omega)⟩
      · have e24 := e12.trans (condF h14)
        refine go tbv42ok 7 rfl rfl ⟨(by omega), trivial⟩ ?_
        refine next ⟨(k + 1), x⟩ rfl rfl ⟨rfl, trivial⟩ ⟨rfl, trivial⟩ ?_ ?_
        · (try simp only []); omega
        · exact ⟨by (try simp only []); omega, e24, (by (try simp only [List.length_append, List.length_cons, List.length_nil, List.flatten_cons, List.flatten_nil, List.append_nil, List.length_take, List.length_drop]); omega)⟩
    · have p25 := df h4
      have e26 := lstep (f := fun zz => chans_Chan_Gone_l0 zz  x) hp3_2 (dropN (by omega)) (chans_Chan_Gone_l0.eq_1 _)
      refine go tbv42ok 8 rfl rfl trivial ?_
      refine ef (storeA tbv42ok rfl rfl rfl rfl rfl rfl rfl rfl rfl rfl ?_)
      refine go tbv42ok 3 rfl rfl trivial ?_
      exact rt1 rfl rfl (ple_of (fun r : ChanR => .agg (ChanR.pc r)) e26 (ple rfl))
theorem r27_Take_ok (c : ChanR) (tag : Int) (queue : Bs) (ht : c.takers.length ≤ 1000) : Fn Tryz.prog gb 57 [.agg (ChanR.pc c), .int .u64 tag, .str queue] (.tup [.agg (ChanR.pc ((r27_Take c tag queue).1)), .int .i64 ((r27_Take c tag queue).2)]) := by
  refine fn_cw tbv42ok Tryz.func57 rfl Tryz.ntmps57 rfl cb57 rfl rfl fun w N H hG => ?_
  have c_takers_l : c.takers.length ≤ 140737488355328 := w.1.2.1.1
  have c_lent_l : c.lent.length ≤ 140737488355328 := w.1.2.2.1.1
  have c_held_l_l : c.held.l.length ≤ 140737488355328 := w.1.2.2.2.2.2.2.1.1
  have tag_r : 0 ≤ tag ∧ tag ≤ 18446744073709551615 := w.2.1
  have queue_l : queue.length ≤ 9223372036854775807 := w.2.2.1
  have e0 := r27_Take.eq_1 c tag queue
  refine go tbv42ok 2 rfl rfl trivial ?_
  refine ef (boxA 0 rfl rfl rfl fun b1 => ?_)
  refine ef (alloc tbv42ok 1 rfl rfl rfl rfl fun b2 => ?_)
  refine go tbv42ok 10 rfl rfl trivial ?_
  refine cnd rfl (fun h3 => ?_) (fun h3 => ?_)
  · have p4 := dt h3
    have e5 := e0.trans (condT h3)
    refine go tbv42ok 3 rfl rfl trivial ?_
    refine ef (storeA tbv42ok rfl rfl rfl rfl rfl rfl rfl rfl rfl rfl ?_)
    refine go tbv42ok 5 rfl rfl trivial ?_
    exact rt2 rfl rfl (ple_of (fun r : ChanR × Int => .tup [.agg (ChanR.pc r.1), .int .i64 r.2]) e5 (ple rfl))
  · have p6 := df h3
    have e7 := e0.trans (condF h3)
    refine go tbv42ok 12 rfl rfl trivial ?_
    refine loop (ι := Nat) [1, 2, 3, 6, 15, 16] [0, 1] (fun k => [(17, .int .i64 (k : Int))]) (fun k => []) (fun k => k ≤ c.takers.length ∧ r27_Take c tag queue = r27_Take_l0 c tag queue (c.takers.drop k) ) (fun k => c.takers.length - k) 0 ⟨rfl, trivial⟩ trivial ?_ ?_
    · exact ⟨Nat.zero_le _, e7⟩
    · rintro k ⟨hp8_1, hp8_2⟩
      refine go tbv42ok 6 rfl rfl trivial ?_
      refine cnd rfl (fun h9 => ?_) (fun h9 => ?_)
      · have p10 := dt h9
        have e11 := lstep (f := fun zz => r27_Take_l0 c tag queue zz ) hp8_2 (dropG (by omega)) (r27_Take_l0.eq_2 _ _ _ _ _)
        have hc12 := getG (xs := c.takers) (k := k) (by omega)
        refine go tbv42ok 6 rfl rfl trivial ?_
        refine q1 (qidx tbv42ok k rfl rfl rfl hc12 rfl rfl rfl rfl) rfl fun w13 => ?_
        refine go tbv42ok 1 rfl rfl trivial ?_
        refine ef (alloc tbv42ok 2 rfl rfl rfl rfl fun b14 => ?_)
        refine ef (storeA tbv42ok rfl rfl rfl rfl rfl rfl rfl rfl rfl rfl ?_)
        refine go tbv42ok 10 rfl rfl trivial ?_
        refine cnd rfl (fun h15 => ?_) (fun h15 => ?_)
        · have p16 := dt h15
          have e17 := e11.trans (condT h15)
          refine go tbv42ok 3 rfl rfl trivial ?_
          refine ef (storeA tbv42ok rfl rfl rfl rfl rfl rfl rfl rfl rfl rfl ?_)
          refine go tbv42ok 9 rfl rfl trivial ?_
          exact rt2 rfl rfl (ple_of (fun r : ChanR × Int => .tup [.agg (ChanR.pc r.1), .int .i64 r.2]) e17 (ple rfl))
        · have p18 := df h15
          have e19 := e11.trans (condF h15)
          refine go tbv42ok 7 rfl rfl ⟨(by omega), trivial⟩ ?_
          refine next (k + 1) rfl rfl ⟨rfl, trivial⟩ trivial ?_ ?_
          · (try simp only []); omega
          · exact ⟨by (try simp only []); omega, e19⟩
      · have p20 := df h9
        have e21 := lstep (f := fun zz => r27_Take_l0 c tag queue zz ) hp8_2 (dropN (by omega)) (r27_Take_l0.eq_1 _ _ _)
        refine go tbv42ok 14 rfl rfl trivial ?_
        refine cnd rfl (fun h22 => ?_) (fun h22 => ?_)
        · have p23 := dt h22
          have e24 := e21.trans (condT h22)
          refine go tbv42ok 3 rfl rfl trivial ?_
          refine ef (storeA tbv42ok rfl rfl rfl rfl rfl rfl rfl rfl rfl rfl ?_)
          refine go tbv42ok 5 rfl rfl trivial ?_
          exact rt2 rfl rfl (ple_of (fun r : ChanR × Int => .tup [.agg (ChanR.pc r.1), .int .i64 r.2]) e24 (ple rfl))
        · have p25 := df h22
          have e26 := e21.trans (condF h22)
          refine go tbv42ok 12 rfl rfl trivial ?_
          refine ef (app0 2 tbv42ok c.takers rfl rfl rfl rfl rfl rfl rfl (src_l rfl (fun _ => rfl)) (by first | omega | (simp; omega)) rfl rfl fun u27 => ?_)
          refine go tbv42ok 9 rfl rfl trivial ?_
          refine ef (bsl 3 TakerR.pc [(⟨tag, queue⟩ : TakerR)] tbv42ok rfl rfl rfl rfl rfl (fun _ => rfl) rfl (by decide) (by decide) rfl fun u28 => ?_)
          refine ef (app tbv42ok [(⟨tag, queue⟩ : TakerR)] rfl rfl rfl rfl rfl rfl rfl rfl rfl (src_o rfl rfl) (by first | omega | (simp; omega)) rfl fun u29 => ?_)
          refine go tbv42ok 1 rfl rfl trivial ?_
          refine give 2 rfl ?_
          refine ef (store1 tbv42ok rfl rfl rfl rfl rfl rfl rfl rfl rfl ?_)
          refine go tbv42ok 5 rfl rfl trivial ?_
          refine ef (storeA tbv42ok rfl rfl rfl rfl rfl rfl rfl rfl rfl rfl ?_)
          refine go tbv42ok 4 rfl rfl trivial ?_
          exact rt2 rfl rfl (ple_of (fun r : ChanR × Int => .tup [.agg (ChanR.pc r.1), .int .i64 r.2]) e26 (ple rfl))
theorem r27_Leave_ok (c : ChanR) (tag : Int) (ht : c.takers.length ≤ 1000) : Fn Tryz.prog gb 59 [.agg (ChanR.pc c), .int .u64 tag] (.tup [.agg (ChanR.pc ((r27_Leave c tag).1)), .int .i64 ((r27_Leave c tag).2)]) := by
  refine fn_cw tbv42ok Tryz.func59 rfl Tryz.ntmps59 rfl cb59 rfl rfl fun w N H hG => ?_
  have c_takers_l : c.takers.length ≤ 140737488355328 := w.1.2.1.1
  have c_lent_l : c.lent.length ≤ 140737488355328 := w.1.2.2.1.1
  have c_held_l_l : c.held.l.length ≤ 140737488355328 := w.1.2.2.2.2.2.2.1.1
  have tag_r : 0 ≤ tag ∧ tag ≤ 18446744073709551615 := w.2.1
  have e0 := r27_Leave.eq_1 c tag
  refine go tbv42ok 2 rfl rfl trivial ?_
  refine ef (boxA 0 rfl rfl rfl fun b1 => ?_)
  refine ef (alloc tbv42ok 1 rfl rfl rfl rfl fun b2 => ?_)
  refine go tbv42ok 18 rfl rfl trivial ?_
  refine sw_own (t := 6) (k := 2) (e := 127) 2 TakerR.pc rfl rfl ?_
  refine loop (ι := Nat × (List TakerR) × Value) [1, 2, 4, 5, 10, 11] [0, 1] (fun ⟨k, l, u_l⟩ => [(12, .int .i64 (k : Int)), (6, .osl 2)]) (fun ⟨k, l, u_l⟩ => [(2, .arr u_l 2 127 TakerR.pc l)]) (fun ⟨k, l, u_l⟩ => k ≤ c.takers.length ∧ r27_Leave c tag = r27_Leave_l0 c tag (c.takers.drop k)  l ∧ l.length ≤ k) (fun ⟨k, l, u_l⟩ => c.takers.length - k) ⟨0, [], (.slice none 0 0)⟩ ⟨rfl, rfl, trivial⟩ ⟨rfl, trivial⟩ ?_ ?_
  · exact ⟨Nat.zero_le _, e0, (by first | omega | (simp; done) | (simp; omega))⟩
  · rintro ⟨k, l, u_l⟩ ⟨hp3_1, hp3_2, hp3_3⟩
    refine go tbv42ok 6 rfl rfl trivial ?_
    refine cnd rfl (fun h4 => ?_) (fun h4 => ?_)
    · have p5 := dt h4
      have e6 := lstep (f := fun zz => r27_Leave_l0 c tag zz  l) hp3_2 (dropG (by omega)) (r27_Leave_l0.eq_2 _ _ _ _ _)
      have hc7 := getG (xs := c.takers) (k := k) (by omega)
      refine go tbv42ok 6 rfl rfl trivial ?_
      refine q1 (qidx tbv42ok k rfl rfl rfl hc7 rfl rfl rfl rfl) rfl fun w8 => ?_
      refine go tbv42ok 1 rfl rfl trivial ?_
      refine ef (alloc tbv42ok 3 rfl rfl rfl rfl fun b9 => ?_)
      refine ef (storeA tbv42ok rfl rfl rfl rfl rfl rfl rfl rfl rfl rfl ?_)
      refine go tbv42ok 10 rfl rfl trivial ?_
      refine cnd rfl (fun h10 => ?_) (fun h10 => ?_)
      · have h11 := not_t h10
        have p12 := df h11
        have e13 := e6.trans (condT h10)
        refine go tbv42ok 3 rfl rfl trivial ?_
        refine ef (bsl 4 TakerR.pc [(gt c.takers k)] tbv42ok rfl rfl rfl rfl rfl (fun _ => rfl) rfl (by decide) (by decide) rfl fun u14 => ?_)
        refine ef (app tbv42ok [(gt c.takers k)] rfl rfl rfl rfl rfl rfl rfl rfl rfl (src_o rfl rfl) (by first | omega | (simp; omega)) rfl fun u15 => ?_)
        refine go tbv42ok 8 rfl rfl ⟨(by omega), trivial⟩ ?_
        refine next ⟨(k + 1), (l ++ [(gt c.takers k)]), (u15)⟩ rfl rfl ⟨rfl, rfl, trivial⟩ ⟨rfl, trivial⟩ ?_ ?_
        · (try simp only []); omega
        · exact ⟨by (try simp only []); omega, e13, (by (try simp only [List.length_append, List.length_cons, List.length_nil, List.flatten_cons, List.flatten_nil, List.append_nil, List.length_take, List.length_drop]); omega)⟩
      · have h16 := not_f h10
        have p17 := dt h16
        have e18 := e6.trans (condF h10)
        refine go tbv42ok 7 rfl rfl ⟨(by omega), trivial⟩ ?_
        refine next ⟨(k + 1), l, (u_l)⟩ rfl rfl ⟨rfl, rfl, trivial⟩ ⟨rfl, trivial⟩ ?_ ?_
        · (try simp only []); omega
        · exact ⟨by (try simp only []); omega, e18, (by (try simp only [List.length_append, List.length_cons, List.length_nil, List.flatten_cons, List.flatten_nil, List.append_nil, List.length_take, List.length_drop]); omega)⟩
    · have p19 := df h4
      have e20 := lstep (f := fun zz => r27_Leave_l0 c tag zz  l) hp3_2 (dropN (by omega)) (r27_Leave_l0.eq_1 _ _ _)
      refine go tbv42ok 16 rfl rfl trivial ?_
      refine cnd rfl (fun h21 => ?_) (fun h21 => ?_)
      · have p22 := dt h21
        have e23 := e20.trans (condT h21)
        refine go tbv42ok 3 rfl rfl trivial ?_
        refine ef (storeA tbv42ok rfl rfl rfl rfl rfl rfl rfl rfl rfl rfl ?_)
        refine go tbv42ok 5 rfl rfl trivial ?_
        exact rt2 rfl rfl (ple_of (fun r : ChanR × Int => .tup [.agg (ChanR.pc r.1), .int .i64 r.2]) e23 (ple rfl))
      · have p24 := df h21
        have e25 := e20.trans (condF h21)
        refine go tbv42ok 6 rfl rfl trivial ?_
        refine give 2 rfl ?_
        refine ef (store1 tbv42ok rfl rfl rfl rfl rfl rfl rfl rfl rfl ?_)
        refine go tbv42ok 5 rfl rfl trivial ?_
        refine ef (storeA tbv42ok rfl rfl rfl rfl rfl rfl rfl rfl rfl rfl ?_)
        refine go tbv42ok 4 rfl rfl trivial ?_
        exact rt2 rfl rfl (ple_of (fun r : ChanR × Int => .tup [.agg (ChanR.pc r.1), .int .i64 r.2]) e25 (ple rfl))
theorem r27_Lend_ok (c : ChanR) (x : LentR) (hn : c.lent.length ≤ 1000) : Fn Tryz.prog gb 60 [.agg (ChanR.pc c), .agg (LentR.pc x)] (.agg (ChanR.pc (r27_Lend c x))) := by
  refine fn_cw tbv42ok Tryz.func60 rfl Tryz.ntmps60 rfl cb60 rfl rfl fun w N H hG => ?_
  have c_takers_l : c.takers.length ≤ 140737488355328 := w.1.2.1.1
  have c_lent_l : c.lent.length ≤ 140737488355328 := w.1.2.2.1.1
  have c_held_l_l : c.held.l.length ≤ 140737488355328 := w.1.2.2.2.2.2.2.1.1
  have e0 := r27_Lend.eq_1 c x
  refine go tbv42ok 2 rfl rfl trivial ?_
  refine ef (boxA 0 rfl rfl rfl fun b1 => ?_)
  refine ef (boxA 1 rfl rfl rfl fun b2 => ?_)
  refine ef (alloc tbv42ok 2 rfl rfl rfl rfl fun b3 => ?_)
  refine go tbv42ok 12 rfl rfl trivial ?_
  refine ef (app0 3 tbv42ok c.lent rfl rfl rfl rfl rfl rfl rfl (src_l rfl (fun _ => rfl)) (by first | omega | (simp; omega)) rfl rfl fun u4 => ?_)
  refine go tbv42ok 7 rfl rfl trivial ?_
  refine ef (bsl 4 LentR.pc [x] tbv42ok rfl rfl rfl rfl rfl (fun _ => rfl) rfl (by decide) (by decide) rfl fun u5 => ?_)
  refine ef (app tbv42ok [x] rfl rfl rfl rfl rfl rfl rfl rfl rfl (src_o rfl rfl) (by first | omega | (simp; omega)) rfl fun u6 => ?_)
  refine go tbv42ok 1 rfl rfl trivial ?_
  refine give 3 rfl ?_
  refine ef (store1 tbv42ok rfl rfl rfl rfl rfl rfl rfl rfl rfl ?_)
  refine go tbv42ok 5 rfl rfl trivial ?_
  refine ef (storeA tbv42ok rfl rfl rfl rfl rfl rfl rfl rfl rfl rfl ?_)
  refine go tbv42ok 3 rfl rfl trivial ?_
  exact rt1 rfl rfl (ple_of (fun r : ChanR => .agg (ChanR.pc r)) e0 (ple rfl))
theorem r27_Open_ok (c : ChanR) (hn : c.lent.length ≤ 1000) : Fn Tryz.prog gb 115 [.agg (ChanR.pc c)] (.sl LentR.pc (r27_Open c)) := by
  refine fn_cw tbv42ok Tryz.func115 rfl Tryz.ntmps115 rfl cb115 rfl rfl fun w N H hG => ?_
  have c_takers_l : c.takers.length ≤ 140737488355328 := w.1.2.1.1
  have c_lent_l : c.lent.length ≤ 140737488355328 := w.1.2.2.1.1
  have c_held_l_l : c.held.l.length ≤ 140737488355328 := w.1.2.2.2.2.2.2.1.1
  have e0 := r27_Open.eq_1 c
  refine go tbv42ok 2 rfl rfl trivial ?_
  refine ef (boxA 0 rfl rfl rfl fun b1 => ?_)
  refine go tbv42ok 18 rfl rfl trivial ?_
  refine sw_own (t := 3) (k := 2) (e := 113) 1 LentR.pc rfl rfl ?_
  refine loop (ι := Nat × (List LentR) × Value) [1, 2, 7, 8] [0] (fun ⟨k, out, u_out⟩ => [(9, .int .i64 (k : Int)), (3, .osl 1)]) (fun ⟨k, out, u_out⟩ => [(1, .arr u_out 2 113 LentR.pc out)]) (fun ⟨k, out, u_out⟩ => k ≤ c.lent.length ∧ r27_Open c = r27_Open_l0 c (c.lent.drop k)  out ∧ out.length ≤ k) (fun ⟨k, out, u_out⟩ => c.lent.length - k) ⟨0, [], (.slice none 0 0)⟩ ⟨rfl, rfl, trivial⟩ ⟨rfl, trivial⟩ ?_ ?_
  · exact ⟨Nat.zero_le _, e0, (by first | omega | (simp; done) | (simp; omega))⟩
  · rintro ⟨k, out, u_out⟩ ⟨hp2_1, hp2_2, hp2_3⟩
    refine go tbv42ok 6 rfl rfl trivial ?_
    refine cnd rfl (fun h3 => ?_) (fun h3 => ?_)
    · have p4 := dt h3
      have e5 := lstep (f := fun zz => r27_Open_l0 c zz  out) hp2_2 (dropG (by omega)) (r27_Open_l0.eq_2 _ _ _ _)
      have hc6 := getG (xs := c.lent) (k := k) (by omega)
      refine go tbv42ok 6 rfl rfl trivial ?_
      refine q1 (qidx tbv42ok k rfl rfl rfl hc6 rfl rfl rfl rfl) rfl fun w7 => ?_
      refine go tbv42ok 1 rfl rfl trivial ?_
      refine ef (alloc tbv42ok 2 rfl rfl rfl rfl fun b8 => ?_)
      refine ef (storeA tbv42ok rfl rfl rfl rfl rfl rfl rfl rfl rfl rfl ?_)
      refine go tbv42ok 10 rfl rfl trivial ?_
      refine call (r26_Settles_ok _ _ _) rfl rfl fun w9 => ?_
      refine go tbv42ok 3 rfl rfl trivial ?_
      refine cnd rfl (fun h10 => ?_) (fun h10 => ?_)
      · have h11 := not_t h10
        have e12 := e5.trans (condT h10)
        refine go tbv42ok 3 rfl rfl trivial ?_
        refine ef (bsl 3 LentR.pc [(gt c.lent k)] tbv42ok rfl rfl rfl rfl rfl (fun _ => rfl) rfl (by decide) (by decide) rfl fun u13 => ?_)
        refine ef (app tbv42ok [(gt c.lent k)] rfl rfl rfl rfl rfl rfl rfl rfl rfl (src_o rfl rfl) (by first | omega | (simp; omega)) rfl fun u14 => ?_)
        refine go tbv42ok 8 rfl rfl ⟨(by omega), trivial⟩ ?_
        refine next ⟨(k + 1), (out ++ [(gt c.lent k)]), (u14)⟩ rfl rfl ⟨rfl, rfl, trivial⟩ ⟨rfl, trivial⟩ ?_ ?_
        · (try simp only []); omega
        · exact ⟨by (try simp only []); omega, e12, (by (try simp only [List.length_append, List.length_cons, List.length_nil, List.flatten_cons, List.flatten_nil, List.append_nil, List.length_take, List.length_drop]); omega)⟩
      · have h15 := not_f h10
        have e16 := e5.trans (condF h10)
        refine go tbv42ok 7 rfl rfl ⟨(by omega), trivial⟩ ?_
        refine next ⟨(k + 1), out, (u_out)⟩ rfl rfl ⟨rfl, rfl, trivial⟩ ⟨rfl, trivial⟩ ?_ ?_
        · (try simp only []); omega
        · exact ⟨by (try simp only []); omega, e16, (by (try simp only [List.length_append, List.length_cons, List.length_nil, List.flatten_cons, List.flatten_nil, List.append_nil, List.length_take, List.length_drop]); omega)⟩
    · have p17 := df h3
      have e18 := lstep (f := fun zz => r27_Open_l0 c zz  out) hp2_2 (dropN (by omega)) (r27_Open_l0.eq_1 _ _)
      refine go tbv42ok 11 rfl rfl trivial ?_
      refine givec 1 rfl ?_
      refine go tbv42ok 1 rfl rfl trivial ?_
      exact rt1 rfl rfl (ple_of (fun r : (List LentR) => .sl LentR.pc r) e18 (ple rfl))
end Go.SW.V
set_option linter.unusedVariables false
set_option maxRecDepth 100000
set_option maxHeartbeats 4000000
namespace Go.SW.V
open Go.SW Go.Proofs
theorem cb68 : Callable Tryz.prog 68 := callable_of Tryz.func68 (by kernel_rfl) (by kernel_rfl)
theorem cb69 : Callable Tryz.prog 69 := callable_of Tryz.func69 (by kernel_rfl) (by kernel_rfl)
theorem cb72 : Callable Tryz.prog 72 := callable_of Tryz.func72 (by kernel_rfl) (by kernel_rfl)
theorem cb73 : Callable Tryz.prog 73 := callable_of Tryz.func73 (by kernel_rfl) (by kernel_rfl)
theorem cb97 : Callable Tryz.prog 97 := callable_of Tryz.func97 (by kernel_rfl) (by kernel_rfl)
theorem cb98 : Callable Tryz.prog 98 := callable_of Tryz.func98 (by kernel_rfl) (by kernel_rfl)
def tbv43 : Tb := [(4, ⟨.bool, 1, 1, [.bool false]⟩),
  (5, ⟨.int .u8, 1, 1, [.int .u8 0]⟩),
  (9, ⟨.str, 1, 16, [.str []]⟩),
  (22, ⟨.int .u64, 1, 8, [.int .u64 0]⟩),
  (28, ⟨.agg [(0, 1)], 1, 24, [.sl DeedR.pc []]⟩),
  (30, ⟨.agg [(0, 1), (1, 1), (2, 1), (3, 1), (4, 1), (5, 1), (6, 1)], 7, 96, [.int .i64 0, .sl TakerR.pc [], .sl LentR.pc [], .bool false, .bool false, .int .u64 0, .sl DeedR.pc []]⟩),
  (42, ⟨.slc 62, 1, 24, [.sl DeedR.pc []]⟩),
  (62, ⟨.agg [(0, 1), (1, 1), (2, 3), (5, 4), (9, 6), (15, 1), (16, 1), (17, 1), (18, 1), (19, 1), (20, 1), (21, 7), (28, 1)], 29, 344, [.int .u8 0, .int .u64 0, .str [], .int .u8 0, .str [], .str [], .int .u64 0, .int .u64 0, .str [], .str [], .str [], .bool false, .str [], .sl Pair.pc [], .bool false, .str [], .int .u64 0, .int .u8 0, .int .u8 0, .int .u8 0, .int .u64 0, .int .u64 0, .str [], .str [], .sl Pair.pc [], .str [], .int .u64 0, .int .u8 0, .str []]⟩),
  (85, ⟨.slc 113, 1, 24, [.sl LentR.pc []]⟩),
  (87, ⟨.agg [(0, 1), (1, 1), (2, 1), (3, 1), (4, 1), (5, 1), (6, 1)], 7, 96, [.int .i64 0, .sl TakerR.pc [], .sl LentR.pc [], .bool false, .bool false, .int .u64 0, .sl DeedR.pc []]⟩),
  (113, ⟨.agg [(0, 1), (1, 1)], 2, 24, [.int .u64 0, .str []]⟩)]
theorem tbv43ok : tbB Tryz.prog tbv43 = true := by kernel_rfl
theorem chans_Chan_Hold_ok (c : ChanR) (l : List DeedR) (hx : c.held.l.length ≤ 1000) : Fn Tryz.prog gb 68 [.agg (ChanR.pc c), .sl DeedR.pc l] (.tup [.agg (ChanR.pc ((chans_Chan_Hold c l).1)), .int .i64 ((chans_Chan_Hold c l).2)]) := by
  refine fn_cw tbv43ok Tryz.func68 rfl Tryz.ntmps68 rfl cb68 rfl rfl fun w N H hG => ?_
  have c_takers_l : c.takers.length ≤ 140737488355328 := w.1.2.1.1
  have c_lent_l : c.lent.length ≤ 140737488355328 := w.1.2.2.1.1
  have c_held_l_l : c.held.l.length ≤ 140737488355328 := w.1.2.2.2.2.2.2.1.1
  have l_l : l.length ≤ 140737488355328 := w.2.1.1
  have e0 := chans_Chan_Hold.eq_1 c l
  refine go tbv43ok 2 rfl rfl trivial ?_
  refine ef (boxA 0 rfl rfl rfl fun b1 => ?_)
  refine ef (alloc tbv43ok 1 rfl rfl rfl rfl fun b2 => ?_)
  refine go tbv43ok 11 rfl rfl trivial ?_
  refine cnd rfl (fun h3 => ?_) (fun h3 => ?_)
  · have h4 := not_t h3
    have e5 := e0.trans (condT h3)
    refine go tbv43ok 3 rfl rfl trivial ?_
    refine ef (storeA tbv43ok rfl rfl rfl rfl rfl rfl rfl rfl rfl rfl ?_)
    refine go tbv43ok 5 rfl rfl trivial ?_
    exact rt2 rfl rfl (ple_of (fun r : ChanR × Int => .tup [.agg (ChanR.pc r.1), .int .i64 r.2]) e5 (ple rfl))
  · have h6 := not_f h3
    have e7 := e0.trans (condF h3)
    refine go tbv43ok 7 rfl rfl trivial ?_
    refine callv (draft_Draft_Add c.held l) (fun r : DraftR × Int => .tup [.agg (DraftR.pc r.1), .int .i64 r.2]) (draft_Draft_Add_ok _ _ (by first | omega | (simp; omega) | decide +kernel)) rfl rfl fun r hr8 w9 => ?_
    have e10 := e7.trans (lt_eq hr8)
    have hA10 := add_dok c.held l
    (try rw [← hr8] at hA10)
    (try have hA10b := hA10 (by first | assumption | omega | exact dok_nil | (simp; done)))
    (try have hA10c := hA10b)
    (try obtain ⟨hA10d0, hA10d1, hA10d2⟩ := hA10c)
    refine go tbv43ok 3 rfl rfl trivial ?_
    refine ef (alloc tbv43ok 2 rfl rfl rfl rfl fun b12 => ?_)
    refine ef (storeA tbv43ok rfl rfl rfl rfl rfl rfl rfl rfl rfl rfl ?_)
    refine go tbv43ok 7 rfl rfl trivial ?_
    refine ef (storeA tbv43ok rfl rfl rfl rfl rfl rfl rfl rfl rfl rfl ?_)
    refine go tbv43ok 6 rfl rfl trivial ?_
    refine ef (storeA tbv43ok rfl rfl rfl rfl rfl rfl rfl rfl rfl rfl ?_)
    refine go tbv43ok 4 rfl rfl trivial ?_
    exact rt2 rfl rfl (ple_of (fun r : ChanR × Int => .tup [.agg (ChanR.pc r.1), .int .i64 r.2]) e10 (ple rfl))
theorem chans_Chan_Held_ok (c : ChanR) (tick : Int) (hx : c.held.l.length ≤ 1000) (hh : ∀ d ∈ c.held.l, d.mail.head.length ≤ 1000000) : Fn Tryz.prog gb 72 [.agg (ChanR.pc c), .int .u64 tick] (.tup [.sl DeedR.pc ((chans_Chan_Held c tick).1), .int .i64 ((chans_Chan_Held c tick).2)]) := by
  refine fn_cw tbv43ok Tryz.func72 rfl Tryz.ntmps72 rfl cb72 rfl rfl fun w N H hG => ?_
  have c_takers_l : c.takers.length ≤ 140737488355328 := w.1.2.1.1
  have c_lent_l : c.lent.length ≤ 140737488355328 := w.1.2.2.1.1
  have c_held_l_l : c.held.l.length ≤ 140737488355328 := w.1.2.2.2.2.2.2.1.1
  have tick_r : 0 ≤ tick ∧ tick ≤ 18446744073709551615 := w.2.1
  have e0 := chans_Chan_Held.eq_1 c tick
  refine go tbv43ok 2 rfl rfl trivial ?_
  refine ef (boxA 0 rfl rfl rfl fun b1 => ?_)
  refine go tbv43ok 12 rfl rfl trivial ?_
  refine cnd rfl (fun h2 => ?_) (fun h2 => ?_)
  · have h3 := not_t h2
    have e4 := e0.trans (condT h2)
    refine go tbv43ok 8 rfl rfl trivial ?_
    exact rt2 rfl rfl (ple_of (fun r : (List DeedR) × Int => .tup [.sl DeedR.pc r.1, .int .i64 r.2]) e4 (ple_tup (ples_cons ple_nil (ples_cons (ple rfl) ples_nil))))
  · have h5 := not_f h2
    have e6 := e0.trans (condF h2)
    refine go tbv43ok 7 rfl rfl trivial ?_
    refine callv (draft_Draft_At c.held tick) (fun r : (List DeedR) => .sl DeedR.pc r) (draft_Draft_At_ok _ _ (by first | omega | (simp; omega) | decide +kernel) (by assumption)) rfl rfl fun r hr7 w8 => ?_
    have e9 := e6.trans (lt_eq hr7)
    have hA9 := at_len c.held tick
    (try rw [← hr7] at hA9)
    refine go tbv43ok 5 rfl rfl trivial ?_
    exact rt2 rfl rfl (ple_of (fun r : (List DeedR) × Int => .tup [.sl DeedR.pc r.1, .int .i64 r.2]) e9 (ple rfl))
theorem r27_Settles_ok (c : ChanR) (id : Int) (how : Int) (upto : Bool) (hn : c.lent.length ≤ 1000) : Fn Tryz.prog gb 97 [.agg (ChanR.pc c), .int .u64 id, .int .u64 how, .bool upto] (.tup [.sl DeedR.pc ((r27_Settles c id how upto).1), .int .i64 ((r27_Settles c id how upto).2)]) := by
  refine fn_cw tbv43ok Tryz.func97 rfl Tryz.ntmps97 rfl cb97 rfl rfl fun w N H hG => ?_
  have c_takers_l : c.takers.length ≤ 140737488355328 := w.1.2.1.1
  have c_lent_l : c.lent.length ≤ 140737488355328 := w.1.2.2.1.1
  have c_held_l_l : c.held.l.length ≤ 140737488355328 := w.1.2.2.2.2.2.2.1.1
  have id_r : 0 ≤ id ∧ id ≤ 18446744073709551615 := w.2.1
  have how_r : 0 ≤ how ∧ how ≤ 18446744073709551615 := w.2.2.1
  have e0 := r27_Settles.eq_1 c id how upto
  refine go tbv43ok 2 rfl rfl trivial ?_
  refine ef (boxA 0 rfl rfl rfl fun b1 => ?_)
  refine go tbv43ok 11 rfl rfl trivial ?_
  refine cnd rfl (fun h2 => ?_) (fun h2 => ?_)
  · have p3 := dt h2
    have e4 := e0.trans (condT h2)
    refine go tbv43ok 8 rfl rfl trivial ?_
    exact rt2 rfl rfl (ple_of (fun r : (List DeedR) × Int => .tup [.sl DeedR.pc r.1, .int .i64 r.2]) e4 (ple_tup (ples_cons ple_nil (ples_cons (ple rfl) ples_nil))))
  · have p5 := df h2
    have e6 := e0.trans (condF h2)
    refine go tbv43ok 11 rfl rfl trivial ?_
    refine callv (r27_Open c) (fun r : (List LentR) => .sl LentR.pc r) (r27_Open_ok _ (by first | omega | (simp; omega) | decide +kernel)) rfl rfl fun r hr7 w8 => ?_
    have e9 := e6.trans (lt_eq hr7)
    have hA9 := open_len c
    (try rw [← hr7] at hA9)
    refine go tbv43ok 5 rfl rfl trivial ?_
    refine sw_own (t := 10) (k := 29) (e := 62) 1 DeedR.pc rfl rfl ?_
    refine loop (ι := Nat × (List DeedR) × Value) [1, 2, 3, 17, 18] [0] (fun ⟨k, out, u_out⟩ => [(19, .int .i64 (k : Int)), (10, .osl 1)]) (fun ⟨k, out, u_out⟩ => [(1, .arr u_out 29 62 DeedR.pc out)]) (fun ⟨k, out, u_out⟩ => k ≤ r.length ∧ r27_Settles c id how upto = r27_Settles_l0 id how upto (r.drop k)  out ∧ out.length ≤ k) (fun ⟨k, out, u_out⟩ => r.length - k) ⟨0, [], (.slice none 0 0)⟩ ⟨rfl, rfl, trivial⟩ ⟨rfl, trivial⟩ ?_ ?_
    · exact ⟨Nat.zero_le _, e9, (by first | omega | (simp; done) | (simp; omega))⟩
    · rintro ⟨k, out, u_out⟩ ⟨hp11_1, hp11_2, hp11_3⟩
      refine go tbv43ok 6 rfl rfl trivial ?_
      refine cnd rfl (fun h12 => ?_) (fun h12 => ?_)
      · have p13 := dt h12
        have e14 := lstep (f := fun zz => r27_Settles_l0 id how upto zz  out) hp11_2 (dropG (by omega)) (r27_Settles_l0.eq_2 _ _ _ _ _ _)
        have hc15 := getG (xs := r) (k := k) (by omega)
        refine go tbv43ok 6 rfl rfl trivial ?_
        refine q1 (qidx tbv43ok k rfl rfl rfl hc15 rfl rfl rfl rfl) rfl fun w16 => ?_
        refine go tbv43ok 1 rfl rfl trivial ?_
        refine ef (alloc tbv43ok 2 rfl rfl rfl rfl fun b17 => ?_)
        refine ef (storeA tbv43ok rfl rfl rfl rfl rfl rfl rfl rfl rfl rfl ?_)
        refine go tbv43ok 11 rfl rfl trivial ?_
        refine ef (alloc tbv43ok 3 rfl rfl rfl rfl fun b18 => ?_)
        refine ef (storeA tbv43ok rfl rfl rfl rfl rfl rfl rfl rfl rfl rfl ?_)
        refine go tbv43ok 11 rfl rfl trivial ?_
        refine cnd rfl (fun h19 => ?_) (fun h19 => ?_)
        · have p20 := dt h19
          have e21 := e14.trans (condT h19)
          refine go tbv43ok 4 rfl rfl trivial ?_
          refine ef (bsl 4 DeedR.pc [(⟨8, 0, (⟨[], 0, []⟩ : ShopR), (⟨[], 0, 0, []⟩ : QueueR), (⟨[], [], false, [], [], false⟩ : BindR), (gt r k).queue, (gt r k).id, (IntKind.wrap .u8 how), 0, 0, 0, (⟨0, [], [], [], [], 0, 0⟩ : Mail), []⟩ : DeedR)] tbv43ok rfl rfl rfl rfl rfl (fun _ => rfl) rfl (by decide) (by decide) rfl fun u22 => ?_)
          refine ef (app tbv43ok [(⟨8, 0, (⟨[], 0, []⟩ : ShopR), (⟨[], 0, 0, []⟩ : QueueR), (⟨[], [], false, [], [], false⟩ : BindR), (gt r k).queue, (gt r k).id, (IntKind.wrap .u8 how), 0, 0, 0, (⟨0, [], [], [], [], 0, 0⟩ : Mail), []⟩ : DeedR)] rfl rfl rfl rfl rfl rfl rfl rfl rfl (src_o rfl rfl) (by first | omega | (simp; omega)) rfl fun u23 => ?_)
          refine go tbv43ok 4 rfl rfl trivial ?_
          refine givec 1 rfl ?_
          refine go tbv43ok 7 rfl rfl trivial ?_
          exact rt2 rfl rfl (ple_of (fun r : (List DeedR) × Int => .tup [.sl DeedR.pc r.1, .int .i64 r.2]) e21 (ple rfl))
        · have p24 := df h19
          have e25 := e14.trans (condF h19)
          refine go tbv43ok 7 rfl rfl trivial ?_
          refine cnd rfl (fun h26 => ?_) (fun h26 => ?_)
          · have e27 := e25.trans (condT h26)
            refine go tbv43ok 3 rfl rfl trivial ?_
            refine ef (bsl 4 DeedR.pc [(⟨8, 0, (⟨[], 0, []⟩ : ShopR), (⟨[], 0, 0, []⟩ : QueueR), (⟨[], [], false, [], [], false⟩ : BindR), (gt r k).queue, (gt r k).id, (IntKind.wrap .u8 how), 0, 0, 0, (⟨0, [], [], [], [], 0, 0⟩ : Mail), []⟩ : DeedR)] tbv43ok rfl rfl rfl rfl rfl (fun _ => rfl) rfl (by decide) (by decide) rfl fun u28 => ?_)
            refine ef (app tbv43ok [(⟨8, 0, (⟨[], 0, []⟩ : ShopR), (⟨[], 0, 0, []⟩ : QueueR), (⟨[], [], false, [], [], false⟩ : BindR), (gt r k).queue, (gt r k).id, (IntKind.wrap .u8 how), 0, 0, 0, (⟨0, [], [], [], [], 0, 0⟩ : Mail), []⟩ : DeedR)] rfl rfl rfl rfl rfl rfl rfl rfl rfl (src_o rfl rfl) (by first | omega | (simp; omega)) rfl fun u29 => ?_)
            refine go tbv43ok 8 rfl rfl ⟨(by omega), trivial⟩ ?_
            refine next ⟨(k + 1), (out ++ [(⟨8, 0, (⟨[], 0, []⟩ : ShopR), (⟨[], 0, 0, []⟩ : QueueR), (⟨[], [], false, [], [], false⟩ : BindR), (gt r k).queue, (gt r k).id, (IntKind.wrap .u8 how), 0, 0, 0, (⟨0, [], [], [], [], 0, 0⟩ : Mail), []⟩ : DeedR)]), (u29)⟩ rfl rfl ⟨rfl, rfl, trivial⟩ ⟨rfl, trivial⟩ ?_ ?_
            · (try simp only []); omega
            · exact ⟨by (try simp only []); omega, e27, (by (try simp only [List.length_append, List.length_cons, List.length_nil, List.flatten_cons, List.flatten_nil, List.append_nil, List.length_take, List.length_drop]); omega)⟩
          · have e30 := e25.trans (condF h26)
            refine go tbv43ok 7 rfl rfl ⟨(by omega), trivial⟩ ?_
            refine next ⟨(k + 1), out, (u_out)⟩ rfl rfl ⟨rfl, rfl, trivial⟩ ⟨rfl, trivial⟩ ?_ ?_
            · (try simp only []); omega
            · exact ⟨by (try simp only []); omega, e30, (by (try simp only [List.length_append, List.length_cons, List.length_nil, List.flatten_cons, List.flatten_nil, List.append_nil, List.length_take, List.length_drop]); omega)⟩
      · have p31 := df h12
        have e32 := lstep (f := fun zz => r27_Settles_l0 id how upto zz  out) hp11_2 (dropN (by omega)) (r27_Settles_l0.eq_1 _ _ _ _)
        refine go tbv43ok 12 rfl rfl trivial ?_
        exact rt2 rfl rfl (ple_of (fun r : (List DeedR) × Int => .tup [.sl DeedR.pc r.1, .int .i64 r.2]) e32 (ple_tup (ples_cons ple_nil (ples_cons (ple rfl) ples_nil))))
theorem r27_Gone_ok (c : ChanR) (l : List DeedR) (hn : c.lent.length ≤ 1000) : Fn Tryz.prog gb 98 [.agg (ChanR.pc c), .sl DeedR.pc l] (.agg (ChanR.pc (r27_Gone c l))) := by
  refine fn_cw tbv43ok Tryz.func98 rfl Tryz.ntmps98 rfl cb98 rfl rfl fun w N H hG => ?_
  have c_takers_l : c.takers.length ≤ 140737488355328 := w.1.2.1.1
  have c_lent_l : c.lent.length ≤ 140737488355328 := w.1.2.2.1.1
  have c_held_l_l : c.held.l.length ≤ 140737488355328 := w.1.2.2.2.2.2.2.1.1
  have l_l : l.length ≤ 140737488355328 := w.2.1.1
  have e0 := r27_Gone.eq_1 c l
  refine go tbv43ok 2 rfl rfl trivial ?_
  refine ef (boxA 0 rfl rfl rfl fun b1 => ?_)
  refine ef (alloc tbv43ok 1 rfl rfl rfl rfl fun b2 => ?_)
  refine go tbv43ok 11 rfl rfl trivial ?_
  refine loop (ι := Nat × ChanR) [2, 4, 11, 12] [1] (fun ⟨k, x⟩ => [(13, .int .i64 (k : Int))]) (fun ⟨k, x⟩ => [(0, .box b1 87 [.int .i64 x.credit, .sl TakerR.pc x.takers, .sl LentR.pc x.lent, .bool x.sure, .bool x.drafts, .int .u64 x.puts, .sl DeedR.pc x.held.l])]) (fun ⟨k, x⟩ => k ≤ l.length ∧ r27_Gone c l = r27_Gone_l0 (l.drop k)  x ∧ x.lent.length ≤ 1000) (fun ⟨k, x⟩ => l.length - k) ⟨0, c⟩ ⟨rfl, trivial⟩ ⟨rfl, trivial⟩ ?_ ?_
  · exact ⟨Nat.zero_le _, e0, (by first | omega | (simp; done) | (simp; omega))⟩
  · rintro ⟨k, x⟩ ⟨hp3_1, hp3_2, hp3_3⟩
    refine go tbv43ok 6 rfl rfl trivial ?_
    refine cnd rfl (fun h4 => ?_) (fun h4 => ?_)
    · have p5 := dt h4
      have e6 := lstep (f := fun zz => r27_Gone_l0 zz  x) hp3_2 (dropG (by omega)) (r27_Gone_l0.eq_2 _ _ _)
      refine go tbv43ok 3 rfl rfl trivial ?_
      obtain ⟨o, e_o, q_o⟩ := lt1_split e6
      refine joinc (ι := ChanR) [2, 4, 11, 12, 13] [1] (fun x1 => []) (fun x1 => [(0, .box b1 87 [.int .i64 x1.credit, .sl TakerR.pc x1.takers, .sl LentR.pc x1.lent, .bool x1.sure, .bool x1.drafts, .int .u64 x1.puts, .sl DeedR.pc x1.held.l])]) (fun x1 => o = x1 ∧ x1.lent.length ≤ 1000) ?_ ?_
      · have hc7 := getG (xs := l) (k := k) (by omega)
        refine go tbv43ok 3 rfl rfl trivial ?_
        refine q1 (qidx tbv43ok k rfl rfl rfl hc7 rfl rfl rfl rfl) rfl fun w8 => ?_
        refine go tbv43ok 1 rfl rfl trivial ?_
        refine ef (alloc tbv43ok 2 rfl rfl rfl rfl fun b9 => ?_)
        refine ef (storeA tbv43ok rfl rfl rfl rfl rfl rfl rfl rfl rfl rfl ?_)
        refine go tbv43ok 10 rfl rfl trivial ?_
        refine cnd rfl (fun h10 => ?_) (fun h10 => ?_)
        · have h11 := not_t h10
          have p12 := df h11
          have e13 := e_o.trans (condT h10)
          refine go tbv43ok 3 rfl rfl trivial ?_
          refine next x rfl rfl trivial ⟨rfl, trivial⟩ (by decide) ?_
          exact ⟨e13, (by (try simp only [List.length_append, List.length_cons, List.length_nil, List.flatten_cons, List.flatten_nil, List.append_nil, List.length_take, List.length_drop]); omega)⟩
        · have h14 := not_f h10
          have p15 := dt h14
          have e16 := e_o.trans (condF h10)
          refine go tbv43ok 22 rfl rfl trivial ?_
          refine sw_own (t := 7) (k := 2) (e := 113) 3 LentR.pc rfl rfl ?_
          refine loop (ι := Nat × (List LentR) × Bool × Value) [2, 4, 6, 11, 12, 13, 21, 22] [0, 1, 2] (fun ⟨k1, left, done, u_left⟩ => [(23, .int .i64 (k1 : Int)), (7, .osl 3), (8, .bool done)]) (fun ⟨k1, left, done, u_left⟩ => [(3, .arr u_left 2 113 LentR.pc left)]) (fun ⟨k1, left, done, u_left⟩ => k1 ≤ x.lent.length ∧ o = r27_Gone_l1 x (gt l k) (x.lent.drop k1)  left done ∧ left.length ≤ k1) (fun ⟨k1, left, done, u_left⟩ => x.lent.length - k1) ⟨0, [], false, (.slice none 0 0)⟩ ⟨rfl, rfl, rfl, trivial⟩ ⟨rfl, trivial⟩ ?_ ?_
          · exact ⟨Nat.zero_le _, e16, (by first | omega | (simp; done) | (simp; omega))⟩
          · rintro ⟨k1, left, done, u_left⟩ ⟨hp17_1, hp17_2, hp17_3⟩
            refine go tbv43ok 6 rfl rfl trivial ?_
            refine cnd rfl (fun h18 => ?_) (fun h18 => ?_)
            · have p19 := dt h18
              have e20 := lstep (f := fun zz => r27_Gone_l1 x (gt l k) zz  left done) hp17_2 (dropG (by omega)) (r27_Gone_l1.eq_2 _ _ _ _ _ _)
              have hc21 := getG (xs := x.lent) (k := k1) (by omega)
              refine go tbv43ok 6 rfl rfl trivial ?_
              refine q1 (qidx tbv43ok k1 rfl rfl rfl hc21 rfl rfl rfl rfl) rfl fun w22 => ?_
              refine go tbv43ok 1 rfl rfl trivial ?_
              refine ef (alloc tbv43ok 4 rfl rfl rfl rfl fun b23 => ?_)
              refine ef (storeA tbv43ok rfl rfl rfl rfl rfl rfl rfl rfl rfl rfl ?_)
              refine go tbv43ok 22 rfl rfl ⟨(fun hc => hc), (fun hc => hc), (fun hc => hc), (fun hc => hc), rfl, rfl, (fun hc => hc), (fun hc => hc), (fun hc => hc), (fun hc => hc), rfl, rfl, trivial⟩ ?_
              refine cnd rfl (fun h24 => ?_) (fun h24 => ?_)
              · have h25 := bl h24
                have h26 := bl h25
                have h27 := not_t h26
                have h28 := br h25
                have p29 := dt h28
                have h30 := br h24
                have p31 := dt h30
                have e32 := e20.trans (condT h24)
                refine go tbv43ok 9 rfl rfl ⟨(by omega), trivial⟩ ?_
                refine next ⟨(k1 + 1), left, true, (u_left)⟩ rfl rfl ⟨rfl, rfl, rfl, trivial⟩ ⟨rfl, trivial⟩ ?_ ?_
                · (try simp only []); omega
                · exact ⟨by (try simp only []); omega, e32, (by (try simp only [List.length_append, List.length_cons, List.length_nil, List.flatten_cons, List.flatten_nil, List.append_nil, List.length_take, List.length_drop]); omega)⟩
              · have e33 := e20.trans (condF h24)
                refine go tbv43ok 3 rfl rfl trivial ?_
                refine ef (bsl 5 LentR.pc [(gt x.lent k1)] tbv43ok rfl rfl rfl rfl rfl (fun _ => rfl) rfl (by decide) (by decide) rfl fun u34 => ?_)
                refine ef (app tbv43ok [(gt x.lent k1)] rfl rfl rfl rfl rfl rfl rfl rfl rfl (src_o rfl rfl) (by first | omega | (simp; omega)) rfl fun u35 => ?_)
                refine go tbv43ok 8 rfl rfl ⟨(by omega), trivial⟩ ?_
                refine next ⟨(k1 + 1), (left ++ [(gt x.lent k1)]), done, (u35)⟩ rfl rfl ⟨rfl, rfl, rfl, trivial⟩ ⟨rfl, trivial⟩ ?_ ?_
                · (try simp only []); omega
                · exact ⟨by (try simp only []); omega, e33, (by (try simp only [List.length_append, List.length_cons, List.length_nil, List.flatten_cons, List.flatten_nil, List.append_nil, List.length_take, List.length_drop]); omega)⟩
            · have p36 := df h18
              have e37 := lstep (f := fun zz => r27_Gone_l1 x (gt l k) zz  left done) hp17_2 (dropN (by omega)) (r27_Gone_l1.eq_1 _ _ _ _)
              refine go tbv43ok 8 rfl rfl trivial ?_
              refine give 3 rfl ?_
              refine ef (store1 tbv43ok rfl rfl rfl rfl rfl rfl rfl rfl rfl ?_)
              refine go tbv43ok 2 rfl rfl trivial ?_
              refine next (⟨x.credit, x.takers, left, x.sure, x.drafts, x.puts, x.held⟩ : ChanR) rfl rfl trivial ⟨rfl, trivial⟩ (by decide) ?_
              exact ⟨e37, (by (try simp only [List.length_append, List.length_cons, List.length_nil, List.flatten_cons, List.flatten_nil, List.append_nil, List.length_take, List.length_drop]); omega)⟩
      · rintro x1 ⟨hp38, hp38_3⟩
        have e39 := lt1_fin q_o hp38
        refine go tbv43ok 5 rfl rfl ⟨(by omega), trivial⟩ ?_
        refine next ⟨(k + 1), x1⟩ rfl rfl ⟨rfl, trivial⟩ ⟨rfl, trivial⟩ ?_ ?_
        · (try simp only []); omega
        · exact ⟨by (try simp only []); omega, e39, (by (try simp only [List.length_append, List.length_cons, List.length_nil, List.flatten_cons, List.flatten_nil, List.append_nil, List.length_take, List.length_drop]); omega)⟩
    · have p40 := df h4
      have e41 := lstep (f := fun zz => r27_Gone_l0 zz  x) hp3_2 (dropN (by omega)) (r27_Gone_l0.eq_1 _)
      refine go tbv43ok 8 rfl rfl trivial ?_
      refine ef (storeA tbv43ok rfl rfl rfl rfl rfl rfl rfl rfl rfl rfl ?_)
      refine go tbv43ok 3 rfl rfl trivial ?_
      exact rt1 rfl rfl (ple_of (fun r : ChanR => .agg (ChanR.pc r)) e41 (ple rfl))
theorem r27_Hold_ok (c : ChanR) (l : List DeedR) (hx : c.held.l.length ≤ 1000) : Fn Tryz.prog gb 69 [.agg (ChanR.pc c), .sl DeedR.pc l] (.tup [.agg (ChanR.pc ((r27_Hold c l).1)), .int .i64 ((r27_Hold c l).2)]) := by
  refine fn_cw tbv43ok Tryz.func69 rfl Tryz.ntmps69 rfl cb69 rfl rfl fun w N H hG => ?_
  have c_takers_l : c.takers.length ≤ 140737488355328 := w.1.2.1.1
  have c_lent_l : c.lent.length ≤ 140737488355328 := w.1.2.2.1.1
  have c_held_l_l : c.held.l.length ≤ 140737488355328 := w.1.2.2.2.2.2.2.1.1
  have l_l : l.length ≤ 140737488355328 := w.2.1.1
  have e0 := r27_Hold.eq_1 c l
  refine go tbv43ok 2 rfl rfl trivial ?_
  refine ef (boxA 0 rfl rfl rfl fun b1 => ?_)
  refine ef (alloc tbv43ok 1 rfl rfl rfl rfl fun b2 => ?_)
  refine go tbv43ok 11 rfl rfl trivial ?_
  refine cnd rfl (fun h3 => ?_) (fun h3 => ?_)
  · have h4 := not_t h3
    have e5 := e0.trans (condT h3)
    refine go tbv43ok 3 rfl rfl trivial ?_
    refine ef (storeA tbv43ok rfl rfl rfl rfl rfl rfl rfl rfl rfl rfl ?_)
    refine go tbv43ok 5 rfl rfl trivial ?_
    exact rt2 rfl rfl (ple_of (fun r : ChanR × Int => .tup [.agg (ChanR.pc r.1), .int .i64 r.2]) e5 (ple rfl))
  · have h6 := not_f h3
    have e7 := e0.trans (condF h3)
    refine go tbv43ok 7 rfl rfl trivial ?_
    refine callv (r26_Add c.held.l l) (fun r : (List DeedR) × Int => .tup [.sl DeedR.pc r.1, .int .i64 r.2]) (r26_Add_ok _ _ (by first | omega | (simp; omega) | decide +kernel)) rfl rfl fun r hr8 w9 => ?_
    have e10 := e7.trans (lt_eq hr8)
    have hA10 := radd_len c.held.l l
    (try rw [← hr8] at hA10)
    (try have hA10b := hA10 (by first | assumption | omega | exact dok_nil | (simp; done)))
    refine go tbv43ok 11 rfl rfl trivial ?_
    refine ef (store1 tbv43ok rfl rfl rfl rfl rfl rfl rfl rfl rfl ?_)
    refine go tbv43ok 6 rfl rfl trivial ?_
    refine ef (storeA tbv43ok rfl rfl rfl rfl rfl rfl rfl rfl rfl rfl ?_)
    refine go tbv43ok 4 rfl rfl trivial ?_
    exact rt2 rfl rfl (ple_of (fun r : ChanR × Int => .tup [.agg (ChanR.pc r.1), .int .i64 r.2]) e10 (ple rfl))
theorem r27_Held_ok (c : ChanR) (tick : Int) (hx : c.held.l.length ≤ 1000) : Fn Tryz.prog gb 73 [.agg (ChanR.pc c), .int .u64 tick] (.tup [.sl DeedR.pc ((r27_Held c tick).1), .int .i64 ((r27_Held c tick).2)]) := by
  refine fn_cw tbv43ok Tryz.func73 rfl Tryz.ntmps73 rfl cb73 rfl rfl fun w N H hG => ?_
  have c_takers_l : c.takers.length ≤ 140737488355328 := w.1.2.1.1
  have c_lent_l : c.lent.length ≤ 140737488355328 := w.1.2.2.1.1
  have c_held_l_l : c.held.l.length ≤ 140737488355328 := w.1.2.2.2.2.2.2.1.1
  have tick_r : 0 ≤ tick ∧ tick ≤ 18446744073709551615 := w.2.1
  have e0 := r27_Held.eq_1 c tick
  refine go tbv43ok 2 rfl rfl trivial ?_
  refine ef (boxA 0 rfl rfl rfl fun b1 => ?_)
  refine go tbv43ok 12 rfl rfl trivial ?_
  refine cnd rfl (fun h2 => ?_) (fun h2 => ?_)
  · have h3 := not_t h2
    have e4 := e0.trans (condT h2)
    refine go tbv43ok 8 rfl rfl trivial ?_
    exact rt2 rfl rfl (ple_of (fun r : (List DeedR) × Int => .tup [.sl DeedR.pc r.1, .int .i64 r.2]) e4 (ple_tup (ples_cons ple_nil (ples_cons (ple rfl) ples_nil))))
  · have h5 := not_f h2
    have e6 := e0.trans (condF h2)
    refine go tbv43ok 7 rfl rfl trivial ?_
    refine callv (r26_At c.held.l tick) (fun r : (List DeedR) => .sl DeedR.pc r) (r26_At_ok _ _ (by first | omega | (simp; omega) | decide +kernel)) rfl rfl fun r hr7 w8 => ?_
    have e9 := e6.trans (lt_eq hr7)
    refine go tbv43ok 5 rfl rfl trivial ?_
    exact rt2 rfl rfl (ple_of (fun r : (List DeedR) × Int => .tup [.sl DeedR.pc r.1, .int .i64 r.2]) e9 (ple rfl))
end Go.SW.V
set_option linter.unusedVariables false
set_option maxRecDepth 100000
set_option maxHeartbeats 4000000
namespace Go.SW.V
open Go.SW Go.Proofs
theorem cb102 : Callable Tryz.prog 102 := callable_of Tryz.func102 (by kernel_rfl) (by kernel_rfl)
theorem cb124 : Callable Tryz.prog 124 := callable_of Tryz.func124 (by kernel_rfl) (by kernel_rfl)
theorem cb15 : Callable Tryz.prog 15 := callable_of Tryz.func15 (by kernel_rfl) (by kernel_rfl)
theorem cb36 : Callable Tryz.prog 36 := callable_of Tryz.func36 (by kernel_rfl) (by kernel_rfl)
theorem cb39 : Callable Tryz.prog 39 := callable_of Tryz.func39 (by kernel_rfl) (by kernel_rfl)
theorem cb81 : Callable Tryz.prog 81 := callable_of Tryz.func81 (by kernel_rfl) (by kernel_rfl)
theorem cb9 : Callable Tryz.prog 9 := callable_of Tryz.func9 (by kernel_rfl) (by kernel_rfl)
def tbv47 : Tb := [(9, ⟨.str, 1, 16, [.str []]⟩),
  (30, ⟨.agg [(0, 1), (1, 1), (2, 1), (3, 1), (4, 1), (5, 1), (6, 1)], 7, 96, [.int .i64 0, .sl TakerR.pc [], .sl LentR.pc [], .bool false, .bool false, .int .u64 0, .sl DeedR.pc []]⟩),
  (39, ⟨.agg [(0, 1), (1, 1)], 2, 24, [.int .u64 0, .str []]⟩),
  (44, ⟨.agg [(0, 1), (1, 1), (2, 1)], 3, 40, [.str [], .int .u8 0, .str []]⟩),
  (49, ⟨.agg [(0, 1), (1, 1), (2, 1), (3, 1), (4, 1), (5, 1)], 6, 88, [.str [], .str [], .bool false, .str [], .sl Pair.pc [], .bool false]⟩),
  (53, ⟨.agg [(0, 1), (1, 1), (2, 3), (5, 4), (9, 6), (15, 1), (16, 1), (17, 1), (18, 1), (19, 1), (20, 1), (21, 7), (28, 1)], 29, 344, [.int .u8 0, .int .u64 0, .str [], .int .u8 0, .str [], .str [], .int .u64 0, .int .u64 0, .str [], .str [], .str [], .bool false, .str [], .sl Pair.pc [], .bool false, .str [], .int .u64 0, .int .u8 0, .int .u8 0, .int .u8 0, .int .u64 0, .int .u64 0, .str [], .str [], .sl Pair.pc [], .str [], .int .u64 0, .int .u8 0, .str []]⟩),
  (146, ⟨.slc 9, 1, 24, [.sl strc []]⟩),
  (191, ⟨.agg [(0, 1), (1, 1)], 2, 48, [.sl ShopR.pc [], .sl BindR.pc []]⟩)]
theorem tbv47ok : tbB Tryz.prog tbv47 = true := by kernel_rfl
theorem l14_awake : Fn Tryz.prog gb 124 [] (.bool true) := by
  refine fn_cw tbv47ok Tryz.func124 rfl Tryz.ntmps124 rfl cb124 rfl rfl fun w N H hG => ?_
  refine go tbv47ok 9 rfl rfl trivial ?_
  refine call (route_Book_Make_ok (⟨[], []⟩ : BookR) (⟨[97], 1, []⟩ : ShopR) (by first | omega | (simp; omega) | decide +kernel)) rfl rfl fun w1 => ?_
  refine go tbv47ok 3 rfl rfl trivial ?_
  refine ef (alloc tbv47ok 0 rfl rfl rfl rfl fun b2 => ?_)
  refine ef (storeA tbv47ok rfl rfl rfl rfl rfl rfl rfl rfl rfl rfl ?_)
  refine go tbv47ok 7 rfl rfl trivial ?_
  refine call (route_Book_Bind_ok _ (⟨[97], [113], false, [], [], false⟩ : BindR) (by first | omega | (simp; omega) | decide +kernel) (by first | omega | (simp; omega) | decide +kernel)) rfl rfl fun w3 => ?_
  refine go tbv47ok 3 rfl rfl trivial ?_
  refine ef (storeA tbv47ok rfl rfl rfl rfl rfl rfl rfl rfl rfl rfl ?_)
  refine go tbv47ok 6 rfl rfl trivial ?_
  refine call (route_Book_Bind_ok _ (⟨[97], [113], false, [120], [], false⟩ : BindR) (by first | omega | (simp; omega) | decide +kernel) (by first | omega | (simp; omega) | decide +kernel)) rfl rfl fun w4 => ?_
  refine go tbv47ok 3 rfl rfl trivial ?_
  refine ef (storeA tbv47ok rfl rfl rfl rfl rfl rfl rfl rfl rfl rfl ?_)
  refine go tbv47ok 6 rfl rfl trivial ?_
  refine call (Fn.le (route_Book_Leads_ok _ _ _ [] (by first | omega | (simp; omega) | decide +kernel) (by first | omega | (simp; omega) | decide +kernel) (by first | assumption | decide +kernel)) (ples_cons (ple rfl) (ples_cons (ple rfl) (ples_cons (ple rfl) (ples_cons ple_nil ples_nil)))) (ple rfl) rfl) rfl rfl fun w5 => ?_
  refine go tbv47ok 11 rfl rfl trivial ?_
  refine call l04_Awake rfl rfl fun w6 => ?_
  refine go tbv47ok 1 rfl rfl trivial ?_
  refine ungd rfl rfl ?_
  refine call l10_Awake rfl rfl fun w7 => ?_
  refine go tbv47ok 2 rfl rfl trivial ?_
  refine ungd rfl rfl ?_
  refine go tbv47ok 1 rfl rfl trivial ?_
  refine ungd rfl rfl ?_
  refine go tbv47ok 1 rfl rfl trivial ?_
  refine so_rt (t := 37) (p' := .bool true) (ple (congrArg PV.bool (show decide (((route_Book_Bind ((route_Book_Bind ((route_Book_Make (⟨[], []⟩ : BookR) (⟨[97], 1, []⟩ : ShopR)).1) (⟨[97], [113], false, [], [], false⟩ : BindR)).1) (⟨[97], [113], false, [120], [], false⟩ : BindR)).2) = 0) = true by decide +kernel))) rfl ?_
  refine go tbv47ok 2 rfl rfl trivial ?_
  refine ungd rfl rfl ?_
  refine go tbv47ok 1 rfl rfl trivial ?_
  refine ungd rfl rfl ?_
  refine go tbv47ok 1 rfl rfl trivial ?_
  refine so_rt (t := 41) (p' := .bool true) (ple (congrArg PV.bool (show decide (((route_Book_Leads ((route_Book_Bind ((route_Book_Bind ((route_Book_Make (⟨[], []⟩ : BookR) (⟨[97], 1, []⟩ : ShopR)).1) (⟨[97], [113], false, [], [], false⟩ : BindR)).1) (⟨[97], [113], false, [120], [], false⟩ : BindR)).1) [97] [] []).2.2) = 0) = true by decide +kernel))) rfl ?_
  refine go tbv47ok 2 rfl rfl trivial ?_
  refine ungd rfl rfl ?_
  refine go tbv47ok 1 rfl rfl trivial ?_
  refine ungd rfl rfl ?_
  refine ef (bsl 1 strc [[113]] tbv47ok rfl rfl rfl rfl rfl (fun _ => rfl) rfl (by decide) (by decide) rfl fun u8 => ?_)
  refine ungd rfl rfl ?_
  refine ef (calll 1 rfl (eq_Str _ _) rfl rfl rfl fun w9 => ?_)
  refine so_rt (t := 46) (p' := .bool true) (ple (congrArg PV.bool (show decide (((route_Book_Leads ((route_Book_Bind ((route_Book_Bind ((route_Book_Make (⟨[], []⟩ : BookR) (⟨[97], 1, []⟩ : ShopR)).1) (⟨[97], [113], false, [], [], false⟩ : BindR)).1) (⟨[97], [113], false, [120], [], false⟩ : BindR)).1) [97] [] []).1) = [[113]]) = true by decide +kernel))) rfl ?_
  refine go tbv47ok 2 rfl rfl trivial ?_
  refine ungd rfl rfl ?_
  refine go tbv47ok 1 rfl rfl trivial ?_
  refine ungd rfl rfl ?_
  refine go tbv47ok 1 rfl rfl trivial ?_
  refine ungd rfl rfl ?_
  refine go tbv47ok 1 rfl rfl trivial ?_
  refine so_rt (t := 51) (p' := .bool true) (ple (congrArg PV.bool (show decide ((((route_Book_Leads ((route_Book_Bind ((route_Book_Bind ((route_Book_Make (⟨[], []⟩ : BookR) (⟨[97], 1, []⟩ : ShopR)).1) (⟨[97], [113], false, [], [], false⟩ : BindR)).1) (⟨[97], [113], false, [120], [], false⟩ : BindR)).1) [97] [] []).2.1).length : Int) = 0) = true by decide +kernel))) rfl ?_
  refine go tbv47ok 5 rfl rfl trivial ?_
  refine rt1 rfl rfl ?_
  refine ple ?_
  exact congrArg PV.bool (by first | rfl | decide +kernel)
theorem l14_Awake : Fn Tryz.prog gb 102 [] (.bool true) := by
  refine fn_cw tbv47ok Tryz.func102 rfl Tryz.ntmps102 rfl cb102 rfl rfl fun w N H hG => ?_
  refine go tbv47ok 7 rfl rfl trivial ?_
  refine call l14_awake rfl rfl fun w1 => ?_
  refine go tbv47ok 4 rfl rfl trivial ?_
  refine rt1 rfl rfl ?_
  refine ple ?_
  rfl
theorem l22_awake : Fn Tryz.prog gb 81 [] (.bool true) := by
  refine fn_cw tbv47ok Tryz.func81 rfl Tryz.ntmps81 rfl cb81 rfl rfl fun w N H hG => ?_
  refine go tbv47ok 8 rfl rfl trivial ?_
  refine call (deed_Bytes (⟨11, 1, (⟨[], 0, []⟩ : ShopR), (⟨[], 0, 0, []⟩ : QueueR), (⟨[], [], false, [], [], false⟩ : BindR), [], 0, 0, 0, 0, 0, (⟨0, [], [], [], [], 0, 0⟩ : Mail), []⟩ : DeedR)) rfl rfl fun w1 => ?_
  have := deedBytes_len (d := (⟨11, 1, (⟨[], 0, []⟩ : ShopR), (⟨[], 0, 0, []⟩ : QueueR), (⟨[], [], false, [], [], false⟩ : BindR), [], 0, 0, 0, 0, 0, (⟨0, [], [], [], [], 0, 0⟩ : Mail), []⟩ : DeedR)) (by first | omega | decide)
  have := deedE_r (⟨11, 1, (⟨[], 0, []⟩ : ShopR), (⟨[], 0, 0, []⟩ : QueueR), (⟨[], [], false, [], [], false⟩ : BindR), [], 0, 0, 0, 0, 0, (⟨0, [], [], [], [], 0, 0⟩ : Mail), []⟩ : DeedR)
  refine go tbv47ok 9 rfl rfl trivial ?_
  refine call l13_Awake rfl rfl fun w2 => ?_
  refine go tbv47ok 1 rfl rfl trivial ?_
  refine ungd rfl rfl ?_
  refine call l14_Awake rfl rfl fun w3 => ?_
  refine go tbv47ok 2 rfl rfl trivial ?_
  refine ungd rfl rfl ?_
  refine go tbv47ok 1 rfl rfl trivial ?_
  refine ungd rfl rfl ?_
  refine go tbv47ok 1 rfl rfl trivial ?_
  refine so_rt (t := 14) (p' := .bool true) (ple (congrArg PV.bool (show decide ((deedE (⟨11, 1, (⟨[], 0, []⟩ : ShopR), (⟨[], 0, 0, []⟩ : QueueR), (⟨[], [], false, [], [], false⟩ : BindR), [], 0, 0, 0, 0, 0, (⟨0, [], [], [], [], 0, 0⟩ : Mail), []⟩ : DeedR)) = 0) = true by decide +kernel))) rfl ?_
  refine go tbv47ok 2 rfl rfl trivial ?_
  refine ungd rfl rfl ?_
  refine go tbv47ok 1 rfl rfl trivial ?_
  refine ungd rfl rfl ?_
  refine go tbv47ok 1 rfl rfl trivial ?_
  refine ungd rfl rfl ?_
  refine go tbv47ok 1 rfl rfl trivial ?_
  refine so_rt (t := 19) (p' := .bool true) (ple (congrArg PV.bool (show decide (((deedBytes (⟨11, 1, (⟨[], 0, []⟩ : ShopR), (⟨[], 0, 0, []⟩ : QueueR), (⟨[], [], false, [], [], false⟩ : BindR), [], 0, 0, 0, 0, 0, (⟨0, [], [], [], [], 0, 0⟩ : Mail), []⟩ : DeedR)).length : Int) = 9) = true by decide +kernel))) rfl ?_
  refine go tbv47ok 5 rfl rfl trivial ?_
  refine rt1 rfl rfl ?_
  refine ple ?_
  exact congrArg PV.bool (by first | rfl | decide +kernel)
theorem l22_Awake : Fn Tryz.prog gb 39 [] (.bool true) := by
  refine fn_cw tbv47ok Tryz.func39 rfl Tryz.ntmps39 rfl cb39 rfl rfl fun w N H hG => ?_
  refine go tbv47ok 7 rfl rfl trivial ?_
  refine call l22_awake rfl rfl fun w1 => ?_
  refine go tbv47ok 4 rfl rfl trivial ?_
  refine rt1 rfl rfl ?_
  refine ple ?_
  rfl
theorem l26_awake : Fn Tryz.prog gb 15 [] (.bool true) := by
  refine fn_cw tbv47ok Tryz.func15 rfl Tryz.ntmps15 rfl cb15 rfl rfl fun w N H hG => ?_
  refine go tbv47ok 7 rfl rfl trivial ?_
  refine call l22_Awake rfl rfl fun w1 => ?_
  refine go tbv47ok 1 rfl rfl trivial ?_
  refine ungd rfl rfl ?_
  refine call (draft_Life _ _) rfl rfl fun w2 => ?_
  refine ungd rfl rfl ?_
  refine go tbv47ok 1 rfl rfl trivial ?_
  refine so_rt (t := 4) (p' := .bool true) (ple (congrArg PV.bool (show decide ((lifeN 3 4) = 7) = true by decide +kernel))) rfl ?_
  refine go tbv47ok 2 rfl rfl trivial ?_
  refine ungd rfl rfl ?_
  refine call (draft_Life _ _) rfl rfl fun w3 => ?_
  refine ungd rfl rfl ?_
  refine go tbv47ok 1 rfl rfl trivial ?_
  refine so_rt (t := 8) (p' := .bool true) (ple (congrArg PV.bool (show decide ((lifeN 18446744073709551615 1) = 0) = true by decide +kernel))) rfl ?_
  refine go tbv47ok 5 rfl rfl trivial ?_
  refine rt1 rfl rfl ?_
  refine ple ?_
  exact congrArg PV.bool (by first | rfl | decide +kernel)
theorem l26_Awake : Fn Tryz.prog gb 36 [] (.bool true) := by
  refine fn_cw tbv47ok Tryz.func36 rfl Tryz.ntmps36 rfl cb36 rfl rfl fun w N H hG => ?_
  refine go tbv47ok 7 rfl rfl trivial ?_
  refine call l26_awake rfl rfl fun w1 => ?_
  refine go tbv47ok 4 rfl rfl trivial ?_
  refine rt1 rfl rfl ?_
  refine ple ?_
  rfl
theorem l27_awake : Fn Tryz.prog gb 9 [] (.bool true) := by
  refine fn_cw tbv47ok Tryz.func9 rfl Tryz.ntmps9 rfl cb9 rfl rfl fun w N H hG => ?_
  refine go tbv47ok 7 rfl rfl trivial ?_
  refine call chans_New_ok rfl rfl fun w1 => ?_
  refine call (chans_Chan_Credit_ok _ _) rfl rfl fun w2 => ?_
  refine go tbv47ok 3 rfl rfl trivial ?_
  refine ef (alloc tbv47ok 0 rfl rfl rfl rfl fun b3 => ?_)
  refine ef (storeA tbv47ok rfl rfl rfl rfl rfl rfl rfl rfl rfl rfl ?_)
  refine go tbv47ok 5 rfl rfl trivial ?_
  refine call l26_Awake rfl rfl fun w4 => ?_
  refine go tbv47ok 1 rfl rfl trivial ?_
  refine ungd rfl rfl ?_
  refine go tbv47ok 1 rfl rfl trivial ?_
  refine ungd rfl rfl ?_
  refine go tbv47ok 1 rfl rfl trivial ?_
  refine so_rt (t := 11) (p' := .bool true) (ple (congrArg PV.bool (show decide (((chans_Chan_Credit (chans_New) 1).2) = 0) = true by decide +kernel))) rfl ?_
  refine go tbv47ok 2 rfl rfl trivial ?_
  refine ungd rfl rfl ?_
  refine go tbv47ok 1 rfl rfl trivial ?_
  refine ungd rfl rfl ?_
  refine call (chans_Chan_Room_ok _ (by first | omega | (simp; omega) | decide +kernel)) rfl rfl fun w5 => ?_
  refine ungd rfl rfl ?_
  refine go tbv47ok 1 rfl rfl trivial ?_
  refine so_rt (t := 16) (p' := .bool true) (ple (congrArg PV.bool (show decide ((chans_Chan_Room ((chans_Chan_Credit (chans_New) 1).1)) = 1) = true by decide +kernel))) rfl ?_
  refine go tbv47ok 2 rfl rfl trivial ?_
  refine ungd rfl rfl ?_
  refine go tbv47ok 1 rfl rfl trivial ?_
  refine ungd rfl rfl ?_
  refine go tbv47ok 1 rfl rfl trivial ?_
  refine ungd rfl rfl ?_
  refine call (chans_Chan_Lend_ok _ (⟨1, [113]⟩ : LentR) (by first | omega | (simp; omega) | decide +kernel)) rfl rfl fun w6 => ?_
  refine ungd rfl rfl ?_
  refine call (chans_Chan_Room_ok _ (by first | omega | (simp; omega) | decide +kernel)) rfl rfl fun w7 => ?_
  refine ungd rfl rfl ?_
  refine go tbv47ok 1 rfl rfl trivial ?_
  refine so_rt (t := 23) (p' := .bool true) (ple (congrArg PV.bool (show decide ((chans_Chan_Room (chans_Chan_Lend ((chans_Chan_Credit (chans_New) 1).1) (⟨1, [113]⟩ : LentR))) = 0) = true by decide +kernel))) rfl ?_
  refine go tbv47ok 5 rfl rfl trivial ?_
  refine rt1 rfl rfl ?_
  refine ple ?_
  exact congrArg PV.bool (by first | rfl | decide +kernel)
end Go.SW.V
set_option linter.unusedVariables false
set_option maxRecDepth 100000
set_option maxHeartbeats 4000000
namespace Go.SW.V
open Go.SW Go.Proofs
end Go.SW.V
set_option linter.unusedVariables false
set_option maxRecDepth 100000
set_option maxHeartbeats 4000000
namespace Go.SW.V
open Go.SW Go.Proofs
theorem cb30 : Callable Tryz.prog 30 := callable_of Tryz.func30 (by kernel_rfl) (by kernel_rfl)
theorem cb33 : Callable Tryz.prog 33 := callable_of Tryz.func33 (by kernel_rfl) (by kernel_rfl)
theorem cb35 : Callable Tryz.prog 35 := callable_of Tryz.func35 (by kernel_rfl) (by kernel_rfl)
theorem cb61 : Callable Tryz.prog 61 := callable_of Tryz.func61 (by kernel_rfl) (by kernel_rfl)
def tbv49 : Tb := [(4, ⟨.bool, 1, 1, [.bool false]⟩),
  (5, ⟨.int .u8, 1, 1, [.int .u8 0]⟩),
  (9, ⟨.str, 1, 16, [.str []]⟩),
  (22, ⟨.int .u64, 1, 8, [.int .u64 0]⟩),
  (24, ⟨.slc 126, 1, 24, [.sl TakerR.pc []]⟩),
  (25, ⟨.slc 39, 1, 24, [.sl LentR.pc []]⟩),
  (26, ⟨.slc 53, 1, 24, [.sl DeedR.pc []]⟩),
  (30, ⟨.agg [(0, 1), (1, 1), (2, 1), (3, 1), (4, 1), (5, 1), (6, 1)], 7, 96, [.int .i64 0, .sl TakerR.pc [], .sl LentR.pc [], .bool false, .bool false, .int .u64 0, .sl DeedR.pc []]⟩),
  (39, ⟨.agg [(0, 1), (1, 1)], 2, 24, [.int .u64 0, .str []]⟩),
  (76, ⟨.slc 80, 1, 24, [.sl ActR.pc []]⟩),
  (80, ⟨.agg [(0, 1), (1, 1), (2, 1), (3, 1), (4, 1), (5, 1)], 6, 72, [.int .u8 0, .int .u64 0, .int .u64 0, .str [], .bool false, .sl DeedR.pc []]⟩),
  (84, ⟨.slc 127, 1, 24, [.sl TakerR.pc []]⟩),
  (85, ⟨.slc 113, 1, 24, [.sl LentR.pc []]⟩),
  (87, ⟨.agg [(0, 1), (1, 1), (2, 1), (3, 1), (4, 1), (5, 1), (6, 1)], 7, 96, [.int .i64 0, .sl TakerR.pc [], .sl LentR.pc [], .bool false, .bool false, .int .u64 0, .sl DeedR.pc []]⟩),
  (113, ⟨.agg [(0, 1), (1, 1)], 2, 24, [.int .u64 0, .str []]⟩),
  (126, ⟨.agg [(0, 1), (1, 1)], 2, 24, [.int .u64 0, .str []]⟩),
  (127, ⟨.agg [(0, 1), (1, 1)], 2, 24, [.int .u64 0, .str []]⟩)]
theorem tbv49ok : tbB Tryz.prog tbv49 = true := by kernel_rfl
theorem l27_Light_ok (l : List ActR) : Fn Tryz.prog gb 30 [.sl ActR.pc l] (.bool (l27_Light l)) := by
  refine fn_cw tbv49ok Tryz.func30 rfl Tryz.ntmps30 rfl cb30 rfl rfl fun w N H hG => ?_
  have l_l : l.length ≤ 140737488355328 := w.1.1
  have e0 := l27_Light.eq_1 l
  refine go tbv49ok 19 rfl rfl trivial ?_
  refine loop (ι := Nat × Int) [6, 7] [] (fun ⟨k, n⟩ => [(8, .int .i64 (k : Int)), (3, .int .i64 n)]) (fun ⟨k, n⟩ => []) (fun ⟨k, n⟩ => k ≤ l.length ∧ l27_Light l = l27_Light_l0 (l.drop k) k n ∧ 0 ≤ n ∧ n ≤ 100) (fun ⟨k, n⟩ => l.length - k) ⟨0, 0⟩ ⟨rfl, rfl, trivial⟩ trivial ?_ ?_
  · exact ⟨Nat.zero_le _, e0, (by first | omega | (simp; done) | (simp; omega))⟩
  · rintro ⟨k, n⟩ ⟨hp1_1, hp1_2, hp1_3⟩
    refine go tbv49ok 6 rfl rfl trivial ?_
    refine cnd rfl (fun h2 => ?_) (fun h2 => ?_)
    · have p3 := dt h2
      have e4 := lstep (f := fun zz => l27_Light_l0 zz k n) hp1_2 (dropG (by omega)) (l27_Light_l0.eq_2 _ _ _ _)
      have hc5 := getG (xs := l) (k := k) (by omega)
      have hz_hc5 := (w.1.2 (gt l k) (List.mem_of_getElem? hc5)).2.2.2.2.2.1.1
      refine go tbv49ok 7 rfl rfl trivial ?_
      refine q1 (qidx tbv49ok k rfl rfl rfl hc5 rfl rfl rfl rfl) rfl fun w6 => ?_
      refine go tbv49ok 1 rfl rfl trivial ?_
      refine ef (alloc tbv49ok 0 rfl rfl rfl rfl fun b7 => ?_)
      refine go tbv49ok 1 rfl rfl trivial ?_
      refine ef (storeA tbv49ok rfl rfl rfl rfl rfl rfl rfl rfl rfl rfl ?_)
      refine go tbv49ok 29 rfl rfl ⟨(by omega), (fun hc => hc), rfl, rfl, (fun hc => hc), (fun hc => hc), (fun hc => hc), rfl, rfl, (fun hc => hc), trivial⟩ ?_
      refine callg rfl (fun hc => (l23_Light_ok _)) rfl ⟨(fun hc => hc), trivial⟩ rfl rfl fun _ => ?_
      refine go tbv49ok 4 rfl rfl ⟨(fun hc => hc), rfl, rfl, trivial⟩ ?_
      refine cnd rfl (fun h8 => ?_) (fun h8 => ?_)
      · have e9 := e4.trans (condT h8)
        refine go tbv49ok 11 rfl rfl trivial ?_
        exact rt1 rfl rfl (ple_of (fun r : Bool => .bool r) e9 (ple rfl))
      · have h10 := orl h8
        have h11 := orl h10
        have h12 := orl h11
        have p13 := df h12
        have h14 := orr h11
        have p15 := df h14
        have h16 := orr h10
        have p17 := df h16
        have h18 := orr h8
        have h19 := not_f h18
        have hb19 := l23_ok h19
        (try obtain ⟨hb19a, hb19b⟩ := hb19)
        have e21 := e4.trans (condF h8)
        refine go tbv49ok 7 rfl rfl ⟨(by omega), trivial⟩ ?_
        refine next ⟨(k + 1), (n + (((gt l k).l).length : Int))⟩ rfl rfl ⟨rfl, rfl, trivial⟩ trivial ?_ ?_
        · (try simp only []); omega
        · exact ⟨by (try simp only []); omega, e21, by (try simp only []); omega⟩
    · have p22 := df h2
      have e23 := lstep (f := fun zz => l27_Light_l0 zz k n) hp1_2 (dropN (by omega)) (l27_Light_l0.eq_1 _ _)
      refine go tbv49ok 11 rfl rfl trivial ?_
      exact rt1 rfl rfl (ple_of (fun r : Bool => .bool r) e23 (ple rfl))
theorem l27_settled_ok (c : ChanR) (q : ChanR) (a : ActR) (hc : COk c 100) (hq : COk q 100) : Fn Tryz.prog gb 61 [.agg (ChanR.pc c), .agg (ChanR.pc q), .agg (ActR.pc a)] (.tup [.agg (ChanR.pc ((l27_settled c q a).1)), .agg (ChanR.pc ((l27_settled c q a).2.1)), .bool ((l27_settled c q a).2.2)]) := by
  refine fn_cw tbv49ok Tryz.func61 rfl Tryz.ntmps61 rfl cb61 rfl rfl fun w N H hG => ?_
  have c_credit_r : -9223372036854775808 ≤ c.credit ∧ c.credit ≤ 9223372036854775807 := w.1.1
  have c_takers_l : c.takers.length ≤ 140737488355328 := w.1.2.1.1
  have c_lent_l : c.lent.length ≤ 140737488355328 := w.1.2.2.1.1
  have c_puts_r : 0 ≤ c.puts ∧ c.puts ≤ 18446744073709551615 := w.1.2.2.2.2.2.1
  have c_held_l_l : c.held.l.length ≤ 140737488355328 := w.1.2.2.2.2.2.2.1.1
  have q_credit_r : -9223372036854775808 ≤ q.credit ∧ q.credit ≤ 9223372036854775807 := w.2.1.1
  have q_takers_l : q.takers.length ≤ 140737488355328 := w.2.1.2.1.1
  have q_lent_l : q.lent.length ≤ 140737488355328 := w.2.1.2.2.1.1
  have q_puts_r : 0 ≤ q.puts ∧ q.puts ≤ 18446744073709551615 := w.2.1.2.2.2.2.2.1
  have q_held_l_l : q.held.l.length ≤ 140737488355328 := w.2.1.2.2.2.2.2.2.1.1
  have a_dow_r : 0 ≤ a.dow ∧ a.dow ≤ 255 := w.2.2.1.1
  have a_n_r : 0 ≤ a.n ∧ a.n ≤ 18446744073709551615 := w.2.2.1.2.1
  have a_how_r : 0 ≤ a.how ∧ a.how ≤ 18446744073709551615 := w.2.2.1.2.2.1
  have a_queue_l : a.queue.length ≤ 9223372036854775807 := w.2.2.1.2.2.2.1
  have a_l_l : a.l.length ≤ 140737488355328 := w.2.2.1.2.2.2.2.2.1.1
  have hcc := hc
  obtain ⟨hc1, hc2, hc3, hc4⟩ := hcc
  have hcd := hc4
  obtain ⟨hcd1, hcd2, hcd3⟩ := hcd
  have hqq := hq
  obtain ⟨hq1, hq2, hq3, hq4⟩ := hqq
  have hqd := hq4
  obtain ⟨hqd1, hqd2, hqd3⟩ := hqd
  have e0 := l27_settled.eq_1 c q a
  refine go tbv49ok 2 rfl rfl trivial ?_
  refine ef (boxA 0 rfl rfl rfl fun b1 => ?_)
  refine ef (boxA 1 rfl rfl rfl fun b2 => ?_)
  refine ef (boxA 2 rfl rfl rfl fun b3 => ?_)
  refine ef (alloc tbv49ok 3 rfl rfl rfl rfl fun b4 => ?_)
  refine ef (alloc tbv49ok 4 rfl rfl rfl rfl fun b5 => ?_)
  refine go tbv49ok 12 rfl rfl trivial ?_
  refine callv (chans_Chan_Settles c a.n a.how a.upto) (fun r : (List DeedR) × Int => .tup [.sl DeedR.pc r.1, .int .i64 r.2]) (chans_Chan_Settles_ok _ _ _ _ (by first | omega | (simp; omega) | decide +kernel)) rfl rfl fun r hr6 w7 => ?_
  have e8 := e0.trans (lt_eq hr6)
  have hA8 := sets_len c a.n a.how a.upto
  (try rw [← hr6] at hA8)
  refine go tbv49ok 16 rfl rfl trivial ?_
  refine callv (r27_Settles q a.n a.how a.upto) (fun r : (List DeedR) × Int => .tup [.sl DeedR.pc r.1, .int .i64 r.2]) (r27_Settles_ok _ _ _ _ (by first | omega | (simp; omega) | decide +kernel)) rfl rfl fun r1 hr10 w11 => ?_
  have e12 := e8.trans (lt_eq hr10)
  refine go tbv49ok 10 rfl rfl trivial ?_
  refine callv (l22_All r.1) (fun r : (List DeedR) × Bool => .tup [.sl DeedR.pc r.1, .bool r.2]) (l22_All_ok _ (by first | omega | (simp; omega) | decide +kernel)) rfl rfl fun r2 hr13 w14 => ?_
  have e15 := e12.trans (lt_eq hr13)
  have hA15 := all_len r.1
  (try rw [← hr13] at hA15)
  refine go tbv49ok 16 rfl rfl trivial ?_
  refine callg rfl (fun hc => (r22_SameAll_ok _ _)) rfl ⟨(fun hc => hc), (fun hc => hc), trivial⟩ rfl rfl fun _ => ?_
  refine go tbv49ok 4 rfl rfl ⟨(fun hc => hc), rfl, rfl, trivial⟩ ?_
  refine cnd rfl (fun h17 => ?_) (fun h17 => ?_)
  · have e18 := e15.trans (condT h17)
    refine go tbv49ok 1 rfl rfl trivial ?_
    refine any [3, 4, 5, 6, 7, 8, 9, 10] 5 mixd rfl ?_
    refine gov tbv49ok [0, 1] 3 rfl (by kernel_rfl) rfl rfl trivial ?_
    refine ve 2 rfl (by kernel_rfl) rfl (storeA tbv49ok rfl rfl rfl rfl rfl rfl rfl rfl rfl rfl ?_)
    refine vt 3 rfl (by kernel_rfl) (by kernel_rfl) (storeA tbv49ok rfl rfl rfl rfl rfl rfl rfl rfl rfl rfl ?_)
    refine gov tbv49ok [4] 0 rfl (by kernel_rfl) rfl rfl trivial ?_
    refine vdone (by kernel_rfl) ?_
    refine go tbv49ok 3 rfl rfl trivial ?_
    exact rt3 rfl rfl (ple_of (fun r : ChanR × ChanR × Bool => .tup [.agg (ChanR.pc r.1), .agg (ChanR.pc r.2.1), .bool r.2.2]) e18 (ple rfl))
  · have h19 := orl h17
    have h20 := not_f h19
    have p21 := dt h20
    have h22 := orr h17
    have h23 := not_f h22
    have e24 := e15.trans (condF h17)
    refine go tbv49ok 11 rfl rfl ⟨(by omega), (by omega), trivial⟩ ?_
    refine cnd rfl (fun h25 => ?_) (fun h25 => ?_)
    · have p26 := dt h25
      have e27 := e24.trans (condT h25)
      refine go tbv49ok 1 rfl rfl trivial ?_
      refine any [3, 4, 5, 6, 7, 8, 9, 10] 9 mixd rfl ?_
      refine gov tbv49ok [0, 1, 3, 4] 5 rfl (by kernel_rfl) rfl rfl trivial ?_
      refine ve 2 rfl (by kernel_rfl) rfl (ecall (chans_Chan_Gone_ok _ _ (by first | omega | (simp; omega) | decide +kernel)) rfl rfl ?_)
      generalize hr29 : chans_Chan_Gone c r.1 = r3
      intro w28
      have e30 := e27.trans (lt_eq hr29.symm)
      refine ve 5 rfl (by kernel_rfl) rfl (ecall (r27_Gone_ok _ _ (by first | omega | (simp; omega) | decide +kernel)) rfl rfl ?_)
      generalize hr32 : r27_Gone q r1.1 = r4
      intro w31
      have e33 := e30.trans (lt_eq hr32.symm)
      refine ve 6 rfl (by kernel_rfl) rfl (storeA tbv49ok rfl rfl rfl rfl rfl rfl rfl rfl rfl rfl ?_)
      refine vt 7 rfl (by kernel_rfl) (by kernel_rfl) (storeA tbv49ok rfl rfl rfl rfl rfl rfl rfl rfl rfl rfl ?_)
      refine gov tbv49ok [8] 0 rfl (by kernel_rfl) rfl rfl trivial ?_
      refine vdone (by kernel_rfl) ?_
      refine go tbv49ok 3 rfl rfl trivial ?_
      exact rt3 rfl rfl (ple_of (fun r : ChanR × ChanR × Bool => .tup [.agg (ChanR.pc r.1), .agg (ChanR.pc r.2.1), .bool r.2.2]) e33 (ple rfl))
    · have p34 := df h25
      have e35 := e24.trans (condF h25)
      refine go tbv49ok 6 rfl rfl trivial ?_
      refine callv (chans_Chan_Hold c r.1) (fun r : ChanR × Int => .tup [.agg (ChanR.pc r.1), .int .i64 r.2]) (chans_Chan_Hold_ok _ _ (by first | omega | (simp; omega) | decide +kernel)) rfl rfl fun r5 hr36 w37 => ?_
      have e38 := e35.trans (lt_eq hr36)
      refine go tbv49ok 3 rfl rfl trivial ?_
      refine ef (storeA tbv49ok rfl rfl rfl rfl rfl rfl rfl rfl rfl rfl ?_)
      refine go tbv49ok 7 rfl rfl trivial ?_
      refine callv (r27_Hold q r1.1) (fun r : ChanR × Int => .tup [.agg (ChanR.pc r.1), .int .i64 r.2]) (r27_Hold_ok _ _ (by first | omega | (simp; omega) | decide +kernel)) rfl rfl fun r6 hr39 w40 => ?_
      have e41 := e38.trans (lt_eq hr39)
      refine go tbv49ok 3 rfl rfl trivial ?_
      refine ef (storeA tbv49ok rfl rfl rfl rfl rfl rfl rfl rfl rfl rfl ?_)
      refine go tbv49ok 4 rfl rfl trivial ?_
      refine any [3, 4, 5, 6, 7, 8, 9, 10] 8 mixd rfl ?_
      refine gov tbv49ok [0, 1, 2, 3, 4] 3 rfl (by kernel_rfl) rfl rfl trivial ?_
      refine ve 5 rfl (by kernel_rfl) rfl (storeA tbv49ok rfl rfl rfl rfl rfl rfl rfl rfl rfl rfl ?_)
      refine vtp 6 rfl (by kernel_rfl) (by kernel_rfl) (storeA tbv49ok rfl rfl rfl rfl rfl rfl rfl rfl rfl rfl ?_)
      refine gov tbv49ok [7] 0 rfl (by kernel_rfl) rfl rfl trivial ?_
      refine vdone (by kernel_rfl) ?_
      refine go tbv49ok 2 rfl rfl trivial ?_
      exact rt3 rfl rfl (ple_of (fun r : ChanR × ChanR × Bool => .tup [.agg (ChanR.pc r.1), .agg (ChanR.pc r.2.1), .bool r.2.2]) e41 (ple rfl))
theorem l27_done_ok (c : ChanR) (q : ChanR) (a : ActR) (hc : COk c 100) (hq : COk q 100) (hl : a.l.length ≤ 1000) : Fn Tryz.prog gb 33 [.agg (ChanR.pc c), .agg (ChanR.pc q), .agg (ActR.pc a)] (.tup [.agg (ChanR.pc ((l27_done c q a).1)), .agg (ChanR.pc ((l27_done c q a).2.1)), .bool ((l27_done c q a).2.2)]) := by
  refine fn_cw tbv49ok Tryz.func33 rfl Tryz.ntmps33 rfl cb33 rfl rfl fun w N H hG => ?_
  have c_credit_r : -9223372036854775808 ≤ c.credit ∧ c.credit ≤ 9223372036854775807 := w.1.1
  have c_takers_l : c.takers.length ≤ 140737488355328 := w.1.2.1.1
  have c_lent_l : c.lent.length ≤ 140737488355328 := w.1.2.2.1.1
  have c_puts_r : 0 ≤ c.puts ∧ c.puts ≤ 18446744073709551615 := w.1.2.2.2.2.2.1
  have c_held_l_l : c.held.l.length ≤ 140737488355328 := w.1.2.2.2.2.2.2.1.1
  have q_credit_r : -9223372036854775808 ≤ q.credit ∧ q.credit ≤ 9223372036854775807 := w.2.1.1
  have q_takers_l : q.takers.length ≤ 140737488355328 := w.2.1.2.1.1
  have q_lent_l : q.lent.length ≤ 140737488355328 := w.2.1.2.2.1.1
  have q_puts_r : 0 ≤ q.puts ∧ q.puts ≤ 18446744073709551615 := w.2.1.2.2.2.2.2.1
  have q_held_l_l : q.held.l.length ≤ 140737488355328 := w.2.1.2.2.2.2.2.2.1.1
  have a_dow_r : 0 ≤ a.dow ∧ a.dow ≤ 255 := w.2.2.1.1
  have a_n_r : 0 ≤ a.n ∧ a.n ≤ 18446744073709551615 := w.2.2.1.2.1
  have a_how_r : 0 ≤ a.how ∧ a.how ≤ 18446744073709551615 := w.2.2.1.2.2.1
  have a_queue_l : a.queue.length ≤ 9223372036854775807 := w.2.2.1.2.2.2.1
  have a_l_l : a.l.length ≤ 140737488355328 := w.2.2.1.2.2.2.2.2.1.1
  have hcc := hc
  obtain ⟨hc1, hc2, hc3, hc4⟩ := hcc
  have hcd := hc4
  obtain ⟨hcd1, hcd2, hcd3⟩ := hcd
  have hqq := hq
  obtain ⟨hq1, hq2, hq3, hq4⟩ := hqq
  have hqd := hq4
  obtain ⟨hqd1, hqd2, hqd3⟩ := hqd
  have e0 := l27_done.eq_1 c q a
  refine go tbv49ok 2 rfl rfl trivial ?_
  refine ef (boxA 0 rfl rfl rfl fun b1 => ?_)
  refine ef (boxA 1 rfl rfl rfl fun b2 => ?_)
  refine ef (boxA 2 rfl rfl rfl fun b3 => ?_)
  refine ef (alloc tbv49ok 3 rfl rfl rfl rfl fun b4 => ?_)
  refine ef (alloc tbv49ok 4 rfl rfl rfl rfl fun b5 => ?_)
  refine go tbv49ok 24 rfl rfl ⟨(by omega), (by omega), trivial⟩ ?_
  refine cnd rfl (fun h6 => ?_) (fun h6 => ?_)
  · have p7 := dt h6
    have e8 := e0.trans (condT h6)
    refine go tbv49ok 5 rfl rfl trivial ?_
    refine callv (chans_Chan_Credit c a.n) (fun r : ChanR × Int => .tup [.agg (ChanR.pc r.1), .int .i64 r.2]) (chans_Chan_Credit_ok _ _) rfl rfl fun r hr9 w10 => ?_
    have e11 := e8.trans (lt_eq hr9)
    have hA11 := credit_ok c a.n
    (try rw [← hr9] at hA11)
    have hA12 := fun h => cok_Credit (c := c) (n := 0) a.n h
    (try rw [← hr9] at hA12)
    (try have hA12b := hA12 (by first | assumption | omega | exact dok_nil | (simp; done)))
    refine go tbv49ok 3 rfl rfl trivial ?_
    refine ef (storeA tbv49ok rfl rfl rfl rfl rfl rfl rfl rfl rfl rfl ?_)
    refine go tbv49ok 7 rfl rfl trivial ?_
    refine callv (r27_Credit q a.n) (fun r : ChanR × Int => .tup [.agg (ChanR.pc r.1), .int .i64 r.2]) (r27_Credit_ok _ _) rfl rfl fun r1 hr14 w15 => ?_
    have e16 := e11.trans (lt_eq hr14)
    refine go tbv49ok 3 rfl rfl trivial ?_
    refine ef (storeA tbv49ok rfl rfl rfl rfl rfl rfl rfl rfl rfl rfl ?_)
    refine go tbv49ok 5 rfl rfl trivial ?_
    refine any [3, 4, 5, 6, 7, 8, 9, 10] 8 mixd rfl ?_
    refine gov tbv49ok [0, 1, 2, 3, 4] 3 rfl (by kernel_rfl) rfl rfl trivial ?_
    refine ve 5 rfl (by kernel_rfl) rfl (storeA tbv49ok rfl rfl rfl rfl rfl rfl rfl rfl rfl rfl ?_)
    refine vtp 6 rfl (by kernel_rfl) (by kernel_rfl) (storeA tbv49ok rfl rfl rfl rfl rfl rfl rfl rfl rfl rfl ?_)
    refine gov tbv49ok [7] 0 rfl (by kernel_rfl) rfl rfl trivial ?_
    refine vdone (by kernel_rfl) ?_
    refine go tbv49ok 2 rfl rfl trivial ?_
    exact rt3 rfl rfl (ple_of (fun r : ChanR × ChanR × Bool => .tup [.agg (ChanR.pc r.1), .agg (ChanR.pc r.2.1), .bool r.2.2]) e16 (ple rfl))
  · have p17 := df h6
    have e18 := e0.trans (condF h6)
    refine go tbv49ok 6 rfl rfl trivial ?_
    refine cnd rfl (fun h19 => ?_) (fun h19 => ?_)
    · have p20 := dt h19
      have e21 := e18.trans (condT h19)
      refine go tbv49ok 7 rfl rfl trivial ?_
      refine callv (chans_Chan_Take c a.n a.queue) (fun r : ChanR × Int => .tup [.agg (ChanR.pc r.1), .int .i64 r.2]) (chans_Chan_Take_ok _ _ _ (by first | omega | (simp; omega) | decide +kernel)) rfl rfl fun r2 hr22 w23 => ?_
      have e24 := e21.trans (lt_eq hr22)
      refine go tbv49ok 3 rfl rfl trivial ?_
      refine ef (storeA tbv49ok rfl rfl rfl rfl rfl rfl rfl rfl rfl rfl ?_)
      refine go tbv49ok 9 rfl rfl trivial ?_
      refine callv (r27_Take q a.n a.queue) (fun r : ChanR × Int => .tup [.agg (ChanR.pc r.1), .int .i64 r.2]) (r27_Take_ok _ _ _ (by first | omega | (simp; omega) | decide +kernel)) rfl rfl fun r3 hr25 w26 => ?_
      have e27 := e24.trans (lt_eq hr25)
      refine go tbv49ok 3 rfl rfl trivial ?_
      refine ef (storeA tbv49ok rfl rfl rfl rfl rfl rfl rfl rfl rfl rfl ?_)
      refine go tbv49ok 5 rfl rfl trivial ?_
      refine any [3, 4, 5, 6, 7, 8, 9, 10] 8 mixd rfl ?_
      refine gov tbv49ok [0, 1, 2, 3, 4] 3 rfl (by kernel_rfl) rfl rfl trivial ?_
      refine ve 5 rfl (by kernel_rfl) rfl (storeA tbv49ok rfl rfl rfl rfl rfl rfl rfl rfl rfl rfl ?_)
      refine vtp 6 rfl (by kernel_rfl) (by kernel_rfl) (storeA tbv49ok rfl rfl rfl rfl rfl rfl rfl rfl rfl rfl ?_)
      refine gov tbv49ok [7] 0 rfl (by kernel_rfl) rfl rfl trivial ?_
      refine vdone (by kernel_rfl) ?_
      refine go tbv49ok 2 rfl rfl trivial ?_
      exact rt3 rfl rfl (ple_of (fun r : ChanR × ChanR × Bool => .tup [.agg (ChanR.pc r.1), .agg (ChanR.pc r.2.1), .bool r.2.2]) e27 (ple rfl))
    · have p28 := df h19
      have e29 := e18.trans (condF h19)
      refine go tbv49ok 6 rfl rfl trivial ?_
      refine cnd rfl (fun h30 => ?_) (fun h30 => ?_)
      · have p31 := dt h30
        have e32 := e29.trans (condT h30)
        refine go tbv49ok 5 rfl rfl trivial ?_
        refine callv (chans_Chan_Leave c a.n) (fun r : ChanR × Int => .tup [.agg (ChanR.pc r.1), .int .i64 r.2]) (chans_Chan_Leave_ok _ _ (by first | omega | (simp; omega) | decide +kernel)) rfl rfl fun r4 hr33 w34 => ?_
        have e35 := e32.trans (lt_eq hr33)
        refine go tbv49ok 3 rfl rfl trivial ?_
        refine ef (storeA tbv49ok rfl rfl rfl rfl rfl rfl rfl rfl rfl rfl ?_)
        refine go tbv49ok 7 rfl rfl trivial ?_
        refine callv (r27_Leave q a.n) (fun r : ChanR × Int => .tup [.agg (ChanR.pc r.1), .int .i64 r.2]) (r27_Leave_ok _ _ (by first | omega | (simp; omega) | decide +kernel)) rfl rfl fun r5 hr36 w37 => ?_
        have e38 := e35.trans (lt_eq hr36)
        refine go tbv49ok 3 rfl rfl trivial ?_
        refine ef (storeA tbv49ok rfl rfl rfl rfl rfl rfl rfl rfl rfl rfl ?_)
        refine go tbv49ok 5 rfl rfl trivial ?_
        refine any [3, 4, 5, 6, 7, 8, 9, 10] 8 mixd rfl ?_
        refine gov tbv49ok [0, 1, 2, 3, 4] 3 rfl (by kernel_rfl) rfl rfl trivial ?_
        refine ve 5 rfl (by kernel_rfl) rfl (storeA tbv49ok rfl rfl rfl rfl rfl rfl rfl rfl rfl rfl ?_)
        refine vtp 6 rfl (by kernel_rfl) (by kernel_rfl) (storeA tbv49ok rfl rfl rfl rfl rfl rfl rfl rfl rfl rfl ?_)
        refine gov tbv49ok [7] 0 rfl (by kernel_rfl) rfl rfl trivial ?_
        refine vdone (by kernel_rfl) ?_
        refine go tbv49ok 2 rfl rfl trivial ?_
        exact rt3 rfl rfl (ple_of (fun r : ChanR × ChanR × Bool => .tup [.agg (ChanR.pc r.1), .agg (ChanR.pc r.2.1), .bool r.2.2]) e38 (ple rfl))
      · have p39 := df h30
        have e40 := e29.trans (condF h30)
        refine go tbv49ok 6 rfl rfl trivial ?_
        refine cnd rfl (fun h41 => ?_) (fun h41 => ?_)
        · have p42 := dt h41
          have e43 := e40.trans (condT h41)
          refine any [0, 5, 6, 7, 8, 9, 10] 16 mixd rfl ?_
          refine gov tbv49ok [1, 2, 3, 4, 5, 7, 8, 9, 10, 11, 12] 5 rfl (by kernel_rfl) rfl rfl trivial ?_
          refine ve 0 rfl (by kernel_rfl) rfl (eq1 tbv49ok rfl rfl trivial (fun _ h => by cases h; rfl) ?_)
          refine ve 6 rfl (by kernel_rfl) rfl (ecall (chans_Chan_Lend_ok _ (⟨a.n, a.queue⟩ : LentR) (by first | omega | (simp; omega) | decide +kernel)) rfl rfl ?_)
          generalize hr45 : chans_Chan_Lend c (⟨a.n, a.queue⟩ : LentR) = r6
          intro w44
          have e46 := e43.trans (lt_eq hr45.symm)
          have hr45 := hr45.symm
          have hA46 := cok_Lend (c := c) (⟨a.n, a.queue⟩ : LentR) (by assumption)
          (try rw [← hr45] at hA46)
          refine ve 13 rfl (by kernel_rfl) rfl (ecall (r27_Lend_ok _ (⟨a.n, a.queue⟩ : LentR) (by first | omega | (simp; omega) | decide +kernel)) rfl rfl ?_)
          generalize hr49 : r27_Lend q (⟨a.n, a.queue⟩ : LentR) = r7
          intro w48
          have e50 := e46.trans (lt_eq hr49.symm)
          refine ve 14 rfl (by kernel_rfl) rfl (storeA tbv49ok rfl rfl rfl rfl rfl rfl rfl rfl rfl rfl ?_)
          refine vt 15 rfl (by kernel_rfl) (by kernel_rfl) (storeA tbv49ok rfl rfl rfl rfl rfl rfl rfl rfl rfl rfl ?_)
          refine vdone (by kernel_rfl) ?_
          refine go tbv49ok 3 rfl rfl trivial ?_
          refine any [3, 4, 5, 6, 7, 8, 9, 10] 8 mixd rfl ?_
          refine gov tbv49ok [0, 1, 2, 3, 4] 3 rfl (by kernel_rfl) rfl rfl trivial ?_
          refine ve 5 rfl (by kernel_rfl) rfl (storeA tbv49ok rfl rfl rfl rfl rfl rfl rfl rfl rfl rfl ?_)
          refine vtp 6 rfl (by kernel_rfl) (by kernel_rfl) (storeA tbv49ok rfl rfl rfl rfl rfl rfl rfl rfl rfl rfl ?_)
          refine gov tbv49ok [7] 0 rfl (by kernel_rfl) rfl rfl trivial ?_
          refine vdone (by kernel_rfl) ?_
          refine go tbv49ok 2 rfl rfl trivial ?_
          exact rt3 rfl rfl (ple_of (fun r : ChanR × ChanR × Bool => .tup [.agg (ChanR.pc r.1), .agg (ChanR.pc r.2.1), .bool r.2.2]) e50 (ple rfl))
        · have p51 := df h41
          have e52 := e40.trans (condF h41)
          refine go tbv49ok 1 rfl rfl trivial ?_
          obtain ⟨o, e_o, q_o⟩ := lt1_split e52
          refine joinc (ι := Bool) [3, 4, 5, 6, 7, 8, 19] [0, 1, 2, 3, 4] (fun v => [(98, .bool v)]) (fun v => []) (fun v => o = v) ?_ ?_
          · refine go tbv49ok 6 rfl rfl trivial ?_
            refine cnd rfl (fun h53 => ?_) (fun h53 => ?_)
            · have p54 := dt h53
              have e55 := e_o.trans (condT h53)
              refine go tbv49ok 1 rfl rfl trivial ?_
              refine next (decide ((a.dow % 11) = 4)) rfl rfl ⟨rfl, trivial⟩ trivial (by decide) ?_
              exact e55
            · have p56 := df h53
              have e57 := e_o.trans (condF h53)
              refine go tbv49ok 4 rfl rfl trivial ?_
              refine next (decide ((a.dow % 11) = 8)) rfl rfl ⟨rfl, trivial⟩ trivial (by decide) ?_
              exact e57
          · rintro v hp58
            have e59 := lt1_fin q_o hp58
            refine go tbv49ok 1 rfl rfl trivial ?_
            refine cnd rfl (fun h60 => ?_) (fun h60 => ?_)
            · have e61 := e59.trans (condT h60)
              refine go tbv49ok 5 rfl rfl trivial ?_
              refine callv (l27_settled c q a) (fun r : ChanR × ChanR × Bool => .tup [.agg (ChanR.pc r.1), .agg (ChanR.pc r.2.1), .bool r.2.2]) (l27_settled_ok _ _ _ (by first | assumption | exact cok_le (by assumption) (by omega)) (by first | assumption | exact cok_le (by assumption) (by omega))) rfl rfl fun r8 hr62 w63 => ?_
              have e64 := e61.trans (lt_eq hr62)
              refine go tbv49ok 3 rfl rfl trivial ?_
              refine ef (storeA tbv49ok rfl rfl rfl rfl rfl rfl rfl rfl rfl rfl ?_)
              refine ef (storeA tbv49ok rfl rfl rfl rfl rfl rfl rfl rfl rfl rfl ?_)
              refine go tbv49ok 6 rfl rfl trivial ?_
              exact rt3 rfl rfl (ple_of (fun r : ChanR × ChanR × Bool => .tup [.agg (ChanR.pc r.1), .agg (ChanR.pc r.2.1), .bool r.2.2]) e64 (ple rfl))
            · have e65 := e59.trans (condF h60)
              refine go tbv49ok 6 rfl rfl trivial ?_
              refine cnd rfl (fun h66 => ?_) (fun h66 => ?_)
              · have p67 := dt h66
                have e68 := e65.trans (condT h66)
                refine go tbv49ok 3 rfl rfl trivial ?_
                refine callv (chans_Chan_Sure c) (fun r : ChanR × Int => .tup [.agg (ChanR.pc r.1), .int .i64 r.2]) (chans_Chan_Sure_ok _) rfl rfl fun r9 hr69 w70 => ?_
                have e71 := e68.trans (lt_eq hr69)
                refine go tbv49ok 3 rfl rfl trivial ?_
                refine ef (storeA tbv49ok rfl rfl rfl rfl rfl rfl rfl rfl rfl rfl ?_)
                refine go tbv49ok 5 rfl rfl trivial ?_
                refine callv (r27_Sure q) (fun r : ChanR × Int => .tup [.agg (ChanR.pc r.1), .int .i64 r.2]) (r27_Sure_ok _) rfl rfl fun r10 hr72 w73 => ?_
                have e74 := e71.trans (lt_eq hr72)
                refine go tbv49ok 3 rfl rfl trivial ?_
                refine ef (storeA tbv49ok rfl rfl rfl rfl rfl rfl rfl rfl rfl rfl ?_)
                refine go tbv49ok 5 rfl rfl trivial ?_
                refine any [3, 4, 5, 6, 7, 8, 9, 10] 8 mixd rfl ?_
                refine gov tbv49ok [0, 1, 2, 3, 4] 3 rfl (by kernel_rfl) rfl rfl trivial ?_
                refine ve 5 rfl (by kernel_rfl) rfl (storeA tbv49ok rfl rfl rfl rfl rfl rfl rfl rfl rfl rfl ?_)
                refine vtp 6 rfl (by kernel_rfl) (by kernel_rfl) (storeA tbv49ok rfl rfl rfl rfl rfl rfl rfl rfl rfl rfl ?_)
                refine gov tbv49ok [7] 0 rfl (by kernel_rfl) rfl rfl trivial ?_
                refine vdone (by kernel_rfl) ?_
                refine go tbv49ok 2 rfl rfl trivial ?_
                exact rt3 rfl rfl (ple_of (fun r : ChanR × ChanR × Bool => .tup [.agg (ChanR.pc r.1), .agg (ChanR.pc r.2.1), .bool r.2.2]) e74 (ple rfl))
              · have p75 := df h66
                have e76 := e65.trans (condF h66)
                refine go tbv49ok 6 rfl rfl trivial ?_
                refine cnd rfl (fun h77 => ?_) (fun h77 => ?_)
                · have p78 := dt h77
                  have e79 := e76.trans (condT h77)
                  refine go tbv49ok 3 rfl rfl trivial ?_
                  refine callv (chans_Chan_Put c) (fun r : ChanR × Int => .tup [.agg (ChanR.pc r.1), .int .u64 r.2]) (chans_Chan_Put_ok _) rfl rfl fun r11 hr80 w81 => ?_
                  have e82 := e79.trans (lt_eq hr80)
                  refine go tbv49ok 3 rfl rfl trivial ?_
                  refine ef (alloc tbv49ok 5 rfl rfl rfl rfl fun b83 => ?_)
                  refine ef (storeA tbv49ok rfl rfl rfl rfl rfl rfl rfl rfl rfl rfl ?_)
                  refine go tbv49ok 6 rfl rfl trivial ?_
                  refine callv (r27_Put q) (fun r : ChanR × Int => .tup [.agg (ChanR.pc r.1), .int .u64 r.2]) (r27_Put_ok _) rfl rfl fun r12 hr84 w85 => ?_
                  have e86 := e82.trans (lt_eq hr84)
                  refine go tbv49ok 3 rfl rfl trivial ?_
                  refine ef (alloc tbv49ok 6 rfl rfl rfl rfl fun b87 => ?_)
                  refine ef (storeA tbv49ok rfl rfl rfl rfl rfl rfl rfl rfl rfl rfl ?_)
                  refine go tbv49ok 4 rfl rfl trivial ?_
                  refine any [3, 4, 7, 8, 9, 10, 11, 12] 8 mixd rfl ?_
                  refine gov tbv49ok [0, 1, 2, 3, 4] 3 rfl (by kernel_rfl) rfl rfl trivial ?_
                  refine ve 5 rfl (by kernel_rfl) rfl (storeA tbv49ok rfl rfl rfl rfl rfl rfl rfl rfl rfl rfl ?_)
                  refine vtp 6 rfl (by kernel_rfl) (by kernel_rfl) (storeA tbv49ok rfl rfl rfl rfl rfl rfl rfl rfl rfl rfl ?_)
                  refine gov tbv49ok [7] 0 rfl (by kernel_rfl) rfl rfl trivial ?_
                  refine vdone (by kernel_rfl) ?_
                  refine go tbv49ok 4 rfl rfl trivial ?_
                  exact rt3 rfl rfl (ple_of (fun r : ChanR × ChanR × Bool => .tup [.agg (ChanR.pc r.1), .agg (ChanR.pc r.2.1), .bool r.2.2]) e86 (ple rfl))
                · have p88 := df h77
                  have e89 := e76.trans (condF h77)
                  refine go tbv49ok 6 rfl rfl trivial ?_
                  refine cnd rfl (fun h90 => ?_) (fun h90 => ?_)
                  · have p91 := dt h90
                    have e92 := e89.trans (condT h90)
                    refine go tbv49ok 3 rfl rfl trivial ?_
                    refine callv (chans_Chan_Draft c) (fun r : ChanR × Int => .tup [.agg (ChanR.pc r.1), .int .i64 r.2]) (chans_Chan_Draft_ok _) rfl rfl fun r13 hr93 w94 => ?_
                    have e95 := e92.trans (lt_eq hr93)
                    refine go tbv49ok 3 rfl rfl trivial ?_
                    refine ef (storeA tbv49ok rfl rfl rfl rfl rfl rfl rfl rfl rfl rfl ?_)
                    refine go tbv49ok 5 rfl rfl trivial ?_
                    refine callv (r27_Draft q) (fun r : ChanR × Int => .tup [.agg (ChanR.pc r.1), .int .i64 r.2]) (r27_Draft_ok _) rfl rfl fun r14 hr96 w97 => ?_
                    have e98 := e95.trans (lt_eq hr96)
                    refine go tbv49ok 3 rfl rfl trivial ?_
                    refine ef (storeA tbv49ok rfl rfl rfl rfl rfl rfl rfl rfl rfl rfl ?_)
                    refine go tbv49ok 5 rfl rfl trivial ?_
                    refine any [3, 4, 5, 6, 7, 8, 9, 10] 8 mixd rfl ?_
                    refine gov tbv49ok [0, 1, 2, 3, 4] 3 rfl (by kernel_rfl) rfl rfl trivial ?_
                    refine ve 5 rfl (by kernel_rfl) rfl (storeA tbv49ok rfl rfl rfl rfl rfl rfl rfl rfl rfl rfl ?_)
                    refine vtp 6 rfl (by kernel_rfl) (by kernel_rfl) (storeA tbv49ok rfl rfl rfl rfl rfl rfl rfl rfl rfl rfl ?_)
                    refine gov tbv49ok [7] 0 rfl (by kernel_rfl) rfl rfl trivial ?_
                    refine vdone (by kernel_rfl) ?_
                    refine go tbv49ok 2 rfl rfl trivial ?_
                    exact rt3 rfl rfl (ple_of (fun r : ChanR × ChanR × Bool => .tup [.agg (ChanR.pc r.1), .agg (ChanR.pc r.2.1), .bool r.2.2]) e98 (ple rfl))
                  · have p99 := df h90
                    have e100 := e89.trans (condF h90)
                    refine go tbv49ok 6 rfl rfl trivial ?_
                    refine cnd rfl (fun h101 => ?_) (fun h101 => ?_)
                    · have p102 := dt h101
                      have e103 := e100.trans (condT h101)
                      refine go tbv49ok 4 rfl rfl trivial ?_
                      refine callv (l22_All a.l) (fun r : (List DeedR) × Bool => .tup [.sl DeedR.pc r.1, .bool r.2]) (l22_All_ok _ (by first | omega | (simp; omega) | decide +kernel)) rfl rfl fun r15 hr104 w105 => ?_
                      have e106 := e103.trans (lt_eq hr104)
                      have hA106 := all_len a.l
                      (try rw [← hr104] at hA106)
                      refine go tbv49ok 12 rfl rfl trivial ?_
                      refine callv (chans_Chan_Hold c a.l) (fun r : ChanR × Int => .tup [.agg (ChanR.pc r.1), .int .i64 r.2]) (chans_Chan_Hold_ok _ _ (by first | omega | (simp; omega) | decide +kernel)) rfl rfl fun r16 hr108 w109 => ?_
                      have e110 := e106.trans (lt_eq hr108)
                      refine go tbv49ok 3 rfl rfl trivial ?_
                      refine ef (storeA tbv49ok rfl rfl rfl rfl rfl rfl rfl rfl rfl rfl ?_)
                      refine go tbv49ok 6 rfl rfl trivial ?_
                      refine callv (r27_Hold q r15.1) (fun r : ChanR × Int => .tup [.agg (ChanR.pc r.1), .int .i64 r.2]) (r27_Hold_ok _ _ (by first | omega | (simp; omega) | decide +kernel)) rfl rfl fun r17 hr111 w112 => ?_
                      have e113 := e110.trans (lt_eq hr111)
                      refine go tbv49ok 3 rfl rfl trivial ?_
                      refine ef (storeA tbv49ok rfl rfl rfl rfl rfl rfl rfl rfl rfl rfl ?_)
                      refine go tbv49ok 5 rfl rfl trivial ?_
                      refine any [3, 4, 5, 6, 7, 8, 9, 10] 8 mixd rfl ?_
                      refine gov tbv49ok [0, 1, 2, 3, 4] 3 rfl (by kernel_rfl) rfl rfl trivial ?_
                      refine ve 5 rfl (by kernel_rfl) rfl (storeA tbv49ok rfl rfl rfl rfl rfl rfl rfl rfl rfl rfl ?_)
                      refine vtp 6 rfl (by kernel_rfl) (by kernel_rfl) (storeA tbv49ok rfl rfl rfl rfl rfl rfl rfl rfl rfl rfl ?_)
                      refine gov tbv49ok [7] 0 rfl (by kernel_rfl) rfl rfl trivial ?_
                      refine vdone (by kernel_rfl) ?_
                      refine go tbv49ok 2 rfl rfl trivial ?_
                      exact rt3 rfl rfl (ple_of (fun r : ChanR × ChanR × Bool => .tup [.agg (ChanR.pc r.1), .agg (ChanR.pc r.2.1), .bool r.2.2]) e113 (ple rfl))
                    · have p114 := df h101
                      have e115 := e100.trans (condF h101)
                      refine go tbv49ok 3 rfl rfl trivial ?_
                      refine callv (chans_Chan_Undo c) (fun r : ChanR × Int => .tup [.agg (ChanR.pc r.1), .int .i64 r.2]) (chans_Chan_Undo_ok _) rfl rfl fun r18 hr116 w117 => ?_
                      have e118 := e115.trans (lt_eq hr116)
                      refine go tbv49ok 3 rfl rfl trivial ?_
                      refine ef (storeA tbv49ok rfl rfl rfl rfl rfl rfl rfl rfl rfl rfl ?_)
                      refine go tbv49ok 5 rfl rfl trivial ?_
                      refine callv (r27_Undo q) (fun r : ChanR × Int => .tup [.agg (ChanR.pc r.1), .int .i64 r.2]) (r27_Undo_ok _) rfl rfl fun r19 hr119 w120 => ?_
                      have e121 := e118.trans (lt_eq hr119)
                      refine go tbv49ok 3 rfl rfl trivial ?_
                      refine ef (storeA tbv49ok rfl rfl rfl rfl rfl rfl rfl rfl rfl rfl ?_)
                      refine go tbv49ok 5 rfl rfl trivial ?_
                      refine any [3, 4, 5, 6, 7, 8, 9, 10] 8 mixd rfl ?_
                      refine gov tbv49ok [0, 1, 2, 3, 4] 3 rfl (by kernel_rfl) rfl rfl trivial ?_
                      refine ve 5 rfl (by kernel_rfl) rfl (storeA tbv49ok rfl rfl rfl rfl rfl rfl rfl rfl rfl rfl ?_)
                      refine vtp 6 rfl (by kernel_rfl) (by kernel_rfl) (storeA tbv49ok rfl rfl rfl rfl rfl rfl rfl rfl rfl rfl ?_)
                      refine gov tbv49ok [7] 0 rfl (by kernel_rfl) rfl rfl trivial ?_
                      refine vdone (by kernel_rfl) ?_
                      refine go tbv49ok 2 rfl rfl trivial ?_
                      exact rt3 rfl rfl (ple_of (fun r : ChanR × ChanR × Bool => .tup [.agg (ChanR.pc r.1), .agg (ChanR.pc r.2.1), .bool r.2.2]) e121 (ple rfl))
theorem l27_told_ok (c : ChanR) (q : ChanR) (tick : Int) (hc : COk c 100) (hq : COk q 100) : Fn Tryz.prog gb 35 [.agg (ChanR.pc c), .agg (ChanR.pc q), .int .u64 tick] (.bool (l27_told c q tick)) := by
  refine fn_cw tbv49ok Tryz.func35 rfl Tryz.ntmps35 rfl cb35 rfl rfl fun w N H hG => ?_
  have c_takers_l : c.takers.length ≤ 140737488355328 := w.1.2.1.1
  have c_lent_l : c.lent.length ≤ 140737488355328 := w.1.2.2.1.1
  have c_held_l_l : c.held.l.length ≤ 140737488355328 := w.1.2.2.2.2.2.2.1.1
  have q_takers_l : q.takers.length ≤ 140737488355328 := w.2.1.2.1.1
  have q_lent_l : q.lent.length ≤ 140737488355328 := w.2.1.2.2.1.1
  have q_held_l_l : q.held.l.length ≤ 140737488355328 := w.2.1.2.2.2.2.2.2.1.1
  have tick_r : 0 ≤ tick ∧ tick ≤ 18446744073709551615 := w.2.2.1
  have hcc := hc
  obtain ⟨hc1, hc2, hc3, hc4⟩ := hcc
  have hcd := hc4
  obtain ⟨hcd1, hcd2, hcd3⟩ := hcd
  have hqq := hq
  obtain ⟨hq1, hq2, hq3, hq4⟩ := hqq
  have hqd := hq4
  obtain ⟨hqd1, hqd2, hqd3⟩ := hqd
  have e0 := l27_told.eq_1 c q tick
  refine go tbv49ok 2 rfl rfl trivial ?_
  refine ef (boxA 0 rfl rfl rfl fun b1 => ?_)
  refine ef (boxA 1 rfl rfl rfl fun b2 => ?_)
  refine go tbv49ok 7 rfl rfl trivial ?_
  refine callv (chans_Chan_Held c tick) (fun r : (List DeedR) × Int => .tup [.sl DeedR.pc r.1, .int .i64 r.2]) (chans_Chan_Held_ok _ _ (by first | omega | (simp; omega) | decide +kernel) (by assumption)) rfl rfl fun r hr3 w4 => ?_
  have e5 := e0.trans (lt_eq hr3)
  have hA5 := held_len c tick
  (try rw [← hr3] at hA5)
  refine go tbv49ok 11 rfl rfl trivial ?_
  refine callv (r27_Held q tick) (fun r : (List DeedR) × Int => .tup [.sl DeedR.pc r.1, .int .i64 r.2]) (r27_Held_ok _ _ (by first | omega | (simp; omega) | decide +kernel)) rfl rfl fun r1 hr7 w8 => ?_
  have e9 := e5.trans (lt_eq hr7)
  refine go tbv49ok 10 rfl rfl trivial ?_
  refine callv (l22_All r.1) (fun r : (List DeedR) × Bool => .tup [.sl DeedR.pc r.1, .bool r.2]) (l22_All_ok _ (by first | omega | (simp; omega) | decide +kernel)) rfl rfl fun r2 hr10 w11 => ?_
  have e12 := e9.trans (lt_eq hr10)
  have hA12 := all_len r.1
  (try rw [← hr10] at hA12)
  refine go tbv49ok 16 rfl rfl trivial ?_
  refine callv (chans_Chan_Takers c) (fun r : (List TakerR) => .sl TakerR.pc r) (chans_Chan_Takers_ok _ (by first | omega | (simp; omega) | decide +kernel)) rfl rfl fun r3 hr14 w15 => ?_
  have e16 := e12.trans (lt_eq hr14)
  have hA16 := tks_len c
  (try rw [← hr14] at hA16)
  refine go tbv49ok 5 rfl rfl trivial ?_
  refine sw_own (t := 13) (k := 2) (e := 127) 2 TakerR.pc rfl rfl ?_
  refine loop (ι := Nat × (List TakerR) × Value) [3, 4, 6, 8, 9, 10, 11, 37, 38] [0, 1] (fun ⟨k, takers, u_takers⟩ => [(39, .int .i64 (k : Int)), (13, .osl 2)]) (fun ⟨k, takers, u_takers⟩ => [(2, .arr u_takers 2 127 TakerR.pc takers)]) (fun ⟨k, takers, u_takers⟩ => k ≤ r3.length ∧ l27_told c q tick = l27_told_l0 c q r r1 r2 (r3.drop k)  takers ∧ takers.length ≤ k) (fun ⟨k, takers, u_takers⟩ => r3.length - k) ⟨0, [], (.slice none 0 0)⟩ ⟨rfl, rfl, trivial⟩ ⟨rfl, trivial⟩ ?_ ?_
  · exact ⟨Nat.zero_le _, e16, (by first | omega | (simp; done) | (simp; omega))⟩
  · rintro ⟨k, takers, u_takers⟩ ⟨hp18_1, hp18_2, hp18_3⟩
    refine go tbv49ok 6 rfl rfl trivial ?_
    refine cnd rfl (fun h19 => ?_) (fun h19 => ?_)
    · have p20 := dt h19
      have e21 := lstep (f := fun zz => l27_told_l0 c q r r1 r2 zz  takers) hp18_2 (dropG (by omega)) (l27_told_l0.eq_2 _ _ _ _ _ _ _ _)
      have hc22 := getG (xs := r3) (k := k) (by omega)
      refine go tbv49ok 6 rfl rfl trivial ?_
      refine q1 (qidx tbv49ok k rfl rfl rfl hc22 rfl rfl rfl rfl) rfl fun w23 => ?_
      refine go tbv49ok 1 rfl rfl trivial ?_
      refine ef (alloc tbv49ok 3 rfl rfl rfl rfl fun b24 => ?_)
      refine ef (storeA tbv49ok rfl rfl rfl rfl rfl rfl rfl rfl rfl rfl ?_)
      refine go tbv49ok 5 rfl rfl trivial ?_
      refine ef (bsl 4 TakerR.pc [(gt r3 k)] tbv49ok rfl rfl rfl rfl rfl (fun _ => rfl) rfl (by decide) (by decide) rfl fun u25 => ?_)
      refine ef (app tbv49ok [(gt r3 k)] rfl rfl rfl rfl rfl rfl rfl rfl rfl (src_o rfl rfl) (by first | omega | (simp; omega)) rfl fun u26 => ?_)
      refine go tbv49ok 8 rfl rfl ⟨(by omega), trivial⟩ ?_
      refine next ⟨(k + 1), (takers ++ [(gt r3 k)]), (u26)⟩ rfl rfl ⟨rfl, rfl, trivial⟩ ⟨rfl, trivial⟩ ?_ ?_
      · (try simp only []); omega
      · exact ⟨by (try simp only []); omega, e21, (by (try simp only [List.length_append, List.length_cons, List.length_nil]); omega)⟩
    · have p27 := df h19
      have e28 := lstep (f := fun zz => l27_told_l0 c q r r1 r2 zz  takers) hp18_2 (dropN (by omega)) (l27_told_l0.eq_1 _ _ _ _ _ _)
      refine go tbv49ok 14 rfl rfl trivial ?_
      refine callv (chans_Chan_Unsettled c) (fun r : (List LentR) => .sl LentR.pc r) (chans_Chan_Unsettled_ok _ (by first | omega | (simp; omega) | decide +kernel)) rfl rfl fun r4 hr29 w30 => ?_
      have e31 := e28.trans (lt_eq hr29)
      have hA31 := uns_len c
      (try rw [← hr29] at hA31)
      refine go tbv49ok 5 rfl rfl trivial ?_
      refine sw_own (t := 16) (k := 2) (e := 113) 3 LentR.pc rfl rfl ?_
      refine loop (ι := Nat × (List LentR) × Value) [3, 4, 6, 8, 9, 10, 11, 13, 49, 50] [0, 1, 2] (fun ⟨k1, lent, u_lent⟩ => [(51, .int .i64 (k1 : Int)), (16, .osl 3)]) (fun ⟨k1, lent, u_lent⟩ => [(3, .arr u_lent 2 113 LentR.pc lent)]) (fun ⟨k1, lent, u_lent⟩ => k1 ≤ r4.length ∧ l27_told c q tick = l27_told_l1 c q r r1 r2 takers (r4.drop k1)  lent ∧ lent.length ≤ k1) (fun ⟨k1, lent, u_lent⟩ => r4.length - k1) ⟨0, [], (.slice none 0 0)⟩ ⟨rfl, rfl, trivial⟩ ⟨rfl, trivial⟩ ?_ ?_
      · exact ⟨Nat.zero_le _, e31, (by first | omega | (simp; done) | (simp; omega))⟩
      · rintro ⟨k1, lent, u_lent⟩ ⟨hp33_1, hp33_2, hp33_3⟩
        refine go tbv49ok 6 rfl rfl trivial ?_
        refine cnd rfl (fun h34 => ?_) (fun h34 => ?_)
        · have p35 := dt h34
          have e36 := lstep (f := fun zz => l27_told_l1 c q r r1 r2 takers zz  lent) hp33_2 (dropG (by omega)) (l27_told_l1.eq_2 _ _ _ _ _ _ _ _ _)
          have hc37 := getG (xs := r4) (k := k1) (by omega)
          refine go tbv49ok 6 rfl rfl trivial ?_
          refine q1 (qidx tbv49ok k1 rfl rfl rfl hc37 rfl rfl rfl rfl) rfl fun w38 => ?_
          refine go tbv49ok 1 rfl rfl trivial ?_
          refine ef (alloc tbv49ok 4 rfl rfl rfl rfl fun b39 => ?_)
          refine ef (storeA tbv49ok rfl rfl rfl rfl rfl rfl rfl rfl rfl rfl ?_)
          refine go tbv49ok 5 rfl rfl trivial ?_
          refine ef (bsl 5 LentR.pc [(gt r4 k1)] tbv49ok rfl rfl rfl rfl rfl (fun _ => rfl) rfl (by decide) (by decide) rfl fun u40 => ?_)
          refine ef (app tbv49ok [(gt r4 k1)] rfl rfl rfl rfl rfl rfl rfl rfl rfl (src_o rfl rfl) (by first | omega | (simp; omega)) rfl fun u41 => ?_)
          refine go tbv49ok 8 rfl rfl ⟨(by omega), trivial⟩ ?_
          refine next ⟨(k1 + 1), (lent ++ [(gt r4 k1)]), (u41)⟩ rfl rfl ⟨rfl, rfl, trivial⟩ ⟨rfl, trivial⟩ ?_ ?_
          · (try simp only []); omega
          · exact ⟨by (try simp only []); omega, e36, (by (try simp only [List.length_append, List.length_cons, List.length_nil]); omega)⟩
        · have p42 := df h34
          have e43 := lstep (f := fun zz => l27_told_l1 c q r r1 r2 takers zz  lent) hp33_2 (dropN (by omega)) (l27_told_l1.eq_1 _ _ _ _ _ _ _)
          refine go tbv49ok 6 rfl rfl trivial ?_
          refine givec 2 rfl ?_
          refine givec 3 rfl ?_
          refine any [4, 5, 6, 7, 8, 9] 42 mixd rfl ?_
          refine gov tbv49ok [0, 1, 2, 3, 4, 5] 36 rfl (by kernel_rfl) rfl rfl trivial ?_
          refine vcallg 6 rfl (by kernel_rfl) rfl (fun hc => (r22_SameAll_ok _ _)) rfl rfl ⟨(fun hc => hc), (fun hc => hc), trivial⟩ rfl fun _ => ?_
          refine gov tbv49ok [7, 8, 9, 10, 11] 30 rfl (by kernel_rfl) rfl rfl ⟨rfl, rfl, (fun hc => hc), trivial⟩ ?_
          refine vcallg 12 rfl (by kernel_rfl) rfl (fun hc => (r27_SameTakers_ok _ _)) rfl rfl ⟨(fun hc => hc), (fun hc => hc), trivial⟩ rfl fun _ => ?_
          refine gov tbv49ok [13, 14, 15, 16, 17] 24 rfl (by kernel_rfl) rfl rfl ⟨rfl, rfl, (fun hc => hc), trivial⟩ ?_
          refine vcallg 18 rfl (by kernel_rfl) rfl (fun hc => (r27_SameLent_ok _ _)) rfl rfl ⟨(fun hc => hc), (fun hc => hc), trivial⟩ rfl fun _ => ?_
          refine gov tbv49ok [19, 20, 21] 20 rfl (by kernel_rfl) rfl rfl ⟨rfl, rfl, trivial⟩ ?_
          refine vcallg 22 rfl (by kernel_rfl) rfl (fun hc => (chans_Chan_Room_ok _ (by first | omega | (simp; omega) | decide +kernel))) rfl rfl ⟨(fun hc => hc), trivial⟩ rfl fun _ => ?_
          refine gov tbv49ok [23] 18 rfl (by kernel_rfl) rfl rfl trivial ?_
          refine vcallg 24 rfl (by kernel_rfl) rfl (fun hc => (r27_Room_ok _ (by first | omega | (simp; omega) | decide +kernel))) rfl rfl ⟨(fun hc => hc), trivial⟩ rfl fun _ => ?_
          refine gov tbv49ok [25, 26, 27, 28] 13 rfl (by kernel_rfl) rfl rfl ⟨(fun hc => hc), (fun hc => hc), rfl, rfl, trivial⟩ ?_
          refine vcallg 29 rfl (by kernel_rfl) rfl (fun hc => (chans_Chan_Drafts_ok _)) rfl rfl ⟨(fun hc => hc), trivial⟩ rfl fun _ => ?_
          refine gov tbv49ok [30, 31, 32, 33, 34, 35] 6 rfl (by kernel_rfl) rfl rfl ⟨(fun hc => hc), (fun hc => hc), (fun hc => hc), rfl, rfl, trivial⟩ ?_
          refine vcallg 36 rfl (by kernel_rfl) rfl (fun hc => (chans_Chan_Number_ok _)) rfl rfl ⟨(fun hc => hc), trivial⟩ rfl fun _ => ?_
          refine gov tbv49ok [37, 38, 39, 40, 41] 0 rfl (by kernel_rfl) rfl rfl ⟨(fun hc => hc), (fun hc => hc), (fun hc => hc), rfl, rfl, trivial⟩ ?_
          refine vdone (by kernel_rfl) ?_
          refine go tbv49ok 2 rfl rfl trivial ?_
          exact rt1 rfl rfl (ple_of (fun r : Bool => .bool r) e43 (ple rfl))
end Go.SW.V
set_option linter.unusedVariables false
set_option maxRecDepth 100000
set_option maxHeartbeats 4000000
namespace Go.SW.V
open Go.SW Go.Proofs
theorem cb8 : Callable Tryz.prog 8 := callable_of Tryz.func8 (by kernel_rfl) (by kernel_rfl)
def tbv50 : Tb := [(3, ⟨.int .i64, 1, 8, [.int .i64 0]⟩),
  (4, ⟨.bool, 1, 1, [.bool false]⟩),
  (5, ⟨.int .u8, 1, 1, [.int .u8 0]⟩),
  (22, ⟨.int .u64, 1, 8, [.int .u64 0]⟩),
  (25, ⟨.slc 39, 1, 24, [.sl LentR.pc []]⟩),
  (30, ⟨.agg [(0, 1), (1, 1), (2, 1), (3, 1), (4, 1), (5, 1), (6, 1)], 7, 96, [.int .i64 0, .sl TakerR.pc [], .sl LentR.pc [], .bool false, .bool false, .int .u64 0, .sl DeedR.pc []]⟩),
  (39, ⟨.agg [(0, 1), (1, 1)], 2, 24, [.int .u64 0, .str []]⟩),
  (76, ⟨.slc 80, 1, 24, [.sl ActR.pc []]⟩),
  (80, ⟨.agg [(0, 1), (1, 1), (2, 1), (3, 1), (4, 1), (5, 1)], 6, 72, [.int .u8 0, .int .u64 0, .int .u64 0, .str [], .bool false, .sl DeedR.pc []]⟩),
  (87, ⟨.agg [(0, 1), (1, 1), (2, 1), (3, 1), (4, 1), (5, 1), (6, 1)], 7, 96, [.int .i64 0, .sl TakerR.pc [], .sl LentR.pc [], .bool false, .bool false, .int .u64 0, .sl DeedR.pc []]⟩)]
theorem tbv50ok : tbB Tryz.prog tbv50 = true := by kernel_rfl
theorem l27_ChansPlay_ok (l : List ActR) (tick : Int) : Fn Tryz.prog gb 8 [.sl ActR.pc l, .int .u64 tick] (.bool (l27_ChansPlay l tick)) := by
  refine fn_cw tbv50ok Tryz.func8 rfl Tryz.ntmps8 rfl cb8 rfl rfl fun w N H hG => ?_
  have l_l : l.length ≤ 140737488355328 := w.1.1
  have tick_r : 0 ≤ tick ∧ tick ≤ 18446744073709551615 := w.2.1
  have e0 := l27_ChansPlay.eq_1 l tick
  refine go tbv50ok 8 rfl rfl trivial ?_
  refine call l27_awake rfl rfl fun w1 => ?_
  refine go tbv50ok 3 rfl rfl trivial ?_
  refine cndF rfl rfl ?_
  refine go tbv50ok 6 rfl rfl trivial ?_
  refine call (l27_Light_ok _) rfl rfl fun w2 => ?_
  refine go tbv50ok 3 rfl rfl trivial ?_
  refine cnd rfl (fun h3 => ?_) (fun h3 => ?_)
  · have h4 := not_t h3
    have e5 := e0.trans (condT h3)
    refine go tbv50ok 7 rfl rfl trivial ?_
    exact rt1 rfl rfl (ple_of (fun r : Bool => .bool r) e5 (ple rfl))
  · have h6 := not_f h3
    have hb6 := l27_ok h6
    (try obtain ⟨hb6a, hb6b⟩ := hb6)
    have e8 := e0.trans (condF h3)
    refine go tbv50ok 4 rfl rfl trivial ?_
    refine callv (chans_New) (fun r : ChanR => .agg (ChanR.pc r)) chans_New_ok rfl rfl fun r hr9 w10 => ?_
    have e11 := e8.trans (lt_eq hr9)
    have hA11 := cok_new 0
    (try rw [← hr9] at hA11)
    refine callv (r27_New) (fun r : ChanR => .agg (ChanR.pc r)) r27_New_ok rfl rfl fun r1 hr13 w14 => ?_
    have e15 := e11.trans (lt_eq hr13)
    have hA15 := cok_new' 0
    (try rw [← hr13] at hA15)
    refine ef (alloc tbv50ok 0 rfl rfl rfl rfl fun b17 => ?_)
    refine ef (alloc tbv50ok 1 rfl rfl rfl rfl fun b18 => ?_)
    refine ef (storeA tbv50ok rfl rfl rfl rfl rfl rfl rfl rfl rfl rfl ?_)
    refine ef (storeA tbv50ok rfl rfl rfl rfl rfl rfl rfl rfl rfl rfl ?_)
    refine go tbv50ok 11 rfl rfl trivial ?_
    refine loop (ι := Nat × ChanR × ChanR) [1, 5, 6, 19, 20] [] (fun ⟨k, x, x1⟩ => [(21, .int .i64 (k : Int))]) (fun ⟨k, x, x1⟩ => [(0, .box b17 30 [.int .i64 x.credit, .sl TakerR.pc x.takers, .sl LentR.pc x.lent, .bool x.sure, .bool x.drafts, .int .u64 x.puts, .sl DeedR.pc x.held.l]), (1, .box b18 87 [.int .i64 x1.credit, .sl TakerR.pc x1.takers, .sl LentR.pc x1.lent, .bool x1.sure, .bool x1.drafts, .int .u64 x1.puts, .sl DeedR.pc x1.held.l])]) (fun ⟨k, x, x1⟩ => k ≤ l.length ∧ l27_ChansPlay l tick = l27_ChansPlay_l0 tick (l.drop k)  x x1 ∧ COk x k ∧ COk x1 k) (fun ⟨k, x, x1⟩ => l.length - k) ⟨0, r, r1⟩ ⟨rfl, trivial⟩ ⟨rfl, rfl, trivial⟩ ?_ ?_
    · exact ⟨Nat.zero_le _, e15, ⟨by assumption, by assumption⟩⟩
    · rintro ⟨k, x, x1⟩ ⟨hp19_1, hp19_2, hp19_3⟩
      obtain ⟨hd0, hd1⟩ := hp19_3
      refine go tbv50ok 6 rfl rfl trivial ?_
      refine cnd rfl (fun h20 => ?_) (fun h20 => ?_)
      · have p21 := dt h20
        have e22 := lstep (f := fun zz => l27_ChansPlay_l0 tick zz  x x1) hp19_2 (dropG (by omega)) (l27_ChansPlay_l0.eq_2 _ _ _ _ _)
        have hc23 := getG (xs := l) (k := k) (by omega)
        have hn_hc23 : 0 ≤ (gt l k).n ∧ (gt l k).n ≤ 18446744073709551615 := (w.1.2 (gt l k) (List.mem_of_getElem? hc23)).2.1
        have hm_hc23 := l27_mem (by assumption) (List.mem_of_getElem? hc23)
        refine go tbv50ok 6 rfl rfl trivial ?_
        refine q1 (qidx tbv50ok k rfl rfl rfl hc23 rfl rfl rfl rfl) rfl fun w24 => ?_
        refine go tbv50ok 1 rfl rfl trivial ?_
        refine ef (alloc tbv50ok 2 rfl rfl rfl rfl fun b25 => ?_)
        refine ef (storeA tbv50ok rfl rfl rfl rfl rfl rfl rfl rfl rfl rfl ?_)
        refine go tbv50ok 7 rfl rfl trivial ?_
        refine callv (l27_done x x1 (gt l k)) (fun r : ChanR × ChanR × Bool => .tup [.agg (ChanR.pc r.1), .agg (ChanR.pc r.2.1), .bool r.2.2]) (l27_done_ok _ _ _ (by first | assumption | exact cok_le (by assumption) (by omega)) (by first | assumption | exact cok_le (by assumption) (by omega)) (by omega)) rfl rfl fun r2 hr26 w27 => ?_
        have e28 := e22.trans (lt_eq hr26)
        have hA28 := (done_ok (c := x) (q := x1) (a := (gt l k)) (by assumption) (by assumption) (by omega)).1
        (try rw [← hr26] at hA28)
        have hA29 := (done_ok (c := x) (q := x1) (a := (gt l k)) (by assumption) (by assumption) (by omega)).2
        (try rw [← hr26] at hA29)
        refine go tbv50ok 4 rfl rfl trivial ?_
        refine ef (alloc tbv50ok 3 rfl rfl rfl rfl fun b31 => ?_)
        refine ef (alloc tbv50ok 4 rfl rfl rfl rfl fun b32 => ?_)
        refine ef (storeA tbv50ok rfl rfl rfl rfl rfl rfl rfl rfl rfl rfl ?_)
        refine ef (storeA tbv50ok rfl rfl rfl rfl rfl rfl rfl rfl rfl rfl ?_)
        refine go tbv50ok 12 rfl rfl trivial ?_
        refine callg rfl (fun hc => (l27_told_ok _ _ _ (by first | assumption | exact cok_le (by assumption) (by omega)) (by first | assumption | exact cok_le (by assumption) (by omega)))) rfl ⟨(fun hc => hc), (fun hc => hc), (fun hc => hc), trivial⟩ rfl rfl fun _ => ?_
        refine go tbv50ok 6 rfl rfl ⟨(fun hc => hc), rfl, rfl, trivial⟩ ?_
        refine callg rfl (fun hc => (l27_told_ok _ _ _ (by first | assumption | exact cok_le (by assumption) (by omega)) (by first | assumption | exact cok_le (by assumption) (by omega)))) rfl ⟨(fun hc => hc), (fun hc => hc), (fun hc => hc), trivial⟩ rfl rfl fun _ => ?_
        refine go tbv50ok 4 rfl rfl ⟨(fun hc => hc), rfl, rfl, trivial⟩ ?_
        refine cnd rfl (fun h33 => ?_) (fun h33 => ?_)
        · have e34 := e28.trans (condT h33)
          refine go tbv50ok 12 rfl rfl trivial ?_
          exact rt1 rfl rfl (ple_of (fun r : Bool => .bool r) e34 (ple rfl))
        · have h35 := orl h33
          have h36 := orl h35
          have h37 := not_f h36
          have h38 := orr h35
          have h39 := not_f h38
          have h40 := orr h33
          have h41 := not_f h40
          have e42 := e28.trans (condF h33)
          refine go tbv50ok 2 rfl rfl trivial ?_
          refine any [0, 1, 5, 6, 7, 8, 9, 10] 4 mixd rfl ?_
          refine gov tbv50ok [0, 1] 2 rfl (by kernel_rfl) rfl rfl trivial ?_
          refine ve 2 rfl (by kernel_rfl) rfl (storeA tbv50ok rfl rfl rfl rfl rfl rfl rfl rfl rfl rfl ?_)
          refine vt 3 rfl (by kernel_rfl) (by kernel_rfl) (storeA tbv50ok rfl rfl rfl rfl rfl rfl rfl rfl rfl rfl ?_)
          refine vdone (by kernel_rfl) ?_
          refine go tbv50ok 6 rfl rfl ⟨(by omega), trivial⟩ ?_
          refine next ⟨(k + 1), r2.1, r2.2.1⟩ rfl rfl ⟨rfl, trivial⟩ ⟨rfl, rfl, trivial⟩ ?_ ?_
          · (try simp only []); omega
          · exact ⟨by (try simp only []); omega, e42, ⟨by assumption, by assumption⟩⟩
      · have p43 := df h20
        have e44 := lstep (f := fun zz => l27_ChansPlay_l0 tick zz  x x1) hp19_2 (dropN (by omega)) (l27_ChansPlay_l0.eq_1 _ _ _)
        refine go tbv50ok 11 rfl rfl trivial ?_
        exact rt1 rfl rfl (ple_of (fun r : Bool => .bool r) e44 (ple rfl))
end Go.SW.V
namespace Go.SW
open Go.ChangeShapes Go.WideShapes Go.ChangeAt Go.RowKit
def hp (w : World) : Hp := fun b => w.heap[b]?
def rest0 (w : World) : Rest := ⟨fun _ => none, w.os, w.tape, w.output⟩
theorem mem0 (w : World) : Mem (rest0 w) (hp w) l0 w :=
  { os := rfl, tape := rfl, output := rfl, n := fun _ _ h => (by cases h), h := fun _ _ h => h, l := fun _ _ _ h => (by cases h), nh := fun _ _ h => (by cases h), nl := fun _ _ _ h => (by cases h), ll := fun _ _ _ _ _ h => (by cases h) }
theorem mem0_below {w w' : World} {L : Ls} (h : Mem (rest0 w) (hp w) L w') : Below w.heap.size w w' := by
  have hb : ∀ k, k < w.heap.size → w'.heap[k]? = w.heap[k]? := fun k hk => by
    have e : w.heap[k]? = some w.heap[k] := Array.getElem?_eq_getElem hk
    rw [e]; exact h.h k _ e
  refine ⟨h.os, h.tape, h.output, ?_, hb⟩
  by_cases z : w.heap.size = 0
  · omega
  · have := hb (w.heap.size - 1) (by omega)
    rw [Array.getElem?_eq_getElem (show w.heap.size - 1 < w.heap.size by omega)] at this
    have := (Array.getElem?_eq_some_iff.1 this).1
    omega
section
variable {Ht : Type} {enc : TypeId × Value → Ht} {P : Program} {w : World} {base fuel : Nat} {spare : Nat → Bool} {held : Bool} {cs : List Value} {x : DataW Ht × List MemPlace} {t : TypeId}
theorem rd_int {k : IntKind} (ht : P.underlying t = some (.int k)) (h : DataW.trod enc P w base spare held fuel t cs = some x) : ∃ z : Int, cs = [.int k z] ∧ k.min ≤ z ∧ z ≤ k.max := by
  obtain ⟨z, h1, _, h2⟩ := DataW.trod_int ht h
  refine ⟨z, h1, ?_⟩
  simp only [Lit.wf, Bool.and_eq_true, decide_eq_true_eq] at h2; exact h2
theorem rd_bool (ht : P.underlying t = some .bool) (h : DataW.trod enc P w base spare held fuel t cs = some x) : ∃ z : Bool, cs = [.bool z] := by
  obtain ⟨z, h1, _⟩ := DataW.trod_bool ht h
  exact ⟨z, h1⟩
theorem rd_str (ht : P.underlying t = some .string) (h : DataW.trod enc P w base spare held fuel t cs = some x) : ∃ s : Bs, cs = [str s] ∧ s.length ≤ 9223372036854775807 := by
  obtain ⟨s, h1, _, h2⟩ := DataW.trod_string ht h
  refine ⟨s.data.toList, by rw [h1, str_of], ?_⟩
  have : s.data.toList.length = s.size := Array.length_toList
  rw [this]; exact h2
theorem list_of {α : Type} {Q : Nat → α → Prop} : ∀ n, (∀ i, i < n → ∃ r, Q i r) → ∃ rs : List α, rs.length = n ∧ ∀ i (h : i < rs.length), Q i rs[i]
  | 0, _ => ⟨[], rfl, fun i h => by cases h⟩
  | n + 1, hq => by
    obtain ⟨rs, hl, hr⟩ := list_of n (fun i hi => hq i (by omega))
    obtain ⟨r, hr0⟩ := hq n (by omega)
    refine ⟨rs ++ [r], by simp [hl], fun i hi => ?_⟩
    by_cases e : i < rs.length
    · rw [List.getElem_append_left e]; exact hr i e
    · have : i = rs.length := by simp at hi; omega
      subst this
      rw [List.getElem_append_right (Nat.le_refl _)]
      simp only [Nat.sub_self, List.getElem_cons_zero]
      rw [hl]; exact hr0
/-- A struct's field. -/
theorem rd_fld {fs : Array Field} {xs : List (DataW Ht × List MemPlace)} {n i o k : Nat} {f : Field} {ft : TypeId} (hf : ∀ (i : Nat) (f : Field), fs[i]? = some f → DataW.trod enc P w base spare held n f.type ((cs.drop f.offset).take (P.cellsOf f.type)) = xs[i]?) (hl : xs.length = fs.size)
    (hi : fs[i]? = some f) (ho : f.offset = o) (ht : f.type = ft) (hk : P.cellsOf ft = k) : ∃ y, DataW.trod enc P w base spare held n ft ((cs.drop o).take k) = some y := by
  have h := hf i f hi
  have hlt : i < fs.size := (Array.getElem?_eq_some_iff.1 hi).1
  rw [ho, ht, hk, List.getElem?_eq_getElem (by omega)] at h
  exact ⟨_, h⟩
end
theorem params_ok {P : Program} {ts : Array TypeId} (h : (ts.toList.all fun t => P.readableRec t && decide (t < P.types.size)) = true) : ∀ t ∈ ts.toList, P.readableRec t = true ∧ t < P.types.size := fun t ht => by
  have := List.all_eq_true.1 h t ht
  simpa using this
theorem rd_one_int {Ht : Type} {enc : TypeId × Value → Ht} {P : Program} {w : World} {r : Reach} {b0 base : Nat} {spare : Nat → Bool} {held : Bool} {t : TypeId} {k : IntKind} {v : Value} {d : DataW Ht} {p : List MemPlace} (hs : P.underlying t = some (.int k)) (hv : Value.okWide P w r b0 t v)
    (h : DataW.Trod enc P w base spare held t v d p) : ∃ z : Int, v = .int k z ∧ k.min ≤ z ∧ z ≤ k.max := by
  obtain ⟨z, rfl, _, _, hw⟩ := open_int hs hv h
  refine ⟨z, rfl, ?_⟩
  simp only [Lit.wf, Bool.and_eq_true, decide_eq_true_eq] at hw; exact hw
/-- The cells of a datum. -/
def flatD : Nat → DataW Unit → List Value
  | _, .lit (.int k n) => [.int k n]
  | _, .lit (.string s) => [.string ⟨s.toArray⟩]
  | _, .lit (.bool b) => [.bool b]
  | n + 1, .agg l => l.flatMap (flatD n)
  | _, _ => []
/-- The settled world, with data laid in its variables. -/
def layD (d : DataW Unit) : Obj → Obj
  | .cells _ t frozen => .cells (flatD 5 d).toArray t frozen
  | o => o
noncomputable def laidW (P : Program) (os : Os) (l : List (Nat × DataW Unit)) : World :=
  let w0 := World.holding P os ⟨#[], #[], []⟩
  { w0 with heap := List.foldl (fun h x => h.modify x.1 (layD x.2)) w0.heap l }
/-- Each argument reads as it did, where below the heap's old size nothing has turned. -/
theorem trodAll_stays {Ht : Type} {enc : TypeId × Value → Ht} {P : Program} (hl : laidOutB P = true) {W W' : World} (hb : Below W.heap.size W W') {sp : Nat → Bool} : ∀ {ts : List TypeId} {vs : List Value} {ds : List (DataW Ht)} {ps : List MemPlace}, (∀ t ∈ ts, P.readableRec t = true ∧ t < P.types.size) →
    DataW.TrodAll enc P W 0 (fun _ => true) true ts vs ds ps → (∀ x ∈ ps, x.block < W.heap.size) → (∀ x ∈ ps, sp x.block = true) → DataW.TrodAll enc P W' 0 sp true ts vs ds ps := by
  intro ts
  induction ts with
  | nil => intro vs ds ps _ h _ _; cases vs <;> cases ds <;> first | exact h | exact h.elim
  | cons t ts ih =>
    intro vs ds ps hr h hlt hsp
    obtain ⟨v, vs', d, ds', p, q, rfl, rfl, rfl, h1, h2⟩ := trodAll_cons h
    exact trodAll_cons_mk (WideElems.Trod_stays hl (hr t (by simp)).1 (hr t (by simp)).2 h1 (fun x hx => hb.same (hlt x (by simp [hx]))) (fun x hx => hsp x (by simp [hx]))) (ih (fun u hu => hr u (by simp [hu])) h2 (fun x hx => hlt x (by simp [hx])) (fun x hx => hsp x (by simp [hx])))
section
variable {Ht : Type} {enc : TypeId × Value → Ht} {P : Program}
/-- A row's last step where below the heap's old size nothing has turned: it hands back true, and the arguments read as they did. -/
theorem law_post {f : Func} {s : ChangeSpec} {apart fresh again : Bool} {W W' : World} {args : Array Value} {ds : List (DataW Ht)} {before : List MemPlace} {tb : TypeId} (hvars : s.vars = [])
    (hW : DataW.Whole enc P f.params.toList s.vars apart W args.toList ds [] before) (hb : Below W.heap.size W W') (hl : laidOutB P = true) (hr : ∀ t ∈ f.params.toList, P.readableRec t = true ∧ t < P.types.size)
    (hres : f.resultTypes = #[tb]) (hu : P.underlying tb = some .bool) (hfn : s.fn Ht (ds ++ []) = { results := [.lit (.bool true)], args := ds }) : s.post enc P f apart fresh false again W args (.bool true) W' := by
  have hlt : ∀ p ∈ before, p.block < W.heap.size := fun p hp => hW.lt p hp
  have hold : ∀ p ∈ before, (fun b => decide (b < W.heap.size)) p.block = true := fun p hp => by simpa using hlt p hp
  have hW0 := hW
  obtain ⟨p, q, hA, hV, rfl, hz, hn⟩ := hW0
  have hq : q = [] := by
    rw [hvars] at hV
    exact (trodVars_none hV).2
  subst hq
  rw [List.append_nil] at hlt hold hz hn hW
  have hA0 : DataW.TrodAll enc P W 0 (fun _ => true) true f.params.toList args.toList ds p := hA
  have hargs : ∀ sp : Nat → Bool, (∀ x ∈ p, sp x.block = true) → DataW.TrodAll enc P W' 0 sp true f.params.toList args.toList ds p := fun sp hs => trodAll_stays hl hb hr hA0 hlt hs
  have hvs : ∀ sp : Nat → Bool, DataW.TrodVars enc P W' sp s.vars ([] : List (DataW Ht)) [] := fun sp => by rw [hvars]; rfl
  have hR : ∀ (b : Nat) (sp : Nat → Bool) (hd : Bool), DataW.TrodAll enc P W' b sp hd f.resultTypes.toList ((Value.bool true).resultList f.resultTypes.size) [.lit (.bool true)] [] := fun b sp hd => by
    rw [hres]
    exact trodAll_mk1 (shut_bool hu true)
  have hok : ∀ (j : Nat) (t : TypeId) (r : Value), f.resultTypes[j]? = some t → ((Value.bool true).resultList f.resultTypes.size)[j]? = some r → Value.okWide P W' .any 0 t r := ok_one hres rfl (okWide_bool_mk hu true)
  refine ⟨ds, [], p, [], p, [], hW, ?_, ?_, ?_, World.keptBut_mono (fun x hx => ⟨hx, Or.inr (by simpa using hx)⟩) (hb.frame (· ∈ p)), fun _ => ?_⟩
  · rw [hfn]; exact hR _ _ _
  · rw [hfn]; exact hargs _ hold
  · rw [hfn]; exact hvs _
  · refine ⟨hok, _, _, ([] ++ p) ++ [], ⟨[] ++ p, [], trodAll_append (hargs _ (fun _ _ => rfl)) (hR _ _ _), hvs _, rfl, ?_, ?_⟩, ?_⟩
    · intro b off hp
      have hin : MemPlace.cell b off ∈ p := by simpa using hp
      rw [hb.frozen (hlt _ hin)]
      exact hz b off hin
    · intro ha
      have := hn ha
      simpa using this
    · intro x hx _
      simpa using hx
/-- A variable of type int holds an int. -/
theorem gint_of_shape {w : World} {g : Nat} {t : TypeId} {zero : Array Value} (h : w.ShapedOpen P) (hg : g < P.globals.size)
    (h0 : ((begin P (fun _ _ => 0) default).world.heap[g]?).bind Obj.row? = some (zero, t)) (hz : zero.size = 1)
    (hb : P.buildable t = true) (hc : P.cellTypes P.depth t = some [t]) (hu : P.underlying t = some (.int .i64)) : GInt (hp w) g := by
  obtain ⟨cs, hh, hs, hr⟩ := h.1 g zero t hg h0
  obtain ⟨ts, hts, _, hall⟩ := hr hb
  rw [hc] at hts
  cases hts
  have h1 : 0 < cs.size := by omega
  obtain ⟨u, hu', hok⟩ := hall 0 cs[0] (by simp [h1])
  have : u = t := by simpa using hu'.symm
  subst this
  unfold Cell.ok at hok
  rw [hu] at hok
  have hv : ∃ m, cs[0] = .int .i64 m := by
    cases hv : cs[0] <;> rw [hv] at hok <;> first | exact ⟨_, by rw [hok.1]⟩ | simp at hok
  obtain ⟨m, hm⟩ := hv
  refine ⟨m, u, (0, 0), ?_⟩
  show w.heap[g]? = _
  rw [hh]
  have e : cs = #[.int .i64 m] := by
    apply Array.ext
    · simp; omega
    · intro i hi1 hi2
      have : i = 0 := by simp at hi2; omega
      subst this
      simpa using hm
  rw [e]
end
end Go.SW
namespace Go.SW
open Go.ChangeShapes Go.WideShapes Go.ChangeAt Go.RowKit
variable {P : Program}
theorem dat_slice {Ht : Type} {enc : TypeId × Value → Ht} {w : World} {base fuel : Nat} {spare : Nat → Bool} {held : Bool} {a : Option Addr} {l c : Nat} {x : DataW Ht × List MemPlace} {t e : TypeId} (ht : P.underlying t = some (.slice e))
    (h : DataW.trod enc P w base spare held fuel t [.slice a l c] = some x) : x.1 = .nil ∧ l = 0 ∨ ∃ el sp, x.1 = .slice el sp ∧ el.length = l := by
  rcases Go.Deep.open_slice ht h with ⟨h1, h2⟩ | ⟨a', len, cap, m, nf, D, Pl, h1, _, hl, hm, hmm, hx, _⟩
  · cases h1; subst h2; exact .inl ⟨rfl, rfl⟩
  · cases h1; subst hx; exact .inr ⟨_, _, rfl, by simp⟩
theorem rd_one_slice {w : World} {r : Reach} {b0 : Nat} {t e : TypeId} {v : Value} {a : Option Addr} {l c : Nat} (hs : P.underlying t = some (.slice e)) (hv : Value.okWide P w r b0 t v) (he : v.cells.toList = [.slice a l c]) : v = .slice a l c := by
  unfold Value.okWide at hv
  rw [hs] at hv
  simp only at hv
  unfold Cell.okWide at hv
  rw [hs] at hv
  cases v with
  | agg cs => simp [Cell.ok, hs] at hv
  | _ => exact (List.cons.inj he).1
end Go.SW
namespace Go.SW
open Go.ChangeShapes Go.WideShapes Go.ChangeAt Go.RowKit
variable {P : Program}
/-- What is read at a type stands for something. -/
def Rdv {α : Type} (P : Program) (t : TypeId) (en : α → List PV) (k : Nat) : Prop :=
  ∀ (Ht : Type) (enc : TypeId × Value → Ht) (w : World) (base : Nat) (spare : Nat → Bool) (held : Bool) (fuel : Nat) (cs : List Value) (x : DataW Ht × List MemPlace),
    DataW.trod enc P w base spare held fuel t cs = some x → (∀ n ∈ x.1.weights P t, n ≤ reachBytes) → ∃ r : α, RowE en k (hp w) r cs
theorem rowE1 {α : Type} {en : α → List PV} {H : Hp} {r : α} {p : PV} {v : Value} (he : en r = [p]) (h : Sim H p v) (ho : v.oneCell' = true) : RowE en 1 H r [v] :=
  ⟨by rw [he]; rfl, by rw [he]; exact Sims.nil.cons h, fun u hu => by rw [List.mem_singleton.1 hu]; exact ho⟩
theorem rdv_int {k : IntKind} {t : TypeId} (ht : P.underlying t = some (.int k)) : Rdv P t (fun z : Int => [.int k z]) 1 := fun _ _ _ _ _ _ _ _ _ h _ => by
  obtain ⟨z, rfl, h1, h2⟩ := rd_int ht h
  exact ⟨z, rowE1 rfl (.int h1 h2) rfl⟩
theorem rdv_bool {t : TypeId} (ht : P.underlying t = some .bool) : Rdv P t (fun z : Bool => [.bool z]) 1 := fun _ _ _ _ _ _ _ _ _ h _ => by
  obtain ⟨z, rfl⟩ := rd_bool ht h
  exact ⟨z, rowE1 rfl .bool rfl⟩
theorem rdv_str {t : TypeId} (ht : P.underlying t = some .string) : Rdv P t (fun s : Bs => [.str s]) 1 := fun _ _ _ _ _ _ _ _ _ h _ => by
  obtain ⟨s, rfl, h1⟩ := rd_str ht h
  exact ⟨s, rowE1 rfl (.str h1) rfl⟩
theorem weightsAll_mem {H : Type} {e : TypeId} : ∀ {ds : List (DataW H)} {d : DataW H} {n : Nat}, d ∈ ds → n ∈ d.weights P e → n ∈ DataW.weightsAll P e ds
  | [], _, _, h, _ => by cases h
  | d0 :: r, d, n, h, hn => by
    simp only [DataW.weightsAll, List.mem_append]
    rcases List.mem_cons.1 h with rfl | q
    · exact .inl hn
    · exact .inr (weightsAll_mem q hn)
theorem rdv_slice {α : Type} {en : α → List PV} {k : Nat} {t e : TypeId} (ht : P.underlying t = some (.slice e)) (hk : P.cellsOf e = k) (h0 : 0 < k) (hb : 0 < P.bytesOf e) (he : Rdv P e en k) : Rdv P t (fun xs : List α => [.sl en xs]) 1 := fun Ht enc w base spare held fuel cs x h hw => by
  have hlen : ∀ {a : Option Addr} {l c : Nat}, cs = [.slice a l c] → l ≤ 140737488355328 := fun {a l c} hcs => by
    subst hcs
    rcases dat_slice ht h with ⟨_, rfl⟩ | ⟨el, sp, hx, rfl⟩
    · exact Nat.zero_le _
    · have := hw ((el.length + sp.length) * P.bytesOf e) (by rw [hx]; simp [DataW.weights, ht])
      have h1 : el.length ≤ (el.length + sp.length) * P.bytesOf e := Nat.le_trans (Nat.le_add_right _ _) (Nat.le_mul_of_pos_right _ hb)
      have h2 : reachBytes = 140737488351232 := by decide
      omega
  rcases Go.Deep.open_slice ht h with ⟨h1, _⟩ | ⟨a, len, cap, m, nf, D, Pl, h1, _, hl, hm, hmm, hx, hi⟩
  · subst h1
    exact ⟨[], rowE1 rfl (Sim.of_slh (k := 0) slh_nil (by simp)) rfl⟩
  · have hs0 : 0 < len → a = ⟨a.block, a.off, none⟩ := by
      intro hl0
      obtain ⟨cs', hc, hT⟩ := hi 0 (by rw [hmm]; split <;> omega)
      rw [hk, Nat.zero_mul] at hc
      obtain ⟨_, hcl, hat⟩ := World.cells?_some hc
      have ha0 := hat 0 h0
      rw [List.getElem?_eq_getElem (by omega)] at ha0
      obtain ⟨ab, ao, asp⟩ := a
      cases asp with
      | none => rfl
      | some z =>
        exfalso
        unfold World.cell? at ha0
        simp only [Addr.add] at ha0
        split at ha0 <;> simp at ha0
    have hwD : ∀ i, i < len → ∀ n ∈ (D i).weights P e, n ≤ reachBytes := fun i hil n hn => by
      refine hw n ?_
      rw [hx]
      simp only [DataW.weights, ht, List.mem_cons, List.mem_append]
      exact .inr (.inl (weightsAll_mem (List.mem_map.2 ⟨i, List.mem_range.2 hil, rfl⟩) hn))
    have key : ∀ i, i < len → ∃ r : α, ∃ cs', RowE en k (hp w) r cs' ∧ SlAt (hp w) (.slice (some a) len cap) k i cs' := by
      intro i hil
      have ha := hs0 (by omega)
      obtain ⟨cs', hc, hT⟩ := hi i (by rw [hmm]; split <;> omega)
      obtain ⟨r, hr⟩ := he _ _ _ _ _ _ _ _ _ hT (hwD i hil)
      rw [hk] at hc
      obtain ⟨_, hcl, hat⟩ := World.cells?_some hc
      refine ⟨r, cs', hr, ?_⟩
      generalize a.block = ab at ha
      generalize a.off = ao at ha
      subst ha
      simp only [add_none] at hat
      have ha0 := hat 0 h0
      rw [List.getElem?_eq_getElem (by omega)] at ha0
      unfold World.cell? at ha0
      simp only at ha0
      split at ha0
      · rename_i c T fr hb
        refine ⟨ab, ao, len, cap, c, T, fr, rfl, hb, hcl, fun j hj => ?_⟩
        have := hat j hj
        unfold World.cell? at this
        simp only at this
        rw [hb] at this
        simpa using this
      · cases ha0
    obtain ⟨rs, hlen', hr⟩ := list_of (Q := fun i (r : α) => ∃ cs', RowE en k (hp w) r cs' ∧ SlAt (hp w) (.slice (some a) len cap) k i cs') len key
    have hs : SlH (RowE en k) k (hp w) (.slice (some a) rs.length cap) rs := ⟨⟨some a, cap, rfl, by omega⟩, fun i hi => by rw [hlen']; exact hr i hi⟩
    subst h1
    have hle := hlen (rfl : [Value.slice (some a) len cap] = _)
    refine ⟨rs, rowE1 rfl (v := .slice (some a) len cap) (by rw [← hlen']; exact Sim.of_slh hs (by omega)) rfl⟩
/-- The fields of a struct, one after the other. -/
theorem rows_app {ps qs : List PV} {H : Hp} {cs ds : List Value} {m n : Nat} (h : ps.length = m ∧ Sims H ps cs ∧ ∀ u ∈ cs, u.oneCell' = true) (k : qs.length = n ∧ Sims H qs ds ∧ ∀ u ∈ ds, u.oneCell' = true) : (ps ++ qs).length = m + n ∧ Sims H (ps ++ qs) (cs ++ ds) ∧ ∀ u ∈ cs ++ ds, u.oneCell' = true :=
  ⟨by simp [h.1, k.1], h.2.1.append k.2.1, fun u hu => by rcases List.mem_append.1 hu with q | q; exact h.2.2 u q; exact k.2.2 u q⟩
theorem rdv_fld {Ht : Type} {enc : TypeId × Value → Ht} {w : World} {base : Nat} {spare : Nat → Bool} {held : Bool} {cs : List Value} {t : TypeId} {fs : Array Field} {xs : List (DataW Ht × List MemPlace)} {n i o k : Nat} {f : Field} {ft : TypeId} {α : Type} {en : α → List PV} (ht : P.underlying t = some (.struct fs))
    (hf : ∀ (i : Nat) (f : Field), fs[i]? = some f → DataW.trod enc P w base spare held n f.type ((cs.drop f.offset).take (P.cellsOf f.type)) = xs[i]?) (hl : xs.length = fs.size) (hw : ∀ q ∈ (DataW.agg (xs.map (·.1)) : DataW Ht).weights P t, q ≤ reachBytes)
    (hi : fs[i]? = some f) (ho : f.offset = o) (hft : f.type = ft) (hk : P.cellsOf ft = k) (hr : Rdv P ft en k) : ∃ r, RowE en k (hp w) r ((cs.drop o).take k) := by
  obtain ⟨y, hy⟩ := rd_fld hf hl hi ho hft hk
  refine hr _ _ _ _ _ _ _ _ _ hy fun q hq => hw q ?_
  have h := hf i f hi
  rw [ho, hft, hk, hy] at h
  simp only [DataW.weights, ht]
  refine DataW.weights_mem_each (j := i) (t := ft) (d := y.1) ?_ ?_ q hq
  · rw [List.getElem?_map, Array.getElem?_toList, hi]; simp [hft]
  · rw [List.getElem?_map, ← h]; rfl
theorem row_cut {en : List PV} {H : Hp} {cs : List Value} {o k : Nat} {q : Nat} (h : en.length = k ∧ Sims H en ((cs.drop o).take k) ∧ ∀ u ∈ (cs.drop o).take k, u.oneCell' = true) {es : List PV} (hr : es.length = q ∧ Sims H es (cs.drop (o + k)) ∧ ∀ u ∈ cs.drop (o + k), u.oneCell' = true) : (en ++ es).length = k + q ∧ Sims H (en ++ es) (cs.drop o) ∧ ∀ u ∈ cs.drop o, u.oneCell' = true := by
  have := rows_app h hr
  rw [← List.drop_drop, List.take_append_drop] at this
  exact this
theorem row_last {en : List PV} {H : Hp} {cs : List Value} {o k : Nat} (hl : cs.length = o + k) (h : en.length = k ∧ Sims H en ((cs.drop o).take k) ∧ ∀ u ∈ (cs.drop o).take k, u.oneCell' = true) : en.length = k ∧ Sims H en (cs.drop o) ∧ ∀ u ∈ cs.drop o, u.oneCell' = true := by
  rw [List.take_of_length_le (by simp; omega)] at h
  exact h
/-! Arguments -/
section
variable {Ht : Type} {enc : TypeId × Value → Ht} {w : World} {r : Reach} {b0 base : Nat} {spare : Nat → Bool} {held : Bool} {t : TypeId} {v : Value} {d : DataW Ht} {p : List MemPlace}
theorem arg_int {k : IntKind} (hs : P.underlying t = some (.int k)) (hv : Value.okWide P w r b0 t v) (h : DataW.Trod enc P w base spare held t v d p) : ∃ z : Int, Sim (hp w) (.int k z) v := by
  obtain ⟨z, rfl, h1, h2⟩ := rd_one_int hs hv h
  exact ⟨z, .int h1 h2⟩
theorem arg_sl {α : Type} {en : α → List PV} {e : TypeId} (hs : P.underlying t = some (.slice e)) (hv : Value.okWide P w r b0 t v) (h : DataW.Trod enc P w base spare held t v d p) (hw : ∀ q ∈ d.weights P t, q ≤ reachBytes) (hr : Rdv P t (fun xs : List α => [.sl en xs]) 1) : ∃ z : List α, Sim (hp w) (.sl en z) v := by
  obtain ⟨fuel, h1⟩ := h
  obtain ⟨z, h2⟩ := hr _ _ _ _ _ _ _ _ _ h1 hw
  obtain ⟨u, us, e1, h3, h4⟩ := h2.2.1.inv_cons
  cases h4.inv_nil
  have : ∃ a l c, u = .slice a l c := by cases h3; exact ⟨_, _, _, rfl⟩
  obtain ⟨a, l, c, rfl⟩ := this
  obtain rfl := rd_one_slice hs hv e1
  exact ⟨z, h3⟩
theorem wt_arg {ts : List TypeId} {ds : List (DataW Ht)} {j : Nat} (hw : (DataW.weightsEach P ts ds).all (· ≤ reachBytes) = true) (ht : ts[j]? = some t) (hd : ds[j]? = some d) : ∀ q ∈ d.weights P t, q ≤ reachBytes := fun q hq => by
  have := List.all_eq_true.1 hw q (DataW.weights_mem_each ht hd q hq)
  simpa using this
end
/-- A law's call, closed. -/
theorem law_run {G : Gb} {f : FuncId} {args : List PV} {b : Bool} {vs : List Value} {W : World} (h : Fn P G f args (.bool b)) (hg : G.p (hp W)) (hs : Sims (hp W) args vs) (hb : b = true) : Calls P f vs.toArray W fun e W' => e = .returned (.bool true) ∧ Mem (rest0 W) (hp W) l0 W' :=
  (h.run (rest0 W) (hp W) l0 W vs hg hs (mem0 W)).mono fun _ _ ⟨v, H', h1, h2, h3, h4⟩ => ⟨by rw [h1, h2.inv_bool, hb], h4.le h3⟩
end Go.SW
namespace Go.SW.V
open Go.SW
theorem at_light0 (t : Int) : ∀ (l out : List DeedR), (∀ d ∈ l, lightD d = true) → (∀ d ∈ out, lightD d = true) → ∀ d ∈ r26_At_l0 t l out, lightD d = true
  | [], out, _, h => h
  | x :: l, out, hl, h => by
    simp only [r26_At_l0, Bool.cond_eq_ite]
    have hx := hl x List.mem_cons_self
    have hl' := fun d (hd : d ∈ l) => hl d (List.mem_cons_of_mem _ hd)
    split
    · refine at_light0 t l _ hl' fun d hd => ?_
      rcases List.mem_append.1 hd with q | q
      · exact h d q
      · rw [List.mem_singleton.1 q]; exact hx
    · refine at_light0 t l _ hl' fun d hd => ?_
      rcases List.mem_append.1 hd with q | q
      · exact h d q
      · rw [List.mem_singleton.1 q]; exact hx
theorem all_light0 : ∀ (l out : List DeedR), (∀ d ∈ l, lightD d = true) → l22_All_l0 l out = (out ++ l, true)
  | [], out, _ => by simp [l22_All_l0]
  | x :: l, out, h => by
    simp only [l22_All_l0, h x List.mem_cons_self, Bool.not_true, cond_false]
    rw [all_light0 l _ fun d hd => h d (List.mem_cons_of_mem _ hd)]
    simp
theorem all_light {l : List DeedR} (h : ∀ d ∈ l, lightD d = true) : l22_All l = (l, true) := by
  have := all_light0 l [] h
  simpa [l22_All] using this
theorem at_light {x : List DeedR} (t : Int) (h : ∀ d ∈ x, lightD d = true) : l22_All (r26_At x t) = (r26_At x t, true) := all_light (at_light0 t x [] h (by simp))
theorem same_all0 : ∀ (k : Nat) (a b : List DeedR), a.length + k = b.length → r22_SameAll_l0 b a k = decide (a = b.drop k)
  | k, [], b, h => by
    have : b.drop k = [] := List.drop_of_length_le (by simp at h; omega)
    simp [r22_SameAll_l0, this]
  | k, x :: a, b, h => by
    simp only [List.length_cons] at h
    simp only [r22_SameAll_l0]
    rw [dropG (xs := b) (k := k) (by omega), same_all0 (k + 1) a b (by omega)]
    by_cases e : x = gt b k <;> simp [e]
theorem same_all (a b : List DeedR) : r22_SameAll a b = decide (a = b) := by
  unfold r22_SameAll
  by_cases e : (a.length : Int) = b.length
  · simp only [e, decide_true, Bool.not_true, cond_false]
    rw [same_all0 0 a b (by omega)]; simp
  · simp only [e, decide_false, Bool.not_false, cond_true]
    have : a ≠ b := fun q => e (by rw [q])
    simp [this]
theorem radd_light0 (x : List DeedR) (hx : ∀ d ∈ x, lightD d = true) : ∀ (l out : List DeedR), (∀ d ∈ l, lightD d = true) → (∀ d ∈ out, lightD d = true) → ∀ d ∈ (r26_Add_l0 x l out).1, lightD d = true
  | [], out, _, h => h
  | y :: l, out, hl, h => by
    have hy := hl y List.mem_cons_self
    have hl' := fun d (hd : d ∈ l) => hl d (List.mem_cons_of_mem _ hd)
    simp only [r26_Add_l0, Bool.cond_eq_ite]
    repeat' split
    all_goals first
      | exact hx
      | (refine radd_light0 x hx l _ hl' fun d hd => ?_
         rcases List.mem_append.1 hd with q | q
         · exact h d q
         · rw [List.mem_singleton.1 q]; exact hy)
theorem radd_light {x l : List DeedR} (hx : ∀ d ∈ x, lightD d = true) (hl : ∀ d ∈ l, lightD d = true) : ∀ d ∈ (r26_Add x l).1, lightD d = true := radd_light0 x hx l x hl hx
/-! In parts, or at once -/
/-! As many as0 there is room for -/
def putD (m : Mail) : DeedR := ⟨6, 0, ⟨[], 0, []⟩, ⟨[], 0, 0, []⟩, ⟨[], [], false, [], [], false⟩, [], 0, 0, 0, 0, 0, m, []⟩
end Go.SW.V
