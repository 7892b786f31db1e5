/-
  A part of the proof of DraftFull: The walks of this seat, printed by program: route.Book.Bind, route.Book.Leads. The walks of this seat, printed by program: draft.Draft.Add, draft.Draft.At, stairwellref26.Add, stairwellref26.At, stairwelllaw22.All, stairwelllaw23.Light, stairwellref22.SameAll, chans.Chan.Take, chans.Chan.Leave, chans.Chan.Takers, chans.Chan.Lend, chans.Chan.Unsettled, chans.Chan.Settles, chans.Chan.Gone, stairwellref27.Take, stairwellref27.Leave, stairwellref27.Lend, stairwellref27.Open. The walks of this seat, printed by program: chans.Chan.Hold, chans.Chan.Held, stairwellref27.Settles, stairwellref27.Gone, stairwellref27.Hold, stairwellref27.Held. The walks of this seat, printed by program: stairwelllaw14.awake, stairwelllaw14.Awake, stairwelllaw22.awake, stairwelllaw22.Awake, stairwelllaw26.awake, stairwelllaw26.Awake, stairwelllaw27.awake. The walks of this seat, printed by program: stairwelllaw26.DraftPlays, stairwelllaw26.DraftParts, stairwelllaw26.DraftFull. From the data that a row's arguments read as to the ground of the walks, and back: a world seen as one that is read alone; integers, texts, bools, structs, slices opened; the row's last step. Over any program; no condition. How long a slice that was handed over can be. Over any program; no condition. From the data that a row's arguments read as0 to what values stand for. Over any program; each asks what it lists. Drafts: the code's answers are the document's. Plain laws; each asks what it lists. Drafts: the code's answers are the document's; the laws of chapter 26. Plain laws; each asks what it lists.
-/
import Derived.Test.YtdkpbleeehmhjaaGreatDoorProg
import Derived.Test.YtdkpbleeehmhjaaGreatDoorDraftFullP3
import Derived.KernelRfl
import Derived.Test.YtdkpbleeehmhjaaGreatDoorDraftFullP4
import Derived.Test.YtdkpbleeehmhjaaGreatDoorDraftFullP1
import Derived.ProofKit
import Derived.OpenShut
import Derived.Deep.Slices
import Derived.Carry
import Derived.Lib.LaidTab
import Derived.SizedLaws
set_option linter.unusedVariables false
set_option linter.unusedSimpArgs false
set_option linter.unusedVariables false
set_option maxRecDepth 100000
set_option maxHeartbeats 4000000
namespace Go.SW.V
open Go.SW Go.Proofs
theorem cb134 : Callable Tryz.prog 134 := callable_of Tryz.func134 (by kernel_rfl) (by kernel_rfl)
theorem cb135 : Callable Tryz.prog 135 := callable_of Tryz.func135 (by kernel_rfl) (by kernel_rfl)
def tbv46 : Tb := [(4, ⟨.bool, 1, 1, [.bool false]⟩),
  (5, ⟨.int .u8, 1, 1, [.int .u8 0]⟩),
  (9, ⟨.str, 1, 16, [.str []]⟩),
  (44, ⟨.agg [(0, 1), (1, 1), (2, 1)], 3, 40, [.str [], .int .u8 0, .str []]⟩),
  (49, ⟨.agg [(0, 1), (1, 1), (2, 1), (3, 1), (4, 1), (5, 1)], 6, 88, [.str [], .str [], .bool false, .str [], .sl Pair.pc [], .bool false]⟩),
  (146, ⟨.slc 9, 1, 24, [.sl strc []]⟩),
  (189, ⟨.slc 49, 1, 24, [.sl BindR.pc []]⟩),
  (191, ⟨.agg [(0, 1), (1, 1)], 2, 48, [.sl ShopR.pc [], .sl BindR.pc []]⟩),
  (221, ⟨.slc 189, 1, 24, [.sl (slc BindR.pc) []]⟩)]
theorem tbv46ok : tbB Tryz.prog tbv46 = true := by kernel_rfl
theorem route_Book_Bind_ok (b : BookR) (x : BindR) (hb : b.binds.length ≤ 1000) (hw : x.want.length ≤ 1000) : Fn Tryz.prog gb 134 [.agg (BookR.pc b), .agg (BindR.pc x)] (.tup [.agg (BookR.pc ((route_Book_Bind b x).1)), .int .i64 ((route_Book_Bind b x).2)]) := by
  refine fn_cw tbv46ok Tryz.func134 rfl Tryz.ntmps134 rfl cb134 rfl rfl fun w N H hG => ?_
  have b_shops_l : b.shops.length ≤ 140737488355328 := w.1.1.1
  have b_binds_l : b.binds.length ≤ 140737488355328 := w.1.2.1.1
  have x_want_l : x.want.length ≤ 140737488355328 := w.2.1.2.2.2.2.1.1
  have e0 := route_Book_Bind.eq_1 b x
  refine go tbv46ok 2 rfl rfl trivial ?_
  refine ef (boxA 0 rfl rfl rfl fun b1 => ?_)
  refine ef (boxA 1 rfl rfl rfl fun b2 => ?_)
  refine ef (alloc tbv46ok 2 rfl rfl rfl rfl fun b3 => ?_)
  refine go tbv46ok 8 rfl rfl trivial ?_
  refine call (book_Shop _ _) rfl rfl fun w4 => ?_
  refine go tbv46ok 3 rfl rfl trivial ?_
  refine ef (alloc tbv46ok 3 rfl rfl rfl rfl fun b5 => ?_)
  refine ef (storeA tbv46ok rfl rfl rfl rfl rfl rfl rfl rfl rfl rfl ?_)
  refine go tbv46ok 12 rfl rfl trivial ?_
  refine cnd rfl (fun h6 => ?_) (fun h6 => ?_)
  · have h7 := not_t h6
    have e8 := e0.trans (condT h6)
    refine go tbv46ok 3 rfl rfl trivial ?_
    refine ef (storeA tbv46ok rfl rfl rfl rfl rfl rfl rfl rfl rfl rfl ?_)
    refine go tbv46ok 6 rfl rfl trivial ?_
    exact rt2 rfl rfl (ple_of (fun r : BookR × Int => .tup [.agg (BookR.pc r.1), .int .i64 r.2]) e8 (ple rfl))
  · have h9 := not_f h6
    have e10 := e0.trans (condF h6)
    refine go tbv46ok 8 rfl rfl trivial ?_
    refine cnd rfl (fun h11 => ?_) (fun h11 => ?_)
    · have p12 := dt h11
      have e13 := e10.trans (condT h11)
      refine go tbv46ok 3 rfl rfl trivial ?_
      refine ef (storeA tbv46ok rfl rfl rfl rfl rfl rfl rfl rfl rfl rfl ?_)
      refine go tbv46ok 6 rfl rfl trivial ?_
      exact rt2 rfl rfl (ple_of (fun r : BookR × Int => .tup [.agg (BookR.pc r.1), .int .i64 r.2]) e13 (ple rfl))
    · have p14 := df h11
      have e15 := e10.trans (condF h11)
      refine go tbv46ok 8 rfl rfl trivial ?_
      refine call (words_Name _) rfl rfl fun w16 => ?_
      refine go tbv46ok 9 rfl rfl trivial ?_
      refine cnd rfl (fun h17 => ?_) (fun h17 => ?_)
      · have h18 := not_t h17
        have p19 := df h18
        have e20 := e15.trans (condT h17)
        refine go tbv46ok 4 rfl rfl trivial ?_
        refine ef (storeA tbv46ok rfl rfl rfl rfl rfl rfl rfl rfl rfl rfl ?_)
        refine go tbv46ok 5 rfl rfl trivial ?_
        exact rt2 rfl rfl (ple_of (fun r : BookR × Int => .tup [.agg (BookR.pc r.1), .int .i64 r.2]) e20 (ple rfl))
      · have h21 := not_f h17
        have p22 := dt h21
        have e23 := e15.trans (condF h17)
        refine go tbv46ok 8 rfl rfl trivial ?_
        refine call (bind_rule _ _) rfl rfl fun w24 => ?_
        refine call (rule_Check _) rfl rfl fun w25 => ?_
        refine go tbv46ok 11 rfl rfl trivial ?_
        refine cnd rfl (fun h26 => ?_) (fun h26 => ?_)
        · have h27 := not_t h26
          have p28 := df h27
          have e29 := e23.trans (condT h26)
          refine go tbv46ok 4 rfl rfl trivial ?_
          refine ef (storeA tbv46ok rfl rfl rfl rfl rfl rfl rfl rfl rfl rfl ?_)
          refine go tbv46ok 6 rfl rfl trivial ?_
          exact rt2 rfl rfl (ple_of (fun r : BookR × Int => .tup [.agg (BookR.pc r.1), .int .i64 r.2]) e29 (ple rfl))
        · have h30 := not_f h26
          have p31 := dt h30
          have e32 := e23.trans (condF h26)
          refine go tbv46ok 4 rfl rfl trivial ?_
          refine callv (route_Book_there b x) (fun r : Int => .int .i64 r) (route_Book_there_ok _ _) rfl rfl fun r hr33 w34 => ?_
          have e35 := e32.trans (lt_eq hr33)
          have hA35 := there_r b x
          (try rw [← hr33] at hA35)
          refine go tbv46ok 4 rfl rfl trivial ?_
          refine cnd rfl (fun h37 => ?_) (fun h37 => ?_)
          · have p38 := dt h37
            have e39 := e35.trans (condT h37)
            refine go tbv46ok 3 rfl rfl trivial ?_
            refine ef (storeA tbv46ok rfl rfl rfl rfl rfl rfl rfl rfl rfl rfl ?_)
            refine go tbv46ok 6 rfl rfl trivial ?_
            exact rt2 rfl rfl (ple_of (fun r : BookR × Int => .tup [.agg (BookR.pc r.1), .int .i64 r.2]) e39 (ple rfl))
          · have p40 := df h37
            have e41 := e35.trans (condF h37)
            refine go tbv46ok 9 rfl rfl trivial ?_
            refine cnd rfl (fun h42 => ?_) (fun h42 => ?_)
            · have p43 := dt h42
              have e44 := e41.trans (condT h42)
              refine go tbv46ok 3 rfl rfl trivial ?_
              refine ef (storeA tbv46ok rfl rfl rfl rfl rfl rfl rfl rfl rfl rfl ?_)
              refine go tbv46ok 6 rfl rfl trivial ?_
              exact rt2 rfl rfl (ple_of (fun r : BookR × Int => .tup [.agg (BookR.pc r.1), .int .i64 r.2]) e44 (ple rfl))
            · have p45 := df h42
              have e46 := e41.trans (condF h42)
              refine go tbv46ok 4 rfl rfl trivial ?_
              refine any [4, 5, 6, 7, 8, 9] 9 mixd rfl ?_
              refine gov tbv46ok [0, 1, 2] 6 rfl (by kernel_rfl) rfl rfl trivial ?_
              refine ve 3 rfl (by kernel_rfl) rfl (ecall (bind_clone _ (by first | omega | (simp; done) | decide)) rfl rfl fun w47 => ?_)
              refine ve 4 rfl (by kernel_rfl) rfl (bsl 4 BindR.pc [x] tbv46ok rfl rfl rfl rfl rfl (fun _ => rfl) rfl (by decide) (by decide) rfl fun u48 => ?_)
              refine ve 5 rfl (by kernel_rfl) rfl (egive 4 rfl (bsl 4 (slc BindR.pc) [b.binds, [x]] tbv46ok rfl rfl rfl rfl rfl (fun _ => rfl) rfl (by decide) (by decide) rfl fun u49 => ?_))
              refine ve 6 rfl (by kernel_rfl) rfl (egive 4 rfl (eweak (ecall (concat_Bind _ (by first | omega | (simp; done) | (simp; omega) | (simp only [List.flatten_cons, List.flatten_nil, List.length_append, List.append_nil]; simp; omega))) rfl rfl fun w50 => ?_)))
              refine gov tbv46ok [7] 1 rfl (by kernel_rfl) rfl rfl trivial ?_
              refine vt 8 rfl (by kernel_rfl) (by kernel_rfl) (store1 tbv46ok rfl rfl rfl rfl rfl rfl rfl rfl rfl ?_)
              refine vdone (by kernel_rfl) ?_
              refine go tbv46ok 4 rfl rfl trivial ?_
              refine ef (storeA tbv46ok rfl rfl rfl rfl rfl rfl rfl rfl rfl rfl ?_)
              refine go tbv46ok 4 rfl rfl trivial ?_
              exact rt2 rfl rfl (ple_of (fun r : BookR × Int => .tup [.agg (BookR.pc r.1), .int .i64 r.2]) e46 (ple rfl))
theorem route_Book_Leads_ok (b : BookR) (shop : Bs) (key : Bs) (h : List Pair) (hb : b.binds.length ≤ 1000) (hk : key.length < 4294967281) (hr : ∀ y ∈ b.binds, y.key.length < 4294967281) : Fn Tryz.prog gb 135 [.agg (BookR.pc b), .str shop, .str key, .sl Pair.pc h] (.tup [.sl strc ((route_Book_Leads b shop key h).1), .sl strc ((route_Book_Leads b shop key h).2.1), .int .i64 ((route_Book_Leads b shop key h).2.2)]) := by
  refine fn_cw tbv46ok Tryz.func135 rfl Tryz.ntmps135 rfl cb135 rfl rfl fun w N H hG => ?_
  have b_shops_l : b.shops.length ≤ 140737488355328 := w.1.1.1
  have b_binds_l : b.binds.length ≤ 140737488355328 := w.1.2.1.1
  have shop_l : shop.length ≤ 9223372036854775807 := w.2.1
  have key_l : key.length ≤ 9223372036854775807 := w.2.2.1
  have h_l : h.length ≤ 140737488355328 := w.2.2.2.1.1
  have e0 := route_Book_Leads.eq_1 b shop key h
  refine go tbv46ok 2 rfl rfl trivial ?_
  refine ef (boxA 0 rfl rfl rfl fun b1 => ?_)
  refine go tbv46ok 10 rfl rfl trivial ?_
  refine call (book_Shop _ _) rfl rfl fun w2 => ?_
  refine go tbv46ok 3 rfl rfl trivial ?_
  refine ef (alloc tbv46ok 1 rfl rfl rfl rfl fun b3 => ?_)
  refine ef (storeA tbv46ok rfl rfl rfl rfl rfl rfl rfl rfl rfl rfl ?_)
  refine go tbv46ok 12 rfl rfl trivial ?_
  refine cnd rfl (fun h4 => ?_) (fun h4 => ?_)
  · have h5 := not_t h4
    have e6 := e0.trans (condT h4)
    refine go tbv46ok 11 rfl rfl trivial ?_
    exact rt3 rfl rfl (ple_of (fun r : (List Bs) × (List Bs) × Int => .tup [.sl strc r.1, .sl strc r.2.1, .int .i64 r.2.2]) e6 (ple_tup (ples_cons ple_nil (ples_cons ple_nil (ples_cons (ple rfl) ples_nil)))))
  · have h7 := not_f h4
    have e8 := e0.trans (condF h4)
    refine go tbv46ok 8 rfl rfl trivial ?_
    refine cnd rfl (fun h9 => ?_) (fun h9 => ?_)
    · have p10 := dt h9
      have e11 := e8.trans (condT h9)
      refine go tbv46ok 1 rfl rfl trivial ?_
      refine any [2, 3, 4, 5, 6, 7] 6 mixd rfl ?_
      refine gov tbv46ok [0, 1, 3] 3 rfl (by kernel_rfl) rfl rfl trivial ?_
      refine ve 2 rfl (by kernel_rfl) rfl (bsl 2 strc [((shopOf b.shops shop).getD ShopR.zero).to] tbv46ok rfl rfl rfl rfl rfl (fun _ => rfl) rfl (by decide) (by decide) rfl fun u12 => ?_)
      refine gov tbv46ok [4, 5] 0 rfl (by kernel_rfl) rfl rfl trivial ?_
      refine vdone (by kernel_rfl) ?_
      refine go tbv46ok 1 rfl rfl trivial ?_
      refine givec 2 rfl ?_
      refine go tbv46ok 4 rfl rfl trivial ?_
      exact rt3 rfl rfl (ple_of (fun r : (List Bs) × (List Bs) × Int => .tup [.sl strc r.1, .sl strc r.2.1, .int .i64 r.2.2]) e11 (ple_tup (ples_cons ple_nil (ples_cons (ple rfl) (ples_cons (ple rfl) ples_nil)))))
    · have p13 := df h9
      have e14 := e8.trans (condF h9)
      refine go tbv46ok 22 rfl rfl trivial ?_
      refine sw_own (t := 13) (k := 1) (e := 9) 2 strc rfl rfl ?_
      refine sw_own (t := 14) (k := 1) (e := 9) 3 strc rfl rfl ?_
      refine loop (ι := Nat × (List Bs) × (List Bs) × Value × Value) [1, 2, 3, 8, 9, 10, 11, 34, 35] [0, 1] (fun ⟨k, queues, places, u_queues, u_places⟩ => [(36, .int .i64 (k : Int)), (13, .osl 2), (14, .osl 3)]) (fun ⟨k, queues, places, u_queues, u_places⟩ => [(2, .arr u_queues 1 9 strc queues), (3, .arr u_places 1 9 strc places)]) (fun ⟨k, queues, places, u_queues, u_places⟩ => k ≤ b.binds.length ∧ route_Book_Leads b shop key h = route_Book_Leads_l0 b shop key h (b.binds.drop k)  queues places ∧ queues.length ≤ k ∧ places.length ≤ k) (fun ⟨k, queues, places, u_queues, u_places⟩ => b.binds.length - k) ⟨0, [], [], (.slice none 0 0), (.slice none 0 0)⟩ ⟨rfl, rfl, rfl, trivial⟩ ⟨rfl, rfl, trivial⟩ ?_ ?_
      · exact ⟨Nat.zero_le _, e14, (by first | omega | (simp; done) | (simp; omega))⟩
      · rintro ⟨k, queues, places, u_queues, u_places⟩ ⟨hp15_1, hp15_2, hp15_3⟩
        refine go tbv46ok 6 rfl rfl trivial ?_
        refine cnd rfl (fun h16 => ?_) (fun h16 => ?_)
        · have p17 := dt h16
          have e18 := lstep (f := fun zz => route_Book_Leads_l0 b shop key h zz  queues places) hp15_2 (dropG (by omega)) (route_Book_Leads_l0.eq_2 _ _ _ _ _ _ _ _)
          have hc19 := getG (xs := b.binds) (k := k) (by omega)
          have hr_hc19 := hr (gt b.binds k) (List.mem_of_getElem? hc19)
          refine go tbv46ok 6 rfl rfl trivial ?_
          refine q1 (qidx tbv46ok k rfl rfl rfl hc19 rfl rfl rfl rfl) rfl fun w20 => ?_
          refine go tbv46ok 1 rfl rfl trivial ?_
          refine ef (alloc tbv46ok 4 rfl rfl rfl rfl fun b21 => ?_)
          refine ef (storeA tbv46ok rfl rfl rfl rfl rfl rfl rfl rfl rfl rfl ?_)
          refine go tbv46ok 4 rfl rfl trivial ?_
          obtain ⟨o, e_o, q_o⟩ := lt1_split e18
          refine joinc (ι := Bool) [1, 2, 3, 8, 9, 10, 11, 13, 14, 16, 34, 35, 36] [0, 1, 2, 3, 4] (fun v => [(44, .bool v)]) (fun v => []) (fun v => o = v) ?_ ?_
          · refine go tbv46ok 9 rfl rfl trivial ?_
            refine cnd rfl (fun h22 => ?_) (fun h22 => ?_)
            · have h23 := not_t h22
              have p24 := df h23
              have e25 := e_o.trans (condT h22)
              refine go tbv46ok 1 rfl rfl trivial ?_
              refine next (!decide (((gt b.binds k).shop) = shop)) rfl rfl ⟨rfl, trivial⟩ trivial (by decide) ?_
              exact e25
            · have h26 := not_f h22
              have p27 := dt h26
              have e28 := e_o.trans (condF h22)
              refine go tbv46ok 4 rfl rfl trivial ?_
              refine call (bind_rule _ _) rfl rfl fun w29 => ?_
              refine go tbv46ok 2 rfl rfl trivial ?_
              refine call (rule_Goes _ _ _ (by simp only [bindRule]; omega) (by first | omega | (simp; done) | decide)) rfl rfl fun w30 => ?_
              refine go tbv46ok 3 rfl rfl trivial ?_
              refine next (!(goesR (bindRule (gt b.binds k) (((shopOf b.shops shop).getD ShopR.zero).sort)) key h)) rfl rfl ⟨rfl, trivial⟩ trivial (by decide) ?_
              exact e28
          · rintro v hp31
            have e32 := lt1_fin q_o hp31
            refine go tbv46ok 1 rfl rfl trivial ?_
            refine cnd rfl (fun h33 => ?_) (fun h33 => ?_)
            · have e34 := e32.trans (condT h33)
              refine go tbv46ok 8 rfl rfl ⟨(by omega), trivial⟩ ?_
              refine next ⟨(k + 1), queues, places, (u_queues), (u_places)⟩ rfl rfl ⟨rfl, rfl, rfl, trivial⟩ ⟨rfl, rfl, trivial⟩ ?_ ?_
              · (try simp only []); omega
              · exact ⟨by (try simp only []); omega, e34, ⟨by (try simp only []); omega, by (try simp only []); omega⟩⟩
            · have e35 := e32.trans (condF h33)
              refine go tbv46ok 7 rfl rfl trivial ?_
              refine cnd rfl (fun h36 => ?_) (fun h36 => ?_)
              · have e37 := e35.trans (condT h36)
                refine go tbv46ok 4 rfl rfl trivial ?_
                refine ef (ecallw (route_put_ok _ _ (by first | omega | (simp; omega) | decide +kernel)) rfl rfl rfl rfl rfl rfl ?_)
                generalize hr40 : route_put places ((gt b.binds k).to) = r
                intro u38 w39
                have e41 := e37.trans (lt_eq hr40.symm)
                have hr40 := hr40.symm
                have hA41 := put_len places ((gt b.binds k).to)
                (try rw [← hr40] at hA41)
                refine go tbv46ok 9 rfl rfl ⟨(by omega), trivial⟩ ?_
                refine lj_osl (t := 14) 3 rfl rfl ?_
                refine next ⟨(k + 1), queues, r, (u_queues), (u38)⟩ rfl rfl ⟨rfl, rfl, rfl, trivial⟩ ⟨rfl, rfl, trivial⟩ ?_ ?_
                · (try simp only []); omega
                · exact ⟨by (try simp only []); omega, e41, ⟨by (try simp only []); omega, by (try simp only []); omega⟩⟩
              · have e43 := e35.trans (condF h36)
                refine go tbv46ok 4 rfl rfl trivial ?_
                refine ef (ecallw (route_put_ok _ _ (by first | omega | (simp; omega) | decide +kernel)) rfl rfl rfl rfl rfl rfl ?_)
                generalize hr46 : route_put queues ((gt b.binds k).to) = r1
                intro u44 w45
                have e47 := e43.trans (lt_eq hr46.symm)
                have hr46 := hr46.symm
                have hA47 := put_len queues ((gt b.binds k).to)
                (try rw [← hr46] at hA47)
                refine go tbv46ok 9 rfl rfl ⟨(by omega), trivial⟩ ?_
                refine lj_osl (t := 13) 2 rfl rfl ?_
                refine next ⟨(k + 1), r1, places, (u44), (u_places)⟩ rfl rfl ⟨rfl, rfl, rfl, trivial⟩ ⟨rfl, rfl, trivial⟩ ?_ ?_
                · (try simp only []); omega
                · exact ⟨by (try simp only []); omega, e47, ⟨by (try simp only []); omega, by (try simp only []); omega⟩⟩
        · have p49 := df h16
          have e50 := lstep (f := fun zz => route_Book_Leads_l0 b shop key h zz  queues places) hp15_2 (dropN (by omega)) (route_Book_Leads_l0.eq_1 _ _ _ _ _ _)
          refine go tbv46ok 14 rfl rfl trivial ?_
          refine givec 2 rfl ?_
          refine givec 3 rfl ?_
          refine go tbv46ok 2 rfl rfl trivial ?_
          exact rt3 rfl rfl (ple_of (fun r : (List Bs) × (List Bs) × Int => .tup [.sl strc r.1, .sl strc r.2.1, .int .i64 r.2.2]) e50 (ple rfl))
end Go.SW.V
set_option linter.unusedVariables false
set_option maxRecDepth 100000
set_option maxHeartbeats 4000000
namespace Go.SW.V
open Go.SW Go.Proofs
theorem cb17 : Callable Tryz.prog 17 := callable_of Tryz.func17 (by kernel_rfl) (by kernel_rfl)
theorem cb21 : Callable Tryz.prog 21 := callable_of Tryz.func21 (by kernel_rfl) (by kernel_rfl)
def tbv42 : Tb := [(4, ⟨.bool, 1, 1, [.bool false]⟩),
  (5, ⟨.int .u8, 1, 1, [.int .u8 0]⟩),
  (9, ⟨.str, 1, 16, [.str []]⟩),
  (22, ⟨.int .u64, 1, 8, [.int .u64 0]⟩),
  (24, ⟨.slc 126, 1, 24, [.sl TakerR.pc []]⟩),
  (25, ⟨.slc 39, 1, 24, [.sl LentR.pc []]⟩),
  (26, ⟨.slc 53, 1, 24, [.sl DeedR.pc []]⟩),
  (28, ⟨.agg [(0, 1)], 1, 24, [.sl DeedR.pc []]⟩),
  (30, ⟨.agg [(0, 1), (1, 1), (2, 1), (3, 1), (4, 1), (5, 1), (6, 1)], 7, 96, [.int .i64 0, .sl TakerR.pc [], .sl LentR.pc [], .bool false, .bool false, .int .u64 0, .sl DeedR.pc []]⟩),
  (39, ⟨.agg [(0, 1), (1, 1)], 2, 24, [.int .u64 0, .str []]⟩),
  (42, ⟨.slc 62, 1, 24, [.sl DeedR.pc []]⟩),
  (51, ⟨.agg [(0, 1), (1, 1), (2, 1), (3, 1), (4, 1), (5, 1), (6, 1)], 7, 96, [.int .u64 0, .str [], .str [], .sl Pair.pc [], .str [], .int .u64 0, .int .u8 0]⟩),
  (53, ⟨.agg [(0, 1), (1, 1), (2, 3), (5, 4), (9, 6), (15, 1), (16, 1), (17, 1), (18, 1), (19, 1), (20, 1), (21, 7), (28, 1)], 29, 344, [.int .u8 0, .int .u64 0, .str [], .int .u8 0, .str [], .str [], .int .u64 0, .int .u64 0, .str [], .str [], .str [], .bool false, .str [], .sl Pair.pc [], .bool false, .str [], .int .u64 0, .int .u8 0, .int .u8 0, .int .u8 0, .int .u64 0, .int .u64 0, .str [], .str [], .sl Pair.pc [], .str [], .int .u64 0, .int .u8 0, .str []]⟩),
  (62, ⟨.agg [(0, 1), (1, 1), (2, 3), (5, 4), (9, 6), (15, 1), (16, 1), (17, 1), (18, 1), (19, 1), (20, 1), (21, 7), (28, 1)], 29, 344, [.int .u8 0, .int .u64 0, .str [], .int .u8 0, .str [], .str [], .int .u64 0, .int .u64 0, .str [], .str [], .str [], .bool false, .str [], .sl Pair.pc [], .bool false, .str [], .int .u64 0, .int .u8 0, .int .u8 0, .int .u8 0, .int .u64 0, .int .u64 0, .str [], .str [], .sl Pair.pc [], .str [], .int .u64 0, .int .u8 0, .str []]⟩),
  (84, ⟨.slc 127, 1, 24, [.sl TakerR.pc []]⟩),
  (85, ⟨.slc 113, 1, 24, [.sl LentR.pc []]⟩),
  (87, ⟨.agg [(0, 1), (1, 1), (2, 1), (3, 1), (4, 1), (5, 1), (6, 1)], 7, 96, [.int .i64 0, .sl TakerR.pc [], .sl LentR.pc [], .bool false, .bool false, .int .u64 0, .sl DeedR.pc []]⟩),
  (113, ⟨.agg [(0, 1), (1, 1)], 2, 24, [.int .u64 0, .str []]⟩),
  (126, ⟨.agg [(0, 1), (1, 1)], 2, 24, [.int .u64 0, .str []]⟩),
  (127, ⟨.agg [(0, 1), (1, 1)], 2, 24, [.int .u64 0, .str []]⟩),
  (132, ⟨.slc 25, 1, 24, [.sl (slc LentR.pc) []]⟩),
  (135, ⟨.slc 26, 1, 24, [.sl (slc DeedR.pc) []]⟩),
  (166, ⟨.slc 24, 1, 24, [.sl (slc TakerR.pc) []]⟩)]
theorem tbv42ok : tbB Tryz.prog tbv42 = true := by kernel_rfl
theorem draft_Draft_Add_ok (x : DraftR) (l : List DeedR) (hx : x.l.length ≤ 1000) : Fn Tryz.prog gb 17 [.agg (DraftR.pc x), .sl DeedR.pc l] (.tup [.agg (DraftR.pc ((draft_Draft_Add x l).1)), .int .i64 ((draft_Draft_Add x l).2)]) := by
  refine fn_cw tbv42ok Tryz.func17 rfl Tryz.ntmps17 rfl cb17 rfl rfl fun w N H hG => ?_
  have x_l_l : x.l.length ≤ 140737488355328 := w.1.1.1
  have l_l : l.length ≤ 140737488355328 := w.2.1.1
  have e0 := draft_Draft_Add.eq_1 x l
  refine go tbv42ok 2 rfl rfl trivial ?_
  refine ef (boxA 0 rfl rfl rfl fun b1 => ?_)
  refine ef (alloc tbv42ok 1 rfl rfl rfl rfl fun b2 => ?_)
  refine go tbv42ok 6 rfl rfl trivial ?_
  refine ef (alloc tbv42ok 2 rfl rfl rfl rfl fun b3 => ?_)
  refine ef (storeA tbv42ok rfl rfl rfl rfl rfl rfl rfl rfl rfl rfl ?_)
  refine go tbv42ok 11 rfl rfl trivial ?_
  refine loop (ι := Nat × DraftR) [2, 4, 6, 11, 12] [0, 1] (fun ⟨k, x1⟩ => [(13, .int .i64 (k : Int))]) (fun ⟨k, x1⟩ => [(2, .box b3 28 [.sl DeedR.pc x1.l])]) (fun ⟨k, x1⟩ => k ≤ l.length ∧ draft_Draft_Add x l = draft_Draft_Add_l0 x (l.drop k)  x1 ∧ x1.l.length ≤ 1000) (fun ⟨k, x1⟩ => l.length - k) ⟨0, x⟩ ⟨rfl, trivial⟩ ⟨rfl, trivial⟩ ?_ ?_
  · exact ⟨Nat.zero_le _, e0, (by first | omega | (simp; done) | (simp; omega))⟩
  · rintro ⟨k, x1⟩ ⟨hp4_1, hp4_2, hp4_3⟩
    refine go tbv42ok 6 rfl rfl trivial ?_
    refine cnd rfl (fun h5 => ?_) (fun h5 => ?_)
    · have p6 := dt h5
      have e7 := lstep (f := fun zz => draft_Draft_Add_l0 x zz  x1) hp4_2 (dropG (by omega)) (draft_Draft_Add_l0.eq_2 _ _ _ _)
      have hc8 := getG (xs := l) (k := k) (by omega)
      refine go tbv42ok 6 rfl rfl trivial ?_
      refine q1 (qidx tbv42ok k rfl rfl rfl hc8 rfl rfl rfl rfl) rfl fun w9 => ?_
      refine go tbv42ok 1 rfl rfl trivial ?_
      refine ef (alloc tbv42ok 3 rfl rfl rfl rfl fun b10 => ?_)
      refine ef (storeA tbv42ok rfl rfl rfl rfl rfl rfl rfl rfl rfl rfl ?_)
      refine go tbv42ok 7 rfl rfl trivial ?_
      refine callv (draft_Draft_check x1 (gt l k)) (fun r : Int => .int .i64 r) (draft_Draft_check_ok _ _) rfl rfl fun r hr11 w12 => ?_
      have e13 := e7.trans (lt_eq hr11)
      have hA13 := chk_lt x1 (gt l k)
      (try rw [← hr11] at hA13)
      have hA14 := chk_head x1 (gt l k)
      (try rw [← hr11] at hA14)
      refine go tbv42ok 9 rfl rfl trivial ?_
      refine cnd rfl (fun h16 => ?_) (fun h16 => ?_)
      · have h17 := not_t h16
        have p18 := df h17
        have e19 := e13.trans (condT h16)
        refine go tbv42ok 4 rfl rfl trivial ?_
        refine ef (storeA tbv42ok rfl rfl rfl rfl rfl rfl rfl rfl rfl rfl ?_)
        refine go tbv42ok 10 rfl rfl trivial ?_
        exact rt2 rfl rfl (ple_of (fun r : DraftR × Int => .tup [.agg (DraftR.pc r.1), .int .i64 r.2]) e19 (ple rfl))
      · have h20 := not_f h16
        have p21 := dt h20
        have e22 := e13.trans (condF h16)
        refine go tbv42ok 2 rfl rfl trivial ?_
        refine any [4, 5, 6, 7, 8, 9] 9 mixd rfl ?_
        refine gov tbv42ok [0, 1, 2] 6 rfl (by kernel_rfl) rfl rfl trivial ?_
        refine ve 3 rfl (by kernel_rfl) rfl (ecall (draft_clone_ok _ (by first | omega | (simp; done) | decide)) rfl rfl ?_)
        generalize hr24 : draft_clone (gt l k) = r1
        intro w23
        have e25 := e22.trans (lt_eq hr24.symm)
        refine ve 4 rfl (by kernel_rfl) rfl (bsl 4 DeedR.pc [r1] tbv42ok rfl rfl rfl rfl rfl (fun _ => rfl) rfl (by decide) (by decide) rfl fun u26 => ?_)
        refine ve 5 rfl (by kernel_rfl) rfl (egive 4 rfl (bsl 4 (slc DeedR.pc) [x1.l, [r1]] tbv42ok rfl rfl rfl rfl rfl (fun _ => rfl) rfl (by decide) (by decide) rfl fun u27 => ?_))
        refine ve 6 rfl (by kernel_rfl) rfl (egive 4 rfl (eweak (ecall (concat_Deed _ (by first | omega | (simp; done) | (simp; omega) | (simp only [List.flatten_cons, List.flatten_nil, List.length_append, List.append_nil]; simp; omega))) rfl rfl fun w28 => ?_)))
        refine gov tbv42ok [7] 1 rfl (by kernel_rfl) rfl rfl trivial ?_
        refine vt 8 rfl (by kernel_rfl) (by kernel_rfl) (storeA tbv42ok rfl rfl rfl rfl rfl rfl rfl rfl rfl rfl ?_)
        refine vdone (by kernel_rfl) ?_
        refine go tbv42ok 6 rfl rfl ⟨(by omega), trivial⟩ ?_
        refine next ⟨(k + 1), (⟨[x1.l, [r1]].flatten⟩ : DraftR)⟩ rfl rfl ⟨rfl, trivial⟩ ⟨rfl, trivial⟩ ?_ ?_
        · (try simp only []); omega
        · exact ⟨by (try simp only []); omega, e25, (by (try simp only [List.length_append, List.length_cons, List.length_nil, List.flatten_cons, List.flatten_nil, List.append_nil, List.length_take, List.length_drop]); omega)⟩
    · have p29 := df h5
      have e30 := lstep (f := fun zz => draft_Draft_Add_l0 x zz  x1) hp4_2 (dropN (by omega)) (draft_Draft_Add_l0.eq_1 _ _)
      refine go tbv42ok 8 rfl rfl trivial ?_
      refine ef (storeA tbv42ok rfl rfl rfl rfl rfl rfl rfl rfl rfl rfl ?_)
      refine go tbv42ok 4 rfl rfl trivial ?_
      exact rt2 rfl rfl (ple_of (fun r : DraftR × Int => .tup [.agg (DraftR.pc r.1), .int .i64 r.2]) e30 (ple rfl))
theorem draft_Draft_At_ok (x : DraftR) (tick : Int) (hx : x.l.length ≤ 1000) (hh : ∀ d ∈ x.l, d.mail.head.length ≤ 1000000) : Fn Tryz.prog gb 21 [.agg (DraftR.pc x), .int .u64 tick] (.sl DeedR.pc (draft_Draft_At x tick)) := by
  refine fn_cw tbv42ok Tryz.func21 rfl Tryz.ntmps21 rfl cb21 rfl rfl fun w N H hG => ?_
  have x_l_l : x.l.length ≤ 140737488355328 := w.1.1.1
  have tick_r : 0 ≤ tick ∧ tick ≤ 18446744073709551615 := w.2.1
  have e0 := draft_Draft_At.eq_1 x tick
  refine go tbv42ok 2 rfl rfl trivial ?_
  refine ef (boxA 0 rfl rfl rfl fun b1 => ?_)
  refine go tbv42ok 18 rfl rfl trivial ?_
  refine sw_own (t := 5) (k := 29) (e := 53) 1 DeedR.pc rfl rfl ?_
  refine loop (ι := Nat × (List DeedR) × Value) [1, 4, 9, 10] [0] (fun ⟨k, out, u_out⟩ => [(11, .int .i64 (k : Int)), (5, .osl 1)]) (fun ⟨k, out, u_out⟩ => [(1, .arr u_out 29 53 DeedR.pc out)]) (fun ⟨k, out, u_out⟩ => k ≤ x.l.length ∧ draft_Draft_At x tick = draft_Draft_At_l0 tick (x.l.drop k)  out ∧ out.length ≤ k) (fun ⟨k, out, u_out⟩ => x.l.length - k) ⟨0, [], (.slice none 0 0)⟩ ⟨rfl, rfl, trivial⟩ ⟨rfl, trivial⟩ ?_ ?_
  · exact ⟨Nat.zero_le _, e0, (by first | omega | (simp; done) | (simp; omega))⟩
  · rintro ⟨k, out, u_out⟩ ⟨hp2_1, hp2_2, hp2_3⟩
    refine go tbv42ok 6 rfl rfl trivial ?_
    refine cnd rfl (fun h3 => ?_) (fun h3 => ?_)
    · have p4 := dt h3
      have e5 := lstep (f := fun zz => draft_Draft_At_l0 tick zz  out) hp2_2 (dropG (by omega)) (draft_Draft_At_l0.eq_2 _ _ _ _)
      have hc6 := getG (xs := x.l) (k := k) (by omega)
      have hh_hc6 := hh (gt x.l k) (List.mem_of_getElem? hc6)
      refine go tbv42ok 6 rfl rfl trivial ?_
      refine q1 (qidx tbv42ok k rfl rfl rfl hc6 rfl rfl rfl rfl) rfl fun w7 => ?_
      refine go tbv42ok 1 rfl rfl trivial ?_
      refine ef (alloc tbv42ok 2 rfl rfl rfl rfl fun b8 => ?_)
      refine ef (storeA tbv42ok rfl rfl rfl rfl rfl rfl rfl rfl rfl rfl ?_)
      refine go tbv42ok 5 rfl rfl trivial ?_
      refine callv (draft_clone (gt x.l k)) (fun r : DeedR => .agg (DeedR.pc r)) (draft_clone_ok _ (by first | omega | (simp; done) | decide)) rfl rfl fun r hr9 w10 => ?_
      have e11 := e5.trans (lt_eq hr9)
      refine ef (storeA tbv42ok rfl rfl rfl rfl rfl rfl rfl rfl rfl rfl ?_)
      refine go tbv42ok 6 rfl rfl trivial ?_
      refine ef (store1 tbv42ok rfl rfl rfl rfl rfl rfl rfl rfl rfl ?_)
      refine go tbv42ok 10 rfl rfl trivial ?_
      refine cnd rfl (fun h12 => ?_) (fun h12 => ?_)
      · have p13 := dt h12
        have e14 := e11.trans (condT h12)
        refine go tbv42ok 5 rfl rfl trivial ?_
        refine call (draft_Life _ _) rfl rfl fun w15 => ?_
        refine go tbv42ok 2 rfl rfl trivial ?_
        refine ef (store1 tbv42ok rfl rfl rfl rfl rfl rfl rfl rfl rfl ?_)
        refine go tbv42ok 5 rfl rfl trivial ?_
        refine ef (bsl 3 DeedR.pc [(⟨r.kind, tick, r.shop, r.queue, r.bind, r.name, r.id, r.how, r.frm, r.code, r.number, (⟨r.mail.id, r.mail.shop, r.mail.key, r.mail.head, r.mail.body, lifeN tick r.mail.due, r.mail.hops⟩ : Mail), r.text⟩ : DeedR)] tbv42ok rfl rfl rfl rfl rfl (fun _ => rfl) rfl (by decide) (by decide) rfl fun u16 => ?_)
        refine ef (app tbv42ok [(⟨r.kind, tick, r.shop, r.queue, r.bind, r.name, r.id, r.how, r.frm, r.code, r.number, (⟨r.mail.id, r.mail.shop, r.mail.key, r.mail.head, r.mail.body, lifeN tick r.mail.due, r.mail.hops⟩ : Mail), r.text⟩ : DeedR)] rfl rfl rfl rfl rfl rfl rfl rfl rfl (src_o rfl rfl) (by first | omega | (simp; omega)) rfl fun u17 => ?_)
        refine go tbv42ok 8 rfl rfl ⟨(by omega), trivial⟩ ?_
        refine next ⟨(k + 1), (out ++ [(⟨r.kind, tick, r.shop, r.queue, r.bind, r.name, r.id, r.how, r.frm, r.code, r.number, (⟨r.mail.id, r.mail.shop, r.mail.key, r.mail.head, r.mail.body, lifeN tick r.mail.due, r.mail.hops⟩ : Mail), r.text⟩ : DeedR)]), (u17)⟩ rfl rfl ⟨rfl, rfl, trivial⟩ ⟨rfl, trivial⟩ ?_ ?_
        · (try simp only []); omega
        · exact ⟨by (try simp only []); omega, e14, (by (try simp only [List.length_append, List.length_cons, List.length_nil, List.flatten_cons, List.flatten_nil, List.append_nil, List.length_take, List.length_drop]); omega)⟩
      · have p18 := df h12
        have e19 := e11.trans (condF h12)
        refine go tbv42ok 5 rfl rfl trivial ?_
        refine ef (bsl 3 DeedR.pc [(⟨r.kind, tick, r.shop, r.queue, r.bind, r.name, r.id, r.how, r.frm, r.code, r.number, r.mail, r.text⟩ : DeedR)] tbv42ok rfl rfl rfl rfl rfl (fun _ => rfl) rfl (by decide) (by decide) rfl fun u20 => ?_)
        refine ef (app tbv42ok [(⟨r.kind, tick, r.shop, r.queue, r.bind, r.name, r.id, r.how, r.frm, r.code, r.number, r.mail, r.text⟩ : DeedR)] rfl rfl rfl rfl rfl rfl rfl rfl rfl (src_o rfl rfl) (by first | omega | (simp; omega)) rfl fun u21 => ?_)
        refine go tbv42ok 8 rfl rfl ⟨(by omega), trivial⟩ ?_
        refine next ⟨(k + 1), (out ++ [(⟨r.kind, tick, r.shop, r.queue, r.bind, r.name, r.id, r.how, r.frm, r.code, r.number, r.mail, r.text⟩ : DeedR)]), (u21)⟩ rfl rfl ⟨rfl, rfl, trivial⟩ ⟨rfl, trivial⟩ ?_ ?_
        · (try simp only []); omega
        · exact ⟨by (try simp only []); omega, e19, (by (try simp only [List.length_append, List.length_cons, List.length_nil, List.flatten_cons, List.flatten_nil, List.append_nil, List.length_take, List.length_drop]); omega)⟩
    · have p22 := df h3
      have e23 := lstep (f := fun zz => draft_Draft_At_l0 tick zz  out) hp2_2 (dropN (by omega)) (draft_Draft_At_l0.eq_1 _ _)
      refine go tbv42ok 11 rfl rfl trivial ?_
      refine givec 1 rfl ?_
      refine go tbv42ok 1 rfl rfl trivial ?_
      exact rt1 rfl rfl (ple_of (fun r : (List DeedR) => .sl DeedR.pc r) e23 (ple rfl))
end Go.SW.V
set_option linter.unusedVariables false
set_option maxRecDepth 100000
set_option maxHeartbeats 4000000
namespace Go.SW.V
open Go.SW Go.Proofs
end Go.SW.V
set_option linter.unusedVariables false
set_option maxRecDepth 100000
set_option maxHeartbeats 4000000
namespace Go.SW.V
open Go.SW Go.Proofs
theorem cb102 : Callable Tryz.prog 102 := callable_of Tryz.func102 (by kernel_rfl) (by kernel_rfl)
theorem cb124 : Callable Tryz.prog 124 := callable_of Tryz.func124 (by kernel_rfl) (by kernel_rfl)
theorem cb15 : Callable Tryz.prog 15 := callable_of Tryz.func15 (by kernel_rfl) (by kernel_rfl)
theorem cb39 : Callable Tryz.prog 39 := callable_of Tryz.func39 (by kernel_rfl) (by kernel_rfl)
theorem cb81 : Callable Tryz.prog 81 := callable_of Tryz.func81 (by kernel_rfl) (by kernel_rfl)
def tbv47 : Tb := [(9, ⟨.str, 1, 16, [.str []]⟩),
  (30, ⟨.agg [(0, 1), (1, 1), (2, 1), (3, 1), (4, 1), (5, 1), (6, 1)], 7, 96, [.int .i64 0, .sl TakerR.pc [], .sl LentR.pc [], .bool false, .bool false, .int .u64 0, .sl DeedR.pc []]⟩),
  (39, ⟨.agg [(0, 1), (1, 1)], 2, 24, [.int .u64 0, .str []]⟩),
  (44, ⟨.agg [(0, 1), (1, 1), (2, 1)], 3, 40, [.str [], .int .u8 0, .str []]⟩),
  (49, ⟨.agg [(0, 1), (1, 1), (2, 1), (3, 1), (4, 1), (5, 1)], 6, 88, [.str [], .str [], .bool false, .str [], .sl Pair.pc [], .bool false]⟩),
  (53, ⟨.agg [(0, 1), (1, 1), (2, 3), (5, 4), (9, 6), (15, 1), (16, 1), (17, 1), (18, 1), (19, 1), (20, 1), (21, 7), (28, 1)], 29, 344, [.int .u8 0, .int .u64 0, .str [], .int .u8 0, .str [], .str [], .int .u64 0, .int .u64 0, .str [], .str [], .str [], .bool false, .str [], .sl Pair.pc [], .bool false, .str [], .int .u64 0, .int .u8 0, .int .u8 0, .int .u8 0, .int .u64 0, .int .u64 0, .str [], .str [], .sl Pair.pc [], .str [], .int .u64 0, .int .u8 0, .str []]⟩),
  (146, ⟨.slc 9, 1, 24, [.sl strc []]⟩),
  (191, ⟨.agg [(0, 1), (1, 1)], 2, 48, [.sl ShopR.pc [], .sl BindR.pc []]⟩)]
theorem tbv47ok : tbB Tryz.prog tbv47 = true := by kernel_rfl
theorem l14_awake : Fn Tryz.prog gb 124 [] (.bool true) := by
  refine fn_cw tbv47ok Tryz.func124 rfl Tryz.ntmps124 rfl cb124 rfl rfl fun w N H hG => ?_
  refine go tbv47ok 9 rfl rfl trivial ?_
  refine call (route_Book_Make_ok (⟨[], []⟩ : BookR) (⟨[97], 1, []⟩ : ShopR) (by first | omega | (simp; omega) | decide +kernel)) rfl rfl fun w1 => ?_
  refine go tbv47ok 3 rfl rfl trivial ?_
  refine ef (alloc tbv47ok 0 rfl rfl rfl rfl fun b2 => ?_)
  refine ef (storeA tbv47ok rfl rfl rfl rfl rfl rfl rfl rfl rfl rfl ?_)
  refine go tbv47ok 7 rfl rfl trivial ?_
  refine call (route_Book_Bind_ok _ (⟨[97], [113], false, [], [], false⟩ : BindR) (by first | omega | (simp; omega) | decide +kernel) (by first | omega | (simp; omega) | decide +kernel)) rfl rfl fun w3 => ?_
  refine go tbv47ok 3 rfl rfl trivial ?_
  refine ef (storeA tbv47ok rfl rfl rfl rfl rfl rfl rfl rfl rfl rfl ?_)
  refine go tbv47ok 6 rfl rfl trivial ?_
  refine call (route_Book_Bind_ok _ (⟨[97], [113], false, [120], [], false⟩ : BindR) (by first | omega | (simp; omega) | decide +kernel) (by first | omega | (simp; omega) | decide +kernel)) rfl rfl fun w4 => ?_
  refine go tbv47ok 3 rfl rfl trivial ?_
  refine ef (storeA tbv47ok rfl rfl rfl rfl rfl rfl rfl rfl rfl rfl ?_)
  refine go tbv47ok 6 rfl rfl trivial ?_
  refine call (Fn.le (route_Book_Leads_ok _ _ _ [] (by first | omega | (simp; omega) | decide +kernel) (by first | omega | (simp; omega) | decide +kernel) (by first | assumption | decide +kernel)) (ples_cons (ple rfl) (ples_cons (ple rfl) (ples_cons (ple rfl) (ples_cons ple_nil ples_nil)))) (ple rfl) rfl) rfl rfl fun w5 => ?_
  refine go tbv47ok 11 rfl rfl trivial ?_
  refine call l04_Awake rfl rfl fun w6 => ?_
  refine go tbv47ok 1 rfl rfl trivial ?_
  refine ungd rfl rfl ?_
  refine call l10_Awake rfl rfl fun w7 => ?_
  refine go tbv47ok 2 rfl rfl trivial ?_
  refine ungd rfl rfl ?_
  refine go tbv47ok 1 rfl rfl trivial ?_
  refine ungd rfl rfl ?_
  refine go tbv47ok 1 rfl rfl trivial ?_
  refine so_rt (t := 37) (p' := .bool true) (ple (congrArg PV.bool (show decide (((route_Book_Bind ((route_Book_Bind ((route_Book_Make (⟨[], []⟩ : BookR) (⟨[97], 1, []⟩ : ShopR)).1) (⟨[97], [113], false, [], [], false⟩ : BindR)).1) (⟨[97], [113], false, [120], [], false⟩ : BindR)).2) = 0) = true by decide +kernel))) rfl ?_
  refine go tbv47ok 2 rfl rfl trivial ?_
  refine ungd rfl rfl ?_
  refine go tbv47ok 1 rfl rfl trivial ?_
  refine ungd rfl rfl ?_
  refine go tbv47ok 1 rfl rfl trivial ?_
  refine so_rt (t := 41) (p' := .bool true) (ple (congrArg PV.bool (show decide (((route_Book_Leads ((route_Book_Bind ((route_Book_Bind ((route_Book_Make (⟨[], []⟩ : BookR) (⟨[97], 1, []⟩ : ShopR)).1) (⟨[97], [113], false, [], [], false⟩ : BindR)).1) (⟨[97], [113], false, [120], [], false⟩ : BindR)).1) [97] [] []).2.2) = 0) = true by decide +kernel))) rfl ?_
  refine go tbv47ok 2 rfl rfl trivial ?_
  refine ungd rfl rfl ?_
  refine go tbv47ok 1 rfl rfl trivial ?_
  refine ungd rfl rfl ?_
  refine ef (bsl 1 strc [[113]] tbv47ok rfl rfl rfl rfl rfl (fun _ => rfl) rfl (by decide) (by decide) rfl fun u8 => ?_)
  refine ungd rfl rfl ?_
  refine ef (calll 1 rfl (eq_Str _ _) rfl rfl rfl fun w9 => ?_)
  refine so_rt (t := 46) (p' := .bool true) (ple (congrArg PV.bool (show decide (((route_Book_Leads ((route_Book_Bind ((route_Book_Bind ((route_Book_Make (⟨[], []⟩ : BookR) (⟨[97], 1, []⟩ : ShopR)).1) (⟨[97], [113], false, [], [], false⟩ : BindR)).1) (⟨[97], [113], false, [120], [], false⟩ : BindR)).1) [97] [] []).1) = [[113]]) = true by decide +kernel))) rfl ?_
  refine go tbv47ok 2 rfl rfl trivial ?_
  refine ungd rfl rfl ?_
  refine go tbv47ok 1 rfl rfl trivial ?_
  refine ungd rfl rfl ?_
  refine go tbv47ok 1 rfl rfl trivial ?_
  refine ungd rfl rfl ?_
  refine go tbv47ok 1 rfl rfl trivial ?_
  refine so_rt (t := 51) (p' := .bool true) (ple (congrArg PV.bool (show decide ((((route_Book_Leads ((route_Book_Bind ((route_Book_Bind ((route_Book_Make (⟨[], []⟩ : BookR) (⟨[97], 1, []⟩ : ShopR)).1) (⟨[97], [113], false, [], [], false⟩ : BindR)).1) (⟨[97], [113], false, [120], [], false⟩ : BindR)).1) [97] [] []).2.1).length : Int) = 0) = true by decide +kernel))) rfl ?_
  refine go tbv47ok 5 rfl rfl trivial ?_
  refine rt1 rfl rfl ?_
  refine ple ?_
  exact congrArg PV.bool (by first | rfl | decide +kernel)
theorem l14_Awake : Fn Tryz.prog gb 102 [] (.bool true) := by
  refine fn_cw tbv47ok Tryz.func102 rfl Tryz.ntmps102 rfl cb102 rfl rfl fun w N H hG => ?_
  refine go tbv47ok 7 rfl rfl trivial ?_
  refine call l14_awake rfl rfl fun w1 => ?_
  refine go tbv47ok 4 rfl rfl trivial ?_
  refine rt1 rfl rfl ?_
  refine ple ?_
  rfl
theorem l22_awake : Fn Tryz.prog gb 81 [] (.bool true) := by
  refine fn_cw tbv47ok Tryz.func81 rfl Tryz.ntmps81 rfl cb81 rfl rfl fun w N H hG => ?_
  refine go tbv47ok 8 rfl rfl trivial ?_
  refine call (deed_Bytes (⟨11, 1, (⟨[], 0, []⟩ : ShopR), (⟨[], 0, 0, []⟩ : QueueR), (⟨[], [], false, [], [], false⟩ : BindR), [], 0, 0, 0, 0, 0, (⟨0, [], [], [], [], 0, 0⟩ : Mail), []⟩ : DeedR)) rfl rfl fun w1 => ?_
  have := deedBytes_len (d := (⟨11, 1, (⟨[], 0, []⟩ : ShopR), (⟨[], 0, 0, []⟩ : QueueR), (⟨[], [], false, [], [], false⟩ : BindR), [], 0, 0, 0, 0, 0, (⟨0, [], [], [], [], 0, 0⟩ : Mail), []⟩ : DeedR)) (by first | omega | decide)
  have := deedE_r (⟨11, 1, (⟨[], 0, []⟩ : ShopR), (⟨[], 0, 0, []⟩ : QueueR), (⟨[], [], false, [], [], false⟩ : BindR), [], 0, 0, 0, 0, 0, (⟨0, [], [], [], [], 0, 0⟩ : Mail), []⟩ : DeedR)
  refine go tbv47ok 9 rfl rfl trivial ?_
  refine call l13_Awake rfl rfl fun w2 => ?_
  refine go tbv47ok 1 rfl rfl trivial ?_
  refine ungd rfl rfl ?_
  refine call l14_Awake rfl rfl fun w3 => ?_
  refine go tbv47ok 2 rfl rfl trivial ?_
  refine ungd rfl rfl ?_
  refine go tbv47ok 1 rfl rfl trivial ?_
  refine ungd rfl rfl ?_
  refine go tbv47ok 1 rfl rfl trivial ?_
  refine so_rt (t := 14) (p' := .bool true) (ple (congrArg PV.bool (show decide ((deedE (⟨11, 1, (⟨[], 0, []⟩ : ShopR), (⟨[], 0, 0, []⟩ : QueueR), (⟨[], [], false, [], [], false⟩ : BindR), [], 0, 0, 0, 0, 0, (⟨0, [], [], [], [], 0, 0⟩ : Mail), []⟩ : DeedR)) = 0) = true by decide +kernel))) rfl ?_
  refine go tbv47ok 2 rfl rfl trivial ?_
  refine ungd rfl rfl ?_
  refine go tbv47ok 1 rfl rfl trivial ?_
  refine ungd rfl rfl ?_
  refine go tbv47ok 1 rfl rfl trivial ?_
  refine ungd rfl rfl ?_
  refine go tbv47ok 1 rfl rfl trivial ?_
  refine so_rt (t := 19) (p' := .bool true) (ple (congrArg PV.bool (show decide (((deedBytes (⟨11, 1, (⟨[], 0, []⟩ : ShopR), (⟨[], 0, 0, []⟩ : QueueR), (⟨[], [], false, [], [], false⟩ : BindR), [], 0, 0, 0, 0, 0, (⟨0, [], [], [], [], 0, 0⟩ : Mail), []⟩ : DeedR)).length : Int) = 9) = true by decide +kernel))) rfl ?_
  refine go tbv47ok 5 rfl rfl trivial ?_
  refine rt1 rfl rfl ?_
  refine ple ?_
  exact congrArg PV.bool (by first | rfl | decide +kernel)
theorem l22_Awake : Fn Tryz.prog gb 39 [] (.bool true) := by
  refine fn_cw tbv47ok Tryz.func39 rfl Tryz.ntmps39 rfl cb39 rfl rfl fun w N H hG => ?_
  refine go tbv47ok 7 rfl rfl trivial ?_
  refine call l22_awake rfl rfl fun w1 => ?_
  refine go tbv47ok 4 rfl rfl trivial ?_
  refine rt1 rfl rfl ?_
  refine ple ?_
  rfl
theorem l26_awake : Fn Tryz.prog gb 15 [] (.bool true) := by
  refine fn_cw tbv47ok Tryz.func15 rfl Tryz.ntmps15 rfl cb15 rfl rfl fun w N H hG => ?_
  refine go tbv47ok 7 rfl rfl trivial ?_
  refine call l22_Awake rfl rfl fun w1 => ?_
  refine go tbv47ok 1 rfl rfl trivial ?_
  refine ungd rfl rfl ?_
  refine call (draft_Life _ _) rfl rfl fun w2 => ?_
  refine ungd rfl rfl ?_
  refine go tbv47ok 1 rfl rfl trivial ?_
  refine so_rt (t := 4) (p' := .bool true) (ple (congrArg PV.bool (show decide ((lifeN 3 4) = 7) = true by decide +kernel))) rfl ?_
  refine go tbv47ok 2 rfl rfl trivial ?_
  refine ungd rfl rfl ?_
  refine call (draft_Life _ _) rfl rfl fun w3 => ?_
  refine ungd rfl rfl ?_
  refine go tbv47ok 1 rfl rfl trivial ?_
  refine so_rt (t := 8) (p' := .bool true) (ple (congrArg PV.bool (show decide ((lifeN 18446744073709551615 1) = 0) = true by decide +kernel))) rfl ?_
  refine go tbv47ok 5 rfl rfl trivial ?_
  refine rt1 rfl rfl ?_
  refine ple ?_
  exact congrArg PV.bool (by first | rfl | decide +kernel)
end Go.SW.V
set_option linter.unusedVariables false
set_option maxRecDepth 100000
set_option maxHeartbeats 4000000
namespace Go.SW.V
open Go.SW Go.Proofs
theorem cb6 : Callable Tryz.prog 6 := callable_of Tryz.func6 (by kernel_rfl) (by kernel_rfl)
def tbv48 : Tb := [(3, ⟨.int .i64, 1, 8, [.int .i64 0]⟩),
  (4, ⟨.bool, 1, 1, [.bool false]⟩),
  (5, ⟨.int .u8, 1, 1, [.int .u8 0]⟩),
  (9, ⟨.str, 1, 16, [.str []]⟩),
  (22, ⟨.int .u64, 1, 8, [.int .u64 0]⟩),
  (26, ⟨.slc 53, 1, 24, [.sl DeedR.pc []]⟩),
  (28, ⟨.agg [(0, 1)], 1, 24, [.sl DeedR.pc []]⟩),
  (42, ⟨.slc 62, 1, 24, [.sl DeedR.pc []]⟩),
  (51, ⟨.agg [(0, 1), (1, 1), (2, 1), (3, 1), (4, 1), (5, 1), (6, 1)], 7, 96, [.int .u64 0, .str [], .str [], .sl Pair.pc [], .str [], .int .u64 0, .int .u8 0]⟩),
  (53, ⟨.agg [(0, 1), (1, 1), (2, 3), (5, 4), (9, 6), (15, 1), (16, 1), (17, 1), (18, 1), (19, 1), (20, 1), (21, 7), (28, 1)], 29, 344, [.int .u8 0, .int .u64 0, .str [], .int .u8 0, .str [], .str [], .int .u64 0, .int .u64 0, .str [], .str [], .str [], .bool false, .str [], .sl Pair.pc [], .bool false, .str [], .int .u64 0, .int .u8 0, .int .u8 0, .int .u8 0, .int .u64 0, .int .u64 0, .str [], .str [], .sl Pair.pc [], .str [], .int .u64 0, .int .u8 0, .str []]⟩),
  (62, ⟨.agg [(0, 1), (1, 1), (2, 3), (5, 4), (9, 6), (15, 1), (16, 1), (17, 1), (18, 1), (19, 1), (20, 1), (21, 7), (28, 1)], 29, 344, [.int .u8 0, .int .u64 0, .str [], .int .u8 0, .str [], .str [], .int .u64 0, .int .u64 0, .str [], .str [], .str [], .bool false, .str [], .sl Pair.pc [], .bool false, .str [], .int .u64 0, .int .u8 0, .int .u8 0, .int .u8 0, .int .u64 0, .int .u64 0, .str [], .str [], .sl Pair.pc [], .str [], .int .u64 0, .int .u8 0, .str []]⟩)]
theorem tbv48ok : tbB Tryz.prog tbv48 = true := by kernel_rfl
theorem l26_DraftFull_ok (m : Mail) (many : Int) (tick : Int) : Fn Tryz.prog gb 6 [.agg (Mail.pc m), .int .u8 many, .int .u64 tick] (.bool (l26_DraftFull m many tick)) := by
  refine fn_cw tbv48ok Tryz.func6 rfl Tryz.ntmps6 rfl cb6 rfl rfl fun w N H hG => ?_
  have m_head_l : m.head.length ≤ 140737488355328 := w.1.2.2.2.1.1
  have many_r : 0 ≤ many ∧ many ≤ 255 := w.2.1
  have tick_r : 0 ≤ tick ∧ tick ≤ 18446744073709551615 := w.2.2.1
  have e0 := l26_DraftFull.eq_1 m many tick
  refine go tbv48ok 2 rfl rfl trivial ?_
  refine ef (boxA 0 rfl rfl rfl fun b1 => ?_)
  refine go tbv48ok 6 rfl rfl trivial ?_
  refine call l26_awake rfl rfl fun w2 => ?_
  refine go tbv48ok 3 rfl rfl trivial ?_
  refine cndF rfl rfl ?_
  refine go tbv48ok 6 rfl rfl trivial ?_
  refine call (l13_Light _) rfl rfl fun w3 => ?_
  have hlx3 := lightMl_len m
  refine go tbv48ok 3 rfl rfl trivial ?_
  refine callg rfl (fun hc => (r13_Check _)) rfl ⟨(fun hc => hc), trivial⟩ rfl rfl fun _ => ?_
  refine go tbv48ok 4 rfl rfl ⟨(fun hc => hc), rfl, rfl, trivial⟩ ?_
  refine cnd rfl (fun h4 => ?_) (fun h4 => ?_)
  · have e5 := e0.trans (condT h4)
    refine go tbv48ok 7 rfl rfl trivial ?_
    exact rt1 rfl rfl (ple_of (fun r : Bool => .bool r) e5 (ple rfl))
  · have h6 := orl h4
    have h7 := not_f h6
    have h8 := orr h4
    have h9 := not_f h8
    have p10 := dt h9
    have e11 := e0.trans (condF h4)
    refine go tbv48ok 4 rfl rfl trivial ?_
    refine ef (alloc tbv48ok 1 rfl rfl rfl rfl fun b12 => ?_)
    refine go tbv48ok 12 rfl rfl ⟨(by omega), (by omega), trivial⟩ ?_
    refine loop (ι := Nat × Nat × DraftR) [1, 2, 3, 7, 26] [0] (fun ⟨f, v, x⟩ => [(27, .int .i64 (v : Int))]) (fun ⟨f, v, x⟩ => [(1, .box b12 28 [.sl DeedR.pc x.l])]) (fun ⟨f, v, x⟩ => ((many % 40) - (v : Int)).toNat < f ∧ l26_DraftFull m many tick = l26_DraftFull_l0 m many tick f v x ∧ DOk x) (fun ⟨f, v, x⟩ => f) ⟨(((many % 40) - (0 : Int)).toNat + 1), 0, (⟨[]⟩ : DraftR)⟩ ⟨rfl, trivial⟩ ⟨rfl, trivial⟩ ?_ ?_
    · exact ⟨Nat.lt_succ_self _, e11, dok_nil⟩
    · rintro ⟨f, v, x⟩ ⟨hp13_1, hp13_2, hp13_3⟩
      have hd0c := hp13_3
      obtain ⟨hd2, hd3, hd4⟩ := hd0c
      obtain ⟨f1, rfl⟩ : ∃ q, f = q + 1 := ⟨f - 1, by omega⟩
      have e_f1 := hp13_2.trans (l26_DraftFull_l0.eq_2 _ _ _ _ _ _)
      refine go tbv48ok 6 rfl rfl trivial ?_
      refine cnd rfl (fun h14 => ?_) (fun h14 => ?_)
      · have p15 := dt h14
        have e16 := e_f1.trans (condT h14)
        refine go tbv48ok 15 rfl rfl trivial ?_
        refine ef (bsl 2 DeedR.pc [(⟨6, 0, (⟨[], 0, []⟩ : ShopR), (⟨[], 0, 0, []⟩ : QueueR), (⟨[], [], false, [], [], false⟩ : BindR), [], 0, 0, 0, 0, 0, m, []⟩ : DeedR)] tbv48ok rfl rfl rfl rfl rfl (fun _ => rfl) rfl (by decide) (by decide) rfl fun u17 => ?_)
        refine give 2 rfl ?_
        refine callv (draft_Draft_Add x [(⟨6, 0, (⟨[], 0, []⟩ : ShopR), (⟨[], 0, 0, []⟩ : QueueR), (⟨[], [], false, [], [], false⟩ : BindR), [], 0, 0, 0, 0, 0, m, []⟩ : DeedR)]) (fun r : DraftR × Int => .tup [.agg (DraftR.pc r.1), .int .i64 r.2]) (draft_Draft_Add_ok _ _ (by first | omega | (simp; omega) | decide +kernel)) rfl rfl fun r hr18 w19 => ?_
        have e20 := e16.trans (lt_eq hr18)
        have hA20 := add_dok x [(⟨6, 0, (⟨[], 0, []⟩ : ShopR), (⟨[], 0, 0, []⟩ : QueueR), (⟨[], [], false, [], [], false⟩ : BindR), [], 0, 0, 0, 0, 0, m, []⟩ : DeedR)]
        (try rw [← hr18] at hA20)
        (try have hA20b := hA20 (by first | assumption | omega | exact dok_nil | (simp; done)))
        (try have hA20c := hA20b)
        (try obtain ⟨hA20d0, hA20d1, hA20d2⟩ := hA20c)
        refine go tbv48ok 3 rfl rfl trivial ?_
        refine ef (alloc tbv48ok 2 rfl rfl rfl rfl fun b22 => ?_)
        refine ef (storeA tbv48ok rfl rfl rfl rfl rfl rfl rfl rfl rfl rfl ?_)
        refine go tbv48ok 21 rfl rfl ⟨(fun hc => hc), (fun hc => hc), (fun hc => hc), (fun hc => hc), (fun hc => (by rw [hc]; rfl)), (fun hc => rfl), rfl, rfl, trivial⟩ ?_
        refine cnd rfl (fun h23 => ?_) (fun h23 => ?_)
        · have e24 := e20.trans (condT h23)
          refine go tbv48ok 12 rfl rfl trivial ?_
          exact rt1 rfl rfl (ple_of (fun r : Bool => .bool r) e24 (ple rfl))
        · have h25 := orl h23
          have h26 := not_f h25
          have p27 := beqT h26
          have h28 := orr h23
          have e29 := e20.trans (condF h23)
          refine go tbv48ok 4 rfl rfl trivial ?_
          refine ef (storeA tbv48ok rfl rfl rfl rfl rfl rfl rfl rfl rfl rfl ?_)
          refine go tbv48ok 7 rfl rfl ⟨(by omega), trivial⟩ ?_
          refine next ⟨f1, (v + 1), r.1⟩ rfl rfl ⟨rfl, trivial⟩ ⟨rfl, trivial⟩ ?_ ?_
          · (try simp only []); omega
          · exact ⟨by (try simp only []); omega, e29, by assumption⟩
      · have p30 := df h14
        have e31 := e_f1.trans (condF h14)
        refine go tbv48ok 9 rfl rfl trivial ?_
        refine callv (draft_Draft_At x tick) (fun r : (List DeedR) => .sl DeedR.pc r) (draft_Draft_At_ok _ _ (by first | omega | (simp; omega) | decide +kernel) (by assumption)) rfl rfl fun r1 hr32 w33 => ?_
        have e34 := e31.trans (lt_eq hr32)
        have hA34 := at_len x tick
        (try rw [← hr32] at hA34)
        refine go tbv48ok 12 rfl rfl trivial ?_
        refine loop (ι := Nat) [1, 2, 3, 7, 11, 56, 57] [0, 1] (fun k => [(58, .int .i64 (k : Int))]) (fun k => []) (fun k => k ≤ r1.length ∧ l26_DraftFull m many tick = l26_DraftFull_l1 m many tick x r1 (r1.drop k) ) (fun k => r1.length - k) 0 ⟨rfl, trivial⟩ trivial ?_ ?_
        · exact ⟨Nat.zero_le _, e34⟩
        · rintro k ⟨hp36_1, hp36_2⟩
          refine go tbv48ok 6 rfl rfl trivial ?_
          refine cnd rfl (fun h37 => ?_) (fun h37 => ?_)
          · have p38 := dt h37
            have e39 := lstep (f := fun zz => l26_DraftFull_l1 m many tick x r1 zz ) hp36_2 (dropG (by omega)) (l26_DraftFull_l1.eq_2 _ _ _ _ _ _ _)
            have hc40 := getG (xs := r1) (k := k) (by omega)
            refine go tbv48ok 6 rfl rfl trivial ?_
            refine q1 (qidx tbv48ok k rfl rfl rfl hc40 rfl rfl rfl rfl) rfl fun w41 => ?_
            refine go tbv48ok 1 rfl rfl trivial ?_
            refine ef (alloc tbv48ok 2 rfl rfl rfl rfl fun b42 => ?_)
            refine ef (storeA tbv48ok rfl rfl rfl rfl rfl rfl rfl rfl rfl rfl ?_)
            refine go tbv48ok 3 rfl rfl trivial ?_
            refine any [3, 4, 5, 6, 7, 8] 22 mixd rfl ?_
            refine gov tbv48ok [0, 1, 2, 3, 4, 5, 6, 7, 8, 9, 10, 11, 12, 13, 14, 15, 16, 17, 18] 3 rfl (by kernel_rfl) rfl rfl ⟨(fun hc => hc), (fun hc => hc), (fun hc => hc), (fun hc => hc), (fun hc => hc), rfl, rfl, (fun hc => hc), (fun hc => hc), (fun hc => hc), trivial⟩ ?_
            refine vcallg 19 rfl (by kernel_rfl) rfl (fun hc => (draft_Life _ _)) rfl rfl ⟨(fun hc => hc), (fun hc => hc), trivial⟩ rfl fun _ => ?_
            refine gov tbv48ok [20, 21] 0 rfl (by kernel_rfl) rfl rfl ⟨(fun hc => hc), (fun hc => hc), rfl, rfl, trivial⟩ ?_
            refine vdone (by kernel_rfl) ?_
            refine go tbv48ok 1 rfl rfl trivial ?_
            refine cnd rfl (fun h43 => ?_) (fun h43 => ?_)
            · have e44 := e39.trans (condT h43)
              refine go tbv48ok 11 rfl rfl trivial ?_
              exact rt1 rfl rfl (ple_of (fun r : Bool => .bool r) e44 (ple rfl))
            · have h45 := orl h43
              have h46 := orl h45
              have h47 := not_f h46
              have p48 := dt h47
              have h49 := orr h45
              have h50 := not_f h49
              have p51 := dt h50
              have h52 := orr h43
              have h53 := not_f h52
              have p54 := dt h53
              have e55 := e39.trans (condF h43)
              refine go tbv48ok 7 rfl rfl ⟨(by omega), trivial⟩ ?_
              refine next (k + 1) rfl rfl ⟨rfl, trivial⟩ trivial ?_ ?_
              · (try simp only []); omega
              · exact ⟨by (try simp only []); omega, e55⟩
          · have p56 := df h37
            have e57 := lstep (f := fun zz => l26_DraftFull_l1 m many tick x r1 zz ) hp36_2 (dropN (by omega)) (l26_DraftFull_l1.eq_1 _ _ _ _ _)
            refine go tbv48ok 16 rfl rfl ⟨(by omega), (by omega), trivial⟩ ?_
            refine callg rfl (fun hc => (draft_Draft_Len_ok _)) rfl ⟨(fun hc => hc), trivial⟩ rfl rfl fun _ => ?_
            refine go tbv48ok 8 rfl rfl ⟨(fun hc => hc), (fun hc => hc), (fun hc => hc), rfl, rfl, trivial⟩ ?_
            exact rt1 rfl rfl (ple_of (fun r : Bool => .bool r) e57 (ple rfl))
end Go.SW.V
namespace Go.SW
open Go.ChangeShapes Go.WideShapes Go.ChangeAt Go.RowKit
def hp (w : World) : Hp := fun b => w.heap[b]?
def rest0 (w : World) : Rest := ⟨fun _ => none, w.os, w.tape, w.output⟩
theorem mem0 (w : World) : Mem (rest0 w) (hp w) l0 w :=
  { os := rfl, tape := rfl, output := rfl, n := fun _ _ h => (by cases h), h := fun _ _ h => h, l := fun _ _ _ h => (by cases h), nh := fun _ _ h => (by cases h), nl := fun _ _ _ h => (by cases h), ll := fun _ _ _ _ _ h => (by cases h) }
theorem mem0_below {w w' : World} {L : Ls} (h : Mem (rest0 w) (hp w) L w') : Below w.heap.size w w' := by
  have hb : ∀ k, k < w.heap.size → w'.heap[k]? = w.heap[k]? := fun k hk => by
    have e : w.heap[k]? = some w.heap[k] := Array.getElem?_eq_getElem hk
    rw [e]; exact h.h k _ e
  refine ⟨h.os, h.tape, h.output, ?_, hb⟩
  by_cases z : w.heap.size = 0
  · omega
  · have := hb (w.heap.size - 1) (by omega)
    rw [Array.getElem?_eq_getElem (show w.heap.size - 1 < w.heap.size by omega)] at this
    have := (Array.getElem?_eq_some_iff.1 this).1
    omega
section
variable {Ht : Type} {enc : TypeId × Value → Ht} {P : Program} {w : World} {base fuel : Nat} {spare : Nat → Bool} {held : Bool} {cs : List Value} {x : DataW Ht × List MemPlace} {t : TypeId}
theorem rd_int {k : IntKind} (ht : P.underlying t = some (.int k)) (h : DataW.trod enc P w base spare held fuel t cs = some x) : ∃ z : Int, cs = [.int k z] ∧ k.min ≤ z ∧ z ≤ k.max := by
  obtain ⟨z, h1, _, h2⟩ := DataW.trod_int ht h
  refine ⟨z, h1, ?_⟩
  simp only [Lit.wf, Bool.and_eq_true, decide_eq_true_eq] at h2; exact h2
theorem rd_str (ht : P.underlying t = some .string) (h : DataW.trod enc P w base spare held fuel t cs = some x) : ∃ s : Bs, cs = [str s] ∧ s.length ≤ 9223372036854775807 := by
  obtain ⟨s, h1, _, h2⟩ := DataW.trod_string ht h
  refine ⟨s.data.toList, by rw [h1, str_of], ?_⟩
  have : s.data.toList.length = s.size := Array.length_toList
  rw [this]; exact h2
theorem list_of {α : Type} {Q : Nat → α → Prop} : ∀ n, (∀ i, i < n → ∃ r, Q i r) → ∃ rs : List α, rs.length = n ∧ ∀ i (h : i < rs.length), Q i rs[i]
  | 0, _ => ⟨[], rfl, fun i h => by cases h⟩
  | n + 1, hq => by
    obtain ⟨rs, hl, hr⟩ := list_of n (fun i hi => hq i (by omega))
    obtain ⟨r, hr0⟩ := hq n (by omega)
    refine ⟨rs ++ [r], by simp [hl], fun i hi => ?_⟩
    by_cases e : i < rs.length
    · rw [List.getElem_append_left e]; exact hr i e
    · have : i = rs.length := by simp at hi; omega
      subst this
      rw [List.getElem_append_right (Nat.le_refl _)]
      simp only [Nat.sub_self, List.getElem_cons_zero]
      rw [hl]; exact hr0
/-- A struct's field. -/
theorem rd_fld {fs : Array Field} {xs : List (DataW Ht × List MemPlace)} {n i o k : Nat} {f : Field} {ft : TypeId} (hf : ∀ (i : Nat) (f : Field), fs[i]? = some f → DataW.trod enc P w base spare held n f.type ((cs.drop f.offset).take (P.cellsOf f.type)) = xs[i]?) (hl : xs.length = fs.size)
    (hi : fs[i]? = some f) (ho : f.offset = o) (ht : f.type = ft) (hk : P.cellsOf ft = k) : ∃ y, DataW.trod enc P w base spare held n ft ((cs.drop o).take k) = some y := by
  have h := hf i f hi
  have hlt : i < fs.size := (Array.getElem?_eq_some_iff.1 hi).1
  rw [ho, ht, hk, List.getElem?_eq_getElem (by omega)] at h
  exact ⟨_, h⟩
end
/-- A struct that is handed over. -/
theorem rd_agg {Ht : Type} {enc : TypeId × Value → Ht} {P : Program} {w : World} {r : Reach} {b0 base : Nat} {spare : Nat → Bool} {held : Bool} {t : TypeId} {fs : Array Field} {v : Value} {d : DataW Ht} {p : List MemPlace} (hs : P.underlying t = some (.struct fs)) (hv : Value.okWide P w r b0 t v)
    (h : DataW.Trod enc P w base spare held t v d p) : ∃ (l : List Value) (fuel : Nat), v = .agg l.toArray ∧ DataW.trod enc P w base spare held fuel t l = some (d, p) := by
  obtain ⟨cs, rfl, _⟩ := okWide_struct hs hv
  obtain ⟨fuel, hf⟩ := h
  exact ⟨cs.toList, fuel, rfl, hf⟩
theorem params_ok {P : Program} {ts : Array TypeId} (h : (ts.toList.all fun t => P.readableRec t && decide (t < P.types.size)) = true) : ∀ t ∈ ts.toList, P.readableRec t = true ∧ t < P.types.size := fun t ht => by
  have := List.all_eq_true.1 h t ht
  simpa using this
theorem rd_one_int {Ht : Type} {enc : TypeId × Value → Ht} {P : Program} {w : World} {r : Reach} {b0 base : Nat} {spare : Nat → Bool} {held : Bool} {t : TypeId} {k : IntKind} {v : Value} {d : DataW Ht} {p : List MemPlace} (hs : P.underlying t = some (.int k)) (hv : Value.okWide P w r b0 t v)
    (h : DataW.Trod enc P w base spare held t v d p) : ∃ z : Int, v = .int k z ∧ k.min ≤ z ∧ z ≤ k.max := by
  obtain ⟨z, rfl, _, _, hw⟩ := open_int hs hv h
  refine ⟨z, rfl, ?_⟩
  simp only [Lit.wf, Bool.and_eq_true, decide_eq_true_eq] at hw; exact hw
/-- The cells of a datum. -/
def flatD : Nat → DataW Unit → List Value
  | _, .lit (.int k n) => [.int k n]
  | _, .lit (.string s) => [.string ⟨s.toArray⟩]
  | _, .lit (.bool b) => [.bool b]
  | n + 1, .agg l => l.flatMap (flatD n)
  | _, _ => []
/-- The settled world, with data laid in its variables. -/
def layD (d : DataW Unit) : Obj → Obj
  | .cells _ t frozen => .cells (flatD 5 d).toArray t frozen
  | o => o
noncomputable def laidW (P : Program) (os : Os) (l : List (Nat × DataW Unit)) : World :=
  let w0 := World.holding P os ⟨#[], #[], []⟩
  { w0 with heap := List.foldl (fun h x => h.modify x.1 (layD x.2)) w0.heap l }
/-- Each argument reads as it did, where below the heap's old size nothing has turned. -/
theorem trodAll_stays {Ht : Type} {enc : TypeId × Value → Ht} {P : Program} (hl : laidOutB P = true) {W W' : World} (hb : Below W.heap.size W W') {sp : Nat → Bool} : ∀ {ts : List TypeId} {vs : List Value} {ds : List (DataW Ht)} {ps : List MemPlace}, (∀ t ∈ ts, P.readableRec t = true ∧ t < P.types.size) →
    DataW.TrodAll enc P W 0 (fun _ => true) true ts vs ds ps → (∀ x ∈ ps, x.block < W.heap.size) → (∀ x ∈ ps, sp x.block = true) → DataW.TrodAll enc P W' 0 sp true ts vs ds ps := by
  intro ts
  induction ts with
  | nil => intro vs ds ps _ h _ _; cases vs <;> cases ds <;> first | exact h | exact h.elim
  | cons t ts ih =>
    intro vs ds ps hr h hlt hsp
    obtain ⟨v, vs', d, ds', p, q, rfl, rfl, rfl, h1, h2⟩ := trodAll_cons h
    exact trodAll_cons_mk (WideElems.Trod_stays hl (hr t (by simp)).1 (hr t (by simp)).2 h1 (fun x hx => hb.same (hlt x (by simp [hx]))) (fun x hx => hsp x (by simp [hx]))) (ih (fun u hu => hr u (by simp [hu])) h2 (fun x hx => hlt x (by simp [hx])) (fun x hx => hsp x (by simp [hx])))
section
variable {Ht : Type} {enc : TypeId × Value → Ht} {P : Program}
/-- A row's last step where below the heap's old size nothing has turned: it hands back true, and the arguments read as they did. -/
theorem law_post {f : Func} {s : ChangeSpec} {apart fresh again : Bool} {W W' : World} {args : Array Value} {ds : List (DataW Ht)} {before : List MemPlace} {tb : TypeId} (hvars : s.vars = [])
    (hW : DataW.Whole enc P f.params.toList s.vars apart W args.toList ds [] before) (hb : Below W.heap.size W W') (hl : laidOutB P = true) (hr : ∀ t ∈ f.params.toList, P.readableRec t = true ∧ t < P.types.size)
    (hres : f.resultTypes = #[tb]) (hu : P.underlying tb = some .bool) (hfn : s.fn Ht (ds ++ []) = { results := [.lit (.bool true)], args := ds }) : s.post enc P f apart fresh false again W args (.bool true) W' := by
  have hlt : ∀ p ∈ before, p.block < W.heap.size := fun p hp => hW.lt p hp
  have hold : ∀ p ∈ before, (fun b => decide (b < W.heap.size)) p.block = true := fun p hp => by simpa using hlt p hp
  have hW0 := hW
  obtain ⟨p, q, hA, hV, rfl, hz, hn⟩ := hW0
  have hq : q = [] := by
    rw [hvars] at hV
    exact (trodVars_none hV).2
  subst hq
  rw [List.append_nil] at hlt hold hz hn hW
  have hA0 : DataW.TrodAll enc P W 0 (fun _ => true) true f.params.toList args.toList ds p := hA
  have hargs : ∀ sp : Nat → Bool, (∀ x ∈ p, sp x.block = true) → DataW.TrodAll enc P W' 0 sp true f.params.toList args.toList ds p := fun sp hs => trodAll_stays hl hb hr hA0 hlt hs
  have hvs : ∀ sp : Nat → Bool, DataW.TrodVars enc P W' sp s.vars ([] : List (DataW Ht)) [] := fun sp => by rw [hvars]; rfl
  have hR : ∀ (b : Nat) (sp : Nat → Bool) (hd : Bool), DataW.TrodAll enc P W' b sp hd f.resultTypes.toList ((Value.bool true).resultList f.resultTypes.size) [.lit (.bool true)] [] := fun b sp hd => by
    rw [hres]
    exact trodAll_mk1 (shut_bool hu true)
  have hok : ∀ (j : Nat) (t : TypeId) (r : Value), f.resultTypes[j]? = some t → ((Value.bool true).resultList f.resultTypes.size)[j]? = some r → Value.okWide P W' .any 0 t r := ok_one hres rfl (okWide_bool_mk hu true)
  refine ⟨ds, [], p, [], p, [], hW, ?_, ?_, ?_, World.keptBut_mono (fun x hx => ⟨hx, Or.inr (by simpa using hx)⟩) (hb.frame (· ∈ p)), fun _ => ?_⟩
  · rw [hfn]; exact hR _ _ _
  · rw [hfn]; exact hargs _ hold
  · rw [hfn]; exact hvs _
  · refine ⟨hok, _, _, ([] ++ p) ++ [], ⟨[] ++ p, [], trodAll_append (hargs _ (fun _ _ => rfl)) (hR _ _ _), hvs _, rfl, ?_, ?_⟩, ?_⟩
    · intro b off hp
      have hin : MemPlace.cell b off ∈ p := by simpa using hp
      rw [hb.frozen (hlt _ hin)]
      exact hz b off hin
    · intro ha
      have := hn ha
      simpa using this
    · intro x hx _
      simpa using hx
/-- A variable of type int holds an int. -/
theorem gint_of_shape {w : World} {g : Nat} {t : TypeId} {zero : Array Value} (h : w.ShapedOpen P) (hg : g < P.globals.size)
    (h0 : ((begin P (fun _ _ => 0) default).world.heap[g]?).bind Obj.row? = some (zero, t)) (hz : zero.size = 1)
    (hb : P.buildable t = true) (hc : P.cellTypes P.depth t = some [t]) (hu : P.underlying t = some (.int .i64)) : GInt (hp w) g := by
  obtain ⟨cs, hh, hs, hr⟩ := h.1 g zero t hg h0
  obtain ⟨ts, hts, _, hall⟩ := hr hb
  rw [hc] at hts
  cases hts
  have h1 : 0 < cs.size := by omega
  obtain ⟨u, hu', hok⟩ := hall 0 cs[0] (by simp [h1])
  have : u = t := by simpa using hu'.symm
  subst this
  unfold Cell.ok at hok
  rw [hu] at hok
  have hv : ∃ m, cs[0] = .int .i64 m := by
    cases hv : cs[0] <;> rw [hv] at hok <;> first | exact ⟨_, by rw [hok.1]⟩ | simp at hok
  obtain ⟨m, hm⟩ := hv
  refine ⟨m, u, (0, 0), ?_⟩
  show w.heap[g]? = _
  rw [hh]
  have e : cs = #[.int .i64 m] := by
    apply Array.ext
    · simp; omega
    · intro i hi1 hi2
      have : i = 0 := by simp at hi2; omega
      subst this
      simpa using hm
  rw [e]
end
end Go.SW
namespace Go.SW
open Go.ChangeShapes Go.WideShapes Go.ChangeAt Go.RowKit
variable {P : Program}
theorem dat_slice {Ht : Type} {enc : TypeId × Value → Ht} {w : World} {base fuel : Nat} {spare : Nat → Bool} {held : Bool} {a : Option Addr} {l c : Nat} {x : DataW Ht × List MemPlace} {t e : TypeId} (ht : P.underlying t = some (.slice e))
    (h : DataW.trod enc P w base spare held fuel t [.slice a l c] = some x) : x.1 = .nil ∧ l = 0 ∨ ∃ el sp, x.1 = .slice el sp ∧ el.length = l := by
  rcases Go.Deep.open_slice ht h with ⟨h1, h2⟩ | ⟨a', len, cap, m, nf, D, Pl, h1, _, hl, hm, hmm, hx, _⟩
  · cases h1; subst h2; exact .inl ⟨rfl, rfl⟩
  · cases h1; subst hx; exact .inr ⟨_, _, rfl, by simp⟩
end Go.SW
namespace Go.SW
open Go.ChangeShapes Go.WideShapes Go.ChangeAt Go.RowKit
variable {P : Program}
/-- What is read at a type stands for something. -/
def Rdv {α : Type} (P : Program) (t : TypeId) (en : α → List PV) (k : Nat) : Prop :=
  ∀ (Ht : Type) (enc : TypeId × Value → Ht) (w : World) (base : Nat) (spare : Nat → Bool) (held : Bool) (fuel : Nat) (cs : List Value) (x : DataW Ht × List MemPlace),
    DataW.trod enc P w base spare held fuel t cs = some x → (∀ n ∈ x.1.weights P t, n ≤ reachBytes) → ∃ r : α, RowE en k (hp w) r cs
theorem rowE1 {α : Type} {en : α → List PV} {H : Hp} {r : α} {p : PV} {v : Value} (he : en r = [p]) (h : Sim H p v) (ho : v.oneCell' = true) : RowE en 1 H r [v] :=
  ⟨by rw [he]; rfl, by rw [he]; exact Sims.nil.cons h, fun u hu => by rw [List.mem_singleton.1 hu]; exact ho⟩
theorem rdv_int {k : IntKind} {t : TypeId} (ht : P.underlying t = some (.int k)) : Rdv P t (fun z : Int => [.int k z]) 1 := fun _ _ _ _ _ _ _ _ _ h _ => by
  obtain ⟨z, rfl, h1, h2⟩ := rd_int ht h
  exact ⟨z, rowE1 rfl (.int h1 h2) rfl⟩
theorem rdv_str {t : TypeId} (ht : P.underlying t = some .string) : Rdv P t (fun s : Bs => [.str s]) 1 := fun _ _ _ _ _ _ _ _ _ h _ => by
  obtain ⟨s, rfl, h1⟩ := rd_str ht h
  exact ⟨s, rowE1 rfl (.str h1) rfl⟩
theorem weightsAll_mem {H : Type} {e : TypeId} : ∀ {ds : List (DataW H)} {d : DataW H} {n : Nat}, d ∈ ds → n ∈ d.weights P e → n ∈ DataW.weightsAll P e ds
  | [], _, _, h, _ => by cases h
  | d0 :: r, d, n, h, hn => by
    simp only [DataW.weightsAll, List.mem_append]
    rcases List.mem_cons.1 h with rfl | q
    · exact .inl hn
    · exact .inr (weightsAll_mem q hn)
theorem rdv_slice {α : Type} {en : α → List PV} {k : Nat} {t e : TypeId} (ht : P.underlying t = some (.slice e)) (hk : P.cellsOf e = k) (h0 : 0 < k) (hb : 0 < P.bytesOf e) (he : Rdv P e en k) : Rdv P t (fun xs : List α => [.sl en xs]) 1 := fun Ht enc w base spare held fuel cs x h hw => by
  have hlen : ∀ {a : Option Addr} {l c : Nat}, cs = [.slice a l c] → l ≤ 140737488355328 := fun {a l c} hcs => by
    subst hcs
    rcases dat_slice ht h with ⟨_, rfl⟩ | ⟨el, sp, hx, rfl⟩
    · exact Nat.zero_le _
    · have := hw ((el.length + sp.length) * P.bytesOf e) (by rw [hx]; simp [DataW.weights, ht])
      have h1 : el.length ≤ (el.length + sp.length) * P.bytesOf e := Nat.le_trans (Nat.le_add_right _ _) (Nat.le_mul_of_pos_right _ hb)
      have h2 : reachBytes = 140737488351232 := by decide
      omega
  rcases Go.Deep.open_slice ht h with ⟨h1, _⟩ | ⟨a, len, cap, m, nf, D, Pl, h1, _, hl, hm, hmm, hx, hi⟩
  · subst h1
    exact ⟨[], rowE1 rfl (Sim.of_slh (k := 0) slh_nil (by simp)) rfl⟩
  · have hs0 : 0 < len → a = ⟨a.block, a.off, none⟩ := by
      intro hl0
      obtain ⟨cs', hc, hT⟩ := hi 0 (by rw [hmm]; split <;> omega)
      rw [hk, Nat.zero_mul] at hc
      obtain ⟨_, hcl, hat⟩ := World.cells?_some hc
      have ha0 := hat 0 h0
      rw [List.getElem?_eq_getElem (by omega)] at ha0
      obtain ⟨ab, ao, asp⟩ := a
      cases asp with
      | none => rfl
      | some z =>
        exfalso
        unfold World.cell? at ha0
        simp only [Addr.add] at ha0
        split at ha0 <;> simp at ha0
    have hwD : ∀ i, i < len → ∀ n ∈ (D i).weights P e, n ≤ reachBytes := fun i hil n hn => by
      refine hw n ?_
      rw [hx]
      simp only [DataW.weights, ht, List.mem_cons, List.mem_append]
      exact .inr (.inl (weightsAll_mem (List.mem_map.2 ⟨i, List.mem_range.2 hil, rfl⟩) hn))
    have key : ∀ i, i < len → ∃ r : α, ∃ cs', RowE en k (hp w) r cs' ∧ SlAt (hp w) (.slice (some a) len cap) k i cs' := by
      intro i hil
      have ha := hs0 (by omega)
      obtain ⟨cs', hc, hT⟩ := hi i (by rw [hmm]; split <;> omega)
      obtain ⟨r, hr⟩ := he _ _ _ _ _ _ _ _ _ hT (hwD i hil)
      rw [hk] at hc
      obtain ⟨_, hcl, hat⟩ := World.cells?_some hc
      refine ⟨r, cs', hr, ?_⟩
      generalize a.block = ab at ha
      generalize a.off = ao at ha
      subst ha
      simp only [add_none] at hat
      have ha0 := hat 0 h0
      rw [List.getElem?_eq_getElem (by omega)] at ha0
      unfold World.cell? at ha0
      simp only at ha0
      split at ha0
      · rename_i c T fr hb
        refine ⟨ab, ao, len, cap, c, T, fr, rfl, hb, hcl, fun j hj => ?_⟩
        have := hat j hj
        unfold World.cell? at this
        simp only at this
        rw [hb] at this
        simpa using this
      · cases ha0
    obtain ⟨rs, hlen', hr⟩ := list_of (Q := fun i (r : α) => ∃ cs', RowE en k (hp w) r cs' ∧ SlAt (hp w) (.slice (some a) len cap) k i cs') len key
    have hs : SlH (RowE en k) k (hp w) (.slice (some a) rs.length cap) rs := ⟨⟨some a, cap, rfl, by omega⟩, fun i hi => by rw [hlen']; exact hr i hi⟩
    subst h1
    have hle := hlen (rfl : [Value.slice (some a) len cap] = _)
    refine ⟨rs, rowE1 rfl (v := .slice (some a) len cap) (by rw [← hlen']; exact Sim.of_slh hs (by omega)) rfl⟩
/-- The fields of a struct, one after the other. -/
theorem rows_app {ps qs : List PV} {H : Hp} {cs ds : List Value} {m n : Nat} (h : ps.length = m ∧ Sims H ps cs ∧ ∀ u ∈ cs, u.oneCell' = true) (k : qs.length = n ∧ Sims H qs ds ∧ ∀ u ∈ ds, u.oneCell' = true) : (ps ++ qs).length = m + n ∧ Sims H (ps ++ qs) (cs ++ ds) ∧ ∀ u ∈ cs ++ ds, u.oneCell' = true :=
  ⟨by simp [h.1, k.1], h.2.1.append k.2.1, fun u hu => by rcases List.mem_append.1 hu with q | q; exact h.2.2 u q; exact k.2.2 u q⟩
theorem rdv_fld {Ht : Type} {enc : TypeId × Value → Ht} {w : World} {base : Nat} {spare : Nat → Bool} {held : Bool} {cs : List Value} {t : TypeId} {fs : Array Field} {xs : List (DataW Ht × List MemPlace)} {n i o k : Nat} {f : Field} {ft : TypeId} {α : Type} {en : α → List PV} (ht : P.underlying t = some (.struct fs))
    (hf : ∀ (i : Nat) (f : Field), fs[i]? = some f → DataW.trod enc P w base spare held n f.type ((cs.drop f.offset).take (P.cellsOf f.type)) = xs[i]?) (hl : xs.length = fs.size) (hw : ∀ q ∈ (DataW.agg (xs.map (·.1)) : DataW Ht).weights P t, q ≤ reachBytes)
    (hi : fs[i]? = some f) (ho : f.offset = o) (hft : f.type = ft) (hk : P.cellsOf ft = k) (hr : Rdv P ft en k) : ∃ r, RowE en k (hp w) r ((cs.drop o).take k) := by
  obtain ⟨y, hy⟩ := rd_fld hf hl hi ho hft hk
  refine hr _ _ _ _ _ _ _ _ _ hy fun q hq => hw q ?_
  have h := hf i f hi
  rw [ho, hft, hk, hy] at h
  simp only [DataW.weights, ht]
  refine DataW.weights_mem_each (j := i) (t := ft) (d := y.1) ?_ ?_ q hq
  · rw [List.getElem?_map, Array.getElem?_toList, hi]; simp [hft]
  · rw [List.getElem?_map, ← h]; rfl
theorem row_cut {en : List PV} {H : Hp} {cs : List Value} {o k : Nat} {q : Nat} (h : en.length = k ∧ Sims H en ((cs.drop o).take k) ∧ ∀ u ∈ (cs.drop o).take k, u.oneCell' = true) {es : List PV} (hr : es.length = q ∧ Sims H es (cs.drop (o + k)) ∧ ∀ u ∈ cs.drop (o + k), u.oneCell' = true) : (en ++ es).length = k + q ∧ Sims H (en ++ es) (cs.drop o) ∧ ∀ u ∈ cs.drop o, u.oneCell' = true := by
  have := rows_app h hr
  rw [← List.drop_drop, List.take_append_drop] at this
  exact this
theorem row_last {en : List PV} {H : Hp} {cs : List Value} {o k : Nat} (hl : cs.length = o + k) (h : en.length = k ∧ Sims H en ((cs.drop o).take k) ∧ ∀ u ∈ (cs.drop o).take k, u.oneCell' = true) : en.length = k ∧ Sims H en (cs.drop o) ∧ ∀ u ∈ cs.drop o, u.oneCell' = true := by
  rw [List.take_of_length_le (by simp; omega)] at h
  exact h
/-! Arguments -/
section
variable {Ht : Type} {enc : TypeId × Value → Ht} {w : World} {r : Reach} {b0 base : Nat} {spare : Nat → Bool} {held : Bool} {t : TypeId} {v : Value} {d : DataW Ht} {p : List MemPlace}
theorem arg_int {k : IntKind} (hs : P.underlying t = some (.int k)) (hv : Value.okWide P w r b0 t v) (h : DataW.Trod enc P w base spare held t v d p) : ∃ z : Int, Sim (hp w) (.int k z) v := by
  obtain ⟨z, rfl, h1, h2⟩ := rd_one_int hs hv h
  exact ⟨z, .int h1 h2⟩
theorem arg_rec {α : Type} {en : α → List PV} {k : Nat} {fs : Array Field} (hs : P.underlying t = some (.struct fs)) (hv : Value.okWide P w r b0 t v) (h : DataW.Trod enc P w base spare held t v d p) (hw : ∀ q ∈ d.weights P t, q ≤ reachBytes) (hr : Rdv P t en k) : ∃ z : α, Sim (hp w) (.agg (en z)) v := by
  obtain ⟨l, fuel, rfl, h1⟩ := rd_agg hs hv h
  obtain ⟨z, h2⟩ := hr _ _ _ _ _ _ _ _ _ h1 hw
  exact ⟨z, Sim.toAgg h2.2.1⟩
theorem wt_arg {ts : List TypeId} {ds : List (DataW Ht)} {j : Nat} (hw : (DataW.weightsEach P ts ds).all (· ≤ reachBytes) = true) (ht : ts[j]? = some t) (hd : ds[j]? = some d) : ∀ q ∈ d.weights P t, q ≤ reachBytes := fun q hq => by
  have := List.all_eq_true.1 hw q (DataW.weights_mem_each ht hd q hq)
  simpa using this
end
/-- A law's call, closed. -/
theorem law_run {G : Gb} {f : FuncId} {args : List PV} {b : Bool} {vs : List Value} {W : World} (h : Fn P G f args (.bool b)) (hg : G.p (hp W)) (hs : Sims (hp W) args vs) (hb : b = true) : Calls P f vs.toArray W fun e W' => e = .returned (.bool true) ∧ Mem (rest0 W) (hp W) l0 W' :=
  (h.run (rest0 W) (hp W) l0 W vs hg hs (mem0 W)).mono fun _ _ ⟨v, H', h1, h2, h3, h4⟩ => ⟨by rw [h1, h2.inv_bool, hb], h4.le h3⟩
end Go.SW
namespace Go.SW.V
open Go.SW
theorem dset (l : List DeedR) (n : Bs) (i : Int) : draft_Draft_Settles ⟨l⟩ n i = r26_Settles l n i := by
  unfold draft_Draft_Settles r26_Settles
  rw [Bool.eq_iff_iff, decide_eq_true_eq, idxP_any]
  induction l with
  | nil => simp [r26_Settles_l0]
  | cons d l ih =>
    simp only [List.any_cons, r26_Settles_l0, Bool.cond_eq_ite, draft_Settles1] at *
    split
    · rename_i h; simp [h]
    · rename_i h; simp only [Bool.eq_false_iff.2 h, Bool.false_or]; exact ih
theorem dchk (x : List DeedR) (d : DeedR) : draft_Draft_check ⟨x⟩ d = (bif ((!decide (d.kind = 6)) && (!decide (d.kind = 8))) then 8 else (bif !decide (deedE d = 0) then deedE d else (bif ((decide (d.kind = 8)) && (r26_Settles x d.name d.id)) then 9 else (bif decide (16 ≤ (x.length : Int)) then 12 else 0)))) := by
  unfold draft_Draft_check
  rw [← dset]
  cases h1 : decide (d.kind = 6) <;> cases h2 : decide (d.kind = 8) <;> simp [lp0]
theorem dadd0 (x : List DeedR) : ∀ (l y : List DeedR), draft_Draft_Add_l0 ⟨x⟩ l ⟨y⟩ = (⟨(r26_Add_l0 x l y).1⟩, (r26_Add_l0 x l y).2)
  | [], y => rfl
  | d :: l, y => by
    simp only [draft_Draft_Add_l0, r26_Add_l0, lt, dchk, Bool.cond_eq_ite]
    have hk : ([y, [draft_clone d]].flatten) = y ++ [d] := by simp [draft_clone]
    rw [hk, dadd0 x l (y ++ [d])]
    repeat' split
    all_goals first | rfl | (exfalso; simp_all; done) | (simp_all; done)
theorem dadd (x l : List DeedR) : draft_Draft_Add ⟨x⟩ l = (⟨(r26_Add x l).1⟩, (r26_Add x l).2) := dadd0 x l x
theorem dat0 (t : Int) : ∀ (l out : List DeedR), draft_Draft_At_l0 t l out = r26_At_l0 t l out
  | [], out => rfl
  | d :: l, out => by
    simp only [draft_Draft_At_l0, r26_At_l0, lt, draft_clone, dat0 t l]
    rfl
theorem dat (x : List DeedR) (t : Int) : draft_Draft_At ⟨x⟩ t = r26_At x t := dat0 t x []
end Go.SW.V
namespace Go.SW.V
open Go.SW
/-! In parts, or at once -/
/-! As many as0 there is room for -/
def putD (m : Mail) : DeedR := ⟨6, 0, ⟨[], 0, []⟩, ⟨[], 0, 0, []⟩, ⟨[], [], false, [], [], false⟩, [], 0, 0, 0, 0, 0, m, []⟩
theorem putD_ok {m : Mail} (h : mailC m = 0) : deedE (putD m) = 0 := by
  have hd : putD m = toldD (putD m) := by simp [putD, toldD, ShopR.zero, QueueR.zero, BindR.zero]
  unfold deedE
  rw [if_neg (by simp [putD]), if_neg (by rw [← hd]; simp)]
  simp only [putD]
  simpa using h
theorem putD_add {m : Mail} (h : mailC m = 0) (n : Nat) : r26_Add (List.replicate n (putD m)) [putD m] = if n < 16 then (List.replicate (n + 1) (putD m), 0) else (List.replicate n (putD m), 12) := by
  have hk : (putD m).kind = 6 := rfl
  simp only [r26_Add, r26_Add_l0, putD_ok h, hk, Bool.cond_eq_ite, List.length_replicate]
  by_cases e : n < 16
  · have : ¬ (16 ≤ (n : Int)) := by omega
    simp [e, this, List.replicate_succ']
  · have : 16 ≤ (n : Int) := by omega
    simp [e, this]
theorem at_put (m : Mail) (t : Int) : ∀ (n : Nat) (out : List DeedR), r26_At_l0 t (List.replicate n (putD m)) out = out ++ List.replicate n { putD m with tick := t, mail := { m with due := lifeN t m.due } }
  | 0, out => by simp [r26_At_l0]
  | n + 1, out => by
    have hk : (putD m).kind = 6 := rfl
    simp only [List.replicate_succ, r26_At_l0, hk, Bool.cond_eq_ite, decide_true, if_true]
    rw [at_put m t n]
    simp [putD]
theorem full1 (m : Mail) (many t : Int) (x : DraftR) (r : List DeedR) (d : DeedR) (h1 : d.tick = t) (h2 : d.mail.body = m.body) (h3 : d.mail.due = lifeN t m.due) : ∀ n, l26_DraftFull_l1 m many t x r (List.replicate n d) = l26_DraftFull_l1 m many t x r []
  | 0 => rfl
  | n + 1 => by
    rw [List.replicate_succ]
    conv => lhs; unfold l26_DraftFull_l1
    simp only [h1, h2, h3, decide_true, Bool.not_true, Bool.or_self, cond_false]
    exact full1 m many t x r d h1 h2 h3 n
theorem full0 (m : Mail) (many t : Int) (hm : mailC m = 0) (hy : 0 ≤ many) : ∀ (f v : Nat), (v : Int) ≤ many % 40 → (many % 40).toNat < f + v → l26_DraftFull_l0 m many t f v ⟨List.replicate (min v 16) (putD m)⟩ = true
  | 0, v, h, hf => by omega
  | f + 1, v, h, hf => by
    have hp : (⟨6, 0, ⟨[], 0, []⟩, ⟨[], 0, 0, []⟩, ⟨[], [], false, [], [], false⟩, [], 0, 0, 0, 0, 0, m, []⟩ : DeedR) = putD m := rfl
    simp only [l26_DraftFull_l0, hp, lt, dadd, putD_add hm]
    by_cases e : (v : Int) < many % 40
    · simp only [e, decide_true, cond_true]
      have ih := full0 m many t hm hy f (v + 1) (by omega) (by omega)
      by_cases q : v < 16
      · have q1 : min v 16 = v := by omega
        have q2 : min (v + 1) 16 = v + 1 := by omega
        rw [q2] at ih
        have q3 : (v : Int) < 16 := by omega
        simp [q1, q, q3, ih]
      · have q1 : min v 16 = 16 := by omega
        have q2 : min (v + 1) 16 = 16 := by omega
        rw [q2] at ih
        have q3 : ¬ ((v : Int) < 16) := by omega
        have q4 : ¬ (min v 16 < 16) := by omega
        simp [q1, q3, q4, ih, -List.reduceReplicate]
    · simp only [e, decide_false, cond_false, dat, r26_At, at_put, List.nil_append]
      rw [full1 m many t _ _ _ rfl rfl rfl]
      unfold l26_DraftFull_l1
      simp only [draft_Draft_Len, List.length_replicate, decide_true, Bool.and_true, decide_eq_true_eq]
      omega
theorem l26_full (m : Mail) (many t : Int) (hy : 0 ≤ many) : l26_DraftFull m many t = true := by
  unfold l26_DraftFull
  cases h1 : lightMl m with
  | false => simp
  | true =>
    by_cases h2 : mailC m = 0
    · simp only [h2, decide_true, Bool.not_true, Bool.or_self, cond_false]
      have := full0 m many t h2 hy ((many % 40 - 0).toNat + 1) 0 (by omega) (by omega)
      simpa using this
    · simp [h2]
end Go.SW.V
