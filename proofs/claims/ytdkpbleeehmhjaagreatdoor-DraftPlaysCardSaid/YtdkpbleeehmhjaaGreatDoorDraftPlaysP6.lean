/-
  A part of the proof of DraftPlays: The walks of this seat, printed by program: stairwelllaw26.DraftPlays, stairwelllaw26.DraftParts, stairwelllaw26.DraftFull. From the data that a row's arguments read as to the ground of the walks, and back: a world seen as one that is read alone; integers, texts, bools, structs, slices opened; the row's last step. Over any program; no condition. How long a slice that was handed over can be. Over any program; no condition. From the data that a row's arguments read as0 to what values stand for. Over any program; each asks what it lists. Drafts: the code's answers are the document's. Plain laws; each asks what it lists. Drafts: the code's answers are the document's; the laws of chapter 26. Plain laws; each asks what it lists.
-/
import Derived.Test.YtdkpbleeehmhjaaGreatDoorProg
import Derived.Test.YtdkpbleeehmhjaaGreatDoorDraftPlaysP3
import Derived.KernelRfl
import Derived.Test.YtdkpbleeehmhjaaGreatDoorDraftPlaysP5
import Derived.Test.YtdkpbleeehmhjaaGreatDoorDraftPlaysP1
import Derived.ProofKit
import Derived.OpenShut
import Derived.Deep.Slices
import Derived.Carry
import Derived.Lib.LaidTab
import Derived.SizedLaws
set_option linter.unusedVariables false
set_option linter.unusedSimpArgs false
set_option linter.unusedVariables false
set_option maxRecDepth 100000
set_option maxHeartbeats 4000000
namespace Go.SW.V
open Go.SW Go.Proofs
theorem cb4 : Callable Tryz.prog 4 := callable_of Tryz.func4 (by kernel_rfl) (by kernel_rfl)
def tbv48 : Tb := [(3, ⟨.int .i64, 1, 8, [.int .i64 0]⟩),
  (4, ⟨.bool, 1, 1, [.bool false]⟩),
  (5, ⟨.int .u8, 1, 1, [.int .u8 0]⟩),
  (9, ⟨.str, 1, 16, [.str []]⟩),
  (22, ⟨.int .u64, 1, 8, [.int .u64 0]⟩),
  (26, ⟨.slc 53, 1, 24, [.sl DeedR.pc []]⟩),
  (28, ⟨.agg [(0, 1)], 1, 24, [.sl DeedR.pc []]⟩),
  (42, ⟨.slc 62, 1, 24, [.sl DeedR.pc []]⟩),
  (51, ⟨.agg [(0, 1), (1, 1), (2, 1), (3, 1), (4, 1), (5, 1), (6, 1)], 7, 96, [.int .u64 0, .str [], .str [], .sl Pair.pc [], .str [], .int .u64 0, .int .u8 0]⟩),
  (53, ⟨.agg [(0, 1), (1, 1), (2, 3), (5, 4), (9, 6), (15, 1), (16, 1), (17, 1), (18, 1), (19, 1), (20, 1), (21, 7), (28, 1)], 29, 344, [.int .u8 0, .int .u64 0, .str [], .int .u8 0, .str [], .str [], .int .u64 0, .int .u64 0, .str [], .str [], .str [], .bool false, .str [], .sl Pair.pc [], .bool false, .str [], .int .u64 0, .int .u8 0, .int .u8 0, .int .u8 0, .int .u64 0, .int .u64 0, .str [], .str [], .sl Pair.pc [], .str [], .int .u64 0, .int .u8 0, .str []]⟩),
  (62, ⟨.agg [(0, 1), (1, 1), (2, 3), (5, 4), (9, 6), (15, 1), (16, 1), (17, 1), (18, 1), (19, 1), (20, 1), (21, 7), (28, 1)], 29, 344, [.int .u8 0, .int .u64 0, .str [], .int .u8 0, .str [], .str [], .int .u64 0, .int .u64 0, .str [], .str [], .str [], .bool false, .str [], .sl Pair.pc [], .bool false, .str [], .int .u64 0, .int .u8 0, .int .u8 0, .int .u8 0, .int .u64 0, .int .u64 0, .str [], .str [], .sl Pair.pc [], .str [], .int .u64 0, .int .u8 0, .str []]⟩)]
theorem tbv48ok : tbB Tryz.prog tbv48 = true := by kernel_rfl
theorem l26_DraftPlays_ok (l : List DeedR) (more : List DeedR) (tick : Int) : Fn Tryz.prog gb 4 [.sl DeedR.pc l, .sl DeedR.pc more, .int .u64 tick] (.bool (l26_DraftPlays l more tick)) := by
  refine fn_cw tbv48ok Tryz.func4 rfl Tryz.ntmps4 rfl cb4 rfl rfl fun w N H hG => ?_
  have l_l : l.length ≤ 140737488355328 := w.1.1
  have more_l : more.length ≤ 140737488355328 := w.2.1.1
  have tick_r : 0 ≤ tick ∧ tick ≤ 18446744073709551615 := w.2.2.1
  have e0 := l26_DraftPlays.eq_1 l more tick
  refine go tbv48ok 8 rfl rfl trivial ?_
  refine call l26_awake rfl rfl fun w1 => ?_
  refine go tbv48ok 3 rfl rfl trivial ?_
  refine cndF rfl rfl ?_
  refine go tbv48ok 6 rfl rfl trivial ?_
  refine call (l23_Light_ok _) rfl rfl fun w2 => ?_
  refine go tbv48ok 3 rfl rfl trivial ?_
  refine callg rfl (fun hc => (l23_Light_ok _)) rfl ⟨(fun hc => hc), trivial⟩ rfl rfl fun _ => ?_
  refine go tbv48ok 4 rfl rfl ⟨(fun hc => hc), rfl, rfl, trivial⟩ ?_
  refine cnd rfl (fun h3 => ?_) (fun h3 => ?_)
  · have e4 := e0.trans (condT h3)
    refine go tbv48ok 7 rfl rfl trivial ?_
    exact rt1 rfl rfl (ple_of (fun r : Bool => .bool r) e4 (ple rfl))
  · have h5 := orl h3
    have h6 := not_f h5
    have hb6 := l23_ok h6
    (try obtain ⟨hb6a, hb6b⟩ := hb6)
    have h8 := orr h3
    have h9 := not_f h8
    have hb9 := l23_ok h9
    (try obtain ⟨hb9a, hb9b⟩ := hb9)
    have e11 := e0.trans (condF h3)
    refine go tbv48ok 4 rfl rfl trivial ?_
    refine ef (alloc tbv48ok 0 rfl rfl rfl rfl fun b12 => ?_)
    refine go tbv48ok 16 rfl rfl trivial ?_
    refine sw_rt (t := 8) (p' := .sl DeedR.pc []) ple_nil rfl ?_
    refine loop (ι := Nat × (List DeedR) × DraftR) [1, 2, 7, 35, 36] [] (fun ⟨k, q, x⟩ => [(37, .int .i64 (k : Int)), (8, .sl DeedR.pc q)]) (fun ⟨k, q, x⟩ => [(0, .box b12 28 [.sl DeedR.pc x.l])]) (fun ⟨k, q, x⟩ => k ≤ l.length ∧ l26_DraftPlays l more tick = l26_DraftPlays_l0 more tick (l.drop k)  q x ∧ DOk x ∧ q.length ≤ 16) (fun ⟨k, q, x⟩ => l.length - k) ⟨0, [], (⟨[]⟩ : DraftR)⟩ ⟨rfl, rfl, trivial⟩ ⟨rfl, trivial⟩ ?_ ?_
    · exact ⟨Nat.zero_le _, e11, ⟨dok_nil, by simp⟩⟩
    · rintro ⟨k, q, x⟩ ⟨hp13_1, hp13_2, hp13_3⟩
      obtain ⟨hd0, hd1⟩ := hp13_3
      have hd0c := hd0
      obtain ⟨hd2, hd3, hd4⟩ := hd0c
      refine go tbv48ok 6 rfl rfl trivial ?_
      refine cnd rfl (fun h14 => ?_) (fun h14 => ?_)
      · have p15 := dt h14
        have e16 := lstep (f := fun zz => l26_DraftPlays_l0 more tick zz  q x) hp13_2 (dropG (by omega)) (l26_DraftPlays_l0.eq_2 _ _ _ _ _ _)
        have hc17 := getG (xs := l) (k := k) (by omega)
        (try have hli_hc17 := lightD_len (gt l k) (l23_mem (by assumption) (List.mem_of_getElem? hc17)))
        refine go tbv48ok 6 rfl rfl trivial ?_
        refine q1 (qidx tbv48ok k rfl rfl rfl hc17 rfl rfl rfl rfl) rfl fun w18 => ?_
        refine go tbv48ok 1 rfl rfl trivial ?_
        refine ef (alloc tbv48ok 1 rfl rfl rfl rfl fun b19 => ?_)
        refine ef (storeA tbv48ok rfl rfl rfl rfl rfl rfl rfl rfl rfl rfl ?_)
        refine go tbv48ok 6 rfl rfl trivial ?_
        refine ef (bsl 2 DeedR.pc [(gt l k)] tbv48ok rfl rfl rfl rfl rfl (fun _ => rfl) rfl (by decide) (by decide) rfl fun u20 => ?_)
        refine give 2 rfl ?_
        refine callv (draft_Draft_Add x [(gt l k)]) (fun r : DraftR × Int => .tup [.agg (DraftR.pc r.1), .int .i64 r.2]) (draft_Draft_Add_ok _ _ (by first | omega | (simp; omega) | decide +kernel)) rfl rfl fun r hr21 w22 => ?_
        have e23 := e16.trans (lt_eq hr21)
        have hA23 := add_dok x [(gt l k)]
        (try rw [← hr21] at hA23)
        (try have hA23b := hA23 (by first | assumption | omega | exact dok_nil | (simp; done)))
        (try have hA23c := hA23b)
        (try obtain ⟨hA23d0, hA23d1, hA23d2⟩ := hA23c)
        refine go tbv48ok 3 rfl rfl trivial ?_
        refine ef (alloc tbv48ok 2 rfl rfl rfl rfl fun b25 => ?_)
        refine ef (storeA tbv48ok rfl rfl rfl rfl rfl rfl rfl rfl rfl rfl ?_)
        refine go tbv48ok 7 rfl rfl trivial ?_
        refine call (l22_To _ (by first | omega | (have := lightD_len (gt l k) (by assumption); omega))) rfl rfl fun w26 => ?_
        refine ef (bsl 3 DeedR.pc [(gt l k)] tbv48ok rfl rfl rfl rfl rfl (fun _ => rfl) rfl (by decide) (by decide) rfl fun u27 => ?_)
        refine give 3 rfl ?_
        refine callv (r26_Add q [(gt l k)]) (fun r : (List DeedR) × Int => .tup [.sl DeedR.pc r.1, .int .i64 r.2]) (r26_Add_ok _ _ (by first | omega | (simp; omega) | decide +kernel)) rfl rfl fun r1 hr28 w29 => ?_
        have e30 := e23.trans (lt_eq hr28)
        have hA30 := radd_len q [(gt l k)]
        (try rw [← hr28] at hA30)
        (try have hA30b := hA30 (by first | assumption | omega | exact dok_nil | (simp; done)))
        refine go tbv48ok 11 rfl rfl trivial ?_
        refine callv (draft_Draft_At r.1 tick) (fun r : (List DeedR) => .sl DeedR.pc r) (draft_Draft_At_ok _ _ (by first | omega | (simp; omega) | decide +kernel) (by assumption)) rfl rfl fun r2 hr32 w33 => ?_
        have e34 := e30.trans (lt_eq hr32)
        have hA34 := at_len r.1 tick
        (try rw [← hr32] at hA34)
        refine callv (l22_All r2) (fun r : (List DeedR) × Bool => .tup [.sl DeedR.pc r.1, .bool r.2]) (l22_All_ok _ (by first | omega | (simp; omega) | decide +kernel)) rfl rfl fun r3 hr36 w37 => ?_
        have e38 := e34.trans (lt_eq hr36)
        have hA38 := all_len r2
        (try rw [← hr36] at hA38)
        refine go tbv48ok 9 rfl rfl trivial ?_
        refine any [3, 4, 5, 6, 7, 8] 40 mixd rfl ?_
        refine gov tbv48ok [0, 1, 2, 3, 4, 5, 6] 33 rfl (by kernel_rfl) rfl rfl trivial ?_
        refine ve 7 rfl (by kernel_rfl) rfl (ecallg rfl (fun hc => (r26_At_ok _ _ (by first | omega | (simp; omega) | decide +kernel))) rfl ⟨(fun hc => hc), (fun hc => hc), trivial⟩ rfl rfl fun _ => ?_)
        refine vcallg 8 rfl (by kernel_rfl) rfl (fun hc => (r22_SameAll_ok _ _)) rfl rfl ⟨(fun hc => hc), (fun hc => hc), trivial⟩ rfl fun _ => ?_
        refine gov tbv48ok [9, 10, 11, 12] 27 rfl (by kernel_rfl) rfl rfl ⟨(fun hc => hc), rfl, rfl, trivial⟩ ?_
        refine vcallg 13 rfl (by kernel_rfl) rfl (fun hc => (draft_Draft_Len_ok _)) rfl rfl ⟨(fun hc => hc), trivial⟩ rfl fun _ => ?_
        refine gov tbv48ok [14, 15, 16, 17, 18, 19] 20 rfl (by kernel_rfl) rfl rfl ⟨(fun hc => hc), (fun hc => hc), (fun hc => hc), rfl, rfl, trivial⟩ ?_
        refine vcallg 20 rfl (by kernel_rfl) rfl (fun hc => (draft_Draft_Len_ok _)) rfl rfl ⟨(fun hc => hc), trivial⟩ rfl fun _ => ?_
        refine gov tbv48ok [21, 22, 23, 24, 25, 26, 27, 28, 29, 30] 9 rfl (by kernel_rfl) rfl rfl ⟨(fun hc => hc), (fun hc => hc), (fun hc => hc), rfl, rfl, (fun hc => hc), (fun hc => hc), trivial⟩ ?_
        refine vcallg 31 rfl (by kernel_rfl) rfl (fun hc => (draft_Draft_Settles_ok _ _ _)) rfl rfl ⟨(fun hc => hc), (fun hc => hc), (fun hc => hc), trivial⟩ rfl fun _ => ?_
        refine gov tbv48ok [32, 33, 34, 35, 36] 3 rfl (by kernel_rfl) rfl rfl ⟨(fun hc => hc), (fun hc => hc), trivial⟩ ?_
        refine vcallg 37 rfl (by kernel_rfl) rfl (fun hc => (r26_Settles_ok _ _ _)) rfl rfl ⟨(fun hc => hc), (fun hc => hc), (fun hc => hc), trivial⟩ rfl fun _ => ?_
        refine gov tbv48ok [38, 39] 0 rfl (by kernel_rfl) rfl rfl ⟨(fun hc => hc), (fun hc => hc), rfl, rfl, trivial⟩ ?_
        refine vdone (by kernel_rfl) ?_
        refine go tbv48ok 1 rfl rfl trivial ?_
        refine cnd rfl (fun h40 => ?_) (fun h40 => ?_)
        · have e41 := e38.trans (condT h40)
          refine go tbv48ok 12 rfl rfl trivial ?_
          exact rt1 rfl rfl (ple_of (fun r : Bool => .bool r) e41 (ple rfl))
        · have h42 := orl h40
          have h43 := orl h42
          have h44 := orl h43
          have h45 := orl h44
          have h46 := not_f h45
          have p47 := dt h46
          have h48 := orr h44
          have h49 := not_f h48
          have h50 := orr h43
          have h51 := not_f h50
          have p52 := dt h51
          have h53 := orr h42
          have h54 := not_f h53
          have p55 := dt h54
          have h56 := orr h40
          have h57 := not_f h56
          have p58 := beqT h57
          have e59 := e38.trans (condF h40)
          refine go tbv48ok 5 rfl rfl trivial ?_
          refine ef (storeA tbv48ok rfl rfl rfl rfl rfl rfl rfl rfl rfl rfl ?_)
          refine go tbv48ok 8 rfl rfl ⟨(by omega), trivial⟩ ?_
          refine next ⟨(k + 1), r1.1, r.1⟩ rfl rfl ⟨rfl, rfl, trivial⟩ ⟨rfl, trivial⟩ ?_ ?_
          · (try simp only []); omega
          · exact ⟨by (try simp only []); omega, e59, ⟨by assumption, by omega⟩⟩
      · have p60 := df h14
        have e61 := lstep (f := fun zz => l26_DraftPlays_l0 more tick zz  q x) hp13_2 (dropN (by omega)) (l26_DraftPlays_l0.eq_1 _ _ _ _)
        refine go tbv48ok 8 rfl rfl trivial ?_
        refine callv (l22_All more) (fun r : (List DeedR) × Bool => .tup [.sl DeedR.pc r.1, .bool r.2]) (l22_All_ok _ (by first | omega | (simp; omega) | decide +kernel)) rfl rfl fun r4 hr62 w63 => ?_
        have e64 := e61.trans (lt_eq hr62)
        have hA64 := all_len more
        (try rw [← hr62] at hA64)
        refine go tbv48ok 11 rfl rfl trivial ?_
        refine callv (draft_Draft_Add x more) (fun r : DraftR × Int => .tup [.agg (DraftR.pc r.1), .int .i64 r.2]) (draft_Draft_Add_ok _ _ (by first | omega | (simp; omega) | decide +kernel)) rfl rfl fun r5 hr66 w67 => ?_
        have e68 := e64.trans (lt_eq hr66)
        have hA68 := add_dok x more
        (try rw [← hr66] at hA68)
        (try have hA68b := hA68 (by first | assumption | omega | exact dok_nil | (simp; done)))
        (try have hA68c := hA68b)
        (try obtain ⟨hA68d0, hA68d1, hA68d2⟩ := hA68c)
        refine go tbv48ok 3 rfl rfl trivial ?_
        refine ef (alloc tbv48ok 1 rfl rfl rfl rfl fun b70 => ?_)
        refine ef (storeA tbv48ok rfl rfl rfl rfl rfl rfl rfl rfl rfl rfl ?_)
        refine go tbv48ok 7 rfl rfl trivial ?_
        refine callv (r26_Add q r4.1) (fun r : (List DeedR) × Int => .tup [.sl DeedR.pc r.1, .int .i64 r.2]) (r26_Add_ok _ _ (by first | omega | (simp; omega) | decide +kernel)) rfl rfl fun r6 hr71 w72 => ?_
        have e73 := e68.trans (lt_eq hr71)
        have hA73 := radd_len q r4.1
        (try rw [← hr71] at hA73)
        (try have hA73b := hA73 (by first | assumption | omega | exact dok_nil | (simp; done)))
        refine go tbv48ok 11 rfl rfl trivial ?_
        refine callv (draft_Draft_At r5.1 tick) (fun r : (List DeedR) => .sl DeedR.pc r) (draft_Draft_At_ok _ _ (by first | omega | (simp; omega) | decide +kernel) (by assumption)) rfl rfl fun r7 hr75 w76 => ?_
        have e77 := e73.trans (lt_eq hr75)
        have hA77 := at_len r5.1 tick
        (try rw [← hr75] at hA77)
        refine callv (l22_All r7) (fun r : (List DeedR) × Bool => .tup [.sl DeedR.pc r.1, .bool r.2]) (l22_All_ok _ (by first | omega | (simp; omega) | decide +kernel)) rfl rfl fun r8 hr79 w80 => ?_
        have e81 := e77.trans (lt_eq hr79)
        have hA81 := all_len r7
        (try rw [← hr79] at hA81)
        refine go tbv48ok 16 rfl rfl trivial ?_
        refine callg rfl (fun hc => (r26_At_ok _ _ (by first | omega | (simp; omega) | decide +kernel))) rfl ⟨(fun hc => hc), (fun hc => hc), trivial⟩ rfl rfl fun _ => ?_
        refine callg rfl (fun hc => (r22_SameAll_ok _ _)) rfl ⟨(fun hc => hc), (fun hc => hc), trivial⟩ rfl rfl fun _ => ?_
        refine go tbv48ok 5 rfl rfl ⟨rfl, rfl, trivial⟩ ?_
        exact rt1 rfl rfl (ple_of (fun r : Bool => .bool r) e81 (ple rfl))
end Go.SW.V
namespace Go.SW
open Go.ChangeShapes Go.WideShapes Go.ChangeAt Go.RowKit
def hp (w : World) : Hp := fun b => w.heap[b]?
def rest0 (w : World) : Rest := ⟨fun _ => none, w.os, w.tape, w.output⟩
theorem mem0 (w : World) : Mem (rest0 w) (hp w) l0 w :=
  { os := rfl, tape := rfl, output := rfl, n := fun _ _ h => (by cases h), h := fun _ _ h => h, l := fun _ _ _ h => (by cases h), nh := fun _ _ h => (by cases h), nl := fun _ _ _ h => (by cases h), ll := fun _ _ _ _ _ h => (by cases h) }
theorem mem0_below {w w' : World} {L : Ls} (h : Mem (rest0 w) (hp w) L w') : Below w.heap.size w w' := by
  have hb : ∀ k, k < w.heap.size → w'.heap[k]? = w.heap[k]? := fun k hk => by
    have e : w.heap[k]? = some w.heap[k] := Array.getElem?_eq_getElem hk
    rw [e]; exact h.h k _ e
  refine ⟨h.os, h.tape, h.output, ?_, hb⟩
  by_cases z : w.heap.size = 0
  · omega
  · have := hb (w.heap.size - 1) (by omega)
    rw [Array.getElem?_eq_getElem (show w.heap.size - 1 < w.heap.size by omega)] at this
    have := (Array.getElem?_eq_some_iff.1 this).1
    omega
section
variable {Ht : Type} {enc : TypeId × Value → Ht} {P : Program} {w : World} {base fuel : Nat} {spare : Nat → Bool} {held : Bool} {cs : List Value} {x : DataW Ht × List MemPlace} {t : TypeId}
theorem rd_int {k : IntKind} (ht : P.underlying t = some (.int k)) (h : DataW.trod enc P w base spare held fuel t cs = some x) : ∃ z : Int, cs = [.int k z] ∧ k.min ≤ z ∧ z ≤ k.max := by
  obtain ⟨z, h1, _, h2⟩ := DataW.trod_int ht h
  refine ⟨z, h1, ?_⟩
  simp only [Lit.wf, Bool.and_eq_true, decide_eq_true_eq] at h2; exact h2
theorem rd_bool (ht : P.underlying t = some .bool) (h : DataW.trod enc P w base spare held fuel t cs = some x) : ∃ z : Bool, cs = [.bool z] := by
  obtain ⟨z, h1, _⟩ := DataW.trod_bool ht h
  exact ⟨z, h1⟩
theorem rd_str (ht : P.underlying t = some .string) (h : DataW.trod enc P w base spare held fuel t cs = some x) : ∃ s : Bs, cs = [str s] ∧ s.length ≤ 9223372036854775807 := by
  obtain ⟨s, h1, _, h2⟩ := DataW.trod_string ht h
  refine ⟨s.data.toList, by rw [h1, str_of], ?_⟩
  have : s.data.toList.length = s.size := Array.length_toList
  rw [this]; exact h2
theorem list_of {α : Type} {Q : Nat → α → Prop} : ∀ n, (∀ i, i < n → ∃ r, Q i r) → ∃ rs : List α, rs.length = n ∧ ∀ i (h : i < rs.length), Q i rs[i]
  | 0, _ => ⟨[], rfl, fun i h => by cases h⟩
  | n + 1, hq => by
    obtain ⟨rs, hl, hr⟩ := list_of n (fun i hi => hq i (by omega))
    obtain ⟨r, hr0⟩ := hq n (by omega)
    refine ⟨rs ++ [r], by simp [hl], fun i hi => ?_⟩
    by_cases e : i < rs.length
    · rw [List.getElem_append_left e]; exact hr i e
    · have : i = rs.length := by simp at hi; omega
      subst this
      rw [List.getElem_append_right (Nat.le_refl _)]
      simp only [Nat.sub_self, List.getElem_cons_zero]
      rw [hl]; exact hr0
/-- A struct's field. -/
theorem rd_fld {fs : Array Field} {xs : List (DataW Ht × List MemPlace)} {n i o k : Nat} {f : Field} {ft : TypeId} (hf : ∀ (i : Nat) (f : Field), fs[i]? = some f → DataW.trod enc P w base spare held n f.type ((cs.drop f.offset).take (P.cellsOf f.type)) = xs[i]?) (hl : xs.length = fs.size)
    (hi : fs[i]? = some f) (ho : f.offset = o) (ht : f.type = ft) (hk : P.cellsOf ft = k) : ∃ y, DataW.trod enc P w base spare held n ft ((cs.drop o).take k) = some y := by
  have h := hf i f hi
  have hlt : i < fs.size := (Array.getElem?_eq_some_iff.1 hi).1
  rw [ho, ht, hk, List.getElem?_eq_getElem (by omega)] at h
  exact ⟨_, h⟩
end
theorem params_ok {P : Program} {ts : Array TypeId} (h : (ts.toList.all fun t => P.readableRec t && decide (t < P.types.size)) = true) : ∀ t ∈ ts.toList, P.readableRec t = true ∧ t < P.types.size := fun t ht => by
  have := List.all_eq_true.1 h t ht
  simpa using this
theorem rd_one_int {Ht : Type} {enc : TypeId × Value → Ht} {P : Program} {w : World} {r : Reach} {b0 base : Nat} {spare : Nat → Bool} {held : Bool} {t : TypeId} {k : IntKind} {v : Value} {d : DataW Ht} {p : List MemPlace} (hs : P.underlying t = some (.int k)) (hv : Value.okWide P w r b0 t v)
    (h : DataW.Trod enc P w base spare held t v d p) : ∃ z : Int, v = .int k z ∧ k.min ≤ z ∧ z ≤ k.max := by
  obtain ⟨z, rfl, _, _, hw⟩ := open_int hs hv h
  refine ⟨z, rfl, ?_⟩
  simp only [Lit.wf, Bool.and_eq_true, decide_eq_true_eq] at hw; exact hw
/-- The cells of a datum. -/
def flatD : Nat → DataW Unit → List Value
  | _, .lit (.int k n) => [.int k n]
  | _, .lit (.string s) => [.string ⟨s.toArray⟩]
  | _, .lit (.bool b) => [.bool b]
  | n + 1, .agg l => l.flatMap (flatD n)
  | _, _ => []
/-- The settled world, with data laid in its variables. -/
def layD (d : DataW Unit) : Obj → Obj
  | .cells _ t frozen => .cells (flatD 5 d).toArray t frozen
  | o => o
noncomputable def laidW (P : Program) (os : Os) (l : List (Nat × DataW Unit)) : World :=
  let w0 := World.holding P os ⟨#[], #[], []⟩
  { w0 with heap := List.foldl (fun h x => h.modify x.1 (layD x.2)) w0.heap l }
/-- Each argument reads as it did, where below the heap's old size nothing has turned. -/
theorem trodAll_stays {Ht : Type} {enc : TypeId × Value → Ht} {P : Program} (hl : laidOutB P = true) {W W' : World} (hb : Below W.heap.size W W') {sp : Nat → Bool} : ∀ {ts : List TypeId} {vs : List Value} {ds : List (DataW Ht)} {ps : List MemPlace}, (∀ t ∈ ts, P.readableRec t = true ∧ t < P.types.size) →
    DataW.TrodAll enc P W 0 (fun _ => true) true ts vs ds ps → (∀ x ∈ ps, x.block < W.heap.size) → (∀ x ∈ ps, sp x.block = true) → DataW.TrodAll enc P W' 0 sp true ts vs ds ps := by
  intro ts
  induction ts with
  | nil => intro vs ds ps _ h _ _; cases vs <;> cases ds <;> first | exact h | exact h.elim
  | cons t ts ih =>
    intro vs ds ps hr h hlt hsp
    obtain ⟨v, vs', d, ds', p, q, rfl, rfl, rfl, h1, h2⟩ := trodAll_cons h
    exact trodAll_cons_mk (WideElems.Trod_stays hl (hr t (by simp)).1 (hr t (by simp)).2 h1 (fun x hx => hb.same (hlt x (by simp [hx]))) (fun x hx => hsp x (by simp [hx]))) (ih (fun u hu => hr u (by simp [hu])) h2 (fun x hx => hlt x (by simp [hx])) (fun x hx => hsp x (by simp [hx])))
section
variable {Ht : Type} {enc : TypeId × Value → Ht} {P : Program}
/-- A row's last step where below the heap's old size nothing has turned: it hands back true, and the arguments read as they did. -/
theorem law_post {f : Func} {s : ChangeSpec} {apart fresh again : Bool} {W W' : World} {args : Array Value} {ds : List (DataW Ht)} {before : List MemPlace} {tb : TypeId} (hvars : s.vars = [])
    (hW : DataW.Whole enc P f.params.toList s.vars apart W args.toList ds [] before) (hb : Below W.heap.size W W') (hl : laidOutB P = true) (hr : ∀ t ∈ f.params.toList, P.readableRec t = true ∧ t < P.types.size)
    (hres : f.resultTypes = #[tb]) (hu : P.underlying tb = some .bool) (hfn : s.fn Ht (ds ++ []) = { results := [.lit (.bool true)], args := ds }) : s.post enc P f apart fresh false again W args (.bool true) W' := by
  have hlt : ∀ p ∈ before, p.block < W.heap.size := fun p hp => hW.lt p hp
  have hold : ∀ p ∈ before, (fun b => decide (b < W.heap.size)) p.block = true := fun p hp => by simpa using hlt p hp
  have hW0 := hW
  obtain ⟨p, q, hA, hV, rfl, hz, hn⟩ := hW0
  have hq : q = [] := by
    rw [hvars] at hV
    exact (trodVars_none hV).2
  subst hq
  rw [List.append_nil] at hlt hold hz hn hW
  have hA0 : DataW.TrodAll enc P W 0 (fun _ => true) true f.params.toList args.toList ds p := hA
  have hargs : ∀ sp : Nat → Bool, (∀ x ∈ p, sp x.block = true) → DataW.TrodAll enc P W' 0 sp true f.params.toList args.toList ds p := fun sp hs => trodAll_stays hl hb hr hA0 hlt hs
  have hvs : ∀ sp : Nat → Bool, DataW.TrodVars enc P W' sp s.vars ([] : List (DataW Ht)) [] := fun sp => by rw [hvars]; rfl
  have hR : ∀ (b : Nat) (sp : Nat → Bool) (hd : Bool), DataW.TrodAll enc P W' b sp hd f.resultTypes.toList ((Value.bool true).resultList f.resultTypes.size) [.lit (.bool true)] [] := fun b sp hd => by
    rw [hres]
    exact trodAll_mk1 (shut_bool hu true)
  have hok : ∀ (j : Nat) (t : TypeId) (r : Value), f.resultTypes[j]? = some t → ((Value.bool true).resultList f.resultTypes.size)[j]? = some r → Value.okWide P W' .any 0 t r := ok_one hres rfl (okWide_bool_mk hu true)
  refine ⟨ds, [], p, [], p, [], hW, ?_, ?_, ?_, World.keptBut_mono (fun x hx => ⟨hx, Or.inr (by simpa using hx)⟩) (hb.frame (· ∈ p)), fun _ => ?_⟩
  · rw [hfn]; exact hR _ _ _
  · rw [hfn]; exact hargs _ hold
  · rw [hfn]; exact hvs _
  · refine ⟨hok, _, _, ([] ++ p) ++ [], ⟨[] ++ p, [], trodAll_append (hargs _ (fun _ _ => rfl)) (hR _ _ _), hvs _, rfl, ?_, ?_⟩, ?_⟩
    · intro b off hp
      have hin : MemPlace.cell b off ∈ p := by simpa using hp
      rw [hb.frozen (hlt _ hin)]
      exact hz b off hin
    · intro ha
      have := hn ha
      simpa using this
    · intro x hx _
      simpa using hx
/-- A variable of type int holds an int. -/
theorem gint_of_shape {w : World} {g : Nat} {t : TypeId} {zero : Array Value} (h : w.ShapedOpen P) (hg : g < P.globals.size)
    (h0 : ((begin P (fun _ _ => 0) default).world.heap[g]?).bind Obj.row? = some (zero, t)) (hz : zero.size = 1)
    (hb : P.buildable t = true) (hc : P.cellTypes P.depth t = some [t]) (hu : P.underlying t = some (.int .i64)) : GInt (hp w) g := by
  obtain ⟨cs, hh, hs, hr⟩ := h.1 g zero t hg h0
  obtain ⟨ts, hts, _, hall⟩ := hr hb
  rw [hc] at hts
  cases hts
  have h1 : 0 < cs.size := by omega
  obtain ⟨u, hu', hok⟩ := hall 0 cs[0] (by simp [h1])
  have : u = t := by simpa using hu'.symm
  subst this
  unfold Cell.ok at hok
  rw [hu] at hok
  have hv : ∃ m, cs[0] = .int .i64 m := by
    cases hv : cs[0] <;> rw [hv] at hok <;> first | exact ⟨_, by rw [hok.1]⟩ | simp at hok
  obtain ⟨m, hm⟩ := hv
  refine ⟨m, u, (0, 0), ?_⟩
  show w.heap[g]? = _
  rw [hh]
  have e : cs = #[.int .i64 m] := by
    apply Array.ext
    · simp; omega
    · intro i hi1 hi2
      have : i = 0 := by simp at hi2; omega
      subst this
      simpa using hm
  rw [e]
end
end Go.SW
namespace Go.SW
open Go.ChangeShapes Go.WideShapes Go.ChangeAt Go.RowKit
variable {P : Program}
theorem dat_slice {Ht : Type} {enc : TypeId × Value → Ht} {w : World} {base fuel : Nat} {spare : Nat → Bool} {held : Bool} {a : Option Addr} {l c : Nat} {x : DataW Ht × List MemPlace} {t e : TypeId} (ht : P.underlying t = some (.slice e))
    (h : DataW.trod enc P w base spare held fuel t [.slice a l c] = some x) : x.1 = .nil ∧ l = 0 ∨ ∃ el sp, x.1 = .slice el sp ∧ el.length = l := by
  rcases Go.Deep.open_slice ht h with ⟨h1, h2⟩ | ⟨a', len, cap, m, nf, D, Pl, h1, _, hl, hm, hmm, hx, _⟩
  · cases h1; subst h2; exact .inl ⟨rfl, rfl⟩
  · cases h1; subst hx; exact .inr ⟨_, _, rfl, by simp⟩
theorem rd_one_slice {w : World} {r : Reach} {b0 : Nat} {t e : TypeId} {v : Value} {a : Option Addr} {l c : Nat} (hs : P.underlying t = some (.slice e)) (hv : Value.okWide P w r b0 t v) (he : v.cells.toList = [.slice a l c]) : v = .slice a l c := by
  unfold Value.okWide at hv
  rw [hs] at hv
  simp only at hv
  unfold Cell.okWide at hv
  rw [hs] at hv
  cases v with
  | agg cs => simp [Cell.ok, hs] at hv
  | _ => exact (List.cons.inj he).1
end Go.SW
namespace Go.SW
open Go.ChangeShapes Go.WideShapes Go.ChangeAt Go.RowKit
variable {P : Program}
/-- What is read at a type stands for something. -/
def Rdv {α : Type} (P : Program) (t : TypeId) (en : α → List PV) (k : Nat) : Prop :=
  ∀ (Ht : Type) (enc : TypeId × Value → Ht) (w : World) (base : Nat) (spare : Nat → Bool) (held : Bool) (fuel : Nat) (cs : List Value) (x : DataW Ht × List MemPlace),
    DataW.trod enc P w base spare held fuel t cs = some x → (∀ n ∈ x.1.weights P t, n ≤ reachBytes) → ∃ r : α, RowE en k (hp w) r cs
theorem rowE1 {α : Type} {en : α → List PV} {H : Hp} {r : α} {p : PV} {v : Value} (he : en r = [p]) (h : Sim H p v) (ho : v.oneCell' = true) : RowE en 1 H r [v] :=
  ⟨by rw [he]; rfl, by rw [he]; exact Sims.nil.cons h, fun u hu => by rw [List.mem_singleton.1 hu]; exact ho⟩
theorem rdv_int {k : IntKind} {t : TypeId} (ht : P.underlying t = some (.int k)) : Rdv P t (fun z : Int => [.int k z]) 1 := fun _ _ _ _ _ _ _ _ _ h _ => by
  obtain ⟨z, rfl, h1, h2⟩ := rd_int ht h
  exact ⟨z, rowE1 rfl (.int h1 h2) rfl⟩
theorem rdv_bool {t : TypeId} (ht : P.underlying t = some .bool) : Rdv P t (fun z : Bool => [.bool z]) 1 := fun _ _ _ _ _ _ _ _ _ h _ => by
  obtain ⟨z, rfl⟩ := rd_bool ht h
  exact ⟨z, rowE1 rfl .bool rfl⟩
theorem rdv_str {t : TypeId} (ht : P.underlying t = some .string) : Rdv P t (fun s : Bs => [.str s]) 1 := fun _ _ _ _ _ _ _ _ _ h _ => by
  obtain ⟨s, rfl, h1⟩ := rd_str ht h
  exact ⟨s, rowE1 rfl (.str h1) rfl⟩
theorem weightsAll_mem {H : Type} {e : TypeId} : ∀ {ds : List (DataW H)} {d : DataW H} {n : Nat}, d ∈ ds → n ∈ d.weights P e → n ∈ DataW.weightsAll P e ds
  | [], _, _, h, _ => by cases h
  | d0 :: r, d, n, h, hn => by
    simp only [DataW.weightsAll, List.mem_append]
    rcases List.mem_cons.1 h with rfl | q
    · exact .inl hn
    · exact .inr (weightsAll_mem q hn)
theorem rdv_slice {α : Type} {en : α → List PV} {k : Nat} {t e : TypeId} (ht : P.underlying t = some (.slice e)) (hk : P.cellsOf e = k) (h0 : 0 < k) (hb : 0 < P.bytesOf e) (he : Rdv P e en k) : Rdv P t (fun xs : List α => [.sl en xs]) 1 := fun Ht enc w base spare held fuel cs x h hw => by
  have hlen : ∀ {a : Option Addr} {l c : Nat}, cs = [.slice a l c] → l ≤ 140737488355328 := fun {a l c} hcs => by
    subst hcs
    rcases dat_slice ht h with ⟨_, rfl⟩ | ⟨el, sp, hx, rfl⟩
    · exact Nat.zero_le _
    · have := hw ((el.length + sp.length) * P.bytesOf e) (by rw [hx]; simp [DataW.weights, ht])
      have h1 : el.length ≤ (el.length + sp.length) * P.bytesOf e := Nat.le_trans (Nat.le_add_right _ _) (Nat.le_mul_of_pos_right _ hb)
      have h2 : reachBytes = 140737488351232 := by decide
      omega
  rcases Go.Deep.open_slice ht h with ⟨h1, _⟩ | ⟨a, len, cap, m, nf, D, Pl, h1, _, hl, hm, hmm, hx, hi⟩
  · subst h1
    exact ⟨[], rowE1 rfl (Sim.of_slh (k := 0) slh_nil (by simp)) rfl⟩
  · have hs0 : 0 < len → a = ⟨a.block, a.off, none⟩ := by
      intro hl0
      obtain ⟨cs', hc, hT⟩ := hi 0 (by rw [hmm]; split <;> omega)
      rw [hk, Nat.zero_mul] at hc
      obtain ⟨_, hcl, hat⟩ := World.cells?_some hc
      have ha0 := hat 0 h0
      rw [List.getElem?_eq_getElem (by omega)] at ha0
      obtain ⟨ab, ao, asp⟩ := a
      cases asp with
      | none => rfl
      | some z =>
        exfalso
        unfold World.cell? at ha0
        simp only [Addr.add] at ha0
        split at ha0 <;> simp at ha0
    have hwD : ∀ i, i < len → ∀ n ∈ (D i).weights P e, n ≤ reachBytes := fun i hil n hn => by
      refine hw n ?_
      rw [hx]
      simp only [DataW.weights, ht, List.mem_cons, List.mem_append]
      exact .inr (.inl (weightsAll_mem (List.mem_map.2 ⟨i, List.mem_range.2 hil, rfl⟩) hn))
    have key : ∀ i, i < len → ∃ r : α, ∃ cs', RowE en k (hp w) r cs' ∧ SlAt (hp w) (.slice (some a) len cap) k i cs' := by
      intro i hil
      have ha := hs0 (by omega)
      obtain ⟨cs', hc, hT⟩ := hi i (by rw [hmm]; split <;> omega)
      obtain ⟨r, hr⟩ := he _ _ _ _ _ _ _ _ _ hT (hwD i hil)
      rw [hk] at hc
      obtain ⟨_, hcl, hat⟩ := World.cells?_some hc
      refine ⟨r, cs', hr, ?_⟩
      generalize a.block = ab at ha
      generalize a.off = ao at ha
      subst ha
      simp only [add_none] at hat
      have ha0 := hat 0 h0
      rw [List.getElem?_eq_getElem (by omega)] at ha0
      unfold World.cell? at ha0
      simp only at ha0
      split at ha0
      · rename_i c T fr hb
        refine ⟨ab, ao, len, cap, c, T, fr, rfl, hb, hcl, fun j hj => ?_⟩
        have := hat j hj
        unfold World.cell? at this
        simp only at this
        rw [hb] at this
        simpa using this
      · cases ha0
    obtain ⟨rs, hlen', hr⟩ := list_of (Q := fun i (r : α) => ∃ cs', RowE en k (hp w) r cs' ∧ SlAt (hp w) (.slice (some a) len cap) k i cs') len key
    have hs : SlH (RowE en k) k (hp w) (.slice (some a) rs.length cap) rs := ⟨⟨some a, cap, rfl, by omega⟩, fun i hi => by rw [hlen']; exact hr i hi⟩
    subst h1
    have hle := hlen (rfl : [Value.slice (some a) len cap] = _)
    refine ⟨rs, rowE1 rfl (v := .slice (some a) len cap) (by rw [← hlen']; exact Sim.of_slh hs (by omega)) rfl⟩
/-- The fields of a struct, one after the other. -/
theorem rows_app {ps qs : List PV} {H : Hp} {cs ds : List Value} {m n : Nat} (h : ps.length = m ∧ Sims H ps cs ∧ ∀ u ∈ cs, u.oneCell' = true) (k : qs.length = n ∧ Sims H qs ds ∧ ∀ u ∈ ds, u.oneCell' = true) : (ps ++ qs).length = m + n ∧ Sims H (ps ++ qs) (cs ++ ds) ∧ ∀ u ∈ cs ++ ds, u.oneCell' = true :=
  ⟨by simp [h.1, k.1], h.2.1.append k.2.1, fun u hu => by rcases List.mem_append.1 hu with q | q; exact h.2.2 u q; exact k.2.2 u q⟩
theorem rdv_fld {Ht : Type} {enc : TypeId × Value → Ht} {w : World} {base : Nat} {spare : Nat → Bool} {held : Bool} {cs : List Value} {t : TypeId} {fs : Array Field} {xs : List (DataW Ht × List MemPlace)} {n i o k : Nat} {f : Field} {ft : TypeId} {α : Type} {en : α → List PV} (ht : P.underlying t = some (.struct fs))
    (hf : ∀ (i : Nat) (f : Field), fs[i]? = some f → DataW.trod enc P w base spare held n f.type ((cs.drop f.offset).take (P.cellsOf f.type)) = xs[i]?) (hl : xs.length = fs.size) (hw : ∀ q ∈ (DataW.agg (xs.map (·.1)) : DataW Ht).weights P t, q ≤ reachBytes)
    (hi : fs[i]? = some f) (ho : f.offset = o) (hft : f.type = ft) (hk : P.cellsOf ft = k) (hr : Rdv P ft en k) : ∃ r, RowE en k (hp w) r ((cs.drop o).take k) := by
  obtain ⟨y, hy⟩ := rd_fld hf hl hi ho hft hk
  refine hr _ _ _ _ _ _ _ _ _ hy fun q hq => hw q ?_
  have h := hf i f hi
  rw [ho, hft, hk, hy] at h
  simp only [DataW.weights, ht]
  refine DataW.weights_mem_each (j := i) (t := ft) (d := y.1) ?_ ?_ q hq
  · rw [List.getElem?_map, Array.getElem?_toList, hi]; simp [hft]
  · rw [List.getElem?_map, ← h]; rfl
theorem row_cut {en : List PV} {H : Hp} {cs : List Value} {o k : Nat} {q : Nat} (h : en.length = k ∧ Sims H en ((cs.drop o).take k) ∧ ∀ u ∈ (cs.drop o).take k, u.oneCell' = true) {es : List PV} (hr : es.length = q ∧ Sims H es (cs.drop (o + k)) ∧ ∀ u ∈ cs.drop (o + k), u.oneCell' = true) : (en ++ es).length = k + q ∧ Sims H (en ++ es) (cs.drop o) ∧ ∀ u ∈ cs.drop o, u.oneCell' = true := by
  have := rows_app h hr
  rw [← List.drop_drop, List.take_append_drop] at this
  exact this
theorem row_last {en : List PV} {H : Hp} {cs : List Value} {o k : Nat} (hl : cs.length = o + k) (h : en.length = k ∧ Sims H en ((cs.drop o).take k) ∧ ∀ u ∈ (cs.drop o).take k, u.oneCell' = true) : en.length = k ∧ Sims H en (cs.drop o) ∧ ∀ u ∈ cs.drop o, u.oneCell' = true := by
  rw [List.take_of_length_le (by simp; omega)] at h
  exact h
/-! Arguments -/
section
variable {Ht : Type} {enc : TypeId × Value → Ht} {w : World} {r : Reach} {b0 base : Nat} {spare : Nat → Bool} {held : Bool} {t : TypeId} {v : Value} {d : DataW Ht} {p : List MemPlace}
theorem arg_int {k : IntKind} (hs : P.underlying t = some (.int k)) (hv : Value.okWide P w r b0 t v) (h : DataW.Trod enc P w base spare held t v d p) : ∃ z : Int, Sim (hp w) (.int k z) v := by
  obtain ⟨z, rfl, h1, h2⟩ := rd_one_int hs hv h
  exact ⟨z, .int h1 h2⟩
theorem arg_sl {α : Type} {en : α → List PV} {e : TypeId} (hs : P.underlying t = some (.slice e)) (hv : Value.okWide P w r b0 t v) (h : DataW.Trod enc P w base spare held t v d p) (hw : ∀ q ∈ d.weights P t, q ≤ reachBytes) (hr : Rdv P t (fun xs : List α => [.sl en xs]) 1) : ∃ z : List α, Sim (hp w) (.sl en z) v := by
  obtain ⟨fuel, h1⟩ := h
  obtain ⟨z, h2⟩ := hr _ _ _ _ _ _ _ _ _ h1 hw
  obtain ⟨u, us, e1, h3, h4⟩ := h2.2.1.inv_cons
  cases h4.inv_nil
  have : ∃ a l c, u = .slice a l c := by cases h3; exact ⟨_, _, _, rfl⟩
  obtain ⟨a, l, c, rfl⟩ := this
  obtain rfl := rd_one_slice hs hv e1
  exact ⟨z, h3⟩
theorem wt_arg {ts : List TypeId} {ds : List (DataW Ht)} {j : Nat} (hw : (DataW.weightsEach P ts ds).all (· ≤ reachBytes) = true) (ht : ts[j]? = some t) (hd : ds[j]? = some d) : ∀ q ∈ d.weights P t, q ≤ reachBytes := fun q hq => by
  have := List.all_eq_true.1 hw q (DataW.weights_mem_each ht hd q hq)
  simpa using this
end
/-- A law's call, closed. -/
theorem law_run {G : Gb} {f : FuncId} {args : List PV} {b : Bool} {vs : List Value} {W : World} (h : Fn P G f args (.bool b)) (hg : G.p (hp W)) (hs : Sims (hp W) args vs) (hb : b = true) : Calls P f vs.toArray W fun e W' => e = .returned (.bool true) ∧ Mem (rest0 W) (hp W) l0 W' :=
  (h.run (rest0 W) (hp W) l0 W vs hg hs (mem0 W)).mono fun _ _ ⟨v, H', h1, h2, h3, h4⟩ => ⟨by rw [h1, h2.inv_bool, hb], h4.le h3⟩
end Go.SW
namespace Go.SW.V
open Go.SW
theorem dset (l : List DeedR) (n : Bs) (i : Int) : draft_Draft_Settles ⟨l⟩ n i = r26_Settles l n i := by
  unfold draft_Draft_Settles r26_Settles
  rw [Bool.eq_iff_iff, decide_eq_true_eq, idxP_any]
  induction l with
  | nil => simp [r26_Settles_l0]
  | cons d l ih =>
    simp only [List.any_cons, r26_Settles_l0, Bool.cond_eq_ite, draft_Settles1] at *
    split
    · rename_i h; simp [h]
    · rename_i h; simp only [Bool.eq_false_iff.2 h, Bool.false_or]; exact ih
theorem dchk (x : List DeedR) (d : DeedR) : draft_Draft_check ⟨x⟩ d = (bif ((!decide (d.kind = 6)) && (!decide (d.kind = 8))) then 8 else (bif !decide (deedE d = 0) then deedE d else (bif ((decide (d.kind = 8)) && (r26_Settles x d.name d.id)) then 9 else (bif decide (16 ≤ (x.length : Int)) then 12 else 0)))) := by
  unfold draft_Draft_check
  rw [← dset]
  cases h1 : decide (d.kind = 6) <;> cases h2 : decide (d.kind = 8) <;> simp [lp0]
theorem dadd0 (x : List DeedR) : ∀ (l y : List DeedR), draft_Draft_Add_l0 ⟨x⟩ l ⟨y⟩ = (⟨(r26_Add_l0 x l y).1⟩, (r26_Add_l0 x l y).2)
  | [], y => rfl
  | d :: l, y => by
    simp only [draft_Draft_Add_l0, r26_Add_l0, lt, dchk, Bool.cond_eq_ite]
    have hk : ([y, [draft_clone d]].flatten) = y ++ [d] := by simp [draft_clone]
    rw [hk, dadd0 x l (y ++ [d])]
    repeat' split
    all_goals first | rfl | (exfalso; simp_all; done) | (simp_all; done)
theorem dadd (x l : List DeedR) : draft_Draft_Add ⟨x⟩ l = (⟨(r26_Add x l).1⟩, (r26_Add x l).2) := dadd0 x l x
theorem dat0 (t : Int) : ∀ (l out : List DeedR), draft_Draft_At_l0 t l out = r26_At_l0 t l out
  | [], out => rfl
  | d :: l, out => by
    simp only [draft_Draft_At_l0, r26_At_l0, lt, draft_clone, dat0 t l]
    rfl
theorem dat (x : List DeedR) (t : Int) : draft_Draft_At ⟨x⟩ t = r26_At x t := dat0 t x []
end Go.SW.V
namespace Go.SW.V
open Go.SW
theorem at_light0 (t : Int) : ∀ (l out : List DeedR), (∀ d ∈ l, lightD d = true) → (∀ d ∈ out, lightD d = true) → ∀ d ∈ r26_At_l0 t l out, lightD d = true
  | [], out, _, h => h
  | x :: l, out, hl, h => by
    simp only [r26_At_l0, Bool.cond_eq_ite]
    have hx := hl x List.mem_cons_self
    have hl' := fun d (hd : d ∈ l) => hl d (List.mem_cons_of_mem _ hd)
    split
    · refine at_light0 t l _ hl' fun d hd => ?_
      rcases List.mem_append.1 hd with q | q
      · exact h d q
      · rw [List.mem_singleton.1 q]; exact hx
    · refine at_light0 t l _ hl' fun d hd => ?_
      rcases List.mem_append.1 hd with q | q
      · exact h d q
      · rw [List.mem_singleton.1 q]; exact hx
theorem all_light0 : ∀ (l out : List DeedR), (∀ d ∈ l, lightD d = true) → l22_All_l0 l out = (out ++ l, true)
  | [], out, _ => by simp [l22_All_l0]
  | x :: l, out, h => by
    simp only [l22_All_l0, h x List.mem_cons_self, Bool.not_true, cond_false]
    rw [all_light0 l _ fun d hd => h d (List.mem_cons_of_mem _ hd)]
    simp
theorem all_light {l : List DeedR} (h : ∀ d ∈ l, lightD d = true) : l22_All l = (l, true) := by
  have := all_light0 l [] h
  simpa [l22_All] using this
theorem at_light {x : List DeedR} (t : Int) (h : ∀ d ∈ x, lightD d = true) : l22_All (r26_At x t) = (r26_At x t, true) := all_light (at_light0 t x [] h (by simp))
theorem same_all0 : ∀ (k : Nat) (a b : List DeedR), a.length + k = b.length → r22_SameAll_l0 b a k = decide (a = b.drop k)
  | k, [], b, h => by
    have : b.drop k = [] := List.drop_of_length_le (by simp at h; omega)
    simp [r22_SameAll_l0, this]
  | k, x :: a, b, h => by
    simp only [List.length_cons] at h
    simp only [r22_SameAll_l0]
    rw [dropG (xs := b) (k := k) (by omega), same_all0 (k + 1) a b (by omega)]
    by_cases e : x = gt b k <;> simp [e]
theorem same_all (a b : List DeedR) : r22_SameAll a b = decide (a = b) := by
  unfold r22_SameAll
  by_cases e : (a.length : Int) = b.length
  · simp only [e, decide_true, Bool.not_true, cond_false]
    rw [same_all0 0 a b (by omega)]; simp
  · simp only [e, decide_false, Bool.not_false, cond_true]
    have : a ≠ b := fun q => e (by rw [q])
    simp [this]
theorem radd_light0 (x : List DeedR) (hx : ∀ d ∈ x, lightD d = true) : ∀ (l out : List DeedR), (∀ d ∈ l, lightD d = true) → (∀ d ∈ out, lightD d = true) → ∀ d ∈ (r26_Add_l0 x l out).1, lightD d = true
  | [], out, _, h => h
  | y :: l, out, hl, h => by
    have hy := hl y List.mem_cons_self
    have hl' := fun d (hd : d ∈ l) => hl d (List.mem_cons_of_mem _ hd)
    simp only [r26_Add_l0, Bool.cond_eq_ite]
    repeat' split
    all_goals first
      | exact hx
      | (refine radd_light0 x hx l _ hl' fun d hd => ?_
         rcases List.mem_append.1 hd with q | q
         · exact h d q
         · rw [List.mem_singleton.1 q]; exact hy)
theorem radd_light {x l : List DeedR} (hx : ∀ d ∈ x, lightD d = true) (hl : ∀ d ∈ l, lightD d = true) : ∀ d ∈ (r26_Add x l).1, lightD d = true := radd_light0 x hx l x hl hx
theorem plays0 (more : List DeedR) (t : Int) (hm : ∀ d ∈ more, lightD d = true) : ∀ (l q : List DeedR), (∀ d ∈ l, lightD d = true) → (∀ d ∈ q, lightD d = true) → l26_DraftPlays_l0 more t l q ⟨q⟩ = true
  | [], q, _, hq => by
    simp only [l26_DraftPlays_l0, lt, dadd, dat, all_light hm, at_light t (radd_light hq hm), same_all]
    simp
  | d :: l, q, hl, hq => by
    have hd := hl d List.mem_cons_self
    have hl' := fun d (hd : d ∈ l) => hl d (List.mem_cons_of_mem _ hd)
    have h1 : ∀ e ∈ (r26_Add q [d]).1, lightD e = true := radd_light hq (by simp [hd])
    have ih := plays0 more t hm l _ hl' h1
    simp only [l26_DraftPlays_l0, lt, dadd, dat, at_light t h1, same_all, dset, draft_Draft_Len, ih]
    simp
theorem l26_plays (l more : List DeedR) (t : Int) : l26_DraftPlays l more t = true := by
  unfold l26_DraftPlays
  cases h1 : l23_Light l with
  | false => simp
  | true =>
    cases h2 : l23_Light more with
    | false => simp
    | true =>
      simp only [Bool.not_true, Bool.or_self, cond_false]
      exact plays0 more t (fun d hd => l23_mem h2 hd) l [] (fun d hd => l23_mem h1 hd) (by simp)
/-! In parts, or at once -/
/-! As many as0 there is room for -/
def putD (m : Mail) : DeedR := ⟨6, 0, ⟨[], 0, []⟩, ⟨[], 0, 0, []⟩, ⟨[], [], false, [], [], false⟩, [], 0, 0, 0, 0, 0, m, []⟩
end Go.SW.V
