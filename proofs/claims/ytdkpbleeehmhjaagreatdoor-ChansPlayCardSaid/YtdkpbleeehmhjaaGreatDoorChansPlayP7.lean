/-
  A part of the proof of ChansPlay: Channels: the code's answers are the document's; the laws of chapter 27. Plain laws; each asks what it lists.
-/
import Derived.Test.YtdkpbleeehmhjaaGreatDoorChansPlayP3
import Derived.Test.YtdkpbleeehmhjaaGreatDoorChansPlayP6
set_option linter.unusedVariables false
set_option linter.unusedSimpArgs false
namespace Go.SW.V
open Go.SW
theorem idxF_cons {α : Type} (p : α → Bool) : ∀ (l : List α) (k : Nat), idxF p k l = if idxP p l < 0 then -1 else idxP p l + k
  | [], k => by simp [idxF, idxP]
  | x :: l, k => by
    have h1 := idxF_cons p l (k + 1)
    have h2 := idxF_cons p l (0 + 1)
    simp only [idxP, idxF] at *
    by_cases e : p x = true
    · simp [e]
    · simp only [e, Bool.false_eq_true, if_false]
      rw [h1, h2]
      by_cases q : idxF p 0 l < 0
      · simp [q]
      · simp only [q, if_false]
        rw [if_neg (by omega)]
        omega
theorem idxP_cons {α : Type} (p : α → Bool) (x : α) (l : List α) : idxP p (x :: l) = if p x = true then 0 else if idxP p l < 0 then -1 else idxP p l + 1 := by
  have := idxF_cons p l 1
  simp only [idxP, idxF] at *
  split
  · rfl
  · simpa using this
structure Inv (c : ChanR) : Prop where
  tags : (c.takers.map TakerR.tag).Nodup
  held : c.drafts = false → c.held.l = []
  puts : c.sure = false → c.puts = 0
  light : ∀ d ∈ c.held.l, lightD d = true
  lent : ∀ x ∈ c.lent, x.queue.length ≤ 40
theorem inv_new : Inv chans_New := ⟨by simp [chans_New], by simp [chans_New], by simp [chans_New], by simp [chans_New], by simp [chans_New]⟩
theorem e_Credit (c : ChanR) {n : Int} (h : 0 ≤ n) : r27_Credit c n = chans_Chan_Credit c n := by
  simp only [r27_Credit, chans_Chan_Credit]
  have : decide (n < 1) = decide (n = 0) := by rw [Bool.eq_iff_iff]; simp; omega
  rw [this]
theorem take0 (c : ChanR) (t : Int) (q : Bs) : ∀ l, r27_Take_l0 c t q l = bif l.any (fun x => decide (x.tag = t)) then (c, 9) else r27_Take_l0 c t q []
  | [] => rfl
  | x :: l => by
    simp only [r27_Take_l0, List.any_cons]
    rw [take0 c t q l]
    cases decide (x.tag = t) <;> rfl
theorem e_Take (c : ChanR) (t : Int) (q : Bs) : r27_Take c t q = chans_Chan_Take c t q := by
  simp only [r27_Take, chans_Chan_Take, lt]
  rw [take0, show chans_Chan_of c t = idxP (fun z : TakerR => decide (z.tag = t)) c.takers from rfl]
  have : decide (0 ≤ idxP (fun z : TakerR => decide (z.tag = t)) c.takers) = c.takers.any (fun x => decide (x.tag = t)) := by
    rw [Bool.eq_iff_iff, decide_eq_true_eq, idxP_any]
  simp only [r27_Take_l0, List.flatten_cons, List.flatten_nil, List.append_nil]
  simp only [this]
theorem leave0 (c : ChanR) (t : Int) : ∀ (l out : List TakerR), r27_Leave_l0 c t l out = r27_Leave_l0 c t [] (out ++ l.filter (fun x => !decide (x.tag = t)))
  | [], out => by simp
  | x :: l, out => by
    conv => lhs; unfold r27_Leave_l0
    cases e : decide (x.tag = t)
    · simp only [Bool.not_false, cond_true]
      rw [leave0 c t l]
      simp [e]
    · simp only [Bool.not_true, cond_false]
      rw [leave0 c t l]
      simp [e]
theorem cut_filter (t : Int) : ∀ (l : List TakerR), (l.map TakerR.tag).Nodup → (idxP (fun z : TakerR => decide (z.tag = t)) l < 0 → l.filter (fun x => !decide (x.tag = t)) = l) ∧
    (0 ≤ idxP (fun z : TakerR => decide (z.tag = t)) l → l.filter (fun x => !decide (x.tag = t)) = l.take (idxP (fun z : TakerR => decide (z.tag = t)) l).toNat ++ l.drop (idxP (fun z : TakerR => decide (z.tag = t)) l + 1).toNat)
  | [], _ => ⟨fun _ => rfl, fun h => by simp [idxP, idxF] at h⟩
  | x :: l, hn => by
    simp only [List.map_cons, List.nodup_cons] at hn
    obtain ⟨i1, i2⟩ := cut_filter t l hn.2
    have hb := idxP_b (fun z : TakerR => decide (z.tag = t)) l
    rw [idxP_cons]
    by_cases e : x.tag = t
    · have hl : l.filter (fun x => !decide (x.tag = t)) = l := by
        rw [List.filter_eq_self]
        intro y hy
        have : y.tag ≠ t := fun q => hn.1 (by rw [e, ← q]; exact List.mem_map_of_mem hy)
        simp [this]
      simp [e, hl]
    · simp only [e, decide_false, Bool.false_eq_true, if_false, Bool.not_false, List.filter_cons, if_true]
      constructor
      · intro h
        have : idxP (fun z : TakerR => decide (z.tag = t)) l < 0 := by
          by_cases q : idxP (fun z : TakerR => decide (z.tag = t)) l < 0
          · exact q
          · rw [if_neg q] at h; omega
        rw [i1 this]
      · intro h
        have q : ¬ idxP (fun z : TakerR => decide (z.tag = t)) l < 0 := by
          intro q
          rw [if_pos q] at h
          omega
        rw [if_neg q]
        have h2 := i2 (by omega)
        generalize idxP (fun z : TakerR => decide (z.tag = t)) l = r at *
        rw [h2]
        have e1 : (r + 1).toNat = r.toNat + 1 := by omega
        have e2 : (r + 1 + 1).toNat = (r.toNat + 1) + 1 := by omega
        rw [e1, e2]
        simp
theorem e_Leave {c : ChanR} (t : Int) (h : Inv c) : r27_Leave c t = chans_Chan_Leave c t := by
  simp only [r27_Leave, chans_Chan_Leave, lt]
  rw [leave0, show chans_Chan_of c t = idxP (fun z : TakerR => decide (z.tag = t)) c.takers from rfl]
  obtain ⟨i1, i2⟩ := cut_filter t c.takers h.tags
  have hb := idxP_b (fun z : TakerR => decide (z.tag = t)) c.takers
  simp only [r27_Leave_l0, List.nil_append]
  by_cases q : idxP (fun z : TakerR => decide (z.tag = t)) c.takers < 0
  · rw [i1 q]; simp [q]
  · have h2 := i2 (by omega)
    rw [h2]
    have hl : ¬ ((c.takers.take (idxP (fun z : TakerR => decide (z.tag = t)) c.takers).toNat ++ c.takers.drop (idxP (fun z : TakerR => decide (z.tag = t)) c.takers + 1).toNat).length : Int) = (c.takers.length : Int) := by
      simp; omega
    simp only [hl, q, decide_false, cond_false, List.flatten_cons, List.flatten_nil, List.append_nil]
theorem e_Lend (c : ChanR) (x : LentR) : r27_Lend c x = chans_Chan_Lend c x := by
  simp [r27_Lend, chans_Chan_Lend]
theorem open0 (c : ChanR) : ∀ (l out : List LentR), r27_Open_l0 c l out = out ++ l.filter (fun x => !(r26_Settles c.held.l x.queue x.id))
  | [], out => by simp [r27_Open_l0]
  | x :: l, out => by
    simp only [r27_Open_l0]
    cases e : r26_Settles c.held.l x.queue x.id
    · simp only [Bool.not_false, cond_true]; rw [open0 c l]; simp [e]
    · simp only [Bool.not_true, cond_false]; rw [open0 c l]; simp [e]
theorem sets0 {c : ChanR} (i w : Int) (u : Bool) (h : Inv c) : ∀ (l : List LentR) (out : List DeedR), chans_Chan_Settles_l0 c i w u l out = r27_Settles_l0 i w u (l.filter (fun x => !(r26_Settles c.held.l x.queue x.id))) out
  | [], out => rfl
  | x :: l, out => by
    have hs : (c.drafts && draft_Draft_Settles c.held x.queue x.id) = r26_Settles c.held.l x.queue x.id := by
      rw [show draft_Draft_Settles c.held x.queue x.id = _ from dset c.held.l _ _]
      cases e : c.drafts
      · rw [h.held e]; rfl
      · rfl
    simp only [chans_Chan_Settles_l0, hs]
    cases e : r26_Settles c.held.l x.queue x.id
    · simp only [List.filter_cons, e, Bool.not_false, if_true, r27_Settles_l0, Bool.false_or]
      by_cases e2 : x.id = i
      · simp [e2]
      · cases u
        · simp [e2]; exact sets0 i w false h l out
        · simp [e2]; exact sets0 i w true h l _
    · simp only [List.filter_cons, e, Bool.not_true, Bool.true_or, cond_true, Bool.false_eq_true, if_false]
      exact sets0 i w u h l out
theorem e_Settles {c : ChanR} (i w : Int) (u : Bool) (h : Inv c) : r27_Settles c i w u = chans_Chan_Settles c i w u := by
  simp only [r27_Settles, chans_Chan_Settles, lt, r27_Open, open0, List.nil_append, sets0 i w u h]
def cutL (x : LentR) : List LentR → List LentR
  | [] => []
  | y :: l => if x = y then l else y :: cutL x l
theorem gone1 (c : ChanR) (d : DeedR) : ∀ (l out : List LentR), r27_Gone_l1 c d l out true = { c with lent := out ++ l } ∧ r27_Gone_l1 c d l out false = { c with lent := out ++ cutL ⟨d.id, d.name⟩ l }
  | [], out => by simp [r27_Gone_l1, cutL]
  | x :: l, out => by
    constructor
    · simp only [r27_Gone_l1, Bool.not_true, Bool.false_and, cond_false]
      rw [(gone1 c d l _).1]; simp
    · simp only [r27_Gone_l1, Bool.not_false, Bool.true_and, cutL]
      by_cases e : (⟨d.id, d.name⟩ : LentR) = x
      · subst e
        simp only [decide_true, Bool.and_self, cond_true, if_true]
        exact (gone1 c d l out).1
      · have : (decide (x.id = d.id) && decide (x.queue = d.name)) = false := by
          rw [Bool.and_eq_false_iff]
          by_cases q : x.id = d.id
          · right
            have : x.queue ≠ d.name := fun q2 => e (by cases x; simp_all)
            simp [this]
          · left; simp [q]
        rw [this, if_neg e]
        simp only [cond_false]
        rw [(gone1 c d l _).2]; simp
theorem cut_idx (x : LentR) : ∀ (l : List LentR), (idxP (fun y => decide (x = y)) l < 0 → cutL x l = l) ∧ (0 ≤ idxP (fun y => decide (x = y)) l → cutL x l = l.take (idxP (fun y => decide (x = y)) l).toNat ++ l.drop (idxP (fun y => decide (x = y)) l + 1).toNat)
  | [] => ⟨fun _ => rfl, fun h => by simp [idxP, idxF] at h⟩
  | y :: l => by
    obtain ⟨i1, i2⟩ := cut_idx x l
    rw [idxP_cons]
    by_cases e : x = y
    · simp [e, cutL]
    · simp only [e, decide_false, Bool.false_eq_true, if_false, cutL]
      have hb := idxP_b (fun y => decide (x = y)) l
      constructor
      · intro h
        have : idxP (fun y => decide (x = y)) l < 0 := by
          by_cases q : idxP (fun y => decide (x = y)) l < 0
          · exact q
          · rw [if_neg q] at h; omega
        rw [i1 this]
      · intro h
        have q : ¬ idxP (fun y => decide (x = y)) l < 0 := by
          intro q; rw [if_pos q] at h; omega
        rw [if_neg q]
        have h2 := i2 (by omega)
        generalize idxP (fun y => decide (x = y)) l = r at *
        rw [h2]
        have e1 : (r + 1).toNat = r.toNat + 1 := by omega
        have e2 : (r + 1 + 1).toNat = (r.toNat + 1) + 1 := by omega
        rw [e1, e2]
        simp
theorem e_Gone0 : ∀ (l : List DeedR) (c : ChanR), r27_Gone_l0 l c = chans_Chan_Gone_l0 l c
  | [], c => rfl
  | d :: l, c => by
    simp only [r27_Gone_l0, chans_Chan_Gone_l0, lt, lt1]
    by_cases e : d.kind = 8
    · obtain ⟨i1, i2⟩ := cut_idx ⟨d.id, d.name⟩ c.lent
      have h1 := (gone1 c d c.lent []).2
      simp only [e, decide_true, Bool.not_true, cond_false, Bool.true_and, h1, List.nil_append]
      rw [e_Gone0 l]
      by_cases q : 0 ≤ idxP (fun y => decide ((⟨d.id, d.name⟩ : LentR) = y)) c.lent
      · simp only [q, decide_true, cond_true, i2 q, List.flatten_cons, List.flatten_nil, List.append_nil]
      · simp only [q, decide_false, cond_false, i1 (by omega)]
    · simp only [e, decide_false, Bool.not_false, cond_true, Bool.false_and, cond_false]
      exact e_Gone0 l c
theorem e_Gone (c : ChanR) (l : List DeedR) : r27_Gone c l = chans_Chan_Gone c l := e_Gone0 l c
theorem e_Put {c : ChanR} (h : Inv c) : r27_Put c = chans_Chan_Put c := by
  simp only [r27_Put, chans_Chan_Put]
  cases e : c.sure
  · simp only [Bool.not_false, cond_true, cond_false, h.puts e]
  · rfl
theorem e_Sure (c : ChanR) : r27_Sure c = chans_Chan_Sure c := rfl
theorem e_Draft (c : ChanR) : r27_Draft c = chans_Chan_Draft c := rfl
theorem e_Undo (c : ChanR) : r27_Undo c = chans_Chan_Undo c := rfl
/-! What stays so -/
theorem inv_same {c d : ChanR} (h : Inv c) (h2 : d.takers = c.takers) (h3 : d.lent = c.lent) (h4 : d.held = c.held) (h5 : d.drafts = c.drafts) (h6 : d.sure = c.sure) (h7 : d.puts = c.puts) : Inv d := ⟨by rw [h2]; exact h.tags, by rw [h4, h5]; exact h.held, by rw [h6, h7]; exact h.puts, by rw [h4]; exact h.light, by rw [h3]; exact h.lent⟩
theorem inv_Credit {c : ChanR} (n : Int) (h : Inv c) : Inv (chans_Chan_Credit c n).1 := by
  simp only [chans_Chan_Credit, Bool.cond_eq_ite]; split <;> exact inv_same h rfl rfl rfl rfl rfl rfl
theorem inv_Take {c : ChanR} (t : Int) (q : Bs) (h : Inv c) : Inv (chans_Chan_Take c t q).1 := by
  simp only [chans_Chan_Take, lt, Bool.cond_eq_ite]
  repeat' split
  all_goals first | exact h | skip
  rename_i e _
  refine ⟨?_, h.held, h.puts, h.light, h.lent⟩
  have e2 : ∀ x ∈ c.takers, x.tag ≠ t := by
    intro x hx he
    apply e
    rw [decide_eq_true_eq, show chans_Chan_of c t = idxP (fun z : TakerR => decide (z.tag = t)) c.takers from rfl, idxP_any, List.any_eq_true]
    exact ⟨x, hx, by simp [he]⟩
  simp only [List.flatten_cons, List.flatten_nil, List.append_nil, List.map_append, List.map_cons, List.map_nil]
  rw [List.nodup_append]
  refine ⟨h.tags, by simp, fun a ha b hb => ?_⟩
  obtain ⟨x, hx, rfl⟩ := List.mem_map.1 ha
  rw [List.mem_singleton.1 hb]
  exact e2 x hx
theorem inv_Leave {c : ChanR} (t : Int) (h : Inv c) : Inv (chans_Chan_Leave c t).1 := by
  simp only [chans_Chan_Leave, lt, Bool.cond_eq_ite]
  split
  · exact h
  · refine ⟨?_, h.held, h.puts, h.light, h.lent⟩
    rename_i e
    rw [show chans_Chan_of c t = idxP (fun z : TakerR => decide (z.tag = t)) c.takers from rfl] at e ⊢
    simp only [decide_eq_true_eq] at e
    have := (cut_filter t c.takers h.tags).2 (by omega)
    simp only [List.flatten_cons, List.flatten_nil, List.append_nil]
    rw [← this]
    exact (List.Sublist.map _ List.filter_sublist).nodup h.tags
theorem inv_Lend {c : ChanR} {x : LentR} (hx : x.queue.length ≤ 40) (h : Inv c) : Inv (chans_Chan_Lend c x) := by
  refine ⟨h.tags, h.held, h.puts, h.light, fun y hy => ?_⟩
  simp only [chans_Chan_Lend, List.flatten_cons, List.flatten_nil, List.append_nil, List.mem_append, List.mem_singleton] at hy
  rcases hy with hy | rfl
  · exact h.lent y hy
  · exact hx
theorem inv_Gone0 : ∀ (l : List DeedR) {c : ChanR}, Inv c → Inv (chans_Chan_Gone_l0 l c)
  | [], c, h => h
  | d :: l, c, h => by
    simp only [chans_Chan_Gone_l0, lt, Bool.cond_eq_ite]
    split
    · refine inv_Gone0 l ⟨h.tags, h.held, h.puts, h.light, fun y hy => ?_⟩
      simp only [List.flatten_cons, List.flatten_nil, List.append_nil, List.mem_append] at hy
      rcases hy with hy | hy
      · exact h.lent y (List.mem_of_mem_take hy)
      · exact h.lent y (List.mem_of_mem_drop hy)
    · exact inv_Gone0 l h
theorem inv_Gone {c : ChanR} (l : List DeedR) (h : Inv c) : Inv (chans_Chan_Gone c l) := inv_Gone0 l h
theorem inv_Sure {c : ChanR} (h : Inv c) : Inv (chans_Chan_Sure c).1 := by
  simp only [chans_Chan_Sure, Bool.cond_eq_ite]
  split
  · exact h
  · exact ⟨h.tags, h.held, fun e => (by cases e), h.light, h.lent⟩
theorem inv_Put {c : ChanR} (h : Inv c) : Inv (chans_Chan_Put c).1 := by
  simp only [chans_Chan_Put, Bool.cond_eq_ite]
  split
  · exact h
  · rename_i e
    exact ⟨h.tags, h.held, fun q => absurd (by simp [show c.sure = false from q]) e, h.light, h.lent⟩
theorem inv_Draft {c : ChanR} (h : Inv c) : Inv (chans_Chan_Draft c).1 := by
  simp only [chans_Chan_Draft, Bool.cond_eq_ite]
  split
  · exact h
  · exact ⟨h.tags, fun e => (by cases e), h.puts, h.light, h.lent⟩
theorem inv_Undo {c : ChanR} (h : Inv c) : Inv (chans_Chan_Undo c).1 := by
  simp only [chans_Chan_Undo, Bool.cond_eq_ite]
  split
  · exact h
  · exact ⟨h.tags, fun _ => rfl, h.puts, fun d hd => (by simp at hd), h.lent⟩
theorem inv_Hold {c : ChanR} {l : List DeedR} (hl : ∀ d ∈ l, lightD d = true) (h : Inv c) : Inv (chans_Chan_Hold c l).1 := by
  simp only [chans_Chan_Hold, lt, Bool.cond_eq_ite]
  split
  · exact h
  · rename_i e
    refine ⟨h.tags, fun q => absurd (by simp [show c.drafts = false from q]) e, h.puts, ?_, h.lent⟩
    rw [show draft_Draft_Add c.held l = _ from dadd c.held.l l]
    exact radd_light h.light hl
theorem sets_light0 {c : ChanR} (i w : Int) (u : Bool) : ∀ (l : List LentR) (out : List DeedR), (∀ x ∈ l, x.queue.length ≤ 40) → (∀ d ∈ out, lightD d = true) → ∀ d ∈ (chans_Chan_Settles_l0 c i w u l out).1, lightD d = true
  | [], out, _, _ => by simp [chans_Chan_Settles_l0]
  | x :: l, out, hl, ho => by
    have hx := hl x List.mem_cons_self
    have hl' := fun y (hy : y ∈ l) => hl y (List.mem_cons_of_mem _ hy)
    have hd : lightD ⟨8, 0, ⟨[], 0, []⟩, ⟨[], 0, 0, []⟩, ⟨[], [], false, [], [], false⟩, x.queue, x.id, IntKind.wrap .u8 w, 0, 0, 0, ⟨0, [], [], [], [], 0, 0⟩, []⟩ = true := by
      simp [lightD, lightMl, lightH]; omega
    have ho' : ∀ d ∈ out ++ [(⟨8, 0, ⟨[], 0, []⟩, ⟨[], 0, 0, []⟩, ⟨[], [], false, [], [], false⟩, x.queue, x.id, IntKind.wrap .u8 w, 0, 0, 0, ⟨0, [], [], [], [], 0, 0⟩, []⟩ : DeedR)], lightD d = true := by
      intro d hd2
      rcases List.mem_append.1 hd2 with q | q
      · exact ho d q
      · rw [List.mem_singleton.1 q]; exact hd
    simp only [chans_Chan_Settles_l0, Bool.cond_eq_ite]
    repeat' split
    all_goals first
      | exact sets_light0 i w u l out hl' ho
      | exact sets_light0 i w u l _ hl' ho'
      | exact ho'
theorem sets_light {c : ChanR} (i w : Int) (u : Bool) (h : Inv c) : ∀ d ∈ (chans_Chan_Settles c i w u).1, lightD d = true := by
  simp only [chans_Chan_Settles, Bool.cond_eq_ite]
  split
  · simp
  · exact sets_light0 i w u c.lent [] h.lent (by simp)
theorem set_same {c : ChanR} (a : ActR) (h : Inv c) : ∃ d, l27_settled c c a = (d, d, true) ∧ Inv d := by
  have hl := sets_light a.n a.how a.upto h
  simp only [l27_settled, lt, e_Settles a.n a.how a.upto h, all_light hl, same_all, e_Gone, hold_eq]
  simp only [decide_true, Bool.not_true, Bool.or_self, cond_false]
  cases decide (a.dow % 11 = 4)
  · exact ⟨_, rfl, inv_Hold hl h⟩
  · exact ⟨_, rfl, inv_Gone _ h⟩
theorem done_same {c : ChanR} {a : ActR} (h : Inv c) (hn : 0 ≤ a.n) (hq : a.queue.length ≤ 40) (hl : l23_Light a.l = true) : ∃ d, l27_done c c a = (d, d, true) ∧ Inv d := by
  have hll : ∀ d ∈ a.l, lightD d = true := fun d hd => l23_mem hl hd
  simp only [l27_done, lt, lt1, e_Credit c hn, e_Take, e_Leave a.n h, e_Lend, e_Put h, e_Sure, e_Draft, e_Undo, all_light hll, hold_eq, Bool.cond_eq_ite, decide_true]
  repeat' split
  all_goals first
    | exact ⟨_, rfl, inv_Credit _ h⟩
    | exact ⟨_, rfl, inv_Take _ _ h⟩
    | exact ⟨_, rfl, inv_Leave _ h⟩
    | exact ⟨_, rfl, inv_Lend hq h⟩
    | (obtain ⟨d, e, hd⟩ := set_same a h; rw [e]; exact ⟨d, rfl, hd⟩)
    | exact ⟨_, rfl, inv_Sure h⟩
    | exact ⟨_, rfl, inv_Put h⟩
    | exact ⟨_, rfl, inv_Draft h⟩
    | exact ⟨_, rfl, inv_Undo h⟩
    | exact ⟨_, rfl, inv_Hold hll h⟩
theorem same_t0 : ∀ (k : Nat) (a b : List TakerR), b.drop k = a → r27_SameTakers_l0 b a k = true
  | k, [], b, _ => rfl
  | k, x :: a, b, h => by
    have hk : k < b.length := by
      rcases Nat.lt_or_ge k b.length with q | q
      · exact q
      · rw [List.drop_of_length_le q] at h; cases h
    rw [dropG hk] at h
    cases h
    simp only [r27_SameTakers_l0, decide_true, Bool.not_true, cond_false]
    exact same_t0 (k + 1) _ b rfl
theorem same_l0 : ∀ (k : Nat) (a b : List LentR), b.drop k = a → r27_SameLent_l0 b a k = true
  | k, [], b, _ => rfl
  | k, x :: a, b, h => by
    have hk : k < b.length := by
      rcases Nat.lt_or_ge k b.length with q | q
      · exact q
      · rw [List.drop_of_length_le q] at h; cases h
    rw [dropG hk] at h
    cases h
    simp only [r27_SameLent_l0, decide_true, Bool.not_true, cond_false]
    exact same_l0 (k + 1) _ b rfl
theorem same_t (a : List TakerR) : r27_SameTakers a a = true := by simp [r27_SameTakers, same_t0 0 a a rfl]
theorem same_l (a : List LentR) : r27_SameLent a a = true := by simp [r27_SameLent, same_l0 0 a a rfl]
theorem told1 (c q : ChanR) (r r1 : List DeedR × Int) (r2 : List DeedR × Bool) (tk : List TakerR) : ∀ (l out : List LentR), l27_told_l1 c q r r1 r2 tk l out = l27_told_l1 c q r r1 r2 tk [] (out ++ l)
  | [], out => by simp
  | x :: l, out => by
    conv => lhs; unfold l27_told_l1
    rw [told1 c q r r1 r2 tk l]; simp
theorem told0 (c q : ChanR) (r r1 : List DeedR × Int) (r2 : List DeedR × Bool) : ∀ (l out : List TakerR), l27_told_l0 c q r r1 r2 l out = l27_told_l0 c q r r1 r2 [] (out ++ l)
  | [], out => by simp
  | x :: l, out => by
    conv => lhs; unfold l27_told_l0
    rw [told0 c q r r1 r2 l]; simp
theorem told_same {c : ChanR} (t : Int) (h : Inv c) (hc : 0 ≤ c.credit) : l27_told c c t = true := by
  have hh : r27_Held c t = chans_Chan_Held c t := by
    simp only [r27_Held, chans_Chan_Held, lt]
    rw [show draft_Draft_At c.held t = _ from dat c.held.l t]
  have hlt : l22_All (chans_Chan_Held c t).1 = ((chans_Chan_Held c t).1, true) := by
    simp only [chans_Chan_Held, lt]
    rw [show draft_Draft_At c.held t = _ from dat c.held.l t]
    cases c.drafts
    · rfl
    · exact at_light t h.light
  have hr : chans_Chan_Room c = r27_Room c := by
    simp only [chans_Chan_Room, r27_Room, Bool.cond_eq_ite]
    split
    · rename_i e; simp only [decide_eq_true_eq] at e; omega
    · rename_i e; simp only [decide_eq_true_eq] at e; omega
  simp only [l27_told, lt, hh, hlt]
  rw [told0]
  simp only [l27_told_l0, lt]
  rw [told1]
  simp only [l27_told_l1, same_all, hr, chans_Chan_Takers, chans_Chan_Unsettled, List.nil_append, same_t, same_l, chans_Chan_Drafts, chans_Chan_Number]
  simp
theorem plays27 (t : Int) : ∀ (l : List ActR) (c : ChanR) (n : Nat), Inv c → COk c n → (∀ a ∈ l, 0 ≤ a.n ∧ l23_Light a.l = true ∧ a.queue.length ≤ 40) → l27_ChansPlay_l0 t l c c = true
  | [], c, n, _, _, _ => rfl
  | a :: l, c, n, h, hc, hl => by
    obtain ⟨h1, h2, h3⟩ := hl a List.mem_cons_self
    obtain ⟨d, e, hd⟩ := done_same h h1 h3 h2
    have hcd := (done_ok hc hc h1).1
    rw [e] at hcd
    simp only [l27_ChansPlay_l0, lt, e, told_same t hd hcd.cr.1, told_same t h hc.cr.1, Bool.not_true, Bool.or_self, cond_false]
    exact plays27 t l d (n + 1) hd hcd fun a ha => hl a (List.mem_cons_of_mem _ ha)
theorem l27_plays (l : List ActR) (t : Int) (hn : ∀ a ∈ l, 0 ≤ a.n) : l27_ChansPlay l t = true := by
  unfold l27_ChansPlay
  cases h : l27_Light l with
  | false => rfl
  | true =>
    simp only [Bool.not_true, cond_false, lt]
    rw [show r27_New = chans_New from rfl]
    exact plays27 t l chans_New 0 inv_new (cok_new 0) fun a ha => ⟨hn a ha, ((l27_ok h).2 a ha)⟩
/-! Credit -/
end Go.SW.V
