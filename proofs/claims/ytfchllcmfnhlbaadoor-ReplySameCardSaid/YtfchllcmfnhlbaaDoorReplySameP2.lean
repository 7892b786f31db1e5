/-
  A part of the proof of ReplySame: Lists held against each other; records that are the same; what is gone through, in plain Lean. The library's contract of strings.Split, laid at this seat (printed by the kit's lay-plain.mjs), and turned to this work's ground: a text split at its dots. It asks that the package variable internal/bytealg.MaxLen holds an int. The walks of this seat, printed by program: stairwellref04.letter, words.plain, strings.Builder.copyCheck, octet.New, octet.In.Fail, octet.In.Raw, octet.In.Left, octet.In.Err, octet.In.End. The walks of this seat, printed by program: octet.In.Num, octet.In.Text. The walks of this seat, printed by program: octet.Out.Num. The walks of this seat, printed by program: octet.Out.Raw, octet.Out.String, octet.Out.Text, words.Name. The walks of this seat, printed by program: words.Split, words.key, words.Key. The walks of this seat, printed by program: head.Find, head.pair, head.Check. The walks of this seat, printed by program: head.Bytes. The walks of this seat, printed by program: reply.blank, reply.Reply.spare, reply.mail, reply.Reply.Check. The walks of this seat, printed by program: crc.Step, crc.Sum.
-/
import Derived.Test.YtfchllcmfnhlbaaDoorReplySameP1
import Derived.Shelf.LaysM
import Derived.Shelf.Strings.Split
import Derived.Test.YtfchllcmfnhlbaaDoorProg
import Derived.KernelRfl
set_option linter.unusedVariables false
set_option linter.unusedSimpArgs false

namespace Go.SW

section
variable {α : Type} [DecidableEq α] {a b ra rb : List α} {x y : α} {k : Nat}
theorem eqL_len (h : ¬ (a.length : Int) = b.length) : decide (a = b) = false := by
  rw [decide_eq_false_iff_not]; rintro rfl; exact h rfl
theorem eqL_step (h : decide (a = b) = decide (a.drop k = b.drop k)) (ha : a.drop k = x :: ra) (hb : b.drop k = y :: rb) (e : x = y) : decide (a = b) = decide (ra = rb) := by
  rw [h, ha, hb, Bool.eq_iff_iff]; simp [e]
theorem eqL_miss (h : decide (a = b) = decide (a.drop k = b.drop k)) (ha : a.drop k = x :: ra) (hb : b.drop k = y :: rb) (e : ¬ x = y) : decide (a = b) = false := by
  rw [h, ha, hb, Bool.eq_iff_iff]; simp [e]
theorem eqL_end (h : decide (a = b) = decide (a.drop k = b.drop k)) (ha : a.length ≤ k) (hb : b.length ≤ k) : decide (a = b) = true := by
  rw [h, List.drop_of_length_le ha, List.drop_of_length_le hb]; simp
end
section
variable {α : Type} {p : α → Bool} {a r : List α} {x : α} {k : Nat}
theorem all_step (h : a.all p = (a.drop k).all p) (ha : a.drop k = x :: r) (e : p x = true) : a.all p = r.all p := by rw [h, ha]; simp [e]
theorem all_miss (h : a.all p = (a.drop k).all p) (ha : a.drop k = x :: r) (e : p x = false) : a.all p = false := by rw [h, ha]; simp [e]
theorem all_end (h : a.all p = (a.drop k).all p) (ha : a.length ≤ k) : a.all p = true := by rw [h, List.drop_of_length_le ha]; rfl
theorem any_step (h : a.any p = (a.drop k).any p) (ha : a.drop k = x :: r) (e : p x = false) : a.any p = r.any p := by rw [h, ha]; simp [e]
theorem any_hit (h : a.any p = (a.drop k).any p) (ha : a.drop k = x :: r) (e : p x = true) : a.any p = true := by rw [h, ha]; simp [e]
theorem any_end (h : a.any p = (a.drop k).any p) (ha : a.length ≤ k) : a.any p = false := by rw [h, List.drop_of_length_le ha]; rfl
end
theorem one_flat {α : Type} {enc : α → List Value} (h : ∀ x, (enc x).all (·.oneCell') = true) (xs : List α) : ∀ u ∈ xs.flatMap enc, u.oneCell' = true := fun u hu => by
  obtain ⟨x, _, hx⟩ := List.mem_flatMap.1 hu
  exact List.all_eq_true.1 (h x) u hx
theorem slh_wf {α : Type} {enc : α → List Value} {wf : α → Prop} {k : Nat} {H : Hp} {sv : Value} {xs : List α} (h : SlH (FE enc wf) k H sv xs) : ∀ x ∈ xs, wf x := fun x hx => by
  obtain ⟨m, hm, rfl⟩ := List.getElem_of_mem hx
  obtain ⟨cs, ⟨_, hw⟩, _⟩ := h.2 m hm
  exact hw
theorem own_cat0 {α : Type} {enc : α → List Value} {k e : Nat} {v : Value} {en : Option (Nat × Obj)} (ys : List α) (h : OwnV k e v en (0 + ys.length) ([] ++ ys.flatMap enc)) : OwnV k e v en ys.length (ys.flatMap enc) :=
  ownV_cast h (by simp) (by simp)

theorem Mail.eq_iff {a b : Mail} : a = b ↔ a.id = b.id ∧ a.shop = b.shop ∧ a.key = b.key ∧ a.head = b.head ∧ a.body = b.body ∧ a.due = b.due ∧ a.hops = b.hops := by
  cases a; cases b; simp
theorem Reply.eq_iff {a b : Reply} : a = b ↔ a.channel = b.channel ∧ a.kind = b.kind ∧ a.n = b.n ∧ a.m = b.m ∧ a.yes = b.yes ∧ a.name = b.name ∧ a.mail = b.mail := by
  cases a; cases b; simp

/-! Light -/
def lightP (p : Pair) : Bool := decide (p.key.length ≤ 40) && decide (p.text.length ≤ 100)
def lightH (h : List Pair) : Bool := decide (h.length ≤ 12) && h.all lightP
def lightR (r : Reply) : Bool := decide (max (r.name.length : Int) (r.mail.shop.length : Int) ≤ 40) && decide ((r.mail.key.length : Int) ≤ 100) && lightH r.mail.head && decide ((r.mail.body.length : Int) ≤ 300)
theorem lightH_len (h : List Pair) (e : lightH h = true) : h.length ≤ 12 := by
  simp [lightH] at e; exact e.1
theorem lightR_len (r : Reply) (e : lightR r = true) : r.name.length ≤ 40 ∧ r.mail.shop.length ≤ 40 ∧ r.mail.key.length ≤ 100 ∧ r.mail.head.length ≤ 12 ∧ r.mail.body.length ≤ 300 := by
  simp only [lightR, Bool.and_eq_true, decide_eq_true_eq] at e
  obtain ⟨⟨⟨h1, h3⟩, h4⟩, h5⟩ := e
  have := lightH_len _ h4
  omega
end Go.SW


namespace Go.Proofs
open Go.Shelf
def Tryd.lays146_ren : Go.Shelf.Ren := ⟨fun | 146 => 127 | 221 => 139 | 268 => 151 | 138 => 152 | 143 => 153 | 195 => 164 | 197 => 165 | 218 => 166 | 219 => 167 | 260 => 173 | 217 => 174 | 225 => 171 | 224 => 170 | 267 => 175 | 266 => 176 | 314 => 177 | n => n, fun | 9 => 9 | 31 => 108 | 3 => 3 | 4 => 4 | 0 => 0 | 105 => 191 | 21 => 21 | 5 => 5 | 46 => 119 | 119 => 198 | 139 => 201 | 138 => 200 | 146 => 202 | 51 => 135 | n => n, fun | 1 => 2 | 3 => 3 | 4 => 4 | n => n⟩
theorem Tryd.lays146 : Go.Proofs.Lays.n146 Tryd.prog Tryd.lays146_ren := {
  mixed := by kernel_rfl
  f138 := Tryd.func152.trans (congrArg some (by kernel_rfl))
  f143 := Tryd.func153.trans (congrArg some (by kernel_rfl))
  f146 := Tryd.func127.trans (congrArg some (by kernel_rfl))
  f195 := Tryd.func164.trans (congrArg some (by kernel_rfl))
  f197 := Tryd.func165.trans (congrArg some (by kernel_rfl))
  f217 := Tryd.func174.trans (congrArg some (by kernel_rfl))
  f218 := Tryd.func166.trans (congrArg some (by kernel_rfl))
  f219 := Tryd.func167.trans (congrArg some (by kernel_rfl))
  f221 := Tryd.func139.trans (congrArg some (by kernel_rfl))
  f224 := Tryd.func170.trans (congrArg some (by kernel_rfl))
  f225 := Tryd.func171.trans (congrArg some (by kernel_rfl))
  f260 := Tryd.func173.trans (congrArg some (by kernel_rfl))
  f266 := Tryd.func176.trans (congrArg some (by kernel_rfl))
  f267 := Tryd.func175.trans (congrArg some (by kernel_rfl))
  f268 := Tryd.func151.trans (congrArg some (by kernel_rfl))
  f314 := Tryd.func177.trans (congrArg some (by kernel_rfl))
  t0 := Tryd.underlying0
  a0 := Tryd.isAgg0
  z0 := Tryd.sizeOf0
  v0 := Tryd.zeroValue0
  t3 := Tryd.underlying3
  a3 := Tryd.isAgg3
  z3 := Tryd.sizeOf3
  v3 := Tryd.zeroValue3
  t4 := Tryd.underlying4
  a4 := Tryd.isAgg4
  z4 := Tryd.sizeOf4
  v4 := Tryd.zeroValue4
  t5 := Tryd.underlying5
  a5 := Tryd.isAgg5
  z5 := Tryd.sizeOf5
  v5 := Tryd.zeroValue5
  t9 := Tryd.underlying9
  a9 := Tryd.isAgg9
  z9 := Tryd.sizeOf9
  v9 := Tryd.zeroValue9
  t21 := Tryd.underlying21
  a21 := Tryd.isAgg21
  z21 := Tryd.sizeOf21
  v21 := Tryd.zeroValue21
  t31 := Tryd.underlying108
  a31 := Tryd.isAgg108
  z31 := Tryd.sizeOf108
  v31 := Tryd.zeroValue108
  t46 := Tryd.underlying119
  a46 := Tryd.isAgg119
  z46 := Tryd.sizeOf119
  v46 := Tryd.zeroValue119
  t51 := Tryd.underlying135
  a51 := Tryd.isAgg135
  z51 := Tryd.sizeOf135
  v51 := Tryd.zeroValue135
  t105 := Tryd.underlying191
  a105 := Tryd.isAgg191
  z105 := Tryd.sizeOf191
  v105 := Tryd.zeroValue191
  t119 := Tryd.underlying198
  a119 := Tryd.isAgg198
  z119 := Tryd.sizeOf198
  t138 := Tryd.underlying200
  a138 := Tryd.isAgg200
  z138 := Tryd.sizeOf200
  v138 := Tryd.zeroValue200
  t139 := Tryd.underlying201
  a139 := Tryd.isAgg201
  z139 := Tryd.sizeOf201
  v139 := Tryd.zeroValue201
  t146 := Tryd.underlying202
  a146 := Tryd.isAgg202
  z146 := Tryd.sizeOf202
  v146 := Tryd.zeroValue202
  g1 := by kernel_rfl
  g3 := by kernel_rfl
  g4 := by kernel_rfl }
open Go.RowKit Go.Lib in
theorem Tryd.strings_Split (s sep : ByteArray) (m : Int) (w : World) (hs : s.size < 4294967281) (hm : w.cell? ⟨2, 0, none⟩ = some (.int .i64 m)) (h1 : 1 ≤ sep.size) :
    Calls Tryd.prog 127 #[.string s, .string sep] w fun e w' =>
      e = .returned (.slice (some ⟨w.heap.size, 0, none⟩) (Lib.countB s sep + 1) (Lib.countB s sep + 1)) ∧ w' = w.alloc (.cells ((Lib.splitB sep 0 (Lib.countB s sep) s).map Value.string).toArray 9) := Any.strings_Split Tryd.lays146 (by kernel_rfl) s sep m w hs hm h1
end Go.Proofs
namespace Go.SW
open Go.Proofs
theorem strings_Split (H : Hp) (s p : Bs) (hp : p = [46]) (hML : GInt H 2) (hs : s.length < 4294967281) : Ph Tryd.prog 127 #[str s, str p] H (fun v H' => ∃ (a : Option Addr) (c : Nat), v = .slice a (dots s).length c ∧ SlH strE 1 H' (.slice a (dots s).length c) (dots s)) := by
  subst hp
  refine ph_strs (T := 9) (fun w hw => by have := dots_piece s w hw; omega) fun N L w hm => ?_
  obtain ⟨m, hc⟩ := hML.cell hm
  refine (Tryd.strings_Split ⟨s.toArray⟩ ⟨#[46]⟩ m w (by simpa [ba_size] using hs) hc (by decide)).mono fun e w' ⟨he, hw⟩ => ⟨?_, ?_⟩
  · rw [he, splitB_len]
  · rw [hw, splitB_dots]
end Go.SW


set_option linter.unusedVariables false
set_option maxRecDepth 100000
namespace Go.SW
open Go.Proofs
theorem ag100 : Ag Tryd.prog 100 false := fun w => by kernel_rfl
theorem ag36 : Ag Tryd.prog 36 false := fun w => by kernel_rfl
theorem ag9 : Ag Tryd.prog 9 false := fun w => by kernel_rfl
theorem bd95_0s (a1 : Bs) (w : World) : (Instr.build 95 #[(0, str a1)]).run Tryd.prog w = .ok (.agg #[str a1, .int .i64 0]) w := by kernel_rfl
theorem cb70 : Callable Tryd.prog 70 := callable_of Tryd.func70 (by kernel_rfl) (by kernel_rfl)
theorem cb72 : Callable Tryd.prog 72 := callable_of Tryd.func72 (by kernel_rfl) (by kernel_rfl)
theorem cb73 : Callable Tryd.prog 73 := callable_of Tryd.func73 (by kernel_rfl) (by kernel_rfl)
theorem cb97 : Callable Tryd.prog 97 := callable_of Tryd.func97 (by kernel_rfl) (by kernel_rfl)
theorem fl103_0 : Fld Tryd.prog 103 0 0 := fun b o w => by kernel_rfl
theorem fl95_0 : Fld Tryd.prog 95 0 0 := fun b o w => by kernel_rfl
theorem fl95_1 : Fld Tryd.prog 95 1 1 := fun b o w => by kernel_rfl
theorem la103_103 : liesAt Tryd.prog Tryd.prog.depth 103 (2 / Tryd.prog.cellsOf 103) 0 103 1 = true := by kernel_rfl
theorem ne112 : NoEsc Tryd.prog 112 := noEsc_of Tryd.func112 (by kernel_rfl) (by kernel_rfl) (by kernel_rfl) (by kernel_rfl)
theorem sz100 : Sz Tryd.prog 100 1 := fun w => by kernel_rfl
theorem sz36 : Sz Tryd.prog 36 1 := fun w => by kernel_rfl
theorem sz9 : Sz Tryd.prog 9 1 := fun w => by kernel_rfl
theorem ti103 : ∃ j, Tryd.prog.info? 103 = some j := Option.isSome_iff_exists.1 (by kernel_rfl)
theorem tz103 : ∃ j, Tryd.prog.info? 103 = some j ∧ j.size ≠ 0 := exInfo (by kernel_rfl)

theorem r4_letter (H : Hp) (c : Int) (c_r : 0 ≤ c ∧ c ≤ 255) : Pr Tryd.prog 79 #[.int .u8 c] H (.bool (letter c)) := by
  refine pr_cw Tryd.func79 rfl Tryd.ntmps79 rfl (fun N => ?_)
  refine cw_seq ?_
  refine cw_region ?_
  refine ow1 (op1_l rfl (lo_assign (v := .bool _) rfl) ?_)
  refine ow_nil ?_
  refine seqK_n ?_
  refine cw_seq ?_
  refine cw_region ?_
  refine ow1 (op1_l rfl (lo_move (v := .int _ _) rfl) ?_)
  refine ow1 (op1_l rfl (lo_geq rfl rfl) ?_)
  refine ow1 (op1_l rfl (lo_move (v := .bool _) rfl) ?_)
  refine ow_sp (j := 2) rfl (fun h1 => ?_) (fun h1 => ?_)
  · have p2 := dt h1
    refine ow1 (op1_g rfl h1 rfl (lo_move (v := .int _ _) rfl) ?_)
    refine ow1 (op1_g rfl h1 rfl (lo_leq rfl rfl) ?_)
    refine ow1 (op1_l rfl (lo_pick_t (v := .bool _) rfl h1 rfl) ?_)
    refine ow1 (op1_l rfl (lo_move (v := .bool _) rfl) ?_)
    refine ow_sp (j := 6) rfl (fun h3 => ?_) (fun h3 => ?_)
    · have p4 := dt h3
      refine ow1 (op1_gs rfl h3 rfl ?_)
      refine ow1 (op1_gs rfl h3 rfl ?_)
      refine ow1 (op1_gs rfl h3 rfl ?_)
      refine ow1 (op1_gx (j := 9) rfl rfl ?_)
      refine ow1 (op1_gx (j := 9) rfl rfl ?_)
      refine ow1 (op1_gs rfl h3 rfl ?_)
      refine ow1 (op1_l rfl (lo_pick_t (v := .bool _) rfl h3 rfl) ?_)
      refine ow1 (op1_l rfl (lo_move (v := .bool _) rfl) ?_)
      refine ow1 (op1_gs rfl rfl rfl ?_)
      refine ow1 (op1_gs rfl rfl rfl ?_)
      refine ow1 (op1_l rfl (lo_pick_t (v := .bool _) rfl rfl rfl) ?_)
      refine ow1 (op1_l rfl (lo_move (v := .bool _) rfl) ?_)
      refine ow1 (op1_gs rfl rfl rfl ?_)
      refine ow1 (op1_gs rfl rfl rfl ?_)
      refine ow1 (op1_l rfl (lo_pick_t (v := .bool _) rfl rfl rfl) ?_)
      refine ow1 (op1_l rfl (lo_assign (v := .bool _) rfl) ?_)
      refine ow_nil ?_
      refine seqK_n ?_
      refine cw_ret ?_
      refine fnK_r (res1 rfl (rv_t (v := .bool _) rfl)) (.refl _) ?_
      simp [letter, *]
    · have p5 := df h3
      refine ow1 (op1_g rfl h3 rfl (lo_move (v := .int _ _) rfl) ?_)
      refine ow1 (op1_g rfl h3 rfl (lo_geq rfl rfl) ?_)
      refine ow1 (op1_g rfl h3 rfl (lo_move (v := .bool _) rfl) ?_)
      refine ow_sp (j := 9) rfl (fun h6 => ?_) (fun h6 => ?_)
      · have p7 := dt h6
        refine ow1 (op1_g rfl h6 rfl (lo_move (v := .int _ _) rfl) ?_)
        refine ow1 (op1_g rfl h6 rfl (lo_leq rfl rfl) ?_)
        refine ow1 (op1_g rfl h3 rfl (lo_pick_t (v := .bool _) rfl h6 rfl) ?_)
        refine ow1 (op1_l rfl (lo_pick_f (v := .bool _) rfl h3 rfl) ?_)
        refine ow1 (op1_l rfl (lo_move (v := .bool _) rfl) ?_)
        refine ow_sp (j := 14) rfl (fun h8 => ?_) (fun h8 => ?_)
        · have p9 := dt h8
          refine ow1 (op1_gs rfl h8 rfl ?_)
          refine ow1 (op1_gs rfl h8 rfl ?_)
          refine ow1 (op1_l rfl (lo_pick_t (v := .bool _) rfl h8 rfl) ?_)
          refine ow1 (op1_l rfl (lo_move (v := .bool _) rfl) ?_)
          refine ow1 (op1_gs rfl rfl rfl ?_)
          refine ow1 (op1_gs rfl rfl rfl ?_)
          refine ow1 (op1_l rfl (lo_pick_t (v := .bool _) rfl rfl rfl) ?_)
          refine ow1 (op1_l rfl (lo_assign (v := .bool _) rfl) ?_)
          refine ow_nil ?_
          refine seqK_n ?_
          refine cw_ret ?_
          refine fnK_r (res1 rfl (rv_t (v := .bool _) rfl)) (.refl _) ?_
          simp [letter, *]
        · have p10 := df h8
          refine ow1 (op1_g rfl h8 rfl (lo_move (v := .int _ _) rfl) ?_)
          refine ow1 (op1_g rfl h8 rfl (lo_eql rfl rfl) ?_)
          refine ow1 (op1_l rfl (lo_pick_f (v := .bool _) rfl h8 rfl) ?_)
          refine ow1 (op1_l rfl (lo_move (v := .bool _) rfl) ?_)
          refine ow_sp (j := 18) rfl (fun h11 => ?_) (fun h11 => ?_)
          · have p12 := dt h11
            refine ow1 (op1_gs rfl h11 rfl ?_)
            refine ow1 (op1_gs rfl h11 rfl ?_)
            refine ow1 (op1_l rfl (lo_pick_t (v := .bool _) rfl h11 rfl) ?_)
            refine ow1 (op1_l rfl (lo_assign (v := .bool _) rfl) ?_)
            refine ow_nil ?_
            refine seqK_n ?_
            refine cw_ret ?_
            refine fnK_r (res1 rfl (rv_t (v := .bool _) rfl)) (.refl _) ?_
            simp [letter, *]
          · have p13 := df h11
            refine ow1 (op1_g rfl h11 rfl (lo_move (v := .int _ _) rfl) ?_)
            refine ow1 (op1_g rfl h11 rfl (lo_eql rfl rfl) ?_)
            refine ow1 (op1_l rfl (lo_pick_f (v := .bool _) rfl h11 rfl) ?_)
            refine ow1 (op1_l rfl (lo_assign (v := .bool _) rfl) ?_)
            refine ow_nil ?_
            refine seqK_n ?_
            refine cw_ret ?_
            refine fnK_r (res1 rfl (rv_t (v := .bool _) rfl)) (.refl _) ?_
            simp [letter, *]
      · have p14 := df h6
        refine ow1 (op1_gs rfl h6 rfl ?_)
        refine ow1 (op1_gs rfl h6 rfl ?_)
        refine ow1 (op1_g rfl h3 rfl (lo_pick_f (v := .bool _) rfl h6 rfl) ?_)
        refine ow1 (op1_l rfl (lo_pick_f (v := .bool _) rfl h3 rfl) ?_)
        refine ow1 (op1_l rfl (lo_move (v := .bool _) rfl) ?_)
        refine ow1 (op1_g rfl rfl rfl (lo_move (v := .int _ _) rfl) ?_)
        refine ow1 (op1_g rfl rfl rfl (lo_eql rfl rfl) ?_)
        refine ow1 (op1_l rfl (lo_pick_f (v := .bool _) rfl rfl rfl) ?_)
        refine ow1 (op1_l rfl (lo_move (v := .bool _) rfl) ?_)
        refine ow_sp (j := 18) rfl (fun h15 => ?_) (fun h15 => ?_)
        · have p16 := dt h15
          refine ow1 (op1_gs rfl h15 rfl ?_)
          refine ow1 (op1_gs rfl h15 rfl ?_)
          refine ow1 (op1_l rfl (lo_pick_t (v := .bool _) rfl h15 rfl) ?_)
          refine ow1 (op1_l rfl (lo_assign (v := .bool _) rfl) ?_)
          refine ow_nil ?_
          refine seqK_n ?_
          refine cw_ret ?_
          refine fnK_r (res1 rfl (rv_t (v := .bool _) rfl)) (.refl _) ?_
          simp [letter, *]
        · have p17 := df h15
          refine ow1 (op1_g rfl h15 rfl (lo_move (v := .int _ _) rfl) ?_)
          refine ow1 (op1_g rfl h15 rfl (lo_eql rfl rfl) ?_)
          refine ow1 (op1_l rfl (lo_pick_f (v := .bool _) rfl h15 rfl) ?_)
          refine ow1 (op1_l rfl (lo_assign (v := .bool _) rfl) ?_)
          refine ow_nil ?_
          refine seqK_n ?_
          refine cw_ret ?_
          refine fnK_r (res1 rfl (rv_t (v := .bool _) rfl)) (.refl _) ?_
          simp [letter, *]
  · have p18 := df h1
    refine ow1 (op1_gs rfl h1 rfl ?_)
    refine ow1 (op1_gs rfl h1 rfl ?_)
    refine ow1 (op1_l rfl (lo_pick_f (v := .bool _) rfl h1 rfl) ?_)
    refine ow1 (op1_l rfl (lo_move (v := .bool _) rfl) ?_)
    refine ow1 (op1_g rfl rfl rfl (lo_move (v := .int _ _) rfl) ?_)
    refine ow1 (op1_g rfl rfl rfl (lo_geq rfl rfl) ?_)
    refine ow1 (op1_g rfl rfl rfl (lo_move (v := .bool _) rfl) ?_)
    refine ow_sp (j := 9) rfl (fun h19 => ?_) (fun h19 => ?_)
    · have p20 := dt h19
      refine ow1 (op1_g rfl h19 rfl (lo_move (v := .int _ _) rfl) ?_)
      refine ow1 (op1_g rfl h19 rfl (lo_leq rfl rfl) ?_)
      refine ow1 (op1_g rfl rfl rfl (lo_pick_t (v := .bool _) rfl h19 rfl) ?_)
      refine ow1 (op1_l rfl (lo_pick_f (v := .bool _) rfl rfl rfl) ?_)
      refine ow1 (op1_l rfl (lo_move (v := .bool _) rfl) ?_)
      refine ow_sp (j := 14) rfl (fun h21 => ?_) (fun h21 => ?_)
      · have p22 := dt h21
        refine ow1 (op1_gs rfl h21 rfl ?_)
        refine ow1 (op1_gs rfl h21 rfl ?_)
        refine ow1 (op1_l rfl (lo_pick_t (v := .bool _) rfl h21 rfl) ?_)
        refine ow1 (op1_l rfl (lo_move (v := .bool _) rfl) ?_)
        refine ow1 (op1_gs rfl rfl rfl ?_)
        refine ow1 (op1_gs rfl rfl rfl ?_)
        refine ow1 (op1_l rfl (lo_pick_t (v := .bool _) rfl rfl rfl) ?_)
        refine ow1 (op1_l rfl (lo_assign (v := .bool _) rfl) ?_)
        refine ow_nil ?_
        refine seqK_n ?_
        refine cw_ret ?_
        refine fnK_r (res1 rfl (rv_t (v := .bool _) rfl)) (.refl _) ?_
        simp [letter, *]
      · have p23 := df h21
        refine ow1 (op1_g rfl h21 rfl (lo_move (v := .int _ _) rfl) ?_)
        refine ow1 (op1_g rfl h21 rfl (lo_eql rfl rfl) ?_)
        refine ow1 (op1_l rfl (lo_pick_f (v := .bool _) rfl h21 rfl) ?_)
        refine ow1 (op1_l rfl (lo_move (v := .bool _) rfl) ?_)
        refine ow_sp (j := 18) rfl (fun h24 => ?_) (fun h24 => ?_)
        · have p25 := dt h24
          refine ow1 (op1_gs rfl h24 rfl ?_)
          refine ow1 (op1_gs rfl h24 rfl ?_)
          refine ow1 (op1_l rfl (lo_pick_t (v := .bool _) rfl h24 rfl) ?_)
          refine ow1 (op1_l rfl (lo_assign (v := .bool _) rfl) ?_)
          refine ow_nil ?_
          refine seqK_n ?_
          refine cw_ret ?_
          refine fnK_r (res1 rfl (rv_t (v := .bool _) rfl)) (.refl _) ?_
          simp [letter, *]
        · have p26 := df h24
          refine ow1 (op1_g rfl h24 rfl (lo_move (v := .int _ _) rfl) ?_)
          refine ow1 (op1_g rfl h24 rfl (lo_eql rfl rfl) ?_)
          refine ow1 (op1_l rfl (lo_pick_f (v := .bool _) rfl h24 rfl) ?_)
          refine ow1 (op1_l rfl (lo_assign (v := .bool _) rfl) ?_)
          refine ow_nil ?_
          refine seqK_n ?_
          refine cw_ret ?_
          refine fnK_r (res1 rfl (rv_t (v := .bool _) rfl)) (.refl _) ?_
          simp [letter, *]
    · have p27 := df h19
      refine ow1 (op1_gs rfl h19 rfl ?_)
      refine ow1 (op1_gs rfl h19 rfl ?_)
      refine ow1 (op1_g rfl rfl rfl (lo_pick_f (v := .bool _) rfl h19 rfl) ?_)
      refine ow1 (op1_l rfl (lo_pick_f (v := .bool _) rfl rfl rfl) ?_)
      refine ow1 (op1_l rfl (lo_move (v := .bool _) rfl) ?_)
      refine ow1 (op1_g rfl rfl rfl (lo_move (v := .int _ _) rfl) ?_)
      refine ow1 (op1_g rfl rfl rfl (lo_eql rfl rfl) ?_)
      refine ow1 (op1_l rfl (lo_pick_f (v := .bool _) rfl rfl rfl) ?_)
      refine ow1 (op1_l rfl (lo_move (v := .bool _) rfl) ?_)
      refine ow_sp (j := 18) rfl (fun h28 => ?_) (fun h28 => ?_)
      · have p29 := dt h28
        refine ow1 (op1_gs rfl h28 rfl ?_)
        refine ow1 (op1_gs rfl h28 rfl ?_)
        refine ow1 (op1_l rfl (lo_pick_t (v := .bool _) rfl h28 rfl) ?_)
        refine ow1 (op1_l rfl (lo_assign (v := .bool _) rfl) ?_)
        refine ow_nil ?_
        refine seqK_n ?_
        refine cw_ret ?_
        refine fnK_r (res1 rfl (rv_t (v := .bool _) rfl)) (.refl _) ?_
        simp [letter, *]
      · have p30 := df h28
        refine ow1 (op1_g rfl h28 rfl (lo_move (v := .int _ _) rfl) ?_)
        refine ow1 (op1_g rfl h28 rfl (lo_eql rfl rfl) ?_)
        refine ow1 (op1_l rfl (lo_pick_f (v := .bool _) rfl h28 rfl) ?_)
        refine ow1 (op1_l rfl (lo_assign (v := .bool _) rfl) ?_)
        refine ow_nil ?_
        refine seqK_n ?_
        refine cw_ret ?_
        refine fnK_r (res1 rfl (rv_t (v := .bool _) rfl)) (.refl _) ?_
        simp [letter, *]

theorem words_plain (H : Hp) (s : Bs) (hs : s.length ≤ 9223372036854775807) : Pr Tryd.prog 82 #[str s] H (.bool (plain s)) := by
  refine pr_cw Tryd.func82 rfl Tryd.ntmps82 rfl (fun N => ?_)
  refine cw_seq ?_
  refine cw_region ?_
  refine ow1 (op1_l rfl (lo_assign (v := .bool _) rfl) ?_)
  refine ow_nil ?_
  refine seqK_n ?_
  refine cw_seq ?_
  refine cw_seq ?_
  refine cw_region ?_
  refine ow1 (op1_l rfl (lo_move (v := str _) rfl) ?_)
  refine ow1 (op1_l rfl (lo_len_str rfl Tryd.underlying9) ?_)
  refine ow1 (op1_l rfl (lo_move (v := .int _ _) rfl) ?_)
  refine ow_nil ?_
  refine seqK_n ?_
  refine cw_block ?_
  refine cw_loop1 [2, 3, 4, 7, 8, 9, 10, 11, 12, 13, 14, 15, 16, 17, 18, 19, 20, 21, 22, 23, 24, 25, 26, 27, 28, 29, 30] [] (fun (k : Nat) G => upd (G) 7 (.int .i64 (k : Int))) (fun (k : Nat) G => G) (fun (k : Nat) H' => k ≤ s.length ∧ (s.drop k).all (fun c => letter c.toNat) = plain s) (fun (k : Nat) => s.length - k) 0 (upd_intro (mask_intro (by first | exact off_refl | (repeat (first | exact off_mask | refine off_upd rfl ?_ | refine off_mask2 rfl ?_)))) rfl) (lmask_intro offl_refl) ?_ ?_
  · exact ⟨by omega, rfl⟩
  · intro k J2 JL2 H2 hp1 hl2
    obtain ⟨hk1, hk2⟩ := hp1
    refine cw_seq ?_
    refine cw_region ?_
    refine ow1 (op1_l rfl (lo_lss rfl rfl) ?_)
    refine ow_nil ?_
    refine seqK_n ?_
    refine cw_seq ?_
    refine cw_cond rfl (fun h3 => ?_) (fun h3 => ?_)
    · have p4 := dt h3
      refine cw_skip ?_
      refine seqK_n ?_
      refine cw_seq ?_
      refine cw_block ?_
      refine cw_seq ?_
      refine cw_region ?_
      refine ow1 (op1_l rfl (lo_move (v := .int _ _) rfl) ?_)
      refine ow1 (op1_l rfl (lo_assign (v := .int _ _) rfl) ?_)
      refine ow_nil ?_
      refine seqK_n ?_
      refine cw_seq ?_
      refine cw_region ?_
      refine ow1 (op1_l rfl (lo_move (v := str _) rfl) ?_)
      refine ow1 (op1_l rfl (lo_move (v := .int _ _) rfl) ?_)
      have := u8r (s.getD k 0)
      refine ow1 (op1_l rfl (lo_index_str k rfl rfl Tryd.underlying9 (by omega) (by omega)) ?_)
      refine ow1 (op1_l rfl (lo_assign (v := .int _ _) rfl) ?_)
      refine ow_nil ?_
      refine seqK_n ?_
      refine cw_block ?_
      refine cw_seq ?_
      refine cw_seq ?_
      refine cw_region ?_
      refine ow1 (op1_l rfl (lo_move (v := .int _ _) rfl) ?_)
      refine ow1 (op1_l rfl (lo_geq rfl rfl) ?_)
      refine ow1 (op1_l rfl (lo_move (v := .bool _) rfl) ?_)
      refine ow_sp (j := 2) rfl (fun h5 => ?_) (fun h5 => ?_)
      · have p6 := dt h5
        refine ow1 (op1_g rfl h5 rfl (lo_move (v := .int _ _) rfl) ?_)
        refine ow1 (op1_g rfl h5 rfl (lo_leq rfl rfl) ?_)
        refine ow1 (op1_l rfl (lo_pick_t (v := .bool _) rfl h5 rfl) ?_)
        refine ow1 (op1_l rfl (lo_assign (v := .bool _) rfl) ?_)
        refine ow_nil ?_
        refine seqK_n ?_
        refine cw_cond rfl (fun h7 => ?_) (fun h7 => ?_)
        · have p8 := dt h7
          refine cw_skip ?_
          refine seqK_n ?_
          refine cw_cond_t rfl h7 ?_
          refine cw_skip ?_
          refine blkK_n ?_
          refine blkK_n ?_
          refine seqK_n ?_
          refine cw_region ?_
          refine ow1 (op1_l rfl (lo_add rfl rfl (rg_i64 (by omega))) ?_)
          refine ow1 (op1_l rfl (lo_move (v := .int _ _) rfl) ?_)
          refine ow_nil ?_
          refine next1 (k + 1) (upd_intro (mask_intro (by first | exact off_refl | (repeat (first | exact off_mask | refine off_upd rfl ?_ | refine off_mask2 rfl ?_)))) rfl) (lmask_intro (by first | exact offl_refl | (repeat (first | exact offl_mask | refine offl_upd rfl ?_ | refine offl_mask2 rfl ?_)))) hl2 ?_ ?_
          · exact ⟨by omega, by rw [← hk2, drop_getD (k := k) (by omega), List.all_cons]; generalize ((s.getD k 0).toNat : Int) = z at *; simp [letter, *]⟩
          · omega
        · have p9 := df h7
          refine cw_seq ?_
          refine cw_region ?_
          refine ow1 (op1_l rfl (lo_move (v := .int _ _) rfl) ?_)
          refine ow1 (op1_l rfl (lo_geq rfl rfl) ?_)
          refine ow1 (op1_l rfl (lo_move (v := .bool _) rfl) ?_)
          refine ow_sp (j := 2) rfl (fun h10 => ?_) (fun h10 => ?_)
          · have p11 := dt h10
            refine ow1 (op1_g rfl h10 rfl (lo_move (v := .int _ _) rfl) ?_)
            refine ow1 (op1_g rfl h10 rfl (lo_leq rfl rfl) ?_)
            refine ow1 (op1_l rfl (lo_pick_t (v := .bool _) rfl h10 rfl) ?_)
            refine ow1 (op1_l rfl (lo_assign (v := .bool _) rfl) ?_)
            refine ow_nil ?_
            refine seqK_n ?_
            refine cw_cond rfl (fun h12 => ?_) (fun h12 => ?_)
            · have p13 := dt h12
              refine cw_skip ?_
              refine seqK_n ?_
              refine cw_cond_t rfl h12 ?_
              refine cw_skip ?_
              refine blkK_n ?_
              refine blkK_n ?_
              refine seqK_n ?_
              refine cw_region ?_
              refine ow1 (op1_l rfl (lo_add rfl rfl (rg_i64 (by omega))) ?_)
              refine ow1 (op1_l rfl (lo_move (v := .int _ _) rfl) ?_)
              refine ow_nil ?_
              refine next1 (k + 1) (upd_intro (mask_intro (by first | exact off_refl | (repeat (first | exact off_mask | refine off_upd rfl ?_ | refine off_mask2 rfl ?_)))) rfl) (lmask_intro (by first | exact offl_refl | (repeat (first | exact offl_mask | refine offl_upd rfl ?_ | refine offl_mask2 rfl ?_)))) hl2 ?_ ?_
              · exact ⟨by omega, by rw [← hk2, drop_getD (k := k) (by omega), List.all_cons]; generalize ((s.getD k 0).toNat : Int) = z at *; simp [letter, *]⟩
              · omega
            · have p14 := df h12
              refine cw_seq ?_
              refine cw_region ?_
              refine ow1 (op1_l rfl (lo_move (v := .int _ _) rfl) ?_)
              refine ow1 (op1_l rfl (lo_eql rfl rfl) ?_)
              refine ow1 (op1_l rfl (lo_assign (v := .bool _) rfl) ?_)
              refine ow_nil ?_
              refine seqK_n ?_
              refine cw_cond rfl (fun h15 => ?_) (fun h15 => ?_)
              · have p16 := dt h15
                refine cw_skip ?_
                refine seqK_n ?_
                refine cw_cond_t rfl h15 ?_
                refine cw_skip ?_
                refine blkK_n ?_
                refine blkK_n ?_
                refine seqK_n ?_
                refine cw_region ?_
                refine ow1 (op1_l rfl (lo_add rfl rfl (rg_i64 (by omega))) ?_)
                refine ow1 (op1_l rfl (lo_move (v := .int _ _) rfl) ?_)
                refine ow_nil ?_
                refine next1 (k + 1) (upd_intro (mask_intro (by first | exact off_refl | (repeat (first | exact off_mask | refine off_upd rfl ?_ | refine off_mask2 rfl ?_)))) rfl) (lmask_intro (by first | exact offl_refl | (repeat (first | exact offl_mask | refine offl_upd rfl ?_ | refine offl_mask2 rfl ?_)))) hl2 ?_ ?_
                · exact ⟨by omega, by rw [← hk2, drop_getD (k := k) (by omega), List.all_cons]; generalize ((s.getD k 0).toNat : Int) = z at *; simp [letter, *]⟩
                · omega
              · have p17 := df h15
                refine cw_region ?_
                refine ow1 (op1_l rfl (lo_move (v := .int _ _) rfl) ?_)
                refine ow1 (op1_l rfl (lo_eql rfl rfl) ?_)
                refine ow1 (op1_l rfl (lo_assign (v := .bool _) rfl) ?_)
                refine ow_nil ?_
                refine seqK_n ?_
                refine cw_cond rfl (fun h18 => ?_) (fun h18 => ?_)
                · have p19 := dt h18
                  refine cw_skip ?_
                  refine blkK_n ?_
                  refine blkK_n ?_
                  refine seqK_n ?_
                  refine cw_region ?_
                  refine ow1 (op1_l rfl (lo_add rfl rfl (rg_i64 (by omega))) ?_)
                  refine ow1 (op1_l rfl (lo_move (v := .int _ _) rfl) ?_)
                  refine ow_nil ?_
                  refine next1 (k + 1) (upd_intro (mask_intro (by first | exact off_refl | (repeat (first | exact off_mask | refine off_upd rfl ?_ | refine off_mask2 rfl ?_)))) rfl) (lmask_intro (by first | exact offl_refl | (repeat (first | exact offl_mask | refine offl_upd rfl ?_ | refine offl_mask2 rfl ?_)))) hl2 ?_ ?_
                  · exact ⟨by omega, by rw [← hk2, drop_getD (k := k) (by omega), List.all_cons]; generalize ((s.getD k 0).toNat : Int) = z at *; simp [letter, *]⟩
                  · omega
                · have p20 := df h18
                  refine cw_seq ?_
                  refine cw_region ?_
                  refine ow1 (op1_l rfl (lo_assign (v := .bool _) rfl) ?_)
                  refine ow_nil ?_
                  refine seqK_n ?_
                  refine cw_ret ?_
                  refine blkK_r ?_
                  refine blkK_r ?_
                  refine seqK_r ?_
                  refine loopK_r ?_
                  refine blkK_r ?_
                  refine seqK_r ?_
                  refine fnK_r (res1 rfl (rv_t (v := .bool _) rfl)) ((HLe.refl _).trans hl2) ?_
                  first | (rw [← hk2, drop_getD (k := k) (by omega), List.all_cons]; generalize ((s.getD k 0).toNat : Int) = z at *; simp [letter, *]; done) | (rw [← hk2, List.drop_of_length_le (by omega)]; rfl)
          · have p21 := df h10
            refine ow1 (op1_gs rfl h10 rfl ?_)
            refine ow1 (op1_gs rfl h10 rfl ?_)
            refine ow1 (op1_l rfl (lo_pick_f (v := .bool _) rfl h10 rfl) ?_)
            refine ow1 (op1_l rfl (lo_assign (v := .bool _) rfl) ?_)
            refine ow_nil ?_
            refine seqK_n ?_
            refine cw_cond_f rfl rfl ?_
            refine cw_seq ?_
            refine cw_region ?_
            refine ow1 (op1_l rfl (lo_move (v := .int _ _) rfl) ?_)
            refine ow1 (op1_l rfl (lo_eql rfl rfl) ?_)
            refine ow1 (op1_l rfl (lo_assign (v := .bool _) rfl) ?_)
            refine ow_nil ?_
            refine seqK_n ?_
            refine cw_cond rfl (fun h22 => ?_) (fun h22 => ?_)
            · have p23 := dt h22
              refine cw_skip ?_
              refine seqK_n ?_
              refine cw_cond_t rfl h22 ?_
              refine cw_skip ?_
              refine blkK_n ?_
              refine blkK_n ?_
              refine seqK_n ?_
              refine cw_region ?_
              refine ow1 (op1_l rfl (lo_add rfl rfl (rg_i64 (by omega))) ?_)
              refine ow1 (op1_l rfl (lo_move (v := .int _ _) rfl) ?_)
              refine ow_nil ?_
              refine next1 (k + 1) (upd_intro (mask_intro (by first | exact off_refl | (repeat (first | exact off_mask | refine off_upd rfl ?_ | refine off_mask2 rfl ?_)))) rfl) (lmask_intro (by first | exact offl_refl | (repeat (first | exact offl_mask | refine offl_upd rfl ?_ | refine offl_mask2 rfl ?_)))) hl2 ?_ ?_
              · exact ⟨by omega, by rw [← hk2, drop_getD (k := k) (by omega), List.all_cons]; generalize ((s.getD k 0).toNat : Int) = z at *; simp [letter, *]⟩
              · omega
            · have p24 := df h22
              refine cw_region ?_
              refine ow1 (op1_l rfl (lo_move (v := .int _ _) rfl) ?_)
              refine ow1 (op1_l rfl (lo_eql rfl rfl) ?_)
              refine ow1 (op1_l rfl (lo_assign (v := .bool _) rfl) ?_)
              refine ow_nil ?_
              refine seqK_n ?_
              refine cw_cond rfl (fun h25 => ?_) (fun h25 => ?_)
              · have p26 := dt h25
                refine cw_skip ?_
                refine blkK_n ?_
                refine blkK_n ?_
                refine seqK_n ?_
                refine cw_region ?_
                refine ow1 (op1_l rfl (lo_add rfl rfl (rg_i64 (by omega))) ?_)
                refine ow1 (op1_l rfl (lo_move (v := .int _ _) rfl) ?_)
                refine ow_nil ?_
                refine next1 (k + 1) (upd_intro (mask_intro (by first | exact off_refl | (repeat (first | exact off_mask | refine off_upd rfl ?_ | refine off_mask2 rfl ?_)))) rfl) (lmask_intro (by first | exact offl_refl | (repeat (first | exact offl_mask | refine offl_upd rfl ?_ | refine offl_mask2 rfl ?_)))) hl2 ?_ ?_
                · exact ⟨by omega, by rw [← hk2, drop_getD (k := k) (by omega), List.all_cons]; generalize ((s.getD k 0).toNat : Int) = z at *; simp [letter, *]⟩
                · omega
              · have p27 := df h25
                refine cw_seq ?_
                refine cw_region ?_
                refine ow1 (op1_l rfl (lo_assign (v := .bool _) rfl) ?_)
                refine ow_nil ?_
                refine seqK_n ?_
                refine cw_ret ?_
                refine blkK_r ?_
                refine blkK_r ?_
                refine seqK_r ?_
                refine loopK_r ?_
                refine blkK_r ?_
                refine seqK_r ?_
                refine fnK_r (res1 rfl (rv_t (v := .bool _) rfl)) ((HLe.refl _).trans hl2) ?_
                first | (rw [← hk2, drop_getD (k := k) (by omega), List.all_cons]; generalize ((s.getD k 0).toNat : Int) = z at *; simp [letter, *]; done) | (rw [← hk2, List.drop_of_length_le (by omega)]; rfl)
      · have p28 := df h5
        refine ow1 (op1_gs rfl h5 rfl ?_)
        refine ow1 (op1_gs rfl h5 rfl ?_)
        refine ow1 (op1_l rfl (lo_pick_f (v := .bool _) rfl h5 rfl) ?_)
        refine ow1 (op1_l rfl (lo_assign (v := .bool _) rfl) ?_)
        refine ow_nil ?_
        refine seqK_n ?_
        refine cw_cond_f rfl rfl ?_
        refine cw_seq ?_
        refine cw_region ?_
        refine ow1 (op1_l rfl (lo_move (v := .int _ _) rfl) ?_)
        refine ow1 (op1_l rfl (lo_geq rfl rfl) ?_)
        refine ow1 (op1_l rfl (lo_move (v := .bool _) rfl) ?_)
        refine ow_sp (j := 2) rfl (fun h29 => ?_) (fun h29 => ?_)
        · have p30 := dt h29
          refine ow1 (op1_g rfl h29 rfl (lo_move (v := .int _ _) rfl) ?_)
          refine ow1 (op1_g rfl h29 rfl (lo_leq rfl rfl) ?_)
          refine ow1 (op1_l rfl (lo_pick_t (v := .bool _) rfl h29 rfl) ?_)
          refine ow1 (op1_l rfl (lo_assign (v := .bool _) rfl) ?_)
          refine ow_nil ?_
          refine seqK_n ?_
          refine cw_cond rfl (fun h31 => ?_) (fun h31 => ?_)
          · have p32 := dt h31
            refine cw_skip ?_
            refine seqK_n ?_
            refine cw_cond_t rfl h31 ?_
            refine cw_skip ?_
            refine blkK_n ?_
            refine blkK_n ?_
            refine seqK_n ?_
            refine cw_region ?_
            refine ow1 (op1_l rfl (lo_add rfl rfl (rg_i64 (by omega))) ?_)
            refine ow1 (op1_l rfl (lo_move (v := .int _ _) rfl) ?_)
            refine ow_nil ?_
            refine next1 (k + 1) (upd_intro (mask_intro (by first | exact off_refl | (repeat (first | exact off_mask | refine off_upd rfl ?_ | refine off_mask2 rfl ?_)))) rfl) (lmask_intro (by first | exact offl_refl | (repeat (first | exact offl_mask | refine offl_upd rfl ?_ | refine offl_mask2 rfl ?_)))) hl2 ?_ ?_
            · exact ⟨by omega, by rw [← hk2, drop_getD (k := k) (by omega), List.all_cons]; generalize ((s.getD k 0).toNat : Int) = z at *; simp [letter, *]⟩
            · omega
          · have p33 := df h31
            refine cw_seq ?_
            refine cw_region ?_
            refine ow1 (op1_l rfl (lo_move (v := .int _ _) rfl) ?_)
            refine ow1 (op1_l rfl (lo_eql rfl rfl) ?_)
            refine ow1 (op1_l rfl (lo_assign (v := .bool _) rfl) ?_)
            refine ow_nil ?_
            refine seqK_n ?_
            refine cw_cond rfl (fun h34 => ?_) (fun h34 => ?_)
            · have p35 := dt h34
              refine cw_skip ?_
              refine seqK_n ?_
              refine cw_cond_t rfl h34 ?_
              refine cw_skip ?_
              refine blkK_n ?_
              refine blkK_n ?_
              refine seqK_n ?_
              refine cw_region ?_
              refine ow1 (op1_l rfl (lo_add rfl rfl (rg_i64 (by omega))) ?_)
              refine ow1 (op1_l rfl (lo_move (v := .int _ _) rfl) ?_)
              refine ow_nil ?_
              refine next1 (k + 1) (upd_intro (mask_intro (by first | exact off_refl | (repeat (first | exact off_mask | refine off_upd rfl ?_ | refine off_mask2 rfl ?_)))) rfl) (lmask_intro (by first | exact offl_refl | (repeat (first | exact offl_mask | refine offl_upd rfl ?_ | refine offl_mask2 rfl ?_)))) hl2 ?_ ?_
              · exact ⟨by omega, by rw [← hk2, drop_getD (k := k) (by omega), List.all_cons]; generalize ((s.getD k 0).toNat : Int) = z at *; simp [letter, *]⟩
              · omega
            · have p36 := df h34
              refine cw_region ?_
              refine ow1 (op1_l rfl (lo_move (v := .int _ _) rfl) ?_)
              refine ow1 (op1_l rfl (lo_eql rfl rfl) ?_)
              refine ow1 (op1_l rfl (lo_assign (v := .bool _) rfl) ?_)
              refine ow_nil ?_
              refine seqK_n ?_
              refine cw_cond rfl (fun h37 => ?_) (fun h37 => ?_)
              · have p38 := dt h37
                refine cw_skip ?_
                refine blkK_n ?_
                refine blkK_n ?_
                refine seqK_n ?_
                refine cw_region ?_
                refine ow1 (op1_l rfl (lo_add rfl rfl (rg_i64 (by omega))) ?_)
                refine ow1 (op1_l rfl (lo_move (v := .int _ _) rfl) ?_)
                refine ow_nil ?_
                refine next1 (k + 1) (upd_intro (mask_intro (by first | exact off_refl | (repeat (first | exact off_mask | refine off_upd rfl ?_ | refine off_mask2 rfl ?_)))) rfl) (lmask_intro (by first | exact offl_refl | (repeat (first | exact offl_mask | refine offl_upd rfl ?_ | refine offl_mask2 rfl ?_)))) hl2 ?_ ?_
                · exact ⟨by omega, by rw [← hk2, drop_getD (k := k) (by omega), List.all_cons]; generalize ((s.getD k 0).toNat : Int) = z at *; simp [letter, *]⟩
                · omega
              · have p39 := df h37
                refine cw_seq ?_
                refine cw_region ?_
                refine ow1 (op1_l rfl (lo_assign (v := .bool _) rfl) ?_)
                refine ow_nil ?_
                refine seqK_n ?_
                refine cw_ret ?_
                refine blkK_r ?_
                refine blkK_r ?_
                refine seqK_r ?_
                refine loopK_r ?_
                refine blkK_r ?_
                refine seqK_r ?_
                refine fnK_r (res1 rfl (rv_t (v := .bool _) rfl)) ((HLe.refl _).trans hl2) ?_
                first | (rw [← hk2, drop_getD (k := k) (by omega), List.all_cons]; generalize ((s.getD k 0).toNat : Int) = z at *; simp [letter, *]; done) | (rw [← hk2, List.drop_of_length_le (by omega)]; rfl)
        · have p40 := df h29
          refine ow1 (op1_gs rfl h29 rfl ?_)
          refine ow1 (op1_gs rfl h29 rfl ?_)
          refine ow1 (op1_l rfl (lo_pick_f (v := .bool _) rfl h29 rfl) ?_)
          refine ow1 (op1_l rfl (lo_assign (v := .bool _) rfl) ?_)
          refine ow_nil ?_
          refine seqK_n ?_
          refine cw_cond_f rfl rfl ?_
          refine cw_seq ?_
          refine cw_region ?_
          refine ow1 (op1_l rfl (lo_move (v := .int _ _) rfl) ?_)
          refine ow1 (op1_l rfl (lo_eql rfl rfl) ?_)
          refine ow1 (op1_l rfl (lo_assign (v := .bool _) rfl) ?_)
          refine ow_nil ?_
          refine seqK_n ?_
          refine cw_cond rfl (fun h41 => ?_) (fun h41 => ?_)
          · have p42 := dt h41
            refine cw_skip ?_
            refine seqK_n ?_
            refine cw_cond_t rfl h41 ?_
            refine cw_skip ?_
            refine blkK_n ?_
            refine blkK_n ?_
            refine seqK_n ?_
            refine cw_region ?_
            refine ow1 (op1_l rfl (lo_add rfl rfl (rg_i64 (by omega))) ?_)
            refine ow1 (op1_l rfl (lo_move (v := .int _ _) rfl) ?_)
            refine ow_nil ?_
            refine next1 (k + 1) (upd_intro (mask_intro (by first | exact off_refl | (repeat (first | exact off_mask | refine off_upd rfl ?_ | refine off_mask2 rfl ?_)))) rfl) (lmask_intro (by first | exact offl_refl | (repeat (first | exact offl_mask | refine offl_upd rfl ?_ | refine offl_mask2 rfl ?_)))) hl2 ?_ ?_
            · exact ⟨by omega, by rw [← hk2, drop_getD (k := k) (by omega), List.all_cons]; generalize ((s.getD k 0).toNat : Int) = z at *; simp [letter, *]⟩
            · omega
          · have p43 := df h41
            refine cw_region ?_
            refine ow1 (op1_l rfl (lo_move (v := .int _ _) rfl) ?_)
            refine ow1 (op1_l rfl (lo_eql rfl rfl) ?_)
            refine ow1 (op1_l rfl (lo_assign (v := .bool _) rfl) ?_)
            refine ow_nil ?_
            refine seqK_n ?_
            refine cw_cond rfl (fun h44 => ?_) (fun h44 => ?_)
            · have p45 := dt h44
              refine cw_skip ?_
              refine blkK_n ?_
              refine blkK_n ?_
              refine seqK_n ?_
              refine cw_region ?_
              refine ow1 (op1_l rfl (lo_add rfl rfl (rg_i64 (by omega))) ?_)
              refine ow1 (op1_l rfl (lo_move (v := .int _ _) rfl) ?_)
              refine ow_nil ?_
              refine next1 (k + 1) (upd_intro (mask_intro (by first | exact off_refl | (repeat (first | exact off_mask | refine off_upd rfl ?_ | refine off_mask2 rfl ?_)))) rfl) (lmask_intro (by first | exact offl_refl | (repeat (first | exact offl_mask | refine offl_upd rfl ?_ | refine offl_mask2 rfl ?_)))) hl2 ?_ ?_
              · exact ⟨by omega, by rw [← hk2, drop_getD (k := k) (by omega), List.all_cons]; generalize ((s.getD k 0).toNat : Int) = z at *; simp [letter, *]⟩
              · omega
            · have p46 := df h44
              refine cw_seq ?_
              refine cw_region ?_
              refine ow1 (op1_l rfl (lo_assign (v := .bool _) rfl) ?_)
              refine ow_nil ?_
              refine seqK_n ?_
              refine cw_ret ?_
              refine blkK_r ?_
              refine blkK_r ?_
              refine seqK_r ?_
              refine loopK_r ?_
              refine blkK_r ?_
              refine seqK_r ?_
              refine fnK_r (res1 rfl (rv_t (v := .bool _) rfl)) ((HLe.refl _).trans hl2) ?_
              first | (rw [← hk2, drop_getD (k := k) (by omega), List.all_cons]; generalize ((s.getD k 0).toNat : Int) = z at *; simp [letter, *]; done) | (rw [← hk2, List.drop_of_length_le (by omega)]; rfl)
    · have p47 := df h3
      refine cw_exit ?_
      refine seqK_e ?_
      refine loopK_e ?_
      refine blkK_hit ?_
      refine seqK_n ?_
      refine cw_seq ?_
      refine cw_region ?_
      refine ow1 (op1_l rfl (lo_assign (v := .bool _) rfl) ?_)
      refine ow_nil ?_
      refine seqK_n ?_
      refine cw_ret ?_
      refine fnK_r (res1 rfl (rv_t (v := .bool _) rfl)) ((HLe.refl _).trans hl2) ?_
      first | (rw [← hk2, drop_getD (k := k) (by omega), List.all_cons]; generalize ((s.getD k 0).toNat : Int) = z at *; simp [letter, *]; done) | (rw [← hk2, List.drop_of_length_le (by omega)]; rfl)

set_option maxRecDepth 100000 in
theorem copyCheck {n : Nat} {N : Rest} {F : Fr} {H : Hp} {L : Ls} {ops : List Oper} {ty d : Nat} {pos : String} {af : Array Edge} {K : Fr → Hp → Ls → Prop} {x : Operand} {ats : Array TypeId} {b : Nat} {p v : Value} (i : Nat) (hx : ev F x = .pointer (some ⟨b, 0, none⟩)) (hi : L i = some (b, bx 103 [p, v]))
    (hp : p = .pointer none ∨ p = .pointer (some ⟨b, 0, none⟩)) (hd : Nat.blt d n = true) (k : K (upd F d (.tuple #[])) H (lupd L i (some (b, bx 103 [.pointer (some ⟨b, 0, none⟩), v])))) : Op1 Tryd.prog n N ops ⟨some d, .call ⟨.value (.func 97), #[x], ats⟩, ty, pos, af, none⟩ K F H L := by
  refine op1_in (en_f (vs := [.pointer (some ⟨b, 0, none⟩)]) cb97 (by simp [evs, hx])) Tryd.func97 rfl Tryd.ntmps97 rfl hd ?_
  refine cw_seq ?_
  refine cw_region ?_
  refine ow1 (op1_l rfl (lo_move (v := .pointer (some ⟨_, _, none⟩)) rfl) ?_)
  refine ow1 (op1_l rfl (lo_nilCheck rfl) ?_)
  refine ow1 (op1_l rfl (lo_fieldAddr rfl fl103_0) ?_)
  refine ow1 (op1_l rfl (lo_load1 (i := i) (v := p) rfl ag100 hi rfl) ?_)
  rcases hp with rfl | rfl
  · refine ow1 (op1_l rfl (lo_pnil rfl rfl Tryd.underlying100) ?_)
    refine ow_nil ?_
    refine seqK_n ?_
    refine cw_cond_t rfl rfl ?_
    refine cw_region ?_
    refine ow1 (op1_l rfl (lo_move (v := .pointer (some ⟨_, _, none⟩)) rfl) ?_)
    refine ow1 (op1_l rfl (lo_move (v := .pointer (some ⟨_, _, none⟩)) rfl) ?_)
    refine ow1 (op1_l rfl (lo_toUnsafe (i := i) rfl hi rfl Tryd.underlying100 Tryd.underlying141 (tz103).choose_spec.1 (tz103).choose_spec.2) ?_)
    refine ow1 (op1_l rfl (lo_noEsc (v := .pointer (some ⟨_, _, none⟩)) ne112 rfl) ?_)
    refine ow1 (op1_l rfl (lo_fromUnsafe (i := i) rfl hi Tryd.underlying141 Tryd.underlying100 (ti103).choose_spec la103_103) ?_)
    refine ow1 (op1_l rfl (lo_nilCheck rfl) ?_)
    refine ow1 (op1_l rfl (lo_fieldAddr rfl fl103_0) ?_)
    refine ow1 (op1_store1 (i := i) (v := .pointer (some ⟨_, _, none⟩)) rfl rfl rfl sz100 hi rfl ?_)
    refine ow_nil ?_
    exact fnK_n (res0 rfl) (.refl _) k
  · refine ow1 (op1_l rfl (lo_peq_nil rfl rfl Tryd.underlying100) ?_)
    refine ow_nil ?_
    refine seqK_n ?_
    refine cw_cond_f rfl rfl ?_
    refine cw_seq ?_
    refine cw_region ?_
    refine ow1 (op1_l rfl (lo_move (v := .pointer (some ⟨_, _, none⟩)) rfl) ?_)
    refine ow1 (op1_l rfl (lo_nilCheck rfl) ?_)
    refine ow1 (op1_l rfl (lo_fieldAddr rfl fl103_0) ?_)
    refine ow1 (op1_l rfl (lo_load1 (i := i) (v := .pointer (some ⟨b, 0, none⟩)) rfl ag100 hi rfl) ?_)
    refine ow1 (op1_l rfl (lo_move (v := .pointer (some ⟨_, _, none⟩)) rfl) ?_)
    refine ow1 (op1_l rfl (lo_pne_self rfl rfl Tryd.underlying100 (ti103).choose_spec) ?_)
    refine ow_nil ?_
    refine seqK_n ?_
    refine cw_cond_f rfl rfl ?_
    refine cw_skip ?_
    refine fnK_n (res0 rfl) (.refl _) ?_
    rwa [lupd_eta hi] at k

theorem octet_New (H : Hp) (s : Bs) : Pn Tryd.prog 35 #[str s] H (fun v H' b o' => v = .pointer (some ⟨b, 0, none⟩) ∧ H = H' ∧ o' = bx 95 (In.cells (⟨s, 0⟩))) := by
  refine pn_cw Tryd.func35 rfl Tryd.ntmps35 rfl (fun N => ?_)
  refine cw_seq ?_
  refine cw_region ?_
  refine ow1 (op1_l rfl (lo_assign rfl) ?_)
  refine ow_nil ?_
  refine seqK_n ?_
  refine cw_seq ?_
  refine cw_region ?_
  refine ow1 (op1_l rfl (lo_move (v := str _) rfl) ?_)
  refine ow1 (op1_l rfl (lo_build (v := .agg #[_, _]) rfl (bd95_0s _)) ?_)
  refine ow1 (op1_box (cs := [_, _]) 0 rfl rfl (fun b1 => ?_))
  refine ow1 (op1_l rfl (lo_assign (v := .pointer (some ⟨_, _, none⟩)) rfl) ?_)
  refine ow_nil ?_
  refine seqK_n ?_
  refine cw_ret ?_
  refine fnK_r (res1 rfl (rv_t (v := .pointer (some ⟨_, _, none⟩)) rfl)) (.refl _) ?_
  exact ⟨0, _, _, rfl, rfl, rfl, rfl⟩

theorem in_Fail (H : Hp) (i_b : Nat) (i : In) (code : Int) (code_r : -9223372036854775808 ≤ code ∧ code ≤ 9223372036854775807) : Pm Tryd.prog 70 #[.pointer (some ⟨i_b, 0, none⟩), .int .i64 code] H i_b (bx 95 (In.cells i)) (fun v H' o' => v = .tuple #[] ∧ H = H' ∧ o' = bx 95 (In.cells (inFail i code))) := by
  refine pm_cw Tryd.func70 rfl Tryd.ntmps70 rfl (fun N => ?_)
  refine cw_seq ?_
  refine cw_region ?_
  refine ow1 (op1_l rfl (lo_move (v := .pointer (some ⟨_, _, none⟩)) rfl) ?_)
  refine ow1 (op1_l rfl (lo_pne_nil rfl rfl Tryd.underlying65) ?_)
  refine ow1 (op1_l rfl (lo_move (v := .bool _) rfl) ?_)
  refine ow1 (op1_g rfl rfl rfl (lo_move (v := .pointer (some ⟨_, _, none⟩)) rfl) ?_)
  refine ow1 (op1_g rfl rfl rfl (lo_nilCheck rfl) ?_)
  refine ow1 (op1_g rfl rfl rfl (lo_fieldAddr rfl fl95_1) ?_)
  refine ow1 (op1_g rfl rfl rfl (lo_load1 (i := 0) (v := .int _ _) rfl ag36 rfl rfl) ?_)
  refine ow1 (op1_g rfl rfl rfl (lo_eql rfl rfl) ?_)
  refine ow1 (op1_l rfl (lo_pick_t (v := .bool _) rfl rfl rfl) ?_)
  refine ow1 (op1_l rfl (lo_move (v := .bool _) rfl) ?_)
  refine ow_sp (j := 9) rfl (fun h1 => ?_) (fun h1 => ?_)
  · have p2 := dt h1
    refine ow1 (op1_g rfl h1 rfl (lo_move (v := .int _ _) rfl) ?_)
    refine ow1 (op1_g rfl h1 rfl (lo_neq rfl rfl) ?_)
    refine ow1 (op1_l rfl (lo_pick_t (v := .bool _) rfl h1 rfl) ?_)
    refine ow_nil ?_
    refine seqK_n ?_
    refine cw_cond rfl (fun h3 => ?_) (fun h3 => ?_)
    · have h4 := not_t h3
      have p5 := df h4
      refine cw_region ?_
      refine ow1 (op1_l rfl (lo_move (v := .pointer (some ⟨_, _, none⟩)) rfl) ?_)
      refine ow1 (op1_l rfl (lo_move (v := .pointer (some ⟨_, _, none⟩)) rfl) ?_)
      refine ow1 (op1_l rfl (lo_move (v := .int _ _) rfl) ?_)
      refine ow1 (op1_l rfl (lo_nilCheck rfl) ?_)
      refine ow1 (op1_l rfl (lo_fieldAddr rfl fl95_0) ?_)
      refine ow1 (op1_store1 (i := 0) (v := str _) rfl rfl rfl sz9 rfl rfl ?_)
      refine ow1 (op1_l rfl (lo_nilCheck rfl) ?_)
      refine ow1 (op1_l rfl (lo_fieldAddr rfl fl95_1) ?_)
      refine ow1 (op1_store1 (i := 0) (v := .int _ _) rfl rfl rfl sz36 rfl rfl ?_)
      refine ow_nil ?_
      refine fnK_n (res0 rfl) (.refl _) ?_
      refine ⟨_, rfl, ?_⟩
      refine ⟨?_, rfl, ?_⟩ <;> simp [inRaw, inFail, In.cells, *]
    · have h6 := not_f h3
      have p7 := dt h6
      refine cw_skip ?_
      refine fnK_n (res0 rfl) (.refl _) ?_
      refine ⟨_, rfl, ?_⟩
      refine ⟨?_, rfl, ?_⟩ <;> simp [inRaw, inFail, In.cells, *]
  · have p8 := df h1
    refine ow1 (op1_gs rfl h1 rfl ?_)
    refine ow1 (op1_gs rfl h1 rfl ?_)
    refine ow1 (op1_l rfl (lo_pick_f (v := .bool _) rfl h1 rfl) ?_)
    refine ow_nil ?_
    refine seqK_n ?_
    refine cw_cond_f rfl rfl ?_
    refine cw_skip ?_
    refine fnK_n (res0 rfl) (.refl _) ?_
    refine ⟨_, rfl, ?_⟩
    refine ⟨?_, rfl, ?_⟩ <;> simp [inRaw, inFail, In.cells, *]

theorem in_Raw (H : Hp) (i_b : Nat) (i : In) (n : Int) (n_r : -9223372036854775808 ≤ n ∧ n ≤ 9223372036854775807) : Pm Tryd.prog 94 #[.pointer (some ⟨i_b, 0, none⟩), .int .i64 n] H i_b (bx 95 (In.cells i)) (fun v H' o' => v = str ((inRaw i n).1) ∧ H = H' ∧ o' = bx 95 (In.cells ((inRaw i n).2))) := by
  refine pm_cw Tryd.func94 rfl Tryd.ntmps94 rfl (fun N => ?_)
  refine cw_seq ?_
  refine cw_region ?_
  refine ow1 (op1_l rfl (lo_assign (v := str _) rfl) ?_)
  refine ow_nil ?_
  refine seqK_n ?_
  refine cw_seq ?_
  refine cw_block ?_
  refine cw_seq ?_
  refine cw_seq ?_
  refine cw_region ?_
  refine ow1 (op1_l rfl (lo_move (v := .pointer (some ⟨_, _, none⟩)) rfl) ?_)
  refine ow1 (op1_l rfl (lo_peq_nil rfl rfl Tryd.underlying65) ?_)
  refine ow1 (op1_l rfl (lo_assign (v := .bool _) rfl) ?_)
  refine ow_nil ?_
  refine seqK_n ?_
  refine cw_cond_f rfl rfl ?_
  refine cw_seq ?_
  refine cw_region ?_
  refine ow1 (op1_l rfl (lo_move (v := .pointer (some ⟨_, _, none⟩)) rfl) ?_)
  refine ow1 (op1_l rfl (lo_nilCheck rfl) ?_)
  refine ow1 (op1_l rfl (lo_fieldAddr rfl fl95_1) ?_)
  refine ow1 (op1_l rfl (lo_load1 (i := 0) (v := .int _ _) rfl ag36 rfl rfl) ?_)
  refine ow1 (op1_l rfl (lo_neq rfl rfl) ?_)
  refine ow1 (op1_l rfl (lo_assign (v := .bool _) rfl) ?_)
  refine ow_nil ?_
  refine seqK_n ?_
  refine cw_cond rfl (fun h1 => ?_) (fun h1 => ?_)
  · have h2 := not_t h1
    have p3 := df h2
    refine cw_skip ?_
    refine seqK_n ?_
    refine cw_cond_t rfl h1 ?_
    refine cw_seq ?_
    refine cw_region ?_
    refine ow1 (op1_l rfl (lo_assign (v := str _) rfl) ?_)
    refine ow_nil ?_
    refine seqK_n ?_
    refine cw_ret ?_
    refine blkK_r ?_
    refine seqK_r ?_
    refine fnK_r (res1 rfl (rv_t (v := str _) rfl)) (.refl _) ?_
    refine ⟨_, rfl, ?_⟩
    refine ⟨?_, rfl, ?_⟩ <;> simp [inRaw, inFail, In.cells, *]
  · have h4 := not_f h1
    have p5 := dt h4
    refine cw_region ?_
    refine ow1 (op1_l rfl (lo_move (v := .int _ _) rfl) ?_)
    refine ow1 (op1_l rfl (lo_leq rfl rfl) ?_)
    refine ow1 (op1_l rfl (lo_assign (v := .bool _) rfl) ?_)
    refine ow_nil ?_
    refine seqK_n ?_
    refine cw_cond rfl (fun h6 => ?_) (fun h6 => ?_)
    · have p7 := dt h6
      refine cw_seq ?_
      refine cw_region ?_
      refine ow1 (op1_l rfl (lo_assign (v := str _) rfl) ?_)
      refine ow_nil ?_
      refine seqK_n ?_
      refine cw_ret ?_
      refine blkK_r ?_
      refine seqK_r ?_
      refine fnK_r (res1 rfl (rv_t (v := str _) rfl)) (.refl _) ?_
      refine ⟨_, rfl, ?_⟩
      refine ⟨?_, rfl, ?_⟩ <;> simp [inRaw, inFail, In.cells, *]
    · have p8 := df h6
      refine cw_seq ?_
      refine cw_region ?_
      refine ow1 (op1_l rfl (lo_move (v := .int _ _) rfl) ?_)
      refine ow1 (op1_l rfl (lo_move (v := .pointer (some ⟨_, _, none⟩)) rfl) ?_)
      refine ow1 (op1_l rfl (lo_nilCheck rfl) ?_)
      refine ow1 (op1_l rfl (lo_fieldAddr rfl fl95_0) ?_)
      refine ow1 (op1_l rfl (lo_load1 (i := 0) (v := str _) rfl ag9 rfl rfl) ?_)
      refine ow1 (op1_l rfl (lo_len_str rfl Tryd.underlying9) ?_)
      refine ow1 (op1_l rfl (lo_gtr rfl rfl) ?_)
      refine ow1 (op1_l rfl (lo_assign (v := .bool _) rfl) ?_)
      refine ow_nil ?_
      refine seqK_n ?_
      refine cw_cond rfl (fun h9 => ?_) (fun h9 => ?_)
      · have p10 := dt h9
        refine cw_seq ?_
        refine cw_region ?_
        refine ow1 (op1_l rfl (lo_move (v := .pointer (some ⟨_, _, none⟩)) rfl) ?_)
        refine ow1 (op1_pm 0 rfl (in_Fail _ i_b i 3 (by omega)) (en_f cb70 rfl) rfl ?_)
        rintro _ _ _ ⟨rfl, rfl, rfl⟩ _
        refine ow_nil ?_
        refine seqK_n ?_
        refine cw_seq ?_
        refine cw_region ?_
        refine ow1 (op1_l rfl (lo_assign (v := str _) rfl) ?_)
        refine ow_nil ?_
        refine seqK_n ?_
        refine cw_ret ?_
        refine blkK_r ?_
        refine seqK_r ?_
        refine fnK_r (res1 rfl (rv_t (v := str _) rfl)) (.refl _) ?_
        refine ⟨_, rfl, ?_⟩
        refine ⟨?_, rfl, ?_⟩ <;> simp [inRaw, inFail, In.cells, *]
      · have p13 := df h9
        refine cw_skip ?_
        refine blkK_n ?_
        refine seqK_n ?_
        refine cw_seq ?_
        refine cw_region ?_
        refine ow1 (op1_l rfl (lo_move (v := .pointer (some ⟨_, _, none⟩)) rfl) ?_)
        refine ow1 (op1_l rfl (lo_nilCheck rfl) ?_)
        refine ow1 (op1_l rfl (lo_fieldAddr rfl fl95_0) ?_)
        refine ow1 (op1_l rfl (lo_load1 (i := 0) (v := str _) rfl ag9 rfl rfl) ?_)
        refine ow1 (op1_l rfl (lo_move (v := .int _ _) rfl) ?_)
        refine ow1 (op1_l rfl (lo_slice_str_hi (n).toNat rfl rfl Tryd.underlying9 (by omega) (by omega)) ?_)
        refine ow1 (op1_l rfl (lo_assign (v := str _) rfl) ?_)
        refine ow_nil ?_
        refine seqK_n ?_
        refine cw_seq ?_
        refine cw_region ?_
        refine ow1 (op1_l rfl (lo_move (v := .pointer (some ⟨_, _, none⟩)) rfl) ?_)
        refine ow1 (op1_l rfl (lo_move (v := .pointer (some ⟨_, _, none⟩)) rfl) ?_)
        refine ow1 (op1_l rfl (lo_nilCheck rfl) ?_)
        refine ow1 (op1_l rfl (lo_fieldAddr rfl fl95_0) ?_)
        refine ow1 (op1_l rfl (lo_load1 (i := 0) (v := str _) rfl ag9 rfl rfl) ?_)
        refine ow1 (op1_l rfl (lo_move (v := .int _ _) rfl) ?_)
        refine ow1 (op1_l rfl (lo_slice_str_lo (n).toNat rfl rfl Tryd.underlying9 (by omega) (by omega)) ?_)
        refine ow1 (op1_l rfl (lo_nilCheck rfl) ?_)
        refine ow1 (op1_l rfl (lo_fieldAddr rfl fl95_0) ?_)
        refine ow1 (op1_store1 (i := 0) (v := str _) rfl rfl rfl sz9 rfl rfl ?_)
        refine ow_nil ?_
        refine seqK_n ?_
        refine cw_seq ?_
        refine cw_region ?_
        refine ow1 (op1_l rfl (lo_move (v := str _) rfl) ?_)
        refine ow1 (op1_l rfl (lo_assign (v := str _) rfl) ?_)
        refine ow_nil ?_
        refine seqK_n ?_
        refine cw_ret ?_
        refine fnK_r (res1 rfl (rv_t (v := str _) rfl)) (.refl _) ?_
        refine ⟨_, rfl, ?_⟩
        refine ⟨?_, rfl, ?_⟩ <;> simp [inRaw, inFail, In.cells, *]

theorem in_Left (H : Hp) (i_b : Nat) (i : In) : Pm Tryd.prog 73 #[.pointer (some ⟨i_b, 0, none⟩)] H i_b (bx 95 (In.cells i)) (fun v H' o' => v = .int .i64 (i.s.length : Int) ∧ H = H' ∧ o' = bx 95 (In.cells i)) := by
  refine pm_cw Tryd.func73 rfl Tryd.ntmps73 rfl (fun N => ?_)
  refine cw_seq ?_
  refine cw_region ?_
  refine ow1 (op1_l rfl (lo_assign (v := .int _ _) rfl) ?_)
  refine ow_nil ?_
  refine seqK_n ?_
  refine cw_seq ?_
  refine cw_seq ?_
  refine cw_region ?_
  refine ow1 (op1_l rfl (lo_move (v := .pointer (some ⟨_, _, none⟩)) rfl) ?_)
  refine ow1 (op1_l rfl (lo_peq_nil rfl rfl Tryd.underlying65) ?_)
  refine ow_nil ?_
  refine seqK_n ?_
  refine cw_cond_f rfl rfl ?_
  refine cw_skip ?_
  refine seqK_n ?_
  refine cw_seq ?_
  refine cw_region ?_
  refine ow1 (op1_l rfl (lo_move (v := .pointer (some ⟨_, _, none⟩)) rfl) ?_)
  refine ow1 (op1_l rfl (lo_nilCheck rfl) ?_)
  refine ow1 (op1_l rfl (lo_fieldAddr rfl fl95_0) ?_)
  refine ow1 (op1_l rfl (lo_load1 (i := 0) (v := str _) rfl ag9 rfl rfl) ?_)
  refine ow1 (op1_l rfl (lo_len_str rfl Tryd.underlying9) ?_)
  refine ow1 (op1_l rfl (lo_assign (v := .int _ _) rfl) ?_)
  refine ow_nil ?_
  refine seqK_n ?_
  refine cw_ret ?_
  refine fnK_r (res1 rfl (rv_t (v := .int _ _) rfl)) (.refl _) ?_
  refine ⟨_, rfl, ?_⟩
  exact ⟨rfl, rfl, rfl⟩

theorem in_Err (H : Hp) (i_b : Nat) (i : In) : Pm Tryd.prog 72 #[.pointer (some ⟨i_b, 0, none⟩)] H i_b (bx 95 (In.cells i)) (fun v H' o' => v = .int .i64 i.err ∧ H = H' ∧ o' = bx 95 (In.cells i)) := by
  refine pm_cw Tryd.func72 rfl Tryd.ntmps72 rfl (fun N => ?_)
  refine cw_seq ?_
  refine cw_region ?_
  refine ow1 (op1_l rfl (lo_assign (v := .int _ _) rfl) ?_)
  refine ow_nil ?_
  refine seqK_n ?_
  refine cw_seq ?_
  refine cw_seq ?_
  refine cw_region ?_
  refine ow1 (op1_l rfl (lo_move (v := .pointer (some ⟨_, _, none⟩)) rfl) ?_)
  refine ow1 (op1_l rfl (lo_peq_nil rfl rfl Tryd.underlying65) ?_)
  refine ow_nil ?_
  refine seqK_n ?_
  refine cw_cond_f rfl rfl ?_
  refine cw_skip ?_
  refine seqK_n ?_
  refine cw_seq ?_
  refine cw_region ?_
  refine ow1 (op1_l rfl (lo_move (v := .pointer (some ⟨_, _, none⟩)) rfl) ?_)
  refine ow1 (op1_l rfl (lo_nilCheck rfl) ?_)
  refine ow1 (op1_l rfl (lo_fieldAddr rfl fl95_1) ?_)
  refine ow1 (op1_l rfl (lo_load1 (i := 0) (v := .int _ _) rfl ag36 rfl rfl) ?_)
  refine ow1 (op1_l rfl (lo_assign (v := .int _ _) rfl) ?_)
  refine ow_nil ?_
  refine seqK_n ?_
  refine cw_ret ?_
  refine fnK_r (res1 rfl (rv_t (v := .int _ _) rfl)) (.refl _) ?_
  refine ⟨_, rfl, ?_⟩
  exact ⟨rfl, rfl, rfl⟩

theorem in_End (H : Hp) (i_b : Nat) (i : In) : Pm Tryd.prog 37 #[.pointer (some ⟨i_b, 0, none⟩)] H i_b (bx 95 (In.cells i)) (fun v H' o' => v = .int .i64 (inEnd i) ∧ H = H' ∧ o' = bx 95 (In.cells i)) := by
  refine pm_cw Tryd.func37 rfl Tryd.ntmps37 rfl (fun N => ?_)
  refine cw_seq ?_
  refine cw_region ?_
  refine ow1 (op1_l rfl (lo_assign (v := .int _ _) rfl) ?_)
  refine ow_nil ?_
  refine seqK_n ?_
  refine cw_seq ?_
  refine cw_seq ?_
  refine cw_region ?_
  refine ow1 (op1_l rfl (lo_move (v := .pointer (some ⟨_, _, none⟩)) rfl) ?_)
  refine ow1 (op1_pm 0 rfl (in_Err _ i_b i) (en_f cb72 rfl) rfl ?_)
  rintro _ _ _ ⟨rfl, rfl, rfl⟩ _
  refine ow1 (op1_l rfl (lo_eql rfl rfl) ?_)
  refine ow1 (op1_l rfl (lo_move (v := .bool _) rfl) ?_)
  refine ow_sp (j := 3) rfl (fun h3 => ?_) (fun h3 => ?_)
  · have p4 := dt h3
    refine ow1 (op1_g rfl h3 rfl (lo_move (v := .pointer (some ⟨_, _, none⟩)) rfl) ?_)
    refine ow1 (op1_pmg 0 rfl h3 rfl (in_Left _ i_b i) (en_f cb73 rfl) rfl ?_)
    rintro _ _ _ ⟨rfl, rfl, rfl⟩ _
    refine ow1 (op1_g rfl h3 rfl (lo_gtr rfl rfl) ?_)
    refine ow1 (op1_l rfl (lo_pick_t (v := .bool _) rfl h3 rfl) ?_)
    refine ow_nil ?_
    refine seqK_n ?_
    refine cw_cond rfl (fun h7 => ?_) (fun h7 => ?_)
    · have p8 := dt h7
      refine cw_seq ?_
      refine cw_region ?_
      refine ow1 (op1_l rfl (lo_assign (v := .int _ _) rfl) ?_)
      refine ow_nil ?_
      refine seqK_n ?_
      refine cw_ret ?_
      refine seqK_r ?_
      refine fnK_r (res1 rfl (rv_t (v := .int _ _) rfl)) (.refl _) ?_
      refine ⟨_, rfl, ?_⟩
      refine ⟨?_, rfl, rfl⟩; congr 1; unfold inEnd; split <;> omega
    · have p9 := df h7
      refine cw_skip ?_
      refine seqK_n ?_
      refine cw_seq ?_
      refine cw_region ?_
      refine ow1 (op1_l rfl (lo_move (v := .pointer (some ⟨_, _, none⟩)) rfl) ?_)
      refine ow1 (op1_pm 0 rfl (in_Err _ i_b i) (en_f cb72 rfl) rfl ?_)
      rintro _ _ _ ⟨rfl, rfl, rfl⟩ _
      refine ow1 (op1_l rfl (lo_assign (v := .int _ _) rfl) ?_)
      refine ow_nil ?_
      refine seqK_n ?_
      refine cw_ret ?_
      refine fnK_r (res1 rfl (rv_t (v := .int _ _) rfl)) (.refl _) ?_
      refine ⟨_, rfl, ?_⟩
      refine ⟨?_, rfl, rfl⟩; congr 1; unfold inEnd; split <;> omega
  · have p12 := df h3
    refine ow1 (op1_gs rfl h3 rfl ?_)
    refine ow1 (op1_gs rfl h3 rfl ?_)
    refine ow1 (op1_gs rfl h3 rfl ?_)
    refine ow1 (op1_l rfl (lo_pick_f (v := .bool _) rfl h3 rfl) ?_)
    refine ow_nil ?_
    refine seqK_n ?_
    refine cw_cond_f rfl rfl ?_
    refine cw_skip ?_
    refine seqK_n ?_
    refine cw_seq ?_
    refine cw_region ?_
    refine ow1 (op1_l rfl (lo_move (v := .pointer (some ⟨_, _, none⟩)) rfl) ?_)
    refine ow1 (op1_pm 0 rfl (in_Err _ i_b i) (en_f cb72 rfl) rfl ?_)
    rintro _ _ _ ⟨rfl, rfl, rfl⟩ _
    refine ow1 (op1_l rfl (lo_assign (v := .int _ _) rfl) ?_)
    refine ow_nil ?_
    refine seqK_n ?_
    refine cw_ret ?_
    refine fnK_r (res1 rfl (rv_t (v := .int _ _) rfl)) (.refl _) ?_
    refine ⟨_, rfl, ?_⟩
    refine ⟨?_, rfl, rfl⟩; congr 1; unfold inEnd; split <;> omega

end Go.SW


set_option linter.unusedVariables false
set_option maxRecDepth 100000
namespace Go.SW
open Go.Proofs
theorem ag5 : Ag Tryd.prog 5 false := fun w => by kernel_rfl
theorem cb69 : Callable Tryd.prog 69 := callable_of Tryd.func69 (by kernel_rfl) (by kernel_rfl)
theorem cb94 : Callable Tryd.prog 94 := callable_of Tryd.func94 (by kernel_rfl) (by kernel_rfl)
theorem sz5 : Sz Tryd.prog 5 1 := fun w => by kernel_rfl

theorem in_Num (H : Hp) (i_b : Nat) (i : In) (bytes : Int) (bytes_r : -9223372036854775808 ≤ bytes ∧ bytes ≤ 9223372036854775807) : Pm Tryd.prog 69 #[.pointer (some ⟨i_b, 0, none⟩), .int .i64 bytes] H i_b (bx 95 (In.cells i)) (fun v H' o' => v = .int .u64 ((inNum i bytes).1) ∧ H = H' ∧ o' = bx 95 (In.cells ((inNum i bytes).2))) := by
  refine pm_cw Tryd.func69 rfl Tryd.ntmps69 rfl (fun N => ?_)
  refine cw_seq ?_
  refine cw_region ?_
  refine ow1 (op1_l rfl (lo_assign (v := .int _ _) rfl) ?_)
  refine ow_nil ?_
  refine seqK_n ?_
  refine cw_seq ?_
  refine cw_region ?_
  refine ow1 (op1_l rfl (lo_assign (v := .int _ _) rfl) ?_)
  refine ow_nil ?_
  refine seqK_n ?_
  refine cw_seq ?_
  refine cw_seq ?_
  refine cw_region ?_
  refine ow1 (op1_l rfl (lo_move (v := .pointer (some ⟨_, _, none⟩)) rfl) ?_)
  refine ow1 (op1_l rfl (lo_move (v := .int _ _) rfl) ?_)
  refine ow1 (op1_l rfl (lo_min rfl rfl) ?_)
  refine ow1 (op1_pm 0 rfl (in_Raw _ i_b i (min bytes 8) (by omega)) (en_f cb94 rfl) rfl ?_)
  rintro _ _ _ ⟨rfl, rfl, rfl⟩ _
  refine ow1 (op1_s2b rfl Tryd.underlying9 Tryd.underlying101 Tryd.underlying5 rfl (fun b3 cap4 H5 hl6 hs7 => ?_))
  refine ow1 (op1_l rfl (lo_len_slh rfl hs7 Tryd.underlying101) ?_)
  refine ow1 (op1_l rfl (lo_move (v := .int _ _) rfl) ?_)
  refine ow_nil ?_
  refine seqK_n ?_
  refine cw_block ?_
  refine cw_loop1 [5, 7, 14, 15, 16, 17, 18, 19, 20, 21, 22, 23] [] (fun (k : Nat) G => upd (upd (G) 14 (.int .i64 (k : Int))) 5 (.int .u64 (beN ((inRaw i (min bytes 8)).1.take k) : Int))) (fun (k : Nat) G => G) (fun (k : Nat) H' => k ≤ (inRaw i (min bytes 8)).1.length) (fun (k : Nat) => (inRaw i (min bytes 8)).1.length - k) 0 (upd_intro (upd_intro (mask_intro (by first | exact off_refl | (repeat (first | exact off_mask | refine off_upd rfl ?_ | refine off_mask2 rfl ?_)))) rfl) rfl) (lmask_intro offl_refl) ?_ ?_
  · exact Nat.zero_le _
  · intro k J9 JL9 H9 hp8 hl9
    have hb := inRaw_len i (min bytes 8)
    refine cw_seq ?_
    refine cw_region ?_
    refine ow1 (op1_l rfl (lo_lss rfl rfl) ?_)
    refine ow_nil ?_
    refine seqK_n ?_
    refine cw_seq ?_
    refine cw_cond rfl (fun h10 => ?_) (fun h10 => ?_)
    · have p11 := dt h10
      refine cw_skip ?_
      refine seqK_n ?_
      refine cw_seq ?_
      refine cw_block ?_
      refine cw_seq ?_
      refine cw_region ?_
      obtain ⟨c12, hc13⟩ := getE (xs := (inRaw i (min bytes 8)).1) (m := k) (by omega)
      obtain ⟨cs14, hE15, at16⟩ := (hs7.mono ((HLe.refl _).trans hl9) (fun _ _ h => h)).get hc13
      subst hE15
      have c12_r := u8r c12
      refine ow1 (op1_l rfl (lo_indexAddr rfl rfl (hs7.mono ((HLe.refl _).trans hl9) (fun _ _ h => h)).1 at16 Tryd.underlying101 sz5 (by omega) (by omega)) ?_)
      refine ow1 (op1_l rfl (lo_loadE1 rfl ag5 at16) ?_)
      refine ow1 (op1_l rfl (lo_assign (v := .int _ _) rfl) ?_)
      refine ow_nil ?_
      refine seqK_n ?_
      refine cw_region ?_
      refine ow1 (op1_l rfl (lo_move (v := .int _ _) rfl) ?_)
      refine ow1 (op1_l rfl (lo_shl rfl rfl (by omega)) ?_)
      refine ow1 (op1_l rfl (lo_move (v := .int _ _) rfl) ?_)
      refine ow1 (op1_l rfl (lo_conv_in rfl (by rw [Tryd.underlying5]; rfl) Tryd.underlying22 (rg_u64 (by omega))) ?_)
      have := wr_u64 ((BitVec.ofInt (IntKind.bits .u64) (IntKind.wrap .u64 ((beN ((inRaw i (min bytes 8)).1.take k) : Int) * 2 ^ (min (8 : Int).toNat (IntKind.bits .u64)))) ||| BitVec.ofInt (IntKind.bits .u64) (c12.toNat : Int)).toNat)
      refine ow1 (op1_l rfl (lo_or rfl rfl) ?_)
      refine ow1 (op1_l rfl (lo_assign (v := .int _ _) rfl) ?_)
      refine ow_nil ?_
      refine blkK_n ?_
      refine seqK_n ?_
      refine cw_region ?_
      refine ow1 (op1_l rfl (lo_add rfl rfl (rg_i64 (by omega))) ?_)
      refine ow1 (op1_l rfl (lo_move (v := .int _ _) rfl) ?_)
      refine ow_nil ?_
      refine next1 (k + 1) (upd_intro (upd_intro (mask_intro (by first | exact off_refl | (repeat (first | exact off_mask | refine off_upd rfl ?_ | refine off_mask2 rfl ?_)))) rfl) (congrArg (Value.int .u64) (num_step hc13 (by omega)))) (lmask_intro (by first | exact offl_refl | (repeat (first | exact offl_mask | refine offl_upd rfl ?_ | refine offl_mask2 rfl ?_)))) hl9 ?_ ?_
      · omega
      · omega
    · have p17 := df h10
      refine cw_exit ?_
      refine seqK_e ?_
      refine loopK_e ?_
      refine blkK_hit ?_
      refine seqK_n ?_
      refine cw_seq ?_
      refine cw_region ?_
      refine ow1 (op1_l rfl (lo_move (v := .int _ _) rfl) ?_)
      refine ow1 (op1_l rfl (lo_assign (v := .int _ _) rfl) ?_)
      refine ow_nil ?_
      refine seqK_n ?_
      refine cw_down (((HLe.refl _).trans hl6).trans hl9) ?_
      refine cw_ret ?_
      refine fnK_r (res1 rfl (rv_t (v := .int _ _) rfl)) (.refl _) ?_
      refine ⟨_, rfl, ?_⟩
      refine ⟨?_, rfl, rfl⟩
      simp only [inNum]
      rw [List.take_of_length_le (by omega)]

theorem in_Text (H : Hp) (i_b : Nat) (i : In) (most : Int) (most_r : -9223372036854775808 ≤ most ∧ most ≤ 9223372036854775807) : Pm Tryd.prog 68 #[.pointer (some ⟨i_b, 0, none⟩), .int .i64 most] H i_b (bx 95 (In.cells i)) (fun v H' o' => v = str ((inText i most).1) ∧ H = H' ∧ o' = bx 95 (In.cells ((inText i most).2))) := by
  refine pm_cw Tryd.func68 rfl Tryd.ntmps68 rfl (fun N => ?_)
  refine cw_seq ?_
  refine cw_region ?_
  refine ow1 (op1_l rfl (lo_assign (v := str _) rfl) ?_)
  refine ow_nil ?_
  refine seqK_n ?_
  refine cw_seq ?_
  refine cw_region ?_
  refine ow1 (op1_l rfl (lo_move (v := .pointer (some ⟨_, _, none⟩)) rfl) ?_)
  refine ow1 (op1_pm 0 rfl (in_Num _ i_b i 2 (by omega)) (en_f cb69 rfl) rfl ?_)
  rintro _ _ _ ⟨rfl, rfl, rfl⟩ _
  have := inNum_r i 2
  refine ow1 (op1_l rfl (lo_conv_in rfl (by rw [Tryd.underlying22]; rfl) Tryd.underlying3 (rg_i64 (by omega))) ?_)
  refine ow1 (op1_l rfl (lo_assign (v := .int _ _) rfl) ?_)
  refine ow_nil ?_
  refine seqK_n ?_
  refine cw_seq ?_
  refine cw_seq ?_
  refine cw_region ?_
  refine ow1 (op1_l rfl (lo_move (v := .int _ _) rfl) ?_)
  refine ow1 (op1_l rfl (lo_move (v := .int _ _) rfl) ?_)
  refine ow1 (op1_l rfl (lo_gtr rfl rfl) ?_)
  refine ow_nil ?_
  refine seqK_n ?_
  refine cw_cond rfl (fun h3 => ?_) (fun h3 => ?_)
  · have p4 := dt h3
    refine cw_region ?_
    refine ow1 (op1_l rfl (lo_move (v := .pointer (some ⟨_, _, none⟩)) rfl) ?_)
    refine ow1 (op1_pm 0 rfl (in_Fail _ i_b ((inNum i 2).2) 5 (by omega)) (en_f cb70 rfl) rfl ?_)
    rintro _ _ _ ⟨rfl, rfl, rfl⟩ _
    refine ow_nil ?_
    refine seqK_n ?_
    refine cw_seq ?_
    refine cw_region ?_
    refine ow1 (op1_l rfl (lo_move (v := .pointer (some ⟨_, _, none⟩)) rfl) ?_)
    refine ow1 (op1_l rfl (lo_move (v := .int _ _) rfl) ?_)
    refine ow1 (op1_pm 0 rfl (in_Raw _ i_b (inFail ((inNum i 2).2) 5) ((inNum i 2).1) (by omega)) (en_f cb94 rfl) rfl ?_)
    rintro _ _ _ ⟨rfl, rfl, rfl⟩ _
    refine ow1 (op1_l rfl (lo_assign (v := str _) rfl) ?_)
    refine ow_nil ?_
    refine seqK_n ?_
    refine cw_ret ?_
    refine fnK_r (res1 rfl (rv_t (v := str _) rfl)) (.refl _) ?_
    refine ⟨_, rfl, ?_⟩
    refine ⟨?_, rfl, ?_⟩ <;> simp [inText, *]
  · have p9 := df h3
    refine cw_skip ?_
    refine seqK_n ?_
    refine cw_seq ?_
    refine cw_region ?_
    refine ow1 (op1_l rfl (lo_move (v := .pointer (some ⟨_, _, none⟩)) rfl) ?_)
    refine ow1 (op1_l rfl (lo_move (v := .int _ _) rfl) ?_)
    refine ow1 (op1_pm 0 rfl (in_Raw _ i_b ((inNum i 2).2) ((inNum i 2).1) (by omega)) (en_f cb94 rfl) rfl ?_)
    rintro _ _ _ ⟨rfl, rfl, rfl⟩ _
    refine ow1 (op1_l rfl (lo_assign (v := str _) rfl) ?_)
    refine ow_nil ?_
    refine seqK_n ?_
    refine cw_ret ?_
    refine fnK_r (res1 rfl (rv_t (v := str _) rfl)) (.refl _) ?_
    refine ⟨_, rfl, ?_⟩
    refine ⟨?_, rfl, ?_⟩ <;> simp [inText, *]

end Go.SW


set_option linter.unusedVariables false
set_option maxRecDepth 100000
namespace Go.SW
open Go.Proofs
theorem ag101 : Ag Tryd.prog 101 false := fun w => by kernel_rfl
theorem ag78 : Ag Tryd.prog 78 true := fun w => by kernel_rfl
theorem by5 : By Tryd.prog 5 1 := by_of (by kernel_rfl)
theorem cb76 : Callable Tryd.prog 76 := callable_of Tryd.func76 (by kernel_rfl) (by kernel_rfl)
theorem cb77 : Callable Tryd.prog 77 := callable_of Tryd.func77 (by kernel_rfl) (by kernel_rfl)
theorem co5 : Tryd.prog.cellsOf 5 = 1 := by kernel_rfl
theorem fl103_1 : Fld Tryd.prog 103 1 1 := fun b o w => by kernel_rfl
theorem fl78_0 : Fld Tryd.prog 78 0 0 := fun b o w => by kernel_rfl
theorem mixd : Tryd.prog.follows .mixedOrders = true := by kernel_rfl
theorem sz101 : Sz Tryd.prog 101 1 := fun w => by kernel_rfl
theorem sz78 : Sz Tryd.prog 78 2 := fun w => by kernel_rfl
theorem zr103 : Zr Tryd.prog 103 [.pointer none, .slice none 0 0] := fun w => ⟨.agg #[.pointer none, .slice none 0 0], by kernel_rfl, rfl⟩
theorem zr5 : Zr Tryd.prog 5 [.int .u8 0] := fun w => ⟨.int .u8 0, by kernel_rfl, rfl⟩
theorem zr78 : Zr Tryd.prog 78 [str [], .int .i64 0] := fun w => ⟨.agg #[str [], .int .i64 0], by kernel_rfl, rfl⟩
theorem zx5 : ∃ z, ∀ w, (zeroValue 5).run Tryd.prog w = .ok z w := ⟨.int .u8 0, fun w => by kernel_rfl⟩

theorem out_Num (H : Hp) (o : Out) (n : Int) (n_r : 0 ≤ n ∧ n ≤ 18446744073709551615) (bytes : Int) (bytes_r : -9223372036854775808 ≤ bytes ∧ bytes ≤ 9223372036854775807) (hlen : o.s.length ≤ 4611686018427387904) : Pr Tryd.prog 46 #[.agg (Out.cells o).toArray, .int .u64 n, .int .i64 bytes] H (.agg (Out.cells (outNum o n bytes)).toArray) := by
  refine pr_cw Tryd.func46 rfl Tryd.ntmps46 rfl (fun N => ?_)
  refine cw_seq ?_
  refine cw_region ?_
  refine ow1 (op1_box (cs := [_, _]) 0 rfl rfl (fun b1 => ?_))
  refine ow1 (op1_alloc 1 rfl zr78 (fun b2 => ?_))
  refine ow_nil ?_
  refine seqK_n ?_
  refine cw_seq ?_
  refine cw_region ?_
  refine ow1 (op1_alloc 2 rfl zr103 (fun b3 => ?_))
  refine ow_nil ?_
  refine seqK_n ?_
  refine cw_seq ?_
  refine cw_seq ?_
  refine cw_region ?_
  refine ow1 (op1_l rfl (lo_move (v := .int _ _) rfl) ?_)
  refine ow1 (op1_l rfl (lo_max rfl rfl) ?_)
  refine ow1 (op1_l rfl (lo_min rfl rfl) ?_)
  refine ow1 (op1_l rfl (lo_sub rfl rfl (rg_i64 (by omega))) ?_)
  refine ow1 (op1_l rfl (lo_assign (v := .int _ _) rfl) ?_)
  refine ow_nil ?_
  refine seqK_n ?_
  refine cw_block ?_
  refine cw_loop5 [8, 13, 14, 15, 16, 17, 18, 19, 20, 21, 22] [2, 3, 4] (fun (j : Nat) (bs : Bs) (p : Value) (v : Value) (en : Option (Nat × Obj)) G => upd (G) 8 (.int .i64 ((j : Int) - 1))) (fun (j : Nat) (bs : Bs) (p : Value) (v : Value) (en : Option (Nat × Obj)) G => lupd (lupd (G) 2 (some (b3, bx 103 [p, v]))) 3 (en)) (fun (j : Nat) (bs : Bs) (p : Value) (v : Value) (en : Option (Nat × Obj)) H' => bs ++ numB j n.toNat = numB (numK bytes) n.toNat ∧ bs.length + j = numK bytes ∧ OwnV 1 5 v en bs.length (bs.map u8v) ∧ (bs.length = 0 → v = .slice none 0 0) ∧ (p = .pointer none ∨ p = .pointer (some ⟨b3, 0, none⟩))) (fun (j : Nat) (bs : Bs) (p : Value) (v : Value) (en : Option (Nat × Obj)) => j) (numK bytes) [] (.pointer none) (.slice none 0 0) none (upd_intro (mask_intro (by first | exact off_refl | (repeat (first | exact off_mask | refine off_upd rfl ?_ | refine off_mask2 rfl ?_)))) (congrArg (Value.int .i64) (show min (max bytes 0) 8 - 1 = ((numK bytes : Nat) : Int) - 1 by unfold numK; omega))) (lupd_intro (lupd_intro (lmask_intro offl_refl) rfl) rfl) ?_ ?_
  · exact ⟨rfl, by simp, ownV_nil, fun _ => rfl, .inl rfl⟩
  · intro j bs p v en J5 JL5 H5 hp4 hl5
    obtain ⟨hk1, hk2, ho, hz, hpp⟩ := hp4
    have hk8 : numK bytes ≤ 8 := by unfold numK; omega
    refine cw_seq ?_
    refine cw_seq ?_
    refine cw_region ?_
    refine ow1 (op1_l rfl (lo_move (v := .int _ _) rfl) ?_)
    refine ow1 (op1_l rfl (lo_geq rfl rfl) ?_)
    refine ow_nil ?_
    refine seqK_n ?_
    refine cw_cond rfl (fun h6 => ?_) (fun h6 => ?_)
    · have p7 := dt h6
      refine cw_skip ?_
      refine seqK_n ?_
      refine cw_seq ?_
      refine cw_block ?_
      refine cw_region ?_
      refine ow1 (op1_l rfl (lo_move (v := .int _ _) rfl) ?_)
      refine ow1 (op1_l rfl (lo_move (v := .int _ _) rfl) ?_)
      refine ow1 (op1_l rfl (lo_mul rfl rfl (rg_i64 (by omega))) ?_)
      refine ow1 (op1_l rfl (lo_shr rfl rfl (by omega)) ?_)
      have := wr_u8 (Int.fdiv n (2 ^ (min ((8 * ((j : Int) - 1)) : Int).toNat (IntKind.bits .u64))))
      refine ow1 (op1_l rfl (lo_conv rfl (by rw [Tryd.underlying22]; rfl) Tryd.underlying5) ?_)
      refine ow1 (op1_in (en_f cb76 rfl) Tryd.func76 rfl Tryd.ntmps76 rfl rfl ?_)
      refine cw_seq ?_
      refine cw_region ?_
      refine ow1 (op1_l rfl (lo_assign rfl) ?_)
      refine ow_nil ?_
      refine seqK_n ?_
      refine cw_seq ?_
      refine cw_region ?_
      refine ow1 (op1_l rfl (lo_move (v := .pointer (some ⟨_, _, none⟩)) rfl) ?_)
      refine ow1 (copyCheck 2 rfl rfl hpp rfl ?_)
      refine ow_nil ?_
      refine seqK_n ?_
      refine cw_seq ?_
      refine cw_region ?_
      refine ow1 (op1_l rfl (lo_move (v := .pointer (some ⟨_, _, none⟩)) rfl) ?_)
      refine ow1 (op1_l rfl (lo_move (v := .pointer (some ⟨_, _, none⟩)) rfl) ?_)
      refine ow1 (op1_l rfl (lo_nilCheck rfl) ?_)
      refine ow1 (op1_l rfl (lo_fieldAddr rfl fl103_1) ?_)
      refine ow1 (op1_l rfl (lo_load1 (i := 2) rfl ag101 rfl rfl) ?_)
      refine ow1 (op1_l rfl (lo_move (v := .int _ _) rfl) ?_)
      refine ow1 (op1_bslice (cs := [_]) 4 rfl Tryd.underlying101 sz5 zx5 rfl ⟨rfl, rfl, trivial⟩ rfl rfl (by decide) (fun b8 => ?_))
      refine ow1 (op1_app 3 rfl rfl Tryd.underlying101 Tryd.underlying101 rfl sz5 by5 (by decide) zr5 ho (src_bx (i := 4) rfl rfl) (List.all_eq_true.1 rfl) rfl (by omega) rfl (fun v9 en10 ho11 => ?_))
      have ho12 := byte_app (bs := bs) ho11 (by first | rfl | simp) (wrap8r _)
      refine ow1 (op1_l rfl (lo_nilCheck rfl) ?_)
      refine ow1 (op1_l rfl (lo_fieldAddr rfl fl103_1) ?_)
      refine ow1 (op1_store1 (i := 2) rfl rfl (ownV_one ho12) sz101 rfl rfl ?_)
      refine ow_nil ?_
      refine seqK_n ?_
      refine cw_seq ?_
      refine cw_region ?_
      refine ow1 (op1_l rfl (lo_assign rfl) ?_)
      refine ow_nil ?_
      refine seqK_n ?_
      refine cw_ret ?_
      refine fnK_r (res1 rfl (rv_t rfl)) (.refl _) ?_
      refine ow_nil ?_
      refine blkK_n ?_
      refine seqK_n ?_
      refine cw_region ?_
      refine ow1 (op1_l rfl (lo_move (v := .int _ _) rfl) ?_)
      refine ow1 (op1_l rfl (lo_sub rfl rfl (rg_i64 (by omega))) ?_)
      refine ow1 (op1_l rfl (lo_assign (v := .int _ _) rfl) ?_)
      refine ow_nil ?_
      refine next5 (j - 1) (bs ++ [UInt8.ofNat ((IntKind.wrap .u8 (Int.fdiv n (2 ^ (min ((8 * ((j : Int) - 1)) : Int).toNat (IntKind.bits .u64)))))).toNat]) (.pointer (some ⟨b3, 0, none⟩)) v9 en10 (upd_intro (mask_intro (by first | exact off_refl | (repeat (first | exact off_mask | refine off_upd rfl ?_ | refine off_mask2 rfl ?_)))) (congrArg (Value.int .i64) (show ((j : Int) - 1) - 1 = ((j - 1 : Nat) : Int) - 1 by omega))) (lupd_intro (lupd_intro (lmask_intro (by first | exact offl_refl | (repeat (first | exact offl_mask | refine offl_upd rfl ?_ | refine offl_mask2 rfl ?_)))) rfl) rfl) hl5 ?_ ?_
      · refine ⟨?_, ?_, ho12, (nz_of ho12 (by simp)), .inr rfl⟩
        · rw [byte_of n_r.1 (by omega) (by omega), List.append_assoc, ← hk1]
          obtain ⟨q, rfl⟩ : ∃ q, j = q + 1 := ⟨j - 1, by omega⟩
          simp [numB]
        · simp; omega
      · omega
    · have p13 := df h6
      refine cw_exit ?_
      refine seqK_e ?_
      refine loopK_e ?_
      refine blkK_hit ?_
      refine seqK_n ?_
      refine cw_seq ?_
      refine cw_anyX 3 mixd ?_
      refine vw_q 0 rfl (by kernel_rfl) (by repeat (first | exact lle_l0 | exact LLe.refl _ | exact lle_none | refine lle_up ?_ rfl)) (fun _ _ hh hl => lo_fieldAddr rfl fl78_0) ?_
      refine vw_q 1 rfl (by kernel_rfl) (by repeat (first | exact lle_l0 | exact LLe.refl _ | exact lle_none | refine lle_up ?_ rfl)) (fun _ _ hh hl => lo_load1 (i := 0) (v := str _) rfl ag9 (hl _ _ rfl) rfl) ?_
      refine vw_e 2 rfl (by kernel_rfl) (op1_in (en_f cb77 rfl) Tryd.func77 rfl Tryd.ntmps77 rfl rfl ?_)
      refine cw_seq ?_
      refine cw_region ?_
      refine ow1 (op1_l rfl (lo_assign (v := str _) rfl) ?_)
      refine ow_nil ?_
      refine seqK_n ?_
      refine cw_seq ?_
      refine cw_anyX 3 mixd ?_
      refine vw_q 0 rfl (by kernel_rfl) (by repeat (first | exact lle_l0 | exact LLe.refl _ | exact lle_none | refine lle_up ?_ rfl)) (fun _ _ hh hl => lo_move (v := .pointer (some ⟨_, _, none⟩)) rfl) ?_
      refine vw_q 1 rfl (by kernel_rfl) (by repeat (first | exact lle_l0 | exact LLe.refl _ | exact lle_none | refine lle_up ?_ rfl)) (fun _ _ hh hl => lo_nilCheck rfl) ?_
      refine vw_q 2 rfl (by kernel_rfl) (by repeat (first | exact lle_l0 | exact LLe.refl _ | exact lle_none | refine lle_up ?_ rfl)) (fun _ _ hh hl => lo_fieldAddr rfl fl103_1) ?_
      refine vw_q 3 rfl (by kernel_rfl) (by repeat (first | exact lle_l0 | exact LLe.refl _ | exact lle_none | refine lle_up ?_ rfl)) (fun _ _ hh hl => lo_load1 (i := 2) rfl ag101 (hl _ _ rfl) rfl) ?_
      refine vw_q 4 rfl (by kernel_rfl) (by repeat (first | exact lle_l0 | exact LLe.refl _ | exact lle_none | refine lle_up ?_ rfl)) (fun _ _ hh hl => lo_usd rfl ho hz) ?_
      refine vw_q 5 rfl (by kernel_rfl) (by repeat (first | exact lle_l0 | exact LLe.refl _ | exact lle_none | refine lle_up ?_ rfl)) (fun _ _ hh hl => lo_move (v := .pointer (some ⟨_, _, none⟩)) rfl) ?_
      refine vw_q 6 rfl (by kernel_rfl) (by repeat (first | exact lle_l0 | exact LLe.refl _ | exact lle_none | refine lle_up ?_ rfl)) (fun _ _ hh hl => lo_nilCheck rfl) ?_
      refine vw_q 7 rfl (by kernel_rfl) (by repeat (first | exact lle_l0 | exact LLe.refl _ | exact lle_none | refine lle_up ?_ rfl)) (fun _ _ hh hl => lo_fieldAddr rfl fl103_1) ?_
      refine vw_q 8 rfl (by kernel_rfl) (by repeat (first | exact lle_l0 | exact LLe.refl _ | exact lle_none | refine lle_up ?_ rfl)) (fun _ _ hh hl => lo_load1 (i := 2) rfl ag101 (hl _ _ rfl) rfl) ?_
      refine vw_q 9 rfl (by kernel_rfl) (by repeat (first | exact lle_l0 | exact LLe.refl _ | exact lle_none | refine lle_up ?_ rfl)) (fun _ _ hh hl => lo_len_own rfl ho Tryd.underlying101) ?_
      refine vw_e 10 rfl (by kernel_rfl) (op1_ustr (l := bs) 3 rfl rfl Tryd.underlying122 co5 ho hz (by have hq := numB_len (numK bytes) n.toNat; simp [numK] at *; omega) rfl ?_)
      refine ⟨⟨(.refl _), (by repeat (first | exact lle_l0 | exact LLe.refl _ | exact lle_none | refine lle_up ?_ rfl))⟩, ?_⟩
      refine vw_q 11 rfl (by kernel_rfl) (by repeat (first | exact lle_l0 | exact LLe.refl _ | exact lle_none | refine lle_up ?_ rfl)) (fun _ _ hh hl => lo_assign (v := str _) rfl) ?_
      refine vw_done (by kernel_rfl) ?_
      refine seqK_n ?_
      refine cw_ret ?_
      refine fnK_r (res1 rfl (rv_t (v := str _) rfl)) (.refl _) ?_
      refine ⟨⟨(.refl _), (by repeat (first | exact lle_l0 | exact LLe.refl _ | exact lle_none | refine lle_up ?_ rfl))⟩, ?_⟩
      refine vw_q 3 rfl (by kernel_rfl) (by repeat (first | exact lle_l0 | exact LLe.refl _ | exact lle_none | refine lle_up ?_ rfl)) (fun _ _ hh hl => lo_cat rfl rfl (by have hq := numB_len (numK bytes) n.toNat; simp [numK] at *; omega)) ?_
      refine vw_q 4 rfl (by kernel_rfl) (by repeat (first | exact lle_l0 | exact LLe.refl _ | exact lle_none | refine lle_up ?_ rfl)) (fun _ _ hh hl => lo_fieldAddr rfl fl78_0) ?_
      refine vw_t 5 rfl (by kernel_rfl) (by kernel_rfl) (op1_store1 (i := 0) (v := str _) rfl rfl rfl sz9 rfl rfl ?_)
      refine vw_done (by kernel_rfl) ?_
      refine seqK_n ?_
      refine cw_seq ?_
      refine cw_region ?_
      refine ow1 (op1_l rfl (lo_loadA (i := 0) (vs := [_, _]) rfl ag78 sz78 rfl rfl rfl) ?_)
      refine ow1 (op1_storeA (i := 1) (vs := [_, _]) rfl rfl rfl sz78 rfl rfl rfl ?_)
      refine ow_nil ?_
      refine seqK_n ?_
      refine cw_ret ?_
      refine fnK_r (res1 rfl (rv_c (i := 1) (vs := [_, _]) rfl ag78 sz78 rfl rfl rfl)) ((HLe.refl _).trans hl5) ?_
      obtain rfl : j = 0 := by omega
      simp only [numB, List.append_nil] at hk1
      subst hk1
      rfl

end Go.SW


set_option linter.unusedVariables false
set_option maxRecDepth 100000
namespace Go.SW
open Go.Proofs
theorem cb46 : Callable Tryd.prog 46 := callable_of Tryd.func46 (by kernel_rfl) (by kernel_rfl)
theorem cb48 : Callable Tryd.prog 48 := callable_of Tryd.func48 (by kernel_rfl) (by kernel_rfl)
theorem cb82 : Callable Tryd.prog 82 := callable_of Tryd.func82 (by kernel_rfl) (by kernel_rfl)
theorem fl78_1 : Fld Tryd.prog 78 1 1 := fun b o w => by kernel_rfl

theorem out_Raw (H : Hp) (o : Out) (s : Bs) (hlen : o.s.length + s.length ≤ 4611686018427387904) : Pr Tryd.prog 48 #[.agg (Out.cells o).toArray, str s] H (.agg (Out.cells (outRaw o s)).toArray) := by
  refine pr_cw Tryd.func48 rfl Tryd.ntmps48 rfl (fun N => ?_)
  refine cw_seq ?_
  refine cw_region ?_
  refine ow1 (op1_box (cs := [_, _]) 0 rfl rfl (fun b1 => ?_))
  refine ow1 (op1_alloc 1 rfl zr78 (fun b2 => ?_))
  refine ow_nil ?_
  refine seqK_n ?_
  refine cw_seq ?_
  refine cw_region ?_
  refine ow1 (op1_l rfl (lo_fieldAddr rfl fl78_0) ?_)
  refine ow1 (op1_l rfl (lo_load1 (i := 0) (v := str _) rfl ag9 rfl rfl) ?_)
  refine ow1 (op1_l rfl (lo_move (v := str _) rfl) ?_)
  refine ow1 (op1_l rfl (lo_cat rfl rfl (by first | omega | (simp <;> omega))) ?_)
  refine ow1 (op1_l rfl (lo_fieldAddr rfl fl78_0) ?_)
  refine ow1 (op1_store1 (i := 0) (v := str _) rfl rfl rfl sz9 rfl rfl ?_)
  refine ow_nil ?_
  refine seqK_n ?_
  refine cw_seq ?_
  refine cw_region ?_
  refine ow1 (op1_l rfl (lo_loadA (i := 0) (vs := [_, _]) rfl ag78 sz78 rfl rfl rfl) ?_)
  refine ow1 (op1_storeA (i := 1) (vs := [_, _]) rfl rfl rfl sz78 rfl rfl rfl ?_)
  refine ow_nil ?_
  refine seqK_n ?_
  refine cw_ret ?_
  refine fnK_r (res1 rfl (rv_c (i := 1) (vs := [_, _]) rfl ag78 sz78 rfl rfl rfl)) (.refl _) ?_
  rfl

theorem out_String (H : Hp) (o : Out) : Pr Tryd.prog 49 #[.agg (Out.cells o).toArray] H (str o.s) := by
  refine pr_cw Tryd.func49 rfl Tryd.ntmps49 rfl (fun N => ?_)
  refine cw_seq ?_
  refine cw_region ?_
  refine ow1 (op1_box (cs := [_, _]) 0 rfl rfl (fun b1 => ?_))
  refine ow1 (op1_l rfl (lo_assign (v := str _) rfl) ?_)
  refine ow_nil ?_
  refine seqK_n ?_
  refine cw_seq ?_
  refine cw_region ?_
  refine ow1 (op1_l rfl (lo_fieldAddr rfl fl78_0) ?_)
  refine ow1 (op1_l rfl (lo_load1 (i := 0) (v := str _) rfl ag9 rfl rfl) ?_)
  refine ow1 (op1_l rfl (lo_assign (v := str _) rfl) ?_)
  refine ow_nil ?_
  refine seqK_n ?_
  refine cw_ret ?_
  refine fnK_r (res1 rfl (rv_t (v := str _) rfl)) (.refl _) ?_
  rfl

theorem out_Text (H : Hp) (o : Out) (s : Bs) (hlen : o.s.length + s.length ≤ 4611686018427386000) : Pr Tryd.prog 45 #[.agg (Out.cells o).toArray, str s] H (.agg (Out.cells (outText o s)).toArray) := by
  refine pr_cw Tryd.func45 rfl Tryd.ntmps45 rfl (fun N => ?_)
  refine cw_seq ?_
  refine cw_region ?_
  refine ow1 (op1_box (cs := [_, _]) 0 rfl rfl (fun b1 => ?_))
  refine ow1 (op1_alloc 1 rfl zr78 (fun b2 => ?_))
  refine ow_nil ?_
  refine seqK_n ?_
  refine cw_seq ?_
  refine cw_seq ?_
  refine cw_region ?_
  refine ow1 (op1_l rfl (lo_move (v := str _) rfl) ?_)
  refine ow1 (op1_l rfl (lo_len_str rfl Tryd.underlying9) ?_)
  refine ow1 (op1_l rfl (lo_gtr rfl rfl) ?_)
  refine ow_nil ?_
  refine seqK_n ?_
  refine cw_cond rfl (fun h3 => ?_) (fun h3 => ?_)
  · have p4 := dt h3
    refine cw_seq ?_
    refine cw_seq ?_
    refine cw_region ?_
    refine ow1 (op1_l rfl (lo_fieldAddr rfl fl78_1) ?_)
    refine ow1 (op1_l rfl (lo_load1 (i := 0) (v := .int _ _) rfl ag36 rfl rfl) ?_)
    refine ow1 (op1_l rfl (lo_eql rfl rfl) ?_)
    refine ow_nil ?_
    refine seqK_n ?_
    refine cw_cond rfl (fun h5 => ?_) (fun h5 => ?_)
    · have p6 := dt h5
      refine cw_region ?_
      refine ow1 (op1_l rfl (lo_fieldAddr rfl fl78_1) ?_)
      refine ow1 (op1_store1 (i := 0) (v := .int _ _) rfl rfl rfl sz36 rfl rfl ?_)
      refine ow_nil ?_
      refine seqK_n ?_
      refine cw_seq ?_
      refine cw_region ?_
      refine ow1 (op1_l rfl (lo_loadA (i := 0) (vs := [_, _]) rfl ag78 sz78 rfl rfl rfl) ?_)
      refine ow1 (op1_storeA (i := 1) (vs := [_, _]) rfl rfl rfl sz78 rfl rfl rfl ?_)
      refine ow_nil ?_
      refine seqK_n ?_
      refine cw_ret ?_
      refine seqK_r ?_
      refine fnK_r (res1 rfl (rv_c (i := 1) (vs := [_, _]) rfl ag78 sz78 rfl rfl rfl)) (.refl _) ?_
      simp [outText, Out.cells, *]
    · have p7 := df h5
      refine cw_skip ?_
      refine seqK_n ?_
      refine cw_seq ?_
      refine cw_region ?_
      refine ow1 (op1_l rfl (lo_loadA (i := 0) (vs := [_, _]) rfl ag78 sz78 rfl rfl rfl) ?_)
      refine ow1 (op1_storeA (i := 1) (vs := [_, _]) rfl rfl rfl sz78 rfl rfl rfl ?_)
      refine ow_nil ?_
      refine seqK_n ?_
      refine cw_ret ?_
      refine seqK_r ?_
      refine fnK_r (res1 rfl (rv_c (i := 1) (vs := [_, _]) rfl ag78 sz78 rfl rfl rfl)) (.refl _) ?_
      simp [outText, Out.cells, *]
  · have p8 := df h3
    refine cw_skip ?_
    refine seqK_n ?_
    refine cw_seq ?_
    refine cw_region ?_
    refine ow1 (op1_l rfl (lo_loadA (i := 0) (vs := [_, _]) rfl ag78 sz78 rfl rfl rfl) ?_)
    refine ow1 (op1_l rfl (lo_move (v := str _) rfl) ?_)
    refine ow1 (op1_l rfl (lo_len_str rfl Tryd.underlying9) ?_)
    refine ow1 (op1_l rfl (lo_conv_in rfl (by rw [Tryd.underlying3]; rfl) Tryd.underlying22 (rg_u64 (by omega))) ?_)
    refine ow1 (op1_pr (out_Num _ o (s.length : Int) (by omega) 2 (by omega) (by first | omega | (have := hrl (by assumption); omega) | (simp [outNum, outRaw, numB_len, numK] <;> omega) | (have := hrl (by assumption); simp [outNum, outRaw, numB_len, numK] <;> omega))) (en_f cb46 rfl) rfl ?_)
    have := outNum_len o (s.length : Int) 2
    refine ow1 (op1_l rfl (lo_move (v := str _) rfl) ?_)
    refine ow1 (op1_pr (out_Raw _ (outNum o (s.length : Int) 2) s (by first | omega | (have := hrl (by assumption); omega) | (simp [outNum, outRaw, numB_len, numK] <;> omega) | (have := hrl (by assumption); simp [outNum, outRaw, numB_len, numK] <;> omega))) (en_f cb48 rfl) rfl ?_)
    have := outRaw_len (outNum o (s.length : Int) 2) s
    refine ow1 (op1_storeA (i := 1) (vs := [_, _]) rfl rfl rfl sz78 rfl rfl rfl ?_)
    refine ow_nil ?_
    refine seqK_n ?_
    refine cw_ret ?_
    refine fnK_r (res1 rfl (rv_c (i := 1) (vs := [_, _]) rfl ag78 sz78 rfl rfl rfl)) (.refl _) ?_
    simp [outText, Out.cells, *]

theorem words_Name (H : Hp) (s : Bs) (hs : s.length ≤ 9223372036854775807) : Pr Tryd.prog 54 #[str s] H (.int .i64 (nameE s)) := by
  refine pr_cw Tryd.func54 rfl Tryd.ntmps54 rfl (fun N => ?_)
  refine cw_seq ?_
  refine cw_region ?_
  refine ow1 (op1_l rfl (lo_assign (v := .int _ _) rfl) ?_)
  refine ow_nil ?_
  refine seqK_n ?_
  refine cw_seq ?_
  refine cw_block ?_
  refine cw_seq ?_
  refine cw_region ?_
  refine ow1 (op1_l rfl (lo_move (v := str _) rfl) ?_)
  refine ow1 (op1_l rfl (lo_seql rfl rfl) ?_)
  refine ow1 (op1_l rfl (lo_assign (v := .bool _) rfl) ?_)
  refine ow_nil ?_
  refine seqK_n ?_
  refine cw_cond rfl (fun h1 => ?_) (fun h1 => ?_)
  · have p2 := dt h1
    refine cw_seq ?_
    refine cw_region ?_
    refine ow1 (op1_l rfl (lo_assign (v := .int _ _) rfl) ?_)
    refine ow_nil ?_
    refine seqK_n ?_
    refine cw_ret ?_
    refine blkK_r ?_
    refine seqK_r ?_
    refine fnK_r (res1 rfl (rv_t (v := .int _ _) rfl)) (.refl _) ?_
    simp [nameE, *] <;> omega
  · have p3 := df h1
    refine cw_seq ?_
    refine cw_region ?_
    refine ow1 (op1_l rfl (lo_move (v := str _) rfl) ?_)
    refine ow1 (op1_l rfl (lo_len_str rfl Tryd.underlying9) ?_)
    refine ow1 (op1_l rfl (lo_gtr rfl rfl) ?_)
    refine ow1 (op1_l rfl (lo_assign (v := .bool _) rfl) ?_)
    refine ow_nil ?_
    refine seqK_n ?_
    refine cw_cond rfl (fun h4 => ?_) (fun h4 => ?_)
    · have p5 := dt h4
      refine cw_seq ?_
      refine cw_region ?_
      refine ow1 (op1_l rfl (lo_assign (v := .int _ _) rfl) ?_)
      refine ow_nil ?_
      refine seqK_n ?_
      refine cw_ret ?_
      refine blkK_r ?_
      refine seqK_r ?_
      refine fnK_r (res1 rfl (rv_t (v := .int _ _) rfl)) (.refl _) ?_
      simp [nameE, *] <;> omega
    · have p6 := df h4
      refine cw_seq ?_
      refine cw_region ?_
      refine ow1 (op1_l rfl (lo_move (v := str _) rfl) ?_)
      refine ow1 (op1_pr (words_plain _ s (by omega)) (en_f cb82 rfl) rfl ?_)
      refine ow1 (op1_l rfl (lo_not rfl) ?_)
      refine ow1 (op1_l rfl (lo_assign (v := .bool _) rfl) ?_)
      refine ow_nil ?_
      refine seqK_n ?_
      refine cw_cond rfl (fun h7 => ?_) (fun h7 => ?_)
      · have h8 := not_t h7
        refine cw_seq ?_
        refine cw_region ?_
        refine ow1 (op1_l rfl (lo_assign (v := .int _ _) rfl) ?_)
        refine ow_nil ?_
        refine seqK_n ?_
        refine cw_ret ?_
        refine blkK_r ?_
        refine seqK_r ?_
        refine fnK_r (res1 rfl (rv_t (v := .int _ _) rfl)) (.refl _) ?_
        simp [nameE, *] <;> omega
      · have h9 := not_f h7
        refine cw_skip ?_
        refine blkK_n ?_
        refine seqK_n ?_
        refine cw_seq ?_
        refine cw_region ?_
        refine ow1 (op1_l rfl (lo_assign (v := .int _ _) rfl) ?_)
        refine ow_nil ?_
        refine seqK_n ?_
        refine cw_ret ?_
        refine fnK_r (res1 rfl (rv_t (v := .int _ _) rfl)) (.refl _) ?_
        simp [nameE, *] <;> omega

end Go.SW


set_option linter.unusedVariables false
set_option maxRecDepth 100000
namespace Go.SW
open Go.Proofs
theorem cb113 : Callable Tryd.prog 113 := callable_of Tryd.func113 (by kernel_rfl) (by kernel_rfl)
theorem cb127 : Callable Tryd.prog 127 := callable_of Tryd.func127 (by kernel_rfl) (by kernel_rfl)
theorem cb98 : Callable Tryd.prog 98 := callable_of Tryd.func98 (by kernel_rfl) (by kernel_rfl)

theorem words_Split (H : Hp) (s : Bs) (hML : GInt H 2) (hs : s.length < 4294967281) : Ph Tryd.prog 113 #[str s] H (fun v H' => ∃ (a1 : Option Addr) (c1 : Nat), v = .slice a1 (wordsOf s).length c1 ∧ SlH strE 1 H' (.slice a1 (wordsOf s).length c1) (wordsOf s)) := by
  refine ph_cw Tryd.func113 rfl Tryd.ntmps113 rfl (fun N => ?_)
  refine cw_seq ?_
  refine cw_region ?_
  refine ow1 (op1_l rfl (lo_assign (v := .slice _ _ _) rfl) ?_)
  refine ow_nil ?_
  refine seqK_n ?_
  refine cw_seq ?_
  refine cw_seq ?_
  refine cw_region ?_
  refine ow1 (op1_l rfl (lo_move (v := str _) rfl) ?_)
  refine ow1 (op1_l rfl (lo_seql rfl rfl) ?_)
  refine ow_nil ?_
  refine seqK_n ?_
  refine cw_cond rfl (fun h1 => ?_) (fun h1 => ?_)
  · have p2 := dt h1
    refine cw_seq ?_
    refine cw_region ?_
    refine ow1 (op1_l rfl (lo_assign (v := .slice _ _ _) rfl) ?_)
    refine ow_nil ?_
    refine seqK_n ?_
    refine cw_ret ?_
    refine seqK_r ?_
    refine fnK_r (res1 rfl (rv_t (v := .slice _ _ _) rfl)) (.refl _) ?_
    have e : wordsOf s = [] := by simp [wordsOf, *]
    rw [e]
    exact ⟨none, 0, rfl, slh_nil⟩
  · have p3 := df h1
    refine cw_skip ?_
    refine seqK_n ?_
    refine cw_seq ?_
    refine cw_region ?_
    refine ow1 (op1_l rfl (lo_move (v := str _) rfl) ?_)
    refine ow1 (op1_ph (strings_Split _ s [46] (by rfl) hML (by omega)) (en_f cb127 rfl) rfl ?_)
    rintro _ H8 ⟨a4, c5, rfl, hs6⟩ hl7
    refine ow1 (op1_l rfl (lo_assign (v := .slice _ _ _) rfl) ?_)
    refine ow_nil ?_
    refine seqK_n ?_
    refine cw_ret ?_
    refine fnK_r (res1 rfl (rv_t (v := .slice _ _ _) rfl)) ((HLe.refl _).trans hl7) ?_
    have e : wordsOf s = dots s := by simp [wordsOf, *]
    rw [e]
    exact ⟨_, _, rfl, hs6⟩

theorem words_key (H : Hp) (s : Bs) (besides_a : Option Addr) (besides_l besides_c : Nat) (besides : List Bs) (besides_h : SlH strE 1 H (.slice besides_a besides_l besides_c) besides) (hML : GInt H 2) (hbl : besides.length < 4294967281) : Pr Tryd.prog 98 #[str s, .slice besides_a besides_l besides_c] H (.int .i64 (keyE besides s)) := by
  refine pr_cw Tryd.func98 rfl Tryd.ntmps98 rfl (fun N => ?_)
  refine cw_seq ?_
  refine cw_region ?_
  refine ow1 (op1_l rfl (lo_assign (v := .int _ _) rfl) ?_)
  refine ow_nil ?_
  refine seqK_n ?_
  refine cw_scope ?_
  refine cw_seq ?_
  refine cw_seq ?_
  refine cw_region ?_
  refine ow1 (op1_l rfl (lo_move (v := str _) rfl) ?_)
  refine ow1 (op1_l rfl (lo_len_str rfl Tryd.underlying9) ?_)
  refine ow1 (op1_l rfl (lo_gtr rfl rfl) ?_)
  refine ow_nil ?_
  refine seqK_n ?_
  refine cw_cond rfl (fun h1 => ?_) (fun h1 => ?_)
  · have p2 := dt h1
    refine cw_seq ?_
    refine cw_region ?_
    refine ow1 (op1_l rfl (lo_assign (v := .int _ _) rfl) ?_)
    refine ow_nil ?_
    refine seqK_n ?_
    refine cw_ret ?_
    refine seqK_r ?_
    refine scK_r ?_
    refine fnK_r (res1 rfl (rv_t (v := .int _ _) rfl)) (.refl _) ?_
    simp [keyE, *]
  · have p3 := df h1
    refine cw_skip ?_
    refine seqK_n ?_
    refine cw_seq ?_
    refine cw_label ?_
    refine seqK_n ?_
    refine cw_seq ?_
    refine cw_seq ?_
    refine cw_region ?_
    refine ow1 (op1_l rfl (lo_move (v := str _) rfl) ?_)
    refine ow1 (op1_ph (words_Split _ s hML (by omega)) (en_f cb113 rfl) rfl ?_)
    rintro _ H8 ⟨a4, c5, rfl, hs6⟩ hl7
    refine ow1 (op1_l rfl (lo_len_slh rfl hs6 Tryd.underlying108) ?_)
    refine ow1 (op1_l rfl (lo_move (v := .int _ _) rfl) ?_)
    refine ow_nil ?_
    refine seqK_n ?_
    refine cw_block ?_
    refine cw_loop1 [4, 6, 8, 15, 16, 17, 18, 19, 20, 21, 22, 23, 24, 25, 26, 27, 28, 29, 30, 31, 32, 33, 34, 35, 36] [] (fun (k : Nat) G => upd (G) 15 (.int .i64 (k : Int))) (fun (k : Nat) G => G) (fun (k : Nat) H' => k ≤ (wordsOf s).length ∧ (wordsOf s).any (isBad besides) = ((wordsOf s).drop k).any (isBad besides)) (fun (k : Nat) => (wordsOf s).length - k) 0 (upd_intro (mask_intro (by first | exact off_refl | (repeat (first | exact off_mask | refine off_upd rfl ?_ | refine off_mask2 rfl ?_)))) rfl) (lmask_intro offl_refl) ?_ ?_
    · exact ⟨Nat.zero_le _, by simp⟩
    · intro k J10 JL10 H10 hp9 hl10
      obtain ⟨hk1, hk2⟩ := hp9
      have hwl := words_le s
      refine cw_seq ?_
      refine cw_region ?_
      refine ow1 (op1_l rfl (lo_lss rfl rfl) ?_)
      refine ow_nil ?_
      refine seqK_n ?_
      refine cw_seq ?_
      refine cw_cond rfl (fun h11 => ?_) (fun h11 => ?_)
      · have p12 := dt h11
        refine cw_skip ?_
        refine seqK_n ?_
        refine cw_seq ?_
        refine cw_block ?_
        refine cw_seq ?_
        refine cw_region ?_
        obtain ⟨c13, hc14⟩ := getE (xs := wordsOf s) (m := k) (by omega)
        obtain ⟨cs15, hE16, at17⟩ := (hs6.mono ((HLe.refl _).trans hl10) (fun _ _ h => h)).get hc14
        obtain ⟨rfl, c13_w⟩ := hE16
        have c13_w : c13.length ≤ 9223372036854775807 := c13_w
        refine ow1 (op1_l rfl (lo_indexAddr rfl rfl (hs6.mono ((HLe.refl _).trans hl10) (fun _ _ h => h)).1 at17 Tryd.underlying108 sz9 (by omega) (by omega)) ?_)
        refine ow1 (op1_l rfl (lo_loadE1 rfl ag9 at17) ?_)
        refine ow1 (op1_l rfl (lo_assign (v := str _) rfl) ?_)
        refine ow_nil ?_
        refine seqK_n ?_
        refine cw_seq ?_
        refine cw_seq ?_
        refine cw_region ?_
        refine ow1 (op1_l rfl (lo_move (v := .slice _ _ _) rfl) ?_)
        refine ow1 (op1_l rfl (lo_len_slh rfl (besides_h.mono (((HLe.refl _).trans hl7).trans hl10) (fun _ _ h => h)) Tryd.underlying108) ?_)
        refine ow1 (op1_l rfl (lo_move (v := .int _ _) rfl) ?_)
        refine ow_nil ?_
        refine seqK_n ?_
        refine cw_block ?_
        refine cw_loop1 [8, 21, 22, 23, 24, 25, 26, 27, 28] [] (fun (j : Nat) G => upd (G) 21 (.int .i64 (j : Int))) (fun (j : Nat) G => G) (fun (j : Nat) H' => j ≤ besides.length ∧ besides.contains c13 = (besides.drop j).contains c13) (fun (j : Nat) => besides.length - j) 0 (upd_intro (mask_intro (by first | exact off_refl | (repeat (first | exact off_mask | refine off_upd rfl ?_ | refine off_mask2 rfl ?_)))) rfl) (lmask_intro offl_refl) ?_ ?_
        · exact ⟨Nat.zero_le _, by simp⟩
        · intro j J19 JL19 H19 hp18 hl19
          obtain ⟨hj1, hj2⟩ := hp18
          refine cw_seq ?_
          refine cw_region ?_
          refine ow1 (op1_l rfl (lo_lss rfl rfl) ?_)
          refine ow_nil ?_
          refine seqK_n ?_
          refine cw_seq ?_
          refine cw_cond rfl (fun h20 => ?_) (fun h20 => ?_)
          · have p21 := dt h20
            refine cw_skip ?_
            refine seqK_n ?_
            refine cw_seq ?_
            refine cw_block ?_
            refine cw_seq ?_
            refine cw_region ?_
            obtain ⟨c22, hc23⟩ := getE (xs := besides) (m := j) (by omega)
            obtain ⟨cs24, hE25, at26⟩ := (besides_h.mono ((((HLe.refl _).trans hl7).trans hl10).trans hl19) (fun _ _ h => h)).get hc23
            obtain ⟨rfl, c22_w⟩ := hE25
            have c22_w : c22.length ≤ 9223372036854775807 := c22_w
            refine ow1 (op1_l rfl (lo_indexAddr rfl rfl (besides_h.mono ((((HLe.refl _).trans hl7).trans hl10).trans hl19) (fun _ _ h => h)).1 at26 Tryd.underlying108 sz9 (by omega) (by omega)) ?_)
            refine ow1 (op1_l rfl (lo_loadE1 rfl ag9 at26) ?_)
            refine ow1 (op1_l rfl (lo_assign (v := str _) rfl) ?_)
            refine ow_nil ?_
            refine seqK_n ?_
            refine cw_seq ?_
            refine cw_region ?_
            refine ow1 (op1_l rfl (lo_move (v := str _) rfl) ?_)
            refine ow1 (op1_l rfl (lo_move (v := str _) rfl) ?_)
            refine ow1 (op1_l rfl (lo_seql rfl rfl) ?_)
            refine ow_nil ?_
            refine seqK_n ?_
            refine cw_cond rfl (fun h27 => ?_) (fun h27 => ?_)
            · have p28 := dt h27
              refine cw_exit ?_
              refine blkK_e rfl ?_
              refine seqK_e ?_
              refine loopK_e ?_
              refine blkK_e rfl ?_
              refine seqK_e ?_
              refine blkK_hit ?_
              refine seqK_n ?_
              refine cw_region ?_
              refine ow1 (op1_l rfl (lo_add rfl rfl (rg_i64 (by omega))) ?_)
              refine ow1 (op1_l rfl (lo_move (v := .int _ _) rfl) ?_)
              refine ow_nil ?_
              refine next1 (k + 1) (upd_intro (mask_intro (by first | exact off_refl | (repeat (first | exact off_mask | refine off_upd rfl ?_ | refine off_mask2 rfl ?_)))) rfl) (lmask_intro (by first | exact offl_refl | (repeat (first | exact offl_mask | refine offl_upd rfl ?_ | refine offl_mask2 rfl ?_)))) (hl10.trans hl19) ?_ ?_
              · refine ⟨by omega, ?_⟩
                rw [hk2, dropE hc14, List.any_cons]
                have hb : isBad besides c13 = false := by
                  unfold isBad
                  rw [hj2, dropE hc23]
                  simp [*]
                simp [hb]
              · omega
            · have p29 := df h27
              refine cw_skip ?_
              refine blkK_n ?_
              refine seqK_n ?_
              refine cw_region ?_
              refine ow1 (op1_l rfl (lo_add rfl rfl (rg_i64 (by omega))) ?_)
              refine ow1 (op1_l rfl (lo_move (v := .int _ _) rfl) ?_)
              refine ow_nil ?_
              refine next1 (j + 1) (upd_intro (mask_intro (by first | exact off_refl | (repeat (first | exact off_mask | refine off_upd rfl ?_ | refine off_mask2 rfl ?_)))) rfl) (lmask_intro (by first | exact offl_refl | (repeat (first | exact offl_mask | refine offl_upd rfl ?_ | refine offl_mask2 rfl ?_)))) hl19 ?_ ?_
              · refine ⟨by omega, ?_⟩
                rw [hj2, dropE hc23, List.contains_cons]
                simp [*]
              · omega
          · have p30 := df h20
            refine cw_exit ?_
            refine seqK_e ?_
            refine loopK_e ?_
            refine blkK_hit ?_
            refine seqK_n ?_
            refine cw_seq ?_
            refine cw_region ?_
            refine ow1 (op1_l rfl (lo_move (v := str _) rfl) ?_)
            refine ow1 (op1_l rfl (lo_seql rfl rfl) ?_)
            refine ow1 (op1_l rfl (lo_move (v := .bool _) rfl) ?_)
            refine ow_sp (j := 2) rfl (fun h31 => ?_) (fun h31 => ?_)
            · have p32 := dt h31
              refine ow1 (op1_gs rfl h31 rfl ?_)
              refine ow1 (op1_gs rfl h31 rfl ?_)
              refine ow1 (op1_gs rfl h31 rfl ?_)
              refine ow1 (op1_l rfl (lo_pick_t (v := .bool _) rfl h31 rfl) ?_)
              refine ow_nil ?_
              refine seqK_n ?_
              refine cw_cond_t rfl rfl ?_
              refine cw_seq ?_
              refine cw_region ?_
              refine ow1 (op1_l rfl (lo_assign (v := .int _ _) rfl) ?_)
              refine ow_nil ?_
              refine seqK_n ?_
              refine cw_ret ?_
              refine blkK_r ?_
              refine seqK_r ?_
              refine loopK_r ?_
              refine blkK_r ?_
              refine seqK_r ?_
              refine scK_r ?_
              refine fnK_r (res1 rfl (rv_t (v := .int _ _) rfl)) ((((HLe.refl _).trans hl7).trans hl10).trans hl19) ?_
              have hb : isBad besides c13 = true := by
                unfold isBad
                rw [hj2, List.drop_of_length_le (by omega)]
                simp [*]
              unfold keyE
              rw [if_neg (by omega), hk2, dropE hc14, List.any_cons, hb]
              rfl
            · have p33 := df h31
              refine ow1 (op1_g rfl h31 rfl (lo_move (v := str _) rfl) ?_)
              refine ow1 (op1_prg rfl h31 (words_plain _ c13 (by omega)) (en_f cb82 rfl) rfl ?_)
              refine ow1 (op1_g rfl h31 rfl (lo_not rfl) ?_)
              refine ow1 (op1_l rfl (lo_pick_f (v := .bool _) rfl h31 rfl) ?_)
              refine ow_nil ?_
              refine seqK_n ?_
              refine cw_cond rfl (fun h34 => ?_) (fun h34 => ?_)
              · have h35 := not_t h34
                refine cw_seq ?_
                refine cw_region ?_
                refine ow1 (op1_l rfl (lo_assign (v := .int _ _) rfl) ?_)
                refine ow_nil ?_
                refine seqK_n ?_
                refine cw_ret ?_
                refine blkK_r ?_
                refine seqK_r ?_
                refine loopK_r ?_
                refine blkK_r ?_
                refine seqK_r ?_
                refine scK_r ?_
                refine fnK_r (res1 rfl (rv_t (v := .int _ _) rfl)) ((((HLe.refl _).trans hl7).trans hl10).trans hl19) ?_
                have hb : isBad besides c13 = true := by
                  unfold isBad
                  rw [hj2, List.drop_of_length_le (by omega)]
                  simp [*]
                unfold keyE
                rw [if_neg (by omega), hk2, dropE hc14, List.any_cons, hb]
                rfl
              · have h36 := not_f h34
                refine cw_skip ?_
                refine blkK_n ?_
                refine seqK_n ?_
                refine cw_region ?_
                refine ow1 (op1_l rfl (lo_add rfl rfl (rg_i64 (by omega))) ?_)
                refine ow1 (op1_l rfl (lo_move (v := .int _ _) rfl) ?_)
                refine ow_nil ?_
                refine next1 (k + 1) (upd_intro (mask_intro (by first | exact off_refl | (repeat (first | exact off_mask | refine off_upd rfl ?_ | refine off_mask2 rfl ?_)))) rfl) (lmask_intro (by first | exact offl_refl | (repeat (first | exact offl_mask | refine offl_upd rfl ?_ | refine offl_mask2 rfl ?_)))) (hl10.trans hl19) ?_ ?_
                · refine ⟨by omega, ?_⟩
                  rw [hk2, dropE hc14, List.any_cons]
                  have hb : isBad besides c13 = false := by
                    unfold isBad
                    rw [hj2, List.drop_of_length_le (by omega)]
                    simp [*]
                  simp [hb]
                · omega
      · have p37 := df h11
        refine cw_exit ?_
        refine seqK_e ?_
        refine loopK_e ?_
        refine blkK_hit ?_
        refine seqK_n ?_
        refine cw_seq ?_
        refine cw_region ?_
        refine ow1 (op1_l rfl (lo_assign (v := .int _ _) rfl) ?_)
        refine ow_nil ?_
        refine seqK_n ?_
        refine cw_ret ?_
        refine scK_r ?_
        refine fnK_r (res1 rfl (rv_t (v := .int _ _) rfl)) (((HLe.refl _).trans hl7).trans hl10) ?_
        unfold keyE
        rw [if_neg (by omega), hk2, List.drop_of_length_le (by omega)]
        rfl

theorem words_Key (H : Hp) (s : Bs) (hML : GInt H 2) : Pr Tryd.prog 83 #[str s] H (.int .i64 (keyE [] s)) := by
  refine pr_cw Tryd.func83 rfl Tryd.ntmps83 rfl (fun N => ?_)
  refine cw_seq ?_
  refine cw_region ?_
  refine ow1 (op1_l rfl (lo_assign (v := .int _ _) rfl) ?_)
  refine ow_nil ?_
  refine seqK_n ?_
  refine cw_seq ?_
  refine cw_region ?_
  refine ow1 (op1_l rfl (lo_move (v := str _) rfl) ?_)
  refine ow1 (op1_pr (words_key _ s none 0 0 [] slh_nil hML (by first | (simp; done) | omega)) (en_f cb98 rfl) rfl ?_)
  refine ow1 (op1_l rfl (lo_assign (v := .int _ _) rfl) ?_)
  refine ow_nil ?_
  refine seqK_n ?_
  refine cw_ret ?_
  refine fnK_r (res1 rfl (rv_t (v := .int _ _) rfl)) (.refl _) ?_
  rfl

end Go.SW


set_option linter.unusedVariables false
set_option maxRecDepth 100000
namespace Go.SW
open Go.Proofs
theorem ag2 : Ag Tryd.prog 2 false := fun w => by kernel_rfl
theorem ag94 : Ag Tryd.prog 94 true := fun w => by kernel_rfl
theorem bd94  (w : World) : (Instr.build 94 #[]).run Tryd.prog w = .ok (.agg #[str [], .int .u8 0, .int .i64 0, str []]) w := by kernel_rfl
theorem cb111 : Callable Tryd.prog 111 := callable_of Tryd.func111 (by kernel_rfl) (by kernel_rfl)
theorem cb125 : Callable Tryd.prog 125 := callable_of Tryd.func125 (by kernel_rfl) (by kernel_rfl)
theorem cb126 : Callable Tryd.prog 126 := callable_of Tryd.func126 (by kernel_rfl) (by kernel_rfl)
theorem cb54 : Callable Tryd.prog 54 := callable_of Tryd.func54 (by kernel_rfl) (by kernel_rfl)
theorem cb96 : Callable Tryd.prog 96 := callable_of Tryd.func96 (by kernel_rfl) (by kernel_rfl)
theorem fl94_0 : Fld Tryd.prog 94 0 0 := fun b o w => by kernel_rfl
theorem fl94_1 : Fld Tryd.prog 94 1 1 := fun b o w => by kernel_rfl
theorem fl94_2 : Fld Tryd.prog 94 2 2 := fun b o w => by kernel_rfl
theorem fl94_3 : Fld Tryd.prog 94 3 3 := fun b o w => by kernel_rfl
theorem sz94 : Sz Tryd.prog 94 4 := fun w => by kernel_rfl
theorem zr94 : Zr Tryd.prog 94 [str [], .int .u8 0, .int .i64 0, str []] := fun w => ⟨.agg #[str [], .int .u8 0, .int .i64 0, str []], by kernel_rfl, rfl⟩

theorem head_Find (H : Hp) (h_a : Option Addr) (h_l h_c : Nat) (h : List Pair) (h_h : SlH pairE 4 H (.slice h_a h_l h_c) h) (key : Bs) (hl : h.length ≤ 9223372036854775807) : Pr Tryd.prog 111 #[.slice h_a h_l h_c, str key] H (.tuple #[.agg (Pair.cells ((findP h key).getD Pair.zero)).toArray, .bool ((findP h key).isSome)]) := by
  refine pr_cw Tryd.func111 rfl Tryd.ntmps111 rfl (fun N => ?_)
  refine cw_seq ?_
  refine cw_region ?_
  refine ow1 (op1_box1 (v := str _) 0 rfl rfl rfl (fun b1 => ?_))
  refine ow1 (op1_alloc 1 rfl zr94 (fun b2 => ?_))
  refine ow1 (op1_l rfl (lo_assign (v := .bool _) rfl) ?_)
  refine ow_nil ?_
  refine seqK_n ?_
  refine cw_seq ?_
  refine cw_region ?_
  refine ow1 (op1_l rfl (lo_move (v := .slice _ _ _) rfl) ?_)
  refine ow1 (op1_l rfl (lo_makeFunc (cap := [_]) rfl) ?_)
  refine ow1 (op1_in (en_f cb125 rfl) Tryd.func125 rfl Tryd.ntmps125 rfl rfl ?_)
  refine cw_seq ?_
  refine cw_region ?_
  refine ow1 (op1_l rfl (lo_assign (v := .int _ _) rfl) ?_)
  refine ow_nil ?_
  refine seqK_n ?_
  refine cw_seq ?_
  refine cw_seq ?_
  refine cw_region ?_
  refine ow1 (op1_l rfl (lo_move (v := .slice _ _ _) rfl) ?_)
  refine ow1 (op1_l rfl (lo_len_slh rfl h_h Tryd.underlying23) ?_)
  refine ow1 (op1_l rfl (lo_move (v := .int _ _) rfl) ?_)
  refine ow_nil ?_
  refine seqK_n ?_
  refine cw_block ?_
  refine cw_loop1 [4, 5, 8, 9, 10, 11, 12, 13, 14, 15, 16, 17, 18] [2] (fun (k : Nat) G => upd (G) 8 (.int .i64 (k : Int))) (fun (k : Nat) G => G) (fun (k : Nat) H' => k ≤ h.length ∧ findP h key = findP (h.drop k) key) (fun (k : Nat) => h.length - k) 0 (upd_intro (mask_intro (by first | exact off_refl | (repeat (first | exact off_mask | refine off_upd rfl ?_ | refine off_mask2 rfl ?_)))) rfl) (lmask_intro offl_refl) ?_ ?_
  · exact ⟨Nat.zero_le _, rfl⟩
  · intro k J4 JL4 H4 hp3 hl4
    obtain ⟨hk1, hk2⟩ := hp3
    refine cw_seq ?_
    refine cw_region ?_
    refine ow1 (op1_l rfl (lo_lss rfl rfl) ?_)
    refine ow_nil ?_
    refine seqK_n ?_
    refine cw_seq ?_
    refine cw_cond rfl (fun h5 => ?_) (fun h5 => ?_)
    · have p6 := dt h5
      refine cw_skip ?_
      refine seqK_n ?_
      refine cw_seq ?_
      refine cw_block ?_
      refine cw_seq ?_
      refine cw_region ?_
      refine ow1 (op1_l rfl (lo_move (v := .int _ _) rfl) ?_)
      refine ow1 (op1_l rfl (lo_assign (v := .int _ _) rfl) ?_)
      refine ow_nil ?_
      refine seqK_n ?_
      refine cw_seq ?_
      refine cw_region ?_
      refine ow1 (op1_l rfl (lo_move rfl) ?_)
      refine ow1 (op1_l rfl (lo_move (v := .slice _ _ _) rfl) ?_)
      refine ow1 (op1_l rfl (lo_move (v := .int _ _) rfl) ?_)
      obtain ⟨c7, hc8⟩ := getE (xs := h) (m := k) (by omega)
      obtain ⟨cs9, hE10, at11⟩ := (h_h.mono ((HLe.refl _).trans hl4) (fun _ _ h => h)).get hc8
      obtain ⟨rfl, c7_w⟩ := hE10
      have c7_w' := c7_w
      simp only [Pair.wf] at c7_w'
      refine ow1 (op1_l rfl (lo_indexAddr rfl rfl (h_h.mono ((HLe.refl _).trans hl4) (fun _ _ h => h)).1 at11 Tryd.underlying23 sz94 (by omega) (by omega)) ?_)
      refine ow1 (op1_l rfl (lo_loadEA rfl ag94 sz94 at11) ?_)
      refine ow1 (op1_in (en_v rfl cb126 rfl) Tryd.func126 rfl Tryd.ntmps126 rfl rfl ?_)
      refine cw_seq ?_
      refine cw_region ?_
      refine ow1 (op1_box (cs := [_, _, _, _]) 2 rfl rfl (fun b12 => ?_))
      refine ow1 (op1_l rfl (lo_assign (v := .bool _) rfl) ?_)
      refine ow_nil ?_
      refine seqK_n ?_
      refine cw_seq ?_
      refine cw_region ?_
      refine ow1 (op1_l rfl (lo_fieldAddr rfl fl94_0) ?_)
      refine ow1 (op1_l rfl (lo_load1 (i := 2) (v := str _) rfl ag9 rfl rfl) ?_)
      refine ow1 (op1_l rfl (lo_load1 (i := 0) (v := str _) rfl ag9 rfl rfl) ?_)
      refine ow1 (op1_l rfl (lo_seql rfl rfl) ?_)
      refine ow1 (op1_l rfl (lo_assign (v := .bool _) rfl) ?_)
      refine ow_nil ?_
      refine seqK_n ?_
      refine cw_ret ?_
      refine fnK_r (res1 rfl (rv_t (v := .bool _) rfl)) (.refl _) ?_
      refine ow_nil ?_
      refine seqK_n ?_
      refine cw_cond rfl (fun h13 => ?_) (fun h13 => ?_)
      · have p14 := dt h13
        refine cw_seq ?_
        refine cw_region ?_
        refine ow1 (op1_l rfl (lo_move (v := .int _ _) rfl) ?_)
        refine ow1 (op1_l rfl (lo_assign (v := .int _ _) rfl) ?_)
        refine ow_nil ?_
        refine seqK_n ?_
        refine cw_ret ?_
        refine blkK_r ?_
        refine seqK_r ?_
        refine loopK_r ?_
        refine blkK_r ?_
        refine seqK_r ?_
        refine fnK_r (res1 rfl (rv_t (v := .int _ _) rfl)) ((HLe.refl _).trans hl4) ?_
        refine ow1 (op1_l rfl (lo_assign (v := .int _ _) rfl) ?_)
        refine ow_nil ?_
        refine seqK_n ?_
        refine cw_seq ?_
        refine cw_seq ?_
        refine cw_region ?_
        refine ow1 (op1_l rfl (lo_move (v := .int _ _) rfl) ?_)
        refine ow1 (op1_l rfl (lo_lss rfl rfl) ?_)
        refine ow_nil ?_
        refine seqK_n ?_
        refine cw_cond rfl (fun h15 => ?_) (fun h15 => ?_)
        · have p16 := dt h15
          refine cw_seq ?_
          refine cw_region ?_
          refine ow1 (op1_l rfl (lo_build (v := .agg #[_, _, _, _]) rfl (bd94)) ?_)
          refine ow1 (op1_storeA (i := 1) (vs := [_, _, _, _]) rfl rfl rfl sz94 rfl rfl rfl ?_)
          refine ow1 (op1_l rfl (lo_assign (v := .bool _) rfl) ?_)
          refine ow_nil ?_
          refine seqK_n ?_
          refine cw_ret ?_
          refine seqK_r ?_
          refine fnK_r (res2 rfl (rv_c (i := 1) (vs := [_, _, _, _]) rfl ag94 sz94 rfl rfl rfl) (rv_t (v := .bool _) rfl)) ((HLe.refl _).trans hl4) ?_
          first
            | (exfalso; omega)
            | (rw [List.drop_of_length_le (by omega)] at hk2; rw [hk2]; rfl)
        · have p17 := df h15
          refine cw_skip ?_
          refine seqK_n ?_
          refine cw_seq ?_
          refine cw_region ?_
          refine ow1 (op1_l rfl (lo_move (v := .slice _ _ _) rfl) ?_)
          refine ow1 (op1_l rfl (lo_move (v := .int _ _) rfl) ?_)
          refine ow1 (op1_l rfl (lo_indexAddr rfl rfl (h_h.mono ((HLe.refl _).trans hl4) (fun _ _ h => h)).1 at11 Tryd.underlying23 sz94 (by omega) (by omega)) ?_)
          refine ow1 (op1_l rfl (lo_loadEA rfl ag94 sz94 at11) ?_)
          refine ow1 (op1_storeA (i := 1) (vs := [_, _, _, _]) rfl rfl rfl sz94 rfl rfl rfl ?_)
          refine ow1 (op1_l rfl (lo_assign (v := .bool _) rfl) ?_)
          refine ow_nil ?_
          refine seqK_n ?_
          refine cw_ret ?_
          refine fnK_r (res2 rfl (rv_c (i := 1) (vs := [_, _, _, _]) rfl ag94 sz94 rfl rfl rfl) (rv_t (v := .bool _) rfl)) ((HLe.refl _).trans hl4) ?_
          have e := findP_hit hk2 (dropE hc8) (by assumption)
          rw [e]
          rfl
      · have p18 := df h13
        refine cw_skip ?_
        refine blkK_n ?_
        refine seqK_n ?_
        refine cw_region ?_
        refine ow1 (op1_l rfl (lo_add rfl rfl (rg_i64 (by omega))) ?_)
        refine ow1 (op1_l rfl (lo_move (v := .int _ _) rfl) ?_)
        refine ow_nil ?_
        refine next1 (k + 1) (upd_intro (mask_intro (by first | exact off_refl | (repeat (first | exact off_mask | refine off_upd rfl ?_ | refine off_mask2 rfl ?_)))) rfl) (lmask_intro (by first | exact offl_refl | (repeat (first | exact offl_mask | refine offl_upd rfl ?_ | refine offl_mask2 rfl ?_)))) hl4 ?_ ?_
        · exact ⟨by omega, findP_miss hk2 (dropE hc8) (by assumption)⟩
        · omega
    · have p19 := df h5
      refine cw_exit ?_
      refine seqK_e ?_
      refine loopK_e ?_
      refine blkK_hit ?_
      refine seqK_n ?_
      refine cw_seq ?_
      refine cw_region ?_
      refine ow1 (op1_l rfl (lo_assign (v := .int _ _) rfl) ?_)
      refine ow_nil ?_
      refine seqK_n ?_
      refine cw_ret ?_
      refine fnK_r (res1 rfl (rv_t (v := .int _ _) rfl)) ((HLe.refl _).trans hl4) ?_
      refine ow1 (op1_l rfl (lo_assign (v := .int _ _) rfl) ?_)
      refine ow_nil ?_
      refine seqK_n ?_
      refine cw_seq ?_
      refine cw_seq ?_
      refine cw_region ?_
      refine ow1 (op1_l rfl (lo_move (v := .int _ _) rfl) ?_)
      refine ow1 (op1_l rfl (lo_lss rfl rfl) ?_)
      refine ow_nil ?_
      refine seqK_n ?_
      refine cw_cond_t rfl (by decide) ?_
      refine cw_seq ?_
      refine cw_region ?_
      refine ow1 (op1_l rfl (lo_build (v := .agg #[_, _, _, _]) rfl (bd94)) ?_)
      refine ow1 (op1_storeA (i := 1) (vs := [_, _, _, _]) rfl rfl rfl sz94 rfl rfl rfl ?_)
      refine ow1 (op1_l rfl (lo_assign (v := .bool _) rfl) ?_)
      refine ow_nil ?_
      refine seqK_n ?_
      refine cw_ret ?_
      refine seqK_r ?_
      refine fnK_r (res2 rfl (rv_c (i := 1) (vs := [_, _, _, _]) rfl ag94 sz94 rfl rfl rfl) (rv_t (v := .bool _) rfl)) ((HLe.refl _).trans hl4) ?_
      first
        | (exfalso; omega)
        | (rw [List.drop_of_length_le (by omega)] at hk2; rw [hk2]; rfl)

theorem head_pair (H : Hp) (p : Pair) (p_w : Pair.wf p) (ahead_a : Option Addr) (ahead_l ahead_c : Nat) (ahead : List Pair) (ahead_h : SlH pairE 4 H (.slice ahead_a ahead_l ahead_c) ahead) (hl : ahead.length ≤ 9223372036854775807) : Pr Tryd.prog 96 #[.agg (Pair.cells p).toArray, .slice ahead_a ahead_l ahead_c] H (.int .i64 (pairErr p ahead)) := by
  refine pr_cw Tryd.func96 rfl Tryd.ntmps96 rfl (fun N => ?_)
  have p_w' := p_w
  simp only [Pair.wf] at p_w'
  refine cw_seq ?_
  refine cw_region ?_
  refine ow1 (op1_box (cs := [_, _, _, _]) 0 rfl rfl (fun b1 => ?_))
  refine ow1 (op1_l rfl (lo_assign (v := .int _ _) rfl) ?_)
  refine ow_nil ?_
  refine seqK_n ?_
  refine cw_seq ?_
  refine cw_seq ?_
  refine cw_region ?_
  refine ow1 (op1_l rfl (lo_fieldAddr rfl fl94_0) ?_)
  refine ow1 (op1_l rfl (lo_load1 (i := 0) (v := str _) rfl ag9 rfl rfl) ?_)
  refine ow1 (op1_pr (words_Name _ p.key (by first | omega | decide | (simp; done))) (en_f cb54 rfl) rfl ?_)
  refine ow1 (op1_l rfl (lo_assign (v := .int _ _) rfl) ?_)
  refine ow_nil ?_
  refine seqK_n ?_
  refine cw_seq ?_
  refine cw_region ?_
  refine ow1 (op1_l rfl (lo_move (v := .int _ _) rfl) ?_)
  refine ow1 (op1_l rfl (lo_neq rfl rfl) ?_)
  refine ow_nil ?_
  refine seqK_n ?_
  refine cw_cond rfl (fun h2 => ?_) (fun h2 => ?_)
  · have h3 := not_t h2
    have p4 := df h3
    refine cw_seq ?_
    refine cw_region ?_
    refine ow1 (op1_l rfl (lo_move (v := .int _ _) rfl) ?_)
    refine ow1 (op1_l rfl (lo_assign (v := .int _ _) rfl) ?_)
    refine ow_nil ?_
    refine seqK_n ?_
    refine cw_ret ?_
    refine seqK_r ?_
    refine fnK_r (res1 rfl (rv_t (v := .int _ _) rfl)) (.refl _) ?_
    first | (simp [pairErr, *]; done) | (simp [pairErr, *]; omega)
  · have h5 := not_f h2
    have p6 := dt h5
    refine cw_skip ?_
    refine seqK_n ?_
    refine cw_seq ?_
    refine cw_region ?_
    refine ow1 (op1_l rfl (lo_move (v := .slice _ _ _) rfl) ?_)
    refine ow1 (op1_l rfl (lo_fieldAddr rfl fl94_0) ?_)
    refine ow1 (op1_l rfl (lo_load1 (i := 0) (v := str _) rfl ag9 rfl rfl) ?_)
    refine ow1 (op1_pr (head_Find _ ahead_a ahead_l ahead_c ahead ahead_h p.key (by first | omega | (simp <;> omega))) (en_f cb111 rfl) rfl ?_)
    refine ow1 (op1_l rfl (lo_move (v := .tuple #[_, _]) rfl) ?_)
    refine ow1 (op1_l rfl (lo_extract (v := .agg #[_, _, _, _]) rfl rfl) ?_)
    refine ow1 (op1_l rfl (lo_extract (v := .bool _) rfl rfl) ?_)
    refine ow1 (op1_alloc 1 rfl zr94 (fun b7 => ?_))
    refine ow1 (op1_storeA (i := 1) (vs := [_, _, _, _]) rfl rfl rfl sz94 rfl rfl rfl ?_)
    refine ow1 (op1_l rfl (lo_assign (v := .bool _) rfl) ?_)
    refine ow_nil ?_
    refine seqK_n ?_
    refine cw_seq ?_
    refine cw_block ?_
    refine cw_seq ?_
    refine cw_region ?_
    refine ow1 (op1_l rfl (lo_fieldAddr rfl fl94_1) ?_)
    refine ow1 (op1_l rfl (lo_load1 (i := 0) (v := .int _ _) rfl ag5 rfl rfl) ?_)
    refine ow1 (op1_l rfl (lo_gtr rfl rfl) ?_)
    refine ow1 (op1_l rfl (lo_assign (v := .bool _) rfl) ?_)
    refine ow_nil ?_
    refine seqK_n ?_
    refine cw_cond rfl (fun h8 => ?_) (fun h8 => ?_)
    · have p9 := dt h8
      refine cw_seq ?_
      refine cw_region ?_
      refine ow1 (op1_l rfl (lo_assign (v := .int _ _) rfl) ?_)
      refine ow_nil ?_
      refine seqK_n ?_
      refine cw_ret ?_
      refine blkK_r ?_
      refine seqK_r ?_
      refine fnK_r (res1 rfl (rv_t (v := .int _ _) rfl)) (.refl _) ?_
      first | (simp [pairErr, *]; done) | (simp [pairErr, *]; omega)
    · have p10 := df h8
      refine cw_seq ?_
      refine cw_region ?_
      refine ow1 (op1_l rfl (lo_fieldAddr rfl fl94_1) ?_)
      refine ow1 (op1_l rfl (lo_load1 (i := 0) (v := .int _ _) rfl ag5 rfl rfl) ?_)
      refine ow1 (op1_l rfl (lo_eql rfl rfl) ?_)
      refine ow1 (op1_l rfl (lo_move (v := .bool _) rfl) ?_)
      refine ow_sp (j := 3) rfl (fun h11 => ?_) (fun h11 => ?_)
      · have p12 := dt h11
        refine ow1 (op1_g rfl h11 rfl (lo_fieldAddr rfl fl94_3) ?_)
        refine ow1 (op1_g rfl h11 rfl (lo_load1 (i := 0) (v := str _) rfl ag9 rfl rfl) ?_)
        refine ow1 (op1_g rfl h11 rfl (lo_len_str rfl Tryd.underlying9) ?_)
        refine ow1 (op1_g rfl h11 rfl (lo_gtr rfl rfl) ?_)
        refine ow1 (op1_l rfl (lo_pick_t (v := .bool _) rfl h11 rfl) ?_)
        refine ow1 (op1_l rfl (lo_assign (v := .bool _) rfl) ?_)
        refine ow_nil ?_
        refine seqK_n ?_
        refine cw_cond rfl (fun h13 => ?_) (fun h13 => ?_)
        · have p14 := dt h13
          refine cw_seq ?_
          refine cw_region ?_
          refine ow1 (op1_l rfl (lo_assign (v := .int _ _) rfl) ?_)
          refine ow_nil ?_
          refine seqK_n ?_
          refine cw_ret ?_
          refine blkK_r ?_
          refine seqK_r ?_
          refine fnK_r (res1 rfl (rv_t (v := .int _ _) rfl)) (.refl _) ?_
          first | (simp [pairErr, *]; done) | (simp [pairErr, *]; omega)
        · have p15 := df h13
          refine cw_seq ?_
          refine cw_region ?_
          refine ow1 (op1_l rfl (lo_fieldAddr rfl fl94_1) ?_)
          refine ow1 (op1_l rfl (lo_load1 (i := 0) (v := .int _ _) rfl ag5 rfl rfl) ?_)
          refine ow1 (op1_l rfl (lo_eql rfl rfl) ?_)
          refine ow1 (op1_l rfl (lo_move (v := .bool _) rfl) ?_)
          refine ow1 (op1_gs rfl (fd (by omega)) rfl ?_)
          refine ow1 (op1_gs rfl (fd (by omega)) rfl ?_)
          refine ow1 (op1_gs rfl (fd (by omega)) rfl ?_)
          refine ow1 (op1_l rfl (lo_pick_f (v := .bool _) rfl (fd (by omega)) rfl) ?_)
          refine ow1 (op1_l rfl (lo_move (v := .bool _) rfl) ?_)
          refine ow1 (op1_gs rfl rfl rfl ?_)
          refine ow1 (op1_gs rfl rfl rfl ?_)
          refine ow1 (op1_gs rfl rfl rfl ?_)
          refine ow1 (op1_l rfl (lo_pick_f (v := .bool _) rfl rfl rfl) ?_)
          refine ow1 (op1_l rfl (lo_assign (v := .bool _) rfl) ?_)
          refine ow_nil ?_
          refine seqK_n ?_
          refine cw_cond_f rfl rfl ?_
          refine cw_seq ?_
          refine cw_seq ?_
          refine cw_region ?_
          refine ow1 (op1_l rfl (lo_fieldAddr rfl fl94_1) ?_)
          refine ow1 (op1_l rfl (lo_load1 (i := 0) (v := .int _ _) rfl ag5 rfl rfl) ?_)
          refine ow1 (op1_l rfl (lo_eql rfl rfl) ?_)
          refine ow1 (op1_l rfl (lo_move (v := .bool _) rfl) ?_)
          refine ow1 (op1_g rfl h11 rfl (lo_fieldAddr rfl fl94_2) ?_)
          refine ow1 (op1_g rfl h11 rfl (lo_load1 (i := 0) (v := .int _ _) rfl ag2 rfl rfl) ?_)
          refine ow1 (op1_g rfl h11 rfl (lo_neq rfl rfl) ?_)
          refine ow1 (op1_l rfl (lo_pick_t (v := .bool _) rfl h11 rfl) ?_)
          refine ow1 (op1_l rfl (lo_assign (v := .bool _) rfl) ?_)
          refine ow_nil ?_
          refine seqK_n ?_
          refine cw_cond rfl (fun h16 => ?_) (fun h16 => ?_)
          · have h17 := not_t h16
            have p18 := df h17
            refine cw_skip ?_
            refine seqK_n ?_
            refine cw_cond_t rfl h16 ?_
            refine cw_seq ?_
            refine cw_region ?_
            refine ow1 (op1_l rfl (lo_assign (v := .int _ _) rfl) ?_)
            refine ow_nil ?_
            refine seqK_n ?_
            refine cw_ret ?_
            refine blkK_r ?_
            refine seqK_r ?_
            refine fnK_r (res1 rfl (rv_t (v := .int _ _) rfl)) (.refl _) ?_
            first | (simp [pairErr, *]; done) | (simp [pairErr, *]; omega)
          · have h19 := not_f h16
            have p20 := dt h19
            refine cw_region ?_
            refine ow1 (op1_l rfl (lo_fieldAddr rfl fl94_1) ?_)
            refine ow1 (op1_l rfl (lo_load1 (i := 0) (v := .int _ _) rfl ag5 rfl rfl) ?_)
            refine ow1 (op1_l rfl (lo_neq rfl rfl) ?_)
            refine ow1 (op1_l rfl (lo_move (v := .bool _) rfl) ?_)
            refine ow1 (op1_gs rfl (by rw [h11] <;> rfl) rfl ?_)
            refine ow1 (op1_gs rfl (by rw [h11] <;> rfl) rfl ?_)
            refine ow1 (op1_gs rfl (by rw [h11] <;> rfl) rfl ?_)
            refine ow1 (op1_l rfl (lo_pick_f (v := .bool _) rfl (by rw [h11] <;> rfl) rfl) ?_)
            refine ow1 (op1_l rfl (lo_assign (v := .bool _) rfl) ?_)
            refine ow_nil ?_
            refine seqK_n ?_
            refine cw_cond_f rfl rfl ?_
            refine cw_seq ?_
            refine cw_region ?_
            refine ow1 (op1_l rfl (lo_move (v := .bool _) rfl) ?_)
            refine ow1 (op1_l rfl (lo_assign (v := .bool _) rfl) ?_)
            refine ow_nil ?_
            refine seqK_n ?_
            refine cw_cond rfl (fun h21 => ?_) (fun h21 => ?_)
            · refine cw_seq ?_
              refine cw_region ?_
              refine ow1 (op1_l rfl (lo_assign (v := .int _ _) rfl) ?_)
              refine ow_nil ?_
              refine seqK_n ?_
              refine cw_ret ?_
              refine blkK_r ?_
              refine seqK_r ?_
              refine fnK_r (res1 rfl (rv_t (v := .int _ _) rfl)) (.refl _) ?_
              first | (simp [pairErr, *]; done) | (simp [pairErr, *]; omega)
            · refine cw_skip ?_
              refine blkK_n ?_
              refine seqK_n ?_
              refine cw_seq ?_
              refine cw_region ?_
              refine ow1 (op1_l rfl (lo_assign (v := .int _ _) rfl) ?_)
              refine ow_nil ?_
              refine seqK_n ?_
              refine cw_ret ?_
              refine fnK_r (res1 rfl (rv_t (v := .int _ _) rfl)) (.refl _) ?_
              first | (simp [pairErr, *]; done) | (simp [pairErr, *]; omega)
      · have p22 := df h11
        refine ow1 (op1_gs rfl h11 rfl ?_)
        refine ow1 (op1_gs rfl h11 rfl ?_)
        refine ow1 (op1_gs rfl h11 rfl ?_)
        refine ow1 (op1_gs rfl h11 rfl ?_)
        refine ow1 (op1_l rfl (lo_pick_f (v := .bool _) rfl h11 rfl) ?_)
        refine ow1 (op1_l rfl (lo_assign (v := .bool _) rfl) ?_)
        refine ow_nil ?_
        refine seqK_n ?_
        refine cw_cond_f rfl rfl ?_
        refine cw_seq ?_
        refine cw_region ?_
        refine ow1 (op1_l rfl (lo_fieldAddr rfl fl94_1) ?_)
        refine ow1 (op1_l rfl (lo_load1 (i := 0) (v := .int _ _) rfl ag5 rfl rfl) ?_)
        refine ow1 (op1_l rfl (lo_eql rfl rfl) ?_)
        refine ow1 (op1_l rfl (lo_move (v := .bool _) rfl) ?_)
        refine ow_sp (j := 3) rfl (fun h23 => ?_) (fun h23 => ?_)
        · have p24 := dt h23
          refine ow1 (op1_g rfl h23 rfl (lo_fieldAddr rfl fl94_2) ?_)
          refine ow1 (op1_g rfl h23 rfl (lo_load1 (i := 0) (v := .int _ _) rfl ag2 rfl rfl) ?_)
          refine ow1 (op1_g rfl h23 rfl (lo_neq rfl rfl) ?_)
          refine ow1 (op1_l rfl (lo_pick_t (v := .bool _) rfl h23 rfl) ?_)
          refine ow1 (op1_l rfl (lo_move (v := .bool _) rfl) ?_)
          refine ow_sp (j := 8) rfl (fun h25 => ?_) (fun h25 => ?_)
          · have h26 := not_t h25
            have p27 := df h26
            refine ow1 (op1_g rfl h25 rfl (lo_fieldAddr rfl fl94_2) ?_)
            refine ow1 (op1_g rfl h25 rfl (lo_load1 (i := 0) (v := .int _ _) rfl ag2 rfl rfl) ?_)
            refine ow1 (op1_g rfl h25 rfl (lo_neq rfl rfl) ?_)
            refine ow1 (op1_l rfl (lo_pick_t (v := .bool _) rfl h25 rfl) ?_)
            refine ow1 (op1_l rfl (lo_assign (v := .bool _) rfl) ?_)
            refine ow_nil ?_
            refine seqK_n ?_
            refine cw_cond rfl (fun h28 => ?_) (fun h28 => ?_)
            · have h29 := not_t h28
              have p30 := df h29
              refine cw_seq ?_
              refine cw_region ?_
              refine ow1 (op1_l rfl (lo_assign (v := .int _ _) rfl) ?_)
              refine ow_nil ?_
              refine seqK_n ?_
              refine cw_ret ?_
              refine blkK_r ?_
              refine seqK_r ?_
              refine fnK_r (res1 rfl (rv_t (v := .int _ _) rfl)) (.refl _) ?_
              first | (simp [pairErr, *]; done) | (simp [pairErr, *]; omega)
            · have h31 := not_f h28
              have p32 := dt h31
              refine cw_seq ?_
              refine cw_seq ?_
              refine cw_region ?_
              refine ow1 (op1_l rfl (lo_fieldAddr rfl fl94_1) ?_)
              refine ow1 (op1_l rfl (lo_load1 (i := 0) (v := .int _ _) rfl ag5 rfl rfl) ?_)
              refine ow1 (op1_l rfl (lo_eql rfl rfl) ?_)
              refine ow1 (op1_l rfl (lo_move (v := .bool _) rfl) ?_)
              refine ow1 (op1_gs rfl h11 rfl ?_)
              refine ow1 (op1_gs rfl h11 rfl ?_)
              refine ow1 (op1_gs rfl h11 rfl ?_)
              refine ow1 (op1_l rfl (lo_pick_f (v := .bool _) rfl h11 rfl) ?_)
              refine ow1 (op1_l rfl (lo_assign (v := .bool _) rfl) ?_)
              refine ow_nil ?_
              refine seqK_n ?_
              refine cw_cond_f rfl rfl ?_
              refine cw_region ?_
              refine ow1 (op1_l rfl (lo_fieldAddr rfl fl94_1) ?_)
              refine ow1 (op1_l rfl (lo_load1 (i := 0) (v := .int _ _) rfl ag5 rfl rfl) ?_)
              refine ow1 (op1_l rfl (lo_neq rfl rfl) ?_)
              refine ow1 (op1_l rfl (lo_move (v := .bool _) rfl) ?_)
              refine ow1 (op1_g rfl (by rw [h11] <;> rfl) rfl (lo_fieldAddr rfl fl94_3) ?_)
              refine ow1 (op1_g rfl (by rw [h11] <;> rfl) rfl (lo_load1 (i := 0) (v := str _) rfl ag9 rfl rfl) ?_)
              refine ow1 (op1_g rfl (by rw [h11] <;> rfl) rfl (lo_sneq rfl rfl) ?_)
              refine ow1 (op1_l rfl (lo_pick_t (v := .bool _) rfl (by rw [h11] <;> rfl) rfl) ?_)
              refine ow1 (op1_l rfl (lo_assign (v := .bool _) rfl) ?_)
              refine ow_nil ?_
              refine seqK_n ?_
              refine cw_cond rfl (fun h33 => ?_) (fun h33 => ?_)
              · have h34 := not_t h33
                have p35 := df h34
                refine cw_seq ?_
                refine cw_region ?_
                refine ow1 (op1_l rfl (lo_assign (v := .int _ _) rfl) ?_)
                refine ow_nil ?_
                refine seqK_n ?_
                refine cw_ret ?_
                refine blkK_r ?_
                refine seqK_r ?_
                refine fnK_r (res1 rfl (rv_t (v := .int _ _) rfl)) (.refl _) ?_
                first | (simp [pairErr, *]; done) | (simp [pairErr, *]; omega)
              · have h36 := not_f h33
                have p37 := dt h36
                refine cw_seq ?_
                refine cw_region ?_
                refine ow1 (op1_l rfl (lo_move (v := .bool _) rfl) ?_)
                refine ow1 (op1_l rfl (lo_assign (v := .bool _) rfl) ?_)
                refine ow_nil ?_
                refine seqK_n ?_
                refine cw_cond rfl (fun h38 => ?_) (fun h38 => ?_)
                · refine cw_seq ?_
                  refine cw_region ?_
                  refine ow1 (op1_l rfl (lo_assign (v := .int _ _) rfl) ?_)
                  refine ow_nil ?_
                  refine seqK_n ?_
                  refine cw_ret ?_
                  refine blkK_r ?_
                  refine seqK_r ?_
                  refine fnK_r (res1 rfl (rv_t (v := .int _ _) rfl)) (.refl _) ?_
                  first | (simp [pairErr, *]; done) | (simp [pairErr, *]; omega)
                · refine cw_skip ?_
                  refine blkK_n ?_
                  refine seqK_n ?_
                  refine cw_seq ?_
                  refine cw_region ?_
                  refine ow1 (op1_l rfl (lo_assign (v := .int _ _) rfl) ?_)
                  refine ow_nil ?_
                  refine seqK_n ?_
                  refine cw_ret ?_
                  refine fnK_r (res1 rfl (rv_t (v := .int _ _) rfl)) (.refl _) ?_
                  first | (simp [pairErr, *]; done) | (simp [pairErr, *]; omega)
          · have h39 := not_f h25
            have p40 := dt h39
            refine ow1 (op1_gs rfl h25 rfl ?_)
            refine ow1 (op1_gs rfl h25 rfl ?_)
            refine ow1 (op1_gs rfl h25 rfl ?_)
            refine ow1 (op1_l rfl (lo_pick_f (v := .bool _) rfl h25 rfl) ?_)
            refine ow1 (op1_l rfl (lo_assign (v := .bool _) rfl) ?_)
            refine ow_nil ?_
            refine seqK_n ?_
            refine cw_cond_f rfl rfl ?_
            refine cw_seq ?_
            refine cw_seq ?_
            refine cw_region ?_
            refine ow1 (op1_l rfl (lo_fieldAddr rfl fl94_1) ?_)
            refine ow1 (op1_l rfl (lo_load1 (i := 0) (v := .int _ _) rfl ag5 rfl rfl) ?_)
            refine ow1 (op1_l rfl (lo_eql rfl rfl) ?_)
            refine ow1 (op1_l rfl (lo_move (v := .bool _) rfl) ?_)
            refine ow1 (op1_gs rfl h11 rfl ?_)
            refine ow1 (op1_gs rfl h11 rfl ?_)
            refine ow1 (op1_gs rfl h11 rfl ?_)
            refine ow1 (op1_l rfl (lo_pick_f (v := .bool _) rfl h11 rfl) ?_)
            refine ow1 (op1_l rfl (lo_assign (v := .bool _) rfl) ?_)
            refine ow_nil ?_
            refine seqK_n ?_
            refine cw_cond_f rfl rfl ?_
            refine cw_region ?_
            refine ow1 (op1_l rfl (lo_fieldAddr rfl fl94_1) ?_)
            refine ow1 (op1_l rfl (lo_load1 (i := 0) (v := .int _ _) rfl ag5 rfl rfl) ?_)
            refine ow1 (op1_l rfl (lo_neq rfl rfl) ?_)
            refine ow1 (op1_l rfl (lo_move (v := .bool _) rfl) ?_)
            refine ow1 (op1_g rfl (by rw [h11] <;> rfl) rfl (lo_fieldAddr rfl fl94_3) ?_)
            refine ow1 (op1_g rfl (by rw [h11] <;> rfl) rfl (lo_load1 (i := 0) (v := str _) rfl ag9 rfl rfl) ?_)
            refine ow1 (op1_g rfl (by rw [h11] <;> rfl) rfl (lo_sneq rfl rfl) ?_)
            refine ow1 (op1_l rfl (lo_pick_t (v := .bool _) rfl (by rw [h11] <;> rfl) rfl) ?_)
            refine ow1 (op1_l rfl (lo_assign (v := .bool _) rfl) ?_)
            refine ow_nil ?_
            refine seqK_n ?_
            refine cw_cond rfl (fun h41 => ?_) (fun h41 => ?_)
            · have h42 := not_t h41
              have p43 := df h42
              refine cw_seq ?_
              refine cw_region ?_
              refine ow1 (op1_l rfl (lo_assign (v := .int _ _) rfl) ?_)
              refine ow_nil ?_
              refine seqK_n ?_
              refine cw_ret ?_
              refine blkK_r ?_
              refine seqK_r ?_
              refine fnK_r (res1 rfl (rv_t (v := .int _ _) rfl)) (.refl _) ?_
              first | (simp [pairErr, *]; done) | (simp [pairErr, *]; omega)
            · have h44 := not_f h41
              have p45 := dt h44
              refine cw_seq ?_
              refine cw_region ?_
              refine ow1 (op1_l rfl (lo_move (v := .bool _) rfl) ?_)
              refine ow1 (op1_l rfl (lo_assign (v := .bool _) rfl) ?_)
              refine ow_nil ?_
              refine seqK_n ?_
              refine cw_cond rfl (fun h46 => ?_) (fun h46 => ?_)
              · refine cw_seq ?_
                refine cw_region ?_
                refine ow1 (op1_l rfl (lo_assign (v := .int _ _) rfl) ?_)
                refine ow_nil ?_
                refine seqK_n ?_
                refine cw_ret ?_
                refine blkK_r ?_
                refine seqK_r ?_
                refine fnK_r (res1 rfl (rv_t (v := .int _ _) rfl)) (.refl _) ?_
                first | (simp [pairErr, *]; done) | (simp [pairErr, *]; omega)
              · refine cw_skip ?_
                refine blkK_n ?_
                refine seqK_n ?_
                refine cw_seq ?_
                refine cw_region ?_
                refine ow1 (op1_l rfl (lo_assign (v := .int _ _) rfl) ?_)
                refine ow_nil ?_
                refine seqK_n ?_
                refine cw_ret ?_
                refine fnK_r (res1 rfl (rv_t (v := .int _ _) rfl)) (.refl _) ?_
                first | (simp [pairErr, *]; done) | (simp [pairErr, *]; omega)
        · have p47 := df h23
          refine ow1 (op1_gs rfl h23 rfl ?_)
          refine ow1 (op1_gs rfl h23 rfl ?_)
          refine ow1 (op1_gs rfl h23 rfl ?_)
          refine ow1 (op1_l rfl (lo_pick_f (v := .bool _) rfl h23 rfl) ?_)
          refine ow1 (op1_l rfl (lo_move (v := .bool _) rfl) ?_)
          refine ow1 (op1_gs rfl rfl rfl ?_)
          refine ow1 (op1_gs rfl rfl rfl ?_)
          refine ow1 (op1_gs rfl rfl rfl ?_)
          refine ow1 (op1_l rfl (lo_pick_f (v := .bool _) rfl rfl rfl) ?_)
          refine ow1 (op1_l rfl (lo_assign (v := .bool _) rfl) ?_)
          refine ow_nil ?_
          refine seqK_n ?_
          refine cw_cond_f rfl rfl ?_
          refine cw_seq ?_
          refine cw_seq ?_
          refine cw_region ?_
          refine ow1 (op1_l rfl (lo_fieldAddr rfl fl94_1) ?_)
          refine ow1 (op1_l rfl (lo_load1 (i := 0) (v := .int _ _) rfl ag5 rfl rfl) ?_)
          refine ow1 (op1_l rfl (lo_eql rfl rfl) ?_)
          refine ow1 (op1_l rfl (lo_move (v := .bool _) rfl) ?_)
          refine ow1 (op1_gs rfl h11 rfl ?_)
          refine ow1 (op1_gs rfl h11 rfl ?_)
          refine ow1 (op1_gs rfl h11 rfl ?_)
          refine ow1 (op1_l rfl (lo_pick_f (v := .bool _) rfl h11 rfl) ?_)
          refine ow1 (op1_l rfl (lo_assign (v := .bool _) rfl) ?_)
          refine ow_nil ?_
          refine seqK_n ?_
          refine cw_cond_f rfl rfl ?_
          refine cw_region ?_
          refine ow1 (op1_l rfl (lo_fieldAddr rfl fl94_1) ?_)
          refine ow1 (op1_l rfl (lo_load1 (i := 0) (v := .int _ _) rfl ag5 rfl rfl) ?_)
          refine ow1 (op1_l rfl (lo_neq rfl rfl) ?_)
          refine ow1 (op1_l rfl (lo_move (v := .bool _) rfl) ?_)
          refine ow1 (op1_g rfl (by rw [h11] <;> rfl) rfl (lo_fieldAddr rfl fl94_3) ?_)
          refine ow1 (op1_g rfl (by rw [h11] <;> rfl) rfl (lo_load1 (i := 0) (v := str _) rfl ag9 rfl rfl) ?_)
          refine ow1 (op1_g rfl (by rw [h11] <;> rfl) rfl (lo_sneq rfl rfl) ?_)
          refine ow1 (op1_l rfl (lo_pick_t (v := .bool _) rfl (by rw [h11] <;> rfl) rfl) ?_)
          refine ow1 (op1_l rfl (lo_assign (v := .bool _) rfl) ?_)
          refine ow_nil ?_
          refine seqK_n ?_
          refine cw_cond rfl (fun h48 => ?_) (fun h48 => ?_)
          · have h49 := not_t h48
            have p50 := df h49
            refine cw_seq ?_
            refine cw_region ?_
            refine ow1 (op1_l rfl (lo_assign (v := .int _ _) rfl) ?_)
            refine ow_nil ?_
            refine seqK_n ?_
            refine cw_ret ?_
            refine blkK_r ?_
            refine seqK_r ?_
            refine fnK_r (res1 rfl (rv_t (v := .int _ _) rfl)) (.refl _) ?_
            first | (simp [pairErr, *]; done) | (simp [pairErr, *]; omega)
          · have h51 := not_f h48
            have p52 := dt h51
            refine cw_seq ?_
            refine cw_region ?_
            refine ow1 (op1_l rfl (lo_move (v := .bool _) rfl) ?_)
            refine ow1 (op1_l rfl (lo_assign (v := .bool _) rfl) ?_)
            refine ow_nil ?_
            refine seqK_n ?_
            refine cw_cond rfl (fun h53 => ?_) (fun h53 => ?_)
            · refine cw_seq ?_
              refine cw_region ?_
              refine ow1 (op1_l rfl (lo_assign (v := .int _ _) rfl) ?_)
              refine ow_nil ?_
              refine seqK_n ?_
              refine cw_ret ?_
              refine blkK_r ?_
              refine seqK_r ?_
              refine fnK_r (res1 rfl (rv_t (v := .int _ _) rfl)) (.refl _) ?_
              first | (simp [pairErr, *]; done) | (simp [pairErr, *]; omega)
            · refine cw_skip ?_
              refine blkK_n ?_
              refine seqK_n ?_
              refine cw_seq ?_
              refine cw_region ?_
              refine ow1 (op1_l rfl (lo_assign (v := .int _ _) rfl) ?_)
              refine ow_nil ?_
              refine seqK_n ?_
              refine cw_ret ?_
              refine fnK_r (res1 rfl (rv_t (v := .int _ _) rfl)) (.refl _) ?_
              first | (simp [pairErr, *]; done) | (simp [pairErr, *]; omega)

theorem head_Check (H : Hp) (h_a : Option Addr) (h_l h_c : Nat) (h : List Pair) (h_h : SlH pairE 4 H (.slice h_a h_l h_c) h) (hl : h.length ≤ 9223372036854775807) : Pr Tryd.prog 78 #[.slice h_a h_l h_c] H (.int .i64 (headE h)) := by
  refine pr_cw Tryd.func78 rfl Tryd.ntmps78 rfl (fun N => ?_)
  refine cw_seq ?_
  refine cw_region ?_
  refine ow1 (op1_l rfl (lo_assign (v := .int _ _) rfl) ?_)
  refine ow_nil ?_
  refine seqK_n ?_
  refine cw_seq ?_
  refine cw_seq ?_
  refine cw_region ?_
  refine ow1 (op1_l rfl (lo_move (v := .slice _ _ _) rfl) ?_)
  refine ow1 (op1_l rfl (lo_len_slh rfl h_h Tryd.underlying23) ?_)
  refine ow1 (op1_l rfl (lo_gtr rfl rfl) ?_)
  refine ow_nil ?_
  refine seqK_n ?_
  refine cw_cond rfl (fun h1 => ?_) (fun h1 => ?_)
  · have p2 := dt h1
    refine cw_seq ?_
    refine cw_region ?_
    refine ow1 (op1_l rfl (lo_assign (v := .int _ _) rfl) ?_)
    refine ow_nil ?_
    refine seqK_n ?_
    refine cw_ret ?_
    refine seqK_r ?_
    refine fnK_r (res1 rfl (rv_t (v := .int _ _) rfl)) (.refl _) ?_
    simp [headE, *]
  · have p3 := df h1
    refine cw_skip ?_
    refine seqK_n ?_
    refine cw_seq ?_
    refine cw_seq ?_
    refine cw_region ?_
    refine ow1 (op1_l rfl (lo_move (v := .slice _ _ _) rfl) ?_)
    refine ow1 (op1_l rfl (lo_len_slh rfl h_h Tryd.underlying23) ?_)
    refine ow1 (op1_l rfl (lo_move (v := .int _ _) rfl) ?_)
    refine ow_nil ?_
    refine seqK_n ?_
    refine cw_block ?_
    refine cw_loop1 [2, 3, 4, 5, 11, 12, 13, 14, 15, 16, 17, 18, 19, 20, 21, 22, 23, 24] [0] (fun (k : Nat) G => upd (G) 11 (.int .i64 (k : Int))) (fun (k : Nat) G => G) (fun (k : Nat) H' => k ≤ h.length ∧ headGo [] h = headGo (h.take k) (h.drop k)) (fun (k : Nat) => h.length - k) 0 (upd_intro (mask_intro (by first | exact off_refl | (repeat (first | exact off_mask | refine off_upd rfl ?_ | refine off_mask2 rfl ?_)))) rfl) (lmask_intro offl_refl) ?_ ?_
    · exact ⟨Nat.zero_le _, rfl⟩
    · intro k J5 JL5 H5 hp4 hl5
      obtain ⟨hk1, hk2⟩ := hp4
      refine cw_seq ?_
      refine cw_region ?_
      refine ow1 (op1_l rfl (lo_lss rfl rfl) ?_)
      refine ow_nil ?_
      refine seqK_n ?_
      refine cw_seq ?_
      refine cw_cond rfl (fun h6 => ?_) (fun h6 => ?_)
      · have p7 := dt h6
        refine cw_skip ?_
        refine seqK_n ?_
        refine cw_seq ?_
        refine cw_block ?_
        refine cw_seq ?_
        refine cw_region ?_
        refine ow1 (op1_l rfl (lo_move (v := .int _ _) rfl) ?_)
        obtain ⟨c8, hc9⟩ := getE (xs := h) (m := k) (by omega)
        obtain ⟨cs10, hE11, at12⟩ := (h_h.mono ((HLe.refl _).trans hl5) (fun _ _ h => h)).get hc9
        obtain ⟨rfl, c8_w⟩ := hE11
        have c8_w' := c8_w
        simp only [Pair.wf] at c8_w'
        refine ow1 (op1_l rfl (lo_indexAddr rfl rfl (h_h.mono ((HLe.refl _).trans hl5) (fun _ _ h => h)).1 at12 Tryd.underlying23 sz94 (by omega) (by omega)) ?_)
        refine ow1 (op1_l rfl (lo_loadEA rfl ag94 sz94 at12) ?_)
        refine ow1 (op1_alloc 0 rfl zr94 (fun b13 => ?_))
        refine ow1 (op1_l rfl (lo_assign (v := .int _ _) rfl) ?_)
        refine ow1 (op1_storeA (i := 0) (vs := [_, _, _, _]) rfl rfl rfl sz94 rfl rfl rfl ?_)
        refine ow_nil ?_
        refine seqK_n ?_
        refine cw_seq ?_
        refine cw_anyL mixd ?_
        refine vw_q 0 rfl (by kernel_rfl) (by repeat (first | exact lle_l0 | exact LLe.refl _ | exact lle_none | refine lle_up ?_ rfl)) (fun _ _ hh hl => lo_loadA (i := 0) (vs := [_, _, _, _]) rfl ag94 sz94 (hl _ _ rfl) rfl rfl) ?_
        refine vw_q 1 rfl (by kernel_rfl) (by repeat (first | exact lle_l0 | exact LLe.refl _ | exact lle_none | refine lle_up ?_ rfl)) (fun _ _ hh hl => lo_move (v := .slice _ _ _) rfl) ?_
        refine vw_q 2 rfl (by kernel_rfl) (by repeat (first | exact lle_l0 | exact LLe.refl _ | exact lle_none | refine lle_up ?_ rfl)) (fun _ _ hh hl => lo_move (v := .int _ _) rfl) ?_
        refine vw_q 3 rfl (by kernel_rfl) (by repeat (first | exact lle_l0 | exact LLe.refl _ | exact lle_none | refine lle_up ?_ rfl)) (fun _ _ hh hl => lo_slice_slh_hi k rfl rfl Tryd.underlying23 sz94 (by omega) (Nat.le_trans (by omega) (slh_cap (h_h.mono ((HLe.refl _).trans hl5) (fun _ _ h => h))))) ?_
        refine vw_qc 4 rfl (by kernel_rfl) (by repeat (first | exact lle_l0 | exact LLe.refl _ | exact lle_none | refine lle_up ?_ rfl)) (head_pair _ c8 c8_w (slA h_a h_c 0 4) k h_c (h.take k) (slh_take (q := k) (h_h.mono ((HLe.refl _).trans hl5) (fun _ _ h => h)) (by omega)) (by first | omega | (simp <;> omega))) (en_f cb96 rfl) ?_
        refine vw_q 5 rfl (by kernel_rfl) (by repeat (first | exact lle_l0 | exact LLe.refl _ | exact lle_none | refine lle_up ?_ rfl)) (fun _ _ hh hl => lo_assign (v := .int _ _) rfl) ?_
        refine vw_done (by kernel_rfl) ?_
        refine seqK_n ?_
        refine cw_seq ?_
        refine cw_region ?_
        refine ow1 (op1_l rfl (lo_move (v := .int _ _) rfl) ?_)
        refine ow1 (op1_l rfl (lo_neq rfl rfl) ?_)
        refine ow_nil ?_
        refine seqK_n ?_
        refine cw_cond rfl (fun h14 => ?_) (fun h14 => ?_)
        · have h15 := not_t h14
          have p16 := df h15
          refine cw_seq ?_
          refine cw_region ?_
          refine ow1 (op1_l rfl (lo_move (v := .int _ _) rfl) ?_)
          refine ow1 (op1_l rfl (lo_assign (v := .int _ _) rfl) ?_)
          refine ow_nil ?_
          refine seqK_n ?_
          refine cw_ret ?_
          refine blkK_r ?_
          refine seqK_r ?_
          refine loopK_r ?_
          refine blkK_r ?_
          refine seqK_r ?_
          refine fnK_r (res1 rfl (rv_t (v := .int _ _) rfl)) ((HLe.refl _).trans hl5) ?_
          unfold headE
          rw [if_neg (by omega), hk2, dropE hc9]
          simp only [headGo]
          rw [if_pos (by omega)]
        · have h17 := not_f h14
          have p18 := dt h17
          refine cw_skip ?_
          refine blkK_n ?_
          refine seqK_n ?_
          refine cw_region ?_
          refine ow1 (op1_l rfl (lo_add rfl rfl (rg_i64 (by omega))) ?_)
          refine ow1 (op1_l rfl (lo_move (v := .int _ _) rfl) ?_)
          refine ow_nil ?_
          refine next1 (k + 1) (upd_intro (mask_intro (by first | exact off_refl | (repeat (first | exact off_mask | refine off_upd rfl ?_ | refine off_mask2 rfl ?_)))) rfl) (lmask_intro (by first | exact offl_refl | (repeat (first | exact offl_mask | refine offl_upd rfl ?_ | refine offl_mask2 rfl ?_)))) hl5 ?_ ?_
          · refine ⟨by omega, ?_⟩
            rw [hk2, dropE hc9, takeE hc9]
            simp only [headGo]
            rw [if_neg (by omega)]
          · omega
      · have p19 := df h6
        refine cw_exit ?_
        refine seqK_e ?_
        refine loopK_e ?_
        refine blkK_hit ?_
        refine seqK_n ?_
        refine cw_seq ?_
        refine cw_region ?_
        refine ow1 (op1_l rfl (lo_assign (v := .int _ _) rfl) ?_)
        refine ow_nil ?_
        refine seqK_n ?_
        refine cw_ret ?_
        refine fnK_r (res1 rfl (rv_t (v := .int _ _) rfl)) ((HLe.refl _).trans hl5) ?_
        unfold headE
        rw [if_neg (by omega), hk2, List.drop_of_length_le (by omega)]
        rfl

end Go.SW


set_option linter.unusedVariables false
set_option maxRecDepth 100000
namespace Go.SW
open Go.Proofs
theorem bd78  (w : World) : (Instr.build 78 #[]).run Tryd.prog w = .ok (.agg #[str [], .int .i64 0]) w := by kernel_rfl
theorem cb45 : Callable Tryd.prog 45 := callable_of Tryd.func45 (by kernel_rfl) (by kernel_rfl)
theorem cb49 : Callable Tryd.prog 49 := callable_of Tryd.func49 (by kernel_rfl) (by kernel_rfl)
theorem cb78 : Callable Tryd.prog 78 := callable_of Tryd.func78 (by kernel_rfl) (by kernel_rfl)

theorem head_Bytes (H : Hp) (h_a : Option Addr) (h_l h_c : Nat) (h : List Pair) (h_h : SlH pairE 4 H (.slice h_a h_l h_c) h) (hl : h.length ≤ 9223372036854775807) : Pr Tryd.prog 47 #[.slice h_a h_l h_c] H (.tuple #[str (headBytes h), .int .i64 (headE h)]) := by
  refine pr_cw Tryd.func47 rfl Tryd.ntmps47 rfl (fun N => ?_)
  refine cw_seq ?_
  refine cw_region ?_
  refine ow1 (op1_l rfl (lo_assign (v := str _) rfl) ?_)
  refine ow1 (op1_l rfl (lo_assign (v := .int _ _) rfl) ?_)
  refine ow_nil ?_
  refine seqK_n ?_
  refine cw_seq ?_
  refine cw_seq ?_
  refine cw_region ?_
  refine ow1 (op1_l rfl (lo_move (v := .slice _ _ _) rfl) ?_)
  refine ow1 (op1_pr (head_Check _ h_a h_l h_c h h_h (by first | omega | (simp <;> omega))) (en_f cb78 rfl) rfl ?_)
  refine ow1 (op1_l rfl (lo_assign (v := .int _ _) rfl) ?_)
  refine ow_nil ?_
  refine seqK_n ?_
  refine cw_seq ?_
  refine cw_region ?_
  refine ow1 (op1_l rfl (lo_move (v := .int _ _) rfl) ?_)
  refine ow1 (op1_l rfl (lo_neq rfl rfl) ?_)
  refine ow_nil ?_
  refine seqK_n ?_
  refine cw_cond rfl (fun h1 => ?_) (fun h1 => ?_)
  · have h2 := not_t h1
    have p3 := df h2
    refine cw_seq ?_
    refine cw_region ?_
    refine ow1 (op1_l rfl (lo_move (v := .int _ _) rfl) ?_)
    refine ow1 (op1_l rfl (lo_assign (v := str _) rfl) ?_)
    refine ow1 (op1_l rfl (lo_assign (v := .int _ _) rfl) ?_)
    refine ow_nil ?_
    refine seqK_n ?_
    refine cw_ret ?_
    refine seqK_r ?_
    refine fnK_r (res2 rfl (rv_t (v := str _) rfl) (rv_t (v := .int _ _) rfl)) (.refl _) ?_
    unfold headBytes
    rw [if_neg (by omega)]
  · have h4 := not_f h1
    have p5 := dt h4
    refine cw_skip ?_
    refine seqK_n ?_
    refine cw_seq ?_
    refine cw_region ?_
    refine ow1 (op1_l rfl (lo_build (v := .agg #[_, _]) rfl (bd78)) ?_)
    refine ow1 (op1_l rfl (lo_move (v := .slice _ _ _) rfl) ?_)
    refine ow1 (op1_l rfl (lo_len_slh rfl h_h Tryd.underlying23) ?_)
    refine ow1 (op1_l rfl (lo_conv_in rfl (by rw [Tryd.underlying3]; rfl) Tryd.underlying22 (rg_u64 (by omega))) ?_)
    refine ow1 (op1_pr (out_Num _ (⟨[], 0⟩ : Out) (h.length : Int) (by omega) 1 (by omega) (by first | omega | (have := hrl (by assumption); omega) | (simp [outNum, outRaw, numB_len, numK] <;> omega) | (have := hrl (by assumption); simp [outNum, outRaw, numB_len, numK] <;> omega))) (en_f cb46 rfl) rfl ?_)
    have nl0 : (⟨[], 0⟩ : Out).s.length = 0 := rfl
    have := outNum_len (⟨[], 0⟩ : Out) (h.length : Int) 1
    refine ow1 (op1_alloc 0 rfl zr78 (fun b6 => ?_))
    refine ow1 (op1_storeA (i := 0) (vs := [_, _]) rfl rfl rfl sz78 rfl rfl rfl ?_)
    refine ow_nil ?_
    refine seqK_n ?_
    refine cw_seq ?_
    refine cw_seq ?_
    refine cw_region ?_
    refine ow1 (op1_l rfl (lo_move (v := .slice _ _ _) rfl) ?_)
    refine ow1 (op1_l rfl (lo_len_slh rfl h_h Tryd.underlying23) ?_)
    refine ow1 (op1_l rfl (lo_move (v := .int _ _) rfl) ?_)
    refine ow_nil ?_
    refine seqK_n ?_
    refine cw_block ?_
    refine cw_loop2 [7, 20, 21, 22, 23, 24, 25, 26, 27, 28, 29, 30, 31, 32, 33, 34, 35, 36, 37, 38, 39, 40, 41, 42, 43, 44, 45, 46, 47, 48, 49, 50, 51, 52, 53, 54] [0, 1] (fun (k : Nat) (o : Out) G => upd (G) 20 (.int .i64 (k : Int))) (fun (k : Nat) (o : Out) G => lupd (G) 0 (some (b6, bx 78 (Out.cells o)))) (fun (k : Nat) (o : Out) H' => k ≤ h.length ∧ h.foldl pairOut (outNum ⟨[], 0⟩ h.length 1) = (h.drop k).foldl pairOut o ∧ o.s.length ≤ 8 + 110 * k) (fun (k : Nat) (o : Out) => h.length - k) 0 (outNum ⟨[], 0⟩ h.length 1) (upd_intro (mask_intro (by first | exact off_refl | (repeat (first | exact off_mask | refine off_upd rfl ?_ | refine off_mask2 rfl ?_)))) rfl) (lupd_intro (lmask_intro offl_refl) rfl) ?_ ?_
    · exact ⟨Nat.zero_le _, rfl, by simp at *; omega⟩
    · intro k o J8 JL8 H8 hp7 hl8
      obtain ⟨hk1, hk2, hk3⟩ := hp7
      have hok := headE_ok (h := h) (by assumption)
      refine cw_seq ?_
      refine cw_region ?_
      refine ow1 (op1_l rfl (lo_lss rfl rfl) ?_)
      refine ow_nil ?_
      refine seqK_n ?_
      refine cw_seq ?_
      refine cw_cond rfl (fun h9 => ?_) (fun h9 => ?_)
      · have p10 := dt h9
        refine cw_skip ?_
        refine seqK_n ?_
        refine cw_seq ?_
        refine cw_block ?_
        refine cw_seq ?_
        refine cw_region ?_
        obtain ⟨c11, hc12⟩ := getE (xs := h) (m := k) (by omega)
        obtain ⟨cs13, hE14, at15⟩ := (h_h.mono ((HLe.refl _).trans hl8) (fun _ _ h => h)).get hc12
        obtain ⟨rfl, c11_w⟩ := hE14
        have c11_w' := c11_w
        simp only [Pair.wf] at c11_w'
        have hpk := hok.2 c11 (List.mem_of_getElem? hc12)
        refine ow1 (op1_l rfl (lo_indexAddr rfl rfl (h_h.mono ((HLe.refl _).trans hl8) (fun _ _ h => h)).1 at15 Tryd.underlying23 sz94 (by omega) (by omega)) ?_)
        refine ow1 (op1_l rfl (lo_loadEA rfl ag94 sz94 at15) ?_)
        refine ow1 (op1_alloc 1 rfl zr94 (fun b16 => ?_))
        refine ow1 (op1_storeA (i := 1) (vs := [_, _, _, _]) rfl rfl rfl sz94 rfl rfl rfl ?_)
        refine ow_nil ?_
        refine seqK_n ?_
        refine cw_seq ?_
        refine cw_anyL mixd ?_
        refine vw_q 0 rfl (by kernel_rfl) (by repeat (first | exact lle_l0 | exact LLe.refl _ | exact lle_none | refine lle_up ?_ rfl)) (fun _ _ hh hl => lo_loadA (i := 0) (vs := [_, _]) rfl ag78 sz78 (hl _ _ rfl) rfl rfl) ?_
        refine vw_q 1 rfl (by kernel_rfl) (by repeat (first | exact lle_l0 | exact LLe.refl _ | exact lle_none | refine lle_up ?_ rfl)) (fun _ _ hh hl => lo_fieldAddr rfl fl94_0) ?_
        refine vw_q 2 rfl (by kernel_rfl) (by repeat (first | exact lle_l0 | exact LLe.refl _ | exact lle_none | refine lle_up ?_ rfl)) (fun _ _ hh hl => lo_load1 (i := 1) (v := str _) rfl ag9 (hl _ _ rfl) rfl) ?_
        have := outText_len o c11.key
        refine vw_qc 3 rfl (by kernel_rfl) (by repeat (first | exact lle_l0 | exact LLe.refl _ | exact lle_none | refine lle_up ?_ rfl)) (out_Text _ o c11.key (by first | omega | (have := hrl (by assumption); omega) | (simp [outNum, outRaw, numB_len, numK] <;> omega) | (have := hrl (by assumption); simp [outNum, outRaw, numB_len, numK] <;> omega))) (en_f cb45 rfl) ?_
        refine vw_q 4 rfl (by kernel_rfl) (by repeat (first | exact lle_l0 | exact LLe.refl _ | exact lle_none | refine lle_up ?_ rfl)) (fun _ _ hh hl => lo_fieldAddr rfl fl94_1) ?_
        refine vw_q 5 rfl (by kernel_rfl) (by repeat (first | exact lle_l0 | exact LLe.refl _ | exact lle_none | refine lle_up ?_ rfl)) (fun _ _ hh hl => lo_load1 (i := 1) (v := .int _ _) rfl ag5 (hl _ _ rfl) rfl) ?_
        refine vw_q 6 rfl (by kernel_rfl) (by repeat (first | exact lle_l0 | exact LLe.refl _ | exact lle_none | refine lle_up ?_ rfl)) (fun _ _ hh hl => lo_conv_in rfl (by rw [Tryd.underlying5]; rfl) Tryd.underlying22 (rg_u64 (by omega))) ?_
        have := outNum_len (outText o c11.key) c11.kind 1
        refine vw_qc 7 rfl (by kernel_rfl) (by repeat (first | exact lle_l0 | exact LLe.refl _ | exact lle_none | refine lle_up ?_ rfl)) (out_Num _ (outText o c11.key) c11.kind (by omega) 1 (by omega) (by first | omega | (have := hrl (by assumption); omega) | (simp [outNum, outRaw, numB_len, numK] <;> omega) | (have := hrl (by assumption); simp [outNum, outRaw, numB_len, numK] <;> omega))) (en_f cb46 rfl) ?_
        refine vw_t 8 rfl (by kernel_rfl) (by kernel_rfl) (op1_storeA (i := 0) (vs := [_, _]) rfl rfl rfl sz78 rfl rfl rfl ?_)
        refine vw_done (by kernel_rfl) ?_
        refine seqK_n ?_
        refine cw_seq ?_
        refine cw_region ?_
        refine ow1 (op1_l rfl (lo_fieldAddr rfl fl94_1) ?_)
        refine ow1 (op1_l rfl (lo_load1 (i := 1) (v := .int _ _) rfl ag5 rfl rfl) ?_)
        refine ow_nil ?_
        refine seqK_n ?_
        refine cw_block ?_
        refine cw_seq ?_
        refine cw_region ?_
        refine ow1 (op1_l rfl (lo_eql rfl rfl) ?_)
        refine ow1 (op1_l rfl (lo_assign (v := .bool _) rfl) ?_)
        refine ow_nil ?_
        refine seqK_n ?_
        refine cw_cond rfl (fun h17 => ?_) (fun h17 => ?_)
        · have p18 := dt h17
          refine cw_region ?_
          refine ow1 (op1_l rfl (lo_loadA (i := 0) (vs := [_, _]) rfl ag78 sz78 rfl rfl rfl) ?_)
          refine ow1 (op1_l rfl (lo_fieldAddr rfl fl94_2) ?_)
          refine ow1 (op1_l rfl (lo_load1 (i := 1) (v := .int _ _) rfl ag2 rfl rfl) ?_)
          have := wr_u64 c11.num
          refine ow1 (op1_l rfl (lo_conv rfl (by rw [Tryd.underlying2]; rfl) Tryd.underlying22) ?_)
          refine ow1 (op1_pr (out_Num _ (outNum (outText o c11.key) c11.kind 1) (IntKind.wrap .u64 c11.num) (by omega) 8 (by omega) (by first | omega | (have := hrl (by assumption); omega) | (simp [outNum, outRaw, numB_len, numK] <;> omega) | (have := hrl (by assumption); simp [outNum, outRaw, numB_len, numK] <;> omega))) (en_f cb46 rfl) rfl ?_)
          have := outNum_len (outNum (outText o c11.key) c11.kind 1) (IntKind.wrap .u64 c11.num) 8
          refine ow1 (op1_storeA (i := 0) (vs := [_, _]) rfl rfl rfl sz78 rfl rfl rfl ?_)
          refine ow_nil ?_
          refine blkK_n ?_
          refine blkK_n ?_
          refine seqK_n ?_
          refine cw_region ?_
          refine ow1 (op1_l rfl (lo_add rfl rfl (rg_i64 (by omega))) ?_)
          refine ow1 (op1_l rfl (lo_move (v := .int _ _) rfl) ?_)
          refine ow_nil ?_
          refine next2 (k + 1) (outNum (outNum (outText o c11.key) c11.kind 1) (IntKind.wrap .u64 c11.num) 8) (upd_intro (mask_intro (by first | exact off_refl | (repeat (first | exact off_mask | refine off_upd rfl ?_ | refine off_mask2 rfl ?_)))) rfl) (lupd_intro (lmask_intro (by first | exact offl_refl | (repeat (first | exact offl_mask | refine offl_upd rfl ?_ | refine offl_mask2 rfl ?_)))) rfl) hl8 ?_ ?_
          · have e : (outNum (outNum (outText o c11.key) c11.kind 1) (IntKind.wrap .u64 c11.num) 8) = pairOut o c11 := by unfold pairOut; first | (rw [if_pos (by omega)]; done) | (rw [if_neg (by omega), if_pos (by omega)]; done) | (rw [if_neg (by omega), if_neg (by omega), if_pos (by omega)]; done) | (rw [if_neg (by omega), if_neg (by omega), if_neg (by omega)]; done)
            rw [e]
            have hlo := pairOut_len (o := o) (hok.2 c11 (List.mem_of_getElem? hc12))
            refine ⟨by omega, ?_, by omega⟩
            rw [hk2, dropE hc12, List.foldl_cons]
          · omega
        · have p19 := df h17
          refine cw_seq ?_
          refine cw_region ?_
          refine ow1 (op1_l rfl (lo_eql rfl rfl) ?_)
          refine ow1 (op1_l rfl (lo_assign (v := .bool _) rfl) ?_)
          refine ow_nil ?_
          refine seqK_n ?_
          refine cw_cond rfl (fun h20 => ?_) (fun h20 => ?_)
          · have p21 := dt h20
            refine cw_region ?_
            refine ow1 (op1_l rfl (lo_loadA (i := 0) (vs := [_, _]) rfl ag78 sz78 rfl rfl rfl) ?_)
            refine ow1 (op1_l rfl (lo_fieldAddr rfl fl94_3) ?_)
            refine ow1 (op1_l rfl (lo_load1 (i := 1) (v := str _) rfl ag9 rfl rfl) ?_)
            refine ow1 (op1_pr (out_Text _ (outNum (outText o c11.key) c11.kind 1) c11.text (by first | omega | (have := hrl (by assumption); omega) | (simp [outNum, outRaw, numB_len, numK] <;> omega) | (have := hrl (by assumption); simp [outNum, outRaw, numB_len, numK] <;> omega))) (en_f cb45 rfl) rfl ?_)
            have := outText_len (outNum (outText o c11.key) c11.kind 1) c11.text
            refine ow1 (op1_storeA (i := 0) (vs := [_, _]) rfl rfl rfl sz78 rfl rfl rfl ?_)
            refine ow_nil ?_
            refine blkK_n ?_
            refine blkK_n ?_
            refine seqK_n ?_
            refine cw_region ?_
            refine ow1 (op1_l rfl (lo_add rfl rfl (rg_i64 (by omega))) ?_)
            refine ow1 (op1_l rfl (lo_move (v := .int _ _) rfl) ?_)
            refine ow_nil ?_
            refine next2 (k + 1) (outText (outNum (outText o c11.key) c11.kind 1) c11.text) (upd_intro (mask_intro (by first | exact off_refl | (repeat (first | exact off_mask | refine off_upd rfl ?_ | refine off_mask2 rfl ?_)))) rfl) (lupd_intro (lmask_intro (by first | exact offl_refl | (repeat (first | exact offl_mask | refine offl_upd rfl ?_ | refine offl_mask2 rfl ?_)))) rfl) hl8 ?_ ?_
            · have e : (outText (outNum (outText o c11.key) c11.kind 1) c11.text) = pairOut o c11 := by unfold pairOut; first | (rw [if_pos (by omega)]; done) | (rw [if_neg (by omega), if_pos (by omega)]; done) | (rw [if_neg (by omega), if_neg (by omega), if_pos (by omega)]; done) | (rw [if_neg (by omega), if_neg (by omega), if_neg (by omega)]; done)
              rw [e]
              have hlo := pairOut_len (o := o) (hok.2 c11 (List.mem_of_getElem? hc12))
              refine ⟨by omega, ?_, by omega⟩
              rw [hk2, dropE hc12, List.foldl_cons]
            · omega
          · have p22 := df h20
            refine cw_seq ?_
            refine cw_region ?_
            refine ow1 (op1_l rfl (lo_eql rfl rfl) ?_)
            refine ow1 (op1_l rfl (lo_assign (v := .bool _) rfl) ?_)
            refine ow_nil ?_
            refine seqK_n ?_
            refine cw_cond rfl (fun h23 => ?_) (fun h23 => ?_)
            · have p24 := dt h23
              refine cw_region ?_
              refine ow1 (op1_l rfl (lo_loadA (i := 0) (vs := [_, _]) rfl ag78 sz78 rfl rfl rfl) ?_)
              refine ow1 (op1_l rfl (lo_fieldAddr rfl fl94_2) ?_)
              refine ow1 (op1_l rfl (lo_load1 (i := 1) (v := .int _ _) rfl ag2 rfl rfl) ?_)
              have := wr_u64 c11.num
              refine ow1 (op1_l rfl (lo_conv rfl (by rw [Tryd.underlying2]; rfl) Tryd.underlying22) ?_)
              refine ow1 (op1_pr (out_Num _ (outNum (outText o c11.key) c11.kind 1) (IntKind.wrap .u64 c11.num) (by omega) 1 (by omega) (by first | omega | (have := hrl (by assumption); omega) | (simp [outNum, outRaw, numB_len, numK] <;> omega) | (have := hrl (by assumption); simp [outNum, outRaw, numB_len, numK] <;> omega))) (en_f cb46 rfl) rfl ?_)
              have := outNum_len (outNum (outText o c11.key) c11.kind 1) (IntKind.wrap .u64 c11.num) 1
              refine ow1 (op1_storeA (i := 0) (vs := [_, _]) rfl rfl rfl sz78 rfl rfl rfl ?_)
              refine ow_nil ?_
              refine blkK_n ?_
              refine blkK_n ?_
              refine seqK_n ?_
              refine cw_region ?_
              refine ow1 (op1_l rfl (lo_add rfl rfl (rg_i64 (by omega))) ?_)
              refine ow1 (op1_l rfl (lo_move (v := .int _ _) rfl) ?_)
              refine ow_nil ?_
              refine next2 (k + 1) (outNum (outNum (outText o c11.key) c11.kind 1) (IntKind.wrap .u64 c11.num) 1) (upd_intro (mask_intro (by first | exact off_refl | (repeat (first | exact off_mask | refine off_upd rfl ?_ | refine off_mask2 rfl ?_)))) rfl) (lupd_intro (lmask_intro (by first | exact offl_refl | (repeat (first | exact offl_mask | refine offl_upd rfl ?_ | refine offl_mask2 rfl ?_)))) rfl) hl8 ?_ ?_
              · have e : (outNum (outNum (outText o c11.key) c11.kind 1) (IntKind.wrap .u64 c11.num) 1) = pairOut o c11 := by unfold pairOut; first | (rw [if_pos (by omega)]; done) | (rw [if_neg (by omega), if_pos (by omega)]; done) | (rw [if_neg (by omega), if_neg (by omega), if_pos (by omega)]; done) | (rw [if_neg (by omega), if_neg (by omega), if_neg (by omega)]; done)
                rw [e]
                have hlo := pairOut_len (o := o) (hok.2 c11 (List.mem_of_getElem? hc12))
                refine ⟨by omega, ?_, by omega⟩
                rw [hk2, dropE hc12, List.foldl_cons]
              · omega
            · have p25 := df h23
              refine cw_skip ?_
              refine blkK_n ?_
              refine blkK_n ?_
              refine seqK_n ?_
              refine cw_region ?_
              refine ow1 (op1_l rfl (lo_add rfl rfl (rg_i64 (by omega))) ?_)
              refine ow1 (op1_l rfl (lo_move (v := .int _ _) rfl) ?_)
              refine ow_nil ?_
              refine next2 (k + 1) (outNum (outText o c11.key) c11.kind 1) (upd_intro (mask_intro (by first | exact off_refl | (repeat (first | exact off_mask | refine off_upd rfl ?_ | refine off_mask2 rfl ?_)))) rfl) (lupd_intro (lmask_intro (by first | exact offl_refl | (repeat (first | exact offl_mask | refine offl_upd rfl ?_ | refine offl_mask2 rfl ?_)))) rfl) hl8 ?_ ?_
              · have e : (outNum (outText o c11.key) c11.kind 1) = pairOut o c11 := by unfold pairOut; first | (rw [if_pos (by omega)]; done) | (rw [if_neg (by omega), if_pos (by omega)]; done) | (rw [if_neg (by omega), if_neg (by omega), if_pos (by omega)]; done) | (rw [if_neg (by omega), if_neg (by omega), if_neg (by omega)]; done)
                rw [e]
                have hlo := pairOut_len (o := o) (hok.2 c11 (List.mem_of_getElem? hc12))
                refine ⟨by omega, ?_, by omega⟩
                rw [hk2, dropE hc12, List.foldl_cons]
              · omega
      · have p26 := df h9
        refine cw_exit ?_
        refine seqK_e ?_
        refine loopK_e ?_
        refine blkK_hit ?_
        refine seqK_n ?_
        refine cw_seq ?_
        refine cw_region ?_
        refine ow1 (op1_l rfl (lo_loadA (i := 0) (vs := [_, _]) rfl ag78 sz78 rfl rfl rfl) ?_)
        refine ow1 (op1_pr (out_String _ o) (en_f cb49 rfl) rfl ?_)
        refine ow1 (op1_l rfl (lo_assign (v := str _) rfl) ?_)
        refine ow1 (op1_l rfl (lo_assign (v := .int _ _) rfl) ?_)
        refine ow_nil ?_
        refine seqK_n ?_
        refine cw_ret ?_
        refine fnK_r (res2 rfl (rv_t (v := str _) rfl) (rv_t (v := .int _ _) rfl)) ((HLe.refl _).trans hl8) ?_
        unfold headBytes
        rw [if_pos (by assumption)]
        rw [List.drop_of_length_le (by omega), List.foldl_nil] at hk2
        rw [show headOut h = o from hk2]
        have e0 : headE h = 0 := by assumption
        rw [e0]

end Go.SW


set_option linter.unusedVariables false
set_option maxRecDepth 100000
namespace Go.SW
open Go.Proofs
theorem ag22 : Ag Tryd.prog 22 false := fun w => by kernel_rfl
theorem ag23 : Ag Tryd.prog 23 false := fun w => by kernel_rfl
theorem ag25 : Ag Tryd.prog 25 true := fun w => by kernel_rfl
theorem ag27 : Ag Tryd.prog 27 true := fun w => by kernel_rfl
theorem ag4 : Ag Tryd.prog 4 false := fun w => by kernel_rfl
theorem cb53 : Callable Tryd.prog 53 := callable_of Tryd.func53 (by kernel_rfl) (by kernel_rfl)
theorem cb55 : Callable Tryd.prog 55 := callable_of Tryd.func55 (by kernel_rfl) (by kernel_rfl)
theorem cb81 : Callable Tryd.prog 81 := callable_of Tryd.func81 (by kernel_rfl) (by kernel_rfl)
theorem cb83 : Callable Tryd.prog 83 := callable_of Tryd.func83 (by kernel_rfl) (by kernel_rfl)
theorem fl25_0 : Fld Tryd.prog 25 0 0 := fun b o w => by kernel_rfl
theorem fl25_1 : Fld Tryd.prog 25 1 1 := fun b o w => by kernel_rfl
theorem fl25_2 : Fld Tryd.prog 25 2 2 := fun b o w => by kernel_rfl
theorem fl25_3 : Fld Tryd.prog 25 3 3 := fun b o w => by kernel_rfl
theorem fl25_4 : Fld Tryd.prog 25 4 4 := fun b o w => by kernel_rfl
theorem fl25_5 : Fld Tryd.prog 25 5 5 := fun b o w => by kernel_rfl
theorem fl25_6 : Fld Tryd.prog 25 6 6 := fun b o w => by kernel_rfl
theorem fl27_1 : Fld Tryd.prog 27 1 1 := fun b o w => by kernel_rfl
theorem fl27_2 : Fld Tryd.prog 27 2 2 := fun b o w => by kernel_rfl
theorem fl27_3 : Fld Tryd.prog 27 3 3 := fun b o w => by kernel_rfl
theorem fl27_4 : Fld Tryd.prog 27 4 4 := fun b o w => by kernel_rfl
theorem fl27_5 : Fld Tryd.prog 27 5 5 := fun b o w => by kernel_rfl
theorem fl27_6 : Fld Tryd.prog 27 6 6 := fun b o w => by kernel_rfl
theorem sz25 : Sz Tryd.prog 25 7 := fun w => by kernel_rfl
theorem sz27 : Sz Tryd.prog 27 13 := fun w => by kernel_rfl

theorem reply_blank (H : Hp) (m : Mail) (m_head_a : Option Addr) (m_head_c : Nat) (m_head_h : SlH pairE 4 H (.slice m_head_a m.head.length m_head_c) m.head) (m_w : Mail.wf m) : Pr Tryd.prog 81 #[.agg (Mail.cells m m_head_a m_head_c).toArray] H (.bool (blankM m)) := by
  refine pr_cw Tryd.func81 rfl Tryd.ntmps81 rfl (fun N => ?_)
  have m_w' := m_w
  simp only [Mail.wf] at m_w'
  refine cw_seq ?_
  refine cw_region ?_
  refine ow1 (op1_box (cs := [_, _, _, _, _, _, _]) 0 rfl rfl (fun b1 => ?_))
  refine ow1 (op1_l rfl (lo_assign (v := .bool _) rfl) ?_)
  refine ow_nil ?_
  refine seqK_n ?_
  refine cw_seq ?_
  refine cw_region ?_
  refine ow1 (op1_l rfl (lo_fieldAddr rfl fl25_1) ?_)
  refine ow1 (op1_l rfl (lo_load1 (i := 0) (v := str _) rfl ag9 rfl rfl) ?_)
  refine ow1 (op1_l rfl (lo_seql rfl rfl) ?_)
  refine ow1 (op1_l rfl (lo_move (v := .bool _) rfl) ?_)
  refine ow_sp (j := 3) rfl (fun h2 => ?_) (fun h2 => ?_)
  · have p3 := dt h2
    refine ow1 (op1_g rfl h2 rfl (lo_fieldAddr rfl fl25_2) ?_)
    refine ow1 (op1_g rfl h2 rfl (lo_load1 (i := 0) (v := str _) rfl ag9 rfl rfl) ?_)
    refine ow1 (op1_g rfl h2 rfl (lo_seql rfl rfl) ?_)
    refine ow1 (op1_l rfl (lo_pick_t (v := .bool _) rfl h2 rfl) ?_)
    refine ow1 (op1_l rfl (lo_move (v := .bool _) rfl) ?_)
    refine ow_sp (j := 8) rfl (fun h4 => ?_) (fun h4 => ?_)
    · have p5 := dt h4
      refine ow1 (op1_g rfl h4 rfl (lo_fieldAddr rfl fl25_3) ?_)
      refine ow1 (op1_g rfl h4 rfl (lo_load1 (i := 0) (v := .slice _ _ _) rfl ag23 rfl rfl) ?_)
      refine ow1 (op1_g rfl h4 rfl (lo_len_slh rfl m_head_h Tryd.underlying23) ?_)
      refine ow1 (op1_g rfl h4 rfl (lo_eql rfl rfl) ?_)
      refine ow1 (op1_l rfl (lo_pick_t (v := .bool _) rfl h4 rfl) ?_)
      refine ow1 (op1_l rfl (lo_move (v := .bool _) rfl) ?_)
      refine ow_sp (j := 14) rfl (fun h6 => ?_) (fun h6 => ?_)
      · have p7 := dt h6
        refine ow1 (op1_g rfl h6 rfl (lo_fieldAddr rfl fl25_4) ?_)
        refine ow1 (op1_g rfl h6 rfl (lo_load1 (i := 0) (v := str _) rfl ag9 rfl rfl) ?_)
        refine ow1 (op1_g rfl h6 rfl (lo_seql rfl rfl) ?_)
        refine ow1 (op1_l rfl (lo_pick_t (v := .bool _) rfl h6 rfl) ?_)
        refine ow1 (op1_l rfl (lo_assign (v := .bool _) rfl) ?_)
        refine ow_nil ?_
        refine seqK_n ?_
        refine cw_ret ?_
        refine fnK_r (res1 rfl (rv_t (v := .bool _) rfl)) (.refl _) ?_
        first | (simp [blankM, *]; done) | (simp [blankM, *]; intro hh; simp [hh] at *)
      · have p8 := df h6
        refine ow1 (op1_gs rfl h6 rfl ?_)
        refine ow1 (op1_gs rfl h6 rfl ?_)
        refine ow1 (op1_gs rfl h6 rfl ?_)
        refine ow1 (op1_l rfl (lo_pick_f (v := .bool _) rfl h6 rfl) ?_)
        refine ow1 (op1_l rfl (lo_assign (v := .bool _) rfl) ?_)
        refine ow_nil ?_
        refine seqK_n ?_
        refine cw_ret ?_
        refine fnK_r (res1 rfl (rv_t (v := .bool _) rfl)) (.refl _) ?_
        first | (simp [blankM, *]; done) | (simp [blankM, *]; intro hh; simp [hh] at *)
    · have p9 := df h4
      refine ow1 (op1_gs rfl h4 rfl ?_)
      refine ow1 (op1_gs rfl h4 rfl ?_)
      refine ow1 (op1_gs rfl h4 rfl ?_)
      refine ow1 (op1_gs rfl h4 rfl ?_)
      refine ow1 (op1_l rfl (lo_pick_f (v := .bool _) rfl h4 rfl) ?_)
      refine ow1 (op1_l rfl (lo_move (v := .bool _) rfl) ?_)
      refine ow1 (op1_gs rfl rfl rfl ?_)
      refine ow1 (op1_gs rfl rfl rfl ?_)
      refine ow1 (op1_gs rfl rfl rfl ?_)
      refine ow1 (op1_l rfl (lo_pick_f (v := .bool _) rfl rfl rfl) ?_)
      refine ow1 (op1_l rfl (lo_assign (v := .bool _) rfl) ?_)
      refine ow_nil ?_
      refine seqK_n ?_
      refine cw_ret ?_
      refine fnK_r (res1 rfl (rv_t (v := .bool _) rfl)) (.refl _) ?_
      first | (simp [blankM, *]; done) | (simp [blankM, *]; intro hh; simp [hh] at *)
  · have p10 := df h2
    refine ow1 (op1_gs rfl h2 rfl ?_)
    refine ow1 (op1_gs rfl h2 rfl ?_)
    refine ow1 (op1_gs rfl h2 rfl ?_)
    refine ow1 (op1_l rfl (lo_pick_f (v := .bool _) rfl h2 rfl) ?_)
    refine ow1 (op1_l rfl (lo_move (v := .bool _) rfl) ?_)
    refine ow1 (op1_gs rfl rfl rfl ?_)
    refine ow1 (op1_gs rfl rfl rfl ?_)
    refine ow1 (op1_gs rfl rfl rfl ?_)
    refine ow1 (op1_gs rfl rfl rfl ?_)
    refine ow1 (op1_l rfl (lo_pick_f (v := .bool _) rfl rfl rfl) ?_)
    refine ow1 (op1_l rfl (lo_move (v := .bool _) rfl) ?_)
    refine ow1 (op1_gs rfl rfl rfl ?_)
    refine ow1 (op1_gs rfl rfl rfl ?_)
    refine ow1 (op1_gs rfl rfl rfl ?_)
    refine ow1 (op1_l rfl (lo_pick_f (v := .bool _) rfl rfl rfl) ?_)
    refine ow1 (op1_l rfl (lo_assign (v := .bool _) rfl) ?_)
    refine ow_nil ?_
    refine seqK_n ?_
    refine cw_ret ?_
    refine fnK_r (res1 rfl (rv_t (v := .bool _) rfl)) (.refl _) ?_
    first | (simp [blankM, *]; done) | (simp [blankM, *]; intro hh; simp [hh] at *)

theorem reply_spare (H : Hp) (r : Reply) (r_mail_head_a : Option Addr) (r_mail_head_c : Nat) (r_mail_head_h : SlH pairE 4 H (.slice r_mail_head_a r.mail.head.length r_mail_head_c) r.mail.head) (r_w : Reply.wf r) : Pr Tryd.prog 53 #[.agg (Reply.cells r r_mail_head_a r_mail_head_c).toArray] H (.bool (spareR r)) := by
  refine pr_cw Tryd.func53 rfl Tryd.ntmps53 rfl (fun N => ?_)
  have r_w' := r_w
  simp only [Reply.wf, Mail.wf] at r_w'
  refine cw_seq ?_
  refine cw_region ?_
  refine ow1 (op1_box (cs := [_, _, _, _, _, _, _, _, _, _, _, _, _]) 0 rfl rfl (fun b1 => ?_))
  refine ow1 (op1_l rfl (lo_assign (v := .bool _) rfl) ?_)
  refine ow_nil ?_
  refine seqK_n ?_
  refine cw_seq ?_
  refine cw_seq ?_
  refine cw_region ?_
  refine ow1 (op1_l rfl (lo_fieldAddr rfl fl27_6) ?_)
  refine ow1 (op1_l rfl (lo_fieldAddr rfl fl25_0) ?_)
  refine ow1 (op1_l rfl (lo_load1 (i := 0) (v := .int _ _) rfl ag22 rfl rfl) ?_)
  refine ow1 (op1_l rfl (lo_neq rfl rfl) ?_)
  refine ow1 (op1_l rfl (lo_move (v := .bool _) rfl) ?_)
  refine ow_sp (j := 4) rfl (fun h2 => ?_) (fun h2 => ?_)
  · have h3 := not_t h2
    have p4 := df h3
    refine ow1 (op1_gs rfl h2 rfl ?_)
    refine ow1 (op1_gs rfl h2 rfl ?_)
    refine ow1 (op1_gs rfl h2 rfl ?_)
    refine ow1 (op1_gs rfl h2 rfl ?_)
    refine ow1 (op1_l rfl (lo_pick_t (v := .bool _) rfl h2 rfl) ?_)
    refine ow1 (op1_l rfl (lo_move (v := .bool _) rfl) ?_)
    refine ow1 (op1_gs rfl rfl rfl ?_)
    refine ow1 (op1_gs rfl rfl rfl ?_)
    refine ow1 (op1_gs rfl rfl rfl ?_)
    refine ow1 (op1_gs rfl rfl rfl ?_)
    refine ow1 (op1_l rfl (lo_pick_t (v := .bool _) rfl rfl rfl) ?_)
    refine ow_nil ?_
    refine seqK_n ?_
    refine cw_cond_t rfl rfl ?_
    refine cw_seq ?_
    refine cw_region ?_
    refine ow1 (op1_l rfl (lo_assign (v := .bool _) rfl) ?_)
    refine ow_nil ?_
    refine seqK_n ?_
    refine cw_ret ?_
    refine seqK_r ?_
    refine fnK_r (res1 rfl (rv_t (v := .bool _) rfl)) (.refl _) ?_
    first | (simp [spareR, *]; done) | (simp [spareR, *]; omega) | (exfalso; omega)
  · have h5 := not_f h2
    have p6 := dt h5
    refine ow1 (op1_g rfl h2 rfl (lo_fieldAddr rfl fl27_6) ?_)
    refine ow1 (op1_g rfl h2 rfl (lo_fieldAddr rfl fl25_5) ?_)
    refine ow1 (op1_g rfl h2 rfl (lo_load1 (i := 0) (v := .int _ _) rfl ag22 rfl rfl) ?_)
    refine ow1 (op1_g rfl h2 rfl (lo_neq rfl rfl) ?_)
    refine ow1 (op1_l rfl (lo_pick_f (v := .bool _) rfl h2 rfl) ?_)
    refine ow1 (op1_l rfl (lo_move (v := .bool _) rfl) ?_)
    refine ow_sp (j := 10) rfl (fun h7 => ?_) (fun h7 => ?_)
    · have h8 := not_t h7
      have p9 := df h8
      refine ow1 (op1_gs rfl h7 rfl ?_)
      refine ow1 (op1_gs rfl h7 rfl ?_)
      refine ow1 (op1_gs rfl h7 rfl ?_)
      refine ow1 (op1_gs rfl h7 rfl ?_)
      refine ow1 (op1_l rfl (lo_pick_t (v := .bool _) rfl h7 rfl) ?_)
      refine ow_nil ?_
      refine seqK_n ?_
      refine cw_cond_t rfl rfl ?_
      refine cw_seq ?_
      refine cw_region ?_
      refine ow1 (op1_l rfl (lo_assign (v := .bool _) rfl) ?_)
      refine ow_nil ?_
      refine seqK_n ?_
      refine cw_ret ?_
      refine seqK_r ?_
      refine fnK_r (res1 rfl (rv_t (v := .bool _) rfl)) (.refl _) ?_
      first | (simp [spareR, *]; done) | (simp [spareR, *]; omega) | (exfalso; omega)
    · have h10 := not_f h7
      have p11 := dt h10
      refine ow1 (op1_g rfl h7 rfl (lo_fieldAddr rfl fl27_6) ?_)
      refine ow1 (op1_g rfl h7 rfl (lo_fieldAddr rfl fl25_6) ?_)
      refine ow1 (op1_g rfl h7 rfl (lo_load1 (i := 0) (v := .int _ _) rfl ag5 rfl rfl) ?_)
      refine ow1 (op1_g rfl h7 rfl (lo_neq rfl rfl) ?_)
      refine ow1 (op1_l rfl (lo_pick_f (v := .bool _) rfl h7 rfl) ?_)
      refine ow_nil ?_
      refine seqK_n ?_
      refine cw_cond rfl (fun h12 => ?_) (fun h12 => ?_)
      · have h13 := not_t h12
        have p14 := df h13
        refine cw_seq ?_
        refine cw_region ?_
        refine ow1 (op1_l rfl (lo_assign (v := .bool _) rfl) ?_)
        refine ow_nil ?_
        refine seqK_n ?_
        refine cw_ret ?_
        refine seqK_r ?_
        refine fnK_r (res1 rfl (rv_t (v := .bool _) rfl)) (.refl _) ?_
        first | (simp [spareR, *]; done) | (simp [spareR, *]; omega) | (exfalso; omega)
      · have h15 := not_f h12
        have p16 := dt h15
        refine cw_skip ?_
        refine seqK_n ?_
        refine cw_seq ?_
        refine cw_region ?_
        refine ow1 (op1_l rfl (lo_fieldAddr rfl fl27_1) ?_)
        refine ow1 (op1_l rfl (lo_load1 (i := 0) (v := .int _ _) rfl ag5 rfl rfl) ?_)
        refine ow1 (op1_l rfl (lo_eql rfl rfl) ?_)
        refine ow1 (op1_l rfl (lo_assign (v := .bool _) rfl) ?_)
        refine ow_nil ?_
        refine seqK_n ?_
        refine cw_seq ?_
        refine cw_seq ?_
        refine cw_region ?_
        refine ow1 (op1_l rfl (lo_fieldAddr rfl fl27_5) ?_)
        refine ow1 (op1_l rfl (lo_load1 (i := 0) (v := str _) rfl ag9 rfl rfl) ?_)
        refine ow1 (op1_l rfl (lo_sneq rfl rfl) ?_)
        refine ow1 (op1_l rfl (lo_move (v := .bool _) rfl) ?_)
        refine ow_sp (j := 3) rfl (fun h17 => ?_) (fun h17 => ?_)
        · have h18 := not_t h17
          have p19 := df h18
          refine ow1 (op1_g rfl h17 rfl (lo_fieldAddr rfl fl27_1) ?_)
          refine ow1 (op1_g rfl h17 rfl (lo_load1 (i := 0) (v := .int _ _) rfl ag5 rfl rfl) ?_)
          refine ow1 (op1_g rfl h17 rfl (lo_neq rfl rfl) ?_)
          refine ow1 (op1_l rfl (lo_pick_t (v := .bool _) rfl h17 rfl) ?_)
          refine ow1 (op1_l rfl (lo_move (v := .bool _) rfl) ?_)
          refine ow_sp (j := 8) rfl (fun h20 => ?_) (fun h20 => ?_)
          · have h21 := not_t h20
            have p22 := df h21
            refine ow1 (op1_gs rfl h20 rfl ?_)
            refine ow1 (op1_gs rfl h20 rfl ?_)
            refine ow1 (op1_gs rfl h20 rfl ?_)
            refine ow1 (op1_gx (j := 11) rfl rfl ?_)
            refine ow1 (op1_gx (j := 11) rfl rfl ?_)
            refine ow1 (op1_gx (j := 11) rfl rfl ?_)
            refine ow1 (op1_gx (j := 14) rfl rfl ?_)
            refine ow1 (op1_gx (j := 14) rfl rfl ?_)
            refine ow1 (op1_gx (j := 14) rfl rfl ?_)
            refine ow1 (op1_gx (j := 14) rfl rfl ?_)
            refine ow1 (op1_gx (j := 11) rfl rfl ?_)
            refine ow1 (op1_gs rfl h20 rfl ?_)
            refine ow1 (op1_l rfl (lo_pick_t (v := .bool _) rfl h20 rfl) ?_)
            refine ow_nil ?_
            refine seqK_n ?_
            refine cw_cond_t rfl rfl ?_
            refine cw_seq ?_
            refine cw_region ?_
            refine ow1 (op1_l rfl (lo_assign (v := .bool _) rfl) ?_)
            refine ow_nil ?_
            refine seqK_n ?_
            refine cw_ret ?_
            refine seqK_r ?_
            refine fnK_r (res1 rfl (rv_t (v := .bool _) rfl)) (.refl _) ?_
            first | (simp [spareR, *]; done) | (simp [spareR, *]; omega) | (exfalso; omega)
          · have h23 := not_f h20
            have p24 := dt h23
            refine ow1 (op1_g rfl h20 rfl (lo_move (v := .bool _) rfl) ?_)
            refine ow1 (op1_g rfl h20 rfl (lo_not rfl) ?_)
            refine ow1 (op1_g rfl h20 rfl (lo_move (v := .bool _) rfl) ?_)
            refine ow1 (op1_g rfl (by rw [(fd (by omega))] <;> rfl) rfl (lo_fieldAddr rfl fl27_4) ?_)
            refine ow1 (op1_g rfl (by rw [(fd (by omega))] <;> rfl) rfl (lo_load1 (i := 0) (v := .bool _) rfl ag4 rfl rfl) ?_)
            refine ow1 (op1_g rfl (by rw [(fd (by omega))] <;> rfl) rfl (lo_move (v := .bool _) rfl) ?_)
            refine ow_sp (j := 14) rfl (fun h25 => ?_) (fun h25 => ?_)
            · refine ow1 (op1_gs rfl h25 rfl ?_)
              refine ow1 (op1_gs rfl h25 rfl ?_)
              refine ow1 (op1_gs rfl h25 rfl ?_)
              refine ow1 (op1_gs rfl h25 rfl ?_)
              refine ow1 (op1_g rfl (by rw [(fd (by omega))] <;> rfl) rfl (lo_pick_t (v := .bool _) rfl h25 rfl) ?_)
              refine ow1 (op1_g rfl h20 rfl (lo_pick_t (v := .bool _) rfl (by rw [(fd (by omega))] <;> rfl) rfl) ?_)
              refine ow1 (op1_l rfl (lo_pick_f (v := .bool _) rfl h20 rfl) ?_)
              refine ow_nil ?_
              refine seqK_n ?_
              refine cw_cond_t rfl rfl ?_
              refine cw_seq ?_
              refine cw_region ?_
              refine ow1 (op1_l rfl (lo_assign (v := .bool _) rfl) ?_)
              refine ow_nil ?_
              refine seqK_n ?_
              refine cw_ret ?_
              refine seqK_r ?_
              refine fnK_r (res1 rfl (rv_t (v := .bool _) rfl)) (.refl _) ?_
              first | (simp [spareR, *]; done) | (simp [spareR, *]; omega) | (exfalso; omega)
            · refine ow1 (op1_g rfl h25 rfl (lo_fieldAddr rfl fl27_6) ?_)
              refine ow1 (op1_g rfl h25 rfl (lo_loadA (i := 0) (vs := [_, _, _, _, _, _, _]) rfl ag25 sz25 rfl rfl rfl) ?_)
              refine ow1 (op1_prg rfl h25 (reply_blank _ r.mail r_mail_head_a r_mail_head_c r_mail_head_h (by simp only [Mail.wf]; first | omega | (simp; done) | (simp; omega))) (en_f cb81 rfl) rfl ?_)
              refine ow1 (op1_g rfl h25 rfl (lo_not rfl) ?_)
              refine ow1 (op1_g rfl (by rw [(fd (by omega))] <;> rfl) rfl (lo_pick_f (v := .bool _) rfl h25 rfl) ?_)
              refine ow1 (op1_g rfl h20 rfl (lo_pick_t (v := .bool _) rfl (by rw [(fd (by omega))] <;> rfl) rfl) ?_)
              refine ow1 (op1_l rfl (lo_pick_f (v := .bool _) rfl h20 rfl) ?_)
              refine ow_nil ?_
              refine seqK_n ?_
              refine cw_cond rfl (fun h26 => ?_) (fun h26 => ?_)
              · have h27 := not_t h26
                refine cw_seq ?_
                refine cw_region ?_
                refine ow1 (op1_l rfl (lo_assign (v := .bool _) rfl) ?_)
                refine ow_nil ?_
                refine seqK_n ?_
                refine cw_ret ?_
                refine seqK_r ?_
                refine fnK_r (res1 rfl (rv_t (v := .bool _) rfl)) (.refl _) ?_
                first | (simp [spareR, *]; done) | (simp [spareR, *]; omega) | (exfalso; omega)
              · have h28 := not_f h26
                refine cw_skip ?_
                refine seqK_n ?_
                refine cw_seq ?_
                refine cw_seq ?_
                refine cw_region ?_
                refine ow1 (op1_l rfl (lo_fieldAddr rfl fl27_1) ?_)
                refine ow1 (op1_l rfl (lo_load1 (i := 0) (v := .int _ _) rfl ag5 rfl rfl) ?_)
                refine ow_nil ?_
                refine seqK_n ?_
                refine cw_block ?_
                refine cw_seq ?_
                refine cw_seq ?_
                refine cw_region ?_
                refine ow1 (op1_l rfl (lo_eql rfl rfl) ?_)
                refine ow1 (op1_l rfl (lo_assign (v := .bool _) rfl) ?_)
                refine ow_nil ?_
                refine seqK_n ?_
                refine cw_cond_f rfl (fd (by omega)) ?_
                refine cw_region ?_
                refine ow1 (op1_l rfl (lo_eql rfl rfl) ?_)
                refine ow1 (op1_l rfl (lo_assign (v := .bool _) rfl) ?_)
                refine ow_nil ?_
                refine seqK_n ?_
                refine cw_cond_f rfl (fd (by omega)) ?_
                refine cw_seq ?_
                refine cw_seq ?_
                refine cw_region ?_
                refine ow1 (op1_l rfl (lo_eql rfl rfl) ?_)
                refine ow1 (op1_l rfl (lo_assign (v := .bool _) rfl) ?_)
                refine ow_nil ?_
                refine seqK_n ?_
                refine cw_cond_f rfl (fd (by omega)) ?_
                refine cw_seq ?_
                refine cw_region ?_
                refine ow1 (op1_l rfl (lo_eql rfl rfl) ?_)
                refine ow1 (op1_l rfl (lo_assign (v := .bool _) rfl) ?_)
                refine ow_nil ?_
                refine seqK_n ?_
                refine cw_cond_f rfl (fd (by omega)) ?_
                refine cw_region ?_
                refine ow1 (op1_l rfl (lo_eql rfl rfl) ?_)
                refine ow1 (op1_l rfl (lo_assign (v := .bool _) rfl) ?_)
                refine ow_nil ?_
                refine seqK_n ?_
                refine cw_cond_f rfl (fd (by omega)) ?_
                refine cw_skip ?_
                refine blkK_n ?_
                refine seqK_n ?_
                refine cw_seq ?_
                refine cw_region ?_
                refine ow1 (op1_l rfl (lo_fieldAddr rfl fl27_2) ?_)
                refine ow1 (op1_l rfl (lo_load1 (i := 0) (v := .int _ _) rfl ag22 rfl rfl) ?_)
                refine ow1 (op1_l rfl (lo_neq rfl rfl) ?_)
                refine ow1 (op1_l rfl (lo_move (v := .bool _) rfl) ?_)
                refine ow_sp (j := 3) rfl (fun h29 => ?_) (fun h29 => ?_)
                · have h30 := not_t h29
                  have p31 := df h30
                  refine ow1 (op1_gs rfl h29 rfl ?_)
                  refine ow1 (op1_gs rfl h29 rfl ?_)
                  refine ow1 (op1_gs rfl h29 rfl ?_)
                  refine ow1 (op1_l rfl (lo_pick_t (v := .bool _) rfl h29 rfl) ?_)
                  refine ow1 (op1_l rfl (lo_assign (v := .bool _) rfl) ?_)
                  refine ow_nil ?_
                  refine seqK_n ?_
                  refine cw_ret ?_
                  refine fnK_r (res1 rfl (rv_t (v := .bool _) rfl)) (.refl _) ?_
                  first | (simp [spareR, *]; done) | (simp [spareR, *]; omega) | (exfalso; omega)
                · have h32 := not_f h29
                  have p33 := dt h32
                  refine ow1 (op1_g rfl h29 rfl (lo_fieldAddr rfl fl27_3) ?_)
                  refine ow1 (op1_g rfl h29 rfl (lo_load1 (i := 0) (v := .int _ _) rfl ag22 rfl rfl) ?_)
                  refine ow1 (op1_g rfl h29 rfl (lo_neq rfl rfl) ?_)
                  refine ow1 (op1_l rfl (lo_pick_f (v := .bool _) rfl h29 rfl) ?_)
                  refine ow1 (op1_l rfl (lo_assign (v := .bool _) rfl) ?_)
                  refine ow_nil ?_
                  refine seqK_n ?_
                  refine cw_ret ?_
                  refine fnK_r (res1 rfl (rv_t (v := .bool _) rfl)) (.refl _) ?_
                  first | (simp [spareR, *]; done) | (simp [spareR, *]; omega) | (exfalso; omega)
        · have h34 := not_f h17
          have p35 := dt h34
          refine ow1 (op1_gs rfl h17 rfl ?_)
          refine ow1 (op1_gs rfl h17 rfl ?_)
          refine ow1 (op1_gs rfl h17 rfl ?_)
          refine ow1 (op1_l rfl (lo_pick_f (v := .bool _) rfl h17 rfl) ?_)
          refine ow1 (op1_l rfl (lo_move (v := .bool _) rfl) ?_)
          refine ow1 (op1_g rfl rfl rfl (lo_move (v := .bool _) rfl) ?_)
          refine ow1 (op1_g rfl rfl rfl (lo_not rfl) ?_)
          refine ow1 (op1_g rfl rfl rfl (lo_move (v := .bool _) rfl) ?_)
          refine ow_sp (j := 11) rfl (fun h36 => ?_) (fun h36 => ?_)
          · have h37 := not_t h36
            have p38 := df h37
            refine ow1 (op1_g rfl h36 rfl (lo_fieldAddr rfl fl27_4) ?_)
            refine ow1 (op1_g rfl h36 rfl (lo_load1 (i := 0) (v := .bool _) rfl ag4 rfl rfl) ?_)
            refine ow1 (op1_g rfl h36 rfl (lo_move (v := .bool _) rfl) ?_)
            refine ow_sp (j := 14) rfl (fun h39 => ?_) (fun h39 => ?_)
            · refine ow1 (op1_gs rfl h39 rfl ?_)
              refine ow1 (op1_gs rfl h39 rfl ?_)
              refine ow1 (op1_gs rfl h39 rfl ?_)
              refine ow1 (op1_gs rfl h39 rfl ?_)
              refine ow1 (op1_g rfl h36 rfl (lo_pick_t (v := .bool _) rfl h39 rfl) ?_)
              refine ow1 (op1_g rfl rfl rfl (lo_pick_t (v := .bool _) rfl h36 rfl) ?_)
              refine ow1 (op1_l rfl (lo_pick_f (v := .bool _) rfl rfl rfl) ?_)
              refine ow_nil ?_
              refine seqK_n ?_
              refine cw_cond_t rfl rfl ?_
              refine cw_seq ?_
              refine cw_region ?_
              refine ow1 (op1_l rfl (lo_assign (v := .bool _) rfl) ?_)
              refine ow_nil ?_
              refine seqK_n ?_
              refine cw_ret ?_
              refine seqK_r ?_
              refine fnK_r (res1 rfl (rv_t (v := .bool _) rfl)) (.refl _) ?_
              first | (simp [spareR, *]; done) | (simp [spareR, *]; omega) | (exfalso; omega)
            · refine ow1 (op1_g rfl h39 rfl (lo_fieldAddr rfl fl27_6) ?_)
              refine ow1 (op1_g rfl h39 rfl (lo_loadA (i := 0) (vs := [_, _, _, _, _, _, _]) rfl ag25 sz25 rfl rfl rfl) ?_)
              refine ow1 (op1_prg rfl h39 (reply_blank _ r.mail r_mail_head_a r_mail_head_c r_mail_head_h (by simp only [Mail.wf]; first | omega | (simp; done) | (simp; omega))) (en_f cb81 rfl) rfl ?_)
              refine ow1 (op1_g rfl h39 rfl (lo_not rfl) ?_)
              refine ow1 (op1_g rfl h36 rfl (lo_pick_f (v := .bool _) rfl h39 rfl) ?_)
              refine ow1 (op1_g rfl rfl rfl (lo_pick_t (v := .bool _) rfl h36 rfl) ?_)
              refine ow1 (op1_l rfl (lo_pick_f (v := .bool _) rfl rfl rfl) ?_)
              refine ow_nil ?_
              refine seqK_n ?_
              refine cw_cond rfl (fun h40 => ?_) (fun h40 => ?_)
              · have h41 := not_t h40
                refine cw_seq ?_
                refine cw_region ?_
                refine ow1 (op1_l rfl (lo_assign (v := .bool _) rfl) ?_)
                refine ow_nil ?_
                refine seqK_n ?_
                refine cw_ret ?_
                refine seqK_r ?_
                refine fnK_r (res1 rfl (rv_t (v := .bool _) rfl)) (.refl _) ?_
                first | (simp [spareR, *]; done) | (simp [spareR, *]; omega) | (exfalso; omega)
              · have h42 := not_f h40
                refine cw_skip ?_
                refine seqK_n ?_
                refine cw_seq ?_
                refine cw_seq ?_
                refine cw_region ?_
                refine ow1 (op1_l rfl (lo_fieldAddr rfl fl27_1) ?_)
                refine ow1 (op1_l rfl (lo_load1 (i := 0) (v := .int _ _) rfl ag5 rfl rfl) ?_)
                refine ow_nil ?_
                refine seqK_n ?_
                refine cw_block ?_
                refine cw_seq ?_
                refine cw_seq ?_
                refine cw_region ?_
                refine ow1 (op1_l rfl (lo_eql rfl rfl) ?_)
                refine ow1 (op1_l rfl (lo_assign (v := .bool _) rfl) ?_)
                refine ow_nil ?_
                refine seqK_n ?_
                refine cw_cond_f rfl h37 ?_
                refine cw_region ?_
                refine ow1 (op1_l rfl (lo_eql rfl rfl) ?_)
                refine ow1 (op1_l rfl (lo_assign (v := .bool _) rfl) ?_)
                refine ow_nil ?_
                refine seqK_n ?_
                refine cw_cond rfl (fun h43 => ?_) (fun h43 => ?_)
                · have p44 := dt h43
                  refine cw_seq ?_
                  refine cw_region ?_
                  refine ow1 (op1_l rfl (lo_assign (v := .bool _) rfl) ?_)
                  refine ow_nil ?_
                  refine seqK_n ?_
                  refine cw_ret ?_
                  refine blkK_r ?_
                  refine seqK_r ?_
                  refine fnK_r (res1 rfl (rv_t (v := .bool _) rfl)) (.refl _) ?_
                  first | (simp [spareR, *]; done) | (simp [spareR, *]; omega) | (exfalso; omega)
                · have p45 := df h43
                  refine cw_seq ?_
                  refine cw_seq ?_
                  refine cw_region ?_
                  refine ow1 (op1_l rfl (lo_eql rfl rfl) ?_)
                  refine ow1 (op1_l rfl (lo_assign (v := .bool _) rfl) ?_)
                  refine ow_nil ?_
                  refine seqK_n ?_
                  refine cw_cond rfl (fun h46 => ?_) (fun h46 => ?_)
                  · have p47 := dt h46
                    refine cw_skip ?_
                    refine seqK_n ?_
                    refine cw_cond_t rfl h46 ?_
                    refine cw_seq ?_
                    refine cw_region ?_
                    refine ow1 (op1_l rfl (lo_fieldAddr rfl fl27_3) ?_)
                    refine ow1 (op1_l rfl (lo_load1 (i := 0) (v := .int _ _) rfl ag22 rfl rfl) ?_)
                    refine ow1 (op1_l rfl (lo_neq rfl rfl) ?_)
                    refine ow1 (op1_l rfl (lo_assign (v := .bool _) rfl) ?_)
                    refine ow_nil ?_
                    refine seqK_n ?_
                    refine cw_ret ?_
                    refine blkK_r ?_
                    refine seqK_r ?_
                    refine fnK_r (res1 rfl (rv_t (v := .bool _) rfl)) (.refl _) ?_
                    first | (simp [spareR, *]; done) | (simp [spareR, *]; omega) | (exfalso; omega)
                  · have p48 := df h46
                    refine cw_seq ?_
                    refine cw_region ?_
                    refine ow1 (op1_l rfl (lo_eql rfl rfl) ?_)
                    refine ow1 (op1_l rfl (lo_assign (v := .bool _) rfl) ?_)
                    refine ow_nil ?_
                    refine seqK_n ?_
                    refine cw_cond rfl (fun h49 => ?_) (fun h49 => ?_)
                    · have p50 := dt h49
                      refine cw_skip ?_
                      refine seqK_n ?_
                      refine cw_cond_t rfl h49 ?_
                      refine cw_seq ?_
                      refine cw_region ?_
                      refine ow1 (op1_l rfl (lo_fieldAddr rfl fl27_3) ?_)
                      refine ow1 (op1_l rfl (lo_load1 (i := 0) (v := .int _ _) rfl ag22 rfl rfl) ?_)
                      refine ow1 (op1_l rfl (lo_neq rfl rfl) ?_)
                      refine ow1 (op1_l rfl (lo_assign (v := .bool _) rfl) ?_)
                      refine ow_nil ?_
                      refine seqK_n ?_
                      refine cw_ret ?_
                      refine blkK_r ?_
                      refine seqK_r ?_
                      refine fnK_r (res1 rfl (rv_t (v := .bool _) rfl)) (.refl _) ?_
                      first | (simp [spareR, *]; done) | (simp [spareR, *]; omega) | (exfalso; omega)
                    · have p51 := df h49
                      refine cw_region ?_
                      refine ow1 (op1_l rfl (lo_eql rfl rfl) ?_)
                      refine ow1 (op1_l rfl (lo_assign (v := .bool _) rfl) ?_)
                      refine ow_nil ?_
                      refine seqK_n ?_
                      refine cw_cond rfl (fun h52 => ?_) (fun h52 => ?_)
                      · have p53 := dt h52
                        refine cw_seq ?_
                        refine cw_region ?_
                        refine ow1 (op1_l rfl (lo_fieldAddr rfl fl27_3) ?_)
                        refine ow1 (op1_l rfl (lo_load1 (i := 0) (v := .int _ _) rfl ag22 rfl rfl) ?_)
                        refine ow1 (op1_l rfl (lo_neq rfl rfl) ?_)
                        refine ow1 (op1_l rfl (lo_assign (v := .bool _) rfl) ?_)
                        refine ow_nil ?_
                        refine seqK_n ?_
                        refine cw_ret ?_
                        refine blkK_r ?_
                        refine seqK_r ?_
                        refine fnK_r (res1 rfl (rv_t (v := .bool _) rfl)) (.refl _) ?_
                        first | (simp [spareR, *]; done) | (simp [spareR, *]; omega) | (exfalso; omega)
                      · have p54 := df h52
                        refine cw_skip ?_
                        refine blkK_n ?_
                        refine seqK_n ?_
                        refine cw_seq ?_
                        refine cw_region ?_
                        refine ow1 (op1_l rfl (lo_fieldAddr rfl fl27_2) ?_)
                        refine ow1 (op1_l rfl (lo_load1 (i := 0) (v := .int _ _) rfl ag22 rfl rfl) ?_)
                        refine ow1 (op1_l rfl (lo_neq rfl rfl) ?_)
                        refine ow1 (op1_l rfl (lo_move (v := .bool _) rfl) ?_)
                        refine ow_sp (j := 3) rfl (fun h55 => ?_) (fun h55 => ?_)
                        · have h56 := not_t h55
                          have p57 := df h56
                          refine ow1 (op1_gs rfl h55 rfl ?_)
                          refine ow1 (op1_gs rfl h55 rfl ?_)
                          refine ow1 (op1_gs rfl h55 rfl ?_)
                          refine ow1 (op1_l rfl (lo_pick_t (v := .bool _) rfl h55 rfl) ?_)
                          refine ow1 (op1_l rfl (lo_assign (v := .bool _) rfl) ?_)
                          refine ow_nil ?_
                          refine seqK_n ?_
                          refine cw_ret ?_
                          refine fnK_r (res1 rfl (rv_t (v := .bool _) rfl)) (.refl _) ?_
                          first | (simp [spareR, *]; done) | (simp [spareR, *]; omega) | (exfalso; omega)
                        · have h58 := not_f h55
                          have p59 := dt h58
                          refine ow1 (op1_g rfl h55 rfl (lo_fieldAddr rfl fl27_3) ?_)
                          refine ow1 (op1_g rfl h55 rfl (lo_load1 (i := 0) (v := .int _ _) rfl ag22 rfl rfl) ?_)
                          refine ow1 (op1_g rfl h55 rfl (lo_neq rfl rfl) ?_)
                          refine ow1 (op1_l rfl (lo_pick_f (v := .bool _) rfl h55 rfl) ?_)
                          refine ow1 (op1_l rfl (lo_assign (v := .bool _) rfl) ?_)
                          refine ow_nil ?_
                          refine seqK_n ?_
                          refine cw_ret ?_
                          refine fnK_r (res1 rfl (rv_t (v := .bool _) rfl)) (.refl _) ?_
                          first | (simp [spareR, *]; done) | (simp [spareR, *]; omega) | (exfalso; omega)
          · have h60 := not_f h36
            have p61 := dt h60
            refine ow1 (op1_gs rfl h36 rfl ?_)
            refine ow1 (op1_gs rfl h36 rfl ?_)
            refine ow1 (op1_gs rfl h36 rfl ?_)
            refine ow1 (op1_gx (j := 14) rfl rfl ?_)
            refine ow1 (op1_gx (j := 14) rfl rfl ?_)
            refine ow1 (op1_gx (j := 14) rfl rfl ?_)
            refine ow1 (op1_gx (j := 14) rfl rfl ?_)
            refine ow1 (op1_gs rfl h36 rfl ?_)
            refine ow1 (op1_g rfl rfl rfl (lo_pick_f (v := .bool _) rfl h36 rfl) ?_)
            refine ow1 (op1_l rfl (lo_pick_f (v := .bool _) rfl rfl rfl) ?_)
            refine ow_nil ?_
            refine seqK_n ?_
            refine cw_cond_f rfl rfl ?_
            refine cw_skip ?_
            refine seqK_n ?_
            refine cw_seq ?_
            refine cw_seq ?_
            refine cw_region ?_
            refine ow1 (op1_l rfl (lo_fieldAddr rfl fl27_1) ?_)
            refine ow1 (op1_l rfl (lo_load1 (i := 0) (v := .int _ _) rfl ag5 rfl rfl) ?_)
            refine ow_nil ?_
            refine seqK_n ?_
            refine cw_block ?_
            refine cw_seq ?_
            refine cw_seq ?_
            refine cw_region ?_
            refine ow1 (op1_l rfl (lo_eql rfl rfl) ?_)
            refine ow1 (op1_l rfl (lo_assign (v := .bool _) rfl) ?_)
            refine ow_nil ?_
            refine seqK_n ?_
            refine cw_cond_t rfl h60 ?_
            refine cw_skip ?_
            refine seqK_n ?_
            refine cw_cond_t rfl h60 ?_
            refine cw_seq ?_
            refine cw_region ?_
            refine ow1 (op1_l rfl (lo_assign (v := .bool _) rfl) ?_)
            refine ow_nil ?_
            refine seqK_n ?_
            refine cw_ret ?_
            refine blkK_r ?_
            refine seqK_r ?_
            refine fnK_r (res1 rfl (rv_t (v := .bool _) rfl)) (.refl _) ?_
            first | (simp [spareR, *]; done) | (simp [spareR, *]; omega) | (exfalso; omega)

theorem reply_mail (H : Hp) (m : Mail) (m_head_a : Option Addr) (m_head_c : Nat) (m_head_h : SlH pairE 4 H (.slice m_head_a m.head.length m_head_c) m.head) (m_w : Mail.wf m) (hML : GInt H 2) : Pr Tryd.prog 55 #[.agg (Mail.cells m m_head_a m_head_c).toArray] H (.int .i64 (mailE m)) := by
  refine pr_cw Tryd.func55 rfl Tryd.ntmps55 rfl (fun N => ?_)
  have m_w' := m_w
  simp only [Mail.wf] at m_w'
  refine cw_seq ?_
  refine cw_region ?_
  refine ow1 (op1_box (cs := [_, _, _, _, _, _, _]) 0 rfl rfl (fun b1 => ?_))
  refine ow1 (op1_l rfl (lo_assign (v := .int _ _) rfl) ?_)
  refine ow_nil ?_
  refine seqK_n ?_
  refine cw_seq ?_
  refine cw_region ?_
  refine ow1 (op1_l rfl (lo_fieldAddr rfl fl25_1) ?_)
  refine ow1 (op1_l rfl (lo_load1 (i := 0) (v := str _) rfl ag9 rfl rfl) ?_)
  refine ow1 (op1_pr (words_Name _ m.shop (by first | omega | decide | (simp; done))) (en_f cb54 rfl) rfl ?_)
  refine ow1 (op1_l rfl (lo_assign (v := .int _ _) rfl) ?_)
  refine ow_nil ?_
  refine seqK_n ?_
  refine cw_seq ?_
  refine cw_seq ?_
  refine cw_region ?_
  refine ow1 (op1_l rfl (lo_move (v := .int _ _) rfl) ?_)
  refine ow1 (op1_l rfl (lo_eql rfl rfl) ?_)
  refine ow_nil ?_
  refine seqK_n ?_
  refine cw_cond rfl (fun h2 => ?_) (fun h2 => ?_)
  · have p3 := dt h2
    refine cw_region ?_
    refine ow1 (op1_l rfl (lo_fieldAddr rfl fl25_2) ?_)
    refine ow1 (op1_l rfl (lo_load1 (i := 0) (v := str _) rfl ag9 rfl rfl) ?_)
    refine ow1 (op1_pr (words_Key _ m.key hML) (en_f cb83 rfl) rfl ?_)
    refine ow1 (op1_l rfl (lo_assign (v := .int _ _) rfl) ?_)
    refine ow_nil ?_
    refine seqK_n ?_
    refine cw_seq ?_
    refine cw_seq ?_
    refine cw_region ?_
    refine ow1 (op1_l rfl (lo_move (v := .int _ _) rfl) ?_)
    refine ow1 (op1_l rfl (lo_eql rfl rfl) ?_)
    refine ow_nil ?_
    refine seqK_n ?_
    refine cw_cond rfl (fun h4 => ?_) (fun h4 => ?_)
    · have p5 := dt h4
      refine cw_region ?_
      refine ow1 (op1_l rfl (lo_fieldAddr rfl fl25_3) ?_)
      refine ow1 (op1_l rfl (lo_load1 (i := 0) (v := .slice _ _ _) rfl ag23 rfl rfl) ?_)
      refine ow1 (op1_pr (head_Check _ m_head_a m.head.length m_head_c m.head m_head_h (by first | omega | (simp <;> omega))) (en_f cb78 rfl) rfl ?_)
      refine ow1 (op1_l rfl (lo_assign (v := .int _ _) rfl) ?_)
      refine ow_nil ?_
      refine seqK_n ?_
      refine cw_seq ?_
      refine cw_seq ?_
      refine cw_region ?_
      refine ow1 (op1_l rfl (lo_move (v := .int _ _) rfl) ?_)
      refine ow1 (op1_l rfl (lo_eql rfl rfl) ?_)
      refine ow1 (op1_l rfl (lo_move (v := .bool _) rfl) ?_)
      refine ow_sp (j := 2) rfl (fun h6 => ?_) (fun h6 => ?_)
      · have p7 := dt h6
        refine ow1 (op1_g rfl h6 rfl (lo_fieldAddr rfl fl25_4) ?_)
        refine ow1 (op1_g rfl h6 rfl (lo_load1 (i := 0) (v := str _) rfl ag9 rfl rfl) ?_)
        refine ow1 (op1_g rfl h6 rfl (lo_len_str rfl Tryd.underlying9) ?_)
        refine ow1 (op1_g rfl h6 rfl (lo_gtr rfl rfl) ?_)
        refine ow1 (op1_l rfl (lo_pick_t (v := .bool _) rfl h6 rfl) ?_)
        refine ow_nil ?_
        refine seqK_n ?_
        refine cw_cond rfl (fun h8 => ?_) (fun h8 => ?_)
        · have p9 := dt h8
          refine cw_region ?_
          refine ow1 (op1_l rfl (lo_assign (v := .int _ _) rfl) ?_)
          refine ow_nil ?_
          refine seqK_n ?_
          refine cw_seq ?_
          refine cw_region ?_
          refine ow1 (op1_l rfl (lo_move (v := .int _ _) rfl) ?_)
          refine ow1 (op1_l rfl (lo_assign (v := .int _ _) rfl) ?_)
          refine ow_nil ?_
          refine seqK_n ?_
          refine cw_ret ?_
          refine fnK_r (res1 rfl (rv_t (v := .int _ _) rfl)) (.refl _) ?_
          first | (simp [mailE, *]; done) | (simp [mailE, *]; omega)
        · have p10 := df h8
          refine cw_skip ?_
          refine seqK_n ?_
          refine cw_seq ?_
          refine cw_region ?_
          refine ow1 (op1_l rfl (lo_move (v := .int _ _) rfl) ?_)
          refine ow1 (op1_l rfl (lo_assign (v := .int _ _) rfl) ?_)
          refine ow_nil ?_
          refine seqK_n ?_
          refine cw_ret ?_
          refine fnK_r (res1 rfl (rv_t (v := .int _ _) rfl)) (.refl _) ?_
          first | (simp [mailE, *]; done) | (simp [mailE, *]; omega)
      · have p11 := df h6
        refine ow1 (op1_gs rfl h6 rfl ?_)
        refine ow1 (op1_gs rfl h6 rfl ?_)
        refine ow1 (op1_gs rfl h6 rfl ?_)
        refine ow1 (op1_gs rfl h6 rfl ?_)
        refine ow1 (op1_l rfl (lo_pick_f (v := .bool _) rfl h6 rfl) ?_)
        refine ow_nil ?_
        refine seqK_n ?_
        refine cw_cond_f rfl rfl ?_
        refine cw_skip ?_
        refine seqK_n ?_
        refine cw_seq ?_
        refine cw_region ?_
        refine ow1 (op1_l rfl (lo_move (v := .int _ _) rfl) ?_)
        refine ow1 (op1_l rfl (lo_assign (v := .int _ _) rfl) ?_)
        refine ow_nil ?_
        refine seqK_n ?_
        refine cw_ret ?_
        refine fnK_r (res1 rfl (rv_t (v := .int _ _) rfl)) (.refl _) ?_
        first | (simp [mailE, *]; done) | (simp [mailE, *]; omega)
    · have p12 := df h4
      refine cw_skip ?_
      refine seqK_n ?_
      refine cw_seq ?_
      refine cw_seq ?_
      refine cw_region ?_
      refine ow1 (op1_l rfl (lo_move (v := .int _ _) rfl) ?_)
      refine ow1 (op1_l rfl (lo_eql rfl rfl) ?_)
      refine ow1 (op1_l rfl (lo_move (v := .bool _) rfl) ?_)
      refine ow1 (op1_gs rfl h4 rfl ?_)
      refine ow1 (op1_gs rfl h4 rfl ?_)
      refine ow1 (op1_gs rfl h4 rfl ?_)
      refine ow1 (op1_gs rfl h4 rfl ?_)
      refine ow1 (op1_l rfl (lo_pick_f (v := .bool _) rfl h4 rfl) ?_)
      refine ow_nil ?_
      refine seqK_n ?_
      refine cw_cond_f rfl rfl ?_
      refine cw_skip ?_
      refine seqK_n ?_
      refine cw_seq ?_
      refine cw_region ?_
      refine ow1 (op1_l rfl (lo_move (v := .int _ _) rfl) ?_)
      refine ow1 (op1_l rfl (lo_assign (v := .int _ _) rfl) ?_)
      refine ow_nil ?_
      refine seqK_n ?_
      refine cw_ret ?_
      refine fnK_r (res1 rfl (rv_t (v := .int _ _) rfl)) (.refl _) ?_
      first | (simp [mailE, *]; done) | (simp [mailE, *]; omega)
  · have p13 := df h2
    refine cw_skip ?_
    refine seqK_n ?_
    refine cw_seq ?_
    refine cw_seq ?_
    refine cw_region ?_
    refine ow1 (op1_l rfl (lo_move (v := .int _ _) rfl) ?_)
    refine ow1 (op1_l rfl (lo_eql rfl rfl) ?_)
    refine ow_nil ?_
    refine seqK_n ?_
    refine cw_cond_f rfl h2 ?_
    refine cw_skip ?_
    refine seqK_n ?_
    refine cw_seq ?_
    refine cw_seq ?_
    refine cw_region ?_
    refine ow1 (op1_l rfl (lo_move (v := .int _ _) rfl) ?_)
    refine ow1 (op1_l rfl (lo_eql rfl rfl) ?_)
    refine ow1 (op1_l rfl (lo_move (v := .bool _) rfl) ?_)
    refine ow1 (op1_gs rfl h2 rfl ?_)
    refine ow1 (op1_gs rfl h2 rfl ?_)
    refine ow1 (op1_gs rfl h2 rfl ?_)
    refine ow1 (op1_gs rfl h2 rfl ?_)
    refine ow1 (op1_l rfl (lo_pick_f (v := .bool _) rfl h2 rfl) ?_)
    refine ow_nil ?_
    refine seqK_n ?_
    refine cw_cond_f rfl rfl ?_
    refine cw_skip ?_
    refine seqK_n ?_
    refine cw_seq ?_
    refine cw_region ?_
    refine ow1 (op1_l rfl (lo_move (v := .int _ _) rfl) ?_)
    refine ow1 (op1_l rfl (lo_assign (v := .int _ _) rfl) ?_)
    refine ow_nil ?_
    refine seqK_n ?_
    refine cw_ret ?_
    refine fnK_r (res1 rfl (rv_t (v := .int _ _) rfl)) (.refl _) ?_
    first | (simp [mailE, *]; done) | (simp [mailE, *]; omega)

theorem reply_Check (H : Hp) (r : Reply) (r_mail_head_a : Option Addr) (r_mail_head_c : Nat) (r_mail_head_h : SlH pairE 4 H (.slice r_mail_head_a r.mail.head.length r_mail_head_c) r.mail.head) (r_w : Reply.wf r) (hML : GInt H 2) : Pr Tryd.prog 18 #[.agg (Reply.cells r r_mail_head_a r_mail_head_c).toArray] H (.int .i64 (replyE r)) := by
  refine pr_cw Tryd.func18 rfl Tryd.ntmps18 rfl (fun N => ?_)
  have r_w' := r_w
  simp only [Reply.wf, Mail.wf] at r_w'
  refine cw_seq ?_
  refine cw_region ?_
  refine ow1 (op1_box (cs := [_, _, _, _, _, _, _, _, _, _, _, _, _]) 0 rfl rfl (fun b1 => ?_))
  refine ow1 (op1_l rfl (lo_assign (v := .int _ _) rfl) ?_)
  refine ow_nil ?_
  refine seqK_n ?_
  refine cw_seq ?_
  refine cw_block ?_
  refine cw_seq ?_
  refine cw_region ?_
  refine ow1 (op1_l rfl (lo_fieldAddr rfl fl27_1) ?_)
  refine ow1 (op1_l rfl (lo_load1 (i := 0) (v := .int _ _) rfl ag5 rfl rfl) ?_)
  refine ow1 (op1_l rfl (lo_gtr rfl rfl) ?_)
  refine ow1 (op1_l rfl (lo_assign (v := .bool _) rfl) ?_)
  refine ow_nil ?_
  refine seqK_n ?_
  refine cw_cond rfl (fun h2 => ?_) (fun h2 => ?_)
  · have p3 := dt h2
    refine cw_seq ?_
    refine cw_region ?_
    refine ow1 (op1_l rfl (lo_assign (v := .int _ _) rfl) ?_)
    refine ow_nil ?_
    refine seqK_n ?_
    refine cw_ret ?_
    refine blkK_r ?_
    refine seqK_r ?_
    refine fnK_r (res1 rfl (rv_t (v := .int _ _) rfl)) (.refl _) ?_
    first | (simp [replyE, *]; done) | (simp [replyE, *]; omega)
  · have p4 := df h2
    refine cw_seq ?_
    refine cw_region ?_
    refine ow1 (op1_l rfl (lo_loadA (i := 0) (vs := [_, _, _, _, _, _, _, _, _, _, _, _, _]) rfl ag27 sz27 rfl rfl rfl) ?_)
    refine ow1 (op1_pr (reply_spare _ r r_mail_head_a r_mail_head_c r_mail_head_h r_w) (en_f cb53 rfl) rfl ?_)
    refine ow1 (op1_l rfl (lo_assign (v := .bool _) rfl) ?_)
    refine ow_nil ?_
    refine seqK_n ?_
    refine cw_cond rfl (fun h5 => ?_) (fun h5 => ?_)
    · refine cw_seq ?_
      refine cw_region ?_
      refine ow1 (op1_l rfl (lo_assign (v := .int _ _) rfl) ?_)
      refine ow_nil ?_
      refine seqK_n ?_
      refine cw_ret ?_
      refine blkK_r ?_
      refine seqK_r ?_
      refine fnK_r (res1 rfl (rv_t (v := .int _ _) rfl)) (.refl _) ?_
      first | (simp [replyE, *]; done) | (simp [replyE, *]; omega)
    · refine cw_seq ?_
      refine cw_region ?_
      refine ow1 (op1_l rfl (lo_fieldAddr rfl fl27_1) ?_)
      refine ow1 (op1_l rfl (lo_load1 (i := 0) (v := .int _ _) rfl ag5 rfl rfl) ?_)
      refine ow1 (op1_l rfl (lo_eql rfl rfl) ?_)
      refine ow1 (op1_l rfl (lo_assign (v := .bool _) rfl) ?_)
      refine ow_nil ?_
      refine seqK_n ?_
      refine cw_cond rfl (fun h6 => ?_) (fun h6 => ?_)
      · have p7 := dt h6
        refine cw_seq ?_
        refine cw_region ?_
        refine ow1 (op1_l rfl (lo_fieldAddr rfl fl27_5) ?_)
        refine ow1 (op1_l rfl (lo_load1 (i := 0) (v := str _) rfl ag9 rfl rfl) ?_)
        refine ow1 (op1_pr (words_Name _ r.name (by first | omega | decide | (simp; done))) (en_f cb54 rfl) rfl ?_)
        refine ow1 (op1_l rfl (lo_assign (v := .int _ _) rfl) ?_)
        refine ow_nil ?_
        refine seqK_n ?_
        refine cw_ret ?_
        refine blkK_r ?_
        refine seqK_r ?_
        refine fnK_r (res1 rfl (rv_t (v := .int _ _) rfl)) (.refl _) ?_
        first | (simp [replyE, *]; done) | (simp [replyE, *]; omega)
      · have p8 := df h6
        refine cw_seq ?_
        refine cw_region ?_
        refine ow1 (op1_l rfl (lo_fieldAddr rfl fl27_1) ?_)
        refine ow1 (op1_l rfl (lo_load1 (i := 0) (v := .int _ _) rfl ag5 rfl rfl) ?_)
        refine ow1 (op1_l rfl (lo_eql rfl rfl) ?_)
        refine ow1 (op1_l rfl (lo_assign (v := .bool _) rfl) ?_)
        refine ow_nil ?_
        refine seqK_n ?_
        refine cw_cond rfl (fun h9 => ?_) (fun h9 => ?_)
        · have p10 := dt h9
          refine cw_seq ?_
          refine cw_region ?_
          refine ow1 (op1_l rfl (lo_fieldAddr rfl fl27_6) ?_)
          refine ow1 (op1_l rfl (lo_loadA (i := 0) (vs := [_, _, _, _, _, _, _]) rfl ag25 sz25 rfl rfl rfl) ?_)
          refine ow1 (op1_pr (reply_mail _ r.mail r_mail_head_a r_mail_head_c r_mail_head_h (by simp only [Mail.wf]; first | omega | (simp; done) | (simp; omega)) hML) (en_f cb55 rfl) rfl ?_)
          refine ow1 (op1_l rfl (lo_assign (v := .int _ _) rfl) ?_)
          refine ow_nil ?_
          refine seqK_n ?_
          refine cw_ret ?_
          refine blkK_r ?_
          refine seqK_r ?_
          refine fnK_r (res1 rfl (rv_t (v := .int _ _) rfl)) (.refl _) ?_
          first | (simp [replyE, *]; done) | (simp [replyE, *]; omega)
        · have p11 := df h9
          refine cw_skip ?_
          refine blkK_n ?_
          refine seqK_n ?_
          refine cw_seq ?_
          refine cw_region ?_
          refine ow1 (op1_l rfl (lo_assign (v := .int _ _) rfl) ?_)
          refine ow_nil ?_
          refine seqK_n ?_
          refine cw_ret ?_
          refine fnK_r (res1 rfl (rv_t (v := .int _ _) rfl)) (.refl _) ?_
          first | (simp [replyE, *]; done) | (simp [replyE, *]; omega)

end Go.SW


set_option linter.unusedVariables false
set_option maxRecDepth 100000
namespace Go.SW
open Go.Proofs
theorem ag135 : Ag Tryd.prog 135 false := fun w => by kernel_rfl
theorem cb124 : Callable Tryd.prog 124 := callable_of Tryd.func124 (by kernel_rfl) (by kernel_rfl)
theorem sz135 : Sz Tryd.prog 135 1 := fun w => by kernel_rfl

theorem crc_Step (H : Hp) (r : Int) (r_r : 0 ≤ r ∧ r ≤ 4294967295) (b : Int) (b_r : 0 ≤ b ∧ b ≤ 255) (hCrc : GTab H 1 laidT) : Pr Tryd.prog 124 #[.int .u32 r, .int .u8 b] H (.int .u32 (crcStep r b)) := by
  refine pr_cw Tryd.func124 rfl Tryd.ntmps124 rfl (fun N => ?_)
  obtain ⟨T0, fr0, hT0⟩ := hCrc
  refine cw_seq ?_
  refine cw_region ?_
  refine ow1 (op1_l rfl (lo_assign (v := .int _ _) rfl) ?_)
  refine ow_nil ?_
  refine seqK_n ?_
  refine cw_seq ?_
  refine cw_region ?_
  refine ow1 (op1_l rfl (lo_move (v := .int _ _) rfl) ?_)
  refine ow1 (op1_l rfl (lo_move (v := .int _ _) rfl) ?_)
  refine ow1 (op1_l rfl (lo_conv_in rfl (by rw [Tryd.underlying5]; rfl) Tryd.underlying135 (rg_u32 (by omega))) ?_)
  have := wr_u32 ((BitVec.ofInt (IntKind.bits .u32) r ^^^ BitVec.ofInt (IntKind.bits .u32) b).toNat)
  refine ow1 (op1_l rfl (lo_xor rfl rfl) ?_)
  refine ow1 (op1_l rfl (lo_assign (v := .int _ _) rfl) ?_)
  refine ow_nil ?_
  refine seqK_n ?_
  refine cw_seq ?_
  refine cw_seq ?_
  refine cw_region ?_
  refine ow1 (op1_l rfl (lo_move (v := .int _ _) rfl) ?_)
  refine ow_nil ?_
  refine seqK_n ?_
  refine cw_block ?_
  refine cw_loop2 [0, 9, 10, 11, 12, 13, 14, 15, 16, 17, 18] [] (fun (k : Nat) (q : Int) G => upd (upd (G) 0 (.int .u32 q)) 9 (.int .i64 (k : Int))) (fun (k : Nat) (q : Int) G => G) (fun (k : Nat) (q : Int) H' => k ≤ 2 ∧ crcIt (2 - k) q = crcStep r b) (fun (k : Nat) (q : Int) => 2 - k) 0 (xor32 r b) (upd_intro (upd_intro (mask_intro (by first | exact off_refl | (repeat (first | exact off_mask | refine off_upd rfl ?_ | refine off_mask2 rfl ?_)))) rfl) rfl) (lmask_intro offl_refl) ?_ ?_
  · exact ⟨Nat.zero_le _, rfl⟩
  · intro k q J2 JL2 H2 hp1 hl2
    obtain ⟨hk1, hk2⟩ := hp1
    refine cw_seq ?_
    refine cw_region ?_
    refine ow1 (op1_l rfl (lo_lss rfl rfl) ?_)
    refine ow_nil ?_
    refine seqK_n ?_
    refine cw_seq ?_
    refine cw_cond rfl (fun h3 => ?_) (fun h3 => ?_)
    · have p4 := dt h3
      refine cw_skip ?_
      refine seqK_n ?_
      refine cw_seq ?_
      refine cw_block ?_
      refine cw_region ?_
      refine ow1 (op1_l rfl (lo_move (v := .int _ _) rfl) ?_)
      refine ow1 (op1_l rfl (lo_shr rfl rfl (by omega)) ?_)
      refine ow1 (op1_l rfl (lo_move (v := .int _ _) rfl) ?_)
      have := wr_u32 ((BitVec.ofInt (IntKind.bits .u32) q &&& BitVec.ofInt (IntKind.bits .u32) 15).toNat)
      refine ow1 (op1_l rfl (lo_and rfl rfl) ?_)
      refine ow1 (op1_l rfl (lo_gidx (m := ((IntKind.wrap .u32 ((BitVec.ofInt (IntKind.bits .u32) q &&& BitVec.ofInt (IntKind.bits .u32) 15).toNat))).toNat) rfl Tryd.underlying164 sz135 (by omega) (and15_lt _)) ?_)
      refine ow1 (op1_l rfl (lo_loadH rfl ag135 (((HLe.refl _).trans hl2) _ _ hT0) (tab_get (and15_lt _))) ?_)
      have := wr_u32 ((BitVec.ofInt (IntKind.bits .u32) (Int.fdiv q (2 ^ (min (4 : Int).toNat (IntKind.bits .u32)))) ^^^ BitVec.ofInt (IntKind.bits .u32) (laidT.getD ((IntKind.wrap .u32 ((BitVec.ofInt (IntKind.bits .u32) q &&& BitVec.ofInt (IntKind.bits .u32) 15).toNat))).toNat 0)).toNat)
      refine ow1 (op1_l rfl (lo_xor rfl rfl) ?_)
      refine ow1 (op1_l rfl (lo_assign (v := .int _ _) rfl) ?_)
      refine ow_nil ?_
      refine blkK_n ?_
      refine seqK_n ?_
      refine cw_region ?_
      refine ow1 (op1_l rfl (lo_add rfl rfl (rg_i64 (by omega))) ?_)
      refine ow1 (op1_l rfl (lo_move (v := .int _ _) rfl) ?_)
      refine ow_nil ?_
      refine next2 (k + 1) (crc1 q) (upd_intro (upd_intro (mask_intro (by first | exact off_refl | (repeat (first | exact off_mask | refine off_upd rfl ?_ | refine off_mask2 rfl ?_)))) rfl) rfl) (lmask_intro (by first | exact offl_refl | (repeat (first | exact offl_mask | refine offl_upd rfl ?_ | refine offl_mask2 rfl ?_)))) hl2 ?_ ?_
      · refine ⟨by omega, ?_⟩
        rw [← hk2, show 2 - k = (2 - (k + 1)) + 1 by omega]
        rfl
      · omega
    · have p5 := df h3
      refine cw_exit ?_
      refine seqK_e ?_
      refine loopK_e ?_
      refine blkK_hit ?_
      refine seqK_n ?_
      refine cw_seq ?_
      refine cw_region ?_
      refine ow1 (op1_l rfl (lo_move (v := .int _ _) rfl) ?_)
      refine ow1 (op1_l rfl (lo_assign (v := .int _ _) rfl) ?_)
      refine ow_nil ?_
      refine seqK_n ?_
      refine cw_ret ?_
      refine fnK_r (res1 rfl (rv_t (v := .int _ _) rfl)) ((HLe.refl _).trans hl2) ?_
      obtain rfl : k = 2 := by omega
      exact congrArg (Value.int .u32) hk2

theorem crc_Sum (H : Hp) (parts_a : Option Addr) (parts_l parts_c : Nat) (parts : List Bs) (parts_h : SlH strE 1 H (.slice parts_a parts_l parts_c) parts) (hCrc : GTab H 1 laidT) (hpl : parts.length ≤ 4611686018427387904) : Pr Tryd.prog 107 #[.slice parts_a parts_l parts_c] H (.int .u32 (crcSum parts)) := by
  refine pr_cw Tryd.func107 rfl Tryd.ntmps107 rfl (fun N => ?_)
  refine cw_seq ?_
  refine cw_region ?_
  refine ow1 (op1_l rfl (lo_assign (v := .int _ _) rfl) ?_)
  refine ow_nil ?_
  refine seqK_n ?_
  refine cw_seq ?_
  refine cw_region ?_
  refine ow1 (op1_l rfl (lo_assign (v := .int _ _) rfl) ?_)
  refine ow_nil ?_
  refine seqK_n ?_
  refine cw_seq ?_
  refine cw_seq ?_
  refine cw_region ?_
  refine ow1 (op1_l rfl (lo_move (v := .slice _ _ _) rfl) ?_)
  refine ow1 (op1_l rfl (lo_len_slh rfl parts_h Tryd.underlying108) ?_)
  refine ow1 (op1_l rfl (lo_move (v := .int _ _) rfl) ?_)
  refine ow_nil ?_
  refine seqK_n ?_
  refine cw_block ?_
  refine cw_loop2 [3, 5, 6, 9, 10, 11, 12, 13, 14, 15, 16, 17, 18, 19, 20, 21, 22, 23, 24] [] (fun (k : Nat) (r : Int) G => upd (upd (G) 3 (.int .u32 r)) 9 (.int .i64 (k : Int))) (fun (k : Nat) (r : Int) G => G) (fun (k : Nat) (r : Int) H' => k ≤ parts.length ∧ parts.foldl crcB 4294967295 = (parts.drop k).foldl crcB r ∧ 0 ≤ r ∧ r ≤ 4294967295) (fun (k : Nat) (r : Int) => parts.length - k) 0 4294967295 (upd_intro (upd_intro (mask_intro (by first | exact off_refl | (repeat (first | exact off_mask | refine off_upd rfl ?_ | refine off_mask2 rfl ?_)))) rfl) rfl) (lmask_intro offl_refl) ?_ ?_
  · exact ⟨Nat.zero_le _, rfl, by omega, by omega⟩
  · intro k r J2 JL2 H2 hp1 hl2
    obtain ⟨hk1, hk2, hk3, hk4⟩ := hp1
    refine cw_seq ?_
    refine cw_region ?_
    refine ow1 (op1_l rfl (lo_lss rfl rfl) ?_)
    refine ow_nil ?_
    refine seqK_n ?_
    refine cw_seq ?_
    refine cw_cond rfl (fun h3 => ?_) (fun h3 => ?_)
    · have p4 := dt h3
      refine cw_skip ?_
      refine seqK_n ?_
      refine cw_seq ?_
      refine cw_block ?_
      refine cw_seq ?_
      refine cw_region ?_
      obtain ⟨c5, hc6⟩ := getE (xs := parts) (m := k) (by omega)
      obtain ⟨cs7, hE8, at9⟩ := (parts_h.mono ((HLe.refl _).trans hl2) (fun _ _ h => h)).get hc6
      obtain ⟨rfl, c5_w⟩ := hE8
      have c5_w : c5.length ≤ 9223372036854775807 := c5_w
      refine ow1 (op1_l rfl (lo_indexAddr rfl rfl (parts_h.mono ((HLe.refl _).trans hl2) (fun _ _ h => h)).1 at9 Tryd.underlying108 sz9 (by omega) (by omega)) ?_)
      refine ow1 (op1_l rfl (lo_loadE1 rfl ag9 at9) ?_)
      refine ow1 (op1_l rfl (lo_assign (v := str _) rfl) ?_)
      refine ow_nil ?_
      refine seqK_n ?_
      refine cw_seq ?_
      refine cw_region ?_
      refine ow1 (op1_l rfl (lo_move (v := str _) rfl) ?_)
      refine ow1 (op1_l rfl (lo_len_str rfl Tryd.underlying9) ?_)
      refine ow1 (op1_l rfl (lo_move (v := .int _ _) rfl) ?_)
      refine ow_nil ?_
      refine seqK_n ?_
      refine cw_block ?_
      refine cw_loop2 [3, 6, 15, 16, 17, 18, 19, 20, 21, 22, 23] [] (fun (j : Nat) (q : Int) G => upd (upd (G) 3 (.int .u32 q)) 15 (.int .i64 (j : Int))) (fun (j : Nat) (q : Int) G => G) (fun (j : Nat) (q : Int) H' => j ≤ c5.length ∧ c5.foldl (fun q c => crcStep q c.toNat) r = (c5.drop j).foldl (fun q c => crcStep q c.toNat) q ∧ 0 ≤ q ∧ q ≤ 4294967295) (fun (j : Nat) (q : Int) => c5.length - j) 0 r (upd_intro (upd_intro (mask_intro (by first | exact off_refl | (repeat (first | exact off_mask | refine off_upd rfl ?_ | refine off_mask2 rfl ?_)))) rfl) rfl) (lmask_intro offl_refl) ?_ ?_
      · exact ⟨Nat.zero_le _, rfl, by omega, by omega⟩
      · intro j q J11 JL11 H11 hp10 hl11
        obtain ⟨hj1, hj2, hj3, hj4⟩ := hp10
        refine cw_seq ?_
        refine cw_region ?_
        refine ow1 (op1_l rfl (lo_lss rfl rfl) ?_)
        refine ow_nil ?_
        refine seqK_n ?_
        refine cw_seq ?_
        refine cw_cond rfl (fun h12 => ?_) (fun h12 => ?_)
        · have p13 := dt h12
          refine cw_skip ?_
          refine seqK_n ?_
          refine cw_seq ?_
          refine cw_block ?_
          refine cw_seq ?_
          refine cw_region ?_
          refine ow1 (op1_l rfl (lo_move (v := .int _ _) rfl) ?_)
          refine ow1 (op1_l rfl (lo_assign (v := .int _ _) rfl) ?_)
          refine ow_nil ?_
          refine seqK_n ?_
          refine cw_region ?_
          refine ow1 (op1_l rfl (lo_move (v := .int _ _) rfl) ?_)
          refine ow1 (op1_l rfl (lo_move (v := str _) rfl) ?_)
          refine ow1 (op1_l rfl (lo_move (v := .int _ _) rfl) ?_)
          have := u8r (c5.getD j 0)
          refine ow1 (op1_l rfl (lo_index_str j rfl rfl Tryd.underlying9 (by omega) (by omega)) ?_)
          refine ow1 (op1_pr (crc_Step _ q (by omega) ((c5.getD j 0).toNat : Int) (by omega) (hCrc.mono (((HLe.refl _).trans hl2).trans hl11))) (en_f cb124 rfl) rfl ?_)
          have := crcStep_r q ((c5.getD j 0).toNat : Int)
          refine ow1 (op1_l rfl (lo_assign (v := .int _ _) rfl) ?_)
          refine ow_nil ?_
          refine blkK_n ?_
          refine seqK_n ?_
          refine cw_region ?_
          refine ow1 (op1_l rfl (lo_add rfl rfl (rg_i64 (by omega))) ?_)
          refine ow1 (op1_l rfl (lo_move (v := .int _ _) rfl) ?_)
          refine ow_nil ?_
          refine next2 (j + 1) (crcStep q (c5.getD j 0).toNat) (upd_intro (upd_intro (mask_intro (by first | exact off_refl | (repeat (first | exact off_mask | refine off_upd rfl ?_ | refine off_mask2 rfl ?_)))) rfl) rfl) (lmask_intro (by first | exact offl_refl | (repeat (first | exact offl_mask | refine offl_upd rfl ?_ | refine offl_mask2 rfl ?_)))) hl11 ?_ ?_
          · refine ⟨by omega, ?_, by omega, by omega⟩
            rw [hj2, drop_getD (k := j) (by omega), List.foldl_cons]
          · omega
        · have p14 := df h12
          refine cw_exit ?_
          refine seqK_e ?_
          refine loopK_e ?_
          refine blkK_hit ?_
          refine blkK_n ?_
          refine seqK_n ?_
          refine cw_region ?_
          refine ow1 (op1_l rfl (lo_add rfl rfl (rg_i64 (by omega))) ?_)
          refine ow1 (op1_l rfl (lo_move (v := .int _ _) rfl) ?_)
          refine ow_nil ?_
          refine next2 (k + 1) q (upd_intro (upd_intro (mask_intro (by first | exact off_refl | (repeat (first | exact off_mask | refine off_upd rfl ?_ | refine off_mask2 rfl ?_)))) rfl) rfl) (lmask_intro (by first | exact offl_refl | (repeat (first | exact offl_mask | refine offl_upd rfl ?_ | refine offl_mask2 rfl ?_)))) (hl2.trans hl11) ?_ ?_
          · refine ⟨by omega, ?_, by omega, by omega⟩
            rw [hk2, dropE hc6, List.foldl_cons]
            rw [List.drop_of_length_le (by omega), List.foldl_nil] at hj2
            rw [show crcB r c5 = q from hj2]
          · omega
    · have p15 := df h3
      refine cw_exit ?_
      refine seqK_e ?_
      refine loopK_e ?_
      refine blkK_hit ?_
      refine seqK_n ?_
      refine cw_seq ?_
      refine cw_region ?_
      refine ow1 (op1_l rfl (lo_move (v := .int _ _) rfl) ?_)
      refine ow1 (op1_l rfl (lo_com rfl rfl) ?_)
      refine ow1 (op1_l rfl (lo_assign (v := .int _ _) rfl) ?_)
      refine ow_nil ?_
      refine seqK_n ?_
      refine cw_ret ?_
      refine fnK_r (res1 rfl (rv_t (v := .int _ _) rfl)) ((HLe.refl _).trans hl2) ?_
      rw [List.drop_of_length_le (by omega), List.foldl_nil] at hk2
      unfold crcSum
      rw [hk2]

end Go.SW
