/-
  A part of the proof of DeedSame: Replies that are read, in plain Lean; what is read would be written so; what is written is read again. What the document's reader holds is the program's, seen otherwise. Heads: what is read would be written so; what is written is read again. Structs held against each other, field by field. Over any program; no condition but that no field is an interface, and that no stand-in holds the type. What is owned is lent to a call that reads alone, and owned again behind it. Over any program; no condition. Loops with more ghosts (printed by program). Over any program; no condition. Lists held against each other; records that are the same; what is gone through, in plain Lean. Replies: what is read would be written so; what is written is read again. Frames: what is written is read again, behind whatever; a beginning of a frame is too short; bytes of frames that come in two pieces are those frames. What the document's reader does, told of what it stands for; names, keys, heads by the document. What the document says of keys, pairs, heads and replies, in plain Lean, and that it is what the program does. Heads that are read, more: what is read is a pair, or a head; what reads behind an error. Ranging over a text of plain bytes; package variables that hold lists of texts; library calls that only make new blocks. Over any program; no condition. What the functions of the layers 10 and 11 compute, in plain Lean: rules, methods. What the functions of the layers 13 and 26 (lives) compute, in plain Lean. What the small functions of layer 22 compute, in plain Lean. Exchanges, queues, bindings, deeds. What a deed's kind tells. What is wrong with a deed first, in plain Lean. A message's and a deed's bytes, and what is read of bytes, in plain Lean. The bytes of a message and of a deed, both ways, in plain Lean. What is small is gone through: aids for the document's bytes. Which messages and deeds are gone through. Lists of elements that hold slices of their own: what is owned of them, what is read of them. Over any program; no condition. More rules: a part of an element, slices that are made, cut to nothing, copied. Over any program; each asks that the operands are what it names, and that the sizes fit. Records, printed by program: their cells, and what is read of them. Places in lists; books of exchanges, in plain Lean. The library's contract of strings.ContainsAny, laid at this seat (printed by the kit's lay-plain.mjs), and turned to this work's ground: texts of plain bytes. The library's contract of strings.Split, laid at this seat (printed by the kit's lay-plain.mjs), and turned to this work's ground: a text split at its dots. It asks that the package variable internal/bytealg.MaxLen holds an int. The walks of this seat, printed by program: stairwellref04.letter, words.plain, strings.Builder.copyCheck, octet.New, octet.In.Fail, octet.In.Raw, octet.In.Left, octet.In.Err, octet.In.End. The walks of this seat, printed by program: octet.In.Num, octet.In.Text.
-/
import Derived.Test.YtdjkbpmciibafaaGreatDoorDeedSameP1
import Derived.Laws.StructEq
import Derived.Below
import Derived.Laws.RangeString
import Derived.Lib.OthersKept
import Derived.Lib.IndexAny
import Derived.Shelf.LaysM
import Derived.Shelf.Strings.IndexAnyAll
import Derived.Test.YtdjkbpmciibafaaGreatDoorProg
import Derived.Shelf.Strings.Split
import Derived.KernelRfl
set_option linter.unusedVariables false
set_option linter.unusedSimpArgs false

namespace Go.SW

def Mail.zero : Mail := ⟨0, [], [], [], [], 0, 0⟩
def Reply.zero : Reply := ⟨0, 0, 0, 0, false, [], Mail.zero⟩
/-- What a message that is sent tells. -/
def sentRead (i : In) : (Bool × Mail) × In :=
  let y := inNum i 1
  let shop := inText (if 1 < y.1 then inFail y.2 4 else y.2) 16
  let key := inText shop.2 64
  let head := headRead key.2
  let body := inText head.2 256
  ((decide (y.1 = 1), ⟨0, shop.1, key.1, head.1, body.1, 0, 0⟩), body.2)
def replyRead (c k : Int) (i : In) : Reply × In :=
  if k = 0 then (⟨c, k, 0, 0, false, (inText i 16).1, Mail.zero⟩, (inText i 16).2)
  else if k = 2 ∨ k = 5 ∨ k = 7 then (⟨c, k, (inNum i 8).1, 0, false, [], Mail.zero⟩, (inNum i 8).2)
  else if k = 6 then (⟨c, k, (inNum i 8).1, (inNum (inNum i 8).2 8).1, false, [], Mail.zero⟩, (inNum (inNum i 8).2 8).2)
  else if k = 3 then (⟨c, k, (inNum i 8).1, (inNum (inNum i 8).2 8).1, (sentRead (inNum (inNum i 8).2 8).2).1.1, [], (sentRead (inNum (inNum i 8).2 8).2).1.2⟩, (sentRead (inNum (inNum i 8).2 8).2).2)
  else (⟨c, k, 0, 0, false, [], Mail.zero⟩, i)
def replyOf (f : Frame) : Reply × Int :=
  if f.kind < 64 ∨ 71 < f.kind then (Reply.zero, 8)
  else
    let r := replyRead f.channel (f.kind - 64) ⟨f.body, 0⟩
    let e := if inEnd r.2 = 0 then replyE r.1 else inEnd r.2
    if e ≠ 0 then (Reply.zero, e) else (r.1, 0)

/-! What the document's reader holds -/
structure RIn where
  s : Bs
  pos : Int
  code : Int
def RIn.cells (i : RIn) : List Value := [str i.s, .int .i64 i.pos, .int .i64 i.code]
structure RSt (i : RIn) (I : In) : Prop where
  lo : 0 ≤ i.pos
  hi : i.pos ≤ i.s.length
  len : i.s.length ≤ 9223372036854775807
  err : I.err = i.code
  ok : i.code = 0 → I.s = i.s.drop i.pos.toNat
  bad : i.code ≠ 0 → I.s = []
theorem RSt.new (s : Bs) (h : s.length ≤ 9223372036854775807) : RSt ⟨s, 0, 0⟩ ⟨s, 0⟩ := ⟨Int.le_refl _, by simp, h, rfl, fun _ => by simp, fun h => absurd rfl h⟩
def rFail (i : RIn) (c : Int) : RIn := if i.code = 0 then ⟨i.s, i.pos, c⟩ else i
theorem RSt.fail {i : RIn} {I : In} (h : RSt i I) (c : Int) (hc : c ≠ 0) : RSt (rFail i c) (inFail I c) := by
  unfold rFail inFail
  by_cases e : i.code = 0
  · have : I.err = 0 := by rw [h.err, e]
    rw [if_pos e, if_pos ⟨this, hc⟩]
    exact ⟨h.lo, h.hi, h.len, rfl, fun x => absurd x hc, fun _ => rfl⟩
  · have : ¬ (I.err = 0 ∧ c ≠ 0) := fun x => e (by rw [← h.err]; exact x.1)
    rw [if_neg e, if_neg this]; exact h
theorem RSt.fail0 {i : RIn} {I : In} (h : RSt i I) : RSt (rFail i 0) (inFail I 0) := by
  unfold rFail inFail
  rw [if_neg (show ¬ (I.err = 0 ∧ (0 : Int) ≠ 0) by simp)]
  by_cases e : i.code = 0
  · rw [if_pos e]
    have : (⟨i.s, i.pos, 0⟩ : RIn) = i := by rw [← e]
    rw [this]; exact h
  · rw [if_neg e]; exact h
theorem RSt.failA {i : RIn} {I : In} (h : RSt i I) (c : Int) : RSt (rFail i c) (inFail I c) := by
  by_cases e : c = 0
  · subst e; exact h.fail0
  · exact h.fail c e
end Go.SW


namespace Go.SW

def txtB (s : Bs) : Bs := numB 2 s.length ++ s
def pairB (p : Pair) : Bs := txtB p.key ++ (numB 1 p.kind.toNat ++ (if p.kind = 0 then numB 8 (IntKind.wrap .u64 p.num).toNat else if p.kind = 1 then txtB p.text else numB 1 (IntKind.wrap .u64 p.num).toNat))

theorem outText_s {o : Out} {s : Bs} (h : (s.length : Int) ≤ 65535) : outText o s = ⟨o.s ++ txtB s, o.err⟩ := by
  unfold outText
  rw [if_neg (by omega)]
  have e : numK 2 = 2 := by decide
  simp [outRaw, outNum, e, txtB]
theorem outNum_s {o : Out} {n : Int} {k : Nat} (h : k ≤ 8) : outNum o n k = ⟨o.s ++ numB k n.toNat, o.err⟩ := by
  simp only [outNum, numK]
  rw [show (min (max (k : Int) 0) 8).toNat = k by omega]
theorem outNum1 {o : Out} {n : Int} : outNum o n 1 = ⟨o.s ++ numB 1 n.toNat, o.err⟩ := outNum_s (k := 1) (by omega)
theorem outNum8 {o : Out} {n : Int} : outNum o n 8 = ⟨o.s ++ numB 8 n.toNat, o.err⟩ := outNum_s (k := 8) (by omega)
theorem outNum4 {o : Out} {n : Int} : outNum o n 4 = ⟨o.s ++ numB 4 n.toNat, o.err⟩ := outNum_s (k := 4) (by omega)

theorem pairOut_s {o : Out} {p : Pair} (h : p.key.length ≤ 16 ∧ p.kind ≤ 2 ∧ (p.kind = 1 → p.text.length ≤ 64)) (h0 : 0 ≤ p.kind) : pairOut o p = ⟨o.s ++ pairB p, o.err⟩ := by
  obtain ⟨h1, h2, h3⟩ := h
  have hk : ((p.key.length : Nat) : Int) ≤ 65535 := by omega
  unfold pairOut pairB
  by_cases e0 : p.kind = 0
  · rw [if_pos e0, if_pos e0, outText_s hk, outNum1, outNum8]; simp
  · rw [if_neg e0, if_neg e0]
    by_cases e1 : p.kind = 1
    · have := h3 e1
      rw [if_pos e1, if_pos e1, outText_s hk, outNum1, outText_s (by omega)]; simp
    · rw [if_neg e1, if_neg e1, if_pos (by omega), outText_s hk, outNum1, outNum1]; simp
theorem foldl_pairOut : ∀ {l : List Pair} {o : Out}, (∀ p ∈ l, (p.key.length ≤ 16 ∧ p.kind ≤ 2 ∧ (p.kind = 1 → p.text.length ≤ 64)) ∧ 0 ≤ p.kind) → l.foldl pairOut o = ⟨o.s ++ l.flatMap pairB, o.err⟩
  | [], o, _ => by simp
  | p :: r, o, h => by
    have hp := h p (by simp)
    rw [List.foldl_cons, pairOut_s hp.1 hp.2, foldl_pairOut (fun q hq => h q (by simp [hq]))]
    simp
theorem headBytes_s {h : List Pair} (e : headE h = 0) (h0 : ∀ p ∈ h, 0 ≤ p.kind) : headBytes h = numB 1 h.length ++ h.flatMap pairB := by
  obtain ⟨h1, h2⟩ := headE_ok e
  unfold headBytes headOut
  rw [if_pos e, foldl_pairOut (fun p hp => ⟨h2 p hp, h0 p hp⟩), outNum1]
  simp

theorem wrap_i64u {n : Int} (h0 : 0 ≤ n) (h1 : n ≤ 18446744073709551615) : IntKind.wrap .u64 (IntKind.wrap .i64 n) = n := by
  simp [IntKind.wrap, IntKind.bits, IntKind.signed]; omega
theorem wrap_u64i {n : Int} (h0 : -9223372036854775808 ≤ n) (h1 : n ≤ 9223372036854775807) : IntKind.wrap .i64 (IntKind.wrap .u64 n) = n := by
  simp [IntKind.wrap, IntKind.bits, IntKind.signed]; omega
theorem wrap_i64s {n : Int} (h0 : -9223372036854775808 ≤ n) (h1 : n ≤ 9223372036854775807) : IntKind.wrap .i64 n = n := by
  simp [IntKind.wrap, IntKind.bits, IntKind.signed]; omega

theorem readOne_back {i : In} (h : (readOne i).2.err = 0) : i.err = 0 ∧ i.s = pairB (readOne i).1 ++ (readOne i).2.s ∧ 0 ≤ (readOne i).1.kind := by
  unfold readOne at *
  simp only at *
  have hr := inNum_r (inText i 16).2 1
  by_cases e0 : (inNum (inText i 16).2 1).1 = 0
  · rw [if_pos e0] at h ⊢
    obtain ⟨a1, a2⟩ := inNum_back8 h
    obtain ⟨b1, b2⟩ := inNum_back1 a1
    obtain ⟨c1, c2, c3, c4⟩ := inText_back b1
    refine ⟨c1, ?_, by simp⟩
    rw [c2, b2, a2]
    have hr8 := inNum_r (inNum (inText i 16).2 1).2 8
    simp only [pairB, txtB, if_true]
    rw [e0, wrap_i64u (by omega) (by omega)]
    simp
  · rw [if_neg e0] at h ⊢
    by_cases e1 : (inNum (inText i 16).2 1).1 = 1
    · rw [if_pos e1] at h ⊢
      obtain ⟨a1, a2, _, _⟩ := inText_back h
      obtain ⟨b1, b2⟩ := inNum_back1 a1
      obtain ⟨c1, c2, c3, c4⟩ := inText_back b1
      refine ⟨c1, ?_, by simp⟩
      rw [c2, b2, a2]
      rw [e1]
      simp [pairB, txtB]
    · rw [if_neg e1] at h ⊢
      by_cases e2 : (inNum (inText i 16).2 1).1 = 2
      · rw [if_pos e2] at h ⊢
        obtain ⟨a1, a2⟩ := inNum_back1 h
        obtain ⟨b1, b2⟩ := inNum_back1 a1
        obtain ⟨c1, c2, c3, c4⟩ := inText_back b1
        refine ⟨c1, ?_, by simp⟩
        rw [c2, b2, a2]
        have hr8 := inNum_r (inNum (inText i 16).2 1).2 1
        rw [e2]
        simp only [pairB, txtB]
        rw [if_neg (by decide), if_neg (by decide), wrap_i64u (by omega) (by omega)]
        simp
      · rw [if_neg e2] at h
        exact (inFail_ok (by decide) h).elim

theorem readGo_back : ∀ {k : Nat} {i : In} {h : List Pair}, (readGo k i h).2.err = 0 → i.err = 0 ∧ ∃ r, (readGo k i h).1 = h ++ r ∧ r.length = k ∧ i.s = r.flatMap pairB ++ (readGo k i h).2.s ∧ headGo h r = 0 ∧ ∀ p ∈ r, 0 ≤ p.kind
  | 0, i, h, e => ⟨e, [], by simp [readGo], rfl, by simp [readGo], rfl, fun p hp => by cases hp⟩
  | k + 1, i, h, e => by
    simp only [readGo] at e ⊢
    by_cases e1 : (readOne i).2.err = 0
    · rw [if_pos e1] at e ⊢
      by_cases e2 : pairErr (readOne i).1 h = 0
      · have hf : inFail (readOne i).2 (pairErr (readOne i).1 h) = (readOne i).2 := by unfold inFail; rw [if_neg (by simp [e2])]
        rw [hf] at e ⊢
        rw [if_neg (by simpa using e1)] at e ⊢
        obtain ⟨_, r, r1, r2, r3, r4, r5⟩ := readGo_back e
        obtain ⟨q1, q2, q3⟩ := readOne_back e1
        refine ⟨q1, (readOne i).1 :: r, by rw [r1]; simp, by simp [r2], ?_, ?_, ?_⟩
        · rw [q2, r3]; simp
        · simp only [headGo]; rw [if_neg (by simpa using e2)]; exact r4
        · intro p hp
          rcases List.mem_cons.1 hp with rfl | hp
          · exact q3
          · exact r5 p hp
      · have hf : inFail (readOne i).2 (pairErr (readOne i).1 h) = ⟨[], pairErr (readOne i).1 h⟩ := by unfold inFail; rw [if_pos ⟨e1, e2⟩]
        rw [hf] at e
        rw [if_pos e2] at e
        exact absurd e e2
    · rw [if_neg e1] at e
      rw [if_pos e1] at e
      exact absurd e e1
theorem headRead_back {i : In} (h : (headRead i).2.err = 0) : i.err = 0 ∧ i.s = headBytes (headRead i).1 ++ (headRead i).2.s ∧ headE (headRead i).1 = 0 := by
  unfold headRead at *
  obtain ⟨h1, r, r1, r2, r3, r4, r5⟩ := readGo_back h
  have hr := inNum_r i 1
  split at h1
  · exact (inFail_ok (by decide) h1).elim
  · rename_i h8
    rw [if_neg h8] at r1 r3 ⊢
    obtain ⟨b1, b2⟩ := inNum_back1 h1
    simp only [List.nil_append] at r1
    have hE : headE r = 0 := by
      unfold headE
      rw [if_neg (by omega)]; exact r4
    rw [r1]
    refine ⟨b1, ?_, hE⟩
    rw [headBytes_s hE r5, b2, r3, r2]
    simp

theorem readOne_fwd {p : Pair} {r : Bs} (h : p.key.length ≤ 16 ∧ p.kind ≤ 2 ∧ (p.kind = 1 → p.text.length ≤ 64)) (h0 : 0 ≤ p.kind) (hn : -9223372036854775808 ≤ p.num ∧ p.num ≤ 9223372036854775807) (h2 : p.kind = 2 → p.num = 0 ∨ p.num = 1) (h1 : p.kind = 1 → p.num = 0) (ht : p.kind ≠ 1 → p.text = []) :
    readOne ⟨pairB p ++ r, 0⟩ = (p, ⟨r, 0⟩) := by
  obtain ⟨hk, hk2, hk1⟩ := h
  obtain ⟨key, kind, num, text⟩ := p
  simp only at *
  unfold readOne pairB
  simp only
  have e1 : inText ⟨txtB key ++ (numB 1 kind.toNat ++ (if kind = 0 then numB 8 (IntKind.wrap .u64 num).toNat else if kind = 1 then txtB text else numB 1 (IntKind.wrap .u64 num).toNat)) ++ r, 0⟩ 16 = (key, ⟨(numB 1 kind.toNat ++ (if kind = 0 then numB 8 (IntKind.wrap .u64 num).toNat else if kind = 1 then txtB text else numB 1 (IntKind.wrap .u64 num).toNat)) ++ r, 0⟩) := by
    unfold txtB
    rw [List.append_assoc, List.append_assoc]
    exact inText_fwd (by omega) (by omega)
  rw [e1]
  simp only
  have e2 : ∀ z : Bs, inNum ⟨numB 1 kind.toNat ++ z, 0⟩ 1 = (kind, ⟨z, 0⟩) := fun z => inNum_fwd (k := 1) (by omega) h0 (by omega) (by omega)
  rw [List.append_assoc, e2]
  simp only
  have hw := wr_u64 num
  by_cases c0 : kind = 0
  · subst c0
    simp only [if_true]
    have e3 : inNum ⟨numB 8 (IntKind.wrap .u64 num).toNat ++ r, 0⟩ 8 = (IntKind.wrap .u64 num, ⟨r, 0⟩) := inNum_fwd (k := 8) (by omega) (by omega) (by omega) (by omega)
    rw [e3]
    simp only
    rw [wrap_u64i hn.1 hn.2, ht (by decide)]
  · rw [if_neg c0, if_neg c0]
    by_cases c1 : kind = 1
    · subst c1
      simp only [if_true]
      have e3 : inText ⟨txtB text ++ r, 0⟩ 64 = (text, ⟨r, 0⟩) := by
        unfold txtB
        rw [List.append_assoc]
        have := hk1 rfl
        exact inText_fwd (by omega) (by omega)
      rw [e3]
      simp only
      rw [h1 rfl]
    · rw [if_neg c1, if_neg c1]
      have c2 : kind = 2 := by omega
      subst c2
      rw [if_pos rfl]
      have hv : IntKind.wrap .u64 num = num := by
        rcases h2 rfl with e | e <;> rw [e] <;> decide
      have e3 : inNum ⟨numB 1 (IntKind.wrap .u64 num).toNat ++ r, 0⟩ 1 = (num, ⟨r, 0⟩) := by
        rw [hv]
        exact inNum_fwd (k := 1) (by omega) (by rcases h2 rfl with e | e <;> omega) (by rcases h2 rfl with e | e <;> omega) (by omega)
      rw [e3]
      simp only
      rw [wrap_i64s hn.1 hn.2, ht (by decide)]

theorem pairErr_fwd {p : Pair} {ahead : List Pair} (h : pairErr p ahead = 0) : (p.kind = 2 → p.num = 0 ∨ p.num = 1) ∧ (p.kind = 1 → p.num = 0) ∧ (p.kind ≠ 1 → p.text = []) := by
  unfold pairErr at h
  split at h
  · contradiction
  · split at h
    · cases h
    · split at h
      · cases h
      · split at h
        · cases h
        · rename_i h2
          split at h
          · cases h
          · rename_i h3
            refine ⟨fun e => ?_, fun e => ?_, fun e => ?_⟩
            · by_cases q : p.num = 0
              · exact .inl q
              · exact .inr (Decidable.byContradiction fun q2 => h2 ⟨e, q, q2⟩)
            · exact Decidable.byContradiction fun q => h3 (.inl ⟨e, q⟩)
            · exact Decidable.byContradiction fun q => h3 (.inr ⟨e, q⟩)
theorem readGo_fwd : ∀ {l h : List Pair} {r : Bs}, headGo h l = 0 → (∀ p ∈ l, p.wf) → readGo l.length ⟨l.flatMap pairB ++ r, 0⟩ h = (h ++ l, ⟨r, 0⟩)
  | [], h, r, _, _ => by simp [readGo]
  | p :: l, h, r, e, hw => by
    have e1 := headGo_ok e p (by simp)
    simp only [headGo] at e
    split at e
    · contradiction
    · rename_i e0
      have e0' := Decidable.not_not.1 e0
      obtain ⟨q1, q2, q3⟩ := pairErr_fwd e0'
      obtain ⟨w1, w2, _⟩ := hw p (by simp)
      have ho := readOne_fwd (r := l.flatMap pairB ++ r) e1 w1.1 w2 q1 q2 q3
      have es : (p :: l).flatMap pairB ++ r = pairB p ++ (l.flatMap pairB ++ r) := by simp
      simp only [List.length_cons, readGo]
      rw [es, ho]
      simp only [if_true]
      have hf : inFail ⟨l.flatMap pairB ++ r, 0⟩ (pairErr p h) = ⟨l.flatMap pairB ++ r, 0⟩ := by unfold inFail; rw [if_neg (by simp [e0'])]
      rw [hf]
      simp only [ne_eq, not_true_eq_false, if_false]
      rw [readGo_fwd e (fun q hq => hw q (by simp [hq]))]
      simp
theorem headRead_fwd {l : List Pair} {r : Bs} (e : headE l = 0) (hw : ∀ p ∈ l, p.wf) : headRead ⟨headBytes l ++ r, 0⟩ = (l, ⟨r, 0⟩) := by
  have hl := (headE_ok e).1
  have e' := e
  unfold headE at e'
  rw [if_neg (by omega)] at e'
  rw [headBytes_s e (fun p hp => (hw p hp).1.1), List.append_assoc]
  unfold headRead
  have e1 : inNum ⟨numB 1 l.length ++ (l.flatMap pairB ++ r), 0⟩ 1 = ((l.length : Int), ⟨l.flatMap pairB ++ r, 0⟩) := by
    have := inNum_fwd (r := l.flatMap pairB ++ r) (n := (l.length : Int)) (k := 1) (by omega) (by omega) (by omega) (by omega)
    rwa [Int.toNat_natCast] at this
  rw [e1]
  simp only
  rw [if_neg (by omega), Int.toNat_natCast, readGo_fwd e' hw]
  simp
end Go.SW


namespace Go.SW
variable {P : Program} {n : Nat} {N : Rest} {F : Fr} {H : Hp} {L : Ls} {ty T T' : TypeId} {x y : Operand}

def EqV (P : Program) (d : Nat) (t : TypeId) (u v : Value) (r : Bool) : Prop := ∀ w, (Op.equalIn d t u v).run P w = .ok r w
def EqF (P : Program) (d : Nat) (xs ys : List Value) (fs : List Field) (r : Bool) : Prop := ∀ w, (Op.eqFields d xs.toArray ys.toArray fs).run P w = .ok r w

theorem EqV.to {d : Nat} {t : TypeId} {u v : Value} {r r' : Bool} (h : EqV P d t u v r) (e : r = r') : EqV P d t u v r' := e ▸ h
theorem eqv_int {d : Nat} {t : TypeId} {k k' : IntKind} {a b : Int} (h : P.underlying t = some (.int k')) : EqV P (d + 1) t (.int k a) (.int k b) (decide (a = b)) := fun w => by
  rw [run_equalIn_int w d t k k' a b h]; rfl
theorem eqv_str {d : Nat} {t : TypeId} {a b : Bs} (h : P.underlying t = some .string) : EqV P (d + 1) t (str a) (str b) (decide (a = b)) := fun w => by
  unfold str
  rw [run_equalIn_string w d t _ _ h, ba_toList, ba_toList, listBeq]
theorem eqv_bool {d : Nat} {t : TypeId} {a b : Bool} (h : P.underlying t = some .bool) : EqV P (d + 1) t (.bool a) (.bool b) (decide (a = b)) := fun w => by
  rw [equalIn_bool d h w]; rfl
theorem eqv_agg {d : Nat} {t : TypeId} {fs : Array Field} {xs ys : List Value} {r : Bool} (hu : P.underlying t = some (.struct fs)) (hp : P.stoodInHeld t = false) (h : EqF P d xs ys fs.toList r) : EqV P (d + 1) t (.agg xs.toArray) (.agg ys.toArray) r := fun w => by
  have hf : P.fieldsOf t = fs := by simp [Program.fieldsOf, hu]
  rw [run_equalIn_agg w d t _ _ (by rw [hf]; exact hu) hp, hf]
  exact h w

theorem eqf_nil {d : Nat} {xs ys : List Value} : EqF P d xs ys [] true := fun w => by simp [Op.eqFields]
theorem eqf_step {d : Nat} {xs ys : List Value} {f : Field} {fs : List Field} {a b : Value} {r r' : Bool} (hn : ¬ f.name = "_") (ha : ∀ w, (part f.type xs.toArray f.offset).run P w = .ok a w) (hb : ∀ w, (part f.type ys.toArray f.offset).run P w = .ok b w)
    (h : EqV P d f.type a b r) (k : EqF P d xs ys fs r') : EqF P d xs ys (f :: fs) (r && r') := fun w => by
  simp only [Op.eqFields, ne_eq, hn, not_false_eq_true, if_true, Sem.run_bind, ha w, Result.andThen_ok, hb w, h w]
  cases r
  · simp
  · simpa using k w
theorem part_1 {t : TypeId} {xs : List Value} {o : Nat} {a : Value} (hg : Ag P t false) (hx : xs[o]? = some a) (w : World) : (part t xs.toArray o).run P w = .ok a w := by
  simp [part, hg w, hx]
theorem part_A {t : TypeId} {xs vs : List Value} {o k : Nat} (hg : Ag P t true) (hk : Sz P t k) (hx : sub xs o k = vs) (w : World) : (part t xs.toArray o).run P w = .ok (.agg vs.toArray) w := by
  subst hx
  simp only [part, Sem.run_bind, hg w, Result.andThen_ok, if_true, hk w, Sem.run_pure]
  congr 2
  rw [List.extract_toArray]
  simp [sub, List.extract_eq_take_drop]
theorem eqf_1 {d : Nat} {xs ys : List Value} {f : Field} {fs : List Field} {a b : Value} {r r' : Bool} (hn : ¬ f.name = "_") (hg : Ag P f.type false) (hx : xs[f.offset]? = some a) (hy : ys[f.offset]? = some b) (h : EqV P d f.type a b r) (k : EqF P d xs ys fs r') : EqF P d xs ys (f :: fs) (r && r') :=
  eqf_step hn (part_1 hg hx) (part_1 hg hy) h k
theorem eqf_A {d k : Nat} {xs ys vs us : List Value} {f : Field} {fs : List Field} {r r' : Bool} (hn : ¬ f.name = "_") (hg : Ag P f.type true) (hk : Sz P f.type k) (hx : sub xs f.offset k = vs) (hy : sub ys f.offset k = us) (h : EqV P d f.type (.agg vs.toArray) (.agg us.toArray) r) (kk : EqF P d xs ys fs r') : EqF P d xs ys (f :: fs) (r && r') :=
  eqf_step hn (part_A hg hk hx) (part_A hg hk hy) h kk

theorem eqGuard_agg {op : BinOp} {u v : Array Value} (hm : P.eqGuardType P.depth T = false) (w : World) : (eqGuard op T x y (.agg u) (.agg v)).run P w = .ok () w := run_eqGuard_agg w op T x y u v hm
theorem lo_aeql {u v : Array Value} {r : Bool} (hx : ev F x = .agg u) (hy : ev F y = .agg v) (hm : P.eqGuardType P.depth T = false) (h : EqV P 10000 T (.agg u) (.agg v) r) : Lo P N (.binOp .eql T x y T') ty F H L (.bool r) :=
  lo_bin hx hy (eqGuard_agg hm) fun w => by
    have := h w
    simp [binOp, Op.equal, Op.maxDepth, this]
theorem lo_aneq {u v : Array Value} {r : Bool} (hx : ev F x = .agg u) (hy : ev F y = .agg v) (hm : P.eqGuardType P.depth T = false) (h : EqV P 10000 T (.agg u) (.agg v) r) : Lo P N (.binOp .neq T x y T') ty F H L (.bool (!r)) :=
  lo_bin hx hy (eqGuard_agg hm) fun w => by
    have := h w
    simp [binOp, Op.equal, Op.maxDepth, this]
end Go.SW


namespace Go.SW
variable {P : Program} {n : Nat} {N : Rest} {F : Fr} {H : Hp} {L : Ls} {ty d : Nat} {ops : List Oper} {op : Op} {pos : String} {af : Array Edge} {K : Fr → Hp → Ls → Prop} {f : FuncId} {args : Array Value}

theorem Mem.take {w w' : World} {i b : Nat} {o : Obj} (hm : Mem N H L w) (hi : L i = some (b, o)) (h' : Mem N (hadd H b o) (lupd L i none) w') : Mem N H L w' := by
  have hn := hm.nl i b o hi
  refine ⟨h'.os, h'.tape, h'.output, h'.n, fun c x hx => ?_, fun j c x hx => ?_, hm.nh, hm.nl, hm.ll⟩
  · exact h'.h c x (hadd_le hn.2 c x hx)
  · by_cases e : j = i
    · subst e
      rw [hi] at hx; cases hx
      exact h'.h b o (by simp [hadd])
    · exact h'.l j c x (by rw [lupd_ne _ _ _ _ e]; exact hx)
theorem Pr.lent {v : Value} {en : Option (Nat × Obj)} (i : Nat) (hi : L i = en) (h : ∀ H', HLe H H' → (∀ b o, en = some (b, o) → H' b = some o) → Pr P f args H' v) (w : World) (hm : Mem N H L w) : Calls P f args w fun e w' => e = .returned v ∧ Mem N H L w' := by
  cases en with
  | none => exact h H (.refl _) (fun _ _ q => by cases q) N L w hm
  | some p =>
    obtain ⟨b, o⟩ := p
    obtain ⟨hg, hl⟩ := hm.give hi
    refine (h _ hl (fun b' o' q => by cases q; simp [hadd]) N _ w hg).mono fun e w' ⟨he, hm'⟩ => ⟨he, hm.take hi hm'⟩
theorem op1_prl {v : Value} {en : Option (Nat × Obj)} (i : Nat) (hi : L i = en) (h : ∀ H', HLe H H' → (∀ b o, en = some (b, o) → H' b = some o) → Pr P f args H' v) (he : En P op F f args) (hd : Nat.blt d n = true) (k : K (upd F d v) H L) : Op1 P n N ops ⟨some d, op, ty, pos, af, none⟩ K F H L := by
  intro a w ha hm
  rw [if_pos (by simp [Region.wanted])]
  unfold Oper.wp
  rw [ha.eval, he]
  refine (Pr.lent i hi h w hm).mono fun e w' ⟨he', hm'⟩ => ?_
  subst he'
  exact ⟨_, _, _, ha.put (by simpa using hd) v, hm', k⟩
theorem op1_prlg {v : Value} {en : Option (Nat × Obj)} {j : Nat} {want b : Bool} (i : Nat) (hi : L i = en) (hy : yF ops F j = some (.bool b)) (hb : b = want) (h : ∀ H', HLe H H' → (∀ b o, en = some (b, o) → H' b = some o) → Pr P f args H' v) (he : En P op F f args) (hd : Nat.blt d n = true) (k : K (upd F d v) H L) : Op1 P n N ops ⟨some d, op, ty, pos, af, some (j, want)⟩ K F H L := by
  intro a w ha hm
  rw [if_pos (by simp [Region.wanted, yielded_of ha hy, hb])]
  unfold Oper.wp
  rw [ha.eval, he]
  refine (Pr.lent i hi h w hm).mono fun e w' ⟨he', hm'⟩ => ?_
  subst he'
  exact ⟨_, _, _, ha.put (by simpa using hd) v, hm', k⟩
theorem own_shape {k e len : Nat} {v : Value} {en : Option (Nat × Obj)} {cs : List Value} (h : OwnV k e v en len cs) : ∃ a c, v = .slice a len c := by
  rcases h.2 with ⟨rfl, rfl, _⟩ | ⟨b, cap, c, rfl, _⟩
  · exact ⟨_, _, rfl⟩
  · exact ⟨_, _, rfl⟩
theorem wf_cat {α : Type} {wf : α → Prop} {xs ys : List α} (h : ∀ x ∈ xs, wf x) (h' : ∀ x ∈ ys, wf x) : ∀ x ∈ xs ++ ys, wf x := fun x hx => by
  rcases List.mem_append.1 hx with h1 | h1
  · exact h x h1
  · exact h' x h1
theorem wf_nil {α : Type} {wf : α → Prop} : ∀ x ∈ ([] : List α), wf x := fun x hx => by cases hx
end Go.SW


namespace Go.SW
variable {P : Program} {n : Nat} {N : Rest} {F : Fr} {H : Hp} {L : Ls}
def LI6 {α : Type} {β : Type} {γ : Type} {δ : Type} {ε : Type} {ζ : Type} (S SL : List Nat) (F : Fr) (H : Hp) (L : Ls) (live : α → β → γ → δ → ε → ζ → Fr → Fr) (Lm : α → β → γ → δ → ε → ζ → Ls → Ls) (Φ : α → β → γ → δ → ε → ζ → Hp → Prop) (μ : α → β → γ → δ → ε → ζ → Nat) : Nat → Fr → Hp → Ls → Prop := fun m F' H' L' =>
  ∃ x1 x2 x3 x4 x5 x6 J JL, F' = live x1 x2 x3 x4 x5 x6 (mask S J F) ∧ L' = Lm x1 x2 x3 x4 x5 x6 (lmask SL JL L) ∧ HLe H H' ∧ Φ x1 x2 x3 x4 x5 x6 H' ∧ μ x1 x2 x3 x4 x5 x6 = m
theorem cw_loop6 {α : Type} {β : Type} {γ : Type} {δ : Type} {ε : Type} {ζ : Type} {c : Code} {Q : Qt} (S SL : List Nat) (live : α → β → γ → δ → ε → ζ → Fr → Fr) (Lm : α → β → γ → δ → ε → ζ → Ls → Ls) (Φ : α → β → γ → δ → ε → ζ → Hp → Prop) (μ : α → β → γ → δ → ε → ζ → Nat) (y1 : α) (y2 : β) (y3 : γ) (y4 : δ) (y5 : ε) (y6 : ζ)
    (h0 : F = live y1 y2 y3 y4 y5 y6 (mask S F F)) (h1 : L = Lm y1 y2 y3 y4 y5 y6 (lmask SL L L)) (h2 : Φ y1 y2 y3 y4 y5 y6 H)
    (round : ∀ x1 x2 x3 x4 x5 x6 J JL H', Φ x1 x2 x3 x4 x5 x6 H' → HLe H H' → Cw P n N c (loopK (LI6 S SL F H L live Lm Φ μ) (μ x1 x2 x3 x4 x5 x6) Q) (live x1 x2 x3 x4 x5 x6 (mask S J F)) H' (Lm x1 x2 x3 x4 x5 x6 (lmask SL JL L))) : Cw P n N (.loop c) Q F H L := by
  refine cw_loop (LI6 S SL F H L live Lm Φ μ) (μ y1 y2 y3 y4 y5 y6) ⟨y1, y2, y3, y4, y5, y6, F, L, h0, h1, .refl _, h2, rfl⟩ fun m F' H' L' hI => ?_
  obtain ⟨x1, x2, x3, x4, x5, x6, J, JL, rfl, rfl, hl, hp, rfl⟩ := hI
  exact round x1 x2 x3 x4 x5 x6 J JL H' hp hl
theorem next6 {α : Type} {β : Type} {γ : Type} {δ : Type} {ε : Type} {ζ : Type} {Q : Qt} {S SL : List Nat} {live : α → β → γ → δ → ε → ζ → Fr → Fr} {Lm : α → β → γ → δ → ε → ζ → Ls → Ls} {Φ : α → β → γ → δ → ε → ζ → Hp → Prop} {μ : α → β → γ → δ → ε → ζ → Nat} {m : Nat} {F' : Fr} {H' : Hp} {L' : Ls} (x1' : α) (x2' : β) (x3' : γ) (x4' : δ) (x5' : ε) (x6' : ζ)
    (h0 : F' = live x1' x2' x3' x4' x5' x6' (mask S F' F)) (h1 : L' = Lm x1' x2' x3' x4' x5' x6' (lmask SL L' L)) (hl : HLe H H') (h2 : Φ x1' x2' x3' x4' x5' x6' H') (hm : μ x1' x2' x3' x4' x5' x6' < m) : loopK (LI6 S SL F H L live Lm Φ μ) m Q .normal F' H' L' :=
  ⟨_, hm, x1', x2', x3', x4', x5', x6', F', L', h0, h1, hl, h2, rfl⟩
def LI7 {α : Type} {β : Type} {γ : Type} {δ : Type} {ε : Type} {ζ : Type} {η : Type} (S SL : List Nat) (F : Fr) (H : Hp) (L : Ls) (live : α → β → γ → δ → ε → ζ → η → Fr → Fr) (Lm : α → β → γ → δ → ε → ζ → η → Ls → Ls) (Φ : α → β → γ → δ → ε → ζ → η → Hp → Prop) (μ : α → β → γ → δ → ε → ζ → η → Nat) : Nat → Fr → Hp → Ls → Prop := fun m F' H' L' =>
  ∃ x1 x2 x3 x4 x5 x6 x7 J JL, F' = live x1 x2 x3 x4 x5 x6 x7 (mask S J F) ∧ L' = Lm x1 x2 x3 x4 x5 x6 x7 (lmask SL JL L) ∧ HLe H H' ∧ Φ x1 x2 x3 x4 x5 x6 x7 H' ∧ μ x1 x2 x3 x4 x5 x6 x7 = m
theorem cw_loop7 {α : Type} {β : Type} {γ : Type} {δ : Type} {ε : Type} {ζ : Type} {η : Type} {c : Code} {Q : Qt} (S SL : List Nat) (live : α → β → γ → δ → ε → ζ → η → Fr → Fr) (Lm : α → β → γ → δ → ε → ζ → η → Ls → Ls) (Φ : α → β → γ → δ → ε → ζ → η → Hp → Prop) (μ : α → β → γ → δ → ε → ζ → η → Nat) (y1 : α) (y2 : β) (y3 : γ) (y4 : δ) (y5 : ε) (y6 : ζ) (y7 : η)
    (h0 : F = live y1 y2 y3 y4 y5 y6 y7 (mask S F F)) (h1 : L = Lm y1 y2 y3 y4 y5 y6 y7 (lmask SL L L)) (h2 : Φ y1 y2 y3 y4 y5 y6 y7 H)
    (round : ∀ x1 x2 x3 x4 x5 x6 x7 J JL H', Φ x1 x2 x3 x4 x5 x6 x7 H' → HLe H H' → Cw P n N c (loopK (LI7 S SL F H L live Lm Φ μ) (μ x1 x2 x3 x4 x5 x6 x7) Q) (live x1 x2 x3 x4 x5 x6 x7 (mask S J F)) H' (Lm x1 x2 x3 x4 x5 x6 x7 (lmask SL JL L))) : Cw P n N (.loop c) Q F H L := by
  refine cw_loop (LI7 S SL F H L live Lm Φ μ) (μ y1 y2 y3 y4 y5 y6 y7) ⟨y1, y2, y3, y4, y5, y6, y7, F, L, h0, h1, .refl _, h2, rfl⟩ fun m F' H' L' hI => ?_
  obtain ⟨x1, x2, x3, x4, x5, x6, x7, J, JL, rfl, rfl, hl, hp, rfl⟩ := hI
  exact round x1 x2 x3 x4 x5 x6 x7 J JL H' hp hl
theorem next7 {α : Type} {β : Type} {γ : Type} {δ : Type} {ε : Type} {ζ : Type} {η : Type} {Q : Qt} {S SL : List Nat} {live : α → β → γ → δ → ε → ζ → η → Fr → Fr} {Lm : α → β → γ → δ → ε → ζ → η → Ls → Ls} {Φ : α → β → γ → δ → ε → ζ → η → Hp → Prop} {μ : α → β → γ → δ → ε → ζ → η → Nat} {m : Nat} {F' : Fr} {H' : Hp} {L' : Ls} (x1' : α) (x2' : β) (x3' : γ) (x4' : δ) (x5' : ε) (x6' : ζ) (x7' : η)
    (h0 : F' = live x1' x2' x3' x4' x5' x6' x7' (mask S F' F)) (h1 : L' = Lm x1' x2' x3' x4' x5' x6' x7' (lmask SL L' L)) (hl : HLe H H') (h2 : Φ x1' x2' x3' x4' x5' x6' x7' H') (hm : μ x1' x2' x3' x4' x5' x6' x7' < m) : loopK (LI7 S SL F H L live Lm Φ μ) m Q .normal F' H' L' :=
  ⟨_, hm, x1', x2', x3', x4', x5', x6', x7', F', L', h0, h1, hl, h2, rfl⟩
def LI8 {α : Type} {β : Type} {γ : Type} {δ : Type} {ε : Type} {ζ : Type} {η : Type} {θ : Type} (S SL : List Nat) (F : Fr) (H : Hp) (L : Ls) (live : α → β → γ → δ → ε → ζ → η → θ → Fr → Fr) (Lm : α → β → γ → δ → ε → ζ → η → θ → Ls → Ls) (Φ : α → β → γ → δ → ε → ζ → η → θ → Hp → Prop) (μ : α → β → γ → δ → ε → ζ → η → θ → Nat) : Nat → Fr → Hp → Ls → Prop := fun m F' H' L' =>
  ∃ x1 x2 x3 x4 x5 x6 x7 x8 J JL, F' = live x1 x2 x3 x4 x5 x6 x7 x8 (mask S J F) ∧ L' = Lm x1 x2 x3 x4 x5 x6 x7 x8 (lmask SL JL L) ∧ HLe H H' ∧ Φ x1 x2 x3 x4 x5 x6 x7 x8 H' ∧ μ x1 x2 x3 x4 x5 x6 x7 x8 = m
theorem cw_loop8 {α : Type} {β : Type} {γ : Type} {δ : Type} {ε : Type} {ζ : Type} {η : Type} {θ : Type} {c : Code} {Q : Qt} (S SL : List Nat) (live : α → β → γ → δ → ε → ζ → η → θ → Fr → Fr) (Lm : α → β → γ → δ → ε → ζ → η → θ → Ls → Ls) (Φ : α → β → γ → δ → ε → ζ → η → θ → Hp → Prop) (μ : α → β → γ → δ → ε → ζ → η → θ → Nat) (y1 : α) (y2 : β) (y3 : γ) (y4 : δ) (y5 : ε) (y6 : ζ) (y7 : η) (y8 : θ)
    (h0 : F = live y1 y2 y3 y4 y5 y6 y7 y8 (mask S F F)) (h1 : L = Lm y1 y2 y3 y4 y5 y6 y7 y8 (lmask SL L L)) (h2 : Φ y1 y2 y3 y4 y5 y6 y7 y8 H)
    (round : ∀ x1 x2 x3 x4 x5 x6 x7 x8 J JL H', Φ x1 x2 x3 x4 x5 x6 x7 x8 H' → HLe H H' → Cw P n N c (loopK (LI8 S SL F H L live Lm Φ μ) (μ x1 x2 x3 x4 x5 x6 x7 x8) Q) (live x1 x2 x3 x4 x5 x6 x7 x8 (mask S J F)) H' (Lm x1 x2 x3 x4 x5 x6 x7 x8 (lmask SL JL L))) : Cw P n N (.loop c) Q F H L := by
  refine cw_loop (LI8 S SL F H L live Lm Φ μ) (μ y1 y2 y3 y4 y5 y6 y7 y8) ⟨y1, y2, y3, y4, y5, y6, y7, y8, F, L, h0, h1, .refl _, h2, rfl⟩ fun m F' H' L' hI => ?_
  obtain ⟨x1, x2, x3, x4, x5, x6, x7, x8, J, JL, rfl, rfl, hl, hp, rfl⟩ := hI
  exact round x1 x2 x3 x4 x5 x6 x7 x8 J JL H' hp hl
theorem next8 {α : Type} {β : Type} {γ : Type} {δ : Type} {ε : Type} {ζ : Type} {η : Type} {θ : Type} {Q : Qt} {S SL : List Nat} {live : α → β → γ → δ → ε → ζ → η → θ → Fr → Fr} {Lm : α → β → γ → δ → ε → ζ → η → θ → Ls → Ls} {Φ : α → β → γ → δ → ε → ζ → η → θ → Hp → Prop} {μ : α → β → γ → δ → ε → ζ → η → θ → Nat} {m : Nat} {F' : Fr} {H' : Hp} {L' : Ls} (x1' : α) (x2' : β) (x3' : γ) (x4' : δ) (x5' : ε) (x6' : ζ) (x7' : η) (x8' : θ)
    (h0 : F' = live x1' x2' x3' x4' x5' x6' x7' x8' (mask S F' F)) (h1 : L' = Lm x1' x2' x3' x4' x5' x6' x7' x8' (lmask SL L' L)) (hl : HLe H H') (h2 : Φ x1' x2' x3' x4' x5' x6' x7' x8' H') (hm : μ x1' x2' x3' x4' x5' x6' x7' x8' < m) : loopK (LI8 S SL F H L live Lm Φ μ) m Q .normal F' H' L' :=
  ⟨_, hm, x1', x2', x3', x4', x5', x6', x7', x8', F', L', h0, h1, hl, h2, rfl⟩
def LI9 {α : Type} {β : Type} {γ : Type} {δ : Type} {ε : Type} {ζ : Type} {η : Type} {θ : Type} {ι : Type} (S SL : List Nat) (F : Fr) (H : Hp) (L : Ls) (live : α → β → γ → δ → ε → ζ → η → θ → ι → Fr → Fr) (Lm : α → β → γ → δ → ε → ζ → η → θ → ι → Ls → Ls) (Φ : α → β → γ → δ → ε → ζ → η → θ → ι → Hp → Prop) (μ : α → β → γ → δ → ε → ζ → η → θ → ι → Nat) : Nat → Fr → Hp → Ls → Prop := fun m F' H' L' =>
  ∃ x1 x2 x3 x4 x5 x6 x7 x8 x9 J JL, F' = live x1 x2 x3 x4 x5 x6 x7 x8 x9 (mask S J F) ∧ L' = Lm x1 x2 x3 x4 x5 x6 x7 x8 x9 (lmask SL JL L) ∧ HLe H H' ∧ Φ x1 x2 x3 x4 x5 x6 x7 x8 x9 H' ∧ μ x1 x2 x3 x4 x5 x6 x7 x8 x9 = m
theorem cw_loop9 {α : Type} {β : Type} {γ : Type} {δ : Type} {ε : Type} {ζ : Type} {η : Type} {θ : Type} {ι : Type} {c : Code} {Q : Qt} (S SL : List Nat) (live : α → β → γ → δ → ε → ζ → η → θ → ι → Fr → Fr) (Lm : α → β → γ → δ → ε → ζ → η → θ → ι → Ls → Ls) (Φ : α → β → γ → δ → ε → ζ → η → θ → ι → Hp → Prop) (μ : α → β → γ → δ → ε → ζ → η → θ → ι → Nat) (y1 : α) (y2 : β) (y3 : γ) (y4 : δ) (y5 : ε) (y6 : ζ) (y7 : η) (y8 : θ) (y9 : ι)
    (h0 : F = live y1 y2 y3 y4 y5 y6 y7 y8 y9 (mask S F F)) (h1 : L = Lm y1 y2 y3 y4 y5 y6 y7 y8 y9 (lmask SL L L)) (h2 : Φ y1 y2 y3 y4 y5 y6 y7 y8 y9 H)
    (round : ∀ x1 x2 x3 x4 x5 x6 x7 x8 x9 J JL H', Φ x1 x2 x3 x4 x5 x6 x7 x8 x9 H' → HLe H H' → Cw P n N c (loopK (LI9 S SL F H L live Lm Φ μ) (μ x1 x2 x3 x4 x5 x6 x7 x8 x9) Q) (live x1 x2 x3 x4 x5 x6 x7 x8 x9 (mask S J F)) H' (Lm x1 x2 x3 x4 x5 x6 x7 x8 x9 (lmask SL JL L))) : Cw P n N (.loop c) Q F H L := by
  refine cw_loop (LI9 S SL F H L live Lm Φ μ) (μ y1 y2 y3 y4 y5 y6 y7 y8 y9) ⟨y1, y2, y3, y4, y5, y6, y7, y8, y9, F, L, h0, h1, .refl _, h2, rfl⟩ fun m F' H' L' hI => ?_
  obtain ⟨x1, x2, x3, x4, x5, x6, x7, x8, x9, J, JL, rfl, rfl, hl, hp, rfl⟩ := hI
  exact round x1 x2 x3 x4 x5 x6 x7 x8 x9 J JL H' hp hl
theorem next9 {α : Type} {β : Type} {γ : Type} {δ : Type} {ε : Type} {ζ : Type} {η : Type} {θ : Type} {ι : Type} {Q : Qt} {S SL : List Nat} {live : α → β → γ → δ → ε → ζ → η → θ → ι → Fr → Fr} {Lm : α → β → γ → δ → ε → ζ → η → θ → ι → Ls → Ls} {Φ : α → β → γ → δ → ε → ζ → η → θ → ι → Hp → Prop} {μ : α → β → γ → δ → ε → ζ → η → θ → ι → Nat} {m : Nat} {F' : Fr} {H' : Hp} {L' : Ls} (x1' : α) (x2' : β) (x3' : γ) (x4' : δ) (x5' : ε) (x6' : ζ) (x7' : η) (x8' : θ) (x9' : ι)
    (h0 : F' = live x1' x2' x3' x4' x5' x6' x7' x8' x9' (mask S F' F)) (h1 : L' = Lm x1' x2' x3' x4' x5' x6' x7' x8' x9' (lmask SL L' L)) (hl : HLe H H') (h2 : Φ x1' x2' x3' x4' x5' x6' x7' x8' x9' H') (hm : μ x1' x2' x3' x4' x5' x6' x7' x8' x9' < m) : loopK (LI9 S SL F H L live Lm Φ μ) m Q .normal F' H' L' :=
  ⟨_, hm, x1', x2', x3', x4', x5', x6', x7', x8', x9', F', L', h0, h1, hl, h2, rfl⟩
/-! Stores, what is held written out -/
theorem op1_store1n {T0 ty T : TypeId} {x y : Operand} {ops : List Oper} {pos : String} {af : Array Edge} {K : Fr → Hp → Ls → Prop} {b off i : Nat} {cs : List Value} {v : Value} (cs' : List Value) (hx : ev F x = .pointer (some ⟨b, off, none⟩)) (hy : ev F y = v) (hv : v.oneCell' = true) (hk : Sz P T 1) (hi : L i = some (b, bx T0 cs)) (ho' : Nat.blt off cs.length = true) (hc : cs.set off v = cs')
    (k : K F H (lupd L i (some (b, bx T0 cs')))) : Op1 P n N ops ⟨none, .store T x y, ty, pos, af, none⟩ K F H L := by
  subst hc; exact op1_store1 hx hy hv hk hi ho' k
theorem op1_storeAn {T0 ty T : TypeId} {x y : Operand} {ops : List Oper} {pos : String} {af : Array Edge} {K : Fr → Hp → Ls → Prop} {b off i m : Nat} {cs vs : List Value} (cs' : List Value) (hx : ev F x = .pointer (some ⟨b, off, none⟩)) (hy : ev F y = .agg vs.toArray) (hv : vs.all Value.oneCell' = true) (hk : Sz P T m) (hm : vs.length = m) (hi : L i = some (b, bx T0 cs)) (ho' : Nat.ble (off + vs.length) cs.length = true) (hc : setAt cs off vs = cs')
    (k : K F H (lupd L i (some (b, bx T0 cs')))) : Op1 P n N ops ⟨none, .store T x y, ty, pos, af, none⟩ K F H L := by
  subst hc; exact op1_storeA hx hy hv hk hm hi ho' k
end Go.SW


namespace Go.SW

section
variable {α : Type} [DecidableEq α] {a b ra rb : List α} {x y : α} {k : Nat}
theorem eqL_len (h : ¬ (a.length : Int) = b.length) : decide (a = b) = false := by
  rw [decide_eq_false_iff_not]; rintro rfl; exact h rfl
theorem eqL_step (h : decide (a = b) = decide (a.drop k = b.drop k)) (ha : a.drop k = x :: ra) (hb : b.drop k = y :: rb) (e : x = y) : decide (a = b) = decide (ra = rb) := by
  rw [h, ha, hb, Bool.eq_iff_iff]; simp [e]
theorem eqL_miss (h : decide (a = b) = decide (a.drop k = b.drop k)) (ha : a.drop k = x :: ra) (hb : b.drop k = y :: rb) (e : ¬ x = y) : decide (a = b) = false := by
  rw [h, ha, hb, Bool.eq_iff_iff]; simp [e]
theorem eqL_end (h : decide (a = b) = decide (a.drop k = b.drop k)) (ha : a.length ≤ k) (hb : b.length ≤ k) : decide (a = b) = true := by
  rw [h, List.drop_of_length_le ha, List.drop_of_length_le hb]; simp
end
section
variable {α : Type} {p : α → Bool} {a r : List α} {x : α} {k : Nat}
theorem all_step (h : a.all p = (a.drop k).all p) (ha : a.drop k = x :: r) (e : p x = true) : a.all p = r.all p := by rw [h, ha]; simp [e]
theorem all_miss (h : a.all p = (a.drop k).all p) (ha : a.drop k = x :: r) (e : p x = false) : a.all p = false := by rw [h, ha]; simp [e]
theorem all_end (h : a.all p = (a.drop k).all p) (ha : a.length ≤ k) : a.all p = true := by rw [h, List.drop_of_length_le ha]; rfl
theorem any_step (h : a.any p = (a.drop k).any p) (ha : a.drop k = x :: r) (e : p x = false) : a.any p = r.any p := by rw [h, ha]; simp [e]
theorem any_hit (h : a.any p = (a.drop k).any p) (ha : a.drop k = x :: r) (e : p x = true) : a.any p = true := by rw [h, ha]; simp [e]
theorem any_end (h : a.any p = (a.drop k).any p) (ha : a.length ≤ k) : a.any p = false := by rw [h, List.drop_of_length_le ha]; rfl
end
theorem one_flat {α : Type} {enc : α → List Value} (h : ∀ x, (enc x).all (·.oneCell') = true) (xs : List α) : ∀ u ∈ xs.flatMap enc, u.oneCell' = true := fun u hu => by
  obtain ⟨x, _, hx⟩ := List.mem_flatMap.1 hu
  exact List.all_eq_true.1 (h x) u hx
theorem slh_wf {α : Type} {enc : α → List Value} {wf : α → Prop} {k : Nat} {H : Hp} {sv : Value} {xs : List α} (h : SlH (FE enc wf) k H sv xs) : ∀ x ∈ xs, wf x := fun x hx => by
  obtain ⟨m, hm, rfl⟩ := List.getElem_of_mem hx
  obtain ⟨cs, ⟨_, hw⟩, _⟩ := h.2 m hm
  exact hw
theorem own_cat0 {α : Type} {enc : α → List Value} {k e : Nat} {v : Value} {en : Option (Nat × Obj)} (ys : List α) (h : OwnV k e v en (0 + ys.length) ([] ++ ys.flatMap enc)) : OwnV k e v en ys.length (ys.flatMap enc) :=
  ownV_cast h (by simp) (by simp)

theorem Mail.eq_iff {a b : Mail} : a = b ↔ a.id = b.id ∧ a.shop = b.shop ∧ a.key = b.key ∧ a.head = b.head ∧ a.body = b.body ∧ a.due = b.due ∧ a.hops = b.hops := by
  cases a; cases b; simp
theorem Reply.eq_iff {a b : Reply} : a = b ↔ a.channel = b.channel ∧ a.kind = b.kind ∧ a.n = b.n ∧ a.m = b.m ∧ a.yes = b.yes ∧ a.name = b.name ∧ a.mail = b.mail := by
  cases a; cases b; simp

/-! Light -/
def lightP (p : Pair) : Bool := decide (p.key.length ≤ 40) && decide (p.text.length ≤ 100)
def lightH (h : List Pair) : Bool := decide (h.length ≤ 12) && h.all lightP
def lightR (r : Reply) : Bool := decide (max (r.name.length : Int) (r.mail.shop.length : Int) ≤ 40) && decide ((r.mail.key.length : Int) ≤ 100) && lightH r.mail.head && decide ((r.mail.body.length : Int) ≤ 300)
theorem lightH_len (h : List Pair) (e : lightH h = true) : h.length ≤ 12 := by
  simp [lightH] at e; exact e.1
theorem lightR_len (r : Reply) (e : lightR r = true) : r.name.length ≤ 40 ∧ r.mail.shop.length ≤ 40 ∧ r.mail.key.length ≤ 100 ∧ r.mail.head.length ≤ 12 ∧ r.mail.body.length ≤ 300 := by
  simp only [lightR, Bool.and_eq_true, decide_eq_true_eq] at e
  obtain ⟨⟨⟨h1, h3⟩, h4⟩, h5⟩ := e
  have := lightH_len _ h4
  omega
end Go.SW


namespace Go.SW

theorem inEnd_ok {i : In} (h : inEnd i = 0) : i.err = 0 ∧ i.s = [] := by
  unfold inEnd at h
  split at h
  · cases h
  · rename_i hn
    refine ⟨h, ?_⟩
    cases q : i.s with
    | nil => rfl
    | cons c r => exact absurd ⟨h, by rw [q]; simp⟩ hn
theorem inEnd_nil : inEnd ⟨[], 0⟩ = 0 := rfl

theorem replyRead_kind (c k : Int) (i : In) : (replyRead c k i).1.kind = k ∧ (replyRead c k i).1.channel = c := by
  unfold replyRead
  repeat' split
  all_goals exact ⟨rfl, rfl⟩

def sentB (yes : Bool) (m : Mail) : Bs := numB 1 (if yes = true then (1 : Int) else 0).toNat ++ (txtB m.shop ++ (txtB m.key ++ (headBytes m.head ++ txtB m.body)))
theorem sentRead_back {i : In} (h : (sentRead i).2.err = 0) : i.err = 0 ∧ i.s = sentB (sentRead i).1.1 (sentRead i).1.2 ++ (sentRead i).2.s ∧ (sentRead i).1.2.shop.length ≤ 65535 ∧ (sentRead i).1.2.key.length ≤ 65535 ∧ (sentRead i).1.2.body.length ≤ 65535 := by
  unfold sentRead at *
  simp only at *
  generalize hy : inNum i 1 = y at *
  generalize hs : inText (if 1 < y.1 then inFail y.2 4 else y.2) 16 = s at *
  generalize hk : inText s.2 64 = k at *
  generalize hh : headRead k.2 = hd at *
  generalize hb : inText hd.2 256 = b at *
  subst hb
  obtain ⟨f1, f2, f3, f4⟩ := inText_back h
  subst hh
  obtain ⟨g1, g2, g3⟩ := headRead_back f1
  subst hk
  obtain ⟨e1, e2, e3, e4⟩ := inText_back g1
  subst hs
  obtain ⟨d1, d2, d3, d4⟩ := inText_back e1
  split at d1
  · exact (inFail_ok (by decide) d1).elim
  · rename_i hy1
    rw [if_neg hy1] at *
    subst hy
    obtain ⟨c1, c2⟩ := inNum_back1 d1
    have hr := inNum_r i 1
    refine ⟨c1, ?_, by omega, by omega, by omega⟩
    have hy1 : ((inNum i 1).1).toNat = (if decide ((inNum i 1).1 = 1) = true then (1 : Int) else 0).toNat := by
      by_cases q : (inNum i 1).1 = 1
      · rw [if_pos (by simpa using q), q]
      · rw [if_neg (by simpa using q)]; omega
    simp only [sentB]
    rw [← hy1, c2, d2, e2, g2, f2]
    simp [txtB]

theorem replyOut_0 {r : Reply} (k : r.kind = 0) (h : (r.name.length : Int) ≤ 65535) : (replyOut r).s = txtB r.name := by
  simp only [replyOut, replyOut1]
  rw [if_neg (by omega), if_pos k, outText_s h]; rfl
theorem replyOut_n {r : Reply} (k : r.kind = 2 ∨ r.kind = 5 ∨ r.kind = 7) : (replyOut r).s = numB 8 r.n.toNat := by
  simp only [replyOut, replyOut1]
  rw [if_neg (by omega), if_neg (by omega), if_pos k, outNum8]; rfl
theorem replyOut_6 {r : Reply} (k : r.kind = 6) : (replyOut r).s = numB 8 r.n.toNat ++ numB 8 r.m.toNat := by
  simp only [replyOut, replyOut1]
  rw [if_neg (by omega), if_neg (by omega), if_neg (by omega), if_pos (by omega), outNum8, outNum8]; rfl
theorem replyOut_3 {r : Reply} (k : r.kind = 3) (h1 : (r.mail.shop.length : Int) ≤ 65535) (h2 : (r.mail.key.length : Int) ≤ 65535) (h3 : (r.mail.body.length : Int) ≤ 65535) : (replyOut r).s = numB 8 r.n.toNat ++ (numB 8 r.m.toNat ++ sentB r.yes r.mail) := by
  simp only [replyOut, replyOut1]
  rw [if_pos k, if_neg (by omega), if_neg (by omega), if_pos (by omega), outNum8, outNum8, outNum1, outText_s h1, outText_s h2]
  simp only [outRaw]
  rw [outText_s h3]
  simp [sentB]
theorem replyOut_e {r : Reply} (k0 : r.kind ≠ 0) (k2 : ¬ (r.kind = 2 ∨ r.kind = 5 ∨ r.kind = 7)) (k3 : ¬ (r.kind = 3 ∨ r.kind = 6)) : (replyOut r).s = [] := by
  simp only [replyOut, replyOut1]
  rw [if_neg (by omega), if_neg k0, if_neg k2, if_neg k3]

theorem replyRead_back {c k : Int} {i : In} (h : (replyRead c k i).2.err = 0) : i.err = 0 ∧ i.s = (replyOut (replyRead c k i).1).s ++ (replyRead c k i).2.s := by
  unfold replyRead at *
  by_cases k0 : k = 0
  · simp only [if_pos k0] at h ⊢
    obtain ⟨a1, a2, a3, a4⟩ := inText_back h
    rw [replyOut_0 k0 a4]
    refine ⟨a1, ?_⟩
    rw [a2]; simp [txtB]
  · simp only [if_neg k0] at h ⊢
    by_cases k2 : k = 2 ∨ k = 5 ∨ k = 7
    · simp only [if_pos k2] at h ⊢
      obtain ⟨a1, a2⟩ := inNum_back8 h
      rw [replyOut_n k2]
      exact ⟨a1, a2⟩
    · simp only [if_neg k2] at h ⊢
      by_cases k6 : k = 6
      · simp only [if_pos k6] at h ⊢
        obtain ⟨a1, a2⟩ := inNum_back8 h
        obtain ⟨b1, b2⟩ := inNum_back8 a1
        rw [replyOut_6 k6]
        refine ⟨b1, ?_⟩
        rw [b2, a2]; simp
      · simp only [if_neg k6] at h ⊢
        by_cases k3 : k = 3
        · simp only [if_pos k3] at h ⊢
          obtain ⟨s1, s2, s3, s4, s5⟩ := sentRead_back h
          obtain ⟨a1, a2⟩ := inNum_back8 s1
          obtain ⟨b1, b2⟩ := inNum_back8 a1
          rw [replyOut_3 k3 (by simp only; omega) (by simp only; omega) (by simp only; omega)]
          refine ⟨b1, ?_⟩
          rw [b2, a2, s2]; simp
        · simp only [if_neg k3] at h ⊢
          rw [replyOut_e k0 k2 (by simp only; omega)]
          exact ⟨h, rfl⟩

theorem replyOf_ok {f : Frame} (h : (replyOf f).2 = 0) : 64 ≤ f.kind ∧ f.kind ≤ 71 ∧ inEnd (replyRead f.channel (f.kind - 64) ⟨f.body, 0⟩).2 = 0 ∧ replyE (replyRead f.channel (f.kind - 64) ⟨f.body, 0⟩).1 = 0 ∧ (replyOf f).1 = (replyRead f.channel (f.kind - 64) ⟨f.body, 0⟩).1 := by
  by_cases hk : f.kind < 64 ∨ 71 < f.kind
  · simp only [replyOf, if_pos hk] at h; cases h
  · by_cases hE : inEnd (replyRead f.channel (f.kind - 64) ⟨f.body, 0⟩).2 = 0
    · by_cases hR : replyE (replyRead f.channel (f.kind - 64) ⟨f.body, 0⟩).1 = 0
      · refine ⟨by omega, by omega, hE, hR, ?_⟩
        simp only [replyOf, if_neg hk, if_pos hE]
        rw [if_neg (by simpa using hR)]
      · simp only [replyOf, if_neg hk, if_pos hE] at h
        rw [if_pos (by simpa using hR)] at h
        exact absurd h hR
    · simp only [replyOf, if_neg hk, if_neg hE] at h
      rw [if_pos (by simpa using hE)] at h
      exact absurd h hE
theorem replyOf_back {f : Frame} (hw : f.wf) (h : (replyOf f).2 = 0) : replyE (replyOf f).1 = 0 ∧ replyFrame (replyOf f).1 = f := by
  obtain ⟨k1, k2, hE, hR, e⟩ := replyOf_ok h
  rw [e]
  obtain ⟨h1, h2⟩ := inEnd_ok hE
  obtain ⟨_, h3⟩ := replyRead_back h1
  obtain ⟨q1, q2⟩ := replyRead_kind f.channel (f.kind - 64) ⟨f.body, 0⟩
  refine ⟨hR, ?_⟩
  unfold replyFrame
  rw [if_pos hR, q1, q2]
  rw [h2, List.append_nil] at h3
  have hwr : IntKind.wrap .u8 (64 + (f.kind - 64)) = f.kind := by
    obtain ⟨_, ⟨q1, q2⟩, _⟩ := hw
    simp [IntKind.wrap, IntKind.bits, IntKind.signed]; omega
  have h3' : f.body = (replyOut (replyRead f.channel (f.kind - 64) ⟨f.body, 0⟩).1).s := h3
  rw [hwr, ← h3']

theorem sentRead_fwd {yes : Bool} {m : Mail} {r : Bs} (h1 : m.shop.length ≤ 16) (h2 : m.key.length ≤ 64) (h3 : headE m.head = 0) (hh : ∀ p ∈ m.head, p.wf) (h4 : m.body.length ≤ 256) (hz : m.id = 0 ∧ m.due = 0 ∧ m.hops = 0) :
    sentRead ⟨sentB yes m ++ r, 0⟩ = ((yes, m), ⟨r, 0⟩) := by
  obtain ⟨id, shop, key, head, body, due, hops⟩ := m
  simp only at *
  obtain ⟨rfl, rfl, rfl⟩ := hz
  have ey : ∀ z : Bs, inNum ⟨numB 1 (if yes = true then (1 : Int) else 0).toNat ++ z, 0⟩ 1 = ((if yes = true then (1 : Int) else 0), ⟨z, 0⟩) := fun z => inNum_fwd1 (by split <;> omega) (by split <;> omega)
  have et : ∀ (s z : Bs) (q : Int), (s.length : Int) ≤ q → (s.length : Int) ≤ 65535 → inText ⟨txtB s ++ z, 0⟩ q = (s, ⟨z, 0⟩) := fun s z q h1 h2 => by
    unfold txtB; rw [List.append_assoc]; exact inText_fwd h1 h2
  have hy : ¬ (1 < (if yes = true then (1 : Int) else 0)) := by split <;> omega
  unfold sentRead sentB
  simp only [List.append_assoc]
  rw [ey]
  simp only
  rw [if_neg hy, et _ _ _ (by omega) (by omega)]
  simp only
  rw [et _ _ _ (by omega) (by omega)]
  simp only
  rw [headRead_fwd h3 hh]
  simp only
  rw [et _ _ _ (by omega) (by omega)]
  cases yes <;> rfl
theorem replyRead_fwd {r : Reply} (hw : r.wf) (hh : ∀ p ∈ r.mail.head, p.wf) (h : replyE r = 0) : replyRead r.channel r.kind ⟨(replyOut r).s, 0⟩ = (r, ⟨[], 0⟩) := by
  obtain ⟨⟨w1, w2⟩, ⟨w3, w4⟩, ⟨w5, w6⟩, ⟨w7, w8⟩, _⟩ := hw
  have hlen := replyE_len r h
  unfold replyE at h
  split at h
  · cases h
  · rename_i hk
    split at h
    · cases h
    · rename_i hs
      obtain ⟨a1, a2, a3, a4, a5⟩ := spareR_ok (by simpa using hs)
      have en : ∀ z : Bs, inNum ⟨numB 8 r.n.toNat ++ z, 0⟩ 8 = (r.n, ⟨z, 0⟩) := fun z => inNum_fwd8 w5 (by omega)
      have em : ∀ z : Bs, inNum ⟨numB 8 r.m.toNat ++ z, 0⟩ 8 = (r.m, ⟨z, 0⟩) := fun z => inNum_fwd8 w7 (by omega)
      have mz : r.kind ≠ 3 → r.mail = Mail.zero := fun q => by
        obtain ⟨_, b1, b2, b3, b4⟩ := a3 q
        rw [Mail.eq_iff]; exact ⟨a1.1, b1, b2, b3, b4, a1.2.1, a1.2.2⟩
      have yz : r.kind ≠ 3 → r.yes = false := fun q => (a3 q).1
      unfold replyRead
      by_cases k0 : r.kind = 0
      · rw [if_pos k0, replyOut_0 k0 (by omega)]
        have e := inText_fwd (s := r.name) (r := []) (m := 16) (by omega) (by omega)
        rw [List.append_nil] at e
        unfold txtB
        rw [e]
        refine Prod.ext ?_ rfl
        rw [Reply.eq_iff]
        exact ⟨rfl, rfl, (a5 (by omega) (by omega)).symm, (a4 (by omega)).symm, (yz (by omega)).symm, rfl, (mz (by omega)).symm⟩
      · rw [if_neg k0]
        have nz := a2 k0
        by_cases k2 : r.kind = 2 ∨ r.kind = 5 ∨ r.kind = 7
        · rw [if_pos k2, replyOut_n k2]
          have e := en []
          rw [List.append_nil] at e
          rw [e]
          refine Prod.ext ?_ rfl
          rw [Reply.eq_iff]
          exact ⟨rfl, rfl, rfl, (a4 (by omega)).symm, (yz (by omega)).symm, nz.symm, (mz (by omega)).symm⟩
        · rw [if_neg k2]
          by_cases k6 : r.kind = 6
          · rw [if_pos k6, replyOut_6 k6, en]
            simp only
            have e := em []
            rw [List.append_nil] at e
            rw [e]
            refine Prod.ext ?_ rfl
            rw [Reply.eq_iff]
            exact ⟨rfl, rfl, rfl, rfl, (yz (by omega)).symm, nz.symm, (mz (by omega)).symm⟩
          · rw [if_neg k6]
            by_cases k3 : r.kind = 3
            · rw [if_neg k0, if_pos k3] at h
              obtain ⟨m1, m2, m3, m4⟩ := mailE_ok h
              rw [if_pos k3, replyOut_3 k3 (by omega) (by omega) (by omega), en]
              simp only
              rw [em]
              simp only
              have e := sentRead_fwd (yes := r.yes) (r := []) m1 m2 m3 hh m4 a1
              rw [List.append_nil] at e
              rw [e]
              refine Prod.ext ?_ rfl
              rw [Reply.eq_iff]
              exact ⟨rfl, rfl, rfl, rfl, rfl, nz.symm, rfl⟩
            · rw [if_neg k3, replyOut_e k0 k2 (by omega)]
              refine Prod.ext ?_ rfl
              rw [Reply.eq_iff]
              exact ⟨rfl, rfl, (a5 (by omega) (by omega)).symm, (a4 (by omega)).symm, (yz (by omega)).symm, nz.symm, (mz (by omega)).symm⟩
theorem replyOf_fwd {r : Reply} (hw : r.wf) (hh : ∀ p ∈ r.mail.head, p.wf) (h : replyE r = 0) : replyOf (replyFrame r) = (r, 0) := by
  have hk := replyRead_fwd hw hh h
  have hk7 : 0 ≤ r.kind ∧ r.kind ≤ 7 := by
    refine ⟨hw.2.1.1, ?_⟩
    have h' := h
    unfold replyE at h'
    split at h'
    · cases h'
    · omega
  have hwr : IntKind.wrap .u8 (64 + r.kind) = 64 + r.kind := by
    simp [IntKind.wrap, IntKind.bits, IntKind.signed]; omega
  unfold replyOf replyFrame
  rw [if_pos h]
  simp only [hwr]
  rw [if_neg (by omega), show (64 + r.kind - 64 : Int) = r.kind by omega, hk]
  simp only
  rw [if_pos inEnd_nil, if_neg (by simpa using h)]
end Go.SW


namespace Go.SW

def fSum (f : Frame) : Int := crcSum [numB 1 f.channel.toNat ++ (numB 1 f.kind.toNat ++ txtB f.body)]
def frB (f : Frame) : Bs := numB 1 f.channel.toNat ++ (numB 1 f.kind.toNat ++ (txtB f.body ++ (numB 4 (fSum f).toNat ++ numB 1 206)))
theorem frameBytes_s {f : Frame} (h : f.body.length ≤ 2048) : frameBytes f = frB f := by
  unfold frameBytes frameOut frB fSum
  rw [if_neg (by omega), outNum1, outNum1, outText_s (by omega)]
  simp only
  rw [outNum4, outNum1]
  simp only [List.nil_append, List.append_assoc]
  rfl
theorem frB_len (f : Frame) : (frB f).length = f.body.length + 9 := by
  simp [frB, txtB, numB_len]; omega

theorem parse_fwd {f : Frame} (hw : f.wf) (h : f.body.length ≤ 2048) (z : Bs) : parseF (frB f ++ z) = (f, ((frB f).length : Int), 0) := by
  obtain ⟨⟨w1, w2⟩, ⟨w3, w4⟩, _⟩ := hw
  have hs := crcSum_r [numB 1 f.channel.toNat ++ (numB 1 f.kind.toNat ++ txtB f.body)]
  have e1 : ∀ q : Bs, inNum ⟨numB 1 f.channel.toNat ++ q, 0⟩ 1 = (f.channel, ⟨q, 0⟩) := fun q => inNum_fwd (k := 1) (by omega) w1 (by omega) (by omega)
  have e2 : ∀ q : Bs, inNum ⟨numB 1 f.kind.toNat ++ q, 0⟩ 1 = (f.kind, ⟨q, 0⟩) := fun q => inNum_fwd (k := 1) (by omega) w3 (by omega) (by omega)
  have e3 : ∀ q : Bs, inText ⟨txtB f.body ++ q, 0⟩ 2048 = (f.body, ⟨q, 0⟩) := fun q => by unfold txtB; rw [List.append_assoc]; exact inText_fwd (by omega) (by omega)
  have e4 : ∀ q : Bs, inNum ⟨numB 4 (fSum f).toNat ++ q, 0⟩ 4 = (fSum f, ⟨q, 0⟩) := fun q => inNum_fwd (k := 4) (by omega) hs.1 (by have := hs.2; simp only [fSum]; omega) (by omega)
  have e5 : ∀ q : Bs, inNum ⟨numB 1 206 ++ q, 0⟩ 1 = (206, ⟨q, 0⟩) := fun q => inNum_fwd (n := 206) (k := 1) (by omega) (by omega) (by omega) (by omega)
  have hl := frB_len f
  have ht : (frB f ++ z).take (4 + f.body.length) = numB 1 f.channel.toNat ++ (numB 1 f.kind.toNat ++ txtB f.body) := by
    have e : frB f ++ z = (numB 1 f.channel.toNat ++ (numB 1 f.kind.toNat ++ txtB f.body)) ++ ((numB 4 (fSum f).toNat ++ numB 1 206) ++ z) := by simp [frB]
    have el : 4 + f.body.length = (numB 1 f.channel.toNat ++ (numB 1 f.kind.toNat ++ txtB f.body)).length := by simp [txtB, numB_len]; omega
    rw [e, el]; exact List.take_left
  have hb : (⟨frB f ++ z, 0⟩ : In) = ⟨numB 1 f.channel.toNat ++ (numB 1 f.kind.toNat ++ (txtB f.body ++ (numB 4 (fSum f).toNat ++ (numB 1 206 ++ z)))), 0⟩ := by simp [frB]
  unfold parseF
  simp only
  rw [hb, e1]
  simp only
  rw [e2]
  simp only
  rw [e3]
  simp only
  rw [e4]
  simp only
  rw [e5]
  simp only
  rw [ht, if_neg (by simp), if_neg (by simp), if_neg (by simp [fSum])]
  rw [hl]
  congr 2
  omega

theorem inNum_short {s : Bs} {k : Nat} (h : s.length < k) (h8 : k ≤ 8) : inNum ⟨s, 0⟩ k = (0, ⟨[], 3⟩) := by
  unfold inNum inRaw
  rw [show min (k : Int) 8 = k by omega]
  have c1 : ¬ ((0 : Int) ≠ 0 ∨ (k : Int) ≤ 0) := by omega
  simp only [if_neg c1]
  rw [if_pos (by omega)]; rfl
theorem num3 (b : Int) : inNum ⟨[], 3⟩ b = (0, ⟨[], 3⟩) := inNum_bad (by decide) b
theorem text3 {m : Int} (h : 0 ≤ m) : inText ⟨[], 3⟩ m = ([], ⟨[], 3⟩) := by
  obtain ⟨a, b⟩ := inText_bad (i := ⟨[], 3⟩) (by decide) m
  rw [if_neg (by omega)] at b
  exact Prod.ext a b
theorem inText_short {s r : Bs} {n m : Nat} (hn : n ≤ 65535) (hm : n ≤ m) (h : s.length < n + 2) (hp : ∀ q, 2 ≤ s.length → q = s.drop 2 → s = numB 2 n ++ q) : inText ⟨s, 0⟩ m = ([], ⟨[], 3⟩) := by
  by_cases h2 : s.length < 2
  · unfold inText
    rw [show (2 : Int) = ((2 : Nat) : Int) from rfl, inNum_short h2 (by omega)]
    simp only
    rw [if_neg (by omega)]; rfl
  · have e := hp _ (by omega) rfl
    have e2 := inNum_fwd (r := s.drop 2) (n := (n : Int)) (k := 2) (by omega) (by omega) (by omega) (by omega)
    rw [Int.toNat_natCast, ← e] at e2
    have e3 : inNum ⟨s, 0⟩ 2 = ((n : Int), ⟨s.drop 2, 0⟩) := e2
    unfold inText
    rw [e3]
    simp only
    rw [if_neg (by omega)]
    unfold inRaw
    have c1 : ¬ ((0 : Int) ≠ 0 ∨ (n : Int) ≤ 0) := by omega
    have c2 : ((s.drop 2).length : Int) < (n : Int) := by rw [List.length_drop]; omega
    simp only [if_neg c1, if_pos c2]

theorem take_app {a b : Bs} {k : Nat} (h : a.length ≤ k) : (a ++ b).take k = a ++ b.take (k - a.length) := by
  rw [List.take_append, List.take_of_length_le h]
theorem parse_short {f : Frame} (hw : f.wf) (h : f.body.length ≤ 2048) {k : Nat} (hk : k < (frB f).length) : (parseF ((frB f).take k)).2.2 = 3 := by
  obtain ⟨⟨w1, w2⟩, ⟨w3, w4⟩, _⟩ := hw
  have hs := crcSum_r [numB 1 f.channel.toNat ++ (numB 1 f.kind.toNat ++ txtB f.body)]
  have hl := frB_len f
  have e1 : ∀ q : Bs, inNum ⟨numB 1 f.channel.toNat ++ q, 0⟩ 1 = (f.channel, ⟨q, 0⟩) := fun q => inNum_fwd (k := 1) (by omega) w1 (by omega) (by omega)
  have e2 : ∀ q : Bs, inNum ⟨numB 1 f.kind.toNat ++ q, 0⟩ 1 = (f.kind, ⟨q, 0⟩) := fun q => inNum_fwd (k := 1) (by omega) w3 (by omega) (by omega)
  have e3 : ∀ q : Bs, inText ⟨txtB f.body ++ q, 0⟩ 2048 = (f.body, ⟨q, 0⟩) := fun q => by unfold txtB; rw [List.append_assoc]; exact inText_fwd (by omega) (by omega)
  have e4 : ∀ q : Bs, inNum ⟨numB 4 (fSum f).toNat ++ q, 0⟩ 4 = (fSum f, ⟨q, 0⟩) := fun q => inNum_fwd (k := 4) (by omega) hs.1 (by have := hs.2; simp only [fSum]; omega) (by omega)
  have fin : (inNum (inNum (inText (inNum (inNum ⟨(frB f).take k, 0⟩ 1).2 1).2 2048).2 4).2 1).2 = ⟨[], 3⟩ := by
    by_cases k0 : k = 0
    · subst k0
      rw [List.take_zero, show (1 : Int) = ((1 : Nat) : Int) from rfl, inNum_short (s := []) (k := 1) (by simp) (by omega)]
      simp only
      rw [num3]
      simp only
      rw [text3 (by omega)]
      simp only
      rw [num3, num3]
    · have q1 : (frB f).take k = numB 1 f.channel.toNat ++ (numB 1 f.kind.toNat ++ (txtB f.body ++ (numB 4 (fSum f).toNat ++ numB 1 206))).take (k - 1) := by
        unfold frB; rw [take_app (by rw [numB_len]; omega), numB_len]
      rw [q1, e1]
      simp only
      by_cases k1 : k = 1
      · subst k1
        rw [show (1 : Int) = ((1 : Nat) : Int) from rfl, List.take_zero, inNum_short (s := []) (k := 1) (by simp) (by omega)]
        simp only
        rw [text3 (by omega)]
        simp only
        rw [num3, num3]
      · rw [take_app (by rw [numB_len]; omega), numB_len, e2]
        simp only
        by_cases kt : k < f.body.length + 4
        · have ht : inText ⟨(txtB f.body ++ (numB 4 (fSum f).toNat ++ numB 1 206)).take (k - 1 - 1), 0⟩ ((2048 : Nat) : Int) = ([], ⟨[], 3⟩) := by
            refine inText_short (r := []) (n := f.body.length) (by omega) h (by rw [List.length_take]; omega) fun q hq he => ?_
            rw [List.length_take] at hq
            rw [he]
            have : (txtB f.body ++ (numB 4 (fSum f).toNat ++ numB 1 206)).take (k - 1 - 1) = numB 2 f.body.length ++ (f.body ++ (numB 4 (fSum f).toNat ++ numB 1 206)).take (k - 1 - 1 - 2) := by
              unfold txtB; rw [List.append_assoc, take_app (by rw [numB_len]; omega), numB_len]
            rw [this]
            have e2l : (numB 2 f.body.length).length = 2 := numB_len _ _
            rw [List.drop_append, e2l, Nat.sub_self, List.drop_zero, List.drop_of_length_le (by omega), List.nil_append]
          have ht' : inText ⟨(txtB f.body ++ (numB 4 (fSum f).toNat ++ numB 1 206)).take (k - 1 - 1), 0⟩ 2048 = ([], ⟨[], 3⟩) := ht
          rw [ht']
          simp only
          rw [num3, num3]
        · have tl : (txtB f.body).length = f.body.length + 2 := by simp [txtB, numB_len]; omega
          rw [take_app (by omega), tl, e3]
          simp only
          by_cases ks : k < f.body.length + 8
          · have : inNum ⟨(numB 4 (fSum f).toNat ++ numB 1 206).take (k - 1 - 1 - (f.body.length + 2)), 0⟩ ((4 : Nat) : Int) = (0, ⟨[], 3⟩) := inNum_short (by rw [List.length_take]; omega) (by omega)
            have t' : inNum ⟨(numB 4 (fSum f).toNat ++ numB 1 206).take (k - 1 - 1 - (f.body.length + 2)), 0⟩ 4 = (0, ⟨[], 3⟩) := this
            rw [t']
            simp only
            rw [num3]
          · rw [take_app (by rw [numB_len]; omega), numB_len, e4]
            simp only
            have : inNum ⟨(numB 1 206).take (k - 1 - 1 - (f.body.length + 2) - 4), 0⟩ ((1 : Nat) : Int) = (0, ⟨[], 3⟩) := inNum_short (by rw [List.length_take]; omega) (by omega)
            have t' : inNum ⟨(numB 1 206).take (k - 1 - 1 - (f.body.length + 2) - 4), 0⟩ 1 = (0, ⟨[], 3⟩) := this
            rw [t']
  unfold parseF
  simp only
  rw [fin]
  simp

/-! Feeds: the bytes of frames, in two pieces -/
def catB (fs : List Frame) : Bs := fs.flatMap frB
def okF (f : Frame) : Prop := f.wf ∧ f.body.length ≤ 2048
theorem feedGo_take : ∀ (fs : List Frame) (k fuel : Nat) (out : List Frame), (∀ f ∈ fs, okF f) → k ≤ (catB fs).length → k < fuel →
    ∃ j, ∃ r, feedGo fuel ((catB fs).take k) out = (⟨r, 0⟩, out ++ fs.take j) ∧ r ++ (catB fs).drop k = catB (fs.drop j) ∧ (k = (catB fs).length → j = fs.length ∧ r = [])
  | [], k, fuel + 1, out, _, hk, _ => by
    have : k = 0 := by simpa [catB] using hk
    subst this
    refine ⟨0, [], ?_, by simp [catB], fun _ => ⟨rfl, rfl⟩⟩
    have e : (parseF []).2.2 = 3 := by decide +kernel
    simp [catB, feedGo, e]
  | f :: fs, k, fuel + 1, out, hf, hk, hfu => by
    obtain ⟨hw, hb⟩ := hf f (by simp)
    have hl := frB_len f
    have ec : catB (f :: fs) = frB f ++ catB fs := by simp [catB]
    rw [ec]
    rw [ec, List.length_append] at hk
    by_cases hc : (frB f).length ≤ k
    · rw [take_app hc]
      simp only [feedGo]
      rw [parse_fwd hw hb]
      simp only [if_true]
      have ed : (frB f ++ (catB fs).take (k - (frB f).length)).drop (((frB f).length : Int)).toNat = (catB fs).take (k - (frB f).length) := by
        rw [Int.toNat_natCast]; simp
      rw [ed]
      obtain ⟨j, r, h1, h2, h3⟩ := feedGo_take fs (k - (frB f).length) fuel (out ++ [f]) (fun q hq => hf q (by simp [hq])) (by omega) (by omega)
      refine ⟨j + 1, r, by rw [h1]; simp, ?_, fun e => ?_⟩
      · rw [List.drop_append, List.drop_of_length_le hc, List.nil_append, h2]; rfl
      · rw [List.length_append] at e
        obtain ⟨q1, q2⟩ := h3 (by omega)
        exact ⟨by simp [q1], q2⟩
    · have hk' : k < (frB f).length := by omega
      rw [List.take_append_of_le_length (by omega)]
      simp only [feedGo]
      have h3 := parse_short hw hb hk'
      rw [h3]
      refine ⟨0, (frB f).take k, by simp, ?_, fun e => ?_⟩
      · rw [List.drop_append_of_le_length (by omega), ← List.append_assoc, List.take_append_drop]
        simp [catB]
      · rw [List.length_append] at e; omega
end Go.SW


namespace Go.SW

theorem RSt.raw0 {r : RIn} {i : In} {n : Int} (h : RSt r i) (hc : ¬ r.code = 0 ∨ n ≤ 0) : inRaw i n = ([], i) := by
  unfold inRaw
  rw [if_pos]
  rcases hc with q | q
  · exact .inl (by rw [h.err]; exact q)
  · exact .inr q
theorem RSt.raw3 {r : RIn} {i : In} {n : Int} (h : RSt r i) (hc : r.code = 0) (hn : ¬ n ≤ 0) (hl : (r.s.length : Int) - r.pos < n) : inRaw i n = ([], ⟨[], 3⟩) := by
  unfold inRaw
  have e : i.err = 0 := by rw [h.err, hc]
  have hs := h.ok hc
  have lo := h.lo
  have hi := h.hi
  rw [if_neg (by omega), if_pos (by rw [hs, List.length_drop]; omega)]
theorem RSt.rawS {r : RIn} {i : In} {n : Int} (h : RSt r i) (hc : r.code = 0) (hn : ¬ n ≤ 0) (hl : ¬ (r.s.length : Int) - r.pos < n) : inRaw i n = ((r.s.drop r.pos.toNat).take n.toNat, ⟨(r.s.drop r.pos.toNat).drop n.toNat, i.err⟩) ∧ RSt ⟨r.s, r.pos + n, r.code⟩ ⟨(r.s.drop r.pos.toNat).drop n.toNat, i.err⟩ := by
  have e : i.err = 0 := by rw [h.err, hc]
  have hs := h.ok hc
  have lo := h.lo
  have hi := h.hi
  constructor
  · unfold inRaw
    rw [if_neg (by omega), if_neg (by rw [hs, List.length_drop]; omega), hs]
  · refine ⟨by simp only; omega, by simp only; omega, h.len, by rw [e]; exact hc.symm, fun _ => ?_, fun q => absurd hc q⟩
    simp only [List.drop_drop]
    congr 1
    omega
theorem RSt.err3 {r : RIn} {i : In} (h : RSt r i) : RSt ⟨r.s, r.pos, 3⟩ ⟨[], 3⟩ :=
  { lo := h.lo, hi := h.hi, len := h.len, err := rfl, ok := fun q => by have q' : (3 : Int) = 0 := q; omega, bad := fun _ => rfl }
theorem RSt.end' {r : RIn} {i : In} (h : RSt r i) : inEnd i = if r.code = 0 ∧ r.pos < r.s.length then 4 else r.code := by
  unfold inEnd
  rw [h.err]
  by_cases hc : r.code = 0
  · have hs := h.ok hc
    have lo := h.lo
    have hi := h.hi
    rw [hs, List.length_drop]
    by_cases q : r.pos < r.s.length
    · rw [if_pos ⟨hc, by omega⟩, if_pos ⟨hc, q⟩]
    · rw [if_neg (by rintro ⟨_, z⟩; omega), if_neg (by rintro ⟨_, z⟩; exact q z)]
  · rw [if_neg (fun q => hc q.1), if_neg (fun q => hc q.1)]
theorem beN_step {l : Bs} {k : Nat} (hk : k < l.length) (h8 : l.length ≤ 8) : IntKind.u64.wrap (IntKind.u64.wrap ((beN (l.take k) : Int) * 256) + ((l.getD k 0).toNat : Int)) = ((beN (l.take (k + 1)) : Nat) : Int) := by
  have hc : l[k]? = some (l.getD k 0) := by rw [List.getD_eq_getElem?_getD, List.getElem?_eq_getElem hk]; rfl
  have hlt := beN_lt (l.take k)
  have hl : (l.take k).length ≤ k := List.length_take_le _ _
  have h2 : 256 ^ (l.take k).length ≤ 256 ^ 7 := Nat.pow_le_pow_right (by omega) (by omega)
  rw [beN_take hc]
  have hb := (l.getD k 0).toNat_lt
  generalize beN (l.take k) = z at *
  generalize (l.getD k 0).toNat = y at *
  simp [IntKind.wrap, IntKind.bits, IntKind.signed]
  omega
/-! Words by the document -/
theorem dots_none : ∀ {t : Bs}, (∀ c ∈ t, ¬ c = 46) → dots t = [t]
  | [], _ => rfl
  | c :: r, h => by
    have ih := dots_none (t := r) (fun x hx => h x (by simp [hx]))
    unfold dots
    rw [if_neg (h c (by simp)), ih]
theorem dots_at : ∀ {m : Nat} {t : Bs}, (∀ c ∈ t.take m, ¬ c = 46) → t[m]? = some 46 → dots t = t.take m :: dots (t.drop (m + 1))
  | 0, [], _, h => by simp at h
  | 0, c :: r, _, h => by
    have : c = 46 := by simpa using h
    subst this
    rfl
  | m + 1, [], _, h => by simp at h
  | m + 1, c :: r, hn, h => by
    have ih := dots_at (m := m) (t := r) (fun x hx => hn x (by simp [hx])) (by simpa using h)
    rw [dots, if_neg (hn c (by simp)), ih]
    rfl
/-- No dot from f on up to k. -/
def noDot (s : Bs) (f k : Nat) : Prop := ∀ j, f ≤ j → j < k → ¬ s.getD j 0 = 46
theorem noDot_mem {s : Bs} {f k : Nat} (h : noDot s f k) : ∀ c ∈ (s.drop f).take (k - f), ¬ c = 46 := fun c hc => by
  obtain ⟨j, hj, rfl⟩ := List.getElem_of_mem hc
  rw [List.length_take, List.length_drop] at hj
  have := h (f + j) (by omega) (by omega)
  rw [List.getElem_take, List.getElem_drop]
  rw [List.getD_eq_getElem?_getD, List.getElem?_eq_getElem (by omega)] at this
  exact this
theorem split_hit {s : Bs} {f k : Nat} {out : List Bs} (h : dots s = out ++ dots (s.drop f)) (hn : noDot s f k) (hf : f ≤ k) (hk : k < s.length) (hc : s.getD k 0 = 46) : dots s = (out ++ [(s.drop f).take (k - f)]) ++ dots (s.drop (k + 1)) := by
  rw [h]
  have hg : (s.drop f)[k - f]? = some 46 := by
    rw [List.getElem?_drop, show f + (k - f) = k by omega, List.getElem?_eq_getElem hk]
    rw [List.getD_eq_getElem?_getD, List.getElem?_eq_getElem hk] at hc
    exact congrArg some hc
  rw [dots_at (noDot_mem hn) hg, List.drop_drop, show f + (k - f + 1) = k + 1 by omega]
  simp
theorem split_end {s : Bs} {f k : Nat} {out : List Bs} (h : dots s = out ++ dots (s.drop f)) (hn : noDot s f k) (hk : s.length ≤ k) : dots s = out ++ [s.drop f] := by
  rw [h]
  have := noDot_mem hn
  rw [List.take_of_length_le (by rw [List.length_drop]; omega)] at this
  rw [dots_none this]
theorem noDot_step {s : Bs} {f k : Nat} (h : noDot s f k) (hc : ¬ s.getD k 0 = 46) : noDot s f (k + 1) := fun j h1 h2 => by
  by_cases e : j = k
  · subst e; exact hc
  · exact h j h1 (by omega)
theorem noDot_nil {s : Bs} {f : Nat} : noDot s f f := fun j h1 h2 => by omega
theorem byteEq {c : UInt8} {n : Nat} (hn : n < 256) (h : (c.toNat : Int) = n) : c = UInt8.ofNat n := by
  apply UInt8.toNat_inj.1
  rw [UInt8.toNat_ofNat']
  have : (2 : Nat) ^ 8 = 256 := rfl
  omega
theorem byteNe {c : UInt8} {n : Nat} (hn : n < 256) (h : ¬ (c.toNat : Int) = n) : ¬ c = UInt8.ofNat n := by
  rintro rfl
  rw [UInt8.toNat_ofNat'] at h
  have : (2 : Nat) ^ 8 = 256 := rfl
  omega
def besidesOf (pattern : Bool) : List Bs := if pattern = true then [[42], [35]] else []
theorem letter_all {s : Bs} {k : Nat} (hk : k < s.length) : (s.drop k).all (fun c => letter c.toNat) = (letter (s.getD k 0).toNat && (s.drop (k + 1)).all (fun c => letter c.toNat)) := by
  rw [drop_getD hk, List.all_cons]
end Go.SW


namespace Go.SW

theorem isBad_doc {p b : Bool} {w : Bs} (h : (decide ((w.length : Int) = 0) || !plain w) = b) : isBad (besidesOf p) w = (b && !(p && (decide (w = [42]) || decide (w = [35])))) := by
  subst h
  have e : (w == []) = decide ((w.length : Int) = 0) := by
    cases w with
    | nil => rfl
    | cons c r => simp; omega
  unfold isBad besidesOf
  rw [e]
  cases p
  · simp
  · simp [Bool.and_comm]
theorem numB_snoc : ∀ (k n : Nat), numB (k + 1) n = numB k (n / 256) ++ [UInt8.ofNat (n % 256)]
  | 0, n => by
    simp only [numB, Nat.pow_zero, Nat.div_one, List.nil_append, List.cons.injEq, and_true]
    apply UInt8.toNat_inj.1
    simp only [UInt8.toNat_ofNat']
    have : (2 : Nat) ^ 8 = 256 := rfl
    omega
  | k + 1, n => by
    have ih := numB_snoc k n
    have e : numB (k + 2) n = UInt8.ofNat (n / 256 ^ (k + 1)) :: numB (k + 1) n := rfl
    rw [e, ih]
    simp only [numB, List.cons_append]
    rw [Nat.div_div_eq_div_mul, Nat.pow_succ, Nat.mul_comm]
theorem numK_pred {b : Int} (h : 1 ≤ b) (h8 : b ≤ 8) : numK b = numK (b - 1) + 1 := by unfold numK; omega
theorem num_doc {n b : Int} (h0 : 0 ≤ n) (h : 1 ≤ b) (h8 : b ≤ 8) : numB (numK b) n.toNat = numB (numK (b - 1)) (n / 256).toNat ++ [UInt8.ofNat (n % 256).toNat] := by
  rw [numK_pred h h8, numB_snoc]
  have e1 : (n / 256).toNat = n.toNat / 256 := by omega
  have e2 : (n % 256).toNat = n.toNat % 256 := by omega
  rw [e1, e2]

theorem numK_le (b : Int) : numK b ≤ 8 := by unfold numK; omega
theorem txtB_len (s : Bs) : (txtB s).length = s.length + 2 := by simp [txtB, numB_len]; omega
def smallH (h : List Pair) : Prop := h.length ≤ 1000 ∧ ∀ p ∈ h, p.key.length ≤ 1000 ∧ p.text.length ≤ 1000
theorem smallH_light {h : List Pair} (e : lightH h = true) : smallH h := by
  simp only [lightH, Bool.and_eq_true, decide_eq_true_eq, List.all_eq_true, lightP] at e
  exact ⟨by omega, fun p hp => by have := e.2 p hp; omega⟩
theorem smallH_lightR {r : Reply} (e : lightR r = true) : smallH r.mail.head := by
  simp only [lightR, Bool.and_eq_true] at e
  exact smallH_light e.1.2
theorem pairB_len {p : Pair} (h : p.key.length ≤ 1000 ∧ p.text.length ≤ 1000) : (pairB p).length ≤ 2100 := by
  unfold pairB
  simp only [List.length_append, txtB, numB_len]
  split
  · rw [numB_len]; omega
  · split
    · simp only [List.length_append, numB_len]; omega
    · rw [numB_len]; omega
def r9B (h : List Pair) : Bs := numB 1 h.length ++ h.flatMap pairB

theorem replyE_doc (r : Reply) : replyE r = if 7 < r.kind then 8
    else if r.mail.id ≠ 0 ∨ r.mail.due ≠ 0 ∨ r.mail.hops ≠ 0 ∨ (r.n ≠ 0 ∧ ¬ (r.kind = 2 ∨ r.kind = 3 ∨ r.kind = 5 ∨ r.kind = 6 ∨ r.kind = 7)) ∨ (r.m ≠ 0 ∧ ¬ (r.kind = 3 ∨ r.kind = 6)) ∨ (r.name ≠ [] ∧ r.kind ≠ 0) then 4
    else if r.kind ≠ 3 then (if r.yes = true ∨ r.mail.shop ≠ [] ∨ r.mail.key ≠ [] ∨ (0 : Int) < r.mail.head.length ∨ r.mail.body ≠ [] then 4 else if r.kind = 0 then nameE r.name else 0)
    else mailE r.mail := by
  unfold replyE
  by_cases h7 : 7 < r.kind
  · rw [if_pos h7, if_pos h7]
  · rw [if_neg h7, if_neg h7]
    by_cases hs : spareR r = true
    · rw [if_pos hs]
      split
      · rfl
      · rename_i h1
        have e3 : r.kind ≠ 3 := by
          intro k3
          have n2 : ¬ ((r.name ≠ [] ∧ r.kind ≠ 0) ∨ (r.kind ≠ 3 ∧ (r.yes = true ∨ blankM r.mail = false))) := by
            rintro (q | q)
            · exact h1 (.inr (.inr (.inr (.inr (.inr q)))))
            · exact q.1 k3
          unfold spareR at hs
          rw [if_neg (by omega), if_neg n2, if_pos (.inl k3)] at hs
          cases hs
        rw [if_pos e3]
        split
        · rfl
        · rename_i h2
          exfalso
          unfold spareR at hs
          have hb : blankM r.mail = true := by
            have a1 : r.mail.shop = [] := Decidable.byContradiction fun q => h2 (.inr (.inl q))
            have a2 : r.mail.key = [] := Decidable.byContradiction fun q => h2 (.inr (.inr (.inl q)))
            have a4 : r.mail.body = [] := Decidable.byContradiction fun q => h2 (.inr (.inr (.inr (.inr q))))
            simp [blankM, a1, a2, a4]
            by_cases q : r.mail.head.length = 0
            · exact List.eq_nil_of_length_eq_zero q
            · exact absurd (.inr (.inr (.inr (.inl (by omega))))) h2
          have hy : ¬ r.yes = true := fun q => h2 (.inl q)
          have n2 : ¬ ((r.name ≠ [] ∧ r.kind ≠ 0) ∨ (r.kind ≠ 3 ∧ (r.yes = true ∨ blankM r.mail = false))) := by
            rintro (q | ⟨_, q | q⟩)
            · exact h1 (.inr (.inr (.inr (.inr (.inr q)))))
            · exact hy q
            · rw [hb] at q; cases q
          rw [if_neg (by omega), if_neg n2] at hs
          split at hs
          · cases hs
          · rename_i z1
            split at hs
            · have q : r.m ≠ 0 := by simpa using hs
              exact h1 (.inr (.inr (.inr (.inr (.inl ⟨q, z1⟩)))))
            · rename_i z2
              have q : r.n ≠ 0 ∨ r.m ≠ 0 := by simpa using hs
              rcases q with q | q
              · exact h1 (.inr (.inr (.inr (.inl ⟨q, by omega⟩))))
              · exact h1 (.inr (.inr (.inr (.inr (.inl ⟨q, z1⟩)))))
    · rw [if_neg hs]
      obtain ⟨a1, a2, a3, a4, a5⟩ := spareR_ok (by simpa using hs)
      have n1 : ¬ (r.mail.id ≠ 0 ∨ r.mail.due ≠ 0 ∨ r.mail.hops ≠ 0 ∨ (r.n ≠ 0 ∧ ¬ (r.kind = 2 ∨ r.kind = 3 ∨ r.kind = 5 ∨ r.kind = 6 ∨ r.kind = 7)) ∨ (r.m ≠ 0 ∧ ¬ (r.kind = 3 ∨ r.kind = 6)) ∨ (r.name ≠ [] ∧ r.kind ≠ 0)) := by
        rintro (q | q | q | ⟨q, z⟩ | ⟨q, z⟩ | ⟨q, z⟩)
        · exact q a1.1
        · exact q a1.2.1
        · exact q a1.2.2
        · exact q (a5 (by omega) (by omega))
        · exact q (a4 z)
        · exact q (a2 z)
      rw [if_neg n1]
      by_cases k3 : r.kind = 3
      · have k0 : ¬ r.kind = 0 := by omega
        have n3 : ¬ r.kind ≠ 3 := fun q => q k3
        rw [if_neg k0, if_pos k3, if_neg n3]
      · obtain ⟨b0, b1, b2, b3, b4⟩ := a3 k3
        have n4 : ¬ (r.yes = true ∨ r.mail.shop ≠ [] ∨ r.mail.key ≠ [] ∨ (0 : Int) < r.mail.head.length ∨ r.mail.body ≠ []) := by
          rw [b0, b1, b2, b3, b4]; simp
        have p3 : r.kind ≠ 3 := k3
        rw [if_pos p3, if_neg n4, if_neg k3]
theorem pairErr_doc (p : Pair) (ahead : List Pair) : pairErr p ahead = if nameE p.key ≠ 0 then nameE p.key else if 2 < p.kind then 8 else if p.kind = 1 ∧ (64 : Int) < p.text.length then 5 else if p.kind = 2 ∧ (p.num < 0 ∨ 1 < p.num) then 7 else if p.kind = 1 ∧ p.num ≠ 0 ∨ p.kind ≠ 1 ∧ p.text ≠ [] then 4 else if (findP ahead p.key).isSome then 9 else 0 := by
  unfold pairErr
  have e : (p.kind = 2 ∧ p.num ≠ 0 ∧ p.num ≠ 1) ↔ (p.kind = 2 ∧ (p.num < 0 ∨ 1 < p.num)) := by omega
  simp only [e]
end Go.SW


namespace Go.SW

theorem wr_i64 (z : Int) : -9223372036854775808 ≤ IntKind.wrap .i64 z ∧ IntKind.wrap .i64 z ≤ 9223372036854775807 := by
  simp only [IntKind.wrap, IntKind.bits, IntKind.signed]
  simp
  omega
theorem wr_i32 (z : Int) : -2147483648 ≤ IntKind.wrap .i32 z ∧ IntKind.wrap .i32 z ≤ 2147483647 := by
  simp only [IntKind.wrap, IntKind.bits, IntKind.signed]
  simp
  omega
theorem readOne_wf (i : In) : (readOne i).1.wf := by
  have h1 := inText_len i 16
  have h2 := inNum_r (inText i 16).2 1
  have h3 := inText_len (inNum (inText i 16).2 1).2 64
  have h4 := wr_i64 (inNum (inNum (inText i 16).2 1).2 8).1
  have h5 := wr_i64 (inNum (inNum (inText i 16).2 1).2 1).1
  unfold readOne
  simp only
  repeat' split
  all_goals simp only [Pair.wf]
  all_goals refine ⟨by omega, by omega, by omega, ?_⟩
  all_goals first | omega | (simp; done)
theorem readGo_len : ∀ (k : Nat) (i : In) (h : List Pair), (readGo k i h).1.length ≤ h.length + k
  | 0, i, h => by simp [readGo]
  | k + 1, i, h => by
    simp only [readGo]
    generalize (if (readOne i).2.err = 0 then inFail (readOne i).2 (pairErr (readOne i).1 h) else (readOne i).2) = j
    by_cases e : j.err = 0
    · rw [if_neg (by simpa using e)]
      have := readGo_len k j (h ++ [(readOne i).1])
      simp at this; omega
    · rw [if_pos e]; simp
theorem headRead_len (i : In) : (headRead i).1.length ≤ 255 := by
  have := readGo_len (inNum i 1).1.toNat (if 8 < (inNum i 1).1 then inFail (inNum i 1).2 6 else (inNum i 1).2) []
  have hr := inNum_r i 1
  unfold headRead; simp at this; omega
theorem readOne_bad {i : In} (h : i.err ≠ 0) : (readOne i).2 = i := by
  unfold readOne
  obtain ⟨a1, a2⟩ := inText_bad h 16
  rw [if_neg (by omega)] at a2
  simp only
  rw [a2, inNum_bad h]
  simp only [if_true]
  rw [inNum_bad h]
theorem readGo_bad {i : In} (h : i.err ≠ 0) : ∀ k, readGo k i [] = ([], i)
  | 0 => rfl
  | k + 1 => by
    simp only [readGo]
    rw [readOne_bad h, if_neg h, if_pos h]
theorem readGo_step {k : Nat} {i : In} {h : List Pair} {p : Pair} {q : In} (e : readOne i = (p, q)) : readGo (k + 1) i h = if (if q.err = 0 then inFail q (pairErr p h) else q).err ≠ 0 then ([], if q.err = 0 then inFail q (pairErr p h) else q) else readGo k (if q.err = 0 then inFail q (pairErr p h) else q) (h ++ [p]) := by
  simp only [readGo]; rw [e]
theorem readGo_ok {k : Nat} {i : In} {h : List Pair} {p : Pair} {q : In} (e : readOne i = (p, q)) (hq : q.err = 0) (hz : (inFail q (pairErr p h)).err = 0) : readGo (k + 1) i h = readGo k (inFail q (pairErr p h)) (h ++ [p]) := by
  rw [readGo_step e]; simp only [if_pos hq]; rw [if_neg (by simpa using hz)]
theorem readGo_er1 {k : Nat} {i : In} {h : List Pair} {p : Pair} {q : In} (e : readOne i = (p, q)) (hq : q.err = 0) (hz : ¬ (inFail q (pairErr p h)).err = 0) : readGo (k + 1) i h = ([], inFail q (pairErr p h)) := by
  rw [readGo_step e]; simp only [if_pos hq]; rw [if_pos hz]
theorem readGo_er0 {k : Nat} {i : In} {h : List Pair} {p : Pair} {q : In} (e : readOne i = (p, q)) (hq : ¬ q.err = 0) : readGo (k + 1) i h = ([], q) := by
  rw [readGo_step e]; simp only [if_neg hq]; rw [if_pos hq]
theorem replyRead_wf {c k : Int} {i : In} (hc : 0 ≤ c ∧ c ≤ 255) (hk : 0 ≤ k ∧ k ≤ 255) : (replyRead c k i).1.wf := by
  have n8 := inNum_r i 8
  have m8 := inNum_r (inNum i 8).2 8
  have t := inText_len i 16
  have e0 : ∀ (a b : Int) (y : Bool) (s : Bs), 0 ≤ a ∧ a ≤ 18446744073709551615 → 0 ≤ b ∧ b ≤ 18446744073709551615 → (s.length : Int) ≤ 65535 → Reply.wf ⟨c, k, a, b, y, s, Mail.zero⟩ := fun a b y s h1 h2 h3 => by
    simp only [Reply.wf, Mail.wf, Mail.zero]
    refine ⟨hc, hk, h1, h2, by omega, by omega, by omega, by omega, by simp, by simp, by simp, by simp⟩
  unfold replyRead
  repeat' split
  · exact e0 _ _ _ _ (by omega) (by omega) t
  · exact e0 _ _ _ _ (by omega) (by omega) (by simp)
  · exact e0 _ _ _ _ (by omega) (by omega) (by simp)
  · unfold sentRead
    simp only [Reply.wf, Mail.wf]
    have a1 := inText_len (if 1 < (inNum (inNum (inNum i 8).2 8).2 1).1 then inFail (inNum (inNum (inNum i 8).2 8).2 1).2 4 else (inNum (inNum (inNum i 8).2 8).2 1).2) 16
    generalize inText (if 1 < (inNum (inNum (inNum i 8).2 8).2 1).1 then inFail (inNum (inNum (inNum i 8).2 8).2 1).2 4 else (inNum (inNum (inNum i 8).2 8).2 1).2) 16 = s at *
    have a2 := inText_len s.2 64
    generalize inText s.2 64 = z at *
    have a3 := headRead_len z.2
    generalize headRead z.2 = hd at *
    have a4 := inText_len hd.2 256
    refine ⟨hc, hk, by omega, by omega, by simp, by omega, by omega, by omega, by omega, by omega, by omega, by omega⟩
  · exact e0 _ _ _ _ (by omega) (by omega) (by simp)
theorem replyOf_wf {f : Frame} (hw : f.wf) : (replyOf f).1.wf := by
  obtain ⟨w1, w2, _⟩ := hw
  by_cases h : (replyOf f).2 = 0
  · obtain ⟨k1, k2, _, _, e⟩ := replyOf_ok h
    rw [e]
    exact replyRead_wf w1 (by omega)
  · have e : (replyOf f).1 = Reply.zero := by
      by_cases q : f.kind < 64 ∨ 71 < f.kind
      · simp only [replyOf, if_pos q]
      · simp only [replyOf, if_neg q] at h ⊢
        generalize (if inEnd (replyRead f.channel (f.kind - 64) ⟨f.body, 0⟩).2 = 0 then replyE (replyRead f.channel (f.kind - 64) ⟨f.body, 0⟩).1 else inEnd (replyRead f.channel (f.kind - 64) ⟨f.body, 0⟩).2) = z at *
        by_cases hz : z = 0
        · rw [if_neg (by simpa using hz)] at h; exact absurd rfl h
        · rw [if_pos hz]
    rw [e]
    simp [Reply.zero, Mail.zero, Reply.wf, Mail.wf]
theorem replyRead_len (c k : Int) (i : In) : (replyRead c k i).1.mail.head.length ≤ 255 := by
  unfold replyRead
  repeat' split
  · simp [Mail.zero]
  · simp [Mail.zero]
  · simp [Mail.zero]
  · exact headRead_len _
  · simp [Mail.zero]
theorem replyOf_cases (f : Frame) : (replyOf f).1 = Reply.zero ∨ (replyOf f).1 = (replyRead f.channel (f.kind - 64) ⟨f.body, 0⟩).1 := by
  by_cases q : f.kind < 64 ∨ 71 < f.kind
  · left; simp only [replyOf, if_pos q]
  · simp only [replyOf, if_neg q]
    generalize (if inEnd (replyRead f.channel (f.kind - 64) ⟨f.body, 0⟩).2 = 0 then replyE (replyRead f.channel (f.kind - 64) ⟨f.body, 0⟩).1 else inEnd (replyRead f.channel (f.kind - 64) ⟨f.body, 0⟩).2) = z
    by_cases hz : z = 0
    · right; rw [if_neg (by simpa using hz)]
    · left; rw [if_pos hz]
theorem replyOf_len (f : Frame) : (replyOf f).1.mail.head.length ≤ 255 := by
  rcases replyOf_cases f with e | e
  · rw [e]; simp [Reply.zero, Mail.zero]
  · rw [e]; exact replyRead_len _ _ _
theorem replyOf_err (f : Frame) : True := trivial
theorem replyOut_le {r : Reply} (h : replyE r = 0) : (replyOut r).s.length ≤ 5000 := by
  have hl := replyE_len r h
  have hb := headBytes_len r.mail.head
  by_cases k0 : r.kind = 0
  · rw [replyOut_0 k0 (by omega), txtB_len]; omega
  · by_cases k2 : r.kind = 2 ∨ r.kind = 5 ∨ r.kind = 7
    · rw [replyOut_n k2, numB_len]; omega
    · by_cases k6 : r.kind = 6
      · rw [replyOut_6 k6, List.length_append, numB_len, numB_len]; omega
      · by_cases k3 : r.kind = 3
        · rw [replyOut_3 k3 (by omega) (by omega) (by omega)]
          simp only [sentB, List.length_append, numB_len, txtB_len]
          omega
        · rw [replyOut_e k0 k2 (by omega)]; simp
theorem replyFrame_wf {r : Reply} (hw : r.wf) : (replyFrame r).wf := by
  unfold replyFrame
  by_cases h : replyE r = 0
  · rw [if_pos h]
    have := replyOut_le h
    have := wr_u8 (64 + r.kind)
    simp only [Frame.wf]
    exact ⟨hw.1, by omega, by omega⟩
  · rw [if_neg h]; simp [Frame.wf, Frame.zero]
theorem slh_kind {k : Nat} {H : Hp} {sv : Value} {xs : List Pair} (h : SlH pairE k H sv xs) : ∀ p ∈ xs, 0 ≤ p.kind := fun p hp => (slh_wf h p hp).1.1
theorem headBytes_r9 {r : Reply} (h : replyE r = 0) (k3 : r.kind = 3) (h0 : ∀ p ∈ r.mail.head, 0 ≤ p.kind) : headBytes r.mail.head = r9B r.mail.head := by
  have hE : headE r.mail.head = 0 := by
    unfold replyE at h
    split at h
    · cases h
    · split at h
      · cases h
      · first
          | exact (mailE_ok h).2.2.1
          | (rw [if_neg (by omega), if_pos k3] at h; exact (mailE_ok h).2.2.1)
          | (rw [if_neg (by omega)] at h; exact (mailE_ok h).2.2.1)
  rw [headBytes_s hE h0]; rfl
theorem r9B_len {h : List Pair} (hs : smallH h) : (r9B h).length ≤ 1 + 2100 * h.length := by
  have key : ∀ l : List Pair, (∀ p ∈ l, p.key.length ≤ 1000 ∧ p.text.length ≤ 1000) → (l.flatMap pairB).length ≤ 2100 * l.length := by
    intro l
    induction l with
    | nil => intro _; simp
    | cons p r ih =>
      intro hp
      have a := ih (fun q hq => hp q (by simp [hq]))
      have b := pairB_len (hp p (by simp))
      simp only [List.flatMap_cons, List.length_append, List.length_cons]; omega
  have := key h hs.2
  unfold r9B
  rw [List.length_append, numB_len]; omega
end Go.SW


namespace Go.SW
open Go.RowKit
variable {P : Program} {n : Nat} {N : Rest} {F : Fr} {H : Hp} {L : Ls} {ops : List Oper} {ty d : Nat} {pos : String} {af : Array Edge} {K : Fr → Hp → Ls → Prop} {x : Operand} {T : TypeId}

abbrev itr (s : Bs) (p : Nat) : Obj := .stringIter ⟨s.toArray⟩ p
theorem op1_range {s : Bs} (i : Nat) (hd : Nat.blt d n = true) (hx : ev F x = str s) (hT : P.underlying T = some .string) (k : ∀ b, K (upd F d (.pointer (some ⟨b, 0, none⟩))) H (lupd L i (some (b, itr s 0)))) : Op1 P n N ops ⟨some d, .range T x, ty, pos, af, none⟩ K F H L := by
  intro a w ha hm
  rw [if_pos (by simp [Region.wanted])]
  unfold Oper.wp
  have : (execOp a.eval ⟨some d, .range T x, ty, pos, af, none⟩).run P w = .ok (.value (.pointer (some ⟨w.heap.size, 0, none⟩))) { w with heap := w.heap.push (itr s 0) } := by
    rw [ha.eval]
    have e := run_range_string (P := P) w T ⟨s.toArray⟩ hT
    simp only [execOp, hx]
    have hs : str s = .string ⟨s.toArray⟩ := rfl
    rw [hs]
    simp only [Sem.run_bind, e, Result.andThen]
    rfl
  rw [this]
  exact ⟨_, H, _, ha.put (by simpa using hd) _, hm.push i _, k _⟩

theorem decode_plain {s : Bs} {p : Nat} (hp : p < s.length) (h : (s.getD p 0).toNat < 128) : Utf8.decode ⟨s.toArray⟩ p = ((s.getD p 0).toNat, 1) := by
  have e : (ByteArray.mk s.toArray).get! p = s.getD p 0 := by
    simp [ByteArray.get!, List.getD_eq_getElem?_getD, hp]
  unfold Utf8.decode
  simp only [Nat.add_zero, e]
  rw [if_pos (by omega)]

theorem op1_next_more {s : Bs} {p b : Nat} (i : Nat) (hd : Nat.blt d n = true) (hx : ev F x = .pointer (some ⟨b, 0, none⟩)) (hi : L i = some (b, itr s p)) (hp : p < s.length) (ha : (s.getD p 0).toNat < 128)
    (k : K (upd F d (.tuple #[.bool true, .int .i64 p, .int .i32 ((s.getD p 0).toNat : Int)])) H (lupd L i (some (b, itr s (p + 1))))) : Op1 P n N ops ⟨some d, .next x true, ty, pos, af, none⟩ K F H L := by
  intro a w haa hm
  rw [if_pos (by simp [Region.wanted])]
  unfold Oper.wp
  have hb := hm.l i b _ hi
  have hlt : b < w.heap.size := by
    by_cases q : b < w.heap.size
    · exact q
    · rw [Array.getElem?_eq_none (by omega)] at hb; cases hb
  have : (execOp a.eval ⟨some d, .next x true, ty, pos, af, none⟩).run P w = .ok (.value (.tuple #[.bool true, .int .i64 p, .int .i32 ((s.getD p 0).toNat : Int)])) { w with heap := w.heap.set b (itr s (p + 1)) hlt } := by
    rw [haa.eval]
    have hsz : p < (ByteArray.mk s.toArray).size := by simpa [ByteArray.size] using hp
    have e := Lib.run_next_any_at (P := P) w b ⟨s.toArray⟩ p ty hb hsz
    rw [decode_plain hp ha] at e
    simp only [execOp, hx]
    simp [e, World.iterAt, itr, Array.setIfInBounds, hlt]
  rw [this]
  refine ⟨_, H, _, haa.put (by simpa using hd) _, hm.set hi rfl rfl rfl ?_ (fun c o hne ho => ?_), k⟩
  · simp
  · simp [Array.getElem?_set, Ne.symm hne, ho]
theorem op1_next_end {s : Bs} {p b : Nat} (i : Nat) (hd : Nat.blt d n = true) (hx : ev F x = .pointer (some ⟨b, 0, none⟩)) (hi : L i = some (b, itr s p)) (hp : s.length ≤ p)
    (k : K (upd F d (.tuple #[.bool false])) H L) : Op1 P n N ops ⟨some d, .next x true, ty, pos, af, none⟩ K F H L := by
  intro a w haa hm
  rw [if_pos (by simp [Region.wanted])]
  unfold Oper.wp
  have hb := hm.l i b _ hi
  have : (execOp a.eval ⟨some d, .next x true, ty, pos, af, none⟩).run P w = .ok (.value (.tuple #[.bool false])) w := by
    rw [haa.eval]
    have hsz : ¬ p < (ByteArray.mk s.toArray).size := by simpa [ByteArray.size] using hp
    have e := Lib.run_next_end_at (P := P) w b ⟨s.toArray⟩ p ty hb hsz
    simp only [execOp, hx]
    simp [e]
  rw [this]
  exact ⟨_, H, _, haa.put (by simpa using hd) _, hm, k⟩

/-- A library call that only makes new blocks reads. -/
theorem pr_below {f : FuncId} {args : Array Value} {v : Value} (h : ∀ w, Calls P f args w fun e w' => e = .returned v ∧ Below w.heap.size w w') : Pr P f args H v := by
  intro N L w hm
  refine (h w).mono fun e w' ⟨he, hb⟩ => ⟨he, ?_⟩
  refine hm.of_same hb.os hb.tape hb.output fun c o ho => ?_
  rw [hb.block c (by by_cases q : c < w.heap.size; exact q; rw [Array.getElem?_eq_none (by omega)] at ho; cases ho)]
  exact ho

/-- A package variable holds texts. -/
def GStrs (H : Hp) (g : Nat) (xs : List Bs) : Prop := ∃ T fr, H g = some (.cells (xs.map str).toArray T fr)
theorem GStrs.mono {H H' : Hp} {g : Nat} {xs : List Bs} (h : GStrs H g xs) (hl : HLe H H') : GStrs H' g xs := by
  obtain ⟨T, fr, e⟩ := h; exact ⟨T, fr, hl _ _ e⟩
theorem strs_get {xs : List Bs} {m : Nat} (h : m < xs.length) : (xs.map str).toArray[m * 1]? = some (str (xs.getD m [])) := by
  simp [List.getD_eq_getElem?_getD, h]

/-- Two ways through a region meet again: what stands behind is walked once. -/
def joinK (S : List Nat) (F : Fr) (H : Hp) (L : Ls) (live : Fr → Fr) : Qt := fun e F' H' L' => e = .normal ∧ H' = H ∧ L' = L ∧ F' = live (mask S F' F)
theorem cw_seq_join {x y : Code} {Q : Qt} (S : List Nat) (live : Fr → Fr) (h : Cw P n N x (joinK S F H L live) F H L) (k : ∀ J, Cw P n N y Q (live (mask S J F)) H L) : Cw P n N (.seq x y) Q F H L := by
  refine cw_seq fun a w ha hm => wp_mono (h a w ha hm) fun e a' w' q => ?_
  obtain ⟨F', H', L', ha', hm', rfl, rfl, rfl, hf⟩ := q
  refine ⟨F', _, _, ha', hm', ?_⟩
  have := k F'
  rw [← hf] at this
  exact this
end Go.SW


namespace Go.SW

/-! What is told, by kind -/
def tellsT : List Bs := [[110], [], [], [65, 110, 120], [65], [65, 110, 109, 120], [65], [65, 79, 112, 104, 121], [65, 79, 112, 104, 121], [65, 79, 112, 104, 121], [65, 79, 112, 104, 121], [65, 107, 104, 109, 98], [110], [65, 110], [110], [65], [110, 109, 121], [], [], [], []]
abbrev tellsOf (k : Int) : Bs := tellsT.getD k.toNat []
theorem tells_mem (k : Int) : tellsOf k = [] ∨ tellsOf k ∈ tellsT := by
  unfold tellsOf
  rw [List.getD_eq_getElem?_getD]
  rcases h : tellsT[k.toNat]? with _ | s
  · exact .inl rfl
  · exact .inr (List.mem_of_getElem? h)
theorem tells_plain (k : Int) : ∀ c ∈ tellsOf k, c.toNat < 128 := by
  rcases tells_mem k with h | h
  · rw [h]; intro c hc; cases hc
  · exact (by decide : ∀ s ∈ tellsT, ∀ c ∈ s, c.toNat < 128) _ h
theorem tells_len (k : Int) : (tellsOf k).length ≤ 5 := by
  rcases tells_mem k with h | h
  · rw [h]; decide
  · exact (by decide : ∀ s ∈ tellsT, s.length ≤ 5) _ h
theorem tells_at (k : Int) (p : Nat) (h : p < (tellsOf k).length) : ((tellsOf k).getD p 0).toNat < 128 := by
  rw [List.getD_eq_getElem?_getD, List.getElem?_eq_getElem h]
  exact tells_plain k _ (List.getElem_mem h)

def hasAny (s cs : Bs) : Bool := s.any cs.contains
theorem containsAny_eq (s cs : Bs) : Lib.containsAny s cs = hasAny s cs := by
  unfold Lib.containsAny hasAny
  induction s with
  | nil => rfl
  | cons b l ih =>
    rw [List.any_cons, ← ih]
    have hg := Lib.indexAny_ge cs l
    have e0 : Lib.indexAny (b :: l) cs = if cs.contains b then 0 else if Lib.indexAny l cs == -1 then -1 else Lib.indexAny l cs + 1 := rfl
    rw [e0]
    by_cases h : cs.contains b = true
    · rw [if_pos h, h, Bool.true_or]; rfl
    · have h' : cs.contains b = false := by simpa using h
      rw [if_neg h, h', Bool.false_or]
      by_cases e : Lib.indexAny l cs = -1
      · rw [e]; rfl
      · have e' : (Lib.indexAny l cs == -1) = false := by simpa using e
        rw [e']
        simp only [Bool.false_eq_true, if_false]
        have a : (0 : Int) ≤ Lib.indexAny l cs + 1 := by omega
        have b : (0 : Int) ≤ Lib.indexAny l cs := by omega
        rw [decide_eq_true a, decide_eq_true b]

/-! Layer 10 -/
structure Rule where
  sort : Int
  key : Bs
  want : List Pair
  all : Bool
deriving DecidableEq
def Rule.cells (r : Rule) (a : Option Addr) (c : Nat) : List Value := [.int .u8 r.sort, str r.key, .slice a r.want.length c, .bool r.all]
def Rule.wf (r : Rule) : Prop := (0 ≤ r.sort ∧ r.sort ≤ 255) ∧ r.key.length ≤ 9223372036854775807 ∧ r.want.length ≤ 9223372036854775807
theorem Rule.eq_iff {a b : Rule} : a = b ↔ a.sort = b.sort ∧ a.key = b.key ∧ a.want = b.want ∧ a.all = b.all := by
  cases a; cases b; simp
def patB : List Bs := [[42], [35]]
def ruleE (r : Rule) : Int :=
  if 3 < r.sort then 8
  else if r.sort = 0 then (if keyE [] r.key ≠ 0 then keyE [] r.key else headE r.want)
  else if keyE patB r.key ≠ 0 then keyE patB r.key else headE r.want
def hasP (h : List Pair) (p : Pair) : Bool := (findP h p.key).isSome && decide ((findP h p.key).getD Pair.zero = p)
def headsGo (all : Bool) (h : List Pair) : List Pair → Bool
  | [] => all
  | p :: l => if hasP h p then (if all then headsGo all h l else true) else if all then false else headsGo all h l
def goesR (r : Rule) (key : Bs) (h : List Pair) : Bool :=
  if r.sort = 0 then decide (key = r.key) else if r.sort = 2 then mt (wordsOf r.key) (wordsOf key) else if r.sort = 3 then headsGo r.all h r.want else true

/-! Layer 11 -/
structure Method where
  channel : Int
  kind : Int
  name : Bs
  other : Bs
  key : Bs
  head : List Pair
  body : Bs
  n : Int
  m : Int
  yes : Bool
deriving DecidableEq
def Method.cells (m : Method) (a : Option Addr) (c : Nat) : List Value := [.int .u8 m.channel, .int .u8 m.kind, str m.name, str m.other, str m.key, .slice a m.head.length c, str m.body, .int .u64 m.n, .int .u64 m.m, .bool m.yes]
def Method.wf (m : Method) : Prop := (0 ≤ m.channel ∧ m.channel ≤ 255) ∧ (0 ≤ m.kind ∧ m.kind ≤ 255) ∧ (0 ≤ m.n ∧ m.n ≤ 18446744073709551615) ∧ (0 ≤ m.m ∧ m.m ≤ 18446744073709551615) ∧ m.name.length ≤ 9223372036854775807 ∧ m.other.length ≤ 9223372036854775807 ∧ m.key.length ≤ 9223372036854775807 ∧ m.head.length ≤ 9223372036854775807 ∧ m.body.length ≤ 9223372036854775807
theorem Method.eq_iff {a b : Method} : a = b ↔ a.channel = b.channel ∧ a.kind = b.kind ∧ a.name = b.name ∧ a.other = b.other ∧ a.key = b.key ∧ a.head = b.head ∧ a.body = b.body ∧ a.n = b.n ∧ a.m = b.m ∧ a.yes = b.yes := by
  cases a; cases b; simp
def hasK (m : Method) (cs : Bs) : Bool := hasAny (tellsOf m.kind) cs
def spareMt (m : Method) : Bool :=
  !decide (m.name = []) && !hasK m [65] || !decide (m.other = []) && !hasK m [79, 120] || !decide (m.key = []) && !hasK m [107, 112] ||
  decide ((0 : Int) < m.head.length) && !hasK m [104] || !decide (m.body = []) && !hasK m [98] ||
  !decide (m.n = 0) && !hasK m [110] || !decide (m.m = 0) && !hasK m [109] || m.yes && !hasK m [121]
def oneE (m : Method) (c : Int) : Int :=
  if c = 65 then nameE m.name
  else if c = 120 then (if m.other = [] then 0 else nameE m.other)
  else if c = 79 then nameE m.other
  else if c = 107 then keyE [] m.key
  else if c = 112 then keyE patB m.key
  else if c = 104 then headE m.head
  else if c = 98 then (if (256 : Int) < m.body.length then 5 else 0)
  else 0
def ckGo (m : Method) : Bs → Int
  | [] => 0
  | c :: l => if oneE m (c.toNat : Int) ≠ 0 then oneE m (c.toNat : Int) else ckGo m l
def methodE (m : Method) : Int := if 20 < m.kind then 8 else if spareMt m then 4 else ckGo m (tellsOf m.kind)
theorem headGo_r : ∀ (l a : List Pair), 0 ≤ headGo a l ∧ headGo a l ≤ 15
  | [], a => by simp [headGo]
  | p :: l, a => by
    have h1 := pairErr_r p a
    have h2 := headGo_r l (a ++ [p])
    simp only [headGo]
    split <;> omega
theorem headE_r (h : List Pair) : 0 ≤ headE h ∧ headE h ≤ 15 := by
  have := headGo_r h []
  unfold headE
  split <;> omega
theorem oneE_r (m : Method) (c : Int) : 0 ≤ oneE m c ∧ oneE m c ≤ 15 := by
  have h1 := nameE_r m.name
  have h2 := nameE_r m.other
  have h3 : 0 ≤ keyE [] m.key ∧ keyE [] m.key ≤ 15 := by unfold keyE; repeat' split <;> omega
  have h4 : 0 ≤ keyE patB m.key ∧ keyE patB m.key ≤ 15 := by unfold keyE; repeat' split <;> omega
  have h5 := headE_r m.head
  unfold oneE
  repeat' split
  all_goals omega
theorem ckGo_r (m : Method) : ∀ l, 0 ≤ ckGo m l ∧ ckGo m l ≤ 15
  | [] => by simp [ckGo]
  | c :: l => by
    have := ckGo_r m l
    have := oneE_r m (c.toNat : Int)
    simp only [ckGo]
    split <;> omega
theorem methodE_r (m : Method) : 0 ≤ methodE m ∧ methodE m ≤ 15 := by
  have := ckGo_r m (tellsOf m.kind)
  unfold methodE
  repeat' split
  all_goals omega
theorem methodE_kind {m : Method} (h : methodE m = 0) : m.kind ≤ 20 := by
  unfold methodE at h
  split at h
  · cases h
  · omega
theorem ckGo_all {m : Method} : ∀ {l : Bs}, ckGo m l = 0 → ∀ c ∈ l, oneE m (c.toNat : Int) = 0
  | [], _, _, hc => by cases hc
  | d :: l, h, c, hc => by
    simp only [ckGo] at h
    split at h
    · omega
    · rcases List.mem_cons.1 hc with rfl | hc
      · omega
      · exact ckGo_all h c hc
theorem methodE_at {m : Method} (h : methodE m = 0) {p : Nat} (hp : p < (tellsOf m.kind).length) : oneE m (((tellsOf m.kind).getD p 0).toNat : Int) = 0 := by
  have hc : ckGo m (tellsOf m.kind) = 0 := by
    unfold methodE at h
    split at h
    · cases h
    · split at h
      · cases h
      · exact h
  rw [List.getD_eq_getElem?_getD, List.getElem?_eq_getElem hp]
  exact ckGo_all hc _ (List.getElem_mem hp)
theorem oneE_len {m : Method} {c : Int} (h : oneE m c = 0) : (c = 65 → m.name.length ≤ 256) ∧ (c = 120 ∨ c = 79 → m.other.length ≤ 256) ∧ (c = 107 ∨ c = 112 → m.key.length ≤ 256) ∧ (c = 98 → m.body.length ≤ 256) := by
  refine ⟨fun e => ?_, fun e => ?_, fun e => ?_, fun e => ?_⟩
  · subst e
    have := nameE_ok (s := m.name) (by simpa [oneE] using h)
    omega
  · rcases e with rfl | rfl
    · simp [oneE] at h
      by_cases e : m.other = []
      · rw [e]; simp
      · have := nameE_ok (s := m.other) (h e); omega
    · have := nameE_ok (s := m.other) (by simpa [oneE] using h); omega
  · rcases e with rfl | rfl
    · have := keyE_ok (b := []) (s := m.key) (by simpa [oneE] using h); omega
    · have := keyE_ok (b := patB) (s := m.key) (by simpa [oneE] using h); omega
  · subst e
    simp [oneE] at h
    omega
def mOut1 (m : Method) (o : Out) (c : Int) : Out :=
  if c = 65 then outText o m.name
  else if c = 120 ∨ c = 79 then outText o m.other
  else if c = 107 ∨ c = 112 then outText o m.key
  else if c = 104 then outRaw o (headBytes m.head)
  else if c = 98 then outText o m.body
  else if c = 110 then outNum o m.n 8
  else if c = 109 then outNum o m.m 8
  else if c = 121 then outNum o (if m.yes = true then 1 else 0) 1
  else o
theorem mOut1_len {m : Method} {o : Out} {c : Int} (h : oneE m c = 0) : (mOut1 m o c).s.length ≤ o.s.length + 1000 := by
  obtain ⟨h1, h2, h3, h4⟩ := oneE_len h
  have a1 := outText_len o m.name
  have a2 := outText_len o m.other
  have a3 := outText_len o m.key
  have a4 := outText_len o m.body
  have a5 := outRaw_len o (headBytes m.head)
  have a6 := headBytes_len m.head
  have a7 := outNum_len o m.n 8
  have a8 := outNum_len o m.m 8
  have a9 := outNum_len o 1 1
  have a10 := outNum_len o 0 1
  unfold mOut1
  repeat' split
  all_goals omega
def mOutGo (m : Method) (o : Out) (l : Bs) : Out := l.foldl (fun o c => mOut1 m o (c.toNat : Int)) o
def methodFrame (m : Method) : Frame := if methodE m = 0 then ⟨m.channel, m.kind, (mOutGo m ⟨[], 0⟩ (tellsOf m.kind)).s⟩ else Frame.zero
theorem mOutGo_len {m : Method} : ∀ (l : Bs) (o : Out), (∀ c ∈ l, oneE m (c.toNat : Int) = 0) → (mOutGo m o l).s.length ≤ o.s.length + 1000 * l.length
  | [], o, _ => by simp [mOutGo]
  | c :: l, o, h => by
    have a := mOut1_len (o := o) (h c (List.mem_cons_self ..))
    have b := mOutGo_len l (mOut1 m o (c.toNat : Int)) (fun x hx => h x (List.mem_cons_of_mem _ hx))
    simp only [mOutGo, List.foldl_cons, List.length_cons] at *
    omega
theorem methodFrame_len (m : Method) : (methodFrame m).body.length ≤ 5000 := by
  unfold methodFrame
  split
  · rename_i h
    have hl := tells_len m.kind
    have := mOutGo_len (m := m) (tellsOf m.kind) ⟨[], 0⟩ (fun c hc => by
      obtain ⟨p, hp, rfl⟩ := List.getElem_of_mem hc
      have := methodE_at h hp
      rwa [List.getD_eq_getElem?_getD, List.getElem?_eq_getElem hp] at this)
    have h0 : (⟨[], 0⟩ : Out).s.length = 0 := rfl
    have : 1000 * (tellsOf m.kind).length ≤ 5000 := by omega
    show (mOutGo m ⟨[], 0⟩ (tellsOf m.kind)).s.length ≤ 5000
    omega
  · simp [Frame.zero]
theorem methodFrame_wf {m : Method} (w : m.wf) : (methodFrame m).wf := by
  have hl := methodFrame_len m
  obtain ⟨h1, h2, _⟩ := w
  unfold methodFrame at *
  split
  · rename_i h
    rw [if_pos h] at hl
    exact ⟨h1, h2, by simp at *; omega⟩
  · simp [Frame.zero, Frame.wf]

def lightMt (m : Method) : Bool := decide (max (m.name.length : Int) (m.other.length : Int) ≤ 40) && decide ((m.key.length : Int) ≤ 100) && lightH m.head && decide ((m.body.length : Int) ≤ 300)
theorem lightMt_len (m : Method) (e : lightMt m = true) : m.name.length ≤ 40 ∧ m.other.length ≤ 40 ∧ m.key.length ≤ 100 ∧ m.head.length ≤ 12 ∧ m.body.length ≤ 300 := by
  simp only [lightMt, Bool.and_eq_true, decide_eq_true_eq] at e
  obtain ⟨⟨⟨h1, h3⟩, h4⟩, h5⟩ := e
  have := lightH_len _ h4
  omega
end Go.SW


namespace Go.SW

/-! Layer 13 -/
def mailC (m : Mail) : Int :=
  if nameE m.shop ≠ 0 then nameE m.shop else if keyE [] m.key ≠ 0 then keyE [] m.key else if headE m.head ≠ 0 then headE m.head else if (256 : Int) < m.body.length then 5 else if 4 < m.hops then 7 else 0
theorem keyE_r (b : List Bs) (s : Bs) : 0 ≤ keyE b s ∧ keyE b s ≤ 15 := by
  unfold keyE
  repeat' split
  all_goals omega
theorem mailC_r (m : Mail) : 0 ≤ mailC m ∧ mailC m ≤ 15 := by
  have h1 := nameE_r m.shop
  have h2 := keyE_r [] m.key
  have h3 := headE_r m.head
  unfold mailC
  repeat' split
  all_goals omega
theorem mailC_ok {m : Mail} (h : mailC m = 0) : m.shop.length ≤ 16 ∧ m.key.length ≤ 64 ∧ headE m.head = 0 ∧ m.body.length ≤ 256 ∧ m.hops ≤ 4 := by
  unfold mailC at h
  have h1 : nameE m.shop = 0 := by
    by_cases e : nameE m.shop = 0
    · exact e
    · rw [if_pos e] at h; exact absurd h e
  rw [if_neg (by omega)] at h
  have h2 : keyE [] m.key = 0 := by
    by_cases e : keyE [] m.key = 0
    · exact e
    · rw [if_pos e] at h; exact absurd h e
  rw [if_neg (by omega)] at h
  have h3 : headE m.head = 0 := by
    by_cases e : headE m.head = 0
    · exact e
    · rw [if_pos e] at h; exact absurd h e
  rw [if_neg (by omega)] at h
  have a := nameE_ok h1
  have b := keyE_ok h2
  split at h
  · cases h
  · split at h
    · cases h
    · exact ⟨a, b, h3, by omega, by omega⟩
def mailOut (m : Mail) : Out := outNum (outNum (outText (outRaw (outText (outText (outNum ⟨[], 0⟩ m.id 8) m.shop) m.key) (headBytes m.head)) m.body) m.due 8) m.hops 1
def mailBytes (m : Mail) : Bs := if mailC m = 0 then (mailOut m).s else []

/-! Layer 26 -/
def lifeN (t l : Int) : Int := if l = 0 ∨ 18446744073709551615 - t < l then 0 else t + l
theorem life_wrap {t l : Int} (h0 : 0 ≤ t) (h1 : t ≤ 18446744073709551615) (h2 : 0 ≤ l) (h3 : l ≤ 18446744073709551615) : IntKind.wrap .u64 (t + l) = if 18446744073709551615 - t < l then t + l - 18446744073709551616 else t + l := by
  simp only [IntKind.wrap, IntKind.bits, IntKind.signed]
  simp
  split <;> omega
end Go.SW


namespace Go.SW
def maybeE (s : Bs) : Int := if s = [] then 0 else nameE s
theorem maybeE_r (s : Bs) : 0 ≤ maybeE s ∧ maybeE s ≤ 15 := by
  have := nameE_r s
  unfold maybeE
  split <;> omega
def boundE (b : Bool) (e : Int) : Int := if b = true then e else 0
def bitN (b : Bool) : Int := if b = true then 1 else 0
theorem bitN_r (b : Bool) : 0 ≤ bitN b ∧ bitN b ≤ 1 := by
  unfold bitN
  split <;> omega
end Go.SW


namespace Go.SW
structure ShopR where
  name : Bs
  sort : Int
  to : Bs
deriving DecidableEq
def ShopR.cells (x : ShopR) : List Value := [str x.name, .int .u8 x.sort, str x.to]
def ShopR.wf (x : ShopR) : Prop := x.name.length ≤ 9223372036854775807 ∧ (0 ≤ x.sort ∧ x.sort ≤ 255) ∧ x.to.length ≤ 9223372036854775807
structure QueueR where
  name : Bs
  most : Int
  life : Int
  dead : Bs
deriving DecidableEq
def QueueR.cells (x : QueueR) : List Value := [str x.name, .int .u64 x.most, .int .u64 x.life, str x.dead]
def QueueR.wf (x : QueueR) : Prop := x.name.length ≤ 9223372036854775807 ∧ (0 ≤ x.most ∧ x.most ≤ 18446744073709551615) ∧ (0 ≤ x.life ∧ x.life ≤ 18446744073709551615) ∧ x.dead.length ≤ 9223372036854775807
structure BindR where
  shop : Bs
  to : Bs
  up : Bool
  key : Bs
  want : List Pair
  all : Bool
deriving DecidableEq
def BindR.cells (x : BindR) (a : Option Addr) (c : Nat) : List Value := [str x.shop, str x.to, .bool x.up, str x.key, .slice a x.want.length c, .bool x.all]
def BindR.wf (x : BindR) : Prop := x.shop.length ≤ 9223372036854775807 ∧ x.to.length ≤ 9223372036854775807 ∧ x.key.length ≤ 9223372036854775807 ∧ x.want.length ≤ 9223372036854775807
theorem BindR.eq_iff {a b : BindR} : a = b ↔ a.shop = b.shop ∧ a.to = b.to ∧ a.up = b.up ∧ a.key = b.key ∧ a.want = b.want ∧ a.all = b.all := by
  cases a; cases b; simp
structure DeedR where
  kind : Int
  tick : Int
  shop : ShopR
  queue : QueueR
  bind : BindR
  name : Bs
  id : Int
  how : Int
  frm : Int
  code : Int
  number : Int
  mail : Mail
  text : Bs
deriving DecidableEq
def DeedR.cells (d : DeedR) (a : Option Addr) (c : Nat) (a' : Option Addr) (c' : Nat) : List Value :=
  [.int .u8 d.kind, .int .u64 d.tick, str d.shop.name, .int .u8 d.shop.sort, str d.shop.to, str d.queue.name, .int .u64 d.queue.most, .int .u64 d.queue.life, str d.queue.dead,
   str d.bind.shop, str d.bind.to, .bool d.bind.up, str d.bind.key, .slice a d.bind.want.length c, .bool d.bind.all, str d.name, .int .u64 d.id, .int .u8 d.how, .int .u8 d.frm, .int .u8 d.code, .int .u64 d.number,
   .int .u64 d.mail.id, str d.mail.shop, str d.mail.key, .slice a' d.mail.head.length c', str d.mail.body, .int .u64 d.mail.due, .int .u8 d.mail.hops, str d.text]
def DeedR.wf (d : DeedR) : Prop := (0 ≤ d.kind ∧ d.kind ≤ 255) ∧ (0 ≤ d.tick ∧ d.tick ≤ 18446744073709551615) ∧ d.shop.wf ∧ d.queue.wf ∧ d.bind.wf ∧ d.name.length ≤ 9223372036854775807 ∧ (0 ≤ d.id ∧ d.id ≤ 18446744073709551615) ∧ (0 ≤ d.how ∧ d.how ≤ 255) ∧ (0 ≤ d.frm ∧ d.frm ≤ 255) ∧ (0 ≤ d.code ∧ d.code ≤ 255) ∧ (0 ≤ d.number ∧ d.number ≤ 18446744073709551615) ∧ d.mail.wf ∧ d.text.length ≤ 9223372036854775807
theorem DeedR.eq_iff {a b : DeedR} : a = b ↔ a.kind = b.kind ∧ a.tick = b.tick ∧ a.shop = b.shop ∧ a.queue = b.queue ∧ a.bind = b.bind ∧ a.name = b.name ∧ a.id = b.id ∧ a.how = b.how ∧ a.frm = b.frm ∧ a.code = b.code ∧ a.number = b.number ∧ a.mail = b.mail ∧ a.text = b.text := by
  cases a; cases b; simp
end Go.SW


namespace Go.SW
def ShopR.zero : ShopR := ⟨[], 0, []⟩
def QueueR.zero : QueueR := ⟨[], 0, 0, []⟩
def BindR.zero : BindR := ⟨[], [], false, [], [], false⟩
def toldD (d : DeedR) : DeedR :=
  ⟨d.kind, d.tick, if d.kind = 0 then d.shop else .zero, if d.kind = 2 then d.queue else .zero, if d.kind = 4 ∨ d.kind = 5 then d.bind else .zero,
   if d.kind = 1 ∨ d.kind = 3 ∨ d.kind = 7 ∨ d.kind = 8 then d.name else [], if d.kind = 8 then d.id else 0, if d.kind = 8 then d.how else 0, if d.kind = 10 then d.frm else 0, if d.kind = 12 then d.code else 0, if d.kind = 10 then d.number else 0,
   if d.kind = 6 ∨ d.kind = 10 then d.mail else .zero, if d.kind = 12 then d.text else []⟩
end Go.SW


namespace Go.SW
def firstE : List Int → Int
  | [] => 0
  | a :: l => if a ≠ 0 then a else firstE l
theorem firstE_r : ∀ (l : List Int), (∀ a ∈ l, 0 ≤ a ∧ a ≤ 15) → 0 ≤ firstE l ∧ firstE l ≤ 15
  | [], _ => ⟨Int.le_refl _, by simp [firstE]⟩
  | a :: l, h => by
    unfold firstE
    split
    · exact h a (List.mem_cons_self ..)
    · exact firstE_r l fun b hb => h b (List.mem_cons_of_mem _ hb)

def deedE (d : DeedR) : Int :=
  if 12 < d.kind then 8 else if d ≠ toldD d then 4
  else if d.kind = 0 then firstE [nameE d.shop.name, boundE (decide (4 < d.shop.sort)) 8, maybeE d.shop.to]
  else if d.kind = 2 then firstE [nameE d.queue.name, maybeE d.queue.dead]
  else if d.kind = 4 ∨ d.kind = 5 then firstE [nameE d.bind.shop, nameE d.bind.to, boundE (decide ((64 : Int) < d.bind.key.length)) 5, headE d.bind.want]
  else if d.kind = 6 ∨ d.kind = 10 then mailC d.mail
  else if d.kind = 9 ∨ d.kind = 11 then 0
  else if d.kind = 12 then boundE (decide ((64 : Int) < d.text.length)) 5
  else firstE [nameE d.name, boundE (decide (2 < d.how)) 7]
theorem boundE_0 {b : Bool} {e : Int} (he : e ≠ 0) (h : boundE b e = 0) : b = false := by
  cases b with
  | false => rfl
  | true => exact absurd h he
theorem firstE_cons {a : Int} {l : List Int} (h : firstE (a :: l) = 0) : a = 0 ∧ firstE l = 0 := by
  unfold firstE at h
  split at h
  · rename_i q; exact absurd h q
  · rename_i q; exact ⟨by omega, h⟩
theorem maybeE_ok {s : Bs} (h : maybeE s = 0) : s.length ≤ 16 := by
  unfold maybeE at h
  split at h
  · rename_i q; subst q; simp
  · exact nameE_ok h

theorem boundE_r {b : Bool} {e : Int} (h : 0 ≤ e ∧ e ≤ 15) : 0 ≤ boundE b e ∧ boundE b e ≤ 15 := by
  unfold boundE; split <;> omega
theorem deedE_r (d : DeedR) : 0 ≤ deedE d ∧ deedE d ≤ 15 := by
  have hb : ∀ b, 0 ≤ boundE b 8 ∧ boundE b 8 ≤ 15 := fun b => boundE_r (by omega)
  have hb5 : ∀ b, 0 ≤ boundE b 5 ∧ boundE b 5 ≤ 15 := fun b => boundE_r (by omega)
  have hb7 : ∀ b, 0 ≤ boundE b 7 ∧ boundE b 7 ≤ 15 := fun b => boundE_r (by omega)
  unfold deedE
  repeat' split
  all_goals first
    | omega
    | exact mailC_r _
    | exact hb5 _
    | (refine firstE_r _ fun a ha => ?_
       simp only [List.mem_cons, List.not_mem_nil, or_false] at ha
       first
         | (rcases ha with rfl | rfl | rfl | rfl <;> first | exact nameE_r _ | exact maybeE_r _ | exact headE_r _ | exact hb _ | exact hb5 _ | exact hb7 _)
         | (rcases ha with rfl | rfl | rfl <;> first | exact nameE_r _ | exact maybeE_r _ | exact headE_r _ | exact hb _ | exact hb5 _ | exact hb7 _)
         | (rcases ha with rfl | rfl <;> first | exact nameE_r _ | exact maybeE_r _ | exact headE_r _ | exact hb _ | exact hb5 _ | exact hb7 _))
theorem toldD_wf {d : DeedR} (w : d.wf) : (toldD d).wf := by
  obtain ⟨h1, h2, h3, h4, h5, h6, h7, h8, h9, h10, h11, h12, h13⟩ := w
  have z1 : ShopR.zero.wf := by simp [ShopR.wf, ShopR.zero]
  have z2 : QueueR.zero.wf := by simp [QueueR.wf, QueueR.zero]
  have z3 : BindR.zero.wf := by simp [BindR.wf, BindR.zero]
  have z4 : Mail.zero.wf := by simp [Mail.wf, Mail.zero]
  refine ⟨h1, h2, ?_, ?_, ?_, ?_, ?_, ?_, ?_, ?_, ?_, ?_, ?_⟩ <;> simp only [toldD] <;> split <;> first | assumption | (simp; done) | omega

theorem told_iff {d : DeedR} : d = toldD d ↔ (d.kind ≠ 0 → d.shop = ⟨[], 0, []⟩) ∧ (d.kind ≠ 2 → d.queue = ⟨[], 0, 0, []⟩) ∧ (d.kind ≠ 4 → d.kind ≠ 5 → d.bind = ⟨[], [], false, [], [], false⟩) ∧ (d.kind ≠ 1 → d.kind ≠ 3 → d.kind ≠ 7 → d.kind ≠ 8 → d.name = []) ∧ (d.kind ≠ 8 → d.id = 0) ∧ (d.kind ≠ 8 → d.how = 0) ∧ (d.kind ≠ 10 → d.frm = 0) ∧ (d.kind ≠ 10 → d.number = 0) ∧ (d.kind ≠ 12 → d.code = 0) ∧ (d.kind ≠ 12 → d.text = []) ∧ (d.kind ≠ 6 → d.kind ≠ 10 → d.mail = ⟨0, [], [], [], [], 0, 0⟩) := by
  rw [DeedR.eq_iff]
  simp only [toldD, ShopR.zero, QueueR.zero, BindR.zero, Mail.zero]
  constructor
  · rintro ⟨_, _, h1, h2, h3, h4, h5, h6, h7, h8, h9, h10, h11⟩
    refine ⟨fun k => ?_, fun k => ?_, fun k k' => ?_, fun k k' q q' => ?_, fun k => ?_, fun k => ?_, fun k => ?_, fun k => ?_, fun k => ?_, fun k => ?_, fun k k' => ?_⟩
    · rw [if_neg k] at h1; exact h1
    · rw [if_neg k] at h2; exact h2
    · rw [if_neg (by omega)] at h3; exact h3
    · rw [if_neg (by omega)] at h4; exact h4
    · rw [if_neg k] at h5; exact h5
    · rw [if_neg k] at h6; exact h6
    · rw [if_neg k] at h7; exact h7
    · rw [if_neg k] at h9; exact h9
    · rw [if_neg k] at h8; exact h8
    · rw [if_neg k] at h11; exact h11
    · rw [if_neg (by omega)] at h10; exact h10
  · rintro ⟨h1, h2, h3, h4, h5, h6, h7, h8, h9, h10, h11⟩
    refine ⟨trivial, trivial, ?_, ?_, ?_, ?_, ?_, ?_, ?_, ?_, ?_, ?_, ?_⟩ <;> split <;> first | rfl | (apply_assumption <;> omega)
theorem spare_t {p : Prop} [Decidable p] (h : ¬ p) : true = !decide p := by simp [h]
theorem spare_f {p : Prop} [Decidable p] (h : p) : false = !decide p := by simp [h]

/-- What may be is small. -/
structure DeedOk (d : DeedR) : Prop where
  told : d = toldD d
  kind : d.kind ≤ 12
  sname : d.shop.name.length ≤ 16
  sto : d.shop.to.length ≤ 16
  ssort : d.shop.sort ≤ 4
  qname : d.queue.name.length ≤ 16
  qdead : d.queue.dead.length ≤ 16
  bshop : d.bind.shop.length ≤ 16
  bto : d.bind.to.length ≤ 16
  bkey : d.bind.key.length ≤ 64
  bwant : headE d.bind.want = 0
  name : d.name.length ≤ 16
  how : d.how ≤ 2
  mshop : d.mail.shop.length ≤ 16
  mkey : d.mail.key.length ≤ 64
  mhead : headE d.mail.head = 0
  mbody : d.mail.body.length ≤ 256
  mhops : d.mail.hops ≤ 4
  text : d.text.length ≤ 64
theorem headE_nil : headE [] = 0 := rfl
theorem deedE_ok {d : DeedR} (hk : 0 ≤ d.kind) (h : deedE d = 0) : DeedOk d := by
  unfold deedE at h
  by_cases k : 12 < d.kind
  · rw [if_pos k] at h; exact absurd h (by decide)
  rw [if_neg k] at h
  by_cases t : d = toldD d
  case neg => rw [if_pos t] at h; exact absurd h (by decide)
  rw [if_neg (by simpa using t)] at h
  have hc : d.kind = 0 ∨ d.kind = 1 ∨ d.kind = 2 ∨ d.kind = 3 ∨ d.kind = 4 ∨ d.kind = 5 ∨ d.kind = 6 ∨ d.kind = 7 ∨ d.kind = 8 ∨ d.kind = 9 ∨ d.kind = 10 ∨ d.kind = 11 ∨ d.kind = 12 := by omega
  have e1 : d.shop = (toldD d).shop := congrArg DeedR.shop t
  have e2 : d.queue = (toldD d).queue := congrArg DeedR.queue t
  have e3 : d.bind = (toldD d).bind := congrArg DeedR.bind t
  have e4 : d.name = (toldD d).name := congrArg DeedR.name t
  have e5 : d.how = (toldD d).how := congrArg DeedR.how t
  have e6 : d.mail = (toldD d).mail := congrArg DeedR.mail t
  have e7 : d.text = (toldD d).text := congrArg DeedR.text t
  simp only [toldD] at e1 e2 e3 e4 e5 e6 e7
  have zs : ∀ {s : ShopR}, s = .zero → s.name.length ≤ 16 ∧ s.to.length ≤ 16 ∧ s.sort ≤ 4 := fun e => by subst e; decide
  have zq : ∀ {s : QueueR}, s = .zero → s.name.length ≤ 16 ∧ s.dead.length ≤ 16 := fun e => by subst e; decide
  have zb : ∀ {s : BindR}, s = .zero → s.shop.length ≤ 16 ∧ s.to.length ≤ 16 ∧ s.key.length ≤ 64 ∧ headE s.want = 0 := fun e => by subst e; decide
  have zm : ∀ {s : Mail}, s = .zero → s.shop.length ≤ 16 ∧ s.key.length ≤ 64 ∧ headE s.head = 0 ∧ s.body.length ≤ 256 ∧ s.hops ≤ 4 := fun e => by subst e; decide
  have zn : ∀ {s : Bs}, s = [] → s.length ≤ 16 := fun e => by subst e; decide
  have zt : ∀ {s : Bs}, s = [] → s.length ≤ 64 := fun e => by subst e; decide
  have zh : ∀ {s : Int}, s = 0 → s ≤ 2 := fun e => by subst e; decide
  have mk : (d.shop.name.length ≤ 16 ∧ d.shop.to.length ≤ 16 ∧ d.shop.sort ≤ 4) → (d.queue.name.length ≤ 16 ∧ d.queue.dead.length ≤ 16) → (d.bind.shop.length ≤ 16 ∧ d.bind.to.length ≤ 16 ∧ d.bind.key.length ≤ 64 ∧ headE d.bind.want = 0) → d.name.length ≤ 16 → d.how ≤ 2 →
      (d.mail.shop.length ≤ 16 ∧ d.mail.key.length ≤ 64 ∧ headE d.mail.head = 0 ∧ d.mail.body.length ≤ 256 ∧ d.mail.hops ≤ 4) → d.text.length ≤ 64 → DeedOk d :=
    fun a b c e f g i => ⟨t, by omega, a.1, a.2.1, a.2.2, b.1, b.2, c.1, c.2.1, c.2.2.1, c.2.2.2, e, f, g.1, g.2.1, g.2.2.1, g.2.2.2.1, g.2.2.2.2, i⟩
  rcases hc with q | q | q | q | q | q | q | q | q | q | q | q | q <;> simp only [q] at e1 e2 e3 e4 e5 e6 e7 h <;> simp (config := { failIfUnchanged := false }) at e1 e2 e3 e4 e5 e6 e7 h
  · obtain ⟨h1, h⟩ := firstE_cons h
    obtain ⟨h2, h⟩ := firstE_cons h
    obtain ⟨h3, h⟩ := firstE_cons h
    have := boundE_0 (by decide) h2
    exact mk ⟨nameE_ok h1, maybeE_ok h3, by have := of_decide_eq_false this; omega⟩ (zq e2) (zb e3) (zn e4) (zh e5) (zm e6) (zt e7)
  · exact mk (zs e1) (zq e2) (zb e3) (nameE_ok (firstE_cons h).1) (zh e5) (zm e6) (zt e7)
  · obtain ⟨h1, h⟩ := firstE_cons h
    exact mk (zs e1) ⟨nameE_ok h1, maybeE_ok (firstE_cons h).1⟩ (zb e3) (zn e4) (zh e5) (zm e6) (zt e7)
  · exact mk (zs e1) (zq e2) (zb e3) (nameE_ok (firstE_cons h).1) (zh e5) (zm e6) (zt e7)
  · obtain ⟨h1, h⟩ := firstE_cons h
    obtain ⟨h2, h⟩ := firstE_cons h
    obtain ⟨h3, h⟩ := firstE_cons h
    have := of_decide_eq_false (boundE_0 (by decide) h3)
    exact mk (zs e1) (zq e2) ⟨nameE_ok h1, nameE_ok h2, by omega, (firstE_cons h).1⟩ (zn e4) (zh e5) (zm e6) (zt e7)
  · obtain ⟨h1, h⟩ := firstE_cons h
    obtain ⟨h2, h⟩ := firstE_cons h
    obtain ⟨h3, h⟩ := firstE_cons h
    have := of_decide_eq_false (boundE_0 (by decide) h3)
    exact mk (zs e1) (zq e2) ⟨nameE_ok h1, nameE_ok h2, by omega, (firstE_cons h).1⟩ (zn e4) (zh e5) (zm e6) (zt e7)
  · exact mk (zs e1) (zq e2) (zb e3) (zn e4) (zh e5) (mailC_ok h) (zt e7)
  · exact mk (zs e1) (zq e2) (zb e3) (nameE_ok (firstE_cons h).1) (zh e5) (zm e6) (zt e7)
  · obtain ⟨h1, h⟩ := firstE_cons h
    have := of_decide_eq_false (boundE_0 (by decide) (firstE_cons h).1)
    exact mk (zs e1) (zq e2) (zb e3) (nameE_ok h1) (by omega) (zm e6) (zt e7)
  · exact mk (zs e1) (zq e2) (zb e3) (zn e4) (zh e5) (zm e6) (zt e7)
  · exact mk (zs e1) (zq e2) (zb e3) (zn e4) (zh e5) (mailC_ok h) (zt e7)
  · exact mk (zs e1) (zq e2) (zb e3) (zn e4) (zh e5) (zm e6) (zt e7)
  · have := of_decide_eq_false (boundE_0 (by decide) h)
    exact mk (zs e1) (zq e2) (zb e3) (zn e4) (zh e5) (zm e6) (by omega)
end Go.SW


namespace Go.SW
def deedOut (d : DeedR) : Out :=
  if d.kind = 0 then outText (outNum (outText (outNum (outNum ⟨[], 0⟩ d.kind 1) d.tick 8) d.shop.name) d.shop.sort 1) d.shop.to
  else if d.kind = 2 then outText (outNum (outNum (outText (outNum (outNum ⟨[], 0⟩ d.kind 1) d.tick 8) d.queue.name) d.queue.most 8) d.queue.life 8) d.queue.dead
  else if d.kind = 4 ∨ d.kind = 5 then outNum (outRaw (outText (outNum (outText (outText (outNum (outNum ⟨[], 0⟩ d.kind 1) d.tick 8) d.bind.shop) d.bind.to) (bitN d.bind.up) 1) d.bind.key) (headBytes d.bind.want)) (bitN d.bind.all) 1
  else if d.kind = 6 then outRaw (outNum (outNum ⟨[], 0⟩ d.kind 1) d.tick 8) (mailBytes d.mail)
  else if d.kind = 1 ∨ d.kind = 3 ∨ d.kind = 7 then outText (outNum (outNum ⟨[], 0⟩ d.kind 1) d.tick 8) d.name
  else if d.kind = 8 then outNum (outNum (outText (outNum (outNum ⟨[], 0⟩ d.kind 1) d.tick 8) d.name) d.id 8) d.how 1
  else if d.kind = 10 then outRaw (outNum (outNum (outNum (outNum ⟨[], 0⟩ d.kind 1) d.tick 8) d.frm 1) d.number 8) (mailBytes d.mail)
  else if d.kind = 12 then outText (outNum (outNum (outNum ⟨[], 0⟩ d.kind 1) d.tick 8) d.code 1) d.text
  else outNum (outNum ⟨[], 0⟩ d.kind 1) d.tick 8
def deedBytes (d : DeedR) : Bs := if deedE d = 0 then (deedOut d).s else []

def mailB (m : Mail) : Bs := numB 8 m.id.toNat ++ (txtB m.shop ++ (txtB m.key ++ (r9B m.head ++ (txtB m.body ++ (numB 8 m.due.toNat ++ numB 1 m.hops.toNat)))))
def deedB (d : DeedR) : Bs :=
  numB 1 d.kind.toNat ++ (numB 8 d.tick.toNat ++ (
  if d.kind = 0 then txtB d.shop.name ++ (numB 1 d.shop.sort.toNat ++ txtB d.shop.to)
  else if d.kind = 2 then txtB d.queue.name ++ (numB 8 d.queue.most.toNat ++ (numB 8 d.queue.life.toNat ++ txtB d.queue.dead))
  else if d.kind = 4 ∨ d.kind = 5 then txtB d.bind.shop ++ (txtB d.bind.to ++ (numB 1 (bitN d.bind.up).toNat ++ (txtB d.bind.key ++ (r9B d.bind.want ++ numB 1 (bitN d.bind.all).toNat))))
  else if d.kind = 6 then mailB d.mail
  else if d.kind = 8 then txtB d.name ++ (numB 8 d.id.toNat ++ numB 1 d.how.toNat)
  else if d.kind = 9 ∨ d.kind = 11 then []
  else if d.kind = 10 then numB 1 d.frm.toNat ++ (numB 8 d.number.toNat ++ mailB d.mail)
  else if d.kind = 12 then numB 1 d.code.toNat ++ txtB d.text
  else txtB d.name))

def mailRead (i : In) : Mail × In :=
  let a := inNum i 8
  let b := inText a.2 16
  let c := inText b.2 64
  let h := headRead c.2
  let e := inText h.2 256
  let f := inNum e.2 8
  let g := inNum f.2 1
  let m : Mail := ⟨a.1, b.1, c.1, h.1, e.1, f.1, g.1⟩
  let j := if g.2.err = 0 then inFail g.2 (mailC m) else g.2
  if j.err = 0 then (m, j) else (Mail.zero, j)

def DeedR.blank (k t : Int) : DeedR := ⟨k, t, .zero, .zero, .zero, [], 0, 0, 0, 0, 0, .zero, []⟩
def bindRead (i : In) : BindR × In :=
  let a := inText i 16
  let b := inText a.2 16
  let u := inNum b.2 1
  let k := inText u.2 64
  let h := headRead k.2
  let l := inNum h.2 1
  (⟨a.1, b.1, decide (u.1 = 1), k.1, h.1, decide (l.1 = 1)⟩, l.2)
def readK (k t : Int) (j : In) : DeedR × In :=
  let z := DeedR.blank k t
  if k = 0 then
    let a := inText j 16
    let b := inNum a.2 1
    let c := inText b.2 16
    ({ z with shop := ⟨a.1, b.1, c.1⟩ }, c.2)
  else if k = 2 then
    let a := inText j 16
    let b := inNum a.2 8
    let c := inNum b.2 8
    let e := inText c.2 16
    ({ z with queue := ⟨a.1, b.1, c.1, e.1⟩ }, e.2)
  else if k = 4 ∨ k = 5 then ({ z with bind := (bindRead j).1 }, (bindRead j).2)
  else if k = 6 then ({ z with mail := (mailRead j).1 }, (mailRead j).2)
  else if k = 1 ∨ k = 3 ∨ k = 7 then ({ z with name := (inText j 16).1 }, (inText j 16).2)
  else if k = 8 then
    let a := inText j 16
    let b := inNum a.2 8
    let c := inNum b.2 1
    ({ z with name := a.1, id := b.1, how := c.1 }, c.2)
  else if k = 10 then
    let a := inNum j 1
    let b := inNum a.2 8
    ({ z with frm := a.1, number := b.1, mail := (mailRead b.2).1 }, (mailRead b.2).2)
  else if k = 12 then
    let a := inNum j 1
    let b := inText a.2 64
    ({ z with code := a.1, text := b.1 }, b.2)
  else (z, j)
def readD (i : In) : DeedR × In := readK (inNum i 1).1 (inNum (inNum i 1).2 8).1 (inNum (inNum i 1).2 8).2

/-! Many -/
def packGo : List DeedR → Bs → Bs × Int
  | [], s => (s, 0)
  | d :: l, s => if deedE d ≠ 0 then ([], deedE d) else packGo l (s ++ deedB d)
def packD (l : List DeedR) : Bs × Int := if (255 : Int) < l.length then ([], 6) else packGo l (numB 1 l.length)
def unpackGo : Nat → In → List DeedR → List DeedR × In
  | 0, i, l => (l, i)
  | k + 1, i, l => if i.err = 0 then unpackGo k (readD i).2 (l ++ [(readD i).1]) else (l, i)
def unpackD (s : Bs) : List DeedR × Int :=
  let r := unpackGo (inNum ⟨s, 0⟩ 1).1.toNat (inNum ⟨s, 0⟩ 1).2 []
  if inEnd r.2 = 0 ∧ (packD r.1).2 = 0 ∧ (packD r.1).1 = s then (r.1, 0) else ([], 4)
end Go.SW


namespace Go.SW
theorem mailBytes_len (m : Mail) : (mailBytes m).length ≤ 3000 := by
  unfold mailBytes
  split
  · rename_i h
    obtain ⟨h1, h2, h3, h4, _⟩ := mailC_ok h
    have := headBytes_len m.head
    have a1 := outNum_len ⟨[], 0⟩ m.id 8
    have a2 := outText_len (outNum ⟨[], 0⟩ m.id 8) m.shop
    have a3 := outText_len (outText (outNum ⟨[], 0⟩ m.id 8) m.shop) m.key
    have a4 := outRaw_len (outText (outText (outNum ⟨[], 0⟩ m.id 8) m.shop) m.key) (headBytes m.head)
    have a5 := outText_len (outRaw (outText (outText (outNum ⟨[], 0⟩ m.id 8) m.shop) m.key) (headBytes m.head)) m.body
    have a6 := outNum_len (outText (outRaw (outText (outText (outNum ⟨[], 0⟩ m.id 8) m.shop) m.key) (headBytes m.head)) m.body) m.due 8
    have a7 := outNum_len (outNum (outText (outRaw (outText (outText (outNum ⟨[], 0⟩ m.id 8) m.shop) m.key) (headBytes m.head)) m.body) m.due 8) m.hops 1
    simp only [mailOut, List.length_nil] at *
    omega
  · simp
theorem headBytes_r {h : List Pair} (e : headE h = 0) (h0 : ∀ p ∈ h, 0 ≤ p.kind) : headBytes h = r9B h := by
  rw [headBytes_s e h0]; rfl
theorem mailBytes_s {m : Mail} (h : mailC m = 0) (h0 : ∀ p ∈ m.head, 0 ≤ p.kind) : mailBytes m = mailB m := by
  obtain ⟨h1, h2, h3, h4, _⟩ := mailC_ok h
  have e1 : ∀ o, outText o m.shop = ⟨o.s ++ txtB m.shop, o.err⟩ := fun o => outText_s (by omega)
  have e2 : ∀ o, outText o m.key = ⟨o.s ++ txtB m.key, o.err⟩ := fun o => outText_s (by omega)
  have e3 : ∀ o, outText o m.body = ⟨o.s ++ txtB m.body, o.err⟩ := fun o => outText_s (by omega)
  unfold mailBytes
  rw [if_pos h]
  simp only [mailOut, mailB, e1, e2, e3, outRaw, outNum1, outNum8, headBytes_r h3 h0, List.nil_append, List.append_assoc]
theorem deedBytes_s {d : DeedR} (hk : 0 ≤ d.kind) (h : deedE d = 0) (hb : ∀ p ∈ d.bind.want, 0 ≤ p.kind) (hm : ∀ p ∈ d.mail.head, 0 ≤ p.kind) : deedBytes d = deedB d := by
  have ok := deedE_ok hk h
  obtain ⟨k1, k2, k3, k4, k5, k6, k7, k8, k9, k10, k11, k12, k13, k14, k15, k16, k17, k18, k19⟩ := ok
  have e1 : ∀ o, outText o d.shop.name = ⟨o.s ++ txtB d.shop.name, o.err⟩ := fun o => outText_s (by omega)
  have e2 : ∀ o, outText o d.shop.to = ⟨o.s ++ txtB d.shop.to, o.err⟩ := fun o => outText_s (by omega)
  have e3 : ∀ o, outText o d.queue.name = ⟨o.s ++ txtB d.queue.name, o.err⟩ := fun o => outText_s (by omega)
  have e4 : ∀ o, outText o d.queue.dead = ⟨o.s ++ txtB d.queue.dead, o.err⟩ := fun o => outText_s (by omega)
  have e5 : ∀ o, outText o d.bind.shop = ⟨o.s ++ txtB d.bind.shop, o.err⟩ := fun o => outText_s (by omega)
  have e6 : ∀ o, outText o d.bind.to = ⟨o.s ++ txtB d.bind.to, o.err⟩ := fun o => outText_s (by omega)
  have e7 : ∀ o, outText o d.bind.key = ⟨o.s ++ txtB d.bind.key, o.err⟩ := fun o => outText_s (by omega)
  have e8 : ∀ o, outText o d.name = ⟨o.s ++ txtB d.name, o.err⟩ := fun o => outText_s (by omega)
  have e9 : ∀ o, outText o d.text = ⟨o.s ++ txtB d.text, o.err⟩ := fun o => outText_s (by omega)
  have hmail : d.kind = 6 ∨ d.kind = 10 → mailBytes d.mail = mailB d.mail := fun q => by
    refine mailBytes_s ?_ hm
    unfold deedE at h
    rw [if_neg (by omega), if_neg (fun q => q k1), if_neg (by omega), if_neg (by omega), if_neg (by omega), if_pos q] at h
    exact h
  have hc : d.kind = 0 ∨ d.kind = 1 ∨ d.kind = 2 ∨ d.kind = 3 ∨ d.kind = 4 ∨ d.kind = 5 ∨ d.kind = 6 ∨ d.kind = 7 ∨ d.kind = 8 ∨ d.kind = 9 ∨ d.kind = 10 ∨ d.kind = 11 ∨ d.kind = 12 := by omega
  unfold deedBytes
  rw [if_pos h]
  unfold deedOut deedB
  rcases hc with q | q | q | q | q | q | q | q | q | q | q | q | q <;>
    simp only [q, e1, e2, e3, e4, e5, e6, e7, e8, e9, outRaw, outNum1, outNum8, headBytes_r k11 hb, List.nil_append, List.append_assoc] <;> simp (config := { failIfUnchanged := false }) [hmail, q]
theorem r9B_le {h : List Pair} (e : headE h = 0) (h0 : ∀ p ∈ h, 0 ≤ p.kind) : (r9B h).length ≤ 1000 := by
  rw [← headBytes_r e h0]; exact headBytes_len h
theorem mailB_len {m : Mail} (h : mailC m = 0) (h0 : ∀ p ∈ m.head, 0 ≤ p.kind) : (mailB m).length ≤ 3000 := by
  rw [← mailBytes_s h h0]; exact mailBytes_len m
theorem deedBytes_len {d : DeedR} (hk : 0 ≤ d.kind) : (deedBytes d).length ≤ 5000 := by
  by_cases h : deedE d = 0
  · have ok := deedE_ok hk h
    obtain ⟨k1, k2, k3, k4, k5, k6, k7, k8, k9, k10, k11, k12, k13, k14, k15, k16, k17, k18, k19⟩ := ok
    have e1 : ∀ o, outText o d.shop.name = ⟨o.s ++ txtB d.shop.name, o.err⟩ := fun o => outText_s (by omega)
    have e2 : ∀ o, outText o d.shop.to = ⟨o.s ++ txtB d.shop.to, o.err⟩ := fun o => outText_s (by omega)
    have e3 : ∀ o, outText o d.queue.name = ⟨o.s ++ txtB d.queue.name, o.err⟩ := fun o => outText_s (by omega)
    have e4 : ∀ o, outText o d.queue.dead = ⟨o.s ++ txtB d.queue.dead, o.err⟩ := fun o => outText_s (by omega)
    have e5 : ∀ o, outText o d.bind.shop = ⟨o.s ++ txtB d.bind.shop, o.err⟩ := fun o => outText_s (by omega)
    have e6 : ∀ o, outText o d.bind.to = ⟨o.s ++ txtB d.bind.to, o.err⟩ := fun o => outText_s (by omega)
    have e7 : ∀ o, outText o d.bind.key = ⟨o.s ++ txtB d.bind.key, o.err⟩ := fun o => outText_s (by omega)
    have e8 : ∀ o, outText o d.name = ⟨o.s ++ txtB d.name, o.err⟩ := fun o => outText_s (by omega)
    have e9 : ∀ o, outText o d.text = ⟨o.s ++ txtB d.text, o.err⟩ := fun o => outText_s (by omega)
    have := headBytes_len d.bind.want
    have := mailBytes_len d.mail
    unfold deedBytes
    rw [if_pos h]
    unfold deedOut
    repeat' split
    all_goals
      simp only [e1, e2, e3, e4, e5, e6, e7, e8, e9, outRaw, outNum1, outNum8, List.length_append, numB_len, txtB_len, List.length_nil]
      omega
  · unfold deedBytes; rw [if_neg h]; simp
end Go.SW


namespace Go.SW
theorem headGo_each : ∀ {l a : List Pair}, headGo a l = 0 → ∀ p ∈ l, ∃ ah, pairErr p ah = 0
  | [], _, _, _, hp => by cases hp
  | q :: r, a, h, p, hp => by
    unfold headGo at h
    split at h
    · contradiction
    · rename_i e
      rcases List.mem_cons.1 hp with rfl | hp
      · exact ⟨a, by omega⟩
      · exact headGo_each h p hp
theorem headE_each {h : List Pair} (e : headE h = 0) : ∀ p ∈ h, ∃ ah, pairErr p ah = 0 := by
  unfold headE at e
  split at e
  · cases e
  · exact headGo_each e
theorem smallH_ok {h : List Pair} (e : headE h = 0) : smallH h := by
  obtain ⟨h1, h2⟩ := headE_ok e
  refine ⟨by omega, fun p hp => ?_⟩
  obtain ⟨a, b, c⟩ := h2 p hp
  obtain ⟨ah, q⟩ := headE_each e p hp
  obtain ⟨_, _, q3⟩ := pairErr_fwd q
  refine ⟨by omega, ?_⟩
  by_cases k : p.kind = 1
  · have := c k; omega
  · rw [q3 k]; simp
theorem bindE_r (b : BindR) : 0 ≤ firstE [nameE b.shop, nameE b.to, boundE (decide ((64 : Int) < b.key.length)) 5, headE b.want] ∧ firstE [nameE b.shop, nameE b.to, boundE (decide ((64 : Int) < b.key.length)) 5, headE b.want] ≤ 15 := by
  refine firstE_r _ fun a ha => ?_
  simp only [List.mem_cons, List.not_mem_nil, or_false] at ha
  rcases ha with rfl | rfl | rfl | rfl
  · exact nameE_r _
  · exact nameE_r _
  · exact boundE_r (by omega)
  · exact headE_r _
theorem deedE_mail {d : DeedR} (h : deedE d = 0) (k : d.kind = 6 ∨ d.kind = 10) : mailC d.mail = 0 := by
  unfold deedE at h
  rw [if_neg (by omega)] at h
  by_cases t : d = toldD d
  · rw [if_neg (fun q => q t), if_neg (by omega), if_neg (by omega), if_neg (by omega), if_pos k] at h
    exact h
  · rw [if_pos t] at h; exact absurd h (by decide)
end Go.SW


namespace Go.SW
def lightMl (m : Mail) : Bool := decide ((m.shop.length : Int) ≤ 40) && decide ((m.key.length : Int) ≤ 100) && lightH m.head && decide ((m.body.length : Int) ≤ 300)
theorem lightH_le {h : List Pair} (e : lightH h = true) : h.length ≤ 12 := by
  simp only [lightH, Bool.and_eq_true, decide_eq_true_eq] at e
  omega
theorem lightMl_len (m : Mail) (e : lightMl m = true) : m.shop.length ≤ 40 ∧ m.key.length ≤ 100 ∧ m.head.length ≤ 12 ∧ m.body.length ≤ 300 ∧ lightH m.head = true := by
  simp only [lightMl, Bool.and_eq_true, decide_eq_true_eq] at e
  have := lightH_le e.1.2
  exact ⟨by omega, by omega, this, by omega, e.1.2⟩
def lightD (d : DeedR) : Bool :=
  decide ((max (max (max (max (max (max (d.shop.name.length : Int) (d.shop.to.length : Int)) (d.queue.name.length : Int)) (d.queue.dead.length : Int)) (d.bind.shop.length : Int)) (d.bind.to.length : Int)) (d.name.length : Int)) ≤ 40) && decide ((max (d.bind.key.length : Int) (d.text.length : Int)) ≤ 100) && lightH d.bind.want && lightMl d.mail
theorem lightD_len (d : DeedR) (e : lightD d = true) : d.bind.want.length ≤ 12 ∧ d.mail.head.length ≤ 12 ∧ d.name.length ≤ 40 ∧ lightMl d.mail = true := by
  simp only [lightD, Bool.and_eq_true, decide_eq_true_eq] at e
  have h1 := lightH_le e.1.2
  have h2 := lightMl_len _ e.2
  exact ⟨h1, h2.2.2.1, by omega, e.2⟩
end Go.SW


namespace Go.SW
variable {P : Program} {n : Nat} {N : Rest} {F : Fr} {H : Hp} {L : Ls} {ty T T' T2 : TypeId} {x y z : Operand}
variable {ops : List Oper} {op : Op} {d : Nat} {pos : String} {af : Array Edge} {K : Fr → Hp → Ls → Prop} {α : Type}

/-- The cells of a list's elements, one behind the other. -/
def Rl (E : Hp → α → List Value → Prop) (H : Hp) : List α → List Value → Prop
  | [], cs => cs = []
  | x :: xs, cs => ∃ c1 c2, cs = c1 ++ c2 ∧ E H x c1 ∧ Rl E H xs c2

def Mono (E : Hp → α → List Value → Prop) : Prop := ∀ H H' x cs, HLe H H' → E H x cs → E H' x cs
def Wide (E : Hp → α → List Value → Prop) (k : Nat) : Prop := ∀ H x cs, E H x cs → cs.length = k ∧ ∀ u ∈ cs, u.oneCell' = true

theorem rl_nil {E : Hp → α → List Value → Prop} : Rl E H [] [] := rfl
theorem Rl.mono {E : Hp → α → List Value → Prop} (hE : Mono E) {H' : Hp} (hl : HLe H H') : ∀ {xs : List α} {cs : List Value}, Rl E H xs cs → Rl E H' xs cs
  | [], _, h => h
  | _ :: _, _, ⟨c1, c2, e, h1, h2⟩ => ⟨c1, c2, e, hE _ _ _ _ hl h1, h2.mono hE hl⟩
theorem rl_app {E : Hp → α → List Value → Prop} : ∀ {xs ys : List α} {cs ds : List Value}, Rl E H xs cs → Rl E H ys ds → Rl E H (xs ++ ys) (cs ++ ds)
  | [], _, _, _, h, k => by cases h; exact k
  | _ :: _, _, _, _, ⟨c1, c2, e, h1, h2⟩, k => ⟨c1, c2 ++ _, by rw [e, List.append_assoc], h1, rl_app h2 k⟩
theorem rl_one {E : Hp → α → List Value → Prop} {x : α} {cs : List Value} (h : E H x cs) : Rl E H [x] cs := ⟨cs, [], by simp, h, rfl⟩
theorem rl_push {E : Hp → α → List Value → Prop} {xs : List α} {x : α} {cs ds : List Value} (h : Rl E H xs cs) (k : E H x ds) : Rl E H (xs ++ [x]) (cs ++ ds) := rl_app h (rl_one k)
theorem rl_len {E : Hp → α → List Value → Prop} {k : Nat} (hW : Wide E k) : ∀ {xs : List α} {cs : List Value}, Rl E H xs cs → cs.length = xs.length * k
  | [], _, h => by cases h; simp
  | _ :: _, _, ⟨c1, c2, e, h1, h2⟩ => by rw [e, List.length_append, (hW _ _ _ h1).1, rl_len hW h2, List.length_cons, Nat.add_mul, Nat.one_mul, Nat.add_comm]
theorem rl_one' {E : Hp → α → List Value → Prop} {k : Nat} (hW : Wide E k) : ∀ {xs : List α} {cs : List Value}, Rl E H xs cs → ∀ u ∈ cs, u.oneCell' = true
  | [], _, h => by cases h; simp
  | _ :: _, _, ⟨c1, c2, e, h1, h2⟩ => fun u hu => by
    rw [e] at hu
    rcases List.mem_append.1 hu with q | q
    · exact (hW _ _ _ h1).2 u q
    · exact rl_one' hW h2 u q
theorem rl_at {E : Hp → α → List Value → Prop} {k : Nat} (hW : Wide E k) : ∀ {xs : List α} {cs : List Value}, Rl E H xs cs → ∀ m (h : m < xs.length), ∃ ds, E H xs[m] ds ∧ ∀ j, j < k → cs[m * k + j]? = ds[j]?
  | [], _, _, _, h => by cases h
  | x :: xs, _, ⟨c1, c2, e, h1, h2⟩, 0, _ => ⟨c1, h1, fun j hj => by
      rw [e, Nat.zero_mul, Nat.zero_add, List.getElem?_append_left (by rw [(hW _ _ _ h1).1]; exact hj)]⟩
  | x :: xs, _, ⟨c1, c2, e, h1, h2⟩, m + 1, h => by
    obtain ⟨ds, p, q⟩ := rl_at hW h2 m (by simpa using h)
    refine ⟨ds, p, fun j hj => ?_⟩
    have hl := (hW _ _ _ h1).1
    rw [e, List.getElem?_append_right (by rw [hl, Nat.add_mul]; omega), hl, show (m + 1) * k + j - k = m * k + j by rw [Nat.add_mul]; omega]
    exact q j hj

/-- What was owned is given to be read. -/
theorem slh_ownE {E : Hp → α → List Value → Prop} {k e : Nat} {v : Value} {en : Option (Nat × Obj)} {xs : List α} {cs : List Value} {H' : Hp} (hW : Wide E k) (ho : OwnV k e v en xs.length cs) (hr : Rl E H' xs cs) (hH : ∀ b o, en = some (b, o) → H' b = some o) : SlH E k H' v xs := by
  obtain ⟨hl, ⟨rfl, h0, _⟩ | ⟨b, cap, c, rfl, hL, hcl, hle, htk⟩⟩ := ho
  · have : xs = [] := List.length_eq_zero_iff.1 h0
    subst this
    exact ⟨⟨_, _, rfl, Nat.zero_le _⟩, fun m h => by cases h⟩
  · refine ⟨⟨_, _, rfl, hle⟩, fun m h => ?_⟩
    obtain ⟨ds, p, q⟩ := rl_at hW hr m h
    refine ⟨ds, p, b, 0, xs.length, cap, c.toArray, e, (0, 0), rfl, hH b _ hL, (hW _ _ _ p).1, fun j hj => ?_⟩
    have hlt : m * k + j < xs.length * k := by
      have : (m + 1) * k ≤ xs.length * k := Nat.mul_le_mul_right k (by omega)
      rw [Nat.add_mul] at this; omega
    rw [← q j hj, ← htk, List.getElem?_take, if_pos hlt]
    simp
/-- A block that was built, given to be read. -/
theorem slh_bxE {E : Hp → α → List Value → Prop} {k b len cap : Nat} {T0 : TypeId} {cs : List Value} {xs : List α} (hW : Wide E k) (hb : H b = some (bx T0 cs)) (hr : Rl E H xs cs) (hl : len = xs.length) (hcap : len ≤ cap) : SlH E k H (.slice (some ⟨b, 0, none⟩) len cap) xs := by
  subst hl
  refine ⟨⟨_, _, rfl, hcap⟩, fun m h => ?_⟩
  obtain ⟨ds, p, q⟩ := rl_at hW hr m h
  exact ⟨ds, p, b, 0, xs.length, cap, cs.toArray, T0, (0, 0), rfl, hb, (hW _ _ _ p).1, fun j hj => by rw [← q j hj]; simp⟩

/-- The cells of a slice that is read. -/
theorem rl_of {E : Hp → α → List Value → Prop} {k : Nat} {sv : Value} : ∀ (xs : List α) (m : Nat) (ys : List α), xs.length = m → (∀ i (h : i < ys.length), ∃ cs, E H ys[i] cs ∧ SlAt H sv k (m + i) cs) → ∃ ds, Rl E H ys ds ∧ (∀ (hW : Wide E k) i (h : i < ys.length), ∃ cs, E H ys[i] cs ∧ SlAt H sv k (m + i) cs ∧ ∀ j, j < k → ds[i * k + j]? = cs[j]?)
  | _, _, [], _, _ => ⟨[], rfl, fun _ i h => by cases h⟩
  | xs, m, y :: ys, e, h => by
    obtain ⟨c0, p0, q0⟩ := h 0 (by simp)
    obtain ⟨ds, r, s⟩ := rl_of (xs ++ [y]) (m + 1) ys (by simp [e]) (fun i hi => by
      obtain ⟨cs, p, q⟩ := h (i + 1) (by simpa using hi)
      exact ⟨cs, by simpa using p, by rw [show m + 1 + i = m + (i + 1) by omega]; exact q⟩)
    refine ⟨c0 ++ ds, ⟨c0, ds, rfl, p0, r⟩, fun hW i hi => ?_⟩
    cases i with
    | zero => exact ⟨c0, p0, q0, fun j hj => by rw [Nat.zero_mul, Nat.zero_add, List.getElem?_append_left (by rw [(hW _ _ _ p0).1]; exact hj)]⟩
    | succ i =>
      obtain ⟨cs, p, q, t⟩ := s hW i (by simpa using hi)
      refine ⟨cs, by simpa using p, by rw [show m + (i + 1) = m + 1 + i by omega]; exact q, fun j hj => ?_⟩
      have hl := (hW _ _ _ p0).1
      rw [List.getElem?_append_right (by rw [hl, Nat.add_mul]; omega), hl, show (i + 1) * k + j - k = i * k + j by rw [Nat.add_mul]; omega]
      exact t j hj
theorem src_slE {E : Hp → α → List Value → Prop} {k : Nat} {sv : Value} {xs : List α} (hW : Wide E k) (h : SlH E k H sv xs) : ∃ news, Rl E H xs news ∧ (∀ u ∈ news, u.oneCell' = true) ∧ ∀ N L, Src P N H L k sv xs.length news := by
  obtain ⟨ds, hr, hs⟩ := rl_of (H := H) (k := k) (sv := sv) [] 0 xs rfl (fun i hi => by
    obtain ⟨cs, p, q⟩ := h.2 i hi
    exact ⟨cs, p, by rw [Nat.zero_add]; exact q⟩)
  have hlen := rl_len hW hr
  refine ⟨ds, hr, rl_one' hW hr, fun N L => ⟨hlen, fun w hm => ?_⟩⟩
  obtain ⟨⟨a, c, rfl, hc⟩, hx⟩ := h
  refine ⟨by simp [Builtin.lenOf], ?_⟩
  cases a with
  | none =>
    have hn : xs = [] := by
      cases xs with
      | nil => rfl
      | cons x r =>
        obtain ⟨cs, _, b, off, l', cap, cc, T, fr, e1, _⟩ := hx 0 (by simp)
        cases e1
    subst hn
    cases hr
    simp [Builtin.firstCells]
  | some a =>
    have hcell : ∀ j v, ds[j]? = some v → w.cell? (a.add j) = some v := by
      intro j v hj
      have hjl : j < xs.length * k := by rw [← hlen]; exact (List.getElem?_eq_some_iff.1 hj).1
      have hk0 : 0 < k := by
        rcases Nat.eq_zero_or_pos k with h0 | h0
        · subst h0; omega
        · exact h0
      have hm' : j / k < xs.length := (Nat.div_lt_iff_lt_mul hk0).2 hjl
      have hj' : j % k < k := Nat.mod_lt _ hk0
      have hjj : j / k * k + j % k = j := by rw [Nat.mul_comm]; exact Nat.div_add_mod j k
      obtain ⟨cs, _, ⟨b, off, l', cap, cc, T, fr, e1, e2, e3, e4⟩, h1⟩ := hs hW (j / k) hm'
      cases e1
      have h1 := h1 (j % k) hj'
      rw [hjj, hj] at h1
      have h2 := e4 (j % k) hj'
      rw [← h1] at h2
      rw [add_none]
      have hw := hm.h _ _ e2
      rw [Nat.zero_add, Nat.add_assoc, hjj] at h2
      simp [World.cell?, hw, h2]
    have := run_loadCells_list (P := P) w a ds hcell
    rw [hlen] at this
    simpa [Builtin.firstCells] using this

theorem fe_wide {enc : α → List Value} {wf : α → Prop} {k : Nat} (hk : ∀ x, (enc x).length = k) (h1 : ∀ x, ∀ u ∈ enc x, u.oneCell' = true) : Wide (FE enc wf) k := fun H x cs h => by
  obtain ⟨rfl, _⟩ := h
  exact ⟨hk x, h1 x⟩
theorem fe_mono {enc : α → List Value} {wf : α → Prop} : Mono (FE enc wf) := fun _ _ _ _ _ h => h

/-! Lists of lists -/
def slE (E : Hp → α → List Value → Prop) (k : Nat) : Hp → List α → List Value → Prop := fun H xs cs => ∃ a c, cs = [.slice a xs.length c] ∧ SlH E k H (.slice a xs.length c) xs
theorem slE_mono {E : Hp → α → List Value → Prop} {k : Nat} (hE : Mono E) : Mono (slE E k) := fun H H' x cs hl ⟨a, c, e, h⟩ => ⟨a, c, e, h.mono hl fun _ _ q => hE _ _ _ _ hl q⟩
theorem slE_wide {E : Hp → α → List Value → Prop} {k : Nat} : Wide (slE E k) 1 := fun H x cs ⟨a, c, e, _⟩ => by subst e; exact ⟨rfl, fun u hu => by cases List.mem_singleton.1 hu; rfl⟩
end Go.SW


namespace Go.SW
variable {P : Program} {n : Nat} {N : Rest} {F : Fr} {H : Hp} {L : Ls} {ty T T' T2 : TypeId} {x y z : Operand}
variable {ops : List Oper} {op : Op} {d : Nat} {pos : String} {af : Array Edge} {K : Fr → Hp → Ls → Prop} {α : Type}

/-! Stores of a struct's part, and of all of it -/
theorem setAt_eq : ∀ (vs cs : List Value) (off : Nat), off + vs.length ≤ cs.length → setAt cs off vs = cs.take off ++ (vs ++ cs.drop (off + vs.length))
  | [], cs, off, _ => by simp [setAt]
  | v :: r, cs, off, h => by
    simp only [List.length_cons] at h
    rw [setAt, setAt_eq r _ _ (by simp; omega)]
    have e1 : (cs.set off v).take (off + 1) = cs.take off ++ [v] := by
      rw [List.take_add_one, List.take_set_of_le (Nat.le_refl _)]
      simp [show off < cs.length by omega]
    have e2 : (cs.set off v).drop (off + 1 + r.length) = cs.drop (off + (v :: r).length) := by
      rw [List.drop_set_of_lt (by omega)]
      congr 1
      simp; omega
    rw [e1, e2]; simp
theorem op1_storeAp {b off i m : Nat} {T0 : TypeId} {cs vs : List Value} (cs' : List Value) (hx : ev F x = .pointer (some ⟨b, off, none⟩)) (hy : ev F y = .agg vs.toArray) (hv : vs.all Value.oneCell' = true) (hk : Sz P T m) (hm : vs.length = m) (hi : L i = some (b, bx T0 cs)) (ho' : Nat.ble (off + m) cs.length = true) (hc : cs.take off ++ (vs ++ cs.drop (off + m)) = cs')
    (k : K F H (lupd L i (some (b, bx T0 cs')))) : Op1 P n N ops ⟨none, .store T x y, ty, pos, af, none⟩ K F H L := by
  subst hm
  rw [← setAt_eq vs cs off (by simpa using ho')] at hc
  subst hc; exact op1_storeA hx hy hv hk rfl hi ho' k
theorem op1_storeAll {b i m : Nat} {T0 : TypeId} {cs vs : List Value} (hx : ev F x = .pointer (some ⟨b, 0, none⟩)) (hy : ev F y = .agg vs.toArray) (hv : vs.all Value.oneCell' = true) (hk : Sz P T m) (hm : vs.length = m) (hi : L i = some (b, bx T0 cs)) (hc : cs.length = m)
    (k : K F H (lupd L i (some (b, bx T0 vs)))) : Op1 P n N ops ⟨none, .store T x y, ty, pos, af, none⟩ K F H L := by
  subst hm
  have e : setAt cs 0 vs = vs := by rw [setAt_eq vs cs 0 (by omega), List.drop_of_length_le (by omega)]; simp
  refine op1_storeA hx hy hv hk rfl hi (by simp; omega) ?_
  rwa [e]

/-- A part of an element. -/
theorem lo_loadEfA {k k2 m o off : Nat} {sv : Value} {cs vs : List Value} (hx : ev F x = .pointer (some ⟨sBlk sv, sOff sv + m * k + o, none⟩)) (hg : Ag P T true) (hk : Sz P T k2) (hs : SlAt H sv k m cs) (hv : sub cs o k2 = vs) (hl : vs.length = k2) : Lo P N (.load T x) ty F H L (.agg vs.toArray) := fun d pos af g w hm => by
  have hc := run_loadCells_list (P := P) w ⟨sBlk sv, sOff sv + m * k + o, none⟩ vs (fun j v hj => by
    rw [add_none]
    subst hv
    simp only [sub, List.getElem?_take, List.getElem?_drop] at hj
    split at hj
    · rw [Nat.add_assoc]; exact hm.cellAt hs hj
    · cases hj)
  rw [hl] at hc
  simp [execOp, Instr.loadAt, hx, Instr.sureAddr, loadVar, hg w, hk w, hc]

theorem run_asInt {k : IntKind} {i : Int} (w : World) : (asInt (.int k i)).run P w = .ok i w := rfl
theorem op1_make {k bytes m : Nat} {e : TypeId} {zs : List Value} {k1 k2 : IntKind} {len cap : Int} (i : Nat) (hx : ev F x = .int k1 len) (hy : ev F y = .int k2 cap) (hT : P.underlying T = some (.slice e)) (hk : Sz P e k) (hb : By P e bytes) (hz : Zr P e zs) (hzl : zs.length = k) (hone : ∀ u ∈ zs, u.oneCell' = true)
    (hlen : len = (m : Int)) (hcap : cap = (m : Int)) (hbd : bytes * m ≤ 281474976710656) (hm9 : m ≤ 9223372036854775807) (hd : Nat.blt d n = true)
    (kk : ∀ b cs, cs.length = m * k → (∀ u ∈ cs, u.oneCell' = true) → K (upd F d (.slice (some ⟨b, 0, none⟩) m m)) H (lupd L i (some (b, bx e cs)))) : Op1 P n N ops ⟨some d, .makeSlice T x y, ty, pos, af, none⟩ K F H L := by
  intro a w ha hm
  rw [if_pos (by simp [Region.wanted])]
  unfold Oper.wp
  subst hlen; subst hcap
  obtain ⟨inf, hinf, hbb⟩ := hb w
  obtain ⟨z, hzr, hzc⟩ := hz w
  have hw : IntKind.wrap .i64 (m : Int) = (m : Int) := by
    simp only [IntKind.wrap, IntKind.bits, IntKind.signed]; simp; split <;> omega
  have hzone : ∀ j : Nat, 0 < m * k → (z.cells[j % z.cells.size]!).oneCell' = true := fun j h0 => by
    have hk0 : 0 < k := Nat.pos_of_ne_zero fun e => by subst e; simp at h0
    rw [hzc]
    have hjl : j % zs.toArray.size < zs.toArray.size := Nat.mod_lt _ (by simp [hzl, hk0])
    generalize j % zs.toArray.size = q at hjl
    have hq : q < zs.length := by simpa using hjl
    have : zs.toArray[q]! = zs[q] := by simp [hq]
    rw [this]
    exact hone _ (List.getElem_mem hq)
  suffices hr : ∃ cs : List Value, cs.length = m * k ∧ (∀ u ∈ cs, u.oneCell' = true) ∧ (execOp a.eval ⟨some d, .makeSlice T x y, ty, pos, af, none⟩).run P w = .ok (.value (.slice (some ⟨w.heap.size, 0, none⟩) m m)) { w with heap := w.heap.push (bx e cs) } by
    obtain ⟨cs, h1, h2, h3⟩ := hr
    rw [h3]
    exact ⟨_, H, _, ha.put (by simpa using hd) _, hm.push i _, kk _ cs h1 h2⟩
  have h1 : ¬ ((m : Int) < 0) := by omega
  have h2 : ¬ (281474976710656 < (inf.bytes : Int) * (m : Int)) := by
    rw [hbb]
    have e1 : ((bytes : Int) * (m : Int)) = ((bytes * m : Nat) : Int) := by simp
    rw [e1]
    omega
  rw [ha.eval]
  by_cases h0 : m * k = 0
  · refine ⟨[], by simp [h0], fun u hu => (by cases hu), ?_⟩
    simp [execOp, hx, hy, Instr.makeSlice, run_underlying hT, run_asInt, hinf, hw, h1, h2, hk w, h0, newRow, askRoom, bx]
    have : Array.range 0 = #[] := by apply Array.ext'; simp
    rw [this, Array.map_empty]
  · refine ⟨((Array.range (m * k)).map (z.cells[· % z.cells.size]!)).toList, by simp, fun u hu => ?_, ?_⟩
    · simp only [Array.toList_map, List.mem_map] at hu
      obtain ⟨j, _, rfl⟩ := hu
      exact hzone j (by omega)
    · simp [execOp, hx, hy, Instr.makeSlice, run_underlying hT, run_asInt, hinf, hw, h1, h2, hk w, h0, hzr, newRow, askRoom, bx]
      congr 1
      simp [Obj.cells.injEq]
      apply Array.ext'
      simp

theorem ownV_cut {k e len : Nat} {v : Value} {en : Option (Nat × Obj)} {cs : List Value} (h : OwnV k e v en len cs) : ∃ a c, v = .slice a len c ∧ OwnV k e (.slice a 0 c) en 0 [] := by
  obtain ⟨_, ⟨rfl, rfl, rfl⟩ | ⟨b, cap, c, rfl, rfl, h1, h2, _⟩⟩ := h
  · exact ⟨_, _, rfl, ownV_nil⟩
  · exact ⟨_, _, rfl, by simp, .inr ⟨b, cap, c, rfl, rfl, h1, Nat.zero_le _, by simp⟩⟩
set_option maxHeartbeats 2000000 in
/-- Zeros are appended to nothing: a slice of that many. -/
theorem op1_appz {k bytes m : Nat} {e : TypeId} {zs : List Value} {k1 k2 : IntKind} {q : Int} (i : Nat) (hx : ev F x = .slice none 0 0) (hy : ev F y = .int k1 q) (hT : P.underlying T = some (.slice e)) (hT2 : P.underlying T2 = some (.int k2)) (hk : Sz P e k) (hb : By P e bytes) (h0 : 0 < bytes) (hz : Zr P e zs) (hzl : zs.length = k) (hone : ∀ u ∈ zs, u.oneCell' = true)
    (hq : q = (m : Int)) (hm0 : 0 < m) (hbd : m * bytes ≤ 140737488355328) (hd : Nat.blt d n = true)
    (kk : ∀ v' en' cs, OwnV k e v' en' m cs → K (upd F d v') H (lupd L i en')) : Op1 P n N ops ⟨some d, .call ⟨.builtin .append, #[x, y], #[T, T2]⟩, ty, pos, af, none⟩ K F H L := by
  intro a w ha hm
  rw [if_pos (by simp [Region.wanted])]
  unfold Oper.wp
  subst hq
  obtain ⟨inf, hinf, hbb⟩ := hb w
  have hsz : m ≤ m * bytes := Nat.le_mul_of_pos_right _ h0
  have hw : IntKind.wrap .i64 (m : Int) = (m : Int) := by
    simp only [IntKind.wrap, IntKind.bits, IntKind.signed]; simp; split <;> omega
  have hfit := growslice_fits (need := 0 + m) (old := 0) (bytes := bytes) (by omega) (by simpa using hbd)
  have hfit' : ¬ (281474976710656 < Builtin.nextslicecap m 0 * inf.bytes) := by rw [hbb]; simp only [Nat.zero_add] at hfit; omega
  have hl : ¬ (281474976710656 < (m : Int) * (inf.bytes : Int)) := by
    rw [hbb]
    have e1 : ((m : Int) * (bytes : Int)) = ((m * bytes : Nat) : Int) := by simp
    rw [e1]; omega
  have h63 : ¬ (9223372036854775807 < (m : Int)) := by omega
  have h1 : ¬ ((m : Int) < 0) := by omega
  have hm00 : ¬ m = 0 := by omega
  have hmk : ¬ m ≤ 0 := by omega
  obtain ⟨nc, hnc⟩ : ∃ nc, nc = (Question.appendCap m 0 e).cut (w.tape w.drawn (Question.appendCap m 0 e)) := ⟨_, rfl⟩
  have hnge : m ≤ nc := by rw [hnc]; simp only [Question.cut]; omega
  obtain ⟨z, hz1, hz2⟩ := hz w.drew
  obtain ⟨inf', hinf', _⟩ := hb w.drew
  have hqf : (Question.appendCap m 0 e).forced = false := rfl
  have hnil : (Builtin.firstCells k 0 (.slice none 0 0)).run P w.drew = .ok #[] w.drew := by simp [Builtin.firstCells]
  have hzc : ∀ q, (Builtin.zeroCells zs.toArray q).size = q * k := fun q => by simp [Builtin.zeroCells, hzl]
  let news : List Value := if m * k = 0 then [] else (Builtin.zeroCells zs.toArray m).toList
  have hnl : news.length = m * k := by
    by_cases h : m * k = 0
    · simp only [news, h, if_true]; rfl
    · simp only [news, h, if_false]; rw [Array.length_toList]; exact hzc m
  have hr : (Builtin.append_ #[T, T2] ty #[.slice none 0 0, .int k1 (m : Int)]).run P w = .ok (.slice (some ⟨w.heap.size, 0, none⟩) m nc) { w.drew with heap := w.drew.heap.push (bx e (news ++ (Builtin.zeroCells zs.toArray (nc - m)).toList)) } := by
    by_cases h : m * k = 0
    · simp [Builtin.append_, run_underlying hT, run_underlying hT2, hk w, hw, hinf, hl, h63, h1, hm00, hmk, hfit', hqf, hinf', hnil, h, hz1, hz2, newRow, bx, askRoom, ← hnc, news, run_asInt]
      first | done | rfl | (show w.drew.alloc _ = w.drew.alloc _; congr 2; apply Array.ext'; simp; done)
    · simp [Builtin.append_, run_underlying hT, run_underlying hT2, hk w, hw, hinf, hl, h63, h1, hm00, hmk, hfit', hqf, hinf', hnil, h, hz1, hz2, newRow, bx, askRoom, ← hnc, news, run_asInt]
      first | done | rfl | (show w.drew.alloc _ = w.drew.alloc _; congr 2; apply Array.ext'; simp; done)
  have : (execOp a.eval ⟨some d, .call ⟨.builtin .append, #[x, y], #[T, T2]⟩, ty, pos, af, none⟩).run P w = .ok (.value (.slice (some ⟨w.heap.size, 0, none⟩) m nc)) { w.drew with heap := w.drew.heap.push (bx e (news ++ (Builtin.zeroCells zs.toArray (nc - m)).toList)) } := by
    rw [ha.eval]
    refine exec_builtin (args := #[.slice none 0 0, .int k1 (m : Int)]) (by simp [hx, hy]) fun cs => ?_
    simp [builtin, hr]
  rw [this]
  refine ⟨_, H, _, ha.put (by simpa using hd) _, (hm.drew (w.drawn + 1)).push i _, kk _ _ news ⟨hnl, .inr ⟨_, _, _, rfl, rfl, ?_, hnge, ?_⟩⟩⟩
  · simp only [List.length_append, Array.length_toList, hzc, hnl]
    rw [← Nat.add_mul]; congr 1; omega
  · rw [← hnl]; exact List.take_left

theorem lo_cap_sl {sa : Option Addr} {l c : Nat} {e : TypeId} (hx : ev F x = .slice sa l c) (hT : P.underlying T = some (.slice e)) : Lo P N (.call ⟨.builtin .cap, #[x], #[T]⟩) ty F H L (.int .i64 c) := fun d pos af g w _ => by
  refine exec_builtin (args := #[.slice sa l c]) (by simp [hx]) fun cs => ?_
  simp [builtin, Builtin.cap_, run_underlying hT, goInt]
theorem lo_slice_hi {k' : IntKind} {hi : Operand} {a : Option Addr} {l c k : Nat} {e : TypeId} {j : Int} (q : Nat) (hx : ev F x = .slice a l c) (hhi : ev F hi = .int k' j) (hT : P.underlying T = some (.slice e)) (hk : Sz P e k) (h0 : j = (q : Int)) (h2 : q ≤ c) :
    Lo P N (.slice T x none (some hi) none) ty F H L (.slice (slA a c 0 k) q c) := lo_slice_slh_hi q hx hhi hT hk h0 h2
theorem slA_0 {a : Option Addr} {c k : Nat} : slA a c 0 k = a := by
  unfold slA
  split
  · rfl
  · cases a with
    | none => rfl
    | some a => simp [Addr.add]
theorem lo_slice_cut {k' : IntKind} {hi : Operand} {a : Option Addr} {l c k : Nat} {e : TypeId} {j : Int} (hx : ev F x = .slice a l c) (hhi : ev F hi = .int k' j) (hT : P.underlying T = some (.slice e)) (hk : Sz P e k) (h0 : j = 0) :
    Lo P N (.slice T x none (some hi) none) ty F H L (.slice a 0 c) := by
  have q := lo_slice_slh_hi (P := P) (N := N) (T := T) (ty := ty) (H := H) (L := L) (k := k) 0 hx hhi hT hk (by omega) (Nat.zero_le _)
  rwa [slA_0] at q
/-- What is guarded, where the guard is so. -/
theorem op1_gd {od : Option Nat} {j : Nat} {want b : Bool} (hy : yF ops F j = some (.bool b)) (hb : b = want) (h : Op1 P n N ops ⟨od, op, ty, pos, af, none⟩ K F H L) : Op1 P n N ops ⟨od, op, ty, pos, af, some (j, want)⟩ K F H L := by
  intro a w ha hm
  have q := h a w ha hm
  rw [if_pos (by simp [Region.wanted])] at q
  rw [if_pos (by simp [Region.wanted, yielded_of ha hy, hb])]
  exact q
/-- A method of a value, held as a function. -/
theorem lo_makeFuncB {f : FuncId} {xs ys : List Operand} {fs cap : List Value} (hc : evs F xs = fs) (hd : evs F ys = cap) : Lo P N (.makeFunc (.func f) xs.toArray ys.toArray) ty F H L (.func (.func f) fs.toArray cap.toArray) := fun d pos af g w _ => by
  subst hc; subst hd
  simp [execOp, Instr.makeFunc, evs_map]
theorem en_b {F : Fr} {x : Operand} {f : FuncId} {fs : List Value} {xs : List Operand} {vs : List Value} {ats : Array TypeId} (hx : ev F x = .func (.func f) fs.toArray #[]) (hc : Callable P f) (ha : fs ++ evs F xs = vs) : En P (.call ⟨.value x, xs.toArray, ats⟩) F f vs.toArray := fun ty d pos af g w => by
  subst ha
  have := hc (fs ++ evs F xs).toArray w
  have e : (fs ++ evs F xs).toArray = fs.toArray ++ (evs F xs).toArray := by simp
  have h2 : (callFunc f (fs.toArray ++ (evs F xs).toArray)).run P w = .ok (.enter f (fs ++ evs F xs).toArray) w := by rw [← e]; exact this
  simp [execOp, resolve, Deferred.ofValue, hx, invoke, evs_map, this]
theorem foldM_max {k : IntKind} (w : World) : ∀ (zs : List Int) (z : Int), (((zs.map (Value.int k)).foldlM Builtin.max2 (.int k z)) : Sem Value).run P w = .ok (.int k (zs.foldl max z)) w
  | [], z => rfl
  | y :: r, z => by
    have : (if y > z then y else z) = max z y := by omega
    simp only [List.map_cons, List.foldlM_cons, List.foldl_cons]
    rw [Sem.run_bind]
    have e : (Builtin.max2 (.int k z) (.int k y)).run P w = .ok (.int k (max z y)) w := by simp [Builtin.max2, this]
    rw [e]
    exact foldM_max w r (max z y)
theorem lo_maxN {k : IntKind} {xs : List Operand} {z r : Int} (zs : List Int) {ats : Array TypeId} (hx : evs F xs = (z :: zs).map (Value.int k)) (hr : zs.foldl max z = r) : Lo P N (.call ⟨.builtin .max, xs.toArray, ats⟩) ty F H L (.int k r) := fun d pos af g w _ => by
  refine exec_builtin (args := ((z :: zs).map (Value.int k)).toArray) (by simp [evs_map, hx]) fun cs => ?_
  have := foldM_max (P := P) (k := k) w zs z
  subst hr
  simp [builtin, Builtin.max_, this]
theorem equalIn_slnil (d : Nat) {a : Option Addr} {l c : Nat} {e : TypeId} (hT : P.underlying T = some (.slice e)) (w : World) : (Op.equalIn (d + 1) T (.slice a l c) (.slice none 0 0)).run P w = .ok a.isNone w := by
  cases a <;> simp [Op.equalIn, run_underlying hT]
theorem lo_sleq_nil {a : Option Addr} {l c : Nat} {e : TypeId} (hx : ev F x = .slice a l c) (hy : ev F y = .slice none 0 0) (hT : P.underlying T = some (.slice e)) : Lo P N (.binOp .eql T x y T') ty F H L (.bool a.isNone) :=
  lo_bin hx hy (fun w => by cases a <;> rfl) fun w => by simp [binOp, equal_of (fun d => equalIn_slnil d hT w)]
theorem nand_l {p q : Prop} (h : ¬ p) : ¬ (p ∧ q) := fun k => h k.1
theorem nand_r {p q : Prop} (h : ¬ q) : ¬ (p ∧ q) := fun k => h k.2
theorem nbt {b : Bool} (h : b = false) : ¬ b = true := by simp [h]
theorem nbf {b : Bool} (h : b = true) : ¬ b = false := by simp [h]
theorem slh_none {E : Hp → α → List Value → Prop} {k l c : Nat} {xs : List α} (h : SlH E k H (.slice none l c) xs) : xs = [] := by
  cases xs with
  | nil => rfl
  | cons x r =>
    obtain ⟨cs, _, b, off, l', cap, cc, T, fr, e1, _⟩ := h.2 0 (by simp)
    cases e1
end Go.SW


namespace Go.SW
theorem pairE_mono : Mono pairE := fe_mono
theorem pairE_wide : Wide pairE 4 := fe_wide (fun _ => rfl) (by intro x u hu; simp only [Pair.cells, List.mem_cons, List.not_mem_nil, or_false] at hu; rcases hu with rfl | rfl | rfl | rfl <;> rfl)
theorem frameE_mono : Mono frameE := fe_mono
theorem frameE_wide : Wide frameE 3 := fe_wide (fun _ => rfl) (by intro x u hu; simp only [Frame.cells, List.mem_cons, List.not_mem_nil, or_false] at hu; rcases hu with rfl | rfl | rfl <;> rfl)
def shopRE : Hp → ShopR → List Value → Prop := FE ShopR.cells ShopR.wf
theorem shopRE_mono : Mono shopRE := fe_mono
theorem shopRE_wide : Wide shopRE 3 := fe_wide (fun _ => rfl) (by intro x u hu; simp only [ShopR.cells, List.mem_cons, List.not_mem_nil, or_false] at hu; rcases hu with rfl | rfl | rfl <;> rfl)
def queueRE : Hp → QueueR → List Value → Prop := FE QueueR.cells QueueR.wf
theorem queueRE_mono : Mono queueRE := fe_mono
theorem queueRE_wide : Wide queueRE 4 := fe_wide (fun _ => rfl) (by intro x u hu; simp only [QueueR.cells, List.mem_cons, List.not_mem_nil, or_false] at hu; rcases hu with rfl | rfl | rfl | rfl <;> rfl)
def bindRE : Hp → BindR → List Value → Prop := fun H x cs => ∃ (a1 : Option Addr) (c1 : Nat), cs = BindR.cells x a1 c1 ∧ SlH pairE 4 H (.slice a1 x.want.length c1) x.want ∧ x.wf
theorem bindRE_mono : Mono bindRE := by
  rintro H H' x cs hl ⟨a1, c1, e, h1, w⟩
  exact ⟨_, _, e, h1.mono hl (fun _ _ q => pairE_mono _ _ _ _ hl q), w⟩
theorem bindRE_wide : Wide bindRE 6 := by
  rintro H x cs ⟨a1, c1, rfl, _, _⟩
  refine ⟨rfl, fun u hu => ?_⟩
  simp only [BindR.cells, List.mem_cons, List.not_mem_nil, or_false] at hu
  rcases hu with rfl | rfl | rfl | rfl | rfl | rfl <;> rfl
def deedRE : Hp → DeedR → List Value → Prop := fun H x cs => ∃ (a1 : Option Addr) (c1 : Nat) (a2 : Option Addr) (c2 : Nat), cs = DeedR.cells x a1 c1 a2 c2 ∧ SlH pairE 4 H (.slice a1 x.bind.want.length c1) x.bind.want ∧ SlH pairE 4 H (.slice a2 x.mail.head.length c2) x.mail.head ∧ x.wf
theorem deedRE_mono : Mono deedRE := by
  rintro H H' x cs hl ⟨a1, c1, a2, c2, e, h1, h2, w⟩
  exact ⟨_, _, _, _, e, h1.mono hl (fun _ _ q => pairE_mono _ _ _ _ hl q), h2.mono hl (fun _ _ q => pairE_mono _ _ _ _ hl q), w⟩
theorem deedRE_wide : Wide deedRE 29 := by
  rintro H x cs ⟨a1, c1, a2, c2, rfl, _, _, _⟩
  refine ⟨rfl, fun u hu => ?_⟩
  simp only [DeedR.cells, List.mem_cons, List.not_mem_nil, or_false] at hu
  rcases hu with rfl | rfl | rfl | rfl | rfl | rfl | rfl | rfl | rfl | rfl | rfl | rfl | rfl | rfl | rfl | rfl | rfl | rfl | rfl | rfl | rfl | rfl | rfl | rfl | rfl | rfl | rfl | rfl | rfl <;> rfl
structure BookR where
  shops : List ShopR
  binds : List BindR
deriving DecidableEq
def BookR.cells (x : BookR) (a1 : Option Addr) (c1 : Nat) (a2 : Option Addr) (c2 : Nat) : List Value := [.slice a1 x.shops.length c1, .slice a2 x.binds.length c2]
def BookR.wf (x : BookR) : Prop := x.shops.length ≤ 9223372036854775807 ∧ x.binds.length ≤ 9223372036854775807
def BookR.zero : BookR := ⟨[], []⟩
theorem BookR.eq_iff {a b : BookR} : a = b ↔ a.shops = b.shops ∧ a.binds = b.binds := by
  cases a; cases b; simp
def bookRE : Hp → BookR → List Value → Prop := fun H x cs => ∃ (a1 : Option Addr) (c1 : Nat) (a2 : Option Addr) (c2 : Nat), cs = BookR.cells x a1 c1 a2 c2 ∧ SlH shopRE 3 H (.slice a1 x.shops.length c1) x.shops ∧ SlH bindRE 6 H (.slice a2 x.binds.length c2) x.binds ∧ x.wf
theorem bookRE_mono : Mono bookRE := by
  rintro H H' x cs hl ⟨a1, c1, a2, c2, e, h1, h2, w⟩
  exact ⟨_, _, _, _, e, h1.mono hl (fun _ _ q => shopRE_mono _ _ _ _ hl q), h2.mono hl (fun _ _ q => bindRE_mono _ _ _ _ hl q), w⟩
theorem bookRE_wide : Wide bookRE 2 := by
  rintro H x cs ⟨a1, c1, a2, c2, rfl, _, _, _⟩
  refine ⟨rfl, fun u hu => ?_⟩
  simp only [BookR.cells, List.mem_cons, List.not_mem_nil, or_false] at hu
  rcases hu with rfl | rfl <;> rfl
end Go.SW


namespace Go.SW
theorem nor_ {p q : Prop} (h : ¬ p) (k : ¬ q) : ¬ (p ∨ q) := fun x => x.elim h k
def idxF {α : Type} (p : α → Bool) : Nat → List α → Int
  | _, [] => -1
  | k, x :: r => if p x then k else idxF p (k + 1) r
def idxP {α : Type} (p : α → Bool) (l : List α) : Int := idxF p 0 l
theorem idx_miss {α : Type} {p : α → Bool} {l r : List α} {c : α} {k : Nat} (h : idxP p l = idxF p k (l.drop k)) (e : l.drop k = c :: r) (hc : p c = false) : idxP p l = idxF p (k + 1) r := by
  rw [h, e, idxF, hc]; rfl
theorem idx_hit {α : Type} {p : α → Bool} {l r : List α} {c : α} {k : Nat} (h : idxP p l = idxF p k (l.drop k)) (e : l.drop k = c :: r) (hc : p c = true) : idxP p l = k := by
  rw [h, e, idxF, hc]; rfl
theorem idx_end {α : Type} {p : α → Bool} {l : List α} {k : Nat} (h : idxP p l = idxF p k (l.drop k)) (hk : l.length ≤ k) : idxP p l = -1 := by
  rw [h, List.drop_of_length_le hk]; rfl
theorem idxF_r {α : Type} (p : α → Bool) : ∀ (l : List α) (k : Nat), idxF p k l = -1 ∨ (k : Int) ≤ idxF p k l ∧ idxF p k l < k + l.length
  | [], k => .inl rfl
  | x :: r, k => by
    unfold idxF
    split
    · right; simp; omega
    · rcases idxF_r p r (k + 1) with h | h
      · exact .inl h
      · right; simp only [List.length_cons]; omega
theorem idxP_r {α : Type} (p : α → Bool) (l : List α) : -1 ≤ idxP p l ∧ idxP p l < (l.length : Int) ∨ idxP p l = -1 := by
  have := idxF_r p l 0
  unfold idxP
  omega
theorem idxF_any {α : Type} (p : α → Bool) : ∀ (l : List α) (k : Nat), (0 ≤ idxF p k l) = (l.any p = true)
  | [], k => by simp [idxF]
  | x :: r, k => by
    unfold idxF
    cases h : p x with
    | true => simp [h]
    | false => simp only [Bool.false_eq_true, if_false, List.any_cons, h, Bool.false_or]; exact idxF_any p r (k + 1)
theorem idxP_any {α : Type} (p : α → Bool) (l : List α) : (0 ≤ idxP p l) = (l.any p = true) := idxF_any p l 0
theorem idxP_mem {α : Type} [DecidableEq α] (x : α) (l : List α) : decide (0 ≤ idxP (fun y => decide (x = y)) l) = decide (x ∈ l) := by
  rw [Bool.eq_iff_iff, decide_eq_true_eq, decide_eq_true_eq, idxP_any]
  simp

/-! Books -/
def shopOf (l : List ShopR) (n : Bs) : Option ShopR := l.find? fun s => decide (s.name = n)
theorem shopOf_hit {l r : List ShopR} {c : ShopR} {n : Bs} {k : Nat} (h : shopOf l n = shopOf (l.drop k) n) (e : l.drop k = c :: r) (hc : c.name = n) : shopOf l n = some c := by
  rw [h, e]; simp [shopOf, hc]
theorem shopOf_miss {l r : List ShopR} {c : ShopR} {n : Bs} {k : Nat} (h : shopOf l n = shopOf (l.drop k) n) (e : l.drop k = c :: r) (hc : ¬ c.name = n) : shopOf l n = shopOf r n := by
  rw [h, e]; simp [shopOf, hc]
def shopE (x : ShopR) : Int := if nameE x.name ≠ 0 then nameE x.name else if 4 < x.sort then 8 else if x.sort = 4 then nameE x.to else if x.to ≠ [] then 4 else 0
theorem shopE_r (x : ShopR) : 0 ≤ shopE x ∧ shopE x ≤ 15 := by
  have := nameE_r x.name
  have := nameE_r x.to
  unfold shopE
  repeat' split
  all_goals omega
def makeS (b : BookR) (x : ShopR) : BookR × Int :=
  if shopE x ≠ 0 then (b, shopE x)
  else if (shopOf b.shops x.name).isSome = true ∧ x = (shopOf b.shops x.name).getD ShopR.zero then (b, 0)
  else if (shopOf b.shops x.name).isSome = true then (b, 9)
  else if 8 ≤ b.shops.length then (b, 12)
  else (⟨b.shops ++ [x], b.binds⟩, 0)
def bindRule (x : BindR) (sort : Int) : Rule := ⟨sort, x.key, x.want, x.all⟩
def bindS (b : BookR) (x : BindR) : BookR × Int :=
  if (shopOf b.shops x.shop).isSome = false then (b, 10)
  else if ((shopOf b.shops x.shop).getD ShopR.zero).sort = 4 then (b, 8)
  else if nameE x.to ≠ 0 then (b, nameE x.to)
  else if ruleE (bindRule x ((shopOf b.shops x.shop).getD ShopR.zero).sort) ≠ 0 then (b, ruleE (bindRule x ((shopOf b.shops x.shop).getD ShopR.zero).sort))
  else if 0 ≤ idxP (fun y => decide (x = y)) b.binds then (b, 0)
  else if 32 ≤ b.binds.length then (b, 12)
  else (⟨b.shops, b.binds ++ [x]⟩, 0)
theorem bindRule_wf {x : BindR} {s : Int} (w : x.wf) (h : 0 ≤ s ∧ s ≤ 255) : (bindRule x s).wf := ⟨h, w.2.2.1, w.2.2.2⟩
theorem slh_wfE {k : Nat} {H : Hp} {sv : Value} {xs : List ShopR} (h : SlH shopRE k H sv xs) : ∀ p ∈ xs, p.wf := fun p hp => by
  obtain ⟨m, hm, rfl⟩ := List.getElem_of_mem hp
  obtain ⟨cs, ⟨_, q⟩, _⟩ := h.2 m hm
  exact q
theorem shopOf_wf {l : List ShopR} {n : Bs} (h : ∀ p ∈ l, p.wf) : ((shopOf l n).getD ShopR.zero).wf := by
  unfold shopOf
  cases e : l.find? fun s => decide (s.name = n) with
  | none => simp [ShopR.wf, ShopR.zero]
  | some s => exact h s (List.mem_of_find?_eq_some e)
def putS (l : List Bs) (s : Bs) : List Bs := if s ∈ l then l else l ++ [s]
theorem makeS_wf {b : BookR} {x : ShopR} (w : b.wf) : (makeS b x).1.wf := by
  unfold makeS
  repeat' split
  all_goals first
    | exact w
    | (obtain ⟨w1, w2⟩ := w
       refine ⟨?_, w2⟩
       simp only [List.length_append, List.length_cons, List.length_nil]
       omega)
theorem bindS_wf {b : BookR} {x : BindR} (w : b.wf) : (bindS b x).1.wf := by
  unfold bindS
  repeat' split
  all_goals first
    | exact w
    | (obtain ⟨w1, w2⟩ := w
       refine ⟨w1, ?_⟩
       simp only [List.length_append, List.length_cons, List.length_nil]
       omega)
theorem putS_len (l : List Bs) (s : Bs) : (putS l s).length ≤ l.length + 1 := by
  unfold putS; split <;> simp
def leadGo (sort : Int) (shop key : Bs) (h : List Pair) : List BindR → List Bs → List Bs → List Bs × List Bs
  | [], q, p => (q, p)
  | y :: r, q, p => if y.shop ≠ shop ∨ goesR (bindRule y sort) key h = false then leadGo sort shop key h r q p else if y.up = true then leadGo sort shop key h r q (putS p y.to) else leadGo sort shop key h r (putS q y.to) p
def leadS (b : BookR) (shop key : Bs) (h : List Pair) : List Bs × List Bs × Int :=
  if (shopOf b.shops shop).isSome = false then ([], [], 10)
  else if ((shopOf b.shops shop).getD ShopR.zero).sort = 4 then ([], [((shopOf b.shops shop).getD ShopR.zero).to], 0)
  else ((leadGo ((shopOf b.shops shop).getD ShopR.zero).sort shop key h b.binds [] []).1, (leadGo ((shopOf b.shops shop).getD ShopR.zero).sort shop key h b.binds [] []).2, 0)
end Go.SW


namespace Go.Proofs
open Go.Shelf
def Tryz.lays150_ren : Go.Shelf.Ren := ⟨fun | 150 => 238 | 153 => 259 | 152 => 266 | 226 => 267 | 227 => 268 | 228 => 269 | 137 => 273 | 119 => 274 | 224 => 275 | 225 => 276 | 217 => 280 | 266 => 285 | n => n, fun | 9 => 9 | 4 => 4 | 3 => 3 | 5 => 5 | 21 => 21 | 117 => 324 | 116 => 323 | 0 => 0 | 46 => 265 | 124 => 332 | n => n, fun | n => n⟩
theorem Tryz.lays150 : Go.Proofs.Lays.n150 Tryz.prog Tryz.lays150_ren := {
  mixed := by kernel_rfl
  f119 := Tryz.func274.trans (congrArg some (by kernel_rfl))
  f137 := Tryz.func273.trans (congrArg some (by kernel_rfl))
  f150 := Tryz.func238.trans (congrArg some (by kernel_rfl))
  f152 := Tryz.func266.trans (congrArg some (by kernel_rfl))
  f153 := Tryz.func259.trans (congrArg some (by kernel_rfl))
  f217 := Tryz.func280.trans (congrArg some (by kernel_rfl))
  f224 := Tryz.func275.trans (congrArg some (by kernel_rfl))
  f225 := Tryz.func276.trans (congrArg some (by kernel_rfl))
  f226 := Tryz.func267.trans (congrArg some (by kernel_rfl))
  f227 := Tryz.func268.trans (congrArg some (by kernel_rfl))
  f228 := Tryz.func269.trans (congrArg some (by kernel_rfl))
  f266 := Tryz.func285.trans (congrArg some (by kernel_rfl))
  t0 := Tryz.underlying0
  a0 := Tryz.isAgg0
  z0 := Tryz.sizeOf0
  v0 := Tryz.zeroValue0
  t3 := Tryz.underlying3
  a3 := Tryz.isAgg3
  z3 := Tryz.sizeOf3
  v3 := Tryz.zeroValue3
  t4 := Tryz.underlying4
  a4 := Tryz.isAgg4
  z4 := Tryz.sizeOf4
  v4 := Tryz.zeroValue4
  t5 := Tryz.underlying5
  a5 := Tryz.isAgg5
  z5 := Tryz.sizeOf5
  v5 := Tryz.zeroValue5
  t9 := Tryz.underlying9
  a9 := Tryz.isAgg9
  z9 := Tryz.sizeOf9
  v9 := Tryz.zeroValue9
  t21 := Tryz.underlying21
  a21 := Tryz.isAgg21
  z21 := Tryz.sizeOf21
  v21 := Tryz.zeroValue21
  t46 := Tryz.underlying265
  a46 := Tryz.isAgg265
  z46 := Tryz.sizeOf265
  v46 := Tryz.zeroValue265
  t116 := Tryz.underlying323
  a116 := Tryz.isAgg323
  z116 := Tryz.sizeOf323
  t117 := Tryz.underlying324
  a117 := Tryz.isAgg324
  z117 := Tryz.sizeOf324
  v117 := Tryz.zeroValue324
  t124 := Tryz.underlying332
  a124 := Tryz.isAgg332
  z124 := Tryz.sizeOf332
  v124 := Tryz.zeroValue332 }
open Go.RowKit Go.Lib in
theorem Tryz.strings_ContainsAny_laid (s chars : ByteArray) (w : World) (hs : s.size < 4294967281) (hcs : chars.size < 4294967281) (has : ∀ (j : Nat) b, s.data.toList[j]? = some b → b.toNat < 128) (hac : ∀ (j : Nat) b, chars.data.toList[j]? = some b → b.toNat < 128) :
    Calls Tryz.prog 238 #[.string s, .string chars] w fun e w' => e = .returned (.bool (Lib.containsAny s.data.toList chars.data.toList)) ∧ Below w.heap.size w w' := Any.strings_ContainsAny_laid Tryz.lays150 (by kernel_rfl) s chars w hs hcs has hac
end Go.Proofs
namespace Go.SW
open Go.Proofs
theorem strings_ContainsAny (H : Hp) (s cs : Bs) (hs : s.length < 4294967281) (hc : cs.length < 4294967281) (ha : ∀ c ∈ s, c.toNat < 128) (hb : ∀ c ∈ cs, c.toNat < 128) : Pr Tryz.prog 238 #[str s, str cs] H (.bool (hasAny s cs)) := by
  refine pr_below fun w => ?_
  rw [← containsAny_eq]
  exact Tryz.strings_ContainsAny_laid ⟨s.toArray⟩ ⟨cs.toArray⟩ w (by simpa [ByteArray.size] using hs) (by simpa [ByteArray.size] using hc) (fun j b h => ha b (List.mem_of_getElem? h)) (fun j b h => hb b (List.mem_of_getElem? h))
end Go.SW


namespace Go.Proofs
open Go.Shelf
def Tryz.lays146_ren : Go.Shelf.Ren := ⟨fun | 146 => 265 | 221 => 272 | 268 => 277 | 138 => 278 | 143 => 279 | 195 => 281 | 197 => 282 | 218 => 283 | 219 => 284 | 260 => 286 | 217 => 280 | 225 => 276 | 224 => 275 | 267 => 287 | 266 => 285 | 314 => 288 | n => n, fun | 9 => 9 | 31 => 245 | 3 => 3 | 4 => 4 | 0 => 0 | 105 => 334 | 21 => 21 | 5 => 5 | 46 => 265 | 119 => 336 | 139 => 339 | 138 => 338 | 146 => 340 | 51 => 248 | n => n, fun | 1 => 2 | 3 => 3 | 4 => 4 | n => n⟩
theorem Tryz.lays146 : Go.Proofs.Lays.n146 Tryz.prog Tryz.lays146_ren := {
  mixed := by kernel_rfl
  f138 := Tryz.func278.trans (congrArg some (by kernel_rfl))
  f143 := Tryz.func279.trans (congrArg some (by kernel_rfl))
  f146 := Tryz.func265.trans (congrArg some (by kernel_rfl))
  f195 := Tryz.func281.trans (congrArg some (by kernel_rfl))
  f197 := Tryz.func282.trans (congrArg some (by kernel_rfl))
  f217 := Tryz.func280.trans (congrArg some (by kernel_rfl))
  f218 := Tryz.func283.trans (congrArg some (by kernel_rfl))
  f219 := Tryz.func284.trans (congrArg some (by kernel_rfl))
  f221 := Tryz.func272.trans (congrArg some (by kernel_rfl))
  f224 := Tryz.func275.trans (congrArg some (by kernel_rfl))
  f225 := Tryz.func276.trans (congrArg some (by kernel_rfl))
  f260 := Tryz.func286.trans (congrArg some (by kernel_rfl))
  f266 := Tryz.func285.trans (congrArg some (by kernel_rfl))
  f267 := Tryz.func287.trans (congrArg some (by kernel_rfl))
  f268 := Tryz.func277.trans (congrArg some (by kernel_rfl))
  f314 := Tryz.func288.trans (congrArg some (by kernel_rfl))
  t0 := Tryz.underlying0
  a0 := Tryz.isAgg0
  z0 := Tryz.sizeOf0
  v0 := Tryz.zeroValue0
  t3 := Tryz.underlying3
  a3 := Tryz.isAgg3
  z3 := Tryz.sizeOf3
  v3 := Tryz.zeroValue3
  t4 := Tryz.underlying4
  a4 := Tryz.isAgg4
  z4 := Tryz.sizeOf4
  v4 := Tryz.zeroValue4
  t5 := Tryz.underlying5
  a5 := Tryz.isAgg5
  z5 := Tryz.sizeOf5
  v5 := Tryz.zeroValue5
  t9 := Tryz.underlying9
  a9 := Tryz.isAgg9
  z9 := Tryz.sizeOf9
  v9 := Tryz.zeroValue9
  t21 := Tryz.underlying21
  a21 := Tryz.isAgg21
  z21 := Tryz.sizeOf21
  v21 := Tryz.zeroValue21
  t31 := Tryz.underlying245
  a31 := Tryz.isAgg245
  z31 := Tryz.sizeOf245
  v31 := Tryz.zeroValue245
  t46 := Tryz.underlying265
  a46 := Tryz.isAgg265
  z46 := Tryz.sizeOf265
  v46 := Tryz.zeroValue265
  t51 := Tryz.underlying248
  a51 := Tryz.isAgg248
  z51 := Tryz.sizeOf248
  v51 := Tryz.zeroValue248
  t105 := Tryz.underlying334
  a105 := Tryz.isAgg334
  z105 := Tryz.sizeOf334
  v105 := Tryz.zeroValue334
  t119 := Tryz.underlying336
  a119 := Tryz.isAgg336
  z119 := Tryz.sizeOf336
  t138 := Tryz.underlying338
  a138 := Tryz.isAgg338
  z138 := Tryz.sizeOf338
  v138 := Tryz.zeroValue338
  t139 := Tryz.underlying339
  a139 := Tryz.isAgg339
  z139 := Tryz.sizeOf339
  v139 := Tryz.zeroValue339
  t146 := Tryz.underlying340
  a146 := Tryz.isAgg340
  z146 := Tryz.sizeOf340
  v146 := Tryz.zeroValue340
  g1 := by kernel_rfl
  g3 := by kernel_rfl
  g4 := by kernel_rfl }
open Go.RowKit Go.Lib in
theorem Tryz.strings_Split (s sep : ByteArray) (m : Int) (w : World) (hs : s.size < 4294967281) (hm : w.cell? ⟨2, 0, none⟩ = some (.int .i64 m)) (h1 : 1 ≤ sep.size) :
    Calls Tryz.prog 265 #[.string s, .string sep] w fun e w' =>
      e = .returned (.slice (some ⟨w.heap.size, 0, none⟩) (Lib.countB s sep + 1) (Lib.countB s sep + 1)) ∧ w' = w.alloc (.cells ((Lib.splitB sep 0 (Lib.countB s sep) s).map Value.string).toArray 9) := Any.strings_Split Tryz.lays146 (by kernel_rfl) s sep m w hs hm h1
end Go.Proofs
namespace Go.SW
open Go.Proofs
theorem strings_Split (H : Hp) (s p : Bs) (hp : p = [46]) (hML : GInt H 2) (hs : s.length < 4294967281) : Ph Tryz.prog 265 #[str s, str p] H (fun v H' => ∃ (a : Option Addr) (c : Nat), v = .slice a (dots s).length c ∧ SlH strE 1 H' (.slice a (dots s).length c) (dots s)) := by
  subst hp
  refine ph_strs (T := 9) (fun w hw => by have := dots_piece s w hw; omega) fun N L w hm => ?_
  obtain ⟨m, hc⟩ := hML.cell hm
  refine (Tryz.strings_Split ⟨s.toArray⟩ ⟨#[46]⟩ m w (by simpa [ba_size] using hs) hc (by decide)).mono fun e w' ⟨he, hw⟩ => ⟨?_, ?_⟩
  · rw [he, splitB_len]
  · rw [hw, splitB_dots]
end Go.SW


set_option linter.unusedVariables false
set_option maxRecDepth 100000
set_option maxHeartbeats 4000000
namespace Go.SW
open Go.Proofs
theorem ag155 : Ag Tryz.prog 155 false := fun w => by kernel_rfl
theorem ag39 : Ag Tryz.prog 39 false := fun w => by kernel_rfl
theorem ag9 : Ag Tryz.prog 9 false := fun w => by kernel_rfl
theorem bd252_0s (a1 : Bs) (w : World) : (Instr.build 252 #[(0, str a1)]).run Tryz.prog w = .ok (.agg #[str a1, .int .i64 0]) w := by kernel_rfl
theorem cb190 : Callable Tryz.prog 190 := callable_of Tryz.func190 (by kernel_rfl) (by kernel_rfl)
theorem cb193 : Callable Tryz.prog 193 := callable_of Tryz.func193 (by kernel_rfl) (by kernel_rfl)
theorem fl158_0 : Fld Tryz.prog 158 0 0 := fun b o w => by kernel_rfl
theorem fl252_0 : Fld Tryz.prog 252 0 0 := fun b o w => by kernel_rfl
theorem fl252_1 : Fld Tryz.prog 252 1 1 := fun b o w => by kernel_rfl
theorem la158_158 : liesAt Tryz.prog Tryz.prog.depth 158 (2 / Tryz.prog.cellsOf 158) 0 158 1 = true := by kernel_rfl
theorem ne225 : NoEsc Tryz.prog 225 := noEsc_of Tryz.func225 (by kernel_rfl) (by kernel_rfl) (by kernel_rfl) (by kernel_rfl)
theorem sz155 : Sz Tryz.prog 155 1 := fun w => by kernel_rfl
theorem sz39 : Sz Tryz.prog 39 1 := fun w => by kernel_rfl
theorem sz9 : Sz Tryz.prog 9 1 := fun w => by kernel_rfl
theorem ti158 : ∃ j, Tryz.prog.info? 158 = some j := Option.isSome_iff_exists.1 (by kernel_rfl)
theorem tz158 : ∃ j, Tryz.prog.info? 158 = some j ∧ j.size ≠ 0 := exInfo (by kernel_rfl)

theorem words_plain (H : Hp) (s : Bs) (hs : s.length ≤ 9223372036854775807) : Pr Tryz.prog 200 #[str s] H (.bool (plain s)) := by
  refine pr_cw Tryz.func200 rfl Tryz.ntmps200 rfl (fun N => ?_)
  refine cw_seq ?_
  refine cw_region ?_
  refine ow1 (op1_l rfl (lo_assign (v := .bool _) rfl) ?_)
  refine ow_nil ?_
  refine seqK_n ?_
  refine cw_seq ?_
  refine cw_seq ?_
  refine cw_region ?_
  refine ow1 (op1_l rfl (lo_move (v := str _) rfl) ?_)
  refine ow1 (op1_l rfl (lo_len_str rfl Tryz.underlying9) ?_)
  refine ow1 (op1_l rfl (lo_move (v := .int _ _) rfl) ?_)
  refine ow_nil ?_
  refine seqK_n ?_
  refine cw_block ?_
  refine cw_loop1 [2, 3, 4, 7, 8, 9, 10, 11, 12, 13, 14, 15, 16, 17, 18, 19, 20, 21, 22, 23, 24, 25, 26, 27, 28, 29, 30] [] (fun (k : Nat) G => upd (G) 7 (.int .i64 (k : Int))) (fun (k : Nat) G => G) (fun (k : Nat) H' => k ≤ s.length ∧ (s.drop k).all (fun c => letter c.toNat) = plain s) (fun (k : Nat) => s.length - k) 0 (upd_intro (mask_intro (by first | exact off_refl | (repeat (first | exact off_mask | refine off_upd rfl ?_ | refine off_mask2 rfl ?_)))) rfl) (lmask_intro offl_refl) ?_ ?_
  · exact ⟨by omega, rfl⟩
  · intro k J2 JL2 H2 hp1 hl2
    obtain ⟨hk1, hk2⟩ := hp1
    refine cw_seq ?_
    refine cw_region ?_
    refine ow1 (op1_l rfl (lo_lss rfl rfl) ?_)
    refine ow_nil ?_
    refine seqK_n ?_
    refine cw_seq ?_
    refine cw_cond rfl (fun h3 => ?_) (fun h3 => ?_)
    · have p4 := dt h3
      refine cw_skip ?_
      refine seqK_n ?_
      refine cw_seq ?_
      refine cw_block ?_
      refine cw_seq ?_
      refine cw_region ?_
      refine ow1 (op1_l rfl (lo_move (v := .int _ _) rfl) ?_)
      refine ow1 (op1_l rfl (lo_assign (v := .int _ _) rfl) ?_)
      refine ow_nil ?_
      refine seqK_n ?_
      refine cw_seq ?_
      refine cw_region ?_
      refine ow1 (op1_l rfl (lo_move (v := str _) rfl) ?_)
      refine ow1 (op1_l rfl (lo_move (v := .int _ _) rfl) ?_)
      have := u8r (s.getD k 0)
      refine ow1 (op1_l rfl (lo_index_str k rfl rfl Tryz.underlying9 (by omega) (by omega)) ?_)
      refine ow1 (op1_l rfl (lo_assign (v := .int _ _) rfl) ?_)
      refine ow_nil ?_
      refine seqK_n ?_
      refine cw_block ?_
      refine cw_seq ?_
      refine cw_seq ?_
      refine cw_region ?_
      refine ow1 (op1_l rfl (lo_move (v := .int _ _) rfl) ?_)
      refine ow1 (op1_l rfl (lo_geq rfl rfl) ?_)
      refine ow1 (op1_l rfl (lo_move (v := .bool _) rfl) ?_)
      refine ow_sp (j := 2) rfl (fun h5 => ?_) (fun h5 => ?_)
      · have p6 := dt h5
        refine ow1 (op1_g rfl h5 rfl (lo_move (v := .int _ _) rfl) ?_)
        refine ow1 (op1_g rfl h5 rfl (lo_leq rfl rfl) ?_)
        refine ow1 (op1_l rfl (lo_pick_t (v := .bool _) rfl h5 rfl) ?_)
        refine ow1 (op1_l rfl (lo_assign (v := .bool _) rfl) ?_)
        refine ow_nil ?_
        refine seqK_n ?_
        refine cw_cond rfl (fun h7 => ?_) (fun h7 => ?_)
        · have p8 := dt h7
          refine cw_skip ?_
          refine seqK_n ?_
          refine cw_cond_t rfl h7 ?_
          refine cw_skip ?_
          refine blkK_n ?_
          refine blkK_n ?_
          refine seqK_n ?_
          refine cw_region ?_
          refine ow1 (op1_l rfl (lo_add rfl rfl (rg_i64 (by omega))) ?_)
          refine ow1 (op1_l rfl (lo_move (v := .int _ _) rfl) ?_)
          refine ow_nil ?_
          refine next1 (k + 1) (upd_intro (mask_intro (by first | exact off_refl | (repeat (first | exact off_mask | refine off_upd rfl ?_ | refine off_mask2 rfl ?_)))) rfl) (lmask_intro (by first | exact offl_refl | (repeat (first | exact offl_mask | refine offl_upd rfl ?_ | refine offl_mask2 rfl ?_)))) hl2 ?_ ?_
          · exact ⟨by omega, by rw [← hk2, drop_getD (k := k) (by omega), List.all_cons]; generalize ((s.getD k 0).toNat : Int) = z at *; simp [letter, *]⟩
          · omega
        · have p9 := df h7
          refine cw_seq ?_
          refine cw_region ?_
          refine ow1 (op1_l rfl (lo_move (v := .int _ _) rfl) ?_)
          refine ow1 (op1_l rfl (lo_geq rfl rfl) ?_)
          refine ow1 (op1_l rfl (lo_move (v := .bool _) rfl) ?_)
          refine ow_sp (j := 2) rfl (fun h10 => ?_) (fun h10 => ?_)
          · have p11 := dt h10
            refine ow1 (op1_g rfl h10 rfl (lo_move (v := .int _ _) rfl) ?_)
            refine ow1 (op1_g rfl h10 rfl (lo_leq rfl rfl) ?_)
            refine ow1 (op1_l rfl (lo_pick_t (v := .bool _) rfl h10 rfl) ?_)
            refine ow1 (op1_l rfl (lo_assign (v := .bool _) rfl) ?_)
            refine ow_nil ?_
            refine seqK_n ?_
            refine cw_cond rfl (fun h12 => ?_) (fun h12 => ?_)
            · have p13 := dt h12
              refine cw_skip ?_
              refine seqK_n ?_
              refine cw_cond_t rfl h12 ?_
              refine cw_skip ?_
              refine blkK_n ?_
              refine blkK_n ?_
              refine seqK_n ?_
              refine cw_region ?_
              refine ow1 (op1_l rfl (lo_add rfl rfl (rg_i64 (by omega))) ?_)
              refine ow1 (op1_l rfl (lo_move (v := .int _ _) rfl) ?_)
              refine ow_nil ?_
              refine next1 (k + 1) (upd_intro (mask_intro (by first | exact off_refl | (repeat (first | exact off_mask | refine off_upd rfl ?_ | refine off_mask2 rfl ?_)))) rfl) (lmask_intro (by first | exact offl_refl | (repeat (first | exact offl_mask | refine offl_upd rfl ?_ | refine offl_mask2 rfl ?_)))) hl2 ?_ ?_
              · exact ⟨by omega, by rw [← hk2, drop_getD (k := k) (by omega), List.all_cons]; generalize ((s.getD k 0).toNat : Int) = z at *; simp [letter, *]⟩
              · omega
            · have p14 := df h12
              refine cw_seq ?_
              refine cw_region ?_
              refine ow1 (op1_l rfl (lo_move (v := .int _ _) rfl) ?_)
              refine ow1 (op1_l rfl (lo_eql rfl rfl) ?_)
              refine ow1 (op1_l rfl (lo_assign (v := .bool _) rfl) ?_)
              refine ow_nil ?_
              refine seqK_n ?_
              refine cw_cond rfl (fun h15 => ?_) (fun h15 => ?_)
              · have p16 := dt h15
                refine cw_skip ?_
                refine seqK_n ?_
                refine cw_cond_t rfl h15 ?_
                refine cw_skip ?_
                refine blkK_n ?_
                refine blkK_n ?_
                refine seqK_n ?_
                refine cw_region ?_
                refine ow1 (op1_l rfl (lo_add rfl rfl (rg_i64 (by omega))) ?_)
                refine ow1 (op1_l rfl (lo_move (v := .int _ _) rfl) ?_)
                refine ow_nil ?_
                refine next1 (k + 1) (upd_intro (mask_intro (by first | exact off_refl | (repeat (first | exact off_mask | refine off_upd rfl ?_ | refine off_mask2 rfl ?_)))) rfl) (lmask_intro (by first | exact offl_refl | (repeat (first | exact offl_mask | refine offl_upd rfl ?_ | refine offl_mask2 rfl ?_)))) hl2 ?_ ?_
                · exact ⟨by omega, by rw [← hk2, drop_getD (k := k) (by omega), List.all_cons]; generalize ((s.getD k 0).toNat : Int) = z at *; simp [letter, *]⟩
                · omega
              · have p17 := df h15
                refine cw_region ?_
                refine ow1 (op1_l rfl (lo_move (v := .int _ _) rfl) ?_)
                refine ow1 (op1_l rfl (lo_eql rfl rfl) ?_)
                refine ow1 (op1_l rfl (lo_assign (v := .bool _) rfl) ?_)
                refine ow_nil ?_
                refine seqK_n ?_
                refine cw_cond rfl (fun h18 => ?_) (fun h18 => ?_)
                · have p19 := dt h18
                  refine cw_skip ?_
                  refine blkK_n ?_
                  refine blkK_n ?_
                  refine seqK_n ?_
                  refine cw_region ?_
                  refine ow1 (op1_l rfl (lo_add rfl rfl (rg_i64 (by omega))) ?_)
                  refine ow1 (op1_l rfl (lo_move (v := .int _ _) rfl) ?_)
                  refine ow_nil ?_
                  refine next1 (k + 1) (upd_intro (mask_intro (by first | exact off_refl | (repeat (first | exact off_mask | refine off_upd rfl ?_ | refine off_mask2 rfl ?_)))) rfl) (lmask_intro (by first | exact offl_refl | (repeat (first | exact offl_mask | refine offl_upd rfl ?_ | refine offl_mask2 rfl ?_)))) hl2 ?_ ?_
                  · exact ⟨by omega, by rw [← hk2, drop_getD (k := k) (by omega), List.all_cons]; generalize ((s.getD k 0).toNat : Int) = z at *; simp [letter, *]⟩
                  · omega
                · have p20 := df h18
                  refine cw_seq ?_
                  refine cw_region ?_
                  refine ow1 (op1_l rfl (lo_assign (v := .bool _) rfl) ?_)
                  refine ow_nil ?_
                  refine seqK_n ?_
                  refine cw_ret ?_
                  refine blkK_r ?_
                  refine blkK_r ?_
                  refine seqK_r ?_
                  refine loopK_r ?_
                  refine blkK_r ?_
                  refine seqK_r ?_
                  refine fnK_r (res1 rfl (rv_t (v := .bool _) rfl)) ((HLe.refl _).trans hl2) ?_
                  first | (rw [← hk2, drop_getD (k := k) (by omega), List.all_cons]; generalize ((s.getD k 0).toNat : Int) = z at *; simp [letter, *]; done) | (rw [← hk2, List.drop_of_length_le (by omega)]; rfl)
          · have p21 := df h10
            refine ow1 (op1_gs rfl h10 rfl ?_)
            refine ow1 (op1_gs rfl h10 rfl ?_)
            refine ow1 (op1_l rfl (lo_pick_f (v := .bool _) rfl h10 rfl) ?_)
            refine ow1 (op1_l rfl (lo_assign (v := .bool _) rfl) ?_)
            refine ow_nil ?_
            refine seqK_n ?_
            refine cw_cond_f rfl rfl ?_
            refine cw_seq ?_
            refine cw_region ?_
            refine ow1 (op1_l rfl (lo_move (v := .int _ _) rfl) ?_)
            refine ow1 (op1_l rfl (lo_eql rfl rfl) ?_)
            refine ow1 (op1_l rfl (lo_assign (v := .bool _) rfl) ?_)
            refine ow_nil ?_
            refine seqK_n ?_
            refine cw_cond rfl (fun h22 => ?_) (fun h22 => ?_)
            · have p23 := dt h22
              refine cw_skip ?_
              refine seqK_n ?_
              refine cw_cond_t rfl h22 ?_
              refine cw_skip ?_
              refine blkK_n ?_
              refine blkK_n ?_
              refine seqK_n ?_
              refine cw_region ?_
              refine ow1 (op1_l rfl (lo_add rfl rfl (rg_i64 (by omega))) ?_)
              refine ow1 (op1_l rfl (lo_move (v := .int _ _) rfl) ?_)
              refine ow_nil ?_
              refine next1 (k + 1) (upd_intro (mask_intro (by first | exact off_refl | (repeat (first | exact off_mask | refine off_upd rfl ?_ | refine off_mask2 rfl ?_)))) rfl) (lmask_intro (by first | exact offl_refl | (repeat (first | exact offl_mask | refine offl_upd rfl ?_ | refine offl_mask2 rfl ?_)))) hl2 ?_ ?_
              · exact ⟨by omega, by rw [← hk2, drop_getD (k := k) (by omega), List.all_cons]; generalize ((s.getD k 0).toNat : Int) = z at *; simp [letter, *]⟩
              · omega
            · have p24 := df h22
              refine cw_region ?_
              refine ow1 (op1_l rfl (lo_move (v := .int _ _) rfl) ?_)
              refine ow1 (op1_l rfl (lo_eql rfl rfl) ?_)
              refine ow1 (op1_l rfl (lo_assign (v := .bool _) rfl) ?_)
              refine ow_nil ?_
              refine seqK_n ?_
              refine cw_cond rfl (fun h25 => ?_) (fun h25 => ?_)
              · have p26 := dt h25
                refine cw_skip ?_
                refine blkK_n ?_
                refine blkK_n ?_
                refine seqK_n ?_
                refine cw_region ?_
                refine ow1 (op1_l rfl (lo_add rfl rfl (rg_i64 (by omega))) ?_)
                refine ow1 (op1_l rfl (lo_move (v := .int _ _) rfl) ?_)
                refine ow_nil ?_
                refine next1 (k + 1) (upd_intro (mask_intro (by first | exact off_refl | (repeat (first | exact off_mask | refine off_upd rfl ?_ | refine off_mask2 rfl ?_)))) rfl) (lmask_intro (by first | exact offl_refl | (repeat (first | exact offl_mask | refine offl_upd rfl ?_ | refine offl_mask2 rfl ?_)))) hl2 ?_ ?_
                · exact ⟨by omega, by rw [← hk2, drop_getD (k := k) (by omega), List.all_cons]; generalize ((s.getD k 0).toNat : Int) = z at *; simp [letter, *]⟩
                · omega
              · have p27 := df h25
                refine cw_seq ?_
                refine cw_region ?_
                refine ow1 (op1_l rfl (lo_assign (v := .bool _) rfl) ?_)
                refine ow_nil ?_
                refine seqK_n ?_
                refine cw_ret ?_
                refine blkK_r ?_
                refine blkK_r ?_
                refine seqK_r ?_
                refine loopK_r ?_
                refine blkK_r ?_
                refine seqK_r ?_
                refine fnK_r (res1 rfl (rv_t (v := .bool _) rfl)) ((HLe.refl _).trans hl2) ?_
                first | (rw [← hk2, drop_getD (k := k) (by omega), List.all_cons]; generalize ((s.getD k 0).toNat : Int) = z at *; simp [letter, *]; done) | (rw [← hk2, List.drop_of_length_le (by omega)]; rfl)
      · have p28 := df h5
        refine ow1 (op1_gs rfl h5 rfl ?_)
        refine ow1 (op1_gs rfl h5 rfl ?_)
        refine ow1 (op1_l rfl (lo_pick_f (v := .bool _) rfl h5 rfl) ?_)
        refine ow1 (op1_l rfl (lo_assign (v := .bool _) rfl) ?_)
        refine ow_nil ?_
        refine seqK_n ?_
        refine cw_cond_f rfl rfl ?_
        refine cw_seq ?_
        refine cw_region ?_
        refine ow1 (op1_l rfl (lo_move (v := .int _ _) rfl) ?_)
        refine ow1 (op1_l rfl (lo_geq rfl rfl) ?_)
        refine ow1 (op1_l rfl (lo_move (v := .bool _) rfl) ?_)
        refine ow_sp (j := 2) rfl (fun h29 => ?_) (fun h29 => ?_)
        · have p30 := dt h29
          refine ow1 (op1_g rfl h29 rfl (lo_move (v := .int _ _) rfl) ?_)
          refine ow1 (op1_g rfl h29 rfl (lo_leq rfl rfl) ?_)
          refine ow1 (op1_l rfl (lo_pick_t (v := .bool _) rfl h29 rfl) ?_)
          refine ow1 (op1_l rfl (lo_assign (v := .bool _) rfl) ?_)
          refine ow_nil ?_
          refine seqK_n ?_
          refine cw_cond rfl (fun h31 => ?_) (fun h31 => ?_)
          · have p32 := dt h31
            refine cw_skip ?_
            refine seqK_n ?_
            refine cw_cond_t rfl h31 ?_
            refine cw_skip ?_
            refine blkK_n ?_
            refine blkK_n ?_
            refine seqK_n ?_
            refine cw_region ?_
            refine ow1 (op1_l rfl (lo_add rfl rfl (rg_i64 (by omega))) ?_)
            refine ow1 (op1_l rfl (lo_move (v := .int _ _) rfl) ?_)
            refine ow_nil ?_
            refine next1 (k + 1) (upd_intro (mask_intro (by first | exact off_refl | (repeat (first | exact off_mask | refine off_upd rfl ?_ | refine off_mask2 rfl ?_)))) rfl) (lmask_intro (by first | exact offl_refl | (repeat (first | exact offl_mask | refine offl_upd rfl ?_ | refine offl_mask2 rfl ?_)))) hl2 ?_ ?_
            · exact ⟨by omega, by rw [← hk2, drop_getD (k := k) (by omega), List.all_cons]; generalize ((s.getD k 0).toNat : Int) = z at *; simp [letter, *]⟩
            · omega
          · have p33 := df h31
            refine cw_seq ?_
            refine cw_region ?_
            refine ow1 (op1_l rfl (lo_move (v := .int _ _) rfl) ?_)
            refine ow1 (op1_l rfl (lo_eql rfl rfl) ?_)
            refine ow1 (op1_l rfl (lo_assign (v := .bool _) rfl) ?_)
            refine ow_nil ?_
            refine seqK_n ?_
            refine cw_cond rfl (fun h34 => ?_) (fun h34 => ?_)
            · have p35 := dt h34
              refine cw_skip ?_
              refine seqK_n ?_
              refine cw_cond_t rfl h34 ?_
              refine cw_skip ?_
              refine blkK_n ?_
              refine blkK_n ?_
              refine seqK_n ?_
              refine cw_region ?_
              refine ow1 (op1_l rfl (lo_add rfl rfl (rg_i64 (by omega))) ?_)
              refine ow1 (op1_l rfl (lo_move (v := .int _ _) rfl) ?_)
              refine ow_nil ?_
              refine next1 (k + 1) (upd_intro (mask_intro (by first | exact off_refl | (repeat (first | exact off_mask | refine off_upd rfl ?_ | refine off_mask2 rfl ?_)))) rfl) (lmask_intro (by first | exact offl_refl | (repeat (first | exact offl_mask | refine offl_upd rfl ?_ | refine offl_mask2 rfl ?_)))) hl2 ?_ ?_
              · exact ⟨by omega, by rw [← hk2, drop_getD (k := k) (by omega), List.all_cons]; generalize ((s.getD k 0).toNat : Int) = z at *; simp [letter, *]⟩
              · omega
            · have p36 := df h34
              refine cw_region ?_
              refine ow1 (op1_l rfl (lo_move (v := .int _ _) rfl) ?_)
              refine ow1 (op1_l rfl (lo_eql rfl rfl) ?_)
              refine ow1 (op1_l rfl (lo_assign (v := .bool _) rfl) ?_)
              refine ow_nil ?_
              refine seqK_n ?_
              refine cw_cond rfl (fun h37 => ?_) (fun h37 => ?_)
              · have p38 := dt h37
                refine cw_skip ?_
                refine blkK_n ?_
                refine blkK_n ?_
                refine seqK_n ?_
                refine cw_region ?_
                refine ow1 (op1_l rfl (lo_add rfl rfl (rg_i64 (by omega))) ?_)
                refine ow1 (op1_l rfl (lo_move (v := .int _ _) rfl) ?_)
                refine ow_nil ?_
                refine next1 (k + 1) (upd_intro (mask_intro (by first | exact off_refl | (repeat (first | exact off_mask | refine off_upd rfl ?_ | refine off_mask2 rfl ?_)))) rfl) (lmask_intro (by first | exact offl_refl | (repeat (first | exact offl_mask | refine offl_upd rfl ?_ | refine offl_mask2 rfl ?_)))) hl2 ?_ ?_
                · exact ⟨by omega, by rw [← hk2, drop_getD (k := k) (by omega), List.all_cons]; generalize ((s.getD k 0).toNat : Int) = z at *; simp [letter, *]⟩
                · omega
              · have p39 := df h37
                refine cw_seq ?_
                refine cw_region ?_
                refine ow1 (op1_l rfl (lo_assign (v := .bool _) rfl) ?_)
                refine ow_nil ?_
                refine seqK_n ?_
                refine cw_ret ?_
                refine blkK_r ?_
                refine blkK_r ?_
                refine seqK_r ?_
                refine loopK_r ?_
                refine blkK_r ?_
                refine seqK_r ?_
                refine fnK_r (res1 rfl (rv_t (v := .bool _) rfl)) ((HLe.refl _).trans hl2) ?_
                first | (rw [← hk2, drop_getD (k := k) (by omega), List.all_cons]; generalize ((s.getD k 0).toNat : Int) = z at *; simp [letter, *]; done) | (rw [← hk2, List.drop_of_length_le (by omega)]; rfl)
        · have p40 := df h29
          refine ow1 (op1_gs rfl h29 rfl ?_)
          refine ow1 (op1_gs rfl h29 rfl ?_)
          refine ow1 (op1_l rfl (lo_pick_f (v := .bool _) rfl h29 rfl) ?_)
          refine ow1 (op1_l rfl (lo_assign (v := .bool _) rfl) ?_)
          refine ow_nil ?_
          refine seqK_n ?_
          refine cw_cond_f rfl rfl ?_
          refine cw_seq ?_
          refine cw_region ?_
          refine ow1 (op1_l rfl (lo_move (v := .int _ _) rfl) ?_)
          refine ow1 (op1_l rfl (lo_eql rfl rfl) ?_)
          refine ow1 (op1_l rfl (lo_assign (v := .bool _) rfl) ?_)
          refine ow_nil ?_
          refine seqK_n ?_
          refine cw_cond rfl (fun h41 => ?_) (fun h41 => ?_)
          · have p42 := dt h41
            refine cw_skip ?_
            refine seqK_n ?_
            refine cw_cond_t rfl h41 ?_
            refine cw_skip ?_
            refine blkK_n ?_
            refine blkK_n ?_
            refine seqK_n ?_
            refine cw_region ?_
            refine ow1 (op1_l rfl (lo_add rfl rfl (rg_i64 (by omega))) ?_)
            refine ow1 (op1_l rfl (lo_move (v := .int _ _) rfl) ?_)
            refine ow_nil ?_
            refine next1 (k + 1) (upd_intro (mask_intro (by first | exact off_refl | (repeat (first | exact off_mask | refine off_upd rfl ?_ | refine off_mask2 rfl ?_)))) rfl) (lmask_intro (by first | exact offl_refl | (repeat (first | exact offl_mask | refine offl_upd rfl ?_ | refine offl_mask2 rfl ?_)))) hl2 ?_ ?_
            · exact ⟨by omega, by rw [← hk2, drop_getD (k := k) (by omega), List.all_cons]; generalize ((s.getD k 0).toNat : Int) = z at *; simp [letter, *]⟩
            · omega
          · have p43 := df h41
            refine cw_region ?_
            refine ow1 (op1_l rfl (lo_move (v := .int _ _) rfl) ?_)
            refine ow1 (op1_l rfl (lo_eql rfl rfl) ?_)
            refine ow1 (op1_l rfl (lo_assign (v := .bool _) rfl) ?_)
            refine ow_nil ?_
            refine seqK_n ?_
            refine cw_cond rfl (fun h44 => ?_) (fun h44 => ?_)
            · have p45 := dt h44
              refine cw_skip ?_
              refine blkK_n ?_
              refine blkK_n ?_
              refine seqK_n ?_
              refine cw_region ?_
              refine ow1 (op1_l rfl (lo_add rfl rfl (rg_i64 (by omega))) ?_)
              refine ow1 (op1_l rfl (lo_move (v := .int _ _) rfl) ?_)
              refine ow_nil ?_
              refine next1 (k + 1) (upd_intro (mask_intro (by first | exact off_refl | (repeat (first | exact off_mask | refine off_upd rfl ?_ | refine off_mask2 rfl ?_)))) rfl) (lmask_intro (by first | exact offl_refl | (repeat (first | exact offl_mask | refine offl_upd rfl ?_ | refine offl_mask2 rfl ?_)))) hl2 ?_ ?_
              · exact ⟨by omega, by rw [← hk2, drop_getD (k := k) (by omega), List.all_cons]; generalize ((s.getD k 0).toNat : Int) = z at *; simp [letter, *]⟩
              · omega
            · have p46 := df h44
              refine cw_seq ?_
              refine cw_region ?_
              refine ow1 (op1_l rfl (lo_assign (v := .bool _) rfl) ?_)
              refine ow_nil ?_
              refine seqK_n ?_
              refine cw_ret ?_
              refine blkK_r ?_
              refine blkK_r ?_
              refine seqK_r ?_
              refine loopK_r ?_
              refine blkK_r ?_
              refine seqK_r ?_
              refine fnK_r (res1 rfl (rv_t (v := .bool _) rfl)) ((HLe.refl _).trans hl2) ?_
              first | (rw [← hk2, drop_getD (k := k) (by omega), List.all_cons]; generalize ((s.getD k 0).toNat : Int) = z at *; simp [letter, *]; done) | (rw [← hk2, List.drop_of_length_le (by omega)]; rfl)
    · have p47 := df h3
      refine cw_exit ?_
      refine seqK_e ?_
      refine loopK_e ?_
      refine blkK_hit ?_
      refine seqK_n ?_
      refine cw_seq ?_
      refine cw_region ?_
      refine ow1 (op1_l rfl (lo_assign (v := .bool _) rfl) ?_)
      refine ow_nil ?_
      refine seqK_n ?_
      refine cw_ret ?_
      refine fnK_r (res1 rfl (rv_t (v := .bool _) rfl)) ((HLe.refl _).trans hl2) ?_
      first | (rw [← hk2, drop_getD (k := k) (by omega), List.all_cons]; generalize ((s.getD k 0).toNat : Int) = z at *; simp [letter, *]; done) | (rw [← hk2, List.drop_of_length_le (by omega)]; rfl)

set_option maxRecDepth 100000 in
theorem copyCheck {n : Nat} {N : Rest} {F : Fr} {H : Hp} {L : Ls} {ops : List Oper} {ty d : Nat} {pos : String} {af : Array Edge} {K : Fr → Hp → Ls → Prop} {x : Operand} {ats : Array TypeId} {b : Nat} {p v : Value} (i : Nat) (hx : ev F x = .pointer (some ⟨b, 0, none⟩)) (hi : L i = some (b, bx 158 [p, v]))
    (hp : p = .pointer none ∨ p = .pointer (some ⟨b, 0, none⟩)) (hd : Nat.blt d n = true) (k : K (upd F d (.tuple #[])) H (lupd L i (some (b, bx 158 [.pointer (some ⟨b, 0, none⟩), v])))) : Op1 Tryz.prog n N ops ⟨some d, .call ⟨.value (.func 190), #[x], ats⟩, ty, pos, af, none⟩ K F H L := by
  refine op1_in (en_f (vs := [.pointer (some ⟨b, 0, none⟩)]) cb190 (by simp [evs, hx])) Tryz.func190 rfl Tryz.ntmps190 rfl hd ?_
  refine cw_seq ?_
  refine cw_region ?_
  refine ow1 (op1_l rfl (lo_move (v := .pointer (some ⟨_, _, none⟩)) rfl) ?_)
  refine ow1 (op1_l rfl (lo_nilCheck rfl) ?_)
  refine ow1 (op1_l rfl (lo_fieldAddr rfl fl158_0) ?_)
  refine ow1 (op1_l rfl (lo_load1 (i := i) (v := p) rfl ag155 hi rfl) ?_)
  rcases hp with rfl | rfl
  · refine ow1 (op1_l rfl (lo_pnil rfl rfl Tryz.underlying155) ?_)
    refine ow_nil ?_
    refine seqK_n ?_
    refine cw_cond_t rfl rfl ?_
    refine cw_region ?_
    refine ow1 (op1_l rfl (lo_move (v := .pointer (some ⟨_, _, none⟩)) rfl) ?_)
    refine ow1 (op1_l rfl (lo_move (v := .pointer (some ⟨_, _, none⟩)) rfl) ?_)
    refine ow1 (op1_l rfl (lo_toUnsafe (i := i) rfl hi rfl Tryz.underlying155 Tryz.underlying275 (tz158).choose_spec.1 (tz158).choose_spec.2) ?_)
    refine ow1 (op1_l rfl (lo_noEsc (v := .pointer (some ⟨_, _, none⟩)) ne225 rfl) ?_)
    refine ow1 (op1_l rfl (lo_fromUnsafe (i := i) rfl hi Tryz.underlying275 Tryz.underlying155 (ti158).choose_spec la158_158) ?_)
    refine ow1 (op1_l rfl (lo_nilCheck rfl) ?_)
    refine ow1 (op1_l rfl (lo_fieldAddr rfl fl158_0) ?_)
    refine ow1 (op1_store1 (i := i) (v := .pointer (some ⟨_, _, none⟩)) rfl rfl rfl sz155 hi rfl ?_)
    refine ow_nil ?_
    exact fnK_n (res0 rfl) (.refl _) k
  · refine ow1 (op1_l rfl (lo_peq_nil rfl rfl Tryz.underlying155) ?_)
    refine ow_nil ?_
    refine seqK_n ?_
    refine cw_cond_f rfl rfl ?_
    refine cw_seq ?_
    refine cw_region ?_
    refine ow1 (op1_l rfl (lo_move (v := .pointer (some ⟨_, _, none⟩)) rfl) ?_)
    refine ow1 (op1_l rfl (lo_nilCheck rfl) ?_)
    refine ow1 (op1_l rfl (lo_fieldAddr rfl fl158_0) ?_)
    refine ow1 (op1_l rfl (lo_load1 (i := i) (v := .pointer (some ⟨b, 0, none⟩)) rfl ag155 hi rfl) ?_)
    refine ow1 (op1_l rfl (lo_move (v := .pointer (some ⟨_, _, none⟩)) rfl) ?_)
    refine ow1 (op1_l rfl (lo_pne_self rfl rfl Tryz.underlying155 (ti158).choose_spec) ?_)
    refine ow_nil ?_
    refine seqK_n ?_
    refine cw_cond_f rfl rfl ?_
    refine cw_skip ?_
    refine fnK_n (res0 rfl) (.refl _) ?_
    rwa [lupd_eta hi] at k

theorem octet_New (H : Hp) (s : Bs) : Pn Tryz.prog 95 #[str s] H (fun v H' b o' => v = .pointer (some ⟨b, 0, none⟩) ∧ H = H' ∧ o' = bx 252 (In.cells (⟨s, 0⟩))) := by
  refine pn_cw Tryz.func95 rfl Tryz.ntmps95 rfl (fun N => ?_)
  refine cw_seq ?_
  refine cw_region ?_
  refine ow1 (op1_l rfl (lo_assign rfl) ?_)
  refine ow_nil ?_
  refine seqK_n ?_
  refine cw_seq ?_
  refine cw_region ?_
  refine ow1 (op1_l rfl (lo_move (v := str _) rfl) ?_)
  refine ow1 (op1_l rfl (lo_build (v := .agg #[_, _]) rfl (bd252_0s _)) ?_)
  refine ow1 (op1_box (cs := [_, _]) 0 rfl rfl (fun b1 => ?_))
  refine ow1 (op1_l rfl (lo_assign (v := .pointer (some ⟨_, _, none⟩)) rfl) ?_)
  refine ow_nil ?_
  refine seqK_n ?_
  refine cw_ret ?_
  refine fnK_r (res1 rfl (rv_t (v := .pointer (some ⟨_, _, none⟩)) rfl)) (.refl _) ?_
  exact ⟨0, _, _, rfl, rfl, rfl, rfl⟩

theorem in_Fail (H : Hp) (i_b : Nat) (i : In) (code : Int) (code_r : -9223372036854775808 ≤ code ∧ code ≤ 9223372036854775807) : Pm Tryz.prog 193 #[.pointer (some ⟨i_b, 0, none⟩), .int .i64 code] H i_b (bx 252 (In.cells i)) (fun v H' o' => v = .tuple #[] ∧ H = H' ∧ o' = bx 252 (In.cells (inFail i code))) := by
  refine pm_cw Tryz.func193 rfl Tryz.ntmps193 rfl (fun N => ?_)
  refine cw_seq ?_
  refine cw_region ?_
  refine ow1 (op1_l rfl (lo_move (v := .pointer (some ⟨_, _, none⟩)) rfl) ?_)
  refine ow1 (op1_l rfl (lo_pne_nil rfl rfl Tryz.underlying168) ?_)
  refine ow1 (op1_l rfl (lo_move (v := .bool _) rfl) ?_)
  refine ow1 (op1_g rfl rfl rfl (lo_move (v := .pointer (some ⟨_, _, none⟩)) rfl) ?_)
  refine ow1 (op1_g rfl rfl rfl (lo_nilCheck rfl) ?_)
  refine ow1 (op1_g rfl rfl rfl (lo_fieldAddr rfl fl252_1) ?_)
  refine ow1 (op1_g rfl rfl rfl (lo_load1 (i := 0) (v := .int _ _) rfl ag39 rfl rfl) ?_)
  refine ow1 (op1_g rfl rfl rfl (lo_eql rfl rfl) ?_)
  refine ow1 (op1_l rfl (lo_pick_t (v := .bool _) rfl rfl rfl) ?_)
  refine ow1 (op1_l rfl (lo_move (v := .bool _) rfl) ?_)
  refine ow_sp (j := 9) rfl (fun h1 => ?_) (fun h1 => ?_)
  · have p2 := dt h1
    refine ow1 (op1_g rfl h1 rfl (lo_move (v := .int _ _) rfl) ?_)
    refine ow1 (op1_g rfl h1 rfl (lo_neq rfl rfl) ?_)
    refine ow1 (op1_l rfl (lo_pick_t (v := .bool _) rfl h1 rfl) ?_)
    refine ow_nil ?_
    refine seqK_n ?_
    refine cw_cond rfl (fun h3 => ?_) (fun h3 => ?_)
    · have h4 := not_t h3
      have p5 := df h4
      refine cw_region ?_
      refine ow1 (op1_l rfl (lo_move (v := .pointer (some ⟨_, _, none⟩)) rfl) ?_)
      refine ow1 (op1_l rfl (lo_move (v := .pointer (some ⟨_, _, none⟩)) rfl) ?_)
      refine ow1 (op1_l rfl (lo_move (v := .int _ _) rfl) ?_)
      refine ow1 (op1_l rfl (lo_nilCheck rfl) ?_)
      refine ow1 (op1_l rfl (lo_fieldAddr rfl fl252_0) ?_)
      refine ow1 (op1_store1 (i := 0) (v := str _) rfl rfl rfl sz9 rfl rfl ?_)
      refine ow1 (op1_l rfl (lo_nilCheck rfl) ?_)
      refine ow1 (op1_l rfl (lo_fieldAddr rfl fl252_1) ?_)
      refine ow1 (op1_store1 (i := 0) (v := .int _ _) rfl rfl rfl sz39 rfl rfl ?_)
      refine ow_nil ?_
      refine fnK_n (res0 rfl) (.refl _) ?_
      refine ⟨_, rfl, ?_⟩
      refine ⟨?_, rfl, ?_⟩ <;> simp [inRaw, inFail, In.cells, *]
    · have h6 := not_f h3
      have p7 := dt h6
      refine cw_skip ?_
      refine fnK_n (res0 rfl) (.refl _) ?_
      refine ⟨_, rfl, ?_⟩
      refine ⟨?_, rfl, ?_⟩ <;> simp [inRaw, inFail, In.cells, *]
  · have p8 := df h1
    refine ow1 (op1_gs rfl h1 rfl ?_)
    refine ow1 (op1_gs rfl h1 rfl ?_)
    refine ow1 (op1_l rfl (lo_pick_f (v := .bool _) rfl h1 rfl) ?_)
    refine ow_nil ?_
    refine seqK_n ?_
    refine cw_cond_f rfl rfl ?_
    refine cw_skip ?_
    refine fnK_n (res0 rfl) (.refl _) ?_
    refine ⟨_, rfl, ?_⟩
    refine ⟨?_, rfl, ?_⟩ <;> simp [inRaw, inFail, In.cells, *]

theorem in_Raw (H : Hp) (i_b : Nat) (i : In) (n : Int) (n_r : -9223372036854775808 ≤ n ∧ n ≤ 9223372036854775807) : Pm Tryz.prog 213 #[.pointer (some ⟨i_b, 0, none⟩), .int .i64 n] H i_b (bx 252 (In.cells i)) (fun v H' o' => v = str ((inRaw i n).1) ∧ H = H' ∧ o' = bx 252 (In.cells ((inRaw i n).2))) := by
  refine pm_cw Tryz.func213 rfl Tryz.ntmps213 rfl (fun N => ?_)
  refine cw_seq ?_
  refine cw_region ?_
  refine ow1 (op1_l rfl (lo_assign (v := str _) rfl) ?_)
  refine ow_nil ?_
  refine seqK_n ?_
  refine cw_seq ?_
  refine cw_block ?_
  refine cw_seq ?_
  refine cw_seq ?_
  refine cw_region ?_
  refine ow1 (op1_l rfl (lo_move (v := .pointer (some ⟨_, _, none⟩)) rfl) ?_)
  refine ow1 (op1_l rfl (lo_peq_nil rfl rfl Tryz.underlying168) ?_)
  refine ow1 (op1_l rfl (lo_assign (v := .bool _) rfl) ?_)
  refine ow_nil ?_
  refine seqK_n ?_
  refine cw_cond_f rfl rfl ?_
  refine cw_seq ?_
  refine cw_region ?_
  refine ow1 (op1_l rfl (lo_move (v := .pointer (some ⟨_, _, none⟩)) rfl) ?_)
  refine ow1 (op1_l rfl (lo_nilCheck rfl) ?_)
  refine ow1 (op1_l rfl (lo_fieldAddr rfl fl252_1) ?_)
  refine ow1 (op1_l rfl (lo_load1 (i := 0) (v := .int _ _) rfl ag39 rfl rfl) ?_)
  refine ow1 (op1_l rfl (lo_neq rfl rfl) ?_)
  refine ow1 (op1_l rfl (lo_assign (v := .bool _) rfl) ?_)
  refine ow_nil ?_
  refine seqK_n ?_
  refine cw_cond rfl (fun h1 => ?_) (fun h1 => ?_)
  · have h2 := not_t h1
    have p3 := df h2
    refine cw_skip ?_
    refine seqK_n ?_
    refine cw_cond_t rfl h1 ?_
    refine cw_seq ?_
    refine cw_region ?_
    refine ow1 (op1_l rfl (lo_assign (v := str _) rfl) ?_)
    refine ow_nil ?_
    refine seqK_n ?_
    refine cw_ret ?_
    refine blkK_r ?_
    refine seqK_r ?_
    refine fnK_r (res1 rfl (rv_t (v := str _) rfl)) (.refl _) ?_
    refine ⟨_, rfl, ?_⟩
    refine ⟨?_, rfl, ?_⟩ <;> simp [inRaw, inFail, In.cells, *]
  · have h4 := not_f h1
    have p5 := dt h4
    refine cw_region ?_
    refine ow1 (op1_l rfl (lo_move (v := .int _ _) rfl) ?_)
    refine ow1 (op1_l rfl (lo_leq rfl rfl) ?_)
    refine ow1 (op1_l rfl (lo_assign (v := .bool _) rfl) ?_)
    refine ow_nil ?_
    refine seqK_n ?_
    refine cw_cond rfl (fun h6 => ?_) (fun h6 => ?_)
    · have p7 := dt h6
      refine cw_seq ?_
      refine cw_region ?_
      refine ow1 (op1_l rfl (lo_assign (v := str _) rfl) ?_)
      refine ow_nil ?_
      refine seqK_n ?_
      refine cw_ret ?_
      refine blkK_r ?_
      refine seqK_r ?_
      refine fnK_r (res1 rfl (rv_t (v := str _) rfl)) (.refl _) ?_
      refine ⟨_, rfl, ?_⟩
      refine ⟨?_, rfl, ?_⟩ <;> simp [inRaw, inFail, In.cells, *]
    · have p8 := df h6
      refine cw_seq ?_
      refine cw_region ?_
      refine ow1 (op1_l rfl (lo_move (v := .int _ _) rfl) ?_)
      refine ow1 (op1_l rfl (lo_move (v := .pointer (some ⟨_, _, none⟩)) rfl) ?_)
      refine ow1 (op1_l rfl (lo_nilCheck rfl) ?_)
      refine ow1 (op1_l rfl (lo_fieldAddr rfl fl252_0) ?_)
      refine ow1 (op1_l rfl (lo_load1 (i := 0) (v := str _) rfl ag9 rfl rfl) ?_)
      refine ow1 (op1_l rfl (lo_len_str rfl Tryz.underlying9) ?_)
      refine ow1 (op1_l rfl (lo_gtr rfl rfl) ?_)
      refine ow1 (op1_l rfl (lo_assign (v := .bool _) rfl) ?_)
      refine ow_nil ?_
      refine seqK_n ?_
      refine cw_cond rfl (fun h9 => ?_) (fun h9 => ?_)
      · have p10 := dt h9
        refine cw_seq ?_
        refine cw_region ?_
        refine ow1 (op1_l rfl (lo_move (v := .pointer (some ⟨_, _, none⟩)) rfl) ?_)
        refine ow1 (op1_pm 0 rfl (in_Fail _ i_b i 3 (by omega)) (en_f cb193 rfl) rfl ?_)
        rintro _ _ _ ⟨rfl, rfl, rfl⟩ _
        refine ow_nil ?_
        refine seqK_n ?_
        refine cw_seq ?_
        refine cw_region ?_
        refine ow1 (op1_l rfl (lo_assign (v := str _) rfl) ?_)
        refine ow_nil ?_
        refine seqK_n ?_
        refine cw_ret ?_
        refine blkK_r ?_
        refine seqK_r ?_
        refine fnK_r (res1 rfl (rv_t (v := str _) rfl)) (.refl _) ?_
        refine ⟨_, rfl, ?_⟩
        refine ⟨?_, rfl, ?_⟩ <;> simp [inRaw, inFail, In.cells, *]
      · have p13 := df h9
        refine cw_skip ?_
        refine blkK_n ?_
        refine seqK_n ?_
        refine cw_seq ?_
        refine cw_region ?_
        refine ow1 (op1_l rfl (lo_move (v := .pointer (some ⟨_, _, none⟩)) rfl) ?_)
        refine ow1 (op1_l rfl (lo_nilCheck rfl) ?_)
        refine ow1 (op1_l rfl (lo_fieldAddr rfl fl252_0) ?_)
        refine ow1 (op1_l rfl (lo_load1 (i := 0) (v := str _) rfl ag9 rfl rfl) ?_)
        refine ow1 (op1_l rfl (lo_move (v := .int _ _) rfl) ?_)
        refine ow1 (op1_l rfl (lo_slice_str_hi (n).toNat rfl rfl Tryz.underlying9 (by omega) (by omega)) ?_)
        refine ow1 (op1_l rfl (lo_assign (v := str _) rfl) ?_)
        refine ow_nil ?_
        refine seqK_n ?_
        refine cw_seq ?_
        refine cw_region ?_
        refine ow1 (op1_l rfl (lo_move (v := .pointer (some ⟨_, _, none⟩)) rfl) ?_)
        refine ow1 (op1_l rfl (lo_move (v := .pointer (some ⟨_, _, none⟩)) rfl) ?_)
        refine ow1 (op1_l rfl (lo_nilCheck rfl) ?_)
        refine ow1 (op1_l rfl (lo_fieldAddr rfl fl252_0) ?_)
        refine ow1 (op1_l rfl (lo_load1 (i := 0) (v := str _) rfl ag9 rfl rfl) ?_)
        refine ow1 (op1_l rfl (lo_move (v := .int _ _) rfl) ?_)
        refine ow1 (op1_l rfl (lo_slice_str_lo (n).toNat rfl rfl Tryz.underlying9 (by omega) (by omega)) ?_)
        refine ow1 (op1_l rfl (lo_nilCheck rfl) ?_)
        refine ow1 (op1_l rfl (lo_fieldAddr rfl fl252_0) ?_)
        refine ow1 (op1_store1 (i := 0) (v := str _) rfl rfl rfl sz9 rfl rfl ?_)
        refine ow_nil ?_
        refine seqK_n ?_
        refine cw_seq ?_
        refine cw_region ?_
        refine ow1 (op1_l rfl (lo_move (v := str _) rfl) ?_)
        refine ow1 (op1_l rfl (lo_assign (v := str _) rfl) ?_)
        refine ow_nil ?_
        refine seqK_n ?_
        refine cw_ret ?_
        refine fnK_r (res1 rfl (rv_t (v := str _) rfl)) (.refl _) ?_
        refine ⟨_, rfl, ?_⟩
        refine ⟨?_, rfl, ?_⟩ <;> simp [inRaw, inFail, In.cells, *]

end Go.SW


set_option linter.unusedVariables false
set_option maxRecDepth 100000
set_option maxHeartbeats 4000000
namespace Go.SW
open Go.Proofs
theorem ag5 : Ag Tryz.prog 5 false := fun w => by kernel_rfl
theorem cb154 : Callable Tryz.prog 154 := callable_of Tryz.func154 (by kernel_rfl) (by kernel_rfl)
theorem cb213 : Callable Tryz.prog 213 := callable_of Tryz.func213 (by kernel_rfl) (by kernel_rfl)
theorem sz5 : Sz Tryz.prog 5 1 := fun w => by kernel_rfl

theorem in_Num (H : Hp) (i_b : Nat) (i : In) (bytes : Int) (bytes_r : -9223372036854775808 ≤ bytes ∧ bytes ≤ 9223372036854775807) : Pm Tryz.prog 154 #[.pointer (some ⟨i_b, 0, none⟩), .int .i64 bytes] H i_b (bx 252 (In.cells i)) (fun v H' o' => v = .int .u64 ((inNum i bytes).1) ∧ H = H' ∧ o' = bx 252 (In.cells ((inNum i bytes).2))) := by
  refine pm_cw Tryz.func154 rfl Tryz.ntmps154 rfl (fun N => ?_)
  refine cw_seq ?_
  refine cw_region ?_
  refine ow1 (op1_l rfl (lo_assign (v := .int _ _) rfl) ?_)
  refine ow_nil ?_
  refine seqK_n ?_
  refine cw_seq ?_
  refine cw_region ?_
  refine ow1 (op1_l rfl (lo_assign (v := .int _ _) rfl) ?_)
  refine ow_nil ?_
  refine seqK_n ?_
  refine cw_seq ?_
  refine cw_seq ?_
  refine cw_region ?_
  refine ow1 (op1_l rfl (lo_move (v := .pointer (some ⟨_, _, none⟩)) rfl) ?_)
  refine ow1 (op1_l rfl (lo_move (v := .int _ _) rfl) ?_)
  refine ow1 (op1_l rfl (lo_min rfl rfl) ?_)
  refine ow1 (op1_pm 0 rfl (in_Raw _ i_b i (min bytes 8) (by omega)) (en_f cb213 rfl) rfl ?_)
  rintro _ _ _ ⟨rfl, rfl, rfl⟩ _
  refine ow1 (op1_s2b rfl Tryz.underlying9 Tryz.underlying156 Tryz.underlying5 rfl (fun b3 cap4 H5 hl6 hs7 => ?_))
  refine ow1 (op1_l rfl (lo_len_slh rfl hs7 Tryz.underlying156) ?_)
  refine ow1 (op1_l rfl (lo_move (v := .int _ _) rfl) ?_)
  refine ow_nil ?_
  refine seqK_n ?_
  refine cw_block ?_
  refine cw_loop1 [5, 7, 14, 15, 16, 17, 18, 19, 20, 21, 22, 23] [] (fun (k : Nat) G => upd (upd (G) 14 (.int .i64 (k : Int))) 5 (.int .u64 (beN ((inRaw i (min bytes 8)).1.take k) : Int))) (fun (k : Nat) G => G) (fun (k : Nat) H' => k ≤ (inRaw i (min bytes 8)).1.length) (fun (k : Nat) => (inRaw i (min bytes 8)).1.length - k) 0 (upd_intro (upd_intro (mask_intro (by first | exact off_refl | (repeat (first | exact off_mask | refine off_upd rfl ?_ | refine off_mask2 rfl ?_)))) rfl) rfl) (lmask_intro offl_refl) ?_ ?_
  · exact Nat.zero_le _
  · intro k J9 JL9 H9 hp8 hl9
    have hb := inRaw_len i (min bytes 8)
    refine cw_seq ?_
    refine cw_region ?_
    refine ow1 (op1_l rfl (lo_lss rfl rfl) ?_)
    refine ow_nil ?_
    refine seqK_n ?_
    refine cw_seq ?_
    refine cw_cond rfl (fun h10 => ?_) (fun h10 => ?_)
    · have p11 := dt h10
      refine cw_skip ?_
      refine seqK_n ?_
      refine cw_seq ?_
      refine cw_block ?_
      refine cw_seq ?_
      refine cw_region ?_
      obtain ⟨c12, hc13⟩ := getE (xs := (inRaw i (min bytes 8)).1) (m := k) (by omega)
      obtain ⟨cs14, hE15, at16⟩ := (hs7.mono ((HLe.refl _).trans hl9) (fun _ _ h => h)).get hc13
      subst hE15
      have c12_r := u8r c12
      refine ow1 (op1_l rfl (lo_indexAddr rfl rfl (hs7.mono ((HLe.refl _).trans hl9) (fun _ _ h => h)).1 at16 Tryz.underlying156 sz5 (by omega) (by omega)) ?_)
      refine ow1 (op1_l rfl (lo_loadE1 rfl ag5 at16) ?_)
      refine ow1 (op1_l rfl (lo_assign (v := .int _ _) rfl) ?_)
      refine ow_nil ?_
      refine seqK_n ?_
      refine cw_region ?_
      refine ow1 (op1_l rfl (lo_move (v := .int _ _) rfl) ?_)
      refine ow1 (op1_l rfl (lo_shl rfl rfl (by omega)) ?_)
      refine ow1 (op1_l rfl (lo_move (v := .int _ _) rfl) ?_)
      refine ow1 (op1_l rfl (lo_conv_in rfl (by rw [Tryz.underlying5]; rfl) Tryz.underlying25 (rg_u64 (by omega))) ?_)
      have := wr_u64 ((BitVec.ofInt (IntKind.bits .u64) (IntKind.wrap .u64 ((beN ((inRaw i (min bytes 8)).1.take k) : Int) * 2 ^ (min (8 : Int).toNat (IntKind.bits .u64)))) ||| BitVec.ofInt (IntKind.bits .u64) (c12.toNat : Int)).toNat)
      refine ow1 (op1_l rfl (lo_or rfl rfl) ?_)
      refine ow1 (op1_l rfl (lo_assign (v := .int _ _) rfl) ?_)
      refine ow_nil ?_
      refine blkK_n ?_
      refine seqK_n ?_
      refine cw_region ?_
      refine ow1 (op1_l rfl (lo_add rfl rfl (rg_i64 (by omega))) ?_)
      refine ow1 (op1_l rfl (lo_move (v := .int _ _) rfl) ?_)
      refine ow_nil ?_
      refine next1 (k + 1) (upd_intro (upd_intro (mask_intro (by first | exact off_refl | (repeat (first | exact off_mask | refine off_upd rfl ?_ | refine off_mask2 rfl ?_)))) rfl) (congrArg (Value.int .u64) (num_step hc13 (by omega)))) (lmask_intro (by first | exact offl_refl | (repeat (first | exact offl_mask | refine offl_upd rfl ?_ | refine offl_mask2 rfl ?_)))) hl9 ?_ ?_
      · omega
      · omega
    · have p17 := df h10
      refine cw_exit ?_
      refine seqK_e ?_
      refine loopK_e ?_
      refine blkK_hit ?_
      refine seqK_n ?_
      refine cw_seq ?_
      refine cw_region ?_
      refine ow1 (op1_l rfl (lo_move (v := .int _ _) rfl) ?_)
      refine ow1 (op1_l rfl (lo_assign (v := .int _ _) rfl) ?_)
      refine ow_nil ?_
      refine seqK_n ?_
      refine cw_down (((HLe.refl _).trans hl6).trans hl9) ?_
      refine cw_ret ?_
      refine fnK_r (res1 rfl (rv_t (v := .int _ _) rfl)) (.refl _) ?_
      refine ⟨_, rfl, ?_⟩
      refine ⟨?_, rfl, rfl⟩
      simp only [inNum]
      rw [List.take_of_length_le (by omega)]

end Go.SW
