/-
  A part of the proof of MethodSame: Replies that are read, in plain Lean; what is read would be written so; what is written is read again. What the document's reader holds is the program's, seen otherwise. Heads: what is read would be written so; what is written is read again. Structs held against each other, field by field. Over any program; no condition but that no field is an interface, and that no stand-in holds the type. What is owned is lent to a call that reads alone, and owned again behind it. Over any program; no condition. Loops with more ghosts (printed by program). Over any program; no condition. Lists held against each other; records that are the same; what is gone through, in plain Lean. Replies: what is read would be written so; what is written is read again. Frames: what is written is read again, behind whatever; a beginning of a frame is too short; bytes of frames that come in two pieces are those frames. What the document's reader does, told of what it stands for; names, keys, heads by the document. What the document says of keys, pairs, heads and replies, in plain Lean, and that it is what the program does. Heads that are read, more: what is read is a pair, or a head; what reads behind an error. Ranging over a text of plain bytes; package variables that hold lists of texts; library calls that only make new blocks. Over any program; no condition. What the functions of the layers 10 and 11 compute, in plain Lean: rules, methods. The library's contract of strings.ContainsAny, laid at this seat (printed by the kit's lay-plain.mjs), and turned to this work's ground: texts of plain bytes. The library's contract of strings.Split, laid at this seat (printed by the kit's lay-plain.mjs), and turned to this work's ground: a text split at its dots. It asks that the package variable internal/bytealg.MaxLen holds an int. The walks of this seat, printed by program: stairwellref04.letter, words.plain, strings.Builder.copyCheck, octet.New, octet.In.Fail, octet.In.Raw, octet.In.Left, octet.In.Err, octet.In.End. The walks of this seat, printed by program: octet.In.Num, octet.In.Text. The walks of this seat, printed by program: octet.Out.Num. The walks of this seat, printed by program: octet.Out.Raw, octet.Out.String, octet.Out.Text, words.Name. The walks of this seat, printed by program: words.Split, words.key, words.Key.
-/
import Derived.Test.YtfchllcmfnhlbaaDoorMethodSameP1
import Derived.Laws.StructEq
import Derived.Below
import Derived.Laws.RangeString
import Derived.Lib.OthersKept
import Derived.Lib.IndexAny
import Derived.Shelf.LaysM
import Derived.Shelf.Strings.IndexAnyAll
import Derived.Test.YtfchllcmfnhlbaaDoorProg
import Derived.Shelf.Strings.Split
import Derived.KernelRfl
set_option linter.unusedVariables false
set_option linter.unusedSimpArgs false

namespace Go.SW

def Mail.zero : Mail := ⟨0, [], [], [], [], 0, 0⟩
def Reply.zero : Reply := ⟨0, 0, 0, 0, false, [], Mail.zero⟩
/-- What a message that is sent tells. -/
def sentRead (i : In) : (Bool × Mail) × In :=
  let y := inNum i 1
  let shop := inText (if 1 < y.1 then inFail y.2 4 else y.2) 16
  let key := inText shop.2 64
  let head := headRead key.2
  let body := inText head.2 256
  ((decide (y.1 = 1), ⟨0, shop.1, key.1, head.1, body.1, 0, 0⟩), body.2)
def replyRead (c k : Int) (i : In) : Reply × In :=
  if k = 0 then (⟨c, k, 0, 0, false, (inText i 16).1, Mail.zero⟩, (inText i 16).2)
  else if k = 2 ∨ k = 5 ∨ k = 7 then (⟨c, k, (inNum i 8).1, 0, false, [], Mail.zero⟩, (inNum i 8).2)
  else if k = 6 then (⟨c, k, (inNum i 8).1, (inNum (inNum i 8).2 8).1, false, [], Mail.zero⟩, (inNum (inNum i 8).2 8).2)
  else if k = 3 then (⟨c, k, (inNum i 8).1, (inNum (inNum i 8).2 8).1, (sentRead (inNum (inNum i 8).2 8).2).1.1, [], (sentRead (inNum (inNum i 8).2 8).2).1.2⟩, (sentRead (inNum (inNum i 8).2 8).2).2)
  else (⟨c, k, 0, 0, false, [], Mail.zero⟩, i)
def replyOf (f : Frame) : Reply × Int :=
  if f.kind < 64 ∨ 71 < f.kind then (Reply.zero, 8)
  else
    let r := replyRead f.channel (f.kind - 64) ⟨f.body, 0⟩
    let e := if inEnd r.2 = 0 then replyE r.1 else inEnd r.2
    if e ≠ 0 then (Reply.zero, e) else (r.1, 0)

/-! What the document's reader holds -/
structure RIn where
  s : Bs
  pos : Int
  code : Int
def RIn.cells (i : RIn) : List Value := [str i.s, .int .i64 i.pos, .int .i64 i.code]
structure RSt (i : RIn) (I : In) : Prop where
  lo : 0 ≤ i.pos
  hi : i.pos ≤ i.s.length
  len : i.s.length ≤ 9223372036854775807
  err : I.err = i.code
  ok : i.code = 0 → I.s = i.s.drop i.pos.toNat
  bad : i.code ≠ 0 → I.s = []
theorem RSt.new (s : Bs) (h : s.length ≤ 9223372036854775807) : RSt ⟨s, 0, 0⟩ ⟨s, 0⟩ := ⟨Int.le_refl _, by simp, h, rfl, fun _ => by simp, fun h => absurd rfl h⟩
def rFail (i : RIn) (c : Int) : RIn := if i.code = 0 then ⟨i.s, i.pos, c⟩ else i
theorem RSt.fail {i : RIn} {I : In} (h : RSt i I) (c : Int) (hc : c ≠ 0) : RSt (rFail i c) (inFail I c) := by
  unfold rFail inFail
  by_cases e : i.code = 0
  · have : I.err = 0 := by rw [h.err, e]
    rw [if_pos e, if_pos ⟨this, hc⟩]
    exact ⟨h.lo, h.hi, h.len, rfl, fun x => absurd x hc, fun _ => rfl⟩
  · have : ¬ (I.err = 0 ∧ c ≠ 0) := fun x => e (by rw [← h.err]; exact x.1)
    rw [if_neg e, if_neg this]; exact h
theorem RSt.fail0 {i : RIn} {I : In} (h : RSt i I) : RSt (rFail i 0) (inFail I 0) := by
  unfold rFail inFail
  rw [if_neg (show ¬ (I.err = 0 ∧ (0 : Int) ≠ 0) by simp)]
  by_cases e : i.code = 0
  · rw [if_pos e]
    have : (⟨i.s, i.pos, 0⟩ : RIn) = i := by rw [← e]
    rw [this]; exact h
  · rw [if_neg e]; exact h
theorem RSt.failA {i : RIn} {I : In} (h : RSt i I) (c : Int) : RSt (rFail i c) (inFail I c) := by
  by_cases e : c = 0
  · subst e; exact h.fail0
  · exact h.fail c e
end Go.SW


namespace Go.SW

def txtB (s : Bs) : Bs := numB 2 s.length ++ s
def pairB (p : Pair) : Bs := txtB p.key ++ (numB 1 p.kind.toNat ++ (if p.kind = 0 then numB 8 (IntKind.wrap .u64 p.num).toNat else if p.kind = 1 then txtB p.text else numB 1 (IntKind.wrap .u64 p.num).toNat))

theorem outText_s {o : Out} {s : Bs} (h : (s.length : Int) ≤ 65535) : outText o s = ⟨o.s ++ txtB s, o.err⟩ := by
  unfold outText
  rw [if_neg (by omega)]
  have e : numK 2 = 2 := by decide
  simp [outRaw, outNum, e, txtB]
theorem outNum_s {o : Out} {n : Int} {k : Nat} (h : k ≤ 8) : outNum o n k = ⟨o.s ++ numB k n.toNat, o.err⟩ := by
  simp only [outNum, numK]
  rw [show (min (max (k : Int) 0) 8).toNat = k by omega]
theorem outNum1 {o : Out} {n : Int} : outNum o n 1 = ⟨o.s ++ numB 1 n.toNat, o.err⟩ := outNum_s (k := 1) (by omega)
theorem outNum8 {o : Out} {n : Int} : outNum o n 8 = ⟨o.s ++ numB 8 n.toNat, o.err⟩ := outNum_s (k := 8) (by omega)
theorem outNum4 {o : Out} {n : Int} : outNum o n 4 = ⟨o.s ++ numB 4 n.toNat, o.err⟩ := outNum_s (k := 4) (by omega)

theorem pairOut_s {o : Out} {p : Pair} (h : p.key.length ≤ 16 ∧ p.kind ≤ 2 ∧ (p.kind = 1 → p.text.length ≤ 64)) (h0 : 0 ≤ p.kind) : pairOut o p = ⟨o.s ++ pairB p, o.err⟩ := by
  obtain ⟨h1, h2, h3⟩ := h
  have hk : ((p.key.length : Nat) : Int) ≤ 65535 := by omega
  unfold pairOut pairB
  by_cases e0 : p.kind = 0
  · rw [if_pos e0, if_pos e0, outText_s hk, outNum1, outNum8]; simp
  · rw [if_neg e0, if_neg e0]
    by_cases e1 : p.kind = 1
    · have := h3 e1
      rw [if_pos e1, if_pos e1, outText_s hk, outNum1, outText_s (by omega)]; simp
    · rw [if_neg e1, if_neg e1, if_pos (by omega), outText_s hk, outNum1, outNum1]; simp
theorem foldl_pairOut : ∀ {l : List Pair} {o : Out}, (∀ p ∈ l, (p.key.length ≤ 16 ∧ p.kind ≤ 2 ∧ (p.kind = 1 → p.text.length ≤ 64)) ∧ 0 ≤ p.kind) → l.foldl pairOut o = ⟨o.s ++ l.flatMap pairB, o.err⟩
  | [], o, _ => by simp
  | p :: r, o, h => by
    have hp := h p (by simp)
    rw [List.foldl_cons, pairOut_s hp.1 hp.2, foldl_pairOut (fun q hq => h q (by simp [hq]))]
    simp
theorem headBytes_s {h : List Pair} (e : headE h = 0) (h0 : ∀ p ∈ h, 0 ≤ p.kind) : headBytes h = numB 1 h.length ++ h.flatMap pairB := by
  obtain ⟨h1, h2⟩ := headE_ok e
  unfold headBytes headOut
  rw [if_pos e, foldl_pairOut (fun p hp => ⟨h2 p hp, h0 p hp⟩), outNum1]
  simp

theorem wrap_i64u {n : Int} (h0 : 0 ≤ n) (h1 : n ≤ 18446744073709551615) : IntKind.wrap .u64 (IntKind.wrap .i64 n) = n := by
  simp [IntKind.wrap, IntKind.bits, IntKind.signed]; omega
theorem wrap_u64i {n : Int} (h0 : -9223372036854775808 ≤ n) (h1 : n ≤ 9223372036854775807) : IntKind.wrap .i64 (IntKind.wrap .u64 n) = n := by
  simp [IntKind.wrap, IntKind.bits, IntKind.signed]; omega
theorem wrap_i64s {n : Int} (h0 : -9223372036854775808 ≤ n) (h1 : n ≤ 9223372036854775807) : IntKind.wrap .i64 n = n := by
  simp [IntKind.wrap, IntKind.bits, IntKind.signed]; omega

theorem readOne_back {i : In} (h : (readOne i).2.err = 0) : i.err = 0 ∧ i.s = pairB (readOne i).1 ++ (readOne i).2.s ∧ 0 ≤ (readOne i).1.kind := by
  unfold readOne at *
  simp only at *
  have hr := inNum_r (inText i 16).2 1
  by_cases e0 : (inNum (inText i 16).2 1).1 = 0
  · rw [if_pos e0] at h ⊢
    obtain ⟨a1, a2⟩ := inNum_back8 h
    obtain ⟨b1, b2⟩ := inNum_back1 a1
    obtain ⟨c1, c2, c3, c4⟩ := inText_back b1
    refine ⟨c1, ?_, by simp⟩
    rw [c2, b2, a2]
    have hr8 := inNum_r (inNum (inText i 16).2 1).2 8
    simp only [pairB, txtB, if_true]
    rw [e0, wrap_i64u (by omega) (by omega)]
    simp
  · rw [if_neg e0] at h ⊢
    by_cases e1 : (inNum (inText i 16).2 1).1 = 1
    · rw [if_pos e1] at h ⊢
      obtain ⟨a1, a2, _, _⟩ := inText_back h
      obtain ⟨b1, b2⟩ := inNum_back1 a1
      obtain ⟨c1, c2, c3, c4⟩ := inText_back b1
      refine ⟨c1, ?_, by simp⟩
      rw [c2, b2, a2]
      rw [e1]
      simp [pairB, txtB]
    · rw [if_neg e1] at h ⊢
      by_cases e2 : (inNum (inText i 16).2 1).1 = 2
      · rw [if_pos e2] at h ⊢
        obtain ⟨a1, a2⟩ := inNum_back1 h
        obtain ⟨b1, b2⟩ := inNum_back1 a1
        obtain ⟨c1, c2, c3, c4⟩ := inText_back b1
        refine ⟨c1, ?_, by simp⟩
        rw [c2, b2, a2]
        have hr8 := inNum_r (inNum (inText i 16).2 1).2 1
        rw [e2]
        simp only [pairB, txtB]
        rw [if_neg (by decide), if_neg (by decide), wrap_i64u (by omega) (by omega)]
        simp
      · rw [if_neg e2] at h
        exact (inFail_ok (by decide) h).elim

theorem readGo_back : ∀ {k : Nat} {i : In} {h : List Pair}, (readGo k i h).2.err = 0 → i.err = 0 ∧ ∃ r, (readGo k i h).1 = h ++ r ∧ r.length = k ∧ i.s = r.flatMap pairB ++ (readGo k i h).2.s ∧ headGo h r = 0 ∧ ∀ p ∈ r, 0 ≤ p.kind
  | 0, i, h, e => ⟨e, [], by simp [readGo], rfl, by simp [readGo], rfl, fun p hp => by cases hp⟩
  | k + 1, i, h, e => by
    simp only [readGo] at e ⊢
    by_cases e1 : (readOne i).2.err = 0
    · rw [if_pos e1] at e ⊢
      by_cases e2 : pairErr (readOne i).1 h = 0
      · have hf : inFail (readOne i).2 (pairErr (readOne i).1 h) = (readOne i).2 := by unfold inFail; rw [if_neg (by simp [e2])]
        rw [hf] at e ⊢
        rw [if_neg (by simpa using e1)] at e ⊢
        obtain ⟨_, r, r1, r2, r3, r4, r5⟩ := readGo_back e
        obtain ⟨q1, q2, q3⟩ := readOne_back e1
        refine ⟨q1, (readOne i).1 :: r, by rw [r1]; simp, by simp [r2], ?_, ?_, ?_⟩
        · rw [q2, r3]; simp
        · simp only [headGo]; rw [if_neg (by simpa using e2)]; exact r4
        · intro p hp
          rcases List.mem_cons.1 hp with rfl | hp
          · exact q3
          · exact r5 p hp
      · have hf : inFail (readOne i).2 (pairErr (readOne i).1 h) = ⟨[], pairErr (readOne i).1 h⟩ := by unfold inFail; rw [if_pos ⟨e1, e2⟩]
        rw [hf] at e
        rw [if_pos e2] at e
        exact absurd e e2
    · rw [if_neg e1] at e
      rw [if_pos e1] at e
      exact absurd e e1
theorem headRead_back {i : In} (h : (headRead i).2.err = 0) : i.err = 0 ∧ i.s = headBytes (headRead i).1 ++ (headRead i).2.s ∧ headE (headRead i).1 = 0 := by
  unfold headRead at *
  obtain ⟨h1, r, r1, r2, r3, r4, r5⟩ := readGo_back h
  have hr := inNum_r i 1
  split at h1
  · exact (inFail_ok (by decide) h1).elim
  · rename_i h8
    rw [if_neg h8] at r1 r3 ⊢
    obtain ⟨b1, b2⟩ := inNum_back1 h1
    simp only [List.nil_append] at r1
    have hE : headE r = 0 := by
      unfold headE
      rw [if_neg (by omega)]; exact r4
    rw [r1]
    refine ⟨b1, ?_, hE⟩
    rw [headBytes_s hE r5, b2, r3, r2]
    simp

theorem readOne_fwd {p : Pair} {r : Bs} (h : p.key.length ≤ 16 ∧ p.kind ≤ 2 ∧ (p.kind = 1 → p.text.length ≤ 64)) (h0 : 0 ≤ p.kind) (hn : -9223372036854775808 ≤ p.num ∧ p.num ≤ 9223372036854775807) (h2 : p.kind = 2 → p.num = 0 ∨ p.num = 1) (h1 : p.kind = 1 → p.num = 0) (ht : p.kind ≠ 1 → p.text = []) :
    readOne ⟨pairB p ++ r, 0⟩ = (p, ⟨r, 0⟩) := by
  obtain ⟨hk, hk2, hk1⟩ := h
  obtain ⟨key, kind, num, text⟩ := p
  simp only at *
  unfold readOne pairB
  simp only
  have e1 : inText ⟨txtB key ++ (numB 1 kind.toNat ++ (if kind = 0 then numB 8 (IntKind.wrap .u64 num).toNat else if kind = 1 then txtB text else numB 1 (IntKind.wrap .u64 num).toNat)) ++ r, 0⟩ 16 = (key, ⟨(numB 1 kind.toNat ++ (if kind = 0 then numB 8 (IntKind.wrap .u64 num).toNat else if kind = 1 then txtB text else numB 1 (IntKind.wrap .u64 num).toNat)) ++ r, 0⟩) := by
    unfold txtB
    rw [List.append_assoc, List.append_assoc]
    exact inText_fwd (by omega) (by omega)
  rw [e1]
  simp only
  have e2 : ∀ z : Bs, inNum ⟨numB 1 kind.toNat ++ z, 0⟩ 1 = (kind, ⟨z, 0⟩) := fun z => inNum_fwd (k := 1) (by omega) h0 (by omega) (by omega)
  rw [List.append_assoc, e2]
  simp only
  have hw := wr_u64 num
  by_cases c0 : kind = 0
  · subst c0
    simp only [if_true]
    have e3 : inNum ⟨numB 8 (IntKind.wrap .u64 num).toNat ++ r, 0⟩ 8 = (IntKind.wrap .u64 num, ⟨r, 0⟩) := inNum_fwd (k := 8) (by omega) (by omega) (by omega) (by omega)
    rw [e3]
    simp only
    rw [wrap_u64i hn.1 hn.2, ht (by decide)]
  · rw [if_neg c0, if_neg c0]
    by_cases c1 : kind = 1
    · subst c1
      simp only [if_true]
      have e3 : inText ⟨txtB text ++ r, 0⟩ 64 = (text, ⟨r, 0⟩) := by
        unfold txtB
        rw [List.append_assoc]
        have := hk1 rfl
        exact inText_fwd (by omega) (by omega)
      rw [e3]
      simp only
      rw [h1 rfl]
    · rw [if_neg c1, if_neg c1]
      have c2 : kind = 2 := by omega
      subst c2
      rw [if_pos rfl]
      have hv : IntKind.wrap .u64 num = num := by
        rcases h2 rfl with e | e <;> rw [e] <;> decide
      have e3 : inNum ⟨numB 1 (IntKind.wrap .u64 num).toNat ++ r, 0⟩ 1 = (num, ⟨r, 0⟩) := by
        rw [hv]
        exact inNum_fwd (k := 1) (by omega) (by rcases h2 rfl with e | e <;> omega) (by rcases h2 rfl with e | e <;> omega) (by omega)
      rw [e3]
      simp only
      rw [wrap_i64s hn.1 hn.2, ht (by decide)]

theorem pairErr_fwd {p : Pair} {ahead : List Pair} (h : pairErr p ahead = 0) : (p.kind = 2 → p.num = 0 ∨ p.num = 1) ∧ (p.kind = 1 → p.num = 0) ∧ (p.kind ≠ 1 → p.text = []) := by
  unfold pairErr at h
  split at h
  · contradiction
  · split at h
    · cases h
    · split at h
      · cases h
      · split at h
        · cases h
        · rename_i h2
          split at h
          · cases h
          · rename_i h3
            refine ⟨fun e => ?_, fun e => ?_, fun e => ?_⟩
            · by_cases q : p.num = 0
              · exact .inl q
              · exact .inr (Decidable.byContradiction fun q2 => h2 ⟨e, q, q2⟩)
            · exact Decidable.byContradiction fun q => h3 (.inl ⟨e, q⟩)
            · exact Decidable.byContradiction fun q => h3 (.inr ⟨e, q⟩)
theorem readGo_fwd : ∀ {l h : List Pair} {r : Bs}, headGo h l = 0 → (∀ p ∈ l, p.wf) → readGo l.length ⟨l.flatMap pairB ++ r, 0⟩ h = (h ++ l, ⟨r, 0⟩)
  | [], h, r, _, _ => by simp [readGo]
  | p :: l, h, r, e, hw => by
    have e1 := headGo_ok e p (by simp)
    simp only [headGo] at e
    split at e
    · contradiction
    · rename_i e0
      have e0' := Decidable.not_not.1 e0
      obtain ⟨q1, q2, q3⟩ := pairErr_fwd e0'
      obtain ⟨w1, w2, _⟩ := hw p (by simp)
      have ho := readOne_fwd (r := l.flatMap pairB ++ r) e1 w1.1 w2 q1 q2 q3
      have es : (p :: l).flatMap pairB ++ r = pairB p ++ (l.flatMap pairB ++ r) := by simp
      simp only [List.length_cons, readGo]
      rw [es, ho]
      simp only [if_true]
      have hf : inFail ⟨l.flatMap pairB ++ r, 0⟩ (pairErr p h) = ⟨l.flatMap pairB ++ r, 0⟩ := by unfold inFail; rw [if_neg (by simp [e0'])]
      rw [hf]
      simp only [ne_eq, not_true_eq_false, if_false]
      rw [readGo_fwd e (fun q hq => hw q (by simp [hq]))]
      simp
theorem headRead_fwd {l : List Pair} {r : Bs} (e : headE l = 0) (hw : ∀ p ∈ l, p.wf) : headRead ⟨headBytes l ++ r, 0⟩ = (l, ⟨r, 0⟩) := by
  have hl := (headE_ok e).1
  have e' := e
  unfold headE at e'
  rw [if_neg (by omega)] at e'
  rw [headBytes_s e (fun p hp => (hw p hp).1.1), List.append_assoc]
  unfold headRead
  have e1 : inNum ⟨numB 1 l.length ++ (l.flatMap pairB ++ r), 0⟩ 1 = ((l.length : Int), ⟨l.flatMap pairB ++ r, 0⟩) := by
    have := inNum_fwd (r := l.flatMap pairB ++ r) (n := (l.length : Int)) (k := 1) (by omega) (by omega) (by omega) (by omega)
    rwa [Int.toNat_natCast] at this
  rw [e1]
  simp only
  rw [if_neg (by omega), Int.toNat_natCast, readGo_fwd e' hw]
  simp
end Go.SW


namespace Go.SW
variable {P : Program} {n : Nat} {N : Rest} {F : Fr} {H : Hp} {L : Ls} {ty T T' : TypeId} {x y : Operand}

def EqV (P : Program) (d : Nat) (t : TypeId) (u v : Value) (r : Bool) : Prop := ∀ w, (Op.equalIn d t u v).run P w = .ok r w
def EqF (P : Program) (d : Nat) (xs ys : List Value) (fs : List Field) (r : Bool) : Prop := ∀ w, (Op.eqFields d xs.toArray ys.toArray fs).run P w = .ok r w

theorem EqV.to {d : Nat} {t : TypeId} {u v : Value} {r r' : Bool} (h : EqV P d t u v r) (e : r = r') : EqV P d t u v r' := e ▸ h
theorem eqv_int {d : Nat} {t : TypeId} {k k' : IntKind} {a b : Int} (h : P.underlying t = some (.int k')) : EqV P (d + 1) t (.int k a) (.int k b) (decide (a = b)) := fun w => by
  rw [run_equalIn_int w d t k k' a b h]; rfl
theorem eqv_str {d : Nat} {t : TypeId} {a b : Bs} (h : P.underlying t = some .string) : EqV P (d + 1) t (str a) (str b) (decide (a = b)) := fun w => by
  unfold str
  rw [run_equalIn_string w d t _ _ h, ba_toList, ba_toList, listBeq]
theorem eqv_bool {d : Nat} {t : TypeId} {a b : Bool} (h : P.underlying t = some .bool) : EqV P (d + 1) t (.bool a) (.bool b) (decide (a = b)) := fun w => by
  rw [equalIn_bool d h w]; rfl
theorem eqv_agg {d : Nat} {t : TypeId} {fs : Array Field} {xs ys : List Value} {r : Bool} (hu : P.underlying t = some (.struct fs)) (hp : P.stoodInHeld t = false) (h : EqF P d xs ys fs.toList r) : EqV P (d + 1) t (.agg xs.toArray) (.agg ys.toArray) r := fun w => by
  have hf : P.fieldsOf t = fs := by simp [Program.fieldsOf, hu]
  rw [run_equalIn_agg w d t _ _ (by rw [hf]; exact hu) hp, hf]
  exact h w

theorem eqf_nil {d : Nat} {xs ys : List Value} : EqF P d xs ys [] true := fun w => by simp [Op.eqFields]
theorem eqf_step {d : Nat} {xs ys : List Value} {f : Field} {fs : List Field} {a b : Value} {r r' : Bool} (hn : ¬ f.name = "_") (ha : ∀ w, (part f.type xs.toArray f.offset).run P w = .ok a w) (hb : ∀ w, (part f.type ys.toArray f.offset).run P w = .ok b w)
    (h : EqV P d f.type a b r) (k : EqF P d xs ys fs r') : EqF P d xs ys (f :: fs) (r && r') := fun w => by
  simp only [Op.eqFields, ne_eq, hn, not_false_eq_true, if_true, Sem.run_bind, ha w, Result.andThen_ok, hb w, h w]
  cases r
  · simp
  · simpa using k w
theorem part_1 {t : TypeId} {xs : List Value} {o : Nat} {a : Value} (hg : Ag P t false) (hx : xs[o]? = some a) (w : World) : (part t xs.toArray o).run P w = .ok a w := by
  simp [part, hg w, hx]
theorem part_A {t : TypeId} {xs vs : List Value} {o k : Nat} (hg : Ag P t true) (hk : Sz P t k) (hx : sub xs o k = vs) (w : World) : (part t xs.toArray o).run P w = .ok (.agg vs.toArray) w := by
  subst hx
  simp only [part, Sem.run_bind, hg w, Result.andThen_ok, if_true, hk w, Sem.run_pure]
  congr 2
  rw [List.extract_toArray]
  simp [sub, List.extract_eq_take_drop]
theorem eqf_1 {d : Nat} {xs ys : List Value} {f : Field} {fs : List Field} {a b : Value} {r r' : Bool} (hn : ¬ f.name = "_") (hg : Ag P f.type false) (hx : xs[f.offset]? = some a) (hy : ys[f.offset]? = some b) (h : EqV P d f.type a b r) (k : EqF P d xs ys fs r') : EqF P d xs ys (f :: fs) (r && r') :=
  eqf_step hn (part_1 hg hx) (part_1 hg hy) h k
theorem eqf_A {d k : Nat} {xs ys vs us : List Value} {f : Field} {fs : List Field} {r r' : Bool} (hn : ¬ f.name = "_") (hg : Ag P f.type true) (hk : Sz P f.type k) (hx : sub xs f.offset k = vs) (hy : sub ys f.offset k = us) (h : EqV P d f.type (.agg vs.toArray) (.agg us.toArray) r) (kk : EqF P d xs ys fs r') : EqF P d xs ys (f :: fs) (r && r') :=
  eqf_step hn (part_A hg hk hx) (part_A hg hk hy) h kk

theorem eqGuard_agg {op : BinOp} {u v : Array Value} (hm : P.eqGuardType P.depth T = false) (w : World) : (eqGuard op T x y (.agg u) (.agg v)).run P w = .ok () w := run_eqGuard_agg w op T x y u v hm
theorem lo_aeql {u v : Array Value} {r : Bool} (hx : ev F x = .agg u) (hy : ev F y = .agg v) (hm : P.eqGuardType P.depth T = false) (h : EqV P 10000 T (.agg u) (.agg v) r) : Lo P N (.binOp .eql T x y T') ty F H L (.bool r) :=
  lo_bin hx hy (eqGuard_agg hm) fun w => by
    have := h w
    simp [binOp, Op.equal, Op.maxDepth, this]
theorem lo_aneq {u v : Array Value} {r : Bool} (hx : ev F x = .agg u) (hy : ev F y = .agg v) (hm : P.eqGuardType P.depth T = false) (h : EqV P 10000 T (.agg u) (.agg v) r) : Lo P N (.binOp .neq T x y T') ty F H L (.bool (!r)) :=
  lo_bin hx hy (eqGuard_agg hm) fun w => by
    have := h w
    simp [binOp, Op.equal, Op.maxDepth, this]
end Go.SW


namespace Go.SW
variable {P : Program} {n : Nat} {N : Rest} {F : Fr} {H : Hp} {L : Ls} {ty d : Nat} {ops : List Oper} {op : Op} {pos : String} {af : Array Edge} {K : Fr → Hp → Ls → Prop} {f : FuncId} {args : Array Value}

theorem Mem.take {w w' : World} {i b : Nat} {o : Obj} (hm : Mem N H L w) (hi : L i = some (b, o)) (h' : Mem N (hadd H b o) (lupd L i none) w') : Mem N H L w' := by
  have hn := hm.nl i b o hi
  refine ⟨h'.os, h'.tape, h'.output, h'.n, fun c x hx => ?_, fun j c x hx => ?_, hm.nh, hm.nl, hm.ll⟩
  · exact h'.h c x (hadd_le hn.2 c x hx)
  · by_cases e : j = i
    · subst e
      rw [hi] at hx; cases hx
      exact h'.h b o (by simp [hadd])
    · exact h'.l j c x (by rw [lupd_ne _ _ _ _ e]; exact hx)
theorem Pr.lent {v : Value} {en : Option (Nat × Obj)} (i : Nat) (hi : L i = en) (h : ∀ H', HLe H H' → (∀ b o, en = some (b, o) → H' b = some o) → Pr P f args H' v) (w : World) (hm : Mem N H L w) : Calls P f args w fun e w' => e = .returned v ∧ Mem N H L w' := by
  cases en with
  | none => exact h H (.refl _) (fun _ _ q => by cases q) N L w hm
  | some p =>
    obtain ⟨b, o⟩ := p
    obtain ⟨hg, hl⟩ := hm.give hi
    refine (h _ hl (fun b' o' q => by cases q; simp [hadd]) N _ w hg).mono fun e w' ⟨he, hm'⟩ => ⟨he, hm.take hi hm'⟩
theorem op1_prl {v : Value} {en : Option (Nat × Obj)} (i : Nat) (hi : L i = en) (h : ∀ H', HLe H H' → (∀ b o, en = some (b, o) → H' b = some o) → Pr P f args H' v) (he : En P op F f args) (hd : Nat.blt d n = true) (k : K (upd F d v) H L) : Op1 P n N ops ⟨some d, op, ty, pos, af, none⟩ K F H L := by
  intro a w ha hm
  rw [if_pos (by simp [Region.wanted])]
  unfold Oper.wp
  rw [ha.eval, he]
  refine (Pr.lent i hi h w hm).mono fun e w' ⟨he', hm'⟩ => ?_
  subst he'
  exact ⟨_, _, _, ha.put (by simpa using hd) v, hm', k⟩
theorem op1_prlg {v : Value} {en : Option (Nat × Obj)} {j : Nat} {want b : Bool} (i : Nat) (hi : L i = en) (hy : yF ops F j = some (.bool b)) (hb : b = want) (h : ∀ H', HLe H H' → (∀ b o, en = some (b, o) → H' b = some o) → Pr P f args H' v) (he : En P op F f args) (hd : Nat.blt d n = true) (k : K (upd F d v) H L) : Op1 P n N ops ⟨some d, op, ty, pos, af, some (j, want)⟩ K F H L := by
  intro a w ha hm
  rw [if_pos (by simp [Region.wanted, yielded_of ha hy, hb])]
  unfold Oper.wp
  rw [ha.eval, he]
  refine (Pr.lent i hi h w hm).mono fun e w' ⟨he', hm'⟩ => ?_
  subst he'
  exact ⟨_, _, _, ha.put (by simpa using hd) v, hm', k⟩
theorem own_shape {k e len : Nat} {v : Value} {en : Option (Nat × Obj)} {cs : List Value} (h : OwnV k e v en len cs) : ∃ a c, v = .slice a len c := by
  rcases h.2 with ⟨rfl, rfl, _⟩ | ⟨b, cap, c, rfl, _⟩
  · exact ⟨_, _, rfl⟩
  · exact ⟨_, _, rfl⟩
theorem wf_cat {α : Type} {wf : α → Prop} {xs ys : List α} (h : ∀ x ∈ xs, wf x) (h' : ∀ x ∈ ys, wf x) : ∀ x ∈ xs ++ ys, wf x := fun x hx => by
  rcases List.mem_append.1 hx with h1 | h1
  · exact h x h1
  · exact h' x h1
theorem wf_nil {α : Type} {wf : α → Prop} : ∀ x ∈ ([] : List α), wf x := fun x hx => by cases hx
end Go.SW


namespace Go.SW
variable {P : Program} {n : Nat} {N : Rest} {F : Fr} {H : Hp} {L : Ls}
def LI6 {α : Type} {β : Type} {γ : Type} {δ : Type} {ε : Type} {ζ : Type} (S SL : List Nat) (F : Fr) (H : Hp) (L : Ls) (live : α → β → γ → δ → ε → ζ → Fr → Fr) (Lm : α → β → γ → δ → ε → ζ → Ls → Ls) (Φ : α → β → γ → δ → ε → ζ → Hp → Prop) (μ : α → β → γ → δ → ε → ζ → Nat) : Nat → Fr → Hp → Ls → Prop := fun m F' H' L' =>
  ∃ x1 x2 x3 x4 x5 x6 J JL, F' = live x1 x2 x3 x4 x5 x6 (mask S J F) ∧ L' = Lm x1 x2 x3 x4 x5 x6 (lmask SL JL L) ∧ HLe H H' ∧ Φ x1 x2 x3 x4 x5 x6 H' ∧ μ x1 x2 x3 x4 x5 x6 = m
theorem cw_loop6 {α : Type} {β : Type} {γ : Type} {δ : Type} {ε : Type} {ζ : Type} {c : Code} {Q : Qt} (S SL : List Nat) (live : α → β → γ → δ → ε → ζ → Fr → Fr) (Lm : α → β → γ → δ → ε → ζ → Ls → Ls) (Φ : α → β → γ → δ → ε → ζ → Hp → Prop) (μ : α → β → γ → δ → ε → ζ → Nat) (y1 : α) (y2 : β) (y3 : γ) (y4 : δ) (y5 : ε) (y6 : ζ)
    (h0 : F = live y1 y2 y3 y4 y5 y6 (mask S F F)) (h1 : L = Lm y1 y2 y3 y4 y5 y6 (lmask SL L L)) (h2 : Φ y1 y2 y3 y4 y5 y6 H)
    (round : ∀ x1 x2 x3 x4 x5 x6 J JL H', Φ x1 x2 x3 x4 x5 x6 H' → HLe H H' → Cw P n N c (loopK (LI6 S SL F H L live Lm Φ μ) (μ x1 x2 x3 x4 x5 x6) Q) (live x1 x2 x3 x4 x5 x6 (mask S J F)) H' (Lm x1 x2 x3 x4 x5 x6 (lmask SL JL L))) : Cw P n N (.loop c) Q F H L := by
  refine cw_loop (LI6 S SL F H L live Lm Φ μ) (μ y1 y2 y3 y4 y5 y6) ⟨y1, y2, y3, y4, y5, y6, F, L, h0, h1, .refl _, h2, rfl⟩ fun m F' H' L' hI => ?_
  obtain ⟨x1, x2, x3, x4, x5, x6, J, JL, rfl, rfl, hl, hp, rfl⟩ := hI
  exact round x1 x2 x3 x4 x5 x6 J JL H' hp hl
theorem next6 {α : Type} {β : Type} {γ : Type} {δ : Type} {ε : Type} {ζ : Type} {Q : Qt} {S SL : List Nat} {live : α → β → γ → δ → ε → ζ → Fr → Fr} {Lm : α → β → γ → δ → ε → ζ → Ls → Ls} {Φ : α → β → γ → δ → ε → ζ → Hp → Prop} {μ : α → β → γ → δ → ε → ζ → Nat} {m : Nat} {F' : Fr} {H' : Hp} {L' : Ls} (x1' : α) (x2' : β) (x3' : γ) (x4' : δ) (x5' : ε) (x6' : ζ)
    (h0 : F' = live x1' x2' x3' x4' x5' x6' (mask S F' F)) (h1 : L' = Lm x1' x2' x3' x4' x5' x6' (lmask SL L' L)) (hl : HLe H H') (h2 : Φ x1' x2' x3' x4' x5' x6' H') (hm : μ x1' x2' x3' x4' x5' x6' < m) : loopK (LI6 S SL F H L live Lm Φ μ) m Q .normal F' H' L' :=
  ⟨_, hm, x1', x2', x3', x4', x5', x6', F', L', h0, h1, hl, h2, rfl⟩
def LI7 {α : Type} {β : Type} {γ : Type} {δ : Type} {ε : Type} {ζ : Type} {η : Type} (S SL : List Nat) (F : Fr) (H : Hp) (L : Ls) (live : α → β → γ → δ → ε → ζ → η → Fr → Fr) (Lm : α → β → γ → δ → ε → ζ → η → Ls → Ls) (Φ : α → β → γ → δ → ε → ζ → η → Hp → Prop) (μ : α → β → γ → δ → ε → ζ → η → Nat) : Nat → Fr → Hp → Ls → Prop := fun m F' H' L' =>
  ∃ x1 x2 x3 x4 x5 x6 x7 J JL, F' = live x1 x2 x3 x4 x5 x6 x7 (mask S J F) ∧ L' = Lm x1 x2 x3 x4 x5 x6 x7 (lmask SL JL L) ∧ HLe H H' ∧ Φ x1 x2 x3 x4 x5 x6 x7 H' ∧ μ x1 x2 x3 x4 x5 x6 x7 = m
theorem cw_loop7 {α : Type} {β : Type} {γ : Type} {δ : Type} {ε : Type} {ζ : Type} {η : Type} {c : Code} {Q : Qt} (S SL : List Nat) (live : α → β → γ → δ → ε → ζ → η → Fr → Fr) (Lm : α → β → γ → δ → ε → ζ → η → Ls → Ls) (Φ : α → β → γ → δ → ε → ζ → η → Hp → Prop) (μ : α → β → γ → δ → ε → ζ → η → Nat) (y1 : α) (y2 : β) (y3 : γ) (y4 : δ) (y5 : ε) (y6 : ζ) (y7 : η)
    (h0 : F = live y1 y2 y3 y4 y5 y6 y7 (mask S F F)) (h1 : L = Lm y1 y2 y3 y4 y5 y6 y7 (lmask SL L L)) (h2 : Φ y1 y2 y3 y4 y5 y6 y7 H)
    (round : ∀ x1 x2 x3 x4 x5 x6 x7 J JL H', Φ x1 x2 x3 x4 x5 x6 x7 H' → HLe H H' → Cw P n N c (loopK (LI7 S SL F H L live Lm Φ μ) (μ x1 x2 x3 x4 x5 x6 x7) Q) (live x1 x2 x3 x4 x5 x6 x7 (mask S J F)) H' (Lm x1 x2 x3 x4 x5 x6 x7 (lmask SL JL L))) : Cw P n N (.loop c) Q F H L := by
  refine cw_loop (LI7 S SL F H L live Lm Φ μ) (μ y1 y2 y3 y4 y5 y6 y7) ⟨y1, y2, y3, y4, y5, y6, y7, F, L, h0, h1, .refl _, h2, rfl⟩ fun m F' H' L' hI => ?_
  obtain ⟨x1, x2, x3, x4, x5, x6, x7, J, JL, rfl, rfl, hl, hp, rfl⟩ := hI
  exact round x1 x2 x3 x4 x5 x6 x7 J JL H' hp hl
theorem next7 {α : Type} {β : Type} {γ : Type} {δ : Type} {ε : Type} {ζ : Type} {η : Type} {Q : Qt} {S SL : List Nat} {live : α → β → γ → δ → ε → ζ → η → Fr → Fr} {Lm : α → β → γ → δ → ε → ζ → η → Ls → Ls} {Φ : α → β → γ → δ → ε → ζ → η → Hp → Prop} {μ : α → β → γ → δ → ε → ζ → η → Nat} {m : Nat} {F' : Fr} {H' : Hp} {L' : Ls} (x1' : α) (x2' : β) (x3' : γ) (x4' : δ) (x5' : ε) (x6' : ζ) (x7' : η)
    (h0 : F' = live x1' x2' x3' x4' x5' x6' x7' (mask S F' F)) (h1 : L' = Lm x1' x2' x3' x4' x5' x6' x7' (lmask SL L' L)) (hl : HLe H H') (h2 : Φ x1' x2' x3' x4' x5' x6' x7' H') (hm : μ x1' x2' x3' x4' x5' x6' x7' < m) : loopK (LI7 S SL F H L live Lm Φ μ) m Q .normal F' H' L' :=
  ⟨_, hm, x1', x2', x3', x4', x5', x6', x7', F', L', h0, h1, hl, h2, rfl⟩
def LI8 {α : Type} {β : Type} {γ : Type} {δ : Type} {ε : Type} {ζ : Type} {η : Type} {θ : Type} (S SL : List Nat) (F : Fr) (H : Hp) (L : Ls) (live : α → β → γ → δ → ε → ζ → η → θ → Fr → Fr) (Lm : α → β → γ → δ → ε → ζ → η → θ → Ls → Ls) (Φ : α → β → γ → δ → ε → ζ → η → θ → Hp → Prop) (μ : α → β → γ → δ → ε → ζ → η → θ → Nat) : Nat → Fr → Hp → Ls → Prop := fun m F' H' L' =>
  ∃ x1 x2 x3 x4 x5 x6 x7 x8 J JL, F' = live x1 x2 x3 x4 x5 x6 x7 x8 (mask S J F) ∧ L' = Lm x1 x2 x3 x4 x5 x6 x7 x8 (lmask SL JL L) ∧ HLe H H' ∧ Φ x1 x2 x3 x4 x5 x6 x7 x8 H' ∧ μ x1 x2 x3 x4 x5 x6 x7 x8 = m
theorem cw_loop8 {α : Type} {β : Type} {γ : Type} {δ : Type} {ε : Type} {ζ : Type} {η : Type} {θ : Type} {c : Code} {Q : Qt} (S SL : List Nat) (live : α → β → γ → δ → ε → ζ → η → θ → Fr → Fr) (Lm : α → β → γ → δ → ε → ζ → η → θ → Ls → Ls) (Φ : α → β → γ → δ → ε → ζ → η → θ → Hp → Prop) (μ : α → β → γ → δ → ε → ζ → η → θ → Nat) (y1 : α) (y2 : β) (y3 : γ) (y4 : δ) (y5 : ε) (y6 : ζ) (y7 : η) (y8 : θ)
    (h0 : F = live y1 y2 y3 y4 y5 y6 y7 y8 (mask S F F)) (h1 : L = Lm y1 y2 y3 y4 y5 y6 y7 y8 (lmask SL L L)) (h2 : Φ y1 y2 y3 y4 y5 y6 y7 y8 H)
    (round : ∀ x1 x2 x3 x4 x5 x6 x7 x8 J JL H', Φ x1 x2 x3 x4 x5 x6 x7 x8 H' → HLe H H' → Cw P n N c (loopK (LI8 S SL F H L live Lm Φ μ) (μ x1 x2 x3 x4 x5 x6 x7 x8) Q) (live x1 x2 x3 x4 x5 x6 x7 x8 (mask S J F)) H' (Lm x1 x2 x3 x4 x5 x6 x7 x8 (lmask SL JL L))) : Cw P n N (.loop c) Q F H L := by
  refine cw_loop (LI8 S SL F H L live Lm Φ μ) (μ y1 y2 y3 y4 y5 y6 y7 y8) ⟨y1, y2, y3, y4, y5, y6, y7, y8, F, L, h0, h1, .refl _, h2, rfl⟩ fun m F' H' L' hI => ?_
  obtain ⟨x1, x2, x3, x4, x5, x6, x7, x8, J, JL, rfl, rfl, hl, hp, rfl⟩ := hI
  exact round x1 x2 x3 x4 x5 x6 x7 x8 J JL H' hp hl
theorem next8 {α : Type} {β : Type} {γ : Type} {δ : Type} {ε : Type} {ζ : Type} {η : Type} {θ : Type} {Q : Qt} {S SL : List Nat} {live : α → β → γ → δ → ε → ζ → η → θ → Fr → Fr} {Lm : α → β → γ → δ → ε → ζ → η → θ → Ls → Ls} {Φ : α → β → γ → δ → ε → ζ → η → θ → Hp → Prop} {μ : α → β → γ → δ → ε → ζ → η → θ → Nat} {m : Nat} {F' : Fr} {H' : Hp} {L' : Ls} (x1' : α) (x2' : β) (x3' : γ) (x4' : δ) (x5' : ε) (x6' : ζ) (x7' : η) (x8' : θ)
    (h0 : F' = live x1' x2' x3' x4' x5' x6' x7' x8' (mask S F' F)) (h1 : L' = Lm x1' x2' x3' x4' x5' x6' x7' x8' (lmask SL L' L)) (hl : HLe H H') (h2 : Φ x1' x2' x3' x4' x5' x6' x7' x8' H') (hm : μ x1' x2' x3' x4' x5' x6' x7' x8' < m) : loopK (LI8 S SL F H L live Lm Φ μ) m Q .normal F' H' L' :=
  ⟨_, hm, x1', x2', x3', x4', x5', x6', x7', x8', F', L', h0, h1, hl, h2, rfl⟩
def LI9 {α : Type} {β : Type} {γ : Type} {δ : Type} {ε : Type} {ζ : Type} {η : Type} {θ : Type} {ι : Type} (S SL : List Nat) (F : Fr) (H : Hp) (L : Ls) (live : α → β → γ → δ → ε → ζ → η → θ → ι → Fr → Fr) (Lm : α → β → γ → δ → ε → ζ → η → θ → ι → Ls → Ls) (Φ : α → β → γ → δ → ε → ζ → η → θ → ι → Hp → Prop) (μ : α → β → γ → δ → ε → ζ → η → θ → ι → Nat) : Nat → Fr → Hp → Ls → Prop := fun m F' H' L' =>
  ∃ x1 x2 x3 x4 x5 x6 x7 x8 x9 J JL, F' = live x1 x2 x3 x4 x5 x6 x7 x8 x9 (mask S J F) ∧ L' = Lm x1 x2 x3 x4 x5 x6 x7 x8 x9 (lmask SL JL L) ∧ HLe H H' ∧ Φ x1 x2 x3 x4 x5 x6 x7 x8 x9 H' ∧ μ x1 x2 x3 x4 x5 x6 x7 x8 x9 = m
theorem cw_loop9 {α : Type} {β : Type} {γ : Type} {δ : Type} {ε : Type} {ζ : Type} {η : Type} {θ : Type} {ι : Type} {c : Code} {Q : Qt} (S SL : List Nat) (live : α → β → γ → δ → ε → ζ → η → θ → ι → Fr → Fr) (Lm : α → β → γ → δ → ε → ζ → η → θ → ι → Ls → Ls) (Φ : α → β → γ → δ → ε → ζ → η → θ → ι → Hp → Prop) (μ : α → β → γ → δ → ε → ζ → η → θ → ι → Nat) (y1 : α) (y2 : β) (y3 : γ) (y4 : δ) (y5 : ε) (y6 : ζ) (y7 : η) (y8 : θ) (y9 : ι)
    (h0 : F = live y1 y2 y3 y4 y5 y6 y7 y8 y9 (mask S F F)) (h1 : L = Lm y1 y2 y3 y4 y5 y6 y7 y8 y9 (lmask SL L L)) (h2 : Φ y1 y2 y3 y4 y5 y6 y7 y8 y9 H)
    (round : ∀ x1 x2 x3 x4 x5 x6 x7 x8 x9 J JL H', Φ x1 x2 x3 x4 x5 x6 x7 x8 x9 H' → HLe H H' → Cw P n N c (loopK (LI9 S SL F H L live Lm Φ μ) (μ x1 x2 x3 x4 x5 x6 x7 x8 x9) Q) (live x1 x2 x3 x4 x5 x6 x7 x8 x9 (mask S J F)) H' (Lm x1 x2 x3 x4 x5 x6 x7 x8 x9 (lmask SL JL L))) : Cw P n N (.loop c) Q F H L := by
  refine cw_loop (LI9 S SL F H L live Lm Φ μ) (μ y1 y2 y3 y4 y5 y6 y7 y8 y9) ⟨y1, y2, y3, y4, y5, y6, y7, y8, y9, F, L, h0, h1, .refl _, h2, rfl⟩ fun m F' H' L' hI => ?_
  obtain ⟨x1, x2, x3, x4, x5, x6, x7, x8, x9, J, JL, rfl, rfl, hl, hp, rfl⟩ := hI
  exact round x1 x2 x3 x4 x5 x6 x7 x8 x9 J JL H' hp hl
theorem next9 {α : Type} {β : Type} {γ : Type} {δ : Type} {ε : Type} {ζ : Type} {η : Type} {θ : Type} {ι : Type} {Q : Qt} {S SL : List Nat} {live : α → β → γ → δ → ε → ζ → η → θ → ι → Fr → Fr} {Lm : α → β → γ → δ → ε → ζ → η → θ → ι → Ls → Ls} {Φ : α → β → γ → δ → ε → ζ → η → θ → ι → Hp → Prop} {μ : α → β → γ → δ → ε → ζ → η → θ → ι → Nat} {m : Nat} {F' : Fr} {H' : Hp} {L' : Ls} (x1' : α) (x2' : β) (x3' : γ) (x4' : δ) (x5' : ε) (x6' : ζ) (x7' : η) (x8' : θ) (x9' : ι)
    (h0 : F' = live x1' x2' x3' x4' x5' x6' x7' x8' x9' (mask S F' F)) (h1 : L' = Lm x1' x2' x3' x4' x5' x6' x7' x8' x9' (lmask SL L' L)) (hl : HLe H H') (h2 : Φ x1' x2' x3' x4' x5' x6' x7' x8' x9' H') (hm : μ x1' x2' x3' x4' x5' x6' x7' x8' x9' < m) : loopK (LI9 S SL F H L live Lm Φ μ) m Q .normal F' H' L' :=
  ⟨_, hm, x1', x2', x3', x4', x5', x6', x7', x8', x9', F', L', h0, h1, hl, h2, rfl⟩
/-! Stores, what is held written out -/
theorem op1_store1n {T0 ty T : TypeId} {x y : Operand} {ops : List Oper} {pos : String} {af : Array Edge} {K : Fr → Hp → Ls → Prop} {b off i : Nat} {cs : List Value} {v : Value} (cs' : List Value) (hx : ev F x = .pointer (some ⟨b, off, none⟩)) (hy : ev F y = v) (hv : v.oneCell' = true) (hk : Sz P T 1) (hi : L i = some (b, bx T0 cs)) (ho' : Nat.blt off cs.length = true) (hc : cs.set off v = cs')
    (k : K F H (lupd L i (some (b, bx T0 cs')))) : Op1 P n N ops ⟨none, .store T x y, ty, pos, af, none⟩ K F H L := by
  subst hc; exact op1_store1 hx hy hv hk hi ho' k
theorem op1_storeAn {T0 ty T : TypeId} {x y : Operand} {ops : List Oper} {pos : String} {af : Array Edge} {K : Fr → Hp → Ls → Prop} {b off i m : Nat} {cs vs : List Value} (cs' : List Value) (hx : ev F x = .pointer (some ⟨b, off, none⟩)) (hy : ev F y = .agg vs.toArray) (hv : vs.all Value.oneCell' = true) (hk : Sz P T m) (hm : vs.length = m) (hi : L i = some (b, bx T0 cs)) (ho' : Nat.ble (off + vs.length) cs.length = true) (hc : setAt cs off vs = cs')
    (k : K F H (lupd L i (some (b, bx T0 cs')))) : Op1 P n N ops ⟨none, .store T x y, ty, pos, af, none⟩ K F H L := by
  subst hc; exact op1_storeA hx hy hv hk hm hi ho' k
end Go.SW


namespace Go.SW

section
variable {α : Type} [DecidableEq α] {a b ra rb : List α} {x y : α} {k : Nat}
theorem eqL_len (h : ¬ (a.length : Int) = b.length) : decide (a = b) = false := by
  rw [decide_eq_false_iff_not]; rintro rfl; exact h rfl
theorem eqL_step (h : decide (a = b) = decide (a.drop k = b.drop k)) (ha : a.drop k = x :: ra) (hb : b.drop k = y :: rb) (e : x = y) : decide (a = b) = decide (ra = rb) := by
  rw [h, ha, hb, Bool.eq_iff_iff]; simp [e]
theorem eqL_miss (h : decide (a = b) = decide (a.drop k = b.drop k)) (ha : a.drop k = x :: ra) (hb : b.drop k = y :: rb) (e : ¬ x = y) : decide (a = b) = false := by
  rw [h, ha, hb, Bool.eq_iff_iff]; simp [e]
theorem eqL_end (h : decide (a = b) = decide (a.drop k = b.drop k)) (ha : a.length ≤ k) (hb : b.length ≤ k) : decide (a = b) = true := by
  rw [h, List.drop_of_length_le ha, List.drop_of_length_le hb]; simp
end
section
variable {α : Type} {p : α → Bool} {a r : List α} {x : α} {k : Nat}
theorem all_step (h : a.all p = (a.drop k).all p) (ha : a.drop k = x :: r) (e : p x = true) : a.all p = r.all p := by rw [h, ha]; simp [e]
theorem all_miss (h : a.all p = (a.drop k).all p) (ha : a.drop k = x :: r) (e : p x = false) : a.all p = false := by rw [h, ha]; simp [e]
theorem all_end (h : a.all p = (a.drop k).all p) (ha : a.length ≤ k) : a.all p = true := by rw [h, List.drop_of_length_le ha]; rfl
theorem any_step (h : a.any p = (a.drop k).any p) (ha : a.drop k = x :: r) (e : p x = false) : a.any p = r.any p := by rw [h, ha]; simp [e]
theorem any_hit (h : a.any p = (a.drop k).any p) (ha : a.drop k = x :: r) (e : p x = true) : a.any p = true := by rw [h, ha]; simp [e]
theorem any_end (h : a.any p = (a.drop k).any p) (ha : a.length ≤ k) : a.any p = false := by rw [h, List.drop_of_length_le ha]; rfl
end
theorem one_flat {α : Type} {enc : α → List Value} (h : ∀ x, (enc x).all (·.oneCell') = true) (xs : List α) : ∀ u ∈ xs.flatMap enc, u.oneCell' = true := fun u hu => by
  obtain ⟨x, _, hx⟩ := List.mem_flatMap.1 hu
  exact List.all_eq_true.1 (h x) u hx
theorem slh_wf {α : Type} {enc : α → List Value} {wf : α → Prop} {k : Nat} {H : Hp} {sv : Value} {xs : List α} (h : SlH (FE enc wf) k H sv xs) : ∀ x ∈ xs, wf x := fun x hx => by
  obtain ⟨m, hm, rfl⟩ := List.getElem_of_mem hx
  obtain ⟨cs, ⟨_, hw⟩, _⟩ := h.2 m hm
  exact hw
theorem own_cat0 {α : Type} {enc : α → List Value} {k e : Nat} {v : Value} {en : Option (Nat × Obj)} (ys : List α) (h : OwnV k e v en (0 + ys.length) ([] ++ ys.flatMap enc)) : OwnV k e v en ys.length (ys.flatMap enc) :=
  ownV_cast h (by simp) (by simp)

theorem Mail.eq_iff {a b : Mail} : a = b ↔ a.id = b.id ∧ a.shop = b.shop ∧ a.key = b.key ∧ a.head = b.head ∧ a.body = b.body ∧ a.due = b.due ∧ a.hops = b.hops := by
  cases a; cases b; simp
theorem Reply.eq_iff {a b : Reply} : a = b ↔ a.channel = b.channel ∧ a.kind = b.kind ∧ a.n = b.n ∧ a.m = b.m ∧ a.yes = b.yes ∧ a.name = b.name ∧ a.mail = b.mail := by
  cases a; cases b; simp

/-! Light -/
def lightP (p : Pair) : Bool := decide (p.key.length ≤ 40) && decide (p.text.length ≤ 100)
def lightH (h : List Pair) : Bool := decide (h.length ≤ 12) && h.all lightP
def lightR (r : Reply) : Bool := decide (max (r.name.length : Int) (r.mail.shop.length : Int) ≤ 40) && decide ((r.mail.key.length : Int) ≤ 100) && lightH r.mail.head && decide ((r.mail.body.length : Int) ≤ 300)
theorem lightH_len (h : List Pair) (e : lightH h = true) : h.length ≤ 12 := by
  simp [lightH] at e; exact e.1
theorem lightR_len (r : Reply) (e : lightR r = true) : r.name.length ≤ 40 ∧ r.mail.shop.length ≤ 40 ∧ r.mail.key.length ≤ 100 ∧ r.mail.head.length ≤ 12 ∧ r.mail.body.length ≤ 300 := by
  simp only [lightR, Bool.and_eq_true, decide_eq_true_eq] at e
  obtain ⟨⟨⟨h1, h3⟩, h4⟩, h5⟩ := e
  have := lightH_len _ h4
  omega
end Go.SW


namespace Go.SW

theorem inEnd_ok {i : In} (h : inEnd i = 0) : i.err = 0 ∧ i.s = [] := by
  unfold inEnd at h
  split at h
  · cases h
  · rename_i hn
    refine ⟨h, ?_⟩
    cases q : i.s with
    | nil => rfl
    | cons c r => exact absurd ⟨h, by rw [q]; simp⟩ hn
theorem inEnd_nil : inEnd ⟨[], 0⟩ = 0 := rfl

theorem replyRead_kind (c k : Int) (i : In) : (replyRead c k i).1.kind = k ∧ (replyRead c k i).1.channel = c := by
  unfold replyRead
  repeat' split
  all_goals exact ⟨rfl, rfl⟩

def sentB (yes : Bool) (m : Mail) : Bs := numB 1 (if yes = true then (1 : Int) else 0).toNat ++ (txtB m.shop ++ (txtB m.key ++ (headBytes m.head ++ txtB m.body)))
theorem sentRead_back {i : In} (h : (sentRead i).2.err = 0) : i.err = 0 ∧ i.s = sentB (sentRead i).1.1 (sentRead i).1.2 ++ (sentRead i).2.s ∧ (sentRead i).1.2.shop.length ≤ 65535 ∧ (sentRead i).1.2.key.length ≤ 65535 ∧ (sentRead i).1.2.body.length ≤ 65535 := by
  unfold sentRead at *
  simp only at *
  generalize hy : inNum i 1 = y at *
  generalize hs : inText (if 1 < y.1 then inFail y.2 4 else y.2) 16 = s at *
  generalize hk : inText s.2 64 = k at *
  generalize hh : headRead k.2 = hd at *
  generalize hb : inText hd.2 256 = b at *
  subst hb
  obtain ⟨f1, f2, f3, f4⟩ := inText_back h
  subst hh
  obtain ⟨g1, g2, g3⟩ := headRead_back f1
  subst hk
  obtain ⟨e1, e2, e3, e4⟩ := inText_back g1
  subst hs
  obtain ⟨d1, d2, d3, d4⟩ := inText_back e1
  split at d1
  · exact (inFail_ok (by decide) d1).elim
  · rename_i hy1
    rw [if_neg hy1] at *
    subst hy
    obtain ⟨c1, c2⟩ := inNum_back1 d1
    have hr := inNum_r i 1
    refine ⟨c1, ?_, by omega, by omega, by omega⟩
    have hy1 : ((inNum i 1).1).toNat = (if decide ((inNum i 1).1 = 1) = true then (1 : Int) else 0).toNat := by
      by_cases q : (inNum i 1).1 = 1
      · rw [if_pos (by simpa using q), q]
      · rw [if_neg (by simpa using q)]; omega
    simp only [sentB]
    rw [← hy1, c2, d2, e2, g2, f2]
    simp [txtB]

theorem replyOut_0 {r : Reply} (k : r.kind = 0) (h : (r.name.length : Int) ≤ 65535) : (replyOut r).s = txtB r.name := by
  simp only [replyOut, replyOut1]
  rw [if_neg (by omega), if_pos k, outText_s h]; rfl
theorem replyOut_n {r : Reply} (k : r.kind = 2 ∨ r.kind = 5 ∨ r.kind = 7) : (replyOut r).s = numB 8 r.n.toNat := by
  simp only [replyOut, replyOut1]
  rw [if_neg (by omega), if_neg (by omega), if_pos k, outNum8]; rfl
theorem replyOut_6 {r : Reply} (k : r.kind = 6) : (replyOut r).s = numB 8 r.n.toNat ++ numB 8 r.m.toNat := by
  simp only [replyOut, replyOut1]
  rw [if_neg (by omega), if_neg (by omega), if_neg (by omega), if_pos (by omega), outNum8, outNum8]; rfl
theorem replyOut_3 {r : Reply} (k : r.kind = 3) (h1 : (r.mail.shop.length : Int) ≤ 65535) (h2 : (r.mail.key.length : Int) ≤ 65535) (h3 : (r.mail.body.length : Int) ≤ 65535) : (replyOut r).s = numB 8 r.n.toNat ++ (numB 8 r.m.toNat ++ sentB r.yes r.mail) := by
  simp only [replyOut, replyOut1]
  rw [if_pos k, if_neg (by omega), if_neg (by omega), if_pos (by omega), outNum8, outNum8, outNum1, outText_s h1, outText_s h2]
  simp only [outRaw]
  rw [outText_s h3]
  simp [sentB]
theorem replyOut_e {r : Reply} (k0 : r.kind ≠ 0) (k2 : ¬ (r.kind = 2 ∨ r.kind = 5 ∨ r.kind = 7)) (k3 : ¬ (r.kind = 3 ∨ r.kind = 6)) : (replyOut r).s = [] := by
  simp only [replyOut, replyOut1]
  rw [if_neg (by omega), if_neg k0, if_neg k2, if_neg k3]

theorem replyRead_back {c k : Int} {i : In} (h : (replyRead c k i).2.err = 0) : i.err = 0 ∧ i.s = (replyOut (replyRead c k i).1).s ++ (replyRead c k i).2.s := by
  unfold replyRead at *
  by_cases k0 : k = 0
  · simp only [if_pos k0] at h ⊢
    obtain ⟨a1, a2, a3, a4⟩ := inText_back h
    rw [replyOut_0 k0 a4]
    refine ⟨a1, ?_⟩
    rw [a2]; simp [txtB]
  · simp only [if_neg k0] at h ⊢
    by_cases k2 : k = 2 ∨ k = 5 ∨ k = 7
    · simp only [if_pos k2] at h ⊢
      obtain ⟨a1, a2⟩ := inNum_back8 h
      rw [replyOut_n k2]
      exact ⟨a1, a2⟩
    · simp only [if_neg k2] at h ⊢
      by_cases k6 : k = 6
      · simp only [if_pos k6] at h ⊢
        obtain ⟨a1, a2⟩ := inNum_back8 h
        obtain ⟨b1, b2⟩ := inNum_back8 a1
        rw [replyOut_6 k6]
        refine ⟨b1, ?_⟩
        rw [b2, a2]; simp
      · simp only [if_neg k6] at h ⊢
        by_cases k3 : k = 3
        · simp only [if_pos k3] at h ⊢
          obtain ⟨s1, s2, s3, s4, s5⟩ := sentRead_back h
          obtain ⟨a1, a2⟩ := inNum_back8 s1
          obtain ⟨b1, b2⟩ := inNum_back8 a1
          rw [replyOut_3 k3 (by simp only; omega) (by simp only; omega) (by simp only; omega)]
          refine ⟨b1, ?_⟩
          rw [b2, a2, s2]; simp
        · simp only [if_neg k3] at h ⊢
          rw [replyOut_e k0 k2 (by simp only; omega)]
          exact ⟨h, rfl⟩

theorem replyOf_ok {f : Frame} (h : (replyOf f).2 = 0) : 64 ≤ f.kind ∧ f.kind ≤ 71 ∧ inEnd (replyRead f.channel (f.kind - 64) ⟨f.body, 0⟩).2 = 0 ∧ replyE (replyRead f.channel (f.kind - 64) ⟨f.body, 0⟩).1 = 0 ∧ (replyOf f).1 = (replyRead f.channel (f.kind - 64) ⟨f.body, 0⟩).1 := by
  by_cases hk : f.kind < 64 ∨ 71 < f.kind
  · simp only [replyOf, if_pos hk] at h; cases h
  · by_cases hE : inEnd (replyRead f.channel (f.kind - 64) ⟨f.body, 0⟩).2 = 0
    · by_cases hR : replyE (replyRead f.channel (f.kind - 64) ⟨f.body, 0⟩).1 = 0
      · refine ⟨by omega, by omega, hE, hR, ?_⟩
        simp only [replyOf, if_neg hk, if_pos hE]
        rw [if_neg (by simpa using hR)]
      · simp only [replyOf, if_neg hk, if_pos hE] at h
        rw [if_pos (by simpa using hR)] at h
        exact absurd h hR
    · simp only [replyOf, if_neg hk, if_neg hE] at h
      rw [if_pos (by simpa using hE)] at h
      exact absurd h hE
theorem replyOf_back {f : Frame} (hw : f.wf) (h : (replyOf f).2 = 0) : replyE (replyOf f).1 = 0 ∧ replyFrame (replyOf f).1 = f := by
  obtain ⟨k1, k2, hE, hR, e⟩ := replyOf_ok h
  rw [e]
  obtain ⟨h1, h2⟩ := inEnd_ok hE
  obtain ⟨_, h3⟩ := replyRead_back h1
  obtain ⟨q1, q2⟩ := replyRead_kind f.channel (f.kind - 64) ⟨f.body, 0⟩
  refine ⟨hR, ?_⟩
  unfold replyFrame
  rw [if_pos hR, q1, q2]
  rw [h2, List.append_nil] at h3
  have hwr : IntKind.wrap .u8 (64 + (f.kind - 64)) = f.kind := by
    obtain ⟨_, ⟨q1, q2⟩, _⟩ := hw
    simp [IntKind.wrap, IntKind.bits, IntKind.signed]; omega
  have h3' : f.body = (replyOut (replyRead f.channel (f.kind - 64) ⟨f.body, 0⟩).1).s := h3
  rw [hwr, ← h3']

theorem sentRead_fwd {yes : Bool} {m : Mail} {r : Bs} (h1 : m.shop.length ≤ 16) (h2 : m.key.length ≤ 64) (h3 : headE m.head = 0) (hh : ∀ p ∈ m.head, p.wf) (h4 : m.body.length ≤ 256) (hz : m.id = 0 ∧ m.due = 0 ∧ m.hops = 0) :
    sentRead ⟨sentB yes m ++ r, 0⟩ = ((yes, m), ⟨r, 0⟩) := by
  obtain ⟨id, shop, key, head, body, due, hops⟩ := m
  simp only at *
  obtain ⟨rfl, rfl, rfl⟩ := hz
  have ey : ∀ z : Bs, inNum ⟨numB 1 (if yes = true then (1 : Int) else 0).toNat ++ z, 0⟩ 1 = ((if yes = true then (1 : Int) else 0), ⟨z, 0⟩) := fun z => inNum_fwd1 (by split <;> omega) (by split <;> omega)
  have et : ∀ (s z : Bs) (q : Int), (s.length : Int) ≤ q → (s.length : Int) ≤ 65535 → inText ⟨txtB s ++ z, 0⟩ q = (s, ⟨z, 0⟩) := fun s z q h1 h2 => by
    unfold txtB; rw [List.append_assoc]; exact inText_fwd h1 h2
  have hy : ¬ (1 < (if yes = true then (1 : Int) else 0)) := by split <;> omega
  unfold sentRead sentB
  simp only [List.append_assoc]
  rw [ey]
  simp only
  rw [if_neg hy, et _ _ _ (by omega) (by omega)]
  simp only
  rw [et _ _ _ (by omega) (by omega)]
  simp only
  rw [headRead_fwd h3 hh]
  simp only
  rw [et _ _ _ (by omega) (by omega)]
  cases yes <;> rfl
theorem replyRead_fwd {r : Reply} (hw : r.wf) (hh : ∀ p ∈ r.mail.head, p.wf) (h : replyE r = 0) : replyRead r.channel r.kind ⟨(replyOut r).s, 0⟩ = (r, ⟨[], 0⟩) := by
  obtain ⟨⟨w1, w2⟩, ⟨w3, w4⟩, ⟨w5, w6⟩, ⟨w7, w8⟩, _⟩ := hw
  have hlen := replyE_len r h
  unfold replyE at h
  split at h
  · cases h
  · rename_i hk
    split at h
    · cases h
    · rename_i hs
      obtain ⟨a1, a2, a3, a4, a5⟩ := spareR_ok (by simpa using hs)
      have en : ∀ z : Bs, inNum ⟨numB 8 r.n.toNat ++ z, 0⟩ 8 = (r.n, ⟨z, 0⟩) := fun z => inNum_fwd8 w5 (by omega)
      have em : ∀ z : Bs, inNum ⟨numB 8 r.m.toNat ++ z, 0⟩ 8 = (r.m, ⟨z, 0⟩) := fun z => inNum_fwd8 w7 (by omega)
      have mz : r.kind ≠ 3 → r.mail = Mail.zero := fun q => by
        obtain ⟨_, b1, b2, b3, b4⟩ := a3 q
        rw [Mail.eq_iff]; exact ⟨a1.1, b1, b2, b3, b4, a1.2.1, a1.2.2⟩
      have yz : r.kind ≠ 3 → r.yes = false := fun q => (a3 q).1
      unfold replyRead
      by_cases k0 : r.kind = 0
      · rw [if_pos k0, replyOut_0 k0 (by omega)]
        have e := inText_fwd (s := r.name) (r := []) (m := 16) (by omega) (by omega)
        rw [List.append_nil] at e
        unfold txtB
        rw [e]
        refine Prod.ext ?_ rfl
        rw [Reply.eq_iff]
        exact ⟨rfl, rfl, (a5 (by omega) (by omega)).symm, (a4 (by omega)).symm, (yz (by omega)).symm, rfl, (mz (by omega)).symm⟩
      · rw [if_neg k0]
        have nz := a2 k0
        by_cases k2 : r.kind = 2 ∨ r.kind = 5 ∨ r.kind = 7
        · rw [if_pos k2, replyOut_n k2]
          have e := en []
          rw [List.append_nil] at e
          rw [e]
          refine Prod.ext ?_ rfl
          rw [Reply.eq_iff]
          exact ⟨rfl, rfl, rfl, (a4 (by omega)).symm, (yz (by omega)).symm, nz.symm, (mz (by omega)).symm⟩
        · rw [if_neg k2]
          by_cases k6 : r.kind = 6
          · rw [if_pos k6, replyOut_6 k6, en]
            simp only
            have e := em []
            rw [List.append_nil] at e
            rw [e]
            refine Prod.ext ?_ rfl
            rw [Reply.eq_iff]
            exact ⟨rfl, rfl, rfl, rfl, (yz (by omega)).symm, nz.symm, (mz (by omega)).symm⟩
          · rw [if_neg k6]
            by_cases k3 : r.kind = 3
            · rw [if_neg k0, if_pos k3] at h
              obtain ⟨m1, m2, m3, m4⟩ := mailE_ok h
              rw [if_pos k3, replyOut_3 k3 (by omega) (by omega) (by omega), en]
              simp only
              rw [em]
              simp only
              have e := sentRead_fwd (yes := r.yes) (r := []) m1 m2 m3 hh m4 a1
              rw [List.append_nil] at e
              rw [e]
              refine Prod.ext ?_ rfl
              rw [Reply.eq_iff]
              exact ⟨rfl, rfl, rfl, rfl, rfl, nz.symm, rfl⟩
            · rw [if_neg k3, replyOut_e k0 k2 (by omega)]
              refine Prod.ext ?_ rfl
              rw [Reply.eq_iff]
              exact ⟨rfl, rfl, (a5 (by omega) (by omega)).symm, (a4 (by omega)).symm, (yz (by omega)).symm, nz.symm, (mz (by omega)).symm⟩
theorem replyOf_fwd {r : Reply} (hw : r.wf) (hh : ∀ p ∈ r.mail.head, p.wf) (h : replyE r = 0) : replyOf (replyFrame r) = (r, 0) := by
  have hk := replyRead_fwd hw hh h
  have hk7 : 0 ≤ r.kind ∧ r.kind ≤ 7 := by
    refine ⟨hw.2.1.1, ?_⟩
    have h' := h
    unfold replyE at h'
    split at h'
    · cases h'
    · omega
  have hwr : IntKind.wrap .u8 (64 + r.kind) = 64 + r.kind := by
    simp [IntKind.wrap, IntKind.bits, IntKind.signed]; omega
  unfold replyOf replyFrame
  rw [if_pos h]
  simp only [hwr]
  rw [if_neg (by omega), show (64 + r.kind - 64 : Int) = r.kind by omega, hk]
  simp only
  rw [if_pos inEnd_nil, if_neg (by simpa using h)]
end Go.SW


namespace Go.SW

def fSum (f : Frame) : Int := crcSum [numB 1 f.channel.toNat ++ (numB 1 f.kind.toNat ++ txtB f.body)]
def frB (f : Frame) : Bs := numB 1 f.channel.toNat ++ (numB 1 f.kind.toNat ++ (txtB f.body ++ (numB 4 (fSum f).toNat ++ numB 1 206)))
theorem frameBytes_s {f : Frame} (h : f.body.length ≤ 2048) : frameBytes f = frB f := by
  unfold frameBytes frameOut frB fSum
  rw [if_neg (by omega), outNum1, outNum1, outText_s (by omega)]
  simp only
  rw [outNum4, outNum1]
  simp only [List.nil_append, List.append_assoc]
  rfl
theorem frB_len (f : Frame) : (frB f).length = f.body.length + 9 := by
  simp [frB, txtB, numB_len]; omega

theorem parse_fwd {f : Frame} (hw : f.wf) (h : f.body.length ≤ 2048) (z : Bs) : parseF (frB f ++ z) = (f, ((frB f).length : Int), 0) := by
  obtain ⟨⟨w1, w2⟩, ⟨w3, w4⟩, _⟩ := hw
  have hs := crcSum_r [numB 1 f.channel.toNat ++ (numB 1 f.kind.toNat ++ txtB f.body)]
  have e1 : ∀ q : Bs, inNum ⟨numB 1 f.channel.toNat ++ q, 0⟩ 1 = (f.channel, ⟨q, 0⟩) := fun q => inNum_fwd (k := 1) (by omega) w1 (by omega) (by omega)
  have e2 : ∀ q : Bs, inNum ⟨numB 1 f.kind.toNat ++ q, 0⟩ 1 = (f.kind, ⟨q, 0⟩) := fun q => inNum_fwd (k := 1) (by omega) w3 (by omega) (by omega)
  have e3 : ∀ q : Bs, inText ⟨txtB f.body ++ q, 0⟩ 2048 = (f.body, ⟨q, 0⟩) := fun q => by unfold txtB; rw [List.append_assoc]; exact inText_fwd (by omega) (by omega)
  have e4 : ∀ q : Bs, inNum ⟨numB 4 (fSum f).toNat ++ q, 0⟩ 4 = (fSum f, ⟨q, 0⟩) := fun q => inNum_fwd (k := 4) (by omega) hs.1 (by have := hs.2; simp only [fSum]; omega) (by omega)
  have e5 : ∀ q : Bs, inNum ⟨numB 1 206 ++ q, 0⟩ 1 = (206, ⟨q, 0⟩) := fun q => inNum_fwd (n := 206) (k := 1) (by omega) (by omega) (by omega) (by omega)
  have hl := frB_len f
  have ht : (frB f ++ z).take (4 + f.body.length) = numB 1 f.channel.toNat ++ (numB 1 f.kind.toNat ++ txtB f.body) := by
    have e : frB f ++ z = (numB 1 f.channel.toNat ++ (numB 1 f.kind.toNat ++ txtB f.body)) ++ ((numB 4 (fSum f).toNat ++ numB 1 206) ++ z) := by simp [frB]
    have el : 4 + f.body.length = (numB 1 f.channel.toNat ++ (numB 1 f.kind.toNat ++ txtB f.body)).length := by simp [txtB, numB_len]; omega
    rw [e, el]; exact List.take_left
  have hb : (⟨frB f ++ z, 0⟩ : In) = ⟨numB 1 f.channel.toNat ++ (numB 1 f.kind.toNat ++ (txtB f.body ++ (numB 4 (fSum f).toNat ++ (numB 1 206 ++ z)))), 0⟩ := by simp [frB]
  unfold parseF
  simp only
  rw [hb, e1]
  simp only
  rw [e2]
  simp only
  rw [e3]
  simp only
  rw [e4]
  simp only
  rw [e5]
  simp only
  rw [ht, if_neg (by simp), if_neg (by simp), if_neg (by simp [fSum])]
  rw [hl]
  congr 2
  omega

theorem inNum_short {s : Bs} {k : Nat} (h : s.length < k) (h8 : k ≤ 8) : inNum ⟨s, 0⟩ k = (0, ⟨[], 3⟩) := by
  unfold inNum inRaw
  rw [show min (k : Int) 8 = k by omega]
  have c1 : ¬ ((0 : Int) ≠ 0 ∨ (k : Int) ≤ 0) := by omega
  simp only [if_neg c1]
  rw [if_pos (by omega)]; rfl
theorem num3 (b : Int) : inNum ⟨[], 3⟩ b = (0, ⟨[], 3⟩) := inNum_bad (by decide) b
theorem text3 {m : Int} (h : 0 ≤ m) : inText ⟨[], 3⟩ m = ([], ⟨[], 3⟩) := by
  obtain ⟨a, b⟩ := inText_bad (i := ⟨[], 3⟩) (by decide) m
  rw [if_neg (by omega)] at b
  exact Prod.ext a b
theorem inText_short {s r : Bs} {n m : Nat} (hn : n ≤ 65535) (hm : n ≤ m) (h : s.length < n + 2) (hp : ∀ q, 2 ≤ s.length → q = s.drop 2 → s = numB 2 n ++ q) : inText ⟨s, 0⟩ m = ([], ⟨[], 3⟩) := by
  by_cases h2 : s.length < 2
  · unfold inText
    rw [show (2 : Int) = ((2 : Nat) : Int) from rfl, inNum_short h2 (by omega)]
    simp only
    rw [if_neg (by omega)]; rfl
  · have e := hp _ (by omega) rfl
    have e2 := inNum_fwd (r := s.drop 2) (n := (n : Int)) (k := 2) (by omega) (by omega) (by omega) (by omega)
    rw [Int.toNat_natCast, ← e] at e2
    have e3 : inNum ⟨s, 0⟩ 2 = ((n : Int), ⟨s.drop 2, 0⟩) := e2
    unfold inText
    rw [e3]
    simp only
    rw [if_neg (by omega)]
    unfold inRaw
    have c1 : ¬ ((0 : Int) ≠ 0 ∨ (n : Int) ≤ 0) := by omega
    have c2 : ((s.drop 2).length : Int) < (n : Int) := by rw [List.length_drop]; omega
    simp only [if_neg c1, if_pos c2]

theorem take_app {a b : Bs} {k : Nat} (h : a.length ≤ k) : (a ++ b).take k = a ++ b.take (k - a.length) := by
  rw [List.take_append, List.take_of_length_le h]
theorem parse_short {f : Frame} (hw : f.wf) (h : f.body.length ≤ 2048) {k : Nat} (hk : k < (frB f).length) : (parseF ((frB f).take k)).2.2 = 3 := by
  obtain ⟨⟨w1, w2⟩, ⟨w3, w4⟩, _⟩ := hw
  have hs := crcSum_r [numB 1 f.channel.toNat ++ (numB 1 f.kind.toNat ++ txtB f.body)]
  have hl := frB_len f
  have e1 : ∀ q : Bs, inNum ⟨numB 1 f.channel.toNat ++ q, 0⟩ 1 = (f.channel, ⟨q, 0⟩) := fun q => inNum_fwd (k := 1) (by omega) w1 (by omega) (by omega)
  have e2 : ∀ q : Bs, inNum ⟨numB 1 f.kind.toNat ++ q, 0⟩ 1 = (f.kind, ⟨q, 0⟩) := fun q => inNum_fwd (k := 1) (by omega) w3 (by omega) (by omega)
  have e3 : ∀ q : Bs, inText ⟨txtB f.body ++ q, 0⟩ 2048 = (f.body, ⟨q, 0⟩) := fun q => by unfold txtB; rw [List.append_assoc]; exact inText_fwd (by omega) (by omega)
  have e4 : ∀ q : Bs, inNum ⟨numB 4 (fSum f).toNat ++ q, 0⟩ 4 = (fSum f, ⟨q, 0⟩) := fun q => inNum_fwd (k := 4) (by omega) hs.1 (by have := hs.2; simp only [fSum]; omega) (by omega)
  have fin : (inNum (inNum (inText (inNum (inNum ⟨(frB f).take k, 0⟩ 1).2 1).2 2048).2 4).2 1).2 = ⟨[], 3⟩ := by
    by_cases k0 : k = 0
    · subst k0
      rw [List.take_zero, show (1 : Int) = ((1 : Nat) : Int) from rfl, inNum_short (s := []) (k := 1) (by simp) (by omega)]
      simp only
      rw [num3]
      simp only
      rw [text3 (by omega)]
      simp only
      rw [num3, num3]
    · have q1 : (frB f).take k = numB 1 f.channel.toNat ++ (numB 1 f.kind.toNat ++ (txtB f.body ++ (numB 4 (fSum f).toNat ++ numB 1 206))).take (k - 1) := by
        unfold frB; rw [take_app (by rw [numB_len]; omega), numB_len]
      rw [q1, e1]
      simp only
      by_cases k1 : k = 1
      · subst k1
        rw [show (1 : Int) = ((1 : Nat) : Int) from rfl, List.take_zero, inNum_short (s := []) (k := 1) (by simp) (by omega)]
        simp only
        rw [text3 (by omega)]
        simp only
        rw [num3, num3]
      · rw [take_app (by rw [numB_len]; omega), numB_len, e2]
        simp only
        by_cases kt : k < f.body.length + 4
        · have ht : inText ⟨(txtB f.body ++ (numB 4 (fSum f).toNat ++ numB 1 206)).take (k - 1 - 1), 0⟩ ((2048 : Nat) : Int) = ([], ⟨[], 3⟩) := by
            refine inText_short (r := []) (n := f.body.length) (by omega) h (by rw [List.length_take]; omega) fun q hq he => ?_
            rw [List.length_take] at hq
            rw [he]
            have : (txtB f.body ++ (numB 4 (fSum f).toNat ++ numB 1 206)).take (k - 1 - 1) = numB 2 f.body.length ++ (f.body ++ (numB 4 (fSum f).toNat ++ numB 1 206)).take (k - 1 - 1 - 2) := by
              unfold txtB; rw [List.append_assoc, take_app (by rw [numB_len]; omega), numB_len]
            rw [this]
            have e2l : (numB 2 f.body.length).length = 2 := numB_len _ _
            rw [List.drop_append, e2l, Nat.sub_self, List.drop_zero, List.drop_of_length_le (by omega), List.nil_append]
          have ht' : inText ⟨(txtB f.body ++ (numB 4 (fSum f).toNat ++ numB 1 206)).take (k - 1 - 1), 0⟩ 2048 = ([], ⟨[], 3⟩) := ht
          rw [ht']
          simp only
          rw [num3, num3]
        · have tl : (txtB f.body).length = f.body.length + 2 := by simp [txtB, numB_len]; omega
          rw [take_app (by omega), tl, e3]
          simp only
          by_cases ks : k < f.body.length + 8
          · have : inNum ⟨(numB 4 (fSum f).toNat ++ numB 1 206).take (k - 1 - 1 - (f.body.length + 2)), 0⟩ ((4 : Nat) : Int) = (0, ⟨[], 3⟩) := inNum_short (by rw [List.length_take]; omega) (by omega)
            have t' : inNum ⟨(numB 4 (fSum f).toNat ++ numB 1 206).take (k - 1 - 1 - (f.body.length + 2)), 0⟩ 4 = (0, ⟨[], 3⟩) := this
            rw [t']
            simp only
            rw [num3]
          · rw [take_app (by rw [numB_len]; omega), numB_len, e4]
            simp only
            have : inNum ⟨(numB 1 206).take (k - 1 - 1 - (f.body.length + 2) - 4), 0⟩ ((1 : Nat) : Int) = (0, ⟨[], 3⟩) := inNum_short (by rw [List.length_take]; omega) (by omega)
            have t' : inNum ⟨(numB 1 206).take (k - 1 - 1 - (f.body.length + 2) - 4), 0⟩ 1 = (0, ⟨[], 3⟩) := this
            rw [t']
  unfold parseF
  simp only
  rw [fin]
  simp

/-! Feeds: the bytes of frames, in two pieces -/
def catB (fs : List Frame) : Bs := fs.flatMap frB
def okF (f : Frame) : Prop := f.wf ∧ f.body.length ≤ 2048
theorem feedGo_take : ∀ (fs : List Frame) (k fuel : Nat) (out : List Frame), (∀ f ∈ fs, okF f) → k ≤ (catB fs).length → k < fuel →
    ∃ j, ∃ r, feedGo fuel ((catB fs).take k) out = (⟨r, 0⟩, out ++ fs.take j) ∧ r ++ (catB fs).drop k = catB (fs.drop j) ∧ (k = (catB fs).length → j = fs.length ∧ r = [])
  | [], k, fuel + 1, out, _, hk, _ => by
    have : k = 0 := by simpa [catB] using hk
    subst this
    refine ⟨0, [], ?_, by simp [catB], fun _ => ⟨rfl, rfl⟩⟩
    have e : (parseF []).2.2 = 3 := by decide +kernel
    simp [catB, feedGo, e]
  | f :: fs, k, fuel + 1, out, hf, hk, hfu => by
    obtain ⟨hw, hb⟩ := hf f (by simp)
    have hl := frB_len f
    have ec : catB (f :: fs) = frB f ++ catB fs := by simp [catB]
    rw [ec]
    rw [ec, List.length_append] at hk
    by_cases hc : (frB f).length ≤ k
    · rw [take_app hc]
      simp only [feedGo]
      rw [parse_fwd hw hb]
      simp only [if_true]
      have ed : (frB f ++ (catB fs).take (k - (frB f).length)).drop (((frB f).length : Int)).toNat = (catB fs).take (k - (frB f).length) := by
        rw [Int.toNat_natCast]; simp
      rw [ed]
      obtain ⟨j, r, h1, h2, h3⟩ := feedGo_take fs (k - (frB f).length) fuel (out ++ [f]) (fun q hq => hf q (by simp [hq])) (by omega) (by omega)
      refine ⟨j + 1, r, by rw [h1]; simp, ?_, fun e => ?_⟩
      · rw [List.drop_append, List.drop_of_length_le hc, List.nil_append, h2]; rfl
      · rw [List.length_append] at e
        obtain ⟨q1, q2⟩ := h3 (by omega)
        exact ⟨by simp [q1], q2⟩
    · have hk' : k < (frB f).length := by omega
      rw [List.take_append_of_le_length (by omega)]
      simp only [feedGo]
      have h3 := parse_short hw hb hk'
      rw [h3]
      refine ⟨0, (frB f).take k, by simp, ?_, fun e => ?_⟩
      · rw [List.drop_append_of_le_length (by omega), ← List.append_assoc, List.take_append_drop]
        simp [catB]
      · rw [List.length_append] at e; omega
end Go.SW


namespace Go.SW

theorem RSt.raw0 {r : RIn} {i : In} {n : Int} (h : RSt r i) (hc : ¬ r.code = 0 ∨ n ≤ 0) : inRaw i n = ([], i) := by
  unfold inRaw
  rw [if_pos]
  rcases hc with q | q
  · exact .inl (by rw [h.err]; exact q)
  · exact .inr q
theorem RSt.raw3 {r : RIn} {i : In} {n : Int} (h : RSt r i) (hc : r.code = 0) (hn : ¬ n ≤ 0) (hl : (r.s.length : Int) - r.pos < n) : inRaw i n = ([], ⟨[], 3⟩) := by
  unfold inRaw
  have e : i.err = 0 := by rw [h.err, hc]
  have hs := h.ok hc
  have lo := h.lo
  have hi := h.hi
  rw [if_neg (by omega), if_pos (by rw [hs, List.length_drop]; omega)]
theorem RSt.rawS {r : RIn} {i : In} {n : Int} (h : RSt r i) (hc : r.code = 0) (hn : ¬ n ≤ 0) (hl : ¬ (r.s.length : Int) - r.pos < n) : inRaw i n = ((r.s.drop r.pos.toNat).take n.toNat, ⟨(r.s.drop r.pos.toNat).drop n.toNat, i.err⟩) ∧ RSt ⟨r.s, r.pos + n, r.code⟩ ⟨(r.s.drop r.pos.toNat).drop n.toNat, i.err⟩ := by
  have e : i.err = 0 := by rw [h.err, hc]
  have hs := h.ok hc
  have lo := h.lo
  have hi := h.hi
  constructor
  · unfold inRaw
    rw [if_neg (by omega), if_neg (by rw [hs, List.length_drop]; omega), hs]
  · refine ⟨by simp only; omega, by simp only; omega, h.len, by rw [e]; exact hc.symm, fun _ => ?_, fun q => absurd hc q⟩
    simp only [List.drop_drop]
    congr 1
    omega
theorem RSt.err3 {r : RIn} {i : In} (h : RSt r i) : RSt ⟨r.s, r.pos, 3⟩ ⟨[], 3⟩ :=
  { lo := h.lo, hi := h.hi, len := h.len, err := rfl, ok := fun q => by have q' : (3 : Int) = 0 := q; omega, bad := fun _ => rfl }
theorem RSt.end' {r : RIn} {i : In} (h : RSt r i) : inEnd i = if r.code = 0 ∧ r.pos < r.s.length then 4 else r.code := by
  unfold inEnd
  rw [h.err]
  by_cases hc : r.code = 0
  · have hs := h.ok hc
    have lo := h.lo
    have hi := h.hi
    rw [hs, List.length_drop]
    by_cases q : r.pos < r.s.length
    · rw [if_pos ⟨hc, by omega⟩, if_pos ⟨hc, q⟩]
    · rw [if_neg (by rintro ⟨_, z⟩; omega), if_neg (by rintro ⟨_, z⟩; exact q z)]
  · rw [if_neg (fun q => hc q.1), if_neg (fun q => hc q.1)]
theorem beN_step {l : Bs} {k : Nat} (hk : k < l.length) (h8 : l.length ≤ 8) : IntKind.u64.wrap (IntKind.u64.wrap ((beN (l.take k) : Int) * 256) + ((l.getD k 0).toNat : Int)) = ((beN (l.take (k + 1)) : Nat) : Int) := by
  have hc : l[k]? = some (l.getD k 0) := by rw [List.getD_eq_getElem?_getD, List.getElem?_eq_getElem hk]; rfl
  have hlt := beN_lt (l.take k)
  have hl : (l.take k).length ≤ k := List.length_take_le _ _
  have h2 : 256 ^ (l.take k).length ≤ 256 ^ 7 := Nat.pow_le_pow_right (by omega) (by omega)
  rw [beN_take hc]
  have hb := (l.getD k 0).toNat_lt
  generalize beN (l.take k) = z at *
  generalize (l.getD k 0).toNat = y at *
  simp [IntKind.wrap, IntKind.bits, IntKind.signed]
  omega
/-! Words by the document -/
theorem dots_none : ∀ {t : Bs}, (∀ c ∈ t, ¬ c = 46) → dots t = [t]
  | [], _ => rfl
  | c :: r, h => by
    have ih := dots_none (t := r) (fun x hx => h x (by simp [hx]))
    unfold dots
    rw [if_neg (h c (by simp)), ih]
theorem dots_at : ∀ {m : Nat} {t : Bs}, (∀ c ∈ t.take m, ¬ c = 46) → t[m]? = some 46 → dots t = t.take m :: dots (t.drop (m + 1))
  | 0, [], _, h => by simp at h
  | 0, c :: r, _, h => by
    have : c = 46 := by simpa using h
    subst this
    rfl
  | m + 1, [], _, h => by simp at h
  | m + 1, c :: r, hn, h => by
    have ih := dots_at (m := m) (t := r) (fun x hx => hn x (by simp [hx])) (by simpa using h)
    rw [dots, if_neg (hn c (by simp)), ih]
    rfl
/-- No dot from f on up to k. -/
def noDot (s : Bs) (f k : Nat) : Prop := ∀ j, f ≤ j → j < k → ¬ s.getD j 0 = 46
theorem noDot_mem {s : Bs} {f k : Nat} (h : noDot s f k) : ∀ c ∈ (s.drop f).take (k - f), ¬ c = 46 := fun c hc => by
  obtain ⟨j, hj, rfl⟩ := List.getElem_of_mem hc
  rw [List.length_take, List.length_drop] at hj
  have := h (f + j) (by omega) (by omega)
  rw [List.getElem_take, List.getElem_drop]
  rw [List.getD_eq_getElem?_getD, List.getElem?_eq_getElem (by omega)] at this
  exact this
theorem split_hit {s : Bs} {f k : Nat} {out : List Bs} (h : dots s = out ++ dots (s.drop f)) (hn : noDot s f k) (hf : f ≤ k) (hk : k < s.length) (hc : s.getD k 0 = 46) : dots s = (out ++ [(s.drop f).take (k - f)]) ++ dots (s.drop (k + 1)) := by
  rw [h]
  have hg : (s.drop f)[k - f]? = some 46 := by
    rw [List.getElem?_drop, show f + (k - f) = k by omega, List.getElem?_eq_getElem hk]
    rw [List.getD_eq_getElem?_getD, List.getElem?_eq_getElem hk] at hc
    exact congrArg some hc
  rw [dots_at (noDot_mem hn) hg, List.drop_drop, show f + (k - f + 1) = k + 1 by omega]
  simp
theorem split_end {s : Bs} {f k : Nat} {out : List Bs} (h : dots s = out ++ dots (s.drop f)) (hn : noDot s f k) (hk : s.length ≤ k) : dots s = out ++ [s.drop f] := by
  rw [h]
  have := noDot_mem hn
  rw [List.take_of_length_le (by rw [List.length_drop]; omega)] at this
  rw [dots_none this]
theorem noDot_step {s : Bs} {f k : Nat} (h : noDot s f k) (hc : ¬ s.getD k 0 = 46) : noDot s f (k + 1) := fun j h1 h2 => by
  by_cases e : j = k
  · subst e; exact hc
  · exact h j h1 (by omega)
theorem noDot_nil {s : Bs} {f : Nat} : noDot s f f := fun j h1 h2 => by omega
theorem byteEq {c : UInt8} {n : Nat} (hn : n < 256) (h : (c.toNat : Int) = n) : c = UInt8.ofNat n := by
  apply UInt8.toNat_inj.1
  rw [UInt8.toNat_ofNat']
  have : (2 : Nat) ^ 8 = 256 := rfl
  omega
theorem byteNe {c : UInt8} {n : Nat} (hn : n < 256) (h : ¬ (c.toNat : Int) = n) : ¬ c = UInt8.ofNat n := by
  rintro rfl
  rw [UInt8.toNat_ofNat'] at h
  have : (2 : Nat) ^ 8 = 256 := rfl
  omega
def besidesOf (pattern : Bool) : List Bs := if pattern = true then [[42], [35]] else []
theorem letter_all {s : Bs} {k : Nat} (hk : k < s.length) : (s.drop k).all (fun c => letter c.toNat) = (letter (s.getD k 0).toNat && (s.drop (k + 1)).all (fun c => letter c.toNat)) := by
  rw [drop_getD hk, List.all_cons]
end Go.SW


namespace Go.SW

theorem isBad_doc {p b : Bool} {w : Bs} (h : (decide ((w.length : Int) = 0) || !plain w) = b) : isBad (besidesOf p) w = (b && !(p && (decide (w = [42]) || decide (w = [35])))) := by
  subst h
  have e : (w == []) = decide ((w.length : Int) = 0) := by
    cases w with
    | nil => rfl
    | cons c r => simp; omega
  unfold isBad besidesOf
  rw [e]
  cases p
  · simp
  · simp [Bool.and_comm]
theorem numB_snoc : ∀ (k n : Nat), numB (k + 1) n = numB k (n / 256) ++ [UInt8.ofNat (n % 256)]
  | 0, n => by
    simp only [numB, Nat.pow_zero, Nat.div_one, List.nil_append, List.cons.injEq, and_true]
    apply UInt8.toNat_inj.1
    simp only [UInt8.toNat_ofNat']
    have : (2 : Nat) ^ 8 = 256 := rfl
    omega
  | k + 1, n => by
    have ih := numB_snoc k n
    have e : numB (k + 2) n = UInt8.ofNat (n / 256 ^ (k + 1)) :: numB (k + 1) n := rfl
    rw [e, ih]
    simp only [numB, List.cons_append]
    rw [Nat.div_div_eq_div_mul, Nat.pow_succ, Nat.mul_comm]
theorem numK_pred {b : Int} (h : 1 ≤ b) (h8 : b ≤ 8) : numK b = numK (b - 1) + 1 := by unfold numK; omega
theorem num_doc {n b : Int} (h0 : 0 ≤ n) (h : 1 ≤ b) (h8 : b ≤ 8) : numB (numK b) n.toNat = numB (numK (b - 1)) (n / 256).toNat ++ [UInt8.ofNat (n % 256).toNat] := by
  rw [numK_pred h h8, numB_snoc]
  have e1 : (n / 256).toNat = n.toNat / 256 := by omega
  have e2 : (n % 256).toNat = n.toNat % 256 := by omega
  rw [e1, e2]

theorem numK_le (b : Int) : numK b ≤ 8 := by unfold numK; omega
theorem txtB_len (s : Bs) : (txtB s).length = s.length + 2 := by simp [txtB, numB_len]; omega
def smallH (h : List Pair) : Prop := h.length ≤ 1000 ∧ ∀ p ∈ h, p.key.length ≤ 1000 ∧ p.text.length ≤ 1000
theorem smallH_light {h : List Pair} (e : lightH h = true) : smallH h := by
  simp only [lightH, Bool.and_eq_true, decide_eq_true_eq, List.all_eq_true, lightP] at e
  exact ⟨by omega, fun p hp => by have := e.2 p hp; omega⟩
theorem smallH_lightR {r : Reply} (e : lightR r = true) : smallH r.mail.head := by
  simp only [lightR, Bool.and_eq_true] at e
  exact smallH_light e.1.2
theorem pairB_len {p : Pair} (h : p.key.length ≤ 1000 ∧ p.text.length ≤ 1000) : (pairB p).length ≤ 2100 := by
  unfold pairB
  simp only [List.length_append, txtB, numB_len]
  split
  · rw [numB_len]; omega
  · split
    · simp only [List.length_append, numB_len]; omega
    · rw [numB_len]; omega
def r9B (h : List Pair) : Bs := numB 1 h.length ++ h.flatMap pairB

theorem replyE_doc (r : Reply) : replyE r = if 7 < r.kind then 8
    else if r.mail.id ≠ 0 ∨ r.mail.due ≠ 0 ∨ r.mail.hops ≠ 0 ∨ (r.n ≠ 0 ∧ ¬ (r.kind = 2 ∨ r.kind = 3 ∨ r.kind = 5 ∨ r.kind = 6 ∨ r.kind = 7)) ∨ (r.m ≠ 0 ∧ ¬ (r.kind = 3 ∨ r.kind = 6)) ∨ (r.name ≠ [] ∧ r.kind ≠ 0) then 4
    else if r.kind ≠ 3 then (if r.yes = true ∨ r.mail.shop ≠ [] ∨ r.mail.key ≠ [] ∨ (0 : Int) < r.mail.head.length ∨ r.mail.body ≠ [] then 4 else if r.kind = 0 then nameE r.name else 0)
    else mailE r.mail := by
  unfold replyE
  by_cases h7 : 7 < r.kind
  · rw [if_pos h7, if_pos h7]
  · rw [if_neg h7, if_neg h7]
    by_cases hs : spareR r = true
    · rw [if_pos hs]
      split
      · rfl
      · rename_i h1
        have e3 : r.kind ≠ 3 := by
          intro k3
          have n2 : ¬ ((r.name ≠ [] ∧ r.kind ≠ 0) ∨ (r.kind ≠ 3 ∧ (r.yes = true ∨ blankM r.mail = false))) := by
            rintro (q | q)
            · exact h1 (.inr (.inr (.inr (.inr (.inr q)))))
            · exact q.1 k3
          unfold spareR at hs
          rw [if_neg (by omega), if_neg n2, if_pos (.inl k3)] at hs
          cases hs
        rw [if_pos e3]
        split
        · rfl
        · rename_i h2
          exfalso
          unfold spareR at hs
          have hb : blankM r.mail = true := by
            have a1 : r.mail.shop = [] := Decidable.byContradiction fun q => h2 (.inr (.inl q))
            have a2 : r.mail.key = [] := Decidable.byContradiction fun q => h2 (.inr (.inr (.inl q)))
            have a4 : r.mail.body = [] := Decidable.byContradiction fun q => h2 (.inr (.inr (.inr (.inr q))))
            simp [blankM, a1, a2, a4]
            by_cases q : r.mail.head.length = 0
            · exact List.eq_nil_of_length_eq_zero q
            · exact absurd (.inr (.inr (.inr (.inl (by omega))))) h2
          have hy : ¬ r.yes = true := fun q => h2 (.inl q)
          have n2 : ¬ ((r.name ≠ [] ∧ r.kind ≠ 0) ∨ (r.kind ≠ 3 ∧ (r.yes = true ∨ blankM r.mail = false))) := by
            rintro (q | ⟨_, q | q⟩)
            · exact h1 (.inr (.inr (.inr (.inr (.inr q)))))
            · exact hy q
            · rw [hb] at q; cases q
          rw [if_neg (by omega), if_neg n2] at hs
          split at hs
          · cases hs
          · rename_i z1
            split at hs
            · have q : r.m ≠ 0 := by simpa using hs
              exact h1 (.inr (.inr (.inr (.inr (.inl ⟨q, z1⟩)))))
            · rename_i z2
              have q : r.n ≠ 0 ∨ r.m ≠ 0 := by simpa using hs
              rcases q with q | q
              · exact h1 (.inr (.inr (.inr (.inl ⟨q, by omega⟩))))
              · exact h1 (.inr (.inr (.inr (.inr (.inl ⟨q, z1⟩)))))
    · rw [if_neg hs]
      obtain ⟨a1, a2, a3, a4, a5⟩ := spareR_ok (by simpa using hs)
      have n1 : ¬ (r.mail.id ≠ 0 ∨ r.mail.due ≠ 0 ∨ r.mail.hops ≠ 0 ∨ (r.n ≠ 0 ∧ ¬ (r.kind = 2 ∨ r.kind = 3 ∨ r.kind = 5 ∨ r.kind = 6 ∨ r.kind = 7)) ∨ (r.m ≠ 0 ∧ ¬ (r.kind = 3 ∨ r.kind = 6)) ∨ (r.name ≠ [] ∧ r.kind ≠ 0)) := by
        rintro (q | q | q | ⟨q, z⟩ | ⟨q, z⟩ | ⟨q, z⟩)
        · exact q a1.1
        · exact q a1.2.1
        · exact q a1.2.2
        · exact q (a5 (by omega) (by omega))
        · exact q (a4 z)
        · exact q (a2 z)
      rw [if_neg n1]
      by_cases k3 : r.kind = 3
      · have k0 : ¬ r.kind = 0 := by omega
        have n3 : ¬ r.kind ≠ 3 := fun q => q k3
        rw [if_neg k0, if_pos k3, if_neg n3]
      · obtain ⟨b0, b1, b2, b3, b4⟩ := a3 k3
        have n4 : ¬ (r.yes = true ∨ r.mail.shop ≠ [] ∨ r.mail.key ≠ [] ∨ (0 : Int) < r.mail.head.length ∨ r.mail.body ≠ []) := by
          rw [b0, b1, b2, b3, b4]; simp
        have p3 : r.kind ≠ 3 := k3
        rw [if_pos p3, if_neg n4, if_neg k3]
theorem pairErr_doc (p : Pair) (ahead : List Pair) : pairErr p ahead = if nameE p.key ≠ 0 then nameE p.key else if 2 < p.kind then 8 else if p.kind = 1 ∧ (64 : Int) < p.text.length then 5 else if p.kind = 2 ∧ (p.num < 0 ∨ 1 < p.num) then 7 else if p.kind = 1 ∧ p.num ≠ 0 ∨ p.kind ≠ 1 ∧ p.text ≠ [] then 4 else if (findP ahead p.key).isSome then 9 else 0 := by
  unfold pairErr
  have e : (p.kind = 2 ∧ p.num ≠ 0 ∧ p.num ≠ 1) ↔ (p.kind = 2 ∧ (p.num < 0 ∨ 1 < p.num)) := by omega
  simp only [e]
end Go.SW


namespace Go.SW

theorem wr_i64 (z : Int) : -9223372036854775808 ≤ IntKind.wrap .i64 z ∧ IntKind.wrap .i64 z ≤ 9223372036854775807 := by
  simp only [IntKind.wrap, IntKind.bits, IntKind.signed]
  simp
  omega
theorem wr_i32 (z : Int) : -2147483648 ≤ IntKind.wrap .i32 z ∧ IntKind.wrap .i32 z ≤ 2147483647 := by
  simp only [IntKind.wrap, IntKind.bits, IntKind.signed]
  simp
  omega
theorem readOne_wf (i : In) : (readOne i).1.wf := by
  have h1 := inText_len i 16
  have h2 := inNum_r (inText i 16).2 1
  have h3 := inText_len (inNum (inText i 16).2 1).2 64
  have h4 := wr_i64 (inNum (inNum (inText i 16).2 1).2 8).1
  have h5 := wr_i64 (inNum (inNum (inText i 16).2 1).2 1).1
  unfold readOne
  simp only
  repeat' split
  all_goals simp only [Pair.wf]
  all_goals refine ⟨by omega, by omega, by omega, ?_⟩
  all_goals first | omega | (simp; done)
theorem readGo_len : ∀ (k : Nat) (i : In) (h : List Pair), (readGo k i h).1.length ≤ h.length + k
  | 0, i, h => by simp [readGo]
  | k + 1, i, h => by
    simp only [readGo]
    generalize (if (readOne i).2.err = 0 then inFail (readOne i).2 (pairErr (readOne i).1 h) else (readOne i).2) = j
    by_cases e : j.err = 0
    · rw [if_neg (by simpa using e)]
      have := readGo_len k j (h ++ [(readOne i).1])
      simp at this; omega
    · rw [if_pos e]; simp
theorem headRead_len (i : In) : (headRead i).1.length ≤ 255 := by
  have := readGo_len (inNum i 1).1.toNat (if 8 < (inNum i 1).1 then inFail (inNum i 1).2 6 else (inNum i 1).2) []
  have hr := inNum_r i 1
  unfold headRead; simp at this; omega
theorem readOne_bad {i : In} (h : i.err ≠ 0) : (readOne i).2 = i := by
  unfold readOne
  obtain ⟨a1, a2⟩ := inText_bad h 16
  rw [if_neg (by omega)] at a2
  simp only
  rw [a2, inNum_bad h]
  simp only [if_true]
  rw [inNum_bad h]
theorem readGo_bad {i : In} (h : i.err ≠ 0) : ∀ k, readGo k i [] = ([], i)
  | 0 => rfl
  | k + 1 => by
    simp only [readGo]
    rw [readOne_bad h, if_neg h, if_pos h]
theorem readGo_step {k : Nat} {i : In} {h : List Pair} {p : Pair} {q : In} (e : readOne i = (p, q)) : readGo (k + 1) i h = if (if q.err = 0 then inFail q (pairErr p h) else q).err ≠ 0 then ([], if q.err = 0 then inFail q (pairErr p h) else q) else readGo k (if q.err = 0 then inFail q (pairErr p h) else q) (h ++ [p]) := by
  simp only [readGo]; rw [e]
theorem readGo_ok {k : Nat} {i : In} {h : List Pair} {p : Pair} {q : In} (e : readOne i = (p, q)) (hq : q.err = 0) (hz : (inFail q (pairErr p h)).err = 0) : readGo (k + 1) i h = readGo k (inFail q (pairErr p h)) (h ++ [p]) := by
  rw [readGo_step e]; simp only [if_pos hq]; rw [if_neg (by simpa using hz)]
theorem readGo_er1 {k : Nat} {i : In} {h : List Pair} {p : Pair} {q : In} (e : readOne i = (p, q)) (hq : q.err = 0) (hz : ¬ (inFail q (pairErr p h)).err = 0) : readGo (k + 1) i h = ([], inFail q (pairErr p h)) := by
  rw [readGo_step e]; simp only [if_pos hq]; rw [if_pos hz]
theorem readGo_er0 {k : Nat} {i : In} {h : List Pair} {p : Pair} {q : In} (e : readOne i = (p, q)) (hq : ¬ q.err = 0) : readGo (k + 1) i h = ([], q) := by
  rw [readGo_step e]; simp only [if_neg hq]; rw [if_pos hq]
theorem replyRead_wf {c k : Int} {i : In} (hc : 0 ≤ c ∧ c ≤ 255) (hk : 0 ≤ k ∧ k ≤ 255) : (replyRead c k i).1.wf := by
  have n8 := inNum_r i 8
  have m8 := inNum_r (inNum i 8).2 8
  have t := inText_len i 16
  have e0 : ∀ (a b : Int) (y : Bool) (s : Bs), 0 ≤ a ∧ a ≤ 18446744073709551615 → 0 ≤ b ∧ b ≤ 18446744073709551615 → (s.length : Int) ≤ 65535 → Reply.wf ⟨c, k, a, b, y, s, Mail.zero⟩ := fun a b y s h1 h2 h3 => by
    simp only [Reply.wf, Mail.wf, Mail.zero]
    refine ⟨hc, hk, h1, h2, by omega, by omega, by omega, by omega, by simp, by simp, by simp, by simp⟩
  unfold replyRead
  repeat' split
  · exact e0 _ _ _ _ (by omega) (by omega) t
  · exact e0 _ _ _ _ (by omega) (by omega) (by simp)
  · exact e0 _ _ _ _ (by omega) (by omega) (by simp)
  · unfold sentRead
    simp only [Reply.wf, Mail.wf]
    have a1 := inText_len (if 1 < (inNum (inNum (inNum i 8).2 8).2 1).1 then inFail (inNum (inNum (inNum i 8).2 8).2 1).2 4 else (inNum (inNum (inNum i 8).2 8).2 1).2) 16
    generalize inText (if 1 < (inNum (inNum (inNum i 8).2 8).2 1).1 then inFail (inNum (inNum (inNum i 8).2 8).2 1).2 4 else (inNum (inNum (inNum i 8).2 8).2 1).2) 16 = s at *
    have a2 := inText_len s.2 64
    generalize inText s.2 64 = z at *
    have a3 := headRead_len z.2
    generalize headRead z.2 = hd at *
    have a4 := inText_len hd.2 256
    refine ⟨hc, hk, by omega, by omega, by simp, by omega, by omega, by omega, by omega, by omega, by omega, by omega⟩
  · exact e0 _ _ _ _ (by omega) (by omega) (by simp)
theorem replyOf_wf {f : Frame} (hw : f.wf) : (replyOf f).1.wf := by
  obtain ⟨w1, w2, _⟩ := hw
  by_cases h : (replyOf f).2 = 0
  · obtain ⟨k1, k2, _, _, e⟩ := replyOf_ok h
    rw [e]
    exact replyRead_wf w1 (by omega)
  · have e : (replyOf f).1 = Reply.zero := by
      by_cases q : f.kind < 64 ∨ 71 < f.kind
      · simp only [replyOf, if_pos q]
      · simp only [replyOf, if_neg q] at h ⊢
        generalize (if inEnd (replyRead f.channel (f.kind - 64) ⟨f.body, 0⟩).2 = 0 then replyE (replyRead f.channel (f.kind - 64) ⟨f.body, 0⟩).1 else inEnd (replyRead f.channel (f.kind - 64) ⟨f.body, 0⟩).2) = z at *
        by_cases hz : z = 0
        · rw [if_neg (by simpa using hz)] at h; exact absurd rfl h
        · rw [if_pos hz]
    rw [e]
    simp [Reply.zero, Mail.zero, Reply.wf, Mail.wf]
theorem replyRead_len (c k : Int) (i : In) : (replyRead c k i).1.mail.head.length ≤ 255 := by
  unfold replyRead
  repeat' split
  · simp [Mail.zero]
  · simp [Mail.zero]
  · simp [Mail.zero]
  · exact headRead_len _
  · simp [Mail.zero]
theorem replyOf_cases (f : Frame) : (replyOf f).1 = Reply.zero ∨ (replyOf f).1 = (replyRead f.channel (f.kind - 64) ⟨f.body, 0⟩).1 := by
  by_cases q : f.kind < 64 ∨ 71 < f.kind
  · left; simp only [replyOf, if_pos q]
  · simp only [replyOf, if_neg q]
    generalize (if inEnd (replyRead f.channel (f.kind - 64) ⟨f.body, 0⟩).2 = 0 then replyE (replyRead f.channel (f.kind - 64) ⟨f.body, 0⟩).1 else inEnd (replyRead f.channel (f.kind - 64) ⟨f.body, 0⟩).2) = z
    by_cases hz : z = 0
    · right; rw [if_neg (by simpa using hz)]
    · left; rw [if_pos hz]
theorem replyOf_len (f : Frame) : (replyOf f).1.mail.head.length ≤ 255 := by
  rcases replyOf_cases f with e | e
  · rw [e]; simp [Reply.zero, Mail.zero]
  · rw [e]; exact replyRead_len _ _ _
theorem replyOf_err (f : Frame) : True := trivial
theorem replyOut_le {r : Reply} (h : replyE r = 0) : (replyOut r).s.length ≤ 5000 := by
  have hl := replyE_len r h
  have hb := headBytes_len r.mail.head
  by_cases k0 : r.kind = 0
  · rw [replyOut_0 k0 (by omega), txtB_len]; omega
  · by_cases k2 : r.kind = 2 ∨ r.kind = 5 ∨ r.kind = 7
    · rw [replyOut_n k2, numB_len]; omega
    · by_cases k6 : r.kind = 6
      · rw [replyOut_6 k6, List.length_append, numB_len, numB_len]; omega
      · by_cases k3 : r.kind = 3
        · rw [replyOut_3 k3 (by omega) (by omega) (by omega)]
          simp only [sentB, List.length_append, numB_len, txtB_len]
          omega
        · rw [replyOut_e k0 k2 (by omega)]; simp
theorem replyFrame_wf {r : Reply} (hw : r.wf) : (replyFrame r).wf := by
  unfold replyFrame
  by_cases h : replyE r = 0
  · rw [if_pos h]
    have := replyOut_le h
    have := wr_u8 (64 + r.kind)
    simp only [Frame.wf]
    exact ⟨hw.1, by omega, by omega⟩
  · rw [if_neg h]; simp [Frame.wf, Frame.zero]
theorem slh_kind {k : Nat} {H : Hp} {sv : Value} {xs : List Pair} (h : SlH pairE k H sv xs) : ∀ p ∈ xs, 0 ≤ p.kind := fun p hp => (slh_wf h p hp).1.1
theorem headBytes_r9 {r : Reply} (h : replyE r = 0) (k3 : r.kind = 3) (h0 : ∀ p ∈ r.mail.head, 0 ≤ p.kind) : headBytes r.mail.head = r9B r.mail.head := by
  have hE : headE r.mail.head = 0 := by
    unfold replyE at h
    split at h
    · cases h
    · split at h
      · cases h
      · first
          | exact (mailE_ok h).2.2.1
          | (rw [if_neg (by omega), if_pos k3] at h; exact (mailE_ok h).2.2.1)
          | (rw [if_neg (by omega)] at h; exact (mailE_ok h).2.2.1)
  rw [headBytes_s hE h0]; rfl
theorem r9B_len {h : List Pair} (hs : smallH h) : (r9B h).length ≤ 1 + 2100 * h.length := by
  have key : ∀ l : List Pair, (∀ p ∈ l, p.key.length ≤ 1000 ∧ p.text.length ≤ 1000) → (l.flatMap pairB).length ≤ 2100 * l.length := by
    intro l
    induction l with
    | nil => intro _; simp
    | cons p r ih =>
      intro hp
      have a := ih (fun q hq => hp q (by simp [hq]))
      have b := pairB_len (hp p (by simp))
      simp only [List.flatMap_cons, List.length_append, List.length_cons]; omega
  have := key h hs.2
  unfold r9B
  rw [List.length_append, numB_len]; omega
end Go.SW


namespace Go.SW
open Go.RowKit
variable {P : Program} {n : Nat} {N : Rest} {F : Fr} {H : Hp} {L : Ls} {ops : List Oper} {ty d : Nat} {pos : String} {af : Array Edge} {K : Fr → Hp → Ls → Prop} {x : Operand} {T : TypeId}

abbrev itr (s : Bs) (p : Nat) : Obj := .stringIter ⟨s.toArray⟩ p
theorem op1_range {s : Bs} (i : Nat) (hd : Nat.blt d n = true) (hx : ev F x = str s) (hT : P.underlying T = some .string) (k : ∀ b, K (upd F d (.pointer (some ⟨b, 0, none⟩))) H (lupd L i (some (b, itr s 0)))) : Op1 P n N ops ⟨some d, .range T x, ty, pos, af, none⟩ K F H L := by
  intro a w ha hm
  rw [if_pos (by simp [Region.wanted])]
  unfold Oper.wp
  have : (execOp a.eval ⟨some d, .range T x, ty, pos, af, none⟩).run P w = .ok (.value (.pointer (some ⟨w.heap.size, 0, none⟩))) { w with heap := w.heap.push (itr s 0) } := by
    rw [ha.eval]
    have e := run_range_string (P := P) w T ⟨s.toArray⟩ hT
    simp only [execOp, hx]
    have hs : str s = .string ⟨s.toArray⟩ := rfl
    rw [hs]
    simp only [Sem.run_bind, e, Result.andThen]
    rfl
  rw [this]
  exact ⟨_, H, _, ha.put (by simpa using hd) _, hm.push i _, k _⟩

theorem decode_plain {s : Bs} {p : Nat} (hp : p < s.length) (h : (s.getD p 0).toNat < 128) : Utf8.decode ⟨s.toArray⟩ p = ((s.getD p 0).toNat, 1) := by
  have e : (ByteArray.mk s.toArray).get! p = s.getD p 0 := by
    simp [ByteArray.get!, List.getD_eq_getElem?_getD, hp]
  unfold Utf8.decode
  simp only [Nat.add_zero, e]
  rw [if_pos (by omega)]

theorem op1_next_more {s : Bs} {p b : Nat} (i : Nat) (hd : Nat.blt d n = true) (hx : ev F x = .pointer (some ⟨b, 0, none⟩)) (hi : L i = some (b, itr s p)) (hp : p < s.length) (ha : (s.getD p 0).toNat < 128)
    (k : K (upd F d (.tuple #[.bool true, .int .i64 p, .int .i32 ((s.getD p 0).toNat : Int)])) H (lupd L i (some (b, itr s (p + 1))))) : Op1 P n N ops ⟨some d, .next x true, ty, pos, af, none⟩ K F H L := by
  intro a w haa hm
  rw [if_pos (by simp [Region.wanted])]
  unfold Oper.wp
  have hb := hm.l i b _ hi
  have hlt : b < w.heap.size := by
    by_cases q : b < w.heap.size
    · exact q
    · rw [Array.getElem?_eq_none (by omega)] at hb; cases hb
  have : (execOp a.eval ⟨some d, .next x true, ty, pos, af, none⟩).run P w = .ok (.value (.tuple #[.bool true, .int .i64 p, .int .i32 ((s.getD p 0).toNat : Int)])) { w with heap := w.heap.set b (itr s (p + 1)) hlt } := by
    rw [haa.eval]
    have hsz : p < (ByteArray.mk s.toArray).size := by simpa [ByteArray.size] using hp
    have e := Lib.run_next_any_at (P := P) w b ⟨s.toArray⟩ p ty hb hsz
    rw [decode_plain hp ha] at e
    simp only [execOp, hx]
    simp [e, World.iterAt, itr, Array.setIfInBounds, hlt]
  rw [this]
  refine ⟨_, H, _, haa.put (by simpa using hd) _, hm.set hi rfl rfl rfl ?_ (fun c o hne ho => ?_), k⟩
  · simp
  · simp [Array.getElem?_set, Ne.symm hne, ho]
theorem op1_next_end {s : Bs} {p b : Nat} (i : Nat) (hd : Nat.blt d n = true) (hx : ev F x = .pointer (some ⟨b, 0, none⟩)) (hi : L i = some (b, itr s p)) (hp : s.length ≤ p)
    (k : K (upd F d (.tuple #[.bool false])) H L) : Op1 P n N ops ⟨some d, .next x true, ty, pos, af, none⟩ K F H L := by
  intro a w haa hm
  rw [if_pos (by simp [Region.wanted])]
  unfold Oper.wp
  have hb := hm.l i b _ hi
  have : (execOp a.eval ⟨some d, .next x true, ty, pos, af, none⟩).run P w = .ok (.value (.tuple #[.bool false])) w := by
    rw [haa.eval]
    have hsz : ¬ p < (ByteArray.mk s.toArray).size := by simpa [ByteArray.size] using hp
    have e := Lib.run_next_end_at (P := P) w b ⟨s.toArray⟩ p ty hb hsz
    simp only [execOp, hx]
    simp [e]
  rw [this]
  exact ⟨_, H, _, haa.put (by simpa using hd) _, hm, k⟩

/-- A library call that only makes new blocks reads. -/
theorem pr_below {f : FuncId} {args : Array Value} {v : Value} (h : ∀ w, Calls P f args w fun e w' => e = .returned v ∧ Below w.heap.size w w') : Pr P f args H v := by
  intro N L w hm
  refine (h w).mono fun e w' ⟨he, hb⟩ => ⟨he, ?_⟩
  refine hm.of_same hb.os hb.tape hb.output fun c o ho => ?_
  rw [hb.block c (by by_cases q : c < w.heap.size; exact q; rw [Array.getElem?_eq_none (by omega)] at ho; cases ho)]
  exact ho

/-- A package variable holds texts. -/
def GStrs (H : Hp) (g : Nat) (xs : List Bs) : Prop := ∃ T fr, H g = some (.cells (xs.map str).toArray T fr)
theorem GStrs.mono {H H' : Hp} {g : Nat} {xs : List Bs} (h : GStrs H g xs) (hl : HLe H H') : GStrs H' g xs := by
  obtain ⟨T, fr, e⟩ := h; exact ⟨T, fr, hl _ _ e⟩
theorem strs_get {xs : List Bs} {m : Nat} (h : m < xs.length) : (xs.map str).toArray[m * 1]? = some (str (xs.getD m [])) := by
  simp [List.getD_eq_getElem?_getD, h]

/-- Two ways through a region meet again: what stands behind is walked once. -/
def joinK (S : List Nat) (F : Fr) (H : Hp) (L : Ls) (live : Fr → Fr) : Qt := fun e F' H' L' => e = .normal ∧ H' = H ∧ L' = L ∧ F' = live (mask S F' F)
theorem cw_seq_join {x y : Code} {Q : Qt} (S : List Nat) (live : Fr → Fr) (h : Cw P n N x (joinK S F H L live) F H L) (k : ∀ J, Cw P n N y Q (live (mask S J F)) H L) : Cw P n N (.seq x y) Q F H L := by
  refine cw_seq fun a w ha hm => wp_mono (h a w ha hm) fun e a' w' q => ?_
  obtain ⟨F', H', L', ha', hm', rfl, rfl, rfl, hf⟩ := q
  refine ⟨F', _, _, ha', hm', ?_⟩
  have := k F'
  rw [← hf] at this
  exact this
end Go.SW


namespace Go.SW

/-! What is told, by kind -/
def tellsT : List Bs := [[110], [], [], [65, 110, 120], [65], [65, 110, 109, 120], [65], [65, 79, 112, 104, 121], [65, 79, 112, 104, 121], [65, 79, 112, 104, 121], [65, 79, 112, 104, 121], [65, 107, 104, 109, 98], [110], [65, 110], [110], [65], [110, 109, 121], [], [], [], []]
abbrev tellsOf (k : Int) : Bs := tellsT.getD k.toNat []
theorem tells_mem (k : Int) : tellsOf k = [] ∨ tellsOf k ∈ tellsT := by
  unfold tellsOf
  rw [List.getD_eq_getElem?_getD]
  rcases h : tellsT[k.toNat]? with _ | s
  · exact .inl rfl
  · exact .inr (List.mem_of_getElem? h)
theorem tells_plain (k : Int) : ∀ c ∈ tellsOf k, c.toNat < 128 := by
  rcases tells_mem k with h | h
  · rw [h]; intro c hc; cases hc
  · exact (by decide : ∀ s ∈ tellsT, ∀ c ∈ s, c.toNat < 128) _ h
theorem tells_len (k : Int) : (tellsOf k).length ≤ 5 := by
  rcases tells_mem k with h | h
  · rw [h]; decide
  · exact (by decide : ∀ s ∈ tellsT, s.length ≤ 5) _ h
theorem tells_at (k : Int) (p : Nat) (h : p < (tellsOf k).length) : ((tellsOf k).getD p 0).toNat < 128 := by
  rw [List.getD_eq_getElem?_getD, List.getElem?_eq_getElem h]
  exact tells_plain k _ (List.getElem_mem h)

def hasAny (s cs : Bs) : Bool := s.any cs.contains
theorem containsAny_eq (s cs : Bs) : Lib.containsAny s cs = hasAny s cs := by
  unfold Lib.containsAny hasAny
  induction s with
  | nil => rfl
  | cons b l ih =>
    rw [List.any_cons, ← ih]
    have hg := Lib.indexAny_ge cs l
    have e0 : Lib.indexAny (b :: l) cs = if cs.contains b then 0 else if Lib.indexAny l cs == -1 then -1 else Lib.indexAny l cs + 1 := rfl
    rw [e0]
    by_cases h : cs.contains b = true
    · rw [if_pos h, h, Bool.true_or]; rfl
    · have h' : cs.contains b = false := by simpa using h
      rw [if_neg h, h', Bool.false_or]
      by_cases e : Lib.indexAny l cs = -1
      · rw [e]; rfl
      · have e' : (Lib.indexAny l cs == -1) = false := by simpa using e
        rw [e']
        simp only [Bool.false_eq_true, if_false]
        have a : (0 : Int) ≤ Lib.indexAny l cs + 1 := by omega
        have b : (0 : Int) ≤ Lib.indexAny l cs := by omega
        rw [decide_eq_true a, decide_eq_true b]

/-! Layer 10 -/
structure Rule where
  sort : Int
  key : Bs
  want : List Pair
  all : Bool
deriving DecidableEq
def Rule.cells (r : Rule) (a : Option Addr) (c : Nat) : List Value := [.int .u8 r.sort, str r.key, .slice a r.want.length c, .bool r.all]
def Rule.wf (r : Rule) : Prop := (0 ≤ r.sort ∧ r.sort ≤ 255) ∧ r.key.length ≤ 9223372036854775807 ∧ r.want.length ≤ 9223372036854775807
theorem Rule.eq_iff {a b : Rule} : a = b ↔ a.sort = b.sort ∧ a.key = b.key ∧ a.want = b.want ∧ a.all = b.all := by
  cases a; cases b; simp
def patB : List Bs := [[42], [35]]
def ruleE (r : Rule) : Int :=
  if 3 < r.sort then 8
  else if r.sort = 0 then (if keyE [] r.key ≠ 0 then keyE [] r.key else headE r.want)
  else if keyE patB r.key ≠ 0 then keyE patB r.key else headE r.want
def hasP (h : List Pair) (p : Pair) : Bool := (findP h p.key).isSome && decide ((findP h p.key).getD Pair.zero = p)
def headsGo (all : Bool) (h : List Pair) : List Pair → Bool
  | [] => all
  | p :: l => if hasP h p then (if all then headsGo all h l else true) else if all then false else headsGo all h l
def goesR (r : Rule) (key : Bs) (h : List Pair) : Bool :=
  if r.sort = 0 then decide (key = r.key) else if r.sort = 2 then mt (wordsOf r.key) (wordsOf key) else if r.sort = 3 then headsGo r.all h r.want else true

/-! Layer 11 -/
structure Method where
  channel : Int
  kind : Int
  name : Bs
  other : Bs
  key : Bs
  head : List Pair
  body : Bs
  n : Int
  m : Int
  yes : Bool
deriving DecidableEq
def Method.cells (m : Method) (a : Option Addr) (c : Nat) : List Value := [.int .u8 m.channel, .int .u8 m.kind, str m.name, str m.other, str m.key, .slice a m.head.length c, str m.body, .int .u64 m.n, .int .u64 m.m, .bool m.yes]
def Method.wf (m : Method) : Prop := (0 ≤ m.channel ∧ m.channel ≤ 255) ∧ (0 ≤ m.kind ∧ m.kind ≤ 255) ∧ (0 ≤ m.n ∧ m.n ≤ 18446744073709551615) ∧ (0 ≤ m.m ∧ m.m ≤ 18446744073709551615) ∧ m.name.length ≤ 9223372036854775807 ∧ m.other.length ≤ 9223372036854775807 ∧ m.key.length ≤ 9223372036854775807 ∧ m.head.length ≤ 9223372036854775807 ∧ m.body.length ≤ 9223372036854775807
theorem Method.eq_iff {a b : Method} : a = b ↔ a.channel = b.channel ∧ a.kind = b.kind ∧ a.name = b.name ∧ a.other = b.other ∧ a.key = b.key ∧ a.head = b.head ∧ a.body = b.body ∧ a.n = b.n ∧ a.m = b.m ∧ a.yes = b.yes := by
  cases a; cases b; simp
def hasK (m : Method) (cs : Bs) : Bool := hasAny (tellsOf m.kind) cs
def spareMt (m : Method) : Bool :=
  !decide (m.name = []) && !hasK m [65] || !decide (m.other = []) && !hasK m [79, 120] || !decide (m.key = []) && !hasK m [107, 112] ||
  decide ((0 : Int) < m.head.length) && !hasK m [104] || !decide (m.body = []) && !hasK m [98] ||
  !decide (m.n = 0) && !hasK m [110] || !decide (m.m = 0) && !hasK m [109] || m.yes && !hasK m [121]
def oneE (m : Method) (c : Int) : Int :=
  if c = 65 then nameE m.name
  else if c = 120 then (if m.other = [] then 0 else nameE m.other)
  else if c = 79 then nameE m.other
  else if c = 107 then keyE [] m.key
  else if c = 112 then keyE patB m.key
  else if c = 104 then headE m.head
  else if c = 98 then (if (256 : Int) < m.body.length then 5 else 0)
  else 0
def ckGo (m : Method) : Bs → Int
  | [] => 0
  | c :: l => if oneE m (c.toNat : Int) ≠ 0 then oneE m (c.toNat : Int) else ckGo m l
def methodE (m : Method) : Int := if 20 < m.kind then 8 else if spareMt m then 4 else ckGo m (tellsOf m.kind)
theorem headGo_r : ∀ (l a : List Pair), 0 ≤ headGo a l ∧ headGo a l ≤ 15
  | [], a => by simp [headGo]
  | p :: l, a => by
    have h1 := pairErr_r p a
    have h2 := headGo_r l (a ++ [p])
    simp only [headGo]
    split <;> omega
theorem headE_r (h : List Pair) : 0 ≤ headE h ∧ headE h ≤ 15 := by
  have := headGo_r h []
  unfold headE
  split <;> omega
theorem oneE_r (m : Method) (c : Int) : 0 ≤ oneE m c ∧ oneE m c ≤ 15 := by
  have h1 := nameE_r m.name
  have h2 := nameE_r m.other
  have h3 : 0 ≤ keyE [] m.key ∧ keyE [] m.key ≤ 15 := by unfold keyE; repeat' split <;> omega
  have h4 : 0 ≤ keyE patB m.key ∧ keyE patB m.key ≤ 15 := by unfold keyE; repeat' split <;> omega
  have h5 := headE_r m.head
  unfold oneE
  repeat' split
  all_goals omega
theorem ckGo_r (m : Method) : ∀ l, 0 ≤ ckGo m l ∧ ckGo m l ≤ 15
  | [] => by simp [ckGo]
  | c :: l => by
    have := ckGo_r m l
    have := oneE_r m (c.toNat : Int)
    simp only [ckGo]
    split <;> omega
theorem methodE_r (m : Method) : 0 ≤ methodE m ∧ methodE m ≤ 15 := by
  have := ckGo_r m (tellsOf m.kind)
  unfold methodE
  repeat' split
  all_goals omega
theorem methodE_kind {m : Method} (h : methodE m = 0) : m.kind ≤ 20 := by
  unfold methodE at h
  split at h
  · cases h
  · omega
theorem ckGo_all {m : Method} : ∀ {l : Bs}, ckGo m l = 0 → ∀ c ∈ l, oneE m (c.toNat : Int) = 0
  | [], _, _, hc => by cases hc
  | d :: l, h, c, hc => by
    simp only [ckGo] at h
    split at h
    · omega
    · rcases List.mem_cons.1 hc with rfl | hc
      · omega
      · exact ckGo_all h c hc
theorem methodE_at {m : Method} (h : methodE m = 0) {p : Nat} (hp : p < (tellsOf m.kind).length) : oneE m (((tellsOf m.kind).getD p 0).toNat : Int) = 0 := by
  have hc : ckGo m (tellsOf m.kind) = 0 := by
    unfold methodE at h
    split at h
    · cases h
    · split at h
      · cases h
      · exact h
  rw [List.getD_eq_getElem?_getD, List.getElem?_eq_getElem hp]
  exact ckGo_all hc _ (List.getElem_mem hp)
theorem oneE_len {m : Method} {c : Int} (h : oneE m c = 0) : (c = 65 → m.name.length ≤ 256) ∧ (c = 120 ∨ c = 79 → m.other.length ≤ 256) ∧ (c = 107 ∨ c = 112 → m.key.length ≤ 256) ∧ (c = 98 → m.body.length ≤ 256) := by
  refine ⟨fun e => ?_, fun e => ?_, fun e => ?_, fun e => ?_⟩
  · subst e
    have := nameE_ok (s := m.name) (by simpa [oneE] using h)
    omega
  · rcases e with rfl | rfl
    · simp [oneE] at h
      by_cases e : m.other = []
      · rw [e]; simp
      · have := nameE_ok (s := m.other) (h e); omega
    · have := nameE_ok (s := m.other) (by simpa [oneE] using h); omega
  · rcases e with rfl | rfl
    · have := keyE_ok (b := []) (s := m.key) (by simpa [oneE] using h); omega
    · have := keyE_ok (b := patB) (s := m.key) (by simpa [oneE] using h); omega
  · subst e
    simp [oneE] at h
    omega
def mOut1 (m : Method) (o : Out) (c : Int) : Out :=
  if c = 65 then outText o m.name
  else if c = 120 ∨ c = 79 then outText o m.other
  else if c = 107 ∨ c = 112 then outText o m.key
  else if c = 104 then outRaw o (headBytes m.head)
  else if c = 98 then outText o m.body
  else if c = 110 then outNum o m.n 8
  else if c = 109 then outNum o m.m 8
  else if c = 121 then outNum o (if m.yes = true then 1 else 0) 1
  else o
theorem mOut1_len {m : Method} {o : Out} {c : Int} (h : oneE m c = 0) : (mOut1 m o c).s.length ≤ o.s.length + 1000 := by
  obtain ⟨h1, h2, h3, h4⟩ := oneE_len h
  have a1 := outText_len o m.name
  have a2 := outText_len o m.other
  have a3 := outText_len o m.key
  have a4 := outText_len o m.body
  have a5 := outRaw_len o (headBytes m.head)
  have a6 := headBytes_len m.head
  have a7 := outNum_len o m.n 8
  have a8 := outNum_len o m.m 8
  have a9 := outNum_len o 1 1
  have a10 := outNum_len o 0 1
  unfold mOut1
  repeat' split
  all_goals omega
def mOutGo (m : Method) (o : Out) (l : Bs) : Out := l.foldl (fun o c => mOut1 m o (c.toNat : Int)) o
def methodFrame (m : Method) : Frame := if methodE m = 0 then ⟨m.channel, m.kind, (mOutGo m ⟨[], 0⟩ (tellsOf m.kind)).s⟩ else Frame.zero
theorem mOutGo_len {m : Method} : ∀ (l : Bs) (o : Out), (∀ c ∈ l, oneE m (c.toNat : Int) = 0) → (mOutGo m o l).s.length ≤ o.s.length + 1000 * l.length
  | [], o, _ => by simp [mOutGo]
  | c :: l, o, h => by
    have a := mOut1_len (o := o) (h c (List.mem_cons_self ..))
    have b := mOutGo_len l (mOut1 m o (c.toNat : Int)) (fun x hx => h x (List.mem_cons_of_mem _ hx))
    simp only [mOutGo, List.foldl_cons, List.length_cons] at *
    omega
theorem methodFrame_len (m : Method) : (methodFrame m).body.length ≤ 5000 := by
  unfold methodFrame
  split
  · rename_i h
    have hl := tells_len m.kind
    have := mOutGo_len (m := m) (tellsOf m.kind) ⟨[], 0⟩ (fun c hc => by
      obtain ⟨p, hp, rfl⟩ := List.getElem_of_mem hc
      have := methodE_at h hp
      rwa [List.getD_eq_getElem?_getD, List.getElem?_eq_getElem hp] at this)
    have h0 : (⟨[], 0⟩ : Out).s.length = 0 := rfl
    have : 1000 * (tellsOf m.kind).length ≤ 5000 := by omega
    show (mOutGo m ⟨[], 0⟩ (tellsOf m.kind)).s.length ≤ 5000
    omega
  · simp [Frame.zero]
theorem methodFrame_wf {m : Method} (w : m.wf) : (methodFrame m).wf := by
  have hl := methodFrame_len m
  obtain ⟨h1, h2, _⟩ := w
  unfold methodFrame at *
  split
  · rename_i h
    rw [if_pos h] at hl
    exact ⟨h1, h2, by simp at *; omega⟩
  · simp [Frame.zero, Frame.wf]

def lightMt (m : Method) : Bool := decide (max (m.name.length : Int) (m.other.length : Int) ≤ 40) && decide ((m.key.length : Int) ≤ 100) && lightH m.head && decide ((m.body.length : Int) ≤ 300)
theorem lightMt_len (m : Method) (e : lightMt m = true) : m.name.length ≤ 40 ∧ m.other.length ≤ 40 ∧ m.key.length ≤ 100 ∧ m.head.length ≤ 12 ∧ m.body.length ≤ 300 := by
  simp only [lightMt, Bool.and_eq_true, decide_eq_true_eq] at e
  obtain ⟨⟨⟨h1, h3⟩, h4⟩, h5⟩ := e
  have := lightH_len _ h4
  omega
end Go.SW


namespace Go.Proofs
open Go.Shelf
def Tryd.lays150_ren : Go.Shelf.Ren := ⟨fun | 150 => 128 | 153 => 140 | 152 => 154 | 226 => 155 | 227 => 156 | 228 => 157 | 137 => 168 | 119 => 169 | 224 => 170 | 225 => 171 | 217 => 174 | 266 => 176 | n => n, fun | 9 => 9 | 4 => 4 | 3 => 3 | 5 => 5 | 21 => 21 | 117 => 181 | 116 => 180 | 0 => 0 | 46 => 119 | 124 => 196 | n => n, fun | n => n⟩
theorem Tryd.lays150 : Go.Proofs.Lays.n150 Tryd.prog Tryd.lays150_ren := {
  mixed := by kernel_rfl
  f119 := Tryd.func169.trans (congrArg some (by kernel_rfl))
  f137 := Tryd.func168.trans (congrArg some (by kernel_rfl))
  f150 := Tryd.func128.trans (congrArg some (by kernel_rfl))
  f152 := Tryd.func154.trans (congrArg some (by kernel_rfl))
  f153 := Tryd.func140.trans (congrArg some (by kernel_rfl))
  f217 := Tryd.func174.trans (congrArg some (by kernel_rfl))
  f224 := Tryd.func170.trans (congrArg some (by kernel_rfl))
  f225 := Tryd.func171.trans (congrArg some (by kernel_rfl))
  f226 := Tryd.func155.trans (congrArg some (by kernel_rfl))
  f227 := Tryd.func156.trans (congrArg some (by kernel_rfl))
  f228 := Tryd.func157.trans (congrArg some (by kernel_rfl))
  f266 := Tryd.func176.trans (congrArg some (by kernel_rfl))
  t0 := Tryd.underlying0
  a0 := Tryd.isAgg0
  z0 := Tryd.sizeOf0
  v0 := Tryd.zeroValue0
  t3 := Tryd.underlying3
  a3 := Tryd.isAgg3
  z3 := Tryd.sizeOf3
  v3 := Tryd.zeroValue3
  t4 := Tryd.underlying4
  a4 := Tryd.isAgg4
  z4 := Tryd.sizeOf4
  v4 := Tryd.zeroValue4
  t5 := Tryd.underlying5
  a5 := Tryd.isAgg5
  z5 := Tryd.sizeOf5
  v5 := Tryd.zeroValue5
  t9 := Tryd.underlying9
  a9 := Tryd.isAgg9
  z9 := Tryd.sizeOf9
  v9 := Tryd.zeroValue9
  t21 := Tryd.underlying21
  a21 := Tryd.isAgg21
  z21 := Tryd.sizeOf21
  v21 := Tryd.zeroValue21
  t46 := Tryd.underlying119
  a46 := Tryd.isAgg119
  z46 := Tryd.sizeOf119
  v46 := Tryd.zeroValue119
  t116 := Tryd.underlying180
  a116 := Tryd.isAgg180
  z116 := Tryd.sizeOf180
  t117 := Tryd.underlying181
  a117 := Tryd.isAgg181
  z117 := Tryd.sizeOf181
  v117 := Tryd.zeroValue181
  t124 := Tryd.underlying196
  a124 := Tryd.isAgg196
  z124 := Tryd.sizeOf196
  v124 := Tryd.zeroValue196 }
open Go.RowKit Go.Lib in
theorem Tryd.strings_ContainsAny_laid (s chars : ByteArray) (w : World) (hs : s.size < 4294967281) (hcs : chars.size < 4294967281) (has : ∀ (j : Nat) b, s.data.toList[j]? = some b → b.toNat < 128) (hac : ∀ (j : Nat) b, chars.data.toList[j]? = some b → b.toNat < 128) :
    Calls Tryd.prog 128 #[.string s, .string chars] w fun e w' => e = .returned (.bool (Lib.containsAny s.data.toList chars.data.toList)) ∧ Below w.heap.size w w' := Any.strings_ContainsAny_laid Tryd.lays150 (by kernel_rfl) s chars w hs hcs has hac
end Go.Proofs
namespace Go.SW
open Go.Proofs
theorem strings_ContainsAny (H : Hp) (s cs : Bs) (hs : s.length < 4294967281) (hc : cs.length < 4294967281) (ha : ∀ c ∈ s, c.toNat < 128) (hb : ∀ c ∈ cs, c.toNat < 128) : Pr Tryd.prog 128 #[str s, str cs] H (.bool (hasAny s cs)) := by
  refine pr_below fun w => ?_
  rw [← containsAny_eq]
  exact Tryd.strings_ContainsAny_laid ⟨s.toArray⟩ ⟨cs.toArray⟩ w (by simpa [ByteArray.size] using hs) (by simpa [ByteArray.size] using hc) (fun j b h => ha b (List.mem_of_getElem? h)) (fun j b h => hb b (List.mem_of_getElem? h))
end Go.SW


namespace Go.Proofs
open Go.Shelf
def Tryd.lays146_ren : Go.Shelf.Ren := ⟨fun | 146 => 127 | 221 => 139 | 268 => 151 | 138 => 152 | 143 => 153 | 195 => 164 | 197 => 165 | 218 => 166 | 219 => 167 | 260 => 173 | 217 => 174 | 225 => 171 | 224 => 170 | 267 => 175 | 266 => 176 | 314 => 177 | n => n, fun | 9 => 9 | 31 => 108 | 3 => 3 | 4 => 4 | 0 => 0 | 105 => 191 | 21 => 21 | 5 => 5 | 46 => 119 | 119 => 198 | 139 => 201 | 138 => 200 | 146 => 202 | 51 => 135 | n => n, fun | 1 => 2 | 3 => 3 | 4 => 4 | n => n⟩
theorem Tryd.lays146 : Go.Proofs.Lays.n146 Tryd.prog Tryd.lays146_ren := {
  mixed := by kernel_rfl
  f138 := Tryd.func152.trans (congrArg some (by kernel_rfl))
  f143 := Tryd.func153.trans (congrArg some (by kernel_rfl))
  f146 := Tryd.func127.trans (congrArg some (by kernel_rfl))
  f195 := Tryd.func164.trans (congrArg some (by kernel_rfl))
  f197 := Tryd.func165.trans (congrArg some (by kernel_rfl))
  f217 := Tryd.func174.trans (congrArg some (by kernel_rfl))
  f218 := Tryd.func166.trans (congrArg some (by kernel_rfl))
  f219 := Tryd.func167.trans (congrArg some (by kernel_rfl))
  f221 := Tryd.func139.trans (congrArg some (by kernel_rfl))
  f224 := Tryd.func170.trans (congrArg some (by kernel_rfl))
  f225 := Tryd.func171.trans (congrArg some (by kernel_rfl))
  f260 := Tryd.func173.trans (congrArg some (by kernel_rfl))
  f266 := Tryd.func176.trans (congrArg some (by kernel_rfl))
  f267 := Tryd.func175.trans (congrArg some (by kernel_rfl))
  f268 := Tryd.func151.trans (congrArg some (by kernel_rfl))
  f314 := Tryd.func177.trans (congrArg some (by kernel_rfl))
  t0 := Tryd.underlying0
  a0 := Tryd.isAgg0
  z0 := Tryd.sizeOf0
  v0 := Tryd.zeroValue0
  t3 := Tryd.underlying3
  a3 := Tryd.isAgg3
  z3 := Tryd.sizeOf3
  v3 := Tryd.zeroValue3
  t4 := Tryd.underlying4
  a4 := Tryd.isAgg4
  z4 := Tryd.sizeOf4
  v4 := Tryd.zeroValue4
  t5 := Tryd.underlying5
  a5 := Tryd.isAgg5
  z5 := Tryd.sizeOf5
  v5 := Tryd.zeroValue5
  t9 := Tryd.underlying9
  a9 := Tryd.isAgg9
  z9 := Tryd.sizeOf9
  v9 := Tryd.zeroValue9
  t21 := Tryd.underlying21
  a21 := Tryd.isAgg21
  z21 := Tryd.sizeOf21
  v21 := Tryd.zeroValue21
  t31 := Tryd.underlying108
  a31 := Tryd.isAgg108
  z31 := Tryd.sizeOf108
  v31 := Tryd.zeroValue108
  t46 := Tryd.underlying119
  a46 := Tryd.isAgg119
  z46 := Tryd.sizeOf119
  v46 := Tryd.zeroValue119
  t51 := Tryd.underlying135
  a51 := Tryd.isAgg135
  z51 := Tryd.sizeOf135
  v51 := Tryd.zeroValue135
  t105 := Tryd.underlying191
  a105 := Tryd.isAgg191
  z105 := Tryd.sizeOf191
  v105 := Tryd.zeroValue191
  t119 := Tryd.underlying198
  a119 := Tryd.isAgg198
  z119 := Tryd.sizeOf198
  t138 := Tryd.underlying200
  a138 := Tryd.isAgg200
  z138 := Tryd.sizeOf200
  v138 := Tryd.zeroValue200
  t139 := Tryd.underlying201
  a139 := Tryd.isAgg201
  z139 := Tryd.sizeOf201
  v139 := Tryd.zeroValue201
  t146 := Tryd.underlying202
  a146 := Tryd.isAgg202
  z146 := Tryd.sizeOf202
  v146 := Tryd.zeroValue202
  g1 := by kernel_rfl
  g3 := by kernel_rfl
  g4 := by kernel_rfl }
open Go.RowKit Go.Lib in
theorem Tryd.strings_Split (s sep : ByteArray) (m : Int) (w : World) (hs : s.size < 4294967281) (hm : w.cell? ⟨2, 0, none⟩ = some (.int .i64 m)) (h1 : 1 ≤ sep.size) :
    Calls Tryd.prog 127 #[.string s, .string sep] w fun e w' =>
      e = .returned (.slice (some ⟨w.heap.size, 0, none⟩) (Lib.countB s sep + 1) (Lib.countB s sep + 1)) ∧ w' = w.alloc (.cells ((Lib.splitB sep 0 (Lib.countB s sep) s).map Value.string).toArray 9) := Any.strings_Split Tryd.lays146 (by kernel_rfl) s sep m w hs hm h1
end Go.Proofs
namespace Go.SW
open Go.Proofs
theorem strings_Split (H : Hp) (s p : Bs) (hp : p = [46]) (hML : GInt H 2) (hs : s.length < 4294967281) : Ph Tryd.prog 127 #[str s, str p] H (fun v H' => ∃ (a : Option Addr) (c : Nat), v = .slice a (dots s).length c ∧ SlH strE 1 H' (.slice a (dots s).length c) (dots s)) := by
  subst hp
  refine ph_strs (T := 9) (fun w hw => by have := dots_piece s w hw; omega) fun N L w hm => ?_
  obtain ⟨m, hc⟩ := hML.cell hm
  refine (Tryd.strings_Split ⟨s.toArray⟩ ⟨#[46]⟩ m w (by simpa [ba_size] using hs) hc (by decide)).mono fun e w' ⟨he, hw⟩ => ⟨?_, ?_⟩
  · rw [he, splitB_len]
  · rw [hw, splitB_dots]
end Go.SW


set_option linter.unusedVariables false
set_option maxRecDepth 100000
set_option maxHeartbeats 4000000
namespace Go.SW
open Go.Proofs
theorem ag100 : Ag Tryd.prog 100 false := fun w => by kernel_rfl
theorem ag36 : Ag Tryd.prog 36 false := fun w => by kernel_rfl
theorem ag9 : Ag Tryd.prog 9 false := fun w => by kernel_rfl
theorem bd95_0s (a1 : Bs) (w : World) : (Instr.build 95 #[(0, str a1)]).run Tryd.prog w = .ok (.agg #[str a1, .int .i64 0]) w := by kernel_rfl
theorem cb70 : Callable Tryd.prog 70 := callable_of Tryd.func70 (by kernel_rfl) (by kernel_rfl)
theorem cb97 : Callable Tryd.prog 97 := callable_of Tryd.func97 (by kernel_rfl) (by kernel_rfl)
theorem fl103_0 : Fld Tryd.prog 103 0 0 := fun b o w => by kernel_rfl
theorem fl95_0 : Fld Tryd.prog 95 0 0 := fun b o w => by kernel_rfl
theorem fl95_1 : Fld Tryd.prog 95 1 1 := fun b o w => by kernel_rfl
theorem la103_103 : liesAt Tryd.prog Tryd.prog.depth 103 (2 / Tryd.prog.cellsOf 103) 0 103 1 = true := by kernel_rfl
theorem ne112 : NoEsc Tryd.prog 112 := noEsc_of Tryd.func112 (by kernel_rfl) (by kernel_rfl) (by kernel_rfl) (by kernel_rfl)
theorem sz100 : Sz Tryd.prog 100 1 := fun w => by kernel_rfl
theorem sz36 : Sz Tryd.prog 36 1 := fun w => by kernel_rfl
theorem sz9 : Sz Tryd.prog 9 1 := fun w => by kernel_rfl
theorem ti103 : ∃ j, Tryd.prog.info? 103 = some j := Option.isSome_iff_exists.1 (by kernel_rfl)
theorem tz103 : ∃ j, Tryd.prog.info? 103 = some j ∧ j.size ≠ 0 := exInfo (by kernel_rfl)

theorem words_plain (H : Hp) (s : Bs) (hs : s.length ≤ 9223372036854775807) : Pr Tryd.prog 82 #[str s] H (.bool (plain s)) := by
  refine pr_cw Tryd.func82 rfl Tryd.ntmps82 rfl (fun N => ?_)
  refine cw_seq ?_
  refine cw_region ?_
  refine ow1 (op1_l rfl (lo_assign (v := .bool _) rfl) ?_)
  refine ow_nil ?_
  refine seqK_n ?_
  refine cw_seq ?_
  refine cw_seq ?_
  refine cw_region ?_
  refine ow1 (op1_l rfl (lo_move (v := str _) rfl) ?_)
  refine ow1 (op1_l rfl (lo_len_str rfl Tryd.underlying9) ?_)
  refine ow1 (op1_l rfl (lo_move (v := .int _ _) rfl) ?_)
  refine ow_nil ?_
  refine seqK_n ?_
  refine cw_block ?_
  refine cw_loop1 [2, 3, 4, 7, 8, 9, 10, 11, 12, 13, 14, 15, 16, 17, 18, 19, 20, 21, 22, 23, 24, 25, 26, 27, 28, 29, 30] [] (fun (k : Nat) G => upd (G) 7 (.int .i64 (k : Int))) (fun (k : Nat) G => G) (fun (k : Nat) H' => k ≤ s.length ∧ (s.drop k).all (fun c => letter c.toNat) = plain s) (fun (k : Nat) => s.length - k) 0 (upd_intro (mask_intro (by first | exact off_refl | (repeat (first | exact off_mask | refine off_upd rfl ?_ | refine off_mask2 rfl ?_)))) rfl) (lmask_intro offl_refl) ?_ ?_
  · exact ⟨by omega, rfl⟩
  · intro k J2 JL2 H2 hp1 hl2
    obtain ⟨hk1, hk2⟩ := hp1
    refine cw_seq ?_
    refine cw_region ?_
    refine ow1 (op1_l rfl (lo_lss rfl rfl) ?_)
    refine ow_nil ?_
    refine seqK_n ?_
    refine cw_seq ?_
    refine cw_cond rfl (fun h3 => ?_) (fun h3 => ?_)
    · have p4 := dt h3
      refine cw_skip ?_
      refine seqK_n ?_
      refine cw_seq ?_
      refine cw_block ?_
      refine cw_seq ?_
      refine cw_region ?_
      refine ow1 (op1_l rfl (lo_move (v := .int _ _) rfl) ?_)
      refine ow1 (op1_l rfl (lo_assign (v := .int _ _) rfl) ?_)
      refine ow_nil ?_
      refine seqK_n ?_
      refine cw_seq ?_
      refine cw_region ?_
      refine ow1 (op1_l rfl (lo_move (v := str _) rfl) ?_)
      refine ow1 (op1_l rfl (lo_move (v := .int _ _) rfl) ?_)
      have := u8r (s.getD k 0)
      refine ow1 (op1_l rfl (lo_index_str k rfl rfl Tryd.underlying9 (by omega) (by omega)) ?_)
      refine ow1 (op1_l rfl (lo_assign (v := .int _ _) rfl) ?_)
      refine ow_nil ?_
      refine seqK_n ?_
      refine cw_block ?_
      refine cw_seq ?_
      refine cw_seq ?_
      refine cw_region ?_
      refine ow1 (op1_l rfl (lo_move (v := .int _ _) rfl) ?_)
      refine ow1 (op1_l rfl (lo_geq rfl rfl) ?_)
      refine ow1 (op1_l rfl (lo_move (v := .bool _) rfl) ?_)
      refine ow_sp (j := 2) rfl (fun h5 => ?_) (fun h5 => ?_)
      · have p6 := dt h5
        refine ow1 (op1_g rfl h5 rfl (lo_move (v := .int _ _) rfl) ?_)
        refine ow1 (op1_g rfl h5 rfl (lo_leq rfl rfl) ?_)
        refine ow1 (op1_l rfl (lo_pick_t (v := .bool _) rfl h5 rfl) ?_)
        refine ow1 (op1_l rfl (lo_assign (v := .bool _) rfl) ?_)
        refine ow_nil ?_
        refine seqK_n ?_
        refine cw_cond rfl (fun h7 => ?_) (fun h7 => ?_)
        · have p8 := dt h7
          refine cw_skip ?_
          refine seqK_n ?_
          refine cw_cond_t rfl h7 ?_
          refine cw_skip ?_
          refine blkK_n ?_
          refine blkK_n ?_
          refine seqK_n ?_
          refine cw_region ?_
          refine ow1 (op1_l rfl (lo_add rfl rfl (rg_i64 (by omega))) ?_)
          refine ow1 (op1_l rfl (lo_move (v := .int _ _) rfl) ?_)
          refine ow_nil ?_
          refine next1 (k + 1) (upd_intro (mask_intro (by first | exact off_refl | (repeat (first | exact off_mask | refine off_upd rfl ?_ | refine off_mask2 rfl ?_)))) rfl) (lmask_intro (by first | exact offl_refl | (repeat (first | exact offl_mask | refine offl_upd rfl ?_ | refine offl_mask2 rfl ?_)))) hl2 ?_ ?_
          · exact ⟨by omega, by rw [← hk2, drop_getD (k := k) (by omega), List.all_cons]; generalize ((s.getD k 0).toNat : Int) = z at *; simp [letter, *]⟩
          · omega
        · have p9 := df h7
          refine cw_seq ?_
          refine cw_region ?_
          refine ow1 (op1_l rfl (lo_move (v := .int _ _) rfl) ?_)
          refine ow1 (op1_l rfl (lo_geq rfl rfl) ?_)
          refine ow1 (op1_l rfl (lo_move (v := .bool _) rfl) ?_)
          refine ow_sp (j := 2) rfl (fun h10 => ?_) (fun h10 => ?_)
          · have p11 := dt h10
            refine ow1 (op1_g rfl h10 rfl (lo_move (v := .int _ _) rfl) ?_)
            refine ow1 (op1_g rfl h10 rfl (lo_leq rfl rfl) ?_)
            refine ow1 (op1_l rfl (lo_pick_t (v := .bool _) rfl h10 rfl) ?_)
            refine ow1 (op1_l rfl (lo_assign (v := .bool _) rfl) ?_)
            refine ow_nil ?_
            refine seqK_n ?_
            refine cw_cond rfl (fun h12 => ?_) (fun h12 => ?_)
            · have p13 := dt h12
              refine cw_skip ?_
              refine seqK_n ?_
              refine cw_cond_t rfl h12 ?_
              refine cw_skip ?_
              refine blkK_n ?_
              refine blkK_n ?_
              refine seqK_n ?_
              refine cw_region ?_
              refine ow1 (op1_l rfl (lo_add rfl rfl (rg_i64 (by omega))) ?_)
              refine ow1 (op1_l rfl (lo_move (v := .int _ _) rfl) ?_)
              refine ow_nil ?_
              refine next1 (k + 1) (upd_intro (mask_intro (by first | exact off_refl | (repeat (first | exact off_mask | refine off_upd rfl ?_ | refine off_mask2 rfl ?_)))) rfl) (lmask_intro (by first | exact offl_refl | (repeat (first | exact offl_mask | refine offl_upd rfl ?_ | refine offl_mask2 rfl ?_)))) hl2 ?_ ?_
              · exact ⟨by omega, by rw [← hk2, drop_getD (k := k) (by omega), List.all_cons]; generalize ((s.getD k 0).toNat : Int) = z at *; simp [letter, *]⟩
              · omega
            · have p14 := df h12
              refine cw_seq ?_
              refine cw_region ?_
              refine ow1 (op1_l rfl (lo_move (v := .int _ _) rfl) ?_)
              refine ow1 (op1_l rfl (lo_eql rfl rfl) ?_)
              refine ow1 (op1_l rfl (lo_assign (v := .bool _) rfl) ?_)
              refine ow_nil ?_
              refine seqK_n ?_
              refine cw_cond rfl (fun h15 => ?_) (fun h15 => ?_)
              · have p16 := dt h15
                refine cw_skip ?_
                refine seqK_n ?_
                refine cw_cond_t rfl h15 ?_
                refine cw_skip ?_
                refine blkK_n ?_
                refine blkK_n ?_
                refine seqK_n ?_
                refine cw_region ?_
                refine ow1 (op1_l rfl (lo_add rfl rfl (rg_i64 (by omega))) ?_)
                refine ow1 (op1_l rfl (lo_move (v := .int _ _) rfl) ?_)
                refine ow_nil ?_
                refine next1 (k + 1) (upd_intro (mask_intro (by first | exact off_refl | (repeat (first | exact off_mask | refine off_upd rfl ?_ | refine off_mask2 rfl ?_)))) rfl) (lmask_intro (by first | exact offl_refl | (repeat (first | exact offl_mask | refine offl_upd rfl ?_ | refine offl_mask2 rfl ?_)))) hl2 ?_ ?_
                · exact ⟨by omega, by rw [← hk2, drop_getD (k := k) (by omega), List.all_cons]; generalize ((s.getD k 0).toNat : Int) = z at *; simp [letter, *]⟩
                · omega
              · have p17 := df h15
                refine cw_region ?_
                refine ow1 (op1_l rfl (lo_move (v := .int _ _) rfl) ?_)
                refine ow1 (op1_l rfl (lo_eql rfl rfl) ?_)
                refine ow1 (op1_l rfl (lo_assign (v := .bool _) rfl) ?_)
                refine ow_nil ?_
                refine seqK_n ?_
                refine cw_cond rfl (fun h18 => ?_) (fun h18 => ?_)
                · have p19 := dt h18
                  refine cw_skip ?_
                  refine blkK_n ?_
                  refine blkK_n ?_
                  refine seqK_n ?_
                  refine cw_region ?_
                  refine ow1 (op1_l rfl (lo_add rfl rfl (rg_i64 (by omega))) ?_)
                  refine ow1 (op1_l rfl (lo_move (v := .int _ _) rfl) ?_)
                  refine ow_nil ?_
                  refine next1 (k + 1) (upd_intro (mask_intro (by first | exact off_refl | (repeat (first | exact off_mask | refine off_upd rfl ?_ | refine off_mask2 rfl ?_)))) rfl) (lmask_intro (by first | exact offl_refl | (repeat (first | exact offl_mask | refine offl_upd rfl ?_ | refine offl_mask2 rfl ?_)))) hl2 ?_ ?_
                  · exact ⟨by omega, by rw [← hk2, drop_getD (k := k) (by omega), List.all_cons]; generalize ((s.getD k 0).toNat : Int) = z at *; simp [letter, *]⟩
                  · omega
                · have p20 := df h18
                  refine cw_seq ?_
                  refine cw_region ?_
                  refine ow1 (op1_l rfl (lo_assign (v := .bool _) rfl) ?_)
                  refine ow_nil ?_
                  refine seqK_n ?_
                  refine cw_ret ?_
                  refine blkK_r ?_
                  refine blkK_r ?_
                  refine seqK_r ?_
                  refine loopK_r ?_
                  refine blkK_r ?_
                  refine seqK_r ?_
                  refine fnK_r (res1 rfl (rv_t (v := .bool _) rfl)) ((HLe.refl _).trans hl2) ?_
                  first | (rw [← hk2, drop_getD (k := k) (by omega), List.all_cons]; generalize ((s.getD k 0).toNat : Int) = z at *; simp [letter, *]; done) | (rw [← hk2, List.drop_of_length_le (by omega)]; rfl)
          · have p21 := df h10
            refine ow1 (op1_gs rfl h10 rfl ?_)
            refine ow1 (op1_gs rfl h10 rfl ?_)
            refine ow1 (op1_l rfl (lo_pick_f (v := .bool _) rfl h10 rfl) ?_)
            refine ow1 (op1_l rfl (lo_assign (v := .bool _) rfl) ?_)
            refine ow_nil ?_
            refine seqK_n ?_
            refine cw_cond_f rfl rfl ?_
            refine cw_seq ?_
            refine cw_region ?_
            refine ow1 (op1_l rfl (lo_move (v := .int _ _) rfl) ?_)
            refine ow1 (op1_l rfl (lo_eql rfl rfl) ?_)
            refine ow1 (op1_l rfl (lo_assign (v := .bool _) rfl) ?_)
            refine ow_nil ?_
            refine seqK_n ?_
            refine cw_cond rfl (fun h22 => ?_) (fun h22 => ?_)
            · have p23 := dt h22
              refine cw_skip ?_
              refine seqK_n ?_
              refine cw_cond_t rfl h22 ?_
              refine cw_skip ?_
              refine blkK_n ?_
              refine blkK_n ?_
              refine seqK_n ?_
              refine cw_region ?_
              refine ow1 (op1_l rfl (lo_add rfl rfl (rg_i64 (by omega))) ?_)
              refine ow1 (op1_l rfl (lo_move (v := .int _ _) rfl) ?_)
              refine ow_nil ?_
              refine next1 (k + 1) (upd_intro (mask_intro (by first | exact off_refl | (repeat (first | exact off_mask | refine off_upd rfl ?_ | refine off_mask2 rfl ?_)))) rfl) (lmask_intro (by first | exact offl_refl | (repeat (first | exact offl_mask | refine offl_upd rfl ?_ | refine offl_mask2 rfl ?_)))) hl2 ?_ ?_
              · exact ⟨by omega, by rw [← hk2, drop_getD (k := k) (by omega), List.all_cons]; generalize ((s.getD k 0).toNat : Int) = z at *; simp [letter, *]⟩
              · omega
            · have p24 := df h22
              refine cw_region ?_
              refine ow1 (op1_l rfl (lo_move (v := .int _ _) rfl) ?_)
              refine ow1 (op1_l rfl (lo_eql rfl rfl) ?_)
              refine ow1 (op1_l rfl (lo_assign (v := .bool _) rfl) ?_)
              refine ow_nil ?_
              refine seqK_n ?_
              refine cw_cond rfl (fun h25 => ?_) (fun h25 => ?_)
              · have p26 := dt h25
                refine cw_skip ?_
                refine blkK_n ?_
                refine blkK_n ?_
                refine seqK_n ?_
                refine cw_region ?_
                refine ow1 (op1_l rfl (lo_add rfl rfl (rg_i64 (by omega))) ?_)
                refine ow1 (op1_l rfl (lo_move (v := .int _ _) rfl) ?_)
                refine ow_nil ?_
                refine next1 (k + 1) (upd_intro (mask_intro (by first | exact off_refl | (repeat (first | exact off_mask | refine off_upd rfl ?_ | refine off_mask2 rfl ?_)))) rfl) (lmask_intro (by first | exact offl_refl | (repeat (first | exact offl_mask | refine offl_upd rfl ?_ | refine offl_mask2 rfl ?_)))) hl2 ?_ ?_
                · exact ⟨by omega, by rw [← hk2, drop_getD (k := k) (by omega), List.all_cons]; generalize ((s.getD k 0).toNat : Int) = z at *; simp [letter, *]⟩
                · omega
              · have p27 := df h25
                refine cw_seq ?_
                refine cw_region ?_
                refine ow1 (op1_l rfl (lo_assign (v := .bool _) rfl) ?_)
                refine ow_nil ?_
                refine seqK_n ?_
                refine cw_ret ?_
                refine blkK_r ?_
                refine blkK_r ?_
                refine seqK_r ?_
                refine loopK_r ?_
                refine blkK_r ?_
                refine seqK_r ?_
                refine fnK_r (res1 rfl (rv_t (v := .bool _) rfl)) ((HLe.refl _).trans hl2) ?_
                first | (rw [← hk2, drop_getD (k := k) (by omega), List.all_cons]; generalize ((s.getD k 0).toNat : Int) = z at *; simp [letter, *]; done) | (rw [← hk2, List.drop_of_length_le (by omega)]; rfl)
      · have p28 := df h5
        refine ow1 (op1_gs rfl h5 rfl ?_)
        refine ow1 (op1_gs rfl h5 rfl ?_)
        refine ow1 (op1_l rfl (lo_pick_f (v := .bool _) rfl h5 rfl) ?_)
        refine ow1 (op1_l rfl (lo_assign (v := .bool _) rfl) ?_)
        refine ow_nil ?_
        refine seqK_n ?_
        refine cw_cond_f rfl rfl ?_
        refine cw_seq ?_
        refine cw_region ?_
        refine ow1 (op1_l rfl (lo_move (v := .int _ _) rfl) ?_)
        refine ow1 (op1_l rfl (lo_geq rfl rfl) ?_)
        refine ow1 (op1_l rfl (lo_move (v := .bool _) rfl) ?_)
        refine ow_sp (j := 2) rfl (fun h29 => ?_) (fun h29 => ?_)
        · have p30 := dt h29
          refine ow1 (op1_g rfl h29 rfl (lo_move (v := .int _ _) rfl) ?_)
          refine ow1 (op1_g rfl h29 rfl (lo_leq rfl rfl) ?_)
          refine ow1 (op1_l rfl (lo_pick_t (v := .bool _) rfl h29 rfl) ?_)
          refine ow1 (op1_l rfl (lo_assign (v := .bool _) rfl) ?_)
          refine ow_nil ?_
          refine seqK_n ?_
          refine cw_cond rfl (fun h31 => ?_) (fun h31 => ?_)
          · have p32 := dt h31
            refine cw_skip ?_
            refine seqK_n ?_
            refine cw_cond_t rfl h31 ?_
            refine cw_skip ?_
            refine blkK_n ?_
            refine blkK_n ?_
            refine seqK_n ?_
            refine cw_region ?_
            refine ow1 (op1_l rfl (lo_add rfl rfl (rg_i64 (by omega))) ?_)
            refine ow1 (op1_l rfl (lo_move (v := .int _ _) rfl) ?_)
            refine ow_nil ?_
            refine next1 (k + 1) (upd_intro (mask_intro (by first | exact off_refl | (repeat (first | exact off_mask | refine off_upd rfl ?_ | refine off_mask2 rfl ?_)))) rfl) (lmask_intro (by first | exact offl_refl | (repeat (first | exact offl_mask | refine offl_upd rfl ?_ | refine offl_mask2 rfl ?_)))) hl2 ?_ ?_
            · exact ⟨by omega, by rw [← hk2, drop_getD (k := k) (by omega), List.all_cons]; generalize ((s.getD k 0).toNat : Int) = z at *; simp [letter, *]⟩
            · omega
          · have p33 := df h31
            refine cw_seq ?_
            refine cw_region ?_
            refine ow1 (op1_l rfl (lo_move (v := .int _ _) rfl) ?_)
            refine ow1 (op1_l rfl (lo_eql rfl rfl) ?_)
            refine ow1 (op1_l rfl (lo_assign (v := .bool _) rfl) ?_)
            refine ow_nil ?_
            refine seqK_n ?_
            refine cw_cond rfl (fun h34 => ?_) (fun h34 => ?_)
            · have p35 := dt h34
              refine cw_skip ?_
              refine seqK_n ?_
              refine cw_cond_t rfl h34 ?_
              refine cw_skip ?_
              refine blkK_n ?_
              refine blkK_n ?_
              refine seqK_n ?_
              refine cw_region ?_
              refine ow1 (op1_l rfl (lo_add rfl rfl (rg_i64 (by omega))) ?_)
              refine ow1 (op1_l rfl (lo_move (v := .int _ _) rfl) ?_)
              refine ow_nil ?_
              refine next1 (k + 1) (upd_intro (mask_intro (by first | exact off_refl | (repeat (first | exact off_mask | refine off_upd rfl ?_ | refine off_mask2 rfl ?_)))) rfl) (lmask_intro (by first | exact offl_refl | (repeat (first | exact offl_mask | refine offl_upd rfl ?_ | refine offl_mask2 rfl ?_)))) hl2 ?_ ?_
              · exact ⟨by omega, by rw [← hk2, drop_getD (k := k) (by omega), List.all_cons]; generalize ((s.getD k 0).toNat : Int) = z at *; simp [letter, *]⟩
              · omega
            · have p36 := df h34
              refine cw_region ?_
              refine ow1 (op1_l rfl (lo_move (v := .int _ _) rfl) ?_)
              refine ow1 (op1_l rfl (lo_eql rfl rfl) ?_)
              refine ow1 (op1_l rfl (lo_assign (v := .bool _) rfl) ?_)
              refine ow_nil ?_
              refine seqK_n ?_
              refine cw_cond rfl (fun h37 => ?_) (fun h37 => ?_)
              · have p38 := dt h37
                refine cw_skip ?_
                refine blkK_n ?_
                refine blkK_n ?_
                refine seqK_n ?_
                refine cw_region ?_
                refine ow1 (op1_l rfl (lo_add rfl rfl (rg_i64 (by omega))) ?_)
                refine ow1 (op1_l rfl (lo_move (v := .int _ _) rfl) ?_)
                refine ow_nil ?_
                refine next1 (k + 1) (upd_intro (mask_intro (by first | exact off_refl | (repeat (first | exact off_mask | refine off_upd rfl ?_ | refine off_mask2 rfl ?_)))) rfl) (lmask_intro (by first | exact offl_refl | (repeat (first | exact offl_mask | refine offl_upd rfl ?_ | refine offl_mask2 rfl ?_)))) hl2 ?_ ?_
                · exact ⟨by omega, by rw [← hk2, drop_getD (k := k) (by omega), List.all_cons]; generalize ((s.getD k 0).toNat : Int) = z at *; simp [letter, *]⟩
                · omega
              · have p39 := df h37
                refine cw_seq ?_
                refine cw_region ?_
                refine ow1 (op1_l rfl (lo_assign (v := .bool _) rfl) ?_)
                refine ow_nil ?_
                refine seqK_n ?_
                refine cw_ret ?_
                refine blkK_r ?_
                refine blkK_r ?_
                refine seqK_r ?_
                refine loopK_r ?_
                refine blkK_r ?_
                refine seqK_r ?_
                refine fnK_r (res1 rfl (rv_t (v := .bool _) rfl)) ((HLe.refl _).trans hl2) ?_
                first | (rw [← hk2, drop_getD (k := k) (by omega), List.all_cons]; generalize ((s.getD k 0).toNat : Int) = z at *; simp [letter, *]; done) | (rw [← hk2, List.drop_of_length_le (by omega)]; rfl)
        · have p40 := df h29
          refine ow1 (op1_gs rfl h29 rfl ?_)
          refine ow1 (op1_gs rfl h29 rfl ?_)
          refine ow1 (op1_l rfl (lo_pick_f (v := .bool _) rfl h29 rfl) ?_)
          refine ow1 (op1_l rfl (lo_assign (v := .bool _) rfl) ?_)
          refine ow_nil ?_
          refine seqK_n ?_
          refine cw_cond_f rfl rfl ?_
          refine cw_seq ?_
          refine cw_region ?_
          refine ow1 (op1_l rfl (lo_move (v := .int _ _) rfl) ?_)
          refine ow1 (op1_l rfl (lo_eql rfl rfl) ?_)
          refine ow1 (op1_l rfl (lo_assign (v := .bool _) rfl) ?_)
          refine ow_nil ?_
          refine seqK_n ?_
          refine cw_cond rfl (fun h41 => ?_) (fun h41 => ?_)
          · have p42 := dt h41
            refine cw_skip ?_
            refine seqK_n ?_
            refine cw_cond_t rfl h41 ?_
            refine cw_skip ?_
            refine blkK_n ?_
            refine blkK_n ?_
            refine seqK_n ?_
            refine cw_region ?_
            refine ow1 (op1_l rfl (lo_add rfl rfl (rg_i64 (by omega))) ?_)
            refine ow1 (op1_l rfl (lo_move (v := .int _ _) rfl) ?_)
            refine ow_nil ?_
            refine next1 (k + 1) (upd_intro (mask_intro (by first | exact off_refl | (repeat (first | exact off_mask | refine off_upd rfl ?_ | refine off_mask2 rfl ?_)))) rfl) (lmask_intro (by first | exact offl_refl | (repeat (first | exact offl_mask | refine offl_upd rfl ?_ | refine offl_mask2 rfl ?_)))) hl2 ?_ ?_
            · exact ⟨by omega, by rw [← hk2, drop_getD (k := k) (by omega), List.all_cons]; generalize ((s.getD k 0).toNat : Int) = z at *; simp [letter, *]⟩
            · omega
          · have p43 := df h41
            refine cw_region ?_
            refine ow1 (op1_l rfl (lo_move (v := .int _ _) rfl) ?_)
            refine ow1 (op1_l rfl (lo_eql rfl rfl) ?_)
            refine ow1 (op1_l rfl (lo_assign (v := .bool _) rfl) ?_)
            refine ow_nil ?_
            refine seqK_n ?_
            refine cw_cond rfl (fun h44 => ?_) (fun h44 => ?_)
            · have p45 := dt h44
              refine cw_skip ?_
              refine blkK_n ?_
              refine blkK_n ?_
              refine seqK_n ?_
              refine cw_region ?_
              refine ow1 (op1_l rfl (lo_add rfl rfl (rg_i64 (by omega))) ?_)
              refine ow1 (op1_l rfl (lo_move (v := .int _ _) rfl) ?_)
              refine ow_nil ?_
              refine next1 (k + 1) (upd_intro (mask_intro (by first | exact off_refl | (repeat (first | exact off_mask | refine off_upd rfl ?_ | refine off_mask2 rfl ?_)))) rfl) (lmask_intro (by first | exact offl_refl | (repeat (first | exact offl_mask | refine offl_upd rfl ?_ | refine offl_mask2 rfl ?_)))) hl2 ?_ ?_
              · exact ⟨by omega, by rw [← hk2, drop_getD (k := k) (by omega), List.all_cons]; generalize ((s.getD k 0).toNat : Int) = z at *; simp [letter, *]⟩
              · omega
            · have p46 := df h44
              refine cw_seq ?_
              refine cw_region ?_
              refine ow1 (op1_l rfl (lo_assign (v := .bool _) rfl) ?_)
              refine ow_nil ?_
              refine seqK_n ?_
              refine cw_ret ?_
              refine blkK_r ?_
              refine blkK_r ?_
              refine seqK_r ?_
              refine loopK_r ?_
              refine blkK_r ?_
              refine seqK_r ?_
              refine fnK_r (res1 rfl (rv_t (v := .bool _) rfl)) ((HLe.refl _).trans hl2) ?_
              first | (rw [← hk2, drop_getD (k := k) (by omega), List.all_cons]; generalize ((s.getD k 0).toNat : Int) = z at *; simp [letter, *]; done) | (rw [← hk2, List.drop_of_length_le (by omega)]; rfl)
    · have p47 := df h3
      refine cw_exit ?_
      refine seqK_e ?_
      refine loopK_e ?_
      refine blkK_hit ?_
      refine seqK_n ?_
      refine cw_seq ?_
      refine cw_region ?_
      refine ow1 (op1_l rfl (lo_assign (v := .bool _) rfl) ?_)
      refine ow_nil ?_
      refine seqK_n ?_
      refine cw_ret ?_
      refine fnK_r (res1 rfl (rv_t (v := .bool _) rfl)) ((HLe.refl _).trans hl2) ?_
      first | (rw [← hk2, drop_getD (k := k) (by omega), List.all_cons]; generalize ((s.getD k 0).toNat : Int) = z at *; simp [letter, *]; done) | (rw [← hk2, List.drop_of_length_le (by omega)]; rfl)

set_option maxRecDepth 100000 in
theorem copyCheck {n : Nat} {N : Rest} {F : Fr} {H : Hp} {L : Ls} {ops : List Oper} {ty d : Nat} {pos : String} {af : Array Edge} {K : Fr → Hp → Ls → Prop} {x : Operand} {ats : Array TypeId} {b : Nat} {p v : Value} (i : Nat) (hx : ev F x = .pointer (some ⟨b, 0, none⟩)) (hi : L i = some (b, bx 103 [p, v]))
    (hp : p = .pointer none ∨ p = .pointer (some ⟨b, 0, none⟩)) (hd : Nat.blt d n = true) (k : K (upd F d (.tuple #[])) H (lupd L i (some (b, bx 103 [.pointer (some ⟨b, 0, none⟩), v])))) : Op1 Tryd.prog n N ops ⟨some d, .call ⟨.value (.func 97), #[x], ats⟩, ty, pos, af, none⟩ K F H L := by
  refine op1_in (en_f (vs := [.pointer (some ⟨b, 0, none⟩)]) cb97 (by simp [evs, hx])) Tryd.func97 rfl Tryd.ntmps97 rfl hd ?_
  refine cw_seq ?_
  refine cw_region ?_
  refine ow1 (op1_l rfl (lo_move (v := .pointer (some ⟨_, _, none⟩)) rfl) ?_)
  refine ow1 (op1_l rfl (lo_nilCheck rfl) ?_)
  refine ow1 (op1_l rfl (lo_fieldAddr rfl fl103_0) ?_)
  refine ow1 (op1_l rfl (lo_load1 (i := i) (v := p) rfl ag100 hi rfl) ?_)
  rcases hp with rfl | rfl
  · refine ow1 (op1_l rfl (lo_pnil rfl rfl Tryd.underlying100) ?_)
    refine ow_nil ?_
    refine seqK_n ?_
    refine cw_cond_t rfl rfl ?_
    refine cw_region ?_
    refine ow1 (op1_l rfl (lo_move (v := .pointer (some ⟨_, _, none⟩)) rfl) ?_)
    refine ow1 (op1_l rfl (lo_move (v := .pointer (some ⟨_, _, none⟩)) rfl) ?_)
    refine ow1 (op1_l rfl (lo_toUnsafe (i := i) rfl hi rfl Tryd.underlying100 Tryd.underlying141 (tz103).choose_spec.1 (tz103).choose_spec.2) ?_)
    refine ow1 (op1_l rfl (lo_noEsc (v := .pointer (some ⟨_, _, none⟩)) ne112 rfl) ?_)
    refine ow1 (op1_l rfl (lo_fromUnsafe (i := i) rfl hi Tryd.underlying141 Tryd.underlying100 (ti103).choose_spec la103_103) ?_)
    refine ow1 (op1_l rfl (lo_nilCheck rfl) ?_)
    refine ow1 (op1_l rfl (lo_fieldAddr rfl fl103_0) ?_)
    refine ow1 (op1_store1 (i := i) (v := .pointer (some ⟨_, _, none⟩)) rfl rfl rfl sz100 hi rfl ?_)
    refine ow_nil ?_
    exact fnK_n (res0 rfl) (.refl _) k
  · refine ow1 (op1_l rfl (lo_peq_nil rfl rfl Tryd.underlying100) ?_)
    refine ow_nil ?_
    refine seqK_n ?_
    refine cw_cond_f rfl rfl ?_
    refine cw_seq ?_
    refine cw_region ?_
    refine ow1 (op1_l rfl (lo_move (v := .pointer (some ⟨_, _, none⟩)) rfl) ?_)
    refine ow1 (op1_l rfl (lo_nilCheck rfl) ?_)
    refine ow1 (op1_l rfl (lo_fieldAddr rfl fl103_0) ?_)
    refine ow1 (op1_l rfl (lo_load1 (i := i) (v := .pointer (some ⟨b, 0, none⟩)) rfl ag100 hi rfl) ?_)
    refine ow1 (op1_l rfl (lo_move (v := .pointer (some ⟨_, _, none⟩)) rfl) ?_)
    refine ow1 (op1_l rfl (lo_pne_self rfl rfl Tryd.underlying100 (ti103).choose_spec) ?_)
    refine ow_nil ?_
    refine seqK_n ?_
    refine cw_cond_f rfl rfl ?_
    refine cw_skip ?_
    refine fnK_n (res0 rfl) (.refl _) ?_
    rwa [lupd_eta hi] at k

theorem octet_New (H : Hp) (s : Bs) : Pn Tryd.prog 35 #[str s] H (fun v H' b o' => v = .pointer (some ⟨b, 0, none⟩) ∧ H = H' ∧ o' = bx 95 (In.cells (⟨s, 0⟩))) := by
  refine pn_cw Tryd.func35 rfl Tryd.ntmps35 rfl (fun N => ?_)
  refine cw_seq ?_
  refine cw_region ?_
  refine ow1 (op1_l rfl (lo_assign rfl) ?_)
  refine ow_nil ?_
  refine seqK_n ?_
  refine cw_seq ?_
  refine cw_region ?_
  refine ow1 (op1_l rfl (lo_move (v := str _) rfl) ?_)
  refine ow1 (op1_l rfl (lo_build (v := .agg #[_, _]) rfl (bd95_0s _)) ?_)
  refine ow1 (op1_box (cs := [_, _]) 0 rfl rfl (fun b1 => ?_))
  refine ow1 (op1_l rfl (lo_assign (v := .pointer (some ⟨_, _, none⟩)) rfl) ?_)
  refine ow_nil ?_
  refine seqK_n ?_
  refine cw_ret ?_
  refine fnK_r (res1 rfl (rv_t (v := .pointer (some ⟨_, _, none⟩)) rfl)) (.refl _) ?_
  exact ⟨0, _, _, rfl, rfl, rfl, rfl⟩

theorem in_Fail (H : Hp) (i_b : Nat) (i : In) (code : Int) (code_r : -9223372036854775808 ≤ code ∧ code ≤ 9223372036854775807) : Pm Tryd.prog 70 #[.pointer (some ⟨i_b, 0, none⟩), .int .i64 code] H i_b (bx 95 (In.cells i)) (fun v H' o' => v = .tuple #[] ∧ H = H' ∧ o' = bx 95 (In.cells (inFail i code))) := by
  refine pm_cw Tryd.func70 rfl Tryd.ntmps70 rfl (fun N => ?_)
  refine cw_seq ?_
  refine cw_region ?_
  refine ow1 (op1_l rfl (lo_move (v := .pointer (some ⟨_, _, none⟩)) rfl) ?_)
  refine ow1 (op1_l rfl (lo_pne_nil rfl rfl Tryd.underlying65) ?_)
  refine ow1 (op1_l rfl (lo_move (v := .bool _) rfl) ?_)
  refine ow1 (op1_g rfl rfl rfl (lo_move (v := .pointer (some ⟨_, _, none⟩)) rfl) ?_)
  refine ow1 (op1_g rfl rfl rfl (lo_nilCheck rfl) ?_)
  refine ow1 (op1_g rfl rfl rfl (lo_fieldAddr rfl fl95_1) ?_)
  refine ow1 (op1_g rfl rfl rfl (lo_load1 (i := 0) (v := .int _ _) rfl ag36 rfl rfl) ?_)
  refine ow1 (op1_g rfl rfl rfl (lo_eql rfl rfl) ?_)
  refine ow1 (op1_l rfl (lo_pick_t (v := .bool _) rfl rfl rfl) ?_)
  refine ow1 (op1_l rfl (lo_move (v := .bool _) rfl) ?_)
  refine ow_sp (j := 9) rfl (fun h1 => ?_) (fun h1 => ?_)
  · have p2 := dt h1
    refine ow1 (op1_g rfl h1 rfl (lo_move (v := .int _ _) rfl) ?_)
    refine ow1 (op1_g rfl h1 rfl (lo_neq rfl rfl) ?_)
    refine ow1 (op1_l rfl (lo_pick_t (v := .bool _) rfl h1 rfl) ?_)
    refine ow_nil ?_
    refine seqK_n ?_
    refine cw_cond rfl (fun h3 => ?_) (fun h3 => ?_)
    · have h4 := not_t h3
      have p5 := df h4
      refine cw_region ?_
      refine ow1 (op1_l rfl (lo_move (v := .pointer (some ⟨_, _, none⟩)) rfl) ?_)
      refine ow1 (op1_l rfl (lo_move (v := .pointer (some ⟨_, _, none⟩)) rfl) ?_)
      refine ow1 (op1_l rfl (lo_move (v := .int _ _) rfl) ?_)
      refine ow1 (op1_l rfl (lo_nilCheck rfl) ?_)
      refine ow1 (op1_l rfl (lo_fieldAddr rfl fl95_0) ?_)
      refine ow1 (op1_store1 (i := 0) (v := str _) rfl rfl rfl sz9 rfl rfl ?_)
      refine ow1 (op1_l rfl (lo_nilCheck rfl) ?_)
      refine ow1 (op1_l rfl (lo_fieldAddr rfl fl95_1) ?_)
      refine ow1 (op1_store1 (i := 0) (v := .int _ _) rfl rfl rfl sz36 rfl rfl ?_)
      refine ow_nil ?_
      refine fnK_n (res0 rfl) (.refl _) ?_
      refine ⟨_, rfl, ?_⟩
      refine ⟨?_, rfl, ?_⟩ <;> simp [inRaw, inFail, In.cells, *]
    · have h6 := not_f h3
      have p7 := dt h6
      refine cw_skip ?_
      refine fnK_n (res0 rfl) (.refl _) ?_
      refine ⟨_, rfl, ?_⟩
      refine ⟨?_, rfl, ?_⟩ <;> simp [inRaw, inFail, In.cells, *]
  · have p8 := df h1
    refine ow1 (op1_gs rfl h1 rfl ?_)
    refine ow1 (op1_gs rfl h1 rfl ?_)
    refine ow1 (op1_l rfl (lo_pick_f (v := .bool _) rfl h1 rfl) ?_)
    refine ow_nil ?_
    refine seqK_n ?_
    refine cw_cond_f rfl rfl ?_
    refine cw_skip ?_
    refine fnK_n (res0 rfl) (.refl _) ?_
    refine ⟨_, rfl, ?_⟩
    refine ⟨?_, rfl, ?_⟩ <;> simp [inRaw, inFail, In.cells, *]

theorem in_Raw (H : Hp) (i_b : Nat) (i : In) (n : Int) (n_r : -9223372036854775808 ≤ n ∧ n ≤ 9223372036854775807) : Pm Tryd.prog 94 #[.pointer (some ⟨i_b, 0, none⟩), .int .i64 n] H i_b (bx 95 (In.cells i)) (fun v H' o' => v = str ((inRaw i n).1) ∧ H = H' ∧ o' = bx 95 (In.cells ((inRaw i n).2))) := by
  refine pm_cw Tryd.func94 rfl Tryd.ntmps94 rfl (fun N => ?_)
  refine cw_seq ?_
  refine cw_region ?_
  refine ow1 (op1_l rfl (lo_assign (v := str _) rfl) ?_)
  refine ow_nil ?_
  refine seqK_n ?_
  refine cw_seq ?_
  refine cw_block ?_
  refine cw_seq ?_
  refine cw_seq ?_
  refine cw_region ?_
  refine ow1 (op1_l rfl (lo_move (v := .pointer (some ⟨_, _, none⟩)) rfl) ?_)
  refine ow1 (op1_l rfl (lo_peq_nil rfl rfl Tryd.underlying65) ?_)
  refine ow1 (op1_l rfl (lo_assign (v := .bool _) rfl) ?_)
  refine ow_nil ?_
  refine seqK_n ?_
  refine cw_cond_f rfl rfl ?_
  refine cw_seq ?_
  refine cw_region ?_
  refine ow1 (op1_l rfl (lo_move (v := .pointer (some ⟨_, _, none⟩)) rfl) ?_)
  refine ow1 (op1_l rfl (lo_nilCheck rfl) ?_)
  refine ow1 (op1_l rfl (lo_fieldAddr rfl fl95_1) ?_)
  refine ow1 (op1_l rfl (lo_load1 (i := 0) (v := .int _ _) rfl ag36 rfl rfl) ?_)
  refine ow1 (op1_l rfl (lo_neq rfl rfl) ?_)
  refine ow1 (op1_l rfl (lo_assign (v := .bool _) rfl) ?_)
  refine ow_nil ?_
  refine seqK_n ?_
  refine cw_cond rfl (fun h1 => ?_) (fun h1 => ?_)
  · have h2 := not_t h1
    have p3 := df h2
    refine cw_skip ?_
    refine seqK_n ?_
    refine cw_cond_t rfl h1 ?_
    refine cw_seq ?_
    refine cw_region ?_
    refine ow1 (op1_l rfl (lo_assign (v := str _) rfl) ?_)
    refine ow_nil ?_
    refine seqK_n ?_
    refine cw_ret ?_
    refine blkK_r ?_
    refine seqK_r ?_
    refine fnK_r (res1 rfl (rv_t (v := str _) rfl)) (.refl _) ?_
    refine ⟨_, rfl, ?_⟩
    refine ⟨?_, rfl, ?_⟩ <;> simp [inRaw, inFail, In.cells, *]
  · have h4 := not_f h1
    have p5 := dt h4
    refine cw_region ?_
    refine ow1 (op1_l rfl (lo_move (v := .int _ _) rfl) ?_)
    refine ow1 (op1_l rfl (lo_leq rfl rfl) ?_)
    refine ow1 (op1_l rfl (lo_assign (v := .bool _) rfl) ?_)
    refine ow_nil ?_
    refine seqK_n ?_
    refine cw_cond rfl (fun h6 => ?_) (fun h6 => ?_)
    · have p7 := dt h6
      refine cw_seq ?_
      refine cw_region ?_
      refine ow1 (op1_l rfl (lo_assign (v := str _) rfl) ?_)
      refine ow_nil ?_
      refine seqK_n ?_
      refine cw_ret ?_
      refine blkK_r ?_
      refine seqK_r ?_
      refine fnK_r (res1 rfl (rv_t (v := str _) rfl)) (.refl _) ?_
      refine ⟨_, rfl, ?_⟩
      refine ⟨?_, rfl, ?_⟩ <;> simp [inRaw, inFail, In.cells, *]
    · have p8 := df h6
      refine cw_seq ?_
      refine cw_region ?_
      refine ow1 (op1_l rfl (lo_move (v := .int _ _) rfl) ?_)
      refine ow1 (op1_l rfl (lo_move (v := .pointer (some ⟨_, _, none⟩)) rfl) ?_)
      refine ow1 (op1_l rfl (lo_nilCheck rfl) ?_)
      refine ow1 (op1_l rfl (lo_fieldAddr rfl fl95_0) ?_)
      refine ow1 (op1_l rfl (lo_load1 (i := 0) (v := str _) rfl ag9 rfl rfl) ?_)
      refine ow1 (op1_l rfl (lo_len_str rfl Tryd.underlying9) ?_)
      refine ow1 (op1_l rfl (lo_gtr rfl rfl) ?_)
      refine ow1 (op1_l rfl (lo_assign (v := .bool _) rfl) ?_)
      refine ow_nil ?_
      refine seqK_n ?_
      refine cw_cond rfl (fun h9 => ?_) (fun h9 => ?_)
      · have p10 := dt h9
        refine cw_seq ?_
        refine cw_region ?_
        refine ow1 (op1_l rfl (lo_move (v := .pointer (some ⟨_, _, none⟩)) rfl) ?_)
        refine ow1 (op1_pm 0 rfl (in_Fail _ i_b i 3 (by omega)) (en_f cb70 rfl) rfl ?_)
        rintro _ _ _ ⟨rfl, rfl, rfl⟩ _
        refine ow_nil ?_
        refine seqK_n ?_
        refine cw_seq ?_
        refine cw_region ?_
        refine ow1 (op1_l rfl (lo_assign (v := str _) rfl) ?_)
        refine ow_nil ?_
        refine seqK_n ?_
        refine cw_ret ?_
        refine blkK_r ?_
        refine seqK_r ?_
        refine fnK_r (res1 rfl (rv_t (v := str _) rfl)) (.refl _) ?_
        refine ⟨_, rfl, ?_⟩
        refine ⟨?_, rfl, ?_⟩ <;> simp [inRaw, inFail, In.cells, *]
      · have p13 := df h9
        refine cw_skip ?_
        refine blkK_n ?_
        refine seqK_n ?_
        refine cw_seq ?_
        refine cw_region ?_
        refine ow1 (op1_l rfl (lo_move (v := .pointer (some ⟨_, _, none⟩)) rfl) ?_)
        refine ow1 (op1_l rfl (lo_nilCheck rfl) ?_)
        refine ow1 (op1_l rfl (lo_fieldAddr rfl fl95_0) ?_)
        refine ow1 (op1_l rfl (lo_load1 (i := 0) (v := str _) rfl ag9 rfl rfl) ?_)
        refine ow1 (op1_l rfl (lo_move (v := .int _ _) rfl) ?_)
        refine ow1 (op1_l rfl (lo_slice_str_hi (n).toNat rfl rfl Tryd.underlying9 (by omega) (by omega)) ?_)
        refine ow1 (op1_l rfl (lo_assign (v := str _) rfl) ?_)
        refine ow_nil ?_
        refine seqK_n ?_
        refine cw_seq ?_
        refine cw_region ?_
        refine ow1 (op1_l rfl (lo_move (v := .pointer (some ⟨_, _, none⟩)) rfl) ?_)
        refine ow1 (op1_l rfl (lo_move (v := .pointer (some ⟨_, _, none⟩)) rfl) ?_)
        refine ow1 (op1_l rfl (lo_nilCheck rfl) ?_)
        refine ow1 (op1_l rfl (lo_fieldAddr rfl fl95_0) ?_)
        refine ow1 (op1_l rfl (lo_load1 (i := 0) (v := str _) rfl ag9 rfl rfl) ?_)
        refine ow1 (op1_l rfl (lo_move (v := .int _ _) rfl) ?_)
        refine ow1 (op1_l rfl (lo_slice_str_lo (n).toNat rfl rfl Tryd.underlying9 (by omega) (by omega)) ?_)
        refine ow1 (op1_l rfl (lo_nilCheck rfl) ?_)
        refine ow1 (op1_l rfl (lo_fieldAddr rfl fl95_0) ?_)
        refine ow1 (op1_store1 (i := 0) (v := str _) rfl rfl rfl sz9 rfl rfl ?_)
        refine ow_nil ?_
        refine seqK_n ?_
        refine cw_seq ?_
        refine cw_region ?_
        refine ow1 (op1_l rfl (lo_move (v := str _) rfl) ?_)
        refine ow1 (op1_l rfl (lo_assign (v := str _) rfl) ?_)
        refine ow_nil ?_
        refine seqK_n ?_
        refine cw_ret ?_
        refine fnK_r (res1 rfl (rv_t (v := str _) rfl)) (.refl _) ?_
        refine ⟨_, rfl, ?_⟩
        refine ⟨?_, rfl, ?_⟩ <;> simp [inRaw, inFail, In.cells, *]

end Go.SW


set_option linter.unusedVariables false
set_option maxRecDepth 100000
set_option maxHeartbeats 4000000
namespace Go.SW
open Go.Proofs
theorem ag5 : Ag Tryd.prog 5 false := fun w => by kernel_rfl
theorem cb69 : Callable Tryd.prog 69 := callable_of Tryd.func69 (by kernel_rfl) (by kernel_rfl)
theorem cb94 : Callable Tryd.prog 94 := callable_of Tryd.func94 (by kernel_rfl) (by kernel_rfl)
theorem sz5 : Sz Tryd.prog 5 1 := fun w => by kernel_rfl

theorem in_Num (H : Hp) (i_b : Nat) (i : In) (bytes : Int) (bytes_r : -9223372036854775808 ≤ bytes ∧ bytes ≤ 9223372036854775807) : Pm Tryd.prog 69 #[.pointer (some ⟨i_b, 0, none⟩), .int .i64 bytes] H i_b (bx 95 (In.cells i)) (fun v H' o' => v = .int .u64 ((inNum i bytes).1) ∧ H = H' ∧ o' = bx 95 (In.cells ((inNum i bytes).2))) := by
  refine pm_cw Tryd.func69 rfl Tryd.ntmps69 rfl (fun N => ?_)
  refine cw_seq ?_
  refine cw_region ?_
  refine ow1 (op1_l rfl (lo_assign (v := .int _ _) rfl) ?_)
  refine ow_nil ?_
  refine seqK_n ?_
  refine cw_seq ?_
  refine cw_region ?_
  refine ow1 (op1_l rfl (lo_assign (v := .int _ _) rfl) ?_)
  refine ow_nil ?_
  refine seqK_n ?_
  refine cw_seq ?_
  refine cw_seq ?_
  refine cw_region ?_
  refine ow1 (op1_l rfl (lo_move (v := .pointer (some ⟨_, _, none⟩)) rfl) ?_)
  refine ow1 (op1_l rfl (lo_move (v := .int _ _) rfl) ?_)
  refine ow1 (op1_l rfl (lo_min rfl rfl) ?_)
  refine ow1 (op1_pm 0 rfl (in_Raw _ i_b i (min bytes 8) (by omega)) (en_f cb94 rfl) rfl ?_)
  rintro _ _ _ ⟨rfl, rfl, rfl⟩ _
  refine ow1 (op1_s2b rfl Tryd.underlying9 Tryd.underlying101 Tryd.underlying5 rfl (fun b3 cap4 H5 hl6 hs7 => ?_))
  refine ow1 (op1_l rfl (lo_len_slh rfl hs7 Tryd.underlying101) ?_)
  refine ow1 (op1_l rfl (lo_move (v := .int _ _) rfl) ?_)
  refine ow_nil ?_
  refine seqK_n ?_
  refine cw_block ?_
  refine cw_loop1 [5, 7, 14, 15, 16, 17, 18, 19, 20, 21, 22, 23] [] (fun (k : Nat) G => upd (upd (G) 14 (.int .i64 (k : Int))) 5 (.int .u64 (beN ((inRaw i (min bytes 8)).1.take k) : Int))) (fun (k : Nat) G => G) (fun (k : Nat) H' => k ≤ (inRaw i (min bytes 8)).1.length) (fun (k : Nat) => (inRaw i (min bytes 8)).1.length - k) 0 (upd_intro (upd_intro (mask_intro (by first | exact off_refl | (repeat (first | exact off_mask | refine off_upd rfl ?_ | refine off_mask2 rfl ?_)))) rfl) rfl) (lmask_intro offl_refl) ?_ ?_
  · exact Nat.zero_le _
  · intro k J9 JL9 H9 hp8 hl9
    have hb := inRaw_len i (min bytes 8)
    refine cw_seq ?_
    refine cw_region ?_
    refine ow1 (op1_l rfl (lo_lss rfl rfl) ?_)
    refine ow_nil ?_
    refine seqK_n ?_
    refine cw_seq ?_
    refine cw_cond rfl (fun h10 => ?_) (fun h10 => ?_)
    · have p11 := dt h10
      refine cw_skip ?_
      refine seqK_n ?_
      refine cw_seq ?_
      refine cw_block ?_
      refine cw_seq ?_
      refine cw_region ?_
      obtain ⟨c12, hc13⟩ := getE (xs := (inRaw i (min bytes 8)).1) (m := k) (by omega)
      obtain ⟨cs14, hE15, at16⟩ := (hs7.mono ((HLe.refl _).trans hl9) (fun _ _ h => h)).get hc13
      subst hE15
      have c12_r := u8r c12
      refine ow1 (op1_l rfl (lo_indexAddr rfl rfl (hs7.mono ((HLe.refl _).trans hl9) (fun _ _ h => h)).1 at16 Tryd.underlying101 sz5 (by omega) (by omega)) ?_)
      refine ow1 (op1_l rfl (lo_loadE1 rfl ag5 at16) ?_)
      refine ow1 (op1_l rfl (lo_assign (v := .int _ _) rfl) ?_)
      refine ow_nil ?_
      refine seqK_n ?_
      refine cw_region ?_
      refine ow1 (op1_l rfl (lo_move (v := .int _ _) rfl) ?_)
      refine ow1 (op1_l rfl (lo_shl rfl rfl (by omega)) ?_)
      refine ow1 (op1_l rfl (lo_move (v := .int _ _) rfl) ?_)
      refine ow1 (op1_l rfl (lo_conv_in rfl (by rw [Tryd.underlying5]; rfl) Tryd.underlying22 (rg_u64 (by omega))) ?_)
      have := wr_u64 ((BitVec.ofInt (IntKind.bits .u64) (IntKind.wrap .u64 ((beN ((inRaw i (min bytes 8)).1.take k) : Int) * 2 ^ (min (8 : Int).toNat (IntKind.bits .u64)))) ||| BitVec.ofInt (IntKind.bits .u64) (c12.toNat : Int)).toNat)
      refine ow1 (op1_l rfl (lo_or rfl rfl) ?_)
      refine ow1 (op1_l rfl (lo_assign (v := .int _ _) rfl) ?_)
      refine ow_nil ?_
      refine blkK_n ?_
      refine seqK_n ?_
      refine cw_region ?_
      refine ow1 (op1_l rfl (lo_add rfl rfl (rg_i64 (by omega))) ?_)
      refine ow1 (op1_l rfl (lo_move (v := .int _ _) rfl) ?_)
      refine ow_nil ?_
      refine next1 (k + 1) (upd_intro (upd_intro (mask_intro (by first | exact off_refl | (repeat (first | exact off_mask | refine off_upd rfl ?_ | refine off_mask2 rfl ?_)))) rfl) (congrArg (Value.int .u64) (num_step hc13 (by omega)))) (lmask_intro (by first | exact offl_refl | (repeat (first | exact offl_mask | refine offl_upd rfl ?_ | refine offl_mask2 rfl ?_)))) hl9 ?_ ?_
      · omega
      · omega
    · have p17 := df h10
      refine cw_exit ?_
      refine seqK_e ?_
      refine loopK_e ?_
      refine blkK_hit ?_
      refine seqK_n ?_
      refine cw_seq ?_
      refine cw_region ?_
      refine ow1 (op1_l rfl (lo_move (v := .int _ _) rfl) ?_)
      refine ow1 (op1_l rfl (lo_assign (v := .int _ _) rfl) ?_)
      refine ow_nil ?_
      refine seqK_n ?_
      refine cw_down (((HLe.refl _).trans hl6).trans hl9) ?_
      refine cw_ret ?_
      refine fnK_r (res1 rfl (rv_t (v := .int _ _) rfl)) (.refl _) ?_
      refine ⟨_, rfl, ?_⟩
      refine ⟨?_, rfl, rfl⟩
      simp only [inNum]
      rw [List.take_of_length_le (by omega)]

end Go.SW


set_option linter.unusedVariables false
set_option maxRecDepth 100000
set_option maxHeartbeats 4000000
namespace Go.SW
open Go.Proofs
theorem ag101 : Ag Tryd.prog 101 false := fun w => by kernel_rfl
theorem ag78 : Ag Tryd.prog 78 true := fun w => by kernel_rfl
theorem by5 : By Tryd.prog 5 1 := by_of (by kernel_rfl)
theorem cb76 : Callable Tryd.prog 76 := callable_of Tryd.func76 (by kernel_rfl) (by kernel_rfl)
theorem cb77 : Callable Tryd.prog 77 := callable_of Tryd.func77 (by kernel_rfl) (by kernel_rfl)
theorem co5 : Tryd.prog.cellsOf 5 = 1 := by kernel_rfl
theorem fl103_1 : Fld Tryd.prog 103 1 1 := fun b o w => by kernel_rfl
theorem fl78_0 : Fld Tryd.prog 78 0 0 := fun b o w => by kernel_rfl
theorem mixd : Tryd.prog.follows .mixedOrders = true := by kernel_rfl
theorem sz101 : Sz Tryd.prog 101 1 := fun w => by kernel_rfl
theorem sz78 : Sz Tryd.prog 78 2 := fun w => by kernel_rfl
theorem zr103 : Zr Tryd.prog 103 [.pointer none, .slice none 0 0] := fun w => ⟨.agg #[.pointer none, .slice none 0 0], by kernel_rfl, rfl⟩
theorem zr5 : Zr Tryd.prog 5 [.int .u8 0] := fun w => ⟨.int .u8 0, by kernel_rfl, rfl⟩
theorem zr78 : Zr Tryd.prog 78 [str [], .int .i64 0] := fun w => ⟨.agg #[str [], .int .i64 0], by kernel_rfl, rfl⟩
theorem zx5 : ∃ z, ∀ w, (zeroValue 5).run Tryd.prog w = .ok z w := ⟨.int .u8 0, fun w => by kernel_rfl⟩

theorem out_Num (H : Hp) (o : Out) (n : Int) (n_r : 0 ≤ n ∧ n ≤ 18446744073709551615) (bytes : Int) (bytes_r : -9223372036854775808 ≤ bytes ∧ bytes ≤ 9223372036854775807) (hlen : o.s.length ≤ 4611686018427387904) : Pr Tryd.prog 46 #[.agg (Out.cells o).toArray, .int .u64 n, .int .i64 bytes] H (.agg (Out.cells (outNum o n bytes)).toArray) := by
  refine pr_cw Tryd.func46 rfl Tryd.ntmps46 rfl (fun N => ?_)
  refine cw_seq ?_
  refine cw_region ?_
  refine ow1 (op1_box (cs := [_, _]) 0 rfl rfl (fun b1 => ?_))
  refine ow1 (op1_alloc 1 rfl zr78 (fun b2 => ?_))
  refine ow_nil ?_
  refine seqK_n ?_
  refine cw_seq ?_
  refine cw_region ?_
  refine ow1 (op1_alloc 2 rfl zr103 (fun b3 => ?_))
  refine ow_nil ?_
  refine seqK_n ?_
  refine cw_seq ?_
  refine cw_seq ?_
  refine cw_region ?_
  refine ow1 (op1_l rfl (lo_move (v := .int _ _) rfl) ?_)
  refine ow1 (op1_l rfl (lo_max rfl rfl) ?_)
  refine ow1 (op1_l rfl (lo_min rfl rfl) ?_)
  refine ow1 (op1_l rfl (lo_sub rfl rfl (rg_i64 (by omega))) ?_)
  refine ow1 (op1_l rfl (lo_assign (v := .int _ _) rfl) ?_)
  refine ow_nil ?_
  refine seqK_n ?_
  refine cw_block ?_
  refine cw_loop5 [8, 13, 14, 15, 16, 17, 18, 19, 20, 21, 22] [2, 3, 4] (fun (j : Nat) (bs : Bs) (p : Value) (v : Value) (en : Option (Nat × Obj)) G => upd (G) 8 (.int .i64 ((j : Int) - 1))) (fun (j : Nat) (bs : Bs) (p : Value) (v : Value) (en : Option (Nat × Obj)) G => lupd (lupd (G) 2 (some (b3, bx 103 [p, v]))) 3 (en)) (fun (j : Nat) (bs : Bs) (p : Value) (v : Value) (en : Option (Nat × Obj)) H' => bs ++ numB j n.toNat = numB (numK bytes) n.toNat ∧ bs.length + j = numK bytes ∧ OwnV 1 5 v en bs.length (bs.map u8v) ∧ (bs.length = 0 → v = .slice none 0 0) ∧ (p = .pointer none ∨ p = .pointer (some ⟨b3, 0, none⟩))) (fun (j : Nat) (bs : Bs) (p : Value) (v : Value) (en : Option (Nat × Obj)) => j) (numK bytes) [] (.pointer none) (.slice none 0 0) none (upd_intro (mask_intro (by first | exact off_refl | (repeat (first | exact off_mask | refine off_upd rfl ?_ | refine off_mask2 rfl ?_)))) (congrArg (Value.int .i64) (show min (max bytes 0) 8 - 1 = ((numK bytes : Nat) : Int) - 1 by unfold numK; omega))) (lupd_intro (lupd_intro (lmask_intro offl_refl) rfl) rfl) ?_ ?_
  · exact ⟨rfl, by simp, ownV_nil, fun _ => rfl, .inl rfl⟩
  · intro j bs p v en J5 JL5 H5 hp4 hl5
    obtain ⟨hk1, hk2, ho, hz, hpp⟩ := hp4
    have hk8 : numK bytes ≤ 8 := by unfold numK; omega
    refine cw_seq ?_
    refine cw_seq ?_
    refine cw_region ?_
    refine ow1 (op1_l rfl (lo_move (v := .int _ _) rfl) ?_)
    refine ow1 (op1_l rfl (lo_geq rfl rfl) ?_)
    refine ow_nil ?_
    refine seqK_n ?_
    refine cw_cond rfl (fun h6 => ?_) (fun h6 => ?_)
    · have p7 := dt h6
      refine cw_skip ?_
      refine seqK_n ?_
      refine cw_seq ?_
      refine cw_block ?_
      refine cw_region ?_
      refine ow1 (op1_l rfl (lo_move (v := .int _ _) rfl) ?_)
      refine ow1 (op1_l rfl (lo_move (v := .int _ _) rfl) ?_)
      refine ow1 (op1_l rfl (lo_mul rfl rfl (rg_i64 (by omega))) ?_)
      refine ow1 (op1_l rfl (lo_shr rfl rfl (by omega)) ?_)
      have := wr_u8 (Int.fdiv n (2 ^ (min ((8 * ((j : Int) - 1)) : Int).toNat (IntKind.bits .u64))))
      refine ow1 (op1_l rfl (lo_conv rfl (by rw [Tryd.underlying22]; rfl) Tryd.underlying5) ?_)
      refine ow1 (op1_in (en_f cb76 rfl) Tryd.func76 rfl Tryd.ntmps76 rfl rfl ?_)
      refine cw_seq ?_
      refine cw_region ?_
      refine ow1 (op1_l rfl (lo_assign rfl) ?_)
      refine ow_nil ?_
      refine seqK_n ?_
      refine cw_seq ?_
      refine cw_region ?_
      refine ow1 (op1_l rfl (lo_move (v := .pointer (some ⟨_, _, none⟩)) rfl) ?_)
      refine ow1 (copyCheck 2 rfl rfl hpp rfl ?_)
      refine ow_nil ?_
      refine seqK_n ?_
      refine cw_seq ?_
      refine cw_region ?_
      refine ow1 (op1_l rfl (lo_move (v := .pointer (some ⟨_, _, none⟩)) rfl) ?_)
      refine ow1 (op1_l rfl (lo_move (v := .pointer (some ⟨_, _, none⟩)) rfl) ?_)
      refine ow1 (op1_l rfl (lo_nilCheck rfl) ?_)
      refine ow1 (op1_l rfl (lo_fieldAddr rfl fl103_1) ?_)
      refine ow1 (op1_l rfl (lo_load1 (i := 2) rfl ag101 rfl rfl) ?_)
      refine ow1 (op1_l rfl (lo_move (v := .int _ _) rfl) ?_)
      refine ow1 (op1_bslice (cs := [_]) 4 rfl Tryd.underlying101 sz5 zx5 rfl ⟨rfl, rfl, trivial⟩ rfl rfl (by decide) (fun b8 => ?_))
      refine ow1 (op1_app 3 rfl rfl Tryd.underlying101 Tryd.underlying101 rfl sz5 by5 (by decide) zr5 ho (src_bx (i := 4) rfl rfl) (List.all_eq_true.1 rfl) rfl (by omega) rfl (fun v9 en10 ho11 => ?_))
      have ho12 := byte_app (bs := bs) ho11 (by first | rfl | simp) (wrap8r _)
      refine ow1 (op1_l rfl (lo_nilCheck rfl) ?_)
      refine ow1 (op1_l rfl (lo_fieldAddr rfl fl103_1) ?_)
      refine ow1 (op1_store1 (i := 2) rfl rfl (ownV_one ho12) sz101 rfl rfl ?_)
      refine ow_nil ?_
      refine seqK_n ?_
      refine cw_seq ?_
      refine cw_region ?_
      refine ow1 (op1_l rfl (lo_assign rfl) ?_)
      refine ow_nil ?_
      refine seqK_n ?_
      refine cw_ret ?_
      refine fnK_r (res1 rfl (rv_t rfl)) (.refl _) ?_
      refine ow_nil ?_
      refine blkK_n ?_
      refine seqK_n ?_
      refine cw_region ?_
      refine ow1 (op1_l rfl (lo_move (v := .int _ _) rfl) ?_)
      refine ow1 (op1_l rfl (lo_sub rfl rfl (rg_i64 (by omega))) ?_)
      refine ow1 (op1_l rfl (lo_assign (v := .int _ _) rfl) ?_)
      refine ow_nil ?_
      refine next5 (j - 1) (bs ++ [UInt8.ofNat ((IntKind.wrap .u8 (Int.fdiv n (2 ^ (min ((8 * ((j : Int) - 1)) : Int).toNat (IntKind.bits .u64)))))).toNat]) (.pointer (some ⟨b3, 0, none⟩)) v9 en10 (upd_intro (mask_intro (by first | exact off_refl | (repeat (first | exact off_mask | refine off_upd rfl ?_ | refine off_mask2 rfl ?_)))) (congrArg (Value.int .i64) (show ((j : Int) - 1) - 1 = ((j - 1 : Nat) : Int) - 1 by omega))) (lupd_intro (lupd_intro (lmask_intro (by first | exact offl_refl | (repeat (first | exact offl_mask | refine offl_upd rfl ?_ | refine offl_mask2 rfl ?_)))) rfl) rfl) hl5 ?_ ?_
      · refine ⟨?_, ?_, ho12, (nz_of ho12 (by simp)), .inr rfl⟩
        · rw [byte_of n_r.1 (by omega) (by omega), List.append_assoc, ← hk1]
          obtain ⟨q, rfl⟩ : ∃ q, j = q + 1 := ⟨j - 1, by omega⟩
          simp [numB]
        · simp; omega
      · omega
    · have p13 := df h6
      refine cw_exit ?_
      refine seqK_e ?_
      refine loopK_e ?_
      refine blkK_hit ?_
      refine seqK_n ?_
      refine cw_seq ?_
      refine cw_anyX 3 mixd ?_
      refine vw_q 0 rfl (by kernel_rfl) (by repeat (first | exact lle_l0 | exact LLe.refl _ | exact lle_none | refine lle_up ?_ rfl)) (fun _ _ hh hl => lo_fieldAddr rfl fl78_0) ?_
      refine vw_q 1 rfl (by kernel_rfl) (by repeat (first | exact lle_l0 | exact LLe.refl _ | exact lle_none | refine lle_up ?_ rfl)) (fun _ _ hh hl => lo_load1 (i := 0) (v := str _) rfl ag9 (hl _ _ rfl) rfl) ?_
      refine vw_e 2 rfl (by kernel_rfl) (op1_in (en_f cb77 rfl) Tryd.func77 rfl Tryd.ntmps77 rfl rfl ?_)
      refine cw_seq ?_
      refine cw_region ?_
      refine ow1 (op1_l rfl (lo_assign (v := str _) rfl) ?_)
      refine ow_nil ?_
      refine seqK_n ?_
      refine cw_seq ?_
      refine cw_anyX 3 mixd ?_
      refine vw_q 0 rfl (by kernel_rfl) (by repeat (first | exact lle_l0 | exact LLe.refl _ | exact lle_none | refine lle_up ?_ rfl)) (fun _ _ hh hl => lo_move (v := .pointer (some ⟨_, _, none⟩)) rfl) ?_
      refine vw_q 1 rfl (by kernel_rfl) (by repeat (first | exact lle_l0 | exact LLe.refl _ | exact lle_none | refine lle_up ?_ rfl)) (fun _ _ hh hl => lo_nilCheck rfl) ?_
      refine vw_q 2 rfl (by kernel_rfl) (by repeat (first | exact lle_l0 | exact LLe.refl _ | exact lle_none | refine lle_up ?_ rfl)) (fun _ _ hh hl => lo_fieldAddr rfl fl103_1) ?_
      refine vw_q 3 rfl (by kernel_rfl) (by repeat (first | exact lle_l0 | exact LLe.refl _ | exact lle_none | refine lle_up ?_ rfl)) (fun _ _ hh hl => lo_load1 (i := 2) rfl ag101 (hl _ _ rfl) rfl) ?_
      refine vw_q 4 rfl (by kernel_rfl) (by repeat (first | exact lle_l0 | exact LLe.refl _ | exact lle_none | refine lle_up ?_ rfl)) (fun _ _ hh hl => lo_usd rfl ho hz) ?_
      refine vw_q 5 rfl (by kernel_rfl) (by repeat (first | exact lle_l0 | exact LLe.refl _ | exact lle_none | refine lle_up ?_ rfl)) (fun _ _ hh hl => lo_move (v := .pointer (some ⟨_, _, none⟩)) rfl) ?_
      refine vw_q 6 rfl (by kernel_rfl) (by repeat (first | exact lle_l0 | exact LLe.refl _ | exact lle_none | refine lle_up ?_ rfl)) (fun _ _ hh hl => lo_nilCheck rfl) ?_
      refine vw_q 7 rfl (by kernel_rfl) (by repeat (first | exact lle_l0 | exact LLe.refl _ | exact lle_none | refine lle_up ?_ rfl)) (fun _ _ hh hl => lo_fieldAddr rfl fl103_1) ?_
      refine vw_q 8 rfl (by kernel_rfl) (by repeat (first | exact lle_l0 | exact LLe.refl _ | exact lle_none | refine lle_up ?_ rfl)) (fun _ _ hh hl => lo_load1 (i := 2) rfl ag101 (hl _ _ rfl) rfl) ?_
      refine vw_q 9 rfl (by kernel_rfl) (by repeat (first | exact lle_l0 | exact LLe.refl _ | exact lle_none | refine lle_up ?_ rfl)) (fun _ _ hh hl => lo_len_own rfl ho Tryd.underlying101) ?_
      refine vw_e 10 rfl (by kernel_rfl) (op1_ustr (l := bs) 3 rfl rfl Tryd.underlying122 co5 ho hz (by have hq := numB_len (numK bytes) n.toNat; simp [numK] at *; omega) rfl ?_)
      refine ⟨⟨(.refl _), (by repeat (first | exact lle_l0 | exact LLe.refl _ | exact lle_none | refine lle_up ?_ rfl))⟩, ?_⟩
      refine vw_q 11 rfl (by kernel_rfl) (by repeat (first | exact lle_l0 | exact LLe.refl _ | exact lle_none | refine lle_up ?_ rfl)) (fun _ _ hh hl => lo_assign (v := str _) rfl) ?_
      refine vw_done (by kernel_rfl) ?_
      refine seqK_n ?_
      refine cw_ret ?_
      refine fnK_r (res1 rfl (rv_t (v := str _) rfl)) (.refl _) ?_
      refine ⟨⟨(.refl _), (by repeat (first | exact lle_l0 | exact LLe.refl _ | exact lle_none | refine lle_up ?_ rfl))⟩, ?_⟩
      refine vw_q 3 rfl (by kernel_rfl) (by repeat (first | exact lle_l0 | exact LLe.refl _ | exact lle_none | refine lle_up ?_ rfl)) (fun _ _ hh hl => lo_cat rfl rfl (by have hq := numB_len (numK bytes) n.toNat; simp [numK] at *; omega)) ?_
      refine vw_q 4 rfl (by kernel_rfl) (by repeat (first | exact lle_l0 | exact LLe.refl _ | exact lle_none | refine lle_up ?_ rfl)) (fun _ _ hh hl => lo_fieldAddr rfl fl78_0) ?_
      refine vw_t 5 rfl (by kernel_rfl) (by kernel_rfl) (op1_store1 (i := 0) (v := str _) rfl rfl rfl sz9 rfl rfl ?_)
      refine vw_done (by kernel_rfl) ?_
      refine seqK_n ?_
      refine cw_seq ?_
      refine cw_region ?_
      refine ow1 (op1_l rfl (lo_loadA (i := 0) (vs := [_, _]) rfl ag78 sz78 rfl rfl rfl) ?_)
      refine ow1 (op1_storeA (i := 1) (vs := [_, _]) rfl rfl rfl sz78 rfl rfl rfl ?_)
      refine ow_nil ?_
      refine seqK_n ?_
      refine cw_ret ?_
      refine fnK_r (res1 rfl (rv_c (i := 1) (vs := [_, _]) rfl ag78 sz78 rfl rfl rfl)) ((HLe.refl _).trans hl5) ?_
      obtain rfl : j = 0 := by omega
      simp only [numB, List.append_nil] at hk1
      subst hk1
      rfl

end Go.SW


set_option linter.unusedVariables false
set_option maxRecDepth 100000
set_option maxHeartbeats 4000000
namespace Go.SW
open Go.Proofs
theorem cb46 : Callable Tryd.prog 46 := callable_of Tryd.func46 (by kernel_rfl) (by kernel_rfl)
theorem cb48 : Callable Tryd.prog 48 := callable_of Tryd.func48 (by kernel_rfl) (by kernel_rfl)
theorem cb82 : Callable Tryd.prog 82 := callable_of Tryd.func82 (by kernel_rfl) (by kernel_rfl)
theorem fl78_1 : Fld Tryd.prog 78 1 1 := fun b o w => by kernel_rfl

theorem out_Raw (H : Hp) (o : Out) (s : Bs) (hlen : o.s.length + s.length ≤ 4611686018427387904) : Pr Tryd.prog 48 #[.agg (Out.cells o).toArray, str s] H (.agg (Out.cells (outRaw o s)).toArray) := by
  refine pr_cw Tryd.func48 rfl Tryd.ntmps48 rfl (fun N => ?_)
  refine cw_seq ?_
  refine cw_region ?_
  refine ow1 (op1_box (cs := [_, _]) 0 rfl rfl (fun b1 => ?_))
  refine ow1 (op1_alloc 1 rfl zr78 (fun b2 => ?_))
  refine ow_nil ?_
  refine seqK_n ?_
  refine cw_seq ?_
  refine cw_region ?_
  refine ow1 (op1_l rfl (lo_fieldAddr rfl fl78_0) ?_)
  refine ow1 (op1_l rfl (lo_load1 (i := 0) (v := str _) rfl ag9 rfl rfl) ?_)
  refine ow1 (op1_l rfl (lo_move (v := str _) rfl) ?_)
  refine ow1 (op1_l rfl (lo_cat rfl rfl (by first | omega | (simp <;> omega))) ?_)
  refine ow1 (op1_l rfl (lo_fieldAddr rfl fl78_0) ?_)
  refine ow1 (op1_store1 (i := 0) (v := str _) rfl rfl rfl sz9 rfl rfl ?_)
  refine ow_nil ?_
  refine seqK_n ?_
  refine cw_seq ?_
  refine cw_region ?_
  refine ow1 (op1_l rfl (lo_loadA (i := 0) (vs := [_, _]) rfl ag78 sz78 rfl rfl rfl) ?_)
  refine ow1 (op1_storeA (i := 1) (vs := [_, _]) rfl rfl rfl sz78 rfl rfl rfl ?_)
  refine ow_nil ?_
  refine seqK_n ?_
  refine cw_ret ?_
  refine fnK_r (res1 rfl (rv_c (i := 1) (vs := [_, _]) rfl ag78 sz78 rfl rfl rfl)) (.refl _) ?_
  rfl

theorem out_String (H : Hp) (o : Out) : Pr Tryd.prog 49 #[.agg (Out.cells o).toArray] H (str o.s) := by
  refine pr_cw Tryd.func49 rfl Tryd.ntmps49 rfl (fun N => ?_)
  refine cw_seq ?_
  refine cw_region ?_
  refine ow1 (op1_box (cs := [_, _]) 0 rfl rfl (fun b1 => ?_))
  refine ow1 (op1_l rfl (lo_assign (v := str _) rfl) ?_)
  refine ow_nil ?_
  refine seqK_n ?_
  refine cw_seq ?_
  refine cw_region ?_
  refine ow1 (op1_l rfl (lo_fieldAddr rfl fl78_0) ?_)
  refine ow1 (op1_l rfl (lo_load1 (i := 0) (v := str _) rfl ag9 rfl rfl) ?_)
  refine ow1 (op1_l rfl (lo_assign (v := str _) rfl) ?_)
  refine ow_nil ?_
  refine seqK_n ?_
  refine cw_ret ?_
  refine fnK_r (res1 rfl (rv_t (v := str _) rfl)) (.refl _) ?_
  rfl

theorem out_Text (H : Hp) (o : Out) (s : Bs) (hlen : o.s.length + s.length ≤ 4611686018427386000) : Pr Tryd.prog 45 #[.agg (Out.cells o).toArray, str s] H (.agg (Out.cells (outText o s)).toArray) := by
  refine pr_cw Tryd.func45 rfl Tryd.ntmps45 rfl (fun N => ?_)
  refine cw_seq ?_
  refine cw_region ?_
  refine ow1 (op1_box (cs := [_, _]) 0 rfl rfl (fun b1 => ?_))
  refine ow1 (op1_alloc 1 rfl zr78 (fun b2 => ?_))
  refine ow_nil ?_
  refine seqK_n ?_
  refine cw_seq ?_
  refine cw_seq ?_
  refine cw_region ?_
  refine ow1 (op1_l rfl (lo_move (v := str _) rfl) ?_)
  refine ow1 (op1_l rfl (lo_len_str rfl Tryd.underlying9) ?_)
  refine ow1 (op1_l rfl (lo_gtr rfl rfl) ?_)
  refine ow_nil ?_
  refine seqK_n ?_
  refine cw_cond rfl (fun h3 => ?_) (fun h3 => ?_)
  · have p4 := dt h3
    refine cw_seq ?_
    refine cw_seq ?_
    refine cw_region ?_
    refine ow1 (op1_l rfl (lo_fieldAddr rfl fl78_1) ?_)
    refine ow1 (op1_l rfl (lo_load1 (i := 0) (v := .int _ _) rfl ag36 rfl rfl) ?_)
    refine ow1 (op1_l rfl (lo_eql rfl rfl) ?_)
    refine ow_nil ?_
    refine seqK_n ?_
    refine cw_cond rfl (fun h5 => ?_) (fun h5 => ?_)
    · have p6 := dt h5
      refine cw_region ?_
      refine ow1 (op1_l rfl (lo_fieldAddr rfl fl78_1) ?_)
      refine ow1 (op1_store1 (i := 0) (v := .int _ _) rfl rfl rfl sz36 rfl rfl ?_)
      refine ow_nil ?_
      refine seqK_n ?_
      refine cw_seq ?_
      refine cw_region ?_
      refine ow1 (op1_l rfl (lo_loadA (i := 0) (vs := [_, _]) rfl ag78 sz78 rfl rfl rfl) ?_)
      refine ow1 (op1_storeA (i := 1) (vs := [_, _]) rfl rfl rfl sz78 rfl rfl rfl ?_)
      refine ow_nil ?_
      refine seqK_n ?_
      refine cw_ret ?_
      refine seqK_r ?_
      refine fnK_r (res1 rfl (rv_c (i := 1) (vs := [_, _]) rfl ag78 sz78 rfl rfl rfl)) (.refl _) ?_
      simp [outText, Out.cells, *]
    · have p7 := df h5
      refine cw_skip ?_
      refine seqK_n ?_
      refine cw_seq ?_
      refine cw_region ?_
      refine ow1 (op1_l rfl (lo_loadA (i := 0) (vs := [_, _]) rfl ag78 sz78 rfl rfl rfl) ?_)
      refine ow1 (op1_storeA (i := 1) (vs := [_, _]) rfl rfl rfl sz78 rfl rfl rfl ?_)
      refine ow_nil ?_
      refine seqK_n ?_
      refine cw_ret ?_
      refine seqK_r ?_
      refine fnK_r (res1 rfl (rv_c (i := 1) (vs := [_, _]) rfl ag78 sz78 rfl rfl rfl)) (.refl _) ?_
      simp [outText, Out.cells, *]
  · have p8 := df h3
    refine cw_skip ?_
    refine seqK_n ?_
    refine cw_seq ?_
    refine cw_region ?_
    refine ow1 (op1_l rfl (lo_loadA (i := 0) (vs := [_, _]) rfl ag78 sz78 rfl rfl rfl) ?_)
    refine ow1 (op1_l rfl (lo_move (v := str _) rfl) ?_)
    refine ow1 (op1_l rfl (lo_len_str rfl Tryd.underlying9) ?_)
    refine ow1 (op1_l rfl (lo_conv_in rfl (by rw [Tryd.underlying3]; rfl) Tryd.underlying22 (rg_u64 (by omega))) ?_)
    refine ow1 (op1_pr (out_Num _ o (s.length : Int) (by omega) 2 (by omega) (by first | omega | (have := hrl (by assumption); omega) | (simp [outNum, outRaw, numB_len, numK] <;> omega) | (have := hrl (by assumption); simp [outNum, outRaw, numB_len, numK] <;> omega))) (en_f cb46 rfl) rfl ?_)
    have := outNum_len o (s.length : Int) 2
    refine ow1 (op1_l rfl (lo_move (v := str _) rfl) ?_)
    refine ow1 (op1_pr (out_Raw _ (outNum o (s.length : Int) 2) s (by first | omega | (have := hrl (by assumption); omega) | (simp [outNum, outRaw, numB_len, numK] <;> omega) | (have := hrl (by assumption); simp [outNum, outRaw, numB_len, numK] <;> omega))) (en_f cb48 rfl) rfl ?_)
    have := outRaw_len (outNum o (s.length : Int) 2) s
    refine ow1 (op1_storeA (i := 1) (vs := [_, _]) rfl rfl rfl sz78 rfl rfl rfl ?_)
    refine ow_nil ?_
    refine seqK_n ?_
    refine cw_ret ?_
    refine fnK_r (res1 rfl (rv_c (i := 1) (vs := [_, _]) rfl ag78 sz78 rfl rfl rfl)) (.refl _) ?_
    simp [outText, Out.cells, *]

theorem words_Name (H : Hp) (s : Bs) (hs : s.length ≤ 9223372036854775807) : Pr Tryd.prog 54 #[str s] H (.int .i64 (nameE s)) := by
  refine pr_cw Tryd.func54 rfl Tryd.ntmps54 rfl (fun N => ?_)
  refine cw_seq ?_
  refine cw_region ?_
  refine ow1 (op1_l rfl (lo_assign (v := .int _ _) rfl) ?_)
  refine ow_nil ?_
  refine seqK_n ?_
  refine cw_seq ?_
  refine cw_block ?_
  refine cw_seq ?_
  refine cw_region ?_
  refine ow1 (op1_l rfl (lo_move (v := str _) rfl) ?_)
  refine ow1 (op1_l rfl (lo_seql rfl rfl) ?_)
  refine ow1 (op1_l rfl (lo_assign (v := .bool _) rfl) ?_)
  refine ow_nil ?_
  refine seqK_n ?_
  refine cw_cond rfl (fun h1 => ?_) (fun h1 => ?_)
  · have p2 := dt h1
    refine cw_seq ?_
    refine cw_region ?_
    refine ow1 (op1_l rfl (lo_assign (v := .int _ _) rfl) ?_)
    refine ow_nil ?_
    refine seqK_n ?_
    refine cw_ret ?_
    refine blkK_r ?_
    refine seqK_r ?_
    refine fnK_r (res1 rfl (rv_t (v := .int _ _) rfl)) (.refl _) ?_
    simp [nameE, *] <;> omega
  · have p3 := df h1
    refine cw_seq ?_
    refine cw_region ?_
    refine ow1 (op1_l rfl (lo_move (v := str _) rfl) ?_)
    refine ow1 (op1_l rfl (lo_len_str rfl Tryd.underlying9) ?_)
    refine ow1 (op1_l rfl (lo_gtr rfl rfl) ?_)
    refine ow1 (op1_l rfl (lo_assign (v := .bool _) rfl) ?_)
    refine ow_nil ?_
    refine seqK_n ?_
    refine cw_cond rfl (fun h4 => ?_) (fun h4 => ?_)
    · have p5 := dt h4
      refine cw_seq ?_
      refine cw_region ?_
      refine ow1 (op1_l rfl (lo_assign (v := .int _ _) rfl) ?_)
      refine ow_nil ?_
      refine seqK_n ?_
      refine cw_ret ?_
      refine blkK_r ?_
      refine seqK_r ?_
      refine fnK_r (res1 rfl (rv_t (v := .int _ _) rfl)) (.refl _) ?_
      simp [nameE, *] <;> omega
    · have p6 := df h4
      refine cw_seq ?_
      refine cw_region ?_
      refine ow1 (op1_l rfl (lo_move (v := str _) rfl) ?_)
      refine ow1 (op1_pr (words_plain _ s (by omega)) (en_f cb82 rfl) rfl ?_)
      refine ow1 (op1_l rfl (lo_not rfl) ?_)
      refine ow1 (op1_l rfl (lo_assign (v := .bool _) rfl) ?_)
      refine ow_nil ?_
      refine seqK_n ?_
      refine cw_cond rfl (fun h7 => ?_) (fun h7 => ?_)
      · have h8 := not_t h7
        refine cw_seq ?_
        refine cw_region ?_
        refine ow1 (op1_l rfl (lo_assign (v := .int _ _) rfl) ?_)
        refine ow_nil ?_
        refine seqK_n ?_
        refine cw_ret ?_
        refine blkK_r ?_
        refine seqK_r ?_
        refine fnK_r (res1 rfl (rv_t (v := .int _ _) rfl)) (.refl _) ?_
        simp [nameE, *] <;> omega
      · have h9 := not_f h7
        refine cw_skip ?_
        refine blkK_n ?_
        refine seqK_n ?_
        refine cw_seq ?_
        refine cw_region ?_
        refine ow1 (op1_l rfl (lo_assign (v := .int _ _) rfl) ?_)
        refine ow_nil ?_
        refine seqK_n ?_
        refine cw_ret ?_
        refine fnK_r (res1 rfl (rv_t (v := .int _ _) rfl)) (.refl _) ?_
        simp [nameE, *] <;> omega

end Go.SW


set_option linter.unusedVariables false
set_option maxRecDepth 100000
set_option maxHeartbeats 4000000
namespace Go.SW
open Go.Proofs
theorem cb113 : Callable Tryd.prog 113 := callable_of Tryd.func113 (by kernel_rfl) (by kernel_rfl)
theorem cb127 : Callable Tryd.prog 127 := callable_of Tryd.func127 (by kernel_rfl) (by kernel_rfl)
theorem cb98 : Callable Tryd.prog 98 := callable_of Tryd.func98 (by kernel_rfl) (by kernel_rfl)

theorem words_Split (H : Hp) (s : Bs) (hML : GInt H 2) (hs : s.length < 4294967281) : Ph Tryd.prog 113 #[str s] H (fun v H' => ∃ (a1 : Option Addr) (c1 : Nat), v = .slice a1 (wordsOf s).length c1 ∧ SlH strE 1 H' (.slice a1 (wordsOf s).length c1) (wordsOf s)) := by
  refine ph_cw Tryd.func113 rfl Tryd.ntmps113 rfl (fun N => ?_)
  refine cw_seq ?_
  refine cw_region ?_
  refine ow1 (op1_l rfl (lo_assign (v := .slice _ _ _) rfl) ?_)
  refine ow_nil ?_
  refine seqK_n ?_
  refine cw_seq ?_
  refine cw_seq ?_
  refine cw_region ?_
  refine ow1 (op1_l rfl (lo_move (v := str _) rfl) ?_)
  refine ow1 (op1_l rfl (lo_seql rfl rfl) ?_)
  refine ow_nil ?_
  refine seqK_n ?_
  refine cw_cond rfl (fun h1 => ?_) (fun h1 => ?_)
  · have p2 := dt h1
    refine cw_seq ?_
    refine cw_region ?_
    refine ow1 (op1_l rfl (lo_assign (v := .slice _ _ _) rfl) ?_)
    refine ow_nil ?_
    refine seqK_n ?_
    refine cw_ret ?_
    refine seqK_r ?_
    refine fnK_r (res1 rfl (rv_t (v := .slice _ _ _) rfl)) (.refl _) ?_
    have e : wordsOf s = [] := by simp [wordsOf, *]
    rw [e]
    exact ⟨none, 0, rfl, slh_nil⟩
  · have p3 := df h1
    refine cw_skip ?_
    refine seqK_n ?_
    refine cw_seq ?_
    refine cw_region ?_
    refine ow1 (op1_l rfl (lo_move (v := str _) rfl) ?_)
    refine ow1 (op1_ph (strings_Split _ s [46] (by rfl) hML (by omega)) (en_f cb127 rfl) rfl ?_)
    rintro _ H8 ⟨a4, c5, rfl, hs6⟩ hl7
    refine ow1 (op1_l rfl (lo_assign (v := .slice _ _ _) rfl) ?_)
    refine ow_nil ?_
    refine seqK_n ?_
    refine cw_ret ?_
    refine fnK_r (res1 rfl (rv_t (v := .slice _ _ _) rfl)) ((HLe.refl _).trans hl7) ?_
    have e : wordsOf s = dots s := by simp [wordsOf, *]
    rw [e]
    exact ⟨_, _, rfl, hs6⟩

theorem words_key (H : Hp) (s : Bs) (besides_a : Option Addr) (besides_l besides_c : Nat) (besides : List Bs) (besides_h : SlH strE 1 H (.slice besides_a besides_l besides_c) besides) (hML : GInt H 2) (hbl : besides.length < 4294967281) : Pr Tryd.prog 98 #[str s, .slice besides_a besides_l besides_c] H (.int .i64 (keyE besides s)) := by
  refine pr_cw Tryd.func98 rfl Tryd.ntmps98 rfl (fun N => ?_)
  refine cw_seq ?_
  refine cw_region ?_
  refine ow1 (op1_l rfl (lo_assign (v := .int _ _) rfl) ?_)
  refine ow_nil ?_
  refine seqK_n ?_
  refine cw_scope ?_
  refine cw_seq ?_
  refine cw_seq ?_
  refine cw_region ?_
  refine ow1 (op1_l rfl (lo_move (v := str _) rfl) ?_)
  refine ow1 (op1_l rfl (lo_len_str rfl Tryd.underlying9) ?_)
  refine ow1 (op1_l rfl (lo_gtr rfl rfl) ?_)
  refine ow_nil ?_
  refine seqK_n ?_
  refine cw_cond rfl (fun h1 => ?_) (fun h1 => ?_)
  · have p2 := dt h1
    refine cw_seq ?_
    refine cw_region ?_
    refine ow1 (op1_l rfl (lo_assign (v := .int _ _) rfl) ?_)
    refine ow_nil ?_
    refine seqK_n ?_
    refine cw_ret ?_
    refine seqK_r ?_
    refine scK_r ?_
    refine fnK_r (res1 rfl (rv_t (v := .int _ _) rfl)) (.refl _) ?_
    simp [keyE, *]
  · have p3 := df h1
    refine cw_skip ?_
    refine seqK_n ?_
    refine cw_seq ?_
    refine cw_label ?_
    refine seqK_n ?_
    refine cw_seq ?_
    refine cw_seq ?_
    refine cw_region ?_
    refine ow1 (op1_l rfl (lo_move (v := str _) rfl) ?_)
    refine ow1 (op1_ph (words_Split _ s hML (by omega)) (en_f cb113 rfl) rfl ?_)
    rintro _ H8 ⟨a4, c5, rfl, hs6⟩ hl7
    refine ow1 (op1_l rfl (lo_len_slh rfl hs6 Tryd.underlying108) ?_)
    refine ow1 (op1_l rfl (lo_move (v := .int _ _) rfl) ?_)
    refine ow_nil ?_
    refine seqK_n ?_
    refine cw_block ?_
    refine cw_loop1 [4, 6, 8, 15, 16, 17, 18, 19, 20, 21, 22, 23, 24, 25, 26, 27, 28, 29, 30, 31, 32, 33, 34, 35, 36] [] (fun (k : Nat) G => upd (G) 15 (.int .i64 (k : Int))) (fun (k : Nat) G => G) (fun (k : Nat) H' => k ≤ (wordsOf s).length ∧ (wordsOf s).any (isBad besides) = ((wordsOf s).drop k).any (isBad besides)) (fun (k : Nat) => (wordsOf s).length - k) 0 (upd_intro (mask_intro (by first | exact off_refl | (repeat (first | exact off_mask | refine off_upd rfl ?_ | refine off_mask2 rfl ?_)))) rfl) (lmask_intro offl_refl) ?_ ?_
    · exact ⟨Nat.zero_le _, by simp⟩
    · intro k J10 JL10 H10 hp9 hl10
      obtain ⟨hk1, hk2⟩ := hp9
      have hwl := words_le s
      refine cw_seq ?_
      refine cw_region ?_
      refine ow1 (op1_l rfl (lo_lss rfl rfl) ?_)
      refine ow_nil ?_
      refine seqK_n ?_
      refine cw_seq ?_
      refine cw_cond rfl (fun h11 => ?_) (fun h11 => ?_)
      · have p12 := dt h11
        refine cw_skip ?_
        refine seqK_n ?_
        refine cw_seq ?_
        refine cw_block ?_
        refine cw_seq ?_
        refine cw_region ?_
        obtain ⟨c13, hc14⟩ := getE (xs := wordsOf s) (m := k) (by omega)
        obtain ⟨cs15, hE16, at17⟩ := (hs6.mono ((HLe.refl _).trans hl10) (fun _ _ h => h)).get hc14
        obtain ⟨rfl, c13_w⟩ := hE16
        have c13_w : c13.length ≤ 9223372036854775807 := c13_w
        refine ow1 (op1_l rfl (lo_indexAddr rfl rfl (hs6.mono ((HLe.refl _).trans hl10) (fun _ _ h => h)).1 at17 Tryd.underlying108 sz9 (by omega) (by omega)) ?_)
        refine ow1 (op1_l rfl (lo_loadE1 rfl ag9 at17) ?_)
        refine ow1 (op1_l rfl (lo_assign (v := str _) rfl) ?_)
        refine ow_nil ?_
        refine seqK_n ?_
        refine cw_seq ?_
        refine cw_seq ?_
        refine cw_region ?_
        refine ow1 (op1_l rfl (lo_move (v := .slice _ _ _) rfl) ?_)
        refine ow1 (op1_l rfl (lo_len_slh rfl (besides_h.mono (((HLe.refl _).trans hl7).trans hl10) (fun _ _ h => h)) Tryd.underlying108) ?_)
        refine ow1 (op1_l rfl (lo_move (v := .int _ _) rfl) ?_)
        refine ow_nil ?_
        refine seqK_n ?_
        refine cw_block ?_
        refine cw_loop1 [8, 21, 22, 23, 24, 25, 26, 27, 28] [] (fun (j : Nat) G => upd (G) 21 (.int .i64 (j : Int))) (fun (j : Nat) G => G) (fun (j : Nat) H' => j ≤ besides.length ∧ besides.contains c13 = (besides.drop j).contains c13) (fun (j : Nat) => besides.length - j) 0 (upd_intro (mask_intro (by first | exact off_refl | (repeat (first | exact off_mask | refine off_upd rfl ?_ | refine off_mask2 rfl ?_)))) rfl) (lmask_intro offl_refl) ?_ ?_
        · exact ⟨Nat.zero_le _, by simp⟩
        · intro j J19 JL19 H19 hp18 hl19
          obtain ⟨hj1, hj2⟩ := hp18
          refine cw_seq ?_
          refine cw_region ?_
          refine ow1 (op1_l rfl (lo_lss rfl rfl) ?_)
          refine ow_nil ?_
          refine seqK_n ?_
          refine cw_seq ?_
          refine cw_cond rfl (fun h20 => ?_) (fun h20 => ?_)
          · have p21 := dt h20
            refine cw_skip ?_
            refine seqK_n ?_
            refine cw_seq ?_
            refine cw_block ?_
            refine cw_seq ?_
            refine cw_region ?_
            obtain ⟨c22, hc23⟩ := getE (xs := besides) (m := j) (by omega)
            obtain ⟨cs24, hE25, at26⟩ := (besides_h.mono ((((HLe.refl _).trans hl7).trans hl10).trans hl19) (fun _ _ h => h)).get hc23
            obtain ⟨rfl, c22_w⟩ := hE25
            have c22_w : c22.length ≤ 9223372036854775807 := c22_w
            refine ow1 (op1_l rfl (lo_indexAddr rfl rfl (besides_h.mono ((((HLe.refl _).trans hl7).trans hl10).trans hl19) (fun _ _ h => h)).1 at26 Tryd.underlying108 sz9 (by omega) (by omega)) ?_)
            refine ow1 (op1_l rfl (lo_loadE1 rfl ag9 at26) ?_)
            refine ow1 (op1_l rfl (lo_assign (v := str _) rfl) ?_)
            refine ow_nil ?_
            refine seqK_n ?_
            refine cw_seq ?_
            refine cw_region ?_
            refine ow1 (op1_l rfl (lo_move (v := str _) rfl) ?_)
            refine ow1 (op1_l rfl (lo_move (v := str _) rfl) ?_)
            refine ow1 (op1_l rfl (lo_seql rfl rfl) ?_)
            refine ow_nil ?_
            refine seqK_n ?_
            refine cw_cond rfl (fun h27 => ?_) (fun h27 => ?_)
            · have p28 := dt h27
              refine cw_exit ?_
              refine blkK_e rfl ?_
              refine seqK_e ?_
              refine loopK_e ?_
              refine blkK_e rfl ?_
              refine seqK_e ?_
              refine blkK_hit ?_
              refine seqK_n ?_
              refine cw_region ?_
              refine ow1 (op1_l rfl (lo_add rfl rfl (rg_i64 (by omega))) ?_)
              refine ow1 (op1_l rfl (lo_move (v := .int _ _) rfl) ?_)
              refine ow_nil ?_
              refine next1 (k + 1) (upd_intro (mask_intro (by first | exact off_refl | (repeat (first | exact off_mask | refine off_upd rfl ?_ | refine off_mask2 rfl ?_)))) rfl) (lmask_intro (by first | exact offl_refl | (repeat (first | exact offl_mask | refine offl_upd rfl ?_ | refine offl_mask2 rfl ?_)))) (hl10.trans hl19) ?_ ?_
              · refine ⟨by omega, ?_⟩
                rw [hk2, dropE hc14, List.any_cons]
                have hb : isBad besides c13 = false := by
                  unfold isBad
                  rw [hj2, dropE hc23]
                  simp [*]
                simp [hb]
              · omega
            · have p29 := df h27
              refine cw_skip ?_
              refine blkK_n ?_
              refine seqK_n ?_
              refine cw_region ?_
              refine ow1 (op1_l rfl (lo_add rfl rfl (rg_i64 (by omega))) ?_)
              refine ow1 (op1_l rfl (lo_move (v := .int _ _) rfl) ?_)
              refine ow_nil ?_
              refine next1 (j + 1) (upd_intro (mask_intro (by first | exact off_refl | (repeat (first | exact off_mask | refine off_upd rfl ?_ | refine off_mask2 rfl ?_)))) rfl) (lmask_intro (by first | exact offl_refl | (repeat (first | exact offl_mask | refine offl_upd rfl ?_ | refine offl_mask2 rfl ?_)))) hl19 ?_ ?_
              · refine ⟨by omega, ?_⟩
                rw [hj2, dropE hc23, List.contains_cons]
                simp [*]
              · omega
          · have p30 := df h20
            refine cw_exit ?_
            refine seqK_e ?_
            refine loopK_e ?_
            refine blkK_hit ?_
            refine seqK_n ?_
            refine cw_seq ?_
            refine cw_region ?_
            refine ow1 (op1_l rfl (lo_move (v := str _) rfl) ?_)
            refine ow1 (op1_l rfl (lo_seql rfl rfl) ?_)
            refine ow1 (op1_l rfl (lo_move (v := .bool _) rfl) ?_)
            refine ow_sp (j := 2) rfl (fun h31 => ?_) (fun h31 => ?_)
            · have p32 := dt h31
              refine ow1 (op1_gs rfl h31 rfl ?_)
              refine ow1 (op1_gs rfl h31 rfl ?_)
              refine ow1 (op1_gs rfl h31 rfl ?_)
              refine ow1 (op1_l rfl (lo_pick_t (v := .bool _) rfl h31 rfl) ?_)
              refine ow_nil ?_
              refine seqK_n ?_
              refine cw_cond_t rfl rfl ?_
              refine cw_seq ?_
              refine cw_region ?_
              refine ow1 (op1_l rfl (lo_assign (v := .int _ _) rfl) ?_)
              refine ow_nil ?_
              refine seqK_n ?_
              refine cw_ret ?_
              refine blkK_r ?_
              refine seqK_r ?_
              refine loopK_r ?_
              refine blkK_r ?_
              refine seqK_r ?_
              refine scK_r ?_
              refine fnK_r (res1 rfl (rv_t (v := .int _ _) rfl)) ((((HLe.refl _).trans hl7).trans hl10).trans hl19) ?_
              have hb : isBad besides c13 = true := by
                unfold isBad
                rw [hj2, List.drop_of_length_le (by omega)]
                simp [*]
              unfold keyE
              rw [if_neg (by omega), hk2, dropE hc14, List.any_cons, hb]
              rfl
            · have p33 := df h31
              refine ow1 (op1_g rfl h31 rfl (lo_move (v := str _) rfl) ?_)
              refine ow1 (op1_prg rfl h31 (words_plain _ c13 (by omega)) (en_f cb82 rfl) rfl ?_)
              refine ow1 (op1_g rfl h31 rfl (lo_not rfl) ?_)
              refine ow1 (op1_l rfl (lo_pick_f (v := .bool _) rfl h31 rfl) ?_)
              refine ow_nil ?_
              refine seqK_n ?_
              refine cw_cond rfl (fun h34 => ?_) (fun h34 => ?_)
              · have h35 := not_t h34
                refine cw_seq ?_
                refine cw_region ?_
                refine ow1 (op1_l rfl (lo_assign (v := .int _ _) rfl) ?_)
                refine ow_nil ?_
                refine seqK_n ?_
                refine cw_ret ?_
                refine blkK_r ?_
                refine seqK_r ?_
                refine loopK_r ?_
                refine blkK_r ?_
                refine seqK_r ?_
                refine scK_r ?_
                refine fnK_r (res1 rfl (rv_t (v := .int _ _) rfl)) ((((HLe.refl _).trans hl7).trans hl10).trans hl19) ?_
                have hb : isBad besides c13 = true := by
                  unfold isBad
                  rw [hj2, List.drop_of_length_le (by omega)]
                  simp [*]
                unfold keyE
                rw [if_neg (by omega), hk2, dropE hc14, List.any_cons, hb]
                rfl
              · have h36 := not_f h34
                refine cw_skip ?_
                refine blkK_n ?_
                refine seqK_n ?_
                refine cw_region ?_
                refine ow1 (op1_l rfl (lo_add rfl rfl (rg_i64 (by omega))) ?_)
                refine ow1 (op1_l rfl (lo_move (v := .int _ _) rfl) ?_)
                refine ow_nil ?_
                refine next1 (k + 1) (upd_intro (mask_intro (by first | exact off_refl | (repeat (first | exact off_mask | refine off_upd rfl ?_ | refine off_mask2 rfl ?_)))) rfl) (lmask_intro (by first | exact offl_refl | (repeat (first | exact offl_mask | refine offl_upd rfl ?_ | refine offl_mask2 rfl ?_)))) (hl10.trans hl19) ?_ ?_
                · refine ⟨by omega, ?_⟩
                  rw [hk2, dropE hc14, List.any_cons]
                  have hb : isBad besides c13 = false := by
                    unfold isBad
                    rw [hj2, List.drop_of_length_le (by omega)]
                    simp [*]
                  simp [hb]
                · omega
      · have p37 := df h11
        refine cw_exit ?_
        refine seqK_e ?_
        refine loopK_e ?_
        refine blkK_hit ?_
        refine seqK_n ?_
        refine cw_seq ?_
        refine cw_region ?_
        refine ow1 (op1_l rfl (lo_assign (v := .int _ _) rfl) ?_)
        refine ow_nil ?_
        refine seqK_n ?_
        refine cw_ret ?_
        refine scK_r ?_
        refine fnK_r (res1 rfl (rv_t (v := .int _ _) rfl)) (((HLe.refl _).trans hl7).trans hl10) ?_
        unfold keyE
        rw [if_neg (by omega), hk2, List.drop_of_length_le (by omega)]
        rfl

theorem words_Key (H : Hp) (s : Bs) (hML : GInt H 2) : Pr Tryd.prog 83 #[str s] H (.int .i64 (keyE [] s)) := by
  refine pr_cw Tryd.func83 rfl Tryd.ntmps83 rfl (fun N => ?_)
  refine cw_seq ?_
  refine cw_region ?_
  refine ow1 (op1_l rfl (lo_assign (v := .int _ _) rfl) ?_)
  refine ow_nil ?_
  refine seqK_n ?_
  refine cw_seq ?_
  refine cw_region ?_
  refine ow1 (op1_l rfl (lo_move (v := str _) rfl) ?_)
  refine ow1 (op1_pr (words_key _ s none 0 0 [] slh_nil hML (by first | (simp; done) | omega)) (en_f cb98 rfl) rfl ?_)
  refine ow1 (op1_l rfl (lo_assign (v := .int _ _) rfl) ?_)
  refine ow_nil ?_
  refine seqK_n ?_
  refine cw_ret ?_
  refine fnK_r (res1 rfl (rv_t (v := .int _ _) rfl)) (.refl _) ?_
  rfl

end Go.SW
