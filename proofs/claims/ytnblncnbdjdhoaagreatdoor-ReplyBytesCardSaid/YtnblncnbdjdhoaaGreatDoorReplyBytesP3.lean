/-
  A part of the proof of ReplyBytes: What is read and written, in plain Lean: bytes that are read are those that would be written, and the other way round; heads and replies that are read. Replies that are read, in plain Lean; what is read would be written so; what is written is read again. What the document's reader holds is the program's, seen otherwise. Heads: what is read would be written so; what is written is read again. Lists held against each other; records that are the same; what is gone through, in plain Lean. Replies: what is read would be written so; what is written is read again. Frames: what is written is read again, behind whatever; a beginning of a frame is too short; bytes of frames that come in two pieces are those frames. What the document's reader does, told of what it stands for; names, keys, heads by the document. What the document says of keys, pairs, heads and replies, in plain Lean, and that it is what the program does. Heads that are read, more: what is read is a pair, or a head; what reads behind an error. What the functions of the layers 10 and 11 compute, in plain Lean: rules, methods. What the functions of the layers 13 and 26 (lives) compute, in plain Lean. What the small functions of layer 22 compute, in plain Lean. Exchanges, queues, bindings, deeds. What a deed's kind tells. What is wrong with a deed first, in plain Lean. A message's and a deed's bytes, and what is read of bytes, in plain Lean. The bytes of a message and of a deed, both ways, in plain Lean. What is small is gone through: aids for the document's bytes. Which messages and deeds are gone through. Records, printed by program: their cells, and what is read of them. Places in lists; books of exchanges, in plain Lean. Deeds packed; all deeds that are gone through. What is read of bytes is in its ranges. A deed that is read of bytes is in its ranges. Deeds that are written are read again, and no beginning of them is deeds. Deeds unpacked: how many, and that they are gone through. Drafts, in plain Lean. Records, printed by program: their cells, and what is read of them. Records, printed by program: what their cells stand for. Plain lemmas of the second generation: places found in lists. Answers told piece by piece: a call's answer, a part's answer, a branch; the meeting of several ways. Over any program that the table fits; each asks what it lists. Records, printed by program: what their cells stand for. Lists of lists, gone through; places in lists. Plain laws; each asks what it lists. From the data that a row's arguments read as to the ground of the walks, and back: a world seen as one that is read alone; integers, texts, bools, structs, slices opened; the row's last step. Over any program; no condition. How long a slice that was handed over can be. Over any program; no condition. From the data that a row's arguments read as0 to what values stand for. Over any program; each asks what it lists. Calls whose body is gone through where they stand: what is owned is the same. Over any program; e
-/
import Derived.Test.YtnblncnbdjdhoaaGreatDoorReplyBytesP2
import Derived.Test.YtnblncnbdjdhoaaGreatDoorReplyBytesP1
import Derived.Lib.IndexAny
import Derived.ProofKit
import Derived.OpenShut
import Derived.Deep.Slices
import Derived.Carry
import Derived.Lib.LaidTab
import Derived.SizedLaws
import Derived.Shelf.LaysM
import Derived.Shelf.Strings.IndexAnyAll
import Derived.Test.YtnblncnbdjdhoaaGreatDoorProg
import Derived.Shelf.Strings.Split
import Derived.KernelRfl
set_option linter.unusedVariables false
set_option linter.unusedSimpArgs false
namespace Go.SW
theorem beN_app (a b : Bs) : beN (a ++ b) = beN a * 256 ^ b.length + beN b := by
  have key : ∀ (b : Bs) (x : Nat), b.foldl (fun n c => n * 256 + c.toNat) x = x * 256 ^ b.length + b.foldl (fun n c => n * 256 + c.toNat) 0 := by
    intro b
    induction b with
    | nil => intro x; simp
    | cons c r ih =>
      intro x
      rw [List.foldl_cons, List.foldl_cons, ih (x * 256 + c.toNat), ih (0 * 256 + c.toNat), List.length_cons, Nat.pow_succ]
      rw [Nat.add_mul, Nat.mul_assoc, Nat.mul_comm 256 (256 ^ r.length), Nat.zero_mul, Nat.zero_add]
      omega
  unfold beN
  rw [List.foldl_append, key]
theorem beN_numB : ∀ (k n : Nat), beN (numB k n) = n % 256 ^ k
  | 0, n => by simp [numB, beN, Nat.mod_one]
  | k + 1, n => by
    have ih := beN_numB k n
    have e : numB (k + 1) n = [UInt8.ofNat (n / 256 ^ k)] ++ numB k n := rfl
    rw [e, beN_app, ih, numB_len]
    have h1 : beN [UInt8.ofNat (n / 256 ^ k)] = n / 256 ^ k % 256 := by simp [beN, UInt8.toNat_ofNat']
    rw [h1, Nat.pow_succ, Nat.mod_mul, Nat.mul_comm]
    omega
/-- What was written is read so. -/
theorem inNum_fwd {r : Bs} {n : Int} {k : Nat} (h8 : k ≤ 8) (h0 : 0 ≤ n) (hn : n < 256 ^ k) (hk : 1 ≤ k) : inNum ⟨numB k n.toNat ++ r, 0⟩ k = (n, ⟨r, 0⟩) := by
  have e : min (k : Int) 8 = k := by omega
  have hl := numB_len k n.toNat
  unfold inNum inRaw
  rw [e]
  have c1 : ¬ ((0 : Int) ≠ 0 ∨ (k : Int) ≤ 0) := by omega
  have c2 : ¬ (((numB k n.toNat ++ r).length : Int) < (k : Int)) := by simp [hl]; omega
  simp only [if_neg c1, if_neg c2]
  have e1 : (numB k n.toNat ++ r).take ((k : Int).toNat) = numB k n.toNat := by
    rw [Int.toNat_natCast, List.take_append, hl, Nat.sub_self, List.take_of_length_le (by omega)]; simp
  have e2 : (numB k n.toNat ++ r).drop ((k : Int).toNat) = r := by
    rw [Int.toNat_natCast]
    rw [List.drop_append, hl, Nat.sub_self, List.drop_of_length_le (by omega)]; rfl
  rw [e1, e2, beN_numB]
  have : n.toNat % 256 ^ k = n.toNat := Nat.mod_eq_of_lt (by
    have h2 : ((n.toNat : Nat) : Int) < ((256 ^ k : Nat) : Int) := by
      rw [Int.toNat_of_nonneg h0]; simpa using hn
    exact Int.ofNat_lt.1 h2)
  rw [this, Int.toNat_of_nonneg h0]
theorem inNum_fwd1 {r : Bs} {n : Int} (h0 : 0 ≤ n) (hn : n < 256) : inNum ⟨numB 1 n.toNat ++ r, 0⟩ 1 = (n, ⟨r, 0⟩) := inNum_fwd (k := 1) (by omega) h0 (by omega) (by omega)
theorem inNum_fwd8 {r : Bs} {n : Int} (h0 : 0 ≤ n) (hn : n < 18446744073709551616) : inNum ⟨numB 8 n.toNat ++ r, 0⟩ 8 = (n, ⟨r, 0⟩) := inNum_fwd (k := 8) (by omega) h0 (by omega) (by omega)
theorem inText_fwd {s r : Bs} {m : Int} (h1 : (s.length : Int) ≤ m) (h2 : (s.length : Int) ≤ 65535) : inText ⟨numB 2 s.length ++ (s ++ r), 0⟩ m = (s, ⟨r, 0⟩) := by
  have e := inNum_fwd (r := s ++ r) (n := s.length) (k := 2) (by omega) (by omega) (by omega) (by omega)
  rw [Int.toNat_natCast] at e
  unfold inText
  have e' : inNum ⟨numB 2 s.length ++ (s ++ r), 0⟩ 2 = ((s.length : Int), ⟨s ++ r, 0⟩) := e
  rw [e']
  simp only
  rw [if_neg (by omega)]
  unfold inRaw
  by_cases hz : s = []
  · subst hz; simp
  · have hp : 0 < s.length := List.length_pos_iff.2 hz
    have c1 : ¬ ((0 : Int) ≠ 0 ∨ (s.length : Int) ≤ 0) := by omega
    have c2 : ¬ (((s ++ r).length : Int) < (s.length : Int)) := by simp; omega
    simp only [if_neg c1, if_neg c2]
    simp
theorem inNum_bad {i : In} (h : i.err ≠ 0) (b : Int) : inNum i b = (0, i) := by
  unfold inNum inRaw
  rw [if_pos (.inl h)]; rfl
theorem inText_bad {i : In} (h : i.err ≠ 0) (m : Int) : (inText i m).1 = [] ∧ (inText i m).2 = (if m < 0 then inFail i 5 else i) := by
  unfold inText
  rw [inNum_bad h]
  unfold inRaw
  simp
/-! Heads that are read -/
def readOne (i : In) : Pair × In :=
  let a := inText i 16
  let b := inNum a.2 1
  if b.1 = 0 then (⟨a.1, 0, IntKind.wrap .i64 (inNum b.2 8).1, []⟩, (inNum b.2 8).2)
  else if b.1 = 1 then (⟨a.1, 1, 0, (inText b.2 64).1⟩, (inText b.2 64).2)
  else if b.1 = 2 then (⟨a.1, 2, IntKind.wrap .i64 (inNum b.2 1).1, []⟩, (inNum b.2 1).2)
  else (⟨a.1, b.1, 0, []⟩, inFail b.2 8)
def readGo : Nat → In → List Pair → List Pair × In
  | 0, i, h => (h, i)
  | k + 1, i, h =>
    let p := readOne i
    let j := if p.2.err = 0 then inFail p.2 (pairErr p.1 h) else p.2
    if j.err ≠ 0 then ([], j) else readGo k j (h ++ [p.1])
def headRead (i : In) : List Pair × In := readGo (inNum i 1).1.toNat (if 8 < (inNum i 1).1 then inFail (inNum i 1).2 6 else (inNum i 1).2) []
end Go.SW
namespace Go.SW
def Mail.zero : Mail := ⟨0, [], [], [], [], 0, 0⟩
def Reply.zero : Reply := ⟨0, 0, 0, 0, false, [], Mail.zero⟩
/-- What a message that is sent tells. -/
def sentRead (i : In) : (Bool × Mail) × In :=
  let y := inNum i 1
  let shop := inText (if 1 < y.1 then inFail y.2 4 else y.2) 16
  let key := inText shop.2 64
  let head := headRead key.2
  let body := inText head.2 256
  ((decide (y.1 = 1), ⟨0, shop.1, key.1, head.1, body.1, 0, 0⟩), body.2)
def replyRead (c k : Int) (i : In) : Reply × In :=
  if k = 0 then (⟨c, k, 0, 0, false, (inText i 16).1, Mail.zero⟩, (inText i 16).2)
  else if k = 2 ∨ k = 5 ∨ k = 7 then (⟨c, k, (inNum i 8).1, 0, false, [], Mail.zero⟩, (inNum i 8).2)
  else if k = 6 then (⟨c, k, (inNum i 8).1, (inNum (inNum i 8).2 8).1, false, [], Mail.zero⟩, (inNum (inNum i 8).2 8).2)
  else if k = 3 then (⟨c, k, (inNum i 8).1, (inNum (inNum i 8).2 8).1, (sentRead (inNum (inNum i 8).2 8).2).1.1, [], (sentRead (inNum (inNum i 8).2 8).2).1.2⟩, (sentRead (inNum (inNum i 8).2 8).2).2)
  else (⟨c, k, 0, 0, false, [], Mail.zero⟩, i)
def replyOf (f : Frame) : Reply × Int :=
  if f.kind < 64 ∨ 71 < f.kind then (Reply.zero, 8)
  else
    let r := replyRead f.channel (f.kind - 64) ⟨f.body, 0⟩
    let e := if inEnd r.2 = 0 then replyE r.1 else inEnd r.2
    if e ≠ 0 then (Reply.zero, e) else (r.1, 0)
/-! What the document's reader holds -/
structure RIn where
  s : Bs
  pos : Int
  code : Int
def RIn.cells (i : RIn) : List Value := [str i.s, .int .i64 i.pos, .int .i64 i.code]
structure RSt (i : RIn) (I : In) : Prop where
  lo : 0 ≤ i.pos
  hi : i.pos ≤ i.s.length
  len : i.s.length ≤ 9223372036854775807
  err : I.err = i.code
  ok : i.code = 0 → I.s = i.s.drop i.pos.toNat
  bad : i.code ≠ 0 → I.s = []
def rFail (i : RIn) (c : Int) : RIn := if i.code = 0 then ⟨i.s, i.pos, c⟩ else i
end Go.SW
namespace Go.SW
def txtB (s : Bs) : Bs := numB 2 s.length ++ s
def pairB (p : Pair) : Bs := txtB p.key ++ (numB 1 p.kind.toNat ++ (if p.kind = 0 then numB 8 (IntKind.wrap .u64 p.num).toNat else if p.kind = 1 then txtB p.text else numB 1 (IntKind.wrap .u64 p.num).toNat))
theorem outText_s {o : Out} {s : Bs} (h : (s.length : Int) ≤ 65535) : outText o s = ⟨o.s ++ txtB s, o.err⟩ := by
  unfold outText
  rw [if_neg (by omega)]
  have e : numK 2 = 2 := by decide
  simp [outRaw, outNum, e, txtB]
theorem outNum_s {o : Out} {n : Int} {k : Nat} (h : k ≤ 8) : outNum o n k = ⟨o.s ++ numB k n.toNat, o.err⟩ := by
  simp only [outNum, numK]
  rw [show (min (max (k : Int) 0) 8).toNat = k by omega]
theorem outNum1 {o : Out} {n : Int} : outNum o n 1 = ⟨o.s ++ numB 1 n.toNat, o.err⟩ := outNum_s (k := 1) (by omega)
theorem outNum8 {o : Out} {n : Int} : outNum o n 8 = ⟨o.s ++ numB 8 n.toNat, o.err⟩ := outNum_s (k := 8) (by omega)
theorem outNum4 {o : Out} {n : Int} : outNum o n 4 = ⟨o.s ++ numB 4 n.toNat, o.err⟩ := outNum_s (k := 4) (by omega)
theorem pairOut_s {o : Out} {p : Pair} (h : p.key.length ≤ 16 ∧ p.kind ≤ 2 ∧ (p.kind = 1 → p.text.length ≤ 64)) (h0 : 0 ≤ p.kind) : pairOut o p = ⟨o.s ++ pairB p, o.err⟩ := by
  obtain ⟨h1, h2, h3⟩ := h
  have hk : ((p.key.length : Nat) : Int) ≤ 65535 := by omega
  unfold pairOut pairB
  by_cases e0 : p.kind = 0
  · rw [if_pos e0, if_pos e0, outText_s hk, outNum1, outNum8]; simp
  · rw [if_neg e0, if_neg e0]
    by_cases e1 : p.kind = 1
    · have := h3 e1
      rw [if_pos e1, if_pos e1, outText_s hk, outNum1, outText_s (by omega)]; simp
    · rw [if_neg e1, if_neg e1, if_pos (by omega), outText_s hk, outNum1, outNum1]; simp
theorem foldl_pairOut : ∀ {l : List Pair} {o : Out}, (∀ p ∈ l, (p.key.length ≤ 16 ∧ p.kind ≤ 2 ∧ (p.kind = 1 → p.text.length ≤ 64)) ∧ 0 ≤ p.kind) → l.foldl pairOut o = ⟨o.s ++ l.flatMap pairB, o.err⟩
  | [], o, _ => by simp
  | p :: r, o, h => by
    have hp := h p (by simp)
    rw [List.foldl_cons, pairOut_s hp.1 hp.2, foldl_pairOut (fun q hq => h q (by simp [hq]))]
    simp
theorem headBytes_s {h : List Pair} (e : headE h = 0) (h0 : ∀ p ∈ h, 0 ≤ p.kind) : headBytes h = numB 1 h.length ++ h.flatMap pairB := by
  obtain ⟨h1, h2⟩ := headE_ok e
  unfold headBytes headOut
  rw [if_pos e, foldl_pairOut (fun p hp => ⟨h2 p hp, h0 p hp⟩), outNum1]
  simp
theorem wrap_u64i {n : Int} (h0 : -9223372036854775808 ≤ n) (h1 : n ≤ 9223372036854775807) : IntKind.wrap .i64 (IntKind.wrap .u64 n) = n := by
  simp [IntKind.wrap, IntKind.bits, IntKind.signed]; omega
theorem wrap_i64s {n : Int} (h0 : -9223372036854775808 ≤ n) (h1 : n ≤ 9223372036854775807) : IntKind.wrap .i64 n = n := by
  simp [IntKind.wrap, IntKind.bits, IntKind.signed]; omega
theorem readOne_fwd {p : Pair} {r : Bs} (h : p.key.length ≤ 16 ∧ p.kind ≤ 2 ∧ (p.kind = 1 → p.text.length ≤ 64)) (h0 : 0 ≤ p.kind) (hn : -9223372036854775808 ≤ p.num ∧ p.num ≤ 9223372036854775807) (h2 : p.kind = 2 → p.num = 0 ∨ p.num = 1) (h1 : p.kind = 1 → p.num = 0) (ht : p.kind ≠ 1 → p.text = []) :
    readOne ⟨pairB p ++ r, 0⟩ = (p, ⟨r, 0⟩) := by
  obtain ⟨hk, hk2, hk1⟩ := h
  obtain ⟨key, kind, num, text⟩ := p
  simp only at *
  unfold readOne pairB
  simp only
  have e1 : inText ⟨txtB key ++ (numB 1 kind.toNat ++ (if kind = 0 then numB 8 (IntKind.wrap .u64 num).toNat else if kind = 1 then txtB text else numB 1 (IntKind.wrap .u64 num).toNat)) ++ r, 0⟩ 16 = (key, ⟨(numB 1 kind.toNat ++ (if kind = 0 then numB 8 (IntKind.wrap .u64 num).toNat else if kind = 1 then txtB text else numB 1 (IntKind.wrap .u64 num).toNat)) ++ r, 0⟩) := by
    unfold txtB
    rw [List.append_assoc, List.append_assoc]
    exact inText_fwd (by omega) (by omega)
  rw [e1]
  simp only
  have e2 : ∀ z : Bs, inNum ⟨numB 1 kind.toNat ++ z, 0⟩ 1 = (kind, ⟨z, 0⟩) := fun z => inNum_fwd (k := 1) (by omega) h0 (by omega) (by omega)
  rw [List.append_assoc, e2]
  simp only
  have hw := wr_u64 num
  by_cases c0 : kind = 0
  · subst c0
    simp only [if_true]
    have e3 : inNum ⟨numB 8 (IntKind.wrap .u64 num).toNat ++ r, 0⟩ 8 = (IntKind.wrap .u64 num, ⟨r, 0⟩) := inNum_fwd (k := 8) (by omega) (by omega) (by omega) (by omega)
    rw [e3]
    simp only
    rw [wrap_u64i hn.1 hn.2, ht (by decide)]
  · rw [if_neg c0, if_neg c0]
    by_cases c1 : kind = 1
    · subst c1
      simp only [if_true]
      have e3 : inText ⟨txtB text ++ r, 0⟩ 64 = (text, ⟨r, 0⟩) := by
        unfold txtB
        rw [List.append_assoc]
        have := hk1 rfl
        exact inText_fwd (by omega) (by omega)
      rw [e3]
      simp only
      rw [h1 rfl]
    · rw [if_neg c1, if_neg c1]
      have c2 : kind = 2 := by omega
      subst c2
      rw [if_pos rfl]
      have hv : IntKind.wrap .u64 num = num := by
        rcases h2 rfl with e | e <;> rw [e] <;> decide
      have e3 : inNum ⟨numB 1 (IntKind.wrap .u64 num).toNat ++ r, 0⟩ 1 = (num, ⟨r, 0⟩) := by
        rw [hv]
        exact inNum_fwd (k := 1) (by omega) (by rcases h2 rfl with e | e <;> omega) (by rcases h2 rfl with e | e <;> omega) (by omega)
      rw [e3]
      simp only
      rw [wrap_i64s hn.1 hn.2, ht (by decide)]
theorem pairErr_fwd {p : Pair} {ahead : List Pair} (h : pairErr p ahead = 0) : (p.kind = 2 → p.num = 0 ∨ p.num = 1) ∧ (p.kind = 1 → p.num = 0) ∧ (p.kind ≠ 1 → p.text = []) := by
  unfold pairErr at h
  split at h
  · contradiction
  · split at h
    · cases h
    · split at h
      · cases h
      · split at h
        · cases h
        · rename_i h2
          split at h
          · cases h
          · rename_i h3
            refine ⟨fun e => ?_, fun e => ?_, fun e => ?_⟩
            · by_cases q : p.num = 0
              · exact .inl q
              · exact .inr (Decidable.byContradiction fun q2 => h2 ⟨e, q, q2⟩)
            · exact Decidable.byContradiction fun q => h3 (.inl ⟨e, q⟩)
            · exact Decidable.byContradiction fun q => h3 (.inr ⟨e, q⟩)
theorem readGo_fwd : ∀ {l h : List Pair} {r : Bs}, headGo h l = 0 → (∀ p ∈ l, p.wf) → readGo l.length ⟨l.flatMap pairB ++ r, 0⟩ h = (h ++ l, ⟨r, 0⟩)
  | [], h, r, _, _ => by simp [readGo]
  | p :: l, h, r, e, hw => by
    have e1 := headGo_ok e p (by simp)
    simp only [headGo] at e
    split at e
    · contradiction
    · rename_i e0
      have e0' := Decidable.not_not.1 e0
      obtain ⟨q1, q2, q3⟩ := pairErr_fwd e0'
      obtain ⟨w1, w2, _⟩ := hw p (by simp)
      have ho := readOne_fwd (r := l.flatMap pairB ++ r) e1 w1.1 w2 q1 q2 q3
      have es : (p :: l).flatMap pairB ++ r = pairB p ++ (l.flatMap pairB ++ r) := by simp
      simp only [List.length_cons, readGo]
      rw [es, ho]
      simp only [if_true]
      have hf : inFail ⟨l.flatMap pairB ++ r, 0⟩ (pairErr p h) = ⟨l.flatMap pairB ++ r, 0⟩ := by unfold inFail; rw [if_neg (by simp [e0'])]
      rw [hf]
      simp only [ne_eq, not_true_eq_false, if_false]
      rw [readGo_fwd e (fun q hq => hw q (by simp [hq]))]
      simp
theorem headRead_fwd {l : List Pair} {r : Bs} (e : headE l = 0) (hw : ∀ p ∈ l, p.wf) : headRead ⟨headBytes l ++ r, 0⟩ = (l, ⟨r, 0⟩) := by
  have hl := (headE_ok e).1
  have e' := e
  unfold headE at e'
  rw [if_neg (by omega)] at e'
  rw [headBytes_s e (fun p hp => (hw p hp).1.1), List.append_assoc]
  unfold headRead
  have e1 : inNum ⟨numB 1 l.length ++ (l.flatMap pairB ++ r), 0⟩ 1 = ((l.length : Int), ⟨l.flatMap pairB ++ r, 0⟩) := by
    have := inNum_fwd (r := l.flatMap pairB ++ r) (n := (l.length : Int)) (k := 1) (by omega) (by omega) (by omega) (by omega)
    rwa [Int.toNat_natCast] at this
  rw [e1]
  simp only
  rw [if_neg (by omega), Int.toNat_natCast, readGo_fwd e' hw]
  simp
end Go.SW
namespace Go.SW
section
variable {α : Type} [DecidableEq α] {a b ra rb : List α} {x y : α} {k : Nat}
theorem eqL_len (h : ¬ (a.length : Int) = b.length) : decide (a = b) = false := by
  rw [decide_eq_false_iff_not]; rintro rfl; exact h rfl
theorem eqL_step (h : decide (a = b) = decide (a.drop k = b.drop k)) (ha : a.drop k = x :: ra) (hb : b.drop k = y :: rb) (e : x = y) : decide (a = b) = decide (ra = rb) := by
  rw [h, ha, hb, Bool.eq_iff_iff]; simp [e]
theorem eqL_miss (h : decide (a = b) = decide (a.drop k = b.drop k)) (ha : a.drop k = x :: ra) (hb : b.drop k = y :: rb) (e : ¬ x = y) : decide (a = b) = false := by
  rw [h, ha, hb, Bool.eq_iff_iff]; simp [e]
theorem eqL_end (h : decide (a = b) = decide (a.drop k = b.drop k)) (ha : a.length ≤ k) (hb : b.length ≤ k) : decide (a = b) = true := by
  rw [h, List.drop_of_length_le ha, List.drop_of_length_le hb]; simp
end
section
variable {α : Type} {p : α → Bool} {a r : List α} {x : α} {k : Nat}
theorem all_step (h : a.all p = (a.drop k).all p) (ha : a.drop k = x :: r) (e : p x = true) : a.all p = r.all p := by rw [h, ha]; simp [e]
theorem all_miss (h : a.all p = (a.drop k).all p) (ha : a.drop k = x :: r) (e : p x = false) : a.all p = false := by rw [h, ha]; simp [e]
theorem all_end (h : a.all p = (a.drop k).all p) (ha : a.length ≤ k) : a.all p = true := by rw [h, List.drop_of_length_le ha]; rfl
end
theorem Mail.eq_iff {a b : Mail} : a = b ↔ a.id = b.id ∧ a.shop = b.shop ∧ a.key = b.key ∧ a.head = b.head ∧ a.body = b.body ∧ a.due = b.due ∧ a.hops = b.hops := by
  cases a; cases b; simp
theorem Reply.eq_iff {a b : Reply} : a = b ↔ a.channel = b.channel ∧ a.kind = b.kind ∧ a.n = b.n ∧ a.m = b.m ∧ a.yes = b.yes ∧ a.name = b.name ∧ a.mail = b.mail := by
  cases a; cases b; simp
/-! Light -/
def lightP (p : Pair) : Bool := decide (p.key.length ≤ 40) && decide (p.text.length ≤ 100)
def lightH (h : List Pair) : Bool := decide (h.length ≤ 12) && h.all lightP
def lightR (r : Reply) : Bool := decide (max (r.name.length : Int) (r.mail.shop.length : Int) ≤ 40) && decide ((r.mail.key.length : Int) ≤ 100) && lightH r.mail.head && decide ((r.mail.body.length : Int) ≤ 300)
theorem lightH_len (h : List Pair) (e : lightH h = true) : h.length ≤ 12 := by
  simp [lightH] at e; exact e.1
theorem lightR_len (r : Reply) (e : lightR r = true) : r.name.length ≤ 40 ∧ r.mail.shop.length ≤ 40 ∧ r.mail.key.length ≤ 100 ∧ r.mail.head.length ≤ 12 ∧ r.mail.body.length ≤ 300 := by
  simp only [lightR, Bool.and_eq_true, decide_eq_true_eq] at e
  obtain ⟨⟨⟨h1, h3⟩, h4⟩, h5⟩ := e
  have := lightH_len _ h4
  omega
end Go.SW
namespace Go.SW
theorem inEnd_nil : inEnd ⟨[], 0⟩ = 0 := rfl
def sentB (yes : Bool) (m : Mail) : Bs := numB 1 (if yes = true then (1 : Int) else 0).toNat ++ (txtB m.shop ++ (txtB m.key ++ (headBytes m.head ++ txtB m.body)))
theorem replyOut_0 {r : Reply} (k : r.kind = 0) (h : (r.name.length : Int) ≤ 65535) : (replyOut r).s = txtB r.name := by
  simp only [replyOut, replyOut1]
  rw [if_neg (by omega), if_pos k, outText_s h]; rfl
theorem replyOut_n {r : Reply} (k : r.kind = 2 ∨ r.kind = 5 ∨ r.kind = 7) : (replyOut r).s = numB 8 r.n.toNat := by
  simp only [replyOut, replyOut1]
  rw [if_neg (by omega), if_neg (by omega), if_pos k, outNum8]; rfl
theorem replyOut_6 {r : Reply} (k : r.kind = 6) : (replyOut r).s = numB 8 r.n.toNat ++ numB 8 r.m.toNat := by
  simp only [replyOut, replyOut1]
  rw [if_neg (by omega), if_neg (by omega), if_neg (by omega), if_pos (by omega), outNum8, outNum8]; rfl
theorem replyOut_3 {r : Reply} (k : r.kind = 3) (h1 : (r.mail.shop.length : Int) ≤ 65535) (h2 : (r.mail.key.length : Int) ≤ 65535) (h3 : (r.mail.body.length : Int) ≤ 65535) : (replyOut r).s = numB 8 r.n.toNat ++ (numB 8 r.m.toNat ++ sentB r.yes r.mail) := by
  simp only [replyOut, replyOut1]
  rw [if_pos k, if_neg (by omega), if_neg (by omega), if_pos (by omega), outNum8, outNum8, outNum1, outText_s h1, outText_s h2]
  simp only [outRaw]
  rw [outText_s h3]
  simp [sentB]
theorem replyOut_e {r : Reply} (k0 : r.kind ≠ 0) (k2 : ¬ (r.kind = 2 ∨ r.kind = 5 ∨ r.kind = 7)) (k3 : ¬ (r.kind = 3 ∨ r.kind = 6)) : (replyOut r).s = [] := by
  simp only [replyOut, replyOut1]
  rw [if_neg (by omega), if_neg k0, if_neg k2, if_neg k3]
theorem sentRead_fwd {yes : Bool} {m : Mail} {r : Bs} (h1 : m.shop.length ≤ 16) (h2 : m.key.length ≤ 64) (h3 : headE m.head = 0) (hh : ∀ p ∈ m.head, p.wf) (h4 : m.body.length ≤ 256) (hz : m.id = 0 ∧ m.due = 0 ∧ m.hops = 0) :
    sentRead ⟨sentB yes m ++ r, 0⟩ = ((yes, m), ⟨r, 0⟩) := by
  obtain ⟨id, shop, key, head, body, due, hops⟩ := m
  simp only at *
  obtain ⟨rfl, rfl, rfl⟩ := hz
  have ey : ∀ z : Bs, inNum ⟨numB 1 (if yes = true then (1 : Int) else 0).toNat ++ z, 0⟩ 1 = ((if yes = true then (1 : Int) else 0), ⟨z, 0⟩) := fun z => inNum_fwd1 (by split <;> omega) (by split <;> omega)
  have et : ∀ (s z : Bs) (q : Int), (s.length : Int) ≤ q → (s.length : Int) ≤ 65535 → inText ⟨txtB s ++ z, 0⟩ q = (s, ⟨z, 0⟩) := fun s z q h1 h2 => by
    unfold txtB; rw [List.append_assoc]; exact inText_fwd h1 h2
  have hy : ¬ (1 < (if yes = true then (1 : Int) else 0)) := by split <;> omega
  unfold sentRead sentB
  simp only [List.append_assoc]
  rw [ey]
  simp only
  rw [if_neg hy, et _ _ _ (by omega) (by omega)]
  simp only
  rw [et _ _ _ (by omega) (by omega)]
  simp only
  rw [headRead_fwd h3 hh]
  simp only
  rw [et _ _ _ (by omega) (by omega)]
  cases yes <;> rfl
theorem replyRead_fwd {r : Reply} (hw : r.wf) (hh : ∀ p ∈ r.mail.head, p.wf) (h : replyE r = 0) : replyRead r.channel r.kind ⟨(replyOut r).s, 0⟩ = (r, ⟨[], 0⟩) := by
  obtain ⟨⟨w1, w2⟩, ⟨w3, w4⟩, ⟨w5, w6⟩, ⟨w7, w8⟩, _⟩ := hw
  have hlen := replyE_len r h
  unfold replyE at h
  split at h
  · cases h
  · rename_i hk
    split at h
    · cases h
    · rename_i hs
      obtain ⟨a1, a2, a3, a4, a5⟩ := spareR_ok (by simpa using hs)
      have en : ∀ z : Bs, inNum ⟨numB 8 r.n.toNat ++ z, 0⟩ 8 = (r.n, ⟨z, 0⟩) := fun z => inNum_fwd8 w5 (by omega)
      have em : ∀ z : Bs, inNum ⟨numB 8 r.m.toNat ++ z, 0⟩ 8 = (r.m, ⟨z, 0⟩) := fun z => inNum_fwd8 w7 (by omega)
      have mz : r.kind ≠ 3 → r.mail = Mail.zero := fun q => by
        obtain ⟨_, b1, b2, b3, b4⟩ := a3 q
        rw [Mail.eq_iff]; exact ⟨a1.1, b1, b2, b3, b4, a1.2.1, a1.2.2⟩
      have yz : r.kind ≠ 3 → r.yes = false := fun q => (a3 q).1
      unfold replyRead
      by_cases k0 : r.kind = 0
      · rw [if_pos k0, replyOut_0 k0 (by omega)]
        have e := inText_fwd (s := r.name) (r := []) (m := 16) (by omega) (by omega)
        rw [List.append_nil] at e
        unfold txtB
        rw [e]
        refine Prod.ext ?_ rfl
        rw [Reply.eq_iff]
        exact ⟨rfl, rfl, (a5 (by omega) (by omega)).symm, (a4 (by omega)).symm, (yz (by omega)).symm, rfl, (mz (by omega)).symm⟩
      · rw [if_neg k0]
        have nz := a2 k0
        by_cases k2 : r.kind = 2 ∨ r.kind = 5 ∨ r.kind = 7
        · rw [if_pos k2, replyOut_n k2]
          have e := en []
          rw [List.append_nil] at e
          rw [e]
          refine Prod.ext ?_ rfl
          rw [Reply.eq_iff]
          exact ⟨rfl, rfl, rfl, (a4 (by omega)).symm, (yz (by omega)).symm, nz.symm, (mz (by omega)).symm⟩
        · rw [if_neg k2]
          by_cases k6 : r.kind = 6
          · rw [if_pos k6, replyOut_6 k6, en]
            simp only
            have e := em []
            rw [List.append_nil] at e
            rw [e]
            refine Prod.ext ?_ rfl
            rw [Reply.eq_iff]
            exact ⟨rfl, rfl, rfl, rfl, (yz (by omega)).symm, nz.symm, (mz (by omega)).symm⟩
          · rw [if_neg k6]
            by_cases k3 : r.kind = 3
            · rw [if_neg k0, if_pos k3] at h
              obtain ⟨m1, m2, m3, m4⟩ := mailE_ok h
              rw [if_pos k3, replyOut_3 k3 (by omega) (by omega) (by omega), en]
              simp only
              rw [em]
              simp only
              have e := sentRead_fwd (yes := r.yes) (r := []) m1 m2 m3 hh m4 a1
              rw [List.append_nil] at e
              rw [e]
              refine Prod.ext ?_ rfl
              rw [Reply.eq_iff]
              exact ⟨rfl, rfl, rfl, rfl, rfl, nz.symm, rfl⟩
            · rw [if_neg k3, replyOut_e k0 k2 (by omega)]
              refine Prod.ext ?_ rfl
              rw [Reply.eq_iff]
              exact ⟨rfl, rfl, (a5 (by omega) (by omega)).symm, (a4 (by omega)).symm, (yz (by omega)).symm, nz.symm, (mz (by omega)).symm⟩
theorem replyOf_fwd {r : Reply} (hw : r.wf) (hh : ∀ p ∈ r.mail.head, p.wf) (h : replyE r = 0) : replyOf (replyFrame r) = (r, 0) := by
  have hk := replyRead_fwd hw hh h
  have hk7 : 0 ≤ r.kind ∧ r.kind ≤ 7 := by
    refine ⟨hw.2.1.1, ?_⟩
    have h' := h
    unfold replyE at h'
    split at h'
    · cases h'
    · omega
  have hwr : IntKind.wrap .u8 (64 + r.kind) = 64 + r.kind := by
    simp [IntKind.wrap, IntKind.bits, IntKind.signed]; omega
  unfold replyOf replyFrame
  rw [if_pos h]
  simp only [hwr]
  rw [if_neg (by omega), show (64 + r.kind - 64 : Int) = r.kind by omega, hk]
  simp only
  rw [if_pos inEnd_nil, if_neg (by simpa using h)]
end Go.SW
namespace Go.SW
def fSum (f : Frame) : Int := crcSum [numB 1 f.channel.toNat ++ (numB 1 f.kind.toNat ++ txtB f.body)]
def frB (f : Frame) : Bs := numB 1 f.channel.toNat ++ (numB 1 f.kind.toNat ++ (txtB f.body ++ (numB 4 (fSum f).toNat ++ numB 1 206)))
theorem frameBytes_s {f : Frame} (h : f.body.length ≤ 2048) : frameBytes f = frB f := by
  unfold frameBytes frameOut frB fSum
  rw [if_neg (by omega), outNum1, outNum1, outText_s (by omega)]
  simp only
  rw [outNum4, outNum1]
  simp only [List.nil_append, List.append_assoc]
  rfl
theorem frB_len (f : Frame) : (frB f).length = f.body.length + 9 := by
  simp [frB, txtB, numB_len]; omega
theorem parse_fwd {f : Frame} (hw : f.wf) (h : f.body.length ≤ 2048) (z : Bs) : parseF (frB f ++ z) = (f, ((frB f).length : Int), 0) := by
  obtain ⟨⟨w1, w2⟩, ⟨w3, w4⟩, _⟩ := hw
  have hs := crcSum_r [numB 1 f.channel.toNat ++ (numB 1 f.kind.toNat ++ txtB f.body)]
  have e1 : ∀ q : Bs, inNum ⟨numB 1 f.channel.toNat ++ q, 0⟩ 1 = (f.channel, ⟨q, 0⟩) := fun q => inNum_fwd (k := 1) (by omega) w1 (by omega) (by omega)
  have e2 : ∀ q : Bs, inNum ⟨numB 1 f.kind.toNat ++ q, 0⟩ 1 = (f.kind, ⟨q, 0⟩) := fun q => inNum_fwd (k := 1) (by omega) w3 (by omega) (by omega)
  have e3 : ∀ q : Bs, inText ⟨txtB f.body ++ q, 0⟩ 2048 = (f.body, ⟨q, 0⟩) := fun q => by unfold txtB; rw [List.append_assoc]; exact inText_fwd (by omega) (by omega)
  have e4 : ∀ q : Bs, inNum ⟨numB 4 (fSum f).toNat ++ q, 0⟩ 4 = (fSum f, ⟨q, 0⟩) := fun q => inNum_fwd (k := 4) (by omega) hs.1 (by have := hs.2; simp only [fSum]; omega) (by omega)
  have e5 : ∀ q : Bs, inNum ⟨numB 1 206 ++ q, 0⟩ 1 = (206, ⟨q, 0⟩) := fun q => inNum_fwd (n := 206) (k := 1) (by omega) (by omega) (by omega) (by omega)
  have hl := frB_len f
  have ht : (frB f ++ z).take (4 + f.body.length) = numB 1 f.channel.toNat ++ (numB 1 f.kind.toNat ++ txtB f.body) := by
    have e : frB f ++ z = (numB 1 f.channel.toNat ++ (numB 1 f.kind.toNat ++ txtB f.body)) ++ ((numB 4 (fSum f).toNat ++ numB 1 206) ++ z) := by simp [frB]
    have el : 4 + f.body.length = (numB 1 f.channel.toNat ++ (numB 1 f.kind.toNat ++ txtB f.body)).length := by simp [txtB, numB_len]; omega
    rw [e, el]; exact List.take_left
  have hb : (⟨frB f ++ z, 0⟩ : In) = ⟨numB 1 f.channel.toNat ++ (numB 1 f.kind.toNat ++ (txtB f.body ++ (numB 4 (fSum f).toNat ++ (numB 1 206 ++ z)))), 0⟩ := by simp [frB]
  unfold parseF
  simp only
  rw [hb, e1]
  simp only
  rw [e2]
  simp only
  rw [e3]
  simp only
  rw [e4]
  simp only
  rw [e5]
  simp only
  rw [ht, if_neg (by simp), if_neg (by simp), if_neg (by simp [fSum])]
  rw [hl]
  congr 2
  omega
theorem inNum_short {s : Bs} {k : Nat} (h : s.length < k) (h8 : k ≤ 8) : inNum ⟨s, 0⟩ k = (0, ⟨[], 3⟩) := by
  unfold inNum inRaw
  rw [show min (k : Int) 8 = k by omega]
  have c1 : ¬ ((0 : Int) ≠ 0 ∨ (k : Int) ≤ 0) := by omega
  simp only [if_neg c1]
  rw [if_pos (by omega)]; rfl
theorem num3 (b : Int) : inNum ⟨[], 3⟩ b = (0, ⟨[], 3⟩) := inNum_bad (by decide) b
theorem text3 {m : Int} (h : 0 ≤ m) : inText ⟨[], 3⟩ m = ([], ⟨[], 3⟩) := by
  obtain ⟨a, b⟩ := inText_bad (i := ⟨[], 3⟩) (by decide) m
  rw [if_neg (by omega)] at b
  exact Prod.ext a b
theorem inText_short {s r : Bs} {n m : Nat} (hn : n ≤ 65535) (hm : n ≤ m) (h : s.length < n + 2) (hp : ∀ q, 2 ≤ s.length → q = s.drop 2 → s = numB 2 n ++ q) : inText ⟨s, 0⟩ m = ([], ⟨[], 3⟩) := by
  by_cases h2 : s.length < 2
  · unfold inText
    rw [show (2 : Int) = ((2 : Nat) : Int) from rfl, inNum_short h2 (by omega)]
    simp only
    rw [if_neg (by omega)]; rfl
  · have e := hp _ (by omega) rfl
    have e2 := inNum_fwd (r := s.drop 2) (n := (n : Int)) (k := 2) (by omega) (by omega) (by omega) (by omega)
    rw [Int.toNat_natCast, ← e] at e2
    have e3 : inNum ⟨s, 0⟩ 2 = ((n : Int), ⟨s.drop 2, 0⟩) := e2
    unfold inText
    rw [e3]
    simp only
    rw [if_neg (by omega)]
    unfold inRaw
    have c1 : ¬ ((0 : Int) ≠ 0 ∨ (n : Int) ≤ 0) := by omega
    have c2 : ((s.drop 2).length : Int) < (n : Int) := by rw [List.length_drop]; omega
    simp only [if_neg c1, if_pos c2]
theorem take_app {a b : Bs} {k : Nat} (h : a.length ≤ k) : (a ++ b).take k = a ++ b.take (k - a.length) := by
  rw [List.take_append, List.take_of_length_le h]
theorem parse_short {f : Frame} (hw : f.wf) (h : f.body.length ≤ 2048) {k : Nat} (hk : k < (frB f).length) : (parseF ((frB f).take k)).2.2 = 3 := by
  obtain ⟨⟨w1, w2⟩, ⟨w3, w4⟩, _⟩ := hw
  have hs := crcSum_r [numB 1 f.channel.toNat ++ (numB 1 f.kind.toNat ++ txtB f.body)]
  have hl := frB_len f
  have e1 : ∀ q : Bs, inNum ⟨numB 1 f.channel.toNat ++ q, 0⟩ 1 = (f.channel, ⟨q, 0⟩) := fun q => inNum_fwd (k := 1) (by omega) w1 (by omega) (by omega)
  have e2 : ∀ q : Bs, inNum ⟨numB 1 f.kind.toNat ++ q, 0⟩ 1 = (f.kind, ⟨q, 0⟩) := fun q => inNum_fwd (k := 1) (by omega) w3 (by omega) (by omega)
  have e3 : ∀ q : Bs, inText ⟨txtB f.body ++ q, 0⟩ 2048 = (f.body, ⟨q, 0⟩) := fun q => by unfold txtB; rw [List.append_assoc]; exact inText_fwd (by omega) (by omega)
  have e4 : ∀ q : Bs, inNum ⟨numB 4 (fSum f).toNat ++ q, 0⟩ 4 = (fSum f, ⟨q, 0⟩) := fun q => inNum_fwd (k := 4) (by omega) hs.1 (by have := hs.2; simp only [fSum]; omega) (by omega)
  have fin : (inNum (inNum (inText (inNum (inNum ⟨(frB f).take k, 0⟩ 1).2 1).2 2048).2 4).2 1).2 = ⟨[], 3⟩ := by
    by_cases k0 : k = 0
    · subst k0
      rw [List.take_zero, show (1 : Int) = ((1 : Nat) : Int) from rfl, inNum_short (s := []) (k := 1) (by simp) (by omega)]
      simp only
      rw [num3]
      simp only
      rw [text3 (by omega)]
      simp only
      rw [num3, num3]
    · have q1 : (frB f).take k = numB 1 f.channel.toNat ++ (numB 1 f.kind.toNat ++ (txtB f.body ++ (numB 4 (fSum f).toNat ++ numB 1 206))).take (k - 1) := by
        unfold frB; rw [take_app (by rw [numB_len]; omega), numB_len]
      rw [q1, e1]
      simp only
      by_cases k1 : k = 1
      · subst k1
        rw [show (1 : Int) = ((1 : Nat) : Int) from rfl, List.take_zero, inNum_short (s := []) (k := 1) (by simp) (by omega)]
        simp only
        rw [text3 (by omega)]
        simp only
        rw [num3, num3]
      · rw [take_app (by rw [numB_len]; omega), numB_len, e2]
        simp only
        by_cases kt : k < f.body.length + 4
        · have ht : inText ⟨(txtB f.body ++ (numB 4 (fSum f).toNat ++ numB 1 206)).take (k - 1 - 1), 0⟩ ((2048 : Nat) : Int) = ([], ⟨[], 3⟩) := by
            refine inText_short (r := []) (n := f.body.length) (by omega) h (by rw [List.length_take]; omega) fun q hq he => ?_
            rw [List.length_take] at hq
            rw [he]
            have : (txtB f.body ++ (numB 4 (fSum f).toNat ++ numB 1 206)).take (k - 1 - 1) = numB 2 f.body.length ++ (f.body ++ (numB 4 (fSum f).toNat ++ numB 1 206)).take (k - 1 - 1 - 2) := by
              unfold txtB; rw [List.append_assoc, take_app (by rw [numB_len]; omega), numB_len]
            rw [this]
            have e2l : (numB 2 f.body.length).length = 2 := numB_len _ _
            rw [List.drop_append, e2l, Nat.sub_self, List.drop_zero, List.drop_of_length_le (by omega), List.nil_append]
          have ht' : inText ⟨(txtB f.body ++ (numB 4 (fSum f).toNat ++ numB 1 206)).take (k - 1 - 1), 0⟩ 2048 = ([], ⟨[], 3⟩) := ht
          rw [ht']
          simp only
          rw [num3, num3]
        · have tl : (txtB f.body).length = f.body.length + 2 := by simp [txtB, numB_len]; omega
          rw [take_app (by omega), tl, e3]
          simp only
          by_cases ks : k < f.body.length + 8
          · have : inNum ⟨(numB 4 (fSum f).toNat ++ numB 1 206).take (k - 1 - 1 - (f.body.length + 2)), 0⟩ ((4 : Nat) : Int) = (0, ⟨[], 3⟩) := inNum_short (by rw [List.length_take]; omega) (by omega)
            have t' : inNum ⟨(numB 4 (fSum f).toNat ++ numB 1 206).take (k - 1 - 1 - (f.body.length + 2)), 0⟩ 4 = (0, ⟨[], 3⟩) := this
            rw [t']
            simp only
            rw [num3]
          · rw [take_app (by rw [numB_len]; omega), numB_len, e4]
            simp only
            have : inNum ⟨(numB 1 206).take (k - 1 - 1 - (f.body.length + 2) - 4), 0⟩ ((1 : Nat) : Int) = (0, ⟨[], 3⟩) := inNum_short (by rw [List.length_take]; omega) (by omega)
            have t' : inNum ⟨(numB 1 206).take (k - 1 - 1 - (f.body.length + 2) - 4), 0⟩ 1 = (0, ⟨[], 3⟩) := this
            rw [t']
  unfold parseF
  simp only
  rw [fin]
  simp
/-! Feeds: the bytes of frames, in two pieces -/
def catB (fs : List Frame) : Bs := fs.flatMap frB
def okF (f : Frame) : Prop := f.wf ∧ f.body.length ≤ 2048
theorem feedGo_take : ∀ (fs : List Frame) (k fuel : Nat) (out : List Frame), (∀ f ∈ fs, okF f) → k ≤ (catB fs).length → k < fuel →
    ∃ j, ∃ r, feedGo fuel ((catB fs).take k) out = (⟨r, 0⟩, out ++ fs.take j) ∧ r ++ (catB fs).drop k = catB (fs.drop j) ∧ (k = (catB fs).length → j = fs.length ∧ r = [])
  | [], k, fuel + 1, out, _, hk, _ => by
    have : k = 0 := by simpa [catB] using hk
    subst this
    refine ⟨0, [], ?_, by simp [catB], fun _ => ⟨rfl, rfl⟩⟩
    have e : (parseF []).2.2 = 3 := by decide +kernel
    simp [catB, feedGo, e]
  | f :: fs, k, fuel + 1, out, hf, hk, hfu => by
    obtain ⟨hw, hb⟩ := hf f (by simp)
    have hl := frB_len f
    have ec : catB (f :: fs) = frB f ++ catB fs := by simp [catB]
    rw [ec]
    rw [ec, List.length_append] at hk
    by_cases hc : (frB f).length ≤ k
    · rw [take_app hc]
      simp only [feedGo]
      rw [parse_fwd hw hb]
      simp only [if_true]
      have ed : (frB f ++ (catB fs).take (k - (frB f).length)).drop (((frB f).length : Int)).toNat = (catB fs).take (k - (frB f).length) := by
        rw [Int.toNat_natCast]; simp
      rw [ed]
      obtain ⟨j, r, h1, h2, h3⟩ := feedGo_take fs (k - (frB f).length) fuel (out ++ [f]) (fun q hq => hf q (by simp [hq])) (by omega) (by omega)
      refine ⟨j + 1, r, by rw [h1]; simp, ?_, fun e => ?_⟩
      · rw [List.drop_append, List.drop_of_length_le hc, List.nil_append, h2]; rfl
      · rw [List.length_append] at e
        obtain ⟨q1, q2⟩ := h3 (by omega)
        exact ⟨by simp [q1], q2⟩
    · have hk' : k < (frB f).length := by omega
      rw [List.take_append_of_le_length (by omega)]
      simp only [feedGo]
      have h3 := parse_short hw hb hk'
      rw [h3]
      refine ⟨0, (frB f).take k, by simp, ?_, fun e => ?_⟩
      · rw [List.drop_append_of_le_length (by omega), ← List.append_assoc, List.take_append_drop]
        simp [catB]
      · rw [List.length_append] at e; omega
end Go.SW
namespace Go.SW
/-! Words by the document -/
theorem dots_none : ∀ {t : Bs}, (∀ c ∈ t, ¬ c = 46) → dots t = [t]
  | [], _ => rfl
  | c :: r, h => by
    have ih := dots_none (t := r) (fun x hx => h x (by simp [hx]))
    unfold dots
    rw [if_neg (h c (by simp)), ih]
theorem dots_at : ∀ {m : Nat} {t : Bs}, (∀ c ∈ t.take m, ¬ c = 46) → t[m]? = some 46 → dots t = t.take m :: dots (t.drop (m + 1))
  | 0, [], _, h => by simp at h
  | 0, c :: r, _, h => by
    have : c = 46 := by simpa using h
    subst this
    rfl
  | m + 1, [], _, h => by simp at h
  | m + 1, c :: r, hn, h => by
    have ih := dots_at (m := m) (t := r) (fun x hx => hn x (by simp [hx])) (by simpa using h)
    rw [dots, if_neg (hn c (by simp)), ih]
    rfl
/-- No dot from f on up to k. -/
def noDot (s : Bs) (f k : Nat) : Prop := ∀ j, f ≤ j → j < k → ¬ s.getD j 0 = 46
theorem noDot_mem {s : Bs} {f k : Nat} (h : noDot s f k) : ∀ c ∈ (s.drop f).take (k - f), ¬ c = 46 := fun c hc => by
  obtain ⟨j, hj, rfl⟩ := List.getElem_of_mem hc
  rw [List.length_take, List.length_drop] at hj
  have := h (f + j) (by omega) (by omega)
  rw [List.getElem_take, List.getElem_drop]
  rw [List.getD_eq_getElem?_getD, List.getElem?_eq_getElem (by omega)] at this
  exact this
theorem split_hit {s : Bs} {f k : Nat} {out : List Bs} (h : dots s = out ++ dots (s.drop f)) (hn : noDot s f k) (hf : f ≤ k) (hk : k < s.length) (hc : s.getD k 0 = 46) : dots s = (out ++ [(s.drop f).take (k - f)]) ++ dots (s.drop (k + 1)) := by
  rw [h]
  have hg : (s.drop f)[k - f]? = some 46 := by
    rw [List.getElem?_drop, show f + (k - f) = k by omega, List.getElem?_eq_getElem hk]
    rw [List.getD_eq_getElem?_getD, List.getElem?_eq_getElem hk] at hc
    exact congrArg some hc
  rw [dots_at (noDot_mem hn) hg, List.drop_drop, show f + (k - f + 1) = k + 1 by omega]
  simp
theorem split_end {s : Bs} {f k : Nat} {out : List Bs} (h : dots s = out ++ dots (s.drop f)) (hn : noDot s f k) (hk : s.length ≤ k) : dots s = out ++ [s.drop f] := by
  rw [h]
  have := noDot_mem hn
  rw [List.take_of_length_le (by rw [List.length_drop]; omega)] at this
  rw [dots_none this]
theorem noDot_step {s : Bs} {f k : Nat} (h : noDot s f k) (hc : ¬ s.getD k 0 = 46) : noDot s f (k + 1) := fun j h1 h2 => by
  by_cases e : j = k
  · subst e; exact hc
  · exact h j h1 (by omega)
theorem noDot_nil {s : Bs} {f : Nat} : noDot s f f := fun j h1 h2 => by omega
theorem byteEq {c : UInt8} {n : Nat} (hn : n < 256) (h : (c.toNat : Int) = n) : c = UInt8.ofNat n := by
  apply UInt8.toNat_inj.1
  rw [UInt8.toNat_ofNat']
  have : (2 : Nat) ^ 8 = 256 := rfl
  omega
theorem byteNe {c : UInt8} {n : Nat} (hn : n < 256) (h : ¬ (c.toNat : Int) = n) : ¬ c = UInt8.ofNat n := by
  rintro rfl
  rw [UInt8.toNat_ofNat'] at h
  have : (2 : Nat) ^ 8 = 256 := rfl
  omega
def besidesOf (pattern : Bool) : List Bs := if pattern = true then [[42], [35]] else []
theorem letter_all {s : Bs} {k : Nat} (hk : k < s.length) : (s.drop k).all (fun c => letter c.toNat) = (letter (s.getD k 0).toNat && (s.drop (k + 1)).all (fun c => letter c.toNat)) := by
  rw [drop_getD hk, List.all_cons]
end Go.SW
namespace Go.SW
theorem isBad_doc {p b : Bool} {w : Bs} (h : (decide ((w.length : Int) = 0) || !plain w) = b) : isBad (besidesOf p) w = (b && !(p && (decide (w = [42]) || decide (w = [35])))) := by
  subst h
  have e : (w == []) = decide ((w.length : Int) = 0) := by
    cases w with
    | nil => rfl
    | cons c r => simp; omega
  unfold isBad besidesOf
  rw [e]
  cases p
  · simp
  · simp [Bool.and_comm]
theorem numB_snoc : ∀ (k n : Nat), numB (k + 1) n = numB k (n / 256) ++ [UInt8.ofNat (n % 256)]
  | 0, n => by
    simp only [numB, Nat.pow_zero, Nat.div_one, List.nil_append, List.cons.injEq, and_true]
    apply UInt8.toNat_inj.1
    simp only [UInt8.toNat_ofNat']
    have : (2 : Nat) ^ 8 = 256 := rfl
    omega
  | k + 1, n => by
    have ih := numB_snoc k n
    have e : numB (k + 2) n = UInt8.ofNat (n / 256 ^ (k + 1)) :: numB (k + 1) n := rfl
    rw [e, ih]
    simp only [numB, List.cons_append]
    rw [Nat.div_div_eq_div_mul, Nat.pow_succ, Nat.mul_comm]
theorem numK_pred {b : Int} (h : 1 ≤ b) (h8 : b ≤ 8) : numK b = numK (b - 1) + 1 := by unfold numK; omega
theorem num_doc {n b : Int} (h0 : 0 ≤ n) (h : 1 ≤ b) (h8 : b ≤ 8) : numB (numK b) n.toNat = numB (numK (b - 1)) (n / 256).toNat ++ [UInt8.ofNat (n % 256).toNat] := by
  rw [numK_pred h h8, numB_snoc]
  have e1 : (n / 256).toNat = n.toNat / 256 := by omega
  have e2 : (n % 256).toNat = n.toNat % 256 := by omega
  rw [e1, e2]
theorem numK_le (b : Int) : numK b ≤ 8 := by unfold numK; omega
theorem txtB_len (s : Bs) : (txtB s).length = s.length + 2 := by simp [txtB, numB_len]; omega
def smallH (h : List Pair) : Prop := h.length ≤ 1000 ∧ ∀ p ∈ h, p.key.length ≤ 1000 ∧ p.text.length ≤ 1000
theorem smallH_light {h : List Pair} (e : lightH h = true) : smallH h := by
  simp only [lightH, Bool.and_eq_true, decide_eq_true_eq, List.all_eq_true, lightP] at e
  exact ⟨by omega, fun p hp => by have := e.2 p hp; omega⟩
theorem smallH_lightR {r : Reply} (e : lightR r = true) : smallH r.mail.head := by
  simp only [lightR, Bool.and_eq_true] at e
  exact smallH_light e.1.2
theorem pairB_len {p : Pair} (h : p.key.length ≤ 1000 ∧ p.text.length ≤ 1000) : (pairB p).length ≤ 2100 := by
  unfold pairB
  simp only [List.length_append, txtB, numB_len]
  split
  · rw [numB_len]; omega
  · split
    · simp only [List.length_append, numB_len]; omega
    · rw [numB_len]; omega
def r9B (h : List Pair) : Bs := numB 1 h.length ++ h.flatMap pairB
theorem replyE_doc (r : Reply) : replyE r = if 7 < r.kind then 8
    else if r.mail.id ≠ 0 ∨ r.mail.due ≠ 0 ∨ r.mail.hops ≠ 0 ∨ (r.n ≠ 0 ∧ ¬ (r.kind = 2 ∨ r.kind = 3 ∨ r.kind = 5 ∨ r.kind = 6 ∨ r.kind = 7)) ∨ (r.m ≠ 0 ∧ ¬ (r.kind = 3 ∨ r.kind = 6)) ∨ (r.name ≠ [] ∧ r.kind ≠ 0) then 4
    else if r.kind ≠ 3 then (if r.yes = true ∨ r.mail.shop ≠ [] ∨ r.mail.key ≠ [] ∨ (0 : Int) < r.mail.head.length ∨ r.mail.body ≠ [] then 4 else if r.kind = 0 then nameE r.name else 0)
    else mailE r.mail := by
  unfold replyE
  by_cases h7 : 7 < r.kind
  · rw [if_pos h7, if_pos h7]
  · rw [if_neg h7, if_neg h7]
    by_cases hs : spareR r = true
    · rw [if_pos hs]
      split
      · rfl
      · rename_i h1
        have e3 : r.kind ≠ 3 := by
          intro k3
          have n2 : ¬ ((r.name ≠ [] ∧ r.kind ≠ 0) ∨ (r.kind ≠ 3 ∧ (r.yes = true ∨ blankM r.mail = false))) := by
            rintro (q | q)
            · exact h1 (.inr (.inr (.inr (.inr (.inr q)))))
            · exact q.1 k3
          unfold spareR at hs
          rw [if_neg (by omega), if_neg n2, if_pos (.inl k3)] at hs
          cases hs
        rw [if_pos e3]
        split
        · rfl
        · rename_i h2
          exfalso
          unfold spareR at hs
          have hb : blankM r.mail = true := by
            have a1 : r.mail.shop = [] := Decidable.byContradiction fun q => h2 (.inr (.inl q))
            have a2 : r.mail.key = [] := Decidable.byContradiction fun q => h2 (.inr (.inr (.inl q)))
            have a4 : r.mail.body = [] := Decidable.byContradiction fun q => h2 (.inr (.inr (.inr (.inr q))))
            simp [blankM, a1, a2, a4]
            by_cases q : r.mail.head.length = 0
            · exact List.eq_nil_of_length_eq_zero q
            · exact absurd (.inr (.inr (.inr (.inl (by omega))))) h2
          have hy : ¬ r.yes = true := fun q => h2 (.inl q)
          have n2 : ¬ ((r.name ≠ [] ∧ r.kind ≠ 0) ∨ (r.kind ≠ 3 ∧ (r.yes = true ∨ blankM r.mail = false))) := by
            rintro (q | ⟨_, q | q⟩)
            · exact h1 (.inr (.inr (.inr (.inr (.inr q)))))
            · exact hy q
            · rw [hb] at q; cases q
          rw [if_neg (by omega), if_neg n2] at hs
          split at hs
          · cases hs
          · rename_i z1
            split at hs
            · have q : r.m ≠ 0 := by simpa using hs
              exact h1 (.inr (.inr (.inr (.inr (.inl ⟨q, z1⟩)))))
            · rename_i z2
              have q : r.n ≠ 0 ∨ r.m ≠ 0 := by simpa using hs
              rcases q with q | q
              · exact h1 (.inr (.inr (.inr (.inl ⟨q, by omega⟩))))
              · exact h1 (.inr (.inr (.inr (.inr (.inl ⟨q, z1⟩)))))
    · rw [if_neg hs]
      obtain ⟨a1, a2, a3, a4, a5⟩ := spareR_ok (by simpa using hs)
      have n1 : ¬ (r.mail.id ≠ 0 ∨ r.mail.due ≠ 0 ∨ r.mail.hops ≠ 0 ∨ (r.n ≠ 0 ∧ ¬ (r.kind = 2 ∨ r.kind = 3 ∨ r.kind = 5 ∨ r.kind = 6 ∨ r.kind = 7)) ∨ (r.m ≠ 0 ∧ ¬ (r.kind = 3 ∨ r.kind = 6)) ∨ (r.name ≠ [] ∧ r.kind ≠ 0)) := by
        rintro (q | q | q | ⟨q, z⟩ | ⟨q, z⟩ | ⟨q, z⟩)
        · exact q a1.1
        · exact q a1.2.1
        · exact q a1.2.2
        · exact q (a5 (by omega) (by omega))
        · exact q (a4 z)
        · exact q (a2 z)
      rw [if_neg n1]
      by_cases k3 : r.kind = 3
      · have k0 : ¬ r.kind = 0 := by omega
        have n3 : ¬ r.kind ≠ 3 := fun q => q k3
        rw [if_neg k0, if_pos k3, if_neg n3]
      · obtain ⟨b0, b1, b2, b3, b4⟩ := a3 k3
        have n4 : ¬ (r.yes = true ∨ r.mail.shop ≠ [] ∨ r.mail.key ≠ [] ∨ (0 : Int) < r.mail.head.length ∨ r.mail.body ≠ []) := by
          rw [b0, b1, b2, b3, b4]; simp
        have p3 : r.kind ≠ 3 := k3
        rw [if_pos p3, if_neg n4, if_neg k3]
theorem pairErr_doc (p : Pair) (ahead : List Pair) : pairErr p ahead = if nameE p.key ≠ 0 then nameE p.key else if 2 < p.kind then 8 else if p.kind = 1 ∧ (64 : Int) < p.text.length then 5 else if p.kind = 2 ∧ (p.num < 0 ∨ 1 < p.num) then 7 else if p.kind = 1 ∧ p.num ≠ 0 ∨ p.kind ≠ 1 ∧ p.text ≠ [] then 4 else if (findP ahead p.key).isSome then 9 else 0 := by
  unfold pairErr
  have e : (p.kind = 2 ∧ p.num ≠ 0 ∧ p.num ≠ 1) ↔ (p.kind = 2 ∧ (p.num < 0 ∨ 1 < p.num)) := by omega
  simp only [e]
end Go.SW
namespace Go.SW
theorem readGo_len : ∀ (k : Nat) (i : In) (h : List Pair), (readGo k i h).1.length ≤ h.length + k
  | 0, i, h => by simp [readGo]
  | k + 1, i, h => by
    simp only [readGo]
    generalize (if (readOne i).2.err = 0 then inFail (readOne i).2 (pairErr (readOne i).1 h) else (readOne i).2) = j
    by_cases e : j.err = 0
    · rw [if_neg (by simpa using e)]
      have := readGo_len k j (h ++ [(readOne i).1])
      simp at this; omega
    · rw [if_pos e]; simp
theorem headRead_len (i : In) : (headRead i).1.length ≤ 255 := by
  have := readGo_len (inNum i 1).1.toNat (if 8 < (inNum i 1).1 then inFail (inNum i 1).2 6 else (inNum i 1).2) []
  have hr := inNum_r i 1
  unfold headRead; simp at this; omega
theorem readGo_step {k : Nat} {i : In} {h : List Pair} {p : Pair} {q : In} (e : readOne i = (p, q)) : readGo (k + 1) i h = if (if q.err = 0 then inFail q (pairErr p h) else q).err ≠ 0 then ([], if q.err = 0 then inFail q (pairErr p h) else q) else readGo k (if q.err = 0 then inFail q (pairErr p h) else q) (h ++ [p]) := by
  simp only [readGo]; rw [e]
theorem readGo_ok {k : Nat} {i : In} {h : List Pair} {p : Pair} {q : In} (e : readOne i = (p, q)) (hq : q.err = 0) (hz : (inFail q (pairErr p h)).err = 0) : readGo (k + 1) i h = readGo k (inFail q (pairErr p h)) (h ++ [p]) := by
  rw [readGo_step e]; simp only [if_pos hq]; rw [if_neg (by simpa using hz)]
theorem readGo_er1 {k : Nat} {i : In} {h : List Pair} {p : Pair} {q : In} (e : readOne i = (p, q)) (hq : q.err = 0) (hz : ¬ (inFail q (pairErr p h)).err = 0) : readGo (k + 1) i h = ([], inFail q (pairErr p h)) := by
  rw [readGo_step e]; simp only [if_pos hq]; rw [if_pos hz]
theorem readGo_er0 {k : Nat} {i : In} {h : List Pair} {p : Pair} {q : In} (e : readOne i = (p, q)) (hq : ¬ q.err = 0) : readGo (k + 1) i h = ([], q) := by
  rw [readGo_step e]; simp only [if_neg hq]; rw [if_pos hq]
theorem headBytes_r9 {r : Reply} (h : replyE r = 0) (k3 : r.kind = 3) (h0 : ∀ p ∈ r.mail.head, 0 ≤ p.kind) : headBytes r.mail.head = r9B r.mail.head := by
  have hE : headE r.mail.head = 0 := by
    unfold replyE at h
    split at h
    · cases h
    · split at h
      · cases h
      · first
          | exact (mailE_ok h).2.2.1
          | (rw [if_neg (by omega), if_pos k3] at h; exact (mailE_ok h).2.2.1)
          | (rw [if_neg (by omega)] at h; exact (mailE_ok h).2.2.1)
  rw [headBytes_s hE h0]; rfl
theorem r9B_len {h : List Pair} (hs : smallH h) : (r9B h).length ≤ 1 + 2100 * h.length := by
  have key : ∀ l : List Pair, (∀ p ∈ l, p.key.length ≤ 1000 ∧ p.text.length ≤ 1000) → (l.flatMap pairB).length ≤ 2100 * l.length := by
    intro l
    induction l with
    | nil => intro _; simp
    | cons p r ih =>
      intro hp
      have a := ih (fun q hq => hp q (by simp [hq]))
      have b := pairB_len (hp p (by simp))
      simp only [List.flatMap_cons, List.length_append, List.length_cons]; omega
  have := key h hs.2
  unfold r9B
  rw [List.length_append, numB_len]; omega
end Go.SW
namespace Go.SW
/-! What is told, by kind -/
def tellsT : List Bs := [[110], [], [], [65, 110, 120], [65], [65, 110, 109, 120], [65], [65, 79, 112, 104, 121], [65, 79, 112, 104, 121], [65, 79, 112, 104, 121], [65, 79, 112, 104, 121], [65, 107, 104, 109, 98], [110], [65, 110], [110], [65], [110, 109, 121], [], [], [], []]
abbrev tellsOf (k : Int) : Bs := tellsT.getD k.toNat []
def hasAny (s cs : Bs) : Bool := s.any cs.contains
theorem containsAny_eq (s cs : Bs) : Lib.containsAny s cs = hasAny s cs := by
  unfold Lib.containsAny hasAny
  induction s with
  | nil => rfl
  | cons b l ih =>
    rw [List.any_cons, ← ih]
    have hg := Lib.indexAny_ge cs l
    have e0 : Lib.indexAny (b :: l) cs = if cs.contains b then 0 else if Lib.indexAny l cs == -1 then -1 else Lib.indexAny l cs + 1 := rfl
    rw [e0]
    by_cases h : cs.contains b = true
    · rw [if_pos h, h, Bool.true_or]; rfl
    · have h' : cs.contains b = false := by simpa using h
      rw [if_neg h, h', Bool.false_or]
      by_cases e : Lib.indexAny l cs = -1
      · rw [e]; rfl
      · have e' : (Lib.indexAny l cs == -1) = false := by simpa using e
        rw [e']
        simp only [Bool.false_eq_true, if_false]
        have a : (0 : Int) ≤ Lib.indexAny l cs + 1 := by omega
        have b : (0 : Int) ≤ Lib.indexAny l cs := by omega
        rw [decide_eq_true a, decide_eq_true b]
/-! Layer 10 -/
structure Rule where
  sort : Int
  key : Bs
  want : List Pair
  all : Bool
deriving DecidableEq
def Rule.cells (r : Rule) (a : Option Addr) (c : Nat) : List Value := [.int .u8 r.sort, str r.key, .slice a r.want.length c, .bool r.all]
def Rule.wf (r : Rule) : Prop := (0 ≤ r.sort ∧ r.sort ≤ 255) ∧ r.key.length ≤ 9223372036854775807 ∧ r.want.length ≤ 9223372036854775807
theorem Rule.eq_iff {a b : Rule} : a = b ↔ a.sort = b.sort ∧ a.key = b.key ∧ a.want = b.want ∧ a.all = b.all := by
  cases a; cases b; simp
def patB : List Bs := [[42], [35]]
def ruleE (r : Rule) : Int :=
  if 3 < r.sort then 8
  else if r.sort = 0 then (if keyE [] r.key ≠ 0 then keyE [] r.key else headE r.want)
  else if keyE patB r.key ≠ 0 then keyE patB r.key else headE r.want
def hasP (h : List Pair) (p : Pair) : Bool := (findP h p.key).isSome && decide ((findP h p.key).getD Pair.zero = p)
def headsGo (all : Bool) (h : List Pair) : List Pair → Bool
  | [] => all
  | p :: l => if hasP h p then (if all then headsGo all h l else true) else if all then false else headsGo all h l
def goesR (r : Rule) (key : Bs) (h : List Pair) : Bool :=
  if r.sort = 0 then decide (key = r.key) else if r.sort = 2 then mt (wordsOf r.key) (wordsOf key) else if r.sort = 3 then headsGo r.all h r.want else true
/-! Layer 11 -/
structure Method where
  channel : Int
  kind : Int
  name : Bs
  other : Bs
  key : Bs
  head : List Pair
  body : Bs
  n : Int
  m : Int
  yes : Bool
deriving DecidableEq
def Method.cells (m : Method) (a : Option Addr) (c : Nat) : List Value := [.int .u8 m.channel, .int .u8 m.kind, str m.name, str m.other, str m.key, .slice a m.head.length c, str m.body, .int .u64 m.n, .int .u64 m.m, .bool m.yes]
def Method.wf (m : Method) : Prop := (0 ≤ m.channel ∧ m.channel ≤ 255) ∧ (0 ≤ m.kind ∧ m.kind ≤ 255) ∧ (0 ≤ m.n ∧ m.n ≤ 18446744073709551615) ∧ (0 ≤ m.m ∧ m.m ≤ 18446744073709551615) ∧ m.name.length ≤ 9223372036854775807 ∧ m.other.length ≤ 9223372036854775807 ∧ m.key.length ≤ 9223372036854775807 ∧ m.head.length ≤ 9223372036854775807 ∧ m.body.length ≤ 9223372036854775807
theorem Method.eq_iff {a b : Method} : a = b ↔ a.channel = b.channel ∧ a.kind = b.kind ∧ a.name = b.name ∧ a.other = b.other ∧ a.key = b.key ∧ a.head = b.head ∧ a.body = b.body ∧ a.n = b.n ∧ a.m = b.m ∧ a.yes = b.yes := by
  cases a; cases b; simp
def hasK (m : Method) (cs : Bs) : Bool := hasAny (tellsOf m.kind) cs
def spareMt (m : Method) : Bool :=
  !decide (m.name = []) && !hasK m [65] || !decide (m.other = []) && !hasK m [79, 120] || !decide (m.key = []) && !hasK m [107, 112] ||
  decide ((0 : Int) < m.head.length) && !hasK m [104] || !decide (m.body = []) && !hasK m [98] ||
  !decide (m.n = 0) && !hasK m [110] || !decide (m.m = 0) && !hasK m [109] || m.yes && !hasK m [121]
def oneE (m : Method) (c : Int) : Int :=
  if c = 65 then nameE m.name
  else if c = 120 then (if m.other = [] then 0 else nameE m.other)
  else if c = 79 then nameE m.other
  else if c = 107 then keyE [] m.key
  else if c = 112 then keyE patB m.key
  else if c = 104 then headE m.head
  else if c = 98 then (if (256 : Int) < m.body.length then 5 else 0)
  else 0
def ckGo (m : Method) : Bs → Int
  | [] => 0
  | c :: l => if oneE m (c.toNat : Int) ≠ 0 then oneE m (c.toNat : Int) else ckGo m l
def methodE (m : Method) : Int := if 20 < m.kind then 8 else if spareMt m then 4 else ckGo m (tellsOf m.kind)
def mOut1 (m : Method) (o : Out) (c : Int) : Out :=
  if c = 65 then outText o m.name
  else if c = 120 ∨ c = 79 then outText o m.other
  else if c = 107 ∨ c = 112 then outText o m.key
  else if c = 104 then outRaw o (headBytes m.head)
  else if c = 98 then outText o m.body
  else if c = 110 then outNum o m.n 8
  else if c = 109 then outNum o m.m 8
  else if c = 121 then outNum o (if m.yes = true then 1 else 0) 1
  else o
def mOutGo (m : Method) (o : Out) (l : Bs) : Out := l.foldl (fun o c => mOut1 m o (c.toNat : Int)) o
def methodFrame (m : Method) : Frame := if methodE m = 0 then ⟨m.channel, m.kind, (mOutGo m ⟨[], 0⟩ (tellsOf m.kind)).s⟩ else Frame.zero
def lightMt (m : Method) : Bool := decide (max (m.name.length : Int) (m.other.length : Int) ≤ 40) && decide ((m.key.length : Int) ≤ 100) && lightH m.head && decide ((m.body.length : Int) ≤ 300)
end Go.SW
namespace Go.SW
/-! Layer 13 -/
def mailC (m : Mail) : Int :=
  if nameE m.shop ≠ 0 then nameE m.shop else if keyE [] m.key ≠ 0 then keyE [] m.key else if headE m.head ≠ 0 then headE m.head else if (256 : Int) < m.body.length then 5 else if 4 < m.hops then 7 else 0
def mailOut (m : Mail) : Out := outNum (outNum (outText (outRaw (outText (outText (outNum ⟨[], 0⟩ m.id 8) m.shop) m.key) (headBytes m.head)) m.body) m.due 8) m.hops 1
def mailBytes (m : Mail) : Bs := if mailC m = 0 then (mailOut m).s else []
/-! Layer 26 -/
def lifeN (t l : Int) : Int := if l = 0 ∨ 18446744073709551615 - t < l then 0 else t + l
end Go.SW
namespace Go.SW
def maybeE (s : Bs) : Int := if s = [] then 0 else nameE s
def boundE (b : Bool) (e : Int) : Int := if b = true then e else 0
def bitN (b : Bool) : Int := if b = true then 1 else 0
end Go.SW
namespace Go.SW
structure ShopR where
  name : Bs
  sort : Int
  to : Bs
deriving DecidableEq
def ShopR.cells (x : ShopR) : List Value := [str x.name, .int .u8 x.sort, str x.to]
def ShopR.wf (x : ShopR) : Prop := x.name.length ≤ 9223372036854775807 ∧ (0 ≤ x.sort ∧ x.sort ≤ 255) ∧ x.to.length ≤ 9223372036854775807
structure QueueR where
  name : Bs
  most : Int
  life : Int
  dead : Bs
deriving DecidableEq
def QueueR.cells (x : QueueR) : List Value := [str x.name, .int .u64 x.most, .int .u64 x.life, str x.dead]
def QueueR.wf (x : QueueR) : Prop := x.name.length ≤ 9223372036854775807 ∧ (0 ≤ x.most ∧ x.most ≤ 18446744073709551615) ∧ (0 ≤ x.life ∧ x.life ≤ 18446744073709551615) ∧ x.dead.length ≤ 9223372036854775807
structure BindR where
  shop : Bs
  to : Bs
  up : Bool
  key : Bs
  want : List Pair
  all : Bool
deriving DecidableEq
def BindR.cells (x : BindR) (a : Option Addr) (c : Nat) : List Value := [str x.shop, str x.to, .bool x.up, str x.key, .slice a x.want.length c, .bool x.all]
def BindR.wf (x : BindR) : Prop := x.shop.length ≤ 9223372036854775807 ∧ x.to.length ≤ 9223372036854775807 ∧ x.key.length ≤ 9223372036854775807 ∧ x.want.length ≤ 9223372036854775807
theorem BindR.eq_iff {a b : BindR} : a = b ↔ a.shop = b.shop ∧ a.to = b.to ∧ a.up = b.up ∧ a.key = b.key ∧ a.want = b.want ∧ a.all = b.all := by
  cases a; cases b; simp
structure DeedR where
  kind : Int
  tick : Int
  shop : ShopR
  queue : QueueR
  bind : BindR
  name : Bs
  id : Int
  how : Int
  frm : Int
  code : Int
  number : Int
  mail : Mail
  text : Bs
deriving DecidableEq
def DeedR.cells (d : DeedR) (a : Option Addr) (c : Nat) (a' : Option Addr) (c' : Nat) : List Value :=
  [.int .u8 d.kind, .int .u64 d.tick, str d.shop.name, .int .u8 d.shop.sort, str d.shop.to, str d.queue.name, .int .u64 d.queue.most, .int .u64 d.queue.life, str d.queue.dead,
   str d.bind.shop, str d.bind.to, .bool d.bind.up, str d.bind.key, .slice a d.bind.want.length c, .bool d.bind.all, str d.name, .int .u64 d.id, .int .u8 d.how, .int .u8 d.frm, .int .u8 d.code, .int .u64 d.number,
   .int .u64 d.mail.id, str d.mail.shop, str d.mail.key, .slice a' d.mail.head.length c', str d.mail.body, .int .u64 d.mail.due, .int .u8 d.mail.hops, str d.text]
def DeedR.wf (d : DeedR) : Prop := (0 ≤ d.kind ∧ d.kind ≤ 255) ∧ (0 ≤ d.tick ∧ d.tick ≤ 18446744073709551615) ∧ d.shop.wf ∧ d.queue.wf ∧ d.bind.wf ∧ d.name.length ≤ 9223372036854775807 ∧ (0 ≤ d.id ∧ d.id ≤ 18446744073709551615) ∧ (0 ≤ d.how ∧ d.how ≤ 255) ∧ (0 ≤ d.frm ∧ d.frm ≤ 255) ∧ (0 ≤ d.code ∧ d.code ≤ 255) ∧ (0 ≤ d.number ∧ d.number ≤ 18446744073709551615) ∧ d.mail.wf ∧ d.text.length ≤ 9223372036854775807
theorem DeedR.eq_iff {a b : DeedR} : a = b ↔ a.kind = b.kind ∧ a.tick = b.tick ∧ a.shop = b.shop ∧ a.queue = b.queue ∧ a.bind = b.bind ∧ a.name = b.name ∧ a.id = b.id ∧ a.how = b.how ∧ a.frm = b.frm ∧ a.code = b.code ∧ a.number = b.number ∧ a.mail = b.mail ∧ a.text = b.text := by
  cases a; cases b; simp
end Go.SW
namespace Go.SW
def ShopR.zero : ShopR := ⟨[], 0, []⟩
def QueueR.zero : QueueR := ⟨[], 0, 0, []⟩
def BindR.zero : BindR := ⟨[], [], false, [], [], false⟩
def toldD (d : DeedR) : DeedR :=
  ⟨d.kind, d.tick, if d.kind = 0 then d.shop else .zero, if d.kind = 2 then d.queue else .zero, if d.kind = 4 ∨ d.kind = 5 then d.bind else .zero,
   if d.kind = 1 ∨ d.kind = 3 ∨ d.kind = 7 ∨ d.kind = 8 then d.name else [], if d.kind = 8 then d.id else 0, if d.kind = 8 then d.how else 0, if d.kind = 10 then d.frm else 0, if d.kind = 12 then d.code else 0, if d.kind = 10 then d.number else 0,
   if d.kind = 6 ∨ d.kind = 10 then d.mail else .zero, if d.kind = 12 then d.text else []⟩
end Go.SW
namespace Go.SW
def firstE : List Int → Int
  | [] => 0
  | a :: l => if a ≠ 0 then a else firstE l
def deedE (d : DeedR) : Int :=
  if 12 < d.kind then 8 else if d ≠ toldD d then 4
  else if d.kind = 0 then firstE [nameE d.shop.name, boundE (decide (4 < d.shop.sort)) 8, maybeE d.shop.to]
  else if d.kind = 2 then firstE [nameE d.queue.name, maybeE d.queue.dead]
  else if d.kind = 4 ∨ d.kind = 5 then firstE [nameE d.bind.shop, nameE d.bind.to, boundE (decide ((64 : Int) < d.bind.key.length)) 5, headE d.bind.want]
  else if d.kind = 6 ∨ d.kind = 10 then mailC d.mail
  else if d.kind = 9 ∨ d.kind = 11 then 0
  else if d.kind = 12 then boundE (decide ((64 : Int) < d.text.length)) 5
  else firstE [nameE d.name, boundE (decide (2 < d.how)) 7]
/-- What may be is small. -/
structure DeedOk (d : DeedR) : Prop where
  told : d = toldD d
  kind : d.kind ≤ 12
  sname : d.shop.name.length ≤ 16
  sto : d.shop.to.length ≤ 16
  ssort : d.shop.sort ≤ 4
  qname : d.queue.name.length ≤ 16
  qdead : d.queue.dead.length ≤ 16
  bshop : d.bind.shop.length ≤ 16
  bto : d.bind.to.length ≤ 16
  bkey : d.bind.key.length ≤ 64
  bwant : headE d.bind.want = 0
  name : d.name.length ≤ 16
  how : d.how ≤ 2
  mshop : d.mail.shop.length ≤ 16
  mkey : d.mail.key.length ≤ 64
  mhead : headE d.mail.head = 0
  mbody : d.mail.body.length ≤ 256
  mhops : d.mail.hops ≤ 4
  text : d.text.length ≤ 64
end Go.SW
namespace Go.SW
def deedOut (d : DeedR) : Out :=
  if d.kind = 0 then outText (outNum (outText (outNum (outNum ⟨[], 0⟩ d.kind 1) d.tick 8) d.shop.name) d.shop.sort 1) d.shop.to
  else if d.kind = 2 then outText (outNum (outNum (outText (outNum (outNum ⟨[], 0⟩ d.kind 1) d.tick 8) d.queue.name) d.queue.most 8) d.queue.life 8) d.queue.dead
  else if d.kind = 4 ∨ d.kind = 5 then outNum (outRaw (outText (outNum (outText (outText (outNum (outNum ⟨[], 0⟩ d.kind 1) d.tick 8) d.bind.shop) d.bind.to) (bitN d.bind.up) 1) d.bind.key) (headBytes d.bind.want)) (bitN d.bind.all) 1
  else if d.kind = 6 then outRaw (outNum (outNum ⟨[], 0⟩ d.kind 1) d.tick 8) (mailBytes d.mail)
  else if d.kind = 1 ∨ d.kind = 3 ∨ d.kind = 7 then outText (outNum (outNum ⟨[], 0⟩ d.kind 1) d.tick 8) d.name
  else if d.kind = 8 then outNum (outNum (outText (outNum (outNum ⟨[], 0⟩ d.kind 1) d.tick 8) d.name) d.id 8) d.how 1
  else if d.kind = 10 then outRaw (outNum (outNum (outNum (outNum ⟨[], 0⟩ d.kind 1) d.tick 8) d.frm 1) d.number 8) (mailBytes d.mail)
  else if d.kind = 12 then outText (outNum (outNum (outNum ⟨[], 0⟩ d.kind 1) d.tick 8) d.code 1) d.text
  else outNum (outNum ⟨[], 0⟩ d.kind 1) d.tick 8
def deedBytes (d : DeedR) : Bs := if deedE d = 0 then (deedOut d).s else []
def mailB (m : Mail) : Bs := numB 8 m.id.toNat ++ (txtB m.shop ++ (txtB m.key ++ (r9B m.head ++ (txtB m.body ++ (numB 8 m.due.toNat ++ numB 1 m.hops.toNat)))))
def deedB (d : DeedR) : Bs :=
  numB 1 d.kind.toNat ++ (numB 8 d.tick.toNat ++ (
  if d.kind = 0 then txtB d.shop.name ++ (numB 1 d.shop.sort.toNat ++ txtB d.shop.to)
  else if d.kind = 2 then txtB d.queue.name ++ (numB 8 d.queue.most.toNat ++ (numB 8 d.queue.life.toNat ++ txtB d.queue.dead))
  else if d.kind = 4 ∨ d.kind = 5 then txtB d.bind.shop ++ (txtB d.bind.to ++ (numB 1 (bitN d.bind.up).toNat ++ (txtB d.bind.key ++ (r9B d.bind.want ++ numB 1 (bitN d.bind.all).toNat))))
  else if d.kind = 6 then mailB d.mail
  else if d.kind = 8 then txtB d.name ++ (numB 8 d.id.toNat ++ numB 1 d.how.toNat)
  else if d.kind = 9 ∨ d.kind = 11 then []
  else if d.kind = 10 then numB 1 d.frm.toNat ++ (numB 8 d.number.toNat ++ mailB d.mail)
  else if d.kind = 12 then numB 1 d.code.toNat ++ txtB d.text
  else txtB d.name))
def mailRead (i : In) : Mail × In :=
  let a := inNum i 8
  let b := inText a.2 16
  let c := inText b.2 64
  let h := headRead c.2
  let e := inText h.2 256
  let f := inNum e.2 8
  let g := inNum f.2 1
  let m : Mail := ⟨a.1, b.1, c.1, h.1, e.1, f.1, g.1⟩
  let j := if g.2.err = 0 then inFail g.2 (mailC m) else g.2
  if j.err = 0 then (m, j) else (Mail.zero, j)
def DeedR.blank (k t : Int) : DeedR := ⟨k, t, .zero, .zero, .zero, [], 0, 0, 0, 0, 0, .zero, []⟩
def bindRead (i : In) : BindR × In :=
  let a := inText i 16
  let b := inText a.2 16
  let u := inNum b.2 1
  let k := inText u.2 64
  let h := headRead k.2
  let l := inNum h.2 1
  (⟨a.1, b.1, decide (u.1 = 1), k.1, h.1, decide (l.1 = 1)⟩, l.2)
def readK (k t : Int) (j : In) : DeedR × In :=
  let z := DeedR.blank k t
  if k = 0 then
    let a := inText j 16
    let b := inNum a.2 1
    let c := inText b.2 16
    ({ z with shop := ⟨a.1, b.1, c.1⟩ }, c.2)
  else if k = 2 then
    let a := inText j 16
    let b := inNum a.2 8
    let c := inNum b.2 8
    let e := inText c.2 16
    ({ z with queue := ⟨a.1, b.1, c.1, e.1⟩ }, e.2)
  else if k = 4 ∨ k = 5 then ({ z with bind := (bindRead j).1 }, (bindRead j).2)
  else if k = 6 then ({ z with mail := (mailRead j).1 }, (mailRead j).2)
  else if k = 1 ∨ k = 3 ∨ k = 7 then ({ z with name := (inText j 16).1 }, (inText j 16).2)
  else if k = 8 then
    let a := inText j 16
    let b := inNum a.2 8
    let c := inNum b.2 1
    ({ z with name := a.1, id := b.1, how := c.1 }, c.2)
  else if k = 10 then
    let a := inNum j 1
    let b := inNum a.2 8
    ({ z with frm := a.1, number := b.1, mail := (mailRead b.2).1 }, (mailRead b.2).2)
  else if k = 12 then
    let a := inNum j 1
    let b := inText a.2 64
    ({ z with code := a.1, text := b.1 }, b.2)
  else (z, j)
def readD (i : In) : DeedR × In := readK (inNum i 1).1 (inNum (inNum i 1).2 8).1 (inNum (inNum i 1).2 8).2
/-! Many -/
def packGo : List DeedR → Bs → Bs × Int
  | [], s => (s, 0)
  | d :: l, s => if deedE d ≠ 0 then ([], deedE d) else packGo l (s ++ deedB d)
def packD (l : List DeedR) : Bs × Int := if (255 : Int) < l.length then ([], 6) else packGo l (numB 1 l.length)
def unpackGo : Nat → In → List DeedR → List DeedR × In
  | 0, i, l => (l, i)
  | k + 1, i, l => if i.err = 0 then unpackGo k (readD i).2 (l ++ [(readD i).1]) else (l, i)
def unpackD (s : Bs) : List DeedR × Int :=
  let r := unpackGo (inNum ⟨s, 0⟩ 1).1.toNat (inNum ⟨s, 0⟩ 1).2 []
  if inEnd r.2 = 0 ∧ (packD r.1).2 = 0 ∧ (packD r.1).1 = s then (r.1, 0) else ([], 4)
end Go.SW
namespace Go.SW
end Go.SW
namespace Go.SW
theorem headGo_each : ∀ {l a : List Pair}, headGo a l = 0 → ∀ p ∈ l, ∃ ah, pairErr p ah = 0
  | [], _, _, _, hp => by cases hp
  | q :: r, a, h, p, hp => by
    unfold headGo at h
    split at h
    · contradiction
    · rename_i e
      rcases List.mem_cons.1 hp with rfl | hp
      · exact ⟨a, by omega⟩
      · exact headGo_each h p hp
theorem headE_each {h : List Pair} (e : headE h = 0) : ∀ p ∈ h, ∃ ah, pairErr p ah = 0 := by
  unfold headE at e
  split at e
  · cases e
  · exact headGo_each e
theorem smallH_ok {h : List Pair} (e : headE h = 0) : smallH h := by
  obtain ⟨h1, h2⟩ := headE_ok e
  refine ⟨by omega, fun p hp => ?_⟩
  obtain ⟨a, b, c⟩ := h2 p hp
  obtain ⟨ah, q⟩ := headE_each e p hp
  obtain ⟨_, _, q3⟩ := pairErr_fwd q
  refine ⟨by omega, ?_⟩
  by_cases k : p.kind = 1
  · have := c k; omega
  · rw [q3 k]; simp
end Go.SW
namespace Go.SW
def lightMl (m : Mail) : Bool := decide ((m.shop.length : Int) ≤ 40) && decide ((m.key.length : Int) ≤ 100) && lightH m.head && decide ((m.body.length : Int) ≤ 300)
def lightD (d : DeedR) : Bool :=
  decide ((max (max (max (max (max (max (d.shop.name.length : Int) (d.shop.to.length : Int)) (d.queue.name.length : Int)) (d.queue.dead.length : Int)) (d.bind.shop.length : Int)) (d.bind.to.length : Int)) (d.name.length : Int)) ≤ 40) && decide ((max (d.bind.key.length : Int) (d.text.length : Int)) ≤ 100) && lightH d.bind.want && lightMl d.mail
end Go.SW
namespace Go.SW
def shopRE : Hp → ShopR → List Value → Prop := FE ShopR.cells ShopR.wf
def queueRE : Hp → QueueR → List Value → Prop := FE QueueR.cells QueueR.wf
def bindRE : Hp → BindR → List Value → Prop := fun H x cs => ∃ (a1 : Option Addr) (c1 : Nat), cs = BindR.cells x a1 c1 ∧ SlH pairE 4 H (.slice a1 x.want.length c1) x.want ∧ x.wf
def deedRE : Hp → DeedR → List Value → Prop := fun H x cs => ∃ (a1 : Option Addr) (c1 : Nat) (a2 : Option Addr) (c2 : Nat), cs = DeedR.cells x a1 c1 a2 c2 ∧ SlH pairE 4 H (.slice a1 x.bind.want.length c1) x.bind.want ∧ SlH pairE 4 H (.slice a2 x.mail.head.length c2) x.mail.head ∧ x.wf
structure BookR where
  shops : List ShopR
  binds : List BindR
deriving DecidableEq
def BookR.cells (x : BookR) (a1 : Option Addr) (c1 : Nat) (a2 : Option Addr) (c2 : Nat) : List Value := [.slice a1 x.shops.length c1, .slice a2 x.binds.length c2]
def BookR.wf (x : BookR) : Prop := x.shops.length ≤ 9223372036854775807 ∧ x.binds.length ≤ 9223372036854775807
def BookR.zero : BookR := ⟨[], []⟩
theorem BookR.eq_iff {a b : BookR} : a = b ↔ a.shops = b.shops ∧ a.binds = b.binds := by
  cases a; cases b; simp
def bookRE : Hp → BookR → List Value → Prop := fun H x cs => ∃ (a1 : Option Addr) (c1 : Nat) (a2 : Option Addr) (c2 : Nat), cs = BookR.cells x a1 c1 a2 c2 ∧ SlH shopRE 3 H (.slice a1 x.shops.length c1) x.shops ∧ SlH bindRE 6 H (.slice a2 x.binds.length c2) x.binds ∧ x.wf
end Go.SW
namespace Go.SW
def idxF {α : Type} (p : α → Bool) : Nat → List α → Int
  | _, [] => -1
  | k, x :: r => if p x then k else idxF p (k + 1) r
def idxP {α : Type} (p : α → Bool) (l : List α) : Int := idxF p 0 l
theorem idx_miss {α : Type} {p : α → Bool} {l r : List α} {c : α} {k : Nat} (h : idxP p l = idxF p k (l.drop k)) (e : l.drop k = c :: r) (hc : p c = false) : idxP p l = idxF p (k + 1) r := by
  rw [h, e, idxF, hc]; rfl
theorem idx_hit {α : Type} {p : α → Bool} {l r : List α} {c : α} {k : Nat} (h : idxP p l = idxF p k (l.drop k)) (e : l.drop k = c :: r) (hc : p c = true) : idxP p l = k := by
  rw [h, e, idxF, hc]; rfl
theorem idx_end {α : Type} {p : α → Bool} {l : List α} {k : Nat} (h : idxP p l = idxF p k (l.drop k)) (hk : l.length ≤ k) : idxP p l = -1 := by
  rw [h, List.drop_of_length_le hk]; rfl
/-! Books -/
def shopOf (l : List ShopR) (n : Bs) : Option ShopR := l.find? fun s => decide (s.name = n)
def shopE (x : ShopR) : Int := if nameE x.name ≠ 0 then nameE x.name else if 4 < x.sort then 8 else if x.sort = 4 then nameE x.to else if x.to ≠ [] then 4 else 0
def makeS (b : BookR) (x : ShopR) : BookR × Int :=
  if shopE x ≠ 0 then (b, shopE x)
  else if (shopOf b.shops x.name).isSome = true ∧ x = (shopOf b.shops x.name).getD ShopR.zero then (b, 0)
  else if (shopOf b.shops x.name).isSome = true then (b, 9)
  else if 8 ≤ b.shops.length then (b, 12)
  else (⟨b.shops ++ [x], b.binds⟩, 0)
def bindRule (x : BindR) (sort : Int) : Rule := ⟨sort, x.key, x.want, x.all⟩
def bindS (b : BookR) (x : BindR) : BookR × Int :=
  if (shopOf b.shops x.shop).isSome = false then (b, 10)
  else if ((shopOf b.shops x.shop).getD ShopR.zero).sort = 4 then (b, 8)
  else if nameE x.to ≠ 0 then (b, nameE x.to)
  else if ruleE (bindRule x ((shopOf b.shops x.shop).getD ShopR.zero).sort) ≠ 0 then (b, ruleE (bindRule x ((shopOf b.shops x.shop).getD ShopR.zero).sort))
  else if 0 ≤ idxP (fun y => decide (x = y)) b.binds then (b, 0)
  else if 32 ≤ b.binds.length then (b, 12)
  else (⟨b.shops, b.binds ++ [x]⟩, 0)
def putS (l : List Bs) (s : Bs) : List Bs := if s ∈ l then l else l ++ [s]
def leadGo (sort : Int) (shop key : Bs) (h : List Pair) : List BindR → List Bs → List Bs → List Bs × List Bs
  | [], q, p => (q, p)
  | y :: r, q, p => if y.shop ≠ shop ∨ goesR (bindRule y sort) key h = false then leadGo sort shop key h r q p else if y.up = true then leadGo sort shop key h r q (putS p y.to) else leadGo sort shop key h r (putS q y.to) p
def leadS (b : BookR) (shop key : Bs) (h : List Pair) : List Bs × List Bs × Int :=
  if (shopOf b.shops shop).isSome = false then ([], [], 10)
  else if ((shopOf b.shops shop).getD ShopR.zero).sort = 4 then ([], [((shopOf b.shops shop).getD ShopR.zero).to], 0)
  else ((leadGo ((shopOf b.shops shop).getD ShopR.zero).sort shop key h b.binds [] []).1, (leadGo ((shopOf b.shops shop).getD ShopR.zero).sort shop key h b.binds [] []).2, 0)
end Go.SW
namespace Go.SW
def allD (l : List DeedR) : List DeedR × Bool := if l.all lightD = true then (l, true) else ([], false)
end Go.SW
namespace Go.SW
end Go.SW
namespace Go.SW
end Go.SW
namespace Go.SW
structure DWf (d : DeedR) : Prop where
  w : d.wf
  want : ∀ p ∈ d.bind.want, p.wf
  head : ∀ p ∈ d.mail.head, p.wf
/-! What is read -/
end Go.SW
namespace Go.SW
end Go.SW
namespace Go.SW
def settlesB (l : List DeedR) (n : Bs) (i : Int) : Bool := l.any fun x => decide (x.kind = 8) && decide (x.name = n) && decide (x.id = i)
def draftE (l : List DeedR) (d : DeedR) : Int :=
  if d.kind ≠ 6 ∧ d.kind ≠ 8 then 8
  else if deedE d ≠ 0 then deedE d
  else if d.kind = 8 ∧ settlesB l d.name d.id = true then 9
  else if 16 ≤ l.length then 12
  else 0
def addGo (x : List DeedR) : List DeedR → List DeedR → List DeedR × Int
  | n, [] => (n, 0)
  | n, d :: l => if draftE n d ≠ 0 then (x, draftE n d) else addGo x (n ++ [d]) l
def addD (x l : List DeedR) : List DeedR × Int := addGo x x l
def atD (t : Int) (d : DeedR) : DeedR := { d with tick := t, mail := if d.kind = 6 then { d.mail with due := lifeN t d.mail.due } else d.mail }
/-- What is held may be. -/
def Held (l : List DeedR) : Prop := ∀ d ∈ l, deedE d = 0
end Go.SW
namespace Go.SW
structure DraftR where
  l : List DeedR
deriving DecidableEq
def DraftR.cells (x : DraftR) (a1 : Option Addr) (c1 : Nat) : List Value := [.slice a1 x.l.length c1]
def DraftR.wf (x : DraftR) : Prop := x.l.length ≤ 9223372036854775807
def DraftR.zero : DraftR := ⟨[]⟩
theorem DraftR.eq_iff {a b : DraftR} : a = b ↔ a.l = b.l := by
  cases a; cases b; simp
def draftRE : Hp → DraftR → List Value → Prop := fun H x cs => ∃ (a1 : Option Addr) (c1 : Nat), cs = DraftR.cells x a1 c1 ∧ SlH deedRE 29 H (.slice a1 x.l.length c1) x.l ∧ x.wf
end Go.SW
namespace Go.SW
def Feed.pc (x : Feed) : List PV := [.str x.rest, .int .i64 x.err]
instance : Inhabited Feed := ⟨⟨[], 0⟩⟩
def Out.pc (x : Out) : List PV := [.str x.s, .int .i64 x.err]
instance : Inhabited Out := ⟨⟨[], 0⟩⟩
def In.pc (x : In) : List PV := [.str x.s, .int .i64 x.err]
instance : Inhabited In := ⟨⟨[], 0⟩⟩
def RIn.pc (x : RIn) : List PV := [.str x.s, .int .i64 x.pos, .int .i64 x.code]
instance : Inhabited RIn := ⟨⟨[], 0, 0⟩⟩
def Pair.pc (x : Pair) : List PV := [.str x.key, .int .u8 x.kind, .int .i64 x.num, .str x.text]
instance : Inhabited Pair := ⟨⟨[], 0, 0, []⟩⟩
theorem Pair.pwf {x : Pair} (h : PV.wfs (Pair.pc x)) : Pair.wf x := by
  simp only [Pair.pc, PV.wfs, PV.wf] at h
  simp only [Pair.wf]
  omega
def Frame.pc (x : Frame) : List PV := [.int .u8 x.channel, .int .u8 x.kind, .str x.body]
instance : Inhabited Frame := ⟨⟨0, 0, []⟩⟩
theorem Frame.pwf {x : Frame} (h : PV.wfs (Frame.pc x)) : Frame.wf x := by
  simp only [Frame.pc, PV.wfs, PV.wf] at h
  simp only [Frame.wf]
  omega
def ShopR.pc (x : ShopR) : List PV := [.str x.name, .int .u8 x.sort, .str x.to]
instance : Inhabited ShopR := ⟨⟨[], 0, []⟩⟩
theorem ShopR.pwf {x : ShopR} (h : PV.wfs (ShopR.pc x)) : ShopR.wf x := by
  simp only [ShopR.pc, PV.wfs, PV.wf] at h
  simp only [ShopR.wf]
  omega
def QueueR.pc (x : QueueR) : List PV := [.str x.name, .int .u64 x.most, .int .u64 x.life, .str x.dead]
instance : Inhabited QueueR := ⟨⟨[], 0, 0, []⟩⟩
theorem QueueR.pwf {x : QueueR} (h : PV.wfs (QueueR.pc x)) : QueueR.wf x := by
  simp only [QueueR.pc, PV.wfs, PV.wf] at h
  simp only [QueueR.wf]
  omega
def BindR.pc (x : BindR) : List PV := [.str x.shop, .str x.to, .bool x.up, .str x.key, .sl Pair.pc x.want, .bool x.all]
instance : Inhabited BindR := ⟨⟨[], [], false, [], [], false⟩⟩
theorem BindR.pwf {x : BindR} (h : PV.wfs (BindR.pc x)) : BindR.wf x := by
  simp only [BindR.pc, PV.wfs, PV.wf] at h
  simp only [BindR.wf]
  omega
def Rule.pc (x : Rule) : List PV := [.int .u8 x.sort, .str x.key, .sl Pair.pc x.want, .bool x.all]
instance : Inhabited Rule := ⟨⟨0, [], [], false⟩⟩
theorem Rule.pwf {x : Rule} (h : PV.wfs (Rule.pc x)) : Rule.wf x := by
  simp only [Rule.pc, PV.wfs, PV.wf] at h
  simp only [Rule.wf]
  omega
def Mail.pc (x : Mail) : List PV := [.int .u64 x.id, .str x.shop, .str x.key, .sl Pair.pc x.head, .str x.body, .int .u64 x.due, .int .u8 x.hops]
instance : Inhabited Mail := ⟨⟨0, [], [], [], [], 0, 0⟩⟩
theorem Mail.pwf {x : Mail} (h : PV.wfs (Mail.pc x)) : Mail.wf x := by
  simp only [Mail.pc, PV.wfs, PV.wf] at h
  simp only [Mail.wf]
  omega
def Reply.pc (x : Reply) : List PV := [.int .u8 x.channel, .int .u8 x.kind, .int .u64 x.n, .int .u64 x.m, .bool x.yes, .str x.name, .int .u64 x.mail.id, .str x.mail.shop, .str x.mail.key, .sl Pair.pc x.mail.head, .str x.mail.body, .int .u64 x.mail.due, .int .u8 x.mail.hops]
instance : Inhabited Reply := ⟨⟨0, 0, 0, 0, false, [], ⟨0, [], [], [], [], 0, 0⟩⟩⟩
theorem Reply.pwf {x : Reply} (h : PV.wfs (Reply.pc x)) : Reply.wf x := by
  simp only [Reply.pc, PV.wfs, PV.wf] at h
  simp only [Reply.wf, Mail.wf]
  omega
theorem Reply.kd9 {x : Reply} (h : PV.wfs (Reply.pc x)) : ∀ p ∈ x.mail.head, 0 ≤ p.kind := fun p hp => by
  have q := Pair.pwf (h.2.2.2.2.2.2.2.2.2.1.2 p hp)
  simp only [Pair.wf] at q
  omega
def Method.pc (x : Method) : List PV := [.int .u8 x.channel, .int .u8 x.kind, .str x.name, .str x.other, .str x.key, .sl Pair.pc x.head, .str x.body, .int .u64 x.n, .int .u64 x.m, .bool x.yes]
instance : Inhabited Method := ⟨⟨0, 0, [], [], [], [], [], 0, 0, false⟩⟩
theorem Method.pwf {x : Method} (h : PV.wfs (Method.pc x)) : Method.wf x := by
  simp only [Method.pc, PV.wfs, PV.wf] at h
  simp only [Method.wf]
  omega
def DeedR.pc (x : DeedR) : List PV := [.int .u8 x.kind, .int .u64 x.tick, .str x.shop.name, .int .u8 x.shop.sort, .str x.shop.to, .str x.queue.name, .int .u64 x.queue.most, .int .u64 x.queue.life, .str x.queue.dead, .str x.bind.shop, .str x.bind.to, .bool x.bind.up, .str x.bind.key, .sl Pair.pc x.bind.want, .bool x.bind.all, .str x.name, .int .u64 x.id, .int .u8 x.how, .int .u8 x.frm, .int .u8 x.code, .int .u64 x.number, .int .u64 x.mail.id, .str x.mail.shop, .str x.mail.key, .sl Pair.pc x.mail.head, .str x.mail.body, .int .u64 x.mail.due, .int .u8 x.mail.hops, .str x.text]
instance : Inhabited DeedR := ⟨⟨0, 0, ⟨[], 0, []⟩, ⟨[], 0, 0, []⟩, ⟨[], [], false, [], [], false⟩, [], 0, 0, 0, 0, 0, ⟨0, [], [], [], [], 0, 0⟩, []⟩⟩
theorem DeedR.pwf {x : DeedR} (h : PV.wfs (DeedR.pc x)) : DeedR.wf x := by
  simp only [DeedR.pc, PV.wfs, PV.wf] at h
  simp only [DeedR.wf, ShopR.wf, QueueR.wf, BindR.wf, Mail.wf]
  omega
def BookR.pc (x : BookR) : List PV := [.sl ShopR.pc x.shops, .sl BindR.pc x.binds]
instance : Inhabited BookR := ⟨⟨[], []⟩⟩
theorem BookR.pwf {x : BookR} (h : PV.wfs (BookR.pc x)) : BookR.wf x := by
  simp only [BookR.pc, PV.wfs, PV.wf] at h
  simp only [BookR.wf]
  omega
def DraftR.pc (x : DraftR) : List PV := [.sl DeedR.pc x.l]
instance : Inhabited DraftR := ⟨⟨[]⟩⟩
theorem DraftR.pwf {x : DraftR} (h : PV.wfs (DraftR.pc x)) : DraftR.wf x := by
  simp only [DraftR.pc, PV.wfs, PV.wf] at h
  simp only [DraftR.wf]
  omega
end Go.SW
namespace Go.SW
theorem idxF_b {α : Type} (p : α → Bool) : ∀ (l : List α) (k : Nat), idxF p k l = -1 ∨ ((k : Int) ≤ idxF p k l ∧ idxF p k l < k + l.length)
  | [], k => .inl (by simp [idxF])
  | a :: r, k => by
    simp only [idxF]
    split
    · right; simp only [List.length_cons]; omega
    · rcases idxF_b p r (k + 1) with h | h
      · exact .inl h
      · right; simp only [List.length_cons]; omega
theorem idxP_b {α : Type} (p : α → Bool) (l : List α) : -1 ≤ idxP p l ∧ idxP p l < l.length := by
  rcases idxF_b p l 0 with h | h <;> simp only [idxP] <;> omega
theorem idxF_find {α : Type} (p : α → Bool) : ∀ (l : List α) (k : Nat), (idxF p k l < 0 → l.find? p = none) ∧ (0 ≤ idxF p k l → ∀ c, l[(idxF p k l).toNat - k]? = some c → p c = true ∧ l.find? p = some c)
  | [], k => ⟨fun _ => rfl, fun h => by simp [idxF] at h⟩
  | a :: r, k => by
    obtain ⟨h1, h2⟩ := idxF_find p r (k + 1)
    have hr := idxF_b p r (k + 1)
    simp only [idxF]
    by_cases ha : p a = true
    · simp only [ha, if_true]
      refine ⟨fun h => by omega, fun _ c hc => ?_⟩
      have : ((k : Int)).toNat - k = 0 := by omega
      rw [this] at hc
      simp at hc
      subst hc
      exact ⟨ha, by simp [ha]⟩
    · have hf : p a = false := by simpa using ha
      simp only [hf, if_false, Bool.false_eq_true, List.find?_cons]
      refine ⟨h1, fun h0 c hc => ?_⟩
      refine h2 h0 c ?_
      have e : (idxF p (k + 1) r).toNat - k = ((idxF p (k + 1) r).toNat - (k + 1)) + 1 := by omega
      rw [e] at hc
      simpa using hc
theorem idxP_neg {α : Type} {p : α → Bool} {l : List α} (h : idxP p l < 0) : l.find? p = none := (idxF_find p l 0).1 h
theorem idxP_get {α : Type} {p : α → Bool} {l : List α} {c : α} (h0 : ¬ idxP p l < 0) (h : l[(idxP p l).toNat]? = some c) : p c = true ∧ l.find? p = some c := (idxF_find p l 0).2 (by simp only [idxP] at h0; omega) c (by simpa [idxP] using h)
theorem getJ {α : Type} [Inhabited α] (xs : List α) (m : Nat) : ∃ c, (m < xs.length → xs[m]? = some c) := by
  by_cases h : m < xs.length
  · exact ⟨xs[m], fun _ => List.getElem?_eq_getElem h⟩
  · exact ⟨default, fun q => absurd q h⟩
end Go.SW
namespace Go.SW.V
open Go.SW
/-- An answer, and what is made of it. -/
def lt {α β : Type} (a : α) (f : α → β) : β := f a
theorem lt_eq {α β : Type} {a r : α} {f : α → β} (h : r = a) : lt a f = f r := by subst h; rfl
theorem condT {α : Type} {c : Bool} {a b : α} (h : c = true) : (bif c then a else b) = a := by rw [h]; rfl
theorem condF {α : Type} {c : Bool} {a b : α} (h : c = false) : (bif c then a else b) = b := by rw [h]; rfl
/-- A part of a function goes on, or the function's answer is there. -/
inductive Lo (σ ρ : Type) where
  | fin (s : σ)
  | ret (r : ρ)
def lp0 {ρ β : Type} (o : Lo Unit ρ) (f : β) (g : ρ → β) : β := match o with
  | .fin _ => f
  | .ret r => g r
def lt0 {β : Type} (_ : Unit) (f : β) : β := f
def lp1 {σ1 ρ β : Type} (o : Lo (σ1) ρ) (f : σ1 → β) (g : ρ → β) : β := match o with
  | .fin s => f s
  | .ret r => g r
def lt1 {σ1 β : Type} (s : σ1) (f : σ1 → β) : β := f s
theorem lt1_fin {σ1 β : Type} {l : β} {o : σ1} {f : σ1 → β} {a1 : σ1} (h : l = lt1 o f) (k : o = a1) : l = f a1 := by subst k; exact h
theorem lt1_split {σ1 β : Type} {l : β} {X : σ1} {f : σ1 → β} (h : l = lt1 X f) : ∃ o, o = X ∧ l = lt1 o f := ⟨_, rfl, h⟩
def lp2 {σ1 σ2 ρ β : Type} (o : Lo (σ1 × σ2) ρ) (f : σ1 → σ2 → β) (g : ρ → β) : β := match o with
  | .fin s => f s.1 s.2
  | .ret r => g r
def lt2 {σ1 σ2 β : Type} (s : σ1 × σ2) (f : σ1 → σ2 → β) : β := f s.1 s.2
def lp3 {σ1 σ2 σ3 ρ β : Type} (o : Lo (σ1 × σ2 × σ3) ρ) (f : σ1 → σ2 → σ3 → β) (g : ρ → β) : β := match o with
  | .fin s => f s.1 s.2.1 s.2.2
  | .ret r => g r
def lt3 {σ1 σ2 σ3 β : Type} (s : σ1 × σ2 × σ3) (f : σ1 → σ2 → σ3 → β) : β := f s.1 s.2.1 s.2.2
def lp4 {σ1 σ2 σ3 σ4 ρ β : Type} (o : Lo (σ1 × σ2 × σ3 × σ4) ρ) (f : σ1 → σ2 → σ3 → σ4 → β) (g : ρ → β) : β := match o with
  | .fin s => f s.1 s.2.1 s.2.2.1 s.2.2.2
  | .ret r => g r
def lt4 {σ1 σ2 σ3 σ4 β : Type} (s : σ1 × σ2 × σ3 × σ4) (f : σ1 → σ2 → σ3 → σ4 → β) : β := f s.1 s.2.1 s.2.2.1 s.2.2.2
def lp5 {σ1 σ2 σ3 σ4 σ5 ρ β : Type} (o : Lo (σ1 × σ2 × σ3 × σ4 × σ5) ρ) (f : σ1 → σ2 → σ3 → σ4 → σ5 → β) (g : ρ → β) : β := match o with
  | .fin s => f s.1 s.2.1 s.2.2.1 s.2.2.2.1 s.2.2.2.2
  | .ret r => g r
def lt5 {σ1 σ2 σ3 σ4 σ5 β : Type} (s : σ1 × σ2 × σ3 × σ4 × σ5) (f : σ1 → σ2 → σ3 → σ4 → σ5 → β) : β := f s.1 s.2.1 s.2.2.1 s.2.2.2.1 s.2.2.2.2
def lp6 {σ1 σ2 σ3 σ4 σ5 σ6 ρ β : Type} (o : Lo (σ1 × σ2 × σ3 × σ4 × σ5 × σ6) ρ) (f : σ1 → σ2 → σ3 → σ4 → σ5 → σ6 → β) (g : ρ → β) : β := match o with
  | .fin s => f s.1 s.2.1 s.2.2.1 s.2.2.2.1 s.2.2.2.2.1 s.2.2.2.2.2
  | .ret r => g r
def lt6 {σ1 σ2 σ3 σ4 σ5 σ6 β : Type} (s : σ1 × σ2 × σ3 × σ4 × σ5 × σ6) (f : σ1 → σ2 → σ3 → σ4 → σ5 → σ6 → β) : β := f s.1 s.2.1 s.2.2.1 s.2.2.2.1 s.2.2.2.2.1 s.2.2.2.2.2
def lp7 {σ1 σ2 σ3 σ4 σ5 σ6 σ7 ρ β : Type} (o : Lo (σ1 × σ2 × σ3 × σ4 × σ5 × σ6 × σ7) ρ) (f : σ1 → σ2 → σ3 → σ4 → σ5 → σ6 → σ7 → β) (g : ρ → β) : β := match o with
  | .fin s => f s.1 s.2.1 s.2.2.1 s.2.2.2.1 s.2.2.2.2.1 s.2.2.2.2.2.1 s.2.2.2.2.2.2
  | .ret r => g r
def lt7 {σ1 σ2 σ3 σ4 σ5 σ6 σ7 β : Type} (s : σ1 × σ2 × σ3 × σ4 × σ5 × σ6 × σ7) (f : σ1 → σ2 → σ3 → σ4 → σ5 → σ6 → σ7 → β) : β := f s.1 s.2.1 s.2.2.1 s.2.2.2.1 s.2.2.2.2.1 s.2.2.2.2.2.1 s.2.2.2.2.2.2
def lp8 {σ1 σ2 σ3 σ4 σ5 σ6 σ7 σ8 ρ β : Type} (o : Lo (σ1 × σ2 × σ3 × σ4 × σ5 × σ6 × σ7 × σ8) ρ) (f : σ1 → σ2 → σ3 → σ4 → σ5 → σ6 → σ7 → σ8 → β) (g : ρ → β) : β := match o with
  | .fin s => f s.1 s.2.1 s.2.2.1 s.2.2.2.1 s.2.2.2.2.1 s.2.2.2.2.2.1 s.2.2.2.2.2.2.1 s.2.2.2.2.2.2.2
  | .ret r => g r
def lt8 {σ1 σ2 σ3 σ4 σ5 σ6 σ7 σ8 β : Type} (s : σ1 × σ2 × σ3 × σ4 × σ5 × σ6 × σ7 × σ8) (f : σ1 → σ2 → σ3 → σ4 → σ5 → σ6 → σ7 → σ8 → β) : β := f s.1 s.2.1 s.2.2.1 s.2.2.2.1 s.2.2.2.2.1 s.2.2.2.2.2.1 s.2.2.2.2.2.2.1 s.2.2.2.2.2.2.2
def lp9 {σ1 σ2 σ3 σ4 σ5 σ6 σ7 σ8 σ9 ρ β : Type} (o : Lo (σ1 × σ2 × σ3 × σ4 × σ5 × σ6 × σ7 × σ8 × σ9) ρ) (f : σ1 → σ2 → σ3 → σ4 → σ5 → σ6 → σ7 → σ8 → σ9 → β) (g : ρ → β) : β := match o with
  | .fin s => f s.1 s.2.1 s.2.2.1 s.2.2.2.1 s.2.2.2.2.1 s.2.2.2.2.2.1 s.2.2.2.2.2.2.1 s.2.2.2.2.2.2.2.1 s.2.2.2.2.2.2.2.2
  | .ret r => g r
def lt9 {σ1 σ2 σ3 σ4 σ5 σ6 σ7 σ8 σ9 β : Type} (s : σ1 × σ2 × σ3 × σ4 × σ5 × σ6 × σ7 × σ8 × σ9) (f : σ1 → σ2 → σ3 → σ4 → σ5 → σ6 → σ7 → σ8 → σ9 → β) : β := f s.1 s.2.1 s.2.2.1 s.2.2.2.1 s.2.2.2.2.1 s.2.2.2.2.2.1 s.2.2.2.2.2.2.1 s.2.2.2.2.2.2.2.1 s.2.2.2.2.2.2.2.2
def lp10 {σ1 σ2 σ3 σ4 σ5 σ6 σ7 σ8 σ9 σ10 ρ β : Type} (o : Lo (σ1 × σ2 × σ3 × σ4 × σ5 × σ6 × σ7 × σ8 × σ9 × σ10) ρ) (f : σ1 → σ2 → σ3 → σ4 → σ5 → σ6 → σ7 → σ8 → σ9 → σ10 → β) (g : ρ → β) : β := match o with
  | .fin s => f s.1 s.2.1 s.2.2.1 s.2.2.2.1 s.2.2.2.2.1 s.2.2.2.2.2.1 s.2.2.2.2.2.2.1 s.2.2.2.2.2.2.2.1 s.2.2.2.2.2.2.2.2.1 s.2.2.2.2.2.2.2.2.2
  | .ret r => g r
def lt10 {σ1 σ2 σ3 σ4 σ5 σ6 σ7 σ8 σ9 σ10 β : Type} (s : σ1 × σ2 × σ3 × σ4 × σ5 × σ6 × σ7 × σ8 × σ9 × σ10) (f : σ1 → σ2 → σ3 → σ4 → σ5 → σ6 → σ7 → σ8 → σ9 → σ10 → β) : β := f s.1 s.2.1 s.2.2.1 s.2.2.2.1 s.2.2.2.2.1 s.2.2.2.2.2.1 s.2.2.2.2.2.2.1 s.2.2.2.2.2.2.2.1 s.2.2.2.2.2.2.2.2.1 s.2.2.2.2.2.2.2.2.2
/-! Elements -/
def gt {α : Type} [Inhabited α] (xs : List α) (k : Nat) : α := xs.getD k default
theorem getG {α : Type} [Inhabited α] {xs : List α} {k : Nat} (h : k < xs.length) : xs[k]? = some (gt xs k) := by
  rw [gt, List.getD_eq_getElem?_getD, List.getElem?_eq_getElem h]; rfl
theorem dropG {α : Type} [Inhabited α] {xs : List α} {k : Nat} (h : k < xs.length) : xs.drop k = gt xs k :: xs.drop (k + 1) := dropE (getG h)
theorem dropN {α : Type} {xs : List α} {k : Nat} (h : ¬ k < xs.length) : xs.drop k = [] := List.drop_of_length_le (by omega)
theorem lstep {α τ : Type} {l : τ} {xs ys : List α} {f : List α → τ} {v : τ} (e : l = f xs) (h : xs = ys) (k : f ys = v) : l = v := by subst h; exact e.trans k
theorem ple_of {α : Type} {p : PV} {a v : α} (f : α → PV) (e : a = v) (h : PLe p (f v)) : PLe p (f a) := by subst e; exact h
variable {P : Program} {n : Nat} {N : Rest} {H0 : Env} {all rest : List Oper} {Q : Qs} {ks : List Kt} {fF : Nat → PV} {fL : Nat → Blk} {T T' T2 ty d : Nat} {pos : String} {af : Array Edge} {x y z : Operand} {K : St → Prop} {op : Op} {p : PV}
/-- Several ways through a part meet behind it. -/
theorem joinc {ι : Type} {X : Code} (keep kL : List Nat) (lv : ι → List (Nat × PV)) (lL : ι → List (Nat × Blk)) (Φ : ι → Prop) (h : Hd P n N H0 Q (.code X) (.lp (LJ (fun x => ⟨mkF (lv x) keep fF, mkL (lL x) kL fL⟩) Φ (fun _ => 0) 1) :: ks) ⟨fF, fL⟩) (k : ∀ x, Φ x → Hd P n N H0 Q (.ex .normal) ks ⟨mkF (lv x) keep fF, mkL (lL x) kL fL⟩) : Hd P n N H0 Q (.code X) ks ⟨fF, fL⟩ := by
  intro F H L ha
  refine cw_mono (fun e F' H' L' hq => ?_) (h F H L ha)
  obtain ⟨s', ha', hq'⟩ := hq
  cases e with
  | normal => obtain ⟨x, h1, _, h3⟩ := hq'; exact ⟨_, h3 _ _ _ _ ha', k x h1⟩
  | _ => exact ⟨s', ha', hq'⟩
/-- A call whose answer gets a name. -/
theorem callv {α : Type} (g : α) (res : α → PV) {f : FuncId} {args : List PV} {xs : Array Operand} {ats : Array TypeId} (h : Fn P H0.g f args (res g)) (ha : argsP fF x xs.toList = some (f, args)) (hd : Nat.blt d n = true) (k : ∀ r, r = g → (res r).wf → Hd P n N H0 Q (.ops all rest) ks ⟨updp fF d (res r), fL⟩) : Hd P n N H0 Q (.ops all (⟨some d, .call ⟨.value x, xs, ats⟩, ty, pos, af, none⟩ :: rest)) ks ⟨fF, fL⟩ := call h ha hd (k g rfl)
theorem bcase {p : Prop} (b : Bool) (ht : b = true → p) (hf : b = false → p) : p := by cases b; exact hf rfl; exact ht rfl
end Go.SW.V
namespace Go.SW
structure TakerR where
  tag : Int
  queue : Bs
deriving DecidableEq, Inhabited
def TakerR.pc (x : TakerR) : List PV := [.int .u64 x.tag, .str x.queue]
structure LentR where
  id : Int
  queue : Bs
deriving DecidableEq, Inhabited
def LentR.pc (x : LentR) : List PV := [.int .u64 x.id, .str x.queue]
structure ChanR where
  credit : Int
  takers : List TakerR
  lent : List LentR
  sure : Bool
  drafts : Bool
  puts : Int
  held : DraftR
deriving DecidableEq, Inhabited
def ChanR.pc (x : ChanR) : List PV := [.int .i64 x.credit, .sl TakerR.pc x.takers, .sl LentR.pc x.lent, .bool x.sure, .bool x.drafts, .int .u64 x.puts, .sl DeedR.pc x.held.l]
end Go.SW
namespace Go.SW.V
open Go.SW
end Go.SW.V
namespace Go.SW
open Go.ChangeShapes Go.WideShapes Go.ChangeAt Go.RowKit
def hp (w : World) : Hp := fun b => w.heap[b]?
def rest0 (w : World) : Rest := ⟨fun _ => none, w.os, w.tape, w.output⟩
theorem mem0 (w : World) : Mem (rest0 w) (hp w) l0 w :=
  { os := rfl, tape := rfl, output := rfl, n := fun _ _ h => (by cases h), h := fun _ _ h => h, l := fun _ _ _ h => (by cases h), nh := fun _ _ h => (by cases h), nl := fun _ _ _ h => (by cases h), ll := fun _ _ _ _ _ h => (by cases h) }
theorem mem0_below {w w' : World} {L : Ls} (h : Mem (rest0 w) (hp w) L w') : Below w.heap.size w w' := by
  have hb : ∀ k, k < w.heap.size → w'.heap[k]? = w.heap[k]? := fun k hk => by
    have e : w.heap[k]? = some w.heap[k] := Array.getElem?_eq_getElem hk
    rw [e]; exact h.h k _ e
  refine ⟨h.os, h.tape, h.output, ?_, hb⟩
  by_cases z : w.heap.size = 0
  · omega
  · have := hb (w.heap.size - 1) (by omega)
    rw [Array.getElem?_eq_getElem (show w.heap.size - 1 < w.heap.size by omega)] at this
    have := (Array.getElem?_eq_some_iff.1 this).1
    omega
section
variable {Ht : Type} {enc : TypeId × Value → Ht} {P : Program} {w : World} {base fuel : Nat} {spare : Nat → Bool} {held : Bool} {cs : List Value} {x : DataW Ht × List MemPlace} {t : TypeId}
theorem rd_int {k : IntKind} (ht : P.underlying t = some (.int k)) (h : DataW.trod enc P w base spare held fuel t cs = some x) : ∃ z : Int, cs = [.int k z] ∧ k.min ≤ z ∧ z ≤ k.max := by
  obtain ⟨z, h1, _, h2⟩ := DataW.trod_int ht h
  refine ⟨z, h1, ?_⟩
  simp only [Lit.wf, Bool.and_eq_true, decide_eq_true_eq] at h2; exact h2
theorem rd_bool (ht : P.underlying t = some .bool) (h : DataW.trod enc P w base spare held fuel t cs = some x) : ∃ z : Bool, cs = [.bool z] := by
  obtain ⟨z, h1, _⟩ := DataW.trod_bool ht h
  exact ⟨z, h1⟩
theorem rd_str (ht : P.underlying t = some .string) (h : DataW.trod enc P w base spare held fuel t cs = some x) : ∃ s : Bs, cs = [str s] ∧ s.length ≤ 9223372036854775807 := by
  obtain ⟨s, h1, _, h2⟩ := DataW.trod_string ht h
  refine ⟨s.data.toList, by rw [h1, str_of], ?_⟩
  have : s.data.toList.length = s.size := Array.length_toList
  rw [this]; exact h2
theorem list_of {α : Type} {Q : Nat → α → Prop} : ∀ n, (∀ i, i < n → ∃ r, Q i r) → ∃ rs : List α, rs.length = n ∧ ∀ i (h : i < rs.length), Q i rs[i]
  | 0, _ => ⟨[], rfl, fun i h => by cases h⟩
  | n + 1, hq => by
    obtain ⟨rs, hl, hr⟩ := list_of n (fun i hi => hq i (by omega))
    obtain ⟨r, hr0⟩ := hq n (by omega)
    refine ⟨rs ++ [r], by simp [hl], fun i hi => ?_⟩
    by_cases e : i < rs.length
    · rw [List.getElem_append_left e]; exact hr i e
    · have : i = rs.length := by simp at hi; omega
      subst this
      rw [List.getElem_append_right (Nat.le_refl _)]
      simp only [Nat.sub_self, List.getElem_cons_zero]
      rw [hl]; exact hr0
/-- A struct's field. -/
theorem rd_fld {fs : Array Field} {xs : List (DataW Ht × List MemPlace)} {n i o k : Nat} {f : Field} {ft : TypeId} (hf : ∀ (i : Nat) (f : Field), fs[i]? = some f → DataW.trod enc P w base spare held n f.type ((cs.drop f.offset).take (P.cellsOf f.type)) = xs[i]?) (hl : xs.length = fs.size)
    (hi : fs[i]? = some f) (ho : f.offset = o) (ht : f.type = ft) (hk : P.cellsOf ft = k) : ∃ y, DataW.trod enc P w base spare held n ft ((cs.drop o).take k) = some y := by
  have h := hf i f hi
  have hlt : i < fs.size := (Array.getElem?_eq_some_iff.1 hi).1
  rw [ho, ht, hk, List.getElem?_eq_getElem (by omega)] at h
  exact ⟨_, h⟩
end
theorem params_ok {P : Program} {ts : Array TypeId} (h : (ts.toList.all fun t => P.readableRec t && decide (t < P.types.size)) = true) : ∀ t ∈ ts.toList, P.readableRec t = true ∧ t < P.types.size := fun t ht => by
  have := List.all_eq_true.1 h t ht
  simpa using this
theorem rd_one_int {Ht : Type} {enc : TypeId × Value → Ht} {P : Program} {w : World} {r : Reach} {b0 base : Nat} {spare : Nat → Bool} {held : Bool} {t : TypeId} {k : IntKind} {v : Value} {d : DataW Ht} {p : List MemPlace} (hs : P.underlying t = some (.int k)) (hv : Value.okWide P w r b0 t v)
    (h : DataW.Trod enc P w base spare held t v d p) : ∃ z : Int, v = .int k z ∧ k.min ≤ z ∧ z ≤ k.max := by
  obtain ⟨z, rfl, _, _, hw⟩ := open_int hs hv h
  refine ⟨z, rfl, ?_⟩
  simp only [Lit.wf, Bool.and_eq_true, decide_eq_true_eq] at hw; exact hw
/-- The cells of a datum. -/
def flatD : Nat → DataW Unit → List Value
  | _, .lit (.int k n) => [.int k n]
  | _, .lit (.string s) => [.string ⟨s.toArray⟩]
  | _, .lit (.bool b) => [.bool b]
  | n + 1, .agg l => l.flatMap (flatD n)
  | _, _ => []
/-- The settled world, with data laid in its variables. -/
def layD (d : DataW Unit) : Obj → Obj
  | .cells _ t frozen => .cells (flatD 5 d).toArray t frozen
  | o => o
noncomputable def laidW (P : Program) (os : Os) (l : List (Nat × DataW Unit)) : World :=
  let w0 := World.holding P os ⟨#[], #[], []⟩
  { w0 with heap := List.foldl (fun h x => h.modify x.1 (layD x.2)) w0.heap l }
/-- Each argument reads as it did, where below the heap's old size nothing has turned. -/
theorem trodAll_stays {Ht : Type} {enc : TypeId × Value → Ht} {P : Program} (hl : laidOutB P = true) {W W' : World} (hb : Below W.heap.size W W') {sp : Nat → Bool} : ∀ {ts : List TypeId} {vs : List Value} {ds : List (DataW Ht)} {ps : List MemPlace}, (∀ t ∈ ts, P.readableRec t = true ∧ t < P.types.size) →
    DataW.TrodAll enc P W 0 (fun _ => true) true ts vs ds ps → (∀ x ∈ ps, x.block < W.heap.size) → (∀ x ∈ ps, sp x.block = true) → DataW.TrodAll enc P W' 0 sp true ts vs ds ps := by
  intro ts
  induction ts with
  | nil => intro vs ds ps _ h _ _; cases vs <;> cases ds <;> first | exact h | exact h.elim
  | cons t ts ih =>
    intro vs ds ps hr h hlt hsp
    obtain ⟨v, vs', d, ds', p, q, rfl, rfl, rfl, h1, h2⟩ := trodAll_cons h
    exact trodAll_cons_mk (WideElems.Trod_stays hl (hr t (by simp)).1 (hr t (by simp)).2 h1 (fun x hx => hb.same (hlt x (by simp [hx]))) (fun x hx => hsp x (by simp [hx]))) (ih (fun u hu => hr u (by simp [hu])) h2 (fun x hx => hlt x (by simp [hx])) (fun x hx => hsp x (by simp [hx])))
section
variable {Ht : Type} {enc : TypeId × Value → Ht} {P : Program}
/-- A row's last step where below the heap's old size nothing has turned: it hands back true, and the arguments read as they did. -/
theorem law_post {f : Func} {s : ChangeSpec} {apart fresh again : Bool} {W W' : World} {args : Array Value} {ds : List (DataW Ht)} {before : List MemPlace} {tb : TypeId} (hvars : s.vars = [])
    (hW : DataW.Whole enc P f.params.toList s.vars apart W args.toList ds [] before) (hb : Below W.heap.size W W') (hl : laidOutB P = true) (hr : ∀ t ∈ f.params.toList, P.readableRec t = true ∧ t < P.types.size)
    (hres : f.resultTypes = #[tb]) (hu : P.underlying tb = some .bool) (hfn : s.fn Ht (ds ++ []) = { results := [.lit (.bool true)], args := ds }) : s.post enc P f apart fresh false again W args (.bool true) W' := by
  have hlt : ∀ p ∈ before, p.block < W.heap.size := fun p hp => hW.lt p hp
  have hold : ∀ p ∈ before, (fun b => decide (b < W.heap.size)) p.block = true := fun p hp => by simpa using hlt p hp
  have hW0 := hW
  obtain ⟨p, q, hA, hV, rfl, hz, hn⟩ := hW0
  have hq : q = [] := by
    rw [hvars] at hV
    exact (trodVars_none hV).2
  subst hq
  rw [List.append_nil] at hlt hold hz hn hW
  have hA0 : DataW.TrodAll enc P W 0 (fun _ => true) true f.params.toList args.toList ds p := hA
  have hargs : ∀ sp : Nat → Bool, (∀ x ∈ p, sp x.block = true) → DataW.TrodAll enc P W' 0 sp true f.params.toList args.toList ds p := fun sp hs => trodAll_stays hl hb hr hA0 hlt hs
  have hvs : ∀ sp : Nat → Bool, DataW.TrodVars enc P W' sp s.vars ([] : List (DataW Ht)) [] := fun sp => by rw [hvars]; rfl
  have hR : ∀ (b : Nat) (sp : Nat → Bool) (hd : Bool), DataW.TrodAll enc P W' b sp hd f.resultTypes.toList ((Value.bool true).resultList f.resultTypes.size) [.lit (.bool true)] [] := fun b sp hd => by
    rw [hres]
    exact trodAll_mk1 (shut_bool hu true)
  have hok : ∀ (j : Nat) (t : TypeId) (r : Value), f.resultTypes[j]? = some t → ((Value.bool true).resultList f.resultTypes.size)[j]? = some r → Value.okWide P W' .any 0 t r := ok_one hres rfl (okWide_bool_mk hu true)
  refine ⟨ds, [], p, [], p, [], hW, ?_, ?_, ?_, World.keptBut_mono (fun x hx => ⟨hx, Or.inr (by simpa using hx)⟩) (hb.frame (· ∈ p)), fun _ => ?_⟩
  · rw [hfn]; exact hR _ _ _
  · rw [hfn]; exact hargs _ hold
  · rw [hfn]; exact hvs _
  · refine ⟨hok, _, _, ([] ++ p) ++ [], ⟨[] ++ p, [], trodAll_append (hargs _ (fun _ _ => rfl)) (hR _ _ _), hvs _, rfl, ?_, ?_⟩, ?_⟩
    · intro b off hp
      have hin : MemPlace.cell b off ∈ p := by simpa using hp
      rw [hb.frozen (hlt _ hin)]
      exact hz b off hin
    · intro ha
      have := hn ha
      simpa using this
    · intro x hx _
      simpa using hx
/-- A variable of type int holds an int. -/
theorem gint_of_shape {w : World} {g : Nat} {t : TypeId} {zero : Array Value} (h : w.ShapedOpen P) (hg : g < P.globals.size)
    (h0 : ((begin P (fun _ _ => 0) default).world.heap[g]?).bind Obj.row? = some (zero, t)) (hz : zero.size = 1)
    (hb : P.buildable t = true) (hc : P.cellTypes P.depth t = some [t]) (hu : P.underlying t = some (.int .i64)) : GInt (hp w) g := by
  obtain ⟨cs, hh, hs, hr⟩ := h.1 g zero t hg h0
  obtain ⟨ts, hts, _, hall⟩ := hr hb
  rw [hc] at hts
  cases hts
  have h1 : 0 < cs.size := by omega
  obtain ⟨u, hu', hok⟩ := hall 0 cs[0] (by simp [h1])
  have : u = t := by simpa using hu'.symm
  subst this
  unfold Cell.ok at hok
  rw [hu] at hok
  have hv : ∃ m, cs[0] = .int .i64 m := by
    cases hv : cs[0] <;> rw [hv] at hok <;> first | exact ⟨_, by rw [hok.1]⟩ | simp at hok
  obtain ⟨m, hm⟩ := hv
  refine ⟨m, u, (0, 0), ?_⟩
  show w.heap[g]? = _
  rw [hh]
  have e : cs = #[.int .i64 m] := by
    apply Array.ext
    · simp; omega
    · intro i hi1 hi2
      have : i = 0 := by simp at hi2; omega
      subst this
      simpa using hm
  rw [e]
/-- A table of integers that the row lists. -/
theorem gtab_of {w : World} {g n : Nat} {name : String} {k : IntKind} {zs : List Int} {rest : List (String × DataW Unit)} {t e : TypeId} (hg : P.globalNamed name = some g) (hty : (P.globals[g]?).map (·.type) = some t) (ht : P.underlying t = some (.array n e)) (he : P.underlying e = some (.int k)) (hce : P.cellsOf e = 1) (hct : P.cellsOf t = n)
    (h : laidMet P ((name, Lib.tabData k zs) :: rest) w) : ∃ T fr, hp w g = some (.cells (zs.map (Value.int k)).toArray T fr) := by
  have hT := Lib.tabIs_of_head hg hty ht he hce hct h
  unfold Lib.TabIs World.var? at hT
  rw [hg] at hT
  simp only [Option.bind_some] at hT
  split at hT
  · rename_i cs T fr hh
    cases hT
    exact ⟨T, fr, hh⟩
  · cases hT
end
end Go.SW
namespace Go.SW
open Go.ChangeShapes Go.WideShapes Go.ChangeAt Go.RowKit
variable {P : Program}
theorem dat_slice {Ht : Type} {enc : TypeId × Value → Ht} {w : World} {base fuel : Nat} {spare : Nat → Bool} {held : Bool} {a : Option Addr} {l c : Nat} {x : DataW Ht × List MemPlace} {t e : TypeId} (ht : P.underlying t = some (.slice e))
    (h : DataW.trod enc P w base spare held fuel t [.slice a l c] = some x) : x.1 = .nil ∧ l = 0 ∨ ∃ el sp, x.1 = .slice el sp ∧ el.length = l := by
  rcases Go.Deep.open_slice ht h with ⟨h1, h2⟩ | ⟨a', len, cap, m, nf, D, Pl, h1, _, hl, hm, hmm, hx, _⟩
  · cases h1; subst h2; exact .inl ⟨rfl, rfl⟩
  · cases h1; subst hx; exact .inr ⟨_, _, rfl, by simp⟩
theorem rd_one_slice {w : World} {r : Reach} {b0 : Nat} {t e : TypeId} {v : Value} {a : Option Addr} {l c : Nat} (hs : P.underlying t = some (.slice e)) (hv : Value.okWide P w r b0 t v) (he : v.cells.toList = [.slice a l c]) : v = .slice a l c := by
  unfold Value.okWide at hv
  rw [hs] at hv
  simp only at hv
  unfold Cell.okWide at hv
  rw [hs] at hv
  cases v with
  | agg cs => simp [Cell.ok, hs] at hv
  | _ => exact (List.cons.inj he).1
end Go.SW
namespace Go.SW
open Go.ChangeShapes Go.WideShapes Go.ChangeAt Go.RowKit
variable {P : Program}
/-- What is read at a type stands for something. -/
def Rdv {α : Type} (P : Program) (t : TypeId) (en : α → List PV) (k : Nat) : Prop :=
  ∀ (Ht : Type) (enc : TypeId × Value → Ht) (w : World) (base : Nat) (spare : Nat → Bool) (held : Bool) (fuel : Nat) (cs : List Value) (x : DataW Ht × List MemPlace),
    DataW.trod enc P w base spare held fuel t cs = some x → (∀ n ∈ x.1.weights P t, n ≤ reachBytes) → ∃ r : α, RowE en k (hp w) r cs
theorem rowE1 {α : Type} {en : α → List PV} {H : Hp} {r : α} {p : PV} {v : Value} (he : en r = [p]) (h : Sim H p v) (ho : v.oneCell' = true) : RowE en 1 H r [v] :=
  ⟨by rw [he]; rfl, by rw [he]; exact Sims.nil.cons h, fun u hu => by rw [List.mem_singleton.1 hu]; exact ho⟩
theorem rdv_int {k : IntKind} {t : TypeId} (ht : P.underlying t = some (.int k)) : Rdv P t (fun z : Int => [.int k z]) 1 := fun _ _ _ _ _ _ _ _ _ h _ => by
  obtain ⟨z, rfl, h1, h2⟩ := rd_int ht h
  exact ⟨z, rowE1 rfl (.int h1 h2) rfl⟩
theorem rdv_bool {t : TypeId} (ht : P.underlying t = some .bool) : Rdv P t (fun z : Bool => [.bool z]) 1 := fun _ _ _ _ _ _ _ _ _ h _ => by
  obtain ⟨z, rfl⟩ := rd_bool ht h
  exact ⟨z, rowE1 rfl .bool rfl⟩
theorem rdv_str {t : TypeId} (ht : P.underlying t = some .string) : Rdv P t (fun s : Bs => [.str s]) 1 := fun _ _ _ _ _ _ _ _ _ h _ => by
  obtain ⟨s, rfl, h1⟩ := rd_str ht h
  exact ⟨s, rowE1 rfl (.str h1) rfl⟩
theorem weightsAll_mem {H : Type} {e : TypeId} : ∀ {ds : List (DataW H)} {d : DataW H} {n : Nat}, d ∈ ds → n ∈ d.weights P e → n ∈ DataW.weightsAll P e ds
  | [], _, _, h, _ => by cases h
  | d0 :: r, d, n, h, hn => by
    simp only [DataW.weightsAll, List.mem_append]
    rcases List.mem_cons.1 h with rfl | q
    · exact .inl hn
    · exact .inr (weightsAll_mem q hn)
theorem rdv_slice {α : Type} {en : α → List PV} {k : Nat} {t e : TypeId} (ht : P.underlying t = some (.slice e)) (hk : P.cellsOf e = k) (h0 : 0 < k) (hb : 0 < P.bytesOf e) (he : Rdv P e en k) : Rdv P t (fun xs : List α => [.sl en xs]) 1 := fun Ht enc w base spare held fuel cs x h hw => by
  have hlen : ∀ {a : Option Addr} {l c : Nat}, cs = [.slice a l c] → l ≤ 140737488355328 := fun {a l c} hcs => by
    subst hcs
    rcases dat_slice ht h with ⟨_, rfl⟩ | ⟨el, sp, hx, rfl⟩
    · exact Nat.zero_le _
    · have := hw ((el.length + sp.length) * P.bytesOf e) (by rw [hx]; simp [DataW.weights, ht])
      have h1 : el.length ≤ (el.length + sp.length) * P.bytesOf e := Nat.le_trans (Nat.le_add_right _ _) (Nat.le_mul_of_pos_right _ hb)
      have h2 : reachBytes = 140737488351232 := by decide
      omega
  rcases Go.Deep.open_slice ht h with ⟨h1, _⟩ | ⟨a, len, cap, m, nf, D, Pl, h1, _, hl, hm, hmm, hx, hi⟩
  · subst h1
    exact ⟨[], rowE1 rfl (Sim.of_slh (k := 0) slh_nil (by simp)) rfl⟩
  · have hs0 : 0 < len → a = ⟨a.block, a.off, none⟩ := by
      intro hl0
      obtain ⟨cs', hc, hT⟩ := hi 0 (by rw [hmm]; split <;> omega)
      rw [hk, Nat.zero_mul] at hc
      obtain ⟨_, hcl, hat⟩ := World.cells?_some hc
      have ha0 := hat 0 h0
      rw [List.getElem?_eq_getElem (by omega)] at ha0
      obtain ⟨ab, ao, asp⟩ := a
      cases asp with
      | none => rfl
      | some z =>
        exfalso
        unfold World.cell? at ha0
        simp only [Addr.add] at ha0
        split at ha0 <;> simp at ha0
    have hwD : ∀ i, i < len → ∀ n ∈ (D i).weights P e, n ≤ reachBytes := fun i hil n hn => by
      refine hw n ?_
      rw [hx]
      simp only [DataW.weights, ht, List.mem_cons, List.mem_append]
      exact .inr (.inl (weightsAll_mem (List.mem_map.2 ⟨i, List.mem_range.2 hil, rfl⟩) hn))
    have key : ∀ i, i < len → ∃ r : α, ∃ cs', RowE en k (hp w) r cs' ∧ SlAt (hp w) (.slice (some a) len cap) k i cs' := by
      intro i hil
      have ha := hs0 (by omega)
      obtain ⟨cs', hc, hT⟩ := hi i (by rw [hmm]; split <;> omega)
      obtain ⟨r, hr⟩ := he _ _ _ _ _ _ _ _ _ hT (hwD i hil)
      rw [hk] at hc
      obtain ⟨_, hcl, hat⟩ := World.cells?_some hc
      refine ⟨r, cs', hr, ?_⟩
      generalize a.block = ab at ha
      generalize a.off = ao at ha
      subst ha
      simp only [add_none] at hat
      have ha0 := hat 0 h0
      rw [List.getElem?_eq_getElem (by omega)] at ha0
      unfold World.cell? at ha0
      simp only at ha0
      split at ha0
      · rename_i c T fr hb
        refine ⟨ab, ao, len, cap, c, T, fr, rfl, hb, hcl, fun j hj => ?_⟩
        have := hat j hj
        unfold World.cell? at this
        simp only at this
        rw [hb] at this
        simpa using this
      · cases ha0
    obtain ⟨rs, hlen', hr⟩ := list_of (Q := fun i (r : α) => ∃ cs', RowE en k (hp w) r cs' ∧ SlAt (hp w) (.slice (some a) len cap) k i cs') len key
    have hs : SlH (RowE en k) k (hp w) (.slice (some a) rs.length cap) rs := ⟨⟨some a, cap, rfl, by omega⟩, fun i hi => by rw [hlen']; exact hr i hi⟩
    subst h1
    have hle := hlen (rfl : [Value.slice (some a) len cap] = _)
    refine ⟨rs, rowE1 rfl (v := .slice (some a) len cap) (by rw [← hlen']; exact Sim.of_slh hs (by omega)) rfl⟩
/-- The fields of a struct, one after the other. -/
theorem rows_app {ps qs : List PV} {H : Hp} {cs ds : List Value} {m n : Nat} (h : ps.length = m ∧ Sims H ps cs ∧ ∀ u ∈ cs, u.oneCell' = true) (k : qs.length = n ∧ Sims H qs ds ∧ ∀ u ∈ ds, u.oneCell' = true) : (ps ++ qs).length = m + n ∧ Sims H (ps ++ qs) (cs ++ ds) ∧ ∀ u ∈ cs ++ ds, u.oneCell' = true :=
  ⟨by simp [h.1, k.1], h.2.1.append k.2.1, fun u hu => by rcases List.mem_append.1 hu with q | q; exact h.2.2 u q; exact k.2.2 u q⟩
theorem rdv_fld {Ht : Type} {enc : TypeId × Value → Ht} {w : World} {base : Nat} {spare : Nat → Bool} {held : Bool} {cs : List Value} {t : TypeId} {fs : Array Field} {xs : List (DataW Ht × List MemPlace)} {n i o k : Nat} {f : Field} {ft : TypeId} {α : Type} {en : α → List PV} (ht : P.underlying t = some (.struct fs))
    (hf : ∀ (i : Nat) (f : Field), fs[i]? = some f → DataW.trod enc P w base spare held n f.type ((cs.drop f.offset).take (P.cellsOf f.type)) = xs[i]?) (hl : xs.length = fs.size) (hw : ∀ q ∈ (DataW.agg (xs.map (·.1)) : DataW Ht).weights P t, q ≤ reachBytes)
    (hi : fs[i]? = some f) (ho : f.offset = o) (hft : f.type = ft) (hk : P.cellsOf ft = k) (hr : Rdv P ft en k) : ∃ r, RowE en k (hp w) r ((cs.drop o).take k) := by
  obtain ⟨y, hy⟩ := rd_fld hf hl hi ho hft hk
  refine hr _ _ _ _ _ _ _ _ _ hy fun q hq => hw q ?_
  have h := hf i f hi
  rw [ho, hft, hk, hy] at h
  simp only [DataW.weights, ht]
  refine DataW.weights_mem_each (j := i) (t := ft) (d := y.1) ?_ ?_ q hq
  · rw [List.getElem?_map, Array.getElem?_toList, hi]; simp [hft]
  · rw [List.getElem?_map, ← h]; rfl
theorem row_cut {en : List PV} {H : Hp} {cs : List Value} {o k : Nat} {q : Nat} (h : en.length = k ∧ Sims H en ((cs.drop o).take k) ∧ ∀ u ∈ (cs.drop o).take k, u.oneCell' = true) {es : List PV} (hr : es.length = q ∧ Sims H es (cs.drop (o + k)) ∧ ∀ u ∈ cs.drop (o + k), u.oneCell' = true) : (en ++ es).length = k + q ∧ Sims H (en ++ es) (cs.drop o) ∧ ∀ u ∈ cs.drop o, u.oneCell' = true := by
  have := rows_app h hr
  rw [← List.drop_drop, List.take_append_drop] at this
  exact this
theorem row_last {en : List PV} {H : Hp} {cs : List Value} {o k : Nat} (hl : cs.length = o + k) (h : en.length = k ∧ Sims H en ((cs.drop o).take k) ∧ ∀ u ∈ (cs.drop o).take k, u.oneCell' = true) : en.length = k ∧ Sims H en (cs.drop o) ∧ ∀ u ∈ cs.drop o, u.oneCell' = true := by
  rw [List.take_of_length_le (by simp; omega)] at h
  exact h
/-! Arguments -/
section
variable {Ht : Type} {enc : TypeId × Value → Ht} {w : World} {r : Reach} {b0 base : Nat} {spare : Nat → Bool} {held : Bool} {t : TypeId} {v : Value} {d : DataW Ht} {p : List MemPlace}
theorem arg_int {k : IntKind} (hs : P.underlying t = some (.int k)) (hv : Value.okWide P w r b0 t v) (h : DataW.Trod enc P w base spare held t v d p) : ∃ z : Int, Sim (hp w) (.int k z) v := by
  obtain ⟨z, rfl, h1, h2⟩ := rd_one_int hs hv h
  exact ⟨z, .int h1 h2⟩
theorem arg_sl {α : Type} {en : α → List PV} {e : TypeId} (hs : P.underlying t = some (.slice e)) (hv : Value.okWide P w r b0 t v) (h : DataW.Trod enc P w base spare held t v d p) (hw : ∀ q ∈ d.weights P t, q ≤ reachBytes) (hr : Rdv P t (fun xs : List α => [.sl en xs]) 1) : ∃ z : List α, Sim (hp w) (.sl en z) v := by
  obtain ⟨fuel, h1⟩ := h
  obtain ⟨z, h2⟩ := hr _ _ _ _ _ _ _ _ _ h1 hw
  obtain ⟨u, us, e1, h3, h4⟩ := h2.2.1.inv_cons
  cases h4.inv_nil
  have : ∃ a l c, u = .slice a l c := by cases h3; exact ⟨_, _, _, rfl⟩
  obtain ⟨a, l, c, rfl⟩ := this
  obtain rfl := rd_one_slice hs hv e1
  exact ⟨z, h3⟩
theorem wt_arg {ts : List TypeId} {ds : List (DataW Ht)} {j : Nat} (hw : (DataW.weightsEach P ts ds).all (· ≤ reachBytes) = true) (ht : ts[j]? = some t) (hd : ds[j]? = some d) : ∀ q ∈ d.weights P t, q ≤ reachBytes := fun q hq => by
  have := List.all_eq_true.1 hw q (DataW.weights_mem_each ht hd q hq)
  simpa using this
end
/-- A law's call, closed. -/
theorem law_run {G : Gb} {f : FuncId} {args : List PV} {b : Bool} {vs : List Value} {W : World} (h : Fn P G f args (.bool b)) (hg : G.p (hp W)) (hs : Sims (hp W) args vs) (hb : b = true) : Calls P f vs.toArray W fun e W' => e = .returned (.bool true) ∧ Mem (rest0 W) (hp W) l0 W' :=
  (h.run (rest0 W) (hp W) l0 W vs hg hs (mem0 W)).mono fun _ _ ⟨v, H', h1, h2, h3, h4⟩ => ⟨by rw [h1, h2.inv_bool, hb], h4.le h3⟩
end Go.SW
namespace Go.SW.V
open Go.SW
variable {P : Program} {n m : Nat} {N : Rest} {H0 : Env} {all rest : List Oper} {Q : Qs} {ks : List Kt} {fF gF : Nat → PV} {fL gL : Nat → Blk} {T ty d : Nat} {pos : String} {af : Array Edge} {x y z : Operand}
/-- The caller's slots behind such a call: of lists that are owned those in ts alone. -/
def deF (ts : List Nat) (G : Nat → PV) : Nat → PV := fun t => bif memB ts t then G t else (match G t with
  | .osl _ => .junk
  | p => p)
def keptO (G : Nat → PV) (L L' : Nat → Blk) : List Nat → Prop
  | [] => True
  | t :: r => (match G t with
    | .osl q => L' q = L q
    | _ => True) ∧ keptO G L L' r
theorem keptO_get {G : Nat → PV} {L L' : Nat → Blk} : ∀ {ts : List Nat} {t q : Nat}, keptO G L L' ts → t ∈ ts → G t = .osl q → L' q = L q
  | [], t, q, _, h, _ => by cases h
  | a :: r, t, q, hk, h, hG => by
    rcases List.mem_cons.1 h with rfl | h
    · have := hk.1; rw [hG] at this; exact this
    · exact keptO_get hk.2 h hG
def inlK (P : Program) (n : Nat) (N : Rest) (H0 : Env) (tb : Tb) (rs : List ResultVar) (ts : List Nat) (fF : Nat → PV) (fL : Nat → Blk) (Q : Qs) (all rest : List Oper) (ks : List Kt) (d : Nat) : Qs := fun e s => (e = .normal ∨ e = .ret) ∧
  ∃ ps as0 bs, resPs tb s rs = some (ps, as0, bs) ∧ as0 = bs ∧ (tupP ps).noOsl = true ∧ keptO fF fL s.L ts ∧ Hd P n N H0 Q (.ops all rest) ks ⟨updp (deF ts fF) d (tupP ps), s.L⟩
theorem inlr {H1 : Env} {tb : Tb} {rs : List ResultVar} {ts : List Nat} {ps : List PV} {as0 bs : List Nat} (h : resPs tb ⟨gF, gL⟩ rs = some (ps, as0, bs)) (he : as0 = bs) (hno : (tupP ps).noOsl = true) (hk : keptO fF fL gL ts) (k : Hd P n N H0 Q (.ops all rest) ks ⟨updp (deF ts fF) d (tupP ps), gL⟩) : Hd P m N H1 (inlK P n N H0 tb rs ts fF fL Q all rest ks d) (.ex .ret) [] ⟨gF, gL⟩ := ⟨.inr rfl, ps, as0, bs, h, he, hno, hk, k⟩
theorem inln {H1 : Env} {tb : Tb} {rs : List ResultVar} {ts : List Nat} {ps : List PV} {as0 bs : List Nat} (h : resPs tb ⟨gF, gL⟩ rs = some (ps, as0, bs)) (he : as0 = bs) (hno : (tupP ps).noOsl = true) (hk : keptO fF fL gL ts) (k : Hd P n N H0 Q (.ops all rest) ks ⟨updp (deF ts fF) d (tupP ps), gL⟩) : Hd P m N H1 (inlK P n N H0 tb rs ts fF fL Q all rest ks d) (.ex .normal) [] ⟨gF, gL⟩ := ⟨.inl rfl, ps, as0, bs, h, he, hno, hk, k⟩
theorem deF_ok {ts : List Nat} {H : Hp} {F : Fr} (hf : ∀ t, SimT fL H (fF t) (F t)) (hk : keptO fF fL gL ts) (t : Nat) : SimT gL H (deF ts fF t) (F t) := by
  have h1 := hf t
  unfold deF
  cases e : memB ts t with
  | true =>
    simp only [cond_true]
    cases hp : fF t with
    | osl q =>
      have h2 := keptO_get hk (memB_spec e) hp
      rw [hp] at h1
      simp only [SimT, h2] at h1 ⊢
      exact h1
    | _ => rw [hp] at h1; exact h1
  | false =>
    simp only [cond_false]
    cases hp : fF t with
    | osl q => exact Sim.junk
    | _ => rw [hp] at h1; exact h1
theorem hinl {tb : Tb} {f : FuncId} {fn : Func} {c : Code} {args : List PV} {xs : Array Operand} {ats : Array TypeId} (ts : List Nat) (ht : tbB P tb = true) (hf : P.funcs[f]? = some fn) (hb : fn.body = some c) (hn : fn.ntmps = m) (hcb : Callable P f) (ha : argsP fF x xs.toList = some (f, args)) (hs : Nat.ble args.length m = true) (hna : noOsls args = true) (hd : Nat.blt d n = true)
    (h : ∀ Hc, H0.g.p Hc → Hd P m N ⟨Hc, H0.g⟩ (inlK P n N H0 tb fn.results.toList ts fF fL Q all rest ks d) (.code c) [] ⟨initP args, fL⟩) : Hd P n N H0 Q (.ops all (⟨some d, .call ⟨.value x, xs, ats⟩, ty, pos, af, none⟩ :: rest)) ks ⟨fF, fL⟩ := by
  intro F H L hab
  obtain ⟨vs, h1, h2⟩ := args_ok (ats := ats) hab.f ha hcb
  refine ow1 fun a w hA hm => ?_
  rw [if_pos (by simp [Region.wanted])]
  unfold Oper.wp
  rw [hA.eval, h2]
  subst hn
  have h3 := h H hab.g (initF vs.toArray) H L ⟨.refl H, hab.g, fun t => init_sim h1 hna t, hab.l⟩
  refine calls_of_cw (R := fun v H' L' => ∃ (sL : Nat → Blk) (res : PV), Sim H' res v ∧ res.noOsl = true ∧ keptO fF fL sL ts ∧ (∀ i, SimB sL H' (sL i) (L' i)) ∧ H0.g.p H' ∧ Hd P n N H0 Q (.ops all rest) ks ⟨updp (deF ts fF) d res, sL⟩) (H0 := H) hf hb (by have := Nat.le_of_ble_eq_true hs; simp [h1.1]; exact this) (cw_mono (fun e F' H' L' hq => ?_) h3) hm ?_
  · obtain ⟨s', ha', he, ps, as0, bs, e1, e2, e3, e4, e5⟩ := hq
    obtain ⟨_, v, hr, hv⟩ := rtK_res (N := N) (res := tupP ps) ht ha' (show rtK tb fn.results.toList (tupP ps) e s' from ⟨he, ps, as0, bs, e1, e2, ple rfl⟩)
    rcases he with rfl | rfl
    · exact ⟨v, hr, ha'.le, s'.L, _, hv, e3, e4, ha'.l, ha'.g, e5⟩
    · exact ⟨v, hr, ha'.le, s'.L, _, hv, e3, e4, ha'.l, ha'.g, e5⟩
  · intro v H' L' w' ⟨sL, res, e1, e2, e3, e4, e5, e6⟩ hl hm'
    refine ⟨_, H', L', hA.put (by simpa using hd) v, hm', ?_⟩
    exact e6 _ _ _ (Abs.put (p := res) (s := ⟨deF ts fF, sL⟩) ⟨hab.le.trans hl, e5, deF_ok (fun t => (hab.f t).mono hl) e3, e4⟩ d (e1.simT e2))
end Go.SW.V
namespace Go.SW.V
open Go.SW
variable {P : Program} {n : Nat} {N : Rest} {H0 : Env} {all rest : List Oper} {Q : Qs} {ks : List Kt} {fF : Nat → PV} {fL : Nat → Blk} {T ty d : Nat} {pos : String} {af : Array Edge} {x y z : Operand} {K : St → Prop}
end Go.SW.V
namespace Go.SW.V
open Go.SW
variable {P : Program} {n : Nat} {N : Rest} {H0 : Env} {all rest : List Oper} {Q : Qs} {ks : List Kt} {fF : Nat → PV} {fL : Nat → Blk} {T ty d : Nat} {pos : String} {af : Array Edge} {x y z : Operand} {K : St → Prop}
structure A5 (α : Type) where
  (e0 e1 e2 e3 e4 : α)
deriving DecidableEq, Inhabited
structure A8 (α : Type) where
  (e0 e1 e2 e3 e4 e5 e6 e7 : α)
deriving DecidableEq, Inhabited
structure A16 (α : Type) where
  (e0 e1 e2 e3 e4 e5 e6 e7 e8 e9 e10 e11 e12 e13 e14 e15 : α)
deriving DecidableEq, Inhabited
def A5.get {α : Type} (a : A5 α) : Nat → α
  | 0 => a.e0 | 1 => a.e1 | 2 => a.e2 | 3 => a.e3 | _ => a.e4
def A8.get {α : Type} (a : A8 α) : Nat → α
  | 0 => a.e0 | 1 => a.e1 | 2 => a.e2 | 3 => a.e3 | 4 => a.e4 | 5 => a.e5 | 6 => a.e6 | _ => a.e7
def A16.get {α : Type} (a : A16 α) : Nat → α
  | 0 => a.e0 | 1 => a.e1 | 2 => a.e2 | 3 => a.e3 | 4 => a.e4 | 5 => a.e5 | 6 => a.e6 | 7 => a.e7 | 8 => a.e8 | 9 => a.e9 | 10 => a.e10 | 11 => a.e11 | 12 => a.e12 | 13 => a.e13 | 14 => a.e14 | _ => a.e15
def A5.set {α : Type} (a : A5 α) (v : α) : Nat → A5 α
  | 0 => { a with e0 := v } | 1 => { a with e1 := v } | 2 => { a with e2 := v } | 3 => { a with e3 := v } | _ => { a with e4 := v }
def A8.set {α : Type} (a : A8 α) (v : α) : Nat → A8 α
  | 0 => { a with e0 := v } | 1 => { a with e1 := v } | 2 => { a with e2 := v } | 3 => { a with e3 := v } | 4 => { a with e4 := v } | 5 => { a with e5 := v } | 6 => { a with e6 := v } | _ => { a with e7 := v }
def A16.set {α : Type} (a : A16 α) (v : α) : Nat → A16 α
  | 0 => { a with e0 := v } | 1 => { a with e1 := v } | 2 => { a with e2 := v } | 3 => { a with e3 := v } | 4 => { a with e4 := v } | 5 => { a with e5 := v } | 6 => { a with e6 := v } | 7 => { a with e7 := v } | 8 => { a with e8 := v } | 9 => { a with e9 := v } | 10 => { a with e10 := v } | 11 => { a with e11 := v } | 12 => { a with e12 := v } | 13 => { a with e13 := v } | 14 => { a with e14 := v } | _ => { a with e15 := v }
end Go.SW.V
namespace Go.SW
end Go.SW
namespace Go.SW.V
open Go.SW
variable {P : Program} {n : Nat} {N : Rest} {H0 : Env} {all rest : List Oper} {Q : Qs} {ks : List Kt} {fF : Nat → PV} {fL : Nat → Blk} {T ty d : Nat} {pos : String} {af : Array Edge} {x y z : Operand} {K : St → Prop}
end Go.SW.V
namespace Go.SW
variable {P : Program} {n : Nat} {N : Rest} {H0 : Env} {Q : Qs} {ks : List Kt} {s : St}
theorem bx_own {α : Type} {i o b T0 k e : Nat} {cs : List PV} {c : Code} (j : Nat) (enc : α → List PV) (hb : purgeL j s.L i = .box b T0 cs) (hne : i ≠ j) (ho : cs[o]? = some (.val (.slice none 0 0))) (hno : s.L j = .no)
    (kk : Hd P n N H0 Q (.code c) ks ⟨purgeF j s.F, lups (lups (purgeL j s.L) j (.arr (.slice none 0 0) k e enc [])) i (.box b T0 (cs.set o (.osl j)))⟩) : Hd P n N H0 Q (.code c) ks s := fun F H L ha => by
  have hL0 : Abs H0 s F H (lupd L j none) := ⟨ha.le, ha.g, ha.f, fun q => by
    by_cases e : q = j
    · subst e; rw [hno]; trivial
    · rw [lupd_ne _ _ _ _ e]; exact ha.l q⟩
  have h2 := hL0.turn j (B := .arr (.slice none 0 0) k e enc []) (x := none) ⟨[], ownV_nil, rl_nil, by simp⟩
  have e2 : lupd (lupd L j none) j none = lupd L j none := by funext q; simp only [lupd]; cases Nat.beq q j <;> rfl
  rw [e2] at h2
  have h3 := h2.l i
  simp only [lups_ne _ _ _ _ hne, hb] at h3
  obtain ⟨vs, hL, hs1, hs2⟩ := h3
  have h4 := h2.turnB i (B := .box b T0 (cs.set o (.osl j))) trivial (x := lupd L j none i) ⟨vs, hL, by simpa using hs1, fun a p v hp hv => by
    rw [List.getElem?_set] at hp
    by_cases z : o = a
    · subst z
      rw [if_pos rfl] at hp
      split at hp
      · cases hp
        have h5 := (hs2 o _ v ho hv).sim.inv_val
        simp only [SimT, lups_ne _ _ _ _ hne.symm, lups_same]
        exact h5
      · cases hp
    · rw [if_neg z] at hp
      have h5 := hs2 a p v hp hv
      exact simT_box (b := b) (T := T0) (cs := cs) (by simp only [lups_ne _ _ _ _ hne, hb]) h5⟩
  have e3 : lupd (lupd L j none) i (lupd L j none i) = lupd L j none := by funext q; by_cases e : q = i; (subst e; exact lupd_same _ _ _); exact lupd_ne _ _ _ _ e
  rw [e3] at h4
  exact cw_weaken (fun w hm => hm.clear j) (kk F H _ h4)
/-- The text of a builder's list: it is taken for the text, and gone. -/
theorem bld_str {all : List Oper} {ty d T1 T3 e i : Nat} {pos : String} {af : Array Edge} {x y : Operand} {K : St → Prop} {u : Value} {enc : UInt8 → List PV} {xs : Bs} (hx : evP s.F x = .val (usd u)) (hy : evP s.F y = .int .i64 xs.length) (hT : P.underlying T1 = some (.pointer e)) (hc : P.cellsOf e = 1) (hb : s.L i = .arr u 1 e enc xs) (henc : enc = u8c) (h0 : xs.length = 0 → u = .slice none 0 0) (hd : Nat.blt d n = true)
    (kk : K ⟨updp (purgeF i s.F) d (.str xs), lups (purgeL i s.L) i .no⟩) : E1 P n N H0 all ⟨some d, .call ⟨.builtin .unsafeString, #[x, y], #[T1, T3]⟩, ty, pos, af, none⟩ (some i) s K := by
  intro F H L ha
  subst henc
  have h1 := (evP_ok ha.f x).sim
  rw [hx] at h1
  have h2 := (evP_ok ha.f y).sim
  rw [hy] at h2
  have h3 := ha.l i
  rw [hb] at h3
  obtain ⟨cs, ho, hr, hm⟩ := h3
  have e := rl_u8_inv hr
  subst e
  refine op1_ustr i h1.inv_val h2.inv_int.1 hT hc ho h0 (by omega) hd ⟨.refl H, only, _, (ha.turn i (B := .no) (x := none) trivial).put (p := .str xs) d (show Sim H (.str xs) (str xs) from Sim.str (by omega)), kk⟩
theorem qusd {α : Type} {ty i k e : Nat} {x : Operand} {ats : Array TypeId} {u : Value} {enc : α → List PV} {xs : List α} (hx : evP s.F x = .osl i) (hb : s.L i = .arr u k e enc xs) (h0 : xs.length = 0 → u = .slice none 0 0) : Qy P N H0 s (.call ⟨.builtin .unsafeSliceData, #[x], ats⟩) ty (.val (usd u)) := fun F H L ha => by
  have h1 := evP_ok ha.f x
  unfold Ok1 at h1
  rw [hx] at h1
  simp only [SimT, hb] at h1
  have h3 := ha.l i
  rw [hb] at h3
  obtain ⟨cs, ho, hr, hm⟩ := h3
  exact ⟨_, Sim.val, fun _ _ _ => lo_usd h1 ho h0⟩
/-- An owned list's value is put into a block: the block holds the list. -/
theorem sto_osl {α : Type} {all : List Oper} {T ty i j b b' off T0 k e : Nat} {pos : String} {af : Array Edge} {x y : Operand} {K : St → Prop} {tb : Tb} {ti : TI} {cs cs' : List PV} {u : Value} {enc : α → List PV} {xs : List α} (ht : tbB P tb = true) (hx : evP s.F x = .own i b off) (hb : s.L i = .box b' T0 cs) (hti : lkT tb T = some ti) (hsz : ti.size = 1) (hy : evP s.F y = .osl j) (hj : s.L j = .arr u k e enc xs) (hl : Nat.blt off cs.length = true) (hbb : b' = b) (hc : cs.set off (.osl j) = cs')
    (kk : K ⟨s.F, lups s.L i (.box b T0 cs')⟩) : E1 P n N H0 all ⟨none, .store T x y, ty, pos, af, none⟩ (some i) s K := by
  intro F H L ha
  subst hbb hc
  have h1 := (evP_ok ha.f x).sim
  rw [hx] at h1
  have h2 := evP_ok ha.f y
  unfold Ok1 at h2
  rw [hy] at h2
  have h2' := h2
  simp only [SimT, hj] at h2'
  have h3 := ha.l i
  rw [hb] at h3
  obtain ⟨vs, hL, hs⟩ := h3
  have h5 := ha.l j
  rw [hj] at h5
  obtain ⟨cs0, ho, _, _⟩ := h5
  have hone : (ev F y).oneCell' = true := by
    rw [h2']
    obtain ⟨_, ⟨rfl, _, _⟩ | ⟨_, _, _, rfl, _⟩⟩ := ho <;> rfl
  have hsz' := (ti_ok ht hti).sz
  rw [hsz] at hsz'
  refine op1_store1 h1.inv_own rfl hone hsz' hL (by rw [hs.1]; exact hl) ?_
  refine ⟨.refl H, only, _, ha.turnB (B := .box _ T0 (cs.set off (.osl j))) i trivial ⟨_, rfl, ?_⟩, kk⟩
  have h4 := hs.set off h2
  exact ⟨h4.1, fun q p v hq hv => simT_box hb (h4.2 q p v hq hv)⟩
end Go.SW
namespace Go.SW
variable {P : Program} {n : Nat} {N : Rest} {H0 : Env} {all : List Oper} {Q : Qs} {ks : List Kt} {s : St}
end Go.SW
namespace Go.SW.V
open Go.SW
variable {P : Program} {n : Nat} {N : Rest} {H0 : Env} {all : List Oper} {Q : Qs} {ks : List Kt} {fF : Nat → PV} {fL : Nat → Blk}
end Go.SW.V
namespace Go.SW
variable {P : Program} {n : Nat} {N : Rest} {H0 : Env} {all : List Oper} {Q : Qs} {ks : List Kt} {s : St}
theorem vw_l {ops : List Oper} {Lk : Ls} {Q : Qt} {fuel : Nat} {listed : Array Bool} {F : Fr} {H : Hp} {L : Ls} (i0 : Nat) (r : List Nat) (hr : Region.ready .any ops.toArray listed = i0 :: r)
    (h : ∀ i ∈ i0 :: r, ∃ o, ops[i]? = some o ∧ Op1 P n N ops o (fun F' H' L' => (HLe H H' ∧ LLe Lk L') ∧ Vw P n N ops Lk Q fuel (listed.setIfInBounds i true) F' H' L') F H L) : Vw P n N ops Lk Q (fuel + 1) listed F H L := by
  refine ⟨fun q => (by rw [hr] at q; cases q), fun j hj a w ha hm => ?_⟩
  rw [hr] at hj
  obtain ⟨o, ho, h1⟩ := h j hj
  exact wpOp_mono (fun a' w' ⟨F', H', L', x, y, z1, z2⟩ => ⟨F', H', L', x, y, .inl ⟨z1.1, .inl z1.2⟩, z2⟩) (op1_wpOp ho h1 a w ha hm)
/-- What an operation does, where it turns none but the blocks xs. -/
def Ej (P : Program) (n : Nat) (N : Rest) (H0 : Env) (all : List Oper) (o : Oper) (xs : List Nat) (s : St) (K : St → Prop) : Prop := ∃ j : Option Nat, (match j with | none => true | some j => memB xs j) = true ∧ E1 P n N H0 all o j s K
theorem ej {o : Oper} {xs : List Nat} {K : St → Prop} {j : Option Nat} (hj : (match j with | none => true | some j => memB xs j) = true) (h : E1 P n N H0 all o j s K) : Ej P n N H0 all o xs s K := ⟨j, hj, h⟩
def AllE (P : Program) (n : Nat) (N : Rest) (H0 : Env) (all : List Oper) (Q : Qs) (xs : List Nat) (fuel : Nat) (listed : Array Bool) (ks : List Kt) (s : St) : List Nat → Prop
  | [] => True
  | i :: r => (∃ o, nth all i = some o ∧ Ej P n N H0 all o xs s (fun s' => Hv P n N H0 Q (some xs) all fuel (listed.setIfInBounds i true) ks s')) ∧ AllE P n N H0 all Q xs fuel listed ks s r
theorem allE_mem {xs : List Nat} {fuel : Nat} {listed : Array Bool} : ∀ {r : List Nat} {i : Nat}, AllE P n N H0 all Q xs fuel listed ks s r → i ∈ r → ∃ o, nth all i = some o ∧ Ej P n N H0 all o xs s (fun s' => Hv P n N H0 Q (some xs) all fuel (listed.setIfInBounds i true) ks s')
  | [], i, _, h => by cases h
  | a :: r, i, h, hm => by
    rcases List.mem_cons.1 hm with e | q
    · subst e; exact h.1
    · exact allE_mem h.2 q
theorem veL {xs : List Nat} {fuel : Nat} {listed : Array Bool} (i0 : Nat) (r : List Nat) (hr : Region.ready .any all.toArray listed = i0 :: r) (h : AllE P n N H0 all Q xs fuel listed ks s (i0 :: r)) : Hv P n N H0 Q (some xs) all (fuel + 1) listed ks s := by
  intro F H L Lk ha hL
  refine vw_l i0 r hr fun i hi => ?_
  obtain ⟨o, ho, j, hj, he⟩ := allE_mem h hi
  rw [nth_eq] at ho
  have hle : ∀ L' : Ls, (∀ i, j ≠ some i → L' i = L i) → LkR (some xs) Lk L' := fun L' hL' i => by
    rw [hL i]
    cases e : memB xs i with
    | true => rfl
    | false =>
      refine (hL' i fun z => ?_).symm
      subst z
      simp only at hj
      rw [e] at hj; cases hj
  have hlle : ∀ L' : Ls, (∀ i, j ≠ some i → L' i = L i) → LLe Lk L' := fun L' hL' i x hx => by
    have := hle L' hL' i
    rw [this] at hx
    cases e : memB xs i with
    | true => rw [e] at hx; cases hx
    | false => rw [e] at hx; exact hx
  exact ⟨o, ho, (he F H L ha).imp fun F' H' L' ⟨h1, h2, s', h3, h4⟩ => ⟨⟨h1, hlle L' h2⟩, h4 F' H' L' Lk h3 (hle L' h2)⟩⟩
end Go.SW
namespace Go.SW.V
open Go.SW
theorem rOut_le {r : Reply} (h : replyE r = 0) : (replyOut r).s.length ≤ 2048 := by
  have hl := replyE_len r h
  have hb := headBytes_len r.mail.head
  by_cases k0 : r.kind = 0
  · rw [replyOut_0 k0 (by omega), txtB_len]; omega
  · by_cases k2 : r.kind = 2 ∨ r.kind = 5 ∨ r.kind = 7
    · rw [replyOut_n k2, numB_len]; omega
    · by_cases k6 : r.kind = 6
      · rw [replyOut_6 k6, List.length_append, numB_len, numB_len]; omega
      · by_cases k3 : r.kind = 3
        · rw [replyOut_3 k3 (by omega) (by omega) (by omega)]
          simp only [sentB, List.length_append, numB_len, txtB_len]
          omega
        · rw [replyOut_e k0 k2 (by omega)]; simp
theorem rfb_len {r : Reply} (h : replyE r = 0) : 1 ≤ (frameBytes (replyFrame r)).length ∧ (frameBytes (replyFrame r)).length ≤ 10000 := by
  have hl := rOut_le h
  have e : replyFrame r = ⟨r.channel, IntKind.wrap .u8 (64 + r.kind), (replyOut r).s⟩ := if_pos h
  rw [e, frameBytes_s hl]
  simp only [frB, List.length_append, numB_len, txtB_len]
  omega
theorem feedGo_le : ∀ (k : Nat) (r : Bs) (out : List Frame), (feedGo k r out).1.rest.length + (feedGo k r out).2.length ≤ r.length + out.length
  | 0, r, out => Nat.le_refl _
  | k + 1, r, out => by
    simp only [feedGo]
    split
    · rename_i h
      have h1 := parseF_ok r h
      have h2 := feedGo_le k (r.drop (parseF r).2.1.toNat) (out ++ [(parseF r).1])
      simp only [List.length_append, List.length_drop, List.length_cons, List.length_nil] at h2
      omega
    · split
      · exact Nat.le_refl _
      · simp
theorem feed_le (f : Feed) (s : Bs) : (feedTake f s).1.rest.length + (feedTake f s).2.length ≤ f.rest.length + s.length := by
  unfold feedTake
  split
  · simp
  · have := feedGo_le ((f.rest ++ s).length + 1) (f.rest ++ s) []
    simpa using this
def SRt (r : Reply) : Prop := r.name.length ≤ 1000 ∧ r.mail.shop.length ≤ 1000 ∧ r.mail.key.length ≤ 1000 ∧ r.mail.body.length ≤ 1000 ∧ smallH r.mail.head
end Go.SW.V
namespace Go.SW
def bv1 (x : BitVec 32) : BitVec 32 := if x.getLsbD 0 then (x >>> 1) ^^^ 0xEDB88320#32 else x >>> 1
def tbv (x : BitVec 32) : BitVec 32 := bv1 (bv1 (bv1 (bv1 x)))
theorem bv1_xor (a b : BitVec 32) : bv1 (a ^^^ b) = bv1 a ^^^ bv1 b := by
  unfold bv1
  rw [BitVec.getLsbD_xor]
  cases ha : a.getLsbD 0 <;> cases hb : b.getLsbD 0 <;> simp only [Bool.xor_false, Bool.xor_true, Bool.not_false, Bool.not_true, Bool.false_eq_true, if_true, if_false, BitVec.ushiftRight_xor_distrib]
  · simp only [BitVec.xor_assoc]
  · rw [BitVec.xor_assoc, BitVec.xor_assoc, BitVec.xor_comm (b >>> 1)]
  · ext i
    simp
    cases b.getLsbD (1 + i) <;> cases (3988292384#32)[i] <;> rfl
theorem tbv_xor (a b : BitVec 32) : tbv (a ^^^ b) = tbv a ^^^ tbv b := by
  unfold tbv; rw [bv1_xor, bv1_xor, bv1_xor, bv1_xor]
theorem bv1_even {x : BitVec 32} (h : x.getLsbD 0 = false) : bv1 x = x >>> 1 := by
  unfold bv1; rw [h]; rfl
theorem tbv_hi (x : BitVec 32) : tbv (x <<< 4) = (x <<< 4) >>> 4 := by
  unfold tbv
  have e1 : ∀ k, k < 4 → ((x <<< 4) >>> k).getLsbD 0 = false := fun k hk => by
    rw [BitVec.getLsbD_ushiftRight, BitVec.getLsbD_shiftLeft]
    simp; omega
  have s : ∀ k : Nat, (((x <<< 4) >>> k) >>> (1 : Nat) : BitVec 32) = (x <<< 4) >>> (k + 1) := fun k => by rw [BitVec.shiftRight_add]
  have h0 := e1 0 (by omega)
  rw [BitVec.ushiftRight_zero] at h0
  rw [bv1_even h0, bv1_even (e1 1 (by omega)), s 1, bv1_even (e1 2 (by omega)), s 2, bv1_even (e1 3 (by omega)), s 3]
theorem split4 (x : BitVec 32) : x = (x >>> 4) <<< 4 ^^^ (x &&& 15#32) := by
  have h15 : ∀ i, (h : i < 32) → (15#32)[i] = decide (i < 4) := by decide
  ext i hi
  simp
  rw [h15 i hi]
  by_cases h : i < 4
  · simp [h]
  · simp only [h, decide_false, Bool.not_false, Bool.true_and, Bool.and_false, Bool.xor_false]
    rw [show 4 + (i - 4) = i by omega, BitVec.getLsbD_eq_getElem hi]
theorem tbv_lo : ∀ k, k < 16 → tbv (BitVec.ofNat 32 k) = BitVec.ofInt 32 (laidT.getD k 0) := by decide
theorem tbv_all (x : BitVec 32) : tbv x = (x >>> 4) ^^^ BitVec.ofInt 32 (laidT.getD (x &&& 15#32).toNat 0) := by
  have hlt : (x &&& 15#32).toNat < 16 := by
    have : (x &&& 15#32).toNat ≤ 15 := by rw [BitVec.toNat_and]; exact Nat.and_le_right
    omega
  have e := tbv_lo (x &&& 15#32).toNat hlt
  rw [BitVec.ofNat_toNat, BitVec.setWidth_eq] at e
  have h2 : (x >>> 4) <<< 4 >>> 4 = x >>> 4 := by
    ext i hi
    simp
    exact fun h => BitVec.lt_of_getLsbD h
  rw [split4 x, tbv_xor, tbv_hi, e, ← split4 x, h2]
/-! On whole numbers -/
def bit1 (q : Int) : Int := if q % 2 = 1 then xor32 (q / 2) 3988292384 else q / 2
def bitIt : Nat → Int → Int
  | 0, q => q
  | n + 1, q => bitIt n (bit1 q)
theorem wrap32 (x : BitVec 32) : IntKind.wrap .u32 (x.toNat : Int) = (x.toNat : Int) := by
  have := x.isLt
  simp only [IntKind.wrap, IntKind.bits, IntKind.signed]
  simp
  omega
theorem xor32_bv (a b : Int) : xor32 a b = ((BitVec.ofInt 32 a ^^^ BitVec.ofInt 32 b).toNat : Int) := wrap32 _
theorem and32_bv (a b : Int) : and32 a b = ((BitVec.ofInt 32 a &&& BitVec.ofInt 32 b).toNat : Int) := wrap32 _
theorem ofInt_nat (x : BitVec 32) : BitVec.ofInt 32 (x.toNat : Int) = x := by
  rw [BitVec.ofInt_natCast]; simp
theorem bit1_bv (x : BitVec 32) : bit1 (x.toNat : Int) = ((bv1 x).toNat : Int) := by
  have hp : BitVec.ofInt 32 3988292384 = 0xEDB88320#32 := by decide
  have hh : ((x.toNat : Int) / (2 : Int)) = (((x >>> 1 : BitVec 32)).toNat : Int) := by
    rw [BitVec.toNat_ushiftRight, Nat.shiftRight_eq_div_pow]; simp
  have hb : x.getLsbD 0 = decide (x.toNat % 2 = 1) := by
    rw [BitVec.getLsbD, Nat.testBit_zero]
  unfold bit1 bv1
  rw [hb]
  rw [show ((x.toNat : Int) / 2) = _ from hh]
  by_cases h : x.toNat % 2 = 1
  · rw [if_pos (by omega), if_pos (by simpa using h), xor32_bv, ofInt_nat, hp]
  · rw [if_neg (by omega), if_neg (by simpa using h)]
theorem crc1_bv (x : BitVec 32) : crc1 (x.toNat : Int) = ((tbv x).toNat : Int) := by
  rw [tbv_all]
  unfold crc1
  have h15 : BitVec.ofInt 32 15 = 15#32 := by decide
  have hs : Int.fdiv (x.toNat : Int) (2 ^ (min (4 : Int).toNat (IntKind.bits .u32))) = (((x >>> 4 : BitVec 32)).toNat : Int) := by
    have e : (2 : Int) ^ (min (4 : Int).toNat (IntKind.bits .u32)) = 16 := by decide
    rw [e, Int.fdiv_eq_ediv_of_nonneg _ (by omega), BitVec.toNat_ushiftRight, Nat.shiftRight_eq_div_pow]
    simp
  rw [hs, xor32_bv, ofInt_nat, and32_bv, ofInt_nat, h15, Int.toNat_natCast]
theorem bit4 (x : BitVec 32) : bitIt 4 (x.toNat : Int) = crc1 (x.toNat : Int) := by
  rw [crc1_bv]
  simp only [bitIt, bit1_bv]
  rfl
theorem bitIt_add : ∀ (n m : Nat) (q : Int), bitIt (n + m) q = bitIt m (bitIt n q)
  | 0, m, q => by rw [Nat.zero_add]; rfl
  | n + 1, m, q => by rw [Nat.add_right_comm]; exact bitIt_add n m (bit1 q)
theorem bit8 (r b : Int) : bitIt 8 (xor32 r b) = crcStep r b := by
  rw [xor32_bv, show (8 : Nat) = 4 + 4 from rfl, bitIt_add, bit4, crc1_bv, bit4]
  unfold crcStep
  rw [xor32_bv]
  simp only [crcIt]
  rw [crc1_bv (BitVec.ofInt 32 r ^^^ BitVec.ofInt 32 b), crc1_bv]
theorem bit1_r {q : Int} (h : 0 ≤ q ∧ q ≤ 4294967295) : 0 ≤ bit1 q ∧ bit1 q ≤ 4294967295 := by
  unfold bit1
  split
  · exact wr_u32 _
  · omega
end Go.SW
namespace Go.SW.V
open Go.SW
variable {P : Program} {n : Nat} {N : Rest} {H0 : Env} {all : List Oper} {Q : Qs} {ks : List Kt} {fF : Nat → PV} {fL : Nat → Blk}
end Go.SW.V
set_option linter.unusedVariables false
set_option maxRecDepth 100000
namespace Go.SW.V
open Go.SW
end Go.SW.V
namespace Go.SW.V
open Go.SW
end Go.SW.V
set_option linter.unusedVariables false
set_option maxRecDepth 100000
namespace Go.SW.V
open Go.SW
end Go.SW.V
namespace Go.SW.V
open Go.SW
end Go.SW.V
set_option linter.unusedVariables false
set_option maxRecDepth 100000
namespace Go.SW.V
open Go.SW
end Go.SW.V
set_option linter.unusedVariables false
set_option maxRecDepth 100000
namespace Go.SW.V
open Go.SW
end Go.SW.V
namespace Go.SW.V
open Go.SW
end Go.SW.V
namespace Go.SW.V
open Go.SW
structure DOk (x : DraftR) : Prop where
  len : x.l.length ≤ 16
  ok : ∀ d ∈ x.l, deedE d = 0 ∧ (d.kind = 6 ∨ d.kind = 8)
  hd : ∀ d ∈ x.l, d.mail.head.length ≤ 1000000
end Go.SW.V
set_option linter.unusedVariables false
set_option maxRecDepth 100000
namespace Go.SW.V
open Go.SW
end Go.SW.V
namespace Go.SW.V
open Go.SW
structure COk (c : ChanR) (n : Nat) : Prop where
  cr : 0 ≤ c.credit ∧ c.credit ≤ 1000
  tk : c.takers.length ≤ 4
  ln : c.lent.length ≤ n
  hd : DOk c.held
end Go.SW.V
namespace Go.SW.V
open Go.SW
end Go.SW.V
namespace Go.SW
structure ActR where
  dow : Int
  n : Int
  how : Int
  queue : Bs
  upto : Bool
  l : List DeedR
deriving DecidableEq, Inhabited
def ActR.pc (x : ActR) : List PV := [.int .u8 x.dow, .int .u64 x.n, .int .u64 x.how, .str x.queue, .bool x.upto, .sl DeedR.pc x.l]
end Go.SW
set_option linter.unusedVariables false
set_option maxRecDepth 100000
namespace Go.SW.V
open Go.SW
end Go.SW.V
namespace Go.SW.V
open Go.SW
end Go.SW.V
namespace Go.SW
structure HasR where
  name : Bool
  other : Bool
  lack : Bool
  key : Bool
  pattern : Bool
  head : Bool
  body : Bool
  n : Bool
  m : Bool
  yes : Bool
deriving DecidableEq, Inhabited
def HasR.pc (x : HasR) : List PV := [.bool x.name, .bool x.other, .bool x.lack, .bool x.key, .bool x.pattern, .bool x.head, .bool x.body, .bool x.n, .bool x.m, .bool x.yes]
end Go.SW
set_option linter.unusedVariables false
set_option maxRecDepth 100000
namespace Go.SW.V
open Go.SW
end Go.SW.V
set_option linter.unusedVariables false
set_option maxRecDepth 100000
namespace Go.SW.V
open Go.SW
end Go.SW.V
namespace Go.SW.V
open Go.SW
def RW (r : RIn) : Prop := 0 ≤ r.pos ∧ r.pos ≤ (r.s.length : Int)
def SMt (m : Method) : Prop := m.name.length ≤ 1000 ∧ m.other.length ≤ 1000 ∧ m.key.length ≤ 1000 ∧ m.body.length ≤ 1000 ∧ smallH m.head
end Go.SW.V
set_option linter.unusedVariables false
set_option maxRecDepth 100000
namespace Go.SW.V
open Go.SW
end Go.SW.V
namespace Go.SW.V
open Go.SW
end Go.SW.V
set_option linter.unusedVariables false
set_option maxRecDepth 100000
namespace Go.SW.V
open Go.SW
end Go.SW.V
namespace Go.SW.V
open Go.SW
end Go.SW.V
set_option linter.unusedVariables false
set_option maxRecDepth 100000
namespace Go.SW.V
open Go.SW
end Go.SW.V
namespace Go.SW.V
open Go.SW
end Go.SW.V
set_option linter.unusedVariables false
set_option maxRecDepth 100000
namespace Go.SW.V
open Go.SW
end Go.SW.V
namespace Go.SW.V
open Go.SW
end Go.SW.V
set_option linter.unusedVariables false
set_option maxRecDepth 100000
namespace Go.SW.V
open Go.SW
end Go.SW.V
namespace Go.SW.V
open Go.SW
end Go.SW.V
set_option linter.unusedVariables false
set_option maxRecDepth 100000
namespace Go.SW.V
open Go.SW
def reply_Bytes_l0 : List Reply → Bs → Bs
  | [], x => x
  | x1 :: t, x => (bif !decide ((replyE x1) = 0) then
 reply_Bytes_l0 t  x
 else reply_Bytes_l0 t  (x ++ frameBytes (replyFrame x1)))
def reply_Bytes (l : List Reply) : Bs :=
 reply_Bytes_l0 l  []
end Go.SW.V
set_option linter.unusedVariables false
set_option maxRecDepth 100000
namespace Go.SW.V
open Go.SW
def r12_Frame (r : Reply) : Frame :=
 (lt1 ((bif decide (r.kind = 0) then
 (txtB r.name)
 else [])) (fun s =>
 (lt1 ((bif decide (r.kind = 2 ∨ r.kind = 3 ∨ r.kind = 5 ∨ r.kind = 6 ∨ r.kind = 7) then
 (s ++ (numB (numK 8) r.n.toNat))
 else s)) (fun s1 =>
 (lt1 ((bif decide (r.kind = 3 ∨ r.kind = 6) then
 (s1 ++ (numB (numK 8) r.m.toNat))
 else s1)) (fun s2 =>
 (bif decide (r.kind = 3) then
 (lt1 ((bif r.yes then
 [1]
 else [0])) (fun yes =>
 (⟨r.channel, (IntKind.wrap .u8 (64 + r.kind)), (((((s2 ++ yes) ++ (txtB r.mail.shop)) ++ (txtB r.mail.key)) ++ (r9B r.mail.head)) ++ (txtB r.mail.body))⟩ : Frame)))
 else (⟨r.channel, (IntKind.wrap .u8 (64 + r.kind)), s2⟩ : Frame))))))))
def l12_All_l0 : List Reply → List Reply → (List Reply)
  | [], out => out
  | x :: t, out => l12_All_l0 t  (out ++ [x])
def l12_All (l : List Reply) : (List Reply) :=
 l12_All_l0 l  []
end Go.SW.V
namespace Go.SW.V
open Go.SW
theorem r12f_e {q : Reply} {f : Frame} (e : f = r12_Frame q) (hk : ∀ p ∈ q.mail.head, 0 ≤ p.kind) (h0 : replyE q = 0) : f.body.length ≤ 2048 := by
  have hl := replyE_len q h0
  have hb := headBytes_len q.mail.head
  have k8 := numK_le 8
  subst e
  simp only [r12_Frame, lt1, Bool.cond_eq_ite, decide_eq_true_eq]
  by_cases k3 : q.kind = 3
  · have e9 := headBytes_r9 h0 k3 hk
    rw [e9] at hb
    repeat' split
    all_goals
      simp only [List.length_append, List.length_nil, List.length_cons, txtB_len, numB_len]
      omega
  · rw [if_neg k3]
    repeat' split
    all_goals
      simp only [List.length_append, List.length_nil, List.length_cons, txtB_len, numB_len]
      omega
end Go.SW.V
set_option linter.unusedVariables false
set_option maxRecDepth 100000
namespace Go.SW.V
open Go.SW
def r12_Bytes_l0 : List Reply → Bs → Bs
  | [], s => s
  | x :: t, s => (bif decide ((replyE x) = 0) then
 lt (r12_Frame x) fun r =>
 r12_Bytes_l0 t  (s ++ (frB r))
 else r12_Bytes_l0 t  s)
def r12_Bytes (l : List Reply) : Bs :=
 r12_Bytes_l0 l  []
def reply_Of (f : Frame) : Reply × Int :=
 (bif ((decide (f.kind < 64)) || (decide (71 < f.kind))) then
 ((⟨0, 0, 0, 0, false, [], (⟨0, [], [], [], [], 0, 0⟩ : Mail)⟩ : Reply), 8)
 else (bif decide ((IntKind.wrap .u8 (f.kind - 64)) = 0) then
 lt (inText (⟨f.body, 0⟩) 16) fun r =>
 (bif decide ((inEnd r.2) = 0) then
 (bif !decide ((replyE (⟨f.channel, (IntKind.wrap .u8 (f.kind - 64)), 0, 0, false, r.1, (⟨0, [], [], [], [], 0, 0⟩ : Mail)⟩ : Reply)) = 0) then
 ((⟨0, 0, 0, 0, false, [], (⟨0, [], [], [], [], 0, 0⟩ : Mail)⟩ : Reply), replyE (⟨f.channel, (IntKind.wrap .u8 (f.kind - 64)), 0, 0, false, r.1, (⟨0, [], [], [], [], 0, 0⟩ : Mail)⟩ : Reply))
 else ((⟨f.channel, (IntKind.wrap .u8 (f.kind - 64)), 0, 0, false, r.1, (⟨0, [], [], [], [], 0, 0⟩ : Mail)⟩ : Reply), 0))
 else ((⟨0, 0, 0, 0, false, [], (⟨0, [], [], [], [], 0, 0⟩ : Mail)⟩ : Reply), inEnd r.2))
 else (bif decide ((IntKind.wrap .u8 (f.kind - 64)) = 2) then
 lt (inNum (⟨f.body, 0⟩) 8) fun r1 =>
 (bif decide ((inEnd r1.2) = 0) then
 (bif !decide ((replyE (⟨f.channel, (IntKind.wrap .u8 (f.kind - 64)), r1.1, 0, false, [], (⟨0, [], [], [], [], 0, 0⟩ : Mail)⟩ : Reply)) = 0) then
 ((⟨0, 0, 0, 0, false, [], (⟨0, [], [], [], [], 0, 0⟩ : Mail)⟩ : Reply), replyE (⟨f.channel, (IntKind.wrap .u8 (f.kind - 64)), r1.1, 0, false, [], (⟨0, [], [], [], [], 0, 0⟩ : Mail)⟩ : Reply))
 else ((⟨f.channel, (IntKind.wrap .u8 (f.kind - 64)), r1.1, 0, false, [], (⟨0, [], [], [], [], 0, 0⟩ : Mail)⟩ : Reply), 0))
 else ((⟨0, 0, 0, 0, false, [], (⟨0, [], [], [], [], 0, 0⟩ : Mail)⟩ : Reply), inEnd r1.2))
 else (bif decide ((IntKind.wrap .u8 (f.kind - 64)) = 5) then
 lt (inNum (⟨f.body, 0⟩) 8) fun r2 =>
 (bif decide ((inEnd r2.2) = 0) then
 (bif !decide ((replyE (⟨f.channel, (IntKind.wrap .u8 (f.kind - 64)), r2.1, 0, false, [], (⟨0, [], [], [], [], 0, 0⟩ : Mail)⟩ : Reply)) = 0) then
 ((⟨0, 0, 0, 0, false, [], (⟨0, [], [], [], [], 0, 0⟩ : Mail)⟩ : Reply), replyE (⟨f.channel, (IntKind.wrap .u8 (f.kind - 64)), r2.1, 0, false, [], (⟨0, [], [], [], [], 0, 0⟩ : Mail)⟩ : Reply))
 else ((⟨f.channel, (IntKind.wrap .u8 (f.kind - 64)), r2.1, 0, false, [], (⟨0, [], [], [], [], 0, 0⟩ : Mail)⟩ : Reply), 0))
 else ((⟨0, 0, 0, 0, false, [], (⟨0, [], [], [], [], 0, 0⟩ : Mail)⟩ : Reply), inEnd r2.2))
 else (bif decide ((IntKind.wrap .u8 (f.kind - 64)) = 7) then
 lt (inNum (⟨f.body, 0⟩) 8) fun r3 =>
 (bif decide ((inEnd r3.2) = 0) then
 (bif !decide ((replyE (⟨f.channel, (IntKind.wrap .u8 (f.kind - 64)), r3.1, 0, false, [], (⟨0, [], [], [], [], 0, 0⟩ : Mail)⟩ : Reply)) = 0) then
 ((⟨0, 0, 0, 0, false, [], (⟨0, [], [], [], [], 0, 0⟩ : Mail)⟩ : Reply), replyE (⟨f.channel, (IntKind.wrap .u8 (f.kind - 64)), r3.1, 0, false, [], (⟨0, [], [], [], [], 0, 0⟩ : Mail)⟩ : Reply))
 else ((⟨f.channel, (IntKind.wrap .u8 (f.kind - 64)), r3.1, 0, false, [], (⟨0, [], [], [], [], 0, 0⟩ : Mail)⟩ : Reply), 0))
 else ((⟨0, 0, 0, 0, false, [], (⟨0, [], [], [], [], 0, 0⟩ : Mail)⟩ : Reply), inEnd r3.2))
 else (bif decide ((IntKind.wrap .u8 (f.kind - 64)) = 3) then
 lt (inNum (⟨f.body, 0⟩) 8) fun r4 =>
 lt (inNum r4.2 8) fun r5 =>
 lt (inNum r5.2 1) fun r6 =>
 (bif decide (1 < r6.1) then
 lt (inText (inFail r6.2 4) 16) fun r7 =>
 lt (inText r7.2 64) fun r8 =>
 lt (headRead r8.2) fun r9 =>
 lt (inText r9.2 256) fun r10 =>
 (bif decide ((inEnd r10.2) = 0) then
 (bif !decide ((replyE (⟨f.channel, (IntKind.wrap .u8 (f.kind - 64)), r4.1, r5.1, decide (r6.1 = 1), [], (⟨0, r7.1, r8.1, r9.1, r10.1, 0, 0⟩ : Mail)⟩ : Reply)) = 0) then
 ((⟨0, 0, 0, 0, false, [], (⟨0, [], [], [], [], 0, 0⟩ : Mail)⟩ : Reply), replyE (⟨f.channel, (IntKind.wrap .u8 (f.kind - 64)), r4.1, r5.1, decide (r6.1 = 1), [], (⟨0, r7.1, r8.1, r9.1, r10.1, 0, 0⟩ : Mail)⟩ : Reply))
 else ((⟨f.channel, (IntKind.wrap .u8 (f.kind - 64)), r4.1, r5.1, decide (r6.1 = 1), [], (⟨0, r7.1, r8.1, r9.1, r10.1, 0, 0⟩ : Mail)⟩ : Reply), 0))
 else ((⟨0, 0, 0, 0, false, [], (⟨0, [], [], [], [], 0, 0⟩ : Mail)⟩ : Reply), inEnd r10.2))
 else lt (inText r6.2 16) fun r11 =>
 lt (inText r11.2 64) fun r12 =>
 lt (headRead r12.2) fun r13 =>
 lt (inText r13.2 256) fun r14 =>
 (bif decide ((inEnd r14.2) = 0) then
 (bif !decide ((replyE (⟨f.channel, (IntKind.wrap .u8 (f.kind - 64)), r4.1, r5.1, decide (r6.1 = 1), [], (⟨0, r11.1, r12.1, r13.1, r14.1, 0, 0⟩ : Mail)⟩ : Reply)) = 0) then
 ((⟨0, 0, 0, 0, false, [], (⟨0, [], [], [], [], 0, 0⟩ : Mail)⟩ : Reply), replyE (⟨f.channel, (IntKind.wrap .u8 (f.kind - 64)), r4.1, r5.1, decide (r6.1 = 1), [], (⟨0, r11.1, r12.1, r13.1, r14.1, 0, 0⟩ : Mail)⟩ : Reply))
 else ((⟨f.channel, (IntKind.wrap .u8 (f.kind - 64)), r4.1, r5.1, decide (r6.1 = 1), [], (⟨0, r11.1, r12.1, r13.1, r14.1, 0, 0⟩ : Mail)⟩ : Reply), 0))
 else ((⟨0, 0, 0, 0, false, [], (⟨0, [], [], [], [], 0, 0⟩ : Mail)⟩ : Reply), inEnd r14.2)))
 else (bif decide ((IntKind.wrap .u8 (f.kind - 64)) = 6) then
 lt (inNum (⟨f.body, 0⟩) 8) fun r15 =>
 lt (inNum r15.2 8) fun r16 =>
 (bif decide ((inEnd r16.2) = 0) then
 (bif !decide ((replyE (⟨f.channel, (IntKind.wrap .u8 (f.kind - 64)), r15.1, r16.1, false, [], (⟨0, [], [], [], [], 0, 0⟩ : Mail)⟩ : Reply)) = 0) then
 ((⟨0, 0, 0, 0, false, [], (⟨0, [], [], [], [], 0, 0⟩ : Mail)⟩ : Reply), replyE (⟨f.channel, (IntKind.wrap .u8 (f.kind - 64)), r15.1, r16.1, false, [], (⟨0, [], [], [], [], 0, 0⟩ : Mail)⟩ : Reply))
 else ((⟨f.channel, (IntKind.wrap .u8 (f.kind - 64)), r15.1, r16.1, false, [], (⟨0, [], [], [], [], 0, 0⟩ : Mail)⟩ : Reply), 0))
 else ((⟨0, 0, 0, 0, false, [], (⟨0, [], [], [], [], 0, 0⟩ : Mail)⟩ : Reply), inEnd r16.2))
 else (bif decide ((inEnd (⟨f.body, 0⟩)) = 0) then
 (bif !decide ((replyE (⟨f.channel, (IntKind.wrap .u8 (f.kind - 64)), 0, 0, false, [], (⟨0, [], [], [], [], 0, 0⟩ : Mail)⟩ : Reply)) = 0) then
 ((⟨0, 0, 0, 0, false, [], (⟨0, [], [], [], [], 0, 0⟩ : Mail)⟩ : Reply), replyE (⟨f.channel, (IntKind.wrap .u8 (f.kind - 64)), 0, 0, false, [], (⟨0, [], [], [], [], 0, 0⟩ : Mail)⟩ : Reply))
 else ((⟨f.channel, (IntKind.wrap .u8 (f.kind - 64)), 0, 0, false, [], (⟨0, [], [], [], [], 0, 0⟩ : Mail)⟩ : Reply), 0))
 else ((⟨0, 0, 0, 0, false, [], (⟨0, [], [], [], [], 0, 0⟩ : Mail)⟩ : Reply), inEnd (⟨f.body, 0⟩))))))))))
end Go.SW.V
namespace Go.SW.V
open Go.SW
theorem all12_go : ∀ (l out : List Reply), l12_All_l0 l out = out ++ l
  | [], out => by simp [l12_All_l0]
  | x :: l, out => by rw [l12_All_l0, all12_go l]; simp
theorem all12_eq (l : List Reply) : l12_All l = l := by simp [l12_All, all12_go]
theorem lr_step {l : List Reply} {k : Nat} {c : Reply} (hc : l[k]? = some c) (h : ∀ r ∈ l.take k, lightR r = true) (h2 : lightR c = true) : ∀ r ∈ l.take (k + 1), lightR r = true := by
  rw [takeE hc]
  intro r hr
  rcases List.mem_append.1 hr with q | q
  · exact h r q
  · rw [List.mem_singleton.1 q]; exact h2
theorem lr_full {l : List Reply} {k : Nat} (h : ∀ r ∈ l.take k, lightR r = true) (hk : l.length ≤ k) : ∀ r ∈ l, lightR r = true := by
  rw [List.take_of_length_le hk] at h; exact h
theorem lr_srt {r : Reply} (h : lightR r = true) : SRt r := by
  have hs := smallH_lightR h
  simp only [lightR, Bool.and_eq_true, decide_eq_true_eq] at h
  refine ⟨?_, ?_, ?_, ?_, hs⟩ <;> omega
theorem lr_pre {l r1 : List Reply} (e : r1 = l) (hl : l.length ≤ 1000) (h : ∀ r ∈ l, lightR r = true) : r1.length ≤ 1000 ∧ ∀ r ∈ r1, SRt r := by
  subst e; exact ⟨hl, fun r hr => lr_srt (h r hr)⟩
theorem rb_go : ∀ (l : List Reply) (x : Bs), (reply_Bytes_l0 l x).length ≤ x.length + 10000 * l.length
  | [], x => by simp [reply_Bytes_l0]
  | r :: l, x => by
    rw [reply_Bytes_l0, Bool.cond_eq_ite]
    split
    · have := rb_go l x; simp only [List.length_cons]; omega
    · rename_i h
      have h0 : replyE r = 0 := by simpa using h
      have := rfb_len h0
      have := rb_go l (x ++ frameBytes (replyFrame r))
      simp only [List.length_append, List.length_cons] at *
      omega
theorem rb_len (l : List Reply) : (reply_Bytes l).length ≤ 10000 * l.length := by
  have := rb_go l []
  simpa [reply_Bytes] using this
end Go.SW.V
set_option linter.unusedVariables false
set_option maxRecDepth 100000
namespace Go.SW.V
open Go.SW
def l08_awake : Bool :=
 (bif ((!true) || (!decide (((frameBytes (⟨1, 2, [97, 98]⟩ : Frame)).length : Int) = 11))) then
 false
 else (bif decide ((((feedTake (⟨[], 0⟩ : Feed) ((frameBytes (⟨1, 2, [97, 98]⟩ : Frame)) ++ ((frameBytes (⟨1, 2, [97, 98]⟩ : Frame)).take 5))).2).length : Int) = 1) then
 (bif decide ((((feedTake ((feedTake (⟨[], 0⟩ : Feed) ((frameBytes (⟨1, 2, [97, 98]⟩ : Frame)) ++ ((frameBytes (⟨1, 2, [97, 98]⟩ : Frame)).take 5))).1) ((frameBytes (⟨1, 2, [97, 98]⟩ : Frame)).drop 5)).2).length : Int) = 1) then
 (((decide (((gt ((feedTake ((feedTake (⟨[], 0⟩ : Feed) ((frameBytes (⟨1, 2, [97, 98]⟩ : Frame)) ++ ((frameBytes (⟨1, 2, [97, 98]⟩ : Frame)).take 5))).1) ((frameBytes (⟨1, 2, [97, 98]⟩ : Frame)).drop 5)).2) 0).body) = [97, 98])) && (decide ((((feedTake ((feedTake (⟨[], 0⟩ : Feed) ((frameBytes (⟨1, 2, [97, 98]⟩ : Frame)) ++ ((frameBytes (⟨1, 2, [97, 98]⟩ : Frame)).take 5))).1) ((frameBytes (⟨1, 2, [97, 98]⟩ : Frame)).drop 5)).1).rest) = []))) && (decide ((((feedTake ((feedTake (⟨[], 0⟩ : Feed) ((frameBytes (⟨1, 2, [97, 98]⟩ : Frame)) ++ ((frameBytes (⟨1, 2, [97, 98]⟩ : Frame)).take 5))).1) ((frameBytes (⟨1, 2, [97, 98]⟩ : Frame)).drop 5)).1).err) = 0)))
 else false)
 else false))
def l08_Awake : Bool :=
 (l08_awake)
def l12_awake : Bool :=
 (((((l08_Awake) && true) && (decide ((replyE (⟨1, 1, 0, 0, false, [], (⟨0, [], [], [], [], 0, 0⟩ : Mail)⟩ : Reply)) = 0))) && (decide (((replyFrame (⟨1, 1, 0, 0, false, [], (⟨0, [], [], [], [], 0, 0⟩ : Mail)⟩ : Reply)).kind) = 65))) && (decide (((replyFrame (⟨1, 1, 0, 0, false, [], (⟨0, [], [], [], [], 0, 0⟩ : Mail)⟩ : Reply)).body) = [])))
end Go.SW.V
set_option linter.unusedVariables false
set_option maxRecDepth 100000
namespace Go.SW.V
open Go.SW
def l12_ReplyBytes_l1 (at_ : Int) (may : List Reply) (r : Bs) : Nat → Nat → Bool
  | 0, _ => default
  | f2 + 1, v => (bif decide ((v : Int) < (((feedTake (⟨[], 0⟩ : Feed) (r.take ((at_ % ((r.length : Int) + 1))).toNat)).2 ++ (feedTake ((feedTake (⟨[], 0⟩ : Feed) (r.take ((at_ % ((r.length : Int) + 1))).toNat)).1) (r.drop ((at_ % ((r.length : Int) + 1))).toNat)).2).length : Int)) then
 lt (reply_Of (gt ((feedTake (⟨[], 0⟩ : Feed) (r.take ((at_ % ((r.length : Int) + 1))).toNat)).2 ++ (feedTake ((feedTake (⟨[], 0⟩ : Feed) (r.take ((at_ % ((r.length : Int) + 1))).toNat)).1) (r.drop ((at_ % ((r.length : Int) + 1))).toNat)).2) v)) fun r3 =>
 (bif ((!decide (r3.2 = 0)) || (!(decide (r3.1 = (gt may v))))) then
 false
 else l12_ReplyBytes_l1 at_ may r f2 (v + 1))
 else true)
def l12_ReplyBytes_l0 (l : List Reply) (at_ : Int) : List Reply → List Reply → Bool
  | [], may => lt (reply_Bytes l) fun r =>
 lt (l12_All l) fun r1 =>
 lt (r12_Bytes r1) fun r2 =>
 (bif !decide (r = r2) then
 false
 else (bif (((!decide ((((feedTake (⟨[], 0⟩ : Feed) (r.take ((at_ % ((r.length : Int) + 1))).toNat)).2 ++ (feedTake ((feedTake (⟨[], 0⟩ : Feed) (r.take ((at_ % ((r.length : Int) + 1))).toNat)).1) (r.drop ((at_ % ((r.length : Int) + 1))).toNat)).2).length : Int) = (may.length : Int))) || (!decide ((((feedTake ((feedTake (⟨[], 0⟩ : Feed) (r.take ((at_ % ((r.length : Int) + 1))).toNat)).1) (r.drop ((at_ % ((r.length : Int) + 1))).toNat)).1).rest) = []))) || (!decide ((((feedTake ((feedTake (⟨[], 0⟩ : Feed) (r.take ((at_ % ((r.length : Int) + 1))).toNat)).1) (r.drop ((at_ % ((r.length : Int) + 1))).toNat)).1).err) = 0))) then
 false
 else l12_ReplyBytes_l1 at_ may r ((((feedTake (⟨[], 0⟩ : Feed) (r.take ((at_ % ((r.length : Int) + 1))).toNat)).2 ++ (feedTake ((feedTake (⟨[], 0⟩ : Feed) (r.take ((at_ % ((r.length : Int) + 1))).toNat)).1) (r.drop ((at_ % ((r.length : Int) + 1))).toNat)).2).length) - 0 + 1) 0))
  | x :: t, may => (bif !(lightR x) then
 true
 else (bif decide ((replyE x) = 0) then
 l12_ReplyBytes_l0 l at_ t  (may ++ [x])
 else l12_ReplyBytes_l0 l at_ t  may))
def l12_ReplyBytes (l : List Reply) (at_ : Int) : Bool :=
 (bif !(l12_awake) then
 false
 else (bif decide (6 < (l.length : Int)) then
 true
 else l12_ReplyBytes_l0 l at_ l  []))
end Go.SW.V
namespace Go.Proofs
open Go.Shelf
def Tryz.lays150_ren : Go.Shelf.Ren := ⟨fun | 150 => 261 | 153 => 273 | 152 => 279 | 226 => 280 | 227 => 281 | 228 => 282 | 137 => 294 | 119 => 295 | 224 => 296 | 225 => 297 | 217 => 307 | 266 => 312 | n => n, fun | 9 => 9 | 4 => 4 | 3 => 3 | 5 => 5 | 21 => 21 | 117 => 373 | 116 => 372 | 0 => 0 | 46 => 289 | 124 => 387 | n => n, fun | n => n⟩
theorem Tryz.lays150 : Go.Proofs.Lays.n150 Tryz.prog Tryz.lays150_ren := {
  mixed := by kernel_rfl
  f119 := Tryz.func295.trans (congrArg some (by kernel_rfl))
  f137 := Tryz.func294.trans (congrArg some (by kernel_rfl))
  f150 := Tryz.func261.trans (congrArg some (by kernel_rfl))
  f152 := Tryz.func279.trans (congrArg some (by kernel_rfl))
  f153 := Tryz.func273.trans (congrArg some (by kernel_rfl))
  f217 := Tryz.func307.trans (congrArg some (by kernel_rfl))
  f224 := Tryz.func296.trans (congrArg some (by kernel_rfl))
  f225 := Tryz.func297.trans (congrArg some (by kernel_rfl))
  f226 := Tryz.func280.trans (congrArg some (by kernel_rfl))
  f227 := Tryz.func281.trans (congrArg some (by kernel_rfl))
  f228 := Tryz.func282.trans (congrArg some (by kernel_rfl))
  f266 := Tryz.func312.trans (congrArg some (by kernel_rfl))
  t0 := Tryz.underlying0
  a0 := Tryz.isAgg0
  z0 := Tryz.sizeOf0
  v0 := Tryz.zeroValue0
  t3 := Tryz.underlying3
  a3 := Tryz.isAgg3
  z3 := Tryz.sizeOf3
  v3 := Tryz.zeroValue3
  t4 := Tryz.underlying4
  a4 := Tryz.isAgg4
  z4 := Tryz.sizeOf4
  v4 := Tryz.zeroValue4
  t5 := Tryz.underlying5
  a5 := Tryz.isAgg5
  z5 := Tryz.sizeOf5
  v5 := Tryz.zeroValue5
  t9 := Tryz.underlying9
  a9 := Tryz.isAgg9
  z9 := Tryz.sizeOf9
  v9 := Tryz.zeroValue9
  t21 := Tryz.underlying21
  a21 := Tryz.isAgg21
  z21 := Tryz.sizeOf21
  v21 := Tryz.zeroValue21
  t46 := Tryz.underlying289
  a46 := Tryz.isAgg289
  z46 := Tryz.sizeOf289
  v46 := Tryz.zeroValue289
  t116 := Tryz.underlying372
  a116 := Tryz.isAgg372
  z116 := Tryz.sizeOf372
  t117 := Tryz.underlying373
  a117 := Tryz.isAgg373
  z117 := Tryz.sizeOf373
  v117 := Tryz.zeroValue373
  t124 := Tryz.underlying387
  a124 := Tryz.isAgg387
  z124 := Tryz.sizeOf387
  v124 := Tryz.zeroValue387 }
open Go.RowKit Go.Lib in
theorem Tryz.strings_ContainsAny_laid (s chars : ByteArray) (w : World) (hs : s.size < 4294967281) (hcs : chars.size < 4294967281) (has : ∀ (j : Nat) b, s.data.toList[j]? = some b → b.toNat < 128) (hac : ∀ (j : Nat) b, chars.data.toList[j]? = some b → b.toNat < 128) :
    Calls Tryz.prog 261 #[.string s, .string chars] w fun e w' => e = .returned (.bool (Lib.containsAny s.data.toList chars.data.toList)) ∧ Below w.heap.size w w' := Any.strings_ContainsAny_laid Tryz.lays150 (by kernel_rfl) s chars w hs hcs has hac
end Go.Proofs
namespace Go.SW
open Go.Proofs
theorem strings_ContainsAny (H : Hp) (s cs : Bs) (hs : s.length < 4294967281) (hc : cs.length < 4294967281) (ha : ∀ c ∈ s, c.toNat < 128) (hb : ∀ c ∈ cs, c.toNat < 128) : Pr Tryz.prog 261 #[str s, str cs] H (.bool (hasAny s cs)) := by
  refine pr_below fun w => ?_
  rw [← containsAny_eq]
  exact Tryz.strings_ContainsAny_laid ⟨s.toArray⟩ ⟨cs.toArray⟩ w (by simpa [ByteArray.size] using hs) (by simpa [ByteArray.size] using hc) (fun j b h => ha b (List.mem_of_getElem? h)) (fun j b h => hb b (List.mem_of_getElem? h))
end Go.SW
namespace Go.Proofs
open Go.Shelf
def Tryz.lays146_ren : Go.Shelf.Ren := ⟨fun | 146 => 265 | 221 => 274 | 268 => 283 | 138 => 284 | 143 => 285 | 195 => 298 | 197 => 299 | 218 => 300 | 219 => 301 | 260 => 308 | 217 => 307 | 225 => 297 | 224 => 296 | 267 => 309 | 266 => 312 | 314 => 313 | n => n, fun | 9 => 9 | 31 => 225 | 3 => 3 | 4 => 4 | 0 => 0 | 105 => 388 | 21 => 21 | 5 => 5 | 46 => 289 | 119 => 399 | 139 => 402 | 138 => 401 | 146 => 403 | 51 => 228 | n => n, fun | 1 => 2 | 3 => 3 | 4 => 4 | n => n⟩
theorem Tryz.lays146 : Go.Proofs.Lays.n146 Tryz.prog Tryz.lays146_ren := {
  mixed := by kernel_rfl
  f138 := Tryz.func284.trans (congrArg some (by kernel_rfl))
  f143 := Tryz.func285.trans (congrArg some (by kernel_rfl))
  f146 := Tryz.func265.trans (congrArg some (by kernel_rfl))
  f195 := Tryz.func298.trans (congrArg some (by kernel_rfl))
  f197 := Tryz.func299.trans (congrArg some (by kernel_rfl))
  f217 := Tryz.func307.trans (congrArg some (by kernel_rfl))
  f218 := Tryz.func300.trans (congrArg some (by kernel_rfl))
  f219 := Tryz.func301.trans (congrArg some (by kernel_rfl))
  f221 := Tryz.func274.trans (congrArg some (by kernel_rfl))
  f224 := Tryz.func296.trans (congrArg some (by kernel_rfl))
  f225 := Tryz.func297.trans (congrArg some (by kernel_rfl))
  f260 := Tryz.func308.trans (congrArg some (by kernel_rfl))
  f266 := Tryz.func312.trans (congrArg some (by kernel_rfl))
  f267 := Tryz.func309.trans (congrArg some (by kernel_rfl))
  f268 := Tryz.func283.trans (congrArg some (by kernel_rfl))
  f314 := Tryz.func313.trans (congrArg some (by kernel_rfl))
  t0 := Tryz.underlying0
  a0 := Tryz.isAgg0
  z0 := Tryz.sizeOf0
  v0 := Tryz.zeroValue0
  t3 := Tryz.underlying3
  a3 := Tryz.isAgg3
  z3 := Tryz.sizeOf3
  v3 := Tryz.zeroValue3
  t4 := Tryz.underlying4
  a4 := Tryz.isAgg4
  z4 := Tryz.sizeOf4
  v4 := Tryz.zeroValue4
  t5 := Tryz.underlying5
  a5 := Tryz.isAgg5
  z5 := Tryz.sizeOf5
  v5 := Tryz.zeroValue5
  t9 := Tryz.underlying9
  a9 := Tryz.isAgg9
  z9 := Tryz.sizeOf9
  v9 := Tryz.zeroValue9
  t21 := Tryz.underlying21
  a21 := Tryz.isAgg21
  z21 := Tryz.sizeOf21
  v21 := Tryz.zeroValue21
  t31 := Tryz.underlying225
  a31 := Tryz.isAgg225
  z31 := Tryz.sizeOf225
  v31 := Tryz.zeroValue225
  t46 := Tryz.underlying289
  a46 := Tryz.isAgg289
  z46 := Tryz.sizeOf289
  v46 := Tryz.zeroValue289
  t51 := Tryz.underlying228
  a51 := Tryz.isAgg228
  z51 := Tryz.sizeOf228
  v51 := Tryz.zeroValue228
  t105 := Tryz.underlying388
  a105 := Tryz.isAgg388
  z105 := Tryz.sizeOf388
  v105 := Tryz.zeroValue388
  t119 := Tryz.underlying399
  a119 := Tryz.isAgg399
  z119 := Tryz.sizeOf399
  t138 := Tryz.underlying401
  a138 := Tryz.isAgg401
  z138 := Tryz.sizeOf401
  v138 := Tryz.zeroValue401
  t139 := Tryz.underlying402
  a139 := Tryz.isAgg402
  z139 := Tryz.sizeOf402
  v139 := Tryz.zeroValue402
  t146 := Tryz.underlying403
  a146 := Tryz.isAgg403
  z146 := Tryz.sizeOf403
  v146 := Tryz.zeroValue403
  g1 := by kernel_rfl
  g3 := by kernel_rfl
  g4 := by kernel_rfl }
open Go.RowKit Go.Lib in
theorem Tryz.strings_Split (s sep : ByteArray) (m : Int) (w : World) (hs : s.size < 4294967281) (hm : w.cell? ⟨2, 0, none⟩ = some (.int .i64 m)) (h1 : 1 ≤ sep.size) :
    Calls Tryz.prog 265 #[.string s, .string sep] w fun e w' =>
      e = .returned (.slice (some ⟨w.heap.size, 0, none⟩) (Lib.countB s sep + 1) (Lib.countB s sep + 1)) ∧ w' = w.alloc (.cells ((Lib.splitB sep 0 (Lib.countB s sep) s).map Value.string).toArray 9) := Any.strings_Split Tryz.lays146 (by kernel_rfl) s sep m w hs hm h1
end Go.Proofs
namespace Go.SW
open Go.Proofs
theorem strings_Split (H : Hp) (s p : Bs) (hp : p = [46]) (hML : GInt H 2) (hs : s.length < 4294967281) : Ph Tryz.prog 265 #[str s, str p] H (fun v H' => ∃ (a : Option Addr) (c : Nat), v = .slice a (dots s).length c ∧ SlH strE 1 H' (.slice a (dots s).length c) (dots s)) := by
  subst hp
  refine ph_strs (T := 9) (fun w hw => by have := dots_piece s w hw; omega) fun N L w hm => ?_
  obtain ⟨m, hc⟩ := hML.cell hm
  refine (Tryz.strings_Split ⟨s.toArray⟩ ⟨#[46]⟩ m w (by simpa [ba_size] using hs) hc (by decide)).mono fun e w' ⟨he, hw⟩ => ⟨?_, ?_⟩
  · rw [he, splitB_len]
  · rw [hw, splitB_dots]
end Go.SW
set_option linter.unusedVariables false
set_option maxRecDepth 100000
set_option maxHeartbeats 4000000
namespace Go.SW
open Go.Proofs
theorem ag141 : Ag Tryz.prog 141 false := fun w => by kernel_rfl
theorem ag39 : Ag Tryz.prog 39 false := fun w => by kernel_rfl
theorem ag9 : Ag Tryz.prog 9 false := fun w => by kernel_rfl
theorem bd237_0s (a1 : Bs) (w : World) : (Instr.build 237 #[(0, str a1)]).run Tryz.prog w = .ok (.agg #[str a1, .int .i64 0]) w := by kernel_rfl
theorem cb126 : Callable Tryz.prog 126 := callable_of Tryz.func126 (by kernel_rfl) (by kernel_rfl)
theorem cb133 : Callable Tryz.prog 133 := callable_of Tryz.func133 (by kernel_rfl) (by kernel_rfl)
theorem cb134 : Callable Tryz.prog 134 := callable_of Tryz.func134 (by kernel_rfl) (by kernel_rfl)
theorem cb136 : Callable Tryz.prog 136 := callable_of Tryz.func136 (by kernel_rfl) (by kernel_rfl)
theorem fl144_0 : Fld Tryz.prog 144 0 0 := fun b o w => by kernel_rfl
theorem fl237_0 : Fld Tryz.prog 237 0 0 := fun b o w => by kernel_rfl
theorem fl237_1 : Fld Tryz.prog 237 1 1 := fun b o w => by kernel_rfl
theorem la144_144 : liesAt Tryz.prog Tryz.prog.depth 144 (2 / Tryz.prog.cellsOf 144) 0 144 1 = true := by kernel_rfl
theorem ne180 : NoEsc Tryz.prog 180 := noEsc_of Tryz.func180 (by kernel_rfl) (by kernel_rfl) (by kernel_rfl) (by kernel_rfl)
theorem sz141 : Sz Tryz.prog 141 1 := fun w => by kernel_rfl
theorem sz39 : Sz Tryz.prog 39 1 := fun w => by kernel_rfl
theorem sz9 : Sz Tryz.prog 9 1 := fun w => by kernel_rfl
theorem ti144 : ∃ j, Tryz.prog.info? 144 = some j := Option.isSome_iff_exists.1 (by kernel_rfl)
theorem tz144 : ∃ j, Tryz.prog.info? 144 = some j ∧ j.size ≠ 0 := exInfo (by kernel_rfl)
theorem r4_letter (H : Hp) (c : Int) (c_r : 0 ≤ c ∧ c ≤ 255) : Pr Tryz.prog 105 #[.int .u8 c] H (.bool (letter c)) := by
  refine pr_cw Tryz.func105 rfl Tryz.ntmps105 rfl (fun N => ?_)
  refine cw_seq (cw_region (oab rfl rfl (ow_nil (seqK_n (cw_seq ?_)))))
  refine cw_region (omi rfl rfl (ol rfl (lo_geq rfl rfl) (omb rfl rfl (ow_sp (j := 2) rfl (fun h1 => ?_) (fun h1 => ?_)))))
  · have p2 := dt h1
    refine ow1 (op1_g rfl h1 rfl (lo_move (v := .int _ _) rfl) ?_)
    refine ow1 (op1_g rfl h1 rfl (lo_leq rfl rfl) ?_)
    refine ol rfl (lo_pick_t (v := .bool _) rfl h1 rfl) (omb rfl rfl (ow_sp (j := 6) rfl (fun h3 => ?_) (fun h3 => ?_)))
    · have p4 := dt h3
      refine og rfl h3 rfl (og rfl h3 rfl (og rfl h3 rfl ?_))
      refine ow1 (op1_gx (j := 9) rfl rfl ?_)
      refine ow1 (op1_gx (j := 9) rfl rfl ?_)
      refine og rfl h3 rfl (ol rfl (lo_pick_t (v := .bool _) rfl h3 rfl) (omb rfl rfl (og rfl rfl rfl (og rfl rfl rfl (ol rfl (lo_pick_t (v := .bool _) rfl rfl rfl) ?_)))))
      refine omb rfl rfl (og rfl rfl rfl (og rfl rfl rfl (ol rfl (lo_pick_t (v := .bool _) rfl rfl rfl) (oab rfl rfl (ow_nil ?_)))))
      refine seqK_n (cw_ret (fnK_r (res1 rfl (rv_t (v := .bool _) rfl)) (.refl _) ?_))
      simp [letter, *]
    have p5 := df h3
    refine ow1 (op1_g rfl h3 rfl (lo_move (v := .int _ _) rfl) ?_)
    refine ow1 (op1_g rfl h3 rfl (lo_geq rfl rfl) ?_)
    refine ow1 (op1_g rfl h3 rfl (lo_move (v := .bool _) rfl) ?_)
    refine ow_sp (j := 9) rfl (fun h6 => ?_) (fun h6 => ?_)
    · have p7 := dt h6
      refine ow1 (op1_g rfl h6 rfl (lo_move (v := .int _ _) rfl) ?_)
      refine ow1 (op1_g rfl h6 rfl (lo_leq rfl rfl) ?_)
      refine ow1 (op1_g rfl h3 rfl (lo_pick_t (v := .bool _) rfl h6 rfl) ?_)
      refine ol rfl (lo_pick_f (v := .bool _) rfl h3 rfl) (omb rfl rfl (ow_sp (j := 14) rfl (fun h8 => ?_) (fun h8 => ?_)))
      · have p9 := dt h8
        refine og rfl h8 rfl (og rfl h8 rfl (ol rfl (lo_pick_t (v := .bool _) rfl h8 rfl) (omb rfl rfl (og rfl rfl rfl (og rfl rfl rfl ?_)))))
        refine ol rfl (lo_pick_t (v := .bool _) rfl rfl rfl) (oab rfl rfl (ow_nil (seqK_n (cw_ret (fnK_r (res1 rfl (rv_t (v := .bool _) rfl)) (.refl _) ?_)))))
        simp [letter, *]
      have p10 := df h8
      refine ow1 (op1_g rfl h8 rfl (lo_move (v := .int _ _) rfl) ?_)
      refine ow1 (op1_g rfl h8 rfl (lo_eql rfl rfl) ?_)
      refine ol rfl (lo_pick_f (v := .bool _) rfl h8 rfl) (omb rfl rfl (ow_sp (j := 18) rfl (fun h11 => ?_) (fun h11 => ?_)))
      · have p12 := dt h11
        refine og rfl h11 rfl (og rfl h11 rfl (ol rfl (lo_pick_t (v := .bool _) rfl h11 rfl) (oab rfl rfl (ow_nil (seqK_n ?_)))))
        refine cw_ret (fnK_r (res1 rfl (rv_t (v := .bool _) rfl)) (.refl _) ?_)
        simp [letter, *]
      have p13 := df h11
      refine ow1 (op1_g rfl h11 rfl (lo_move (v := .int _ _) rfl) ?_)
      refine ow1 (op1_g rfl h11 rfl (lo_eql rfl rfl) ?_)
      refine ol rfl (lo_pick_f (v := .bool _) rfl h11 rfl) (oab rfl rfl (ow_nil (seqK_n (cw_ret (fnK_r (res1 rfl (rv_t (v := .bool _) rfl)) (.refl _) ?_)))))
      simp [letter, *]
    have p14 := df h6
    refine og rfl h6 rfl (og rfl h6 rfl ?_)
    refine ow1 (op1_g rfl h3 rfl (lo_pick_f (v := .bool _) rfl h6 rfl) ?_)
    refine ol rfl (lo_pick_f (v := .bool _) rfl h3 rfl) (omb rfl rfl ?_)
    refine ow1 (op1_g rfl rfl rfl (lo_move (v := .int _ _) rfl) ?_)
    refine ow1 (op1_g rfl rfl rfl (lo_eql rfl rfl) ?_)
    refine ol rfl (lo_pick_f (v := .bool _) rfl rfl rfl) (omb rfl rfl (ow_sp (j := 18) rfl (fun h15 => ?_) (fun h15 => ?_)))
    · have p16 := dt h15
      refine og rfl h15 rfl (og rfl h15 rfl (ol rfl (lo_pick_t (v := .bool _) rfl h15 rfl) (oab rfl rfl (ow_nil (seqK_n ?_)))))
      refine cw_ret (fnK_r (res1 rfl (rv_t (v := .bool _) rfl)) (.refl _) ?_)
      simp [letter, *]
    have p17 := df h15
    refine ow1 (op1_g rfl h15 rfl (lo_move (v := .int _ _) rfl) ?_)
    refine ow1 (op1_g rfl h15 rfl (lo_eql rfl rfl) ?_)
    refine ol rfl (lo_pick_f (v := .bool _) rfl h15 rfl) (oab rfl rfl (ow_nil (seqK_n (cw_ret (fnK_r (res1 rfl (rv_t (v := .bool _) rfl)) (.refl _) ?_)))))
    simp [letter, *]
  have p18 := df h1
  refine og rfl h1 rfl (og rfl h1 rfl (ol rfl (lo_pick_f (v := .bool _) rfl h1 rfl) (omb rfl rfl ?_)))
  refine ow1 (op1_g rfl rfl rfl (lo_move (v := .int _ _) rfl) ?_)
  refine ow1 (op1_g rfl rfl rfl (lo_geq rfl rfl) ?_)
  refine ow1 (op1_g rfl rfl rfl (lo_move (v := .bool _) rfl) ?_)
  refine ow_sp (j := 9) rfl (fun h19 => ?_) (fun h19 => ?_)
  · have p20 := dt h19
    refine ow1 (op1_g rfl h19 rfl (lo_move (v := .int _ _) rfl) ?_)
    refine ow1 (op1_g rfl h19 rfl (lo_leq rfl rfl) ?_)
    refine ow1 (op1_g rfl rfl rfl (lo_pick_t (v := .bool _) rfl h19 rfl) ?_)
    refine ol rfl (lo_pick_f (v := .bool _) rfl rfl rfl) (omb rfl rfl (ow_sp (j := 14) rfl (fun h21 => ?_) (fun h21 => ?_)))
    · have p22 := dt h21
      refine og rfl h21 rfl (og rfl h21 rfl (ol rfl (lo_pick_t (v := .bool _) rfl h21 rfl) (omb rfl rfl (og rfl rfl rfl (og rfl rfl rfl ?_)))))
      refine ol rfl (lo_pick_t (v := .bool _) rfl rfl rfl) (oab rfl rfl (ow_nil (seqK_n (cw_ret (fnK_r (res1 rfl (rv_t (v := .bool _) rfl)) (.refl _) ?_)))))
      simp [letter, *]
    have p23 := df h21
    refine ow1 (op1_g rfl h21 rfl (lo_move (v := .int _ _) rfl) ?_)
    refine ow1 (op1_g rfl h21 rfl (lo_eql rfl rfl) ?_)
    refine ol rfl (lo_pick_f (v := .bool _) rfl h21 rfl) (omb rfl rfl (ow_sp (j := 18) rfl (fun h24 => ?_) (fun h24 => ?_)))
    · have p25 := dt h24
      refine og rfl h24 rfl (og rfl h24 rfl (ol rfl (lo_pick_t (v := .bool _) rfl h24 rfl) (oab rfl rfl (ow_nil (seqK_n ?_)))))
      refine cw_ret (fnK_r (res1 rfl (rv_t (v := .bool _) rfl)) (.refl _) ?_)
      simp [letter, *]
    have p26 := df h24
    refine ow1 (op1_g rfl h24 rfl (lo_move (v := .int _ _) rfl) ?_)
    refine ow1 (op1_g rfl h24 rfl (lo_eql rfl rfl) ?_)
    refine ol rfl (lo_pick_f (v := .bool _) rfl h24 rfl) (oab rfl rfl (ow_nil (seqK_n (cw_ret (fnK_r (res1 rfl (rv_t (v := .bool _) rfl)) (.refl _) ?_)))))
    simp [letter, *]
  have p27 := df h19
  refine og rfl h19 rfl (og rfl h19 rfl ?_)
  refine ow1 (op1_g rfl rfl rfl (lo_pick_f (v := .bool _) rfl h19 rfl) ?_)
  refine ol rfl (lo_pick_f (v := .bool _) rfl rfl rfl) (omb rfl rfl ?_)
  refine ow1 (op1_g rfl rfl rfl (lo_move (v := .int _ _) rfl) ?_)
  refine ow1 (op1_g rfl rfl rfl (lo_eql rfl rfl) ?_)
  refine ol rfl (lo_pick_f (v := .bool _) rfl rfl rfl) (omb rfl rfl (ow_sp (j := 18) rfl (fun h28 => ?_) (fun h28 => ?_)))
  · have p29 := dt h28
    refine og rfl h28 rfl (og rfl h28 rfl (ol rfl (lo_pick_t (v := .bool _) rfl h28 rfl) (oab rfl rfl (ow_nil (seqK_n ?_)))))
    refine cw_ret (fnK_r (res1 rfl (rv_t (v := .bool _) rfl)) (.refl _) ?_)
    simp [letter, *]
  have p30 := df h28
  refine ow1 (op1_g rfl h28 rfl (lo_move (v := .int _ _) rfl) ?_)
  refine ow1 (op1_g rfl h28 rfl (lo_eql rfl rfl) ?_)
  refine ol rfl (lo_pick_f (v := .bool _) rfl h28 rfl) (oab rfl rfl (ow_nil (seqK_n (cw_ret (fnK_r (res1 rfl (rv_t (v := .bool _) rfl)) (.refl _) ?_)))))
  simp [letter, *]
theorem words_plain (H : Hp) (s : Bs) (hs : s.length ≤ 9223372036854775807) : Pr Tryz.prog 186 #[str s] H (.bool (plain s)) := by
  refine pr_cw Tryz.func186 rfl Tryz.ntmps186 rfl (fun N => ?_)
  refine cw_seq (cw_region (oab rfl rfl (ow_nil (seqK_n (cw_seq ?_)))))
  refine cw_seq (cw_region (ol rfl (lo_move (v := str _) rfl) (ol rfl (lo_len_str rfl Tryz.underlying9) (omi rfl rfl (ow_nil ?_)))))
  refine seqK_n (cw_block (cw_loop1 [2, 3, 4, 7, 8, 9, 10, 11, 12, 13, 14, 15, 16, 17, 18, 19, 20, 21, 22, 23, 24, 25, 26, 27, 28, 29, 30] [] (fun (k : Nat) G => upd (G) 7 (.int .i64 (k : Int))) (fun (k : Nat) G => G) (fun (k : Nat) H' => k ≤ s.length ∧ (s.drop k).all (fun c => letter c.toNat) = plain s) (fun (k : Nat) => s.length - k) 0 (upd_intro (mask_intro (by first | exact off_refl | (repeat (first | exact off_mask | refine off_upd rfl ?_ | refine off_mask2 rfl ?_)))) rfl) (lmask_intro offl_refl) ?_ ?_))
  · exact ⟨by omega, rfl⟩
  intro k J2 JL2 H2 hp1 hl2
  obtain ⟨hk1, hk2⟩ := hp1
  refine cw_seq (cw_region (ol rfl (lo_lss rfl rfl) (ow_nil (seqK_n (cw_seq ?_)))))
  refine cw_cond rfl (fun h3 => ?_) (fun h3 => ?_)
  · have p4 := dt h3
    refine cw_skip (seqK_n (cw_seq (cw_block (cw_seq (cw_region ?_)))))
    refine omi rfl rfl (oai rfl rfl (ow_nil (seqK_n (cw_seq (cw_region ?_)))))
    refine ol rfl (lo_move (v := str _) rfl) (omi rfl rfl ?_)
    have := u8r (s.getD k 0)
    refine ol rfl (lo_index_str k rfl rfl Tryz.underlying9 (by omega) (by omega)) (oai rfl rfl (ow_nil (seqK_n (cw_block (cw_seq ?_)))))
    refine cw_seq (cw_region (omi rfl rfl (ol rfl (lo_geq rfl rfl) (omb rfl rfl (ow_sp (j := 2) rfl (fun h5 => ?_) (fun h5 => ?_))))))
    · have p6 := dt h5
      refine ow1 (op1_g rfl h5 rfl (lo_move (v := .int _ _) rfl) ?_)
      refine ow1 (op1_g rfl h5 rfl (lo_leq rfl rfl) ?_)
      refine ol rfl (lo_pick_t (v := .bool _) rfl h5 rfl) (oab rfl rfl (ow_nil (seqK_n (cw_cond rfl (fun h7 => ?_) (fun h7 => ?_)))))
      · have p8 := dt h7
        refine cw_skip (seqK_n (cw_cond_t rfl h7 (cw_skip (blkK_n (blkK_n ?_)))))
        refine seqK_n (cw_region (ol rfl (lo_add rfl rfl (rg_i64 (by omega))) (omi rfl rfl (ow_nil ?_))))
        refine next1 (k + 1) (upd_intro (mask_intro (by first | exact off_refl | (repeat (first | exact off_mask | refine off_upd rfl ?_ | refine off_mask2 rfl ?_)))) rfl) (lmask_intro (by first | exact offl_refl | (repeat (first | exact offl_mask | refine offl_upd rfl ?_ | refine offl_mask2 rfl ?_)))) hl2 ?_ ?_
        · exact ⟨by omega, by rw [← hk2, drop_getD (k := k) (by omega), List.all_cons]; generalize ((s.getD k 0).toNat : Int) = z at *; simp [letter, *]⟩
        omega
      have p9 := df h7
      refine cw_seq (cw_region (omi rfl rfl (ol rfl (lo_geq rfl rfl) (omb rfl rfl (ow_sp (j := 2) rfl (fun h10 => ?_) (fun h10 => ?_))))))
      · have p11 := dt h10
        refine ow1 (op1_g rfl h10 rfl (lo_move (v := .int _ _) rfl) ?_)
        refine ow1 (op1_g rfl h10 rfl (lo_leq rfl rfl) ?_)
        refine ol rfl (lo_pick_t (v := .bool _) rfl h10 rfl) (oab rfl rfl (ow_nil (seqK_n (cw_cond rfl (fun h12 => ?_) (fun h12 => ?_)))))
        · have p13 := dt h12
          refine cw_skip (seqK_n (cw_cond_t rfl h12 (cw_skip (blkK_n (blkK_n ?_)))))
          refine seqK_n (cw_region (ol rfl (lo_add rfl rfl (rg_i64 (by omega))) (omi rfl rfl (ow_nil ?_))))
          refine next1 (k + 1) (upd_intro (mask_intro (by first | exact off_refl | (repeat (first | exact off_mask | refine off_upd rfl ?_ | refine off_mask2 rfl ?_)))) rfl) (lmask_intro (by first | exact offl_refl | (repeat (first | exact offl_mask | refine offl_upd rfl ?_ | refine offl_mask2 rfl ?_)))) hl2 ?_ ?_
          · exact ⟨by omega, by rw [← hk2, drop_getD (k := k) (by omega), List.all_cons]; generalize ((s.getD k 0).toNat : Int) = z at *; simp [letter, *]⟩
          omega
        have p14 := df h12
        refine cw_seq (cw_region (omi rfl rfl (ol rfl (lo_eql rfl rfl) (oab rfl rfl (ow_nil ?_)))))
        refine seqK_n (cw_cond rfl (fun h15 => ?_) (fun h15 => ?_))
        · have p16 := dt h15
          refine cw_skip (seqK_n (cw_cond_t rfl h15 (cw_skip (blkK_n (blkK_n ?_)))))
          refine seqK_n (cw_region (ol rfl (lo_add rfl rfl (rg_i64 (by omega))) (omi rfl rfl (ow_nil ?_))))
          refine next1 (k + 1) (upd_intro (mask_intro (by first | exact off_refl | (repeat (first | exact off_mask | refine off_upd rfl ?_ | refine off_mask2 rfl ?_)))) rfl) (lmask_intro (by first | exact offl_refl | (repeat (first | exact offl_mask | refine offl_upd rfl ?_ | refine offl_mask2 rfl ?_)))) hl2 ?_ ?_
          · exact ⟨by omega, by rw [← hk2, drop_getD (k := k) (by omega), List.all_cons]; generalize ((s.getD k 0).toNat : Int) = z at *; simp [letter, *]⟩
          omega
        have p17 := df h15
        refine cw_region (omi rfl rfl (ol rfl (lo_eql rfl rfl) (oab rfl rfl (ow_nil (seqK_n ?_)))))
        refine cw_cond rfl (fun h18 => ?_) (fun h18 => ?_)
        · have p19 := dt h18
          refine cw_skip (blkK_n (blkK_n (seqK_n (cw_region (ol rfl (lo_add rfl rfl (rg_i64 (by omega))) ?_)))))
          refine omi rfl rfl (ow_nil ?_)
          refine next1 (k + 1) (upd_intro (mask_intro (by first | exact off_refl | (repeat (first | exact off_mask | refine off_upd rfl ?_ | refine off_mask2 rfl ?_)))) rfl) (lmask_intro (by first | exact offl_refl | (repeat (first | exact offl_mask | refine offl_upd rfl ?_ | refine offl_mask2 rfl ?_)))) hl2 ?_ ?_
          · exact ⟨by omega, by rw [← hk2, drop_getD (k := k) (by omega), List.all_cons]; generalize ((s.getD k 0).toNat : Int) = z at *; simp [letter, *]⟩
          omega
        have p20 := df h18
        refine cw_seq (cw_region (oab rfl rfl (ow_nil (seqK_n (cw_ret ?_)))))
        refine blkK_r (blkK_r (seqK_r (loopK_r (blkK_r (seqK_r ?_)))))
        refine fnK_r (res1 rfl (rv_t (v := .bool _) rfl)) ((HLe.refl _).trans hl2) ?_
        first | (rw [← hk2, drop_getD (k := k) (by omega), List.all_cons]; generalize ((s.getD k 0).toNat : Int) = z at *; simp [letter, *]; done) | (rw [← hk2, List.drop_of_length_le (by omega)]; rfl)
      have p21 := df h10
      refine og rfl h10 rfl (og rfl h10 rfl (ol rfl (lo_pick_f (v := .bool _) rfl h10 rfl) (oab rfl rfl (ow_nil (seqK_n ?_)))))
      refine cw_cond_f rfl rfl (cw_seq (cw_region (omi rfl rfl (ol rfl (lo_eql rfl rfl) (oab rfl rfl ?_)))))
      refine ow_nil (seqK_n (cw_cond rfl (fun h22 => ?_) (fun h22 => ?_)))
      · have p23 := dt h22
        refine cw_skip (seqK_n (cw_cond_t rfl h22 (cw_skip (blkK_n (blkK_n ?_)))))
        refine seqK_n (cw_region (ol rfl (lo_add rfl rfl (rg_i64 (by omega))) (omi rfl rfl (ow_nil ?_))))
        refine next1 (k + 1) (upd_intro (mask_intro (by first | exact off_refl | (repeat (first | exact off_mask | refine off_upd rfl ?_ | refine off_mask2 rfl ?_)))) rfl) (lmask_intro (by first | exact offl_refl | (repeat (first | exact offl_mask | refine offl_upd rfl ?_ | refine offl_mask2 rfl ?_)))) hl2 ?_ ?_
        · exact ⟨by omega, by rw [← hk2, drop_getD (k := k) (by omega), List.all_cons]; generalize ((s.getD k 0).toNat : Int) = z at *; simp [letter, *]⟩
        omega
      have p24 := df h22
      refine cw_region (omi rfl rfl (ol rfl (lo_eql rfl rfl) (oab rfl rfl (ow_nil (seqK_n ?_)))))
      refine cw_cond rfl (fun h25 => ?_) (fun h25 => ?_)
      · have p26 := dt h25
        refine cw_skip (blkK_n (blkK_n (seqK_n (cw_region (ol rfl (lo_add rfl rfl (rg_i64 (by omega))) ?_)))))
        refine omi rfl rfl (ow_nil ?_)
        refine next1 (k + 1) (upd_intro (mask_intro (by first | exact off_refl | (repeat (first | exact off_mask | refine off_upd rfl ?_ | refine off_mask2 rfl ?_)))) rfl) (lmask_intro (by first | exact offl_refl | (repeat (first | exact offl_mask | refine offl_upd rfl ?_ | refine offl_mask2 rfl ?_)))) hl2 ?_ ?_
        · exact ⟨by omega, by rw [← hk2, drop_getD (k := k) (by omega), List.all_cons]; generalize ((s.getD k 0).toNat : Int) = z at *; simp [letter, *]⟩
        omega
      have p27 := df h25
      refine cw_seq (cw_region (oab rfl rfl (ow_nil (seqK_n (cw_ret ?_)))))
      refine blkK_r (blkK_r (seqK_r (loopK_r (blkK_r (seqK_r ?_)))))
      refine fnK_r (res1 rfl (rv_t (v := .bool _) rfl)) ((HLe.refl _).trans hl2) ?_
      first | (rw [← hk2, drop_getD (k := k) (by omega), List.all_cons]; generalize ((s.getD k 0).toNat : Int) = z at *; simp [letter, *]; done) | (rw [← hk2, List.drop_of_length_le (by omega)]; rfl)
    have p28 := df h5
    refine og rfl h5 rfl (og rfl h5 rfl (ol rfl (lo_pick_f (v := .bool _) rfl h5 rfl) (oab rfl rfl (ow_nil (seqK_n ?_)))))
    refine cw_cond_f rfl rfl (cw_seq (cw_region (omi rfl rfl (ol rfl (lo_geq rfl rfl) (omb rfl rfl ?_)))))
    refine ow_sp (j := 2) rfl (fun h29 => ?_) (fun h29 => ?_)
    · have p30 := dt h29
      refine ow1 (op1_g rfl h29 rfl (lo_move (v := .int _ _) rfl) ?_)
      refine ow1 (op1_g rfl h29 rfl (lo_leq rfl rfl) ?_)
      refine ol rfl (lo_pick_t (v := .bool _) rfl h29 rfl) (oab rfl rfl (ow_nil (seqK_n (cw_cond rfl (fun h31 => ?_) (fun h31 => ?_)))))
      · have p32 := dt h31
        refine cw_skip (seqK_n (cw_cond_t rfl h31 (cw_skip (blkK_n (blkK_n ?_)))))
        refine seqK_n (cw_region (ol rfl (lo_add rfl rfl (rg_i64 (by omega))) (omi rfl rfl (ow_nil ?_))))
        refine next1 (k + 1) (upd_intro (mask_intro (by first | exact off_refl | (repeat (first | exact off_mask | refine off_upd rfl ?_ | refine off_mask2 rfl ?_)))) rfl) (lmask_intro (by first | exact offl_refl | (repeat (first | exact offl_mask | refine offl_upd rfl ?_ | refine offl_mask2 rfl ?_)))) hl2 ?_ ?_
        · exact ⟨by omega, by rw [← hk2, drop_getD (k := k) (by omega), List.all_cons]; generalize ((s.getD k 0).toNat : Int) = z at *; simp [letter, *]⟩
        omega
      have p33 := df h31
      refine cw_seq (cw_region (omi rfl rfl (ol rfl (lo_eql rfl rfl) (oab rfl rfl (ow_nil ?_)))))
      refine seqK_n (cw_cond rfl (fun h34 => ?_) (fun h34 => ?_))
      · have p35 := dt h34
        refine cw_skip (seqK_n (cw_cond_t rfl h34 (cw_skip (blkK_n (blkK_n ?_)))))
        refine seqK_n (cw_region (ol rfl (lo_add rfl rfl (rg_i64 (by omega))) (omi rfl rfl (ow_nil ?_))))
        refine next1 (k + 1) (upd_intro (mask_intro (by first | exact off_refl | (repeat (first | exact off_mask | refine off_upd rfl ?_ | refine off_mask2 rfl ?_)))) rfl) (lmask_intro (by first | exact offl_refl | (repeat (first | exact offl_mask | refine offl_upd rfl ?_ | refine offl_mask2 rfl ?_)))) hl2 ?_ ?_
        · exact ⟨by omega, by rw [← hk2, drop_getD (k := k) (by omega), List.all_cons]; generalize ((s.getD k 0).toNat : Int) = z at *; simp [letter, *]⟩
        omega
      have p36 := df h34
      refine cw_region (omi rfl rfl (ol rfl (lo_eql rfl rfl) (oab rfl rfl (ow_nil (seqK_n ?_)))))
      refine cw_cond rfl (fun h37 => ?_) (fun h37 => ?_)
      · have p38 := dt h37
        refine cw_skip (blkK_n (blkK_n (seqK_n (cw_region (ol rfl (lo_add rfl rfl (rg_i64 (by omega))) ?_)))))
        refine omi rfl rfl (ow_nil ?_)
        refine next1 (k + 1) (upd_intro (mask_intro (by first | exact off_refl | (repeat (first | exact off_mask | refine off_upd rfl ?_ | refine off_mask2 rfl ?_)))) rfl) (lmask_intro (by first | exact offl_refl | (repeat (first | exact offl_mask | refine offl_upd rfl ?_ | refine offl_mask2 rfl ?_)))) hl2 ?_ ?_
        · exact ⟨by omega, by rw [← hk2, drop_getD (k := k) (by omega), List.all_cons]; generalize ((s.getD k 0).toNat : Int) = z at *; simp [letter, *]⟩
        omega
      have p39 := df h37
      refine cw_seq (cw_region (oab rfl rfl (ow_nil (seqK_n (cw_ret ?_)))))
      refine blkK_r (blkK_r (seqK_r (loopK_r (blkK_r (seqK_r ?_)))))
      refine fnK_r (res1 rfl (rv_t (v := .bool _) rfl)) ((HLe.refl _).trans hl2) ?_
      first | (rw [← hk2, drop_getD (k := k) (by omega), List.all_cons]; generalize ((s.getD k 0).toNat : Int) = z at *; simp [letter, *]; done) | (rw [← hk2, List.drop_of_length_le (by omega)]; rfl)
    have p40 := df h29
    refine og rfl h29 rfl (og rfl h29 rfl (ol rfl (lo_pick_f (v := .bool _) rfl h29 rfl) (oab rfl rfl (ow_nil (seqK_n ?_)))))
    refine cw_cond_f rfl rfl (cw_seq (cw_region (omi rfl rfl (ol rfl (lo_eql rfl rfl) (oab rfl rfl ?_)))))
    refine ow_nil (seqK_n (cw_cond rfl (fun h41 => ?_) (fun h41 => ?_)))
    · have p42 := dt h41
      refine cw_skip (seqK_n (cw_cond_t rfl h41 (cw_skip (blkK_n (blkK_n ?_)))))
      refine seqK_n (cw_region (ol rfl (lo_add rfl rfl (rg_i64 (by omega))) (omi rfl rfl (ow_nil ?_))))
      refine next1 (k + 1) (upd_intro (mask_intro (by first | exact off_refl | (repeat (first | exact off_mask | refine off_upd rfl ?_ | refine off_mask2 rfl ?_)))) rfl) (lmask_intro (by first | exact offl_refl | (repeat (first | exact offl_mask | refine offl_upd rfl ?_ | refine offl_mask2 rfl ?_)))) hl2 ?_ ?_
      · exact ⟨by omega, by rw [← hk2, drop_getD (k := k) (by omega), List.all_cons]; generalize ((s.getD k 0).toNat : Int) = z at *; simp [letter, *]⟩
      omega
    have p43 := df h41
    refine cw_region (omi rfl rfl (ol rfl (lo_eql rfl rfl) (oab rfl rfl (ow_nil (seqK_n ?_)))))
    refine cw_cond rfl (fun h44 => ?_) (fun h44 => ?_)
    · have p45 := dt h44
      refine cw_skip (blkK_n (blkK_n (seqK_n (cw_region (ol rfl (lo_add rfl rfl (rg_i64 (by omega))) ?_)))))
      refine omi rfl rfl (ow_nil ?_)
      refine next1 (k + 1) (upd_intro (mask_intro (by first | exact off_refl | (repeat (first | exact off_mask | refine off_upd rfl ?_ | refine off_mask2 rfl ?_)))) rfl) (lmask_intro (by first | exact offl_refl | (repeat (first | exact offl_mask | refine offl_upd rfl ?_ | refine offl_mask2 rfl ?_)))) hl2 ?_ ?_
      · exact ⟨by omega, by rw [← hk2, drop_getD (k := k) (by omega), List.all_cons]; generalize ((s.getD k 0).toNat : Int) = z at *; simp [letter, *]⟩
      omega
    have p46 := df h44
    refine cw_seq (cw_region (oab rfl rfl (ow_nil (seqK_n (cw_ret ?_)))))
    refine blkK_r (blkK_r (seqK_r (loopK_r (blkK_r (seqK_r ?_)))))
    refine fnK_r (res1 rfl (rv_t (v := .bool _) rfl)) ((HLe.refl _).trans hl2) ?_
    first | (rw [← hk2, drop_getD (k := k) (by omega), List.all_cons]; generalize ((s.getD k 0).toNat : Int) = z at *; simp [letter, *]; done) | (rw [← hk2, List.drop_of_length_le (by omega)]; rfl)
  have p47 := df h3
  refine cw_exit (seqK_e (loopK_e (blkK_hit (seqK_n (cw_seq ?_)))))
  refine cw_region (oab rfl rfl (ow_nil (seqK_n (cw_ret (fnK_r (res1 rfl (rv_t (v := .bool _) rfl)) ((HLe.refl _).trans hl2) ?_)))))
  first | (rw [← hk2, drop_getD (k := k) (by omega), List.all_cons]; generalize ((s.getD k 0).toNat : Int) = z at *; simp [letter, *]; done) | (rw [← hk2, List.drop_of_length_le (by omega)]; rfl)
set_option maxRecDepth 100000 in
theorem copyCheck {n : Nat} {N : Rest} {F : Fr} {H : Hp} {L : Ls} {ops : List Oper} {ty d : Nat} {pos : String} {af : Array Edge} {K : Fr → Hp → Ls → Prop} {x : Operand} {ats : Array TypeId} {b : Nat} {p v : Value} (i : Nat) (hx : ev F x = .pointer (some ⟨b, 0, none⟩)) (hi : L i = some (b, bx 144 [p, v]))
    (hp : p = .pointer none ∨ p = .pointer (some ⟨b, 0, none⟩)) (hd : Nat.blt d n = true) (k : K (upd F d (.tuple #[])) H (lupd L i (some (b, bx 144 [.pointer (some ⟨b, 0, none⟩), v])))) : Op1 Tryz.prog n N ops ⟨some d, .call ⟨.value (.func 126), #[x], ats⟩, ty, pos, af, none⟩ K F H L := by
  refine op1_in (en_f (vs := [.pointer (some ⟨b, 0, none⟩)]) cb126 (by simp [evs, hx])) Tryz.func126 rfl Tryz.ntmps126 rfl hd (cw_seq (cw_region (ol rfl (lo_move (v := .pointer (some ⟨_, _, none⟩)) rfl) (ol rfl (lo_nilCheck rfl) (ol rfl (lo_fieldAddr rfl fl144_0) ?_)))))
  refine ol rfl (lo_load1 (i := i) (v := p) rfl ag141 hi rfl) ?_
  rcases hp with rfl | rfl
  · refine ol rfl (lo_pnil rfl rfl Tryz.underlying141) (ow_nil (seqK_n (cw_cond_t rfl rfl (cw_region (ol rfl (lo_move (v := .pointer (some ⟨_, _, none⟩)) rfl) ?_)))))
    refine ol rfl (lo_move (v := .pointer (some ⟨_, _, none⟩)) rfl) (ol rfl (lo_toUnsafe (i := i) rfl hi rfl Tryz.underlying141 Tryz.underlying287 (tz144).choose_spec.1 (tz144).choose_spec.2) (ol rfl (lo_noEsc (v := .pointer (some ⟨_, _, none⟩)) ne180 rfl) (ol rfl (lo_fromUnsafe (i := i) rfl hi Tryz.underlying287 Tryz.underlying141 (ti144).choose_spec la144_144) (ol rfl (lo_nilCheck rfl) (ol rfl (lo_fieldAddr rfl fl144_0) ?_)))))
    refine ow1 (op1_store1 (i := i) (v := .pointer (some ⟨_, _, none⟩)) rfl rfl rfl sz141 hi rfl ?_)
    refine ow_nil ?_
    exact fnK_n (res0 rfl) (.refl _) k
  · refine ol rfl (lo_peq_nil rfl rfl Tryz.underlying141) (ow_nil (seqK_n (cw_cond_f rfl rfl (cw_seq (cw_region ?_)))))
    refine ol rfl (lo_move (v := .pointer (some ⟨_, _, none⟩)) rfl) (ol rfl (lo_nilCheck rfl) (ol rfl (lo_fieldAddr rfl fl144_0) (ol rfl (lo_load1 (i := i) (v := .pointer (some ⟨b, 0, none⟩)) rfl ag141 hi rfl) (ol rfl (lo_move (v := .pointer (some ⟨_, _, none⟩)) rfl) (ol rfl (lo_pne_self rfl rfl Tryz.underlying141 (ti144).choose_spec) ?_)))))
    refine ow_nil (seqK_n (cw_cond_f rfl rfl (cw_skip (fnK_n (res0 rfl) (.refl _) ?_))))
    rwa [lupd_eta hi] at k
theorem octet_New (H : Hp) (s : Bs) : Pn Tryz.prog 63 #[str s] H (fun v H' b o' => v = .pointer (some ⟨b, 0, none⟩) ∧ H = H' ∧ o' = bx 237 (In.cells (⟨s, 0⟩))) := by
  refine pn_cw Tryz.func63 rfl Tryz.ntmps63 rfl (fun N => ?_)
  refine cw_seq (cw_region (ol rfl (lo_assign rfl) (ow_nil (seqK_n (cw_seq ?_)))))
  refine cw_region (ol rfl (lo_move (v := str _) rfl) (ol rfl (lo_build (v := .agg #[_, _]) rfl (bd237_0s _)) (ow1 (op1_box (cs := [_, _]) 0 rfl rfl (fun b1 => ?_)))))
  refine ol rfl (lo_assign (v := .pointer (some ⟨_, _, none⟩)) rfl) (ow_nil (seqK_n (cw_ret (fnK_r (res1 rfl (rv_t (v := .pointer (some ⟨_, _, none⟩)) rfl)) (.refl _) ?_))))
  exact ⟨0, _, _, rfl, rfl, rfl, rfl⟩
theorem in_Fail (H : Hp) (i_b : Nat) (i : In) (code : Int) (code_r : -9223372036854775808 ≤ code ∧ code ≤ 9223372036854775807) : Pm Tryz.prog 134 #[.pointer (some ⟨i_b, 0, none⟩), .int .i64 code] H i_b (bx 237 (In.cells i)) (fun v H' o' => v = .tuple #[] ∧ H = H' ∧ o' = bx 237 (In.cells (inFail i code))) := by
  refine pm_cw Tryz.func134 rfl Tryz.ntmps134 rfl (fun N => ?_)
  refine cw_seq (cw_region (ol rfl (lo_move (v := .pointer (some ⟨_, _, none⟩)) rfl) (ol rfl (lo_pne_nil rfl rfl Tryz.underlying156) (omb rfl rfl ?_))))
  refine ow1 (op1_g rfl rfl rfl (lo_move (v := .pointer (some ⟨_, _, none⟩)) rfl) ?_)
  refine ow1 (op1_g rfl rfl rfl (lo_nilCheck rfl) ?_)
  refine ow1 (op1_g rfl rfl rfl (lo_fieldAddr rfl fl237_1) ?_)
  refine ow1 (op1_g rfl rfl rfl (lo_load1 (i := 0) (v := .int _ _) rfl ag39 rfl rfl) ?_)
  refine ow1 (op1_g rfl rfl rfl (lo_eql rfl rfl) ?_)
  refine ol rfl (lo_pick_t (v := .bool _) rfl rfl rfl) (omb rfl rfl (ow_sp (j := 9) rfl (fun h1 => ?_) (fun h1 => ?_)))
  · have p2 := dt h1
    refine ow1 (op1_g rfl h1 rfl (lo_move (v := .int _ _) rfl) ?_)
    refine ow1 (op1_g rfl h1 rfl (lo_neq rfl rfl) ?_)
    refine ol rfl (lo_pick_t (v := .bool _) rfl h1 rfl) (ow_nil (seqK_n (cw_cond rfl (fun h3 => ?_) (fun h3 => ?_))))
    · have h4 := not_t h3
      have p5 := df h4
      refine cw_region (ol rfl (lo_move (v := .pointer (some ⟨_, _, none⟩)) rfl) (ol rfl (lo_move (v := .pointer (some ⟨_, _, none⟩)) rfl) (omi rfl rfl (ol rfl (lo_nilCheck rfl) (ol rfl (lo_fieldAddr rfl fl237_0) ?_)))))
      refine ow1 (op1_store1 (i := 0) (v := str _) rfl rfl rfl sz9 rfl rfl ?_)
      refine ol rfl (lo_nilCheck rfl) (ol rfl (lo_fieldAddr rfl fl237_1) ?_)
      refine ow1 (op1_store1 (i := 0) (v := .int _ _) rfl rfl rfl sz39 rfl rfl ?_)
      refine ow_nil (fnK_n (res0 rfl) (.refl _) ?_)
      refine ⟨_, rfl, ?_⟩
      refine ⟨?_, rfl, ?_⟩ <;> simp [inRaw, inFail, In.cells, *]
    have h6 := not_f h3
    have p7 := dt h6
    refine cw_skip (fnK_n (res0 rfl) (.refl _) ?_)
    refine ⟨_, rfl, ?_⟩
    refine ⟨?_, rfl, ?_⟩ <;> simp [inRaw, inFail, In.cells, *]
  have p8 := df h1
  refine og rfl h1 rfl (og rfl h1 rfl (ol rfl (lo_pick_f (v := .bool _) rfl h1 rfl) (ow_nil (seqK_n (cw_cond_f rfl rfl ?_)))))
  refine cw_skip (fnK_n (res0 rfl) (.refl _) ?_)
  refine ⟨_, rfl, ?_⟩
  refine ⟨?_, rfl, ?_⟩ <;> simp [inRaw, inFail, In.cells, *]
theorem in_Raw (H : Hp) (i_b : Nat) (i : In) (n : Int) (n_r : -9223372036854775808 ≤ n ∧ n ≤ 9223372036854775807) : Pm Tryz.prog 182 #[.pointer (some ⟨i_b, 0, none⟩), .int .i64 n] H i_b (bx 237 (In.cells i)) (fun v H' o' => v = str ((inRaw i n).1) ∧ H = H' ∧ o' = bx 237 (In.cells ((inRaw i n).2))) := by
  refine pm_cw Tryz.func182 rfl Tryz.ntmps182 rfl (fun N => ?_)
  refine cw_seq (cw_region (ol rfl (lo_assign (v := str _) rfl) (ow_nil (seqK_n (cw_seq ?_)))))
  refine cw_block (cw_seq (cw_seq (cw_region (ol rfl (lo_move (v := .pointer (some ⟨_, _, none⟩)) rfl) (ol rfl (lo_peq_nil rfl rfl Tryz.underlying156) ?_)))))
  refine oab rfl rfl (ow_nil (seqK_n (cw_cond_f rfl rfl (cw_seq (cw_region ?_)))))
  refine ol rfl (lo_move (v := .pointer (some ⟨_, _, none⟩)) rfl) (ol rfl (lo_nilCheck rfl) (ol rfl (lo_fieldAddr rfl fl237_1) (ol rfl (lo_load1 (i := 0) (v := .int _ _) rfl ag39 rfl rfl) (ol rfl (lo_neq rfl rfl) (oab rfl rfl ?_)))))
  refine ow_nil (seqK_n (cw_cond rfl (fun h1 => ?_) (fun h1 => ?_)))
  · have h2 := not_t h1
    have p3 := df h2
    refine cw_skip (seqK_n (cw_cond_t rfl h1 (cw_seq (cw_region (ol rfl (lo_assign (v := str _) rfl) ?_)))))
    refine ow_nil (seqK_n (cw_ret (blkK_r (seqK_r (fnK_r (res1 rfl (rv_t (v := str _) rfl)) (.refl _) ?_)))))
    refine ⟨_, rfl, ?_⟩
    refine ⟨?_, rfl, ?_⟩ <;> simp [inRaw, inFail, In.cells, *]
  have h4 := not_f h1
  have p5 := dt h4
  refine cw_region (omi rfl rfl (ol rfl (lo_leq rfl rfl) (oab rfl rfl (ow_nil (seqK_n ?_)))))
  refine cw_cond rfl (fun h6 => ?_) (fun h6 => ?_)
  · have p7 := dt h6
    refine cw_seq (cw_region (ol rfl (lo_assign (v := str _) rfl) (ow_nil (seqK_n (cw_ret ?_)))))
    refine blkK_r (seqK_r (fnK_r (res1 rfl (rv_t (v := str _) rfl)) (.refl _) ?_))
    refine ⟨_, rfl, ?_⟩
    refine ⟨?_, rfl, ?_⟩ <;> simp [inRaw, inFail, In.cells, *]
  have p8 := df h6
  refine cw_seq (cw_region (omi rfl rfl (ol rfl (lo_move (v := .pointer (some ⟨_, _, none⟩)) rfl) (ol rfl (lo_nilCheck rfl) (ol rfl (lo_fieldAddr rfl fl237_0) ?_)))))
  refine ol rfl (lo_load1 (i := 0) (v := str _) rfl ag9 rfl rfl) (ol rfl (lo_len_str rfl Tryz.underlying9) (ol rfl (lo_gtr rfl rfl) (oab rfl rfl (ow_nil (seqK_n ?_)))))
  refine cw_cond rfl (fun h9 => ?_) (fun h9 => ?_)
  · have p10 := dt h9
    refine cw_seq (cw_region (ol rfl (lo_move (v := .pointer (some ⟨_, _, none⟩)) rfl) ?_))
    refine ow1 (op1_pm 0 rfl (in_Fail _ i_b i 3 (by omega)) (en_f cb134 rfl) rfl ?_)
    rintro _ _ _ ⟨rfl, rfl, rfl⟩ _
    refine ow_nil (seqK_n (cw_seq (cw_region (ol rfl (lo_assign (v := str _) rfl) (ow_nil ?_)))))
    refine seqK_n (cw_ret (blkK_r (seqK_r (fnK_r (res1 rfl (rv_t (v := str _) rfl)) (.refl _) ?_))))
    refine ⟨_, rfl, ?_⟩
    refine ⟨?_, rfl, ?_⟩ <;> simp [inRaw, inFail, In.cells, *]
  have p13 := df h9
  refine cw_skip (blkK_n (seqK_n (cw_seq (cw_region (ol rfl (lo_move (v := .pointer (some ⟨_, _, none⟩)) rfl) ?_)))))
  refine ol rfl (lo_nilCheck rfl) (ol rfl (lo_fieldAddr rfl fl237_0) (ol rfl (lo_load1 (i := 0) (v := str _) rfl ag9 rfl rfl) (omi rfl rfl (ol rfl (lo_slice_str_hi (n).toNat rfl rfl Tryz.underlying9 (by omega) (by omega)) (ol rfl (lo_assign (v := str _) rfl) ?_)))))
  refine ow_nil (seqK_n (cw_seq (cw_region (ol rfl (lo_move (v := .pointer (some ⟨_, _, none⟩)) rfl) (ol rfl (lo_move (v := .pointer (some ⟨_, _, none⟩)) rfl) ?_)))))
  refine ol rfl (lo_nilCheck rfl) (ol rfl (lo_fieldAddr rfl fl237_0) (ol rfl (lo_load1 (i := 0) (v := str _) rfl ag9 rfl rfl) (omi rfl rfl (ol rfl (lo_slice_str_lo (n).toNat rfl rfl Tryz.underlying9 (by omega) (by omega)) (ol rfl (lo_nilCheck rfl) ?_)))))
  refine ol rfl (lo_fieldAddr rfl fl237_0) ?_
  refine ow1 (op1_store1 (i := 0) (v := str _) rfl rfl rfl sz9 rfl rfl ?_)
  refine ow_nil (seqK_n (cw_seq (cw_region (ol rfl (lo_move (v := str _) rfl) (ol rfl (lo_assign (v := str _) rfl) ?_)))))
  refine ow_nil (seqK_n (cw_ret (fnK_r (res1 rfl (rv_t (v := str _) rfl)) (.refl _) ?_)))
  refine ⟨_, rfl, ?_⟩
  refine ⟨?_, rfl, ?_⟩ <;> simp [inRaw, inFail, In.cells, *]
theorem in_Left (H : Hp) (i_b : Nat) (i : In) : Pm Tryz.prog 136 #[.pointer (some ⟨i_b, 0, none⟩)] H i_b (bx 237 (In.cells i)) (fun v H' o' => v = .int .i64 (i.s.length : Int) ∧ H = H' ∧ o' = bx 237 (In.cells i)) := by
  refine pm_cw Tryz.func136 rfl Tryz.ntmps136 rfl (fun N => ?_)
  refine cw_seq (cw_region (oai rfl rfl (ow_nil (seqK_n (cw_seq ?_)))))
  refine cw_seq (cw_region (ol rfl (lo_move (v := .pointer (some ⟨_, _, none⟩)) rfl) (ol rfl (lo_peq_nil rfl rfl Tryz.underlying156) (ow_nil (seqK_n ?_)))))
  refine cw_cond_f rfl rfl (cw_skip (seqK_n (cw_seq (cw_region (ol rfl (lo_move (v := .pointer (some ⟨_, _, none⟩)) rfl) ?_)))))
  refine ol rfl (lo_nilCheck rfl) (ol rfl (lo_fieldAddr rfl fl237_0) (ol rfl (lo_load1 (i := 0) (v := str _) rfl ag9 rfl rfl) (ol rfl (lo_len_str rfl Tryz.underlying9) (oai rfl rfl (ow_nil ?_)))))
  refine seqK_n (cw_ret (fnK_r (res1 rfl (rv_t (v := .int _ _) rfl)) (.refl _) ?_))
  refine ⟨_, rfl, ?_⟩
  exact ⟨rfl, rfl, rfl⟩
theorem in_Err (H : Hp) (i_b : Nat) (i : In) : Pm Tryz.prog 133 #[.pointer (some ⟨i_b, 0, none⟩)] H i_b (bx 237 (In.cells i)) (fun v H' o' => v = .int .i64 i.err ∧ H = H' ∧ o' = bx 237 (In.cells i)) := by
  refine pm_cw Tryz.func133 rfl Tryz.ntmps133 rfl (fun N => ?_)
  refine cw_seq (cw_region (oai rfl rfl (ow_nil (seqK_n (cw_seq ?_)))))
  refine cw_seq (cw_region (ol rfl (lo_move (v := .pointer (some ⟨_, _, none⟩)) rfl) (ol rfl (lo_peq_nil rfl rfl Tryz.underlying156) (ow_nil (seqK_n ?_)))))
  refine cw_cond_f rfl rfl (cw_skip (seqK_n (cw_seq (cw_region (ol rfl (lo_move (v := .pointer (some ⟨_, _, none⟩)) rfl) ?_)))))
  refine ol rfl (lo_nilCheck rfl) (ol rfl (lo_fieldAddr rfl fl237_1) (ol rfl (lo_load1 (i := 0) (v := .int _ _) rfl ag39 rfl rfl) (oai rfl rfl (ow_nil (seqK_n ?_)))))
  refine cw_ret (fnK_r (res1 rfl (rv_t (v := .int _ _) rfl)) (.refl _) ?_)
  refine ⟨_, rfl, ?_⟩
  exact ⟨rfl, rfl, rfl⟩
theorem in_End (H : Hp) (i_b : Nat) (i : In) : Pm Tryz.prog 65 #[.pointer (some ⟨i_b, 0, none⟩)] H i_b (bx 237 (In.cells i)) (fun v H' o' => v = .int .i64 (inEnd i) ∧ H = H' ∧ o' = bx 237 (In.cells i)) := by
  refine pm_cw Tryz.func65 rfl Tryz.ntmps65 rfl (fun N => ?_)
  refine cw_seq (cw_region (oai rfl rfl (ow_nil (seqK_n (cw_seq ?_)))))
  refine cw_seq (cw_region (ol rfl (lo_move (v := .pointer (some ⟨_, _, none⟩)) rfl) ?_))
  refine ow1 (op1_pm 0 rfl (in_Err _ i_b i) (en_f cb133 rfl) rfl ?_)
  rintro _ _ _ ⟨rfl, rfl, rfl⟩ _
  refine ol rfl (lo_eql rfl rfl) (omb rfl rfl (ow_sp (j := 3) rfl (fun h3 => ?_) (fun h3 => ?_)))
  · have p4 := dt h3
    refine ow1 (op1_g rfl h3 rfl (lo_move (v := .pointer (some ⟨_, _, none⟩)) rfl) ?_)
    refine ow1 (op1_pmg 0 rfl h3 rfl (in_Left _ i_b i) (en_f cb136 rfl) rfl ?_)
    rintro _ _ _ ⟨rfl, rfl, rfl⟩ _
    refine ow1 (op1_g rfl h3 rfl (lo_gtr rfl rfl) ?_)
    refine ol rfl (lo_pick_t (v := .bool _) rfl h3 rfl) (ow_nil (seqK_n (cw_cond rfl (fun h7 => ?_) (fun h7 => ?_))))
    · have p8 := dt h7
      refine cw_seq (cw_region (oai rfl rfl (ow_nil (seqK_n (cw_ret ?_)))))
      refine seqK_r (fnK_r (res1 rfl (rv_t (v := .int _ _) rfl)) (.refl _) ?_)
      refine ⟨_, rfl, ?_⟩
      refine ⟨?_, rfl, rfl⟩; congr 1; unfold inEnd; split <;> omega
    have p9 := df h7
    refine cw_skip (seqK_n (cw_seq (cw_region (ol rfl (lo_move (v := .pointer (some ⟨_, _, none⟩)) rfl) ?_))))
    refine ow1 (op1_pm 0 rfl (in_Err _ i_b i) (en_f cb133 rfl) rfl ?_)
    rintro _ _ _ ⟨rfl, rfl, rfl⟩ _
    refine oai rfl rfl (ow_nil (seqK_n (cw_ret (fnK_r (res1 rfl (rv_t (v := .int _ _) rfl)) (.refl _) ?_))))
    refine ⟨_, rfl, ?_⟩
    refine ⟨?_, rfl, rfl⟩; congr 1; unfold inEnd; split <;> omega
  have p12 := df h3
  refine og rfl h3 rfl (og rfl h3 rfl (og rfl h3 rfl (ol rfl (lo_pick_f (v := .bool _) rfl h3 rfl) (ow_nil (seqK_n ?_)))))
  refine cw_cond_f rfl rfl (cw_skip (seqK_n (cw_seq (cw_region (ol rfl (lo_move (v := .pointer (some ⟨_, _, none⟩)) rfl) ?_)))))
  refine ow1 (op1_pm 0 rfl (in_Err _ i_b i) (en_f cb133 rfl) rfl ?_)
  rintro _ _ _ ⟨rfl, rfl, rfl⟩ _
  refine oai rfl rfl (ow_nil (seqK_n (cw_ret (fnK_r (res1 rfl (rv_t (v := .int _ _) rfl)) (.refl _) ?_))))
  refine ⟨_, rfl, ?_⟩
  refine ⟨?_, rfl, rfl⟩; congr 1; unfold inEnd; split <;> omega
end Go.SW
set_option linter.unusedVariables false
set_option maxRecDepth 100000
set_option maxHeartbeats 4000000
namespace Go.SW
open Go.Proofs
theorem ag5 : Ag Tryz.prog 5 false := fun w => by kernel_rfl
theorem cb131 : Callable Tryz.prog 131 := callable_of Tryz.func131 (by kernel_rfl) (by kernel_rfl)
theorem cb182 : Callable Tryz.prog 182 := callable_of Tryz.func182 (by kernel_rfl) (by kernel_rfl)
theorem sz5 : Sz Tryz.prog 5 1 := fun w => by kernel_rfl
theorem in_Num (H : Hp) (i_b : Nat) (i : In) (bytes : Int) (bytes_r : -9223372036854775808 ≤ bytes ∧ bytes ≤ 9223372036854775807) : Pm Tryz.prog 131 #[.pointer (some ⟨i_b, 0, none⟩), .int .i64 bytes] H i_b (bx 237 (In.cells i)) (fun v H' o' => v = .int .u64 ((inNum i bytes).1) ∧ H = H' ∧ o' = bx 237 (In.cells ((inNum i bytes).2))) := by
  refine pm_cw Tryz.func131 rfl Tryz.ntmps131 rfl (fun N => ?_)
  refine cw_seq (cw_region (oai rfl rfl (ow_nil (seqK_n (cw_seq ?_)))))
  refine cw_region (oai rfl rfl (ow_nil (seqK_n (cw_seq (cw_seq ?_)))))
  refine cw_region (ol rfl (lo_move (v := .pointer (some ⟨_, _, none⟩)) rfl) (omi rfl rfl (ol rfl (lo_min rfl rfl) ?_)))
  refine ow1 (op1_pm 0 rfl (in_Raw _ i_b i (min bytes 8) (by omega)) (en_f cb182 rfl) rfl ?_)
  rintro _ _ _ ⟨rfl, rfl, rfl⟩ _
  refine ow1 (op1_s2b rfl Tryz.underlying9 Tryz.underlying142 Tryz.underlying5 rfl (fun b3 cap4 H5 hl6 hs7 => ?_))
  refine ol rfl (lo_len_slh rfl hs7 Tryz.underlying142) (omi rfl rfl (ow_nil (seqK_n (cw_block (cw_loop1 [5, 7, 14, 15, 16, 17, 18, 19, 20, 21, 22, 23] [] (fun (k : Nat) G => upd (upd (G) 14 (.int .i64 (k : Int))) 5 (.int .u64 (beN ((inRaw i (min bytes 8)).1.take k) : Int))) (fun (k : Nat) G => G) (fun (k : Nat) H' => k ≤ (inRaw i (min bytes 8)).1.length) (fun (k : Nat) => (inRaw i (min bytes 8)).1.length - k) 0 (upd_intro (upd_intro (mask_intro (by first | exact off_refl | (repeat (first | exact off_mask | refine off_upd rfl ?_ | refine off_mask2 rfl ?_)))) rfl) rfl) (lmask_intro offl_refl) ?_ ?_)))))
  · exact Nat.zero_le _
  intro k J9 JL9 H9 hp8 hl9
  have hb := inRaw_len i (min bytes 8)
  refine cw_seq (cw_region (ol rfl (lo_lss rfl rfl) (ow_nil (seqK_n (cw_seq ?_)))))
  refine cw_cond rfl (fun h10 => ?_) (fun h10 => ?_)
  · have p11 := dt h10
    refine cw_skip (seqK_n (cw_seq (cw_block (cw_seq (cw_region ?_)))))
    obtain ⟨c12, hc13⟩ := getE (xs := (inRaw i (min bytes 8)).1) (m := k) (by omega)
    obtain ⟨cs14, hE15, at16⟩ := (hs7.mono ((HLe.refl _).trans hl9) (fun _ _ h => h)).get hc13
    subst hE15
    have c12_r := u8r c12
    refine ol rfl (lo_indexAddr rfl rfl (hs7.mono ((HLe.refl _).trans hl9) (fun _ _ h => h)).1 at16 Tryz.underlying142 sz5 (by omega) (by omega)) (ol rfl (lo_loadE1 rfl ag5 at16) (oai rfl rfl (ow_nil (seqK_n (cw_region ?_)))))
    refine omi rfl rfl (ol rfl (lo_shl rfl rfl (by omega)) (omi rfl rfl (ol rfl (lo_conv_in rfl (by rw [Tryz.underlying5]; rfl) Tryz.underlying25 (rg_u64 (by omega))) ?_)))
    have := wr_u64 ((BitVec.ofInt (IntKind.bits .u64) (IntKind.wrap .u64 ((beN ((inRaw i (min bytes 8)).1.take k) : Int) * 2 ^ (min (8 : Int).toNat (IntKind.bits .u64)))) ||| BitVec.ofInt (IntKind.bits .u64) (c12.toNat : Int)).toNat)
    refine ol rfl (lo_or rfl rfl) (oai rfl rfl (ow_nil (blkK_n (seqK_n (cw_region ?_)))))
    refine ol rfl (lo_add rfl rfl (rg_i64 (by omega))) (omi rfl rfl (ow_nil ?_))
    refine next1 (k + 1) (upd_intro (upd_intro (mask_intro (by first | exact off_refl | (repeat (first | exact off_mask | refine off_upd rfl ?_ | refine off_mask2 rfl ?_)))) rfl) (congrArg (Value.int .u64) (num_step hc13 (by omega)))) (lmask_intro (by first | exact offl_refl | (repeat (first | exact offl_mask | refine offl_upd rfl ?_ | refine offl_mask2 rfl ?_)))) hl9 ?_ ?_
    · omega
    omega
  have p17 := df h10
  refine cw_exit (seqK_e (loopK_e (blkK_hit (seqK_n (cw_seq ?_)))))
  refine cw_region (omi rfl rfl (oai rfl rfl (ow_nil (seqK_n (cw_down (((HLe.refl _).trans hl6).trans hl9) ?_)))))
  refine cw_ret (fnK_r (res1 rfl (rv_t (v := .int _ _) rfl)) (.refl _) ?_)
  refine ⟨_, rfl, ?_⟩
  refine ⟨?_, rfl, rfl⟩
  simp only [inNum]
  rw [List.take_of_length_le (by omega)]
theorem in_Text (H : Hp) (i_b : Nat) (i : In) (most : Int) (most_r : -9223372036854775808 ≤ most ∧ most ≤ 9223372036854775807) : Pm Tryz.prog 132 #[.pointer (some ⟨i_b, 0, none⟩), .int .i64 most] H i_b (bx 237 (In.cells i)) (fun v H' o' => v = str ((inText i most).1) ∧ H = H' ∧ o' = bx 237 (In.cells ((inText i most).2))) := by
  refine pm_cw Tryz.func132 rfl Tryz.ntmps132 rfl (fun N => ?_)
  refine cw_seq (cw_region (ol rfl (lo_assign (v := str _) rfl) (ow_nil (seqK_n (cw_seq ?_)))))
  refine cw_region (ol rfl (lo_move (v := .pointer (some ⟨_, _, none⟩)) rfl) ?_)
  refine ow1 (op1_pm 0 rfl (in_Num _ i_b i 2 (by omega)) (en_f cb131 rfl) rfl ?_)
  rintro _ _ _ ⟨rfl, rfl, rfl⟩ _
  have := inNum_r i 2
  refine ol rfl (lo_conv_in rfl (by rw [Tryz.underlying25]; rfl) Tryz.underlying3 (rg_i64 (by omega))) (oai rfl rfl (ow_nil (seqK_n (cw_seq (cw_seq ?_)))))
  refine cw_region (omi rfl rfl (omi rfl rfl (ol rfl (lo_gtr rfl rfl) (ow_nil (seqK_n ?_)))))
  refine cw_cond rfl (fun h3 => ?_) (fun h3 => ?_)
  · have p4 := dt h3
    refine cw_region (ol rfl (lo_move (v := .pointer (some ⟨_, _, none⟩)) rfl) ?_)
    refine ow1 (op1_pm 0 rfl (in_Fail _ i_b ((inNum i 2).2) 5 (by omega)) (en_f cb134 rfl) rfl ?_)
    rintro _ _ _ ⟨rfl, rfl, rfl⟩ _
    refine ow_nil (seqK_n (cw_seq (cw_region (ol rfl (lo_move (v := .pointer (some ⟨_, _, none⟩)) rfl) (omi rfl rfl ?_)))))
    refine ow1 (op1_pm 0 rfl (in_Raw _ i_b (inFail ((inNum i 2).2) 5) ((inNum i 2).1) (by omega)) (en_f cb182 rfl) rfl ?_)
    rintro _ _ _ ⟨rfl, rfl, rfl⟩ _
    refine ol rfl (lo_assign (v := str _) rfl) (ow_nil (seqK_n (cw_ret (fnK_r (res1 rfl (rv_t (v := str _) rfl)) (.refl _) ?_))))
    refine ⟨_, rfl, ?_⟩
    refine ⟨?_, rfl, ?_⟩ <;> simp [inText, *]
  have p9 := df h3
  refine cw_skip (seqK_n (cw_seq (cw_region (ol rfl (lo_move (v := .pointer (some ⟨_, _, none⟩)) rfl) (omi rfl rfl ?_)))))
  refine ow1 (op1_pm 0 rfl (in_Raw _ i_b ((inNum i 2).2) ((inNum i 2).1) (by omega)) (en_f cb182 rfl) rfl ?_)
  rintro _ _ _ ⟨rfl, rfl, rfl⟩ _
  refine ol rfl (lo_assign (v := str _) rfl) (ow_nil (seqK_n (cw_ret (fnK_r (res1 rfl (rv_t (v := str _) rfl)) (.refl _) ?_))))
  refine ⟨_, rfl, ?_⟩
  refine ⟨?_, rfl, ?_⟩ <;> simp [inText, *]
end Go.SW
set_option linter.unusedVariables false
set_option maxRecDepth 100000
set_option maxHeartbeats 4000000
namespace Go.SW
open Go.Proofs
theorem ag142 : Ag Tryz.prog 142 false := fun w => by kernel_rfl
theorem ag219 : Ag Tryz.prog 219 true := fun w => by kernel_rfl
theorem by5 : By Tryz.prog 5 1 := by_of (by kernel_rfl)
theorem cb174 : Callable Tryz.prog 174 := callable_of Tryz.func174 (by kernel_rfl) (by kernel_rfl)
theorem cb59 : Callable Tryz.prog 59 := callable_of Tryz.func59 (by kernel_rfl) (by kernel_rfl)
theorem co5 : Tryz.prog.cellsOf 5 = 1 := by kernel_rfl
theorem fl144_1 : Fld Tryz.prog 144 1 1 := fun b o w => by kernel_rfl
theorem fl219_0 : Fld Tryz.prog 219 0 0 := fun b o w => by kernel_rfl
theorem mixd : Tryz.prog.follows .mixedOrders = true := by kernel_rfl
theorem sz142 : Sz Tryz.prog 142 1 := fun w => by kernel_rfl
theorem sz219 : Sz Tryz.prog 219 2 := fun w => by kernel_rfl
theorem zr144 : Zr Tryz.prog 144 [.pointer none, .slice none 0 0] := fun w => ⟨.agg #[.pointer none, .slice none 0 0], by kernel_rfl, rfl⟩
theorem zr219 : Zr Tryz.prog 219 [str [], .int .i64 0] := fun w => ⟨.agg #[str [], .int .i64 0], by kernel_rfl, rfl⟩
theorem zr5 : Zr Tryz.prog 5 [.int .u8 0] := fun w => ⟨.int .u8 0, by kernel_rfl, rfl⟩
theorem zx5 : ∃ z, ∀ w, (zeroValue 5).run Tryz.prog w = .ok z w := ⟨.int .u8 0, fun w => by kernel_rfl⟩
theorem out_Num (H : Hp) (o : Out) (n : Int) (n_r : 0 ≤ n ∧ n ≤ 18446744073709551615) (bytes : Int) (bytes_r : -9223372036854775808 ≤ bytes ∧ bytes ≤ 9223372036854775807) (hlen : o.s.length ≤ 4611686018427387904) : Pr Tryz.prog 117 #[.agg (Out.cells o).toArray, .int .u64 n, .int .i64 bytes] H (.agg (Out.cells (outNum o n bytes)).toArray) := by
  refine pr_cw Tryz.func117 rfl Tryz.ntmps117 rfl (fun N => ?_)
  refine cw_seq (cw_region (ow1 (op1_box (cs := [_, _]) 0 rfl rfl (fun b1 => ?_))))
  refine ow1 (op1_alloc 1 rfl zr219 (fun b2 => ?_))
  refine ow_nil (seqK_n (cw_seq (cw_region (ow1 (op1_alloc 2 rfl zr144 (fun b3 => ?_))))))
  refine ow_nil (seqK_n (cw_seq (cw_seq (cw_region (omi rfl rfl ?_)))))
  refine ol rfl (lo_max rfl rfl) (ol rfl (lo_min rfl rfl) (ol rfl (lo_sub rfl rfl (rg_i64 (by omega))) (oai rfl rfl (ow_nil (seqK_n ?_)))))
  refine cw_block ?_
  refine cw_loop5 [8, 13, 14, 15, 16, 17, 18, 19, 20, 21, 22] [2, 3, 4] (fun (j : Nat) (bs : Bs) (p : Value) (v : Value) (en : Option (Nat × Obj)) G => upd (G) 8 (.int .i64 ((j : Int) - 1))) (fun (j : Nat) (bs : Bs) (p : Value) (v : Value) (en : Option (Nat × Obj)) G => lupd (lupd (G) 2 (some (b3, bx 144 [p, v]))) 3 (en)) (fun (j : Nat) (bs : Bs) (p : Value) (v : Value) (en : Option (Nat × Obj)) H' => bs ++ numB j n.toNat = numB (numK bytes) n.toNat ∧ bs.length + j = numK bytes ∧ OwnV 1 5 v en bs.length (bs.map u8v) ∧ (bs.length = 0 → v = .slice none 0 0) ∧ (p = .pointer none ∨ p = .pointer (some ⟨b3, 0, none⟩))) (fun (j : Nat) (bs : Bs) (p : Value) (v : Value) (en : Option (Nat × Obj)) => j) (numK bytes) [] (.pointer none) (.slice none 0 0) none (upd_intro (mask_intro (by first | exact off_refl | (repeat (first | exact off_mask | refine off_upd rfl ?_ | refine off_mask2 rfl ?_)))) (congrArg (Value.int .i64) (show min (max bytes 0) 8 - 1 = ((numK bytes : Nat) : Int) - 1 by unfold numK; omega))) (lupd_intro (lupd_intro (lmask_intro offl_refl) rfl) rfl) ?_ ?_
  · exact ⟨rfl, by simp, ownV_nil, fun _ => rfl, .inl rfl⟩
  intro j bs p v en J5 JL5 H5 hp4 hl5
  obtain ⟨hk1, hk2, ho, hz, hpp⟩ := hp4
  have hk8 : numK bytes ≤ 8 := by unfold numK; omega
  refine cw_seq (cw_seq (cw_region (omi rfl rfl (ol rfl (lo_geq rfl rfl) (ow_nil ?_)))))
  refine seqK_n (cw_cond rfl (fun h6 => ?_) (fun h6 => ?_))
  · have p7 := dt h6
    refine cw_skip (seqK_n (cw_seq (cw_block (cw_region (omi rfl rfl ?_)))))
    refine omi rfl rfl (ol rfl (lo_mul rfl rfl (rg_i64 (by omega))) (ol rfl (lo_shr rfl rfl (by omega)) ?_))
    have := wr_u8 (Int.fdiv n (2 ^ (min ((8 * ((j : Int) - 1)) : Int).toNat (IntKind.bits .u64))))
    refine ol rfl (lo_conv rfl (by rw [Tryz.underlying25]; rfl) Tryz.underlying5) ?_
    refine ow1 (op1_in (en_f cb174 rfl) Tryz.func174 rfl Tryz.ntmps174 rfl rfl ?_)
    refine cw_seq (cw_region (ol rfl (lo_assign rfl) (ow_nil (seqK_n (cw_seq ?_)))))
    refine cw_region (ol rfl (lo_move (v := .pointer (some ⟨_, _, none⟩)) rfl) ?_)
    refine ow1 (copyCheck 2 rfl rfl hpp rfl ?_)
    refine ow_nil (seqK_n (cw_seq (cw_region (ol rfl (lo_move (v := .pointer (some ⟨_, _, none⟩)) rfl) (ol rfl (lo_move (v := .pointer (some ⟨_, _, none⟩)) rfl) ?_)))))
    refine ol rfl (lo_nilCheck rfl) (ol rfl (lo_fieldAddr rfl fl144_1) (ol rfl (lo_load1 (i := 2) rfl ag142 rfl rfl) (omi rfl rfl ?_)))
    refine ow1 (op1_bslice (cs := [_]) 4 rfl Tryz.underlying142 sz5 zx5 rfl ⟨rfl, rfl, trivial⟩ rfl rfl (by decide) (fun b8 => ?_))
    refine ow1 (op1_app 3 rfl rfl Tryz.underlying142 Tryz.underlying142 rfl sz5 by5 (by decide) zr5 ho (src_bx (i := 4) rfl rfl) (List.all_eq_true.1 rfl) rfl (by omega) rfl (fun v9 en10 ho11 => ?_))
    have ho12 := byte_app (bs := bs) ho11 (by first | rfl | simp) (wrap8r _)
    refine ol rfl (lo_nilCheck rfl) (ol rfl (lo_fieldAddr rfl fl144_1) ?_)
    refine ow1 (op1_store1 (i := 2) rfl rfl (ownV_one ho12) sz142 rfl rfl ?_)
    refine ow_nil (seqK_n (cw_seq (cw_region (ol rfl (lo_assign rfl) (ow_nil ?_)))))
    refine seqK_n (cw_ret (fnK_r (res1 rfl (rv_t rfl)) (.refl _) (ow_nil (blkK_n (seqK_n ?_)))))
    refine cw_region (omi rfl rfl (ol rfl (lo_sub rfl rfl (rg_i64 (by omega))) (oai rfl rfl (ow_nil ?_))))
    refine next5 (j - 1) (bs ++ [UInt8.ofNat ((IntKind.wrap .u8 (Int.fdiv n (2 ^ (min ((8 * ((j : Int) - 1)) : Int).toNat (IntKind.bits .u64)))))).toNat]) (.pointer (some ⟨b3, 0, none⟩)) v9 en10 (upd_intro (mask_intro (by first | exact off_refl | (repeat (first | exact off_mask | refine off_upd rfl ?_ | refine off_mask2 rfl ?_)))) (congrArg (Value.int .i64) (show ((j : Int) - 1) - 1 = ((j - 1 : Nat) : Int) - 1 by omega))) (lupd_intro (lupd_intro (lmask_intro (by first | exact offl_refl | (repeat (first | exact offl_mask | refine offl_upd rfl ?_ | refine offl_mask2 rfl ?_)))) rfl) rfl) hl5 ?_ ?_
    · refine ⟨?_, ?_, ho12, (nz_of ho12 (by simp)), .inr rfl⟩
      · rw [byte_of n_r.1 (by omega) (by omega), List.append_assoc, ← hk1]
        obtain ⟨q, rfl⟩ : ∃ q, j = q + 1 := ⟨j - 1, by omega⟩
        simp [numB]
      simp; omega
    omega
  have p13 := df h6
  refine cw_exit (seqK_e (loopK_e (blkK_hit (seqK_n (cw_seq ?_)))))
  refine cw_anyX 3 mixd (vw_q 0 rfl (by kernel_rfl) (by repeat (first | exact lle_l0 | exact LLe.refl _ | exact lle_none | refine lle_up ?_ rfl)) (fun _ _ hh hl => lo_fieldAddr rfl fl219_0) ?_)
  refine vw_q 1 rfl (by kernel_rfl) (by repeat (first | exact lle_l0 | exact LLe.refl _ | exact lle_none | refine lle_up ?_ rfl)) (fun _ _ hh hl => lo_load1 (i := 0) (v := str _) rfl ag9 (hl _ _ rfl) rfl) ?_
  refine vw_e 2 rfl (by kernel_rfl) (op1_in (en_f cb59 rfl) Tryz.func59 rfl Tryz.ntmps59 rfl rfl ?_)
  refine cw_seq (cw_region (ol rfl (lo_assign (v := str _) rfl) (ow_nil (seqK_n (cw_seq ?_)))))
  refine cw_anyX 3 mixd ?_
  refine vw_q 0 rfl (by kernel_rfl) (by repeat (first | exact lle_l0 | exact LLe.refl _ | exact lle_none | refine lle_up ?_ rfl)) (fun _ _ hh hl => lo_move (v := .pointer (some ⟨_, _, none⟩)) rfl) ?_
  refine vw_q 1 rfl (by kernel_rfl) (by repeat (first | exact lle_l0 | exact LLe.refl _ | exact lle_none | refine lle_up ?_ rfl)) (fun _ _ hh hl => lo_nilCheck rfl) ?_
  refine vw_q 2 rfl (by kernel_rfl) (by repeat (first | exact lle_l0 | exact LLe.refl _ | exact lle_none | refine lle_up ?_ rfl)) (fun _ _ hh hl => lo_fieldAddr rfl fl144_1) ?_
  refine vw_q 3 rfl (by kernel_rfl) (by repeat (first | exact lle_l0 | exact LLe.refl _ | exact lle_none | refine lle_up ?_ rfl)) (fun _ _ hh hl => lo_load1 (i := 2) rfl ag142 (hl _ _ rfl) rfl) ?_
  refine vw_q 4 rfl (by kernel_rfl) (by repeat (first | exact lle_l0 | exact LLe.refl _ | exact lle_none | refine lle_up ?_ rfl)) (fun _ _ hh hl => lo_usd rfl ho hz) ?_
  refine vw_q 5 rfl (by kernel_rfl) (by repeat (first | exact lle_l0 | exact LLe.refl _ | exact lle_none | refine lle_up ?_ rfl)) (fun _ _ hh hl => lo_move (v := .pointer (some ⟨_, _, none⟩)) rfl) ?_
  refine vw_q 6 rfl (by kernel_rfl) (by repeat (first | exact lle_l0 | exact LLe.refl _ | exact lle_none | refine lle_up ?_ rfl)) (fun _ _ hh hl => lo_nilCheck rfl) ?_
  refine vw_q 7 rfl (by kernel_rfl) (by repeat (first | exact lle_l0 | exact LLe.refl _ | exact lle_none | refine lle_up ?_ rfl)) (fun _ _ hh hl => lo_fieldAddr rfl fl144_1) ?_
  refine vw_q 8 rfl (by kernel_rfl) (by repeat (first | exact lle_l0 | exact LLe.refl _ | exact lle_none | refine lle_up ?_ rfl)) (fun _ _ hh hl => lo_load1 (i := 2) rfl ag142 (hl _ _ rfl) rfl) ?_
  refine vw_q 9 rfl (by kernel_rfl) (by repeat (first | exact lle_l0 | exact LLe.refl _ | exact lle_none | refine lle_up ?_ rfl)) (fun _ _ hh hl => lo_len_own rfl ho Tryz.underlying142) ?_
  refine vw_e 10 rfl (by kernel_rfl) (op1_ustr (l := bs) 3 rfl rfl Tryz.underlying230 co5 ho hz (by have hq := numB_len (numK bytes) n.toNat; simp [numK] at *; omega) rfl ?_)
  refine ⟨⟨(.refl _), (by repeat (first | exact lle_l0 | exact LLe.refl _ | exact lle_none | refine lle_up ?_ rfl))⟩, ?_⟩
  refine vw_q 11 rfl (by kernel_rfl) (by repeat (first | exact lle_l0 | exact LLe.refl _ | exact lle_none | refine lle_up ?_ rfl)) (fun _ _ hh hl => lo_assign (v := str _) rfl) ?_
  refine vw_done (by kernel_rfl) (seqK_n (cw_ret (fnK_r (res1 rfl (rv_t (v := str _) rfl)) (.refl _) ?_)))
  refine ⟨⟨(.refl _), (by repeat (first | exact lle_l0 | exact LLe.refl _ | exact lle_none | refine lle_up ?_ rfl))⟩, ?_⟩
  refine vw_q 3 rfl (by kernel_rfl) (by repeat (first | exact lle_l0 | exact LLe.refl _ | exact lle_none | refine lle_up ?_ rfl)) (fun _ _ hh hl => lo_cat rfl rfl (by have hq := numB_len (numK bytes) n.toNat; simp [numK] at *; omega)) ?_
  refine vw_q 4 rfl (by kernel_rfl) (by repeat (first | exact lle_l0 | exact LLe.refl _ | exact lle_none | refine lle_up ?_ rfl)) (fun _ _ hh hl => lo_fieldAddr rfl fl219_0) ?_
  refine vw_t 5 rfl (by kernel_rfl) (by kernel_rfl) (op1_store1 (i := 0) (v := str _) rfl rfl rfl sz9 rfl rfl ?_)
  refine vw_done (by kernel_rfl) (seqK_n (cw_seq (cw_region (ol rfl (lo_loadA (i := 0) (vs := [_, _]) rfl ag219 sz219 rfl rfl rfl) ?_))))
  refine ow1 (op1_storeA (i := 1) (vs := [_, _]) rfl rfl rfl sz219 rfl rfl rfl ?_)
  refine ow_nil (seqK_n (cw_ret (fnK_r (res1 rfl (rv_c (i := 1) (vs := [_, _]) rfl ag219 sz219 rfl rfl rfl)) ((HLe.refl _).trans hl5) ?_)))
  obtain rfl : j = 0 := by omega
  simp only [numB, List.append_nil] at hk1
  subst hk1
  rfl
end Go.SW
