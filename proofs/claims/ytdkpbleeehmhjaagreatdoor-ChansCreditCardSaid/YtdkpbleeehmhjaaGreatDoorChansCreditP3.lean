/-
  A part of the proof of ChansCredit: What words.Matches computes, in plain Lean: whether a key's words match a pattern's; the search that goes back to the last hash. What is read and written, in plain Lean: bytes that are read are those that would be written, and the other way round; heads and replies that are read. Replies that are read, in plain Lean; what is read would be written so; what is written is read again. What the document's reader holds is the program's, seen otherwise. Heads: what is read would be written so; what is written is read again. Lists held against each other; records that are the same; what is gone through, in plain Lean. Replies: what is read would be written so; what is written is read again. Frames: what is written is read again, behind whatever; a beginning of a frame is too short; bytes of frames that come in two pieces are those frames. What the document's reader does, told of what it stands for; names, keys, heads by the document. What the document says of keys, pairs, heads and replies, in plain Lean, and that it is what the program does. Heads that are read, more: what is read is a pair, or a head; what reads behind an error. What the functions of the layers 10 and 11 compute, in plain Lean: rules, methods. What the functions of the layers 13 and 26 (lives) compute, in plain Lean. What the small functions of layer 22 compute, in plain Lean. Exchanges, queues, bindings, deeds. What a deed's kind tells. What is wrong with a deed first, in plain Lean. A message's and a deed's bytes, and what is read of bytes, in plain Lean. The bytes of a message and of a deed, both ways, in plain Lean. What is small is gone through: aids for the document's bytes. Which messages and deeds are gone through. Records, printed by program: their cells, and what is read of them. Places in lists; books of exchanges, in plain Lean. Deeds packed; all deeds that are gone through. What is read of bytes is in its ranges. A deed that is read of bytes is in its ranges. Deeds that are written are read again, and no beginning of them is deeds. Deeds unpacked: how many, and that they are gone through. Drafts, in plain Lean. Records, printed by program: their cells, and what is read of them. Records, printed by program: what their cells stand for. Plain lemmas of the second generation: places found in lists. Answers told piece by piece: a call's answer, a part's answer, a branch; the meeting of several ways. Over any program that the table fits; each asks what it lists. Records, printed by program: what their cells stand for. Lists of lists, gone through; places in lists. Plain laws; each asks what it lists. The sum, bit by bit and four bits at a time. What functions answer, printed by program out of their walks: draft.Draft.Settles$1, draft.Draft.Settles, draft.clone, draft.Draft.check, draft.Draft.Len, stairwellref26.Settles, chans.New, chans.Chan.Credit, chans.Chan.Room, chans.Chan.of$1, chans.Chan.of, chans.Chan.Sure, chans.Chan.Put, chans.Chan.Number, chans.Chan.Draft, chans.Chan.D
-/
import Derived.Test.YtdkpbleeehmhjaaGreatDoorChansCreditP2
import Derived.Test.YtdkpbleeehmhjaaGreatDoorChansCreditP1
import Derived.Lib.IndexAny
import Derived.Shelf.LaysM
import Derived.Shelf.Strings.Split
import Derived.Test.YtdkpbleeehmhjaaGreatDoorProg
import Derived.KernelRfl
set_option linter.unusedVariables false
set_option linter.unusedSimpArgs false
namespace Go.SW
def mt : List Bs → List Bs → Bool
  | [], k => k.isEmpty
  | w :: p, k => if w = [35] then (List.range (k.length + 1)).any (fun f => mt p (k.drop f)) else match k with
    | [] => false
    | x :: r => (decide (w = [42]) || decide (w = x)) && mt p r
theorem mt_hash {p k : List Bs} : mt ([35] :: p) k = true ↔ ∃ f, mt p (k.drop f) = true := by
  simp only [mt, if_true, List.any_eq_true, List.mem_range]
  constructor
  · rintro ⟨f, _, h⟩; exact ⟨f, h⟩
  · rintro ⟨f, h⟩
    by_cases hf : f < k.length + 1
    · exact ⟨f, hf, h⟩
    · refine ⟨k.length, by omega, ?_⟩
      rw [List.drop_of_length_le (by omega)] at h
      rw [List.drop_of_length_le (by omega)]; exact h
theorem mt_cons {w : Bs} {p k : List Bs} (hw : w ≠ [35]) : mt (w :: p) k = true ↔ ∃ x r, k = x :: r ∧ (w = [42] ∨ w = x) ∧ mt p r = true := by
  simp only [mt, if_neg hw]
  cases k with
  | nil => simp
  | cons x r =>
    constructor
    · intro h; simp at h; exact ⟨x, r, rfl, h.1, h.2⟩
    · rintro ⟨x', r', e, h1, h2⟩; cases e; simp [h1, h2]
structure MI (p k : List Bs) (i j : Nat) (b : Int) (f : Nat) : Prop where
  hi : i ≤ p.length
  hj : j ≤ k.length
  hf : f ≤ j
  hb : -1 ≤ b
  hbi : b ≤ i
  no : b < 0 → (mt p k = true ↔ mt (p.drop i) (k.drop j) = true)
  seg : 0 ≤ b → j = f + (i - b.toNat)
  go : 0 ≤ b → (mt p k = true ↔ ∃ g, f ≤ g ∧ mt (p.drop b.toNat) (k.drop g) = true)
  fw : 0 ≤ b → ∀ g, mt (p.drop b.toNat) (k.drop g) = true → mt (p.drop i) (k.drop (g + (i - b.toNat))) = true
  bw : 0 ≤ b → mt (p.drop i) (k.drop j) = true → mt (p.drop b.toNat) (k.drop f) = true
theorem MI.start (p k : List Bs) : MI p k 0 0 (-1) 0 :=
  ⟨Nat.zero_le _, Nat.zero_le _, Nat.zero_le _, by omega, by omega, fun _ => by simp, fun h => absurd h (by decide), fun h => absurd h (by decide), fun h => absurd h (by decide), fun h => absurd h (by decide)⟩
theorem MI.hash {p k : List Bs} {i j f : Nat} {b : Int} (h : MI p k i j b f) (hp : p[i]? = some [35]) : MI p k (i + 1) j ((i : Int) + 1) j := by
  have hi : i < p.length := (List.getElem?_eq_some_iff.1 hp).1
  have hd := dropE hp
  have e1 : ((i : Int) + 1).toNat = i + 1 := by omega
  refine ⟨hi, h.hj, Nat.le_refl _, by omega, by omega, fun q => absurd q (by omega), fun _ => by omega, fun _ => ?_, fun _ g hg => ?_, fun _ hg => ?_⟩
  · rw [e1]
    by_cases hb : b < 0
    · rw [h.no hb, hd, mt_hash]
      constructor
      · rintro ⟨g, hg⟩; rw [List.drop_drop] at hg; exact ⟨j + g, by omega, hg⟩
      · rintro ⟨g, hle, hg⟩; refine ⟨g - j, ?_⟩; rw [List.drop_drop, show j + (g - j) = g by omega]; exact hg
    · have hs := h.seg (by omega)
      rw [h.go (by omega)]
      constructor
      · rintro ⟨g, hle, hg⟩
        have := h.fw (by omega) g hg
        rw [hd, mt_hash] at this
        obtain ⟨f', hf'⟩ := this
        rw [List.drop_drop] at hf'
        exact ⟨_, by omega, hf'⟩
      · rintro ⟨g, hle, hg⟩
        refine ⟨f, Nat.le_refl _, h.bw (by omega) ?_⟩
        rw [hd, mt_hash]
        refine ⟨g - j, ?_⟩
        rw [List.drop_drop, show j + (g - j) = g by omega]; exact hg
  · rw [e1] at hg ⊢; rw [Nat.sub_self]; exact hg
  · rw [e1]; exact hg
theorem MI.step {p k : List Bs} {i j f : Nat} {b : Int} {w x : Bs} (h : MI p k i j b f) (hp : p[i]? = some w) (hk : k[j]? = some x) (hw : w ≠ [35]) (hm : w = [42] ∨ w = x) : MI p k (i + 1) (j + 1) b f := by
  have hi : i < p.length := (List.getElem?_eq_some_iff.1 hp).1
  have hj : j < k.length := (List.getElem?_eq_some_iff.1 hk).1
  have hd := dropE hp
  have hkd := dropE hk
  have hbi := h.hbi
  have one : mt (p.drop i) (k.drop j) = true ↔ mt (p.drop (i + 1)) (k.drop (j + 1)) = true := by
    rw [hd, hkd, mt_cons hw]
    constructor
    · rintro ⟨x', r, e, _, hr⟩; cases e; exact hr
    · intro hr; exact ⟨_, _, rfl, hm, hr⟩
  refine ⟨hi, hj, by have := h.hf; omega, h.hb, by omega, fun q => (h.no q).trans one, fun q => by have := h.seg q; omega, h.go, fun q g hg => ?_, fun q hg => h.bw q (one.2 hg)⟩
  have := h.fw q g hg
  rw [hd, mt_cons hw] at this
  obtain ⟨x', r, e, _, hr⟩ := this
  have e2 : k.drop (g + (i + 1 - b.toNat)) = r := by
    rw [show g + (i + 1 - b.toNat) = (g + (i - b.toNat)) + 1 by omega, ← List.drop_drop, e]; rfl
  rw [e2]; exact hr
theorem MI.bad {p k : List Bs} {i j f : Nat} {b : Int} {x : Bs} (_ : MI p k i j b f) (hk : k[j]? = some x) (hm : ∀ w, p[i]? = some w → w ≠ [35] ∧ w ≠ [42] ∧ w ≠ x) : mt (p.drop i) (k.drop j) = false := by
  rw [dropE hk]
  cases hp : p[i]? with
  | none =>
    have : p.length ≤ i := List.getElem?_eq_none_iff.1 hp
    rw [List.drop_of_length_le this]; rfl
  | some w =>
    obtain ⟨h1, h2, h3⟩ := hm w hp
    rw [dropE hp]
    cases q : mt (w :: p.drop (i + 1)) (x :: k.drop (j + 1)) with
    | false => rfl
    | true =>
      obtain ⟨x', r, e, hh, _⟩ := (mt_cons h1).1 q
      cases e
      rcases hh with hh | hh
      · exact absurd hh h2
      · exact absurd hh h3
theorem MI.back {p k : List Bs} {i j f : Nat} {b : Int} {x : Bs} (h : MI p k i j b f) (hk : k[j]? = some x) (hb : 0 ≤ b) (hm : ∀ w, p[i]? = some w → w ≠ [35] ∧ w ≠ [42] ∧ w ≠ x) : MI p k b.toNat (f + 1) b (f + 1) := by
  have hj : j < k.length := (List.getElem?_eq_some_iff.1 hk).1
  have hbad := h.bad hk hm
  have h1 := h.hf
  have h2 := h.hi
  have h3 := h.hbi
  refine ⟨by omega, by omega, Nat.le_refl _, h.hb, by omega, fun q => absurd q (by omega), fun _ => by omega, fun _ => ?_, fun _ g hg => ?_, fun _ hg => hg⟩
  · rw [h.go hb]
    constructor
    · rintro ⟨g, hle, hg⟩
      by_cases e : g = f
      · subst e
        have := h.fw hb g hg
        rw [← h.seg hb, hbad] at this; cases this
      · exact ⟨g, by omega, hg⟩
    · rintro ⟨g, hle, hg⟩; exact ⟨g, by omega, hg⟩
  · rw [Nat.sub_self]; exact hg
theorem MI.none {p k : List Bs} {i j f : Nat} {b : Int} {x : Bs} (h : MI p k i j b f) (hk : k[j]? = some x) (hb : b < 0) (hm : ∀ w, p[i]? = some w → w ≠ [35] ∧ w ≠ [42] ∧ w ≠ x) : mt p k = false := by
  have hbad := h.bad hk hm
  cases q : mt p k with
  | false => rfl
  | true => rw [(h.no hb).1 q] at hbad; cases hbad
theorem MI.fin {p k : List Bs} {i j f : Nat} {b : Int} (h : MI p k i j b f) (hj : k.length ≤ j) : mt p k = mt (p.drop i) [] := by
  rw [Bool.eq_iff_iff]
  have e : k.drop j = [] := List.drop_of_length_le hj
  by_cases hb : b < 0
  · rw [h.no hb, e]
  · have hs := h.seg (by omega)
    rw [h.go (by omega)]
    constructor
    · rintro ⟨g, hle, hg⟩
      have := h.fw (by omega) g hg
      have e2 : k.drop (g + (i - b.toNat)) = [] := List.drop_of_length_le (by omega)
      rw [e2] at this; exact this
    · intro hg; exact ⟨f, Nat.le_refl _, h.bw (by omega) (by rw [e]; exact hg)⟩
theorem mt_end {p : List Bs} {i : Nat} {m : Bool} (h : m = mt (p.drop i) []) (hp : p[i]? = some [35]) : m = mt (p.drop (i + 1)) [] := by
  rw [h, dropE hp, Bool.eq_iff_iff, mt_hash]; simp
theorem mt_endN {p : List Bs} {i : Nat} {w : Bs} (hp : p[i]? = some w) (hw : w ≠ [35]) : mt (p.drop i) [] = false := by
  rw [dropE hp]; simp only [mt, if_neg hw]
def mmu (p k : List Bs) (j : Nat) (b : Int) (f : Nat) : Nat := (p.length + 1 - (b + 1).toNat) * ((k.length + 1) * (k.length + 1)) + (k.length - f) * (k.length + 1) + (k.length - j)
theorem mmu_hash {p k : List Bs} {i j f : Nat} {b : Int} (h : MI p k i j b f) (hi : i < p.length) : mmu p k j ((i : Int) + 1) j < mmu p k j b f := by
  have h1 := h.hbi
  have h2 := h.hb
  unfold mmu
  have e : p.length + 1 - (b + 1).toNat = (p.length + 1 - ((i : Int) + 1 + 1).toNat) + 1 + (p.length + 1 - (b + 1).toNat - ((p.length + 1 - ((i : Int) + 1 + 1).toNat) + 1)) := by omega
  have h3 : (k.length - j) * (k.length + 1) ≤ k.length * (k.length + 1) := Nat.mul_le_mul_right _ (Nat.sub_le _ _)
  have h4 : (k.length + 1) * (k.length + 1) = k.length * (k.length + 1) + (k.length + 1) := by rw [Nat.succ_mul]
  generalize (k.length + 1) * (k.length + 1) = q at *
  rw [e, Nat.add_mul, Nat.add_mul, Nat.one_mul]
  omega
theorem mmu_step {p k : List Bs} {j f : Nat} {b : Int} (hj : j < k.length) : mmu p k (j + 1) b f < mmu p k j b f := by
  unfold mmu; omega
theorem mmu_back {p k : List Bs} {j f : Nat} {b : Int} (hf : f ≤ j) (hj : j < k.length) : mmu p k (f + 1) b (f + 1) < mmu p k j b f := by
  unfold mmu
  have e : (k.length - f) * (k.length + 1) = (k.length - (f + 1)) * (k.length + 1) + (k.length + 1) := by
    rw [show k.length - f = (k.length - (f + 1)) + 1 by omega, Nat.succ_mul]
  rw [e]; omega
end Go.SW
namespace Go.SW
/-! Heads that are read -/
def readOne (i : In) : Pair × In :=
  let a := inText i 16
  let b := inNum a.2 1
  if b.1 = 0 then (⟨a.1, 0, IntKind.wrap .i64 (inNum b.2 8).1, []⟩, (inNum b.2 8).2)
  else if b.1 = 1 then (⟨a.1, 1, 0, (inText b.2 64).1⟩, (inText b.2 64).2)
  else if b.1 = 2 then (⟨a.1, 2, IntKind.wrap .i64 (inNum b.2 1).1, []⟩, (inNum b.2 1).2)
  else (⟨a.1, b.1, 0, []⟩, inFail b.2 8)
def readGo : Nat → In → List Pair → List Pair × In
  | 0, i, h => (h, i)
  | k + 1, i, h =>
    let p := readOne i
    let j := if p.2.err = 0 then inFail p.2 (pairErr p.1 h) else p.2
    if j.err ≠ 0 then ([], j) else readGo k j (h ++ [p.1])
def headRead (i : In) : List Pair × In := readGo (inNum i 1).1.toNat (if 8 < (inNum i 1).1 then inFail (inNum i 1).2 6 else (inNum i 1).2) []
end Go.SW
namespace Go.SW
def Mail.zero : Mail := ⟨0, [], [], [], [], 0, 0⟩
def Reply.zero : Reply := ⟨0, 0, 0, 0, false, [], Mail.zero⟩
/-- What a message that is sent tells. -/
def sentRead (i : In) : (Bool × Mail) × In :=
  let y := inNum i 1
  let shop := inText (if 1 < y.1 then inFail y.2 4 else y.2) 16
  let key := inText shop.2 64
  let head := headRead key.2
  let body := inText head.2 256
  ((decide (y.1 = 1), ⟨0, shop.1, key.1, head.1, body.1, 0, 0⟩), body.2)
def replyRead (c k : Int) (i : In) : Reply × In :=
  if k = 0 then (⟨c, k, 0, 0, false, (inText i 16).1, Mail.zero⟩, (inText i 16).2)
  else if k = 2 ∨ k = 5 ∨ k = 7 then (⟨c, k, (inNum i 8).1, 0, false, [], Mail.zero⟩, (inNum i 8).2)
  else if k = 6 then (⟨c, k, (inNum i 8).1, (inNum (inNum i 8).2 8).1, false, [], Mail.zero⟩, (inNum (inNum i 8).2 8).2)
  else if k = 3 then (⟨c, k, (inNum i 8).1, (inNum (inNum i 8).2 8).1, (sentRead (inNum (inNum i 8).2 8).2).1.1, [], (sentRead (inNum (inNum i 8).2 8).2).1.2⟩, (sentRead (inNum (inNum i 8).2 8).2).2)
  else (⟨c, k, 0, 0, false, [], Mail.zero⟩, i)
def replyOf (f : Frame) : Reply × Int :=
  if f.kind < 64 ∨ 71 < f.kind then (Reply.zero, 8)
  else
    let r := replyRead f.channel (f.kind - 64) ⟨f.body, 0⟩
    let e := if inEnd r.2 = 0 then replyE r.1 else inEnd r.2
    if e ≠ 0 then (Reply.zero, e) else (r.1, 0)
/-! What the document's reader holds -/
structure RIn where
  s : Bs
  pos : Int
  code : Int
def RIn.cells (i : RIn) : List Value := [str i.s, .int .i64 i.pos, .int .i64 i.code]
structure RSt (i : RIn) (I : In) : Prop where
  lo : 0 ≤ i.pos
  hi : i.pos ≤ i.s.length
  len : i.s.length ≤ 9223372036854775807
  err : I.err = i.code
  ok : i.code = 0 → I.s = i.s.drop i.pos.toNat
  bad : i.code ≠ 0 → I.s = []
def rFail (i : RIn) (c : Int) : RIn := if i.code = 0 then ⟨i.s, i.pos, c⟩ else i
end Go.SW
namespace Go.SW
def txtB (s : Bs) : Bs := numB 2 s.length ++ s
def pairB (p : Pair) : Bs := txtB p.key ++ (numB 1 p.kind.toNat ++ (if p.kind = 0 then numB 8 (IntKind.wrap .u64 p.num).toNat else if p.kind = 1 then txtB p.text else numB 1 (IntKind.wrap .u64 p.num).toNat))
theorem outText_s {o : Out} {s : Bs} (h : (s.length : Int) ≤ 65535) : outText o s = ⟨o.s ++ txtB s, o.err⟩ := by
  unfold outText
  rw [if_neg (by omega)]
  have e : numK 2 = 2 := by decide
  simp [outRaw, outNum, e, txtB]
theorem outNum_s {o : Out} {n : Int} {k : Nat} (h : k ≤ 8) : outNum o n k = ⟨o.s ++ numB k n.toNat, o.err⟩ := by
  simp only [outNum, numK]
  rw [show (min (max (k : Int) 0) 8).toNat = k by omega]
theorem outNum1 {o : Out} {n : Int} : outNum o n 1 = ⟨o.s ++ numB 1 n.toNat, o.err⟩ := outNum_s (k := 1) (by omega)
theorem outNum8 {o : Out} {n : Int} : outNum o n 8 = ⟨o.s ++ numB 8 n.toNat, o.err⟩ := outNum_s (k := 8) (by omega)
end Go.SW
namespace Go.SW
section
variable {α : Type} [DecidableEq α] {a b ra rb : List α} {x y : α} {k : Nat}
theorem eqL_len (h : ¬ (a.length : Int) = b.length) : decide (a = b) = false := by
  rw [decide_eq_false_iff_not]; rintro rfl; exact h rfl
theorem eqL_step (h : decide (a = b) = decide (a.drop k = b.drop k)) (ha : a.drop k = x :: ra) (hb : b.drop k = y :: rb) (e : x = y) : decide (a = b) = decide (ra = rb) := by
  rw [h, ha, hb, Bool.eq_iff_iff]; simp [e]
theorem eqL_miss (h : decide (a = b) = decide (a.drop k = b.drop k)) (ha : a.drop k = x :: ra) (hb : b.drop k = y :: rb) (e : ¬ x = y) : decide (a = b) = false := by
  rw [h, ha, hb, Bool.eq_iff_iff]; simp [e]
theorem eqL_end (h : decide (a = b) = decide (a.drop k = b.drop k)) (ha : a.length ≤ k) (hb : b.length ≤ k) : decide (a = b) = true := by
  rw [h, List.drop_of_length_le ha, List.drop_of_length_le hb]; simp
end
section
variable {α : Type} {p : α → Bool} {a r : List α} {x : α} {k : Nat}
end
theorem Mail.eq_iff {a b : Mail} : a = b ↔ a.id = b.id ∧ a.shop = b.shop ∧ a.key = b.key ∧ a.head = b.head ∧ a.body = b.body ∧ a.due = b.due ∧ a.hops = b.hops := by
  cases a; cases b; simp
theorem Reply.eq_iff {a b : Reply} : a = b ↔ a.channel = b.channel ∧ a.kind = b.kind ∧ a.n = b.n ∧ a.m = b.m ∧ a.yes = b.yes ∧ a.name = b.name ∧ a.mail = b.mail := by
  cases a; cases b; simp
/-! Light -/
def lightP (p : Pair) : Bool := decide (p.key.length ≤ 40) && decide (p.text.length ≤ 100)
def lightH (h : List Pair) : Bool := decide (h.length ≤ 12) && h.all lightP
def lightR (r : Reply) : Bool := decide (max (r.name.length : Int) (r.mail.shop.length : Int) ≤ 40) && decide ((r.mail.key.length : Int) ≤ 100) && lightH r.mail.head && decide ((r.mail.body.length : Int) ≤ 300)
end Go.SW
namespace Go.SW
def sentB (yes : Bool) (m : Mail) : Bs := numB 1 (if yes = true then (1 : Int) else 0).toNat ++ (txtB m.shop ++ (txtB m.key ++ (headBytes m.head ++ txtB m.body)))
end Go.SW
namespace Go.SW
def fSum (f : Frame) : Int := crcSum [numB 1 f.channel.toNat ++ (numB 1 f.kind.toNat ++ txtB f.body)]
def frB (f : Frame) : Bs := numB 1 f.channel.toNat ++ (numB 1 f.kind.toNat ++ (txtB f.body ++ (numB 4 (fSum f).toNat ++ numB 1 206)))
/-! Feeds: the bytes of frames, in two pieces -/
def catB (fs : List Frame) : Bs := fs.flatMap frB
def okF (f : Frame) : Prop := f.wf ∧ f.body.length ≤ 2048
end Go.SW
namespace Go.SW
/-! Words by the document -/
/-- No dot from f on up to k. -/
def noDot (s : Bs) (f k : Nat) : Prop := ∀ j, f ≤ j → j < k → ¬ s.getD j 0 = 46
def besidesOf (pattern : Bool) : List Bs := if pattern = true then [[42], [35]] else []
end Go.SW
namespace Go.SW
theorem txtB_len (s : Bs) : (txtB s).length = s.length + 2 := by simp [txtB, numB_len]; omega
def smallH (h : List Pair) : Prop := h.length ≤ 1000 ∧ ∀ p ∈ h, p.key.length ≤ 1000 ∧ p.text.length ≤ 1000
def r9B (h : List Pair) : Bs := numB 1 h.length ++ h.flatMap pairB
end Go.SW
namespace Go.SW
end Go.SW
namespace Go.SW
/-! What is told, by kind -/
def tellsT : List Bs := [[110], [], [], [65, 110, 120], [65], [65, 110, 109, 120], [65], [65, 79, 112, 104, 121], [65, 79, 112, 104, 121], [65, 79, 112, 104, 121], [65, 79, 112, 104, 121], [65, 107, 104, 109, 98], [110], [65, 110], [110], [65], [110, 109, 121], [], [], [], []]
abbrev tellsOf (k : Int) : Bs := tellsT.getD k.toNat []
def hasAny (s cs : Bs) : Bool := s.any cs.contains
/-! Layer 10 -/
structure Rule where
  sort : Int
  key : Bs
  want : List Pair
  all : Bool
deriving DecidableEq
def Rule.cells (r : Rule) (a : Option Addr) (c : Nat) : List Value := [.int .u8 r.sort, str r.key, .slice a r.want.length c, .bool r.all]
def Rule.wf (r : Rule) : Prop := (0 ≤ r.sort ∧ r.sort ≤ 255) ∧ r.key.length ≤ 9223372036854775807 ∧ r.want.length ≤ 9223372036854775807
theorem Rule.eq_iff {a b : Rule} : a = b ↔ a.sort = b.sort ∧ a.key = b.key ∧ a.want = b.want ∧ a.all = b.all := by
  cases a; cases b; simp
def patB : List Bs := [[42], [35]]
def ruleE (r : Rule) : Int :=
  if 3 < r.sort then 8
  else if r.sort = 0 then (if keyE [] r.key ≠ 0 then keyE [] r.key else headE r.want)
  else if keyE patB r.key ≠ 0 then keyE patB r.key else headE r.want
def hasP (h : List Pair) (p : Pair) : Bool := (findP h p.key).isSome && decide ((findP h p.key).getD Pair.zero = p)
def headsGo (all : Bool) (h : List Pair) : List Pair → Bool
  | [] => all
  | p :: l => if hasP h p then (if all then headsGo all h l else true) else if all then false else headsGo all h l
def goesR (r : Rule) (key : Bs) (h : List Pair) : Bool :=
  if r.sort = 0 then decide (key = r.key) else if r.sort = 2 then mt (wordsOf r.key) (wordsOf key) else if r.sort = 3 then headsGo r.all h r.want else true
/-! Layer 11 -/
structure Method where
  channel : Int
  kind : Int
  name : Bs
  other : Bs
  key : Bs
  head : List Pair
  body : Bs
  n : Int
  m : Int
  yes : Bool
deriving DecidableEq
def Method.cells (m : Method) (a : Option Addr) (c : Nat) : List Value := [.int .u8 m.channel, .int .u8 m.kind, str m.name, str m.other, str m.key, .slice a m.head.length c, str m.body, .int .u64 m.n, .int .u64 m.m, .bool m.yes]
def Method.wf (m : Method) : Prop := (0 ≤ m.channel ∧ m.channel ≤ 255) ∧ (0 ≤ m.kind ∧ m.kind ≤ 255) ∧ (0 ≤ m.n ∧ m.n ≤ 18446744073709551615) ∧ (0 ≤ m.m ∧ m.m ≤ 18446744073709551615) ∧ m.name.length ≤ 9223372036854775807 ∧ m.other.length ≤ 9223372036854775807 ∧ m.key.length ≤ 9223372036854775807 ∧ m.head.length ≤ 9223372036854775807 ∧ m.body.length ≤ 9223372036854775807
theorem Method.eq_iff {a b : Method} : a = b ↔ a.channel = b.channel ∧ a.kind = b.kind ∧ a.name = b.name ∧ a.other = b.other ∧ a.key = b.key ∧ a.head = b.head ∧ a.body = b.body ∧ a.n = b.n ∧ a.m = b.m ∧ a.yes = b.yes := by
  cases a; cases b; simp
def hasK (m : Method) (cs : Bs) : Bool := hasAny (tellsOf m.kind) cs
def spareMt (m : Method) : Bool :=
  !decide (m.name = []) && !hasK m [65] || !decide (m.other = []) && !hasK m [79, 120] || !decide (m.key = []) && !hasK m [107, 112] ||
  decide ((0 : Int) < m.head.length) && !hasK m [104] || !decide (m.body = []) && !hasK m [98] ||
  !decide (m.n = 0) && !hasK m [110] || !decide (m.m = 0) && !hasK m [109] || m.yes && !hasK m [121]
def oneE (m : Method) (c : Int) : Int :=
  if c = 65 then nameE m.name
  else if c = 120 then (if m.other = [] then 0 else nameE m.other)
  else if c = 79 then nameE m.other
  else if c = 107 then keyE [] m.key
  else if c = 112 then keyE patB m.key
  else if c = 104 then headE m.head
  else if c = 98 then (if (256 : Int) < m.body.length then 5 else 0)
  else 0
def ckGo (m : Method) : Bs → Int
  | [] => 0
  | c :: l => if oneE m (c.toNat : Int) ≠ 0 then oneE m (c.toNat : Int) else ckGo m l
def methodE (m : Method) : Int := if 20 < m.kind then 8 else if spareMt m then 4 else ckGo m (tellsOf m.kind)
theorem headGo_r : ∀ (l a : List Pair), 0 ≤ headGo a l ∧ headGo a l ≤ 15
  | [], a => by simp [headGo]
  | p :: l, a => by
    have h1 := pairErr_r p a
    have h2 := headGo_r l (a ++ [p])
    simp only [headGo]
    split <;> omega
theorem headE_r (h : List Pair) : 0 ≤ headE h ∧ headE h ≤ 15 := by
  have := headGo_r h []
  unfold headE
  split <;> omega
def mOut1 (m : Method) (o : Out) (c : Int) : Out :=
  if c = 65 then outText o m.name
  else if c = 120 ∨ c = 79 then outText o m.other
  else if c = 107 ∨ c = 112 then outText o m.key
  else if c = 104 then outRaw o (headBytes m.head)
  else if c = 98 then outText o m.body
  else if c = 110 then outNum o m.n 8
  else if c = 109 then outNum o m.m 8
  else if c = 121 then outNum o (if m.yes = true then 1 else 0) 1
  else o
def mOutGo (m : Method) (o : Out) (l : Bs) : Out := l.foldl (fun o c => mOut1 m o (c.toNat : Int)) o
def methodFrame (m : Method) : Frame := if methodE m = 0 then ⟨m.channel, m.kind, (mOutGo m ⟨[], 0⟩ (tellsOf m.kind)).s⟩ else Frame.zero
def lightMt (m : Method) : Bool := decide (max (m.name.length : Int) (m.other.length : Int) ≤ 40) && decide ((m.key.length : Int) ≤ 100) && lightH m.head && decide ((m.body.length : Int) ≤ 300)
end Go.SW
namespace Go.SW
/-! Layer 13 -/
def mailC (m : Mail) : Int :=
  if nameE m.shop ≠ 0 then nameE m.shop else if keyE [] m.key ≠ 0 then keyE [] m.key else if headE m.head ≠ 0 then headE m.head else if (256 : Int) < m.body.length then 5 else if 4 < m.hops then 7 else 0
theorem keyE_r (b : List Bs) (s : Bs) : 0 ≤ keyE b s ∧ keyE b s ≤ 15 := by
  unfold keyE
  repeat' split
  all_goals omega
theorem mailC_r (m : Mail) : 0 ≤ mailC m ∧ mailC m ≤ 15 := by
  have h1 := nameE_r m.shop
  have h2 := keyE_r [] m.key
  have h3 := headE_r m.head
  unfold mailC
  repeat' split
  all_goals omega
theorem mailC_ok {m : Mail} (h : mailC m = 0) : m.shop.length ≤ 16 ∧ m.key.length ≤ 64 ∧ headE m.head = 0 ∧ m.body.length ≤ 256 ∧ m.hops ≤ 4 := by
  unfold mailC at h
  have h1 : nameE m.shop = 0 := by
    by_cases e : nameE m.shop = 0
    · exact e
    · rw [if_pos e] at h; exact absurd h e
  rw [if_neg (by omega)] at h
  have h2 : keyE [] m.key = 0 := by
    by_cases e : keyE [] m.key = 0
    · exact e
    · rw [if_pos e] at h; exact absurd h e
  rw [if_neg (by omega)] at h
  have h3 : headE m.head = 0 := by
    by_cases e : headE m.head = 0
    · exact e
    · rw [if_pos e] at h; exact absurd h e
  rw [if_neg (by omega)] at h
  have a := nameE_ok h1
  have b := keyE_ok h2
  split at h
  · cases h
  · split at h
    · cases h
    · exact ⟨a, b, h3, by omega, by omega⟩
def mailOut (m : Mail) : Out := outNum (outNum (outText (outRaw (outText (outText (outNum ⟨[], 0⟩ m.id 8) m.shop) m.key) (headBytes m.head)) m.body) m.due 8) m.hops 1
def mailBytes (m : Mail) : Bs := if mailC m = 0 then (mailOut m).s else []
/-! Layer 26 -/
def lifeN (t l : Int) : Int := if l = 0 ∨ 18446744073709551615 - t < l then 0 else t + l
end Go.SW
namespace Go.SW
def maybeE (s : Bs) : Int := if s = [] then 0 else nameE s
theorem maybeE_r (s : Bs) : 0 ≤ maybeE s ∧ maybeE s ≤ 15 := by
  have := nameE_r s
  unfold maybeE
  split <;> omega
def boundE (b : Bool) (e : Int) : Int := if b = true then e else 0
def bitN (b : Bool) : Int := if b = true then 1 else 0
end Go.SW
namespace Go.SW
structure ShopR where
  name : Bs
  sort : Int
  to : Bs
deriving DecidableEq
def ShopR.cells (x : ShopR) : List Value := [str x.name, .int .u8 x.sort, str x.to]
def ShopR.wf (x : ShopR) : Prop := x.name.length ≤ 9223372036854775807 ∧ (0 ≤ x.sort ∧ x.sort ≤ 255) ∧ x.to.length ≤ 9223372036854775807
structure QueueR where
  name : Bs
  most : Int
  life : Int
  dead : Bs
deriving DecidableEq
def QueueR.cells (x : QueueR) : List Value := [str x.name, .int .u64 x.most, .int .u64 x.life, str x.dead]
def QueueR.wf (x : QueueR) : Prop := x.name.length ≤ 9223372036854775807 ∧ (0 ≤ x.most ∧ x.most ≤ 18446744073709551615) ∧ (0 ≤ x.life ∧ x.life ≤ 18446744073709551615) ∧ x.dead.length ≤ 9223372036854775807
structure BindR where
  shop : Bs
  to : Bs
  up : Bool
  key : Bs
  want : List Pair
  all : Bool
deriving DecidableEq
def BindR.cells (x : BindR) (a : Option Addr) (c : Nat) : List Value := [str x.shop, str x.to, .bool x.up, str x.key, .slice a x.want.length c, .bool x.all]
def BindR.wf (x : BindR) : Prop := x.shop.length ≤ 9223372036854775807 ∧ x.to.length ≤ 9223372036854775807 ∧ x.key.length ≤ 9223372036854775807 ∧ x.want.length ≤ 9223372036854775807
theorem BindR.eq_iff {a b : BindR} : a = b ↔ a.shop = b.shop ∧ a.to = b.to ∧ a.up = b.up ∧ a.key = b.key ∧ a.want = b.want ∧ a.all = b.all := by
  cases a; cases b; simp
structure DeedR where
  kind : Int
  tick : Int
  shop : ShopR
  queue : QueueR
  bind : BindR
  name : Bs
  id : Int
  how : Int
  frm : Int
  code : Int
  number : Int
  mail : Mail
  text : Bs
deriving DecidableEq
def DeedR.cells (d : DeedR) (a : Option Addr) (c : Nat) (a' : Option Addr) (c' : Nat) : List Value :=
  [.int .u8 d.kind, .int .u64 d.tick, str d.shop.name, .int .u8 d.shop.sort, str d.shop.to, str d.queue.name, .int .u64 d.queue.most, .int .u64 d.queue.life, str d.queue.dead,
   str d.bind.shop, str d.bind.to, .bool d.bind.up, str d.bind.key, .slice a d.bind.want.length c, .bool d.bind.all, str d.name, .int .u64 d.id, .int .u8 d.how, .int .u8 d.frm, .int .u8 d.code, .int .u64 d.number,
   .int .u64 d.mail.id, str d.mail.shop, str d.mail.key, .slice a' d.mail.head.length c', str d.mail.body, .int .u64 d.mail.due, .int .u8 d.mail.hops, str d.text]
def DeedR.wf (d : DeedR) : Prop := (0 ≤ d.kind ∧ d.kind ≤ 255) ∧ (0 ≤ d.tick ∧ d.tick ≤ 18446744073709551615) ∧ d.shop.wf ∧ d.queue.wf ∧ d.bind.wf ∧ d.name.length ≤ 9223372036854775807 ∧ (0 ≤ d.id ∧ d.id ≤ 18446744073709551615) ∧ (0 ≤ d.how ∧ d.how ≤ 255) ∧ (0 ≤ d.frm ∧ d.frm ≤ 255) ∧ (0 ≤ d.code ∧ d.code ≤ 255) ∧ (0 ≤ d.number ∧ d.number ≤ 18446744073709551615) ∧ d.mail.wf ∧ d.text.length ≤ 9223372036854775807
theorem DeedR.eq_iff {a b : DeedR} : a = b ↔ a.kind = b.kind ∧ a.tick = b.tick ∧ a.shop = b.shop ∧ a.queue = b.queue ∧ a.bind = b.bind ∧ a.name = b.name ∧ a.id = b.id ∧ a.how = b.how ∧ a.frm = b.frm ∧ a.code = b.code ∧ a.number = b.number ∧ a.mail = b.mail ∧ a.text = b.text := by
  cases a; cases b; simp
end Go.SW
namespace Go.SW
def ShopR.zero : ShopR := ⟨[], 0, []⟩
def QueueR.zero : QueueR := ⟨[], 0, 0, []⟩
def BindR.zero : BindR := ⟨[], [], false, [], [], false⟩
def toldD (d : DeedR) : DeedR :=
  ⟨d.kind, d.tick, if d.kind = 0 then d.shop else .zero, if d.kind = 2 then d.queue else .zero, if d.kind = 4 ∨ d.kind = 5 then d.bind else .zero,
   if d.kind = 1 ∨ d.kind = 3 ∨ d.kind = 7 ∨ d.kind = 8 then d.name else [], if d.kind = 8 then d.id else 0, if d.kind = 8 then d.how else 0, if d.kind = 10 then d.frm else 0, if d.kind = 12 then d.code else 0, if d.kind = 10 then d.number else 0,
   if d.kind = 6 ∨ d.kind = 10 then d.mail else .zero, if d.kind = 12 then d.text else []⟩
end Go.SW
namespace Go.SW
def firstE : List Int → Int
  | [] => 0
  | a :: l => if a ≠ 0 then a else firstE l
theorem firstE_r : ∀ (l : List Int), (∀ a ∈ l, 0 ≤ a ∧ a ≤ 15) → 0 ≤ firstE l ∧ firstE l ≤ 15
  | [], _ => ⟨Int.le_refl _, by simp [firstE]⟩
  | a :: l, h => by
    unfold firstE
    split
    · exact h a (List.mem_cons_self ..)
    · exact firstE_r l fun b hb => h b (List.mem_cons_of_mem _ hb)
def deedE (d : DeedR) : Int :=
  if 12 < d.kind then 8 else if d ≠ toldD d then 4
  else if d.kind = 0 then firstE [nameE d.shop.name, boundE (decide (4 < d.shop.sort)) 8, maybeE d.shop.to]
  else if d.kind = 2 then firstE [nameE d.queue.name, maybeE d.queue.dead]
  else if d.kind = 4 ∨ d.kind = 5 then firstE [nameE d.bind.shop, nameE d.bind.to, boundE (decide ((64 : Int) < d.bind.key.length)) 5, headE d.bind.want]
  else if d.kind = 6 ∨ d.kind = 10 then mailC d.mail
  else if d.kind = 9 ∨ d.kind = 11 then 0
  else if d.kind = 12 then boundE (decide ((64 : Int) < d.text.length)) 5
  else firstE [nameE d.name, boundE (decide (2 < d.how)) 7]
theorem boundE_0 {b : Bool} {e : Int} (he : e ≠ 0) (h : boundE b e = 0) : b = false := by
  cases b with
  | false => rfl
  | true => exact absurd h he
theorem firstE_cons {a : Int} {l : List Int} (h : firstE (a :: l) = 0) : a = 0 ∧ firstE l = 0 := by
  unfold firstE at h
  split at h
  · rename_i q; exact absurd h q
  · rename_i q; exact ⟨by omega, h⟩
theorem maybeE_ok {s : Bs} (h : maybeE s = 0) : s.length ≤ 16 := by
  unfold maybeE at h
  split at h
  · rename_i q; subst q; simp
  · exact nameE_ok h
theorem boundE_r {b : Bool} {e : Int} (h : 0 ≤ e ∧ e ≤ 15) : 0 ≤ boundE b e ∧ boundE b e ≤ 15 := by
  unfold boundE; split <;> omega
theorem deedE_r (d : DeedR) : 0 ≤ deedE d ∧ deedE d ≤ 15 := by
  have hb : ∀ b, 0 ≤ boundE b 8 ∧ boundE b 8 ≤ 15 := fun b => boundE_r (by omega)
  have hb5 : ∀ b, 0 ≤ boundE b 5 ∧ boundE b 5 ≤ 15 := fun b => boundE_r (by omega)
  have hb7 : ∀ b, 0 ≤ boundE b 7 ∧ boundE b 7 ≤ 15 := fun b => boundE_r (by omega)
  unfold deedE
  repeat' split
  all_goals first
    | omega
    | exact mailC_r _
    | exact hb5 _
    | (refine firstE_r _ fun a ha => ?_
       simp only [List.mem_cons, List.not_mem_nil, or_false] at ha
       first
         | (rcases ha with rfl | rfl | rfl | rfl <;> first | exact nameE_r _ | exact maybeE_r _ | exact headE_r _ | exact hb _ | exact hb5 _ | exact hb7 _)
         | (rcases ha with rfl | rfl | rfl <;> first | exact nameE_r _ | exact maybeE_r _ | exact headE_r _ | exact hb _ | exact hb5 _ | exact hb7 _)
         | (rcases ha with rfl | rfl <;> first | exact nameE_r _ | exact maybeE_r _ | exact headE_r _ | exact hb _ | exact hb5 _ | exact hb7 _))
/-- What may be is small. -/
structure DeedOk (d : DeedR) : Prop where
  told : d = toldD d
  kind : d.kind ≤ 12
  sname : d.shop.name.length ≤ 16
  sto : d.shop.to.length ≤ 16
  ssort : d.shop.sort ≤ 4
  qname : d.queue.name.length ≤ 16
  qdead : d.queue.dead.length ≤ 16
  bshop : d.bind.shop.length ≤ 16
  bto : d.bind.to.length ≤ 16
  bkey : d.bind.key.length ≤ 64
  bwant : headE d.bind.want = 0
  name : d.name.length ≤ 16
  how : d.how ≤ 2
  mshop : d.mail.shop.length ≤ 16
  mkey : d.mail.key.length ≤ 64
  mhead : headE d.mail.head = 0
  mbody : d.mail.body.length ≤ 256
  mhops : d.mail.hops ≤ 4
  text : d.text.length ≤ 64
theorem deedE_ok {d : DeedR} (hk : 0 ≤ d.kind) (h : deedE d = 0) : DeedOk d := by
  unfold deedE at h
  by_cases k : 12 < d.kind
  · rw [if_pos k] at h; exact absurd h (by decide)
  rw [if_neg k] at h
  by_cases t : d = toldD d
  case neg => rw [if_pos t] at h; exact absurd h (by decide)
  rw [if_neg (by simpa using t)] at h
  have hc : d.kind = 0 ∨ d.kind = 1 ∨ d.kind = 2 ∨ d.kind = 3 ∨ d.kind = 4 ∨ d.kind = 5 ∨ d.kind = 6 ∨ d.kind = 7 ∨ d.kind = 8 ∨ d.kind = 9 ∨ d.kind = 10 ∨ d.kind = 11 ∨ d.kind = 12 := by omega
  have e1 : d.shop = (toldD d).shop := congrArg DeedR.shop t
  have e2 : d.queue = (toldD d).queue := congrArg DeedR.queue t
  have e3 : d.bind = (toldD d).bind := congrArg DeedR.bind t
  have e4 : d.name = (toldD d).name := congrArg DeedR.name t
  have e5 : d.how = (toldD d).how := congrArg DeedR.how t
  have e6 : d.mail = (toldD d).mail := congrArg DeedR.mail t
  have e7 : d.text = (toldD d).text := congrArg DeedR.text t
  simp only [toldD] at e1 e2 e3 e4 e5 e6 e7
  have zs : ∀ {s : ShopR}, s = .zero → s.name.length ≤ 16 ∧ s.to.length ≤ 16 ∧ s.sort ≤ 4 := fun e => by subst e; decide
  have zq : ∀ {s : QueueR}, s = .zero → s.name.length ≤ 16 ∧ s.dead.length ≤ 16 := fun e => by subst e; decide
  have zb : ∀ {s : BindR}, s = .zero → s.shop.length ≤ 16 ∧ s.to.length ≤ 16 ∧ s.key.length ≤ 64 ∧ headE s.want = 0 := fun e => by subst e; decide
  have zm : ∀ {s : Mail}, s = .zero → s.shop.length ≤ 16 ∧ s.key.length ≤ 64 ∧ headE s.head = 0 ∧ s.body.length ≤ 256 ∧ s.hops ≤ 4 := fun e => by subst e; decide
  have zn : ∀ {s : Bs}, s = [] → s.length ≤ 16 := fun e => by subst e; decide
  have zt : ∀ {s : Bs}, s = [] → s.length ≤ 64 := fun e => by subst e; decide
  have zh : ∀ {s : Int}, s = 0 → s ≤ 2 := fun e => by subst e; decide
  have mk : (d.shop.name.length ≤ 16 ∧ d.shop.to.length ≤ 16 ∧ d.shop.sort ≤ 4) → (d.queue.name.length ≤ 16 ∧ d.queue.dead.length ≤ 16) → (d.bind.shop.length ≤ 16 ∧ d.bind.to.length ≤ 16 ∧ d.bind.key.length ≤ 64 ∧ headE d.bind.want = 0) → d.name.length ≤ 16 → d.how ≤ 2 →
      (d.mail.shop.length ≤ 16 ∧ d.mail.key.length ≤ 64 ∧ headE d.mail.head = 0 ∧ d.mail.body.length ≤ 256 ∧ d.mail.hops ≤ 4) → d.text.length ≤ 64 → DeedOk d :=
    fun a b c e f g i => ⟨t, by omega, a.1, a.2.1, a.2.2, b.1, b.2, c.1, c.2.1, c.2.2.1, c.2.2.2, e, f, g.1, g.2.1, g.2.2.1, g.2.2.2.1, g.2.2.2.2, i⟩
  rcases hc with q | q | q | q | q | q | q | q | q | q | q | q | q <;> simp only [q] at e1 e2 e3 e4 e5 e6 e7 h <;> simp (config := { failIfUnchanged := false }) at e1 e2 e3 e4 e5 e6 e7 h
  · obtain ⟨h1, h⟩ := firstE_cons h
    obtain ⟨h2, h⟩ := firstE_cons h
    obtain ⟨h3, h⟩ := firstE_cons h
    have := boundE_0 (by decide) h2
    exact mk ⟨nameE_ok h1, maybeE_ok h3, by have := of_decide_eq_false this; omega⟩ (zq e2) (zb e3) (zn e4) (zh e5) (zm e6) (zt e7)
  · exact mk (zs e1) (zq e2) (zb e3) (nameE_ok (firstE_cons h).1) (zh e5) (zm e6) (zt e7)
  · obtain ⟨h1, h⟩ := firstE_cons h
    exact mk (zs e1) ⟨nameE_ok h1, maybeE_ok (firstE_cons h).1⟩ (zb e3) (zn e4) (zh e5) (zm e6) (zt e7)
  · exact mk (zs e1) (zq e2) (zb e3) (nameE_ok (firstE_cons h).1) (zh e5) (zm e6) (zt e7)
  · obtain ⟨h1, h⟩ := firstE_cons h
    obtain ⟨h2, h⟩ := firstE_cons h
    obtain ⟨h3, h⟩ := firstE_cons h
    have := of_decide_eq_false (boundE_0 (by decide) h3)
    exact mk (zs e1) (zq e2) ⟨nameE_ok h1, nameE_ok h2, by omega, (firstE_cons h).1⟩ (zn e4) (zh e5) (zm e6) (zt e7)
  · obtain ⟨h1, h⟩ := firstE_cons h
    obtain ⟨h2, h⟩ := firstE_cons h
    obtain ⟨h3, h⟩ := firstE_cons h
    have := of_decide_eq_false (boundE_0 (by decide) h3)
    exact mk (zs e1) (zq e2) ⟨nameE_ok h1, nameE_ok h2, by omega, (firstE_cons h).1⟩ (zn e4) (zh e5) (zm e6) (zt e7)
  · exact mk (zs e1) (zq e2) (zb e3) (zn e4) (zh e5) (mailC_ok h) (zt e7)
  · exact mk (zs e1) (zq e2) (zb e3) (nameE_ok (firstE_cons h).1) (zh e5) (zm e6) (zt e7)
  · obtain ⟨h1, h⟩ := firstE_cons h
    have := of_decide_eq_false (boundE_0 (by decide) (firstE_cons h).1)
    exact mk (zs e1) (zq e2) (zb e3) (nameE_ok h1) (by omega) (zm e6) (zt e7)
  · exact mk (zs e1) (zq e2) (zb e3) (zn e4) (zh e5) (zm e6) (zt e7)
  · exact mk (zs e1) (zq e2) (zb e3) (zn e4) (zh e5) (mailC_ok h) (zt e7)
  · exact mk (zs e1) (zq e2) (zb e3) (zn e4) (zh e5) (zm e6) (zt e7)
  · have := of_decide_eq_false (boundE_0 (by decide) h)
    exact mk (zs e1) (zq e2) (zb e3) (zn e4) (zh e5) (zm e6) (by omega)
end Go.SW
namespace Go.SW
def deedOut (d : DeedR) : Out :=
  if d.kind = 0 then outText (outNum (outText (outNum (outNum ⟨[], 0⟩ d.kind 1) d.tick 8) d.shop.name) d.shop.sort 1) d.shop.to
  else if d.kind = 2 then outText (outNum (outNum (outText (outNum (outNum ⟨[], 0⟩ d.kind 1) d.tick 8) d.queue.name) d.queue.most 8) d.queue.life 8) d.queue.dead
  else if d.kind = 4 ∨ d.kind = 5 then outNum (outRaw (outText (outNum (outText (outText (outNum (outNum ⟨[], 0⟩ d.kind 1) d.tick 8) d.bind.shop) d.bind.to) (bitN d.bind.up) 1) d.bind.key) (headBytes d.bind.want)) (bitN d.bind.all) 1
  else if d.kind = 6 then outRaw (outNum (outNum ⟨[], 0⟩ d.kind 1) d.tick 8) (mailBytes d.mail)
  else if d.kind = 1 ∨ d.kind = 3 ∨ d.kind = 7 then outText (outNum (outNum ⟨[], 0⟩ d.kind 1) d.tick 8) d.name
  else if d.kind = 8 then outNum (outNum (outText (outNum (outNum ⟨[], 0⟩ d.kind 1) d.tick 8) d.name) d.id 8) d.how 1
  else if d.kind = 10 then outRaw (outNum (outNum (outNum (outNum ⟨[], 0⟩ d.kind 1) d.tick 8) d.frm 1) d.number 8) (mailBytes d.mail)
  else if d.kind = 12 then outText (outNum (outNum (outNum ⟨[], 0⟩ d.kind 1) d.tick 8) d.code 1) d.text
  else outNum (outNum ⟨[], 0⟩ d.kind 1) d.tick 8
def deedBytes (d : DeedR) : Bs := if deedE d = 0 then (deedOut d).s else []
def mailB (m : Mail) : Bs := numB 8 m.id.toNat ++ (txtB m.shop ++ (txtB m.key ++ (r9B m.head ++ (txtB m.body ++ (numB 8 m.due.toNat ++ numB 1 m.hops.toNat)))))
def deedB (d : DeedR) : Bs :=
  numB 1 d.kind.toNat ++ (numB 8 d.tick.toNat ++ (
  if d.kind = 0 then txtB d.shop.name ++ (numB 1 d.shop.sort.toNat ++ txtB d.shop.to)
  else if d.kind = 2 then txtB d.queue.name ++ (numB 8 d.queue.most.toNat ++ (numB 8 d.queue.life.toNat ++ txtB d.queue.dead))
  else if d.kind = 4 ∨ d.kind = 5 then txtB d.bind.shop ++ (txtB d.bind.to ++ (numB 1 (bitN d.bind.up).toNat ++ (txtB d.bind.key ++ (r9B d.bind.want ++ numB 1 (bitN d.bind.all).toNat))))
  else if d.kind = 6 then mailB d.mail
  else if d.kind = 8 then txtB d.name ++ (numB 8 d.id.toNat ++ numB 1 d.how.toNat)
  else if d.kind = 9 ∨ d.kind = 11 then []
  else if d.kind = 10 then numB 1 d.frm.toNat ++ (numB 8 d.number.toNat ++ mailB d.mail)
  else if d.kind = 12 then numB 1 d.code.toNat ++ txtB d.text
  else txtB d.name))
def mailRead (i : In) : Mail × In :=
  let a := inNum i 8
  let b := inText a.2 16
  let c := inText b.2 64
  let h := headRead c.2
  let e := inText h.2 256
  let f := inNum e.2 8
  let g := inNum f.2 1
  let m : Mail := ⟨a.1, b.1, c.1, h.1, e.1, f.1, g.1⟩
  let j := if g.2.err = 0 then inFail g.2 (mailC m) else g.2
  if j.err = 0 then (m, j) else (Mail.zero, j)
def DeedR.blank (k t : Int) : DeedR := ⟨k, t, .zero, .zero, .zero, [], 0, 0, 0, 0, 0, .zero, []⟩
def bindRead (i : In) : BindR × In :=
  let a := inText i 16
  let b := inText a.2 16
  let u := inNum b.2 1
  let k := inText u.2 64
  let h := headRead k.2
  let l := inNum h.2 1
  (⟨a.1, b.1, decide (u.1 = 1), k.1, h.1, decide (l.1 = 1)⟩, l.2)
def readK (k t : Int) (j : In) : DeedR × In :=
  let z := DeedR.blank k t
  if k = 0 then
    let a := inText j 16
    let b := inNum a.2 1
    let c := inText b.2 16
    ({ z with shop := ⟨a.1, b.1, c.1⟩ }, c.2)
  else if k = 2 then
    let a := inText j 16
    let b := inNum a.2 8
    let c := inNum b.2 8
    let e := inText c.2 16
    ({ z with queue := ⟨a.1, b.1, c.1, e.1⟩ }, e.2)
  else if k = 4 ∨ k = 5 then ({ z with bind := (bindRead j).1 }, (bindRead j).2)
  else if k = 6 then ({ z with mail := (mailRead j).1 }, (mailRead j).2)
  else if k = 1 ∨ k = 3 ∨ k = 7 then ({ z with name := (inText j 16).1 }, (inText j 16).2)
  else if k = 8 then
    let a := inText j 16
    let b := inNum a.2 8
    let c := inNum b.2 1
    ({ z with name := a.1, id := b.1, how := c.1 }, c.2)
  else if k = 10 then
    let a := inNum j 1
    let b := inNum a.2 8
    ({ z with frm := a.1, number := b.1, mail := (mailRead b.2).1 }, (mailRead b.2).2)
  else if k = 12 then
    let a := inNum j 1
    let b := inText a.2 64
    ({ z with code := a.1, text := b.1 }, b.2)
  else (z, j)
def readD (i : In) : DeedR × In := readK (inNum i 1).1 (inNum (inNum i 1).2 8).1 (inNum (inNum i 1).2 8).2
/-! Many -/
def packGo : List DeedR → Bs → Bs × Int
  | [], s => (s, 0)
  | d :: l, s => if deedE d ≠ 0 then ([], deedE d) else packGo l (s ++ deedB d)
def packD (l : List DeedR) : Bs × Int := if (255 : Int) < l.length then ([], 6) else packGo l (numB 1 l.length)
def unpackGo : Nat → In → List DeedR → List DeedR × In
  | 0, i, l => (l, i)
  | k + 1, i, l => if i.err = 0 then unpackGo k (readD i).2 (l ++ [(readD i).1]) else (l, i)
def unpackD (s : Bs) : List DeedR × Int :=
  let r := unpackGo (inNum ⟨s, 0⟩ 1).1.toNat (inNum ⟨s, 0⟩ 1).2 []
  if inEnd r.2 = 0 ∧ (packD r.1).2 = 0 ∧ (packD r.1).1 = s then (r.1, 0) else ([], 4)
end Go.SW
namespace Go.SW
theorem mailBytes_len (m : Mail) : (mailBytes m).length ≤ 3000 := by
  unfold mailBytes
  split
  · rename_i h
    obtain ⟨h1, h2, h3, h4, _⟩ := mailC_ok h
    have := headBytes_len m.head
    have a1 := outNum_len ⟨[], 0⟩ m.id 8
    have a2 := outText_len (outNum ⟨[], 0⟩ m.id 8) m.shop
    have a3 := outText_len (outText (outNum ⟨[], 0⟩ m.id 8) m.shop) m.key
    have a4 := outRaw_len (outText (outText (outNum ⟨[], 0⟩ m.id 8) m.shop) m.key) (headBytes m.head)
    have a5 := outText_len (outRaw (outText (outText (outNum ⟨[], 0⟩ m.id 8) m.shop) m.key) (headBytes m.head)) m.body
    have a6 := outNum_len (outText (outRaw (outText (outText (outNum ⟨[], 0⟩ m.id 8) m.shop) m.key) (headBytes m.head)) m.body) m.due 8
    have a7 := outNum_len (outNum (outText (outRaw (outText (outText (outNum ⟨[], 0⟩ m.id 8) m.shop) m.key) (headBytes m.head)) m.body) m.due 8) m.hops 1
    simp only [mailOut, List.length_nil] at *
    omega
  · simp
theorem deedBytes_len {d : DeedR} (hk : 0 ≤ d.kind) : (deedBytes d).length ≤ 5000 := by
  by_cases h : deedE d = 0
  · have ok := deedE_ok hk h
    obtain ⟨k1, k2, k3, k4, k5, k6, k7, k8, k9, k10, k11, k12, k13, k14, k15, k16, k17, k18, k19⟩ := ok
    have e1 : ∀ o, outText o d.shop.name = ⟨o.s ++ txtB d.shop.name, o.err⟩ := fun o => outText_s (by omega)
    have e2 : ∀ o, outText o d.shop.to = ⟨o.s ++ txtB d.shop.to, o.err⟩ := fun o => outText_s (by omega)
    have e3 : ∀ o, outText o d.queue.name = ⟨o.s ++ txtB d.queue.name, o.err⟩ := fun o => outText_s (by omega)
    have e4 : ∀ o, outText o d.queue.dead = ⟨o.s ++ txtB d.queue.dead, o.err⟩ := fun o => outText_s (by omega)
    have e5 : ∀ o, outText o d.bind.shop = ⟨o.s ++ txtB d.bind.shop, o.err⟩ := fun o => outText_s (by omega)
    have e6 : ∀ o, outText o d.bind.to = ⟨o.s ++ txtB d.bind.to, o.err⟩ := fun o => outText_s (by omega)
    have e7 : ∀ o, outText o d.bind.key = ⟨o.s ++ txtB d.bind.key, o.err⟩ := fun o => outText_s (by omega)
    have e8 : ∀ o, outText o d.name = ⟨o.s ++ txtB d.name, o.err⟩ := fun o => outText_s (by omega)
    have e9 : ∀ o, outText o d.text = ⟨o.s ++ txtB d.text, o.err⟩ := fun o => outText_s (by omega)
    have := headBytes_len d.bind.want
    have := mailBytes_len d.mail
    unfold deedBytes
    rw [if_pos h]
    unfold deedOut
    repeat' split
    all_goals
      simp only [e1, e2, e3, e4, e5, e6, e7, e8, e9, outRaw, outNum1, outNum8, List.length_append, numB_len, txtB_len, List.length_nil]
      omega
  · unfold deedBytes; rw [if_neg h]; simp
end Go.SW
namespace Go.SW
end Go.SW
namespace Go.SW
def lightMl (m : Mail) : Bool := decide ((m.shop.length : Int) ≤ 40) && decide ((m.key.length : Int) ≤ 100) && lightH m.head && decide ((m.body.length : Int) ≤ 300)
def lightD (d : DeedR) : Bool :=
  decide ((max (max (max (max (max (max (d.shop.name.length : Int) (d.shop.to.length : Int)) (d.queue.name.length : Int)) (d.queue.dead.length : Int)) (d.bind.shop.length : Int)) (d.bind.to.length : Int)) (d.name.length : Int)) ≤ 40) && decide ((max (d.bind.key.length : Int) (d.text.length : Int)) ≤ 100) && lightH d.bind.want && lightMl d.mail
end Go.SW
namespace Go.SW
def shopRE : Hp → ShopR → List Value → Prop := FE ShopR.cells ShopR.wf
def queueRE : Hp → QueueR → List Value → Prop := FE QueueR.cells QueueR.wf
def bindRE : Hp → BindR → List Value → Prop := fun H x cs => ∃ (a1 : Option Addr) (c1 : Nat), cs = BindR.cells x a1 c1 ∧ SlH pairE 4 H (.slice a1 x.want.length c1) x.want ∧ x.wf
def deedRE : Hp → DeedR → List Value → Prop := fun H x cs => ∃ (a1 : Option Addr) (c1 : Nat) (a2 : Option Addr) (c2 : Nat), cs = DeedR.cells x a1 c1 a2 c2 ∧ SlH pairE 4 H (.slice a1 x.bind.want.length c1) x.bind.want ∧ SlH pairE 4 H (.slice a2 x.mail.head.length c2) x.mail.head ∧ x.wf
structure BookR where
  shops : List ShopR
  binds : List BindR
deriving DecidableEq
def BookR.cells (x : BookR) (a1 : Option Addr) (c1 : Nat) (a2 : Option Addr) (c2 : Nat) : List Value := [.slice a1 x.shops.length c1, .slice a2 x.binds.length c2]
def BookR.wf (x : BookR) : Prop := x.shops.length ≤ 9223372036854775807 ∧ x.binds.length ≤ 9223372036854775807
def BookR.zero : BookR := ⟨[], []⟩
theorem BookR.eq_iff {a b : BookR} : a = b ↔ a.shops = b.shops ∧ a.binds = b.binds := by
  cases a; cases b; simp
def bookRE : Hp → BookR → List Value → Prop := fun H x cs => ∃ (a1 : Option Addr) (c1 : Nat) (a2 : Option Addr) (c2 : Nat), cs = BookR.cells x a1 c1 a2 c2 ∧ SlH shopRE 3 H (.slice a1 x.shops.length c1) x.shops ∧ SlH bindRE 6 H (.slice a2 x.binds.length c2) x.binds ∧ x.wf
end Go.SW
namespace Go.SW
def idxF {α : Type} (p : α → Bool) : Nat → List α → Int
  | _, [] => -1
  | k, x :: r => if p x then k else idxF p (k + 1) r
def idxP {α : Type} (p : α → Bool) (l : List α) : Int := idxF p 0 l
theorem idx_miss {α : Type} {p : α → Bool} {l r : List α} {c : α} {k : Nat} (h : idxP p l = idxF p k (l.drop k)) (e : l.drop k = c :: r) (hc : p c = false) : idxP p l = idxF p (k + 1) r := by
  rw [h, e, idxF, hc]; rfl
theorem idx_hit {α : Type} {p : α → Bool} {l r : List α} {c : α} {k : Nat} (h : idxP p l = idxF p k (l.drop k)) (e : l.drop k = c :: r) (hc : p c = true) : idxP p l = k := by
  rw [h, e, idxF, hc]; rfl
theorem idx_end {α : Type} {p : α → Bool} {l : List α} {k : Nat} (h : idxP p l = idxF p k (l.drop k)) (hk : l.length ≤ k) : idxP p l = -1 := by
  rw [h, List.drop_of_length_le hk]; rfl
theorem idxF_r {α : Type} (p : α → Bool) : ∀ (l : List α) (k : Nat), idxF p k l = -1 ∨ (k : Int) ≤ idxF p k l ∧ idxF p k l < k + l.length
  | [], k => .inl rfl
  | x :: r, k => by
    unfold idxF
    split
    · right; simp; omega
    · rcases idxF_r p r (k + 1) with h | h
      · exact .inl h
      · right; simp only [List.length_cons]; omega
theorem idxP_r {α : Type} (p : α → Bool) (l : List α) : -1 ≤ idxP p l ∧ idxP p l < (l.length : Int) ∨ idxP p l = -1 := by
  have := idxF_r p l 0
  unfold idxP
  omega
theorem idxF_any {α : Type} (p : α → Bool) : ∀ (l : List α) (k : Nat), (0 ≤ idxF p k l) = (l.any p = true)
  | [], k => by simp [idxF]
  | x :: r, k => by
    unfold idxF
    cases h : p x with
    | true => simp [h]
    | false => simp only [Bool.false_eq_true, if_false, List.any_cons, h, Bool.false_or]; exact idxF_any p r (k + 1)
theorem idxP_any {α : Type} (p : α → Bool) (l : List α) : (0 ≤ idxP p l) = (l.any p = true) := idxF_any p l 0
/-! Books -/
def shopOf (l : List ShopR) (n : Bs) : Option ShopR := l.find? fun s => decide (s.name = n)
theorem shopOf_hit {l r : List ShopR} {c : ShopR} {n : Bs} {k : Nat} (h : shopOf l n = shopOf (l.drop k) n) (e : l.drop k = c :: r) (hc : c.name = n) : shopOf l n = some c := by
  rw [h, e]; simp [shopOf, hc]
theorem shopOf_miss {l r : List ShopR} {c : ShopR} {n : Bs} {k : Nat} (h : shopOf l n = shopOf (l.drop k) n) (e : l.drop k = c :: r) (hc : ¬ c.name = n) : shopOf l n = shopOf r n := by
  rw [h, e]; simp [shopOf, hc]
def shopE (x : ShopR) : Int := if nameE x.name ≠ 0 then nameE x.name else if 4 < x.sort then 8 else if x.sort = 4 then nameE x.to else if x.to ≠ [] then 4 else 0
theorem shopE_r (x : ShopR) : 0 ≤ shopE x ∧ shopE x ≤ 15 := by
  have := nameE_r x.name
  have := nameE_r x.to
  unfold shopE
  repeat' split
  all_goals omega
def makeS (b : BookR) (x : ShopR) : BookR × Int :=
  if shopE x ≠ 0 then (b, shopE x)
  else if (shopOf b.shops x.name).isSome = true ∧ x = (shopOf b.shops x.name).getD ShopR.zero then (b, 0)
  else if (shopOf b.shops x.name).isSome = true then (b, 9)
  else if 8 ≤ b.shops.length then (b, 12)
  else (⟨b.shops ++ [x], b.binds⟩, 0)
def bindRule (x : BindR) (sort : Int) : Rule := ⟨sort, x.key, x.want, x.all⟩
def bindS (b : BookR) (x : BindR) : BookR × Int :=
  if (shopOf b.shops x.shop).isSome = false then (b, 10)
  else if ((shopOf b.shops x.shop).getD ShopR.zero).sort = 4 then (b, 8)
  else if nameE x.to ≠ 0 then (b, nameE x.to)
  else if ruleE (bindRule x ((shopOf b.shops x.shop).getD ShopR.zero).sort) ≠ 0 then (b, ruleE (bindRule x ((shopOf b.shops x.shop).getD ShopR.zero).sort))
  else if 0 ≤ idxP (fun y => decide (x = y)) b.binds then (b, 0)
  else if 32 ≤ b.binds.length then (b, 12)
  else (⟨b.shops, b.binds ++ [x]⟩, 0)
def putS (l : List Bs) (s : Bs) : List Bs := if s ∈ l then l else l ++ [s]
def leadGo (sort : Int) (shop key : Bs) (h : List Pair) : List BindR → List Bs → List Bs → List Bs × List Bs
  | [], q, p => (q, p)
  | y :: r, q, p => if y.shop ≠ shop ∨ goesR (bindRule y sort) key h = false then leadGo sort shop key h r q p else if y.up = true then leadGo sort shop key h r q (putS p y.to) else leadGo sort shop key h r (putS q y.to) p
def leadS (b : BookR) (shop key : Bs) (h : List Pair) : List Bs × List Bs × Int :=
  if (shopOf b.shops shop).isSome = false then ([], [], 10)
  else if ((shopOf b.shops shop).getD ShopR.zero).sort = 4 then ([], [((shopOf b.shops shop).getD ShopR.zero).to], 0)
  else ((leadGo ((shopOf b.shops shop).getD ShopR.zero).sort shop key h b.binds [] []).1, (leadGo ((shopOf b.shops shop).getD ShopR.zero).sort shop key h b.binds [] []).2, 0)
end Go.SW
namespace Go.SW
def allD (l : List DeedR) : List DeedR × Bool := if l.all lightD = true then (l, true) else ([], false)
end Go.SW
namespace Go.SW
end Go.SW
namespace Go.SW
end Go.SW
namespace Go.SW
structure DWf (d : DeedR) : Prop where
  w : d.wf
  want : ∀ p ∈ d.bind.want, p.wf
  head : ∀ p ∈ d.mail.head, p.wf
/-! What is read -/
end Go.SW
namespace Go.SW
end Go.SW
namespace Go.SW
def settlesB (l : List DeedR) (n : Bs) (i : Int) : Bool := l.any fun x => decide (x.kind = 8) && decide (x.name = n) && decide (x.id = i)
def draftE (l : List DeedR) (d : DeedR) : Int :=
  if d.kind ≠ 6 ∧ d.kind ≠ 8 then 8
  else if deedE d ≠ 0 then deedE d
  else if d.kind = 8 ∧ settlesB l d.name d.id = true then 9
  else if 16 ≤ l.length then 12
  else 0
def addGo (x : List DeedR) : List DeedR → List DeedR → List DeedR × Int
  | n, [] => (n, 0)
  | n, d :: l => if draftE n d ≠ 0 then (x, draftE n d) else addGo x (n ++ [d]) l
def addD (x l : List DeedR) : List DeedR × Int := addGo x x l
def atD (t : Int) (d : DeedR) : DeedR := { d with tick := t, mail := if d.kind = 6 then { d.mail with due := lifeN t d.mail.due } else d.mail }
/-- What is held may be. -/
def Held (l : List DeedR) : Prop := ∀ d ∈ l, deedE d = 0
end Go.SW
namespace Go.SW
structure DraftR where
  l : List DeedR
deriving DecidableEq
def DraftR.cells (x : DraftR) (a1 : Option Addr) (c1 : Nat) : List Value := [.slice a1 x.l.length c1]
def DraftR.wf (x : DraftR) : Prop := x.l.length ≤ 9223372036854775807
def DraftR.zero : DraftR := ⟨[]⟩
theorem DraftR.eq_iff {a b : DraftR} : a = b ↔ a.l = b.l := by
  cases a; cases b; simp
def draftRE : Hp → DraftR → List Value → Prop := fun H x cs => ∃ (a1 : Option Addr) (c1 : Nat), cs = DraftR.cells x a1 c1 ∧ SlH deedRE 29 H (.slice a1 x.l.length c1) x.l ∧ x.wf
end Go.SW
namespace Go.SW
def Feed.pc (x : Feed) : List PV := [.str x.rest, .int .i64 x.err]
instance : Inhabited Feed := ⟨⟨[], 0⟩⟩
def Out.pc (x : Out) : List PV := [.str x.s, .int .i64 x.err]
instance : Inhabited Out := ⟨⟨[], 0⟩⟩
def In.pc (x : In) : List PV := [.str x.s, .int .i64 x.err]
instance : Inhabited In := ⟨⟨[], 0⟩⟩
def RIn.pc (x : RIn) : List PV := [.str x.s, .int .i64 x.pos, .int .i64 x.code]
instance : Inhabited RIn := ⟨⟨[], 0, 0⟩⟩
def Pair.pc (x : Pair) : List PV := [.str x.key, .int .u8 x.kind, .int .i64 x.num, .str x.text]
instance : Inhabited Pair := ⟨⟨[], 0, 0, []⟩⟩
theorem Pair.pwf {x : Pair} (h : PV.wfs (Pair.pc x)) : Pair.wf x := by
  simp only [Pair.pc, PV.wfs, PV.wf] at h
  simp only [Pair.wf]
  omega
def Frame.pc (x : Frame) : List PV := [.int .u8 x.channel, .int .u8 x.kind, .str x.body]
instance : Inhabited Frame := ⟨⟨0, 0, []⟩⟩
theorem Frame.pwf {x : Frame} (h : PV.wfs (Frame.pc x)) : Frame.wf x := by
  simp only [Frame.pc, PV.wfs, PV.wf] at h
  simp only [Frame.wf]
  omega
def ShopR.pc (x : ShopR) : List PV := [.str x.name, .int .u8 x.sort, .str x.to]
instance : Inhabited ShopR := ⟨⟨[], 0, []⟩⟩
theorem ShopR.pwf {x : ShopR} (h : PV.wfs (ShopR.pc x)) : ShopR.wf x := by
  simp only [ShopR.pc, PV.wfs, PV.wf] at h
  simp only [ShopR.wf]
  omega
def QueueR.pc (x : QueueR) : List PV := [.str x.name, .int .u64 x.most, .int .u64 x.life, .str x.dead]
instance : Inhabited QueueR := ⟨⟨[], 0, 0, []⟩⟩
theorem QueueR.pwf {x : QueueR} (h : PV.wfs (QueueR.pc x)) : QueueR.wf x := by
  simp only [QueueR.pc, PV.wfs, PV.wf] at h
  simp only [QueueR.wf]
  omega
def BindR.pc (x : BindR) : List PV := [.str x.shop, .str x.to, .bool x.up, .str x.key, .sl Pair.pc x.want, .bool x.all]
instance : Inhabited BindR := ⟨⟨[], [], false, [], [], false⟩⟩
theorem BindR.pwf {x : BindR} (h : PV.wfs (BindR.pc x)) : BindR.wf x := by
  simp only [BindR.pc, PV.wfs, PV.wf] at h
  simp only [BindR.wf]
  omega
def Rule.pc (x : Rule) : List PV := [.int .u8 x.sort, .str x.key, .sl Pair.pc x.want, .bool x.all]
instance : Inhabited Rule := ⟨⟨0, [], [], false⟩⟩
theorem Rule.pwf {x : Rule} (h : PV.wfs (Rule.pc x)) : Rule.wf x := by
  simp only [Rule.pc, PV.wfs, PV.wf] at h
  simp only [Rule.wf]
  omega
theorem Rule.kd2 {x : Rule} (h : PV.wfs (Rule.pc x)) : ∀ p ∈ x.want, 0 ≤ p.kind := fun p hp => by
  have q := Pair.pwf (h.2.2.1.2 p hp)
  simp only [Pair.wf] at q
  omega
def Mail.pc (x : Mail) : List PV := [.int .u64 x.id, .str x.shop, .str x.key, .sl Pair.pc x.head, .str x.body, .int .u64 x.due, .int .u8 x.hops]
instance : Inhabited Mail := ⟨⟨0, [], [], [], [], 0, 0⟩⟩
theorem Mail.pwf {x : Mail} (h : PV.wfs (Mail.pc x)) : Mail.wf x := by
  simp only [Mail.pc, PV.wfs, PV.wf] at h
  simp only [Mail.wf]
  omega
theorem Mail.kd3 {x : Mail} (h : PV.wfs (Mail.pc x)) : ∀ p ∈ x.head, 0 ≤ p.kind := fun p hp => by
  have q := Pair.pwf (h.2.2.2.1.2 p hp)
  simp only [Pair.wf] at q
  omega
def Reply.pc (x : Reply) : List PV := [.int .u8 x.channel, .int .u8 x.kind, .int .u64 x.n, .int .u64 x.m, .bool x.yes, .str x.name, .int .u64 x.mail.id, .str x.mail.shop, .str x.mail.key, .sl Pair.pc x.mail.head, .str x.mail.body, .int .u64 x.mail.due, .int .u8 x.mail.hops]
instance : Inhabited Reply := ⟨⟨0, 0, 0, 0, false, [], ⟨0, [], [], [], [], 0, 0⟩⟩⟩
theorem Reply.pwf {x : Reply} (h : PV.wfs (Reply.pc x)) : Reply.wf x := by
  simp only [Reply.pc, PV.wfs, PV.wf] at h
  simp only [Reply.wf, Mail.wf]
  omega
def Method.pc (x : Method) : List PV := [.int .u8 x.channel, .int .u8 x.kind, .str x.name, .str x.other, .str x.key, .sl Pair.pc x.head, .str x.body, .int .u64 x.n, .int .u64 x.m, .bool x.yes]
instance : Inhabited Method := ⟨⟨0, 0, [], [], [], [], [], 0, 0, false⟩⟩
theorem Method.pwf {x : Method} (h : PV.wfs (Method.pc x)) : Method.wf x := by
  simp only [Method.pc, PV.wfs, PV.wf] at h
  simp only [Method.wf]
  omega
def DeedR.pc (x : DeedR) : List PV := [.int .u8 x.kind, .int .u64 x.tick, .str x.shop.name, .int .u8 x.shop.sort, .str x.shop.to, .str x.queue.name, .int .u64 x.queue.most, .int .u64 x.queue.life, .str x.queue.dead, .str x.bind.shop, .str x.bind.to, .bool x.bind.up, .str x.bind.key, .sl Pair.pc x.bind.want, .bool x.bind.all, .str x.name, .int .u64 x.id, .int .u8 x.how, .int .u8 x.frm, .int .u8 x.code, .int .u64 x.number, .int .u64 x.mail.id, .str x.mail.shop, .str x.mail.key, .sl Pair.pc x.mail.head, .str x.mail.body, .int .u64 x.mail.due, .int .u8 x.mail.hops, .str x.text]
instance : Inhabited DeedR := ⟨⟨0, 0, ⟨[], 0, []⟩, ⟨[], 0, 0, []⟩, ⟨[], [], false, [], [], false⟩, [], 0, 0, 0, 0, 0, ⟨0, [], [], [], [], 0, 0⟩, []⟩⟩
theorem DeedR.pwf {x : DeedR} (h : PV.wfs (DeedR.pc x)) : DeedR.wf x := by
  simp only [DeedR.pc, PV.wfs, PV.wf] at h
  simp only [DeedR.wf, ShopR.wf, QueueR.wf, BindR.wf, Mail.wf]
  omega
theorem DeedR.kd13 {x : DeedR} (h : PV.wfs (DeedR.pc x)) : ∀ p ∈ x.bind.want, 0 ≤ p.kind := fun p hp => by
  have q := Pair.pwf (h.2.2.2.2.2.2.2.2.2.2.2.2.2.1.2 p hp)
  simp only [Pair.wf] at q
  omega
theorem DeedR.kd24 {x : DeedR} (h : PV.wfs (DeedR.pc x)) : ∀ p ∈ x.mail.head, 0 ≤ p.kind := fun p hp => by
  have q := Pair.pwf (h.2.2.2.2.2.2.2.2.2.2.2.2.2.2.2.2.2.2.2.2.2.2.2.2.1.2 p hp)
  simp only [Pair.wf] at q
  omega
def BookR.pc (x : BookR) : List PV := [.sl ShopR.pc x.shops, .sl BindR.pc x.binds]
instance : Inhabited BookR := ⟨⟨[], []⟩⟩
theorem BookR.pwf {x : BookR} (h : PV.wfs (BookR.pc x)) : BookR.wf x := by
  simp only [BookR.pc, PV.wfs, PV.wf] at h
  simp only [BookR.wf]
  omega
def DraftR.pc (x : DraftR) : List PV := [.sl DeedR.pc x.l]
instance : Inhabited DraftR := ⟨⟨[]⟩⟩
theorem DraftR.pwf {x : DraftR} (h : PV.wfs (DraftR.pc x)) : DraftR.wf x := by
  simp only [DraftR.pc, PV.wfs, PV.wf] at h
  simp only [DraftR.wf]
  omega
end Go.SW
namespace Go.SW
theorem idxF_b {α : Type} (p : α → Bool) : ∀ (l : List α) (k : Nat), idxF p k l = -1 ∨ ((k : Int) ≤ idxF p k l ∧ idxF p k l < k + l.length)
  | [], k => .inl (by simp [idxF])
  | a :: r, k => by
    simp only [idxF]
    split
    · right; simp only [List.length_cons]; omega
    · rcases idxF_b p r (k + 1) with h | h
      · exact .inl h
      · right; simp only [List.length_cons]; omega
theorem idxP_b {α : Type} (p : α → Bool) (l : List α) : -1 ≤ idxP p l ∧ idxP p l < l.length := by
  rcases idxF_b p l 0 with h | h <;> simp only [idxP] <;> omega
theorem idxF_find {α : Type} (p : α → Bool) : ∀ (l : List α) (k : Nat), (idxF p k l < 0 → l.find? p = none) ∧ (0 ≤ idxF p k l → ∀ c, l[(idxF p k l).toNat - k]? = some c → p c = true ∧ l.find? p = some c)
  | [], k => ⟨fun _ => rfl, fun h => by simp [idxF] at h⟩
  | a :: r, k => by
    obtain ⟨h1, h2⟩ := idxF_find p r (k + 1)
    have hr := idxF_b p r (k + 1)
    simp only [idxF]
    by_cases ha : p a = true
    · simp only [ha, if_true]
      refine ⟨fun h => by omega, fun _ c hc => ?_⟩
      have : ((k : Int)).toNat - k = 0 := by omega
      rw [this] at hc
      simp at hc
      subst hc
      exact ⟨ha, by simp [ha]⟩
    · have hf : p a = false := by simpa using ha
      simp only [hf, if_false, Bool.false_eq_true, List.find?_cons]
      refine ⟨h1, fun h0 c hc => ?_⟩
      refine h2 h0 c ?_
      have e : (idxF p (k + 1) r).toNat - k = ((idxF p (k + 1) r).toNat - (k + 1)) + 1 := by omega
      rw [e] at hc
      simpa using hc
theorem idxP_neg {α : Type} {p : α → Bool} {l : List α} (h : idxP p l < 0) : l.find? p = none := (idxF_find p l 0).1 h
theorem idxP_get {α : Type} {p : α → Bool} {l : List α} {c : α} (h0 : ¬ idxP p l < 0) (h : l[(idxP p l).toNat]? = some c) : p c = true ∧ l.find? p = some c := (idxF_find p l 0).2 (by simp only [idxP] at h0; omega) c (by simpa [idxP] using h)
theorem getJ {α : Type} [Inhabited α] (xs : List α) (m : Nat) : ∃ c, (m < xs.length → xs[m]? = some c) := by
  by_cases h : m < xs.length
  · exact ⟨xs[m], fun _ => List.getElem?_eq_getElem h⟩
  · exact ⟨default, fun q => absurd q h⟩
end Go.SW
namespace Go.SW.V
open Go.SW
/-- An answer, and what is made of it. -/
def lt {α β : Type} (a : α) (f : α → β) : β := f a
theorem lt_eq {α β : Type} {a r : α} {f : α → β} (h : r = a) : lt a f = f r := by subst h; rfl
theorem condT {α : Type} {c : Bool} {a b : α} (h : c = true) : (bif c then a else b) = a := by rw [h]; rfl
theorem condF {α : Type} {c : Bool} {a b : α} (h : c = false) : (bif c then a else b) = b := by rw [h]; rfl
/-- A part of a function goes on, or the function's answer is there. -/
inductive Lo (σ ρ : Type) where
  | fin (s : σ)
  | ret (r : ρ)
def lp0 {ρ β : Type} (o : Lo Unit ρ) (f : β) (g : ρ → β) : β := match o with
  | .fin _ => f
  | .ret r => g r
def lt0 {β : Type} (_ : Unit) (f : β) : β := f
def lp1 {σ1 ρ β : Type} (o : Lo (σ1) ρ) (f : σ1 → β) (g : ρ → β) : β := match o with
  | .fin s => f s
  | .ret r => g r
def lt1 {σ1 β : Type} (s : σ1) (f : σ1 → β) : β := f s
theorem lt1_fin {σ1 β : Type} {l : β} {o : σ1} {f : σ1 → β} {a1 : σ1} (h : l = lt1 o f) (k : o = a1) : l = f a1 := by subst k; exact h
theorem lt1_split {σ1 β : Type} {l : β} {X : σ1} {f : σ1 → β} (h : l = lt1 X f) : ∃ o, o = X ∧ l = lt1 o f := ⟨_, rfl, h⟩
def lp2 {σ1 σ2 ρ β : Type} (o : Lo (σ1 × σ2) ρ) (f : σ1 → σ2 → β) (g : ρ → β) : β := match o with
  | .fin s => f s.1 s.2
  | .ret r => g r
def lt2 {σ1 σ2 β : Type} (s : σ1 × σ2) (f : σ1 → σ2 → β) : β := f s.1 s.2
def lp3 {σ1 σ2 σ3 ρ β : Type} (o : Lo (σ1 × σ2 × σ3) ρ) (f : σ1 → σ2 → σ3 → β) (g : ρ → β) : β := match o with
  | .fin s => f s.1 s.2.1 s.2.2
  | .ret r => g r
def lt3 {σ1 σ2 σ3 β : Type} (s : σ1 × σ2 × σ3) (f : σ1 → σ2 → σ3 → β) : β := f s.1 s.2.1 s.2.2
def lp4 {σ1 σ2 σ3 σ4 ρ β : Type} (o : Lo (σ1 × σ2 × σ3 × σ4) ρ) (f : σ1 → σ2 → σ3 → σ4 → β) (g : ρ → β) : β := match o with
  | .fin s => f s.1 s.2.1 s.2.2.1 s.2.2.2
  | .ret r => g r
def lt4 {σ1 σ2 σ3 σ4 β : Type} (s : σ1 × σ2 × σ3 × σ4) (f : σ1 → σ2 → σ3 → σ4 → β) : β := f s.1 s.2.1 s.2.2.1 s.2.2.2
def lp5 {σ1 σ2 σ3 σ4 σ5 ρ β : Type} (o : Lo (σ1 × σ2 × σ3 × σ4 × σ5) ρ) (f : σ1 → σ2 → σ3 → σ4 → σ5 → β) (g : ρ → β) : β := match o with
  | .fin s => f s.1 s.2.1 s.2.2.1 s.2.2.2.1 s.2.2.2.2
  | .ret r => g r
def lt5 {σ1 σ2 σ3 σ4 σ5 β : Type} (s : σ1 × σ2 × σ3 × σ4 × σ5) (f : σ1 → σ2 → σ3 → σ4 → σ5 → β) : β := f s.1 s.2.1 s.2.2.1 s.2.2.2.1 s.2.2.2.2
def lp6 {σ1 σ2 σ3 σ4 σ5 σ6 ρ β : Type} (o : Lo (σ1 × σ2 × σ3 × σ4 × σ5 × σ6) ρ) (f : σ1 → σ2 → σ3 → σ4 → σ5 → σ6 → β) (g : ρ → β) : β := match o with
  | .fin s => f s.1 s.2.1 s.2.2.1 s.2.2.2.1 s.2.2.2.2.1 s.2.2.2.2.2
  | .ret r => g r
def lt6 {σ1 σ2 σ3 σ4 σ5 σ6 β : Type} (s : σ1 × σ2 × σ3 × σ4 × σ5 × σ6) (f : σ1 → σ2 → σ3 → σ4 → σ5 → σ6 → β) : β := f s.1 s.2.1 s.2.2.1 s.2.2.2.1 s.2.2.2.2.1 s.2.2.2.2.2
def lp7 {σ1 σ2 σ3 σ4 σ5 σ6 σ7 ρ β : Type} (o : Lo (σ1 × σ2 × σ3 × σ4 × σ5 × σ6 × σ7) ρ) (f : σ1 → σ2 → σ3 → σ4 → σ5 → σ6 → σ7 → β) (g : ρ → β) : β := match o with
  | .fin s => f s.1 s.2.1 s.2.2.1 s.2.2.2.1 s.2.2.2.2.1 s.2.2.2.2.2.1 s.2.2.2.2.2.2
  | .ret r => g r
def lt7 {σ1 σ2 σ3 σ4 σ5 σ6 σ7 β : Type} (s : σ1 × σ2 × σ3 × σ4 × σ5 × σ6 × σ7) (f : σ1 → σ2 → σ3 → σ4 → σ5 → σ6 → σ7 → β) : β := f s.1 s.2.1 s.2.2.1 s.2.2.2.1 s.2.2.2.2.1 s.2.2.2.2.2.1 s.2.2.2.2.2.2
def lp8 {σ1 σ2 σ3 σ4 σ5 σ6 σ7 σ8 ρ β : Type} (o : Lo (σ1 × σ2 × σ3 × σ4 × σ5 × σ6 × σ7 × σ8) ρ) (f : σ1 → σ2 → σ3 → σ4 → σ5 → σ6 → σ7 → σ8 → β) (g : ρ → β) : β := match o with
  | .fin s => f s.1 s.2.1 s.2.2.1 s.2.2.2.1 s.2.2.2.2.1 s.2.2.2.2.2.1 s.2.2.2.2.2.2.1 s.2.2.2.2.2.2.2
  | .ret r => g r
def lt8 {σ1 σ2 σ3 σ4 σ5 σ6 σ7 σ8 β : Type} (s : σ1 × σ2 × σ3 × σ4 × σ5 × σ6 × σ7 × σ8) (f : σ1 → σ2 → σ3 → σ4 → σ5 → σ6 → σ7 → σ8 → β) : β := f s.1 s.2.1 s.2.2.1 s.2.2.2.1 s.2.2.2.2.1 s.2.2.2.2.2.1 s.2.2.2.2.2.2.1 s.2.2.2.2.2.2.2
def lp9 {σ1 σ2 σ3 σ4 σ5 σ6 σ7 σ8 σ9 ρ β : Type} (o : Lo (σ1 × σ2 × σ3 × σ4 × σ5 × σ6 × σ7 × σ8 × σ9) ρ) (f : σ1 → σ2 → σ3 → σ4 → σ5 → σ6 → σ7 → σ8 → σ9 → β) (g : ρ → β) : β := match o with
  | .fin s => f s.1 s.2.1 s.2.2.1 s.2.2.2.1 s.2.2.2.2.1 s.2.2.2.2.2.1 s.2.2.2.2.2.2.1 s.2.2.2.2.2.2.2.1 s.2.2.2.2.2.2.2.2
  | .ret r => g r
def lt9 {σ1 σ2 σ3 σ4 σ5 σ6 σ7 σ8 σ9 β : Type} (s : σ1 × σ2 × σ3 × σ4 × σ5 × σ6 × σ7 × σ8 × σ9) (f : σ1 → σ2 → σ3 → σ4 → σ5 → σ6 → σ7 → σ8 → σ9 → β) : β := f s.1 s.2.1 s.2.2.1 s.2.2.2.1 s.2.2.2.2.1 s.2.2.2.2.2.1 s.2.2.2.2.2.2.1 s.2.2.2.2.2.2.2.1 s.2.2.2.2.2.2.2.2
def lp10 {σ1 σ2 σ3 σ4 σ5 σ6 σ7 σ8 σ9 σ10 ρ β : Type} (o : Lo (σ1 × σ2 × σ3 × σ4 × σ5 × σ6 × σ7 × σ8 × σ9 × σ10) ρ) (f : σ1 → σ2 → σ3 → σ4 → σ5 → σ6 → σ7 → σ8 → σ9 → σ10 → β) (g : ρ → β) : β := match o with
  | .fin s => f s.1 s.2.1 s.2.2.1 s.2.2.2.1 s.2.2.2.2.1 s.2.2.2.2.2.1 s.2.2.2.2.2.2.1 s.2.2.2.2.2.2.2.1 s.2.2.2.2.2.2.2.2.1 s.2.2.2.2.2.2.2.2.2
  | .ret r => g r
def lt10 {σ1 σ2 σ3 σ4 σ5 σ6 σ7 σ8 σ9 σ10 β : Type} (s : σ1 × σ2 × σ3 × σ4 × σ5 × σ6 × σ7 × σ8 × σ9 × σ10) (f : σ1 → σ2 → σ3 → σ4 → σ5 → σ6 → σ7 → σ8 → σ9 → σ10 → β) : β := f s.1 s.2.1 s.2.2.1 s.2.2.2.1 s.2.2.2.2.1 s.2.2.2.2.2.1 s.2.2.2.2.2.2.1 s.2.2.2.2.2.2.2.1 s.2.2.2.2.2.2.2.2.1 s.2.2.2.2.2.2.2.2.2
/-! Elements -/
def gt {α : Type} [Inhabited α] (xs : List α) (k : Nat) : α := xs.getD k default
theorem getG {α : Type} [Inhabited α] {xs : List α} {k : Nat} (h : k < xs.length) : xs[k]? = some (gt xs k) := by
  rw [gt, List.getD_eq_getElem?_getD, List.getElem?_eq_getElem h]; rfl
theorem dropG {α : Type} [Inhabited α] {xs : List α} {k : Nat} (h : k < xs.length) : xs.drop k = gt xs k :: xs.drop (k + 1) := dropE (getG h)
theorem dropN {α : Type} {xs : List α} {k : Nat} (h : ¬ k < xs.length) : xs.drop k = [] := List.drop_of_length_le (by omega)
theorem lstep {α τ : Type} {l : τ} {xs ys : List α} {f : List α → τ} {v : τ} (e : l = f xs) (h : xs = ys) (k : f ys = v) : l = v := by subst h; exact e.trans k
theorem ple_of {α : Type} {p : PV} {a v : α} (f : α → PV) (e : a = v) (h : PLe p (f v)) : PLe p (f a) := by subst e; exact h
variable {P : Program} {n : Nat} {N : Rest} {H0 : Env} {all rest : List Oper} {Q : Qs} {ks : List Kt} {fF : Nat → PV} {fL : Nat → Blk} {T T' T2 ty d : Nat} {pos : String} {af : Array Edge} {x y z : Operand} {K : St → Prop} {op : Op} {p : PV}
/-- Several ways through a part meet behind it. -/
theorem joinc {ι : Type} {X : Code} (keep kL : List Nat) (lv : ι → List (Nat × PV)) (lL : ι → List (Nat × Blk)) (Φ : ι → Prop) (h : Hd P n N H0 Q (.code X) (.lp (LJ (fun x => ⟨mkF (lv x) keep fF, mkL (lL x) kL fL⟩) Φ (fun _ => 0) 1) :: ks) ⟨fF, fL⟩) (k : ∀ x, Φ x → Hd P n N H0 Q (.ex .normal) ks ⟨mkF (lv x) keep fF, mkL (lL x) kL fL⟩) : Hd P n N H0 Q (.code X) ks ⟨fF, fL⟩ := by
  intro F H L ha
  refine cw_mono (fun e F' H' L' hq => ?_) (h F H L ha)
  obtain ⟨s', ha', hq'⟩ := hq
  cases e with
  | normal => obtain ⟨x, h1, _, h3⟩ := hq'; exact ⟨_, h3 _ _ _ _ ha', k x h1⟩
  | _ => exact ⟨s', ha', hq'⟩
/-- A call whose answer gets a name. -/
theorem callv {α : Type} (g : α) (res : α → PV) {f : FuncId} {args : List PV} {xs : Array Operand} {ats : Array TypeId} (h : Fn P H0.g f args (res g)) (ha : argsP fF x xs.toList = some (f, args)) (hd : Nat.blt d n = true) (k : ∀ r, r = g → (res r).wf → Hd P n N H0 Q (.ops all rest) ks ⟨updp fF d (res r), fL⟩) : Hd P n N H0 Q (.ops all (⟨some d, .call ⟨.value x, xs, ats⟩, ty, pos, af, none⟩ :: rest)) ks ⟨fF, fL⟩ := call h ha hd (k g rfl)
/-- At a round's end or where ways meet, what is there may be said otherwise. -/
theorem lj_le {ι : Type} {S : ι → St} {Φ : ι → Prop} {μ : ι → Nat} {m : Nat} {s s' : St} (h : StLe s s') (k : Hd P n N H0 Q (.ex .normal) (.lp (LJ S Φ μ m) :: ks) s') : Hd P n N H0 Q (.ex .normal) (.lp (LJ S Φ μ m) :: ks) s := by
  obtain ⟨x, h1, h2, h3⟩ := k
  exact ⟨x, h1, h2, h.trans h3⟩
theorem lj_osl {α : Type} {ι : Type} {S : ι → St} {Φ : ι → Prop} {μ : ι → Nat} {m t k e : Nat} {u : Value} {enc : α → List PV} {xs : List α} (i : Nat) (hF : fF t = .val u) (hL : fL i = .arr u k e enc xs) (kk : Hd P n N H0 Q (.ex .normal) (.lp (LJ S Φ μ m) :: ks) ⟨updp fF t (.osl i), fL⟩) : Hd P n N H0 Q (.ex .normal) (.lp (LJ S Φ μ m) :: ks) ⟨fF, fL⟩ := lj_le (fun _ _ _ _ ha => val_osl ha hF hL) kk
theorem eweak {o : Oper} {i : Nat} (h : E1 P n N H0 all o none ⟨fF, fL⟩ K) : E1 P n N H0 all o (some i) ⟨fF, fL⟩ K := fun F H L ha => (h F H L ha).imp fun F' H' L' ⟨x, y, z⟩ => ⟨x, fun q _ => y q (by simp), z⟩
/-- A list that is owned is given to be read, and the operation carried out. -/
theorem egive {α : Type} {e k : Nat} {u : Value} {enc : α → List PV} {xs : List α} {o : Oper} (i : Nat) (hb : fL i = .arr u k e enc xs) (h : E1 P n N H0 all o (some i) ⟨giveF i enc xs fF, giveL i enc xs fL⟩ K) : E1 P n N H0 all o (some i) ⟨fF, fL⟩ K := by
  intro F H L ha a w hA hm
  obtain ⟨H1, hl1, hg1, hm1⟩ := hm.giveO (i := i) rfl
  have ha1 := ha.give hb hl1 hg1
  exact (h F H1 (lupd L i none) ha1).imp (fun F' H' L' ⟨x, y, z⟩ => ⟨hl1.trans x, fun q hq => (y q hq).trans (lupd_ne _ _ _ _ fun e => hq (by rw [e])), z⟩) a w hA hm1
end Go.SW.V
namespace Go.SW
structure TakerR where
  tag : Int
  queue : Bs
deriving DecidableEq, Inhabited
def TakerR.pc (x : TakerR) : List PV := [.int .u64 x.tag, .str x.queue]
structure LentR where
  id : Int
  queue : Bs
deriving DecidableEq, Inhabited
def LentR.pc (x : LentR) : List PV := [.int .u64 x.id, .str x.queue]
structure ChanR where
  credit : Int
  takers : List TakerR
  lent : List LentR
  sure : Bool
  drafts : Bool
  puts : Int
  held : DraftR
deriving DecidableEq, Inhabited
def ChanR.pc (x : ChanR) : List PV := [.int .i64 x.credit, .sl TakerR.pc x.takers, .sl LentR.pc x.lent, .bool x.sure, .bool x.drafts, .int .u64 x.puts, .sl DeedR.pc x.held.l]
end Go.SW
namespace Go.SW.V
open Go.SW
theorem flat_step {α : Type} {xs : List (List α)} {k : Nat} {c : List α} (h : xs[k]? = some c) : (xs.take (k + 1)).flatten = (xs.take k).flatten ++ c := by
  rw [takeE h, List.flatten_append]; simp
theorem flat_le {α : Type} (xs : List (List α)) (k : Nat) : (xs.take k).flatten.length ≤ xs.flatten.length := by
  have := congrArg (fun l : List (List α) => l.flatten.length) (List.take_append_drop k xs)
  simp only [List.flatten_append, List.length_append] at this
  omega
theorem flat_full {α : Type} {xs : List (List α)} {k : Nat} (h : xs.length ≤ k) : (xs.take k).flatten = xs.flatten := by rw [List.take_of_length_le h]
end Go.SW.V
namespace Go.SW
def bv1 (x : BitVec 32) : BitVec 32 := if x.getLsbD 0 then (x >>> 1) ^^^ 0xEDB88320#32 else x >>> 1
def tbv (x : BitVec 32) : BitVec 32 := bv1 (bv1 (bv1 (bv1 x)))
/-! On whole numbers -/
def bit1 (q : Int) : Int := if q % 2 = 1 then xor32 (q / 2) 3988292384 else q / 2
def bitIt : Nat → Int → Int
  | 0, q => q
  | n + 1, q => bitIt n (bit1 q)
end Go.SW
set_option linter.unusedVariables false
set_option maxRecDepth 100000
namespace Go.SW.V
open Go.SW
def chans_New : ChanR :=
 (⟨16, [], [], false, false, 0, (⟨[]⟩ : DraftR)⟩ : ChanR)
def chans_Chan_Credit (c : ChanR) (n : Int) : ChanR × Int :=
 (bif ((decide (n < 1)) || (decide (16 < n))) then
 (c, 7)
 else ((⟨(IntKind.wrap .i64 n), c.takers, c.lent, c.sure, c.drafts, c.puts, c.held⟩ : ChanR), 0))
def chans_Chan_Room (c : ChanR) : Int :=
 (max 0 (c.credit - (c.lent.length : Int)))
end Go.SW.V
namespace Go.SW.V
open Go.SW
end Go.SW.V
set_option linter.unusedVariables false
set_option maxRecDepth 100000
namespace Go.SW.V
open Go.SW
def route_put (l : List Bs) (s : Bs) : (List Bs) :=
 (bif decide (s ∈ l) then
 l
 else (l ++ [s]))
def route_Book_Make (b : BookR) (x : ShopR) : BookR × Int :=
 (bif !decide ((shopE x) = 0) then
 (b, shopE x)
 else (bif (((shopOf b.shops x.name).isSome) && (decide (x = ((shopOf b.shops x.name).getD ShopR.zero)))) then
 (b, 0)
 else (bif (shopOf b.shops x.name).isSome then
 (b, 9)
 else (bif decide (8 ≤ (b.shops.length : Int)) then
 (b, 12)
 else ((⟨[b.shops, [x]].flatten, b.binds⟩ : BookR), 0)))))
def route_Book_there (b : BookR) (x : BindR) : Int :=
 (idxP (fun z_3 : BindR => decide (x = z_3)) b.binds)
end Go.SW.V
namespace Go.SW.V
open Go.SW
theorem put_len (l : List Bs) (s : Bs) : (route_put l s).length ≤ l.length + 1 := by
  unfold route_put
  cases decide (s ∈ l) <;> simp
theorem there_r (b : BookR) (x : BindR) : -1 ≤ route_Book_there b x ∧ route_Book_there b x < b.binds.length := idxP_b _ _
end Go.SW.V
set_option linter.unusedVariables false
set_option maxRecDepth 100000
namespace Go.SW.V
open Go.SW
def route_Book_Bind (b : BookR) (x : BindR) : BookR × Int :=
 (bif !((shopOf b.shops x.shop).isSome) then
 (b, 10)
 else (bif decide ((((shopOf b.shops x.shop).getD ShopR.zero).sort) = 4) then
 (b, 8)
 else (bif !decide ((nameE x.to) = 0) then
 (b, nameE x.to)
 else (bif !decide ((ruleE (bindRule x (((shopOf b.shops x.shop).getD ShopR.zero).sort))) = 0) then
 (b, ruleE (bindRule x (((shopOf b.shops x.shop).getD ShopR.zero).sort)))
 else lt (route_Book_there b x) fun r =>
 (bif decide (0 ≤ r) then
 (b, 0)
 else (bif decide (32 ≤ (b.binds.length : Int)) then
 (b, 12)
 else ((⟨b.shops, [b.binds, [x]].flatten⟩ : BookR), 0)))))))
def route_Book_Leads_l0 (b : BookR) (shop : Bs) (key : Bs) (h : List Pair) : List BindR → List Bs → List Bs → (List Bs) × (List Bs) × Int
  | [], queues, places => (queues, places, 0)
  | x :: t, queues, places => (lt1 ((bif !decide ((x.shop) = shop) then
 (!decide ((x.shop) = shop))
 else (!(goesR (bindRule x (((shopOf b.shops shop).getD ShopR.zero).sort)) key h)))) (fun v =>
 (bif v then
 route_Book_Leads_l0 b shop key h t  queues places
 else (bif x.up then
 lt (route_put places (x.to)) fun r =>
 route_Book_Leads_l0 b shop key h t  queues r
 else lt (route_put queues (x.to)) fun r1 =>
 route_Book_Leads_l0 b shop key h t  r1 places))))
def route_Book_Leads (b : BookR) (shop : Bs) (key : Bs) (h : List Pair) : (List Bs) × (List Bs) × Int :=
 (bif !((shopOf b.shops shop).isSome) then
 ([], [], 10)
 else (bif decide ((((shopOf b.shops shop).getD ShopR.zero).sort) = 4) then
 ([], [((shopOf b.shops shop).getD ShopR.zero).to], 0)
 else route_Book_Leads_l0 b shop key h b.binds  [] []))
end Go.SW.V
set_option linter.unusedVariables false
set_option maxRecDepth 100000
namespace Go.SW.V
open Go.SW
def chans_Chan_Lend (c : ChanR) (x : LentR) : ChanR :=
 (⟨c.credit, c.takers, [c.lent, [x]].flatten, c.sure, c.drafts, c.puts, c.held⟩ : ChanR)
def chans_Chan_Unsettled (c : ChanR) : (List LentR) :=
 c.lent
end Go.SW.V
namespace Go.SW.V
open Go.SW
end Go.SW.V
namespace Go.SW.V
open Go.SW
structure DOk (x : DraftR) : Prop where
  len : x.l.length ≤ 16
  ok : ∀ d ∈ x.l, deedE d = 0 ∧ (d.kind = 6 ∨ d.kind = 8)
  hd : ∀ d ∈ x.l, d.mail.head.length ≤ 1000000
theorem dok_nil : DOk ⟨[]⟩ := ⟨by simp, fun _ h => by simp at h, fun _ h => by simp at h⟩
end Go.SW.V
set_option linter.unusedVariables false
set_option maxRecDepth 100000
namespace Go.SW.V
open Go.SW
end Go.SW.V
namespace Go.SW.V
open Go.SW
structure COk (c : ChanR) (n : Nat) : Prop where
  cr : 0 ≤ c.credit ∧ c.credit ≤ 1000
  tk : c.takers.length ≤ 4
  ln : c.lent.length ≤ n
  hd : DOk c.held
theorem cok_new (n : Nat) : COk chans_New n := ⟨by simp [chans_New], by simp [chans_New], by simp [chans_New], dok_nil⟩
theorem wrap16 {m : Int} (h : 1 ≤ m) (k : m ≤ 16) : IntKind.wrap .i64 m = m := by
  simp only [IntKind.wrap, IntKind.bits, IntKind.signed]; simp; omega
theorem cok_Credit {c : ChanR} {n : Nat} (m : Int) (h : COk c n) : COk (chans_Chan_Credit c m).1 n := by
  simp only [chans_Chan_Credit, Bool.cond_eq_ite]
  split
  · exact h
  · rename_i e
    simp only [Bool.or_eq_true, decide_eq_true_eq, not_or] at e
    refine ⟨?_, h.tk, h.ln, h.hd⟩
    simp only [wrap16 (by omega : 1 ≤ m) (by omega)]; omega
theorem cok_Lend {c : ChanR} {n : Nat} (x : LentR) (h : COk c n) : COk (chans_Chan_Lend c x) (n + 1) := ⟨h.cr, h.tk, by have := h.ln; simp [chans_Chan_Lend]; omega, h.hd⟩
theorem credit_ok (c : ChanR) (n : Int) : (chans_Chan_Credit c n).2 = 0 → 0 ≤ IntKind.wrap .i64 n ∧ IntKind.wrap .i64 n ≤ 16 ∧ 1 ≤ n ∧ n ≤ 16 := by
  simp only [chans_Chan_Credit, Bool.cond_eq_ite]
  split
  · intro h; exact absurd (show (7 : Int) = 0 from h) (by decide)
  · rename_i e
    simp only [Bool.or_eq_true, decide_eq_true_eq, not_or] at e
    intro _
    rw [wrap16 (by omega) (by omega)]
    omega
end Go.SW.V
namespace Go.SW.V
open Go.SW
end Go.SW.V
namespace Go.SW
structure ActR where
  dow : Int
  n : Int
  how : Int
  queue : Bs
  upto : Bool
  l : List DeedR
deriving DecidableEq, Inhabited
def ActR.pc (x : ActR) : List PV := [.int .u8 x.dow, .int .u64 x.n, .int .u64 x.how, .str x.queue, .bool x.upto, .sl DeedR.pc x.l]
end Go.SW
set_option linter.unusedVariables false
set_option maxRecDepth 100000
namespace Go.SW.V
open Go.SW
end Go.SW.V
set_option linter.unusedVariables false
set_option maxRecDepth 100000
namespace Go.SW.V
open Go.SW
end Go.SW.V
namespace Go.SW.V
open Go.SW
end Go.SW.V
set_option linter.unusedVariables false
set_option maxRecDepth 100000
namespace Go.SW.V
open Go.SW
def l27_ChansCredit_l0 (lent : Int) (want : Int) : Nat → Nat → ChanR → Bool
  | 0, _, _ => default
  | f2 + 1, v, x => (bif decide ((v : Int) < (lent % 30)) then
 lt (chans_Chan_Room x) fun r2 =>
 (bif ((!decide (r2 = (max 0 (want - (v : Int))))) || (!decide (((chans_Chan_Unsettled x).length : Int) = (v : Int)))) then
 false
 else lt (chans_Chan_Lend x (⟨(v : Int), [113]⟩ : LentR)) fun r3 =>
 l27_ChansCredit_l0 lent want f2 (v + 1) r3)
 else lt (chans_Chan_Room x) fun r4 =>
 (decide (r4 = (max 0 (want - (lent % 30))))))
def l27_ChansCredit (n : Int) (lent : Int) : Bool :=
 lt (chans_New) fun r =>
 lt (chans_Chan_Credit r n) fun r1 =>
 (lt1 ((bif decide (r1.2 = 0) then
 (IntKind.wrap .i64 n)
 else 16)) (fun want =>
 (bif !((decide (r1.2 = 0)) == ((decide (1 ≤ n)) && (decide (n ≤ 16)))) then
 false
 else l27_ChansCredit_l0 lent want (((lent % 30) - (0 : Int)).toNat + 1) 0 r1.1)))
end Go.SW.V
namespace Go.Proofs
open Go.Shelf
def Tryz.lays146_ren : Go.Shelf.Ren := ⟨fun | 146 => 170 | 221 => 174 | 268 => 177 | 138 => 178 | 143 => 179 | 195 => 181 | 197 => 182 | 218 => 183 | 219 => 184 | 260 => 186 | 217 => 187 | 225 => 188 | 224 => 189 | 267 => 190 | 266 => 191 | 314 => 192 | n => n, fun | 9 => 9 | 31 => 146 | 3 => 3 | 4 => 4 | 0 => 0 | 105 => 237 | 21 => 21 | 5 => 5 | 46 => 236 | 119 => 242 | 139 => 245 | 138 => 244 | 146 => 247 | 51 => 246 | n => n, fun | 1 => 0 | 3 => 1 | 4 => 2 | n => n⟩
theorem Tryz.lays146 : Go.Proofs.Lays.n146 Tryz.prog Tryz.lays146_ren := {
  mixed := by kernel_rfl
  f138 := Tryz.func178.trans (congrArg some (by kernel_rfl))
  f143 := Tryz.func179.trans (congrArg some (by kernel_rfl))
  f146 := Tryz.func170.trans (congrArg some (by kernel_rfl))
  f195 := Tryz.func181.trans (congrArg some (by kernel_rfl))
  f197 := Tryz.func182.trans (congrArg some (by kernel_rfl))
  f217 := Tryz.func187.trans (congrArg some (by kernel_rfl))
  f218 := Tryz.func183.trans (congrArg some (by kernel_rfl))
  f219 := Tryz.func184.trans (congrArg some (by kernel_rfl))
  f221 := Tryz.func174.trans (congrArg some (by kernel_rfl))
  f224 := Tryz.func189.trans (congrArg some (by kernel_rfl))
  f225 := Tryz.func188.trans (congrArg some (by kernel_rfl))
  f260 := Tryz.func186.trans (congrArg some (by kernel_rfl))
  f266 := Tryz.func191.trans (congrArg some (by kernel_rfl))
  f267 := Tryz.func190.trans (congrArg some (by kernel_rfl))
  f268 := Tryz.func177.trans (congrArg some (by kernel_rfl))
  f314 := Tryz.func192.trans (congrArg some (by kernel_rfl))
  t0 := Tryz.underlying0
  a0 := Tryz.isAgg0
  z0 := Tryz.sizeOf0
  v0 := Tryz.zeroValue0
  t3 := Tryz.underlying3
  a3 := Tryz.isAgg3
  z3 := Tryz.sizeOf3
  v3 := Tryz.zeroValue3
  t4 := Tryz.underlying4
  a4 := Tryz.isAgg4
  z4 := Tryz.sizeOf4
  v4 := Tryz.zeroValue4
  t5 := Tryz.underlying5
  a5 := Tryz.isAgg5
  z5 := Tryz.sizeOf5
  v5 := Tryz.zeroValue5
  t9 := Tryz.underlying9
  a9 := Tryz.isAgg9
  z9 := Tryz.sizeOf9
  v9 := Tryz.zeroValue9
  t21 := Tryz.underlying21
  a21 := Tryz.isAgg21
  z21 := Tryz.sizeOf21
  v21 := Tryz.zeroValue21
  t31 := Tryz.underlying146
  a31 := Tryz.isAgg146
  z31 := Tryz.sizeOf146
  v31 := Tryz.zeroValue146
  t46 := Tryz.underlying236
  a46 := Tryz.isAgg236
  z46 := Tryz.sizeOf236
  v46 := Tryz.zeroValue236
  t51 := Tryz.underlying246
  a51 := Tryz.isAgg246
  z51 := Tryz.sizeOf246
  v51 := Tryz.zeroValue246
  t105 := Tryz.underlying237
  a105 := Tryz.isAgg237
  z105 := Tryz.sizeOf237
  v105 := Tryz.zeroValue237
  t119 := Tryz.underlying242
  a119 := Tryz.isAgg242
  z119 := Tryz.sizeOf242
  t138 := Tryz.underlying244
  a138 := Tryz.isAgg244
  z138 := Tryz.sizeOf244
  v138 := Tryz.zeroValue244
  t139 := Tryz.underlying245
  a139 := Tryz.isAgg245
  z139 := Tryz.sizeOf245
  v139 := Tryz.zeroValue245
  t146 := Tryz.underlying247
  a146 := Tryz.isAgg247
  z146 := Tryz.sizeOf247
  v146 := Tryz.zeroValue247
  g1 := by kernel_rfl
  g3 := by kernel_rfl
  g4 := by kernel_rfl }
open Go.RowKit Go.Lib in
theorem Tryz.strings_Split (s sep : ByteArray) (m : Int) (w : World) (hs : s.size < 4294967281) (hm : w.cell? ⟨0, 0, none⟩ = some (.int .i64 m)) (h1 : 1 ≤ sep.size) :
    Calls Tryz.prog 170 #[.string s, .string sep] w fun e w' =>
      e = .returned (.slice (some ⟨w.heap.size, 0, none⟩) (Lib.countB s sep + 1) (Lib.countB s sep + 1)) ∧ w' = w.alloc (.cells ((Lib.splitB sep 0 (Lib.countB s sep) s).map Value.string).toArray 9) := Any.strings_Split Tryz.lays146 (by kernel_rfl) s sep m w hs hm h1
end Go.Proofs
namespace Go.SW
open Go.Proofs
theorem strings_Split (H : Hp) (s p : Bs) (hp : p = [46]) (hML : GInt H 0) (hs : s.length < 4294967281) : Ph Tryz.prog 170 #[str s, str p] H (fun v H' => ∃ (a : Option Addr) (c : Nat), v = .slice a (dots s).length c ∧ SlH strE 1 H' (.slice a (dots s).length c) (dots s)) := by
  subst hp
  refine ph_strs (T := 9) (fun w hw => by have := dots_piece s w hw; omega) fun N L w hm => ?_
  obtain ⟨m, hc⟩ := hML.cell hm
  refine (Tryz.strings_Split ⟨s.toArray⟩ ⟨#[46]⟩ m w (by simpa [ba_size] using hs) hc (by decide)).mono fun e w' ⟨he, hw⟩ => ⟨?_, ?_⟩
  · rw [he, splitB_len]
  · rw [hw, splitB_dots]
end Go.SW
set_option linter.unusedVariables false
set_option maxRecDepth 100000
set_option maxHeartbeats 4000000
namespace Go.SW
open Go.Proofs
theorem ag181 : Ag Tryz.prog 181 false := fun w => by kernel_rfl
theorem ag31 : Ag Tryz.prog 31 false := fun w => by kernel_rfl
theorem ag9 : Ag Tryz.prog 9 false := fun w => by kernel_rfl
theorem bd234_0s (a1 : Bs) (w : World) : (Instr.build 234 #[(0, str a1)]).run Tryz.prog w = .ok (.agg #[str a1, .int .i64 0]) w := by kernel_rfl
theorem cb142 : Callable Tryz.prog 142 := callable_of Tryz.func142 (by kernel_rfl) (by kernel_rfl)
theorem cb185 : Callable Tryz.prog 185 := callable_of Tryz.func185 (by kernel_rfl) (by kernel_rfl)
theorem fl184_0 : Fld Tryz.prog 184 0 0 := fun b o w => by kernel_rfl
theorem fl234_0 : Fld Tryz.prog 234 0 0 := fun b o w => by kernel_rfl
theorem fl234_1 : Fld Tryz.prog 234 1 1 := fun b o w => by kernel_rfl
theorem la184_184 : liesAt Tryz.prog Tryz.prog.depth 184 (2 / Tryz.prog.cellsOf 184) 0 184 1 = true := by kernel_rfl
theorem ne160 : NoEsc Tryz.prog 160 := noEsc_of Tryz.func160 (by kernel_rfl) (by kernel_rfl) (by kernel_rfl) (by kernel_rfl)
theorem sz181 : Sz Tryz.prog 181 1 := fun w => by kernel_rfl
theorem sz31 : Sz Tryz.prog 31 1 := fun w => by kernel_rfl
theorem sz9 : Sz Tryz.prog 9 1 := fun w => by kernel_rfl
theorem ti184 : ∃ j, Tryz.prog.info? 184 = some j := Option.isSome_iff_exists.1 (by kernel_rfl)
theorem tz184 : ∃ j, Tryz.prog.info? 184 = some j ∧ j.size ≠ 0 := exInfo (by kernel_rfl)
theorem words_plain (H : Hp) (s : Bs) (hs : s.length ≤ 9223372036854775807) : Pr Tryz.prog 127 #[str s] H (.bool (plain s)) := by
  refine pr_cw Tryz.func127 rfl Tryz.ntmps127 rfl (fun N => ?_)
  refine cw_seq (cw_region (oab rfl rfl (ow_nil (seqK_n (cw_seq ?_)))))
  refine cw_seq (cw_region (ol rfl (lo_move (v := str _) rfl) (ol rfl (lo_len_str rfl Tryz.underlying9) (omi rfl rfl (ow_nil ?_)))))
  refine seqK_n (cw_block (cw_loop1 [2, 3, 4, 7, 8, 9, 10, 11, 12, 13, 14, 15, 16, 17, 18, 19, 20, 21, 22, 23, 24, 25, 26, 27, 28, 29, 30] [] (fun (k : Nat) G => upd (G) 7 (.int .i64 (k : Int))) (fun (k : Nat) G => G) (fun (k : Nat) H' => k ≤ s.length ∧ (s.drop k).all (fun c => letter c.toNat) = plain s) (fun (k : Nat) => s.length - k) 0 (upd_intro (mask_intro (by first | exact off_refl | (repeat (first | exact off_mask | refine off_upd rfl ?_ | refine off_mask2 rfl ?_)))) rfl) (lmask_intro offl_refl) ?_ ?_))
  · exact ⟨by omega, rfl⟩
  intro k J2 JL2 H2 hp1 hl2
  obtain ⟨hk1, hk2⟩ := hp1
  refine cw_seq (cw_region (ol rfl (lo_lss rfl rfl) (ow_nil (seqK_n (cw_seq ?_)))))
  refine cw_cond rfl (fun h3 => ?_) (fun h3 => ?_)
  · have p4 := dt h3
    refine cw_skip (seqK_n (cw_seq (cw_block (cw_seq (cw_region ?_)))))
    refine omi rfl rfl (oai rfl rfl (ow_nil (seqK_n (cw_seq (cw_region ?_)))))
    refine ol rfl (lo_move (v := str _) rfl) (omi rfl rfl ?_)
    have := u8r (s.getD k 0)
    refine ol rfl (lo_index_str k rfl rfl Tryz.underlying9 (by omega) (by omega)) (oai rfl rfl (ow_nil (seqK_n (cw_block (cw_seq ?_)))))
    refine cw_seq (cw_region (omi rfl rfl (ol rfl (lo_geq rfl rfl) (omb rfl rfl (ow_sp (j := 2) rfl (fun h5 => ?_) (fun h5 => ?_))))))
    · have p6 := dt h5
      refine ow1 (op1_g rfl h5 rfl (lo_move (v := .int _ _) rfl) ?_)
      refine ow1 (op1_g rfl h5 rfl (lo_leq rfl rfl) ?_)
      refine ol rfl (lo_pick_t (v := .bool _) rfl h5 rfl) (oab rfl rfl (ow_nil (seqK_n (cw_cond rfl (fun h7 => ?_) (fun h7 => ?_)))))
      · have p8 := dt h7
        refine cw_skip (seqK_n (cw_cond_t rfl h7 (cw_skip (blkK_n (blkK_n ?_)))))
        refine seqK_n (cw_region (ol rfl (lo_add rfl rfl (rg_i64 (by omega))) (omi rfl rfl (ow_nil ?_))))
        refine next1 (k + 1) (upd_intro (mask_intro (by first | exact off_refl | (repeat (first | exact off_mask | refine off_upd rfl ?_ | refine off_mask2 rfl ?_)))) rfl) (lmask_intro (by first | exact offl_refl | (repeat (first | exact offl_mask | refine offl_upd rfl ?_ | refine offl_mask2 rfl ?_)))) hl2 ?_ ?_
        · exact ⟨by omega, by rw [← hk2, drop_getD (k := k) (by omega), List.all_cons]; generalize ((s.getD k 0).toNat : Int) = z at *; simp [letter, *]⟩
        omega
      have p9 := df h7
      refine cw_seq (cw_region (omi rfl rfl (ol rfl (lo_geq rfl rfl) (omb rfl rfl (ow_sp (j := 2) rfl (fun h10 => ?_) (fun h10 => ?_))))))
      · have p11 := dt h10
        refine ow1 (op1_g rfl h10 rfl (lo_move (v := .int _ _) rfl) ?_)
        refine ow1 (op1_g rfl h10 rfl (lo_leq rfl rfl) ?_)
        refine ol rfl (lo_pick_t (v := .bool _) rfl h10 rfl) (oab rfl rfl (ow_nil (seqK_n (cw_cond rfl (fun h12 => ?_) (fun h12 => ?_)))))
        · have p13 := dt h12
          refine cw_skip (seqK_n (cw_cond_t rfl h12 (cw_skip (blkK_n (blkK_n ?_)))))
          refine seqK_n (cw_region (ol rfl (lo_add rfl rfl (rg_i64 (by omega))) (omi rfl rfl (ow_nil ?_))))
          refine next1 (k + 1) (upd_intro (mask_intro (by first | exact off_refl | (repeat (first | exact off_mask | refine off_upd rfl ?_ | refine off_mask2 rfl ?_)))) rfl) (lmask_intro (by first | exact offl_refl | (repeat (first | exact offl_mask | refine offl_upd rfl ?_ | refine offl_mask2 rfl ?_)))) hl2 ?_ ?_
          · exact ⟨by omega, by rw [← hk2, drop_getD (k := k) (by omega), List.all_cons]; generalize ((s.getD k 0).toNat : Int) = z at *; simp [letter, *]⟩
          omega
        have p14 := df h12
        refine cw_seq (cw_region (omi rfl rfl (ol rfl (lo_eql rfl rfl) (oab rfl rfl (ow_nil ?_)))))
        refine seqK_n (cw_cond rfl (fun h15 => ?_) (fun h15 => ?_))
        · have p16 := dt h15
          refine cw_skip (seqK_n (cw_cond_t rfl h15 (cw_skip (blkK_n (blkK_n ?_)))))
          refine seqK_n (cw_region (ol rfl (lo_add rfl rfl (rg_i64 (by omega))) (omi rfl rfl (ow_nil ?_))))
          refine next1 (k + 1) (upd_intro (mask_intro (by first | exact off_refl | (repeat (first | exact off_mask | refine off_upd rfl ?_ | refine off_mask2 rfl ?_)))) rfl) (lmask_intro (by first | exact offl_refl | (repeat (first | exact offl_mask | refine offl_upd rfl ?_ | refine offl_mask2 rfl ?_)))) hl2 ?_ ?_
          · exact ⟨by omega, by rw [← hk2, drop_getD (k := k) (by omega), List.all_cons]; generalize ((s.getD k 0).toNat : Int) = z at *; simp [letter, *]⟩
          omega
        have p17 := df h15
        refine cw_region (omi rfl rfl (ol rfl (lo_eql rfl rfl) (oab rfl rfl (ow_nil (seqK_n ?_)))))
        refine cw_cond rfl (fun h18 => ?_) (fun h18 => ?_)
        · have p19 := dt h18
          refine cw_skip (blkK_n (blkK_n (seqK_n (cw_region (ol rfl (lo_add rfl rfl (rg_i64 (by omega))) ?_)))))
          refine omi rfl rfl (ow_nil ?_)
          refine next1 (k + 1) (upd_intro (mask_intro (by first | exact off_refl | (repeat (first | exact off_mask | refine off_upd rfl ?_ | refine off_mask2 rfl ?_)))) rfl) (lmask_intro (by first | exact offl_refl | (repeat (first | exact offl_mask | refine offl_upd rfl ?_ | refine offl_mask2 rfl ?_)))) hl2 ?_ ?_
          · exact ⟨by omega, by rw [← hk2, drop_getD (k := k) (by omega), List.all_cons]; generalize ((s.getD k 0).toNat : Int) = z at *; simp [letter, *]⟩
          omega
        have p20 := df h18
        refine cw_seq (cw_region (oab rfl rfl (ow_nil (seqK_n (cw_ret ?_)))))
        refine blkK_r (blkK_r (seqK_r (loopK_r (blkK_r (seqK_r ?_)))))
        refine fnK_r (res1 rfl (rv_t (v := .bool _) rfl)) ((HLe.refl _).trans hl2) ?_
        first | (rw [← hk2, drop_getD (k := k) (by omega), List.all_cons]; generalize ((s.getD k 0).toNat : Int) = z at *; simp [letter, *]; done) | (rw [← hk2, List.drop_of_length_le (by omega)]; rfl)
      have p21 := df h10
      refine og rfl h10 rfl (og rfl h10 rfl (ol rfl (lo_pick_f (v := .bool _) rfl h10 rfl) (oab rfl rfl (ow_nil (seqK_n ?_)))))
      refine cw_cond_f rfl rfl (cw_seq (cw_region (omi rfl rfl (ol rfl (lo_eql rfl rfl) (oab rfl rfl ?_)))))
      refine ow_nil (seqK_n (cw_cond rfl (fun h22 => ?_) (fun h22 => ?_)))
      · have p23 := dt h22
        refine cw_skip (seqK_n (cw_cond_t rfl h22 (cw_skip (blkK_n (blkK_n ?_)))))
        refine seqK_n (cw_region (ol rfl (lo_add rfl rfl (rg_i64 (by omega))) (omi rfl rfl (ow_nil ?_))))
        refine next1 (k + 1) (upd_intro (mask_intro (by first | exact off_refl | (repeat (first | exact off_mask | refine off_upd rfl ?_ | refine off_mask2 rfl ?_)))) rfl) (lmask_intro (by first | exact offl_refl | (repeat (first | exact offl_mask | refine offl_upd rfl ?_ | refine offl_mask2 rfl ?_)))) hl2 ?_ ?_
        · exact ⟨by omega, by rw [← hk2, drop_getD (k := k) (by omega), List.all_cons]; generalize ((s.getD k 0).toNat : Int) = z at *; simp [letter, *]⟩
        omega
      have p24 := df h22
      refine cw_region (omi rfl rfl (ol rfl (lo_eql rfl rfl) (oab rfl rfl (ow_nil (seqK_n ?_)))))
      refine cw_cond rfl (fun h25 => ?_) (fun h25 => ?_)
      · have p26 := dt h25
        refine cw_skip (blkK_n (blkK_n (seqK_n (cw_region (ol rfl (lo_add rfl rfl (rg_i64 (by omega))) ?_)))))
        refine omi rfl rfl (ow_nil ?_)
        refine next1 (k + 1) (upd_intro (mask_intro (by first | exact off_refl | (repeat (first | exact off_mask | refine off_upd rfl ?_ | refine off_mask2 rfl ?_)))) rfl) (lmask_intro (by first | exact offl_refl | (repeat (first | exact offl_mask | refine offl_upd rfl ?_ | refine offl_mask2 rfl ?_)))) hl2 ?_ ?_
        · exact ⟨by omega, by rw [← hk2, drop_getD (k := k) (by omega), List.all_cons]; generalize ((s.getD k 0).toNat : Int) = z at *; simp [letter, *]⟩
        omega
      have p27 := df h25
      refine cw_seq (cw_region (oab rfl rfl (ow_nil (seqK_n (cw_ret ?_)))))
      refine blkK_r (blkK_r (seqK_r (loopK_r (blkK_r (seqK_r ?_)))))
      refine fnK_r (res1 rfl (rv_t (v := .bool _) rfl)) ((HLe.refl _).trans hl2) ?_
      first | (rw [← hk2, drop_getD (k := k) (by omega), List.all_cons]; generalize ((s.getD k 0).toNat : Int) = z at *; simp [letter, *]; done) | (rw [← hk2, List.drop_of_length_le (by omega)]; rfl)
    have p28 := df h5
    refine og rfl h5 rfl (og rfl h5 rfl (ol rfl (lo_pick_f (v := .bool _) rfl h5 rfl) (oab rfl rfl (ow_nil (seqK_n ?_)))))
    refine cw_cond_f rfl rfl (cw_seq (cw_region (omi rfl rfl (ol rfl (lo_geq rfl rfl) (omb rfl rfl ?_)))))
    refine ow_sp (j := 2) rfl (fun h29 => ?_) (fun h29 => ?_)
    · have p30 := dt h29
      refine ow1 (op1_g rfl h29 rfl (lo_move (v := .int _ _) rfl) ?_)
      refine ow1 (op1_g rfl h29 rfl (lo_leq rfl rfl) ?_)
      refine ol rfl (lo_pick_t (v := .bool _) rfl h29 rfl) (oab rfl rfl (ow_nil (seqK_n (cw_cond rfl (fun h31 => ?_) (fun h31 => ?_)))))
      · have p32 := dt h31
        refine cw_skip (seqK_n (cw_cond_t rfl h31 (cw_skip (blkK_n (blkK_n ?_)))))
        refine seqK_n (cw_region (ol rfl (lo_add rfl rfl (rg_i64 (by omega))) (omi rfl rfl (ow_nil ?_))))
        refine next1 (k + 1) (upd_intro (mask_intro (by first | exact off_refl | (repeat (first | exact off_mask | refine off_upd rfl ?_ | refine off_mask2 rfl ?_)))) rfl) (lmask_intro (by first | exact offl_refl | (repeat (first | exact offl_mask | refine offl_upd rfl ?_ | refine offl_mask2 rfl ?_)))) hl2 ?_ ?_
        · exact ⟨by omega, by rw [← hk2, drop_getD (k := k) (by omega), List.all_cons]; generalize ((s.getD k 0).toNat : Int) = z at *; simp [letter, *]⟩
        omega
      have p33 := df h31
      refine cw_seq (cw_region (omi rfl rfl (ol rfl (lo_eql rfl rfl) (oab rfl rfl (ow_nil ?_)))))
      refine seqK_n (cw_cond rfl (fun h34 => ?_) (fun h34 => ?_))
      · have p35 := dt h34
        refine cw_skip (seqK_n (cw_cond_t rfl h34 (cw_skip (blkK_n (blkK_n ?_)))))
        refine seqK_n (cw_region (ol rfl (lo_add rfl rfl (rg_i64 (by omega))) (omi rfl rfl (ow_nil ?_))))
        refine next1 (k + 1) (upd_intro (mask_intro (by first | exact off_refl | (repeat (first | exact off_mask | refine off_upd rfl ?_ | refine off_mask2 rfl ?_)))) rfl) (lmask_intro (by first | exact offl_refl | (repeat (first | exact offl_mask | refine offl_upd rfl ?_ | refine offl_mask2 rfl ?_)))) hl2 ?_ ?_
        · exact ⟨by omega, by rw [← hk2, drop_getD (k := k) (by omega), List.all_cons]; generalize ((s.getD k 0).toNat : Int) = z at *; simp [letter, *]⟩
        omega
      have p36 := df h34
      refine cw_region (omi rfl rfl (ol rfl (lo_eql rfl rfl) (oab rfl rfl (ow_nil (seqK_n ?_)))))
      refine cw_cond rfl (fun h37 => ?_) (fun h37 => ?_)
      · have p38 := dt h37
        refine cw_skip (blkK_n (blkK_n (seqK_n (cw_region (ol rfl (lo_add rfl rfl (rg_i64 (by omega))) ?_)))))
        refine omi rfl rfl (ow_nil ?_)
        refine next1 (k + 1) (upd_intro (mask_intro (by first | exact off_refl | (repeat (first | exact off_mask | refine off_upd rfl ?_ | refine off_mask2 rfl ?_)))) rfl) (lmask_intro (by first | exact offl_refl | (repeat (first | exact offl_mask | refine offl_upd rfl ?_ | refine offl_mask2 rfl ?_)))) hl2 ?_ ?_
        · exact ⟨by omega, by rw [← hk2, drop_getD (k := k) (by omega), List.all_cons]; generalize ((s.getD k 0).toNat : Int) = z at *; simp [letter, *]⟩
        omega
      have p39 := df h37
      refine cw_seq (cw_region (oab rfl rfl (ow_nil (seqK_n (cw_ret ?_)))))
      refine blkK_r (blkK_r (seqK_r (loopK_r (blkK_r (seqK_r ?_)))))
      refine fnK_r (res1 rfl (rv_t (v := .bool _) rfl)) ((HLe.refl _).trans hl2) ?_
      first | (rw [← hk2, drop_getD (k := k) (by omega), List.all_cons]; generalize ((s.getD k 0).toNat : Int) = z at *; simp [letter, *]; done) | (rw [← hk2, List.drop_of_length_le (by omega)]; rfl)
    have p40 := df h29
    refine og rfl h29 rfl (og rfl h29 rfl (ol rfl (lo_pick_f (v := .bool _) rfl h29 rfl) (oab rfl rfl (ow_nil (seqK_n ?_)))))
    refine cw_cond_f rfl rfl (cw_seq (cw_region (omi rfl rfl (ol rfl (lo_eql rfl rfl) (oab rfl rfl ?_)))))
    refine ow_nil (seqK_n (cw_cond rfl (fun h41 => ?_) (fun h41 => ?_)))
    · have p42 := dt h41
      refine cw_skip (seqK_n (cw_cond_t rfl h41 (cw_skip (blkK_n (blkK_n ?_)))))
      refine seqK_n (cw_region (ol rfl (lo_add rfl rfl (rg_i64 (by omega))) (omi rfl rfl (ow_nil ?_))))
      refine next1 (k + 1) (upd_intro (mask_intro (by first | exact off_refl | (repeat (first | exact off_mask | refine off_upd rfl ?_ | refine off_mask2 rfl ?_)))) rfl) (lmask_intro (by first | exact offl_refl | (repeat (first | exact offl_mask | refine offl_upd rfl ?_ | refine offl_mask2 rfl ?_)))) hl2 ?_ ?_
      · exact ⟨by omega, by rw [← hk2, drop_getD (k := k) (by omega), List.all_cons]; generalize ((s.getD k 0).toNat : Int) = z at *; simp [letter, *]⟩
      omega
    have p43 := df h41
    refine cw_region (omi rfl rfl (ol rfl (lo_eql rfl rfl) (oab rfl rfl (ow_nil (seqK_n ?_)))))
    refine cw_cond rfl (fun h44 => ?_) (fun h44 => ?_)
    · have p45 := dt h44
      refine cw_skip (blkK_n (blkK_n (seqK_n (cw_region (ol rfl (lo_add rfl rfl (rg_i64 (by omega))) ?_)))))
      refine omi rfl rfl (ow_nil ?_)
      refine next1 (k + 1) (upd_intro (mask_intro (by first | exact off_refl | (repeat (first | exact off_mask | refine off_upd rfl ?_ | refine off_mask2 rfl ?_)))) rfl) (lmask_intro (by first | exact offl_refl | (repeat (first | exact offl_mask | refine offl_upd rfl ?_ | refine offl_mask2 rfl ?_)))) hl2 ?_ ?_
      · exact ⟨by omega, by rw [← hk2, drop_getD (k := k) (by omega), List.all_cons]; generalize ((s.getD k 0).toNat : Int) = z at *; simp [letter, *]⟩
      omega
    have p46 := df h44
    refine cw_seq (cw_region (oab rfl rfl (ow_nil (seqK_n (cw_ret ?_)))))
    refine blkK_r (blkK_r (seqK_r (loopK_r (blkK_r (seqK_r ?_)))))
    refine fnK_r (res1 rfl (rv_t (v := .bool _) rfl)) ((HLe.refl _).trans hl2) ?_
    first | (rw [← hk2, drop_getD (k := k) (by omega), List.all_cons]; generalize ((s.getD k 0).toNat : Int) = z at *; simp [letter, *]; done) | (rw [← hk2, List.drop_of_length_le (by omega)]; rfl)
  have p47 := df h3
  refine cw_exit (seqK_e (loopK_e (blkK_hit (seqK_n (cw_seq ?_)))))
  refine cw_region (oab rfl rfl (ow_nil (seqK_n (cw_ret (fnK_r (res1 rfl (rv_t (v := .bool _) rfl)) ((HLe.refl _).trans hl2) ?_)))))
  first | (rw [← hk2, drop_getD (k := k) (by omega), List.all_cons]; generalize ((s.getD k 0).toNat : Int) = z at *; simp [letter, *]; done) | (rw [← hk2, List.drop_of_length_le (by omega)]; rfl)
set_option maxRecDepth 100000 in
theorem copyCheck {n : Nat} {N : Rest} {F : Fr} {H : Hp} {L : Ls} {ops : List Oper} {ty d : Nat} {pos : String} {af : Array Edge} {K : Fr → Hp → Ls → Prop} {x : Operand} {ats : Array TypeId} {b : Nat} {p v : Value} (i : Nat) (hx : ev F x = .pointer (some ⟨b, 0, none⟩)) (hi : L i = some (b, bx 184 [p, v]))
    (hp : p = .pointer none ∨ p = .pointer (some ⟨b, 0, none⟩)) (hd : Nat.blt d n = true) (k : K (upd F d (.tuple #[])) H (lupd L i (some (b, bx 184 [.pointer (some ⟨b, 0, none⟩), v])))) : Op1 Tryz.prog n N ops ⟨some d, .call ⟨.value (.func 142), #[x], ats⟩, ty, pos, af, none⟩ K F H L := by
  refine op1_in (en_f (vs := [.pointer (some ⟨b, 0, none⟩)]) cb142 (by simp [evs, hx])) Tryz.func142 rfl Tryz.ntmps142 rfl hd (cw_seq (cw_region (ol rfl (lo_move (v := .pointer (some ⟨_, _, none⟩)) rfl) (ol rfl (lo_nilCheck rfl) (ol rfl (lo_fieldAddr rfl fl184_0) ?_)))))
  refine ol rfl (lo_load1 (i := i) (v := p) rfl ag181 hi rfl) ?_
  rcases hp with rfl | rfl
  · refine ol rfl (lo_pnil rfl rfl Tryz.underlying181) (ow_nil (seqK_n (cw_cond_t rfl rfl (cw_region (ol rfl (lo_move (v := .pointer (some ⟨_, _, none⟩)) rfl) ?_)))))
    refine ol rfl (lo_move (v := .pointer (some ⟨_, _, none⟩)) rfl) (ol rfl (lo_toUnsafe (i := i) rfl hi rfl Tryz.underlying181 Tryz.underlying215 (tz184).choose_spec.1 (tz184).choose_spec.2) (ol rfl (lo_noEsc (v := .pointer (some ⟨_, _, none⟩)) ne160 rfl) (ol rfl (lo_fromUnsafe (i := i) rfl hi Tryz.underlying215 Tryz.underlying181 (ti184).choose_spec la184_184) (ol rfl (lo_nilCheck rfl) (ol rfl (lo_fieldAddr rfl fl184_0) ?_)))))
    refine ow1 (op1_store1 (i := i) (v := .pointer (some ⟨_, _, none⟩)) rfl rfl rfl sz181 hi rfl ?_)
    refine ow_nil ?_
    exact fnK_n (res0 rfl) (.refl _) k
  · refine ol rfl (lo_peq_nil rfl rfl Tryz.underlying181) (ow_nil (seqK_n (cw_cond_f rfl rfl (cw_seq (cw_region ?_)))))
    refine ol rfl (lo_move (v := .pointer (some ⟨_, _, none⟩)) rfl) (ol rfl (lo_nilCheck rfl) (ol rfl (lo_fieldAddr rfl fl184_0) (ol rfl (lo_load1 (i := i) (v := .pointer (some ⟨b, 0, none⟩)) rfl ag181 hi rfl) (ol rfl (lo_move (v := .pointer (some ⟨_, _, none⟩)) rfl) (ol rfl (lo_pne_self rfl rfl Tryz.underlying181 (ti184).choose_spec) ?_)))))
    refine ow_nil (seqK_n (cw_cond_f rfl rfl (cw_skip (fnK_n (res0 rfl) (.refl _) ?_))))
    rwa [lupd_eta hi] at k
theorem octet_New (H : Hp) (s : Bs) : Pn Tryz.prog 175 #[str s] H (fun v H' b o' => v = .pointer (some ⟨b, 0, none⟩) ∧ H = H' ∧ o' = bx 234 (In.cells (⟨s, 0⟩))) := by
  refine pn_cw Tryz.func175 rfl Tryz.ntmps175 rfl (fun N => ?_)
  refine cw_seq (cw_region (ol rfl (lo_assign rfl) (ow_nil (seqK_n (cw_seq ?_)))))
  refine cw_region (ol rfl (lo_move (v := str _) rfl) (ol rfl (lo_build (v := .agg #[_, _]) rfl (bd234_0s _)) (ow1 (op1_box (cs := [_, _]) 0 rfl rfl (fun b1 => ?_)))))
  refine ol rfl (lo_assign (v := .pointer (some ⟨_, _, none⟩)) rfl) (ow_nil (seqK_n (cw_ret (fnK_r (res1 rfl (rv_t (v := .pointer (some ⟨_, _, none⟩)) rfl)) (.refl _) ?_))))
  exact ⟨0, _, _, rfl, rfl, rfl, rfl⟩
theorem in_Fail (H : Hp) (i_b : Nat) (i : In) (code : Int) (code_r : -9223372036854775808 ≤ code ∧ code ≤ 9223372036854775807) : Pm Tryz.prog 185 #[.pointer (some ⟨i_b, 0, none⟩), .int .i64 code] H i_b (bx 234 (In.cells i)) (fun v H' o' => v = .tuple #[] ∧ H = H' ∧ o' = bx 234 (In.cells (inFail i code))) := by
  refine pm_cw Tryz.func185 rfl Tryz.ntmps185 rfl (fun N => ?_)
  refine cw_seq (cw_region (ol rfl (lo_move (v := .pointer (some ⟨_, _, none⟩)) rfl) (ol rfl (lo_pne_nil rfl rfl Tryz.underlying229) (omb rfl rfl ?_))))
  refine ow1 (op1_g rfl rfl rfl (lo_move (v := .pointer (some ⟨_, _, none⟩)) rfl) ?_)
  refine ow1 (op1_g rfl rfl rfl (lo_nilCheck rfl) ?_)
  refine ow1 (op1_g rfl rfl rfl (lo_fieldAddr rfl fl234_1) ?_)
  refine ow1 (op1_g rfl rfl rfl (lo_load1 (i := 0) (v := .int _ _) rfl ag31 rfl rfl) ?_)
  refine ow1 (op1_g rfl rfl rfl (lo_eql rfl rfl) ?_)
  refine ol rfl (lo_pick_t (v := .bool _) rfl rfl rfl) (omb rfl rfl (ow_sp (j := 9) rfl (fun h1 => ?_) (fun h1 => ?_)))
  · have p2 := dt h1
    refine ow1 (op1_g rfl h1 rfl (lo_move (v := .int _ _) rfl) ?_)
    refine ow1 (op1_g rfl h1 rfl (lo_neq rfl rfl) ?_)
    refine ol rfl (lo_pick_t (v := .bool _) rfl h1 rfl) (ow_nil (seqK_n (cw_cond rfl (fun h3 => ?_) (fun h3 => ?_))))
    · have h4 := not_t h3
      have p5 := df h4
      refine cw_region (ol rfl (lo_move (v := .pointer (some ⟨_, _, none⟩)) rfl) (ol rfl (lo_move (v := .pointer (some ⟨_, _, none⟩)) rfl) (omi rfl rfl (ol rfl (lo_nilCheck rfl) (ol rfl (lo_fieldAddr rfl fl234_0) ?_)))))
      refine ow1 (op1_store1 (i := 0) (v := str _) rfl rfl rfl sz9 rfl rfl ?_)
      refine ol rfl (lo_nilCheck rfl) (ol rfl (lo_fieldAddr rfl fl234_1) ?_)
      refine ow1 (op1_store1 (i := 0) (v := .int _ _) rfl rfl rfl sz31 rfl rfl ?_)
      refine ow_nil (fnK_n (res0 rfl) (.refl _) ?_)
      refine ⟨_, rfl, ?_⟩
      refine ⟨?_, rfl, ?_⟩ <;> simp [inRaw, inFail, In.cells, *]
    have h6 := not_f h3
    have p7 := dt h6
    refine cw_skip (fnK_n (res0 rfl) (.refl _) ?_)
    refine ⟨_, rfl, ?_⟩
    refine ⟨?_, rfl, ?_⟩ <;> simp [inRaw, inFail, In.cells, *]
  have p8 := df h1
  refine og rfl h1 rfl (og rfl h1 rfl (ol rfl (lo_pick_f (v := .bool _) rfl h1 rfl) (ow_nil (seqK_n (cw_cond_f rfl rfl ?_)))))
  refine cw_skip (fnK_n (res0 rfl) (.refl _) ?_)
  refine ⟨_, rfl, ?_⟩
  refine ⟨?_, rfl, ?_⟩ <;> simp [inRaw, inFail, In.cells, *]
theorem in_Raw (H : Hp) (i_b : Nat) (i : In) (n : Int) (n_r : -9223372036854775808 ≤ n ∧ n ≤ 9223372036854775807) : Pm Tryz.prog 180 #[.pointer (some ⟨i_b, 0, none⟩), .int .i64 n] H i_b (bx 234 (In.cells i)) (fun v H' o' => v = str ((inRaw i n).1) ∧ H = H' ∧ o' = bx 234 (In.cells ((inRaw i n).2))) := by
  refine pm_cw Tryz.func180 rfl Tryz.ntmps180 rfl (fun N => ?_)
  refine cw_seq (cw_region (ol rfl (lo_assign (v := str _) rfl) (ow_nil (seqK_n (cw_seq ?_)))))
  refine cw_block (cw_seq (cw_seq (cw_region (ol rfl (lo_move (v := .pointer (some ⟨_, _, none⟩)) rfl) (ol rfl (lo_peq_nil rfl rfl Tryz.underlying229) ?_)))))
  refine oab rfl rfl (ow_nil (seqK_n (cw_cond_f rfl rfl (cw_seq (cw_region ?_)))))
  refine ol rfl (lo_move (v := .pointer (some ⟨_, _, none⟩)) rfl) (ol rfl (lo_nilCheck rfl) (ol rfl (lo_fieldAddr rfl fl234_1) (ol rfl (lo_load1 (i := 0) (v := .int _ _) rfl ag31 rfl rfl) (ol rfl (lo_neq rfl rfl) (oab rfl rfl ?_)))))
  refine ow_nil (seqK_n (cw_cond rfl (fun h1 => ?_) (fun h1 => ?_)))
  · have h2 := not_t h1
    have p3 := df h2
    refine cw_skip (seqK_n (cw_cond_t rfl h1 (cw_seq (cw_region (ol rfl (lo_assign (v := str _) rfl) ?_)))))
    refine ow_nil (seqK_n (cw_ret (blkK_r (seqK_r (fnK_r (res1 rfl (rv_t (v := str _) rfl)) (.refl _) ?_)))))
    refine ⟨_, rfl, ?_⟩
    refine ⟨?_, rfl, ?_⟩ <;> simp [inRaw, inFail, In.cells, *]
  have h4 := not_f h1
  have p5 := dt h4
  refine cw_region (omi rfl rfl (ol rfl (lo_leq rfl rfl) (oab rfl rfl (ow_nil (seqK_n ?_)))))
  refine cw_cond rfl (fun h6 => ?_) (fun h6 => ?_)
  · have p7 := dt h6
    refine cw_seq (cw_region (ol rfl (lo_assign (v := str _) rfl) (ow_nil (seqK_n (cw_ret ?_)))))
    refine blkK_r (seqK_r (fnK_r (res1 rfl (rv_t (v := str _) rfl)) (.refl _) ?_))
    refine ⟨_, rfl, ?_⟩
    refine ⟨?_, rfl, ?_⟩ <;> simp [inRaw, inFail, In.cells, *]
  have p8 := df h6
  refine cw_seq (cw_region (omi rfl rfl (ol rfl (lo_move (v := .pointer (some ⟨_, _, none⟩)) rfl) (ol rfl (lo_nilCheck rfl) (ol rfl (lo_fieldAddr rfl fl234_0) ?_)))))
  refine ol rfl (lo_load1 (i := 0) (v := str _) rfl ag9 rfl rfl) (ol rfl (lo_len_str rfl Tryz.underlying9) (ol rfl (lo_gtr rfl rfl) (oab rfl rfl (ow_nil (seqK_n ?_)))))
  refine cw_cond rfl (fun h9 => ?_) (fun h9 => ?_)
  · have p10 := dt h9
    refine cw_seq (cw_region (ol rfl (lo_move (v := .pointer (some ⟨_, _, none⟩)) rfl) ?_))
    refine ow1 (op1_pm 0 rfl (in_Fail _ i_b i 3 (by omega)) (en_f cb185 rfl) rfl ?_)
    rintro _ _ _ ⟨rfl, rfl, rfl⟩ _
    refine ow_nil (seqK_n (cw_seq (cw_region (ol rfl (lo_assign (v := str _) rfl) (ow_nil ?_)))))
    refine seqK_n (cw_ret (blkK_r (seqK_r (fnK_r (res1 rfl (rv_t (v := str _) rfl)) (.refl _) ?_))))
    refine ⟨_, rfl, ?_⟩
    refine ⟨?_, rfl, ?_⟩ <;> simp [inRaw, inFail, In.cells, *]
  have p13 := df h9
  refine cw_skip (blkK_n (seqK_n (cw_seq (cw_region (ol rfl (lo_move (v := .pointer (some ⟨_, _, none⟩)) rfl) ?_)))))
  refine ol rfl (lo_nilCheck rfl) (ol rfl (lo_fieldAddr rfl fl234_0) (ol rfl (lo_load1 (i := 0) (v := str _) rfl ag9 rfl rfl) (omi rfl rfl (ol rfl (lo_slice_str_hi (n).toNat rfl rfl Tryz.underlying9 (by omega) (by omega)) (ol rfl (lo_assign (v := str _) rfl) ?_)))))
  refine ow_nil (seqK_n (cw_seq (cw_region (ol rfl (lo_move (v := .pointer (some ⟨_, _, none⟩)) rfl) (ol rfl (lo_move (v := .pointer (some ⟨_, _, none⟩)) rfl) ?_)))))
  refine ol rfl (lo_nilCheck rfl) (ol rfl (lo_fieldAddr rfl fl234_0) (ol rfl (lo_load1 (i := 0) (v := str _) rfl ag9 rfl rfl) (omi rfl rfl (ol rfl (lo_slice_str_lo (n).toNat rfl rfl Tryz.underlying9 (by omega) (by omega)) (ol rfl (lo_nilCheck rfl) ?_)))))
  refine ol rfl (lo_fieldAddr rfl fl234_0) ?_
  refine ow1 (op1_store1 (i := 0) (v := str _) rfl rfl rfl sz9 rfl rfl ?_)
  refine ow_nil (seqK_n (cw_seq (cw_region (ol rfl (lo_move (v := str _) rfl) (ol rfl (lo_assign (v := str _) rfl) ?_)))))
  refine ow_nil (seqK_n (cw_ret (fnK_r (res1 rfl (rv_t (v := str _) rfl)) (.refl _) ?_)))
  refine ⟨_, rfl, ?_⟩
  refine ⟨?_, rfl, ?_⟩ <;> simp [inRaw, inFail, In.cells, *]
end Go.SW
set_option linter.unusedVariables false
set_option maxRecDepth 100000
set_option maxHeartbeats 4000000
namespace Go.SW
open Go.Proofs
theorem ag5 : Ag Tryz.prog 5 false := fun w => by kernel_rfl
theorem cb180 : Callable Tryz.prog 180 := callable_of Tryz.func180 (by kernel_rfl) (by kernel_rfl)
theorem sz5 : Sz Tryz.prog 5 1 := fun w => by kernel_rfl
theorem in_Num (H : Hp) (i_b : Nat) (i : In) (bytes : Int) (bytes_r : -9223372036854775808 ≤ bytes ∧ bytes ≤ 9223372036854775807) : Pm Tryz.prog 176 #[.pointer (some ⟨i_b, 0, none⟩), .int .i64 bytes] H i_b (bx 234 (In.cells i)) (fun v H' o' => v = .int .u64 ((inNum i bytes).1) ∧ H = H' ∧ o' = bx 234 (In.cells ((inNum i bytes).2))) := by
  refine pm_cw Tryz.func176 rfl Tryz.ntmps176 rfl (fun N => ?_)
  refine cw_seq (cw_region (oai rfl rfl (ow_nil (seqK_n (cw_seq ?_)))))
  refine cw_region (oai rfl rfl (ow_nil (seqK_n (cw_seq (cw_seq ?_)))))
  refine cw_region (ol rfl (lo_move (v := .pointer (some ⟨_, _, none⟩)) rfl) (omi rfl rfl (ol rfl (lo_min rfl rfl) ?_)))
  refine ow1 (op1_pm 0 rfl (in_Raw _ i_b i (min bytes 8) (by omega)) (en_f cb180 rfl) rfl ?_)
  rintro _ _ _ ⟨rfl, rfl, rfl⟩ _
  refine ow1 (op1_s2b rfl Tryz.underlying9 Tryz.underlying182 Tryz.underlying5 rfl (fun b3 cap4 H5 hl6 hs7 => ?_))
  refine ol rfl (lo_len_slh rfl hs7 Tryz.underlying182) (omi rfl rfl (ow_nil (seqK_n (cw_block (cw_loop1 [5, 7, 14, 15, 16, 17, 18, 19, 20, 21, 22, 23] [] (fun (k : Nat) G => upd (upd (G) 14 (.int .i64 (k : Int))) 5 (.int .u64 (beN ((inRaw i (min bytes 8)).1.take k) : Int))) (fun (k : Nat) G => G) (fun (k : Nat) H' => k ≤ (inRaw i (min bytes 8)).1.length) (fun (k : Nat) => (inRaw i (min bytes 8)).1.length - k) 0 (upd_intro (upd_intro (mask_intro (by first | exact off_refl | (repeat (first | exact off_mask | refine off_upd rfl ?_ | refine off_mask2 rfl ?_)))) rfl) rfl) (lmask_intro offl_refl) ?_ ?_)))))
  · exact Nat.zero_le _
  intro k J9 JL9 H9 hp8 hl9
  have hb := inRaw_len i (min bytes 8)
  refine cw_seq (cw_region (ol rfl (lo_lss rfl rfl) (ow_nil (seqK_n (cw_seq ?_)))))
  refine cw_cond rfl (fun h10 => ?_) (fun h10 => ?_)
  · have p11 := dt h10
    refine cw_skip (seqK_n (cw_seq (cw_block (cw_seq (cw_region ?_)))))
    obtain ⟨c12, hc13⟩ := getE (xs := (inRaw i (min bytes 8)).1) (m := k) (by omega)
    obtain ⟨cs14, hE15, at16⟩ := (hs7.mono ((HLe.refl _).trans hl9) (fun _ _ h => h)).get hc13
    subst hE15
    have c12_r := u8r c12
    refine ol rfl (lo_indexAddr rfl rfl (hs7.mono ((HLe.refl _).trans hl9) (fun _ _ h => h)).1 at16 Tryz.underlying182 sz5 (by omega) (by omega)) (ol rfl (lo_loadE1 rfl ag5 at16) (oai rfl rfl (ow_nil (seqK_n (cw_region ?_)))))
    refine omi rfl rfl (ol rfl (lo_shl rfl rfl (by omega)) (omi rfl rfl (ol rfl (lo_conv_in rfl (by rw [Tryz.underlying5]; rfl) Tryz.underlying22 (rg_u64 (by omega))) ?_)))
    have := wr_u64 ((BitVec.ofInt (IntKind.bits .u64) (IntKind.wrap .u64 ((beN ((inRaw i (min bytes 8)).1.take k) : Int) * 2 ^ (min (8 : Int).toNat (IntKind.bits .u64)))) ||| BitVec.ofInt (IntKind.bits .u64) (c12.toNat : Int)).toNat)
    refine ol rfl (lo_or rfl rfl) (oai rfl rfl (ow_nil (blkK_n (seqK_n (cw_region ?_)))))
    refine ol rfl (lo_add rfl rfl (rg_i64 (by omega))) (omi rfl rfl (ow_nil ?_))
    refine next1 (k + 1) (upd_intro (upd_intro (mask_intro (by first | exact off_refl | (repeat (first | exact off_mask | refine off_upd rfl ?_ | refine off_mask2 rfl ?_)))) rfl) (congrArg (Value.int .u64) (num_step hc13 (by omega)))) (lmask_intro (by first | exact offl_refl | (repeat (first | exact offl_mask | refine offl_upd rfl ?_ | refine offl_mask2 rfl ?_)))) hl9 ?_ ?_
    · omega
    omega
  have p17 := df h10
  refine cw_exit (seqK_e (loopK_e (blkK_hit (seqK_n (cw_seq ?_)))))
  refine cw_region (omi rfl rfl (oai rfl rfl (ow_nil (seqK_n (cw_down (((HLe.refl _).trans hl6).trans hl9) ?_)))))
  refine cw_ret (fnK_r (res1 rfl (rv_t (v := .int _ _) rfl)) (.refl _) ?_)
  refine ⟨_, rfl, ?_⟩
  refine ⟨?_, rfl, rfl⟩
  simp only [inNum]
  rw [List.take_of_length_le (by omega)]
end Go.SW
set_option linter.unusedVariables false
set_option maxRecDepth 100000
set_option maxHeartbeats 4000000
namespace Go.SW
open Go.Proofs
theorem ag170 : Ag Tryz.prog 170 true := fun w => by kernel_rfl
theorem ag182 : Ag Tryz.prog 182 false := fun w => by kernel_rfl
theorem by5 : By Tryz.prog 5 1 := by_of (by kernel_rfl)
theorem cb130 : Callable Tryz.prog 130 := callable_of Tryz.func130 (by kernel_rfl) (by kernel_rfl)
theorem cb131 : Callable Tryz.prog 131 := callable_of Tryz.func131 (by kernel_rfl) (by kernel_rfl)
theorem co5 : Tryz.prog.cellsOf 5 = 1 := by kernel_rfl
theorem fl170_0 : Fld Tryz.prog 170 0 0 := fun b o w => by kernel_rfl
theorem fl184_1 : Fld Tryz.prog 184 1 1 := fun b o w => by kernel_rfl
theorem mixd : Tryz.prog.follows .mixedOrders = true := by kernel_rfl
theorem sz170 : Sz Tryz.prog 170 2 := fun w => by kernel_rfl
theorem sz182 : Sz Tryz.prog 182 1 := fun w => by kernel_rfl
theorem zr170 : Zr Tryz.prog 170 [str [], .int .i64 0] := fun w => ⟨.agg #[str [], .int .i64 0], by kernel_rfl, rfl⟩
theorem zr184 : Zr Tryz.prog 184 [.pointer none, .slice none 0 0] := fun w => ⟨.agg #[.pointer none, .slice none 0 0], by kernel_rfl, rfl⟩
theorem zr5 : Zr Tryz.prog 5 [.int .u8 0] := fun w => ⟨.int .u8 0, by kernel_rfl, rfl⟩
theorem zx5 : ∃ z, ∀ w, (zeroValue 5).run Tryz.prog w = .ok z w := ⟨.int .u8 0, fun w => by kernel_rfl⟩
theorem out_Num (H : Hp) (o : Out) (n : Int) (n_r : 0 ≤ n ∧ n ≤ 18446744073709551615) (bytes : Int) (bytes_r : -9223372036854775808 ≤ bytes ∧ bytes ≤ 9223372036854775807) (hlen : o.s.length ≤ 4611686018427387904) : Pr Tryz.prog 116 #[.agg (Out.cells o).toArray, .int .u64 n, .int .i64 bytes] H (.agg (Out.cells (outNum o n bytes)).toArray) := by
  refine pr_cw Tryz.func116 rfl Tryz.ntmps116 rfl (fun N => ?_)
  refine cw_seq (cw_region (ow1 (op1_box (cs := [_, _]) 0 rfl rfl (fun b1 => ?_))))
  refine ow1 (op1_alloc 1 rfl zr170 (fun b2 => ?_))
  refine ow_nil (seqK_n (cw_seq (cw_region (ow1 (op1_alloc 2 rfl zr184 (fun b3 => ?_))))))
  refine ow_nil (seqK_n (cw_seq (cw_seq (cw_region (omi rfl rfl ?_)))))
  refine ol rfl (lo_max rfl rfl) (ol rfl (lo_min rfl rfl) (ol rfl (lo_sub rfl rfl (rg_i64 (by omega))) (oai rfl rfl (ow_nil (seqK_n ?_)))))
  refine cw_block ?_
  refine cw_loop5 [8, 13, 14, 15, 16, 17, 18, 19, 20, 21, 22] [2, 3, 4] (fun (j : Nat) (bs : Bs) (p : Value) (v : Value) (en : Option (Nat × Obj)) G => upd (G) 8 (.int .i64 ((j : Int) - 1))) (fun (j : Nat) (bs : Bs) (p : Value) (v : Value) (en : Option (Nat × Obj)) G => lupd (lupd (G) 2 (some (b3, bx 184 [p, v]))) 3 (en)) (fun (j : Nat) (bs : Bs) (p : Value) (v : Value) (en : Option (Nat × Obj)) H' => bs ++ numB j n.toNat = numB (numK bytes) n.toNat ∧ bs.length + j = numK bytes ∧ OwnV 1 5 v en bs.length (bs.map u8v) ∧ (bs.length = 0 → v = .slice none 0 0) ∧ (p = .pointer none ∨ p = .pointer (some ⟨b3, 0, none⟩))) (fun (j : Nat) (bs : Bs) (p : Value) (v : Value) (en : Option (Nat × Obj)) => j) (numK bytes) [] (.pointer none) (.slice none 0 0) none (upd_intro (mask_intro (by first | exact off_refl | (repeat (first | exact off_mask | refine off_upd rfl ?_ | refine off_mask2 rfl ?_)))) (congrArg (Value.int .i64) (show min (max bytes 0) 8 - 1 = ((numK bytes : Nat) : Int) - 1 by unfold numK; omega))) (lupd_intro (lupd_intro (lmask_intro offl_refl) rfl) rfl) ?_ ?_
  · exact ⟨rfl, by simp, ownV_nil, fun _ => rfl, .inl rfl⟩
  intro j bs p v en J5 JL5 H5 hp4 hl5
  obtain ⟨hk1, hk2, ho, hz, hpp⟩ := hp4
  have hk8 : numK bytes ≤ 8 := by unfold numK; omega
  refine cw_seq (cw_seq (cw_region (omi rfl rfl (ol rfl (lo_geq rfl rfl) (ow_nil ?_)))))
  refine seqK_n (cw_cond rfl (fun h6 => ?_) (fun h6 => ?_))
  · have p7 := dt h6
    refine cw_skip (seqK_n (cw_seq (cw_block (cw_region (omi rfl rfl ?_)))))
    refine omi rfl rfl (ol rfl (lo_mul rfl rfl (rg_i64 (by omega))) (ol rfl (lo_shr rfl rfl (by omega)) ?_))
    have := wr_u8 (Int.fdiv n (2 ^ (min ((8 * ((j : Int) - 1)) : Int).toNat (IntKind.bits .u64))))
    refine ol rfl (lo_conv rfl (by rw [Tryz.underlying22]; rfl) Tryz.underlying5) ?_
    refine ow1 (op1_in (en_f cb130 rfl) Tryz.func130 rfl Tryz.ntmps130 rfl rfl ?_)
    refine cw_seq (cw_region (ol rfl (lo_assign rfl) (ow_nil (seqK_n (cw_seq ?_)))))
    refine cw_region (ol rfl (lo_move (v := .pointer (some ⟨_, _, none⟩)) rfl) ?_)
    refine ow1 (copyCheck 2 rfl rfl hpp rfl ?_)
    refine ow_nil (seqK_n (cw_seq (cw_region (ol rfl (lo_move (v := .pointer (some ⟨_, _, none⟩)) rfl) (ol rfl (lo_move (v := .pointer (some ⟨_, _, none⟩)) rfl) ?_)))))
    refine ol rfl (lo_nilCheck rfl) (ol rfl (lo_fieldAddr rfl fl184_1) (ol rfl (lo_load1 (i := 2) rfl ag182 rfl rfl) (omi rfl rfl ?_)))
    refine ow1 (op1_bslice (cs := [_]) 4 rfl Tryz.underlying182 sz5 zx5 rfl ⟨rfl, rfl, trivial⟩ rfl rfl (by decide) (fun b8 => ?_))
    refine ow1 (op1_app 3 rfl rfl Tryz.underlying182 Tryz.underlying182 rfl sz5 by5 (by decide) zr5 ho (src_bx (i := 4) rfl rfl) (List.all_eq_true.1 rfl) rfl (by omega) rfl (fun v9 en10 ho11 => ?_))
    have ho12 := byte_app (bs := bs) ho11 (by first | rfl | simp) (wrap8r _)
    refine ol rfl (lo_nilCheck rfl) (ol rfl (lo_fieldAddr rfl fl184_1) ?_)
    refine ow1 (op1_store1 (i := 2) rfl rfl (ownV_one ho12) sz182 rfl rfl ?_)
    refine ow_nil (seqK_n (cw_seq (cw_region (ol rfl (lo_assign rfl) (ow_nil ?_)))))
    refine seqK_n (cw_ret (fnK_r (res1 rfl (rv_t rfl)) (.refl _) (ow_nil (blkK_n (seqK_n ?_)))))
    refine cw_region (omi rfl rfl (ol rfl (lo_sub rfl rfl (rg_i64 (by omega))) (oai rfl rfl (ow_nil ?_))))
    refine next5 (j - 1) (bs ++ [UInt8.ofNat ((IntKind.wrap .u8 (Int.fdiv n (2 ^ (min ((8 * ((j : Int) - 1)) : Int).toNat (IntKind.bits .u64)))))).toNat]) (.pointer (some ⟨b3, 0, none⟩)) v9 en10 (upd_intro (mask_intro (by first | exact off_refl | (repeat (first | exact off_mask | refine off_upd rfl ?_ | refine off_mask2 rfl ?_)))) (congrArg (Value.int .i64) (show ((j : Int) - 1) - 1 = ((j - 1 : Nat) : Int) - 1 by omega))) (lupd_intro (lupd_intro (lmask_intro (by first | exact offl_refl | (repeat (first | exact offl_mask | refine offl_upd rfl ?_ | refine offl_mask2 rfl ?_)))) rfl) rfl) hl5 ?_ ?_
    · refine ⟨?_, ?_, ho12, (nz_of ho12 (by simp)), .inr rfl⟩
      · rw [byte_of n_r.1 (by omega) (by omega), List.append_assoc, ← hk1]
        obtain ⟨q, rfl⟩ : ∃ q, j = q + 1 := ⟨j - 1, by omega⟩
        simp [numB]
      simp; omega
    omega
  have p13 := df h6
  refine cw_exit (seqK_e (loopK_e (blkK_hit (seqK_n (cw_seq ?_)))))
  refine cw_anyX 3 mixd (vw_q 0 rfl (by kernel_rfl) (by repeat (first | exact lle_l0 | exact LLe.refl _ | exact lle_none | refine lle_up ?_ rfl)) (fun _ _ hh hl => lo_fieldAddr rfl fl170_0) ?_)
  refine vw_q 1 rfl (by kernel_rfl) (by repeat (first | exact lle_l0 | exact LLe.refl _ | exact lle_none | refine lle_up ?_ rfl)) (fun _ _ hh hl => lo_load1 (i := 0) (v := str _) rfl ag9 (hl _ _ rfl) rfl) ?_
  refine vw_e 2 rfl (by kernel_rfl) (op1_in (en_f cb131 rfl) Tryz.func131 rfl Tryz.ntmps131 rfl rfl ?_)
  refine cw_seq (cw_region (ol rfl (lo_assign (v := str _) rfl) (ow_nil (seqK_n (cw_seq ?_)))))
  refine cw_anyX 3 mixd ?_
  refine vw_q 0 rfl (by kernel_rfl) (by repeat (first | exact lle_l0 | exact LLe.refl _ | exact lle_none | refine lle_up ?_ rfl)) (fun _ _ hh hl => lo_move (v := .pointer (some ⟨_, _, none⟩)) rfl) ?_
  refine vw_q 1 rfl (by kernel_rfl) (by repeat (first | exact lle_l0 | exact LLe.refl _ | exact lle_none | refine lle_up ?_ rfl)) (fun _ _ hh hl => lo_nilCheck rfl) ?_
  refine vw_q 2 rfl (by kernel_rfl) (by repeat (first | exact lle_l0 | exact LLe.refl _ | exact lle_none | refine lle_up ?_ rfl)) (fun _ _ hh hl => lo_fieldAddr rfl fl184_1) ?_
  refine vw_q 3 rfl (by kernel_rfl) (by repeat (first | exact lle_l0 | exact LLe.refl _ | exact lle_none | refine lle_up ?_ rfl)) (fun _ _ hh hl => lo_load1 (i := 2) rfl ag182 (hl _ _ rfl) rfl) ?_
  refine vw_q 4 rfl (by kernel_rfl) (by repeat (first | exact lle_l0 | exact LLe.refl _ | exact lle_none | refine lle_up ?_ rfl)) (fun _ _ hh hl => lo_usd rfl ho hz) ?_
  refine vw_q 5 rfl (by kernel_rfl) (by repeat (first | exact lle_l0 | exact LLe.refl _ | exact lle_none | refine lle_up ?_ rfl)) (fun _ _ hh hl => lo_move (v := .pointer (some ⟨_, _, none⟩)) rfl) ?_
  refine vw_q 6 rfl (by kernel_rfl) (by repeat (first | exact lle_l0 | exact LLe.refl _ | exact lle_none | refine lle_up ?_ rfl)) (fun _ _ hh hl => lo_nilCheck rfl) ?_
  refine vw_q 7 rfl (by kernel_rfl) (by repeat (first | exact lle_l0 | exact LLe.refl _ | exact lle_none | refine lle_up ?_ rfl)) (fun _ _ hh hl => lo_fieldAddr rfl fl184_1) ?_
  refine vw_q 8 rfl (by kernel_rfl) (by repeat (first | exact lle_l0 | exact LLe.refl _ | exact lle_none | refine lle_up ?_ rfl)) (fun _ _ hh hl => lo_load1 (i := 2) rfl ag182 (hl _ _ rfl) rfl) ?_
  refine vw_q 9 rfl (by kernel_rfl) (by repeat (first | exact lle_l0 | exact LLe.refl _ | exact lle_none | refine lle_up ?_ rfl)) (fun _ _ hh hl => lo_len_own rfl ho Tryz.underlying182) ?_
  refine vw_e 10 rfl (by kernel_rfl) (op1_ustr (l := bs) 3 rfl rfl Tryz.underlying201 co5 ho hz (by have hq := numB_len (numK bytes) n.toNat; simp [numK] at *; omega) rfl ?_)
  refine ⟨⟨(.refl _), (by repeat (first | exact lle_l0 | exact LLe.refl _ | exact lle_none | refine lle_up ?_ rfl))⟩, ?_⟩
  refine vw_q 11 rfl (by kernel_rfl) (by repeat (first | exact lle_l0 | exact LLe.refl _ | exact lle_none | refine lle_up ?_ rfl)) (fun _ _ hh hl => lo_assign (v := str _) rfl) ?_
  refine vw_done (by kernel_rfl) (seqK_n (cw_ret (fnK_r (res1 rfl (rv_t (v := str _) rfl)) (.refl _) ?_)))
  refine ⟨⟨(.refl _), (by repeat (first | exact lle_l0 | exact LLe.refl _ | exact lle_none | refine lle_up ?_ rfl))⟩, ?_⟩
  refine vw_q 3 rfl (by kernel_rfl) (by repeat (first | exact lle_l0 | exact LLe.refl _ | exact lle_none | refine lle_up ?_ rfl)) (fun _ _ hh hl => lo_cat rfl rfl (by have hq := numB_len (numK bytes) n.toNat; simp [numK] at *; omega)) ?_
  refine vw_q 4 rfl (by kernel_rfl) (by repeat (first | exact lle_l0 | exact LLe.refl _ | exact lle_none | refine lle_up ?_ rfl)) (fun _ _ hh hl => lo_fieldAddr rfl fl170_0) ?_
  refine vw_t 5 rfl (by kernel_rfl) (by kernel_rfl) (op1_store1 (i := 0) (v := str _) rfl rfl rfl sz9 rfl rfl ?_)
  refine vw_done (by kernel_rfl) (seqK_n (cw_seq (cw_region (ol rfl (lo_loadA (i := 0) (vs := [_, _]) rfl ag170 sz170 rfl rfl rfl) ?_))))
  refine ow1 (op1_storeA (i := 1) (vs := [_, _]) rfl rfl rfl sz170 rfl rfl rfl ?_)
  refine ow_nil (seqK_n (cw_ret (fnK_r (res1 rfl (rv_c (i := 1) (vs := [_, _]) rfl ag170 sz170 rfl rfl rfl)) ((HLe.refl _).trans hl5) ?_)))
  obtain rfl : j = 0 := by omega
  simp only [numB, List.append_nil] at hk1
  subst hk1
  rfl
end Go.SW
set_option linter.unusedVariables false
set_option maxRecDepth 100000
set_option maxHeartbeats 4000000
namespace Go.SW.V
open Go.SW Go.Proofs
def gb : Gb := ⟨fun H => GInt H 0, fun H H' hl h => h.mono hl⟩
theorem gbML {H : Hp} (h : gb.p H) : GInt H 0 := h
theorem cb106 : Callable Tryz.prog 106 := callable_of Tryz.func106 (by kernel_rfl) (by kernel_rfl)
theorem cb127 : Callable Tryz.prog 127 := callable_of Tryz.func127 (by kernel_rfl) (by kernel_rfl)
def tbv1 : Tb := [(9, ⟨.str, 1, 16, [.str []]⟩)]
theorem tbv1ok : tbB Tryz.prog tbv1 = true := by kernel_rfl
theorem words_plain (s : Bs) : Fn Tryz.prog gb 127 [.str s] (.bool (plain s)) := by
  refine fn_cw tbv1ok Tryz.func127 rfl Tryz.ntmps127 rfl cb127 rfl rfl fun w N H hG => ?_
  have s_l : s.length ≤ 9223372036854775807 := w.1
  refine go tbv1ok 14 rfl rfl trivial ?_
  refine loop (ι := Nat) [0, 5, 6] [] (fun k => [(7, .int .i64 (k : Int))]) (fun k => []) (fun k => k ≤ s.length ∧ (s.drop k).all (fun c => letter c.toNat) = plain s) (fun k => s.length - k) 0 ⟨rfl, trivial⟩ trivial ?_ ?_
  · exact ⟨by omega, rfl⟩
  · rintro k hp1
    obtain ⟨hk1, hk2⟩ := hp1
    refine go tbv1ok 6 rfl rfl trivial ?_
    refine cnd rfl (fun h2 => ?_) (fun h2 => ?_)
    · have p3 := dt h2
      have := u8r (s.getD k 0)
      refine go tbv1ok 14 rfl rfl trivial ?_
      refine q1 (sidx tbv1ok k rfl rfl rfl rfl rfl (by omega)) rfl fun w4 => ?_
      refine go tbv1ok 16 rfl rfl ⟨(fun hc => hc), rfl, rfl, trivial⟩ ?_
      refine cnd rfl (fun h5 => ?_) (fun h5 => ?_)
      · have h6 := bl h5
        have p7 := dt h6
        have h8 := br h5
        have p9 := dt h8
        refine go tbv1ok 2 rfl rfl trivial ?_
        refine cndT rfl h5 ?_
        refine go tbv1ok 8 rfl rfl ⟨(by omega), trivial⟩ ?_
        refine next (k + 1) rfl rfl ⟨rfl, trivial⟩ trivial ?_ ?_
        · omega
        · exact ⟨by omega, by rw [← hk2, drop_getD (k := k) (by omega), List.all_cons]; generalize ((s.getD k 0).toNat : Int) = z at *; simp [letter, *]⟩
      · refine go tbv1ok 11 rfl rfl ⟨(fun hc => hc), rfl, rfl, trivial⟩ ?_
        refine cnd rfl (fun h10 => ?_) (fun h10 => ?_)
        · have h11 := bl h10
          have p12 := dt h11
          have h13 := br h10
          have p14 := dt h13
          refine go tbv1ok 2 rfl rfl trivial ?_
          refine cndT rfl h10 ?_
          refine go tbv1ok 8 rfl rfl ⟨(by omega), trivial⟩ ?_
          refine next (k + 1) rfl rfl ⟨rfl, trivial⟩ trivial ?_ ?_
          · omega
          · exact ⟨by omega, by rw [← hk2, drop_getD (k := k) (by omega), List.all_cons]; generalize ((s.getD k 0).toNat : Int) = z at *; simp [letter, *]⟩
        · refine go tbv1ok 7 rfl rfl trivial ?_
          refine cnd rfl (fun h15 => ?_) (fun h15 => ?_)
          · have p16 := dt h15
            refine go tbv1ok 2 rfl rfl trivial ?_
            refine cndT rfl h15 ?_
            refine go tbv1ok 8 rfl rfl ⟨(by omega), trivial⟩ ?_
            refine next (k + 1) rfl rfl ⟨rfl, trivial⟩ trivial ?_ ?_
            · omega
            · exact ⟨by omega, by rw [← hk2, drop_getD (k := k) (by omega), List.all_cons]; generalize ((s.getD k 0).toNat : Int) = z at *; simp [letter, *]⟩
          · have p17 := df h15
            refine go tbv1ok 6 rfl rfl trivial ?_
            refine cnd rfl (fun h18 => ?_) (fun h18 => ?_)
            · have p19 := dt h18
              refine go tbv1ok 8 rfl rfl ⟨(by omega), trivial⟩ ?_
              refine next (k + 1) rfl rfl ⟨rfl, trivial⟩ trivial ?_ ?_
              · omega
              · exact ⟨by omega, by rw [← hk2, drop_getD (k := k) (by omega), List.all_cons]; generalize ((s.getD k 0).toNat : Int) = z at *; simp [letter, *]⟩
            · have p20 := df h18
              refine go tbv1ok 12 rfl rfl trivial ?_
              refine rt1 rfl rfl ?_
              refine ple ?_
              refine congrArg PV.bool ?_; first | (rw [← hk2, drop_getD (k := k) (by omega), List.all_cons]; generalize ((s.getD k 0).toNat : Int) = z at *; simp [letter, *]; done) | (rw [← hk2, List.drop_of_length_le (by omega)]; rfl)
    · have p21 := df h2
      refine go tbv1ok 11 rfl rfl trivial ?_
      refine rt1 rfl rfl ?_
      refine ple ?_
      refine congrArg PV.bool ?_; first | (rw [← hk2, drop_getD (k := k) (by omega), List.all_cons]; generalize ((s.getD k 0).toNat : Int) = z at *; simp [letter, *]; done) | (rw [← hk2, List.drop_of_length_le (by omega)]; rfl)
theorem words_Name (s : Bs) : Fn Tryz.prog gb 106 [.str s] (.int .i64 (nameE s)) := by
  refine fn_cw tbv1ok Tryz.func106 rfl Tryz.ntmps106 rfl cb106 rfl rfl fun w N H hG => ?_
  have s_l : s.length ≤ 9223372036854775807 := w.1
  refine go tbv1ok 14 rfl rfl trivial ?_
  refine cnd rfl (fun h1 => ?_) (fun h1 => ?_)
  · have p2 := dt h1
    refine go tbv1ok 8 rfl rfl trivial ?_
    refine rt1 rfl rfl ?_
    refine ple ?_
    simp [nameE, *] <;> omega
  · have p3 := df h1
    refine go tbv1ok 8 rfl rfl trivial ?_
    refine cnd rfl (fun h4 => ?_) (fun h4 => ?_)
    · have p5 := dt h4
      refine go tbv1ok 8 rfl rfl trivial ?_
      refine rt1 rfl rfl ?_
      refine ple ?_
      simp [nameE, *] <;> omega
    · have p6 := df h4
      refine go tbv1ok 3 rfl rfl trivial ?_
      refine call (words_plain _) rfl rfl fun w7 => ?_
      refine go tbv1ok 4 rfl rfl trivial ?_
      refine cnd rfl (fun h8 => ?_) (fun h8 => ?_)
      · have h9 := not_t h8
        refine go tbv1ok 8 rfl rfl trivial ?_
        refine rt1 rfl rfl ?_
        refine ple ?_
        simp [nameE, *] <;> omega
      · have h10 := not_f h8
        refine go tbv1ok 9 rfl rfl trivial ?_
        refine rt1 rfl rfl ?_
        refine ple ?_
        simp [nameE, *] <;> omega
end Go.SW.V
set_option linter.unusedVariables false
set_option maxRecDepth 100000
set_option maxHeartbeats 4000000
namespace Go.SW.V
open Go.SW Go.Proofs
theorem cb116 : Callable Tryz.prog 116 := callable_of Tryz.func116 (by kernel_rfl) (by kernel_rfl)
theorem cb118 : Callable Tryz.prog 118 := callable_of Tryz.func118 (by kernel_rfl) (by kernel_rfl)
theorem cb121 : Callable Tryz.prog 121 := callable_of Tryz.func121 (by kernel_rfl) (by kernel_rfl)
theorem cb122 : Callable Tryz.prog 122 := callable_of Tryz.func122 (by kernel_rfl) (by kernel_rfl)
def tbv2 : Tb := [(3, ⟨.int .i64, 1, 8, [.int .i64 0]⟩),
  (9, ⟨.str, 1, 16, [.str []]⟩),
  (22, ⟨.int .u64, 1, 8, [.int .u64 0]⟩),
  (31, ⟨.int .i64, 1, 8, [.int .i64 0]⟩),
  (170, ⟨.agg [(0, 1), (1, 1)], 2, 24, [.str [], .int .i64 0]⟩)]
theorem tbv2ok : tbB Tryz.prog tbv2 = true := by kernel_rfl
theorem out_Num (o : Out) (n bytes : Int) (hlen : o.s.length ≤ 4611686018427387904) : Fn Tryz.prog gb 116 [.agg (Out.pc o), .int .u64 n, .int .i64 bytes] (.agg (Out.pc (outNum o n bytes))) :=
  fn_of_pr (vs := [.agg [str o.s, .int .i64 o.err].toArray, .int .u64 n, .int .i64 bytes]) (v := .agg [str (outNum o n bytes).s, .int .i64 (outNum o n bytes).err].toArray) cb116 rfl rfl
    (fun w H => Sims.cons (Sim.toAgg (Sims.cons (Sim.str w.1.1) (Sims.cons (Sim.int w.1.2.1.1 w.1.2.1.2) Sims.nil))) (Sims.cons (Sim.int w.2.1.1 w.2.1.2) (Sims.cons (Sim.int w.2.2.1.1 w.2.2.1.2) Sims.nil)))
    (fun w H => Sim.toAgg (Sims.cons (Sim.str (by have := outNum_len o n bytes; omega)) (Sims.cons (Sim.int w.1.2.1.1 w.1.2.1.2) Sims.nil)))
    (fun w H hG => SW.out_Num H o n w.2.1 bytes w.2.2.1 hlen)
theorem out_Raw (o : Out) (s : Bs) (hlen : o.s.length + s.length ≤ 4611686018427387904) : Fn Tryz.prog gb 121 [.agg (Out.pc o), .str s] (.agg (Out.pc (outRaw o s))) := by
  refine fn_cw tbv2ok Tryz.func121 rfl Tryz.ntmps121 rfl cb121 rfl rfl fun w N H hG => ?_
  have s_l : s.length ≤ 9223372036854775807 := w.2.1
  refine go tbv2ok 2 rfl rfl trivial ?_
  refine ef (boxA 0 rfl rfl rfl fun b1 => ?_)
  refine ef (alloc tbv2ok 1 rfl rfl rfl rfl fun b2 => ?_)
  refine go tbv2ok 9 rfl rfl ⟨(by first | omega | (simp <;> omega)), trivial⟩ ?_
  refine ef (store1 tbv2ok rfl rfl rfl rfl rfl rfl rfl rfl rfl ?_)
  refine go tbv2ok 5 rfl rfl trivial ?_
  refine ef (storeA tbv2ok rfl rfl rfl rfl rfl rfl rfl rfl rfl rfl ?_)
  refine go tbv2ok 3 rfl rfl trivial ?_
  refine rt1 rfl rfl ?_
  refine ple ?_
  rfl
theorem out_String (o : Out) : Fn Tryz.prog gb 122 [.agg (Out.pc o)] (.str o.s) := by
  refine fn_cw tbv2ok Tryz.func122 rfl Tryz.ntmps122 rfl cb122 rfl rfl fun w N H hG => ?_
  refine go tbv2ok 2 rfl rfl trivial ?_
  refine ef (boxA 0 rfl rfl rfl fun b1 => ?_)
  refine go tbv2ok 11 rfl rfl trivial ?_
  refine rt1 rfl rfl ?_
  refine ple ?_
  rfl
theorem out_Text (o : Out) (s : Bs) (hlen : o.s.length + s.length ≤ 4611686018427386000) : Fn Tryz.prog gb 118 [.agg (Out.pc o), .str s] (.agg (Out.pc (outText o s))) := by
  refine fn_cw tbv2ok Tryz.func118 rfl Tryz.ntmps118 rfl cb118 rfl rfl fun w N H hG => ?_
  have s_l : s.length ≤ 9223372036854775807 := w.2.1
  refine go tbv2ok 2 rfl rfl trivial ?_
  refine ef (boxA 0 rfl rfl rfl fun b1 => ?_)
  refine ef (alloc tbv2ok 1 rfl rfl rfl rfl fun b2 => ?_)
  refine go tbv2ok 10 rfl rfl trivial ?_
  refine cnd rfl (fun h3 => ?_) (fun h3 => ?_)
  · have p4 := dt h3
    refine go tbv2ok 8 rfl rfl trivial ?_
    refine cnd rfl (fun h5 => ?_) (fun h5 => ?_)
    · have p6 := dt h5
      refine go tbv2ok 2 rfl rfl trivial ?_
      refine ef (store1 tbv2ok rfl rfl rfl rfl rfl rfl rfl rfl rfl ?_)
      refine go tbv2ok 5 rfl rfl trivial ?_
      refine ef (storeA tbv2ok rfl rfl rfl rfl rfl rfl rfl rfl rfl rfl ?_)
      refine go tbv2ok 4 rfl rfl trivial ?_
      refine rt1 rfl rfl ?_
      refine ple ?_
      simp [outText, Out.pc, *]
    · have p7 := df h5
      refine go tbv2ok 5 rfl rfl trivial ?_
      refine ef (storeA tbv2ok rfl rfl rfl rfl rfl rfl rfl rfl rfl rfl ?_)
      refine go tbv2ok 4 rfl rfl trivial ?_
      refine rt1 rfl rfl ?_
      refine ple ?_
      simp [outText, Out.pc, *]
  · have p8 := df h3
    refine go tbv2ok 7 rfl rfl trivial ?_
    refine q1 (qconv tbv2ok rfl rfl rfl rfl (rg_u64 (by omega))) rfl fun w9 => ?_
    refine call (out_Num _ _ _ (by first | omega | (have := hrl (by assumption); omega) | (simp [outNum, outRaw, numB_len, numK] <;> omega) | (have := hrl (by assumption); simp [outNum, outRaw, numB_len, numK] <;> omega))) rfl rfl fun w10 => ?_
    have := outNum_len o (s.length : Int) 2
    refine go tbv2ok 1 rfl rfl trivial ?_
    refine call (out_Raw _ _ (by first | omega | (have := hrl (by assumption); omega) | (simp [outNum, outRaw, numB_len, numK] <;> omega) | (have := hrl (by assumption); simp [outNum, outRaw, numB_len, numK] <;> omega))) rfl rfl fun w11 => ?_
    have := outRaw_len (outNum o (s.length : Int) 2) s
    refine ef (storeA tbv2ok rfl rfl rfl rfl rfl rfl rfl rfl rfl rfl ?_)
    refine go tbv2ok 3 rfl rfl trivial ?_
    refine rt1 rfl rfl ?_
    refine ple ?_
    simp [outText, Out.pc, *]
end Go.SW.V
set_option linter.unusedVariables false
set_option maxRecDepth 100000
set_option maxHeartbeats 4000000
namespace Go.SW.V
open Go.SW Go.Proofs
theorem cb175 : Callable Tryz.prog 175 := callable_of Tryz.func175 (by kernel_rfl) (by kernel_rfl)
theorem cb180 : Callable Tryz.prog 180 := callable_of Tryz.func180 (by kernel_rfl) (by kernel_rfl)
theorem cb185 : Callable Tryz.prog 185 := callable_of Tryz.func185 (by kernel_rfl) (by kernel_rfl)
def tbv3 : Tb := [(9, ⟨.str, 1, 16, [.str []]⟩),
  (31, ⟨.int .i64, 1, 8, [.int .i64 0]⟩),
  (234, ⟨.agg [(0, 1), (1, 1)], 2, 24, [.str [], .int .i64 0]⟩)]
theorem tbv3ok : tbB Tryz.prog tbv3 = true := by kernel_rfl
theorem octet_New (s : Bs) : Fb Tryz.prog gb 175 [.str s] 234 (In.pc (⟨s, 0⟩)) := by
  refine fb_cw tbv3ok Tryz.func175 rfl Tryz.ntmps175 rfl cb175 rfl rfl fun w N H hG => ?_
  have s_l : s.length ≤ 9223372036854775807 := w.1
  refine go tbv3ok 9 rfl rfl trivial ?_
  refine ef (boxA 0 rfl rfl rfl fun b1 => ?_)
  refine go tbv3ok 4 rfl rfl trivial ?_
  refine rb rfl rfl rfl rfl rfl ?_
  exact ples_rfl
theorem in_Fail (i : In) (code : Int) : Fm Tryz.prog gb 185 [.int .i64 code] 234 (In.pc i) (.tup []) (In.pc (inFail i code)) := by
  refine fm_cw tbv3ok Tryz.func185 rfl Tryz.ntmps185 rfl cb185 rfl rfl rfl rfl fun w wp b N H hG => ?_
  have code_r : -9223372036854775808 ≤ code ∧ code ≤ 9223372036854775807 := w.1
  refine go tbv3ok 3 rfl rfl trivial ?_
  refine q1 (qpne Tryz.underlying229 rfl rfl) rfl fun w1 => ?_
  refine go tbv3ok 13 rfl rfl ⟨(fun hc => hc), (fun hc => hc), (fun hc => hc), (fun hc => hc), rfl, rfl, (fun hc => hc), rfl, rfl, trivial⟩ ?_
  refine cnd rfl (fun h2 => ?_) (fun h2 => ?_)
  · have h3 := bl h2
    have h4 := bl h3
    have h5 := br h3
    have p6 := dt h5
    have h7 := br h2
    have h8 := not_t h7
    have p9 := df h8
    refine go tbv3ok 6 rfl rfl trivial ?_
    refine ef (store1 tbv3ok rfl rfl rfl rfl rfl rfl rfl rfl rfl ?_)
    refine go tbv3ok 2 rfl rfl trivial ?_
    refine ef (store1 tbv3ok rfl rfl rfl rfl rfl rfl rfl rfl rfl ?_)
    refine go tbv3ok 1 rfl rfl trivial ?_
    refine rm0n rfl rfl ?_ rfl rfl rfl ?_
    · exact ple (by first | rfl | (simp [inFail, *]; done))
    · refine ples ?_
      first | rfl | (simp [inFail, In.pc, *]; done) | (simp only [inFail]; split <;> simp_all [In.pc])
  · refine go tbv3ok 1 rfl rfl trivial ?_
    refine rm0n rfl rfl ?_ rfl rfl rfl ?_
    · exact ple (by first | rfl | (simp [inFail, *]; done))
    · refine ples ?_
      first | rfl | (simp [inFail, In.pc, *]; done) | (simp only [inFail]; split <;> simp_all [In.pc])
theorem in_Raw (i : In) (n : Int) : Fm Tryz.prog gb 180 [.int .i64 n] 234 (In.pc i) (.str ((inRaw i n).1)) (In.pc ((inRaw i n).2)) := by
  refine fm_cw tbv3ok Tryz.func180 rfl Tryz.ntmps180 rfl cb180 rfl rfl rfl rfl fun w wp b N H hG => ?_
  have n_r : -9223372036854775808 ≤ n ∧ n ≤ 9223372036854775807 := w.1
  refine go tbv3ok 11 rfl rfl trivial ?_
  refine q1 (qpeq Tryz.underlying229 rfl rfl) rfl fun w1 => ?_
  refine go tbv3ok 14 rfl rfl trivial ?_
  refine cnd rfl (fun h2 => ?_) (fun h2 => ?_)
  · have h3 := not_t h2
    have p4 := df h3
    refine go tbv3ok 2 rfl rfl trivial ?_
    refine cndT rfl h2 ?_
    refine go tbv3ok 8 rfl rfl trivial ?_
    refine rm1 rfl rfl ?_ rfl rfl rfl ?_
    · exact ple (by first | rfl | (simp [inRaw, inFail, *]; done))
    · refine ples ?_
      first | rfl | (simp [inRaw, inFail, In.pc, *]; done) | (simp only [inRaw, inFail]; split <;> simp_all [In.pc])
  · have h5 := not_f h2
    have p6 := dt h5
    refine go tbv3ok 6 rfl rfl trivial ?_
    refine cnd rfl (fun h7 => ?_) (fun h7 => ?_)
    · have p8 := dt h7
      refine go tbv3ok 8 rfl rfl trivial ?_
      refine rm1 rfl rfl ?_ rfl rfl rfl ?_
      · exact ple (by first | rfl | (simp [inRaw, inFail, *]; done))
      · refine ples ?_
        first | rfl | (simp [inRaw, inFail, In.pc, *]; done) | (simp only [inRaw, inFail]; split <;> simp_all [In.pc])
    · have p9 := df h7
      refine go tbv3ok 12 rfl rfl trivial ?_
      refine cnd rfl (fun h10 => ?_) (fun h10 => ?_)
      · have p11 := dt h10
        refine go tbv3ok 3 rfl rfl trivial ?_
        refine ef (ecallm (in_Fail _ _) rfl rfl rfl rfl rfl fun w12 w12p => ?_)
        refine go tbv3ok 10 rfl rfl trivial ?_
        refine rm1 rfl rfl ?_ rfl rfl rfl ?_
        · exact ple (by first | rfl | (simp [inRaw, inFail, *]; done))
        · refine ples ?_
          first | rfl | (simp [inRaw, inFail, In.pc, *]; done) | (simp only [inRaw, inFail]; split <;> simp_all [In.pc])
      · have p13 := df h10
        refine go tbv3ok 10 rfl rfl trivial ?_
        refine q1 (sshi tbv3ok (n).toNat rfl rfl rfl rfl (by omega) (by omega)) rfl fun w14 => ?_
        refine go tbv3ok 11 rfl rfl trivial ?_
        refine q1 (sslo tbv3ok (n).toNat rfl rfl rfl rfl (by omega) (by omega)) rfl fun w15 => ?_
        refine go tbv3ok 2 rfl rfl trivial ?_
        refine ef (store1 tbv3ok rfl rfl rfl rfl rfl rfl rfl rfl rfl ?_)
        refine go tbv3ok 9 rfl rfl trivial ?_
        refine rm1 rfl rfl ?_ rfl rfl rfl ?_
        · exact ple (by first | rfl | (simp [inRaw, inFail, *]; done))
        · refine ples ?_
          first | rfl | (simp [inRaw, inFail, In.pc, *]; done) | (simp only [inRaw, inFail]; split <;> simp_all [In.pc])
end Go.SW.V
set_option linter.unusedVariables false
set_option maxRecDepth 100000
set_option maxHeartbeats 4000000
namespace Go.SW.V
open Go.SW Go.Proofs
theorem cb129 : Callable Tryz.prog 129 := callable_of Tryz.func129 (by kernel_rfl) (by kernel_rfl)
theorem cb141 : Callable Tryz.prog 141 := callable_of Tryz.func141 (by kernel_rfl) (by kernel_rfl)
theorem cb159 : Callable Tryz.prog 159 := callable_of Tryz.func159 (by kernel_rfl) (by kernel_rfl)
theorem cb170 : Callable Tryz.prog 170 := callable_of Tryz.func170 (by kernel_rfl) (by kernel_rfl)
def tbv4 : Tb := [(9, ⟨.str, 1, 16, [.str []]⟩),
  (146, ⟨.slc 9, 1, 24, [.sl strc []]⟩)]
theorem tbv4ok : tbB Tryz.prog tbv4 = true := by kernel_rfl
theorem strings_Split (s p : Bs) (hp : p = [46]) (hs : s.length < 4294967281) : Fn Tryz.prog gb 170 [.str s, .str p] (.sl strc (dots s)) :=
  ⟨cb170, rfl, fun N H L w us hg hsim hm => by
    obtain ⟨v1, _, rfl, h1, h2⟩ := hsim.inv_cons
    obtain ⟨v2, _, rfl, h3, h4⟩ := h2.inv_cons
    cases h4.inv_nil
    rw [h1.inv_str.1, h3.inv_str.1]
    refine (SW.strings_Split H s p hp (gbML hg) hs N L w hm).mono fun _ _ ⟨v, H', h5, ⟨a, c, h6, h7⟩, h8, h9⟩ => ⟨v, H', h5, ?_, h8, h9⟩
    rw [h6]
    exact Sim.of_slh (k := 1) ⟨h7.1, fun m hm => by
      obtain ⟨cs, hE, hat⟩ := h7.2 m hm
      obtain ⟨hE1, hE2⟩ := hE
      subst hE1
      exact ⟨_, ⟨rfl, Sims.nil.cons (Sim.str hE2), fun u hu => by simp at hu; subst hu; rfl⟩, hat⟩⟩ (by have := dots_le s; omega)⟩
theorem words_Split (s : Bs) (hs : s.length < 4294967281) : Fn Tryz.prog gb 159 [.str s] (.sl strc (wordsOf s)) := by
  refine fn_cw tbv4ok Tryz.func159 rfl Tryz.ntmps159 rfl cb159 rfl rfl fun w N H hG => ?_
  have s_l : s.length ≤ 9223372036854775807 := w.1
  refine go tbv4ok 12 rfl rfl trivial ?_
  refine cnd rfl (fun h1 => ?_) (fun h1 => ?_)
  · have p2 := dt h1
    refine go tbv4ok 7 rfl rfl trivial ?_
    refine rt1 rfl rfl ?_
    refine ple_nilx ?_
    simp [wordsOf, *]
  · have p3 := df h1
    refine go tbv4ok 5 rfl rfl trivial ?_
    refine call (strings_Split _ _ (by rfl) (by omega)) rfl rfl fun w4 => ?_
    refine go tbv4ok 4 rfl rfl trivial ?_
    refine rt1 rfl rfl ?_
    refine ple ?_
    simp [wordsOf, *]
theorem words_key (s : Bs) (besides : List Bs) : Fn Tryz.prog gb 141 [.str s, .sl strc besides] (.int .i64 (keyE besides s)) := by
  refine fn_cw tbv4ok Tryz.func141 rfl Tryz.ntmps141 rfl cb141 rfl rfl fun w N H hG => ?_
  have s_l : s.length ≤ 9223372036854775807 := w.1
  have besides_l : besides.length ≤ 140737488355328 := w.2.1.1
  refine go tbv4ok 14 rfl rfl trivial ?_
  refine cnd rfl (fun h1 => ?_) (fun h1 => ?_)
  · have p2 := dt h1
    refine go tbv4ok 8 rfl rfl trivial ?_
    refine rt1 rfl rfl ?_
    refine ple ?_
    simp [keyE, *]
  · have p3 := df h1
    refine go tbv4ok 9 rfl rfl trivial ?_
    refine call (words_Split _ (by omega)) rfl rfl fun w4 => ?_
    refine go tbv4ok 5 rfl rfl trivial ?_
    refine loop (ι := Nat) [0, 1, 9, 10, 11, 12, 13, 14] [] (fun k => [(15, .int .i64 (k : Int))]) (fun k => []) (fun k => k ≤ (wordsOf s).length ∧ (wordsOf s).any (isBad besides) = ((wordsOf s).drop k).any (isBad besides)) (fun k => (wordsOf s).length - k) 0 ⟨rfl, trivial⟩ trivial ?_ ?_
    · exact ⟨Nat.zero_le _, by simp⟩
    · rintro k hp5
      obtain ⟨hk1, hk2⟩ := hp5
      have hwl := words_le s
      refine go tbv4ok 6 rfl rfl trivial ?_
      refine cnd rfl (fun h6 => ?_) (fun h6 => ?_)
      · have p7 := dt h6
        obtain ⟨c8, hc9⟩ := getE (xs := wordsOf s) (m := k) (by omega)
        have c8_l : c8.length ≤ 9223372036854775807 := (w4.2 c8 (List.mem_of_getElem? hc9)).1
        refine go tbv4ok 6 rfl rfl trivial ?_
        refine q1 (qidx tbv4ok k rfl rfl rfl hc9 rfl rfl rfl rfl) rfl fun w10 => ?_
        refine go tbv4ok 13 rfl rfl trivial ?_
        refine loop (ι := Nat) [0, 1, 6, 9, 10, 11, 12, 13, 14, 15, 16, 17, 18, 19, 20] [] (fun j => [(21, .int .i64 (j : Int))]) (fun j => []) (fun j => j ≤ besides.length ∧ besides.contains c8 = (besides.drop j).contains c8) (fun j => besides.length - j) 0 ⟨rfl, trivial⟩ trivial ?_ ?_
        · exact ⟨Nat.zero_le _, by simp⟩
        · rintro j hp11
          obtain ⟨hj1, hj2⟩ := hp11
          refine go tbv4ok 6 rfl rfl trivial ?_
          refine cnd rfl (fun h12 => ?_) (fun h12 => ?_)
          · have p13 := dt h12
            obtain ⟨c14, hc15⟩ := getE (xs := besides) (m := j) (by omega)
            have c14_l : c14.length ≤ 9223372036854775807 := (w.2.1.2 c14 (List.mem_of_getElem? hc15)).1
            refine go tbv4ok 6 rfl rfl trivial ?_
            refine q1 (qidx tbv4ok j rfl rfl rfl hc15 rfl rfl rfl rfl) rfl fun w16 => ?_
            refine go tbv4ok 11 rfl rfl trivial ?_
            refine cnd rfl (fun h17 => ?_) (fun h17 => ?_)
            · have p18 := dt h17
              refine go tbv4ok 12 rfl rfl ⟨(by omega), trivial⟩ ?_
              refine next (k + 1) rfl rfl ⟨rfl, trivial⟩ trivial ?_ ?_
              · omega
              · refine ⟨by omega, ?_⟩
                rw [hk2, dropE hc9, List.any_cons]
                have hb : isBad besides c8 = false := by
                  unfold isBad
                  rw [hj2, dropE hc15]
                  first | (simp [*]; done) | simp_all
                simp [hb]
            · have p19 := df h17
              refine go tbv4ok 7 rfl rfl ⟨(by omega), trivial⟩ ?_
              refine next (j + 1) rfl rfl ⟨rfl, trivial⟩ trivial ?_ ?_
              · omega
              · refine ⟨by omega, ?_⟩
                rw [hj2, dropE hc15, List.contains_cons]
                simp [*]
          · have p20 := df h12
            refine go tbv4ok 11 rfl rfl trivial ?_
            refine callg rfl (fun hc => (words_plain _)) rfl ⟨(fun hc => hc), trivial⟩ rfl rfl fun _ => ?_
            refine go tbv4ok 4 rfl rfl ⟨(fun hc => hc), rfl, rfl, trivial⟩ ?_
            refine cnd rfl (fun h21 => ?_) (fun h21 => ?_)
            · refine go tbv4ok 12 rfl rfl trivial ?_
              refine rt1 rfl rfl ?_
              refine ple ?_
              have hb : isBad besides c8 = true := by
                unfold isBad
                rw [hj2, List.drop_of_length_le (by omega)]
                first | (simp [*]; done) | simp_all
              unfold keyE
              rw [if_neg (by omega), hk2, dropE hc9, List.any_cons, hb]
              rfl
            · have h22 := orl h21
              have p23 := df h22
              have h24 := orr h21
              have h25 := not_f h24
              refine go tbv4ok 7 rfl rfl ⟨(by omega), trivial⟩ ?_
              refine next (k + 1) rfl rfl ⟨rfl, trivial⟩ trivial ?_ ?_
              · omega
              · refine ⟨by omega, ?_⟩
                rw [hk2, dropE hc9, List.any_cons]
                have hb : isBad besides c8 = false := by
                  unfold isBad
                  rw [hj2, List.drop_of_length_le (by omega)]
                  first | (simp [*]; done) | simp_all
                simp [hb]
      · have p26 := df h6
        refine go tbv4ok 12 rfl rfl trivial ?_
        refine rt1 rfl rfl ?_
        refine ple ?_
        unfold keyE
        rw [if_neg (by omega), hk2, List.drop_of_length_le (by omega)]
        rfl
theorem words_Key (s : Bs) : Fn Tryz.prog gb 129 [.str s] (.int .i64 (keyE [] s)) := by
  refine fn_cw tbv4ok Tryz.func129 rfl Tryz.ntmps129 rfl cb129 rfl rfl fun w N H hG => ?_
  have s_l : s.length ≤ 9223372036854775807 := w.1
  refine go tbv4ok 8 rfl rfl trivial ?_
  refine call (Fn.le (words_key _ []) (ples_cons (ple rfl) (ples_cons ple_nil ples_nil)) (ple rfl) rfl) rfl rfl fun w1 => ?_
  refine go tbv4ok 4 rfl rfl trivial ?_
  refine rt1 rfl rfl ?_
  refine ple ?_
  rfl
end Go.SW.V
set_option linter.unusedVariables false
set_option maxRecDepth 100000
set_option maxHeartbeats 4000000
namespace Go.SW.V
open Go.SW Go.Proofs
theorem ag2 : Ag Tryz.prog 2 false := fun w => by kernel_rfl
theorem ag5 : Ag Tryz.prog 5 false := fun w => by kernel_rfl
theorem ag9 : Ag Tryz.prog 9 false := fun w => by kernel_rfl
theorem cb109 : Callable Tryz.prog 109 := callable_of Tryz.func109 (by kernel_rfl) (by kernel_rfl)
theorem cb128 : Callable Tryz.prog 128 := callable_of Tryz.func128 (by kernel_rfl) (by kernel_rfl)
theorem cb139 : Callable Tryz.prog 139 := callable_of Tryz.func139 (by kernel_rfl) (by kernel_rfl)
theorem cb140 : Callable Tryz.prog 140 := callable_of Tryz.func140 (by kernel_rfl) (by kernel_rfl)
theorem cb156 : Callable Tryz.prog 156 := callable_of Tryz.func156 (by kernel_rfl) (by kernel_rfl)
theorem cb157 : Callable Tryz.prog 157 := callable_of Tryz.func157 (by kernel_rfl) (by kernel_rfl)
theorem cb158 : Callable Tryz.prog 158 := callable_of Tryz.func158 (by kernel_rfl) (by kernel_rfl)
theorem eqg139 : Tryz.prog.eqGuardType Tryz.prog.depth 139 = false := by kernel_rfl
theorem mixd : Tryz.prog.follows .mixedOrders = true := by kernel_rfl
theorem veq139 (p q : Pair) : ∀ (H : Hp) (vs us : List Value), Sims H (Pair.pc p) vs → Sims H (Pair.pc q) us → EqV Tryz.prog 10000 139 (.agg vs.toArray) (.agg us.toArray) (decide (p = q)) := by
  intro H vs us hv hu
  obtain ⟨_, _, rfl, v0, v_0⟩ := hv.inv_cons
  obtain ⟨_, _, rfl, v1, v_1⟩ := v_0.inv_cons
  obtain ⟨_, _, rfl, v2, v_2⟩ := v_1.inv_cons
  obtain ⟨_, _, rfl, v3, v_3⟩ := v_2.inv_cons
  cases v_3.inv_nil
  cases v0.inv_str.1; cases v1.inv_int.1; cases v2.inv_int.1; cases v3.inv_str.1
  obtain ⟨_, _, rfl, u0, u_0⟩ := hu.inv_cons
  obtain ⟨_, _, rfl, u1, u_1⟩ := u_0.inv_cons
  obtain ⟨_, _, rfl, u2, u_2⟩ := u_1.inv_cons
  obtain ⟨_, _, rfl, u3, u_3⟩ := u_2.inv_cons
  cases u_3.inv_nil
  cases u0.inv_str.1; cases u1.inv_int.1; cases u2.inv_int.1; cases u3.inv_str.1
  exact EqV.to (eqv_agg Tryz.underlying139 (by kernel_rfl) (eqf_1 (by decide) ag9 rfl rfl (eqv_str Tryz.underlying9) (eqf_1 (by decide) ag5 rfl rfl (eqv_int Tryz.underlying5) (eqf_1 (by decide) ag2 rfl rfl (eqv_int Tryz.underlying2) (eqf_1 (by decide) ag9 rfl rfl (eqv_str Tryz.underlying9) eqf_nil))))) (by obtain ⟨a0, a1, a2, a3⟩ := p; obtain ⟨b0, b1, b2, b3⟩ := q; rw [Bool.eq_iff_iff]; simp)
def tbv5 : Tb := [(2, ⟨.int .i64, 1, 8, [.int .i64 0]⟩),
  (5, ⟨.int .u8, 1, 1, [.int .u8 0]⟩),
  (9, ⟨.str, 1, 16, [.str []]⟩),
  (47, ⟨.slc 139, 1, 24, [.sl Pair.pc []]⟩),
  (139, ⟨.agg [(0, 1), (1, 1), (2, 1), (3, 1)], 4, 48, [.str [], .int .u8 0, .int .i64 0, .str []]⟩)]
theorem tbv5ok : tbB Tryz.prog tbv5 = true := by kernel_rfl
theorem eq_Pair (a : List Pair) (b : List Pair) : Fn Tryz.prog gb 156 [.sl Pair.pc a, .sl Pair.pc b] (.bool (decide (a = b))) := by
  refine fn_cw tbv5ok Tryz.func156 rfl Tryz.ntmps156 rfl cb156 rfl rfl fun w N H hG => ?_
  have a_l : a.length ≤ 140737488355328 := w.1.1
  have b_l : b.length ≤ 140737488355328 := w.2.1.1
  refine go tbv5ok 15 rfl rfl trivial ?_
  refine cnd rfl (fun h1 => ?_) (fun h1 => ?_)
  · have h2 := not_t h1
    have p3 := df h2
    refine go tbv5ok 7 rfl rfl trivial ?_
    refine rt1 rfl rfl ?_
    refine ple ?_
    exact congrArg PV.bool (eqL_len (by assumption)).symm
  · have h4 := not_f h1
    have p5 := dt h4
    refine go tbv5ok 11 rfl rfl trivial ?_
    refine loop (ι := Nat) [0, 1, 6, 7, 8, 9, 10, 11, 12] [] (fun k => [(13, .int .i64 (k : Int))]) (fun k => []) (fun k => k ≤ a.length ∧ decide (a = b) = decide (a.drop k = b.drop k)) (fun k => a.length - k) 0 ⟨rfl, trivial⟩ trivial ?_ ?_
    · exact ⟨Nat.zero_le _, rfl⟩
    · rintro k hp6
      obtain ⟨hk1, hk2⟩ := hp6
      refine go tbv5ok 6 rfl rfl trivial ?_
      refine cnd rfl (fun h7 => ?_) (fun h7 => ?_)
      · have p8 := dt h7
        refine go tbv5ok 11 rfl rfl trivial ?_
        refine any [0, 1, 2, 3, 4, 5] 9 mixd rfl ?_
        refine gov tbv5ok [0, 1] 7 rfl (by kernel_rfl) rfl rfl trivial ?_
        obtain ⟨c9, hc10⟩ := getE (xs := a) (m := k) (by omega)
        have c9_w := Pair.pwf (w.1.2 c9 (List.mem_of_getElem? hc10))
        refine vq 2 (qidx tbv5ok k rfl rfl rfl hc10 rfl rfl rfl rfl) rfl (by kernel_rfl) rfl fun w11 => ?_
        refine gov tbv5ok [3, 4, 5] 3 rfl (by kernel_rfl) rfl rfl trivial ?_
        obtain ⟨c12, hc13⟩ := getE (xs := b) (m := k) (by omega)
        have c12_w := Pair.pwf (w.2.1.2 c12 (List.mem_of_getElem? hc13))
        refine vq 6 (qidx tbv5ok k rfl rfl rfl hc13 rfl rfl rfl rfl) rfl (by kernel_rfl) rfl fun w14 => ?_
        refine gov tbv5ok [7] 1 rfl (by kernel_rfl) rfl rfl trivial ?_
        refine vq 8 (sane rfl rfl eqg139 (veq139 c9 c12)) rfl (by kernel_rfl) rfl fun w15 => ?_
        refine vdone (by kernel_rfl) ?_
        refine go tbv5ok 1 rfl rfl trivial ?_
        refine cnd rfl (fun h16 => ?_) (fun h16 => ?_)
        · have h17 := not_t h16
          have p18 := df h17
          refine go tbv5ok 11 rfl rfl trivial ?_
          refine rt1 rfl rfl ?_
          refine ple ?_
          exact congrArg PV.bool (eqL_miss hk2 (dropE hc10) (dropE hc13) (by assumption)).symm
        · have h19 := not_f h16
          have p20 := dt h19
          refine go tbv5ok 7 rfl rfl ⟨(by omega), trivial⟩ ?_
          refine next (k + 1) rfl rfl ⟨rfl, trivial⟩ trivial ?_ ?_
          · omega
          · exact ⟨by omega, eqL_step hk2 (dropE hc10) (dropE hc13) (by assumption)⟩
      · have p21 := df h7
        refine go tbv5ok 11 rfl rfl trivial ?_
        refine rt1 rfl rfl ?_
        refine ple ?_
        exact congrArg PV.bool (eqL_end hk2 (by omega) (by omega)).symm
theorem head_Same (a : List Pair) (b : List Pair) : Fn Tryz.prog gb 139 [.sl Pair.pc a, .sl Pair.pc b] (.bool (decide (a = b))) := by
  refine fn_cw tbv5ok Tryz.func139 rfl Tryz.ntmps139 rfl cb139 rfl rfl fun w N H hG => ?_
  have a_l : a.length ≤ 140737488355328 := w.1.1
  have b_l : b.length ≤ 140737488355328 := w.2.1.1
  refine go tbv5ok 9 rfl rfl trivial ?_
  refine call (eq_Pair _ _) rfl rfl fun w1 => ?_
  refine go tbv5ok 4 rfl rfl trivial ?_
  refine rt1 rfl rfl ?_
  refine ple ?_
  rfl
theorem idxF_Pair (s : List Pair) (f : FuncId) (f_fst f_cap : List PV) (f_p : Pair → Bool) (f_h : ∀ x, Fn Tryz.prog gb f (argsP.apL f_fst ((.agg (Pair.pc x)) :: f_cap)) (.bool (f_p x))) : Fn Tryz.prog gb 157 [.sl Pair.pc s, .fn f f_fst f_cap] (.int .i64 (idxP f_p s)) := by
  refine fn_cw tbv5ok Tryz.func157 rfl Tryz.ntmps157 rfl cb157 rfl rfl fun w N H hG => ?_
  have s_l : s.length ≤ 140737488355328 := w.1.1
  refine go tbv5ok 14 rfl rfl trivial ?_
  refine loop (ι := Nat) [0, 1, 6, 7] [] (fun k => [(8, .int .i64 (k : Int))]) (fun k => []) (fun k => k ≤ s.length ∧ idxP f_p s = idxF f_p k (s.drop k)) (fun k => s.length - k) 0 ⟨rfl, trivial⟩ trivial ?_ ?_
  · exact ⟨Nat.zero_le _, rfl⟩
  · rintro k hp1
    obtain ⟨hk1, hk2⟩ := hp1
    refine go tbv5ok 6 rfl rfl trivial ?_
    refine cnd rfl (fun h2 => ?_) (fun h2 => ?_)
    · have p3 := dt h2
      obtain ⟨c4, hc5⟩ := getE (xs := s) (m := k) (by omega)
      have c4_w := Pair.pwf (w.1.2 c4 (List.mem_of_getElem? hc5))
      refine go tbv5ok 15 rfl rfl trivial ?_
      refine q1 (qidx tbv5ok k rfl rfl rfl hc5 rfl rfl rfl rfl) rfl fun w6 => ?_
      refine go tbv5ok 1 rfl rfl trivial ?_
      refine call (f_h c4) rfl rfl fun w7 => ?_
      refine go tbv5ok 2 rfl rfl trivial ?_
      refine cnd rfl (fun h8 => ?_) (fun h8 => ?_)
      · refine go tbv5ok 12 rfl rfl trivial ?_
        refine rt1 rfl rfl ?_
        refine ple ?_
        exact congrArg (PV.int .i64) (idx_hit hk2 (dropE hc5) (by assumption)).symm
      · refine go tbv5ok 7 rfl rfl ⟨(by omega), trivial⟩ ?_
        refine next (k + 1) rfl rfl ⟨rfl, trivial⟩ trivial ?_ ?_
        · omega
        · exact ⟨by omega, idx_miss hk2 (dropE hc5) (by assumption)⟩
    · have p9 := df h2
      refine go tbv5ok 11 rfl rfl trivial ?_
      refine rt1 rfl rfl ?_
      refine ple ?_
      exact congrArg (PV.int .i64) (idx_end hk2 (by omega)).symm
theorem head_Find1 (p : Pair) (key : Bs) : Fn Tryz.prog gb 158 [.agg (Pair.pc p), .el [.str key] 0] (.bool (decide (p.key = key))) := by
  refine fn_cw tbv5ok Tryz.func158 rfl Tryz.ntmps158 rfl cb158 rfl rfl fun w N H hG => ?_
  refine go tbv5ok 2 rfl rfl trivial ?_
  refine ef (boxA 0 rfl rfl rfl fun b1 => ?_)
  refine go tbv5ok 13 rfl rfl trivial ?_
  refine rt1 rfl rfl ?_
  refine ple ?_
  rfl
theorem head_Find (h : List Pair) (key : Bs) : Fn Tryz.prog gb 140 [.sl Pair.pc h, .str key] (.tup [.agg (Pair.pc ((findP h key).getD Pair.zero)), .bool ((findP h key).isSome)]) := by
  refine fn_cw tbv5ok Tryz.func140 rfl Tryz.ntmps140 rfl cb140 rfl rfl fun w N H hG => ?_
  have h_l : h.length ≤ 140737488355328 := w.1.1
  have key_l : key.length ≤ 9223372036854775807 := w.2.1
  refine go tbv5ok 2 rfl rfl trivial ?_
  refine ef (box1 0 rfl rfl rfl fun b1 => ?_)
  refine ef (alloc tbv5ok 1 rfl rfl rfl rfl fun b2 => ?_)
  refine go tbv5ok 6 rfl rfl trivial ?_
  refine freeze (i := 0) (t := 3) rfl rfl rfl rfl ?_
  refine go tbv5ok 1 rfl rfl trivial ?_
  refine call (idxF_Pair _ _ _ _ (fun z_3 : Pair => decide (z_3.key = key)) (fun z_3 => head_Find1 z_3 key)) rfl rfl fun w4 => ?_
  have hix4 := idxP_b (fun z_3 : Pair => decide (z_3.key = key)) h
  refine go tbv5ok 10 rfl rfl trivial ?_
  refine cnd rfl (fun h5 => ?_) (fun h5 => ?_)
  · have p6 := dt h5
    refine go tbv5ok 3 rfl rfl trivial ?_
    refine ef (storeA tbv5ok rfl rfl rfl rfl rfl rfl rfl rfl rfl rfl ?_)
    refine go tbv5ok 5 rfl rfl trivial ?_
    refine rt2 rfl rfl ?_
    refine ple ?_
    have e := idxP_neg (by assumption)
    have e2 : findP h key = none := by unfold findP; rw [← e]; congr 1; funext x; exact listBeq _ _
    rw [e2]; rfl
  · have p7 := df h5
    obtain ⟨c8, hc9⟩ := getE (xs := h) (m := (idxP (fun z_3 : Pair => decide (z_3.key = key)) h).toNat) (by omega)
    have c8_w := Pair.pwf (w.1.2 c8 (List.mem_of_getElem? hc9))
    refine go tbv5ok 6 rfl rfl trivial ?_
    refine q1 (qidx tbv5ok (idxP (fun z_3 : Pair => decide (z_3.key = key)) h).toNat rfl rfl (by omega) hc9 rfl rfl rfl rfl) rfl fun w10 => ?_
    refine go tbv5ok 1 rfl rfl trivial ?_
    refine ef (storeA tbv5ok rfl rfl rfl rfl rfl rfl rfl rfl rfl rfl ?_)
    refine go tbv5ok 4 rfl rfl trivial ?_
    refine rt2 rfl rfl ?_
    refine ple ?_
    have e := (idxP_get (by assumption) hc9).2
    have e2 : findP h key = some c8 := by unfold findP; rw [← e]; congr 1; funext x; exact listBeq _ _
    rw [e2]; rfl
theorem head_pair (p : Pair) (ahead : List Pair) : Fn Tryz.prog gb 128 [.agg (Pair.pc p), .sl Pair.pc ahead] (.int .i64 (pairErr p ahead)) := by
  refine fn_cw tbv5ok Tryz.func128 rfl Tryz.ntmps128 rfl cb128 rfl rfl fun w N H hG => ?_
  have ahead_l : ahead.length ≤ 140737488355328 := w.2.1.1
  refine go tbv5ok 2 rfl rfl trivial ?_
  refine ef (boxA 0 rfl rfl rfl fun b1 => ?_)
  refine go tbv5ok 8 rfl rfl trivial ?_
  refine call (words_Name _) rfl rfl fun w2 => ?_
  refine go tbv5ok 9 rfl rfl trivial ?_
  refine cnd rfl (fun h3 => ?_) (fun h3 => ?_)
  · have h4 := not_t h3
    have p5 := df h4
    refine go tbv5ok 8 rfl rfl trivial ?_
    refine rt1 rfl rfl ?_
    refine ple ?_
    refine congrArg (PV.int .i64) ?_
    simp only [Bool.or_eq_true, Bool.and_eq_true, Bool.not_eq_true', decide_eq_true_eq, Bool.or_eq_false_iff, Bool.and_eq_false_iff, Bool.not_eq_false', decide_eq_false_iff_not, beq_iff_eq, beq_eq_false_iff_ne] at *
    unfold pairErr
    (repeat' split) <;> first | rfl | (exfalso; omega) | (exfalso; simp_all; done) | (exfalso; simp_all; omega) | grind
  · have h6 := not_f h3
    have p7 := dt h6
    refine go tbv5ok 7 rfl rfl trivial ?_
    refine call (head_Find _ _) rfl rfl fun w8 => ?_
    refine go tbv5ok 3 rfl rfl trivial ?_
    refine ef (alloc tbv5ok 1 rfl rfl rfl rfl fun b9 => ?_)
    refine ef (storeA tbv5ok rfl rfl rfl rfl rfl rfl rfl rfl rfl rfl ?_)
    refine go tbv5ok 13 rfl rfl trivial ?_
    refine cnd rfl (fun h10 => ?_) (fun h10 => ?_)
    · have p11 := dt h10
      refine go tbv5ok 8 rfl rfl trivial ?_
      refine rt1 rfl rfl ?_
      refine ple ?_
      refine congrArg (PV.int .i64) ?_
      simp only [Bool.or_eq_true, Bool.and_eq_true, Bool.not_eq_true', decide_eq_true_eq, Bool.or_eq_false_iff, Bool.and_eq_false_iff, Bool.not_eq_false', decide_eq_false_iff_not, beq_iff_eq, beq_eq_false_iff_ne] at *
      unfold pairErr
      (repeat' split) <;> first | rfl | (exfalso; omega) | (exfalso; simp_all; done) | (exfalso; simp_all; omega) | grind
    · have p12 := df h10
      refine go tbv5ok 14 rfl rfl ⟨(fun hc => hc), (fun hc => hc), (fun hc => hc), rfl, rfl, trivial⟩ ?_
      refine cnd rfl (fun h13 => ?_) (fun h13 => ?_)
      · have h14 := bl h13
        have p15 := dt h14
        have h16 := br h13
        have p17 := dt h16
        refine go tbv5ok 8 rfl rfl trivial ?_
        refine rt1 rfl rfl ?_
        refine ple ?_
        refine congrArg (PV.int .i64) ?_
        simp only [Bool.or_eq_true, Bool.and_eq_true, Bool.not_eq_true', decide_eq_true_eq, Bool.or_eq_false_iff, Bool.and_eq_false_iff, Bool.not_eq_false', decide_eq_false_iff_not, beq_iff_eq, beq_eq_false_iff_ne] at *
        unfold pairErr
        (repeat' split) <;> first | rfl | (exfalso; omega) | (exfalso; simp_all; done) | (exfalso; simp_all; omega) | grind
      · refine go tbv5ok 18 rfl rfl ⟨(fun hc => hc), (fun hc => hc), rfl, rfl, (fun hc => hc), (fun hc => hc), rfl, rfl, trivial⟩ ?_
        refine cnd rfl (fun h18 => ?_) (fun h18 => ?_)
        · have h19 := bl h18
          have h20 := bl h19
          have p21 := dt h20
          have h22 := br h19
          have h23 := not_t h22
          have p24 := df h23
          have h25 := br h18
          have h26 := not_t h25
          have p27 := df h26
          refine go tbv5ok 8 rfl rfl trivial ?_
          refine rt1 rfl rfl ?_
          refine ple ?_
          refine congrArg (PV.int .i64) ?_
          simp only [Bool.or_eq_true, Bool.and_eq_true, Bool.not_eq_true', decide_eq_true_eq, Bool.or_eq_false_iff, Bool.and_eq_false_iff, Bool.not_eq_false', decide_eq_false_iff_not, beq_iff_eq, beq_eq_false_iff_ne] at *
          unfold pairErr
          (repeat' split) <;> first | rfl | (exfalso; omega) | (exfalso; simp_all; done) | (exfalso; simp_all; omega) | grind
        · refine go tbv5ok 14 rfl rfl ⟨(fun hc => hc), (fun hc => hc), rfl, rfl, trivial⟩ ?_
          refine cnd rfl (fun h28 => ?_) (fun h28 => ?_)
          · have h29 := bl h28
            have p30 := dt h29
            have h31 := br h28
            have h32 := not_t h31
            have p33 := df h32
            refine go tbv5ok 2 rfl rfl trivial ?_
            refine cndT rfl h28 ?_
            refine go tbv5ok 8 rfl rfl trivial ?_
            refine rt1 rfl rfl ?_
            refine ple ?_
            refine congrArg (PV.int .i64) ?_
            simp only [Bool.or_eq_true, Bool.and_eq_true, Bool.not_eq_true', decide_eq_true_eq, Bool.or_eq_false_iff, Bool.and_eq_false_iff, Bool.not_eq_false', decide_eq_false_iff_not, beq_iff_eq, beq_eq_false_iff_ne] at *
            unfold pairErr
            (repeat' split) <;> first | rfl | (exfalso; omega) | (exfalso; simp_all; done) | (exfalso; simp_all; omega) | grind
          · refine go tbv5ok 12 rfl rfl ⟨(fun hc => hc), (fun hc => hc), rfl, rfl, trivial⟩ ?_
            refine cnd rfl (fun h34 => ?_) (fun h34 => ?_)
            · have h35 := bl h34
              have h36 := not_t h35
              have p37 := df h36
              have h38 := br h34
              have h39 := not_t h38
              have p40 := df h39
              refine go tbv5ok 8 rfl rfl trivial ?_
              refine rt1 rfl rfl ?_
              refine ple ?_
              refine congrArg (PV.int .i64) ?_
              simp only [Bool.or_eq_true, Bool.and_eq_true, Bool.not_eq_true', decide_eq_true_eq, Bool.or_eq_false_iff, Bool.and_eq_false_iff, Bool.not_eq_false', decide_eq_false_iff_not, beq_iff_eq, beq_eq_false_iff_ne] at *
              unfold pairErr
              (repeat' split) <;> first | rfl | (exfalso; omega) | (exfalso; simp_all; done) | (exfalso; simp_all; omega) | grind
            · refine go tbv5ok 6 rfl rfl trivial ?_
              refine cnd rfl (fun h41 => ?_) (fun h41 => ?_)
              · refine go tbv5ok 8 rfl rfl trivial ?_
                refine rt1 rfl rfl ?_
                refine ple ?_
                refine congrArg (PV.int .i64) ?_
                simp only [Bool.or_eq_true, Bool.and_eq_true, Bool.not_eq_true', decide_eq_true_eq, Bool.or_eq_false_iff, Bool.and_eq_false_iff, Bool.not_eq_false', decide_eq_false_iff_not, beq_iff_eq, beq_eq_false_iff_ne] at *
                unfold pairErr
                (repeat' split) <;> first | rfl | (exfalso; omega) | (exfalso; simp_all; done) | (exfalso; simp_all; omega) | grind
              · refine go tbv5ok 9 rfl rfl trivial ?_
                refine rt1 rfl rfl ?_
                refine ple ?_
                refine congrArg (PV.int .i64) ?_
                simp only [Bool.or_eq_true, Bool.and_eq_true, Bool.not_eq_true', decide_eq_true_eq, Bool.or_eq_false_iff, Bool.and_eq_false_iff, Bool.not_eq_false', decide_eq_false_iff_not, beq_iff_eq, beq_eq_false_iff_ne] at *
                unfold pairErr
                (repeat' split) <;> first | rfl | (exfalso; omega) | (exfalso; simp_all; done) | (exfalso; simp_all; omega) | grind
theorem head_Check (h : List Pair) : Fn Tryz.prog gb 109 [.sl Pair.pc h] (.int .i64 (headE h)) := by
  refine fn_cw tbv5ok Tryz.func109 rfl Tryz.ntmps109 rfl cb109 rfl rfl fun w N H hG => ?_
  have h_l : h.length ≤ 140737488355328 := w.1.1
  refine go tbv5ok 13 rfl rfl trivial ?_
  refine cnd rfl (fun h1 => ?_) (fun h1 => ?_)
  · have p2 := dt h1
    refine go tbv5ok 7 rfl rfl trivial ?_
    refine rt1 rfl rfl ?_
    refine ple ?_
    simp [headE, *]
  · have p3 := df h1
    refine go tbv5ok 11 rfl rfl trivial ?_
    refine loop (ι := Nat) [0, 6, 7, 8, 9, 10] [] (fun k => [(11, .int .i64 (k : Int))]) (fun k => []) (fun k => k ≤ h.length ∧ headGo [] h = headGo (h.take k) (h.drop k)) (fun k => h.length - k) 0 ⟨rfl, trivial⟩ trivial ?_ ?_
    · exact ⟨Nat.zero_le _, rfl⟩
    · rintro k hp4
      obtain ⟨hk1, hk2⟩ := hp4
      refine go tbv5ok 6 rfl rfl trivial ?_
      refine cnd rfl (fun h5 => ?_) (fun h5 => ?_)
      · have p6 := dt h5
        obtain ⟨c7, hc8⟩ := getE (xs := h) (m := k) (by omega)
        have c7_w := Pair.pwf (w.1.2 c7 (List.mem_of_getElem? hc8))
        refine go tbv5ok 7 rfl rfl trivial ?_
        refine q1 (qidx tbv5ok k rfl rfl rfl hc8 rfl rfl rfl rfl) rfl fun w9 => ?_
        refine go tbv5ok 1 rfl rfl trivial ?_
        refine ef (alloc tbv5ok 0 rfl rfl rfl rfl fun b10 => ?_)
        refine go tbv5ok 1 rfl rfl trivial ?_
        refine ef (storeA tbv5ok rfl rfl rfl rfl rfl rfl rfl rfl rfl rfl ?_)
        refine go tbv5ok 3 rfl rfl trivial ?_
        refine any [1, 2, 3, 4, 5, 6] 6 mixd rfl ?_
        refine gov tbv5ok [0, 1, 2] 3 rfl (by kernel_rfl) rfl rfl trivial ?_
        refine vq 3 (lshi tbv5ok k rfl rfl rfl rfl rfl (fun _ => rfl) rfl (by omega)) rfl (by kernel_rfl) rfl fun w11 => ?_
        refine vcall 4 rfl (by kernel_rfl) (head_pair _ _) rfl rfl fun w12 => ?_
        have := pairErr_r c7 (h.take k)
        refine gov tbv5ok [5] 0 rfl (by kernel_rfl) rfl rfl trivial ?_
        refine vdone (by kernel_rfl) ?_
        refine go tbv5ok 7 rfl rfl trivial ?_
        refine cnd rfl (fun h13 => ?_) (fun h13 => ?_)
        · have h14 := not_t h13
          have p15 := df h14
          refine go tbv5ok 12 rfl rfl trivial ?_
          refine rt1 rfl rfl ?_
          refine ple ?_
          unfold headE
          rw [if_neg (by omega), hk2, dropE hc8]
          simp only [headGo]
          rw [if_pos (by omega)]
        · have h16 := not_f h13
          have p17 := dt h16
          refine go tbv5ok 7 rfl rfl ⟨(by omega), trivial⟩ ?_
          refine next (k + 1) rfl rfl ⟨rfl, trivial⟩ trivial ?_ ?_
          · omega
          · refine ⟨by omega, ?_⟩
            rw [hk2, dropE hc8, takeE hc8]
            simp only [headGo]
            rw [if_neg (by omega)]
      · have p18 := df h5
        refine go tbv5ok 11 rfl rfl trivial ?_
        refine rt1 rfl rfl ?_
        refine ple ?_
        unfold headE
        rw [if_neg (by omega), hk2, List.drop_of_length_le (by omega)]
        rfl
end Go.SW.V
set_option linter.unusedVariables false
set_option maxRecDepth 100000
set_option maxHeartbeats 4000000
namespace Go.SW.V
open Go.SW Go.Proofs
theorem cb120 : Callable Tryz.prog 120 := callable_of Tryz.func120 (by kernel_rfl) (by kernel_rfl)
theorem cb125 : Callable Tryz.prog 125 := callable_of Tryz.func125 (by kernel_rfl) (by kernel_rfl)
def tbv9 : Tb := [(4, ⟨.bool, 1, 1, [.bool false]⟩),
  (9, ⟨.str, 1, 16, [.str []]⟩),
  (47, ⟨.slc 139, 1, 24, [.sl Pair.pc []]⟩),
  (49, ⟨.agg [(0, 1), (1, 1), (2, 1), (3, 1), (4, 1), (5, 1)], 6, 88, [.str [], .str [], .bool false, .str [], .sl Pair.pc [], .bool false]⟩)]
theorem tbv9ok : tbB Tryz.prog tbv9 = true := by kernel_rfl
theorem deed_sameBind (a : BindR) (b : BindR) : Fn Tryz.prog gb 125 [.agg (BindR.pc a), .agg (BindR.pc b)] (.bool (decide (a = b))) := by
  refine fn_cw tbv9ok Tryz.func125 rfl Tryz.ntmps125 rfl cb125 rfl rfl fun w N H hG => ?_
  have a_want_l : a.want.length ≤ 140737488355328 := w.1.2.2.2.2.1.1
  have b_want_l : b.want.length ≤ 140737488355328 := w.2.1.2.2.2.2.1.1
  refine go tbv9ok 2 rfl rfl trivial ?_
  refine ef (boxA 0 rfl rfl rfl fun b1 => ?_)
  refine ef (boxA 1 rfl rfl rfl fun b2 => ?_)
  refine go tbv9ok 36 rfl rfl ⟨(fun hc => hc), (fun hc => hc), (fun hc => hc), (fun hc => hc), rfl, rfl, (fun hc => hc), (fun hc => hc), (fun hc => hc), (fun hc => hc), rfl, rfl, (fun hc => hc), (fun hc => hc), (fun hc => hc), (fun hc => hc), rfl, rfl, (fun hc => hc), (fun hc => hc), trivial⟩ ?_
  refine callg rfl (fun hc => (head_Same _ _)) rfl ⟨(fun hc => hc), (fun hc => hc), trivial⟩ rfl rfl fun _ => ?_
  refine go tbv9ok 12 rfl rfl ⟨rfl, rfl, (fun hc => hc), (fun hc => hc), (fun hc => hc), (fun hc => hc), rfl, rfl, trivial⟩ ?_
  refine rt1 rfl rfl ?_
  refine ple ?_
  exact congrArg PV.bool (by rw [Bool.eq_iff_iff]; first | (simp [BindR.eq_iff, and_assoc]; done) | (simp [BindR.eq_iff]; grind))
theorem deed_bit (yes : Bool) : Fn Tryz.prog gb 120 [.bool yes] (.int .u64 (bitN yes)) := by
  refine fn_cw tbv9ok Tryz.func120 rfl Tryz.ntmps120 rfl cb120 rfl rfl fun w N H hG => ?_
  refine go tbv9ok 11 rfl rfl trivial ?_
  refine cnd rfl (fun h1 => ?_) (fun h1 => ?_)
  · refine go tbv9ok 7 rfl rfl trivial ?_
    refine rt1 rfl rfl ?_
    refine ple ?_
    simp only [bitN, *]; rfl
  · refine go tbv9ok 8 rfl rfl trivial ?_
    refine rt1 rfl rfl ?_
    refine ple ?_
    simp only [bitN, *]; rfl
end Go.SW.V
set_option linter.unusedVariables false
set_option maxRecDepth 100000
set_option maxHeartbeats 4000000
namespace Go.SW.V
open Go.SW Go.Proofs
theorem cb176 : Callable Tryz.prog 176 := callable_of Tryz.func176 (by kernel_rfl) (by kernel_rfl)
def tbv6 : Tb := [(5, ⟨.int .u8, 1, 1, [.int .u8 0]⟩),
  (9, ⟨.str, 1, 16, [.str []]⟩),
  (22, ⟨.int .u64, 1, 8, [.int .u64 0]⟩),
  (182, ⟨.slc 5, 1, 24, [.sl u8c []]⟩)]
theorem tbv6ok : tbB Tryz.prog tbv6 = true := by kernel_rfl
theorem in_Num (i : In) (bytes : Int) : Fm Tryz.prog gb 176 [.int .i64 bytes] 234 (In.pc i) (.int .u64 (((inNum i bytes)).1)) (In.pc (((inNum i bytes)).2)) := by
  refine fm_cw tbv6ok Tryz.func176 rfl Tryz.ntmps176 rfl cb176 rfl rfl rfl rfl fun w wp b N H hG => ?_
  have bytes_r : -9223372036854775808 ≤ bytes ∧ bytes ≤ 9223372036854775807 := w.1
  have hb0 := inRaw_len i (min bytes 8)
  refine go tbv6ok 16 rfl rfl trivial ?_
  refine ef (ecallm (in_Raw _ (min bytes 8)) rfl rfl rfl rfl rfl fun w1 w1p => ?_)
  refine ef (ss2b tbv6ok rfl rfl rfl rfl rfl rfl rfl (by omega) rfl ?_)
  refine go tbv6ok 5 rfl rfl trivial ?_
  refine loop (ι := Nat) [0, 1, 4, 8, 9, 10, 11, 12, 13] [0] (fun k => [(5, .int .u64 (beN ((inRaw i (min bytes 8)).1.take k) : Int)), (14, .int .i64 (k : Int))]) (fun k => []) (fun k => k ≤ (inRaw i (min bytes 8)).1.length) (fun k => (inRaw i (min bytes 8)).1.length - k) 0 ⟨rfl, rfl, trivial⟩ trivial ?_ ?_
  · exact Nat.zero_le _
  · rintro k hp2
    have hb := inRaw_len i (min bytes 8)
    refine go tbv6ok 6 rfl rfl trivial ?_
    refine cnd rfl (fun h3 => ?_) (fun h3 => ?_)
    · have p4 := dt h3
      obtain ⟨c5, hc6⟩ := getE (xs := (inRaw i (min bytes 8)).1) (m := k) (by omega)
      refine go tbv6ok 6 rfl rfl trivial ?_
      refine q1 (qidx tbv6ok k rfl rfl rfl hc6 rfl rfl rfl rfl) rfl fun w7 => ?_
      have := wr_u64 ((BitVec.ofInt (IntKind.bits .u64) (IntKind.wrap .u64 ((beN ((inRaw i (min bytes 8)).1.take k) : Int) * 2 ^ (min (8 : Int).toNat (IntKind.bits .u64)))) ||| BitVec.ofInt (IntKind.bits .u64) ((c5).toNat : Int)).toNat)
      refine go tbv6ok 18 rfl rfl ⟨(by omega), (by omega), trivial⟩ ?_
      refine next (k + 1) rfl rfl ⟨(congrArg (PV.int .u64) (num_step hc6 (by omega))), rfl, trivial⟩ trivial ?_ ?_
      · omega
      · omega
    · have p8 := df h3
      refine go tbv6ok 12 rfl rfl trivial ?_
      refine rm1 rfl rfl ?_ rfl rfl rfl ?_
      · refine ple ?_
        simp only [inNum]
        rw [List.take_of_length_le (by omega)]
      · exact ples rfl
end Go.SW.V
set_option linter.unusedVariables false
set_option maxRecDepth 100000
set_option maxHeartbeats 4000000
namespace Go.SW.V
open Go.SW Go.Proofs
theorem cb163 : Callable Tryz.prog 163 := callable_of Tryz.func163 (by kernel_rfl) (by kernel_rfl)
theorem cb167 : Callable Tryz.prog 167 := callable_of Tryz.func167 (by kernel_rfl) (by kernel_rfl)
def tbv7 : Tb := [(9, ⟨.str, 1, 16, [.str []]⟩),
  (146, ⟨.slc 9, 1, 24, [.sl strc []]⟩)]
theorem tbv7ok : tbB Tryz.prog tbv7 = true := by kernel_rfl
theorem words_Matches (pattern : Bs) (key : Bs) (hp : pattern.length < 4294967281) (hk : key.length < 4294967281) : Fn Tryz.prog gb 167 [.str pattern, .str key] (.bool (mt (wordsOf pattern) (wordsOf key))) := by
  refine fn_cw tbv7ok Tryz.func167 rfl Tryz.ntmps167 rfl cb167 rfl rfl fun w N H hG => ?_
  have pattern_l : pattern.length ≤ 9223372036854775807 := w.1
  have key_l : key.length ≤ 9223372036854775807 := w.2.1
  refine go tbv7ok 8 rfl rfl trivial ?_
  refine call (words_Split _ (by omega)) rfl rfl fun w1 => ?_
  refine go tbv7ok 1 rfl rfl trivial ?_
  refine call (words_Split _ (by omega)) rfl rfl fun w2 => ?_
  refine go tbv7ok 18 rfl rfl trivial ?_
  refine loop (ι := Nat × Nat × Int × Nat) [0, 1, 5, 6, 11, 12, 13, 14] [] (fun ⟨i, j, b, f⟩ => [(7, .int .i64 (i : Int)), (8, .int .i64 (j : Int)), (9, .int .i64 b), (10, .int .i64 (f : Int))]) (fun ⟨i, j, b, f⟩ => []) (fun ⟨i, j, b, f⟩ => MI (wordsOf pattern) (wordsOf key) i j b f) (fun ⟨i, j, b, f⟩ => mmu (wordsOf pattern) (wordsOf key) j b f) ⟨0, 0, (-1), 0⟩ ⟨rfl, rfl, rfl, rfl, trivial⟩ trivial ?_ ?_
  · exact MI.start _ _
  · rintro ⟨i, j, b, f⟩ hp3
    have hmi := hp3
    have hwp := words_le pattern
    have hwk := words_le key
    have := hmi.hi
    have := hmi.hj
    have := hmi.hf
    have := hmi.hb
    have := hmi.hbi
    refine go tbv7ok 9 rfl rfl trivial ?_
    refine cnd rfl (fun h4 => ?_) (fun h4 => ?_)
    · have p5 := dt h4
      obtain ⟨c6, hc7⟩ := getJ (wordsOf pattern) i
      refine go tbv7ok 13 rfl rfl trivial ?_
      refine q1g [25, 26] rfl (fun hc => qidx tbv7ok i rfl rfl rfl (hc7 (by first | omega | (simp only [gOf, Bool.and_eq_true, Bool.or_eq_true, Bool.not_eq_true', decide_eq_true_eq, decide_eq_false_iff_not, Bool.not_eq_false', Bool.and_true, Bool.true_and, cond_true, cond_false] at *; omega))) rfl rfl rfl rfl) ⟨(fun hc => hc), (fun hc => hc), trivial⟩ rfl rfl rfl fun _ => ?_
      refine go tbv7ok 6 rfl rfl ⟨(fun hc => hc), (fun hc => hc), rfl, rfl, trivial⟩ ?_
      refine cnd rfl (fun h8 => ?_) (fun h8 => ?_)
      · have h9 := bl h8
        have p10 := dt h9
        have h11 := br h8
        have p12 := dt h11
        refine go tbv7ok 15 rfl rfl ⟨(by omega), trivial⟩ ?_
        obtain ⟨c13, hc14⟩ := getE (xs := wordsOf key) (m := j) (by omega)
        refine next ⟨(i + 1), j, ((i : Int) + 1), j⟩ rfl rfl ⟨(congrArg (PV.int .i64) (by omega)), rfl, rfl, rfl, trivial⟩ trivial ?_ ?_
        · exact mmu_hash hmi (by omega)
        · exact MI.hash hmi (by rw [(hc7 (by first | omega | (simp only [gOf, Bool.and_eq_true, Bool.or_eq_true, Bool.not_eq_true', decide_eq_true_eq, decide_eq_false_iff_not, Bool.not_eq_false', Bool.and_true, Bool.true_and, cond_true, cond_false] at *; omega)))]; simp [*])
      · refine go tbv7ok 1 rfl rfl trivial ?_
        refine any [0, 1, 2, 3, 4, 5] 23 mixd rfl ?_
        refine gov tbv7ok [0, 1, 2, 3, 4, 5, 6] 16 rfl (by kernel_rfl) rfl rfl trivial ?_
        refine vqg 7 [41, 42] rfl (by kernel_rfl) rfl rfl (fun hc => qidx tbv7ok i rfl rfl rfl (hc7 (by first | omega | (simp only [gOf, Bool.and_eq_true, Bool.or_eq_true, Bool.not_eq_true', decide_eq_true_eq, decide_eq_false_iff_not, Bool.not_eq_false', Bool.and_true, Bool.true_and, cond_true, cond_false] at *; omega))) rfl rfl rfl rfl) ⟨(fun hc => hc), (fun hc => hc), trivial⟩ rfl fun _ => ?_
        refine gov tbv7ok [8, 9, 10, 11, 12] 10 rfl (by kernel_rfl) rfl rfl ⟨(fun hc => hc), (fun hc => hc), (fun hc => hc), trivial⟩ ?_
        refine vqg 13 [47, 48] rfl (by kernel_rfl) rfl rfl (fun hc => qidx tbv7ok i rfl rfl rfl (hc7 (by first | omega | (simp only [gOf, Bool.and_eq_true, Bool.or_eq_true, Bool.not_eq_true', decide_eq_true_eq, decide_eq_false_iff_not, Bool.not_eq_false', Bool.and_true, Bool.true_and, cond_true, cond_false] at *; omega))) rfl rfl rfl rfl) ⟨(fun hc => hc), (fun hc => hc), trivial⟩ rfl fun _ => ?_
        refine gov tbv7ok [14, 15, 16] 6 rfl (by kernel_rfl) rfl rfl ⟨(fun hc => hc), trivial⟩ ?_
        obtain ⟨c15, hc16⟩ := getJ (wordsOf key) j
        refine vqg 17 [51, 52] rfl (by kernel_rfl) rfl rfl (fun hc => qidx tbv7ok j rfl rfl rfl (hc16 (by first | omega | (simp only [gOf, Bool.and_eq_true, Bool.or_eq_true, Bool.not_eq_true', decide_eq_true_eq, decide_eq_false_iff_not, Bool.not_eq_false', Bool.and_true, Bool.true_and, cond_true, cond_false] at *; omega))) rfl rfl rfl rfl) ⟨(fun hc => hc), (fun hc => hc), trivial⟩ rfl fun _ => ?_
        refine gov tbv7ok [18, 19, 20, 21, 22] 0 rfl (by kernel_rfl) rfl rfl ⟨(fun hc => hc), (fun hc => hc), (fun hc => hc), (fun hc => hc), (fun hc => (by rw [hc]; rfl)), (fun hc => rfl), rfl, rfl, trivial⟩ ?_
        refine vdone (by kernel_rfl) ?_
        refine go tbv7ok 1 rfl rfl trivial ?_
        refine cnd rfl (fun h17 => ?_) (fun h17 => ?_)
        · have h18 := bl h17
          have p19 := dt h18
          have h20 := br h17
          refine go tbv7ok 10 rfl rfl ⟨(by omega), (by omega), trivial⟩ ?_
          refine next ⟨(i + 1), (j + 1), b, f⟩ rfl rfl ⟨(congrArg (PV.int .i64) (by omega)), rfl, rfl, rfl, trivial⟩ trivial ?_ ?_
          · exact mmu_step (by omega)
          · first | exact MI.step hmi (hc7 (by first | omega | (simp only [gOf, Bool.and_eq_true, Bool.or_eq_true, Bool.not_eq_true', decide_eq_true_eq, decide_eq_false_iff_not, Bool.not_eq_false', Bool.and_true, Bool.true_and, cond_true, cond_false] at *; omega))) (hc16 (by first | omega | (simp only [gOf, Bool.and_eq_true, Bool.or_eq_true, Bool.not_eq_true', decide_eq_true_eq, decide_eq_false_iff_not, Bool.not_eq_false', Bool.and_true, Bool.true_and, cond_true, cond_false] at *; omega))) (by assumption) (by first | exact .inl (by assumption) | exact .inr (by assumption)) | exact MI.step hmi (hc7 (by first | omega | (simp only [gOf, Bool.and_eq_true, Bool.or_eq_true, Bool.not_eq_true', decide_eq_true_eq, decide_eq_false_iff_not, Bool.not_eq_false', Bool.and_true, Bool.true_and, cond_true, cond_false] at *; omega))) (hc16 (by first | omega | (simp only [gOf, Bool.and_eq_true, Bool.or_eq_true, Bool.not_eq_true', decide_eq_true_eq, decide_eq_false_iff_not, Bool.not_eq_false', Bool.and_true, Bool.true_and, cond_true, cond_false] at *; omega))) (by simp_all) (by first | (left; simp_all; done) | (right; simp_all; done) | grind)
        · refine go tbv7ok 7 rfl rfl trivial ?_
          refine cnd rfl (fun h21 => ?_) (fun h21 => ?_)
          · have p22 := dt h21
            refine go tbv7ok 15 rfl rfl ⟨(by omega), trivial⟩ ?_
            have hbad : ∀ w, (wordsOf pattern)[i]? = some w → w ≠ [35] ∧ w ≠ [42] ∧ w ≠ c15 := by
              intro w hw
              obtain ⟨hlt, _⟩ := List.getElem?_eq_some_iff.1 hw
              rw [(hc7 (by first | omega | (simp only [gOf, Bool.and_eq_true, Bool.or_eq_true, Bool.not_eq_true', decide_eq_true_eq, decide_eq_false_iff_not, Bool.not_eq_false', Bool.and_true, Bool.true_and, cond_true, cond_false] at *; omega)))] at hw; cases hw
              first | exact ⟨by assumption, by assumption, by assumption⟩ | (refine ⟨?_, ?_, ?_⟩ <;> intro q <;> simp_all)
            refine next ⟨b.toNat, (f + 1), b, (f + 1)⟩ rfl rfl ⟨(congrArg (PV.int .i64) (by omega)), rfl, rfl, rfl, trivial⟩ trivial ?_ ?_
            · exact mmu_back hmi.hf (by omega)
            · exact MI.back hmi (hc16 (by first | omega | (simp only [gOf, Bool.and_eq_true, Bool.or_eq_true, Bool.not_eq_true', decide_eq_true_eq, decide_eq_false_iff_not, Bool.not_eq_false', Bool.and_true, Bool.true_and, cond_true, cond_false] at *; omega))) (by omega) hbad
          · have p23 := df h21
            refine go tbv7ok 11 rfl rfl trivial ?_
            refine rt1 rfl rfl ?_
            refine ple ?_
            have hbad : ∀ w, (wordsOf pattern)[i]? = some w → w ≠ [35] ∧ w ≠ [42] ∧ w ≠ c15 := by
              intro w hw
              obtain ⟨hlt, _⟩ := List.getElem?_eq_some_iff.1 hw
              rw [(hc7 (by first | omega | (simp only [gOf, Bool.and_eq_true, Bool.or_eq_true, Bool.not_eq_true', decide_eq_true_eq, decide_eq_false_iff_not, Bool.not_eq_false', Bool.and_true, Bool.true_and, cond_true, cond_false] at *; omega)))] at hw; cases hw
              first | exact ⟨by assumption, by assumption, by assumption⟩ | (refine ⟨?_, ?_, ?_⟩ <;> intro q <;> simp_all)
            exact congrArg PV.bool (MI.none hmi (hc16 (by first | omega | (simp only [gOf, Bool.and_eq_true, Bool.or_eq_true, Bool.not_eq_true', decide_eq_true_eq, decide_eq_false_iff_not, Bool.not_eq_false', Bool.and_true, Bool.true_and, cond_true, cond_false] at *; omega))) (by omega) hbad).symm
    · have p24 := df h4
      refine go tbv7ok 7 rfl rfl trivial ?_
      refine loop (ι := Nat) [0, 1, 5, 6, 8, 9, 10, 11, 12, 13, 14, 15, 16, 17, 18] [] (fun q => [(7, .int .i64 (q : Int))]) (fun q => []) (fun q => q ≤ (wordsOf pattern).length ∧ mt (wordsOf pattern) (wordsOf key) = mt ((wordsOf pattern).drop q) []) (fun q => (wordsOf pattern).length - q) i ⟨rfl, trivial⟩ trivial ?_ ?_
      · exact ⟨by omega, hmi.fin (by omega)⟩
      · rintro q hp25
        obtain ⟨hq1, hq2⟩ := hp25
        obtain ⟨c26, hc27⟩ := getJ (wordsOf pattern) q
        refine go tbv7ok 10 rfl rfl trivial ?_
        refine q1g [74, 75] rfl (fun hc => qidx tbv7ok q rfl rfl rfl (hc27 (by first | omega | (simp only [gOf, Bool.and_eq_true, Bool.or_eq_true, Bool.not_eq_true', decide_eq_true_eq, decide_eq_false_iff_not, Bool.not_eq_false', Bool.and_true, Bool.true_and, cond_true, cond_false] at *; omega))) rfl rfl rfl rfl) ⟨(fun hc => hc), (fun hc => hc), trivial⟩ rfl rfl rfl fun _ => ?_
        refine go tbv7ok 5 rfl rfl ⟨(fun hc => hc), (fun hc => hc), rfl, rfl, trivial⟩ ?_
        refine cnd rfl (fun h28 => ?_) (fun h28 => ?_)
        · have h29 := bl h28
          have p30 := dt h29
          have h31 := br h28
          have p32 := dt h31
          refine go tbv7ok 9 rfl rfl ⟨(by omega), trivial⟩ ?_
          refine next (q + 1) rfl rfl ⟨rfl, trivial⟩ trivial ?_ ?_
          · omega
          · exact ⟨by omega, mt_end hq2 (by rw [(hc27 (by first | omega | (simp only [gOf, Bool.and_eq_true, Bool.or_eq_true, Bool.not_eq_true', decide_eq_true_eq, decide_eq_false_iff_not, Bool.not_eq_false', Bool.and_true, Bool.true_and, cond_true, cond_false] at *; omega)))]; simp [*])⟩
        · refine go tbv7ok 15 rfl rfl trivial ?_
          refine rt1 rfl rfl ?_
          refine ple ?_
          refine congrArg PV.bool ?_
          rw [hq2]
          by_cases hql : q < (wordsOf pattern).length
          · rw [mt_endN (hc27 (by first | omega | (simp only [gOf, Bool.and_eq_true, Bool.or_eq_true, Bool.not_eq_true', decide_eq_true_eq, decide_eq_false_iff_not, Bool.not_eq_false', Bool.and_true, Bool.true_and, cond_true, cond_false] at *; omega))) (by first | assumption | simp_all)]
            rw [decide_eq_false_iff_not]; omega
          · have hqe : q = (wordsOf pattern).length := by omega
            subst hqe
            rw [List.drop_length]; simp [mt]
theorem words_Pattern (s : Bs) : Fn Tryz.prog gb 163 [.str s] (.int .i64 (keyE patB s)) := by
  refine fn_cw tbv7ok Tryz.func163 rfl Tryz.ntmps163 rfl cb163 rfl rfl fun w N H hG => ?_
  have s_l : s.length ≤ 9223372036854775807 := w.1
  refine go tbv7ok 8 rfl rfl trivial ?_
  refine ef (bsl 0 strc [[42], [35]] tbv7ok rfl rfl rfl rfl rfl (fun _ => rfl) rfl (by decide) (by decide) rfl fun u1 => ?_)
  refine ef (calll 0 rfl (words_key _ _) rfl rfl rfl fun w2 => ?_)
  refine go tbv7ok 4 rfl rfl trivial ?_
  refine rt1 rfl rfl ?_
  refine ple ?_
  rfl
end Go.SW.V
set_option linter.unusedVariables false
set_option maxRecDepth 100000
set_option maxHeartbeats 4000000
namespace Go.SW.V
open Go.SW Go.Proofs
theorem cb119 : Callable Tryz.prog 119 := callable_of Tryz.func119 (by kernel_rfl) (by kernel_rfl)
def tbv8 : Tb := [(2, ⟨.int .i64, 1, 8, [.int .i64 0]⟩),
  (3, ⟨.int .i64, 1, 8, [.int .i64 0]⟩),
  (5, ⟨.int .u8, 1, 1, [.int .u8 0]⟩),
  (9, ⟨.str, 1, 16, [.str []]⟩),
  (22, ⟨.int .u64, 1, 8, [.int .u64 0]⟩),
  (47, ⟨.slc 139, 1, 24, [.sl Pair.pc []]⟩),
  (139, ⟨.agg [(0, 1), (1, 1), (2, 1), (3, 1)], 4, 48, [.str [], .int .u8 0, .int .i64 0, .str []]⟩),
  (170, ⟨.agg [(0, 1), (1, 1)], 2, 24, [.str [], .int .i64 0]⟩)]
theorem tbv8ok : tbB Tryz.prog tbv8 = true := by kernel_rfl
theorem head_Bytes (h : List Pair) : Fn Tryz.prog gb 119 [.sl Pair.pc h] (.tup [.str (headBytes h), .int .i64 (headE h)]) := by
  refine fn_cw tbv8ok Tryz.func119 rfl Tryz.ntmps119 rfl cb119 rfl rfl fun w N H hG => ?_
  have h_l : h.length ≤ 140737488355328 := w.1.1
  refine go tbv8ok 10 rfl rfl trivial ?_
  refine call (head_Check _) rfl rfl fun w1 => ?_
  refine go tbv8ok 9 rfl rfl trivial ?_
  refine cnd rfl (fun h2 => ?_) (fun h2 => ?_)
  · have h3 := not_t h2
    have p4 := df h3
    refine go tbv8ok 9 rfl rfl trivial ?_
    refine rt2 rfl rfl ?_
    refine ple ?_
    unfold headBytes
    rw [if_neg (by omega)]
  · have h5 := not_f h2
    have p6 := dt h5
    refine go tbv8ok 7 rfl rfl trivial ?_
    refine q1 (qconv tbv8ok rfl rfl rfl rfl (rg_u64 (by omega))) rfl fun w7 => ?_
    refine call (out_Num (⟨[], 0⟩ : Out) _ _ (by first | omega | (have := hrl (by assumption); omega) | (simp [outNum, outRaw, numB_len, numK] <;> omega) | (have := hrl (by assumption); simp [outNum, outRaw, numB_len, numK] <;> omega))) rfl rfl fun w8 => ?_
    have nl0 : (⟨[], 0⟩ : Out).s.length = 0 := rfl
    have := outNum_len (⟨[], 0⟩ : Out) (h.length : Int) 1
    refine ef (alloc tbv8ok 0 rfl rfl rfl rfl fun b9 => ?_)
    refine ef (storeA tbv8ok rfl rfl rfl rfl rfl rfl rfl rfl rfl rfl ?_)
    refine go tbv8ok 11 rfl rfl trivial ?_
    refine loop (ι := Nat × Out) [0, 2, 3, 4, 5, 8, 9, 10, 11, 13, 14, 15, 16, 17, 18, 19] [] (fun ⟨k, o⟩ => [(20, .int .i64 (k : Int))]) (fun ⟨k, o⟩ => [(0, .box b9 170 [.str o.s, .int .i64 o.err])]) (fun ⟨k, o⟩ => k ≤ h.length ∧ h.foldl pairOut (outNum ⟨[], 0⟩ h.length 1) = (h.drop k).foldl pairOut o ∧ o.s.length ≤ 8 + 110 * k) (fun ⟨k, o⟩ => h.length - k) ⟨0, (outNum (⟨[], 0⟩ : Out) (h.length : Int) 1)⟩ ⟨rfl, trivial⟩ ⟨rfl, trivial⟩ ?_ ?_
    · exact ⟨Nat.zero_le _, rfl, by simp at *; omega⟩
    · rintro ⟨k, o⟩ hp10
      obtain ⟨hk1, hk2, hk3⟩ := hp10
      have hok := headE_ok (h := h) (by assumption)
      refine go tbv8ok 6 rfl rfl trivial ?_
      refine cnd rfl (fun h11 => ?_) (fun h11 => ?_)
      · have p12 := dt h11
        obtain ⟨c13, hc14⟩ := getE (xs := h) (m := k) (by omega)
        have hpk := hok.2 c13 (List.mem_of_getElem? hc14)
        have c13_w := Pair.pwf (w.1.2 c13 (List.mem_of_getElem? hc14))
        refine go tbv8ok 6 rfl rfl trivial ?_
        refine q1 (qidx tbv8ok k rfl rfl rfl hc14 rfl rfl rfl rfl) rfl fun w15 => ?_
        refine go tbv8ok 1 rfl rfl trivial ?_
        refine ef (alloc tbv8ok 1 rfl rfl rfl rfl fun b16 => ?_)
        refine ef (storeA tbv8ok rfl rfl rfl rfl rfl rfl rfl rfl rfl rfl ?_)
        refine go tbv8ok 3 rfl rfl trivial ?_
        refine any [2, 3, 4, 5, 6, 7] 9 mixd rfl ?_
        refine gov tbv8ok [0, 1, 2] 6 rfl (by kernel_rfl) rfl rfl trivial ?_
        refine vcall 3 rfl (by kernel_rfl) (out_Text _ _ (by first | omega | (have := hrl (by assumption); omega) | (simp [outNum, outRaw, numB_len, numK] <;> omega) | (have := hrl (by assumption); simp [outNum, outRaw, numB_len, numK] <;> omega))) rfl rfl fun w17 => ?_
        have := outText_len o c13.key
        refine gov tbv8ok [4, 5, 6] 2 rfl (by kernel_rfl) rfl rfl trivial ?_
        refine vcall 7 rfl (by kernel_rfl) (out_Num _ _ _ (by first | omega | (have := hrl (by assumption); omega) | (simp [outNum, outRaw, numB_len, numK] <;> omega) | (have := hrl (by assumption); simp [outNum, outRaw, numB_len, numK] <;> omega))) rfl rfl fun w18 => ?_
        have := outNum_len (outText o c13.key) c13.kind 1
        refine vt 8 rfl (by kernel_rfl) (by kernel_rfl) (storeA tbv8ok rfl rfl rfl rfl rfl rfl rfl rfl rfl rfl ?_)
        refine vdone (by kernel_rfl) ?_
        refine go tbv8ok 14 rfl rfl trivial ?_
        refine cnd rfl (fun h19 => ?_) (fun h19 => ?_)
        · have p20 := dt h19
          refine go tbv8ok 5 rfl rfl trivial ?_
          refine call (out_Num _ _ _ (by first | omega | (have := hrl (by assumption); omega) | (simp [outNum, outRaw, numB_len, numK] <;> omega) | (have := hrl (by assumption); simp [outNum, outRaw, numB_len, numK] <;> omega))) rfl rfl fun w21 => ?_
          have := outNum_len (outNum (outText o c13.key) c13.kind 1) (IntKind.wrap .u64 c13.num) 8
          refine ef (storeA tbv8ok rfl rfl rfl rfl rfl rfl rfl rfl rfl rfl ?_)
          refine go tbv8ok 8 rfl rfl ⟨(by omega), trivial⟩ ?_
          refine next ⟨(k + 1), (outNum (outNum (outText o c13.key) c13.kind 1) (IntKind.wrap .u64 c13.num) 8)⟩ rfl rfl ⟨rfl, trivial⟩ ⟨rfl, trivial⟩ ?_ ?_
          · simp only []; omega
          · have e : (outNum (outNum (outText o c13.key) c13.kind 1) (IntKind.wrap .u64 c13.num) 8) = pairOut o c13 := by unfold pairOut; first | (rw [if_pos (by omega)]; done) | (rw [if_neg (by omega), if_pos (by omega)]; done) | (rw [if_neg (by omega), if_neg (by omega), if_pos (by omega)]; done) | (rw [if_neg (by omega), if_neg (by omega), if_neg (by omega)]; done)
            simp only []
            rw [e]
            have hlo := pairOut_len (o := o) (hok.2 c13 (List.mem_of_getElem? hc14))
            refine ⟨by omega, ?_, by omega⟩
            rw [hk2, dropE hc14, List.foldl_cons]
        · have p22 := df h19
          refine go tbv8ok 6 rfl rfl trivial ?_
          refine cnd rfl (fun h23 => ?_) (fun h23 => ?_)
          · have p24 := dt h23
            refine go tbv8ok 4 rfl rfl trivial ?_
            refine call (out_Text _ _ (by first | omega | (have := hrl (by assumption); omega) | (simp [outNum, outRaw, numB_len, numK] <;> omega) | (have := hrl (by assumption); simp [outNum, outRaw, numB_len, numK] <;> omega))) rfl rfl fun w25 => ?_
            have := outText_len (outNum (outText o c13.key) c13.kind 1) c13.text
            refine ef (storeA tbv8ok rfl rfl rfl rfl rfl rfl rfl rfl rfl rfl ?_)
            refine go tbv8ok 8 rfl rfl ⟨(by omega), trivial⟩ ?_
            refine next ⟨(k + 1), (outText (outNum (outText o c13.key) c13.kind 1) c13.text)⟩ rfl rfl ⟨rfl, trivial⟩ ⟨rfl, trivial⟩ ?_ ?_
            · simp only []; omega
            · have e : (outText (outNum (outText o c13.key) c13.kind 1) c13.text) = pairOut o c13 := by unfold pairOut; first | (rw [if_pos (by omega)]; done) | (rw [if_neg (by omega), if_pos (by omega)]; done) | (rw [if_neg (by omega), if_neg (by omega), if_pos (by omega)]; done) | (rw [if_neg (by omega), if_neg (by omega), if_neg (by omega)]; done)
              simp only []
              rw [e]
              have hlo := pairOut_len (o := o) (hok.2 c13 (List.mem_of_getElem? hc14))
              refine ⟨by omega, ?_, by omega⟩
              rw [hk2, dropE hc14, List.foldl_cons]
          · have p26 := df h23
            refine go tbv8ok 6 rfl rfl trivial ?_
            refine cnd rfl (fun h27 => ?_) (fun h27 => ?_)
            · have p28 := dt h27
              refine go tbv8ok 5 rfl rfl trivial ?_
              refine call (out_Num _ _ _ (by first | omega | (have := hrl (by assumption); omega) | (simp [outNum, outRaw, numB_len, numK] <;> omega) | (have := hrl (by assumption); simp [outNum, outRaw, numB_len, numK] <;> omega))) rfl rfl fun w29 => ?_
              have := outNum_len (outNum (outText o c13.key) c13.kind 1) (IntKind.wrap .u64 c13.num) 1
              refine ef (storeA tbv8ok rfl rfl rfl rfl rfl rfl rfl rfl rfl rfl ?_)
              refine go tbv8ok 8 rfl rfl ⟨(by omega), trivial⟩ ?_
              refine next ⟨(k + 1), (outNum (outNum (outText o c13.key) c13.kind 1) (IntKind.wrap .u64 c13.num) 1)⟩ rfl rfl ⟨rfl, trivial⟩ ⟨rfl, trivial⟩ ?_ ?_
              · simp only []; omega
              · have e : (outNum (outNum (outText o c13.key) c13.kind 1) (IntKind.wrap .u64 c13.num) 1) = pairOut o c13 := by unfold pairOut; first | (rw [if_pos (by omega)]; done) | (rw [if_neg (by omega), if_pos (by omega)]; done) | (rw [if_neg (by omega), if_neg (by omega), if_pos (by omega)]; done) | (rw [if_neg (by omega), if_neg (by omega), if_neg (by omega)]; done)
                simp only []
                rw [e]
                have hlo := pairOut_len (o := o) (hok.2 c13 (List.mem_of_getElem? hc14))
                refine ⟨by omega, ?_, by omega⟩
                rw [hk2, dropE hc14, List.foldl_cons]
            · have p30 := df h27
              refine go tbv8ok 8 rfl rfl ⟨(by omega), trivial⟩ ?_
              refine next ⟨(k + 1), (outNum (outText o c13.key) c13.kind 1)⟩ rfl rfl ⟨rfl, trivial⟩ ⟨rfl, trivial⟩ ?_ ?_
              · simp only []; omega
              · have e : (outNum (outText o c13.key) c13.kind 1) = pairOut o c13 := by unfold pairOut; first | (rw [if_pos (by omega)]; done) | (rw [if_neg (by omega), if_pos (by omega)]; done) | (rw [if_neg (by omega), if_neg (by omega), if_pos (by omega)]; done) | (rw [if_neg (by omega), if_neg (by omega), if_neg (by omega)]; done)
                simp only []
                rw [e]
                have hlo := pairOut_len (o := o) (hok.2 c13 (List.mem_of_getElem? hc14))
                refine ⟨by omega, ?_, by omega⟩
                rw [hk2, dropE hc14, List.foldl_cons]
      · have p31 := df h11
        refine go tbv8ok 8 rfl rfl trivial ?_
        refine call (out_String _) rfl rfl fun w32 => ?_
        refine go tbv8ok 5 rfl rfl trivial ?_
        refine rt2 rfl rfl ?_
        refine ple ?_
        unfold headBytes
        rw [if_pos (by assumption)]
        rw [List.drop_of_length_le (by omega), List.foldl_nil] at hk2
        rw [show headOut h = o from hk2]
        have e0 : headE h = 0 := by assumption
        rw [e0]
end Go.SW.V
set_option linter.unusedVariables false
set_option maxRecDepth 100000
set_option maxHeartbeats 4000000
namespace Go.SW.V
open Go.SW Go.Proofs
theorem ag22 : Ag Tryz.prog 22 false := fun w => by kernel_rfl
theorem cb103 : Callable Tryz.prog 103 := callable_of Tryz.func103 (by kernel_rfl) (by kernel_rfl)
theorem cb107 : Callable Tryz.prog 107 := callable_of Tryz.func107 (by kernel_rfl) (by kernel_rfl)
theorem cb108 : Callable Tryz.prog 108 := callable_of Tryz.func108 (by kernel_rfl) (by kernel_rfl)
theorem cb110 : Callable Tryz.prog 110 := callable_of Tryz.func110 (by kernel_rfl) (by kernel_rfl)
theorem cb117 : Callable Tryz.prog 117 := callable_of Tryz.func117 (by kernel_rfl) (by kernel_rfl)
theorem cb126 : Callable Tryz.prog 126 := callable_of Tryz.func126 (by kernel_rfl) (by kernel_rfl)
theorem cb29 : Callable Tryz.prog 29 := callable_of Tryz.func29 (by kernel_rfl) (by kernel_rfl)
theorem eqg44 : Tryz.prog.eqGuardType Tryz.prog.depth 44 = false := by kernel_rfl
theorem eqg46 : Tryz.prog.eqGuardType Tryz.prog.depth 46 = false := by kernel_rfl
theorem veq44 (p q : ShopR) : ∀ (H : Hp) (vs us : List Value), Sims H (ShopR.pc p) vs → Sims H (ShopR.pc q) us → EqV Tryz.prog 10000 44 (.agg vs.toArray) (.agg us.toArray) (decide (p = q)) := by
  intro H vs us hv hu
  obtain ⟨_, _, rfl, v0, v_0⟩ := hv.inv_cons
  obtain ⟨_, _, rfl, v1, v_1⟩ := v_0.inv_cons
  obtain ⟨_, _, rfl, v2, v_2⟩ := v_1.inv_cons
  cases v_2.inv_nil
  cases v0.inv_str.1; cases v1.inv_int.1; cases v2.inv_str.1
  obtain ⟨_, _, rfl, u0, u_0⟩ := hu.inv_cons
  obtain ⟨_, _, rfl, u1, u_1⟩ := u_0.inv_cons
  obtain ⟨_, _, rfl, u2, u_2⟩ := u_1.inv_cons
  cases u_2.inv_nil
  cases u0.inv_str.1; cases u1.inv_int.1; cases u2.inv_str.1
  exact EqV.to (eqv_agg Tryz.underlying44 (by kernel_rfl) (eqf_1 (by decide) ag9 rfl rfl (eqv_str Tryz.underlying9) (eqf_1 (by decide) ag5 rfl rfl (eqv_int Tryz.underlying5) (eqf_1 (by decide) ag9 rfl rfl (eqv_str Tryz.underlying9) eqf_nil)))) (by obtain ⟨a0, a1, a2⟩ := p; obtain ⟨b0, b1, b2⟩ := q; rw [Bool.eq_iff_iff]; simp)
theorem veq46 (p q : QueueR) : ∀ (H : Hp) (vs us : List Value), Sims H (QueueR.pc p) vs → Sims H (QueueR.pc q) us → EqV Tryz.prog 10000 46 (.agg vs.toArray) (.agg us.toArray) (decide (p = q)) := by
  intro H vs us hv hu
  obtain ⟨_, _, rfl, v0, v_0⟩ := hv.inv_cons
  obtain ⟨_, _, rfl, v1, v_1⟩ := v_0.inv_cons
  obtain ⟨_, _, rfl, v2, v_2⟩ := v_1.inv_cons
  obtain ⟨_, _, rfl, v3, v_3⟩ := v_2.inv_cons
  cases v_3.inv_nil
  cases v0.inv_str.1; cases v1.inv_int.1; cases v2.inv_int.1; cases v3.inv_str.1
  obtain ⟨_, _, rfl, u0, u_0⟩ := hu.inv_cons
  obtain ⟨_, _, rfl, u1, u_1⟩ := u_0.inv_cons
  obtain ⟨_, _, rfl, u2, u_2⟩ := u_1.inv_cons
  obtain ⟨_, _, rfl, u3, u_3⟩ := u_2.inv_cons
  cases u_3.inv_nil
  cases u0.inv_str.1; cases u1.inv_int.1; cases u2.inv_int.1; cases u3.inv_str.1
  exact EqV.to (eqv_agg Tryz.underlying46 (by kernel_rfl) (eqf_1 (by decide) ag9 rfl rfl (eqv_str Tryz.underlying9) (eqf_1 (by decide) ag22 rfl rfl (eqv_int Tryz.underlying22) (eqf_1 (by decide) ag22 rfl rfl (eqv_int Tryz.underlying22) (eqf_1 (by decide) ag9 rfl rfl (eqv_str Tryz.underlying9) eqf_nil))))) (by obtain ⟨a0, a1, a2, a3⟩ := p; obtain ⟨b0, b1, b2, b3⟩ := q; rw [Bool.eq_iff_iff]; simp)
def tbv14 : Tb := [(5, ⟨.int .u8, 1, 1, [.int .u8 0]⟩),
  (9, ⟨.str, 1, 16, [.str []]⟩),
  (22, ⟨.int .u64, 1, 8, [.int .u64 0]⟩),
  (44, ⟨.agg [(0, 1), (1, 1), (2, 1)], 3, 40, [.str [], .int .u8 0, .str []]⟩),
  (46, ⟨.agg [(0, 1), (1, 1), (2, 1), (3, 1)], 4, 48, [.str [], .int .u64 0, .int .u64 0, .str []]⟩),
  (47, ⟨.slc 139, 1, 24, [.sl Pair.pc []]⟩),
  (49, ⟨.agg [(0, 1), (1, 1), (2, 1), (3, 1), (4, 1), (5, 1)], 6, 88, [.str [], .str [], .bool false, .str [], .sl Pair.pc [], .bool false]⟩),
  (51, ⟨.agg [(0, 1), (1, 1), (2, 1), (3, 1), (4, 1), (5, 1), (6, 1)], 7, 96, [.int .u64 0, .str [], .str [], .sl Pair.pc [], .str [], .int .u64 0, .int .u8 0]⟩),
  (53, ⟨.agg [(0, 1), (1, 1), (2, 3), (5, 4), (9, 6), (15, 1), (16, 1), (17, 1), (18, 1), (19, 1), (20, 1), (21, 7), (28, 1)], 29, 344, [.int .u8 0, .int .u64 0, .str [], .int .u8 0, .str [], .str [], .int .u64 0, .int .u64 0, .str [], .str [], .str [], .bool false, .str [], .sl Pair.pc [], .bool false, .str [], .int .u64 0, .int .u8 0, .int .u8 0, .int .u8 0, .int .u64 0, .int .u64 0, .str [], .str [], .sl Pair.pc [], .str [], .int .u64 0, .int .u8 0, .str []]⟩),
  (170, ⟨.agg [(0, 1), (1, 1)], 2, 24, [.str [], .int .i64 0]⟩)]
theorem tbv14ok : tbB Tryz.prog tbv14 = true := by kernel_rfl
theorem mail_Check (m : Mail) : Fn Tryz.prog gb 110 [.agg (Mail.pc m)] (.int .i64 (mailC m)) := by
  refine fn_cw tbv14ok Tryz.func110 rfl Tryz.ntmps110 rfl cb110 rfl rfl fun w N H hG => ?_
  have m_head_l : m.head.length ≤ 140737488355328 := w.1.2.2.2.1.1
  refine go tbv14ok 2 rfl rfl trivial ?_
  refine ef (boxA 0 rfl rfl rfl fun b1 => ?_)
  refine go tbv14ok 8 rfl rfl trivial ?_
  refine call (words_Name _) rfl rfl fun w2 => ?_
  refine go tbv14ok 9 rfl rfl trivial ?_
  refine cnd rfl (fun h3 => ?_) (fun h3 => ?_)
  · have h4 := not_t h3
    have p5 := df h4
    refine go tbv14ok 8 rfl rfl trivial ?_
    refine rt1 rfl rfl ?_
    refine ple ?_
    refine congrArg (PV.int .i64) ?_
    simp only [Bool.or_eq_true, Bool.and_eq_true, Bool.not_eq_true', decide_eq_true_eq, Bool.or_eq_false_iff, Bool.and_eq_false_iff, Bool.not_eq_false', decide_eq_false_iff_not, beq_iff_eq, beq_eq_false_iff_ne] at *
    unfold mailC
    (repeat' split) <;> first | rfl | (exfalso; omega) | (exfalso; simp_all; done) | (exfalso; simp_all; omega) | grind
  · have h6 := not_f h3
    have p7 := dt h6
    refine go tbv14ok 7 rfl rfl trivial ?_
    refine call (words_Key _) rfl rfl fun w8 => ?_
    refine go tbv14ok 9 rfl rfl trivial ?_
    refine cnd rfl (fun h9 => ?_) (fun h9 => ?_)
    · have h10 := not_t h9
      have p11 := df h10
      refine go tbv14ok 8 rfl rfl trivial ?_
      refine rt1 rfl rfl ?_
      refine ple ?_
      refine congrArg (PV.int .i64) ?_
      simp only [Bool.or_eq_true, Bool.and_eq_true, Bool.not_eq_true', decide_eq_true_eq, Bool.or_eq_false_iff, Bool.and_eq_false_iff, Bool.not_eq_false', decide_eq_false_iff_not, beq_iff_eq, beq_eq_false_iff_ne] at *
      unfold mailC
      (repeat' split) <;> first | rfl | (exfalso; omega) | (exfalso; simp_all; done) | (exfalso; simp_all; omega) | grind
    · have h12 := not_f h9
      have p13 := dt h12
      refine go tbv14ok 7 rfl rfl trivial ?_
      refine call (head_Check _) rfl rfl fun w14 => ?_
      refine go tbv14ok 11 rfl rfl trivial ?_
      refine cnd rfl (fun h15 => ?_) (fun h15 => ?_)
      · have h16 := not_t h15
        have p17 := df h16
        refine go tbv14ok 9 rfl rfl trivial ?_
        refine rt1 rfl rfl ?_
        refine ple ?_
        refine congrArg (PV.int .i64) ?_
        simp only [Bool.or_eq_true, Bool.and_eq_true, Bool.not_eq_true', decide_eq_true_eq, Bool.or_eq_false_iff, Bool.and_eq_false_iff, Bool.not_eq_false', decide_eq_false_iff_not, beq_iff_eq, beq_eq_false_iff_ne] at *
        unfold mailC
        (repeat' split) <;> first | rfl | (exfalso; omega) | (exfalso; simp_all; done) | (exfalso; simp_all; omega) | grind
      · have h18 := not_f h15
        have p19 := dt h18
        refine go tbv14ok 9 rfl rfl trivial ?_
        refine cnd rfl (fun h20 => ?_) (fun h20 => ?_)
        · have p21 := dt h20
          refine go tbv14ok 8 rfl rfl trivial ?_
          refine rt1 rfl rfl ?_
          refine ple ?_
          refine congrArg (PV.int .i64) ?_
          simp only [Bool.or_eq_true, Bool.and_eq_true, Bool.not_eq_true', decide_eq_true_eq, Bool.or_eq_false_iff, Bool.and_eq_false_iff, Bool.not_eq_false', decide_eq_false_iff_not, beq_iff_eq, beq_eq_false_iff_ne] at *
          unfold mailC
          (repeat' split) <;> first | rfl | (exfalso; omega) | (exfalso; simp_all; done) | (exfalso; simp_all; omega) | grind
        · have p22 := df h20
          refine go tbv14ok 8 rfl rfl trivial ?_
          refine cnd rfl (fun h23 => ?_) (fun h23 => ?_)
          · have p24 := dt h23
            refine go tbv14ok 8 rfl rfl trivial ?_
            refine rt1 rfl rfl ?_
            refine ple ?_
            refine congrArg (PV.int .i64) ?_
            simp only [Bool.or_eq_true, Bool.and_eq_true, Bool.not_eq_true', decide_eq_true_eq, Bool.or_eq_false_iff, Bool.and_eq_false_iff, Bool.not_eq_false', decide_eq_false_iff_not, beq_iff_eq, beq_eq_false_iff_ne] at *
            unfold mailC
            (repeat' split) <;> first | rfl | (exfalso; omega) | (exfalso; simp_all; done) | (exfalso; simp_all; omega) | grind
          · have p25 := df h23
            refine go tbv14ok 9 rfl rfl trivial ?_
            refine rt1 rfl rfl ?_
            refine ple ?_
            refine congrArg (PV.int .i64) ?_
            simp only [Bool.or_eq_true, Bool.and_eq_true, Bool.not_eq_true', decide_eq_true_eq, Bool.or_eq_false_iff, Bool.and_eq_false_iff, Bool.not_eq_false', decide_eq_false_iff_not, beq_iff_eq, beq_eq_false_iff_ne] at *
            unfold mailC
            (repeat' split) <;> first | rfl | (exfalso; omega) | (exfalso; simp_all; done) | (exfalso; simp_all; omega) | grind
theorem mail_Bytes (m : Mail) : Fn Tryz.prog gb 117 [.agg (Mail.pc m)] (.tup [.str (mailBytes m), .int .i64 (mailC m)]) := by
  refine fn_cw tbv14ok Tryz.func117 rfl Tryz.ntmps117 rfl cb117 rfl rfl fun w N H hG => ?_
  have m_w := Mail.pwf w.1
  have m_w' := m_w
  simp only [Mail.wf] at m_w'
  have m_head_k := Mail.kd3 w.1
  have m_head_k2 : m.head.length ≤ 140737488355328 := w.1.2.2.2.1.1
  refine go tbv14ok 2 rfl rfl trivial ?_
  refine ef (boxA 0 rfl rfl rfl fun b1 => ?_)
  refine go tbv14ok 8 rfl rfl trivial ?_
  refine call (mail_Check _) rfl rfl fun w2 => ?_
  have := mailC_r m
  have hmo2 := fun h => mailC_ok (m := m) h
  refine go tbv14ok 9 rfl rfl trivial ?_
  refine cnd rfl (fun h3 => ?_) (fun h3 => ?_)
  · have h4 := not_t h3
    have p5 := df h4
    refine go tbv14ok 9 rfl rfl trivial ?_
    refine rt2 rfl rfl ?_
    refine ple ?_
    simp [mailBytes, mailOut, *]
  · have h6 := not_f h3
    have p7 := dt h6
    refine go tbv14ok 6 rfl rfl trivial ?_
    refine call (head_Bytes _) rfl rfl fun w8 => ?_
    have := headBytes_len m.head
    refine go tbv14ok 8 rfl rfl trivial ?_
    refine any [1, 2, 3, 4, 5, 6] 17 mixd rfl ?_
    refine gov tbv14ok [0, 1, 2] 14 rfl (by kernel_rfl) rfl rfl trivial ?_
    refine vcall 3 rfl (by kernel_rfl) (out_Num (⟨[], 0⟩ : Out) _ _ (by first | omega | (have := hrl (by assumption); omega) | (simp [outNum, outRaw, numB_len, numK] <;> omega) | (have := hrl (by assumption); simp [outNum, outRaw, numB_len, numK] <;> omega))) rfl rfl fun w9 => ?_
    have nl0 : (⟨[], 0⟩ : Out).s.length = 0 := rfl
    have := outNum_len (⟨[], 0⟩ : Out) m.id 8
    refine gov tbv14ok [4, 5] 11 rfl (by kernel_rfl) rfl rfl trivial ?_
    refine vcall 6 rfl (by kernel_rfl) (out_Text _ _ (by first | omega | (have := hrl (by assumption); omega) | (simp [outNum, outRaw, numB_len, numK] <;> omega) | (have := hrl (by assumption); simp [outNum, outRaw, numB_len, numK] <;> omega))) rfl rfl fun w10 => ?_
    have := outText_len (outNum (⟨[], 0⟩ : Out) m.id 8) m.shop
    refine gov tbv14ok [7, 8] 8 rfl (by kernel_rfl) rfl rfl trivial ?_
    refine vcall 9 rfl (by kernel_rfl) (out_Text _ _ (by first | omega | (have := hrl (by assumption); omega) | (simp [outNum, outRaw, numB_len, numK] <;> omega) | (have := hrl (by assumption); simp [outNum, outRaw, numB_len, numK] <;> omega))) rfl rfl fun w11 => ?_
    have := outText_len (outText (outNum (⟨[], 0⟩ : Out) m.id 8) m.shop) m.key
    refine gov tbv14ok [10] 6 rfl (by kernel_rfl) rfl rfl trivial ?_
    refine vcall 11 rfl (by kernel_rfl) (out_Raw _ _ (by first | omega | (have := hrl (by assumption); omega) | (simp [outNum, outRaw, numB_len, numK] <;> omega) | (have := hrl (by assumption); simp [outNum, outRaw, numB_len, numK] <;> omega))) rfl rfl fun w12 => ?_
    have := outRaw_len (outText (outText (outNum (⟨[], 0⟩ : Out) m.id 8) m.shop) m.key) (headBytes m.head)
    refine gov tbv14ok [12, 13] 3 rfl (by kernel_rfl) rfl rfl trivial ?_
    refine vcall 14 rfl (by kernel_rfl) (out_Text _ _ (by first | omega | (have := hrl (by assumption); omega) | (simp [outNum, outRaw, numB_len, numK] <;> omega) | (have := hrl (by assumption); simp [outNum, outRaw, numB_len, numK] <;> omega))) rfl rfl fun w13 => ?_
    have := outText_len (outRaw (outText (outText (outNum (⟨[], 0⟩ : Out) m.id 8) m.shop) m.key) (headBytes m.head)) m.body
    refine ve 15 rfl (by kernel_rfl) rfl (alloc tbv14ok 1 rfl rfl rfl rfl fun b14 => ?_)
    refine vt 16 rfl (by kernel_rfl) (by kernel_rfl) (storeA tbv14ok rfl rfl rfl rfl rfl rfl rfl rfl rfl rfl ?_)
    refine vdone (by kernel_rfl) ?_
    refine go tbv14ok 2 rfl rfl trivial ?_
    refine any [2, 3, 4, 5, 6, 7] 11 mixd rfl ?_
    refine gov tbv14ok [0, 1, 2] 8 rfl (by kernel_rfl) rfl rfl trivial ?_
    refine vcall 3 rfl (by kernel_rfl) (out_Num _ _ _ (by first | omega | (have := hrl (by assumption); omega) | (simp [outNum, outRaw, numB_len, numK] <;> omega) | (have := hrl (by assumption); simp [outNum, outRaw, numB_len, numK] <;> omega))) rfl rfl fun w15 => ?_
    have := outNum_len (outText (outRaw (outText (outText (outNum (⟨[], 0⟩ : Out) m.id 8) m.shop) m.key) (headBytes m.head)) m.body) m.due 8
    refine gov tbv14ok [4, 5, 6] 4 rfl (by kernel_rfl) rfl rfl trivial ?_
    refine vcall 7 rfl (by kernel_rfl) (out_Num _ _ _ (by first | omega | (have := hrl (by assumption); omega) | (simp [outNum, outRaw, numB_len, numK] <;> omega) | (have := hrl (by assumption); simp [outNum, outRaw, numB_len, numK] <;> omega))) rfl rfl fun w16 => ?_
    have := outNum_len (outNum (outText (outRaw (outText (outText (outNum (⟨[], 0⟩ : Out) m.id 8) m.shop) m.key) (headBytes m.head)) m.body) m.due 8) m.hops 1
    refine vcall 8 rfl (by kernel_rfl) (out_String _) rfl rfl fun w17 => ?_
    refine gov tbv14ok [9, 10] 0 rfl (by kernel_rfl) rfl rfl trivial ?_
    refine vdone (by kernel_rfl) ?_
    refine go tbv14ok 2 rfl rfl trivial ?_
    refine rt2 rfl rfl ?_
    refine ple ?_
    simp [mailBytes, mailOut, *]
theorem draft_Life (tick : Int) (life : Int) : Fn Tryz.prog gb 29 [.int .u64 tick, .int .u64 life] (.int .u64 (lifeN tick life)) := by
  refine fn_cw tbv14ok Tryz.func29 rfl Tryz.ntmps29 rfl cb29 rfl rfl fun w N H hG => ?_
  have tick_r : 0 ≤ tick ∧ tick ≤ 18446744073709551615 := w.1
  have life_r : 0 ≤ life ∧ life ≤ 18446744073709551615 := w.2.1
  refine go tbv14ok 13 rfl rfl trivial ?_
  refine q1g [9] rfl (fun hc => qsub rfl rfl (rg_u64 (by omega))) ⟨(fun hc => hc), trivial⟩ rfl rfl rfl fun _ => ?_
  refine go tbv14ok 4 rfl rfl ⟨(fun hc => hc), (fun hc => hc), rfl, rfl, trivial⟩ ?_
  refine cnd rfl (fun h1 => ?_) (fun h1 => ?_)
  · refine go tbv14ok 7 rfl rfl trivial ?_
    refine rt1 rfl rfl ?_
    refine ple ?_
    refine congrArg (PV.int .u64) ?_
    simp only [Bool.or_eq_true, Bool.and_eq_true, Bool.not_eq_true', decide_eq_true_eq, Bool.or_eq_false_iff, Bool.and_eq_false_iff, Bool.not_eq_false', decide_eq_false_iff_not, beq_iff_eq, beq_eq_false_iff_ne] at *
    unfold lifeN
    (repeat' split) <;> first | rfl | (exfalso; omega) | (exfalso; simp_all; done) | (exfalso; simp_all; omega) | grind
  · have h2 := orl h1
    have p3 := df h2
    have h4 := orr h1
    have p5 := df h4
    refine go tbv14ok 6 rfl rfl trivial ?_
    refine q1 (qadd rfl rfl (rg_u64 (by omega))) rfl fun w6 => ?_
    refine go tbv14ok 4 rfl rfl trivial ?_
    refine rt1 rfl rfl ?_
    refine ple ?_
    refine congrArg (PV.int .u64) ?_
    simp only [Bool.or_eq_true, Bool.and_eq_true, Bool.not_eq_true', decide_eq_true_eq, Bool.or_eq_false_iff, Bool.and_eq_false_iff, Bool.not_eq_false', decide_eq_false_iff_not, beq_iff_eq, beq_eq_false_iff_ne] at *
    unfold lifeN
    (repeat' split) <;> first | rfl | (exfalso; omega) | (exfalso; simp_all; done) | (exfalso; simp_all; omega) | grind
theorem deed_maybe (s : Bs) : Fn Tryz.prog gb 108 [.str s] (.int .i64 (maybeE s)) := by
  refine fn_cw tbv14ok Tryz.func108 rfl Tryz.ntmps108 rfl cb108 rfl rfl fun w N H hG => ?_
  have s_l : s.length ≤ 9223372036854775807 := w.1
  refine go tbv14ok 12 rfl rfl trivial ?_
  refine cnd rfl (fun h1 => ?_) (fun h1 => ?_)
  · have p2 := dt h1
    refine go tbv14ok 7 rfl rfl trivial ?_
    refine rt1 rfl rfl ?_
    refine ple ?_
    simp [maybeE, *]
  · have p3 := df h1
    refine go tbv14ok 5 rfl rfl trivial ?_
    refine call (words_Name _) rfl rfl fun w4 => ?_
    refine go tbv14ok 4 rfl rfl trivial ?_
    refine rt1 rfl rfl ?_
    refine ple ?_
    simp [maybeE, *]
theorem deed_bound (b : Bool) (e : Int) : Fn Tryz.prog gb 107 [.bool b, .int .i64 e] (.int .i64 (boundE b e)) := by
  refine fn_cw tbv14ok Tryz.func107 rfl Tryz.ntmps107 rfl cb107 rfl rfl fun w N H hG => ?_
  have e_r : -9223372036854775808 ≤ e ∧ e ≤ 9223372036854775807 := w.2.1
  refine go tbv14ok 11 rfl rfl trivial ?_
  refine cnd rfl (fun h1 => ?_) (fun h1 => ?_)
  · refine go tbv14ok 8 rfl rfl trivial ?_
    refine rt1 rfl rfl ?_
    refine ple ?_
    simp [boundE, *]
  · refine go tbv14ok 8 rfl rfl trivial ?_
    refine rt1 rfl rfl ?_
    refine ple ?_
    simp [boundE, *]
theorem mail_Same (a : Mail) (b : Mail) : Fn Tryz.prog gb 126 [.agg (Mail.pc a), .agg (Mail.pc b)] (.bool (decide (a = b))) := by
  refine fn_cw tbv14ok Tryz.func126 rfl Tryz.ntmps126 rfl cb126 rfl rfl fun w N H hG => ?_
  have a_head_l : a.head.length ≤ 140737488355328 := w.1.2.2.2.1.1
  have b_head_l : b.head.length ≤ 140737488355328 := w.2.1.2.2.2.1.1
  refine go tbv14ok 2 rfl rfl trivial ?_
  refine ef (boxA 0 rfl rfl rfl fun b1 => ?_)
  refine ef (boxA 1 rfl rfl rfl fun b2 => ?_)
  refine go tbv14ok 29 rfl rfl ⟨(fun hc => hc), (fun hc => hc), (fun hc => hc), (fun hc => hc), rfl, rfl, (fun hc => hc), (fun hc => hc), (fun hc => hc), (fun hc => hc), rfl, rfl, (fun hc => hc), (fun hc => hc), trivial⟩ ?_
  refine callg rfl (fun hc => (head_Same _ _)) rfl ⟨(fun hc => hc), (fun hc => hc), trivial⟩ rfl rfl fun _ => ?_
  refine go tbv14ok 26 rfl rfl ⟨rfl, rfl, (fun hc => hc), (fun hc => hc), (fun hc => hc), (fun hc => hc), rfl, rfl, (fun hc => hc), (fun hc => hc), (fun hc => hc), (fun hc => hc), rfl, rfl, (fun hc => hc), (fun hc => hc), (fun hc => hc), (fun hc => hc), rfl, rfl, trivial⟩ ?_
  refine rt1 rfl rfl ?_
  refine ple ?_
  exact congrArg PV.bool (by rw [Bool.eq_iff_iff]; first | (simp [Mail.eq_iff, and_assoc]; done) | (simp [Mail.eq_iff]; grind))
theorem deed_Same (a : DeedR) (b : DeedR) : Fn Tryz.prog gb 103 [.agg (DeedR.pc a), .agg (DeedR.pc b)] (.bool (decide (a = b))) := by
  refine fn_cw tbv14ok Tryz.func103 rfl Tryz.ntmps103 rfl cb103 rfl rfl fun w N H hG => ?_
  have a_bind_want_l : a.bind.want.length ≤ 140737488355328 := w.1.2.2.2.2.2.2.2.2.2.2.2.2.2.1.1
  have a_mail_head_l : a.mail.head.length ≤ 140737488355328 := w.1.2.2.2.2.2.2.2.2.2.2.2.2.2.2.2.2.2.2.2.2.2.2.2.2.1.1
  have b_bind_want_l : b.bind.want.length ≤ 140737488355328 := w.2.1.2.2.2.2.2.2.2.2.2.2.2.2.2.1.1
  have b_mail_head_l : b.mail.head.length ≤ 140737488355328 := w.2.1.2.2.2.2.2.2.2.2.2.2.2.2.2.2.2.2.2.2.2.2.2.2.2.2.1.1
  refine go tbv14ok 2 rfl rfl trivial ?_
  refine ef (boxA 0 rfl rfl rfl fun b1 => ?_)
  refine ef (boxA 1 rfl rfl rfl fun b2 => ?_)
  refine go tbv14ok 22 rfl rfl ⟨(fun hc => hc), (fun hc => hc), (fun hc => hc), (fun hc => hc), rfl, rfl, (fun hc => hc), (fun hc => hc), trivial⟩ ?_
  refine q1g [19, 21] rfl (fun hc => saeq rfl rfl eqg44 (veq44 a.shop b.shop)) ⟨(fun hc => hc), (fun hc => hc), trivial⟩ rfl rfl rfl fun _ => ?_
  refine go tbv14ok 6 rfl rfl ⟨rfl, rfl, (fun hc => hc), (fun hc => hc), trivial⟩ ?_
  refine q1g [26, 28] rfl (fun hc => saeq rfl rfl eqg46 (veq46 a.queue b.queue)) ⟨(fun hc => hc), (fun hc => hc), trivial⟩ rfl rfl rfl fun _ => ?_
  refine go tbv14ok 6 rfl rfl ⟨rfl, rfl, (fun hc => hc), (fun hc => hc), trivial⟩ ?_
  refine callg rfl (fun hc => (deed_sameBind _ _)) rfl ⟨(fun hc => hc), (fun hc => hc), trivial⟩ rfl rfl fun _ => ?_
  refine go tbv14ok 48 rfl rfl ⟨rfl, rfl, (fun hc => hc), (fun hc => hc), (fun hc => hc), (fun hc => hc), rfl, rfl, (fun hc => hc), (fun hc => hc), (fun hc => hc), (fun hc => hc), rfl, rfl, (fun hc => hc), (fun hc => hc), (fun hc => hc), (fun hc => hc), rfl, rfl, (fun hc => hc), (fun hc => hc), (fun hc => hc), (fun hc => hc), rfl, rfl, (fun hc => hc), (fun hc => hc), (fun hc => hc), (fun hc => hc), rfl, rfl, (fun hc => hc), (fun hc => hc), (fun hc => hc), (fun hc => hc), rfl, rfl, (fun hc => hc), (fun hc => hc), trivial⟩ ?_
  refine callg rfl (fun hc => (mail_Same _ _)) rfl ⟨(fun hc => hc), (fun hc => hc), trivial⟩ rfl rfl fun _ => ?_
  refine go tbv14ok 12 rfl rfl ⟨rfl, rfl, (fun hc => hc), (fun hc => hc), (fun hc => hc), (fun hc => hc), rfl, rfl, trivial⟩ ?_
  refine rt1 rfl rfl ?_
  refine ple ?_
  exact congrArg PV.bool (by rw [Bool.eq_iff_iff]; first | (simp [DeedR.eq_iff, and_assoc]; done) | (simp [DeedR.eq_iff]; grind))
end Go.SW.V
