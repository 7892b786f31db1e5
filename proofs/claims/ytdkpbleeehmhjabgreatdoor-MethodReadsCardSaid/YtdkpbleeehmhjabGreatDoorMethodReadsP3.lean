/-
  A part of the proof of MethodReads: What the document's reader does, told of what it stands for; names, keys, heads by the document. What the document says of keys, pairs, heads and replies, in plain Lean, and that it is what the program does. Heads that are read, more: what is read is a pair, or a head; what reads behind an error. What the functions of the layers 10 and 11 compute, in plain Lean: rules, methods. What the functions of the layers 13 and 26 (lives) compute, in plain Lean. What the small functions of layer 22 compute, in plain Lean. Exchanges, queues, bindings, deeds. What a deed's kind tells. What is wrong with a deed first, in plain Lean. A message's and a deed's bytes, and what is read of bytes, in plain Lean. The bytes of a message and of a deed, both ways, in plain Lean. What is small is gone through: aids for the document's bytes. Which messages and deeds are gone through. Records, printed by program: their cells, and what is read of them. Places in lists; books of exchanges, in plain Lean. Deeds packed; all deeds that are gone through. What is read of bytes is in its ranges. A deed that is read of bytes is in its ranges. Deeds that are written are read again, and no beginning of them is deeds. Deeds unpacked: how many, and that they are gone through. Drafts, in plain Lean. Records, printed by program: their cells, and what is read of them. Records, printed by program: what their cells stand for. Plain lemmas of the second generation: places found in lists. Answers told piece by piece: a call's answer, a part's answer, a branch; the meeting of several ways. Over any program that the table fits; each asks what it lists. Records, printed by program: what their cells stand for. Lists of lists, gone through; places in lists. Plain laws; each asks what it lists. From the data that a row's arguments read as to the ground of the walks, and back: a world seen as one that is read alone; integers, texts, bools, structs, slices opened; the row's last step. Over any program; no condition. How long a slice that was handed over can be. Over any program; no condition. From the data that a row's arguments read as0 to what values stand for. Over any program; each asks what it lists. Calls whose body is gone through where they stand: what is owned is the same. Over any program; each asks what it lists. Ranging over a text. Over any program; each asks what it lists. The sum, bit by bit and four bits at a time. What functions answer, printed by program out of their walks: draft.Draft.Settles$1, draft.Draft.Settles, draft.clone, draft.Draft.check, draft.Draft.Len, stairwellref26.Settles, chans.New, chans.Chan.Credit, chans.Chan.Room, chans.Chan.of$1, chans.Chan.of, chans.Chan.Sure, chans.Chan.Put, chans.Chan.Number, chans.Chan.Draft, chans.Chan.Drafts, chans.Chan.Undo, stairwellref27.New, stairwellref27.Credit, stairwellref27.Room, stairwellref27.Sure, stairwellref27.Put, stairwellref27.Draft, stairwellref27.Undo, stairwellref27.SameTakers, stairwellref27.SameLent. What functions an
-/
import Derived.Test.YtdkpbleeehmhjabGreatDoorMethodReadsP2
import Derived.Test.YtdkpbleeehmhjabGreatDoorMethodReadsP1
import Derived.Lib.IndexAny
import Derived.ProofKit
import Derived.OpenShut
import Derived.Deep.Slices
import Derived.Carry
import Derived.Lib.LaidTab
import Derived.SizedLaws
import Derived.Shelf.LaysM
import Derived.Shelf.Strings.IndexAnyAll
import Derived.Test.YtdkpbleeehmhjabGreatDoorProg
import Derived.Shelf.Strings.Split
import Derived.KernelRfl
set_option linter.unusedVariables false
set_option linter.unusedSimpArgs false
namespace Go.SW
theorem RSt.raw0 {r : RIn} {i : In} {n : Int} (h : RSt r i) (hc : ¬ r.code = 0 ∨ n ≤ 0) : inRaw i n = ([], i) := by
  unfold inRaw
  rw [if_pos]
  rcases hc with q | q
  · exact .inl (by rw [h.err]; exact q)
  · exact .inr q
theorem RSt.raw3 {r : RIn} {i : In} {n : Int} (h : RSt r i) (hc : r.code = 0) (hn : ¬ n ≤ 0) (hl : (r.s.length : Int) - r.pos < n) : inRaw i n = ([], ⟨[], 3⟩) := by
  unfold inRaw
  have e : i.err = 0 := by rw [h.err, hc]
  have hs := h.ok hc
  have lo := h.lo
  have hi := h.hi
  rw [if_neg (by omega), if_pos (by rw [hs, List.length_drop]; omega)]
theorem RSt.rawS {r : RIn} {i : In} {n : Int} (h : RSt r i) (hc : r.code = 0) (hn : ¬ n ≤ 0) (hl : ¬ (r.s.length : Int) - r.pos < n) : inRaw i n = ((r.s.drop r.pos.toNat).take n.toNat, ⟨(r.s.drop r.pos.toNat).drop n.toNat, i.err⟩) ∧ RSt ⟨r.s, r.pos + n, r.code⟩ ⟨(r.s.drop r.pos.toNat).drop n.toNat, i.err⟩ := by
  have e : i.err = 0 := by rw [h.err, hc]
  have hs := h.ok hc
  have lo := h.lo
  have hi := h.hi
  constructor
  · unfold inRaw
    rw [if_neg (by omega), if_neg (by rw [hs, List.length_drop]; omega), hs]
  · refine ⟨by simp only; omega, by simp only; omega, h.len, by rw [e]; exact hc.symm, fun _ => ?_, fun q => absurd hc q⟩
    simp only [List.drop_drop]
    congr 1
    omega
theorem RSt.err3 {r : RIn} {i : In} (h : RSt r i) : RSt ⟨r.s, r.pos, 3⟩ ⟨[], 3⟩ :=
  { lo := h.lo, hi := h.hi, len := h.len, err := rfl, ok := fun q => by have q' : (3 : Int) = 0 := q; omega, bad := fun _ => rfl }
theorem RSt.end' {r : RIn} {i : In} (h : RSt r i) : inEnd i = if r.code = 0 ∧ r.pos < r.s.length then 4 else r.code := by
  unfold inEnd
  rw [h.err]
  by_cases hc : r.code = 0
  · have hs := h.ok hc
    have lo := h.lo
    have hi := h.hi
    rw [hs, List.length_drop]
    by_cases q : r.pos < r.s.length
    · rw [if_pos ⟨hc, by omega⟩, if_pos ⟨hc, q⟩]
    · rw [if_neg (by rintro ⟨_, z⟩; omega), if_neg (by rintro ⟨_, z⟩; exact q z)]
  · rw [if_neg (fun q => hc q.1), if_neg (fun q => hc q.1)]
theorem beN_step {l : Bs} {k : Nat} (hk : k < l.length) (h8 : l.length ≤ 8) : IntKind.u64.wrap (IntKind.u64.wrap ((beN (l.take k) : Int) * 256) + ((l.getD k 0).toNat : Int)) = ((beN (l.take (k + 1)) : Nat) : Int) := by
  have hc : l[k]? = some (l.getD k 0) := by rw [List.getD_eq_getElem?_getD, List.getElem?_eq_getElem hk]; rfl
  have hlt := beN_lt (l.take k)
  have hl : (l.take k).length ≤ k := List.length_take_le _ _
  have h2 : 256 ^ (l.take k).length ≤ 256 ^ 7 := Nat.pow_le_pow_right (by omega) (by omega)
  rw [beN_take hc]
  have hb := (l.getD k 0).toNat_lt
  generalize beN (l.take k) = z at *
  generalize (l.getD k 0).toNat = y at *
  simp [IntKind.wrap, IntKind.bits, IntKind.signed]
  omega
/-! Words by the document -/
theorem dots_none : ∀ {t : Bs}, (∀ c ∈ t, ¬ c = 46) → dots t = [t]
  | [], _ => rfl
  | c :: r, h => by
    have ih := dots_none (t := r) (fun x hx => h x (by simp [hx]))
    unfold dots
    rw [if_neg (h c (by simp)), ih]
theorem dots_at : ∀ {m : Nat} {t : Bs}, (∀ c ∈ t.take m, ¬ c = 46) → t[m]? = some 46 → dots t = t.take m :: dots (t.drop (m + 1))
  | 0, [], _, h => by simp at h
  | 0, c :: r, _, h => by
    have : c = 46 := by simpa using h
    subst this
    rfl
  | m + 1, [], _, h => by simp at h
  | m + 1, c :: r, hn, h => by
    have ih := dots_at (m := m) (t := r) (fun x hx => hn x (by simp [hx])) (by simpa using h)
    rw [dots, if_neg (hn c (by simp)), ih]
    rfl
/-- No dot from f on up to k. -/
def noDot (s : Bs) (f k : Nat) : Prop := ∀ j, f ≤ j → j < k → ¬ s.getD j 0 = 46
theorem noDot_mem {s : Bs} {f k : Nat} (h : noDot s f k) : ∀ c ∈ (s.drop f).take (k - f), ¬ c = 46 := fun c hc => by
  obtain ⟨j, hj, rfl⟩ := List.getElem_of_mem hc
  rw [List.length_take, List.length_drop] at hj
  have := h (f + j) (by omega) (by omega)
  rw [List.getElem_take, List.getElem_drop]
  rw [List.getD_eq_getElem?_getD, List.getElem?_eq_getElem (by omega)] at this
  exact this
theorem split_hit {s : Bs} {f k : Nat} {out : List Bs} (h : dots s = out ++ dots (s.drop f)) (hn : noDot s f k) (hf : f ≤ k) (hk : k < s.length) (hc : s.getD k 0 = 46) : dots s = (out ++ [(s.drop f).take (k - f)]) ++ dots (s.drop (k + 1)) := by
  rw [h]
  have hg : (s.drop f)[k - f]? = some 46 := by
    rw [List.getElem?_drop, show f + (k - f) = k by omega, List.getElem?_eq_getElem hk]
    rw [List.getD_eq_getElem?_getD, List.getElem?_eq_getElem hk] at hc
    exact congrArg some hc
  rw [dots_at (noDot_mem hn) hg, List.drop_drop, show f + (k - f + 1) = k + 1 by omega]
  simp
theorem split_end {s : Bs} {f k : Nat} {out : List Bs} (h : dots s = out ++ dots (s.drop f)) (hn : noDot s f k) (hk : s.length ≤ k) : dots s = out ++ [s.drop f] := by
  rw [h]
  have := noDot_mem hn
  rw [List.take_of_length_le (by rw [List.length_drop]; omega)] at this
  rw [dots_none this]
theorem noDot_step {s : Bs} {f k : Nat} (h : noDot s f k) (hc : ¬ s.getD k 0 = 46) : noDot s f (k + 1) := fun j h1 h2 => by
  by_cases e : j = k
  · subst e; exact hc
  · exact h j h1 (by omega)
theorem noDot_nil {s : Bs} {f : Nat} : noDot s f f := fun j h1 h2 => by omega
theorem byteEq {c : UInt8} {n : Nat} (hn : n < 256) (h : (c.toNat : Int) = n) : c = UInt8.ofNat n := by
  apply UInt8.toNat_inj.1
  rw [UInt8.toNat_ofNat']
  have : (2 : Nat) ^ 8 = 256 := rfl
  omega
theorem byteNe {c : UInt8} {n : Nat} (hn : n < 256) (h : ¬ (c.toNat : Int) = n) : ¬ c = UInt8.ofNat n := by
  rintro rfl
  rw [UInt8.toNat_ofNat'] at h
  have : (2 : Nat) ^ 8 = 256 := rfl
  omega
def besidesOf (pattern : Bool) : List Bs := if pattern = true then [[42], [35]] else []
theorem letter_all {s : Bs} {k : Nat} (hk : k < s.length) : (s.drop k).all (fun c => letter c.toNat) = (letter (s.getD k 0).toNat && (s.drop (k + 1)).all (fun c => letter c.toNat)) := by
  rw [drop_getD hk, List.all_cons]
end Go.SW
namespace Go.SW
theorem isBad_doc {p b : Bool} {w : Bs} (h : (decide ((w.length : Int) = 0) || !plain w) = b) : isBad (besidesOf p) w = (b && !(p && (decide (w = [42]) || decide (w = [35])))) := by
  subst h
  have e : (w == []) = decide ((w.length : Int) = 0) := by
    cases w with
    | nil => rfl
    | cons c r => simp; omega
  unfold isBad besidesOf
  rw [e]
  cases p
  · simp
  · simp [Bool.and_comm]
def smallH (h : List Pair) : Prop := h.length ≤ 1000 ∧ ∀ p ∈ h, p.key.length ≤ 1000 ∧ p.text.length ≤ 1000
def r9B (h : List Pair) : Bs := numB 1 h.length ++ h.flatMap pairB
theorem pairErr_doc (p : Pair) (ahead : List Pair) : pairErr p ahead = if nameE p.key ≠ 0 then nameE p.key else if 2 < p.kind then 8 else if p.kind = 1 ∧ (64 : Int) < p.text.length then 5 else if p.kind = 2 ∧ (p.num < 0 ∨ 1 < p.num) then 7 else if p.kind = 1 ∧ p.num ≠ 0 ∨ p.kind ≠ 1 ∧ p.text ≠ [] then 4 else if (findP ahead p.key).isSome then 9 else 0 := by
  unfold pairErr
  have e : (p.kind = 2 ∧ p.num ≠ 0 ∧ p.num ≠ 1) ↔ (p.kind = 2 ∧ (p.num < 0 ∨ 1 < p.num)) := by omega
  simp only [e]
end Go.SW
namespace Go.SW
theorem wr_i64 (z : Int) : -9223372036854775808 ≤ IntKind.wrap .i64 z ∧ IntKind.wrap .i64 z ≤ 9223372036854775807 := by
  simp only [IntKind.wrap, IntKind.bits, IntKind.signed]
  simp
  omega
theorem readOne_wf (i : In) : (readOne i).1.wf := by
  have h1 := inText_len i 16
  have h2 := inNum_r (inText i 16).2 1
  have h3 := inText_len (inNum (inText i 16).2 1).2 64
  have h4 := wr_i64 (inNum (inNum (inText i 16).2 1).2 8).1
  have h5 := wr_i64 (inNum (inNum (inText i 16).2 1).2 1).1
  unfold readOne
  simp only
  repeat' split
  all_goals simp only [Pair.wf]
  all_goals refine ⟨by omega, by omega, by omega, ?_⟩
  all_goals first | omega | (simp; done)
theorem readGo_len : ∀ (k : Nat) (i : In) (h : List Pair), (readGo k i h).1.length ≤ h.length + k
  | 0, i, h => by simp [readGo]
  | k + 1, i, h => by
    simp only [readGo]
    generalize (if (readOne i).2.err = 0 then inFail (readOne i).2 (pairErr (readOne i).1 h) else (readOne i).2) = j
    by_cases e : j.err = 0
    · rw [if_neg (by simpa using e)]
      have := readGo_len k j (h ++ [(readOne i).1])
      simp at this; omega
    · rw [if_pos e]; simp
theorem headRead_len (i : In) : (headRead i).1.length ≤ 255 := by
  have := readGo_len (inNum i 1).1.toNat (if 8 < (inNum i 1).1 then inFail (inNum i 1).2 6 else (inNum i 1).2) []
  have hr := inNum_r i 1
  unfold headRead; simp at this; omega
theorem readOne_bad {i : In} (h : i.err ≠ 0) : (readOne i).2 = i := by
  unfold readOne
  obtain ⟨a1, a2⟩ := inText_bad h 16
  rw [if_neg (by omega)] at a2
  simp only
  rw [a2, inNum_bad h]
  simp only [if_true]
  rw [inNum_bad h]
theorem readGo_bad {i : In} (h : i.err ≠ 0) : ∀ k, readGo k i [] = ([], i)
  | 0 => rfl
  | k + 1 => by
    simp only [readGo]
    rw [readOne_bad h, if_neg h, if_pos h]
theorem readGo_step {k : Nat} {i : In} {h : List Pair} {p : Pair} {q : In} (e : readOne i = (p, q)) : readGo (k + 1) i h = if (if q.err = 0 then inFail q (pairErr p h) else q).err ≠ 0 then ([], if q.err = 0 then inFail q (pairErr p h) else q) else readGo k (if q.err = 0 then inFail q (pairErr p h) else q) (h ++ [p]) := by
  simp only [readGo]; rw [e]
theorem readGo_ok {k : Nat} {i : In} {h : List Pair} {p : Pair} {q : In} (e : readOne i = (p, q)) (hq : q.err = 0) (hz : (inFail q (pairErr p h)).err = 0) : readGo (k + 1) i h = readGo k (inFail q (pairErr p h)) (h ++ [p]) := by
  rw [readGo_step e]; simp only [if_pos hq]; rw [if_neg (by simpa using hz)]
theorem readGo_er1 {k : Nat} {i : In} {h : List Pair} {p : Pair} {q : In} (e : readOne i = (p, q)) (hq : q.err = 0) (hz : ¬ (inFail q (pairErr p h)).err = 0) : readGo (k + 1) i h = ([], inFail q (pairErr p h)) := by
  rw [readGo_step e]; simp only [if_pos hq]; rw [if_pos hz]
theorem readGo_er0 {k : Nat} {i : In} {h : List Pair} {p : Pair} {q : In} (e : readOne i = (p, q)) (hq : ¬ q.err = 0) : readGo (k + 1) i h = ([], q) := by
  rw [readGo_step e]; simp only [if_neg hq]; rw [if_pos hq]
end Go.SW
namespace Go.SW
/-! What is told, by kind -/
def tellsT : List Bs := [[110], [], [], [65, 110, 120], [65], [65, 110, 109, 120], [65], [65, 79, 112, 104, 121], [65, 79, 112, 104, 121], [65, 79, 112, 104, 121], [65, 79, 112, 104, 121], [65, 107, 104, 109, 98], [110], [65, 110], [110], [65], [110, 109, 121], [], [], [], []]
abbrev tellsOf (k : Int) : Bs := tellsT.getD k.toNat []
theorem tells_mem (k : Int) : tellsOf k = [] ∨ tellsOf k ∈ tellsT := by
  unfold tellsOf
  rw [List.getD_eq_getElem?_getD]
  rcases h : tellsT[k.toNat]? with _ | s
  · exact .inl rfl
  · exact .inr (List.mem_of_getElem? h)
theorem tells_plain (k : Int) : ∀ c ∈ tellsOf k, c.toNat < 128 := by
  rcases tells_mem k with h | h
  · rw [h]; intro c hc; cases hc
  · exact (by decide : ∀ s ∈ tellsT, ∀ c ∈ s, c.toNat < 128) _ h
theorem tells_len (k : Int) : (tellsOf k).length ≤ 5 := by
  rcases tells_mem k with h | h
  · rw [h]; decide
  · exact (by decide : ∀ s ∈ tellsT, s.length ≤ 5) _ h
theorem tells_at (k : Int) (p : Nat) (h : p < (tellsOf k).length) : ((tellsOf k).getD p 0).toNat < 128 := by
  rw [List.getD_eq_getElem?_getD, List.getElem?_eq_getElem h]
  exact tells_plain k _ (List.getElem_mem h)
def hasAny (s cs : Bs) : Bool := s.any cs.contains
theorem containsAny_eq (s cs : Bs) : Lib.containsAny s cs = hasAny s cs := by
  unfold Lib.containsAny hasAny
  induction s with
  | nil => rfl
  | cons b l ih =>
    rw [List.any_cons, ← ih]
    have hg := Lib.indexAny_ge cs l
    have e0 : Lib.indexAny (b :: l) cs = if cs.contains b then 0 else if Lib.indexAny l cs == -1 then -1 else Lib.indexAny l cs + 1 := rfl
    rw [e0]
    by_cases h : cs.contains b = true
    · rw [if_pos h, h, Bool.true_or]; rfl
    · have h' : cs.contains b = false := by simpa using h
      rw [if_neg h, h', Bool.false_or]
      by_cases e : Lib.indexAny l cs = -1
      · rw [e]; rfl
      · have e' : (Lib.indexAny l cs == -1) = false := by simpa using e
        rw [e']
        simp only [Bool.false_eq_true, if_false]
        have a : (0 : Int) ≤ Lib.indexAny l cs + 1 := by omega
        have b : (0 : Int) ≤ Lib.indexAny l cs := by omega
        rw [decide_eq_true a, decide_eq_true b]
/-! Layer 10 -/
structure Rule where
  sort : Int
  key : Bs
  want : List Pair
  all : Bool
deriving DecidableEq
def Rule.cells (r : Rule) (a : Option Addr) (c : Nat) : List Value := [.int .u8 r.sort, str r.key, .slice a r.want.length c, .bool r.all]
def Rule.wf (r : Rule) : Prop := (0 ≤ r.sort ∧ r.sort ≤ 255) ∧ r.key.length ≤ 9223372036854775807 ∧ r.want.length ≤ 9223372036854775807
theorem Rule.eq_iff {a b : Rule} : a = b ↔ a.sort = b.sort ∧ a.key = b.key ∧ a.want = b.want ∧ a.all = b.all := by
  cases a; cases b; simp
def patB : List Bs := [[42], [35]]
def ruleE (r : Rule) : Int :=
  if 3 < r.sort then 8
  else if r.sort = 0 then (if keyE [] r.key ≠ 0 then keyE [] r.key else headE r.want)
  else if keyE patB r.key ≠ 0 then keyE patB r.key else headE r.want
def hasP (h : List Pair) (p : Pair) : Bool := (findP h p.key).isSome && decide ((findP h p.key).getD Pair.zero = p)
def headsGo (all : Bool) (h : List Pair) : List Pair → Bool
  | [] => all
  | p :: l => if hasP h p then (if all then headsGo all h l else true) else if all then false else headsGo all h l
def goesR (r : Rule) (key : Bs) (h : List Pair) : Bool :=
  if r.sort = 0 then decide (key = r.key) else if r.sort = 2 then mt (wordsOf r.key) (wordsOf key) else if r.sort = 3 then headsGo r.all h r.want else true
/-! Layer 11 -/
structure Method where
  channel : Int
  kind : Int
  name : Bs
  other : Bs
  key : Bs
  head : List Pair
  body : Bs
  n : Int
  m : Int
  yes : Bool
deriving DecidableEq
def Method.cells (m : Method) (a : Option Addr) (c : Nat) : List Value := [.int .u8 m.channel, .int .u8 m.kind, str m.name, str m.other, str m.key, .slice a m.head.length c, str m.body, .int .u64 m.n, .int .u64 m.m, .bool m.yes]
def Method.wf (m : Method) : Prop := (0 ≤ m.channel ∧ m.channel ≤ 255) ∧ (0 ≤ m.kind ∧ m.kind ≤ 255) ∧ (0 ≤ m.n ∧ m.n ≤ 18446744073709551615) ∧ (0 ≤ m.m ∧ m.m ≤ 18446744073709551615) ∧ m.name.length ≤ 9223372036854775807 ∧ m.other.length ≤ 9223372036854775807 ∧ m.key.length ≤ 9223372036854775807 ∧ m.head.length ≤ 9223372036854775807 ∧ m.body.length ≤ 9223372036854775807
theorem Method.eq_iff {a b : Method} : a = b ↔ a.channel = b.channel ∧ a.kind = b.kind ∧ a.name = b.name ∧ a.other = b.other ∧ a.key = b.key ∧ a.head = b.head ∧ a.body = b.body ∧ a.n = b.n ∧ a.m = b.m ∧ a.yes = b.yes := by
  cases a; cases b; simp
def hasK (m : Method) (cs : Bs) : Bool := hasAny (tellsOf m.kind) cs
def spareMt (m : Method) : Bool :=
  !decide (m.name = []) && !hasK m [65] || !decide (m.other = []) && !hasK m [79, 120] || !decide (m.key = []) && !hasK m [107, 112] ||
  decide ((0 : Int) < m.head.length) && !hasK m [104] || !decide (m.body = []) && !hasK m [98] ||
  !decide (m.n = 0) && !hasK m [110] || !decide (m.m = 0) && !hasK m [109] || m.yes && !hasK m [121]
def oneE (m : Method) (c : Int) : Int :=
  if c = 65 then nameE m.name
  else if c = 120 then (if m.other = [] then 0 else nameE m.other)
  else if c = 79 then nameE m.other
  else if c = 107 then keyE [] m.key
  else if c = 112 then keyE patB m.key
  else if c = 104 then headE m.head
  else if c = 98 then (if (256 : Int) < m.body.length then 5 else 0)
  else 0
def ckGo (m : Method) : Bs → Int
  | [] => 0
  | c :: l => if oneE m (c.toNat : Int) ≠ 0 then oneE m (c.toNat : Int) else ckGo m l
def methodE (m : Method) : Int := if 20 < m.kind then 8 else if spareMt m then 4 else ckGo m (tellsOf m.kind)
theorem methodE_kind {m : Method} (h : methodE m = 0) : m.kind ≤ 20 := by
  unfold methodE at h
  split at h
  · cases h
  · omega
theorem ckGo_all {m : Method} : ∀ {l : Bs}, ckGo m l = 0 → ∀ c ∈ l, oneE m (c.toNat : Int) = 0
  | [], _, _, hc => by cases hc
  | d :: l, h, c, hc => by
    simp only [ckGo] at h
    split at h
    · omega
    · rcases List.mem_cons.1 hc with rfl | hc
      · omega
      · exact ckGo_all h c hc
theorem methodE_at {m : Method} (h : methodE m = 0) {p : Nat} (hp : p < (tellsOf m.kind).length) : oneE m (((tellsOf m.kind).getD p 0).toNat : Int) = 0 := by
  have hc : ckGo m (tellsOf m.kind) = 0 := by
    unfold methodE at h
    split at h
    · cases h
    · split at h
      · cases h
      · exact h
  rw [List.getD_eq_getElem?_getD, List.getElem?_eq_getElem hp]
  exact ckGo_all hc _ (List.getElem_mem hp)
theorem oneE_len {m : Method} {c : Int} (h : oneE m c = 0) : (c = 65 → m.name.length ≤ 256) ∧ (c = 120 ∨ c = 79 → m.other.length ≤ 256) ∧ (c = 107 ∨ c = 112 → m.key.length ≤ 256) ∧ (c = 98 → m.body.length ≤ 256) := by
  refine ⟨fun e => ?_, fun e => ?_, fun e => ?_, fun e => ?_⟩
  · subst e
    have := nameE_ok (s := m.name) (by simpa [oneE] using h)
    omega
  · rcases e with rfl | rfl
    · simp [oneE] at h
      by_cases e : m.other = []
      · rw [e]; simp
      · have := nameE_ok (s := m.other) (h e); omega
    · have := nameE_ok (s := m.other) (by simpa [oneE] using h); omega
  · rcases e with rfl | rfl
    · have := keyE_ok (b := []) (s := m.key) (by simpa [oneE] using h); omega
    · have := keyE_ok (b := patB) (s := m.key) (by simpa [oneE] using h); omega
  · subst e
    simp [oneE] at h
    omega
def mOut1 (m : Method) (o : Out) (c : Int) : Out :=
  if c = 65 then outText o m.name
  else if c = 120 ∨ c = 79 then outText o m.other
  else if c = 107 ∨ c = 112 then outText o m.key
  else if c = 104 then outRaw o (headBytes m.head)
  else if c = 98 then outText o m.body
  else if c = 110 then outNum o m.n 8
  else if c = 109 then outNum o m.m 8
  else if c = 121 then outNum o (if m.yes = true then 1 else 0) 1
  else o
def mOutGo (m : Method) (o : Out) (l : Bs) : Out := l.foldl (fun o c => mOut1 m o (c.toNat : Int)) o
def methodFrame (m : Method) : Frame := if methodE m = 0 then ⟨m.channel, m.kind, (mOutGo m ⟨[], 0⟩ (tellsOf m.kind)).s⟩ else Frame.zero
def lightMt (m : Method) : Bool := decide (max (m.name.length : Int) (m.other.length : Int) ≤ 40) && decide ((m.key.length : Int) ≤ 100) && lightH m.head && decide ((m.body.length : Int) ≤ 300)
end Go.SW
namespace Go.SW
/-! Layer 13 -/
def mailC (m : Mail) : Int :=
  if nameE m.shop ≠ 0 then nameE m.shop else if keyE [] m.key ≠ 0 then keyE [] m.key else if headE m.head ≠ 0 then headE m.head else if (256 : Int) < m.body.length then 5 else if 4 < m.hops then 7 else 0
def mailOut (m : Mail) : Out := outNum (outNum (outText (outRaw (outText (outText (outNum ⟨[], 0⟩ m.id 8) m.shop) m.key) (headBytes m.head)) m.body) m.due 8) m.hops 1
def mailBytes (m : Mail) : Bs := if mailC m = 0 then (mailOut m).s else []
/-! Layer 26 -/
def lifeN (t l : Int) : Int := if l = 0 ∨ 18446744073709551615 - t < l then 0 else t + l
end Go.SW
namespace Go.SW
def maybeE (s : Bs) : Int := if s = [] then 0 else nameE s
def boundE (b : Bool) (e : Int) : Int := if b = true then e else 0
def bitN (b : Bool) : Int := if b = true then 1 else 0
end Go.SW
namespace Go.SW
structure ShopR where
  name : Bs
  sort : Int
  to : Bs
deriving DecidableEq
def ShopR.cells (x : ShopR) : List Value := [str x.name, .int .u8 x.sort, str x.to]
def ShopR.wf (x : ShopR) : Prop := x.name.length ≤ 9223372036854775807 ∧ (0 ≤ x.sort ∧ x.sort ≤ 255) ∧ x.to.length ≤ 9223372036854775807
structure QueueR where
  name : Bs
  most : Int
  life : Int
  dead : Bs
deriving DecidableEq
def QueueR.cells (x : QueueR) : List Value := [str x.name, .int .u64 x.most, .int .u64 x.life, str x.dead]
def QueueR.wf (x : QueueR) : Prop := x.name.length ≤ 9223372036854775807 ∧ (0 ≤ x.most ∧ x.most ≤ 18446744073709551615) ∧ (0 ≤ x.life ∧ x.life ≤ 18446744073709551615) ∧ x.dead.length ≤ 9223372036854775807
structure BindR where
  shop : Bs
  to : Bs
  up : Bool
  key : Bs
  want : List Pair
  all : Bool
deriving DecidableEq
def BindR.cells (x : BindR) (a : Option Addr) (c : Nat) : List Value := [str x.shop, str x.to, .bool x.up, str x.key, .slice a x.want.length c, .bool x.all]
def BindR.wf (x : BindR) : Prop := x.shop.length ≤ 9223372036854775807 ∧ x.to.length ≤ 9223372036854775807 ∧ x.key.length ≤ 9223372036854775807 ∧ x.want.length ≤ 9223372036854775807
theorem BindR.eq_iff {a b : BindR} : a = b ↔ a.shop = b.shop ∧ a.to = b.to ∧ a.up = b.up ∧ a.key = b.key ∧ a.want = b.want ∧ a.all = b.all := by
  cases a; cases b; simp
structure DeedR where
  kind : Int
  tick : Int
  shop : ShopR
  queue : QueueR
  bind : BindR
  name : Bs
  id : Int
  how : Int
  frm : Int
  code : Int
  number : Int
  mail : Mail
  text : Bs
deriving DecidableEq
def DeedR.cells (d : DeedR) (a : Option Addr) (c : Nat) (a' : Option Addr) (c' : Nat) : List Value :=
  [.int .u8 d.kind, .int .u64 d.tick, str d.shop.name, .int .u8 d.shop.sort, str d.shop.to, str d.queue.name, .int .u64 d.queue.most, .int .u64 d.queue.life, str d.queue.dead,
   str d.bind.shop, str d.bind.to, .bool d.bind.up, str d.bind.key, .slice a d.bind.want.length c, .bool d.bind.all, str d.name, .int .u64 d.id, .int .u8 d.how, .int .u8 d.frm, .int .u8 d.code, .int .u64 d.number,
   .int .u64 d.mail.id, str d.mail.shop, str d.mail.key, .slice a' d.mail.head.length c', str d.mail.body, .int .u64 d.mail.due, .int .u8 d.mail.hops, str d.text]
def DeedR.wf (d : DeedR) : Prop := (0 ≤ d.kind ∧ d.kind ≤ 255) ∧ (0 ≤ d.tick ∧ d.tick ≤ 18446744073709551615) ∧ d.shop.wf ∧ d.queue.wf ∧ d.bind.wf ∧ d.name.length ≤ 9223372036854775807 ∧ (0 ≤ d.id ∧ d.id ≤ 18446744073709551615) ∧ (0 ≤ d.how ∧ d.how ≤ 255) ∧ (0 ≤ d.frm ∧ d.frm ≤ 255) ∧ (0 ≤ d.code ∧ d.code ≤ 255) ∧ (0 ≤ d.number ∧ d.number ≤ 18446744073709551615) ∧ d.mail.wf ∧ d.text.length ≤ 9223372036854775807
theorem DeedR.eq_iff {a b : DeedR} : a = b ↔ a.kind = b.kind ∧ a.tick = b.tick ∧ a.shop = b.shop ∧ a.queue = b.queue ∧ a.bind = b.bind ∧ a.name = b.name ∧ a.id = b.id ∧ a.how = b.how ∧ a.frm = b.frm ∧ a.code = b.code ∧ a.number = b.number ∧ a.mail = b.mail ∧ a.text = b.text := by
  cases a; cases b; simp
end Go.SW
namespace Go.SW
def ShopR.zero : ShopR := ⟨[], 0, []⟩
def QueueR.zero : QueueR := ⟨[], 0, 0, []⟩
def BindR.zero : BindR := ⟨[], [], false, [], [], false⟩
def toldD (d : DeedR) : DeedR :=
  ⟨d.kind, d.tick, if d.kind = 0 then d.shop else .zero, if d.kind = 2 then d.queue else .zero, if d.kind = 4 ∨ d.kind = 5 then d.bind else .zero,
   if d.kind = 1 ∨ d.kind = 3 ∨ d.kind = 7 ∨ d.kind = 8 then d.name else [], if d.kind = 8 then d.id else 0, if d.kind = 8 then d.how else 0, if d.kind = 10 then d.frm else 0, if d.kind = 12 then d.code else 0, if d.kind = 10 then d.number else 0,
   if d.kind = 6 ∨ d.kind = 10 then d.mail else .zero, if d.kind = 12 then d.text else []⟩
end Go.SW
namespace Go.SW
def firstE : List Int → Int
  | [] => 0
  | a :: l => if a ≠ 0 then a else firstE l
def deedE (d : DeedR) : Int :=
  if 12 < d.kind then 8 else if d ≠ toldD d then 4
  else if d.kind = 0 then firstE [nameE d.shop.name, boundE (decide (4 < d.shop.sort)) 8, maybeE d.shop.to]
  else if d.kind = 2 then firstE [nameE d.queue.name, maybeE d.queue.dead]
  else if d.kind = 4 ∨ d.kind = 5 then firstE [nameE d.bind.shop, nameE d.bind.to, boundE (decide ((64 : Int) < d.bind.key.length)) 5, headE d.bind.want]
  else if d.kind = 6 ∨ d.kind = 10 then mailC d.mail
  else if d.kind = 9 ∨ d.kind = 11 then 0
  else if d.kind = 12 then boundE (decide ((64 : Int) < d.text.length)) 5
  else firstE [nameE d.name, boundE (decide (2 < d.how)) 7]
/-- What may be is small. -/
structure DeedOk (d : DeedR) : Prop where
  told : d = toldD d
  kind : d.kind ≤ 12
  sname : d.shop.name.length ≤ 16
  sto : d.shop.to.length ≤ 16
  ssort : d.shop.sort ≤ 4
  qname : d.queue.name.length ≤ 16
  qdead : d.queue.dead.length ≤ 16
  bshop : d.bind.shop.length ≤ 16
  bto : d.bind.to.length ≤ 16
  bkey : d.bind.key.length ≤ 64
  bwant : headE d.bind.want = 0
  name : d.name.length ≤ 16
  how : d.how ≤ 2
  mshop : d.mail.shop.length ≤ 16
  mkey : d.mail.key.length ≤ 64
  mhead : headE d.mail.head = 0
  mbody : d.mail.body.length ≤ 256
  mhops : d.mail.hops ≤ 4
  text : d.text.length ≤ 64
end Go.SW
namespace Go.SW
def deedOut (d : DeedR) : Out :=
  if d.kind = 0 then outText (outNum (outText (outNum (outNum ⟨[], 0⟩ d.kind 1) d.tick 8) d.shop.name) d.shop.sort 1) d.shop.to
  else if d.kind = 2 then outText (outNum (outNum (outText (outNum (outNum ⟨[], 0⟩ d.kind 1) d.tick 8) d.queue.name) d.queue.most 8) d.queue.life 8) d.queue.dead
  else if d.kind = 4 ∨ d.kind = 5 then outNum (outRaw (outText (outNum (outText (outText (outNum (outNum ⟨[], 0⟩ d.kind 1) d.tick 8) d.bind.shop) d.bind.to) (bitN d.bind.up) 1) d.bind.key) (headBytes d.bind.want)) (bitN d.bind.all) 1
  else if d.kind = 6 then outRaw (outNum (outNum ⟨[], 0⟩ d.kind 1) d.tick 8) (mailBytes d.mail)
  else if d.kind = 1 ∨ d.kind = 3 ∨ d.kind = 7 then outText (outNum (outNum ⟨[], 0⟩ d.kind 1) d.tick 8) d.name
  else if d.kind = 8 then outNum (outNum (outText (outNum (outNum ⟨[], 0⟩ d.kind 1) d.tick 8) d.name) d.id 8) d.how 1
  else if d.kind = 10 then outRaw (outNum (outNum (outNum (outNum ⟨[], 0⟩ d.kind 1) d.tick 8) d.frm 1) d.number 8) (mailBytes d.mail)
  else if d.kind = 12 then outText (outNum (outNum (outNum ⟨[], 0⟩ d.kind 1) d.tick 8) d.code 1) d.text
  else outNum (outNum ⟨[], 0⟩ d.kind 1) d.tick 8
def deedBytes (d : DeedR) : Bs := if deedE d = 0 then (deedOut d).s else []
def mailB (m : Mail) : Bs := numB 8 m.id.toNat ++ (txtB m.shop ++ (txtB m.key ++ (r9B m.head ++ (txtB m.body ++ (numB 8 m.due.toNat ++ numB 1 m.hops.toNat)))))
def deedB (d : DeedR) : Bs :=
  numB 1 d.kind.toNat ++ (numB 8 d.tick.toNat ++ (
  if d.kind = 0 then txtB d.shop.name ++ (numB 1 d.shop.sort.toNat ++ txtB d.shop.to)
  else if d.kind = 2 then txtB d.queue.name ++ (numB 8 d.queue.most.toNat ++ (numB 8 d.queue.life.toNat ++ txtB d.queue.dead))
  else if d.kind = 4 ∨ d.kind = 5 then txtB d.bind.shop ++ (txtB d.bind.to ++ (numB 1 (bitN d.bind.up).toNat ++ (txtB d.bind.key ++ (r9B d.bind.want ++ numB 1 (bitN d.bind.all).toNat))))
  else if d.kind = 6 then mailB d.mail
  else if d.kind = 8 then txtB d.name ++ (numB 8 d.id.toNat ++ numB 1 d.how.toNat)
  else if d.kind = 9 ∨ d.kind = 11 then []
  else if d.kind = 10 then numB 1 d.frm.toNat ++ (numB 8 d.number.toNat ++ mailB d.mail)
  else if d.kind = 12 then numB 1 d.code.toNat ++ txtB d.text
  else txtB d.name))
def mailRead (i : In) : Mail × In :=
  let a := inNum i 8
  let b := inText a.2 16
  let c := inText b.2 64
  let h := headRead c.2
  let e := inText h.2 256
  let f := inNum e.2 8
  let g := inNum f.2 1
  let m : Mail := ⟨a.1, b.1, c.1, h.1, e.1, f.1, g.1⟩
  let j := if g.2.err = 0 then inFail g.2 (mailC m) else g.2
  if j.err = 0 then (m, j) else (Mail.zero, j)
def DeedR.blank (k t : Int) : DeedR := ⟨k, t, .zero, .zero, .zero, [], 0, 0, 0, 0, 0, .zero, []⟩
def bindRead (i : In) : BindR × In :=
  let a := inText i 16
  let b := inText a.2 16
  let u := inNum b.2 1
  let k := inText u.2 64
  let h := headRead k.2
  let l := inNum h.2 1
  (⟨a.1, b.1, decide (u.1 = 1), k.1, h.1, decide (l.1 = 1)⟩, l.2)
def readK (k t : Int) (j : In) : DeedR × In :=
  let z := DeedR.blank k t
  if k = 0 then
    let a := inText j 16
    let b := inNum a.2 1
    let c := inText b.2 16
    ({ z with shop := ⟨a.1, b.1, c.1⟩ }, c.2)
  else if k = 2 then
    let a := inText j 16
    let b := inNum a.2 8
    let c := inNum b.2 8
    let e := inText c.2 16
    ({ z with queue := ⟨a.1, b.1, c.1, e.1⟩ }, e.2)
  else if k = 4 ∨ k = 5 then ({ z with bind := (bindRead j).1 }, (bindRead j).2)
  else if k = 6 then ({ z with mail := (mailRead j).1 }, (mailRead j).2)
  else if k = 1 ∨ k = 3 ∨ k = 7 then ({ z with name := (inText j 16).1 }, (inText j 16).2)
  else if k = 8 then
    let a := inText j 16
    let b := inNum a.2 8
    let c := inNum b.2 1
    ({ z with name := a.1, id := b.1, how := c.1 }, c.2)
  else if k = 10 then
    let a := inNum j 1
    let b := inNum a.2 8
    ({ z with frm := a.1, number := b.1, mail := (mailRead b.2).1 }, (mailRead b.2).2)
  else if k = 12 then
    let a := inNum j 1
    let b := inText a.2 64
    ({ z with code := a.1, text := b.1 }, b.2)
  else (z, j)
def readD (i : In) : DeedR × In := readK (inNum i 1).1 (inNum (inNum i 1).2 8).1 (inNum (inNum i 1).2 8).2
/-! Many -/
def packGo : List DeedR → Bs → Bs × Int
  | [], s => (s, 0)
  | d :: l, s => if deedE d ≠ 0 then ([], deedE d) else packGo l (s ++ deedB d)
def packD (l : List DeedR) : Bs × Int := if (255 : Int) < l.length then ([], 6) else packGo l (numB 1 l.length)
def unpackGo : Nat → In → List DeedR → List DeedR × In
  | 0, i, l => (l, i)
  | k + 1, i, l => if i.err = 0 then unpackGo k (readD i).2 (l ++ [(readD i).1]) else (l, i)
def unpackD (s : Bs) : List DeedR × Int :=
  let r := unpackGo (inNum ⟨s, 0⟩ 1).1.toNat (inNum ⟨s, 0⟩ 1).2 []
  if inEnd r.2 = 0 ∧ (packD r.1).2 = 0 ∧ (packD r.1).1 = s then (r.1, 0) else ([], 4)
end Go.SW
namespace Go.SW
theorem headBytes_r {h : List Pair} (e : headE h = 0) (h0 : ∀ p ∈ h, 0 ≤ p.kind) : headBytes h = r9B h := by
  rw [headBytes_s e h0]; rfl
end Go.SW
namespace Go.SW
end Go.SW
namespace Go.SW
def lightMl (m : Mail) : Bool := decide ((m.shop.length : Int) ≤ 40) && decide ((m.key.length : Int) ≤ 100) && lightH m.head && decide ((m.body.length : Int) ≤ 300)
def lightD (d : DeedR) : Bool :=
  decide ((max (max (max (max (max (max (d.shop.name.length : Int) (d.shop.to.length : Int)) (d.queue.name.length : Int)) (d.queue.dead.length : Int)) (d.bind.shop.length : Int)) (d.bind.to.length : Int)) (d.name.length : Int)) ≤ 40) && decide ((max (d.bind.key.length : Int) (d.text.length : Int)) ≤ 100) && lightH d.bind.want && lightMl d.mail
end Go.SW
namespace Go.SW
def shopRE : Hp → ShopR → List Value → Prop := FE ShopR.cells ShopR.wf
def queueRE : Hp → QueueR → List Value → Prop := FE QueueR.cells QueueR.wf
def bindRE : Hp → BindR → List Value → Prop := fun H x cs => ∃ (a1 : Option Addr) (c1 : Nat), cs = BindR.cells x a1 c1 ∧ SlH pairE 4 H (.slice a1 x.want.length c1) x.want ∧ x.wf
def deedRE : Hp → DeedR → List Value → Prop := fun H x cs => ∃ (a1 : Option Addr) (c1 : Nat) (a2 : Option Addr) (c2 : Nat), cs = DeedR.cells x a1 c1 a2 c2 ∧ SlH pairE 4 H (.slice a1 x.bind.want.length c1) x.bind.want ∧ SlH pairE 4 H (.slice a2 x.mail.head.length c2) x.mail.head ∧ x.wf
structure BookR where
  shops : List ShopR
  binds : List BindR
deriving DecidableEq
def BookR.cells (x : BookR) (a1 : Option Addr) (c1 : Nat) (a2 : Option Addr) (c2 : Nat) : List Value := [.slice a1 x.shops.length c1, .slice a2 x.binds.length c2]
def BookR.wf (x : BookR) : Prop := x.shops.length ≤ 9223372036854775807 ∧ x.binds.length ≤ 9223372036854775807
def BookR.zero : BookR := ⟨[], []⟩
theorem BookR.eq_iff {a b : BookR} : a = b ↔ a.shops = b.shops ∧ a.binds = b.binds := by
  cases a; cases b; simp
def bookRE : Hp → BookR → List Value → Prop := fun H x cs => ∃ (a1 : Option Addr) (c1 : Nat) (a2 : Option Addr) (c2 : Nat), cs = BookR.cells x a1 c1 a2 c2 ∧ SlH shopRE 3 H (.slice a1 x.shops.length c1) x.shops ∧ SlH bindRE 6 H (.slice a2 x.binds.length c2) x.binds ∧ x.wf
end Go.SW
namespace Go.SW
def idxF {α : Type} (p : α → Bool) : Nat → List α → Int
  | _, [] => -1
  | k, x :: r => if p x then k else idxF p (k + 1) r
def idxP {α : Type} (p : α → Bool) (l : List α) : Int := idxF p 0 l
theorem idx_miss {α : Type} {p : α → Bool} {l r : List α} {c : α} {k : Nat} (h : idxP p l = idxF p k (l.drop k)) (e : l.drop k = c :: r) (hc : p c = false) : idxP p l = idxF p (k + 1) r := by
  rw [h, e, idxF, hc]; rfl
theorem idx_hit {α : Type} {p : α → Bool} {l r : List α} {c : α} {k : Nat} (h : idxP p l = idxF p k (l.drop k)) (e : l.drop k = c :: r) (hc : p c = true) : idxP p l = k := by
  rw [h, e, idxF, hc]; rfl
theorem idx_end {α : Type} {p : α → Bool} {l : List α} {k : Nat} (h : idxP p l = idxF p k (l.drop k)) (hk : l.length ≤ k) : idxP p l = -1 := by
  rw [h, List.drop_of_length_le hk]; rfl
/-! Books -/
def shopOf (l : List ShopR) (n : Bs) : Option ShopR := l.find? fun s => decide (s.name = n)
def shopE (x : ShopR) : Int := if nameE x.name ≠ 0 then nameE x.name else if 4 < x.sort then 8 else if x.sort = 4 then nameE x.to else if x.to ≠ [] then 4 else 0
def makeS (b : BookR) (x : ShopR) : BookR × Int :=
  if shopE x ≠ 0 then (b, shopE x)
  else if (shopOf b.shops x.name).isSome = true ∧ x = (shopOf b.shops x.name).getD ShopR.zero then (b, 0)
  else if (shopOf b.shops x.name).isSome = true then (b, 9)
  else if 8 ≤ b.shops.length then (b, 12)
  else (⟨b.shops ++ [x], b.binds⟩, 0)
def bindRule (x : BindR) (sort : Int) : Rule := ⟨sort, x.key, x.want, x.all⟩
def bindS (b : BookR) (x : BindR) : BookR × Int :=
  if (shopOf b.shops x.shop).isSome = false then (b, 10)
  else if ((shopOf b.shops x.shop).getD ShopR.zero).sort = 4 then (b, 8)
  else if nameE x.to ≠ 0 then (b, nameE x.to)
  else if ruleE (bindRule x ((shopOf b.shops x.shop).getD ShopR.zero).sort) ≠ 0 then (b, ruleE (bindRule x ((shopOf b.shops x.shop).getD ShopR.zero).sort))
  else if 0 ≤ idxP (fun y => decide (x = y)) b.binds then (b, 0)
  else if 32 ≤ b.binds.length then (b, 12)
  else (⟨b.shops, b.binds ++ [x]⟩, 0)
def putS (l : List Bs) (s : Bs) : List Bs := if s ∈ l then l else l ++ [s]
def leadGo (sort : Int) (shop key : Bs) (h : List Pair) : List BindR → List Bs → List Bs → List Bs × List Bs
  | [], q, p => (q, p)
  | y :: r, q, p => if y.shop ≠ shop ∨ goesR (bindRule y sort) key h = false then leadGo sort shop key h r q p else if y.up = true then leadGo sort shop key h r q (putS p y.to) else leadGo sort shop key h r (putS q y.to) p
def leadS (b : BookR) (shop key : Bs) (h : List Pair) : List Bs × List Bs × Int :=
  if (shopOf b.shops shop).isSome = false then ([], [], 10)
  else if ((shopOf b.shops shop).getD ShopR.zero).sort = 4 then ([], [((shopOf b.shops shop).getD ShopR.zero).to], 0)
  else ((leadGo ((shopOf b.shops shop).getD ShopR.zero).sort shop key h b.binds [] []).1, (leadGo ((shopOf b.shops shop).getD ShopR.zero).sort shop key h b.binds [] []).2, 0)
end Go.SW
namespace Go.SW
def allD (l : List DeedR) : List DeedR × Bool := if l.all lightD = true then (l, true) else ([], false)
end Go.SW
namespace Go.SW
end Go.SW
namespace Go.SW
end Go.SW
namespace Go.SW
structure DWf (d : DeedR) : Prop where
  w : d.wf
  want : ∀ p ∈ d.bind.want, p.wf
  head : ∀ p ∈ d.mail.head, p.wf
/-! What is read -/
theorem readGo_pw : ∀ (k : Nat) (i : In) (h : List Pair), (∀ p ∈ h, p.wf) → ∀ p ∈ (readGo k i h).1, p.wf
  | 0, _, h, hw => hw
  | k + 1, i, h, hw => by
    rw [readGo_step (p := (readOne i).1) (q := (readOne i).2) rfl]
    have key : ∀ p ∈ h ++ [(readOne i).1], p.wf := fun p hp => by
      rcases List.mem_append.1 hp with q | q
      · exact hw p q
      · rw [List.mem_singleton.1 q]; exact readOne_wf i
    repeat' split
    all_goals first
      | exact readGo_pw k _ _ key
      | exact fun p hp => absurd hp List.not_mem_nil
theorem headRead_pw (i : In) : ∀ p ∈ (headRead i).1, p.wf := readGo_pw _ _ _ (fun _ h => by cases h)
end Go.SW
namespace Go.SW
end Go.SW
namespace Go.SW
def settlesB (l : List DeedR) (n : Bs) (i : Int) : Bool := l.any fun x => decide (x.kind = 8) && decide (x.name = n) && decide (x.id = i)
def draftE (l : List DeedR) (d : DeedR) : Int :=
  if d.kind ≠ 6 ∧ d.kind ≠ 8 then 8
  else if deedE d ≠ 0 then deedE d
  else if d.kind = 8 ∧ settlesB l d.name d.id = true then 9
  else if 16 ≤ l.length then 12
  else 0
def addGo (x : List DeedR) : List DeedR → List DeedR → List DeedR × Int
  | n, [] => (n, 0)
  | n, d :: l => if draftE n d ≠ 0 then (x, draftE n d) else addGo x (n ++ [d]) l
def addD (x l : List DeedR) : List DeedR × Int := addGo x x l
def atD (t : Int) (d : DeedR) : DeedR := { d with tick := t, mail := if d.kind = 6 then { d.mail with due := lifeN t d.mail.due } else d.mail }
/-- What is held may be. -/
def Held (l : List DeedR) : Prop := ∀ d ∈ l, deedE d = 0
end Go.SW
namespace Go.SW
structure DraftR where
  l : List DeedR
deriving DecidableEq
def DraftR.cells (x : DraftR) (a1 : Option Addr) (c1 : Nat) : List Value := [.slice a1 x.l.length c1]
def DraftR.wf (x : DraftR) : Prop := x.l.length ≤ 9223372036854775807
def DraftR.zero : DraftR := ⟨[]⟩
theorem DraftR.eq_iff {a b : DraftR} : a = b ↔ a.l = b.l := by
  cases a; cases b; simp
def draftRE : Hp → DraftR → List Value → Prop := fun H x cs => ∃ (a1 : Option Addr) (c1 : Nat), cs = DraftR.cells x a1 c1 ∧ SlH deedRE 29 H (.slice a1 x.l.length c1) x.l ∧ x.wf
end Go.SW
namespace Go.SW
def Feed.pc (x : Feed) : List PV := [.str x.rest, .int .i64 x.err]
instance : Inhabited Feed := ⟨⟨[], 0⟩⟩
def Out.pc (x : Out) : List PV := [.str x.s, .int .i64 x.err]
instance : Inhabited Out := ⟨⟨[], 0⟩⟩
def In.pc (x : In) : List PV := [.str x.s, .int .i64 x.err]
instance : Inhabited In := ⟨⟨[], 0⟩⟩
def RIn.pc (x : RIn) : List PV := [.str x.s, .int .i64 x.pos, .int .i64 x.code]
instance : Inhabited RIn := ⟨⟨[], 0, 0⟩⟩
def Pair.pc (x : Pair) : List PV := [.str x.key, .int .u8 x.kind, .int .i64 x.num, .str x.text]
instance : Inhabited Pair := ⟨⟨[], 0, 0, []⟩⟩
theorem Pair.pwf {x : Pair} (h : PV.wfs (Pair.pc x)) : Pair.wf x := by
  simp only [Pair.pc, PV.wfs, PV.wf] at h
  simp only [Pair.wf]
  omega
def Frame.pc (x : Frame) : List PV := [.int .u8 x.channel, .int .u8 x.kind, .str x.body]
instance : Inhabited Frame := ⟨⟨0, 0, []⟩⟩
theorem Frame.pwf {x : Frame} (h : PV.wfs (Frame.pc x)) : Frame.wf x := by
  simp only [Frame.pc, PV.wfs, PV.wf] at h
  simp only [Frame.wf]
  omega
def ShopR.pc (x : ShopR) : List PV := [.str x.name, .int .u8 x.sort, .str x.to]
instance : Inhabited ShopR := ⟨⟨[], 0, []⟩⟩
theorem ShopR.pwf {x : ShopR} (h : PV.wfs (ShopR.pc x)) : ShopR.wf x := by
  simp only [ShopR.pc, PV.wfs, PV.wf] at h
  simp only [ShopR.wf]
  omega
def QueueR.pc (x : QueueR) : List PV := [.str x.name, .int .u64 x.most, .int .u64 x.life, .str x.dead]
instance : Inhabited QueueR := ⟨⟨[], 0, 0, []⟩⟩
theorem QueueR.pwf {x : QueueR} (h : PV.wfs (QueueR.pc x)) : QueueR.wf x := by
  simp only [QueueR.pc, PV.wfs, PV.wf] at h
  simp only [QueueR.wf]
  omega
def BindR.pc (x : BindR) : List PV := [.str x.shop, .str x.to, .bool x.up, .str x.key, .sl Pair.pc x.want, .bool x.all]
instance : Inhabited BindR := ⟨⟨[], [], false, [], [], false⟩⟩
theorem BindR.pwf {x : BindR} (h : PV.wfs (BindR.pc x)) : BindR.wf x := by
  simp only [BindR.pc, PV.wfs, PV.wf] at h
  simp only [BindR.wf]
  omega
def Rule.pc (x : Rule) : List PV := [.int .u8 x.sort, .str x.key, .sl Pair.pc x.want, .bool x.all]
instance : Inhabited Rule := ⟨⟨0, [], [], false⟩⟩
theorem Rule.pwf {x : Rule} (h : PV.wfs (Rule.pc x)) : Rule.wf x := by
  simp only [Rule.pc, PV.wfs, PV.wf] at h
  simp only [Rule.wf]
  omega
theorem Rule.kd2 {x : Rule} (h : PV.wfs (Rule.pc x)) : ∀ p ∈ x.want, 0 ≤ p.kind := fun p hp => by
  have q := Pair.pwf (h.2.2.1.2 p hp)
  simp only [Pair.wf] at q
  omega
def Mail.pc (x : Mail) : List PV := [.int .u64 x.id, .str x.shop, .str x.key, .sl Pair.pc x.head, .str x.body, .int .u64 x.due, .int .u8 x.hops]
instance : Inhabited Mail := ⟨⟨0, [], [], [], [], 0, 0⟩⟩
theorem Mail.pwf {x : Mail} (h : PV.wfs (Mail.pc x)) : Mail.wf x := by
  simp only [Mail.pc, PV.wfs, PV.wf] at h
  simp only [Mail.wf]
  omega
def Reply.pc (x : Reply) : List PV := [.int .u8 x.channel, .int .u8 x.kind, .int .u64 x.n, .int .u64 x.m, .bool x.yes, .str x.name, .int .u64 x.mail.id, .str x.mail.shop, .str x.mail.key, .sl Pair.pc x.mail.head, .str x.mail.body, .int .u64 x.mail.due, .int .u8 x.mail.hops]
instance : Inhabited Reply := ⟨⟨0, 0, 0, 0, false, [], ⟨0, [], [], [], [], 0, 0⟩⟩⟩
theorem Reply.pwf {x : Reply} (h : PV.wfs (Reply.pc x)) : Reply.wf x := by
  simp only [Reply.pc, PV.wfs, PV.wf] at h
  simp only [Reply.wf, Mail.wf]
  omega
def Method.pc (x : Method) : List PV := [.int .u8 x.channel, .int .u8 x.kind, .str x.name, .str x.other, .str x.key, .sl Pair.pc x.head, .str x.body, .int .u64 x.n, .int .u64 x.m, .bool x.yes]
instance : Inhabited Method := ⟨⟨0, 0, [], [], [], [], [], 0, 0, false⟩⟩
theorem Method.pwf {x : Method} (h : PV.wfs (Method.pc x)) : Method.wf x := by
  simp only [Method.pc, PV.wfs, PV.wf] at h
  simp only [Method.wf]
  omega
def DeedR.pc (x : DeedR) : List PV := [.int .u8 x.kind, .int .u64 x.tick, .str x.shop.name, .int .u8 x.shop.sort, .str x.shop.to, .str x.queue.name, .int .u64 x.queue.most, .int .u64 x.queue.life, .str x.queue.dead, .str x.bind.shop, .str x.bind.to, .bool x.bind.up, .str x.bind.key, .sl Pair.pc x.bind.want, .bool x.bind.all, .str x.name, .int .u64 x.id, .int .u8 x.how, .int .u8 x.frm, .int .u8 x.code, .int .u64 x.number, .int .u64 x.mail.id, .str x.mail.shop, .str x.mail.key, .sl Pair.pc x.mail.head, .str x.mail.body, .int .u64 x.mail.due, .int .u8 x.mail.hops, .str x.text]
instance : Inhabited DeedR := ⟨⟨0, 0, ⟨[], 0, []⟩, ⟨[], 0, 0, []⟩, ⟨[], [], false, [], [], false⟩, [], 0, 0, 0, 0, 0, ⟨0, [], [], [], [], 0, 0⟩, []⟩⟩
theorem DeedR.pwf {x : DeedR} (h : PV.wfs (DeedR.pc x)) : DeedR.wf x := by
  simp only [DeedR.pc, PV.wfs, PV.wf] at h
  simp only [DeedR.wf, ShopR.wf, QueueR.wf, BindR.wf, Mail.wf]
  omega
def BookR.pc (x : BookR) : List PV := [.sl ShopR.pc x.shops, .sl BindR.pc x.binds]
instance : Inhabited BookR := ⟨⟨[], []⟩⟩
theorem BookR.pwf {x : BookR} (h : PV.wfs (BookR.pc x)) : BookR.wf x := by
  simp only [BookR.pc, PV.wfs, PV.wf] at h
  simp only [BookR.wf]
  omega
def DraftR.pc (x : DraftR) : List PV := [.sl DeedR.pc x.l]
instance : Inhabited DraftR := ⟨⟨[]⟩⟩
theorem DraftR.pwf {x : DraftR} (h : PV.wfs (DraftR.pc x)) : DraftR.wf x := by
  simp only [DraftR.pc, PV.wfs, PV.wf] at h
  simp only [DraftR.wf]
  omega
end Go.SW
namespace Go.SW
theorem idxF_b {α : Type} (p : α → Bool) : ∀ (l : List α) (k : Nat), idxF p k l = -1 ∨ ((k : Int) ≤ idxF p k l ∧ idxF p k l < k + l.length)
  | [], k => .inl (by simp [idxF])
  | a :: r, k => by
    simp only [idxF]
    split
    · right; simp only [List.length_cons]; omega
    · rcases idxF_b p r (k + 1) with h | h
      · exact .inl h
      · right; simp only [List.length_cons]; omega
theorem idxP_b {α : Type} (p : α → Bool) (l : List α) : -1 ≤ idxP p l ∧ idxP p l < l.length := by
  rcases idxF_b p l 0 with h | h <;> simp only [idxP] <;> omega
theorem idxF_find {α : Type} (p : α → Bool) : ∀ (l : List α) (k : Nat), (idxF p k l < 0 → l.find? p = none) ∧ (0 ≤ idxF p k l → ∀ c, l[(idxF p k l).toNat - k]? = some c → p c = true ∧ l.find? p = some c)
  | [], k => ⟨fun _ => rfl, fun h => by simp [idxF] at h⟩
  | a :: r, k => by
    obtain ⟨h1, h2⟩ := idxF_find p r (k + 1)
    have hr := idxF_b p r (k + 1)
    simp only [idxF]
    by_cases ha : p a = true
    · simp only [ha, if_true]
      refine ⟨fun h => by omega, fun _ c hc => ?_⟩
      have : ((k : Int)).toNat - k = 0 := by omega
      rw [this] at hc
      simp at hc
      subst hc
      exact ⟨ha, by simp [ha]⟩
    · have hf : p a = false := by simpa using ha
      simp only [hf, if_false, Bool.false_eq_true, List.find?_cons]
      refine ⟨h1, fun h0 c hc => ?_⟩
      refine h2 h0 c ?_
      have e : (idxF p (k + 1) r).toNat - k = ((idxF p (k + 1) r).toNat - (k + 1)) + 1 := by omega
      rw [e] at hc
      simpa using hc
theorem idxP_neg {α : Type} {p : α → Bool} {l : List α} (h : idxP p l < 0) : l.find? p = none := (idxF_find p l 0).1 h
theorem idxP_get {α : Type} {p : α → Bool} {l : List α} {c : α} (h0 : ¬ idxP p l < 0) (h : l[(idxP p l).toNat]? = some c) : p c = true ∧ l.find? p = some c := (idxF_find p l 0).2 (by simp only [idxP] at h0; omega) c (by simpa [idxP] using h)
theorem getJ {α : Type} [Inhabited α] (xs : List α) (m : Nat) : ∃ c, (m < xs.length → xs[m]? = some c) := by
  by_cases h : m < xs.length
  · exact ⟨xs[m], fun _ => List.getElem?_eq_getElem h⟩
  · exact ⟨default, fun q => absurd q h⟩
end Go.SW
namespace Go.SW.V
open Go.SW
/-- An answer, and what is made of it. -/
def lt {α β : Type} (a : α) (f : α → β) : β := f a
theorem lt_eq {α β : Type} {a r : α} {f : α → β} (h : r = a) : lt a f = f r := by subst h; rfl
theorem condT {α : Type} {c : Bool} {a b : α} (h : c = true) : (bif c then a else b) = a := by rw [h]; rfl
theorem condF {α : Type} {c : Bool} {a b : α} (h : c = false) : (bif c then a else b) = b := by rw [h]; rfl
/-- A part of a function goes on, or the function's answer is there. -/
inductive Lo (σ ρ : Type) where
  | fin (s : σ)
  | ret (r : ρ)
def lp0 {ρ β : Type} (o : Lo Unit ρ) (f : β) (g : ρ → β) : β := match o with
  | .fin _ => f
  | .ret r => g r
def lt0 {β : Type} (_ : Unit) (f : β) : β := f
def lp1 {σ1 ρ β : Type} (o : Lo (σ1) ρ) (f : σ1 → β) (g : ρ → β) : β := match o with
  | .fin s => f s
  | .ret r => g r
def lt1 {σ1 β : Type} (s : σ1) (f : σ1 → β) : β := f s
theorem lt1_fin {σ1 β : Type} {l : β} {o : σ1} {f : σ1 → β} {a1 : σ1} (h : l = lt1 o f) (k : o = a1) : l = f a1 := by subst k; exact h
theorem lt1_split {σ1 β : Type} {l : β} {X : σ1} {f : σ1 → β} (h : l = lt1 X f) : ∃ o, o = X ∧ l = lt1 o f := ⟨_, rfl, h⟩
def lp2 {σ1 σ2 ρ β : Type} (o : Lo (σ1 × σ2) ρ) (f : σ1 → σ2 → β) (g : ρ → β) : β := match o with
  | .fin s => f s.1 s.2
  | .ret r => g r
def lt2 {σ1 σ2 β : Type} (s : σ1 × σ2) (f : σ1 → σ2 → β) : β := f s.1 s.2
theorem lt2_fin {σ1 σ2 β : Type} {l : β} {o : σ1 × σ2} {f : σ1 → σ2 → β} {a1 : σ1} {a2 : σ2} (h : l = lt2 o f) (k : o = (a1, a2)) : l = f a1 a2 := by subst k; exact h
theorem lt2_split {σ1 σ2 β : Type} {l : β} {X : σ1 × σ2} {f : σ1 → σ2 → β} (h : l = lt2 X f) : ∃ o, o = X ∧ l = lt2 o f := ⟨_, rfl, h⟩
def lp3 {σ1 σ2 σ3 ρ β : Type} (o : Lo (σ1 × σ2 × σ3) ρ) (f : σ1 → σ2 → σ3 → β) (g : ρ → β) : β := match o with
  | .fin s => f s.1 s.2.1 s.2.2
  | .ret r => g r
def lt3 {σ1 σ2 σ3 β : Type} (s : σ1 × σ2 × σ3) (f : σ1 → σ2 → σ3 → β) : β := f s.1 s.2.1 s.2.2
def lp4 {σ1 σ2 σ3 σ4 ρ β : Type} (o : Lo (σ1 × σ2 × σ3 × σ4) ρ) (f : σ1 → σ2 → σ3 → σ4 → β) (g : ρ → β) : β := match o with
  | .fin s => f s.1 s.2.1 s.2.2.1 s.2.2.2
  | .ret r => g r
def lt4 {σ1 σ2 σ3 σ4 β : Type} (s : σ1 × σ2 × σ3 × σ4) (f : σ1 → σ2 → σ3 → σ4 → β) : β := f s.1 s.2.1 s.2.2.1 s.2.2.2
def lp5 {σ1 σ2 σ3 σ4 σ5 ρ β : Type} (o : Lo (σ1 × σ2 × σ3 × σ4 × σ5) ρ) (f : σ1 → σ2 → σ3 → σ4 → σ5 → β) (g : ρ → β) : β := match o with
  | .fin s => f s.1 s.2.1 s.2.2.1 s.2.2.2.1 s.2.2.2.2
  | .ret r => g r
def lt5 {σ1 σ2 σ3 σ4 σ5 β : Type} (s : σ1 × σ2 × σ3 × σ4 × σ5) (f : σ1 → σ2 → σ3 → σ4 → σ5 → β) : β := f s.1 s.2.1 s.2.2.1 s.2.2.2.1 s.2.2.2.2
def lp6 {σ1 σ2 σ3 σ4 σ5 σ6 ρ β : Type} (o : Lo (σ1 × σ2 × σ3 × σ4 × σ5 × σ6) ρ) (f : σ1 → σ2 → σ3 → σ4 → σ5 → σ6 → β) (g : ρ → β) : β := match o with
  | .fin s => f s.1 s.2.1 s.2.2.1 s.2.2.2.1 s.2.2.2.2.1 s.2.2.2.2.2
  | .ret r => g r
def lt6 {σ1 σ2 σ3 σ4 σ5 σ6 β : Type} (s : σ1 × σ2 × σ3 × σ4 × σ5 × σ6) (f : σ1 → σ2 → σ3 → σ4 → σ5 → σ6 → β) : β := f s.1 s.2.1 s.2.2.1 s.2.2.2.1 s.2.2.2.2.1 s.2.2.2.2.2
def lp7 {σ1 σ2 σ3 σ4 σ5 σ6 σ7 ρ β : Type} (o : Lo (σ1 × σ2 × σ3 × σ4 × σ5 × σ6 × σ7) ρ) (f : σ1 → σ2 → σ3 → σ4 → σ5 → σ6 → σ7 → β) (g : ρ → β) : β := match o with
  | .fin s => f s.1 s.2.1 s.2.2.1 s.2.2.2.1 s.2.2.2.2.1 s.2.2.2.2.2.1 s.2.2.2.2.2.2
  | .ret r => g r
def lt7 {σ1 σ2 σ3 σ4 σ5 σ6 σ7 β : Type} (s : σ1 × σ2 × σ3 × σ4 × σ5 × σ6 × σ7) (f : σ1 → σ2 → σ3 → σ4 → σ5 → σ6 → σ7 → β) : β := f s.1 s.2.1 s.2.2.1 s.2.2.2.1 s.2.2.2.2.1 s.2.2.2.2.2.1 s.2.2.2.2.2.2
def lp8 {σ1 σ2 σ3 σ4 σ5 σ6 σ7 σ8 ρ β : Type} (o : Lo (σ1 × σ2 × σ3 × σ4 × σ5 × σ6 × σ7 × σ8) ρ) (f : σ1 → σ2 → σ3 → σ4 → σ5 → σ6 → σ7 → σ8 → β) (g : ρ → β) : β := match o with
  | .fin s => f s.1 s.2.1 s.2.2.1 s.2.2.2.1 s.2.2.2.2.1 s.2.2.2.2.2.1 s.2.2.2.2.2.2.1 s.2.2.2.2.2.2.2
  | .ret r => g r
def lt8 {σ1 σ2 σ3 σ4 σ5 σ6 σ7 σ8 β : Type} (s : σ1 × σ2 × σ3 × σ4 × σ5 × σ6 × σ7 × σ8) (f : σ1 → σ2 → σ3 → σ4 → σ5 → σ6 → σ7 → σ8 → β) : β := f s.1 s.2.1 s.2.2.1 s.2.2.2.1 s.2.2.2.2.1 s.2.2.2.2.2.1 s.2.2.2.2.2.2.1 s.2.2.2.2.2.2.2
def lp9 {σ1 σ2 σ3 σ4 σ5 σ6 σ7 σ8 σ9 ρ β : Type} (o : Lo (σ1 × σ2 × σ3 × σ4 × σ5 × σ6 × σ7 × σ8 × σ9) ρ) (f : σ1 → σ2 → σ3 → σ4 → σ5 → σ6 → σ7 → σ8 → σ9 → β) (g : ρ → β) : β := match o with
  | .fin s => f s.1 s.2.1 s.2.2.1 s.2.2.2.1 s.2.2.2.2.1 s.2.2.2.2.2.1 s.2.2.2.2.2.2.1 s.2.2.2.2.2.2.2.1 s.2.2.2.2.2.2.2.2
  | .ret r => g r
def lt9 {σ1 σ2 σ3 σ4 σ5 σ6 σ7 σ8 σ9 β : Type} (s : σ1 × σ2 × σ3 × σ4 × σ5 × σ6 × σ7 × σ8 × σ9) (f : σ1 → σ2 → σ3 → σ4 → σ5 → σ6 → σ7 → σ8 → σ9 → β) : β := f s.1 s.2.1 s.2.2.1 s.2.2.2.1 s.2.2.2.2.1 s.2.2.2.2.2.1 s.2.2.2.2.2.2.1 s.2.2.2.2.2.2.2.1 s.2.2.2.2.2.2.2.2
def lp10 {σ1 σ2 σ3 σ4 σ5 σ6 σ7 σ8 σ9 σ10 ρ β : Type} (o : Lo (σ1 × σ2 × σ3 × σ4 × σ5 × σ6 × σ7 × σ8 × σ9 × σ10) ρ) (f : σ1 → σ2 → σ3 → σ4 → σ5 → σ6 → σ7 → σ8 → σ9 → σ10 → β) (g : ρ → β) : β := match o with
  | .fin s => f s.1 s.2.1 s.2.2.1 s.2.2.2.1 s.2.2.2.2.1 s.2.2.2.2.2.1 s.2.2.2.2.2.2.1 s.2.2.2.2.2.2.2.1 s.2.2.2.2.2.2.2.2.1 s.2.2.2.2.2.2.2.2.2
  | .ret r => g r
def lt10 {σ1 σ2 σ3 σ4 σ5 σ6 σ7 σ8 σ9 σ10 β : Type} (s : σ1 × σ2 × σ3 × σ4 × σ5 × σ6 × σ7 × σ8 × σ9 × σ10) (f : σ1 → σ2 → σ3 → σ4 → σ5 → σ6 → σ7 → σ8 → σ9 → σ10 → β) : β := f s.1 s.2.1 s.2.2.1 s.2.2.2.1 s.2.2.2.2.1 s.2.2.2.2.2.1 s.2.2.2.2.2.2.1 s.2.2.2.2.2.2.2.1 s.2.2.2.2.2.2.2.2.1 s.2.2.2.2.2.2.2.2.2
/-! Elements -/
def gt {α : Type} [Inhabited α] (xs : List α) (k : Nat) : α := xs.getD k default
theorem dropN {α : Type} {xs : List α} {k : Nat} (h : ¬ k < xs.length) : xs.drop k = [] := List.drop_of_length_le (by omega)
theorem lstep {α τ : Type} {l : τ} {xs ys : List α} {f : List α → τ} {v : τ} (e : l = f xs) (h : xs = ys) (k : f ys = v) : l = v := by subst h; exact e.trans k
theorem ple_of {α : Type} {p : PV} {a v : α} (f : α → PV) (e : a = v) (h : PLe p (f v)) : PLe p (f a) := by subst e; exact h
theorem ples_of {α : Type} {ps : List PV} {a v : α} (f : α → List PV) (e : a = v) (h : PLes ps (f v)) : PLes ps (f a) := by subst e; exact h
variable {P : Program} {n : Nat} {N : Rest} {H0 : Env} {all rest : List Oper} {Q : Qs} {ks : List Kt} {fF : Nat → PV} {fL : Nat → Blk} {T T' T2 ty d : Nat} {pos : String} {af : Array Edge} {x y z : Operand} {K : St → Prop} {op : Op} {p : PV}
/-- Several ways through a part meet behind it. -/
theorem joinc {ι : Type} {X : Code} (keep kL : List Nat) (lv : ι → List (Nat × PV)) (lL : ι → List (Nat × Blk)) (Φ : ι → Prop) (h : Hd P n N H0 Q (.code X) (.lp (LJ (fun x => ⟨mkF (lv x) keep fF, mkL (lL x) kL fL⟩) Φ (fun _ => 0) 1) :: ks) ⟨fF, fL⟩) (k : ∀ x, Φ x → Hd P n N H0 Q (.ex .normal) ks ⟨mkF (lv x) keep fF, mkL (lL x) kL fL⟩) : Hd P n N H0 Q (.code X) ks ⟨fF, fL⟩ := by
  intro F H L ha
  refine cw_mono (fun e F' H' L' hq => ?_) (h F H L ha)
  obtain ⟨s', ha', hq'⟩ := hq
  cases e with
  | normal => obtain ⟨x, h1, _, h3⟩ := hq'; exact ⟨_, h3 _ _ _ _ ha', k x h1⟩
  | _ => exact ⟨s', ha', hq'⟩
/-- What a slot stands for is in its ranges. -/
theorem sw_wf {t : Nat} {p : PV} {c : Code} (h : fF t = p) (k : p.wf → Hd P n N H0 Q (.code c) ks ⟨fF, fL⟩) : Hd P n N H0 Q (.code c) ks ⟨fF, fL⟩ := fun F H L ha =>
  k (by have := (ha.f t).sim.wf; simp only at this; rw [h] at this; exact this) F H L ha
/-- A call whose answer gets a name. -/
theorem callv {α : Type} (g : α) (res : α → PV) {f : FuncId} {args : List PV} {xs : Array Operand} {ats : Array TypeId} (h : Fn P H0.g f args (res g)) (ha : argsP fF x xs.toList = some (f, args)) (hd : Nat.blt d n = true) (k : ∀ r, r = g → (res r).wf → Hd P n N H0 Q (.ops all rest) ks ⟨updp fF d (res r), fL⟩) : Hd P n N H0 Q (.ops all (⟨some d, .call ⟨.value x, xs, ats⟩, ty, pos, af, none⟩ :: rest)) ks ⟨fF, fL⟩ := call h ha hd (k g rfl)
end Go.SW.V
namespace Go.SW
structure TakerR where
  tag : Int
  queue : Bs
deriving DecidableEq, Inhabited
def TakerR.pc (x : TakerR) : List PV := [.int .u64 x.tag, .str x.queue]
structure LentR where
  id : Int
  queue : Bs
deriving DecidableEq, Inhabited
def LentR.pc (x : LentR) : List PV := [.int .u64 x.id, .str x.queue]
structure ChanR where
  credit : Int
  takers : List TakerR
  lent : List LentR
  sure : Bool
  drafts : Bool
  puts : Int
  held : DraftR
deriving DecidableEq, Inhabited
def ChanR.pc (x : ChanR) : List PV := [.int .i64 x.credit, .sl TakerR.pc x.takers, .sl LentR.pc x.lent, .bool x.sure, .bool x.drafts, .int .u64 x.puts, .sl DeedR.pc x.held.l]
end Go.SW
namespace Go.SW.V
open Go.SW
end Go.SW.V
namespace Go.SW
open Go.ChangeShapes Go.WideShapes Go.ChangeAt Go.RowKit
def hp (w : World) : Hp := fun b => w.heap[b]?
def rest0 (w : World) : Rest := ⟨fun _ => none, w.os, w.tape, w.output⟩
theorem mem0 (w : World) : Mem (rest0 w) (hp w) l0 w :=
  { os := rfl, tape := rfl, output := rfl, n := fun _ _ h => (by cases h), h := fun _ _ h => h, l := fun _ _ _ h => (by cases h), nh := fun _ _ h => (by cases h), nl := fun _ _ _ h => (by cases h), ll := fun _ _ _ _ _ h => (by cases h) }
theorem mem0_below {w w' : World} {L : Ls} (h : Mem (rest0 w) (hp w) L w') : Below w.heap.size w w' := by
  have hb : ∀ k, k < w.heap.size → w'.heap[k]? = w.heap[k]? := fun k hk => by
    have e : w.heap[k]? = some w.heap[k] := Array.getElem?_eq_getElem hk
    rw [e]; exact h.h k _ e
  refine ⟨h.os, h.tape, h.output, ?_, hb⟩
  by_cases z : w.heap.size = 0
  · omega
  · have := hb (w.heap.size - 1) (by omega)
    rw [Array.getElem?_eq_getElem (show w.heap.size - 1 < w.heap.size by omega)] at this
    have := (Array.getElem?_eq_some_iff.1 this).1
    omega
section
variable {Ht : Type} {enc : TypeId × Value → Ht} {P : Program} {w : World} {base fuel : Nat} {spare : Nat → Bool} {held : Bool} {cs : List Value} {x : DataW Ht × List MemPlace} {t : TypeId}
theorem rd_int {k : IntKind} (ht : P.underlying t = some (.int k)) (h : DataW.trod enc P w base spare held fuel t cs = some x) : ∃ z : Int, cs = [.int k z] ∧ k.min ≤ z ∧ z ≤ k.max := by
  obtain ⟨z, h1, _, h2⟩ := DataW.trod_int ht h
  refine ⟨z, h1, ?_⟩
  simp only [Lit.wf, Bool.and_eq_true, decide_eq_true_eq] at h2; exact h2
theorem rd_str (ht : P.underlying t = some .string) (h : DataW.trod enc P w base spare held fuel t cs = some x) : ∃ s : Bs, cs = [str s] ∧ s.length ≤ 9223372036854775807 := by
  obtain ⟨s, h1, _, h2⟩ := DataW.trod_string ht h
  refine ⟨s.data.toList, by rw [h1, str_of], ?_⟩
  have : s.data.toList.length = s.size := Array.length_toList
  rw [this]; exact h2
/-- A struct's field. -/
theorem rd_fld {fs : Array Field} {xs : List (DataW Ht × List MemPlace)} {n i o k : Nat} {f : Field} {ft : TypeId} (hf : ∀ (i : Nat) (f : Field), fs[i]? = some f → DataW.trod enc P w base spare held n f.type ((cs.drop f.offset).take (P.cellsOf f.type)) = xs[i]?) (hl : xs.length = fs.size)
    (hi : fs[i]? = some f) (ho : f.offset = o) (ht : f.type = ft) (hk : P.cellsOf ft = k) : ∃ y, DataW.trod enc P w base spare held n ft ((cs.drop o).take k) = some y := by
  have h := hf i f hi
  have hlt : i < fs.size := (Array.getElem?_eq_some_iff.1 hi).1
  rw [ho, ht, hk, List.getElem?_eq_getElem (by omega)] at h
  exact ⟨_, h⟩
end
/-- A struct that is handed over. -/
theorem rd_agg {Ht : Type} {enc : TypeId × Value → Ht} {P : Program} {w : World} {r : Reach} {b0 base : Nat} {spare : Nat → Bool} {held : Bool} {t : TypeId} {fs : Array Field} {v : Value} {d : DataW Ht} {p : List MemPlace} (hs : P.underlying t = some (.struct fs)) (hv : Value.okWide P w r b0 t v)
    (h : DataW.Trod enc P w base spare held t v d p) : ∃ (l : List Value) (fuel : Nat), v = .agg l.toArray ∧ DataW.trod enc P w base spare held fuel t l = some (d, p) := by
  obtain ⟨cs, rfl, _⟩ := okWide_struct hs hv
  obtain ⟨fuel, hf⟩ := h
  exact ⟨cs.toList, fuel, rfl, hf⟩
theorem params_ok {P : Program} {ts : Array TypeId} (h : (ts.toList.all fun t => P.readableRec t && decide (t < P.types.size)) = true) : ∀ t ∈ ts.toList, P.readableRec t = true ∧ t < P.types.size := fun t ht => by
  have := List.all_eq_true.1 h t ht
  simpa using this
/-- The cells of a datum. -/
def flatD : Nat → DataW Unit → List Value
  | _, .lit (.int k n) => [.int k n]
  | _, .lit (.string s) => [.string ⟨s.toArray⟩]
  | _, .lit (.bool b) => [.bool b]
  | n + 1, .agg l => l.flatMap (flatD n)
  | _, _ => []
/-- The settled world, with data laid in its variables. -/
def layD (d : DataW Unit) : Obj → Obj
  | .cells _ t frozen => .cells (flatD 5 d).toArray t frozen
  | o => o
noncomputable def laidW (P : Program) (os : Os) (l : List (Nat × DataW Unit)) : World :=
  let w0 := World.holding P os ⟨#[], #[], []⟩
  { w0 with heap := List.foldl (fun h x => h.modify x.1 (layD x.2)) w0.heap l }
/-- Each argument reads as it did, where below the heap's old size nothing has turned. -/
theorem trodAll_stays {Ht : Type} {enc : TypeId × Value → Ht} {P : Program} (hl : laidOutB P = true) {W W' : World} (hb : Below W.heap.size W W') {sp : Nat → Bool} : ∀ {ts : List TypeId} {vs : List Value} {ds : List (DataW Ht)} {ps : List MemPlace}, (∀ t ∈ ts, P.readableRec t = true ∧ t < P.types.size) →
    DataW.TrodAll enc P W 0 (fun _ => true) true ts vs ds ps → (∀ x ∈ ps, x.block < W.heap.size) → (∀ x ∈ ps, sp x.block = true) → DataW.TrodAll enc P W' 0 sp true ts vs ds ps := by
  intro ts
  induction ts with
  | nil => intro vs ds ps _ h _ _; cases vs <;> cases ds <;> first | exact h | exact h.elim
  | cons t ts ih =>
    intro vs ds ps hr h hlt hsp
    obtain ⟨v, vs', d, ds', p, q, rfl, rfl, rfl, h1, h2⟩ := trodAll_cons h
    exact trodAll_cons_mk (WideElems.Trod_stays hl (hr t (by simp)).1 (hr t (by simp)).2 h1 (fun x hx => hb.same (hlt x (by simp [hx]))) (fun x hx => hsp x (by simp [hx]))) (ih (fun u hu => hr u (by simp [hu])) h2 (fun x hx => hlt x (by simp [hx])) (fun x hx => hsp x (by simp [hx])))
section
variable {Ht : Type} {enc : TypeId × Value → Ht} {P : Program}
/-- A row's last step where below the heap's old size nothing has turned: it hands back true, and the arguments read as they did. -/
theorem law_post {f : Func} {s : ChangeSpec} {apart fresh again : Bool} {W W' : World} {args : Array Value} {ds : List (DataW Ht)} {before : List MemPlace} {tb : TypeId} (hvars : s.vars = [])
    (hW : DataW.Whole enc P f.params.toList s.vars apart W args.toList ds [] before) (hb : Below W.heap.size W W') (hl : laidOutB P = true) (hr : ∀ t ∈ f.params.toList, P.readableRec t = true ∧ t < P.types.size)
    (hres : f.resultTypes = #[tb]) (hu : P.underlying tb = some .bool) (hfn : s.fn Ht (ds ++ []) = { results := [.lit (.bool true)], args := ds }) : s.post enc P f apart fresh false again W args (.bool true) W' := by
  have hlt : ∀ p ∈ before, p.block < W.heap.size := fun p hp => hW.lt p hp
  have hold : ∀ p ∈ before, (fun b => decide (b < W.heap.size)) p.block = true := fun p hp => by simpa using hlt p hp
  have hW0 := hW
  obtain ⟨p, q, hA, hV, rfl, hz, hn⟩ := hW0
  have hq : q = [] := by
    rw [hvars] at hV
    exact (trodVars_none hV).2
  subst hq
  rw [List.append_nil] at hlt hold hz hn hW
  have hA0 : DataW.TrodAll enc P W 0 (fun _ => true) true f.params.toList args.toList ds p := hA
  have hargs : ∀ sp : Nat → Bool, (∀ x ∈ p, sp x.block = true) → DataW.TrodAll enc P W' 0 sp true f.params.toList args.toList ds p := fun sp hs => trodAll_stays hl hb hr hA0 hlt hs
  have hvs : ∀ sp : Nat → Bool, DataW.TrodVars enc P W' sp s.vars ([] : List (DataW Ht)) [] := fun sp => by rw [hvars]; rfl
  have hR : ∀ (b : Nat) (sp : Nat → Bool) (hd : Bool), DataW.TrodAll enc P W' b sp hd f.resultTypes.toList ((Value.bool true).resultList f.resultTypes.size) [.lit (.bool true)] [] := fun b sp hd => by
    rw [hres]
    exact trodAll_mk1 (shut_bool hu true)
  have hok : ∀ (j : Nat) (t : TypeId) (r : Value), f.resultTypes[j]? = some t → ((Value.bool true).resultList f.resultTypes.size)[j]? = some r → Value.okWide P W' .any 0 t r := ok_one hres rfl (okWide_bool_mk hu true)
  refine ⟨ds, [], p, [], p, [], hW, ?_, ?_, ?_, World.keptBut_mono (fun x hx => ⟨hx, Or.inr (by simpa using hx)⟩) (hb.frame (· ∈ p)), fun _ => ?_⟩
  · rw [hfn]; exact hR _ _ _
  · rw [hfn]; exact hargs _ hold
  · rw [hfn]; exact hvs _
  · refine ⟨hok, _, _, ([] ++ p) ++ [], ⟨[] ++ p, [], trodAll_append (hargs _ (fun _ _ => rfl)) (hR _ _ _), hvs _, rfl, ?_, ?_⟩, ?_⟩
    · intro b off hp
      have hin : MemPlace.cell b off ∈ p := by simpa using hp
      rw [hb.frozen (hlt _ hin)]
      exact hz b off hin
    · intro ha
      have := hn ha
      simpa using this
    · intro x hx _
      simpa using hx
/-- A variable of type int holds an int. -/
theorem gint_of_shape {w : World} {g : Nat} {t : TypeId} {zero : Array Value} (h : w.ShapedOpen P) (hg : g < P.globals.size)
    (h0 : ((begin P (fun _ _ => 0) default).world.heap[g]?).bind Obj.row? = some (zero, t)) (hz : zero.size = 1)
    (hb : P.buildable t = true) (hc : P.cellTypes P.depth t = some [t]) (hu : P.underlying t = some (.int .i64)) : GInt (hp w) g := by
  obtain ⟨cs, hh, hs, hr⟩ := h.1 g zero t hg h0
  obtain ⟨ts, hts, _, hall⟩ := hr hb
  rw [hc] at hts
  cases hts
  have h1 : 0 < cs.size := by omega
  obtain ⟨u, hu', hok⟩ := hall 0 cs[0] (by simp [h1])
  have : u = t := by simpa using hu'.symm
  subst this
  unfold Cell.ok at hok
  rw [hu] at hok
  have hv : ∃ m, cs[0] = .int .i64 m := by
    cases hv : cs[0] <;> rw [hv] at hok <;> first | exact ⟨_, by rw [hok.1]⟩ | simp at hok
  obtain ⟨m, hm⟩ := hv
  refine ⟨m, u, (0, 0), ?_⟩
  show w.heap[g]? = _
  rw [hh]
  have e : cs = #[.int .i64 m] := by
    apply Array.ext
    · simp; omega
    · intro i hi1 hi2
      have : i = 0 := by simp at hi2; omega
      subst this
      simpa using hm
  rw [e]
/-- A table of integers that the row lists. -/
theorem gtab_of {w : World} {g n : Nat} {name : String} {k : IntKind} {zs : List Int} {rest : List (String × DataW Unit)} {t e : TypeId} (hg : P.globalNamed name = some g) (hty : (P.globals[g]?).map (·.type) = some t) (ht : P.underlying t = some (.array n e)) (he : P.underlying e = some (.int k)) (hce : P.cellsOf e = 1) (hct : P.cellsOf t = n)
    (h : laidMet P ((name, Lib.tabData k zs) :: rest) w) : ∃ T fr, hp w g = some (.cells (zs.map (Value.int k)).toArray T fr) := by
  have hT := Lib.tabIs_of_head hg hty ht he hce hct h
  unfold Lib.TabIs World.var? at hT
  rw [hg] at hT
  simp only [Option.bind_some] at hT
  split at hT
  · rename_i cs T fr hh
    cases hT
    exact ⟨T, fr, hh⟩
  · cases hT
end
end Go.SW
namespace Go.SW
open Go.ChangeShapes Go.WideShapes Go.ChangeAt Go.RowKit
variable {P : Program}
end Go.SW
namespace Go.SW
open Go.ChangeShapes Go.WideShapes Go.ChangeAt Go.RowKit
variable {P : Program}
/-- What is read at a type stands for something. -/
def Rdv {α : Type} (P : Program) (t : TypeId) (en : α → List PV) (k : Nat) : Prop :=
  ∀ (Ht : Type) (enc : TypeId × Value → Ht) (w : World) (base : Nat) (spare : Nat → Bool) (held : Bool) (fuel : Nat) (cs : List Value) (x : DataW Ht × List MemPlace),
    DataW.trod enc P w base spare held fuel t cs = some x → (∀ n ∈ x.1.weights P t, n ≤ reachBytes) → ∃ r : α, RowE en k (hp w) r cs
theorem rowE1 {α : Type} {en : α → List PV} {H : Hp} {r : α} {p : PV} {v : Value} (he : en r = [p]) (h : Sim H p v) (ho : v.oneCell' = true) : RowE en 1 H r [v] :=
  ⟨by rw [he]; rfl, by rw [he]; exact Sims.nil.cons h, fun u hu => by rw [List.mem_singleton.1 hu]; exact ho⟩
theorem rdv_int {k : IntKind} {t : TypeId} (ht : P.underlying t = some (.int k)) : Rdv P t (fun z : Int => [.int k z]) 1 := fun _ _ _ _ _ _ _ _ _ h _ => by
  obtain ⟨z, rfl, h1, h2⟩ := rd_int ht h
  exact ⟨z, rowE1 rfl (.int h1 h2) rfl⟩
theorem rdv_str {t : TypeId} (ht : P.underlying t = some .string) : Rdv P t (fun s : Bs => [.str s]) 1 := fun _ _ _ _ _ _ _ _ _ h _ => by
  obtain ⟨s, rfl, h1⟩ := rd_str ht h
  exact ⟨s, rowE1 rfl (.str h1) rfl⟩
/-- The fields of a struct, one after the other. -/
theorem rows_app {ps qs : List PV} {H : Hp} {cs ds : List Value} {m n : Nat} (h : ps.length = m ∧ Sims H ps cs ∧ ∀ u ∈ cs, u.oneCell' = true) (k : qs.length = n ∧ Sims H qs ds ∧ ∀ u ∈ ds, u.oneCell' = true) : (ps ++ qs).length = m + n ∧ Sims H (ps ++ qs) (cs ++ ds) ∧ ∀ u ∈ cs ++ ds, u.oneCell' = true :=
  ⟨by simp [h.1, k.1], h.2.1.append k.2.1, fun u hu => by rcases List.mem_append.1 hu with q | q; exact h.2.2 u q; exact k.2.2 u q⟩
theorem rdv_fld {Ht : Type} {enc : TypeId × Value → Ht} {w : World} {base : Nat} {spare : Nat → Bool} {held : Bool} {cs : List Value} {t : TypeId} {fs : Array Field} {xs : List (DataW Ht × List MemPlace)} {n i o k : Nat} {f : Field} {ft : TypeId} {α : Type} {en : α → List PV} (ht : P.underlying t = some (.struct fs))
    (hf : ∀ (i : Nat) (f : Field), fs[i]? = some f → DataW.trod enc P w base spare held n f.type ((cs.drop f.offset).take (P.cellsOf f.type)) = xs[i]?) (hl : xs.length = fs.size) (hw : ∀ q ∈ (DataW.agg (xs.map (·.1)) : DataW Ht).weights P t, q ≤ reachBytes)
    (hi : fs[i]? = some f) (ho : f.offset = o) (hft : f.type = ft) (hk : P.cellsOf ft = k) (hr : Rdv P ft en k) : ∃ r, RowE en k (hp w) r ((cs.drop o).take k) := by
  obtain ⟨y, hy⟩ := rd_fld hf hl hi ho hft hk
  refine hr _ _ _ _ _ _ _ _ _ hy fun q hq => hw q ?_
  have h := hf i f hi
  rw [ho, hft, hk, hy] at h
  simp only [DataW.weights, ht]
  refine DataW.weights_mem_each (j := i) (t := ft) (d := y.1) ?_ ?_ q hq
  · rw [List.getElem?_map, Array.getElem?_toList, hi]; simp [hft]
  · rw [List.getElem?_map, ← h]; rfl
theorem row_cut {en : List PV} {H : Hp} {cs : List Value} {o k : Nat} {q : Nat} (h : en.length = k ∧ Sims H en ((cs.drop o).take k) ∧ ∀ u ∈ (cs.drop o).take k, u.oneCell' = true) {es : List PV} (hr : es.length = q ∧ Sims H es (cs.drop (o + k)) ∧ ∀ u ∈ cs.drop (o + k), u.oneCell' = true) : (en ++ es).length = k + q ∧ Sims H (en ++ es) (cs.drop o) ∧ ∀ u ∈ cs.drop o, u.oneCell' = true := by
  have := rows_app h hr
  rw [← List.drop_drop, List.take_append_drop] at this
  exact this
theorem row_last {en : List PV} {H : Hp} {cs : List Value} {o k : Nat} (hl : cs.length = o + k) (h : en.length = k ∧ Sims H en ((cs.drop o).take k) ∧ ∀ u ∈ (cs.drop o).take k, u.oneCell' = true) : en.length = k ∧ Sims H en (cs.drop o) ∧ ∀ u ∈ cs.drop o, u.oneCell' = true := by
  rw [List.take_of_length_le (by simp; omega)] at h
  exact h
/-! Arguments -/
section
variable {Ht : Type} {enc : TypeId × Value → Ht} {w : World} {r : Reach} {b0 base : Nat} {spare : Nat → Bool} {held : Bool} {t : TypeId} {v : Value} {d : DataW Ht} {p : List MemPlace}
theorem arg_rec {α : Type} {en : α → List PV} {k : Nat} {fs : Array Field} (hs : P.underlying t = some (.struct fs)) (hv : Value.okWide P w r b0 t v) (h : DataW.Trod enc P w base spare held t v d p) (hw : ∀ q ∈ d.weights P t, q ≤ reachBytes) (hr : Rdv P t en k) : ∃ z : α, Sim (hp w) (.agg (en z)) v := by
  obtain ⟨l, fuel, rfl, h1⟩ := rd_agg hs hv h
  obtain ⟨z, h2⟩ := hr _ _ _ _ _ _ _ _ _ h1 hw
  exact ⟨z, Sim.toAgg h2.2.1⟩
theorem wt_arg {ts : List TypeId} {ds : List (DataW Ht)} {j : Nat} (hw : (DataW.weightsEach P ts ds).all (· ≤ reachBytes) = true) (ht : ts[j]? = some t) (hd : ds[j]? = some d) : ∀ q ∈ d.weights P t, q ≤ reachBytes := fun q hq => by
  have := List.all_eq_true.1 hw q (DataW.weights_mem_each ht hd q hq)
  simpa using this
end
/-- A law's call, closed. -/
theorem law_run {G : Gb} {f : FuncId} {args : List PV} {b : Bool} {vs : List Value} {W : World} (h : Fn P G f args (.bool b)) (hg : G.p (hp W)) (hs : Sims (hp W) args vs) (hb : b = true) : Calls P f vs.toArray W fun e W' => e = .returned (.bool true) ∧ Mem (rest0 W) (hp W) l0 W' :=
  (h.run (rest0 W) (hp W) l0 W vs hg hs (mem0 W)).mono fun _ _ ⟨v, H', h1, h2, h3, h4⟩ => ⟨by rw [h1, h2.inv_bool, hb], h4.le h3⟩
end Go.SW
namespace Go.SW.V
open Go.SW
variable {P : Program} {n m : Nat} {N : Rest} {H0 : Env} {all rest : List Oper} {Q : Qs} {ks : List Kt} {fF gF : Nat → PV} {fL gL : Nat → Blk} {T ty d : Nat} {pos : String} {af : Array Edge} {x y z : Operand}
/-- The caller's slots behind such a call: of lists that are owned those in ts alone. -/
def deF (ts : List Nat) (G : Nat → PV) : Nat → PV := fun t => bif memB ts t then G t else (match G t with
  | .osl _ => .junk
  | p => p)
def keptO (G : Nat → PV) (L L' : Nat → Blk) : List Nat → Prop
  | [] => True
  | t :: r => (match G t with
    | .osl q => L' q = L q
    | _ => True) ∧ keptO G L L' r
theorem keptO_get {G : Nat → PV} {L L' : Nat → Blk} : ∀ {ts : List Nat} {t q : Nat}, keptO G L L' ts → t ∈ ts → G t = .osl q → L' q = L q
  | [], t, q, _, h, _ => by cases h
  | a :: r, t, q, hk, h, hG => by
    rcases List.mem_cons.1 h with rfl | h
    · have := hk.1; rw [hG] at this; exact this
    · exact keptO_get hk.2 h hG
def inlK (P : Program) (n : Nat) (N : Rest) (H0 : Env) (tb : Tb) (rs : List ResultVar) (ts : List Nat) (fF : Nat → PV) (fL : Nat → Blk) (Q : Qs) (all rest : List Oper) (ks : List Kt) (d : Nat) : Qs := fun e s => (e = .normal ∨ e = .ret) ∧
  ∃ ps as0 bs, resPs tb s rs = some (ps, as0, bs) ∧ as0 = bs ∧ (tupP ps).noOsl = true ∧ keptO fF fL s.L ts ∧ Hd P n N H0 Q (.ops all rest) ks ⟨updp (deF ts fF) d (tupP ps), s.L⟩
theorem inln {H1 : Env} {tb : Tb} {rs : List ResultVar} {ts : List Nat} {ps : List PV} {as0 bs : List Nat} (h : resPs tb ⟨gF, gL⟩ rs = some (ps, as0, bs)) (he : as0 = bs) (hno : (tupP ps).noOsl = true) (hk : keptO fF fL gL ts) (k : Hd P n N H0 Q (.ops all rest) ks ⟨updp (deF ts fF) d (tupP ps), gL⟩) : Hd P m N H1 (inlK P n N H0 tb rs ts fF fL Q all rest ks d) (.ex .normal) [] ⟨gF, gL⟩ := ⟨.inl rfl, ps, as0, bs, h, he, hno, hk, k⟩
theorem deF_ok {ts : List Nat} {H : Hp} {F : Fr} (hf : ∀ t, SimT fL H (fF t) (F t)) (hk : keptO fF fL gL ts) (t : Nat) : SimT gL H (deF ts fF t) (F t) := by
  have h1 := hf t
  unfold deF
  cases e : memB ts t with
  | true =>
    simp only [cond_true]
    cases hp : fF t with
    | osl q =>
      have h2 := keptO_get hk (memB_spec e) hp
      rw [hp] at h1
      simp only [SimT, h2] at h1 ⊢
      exact h1
    | _ => rw [hp] at h1; exact h1
  | false =>
    simp only [cond_false]
    cases hp : fF t with
    | osl q => exact Sim.junk
    | _ => rw [hp] at h1; exact h1
theorem hinl {tb : Tb} {f : FuncId} {fn : Func} {c : Code} {args : List PV} {xs : Array Operand} {ats : Array TypeId} (ts : List Nat) (ht : tbB P tb = true) (hf : P.funcs[f]? = some fn) (hb : fn.body = some c) (hn : fn.ntmps = m) (hcb : Callable P f) (ha : argsP fF x xs.toList = some (f, args)) (hs : Nat.ble args.length m = true) (hna : noOsls args = true) (hd : Nat.blt d n = true)
    (h : ∀ Hc, H0.g.p Hc → Hd P m N ⟨Hc, H0.g⟩ (inlK P n N H0 tb fn.results.toList ts fF fL Q all rest ks d) (.code c) [] ⟨initP args, fL⟩) : Hd P n N H0 Q (.ops all (⟨some d, .call ⟨.value x, xs, ats⟩, ty, pos, af, none⟩ :: rest)) ks ⟨fF, fL⟩ := by
  intro F H L hab
  obtain ⟨vs, h1, h2⟩ := args_ok (ats := ats) hab.f ha hcb
  refine ow1 fun a w hA hm => ?_
  rw [if_pos (by simp [Region.wanted])]
  unfold Oper.wp
  rw [hA.eval, h2]
  subst hn
  have h3 := h H hab.g (initF vs.toArray) H L ⟨.refl H, hab.g, fun t => init_sim h1 hna t, hab.l⟩
  refine calls_of_cw (R := fun v H' L' => ∃ (sL : Nat → Blk) (res : PV), Sim H' res v ∧ res.noOsl = true ∧ keptO fF fL sL ts ∧ (∀ i, SimB sL H' (sL i) (L' i)) ∧ H0.g.p H' ∧ Hd P n N H0 Q (.ops all rest) ks ⟨updp (deF ts fF) d res, sL⟩) (H0 := H) hf hb (by have := Nat.le_of_ble_eq_true hs; simp [h1.1]; exact this) (cw_mono (fun e F' H' L' hq => ?_) h3) hm ?_
  · obtain ⟨s', ha', he, ps, as0, bs, e1, e2, e3, e4, e5⟩ := hq
    obtain ⟨_, v, hr, hv⟩ := rtK_res (N := N) (res := tupP ps) ht ha' (show rtK tb fn.results.toList (tupP ps) e s' from ⟨he, ps, as0, bs, e1, e2, ple rfl⟩)
    rcases he with rfl | rfl
    · exact ⟨v, hr, ha'.le, s'.L, _, hv, e3, e4, ha'.l, ha'.g, e5⟩
    · exact ⟨v, hr, ha'.le, s'.L, _, hv, e3, e4, ha'.l, ha'.g, e5⟩
  · intro v H' L' w' ⟨sL, res, e1, e2, e3, e4, e5, e6⟩ hl hm'
    refine ⟨_, H', L', hA.put (by simpa using hd) v, hm', ?_⟩
    exact e6 _ _ _ (Abs.put (p := res) (s := ⟨deF ts fF, sL⟩) ⟨hab.le.trans hl, e5, deF_ok (fun t => (hab.f t).mono hl) e3, e4⟩ d (e1.simT e2))
end Go.SW.V
namespace Go.SW.V
open Go.SW
variable {P : Program} {n : Nat} {N : Rest} {H0 : Env} {all rest : List Oper} {Q : Qs} {ks : List Kt} {fF : Nat → PV} {fL : Nat → Blk} {T ty d : Nat} {pos : String} {af : Array Edge} {x y z : Operand} {K : St → Prop}
theorem erange {tb : Tb} {ti : TI} {s : Bs} (ht : tbB P tb = true) (i : Nat) (hx : evP fF x = .str s) (hti : lkT tb T = some ti) (htk : ti.k = .str) (hd : Nat.blt d n = true) (k : ∀ b, K ⟨updp fF d (.own i b 0), lups fL i (.itr b s 0)⟩) : E1 P n N H0 all ⟨some d, .range T x, ty, pos, af, none⟩ (some i) ⟨fF, fL⟩ K := by
  intro F H L ha
  have h1 := (evP_ok ha.f x).sim
  simp only at h1
  rw [hx] at h1
  exact op1_range i hd h1.inv_str.1 ((ti_ok ht hti).str htk) fun b => ⟨.refl H, only, _, (ha.turnB (B := .itr b s 0) i trivial rfl).put (p := .own i b 0) d Sim.own, k b⟩
theorem hnext {s : Bs} {i b b' off p : Nat} (hx : evP fF x = .own i b off) (hoff : off = 0) (hb : fL i = .itr b' s p) (hbb : b' = b) (hs : s.length ≤ 9223372036854775807) (ha : p < s.length → (s.getD p 0).toNat < 128) (hd : Nat.blt d n = true)
    (k1 : p < s.length → Hd P n N H0 Q (.ops all rest) ks ⟨updp fF d (.tup [.bool true, .int .i64 p, .int .i32 ((s.getD p 0).toNat : Int)]), lups fL i (.itr b s (p + 1))⟩)
    (k2 : ¬ p < s.length → Hd P n N H0 Q (.ops all rest) ks ⟨updp fF d (.tup [.bool false]), fL⟩) : Hd P n N H0 Q (.ops all (⟨some d, .next x true, ty, pos, af, none⟩ :: rest)) ks ⟨fF, fL⟩ := by
  intro F H L hab
  subst hoff; subst hbb
  have h1 := (evP_ok hab.f x).sim
  simp only at h1
  rw [hx] at h1
  have h2 := h1.inv_own
  have h3 := hab.l i
  simp only [hb] at h3
  by_cases e : p < s.length
  · refine ow1 (op1_next_more i hd h2 h3 e (ha e) ?_)
    have hr : IntKind.min .i64 ≤ (p : Int) ∧ (p : Int) ≤ IntKind.max .i64 := by
      exact i64_nat (by omega)
    have hc : IntKind.min .i32 ≤ ((s.getD p 0).toNat : Int) ∧ ((s.getD p 0).toNat : Int) ≤ IntKind.max .i32 := by
      have e1 : IntKind.min .i32 = -2147483648 := rfl
      have e2 : IntKind.max .i32 = 2147483647 := rfl
      have := ha e
      omega
    exact k1 e _ _ _ (Abs.put (p := .tup [.bool true, .int .i64 p, .int .i32 ((s.getD p 0).toNat : Int)]) (s := ⟨fF, lups fL i (.itr b' s (p + 1))⟩) (hab.turnB (B := .itr b' s (p + 1)) i trivial rfl) d (Sim.simT (Sim.toTup (vs := [_, _, _]) (((Sims.nil.cons (Sim.int hc.1 hc.2)).cons (Sim.int hr.1 hr.2)).cons Sim.bool)) rfl))
  · exact ow1 (op1_next_end i hd h2 h3 (by omega) (k2 e _ _ _ (Abs.put (p := .tup [.bool false]) (s := ⟨fF, fL⟩) hab d (Sim.simT (Sim.toTup (vs := [_]) (Sims.nil.cons Sim.bool)) rfl))))
end Go.SW.V
namespace Go.SW
def bv1 (x : BitVec 32) : BitVec 32 := if x.getLsbD 0 then (x >>> 1) ^^^ 0xEDB88320#32 else x >>> 1
def tbv (x : BitVec 32) : BitVec 32 := bv1 (bv1 (bv1 (bv1 x)))
/-! On whole numbers -/
def bit1 (q : Int) : Int := if q % 2 = 1 then xor32 (q / 2) 3988292384 else q / 2
def bitIt : Nat → Int → Int
  | 0, q => q
  | n + 1, q => bitIt n (bit1 q)
end Go.SW
set_option linter.unusedVariables false
set_option maxRecDepth 100000
namespace Go.SW.V
open Go.SW
end Go.SW.V
set_option linter.unusedVariables false
set_option maxRecDepth 100000
namespace Go.SW.V
open Go.SW
end Go.SW.V
namespace Go.SW.V
open Go.SW
end Go.SW.V
namespace Go.SW.V
open Go.SW
end Go.SW.V
set_option linter.unusedVariables false
set_option maxRecDepth 100000
namespace Go.SW.V
open Go.SW
end Go.SW.V
set_option linter.unusedVariables false
set_option maxRecDepth 100000
namespace Go.SW.V
open Go.SW
end Go.SW.V
namespace Go.SW.V
open Go.SW
end Go.SW.V
namespace Go.SW.V
open Go.SW
structure DOk (x : DraftR) : Prop where
  len : x.l.length ≤ 16
  ok : ∀ d ∈ x.l, deedE d = 0 ∧ (d.kind = 6 ∨ d.kind = 8)
  hd : ∀ d ∈ x.l, d.mail.head.length ≤ 1000000
end Go.SW.V
namespace Go.SW
structure ActR where
  dow : Int
  n : Int
  how : Int
  queue : Bs
  upto : Bool
  l : List DeedR
deriving DecidableEq, Inhabited
def ActR.pc (x : ActR) : List PV := [.int .u8 x.dow, .int .u64 x.n, .int .u64 x.how, .str x.queue, .bool x.upto, .sl DeedR.pc x.l]
end Go.SW
set_option linter.unusedVariables false
set_option maxRecDepth 100000
namespace Go.SW.V
open Go.SW
end Go.SW.V
namespace Go.SW.V
open Go.SW
structure COk (c : ChanR) (n : Nat) : Prop where
  cr : 0 ≤ c.credit ∧ c.credit ≤ 1000
  tk : c.takers.length ≤ 4
  ln : c.lent.length ≤ n
  hd : DOk c.held
end Go.SW.V
namespace Go.SW.V
open Go.SW
end Go.SW.V
set_option linter.unusedVariables false
set_option maxRecDepth 100000
namespace Go.SW.V
open Go.SW
end Go.SW.V
set_option linter.unusedVariables false
set_option maxRecDepth 100000
namespace Go.SW.V
open Go.SW
end Go.SW.V
namespace Go.SW.V
open Go.SW
end Go.SW.V
namespace Go.SW
structure HasR where
  name : Bool
  other : Bool
  lack : Bool
  key : Bool
  pattern : Bool
  head : Bool
  body : Bool
  n : Bool
  m : Bool
  yes : Bool
deriving DecidableEq, Inhabited
def HasR.pc (x : HasR) : List PV := [.bool x.name, .bool x.other, .bool x.lack, .bool x.key, .bool x.pattern, .bool x.head, .bool x.body, .bool x.n, .bool x.m, .bool x.yes]
end Go.SW
set_option linter.unusedVariables false
set_option maxRecDepth 100000
namespace Go.SW.V
open Go.SW
def method_Method_tells (m : Method) (letters : Bs) : Bool :=
 (hasAny (tellsT.getD (m.kind).toNat []) letters)
def method_Method_spare (m : Method) : Bool :=
 (bif ((!decide (m.name = [])) && (!(method_Method_tells m [65]))) then
 true
 else (bif ((!decide (m.other = [])) && (!(method_Method_tells m [79, 120]))) then
 true
 else (bif ((!decide (m.key = [])) && (!(method_Method_tells m [107, 112]))) then
 true
 else (bif ((decide (0 < (m.head.length : Int))) && (!(method_Method_tells m [104]))) then
 true
 else (bif ((!decide (m.body = [])) && (!(method_Method_tells m [98]))) then
 true
 else (bif ((!decide (m.n = 0)) && (!(method_Method_tells m [110]))) then
 true
 else (bif ((!decide (m.m = 0)) && (!(method_Method_tells m [109]))) then
 true
 else (bif (m.yes && (!(method_Method_tells m [121]))) then
 true
 else false))))))))
def r11_Same (a : Method) (b : Method) : Bool :=
 ((((((((((decide (a.channel = b.channel)) && (decide (a.kind = b.kind))) && (decide (a.name = b.name))) && (decide (a.other = b.other))) && (decide (a.key = b.key))) && (decide (a.head = b.head))) && (decide (a.body = b.body))) && (decide (a.n = b.n))) && (decide (a.m = b.m))) && (a.yes == b.yes))
def r11_Of (kind : Int) : HasR :=
 (bif (((decide (kind = 0)) || (decide (kind = 12))) || (decide (kind = 14))) then
 (⟨false, false, false, false, false, false, false, true, false, false⟩ : HasR)
 else (bif decide (kind = 3) then
 (⟨true, true, true, false, false, false, false, true, false, false⟩ : HasR)
 else (bif (((decide (kind = 4)) || (decide (kind = 6))) || (decide (kind = 15))) then
 (⟨true, false, false, false, false, false, false, false, false, false⟩ : HasR)
 else (bif decide (kind = 5) then
 (⟨true, true, true, false, false, false, false, true, true, false⟩ : HasR)
 else (bif ((decide (7 ≤ kind)) && (decide (kind ≤ 10))) then
 (⟨true, true, false, true, true, true, false, false, false, true⟩ : HasR)
 else (bif decide (kind = 11) then
 (⟨true, false, false, true, false, true, true, false, true, false⟩ : HasR)
 else (bif decide (kind = 13) then
 (⟨true, false, false, false, false, false, false, true, false, false⟩ : HasR)
 else (bif decide (kind = 16) then
 (⟨false, false, false, false, false, false, false, true, true, true⟩ : HasR)
 else (⟨false, false, false, false, false, false, false, false, false, false⟩ : HasR)))))))))
end Go.SW.V
set_option linter.unusedVariables false
set_option maxRecDepth 100000
namespace Go.SW.V
open Go.SW
def method_Method_one (m : Method) (letter : Int) : Int :=
 (bif decide (letter = 65) then
 (nameE m.name)
 else (bif decide (letter = 120) then
 (bif decide (m.other = []) then
 0
 else (nameE m.other))
 else (bif decide (letter = 79) then
 (nameE m.other)
 else (bif decide (letter = 107) then
 (keyE [] m.key)
 else (bif decide (letter = 112) then
 (keyE patB m.key)
 else (bif decide (letter = 104) then
 (headE m.head)
 else (bif decide (letter = 98) then
 (bif decide (256 < (m.body.length : Int)) then
 5
 else 0)
 else 0)))))))
def method_Method_Check_l0 (m : Method) : List UInt8 → Int
  | [] => 0
  | x :: t => lt (method_Method_one m (x.toNat : Int)) fun r =>
 (bif !decide (r = 0) then
 r
 else method_Method_Check_l0 m t )
def method_Method_Check (m : Method) : Int :=
 (bif decide (20 < m.kind) then
 8
 else (bif (method_Method_spare m) then
 4
 else method_Method_Check_l0 m (tellsT.getD (m.kind).toNat []) ))
def l11_To (m : Method) : Method :=
 (⟨m.channel, m.kind, m.name, m.other, m.key, ([] ++ m.head), m.body, m.n, m.m, m.yes⟩ : Method)
def r11_Check (m : Method) : Int :=
 (bif decide (20 < m.kind) then
 8
 else lt (r11_Of m.kind) fun r =>
 (bif (((((((((!decide (m.name = [])) && (!r.name)) || ((!decide (m.other = [])) && (!r.other))) || ((!decide (m.key = [])) && (!r.key))) || ((decide (0 < (m.head.length : Int))) && (!r.head))) || ((!decide (m.body = [])) && (!r.body))) || ((!decide (m.n = 0)) && (!r.n))) || ((!decide (m.m = 0)) && (!r.m))) || (m.yes && (!r.yes))) then
 4
 else (lt1 ((bif r.name then
 (nameE m.name)
 else 0)) (fun e_1 =>
 (lt1 ((bif (((decide (e_1 = 0)) && r.other) && (!(r.lack && (decide (m.other = []))))) then
 (nameE m.other)
 else e_1)) (fun e_2 =>
 (lt1 ((bif ((decide (e_2 = 0)) && r.key) then
 (keyE (besidesOf r.pattern) m.key)
 else e_2)) (fun e_3 =>
 (lt1 ((bif ((decide (e_3 = 0)) && r.head) then
 (headE m.head)
 else e_3)) (fun e_4 =>
 (bif ((decide (e_4 = 0)) && (decide (256 < (m.body.length : Int)))) then
 5
 else e_4)))))))))))
def r01_In_Fail (i : RIn) (code : Int) : RIn :=
 (bif decide (i.code = 0) then
 (⟨i.s, i.pos, code⟩ : RIn)
 else i)
end Go.SW.V
namespace Go.SW.V
open Go.SW
theorem spare_eq (m : Method) : method_Method_spare m = spareMt m := by
  simp only [method_Method_spare, method_Method_tells, spareMt, hasK, tellsOf, Bool.cond_eq_ite]
  repeat' split
  all_goals simp_all
theorem one_eq (m : Method) (c : Int) : method_Method_one m c = oneE m c := by
  simp only [method_Method_one, oneE, Bool.cond_eq_ite, decide_eq_true_eq]
theorem ck0_eq (m : Method) : ∀ l : List UInt8, method_Method_Check_l0 m l = ckGo m l
  | [] => rfl
  | c :: l => by
    have ih := ck0_eq m l
    simp only [method_Method_Check_l0, ckGo, lt, Bool.cond_eq_ite, one_eq, ih]
    split <;> split <;> simp_all
theorem check_eq (m : Method) : method_Method_Check m = methodE m := by
  simp only [method_Method_Check, methodE, Bool.cond_eq_ite, decide_eq_true_eq, spare_eq, ck0_eq, tellsOf]
theorem frame_len (m : Method) : True := trivial
def RW (r : RIn) : Prop := 0 ≤ r.pos ∧ r.pos ≤ (r.s.length : Int)
theorem check_kind (m : Method) : method_Method_Check m = 0 → m.kind ≤ 20 := fun h => methodE_kind (by rw [← check_eq]; exact h)
def SMt (m : Method) : Prop := m.name.length ≤ 1000 ∧ m.other.length ≤ 1000 ∧ m.key.length ≤ 1000 ∧ m.body.length ≤ 1000 ∧ smallH m.head
theorem to_eq (m : Method) : l11_To m = m := rfl
theorem wrapB {m : Int} (h : 0 ≤ m) (k : m ≤ 65535) : IntKind.wrap .i64 m = m := by
  simp only [IntKind.wrap, IntKind.bits, IntKind.signed]; simp; omega
theorem rw_new (s : Bs) : RW ⟨s, 0, 0⟩ := ⟨by simp, by simp⟩
theorem rw_Fail (i : RIn) (c : Int) : RW i → RW (r01_In_Fail i c) := fun h => by
  unfold r01_In_Fail
  rw [Bool.cond_eq_ite]
  split
  · exact h
  · exact h
end Go.SW.V
set_option linter.unusedVariables false
set_option maxRecDepth 100000
namespace Go.SW.V
open Go.SW
def method_Method_Frame_l0 (m : Method) : List UInt8 → Out → Frame × Int
  | [], x => ((⟨m.channel, m.kind, x.s⟩ : Frame), 0)
  | x1 :: t, x => (bif decide ((x1.toNat : Int) = 65) then
 method_Method_Frame_l0 m t  (outText x m.name)
 else (bif decide ((x1.toNat : Int) = 120) then
 method_Method_Frame_l0 m t  (outText x m.other)
 else (bif decide ((x1.toNat : Int) = 79) then
 method_Method_Frame_l0 m t  (outText x m.other)
 else (bif decide ((x1.toNat : Int) = 107) then
 method_Method_Frame_l0 m t  (outText x m.key)
 else (bif decide ((x1.toNat : Int) = 112) then
 method_Method_Frame_l0 m t  (outText x m.key)
 else (bif decide ((x1.toNat : Int) = 104) then
 method_Method_Frame_l0 m t  (outRaw x (headBytes m.head))
 else (bif decide ((x1.toNat : Int) = 98) then
 method_Method_Frame_l0 m t  (outText x m.body)
 else (bif decide ((x1.toNat : Int) = 110) then
 method_Method_Frame_l0 m t  (outNum x m.n 8)
 else (bif decide ((x1.toNat : Int) = 109) then
 method_Method_Frame_l0 m t  (outNum x m.m 8)
 else (bif decide ((x1.toNat : Int) = 121) then
 (bif m.yes then
 method_Method_Frame_l0 m t  (outNum x 1 1)
 else method_Method_Frame_l0 m t  (outNum x 0 1))
 else method_Method_Frame_l0 m t  x))))))))))
def method_Method_Frame (m : Method) : Frame × Int :=
 lt (method_Method_Check m) fun r =>
 (bif !decide (r = 0) then
 ((⟨0, 0, []⟩ : Frame), r)
 else method_Method_Frame_l0 m (tellsT.getD (m.kind).toNat [])  (⟨[], 0⟩ : Out))
def r01_In_Raw (i : RIn) (n : Int) : Bs × RIn :=
 (bif ((!decide (i.code = 0)) || (decide (n ≤ 0))) then
 ([], i)
 else (bif decide (((i.s.length : Int) - i.pos) < n) then
 lt (r01_In_Fail i 3) fun r =>
 ([], r)
 else (((i.s.drop (((i.pos + n) - n)).toNat).take (((i.pos + n)).toNat - (((i.pos + n) - n)).toNat)), (⟨i.s, (i.pos + n), i.code⟩ : RIn))))
end Go.SW.V
namespace Go.SW.V
open Go.SW
theorem rw_Raw (i : RIn) (n : Int) : RW i → RW (r01_In_Raw i n).2 := fun h => by
  obtain ⟨h1, h2⟩ := h
  simp only [r01_In_Raw, Bool.cond_eq_ite, lt]
  split
  · exact ⟨h1, h2⟩
  · rename_i e
    split
    · exact rw_Fail i 3 ⟨h1, h2⟩
    · rename_i e2
      simp only [Bool.or_eq_true, decide_eq_true_eq, not_or, Bool.not_eq_true', Bool.not_eq_false] at e e2
      exact ⟨by show 0 ≤ i.pos + n; omega, by show i.pos + n ≤ (i.s.length : Int); omega⟩
theorem raw_le (i : RIn) (n : Int) : (r01_In_Raw i n).1.length ≤ n.toNat := by
  simp only [r01_In_Raw, Bool.cond_eq_ite, lt]
  split
  · simp
  · split
    · simp
    · simp only [List.length_take]; omega
end Go.SW.V
set_option linter.unusedVariables false
set_option maxRecDepth 100000
namespace Go.SW.V
open Go.SW
def r01_In_Num_l0 (r : Bs × RIn) : Nat → Int → Nat → Int × RIn
  | 0, _, _ => default
  | f2 + 1, n, k => (bif decide ((k : Int) < (r.1.length : Int)) then
 r01_In_Num_l0 r f2 (IntKind.wrap .u64 ((IntKind.wrap .u64 (n * 256)) + ((r.1.getD k 0).toNat : Int))) (k + 1)
 else (n, r.2))
def r01_In_Num (i : RIn) (bytes : Int) : Int × RIn :=
 (lt1 ((bif decide (8 < bytes) then
 8
 else bytes)) (fun bytes1 =>
 lt (r01_In_Raw i bytes1) fun r =>
 r01_In_Num_l0 r (r.1.length - 0 + 1) 0 0))
def r01_In_End (i : RIn) : Int × RIn :=
 (bif ((decide (i.code = 0)) && (decide (i.pos < (i.s.length : Int)))) then
 (4, i)
 else (i.code, i))
def method_Of_l0 : List UInt8 → Method → In → Method × Int
  | [], x, x1 => (bif !decide ((inEnd x1) = 0) then
 ((⟨0, 0, [], [], [], [], [], 0, 0, false⟩ : Method), inEnd x1)
 else lt (method_Method_Check x) fun r10 =>
 (bif !decide (r10 = 0) then
 ((⟨0, 0, [], [], [], [], [], 0, 0, false⟩ : Method), r10)
 else (x, 0)))
  | x2 :: t, x, x1 => (bif decide ((x2.toNat : Int) = 65) then
 lt (inText x1 16) fun r =>
 method_Of_l0 t  (⟨x.channel, x.kind, r.1, x.other, x.key, x.head, x.body, x.n, x.m, x.yes⟩ : Method) r.2
 else (bif decide ((x2.toNat : Int) = 120) then
 lt (inText x1 16) fun r1 =>
 method_Of_l0 t  (⟨x.channel, x.kind, x.name, r1.1, x.key, x.head, x.body, x.n, x.m, x.yes⟩ : Method) r1.2
 else (bif decide ((x2.toNat : Int) = 79) then
 lt (inText x1 16) fun r2 =>
 method_Of_l0 t  (⟨x.channel, x.kind, x.name, r2.1, x.key, x.head, x.body, x.n, x.m, x.yes⟩ : Method) r2.2
 else (bif decide ((x2.toNat : Int) = 107) then
 lt (inText x1 64) fun r3 =>
 method_Of_l0 t  (⟨x.channel, x.kind, x.name, x.other, r3.1, x.head, x.body, x.n, x.m, x.yes⟩ : Method) r3.2
 else (bif decide ((x2.toNat : Int) = 112) then
 lt (inText x1 64) fun r4 =>
 method_Of_l0 t  (⟨x.channel, x.kind, x.name, x.other, r4.1, x.head, x.body, x.n, x.m, x.yes⟩ : Method) r4.2
 else (bif decide ((x2.toNat : Int) = 104) then
 lt (headRead x1) fun r5 =>
 method_Of_l0 t  (⟨x.channel, x.kind, x.name, x.other, x.key, r5.1, x.body, x.n, x.m, x.yes⟩ : Method) r5.2
 else (bif decide ((x2.toNat : Int) = 98) then
 lt (inText x1 256) fun r6 =>
 method_Of_l0 t  (⟨x.channel, x.kind, x.name, x.other, x.key, x.head, r6.1, x.n, x.m, x.yes⟩ : Method) r6.2
 else (bif decide ((x2.toNat : Int) = 110) then
 lt (inNum x1 8) fun r7 =>
 method_Of_l0 t  (⟨x.channel, x.kind, x.name, x.other, x.key, x.head, x.body, r7.1, x.m, x.yes⟩ : Method) r7.2
 else (bif decide ((x2.toNat : Int) = 109) then
 lt (inNum x1 8) fun r8 =>
 method_Of_l0 t  (⟨x.channel, x.kind, x.name, x.other, x.key, x.head, x.body, x.n, r8.1, x.yes⟩ : Method) r8.2
 else (bif decide ((x2.toNat : Int) = 121) then
 lt (inNum x1 1) fun r9 =>
 (bif decide (1 < r9.1) then
 method_Of_l0 t  (⟨x.channel, x.kind, x.name, x.other, x.key, x.head, x.body, x.n, x.m, decide (r9.1 = 1)⟩ : Method) (inFail r9.2 4)
 else method_Of_l0 t  (⟨x.channel, x.kind, x.name, x.other, x.key, x.head, x.body, x.n, x.m, decide (r9.1 = 1)⟩ : Method) r9.2)
 else method_Of_l0 t  x x1))))))))))
def method_Of (f : Frame) : Method × Int :=
 (bif decide (20 < f.kind) then
 ((⟨0, 0, [], [], [], [], [], 0, 0, false⟩ : Method), 8)
 else method_Of_l0 (tellsT.getD (f.kind).toNat [])  (⟨f.channel, f.kind, [], [], [], [], [], 0, 0, false⟩ : Method) (⟨f.body, 0⟩))
end Go.SW.V
namespace Go.SW.V
open Go.SW
theorem num0_eq (r : Bs × RIn) (h8 : r.1.length ≤ 8) : ∀ (f k : Nat), r.1.length < f + k → k ≤ r.1.length → r01_In_Num_l0 r f (beN (r.1.take k) : Nat) k = (((beN r.1 : Nat) : Int), r.2)
  | 0, k, h, hk => by exfalso; omega
  | f + 1, k, h, hk => by
    simp only [r01_In_Num_l0, Bool.cond_eq_ite, decide_eq_true_eq]
    split
    · rename_i e
      rw [beN_step (by omega) h8]
      exact num0_eq r h8 f (k + 1) (by omega) (by omega)
    · rw [List.take_of_length_le (by omega)]
theorem num_eq (i : RIn) (b : Int) : r01_In_Num i b = (((beN (r01_In_Raw i (min b 8)).1 : Nat) : Int), (r01_In_Raw i (min b 8)).2) := by
  have e : (if 8 < b then 8 else b) = min b 8 := by omega
  have hl := raw_le i (min b 8)
  simp only [r01_In_Num, lt1, lt, Bool.cond_eq_ite, decide_eq_true_eq, e]
  exact num0_eq _ (by omega) _ 0 (by omega) (by omega)
theorem rw_Num (i : RIn) (b : Int) : RW i → RW (r01_In_Num i b).2 := fun h => by
  rw [num_eq]; exact rw_Raw i _ h
theorem num_le (i : RIn) (b : Int) : 0 ≤ (r01_In_Num i b).1 ∧ (b ≤ 1 → (r01_In_Num i b).1 ≤ 255) ∧ (b ≤ 2 → (r01_In_Num i b).1 ≤ 65535) := by
  rw [num_eq]
  have hl := raw_le i (min b 8)
  have hb := beN_lt (r01_In_Raw i (min b 8)).1
  refine ⟨by simp only []; omega, fun h => ?_, fun h => ?_⟩
  · have : 256 ^ (r01_In_Raw i (min b 8)).1.length ≤ 256 ^ 1 := Nat.pow_le_pow_right (by omega) (by omega)
    simp only []; omega
  · have : 256 ^ (r01_In_Raw i (min b 8)).1.length ≤ 256 ^ 2 := Nat.pow_le_pow_right (by omega) (by omega)
    simp only []; omega
end Go.SW.V
set_option linter.unusedVariables false
set_option maxRecDepth 100000
namespace Go.SW.V
open Go.SW
def r01_In_Text (i : RIn) (most : Int) : Bs × RIn :=
 lt (r01_In_Num i 2) fun r =>
 (lt1 ((bif decide (most < (IntKind.wrap .i64 r.1)) then
 lt (r01_In_Fail r.2 5) fun r1 =>
 r1
 else r.2)) (fun x =>
 lt (r01_In_Raw x (IntKind.wrap .i64 r.1)) fun r2 =>
 (r2.1, r2.2)))
end Go.SW.V
namespace Go.SW.V
open Go.SW
theorem rw_Text (i : RIn) (n : Int) : RW i → RW (r01_In_Text i n).2 := fun h => by
  simp only [r01_In_Text, lt1, lt, Bool.cond_eq_ite]
  refine rw_Raw _ _ ?_
  split
  · exact rw_Fail _ _ (rw_Num _ _ h)
  · exact rw_Num _ _ h
end Go.SW.V
set_option linter.unusedVariables false
set_option maxRecDepth 100000
namespace Go.SW.V
open Go.SW
def r09_Read_l0 (r : Int × RIn) : Nat → List Pair → Nat → RIn → (List Pair) × RIn
  | 0, _, _, _ => default
  | f2 + 1, h_1, k, x => (bif ((decide ((k : Int) < (IntKind.wrap .i64 r.1))) && (decide (x.code = 0))) then
 lt (r01_In_Text x 16) fun r2 =>
 lt (r01_In_Num r2.2 1) fun r3 =>
 (bif decide ((IntKind.wrap .u8 r3.1) = 0) then
 lt (r01_In_Num r3.2 8) fun r4 =>
 (bif decide (r4.2.code = 0) then
 lt (r01_In_Fail r4.2 (pairErr (⟨r2.1, (IntKind.wrap .u8 r3.1), (IntKind.wrap .i64 r4.1), []⟩ : Pair) h_1)) fun r5 =>
 r09_Read_l0 r f2 (h_1 ++ [(⟨r2.1, (IntKind.wrap .u8 r3.1), (IntKind.wrap .i64 r4.1), []⟩ : Pair)]) (k + 1) r5
 else r09_Read_l0 r f2 (h_1 ++ [(⟨r2.1, (IntKind.wrap .u8 r3.1), (IntKind.wrap .i64 r4.1), []⟩ : Pair)]) (k + 1) r4.2)
 else (bif decide ((IntKind.wrap .u8 r3.1) = 1) then
 lt (r01_In_Text r3.2 64) fun r6 =>
 (bif decide (r6.2.code = 0) then
 lt (r01_In_Fail r6.2 (pairErr (⟨r2.1, (IntKind.wrap .u8 r3.1), 0, r6.1⟩ : Pair) h_1)) fun r7 =>
 r09_Read_l0 r f2 (h_1 ++ [(⟨r2.1, (IntKind.wrap .u8 r3.1), 0, r6.1⟩ : Pair)]) (k + 1) r7
 else r09_Read_l0 r f2 (h_1 ++ [(⟨r2.1, (IntKind.wrap .u8 r3.1), 0, r6.1⟩ : Pair)]) (k + 1) r6.2)
 else (bif decide ((IntKind.wrap .u8 r3.1) = 2) then
 lt (r01_In_Num r3.2 1) fun r8 =>
 (bif decide (r8.2.code = 0) then
 lt (r01_In_Fail r8.2 (pairErr (⟨r2.1, (IntKind.wrap .u8 r3.1), (IntKind.wrap .i64 r8.1), []⟩ : Pair) h_1)) fun r9 =>
 r09_Read_l0 r f2 (h_1 ++ [(⟨r2.1, (IntKind.wrap .u8 r3.1), (IntKind.wrap .i64 r8.1), []⟩ : Pair)]) (k + 1) r9
 else r09_Read_l0 r f2 (h_1 ++ [(⟨r2.1, (IntKind.wrap .u8 r3.1), (IntKind.wrap .i64 r8.1), []⟩ : Pair)]) (k + 1) r8.2)
 else lt (r01_In_Fail r3.2 8) fun r10 =>
 (bif decide (r10.code = 0) then
 lt (r01_In_Fail r10 (pairErr (⟨r2.1, (IntKind.wrap .u8 r3.1), 0, []⟩ : Pair) h_1)) fun r11 =>
 r09_Read_l0 r f2 (h_1 ++ [(⟨r2.1, (IntKind.wrap .u8 r3.1), 0, []⟩ : Pair)]) (k + 1) r11
 else r09_Read_l0 r f2 (h_1 ++ [(⟨r2.1, (IntKind.wrap .u8 r3.1), 0, []⟩ : Pair)]) (k + 1) r10))))
 else (bif !decide (x.code = 0) then
 ([], x)
 else (h_1, x)))
def r09_Read_l1 (r : Int × RIn) : Nat → List Pair → Nat → RIn → (List Pair) × RIn
  | 0, _, _, _ => default
  | f5 + 1, h_2, k1, x1 => (bif ((decide ((k1 : Int) < (IntKind.wrap .i64 r.1))) && (decide (x1.code = 0))) then
 lt (r01_In_Text x1 16) fun r12 =>
 lt (r01_In_Num r12.2 1) fun r13 =>
 (bif decide ((IntKind.wrap .u8 r13.1) = 0) then
 lt (r01_In_Num r13.2 8) fun r14 =>
 (bif decide (r14.2.code = 0) then
 lt (r01_In_Fail r14.2 (pairErr (⟨r12.1, (IntKind.wrap .u8 r13.1), (IntKind.wrap .i64 r14.1), []⟩ : Pair) h_2)) fun r15 =>
 r09_Read_l1 r f5 (h_2 ++ [(⟨r12.1, (IntKind.wrap .u8 r13.1), (IntKind.wrap .i64 r14.1), []⟩ : Pair)]) (k1 + 1) r15
 else r09_Read_l1 r f5 (h_2 ++ [(⟨r12.1, (IntKind.wrap .u8 r13.1), (IntKind.wrap .i64 r14.1), []⟩ : Pair)]) (k1 + 1) r14.2)
 else (bif decide ((IntKind.wrap .u8 r13.1) = 1) then
 lt (r01_In_Text r13.2 64) fun r16 =>
 (bif decide (r16.2.code = 0) then
 lt (r01_In_Fail r16.2 (pairErr (⟨r12.1, (IntKind.wrap .u8 r13.1), 0, r16.1⟩ : Pair) h_2)) fun r17 =>
 r09_Read_l1 r f5 (h_2 ++ [(⟨r12.1, (IntKind.wrap .u8 r13.1), 0, r16.1⟩ : Pair)]) (k1 + 1) r17
 else r09_Read_l1 r f5 (h_2 ++ [(⟨r12.1, (IntKind.wrap .u8 r13.1), 0, r16.1⟩ : Pair)]) (k1 + 1) r16.2)
 else (bif decide ((IntKind.wrap .u8 r13.1) = 2) then
 lt (r01_In_Num r13.2 1) fun r18 =>
 (bif decide (r18.2.code = 0) then
 lt (r01_In_Fail r18.2 (pairErr (⟨r12.1, (IntKind.wrap .u8 r13.1), (IntKind.wrap .i64 r18.1), []⟩ : Pair) h_2)) fun r19 =>
 r09_Read_l1 r f5 (h_2 ++ [(⟨r12.1, (IntKind.wrap .u8 r13.1), (IntKind.wrap .i64 r18.1), []⟩ : Pair)]) (k1 + 1) r19
 else r09_Read_l1 r f5 (h_2 ++ [(⟨r12.1, (IntKind.wrap .u8 r13.1), (IntKind.wrap .i64 r18.1), []⟩ : Pair)]) (k1 + 1) r18.2)
 else lt (r01_In_Fail r13.2 8) fun r20 =>
 (bif decide (r20.code = 0) then
 lt (r01_In_Fail r20 (pairErr (⟨r12.1, (IntKind.wrap .u8 r13.1), 0, []⟩ : Pair) h_2)) fun r21 =>
 r09_Read_l1 r f5 (h_2 ++ [(⟨r12.1, (IntKind.wrap .u8 r13.1), 0, []⟩ : Pair)]) (k1 + 1) r21
 else r09_Read_l1 r f5 (h_2 ++ [(⟨r12.1, (IntKind.wrap .u8 r13.1), 0, []⟩ : Pair)]) (k1 + 1) r20))))
 else (bif !decide (x1.code = 0) then
 ([], x1)
 else (h_2, x1)))
def r09_Read (i : RIn) : (List Pair) × RIn :=
 lt (r01_In_Num i 1) fun r =>
 (bif decide (8 < (IntKind.wrap .i64 r.1)) then
 lt (r01_In_Fail r.2 6) fun r1 =>
 r09_Read_l0 r ((IntKind.wrap .i64 r.1).toNat - 0 + 1) [] 0 r1
 else r09_Read_l1 r ((IntKind.wrap .i64 r.1).toNat - 0 + 1) [] 0 r.2)
end Go.SW.V
namespace Go.SW.V
open Go.SW
theorem rw_if {α : Type} {c : Bool} {a b : α × RIn} (h1 : RW a.2) (h2 : RW b.2) : RW (bif c then a else b).2 := by cases c <;> assumption
theorem rw_def : RW (default : List Pair × RIn).2 := ⟨Int.le_refl _, Int.le_refl _⟩
theorem rw_Read0 (r : Int × RIn) : ∀ (f : Nat) (h : List Pair) (k : Nat) (x : RIn), RW x → RW (r09_Read_l0 r f h k x).2
  | 0, _, _, _, _ => rw_def
  | f + 1, h, k, x, hx => by
    rw [r09_Read_l0]
    simp only [lt]
    repeat' with_reducible first | exact hx | apply rw_if | apply rw_Read0 r f | apply rw_Fail | apply rw_Text | apply rw_Num
theorem rw_Read1 (r : Int × RIn) : ∀ (f : Nat) (h : List Pair) (k : Nat) (x : RIn), RW x → RW (r09_Read_l1 r f h k x).2
  | 0, _, _, _, _ => rw_def
  | f + 1, h, k, x, hx => by
    rw [r09_Read_l1]
    simp only [lt]
    repeat' with_reducible first | exact hx | apply rw_if | apply rw_Read1 r f | apply rw_Fail | apply rw_Text | apply rw_Num
theorem rw_Read (i : RIn) : RW i → RW (r09_Read i).2 := fun h => by
  simp only [r09_Read, lt]
  exact rw_if (rw_Read0 _ _ _ _ _ (rw_Fail _ _ (rw_Num _ _ h))) (rw_Read1 _ _ _ _ _ (rw_Num _ _ h))
end Go.SW.V
set_option linter.unusedVariables false
set_option maxRecDepth 100000
namespace Go.SW.V
open Go.SW
def r11_Parse (f : Frame) : Method × Int :=
 (bif decide (20 < f.kind) then
 ((⟨0, 0, [], [], [], [], [], 0, 0, false⟩ : Method), 8)
 else lt (r11_Of f.kind) fun r =>
 (lt2 ((bif r.name then
 lt (r01_In_Text (⟨f.body, 0, 0⟩ : RIn) 16) fun r1 =>
 ((⟨f.channel, f.kind, r1.1, [], [], [], [], 0, 0, false⟩ : Method), r1.2)
 else ((⟨f.channel, f.kind, [], [], [], [], [], 0, 0, false⟩ : Method), (⟨f.body, 0, 0⟩ : RIn)))) (fun x x1 =>
 (lt2 ((bif ((!r.key) && r.n) then
 lt (r01_In_Num x1 8) fun r2 =>
 ((⟨x.channel, x.kind, x.name, x.other, x.key, x.head, x.body, r2.1, x.m, x.yes⟩ : Method), r2.2)
 else (x, x1))) (fun x2 x3 =>
 (lt2 ((bif ((!r.key) && r.m) then
 lt (r01_In_Num x3 8) fun r3 =>
 ((⟨x2.channel, x2.kind, x2.name, x2.other, x2.key, x2.head, x2.body, x2.n, r3.1, x2.yes⟩ : Method), r3.2)
 else (x2, x3))) (fun x4 x5 =>
 (lt2 ((bif r.other then
 lt (r01_In_Text x5 16) fun r4 =>
 ((⟨x4.channel, x4.kind, x4.name, r4.1, x4.key, x4.head, x4.body, x4.n, x4.m, x4.yes⟩ : Method), r4.2)
 else (x4, x5))) (fun x6 x7 =>
 (lt2 ((bif r.key then
 lt (r01_In_Text x7 64) fun r5 =>
 lt (r09_Read r5.2) fun r6 =>
 ((⟨x6.channel, x6.kind, x6.name, x6.other, r5.1, r6.1, x6.body, x6.n, x6.m, x6.yes⟩ : Method), r6.2)
 else (x6, x7))) (fun x8 x9 =>
 (lt2 ((bif r.body then
 lt (r01_In_Num x9 8) fun r7 =>
 lt (r01_In_Text r7.2 256) fun r8 =>
 ((⟨x8.channel, x8.kind, x8.name, x8.other, x8.key, x8.head, r8.1, x8.n, r7.1, x8.yes⟩ : Method), r8.2)
 else (x8, x9))) (fun x10 x11 =>
 (lt2 ((bif r.yes then
 lt (r01_In_Num x11 1) fun r9 =>
 (bif decide (1 < r9.1) then
 lt (r01_In_Fail r9.2 4) fun r10 =>
 ((⟨x10.channel, x10.kind, x10.name, x10.other, x10.key, x10.head, x10.body, x10.n, x10.m, decide (r9.1 = 1)⟩ : Method), r10)
 else ((⟨x10.channel, x10.kind, x10.name, x10.other, x10.key, x10.head, x10.body, x10.n, x10.m, decide (r9.1 = 1)⟩ : Method), r9.2))
 else (x10, x11))) (fun x12 x13 =>
 lt (r01_In_End x13) fun r11 =>
 (lt1 ((bif decide (r11.1 = 0) then
 lt (r11_Check x12) fun r12 =>
 r12
 else r11.1)) (fun e_1 =>
 (bif !decide (e_1 = 0) then
 ((⟨0, 0, [], [], [], [], [], 0, 0, false⟩ : Method), e_1)
 else (x12, 0)))))))))))))))))))
end Go.SW.V
namespace Go.SW.V
open Go.SW
theorem hl_if {α : Type} {c : Bool} {a b : Method × α} (h1 : a.1.head.length ≤ 255) (h2 : b.1.head.length ≤ 255) : (bif c then a else b).1.head.length ≤ 255 := by cases c <;> assumption
theorem of0_len : ∀ (l : List UInt8) (m : Method) (i : In), m.head.length ≤ 255 → (method_Of_l0 l m i).1.head.length ≤ 255
  | [], m, i, h => by
    rw [method_Of_l0]
    simp only [lt]
    repeat' first | apply hl_if | exact h | exact Nat.zero_le _
  | c :: l, m, i, h => by
    have ih := fun m i h => of0_len l m i h
    rw [method_Of_l0]
    simp only [lt]
    repeat' with_reducible first | apply hl_if | apply ih
    all_goals first | exact h | exact headRead_len i
theorem of_len (f : Frame) : (method_Of f).1.head.length ≤ 255 := by
  simp only [method_Of]
  exact hl_if (Nat.zero_le _) (of0_len _ _ _ (Nat.zero_le _))
end Go.SW.V
set_option linter.unusedVariables false
set_option maxRecDepth 100000
namespace Go.SW.V
open Go.SW
def l11_MethodReads (f : Frame) : Bool :=
 (bif decide (600 < (f.body.length : Int)) then
 true
 else lt (method_Of f) fun r =>
 lt (r11_Parse f) fun r1 =>
 lt (l11_To r.1) fun r2 =>
 (bif ((!(r11_Same r2 r1.1)) || (!decide (r.2 = r1.2))) then
 false
 else (bif !decide (r.2 = 0) then
 true
 else lt (method_Method_Frame r.1) fun r3 =>
 ((decide (r3.2 = 0)) && (decide (f = r3.1))))))
end Go.SW.V
namespace Go.Proofs
open Go.Shelf
def Tryz.lays150_ren : Go.Shelf.Ren := ⟨fun | 150 => 110 | 153 => 118 | 152 => 122 | 226 => 123 | 227 => 124 | 228 => 125 | 137 => 127 | 119 => 128 | 224 => 129 | 225 => 130 | 217 => 132 | 266 => 136 | n => n, fun | 9 => 9 | 4 => 4 | 3 => 3 | 5 => 5 | 21 => 21 | 117 => 158 | 116 => 157 | 0 => 0 | 46 => 139 | 124 => 164 | n => n, fun | n => n⟩
theorem Tryz.lays150 : Go.Proofs.Lays.n150 Tryz.prog Tryz.lays150_ren := {
  mixed := by kernel_rfl
  f119 := Tryz.func128.trans (congrArg some (by kernel_rfl))
  f137 := Tryz.func127.trans (congrArg some (by kernel_rfl))
  f150 := Tryz.func110.trans (congrArg some (by kernel_rfl))
  f152 := Tryz.func122.trans (congrArg some (by kernel_rfl))
  f153 := Tryz.func118.trans (congrArg some (by kernel_rfl))
  f217 := Tryz.func132.trans (congrArg some (by kernel_rfl))
  f224 := Tryz.func129.trans (congrArg some (by kernel_rfl))
  f225 := Tryz.func130.trans (congrArg some (by kernel_rfl))
  f226 := Tryz.func123.trans (congrArg some (by kernel_rfl))
  f227 := Tryz.func124.trans (congrArg some (by kernel_rfl))
  f228 := Tryz.func125.trans (congrArg some (by kernel_rfl))
  f266 := Tryz.func136.trans (congrArg some (by kernel_rfl))
  t0 := Tryz.underlying0
  a0 := Tryz.isAgg0
  z0 := Tryz.sizeOf0
  v0 := Tryz.zeroValue0
  t3 := Tryz.underlying3
  a3 := Tryz.isAgg3
  z3 := Tryz.sizeOf3
  v3 := Tryz.zeroValue3
  t4 := Tryz.underlying4
  a4 := Tryz.isAgg4
  z4 := Tryz.sizeOf4
  v4 := Tryz.zeroValue4
  t5 := Tryz.underlying5
  a5 := Tryz.isAgg5
  z5 := Tryz.sizeOf5
  v5 := Tryz.zeroValue5
  t9 := Tryz.underlying9
  a9 := Tryz.isAgg9
  z9 := Tryz.sizeOf9
  v9 := Tryz.zeroValue9
  t21 := Tryz.underlying21
  a21 := Tryz.isAgg21
  z21 := Tryz.sizeOf21
  v21 := Tryz.zeroValue21
  t46 := Tryz.underlying139
  a46 := Tryz.isAgg139
  z46 := Tryz.sizeOf139
  v46 := Tryz.zeroValue139
  t116 := Tryz.underlying157
  a116 := Tryz.isAgg157
  z116 := Tryz.sizeOf157
  t117 := Tryz.underlying158
  a117 := Tryz.isAgg158
  z117 := Tryz.sizeOf158
  v117 := Tryz.zeroValue158
  t124 := Tryz.underlying164
  a124 := Tryz.isAgg164
  z124 := Tryz.sizeOf164
  v124 := Tryz.zeroValue164 }
open Go.RowKit Go.Lib in
theorem Tryz.strings_ContainsAny_laid (s chars : ByteArray) (w : World) (hs : s.size < 4294967281) (hcs : chars.size < 4294967281) (has : ∀ (j : Nat) b, s.data.toList[j]? = some b → b.toNat < 128) (hac : ∀ (j : Nat) b, chars.data.toList[j]? = some b → b.toNat < 128) :
    Calls Tryz.prog 110 #[.string s, .string chars] w fun e w' => e = .returned (.bool (Lib.containsAny s.data.toList chars.data.toList)) ∧ Below w.heap.size w w' := Any.strings_ContainsAny_laid Tryz.lays150 (by kernel_rfl) s chars w hs hcs has hac
end Go.Proofs
namespace Go.SW
open Go.Proofs
theorem strings_ContainsAny (H : Hp) (s cs : Bs) (hs : s.length < 4294967281) (hc : cs.length < 4294967281) (ha : ∀ c ∈ s, c.toNat < 128) (hb : ∀ c ∈ cs, c.toNat < 128) : Pr Tryz.prog 110 #[str s, str cs] H (.bool (hasAny s cs)) := by
  refine pr_below fun w => ?_
  rw [← containsAny_eq]
  exact Tryz.strings_ContainsAny_laid ⟨s.toArray⟩ ⟨cs.toArray⟩ w (by simpa [ByteArray.size] using hs) (by simpa [ByteArray.size] using hc) (fun j b h => ha b (List.mem_of_getElem? h)) (fun j b h => hb b (List.mem_of_getElem? h))
end Go.SW
namespace Go.Proofs
open Go.Shelf
def Tryz.lays146_ren : Go.Shelf.Ren := ⟨fun | 146 => 126 | 221 => 131 | 268 => 133 | 138 => 134 | 143 => 135 | 195 => 137 | 197 => 138 | 218 => 139 | 219 => 140 | 260 => 141 | 217 => 132 | 225 => 130 | 224 => 129 | 267 => 142 | 266 => 136 | 314 => 143 | n => n, fun | 9 => 9 | 31 => 119 | 3 => 3 | 4 => 4 | 0 => 0 | 105 => 167 | 21 => 21 | 5 => 5 | 46 => 139 | 119 => 169 | 139 => 172 | 138 => 171 | 146 => 173 | 51 => 122 | n => n, fun | 1 => 2 | 3 => 3 | 4 => 4 | n => n⟩
theorem Tryz.lays146 : Go.Proofs.Lays.n146 Tryz.prog Tryz.lays146_ren := {
  mixed := by kernel_rfl
  f138 := Tryz.func134.trans (congrArg some (by kernel_rfl))
  f143 := Tryz.func135.trans (congrArg some (by kernel_rfl))
  f146 := Tryz.func126.trans (congrArg some (by kernel_rfl))
  f195 := Tryz.func137.trans (congrArg some (by kernel_rfl))
  f197 := Tryz.func138.trans (congrArg some (by kernel_rfl))
  f217 := Tryz.func132.trans (congrArg some (by kernel_rfl))
  f218 := Tryz.func139.trans (congrArg some (by kernel_rfl))
  f219 := Tryz.func140.trans (congrArg some (by kernel_rfl))
  f221 := Tryz.func131.trans (congrArg some (by kernel_rfl))
  f224 := Tryz.func129.trans (congrArg some (by kernel_rfl))
  f225 := Tryz.func130.trans (congrArg some (by kernel_rfl))
  f260 := Tryz.func141.trans (congrArg some (by kernel_rfl))
  f266 := Tryz.func136.trans (congrArg some (by kernel_rfl))
  f267 := Tryz.func142.trans (congrArg some (by kernel_rfl))
  f268 := Tryz.func133.trans (congrArg some (by kernel_rfl))
  f314 := Tryz.func143.trans (congrArg some (by kernel_rfl))
  t0 := Tryz.underlying0
  a0 := Tryz.isAgg0
  z0 := Tryz.sizeOf0
  v0 := Tryz.zeroValue0
  t3 := Tryz.underlying3
  a3 := Tryz.isAgg3
  z3 := Tryz.sizeOf3
  v3 := Tryz.zeroValue3
  t4 := Tryz.underlying4
  a4 := Tryz.isAgg4
  z4 := Tryz.sizeOf4
  v4 := Tryz.zeroValue4
  t5 := Tryz.underlying5
  a5 := Tryz.isAgg5
  z5 := Tryz.sizeOf5
  v5 := Tryz.zeroValue5
  t9 := Tryz.underlying9
  a9 := Tryz.isAgg9
  z9 := Tryz.sizeOf9
  v9 := Tryz.zeroValue9
  t21 := Tryz.underlying21
  a21 := Tryz.isAgg21
  z21 := Tryz.sizeOf21
  v21 := Tryz.zeroValue21
  t31 := Tryz.underlying119
  a31 := Tryz.isAgg119
  z31 := Tryz.sizeOf119
  v31 := Tryz.zeroValue119
  t46 := Tryz.underlying139
  a46 := Tryz.isAgg139
  z46 := Tryz.sizeOf139
  v46 := Tryz.zeroValue139
  t51 := Tryz.underlying122
  a51 := Tryz.isAgg122
  z51 := Tryz.sizeOf122
  v51 := Tryz.zeroValue122
  t105 := Tryz.underlying167
  a105 := Tryz.isAgg167
  z105 := Tryz.sizeOf167
  v105 := Tryz.zeroValue167
  t119 := Tryz.underlying169
  a119 := Tryz.isAgg169
  z119 := Tryz.sizeOf169
  t138 := Tryz.underlying171
  a138 := Tryz.isAgg171
  z138 := Tryz.sizeOf171
  v138 := Tryz.zeroValue171
  t139 := Tryz.underlying172
  a139 := Tryz.isAgg172
  z139 := Tryz.sizeOf172
  v139 := Tryz.zeroValue172
  t146 := Tryz.underlying173
  a146 := Tryz.isAgg173
  z146 := Tryz.sizeOf173
  v146 := Tryz.zeroValue173
  g1 := by kernel_rfl
  g3 := by kernel_rfl
  g4 := by kernel_rfl }
open Go.RowKit Go.Lib in
theorem Tryz.strings_Split (s sep : ByteArray) (m : Int) (w : World) (hs : s.size < 4294967281) (hm : w.cell? ⟨2, 0, none⟩ = some (.int .i64 m)) (h1 : 1 ≤ sep.size) :
    Calls Tryz.prog 126 #[.string s, .string sep] w fun e w' =>
      e = .returned (.slice (some ⟨w.heap.size, 0, none⟩) (Lib.countB s sep + 1) (Lib.countB s sep + 1)) ∧ w' = w.alloc (.cells ((Lib.splitB sep 0 (Lib.countB s sep) s).map Value.string).toArray 9) := Any.strings_Split Tryz.lays146 (by kernel_rfl) s sep m w hs hm h1
end Go.Proofs
namespace Go.SW
open Go.Proofs
theorem strings_Split (H : Hp) (s p : Bs) (hp : p = [46]) (hML : GInt H 2) (hs : s.length < 4294967281) : Ph Tryz.prog 126 #[str s, str p] H (fun v H' => ∃ (a : Option Addr) (c : Nat), v = .slice a (dots s).length c ∧ SlH strE 1 H' (.slice a (dots s).length c) (dots s)) := by
  subst hp
  refine ph_strs (T := 9) (fun w hw => by have := dots_piece s w hw; omega) fun N L w hm => ?_
  obtain ⟨m, hc⟩ := hML.cell hm
  refine (Tryz.strings_Split ⟨s.toArray⟩ ⟨#[46]⟩ m w (by simpa [ba_size] using hs) hc (by decide)).mono fun e w' ⟨he, hw⟩ => ⟨?_, ?_⟩
  · rw [he, splitB_len]
  · rw [hw, splitB_dots]
end Go.SW
set_option linter.unusedVariables false
set_option maxRecDepth 100000
set_option maxHeartbeats 4000000
namespace Go.SW
open Go.Proofs
theorem ag39 : Ag Tryz.prog 39 false := fun w => by kernel_rfl
theorem ag76 : Ag Tryz.prog 76 false := fun w => by kernel_rfl
theorem ag9 : Ag Tryz.prog 9 false := fun w => by kernel_rfl
theorem bd126_0s (a1 : Bs) (w : World) : (Instr.build 126 #[(0, str a1)]).run Tryz.prog w = .ok (.agg #[str a1, .int .i64 0]) w := by kernel_rfl
theorem cb77 : Callable Tryz.prog 77 := callable_of Tryz.func77 (by kernel_rfl) (by kernel_rfl)
theorem cb81 : Callable Tryz.prog 81 := callable_of Tryz.func81 (by kernel_rfl) (by kernel_rfl)
theorem cb82 : Callable Tryz.prog 82 := callable_of Tryz.func82 (by kernel_rfl) (by kernel_rfl)
theorem cb84 : Callable Tryz.prog 84 := callable_of Tryz.func84 (by kernel_rfl) (by kernel_rfl)
theorem fl126_0 : Fld Tryz.prog 126 0 0 := fun b o w => by kernel_rfl
theorem fl126_1 : Fld Tryz.prog 126 1 1 := fun b o w => by kernel_rfl
theorem fl79_0 : Fld Tryz.prog 79 0 0 := fun b o w => by kernel_rfl
theorem la79_79 : liesAt Tryz.prog Tryz.prog.depth 79 (2 / Tryz.prog.cellsOf 79) 0 79 1 = true := by kernel_rfl
theorem ne100 : NoEsc Tryz.prog 100 := noEsc_of Tryz.func100 (by kernel_rfl) (by kernel_rfl) (by kernel_rfl) (by kernel_rfl)
theorem sz39 : Sz Tryz.prog 39 1 := fun w => by kernel_rfl
theorem sz76 : Sz Tryz.prog 76 1 := fun w => by kernel_rfl
theorem sz9 : Sz Tryz.prog 9 1 := fun w => by kernel_rfl
theorem ti79 : ∃ j, Tryz.prog.info? 79 = some j := Option.isSome_iff_exists.1 (by kernel_rfl)
theorem tz79 : ∃ j, Tryz.prog.info? 79 = some j ∧ j.size ≠ 0 := exInfo (by kernel_rfl)
theorem r4_letter (H : Hp) (c : Int) (c_r : 0 ≤ c ∧ c ≤ 255) : Pr Tryz.prog 73 #[.int .u8 c] H (.bool (letter c)) := by
  refine pr_cw Tryz.func73 rfl Tryz.ntmps73 rfl (fun N => ?_)
  refine cw_seq (cw_region (oab rfl rfl (ow_nil (seqK_n (cw_seq ?_)))))
  refine cw_region (omi rfl rfl (ol rfl (lo_geq rfl rfl) (omb rfl rfl (ow_sp (j := 2) rfl (fun h1 => ?_) (fun h1 => ?_)))))
  · have p2 := dt h1
    refine ow1 (op1_g rfl h1 rfl (lo_move (v := .int _ _) rfl) ?_)
    refine ow1 (op1_g rfl h1 rfl (lo_leq rfl rfl) ?_)
    refine ol rfl (lo_pick_t (v := .bool _) rfl h1 rfl) (omb rfl rfl (ow_sp (j := 6) rfl (fun h3 => ?_) (fun h3 => ?_)))
    · have p4 := dt h3
      refine og rfl h3 rfl (og rfl h3 rfl (og rfl h3 rfl ?_))
      refine ow1 (op1_gx (j := 9) rfl rfl ?_)
      refine ow1 (op1_gx (j := 9) rfl rfl ?_)
      refine og rfl h3 rfl (ol rfl (lo_pick_t (v := .bool _) rfl h3 rfl) (omb rfl rfl (og rfl rfl rfl (og rfl rfl rfl (ol rfl (lo_pick_t (v := .bool _) rfl rfl rfl) ?_)))))
      refine omb rfl rfl (og rfl rfl rfl (og rfl rfl rfl (ol rfl (lo_pick_t (v := .bool _) rfl rfl rfl) (oab rfl rfl (ow_nil ?_)))))
      refine seqK_n (cw_ret (fnK_r (res1 rfl (rv_t (v := .bool _) rfl)) (.refl _) ?_))
      simp [letter, *]
    have p5 := df h3
    refine ow1 (op1_g rfl h3 rfl (lo_move (v := .int _ _) rfl) ?_)
    refine ow1 (op1_g rfl h3 rfl (lo_geq rfl rfl) ?_)
    refine ow1 (op1_g rfl h3 rfl (lo_move (v := .bool _) rfl) ?_)
    refine ow_sp (j := 9) rfl (fun h6 => ?_) (fun h6 => ?_)
    · have p7 := dt h6
      refine ow1 (op1_g rfl h6 rfl (lo_move (v := .int _ _) rfl) ?_)
      refine ow1 (op1_g rfl h6 rfl (lo_leq rfl rfl) ?_)
      refine ow1 (op1_g rfl h3 rfl (lo_pick_t (v := .bool _) rfl h6 rfl) ?_)
      refine ol rfl (lo_pick_f (v := .bool _) rfl h3 rfl) (omb rfl rfl (ow_sp (j := 14) rfl (fun h8 => ?_) (fun h8 => ?_)))
      · have p9 := dt h8
        refine og rfl h8 rfl (og rfl h8 rfl (ol rfl (lo_pick_t (v := .bool _) rfl h8 rfl) (omb rfl rfl (og rfl rfl rfl (og rfl rfl rfl ?_)))))
        refine ol rfl (lo_pick_t (v := .bool _) rfl rfl rfl) (oab rfl rfl (ow_nil (seqK_n (cw_ret (fnK_r (res1 rfl (rv_t (v := .bool _) rfl)) (.refl _) ?_)))))
        simp [letter, *]
      have p10 := df h8
      refine ow1 (op1_g rfl h8 rfl (lo_move (v := .int _ _) rfl) ?_)
      refine ow1 (op1_g rfl h8 rfl (lo_eql rfl rfl) ?_)
      refine ol rfl (lo_pick_f (v := .bool _) rfl h8 rfl) (omb rfl rfl (ow_sp (j := 18) rfl (fun h11 => ?_) (fun h11 => ?_)))
      · have p12 := dt h11
        refine og rfl h11 rfl (og rfl h11 rfl (ol rfl (lo_pick_t (v := .bool _) rfl h11 rfl) (oab rfl rfl (ow_nil (seqK_n ?_)))))
        refine cw_ret (fnK_r (res1 rfl (rv_t (v := .bool _) rfl)) (.refl _) ?_)
        simp [letter, *]
      have p13 := df h11
      refine ow1 (op1_g rfl h11 rfl (lo_move (v := .int _ _) rfl) ?_)
      refine ow1 (op1_g rfl h11 rfl (lo_eql rfl rfl) ?_)
      refine ol rfl (lo_pick_f (v := .bool _) rfl h11 rfl) (oab rfl rfl (ow_nil (seqK_n (cw_ret (fnK_r (res1 rfl (rv_t (v := .bool _) rfl)) (.refl _) ?_)))))
      simp [letter, *]
    have p14 := df h6
    refine og rfl h6 rfl (og rfl h6 rfl ?_)
    refine ow1 (op1_g rfl h3 rfl (lo_pick_f (v := .bool _) rfl h6 rfl) ?_)
    refine ol rfl (lo_pick_f (v := .bool _) rfl h3 rfl) (omb rfl rfl ?_)
    refine ow1 (op1_g rfl rfl rfl (lo_move (v := .int _ _) rfl) ?_)
    refine ow1 (op1_g rfl rfl rfl (lo_eql rfl rfl) ?_)
    refine ol rfl (lo_pick_f (v := .bool _) rfl rfl rfl) (omb rfl rfl (ow_sp (j := 18) rfl (fun h15 => ?_) (fun h15 => ?_)))
    · have p16 := dt h15
      refine og rfl h15 rfl (og rfl h15 rfl (ol rfl (lo_pick_t (v := .bool _) rfl h15 rfl) (oab rfl rfl (ow_nil (seqK_n ?_)))))
      refine cw_ret (fnK_r (res1 rfl (rv_t (v := .bool _) rfl)) (.refl _) ?_)
      simp [letter, *]
    have p17 := df h15
    refine ow1 (op1_g rfl h15 rfl (lo_move (v := .int _ _) rfl) ?_)
    refine ow1 (op1_g rfl h15 rfl (lo_eql rfl rfl) ?_)
    refine ol rfl (lo_pick_f (v := .bool _) rfl h15 rfl) (oab rfl rfl (ow_nil (seqK_n (cw_ret (fnK_r (res1 rfl (rv_t (v := .bool _) rfl)) (.refl _) ?_)))))
    simp [letter, *]
  have p18 := df h1
  refine og rfl h1 rfl (og rfl h1 rfl (ol rfl (lo_pick_f (v := .bool _) rfl h1 rfl) (omb rfl rfl ?_)))
  refine ow1 (op1_g rfl rfl rfl (lo_move (v := .int _ _) rfl) ?_)
  refine ow1 (op1_g rfl rfl rfl (lo_geq rfl rfl) ?_)
  refine ow1 (op1_g rfl rfl rfl (lo_move (v := .bool _) rfl) ?_)
  refine ow_sp (j := 9) rfl (fun h19 => ?_) (fun h19 => ?_)
  · have p20 := dt h19
    refine ow1 (op1_g rfl h19 rfl (lo_move (v := .int _ _) rfl) ?_)
    refine ow1 (op1_g rfl h19 rfl (lo_leq rfl rfl) ?_)
    refine ow1 (op1_g rfl rfl rfl (lo_pick_t (v := .bool _) rfl h19 rfl) ?_)
    refine ol rfl (lo_pick_f (v := .bool _) rfl rfl rfl) (omb rfl rfl (ow_sp (j := 14) rfl (fun h21 => ?_) (fun h21 => ?_)))
    · have p22 := dt h21
      refine og rfl h21 rfl (og rfl h21 rfl (ol rfl (lo_pick_t (v := .bool _) rfl h21 rfl) (omb rfl rfl (og rfl rfl rfl (og rfl rfl rfl ?_)))))
      refine ol rfl (lo_pick_t (v := .bool _) rfl rfl rfl) (oab rfl rfl (ow_nil (seqK_n (cw_ret (fnK_r (res1 rfl (rv_t (v := .bool _) rfl)) (.refl _) ?_)))))
      simp [letter, *]
    have p23 := df h21
    refine ow1 (op1_g rfl h21 rfl (lo_move (v := .int _ _) rfl) ?_)
    refine ow1 (op1_g rfl h21 rfl (lo_eql rfl rfl) ?_)
    refine ol rfl (lo_pick_f (v := .bool _) rfl h21 rfl) (omb rfl rfl (ow_sp (j := 18) rfl (fun h24 => ?_) (fun h24 => ?_)))
    · have p25 := dt h24
      refine og rfl h24 rfl (og rfl h24 rfl (ol rfl (lo_pick_t (v := .bool _) rfl h24 rfl) (oab rfl rfl (ow_nil (seqK_n ?_)))))
      refine cw_ret (fnK_r (res1 rfl (rv_t (v := .bool _) rfl)) (.refl _) ?_)
      simp [letter, *]
    have p26 := df h24
    refine ow1 (op1_g rfl h24 rfl (lo_move (v := .int _ _) rfl) ?_)
    refine ow1 (op1_g rfl h24 rfl (lo_eql rfl rfl) ?_)
    refine ol rfl (lo_pick_f (v := .bool _) rfl h24 rfl) (oab rfl rfl (ow_nil (seqK_n (cw_ret (fnK_r (res1 rfl (rv_t (v := .bool _) rfl)) (.refl _) ?_)))))
    simp [letter, *]
  have p27 := df h19
  refine og rfl h19 rfl (og rfl h19 rfl ?_)
  refine ow1 (op1_g rfl rfl rfl (lo_pick_f (v := .bool _) rfl h19 rfl) ?_)
  refine ol rfl (lo_pick_f (v := .bool _) rfl rfl rfl) (omb rfl rfl ?_)
  refine ow1 (op1_g rfl rfl rfl (lo_move (v := .int _ _) rfl) ?_)
  refine ow1 (op1_g rfl rfl rfl (lo_eql rfl rfl) ?_)
  refine ol rfl (lo_pick_f (v := .bool _) rfl rfl rfl) (omb rfl rfl (ow_sp (j := 18) rfl (fun h28 => ?_) (fun h28 => ?_)))
  · have p29 := dt h28
    refine og rfl h28 rfl (og rfl h28 rfl (ol rfl (lo_pick_t (v := .bool _) rfl h28 rfl) (oab rfl rfl (ow_nil (seqK_n ?_)))))
    refine cw_ret (fnK_r (res1 rfl (rv_t (v := .bool _) rfl)) (.refl _) ?_)
    simp [letter, *]
  have p30 := df h28
  refine ow1 (op1_g rfl h28 rfl (lo_move (v := .int _ _) rfl) ?_)
  refine ow1 (op1_g rfl h28 rfl (lo_eql rfl rfl) ?_)
  refine ol rfl (lo_pick_f (v := .bool _) rfl h28 rfl) (oab rfl rfl (ow_nil (seqK_n (cw_ret (fnK_r (res1 rfl (rv_t (v := .bool _) rfl)) (.refl _) ?_)))))
  simp [letter, *]
theorem words_plain (H : Hp) (s : Bs) (hs : s.length ≤ 9223372036854775807) : Pr Tryz.prog 106 #[str s] H (.bool (plain s)) := by
  refine pr_cw Tryz.func106 rfl Tryz.ntmps106 rfl (fun N => ?_)
  refine cw_seq (cw_region (oab rfl rfl (ow_nil (seqK_n (cw_seq ?_)))))
  refine cw_seq (cw_region (ol rfl (lo_move (v := str _) rfl) (ol rfl (lo_len_str rfl Tryz.underlying9) (omi rfl rfl (ow_nil ?_)))))
  refine seqK_n (cw_block (cw_loop1 [2, 3, 4, 7, 8, 9, 10, 11, 12, 13, 14, 15, 16, 17, 18, 19, 20, 21, 22, 23, 24, 25, 26, 27, 28, 29, 30] [] (fun (k : Nat) G => upd (G) 7 (.int .i64 (k : Int))) (fun (k : Nat) G => G) (fun (k : Nat) H' => k ≤ s.length ∧ (s.drop k).all (fun c => letter c.toNat) = plain s) (fun (k : Nat) => s.length - k) 0 (upd_intro (mask_intro (by first | exact off_refl | (repeat (first | exact off_mask | refine off_upd rfl ?_ | refine off_mask2 rfl ?_)))) rfl) (lmask_intro offl_refl) ?_ ?_))
  · exact ⟨by omega, rfl⟩
  intro k J2 JL2 H2 hp1 hl2
  obtain ⟨hk1, hk2⟩ := hp1
  refine cw_seq (cw_region (ol rfl (lo_lss rfl rfl) (ow_nil (seqK_n (cw_seq ?_)))))
  refine cw_cond rfl (fun h3 => ?_) (fun h3 => ?_)
  · have p4 := dt h3
    refine cw_skip (seqK_n (cw_seq (cw_block (cw_seq (cw_region ?_)))))
    refine omi rfl rfl (oai rfl rfl (ow_nil (seqK_n (cw_seq (cw_region ?_)))))
    refine ol rfl (lo_move (v := str _) rfl) (omi rfl rfl ?_)
    have := u8r (s.getD k 0)
    refine ol rfl (lo_index_str k rfl rfl Tryz.underlying9 (by omega) (by omega)) (oai rfl rfl (ow_nil (seqK_n (cw_block (cw_seq ?_)))))
    refine cw_seq (cw_region (omi rfl rfl (ol rfl (lo_geq rfl rfl) (omb rfl rfl (ow_sp (j := 2) rfl (fun h5 => ?_) (fun h5 => ?_))))))
    · have p6 := dt h5
      refine ow1 (op1_g rfl h5 rfl (lo_move (v := .int _ _) rfl) ?_)
      refine ow1 (op1_g rfl h5 rfl (lo_leq rfl rfl) ?_)
      refine ol rfl (lo_pick_t (v := .bool _) rfl h5 rfl) (oab rfl rfl (ow_nil (seqK_n (cw_cond rfl (fun h7 => ?_) (fun h7 => ?_)))))
      · have p8 := dt h7
        refine cw_skip (seqK_n (cw_cond_t rfl h7 (cw_skip (blkK_n (blkK_n ?_)))))
        refine seqK_n (cw_region (ol rfl (lo_add rfl rfl (rg_i64 (by omega))) (omi rfl rfl (ow_nil ?_))))
        refine next1 (k + 1) (upd_intro (mask_intro (by first | exact off_refl | (repeat (first | exact off_mask | refine off_upd rfl ?_ | refine off_mask2 rfl ?_)))) rfl) (lmask_intro (by first | exact offl_refl | (repeat (first | exact offl_mask | refine offl_upd rfl ?_ | refine offl_mask2 rfl ?_)))) hl2 ?_ ?_
        · exact ⟨by omega, by rw [← hk2, drop_getD (k := k) (by omega), List.all_cons]; generalize ((s.getD k 0).toNat : Int) = z at *; simp [letter, *]⟩
        omega
      have p9 := df h7
      refine cw_seq (cw_region (omi rfl rfl (ol rfl (lo_geq rfl rfl) (omb rfl rfl (ow_sp (j := 2) rfl (fun h10 => ?_) (fun h10 => ?_))))))
      · have p11 := dt h10
        refine ow1 (op1_g rfl h10 rfl (lo_move (v := .int _ _) rfl) ?_)
        refine ow1 (op1_g rfl h10 rfl (lo_leq rfl rfl) ?_)
        refine ol rfl (lo_pick_t (v := .bool _) rfl h10 rfl) (oab rfl rfl (ow_nil (seqK_n (cw_cond rfl (fun h12 => ?_) (fun h12 => ?_)))))
        · have p13 := dt h12
          refine cw_skip (seqK_n (cw_cond_t rfl h12 (cw_skip (blkK_n (blkK_n ?_)))))
          refine seqK_n (cw_region (ol rfl (lo_add rfl rfl (rg_i64 (by omega))) (omi rfl rfl (ow_nil ?_))))
          refine next1 (k + 1) (upd_intro (mask_intro (by first | exact off_refl | (repeat (first | exact off_mask | refine off_upd rfl ?_ | refine off_mask2 rfl ?_)))) rfl) (lmask_intro (by first | exact offl_refl | (repeat (first | exact offl_mask | refine offl_upd rfl ?_ | refine offl_mask2 rfl ?_)))) hl2 ?_ ?_
          · exact ⟨by omega, by rw [← hk2, drop_getD (k := k) (by omega), List.all_cons]; generalize ((s.getD k 0).toNat : Int) = z at *; simp [letter, *]⟩
          omega
        have p14 := df h12
        refine cw_seq (cw_region (omi rfl rfl (ol rfl (lo_eql rfl rfl) (oab rfl rfl (ow_nil ?_)))))
        refine seqK_n (cw_cond rfl (fun h15 => ?_) (fun h15 => ?_))
        · have p16 := dt h15
          refine cw_skip (seqK_n (cw_cond_t rfl h15 (cw_skip (blkK_n (blkK_n ?_)))))
          refine seqK_n (cw_region (ol rfl (lo_add rfl rfl (rg_i64 (by omega))) (omi rfl rfl (ow_nil ?_))))
          refine next1 (k + 1) (upd_intro (mask_intro (by first | exact off_refl | (repeat (first | exact off_mask | refine off_upd rfl ?_ | refine off_mask2 rfl ?_)))) rfl) (lmask_intro (by first | exact offl_refl | (repeat (first | exact offl_mask | refine offl_upd rfl ?_ | refine offl_mask2 rfl ?_)))) hl2 ?_ ?_
          · exact ⟨by omega, by rw [← hk2, drop_getD (k := k) (by omega), List.all_cons]; generalize ((s.getD k 0).toNat : Int) = z at *; simp [letter, *]⟩
          omega
        have p17 := df h15
        refine cw_region (omi rfl rfl (ol rfl (lo_eql rfl rfl) (oab rfl rfl (ow_nil (seqK_n ?_)))))
        refine cw_cond rfl (fun h18 => ?_) (fun h18 => ?_)
        · have p19 := dt h18
          refine cw_skip (blkK_n (blkK_n (seqK_n (cw_region (ol rfl (lo_add rfl rfl (rg_i64 (by omega))) ?_)))))
          refine omi rfl rfl (ow_nil ?_)
          refine next1 (k + 1) (upd_intro (mask_intro (by first | exact off_refl | (repeat (first | exact off_mask | refine off_upd rfl ?_ | refine off_mask2 rfl ?_)))) rfl) (lmask_intro (by first | exact offl_refl | (repeat (first | exact offl_mask | refine offl_upd rfl ?_ | refine offl_mask2 rfl ?_)))) hl2 ?_ ?_
          · exact ⟨by omega, by rw [← hk2, drop_getD (k := k) (by omega), List.all_cons]; generalize ((s.getD k 0).toNat : Int) = z at *; simp [letter, *]⟩
          omega
        have p20 := df h18
        refine cw_seq (cw_region (oab rfl rfl (ow_nil (seqK_n (cw_ret ?_)))))
        refine blkK_r (blkK_r (seqK_r (loopK_r (blkK_r (seqK_r ?_)))))
        refine fnK_r (res1 rfl (rv_t (v := .bool _) rfl)) ((HLe.refl _).trans hl2) ?_
        first | (rw [← hk2, drop_getD (k := k) (by omega), List.all_cons]; generalize ((s.getD k 0).toNat : Int) = z at *; simp [letter, *]; done) | (rw [← hk2, List.drop_of_length_le (by omega)]; rfl)
      have p21 := df h10
      refine og rfl h10 rfl (og rfl h10 rfl (ol rfl (lo_pick_f (v := .bool _) rfl h10 rfl) (oab rfl rfl (ow_nil (seqK_n ?_)))))
      refine cw_cond_f rfl rfl (cw_seq (cw_region (omi rfl rfl (ol rfl (lo_eql rfl rfl) (oab rfl rfl ?_)))))
      refine ow_nil (seqK_n (cw_cond rfl (fun h22 => ?_) (fun h22 => ?_)))
      · have p23 := dt h22
        refine cw_skip (seqK_n (cw_cond_t rfl h22 (cw_skip (blkK_n (blkK_n ?_)))))
        refine seqK_n (cw_region (ol rfl (lo_add rfl rfl (rg_i64 (by omega))) (omi rfl rfl (ow_nil ?_))))
        refine next1 (k + 1) (upd_intro (mask_intro (by first | exact off_refl | (repeat (first | exact off_mask | refine off_upd rfl ?_ | refine off_mask2 rfl ?_)))) rfl) (lmask_intro (by first | exact offl_refl | (repeat (first | exact offl_mask | refine offl_upd rfl ?_ | refine offl_mask2 rfl ?_)))) hl2 ?_ ?_
        · exact ⟨by omega, by rw [← hk2, drop_getD (k := k) (by omega), List.all_cons]; generalize ((s.getD k 0).toNat : Int) = z at *; simp [letter, *]⟩
        omega
      have p24 := df h22
      refine cw_region (omi rfl rfl (ol rfl (lo_eql rfl rfl) (oab rfl rfl (ow_nil (seqK_n ?_)))))
      refine cw_cond rfl (fun h25 => ?_) (fun h25 => ?_)
      · have p26 := dt h25
        refine cw_skip (blkK_n (blkK_n (seqK_n (cw_region (ol rfl (lo_add rfl rfl (rg_i64 (by omega))) ?_)))))
        refine omi rfl rfl (ow_nil ?_)
        refine next1 (k + 1) (upd_intro (mask_intro (by first | exact off_refl | (repeat (first | exact off_mask | refine off_upd rfl ?_ | refine off_mask2 rfl ?_)))) rfl) (lmask_intro (by first | exact offl_refl | (repeat (first | exact offl_mask | refine offl_upd rfl ?_ | refine offl_mask2 rfl ?_)))) hl2 ?_ ?_
        · exact ⟨by omega, by rw [← hk2, drop_getD (k := k) (by omega), List.all_cons]; generalize ((s.getD k 0).toNat : Int) = z at *; simp [letter, *]⟩
        omega
      have p27 := df h25
      refine cw_seq (cw_region (oab rfl rfl (ow_nil (seqK_n (cw_ret ?_)))))
      refine blkK_r (blkK_r (seqK_r (loopK_r (blkK_r (seqK_r ?_)))))
      refine fnK_r (res1 rfl (rv_t (v := .bool _) rfl)) ((HLe.refl _).trans hl2) ?_
      first | (rw [← hk2, drop_getD (k := k) (by omega), List.all_cons]; generalize ((s.getD k 0).toNat : Int) = z at *; simp [letter, *]; done) | (rw [← hk2, List.drop_of_length_le (by omega)]; rfl)
    have p28 := df h5
    refine og rfl h5 rfl (og rfl h5 rfl (ol rfl (lo_pick_f (v := .bool _) rfl h5 rfl) (oab rfl rfl (ow_nil (seqK_n ?_)))))
    refine cw_cond_f rfl rfl (cw_seq (cw_region (omi rfl rfl (ol rfl (lo_geq rfl rfl) (omb rfl rfl ?_)))))
    refine ow_sp (j := 2) rfl (fun h29 => ?_) (fun h29 => ?_)
    · have p30 := dt h29
      refine ow1 (op1_g rfl h29 rfl (lo_move (v := .int _ _) rfl) ?_)
      refine ow1 (op1_g rfl h29 rfl (lo_leq rfl rfl) ?_)
      refine ol rfl (lo_pick_t (v := .bool _) rfl h29 rfl) (oab rfl rfl (ow_nil (seqK_n (cw_cond rfl (fun h31 => ?_) (fun h31 => ?_)))))
      · have p32 := dt h31
        refine cw_skip (seqK_n (cw_cond_t rfl h31 (cw_skip (blkK_n (blkK_n ?_)))))
        refine seqK_n (cw_region (ol rfl (lo_add rfl rfl (rg_i64 (by omega))) (omi rfl rfl (ow_nil ?_))))
        refine next1 (k + 1) (upd_intro (mask_intro (by first | exact off_refl | (repeat (first | exact off_mask | refine off_upd rfl ?_ | refine off_mask2 rfl ?_)))) rfl) (lmask_intro (by first | exact offl_refl | (repeat (first | exact offl_mask | refine offl_upd rfl ?_ | refine offl_mask2 rfl ?_)))) hl2 ?_ ?_
        · exact ⟨by omega, by rw [← hk2, drop_getD (k := k) (by omega), List.all_cons]; generalize ((s.getD k 0).toNat : Int) = z at *; simp [letter, *]⟩
        omega
      have p33 := df h31
      refine cw_seq (cw_region (omi rfl rfl (ol rfl (lo_eql rfl rfl) (oab rfl rfl (ow_nil ?_)))))
      refine seqK_n (cw_cond rfl (fun h34 => ?_) (fun h34 => ?_))
      · have p35 := dt h34
        refine cw_skip (seqK_n (cw_cond_t rfl h34 (cw_skip (blkK_n (blkK_n ?_)))))
        refine seqK_n (cw_region (ol rfl (lo_add rfl rfl (rg_i64 (by omega))) (omi rfl rfl (ow_nil ?_))))
        refine next1 (k + 1) (upd_intro (mask_intro (by first | exact off_refl | (repeat (first | exact off_mask | refine off_upd rfl ?_ | refine off_mask2 rfl ?_)))) rfl) (lmask_intro (by first | exact offl_refl | (repeat (first | exact offl_mask | refine offl_upd rfl ?_ | refine offl_mask2 rfl ?_)))) hl2 ?_ ?_
        · exact ⟨by omega, by rw [← hk2, drop_getD (k := k) (by omega), List.all_cons]; generalize ((s.getD k 0).toNat : Int) = z at *; simp [letter, *]⟩
        omega
      have p36 := df h34
      refine cw_region (omi rfl rfl (ol rfl (lo_eql rfl rfl) (oab rfl rfl (ow_nil (seqK_n ?_)))))
      refine cw_cond rfl (fun h37 => ?_) (fun h37 => ?_)
      · have p38 := dt h37
        refine cw_skip (blkK_n (blkK_n (seqK_n (cw_region (ol rfl (lo_add rfl rfl (rg_i64 (by omega))) ?_)))))
        refine omi rfl rfl (ow_nil ?_)
        refine next1 (k + 1) (upd_intro (mask_intro (by first | exact off_refl | (repeat (first | exact off_mask | refine off_upd rfl ?_ | refine off_mask2 rfl ?_)))) rfl) (lmask_intro (by first | exact offl_refl | (repeat (first | exact offl_mask | refine offl_upd rfl ?_ | refine offl_mask2 rfl ?_)))) hl2 ?_ ?_
        · exact ⟨by omega, by rw [← hk2, drop_getD (k := k) (by omega), List.all_cons]; generalize ((s.getD k 0).toNat : Int) = z at *; simp [letter, *]⟩
        omega
      have p39 := df h37
      refine cw_seq (cw_region (oab rfl rfl (ow_nil (seqK_n (cw_ret ?_)))))
      refine blkK_r (blkK_r (seqK_r (loopK_r (blkK_r (seqK_r ?_)))))
      refine fnK_r (res1 rfl (rv_t (v := .bool _) rfl)) ((HLe.refl _).trans hl2) ?_
      first | (rw [← hk2, drop_getD (k := k) (by omega), List.all_cons]; generalize ((s.getD k 0).toNat : Int) = z at *; simp [letter, *]; done) | (rw [← hk2, List.drop_of_length_le (by omega)]; rfl)
    have p40 := df h29
    refine og rfl h29 rfl (og rfl h29 rfl (ol rfl (lo_pick_f (v := .bool _) rfl h29 rfl) (oab rfl rfl (ow_nil (seqK_n ?_)))))
    refine cw_cond_f rfl rfl (cw_seq (cw_region (omi rfl rfl (ol rfl (lo_eql rfl rfl) (oab rfl rfl ?_)))))
    refine ow_nil (seqK_n (cw_cond rfl (fun h41 => ?_) (fun h41 => ?_)))
    · have p42 := dt h41
      refine cw_skip (seqK_n (cw_cond_t rfl h41 (cw_skip (blkK_n (blkK_n ?_)))))
      refine seqK_n (cw_region (ol rfl (lo_add rfl rfl (rg_i64 (by omega))) (omi rfl rfl (ow_nil ?_))))
      refine next1 (k + 1) (upd_intro (mask_intro (by first | exact off_refl | (repeat (first | exact off_mask | refine off_upd rfl ?_ | refine off_mask2 rfl ?_)))) rfl) (lmask_intro (by first | exact offl_refl | (repeat (first | exact offl_mask | refine offl_upd rfl ?_ | refine offl_mask2 rfl ?_)))) hl2 ?_ ?_
      · exact ⟨by omega, by rw [← hk2, drop_getD (k := k) (by omega), List.all_cons]; generalize ((s.getD k 0).toNat : Int) = z at *; simp [letter, *]⟩
      omega
    have p43 := df h41
    refine cw_region (omi rfl rfl (ol rfl (lo_eql rfl rfl) (oab rfl rfl (ow_nil (seqK_n ?_)))))
    refine cw_cond rfl (fun h44 => ?_) (fun h44 => ?_)
    · have p45 := dt h44
      refine cw_skip (blkK_n (blkK_n (seqK_n (cw_region (ol rfl (lo_add rfl rfl (rg_i64 (by omega))) ?_)))))
      refine omi rfl rfl (ow_nil ?_)
      refine next1 (k + 1) (upd_intro (mask_intro (by first | exact off_refl | (repeat (first | exact off_mask | refine off_upd rfl ?_ | refine off_mask2 rfl ?_)))) rfl) (lmask_intro (by first | exact offl_refl | (repeat (first | exact offl_mask | refine offl_upd rfl ?_ | refine offl_mask2 rfl ?_)))) hl2 ?_ ?_
      · exact ⟨by omega, by rw [← hk2, drop_getD (k := k) (by omega), List.all_cons]; generalize ((s.getD k 0).toNat : Int) = z at *; simp [letter, *]⟩
      omega
    have p46 := df h44
    refine cw_seq (cw_region (oab rfl rfl (ow_nil (seqK_n (cw_ret ?_)))))
    refine blkK_r (blkK_r (seqK_r (loopK_r (blkK_r (seqK_r ?_)))))
    refine fnK_r (res1 rfl (rv_t (v := .bool _) rfl)) ((HLe.refl _).trans hl2) ?_
    first | (rw [← hk2, drop_getD (k := k) (by omega), List.all_cons]; generalize ((s.getD k 0).toNat : Int) = z at *; simp [letter, *]; done) | (rw [← hk2, List.drop_of_length_le (by omega)]; rfl)
  have p47 := df h3
  refine cw_exit (seqK_e (loopK_e (blkK_hit (seqK_n (cw_seq ?_)))))
  refine cw_region (oab rfl rfl (ow_nil (seqK_n (cw_ret (fnK_r (res1 rfl (rv_t (v := .bool _) rfl)) ((HLe.refl _).trans hl2) ?_)))))
  first | (rw [← hk2, drop_getD (k := k) (by omega), List.all_cons]; generalize ((s.getD k 0).toNat : Int) = z at *; simp [letter, *]; done) | (rw [← hk2, List.drop_of_length_le (by omega)]; rfl)
set_option maxRecDepth 100000 in
theorem copyCheck {n : Nat} {N : Rest} {F : Fr} {H : Hp} {L : Ls} {ops : List Oper} {ty d : Nat} {pos : String} {af : Array Edge} {K : Fr → Hp → Ls → Prop} {x : Operand} {ats : Array TypeId} {b : Nat} {p v : Value} (i : Nat) (hx : ev F x = .pointer (some ⟨b, 0, none⟩)) (hi : L i = some (b, bx 79 [p, v]))
    (hp : p = .pointer none ∨ p = .pointer (some ⟨b, 0, none⟩)) (hd : Nat.blt d n = true) (k : K (upd F d (.tuple #[])) H (lupd L i (some (b, bx 79 [.pointer (some ⟨b, 0, none⟩), v])))) : Op1 Tryz.prog n N ops ⟨some d, .call ⟨.value (.func 77), #[x], ats⟩, ty, pos, af, none⟩ K F H L := by
  refine op1_in (en_f (vs := [.pointer (some ⟨b, 0, none⟩)]) cb77 (by simp [evs, hx])) Tryz.func77 rfl Tryz.ntmps77 rfl hd (cw_seq (cw_region (ol rfl (lo_move (v := .pointer (some ⟨_, _, none⟩)) rfl) (ol rfl (lo_nilCheck rfl) (ol rfl (lo_fieldAddr rfl fl79_0) ?_)))))
  refine ol rfl (lo_load1 (i := i) (v := p) rfl ag76 hi rfl) ?_
  rcases hp with rfl | rfl
  · refine ol rfl (lo_pnil rfl rfl Tryz.underlying76) (ow_nil (seqK_n (cw_cond_t rfl rfl (cw_region (ol rfl (lo_move (v := .pointer (some ⟨_, _, none⟩)) rfl) ?_)))))
    refine ol rfl (lo_move (v := .pointer (some ⟨_, _, none⟩)) rfl) (ol rfl (lo_toUnsafe (i := i) rfl hi rfl Tryz.underlying76 Tryz.underlying137 (tz79).choose_spec.1 (tz79).choose_spec.2) (ol rfl (lo_noEsc (v := .pointer (some ⟨_, _, none⟩)) ne100 rfl) (ol rfl (lo_fromUnsafe (i := i) rfl hi Tryz.underlying137 Tryz.underlying76 (ti79).choose_spec la79_79) (ol rfl (lo_nilCheck rfl) (ol rfl (lo_fieldAddr rfl fl79_0) ?_)))))
    refine ow1 (op1_store1 (i := i) (v := .pointer (some ⟨_, _, none⟩)) rfl rfl rfl sz76 hi rfl ?_)
    refine ow_nil ?_
    exact fnK_n (res0 rfl) (.refl _) k
  · refine ol rfl (lo_peq_nil rfl rfl Tryz.underlying76) (ow_nil (seqK_n (cw_cond_f rfl rfl (cw_seq (cw_region ?_)))))
    refine ol rfl (lo_move (v := .pointer (some ⟨_, _, none⟩)) rfl) (ol rfl (lo_nilCheck rfl) (ol rfl (lo_fieldAddr rfl fl79_0) (ol rfl (lo_load1 (i := i) (v := .pointer (some ⟨b, 0, none⟩)) rfl ag76 hi rfl) (ol rfl (lo_move (v := .pointer (some ⟨_, _, none⟩)) rfl) (ol rfl (lo_pne_self rfl rfl Tryz.underlying76 (ti79).choose_spec) ?_)))))
    refine ow_nil (seqK_n (cw_cond_f rfl rfl (cw_skip (fnK_n (res0 rfl) (.refl _) ?_))))
    rwa [lupd_eta hi] at k
theorem octet_New (H : Hp) (s : Bs) : Pn Tryz.prog 45 #[str s] H (fun v H' b o' => v = .pointer (some ⟨b, 0, none⟩) ∧ H = H' ∧ o' = bx 126 (In.cells (⟨s, 0⟩))) := by
  refine pn_cw Tryz.func45 rfl Tryz.ntmps45 rfl (fun N => ?_)
  refine cw_seq (cw_region (ol rfl (lo_assign rfl) (ow_nil (seqK_n (cw_seq ?_)))))
  refine cw_region (ol rfl (lo_move (v := str _) rfl) (ol rfl (lo_build (v := .agg #[_, _]) rfl (bd126_0s _)) (ow1 (op1_box (cs := [_, _]) 0 rfl rfl (fun b1 => ?_)))))
  refine ol rfl (lo_assign (v := .pointer (some ⟨_, _, none⟩)) rfl) (ow_nil (seqK_n (cw_ret (fnK_r (res1 rfl (rv_t (v := .pointer (some ⟨_, _, none⟩)) rfl)) (.refl _) ?_))))
  exact ⟨0, _, _, rfl, rfl, rfl, rfl⟩
theorem in_Fail (H : Hp) (i_b : Nat) (i : In) (code : Int) (code_r : -9223372036854775808 ≤ code ∧ code ≤ 9223372036854775807) : Pm Tryz.prog 82 #[.pointer (some ⟨i_b, 0, none⟩), .int .i64 code] H i_b (bx 126 (In.cells i)) (fun v H' o' => v = .tuple #[] ∧ H = H' ∧ o' = bx 126 (In.cells (inFail i code))) := by
  refine pm_cw Tryz.func82 rfl Tryz.ntmps82 rfl (fun N => ?_)
  refine cw_seq (cw_region (ol rfl (lo_move (v := .pointer (some ⟨_, _, none⟩)) rfl) (ol rfl (lo_pne_nil rfl rfl Tryz.underlying90) (omb rfl rfl ?_))))
  refine ow1 (op1_g rfl rfl rfl (lo_move (v := .pointer (some ⟨_, _, none⟩)) rfl) ?_)
  refine ow1 (op1_g rfl rfl rfl (lo_nilCheck rfl) ?_)
  refine ow1 (op1_g rfl rfl rfl (lo_fieldAddr rfl fl126_1) ?_)
  refine ow1 (op1_g rfl rfl rfl (lo_load1 (i := 0) (v := .int _ _) rfl ag39 rfl rfl) ?_)
  refine ow1 (op1_g rfl rfl rfl (lo_eql rfl rfl) ?_)
  refine ol rfl (lo_pick_t (v := .bool _) rfl rfl rfl) (omb rfl rfl (ow_sp (j := 9) rfl (fun h1 => ?_) (fun h1 => ?_)))
  · have p2 := dt h1
    refine ow1 (op1_g rfl h1 rfl (lo_move (v := .int _ _) rfl) ?_)
    refine ow1 (op1_g rfl h1 rfl (lo_neq rfl rfl) ?_)
    refine ol rfl (lo_pick_t (v := .bool _) rfl h1 rfl) (ow_nil (seqK_n (cw_cond rfl (fun h3 => ?_) (fun h3 => ?_))))
    · have h4 := not_t h3
      have p5 := df h4
      refine cw_region (ol rfl (lo_move (v := .pointer (some ⟨_, _, none⟩)) rfl) (ol rfl (lo_move (v := .pointer (some ⟨_, _, none⟩)) rfl) (omi rfl rfl (ol rfl (lo_nilCheck rfl) (ol rfl (lo_fieldAddr rfl fl126_0) ?_)))))
      refine ow1 (op1_store1 (i := 0) (v := str _) rfl rfl rfl sz9 rfl rfl ?_)
      refine ol rfl (lo_nilCheck rfl) (ol rfl (lo_fieldAddr rfl fl126_1) ?_)
      refine ow1 (op1_store1 (i := 0) (v := .int _ _) rfl rfl rfl sz39 rfl rfl ?_)
      refine ow_nil (fnK_n (res0 rfl) (.refl _) ?_)
      refine ⟨_, rfl, ?_⟩
      refine ⟨?_, rfl, ?_⟩ <;> simp [inRaw, inFail, In.cells, *]
    have h6 := not_f h3
    have p7 := dt h6
    refine cw_skip (fnK_n (res0 rfl) (.refl _) ?_)
    refine ⟨_, rfl, ?_⟩
    refine ⟨?_, rfl, ?_⟩ <;> simp [inRaw, inFail, In.cells, *]
  have p8 := df h1
  refine og rfl h1 rfl (og rfl h1 rfl (ol rfl (lo_pick_f (v := .bool _) rfl h1 rfl) (ow_nil (seqK_n (cw_cond_f rfl rfl ?_)))))
  refine cw_skip (fnK_n (res0 rfl) (.refl _) ?_)
  refine ⟨_, rfl, ?_⟩
  refine ⟨?_, rfl, ?_⟩ <;> simp [inRaw, inFail, In.cells, *]
theorem in_Raw (H : Hp) (i_b : Nat) (i : In) (n : Int) (n_r : -9223372036854775808 ≤ n ∧ n ≤ 9223372036854775807) : Pm Tryz.prog 102 #[.pointer (some ⟨i_b, 0, none⟩), .int .i64 n] H i_b (bx 126 (In.cells i)) (fun v H' o' => v = str ((inRaw i n).1) ∧ H = H' ∧ o' = bx 126 (In.cells ((inRaw i n).2))) := by
  refine pm_cw Tryz.func102 rfl Tryz.ntmps102 rfl (fun N => ?_)
  refine cw_seq (cw_region (ol rfl (lo_assign (v := str _) rfl) (ow_nil (seqK_n (cw_seq ?_)))))
  refine cw_block (cw_seq (cw_seq (cw_region (ol rfl (lo_move (v := .pointer (some ⟨_, _, none⟩)) rfl) (ol rfl (lo_peq_nil rfl rfl Tryz.underlying90) ?_)))))
  refine oab rfl rfl (ow_nil (seqK_n (cw_cond_f rfl rfl (cw_seq (cw_region ?_)))))
  refine ol rfl (lo_move (v := .pointer (some ⟨_, _, none⟩)) rfl) (ol rfl (lo_nilCheck rfl) (ol rfl (lo_fieldAddr rfl fl126_1) (ol rfl (lo_load1 (i := 0) (v := .int _ _) rfl ag39 rfl rfl) (ol rfl (lo_neq rfl rfl) (oab rfl rfl ?_)))))
  refine ow_nil (seqK_n (cw_cond rfl (fun h1 => ?_) (fun h1 => ?_)))
  · have h2 := not_t h1
    have p3 := df h2
    refine cw_skip (seqK_n (cw_cond_t rfl h1 (cw_seq (cw_region (ol rfl (lo_assign (v := str _) rfl) ?_)))))
    refine ow_nil (seqK_n (cw_ret (blkK_r (seqK_r (fnK_r (res1 rfl (rv_t (v := str _) rfl)) (.refl _) ?_)))))
    refine ⟨_, rfl, ?_⟩
    refine ⟨?_, rfl, ?_⟩ <;> simp [inRaw, inFail, In.cells, *]
  have h4 := not_f h1
  have p5 := dt h4
  refine cw_region (omi rfl rfl (ol rfl (lo_leq rfl rfl) (oab rfl rfl (ow_nil (seqK_n ?_)))))
  refine cw_cond rfl (fun h6 => ?_) (fun h6 => ?_)
  · have p7 := dt h6
    refine cw_seq (cw_region (ol rfl (lo_assign (v := str _) rfl) (ow_nil (seqK_n (cw_ret ?_)))))
    refine blkK_r (seqK_r (fnK_r (res1 rfl (rv_t (v := str _) rfl)) (.refl _) ?_))
    refine ⟨_, rfl, ?_⟩
    refine ⟨?_, rfl, ?_⟩ <;> simp [inRaw, inFail, In.cells, *]
  have p8 := df h6
  refine cw_seq (cw_region (omi rfl rfl (ol rfl (lo_move (v := .pointer (some ⟨_, _, none⟩)) rfl) (ol rfl (lo_nilCheck rfl) (ol rfl (lo_fieldAddr rfl fl126_0) ?_)))))
  refine ol rfl (lo_load1 (i := 0) (v := str _) rfl ag9 rfl rfl) (ol rfl (lo_len_str rfl Tryz.underlying9) (ol rfl (lo_gtr rfl rfl) (oab rfl rfl (ow_nil (seqK_n ?_)))))
  refine cw_cond rfl (fun h9 => ?_) (fun h9 => ?_)
  · have p10 := dt h9
    refine cw_seq (cw_region (ol rfl (lo_move (v := .pointer (some ⟨_, _, none⟩)) rfl) ?_))
    refine ow1 (op1_pm 0 rfl (in_Fail _ i_b i 3 (by omega)) (en_f cb82 rfl) rfl ?_)
    rintro _ _ _ ⟨rfl, rfl, rfl⟩ _
    refine ow_nil (seqK_n (cw_seq (cw_region (ol rfl (lo_assign (v := str _) rfl) (ow_nil ?_)))))
    refine seqK_n (cw_ret (blkK_r (seqK_r (fnK_r (res1 rfl (rv_t (v := str _) rfl)) (.refl _) ?_))))
    refine ⟨_, rfl, ?_⟩
    refine ⟨?_, rfl, ?_⟩ <;> simp [inRaw, inFail, In.cells, *]
  have p13 := df h9
  refine cw_skip (blkK_n (seqK_n (cw_seq (cw_region (ol rfl (lo_move (v := .pointer (some ⟨_, _, none⟩)) rfl) ?_)))))
  refine ol rfl (lo_nilCheck rfl) (ol rfl (lo_fieldAddr rfl fl126_0) (ol rfl (lo_load1 (i := 0) (v := str _) rfl ag9 rfl rfl) (omi rfl rfl (ol rfl (lo_slice_str_hi (n).toNat rfl rfl Tryz.underlying9 (by omega) (by omega)) (ol rfl (lo_assign (v := str _) rfl) ?_)))))
  refine ow_nil (seqK_n (cw_seq (cw_region (ol rfl (lo_move (v := .pointer (some ⟨_, _, none⟩)) rfl) (ol rfl (lo_move (v := .pointer (some ⟨_, _, none⟩)) rfl) ?_)))))
  refine ol rfl (lo_nilCheck rfl) (ol rfl (lo_fieldAddr rfl fl126_0) (ol rfl (lo_load1 (i := 0) (v := str _) rfl ag9 rfl rfl) (omi rfl rfl (ol rfl (lo_slice_str_lo (n).toNat rfl rfl Tryz.underlying9 (by omega) (by omega)) (ol rfl (lo_nilCheck rfl) ?_)))))
  refine ol rfl (lo_fieldAddr rfl fl126_0) ?_
  refine ow1 (op1_store1 (i := 0) (v := str _) rfl rfl rfl sz9 rfl rfl ?_)
  refine ow_nil (seqK_n (cw_seq (cw_region (ol rfl (lo_move (v := str _) rfl) (ol rfl (lo_assign (v := str _) rfl) ?_)))))
  refine ow_nil (seqK_n (cw_ret (fnK_r (res1 rfl (rv_t (v := str _) rfl)) (.refl _) ?_)))
  refine ⟨_, rfl, ?_⟩
  refine ⟨?_, rfl, ?_⟩ <;> simp [inRaw, inFail, In.cells, *]
theorem in_Left (H : Hp) (i_b : Nat) (i : In) : Pm Tryz.prog 84 #[.pointer (some ⟨i_b, 0, none⟩)] H i_b (bx 126 (In.cells i)) (fun v H' o' => v = .int .i64 (i.s.length : Int) ∧ H = H' ∧ o' = bx 126 (In.cells i)) := by
  refine pm_cw Tryz.func84 rfl Tryz.ntmps84 rfl (fun N => ?_)
  refine cw_seq (cw_region (oai rfl rfl (ow_nil (seqK_n (cw_seq ?_)))))
  refine cw_seq (cw_region (ol rfl (lo_move (v := .pointer (some ⟨_, _, none⟩)) rfl) (ol rfl (lo_peq_nil rfl rfl Tryz.underlying90) (ow_nil (seqK_n ?_)))))
  refine cw_cond_f rfl rfl (cw_skip (seqK_n (cw_seq (cw_region (ol rfl (lo_move (v := .pointer (some ⟨_, _, none⟩)) rfl) ?_)))))
  refine ol rfl (lo_nilCheck rfl) (ol rfl (lo_fieldAddr rfl fl126_0) (ol rfl (lo_load1 (i := 0) (v := str _) rfl ag9 rfl rfl) (ol rfl (lo_len_str rfl Tryz.underlying9) (oai rfl rfl (ow_nil ?_)))))
  refine seqK_n (cw_ret (fnK_r (res1 rfl (rv_t (v := .int _ _) rfl)) (.refl _) ?_))
  refine ⟨_, rfl, ?_⟩
  exact ⟨rfl, rfl, rfl⟩
theorem in_Err (H : Hp) (i_b : Nat) (i : In) : Pm Tryz.prog 81 #[.pointer (some ⟨i_b, 0, none⟩)] H i_b (bx 126 (In.cells i)) (fun v H' o' => v = .int .i64 i.err ∧ H = H' ∧ o' = bx 126 (In.cells i)) := by
  refine pm_cw Tryz.func81 rfl Tryz.ntmps81 rfl (fun N => ?_)
  refine cw_seq (cw_region (oai rfl rfl (ow_nil (seqK_n (cw_seq ?_)))))
  refine cw_seq (cw_region (ol rfl (lo_move (v := .pointer (some ⟨_, _, none⟩)) rfl) (ol rfl (lo_peq_nil rfl rfl Tryz.underlying90) (ow_nil (seqK_n ?_)))))
  refine cw_cond_f rfl rfl (cw_skip (seqK_n (cw_seq (cw_region (ol rfl (lo_move (v := .pointer (some ⟨_, _, none⟩)) rfl) ?_)))))
  refine ol rfl (lo_nilCheck rfl) (ol rfl (lo_fieldAddr rfl fl126_1) (ol rfl (lo_load1 (i := 0) (v := .int _ _) rfl ag39 rfl rfl) (oai rfl rfl (ow_nil (seqK_n ?_)))))
  refine cw_ret (fnK_r (res1 rfl (rv_t (v := .int _ _) rfl)) (.refl _) ?_)
  refine ⟨_, rfl, ?_⟩
  exact ⟨rfl, rfl, rfl⟩
theorem in_End (H : Hp) (i_b : Nat) (i : In) : Pm Tryz.prog 47 #[.pointer (some ⟨i_b, 0, none⟩)] H i_b (bx 126 (In.cells i)) (fun v H' o' => v = .int .i64 (inEnd i) ∧ H = H' ∧ o' = bx 126 (In.cells i)) := by
  refine pm_cw Tryz.func47 rfl Tryz.ntmps47 rfl (fun N => ?_)
  refine cw_seq (cw_region (oai rfl rfl (ow_nil (seqK_n (cw_seq ?_)))))
  refine cw_seq (cw_region (ol rfl (lo_move (v := .pointer (some ⟨_, _, none⟩)) rfl) ?_))
  refine ow1 (op1_pm 0 rfl (in_Err _ i_b i) (en_f cb81 rfl) rfl ?_)
  rintro _ _ _ ⟨rfl, rfl, rfl⟩ _
  refine ol rfl (lo_eql rfl rfl) (omb rfl rfl (ow_sp (j := 3) rfl (fun h3 => ?_) (fun h3 => ?_)))
  · have p4 := dt h3
    refine ow1 (op1_g rfl h3 rfl (lo_move (v := .pointer (some ⟨_, _, none⟩)) rfl) ?_)
    refine ow1 (op1_pmg 0 rfl h3 rfl (in_Left _ i_b i) (en_f cb84 rfl) rfl ?_)
    rintro _ _ _ ⟨rfl, rfl, rfl⟩ _
    refine ow1 (op1_g rfl h3 rfl (lo_gtr rfl rfl) ?_)
    refine ol rfl (lo_pick_t (v := .bool _) rfl h3 rfl) (ow_nil (seqK_n (cw_cond rfl (fun h7 => ?_) (fun h7 => ?_))))
    · have p8 := dt h7
      refine cw_seq (cw_region (oai rfl rfl (ow_nil (seqK_n (cw_ret ?_)))))
      refine seqK_r (fnK_r (res1 rfl (rv_t (v := .int _ _) rfl)) (.refl _) ?_)
      refine ⟨_, rfl, ?_⟩
      refine ⟨?_, rfl, rfl⟩; congr 1; unfold inEnd; split <;> omega
    have p9 := df h7
    refine cw_skip (seqK_n (cw_seq (cw_region (ol rfl (lo_move (v := .pointer (some ⟨_, _, none⟩)) rfl) ?_))))
    refine ow1 (op1_pm 0 rfl (in_Err _ i_b i) (en_f cb81 rfl) rfl ?_)
    rintro _ _ _ ⟨rfl, rfl, rfl⟩ _
    refine oai rfl rfl (ow_nil (seqK_n (cw_ret (fnK_r (res1 rfl (rv_t (v := .int _ _) rfl)) (.refl _) ?_))))
    refine ⟨_, rfl, ?_⟩
    refine ⟨?_, rfl, rfl⟩; congr 1; unfold inEnd; split <;> omega
  have p12 := df h3
  refine og rfl h3 rfl (og rfl h3 rfl (og rfl h3 rfl (ol rfl (lo_pick_f (v := .bool _) rfl h3 rfl) (ow_nil (seqK_n ?_)))))
  refine cw_cond_f rfl rfl (cw_skip (seqK_n (cw_seq (cw_region (ol rfl (lo_move (v := .pointer (some ⟨_, _, none⟩)) rfl) ?_)))))
  refine ow1 (op1_pm 0 rfl (in_Err _ i_b i) (en_f cb81 rfl) rfl ?_)
  rintro _ _ _ ⟨rfl, rfl, rfl⟩ _
  refine oai rfl rfl (ow_nil (seqK_n (cw_ret (fnK_r (res1 rfl (rv_t (v := .int _ _) rfl)) (.refl _) ?_))))
  refine ⟨_, rfl, ?_⟩
  refine ⟨?_, rfl, rfl⟩; congr 1; unfold inEnd; split <;> omega
end Go.SW
set_option linter.unusedVariables false
set_option maxRecDepth 100000
set_option maxHeartbeats 4000000
namespace Go.SW
open Go.Proofs
theorem ag5 : Ag Tryz.prog 5 false := fun w => by kernel_rfl
theorem cb102 : Callable Tryz.prog 102 := callable_of Tryz.func102 (by kernel_rfl) (by kernel_rfl)
theorem cb79 : Callable Tryz.prog 79 := callable_of Tryz.func79 (by kernel_rfl) (by kernel_rfl)
theorem sz5 : Sz Tryz.prog 5 1 := fun w => by kernel_rfl
theorem in_Num (H : Hp) (i_b : Nat) (i : In) (bytes : Int) (bytes_r : -9223372036854775808 ≤ bytes ∧ bytes ≤ 9223372036854775807) : Pm Tryz.prog 79 #[.pointer (some ⟨i_b, 0, none⟩), .int .i64 bytes] H i_b (bx 126 (In.cells i)) (fun v H' o' => v = .int .u64 ((inNum i bytes).1) ∧ H = H' ∧ o' = bx 126 (In.cells ((inNum i bytes).2))) := by
  refine pm_cw Tryz.func79 rfl Tryz.ntmps79 rfl (fun N => ?_)
  refine cw_seq (cw_region (oai rfl rfl (ow_nil (seqK_n (cw_seq ?_)))))
  refine cw_region (oai rfl rfl (ow_nil (seqK_n (cw_seq (cw_seq ?_)))))
  refine cw_region (ol rfl (lo_move (v := .pointer (some ⟨_, _, none⟩)) rfl) (omi rfl rfl (ol rfl (lo_min rfl rfl) ?_)))
  refine ow1 (op1_pm 0 rfl (in_Raw _ i_b i (min bytes 8) (by omega)) (en_f cb102 rfl) rfl ?_)
  rintro _ _ _ ⟨rfl, rfl, rfl⟩ _
  refine ow1 (op1_s2b rfl Tryz.underlying9 Tryz.underlying77 Tryz.underlying5 rfl (fun b3 cap4 H5 hl6 hs7 => ?_))
  refine ol rfl (lo_len_slh rfl hs7 Tryz.underlying77) (omi rfl rfl (ow_nil (seqK_n (cw_block (cw_loop1 [5, 7, 14, 15, 16, 17, 18, 19, 20, 21, 22, 23] [] (fun (k : Nat) G => upd (upd (G) 14 (.int .i64 (k : Int))) 5 (.int .u64 (beN ((inRaw i (min bytes 8)).1.take k) : Int))) (fun (k : Nat) G => G) (fun (k : Nat) H' => k ≤ (inRaw i (min bytes 8)).1.length) (fun (k : Nat) => (inRaw i (min bytes 8)).1.length - k) 0 (upd_intro (upd_intro (mask_intro (by first | exact off_refl | (repeat (first | exact off_mask | refine off_upd rfl ?_ | refine off_mask2 rfl ?_)))) rfl) rfl) (lmask_intro offl_refl) ?_ ?_)))))
  · exact Nat.zero_le _
  intro k J9 JL9 H9 hp8 hl9
  have hb := inRaw_len i (min bytes 8)
  refine cw_seq (cw_region (ol rfl (lo_lss rfl rfl) (ow_nil (seqK_n (cw_seq ?_)))))
  refine cw_cond rfl (fun h10 => ?_) (fun h10 => ?_)
  · have p11 := dt h10
    refine cw_skip (seqK_n (cw_seq (cw_block (cw_seq (cw_region ?_)))))
    obtain ⟨c12, hc13⟩ := getE (xs := (inRaw i (min bytes 8)).1) (m := k) (by omega)
    obtain ⟨cs14, hE15, at16⟩ := (hs7.mono ((HLe.refl _).trans hl9) (fun _ _ h => h)).get hc13
    subst hE15
    have c12_r := u8r c12
    refine ol rfl (lo_indexAddr rfl rfl (hs7.mono ((HLe.refl _).trans hl9) (fun _ _ h => h)).1 at16 Tryz.underlying77 sz5 (by omega) (by omega)) (ol rfl (lo_loadE1 rfl ag5 at16) (oai rfl rfl (ow_nil (seqK_n (cw_region ?_)))))
    refine omi rfl rfl (ol rfl (lo_shl rfl rfl (by omega)) (omi rfl rfl (ol rfl (lo_conv_in rfl (by rw [Tryz.underlying5]; rfl) Tryz.underlying25 (rg_u64 (by omega))) ?_)))
    have := wr_u64 ((BitVec.ofInt (IntKind.bits .u64) (IntKind.wrap .u64 ((beN ((inRaw i (min bytes 8)).1.take k) : Int) * 2 ^ (min (8 : Int).toNat (IntKind.bits .u64)))) ||| BitVec.ofInt (IntKind.bits .u64) (c12.toNat : Int)).toNat)
    refine ol rfl (lo_or rfl rfl) (oai rfl rfl (ow_nil (blkK_n (seqK_n (cw_region ?_)))))
    refine ol rfl (lo_add rfl rfl (rg_i64 (by omega))) (omi rfl rfl (ow_nil ?_))
    refine next1 (k + 1) (upd_intro (upd_intro (mask_intro (by first | exact off_refl | (repeat (first | exact off_mask | refine off_upd rfl ?_ | refine off_mask2 rfl ?_)))) rfl) (congrArg (Value.int .u64) (num_step hc13 (by omega)))) (lmask_intro (by first | exact offl_refl | (repeat (first | exact offl_mask | refine offl_upd rfl ?_ | refine offl_mask2 rfl ?_)))) hl9 ?_ ?_
    · omega
    omega
  have p17 := df h10
  refine cw_exit (seqK_e (loopK_e (blkK_hit (seqK_n (cw_seq ?_)))))
  refine cw_region (omi rfl rfl (oai rfl rfl (ow_nil (seqK_n (cw_down (((HLe.refl _).trans hl6).trans hl9) ?_)))))
  refine cw_ret (fnK_r (res1 rfl (rv_t (v := .int _ _) rfl)) (.refl _) ?_)
  refine ⟨_, rfl, ?_⟩
  refine ⟨?_, rfl, rfl⟩
  simp only [inNum]
  rw [List.take_of_length_le (by omega)]
theorem in_Text (H : Hp) (i_b : Nat) (i : In) (most : Int) (most_r : -9223372036854775808 ≤ most ∧ most ≤ 9223372036854775807) : Pm Tryz.prog 80 #[.pointer (some ⟨i_b, 0, none⟩), .int .i64 most] H i_b (bx 126 (In.cells i)) (fun v H' o' => v = str ((inText i most).1) ∧ H = H' ∧ o' = bx 126 (In.cells ((inText i most).2))) := by
  refine pm_cw Tryz.func80 rfl Tryz.ntmps80 rfl (fun N => ?_)
  refine cw_seq (cw_region (ol rfl (lo_assign (v := str _) rfl) (ow_nil (seqK_n (cw_seq ?_)))))
  refine cw_region (ol rfl (lo_move (v := .pointer (some ⟨_, _, none⟩)) rfl) ?_)
  refine ow1 (op1_pm 0 rfl (in_Num _ i_b i 2 (by omega)) (en_f cb79 rfl) rfl ?_)
  rintro _ _ _ ⟨rfl, rfl, rfl⟩ _
  have := inNum_r i 2
  refine ol rfl (lo_conv_in rfl (by rw [Tryz.underlying25]; rfl) Tryz.underlying3 (rg_i64 (by omega))) (oai rfl rfl (ow_nil (seqK_n (cw_seq (cw_seq ?_)))))
  refine cw_region (omi rfl rfl (omi rfl rfl (ol rfl (lo_gtr rfl rfl) (ow_nil (seqK_n ?_)))))
  refine cw_cond rfl (fun h3 => ?_) (fun h3 => ?_)
  · have p4 := dt h3
    refine cw_region (ol rfl (lo_move (v := .pointer (some ⟨_, _, none⟩)) rfl) ?_)
    refine ow1 (op1_pm 0 rfl (in_Fail _ i_b ((inNum i 2).2) 5 (by omega)) (en_f cb82 rfl) rfl ?_)
    rintro _ _ _ ⟨rfl, rfl, rfl⟩ _
    refine ow_nil (seqK_n (cw_seq (cw_region (ol rfl (lo_move (v := .pointer (some ⟨_, _, none⟩)) rfl) (omi rfl rfl ?_)))))
    refine ow1 (op1_pm 0 rfl (in_Raw _ i_b (inFail ((inNum i 2).2) 5) ((inNum i 2).1) (by omega)) (en_f cb102 rfl) rfl ?_)
    rintro _ _ _ ⟨rfl, rfl, rfl⟩ _
    refine ol rfl (lo_assign (v := str _) rfl) (ow_nil (seqK_n (cw_ret (fnK_r (res1 rfl (rv_t (v := str _) rfl)) (.refl _) ?_))))
    refine ⟨_, rfl, ?_⟩
    refine ⟨?_, rfl, ?_⟩ <;> simp [inText, *]
  have p9 := df h3
  refine cw_skip (seqK_n (cw_seq (cw_region (ol rfl (lo_move (v := .pointer (some ⟨_, _, none⟩)) rfl) (omi rfl rfl ?_)))))
  refine ow1 (op1_pm 0 rfl (in_Raw _ i_b ((inNum i 2).2) ((inNum i 2).1) (by omega)) (en_f cb102 rfl) rfl ?_)
  rintro _ _ _ ⟨rfl, rfl, rfl⟩ _
  refine ol rfl (lo_assign (v := str _) rfl) (ow_nil (seqK_n (cw_ret (fnK_r (res1 rfl (rv_t (v := str _) rfl)) (.refl _) ?_))))
  refine ⟨_, rfl, ?_⟩
  refine ⟨?_, rfl, ?_⟩ <;> simp [inText, *]
end Go.SW
set_option linter.unusedVariables false
set_option maxRecDepth 100000
set_option maxHeartbeats 4000000
namespace Go.SW
open Go.Proofs
theorem ag109 : Ag Tryz.prog 109 true := fun w => by kernel_rfl
theorem ag77 : Ag Tryz.prog 77 false := fun w => by kernel_rfl
theorem by5 : By Tryz.prog 5 1 := by_of (by kernel_rfl)
theorem cb41 : Callable Tryz.prog 41 := callable_of Tryz.func41 (by kernel_rfl) (by kernel_rfl)
theorem cb92 : Callable Tryz.prog 92 := callable_of Tryz.func92 (by kernel_rfl) (by kernel_rfl)
theorem co5 : Tryz.prog.cellsOf 5 = 1 := by kernel_rfl
theorem fl109_0 : Fld Tryz.prog 109 0 0 := fun b o w => by kernel_rfl
theorem fl79_1 : Fld Tryz.prog 79 1 1 := fun b o w => by kernel_rfl
theorem mixd : Tryz.prog.follows .mixedOrders = true := by kernel_rfl
theorem sz109 : Sz Tryz.prog 109 2 := fun w => by kernel_rfl
theorem sz77 : Sz Tryz.prog 77 1 := fun w => by kernel_rfl
theorem zr109 : Zr Tryz.prog 109 [str [], .int .i64 0] := fun w => ⟨.agg #[str [], .int .i64 0], by kernel_rfl, rfl⟩
theorem zr5 : Zr Tryz.prog 5 [.int .u8 0] := fun w => ⟨.int .u8 0, by kernel_rfl, rfl⟩
theorem zr79 : Zr Tryz.prog 79 [.pointer none, .slice none 0 0] := fun w => ⟨.agg #[.pointer none, .slice none 0 0], by kernel_rfl, rfl⟩
theorem zx5 : ∃ z, ∀ w, (zeroValue 5).run Tryz.prog w = .ok z w := ⟨.int .u8 0, fun w => by kernel_rfl⟩
theorem out_Num (H : Hp) (o : Out) (n : Int) (n_r : 0 ≤ n ∧ n ≤ 18446744073709551615) (bytes : Int) (bytes_r : -9223372036854775808 ≤ bytes ∧ bytes ≤ 9223372036854775807) (hlen : o.s.length ≤ 4611686018427387904) : Pr Tryz.prog 63 #[.agg (Out.cells o).toArray, .int .u64 n, .int .i64 bytes] H (.agg (Out.cells (outNum o n bytes)).toArray) := by
  refine pr_cw Tryz.func63 rfl Tryz.ntmps63 rfl (fun N => ?_)
  refine cw_seq (cw_region (ow1 (op1_box (cs := [_, _]) 0 rfl rfl (fun b1 => ?_))))
  refine ow1 (op1_alloc 1 rfl zr109 (fun b2 => ?_))
  refine ow_nil (seqK_n (cw_seq (cw_region (ow1 (op1_alloc 2 rfl zr79 (fun b3 => ?_))))))
  refine ow_nil (seqK_n (cw_seq (cw_seq (cw_region (omi rfl rfl ?_)))))
  refine ol rfl (lo_max rfl rfl) (ol rfl (lo_min rfl rfl) (ol rfl (lo_sub rfl rfl (rg_i64 (by omega))) (oai rfl rfl (ow_nil (seqK_n ?_)))))
  refine cw_block ?_
  refine cw_loop5 [8, 13, 14, 15, 16, 17, 18, 19, 20, 21, 22] [2, 3, 4] (fun (j : Nat) (bs : Bs) (p : Value) (v : Value) (en : Option (Nat × Obj)) G => upd (G) 8 (.int .i64 ((j : Int) - 1))) (fun (j : Nat) (bs : Bs) (p : Value) (v : Value) (en : Option (Nat × Obj)) G => lupd (lupd (G) 2 (some (b3, bx 79 [p, v]))) 3 (en)) (fun (j : Nat) (bs : Bs) (p : Value) (v : Value) (en : Option (Nat × Obj)) H' => bs ++ numB j n.toNat = numB (numK bytes) n.toNat ∧ bs.length + j = numK bytes ∧ OwnV 1 5 v en bs.length (bs.map u8v) ∧ (bs.length = 0 → v = .slice none 0 0) ∧ (p = .pointer none ∨ p = .pointer (some ⟨b3, 0, none⟩))) (fun (j : Nat) (bs : Bs) (p : Value) (v : Value) (en : Option (Nat × Obj)) => j) (numK bytes) [] (.pointer none) (.slice none 0 0) none (upd_intro (mask_intro (by first | exact off_refl | (repeat (first | exact off_mask | refine off_upd rfl ?_ | refine off_mask2 rfl ?_)))) (congrArg (Value.int .i64) (show min (max bytes 0) 8 - 1 = ((numK bytes : Nat) : Int) - 1 by unfold numK; omega))) (lupd_intro (lupd_intro (lmask_intro offl_refl) rfl) rfl) ?_ ?_
  · exact ⟨rfl, by simp, ownV_nil, fun _ => rfl, .inl rfl⟩
  intro j bs p v en J5 JL5 H5 hp4 hl5
  obtain ⟨hk1, hk2, ho, hz, hpp⟩ := hp4
  have hk8 : numK bytes ≤ 8 := by unfold numK; omega
  refine cw_seq (cw_seq (cw_region (omi rfl rfl (ol rfl (lo_geq rfl rfl) (ow_nil ?_)))))
  refine seqK_n (cw_cond rfl (fun h6 => ?_) (fun h6 => ?_))
  · have p7 := dt h6
    refine cw_skip (seqK_n (cw_seq (cw_block (cw_region (omi rfl rfl ?_)))))
    refine omi rfl rfl (ol rfl (lo_mul rfl rfl (rg_i64 (by omega))) (ol rfl (lo_shr rfl rfl (by omega)) ?_))
    have := wr_u8 (Int.fdiv n (2 ^ (min ((8 * ((j : Int) - 1)) : Int).toNat (IntKind.bits .u64))))
    refine ol rfl (lo_conv rfl (by rw [Tryz.underlying25]; rfl) Tryz.underlying5) ?_
    refine ow1 (op1_in (en_f cb92 rfl) Tryz.func92 rfl Tryz.ntmps92 rfl rfl ?_)
    refine cw_seq (cw_region (ol rfl (lo_assign rfl) (ow_nil (seqK_n (cw_seq ?_)))))
    refine cw_region (ol rfl (lo_move (v := .pointer (some ⟨_, _, none⟩)) rfl) ?_)
    refine ow1 (copyCheck 2 rfl rfl hpp rfl ?_)
    refine ow_nil (seqK_n (cw_seq (cw_region (ol rfl (lo_move (v := .pointer (some ⟨_, _, none⟩)) rfl) (ol rfl (lo_move (v := .pointer (some ⟨_, _, none⟩)) rfl) ?_)))))
    refine ol rfl (lo_nilCheck rfl) (ol rfl (lo_fieldAddr rfl fl79_1) (ol rfl (lo_load1 (i := 2) rfl ag77 rfl rfl) (omi rfl rfl ?_)))
    refine ow1 (op1_bslice (cs := [_]) 4 rfl Tryz.underlying77 sz5 zx5 rfl ⟨rfl, rfl, trivial⟩ rfl rfl (by decide) (fun b8 => ?_))
    refine ow1 (op1_app 3 rfl rfl Tryz.underlying77 Tryz.underlying77 rfl sz5 by5 (by decide) zr5 ho (src_bx (i := 4) rfl rfl) (List.all_eq_true.1 rfl) rfl (by omega) rfl (fun v9 en10 ho11 => ?_))
    have ho12 := byte_app (bs := bs) ho11 (by first | rfl | simp) (wrap8r _)
    refine ol rfl (lo_nilCheck rfl) (ol rfl (lo_fieldAddr rfl fl79_1) ?_)
    refine ow1 (op1_store1 (i := 2) rfl rfl (ownV_one ho12) sz77 rfl rfl ?_)
    refine ow_nil (seqK_n (cw_seq (cw_region (ol rfl (lo_assign rfl) (ow_nil ?_)))))
    refine seqK_n (cw_ret (fnK_r (res1 rfl (rv_t rfl)) (.refl _) (ow_nil (blkK_n (seqK_n ?_)))))
    refine cw_region (omi rfl rfl (ol rfl (lo_sub rfl rfl (rg_i64 (by omega))) (oai rfl rfl (ow_nil ?_))))
    refine next5 (j - 1) (bs ++ [UInt8.ofNat ((IntKind.wrap .u8 (Int.fdiv n (2 ^ (min ((8 * ((j : Int) - 1)) : Int).toNat (IntKind.bits .u64)))))).toNat]) (.pointer (some ⟨b3, 0, none⟩)) v9 en10 (upd_intro (mask_intro (by first | exact off_refl | (repeat (first | exact off_mask | refine off_upd rfl ?_ | refine off_mask2 rfl ?_)))) (congrArg (Value.int .i64) (show ((j : Int) - 1) - 1 = ((j - 1 : Nat) : Int) - 1 by omega))) (lupd_intro (lupd_intro (lmask_intro (by first | exact offl_refl | (repeat (first | exact offl_mask | refine offl_upd rfl ?_ | refine offl_mask2 rfl ?_)))) rfl) rfl) hl5 ?_ ?_
    · refine ⟨?_, ?_, ho12, (nz_of ho12 (by simp)), .inr rfl⟩
      · rw [byte_of n_r.1 (by omega) (by omega), List.append_assoc, ← hk1]
        obtain ⟨q, rfl⟩ : ∃ q, j = q + 1 := ⟨j - 1, by omega⟩
        simp [numB]
      simp; omega
    omega
  have p13 := df h6
  refine cw_exit (seqK_e (loopK_e (blkK_hit (seqK_n (cw_seq ?_)))))
  refine cw_anyX 3 mixd (vw_q 0 rfl (by kernel_rfl) (by repeat (first | exact lle_l0 | exact LLe.refl _ | exact lle_none | refine lle_up ?_ rfl)) (fun _ _ hh hl => lo_fieldAddr rfl fl109_0) ?_)
  refine vw_q 1 rfl (by kernel_rfl) (by repeat (first | exact lle_l0 | exact LLe.refl _ | exact lle_none | refine lle_up ?_ rfl)) (fun _ _ hh hl => lo_load1 (i := 0) (v := str _) rfl ag9 (hl _ _ rfl) rfl) ?_
  refine vw_e 2 rfl (by kernel_rfl) (op1_in (en_f cb41 rfl) Tryz.func41 rfl Tryz.ntmps41 rfl rfl ?_)
  refine cw_seq (cw_region (ol rfl (lo_assign (v := str _) rfl) (ow_nil (seqK_n (cw_seq ?_)))))
  refine cw_anyX 3 mixd ?_
  refine vw_q 0 rfl (by kernel_rfl) (by repeat (first | exact lle_l0 | exact LLe.refl _ | exact lle_none | refine lle_up ?_ rfl)) (fun _ _ hh hl => lo_move (v := .pointer (some ⟨_, _, none⟩)) rfl) ?_
  refine vw_q 1 rfl (by kernel_rfl) (by repeat (first | exact lle_l0 | exact LLe.refl _ | exact lle_none | refine lle_up ?_ rfl)) (fun _ _ hh hl => lo_nilCheck rfl) ?_
  refine vw_q 2 rfl (by kernel_rfl) (by repeat (first | exact lle_l0 | exact LLe.refl _ | exact lle_none | refine lle_up ?_ rfl)) (fun _ _ hh hl => lo_fieldAddr rfl fl79_1) ?_
  refine vw_q 3 rfl (by kernel_rfl) (by repeat (first | exact lle_l0 | exact LLe.refl _ | exact lle_none | refine lle_up ?_ rfl)) (fun _ _ hh hl => lo_load1 (i := 2) rfl ag77 (hl _ _ rfl) rfl) ?_
  refine vw_q 4 rfl (by kernel_rfl) (by repeat (first | exact lle_l0 | exact LLe.refl _ | exact lle_none | refine lle_up ?_ rfl)) (fun _ _ hh hl => lo_usd rfl ho hz) ?_
  refine vw_q 5 rfl (by kernel_rfl) (by repeat (first | exact lle_l0 | exact LLe.refl _ | exact lle_none | refine lle_up ?_ rfl)) (fun _ _ hh hl => lo_move (v := .pointer (some ⟨_, _, none⟩)) rfl) ?_
  refine vw_q 6 rfl (by kernel_rfl) (by repeat (first | exact lle_l0 | exact LLe.refl _ | exact lle_none | refine lle_up ?_ rfl)) (fun _ _ hh hl => lo_nilCheck rfl) ?_
  refine vw_q 7 rfl (by kernel_rfl) (by repeat (first | exact lle_l0 | exact LLe.refl _ | exact lle_none | refine lle_up ?_ rfl)) (fun _ _ hh hl => lo_fieldAddr rfl fl79_1) ?_
  refine vw_q 8 rfl (by kernel_rfl) (by repeat (first | exact lle_l0 | exact LLe.refl _ | exact lle_none | refine lle_up ?_ rfl)) (fun _ _ hh hl => lo_load1 (i := 2) rfl ag77 (hl _ _ rfl) rfl) ?_
  refine vw_q 9 rfl (by kernel_rfl) (by repeat (first | exact lle_l0 | exact LLe.refl _ | exact lle_none | refine lle_up ?_ rfl)) (fun _ _ hh hl => lo_len_own rfl ho Tryz.underlying77) ?_
  refine vw_e 10 rfl (by kernel_rfl) (op1_ustr (l := bs) 3 rfl rfl Tryz.underlying124 co5 ho hz (by have hq := numB_len (numK bytes) n.toNat; simp [numK] at *; omega) rfl ?_)
  refine ⟨⟨(.refl _), (by repeat (first | exact lle_l0 | exact LLe.refl _ | exact lle_none | refine lle_up ?_ rfl))⟩, ?_⟩
  refine vw_q 11 rfl (by kernel_rfl) (by repeat (first | exact lle_l0 | exact LLe.refl _ | exact lle_none | refine lle_up ?_ rfl)) (fun _ _ hh hl => lo_assign (v := str _) rfl) ?_
  refine vw_done (by kernel_rfl) (seqK_n (cw_ret (fnK_r (res1 rfl (rv_t (v := str _) rfl)) (.refl _) ?_)))
  refine ⟨⟨(.refl _), (by repeat (first | exact lle_l0 | exact LLe.refl _ | exact lle_none | refine lle_up ?_ rfl))⟩, ?_⟩
  refine vw_q 3 rfl (by kernel_rfl) (by repeat (first | exact lle_l0 | exact LLe.refl _ | exact lle_none | refine lle_up ?_ rfl)) (fun _ _ hh hl => lo_cat rfl rfl (by have hq := numB_len (numK bytes) n.toNat; simp [numK] at *; omega)) ?_
  refine vw_q 4 rfl (by kernel_rfl) (by repeat (first | exact lle_l0 | exact LLe.refl _ | exact lle_none | refine lle_up ?_ rfl)) (fun _ _ hh hl => lo_fieldAddr rfl fl109_0) ?_
  refine vw_t 5 rfl (by kernel_rfl) (by kernel_rfl) (op1_store1 (i := 0) (v := str _) rfl rfl rfl sz9 rfl rfl ?_)
  refine vw_done (by kernel_rfl) (seqK_n (cw_seq (cw_region (ol rfl (lo_loadA (i := 0) (vs := [_, _]) rfl ag109 sz109 rfl rfl rfl) ?_))))
  refine ow1 (op1_storeA (i := 1) (vs := [_, _]) rfl rfl rfl sz109 rfl rfl rfl ?_)
  refine ow_nil (seqK_n (cw_ret (fnK_r (res1 rfl (rv_c (i := 1) (vs := [_, _]) rfl ag109 sz109 rfl rfl rfl)) ((HLe.refl _).trans hl5) ?_)))
  obtain rfl : j = 0 := by omega
  simp only [numB, List.append_nil] at hk1
  subst hk1
  rfl
end Go.SW
set_option linter.unusedVariables false
set_option maxRecDepth 100000
set_option maxHeartbeats 4000000
namespace Go.SW.V
open Go.SW Go.Proofs
def gb : Gb := ⟨fun H => GInt H 2 ∧ GTab H 1 laidT ∧ GStrs H 0 tellsT, fun H H' hl h => ⟨h.1.mono hl, h.2.1.mono hl, h.2.2.mono hl⟩⟩
theorem gbML {H : Hp} (h : gb.p H) : GInt H 2 := h.1
theorem gbCrc {H : Hp} (h : gb.p H) : GTab H 1 laidT := h.2.1
theorem gbTells {H : Hp} (h : gb.p H) : GStrs H 0 tellsT := h.2.2
theorem cb106 : Callable Tryz.prog 106 := callable_of Tryz.func106 (by kernel_rfl) (by kernel_rfl)
theorem cb73 : Callable Tryz.prog 73 := callable_of Tryz.func73 (by kernel_rfl) (by kernel_rfl)
theorem cb86 : Callable Tryz.prog 86 := callable_of Tryz.func86 (by kernel_rfl) (by kernel_rfl)
def tbv1 : Tb := [(9, ⟨.str, 1, 16, [.str []]⟩)]
theorem tbv1ok : tbB Tryz.prog tbv1 = true := by kernel_rfl
theorem r4_letter (c : Int) : Fn Tryz.prog gb 73 [.int .u8 c] (.bool (letter c)) := by
  refine fn_cw tbv1ok Tryz.func73 rfl Tryz.ntmps73 rfl cb73 rfl rfl fun w N H hG => ?_
  have c_r : 0 ≤ c ∧ c ≤ 255 := w.1
  refine go tbv1ok 33 rfl rfl ⟨(fun hc => hc), rfl, rfl, (fun hc => hc), (fun hc => hc), (fun hc => hc), (fun hc => hc), (fun hc => (by rw [hc]; rfl)), (fun hc => rfl), rfl, rfl, (fun hc => hc), rfl, rfl, (fun hc => hc), rfl, rfl, trivial⟩ ?_
  refine rt1 rfl rfl ?_
  refine ple ?_
  simp [letter, *]
theorem words_plain (s : Bs) : Fn Tryz.prog gb 106 [.str s] (.bool (plain s)) := by
  refine fn_cw tbv1ok Tryz.func106 rfl Tryz.ntmps106 rfl cb106 rfl rfl fun w N H hG => ?_
  have s_l : s.length ≤ 9223372036854775807 := w.1
  refine go tbv1ok 14 rfl rfl trivial ?_
  refine loop (ι := Nat) [0, 5, 6] [] (fun k => [(7, .int .i64 (k : Int))]) (fun k => []) (fun k => k ≤ s.length ∧ (s.drop k).all (fun c => letter c.toNat) = plain s) (fun k => s.length - k) 0 ⟨rfl, trivial⟩ trivial ?_ ?_
  · exact ⟨by omega, rfl⟩
  · rintro k hp1
    obtain ⟨hk1, hk2⟩ := hp1
    refine go tbv1ok 6 rfl rfl trivial ?_
    refine cnd rfl (fun h2 => ?_) (fun h2 => ?_)
    · have p3 := dt h2
      have := u8r (s.getD k 0)
      refine go tbv1ok 14 rfl rfl trivial ?_
      refine q1 (sidx tbv1ok k rfl rfl rfl rfl rfl (by omega)) rfl fun w4 => ?_
      refine go tbv1ok 16 rfl rfl ⟨(fun hc => hc), rfl, rfl, trivial⟩ ?_
      refine cnd rfl (fun h5 => ?_) (fun h5 => ?_)
      · have h6 := bl h5
        have p7 := dt h6
        have h8 := br h5
        have p9 := dt h8
        refine go tbv1ok 2 rfl rfl trivial ?_
        refine cndT rfl h5 ?_
        refine go tbv1ok 8 rfl rfl ⟨(by omega), trivial⟩ ?_
        refine next (k + 1) rfl rfl ⟨rfl, trivial⟩ trivial ?_ ?_
        · omega
        · exact ⟨by omega, by rw [← hk2, drop_getD (k := k) (by omega), List.all_cons]; generalize ((s.getD k 0).toNat : Int) = z at *; simp [letter, *]⟩
      · refine go tbv1ok 11 rfl rfl ⟨(fun hc => hc), rfl, rfl, trivial⟩ ?_
        refine cnd rfl (fun h10 => ?_) (fun h10 => ?_)
        · have h11 := bl h10
          have p12 := dt h11
          have h13 := br h10
          have p14 := dt h13
          refine go tbv1ok 2 rfl rfl trivial ?_
          refine cndT rfl h10 ?_
          refine go tbv1ok 8 rfl rfl ⟨(by omega), trivial⟩ ?_
          refine next (k + 1) rfl rfl ⟨rfl, trivial⟩ trivial ?_ ?_
          · omega
          · exact ⟨by omega, by rw [← hk2, drop_getD (k := k) (by omega), List.all_cons]; generalize ((s.getD k 0).toNat : Int) = z at *; simp [letter, *]⟩
        · refine go tbv1ok 7 rfl rfl trivial ?_
          refine cnd rfl (fun h15 => ?_) (fun h15 => ?_)
          · have p16 := dt h15
            refine go tbv1ok 2 rfl rfl trivial ?_
            refine cndT rfl h15 ?_
            refine go tbv1ok 8 rfl rfl ⟨(by omega), trivial⟩ ?_
            refine next (k + 1) rfl rfl ⟨rfl, trivial⟩ trivial ?_ ?_
            · omega
            · exact ⟨by omega, by rw [← hk2, drop_getD (k := k) (by omega), List.all_cons]; generalize ((s.getD k 0).toNat : Int) = z at *; simp [letter, *]⟩
          · have p17 := df h15
            refine go tbv1ok 6 rfl rfl trivial ?_
            refine cnd rfl (fun h18 => ?_) (fun h18 => ?_)
            · have p19 := dt h18
              refine go tbv1ok 8 rfl rfl ⟨(by omega), trivial⟩ ?_
              refine next (k + 1) rfl rfl ⟨rfl, trivial⟩ trivial ?_ ?_
              · omega
              · exact ⟨by omega, by rw [← hk2, drop_getD (k := k) (by omega), List.all_cons]; generalize ((s.getD k 0).toNat : Int) = z at *; simp [letter, *]⟩
            · have p20 := df h18
              refine go tbv1ok 12 rfl rfl trivial ?_
              refine rt1 rfl rfl ?_
              refine ple ?_
              refine congrArg PV.bool ?_; first | (rw [← hk2, drop_getD (k := k) (by omega), List.all_cons]; generalize ((s.getD k 0).toNat : Int) = z at *; simp [letter, *]; done) | (rw [← hk2, List.drop_of_length_le (by omega)]; rfl)
    · have p21 := df h2
      refine go tbv1ok 11 rfl rfl trivial ?_
      refine rt1 rfl rfl ?_
      refine ple ?_
      refine congrArg PV.bool ?_; first | (rw [← hk2, drop_getD (k := k) (by omega), List.all_cons]; generalize ((s.getD k 0).toNat : Int) = z at *; simp [letter, *]; done) | (rw [← hk2, List.drop_of_length_le (by omega)]; rfl)
theorem words_Name (s : Bs) : Fn Tryz.prog gb 86 [.str s] (.int .i64 (nameE s)) := by
  refine fn_cw tbv1ok Tryz.func86 rfl Tryz.ntmps86 rfl cb86 rfl rfl fun w N H hG => ?_
  have s_l : s.length ≤ 9223372036854775807 := w.1
  refine go tbv1ok 14 rfl rfl trivial ?_
  refine cnd rfl (fun h1 => ?_) (fun h1 => ?_)
  · have p2 := dt h1
    refine go tbv1ok 8 rfl rfl trivial ?_
    refine rt1 rfl rfl ?_
    refine ple ?_
    simp [nameE, *] <;> omega
  · have p3 := df h1
    refine go tbv1ok 8 rfl rfl trivial ?_
    refine cnd rfl (fun h4 => ?_) (fun h4 => ?_)
    · have p5 := dt h4
      refine go tbv1ok 8 rfl rfl trivial ?_
      refine rt1 rfl rfl ?_
      refine ple ?_
      simp [nameE, *] <;> omega
    · have p6 := df h4
      refine go tbv1ok 3 rfl rfl trivial ?_
      refine call (words_plain _) rfl rfl fun w7 => ?_
      refine go tbv1ok 4 rfl rfl trivial ?_
      refine cnd rfl (fun h8 => ?_) (fun h8 => ?_)
      · have h9 := not_t h8
        refine go tbv1ok 8 rfl rfl trivial ?_
        refine rt1 rfl rfl ?_
        refine ple ?_
        simp [nameE, *] <;> omega
      · have h10 := not_f h8
        refine go tbv1ok 9 rfl rfl trivial ?_
        refine rt1 rfl rfl ?_
        refine ple ?_
        simp [nameE, *] <;> omega
end Go.SW.V
set_option linter.unusedVariables false
set_option maxRecDepth 100000
set_option maxHeartbeats 4000000
namespace Go.SW.V
open Go.SW Go.Proofs
theorem cb60 : Callable Tryz.prog 60 := callable_of Tryz.func60 (by kernel_rfl) (by kernel_rfl)
theorem cb62 : Callable Tryz.prog 62 := callable_of Tryz.func62 (by kernel_rfl) (by kernel_rfl)
theorem cb63 : Callable Tryz.prog 63 := callable_of Tryz.func63 (by kernel_rfl) (by kernel_rfl)
theorem cb64 : Callable Tryz.prog 64 := callable_of Tryz.func64 (by kernel_rfl) (by kernel_rfl)
def tbv2 : Tb := [(3, ⟨.int .i64, 1, 8, [.int .i64 0]⟩),
  (9, ⟨.str, 1, 16, [.str []]⟩),
  (25, ⟨.int .u64, 1, 8, [.int .u64 0]⟩),
  (39, ⟨.int .i64, 1, 8, [.int .i64 0]⟩),
  (109, ⟨.agg [(0, 1), (1, 1)], 2, 24, [.str [], .int .i64 0]⟩)]
theorem tbv2ok : tbB Tryz.prog tbv2 = true := by kernel_rfl
theorem out_Num (o : Out) (n bytes : Int) (hlen : o.s.length ≤ 4611686018427387904) : Fn Tryz.prog gb 63 [.agg (Out.pc o), .int .u64 n, .int .i64 bytes] (.agg (Out.pc (outNum o n bytes))) :=
  fn_of_pr (vs := [.agg [str o.s, .int .i64 o.err].toArray, .int .u64 n, .int .i64 bytes]) (v := .agg [str (outNum o n bytes).s, .int .i64 (outNum o n bytes).err].toArray) cb63 rfl rfl
    (fun w H => Sims.cons (Sim.toAgg (Sims.cons (Sim.str w.1.1) (Sims.cons (Sim.int w.1.2.1.1 w.1.2.1.2) Sims.nil))) (Sims.cons (Sim.int w.2.1.1 w.2.1.2) (Sims.cons (Sim.int w.2.2.1.1 w.2.2.1.2) Sims.nil)))
    (fun w H => Sim.toAgg (Sims.cons (Sim.str (by have := outNum_len o n bytes; omega)) (Sims.cons (Sim.int w.1.2.1.1 w.1.2.1.2) Sims.nil)))
    (fun w H hG => SW.out_Num H o n w.2.1 bytes w.2.2.1 hlen)
theorem out_Raw (o : Out) (s : Bs) (hlen : o.s.length + s.length ≤ 4611686018427387904) : Fn Tryz.prog gb 62 [.agg (Out.pc o), .str s] (.agg (Out.pc (outRaw o s))) := by
  refine fn_cw tbv2ok Tryz.func62 rfl Tryz.ntmps62 rfl cb62 rfl rfl fun w N H hG => ?_
  have s_l : s.length ≤ 9223372036854775807 := w.2.1
  refine go tbv2ok 2 rfl rfl trivial ?_
  refine ef (boxA 0 rfl rfl rfl fun b1 => ?_)
  refine ef (alloc tbv2ok 1 rfl rfl rfl rfl fun b2 => ?_)
  refine go tbv2ok 9 rfl rfl ⟨(by first | omega | (simp <;> omega)), trivial⟩ ?_
  refine ef (store1 tbv2ok rfl rfl rfl rfl rfl rfl rfl rfl rfl ?_)
  refine go tbv2ok 5 rfl rfl trivial ?_
  refine ef (storeA tbv2ok rfl rfl rfl rfl rfl rfl rfl rfl rfl rfl ?_)
  refine go tbv2ok 3 rfl rfl trivial ?_
  refine rt1 rfl rfl ?_
  refine ple ?_
  rfl
theorem out_String (o : Out) : Fn Tryz.prog gb 64 [.agg (Out.pc o)] (.str o.s) := by
  refine fn_cw tbv2ok Tryz.func64 rfl Tryz.ntmps64 rfl cb64 rfl rfl fun w N H hG => ?_
  refine go tbv2ok 2 rfl rfl trivial ?_
  refine ef (boxA 0 rfl rfl rfl fun b1 => ?_)
  refine go tbv2ok 11 rfl rfl trivial ?_
  refine rt1 rfl rfl ?_
  refine ple ?_
  rfl
theorem out_Text (o : Out) (s : Bs) (hlen : o.s.length + s.length ≤ 4611686018427386000) : Fn Tryz.prog gb 60 [.agg (Out.pc o), .str s] (.agg (Out.pc (outText o s))) := by
  refine fn_cw tbv2ok Tryz.func60 rfl Tryz.ntmps60 rfl cb60 rfl rfl fun w N H hG => ?_
  have s_l : s.length ≤ 9223372036854775807 := w.2.1
  refine go tbv2ok 2 rfl rfl trivial ?_
  refine ef (boxA 0 rfl rfl rfl fun b1 => ?_)
  refine ef (alloc tbv2ok 1 rfl rfl rfl rfl fun b2 => ?_)
  refine go tbv2ok 10 rfl rfl trivial ?_
  refine cnd rfl (fun h3 => ?_) (fun h3 => ?_)
  · have p4 := dt h3
    refine go tbv2ok 8 rfl rfl trivial ?_
    refine cnd rfl (fun h5 => ?_) (fun h5 => ?_)
    · have p6 := dt h5
      refine go tbv2ok 2 rfl rfl trivial ?_
      refine ef (store1 tbv2ok rfl rfl rfl rfl rfl rfl rfl rfl rfl ?_)
      refine go tbv2ok 5 rfl rfl trivial ?_
      refine ef (storeA tbv2ok rfl rfl rfl rfl rfl rfl rfl rfl rfl rfl ?_)
      refine go tbv2ok 4 rfl rfl trivial ?_
      refine rt1 rfl rfl ?_
      refine ple ?_
      simp [outText, Out.pc, *]
    · have p7 := df h5
      refine go tbv2ok 5 rfl rfl trivial ?_
      refine ef (storeA tbv2ok rfl rfl rfl rfl rfl rfl rfl rfl rfl rfl ?_)
      refine go tbv2ok 4 rfl rfl trivial ?_
      refine rt1 rfl rfl ?_
      refine ple ?_
      simp [outText, Out.pc, *]
  · have p8 := df h3
    refine go tbv2ok 7 rfl rfl trivial ?_
    refine q1 (qconv tbv2ok rfl rfl rfl rfl (rg_u64 (by omega))) rfl fun w9 => ?_
    refine call (out_Num _ _ _ (by first | omega | (have := hrl (by assumption); omega) | (simp [outNum, outRaw, numB_len, numK] <;> omega) | (have := hrl (by assumption); simp [outNum, outRaw, numB_len, numK] <;> omega))) rfl rfl fun w10 => ?_
    have := outNum_len o (s.length : Int) 2
    refine go tbv2ok 1 rfl rfl trivial ?_
    refine call (out_Raw _ _ (by first | omega | (have := hrl (by assumption); omega) | (simp [outNum, outRaw, numB_len, numK] <;> omega) | (have := hrl (by assumption); simp [outNum, outRaw, numB_len, numK] <;> omega))) rfl rfl fun w11 => ?_
    have := outRaw_len (outNum o (s.length : Int) 2) s
    refine ef (storeA tbv2ok rfl rfl rfl rfl rfl rfl rfl rfl rfl rfl ?_)
    refine go tbv2ok 3 rfl rfl trivial ?_
    refine rt1 rfl rfl ?_
    refine ple ?_
    simp [outText, Out.pc, *]
end Go.SW.V
set_option linter.unusedVariables false
set_option maxRecDepth 100000
set_option maxHeartbeats 4000000
namespace Go.SW.V
open Go.SW Go.Proofs
theorem cb102 : Callable Tryz.prog 102 := callable_of Tryz.func102 (by kernel_rfl) (by kernel_rfl)
theorem cb45 : Callable Tryz.prog 45 := callable_of Tryz.func45 (by kernel_rfl) (by kernel_rfl)
theorem cb82 : Callable Tryz.prog 82 := callable_of Tryz.func82 (by kernel_rfl) (by kernel_rfl)
def tbv3 : Tb := [(9, ⟨.str, 1, 16, [.str []]⟩),
  (39, ⟨.int .i64, 1, 8, [.int .i64 0]⟩),
  (126, ⟨.agg [(0, 1), (1, 1)], 2, 24, [.str [], .int .i64 0]⟩)]
theorem tbv3ok : tbB Tryz.prog tbv3 = true := by kernel_rfl
theorem octet_New (s : Bs) : Fb Tryz.prog gb 45 [.str s] 126 (In.pc (⟨s, 0⟩)) := by
  refine fb_cw tbv3ok Tryz.func45 rfl Tryz.ntmps45 rfl cb45 rfl rfl fun w N H hG => ?_
  have s_l : s.length ≤ 9223372036854775807 := w.1
  refine go tbv3ok 9 rfl rfl trivial ?_
  refine ef (boxA 0 rfl rfl rfl fun b1 => ?_)
  refine go tbv3ok 4 rfl rfl trivial ?_
  refine rb rfl rfl rfl rfl rfl ?_
  exact ples_rfl
theorem in_Fail (i : In) (code : Int) : Fm Tryz.prog gb 82 [.int .i64 code] 126 (In.pc i) (.tup []) (In.pc (inFail i code)) := by
  refine fm_cw tbv3ok Tryz.func82 rfl Tryz.ntmps82 rfl cb82 rfl rfl rfl rfl fun w wp b N H hG => ?_
  have code_r : -9223372036854775808 ≤ code ∧ code ≤ 9223372036854775807 := w.1
  refine go tbv3ok 3 rfl rfl trivial ?_
  refine q1 (qpne Tryz.underlying90 rfl rfl) rfl fun w1 => ?_
  refine go tbv3ok 13 rfl rfl ⟨(fun hc => hc), (fun hc => hc), (fun hc => hc), (fun hc => hc), rfl, rfl, (fun hc => hc), rfl, rfl, trivial⟩ ?_
  refine cnd rfl (fun h2 => ?_) (fun h2 => ?_)
  · have h3 := bl h2
    have h4 := bl h3
    have h5 := br h3
    have p6 := dt h5
    have h7 := br h2
    have h8 := not_t h7
    have p9 := df h8
    refine go tbv3ok 6 rfl rfl trivial ?_
    refine ef (store1 tbv3ok rfl rfl rfl rfl rfl rfl rfl rfl rfl ?_)
    refine go tbv3ok 2 rfl rfl trivial ?_
    refine ef (store1 tbv3ok rfl rfl rfl rfl rfl rfl rfl rfl rfl ?_)
    refine go tbv3ok 1 rfl rfl trivial ?_
    refine rm0n rfl rfl ?_ rfl rfl rfl ?_
    · exact ple (by first | rfl | (simp [inFail, *]; done))
    · refine ples ?_
      first | rfl | (simp [inFail, In.pc, *]; done) | (simp only [inFail]; split <;> simp_all [In.pc])
  · refine go tbv3ok 1 rfl rfl trivial ?_
    refine rm0n rfl rfl ?_ rfl rfl rfl ?_
    · exact ple (by first | rfl | (simp [inFail, *]; done))
    · refine ples ?_
      first | rfl | (simp [inFail, In.pc, *]; done) | (simp only [inFail]; split <;> simp_all [In.pc])
theorem in_Raw (i : In) (n : Int) : Fm Tryz.prog gb 102 [.int .i64 n] 126 (In.pc i) (.str ((inRaw i n).1)) (In.pc ((inRaw i n).2)) := by
  refine fm_cw tbv3ok Tryz.func102 rfl Tryz.ntmps102 rfl cb102 rfl rfl rfl rfl fun w wp b N H hG => ?_
  have n_r : -9223372036854775808 ≤ n ∧ n ≤ 9223372036854775807 := w.1
  refine go tbv3ok 11 rfl rfl trivial ?_
  refine q1 (qpeq Tryz.underlying90 rfl rfl) rfl fun w1 => ?_
  refine go tbv3ok 14 rfl rfl trivial ?_
  refine cnd rfl (fun h2 => ?_) (fun h2 => ?_)
  · have h3 := not_t h2
    have p4 := df h3
    refine go tbv3ok 2 rfl rfl trivial ?_
    refine cndT rfl h2 ?_
    refine go tbv3ok 8 rfl rfl trivial ?_
    refine rm1 rfl rfl ?_ rfl rfl rfl ?_
    · exact ple (by first | rfl | (simp [inRaw, inFail, *]; done))
    · refine ples ?_
      first | rfl | (simp [inRaw, inFail, In.pc, *]; done) | (simp only [inRaw, inFail]; split <;> simp_all [In.pc])
  · have h5 := not_f h2
    have p6 := dt h5
    refine go tbv3ok 6 rfl rfl trivial ?_
    refine cnd rfl (fun h7 => ?_) (fun h7 => ?_)
    · have p8 := dt h7
      refine go tbv3ok 8 rfl rfl trivial ?_
      refine rm1 rfl rfl ?_ rfl rfl rfl ?_
      · exact ple (by first | rfl | (simp [inRaw, inFail, *]; done))
      · refine ples ?_
        first | rfl | (simp [inRaw, inFail, In.pc, *]; done) | (simp only [inRaw, inFail]; split <;> simp_all [In.pc])
    · have p9 := df h7
      refine go tbv3ok 12 rfl rfl trivial ?_
      refine cnd rfl (fun h10 => ?_) (fun h10 => ?_)
      · have p11 := dt h10
        refine go tbv3ok 3 rfl rfl trivial ?_
        refine ef (ecallm (in_Fail _ _) rfl rfl rfl rfl rfl fun w12 w12p => ?_)
        refine go tbv3ok 10 rfl rfl trivial ?_
        refine rm1 rfl rfl ?_ rfl rfl rfl ?_
        · exact ple (by first | rfl | (simp [inRaw, inFail, *]; done))
        · refine ples ?_
          first | rfl | (simp [inRaw, inFail, In.pc, *]; done) | (simp only [inRaw, inFail]; split <;> simp_all [In.pc])
      · have p13 := df h10
        refine go tbv3ok 10 rfl rfl trivial ?_
        refine q1 (sshi tbv3ok (n).toNat rfl rfl rfl rfl (by omega) (by omega)) rfl fun w14 => ?_
        refine go tbv3ok 11 rfl rfl trivial ?_
        refine q1 (sslo tbv3ok (n).toNat rfl rfl rfl rfl (by omega) (by omega)) rfl fun w15 => ?_
        refine go tbv3ok 2 rfl rfl trivial ?_
        refine ef (store1 tbv3ok rfl rfl rfl rfl rfl rfl rfl rfl rfl ?_)
        refine go tbv3ok 9 rfl rfl trivial ?_
        refine rm1 rfl rfl ?_ rfl rfl rfl ?_
        · exact ple (by first | rfl | (simp [inRaw, inFail, *]; done))
        · refine ples ?_
          first | rfl | (simp [inRaw, inFail, In.pc, *]; done) | (simp only [inRaw, inFail]; split <;> simp_all [In.pc])
end Go.SW.V
set_option linter.unusedVariables false
set_option maxRecDepth 100000
set_option maxHeartbeats 4000000
namespace Go.SW.V
open Go.SW Go.Proofs
theorem cb111 : Callable Tryz.prog 111 := callable_of Tryz.func111 (by kernel_rfl) (by kernel_rfl)
theorem cb119 : Callable Tryz.prog 119 := callable_of Tryz.func119 (by kernel_rfl) (by kernel_rfl)
theorem cb126 : Callable Tryz.prog 126 := callable_of Tryz.func126 (by kernel_rfl) (by kernel_rfl)
theorem cb94 : Callable Tryz.prog 94 := callable_of Tryz.func94 (by kernel_rfl) (by kernel_rfl)
def tbv4 : Tb := [(9, ⟨.str, 1, 16, [.str []]⟩),
  (119, ⟨.slc 9, 1, 24, [.sl strc []]⟩)]
theorem tbv4ok : tbB Tryz.prog tbv4 = true := by kernel_rfl
theorem strings_Split (s p : Bs) (hp : p = [46]) (hs : s.length < 4294967281) : Fn Tryz.prog gb 126 [.str s, .str p] (.sl strc (dots s)) :=
  ⟨cb126, rfl, fun N H L w us hg hsim hm => by
    obtain ⟨v1, _, rfl, h1, h2⟩ := hsim.inv_cons
    obtain ⟨v2, _, rfl, h3, h4⟩ := h2.inv_cons
    cases h4.inv_nil
    rw [h1.inv_str.1, h3.inv_str.1]
    refine (SW.strings_Split H s p hp (gbML hg) hs N L w hm).mono fun _ _ ⟨v, H', h5, ⟨a, c, h6, h7⟩, h8, h9⟩ => ⟨v, H', h5, ?_, h8, h9⟩
    rw [h6]
    exact Sim.of_slh (k := 1) ⟨h7.1, fun m hm => by
      obtain ⟨cs, hE, hat⟩ := h7.2 m hm
      obtain ⟨hE1, hE2⟩ := hE
      subst hE1
      exact ⟨_, ⟨rfl, Sims.nil.cons (Sim.str hE2), fun u hu => by simp at hu; subst hu; rfl⟩, hat⟩⟩ (by have := dots_le s; omega)⟩
theorem words_Split (s : Bs) (hs : s.length < 4294967281) : Fn Tryz.prog gb 119 [.str s] (.sl strc (wordsOf s)) := by
  refine fn_cw tbv4ok Tryz.func119 rfl Tryz.ntmps119 rfl cb119 rfl rfl fun w N H hG => ?_
  have s_l : s.length ≤ 9223372036854775807 := w.1
  refine go tbv4ok 12 rfl rfl trivial ?_
  refine cnd rfl (fun h1 => ?_) (fun h1 => ?_)
  · have p2 := dt h1
    refine go tbv4ok 7 rfl rfl trivial ?_
    refine rt1 rfl rfl ?_
    refine ple_nilx ?_
    simp [wordsOf, *]
  · have p3 := df h1
    refine go tbv4ok 5 rfl rfl trivial ?_
    refine call (strings_Split _ _ (by rfl) (by omega)) rfl rfl fun w4 => ?_
    refine go tbv4ok 4 rfl rfl trivial ?_
    refine rt1 rfl rfl ?_
    refine ple ?_
    simp [wordsOf, *]
theorem words_key (s : Bs) (besides : List Bs) : Fn Tryz.prog gb 111 [.str s, .sl strc besides] (.int .i64 (keyE besides s)) := by
  refine fn_cw tbv4ok Tryz.func111 rfl Tryz.ntmps111 rfl cb111 rfl rfl fun w N H hG => ?_
  have s_l : s.length ≤ 9223372036854775807 := w.1
  have besides_l : besides.length ≤ 140737488355328 := w.2.1.1
  refine go tbv4ok 14 rfl rfl trivial ?_
  refine cnd rfl (fun h1 => ?_) (fun h1 => ?_)
  · have p2 := dt h1
    refine go tbv4ok 8 rfl rfl trivial ?_
    refine rt1 rfl rfl ?_
    refine ple ?_
    simp [keyE, *]
  · have p3 := df h1
    refine go tbv4ok 9 rfl rfl trivial ?_
    refine call (words_Split _ (by omega)) rfl rfl fun w4 => ?_
    refine go tbv4ok 5 rfl rfl trivial ?_
    refine loop (ι := Nat) [0, 1, 9, 10, 11, 12, 13, 14] [] (fun k => [(15, .int .i64 (k : Int))]) (fun k => []) (fun k => k ≤ (wordsOf s).length ∧ (wordsOf s).any (isBad besides) = ((wordsOf s).drop k).any (isBad besides)) (fun k => (wordsOf s).length - k) 0 ⟨rfl, trivial⟩ trivial ?_ ?_
    · exact ⟨Nat.zero_le _, by simp⟩
    · rintro k hp5
      obtain ⟨hk1, hk2⟩ := hp5
      have hwl := words_le s
      refine go tbv4ok 6 rfl rfl trivial ?_
      refine cnd rfl (fun h6 => ?_) (fun h6 => ?_)
      · have p7 := dt h6
        obtain ⟨c8, hc9⟩ := getE (xs := wordsOf s) (m := k) (by omega)
        have c8_l : c8.length ≤ 9223372036854775807 := (w4.2 c8 (List.mem_of_getElem? hc9)).1
        refine go tbv4ok 6 rfl rfl trivial ?_
        refine q1 (qidx tbv4ok k rfl rfl rfl hc9 rfl rfl rfl rfl) rfl fun w10 => ?_
        refine go tbv4ok 13 rfl rfl trivial ?_
        refine loop (ι := Nat) [0, 1, 6, 9, 10, 11, 12, 13, 14, 15, 16, 17, 18, 19, 20] [] (fun j => [(21, .int .i64 (j : Int))]) (fun j => []) (fun j => j ≤ besides.length ∧ besides.contains c8 = (besides.drop j).contains c8) (fun j => besides.length - j) 0 ⟨rfl, trivial⟩ trivial ?_ ?_
        · exact ⟨Nat.zero_le _, by simp⟩
        · rintro j hp11
          obtain ⟨hj1, hj2⟩ := hp11
          refine go tbv4ok 6 rfl rfl trivial ?_
          refine cnd rfl (fun h12 => ?_) (fun h12 => ?_)
          · have p13 := dt h12
            obtain ⟨c14, hc15⟩ := getE (xs := besides) (m := j) (by omega)
            have c14_l : c14.length ≤ 9223372036854775807 := (w.2.1.2 c14 (List.mem_of_getElem? hc15)).1
            refine go tbv4ok 6 rfl rfl trivial ?_
            refine q1 (qidx tbv4ok j rfl rfl rfl hc15 rfl rfl rfl rfl) rfl fun w16 => ?_
            refine go tbv4ok 11 rfl rfl trivial ?_
            refine cnd rfl (fun h17 => ?_) (fun h17 => ?_)
            · have p18 := dt h17
              refine go tbv4ok 12 rfl rfl ⟨(by omega), trivial⟩ ?_
              refine next (k + 1) rfl rfl ⟨rfl, trivial⟩ trivial ?_ ?_
              · omega
              · refine ⟨by omega, ?_⟩
                rw [hk2, dropE hc9, List.any_cons]
                have hb : isBad besides c8 = false := by
                  unfold isBad
                  rw [hj2, dropE hc15]
                  first | (simp [*]; done) | simp_all
                simp [hb]
            · have p19 := df h17
              refine go tbv4ok 7 rfl rfl ⟨(by omega), trivial⟩ ?_
              refine next (j + 1) rfl rfl ⟨rfl, trivial⟩ trivial ?_ ?_
              · omega
              · refine ⟨by omega, ?_⟩
                rw [hj2, dropE hc15, List.contains_cons]
                simp [*]
          · have p20 := df h12
            refine go tbv4ok 11 rfl rfl trivial ?_
            refine callg rfl (fun hc => (words_plain _)) rfl ⟨(fun hc => hc), trivial⟩ rfl rfl fun _ => ?_
            refine go tbv4ok 4 rfl rfl ⟨(fun hc => hc), rfl, rfl, trivial⟩ ?_
            refine cnd rfl (fun h21 => ?_) (fun h21 => ?_)
            · refine go tbv4ok 12 rfl rfl trivial ?_
              refine rt1 rfl rfl ?_
              refine ple ?_
              have hb : isBad besides c8 = true := by
                unfold isBad
                rw [hj2, List.drop_of_length_le (by omega)]
                first | (simp [*]; done) | simp_all
              unfold keyE
              rw [if_neg (by omega), hk2, dropE hc9, List.any_cons, hb]
              rfl
            · have h22 := orl h21
              have p23 := df h22
              have h24 := orr h21
              have h25 := not_f h24
              refine go tbv4ok 7 rfl rfl ⟨(by omega), trivial⟩ ?_
              refine next (k + 1) rfl rfl ⟨rfl, trivial⟩ trivial ?_ ?_
              · omega
              · refine ⟨by omega, ?_⟩
                rw [hk2, dropE hc9, List.any_cons]
                have hb : isBad besides c8 = false := by
                  unfold isBad
                  rw [hj2, List.drop_of_length_le (by omega)]
                  first | (simp [*]; done) | simp_all
                simp [hb]
      · have p26 := df h6
        refine go tbv4ok 12 rfl rfl trivial ?_
        refine rt1 rfl rfl ?_
        refine ple ?_
        unfold keyE
        rw [if_neg (by omega), hk2, List.drop_of_length_le (by omega)]
        rfl
theorem words_Key (s : Bs) : Fn Tryz.prog gb 94 [.str s] (.int .i64 (keyE [] s)) := by
  refine fn_cw tbv4ok Tryz.func94 rfl Tryz.ntmps94 rfl cb94 rfl rfl fun w N H hG => ?_
  have s_l : s.length ≤ 9223372036854775807 := w.1
  refine go tbv4ok 8 rfl rfl trivial ?_
  refine call (Fn.le (words_key _ []) (ples_cons (ple rfl) (ples_cons ple_nil ples_nil)) (ple rfl) rfl) rfl rfl fun w1 => ?_
  refine go tbv4ok 4 rfl rfl trivial ?_
  refine rt1 rfl rfl ?_
  refine ple ?_
  rfl
end Go.SW.V
set_option linter.unusedVariables false
set_option maxRecDepth 100000
set_option maxHeartbeats 4000000
namespace Go.SW.V
open Go.SW Go.Proofs
theorem ag2 : Ag Tryz.prog 2 false := fun w => by kernel_rfl
theorem ag5 : Ag Tryz.prog 5 false := fun w => by kernel_rfl
theorem ag9 : Ag Tryz.prog 9 false := fun w => by kernel_rfl
theorem cb104 : Callable Tryz.prog 104 := callable_of Tryz.func104 (by kernel_rfl) (by kernel_rfl)
theorem cb114 : Callable Tryz.prog 114 := callable_of Tryz.func114 (by kernel_rfl) (by kernel_rfl)
theorem cb120 : Callable Tryz.prog 120 := callable_of Tryz.func120 (by kernel_rfl) (by kernel_rfl)
theorem cb121 : Callable Tryz.prog 121 := callable_of Tryz.func121 (by kernel_rfl) (by kernel_rfl)
theorem cb91 : Callable Tryz.prog 91 := callable_of Tryz.func91 (by kernel_rfl) (by kernel_rfl)
theorem eqg118 : Tryz.prog.eqGuardType Tryz.prog.depth 118 = false := by kernel_rfl
theorem mixd : Tryz.prog.follows .mixedOrders = true := by kernel_rfl
theorem veq118 (p q : Pair) : ∀ (H : Hp) (vs us : List Value), Sims H (Pair.pc p) vs → Sims H (Pair.pc q) us → EqV Tryz.prog 10000 118 (.agg vs.toArray) (.agg us.toArray) (decide (p = q)) := by
  intro H vs us hv hu
  obtain ⟨_, _, rfl, v0, v_0⟩ := hv.inv_cons
  obtain ⟨_, _, rfl, v1, v_1⟩ := v_0.inv_cons
  obtain ⟨_, _, rfl, v2, v_2⟩ := v_1.inv_cons
  obtain ⟨_, _, rfl, v3, v_3⟩ := v_2.inv_cons
  cases v_3.inv_nil
  cases v0.inv_str.1; cases v1.inv_int.1; cases v2.inv_int.1; cases v3.inv_str.1
  obtain ⟨_, _, rfl, u0, u_0⟩ := hu.inv_cons
  obtain ⟨_, _, rfl, u1, u_1⟩ := u_0.inv_cons
  obtain ⟨_, _, rfl, u2, u_2⟩ := u_1.inv_cons
  obtain ⟨_, _, rfl, u3, u_3⟩ := u_2.inv_cons
  cases u_3.inv_nil
  cases u0.inv_str.1; cases u1.inv_int.1; cases u2.inv_int.1; cases u3.inv_str.1
  exact EqV.to (eqv_agg Tryz.underlying118 (by kernel_rfl) (eqf_1 (by decide) ag9 rfl rfl (eqv_str Tryz.underlying9) (eqf_1 (by decide) ag5 rfl rfl (eqv_int Tryz.underlying5) (eqf_1 (by decide) ag2 rfl rfl (eqv_int Tryz.underlying2) (eqf_1 (by decide) ag9 rfl rfl (eqv_str Tryz.underlying9) eqf_nil))))) (by obtain ⟨a0, a1, a2, a3⟩ := p; obtain ⟨b0, b1, b2, b3⟩ := q; rw [Bool.eq_iff_iff]; simp)
def tbv5 : Tb := [(2, ⟨.int .i64, 1, 8, [.int .i64 0]⟩),
  (5, ⟨.int .u8, 1, 1, [.int .u8 0]⟩),
  (9, ⟨.str, 1, 16, [.str []]⟩),
  (26, ⟨.slc 118, 1, 24, [.sl Pair.pc []]⟩),
  (118, ⟨.agg [(0, 1), (1, 1), (2, 1), (3, 1)], 4, 48, [.str [], .int .u8 0, .int .i64 0, .str []]⟩)]
theorem tbv5ok : tbB Tryz.prog tbv5 = true := by kernel_rfl
theorem idxF_Pair (s : List Pair) (f : FuncId) (f_fst f_cap : List PV) (f_p : Pair → Bool) (f_h : ∀ x, Fn Tryz.prog gb f (argsP.apL f_fst ((.agg (Pair.pc x)) :: f_cap)) (.bool (f_p x))) : Fn Tryz.prog gb 120 [.sl Pair.pc s, .fn f f_fst f_cap] (.int .i64 (idxP f_p s)) := by
  refine fn_cw tbv5ok Tryz.func120 rfl Tryz.ntmps120 rfl cb120 rfl rfl fun w N H hG => ?_
  have s_l : s.length ≤ 140737488355328 := w.1.1
  refine go tbv5ok 14 rfl rfl trivial ?_
  refine loop (ι := Nat) [0, 1, 6, 7] [] (fun k => [(8, .int .i64 (k : Int))]) (fun k => []) (fun k => k ≤ s.length ∧ idxP f_p s = idxF f_p k (s.drop k)) (fun k => s.length - k) 0 ⟨rfl, trivial⟩ trivial ?_ ?_
  · exact ⟨Nat.zero_le _, rfl⟩
  · rintro k hp1
    obtain ⟨hk1, hk2⟩ := hp1
    refine go tbv5ok 6 rfl rfl trivial ?_
    refine cnd rfl (fun h2 => ?_) (fun h2 => ?_)
    · have p3 := dt h2
      obtain ⟨c4, hc5⟩ := getE (xs := s) (m := k) (by omega)
      have c4_w := Pair.pwf (w.1.2 c4 (List.mem_of_getElem? hc5))
      refine go tbv5ok 15 rfl rfl trivial ?_
      refine q1 (qidx tbv5ok k rfl rfl rfl hc5 rfl rfl rfl rfl) rfl fun w6 => ?_
      refine go tbv5ok 1 rfl rfl trivial ?_
      refine call (f_h c4) rfl rfl fun w7 => ?_
      refine go tbv5ok 2 rfl rfl trivial ?_
      refine cnd rfl (fun h8 => ?_) (fun h8 => ?_)
      · refine go tbv5ok 12 rfl rfl trivial ?_
        refine rt1 rfl rfl ?_
        refine ple ?_
        exact congrArg (PV.int .i64) (idx_hit hk2 (dropE hc5) (by assumption)).symm
      · refine go tbv5ok 7 rfl rfl ⟨(by omega), trivial⟩ ?_
        refine next (k + 1) rfl rfl ⟨rfl, trivial⟩ trivial ?_ ?_
        · omega
        · exact ⟨by omega, idx_miss hk2 (dropE hc5) (by assumption)⟩
    · have p9 := df h2
      refine go tbv5ok 11 rfl rfl trivial ?_
      refine rt1 rfl rfl ?_
      refine ple ?_
      exact congrArg (PV.int .i64) (idx_end hk2 (by omega)).symm
theorem head_Find1 (p : Pair) (key : Bs) : Fn Tryz.prog gb 121 [.agg (Pair.pc p), .el [.str key] 0] (.bool (decide (p.key = key))) := by
  refine fn_cw tbv5ok Tryz.func121 rfl Tryz.ntmps121 rfl cb121 rfl rfl fun w N H hG => ?_
  refine go tbv5ok 2 rfl rfl trivial ?_
  refine ef (boxA 0 rfl rfl rfl fun b1 => ?_)
  refine go tbv5ok 13 rfl rfl trivial ?_
  refine rt1 rfl rfl ?_
  refine ple ?_
  rfl
theorem head_Find (h : List Pair) (key : Bs) : Fn Tryz.prog gb 114 [.sl Pair.pc h, .str key] (.tup [.agg (Pair.pc ((findP h key).getD Pair.zero)), .bool ((findP h key).isSome)]) := by
  refine fn_cw tbv5ok Tryz.func114 rfl Tryz.ntmps114 rfl cb114 rfl rfl fun w N H hG => ?_
  have h_l : h.length ≤ 140737488355328 := w.1.1
  have key_l : key.length ≤ 9223372036854775807 := w.2.1
  refine go tbv5ok 2 rfl rfl trivial ?_
  refine ef (box1 0 rfl rfl rfl fun b1 => ?_)
  refine ef (alloc tbv5ok 1 rfl rfl rfl rfl fun b2 => ?_)
  refine go tbv5ok 6 rfl rfl trivial ?_
  refine freeze (i := 0) (t := 3) rfl rfl rfl rfl ?_
  refine go tbv5ok 1 rfl rfl trivial ?_
  refine call (idxF_Pair _ _ _ _ (fun z_3 : Pair => decide (z_3.key = key)) (fun z_3 => head_Find1 z_3 key)) rfl rfl fun w4 => ?_
  have hix4 := idxP_b (fun z_3 : Pair => decide (z_3.key = key)) h
  refine go tbv5ok 10 rfl rfl trivial ?_
  refine cnd rfl (fun h5 => ?_) (fun h5 => ?_)
  · have p6 := dt h5
    refine go tbv5ok 3 rfl rfl trivial ?_
    refine ef (storeA tbv5ok rfl rfl rfl rfl rfl rfl rfl rfl rfl rfl ?_)
    refine go tbv5ok 5 rfl rfl trivial ?_
    refine rt2 rfl rfl ?_
    refine ple ?_
    have e := idxP_neg (by assumption)
    have e2 : findP h key = none := by unfold findP; rw [← e]; congr 1; funext x; exact listBeq _ _
    rw [e2]; rfl
  · have p7 := df h5
    obtain ⟨c8, hc9⟩ := getE (xs := h) (m := (idxP (fun z_3 : Pair => decide (z_3.key = key)) h).toNat) (by omega)
    have c8_w := Pair.pwf (w.1.2 c8 (List.mem_of_getElem? hc9))
    refine go tbv5ok 6 rfl rfl trivial ?_
    refine q1 (qidx tbv5ok (idxP (fun z_3 : Pair => decide (z_3.key = key)) h).toNat rfl rfl (by omega) hc9 rfl rfl rfl rfl) rfl fun w10 => ?_
    refine go tbv5ok 1 rfl rfl trivial ?_
    refine ef (storeA tbv5ok rfl rfl rfl rfl rfl rfl rfl rfl rfl rfl ?_)
    refine go tbv5ok 4 rfl rfl trivial ?_
    refine rt2 rfl rfl ?_
    refine ple ?_
    have e := (idxP_get (by assumption) hc9).2
    have e2 : findP h key = some c8 := by unfold findP; rw [← e]; congr 1; funext x; exact listBeq _ _
    rw [e2]; rfl
theorem head_pair (p : Pair) (ahead : List Pair) : Fn Tryz.prog gb 104 [.agg (Pair.pc p), .sl Pair.pc ahead] (.int .i64 (pairErr p ahead)) := by
  refine fn_cw tbv5ok Tryz.func104 rfl Tryz.ntmps104 rfl cb104 rfl rfl fun w N H hG => ?_
  have ahead_l : ahead.length ≤ 140737488355328 := w.2.1.1
  refine go tbv5ok 2 rfl rfl trivial ?_
  refine ef (boxA 0 rfl rfl rfl fun b1 => ?_)
  refine go tbv5ok 8 rfl rfl trivial ?_
  refine call (words_Name _) rfl rfl fun w2 => ?_
  refine go tbv5ok 9 rfl rfl trivial ?_
  refine cnd rfl (fun h3 => ?_) (fun h3 => ?_)
  · have h4 := not_t h3
    have p5 := df h4
    refine go tbv5ok 8 rfl rfl trivial ?_
    refine rt1 rfl rfl ?_
    refine ple ?_
    refine congrArg (PV.int .i64) ?_
    simp only [Bool.or_eq_true, Bool.and_eq_true, Bool.not_eq_true', decide_eq_true_eq, Bool.or_eq_false_iff, Bool.and_eq_false_iff, Bool.not_eq_false', decide_eq_false_iff_not, beq_iff_eq, beq_eq_false_iff_ne] at *
    unfold pairErr
    (repeat' split) <;> first | rfl | (exfalso; omega) | (exfalso; simp_all; done) | (exfalso; simp_all; omega) | grind
  · have h6 := not_f h3
    have p7 := dt h6
    refine go tbv5ok 7 rfl rfl trivial ?_
    refine call (head_Find _ _) rfl rfl fun w8 => ?_
    refine go tbv5ok 3 rfl rfl trivial ?_
    refine ef (alloc tbv5ok 1 rfl rfl rfl rfl fun b9 => ?_)
    refine ef (storeA tbv5ok rfl rfl rfl rfl rfl rfl rfl rfl rfl rfl ?_)
    refine go tbv5ok 13 rfl rfl trivial ?_
    refine cnd rfl (fun h10 => ?_) (fun h10 => ?_)
    · have p11 := dt h10
      refine go tbv5ok 8 rfl rfl trivial ?_
      refine rt1 rfl rfl ?_
      refine ple ?_
      refine congrArg (PV.int .i64) ?_
      simp only [Bool.or_eq_true, Bool.and_eq_true, Bool.not_eq_true', decide_eq_true_eq, Bool.or_eq_false_iff, Bool.and_eq_false_iff, Bool.not_eq_false', decide_eq_false_iff_not, beq_iff_eq, beq_eq_false_iff_ne] at *
      unfold pairErr
      (repeat' split) <;> first | rfl | (exfalso; omega) | (exfalso; simp_all; done) | (exfalso; simp_all; omega) | grind
    · have p12 := df h10
      refine go tbv5ok 14 rfl rfl ⟨(fun hc => hc), (fun hc => hc), (fun hc => hc), rfl, rfl, trivial⟩ ?_
      refine cnd rfl (fun h13 => ?_) (fun h13 => ?_)
      · have h14 := bl h13
        have p15 := dt h14
        have h16 := br h13
        have p17 := dt h16
        refine go tbv5ok 8 rfl rfl trivial ?_
        refine rt1 rfl rfl ?_
        refine ple ?_
        refine congrArg (PV.int .i64) ?_
        simp only [Bool.or_eq_true, Bool.and_eq_true, Bool.not_eq_true', decide_eq_true_eq, Bool.or_eq_false_iff, Bool.and_eq_false_iff, Bool.not_eq_false', decide_eq_false_iff_not, beq_iff_eq, beq_eq_false_iff_ne] at *
        unfold pairErr
        (repeat' split) <;> first | rfl | (exfalso; omega) | (exfalso; simp_all; done) | (exfalso; simp_all; omega) | grind
      · refine go tbv5ok 18 rfl rfl ⟨(fun hc => hc), (fun hc => hc), rfl, rfl, (fun hc => hc), (fun hc => hc), rfl, rfl, trivial⟩ ?_
        refine cnd rfl (fun h18 => ?_) (fun h18 => ?_)
        · have h19 := bl h18
          have h20 := bl h19
          have p21 := dt h20
          have h22 := br h19
          have h23 := not_t h22
          have p24 := df h23
          have h25 := br h18
          have h26 := not_t h25
          have p27 := df h26
          refine go tbv5ok 8 rfl rfl trivial ?_
          refine rt1 rfl rfl ?_
          refine ple ?_
          refine congrArg (PV.int .i64) ?_
          simp only [Bool.or_eq_true, Bool.and_eq_true, Bool.not_eq_true', decide_eq_true_eq, Bool.or_eq_false_iff, Bool.and_eq_false_iff, Bool.not_eq_false', decide_eq_false_iff_not, beq_iff_eq, beq_eq_false_iff_ne] at *
          unfold pairErr
          (repeat' split) <;> first | rfl | (exfalso; omega) | (exfalso; simp_all; done) | (exfalso; simp_all; omega) | grind
        · refine go tbv5ok 14 rfl rfl ⟨(fun hc => hc), (fun hc => hc), rfl, rfl, trivial⟩ ?_
          refine cnd rfl (fun h28 => ?_) (fun h28 => ?_)
          · have h29 := bl h28
            have p30 := dt h29
            have h31 := br h28
            have h32 := not_t h31
            have p33 := df h32
            refine go tbv5ok 2 rfl rfl trivial ?_
            refine cndT rfl h28 ?_
            refine go tbv5ok 8 rfl rfl trivial ?_
            refine rt1 rfl rfl ?_
            refine ple ?_
            refine congrArg (PV.int .i64) ?_
            simp only [Bool.or_eq_true, Bool.and_eq_true, Bool.not_eq_true', decide_eq_true_eq, Bool.or_eq_false_iff, Bool.and_eq_false_iff, Bool.not_eq_false', decide_eq_false_iff_not, beq_iff_eq, beq_eq_false_iff_ne] at *
            unfold pairErr
            (repeat' split) <;> first | rfl | (exfalso; omega) | (exfalso; simp_all; done) | (exfalso; simp_all; omega) | grind
          · refine go tbv5ok 12 rfl rfl ⟨(fun hc => hc), (fun hc => hc), rfl, rfl, trivial⟩ ?_
            refine cnd rfl (fun h34 => ?_) (fun h34 => ?_)
            · have h35 := bl h34
              have h36 := not_t h35
              have p37 := df h36
              have h38 := br h34
              have h39 := not_t h38
              have p40 := df h39
              refine go tbv5ok 8 rfl rfl trivial ?_
              refine rt1 rfl rfl ?_
              refine ple ?_
              refine congrArg (PV.int .i64) ?_
              simp only [Bool.or_eq_true, Bool.and_eq_true, Bool.not_eq_true', decide_eq_true_eq, Bool.or_eq_false_iff, Bool.and_eq_false_iff, Bool.not_eq_false', decide_eq_false_iff_not, beq_iff_eq, beq_eq_false_iff_ne] at *
              unfold pairErr
              (repeat' split) <;> first | rfl | (exfalso; omega) | (exfalso; simp_all; done) | (exfalso; simp_all; omega) | grind
            · refine go tbv5ok 6 rfl rfl trivial ?_
              refine cnd rfl (fun h41 => ?_) (fun h41 => ?_)
              · refine go tbv5ok 8 rfl rfl trivial ?_
                refine rt1 rfl rfl ?_
                refine ple ?_
                refine congrArg (PV.int .i64) ?_
                simp only [Bool.or_eq_true, Bool.and_eq_true, Bool.not_eq_true', decide_eq_true_eq, Bool.or_eq_false_iff, Bool.and_eq_false_iff, Bool.not_eq_false', decide_eq_false_iff_not, beq_iff_eq, beq_eq_false_iff_ne] at *
                unfold pairErr
                (repeat' split) <;> first | rfl | (exfalso; omega) | (exfalso; simp_all; done) | (exfalso; simp_all; omega) | grind
              · refine go tbv5ok 9 rfl rfl trivial ?_
                refine rt1 rfl rfl ?_
                refine ple ?_
                refine congrArg (PV.int .i64) ?_
                simp only [Bool.or_eq_true, Bool.and_eq_true, Bool.not_eq_true', decide_eq_true_eq, Bool.or_eq_false_iff, Bool.and_eq_false_iff, Bool.not_eq_false', decide_eq_false_iff_not, beq_iff_eq, beq_eq_false_iff_ne] at *
                unfold pairErr
                (repeat' split) <;> first | rfl | (exfalso; omega) | (exfalso; simp_all; done) | (exfalso; simp_all; omega) | grind
theorem head_Check (h : List Pair) : Fn Tryz.prog gb 91 [.sl Pair.pc h] (.int .i64 (headE h)) := by
  refine fn_cw tbv5ok Tryz.func91 rfl Tryz.ntmps91 rfl cb91 rfl rfl fun w N H hG => ?_
  have h_l : h.length ≤ 140737488355328 := w.1.1
  refine go tbv5ok 13 rfl rfl trivial ?_
  refine cnd rfl (fun h1 => ?_) (fun h1 => ?_)
  · have p2 := dt h1
    refine go tbv5ok 7 rfl rfl trivial ?_
    refine rt1 rfl rfl ?_
    refine ple ?_
    simp [headE, *]
  · have p3 := df h1
    refine go tbv5ok 11 rfl rfl trivial ?_
    refine loop (ι := Nat) [0, 6, 7, 8, 9, 10] [] (fun k => [(11, .int .i64 (k : Int))]) (fun k => []) (fun k => k ≤ h.length ∧ headGo [] h = headGo (h.take k) (h.drop k)) (fun k => h.length - k) 0 ⟨rfl, trivial⟩ trivial ?_ ?_
    · exact ⟨Nat.zero_le _, rfl⟩
    · rintro k hp4
      obtain ⟨hk1, hk2⟩ := hp4
      refine go tbv5ok 6 rfl rfl trivial ?_
      refine cnd rfl (fun h5 => ?_) (fun h5 => ?_)
      · have p6 := dt h5
        obtain ⟨c7, hc8⟩ := getE (xs := h) (m := k) (by omega)
        have c7_w := Pair.pwf (w.1.2 c7 (List.mem_of_getElem? hc8))
        refine go tbv5ok 7 rfl rfl trivial ?_
        refine q1 (qidx tbv5ok k rfl rfl rfl hc8 rfl rfl rfl rfl) rfl fun w9 => ?_
        refine go tbv5ok 1 rfl rfl trivial ?_
        refine ef (alloc tbv5ok 0 rfl rfl rfl rfl fun b10 => ?_)
        refine go tbv5ok 1 rfl rfl trivial ?_
        refine ef (storeA tbv5ok rfl rfl rfl rfl rfl rfl rfl rfl rfl rfl ?_)
        refine go tbv5ok 3 rfl rfl trivial ?_
        refine any [1, 2, 3, 4, 5, 6] 6 mixd rfl ?_
        refine gov tbv5ok [0, 1, 2] 3 rfl (by kernel_rfl) rfl rfl trivial ?_
        refine vq 3 (lshi tbv5ok k rfl rfl rfl rfl rfl (fun _ => rfl) rfl (by omega)) rfl (by kernel_rfl) rfl fun w11 => ?_
        refine vcall 4 rfl (by kernel_rfl) (head_pair _ _) rfl rfl fun w12 => ?_
        have := pairErr_r c7 (h.take k)
        refine gov tbv5ok [5] 0 rfl (by kernel_rfl) rfl rfl trivial ?_
        refine vdone (by kernel_rfl) ?_
        refine go tbv5ok 7 rfl rfl trivial ?_
        refine cnd rfl (fun h13 => ?_) (fun h13 => ?_)
        · have h14 := not_t h13
          have p15 := df h14
          refine go tbv5ok 12 rfl rfl trivial ?_
          refine rt1 rfl rfl ?_
          refine ple ?_
          unfold headE
          rw [if_neg (by omega), hk2, dropE hc8]
          simp only [headGo]
          rw [if_pos (by omega)]
        · have h16 := not_f h13
          have p17 := dt h16
          refine go tbv5ok 7 rfl rfl ⟨(by omega), trivial⟩ ?_
          refine next (k + 1) rfl rfl ⟨rfl, trivial⟩ trivial ?_ ?_
          · omega
          · refine ⟨by omega, ?_⟩
            rw [hk2, dropE hc8, takeE hc8]
            simp only [headGo]
            rw [if_neg (by omega)]
      · have p18 := df h5
        refine go tbv5ok 11 rfl rfl trivial ?_
        refine rt1 rfl rfl ?_
        refine ple ?_
        unfold headE
        rw [if_neg (by omega), hk2, List.drop_of_length_le (by omega)]
        rfl
end Go.SW.V
set_option linter.unusedVariables false
set_option maxRecDepth 100000
set_option maxHeartbeats 4000000
namespace Go.SW.V
open Go.SW Go.Proofs
theorem cb47 : Callable Tryz.prog 47 := callable_of Tryz.func47 (by kernel_rfl) (by kernel_rfl)
theorem cb79 : Callable Tryz.prog 79 := callable_of Tryz.func79 (by kernel_rfl) (by kernel_rfl)
theorem cb80 : Callable Tryz.prog 80 := callable_of Tryz.func80 (by kernel_rfl) (by kernel_rfl)
theorem cb81 : Callable Tryz.prog 81 := callable_of Tryz.func81 (by kernel_rfl) (by kernel_rfl)
theorem cb84 : Callable Tryz.prog 84 := callable_of Tryz.func84 (by kernel_rfl) (by kernel_rfl)
def tbv6 : Tb := [(3, ⟨.int .i64, 1, 8, [.int .i64 0]⟩),
  (5, ⟨.int .u8, 1, 1, [.int .u8 0]⟩),
  (9, ⟨.str, 1, 16, [.str []]⟩),
  (25, ⟨.int .u64, 1, 8, [.int .u64 0]⟩),
  (39, ⟨.int .i64, 1, 8, [.int .i64 0]⟩),
  (77, ⟨.slc 5, 1, 24, [.sl u8c []]⟩),
  (126, ⟨.agg [(0, 1), (1, 1)], 2, 24, [.str [], .int .i64 0]⟩)]
theorem tbv6ok : tbB Tryz.prog tbv6 = true := by kernel_rfl
theorem in_Num (i : In) (bytes : Int) : Fm Tryz.prog gb 79 [.int .i64 bytes] 126 (In.pc i) (.int .u64 (((inNum i bytes)).1)) (In.pc (((inNum i bytes)).2)) := by
  refine fm_cw tbv6ok Tryz.func79 rfl Tryz.ntmps79 rfl cb79 rfl rfl rfl rfl fun w wp b N H hG => ?_
  have bytes_r : -9223372036854775808 ≤ bytes ∧ bytes ≤ 9223372036854775807 := w.1
  have hb0 := inRaw_len i (min bytes 8)
  refine go tbv6ok 16 rfl rfl trivial ?_
  refine ef (ecallm (in_Raw _ (min bytes 8)) rfl rfl rfl rfl rfl fun w1 w1p => ?_)
  refine ef (ss2b tbv6ok rfl rfl rfl rfl rfl rfl rfl (by omega) rfl ?_)
  refine go tbv6ok 5 rfl rfl trivial ?_
  refine loop (ι := Nat) [0, 1, 4, 8, 9, 10, 11, 12, 13] [0] (fun k => [(5, .int .u64 (beN ((inRaw i (min bytes 8)).1.take k) : Int)), (14, .int .i64 (k : Int))]) (fun k => []) (fun k => k ≤ (inRaw i (min bytes 8)).1.length) (fun k => (inRaw i (min bytes 8)).1.length - k) 0 ⟨rfl, rfl, trivial⟩ trivial ?_ ?_
  · exact Nat.zero_le _
  · rintro k hp2
    have hb := inRaw_len i (min bytes 8)
    refine go tbv6ok 6 rfl rfl trivial ?_
    refine cnd rfl (fun h3 => ?_) (fun h3 => ?_)
    · have p4 := dt h3
      obtain ⟨c5, hc6⟩ := getE (xs := (inRaw i (min bytes 8)).1) (m := k) (by omega)
      refine go tbv6ok 6 rfl rfl trivial ?_
      refine q1 (qidx tbv6ok k rfl rfl rfl hc6 rfl rfl rfl rfl) rfl fun w7 => ?_
      have := wr_u64 ((BitVec.ofInt (IntKind.bits .u64) (IntKind.wrap .u64 ((beN ((inRaw i (min bytes 8)).1.take k) : Int) * 2 ^ (min (8 : Int).toNat (IntKind.bits .u64)))) ||| BitVec.ofInt (IntKind.bits .u64) ((c5).toNat : Int)).toNat)
      refine go tbv6ok 18 rfl rfl ⟨(by omega), (by omega), trivial⟩ ?_
      refine next (k + 1) rfl rfl ⟨(congrArg (PV.int .u64) (num_step hc6 (by omega))), rfl, trivial⟩ trivial ?_ ?_
      · omega
      · omega
    · have p8 := df h3
      refine go tbv6ok 12 rfl rfl trivial ?_
      refine rm1 rfl rfl ?_ rfl rfl rfl ?_
      · refine ple ?_
        simp only [inNum]
        rw [List.take_of_length_le (by omega)]
      · exact ples rfl
theorem in_Text (i : In) (most : Int) : Fm Tryz.prog gb 80 [.int .i64 most] 126 (In.pc i) (.str (((inText i most)).1)) (In.pc (((inText i most)).2)) := by
  refine fm_cw tbv6ok Tryz.func80 rfl Tryz.ntmps80 rfl cb80 rfl rfl rfl rfl fun w wp b N H hG => ?_
  have most_r : -9223372036854775808 ≤ most ∧ most ≤ 9223372036854775807 := w.1
  refine go tbv6ok 8 rfl rfl trivial ?_
  refine ef (ecallm (in_Num _ _) rfl rfl rfl rfl rfl fun w1 w1p => ?_)
  have := inNum_r i 2
  refine q1 (qconv tbv6ok rfl rfl rfl rfl (rg_i64 (by omega))) rfl fun w2 => ?_
  refine go tbv6ok 11 rfl rfl trivial ?_
  refine cnd rfl (fun h3 => ?_) (fun h3 => ?_)
  · have p4 := dt h3
    refine go tbv6ok 2 rfl rfl trivial ?_
    refine ef (ecallm (in_Fail _ _) rfl rfl rfl rfl rfl fun w5 w5p => ?_)
    refine go tbv6ok 6 rfl rfl trivial ?_
    refine ef (ecallm (in_Raw _ _) rfl rfl rfl rfl rfl fun w6 w6p => ?_)
    refine go tbv6ok 4 rfl rfl trivial ?_
    refine rm1 rfl rfl ?_ rfl rfl rfl ?_
    · exact ple (by simp [inText, *])
    · exact ples (by simp [inText, In.pc, *])
  · have p7 := df h3
    refine go tbv6ok 6 rfl rfl trivial ?_
    refine ef (ecallm (in_Raw _ _) rfl rfl rfl rfl rfl fun w8 w8p => ?_)
    refine go tbv6ok 4 rfl rfl trivial ?_
    refine rm1 rfl rfl ?_ rfl rfl rfl ?_
    · exact ple (by simp [inText, *])
    · exact ples (by simp [inText, In.pc, *])
theorem in_Left (i : In) : Fm Tryz.prog gb 84 [] 126 (In.pc i) (.int .i64 (i.s.length : Int)) (In.pc i) := by
  refine fm_cw tbv6ok Tryz.func84 rfl Tryz.ntmps84 rfl cb84 rfl rfl rfl rfl fun w wp b N H hG => ?_
  refine go tbv6ok 9 rfl rfl trivial ?_
  refine q1 (qpeq Tryz.underlying90 rfl rfl) rfl fun w1 => ?_
  refine go tbv6ok 16 rfl rfl trivial ?_
  refine rm1 rfl rfl ?_ rfl rfl rfl ?_
  · exact ple rfl
  · exact ples rfl
theorem in_Err (i : In) : Fm Tryz.prog gb 81 [] 126 (In.pc i) (.int .i64 i.err) (In.pc i) := by
  refine fm_cw tbv6ok Tryz.func81 rfl Tryz.ntmps81 rfl cb81 rfl rfl rfl rfl fun w wp b N H hG => ?_
  refine go tbv6ok 9 rfl rfl trivial ?_
  refine q1 (qpeq Tryz.underlying90 rfl rfl) rfl fun w1 => ?_
  refine go tbv6ok 15 rfl rfl trivial ?_
  refine rm1 rfl rfl ?_ rfl rfl rfl ?_
  · exact ple rfl
  · exact ples rfl
theorem in_End (i : In) : Fm Tryz.prog gb 47 [] 126 (In.pc i) (.int .i64 (inEnd i)) (In.pc i) := by
  refine fm_cw tbv6ok Tryz.func47 rfl Tryz.ntmps47 rfl cb47 rfl rfl rfl rfl fun w wp b N H hG => ?_
  refine go tbv6ok 9 rfl rfl trivial ?_
  refine ef (ecallm (in_Err _) rfl rfl rfl rfl rfl fun w1 w1p => ?_)
  refine go tbv6ok 3 rfl rfl trivial ?_
  refine callgm rfl (fun hc => (in_Left _)) rfl rfl rfl rfl ⟨(fun hc => hc), trivial⟩ rfl rfl fun _ => ?_
  refine go tbv6ok 4 rfl rfl ⟨(fun hc => hc), rfl, rfl, trivial⟩ ?_
  refine cnd rfl (fun h2 => ?_) (fun h2 => ?_)
  · have h3 := bl h2
    have p4 := dt h3
    have h5 := br h2
    have p6 := dt h5
    refine go tbv6ok 7 rfl rfl trivial ?_
    refine rm1 rfl rfl ?_ rfl rfl rfl ?_
    · refine ple ?_
      refine congrArg (PV.int .i64) ?_
      simp only [Bool.or_eq_true, Bool.and_eq_true, Bool.not_eq_true', decide_eq_true_eq, Bool.or_eq_false_iff, Bool.and_eq_false_iff, Bool.not_eq_false', decide_eq_false_iff_not, beq_iff_eq, beq_eq_false_iff_ne] at *
      unfold inEnd
      (repeat' split) <;> first | rfl | (exfalso; omega) | (exfalso; simp_all; done) | (exfalso; simp_all; omega) | grind
    · exact ples rfl
  · refine go tbv6ok 5 rfl rfl trivial ?_
    refine ef (ecallm (in_Err _) rfl rfl rfl rfl rfl fun w7 w7p => ?_)
    refine go tbv6ok 4 rfl rfl trivial ?_
    refine rm1 rfl rfl ?_ rfl rfl rfl ?_
    · refine ple ?_
      refine congrArg (PV.int .i64) ?_
      simp only [Bool.or_eq_true, Bool.and_eq_true, Bool.not_eq_true', decide_eq_true_eq, Bool.or_eq_false_iff, Bool.and_eq_false_iff, Bool.not_eq_false', decide_eq_false_iff_not, beq_iff_eq, beq_eq_false_iff_ne] at *
      unfold inEnd
      (repeat' split) <;> first | rfl | (exfalso; omega) | (exfalso; simp_all; done) | (exfalso; simp_all; omega) | grind
    · exact ples rfl
end Go.SW.V
