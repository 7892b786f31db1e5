/-
  A part of the proof of DeedShort: Loops with more ghosts (printed by program). Over any program; no condition. Lists held against each other; records that are the same; what is gone through, in plain Lean. Replies: what is read would be written so; what is written is read again. Frames: what is written is read again, behind whatever; a beginning of a frame is too short; bytes of frames that come in two pieces are those frames. What the document's reader does, told of what it stands for; names, keys, heads by the document. What the document says of keys, pairs, heads and replies, in plain Lean, and that it is what the program does. Heads that are read, more: what is read is a pair, or a head; what reads behind an error. Ranging over a text of plain bytes; package variables that hold lists of texts; library calls that only make new blocks. Over any program; no condition. What the functions of the layers 10 and 11 compute, in plain Lean: rules, methods. What the functions of the layers 13 and 26 (lives) compute, in plain Lean. What the small functions of layer 22 compute, in plain Lean. Exchanges, queues, bindings, deeds. What a deed's kind tells. What is wrong with a deed first, in plain Lean. A message's and a deed's bytes, and what is read of bytes, in plain Lean. The bytes of a message and of a deed, both ways, in plain Lean. What is small is gone through: aids for the document's bytes. Which messages and deeds are gone through. Lists of elements that hold slices of their own: what is owned of them, what is read of them. Over any program; no condition. More rules: a part of an element, slices that are made, cut to nothing, copied. Over any program; each asks that the operands are what it names, and that the sizes fit. Records, printed by program: their cells, and what is read of them. Places in lists; books of exchanges, in plain Lean. Deeds packed; all deeds that are gone through. What is read of bytes is in its ranges. A deed that is read of bytes is in its ranges. Deeds that are written are read again, and no beginning of them is deeds. Deeds unpacked: how many, and that they are gone through. What is guarded is not parted into ways: its slot holds the value where the guard is so, and nothing else. Over any program; no condition. The library's contract of strings.ContainsAny, laid at this seat (printed by the kit's lay-plain.mjs), and turned to this work's ground: texts of plain bytes. The library's contract of strings.Split, laid at this seat (printed by the kit's lay-plain.mjs), and turned to this work's ground: a text split at its dots. It asks that the package variable internal/bytealg.MaxLen holds an int. The walks of this seat, printed by program: stairwellref04.letter, words.plain, strings.Builder.copyCheck, octet.New, octet.In.Fail, octet.In.Raw, octet.In.Left, octet.In.Err, octet.In.End. The walks of this seat, printed by program: octet.In.Num, octet.In.Text. The walks of this seat, printed by program: octet.Out.Num. The walks of this seat, printed by program: octet.
-/
import Derived.Test.YtbcoemocijnooaaGreatDoorDeedShortP1
import Derived.Below
import Derived.Laws.RangeString
import Derived.Lib.OthersKept
import Derived.Lib.IndexAny
import Derived.Shelf.LaysM
import Derived.Shelf.Strings.IndexAnyAll
import Derived.Test.YtbcoemocijnooaaGreatDoorProg
import Derived.Shelf.Strings.Split
import Derived.KernelRfl
set_option linter.unusedVariables false
set_option linter.unusedSimpArgs false
namespace Go.SW
variable {P : Program} {n : Nat} {N : Rest} {F : Fr} {H : Hp} {L : Ls}
def LI6 {α : Type} {β : Type} {γ : Type} {δ : Type} {ε : Type} {ζ : Type} (S SL : List Nat) (F : Fr) (H : Hp) (L : Ls) (live : α → β → γ → δ → ε → ζ → Fr → Fr) (Lm : α → β → γ → δ → ε → ζ → Ls → Ls) (Φ : α → β → γ → δ → ε → ζ → Hp → Prop) (μ : α → β → γ → δ → ε → ζ → Nat) : Nat → Fr → Hp → Ls → Prop := fun m F' H' L' =>
  ∃ x1 x2 x3 x4 x5 x6 J JL, F' = live x1 x2 x3 x4 x5 x6 (mask S J F) ∧ L' = Lm x1 x2 x3 x4 x5 x6 (lmask SL JL L) ∧ HLe H H' ∧ Φ x1 x2 x3 x4 x5 x6 H' ∧ μ x1 x2 x3 x4 x5 x6 = m
theorem cw_loop6 {α : Type} {β : Type} {γ : Type} {δ : Type} {ε : Type} {ζ : Type} {c : Code} {Q : Qt} (S SL : List Nat) (live : α → β → γ → δ → ε → ζ → Fr → Fr) (Lm : α → β → γ → δ → ε → ζ → Ls → Ls) (Φ : α → β → γ → δ → ε → ζ → Hp → Prop) (μ : α → β → γ → δ → ε → ζ → Nat) (y1 : α) (y2 : β) (y3 : γ) (y4 : δ) (y5 : ε) (y6 : ζ)
    (h0 : F = live y1 y2 y3 y4 y5 y6 (mask S F F)) (h1 : L = Lm y1 y2 y3 y4 y5 y6 (lmask SL L L)) (h2 : Φ y1 y2 y3 y4 y5 y6 H)
    (round : ∀ x1 x2 x3 x4 x5 x6 J JL H', Φ x1 x2 x3 x4 x5 x6 H' → HLe H H' → Cw P n N c (loopK (LI6 S SL F H L live Lm Φ μ) (μ x1 x2 x3 x4 x5 x6) Q) (live x1 x2 x3 x4 x5 x6 (mask S J F)) H' (Lm x1 x2 x3 x4 x5 x6 (lmask SL JL L))) : Cw P n N (.loop c) Q F H L := by
  refine cw_loop (LI6 S SL F H L live Lm Φ μ) (μ y1 y2 y3 y4 y5 y6) ⟨y1, y2, y3, y4, y5, y6, F, L, h0, h1, .refl _, h2, rfl⟩ fun m F' H' L' hI => ?_
  obtain ⟨x1, x2, x3, x4, x5, x6, J, JL, rfl, rfl, hl, hp, rfl⟩ := hI
  exact round x1 x2 x3 x4 x5 x6 J JL H' hp hl
theorem next6 {α : Type} {β : Type} {γ : Type} {δ : Type} {ε : Type} {ζ : Type} {Q : Qt} {S SL : List Nat} {live : α → β → γ → δ → ε → ζ → Fr → Fr} {Lm : α → β → γ → δ → ε → ζ → Ls → Ls} {Φ : α → β → γ → δ → ε → ζ → Hp → Prop} {μ : α → β → γ → δ → ε → ζ → Nat} {m : Nat} {F' : Fr} {H' : Hp} {L' : Ls} (x1' : α) (x2' : β) (x3' : γ) (x4' : δ) (x5' : ε) (x6' : ζ)
    (h0 : F' = live x1' x2' x3' x4' x5' x6' (mask S F' F)) (h1 : L' = Lm x1' x2' x3' x4' x5' x6' (lmask SL L' L)) (hl : HLe H H') (h2 : Φ x1' x2' x3' x4' x5' x6' H') (hm : μ x1' x2' x3' x4' x5' x6' < m) : loopK (LI6 S SL F H L live Lm Φ μ) m Q .normal F' H' L' :=
  ⟨_, hm, x1', x2', x3', x4', x5', x6', F', L', h0, h1, hl, h2, rfl⟩
def LI7 {α : Type} {β : Type} {γ : Type} {δ : Type} {ε : Type} {ζ : Type} {η : Type} (S SL : List Nat) (F : Fr) (H : Hp) (L : Ls) (live : α → β → γ → δ → ε → ζ → η → Fr → Fr) (Lm : α → β → γ → δ → ε → ζ → η → Ls → Ls) (Φ : α → β → γ → δ → ε → ζ → η → Hp → Prop) (μ : α → β → γ → δ → ε → ζ → η → Nat) : Nat → Fr → Hp → Ls → Prop := fun m F' H' L' =>
  ∃ x1 x2 x3 x4 x5 x6 x7 J JL, F' = live x1 x2 x3 x4 x5 x6 x7 (mask S J F) ∧ L' = Lm x1 x2 x3 x4 x5 x6 x7 (lmask SL JL L) ∧ HLe H H' ∧ Φ x1 x2 x3 x4 x5 x6 x7 H' ∧ μ x1 x2 x3 x4 x5 x6 x7 = m
theorem cw_loop7 {α : Type} {β : Type} {γ : Type} {δ : Type} {ε : Type} {ζ : Type} {η : Type} {c : Code} {Q : Qt} (S SL : List Nat) (live : α → β → γ → δ → ε → ζ → η → Fr → Fr) (Lm : α → β → γ → δ → ε → ζ → η → Ls → Ls) (Φ : α → β → γ → δ → ε → ζ → η → Hp → Prop) (μ : α → β → γ → δ → ε → ζ → η → Nat) (y1 : α) (y2 : β) (y3 : γ) (y4 : δ) (y5 : ε) (y6 : ζ) (y7 : η)
    (h0 : F = live y1 y2 y3 y4 y5 y6 y7 (mask S F F)) (h1 : L = Lm y1 y2 y3 y4 y5 y6 y7 (lmask SL L L)) (h2 : Φ y1 y2 y3 y4 y5 y6 y7 H)
    (round : ∀ x1 x2 x3 x4 x5 x6 x7 J JL H', Φ x1 x2 x3 x4 x5 x6 x7 H' → HLe H H' → Cw P n N c (loopK (LI7 S SL F H L live Lm Φ μ) (μ x1 x2 x3 x4 x5 x6 x7) Q) (live x1 x2 x3 x4 x5 x6 x7 (mask S J F)) H' (Lm x1 x2 x3 x4 x5 x6 x7 (lmask SL JL L))) : Cw P n N (.loop c) Q F H L := by
  refine cw_loop (LI7 S SL F H L live Lm Φ μ) (μ y1 y2 y3 y4 y5 y6 y7) ⟨y1, y2, y3, y4, y5, y6, y7, F, L, h0, h1, .refl _, h2, rfl⟩ fun m F' H' L' hI => ?_
  obtain ⟨x1, x2, x3, x4, x5, x6, x7, J, JL, rfl, rfl, hl, hp, rfl⟩ := hI
  exact round x1 x2 x3 x4 x5 x6 x7 J JL H' hp hl
theorem next7 {α : Type} {β : Type} {γ : Type} {δ : Type} {ε : Type} {ζ : Type} {η : Type} {Q : Qt} {S SL : List Nat} {live : α → β → γ → δ → ε → ζ → η → Fr → Fr} {Lm : α → β → γ → δ → ε → ζ → η → Ls → Ls} {Φ : α → β → γ → δ → ε → ζ → η → Hp → Prop} {μ : α → β → γ → δ → ε → ζ → η → Nat} {m : Nat} {F' : Fr} {H' : Hp} {L' : Ls} (x1' : α) (x2' : β) (x3' : γ) (x4' : δ) (x5' : ε) (x6' : ζ) (x7' : η)
    (h0 : F' = live x1' x2' x3' x4' x5' x6' x7' (mask S F' F)) (h1 : L' = Lm x1' x2' x3' x4' x5' x6' x7' (lmask SL L' L)) (hl : HLe H H') (h2 : Φ x1' x2' x3' x4' x5' x6' x7' H') (hm : μ x1' x2' x3' x4' x5' x6' x7' < m) : loopK (LI7 S SL F H L live Lm Φ μ) m Q .normal F' H' L' :=
  ⟨_, hm, x1', x2', x3', x4', x5', x6', x7', F', L', h0, h1, hl, h2, rfl⟩
def LI8 {α : Type} {β : Type} {γ : Type} {δ : Type} {ε : Type} {ζ : Type} {η : Type} {θ : Type} (S SL : List Nat) (F : Fr) (H : Hp) (L : Ls) (live : α → β → γ → δ → ε → ζ → η → θ → Fr → Fr) (Lm : α → β → γ → δ → ε → ζ → η → θ → Ls → Ls) (Φ : α → β → γ → δ → ε → ζ → η → θ → Hp → Prop) (μ : α → β → γ → δ → ε → ζ → η → θ → Nat) : Nat → Fr → Hp → Ls → Prop := fun m F' H' L' =>
  ∃ x1 x2 x3 x4 x5 x6 x7 x8 J JL, F' = live x1 x2 x3 x4 x5 x6 x7 x8 (mask S J F) ∧ L' = Lm x1 x2 x3 x4 x5 x6 x7 x8 (lmask SL JL L) ∧ HLe H H' ∧ Φ x1 x2 x3 x4 x5 x6 x7 x8 H' ∧ μ x1 x2 x3 x4 x5 x6 x7 x8 = m
def LI9 {α : Type} {β : Type} {γ : Type} {δ : Type} {ε : Type} {ζ : Type} {η : Type} {θ : Type} {ι : Type} (S SL : List Nat) (F : Fr) (H : Hp) (L : Ls) (live : α → β → γ → δ → ε → ζ → η → θ → ι → Fr → Fr) (Lm : α → β → γ → δ → ε → ζ → η → θ → ι → Ls → Ls) (Φ : α → β → γ → δ → ε → ζ → η → θ → ι → Hp → Prop) (μ : α → β → γ → δ → ε → ζ → η → θ → ι → Nat) : Nat → Fr → Hp → Ls → Prop := fun m F' H' L' =>
  ∃ x1 x2 x3 x4 x5 x6 x7 x8 x9 J JL, F' = live x1 x2 x3 x4 x5 x6 x7 x8 x9 (mask S J F) ∧ L' = Lm x1 x2 x3 x4 x5 x6 x7 x8 x9 (lmask SL JL L) ∧ HLe H H' ∧ Φ x1 x2 x3 x4 x5 x6 x7 x8 x9 H' ∧ μ x1 x2 x3 x4 x5 x6 x7 x8 x9 = m
/-! Stores, what is held written out -/
theorem op1_store1n {T0 ty T : TypeId} {x y : Operand} {ops : List Oper} {pos : String} {af : Array Edge} {K : Fr → Hp → Ls → Prop} {b off i : Nat} {cs : List Value} {v : Value} (cs' : List Value) (hx : ev F x = .pointer (some ⟨b, off, none⟩)) (hy : ev F y = v) (hv : v.oneCell' = true) (hk : Sz P T 1) (hi : L i = some (b, bx T0 cs)) (ho' : Nat.blt off cs.length = true) (hc : cs.set off v = cs')
    (k : K F H (lupd L i (some (b, bx T0 cs')))) : Op1 P n N ops ⟨none, .store T x y, ty, pos, af, none⟩ K F H L := by
  subst hc; exact op1_store1 hx hy hv hk hi ho' k
theorem op1_storeAn {T0 ty T : TypeId} {x y : Operand} {ops : List Oper} {pos : String} {af : Array Edge} {K : Fr → Hp → Ls → Prop} {b off i m : Nat} {cs vs : List Value} (cs' : List Value) (hx : ev F x = .pointer (some ⟨b, off, none⟩)) (hy : ev F y = .agg vs.toArray) (hv : vs.all Value.oneCell' = true) (hk : Sz P T m) (hm : vs.length = m) (hi : L i = some (b, bx T0 cs)) (ho' : Nat.ble (off + vs.length) cs.length = true) (hc : setAt cs off vs = cs')
    (k : K F H (lupd L i (some (b, bx T0 cs')))) : Op1 P n N ops ⟨none, .store T x y, ty, pos, af, none⟩ K F H L := by
  subst hc; exact op1_storeA hx hy hv hk hm hi ho' k
end Go.SW
namespace Go.SW
section
variable {α : Type} [DecidableEq α] {a b ra rb : List α} {x y : α} {k : Nat}
theorem eqL_len (h : ¬ (a.length : Int) = b.length) : decide (a = b) = false := by
  rw [decide_eq_false_iff_not]; rintro rfl; exact h rfl
theorem eqL_step (h : decide (a = b) = decide (a.drop k = b.drop k)) (ha : a.drop k = x :: ra) (hb : b.drop k = y :: rb) (e : x = y) : decide (a = b) = decide (ra = rb) := by
  rw [h, ha, hb, Bool.eq_iff_iff]; simp [e]
theorem eqL_miss (h : decide (a = b) = decide (a.drop k = b.drop k)) (ha : a.drop k = x :: ra) (hb : b.drop k = y :: rb) (e : ¬ x = y) : decide (a = b) = false := by
  rw [h, ha, hb, Bool.eq_iff_iff]; simp [e]
theorem eqL_end (h : decide (a = b) = decide (a.drop k = b.drop k)) (ha : a.length ≤ k) (hb : b.length ≤ k) : decide (a = b) = true := by
  rw [h, List.drop_of_length_le ha, List.drop_of_length_le hb]; simp
end
section
variable {α : Type} {p : α → Bool} {a r : List α} {x : α} {k : Nat}
theorem all_step (h : a.all p = (a.drop k).all p) (ha : a.drop k = x :: r) (e : p x = true) : a.all p = r.all p := by rw [h, ha]; simp [e]
theorem all_miss (h : a.all p = (a.drop k).all p) (ha : a.drop k = x :: r) (e : p x = false) : a.all p = false := by rw [h, ha]; simp [e]
theorem all_end (h : a.all p = (a.drop k).all p) (ha : a.length ≤ k) : a.all p = true := by rw [h, List.drop_of_length_le ha]; rfl
end
theorem one_flat {α : Type} {enc : α → List Value} (h : ∀ x, (enc x).all (·.oneCell') = true) (xs : List α) : ∀ u ∈ xs.flatMap enc, u.oneCell' = true := fun u hu => by
  obtain ⟨x, _, hx⟩ := List.mem_flatMap.1 hu
  exact List.all_eq_true.1 (h x) u hx
theorem slh_wf {α : Type} {enc : α → List Value} {wf : α → Prop} {k : Nat} {H : Hp} {sv : Value} {xs : List α} (h : SlH (FE enc wf) k H sv xs) : ∀ x ∈ xs, wf x := fun x hx => by
  obtain ⟨m, hm, rfl⟩ := List.getElem_of_mem hx
  obtain ⟨cs, ⟨_, hw⟩, _⟩ := h.2 m hm
  exact hw
theorem own_cat0 {α : Type} {enc : α → List Value} {k e : Nat} {v : Value} {en : Option (Nat × Obj)} (ys : List α) (h : OwnV k e v en (0 + ys.length) ([] ++ ys.flatMap enc)) : OwnV k e v en ys.length (ys.flatMap enc) :=
  ownV_cast h (by simp) (by simp)
theorem Mail.eq_iff {a b : Mail} : a = b ↔ a.id = b.id ∧ a.shop = b.shop ∧ a.key = b.key ∧ a.head = b.head ∧ a.body = b.body ∧ a.due = b.due ∧ a.hops = b.hops := by
  cases a; cases b; simp
theorem Reply.eq_iff {a b : Reply} : a = b ↔ a.channel = b.channel ∧ a.kind = b.kind ∧ a.n = b.n ∧ a.m = b.m ∧ a.yes = b.yes ∧ a.name = b.name ∧ a.mail = b.mail := by
  cases a; cases b; simp
/-! Light -/
def lightP (p : Pair) : Bool := decide (p.key.length ≤ 40) && decide (p.text.length ≤ 100)
def lightH (h : List Pair) : Bool := decide (h.length ≤ 12) && h.all lightP
def lightR (r : Reply) : Bool := decide (max (r.name.length : Int) (r.mail.shop.length : Int) ≤ 40) && decide ((r.mail.key.length : Int) ≤ 100) && lightH r.mail.head && decide ((r.mail.body.length : Int) ≤ 300)
end Go.SW
namespace Go.SW
def sentB (yes : Bool) (m : Mail) : Bs := numB 1 (if yes = true then (1 : Int) else 0).toNat ++ (txtB m.shop ++ (txtB m.key ++ (headBytes m.head ++ txtB m.body)))
end Go.SW
namespace Go.SW
def fSum (f : Frame) : Int := crcSum [numB 1 f.channel.toNat ++ (numB 1 f.kind.toNat ++ txtB f.body)]
def frB (f : Frame) : Bs := numB 1 f.channel.toNat ++ (numB 1 f.kind.toNat ++ (txtB f.body ++ (numB 4 (fSum f).toNat ++ numB 1 206)))
/-! Feeds: the bytes of frames, in two pieces -/
def catB (fs : List Frame) : Bs := fs.flatMap frB
def okF (f : Frame) : Prop := f.wf ∧ f.body.length ≤ 2048
end Go.SW
namespace Go.SW
/-! Words by the document -/
/-- No dot from f on up to k. -/
def noDot (s : Bs) (f k : Nat) : Prop := ∀ j, f ≤ j → j < k → ¬ s.getD j 0 = 46
def besidesOf (pattern : Bool) : List Bs := if pattern = true then [[42], [35]] else []
end Go.SW
namespace Go.SW
theorem txtB_len (s : Bs) : (txtB s).length = s.length + 2 := by simp [txtB, numB_len]; omega
def smallH (h : List Pair) : Prop := h.length ≤ 1000 ∧ ∀ p ∈ h, p.key.length ≤ 1000 ∧ p.text.length ≤ 1000
def r9B (h : List Pair) : Bs := numB 1 h.length ++ h.flatMap pairB
end Go.SW
namespace Go.SW
theorem wr_i64 (z : Int) : -9223372036854775808 ≤ IntKind.wrap .i64 z ∧ IntKind.wrap .i64 z ≤ 9223372036854775807 := by
  simp only [IntKind.wrap, IntKind.bits, IntKind.signed]
  simp
  omega
theorem readOne_wf (i : In) : (readOne i).1.wf := by
  have h1 := inText_len i 16
  have h2 := inNum_r (inText i 16).2 1
  have h3 := inText_len (inNum (inText i 16).2 1).2 64
  have h4 := wr_i64 (inNum (inNum (inText i 16).2 1).2 8).1
  have h5 := wr_i64 (inNum (inNum (inText i 16).2 1).2 1).1
  unfold readOne
  simp only
  repeat' split
  all_goals simp only [Pair.wf]
  all_goals refine ⟨by omega, by omega, by omega, ?_⟩
  all_goals first | omega | (simp; done)
theorem readGo_len : ∀ (k : Nat) (i : In) (h : List Pair), (readGo k i h).1.length ≤ h.length + k
  | 0, i, h => by simp [readGo]
  | k + 1, i, h => by
    simp only [readGo]
    generalize (if (readOne i).2.err = 0 then inFail (readOne i).2 (pairErr (readOne i).1 h) else (readOne i).2) = j
    by_cases e : j.err = 0
    · rw [if_neg (by simpa using e)]
      have := readGo_len k j (h ++ [(readOne i).1])
      simp at this; omega
    · rw [if_pos e]; simp
theorem headRead_len (i : In) : (headRead i).1.length ≤ 255 := by
  have := readGo_len (inNum i 1).1.toNat (if 8 < (inNum i 1).1 then inFail (inNum i 1).2 6 else (inNum i 1).2) []
  have hr := inNum_r i 1
  unfold headRead; simp at this; omega
theorem readGo_step {k : Nat} {i : In} {h : List Pair} {p : Pair} {q : In} (e : readOne i = (p, q)) : readGo (k + 1) i h = if (if q.err = 0 then inFail q (pairErr p h) else q).err ≠ 0 then ([], if q.err = 0 then inFail q (pairErr p h) else q) else readGo k (if q.err = 0 then inFail q (pairErr p h) else q) (h ++ [p]) := by
  simp only [readGo]; rw [e]
theorem readGo_ok {k : Nat} {i : In} {h : List Pair} {p : Pair} {q : In} (e : readOne i = (p, q)) (hq : q.err = 0) (hz : (inFail q (pairErr p h)).err = 0) : readGo (k + 1) i h = readGo k (inFail q (pairErr p h)) (h ++ [p]) := by
  rw [readGo_step e]; simp only [if_pos hq]; rw [if_neg (by simpa using hz)]
theorem readGo_er1 {k : Nat} {i : In} {h : List Pair} {p : Pair} {q : In} (e : readOne i = (p, q)) (hq : q.err = 0) (hz : ¬ (inFail q (pairErr p h)).err = 0) : readGo (k + 1) i h = ([], inFail q (pairErr p h)) := by
  rw [readGo_step e]; simp only [if_pos hq]; rw [if_pos hz]
theorem readGo_er0 {k : Nat} {i : In} {h : List Pair} {p : Pair} {q : In} (e : readOne i = (p, q)) (hq : ¬ q.err = 0) : readGo (k + 1) i h = ([], q) := by
  rw [readGo_step e]; simp only [if_neg hq]; rw [if_pos hq]
theorem slh_kind {k : Nat} {H : Hp} {sv : Value} {xs : List Pair} (h : SlH pairE k H sv xs) : ∀ p ∈ xs, 0 ≤ p.kind := fun p hp => (slh_wf h p hp).1.1
end Go.SW
namespace Go.SW
open Go.RowKit
variable {P : Program} {n : Nat} {N : Rest} {F : Fr} {H : Hp} {L : Ls} {ops : List Oper} {ty d : Nat} {pos : String} {af : Array Edge} {K : Fr → Hp → Ls → Prop} {x : Operand} {T : TypeId}
abbrev itr (s : Bs) (p : Nat) : Obj := .stringIter ⟨s.toArray⟩ p
/-- A library call that only makes new blocks reads. -/
theorem pr_below {f : FuncId} {args : Array Value} {v : Value} (h : ∀ w, Calls P f args w fun e w' => e = .returned v ∧ Below w.heap.size w w') : Pr P f args H v := by
  intro N L w hm
  refine (h w).mono fun e w' ⟨he, hb⟩ => ⟨he, ?_⟩
  refine hm.of_same hb.os hb.tape hb.output fun c o ho => ?_
  rw [hb.block c (by by_cases q : c < w.heap.size; exact q; rw [Array.getElem?_eq_none (by omega)] at ho; cases ho)]
  exact ho
/-- A package variable holds texts. -/
def GStrs (H : Hp) (g : Nat) (xs : List Bs) : Prop := ∃ T fr, H g = some (.cells (xs.map str).toArray T fr)
theorem GStrs.mono {H H' : Hp} {g : Nat} {xs : List Bs} (h : GStrs H g xs) (hl : HLe H H') : GStrs H' g xs := by
  obtain ⟨T, fr, e⟩ := h; exact ⟨T, fr, hl _ _ e⟩
/-- Two ways through a region meet again: what stands behind is walked once. -/
def joinK (S : List Nat) (F : Fr) (H : Hp) (L : Ls) (live : Fr → Fr) : Qt := fun e F' H' L' => e = .normal ∧ H' = H ∧ L' = L ∧ F' = live (mask S F' F)
end Go.SW
namespace Go.SW
/-! What is told, by kind -/
def tellsT : List Bs := [[110], [], [], [65, 110, 120], [65], [65, 110, 109, 120], [65], [65, 79, 112, 104, 121], [65, 79, 112, 104, 121], [65, 79, 112, 104, 121], [65, 79, 112, 104, 121], [65, 107, 104, 109, 98], [110], [65, 110], [110], [65], [110, 109, 121], [], [], [], []]
abbrev tellsOf (k : Int) : Bs := tellsT.getD k.toNat []
def hasAny (s cs : Bs) : Bool := s.any cs.contains
theorem containsAny_eq (s cs : Bs) : Lib.containsAny s cs = hasAny s cs := by
  unfold Lib.containsAny hasAny
  induction s with
  | nil => rfl
  | cons b l ih =>
    rw [List.any_cons, ← ih]
    have hg := Lib.indexAny_ge cs l
    have e0 : Lib.indexAny (b :: l) cs = if cs.contains b then 0 else if Lib.indexAny l cs == -1 then -1 else Lib.indexAny l cs + 1 := rfl
    rw [e0]
    by_cases h : cs.contains b = true
    · rw [if_pos h, h, Bool.true_or]; rfl
    · have h' : cs.contains b = false := by simpa using h
      rw [if_neg h, h', Bool.false_or]
      by_cases e : Lib.indexAny l cs = -1
      · rw [e]; rfl
      · have e' : (Lib.indexAny l cs == -1) = false := by simpa using e
        rw [e']
        simp only [Bool.false_eq_true, if_false]
        have a : (0 : Int) ≤ Lib.indexAny l cs + 1 := by omega
        have b : (0 : Int) ≤ Lib.indexAny l cs := by omega
        rw [decide_eq_true a, decide_eq_true b]
/-! Layer 10 -/
structure Rule where
  sort : Int
  key : Bs
  want : List Pair
  all : Bool
deriving DecidableEq
def Rule.cells (r : Rule) (a : Option Addr) (c : Nat) : List Value := [.int .u8 r.sort, str r.key, .slice a r.want.length c, .bool r.all]
def Rule.wf (r : Rule) : Prop := (0 ≤ r.sort ∧ r.sort ≤ 255) ∧ r.key.length ≤ 9223372036854775807 ∧ r.want.length ≤ 9223372036854775807
theorem Rule.eq_iff {a b : Rule} : a = b ↔ a.sort = b.sort ∧ a.key = b.key ∧ a.want = b.want ∧ a.all = b.all := by
  cases a; cases b; simp
def patB : List Bs := [[42], [35]]
def ruleE (r : Rule) : Int :=
  if 3 < r.sort then 8
  else if r.sort = 0 then (if keyE [] r.key ≠ 0 then keyE [] r.key else headE r.want)
  else if keyE patB r.key ≠ 0 then keyE patB r.key else headE r.want
def hasP (h : List Pair) (p : Pair) : Bool := (findP h p.key).isSome && decide ((findP h p.key).getD Pair.zero = p)
def headsGo (all : Bool) (h : List Pair) : List Pair → Bool
  | [] => all
  | p :: l => if hasP h p then (if all then headsGo all h l else true) else if all then false else headsGo all h l
def goesR (r : Rule) (key : Bs) (h : List Pair) : Bool :=
  if r.sort = 0 then decide (key = r.key) else if r.sort = 2 then mt (wordsOf r.key) (wordsOf key) else if r.sort = 3 then headsGo r.all h r.want else true
/-! Layer 11 -/
structure Method where
  channel : Int
  kind : Int
  name : Bs
  other : Bs
  key : Bs
  head : List Pair
  body : Bs
  n : Int
  m : Int
  yes : Bool
deriving DecidableEq
def Method.cells (m : Method) (a : Option Addr) (c : Nat) : List Value := [.int .u8 m.channel, .int .u8 m.kind, str m.name, str m.other, str m.key, .slice a m.head.length c, str m.body, .int .u64 m.n, .int .u64 m.m, .bool m.yes]
def Method.wf (m : Method) : Prop := (0 ≤ m.channel ∧ m.channel ≤ 255) ∧ (0 ≤ m.kind ∧ m.kind ≤ 255) ∧ (0 ≤ m.n ∧ m.n ≤ 18446744073709551615) ∧ (0 ≤ m.m ∧ m.m ≤ 18446744073709551615) ∧ m.name.length ≤ 9223372036854775807 ∧ m.other.length ≤ 9223372036854775807 ∧ m.key.length ≤ 9223372036854775807 ∧ m.head.length ≤ 9223372036854775807 ∧ m.body.length ≤ 9223372036854775807
theorem Method.eq_iff {a b : Method} : a = b ↔ a.channel = b.channel ∧ a.kind = b.kind ∧ a.name = b.name ∧ a.other = b.other ∧ a.key = b.key ∧ a.head = b.head ∧ a.body = b.body ∧ a.n = b.n ∧ a.m = b.m ∧ a.yes = b.yes := by
  cases a; cases b; simp
def hasK (m : Method) (cs : Bs) : Bool := hasAny (tellsOf m.kind) cs
def spareMt (m : Method) : Bool :=
  !decide (m.name = []) && !hasK m [65] || !decide (m.other = []) && !hasK m [79, 120] || !decide (m.key = []) && !hasK m [107, 112] ||
  decide ((0 : Int) < m.head.length) && !hasK m [104] || !decide (m.body = []) && !hasK m [98] ||
  !decide (m.n = 0) && !hasK m [110] || !decide (m.m = 0) && !hasK m [109] || m.yes && !hasK m [121]
def oneE (m : Method) (c : Int) : Int :=
  if c = 65 then nameE m.name
  else if c = 120 then (if m.other = [] then 0 else nameE m.other)
  else if c = 79 then nameE m.other
  else if c = 107 then keyE [] m.key
  else if c = 112 then keyE patB m.key
  else if c = 104 then headE m.head
  else if c = 98 then (if (256 : Int) < m.body.length then 5 else 0)
  else 0
def ckGo (m : Method) : Bs → Int
  | [] => 0
  | c :: l => if oneE m (c.toNat : Int) ≠ 0 then oneE m (c.toNat : Int) else ckGo m l
def methodE (m : Method) : Int := if 20 < m.kind then 8 else if spareMt m then 4 else ckGo m (tellsOf m.kind)
theorem headGo_r : ∀ (l a : List Pair), 0 ≤ headGo a l ∧ headGo a l ≤ 15
  | [], a => by simp [headGo]
  | p :: l, a => by
    have h1 := pairErr_r p a
    have h2 := headGo_r l (a ++ [p])
    simp only [headGo]
    split <;> omega
theorem headE_r (h : List Pair) : 0 ≤ headE h ∧ headE h ≤ 15 := by
  have := headGo_r h []
  unfold headE
  split <;> omega
def mOut1 (m : Method) (o : Out) (c : Int) : Out :=
  if c = 65 then outText o m.name
  else if c = 120 ∨ c = 79 then outText o m.other
  else if c = 107 ∨ c = 112 then outText o m.key
  else if c = 104 then outRaw o (headBytes m.head)
  else if c = 98 then outText o m.body
  else if c = 110 then outNum o m.n 8
  else if c = 109 then outNum o m.m 8
  else if c = 121 then outNum o (if m.yes = true then 1 else 0) 1
  else o
def mOutGo (m : Method) (o : Out) (l : Bs) : Out := l.foldl (fun o c => mOut1 m o (c.toNat : Int)) o
def methodFrame (m : Method) : Frame := if methodE m = 0 then ⟨m.channel, m.kind, (mOutGo m ⟨[], 0⟩ (tellsOf m.kind)).s⟩ else Frame.zero
def lightMt (m : Method) : Bool := decide (max (m.name.length : Int) (m.other.length : Int) ≤ 40) && decide ((m.key.length : Int) ≤ 100) && lightH m.head && decide ((m.body.length : Int) ≤ 300)
end Go.SW
namespace Go.SW
/-! Layer 13 -/
def mailC (m : Mail) : Int :=
  if nameE m.shop ≠ 0 then nameE m.shop else if keyE [] m.key ≠ 0 then keyE [] m.key else if headE m.head ≠ 0 then headE m.head else if (256 : Int) < m.body.length then 5 else if 4 < m.hops then 7 else 0
theorem keyE_r (b : List Bs) (s : Bs) : 0 ≤ keyE b s ∧ keyE b s ≤ 15 := by
  unfold keyE
  repeat' split
  all_goals omega
theorem mailC_r (m : Mail) : 0 ≤ mailC m ∧ mailC m ≤ 15 := by
  have h1 := nameE_r m.shop
  have h2 := keyE_r [] m.key
  have h3 := headE_r m.head
  unfold mailC
  repeat' split
  all_goals omega
theorem mailC_ok {m : Mail} (h : mailC m = 0) : m.shop.length ≤ 16 ∧ m.key.length ≤ 64 ∧ headE m.head = 0 ∧ m.body.length ≤ 256 ∧ m.hops ≤ 4 := by
  unfold mailC at h
  have h1 : nameE m.shop = 0 := by
    by_cases e : nameE m.shop = 0
    · exact e
    · rw [if_pos e] at h; exact absurd h e
  rw [if_neg (by omega)] at h
  have h2 : keyE [] m.key = 0 := by
    by_cases e : keyE [] m.key = 0
    · exact e
    · rw [if_pos e] at h; exact absurd h e
  rw [if_neg (by omega)] at h
  have h3 : headE m.head = 0 := by
    by_cases e : headE m.head = 0
    · exact e
    · rw [if_pos e] at h; exact absurd h e
  rw [if_neg (by omega)] at h
  have a := nameE_ok h1
  have b := keyE_ok h2
  split at h
  · cases h
  · split at h
    · cases h
    · exact ⟨a, b, h3, by omega, by omega⟩
def mailOut (m : Mail) : Out := outNum (outNum (outText (outRaw (outText (outText (outNum ⟨[], 0⟩ m.id 8) m.shop) m.key) (headBytes m.head)) m.body) m.due 8) m.hops 1
def mailBytes (m : Mail) : Bs := if mailC m = 0 then (mailOut m).s else []
/-! Layer 26 -/
def lifeN (t l : Int) : Int := if l = 0 ∨ 18446744073709551615 - t < l then 0 else t + l
end Go.SW
namespace Go.SW
def maybeE (s : Bs) : Int := if s = [] then 0 else nameE s
theorem maybeE_r (s : Bs) : 0 ≤ maybeE s ∧ maybeE s ≤ 15 := by
  have := nameE_r s
  unfold maybeE
  split <;> omega
def boundE (b : Bool) (e : Int) : Int := if b = true then e else 0
def bitN (b : Bool) : Int := if b = true then 1 else 0
theorem bitN_r (b : Bool) : 0 ≤ bitN b ∧ bitN b ≤ 1 := by
  unfold bitN
  split <;> omega
end Go.SW
namespace Go.SW
structure ShopR where
  name : Bs
  sort : Int
  to : Bs
deriving DecidableEq
def ShopR.cells (x : ShopR) : List Value := [str x.name, .int .u8 x.sort, str x.to]
def ShopR.wf (x : ShopR) : Prop := x.name.length ≤ 9223372036854775807 ∧ (0 ≤ x.sort ∧ x.sort ≤ 255) ∧ x.to.length ≤ 9223372036854775807
structure QueueR where
  name : Bs
  most : Int
  life : Int
  dead : Bs
deriving DecidableEq
def QueueR.cells (x : QueueR) : List Value := [str x.name, .int .u64 x.most, .int .u64 x.life, str x.dead]
def QueueR.wf (x : QueueR) : Prop := x.name.length ≤ 9223372036854775807 ∧ (0 ≤ x.most ∧ x.most ≤ 18446744073709551615) ∧ (0 ≤ x.life ∧ x.life ≤ 18446744073709551615) ∧ x.dead.length ≤ 9223372036854775807
structure BindR where
  shop : Bs
  to : Bs
  up : Bool
  key : Bs
  want : List Pair
  all : Bool
deriving DecidableEq
def BindR.cells (x : BindR) (a : Option Addr) (c : Nat) : List Value := [str x.shop, str x.to, .bool x.up, str x.key, .slice a x.want.length c, .bool x.all]
def BindR.wf (x : BindR) : Prop := x.shop.length ≤ 9223372036854775807 ∧ x.to.length ≤ 9223372036854775807 ∧ x.key.length ≤ 9223372036854775807 ∧ x.want.length ≤ 9223372036854775807
theorem BindR.eq_iff {a b : BindR} : a = b ↔ a.shop = b.shop ∧ a.to = b.to ∧ a.up = b.up ∧ a.key = b.key ∧ a.want = b.want ∧ a.all = b.all := by
  cases a; cases b; simp
structure DeedR where
  kind : Int
  tick : Int
  shop : ShopR
  queue : QueueR
  bind : BindR
  name : Bs
  id : Int
  how : Int
  frm : Int
  code : Int
  number : Int
  mail : Mail
  text : Bs
deriving DecidableEq
def DeedR.cells (d : DeedR) (a : Option Addr) (c : Nat) (a' : Option Addr) (c' : Nat) : List Value :=
  [.int .u8 d.kind, .int .u64 d.tick, str d.shop.name, .int .u8 d.shop.sort, str d.shop.to, str d.queue.name, .int .u64 d.queue.most, .int .u64 d.queue.life, str d.queue.dead,
   str d.bind.shop, str d.bind.to, .bool d.bind.up, str d.bind.key, .slice a d.bind.want.length c, .bool d.bind.all, str d.name, .int .u64 d.id, .int .u8 d.how, .int .u8 d.frm, .int .u8 d.code, .int .u64 d.number,
   .int .u64 d.mail.id, str d.mail.shop, str d.mail.key, .slice a' d.mail.head.length c', str d.mail.body, .int .u64 d.mail.due, .int .u8 d.mail.hops, str d.text]
def DeedR.wf (d : DeedR) : Prop := (0 ≤ d.kind ∧ d.kind ≤ 255) ∧ (0 ≤ d.tick ∧ d.tick ≤ 18446744073709551615) ∧ d.shop.wf ∧ d.queue.wf ∧ d.bind.wf ∧ d.name.length ≤ 9223372036854775807 ∧ (0 ≤ d.id ∧ d.id ≤ 18446744073709551615) ∧ (0 ≤ d.how ∧ d.how ≤ 255) ∧ (0 ≤ d.frm ∧ d.frm ≤ 255) ∧ (0 ≤ d.code ∧ d.code ≤ 255) ∧ (0 ≤ d.number ∧ d.number ≤ 18446744073709551615) ∧ d.mail.wf ∧ d.text.length ≤ 9223372036854775807
theorem DeedR.eq_iff {a b : DeedR} : a = b ↔ a.kind = b.kind ∧ a.tick = b.tick ∧ a.shop = b.shop ∧ a.queue = b.queue ∧ a.bind = b.bind ∧ a.name = b.name ∧ a.id = b.id ∧ a.how = b.how ∧ a.frm = b.frm ∧ a.code = b.code ∧ a.number = b.number ∧ a.mail = b.mail ∧ a.text = b.text := by
  cases a; cases b; simp
end Go.SW
namespace Go.SW
def ShopR.zero : ShopR := ⟨[], 0, []⟩
def QueueR.zero : QueueR := ⟨[], 0, 0, []⟩
def BindR.zero : BindR := ⟨[], [], false, [], [], false⟩
def toldD (d : DeedR) : DeedR :=
  ⟨d.kind, d.tick, if d.kind = 0 then d.shop else .zero, if d.kind = 2 then d.queue else .zero, if d.kind = 4 ∨ d.kind = 5 then d.bind else .zero,
   if d.kind = 1 ∨ d.kind = 3 ∨ d.kind = 7 ∨ d.kind = 8 then d.name else [], if d.kind = 8 then d.id else 0, if d.kind = 8 then d.how else 0, if d.kind = 10 then d.frm else 0, if d.kind = 12 then d.code else 0, if d.kind = 10 then d.number else 0,
   if d.kind = 6 ∨ d.kind = 10 then d.mail else .zero, if d.kind = 12 then d.text else []⟩
end Go.SW
namespace Go.SW
def firstE : List Int → Int
  | [] => 0
  | a :: l => if a ≠ 0 then a else firstE l
theorem firstE_r : ∀ (l : List Int), (∀ a ∈ l, 0 ≤ a ∧ a ≤ 15) → 0 ≤ firstE l ∧ firstE l ≤ 15
  | [], _ => ⟨Int.le_refl _, by simp [firstE]⟩
  | a :: l, h => by
    unfold firstE
    split
    · exact h a (List.mem_cons_self ..)
    · exact firstE_r l fun b hb => h b (List.mem_cons_of_mem _ hb)
def deedE (d : DeedR) : Int :=
  if 12 < d.kind then 8 else if d ≠ toldD d then 4
  else if d.kind = 0 then firstE [nameE d.shop.name, boundE (decide (4 < d.shop.sort)) 8, maybeE d.shop.to]
  else if d.kind = 2 then firstE [nameE d.queue.name, maybeE d.queue.dead]
  else if d.kind = 4 ∨ d.kind = 5 then firstE [nameE d.bind.shop, nameE d.bind.to, boundE (decide ((64 : Int) < d.bind.key.length)) 5, headE d.bind.want]
  else if d.kind = 6 ∨ d.kind = 10 then mailC d.mail
  else if d.kind = 9 ∨ d.kind = 11 then 0
  else if d.kind = 12 then boundE (decide ((64 : Int) < d.text.length)) 5
  else firstE [nameE d.name, boundE (decide (2 < d.how)) 7]
theorem boundE_0 {b : Bool} {e : Int} (he : e ≠ 0) (h : boundE b e = 0) : b = false := by
  cases b with
  | false => rfl
  | true => exact absurd h he
theorem firstE_cons {a : Int} {l : List Int} (h : firstE (a :: l) = 0) : a = 0 ∧ firstE l = 0 := by
  unfold firstE at h
  split at h
  · rename_i q; exact absurd h q
  · rename_i q; exact ⟨by omega, h⟩
theorem maybeE_ok {s : Bs} (h : maybeE s = 0) : s.length ≤ 16 := by
  unfold maybeE at h
  split at h
  · rename_i q; subst q; simp
  · exact nameE_ok h
theorem boundE_r {b : Bool} {e : Int} (h : 0 ≤ e ∧ e ≤ 15) : 0 ≤ boundE b e ∧ boundE b e ≤ 15 := by
  unfold boundE; split <;> omega
theorem deedE_r (d : DeedR) : 0 ≤ deedE d ∧ deedE d ≤ 15 := by
  have hb : ∀ b, 0 ≤ boundE b 8 ∧ boundE b 8 ≤ 15 := fun b => boundE_r (by omega)
  have hb5 : ∀ b, 0 ≤ boundE b 5 ∧ boundE b 5 ≤ 15 := fun b => boundE_r (by omega)
  have hb7 : ∀ b, 0 ≤ boundE b 7 ∧ boundE b 7 ≤ 15 := fun b => boundE_r (by omega)
  unfold deedE
  repeat' split
  all_goals first
    | omega
    | exact mailC_r _
    | exact hb5 _
    | (refine firstE_r _ fun a ha => ?_
       simp only [List.mem_cons, List.not_mem_nil, or_false] at ha
       first
         | (rcases ha with rfl | rfl | rfl | rfl <;> first | exact nameE_r _ | exact maybeE_r _ | exact headE_r _ | exact hb _ | exact hb5 _ | exact hb7 _)
         | (rcases ha with rfl | rfl | rfl <;> first | exact nameE_r _ | exact maybeE_r _ | exact headE_r _ | exact hb _ | exact hb5 _ | exact hb7 _)
         | (rcases ha with rfl | rfl <;> first | exact nameE_r _ | exact maybeE_r _ | exact headE_r _ | exact hb _ | exact hb5 _ | exact hb7 _))
theorem toldD_wf {d : DeedR} (w : d.wf) : (toldD d).wf := by
  obtain ⟨h1, h2, h3, h4, h5, h6, h7, h8, h9, h10, h11, h12, h13⟩ := w
  have z1 : ShopR.zero.wf := by simp [ShopR.wf, ShopR.zero]
  have z2 : QueueR.zero.wf := by simp [QueueR.wf, QueueR.zero]
  have z3 : BindR.zero.wf := by simp [BindR.wf, BindR.zero]
  have z4 : Mail.zero.wf := by simp [Mail.wf, Mail.zero]
  refine ⟨h1, h2, ?_, ?_, ?_, ?_, ?_, ?_, ?_, ?_, ?_, ?_, ?_⟩ <;> simp only [toldD] <;> split <;> first | assumption | (simp; done) | omega
theorem told_iff {d : DeedR} : d = toldD d ↔ (d.kind ≠ 0 → d.shop = ⟨[], 0, []⟩) ∧ (d.kind ≠ 2 → d.queue = ⟨[], 0, 0, []⟩) ∧ (d.kind ≠ 4 → d.kind ≠ 5 → d.bind = ⟨[], [], false, [], [], false⟩) ∧ (d.kind ≠ 1 → d.kind ≠ 3 → d.kind ≠ 7 → d.kind ≠ 8 → d.name = []) ∧ (d.kind ≠ 8 → d.id = 0) ∧ (d.kind ≠ 8 → d.how = 0) ∧ (d.kind ≠ 10 → d.frm = 0) ∧ (d.kind ≠ 10 → d.number = 0) ∧ (d.kind ≠ 12 → d.code = 0) ∧ (d.kind ≠ 12 → d.text = []) ∧ (d.kind ≠ 6 → d.kind ≠ 10 → d.mail = ⟨0, [], [], [], [], 0, 0⟩) := by
  rw [DeedR.eq_iff]
  simp only [toldD, ShopR.zero, QueueR.zero, BindR.zero, Mail.zero]
  constructor
  · rintro ⟨_, _, h1, h2, h3, h4, h5, h6, h7, h8, h9, h10, h11⟩
    refine ⟨fun k => ?_, fun k => ?_, fun k k' => ?_, fun k k' q q' => ?_, fun k => ?_, fun k => ?_, fun k => ?_, fun k => ?_, fun k => ?_, fun k => ?_, fun k k' => ?_⟩
    · rw [if_neg k] at h1; exact h1
    · rw [if_neg k] at h2; exact h2
    · rw [if_neg (by omega)] at h3; exact h3
    · rw [if_neg (by omega)] at h4; exact h4
    · rw [if_neg k] at h5; exact h5
    · rw [if_neg k] at h6; exact h6
    · rw [if_neg k] at h7; exact h7
    · rw [if_neg k] at h9; exact h9
    · rw [if_neg k] at h8; exact h8
    · rw [if_neg k] at h11; exact h11
    · rw [if_neg (by omega)] at h10; exact h10
  · rintro ⟨h1, h2, h3, h4, h5, h6, h7, h8, h9, h10, h11⟩
    refine ⟨trivial, trivial, ?_, ?_, ?_, ?_, ?_, ?_, ?_, ?_, ?_, ?_, ?_⟩ <;> split <;> first | rfl | (apply_assumption <;> omega)
/-- What may be is small. -/
structure DeedOk (d : DeedR) : Prop where
  told : d = toldD d
  kind : d.kind ≤ 12
  sname : d.shop.name.length ≤ 16
  sto : d.shop.to.length ≤ 16
  ssort : d.shop.sort ≤ 4
  qname : d.queue.name.length ≤ 16
  qdead : d.queue.dead.length ≤ 16
  bshop : d.bind.shop.length ≤ 16
  bto : d.bind.to.length ≤ 16
  bkey : d.bind.key.length ≤ 64
  bwant : headE d.bind.want = 0
  name : d.name.length ≤ 16
  how : d.how ≤ 2
  mshop : d.mail.shop.length ≤ 16
  mkey : d.mail.key.length ≤ 64
  mhead : headE d.mail.head = 0
  mbody : d.mail.body.length ≤ 256
  mhops : d.mail.hops ≤ 4
  text : d.text.length ≤ 64
theorem deedE_ok {d : DeedR} (hk : 0 ≤ d.kind) (h : deedE d = 0) : DeedOk d := by
  unfold deedE at h
  by_cases k : 12 < d.kind
  · rw [if_pos k] at h; exact absurd h (by decide)
  rw [if_neg k] at h
  by_cases t : d = toldD d
  case neg => rw [if_pos t] at h; exact absurd h (by decide)
  rw [if_neg (by simpa using t)] at h
  have hc : d.kind = 0 ∨ d.kind = 1 ∨ d.kind = 2 ∨ d.kind = 3 ∨ d.kind = 4 ∨ d.kind = 5 ∨ d.kind = 6 ∨ d.kind = 7 ∨ d.kind = 8 ∨ d.kind = 9 ∨ d.kind = 10 ∨ d.kind = 11 ∨ d.kind = 12 := by omega
  have e1 : d.shop = (toldD d).shop := congrArg DeedR.shop t
  have e2 : d.queue = (toldD d).queue := congrArg DeedR.queue t
  have e3 : d.bind = (toldD d).bind := congrArg DeedR.bind t
  have e4 : d.name = (toldD d).name := congrArg DeedR.name t
  have e5 : d.how = (toldD d).how := congrArg DeedR.how t
  have e6 : d.mail = (toldD d).mail := congrArg DeedR.mail t
  have e7 : d.text = (toldD d).text := congrArg DeedR.text t
  simp only [toldD] at e1 e2 e3 e4 e5 e6 e7
  have zs : ∀ {s : ShopR}, s = .zero → s.name.length ≤ 16 ∧ s.to.length ≤ 16 ∧ s.sort ≤ 4 := fun e => by subst e; decide
  have zq : ∀ {s : QueueR}, s = .zero → s.name.length ≤ 16 ∧ s.dead.length ≤ 16 := fun e => by subst e; decide
  have zb : ∀ {s : BindR}, s = .zero → s.shop.length ≤ 16 ∧ s.to.length ≤ 16 ∧ s.key.length ≤ 64 ∧ headE s.want = 0 := fun e => by subst e; decide
  have zm : ∀ {s : Mail}, s = .zero → s.shop.length ≤ 16 ∧ s.key.length ≤ 64 ∧ headE s.head = 0 ∧ s.body.length ≤ 256 ∧ s.hops ≤ 4 := fun e => by subst e; decide
  have zn : ∀ {s : Bs}, s = [] → s.length ≤ 16 := fun e => by subst e; decide
  have zt : ∀ {s : Bs}, s = [] → s.length ≤ 64 := fun e => by subst e; decide
  have zh : ∀ {s : Int}, s = 0 → s ≤ 2 := fun e => by subst e; decide
  have mk : (d.shop.name.length ≤ 16 ∧ d.shop.to.length ≤ 16 ∧ d.shop.sort ≤ 4) → (d.queue.name.length ≤ 16 ∧ d.queue.dead.length ≤ 16) → (d.bind.shop.length ≤ 16 ∧ d.bind.to.length ≤ 16 ∧ d.bind.key.length ≤ 64 ∧ headE d.bind.want = 0) → d.name.length ≤ 16 → d.how ≤ 2 →
      (d.mail.shop.length ≤ 16 ∧ d.mail.key.length ≤ 64 ∧ headE d.mail.head = 0 ∧ d.mail.body.length ≤ 256 ∧ d.mail.hops ≤ 4) → d.text.length ≤ 64 → DeedOk d :=
    fun a b c e f g i => ⟨t, by omega, a.1, a.2.1, a.2.2, b.1, b.2, c.1, c.2.1, c.2.2.1, c.2.2.2, e, f, g.1, g.2.1, g.2.2.1, g.2.2.2.1, g.2.2.2.2, i⟩
  rcases hc with q | q | q | q | q | q | q | q | q | q | q | q | q <;> simp only [q] at e1 e2 e3 e4 e5 e6 e7 h <;> simp (config := { failIfUnchanged := false }) at e1 e2 e3 e4 e5 e6 e7 h
  · obtain ⟨h1, h⟩ := firstE_cons h
    obtain ⟨h2, h⟩ := firstE_cons h
    obtain ⟨h3, h⟩ := firstE_cons h
    have := boundE_0 (by decide) h2
    exact mk ⟨nameE_ok h1, maybeE_ok h3, by have := of_decide_eq_false this; omega⟩ (zq e2) (zb e3) (zn e4) (zh e5) (zm e6) (zt e7)
  · exact mk (zs e1) (zq e2) (zb e3) (nameE_ok (firstE_cons h).1) (zh e5) (zm e6) (zt e7)
  · obtain ⟨h1, h⟩ := firstE_cons h
    exact mk (zs e1) ⟨nameE_ok h1, maybeE_ok (firstE_cons h).1⟩ (zb e3) (zn e4) (zh e5) (zm e6) (zt e7)
  · exact mk (zs e1) (zq e2) (zb e3) (nameE_ok (firstE_cons h).1) (zh e5) (zm e6) (zt e7)
  · obtain ⟨h1, h⟩ := firstE_cons h
    obtain ⟨h2, h⟩ := firstE_cons h
    obtain ⟨h3, h⟩ := firstE_cons h
    have := of_decide_eq_false (boundE_0 (by decide) h3)
    exact mk (zs e1) (zq e2) ⟨nameE_ok h1, nameE_ok h2, by omega, (firstE_cons h).1⟩ (zn e4) (zh e5) (zm e6) (zt e7)
  · obtain ⟨h1, h⟩ := firstE_cons h
    obtain ⟨h2, h⟩ := firstE_cons h
    obtain ⟨h3, h⟩ := firstE_cons h
    have := of_decide_eq_false (boundE_0 (by decide) h3)
    exact mk (zs e1) (zq e2) ⟨nameE_ok h1, nameE_ok h2, by omega, (firstE_cons h).1⟩ (zn e4) (zh e5) (zm e6) (zt e7)
  · exact mk (zs e1) (zq e2) (zb e3) (zn e4) (zh e5) (mailC_ok h) (zt e7)
  · exact mk (zs e1) (zq e2) (zb e3) (nameE_ok (firstE_cons h).1) (zh e5) (zm e6) (zt e7)
  · obtain ⟨h1, h⟩ := firstE_cons h
    have := of_decide_eq_false (boundE_0 (by decide) (firstE_cons h).1)
    exact mk (zs e1) (zq e2) (zb e3) (nameE_ok h1) (by omega) (zm e6) (zt e7)
  · exact mk (zs e1) (zq e2) (zb e3) (zn e4) (zh e5) (zm e6) (zt e7)
  · exact mk (zs e1) (zq e2) (zb e3) (zn e4) (zh e5) (mailC_ok h) (zt e7)
  · exact mk (zs e1) (zq e2) (zb e3) (zn e4) (zh e5) (zm e6) (zt e7)
  · have := of_decide_eq_false (boundE_0 (by decide) h)
    exact mk (zs e1) (zq e2) (zb e3) (zn e4) (zh e5) (zm e6) (by omega)
end Go.SW
namespace Go.SW
def deedOut (d : DeedR) : Out :=
  if d.kind = 0 then outText (outNum (outText (outNum (outNum ⟨[], 0⟩ d.kind 1) d.tick 8) d.shop.name) d.shop.sort 1) d.shop.to
  else if d.kind = 2 then outText (outNum (outNum (outText (outNum (outNum ⟨[], 0⟩ d.kind 1) d.tick 8) d.queue.name) d.queue.most 8) d.queue.life 8) d.queue.dead
  else if d.kind = 4 ∨ d.kind = 5 then outNum (outRaw (outText (outNum (outText (outText (outNum (outNum ⟨[], 0⟩ d.kind 1) d.tick 8) d.bind.shop) d.bind.to) (bitN d.bind.up) 1) d.bind.key) (headBytes d.bind.want)) (bitN d.bind.all) 1
  else if d.kind = 6 then outRaw (outNum (outNum ⟨[], 0⟩ d.kind 1) d.tick 8) (mailBytes d.mail)
  else if d.kind = 1 ∨ d.kind = 3 ∨ d.kind = 7 then outText (outNum (outNum ⟨[], 0⟩ d.kind 1) d.tick 8) d.name
  else if d.kind = 8 then outNum (outNum (outText (outNum (outNum ⟨[], 0⟩ d.kind 1) d.tick 8) d.name) d.id 8) d.how 1
  else if d.kind = 10 then outRaw (outNum (outNum (outNum (outNum ⟨[], 0⟩ d.kind 1) d.tick 8) d.frm 1) d.number 8) (mailBytes d.mail)
  else if d.kind = 12 then outText (outNum (outNum (outNum ⟨[], 0⟩ d.kind 1) d.tick 8) d.code 1) d.text
  else outNum (outNum ⟨[], 0⟩ d.kind 1) d.tick 8
def deedBytes (d : DeedR) : Bs := if deedE d = 0 then (deedOut d).s else []
def mailB (m : Mail) : Bs := numB 8 m.id.toNat ++ (txtB m.shop ++ (txtB m.key ++ (r9B m.head ++ (txtB m.body ++ (numB 8 m.due.toNat ++ numB 1 m.hops.toNat)))))
def deedB (d : DeedR) : Bs :=
  numB 1 d.kind.toNat ++ (numB 8 d.tick.toNat ++ (
  if d.kind = 0 then txtB d.shop.name ++ (numB 1 d.shop.sort.toNat ++ txtB d.shop.to)
  else if d.kind = 2 then txtB d.queue.name ++ (numB 8 d.queue.most.toNat ++ (numB 8 d.queue.life.toNat ++ txtB d.queue.dead))
  else if d.kind = 4 ∨ d.kind = 5 then txtB d.bind.shop ++ (txtB d.bind.to ++ (numB 1 (bitN d.bind.up).toNat ++ (txtB d.bind.key ++ (r9B d.bind.want ++ numB 1 (bitN d.bind.all).toNat))))
  else if d.kind = 6 then mailB d.mail
  else if d.kind = 8 then txtB d.name ++ (numB 8 d.id.toNat ++ numB 1 d.how.toNat)
  else if d.kind = 9 ∨ d.kind = 11 then []
  else if d.kind = 10 then numB 1 d.frm.toNat ++ (numB 8 d.number.toNat ++ mailB d.mail)
  else if d.kind = 12 then numB 1 d.code.toNat ++ txtB d.text
  else txtB d.name))
def mailRead (i : In) : Mail × In :=
  let a := inNum i 8
  let b := inText a.2 16
  let c := inText b.2 64
  let h := headRead c.2
  let e := inText h.2 256
  let f := inNum e.2 8
  let g := inNum f.2 1
  let m : Mail := ⟨a.1, b.1, c.1, h.1, e.1, f.1, g.1⟩
  let j := if g.2.err = 0 then inFail g.2 (mailC m) else g.2
  if j.err = 0 then (m, j) else (Mail.zero, j)
def DeedR.blank (k t : Int) : DeedR := ⟨k, t, .zero, .zero, .zero, [], 0, 0, 0, 0, 0, .zero, []⟩
def bindRead (i : In) : BindR × In :=
  let a := inText i 16
  let b := inText a.2 16
  let u := inNum b.2 1
  let k := inText u.2 64
  let h := headRead k.2
  let l := inNum h.2 1
  (⟨a.1, b.1, decide (u.1 = 1), k.1, h.1, decide (l.1 = 1)⟩, l.2)
def readK (k t : Int) (j : In) : DeedR × In :=
  let z := DeedR.blank k t
  if k = 0 then
    let a := inText j 16
    let b := inNum a.2 1
    let c := inText b.2 16
    ({ z with shop := ⟨a.1, b.1, c.1⟩ }, c.2)
  else if k = 2 then
    let a := inText j 16
    let b := inNum a.2 8
    let c := inNum b.2 8
    let e := inText c.2 16
    ({ z with queue := ⟨a.1, b.1, c.1, e.1⟩ }, e.2)
  else if k = 4 ∨ k = 5 then ({ z with bind := (bindRead j).1 }, (bindRead j).2)
  else if k = 6 then ({ z with mail := (mailRead j).1 }, (mailRead j).2)
  else if k = 1 ∨ k = 3 ∨ k = 7 then ({ z with name := (inText j 16).1 }, (inText j 16).2)
  else if k = 8 then
    let a := inText j 16
    let b := inNum a.2 8
    let c := inNum b.2 1
    ({ z with name := a.1, id := b.1, how := c.1 }, c.2)
  else if k = 10 then
    let a := inNum j 1
    let b := inNum a.2 8
    ({ z with frm := a.1, number := b.1, mail := (mailRead b.2).1 }, (mailRead b.2).2)
  else if k = 12 then
    let a := inNum j 1
    let b := inText a.2 64
    ({ z with code := a.1, text := b.1 }, b.2)
  else (z, j)
def readD (i : In) : DeedR × In := readK (inNum i 1).1 (inNum (inNum i 1).2 8).1 (inNum (inNum i 1).2 8).2
/-! Many -/
def packGo : List DeedR → Bs → Bs × Int
  | [], s => (s, 0)
  | d :: l, s => if deedE d ≠ 0 then ([], deedE d) else packGo l (s ++ deedB d)
def packD (l : List DeedR) : Bs × Int := if (255 : Int) < l.length then ([], 6) else packGo l (numB 1 l.length)
def unpackGo : Nat → In → List DeedR → List DeedR × In
  | 0, i, l => (l, i)
  | k + 1, i, l => if i.err = 0 then unpackGo k (readD i).2 (l ++ [(readD i).1]) else (l, i)
def unpackD (s : Bs) : List DeedR × Int :=
  let r := unpackGo (inNum ⟨s, 0⟩ 1).1.toNat (inNum ⟨s, 0⟩ 1).2 []
  if inEnd r.2 = 0 ∧ (packD r.1).2 = 0 ∧ (packD r.1).1 = s then (r.1, 0) else ([], 4)
end Go.SW
namespace Go.SW
theorem mailBytes_len (m : Mail) : (mailBytes m).length ≤ 3000 := by
  unfold mailBytes
  split
  · rename_i h
    obtain ⟨h1, h2, h3, h4, _⟩ := mailC_ok h
    have := headBytes_len m.head
    have a1 := outNum_len ⟨[], 0⟩ m.id 8
    have a2 := outText_len (outNum ⟨[], 0⟩ m.id 8) m.shop
    have a3 := outText_len (outText (outNum ⟨[], 0⟩ m.id 8) m.shop) m.key
    have a4 := outRaw_len (outText (outText (outNum ⟨[], 0⟩ m.id 8) m.shop) m.key) (headBytes m.head)
    have a5 := outText_len (outRaw (outText (outText (outNum ⟨[], 0⟩ m.id 8) m.shop) m.key) (headBytes m.head)) m.body
    have a6 := outNum_len (outText (outRaw (outText (outText (outNum ⟨[], 0⟩ m.id 8) m.shop) m.key) (headBytes m.head)) m.body) m.due 8
    have a7 := outNum_len (outNum (outText (outRaw (outText (outText (outNum ⟨[], 0⟩ m.id 8) m.shop) m.key) (headBytes m.head)) m.body) m.due 8) m.hops 1
    simp only [mailOut, List.length_nil] at *
    omega
  · simp
theorem headBytes_r {h : List Pair} (e : headE h = 0) (h0 : ∀ p ∈ h, 0 ≤ p.kind) : headBytes h = r9B h := by
  rw [headBytes_s e h0]; rfl
theorem mailBytes_s {m : Mail} (h : mailC m = 0) (h0 : ∀ p ∈ m.head, 0 ≤ p.kind) : mailBytes m = mailB m := by
  obtain ⟨h1, h2, h3, h4, _⟩ := mailC_ok h
  have e1 : ∀ o, outText o m.shop = ⟨o.s ++ txtB m.shop, o.err⟩ := fun o => outText_s (by omega)
  have e2 : ∀ o, outText o m.key = ⟨o.s ++ txtB m.key, o.err⟩ := fun o => outText_s (by omega)
  have e3 : ∀ o, outText o m.body = ⟨o.s ++ txtB m.body, o.err⟩ := fun o => outText_s (by omega)
  unfold mailBytes
  rw [if_pos h]
  simp only [mailOut, mailB, e1, e2, e3, outRaw, outNum1, outNum8, headBytes_r h3 h0, List.nil_append, List.append_assoc]
theorem deedBytes_s {d : DeedR} (hk : 0 ≤ d.kind) (h : deedE d = 0) (hb : ∀ p ∈ d.bind.want, 0 ≤ p.kind) (hm : ∀ p ∈ d.mail.head, 0 ≤ p.kind) : deedBytes d = deedB d := by
  have ok := deedE_ok hk h
  obtain ⟨k1, k2, k3, k4, k5, k6, k7, k8, k9, k10, k11, k12, k13, k14, k15, k16, k17, k18, k19⟩ := ok
  have e1 : ∀ o, outText o d.shop.name = ⟨o.s ++ txtB d.shop.name, o.err⟩ := fun o => outText_s (by omega)
  have e2 : ∀ o, outText o d.shop.to = ⟨o.s ++ txtB d.shop.to, o.err⟩ := fun o => outText_s (by omega)
  have e3 : ∀ o, outText o d.queue.name = ⟨o.s ++ txtB d.queue.name, o.err⟩ := fun o => outText_s (by omega)
  have e4 : ∀ o, outText o d.queue.dead = ⟨o.s ++ txtB d.queue.dead, o.err⟩ := fun o => outText_s (by omega)
  have e5 : ∀ o, outText o d.bind.shop = ⟨o.s ++ txtB d.bind.shop, o.err⟩ := fun o => outText_s (by omega)
  have e6 : ∀ o, outText o d.bind.to = ⟨o.s ++ txtB d.bind.to, o.err⟩ := fun o => outText_s (by omega)
  have e7 : ∀ o, outText o d.bind.key = ⟨o.s ++ txtB d.bind.key, o.err⟩ := fun o => outText_s (by omega)
  have e8 : ∀ o, outText o d.name = ⟨o.s ++ txtB d.name, o.err⟩ := fun o => outText_s (by omega)
  have e9 : ∀ o, outText o d.text = ⟨o.s ++ txtB d.text, o.err⟩ := fun o => outText_s (by omega)
  have hmail : d.kind = 6 ∨ d.kind = 10 → mailBytes d.mail = mailB d.mail := fun q => by
    refine mailBytes_s ?_ hm
    unfold deedE at h
    rw [if_neg (by omega), if_neg (fun q => q k1), if_neg (by omega), if_neg (by omega), if_neg (by omega), if_pos q] at h
    exact h
  have hc : d.kind = 0 ∨ d.kind = 1 ∨ d.kind = 2 ∨ d.kind = 3 ∨ d.kind = 4 ∨ d.kind = 5 ∨ d.kind = 6 ∨ d.kind = 7 ∨ d.kind = 8 ∨ d.kind = 9 ∨ d.kind = 10 ∨ d.kind = 11 ∨ d.kind = 12 := by omega
  unfold deedBytes
  rw [if_pos h]
  unfold deedOut deedB
  rcases hc with q | q | q | q | q | q | q | q | q | q | q | q | q <;>
    simp only [q, e1, e2, e3, e4, e5, e6, e7, e8, e9, outRaw, outNum1, outNum8, headBytes_r k11 hb, List.nil_append, List.append_assoc] <;> simp (config := { failIfUnchanged := false }) [hmail, q]
theorem deedBytes_len {d : DeedR} (hk : 0 ≤ d.kind) : (deedBytes d).length ≤ 5000 := by
  by_cases h : deedE d = 0
  · have ok := deedE_ok hk h
    obtain ⟨k1, k2, k3, k4, k5, k6, k7, k8, k9, k10, k11, k12, k13, k14, k15, k16, k17, k18, k19⟩ := ok
    have e1 : ∀ o, outText o d.shop.name = ⟨o.s ++ txtB d.shop.name, o.err⟩ := fun o => outText_s (by omega)
    have e2 : ∀ o, outText o d.shop.to = ⟨o.s ++ txtB d.shop.to, o.err⟩ := fun o => outText_s (by omega)
    have e3 : ∀ o, outText o d.queue.name = ⟨o.s ++ txtB d.queue.name, o.err⟩ := fun o => outText_s (by omega)
    have e4 : ∀ o, outText o d.queue.dead = ⟨o.s ++ txtB d.queue.dead, o.err⟩ := fun o => outText_s (by omega)
    have e5 : ∀ o, outText o d.bind.shop = ⟨o.s ++ txtB d.bind.shop, o.err⟩ := fun o => outText_s (by omega)
    have e6 : ∀ o, outText o d.bind.to = ⟨o.s ++ txtB d.bind.to, o.err⟩ := fun o => outText_s (by omega)
    have e7 : ∀ o, outText o d.bind.key = ⟨o.s ++ txtB d.bind.key, o.err⟩ := fun o => outText_s (by omega)
    have e8 : ∀ o, outText o d.name = ⟨o.s ++ txtB d.name, o.err⟩ := fun o => outText_s (by omega)
    have e9 : ∀ o, outText o d.text = ⟨o.s ++ txtB d.text, o.err⟩ := fun o => outText_s (by omega)
    have := headBytes_len d.bind.want
    have := mailBytes_len d.mail
    unfold deedBytes
    rw [if_pos h]
    unfold deedOut
    repeat' split
    all_goals
      simp only [e1, e2, e3, e4, e5, e6, e7, e8, e9, outRaw, outNum1, outNum8, List.length_append, numB_len, txtB_len, List.length_nil]
      omega
  · unfold deedBytes; rw [if_neg h]; simp
end Go.SW
namespace Go.SW
theorem deedE_mail {d : DeedR} (h : deedE d = 0) (k : d.kind = 6 ∨ d.kind = 10) : mailC d.mail = 0 := by
  unfold deedE at h
  rw [if_neg (by omega)] at h
  by_cases t : d = toldD d
  · rw [if_neg (fun q => q t), if_neg (by omega), if_neg (by omega), if_neg (by omega), if_pos k] at h
    exact h
  · rw [if_pos t] at h; exact absurd h (by decide)
end Go.SW
namespace Go.SW
def lightMl (m : Mail) : Bool := decide ((m.shop.length : Int) ≤ 40) && decide ((m.key.length : Int) ≤ 100) && lightH m.head && decide ((m.body.length : Int) ≤ 300)
theorem lightH_le {h : List Pair} (e : lightH h = true) : h.length ≤ 12 := by
  simp only [lightH, Bool.and_eq_true, decide_eq_true_eq] at e
  omega
theorem lightMl_len (m : Mail) (e : lightMl m = true) : m.shop.length ≤ 40 ∧ m.key.length ≤ 100 ∧ m.head.length ≤ 12 ∧ m.body.length ≤ 300 ∧ lightH m.head = true := by
  simp only [lightMl, Bool.and_eq_true, decide_eq_true_eq] at e
  have := lightH_le e.1.2
  exact ⟨by omega, by omega, this, by omega, e.1.2⟩
def lightD (d : DeedR) : Bool :=
  decide ((max (max (max (max (max (max (d.shop.name.length : Int) (d.shop.to.length : Int)) (d.queue.name.length : Int)) (d.queue.dead.length : Int)) (d.bind.shop.length : Int)) (d.bind.to.length : Int)) (d.name.length : Int)) ≤ 40) && decide ((max (d.bind.key.length : Int) (d.text.length : Int)) ≤ 100) && lightH d.bind.want && lightMl d.mail
theorem lightD_len (d : DeedR) (e : lightD d = true) : d.bind.want.length ≤ 12 ∧ d.mail.head.length ≤ 12 ∧ d.name.length ≤ 40 ∧ lightMl d.mail = true := by
  simp only [lightD, Bool.and_eq_true, decide_eq_true_eq] at e
  have h1 := lightH_le e.1.2
  have h2 := lightMl_len _ e.2
  exact ⟨h1, h2.2.2.1, by omega, e.2⟩
end Go.SW
namespace Go.SW
variable {P : Program} {n : Nat} {N : Rest} {F : Fr} {H : Hp} {L : Ls} {ty T T' T2 : TypeId} {x y z : Operand}
variable {ops : List Oper} {op : Op} {d : Nat} {pos : String} {af : Array Edge} {K : Fr → Hp → Ls → Prop} {α : Type}
/-- The cells of a list's elements, one behind the other. -/
def Rl (E : Hp → α → List Value → Prop) (H : Hp) : List α → List Value → Prop
  | [], cs => cs = []
  | x :: xs, cs => ∃ c1 c2, cs = c1 ++ c2 ∧ E H x c1 ∧ Rl E H xs c2
def Mono (E : Hp → α → List Value → Prop) : Prop := ∀ H H' x cs, HLe H H' → E H x cs → E H' x cs
def Wide (E : Hp → α → List Value → Prop) (k : Nat) : Prop := ∀ H x cs, E H x cs → cs.length = k ∧ ∀ u ∈ cs, u.oneCell' = true
theorem rl_nil {E : Hp → α → List Value → Prop} : Rl E H [] [] := rfl
theorem Rl.mono {E : Hp → α → List Value → Prop} (hE : Mono E) {H' : Hp} (hl : HLe H H') : ∀ {xs : List α} {cs : List Value}, Rl E H xs cs → Rl E H' xs cs
  | [], _, h => h
  | _ :: _, _, ⟨c1, c2, e, h1, h2⟩ => ⟨c1, c2, e, hE _ _ _ _ hl h1, h2.mono hE hl⟩
theorem rl_app {E : Hp → α → List Value → Prop} : ∀ {xs ys : List α} {cs ds : List Value}, Rl E H xs cs → Rl E H ys ds → Rl E H (xs ++ ys) (cs ++ ds)
  | [], _, _, _, h, k => by cases h; exact k
  | _ :: _, _, _, _, ⟨c1, c2, e, h1, h2⟩, k => ⟨c1, c2 ++ _, by rw [e, List.append_assoc], h1, rl_app h2 k⟩
theorem rl_len {E : Hp → α → List Value → Prop} {k : Nat} (hW : Wide E k) : ∀ {xs : List α} {cs : List Value}, Rl E H xs cs → cs.length = xs.length * k
  | [], _, h => by cases h; simp
  | _ :: _, _, ⟨c1, c2, e, h1, h2⟩ => by rw [e, List.length_append, (hW _ _ _ h1).1, rl_len hW h2, List.length_cons, Nat.add_mul, Nat.one_mul, Nat.add_comm]
theorem rl_one' {E : Hp → α → List Value → Prop} {k : Nat} (hW : Wide E k) : ∀ {xs : List α} {cs : List Value}, Rl E H xs cs → ∀ u ∈ cs, u.oneCell' = true
  | [], _, h => by cases h; simp
  | _ :: _, _, ⟨c1, c2, e, h1, h2⟩ => fun u hu => by
    rw [e] at hu
    rcases List.mem_append.1 hu with q | q
    · exact (hW _ _ _ h1).2 u q
    · exact rl_one' hW h2 u q
theorem rl_at {E : Hp → α → List Value → Prop} {k : Nat} (hW : Wide E k) : ∀ {xs : List α} {cs : List Value}, Rl E H xs cs → ∀ m (h : m < xs.length), ∃ ds, E H xs[m] ds ∧ ∀ j, j < k → cs[m * k + j]? = ds[j]?
  | [], _, _, _, h => by cases h
  | x :: xs, _, ⟨c1, c2, e, h1, h2⟩, 0, _ => ⟨c1, h1, fun j hj => by
      rw [e, Nat.zero_mul, Nat.zero_add, List.getElem?_append_left (by rw [(hW _ _ _ h1).1]; exact hj)]⟩
  | x :: xs, _, ⟨c1, c2, e, h1, h2⟩, m + 1, h => by
    obtain ⟨ds, p, q⟩ := rl_at hW h2 m (by simpa using h)
    refine ⟨ds, p, fun j hj => ?_⟩
    have hl := (hW _ _ _ h1).1
    rw [e, List.getElem?_append_right (by rw [hl, Nat.add_mul]; omega), hl, show (m + 1) * k + j - k = m * k + j by rw [Nat.add_mul]; omega]
    exact q j hj
/-- What was owned is given to be read. -/
theorem slh_ownE {E : Hp → α → List Value → Prop} {k e : Nat} {v : Value} {en : Option (Nat × Obj)} {xs : List α} {cs : List Value} {H' : Hp} (hW : Wide E k) (ho : OwnV k e v en xs.length cs) (hr : Rl E H' xs cs) (hH : ∀ b o, en = some (b, o) → H' b = some o) : SlH E k H' v xs := by
  obtain ⟨hl, ⟨rfl, h0, _⟩ | ⟨b, cap, c, rfl, hL, hcl, hle, htk⟩⟩ := ho
  · have : xs = [] := List.length_eq_zero_iff.1 h0
    subst this
    exact ⟨⟨_, _, rfl, Nat.zero_le _⟩, fun m h => by cases h⟩
  · refine ⟨⟨_, _, rfl, hle⟩, fun m h => ?_⟩
    obtain ⟨ds, p, q⟩ := rl_at hW hr m h
    refine ⟨ds, p, b, 0, xs.length, cap, c.toArray, e, (0, 0), rfl, hH b _ hL, (hW _ _ _ p).1, fun j hj => ?_⟩
    have hlt : m * k + j < xs.length * k := by
      have : (m + 1) * k ≤ xs.length * k := Nat.mul_le_mul_right k (by omega)
      rw [Nat.add_mul] at this; omega
    rw [← q j hj, ← htk, List.getElem?_take, if_pos hlt]
    simp
/-- A block that was built, given to be read. -/
theorem slh_bxE {E : Hp → α → List Value → Prop} {k b len cap : Nat} {T0 : TypeId} {cs : List Value} {xs : List α} (hW : Wide E k) (hb : H b = some (bx T0 cs)) (hr : Rl E H xs cs) (hl : len = xs.length) (hcap : len ≤ cap) : SlH E k H (.slice (some ⟨b, 0, none⟩) len cap) xs := by
  subst hl
  refine ⟨⟨_, _, rfl, hcap⟩, fun m h => ?_⟩
  obtain ⟨ds, p, q⟩ := rl_at hW hr m h
  exact ⟨ds, p, b, 0, xs.length, cap, cs.toArray, T0, (0, 0), rfl, hb, (hW _ _ _ p).1, fun j hj => by rw [← q j hj]; simp⟩
/-- The cells of a slice that is read. -/
theorem rl_of {E : Hp → α → List Value → Prop} {k : Nat} {sv : Value} : ∀ (xs : List α) (m : Nat) (ys : List α), xs.length = m → (∀ i (h : i < ys.length), ∃ cs, E H ys[i] cs ∧ SlAt H sv k (m + i) cs) → ∃ ds, Rl E H ys ds ∧ (∀ (hW : Wide E k) i (h : i < ys.length), ∃ cs, E H ys[i] cs ∧ SlAt H sv k (m + i) cs ∧ ∀ j, j < k → ds[i * k + j]? = cs[j]?)
  | _, _, [], _, _ => ⟨[], rfl, fun _ i h => by cases h⟩
  | xs, m, y :: ys, e, h => by
    obtain ⟨c0, p0, q0⟩ := h 0 (by simp)
    obtain ⟨ds, r, s⟩ := rl_of (xs ++ [y]) (m + 1) ys (by simp [e]) (fun i hi => by
      obtain ⟨cs, p, q⟩ := h (i + 1) (by simpa using hi)
      exact ⟨cs, by simpa using p, by rw [show m + 1 + i = m + (i + 1) by omega]; exact q⟩)
    refine ⟨c0 ++ ds, ⟨c0, ds, rfl, p0, r⟩, fun hW i hi => ?_⟩
    cases i with
    | zero => exact ⟨c0, p0, q0, fun j hj => by rw [Nat.zero_mul, Nat.zero_add, List.getElem?_append_left (by rw [(hW _ _ _ p0).1]; exact hj)]⟩
    | succ i =>
      obtain ⟨cs, p, q, t⟩ := s hW i (by simpa using hi)
      refine ⟨cs, by simpa using p, by rw [show m + (i + 1) = m + 1 + i by omega]; exact q, fun j hj => ?_⟩
      have hl := (hW _ _ _ p0).1
      rw [List.getElem?_append_right (by rw [hl, Nat.add_mul]; omega), hl, show (i + 1) * k + j - k = i * k + j by rw [Nat.add_mul]; omega]
      exact t j hj
theorem src_slE {E : Hp → α → List Value → Prop} {k : Nat} {sv : Value} {xs : List α} (hW : Wide E k) (h : SlH E k H sv xs) : ∃ news, Rl E H xs news ∧ (∀ u ∈ news, u.oneCell' = true) ∧ ∀ N L, Src P N H L k sv xs.length news := by
  obtain ⟨ds, hr, hs⟩ := rl_of (H := H) (k := k) (sv := sv) [] 0 xs rfl (fun i hi => by
    obtain ⟨cs, p, q⟩ := h.2 i hi
    exact ⟨cs, p, by rw [Nat.zero_add]; exact q⟩)
  have hlen := rl_len hW hr
  refine ⟨ds, hr, rl_one' hW hr, fun N L => ⟨hlen, fun w hm => ?_⟩⟩
  obtain ⟨⟨a, c, rfl, hc⟩, hx⟩ := h
  refine ⟨by simp [Builtin.lenOf], ?_⟩
  cases a with
  | none =>
    have hn : xs = [] := by
      cases xs with
      | nil => rfl
      | cons x r =>
        obtain ⟨cs, _, b, off, l', cap, cc, T, fr, e1, _⟩ := hx 0 (by simp)
        cases e1
    subst hn
    cases hr
    simp [Builtin.firstCells]
  | some a =>
    have hcell : ∀ j v, ds[j]? = some v → w.cell? (a.add j) = some v := by
      intro j v hj
      have hjl : j < xs.length * k := by rw [← hlen]; exact (List.getElem?_eq_some_iff.1 hj).1
      have hk0 : 0 < k := by
        rcases Nat.eq_zero_or_pos k with h0 | h0
        · subst h0; omega
        · exact h0
      have hm' : j / k < xs.length := (Nat.div_lt_iff_lt_mul hk0).2 hjl
      have hj' : j % k < k := Nat.mod_lt _ hk0
      have hjj : j / k * k + j % k = j := by rw [Nat.mul_comm]; exact Nat.div_add_mod j k
      obtain ⟨cs, _, ⟨b, off, l', cap, cc, T, fr, e1, e2, e3, e4⟩, h1⟩ := hs hW (j / k) hm'
      cases e1
      have h1 := h1 (j % k) hj'
      rw [hjj, hj] at h1
      have h2 := e4 (j % k) hj'
      rw [← h1] at h2
      rw [add_none]
      have hw := hm.h _ _ e2
      rw [Nat.zero_add, Nat.add_assoc, hjj] at h2
      simp [World.cell?, hw, h2]
    have := run_loadCells_list (P := P) w a ds hcell
    rw [hlen] at this
    simpa [Builtin.firstCells] using this
theorem fe_mono {enc : α → List Value} {wf : α → Prop} : Mono (FE enc wf) := fun _ _ _ _ _ h => h
/-! Lists of lists -/
def slE (E : Hp → α → List Value → Prop) (k : Nat) : Hp → List α → List Value → Prop := fun H xs cs => ∃ a c, cs = [.slice a xs.length c] ∧ SlH E k H (.slice a xs.length c) xs
theorem slE_mono {E : Hp → α → List Value → Prop} {k : Nat} (hE : Mono E) : Mono (slE E k) := fun H H' x cs hl ⟨a, c, e, h⟩ => ⟨a, c, e, h.mono hl fun _ _ q => hE _ _ _ _ hl q⟩
theorem slE_wide {E : Hp → α → List Value → Prop} {k : Nat} : Wide (slE E k) 1 := fun H x cs ⟨a, c, e, _⟩ => by subst e; exact ⟨rfl, fun u hu => by cases List.mem_singleton.1 hu; rfl⟩
end Go.SW
namespace Go.SW
variable {P : Program} {n : Nat} {N : Rest} {F : Fr} {H : Hp} {L : Ls} {ty T T' T2 : TypeId} {x y z : Operand}
variable {ops : List Oper} {op : Op} {d : Nat} {pos : String} {af : Array Edge} {K : Fr → Hp → Ls → Prop} {α : Type}
/-! Stores of a struct's part, and of all of it -/
theorem setAt_eq : ∀ (vs cs : List Value) (off : Nat), off + vs.length ≤ cs.length → setAt cs off vs = cs.take off ++ (vs ++ cs.drop (off + vs.length))
  | [], cs, off, _ => by simp [setAt]
  | v :: r, cs, off, h => by
    simp only [List.length_cons] at h
    rw [setAt, setAt_eq r _ _ (by simp; omega)]
    have e1 : (cs.set off v).take (off + 1) = cs.take off ++ [v] := by
      rw [List.take_add_one, List.take_set_of_le (Nat.le_refl _)]
      simp [show off < cs.length by omega]
    have e2 : (cs.set off v).drop (off + 1 + r.length) = cs.drop (off + (v :: r).length) := by
      rw [List.drop_set_of_lt (by omega)]
      congr 1
      simp; omega
    rw [e1, e2]; simp
theorem op1_storeAp {b off i m : Nat} {T0 : TypeId} {cs vs : List Value} (cs' : List Value) (hx : ev F x = .pointer (some ⟨b, off, none⟩)) (hy : ev F y = .agg vs.toArray) (hv : vs.all Value.oneCell' = true) (hk : Sz P T m) (hm : vs.length = m) (hi : L i = some (b, bx T0 cs)) (ho' : Nat.ble (off + m) cs.length = true) (hc : cs.take off ++ (vs ++ cs.drop (off + m)) = cs')
    (k : K F H (lupd L i (some (b, bx T0 cs')))) : Op1 P n N ops ⟨none, .store T x y, ty, pos, af, none⟩ K F H L := by
  subst hm
  rw [← setAt_eq vs cs off (by simpa using ho')] at hc
  subst hc; exact op1_storeA hx hy hv hk rfl hi ho' k
theorem op1_storeAll {b i m : Nat} {T0 : TypeId} {cs vs : List Value} (hx : ev F x = .pointer (some ⟨b, 0, none⟩)) (hy : ev F y = .agg vs.toArray) (hv : vs.all Value.oneCell' = true) (hk : Sz P T m) (hm : vs.length = m) (hi : L i = some (b, bx T0 cs)) (hc : cs.length = m)
    (k : K F H (lupd L i (some (b, bx T0 vs)))) : Op1 P n N ops ⟨none, .store T x y, ty, pos, af, none⟩ K F H L := by
  subst hm
  have e : setAt cs 0 vs = vs := by rw [setAt_eq vs cs 0 (by omega), List.drop_of_length_le (by omega)]; simp
  refine op1_storeA hx hy hv hk rfl hi (by simp; omega) ?_
  rwa [e]
theorem run_asInt {k : IntKind} {i : Int} (w : World) : (asInt (.int k i)).run P w = .ok i w := rfl
theorem ownV_cut {k e len : Nat} {v : Value} {en : Option (Nat × Obj)} {cs : List Value} (h : OwnV k e v en len cs) : ∃ a c, v = .slice a len c ∧ OwnV k e (.slice a 0 c) en 0 [] := by
  obtain ⟨_, ⟨rfl, rfl, rfl⟩ | ⟨b, cap, c, rfl, rfl, h1, h2, _⟩⟩ := h
  · exact ⟨_, _, rfl, ownV_nil⟩
  · exact ⟨_, _, rfl, by simp, .inr ⟨b, cap, c, rfl, rfl, h1, Nat.zero_le _, by simp⟩⟩
set_option maxHeartbeats 2000000 in
/-- Zeros are appended to nothing: a slice of that many. -/
theorem op1_appz {k bytes m : Nat} {e : TypeId} {zs : List Value} {k1 k2 : IntKind} {q : Int} (i : Nat) (hx : ev F x = .slice none 0 0) (hy : ev F y = .int k1 q) (hT : P.underlying T = some (.slice e)) (hT2 : P.underlying T2 = some (.int k2)) (hk : Sz P e k) (hb : By P e bytes) (h0 : 0 < bytes) (hz : Zr P e zs) (hzl : zs.length = k) (hone : ∀ u ∈ zs, u.oneCell' = true)
    (hq : q = (m : Int)) (hm0 : 0 < m) (hbd : m * bytes ≤ 140737488355328) (hd : Nat.blt d n = true)
    (kk : ∀ v' en' cs, OwnV k e v' en' m cs → K (upd F d v') H (lupd L i en')) : Op1 P n N ops ⟨some d, .call ⟨.builtin .append, #[x, y], #[T, T2]⟩, ty, pos, af, none⟩ K F H L := by
  intro a w ha hm
  rw [if_pos (by simp [Region.wanted])]
  unfold Oper.wp
  subst hq
  obtain ⟨inf, hinf, hbb⟩ := hb w
  have hsz : m ≤ m * bytes := Nat.le_mul_of_pos_right _ h0
  have hw : IntKind.wrap .i64 (m : Int) = (m : Int) := by
    simp only [IntKind.wrap, IntKind.bits, IntKind.signed]; simp; split <;> omega
  have hfit := growslice_fits (need := 0 + m) (old := 0) (bytes := bytes) (by omega) (by simpa using hbd)
  have hfit' : ¬ (281474976710656 < Builtin.nextslicecap m 0 * inf.bytes) := by rw [hbb]; simp only [Nat.zero_add] at hfit; omega
  have hl : ¬ (281474976710656 < (m : Int) * (inf.bytes : Int)) := by
    rw [hbb]
    have e1 : ((m : Int) * (bytes : Int)) = ((m * bytes : Nat) : Int) := by simp
    rw [e1]; omega
  have h63 : ¬ (9223372036854775807 < (m : Int)) := by omega
  have h1 : ¬ ((m : Int) < 0) := by omega
  have hm00 : ¬ m = 0 := by omega
  have hmk : ¬ m ≤ 0 := by omega
  obtain ⟨nc, hnc⟩ : ∃ nc, nc = (Question.appendCap m 0 e).cut (w.tape w.drawn (Question.appendCap m 0 e)) := ⟨_, rfl⟩
  have hnge : m ≤ nc := by rw [hnc]; simp only [Question.cut]; omega
  obtain ⟨z, hz1, hz2⟩ := hz w.drew
  obtain ⟨inf', hinf', _⟩ := hb w.drew
  have hqf : (Question.appendCap m 0 e).forced = false := rfl
  have hnil : (Builtin.firstCells k 0 (.slice none 0 0)).run P w.drew = .ok #[] w.drew := by simp [Builtin.firstCells]
  have hzc : ∀ q, (Builtin.zeroCells zs.toArray q).size = q * k := fun q => by simp [Builtin.zeroCells, hzl]
  let news : List Value := if m * k = 0 then [] else (Builtin.zeroCells zs.toArray m).toList
  have hnl : news.length = m * k := by
    by_cases h : m * k = 0
    · simp only [news, h, if_true]; rfl
    · simp only [news, h, if_false]; rw [Array.length_toList]; exact hzc m
  have hr : (Builtin.append_ #[T, T2] ty #[.slice none 0 0, .int k1 (m : Int)]).run P w = .ok (.slice (some ⟨w.heap.size, 0, none⟩) m nc) { w.drew with heap := w.drew.heap.push (bx e (news ++ (Builtin.zeroCells zs.toArray (nc - m)).toList)) } := by
    by_cases h : m * k = 0
    · simp [Builtin.append_, run_underlying hT, run_underlying hT2, hk w, hw, hinf, hl, h63, h1, hm00, hmk, hfit', hqf, hinf', hnil, h, hz1, hz2, newRow, bx, askRoom, ← hnc, news, run_asInt]
      first | done | rfl | (show w.drew.alloc _ = w.drew.alloc _; congr 2; apply Array.ext'; simp; done)
    · simp [Builtin.append_, run_underlying hT, run_underlying hT2, hk w, hw, hinf, hl, h63, h1, hm00, hmk, hfit', hqf, hinf', hnil, h, hz1, hz2, newRow, bx, askRoom, ← hnc, news, run_asInt]
      first | done | rfl | (show w.drew.alloc _ = w.drew.alloc _; congr 2; apply Array.ext'; simp; done)
  have : (execOp a.eval ⟨some d, .call ⟨.builtin .append, #[x, y], #[T, T2]⟩, ty, pos, af, none⟩).run P w = .ok (.value (.slice (some ⟨w.heap.size, 0, none⟩) m nc)) { w.drew with heap := w.drew.heap.push (bx e (news ++ (Builtin.zeroCells zs.toArray (nc - m)).toList)) } := by
    rw [ha.eval]
    refine exec_builtin (args := #[.slice none 0 0, .int k1 (m : Int)]) (by simp [hx, hy]) fun cs => ?_
    simp [builtin, hr]
  rw [this]
  refine ⟨_, H, _, ha.put (by simpa using hd) _, (hm.drew (w.drawn + 1)).push i _, kk _ _ news ⟨hnl, .inr ⟨_, _, _, rfl, rfl, ?_, hnge, ?_⟩⟩⟩
  · simp only [List.length_append, Array.length_toList, hzc, hnl]
    rw [← Nat.add_mul]; congr 1; omega
  · rw [← hnl]; exact List.take_left
theorem lo_cap_sl {sa : Option Addr} {l c : Nat} {e : TypeId} (hx : ev F x = .slice sa l c) (hT : P.underlying T = some (.slice e)) : Lo P N (.call ⟨.builtin .cap, #[x], #[T]⟩) ty F H L (.int .i64 c) := fun d pos af g w _ => by
  refine exec_builtin (args := #[.slice sa l c]) (by simp [hx]) fun cs => ?_
  simp [builtin, Builtin.cap_, run_underlying hT, goInt]
theorem lo_slice_hi {k' : IntKind} {hi : Operand} {a : Option Addr} {l c k : Nat} {e : TypeId} {j : Int} (q : Nat) (hx : ev F x = .slice a l c) (hhi : ev F hi = .int k' j) (hT : P.underlying T = some (.slice e)) (hk : Sz P e k) (h0 : j = (q : Int)) (h2 : q ≤ c) :
    Lo P N (.slice T x none (some hi) none) ty F H L (.slice (slA a c 0 k) q c) := lo_slice_slh_hi q hx hhi hT hk h0 h2
theorem slA_0 {a : Option Addr} {c k : Nat} : slA a c 0 k = a := by
  unfold slA
  split
  · rfl
  · cases a with
    | none => rfl
    | some a => simp [Addr.add]
theorem lo_slice_cut {k' : IntKind} {hi : Operand} {a : Option Addr} {l c k : Nat} {e : TypeId} {j : Int} (hx : ev F x = .slice a l c) (hhi : ev F hi = .int k' j) (hT : P.underlying T = some (.slice e)) (hk : Sz P e k) (h0 : j = 0) :
    Lo P N (.slice T x none (some hi) none) ty F H L (.slice a 0 c) := by
  have q := lo_slice_slh_hi (P := P) (N := N) (T := T) (ty := ty) (H := H) (L := L) (k := k) 0 hx hhi hT hk (by omega) (Nat.zero_le _)
  rwa [slA_0] at q
/-- What is guarded, where the guard is so. -/
theorem op1_gd {od : Option Nat} {j : Nat} {want b : Bool} (hy : yF ops F j = some (.bool b)) (hb : b = want) (h : Op1 P n N ops ⟨od, op, ty, pos, af, none⟩ K F H L) : Op1 P n N ops ⟨od, op, ty, pos, af, some (j, want)⟩ K F H L := by
  intro a w ha hm
  have q := h a w ha hm
  rw [if_pos (by simp [Region.wanted])] at q
  rw [if_pos (by simp [Region.wanted, yielded_of ha hy, hb])]
  exact q
/-- A method of a value, held as a function. -/
theorem lo_makeFuncB {f : FuncId} {xs ys : List Operand} {fs cap : List Value} (hc : evs F xs = fs) (hd : evs F ys = cap) : Lo P N (.makeFunc (.func f) xs.toArray ys.toArray) ty F H L (.func (.func f) fs.toArray cap.toArray) := fun d pos af g w _ => by
  subst hc; subst hd
  simp [execOp, Instr.makeFunc, evs_map]
theorem en_b {F : Fr} {x : Operand} {f : FuncId} {fs : List Value} {xs : List Operand} {vs : List Value} {ats : Array TypeId} (hx : ev F x = .func (.func f) fs.toArray #[]) (hc : Callable P f) (ha : fs ++ evs F xs = vs) : En P (.call ⟨.value x, xs.toArray, ats⟩) F f vs.toArray := fun ty d pos af g w => by
  subst ha
  have := hc (fs ++ evs F xs).toArray w
  have e : (fs ++ evs F xs).toArray = fs.toArray ++ (evs F xs).toArray := by simp
  have h2 : (callFunc f (fs.toArray ++ (evs F xs).toArray)).run P w = .ok (.enter f (fs ++ evs F xs).toArray) w := by rw [← e]; exact this
  simp [execOp, resolve, Deferred.ofValue, hx, invoke, evs_map, this]
theorem foldM_max {k : IntKind} (w : World) : ∀ (zs : List Int) (z : Int), (((zs.map (Value.int k)).foldlM Builtin.max2 (.int k z)) : Sem Value).run P w = .ok (.int k (zs.foldl max z)) w
  | [], z => rfl
  | y :: r, z => by
    have : (if y > z then y else z) = max z y := by omega
    simp only [List.map_cons, List.foldlM_cons, List.foldl_cons]
    rw [Sem.run_bind]
    have e : (Builtin.max2 (.int k z) (.int k y)).run P w = .ok (.int k (max z y)) w := by simp [Builtin.max2, this]
    rw [e]
    exact foldM_max w r (max z y)
theorem lo_maxN {k : IntKind} {xs : List Operand} {z r : Int} (zs : List Int) {ats : Array TypeId} (hx : evs F xs = (z :: zs).map (Value.int k)) (hr : zs.foldl max z = r) : Lo P N (.call ⟨.builtin .max, xs.toArray, ats⟩) ty F H L (.int k r) := fun d pos af g w _ => by
  refine exec_builtin (args := ((z :: zs).map (Value.int k)).toArray) (by simp [evs_map, hx]) fun cs => ?_
  have := foldM_max (P := P) (k := k) w zs z
  subst hr
  simp [builtin, Builtin.max_, this]
theorem equalIn_slnil (d : Nat) {a : Option Addr} {l c : Nat} {e : TypeId} (hT : P.underlying T = some (.slice e)) (w : World) : (Op.equalIn (d + 1) T (.slice a l c) (.slice none 0 0)).run P w = .ok a.isNone w := by
  cases a <;> simp [Op.equalIn, run_underlying hT]
theorem lo_sleq_nil {a : Option Addr} {l c : Nat} {e : TypeId} (hx : ev F x = .slice a l c) (hy : ev F y = .slice none 0 0) (hT : P.underlying T = some (.slice e)) : Lo P N (.binOp .eql T x y T') ty F H L (.bool a.isNone) :=
  lo_bin hx hy (fun w => by cases a <;> rfl) fun w => by simp [binOp, equal_of (fun d => equalIn_slnil d hT w)]
theorem nand_l {p q : Prop} (h : ¬ p) : ¬ (p ∧ q) := fun k => h k.1
theorem nand_r {p q : Prop} (h : ¬ q) : ¬ (p ∧ q) := fun k => h k.2
theorem nbt {b : Bool} (h : b = false) : ¬ b = true := by simp [h]
theorem nbf {b : Bool} (h : b = true) : ¬ b = false := by simp [h]
theorem slh_none {E : Hp → α → List Value → Prop} {k l c : Nat} {xs : List α} (h : SlH E k H (.slice none l c) xs) : xs = [] := by
  cases xs with
  | nil => rfl
  | cons x r =>
    obtain ⟨cs, _, b, off, l', cap, cc, T, fr, e1, _⟩ := h.2 0 (by simp)
    cases e1
end Go.SW
namespace Go.SW
theorem pairE_mono : Mono pairE := fe_mono
def shopRE : Hp → ShopR → List Value → Prop := FE ShopR.cells ShopR.wf
theorem shopRE_mono : Mono shopRE := fe_mono
def queueRE : Hp → QueueR → List Value → Prop := FE QueueR.cells QueueR.wf
def bindRE : Hp → BindR → List Value → Prop := fun H x cs => ∃ (a1 : Option Addr) (c1 : Nat), cs = BindR.cells x a1 c1 ∧ SlH pairE 4 H (.slice a1 x.want.length c1) x.want ∧ x.wf
theorem bindRE_mono : Mono bindRE := by
  rintro H H' x cs hl ⟨a1, c1, e, h1, w⟩
  exact ⟨_, _, e, h1.mono hl (fun _ _ q => pairE_mono _ _ _ _ hl q), w⟩
theorem bindRE_wide : Wide bindRE 6 := by
  rintro H x cs ⟨a1, c1, rfl, _, _⟩
  refine ⟨rfl, fun u hu => ?_⟩
  simp only [BindR.cells, List.mem_cons, List.not_mem_nil, or_false] at hu
  rcases hu with rfl | rfl | rfl | rfl | rfl | rfl <;> rfl
def deedRE : Hp → DeedR → List Value → Prop := fun H x cs => ∃ (a1 : Option Addr) (c1 : Nat) (a2 : Option Addr) (c2 : Nat), cs = DeedR.cells x a1 c1 a2 c2 ∧ SlH pairE 4 H (.slice a1 x.bind.want.length c1) x.bind.want ∧ SlH pairE 4 H (.slice a2 x.mail.head.length c2) x.mail.head ∧ x.wf
theorem deedRE_mono : Mono deedRE := by
  rintro H H' x cs hl ⟨a1, c1, a2, c2, e, h1, h2, w⟩
  exact ⟨_, _, _, _, e, h1.mono hl (fun _ _ q => pairE_mono _ _ _ _ hl q), h2.mono hl (fun _ _ q => pairE_mono _ _ _ _ hl q), w⟩
theorem deedRE_wide : Wide deedRE 29 := by
  rintro H x cs ⟨a1, c1, a2, c2, rfl, _, _, _⟩
  refine ⟨rfl, fun u hu => ?_⟩
  simp only [DeedR.cells, List.mem_cons, List.not_mem_nil, or_false] at hu
  rcases hu with rfl | rfl | rfl | rfl | rfl | rfl | rfl | rfl | rfl | rfl | rfl | rfl | rfl | rfl | rfl | rfl | rfl | rfl | rfl | rfl | rfl | rfl | rfl | rfl | rfl | rfl | rfl | rfl | rfl <;> rfl
structure BookR where
  shops : List ShopR
  binds : List BindR
deriving DecidableEq
def BookR.cells (x : BookR) (a1 : Option Addr) (c1 : Nat) (a2 : Option Addr) (c2 : Nat) : List Value := [.slice a1 x.shops.length c1, .slice a2 x.binds.length c2]
def BookR.wf (x : BookR) : Prop := x.shops.length ≤ 9223372036854775807 ∧ x.binds.length ≤ 9223372036854775807
def BookR.zero : BookR := ⟨[], []⟩
theorem BookR.eq_iff {a b : BookR} : a = b ↔ a.shops = b.shops ∧ a.binds = b.binds := by
  cases a; cases b; simp
def bookRE : Hp → BookR → List Value → Prop := fun H x cs => ∃ (a1 : Option Addr) (c1 : Nat) (a2 : Option Addr) (c2 : Nat), cs = BookR.cells x a1 c1 a2 c2 ∧ SlH shopRE 3 H (.slice a1 x.shops.length c1) x.shops ∧ SlH bindRE 6 H (.slice a2 x.binds.length c2) x.binds ∧ x.wf
end Go.SW
namespace Go.SW
theorem nor_ {p q : Prop} (h : ¬ p) (k : ¬ q) : ¬ (p ∨ q) := fun x => x.elim h k
def idxF {α : Type} (p : α → Bool) : Nat → List α → Int
  | _, [] => -1
  | k, x :: r => if p x then k else idxF p (k + 1) r
def idxP {α : Type} (p : α → Bool) (l : List α) : Int := idxF p 0 l
theorem idx_miss {α : Type} {p : α → Bool} {l r : List α} {c : α} {k : Nat} (h : idxP p l = idxF p k (l.drop k)) (e : l.drop k = c :: r) (hc : p c = false) : idxP p l = idxF p (k + 1) r := by
  rw [h, e, idxF, hc]; rfl
theorem idx_hit {α : Type} {p : α → Bool} {l r : List α} {c : α} {k : Nat} (h : idxP p l = idxF p k (l.drop k)) (e : l.drop k = c :: r) (hc : p c = true) : idxP p l = k := by
  rw [h, e, idxF, hc]; rfl
theorem idx_end {α : Type} {p : α → Bool} {l : List α} {k : Nat} (h : idxP p l = idxF p k (l.drop k)) (hk : l.length ≤ k) : idxP p l = -1 := by
  rw [h, List.drop_of_length_le hk]; rfl
theorem idxF_r {α : Type} (p : α → Bool) : ∀ (l : List α) (k : Nat), idxF p k l = -1 ∨ (k : Int) ≤ idxF p k l ∧ idxF p k l < k + l.length
  | [], k => .inl rfl
  | x :: r, k => by
    unfold idxF
    split
    · right; simp; omega
    · rcases idxF_r p r (k + 1) with h | h
      · exact .inl h
      · right; simp only [List.length_cons]; omega
theorem idxP_r {α : Type} (p : α → Bool) (l : List α) : -1 ≤ idxP p l ∧ idxP p l < (l.length : Int) ∨ idxP p l = -1 := by
  have := idxF_r p l 0
  unfold idxP
  omega
theorem idxF_any {α : Type} (p : α → Bool) : ∀ (l : List α) (k : Nat), (0 ≤ idxF p k l) = (l.any p = true)
  | [], k => by simp [idxF]
  | x :: r, k => by
    unfold idxF
    cases h : p x with
    | true => simp [h]
    | false => simp only [Bool.false_eq_true, if_false, List.any_cons, h, Bool.false_or]; exact idxF_any p r (k + 1)
theorem idxP_any {α : Type} (p : α → Bool) (l : List α) : (0 ≤ idxP p l) = (l.any p = true) := idxF_any p l 0
/-! Books -/
def shopOf (l : List ShopR) (n : Bs) : Option ShopR := l.find? fun s => decide (s.name = n)
theorem shopOf_hit {l r : List ShopR} {c : ShopR} {n : Bs} {k : Nat} (h : shopOf l n = shopOf (l.drop k) n) (e : l.drop k = c :: r) (hc : c.name = n) : shopOf l n = some c := by
  rw [h, e]; simp [shopOf, hc]
theorem shopOf_miss {l r : List ShopR} {c : ShopR} {n : Bs} {k : Nat} (h : shopOf l n = shopOf (l.drop k) n) (e : l.drop k = c :: r) (hc : ¬ c.name = n) : shopOf l n = shopOf r n := by
  rw [h, e]; simp [shopOf, hc]
def shopE (x : ShopR) : Int := if nameE x.name ≠ 0 then nameE x.name else if 4 < x.sort then 8 else if x.sort = 4 then nameE x.to else if x.to ≠ [] then 4 else 0
theorem shopE_r (x : ShopR) : 0 ≤ shopE x ∧ shopE x ≤ 15 := by
  have := nameE_r x.name
  have := nameE_r x.to
  unfold shopE
  repeat' split
  all_goals omega
def makeS (b : BookR) (x : ShopR) : BookR × Int :=
  if shopE x ≠ 0 then (b, shopE x)
  else if (shopOf b.shops x.name).isSome = true ∧ x = (shopOf b.shops x.name).getD ShopR.zero then (b, 0)
  else if (shopOf b.shops x.name).isSome = true then (b, 9)
  else if 8 ≤ b.shops.length then (b, 12)
  else (⟨b.shops ++ [x], b.binds⟩, 0)
def bindRule (x : BindR) (sort : Int) : Rule := ⟨sort, x.key, x.want, x.all⟩
def bindS (b : BookR) (x : BindR) : BookR × Int :=
  if (shopOf b.shops x.shop).isSome = false then (b, 10)
  else if ((shopOf b.shops x.shop).getD ShopR.zero).sort = 4 then (b, 8)
  else if nameE x.to ≠ 0 then (b, nameE x.to)
  else if ruleE (bindRule x ((shopOf b.shops x.shop).getD ShopR.zero).sort) ≠ 0 then (b, ruleE (bindRule x ((shopOf b.shops x.shop).getD ShopR.zero).sort))
  else if 0 ≤ idxP (fun y => decide (x = y)) b.binds then (b, 0)
  else if 32 ≤ b.binds.length then (b, 12)
  else (⟨b.shops, b.binds ++ [x]⟩, 0)
theorem bindRule_wf {x : BindR} {s : Int} (w : x.wf) (h : 0 ≤ s ∧ s ≤ 255) : (bindRule x s).wf := ⟨h, w.2.2.1, w.2.2.2⟩
theorem slh_wfE {k : Nat} {H : Hp} {sv : Value} {xs : List ShopR} (h : SlH shopRE k H sv xs) : ∀ p ∈ xs, p.wf := fun p hp => by
  obtain ⟨m, hm, rfl⟩ := List.getElem_of_mem hp
  obtain ⟨cs, ⟨_, q⟩, _⟩ := h.2 m hm
  exact q
theorem shopOf_wf {l : List ShopR} {n : Bs} (h : ∀ p ∈ l, p.wf) : ((shopOf l n).getD ShopR.zero).wf := by
  unfold shopOf
  cases e : l.find? fun s => decide (s.name = n) with
  | none => simp [ShopR.wf, ShopR.zero]
  | some s => exact h s (List.mem_of_find?_eq_some e)
def putS (l : List Bs) (s : Bs) : List Bs := if s ∈ l then l else l ++ [s]
theorem makeS_wf {b : BookR} {x : ShopR} (w : b.wf) : (makeS b x).1.wf := by
  unfold makeS
  repeat' split
  all_goals first
    | exact w
    | (obtain ⟨w1, w2⟩ := w
       refine ⟨?_, w2⟩
       simp only [List.length_append, List.length_cons, List.length_nil]
       omega)
theorem bindS_wf {b : BookR} {x : BindR} (w : b.wf) : (bindS b x).1.wf := by
  unfold bindS
  repeat' split
  all_goals first
    | exact w
    | (obtain ⟨w1, w2⟩ := w
       refine ⟨w1, ?_⟩
       simp only [List.length_append, List.length_cons, List.length_nil]
       omega)
theorem putS_len (l : List Bs) (s : Bs) : (putS l s).length ≤ l.length + 1 := by
  unfold putS; split <;> simp
def leadGo (sort : Int) (shop key : Bs) (h : List Pair) : List BindR → List Bs → List Bs → List Bs × List Bs
  | [], q, p => (q, p)
  | y :: r, q, p => if y.shop ≠ shop ∨ goesR (bindRule y sort) key h = false then leadGo sort shop key h r q p else if y.up = true then leadGo sort shop key h r q (putS p y.to) else leadGo sort shop key h r (putS q y.to) p
def leadS (b : BookR) (shop key : Bs) (h : List Pair) : List Bs × List Bs × Int :=
  if (shopOf b.shops shop).isSome = false then ([], [], 10)
  else if ((shopOf b.shops shop).getD ShopR.zero).sort = 4 then ([], [((shopOf b.shops shop).getD ShopR.zero).to], 0)
  else ((leadGo ((shopOf b.shops shop).getD ShopR.zero).sort shop key h b.binds [] []).1, (leadGo ((shopOf b.shops shop).getD ShopR.zero).sort shop key h b.binds [] []).2, 0)
end Go.SW
namespace Go.SW
theorem bytes_app {e n : Nat} {v : Value} {en : Option (Nat × Obj)} {bs cs : Bs} (h : OwnV 1 e v en n (bs.map u8v ++ cs.map fun c => .int .u8 c.toNat)) (hn : n = bs.length + cs.length := by rfl) : OwnV 1 e v en (bs ++ cs).length ((bs ++ cs).map u8v) :=
  ownV_cast h (by simp [hn]) (by rw [List.map_append]; rfl)
theorem deedB_len {d : DeedR} (hk : 0 ≤ d.kind) (h : deedE d = 0) (hb : ∀ p ∈ d.bind.want, 0 ≤ p.kind) (hm : ∀ p ∈ d.mail.head, 0 ≤ p.kind) : (deedB d).length ≤ 5000 := by
  rw [← deedBytes_s hk h hb hm]; exact deedBytes_len hk
theorem packGo_r : ∀ (l : List DeedR) (s : Bs), 0 ≤ (packGo l s).2 ∧ (packGo l s).2 ≤ 15
  | [], _ => ⟨Int.le_refl _, by simp [packGo]⟩
  | d :: l, s => by
    have := deedE_r d
    unfold packGo
    split
    · exact this
    · exact packGo_r l _
theorem packD_r (l : List DeedR) : 0 ≤ (packD l).2 ∧ (packD l).2 ≤ 15 := by
  unfold packD
  split
  · simp
  · exact packGo_r _ _
def allD (l : List DeedR) : List DeedR × Bool := if l.all lightD = true then (l, true) else ([], false)
theorem allD_le (l : List DeedR) : (allD l).1.length ≤ l.length := by
  unfold allD; split <;> simp
theorem allD_ok (l : List DeedR) (h : (allD l).2 = true) : allD l = (l, true) := by
  unfold allD at h ⊢
  split at h
  · rename_i e; rw [if_pos e]
  · cases h
end Go.SW
namespace Go.SW
theorem mailRead_wf (i : In) : (mailRead i).1.wf := by
  unfold mailRead
  simp only
  have a := inNum_r i 8
  have b := inText_len (inNum i 8).2 16
  have c := inText_len (inText (inNum i 8).2 16).2 64
  have h := headRead_len (inText (inText (inNum i 8).2 16).2 64).2
  have e := inText_len (headRead (inText (inText (inNum i 8).2 16).2 64).2).2 256
  have f := inNum_r (inText (headRead (inText (inText (inNum i 8).2 16).2 64).2).2 256).2 8
  have g := inNum_r (inNum (inText (headRead (inText (inText (inNum i 8).2 16).2 64).2).2 256).2 8).2 1
  repeat' split
  all_goals simp only [Mail.wf, Mail.zero]
  all_goals first | omega | (simp; done)
end Go.SW
namespace Go.SW
theorem blank_wf {k t : Int} (hk : 0 ≤ k ∧ k ≤ 255) (ht : 0 ≤ t ∧ t ≤ 18446744073709551615) : (DeedR.blank k t).wf := by
  simp [DeedR.blank, DeedR.wf, ShopR.wf, QueueR.wf, BindR.wf, Mail.wf, ShopR.zero, QueueR.zero, BindR.zero, Mail.zero]
  omega
theorem bindRead_wf (i : In) : (bindRead i).1.wf := by
  unfold bindRead
  simp only [BindR.wf]
  have a := inText_len i 16
  have b := inText_len (inText i 16).2 16
  have c := inText_len (inNum (inText (inText i 16).2 16).2 1).2 64
  have h := headRead_len (inText (inNum (inText (inText i 16).2 16).2 1).2 64).2
  omega
theorem readK_wf {k t : Int} (j : In) (hk : 0 ≤ k ∧ k ≤ 255) (ht : 0 ≤ t ∧ t ≤ 18446744073709551615) : (readK k t j).1.wf := by
  unfold readK
  have hb := blank_wf hk ht
  obtain ⟨h1, h2, h3, h4, h5, h6, h7, h8, h9, h10, h11, h12, h13⟩ := hb
  simp only
  split
  · have a := inText_len j 16
    have b := inNum_r (inText j 16).2 1
    have c := inText_len (inNum (inText j 16).2 1).2 16
    exact ⟨h1, h2, by simp only [ShopR.wf]; omega, h4, h5, h6, h7, h8, h9, h10, h11, h12, h13⟩
  split
  · have a := inText_len j 16
    have b := inNum_r (inText j 16).2 8
    have c := inNum_r (inNum (inText j 16).2 8).2 8
    have e := inText_len (inNum (inNum (inText j 16).2 8).2 8).2 16
    exact ⟨h1, h2, h3, by simp only [QueueR.wf]; omega, h5, h6, h7, h8, h9, h10, h11, h12, h13⟩
  split
  · exact ⟨h1, h2, h3, h4, bindRead_wf _, h6, h7, h8, h9, h10, h11, h12, h13⟩
  split
  · exact ⟨h1, h2, h3, h4, h5, h6, h7, h8, h9, h10, h11, mailRead_wf _, h13⟩
  split
  · have a := inText_len j 16
    exact ⟨h1, h2, h3, h4, h5, by simp only; omega, h7, h8, h9, h10, h11, h12, h13⟩
  split
  · have a := inText_len j 16
    have b := inNum_r (inText j 16).2 8
    have c := inNum_r (inNum (inText j 16).2 8).2 1
    exact ⟨h1, h2, h3, h4, h5, by simp only; omega, by simp only; omega, by simp only; omega, h9, h10, h11, h12, h13⟩
  split
  · have a := inNum_r j 1
    have b := inNum_r (inNum j 1).2 8
    exact ⟨h1, h2, h3, h4, h5, h6, h7, h8, by simp only; omega, h10, by simp only; omega, mailRead_wf _, h13⟩
  split
  · have a := inNum_r j 1
    have b := inText_len (inNum j 1).2 64
    exact ⟨h1, h2, h3, h4, h5, h6, h7, h8, h9, by simp only; omega, h11, h12, by simp only; omega⟩
  · exact ⟨h1, h2, h3, h4, h5, h6, h7, h8, h9, h10, h11, h12, h13⟩
theorem readD_wf (i : In) : (readD i).1.wf := by
  have hk := inNum_r i 1
  have ht := inNum_r (inNum i 1).2 8
  exact readK_wf _ (by omega) (by omega)
end Go.SW
namespace Go.SW
theorem txt_fwd {s r : Bs} {m : Int} (h1 : (s.length : Int) ≤ m) (h2 : (s.length : Int) ≤ 65535) : inText ⟨txtB s ++ r, 0⟩ m = (s, ⟨r, 0⟩) := by
  unfold txtB
  rw [List.append_assoc]
  exact inText_fwd h1 h2
theorem head_fwd {l : List Pair} {r : Bs} (e : headE l = 0) (hw : ∀ p ∈ l, p.wf) : headRead ⟨r9B l ++ r, 0⟩ = (l, ⟨r, 0⟩) := by
  rw [← headBytes_r e (fun p hp => (hw p hp).1.1)]
  exact headRead_fwd e hw
theorem bit_fwd {b : Bool} {r : Bs} : inNum ⟨numB 1 (bitN b).toNat ++ r, 0⟩ 1 = (bitN b, ⟨r, 0⟩) := inNum_fwd1 (bitN_r b).1 (by have := (bitN_r b).2; omega)
theorem bit_back (b : Bool) : decide (bitN b = 1) = b := by cases b <;> rfl
theorem inFail_0 (i : In) : inFail i 0 = i := by unfold inFail; rw [if_neg (fun h => h.2 rfl)]
theorem mailRead_fwd {m : Mail} {r : Bs} (hw : m.wf) (hh : ∀ p ∈ m.head, p.wf) (h : mailC m = 0) : mailRead ⟨mailB m ++ r, 0⟩ = (m, ⟨r, 0⟩) := by
  obtain ⟨k1, k2, k3, k4, k5⟩ := mailC_ok h
  obtain ⟨w1, w2, w3, _⟩ := hw
  unfold mailRead mailB
  simp only [List.append_assoc]
  rw [inNum_fwd8 w1.1 (by omega)]
  simp only
  rw [txt_fwd (by omega) (by omega)]
  simp only
  rw [txt_fwd (by omega) (by omega)]
  simp only
  rw [head_fwd k3 hh]
  simp only
  rw [txt_fwd (by omega) (by omega)]
  simp only
  rw [inNum_fwd8 w2.1 (by omega)]
  simp only
  rw [inNum_fwd1 w3.1 (by omega)]
  simp only [if_true]
  rw [show (⟨m.id, m.shop, m.key, m.head, m.body, m.due, m.hops⟩ : Mail) = m from rfl, h, inFail_0]
  rfl
theorem bindRead_fwd {b : BindR} {r : Bs} (hh : ∀ p ∈ b.want, p.wf) (h1 : b.shop.length ≤ 16) (h2 : b.to.length ≤ 16) (h3 : b.key.length ≤ 64) (h4 : headE b.want = 0) :
    bindRead ⟨txtB b.shop ++ (txtB b.to ++ (numB 1 (bitN b.up).toNat ++ (txtB b.key ++ (r9B b.want ++ (numB 1 (bitN b.all).toNat ++ r))))), 0⟩ = (b, ⟨r, 0⟩) := by
  unfold bindRead
  simp only
  rw [txt_fwd (by omega) (by omega)]
  simp only
  rw [txt_fwd (by omega) (by omega)]
  simp only
  rw [bit_fwd]
  simp only
  rw [txt_fwd (by omega) (by omega)]
  simp only
  rw [head_fwd h4 hh]
  simp only
  rw [bit_fwd]
  simp only [bit_back]
structure DWf (d : DeedR) : Prop where
  w : d.wf
  want : ∀ p ∈ d.bind.want, p.wf
  head : ∀ p ∈ d.mail.head, p.wf
theorem readD_fwd {d : DeedR} {r : Bs} (hd : DWf d) (h : deedE d = 0) : readD ⟨deedB d ++ r, 0⟩ = (d, ⟨r, 0⟩) := by
  obtain ⟨hw, hb, hm⟩ := hd
  have hk := hw.1
  have ht := hw.2.1
  have ok := deedE_ok hk.1 h
  obtain ⟨k1, k2, k3, k4, k5, k6, k7, k8, k9, k10, k11, k12, k13, k14, k15, k16, k17, k18, k19⟩ := ok
  have hmc := deedE_mail h
  obtain ⟨t1, t2, t3, t4, t5, t6, t7, t8, t9, t10, t11⟩ := told_iff.1 k1
  obtain ⟨_, _, ws, wq, wb, _, wid, wh, wf, wc, wn, wm, _⟩ := hw
  unfold readD deedB
  simp only [List.append_assoc]
  rw [inNum_fwd1 hk.1 (by omega)]
  simp only
  rw [inNum_fwd8 ht.1 (by omega)]
  simp only
  have hc : d.kind = 0 ∨ d.kind = 1 ∨ d.kind = 2 ∨ d.kind = 3 ∨ d.kind = 4 ∨ d.kind = 5 ∨ d.kind = 6 ∨ d.kind = 7 ∨ d.kind = 8 ∨ d.kind = 9 ∨ d.kind = 10 ∨ d.kind = 11 ∨ d.kind = 12 := by omega
  have fin : ∀ {x : DeedR}, x.kind = d.kind ∧ x.tick = d.tick ∧ x.shop = d.shop ∧ x.queue = d.queue ∧ x.bind = d.bind ∧ x.name = d.name ∧ x.id = d.id ∧ x.how = d.how ∧ x.frm = d.frm ∧ x.code = d.code ∧ x.number = d.number ∧ x.mail = d.mail ∧ x.text = d.text → (x, (⟨r, 0⟩ : In)) = (d, ⟨r, 0⟩) := fun e => by rw [DeedR.eq_iff.2 e]
  simp only [readK, DeedR.blank, ShopR.zero, QueueR.zero, BindR.zero, Mail.zero]
  rcases hc with q | q | q | q | q | q | q | q | q | q | q | q | q <;> simp only [q] at t1 t2 t3 t4 t5 t6 t7 t8 t9 t10 t11 hmc ⊢ <;> simp (config := { failIfUnchanged := false }) at t1 t2 t3 t4 t5 t6 t7 t8 t9 t10 t11 hmc ⊢
  all_goals clear k1 h fin
  all_goals
    have f1 : ∀ {s x : Bs}, s.length ≤ 16 → inText ⟨txtB s ++ x, 0⟩ 16 = (s, ⟨x, 0⟩) := fun e => txt_fwd (by omega) (by omega)
    have f2 : ∀ {s x : Bs}, s.length ≤ 64 → inText ⟨txtB s ++ x, 0⟩ 64 = (s, ⟨x, 0⟩) := fun e => txt_fwd (by omega) (by omega)
    have f3 : ∀ {n : Int} {x : Bs}, 0 ≤ n ∧ n ≤ 18446744073709551615 → inNum ⟨numB 8 n.toNat ++ x, 0⟩ 8 = (n, ⟨x, 0⟩) := fun e => inNum_fwd8 e.1 (by omega)
    have f4 : ∀ {n : Int} {x : Bs}, 0 ≤ n ∧ n ≤ 255 → inNum ⟨numB 1 n.toNat ++ x, 0⟩ 1 = (n, ⟨x, 0⟩) := fun e => inNum_fwd1 e.1 (by omega)
    have f5 : ∀ {x : Bs}, bindRead ⟨txtB d.bind.shop ++ (txtB d.bind.to ++ (numB 1 (bitN d.bind.up).toNat ++ (txtB d.bind.key ++ (r9B d.bind.want ++ (numB 1 (bitN d.bind.all).toNat ++ x))))), 0⟩ = (d.bind, ⟨x, 0⟩) := bindRead_fwd hb k8 k9 k10 k11
    have g1 := ws.2.1
    have g2 := wq.2.1
    have g3 := wq.2.2.1
    try rw [f1 k3]
    try rw [f4 g1]
    try rw [f1 k4]
    try rw [f1 k6]
    try rw [f3 g2]
    try rw [f3 g3]
    try rw [f1 k7]
    try rw [f5]
    try rw [mailRead_fwd wm hm hmc]
    try rw [f1 k12]
    try rw [f3 wid]
    try rw [f4 wh]
    try rw [f4 wf]
    try rw [f3 wn]
    try rw [mailRead_fwd wm hm hmc]
    try rw [f4 wc]
    try rw [f2 k19]
  all_goals first
    | (refine ⟨DeedR.eq_iff.2 ?_, rfl⟩
       simp (config := { failIfUnchanged := false }) only [*, and_self, true_and]
       done)
    | (refine DeedR.eq_iff.2 ?_
       simp (config := { failIfUnchanged := false }) only [*, and_self, true_and]
       done)
theorem unpackGo_fwd : ∀ (l acc : List DeedR) (r : Bs), (∀ d ∈ l, DWf d ∧ deedE d = 0) → unpackGo l.length ⟨l.flatMap deedB ++ r, 0⟩ acc = (acc ++ l, ⟨r, 0⟩)
  | [], acc, r, _ => by simp [unpackGo]
  | d :: l, acc, r, h => by
    have hd := h d (List.mem_cons_self ..)
    simp only [List.length_cons, unpackGo, if_true, List.flatMap_cons, List.append_assoc]
    rw [readD_fwd hd.1 hd.2, unpackGo_fwd l (acc ++ [d]) r (fun x hx => h x (List.mem_cons_of_mem _ hx))]
    simp
theorem packGo_ok : ∀ (l : List DeedR) (s : Bs), (packGo l s).2 = 0 → (∀ d ∈ l, deedE d = 0) ∧ (packGo l s).1 = s ++ l.flatMap deedB
  | [], s, _ => ⟨fun _ h => (by cases h), by simp [packGo]⟩
  | d :: l, s, h => by
    unfold packGo at h ⊢
    by_cases e : deedE d = 0
    · rw [if_neg (fun q => q e)] at h ⊢
      obtain ⟨h1, h2⟩ := packGo_ok l _ h
      refine ⟨fun x hx => ?_, by rw [h2]; simp⟩
      rcases List.mem_cons.1 hx with rfl | hx
      · exact e
      · exact h1 x hx
    · rw [if_pos e] at h; exact absurd h e
theorem packD_ok {l : List DeedR} (h : (packD l).2 = 0) : l.length ≤ 255 ∧ (∀ d ∈ l, deedE d = 0) ∧ (packD l).1 = numB 1 l.length ++ l.flatMap deedB := by
  unfold packD at h ⊢
  by_cases e : (255 : Int) < l.length
  · rw [if_pos e] at h; exact absurd h (by decide)
  · rw [if_neg e] at h ⊢
    obtain ⟨h1, h2⟩ := packGo_ok l _ h
    exact ⟨by omega, h1, h2⟩
theorem inNum_one {n : Nat} {r : Bs} (h : n ≤ 255) : inNum ⟨numB 1 n ++ r, 0⟩ 1 = ((n : Int), ⟨r, 0⟩) := by
  have := inNum_fwd1 (r := r) (n := (n : Int)) (by omega) (by omega)
  rwa [Int.toNat_natCast] at this
/-! What is read -/
theorem readGo_pw : ∀ (k : Nat) (i : In) (h : List Pair), (∀ p ∈ h, p.wf) → ∀ p ∈ (readGo k i h).1, p.wf
  | 0, _, h, hw => hw
  | k + 1, i, h, hw => by
    rw [readGo_step (p := (readOne i).1) (q := (readOne i).2) rfl]
    have key : ∀ p ∈ h ++ [(readOne i).1], p.wf := fun p hp => by
      rcases List.mem_append.1 hp with q | q
      · exact hw p q
      · rw [List.mem_singleton.1 q]; exact readOne_wf i
    repeat' split
    all_goals first
      | exact readGo_pw k _ _ key
      | exact fun p hp => absurd hp List.not_mem_nil
theorem headRead_pw (i : In) : ∀ p ∈ (headRead i).1, p.wf := readGo_pw _ _ _ (fun _ h => by cases h)
theorem mailRead_pw (i : In) : ∀ p ∈ (mailRead i).1.head, p.wf := by
  unfold mailRead
  simp only
  repeat' split
  all_goals first
    | exact fun p hp => absurd hp List.not_mem_nil
    | exact headRead_pw _
theorem bindRead_pw (i : In) : ∀ p ∈ (bindRead i).1.want, p.wf := headRead_pw _
theorem nil_pw : ∀ p ∈ ([] : List Pair), p.wf := fun p hp => absurd hp List.not_mem_nil
theorem readK_want {k t : Int} (j : In) : ∀ p ∈ (readK k t j).1.bind.want, p.wf := by
  unfold readK
  simp only
  split
  · exact nil_pw
  split
  · exact nil_pw
  split
  · exact bindRead_pw j
  split
  · exact nil_pw
  split
  · exact nil_pw
  split
  · exact nil_pw
  split
  · exact nil_pw
  split
  · exact nil_pw
  · exact nil_pw
theorem readK_head {k t : Int} (j : In) : ∀ p ∈ (readK k t j).1.mail.head, p.wf := by
  unfold readK
  simp only
  split
  · exact nil_pw
  split
  · exact nil_pw
  split
  · exact nil_pw
  split
  · exact mailRead_pw j
  split
  · exact nil_pw
  split
  · exact nil_pw
  split
  · exact mailRead_pw _
  split
  · exact nil_pw
  · exact nil_pw
theorem readK_pw {k t : Int} (j : In) (hk : 0 ≤ k ∧ k ≤ 255) (ht : 0 ≤ t ∧ t ≤ 18446744073709551615) : DWf (readK k t j).1 := ⟨readK_wf j hk ht, readK_want j, readK_head j⟩
theorem readD_pw (i : In) : DWf (readD i).1 := by
  have hk := inNum_r i 1
  have ht := inNum_r (inNum i 1).2 8
  exact readK_pw _ (by omega) (by omega)
theorem unpackGo_pw : ∀ (k : Nat) (i : In) (l : List DeedR), (∀ d ∈ l, DWf d) → ∀ d ∈ (unpackGo k i l).1, DWf d
  | 0, _, l, h => h
  | k + 1, i, l, h => by
    unfold unpackGo
    split
    · refine unpackGo_pw k _ _ fun d hd => ?_
      rcases List.mem_append.1 hd with q | q
      · exact h d q
      · rw [List.mem_singleton.1 q]; exact readD_pw i
    · exact h
theorem unpackGo_len : ∀ (k : Nat) (i : In) (l : List DeedR), (unpackGo k i l).1.length ≤ l.length + k
  | 0, _, l => Nat.le_refl _
  | k + 1, i, l => by
    unfold unpackGo
    split
    · have := unpackGo_len k (readD i).2 (l ++ [(readD i).1])
      simp only [List.length_append, List.length_cons, List.length_nil] at this
      omega
    · simp
theorem numB_inj {n m : Nat} {r r' : Bs} (hn : n ≤ 255) (hm : m ≤ 255) (h : numB 1 n ++ r = numB 1 m ++ r') : n = m ∧ r = r' := by
  have e1 := inNum_one (r := r) hn
  rw [h, inNum_one hm] at e1
  have e2 := congrArg Prod.fst e1
  have e3 := congrArg (fun x => x.2.s) e1
  exact ⟨by simp only at e2; omega, by simpa using e3.symm⟩
theorem unpack_short {l : List DeedR} (hw : ∀ d ∈ l, DWf d) (h : (packD l).2 = 0) {c : Nat} (hc : c < (packD l).1.length) : unpackD ((packD l).1.take c) = ([], 4) := by
  obtain ⟨h1, h2, h3⟩ := packD_ok h
  unfold unpackD
  simp only
  generalize hg : unpackGo (inNum ⟨(packD l).1.take c, 0⟩ 1).1.toNat (inNum ⟨(packD l).1.take c, 0⟩ 1).2 [] = g
  by_cases q : inEnd g.2 = 0 ∧ (packD g.1).2 = 0 ∧ (packD g.1).1 = (packD l).1.take c
  · exfalso
    obtain ⟨q1, q2, q3⟩ := q
    have hgw : ∀ d ∈ g.1, DWf d := by rw [← hg]; exact unpackGo_pw _ _ _ (fun _ h => by cases h)
    obtain ⟨p1, p2, p3⟩ := packD_ok q2
    have hs : (packD l).1 = (packD l).1.take c ++ (packD l).1.drop c := (List.take_append_drop c _).symm
    rw [← q3, p3, h3] at hs
    rw [List.append_assoc] at hs
    obtain ⟨n1, n2⟩ := numB_inj h1 p1 hs
    have a := unpackGo_fwd l [] [] (fun d hd => ⟨hw d hd, h2 d hd⟩)
    have b := unpackGo_fwd g.1 [] ((packD l).1.drop c) (fun d hd => ⟨hgw d hd, p2 d hd⟩)
    rw [List.append_nil, n2, n1] at a
    rw [h3, n1] at b
    rw [b] at a
    have a2 := congrArg (fun x => x.2.s) a
    simp only at a2
    have : ((packD l).1.drop c).length = 0 := by rw [h3, n1, a2]; rfl
    rw [List.length_drop] at this
    omega
  · rw [if_neg q]
end Go.SW
namespace Go.SW
theorem unpackGo_end {m : Nat} {i : In} {l : List DeedR} (h : m = 0 ∨ i.err ≠ 0) : unpackGo m i l = (l, i) := by
  cases m with
  | zero => rfl
  | succ m =>
    unfold unpackGo
    rw [if_neg (by omega)]
theorem unpackD_len (s : Bs) : (unpackD s).1.length ≤ 255 := by
  unfold unpackD
  simp only
  split
  · have := unpackGo_len (inNum ⟨s, 0⟩ 1).1.toNat (inNum ⟨s, 0⟩ 1).2 []
    have h := (inNum_r ⟨s, 0⟩ 1).2.2.2 (by omega)
    simp only [List.length_nil] at this
    refine Nat.le_trans this ?_
    omega
  · simp
theorem slh_pw {k : Nat} {H : Hp} {sv : Value} {xs : List Pair} (h : SlH pairE k H sv xs) : ∀ p ∈ xs, p.wf := slh_wf h
theorem slh_dw {k : Nat} {H : Hp} {sv : Value} {xs : List DeedR} (h : SlH deedRE k H sv xs) : ∀ d ∈ xs, DWf d := fun p hp => by
  obtain ⟨m, hm, rfl⟩ := List.getElem_of_mem hp
  obtain ⟨cs, ⟨a1, c1, a2, c2, _, s1, s2, w⟩, _⟩ := h.2 m hm
  exact ⟨w, slh_pw s1, slh_pw s2⟩
theorem packD_bad {l : List DeedR} (h : (packD l).2 ≠ 0) : (packD l).1 = [] := by
  have go : ∀ (l : List DeedR) (s : Bs), (packGo l s).2 ≠ 0 → (packGo l s).1 = [] := by
    intro l
    induction l with
    | nil => intro s h; exact absurd rfl h
    | cons d l ih =>
      intro s h
      unfold packGo at h ⊢
      split
      · rfl
      · rename_i e; rw [if_neg e] at h; exact ih _ h
  unfold packD at h ⊢
  split
  · rfl
  · rename_i e; rw [if_neg e] at h; exact go _ _ h
theorem packGo_len : ∀ (l : List DeedR) (s : Bs), (∀ d ∈ l, DWf d) → (packGo l s).1.length ≤ s.length + 5000 * l.length
  | [], s, _ => by simp [packGo]
  | d :: l, s, h => by
    have hd := h d (List.mem_cons_self ..)
    unfold packGo
    split
    · simp
    · rename_i e
      have := packGo_len l (s ++ deedB d) (fun x hx => h x (List.mem_cons_of_mem _ hx))
      have hl := deedB_len hd.w.1.1 (by omega) (fun p hp => (hd.want p hp).1.1) (fun p hp => (hd.head p hp).1.1)
      rw [List.length_append] at this
      simp only [List.length_cons]
      omega
theorem packD_len {l : List DeedR} (h : ∀ d ∈ l, DWf d) : (packD l).1.length ≤ 2000000 := by
  unfold packD
  split
  · simp
  · have := packGo_len l (numB 1 l.length) h
    rw [numB_len] at this
    refine Nat.le_trans this ?_
    omega
theorem packD_pos {l : List DeedR} (h : (packD l).2 = 0) : 1 ≤ (packD l).1.length := by
  rw [(packD_ok h).2.2, List.length_append, numB_len]; omega
theorem unpack_cut {l : List DeedR} {cut : Int} (hw : ∀ d ∈ l, DWf d) (h : (packD l).2 = 0) (hc : 0 ≤ cut) : unpackD ((packD l).1.take (cut % ((packD l).1.length : Int)).toNat) = ([], 4) := by
  have hp := packD_pos h
  refine unpack_short hw h ?_
  have h1 := Int.emod_lt_of_pos cut (b := ((packD l).1.length : Int)) (by omega)
  have h2 := Int.emod_nonneg cut (b := ((packD l).1.length : Int)) (by omega)
  omega
end Go.SW
namespace Go.SW
variable {P : Program} {n : Nat} {N : Rest} {F : Fr} {H : Hp} {L : Ls} {ty T T' T2 : TypeId} {x y z : Operand}
variable {ops rest : List Oper} {op : Op} {d : Nat} {pos : String} {af : Array Edge} {Q : Qt}
def gv (c : Bool) (v : Value) : Value := bif c then v else undef
theorem gvE {c : Bool} {v : Value} (h : ev F x = gv c v) (hc : c = true) : ev F x = v := by rw [h, hc]; rfl
theorem yielded_none {a : Act} (ha : At n a F) {j : Nat} (h : yF ops F j = some undef) : yielded ops.toArray a.tmps j = none := by
  unfold yF at h
  unfold yielded
  cases ho : ops[j]? with
  | none => simp [ho] at h
  | some o =>
    rw [ho] at h
    cases hd : o.dst with
    | none => simp [hd] at h
    | some t =>
      simp [hd] at h
      have hg := ha.get t
      rw [h, Array.getD_eq_getD_getElem?] at hg
      have ho' : ops.toArray[j]? = some o := by simp [ho]
      rw [ho', Option.bind_some, hd, Option.bind_some]
      cases e : a.tmps[t]? with
      | none => rfl
      | some u =>
        rw [e] at hg
        simp only [Option.getD_some] at hg
        subst hg
        rfl
/-- An operation that is quiet, under a guard that is not known. -/
theorem gq {j : Nat} {want c b : Bool} {v : Value} (hy : yF ops F j = some (gv c (.bool b))) (hd : Nat.blt d n = true) (h : (c && (b == want)) = true → Lo P N op ty F H L v)
    (k : Ow P n N ops rest Q (upd F d (gv (c && (b == want)) v)) H L) : Ow P n N ops (⟨some d, op, ty, pos, af, some (j, want)⟩ :: rest) Q F H L := by
  cases c with
  | false =>
    refine ow1 fun a w ha hm => ?_
    have : yielded ops.toArray a.tmps j = none := yielded_none ha hy
    rw [if_neg (by simp [Region.wanted, this])]
    exact ⟨_, _, _, ha.put (by simpa using hd) undef, hm, k⟩
  | true =>
    by_cases e : b = want
    · subst e
      have e1 : (true && (b == b)) = true := by simp
      rw [e1] at k
      exact ow1 (op1_g hy rfl hd (h e1) k)
    · have e1 : (true && (b == want)) = false := by simpa using e
      rw [e1] at k
      refine ow1 (op1_gs hy ?_ hd k)
      cases b <;> cases want <;> simp_all
/-- A call that reads, under a guard that is not known. -/
theorem gp {j : Nat} {want c b : Bool} {v : Value} {f : FuncId} {args : Array Value} (hy : yF ops F j = some (gv c (.bool b))) (h : (c && (b == want)) = true → Pr P f args H v) (he : (c && (b == want)) = true → En P op F f args) (hd : Nat.blt d n = true)
    (k : Ow P n N ops rest Q (upd F d (gv (c && (b == want)) v)) H L) : Ow P n N ops (⟨some d, op, ty, pos, af, some (j, want)⟩ :: rest) Q F H L := by
  cases c with
  | false =>
    refine ow1 fun a w ha hm => ?_
    have : yielded ops.toArray a.tmps j = none := yielded_none ha hy
    rw [if_neg (by simp [Region.wanted, this])]
    exact ⟨_, _, _, ha.put (by simpa using hd) undef, hm, k⟩
  | true =>
    by_cases e : b = want
    · subst e
      have e1 : (true && (b == b)) = true := by simp
      rw [e1] at k
      exact ow1 (op1_prg hy rfl (h e1) (he e1) hd k)
    · have e1 : (true && (b == want)) = false := by simpa using e
      rw [e1] at k
      refine ow1 (op1_gs hy ?_ hd k)
      cases b <;> cases want <;> simp_all
theorem lo_pick_and {c p q : Bool} (hx : ev F x = .bool p) (hy : ev F y = gv c (.bool q)) (hz : ev F z = .bool false) (hc : c = p) : Lo P N (.pick x y z) ty F H L (.bool (p && q)) := fun d pos af g w _ => by
  subst hc
  cases c <;> simp [execOp, hx, hy, hz, asBool, gv]
theorem evs1 {xs : List Operand} {v : Value} {vs : List Value} (h : ev F x = v) (k : evs F xs = vs) : evs F (x :: xs) = v :: vs := by rw [evs, h, k]
/-! The four kinds of a guard: on what stands alone, or on what is guarded itself; yes or no -/
theorem gqt {j : Nat} {b : Bool} {v : Value} (hy : yF ops F j = some (.bool b)) (hd : Nat.blt d n = true) (h : b = true → Lo P N op ty F H L v) (k : Ow P n N ops rest Q (upd F d (gv b v)) H L) : Ow P n N ops (⟨some d, op, ty, pos, af, some (j, true)⟩ :: rest) Q F H L := by
  have e : (true && (b == true)) = b := by cases b <;> rfl
  exact gq (c := true) hy hd (by rw [e]; exact h) (by rw [e]; exact k)
theorem gpt {j : Nat} {b : Bool} {v : Value} {f : FuncId} {args : Array Value} (hy : yF ops F j = some (.bool b)) (h : b = true → Pr P f args H v) (he : b = true → En P op F f args) (hd : Nat.blt d n = true) (k : Ow P n N ops rest Q (upd F d (gv b v)) H L) : Ow P n N ops (⟨some d, op, ty, pos, af, some (j, true)⟩ :: rest) Q F H L := by
  have e : (true && (b == true)) = b := by cases b <;> rfl
  exact gp (c := true) hy (by rw [e]; exact h) (by rw [e]; exact he) hd (by rw [e]; exact k)
/-! In regions that draw -/
section
variable {Lk : Ls} {fuel : Nat} {listed : Array Bool} {v : Value}
end
end Go.SW
namespace Go.Proofs
open Go.Shelf
def Tryz.lays150_ren : Go.Shelf.Ren := ⟨fun | 150 => 170 | 153 => 190 | 152 => 200 | 226 => 201 | 227 => 202 | 228 => 203 | 137 => 207 | 119 => 208 | 224 => 209 | 225 => 210 | 217 => 212 | 266 => 216 | n => n, fun | 9 => 9 | 4 => 4 | 3 => 3 | 5 => 5 | 21 => 21 | 117 => 255 | 116 => 254 | 0 => 0 | 46 => 170 | 124 => 263 | n => n, fun | n => n⟩
theorem Tryz.lays150 : Go.Proofs.Lays.n150 Tryz.prog Tryz.lays150_ren := {
  mixed := by kernel_rfl
  f119 := Tryz.func208.trans (congrArg some (by kernel_rfl))
  f137 := Tryz.func207.trans (congrArg some (by kernel_rfl))
  f150 := Tryz.func170.trans (congrArg some (by kernel_rfl))
  f152 := Tryz.func200.trans (congrArg some (by kernel_rfl))
  f153 := Tryz.func190.trans (congrArg some (by kernel_rfl))
  f217 := Tryz.func212.trans (congrArg some (by kernel_rfl))
  f224 := Tryz.func209.trans (congrArg some (by kernel_rfl))
  f225 := Tryz.func210.trans (congrArg some (by kernel_rfl))
  f226 := Tryz.func201.trans (congrArg some (by kernel_rfl))
  f227 := Tryz.func202.trans (congrArg some (by kernel_rfl))
  f228 := Tryz.func203.trans (congrArg some (by kernel_rfl))
  f266 := Tryz.func216.trans (congrArg some (by kernel_rfl))
  t0 := Tryz.underlying0
  a0 := Tryz.isAgg0
  z0 := Tryz.sizeOf0
  v0 := Tryz.zeroValue0
  t3 := Tryz.underlying3
  a3 := Tryz.isAgg3
  z3 := Tryz.sizeOf3
  v3 := Tryz.zeroValue3
  t4 := Tryz.underlying4
  a4 := Tryz.isAgg4
  z4 := Tryz.sizeOf4
  v4 := Tryz.zeroValue4
  t5 := Tryz.underlying5
  a5 := Tryz.isAgg5
  z5 := Tryz.sizeOf5
  v5 := Tryz.zeroValue5
  t9 := Tryz.underlying9
  a9 := Tryz.isAgg9
  z9 := Tryz.sizeOf9
  v9 := Tryz.zeroValue9
  t21 := Tryz.underlying21
  a21 := Tryz.isAgg21
  z21 := Tryz.sizeOf21
  v21 := Tryz.zeroValue21
  t46 := Tryz.underlying170
  a46 := Tryz.isAgg170
  z46 := Tryz.sizeOf170
  v46 := Tryz.zeroValue170
  t116 := Tryz.underlying254
  a116 := Tryz.isAgg254
  z116 := Tryz.sizeOf254
  t117 := Tryz.underlying255
  a117 := Tryz.isAgg255
  z117 := Tryz.sizeOf255
  v117 := Tryz.zeroValue255
  t124 := Tryz.underlying263
  a124 := Tryz.isAgg263
  z124 := Tryz.sizeOf263
  v124 := Tryz.zeroValue263 }
open Go.RowKit Go.Lib in
theorem Tryz.strings_ContainsAny_laid (s chars : ByteArray) (w : World) (hs : s.size < 4294967281) (hcs : chars.size < 4294967281) (has : ∀ (j : Nat) b, s.data.toList[j]? = some b → b.toNat < 128) (hac : ∀ (j : Nat) b, chars.data.toList[j]? = some b → b.toNat < 128) :
    Calls Tryz.prog 170 #[.string s, .string chars] w fun e w' => e = .returned (.bool (Lib.containsAny s.data.toList chars.data.toList)) ∧ Below w.heap.size w w' := Any.strings_ContainsAny_laid Tryz.lays150 (by kernel_rfl) s chars w hs hcs has hac
end Go.Proofs
namespace Go.SW
open Go.Proofs
theorem strings_ContainsAny (H : Hp) (s cs : Bs) (hs : s.length < 4294967281) (hc : cs.length < 4294967281) (ha : ∀ c ∈ s, c.toNat < 128) (hb : ∀ c ∈ cs, c.toNat < 128) : Pr Tryz.prog 170 #[str s, str cs] H (.bool (hasAny s cs)) := by
  refine pr_below fun w => ?_
  rw [← containsAny_eq]
  exact Tryz.strings_ContainsAny_laid ⟨s.toArray⟩ ⟨cs.toArray⟩ w (by simpa [ByteArray.size] using hs) (by simpa [ByteArray.size] using hc) (fun j b h => ha b (List.mem_of_getElem? h)) (fun j b h => hb b (List.mem_of_getElem? h))
end Go.SW
namespace Go.Proofs
open Go.Shelf
def Tryz.lays146_ren : Go.Shelf.Ren := ⟨fun | 146 => 204 | 221 => 211 | 268 => 213 | 138 => 214 | 143 => 215 | 195 => 217 | 197 => 218 | 218 => 219 | 219 => 220 | 260 => 221 | 217 => 212 | 225 => 210 | 224 => 209 | 267 => 222 | 266 => 216 | 314 => 223 | n => n, fun | 9 => 9 | 31 => 183 | 3 => 3 | 4 => 4 | 0 => 0 | 105 => 266 | 21 => 21 | 5 => 5 | 46 => 170 | 119 => 268 | 139 => 271 | 138 => 270 | 146 => 272 | 51 => 186 | n => n, fun | 1 => 2 | 3 => 3 | 4 => 4 | n => n⟩
theorem Tryz.lays146 : Go.Proofs.Lays.n146 Tryz.prog Tryz.lays146_ren := {
  mixed := by kernel_rfl
  f138 := Tryz.func214.trans (congrArg some (by kernel_rfl))
  f143 := Tryz.func215.trans (congrArg some (by kernel_rfl))
  f146 := Tryz.func204.trans (congrArg some (by kernel_rfl))
  f195 := Tryz.func217.trans (congrArg some (by kernel_rfl))
  f197 := Tryz.func218.trans (congrArg some (by kernel_rfl))
  f217 := Tryz.func212.trans (congrArg some (by kernel_rfl))
  f218 := Tryz.func219.trans (congrArg some (by kernel_rfl))
  f219 := Tryz.func220.trans (congrArg some (by kernel_rfl))
  f221 := Tryz.func211.trans (congrArg some (by kernel_rfl))
  f224 := Tryz.func209.trans (congrArg some (by kernel_rfl))
  f225 := Tryz.func210.trans (congrArg some (by kernel_rfl))
  f260 := Tryz.func221.trans (congrArg some (by kernel_rfl))
  f266 := Tryz.func216.trans (congrArg some (by kernel_rfl))
  f267 := Tryz.func222.trans (congrArg some (by kernel_rfl))
  f268 := Tryz.func213.trans (congrArg some (by kernel_rfl))
  f314 := Tryz.func223.trans (congrArg some (by kernel_rfl))
  t0 := Tryz.underlying0
  a0 := Tryz.isAgg0
  z0 := Tryz.sizeOf0
  v0 := Tryz.zeroValue0
  t3 := Tryz.underlying3
  a3 := Tryz.isAgg3
  z3 := Tryz.sizeOf3
  v3 := Tryz.zeroValue3
  t4 := Tryz.underlying4
  a4 := Tryz.isAgg4
  z4 := Tryz.sizeOf4
  v4 := Tryz.zeroValue4
  t5 := Tryz.underlying5
  a5 := Tryz.isAgg5
  z5 := Tryz.sizeOf5
  v5 := Tryz.zeroValue5
  t9 := Tryz.underlying9
  a9 := Tryz.isAgg9
  z9 := Tryz.sizeOf9
  v9 := Tryz.zeroValue9
  t21 := Tryz.underlying21
  a21 := Tryz.isAgg21
  z21 := Tryz.sizeOf21
  v21 := Tryz.zeroValue21
  t31 := Tryz.underlying183
  a31 := Tryz.isAgg183
  z31 := Tryz.sizeOf183
  v31 := Tryz.zeroValue183
  t46 := Tryz.underlying170
  a46 := Tryz.isAgg170
  z46 := Tryz.sizeOf170
  v46 := Tryz.zeroValue170
  t51 := Tryz.underlying186
  a51 := Tryz.isAgg186
  z51 := Tryz.sizeOf186
  v51 := Tryz.zeroValue186
  t105 := Tryz.underlying266
  a105 := Tryz.isAgg266
  z105 := Tryz.sizeOf266
  v105 := Tryz.zeroValue266
  t119 := Tryz.underlying268
  a119 := Tryz.isAgg268
  z119 := Tryz.sizeOf268
  t138 := Tryz.underlying270
  a138 := Tryz.isAgg270
  z138 := Tryz.sizeOf270
  v138 := Tryz.zeroValue270
  t139 := Tryz.underlying271
  a139 := Tryz.isAgg271
  z139 := Tryz.sizeOf271
  v139 := Tryz.zeroValue271
  t146 := Tryz.underlying272
  a146 := Tryz.isAgg272
  z146 := Tryz.sizeOf272
  v146 := Tryz.zeroValue272
  g1 := by kernel_rfl
  g3 := by kernel_rfl
  g4 := by kernel_rfl }
open Go.RowKit Go.Lib in
theorem Tryz.strings_Split (s sep : ByteArray) (m : Int) (w : World) (hs : s.size < 4294967281) (hm : w.cell? ⟨2, 0, none⟩ = some (.int .i64 m)) (h1 : 1 ≤ sep.size) :
    Calls Tryz.prog 204 #[.string s, .string sep] w fun e w' =>
      e = .returned (.slice (some ⟨w.heap.size, 0, none⟩) (Lib.countB s sep + 1) (Lib.countB s sep + 1)) ∧ w' = w.alloc (.cells ((Lib.splitB sep 0 (Lib.countB s sep) s).map Value.string).toArray 9) := Any.strings_Split Tryz.lays146 (by kernel_rfl) s sep m w hs hm h1
end Go.Proofs
namespace Go.SW
open Go.Proofs
theorem strings_Split (H : Hp) (s p : Bs) (hp : p = [46]) (hML : GInt H 2) (hs : s.length < 4294967281) : Ph Tryz.prog 204 #[str s, str p] H (fun v H' => ∃ (a : Option Addr) (c : Nat), v = .slice a (dots s).length c ∧ SlH strE 1 H' (.slice a (dots s).length c) (dots s)) := by
  subst hp
  refine ph_strs (T := 9) (fun w hw => by have := dots_piece s w hw; omega) fun N L w hm => ?_
  obtain ⟨m, hc⟩ := hML.cell hm
  refine (Tryz.strings_Split ⟨s.toArray⟩ ⟨#[46]⟩ m w (by simpa [ba_size] using hs) hc (by decide)).mono fun e w' ⟨he, hw⟩ => ⟨?_, ?_⟩
  · rw [he, splitB_len]
  · rw [hw, splitB_dots]
end Go.SW
set_option linter.unusedVariables false
set_option maxRecDepth 100000
set_option maxHeartbeats 4000000
namespace Go.SW
open Go.Proofs
theorem ag126 : Ag Tryz.prog 126 false := fun w => by kernel_rfl
theorem ag24 : Ag Tryz.prog 24 false := fun w => by kernel_rfl
theorem ag9 : Ag Tryz.prog 9 false := fun w => by kernel_rfl
theorem bd169_0s (a1 : Bs) (w : World) : (Instr.build 169 #[(0, str a1)]).run Tryz.prog w = .ok (.agg #[str a1, .int .i64 0]) w := by kernel_rfl
theorem cb110 : Callable Tryz.prog 110 := callable_of Tryz.func110 (by kernel_rfl) (by kernel_rfl)
theorem cb121 : Callable Tryz.prog 121 := callable_of Tryz.func121 (by kernel_rfl) (by kernel_rfl)
theorem cb129 : Callable Tryz.prog 129 := callable_of Tryz.func129 (by kernel_rfl) (by kernel_rfl)
theorem cb50 : Callable Tryz.prog 50 := callable_of Tryz.func50 (by kernel_rfl) (by kernel_rfl)
theorem fl129_0 : Fld Tryz.prog 129 0 0 := fun b o w => by kernel_rfl
theorem fl169_0 : Fld Tryz.prog 169 0 0 := fun b o w => by kernel_rfl
theorem fl169_1 : Fld Tryz.prog 169 1 1 := fun b o w => by kernel_rfl
theorem la129_129 : liesAt Tryz.prog Tryz.prog.depth 129 (2 / Tryz.prog.cellsOf 129) 0 129 1 = true := by kernel_rfl
theorem ne161 : NoEsc Tryz.prog 161 := noEsc_of Tryz.func161 (by kernel_rfl) (by kernel_rfl) (by kernel_rfl) (by kernel_rfl)
theorem sz126 : Sz Tryz.prog 126 1 := fun w => by kernel_rfl
theorem sz24 : Sz Tryz.prog 24 1 := fun w => by kernel_rfl
theorem sz9 : Sz Tryz.prog 9 1 := fun w => by kernel_rfl
theorem ti129 : ∃ j, Tryz.prog.info? 129 = some j := Option.isSome_iff_exists.1 (by kernel_rfl)
theorem tz129 : ∃ j, Tryz.prog.info? 129 = some j ∧ j.size ≠ 0 := exInfo (by kernel_rfl)
theorem words_plain (H : Hp) (s : Bs) (hs : s.length ≤ 9223372036854775807) : Pr Tryz.prog 166 #[str s] H (.bool (plain s)) := by
  refine pr_cw Tryz.func166 rfl Tryz.ntmps166 rfl (fun N => ?_)
  refine cw_seq (cw_region (oab rfl rfl (ow_nil (seqK_n (cw_seq ?_)))))
  refine cw_seq (cw_region (ol rfl (lo_move (v := str _) rfl) (ol rfl (lo_len_str rfl Tryz.underlying9) (omi rfl rfl (ow_nil ?_)))))
  refine seqK_n (cw_block (cw_loop1 [2, 3, 4, 7, 8, 9, 10, 11, 12, 13, 14, 15, 16, 17, 18, 19, 20, 21, 22, 23, 24, 25, 26, 27, 28, 29, 30] [] (fun (k : Nat) G => upd (G) 7 (.int .i64 (k : Int))) (fun (k : Nat) G => G) (fun (k : Nat) H' => k ≤ s.length ∧ (s.drop k).all (fun c => letter c.toNat) = plain s) (fun (k : Nat) => s.length - k) 0 (upd_intro (mask_intro (by first | exact off_refl | (repeat (first | exact off_mask | refine off_upd rfl ?_ | refine off_mask2 rfl ?_)))) rfl) (lmask_intro offl_refl) ?_ ?_))
  · exact ⟨by omega, rfl⟩
  intro k J2 JL2 H2 hp1 hl2
  obtain ⟨hk1, hk2⟩ := hp1
  refine cw_seq (cw_region (ol rfl (lo_lss rfl rfl) (ow_nil (seqK_n (cw_seq ?_)))))
  refine cw_cond rfl (fun h3 => ?_) (fun h3 => ?_)
  · have p4 := dt h3
    refine cw_skip (seqK_n (cw_seq (cw_block (cw_seq (cw_region ?_)))))
    refine omi rfl rfl (oai rfl rfl (ow_nil (seqK_n (cw_seq (cw_region ?_)))))
    refine ol rfl (lo_move (v := str _) rfl) (omi rfl rfl ?_)
    have := u8r (s.getD k 0)
    refine ol rfl (lo_index_str k rfl rfl Tryz.underlying9 (by omega) (by omega)) (oai rfl rfl (ow_nil (seqK_n (cw_block (cw_seq ?_)))))
    refine cw_seq (cw_region (omi rfl rfl (ol rfl (lo_geq rfl rfl) (omb rfl rfl (ow_sp (j := 2) rfl (fun h5 => ?_) (fun h5 => ?_))))))
    · have p6 := dt h5
      refine ow1 (op1_g rfl h5 rfl (lo_move (v := .int _ _) rfl) ?_)
      refine ow1 (op1_g rfl h5 rfl (lo_leq rfl rfl) ?_)
      refine ol rfl (lo_pick_t (v := .bool _) rfl h5 rfl) (oab rfl rfl (ow_nil (seqK_n (cw_cond rfl (fun h7 => ?_) (fun h7 => ?_)))))
      · have p8 := dt h7
        refine cw_skip (seqK_n (cw_cond_t rfl h7 (cw_skip (blkK_n (blkK_n ?_)))))
        refine seqK_n (cw_region (ol rfl (lo_add rfl rfl (rg_i64 (by omega))) (omi rfl rfl (ow_nil ?_))))
        refine next1 (k + 1) (upd_intro (mask_intro (by first | exact off_refl | (repeat (first | exact off_mask | refine off_upd rfl ?_ | refine off_mask2 rfl ?_)))) rfl) (lmask_intro (by first | exact offl_refl | (repeat (first | exact offl_mask | refine offl_upd rfl ?_ | refine offl_mask2 rfl ?_)))) hl2 ?_ ?_
        · exact ⟨by omega, by rw [← hk2, drop_getD (k := k) (by omega), List.all_cons]; generalize ((s.getD k 0).toNat : Int) = z at *; simp [letter, *]⟩
        omega
      have p9 := df h7
      refine cw_seq (cw_region (omi rfl rfl (ol rfl (lo_geq rfl rfl) (omb rfl rfl (ow_sp (j := 2) rfl (fun h10 => ?_) (fun h10 => ?_))))))
      · have p11 := dt h10
        refine ow1 (op1_g rfl h10 rfl (lo_move (v := .int _ _) rfl) ?_)
        refine ow1 (op1_g rfl h10 rfl (lo_leq rfl rfl) ?_)
        refine ol rfl (lo_pick_t (v := .bool _) rfl h10 rfl) (oab rfl rfl (ow_nil (seqK_n (cw_cond rfl (fun h12 => ?_) (fun h12 => ?_)))))
        · have p13 := dt h12
          refine cw_skip (seqK_n (cw_cond_t rfl h12 (cw_skip (blkK_n (blkK_n ?_)))))
          refine seqK_n (cw_region (ol rfl (lo_add rfl rfl (rg_i64 (by omega))) (omi rfl rfl (ow_nil ?_))))
          refine next1 (k + 1) (upd_intro (mask_intro (by first | exact off_refl | (repeat (first | exact off_mask | refine off_upd rfl ?_ | refine off_mask2 rfl ?_)))) rfl) (lmask_intro (by first | exact offl_refl | (repeat (first | exact offl_mask | refine offl_upd rfl ?_ | refine offl_mask2 rfl ?_)))) hl2 ?_ ?_
          · exact ⟨by omega, by rw [← hk2, drop_getD (k := k) (by omega), List.all_cons]; generalize ((s.getD k 0).toNat : Int) = z at *; simp [letter, *]⟩
          omega
        have p14 := df h12
        refine cw_seq (cw_region (omi rfl rfl (ol rfl (lo_eql rfl rfl) (oab rfl rfl (ow_nil ?_)))))
        refine seqK_n (cw_cond rfl (fun h15 => ?_) (fun h15 => ?_))
        · have p16 := dt h15
          refine cw_skip (seqK_n (cw_cond_t rfl h15 (cw_skip (blkK_n (blkK_n ?_)))))
          refine seqK_n (cw_region (ol rfl (lo_add rfl rfl (rg_i64 (by omega))) (omi rfl rfl (ow_nil ?_))))
          refine next1 (k + 1) (upd_intro (mask_intro (by first | exact off_refl | (repeat (first | exact off_mask | refine off_upd rfl ?_ | refine off_mask2 rfl ?_)))) rfl) (lmask_intro (by first | exact offl_refl | (repeat (first | exact offl_mask | refine offl_upd rfl ?_ | refine offl_mask2 rfl ?_)))) hl2 ?_ ?_
          · exact ⟨by omega, by rw [← hk2, drop_getD (k := k) (by omega), List.all_cons]; generalize ((s.getD k 0).toNat : Int) = z at *; simp [letter, *]⟩
          omega
        have p17 := df h15
        refine cw_region (omi rfl rfl (ol rfl (lo_eql rfl rfl) (oab rfl rfl (ow_nil (seqK_n ?_)))))
        refine cw_cond rfl (fun h18 => ?_) (fun h18 => ?_)
        · have p19 := dt h18
          refine cw_skip (blkK_n (blkK_n (seqK_n (cw_region (ol rfl (lo_add rfl rfl (rg_i64 (by omega))) ?_)))))
          refine omi rfl rfl (ow_nil ?_)
          refine next1 (k + 1) (upd_intro (mask_intro (by first | exact off_refl | (repeat (first | exact off_mask | refine off_upd rfl ?_ | refine off_mask2 rfl ?_)))) rfl) (lmask_intro (by first | exact offl_refl | (repeat (first | exact offl_mask | refine offl_upd rfl ?_ | refine offl_mask2 rfl ?_)))) hl2 ?_ ?_
          · exact ⟨by omega, by rw [← hk2, drop_getD (k := k) (by omega), List.all_cons]; generalize ((s.getD k 0).toNat : Int) = z at *; simp [letter, *]⟩
          omega
        have p20 := df h18
        refine cw_seq (cw_region (oab rfl rfl (ow_nil (seqK_n (cw_ret ?_)))))
        refine blkK_r (blkK_r (seqK_r (loopK_r (blkK_r (seqK_r ?_)))))
        refine fnK_r (res1 rfl (rv_t (v := .bool _) rfl)) ((HLe.refl _).trans hl2) ?_
        first | (rw [← hk2, drop_getD (k := k) (by omega), List.all_cons]; generalize ((s.getD k 0).toNat : Int) = z at *; simp [letter, *]; done) | (rw [← hk2, List.drop_of_length_le (by omega)]; rfl)
      have p21 := df h10
      refine og rfl h10 rfl (og rfl h10 rfl (ol rfl (lo_pick_f (v := .bool _) rfl h10 rfl) (oab rfl rfl (ow_nil (seqK_n ?_)))))
      refine cw_cond_f rfl rfl (cw_seq (cw_region (omi rfl rfl (ol rfl (lo_eql rfl rfl) (oab rfl rfl ?_)))))
      refine ow_nil (seqK_n (cw_cond rfl (fun h22 => ?_) (fun h22 => ?_)))
      · have p23 := dt h22
        refine cw_skip (seqK_n (cw_cond_t rfl h22 (cw_skip (blkK_n (blkK_n ?_)))))
        refine seqK_n (cw_region (ol rfl (lo_add rfl rfl (rg_i64 (by omega))) (omi rfl rfl (ow_nil ?_))))
        refine next1 (k + 1) (upd_intro (mask_intro (by first | exact off_refl | (repeat (first | exact off_mask | refine off_upd rfl ?_ | refine off_mask2 rfl ?_)))) rfl) (lmask_intro (by first | exact offl_refl | (repeat (first | exact offl_mask | refine offl_upd rfl ?_ | refine offl_mask2 rfl ?_)))) hl2 ?_ ?_
        · exact ⟨by omega, by rw [← hk2, drop_getD (k := k) (by omega), List.all_cons]; generalize ((s.getD k 0).toNat : Int) = z at *; simp [letter, *]⟩
        omega
      have p24 := df h22
      refine cw_region (omi rfl rfl (ol rfl (lo_eql rfl rfl) (oab rfl rfl (ow_nil (seqK_n ?_)))))
      refine cw_cond rfl (fun h25 => ?_) (fun h25 => ?_)
      · have p26 := dt h25
        refine cw_skip (blkK_n (blkK_n (seqK_n (cw_region (ol rfl (lo_add rfl rfl (rg_i64 (by omega))) ?_)))))
        refine omi rfl rfl (ow_nil ?_)
        refine next1 (k + 1) (upd_intro (mask_intro (by first | exact off_refl | (repeat (first | exact off_mask | refine off_upd rfl ?_ | refine off_mask2 rfl ?_)))) rfl) (lmask_intro (by first | exact offl_refl | (repeat (first | exact offl_mask | refine offl_upd rfl ?_ | refine offl_mask2 rfl ?_)))) hl2 ?_ ?_
        · exact ⟨by omega, by rw [← hk2, drop_getD (k := k) (by omega), List.all_cons]; generalize ((s.getD k 0).toNat : Int) = z at *; simp [letter, *]⟩
        omega
      have p27 := df h25
      refine cw_seq (cw_region (oab rfl rfl (ow_nil (seqK_n (cw_ret ?_)))))
      refine blkK_r (blkK_r (seqK_r (loopK_r (blkK_r (seqK_r ?_)))))
      refine fnK_r (res1 rfl (rv_t (v := .bool _) rfl)) ((HLe.refl _).trans hl2) ?_
      first | (rw [← hk2, drop_getD (k := k) (by omega), List.all_cons]; generalize ((s.getD k 0).toNat : Int) = z at *; simp [letter, *]; done) | (rw [← hk2, List.drop_of_length_le (by omega)]; rfl)
    have p28 := df h5
    refine og rfl h5 rfl (og rfl h5 rfl (ol rfl (lo_pick_f (v := .bool _) rfl h5 rfl) (oab rfl rfl (ow_nil (seqK_n ?_)))))
    refine cw_cond_f rfl rfl (cw_seq (cw_region (omi rfl rfl (ol rfl (lo_geq rfl rfl) (omb rfl rfl ?_)))))
    refine ow_sp (j := 2) rfl (fun h29 => ?_) (fun h29 => ?_)
    · have p30 := dt h29
      refine ow1 (op1_g rfl h29 rfl (lo_move (v := .int _ _) rfl) ?_)
      refine ow1 (op1_g rfl h29 rfl (lo_leq rfl rfl) ?_)
      refine ol rfl (lo_pick_t (v := .bool _) rfl h29 rfl) (oab rfl rfl (ow_nil (seqK_n (cw_cond rfl (fun h31 => ?_) (fun h31 => ?_)))))
      · have p32 := dt h31
        refine cw_skip (seqK_n (cw_cond_t rfl h31 (cw_skip (blkK_n (blkK_n ?_)))))
        refine seqK_n (cw_region (ol rfl (lo_add rfl rfl (rg_i64 (by omega))) (omi rfl rfl (ow_nil ?_))))
        refine next1 (k + 1) (upd_intro (mask_intro (by first | exact off_refl | (repeat (first | exact off_mask | refine off_upd rfl ?_ | refine off_mask2 rfl ?_)))) rfl) (lmask_intro (by first | exact offl_refl | (repeat (first | exact offl_mask | refine offl_upd rfl ?_ | refine offl_mask2 rfl ?_)))) hl2 ?_ ?_
        · exact ⟨by omega, by rw [← hk2, drop_getD (k := k) (by omega), List.all_cons]; generalize ((s.getD k 0).toNat : Int) = z at *; simp [letter, *]⟩
        omega
      have p33 := df h31
      refine cw_seq (cw_region (omi rfl rfl (ol rfl (lo_eql rfl rfl) (oab rfl rfl (ow_nil ?_)))))
      refine seqK_n (cw_cond rfl (fun h34 => ?_) (fun h34 => ?_))
      · have p35 := dt h34
        refine cw_skip (seqK_n (cw_cond_t rfl h34 (cw_skip (blkK_n (blkK_n ?_)))))
        refine seqK_n (cw_region (ol rfl (lo_add rfl rfl (rg_i64 (by omega))) (omi rfl rfl (ow_nil ?_))))
        refine next1 (k + 1) (upd_intro (mask_intro (by first | exact off_refl | (repeat (first | exact off_mask | refine off_upd rfl ?_ | refine off_mask2 rfl ?_)))) rfl) (lmask_intro (by first | exact offl_refl | (repeat (first | exact offl_mask | refine offl_upd rfl ?_ | refine offl_mask2 rfl ?_)))) hl2 ?_ ?_
        · exact ⟨by omega, by rw [← hk2, drop_getD (k := k) (by omega), List.all_cons]; generalize ((s.getD k 0).toNat : Int) = z at *; simp [letter, *]⟩
        omega
      have p36 := df h34
      refine cw_region (omi rfl rfl (ol rfl (lo_eql rfl rfl) (oab rfl rfl (ow_nil (seqK_n ?_)))))
      refine cw_cond rfl (fun h37 => ?_) (fun h37 => ?_)
      · have p38 := dt h37
        refine cw_skip (blkK_n (blkK_n (seqK_n (cw_region (ol rfl (lo_add rfl rfl (rg_i64 (by omega))) ?_)))))
        refine omi rfl rfl (ow_nil ?_)
        refine next1 (k + 1) (upd_intro (mask_intro (by first | exact off_refl | (repeat (first | exact off_mask | refine off_upd rfl ?_ | refine off_mask2 rfl ?_)))) rfl) (lmask_intro (by first | exact offl_refl | (repeat (first | exact offl_mask | refine offl_upd rfl ?_ | refine offl_mask2 rfl ?_)))) hl2 ?_ ?_
        · exact ⟨by omega, by rw [← hk2, drop_getD (k := k) (by omega), List.all_cons]; generalize ((s.getD k 0).toNat : Int) = z at *; simp [letter, *]⟩
        omega
      have p39 := df h37
      refine cw_seq (cw_region (oab rfl rfl (ow_nil (seqK_n (cw_ret ?_)))))
      refine blkK_r (blkK_r (seqK_r (loopK_r (blkK_r (seqK_r ?_)))))
      refine fnK_r (res1 rfl (rv_t (v := .bool _) rfl)) ((HLe.refl _).trans hl2) ?_
      first | (rw [← hk2, drop_getD (k := k) (by omega), List.all_cons]; generalize ((s.getD k 0).toNat : Int) = z at *; simp [letter, *]; done) | (rw [← hk2, List.drop_of_length_le (by omega)]; rfl)
    have p40 := df h29
    refine og rfl h29 rfl (og rfl h29 rfl (ol rfl (lo_pick_f (v := .bool _) rfl h29 rfl) (oab rfl rfl (ow_nil (seqK_n ?_)))))
    refine cw_cond_f rfl rfl (cw_seq (cw_region (omi rfl rfl (ol rfl (lo_eql rfl rfl) (oab rfl rfl ?_)))))
    refine ow_nil (seqK_n (cw_cond rfl (fun h41 => ?_) (fun h41 => ?_)))
    · have p42 := dt h41
      refine cw_skip (seqK_n (cw_cond_t rfl h41 (cw_skip (blkK_n (blkK_n ?_)))))
      refine seqK_n (cw_region (ol rfl (lo_add rfl rfl (rg_i64 (by omega))) (omi rfl rfl (ow_nil ?_))))
      refine next1 (k + 1) (upd_intro (mask_intro (by first | exact off_refl | (repeat (first | exact off_mask | refine off_upd rfl ?_ | refine off_mask2 rfl ?_)))) rfl) (lmask_intro (by first | exact offl_refl | (repeat (first | exact offl_mask | refine offl_upd rfl ?_ | refine offl_mask2 rfl ?_)))) hl2 ?_ ?_
      · exact ⟨by omega, by rw [← hk2, drop_getD (k := k) (by omega), List.all_cons]; generalize ((s.getD k 0).toNat : Int) = z at *; simp [letter, *]⟩
      omega
    have p43 := df h41
    refine cw_region (omi rfl rfl (ol rfl (lo_eql rfl rfl) (oab rfl rfl (ow_nil (seqK_n ?_)))))
    refine cw_cond rfl (fun h44 => ?_) (fun h44 => ?_)
    · have p45 := dt h44
      refine cw_skip (blkK_n (blkK_n (seqK_n (cw_region (ol rfl (lo_add rfl rfl (rg_i64 (by omega))) ?_)))))
      refine omi rfl rfl (ow_nil ?_)
      refine next1 (k + 1) (upd_intro (mask_intro (by first | exact off_refl | (repeat (first | exact off_mask | refine off_upd rfl ?_ | refine off_mask2 rfl ?_)))) rfl) (lmask_intro (by first | exact offl_refl | (repeat (first | exact offl_mask | refine offl_upd rfl ?_ | refine offl_mask2 rfl ?_)))) hl2 ?_ ?_
      · exact ⟨by omega, by rw [← hk2, drop_getD (k := k) (by omega), List.all_cons]; generalize ((s.getD k 0).toNat : Int) = z at *; simp [letter, *]⟩
      omega
    have p46 := df h44
    refine cw_seq (cw_region (oab rfl rfl (ow_nil (seqK_n (cw_ret ?_)))))
    refine blkK_r (blkK_r (seqK_r (loopK_r (blkK_r (seqK_r ?_)))))
    refine fnK_r (res1 rfl (rv_t (v := .bool _) rfl)) ((HLe.refl _).trans hl2) ?_
    first | (rw [← hk2, drop_getD (k := k) (by omega), List.all_cons]; generalize ((s.getD k 0).toNat : Int) = z at *; simp [letter, *]; done) | (rw [← hk2, List.drop_of_length_le (by omega)]; rfl)
  have p47 := df h3
  refine cw_exit (seqK_e (loopK_e (blkK_hit (seqK_n (cw_seq ?_)))))
  refine cw_region (oab rfl rfl (ow_nil (seqK_n (cw_ret (fnK_r (res1 rfl (rv_t (v := .bool _) rfl)) ((HLe.refl _).trans hl2) ?_)))))
  first | (rw [← hk2, drop_getD (k := k) (by omega), List.all_cons]; generalize ((s.getD k 0).toNat : Int) = z at *; simp [letter, *]; done) | (rw [← hk2, List.drop_of_length_le (by omega)]; rfl)
set_option maxRecDepth 100000 in
theorem copyCheck {n : Nat} {N : Rest} {F : Fr} {H : Hp} {L : Ls} {ops : List Oper} {ty d : Nat} {pos : String} {af : Array Edge} {K : Fr → Hp → Ls → Prop} {x : Operand} {ats : Array TypeId} {b : Nat} {p v : Value} (i : Nat) (hx : ev F x = .pointer (some ⟨b, 0, none⟩)) (hi : L i = some (b, bx 129 [p, v]))
    (hp : p = .pointer none ∨ p = .pointer (some ⟨b, 0, none⟩)) (hd : Nat.blt d n = true) (k : K (upd F d (.tuple #[])) H (lupd L i (some (b, bx 129 [.pointer (some ⟨b, 0, none⟩), v])))) : Op1 Tryz.prog n N ops ⟨some d, .call ⟨.value (.func 121), #[x], ats⟩, ty, pos, af, none⟩ K F H L := by
  refine op1_in (en_f (vs := [.pointer (some ⟨b, 0, none⟩)]) cb121 (by simp [evs, hx])) Tryz.func121 rfl Tryz.ntmps121 rfl hd (cw_seq (cw_region (ol rfl (lo_move (v := .pointer (some ⟨_, _, none⟩)) rfl) (ol rfl (lo_nilCheck rfl) (ol rfl (lo_fieldAddr rfl fl129_0) ?_)))))
  refine ol rfl (lo_load1 (i := i) (v := p) rfl ag126 hi rfl) ?_
  rcases hp with rfl | rfl
  · refine ol rfl (lo_pnil rfl rfl Tryz.underlying126) (ow_nil (seqK_n (cw_cond_t rfl rfl (cw_region (ol rfl (lo_move (v := .pointer (some ⟨_, _, none⟩)) rfl) ?_)))))
    refine ol rfl (lo_move (v := .pointer (some ⟨_, _, none⟩)) rfl) (ol rfl (lo_toUnsafe (i := i) rfl hi rfl Tryz.underlying126 Tryz.underlying218 (tz129).choose_spec.1 (tz129).choose_spec.2) (ol rfl (lo_noEsc (v := .pointer (some ⟨_, _, none⟩)) ne161 rfl) (ol rfl (lo_fromUnsafe (i := i) rfl hi Tryz.underlying218 Tryz.underlying126 (ti129).choose_spec la129_129) (ol rfl (lo_nilCheck rfl) (ol rfl (lo_fieldAddr rfl fl129_0) ?_)))))
    refine ow1 (op1_store1 (i := i) (v := .pointer (some ⟨_, _, none⟩)) rfl rfl rfl sz126 hi rfl ?_)
    refine ow_nil ?_
    exact fnK_n (res0 rfl) (.refl _) k
  · refine ol rfl (lo_peq_nil rfl rfl Tryz.underlying126) (ow_nil (seqK_n (cw_cond_f rfl rfl (cw_seq (cw_region ?_)))))
    refine ol rfl (lo_move (v := .pointer (some ⟨_, _, none⟩)) rfl) (ol rfl (lo_nilCheck rfl) (ol rfl (lo_fieldAddr rfl fl129_0) (ol rfl (lo_load1 (i := i) (v := .pointer (some ⟨b, 0, none⟩)) rfl ag126 hi rfl) (ol rfl (lo_move (v := .pointer (some ⟨_, _, none⟩)) rfl) (ol rfl (lo_pne_self rfl rfl Tryz.underlying126 (ti129).choose_spec) ?_)))))
    refine ow_nil (seqK_n (cw_cond_f rfl rfl (cw_skip (fnK_n (res0 rfl) (.refl _) ?_))))
    rwa [lupd_eta hi] at k
theorem octet_New (H : Hp) (s : Bs) : Pn Tryz.prog 48 #[str s] H (fun v H' b o' => v = .pointer (some ⟨b, 0, none⟩) ∧ H = H' ∧ o' = bx 169 (In.cells (⟨s, 0⟩))) := by
  refine pn_cw Tryz.func48 rfl Tryz.ntmps48 rfl (fun N => ?_)
  refine cw_seq (cw_region (ol rfl (lo_assign rfl) (ow_nil (seqK_n (cw_seq ?_)))))
  refine cw_region (ol rfl (lo_move (v := str _) rfl) (ol rfl (lo_build (v := .agg #[_, _]) rfl (bd169_0s _)) (ow1 (op1_box (cs := [_, _]) 0 rfl rfl (fun b1 => ?_)))))
  refine ol rfl (lo_assign (v := .pointer (some ⟨_, _, none⟩)) rfl) (ow_nil (seqK_n (cw_ret (fnK_r (res1 rfl (rv_t (v := .pointer (some ⟨_, _, none⟩)) rfl)) (.refl _) ?_))))
  exact ⟨0, _, _, rfl, rfl, rfl, rfl⟩
theorem in_Fail (H : Hp) (i_b : Nat) (i : In) (code : Int) (code_r : -9223372036854775808 ≤ code ∧ code ≤ 9223372036854775807) : Pm Tryz.prog 129 #[.pointer (some ⟨i_b, 0, none⟩), .int .i64 code] H i_b (bx 169 (In.cells i)) (fun v H' o' => v = .tuple #[] ∧ H = H' ∧ o' = bx 169 (In.cells (inFail i code))) := by
  refine pm_cw Tryz.func129 rfl Tryz.ntmps129 rfl (fun N => ?_)
  refine cw_seq (cw_region (ol rfl (lo_move (v := .pointer (some ⟨_, _, none⟩)) rfl) (ol rfl (lo_pne_nil rfl rfl Tryz.underlying108) (omb rfl rfl ?_))))
  refine ow1 (op1_g rfl rfl rfl (lo_move (v := .pointer (some ⟨_, _, none⟩)) rfl) ?_)
  refine ow1 (op1_g rfl rfl rfl (lo_nilCheck rfl) ?_)
  refine ow1 (op1_g rfl rfl rfl (lo_fieldAddr rfl fl169_1) ?_)
  refine ow1 (op1_g rfl rfl rfl (lo_load1 (i := 0) (v := .int _ _) rfl ag24 rfl rfl) ?_)
  refine ow1 (op1_g rfl rfl rfl (lo_eql rfl rfl) ?_)
  refine ol rfl (lo_pick_t (v := .bool _) rfl rfl rfl) (omb rfl rfl (ow_sp (j := 9) rfl (fun h1 => ?_) (fun h1 => ?_)))
  · have p2 := dt h1
    refine ow1 (op1_g rfl h1 rfl (lo_move (v := .int _ _) rfl) ?_)
    refine ow1 (op1_g rfl h1 rfl (lo_neq rfl rfl) ?_)
    refine ol rfl (lo_pick_t (v := .bool _) rfl h1 rfl) (ow_nil (seqK_n (cw_cond rfl (fun h3 => ?_) (fun h3 => ?_))))
    · have h4 := not_t h3
      have p5 := df h4
      refine cw_region (ol rfl (lo_move (v := .pointer (some ⟨_, _, none⟩)) rfl) (ol rfl (lo_move (v := .pointer (some ⟨_, _, none⟩)) rfl) (omi rfl rfl (ol rfl (lo_nilCheck rfl) (ol rfl (lo_fieldAddr rfl fl169_0) ?_)))))
      refine ow1 (op1_store1 (i := 0) (v := str _) rfl rfl rfl sz9 rfl rfl ?_)
      refine ol rfl (lo_nilCheck rfl) (ol rfl (lo_fieldAddr rfl fl169_1) ?_)
      refine ow1 (op1_store1 (i := 0) (v := .int _ _) rfl rfl rfl sz24 rfl rfl ?_)
      refine ow_nil (fnK_n (res0 rfl) (.refl _) ?_)
      refine ⟨_, rfl, ?_⟩
      refine ⟨?_, rfl, ?_⟩ <;> simp [inRaw, inFail, In.cells, *]
    have h6 := not_f h3
    have p7 := dt h6
    refine cw_skip (fnK_n (res0 rfl) (.refl _) ?_)
    refine ⟨_, rfl, ?_⟩
    refine ⟨?_, rfl, ?_⟩ <;> simp [inRaw, inFail, In.cells, *]
  have p8 := df h1
  refine og rfl h1 rfl (og rfl h1 rfl (ol rfl (lo_pick_f (v := .bool _) rfl h1 rfl) (ow_nil (seqK_n (cw_cond_f rfl rfl ?_)))))
  refine cw_skip (fnK_n (res0 rfl) (.refl _) ?_)
  refine ⟨_, rfl, ?_⟩
  refine ⟨?_, rfl, ?_⟩ <;> simp [inRaw, inFail, In.cells, *]
theorem in_Raw (H : Hp) (i_b : Nat) (i : In) (n : Int) (n_r : -9223372036854775808 ≤ n ∧ n ≤ 9223372036854775807) : Pm Tryz.prog 106 #[.pointer (some ⟨i_b, 0, none⟩), .int .i64 n] H i_b (bx 169 (In.cells i)) (fun v H' o' => v = str ((inRaw i n).1) ∧ H = H' ∧ o' = bx 169 (In.cells ((inRaw i n).2))) := by
  refine pm_cw Tryz.func106 rfl Tryz.ntmps106 rfl (fun N => ?_)
  refine cw_seq (cw_region (ol rfl (lo_assign (v := str _) rfl) (ow_nil (seqK_n (cw_seq ?_)))))
  refine cw_block (cw_seq (cw_seq (cw_region (ol rfl (lo_move (v := .pointer (some ⟨_, _, none⟩)) rfl) (ol rfl (lo_peq_nil rfl rfl Tryz.underlying108) ?_)))))
  refine oab rfl rfl (ow_nil (seqK_n (cw_cond_f rfl rfl (cw_seq (cw_region ?_)))))
  refine ol rfl (lo_move (v := .pointer (some ⟨_, _, none⟩)) rfl) (ol rfl (lo_nilCheck rfl) (ol rfl (lo_fieldAddr rfl fl169_1) (ol rfl (lo_load1 (i := 0) (v := .int _ _) rfl ag24 rfl rfl) (ol rfl (lo_neq rfl rfl) (oab rfl rfl ?_)))))
  refine ow_nil (seqK_n (cw_cond rfl (fun h1 => ?_) (fun h1 => ?_)))
  · have h2 := not_t h1
    have p3 := df h2
    refine cw_skip (seqK_n (cw_cond_t rfl h1 (cw_seq (cw_region (ol rfl (lo_assign (v := str _) rfl) ?_)))))
    refine ow_nil (seqK_n (cw_ret (blkK_r (seqK_r (fnK_r (res1 rfl (rv_t (v := str _) rfl)) (.refl _) ?_)))))
    refine ⟨_, rfl, ?_⟩
    refine ⟨?_, rfl, ?_⟩ <;> simp [inRaw, inFail, In.cells, *]
  have h4 := not_f h1
  have p5 := dt h4
  refine cw_region (omi rfl rfl (ol rfl (lo_leq rfl rfl) (oab rfl rfl (ow_nil (seqK_n ?_)))))
  refine cw_cond rfl (fun h6 => ?_) (fun h6 => ?_)
  · have p7 := dt h6
    refine cw_seq (cw_region (ol rfl (lo_assign (v := str _) rfl) (ow_nil (seqK_n (cw_ret ?_)))))
    refine blkK_r (seqK_r (fnK_r (res1 rfl (rv_t (v := str _) rfl)) (.refl _) ?_))
    refine ⟨_, rfl, ?_⟩
    refine ⟨?_, rfl, ?_⟩ <;> simp [inRaw, inFail, In.cells, *]
  have p8 := df h6
  refine cw_seq (cw_region (omi rfl rfl (ol rfl (lo_move (v := .pointer (some ⟨_, _, none⟩)) rfl) (ol rfl (lo_nilCheck rfl) (ol rfl (lo_fieldAddr rfl fl169_0) ?_)))))
  refine ol rfl (lo_load1 (i := 0) (v := str _) rfl ag9 rfl rfl) (ol rfl (lo_len_str rfl Tryz.underlying9) (ol rfl (lo_gtr rfl rfl) (oab rfl rfl (ow_nil (seqK_n ?_)))))
  refine cw_cond rfl (fun h9 => ?_) (fun h9 => ?_)
  · have p10 := dt h9
    refine cw_seq (cw_region (ol rfl (lo_move (v := .pointer (some ⟨_, _, none⟩)) rfl) ?_))
    refine ow1 (op1_pm 0 rfl (in_Fail _ i_b i 3 (by omega)) (en_f cb129 rfl) rfl ?_)
    rintro _ _ _ ⟨rfl, rfl, rfl⟩ _
    refine ow_nil (seqK_n (cw_seq (cw_region (ol rfl (lo_assign (v := str _) rfl) (ow_nil ?_)))))
    refine seqK_n (cw_ret (blkK_r (seqK_r (fnK_r (res1 rfl (rv_t (v := str _) rfl)) (.refl _) ?_))))
    refine ⟨_, rfl, ?_⟩
    refine ⟨?_, rfl, ?_⟩ <;> simp [inRaw, inFail, In.cells, *]
  have p13 := df h9
  refine cw_skip (blkK_n (seqK_n (cw_seq (cw_region (ol rfl (lo_move (v := .pointer (some ⟨_, _, none⟩)) rfl) ?_)))))
  refine ol rfl (lo_nilCheck rfl) (ol rfl (lo_fieldAddr rfl fl169_0) (ol rfl (lo_load1 (i := 0) (v := str _) rfl ag9 rfl rfl) (omi rfl rfl (ol rfl (lo_slice_str_hi (n).toNat rfl rfl Tryz.underlying9 (by omega) (by omega)) (ol rfl (lo_assign (v := str _) rfl) ?_)))))
  refine ow_nil (seqK_n (cw_seq (cw_region (ol rfl (lo_move (v := .pointer (some ⟨_, _, none⟩)) rfl) (ol rfl (lo_move (v := .pointer (some ⟨_, _, none⟩)) rfl) ?_)))))
  refine ol rfl (lo_nilCheck rfl) (ol rfl (lo_fieldAddr rfl fl169_0) (ol rfl (lo_load1 (i := 0) (v := str _) rfl ag9 rfl rfl) (omi rfl rfl (ol rfl (lo_slice_str_lo (n).toNat rfl rfl Tryz.underlying9 (by omega) (by omega)) (ol rfl (lo_nilCheck rfl) ?_)))))
  refine ol rfl (lo_fieldAddr rfl fl169_0) ?_
  refine ow1 (op1_store1 (i := 0) (v := str _) rfl rfl rfl sz9 rfl rfl ?_)
  refine ow_nil (seqK_n (cw_seq (cw_region (ol rfl (lo_move (v := str _) rfl) (ol rfl (lo_assign (v := str _) rfl) ?_)))))
  refine ow_nil (seqK_n (cw_ret (fnK_r (res1 rfl (rv_t (v := str _) rfl)) (.refl _) ?_)))
  refine ⟨_, rfl, ?_⟩
  refine ⟨?_, rfl, ?_⟩ <;> simp [inRaw, inFail, In.cells, *]
theorem in_Left (H : Hp) (i_b : Nat) (i : In) : Pm Tryz.prog 110 #[.pointer (some ⟨i_b, 0, none⟩)] H i_b (bx 169 (In.cells i)) (fun v H' o' => v = .int .i64 (i.s.length : Int) ∧ H = H' ∧ o' = bx 169 (In.cells i)) := by
  refine pm_cw Tryz.func110 rfl Tryz.ntmps110 rfl (fun N => ?_)
  refine cw_seq (cw_region (oai rfl rfl (ow_nil (seqK_n (cw_seq ?_)))))
  refine cw_seq (cw_region (ol rfl (lo_move (v := .pointer (some ⟨_, _, none⟩)) rfl) (ol rfl (lo_peq_nil rfl rfl Tryz.underlying108) (ow_nil (seqK_n ?_)))))
  refine cw_cond_f rfl rfl (cw_skip (seqK_n (cw_seq (cw_region (ol rfl (lo_move (v := .pointer (some ⟨_, _, none⟩)) rfl) ?_)))))
  refine ol rfl (lo_nilCheck rfl) (ol rfl (lo_fieldAddr rfl fl169_0) (ol rfl (lo_load1 (i := 0) (v := str _) rfl ag9 rfl rfl) (ol rfl (lo_len_str rfl Tryz.underlying9) (oai rfl rfl (ow_nil ?_)))))
  refine seqK_n (cw_ret (fnK_r (res1 rfl (rv_t (v := .int _ _) rfl)) (.refl _) ?_))
  refine ⟨_, rfl, ?_⟩
  exact ⟨rfl, rfl, rfl⟩
theorem in_Err (H : Hp) (i_b : Nat) (i : In) : Pm Tryz.prog 50 #[.pointer (some ⟨i_b, 0, none⟩)] H i_b (bx 169 (In.cells i)) (fun v H' o' => v = .int .i64 i.err ∧ H = H' ∧ o' = bx 169 (In.cells i)) := by
  refine pm_cw Tryz.func50 rfl Tryz.ntmps50 rfl (fun N => ?_)
  refine cw_seq (cw_region (oai rfl rfl (ow_nil (seqK_n (cw_seq ?_)))))
  refine cw_seq (cw_region (ol rfl (lo_move (v := .pointer (some ⟨_, _, none⟩)) rfl) (ol rfl (lo_peq_nil rfl rfl Tryz.underlying108) (ow_nil (seqK_n ?_)))))
  refine cw_cond_f rfl rfl (cw_skip (seqK_n (cw_seq (cw_region (ol rfl (lo_move (v := .pointer (some ⟨_, _, none⟩)) rfl) ?_)))))
  refine ol rfl (lo_nilCheck rfl) (ol rfl (lo_fieldAddr rfl fl169_1) (ol rfl (lo_load1 (i := 0) (v := .int _ _) rfl ag24 rfl rfl) (oai rfl rfl (ow_nil (seqK_n ?_)))))
  refine cw_ret (fnK_r (res1 rfl (rv_t (v := .int _ _) rfl)) (.refl _) ?_)
  refine ⟨_, rfl, ?_⟩
  exact ⟨rfl, rfl, rfl⟩
theorem in_End (H : Hp) (i_b : Nat) (i : In) : Pm Tryz.prog 52 #[.pointer (some ⟨i_b, 0, none⟩)] H i_b (bx 169 (In.cells i)) (fun v H' o' => v = .int .i64 (inEnd i) ∧ H = H' ∧ o' = bx 169 (In.cells i)) := by
  refine pm_cw Tryz.func52 rfl Tryz.ntmps52 rfl (fun N => ?_)
  refine cw_seq (cw_region (oai rfl rfl (ow_nil (seqK_n (cw_seq ?_)))))
  refine cw_seq (cw_region (ol rfl (lo_move (v := .pointer (some ⟨_, _, none⟩)) rfl) ?_))
  refine ow1 (op1_pm 0 rfl (in_Err _ i_b i) (en_f cb50 rfl) rfl ?_)
  rintro _ _ _ ⟨rfl, rfl, rfl⟩ _
  refine ol rfl (lo_eql rfl rfl) (omb rfl rfl (ow_sp (j := 3) rfl (fun h3 => ?_) (fun h3 => ?_)))
  · have p4 := dt h3
    refine ow1 (op1_g rfl h3 rfl (lo_move (v := .pointer (some ⟨_, _, none⟩)) rfl) ?_)
    refine ow1 (op1_pmg 0 rfl h3 rfl (in_Left _ i_b i) (en_f cb110 rfl) rfl ?_)
    rintro _ _ _ ⟨rfl, rfl, rfl⟩ _
    refine ow1 (op1_g rfl h3 rfl (lo_gtr rfl rfl) ?_)
    refine ol rfl (lo_pick_t (v := .bool _) rfl h3 rfl) (ow_nil (seqK_n (cw_cond rfl (fun h7 => ?_) (fun h7 => ?_))))
    · have p8 := dt h7
      refine cw_seq (cw_region (oai rfl rfl (ow_nil (seqK_n (cw_ret ?_)))))
      refine seqK_r (fnK_r (res1 rfl (rv_t (v := .int _ _) rfl)) (.refl _) ?_)
      refine ⟨_, rfl, ?_⟩
      refine ⟨?_, rfl, rfl⟩; congr 1; unfold inEnd; split <;> omega
    have p9 := df h7
    refine cw_skip (seqK_n (cw_seq (cw_region (ol rfl (lo_move (v := .pointer (some ⟨_, _, none⟩)) rfl) ?_))))
    refine ow1 (op1_pm 0 rfl (in_Err _ i_b i) (en_f cb50 rfl) rfl ?_)
    rintro _ _ _ ⟨rfl, rfl, rfl⟩ _
    refine oai rfl rfl (ow_nil (seqK_n (cw_ret (fnK_r (res1 rfl (rv_t (v := .int _ _) rfl)) (.refl _) ?_))))
    refine ⟨_, rfl, ?_⟩
    refine ⟨?_, rfl, rfl⟩; congr 1; unfold inEnd; split <;> omega
  have p12 := df h3
  refine og rfl h3 rfl (og rfl h3 rfl (og rfl h3 rfl (ol rfl (lo_pick_f (v := .bool _) rfl h3 rfl) (ow_nil (seqK_n ?_)))))
  refine cw_cond_f rfl rfl (cw_skip (seqK_n (cw_seq (cw_region (ol rfl (lo_move (v := .pointer (some ⟨_, _, none⟩)) rfl) ?_)))))
  refine ow1 (op1_pm 0 rfl (in_Err _ i_b i) (en_f cb50 rfl) rfl ?_)
  rintro _ _ _ ⟨rfl, rfl, rfl⟩ _
  refine oai rfl rfl (ow_nil (seqK_n (cw_ret (fnK_r (res1 rfl (rv_t (v := .int _ _) rfl)) (.refl _) ?_))))
  refine ⟨_, rfl, ?_⟩
  refine ⟨?_, rfl, rfl⟩; congr 1; unfold inEnd; split <;> omega
end Go.SW
set_option linter.unusedVariables false
set_option maxRecDepth 100000
set_option maxHeartbeats 4000000
namespace Go.SW
open Go.Proofs
theorem ag5 : Ag Tryz.prog 5 false := fun w => by kernel_rfl
theorem cb106 : Callable Tryz.prog 106 := callable_of Tryz.func106 (by kernel_rfl) (by kernel_rfl)
theorem cb49 : Callable Tryz.prog 49 := callable_of Tryz.func49 (by kernel_rfl) (by kernel_rfl)
theorem sz5 : Sz Tryz.prog 5 1 := fun w => by kernel_rfl
theorem in_Num (H : Hp) (i_b : Nat) (i : In) (bytes : Int) (bytes_r : -9223372036854775808 ≤ bytes ∧ bytes ≤ 9223372036854775807) : Pm Tryz.prog 49 #[.pointer (some ⟨i_b, 0, none⟩), .int .i64 bytes] H i_b (bx 169 (In.cells i)) (fun v H' o' => v = .int .u64 ((inNum i bytes).1) ∧ H = H' ∧ o' = bx 169 (In.cells ((inNum i bytes).2))) := by
  refine pm_cw Tryz.func49 rfl Tryz.ntmps49 rfl (fun N => ?_)
  refine cw_seq (cw_region (oai rfl rfl (ow_nil (seqK_n (cw_seq ?_)))))
  refine cw_region (oai rfl rfl (ow_nil (seqK_n (cw_seq (cw_seq ?_)))))
  refine cw_region (ol rfl (lo_move (v := .pointer (some ⟨_, _, none⟩)) rfl) (omi rfl rfl (ol rfl (lo_min rfl rfl) ?_)))
  refine ow1 (op1_pm 0 rfl (in_Raw _ i_b i (min bytes 8) (by omega)) (en_f cb106 rfl) rfl ?_)
  rintro _ _ _ ⟨rfl, rfl, rfl⟩ _
  refine ow1 (op1_s2b rfl Tryz.underlying9 Tryz.underlying127 Tryz.underlying5 rfl (fun b3 cap4 H5 hl6 hs7 => ?_))
  refine ol rfl (lo_len_slh rfl hs7 Tryz.underlying127) (omi rfl rfl (ow_nil (seqK_n (cw_block (cw_loop1 [5, 7, 14, 15, 16, 17, 18, 19, 20, 21, 22, 23] [] (fun (k : Nat) G => upd (upd (G) 14 (.int .i64 (k : Int))) 5 (.int .u64 (beN ((inRaw i (min bytes 8)).1.take k) : Int))) (fun (k : Nat) G => G) (fun (k : Nat) H' => k ≤ (inRaw i (min bytes 8)).1.length) (fun (k : Nat) => (inRaw i (min bytes 8)).1.length - k) 0 (upd_intro (upd_intro (mask_intro (by first | exact off_refl | (repeat (first | exact off_mask | refine off_upd rfl ?_ | refine off_mask2 rfl ?_)))) rfl) rfl) (lmask_intro offl_refl) ?_ ?_)))))
  · exact Nat.zero_le _
  intro k J9 JL9 H9 hp8 hl9
  have hb := inRaw_len i (min bytes 8)
  refine cw_seq (cw_region (ol rfl (lo_lss rfl rfl) (ow_nil (seqK_n (cw_seq ?_)))))
  refine cw_cond rfl (fun h10 => ?_) (fun h10 => ?_)
  · have p11 := dt h10
    refine cw_skip (seqK_n (cw_seq (cw_block (cw_seq (cw_region ?_)))))
    obtain ⟨c12, hc13⟩ := getE (xs := (inRaw i (min bytes 8)).1) (m := k) (by omega)
    obtain ⟨cs14, hE15, at16⟩ := (hs7.mono ((HLe.refl _).trans hl9) (fun _ _ h => h)).get hc13
    subst hE15
    have c12_r := u8r c12
    refine ol rfl (lo_indexAddr rfl rfl (hs7.mono ((HLe.refl _).trans hl9) (fun _ _ h => h)).1 at16 Tryz.underlying127 sz5 (by omega) (by omega)) (ol rfl (lo_loadE1 rfl ag5 at16) (oai rfl rfl (ow_nil (seqK_n (cw_region ?_)))))
    refine omi rfl rfl (ol rfl (lo_shl rfl rfl (by omega)) (omi rfl rfl (ol rfl (lo_conv_in rfl (by rw [Tryz.underlying5]; rfl) Tryz.underlying39 (rg_u64 (by omega))) ?_)))
    have := wr_u64 ((BitVec.ofInt (IntKind.bits .u64) (IntKind.wrap .u64 ((beN ((inRaw i (min bytes 8)).1.take k) : Int) * 2 ^ (min (8 : Int).toNat (IntKind.bits .u64)))) ||| BitVec.ofInt (IntKind.bits .u64) (c12.toNat : Int)).toNat)
    refine ol rfl (lo_or rfl rfl) (oai rfl rfl (ow_nil (blkK_n (seqK_n (cw_region ?_)))))
    refine ol rfl (lo_add rfl rfl (rg_i64 (by omega))) (omi rfl rfl (ow_nil ?_))
    refine next1 (k + 1) (upd_intro (upd_intro (mask_intro (by first | exact off_refl | (repeat (first | exact off_mask | refine off_upd rfl ?_ | refine off_mask2 rfl ?_)))) rfl) (congrArg (Value.int .u64) (num_step hc13 (by omega)))) (lmask_intro (by first | exact offl_refl | (repeat (first | exact offl_mask | refine offl_upd rfl ?_ | refine offl_mask2 rfl ?_)))) hl9 ?_ ?_
    · omega
    omega
  have p17 := df h10
  refine cw_exit (seqK_e (loopK_e (blkK_hit (seqK_n (cw_seq ?_)))))
  refine cw_region (omi rfl rfl (oai rfl rfl (ow_nil (seqK_n (cw_down (((HLe.refl _).trans hl6).trans hl9) ?_)))))
  refine cw_ret (fnK_r (res1 rfl (rv_t (v := .int _ _) rfl)) (.refl _) ?_)
  refine ⟨_, rfl, ?_⟩
  refine ⟨?_, rfl, rfl⟩
  simp only [inNum]
  rw [List.take_of_length_le (by omega)]
theorem in_Text (H : Hp) (i_b : Nat) (i : In) (most : Int) (most_r : -9223372036854775808 ≤ most ∧ most ≤ 9223372036854775807) : Pm Tryz.prog 107 #[.pointer (some ⟨i_b, 0, none⟩), .int .i64 most] H i_b (bx 169 (In.cells i)) (fun v H' o' => v = str ((inText i most).1) ∧ H = H' ∧ o' = bx 169 (In.cells ((inText i most).2))) := by
  refine pm_cw Tryz.func107 rfl Tryz.ntmps107 rfl (fun N => ?_)
  refine cw_seq (cw_region (ol rfl (lo_assign (v := str _) rfl) (ow_nil (seqK_n (cw_seq ?_)))))
  refine cw_region (ol rfl (lo_move (v := .pointer (some ⟨_, _, none⟩)) rfl) ?_)
  refine ow1 (op1_pm 0 rfl (in_Num _ i_b i 2 (by omega)) (en_f cb49 rfl) rfl ?_)
  rintro _ _ _ ⟨rfl, rfl, rfl⟩ _
  have := inNum_r i 2
  refine ol rfl (lo_conv_in rfl (by rw [Tryz.underlying39]; rfl) Tryz.underlying3 (rg_i64 (by omega))) (oai rfl rfl (ow_nil (seqK_n (cw_seq (cw_seq ?_)))))
  refine cw_region (omi rfl rfl (omi rfl rfl (ol rfl (lo_gtr rfl rfl) (ow_nil (seqK_n ?_)))))
  refine cw_cond rfl (fun h3 => ?_) (fun h3 => ?_)
  · have p4 := dt h3
    refine cw_region (ol rfl (lo_move (v := .pointer (some ⟨_, _, none⟩)) rfl) ?_)
    refine ow1 (op1_pm 0 rfl (in_Fail _ i_b ((inNum i 2).2) 5 (by omega)) (en_f cb129 rfl) rfl ?_)
    rintro _ _ _ ⟨rfl, rfl, rfl⟩ _
    refine ow_nil (seqK_n (cw_seq (cw_region (ol rfl (lo_move (v := .pointer (some ⟨_, _, none⟩)) rfl) (omi rfl rfl ?_)))))
    refine ow1 (op1_pm 0 rfl (in_Raw _ i_b (inFail ((inNum i 2).2) 5) ((inNum i 2).1) (by omega)) (en_f cb106 rfl) rfl ?_)
    rintro _ _ _ ⟨rfl, rfl, rfl⟩ _
    refine ol rfl (lo_assign (v := str _) rfl) (ow_nil (seqK_n (cw_ret (fnK_r (res1 rfl (rv_t (v := str _) rfl)) (.refl _) ?_))))
    refine ⟨_, rfl, ?_⟩
    refine ⟨?_, rfl, ?_⟩ <;> simp [inText, *]
  have p9 := df h3
  refine cw_skip (seqK_n (cw_seq (cw_region (ol rfl (lo_move (v := .pointer (some ⟨_, _, none⟩)) rfl) (omi rfl rfl ?_)))))
  refine ow1 (op1_pm 0 rfl (in_Raw _ i_b ((inNum i 2).2) ((inNum i 2).1) (by omega)) (en_f cb106 rfl) rfl ?_)
  rintro _ _ _ ⟨rfl, rfl, rfl⟩ _
  refine ol rfl (lo_assign (v := str _) rfl) (ow_nil (seqK_n (cw_ret (fnK_r (res1 rfl (rv_t (v := str _) rfl)) (.refl _) ?_))))
  refine ⟨_, rfl, ?_⟩
  refine ⟨?_, rfl, ?_⟩ <;> simp [inText, *]
end Go.SW
set_option linter.unusedVariables false
set_option maxRecDepth 100000
set_option maxHeartbeats 4000000
namespace Go.SW
open Go.Proofs
theorem ag127 : Ag Tryz.prog 127 false := fun w => by kernel_rfl
theorem ag157 : Ag Tryz.prog 157 true := fun w => by kernel_rfl
theorem by5 : By Tryz.prog 5 1 := by_of (by kernel_rfl)
theorem cb60 : Callable Tryz.prog 60 := callable_of Tryz.func60 (by kernel_rfl) (by kernel_rfl)
theorem cb62 : Callable Tryz.prog 62 := callable_of Tryz.func62 (by kernel_rfl) (by kernel_rfl)
theorem co5 : Tryz.prog.cellsOf 5 = 1 := by kernel_rfl
theorem fl129_1 : Fld Tryz.prog 129 1 1 := fun b o w => by kernel_rfl
theorem fl157_0 : Fld Tryz.prog 157 0 0 := fun b o w => by kernel_rfl
theorem mixd : Tryz.prog.follows .mixedOrders = true := by kernel_rfl
theorem sz127 : Sz Tryz.prog 127 1 := fun w => by kernel_rfl
theorem sz157 : Sz Tryz.prog 157 2 := fun w => by kernel_rfl
theorem zr129 : Zr Tryz.prog 129 [.pointer none, .slice none 0 0] := fun w => ⟨.agg #[.pointer none, .slice none 0 0], by kernel_rfl, rfl⟩
theorem zr157 : Zr Tryz.prog 157 [str [], .int .i64 0] := fun w => ⟨.agg #[str [], .int .i64 0], by kernel_rfl, rfl⟩
theorem zr5 : Zr Tryz.prog 5 [.int .u8 0] := fun w => ⟨.int .u8 0, by kernel_rfl, rfl⟩
theorem zx5 : ∃ z, ∀ w, (zeroValue 5).run Tryz.prog w = .ok z w := ⟨.int .u8 0, fun w => by kernel_rfl⟩
theorem out_Num (H : Hp) (o : Out) (n : Int) (n_r : 0 ≤ n ∧ n ≤ 18446744073709551615) (bytes : Int) (bytes_r : -9223372036854775808 ≤ bytes ∧ bytes ≤ 9223372036854775807) (hlen : o.s.length ≤ 4611686018427387904) : Pr Tryz.prog 90 #[.agg (Out.cells o).toArray, .int .u64 n, .int .i64 bytes] H (.agg (Out.cells (outNum o n bytes)).toArray) := by
  refine pr_cw Tryz.func90 rfl Tryz.ntmps90 rfl (fun N => ?_)
  refine cw_seq (cw_region (ow1 (op1_box (cs := [_, _]) 0 rfl rfl (fun b1 => ?_))))
  refine ow1 (op1_alloc 1 rfl zr157 (fun b2 => ?_))
  refine ow_nil (seqK_n (cw_seq (cw_region (ow1 (op1_alloc 2 rfl zr129 (fun b3 => ?_))))))
  refine ow_nil (seqK_n (cw_seq (cw_seq (cw_region (omi rfl rfl ?_)))))
  refine ol rfl (lo_max rfl rfl) (ol rfl (lo_min rfl rfl) (ol rfl (lo_sub rfl rfl (rg_i64 (by omega))) (oai rfl rfl (ow_nil (seqK_n ?_)))))
  refine cw_block ?_
  refine cw_loop5 [8, 13, 14, 15, 16, 17, 18, 19, 20, 21, 22] [2, 3, 4] (fun (j : Nat) (bs : Bs) (p : Value) (v : Value) (en : Option (Nat × Obj)) G => upd (G) 8 (.int .i64 ((j : Int) - 1))) (fun (j : Nat) (bs : Bs) (p : Value) (v : Value) (en : Option (Nat × Obj)) G => lupd (lupd (G) 2 (some (b3, bx 129 [p, v]))) 3 (en)) (fun (j : Nat) (bs : Bs) (p : Value) (v : Value) (en : Option (Nat × Obj)) H' => bs ++ numB j n.toNat = numB (numK bytes) n.toNat ∧ bs.length + j = numK bytes ∧ OwnV 1 5 v en bs.length (bs.map u8v) ∧ (bs.length = 0 → v = .slice none 0 0) ∧ (p = .pointer none ∨ p = .pointer (some ⟨b3, 0, none⟩))) (fun (j : Nat) (bs : Bs) (p : Value) (v : Value) (en : Option (Nat × Obj)) => j) (numK bytes) [] (.pointer none) (.slice none 0 0) none (upd_intro (mask_intro (by first | exact off_refl | (repeat (first | exact off_mask | refine off_upd rfl ?_ | refine off_mask2 rfl ?_)))) (congrArg (Value.int .i64) (show min (max bytes 0) 8 - 1 = ((numK bytes : Nat) : Int) - 1 by unfold numK; omega))) (lupd_intro (lupd_intro (lmask_intro offl_refl) rfl) rfl) ?_ ?_
  · exact ⟨rfl, by simp, ownV_nil, fun _ => rfl, .inl rfl⟩
  intro j bs p v en J5 JL5 H5 hp4 hl5
  obtain ⟨hk1, hk2, ho, hz, hpp⟩ := hp4
  have hk8 : numK bytes ≤ 8 := by unfold numK; omega
  refine cw_seq (cw_seq (cw_region (omi rfl rfl (ol rfl (lo_geq rfl rfl) (ow_nil ?_)))))
  refine seqK_n (cw_cond rfl (fun h6 => ?_) (fun h6 => ?_))
  · have p7 := dt h6
    refine cw_skip (seqK_n (cw_seq (cw_block (cw_region (omi rfl rfl ?_)))))
    refine omi rfl rfl (ol rfl (lo_mul rfl rfl (rg_i64 (by omega))) (ol rfl (lo_shr rfl rfl (by omega)) ?_))
    have := wr_u8 (Int.fdiv n (2 ^ (min ((8 * ((j : Int) - 1)) : Int).toNat (IntKind.bits .u64))))
    refine ol rfl (lo_conv rfl (by rw [Tryz.underlying39]; rfl) Tryz.underlying5) ?_
    refine ow1 (op1_in (en_f cb60 rfl) Tryz.func60 rfl Tryz.ntmps60 rfl rfl ?_)
    refine cw_seq (cw_region (ol rfl (lo_assign rfl) (ow_nil (seqK_n (cw_seq ?_)))))
    refine cw_region (ol rfl (lo_move (v := .pointer (some ⟨_, _, none⟩)) rfl) ?_)
    refine ow1 (copyCheck 2 rfl rfl hpp rfl ?_)
    refine ow_nil (seqK_n (cw_seq (cw_region (ol rfl (lo_move (v := .pointer (some ⟨_, _, none⟩)) rfl) (ol rfl (lo_move (v := .pointer (some ⟨_, _, none⟩)) rfl) ?_)))))
    refine ol rfl (lo_nilCheck rfl) (ol rfl (lo_fieldAddr rfl fl129_1) (ol rfl (lo_load1 (i := 2) rfl ag127 rfl rfl) (omi rfl rfl ?_)))
    refine ow1 (op1_bslice (cs := [_]) 4 rfl Tryz.underlying127 sz5 zx5 rfl ⟨rfl, rfl, trivial⟩ rfl rfl (by decide) (fun b8 => ?_))
    refine ow1 (op1_app 3 rfl rfl Tryz.underlying127 Tryz.underlying127 rfl sz5 by5 (by decide) zr5 ho (src_bx (i := 4) rfl rfl) (List.all_eq_true.1 rfl) rfl (by omega) rfl (fun v9 en10 ho11 => ?_))
    have ho12 := byte_app (bs := bs) ho11 (by first | rfl | simp) (wrap8r _)
    refine ol rfl (lo_nilCheck rfl) (ol rfl (lo_fieldAddr rfl fl129_1) ?_)
    refine ow1 (op1_store1 (i := 2) rfl rfl (ownV_one ho12) sz127 rfl rfl ?_)
    refine ow_nil (seqK_n (cw_seq (cw_region (ol rfl (lo_assign rfl) (ow_nil ?_)))))
    refine seqK_n (cw_ret (fnK_r (res1 rfl (rv_t rfl)) (.refl _) (ow_nil (blkK_n (seqK_n ?_)))))
    refine cw_region (omi rfl rfl (ol rfl (lo_sub rfl rfl (rg_i64 (by omega))) (oai rfl rfl (ow_nil ?_))))
    refine next5 (j - 1) (bs ++ [UInt8.ofNat ((IntKind.wrap .u8 (Int.fdiv n (2 ^ (min ((8 * ((j : Int) - 1)) : Int).toNat (IntKind.bits .u64)))))).toNat]) (.pointer (some ⟨b3, 0, none⟩)) v9 en10 (upd_intro (mask_intro (by first | exact off_refl | (repeat (first | exact off_mask | refine off_upd rfl ?_ | refine off_mask2 rfl ?_)))) (congrArg (Value.int .i64) (show ((j : Int) - 1) - 1 = ((j - 1 : Nat) : Int) - 1 by omega))) (lupd_intro (lupd_intro (lmask_intro (by first | exact offl_refl | (repeat (first | exact offl_mask | refine offl_upd rfl ?_ | refine offl_mask2 rfl ?_)))) rfl) rfl) hl5 ?_ ?_
    · refine ⟨?_, ?_, ho12, (nz_of ho12 (by simp)), .inr rfl⟩
      · rw [byte_of n_r.1 (by omega) (by omega), List.append_assoc, ← hk1]
        obtain ⟨q, rfl⟩ : ∃ q, j = q + 1 := ⟨j - 1, by omega⟩
        simp [numB]
      simp; omega
    omega
  have p13 := df h6
  refine cw_exit (seqK_e (loopK_e (blkK_hit (seqK_n (cw_seq ?_)))))
  refine cw_anyX 3 mixd (vw_q 0 rfl (by kernel_rfl) (by repeat (first | exact lle_l0 | exact LLe.refl _ | exact lle_none | refine lle_up ?_ rfl)) (fun _ _ hh hl => lo_fieldAddr rfl fl157_0) ?_)
  refine vw_q 1 rfl (by kernel_rfl) (by repeat (first | exact lle_l0 | exact LLe.refl _ | exact lle_none | refine lle_up ?_ rfl)) (fun _ _ hh hl => lo_load1 (i := 0) (v := str _) rfl ag9 (hl _ _ rfl) rfl) ?_
  refine vw_e 2 rfl (by kernel_rfl) (op1_in (en_f cb62 rfl) Tryz.func62 rfl Tryz.ntmps62 rfl rfl ?_)
  refine cw_seq (cw_region (ol rfl (lo_assign (v := str _) rfl) (ow_nil (seqK_n (cw_seq ?_)))))
  refine cw_anyX 3 mixd ?_
  refine vw_q 0 rfl (by kernel_rfl) (by repeat (first | exact lle_l0 | exact LLe.refl _ | exact lle_none | refine lle_up ?_ rfl)) (fun _ _ hh hl => lo_move (v := .pointer (some ⟨_, _, none⟩)) rfl) ?_
  refine vw_q 1 rfl (by kernel_rfl) (by repeat (first | exact lle_l0 | exact LLe.refl _ | exact lle_none | refine lle_up ?_ rfl)) (fun _ _ hh hl => lo_nilCheck rfl) ?_
  refine vw_q 2 rfl (by kernel_rfl) (by repeat (first | exact lle_l0 | exact LLe.refl _ | exact lle_none | refine lle_up ?_ rfl)) (fun _ _ hh hl => lo_fieldAddr rfl fl129_1) ?_
  refine vw_q 3 rfl (by kernel_rfl) (by repeat (first | exact lle_l0 | exact LLe.refl _ | exact lle_none | refine lle_up ?_ rfl)) (fun _ _ hh hl => lo_load1 (i := 2) rfl ag127 (hl _ _ rfl) rfl) ?_
  refine vw_q 4 rfl (by kernel_rfl) (by repeat (first | exact lle_l0 | exact LLe.refl _ | exact lle_none | refine lle_up ?_ rfl)) (fun _ _ hh hl => lo_usd rfl ho hz) ?_
  refine vw_q 5 rfl (by kernel_rfl) (by repeat (first | exact lle_l0 | exact LLe.refl _ | exact lle_none | refine lle_up ?_ rfl)) (fun _ _ hh hl => lo_move (v := .pointer (some ⟨_, _, none⟩)) rfl) ?_
  refine vw_q 6 rfl (by kernel_rfl) (by repeat (first | exact lle_l0 | exact LLe.refl _ | exact lle_none | refine lle_up ?_ rfl)) (fun _ _ hh hl => lo_nilCheck rfl) ?_
  refine vw_q 7 rfl (by kernel_rfl) (by repeat (first | exact lle_l0 | exact LLe.refl _ | exact lle_none | refine lle_up ?_ rfl)) (fun _ _ hh hl => lo_fieldAddr rfl fl129_1) ?_
  refine vw_q 8 rfl (by kernel_rfl) (by repeat (first | exact lle_l0 | exact LLe.refl _ | exact lle_none | refine lle_up ?_ rfl)) (fun _ _ hh hl => lo_load1 (i := 2) rfl ag127 (hl _ _ rfl) rfl) ?_
  refine vw_q 9 rfl (by kernel_rfl) (by repeat (first | exact lle_l0 | exact LLe.refl _ | exact lle_none | refine lle_up ?_ rfl)) (fun _ _ hh hl => lo_len_own rfl ho Tryz.underlying127) ?_
  refine vw_e 10 rfl (by kernel_rfl) (op1_ustr (l := bs) 3 rfl rfl Tryz.underlying180 co5 ho hz (by have hq := numB_len (numK bytes) n.toNat; simp [numK] at *; omega) rfl ?_)
  refine ⟨⟨(.refl _), (by repeat (first | exact lle_l0 | exact LLe.refl _ | exact lle_none | refine lle_up ?_ rfl))⟩, ?_⟩
  refine vw_q 11 rfl (by kernel_rfl) (by repeat (first | exact lle_l0 | exact LLe.refl _ | exact lle_none | refine lle_up ?_ rfl)) (fun _ _ hh hl => lo_assign (v := str _) rfl) ?_
  refine vw_done (by kernel_rfl) (seqK_n (cw_ret (fnK_r (res1 rfl (rv_t (v := str _) rfl)) (.refl _) ?_)))
  refine ⟨⟨(.refl _), (by repeat (first | exact lle_l0 | exact LLe.refl _ | exact lle_none | refine lle_up ?_ rfl))⟩, ?_⟩
  refine vw_q 3 rfl (by kernel_rfl) (by repeat (first | exact lle_l0 | exact LLe.refl _ | exact lle_none | refine lle_up ?_ rfl)) (fun _ _ hh hl => lo_cat rfl rfl (by have hq := numB_len (numK bytes) n.toNat; simp [numK] at *; omega)) ?_
  refine vw_q 4 rfl (by kernel_rfl) (by repeat (first | exact lle_l0 | exact LLe.refl _ | exact lle_none | refine lle_up ?_ rfl)) (fun _ _ hh hl => lo_fieldAddr rfl fl157_0) ?_
  refine vw_t 5 rfl (by kernel_rfl) (by kernel_rfl) (op1_store1 (i := 0) (v := str _) rfl rfl rfl sz9 rfl rfl ?_)
  refine vw_done (by kernel_rfl) (seqK_n (cw_seq (cw_region (ol rfl (lo_loadA (i := 0) (vs := [_, _]) rfl ag157 sz157 rfl rfl rfl) ?_))))
  refine ow1 (op1_storeA (i := 1) (vs := [_, _]) rfl rfl rfl sz157 rfl rfl rfl ?_)
  refine ow_nil (seqK_n (cw_ret (fnK_r (res1 rfl (rv_c (i := 1) (vs := [_, _]) rfl ag157 sz157 rfl rfl rfl)) ((HLe.refl _).trans hl5) ?_)))
  obtain rfl : j = 0 := by omega
  simp only [numB, List.append_nil] at hk1
  subst hk1
  rfl
end Go.SW
set_option linter.unusedVariables false
set_option maxRecDepth 100000
set_option maxHeartbeats 4000000
namespace Go.SW
open Go.Proofs
theorem cb166 : Callable Tryz.prog 166 := callable_of Tryz.func166 (by kernel_rfl) (by kernel_rfl)
theorem cb89 : Callable Tryz.prog 89 := callable_of Tryz.func89 (by kernel_rfl) (by kernel_rfl)
theorem cb90 : Callable Tryz.prog 90 := callable_of Tryz.func90 (by kernel_rfl) (by kernel_rfl)
theorem fl157_1 : Fld Tryz.prog 157 1 1 := fun b o w => by kernel_rfl
theorem out_Raw (H : Hp) (o : Out) (s : Bs) (hlen : o.s.length + s.length ≤ 4611686018427387904) : Pr Tryz.prog 89 #[.agg (Out.cells o).toArray, str s] H (.agg (Out.cells (outRaw o s)).toArray) := by
  refine pr_cw Tryz.func89 rfl Tryz.ntmps89 rfl (fun N => ?_)
  refine cw_seq (cw_region (ow1 (op1_box (cs := [_, _]) 0 rfl rfl (fun b1 => ?_))))
  refine ow1 (op1_alloc 1 rfl zr157 (fun b2 => ?_))
  refine ow_nil (seqK_n (cw_seq (cw_region (ol rfl (lo_fieldAddr rfl fl157_0) (ol rfl (lo_load1 (i := 0) (v := str _) rfl ag9 rfl rfl) ?_)))))
  refine ol rfl (lo_move (v := str _) rfl) (ol rfl (lo_cat rfl rfl (by first | omega | (simp <;> omega))) (ol rfl (lo_fieldAddr rfl fl157_0) ?_))
  refine ow1 (op1_store1 (i := 0) (v := str _) rfl rfl rfl sz9 rfl rfl ?_)
  refine ow_nil (seqK_n (cw_seq (cw_region (ol rfl (lo_loadA (i := 0) (vs := [_, _]) rfl ag157 sz157 rfl rfl rfl) ?_))))
  refine ow1 (op1_storeA (i := 1) (vs := [_, _]) rfl rfl rfl sz157 rfl rfl rfl ?_)
  refine ow_nil (seqK_n (cw_ret (fnK_r (res1 rfl (rv_c (i := 1) (vs := [_, _]) rfl ag157 sz157 rfl rfl rfl)) (.refl _) ?_)))
  rfl
theorem out_String (H : Hp) (o : Out) : Pr Tryz.prog 91 #[.agg (Out.cells o).toArray] H (str o.s) := by
  refine pr_cw Tryz.func91 rfl Tryz.ntmps91 rfl (fun N => ?_)
  refine cw_seq (cw_region (ow1 (op1_box (cs := [_, _]) 0 rfl rfl (fun b1 => ?_))))
  refine ol rfl (lo_assign (v := str _) rfl) (ow_nil (seqK_n (cw_seq (cw_region (ol rfl (lo_fieldAddr rfl fl157_0) ?_)))))
  refine ol rfl (lo_load1 (i := 0) (v := str _) rfl ag9 rfl rfl) (ol rfl (lo_assign (v := str _) rfl) (ow_nil (seqK_n (cw_ret (fnK_r (res1 rfl (rv_t (v := str _) rfl)) (.refl _) ?_)))))
  rfl
theorem out_Text (H : Hp) (o : Out) (s : Bs) (hlen : o.s.length + s.length ≤ 4611686018427386000) : Pr Tryz.prog 87 #[.agg (Out.cells o).toArray, str s] H (.agg (Out.cells (outText o s)).toArray) := by
  refine pr_cw Tryz.func87 rfl Tryz.ntmps87 rfl (fun N => ?_)
  refine cw_seq (cw_region (ow1 (op1_box (cs := [_, _]) 0 rfl rfl (fun b1 => ?_))))
  refine ow1 (op1_alloc 1 rfl zr157 (fun b2 => ?_))
  refine ow_nil (seqK_n (cw_seq (cw_seq (cw_region (ol rfl (lo_move (v := str _) rfl) ?_)))))
  refine ol rfl (lo_len_str rfl Tryz.underlying9) (ol rfl (lo_gtr rfl rfl) (ow_nil (seqK_n (cw_cond rfl (fun h3 => ?_) (fun h3 => ?_)))))
  · have p4 := dt h3
    refine cw_seq (cw_seq (cw_region (ol rfl (lo_fieldAddr rfl fl157_1) (ol rfl (lo_load1 (i := 0) (v := .int _ _) rfl ag24 rfl rfl) (ol rfl (lo_eql rfl rfl) ?_)))))
    refine ow_nil (seqK_n (cw_cond rfl (fun h5 => ?_) (fun h5 => ?_)))
    · have p6 := dt h5
      refine cw_region (ol rfl (lo_fieldAddr rfl fl157_1) ?_)
      refine ow1 (op1_store1 (i := 0) (v := .int _ _) rfl rfl rfl sz24 rfl rfl ?_)
      refine ow_nil (seqK_n (cw_seq (cw_region (ol rfl (lo_loadA (i := 0) (vs := [_, _]) rfl ag157 sz157 rfl rfl rfl) ?_))))
      refine ow1 (op1_storeA (i := 1) (vs := [_, _]) rfl rfl rfl sz157 rfl rfl rfl ?_)
      refine ow_nil (seqK_n (cw_ret (seqK_r (fnK_r (res1 rfl (rv_c (i := 1) (vs := [_, _]) rfl ag157 sz157 rfl rfl rfl)) (.refl _) ?_))))
      simp [outText, Out.cells, *]
    have p7 := df h5
    refine cw_skip (seqK_n (cw_seq (cw_region (ol rfl (lo_loadA (i := 0) (vs := [_, _]) rfl ag157 sz157 rfl rfl rfl) ?_))))
    refine ow1 (op1_storeA (i := 1) (vs := [_, _]) rfl rfl rfl sz157 rfl rfl rfl ?_)
    refine ow_nil (seqK_n (cw_ret (seqK_r (fnK_r (res1 rfl (rv_c (i := 1) (vs := [_, _]) rfl ag157 sz157 rfl rfl rfl)) (.refl _) ?_))))
    simp [outText, Out.cells, *]
  have p8 := df h3
  refine cw_skip (seqK_n (cw_seq (cw_region (ol rfl (lo_loadA (i := 0) (vs := [_, _]) rfl ag157 sz157 rfl rfl rfl) (ol rfl (lo_move (v := str _) rfl) ?_)))))
  refine ol rfl (lo_len_str rfl Tryz.underlying9) (ol rfl (lo_conv_in rfl (by rw [Tryz.underlying3]; rfl) Tryz.underlying39 (rg_u64 (by omega))) ?_)
  refine ow1 (op1_pr (out_Num _ o (s.length : Int) (by omega) 2 (by omega) (by first | omega | (have := hrl (by assumption); omega) | (simp [outNum, outRaw, numB_len, numK] <;> omega) | (have := hrl (by assumption); simp [outNum, outRaw, numB_len, numK] <;> omega))) (en_f cb90 rfl) rfl ?_)
  have := outNum_len o (s.length : Int) 2
  refine ol rfl (lo_move (v := str _) rfl) ?_
  refine ow1 (op1_pr (out_Raw _ (outNum o (s.length : Int) 2) s (by first | omega | (have := hrl (by assumption); omega) | (simp [outNum, outRaw, numB_len, numK] <;> omega) | (have := hrl (by assumption); simp [outNum, outRaw, numB_len, numK] <;> omega))) (en_f cb89 rfl) rfl ?_)
  have := outRaw_len (outNum o (s.length : Int) 2) s
  refine ow1 (op1_storeA (i := 1) (vs := [_, _]) rfl rfl rfl sz157 rfl rfl rfl ?_)
  refine ow_nil (seqK_n (cw_ret (fnK_r (res1 rfl (rv_c (i := 1) (vs := [_, _]) rfl ag157 sz157 rfl rfl rfl)) (.refl _) ?_)))
  simp [outText, Out.cells, *]
theorem words_Name (H : Hp) (s : Bs) (hs : s.length ≤ 9223372036854775807) : Pr Tryz.prog 131 #[str s] H (.int .i64 (nameE s)) := by
  refine pr_cw Tryz.func131 rfl Tryz.ntmps131 rfl (fun N => ?_)
  refine cw_seq (cw_region (oai rfl rfl (ow_nil (seqK_n (cw_seq ?_)))))
  refine cw_block (cw_seq (cw_region (ol rfl (lo_move (v := str _) rfl) (ol rfl (lo_seql rfl rfl) (oab rfl rfl ?_)))))
  refine ow_nil (seqK_n (cw_cond rfl (fun h1 => ?_) (fun h1 => ?_)))
  · have p2 := dt h1
    refine cw_seq (cw_region (oai rfl rfl (ow_nil (seqK_n (cw_ret ?_)))))
    refine blkK_r (seqK_r (fnK_r (res1 rfl (rv_t (v := .int _ _) rfl)) (.refl _) ?_))
    simp [nameE, *] <;> omega
  have p3 := df h1
  refine cw_seq (cw_region (ol rfl (lo_move (v := str _) rfl) (ol rfl (lo_len_str rfl Tryz.underlying9) (ol rfl (lo_gtr rfl rfl) (oab rfl rfl ?_)))))
  refine ow_nil (seqK_n (cw_cond rfl (fun h4 => ?_) (fun h4 => ?_)))
  · have p5 := dt h4
    refine cw_seq (cw_region (oai rfl rfl (ow_nil (seqK_n (cw_ret ?_)))))
    refine blkK_r (seqK_r (fnK_r (res1 rfl (rv_t (v := .int _ _) rfl)) (.refl _) ?_))
    simp [nameE, *] <;> omega
  have p6 := df h4
  refine cw_seq (cw_region (ol rfl (lo_move (v := str _) rfl) ?_))
  refine ow1 (op1_pr (words_plain _ s (by omega)) (en_f cb166 rfl) rfl ?_)
  refine ol rfl (lo_not rfl) (oab rfl rfl (ow_nil (seqK_n (cw_cond rfl (fun h7 => ?_) (fun h7 => ?_)))))
  · have h8 := not_t h7
    refine cw_seq (cw_region (oai rfl rfl (ow_nil (seqK_n (cw_ret ?_)))))
    refine blkK_r (seqK_r (fnK_r (res1 rfl (rv_t (v := .int _ _) rfl)) (.refl _) ?_))
    simp [nameE, *] <;> omega
  have h9 := not_f h7
  refine cw_skip (blkK_n (seqK_n (cw_seq (cw_region (oai rfl rfl ?_)))))
  refine ow_nil (seqK_n (cw_ret (fnK_r (res1 rfl (rv_t (v := .int _ _) rfl)) (.refl _) ?_)))
  simp [nameE, *] <;> omega
end Go.SW
set_option linter.unusedVariables false
set_option maxRecDepth 100000
set_option maxHeartbeats 4000000
namespace Go.SW
open Go.Proofs
theorem cb171 : Callable Tryz.prog 171 := callable_of Tryz.func171 (by kernel_rfl) (by kernel_rfl)
theorem cb191 : Callable Tryz.prog 191 := callable_of Tryz.func191 (by kernel_rfl) (by kernel_rfl)
theorem cb204 : Callable Tryz.prog 204 := callable_of Tryz.func204 (by kernel_rfl) (by kernel_rfl)
theorem words_Split (H : Hp) (s : Bs) (hML : GInt H 2) (hs : s.length < 4294967281) : Ph Tryz.prog 191 #[str s] H (fun v H' => ∃ (a1 : Option Addr) (c1 : Nat), v = .slice a1 (wordsOf s).length c1 ∧ SlH strE 1 H' (.slice a1 (wordsOf s).length c1) (wordsOf s)) := by
  refine ph_cw Tryz.func191 rfl Tryz.ntmps191 rfl (fun N => ?_)
  refine cw_seq (cw_region (ol rfl (lo_assign (v := .slice _ _ _) rfl) (ow_nil (seqK_n (cw_seq ?_)))))
  refine cw_seq (cw_region (ol rfl (lo_move (v := str _) rfl) (ol rfl (lo_seql rfl rfl) (ow_nil (seqK_n ?_)))))
  refine cw_cond rfl (fun h1 => ?_) (fun h1 => ?_)
  · have p2 := dt h1
    refine cw_seq (cw_region (ol rfl (lo_assign (v := .slice _ _ _) rfl) (ow_nil (seqK_n (cw_ret ?_)))))
    refine seqK_r (fnK_r (res1 rfl (rv_t (v := .slice _ _ _) rfl)) (.refl _) ?_)
    have e : wordsOf s = [] := by simp [wordsOf, *]
    rw [e]
    exact ⟨none, 0, rfl, slh_nil⟩
  have p3 := df h1
  refine cw_skip (seqK_n (cw_seq (cw_region (ol rfl (lo_move (v := str _) rfl) ?_))))
  refine ow1 (op1_ph (strings_Split _ s [46] (by rfl) hML (by omega)) (en_f cb204 rfl) rfl ?_)
  rintro _ H8 ⟨a4, c5, rfl, hs6⟩ hl7
  refine ol rfl (lo_assign (v := .slice _ _ _) rfl) (ow_nil (seqK_n (cw_ret (fnK_r (res1 rfl (rv_t (v := .slice _ _ _) rfl)) ((HLe.refl _).trans hl7) ?_))))
  have e : wordsOf s = dots s := by simp [wordsOf, *]
  rw [e]
  exact ⟨_, _, rfl, hs6⟩
theorem words_key (H : Hp) (s : Bs) (besides_a : Option Addr) (besides_l besides_c : Nat) (besides : List Bs) (besides_h : SlH strE 1 H (.slice besides_a besides_l besides_c) besides) (hML : GInt H 2) (hbl : besides.length < 4294967281) : Pr Tryz.prog 171 #[str s, .slice besides_a besides_l besides_c] H (.int .i64 (keyE besides s)) := by
  refine pr_cw Tryz.func171 rfl Tryz.ntmps171 rfl (fun N => ?_)
  refine cw_seq (cw_region (oai rfl rfl (ow_nil (seqK_n (cw_scope ?_)))))
  refine cw_seq (cw_seq (cw_region (ol rfl (lo_move (v := str _) rfl) (ol rfl (lo_len_str rfl Tryz.underlying9) (ol rfl (lo_gtr rfl rfl) ?_)))))
  refine ow_nil (seqK_n (cw_cond rfl (fun h1 => ?_) (fun h1 => ?_)))
  · have p2 := dt h1
    refine cw_seq (cw_region (oai rfl rfl (ow_nil (seqK_n (cw_ret ?_)))))
    refine seqK_r (scK_r (fnK_r (res1 rfl (rv_t (v := .int _ _) rfl)) (.refl _) ?_))
    simp [keyE, *]
  have p3 := df h1
  refine cw_skip (seqK_n (cw_seq (cw_label (seqK_n (cw_seq ?_)))))
  refine cw_seq (cw_region (ol rfl (lo_move (v := str _) rfl) ?_))
  refine ow1 (op1_ph (words_Split _ s hML (by omega)) (en_f cb191 rfl) rfl ?_)
  rintro _ H8 ⟨a4, c5, rfl, hs6⟩ hl7
  refine ol rfl (lo_len_slh rfl hs6 Tryz.underlying183) (omi rfl rfl (ow_nil (seqK_n (cw_block (cw_loop1 [4, 6, 8, 15, 16, 17, 18, 19, 20, 21, 22, 23, 24, 25, 26, 27, 28, 29, 30, 31, 32, 33, 34, 35, 36] [] (fun (k : Nat) G => upd (G) 15 (.int .i64 (k : Int))) (fun (k : Nat) G => G) (fun (k : Nat) H' => k ≤ (wordsOf s).length ∧ (wordsOf s).any (isBad besides) = ((wordsOf s).drop k).any (isBad besides)) (fun (k : Nat) => (wordsOf s).length - k) 0 (upd_intro (mask_intro (by first | exact off_refl | (repeat (first | exact off_mask | refine off_upd rfl ?_ | refine off_mask2 rfl ?_)))) rfl) (lmask_intro offl_refl) ?_ ?_)))))
  · exact ⟨Nat.zero_le _, by simp⟩
  intro k J10 JL10 H10 hp9 hl10
  obtain ⟨hk1, hk2⟩ := hp9
  have hwl := words_le s
  refine cw_seq (cw_region (ol rfl (lo_lss rfl rfl) (ow_nil (seqK_n (cw_seq ?_)))))
  refine cw_cond rfl (fun h11 => ?_) (fun h11 => ?_)
  · have p12 := dt h11
    refine cw_skip (seqK_n (cw_seq (cw_block (cw_seq (cw_region ?_)))))
    obtain ⟨c13, hc14⟩ := getE (xs := wordsOf s) (m := k) (by omega)
    obtain ⟨cs15, hE16, at17⟩ := (hs6.mono ((HLe.refl _).trans hl10) (fun _ _ h => h)).get hc14
    obtain ⟨rfl, c13_w⟩ := hE16
    have c13_w : c13.length ≤ 9223372036854775807 := c13_w
    refine ol rfl (lo_indexAddr rfl rfl (hs6.mono ((HLe.refl _).trans hl10) (fun _ _ h => h)).1 at17 Tryz.underlying183 sz9 (by omega) (by omega)) (ol rfl (lo_loadE1 rfl ag9 at17) (ol rfl (lo_assign (v := str _) rfl) (ow_nil (seqK_n (cw_seq ?_)))))
    refine cw_seq (cw_region (ol rfl (lo_move (v := .slice _ _ _) rfl) (ol rfl (lo_len_slh rfl (besides_h.mono (((HLe.refl _).trans hl7).trans hl10) (fun _ _ h => h)) Tryz.underlying183) (omi rfl rfl (ow_nil ?_)))))
    refine seqK_n (cw_block (cw_loop1 [8, 21, 22, 23, 24, 25, 26, 27, 28] [] (fun (j : Nat) G => upd (G) 21 (.int .i64 (j : Int))) (fun (j : Nat) G => G) (fun (j : Nat) H' => j ≤ besides.length ∧ besides.contains c13 = (besides.drop j).contains c13) (fun (j : Nat) => besides.length - j) 0 (upd_intro (mask_intro (by first | exact off_refl | (repeat (first | exact off_mask | refine off_upd rfl ?_ | refine off_mask2 rfl ?_)))) rfl) (lmask_intro offl_refl) ?_ ?_))
    · exact ⟨Nat.zero_le _, by simp⟩
    intro j J19 JL19 H19 hp18 hl19
    obtain ⟨hj1, hj2⟩ := hp18
    refine cw_seq (cw_region (ol rfl (lo_lss rfl rfl) (ow_nil (seqK_n (cw_seq ?_)))))
    refine cw_cond rfl (fun h20 => ?_) (fun h20 => ?_)
    · have p21 := dt h20
      refine cw_skip (seqK_n (cw_seq (cw_block (cw_seq (cw_region ?_)))))
      obtain ⟨c22, hc23⟩ := getE (xs := besides) (m := j) (by omega)
      obtain ⟨cs24, hE25, at26⟩ := (besides_h.mono ((((HLe.refl _).trans hl7).trans hl10).trans hl19) (fun _ _ h => h)).get hc23
      obtain ⟨rfl, c22_w⟩ := hE25
      have c22_w : c22.length ≤ 9223372036854775807 := c22_w
      refine ol rfl (lo_indexAddr rfl rfl (besides_h.mono ((((HLe.refl _).trans hl7).trans hl10).trans hl19) (fun _ _ h => h)).1 at26 Tryz.underlying183 sz9 (by omega) (by omega)) (ol rfl (lo_loadE1 rfl ag9 at26) (ol rfl (lo_assign (v := str _) rfl) (ow_nil (seqK_n (cw_seq ?_)))))
      refine cw_region (ol rfl (lo_move (v := str _) rfl) (ol rfl (lo_move (v := str _) rfl) (ol rfl (lo_seql rfl rfl) (ow_nil (seqK_n ?_)))))
      refine cw_cond rfl (fun h27 => ?_) (fun h27 => ?_)
      · have p28 := dt h27
        refine cw_exit (blkK_e rfl (seqK_e (loopK_e (blkK_e rfl (seqK_e ?_)))))
        refine blkK_hit (seqK_n (cw_region (ol rfl (lo_add rfl rfl (rg_i64 (by omega))) (omi rfl rfl (ow_nil ?_)))))
        refine next1 (k + 1) (upd_intro (mask_intro (by first | exact off_refl | (repeat (first | exact off_mask | refine off_upd rfl ?_ | refine off_mask2 rfl ?_)))) rfl) (lmask_intro (by first | exact offl_refl | (repeat (first | exact offl_mask | refine offl_upd rfl ?_ | refine offl_mask2 rfl ?_)))) (hl10.trans hl19) ?_ ?_
        · refine ⟨by omega, ?_⟩
          rw [hk2, dropE hc14, List.any_cons]
          have hb : isBad besides c13 = false := by
            unfold isBad
            rw [hj2, dropE hc23]
            simp [*]
          simp [hb]
        omega
      have p29 := df h27
      refine cw_skip (blkK_n (seqK_n (cw_region (ol rfl (lo_add rfl rfl (rg_i64 (by omega))) (omi rfl rfl ?_)))))
      refine ow_nil ?_
      refine next1 (j + 1) (upd_intro (mask_intro (by first | exact off_refl | (repeat (first | exact off_mask | refine off_upd rfl ?_ | refine off_mask2 rfl ?_)))) rfl) (lmask_intro (by first | exact offl_refl | (repeat (first | exact offl_mask | refine offl_upd rfl ?_ | refine offl_mask2 rfl ?_)))) hl19 ?_ ?_
      · refine ⟨by omega, ?_⟩
        rw [hj2, dropE hc23, List.contains_cons]
        simp [*]
      omega
    have p30 := df h20
    refine cw_exit (seqK_e (loopK_e (blkK_hit (seqK_n (cw_seq ?_)))))
    refine cw_region (ol rfl (lo_move (v := str _) rfl) (ol rfl (lo_seql rfl rfl) (omb rfl rfl (ow_sp (j := 2) rfl (fun h31 => ?_) (fun h31 => ?_)))))
    · have p32 := dt h31
      refine og rfl h31 rfl (og rfl h31 rfl (og rfl h31 rfl (ol rfl (lo_pick_t (v := .bool _) rfl h31 rfl) (ow_nil (seqK_n ?_)))))
      refine cw_cond_t rfl rfl (cw_seq (cw_region (oai rfl rfl (ow_nil (seqK_n ?_)))))
      refine cw_ret (blkK_r (seqK_r (loopK_r (blkK_r (seqK_r ?_)))))
      refine scK_r (fnK_r (res1 rfl (rv_t (v := .int _ _) rfl)) ((((HLe.refl _).trans hl7).trans hl10).trans hl19) ?_)
      have hb : isBad besides c13 = true := by
        unfold isBad
        rw [hj2, List.drop_of_length_le (by omega)]
        simp [*]
      unfold keyE
      rw [if_neg (by omega), hk2, dropE hc14, List.any_cons, hb]
      rfl
    have p33 := df h31
    refine ow1 (op1_g rfl h31 rfl (lo_move (v := str _) rfl) ?_)
    refine ow1 (op1_prg rfl h31 (words_plain _ c13 (by omega)) (en_f cb166 rfl) rfl ?_)
    refine ow1 (op1_g rfl h31 rfl (lo_not rfl) ?_)
    refine ol rfl (lo_pick_f (v := .bool _) rfl h31 rfl) (ow_nil (seqK_n (cw_cond rfl (fun h34 => ?_) (fun h34 => ?_))))
    · have h35 := not_t h34
      refine cw_seq (cw_region (oai rfl rfl (ow_nil (seqK_n (cw_ret ?_)))))
      refine blkK_r (seqK_r (loopK_r (blkK_r (seqK_r (scK_r ?_)))))
      refine fnK_r (res1 rfl (rv_t (v := .int _ _) rfl)) ((((HLe.refl _).trans hl7).trans hl10).trans hl19) ?_
      have hb : isBad besides c13 = true := by
        unfold isBad
        rw [hj2, List.drop_of_length_le (by omega)]
        simp [*]
      unfold keyE
      rw [if_neg (by omega), hk2, dropE hc14, List.any_cons, hb]
      rfl
    have h36 := not_f h34
    refine cw_skip (blkK_n (seqK_n (cw_region (ol rfl (lo_add rfl rfl (rg_i64 (by omega))) (omi rfl rfl ?_)))))
    refine ow_nil ?_
    refine next1 (k + 1) (upd_intro (mask_intro (by first | exact off_refl | (repeat (first | exact off_mask | refine off_upd rfl ?_ | refine off_mask2 rfl ?_)))) rfl) (lmask_intro (by first | exact offl_refl | (repeat (first | exact offl_mask | refine offl_upd rfl ?_ | refine offl_mask2 rfl ?_)))) (hl10.trans hl19) ?_ ?_
    · refine ⟨by omega, ?_⟩
      rw [hk2, dropE hc14, List.any_cons]
      have hb : isBad besides c13 = false := by
        unfold isBad
        rw [hj2, List.drop_of_length_le (by omega)]
        simp [*]
      simp [hb]
    omega
  have p37 := df h11
  refine cw_exit (seqK_e (loopK_e (blkK_hit (seqK_n (cw_seq ?_)))))
  refine cw_region (oai rfl rfl (ow_nil (seqK_n (cw_ret (scK_r ?_)))))
  refine fnK_r (res1 rfl (rv_t (v := .int _ _) rfl)) (((HLe.refl _).trans hl7).trans hl10) ?_
  unfold keyE
  rw [if_neg (by omega), hk2, List.drop_of_length_le (by omega)]
  rfl
theorem words_Key (H : Hp) (s : Bs) (hML : GInt H 2) : Pr Tryz.prog 137 #[str s] H (.int .i64 (keyE [] s)) := by
  refine pr_cw Tryz.func137 rfl Tryz.ntmps137 rfl (fun N => ?_)
  refine cw_seq (cw_region (oai rfl rfl (ow_nil (seqK_n (cw_seq ?_)))))
  refine cw_region (ol rfl (lo_move (v := str _) rfl) ?_)
  refine ow1 (op1_pr (words_key _ s none 0 0 [] slh_nil hML (by first | (simp; done) | omega)) (en_f cb171 rfl) rfl ?_)
  refine oai rfl rfl (ow_nil (seqK_n (cw_ret (fnK_r (res1 rfl (rv_t (v := .int _ _) rfl)) (.refl _) ?_))))
  rfl
end Go.SW
set_option linter.unusedVariables false
set_option maxRecDepth 100000
set_option maxHeartbeats 4000000
namespace Go.SW
open Go.Proofs
theorem ag182 : Ag Tryz.prog 182 true := fun w => by kernel_rfl
theorem ag2 : Ag Tryz.prog 2 false := fun w => by kernel_rfl
theorem bd182  (w : World) : (Instr.build 182 #[]).run Tryz.prog w = .ok (.agg #[str [], .int .u8 0, .int .i64 0, str []]) w := by kernel_rfl
theorem cb131 : Callable Tryz.prog 131 := callable_of Tryz.func131 (by kernel_rfl) (by kernel_rfl)
theorem cb154 : Callable Tryz.prog 154 := callable_of Tryz.func154 (by kernel_rfl) (by kernel_rfl)
theorem cb185 : Callable Tryz.prog 185 := callable_of Tryz.func185 (by kernel_rfl) (by kernel_rfl)
theorem cb198 : Callable Tryz.prog 198 := callable_of Tryz.func198 (by kernel_rfl) (by kernel_rfl)
theorem cb199 : Callable Tryz.prog 199 := callable_of Tryz.func199 (by kernel_rfl) (by kernel_rfl)
theorem fl182_0 : Fld Tryz.prog 182 0 0 := fun b o w => by kernel_rfl
theorem fl182_1 : Fld Tryz.prog 182 1 1 := fun b o w => by kernel_rfl
theorem fl182_2 : Fld Tryz.prog 182 2 2 := fun b o w => by kernel_rfl
theorem fl182_3 : Fld Tryz.prog 182 3 3 := fun b o w => by kernel_rfl
theorem sz182 : Sz Tryz.prog 182 4 := fun w => by kernel_rfl
theorem zr182 : Zr Tryz.prog 182 [str [], .int .u8 0, .int .i64 0, str []] := fun w => ⟨.agg #[str [], .int .u8 0, .int .i64 0, str []], by kernel_rfl, rfl⟩
theorem head_Find (H : Hp) (h_a : Option Addr) (h_l h_c : Nat) (h : List Pair) (h_h : SlH pairE 4 H (.slice h_a h_l h_c) h) (key : Bs) (hl : h.length ≤ 9223372036854775807) : Pr Tryz.prog 185 #[.slice h_a h_l h_c, str key] H (.tuple #[.agg (Pair.cells ((findP h key).getD Pair.zero)).toArray, .bool ((findP h key).isSome)]) := by
  refine pr_cw Tryz.func185 rfl Tryz.ntmps185 rfl (fun N => ?_)
  refine cw_seq (cw_region (ow1 (op1_box1 (v := str _) 0 rfl rfl rfl (fun b1 => ?_))))
  refine ow1 (op1_alloc 1 rfl zr182 (fun b2 => ?_))
  refine oab rfl rfl (ow_nil (seqK_n (cw_seq (cw_region (ol rfl (lo_move (v := .slice _ _ _) rfl) ?_)))))
  refine ol rfl (lo_makeFunc (cap := [_]) rfl) ?_
  refine ow1 (op1_in (en_f cb198 rfl) Tryz.func198 rfl Tryz.ntmps198 rfl rfl ?_)
  refine cw_seq (cw_region (oai rfl rfl (ow_nil (seqK_n (cw_seq ?_)))))
  refine cw_seq (cw_region (ol rfl (lo_move (v := .slice _ _ _) rfl) (ol rfl (lo_len_slh rfl h_h Tryz.underlying40) (omi rfl rfl (ow_nil ?_)))))
  refine seqK_n (cw_block (cw_loop1 [4, 5, 8, 9, 10, 11, 12, 13, 14, 15, 16, 17, 18] [2] (fun (k : Nat) G => upd (G) 8 (.int .i64 (k : Int))) (fun (k : Nat) G => G) (fun (k : Nat) H' => k ≤ h.length ∧ findP h key = findP (h.drop k) key) (fun (k : Nat) => h.length - k) 0 (upd_intro (mask_intro (by first | exact off_refl | (repeat (first | exact off_mask | refine off_upd rfl ?_ | refine off_mask2 rfl ?_)))) rfl) (lmask_intro offl_refl) ?_ ?_))
  · exact ⟨Nat.zero_le _, rfl⟩
  intro k J4 JL4 H4 hp3 hl4
  obtain ⟨hk1, hk2⟩ := hp3
  refine cw_seq (cw_region (ol rfl (lo_lss rfl rfl) (ow_nil (seqK_n (cw_seq ?_)))))
  refine cw_cond rfl (fun h5 => ?_) (fun h5 => ?_)
  · have p6 := dt h5
    refine cw_skip (seqK_n (cw_seq (cw_block (cw_seq (cw_region ?_)))))
    refine omi rfl rfl (oai rfl rfl (ow_nil (seqK_n (cw_seq (cw_region ?_)))))
    refine ol rfl (lo_move rfl) (ol rfl (lo_move (v := .slice _ _ _) rfl) (omi rfl rfl ?_))
    obtain ⟨c7, hc8⟩ := getE (xs := h) (m := k) (by omega)
    obtain ⟨cs9, hE10, at11⟩ := (h_h.mono ((HLe.refl _).trans hl4) (fun _ _ h => h)).get hc8
    obtain ⟨rfl, c7_w⟩ := hE10
    have c7_w' := c7_w
    simp only [Pair.wf] at c7_w'
    refine ol rfl (lo_indexAddr rfl rfl (h_h.mono ((HLe.refl _).trans hl4) (fun _ _ h => h)).1 at11 Tryz.underlying40 sz182 (by omega) (by omega)) (ol rfl (lo_loadEA rfl ag182 sz182 at11) ?_)
    refine ow1 (op1_in (en_v rfl cb199 rfl) Tryz.func199 rfl Tryz.ntmps199 rfl rfl ?_)
    refine cw_seq (cw_region (ow1 (op1_box (cs := [_, _, _, _]) 2 rfl rfl (fun b12 => ?_))))
    refine oab rfl rfl (ow_nil (seqK_n (cw_seq (cw_region (ol rfl (lo_fieldAddr rfl fl182_0) ?_)))))
    refine ol rfl (lo_load1 (i := 2) (v := str _) rfl ag9 rfl rfl) (ol rfl (lo_load1 (i := 0) (v := str _) rfl ag9 rfl rfl) (ol rfl (lo_seql rfl rfl) (oab rfl rfl (ow_nil (seqK_n ?_)))))
    refine cw_ret (fnK_r (res1 rfl (rv_t (v := .bool _) rfl)) (.refl _) (ow_nil (seqK_n (cw_cond rfl (fun h13 => ?_) (fun h13 => ?_)))))
    · have p14 := dt h13
      refine cw_seq (cw_region (omi rfl rfl (oai rfl rfl (ow_nil (seqK_n ?_)))))
      refine cw_ret (blkK_r (seqK_r (loopK_r (blkK_r (seqK_r ?_)))))
      refine fnK_r (res1 rfl (rv_t (v := .int _ _) rfl)) ((HLe.refl _).trans hl4) (oai rfl rfl (ow_nil (seqK_n (cw_seq (cw_seq ?_)))))
      refine cw_region (omi rfl rfl (ol rfl (lo_lss rfl rfl) (ow_nil (seqK_n (cw_cond rfl (fun h15 => ?_) (fun h15 => ?_))))))
      · have p16 := dt h15
        refine cw_seq (cw_region (ol rfl (lo_build (v := .agg #[_, _, _, _]) rfl (bd182)) ?_))
        refine ow1 (op1_storeA (i := 1) (vs := [_, _, _, _]) rfl rfl rfl sz182 rfl rfl rfl ?_)
        refine oab rfl rfl (ow_nil (seqK_n (cw_ret (seqK_r (fnK_r (res2 rfl (rv_c (i := 1) (vs := [_, _, _, _]) rfl ag182 sz182 rfl rfl rfl) (rv_t (v := .bool _) rfl)) ((HLe.refl _).trans hl4) ?_)))))
        first
          | (exfalso; omega)
          | (rw [List.drop_of_length_le (by omega)] at hk2; rw [hk2]; rfl)
      have p17 := df h15
      refine cw_skip (seqK_n (cw_seq (cw_region (ol rfl (lo_move (v := .slice _ _ _) rfl) (omi rfl rfl ?_)))))
      refine ol rfl (lo_indexAddr rfl rfl (h_h.mono ((HLe.refl _).trans hl4) (fun _ _ h => h)).1 at11 Tryz.underlying40 sz182 (by omega) (by omega)) (ol rfl (lo_loadEA rfl ag182 sz182 at11) ?_)
      refine ow1 (op1_storeA (i := 1) (vs := [_, _, _, _]) rfl rfl rfl sz182 rfl rfl rfl ?_)
      refine oab rfl rfl (ow_nil (seqK_n (cw_ret (fnK_r (res2 rfl (rv_c (i := 1) (vs := [_, _, _, _]) rfl ag182 sz182 rfl rfl rfl) (rv_t (v := .bool _) rfl)) ((HLe.refl _).trans hl4) ?_))))
      have e := findP_hit hk2 (dropE hc8) (by assumption)
      rw [e]
      rfl
    have p18 := df h13
    refine cw_skip (blkK_n (seqK_n (cw_region (ol rfl (lo_add rfl rfl (rg_i64 (by omega))) (omi rfl rfl ?_)))))
    refine ow_nil ?_
    refine next1 (k + 1) (upd_intro (mask_intro (by first | exact off_refl | (repeat (first | exact off_mask | refine off_upd rfl ?_ | refine off_mask2 rfl ?_)))) rfl) (lmask_intro (by first | exact offl_refl | (repeat (first | exact offl_mask | refine offl_upd rfl ?_ | refine offl_mask2 rfl ?_)))) hl4 ?_ ?_
    · exact ⟨by omega, findP_miss hk2 (dropE hc8) (by assumption)⟩
    omega
  have p19 := df h5
  refine cw_exit (seqK_e (loopK_e (blkK_hit (seqK_n (cw_seq ?_)))))
  refine cw_region (oai rfl rfl (ow_nil (seqK_n (cw_ret (fnK_r (res1 rfl (rv_t (v := .int _ _) rfl)) ((HLe.refl _).trans hl4) ?_)))))
  refine oai rfl rfl (ow_nil (seqK_n (cw_seq (cw_seq (cw_region ?_)))))
  refine omi rfl rfl (ol rfl (lo_lss rfl rfl) (ow_nil (seqK_n (cw_cond_t rfl (by decide) (cw_seq ?_)))))
  refine cw_region (ol rfl (lo_build (v := .agg #[_, _, _, _]) rfl (bd182)) ?_)
  refine ow1 (op1_storeA (i := 1) (vs := [_, _, _, _]) rfl rfl rfl sz182 rfl rfl rfl ?_)
  refine oab rfl rfl (ow_nil (seqK_n (cw_ret (seqK_r (fnK_r (res2 rfl (rv_c (i := 1) (vs := [_, _, _, _]) rfl ag182 sz182 rfl rfl rfl) (rv_t (v := .bool _) rfl)) ((HLe.refl _).trans hl4) ?_)))))
  first
    | (exfalso; omega)
    | (rw [List.drop_of_length_le (by omega)] at hk2; rw [hk2]; rfl)
theorem head_pair (H : Hp) (p : Pair) (p_w : Pair.wf p) (ahead_a : Option Addr) (ahead_l ahead_c : Nat) (ahead : List Pair) (ahead_h : SlH pairE 4 H (.slice ahead_a ahead_l ahead_c) ahead) (hl : ahead.length ≤ 9223372036854775807) : Pr Tryz.prog 154 #[.agg (Pair.cells p).toArray, .slice ahead_a ahead_l ahead_c] H (.int .i64 (pairErr p ahead)) := by
  refine pr_cw Tryz.func154 rfl Tryz.ntmps154 rfl (fun N => ?_)
  have p_w' := p_w
  simp only [Pair.wf] at p_w'
  refine cw_seq (cw_region (ow1 (op1_box (cs := [_, _, _, _]) 0 rfl rfl (fun b1 => ?_))))
  refine oai rfl rfl (ow_nil (seqK_n (cw_seq (cw_seq (cw_region ?_)))))
  refine ol rfl (lo_fieldAddr rfl fl182_0) (ol rfl (lo_load1 (i := 0) (v := str _) rfl ag9 rfl rfl) ?_)
  refine ow1 (op1_pr (words_Name _ p.key (by first | omega | decide | (simp; done))) (en_f cb131 rfl) rfl ?_)
  refine oai rfl rfl (ow_nil (seqK_n (cw_seq (cw_region (omi rfl rfl ?_)))))
  refine ol rfl (lo_neq rfl rfl) (ow_nil (seqK_n (cw_cond rfl (fun h2 => ?_) (fun h2 => ?_))))
  · have h3 := not_t h2
    have p4 := df h3
    refine cw_seq (cw_region (omi rfl rfl (oai rfl rfl (ow_nil (seqK_n ?_)))))
    refine cw_ret (seqK_r (fnK_r (res1 rfl (rv_t (v := .int _ _) rfl)) (.refl _) ?_))
    first | (simp [pairErr, *]; done) | (simp [pairErr, *]; omega)
  have h5 := not_f h2
  have p6 := dt h5
  refine cw_skip (seqK_n (cw_seq (cw_region (ol rfl (lo_move (v := .slice _ _ _) rfl) (ol rfl (lo_fieldAddr rfl fl182_0) ?_)))))
  refine ol rfl (lo_load1 (i := 0) (v := str _) rfl ag9 rfl rfl) ?_
  refine ow1 (op1_pr (head_Find _ ahead_a ahead_l ahead_c ahead ahead_h p.key (by first | omega | (simp <;> omega))) (en_f cb185 rfl) rfl ?_)
  refine ol rfl (lo_move (v := .tuple #[_, _]) rfl) (ol rfl (lo_extract (v := .agg #[_, _, _, _]) rfl rfl) (ol rfl (lo_extract (v := .bool _) rfl rfl) (ow1 (op1_alloc 1 rfl zr182 (fun b7 => ?_)))))
  refine ow1 (op1_storeA (i := 1) (vs := [_, _, _, _]) rfl rfl rfl sz182 rfl rfl rfl ?_)
  refine oab rfl rfl (ow_nil (seqK_n (cw_seq (cw_block (cw_seq ?_)))))
  refine cw_region (ol rfl (lo_fieldAddr rfl fl182_1) (ol rfl (lo_load1 (i := 0) (v := .int _ _) rfl ag5 rfl rfl) (ol rfl (lo_gtr rfl rfl) (oab rfl rfl (ow_nil ?_)))))
  refine seqK_n (cw_cond rfl (fun h8 => ?_) (fun h8 => ?_))
  · have p9 := dt h8
    refine cw_seq (cw_region (oai rfl rfl (ow_nil (seqK_n (cw_ret ?_)))))
    refine blkK_r (seqK_r (fnK_r (res1 rfl (rv_t (v := .int _ _) rfl)) (.refl _) ?_))
    first | (simp [pairErr, *]; done) | (simp [pairErr, *]; omega)
  have p10 := df h8
  refine cw_seq (cw_region (ol rfl (lo_fieldAddr rfl fl182_1) (ol rfl (lo_load1 (i := 0) (v := .int _ _) rfl ag5 rfl rfl) (ol rfl (lo_eql rfl rfl) (omb rfl rfl ?_)))))
  refine ow_sp (j := 3) rfl (fun h11 => ?_) (fun h11 => ?_)
  · have p12 := dt h11
    refine ow1 (op1_g rfl h11 rfl (lo_fieldAddr rfl fl182_3) ?_)
    refine ow1 (op1_g rfl h11 rfl (lo_load1 (i := 0) (v := str _) rfl ag9 rfl rfl) ?_)
    refine ow1 (op1_g rfl h11 rfl (lo_len_str rfl Tryz.underlying9) ?_)
    refine ow1 (op1_g rfl h11 rfl (lo_gtr rfl rfl) ?_)
    refine ol rfl (lo_pick_t (v := .bool _) rfl h11 rfl) (oab rfl rfl (ow_nil (seqK_n (cw_cond rfl (fun h13 => ?_) (fun h13 => ?_)))))
    · have p14 := dt h13
      refine cw_seq (cw_region (oai rfl rfl (ow_nil (seqK_n (cw_ret ?_)))))
      refine blkK_r (seqK_r (fnK_r (res1 rfl (rv_t (v := .int _ _) rfl)) (.refl _) ?_))
      first | (simp [pairErr, *]; done) | (simp [pairErr, *]; omega)
    have p15 := df h13
    refine cw_seq (cw_region (ol rfl (lo_fieldAddr rfl fl182_1) (ol rfl (lo_load1 (i := 0) (v := .int _ _) rfl ag5 rfl rfl) (ol rfl (lo_eql rfl rfl) (omb rfl rfl ?_)))))
    refine ow1 (op1_gs rfl (fd (by omega)) rfl ?_)
    refine ow1 (op1_gs rfl (fd (by omega)) rfl ?_)
    refine ow1 (op1_gs rfl (fd (by omega)) rfl ?_)
    refine ol rfl (lo_pick_f (v := .bool _) rfl (fd (by omega)) rfl) (omb rfl rfl (og rfl rfl rfl (og rfl rfl rfl (og rfl rfl rfl (ol rfl (lo_pick_f (v := .bool _) rfl rfl rfl) ?_)))))
    refine oab rfl rfl (ow_nil (seqK_n (cw_cond_f rfl rfl (cw_seq (cw_seq ?_)))))
    refine cw_region (ol rfl (lo_fieldAddr rfl fl182_1) (ol rfl (lo_load1 (i := 0) (v := .int _ _) rfl ag5 rfl rfl) (ol rfl (lo_eql rfl rfl) (omb rfl rfl ?_))))
    refine ow1 (op1_g rfl h11 rfl (lo_fieldAddr rfl fl182_2) ?_)
    refine ow1 (op1_g rfl h11 rfl (lo_load1 (i := 0) (v := .int _ _) rfl ag2 rfl rfl) ?_)
    refine ow1 (op1_g rfl h11 rfl (lo_neq rfl rfl) ?_)
    refine ol rfl (lo_pick_t (v := .bool _) rfl h11 rfl) (oab rfl rfl (ow_nil (seqK_n (cw_cond rfl (fun h16 => ?_) (fun h16 => ?_)))))
    · have h17 := not_t h16
      have p18 := df h17
      refine cw_skip (seqK_n (cw_cond_t rfl h16 (cw_seq (cw_region (oai rfl rfl ?_)))))
      refine ow_nil (seqK_n (cw_ret (blkK_r (seqK_r (fnK_r (res1 rfl (rv_t (v := .int _ _) rfl)) (.refl _) ?_)))))
      first | (simp [pairErr, *]; done) | (simp [pairErr, *]; omega)
    have h19 := not_f h16
    have p20 := dt h19
    refine cw_region (ol rfl (lo_fieldAddr rfl fl182_1) (ol rfl (lo_load1 (i := 0) (v := .int _ _) rfl ag5 rfl rfl) (ol rfl (lo_neq rfl rfl) (omb rfl rfl ?_))))
    refine ow1 (op1_gs rfl (by rw [h11] <;> rfl) rfl ?_)
    refine ow1 (op1_gs rfl (by rw [h11] <;> rfl) rfl ?_)
    refine ow1 (op1_gs rfl (by rw [h11] <;> rfl) rfl ?_)
    refine ol rfl (lo_pick_f (v := .bool _) rfl (by rw [h11] <;> rfl) rfl) (oab rfl rfl (ow_nil (seqK_n (cw_cond_f rfl rfl (cw_seq ?_)))))
    refine cw_region (omb rfl rfl (oab rfl rfl (ow_nil (seqK_n (cw_cond rfl (fun h21 => ?_) (fun h21 => ?_))))))
    · refine cw_seq (cw_region (oai rfl rfl (ow_nil (seqK_n (cw_ret ?_)))))
      refine blkK_r (seqK_r (fnK_r (res1 rfl (rv_t (v := .int _ _) rfl)) (.refl _) ?_))
      first | (simp [pairErr, *]; done) | (simp [pairErr, *]; omega)
    refine cw_skip (blkK_n (seqK_n (cw_seq (cw_region (oai rfl rfl ?_)))))
    refine ow_nil (seqK_n (cw_ret (fnK_r (res1 rfl (rv_t (v := .int _ _) rfl)) (.refl _) ?_)))
    first | (simp [pairErr, *]; done) | (simp [pairErr, *]; omega)
  have p22 := df h11
  refine og rfl h11 rfl (og rfl h11 rfl (og rfl h11 rfl (og rfl h11 rfl (ol rfl (lo_pick_f (v := .bool _) rfl h11 rfl) (oab rfl rfl ?_)))))
  refine ow_nil (seqK_n (cw_cond_f rfl rfl (cw_seq (cw_region (ol rfl (lo_fieldAddr rfl fl182_1) ?_)))))
  refine ol rfl (lo_load1 (i := 0) (v := .int _ _) rfl ag5 rfl rfl) (ol rfl (lo_eql rfl rfl) (omb rfl rfl (ow_sp (j := 3) rfl (fun h23 => ?_) (fun h23 => ?_))))
  · have p24 := dt h23
    refine ow1 (op1_g rfl h23 rfl (lo_fieldAddr rfl fl182_2) ?_)
    refine ow1 (op1_g rfl h23 rfl (lo_load1 (i := 0) (v := .int _ _) rfl ag2 rfl rfl) ?_)
    refine ow1 (op1_g rfl h23 rfl (lo_neq rfl rfl) ?_)
    refine ol rfl (lo_pick_t (v := .bool _) rfl h23 rfl) (omb rfl rfl (ow_sp (j := 8) rfl (fun h25 => ?_) (fun h25 => ?_)))
    · have h26 := not_t h25
      have p27 := df h26
      refine ow1 (op1_g rfl h25 rfl (lo_fieldAddr rfl fl182_2) ?_)
      refine ow1 (op1_g rfl h25 rfl (lo_load1 (i := 0) (v := .int _ _) rfl ag2 rfl rfl) ?_)
      refine ow1 (op1_g rfl h25 rfl (lo_neq rfl rfl) ?_)
      refine ol rfl (lo_pick_t (v := .bool _) rfl h25 rfl) (oab rfl rfl (ow_nil (seqK_n (cw_cond rfl (fun h28 => ?_) (fun h28 => ?_)))))
      · have h29 := not_t h28
        have p30 := df h29
        refine cw_seq (cw_region (oai rfl rfl (ow_nil (seqK_n (cw_ret ?_)))))
        refine blkK_r (seqK_r (fnK_r (res1 rfl (rv_t (v := .int _ _) rfl)) (.refl _) ?_))
        first | (simp [pairErr, *]; done) | (simp [pairErr, *]; omega)
      have h31 := not_f h28
      have p32 := dt h31
      refine cw_seq (cw_seq (cw_region (ol rfl (lo_fieldAddr rfl fl182_1) (ol rfl (lo_load1 (i := 0) (v := .int _ _) rfl ag5 rfl rfl) (ol rfl (lo_eql rfl rfl) ?_)))))
      refine omb rfl rfl (og rfl h11 rfl (og rfl h11 rfl (og rfl h11 rfl (ol rfl (lo_pick_f (v := .bool _) rfl h11 rfl) (oab rfl rfl ?_)))))
      refine ow_nil (seqK_n (cw_cond_f rfl rfl (cw_region (ol rfl (lo_fieldAddr rfl fl182_1) (ol rfl (lo_load1 (i := 0) (v := .int _ _) rfl ag5 rfl rfl) ?_)))))
      refine ol rfl (lo_neq rfl rfl) (omb rfl rfl ?_)
      refine ow1 (op1_g rfl (by rw [h11] <;> rfl) rfl (lo_fieldAddr rfl fl182_3) ?_)
      refine ow1 (op1_g rfl (by rw [h11] <;> rfl) rfl (lo_load1 (i := 0) (v := str _) rfl ag9 rfl rfl) ?_)
      refine ow1 (op1_g rfl (by rw [h11] <;> rfl) rfl (lo_sneq rfl rfl) ?_)
      refine ol rfl (lo_pick_t (v := .bool _) rfl (by rw [h11] <;> rfl) rfl) (oab rfl rfl (ow_nil (seqK_n (cw_cond rfl (fun h33 => ?_) (fun h33 => ?_)))))
      · have h34 := not_t h33
        have p35 := df h34
        refine cw_seq (cw_region (oai rfl rfl (ow_nil (seqK_n (cw_ret ?_)))))
        refine blkK_r (seqK_r (fnK_r (res1 rfl (rv_t (v := .int _ _) rfl)) (.refl _) ?_))
        first | (simp [pairErr, *]; done) | (simp [pairErr, *]; omega)
      have h36 := not_f h33
      have p37 := dt h36
      refine cw_seq (cw_region (omb rfl rfl (oab rfl rfl (ow_nil (seqK_n ?_)))))
      refine cw_cond rfl (fun h38 => ?_) (fun h38 => ?_)
      · refine cw_seq (cw_region (oai rfl rfl (ow_nil (seqK_n (cw_ret ?_)))))
        refine blkK_r (seqK_r (fnK_r (res1 rfl (rv_t (v := .int _ _) rfl)) (.refl _) ?_))
        first | (simp [pairErr, *]; done) | (simp [pairErr, *]; omega)
      refine cw_skip (blkK_n (seqK_n (cw_seq (cw_region (oai rfl rfl ?_)))))
      refine ow_nil (seqK_n (cw_ret (fnK_r (res1 rfl (rv_t (v := .int _ _) rfl)) (.refl _) ?_)))
      first | (simp [pairErr, *]; done) | (simp [pairErr, *]; omega)
    have h39 := not_f h25
    have p40 := dt h39
    refine og rfl h25 rfl (og rfl h25 rfl (og rfl h25 rfl (ol rfl (lo_pick_f (v := .bool _) rfl h25 rfl) (oab rfl rfl (ow_nil ?_)))))
    refine seqK_n (cw_cond_f rfl rfl (cw_seq (cw_seq (cw_region (ol rfl (lo_fieldAddr rfl fl182_1) ?_)))))
    refine ol rfl (lo_load1 (i := 0) (v := .int _ _) rfl ag5 rfl rfl) (ol rfl (lo_eql rfl rfl) (omb rfl rfl (og rfl h11 rfl (og rfl h11 rfl (og rfl h11 rfl ?_)))))
    refine ol rfl (lo_pick_f (v := .bool _) rfl h11 rfl) (oab rfl rfl (ow_nil (seqK_n (cw_cond_f rfl rfl (cw_region ?_)))))
    refine ol rfl (lo_fieldAddr rfl fl182_1) (ol rfl (lo_load1 (i := 0) (v := .int _ _) rfl ag5 rfl rfl) (ol rfl (lo_neq rfl rfl) (omb rfl rfl ?_)))
    refine ow1 (op1_g rfl (by rw [h11] <;> rfl) rfl (lo_fieldAddr rfl fl182_3) ?_)
    refine ow1 (op1_g rfl (by rw [h11] <;> rfl) rfl (lo_load1 (i := 0) (v := str _) rfl ag9 rfl rfl) ?_)
    refine ow1 (op1_g rfl (by rw [h11] <;> rfl) rfl (lo_sneq rfl rfl) ?_)
    refine ol rfl (lo_pick_t (v := .bool _) rfl (by rw [h11] <;> rfl) rfl) (oab rfl rfl (ow_nil (seqK_n (cw_cond rfl (fun h41 => ?_) (fun h41 => ?_)))))
    · have h42 := not_t h41
      have p43 := df h42
      refine cw_seq (cw_region (oai rfl rfl (ow_nil (seqK_n (cw_ret ?_)))))
      refine blkK_r (seqK_r (fnK_r (res1 rfl (rv_t (v := .int _ _) rfl)) (.refl _) ?_))
      first | (simp [pairErr, *]; done) | (simp [pairErr, *]; omega)
    have h44 := not_f h41
    have p45 := dt h44
    refine cw_seq (cw_region (omb rfl rfl (oab rfl rfl (ow_nil (seqK_n ?_)))))
    refine cw_cond rfl (fun h46 => ?_) (fun h46 => ?_)
    · refine cw_seq (cw_region (oai rfl rfl (ow_nil (seqK_n (cw_ret ?_)))))
      refine blkK_r (seqK_r (fnK_r (res1 rfl (rv_t (v := .int _ _) rfl)) (.refl _) ?_))
      first | (simp [pairErr, *]; done) | (simp [pairErr, *]; omega)
    refine cw_skip (blkK_n (seqK_n (cw_seq (cw_region (oai rfl rfl ?_)))))
    refine ow_nil (seqK_n (cw_ret (fnK_r (res1 rfl (rv_t (v := .int _ _) rfl)) (.refl _) ?_)))
    first | (simp [pairErr, *]; done) | (simp [pairErr, *]; omega)
  have p47 := df h23
  refine og rfl h23 rfl (og rfl h23 rfl (og rfl h23 rfl (ol rfl (lo_pick_f (v := .bool _) rfl h23 rfl) (omb rfl rfl (og rfl rfl rfl ?_)))))
  refine og rfl rfl rfl (og rfl rfl rfl (ol rfl (lo_pick_f (v := .bool _) rfl rfl rfl) (oab rfl rfl (ow_nil (seqK_n ?_)))))
  refine cw_cond_f rfl rfl (cw_seq (cw_seq (cw_region (ol rfl (lo_fieldAddr rfl fl182_1) (ol rfl (lo_load1 (i := 0) (v := .int _ _) rfl ag5 rfl rfl) ?_)))))
  refine ol rfl (lo_eql rfl rfl) (omb rfl rfl (og rfl h11 rfl (og rfl h11 rfl (og rfl h11 rfl (ol rfl (lo_pick_f (v := .bool _) rfl h11 rfl) ?_)))))
  refine oab rfl rfl (ow_nil (seqK_n (cw_cond_f rfl rfl (cw_region (ol rfl (lo_fieldAddr rfl fl182_1) ?_)))))
  refine ol rfl (lo_load1 (i := 0) (v := .int _ _) rfl ag5 rfl rfl) (ol rfl (lo_neq rfl rfl) (omb rfl rfl ?_))
  refine ow1 (op1_g rfl (by rw [h11] <;> rfl) rfl (lo_fieldAddr rfl fl182_3) ?_)
  refine ow1 (op1_g rfl (by rw [h11] <;> rfl) rfl (lo_load1 (i := 0) (v := str _) rfl ag9 rfl rfl) ?_)
  refine ow1 (op1_g rfl (by rw [h11] <;> rfl) rfl (lo_sneq rfl rfl) ?_)
  refine ol rfl (lo_pick_t (v := .bool _) rfl (by rw [h11] <;> rfl) rfl) (oab rfl rfl (ow_nil (seqK_n (cw_cond rfl (fun h48 => ?_) (fun h48 => ?_)))))
  · have h49 := not_t h48
    have p50 := df h49
    refine cw_seq (cw_region (oai rfl rfl (ow_nil (seqK_n (cw_ret ?_)))))
    refine blkK_r (seqK_r (fnK_r (res1 rfl (rv_t (v := .int _ _) rfl)) (.refl _) ?_))
    first | (simp [pairErr, *]; done) | (simp [pairErr, *]; omega)
  have h51 := not_f h48
  have p52 := dt h51
  refine cw_seq (cw_region (omb rfl rfl (oab rfl rfl (ow_nil (seqK_n ?_)))))
  refine cw_cond rfl (fun h53 => ?_) (fun h53 => ?_)
  · refine cw_seq (cw_region (oai rfl rfl (ow_nil (seqK_n (cw_ret ?_)))))
    refine blkK_r (seqK_r (fnK_r (res1 rfl (rv_t (v := .int _ _) rfl)) (.refl _) ?_))
    first | (simp [pairErr, *]; done) | (simp [pairErr, *]; omega)
  refine cw_skip (blkK_n (seqK_n (cw_seq (cw_region (oai rfl rfl ?_)))))
  refine ow_nil (seqK_n (cw_ret (fnK_r (res1 rfl (rv_t (v := .int _ _) rfl)) (.refl _) ?_)))
  first | (simp [pairErr, *]; done) | (simp [pairErr, *]; omega)
theorem head_Check (H : Hp) (h_a : Option Addr) (h_l h_c : Nat) (h : List Pair) (h_h : SlH pairE 4 H (.slice h_a h_l h_c) h) (hl : h.length ≤ 9223372036854775807) : Pr Tryz.prog 135 #[.slice h_a h_l h_c] H (.int .i64 (headE h)) := by
  refine pr_cw Tryz.func135 rfl Tryz.ntmps135 rfl (fun N => ?_)
  refine cw_seq (cw_region (oai rfl rfl (ow_nil (seqK_n (cw_seq ?_)))))
  refine cw_seq (cw_region (ol rfl (lo_move (v := .slice _ _ _) rfl) (ol rfl (lo_len_slh rfl h_h Tryz.underlying40) (ol rfl (lo_gtr rfl rfl) (ow_nil ?_)))))
  refine seqK_n (cw_cond rfl (fun h1 => ?_) (fun h1 => ?_))
  · have p2 := dt h1
    refine cw_seq (cw_region (oai rfl rfl (ow_nil (seqK_n (cw_ret ?_)))))
    refine seqK_r (fnK_r (res1 rfl (rv_t (v := .int _ _) rfl)) (.refl _) ?_)
    simp [headE, *]
  have p3 := df h1
  refine cw_skip (seqK_n (cw_seq (cw_seq (cw_region (ol rfl (lo_move (v := .slice _ _ _) rfl) ?_)))))
  refine ol rfl (lo_len_slh rfl h_h Tryz.underlying40) (omi rfl rfl (ow_nil (seqK_n (cw_block (cw_loop1 [2, 3, 4, 5, 11, 12, 13, 14, 15, 16, 17, 18, 19, 20, 21, 22, 23, 24] [0] (fun (k : Nat) G => upd (G) 11 (.int .i64 (k : Int))) (fun (k : Nat) G => G) (fun (k : Nat) H' => k ≤ h.length ∧ headGo [] h = headGo (h.take k) (h.drop k)) (fun (k : Nat) => h.length - k) 0 (upd_intro (mask_intro (by first | exact off_refl | (repeat (first | exact off_mask | refine off_upd rfl ?_ | refine off_mask2 rfl ?_)))) rfl) (lmask_intro offl_refl) ?_ ?_)))))
  · exact ⟨Nat.zero_le _, rfl⟩
  intro k J5 JL5 H5 hp4 hl5
  obtain ⟨hk1, hk2⟩ := hp4
  refine cw_seq (cw_region (ol rfl (lo_lss rfl rfl) (ow_nil (seqK_n (cw_seq ?_)))))
  refine cw_cond rfl (fun h6 => ?_) (fun h6 => ?_)
  · have p7 := dt h6
    refine cw_skip (seqK_n (cw_seq (cw_block (cw_seq (cw_region ?_)))))
    refine omi rfl rfl ?_
    obtain ⟨c8, hc9⟩ := getE (xs := h) (m := k) (by omega)
    obtain ⟨cs10, hE11, at12⟩ := (h_h.mono ((HLe.refl _).trans hl5) (fun _ _ h => h)).get hc9
    obtain ⟨rfl, c8_w⟩ := hE11
    have c8_w' := c8_w
    simp only [Pair.wf] at c8_w'
    refine ol rfl (lo_indexAddr rfl rfl (h_h.mono ((HLe.refl _).trans hl5) (fun _ _ h => h)).1 at12 Tryz.underlying40 sz182 (by omega) (by omega)) (ol rfl (lo_loadEA rfl ag182 sz182 at12) (ow1 (op1_alloc 0 rfl zr182 (fun b13 => ?_))))
    refine oai rfl rfl ?_
    refine ow1 (op1_storeA (i := 0) (vs := [_, _, _, _]) rfl rfl rfl sz182 rfl rfl rfl ?_)
    refine ow_nil (seqK_n (cw_seq (cw_anyL mixd (vw_q 0 rfl (by kernel_rfl) (by repeat (first | exact lle_l0 | exact LLe.refl _ | exact lle_none | refine lle_up ?_ rfl)) (fun _ _ hh hl => lo_loadA (i := 0) (vs := [_, _, _, _]) rfl ag182 sz182 (hl _ _ rfl) rfl rfl) ?_))))
    refine vw_q 1 rfl (by kernel_rfl) (by repeat (first | exact lle_l0 | exact LLe.refl _ | exact lle_none | refine lle_up ?_ rfl)) (fun _ _ hh hl => lo_move (v := .slice _ _ _) rfl) ?_
    refine vw_q 2 rfl (by kernel_rfl) (by repeat (first | exact lle_l0 | exact LLe.refl _ | exact lle_none | refine lle_up ?_ rfl)) (fun _ _ hh hl => lo_move (v := .int _ _) rfl) ?_
    refine vw_q 3 rfl (by kernel_rfl) (by repeat (first | exact lle_l0 | exact LLe.refl _ | exact lle_none | refine lle_up ?_ rfl)) (fun _ _ hh hl => lo_slice_slh_hi k rfl rfl Tryz.underlying40 sz182 (by omega) (Nat.le_trans (by omega) (slh_cap (h_h.mono ((HLe.refl _).trans hl5) (fun _ _ h => h))))) ?_
    have := pairErr_r c8 (h.take k)
    refine vw_qc 4 rfl (by kernel_rfl) (by repeat (first | exact lle_l0 | exact LLe.refl _ | exact lle_none | refine lle_up ?_ rfl)) (head_pair _ c8 c8_w (slA h_a h_c 0 4) k h_c (h.take k) (slh_take (q := k) (h_h.mono ((HLe.refl _).trans hl5) (fun _ _ h => h)) (by omega)) (by first | omega | (simp <;> omega))) (en_f cb154 rfl) ?_
    refine vw_q 5 rfl (by kernel_rfl) (by repeat (first | exact lle_l0 | exact LLe.refl _ | exact lle_none | refine lle_up ?_ rfl)) (fun _ _ hh hl => lo_assign (v := .int _ _) rfl) ?_
    refine vw_done (by kernel_rfl) (seqK_n (cw_seq (cw_region (omi rfl rfl (ol rfl (lo_neq rfl rfl) ?_)))))
    refine ow_nil (seqK_n (cw_cond rfl (fun h14 => ?_) (fun h14 => ?_)))
    · have h15 := not_t h14
      have p16 := df h15
      refine cw_seq (cw_region (omi rfl rfl (oai rfl rfl (ow_nil (seqK_n ?_)))))
      refine cw_ret (blkK_r (seqK_r (loopK_r (blkK_r (seqK_r ?_)))))
      refine fnK_r (res1 rfl (rv_t (v := .int _ _) rfl)) ((HLe.refl _).trans hl5) ?_
      unfold headE
      rw [if_neg (by omega), hk2, dropE hc9]
      simp only [headGo]
      rw [if_pos (by omega)]
    have h17 := not_f h14
    have p18 := dt h17
    refine cw_skip (blkK_n (seqK_n (cw_region (ol rfl (lo_add rfl rfl (rg_i64 (by omega))) (omi rfl rfl ?_)))))
    refine ow_nil ?_
    refine next1 (k + 1) (upd_intro (mask_intro (by first | exact off_refl | (repeat (first | exact off_mask | refine off_upd rfl ?_ | refine off_mask2 rfl ?_)))) rfl) (lmask_intro (by first | exact offl_refl | (repeat (first | exact offl_mask | refine offl_upd rfl ?_ | refine offl_mask2 rfl ?_)))) hl5 ?_ ?_
    · refine ⟨by omega, ?_⟩
      rw [hk2, dropE hc9, takeE hc9]
      simp only [headGo]
      rw [if_neg (by omega)]
    omega
  have p19 := df h6
  refine cw_exit (seqK_e (loopK_e (blkK_hit (seqK_n (cw_seq ?_)))))
  refine cw_region (oai rfl rfl (ow_nil (seqK_n (cw_ret (fnK_r (res1 rfl (rv_t (v := .int _ _) rfl)) ((HLe.refl _).trans hl5) ?_)))))
  unfold headE
  rw [if_neg (by omega), hk2, List.drop_of_length_le (by omega)]
  rfl
end Go.SW
set_option linter.unusedVariables false
set_option maxRecDepth 100000
set_option maxHeartbeats 4000000
namespace Go.SW
open Go.Proofs
theorem bd157  (w : World) : (Instr.build 157 #[]).run Tryz.prog w = .ok (.agg #[str [], .int .i64 0]) w := by kernel_rfl
theorem cb135 : Callable Tryz.prog 135 := callable_of Tryz.func135 (by kernel_rfl) (by kernel_rfl)
theorem cb87 : Callable Tryz.prog 87 := callable_of Tryz.func87 (by kernel_rfl) (by kernel_rfl)
theorem cb91 : Callable Tryz.prog 91 := callable_of Tryz.func91 (by kernel_rfl) (by kernel_rfl)
theorem head_Bytes (H : Hp) (h_a : Option Addr) (h_l h_c : Nat) (h : List Pair) (h_h : SlH pairE 4 H (.slice h_a h_l h_c) h) (hl : h.length ≤ 9223372036854775807) : Pr Tryz.prog 88 #[.slice h_a h_l h_c] H (.tuple #[str (headBytes h), .int .i64 (headE h)]) := by
  refine pr_cw Tryz.func88 rfl Tryz.ntmps88 rfl (fun N => ?_)
  refine cw_seq (cw_region (ol rfl (lo_assign (v := str _) rfl) (oai rfl rfl (ow_nil (seqK_n ?_)))))
  refine cw_seq (cw_seq (cw_region (ol rfl (lo_move (v := .slice _ _ _) rfl) ?_)))
  refine ow1 (op1_pr (head_Check _ h_a h_l h_c h h_h (by first | omega | (simp <;> omega))) (en_f cb135 rfl) rfl ?_)
  refine oai rfl rfl (ow_nil (seqK_n (cw_seq (cw_region (omi rfl rfl ?_)))))
  refine ol rfl (lo_neq rfl rfl) (ow_nil (seqK_n (cw_cond rfl (fun h1 => ?_) (fun h1 => ?_))))
  · have h2 := not_t h1
    have p3 := df h2
    refine cw_seq (cw_region (omi rfl rfl (ol rfl (lo_assign (v := str _) rfl) (oai rfl rfl (ow_nil ?_)))))
    refine seqK_n (cw_ret (seqK_r (fnK_r (res2 rfl (rv_t (v := str _) rfl) (rv_t (v := .int _ _) rfl)) (.refl _) ?_)))
    unfold headBytes
    rw [if_neg (by omega)]
  have h4 := not_f h1
  have p5 := dt h4
  refine cw_skip (seqK_n (cw_seq (cw_region (ol rfl (lo_build (v := .agg #[_, _]) rfl (bd157)) (ol rfl (lo_move (v := .slice _ _ _) rfl) ?_)))))
  refine ol rfl (lo_len_slh rfl h_h Tryz.underlying40) (ol rfl (lo_conv_in rfl (by rw [Tryz.underlying3]; rfl) Tryz.underlying39 (rg_u64 (by omega))) ?_)
  refine ow1 (op1_pr (out_Num _ (⟨[], 0⟩ : Out) (h.length : Int) (by omega) 1 (by omega) (by first | omega | (have := hrl (by assumption); omega) | (simp [outNum, outRaw, numB_len, numK] <;> omega) | (have := hrl (by assumption); simp [outNum, outRaw, numB_len, numK] <;> omega))) (en_f cb90 rfl) rfl ?_)
  have nl0 : (⟨[], 0⟩ : Out).s.length = 0 := rfl
  have := outNum_len (⟨[], 0⟩ : Out) (h.length : Int) 1
  refine ow1 (op1_alloc 0 rfl zr157 (fun b6 => ?_))
  refine ow1 (op1_storeA (i := 0) (vs := [_, _]) rfl rfl rfl sz157 rfl rfl rfl ?_)
  refine ow_nil (seqK_n (cw_seq (cw_seq (cw_region (ol rfl (lo_move (v := .slice _ _ _) rfl) ?_)))))
  refine ol rfl (lo_len_slh rfl h_h Tryz.underlying40) (omi rfl rfl (ow_nil (seqK_n (cw_block ?_))))
  refine cw_loop2 [7, 20, 21, 22, 23, 24, 25, 26, 27, 28, 29, 30, 31, 32, 33, 34, 35, 36, 37, 38, 39, 40, 41, 42, 43, 44, 45, 46, 47, 48, 49, 50, 51, 52, 53, 54] [0, 1] (fun (k : Nat) (o : Out) G => upd (G) 20 (.int .i64 (k : Int))) (fun (k : Nat) (o : Out) G => lupd (G) 0 (some (b6, bx 157 (Out.cells o)))) (fun (k : Nat) (o : Out) H' => k ≤ h.length ∧ h.foldl pairOut (outNum ⟨[], 0⟩ h.length 1) = (h.drop k).foldl pairOut o ∧ o.s.length ≤ 8 + 110 * k) (fun (k : Nat) (o : Out) => h.length - k) 0 (outNum ⟨[], 0⟩ h.length 1) (upd_intro (mask_intro (by first | exact off_refl | (repeat (first | exact off_mask | refine off_upd rfl ?_ | refine off_mask2 rfl ?_)))) rfl) (lupd_intro (lmask_intro offl_refl) rfl) ?_ ?_
  · exact ⟨Nat.zero_le _, rfl, by simp at *; omega⟩
  intro k o J8 JL8 H8 hp7 hl8
  obtain ⟨hk1, hk2, hk3⟩ := hp7
  have hok := headE_ok (h := h) (by assumption)
  refine cw_seq (cw_region (ol rfl (lo_lss rfl rfl) (ow_nil (seqK_n (cw_seq ?_)))))
  refine cw_cond rfl (fun h9 => ?_) (fun h9 => ?_)
  · have p10 := dt h9
    refine cw_skip (seqK_n (cw_seq (cw_block (cw_seq (cw_region ?_)))))
    obtain ⟨c11, hc12⟩ := getE (xs := h) (m := k) (by omega)
    obtain ⟨cs13, hE14, at15⟩ := (h_h.mono ((HLe.refl _).trans hl8) (fun _ _ h => h)).get hc12
    obtain ⟨rfl, c11_w⟩ := hE14
    have c11_w' := c11_w
    simp only [Pair.wf] at c11_w'
    have hpk := hok.2 c11 (List.mem_of_getElem? hc12)
    refine ol rfl (lo_indexAddr rfl rfl (h_h.mono ((HLe.refl _).trans hl8) (fun _ _ h => h)).1 at15 Tryz.underlying40 sz182 (by omega) (by omega)) (ol rfl (lo_loadEA rfl ag182 sz182 at15) (ow1 (op1_alloc 1 rfl zr182 (fun b16 => ?_))))
    refine ow1 (op1_storeA (i := 1) (vs := [_, _, _, _]) rfl rfl rfl sz182 rfl rfl rfl ?_)
    refine ow_nil (seqK_n (cw_seq (cw_anyL mixd (vw_q 0 rfl (by kernel_rfl) (by repeat (first | exact lle_l0 | exact LLe.refl _ | exact lle_none | refine lle_up ?_ rfl)) (fun _ _ hh hl => lo_loadA (i := 0) (vs := [_, _]) rfl ag157 sz157 (hl _ _ rfl) rfl rfl) ?_))))
    refine vw_q 1 rfl (by kernel_rfl) (by repeat (first | exact lle_l0 | exact LLe.refl _ | exact lle_none | refine lle_up ?_ rfl)) (fun _ _ hh hl => lo_fieldAddr rfl fl182_0) ?_
    refine vw_q 2 rfl (by kernel_rfl) (by repeat (first | exact lle_l0 | exact LLe.refl _ | exact lle_none | refine lle_up ?_ rfl)) (fun _ _ hh hl => lo_load1 (i := 1) (v := str _) rfl ag9 (hl _ _ rfl) rfl) ?_
    have := outText_len o c11.key
    refine vw_qc 3 rfl (by kernel_rfl) (by repeat (first | exact lle_l0 | exact LLe.refl _ | exact lle_none | refine lle_up ?_ rfl)) (out_Text _ o c11.key (by first | omega | (have := hrl (by assumption); omega) | (simp [outNum, outRaw, numB_len, numK] <;> omega) | (have := hrl (by assumption); simp [outNum, outRaw, numB_len, numK] <;> omega))) (en_f cb87 rfl) ?_
    refine vw_q 4 rfl (by kernel_rfl) (by repeat (first | exact lle_l0 | exact LLe.refl _ | exact lle_none | refine lle_up ?_ rfl)) (fun _ _ hh hl => lo_fieldAddr rfl fl182_1) ?_
    refine vw_q 5 rfl (by kernel_rfl) (by repeat (first | exact lle_l0 | exact LLe.refl _ | exact lle_none | refine lle_up ?_ rfl)) (fun _ _ hh hl => lo_load1 (i := 1) (v := .int _ _) rfl ag5 (hl _ _ rfl) rfl) ?_
    refine vw_q 6 rfl (by kernel_rfl) (by repeat (first | exact lle_l0 | exact LLe.refl _ | exact lle_none | refine lle_up ?_ rfl)) (fun _ _ hh hl => lo_conv_in rfl (by rw [Tryz.underlying5]; rfl) Tryz.underlying39 (rg_u64 (by omega))) ?_
    have := outNum_len (outText o c11.key) c11.kind 1
    refine vw_qc 7 rfl (by kernel_rfl) (by repeat (first | exact lle_l0 | exact LLe.refl _ | exact lle_none | refine lle_up ?_ rfl)) (out_Num _ (outText o c11.key) c11.kind (by omega) 1 (by omega) (by first | omega | (have := hrl (by assumption); omega) | (simp [outNum, outRaw, numB_len, numK] <;> omega) | (have := hrl (by assumption); simp [outNum, outRaw, numB_len, numK] <;> omega))) (en_f cb90 rfl) ?_
    refine vw_t 8 rfl (by kernel_rfl) (by kernel_rfl) (op1_storeA (i := 0) (vs := [_, _]) rfl rfl rfl sz157 rfl rfl rfl ?_)
    refine vw_done (by kernel_rfl) (seqK_n (cw_seq (cw_region (ol rfl (lo_fieldAddr rfl fl182_1) (ol rfl (lo_load1 (i := 1) (v := .int _ _) rfl ag5 rfl rfl) ?_)))))
    refine ow_nil (seqK_n (cw_block (cw_seq (cw_region (ol rfl (lo_eql rfl rfl) ?_)))))
    refine oab rfl rfl (ow_nil (seqK_n (cw_cond rfl (fun h17 => ?_) (fun h17 => ?_))))
    · have p18 := dt h17
      refine cw_region (ol rfl (lo_loadA (i := 0) (vs := [_, _]) rfl ag157 sz157 rfl rfl rfl) (ol rfl (lo_fieldAddr rfl fl182_2) (ol rfl (lo_load1 (i := 1) (v := .int _ _) rfl ag2 rfl rfl) ?_)))
      have := wr_u64 c11.num
      refine ol rfl (lo_conv rfl (by rw [Tryz.underlying2]; rfl) Tryz.underlying39) ?_
      refine ow1 (op1_pr (out_Num _ (outNum (outText o c11.key) c11.kind 1) (IntKind.wrap .u64 c11.num) (by omega) 8 (by omega) (by first | omega | (have := hrl (by assumption); omega) | (simp [outNum, outRaw, numB_len, numK] <;> omega) | (have := hrl (by assumption); simp [outNum, outRaw, numB_len, numK] <;> omega))) (en_f cb90 rfl) rfl ?_)
      have := outNum_len (outNum (outText o c11.key) c11.kind 1) (IntKind.wrap .u64 c11.num) 8
      refine ow1 (op1_storeA (i := 0) (vs := [_, _]) rfl rfl rfl sz157 rfl rfl rfl ?_)
      refine ow_nil (blkK_n (blkK_n (seqK_n (cw_region (ol rfl (lo_add rfl rfl (rg_i64 (by omega))) ?_)))))
      refine omi rfl rfl (ow_nil ?_)
      refine next2 (k + 1) (outNum (outNum (outText o c11.key) c11.kind 1) (IntKind.wrap .u64 c11.num) 8) (upd_intro (mask_intro (by first | exact off_refl | (repeat (first | exact off_mask | refine off_upd rfl ?_ | refine off_mask2 rfl ?_)))) rfl) (lupd_intro (lmask_intro (by first | exact offl_refl | (repeat (first | exact offl_mask | refine offl_upd rfl ?_ | refine offl_mask2 rfl ?_)))) rfl) hl8 ?_ ?_
      · have e : (outNum (outNum (outText o c11.key) c11.kind 1) (IntKind.wrap .u64 c11.num) 8) = pairOut o c11 := by unfold pairOut; first | (rw [if_pos (by omega)]; done) | (rw [if_neg (by omega), if_pos (by omega)]; done) | (rw [if_neg (by omega), if_neg (by omega), if_pos (by omega)]; done) | (rw [if_neg (by omega), if_neg (by omega), if_neg (by omega)]; done)
        rw [e]
        have hlo := pairOut_len (o := o) (hok.2 c11 (List.mem_of_getElem? hc12))
        refine ⟨by omega, ?_, by omega⟩
        rw [hk2, dropE hc12, List.foldl_cons]
      omega
    have p19 := df h17
    refine cw_seq (cw_region (ol rfl (lo_eql rfl rfl) (oab rfl rfl (ow_nil (seqK_n ?_)))))
    refine cw_cond rfl (fun h20 => ?_) (fun h20 => ?_)
    · have p21 := dt h20
      refine cw_region (ol rfl (lo_loadA (i := 0) (vs := [_, _]) rfl ag157 sz157 rfl rfl rfl) (ol rfl (lo_fieldAddr rfl fl182_3) (ol rfl (lo_load1 (i := 1) (v := str _) rfl ag9 rfl rfl) ?_)))
      refine ow1 (op1_pr (out_Text _ (outNum (outText o c11.key) c11.kind 1) c11.text (by first | omega | (have := hrl (by assumption); omega) | (simp [outNum, outRaw, numB_len, numK] <;> omega) | (have := hrl (by assumption); simp [outNum, outRaw, numB_len, numK] <;> omega))) (en_f cb87 rfl) rfl ?_)
      have := outText_len (outNum (outText o c11.key) c11.kind 1) c11.text
      refine ow1 (op1_storeA (i := 0) (vs := [_, _]) rfl rfl rfl sz157 rfl rfl rfl ?_)
      refine ow_nil (blkK_n (blkK_n (seqK_n (cw_region (ol rfl (lo_add rfl rfl (rg_i64 (by omega))) ?_)))))
      refine omi rfl rfl (ow_nil ?_)
      refine next2 (k + 1) (outText (outNum (outText o c11.key) c11.kind 1) c11.text) (upd_intro (mask_intro (by first | exact off_refl | (repeat (first | exact off_mask | refine off_upd rfl ?_ | refine off_mask2 rfl ?_)))) rfl) (lupd_intro (lmask_intro (by first | exact offl_refl | (repeat (first | exact offl_mask | refine offl_upd rfl ?_ | refine offl_mask2 rfl ?_)))) rfl) hl8 ?_ ?_
      · have e : (outText (outNum (outText o c11.key) c11.kind 1) c11.text) = pairOut o c11 := by unfold pairOut; first | (rw [if_pos (by omega)]; done) | (rw [if_neg (by omega), if_pos (by omega)]; done) | (rw [if_neg (by omega), if_neg (by omega), if_pos (by omega)]; done) | (rw [if_neg (by omega), if_neg (by omega), if_neg (by omega)]; done)
        rw [e]
        have hlo := pairOut_len (o := o) (hok.2 c11 (List.mem_of_getElem? hc12))
        refine ⟨by omega, ?_, by omega⟩
        rw [hk2, dropE hc12, List.foldl_cons]
      omega
    have p22 := df h20
    refine cw_seq (cw_region (ol rfl (lo_eql rfl rfl) (oab rfl rfl (ow_nil (seqK_n ?_)))))
    refine cw_cond rfl (fun h23 => ?_) (fun h23 => ?_)
    · have p24 := dt h23
      refine cw_region (ol rfl (lo_loadA (i := 0) (vs := [_, _]) rfl ag157 sz157 rfl rfl rfl) (ol rfl (lo_fieldAddr rfl fl182_2) (ol rfl (lo_load1 (i := 1) (v := .int _ _) rfl ag2 rfl rfl) ?_)))
      have := wr_u64 c11.num
      refine ol rfl (lo_conv rfl (by rw [Tryz.underlying2]; rfl) Tryz.underlying39) ?_
      refine ow1 (op1_pr (out_Num _ (outNum (outText o c11.key) c11.kind 1) (IntKind.wrap .u64 c11.num) (by omega) 1 (by omega) (by first | omega | (have := hrl (by assumption); omega) | (simp [outNum, outRaw, numB_len, numK] <;> omega) | (have := hrl (by assumption); simp [outNum, outRaw, numB_len, numK] <;> omega))) (en_f cb90 rfl) rfl ?_)
      have := outNum_len (outNum (outText o c11.key) c11.kind 1) (IntKind.wrap .u64 c11.num) 1
      refine ow1 (op1_storeA (i := 0) (vs := [_, _]) rfl rfl rfl sz157 rfl rfl rfl ?_)
      refine ow_nil (blkK_n (blkK_n (seqK_n (cw_region (ol rfl (lo_add rfl rfl (rg_i64 (by omega))) ?_)))))
      refine omi rfl rfl (ow_nil ?_)
      refine next2 (k + 1) (outNum (outNum (outText o c11.key) c11.kind 1) (IntKind.wrap .u64 c11.num) 1) (upd_intro (mask_intro (by first | exact off_refl | (repeat (first | exact off_mask | refine off_upd rfl ?_ | refine off_mask2 rfl ?_)))) rfl) (lupd_intro (lmask_intro (by first | exact offl_refl | (repeat (first | exact offl_mask | refine offl_upd rfl ?_ | refine offl_mask2 rfl ?_)))) rfl) hl8 ?_ ?_
      · have e : (outNum (outNum (outText o c11.key) c11.kind 1) (IntKind.wrap .u64 c11.num) 1) = pairOut o c11 := by unfold pairOut; first | (rw [if_pos (by omega)]; done) | (rw [if_neg (by omega), if_pos (by omega)]; done) | (rw [if_neg (by omega), if_neg (by omega), if_pos (by omega)]; done) | (rw [if_neg (by omega), if_neg (by omega), if_neg (by omega)]; done)
        rw [e]
        have hlo := pairOut_len (o := o) (hok.2 c11 (List.mem_of_getElem? hc12))
        refine ⟨by omega, ?_, by omega⟩
        rw [hk2, dropE hc12, List.foldl_cons]
      omega
    have p25 := df h23
    refine cw_skip (blkK_n (blkK_n (seqK_n (cw_region (ol rfl (lo_add rfl rfl (rg_i64 (by omega))) ?_)))))
    refine omi rfl rfl (ow_nil ?_)
    refine next2 (k + 1) (outNum (outText o c11.key) c11.kind 1) (upd_intro (mask_intro (by first | exact off_refl | (repeat (first | exact off_mask | refine off_upd rfl ?_ | refine off_mask2 rfl ?_)))) rfl) (lupd_intro (lmask_intro (by first | exact offl_refl | (repeat (first | exact offl_mask | refine offl_upd rfl ?_ | refine offl_mask2 rfl ?_)))) rfl) hl8 ?_ ?_
    · have e : (outNum (outText o c11.key) c11.kind 1) = pairOut o c11 := by unfold pairOut; first | (rw [if_pos (by omega)]; done) | (rw [if_neg (by omega), if_pos (by omega)]; done) | (rw [if_neg (by omega), if_neg (by omega), if_pos (by omega)]; done) | (rw [if_neg (by omega), if_neg (by omega), if_neg (by omega)]; done)
      rw [e]
      have hlo := pairOut_len (o := o) (hok.2 c11 (List.mem_of_getElem? hc12))
      refine ⟨by omega, ?_, by omega⟩
      rw [hk2, dropE hc12, List.foldl_cons]
    omega
  have p26 := df h9
  refine cw_exit (seqK_e (loopK_e (blkK_hit (seqK_n (cw_seq ?_)))))
  refine cw_region (ol rfl (lo_loadA (i := 0) (vs := [_, _]) rfl ag157 sz157 rfl rfl rfl) ?_)
  refine ow1 (op1_pr (out_String _ o) (en_f cb91 rfl) rfl ?_)
  refine ol rfl (lo_assign (v := str _) rfl) (oai rfl rfl (ow_nil (seqK_n (cw_ret (fnK_r (res2 rfl (rv_t (v := str _) rfl) (rv_t (v := .int _ _) rfl)) ((HLe.refl _).trans hl8) ?_)))))
  unfold headBytes
  rw [if_pos (by assumption)]
  rw [List.drop_of_length_le (by omega), List.foldl_nil] at hk2
  rw [show headOut h = o from hk2]
  have e0 : headE h = 0 := by assumption
  rw [e0]
end Go.SW
set_option linter.unusedVariables false
set_option maxRecDepth 100000
set_option maxHeartbeats 4000000
namespace Go.SW
open Go.Proofs
theorem ag39 : Ag Tryz.prog 39 false := fun w => by kernel_rfl
theorem ag4 : Ag Tryz.prog 4 false := fun w => by kernel_rfl
theorem ag40 : Ag Tryz.prog 40 false := fun w => by kernel_rfl
theorem ag42 : Ag Tryz.prog 42 true := fun w => by kernel_rfl
theorem cb137 : Callable Tryz.prog 137 := callable_of Tryz.func137 (by kernel_rfl) (by kernel_rfl)
theorem fl42_0 : Fld Tryz.prog 42 0 0 := fun b o w => by kernel_rfl
theorem fl42_1 : Fld Tryz.prog 42 1 1 := fun b o w => by kernel_rfl
theorem fl42_2 : Fld Tryz.prog 42 2 2 := fun b o w => by kernel_rfl
theorem fl42_3 : Fld Tryz.prog 42 3 3 := fun b o w => by kernel_rfl
theorem fl42_4 : Fld Tryz.prog 42 4 4 := fun b o w => by kernel_rfl
theorem fl42_5 : Fld Tryz.prog 42 5 5 := fun b o w => by kernel_rfl
theorem fl42_6 : Fld Tryz.prog 42 6 6 := fun b o w => by kernel_rfl
theorem sz42 : Sz Tryz.prog 42 7 := fun w => by kernel_rfl
end Go.SW
set_option linter.unusedVariables false
set_option maxRecDepth 100000
set_option maxHeartbeats 4000000
namespace Go.SW
open Go.Proofs
end Go.SW
set_option linter.unusedVariables false
set_option maxRecDepth 100000
set_option maxHeartbeats 4000000
namespace Go.SW
open Go.Proofs
theorem zx9 : ∃ z, ∀ w, (zeroValue 9).run Tryz.prog w = .ok z w := ⟨str [], fun w => by kernel_rfl⟩
end Go.SW
set_option linter.unusedVariables false
set_option maxRecDepth 100000
set_option maxHeartbeats 4000000
namespace Go.SW
open Go.Proofs
theorem cb88 : Callable Tryz.prog 88 := callable_of Tryz.func88 (by kernel_rfl) (by kernel_rfl)
end Go.SW
set_option linter.unusedVariables false
set_option maxRecDepth 100000
set_option maxHeartbeats 4000000
namespace Go.SW
open Go.Proofs
theorem cb107 : Callable Tryz.prog 107 := callable_of Tryz.func107 (by kernel_rfl) (by kernel_rfl)
theorem cb48 : Callable Tryz.prog 48 := callable_of Tryz.func48 (by kernel_rfl) (by kernel_rfl)
end Go.SW
set_option linter.unusedVariables false
set_option maxRecDepth 100000
set_option maxHeartbeats 4000000
namespace Go.SW
open Go.Proofs
end Go.SW
