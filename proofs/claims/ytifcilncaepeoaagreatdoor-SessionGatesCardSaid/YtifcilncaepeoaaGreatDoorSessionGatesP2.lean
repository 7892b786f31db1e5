/-
  A part of the proof of SessionGates: Tables of types; quiet operations on what values stand for, computed. Over any program that the table fits; each asks what it lists. More quiet operations, computed: places, fields, conversions, lengths, structs. Over any program that the table fits; each asks what it lists. Code and operations over what frames stand for; runs of quiet steps, computed. Over any program that the table fits; each asks what it lists. Runs of quiet steps: one computation, proved once. Over any program that the table fits; it asks what it lists. Contracts over what values stand for; calls; what a function hands back; loops; branches. Over any program that the table fits; each asks what it lists. Branches, loops, blocks that are owned: made, turned, given to be read; elements of lists; appends. Over any program that the table fits; each asks what it lists. Lists that are owned: built, appended to, given to be read, lent. Over any program that the table fits; each asks what it lists. Regions whose order Go leaves open, over what frames stand for. Over any program that the table fits; each asks what it lists. More operations, with what they yield told: parts of texts and lists, elements, structs held against each other, bytes and texts. Over any program that the table fits; each asks what it lists. Sums and conversions that stay in their range; methods that turn a block. Over any program that the table fits; each asks what it lists. A block that is only read from now on; lists searched by a function. Over any program that the table fits; each asks what it lists. A guarded call that reads a block which is owned. Over any program; each asks what it lists. What the functions of the layers 1 to 9 compute, in plain Lean: names, keys, bytes that are written and read. What the functions of the layers 4 and 9 compute, in plain Lean: words and keys, heads. What the functions of layer 9 compute, in plain Lean: heads. What the functions of the layers 9 and 12 compute, in plain Lean: heads' bytes, replies. What the functions of the layers 2, 7 and 8 compute, in plain Lean: the sum over bytes, frames, feeds. Tables that are package variables. Over any program; each asks what it lists. Functions that hand back a list of their own. Over any program; each asks what it lists. The greatest of many. Over any program; each asks what it lists. A guarded call in a region that draws. Over any program; each asks what it lists. Guards that are known. Over any program; each asks what it lists. Lists of nothing that get room: their length, what they can hold, zeros behind them, a list cut to nothing. Over any program that the table fits; each asks what it lists. Functions that take a list of their own, and hand it back, longer maybe. Over any program; each asks what it lists.
-/
import Derived.Test.YtifcilncaepeoaaGreatDoorSessionGatesP1
import Derived.Lib.SplitLaws
set_option linter.unusedVariables false
set_option linter.unusedSimpArgs false
namespace Go.SW
variable {P : Program} {n : Nat} {N : Rest} {F : Fr} {H : Hp} {L : Ls}
/-! The table of the types -/
inductive TK where
  | int (k : IntKind)
  | str
  | bool
  | agg (fs : List (Nat × Nat))
  | slc (e : TypeId)
  | arr
  | oth
structure TI where
  k : TK
  size : Nat
  bytes : Nat
  zero : List PV
abbrev Tb := List (TypeId × TI)
def nth {α : Type _} : List α → Nat → Option α
  | [], _ => none
  | a :: _, 0 => some a
  | _ :: r, i + 1 => nth r i
theorem nth_eq {α : Type _} : ∀ (l : List α) (i : Nat), nth l i = l[i]?
  | [], _ => by simp [nth]
  | a :: _, 0 => by simp [nth]
  | _ :: r, i + 1 => by simp [nth, nth_eq r i]
def lkT : Tb → TypeId → Option TI
  | [], _ => none
  | (a, x) :: r, t => bif Nat.beq t a then some x else lkT r t
def zm1 : PV → Value → Bool
  | .int k z, .int k' z' => decide (k = k') && decide (z = z') && decide (k.min ≤ z) && decide (z ≤ k.max)
  | .bool b, .bool b' => b == b'
  | .str [], .string s => decide (s.data.toList = [])
  | .sl _ [], .slice none 0 0 => true
  | .val (.pointer none), .pointer none => true
  | .val .nilFunc, .nilFunc => true
  | .val .nilIface, .nilIface => true
  | .val (.map none), .map none => true
  | .val (.slice none 0 0), .slice none 0 0 => true
  | _, _ => false
def zmatch : List PV → List Value → Bool
  | [], [] => true
  | p :: ps, v :: vs => zm1 p v && zmatch ps vs
  | _, _ => false
def kB (P : Program) (t : TypeId) : TK → Bool
  | .int k => match P.underlying t with | some (.int k') => decide (k = k') | _ => false
  | .str => match P.underlying t with | some .string => true | _ => false
  | .bool => match P.underlying t with | some .bool => true | _ => false
  | .slc e => match P.underlying t with | some (.slice e') => Nat.beq e e' | _ => false
  | .agg fs => match P.underlying t with | some (.struct fields) => decide (fields.toList.map (fun f => (f.offset, P.cellsOf f.type)) = fs) && fields.toList.all (fun f => (P.info? f.type).isSome) | _ => false
  | .arr => match P.underlying t with | some (.array _ _) => true | _ => false
  | .oth => match P.underlying t with | some (.struct _) => false | some (.array _ _) => false | some _ => true | none => false
def tiB (P : Program) (t : TypeId) (ti : TI) : Bool :=
  (match P.info? t with
  | some i => Nat.beq i.size ti.size && Nat.beq i.bytes ti.bytes && (match i.zero with | some zv => zmatch ti.zero zv.cells.toList | none => false)
  | none => false) && kB P t ti.k
def tbB (P : Program) (tb : Tb) : Bool := tb.all fun x => tiB P x.1 x.2
theorem lkT_ok {tb : Tb} (h : tbB P tb = true) {t : TypeId} {ti : TI} (hl : lkT tb t = some ti) : tiB P t ti = true := by
  induction tb with
  | nil => simp [lkT] at hl
  | cons x r ih =>
    obtain ⟨a, y⟩ := x
    simp only [tbB, List.all_cons, Bool.and_eq_true] at h
    simp only [lkT] at hl
    cases e : Nat.beq t a with
    | true => rw [e] at hl; simp at hl; subst hl; rw [Nat.eq_of_beq_eq_true e]; exact h.1
    | false => rw [e] at hl; exact ih (by simpa [tbB] using h.2) (by simpa using hl)
theorem zm1_ok {p : PV} {v : Value} (h : zm1 p v = true) : Sim H p v := by
  unfold zm1 at h
  split at h
  · simp only [Bool.and_eq_true, decide_eq_true_eq] at h; obtain ⟨⟨⟨rfl, rfl⟩, h1⟩, h2⟩ := h; exact .int h1 h2
  · have e := eq_of_beq h; subst e; exact .bool
  · rename_i s
    have e : s = ⟨([] : Bs).toArray⟩ := by
      have := of_decide_eq_true h
      cases s with | mk d => congr; exact Array.ext' (by simpa using this)
    subst e
    exact .str (by simp)
  · exact Sim.of_slh (k := 0) slh_nil (by simp)
  · exact .val
  · exact .val
  · exact .val
  · exact .val
  · exact .val
  · cases h
theorem zmatch_ok : ∀ {ps : List PV} {vs : List Value}, zmatch ps vs = true → Sims H ps vs
  | [], [], _ => Sims.nil
  | p :: ps, v :: vs, h => by
    simp only [zmatch, Bool.and_eq_true] at h
    exact (zmatch_ok h.2).cons (zm1_ok h.1)
  | [], _ :: _, h => by simp [zmatch] at h
  | _ :: _, [], h => by simp [zmatch] at h
structure TIOk (P : Program) (t : TypeId) (ti : TI) : Prop where
  sz : Sz P t ti.size
  by_ : By P t ti.bytes
  cells : P.cellsOf t = ti.size
  zero : ∃ zv : Value, (∀ w, (zeroValue t).run P w = .ok zv w) ∧ ∀ H, Sims H ti.zero zv.cells.toList
  k : kB P t ti.k = true
theorem ti_ok {tb : Tb} (h : tbB P tb = true) {t : TypeId} {ti : TI} (hl : lkT tb t = some ti) : TIOk P t ti := by
  have h := lkT_ok h hl
  simp only [tiB, Bool.and_eq_true] at h
  obtain ⟨h1, h2⟩ := h
  split at h1
  · rename_i i hi
    simp only [Bool.and_eq_true] at h1
    obtain ⟨⟨a1, a2⟩, a3⟩ := h1
    have b1 := Nat.eq_of_beq_eq_true a1
    have b2 := Nat.eq_of_beq_eq_true a2
    split at a3
    · rename_i zv hz
      exact ⟨fun w => by simp [sizeOf, typeInfo, hi, b1], fun w => ⟨i, by simp [typeInfo, hi], b2⟩, by simp [Program.cellsOf, hi, b1], ⟨zv, fun w => by simp [zeroValue, typeInfo, hi, hz], fun H => zmatch_ok a3⟩, h2⟩
    · cases a3
  · cases h1
theorem TIOk.int {t : TypeId} {ti : TI} (h : TIOk P t ti) {k : IntKind} (e : ti.k = .int k) : P.underlying t = some (.int k) := by
  have := h.k; rw [e] at this; simp only [kB] at this; split at this
  · rename_i hu; rw [hu, of_decide_eq_true this]
  · cases this
theorem TIOk.str {t : TypeId} {ti : TI} (h : TIOk P t ti) (e : ti.k = .str) : P.underlying t = some .string := by
  have := h.k; rw [e] at this; simp only [kB] at this; split at this
  · assumption
  · cases this
theorem TIOk.bool {t : TypeId} {ti : TI} (h : TIOk P t ti) (e : ti.k = .bool) : P.underlying t = some .bool := by
  have := h.k; rw [e] at this; simp only [kB] at this; split at this
  · assumption
  · cases this
theorem TIOk.slc {t : TypeId} {ti : TI} (h : TIOk P t ti) {q : TypeId} (e : ti.k = .slc q) : P.underlying t = some (.slice q) := by
  have := h.k; rw [e] at this; simp only [kB] at this; split at this
  · rename_i hu; rw [hu, Nat.eq_of_beq_eq_true this]
  · cases this
theorem TIOk.agg {t : TypeId} {ti : TI} (h : TIOk P t ti) {fs : List (Nat × Nat)} (e : ti.k = .agg fs) : ∃ fields, P.underlying t = some (.struct fields) ∧ fields.toList.map (fun f => (f.offset, P.cellsOf f.type)) = fs ∧ ∀ f ∈ fields.toList, ∃ i, P.info? f.type = some i := by
  have := h.k; rw [e] at this; simp only [kB] at this; split at this
  · rename_i fields hu
    simp only [Bool.and_eq_true, decide_eq_true_eq, List.all_eq_true] at this
    exact ⟨fields, hu, this.1, fun f hf => Option.isSome_iff_exists.1 (this.2 f hf)⟩
  · cases this
def TK.isAgg : TK → Bool
  | .agg _ => true
  | .arr => true
  | _ => false
theorem TIOk.ag {t : TypeId} {ti : TI} (h : TIOk P t ti) : Ag P t ti.k.isAgg := fun w => by
  cases e : ti.k with
  | int k => simp [Go.isAgg, run_underlying (h.int e), TK.isAgg]
  | str => simp [Go.isAgg, run_underlying (h.str e), TK.isAgg]
  | bool => simp [Go.isAgg, run_underlying (h.bool e), TK.isAgg]
  | slc q => simp [Go.isAgg, run_underlying (h.slc e), TK.isAgg]
  | agg fs => obtain ⟨fields, hu, _⟩ := h.agg e; simp [Go.isAgg, run_underlying hu, TK.isAgg]
  | arr =>
    have := h.k; rw [e] at this; simp only [kB] at this; split at this
    · rename_i hu; simp [Go.isAgg, run_underlying hu, TK.isAgg]
    · cases this
  | oth =>
    have := h.k; rw [e] at this; simp only [kB] at this
    simp only [TK.isAgg]
    split at this
    · cases this
    · cases this
    · rename_i d h1 h2 hu
      cases d <;> first | (exact absurd rfl (h1 _)) | (exact absurd rfl (h2 _ _)) | simp [Go.isAgg, run_underlying hu]
    · cases this
/-! Operands -/
def frcB {α : Type _} : Bs → (Bs → α) → α
  | [], c => c []
  | b :: r, c => frcB r fun r => c (b :: r)
theorem frcB_eq {α : Type _} : ∀ (l : Bs) (c : Bs → α), frcB l c = c l
  | [], c => rfl
  | b :: r, c => by simp only [frcB, frcB_eq r]
def cst : Value → PV
  | .int k z => bif decide (k.min ≤ z) && decide (z ≤ k.max) then .int k z else .val (.int k z)
  | .bool b => .bool b
  | .string s => bif Nat.ble s.data.toList.length 9223372036854775807 then frcB s.data.toList .str else .val (.string s)
  | v => .val v
theorem cst_ok (v : Value) : Sim H (cst v) v := by
  unfold cst
  split
  · rename_i k z
    cases e : decide (k.min ≤ z) && decide (z ≤ k.max) with
    | false => exact .val
    | true => simp only [Bool.and_eq_true, decide_eq_true_eq] at e; exact .int e.1 e.2
  · exact .bool
  · rename_i s
    cases e : Nat.ble s.data.toList.length 9223372036854775807 with
    | false => exact .val
    | true =>
      simp only [cond_true, frcB_eq]
      have := Sim.str (H := H) (Nat.le_of_ble_eq_true e)
      rw [← str_of] at this
      exact this
  · exact .val
theorem cst_noOsl (v : Value) : (cst v).noOsl = true := by
  unfold cst
  split
  · rename_i k z; cases decide (k.min ≤ z) && decide (z ≤ k.max) <;> rfl
  · rfl
  · rename_i s; cases Nat.ble s.data.toList.length 9223372036854775807 <;> simp [frcB_eq, PV.noOsl]
  · rfl
def evP (F : Nat → PV) : Operand → PV
  | .tmp t => F t
  | .const v => cst v
  | .global g => .val (.pointer (some ⟨g, 0, none⟩))
  | .func f => .fn f [] []
def evPs (F : Nat → PV) : List Operand → List PV
  | [] => []
  | x :: r => evP F x :: evPs F r
abbrev Ok1 (Ls : Nat → Blk) (H : Hp) (G : Nat → PV) (F : Fr) (x : Operand) : Prop := SimT Ls H (evP G x) (ev F x)
theorem evP_ok {Ls : Nat → Blk} {G : Nat → PV} (h : ∀ t, SimT Ls H (G t) (F t)) (x : Operand) : Ok1 Ls H G F x := by
  cases x with
  | tmp t => exact h t
  | const v => exact (cst_ok v).simT (cst_noOsl v)
  | «global» g => exact Sim.val
  | func f => exact Sim.toFn Sims.nil Sims.nil
theorem evPs_ok {Ls : Nat → Blk} {G : Nat → PV} : ∀ {xs : List Operand}, (∀ x ∈ xs, Ok1 Ls H G F x) → SimTs Ls H (evPs G xs) (evs F xs)
  | [], _ => ⟨rfl, fun i p v h => by simp [evPs] at h⟩
  | x :: r, h => by
    have ih := evPs_ok (xs := r) fun y hy => h y (List.mem_cons_of_mem _ hy)
    refine ⟨by simp [evPs, evs, ih.1], fun i p v hp hv => ?_⟩
    cases i with
    | zero => simp [evPs, evs] at hp hv; subst hp; subst hv; exact h x List.mem_cons_self
    | succ i => exact ih.2 i p v (by simpa [evPs] using hp) (by simpa [evs] using hv)
/-! What an operation yields: the value, what is asked, the owned block that is looked at -/
structure PR where
  v : PV
  ps : List Prop
  lk : Option (Nat × Nat × Nat)
def AllP : List Prop → Prop
  | [] => True
  | p :: r => p ∧ AllP r
/-- An operation yields what the value stands for, in all later worlds. -/
def Yl (P : Program) (N : Rest) (sL : Nat → Blk) (op : Op) (ty : TypeId) (F : Fr) (H : Hp) (L : Ls) (r : PR) : Prop :=
  ∃ val, SimT sL H r.v val ∧ ∀ H' L', HLe H H' → (∀ x, r.lk = some x → L' x.1 = L x.1) → Lo P N op ty F H' L' val
abbrev PR.q (v : PV) : PR := ⟨v, [], none⟩
theorem wrap_r (k : IntKind) (z : Int) : k.min ≤ k.wrap z ∧ k.wrap z ≤ k.max := by
  cases k <;> simp [IntKind.wrap, IntKind.min, IntKind.max, IntKind.bits, IntKind.signed] <;> omega
variable {sL : Nat → Blk} {G : Nat → PV} {ty : TypeId}
theorem y_move {x : Operand} (h : Ok1 sL H G F x) : Yl P N sL (.move x) ty F H L (.q (evP G x)) := ⟨_, h, fun _ _ _ _ => lo_move rfl⟩
theorem y_assign {x : Operand} (h : Ok1 sL H G F x) : Yl P N sL (.assign x) ty F H L (.q (evP G x)) := ⟨_, h, fun _ _ _ _ => lo_assign rfl⟩
/-! Picks -/
def pPick (c a b : PV) : Option PR :=
  match a with
  | .gv c1 q => match c, q, b with
    | .bool p, .bool q', .bool b' => some ⟨.bool (p && q'), [c1 = p, b' = false], none⟩
    | _, _, _ => none
  | a => match b with
    | .gv c1 q => match c, q, a with
      | .bool p, .bool q', .bool a' => some ⟨.bool (p || q'), [c1 = !p, a' = true], none⟩
      | _, _, _ => none
    | b => match c with
      | .bool p => match p with
        | true => some (.q a)
        | false => some (.q b)
      | _ => none
theorem lo_pick {x y z : Operand} {p : Bool} {v : Value} (hx : ev F x = .bool p) (hv : v = bif p then ev F y else ev F z) : Lo P N (.pick x y z) ty F H L v := fun _ _ _ _ w _ => by
  subst hv; cases p <;> simp [execOp, hx, asBool]
theorem y_pick {x y z : Operand} {r : PR} (hx : Ok1 sL H G F x) (hy : Ok1 sL H G F y) (hz : Ok1 sL H G F z) (h : pPick (evP G x) (evP G y) (evP G z) = some r) (hp : AllP r.ps) : Yl P N sL (.pick x y z) ty F H L r := by
  unfold Ok1 at hx hy hz
  generalize evP G x = c at *
  generalize evP G y = a at *
  generalize evP G z = b at *
  unfold pPick at h
  split at h
  · rename_i c1 q
    split at h
    · rename_i p q' b'
      cases h
      obtain ⟨e1, e2, _⟩ := hp
      subst e1; subst e2
      have ex := Sim.inv_bool (hx.sim)
      have ez := Sim.inv_bool (hz.sim)
      refine ⟨.bool (c1 && q'), Sim.bool, fun _ _ _ _ => lo_pick ex ?_⟩
      rcases Sim.inv_gv hy.sim with ⟨rfl, h1⟩ | ⟨rfl, h1⟩
      · simp [Sim.inv_bool h1]
      · simp [ez]
    · cases h
  · split at h
    · rename_i c1 q
      split at h
      · rename_i p q' a' _
        cases h
        obtain ⟨e1, e2, _⟩ := hp
        subst e1; subst e2
        have ex := Sim.inv_bool (hx.sim)
        have ey := Sim.inv_bool (hy.sim)
        refine ⟨.bool (p || q'), Sim.bool, fun _ _ _ _ => lo_pick ex ?_⟩
        rcases Sim.inv_gv hz.sim with ⟨e, h1⟩ | ⟨e, h1⟩
        · cases p <;> simp_all [Sim.inv_bool h1]
        · cases p <;> simp_all
      · cases h
    · split at h
      · split at h
        · cases h; exact ⟨_, hy, fun _ _ _ _ => lo_pick (Sim.inv_bool hx.sim) rfl⟩
        · cases h; exact ⟨_, hz, fun _ _ _ _ => lo_pick (Sim.inv_bool hx.sim) rfl⟩
      · cases h
/-! Numbers, texts, truth values -/
def pCmp : BinOp → Int → Int → Option Bool
  | .eql, x, y => some (decide (x = y))
  | .neq, x, y => some (!decide (x = y))
  | .lss, x, y => some (decide (x < y))
  | .leq, x, y => some (decide (x ≤ y))
  | .gtr, x, y => some (decide (y < x))
  | .geq, x, y => some (decide (y ≤ x))
  | _, _, _ => none
/-- Where a sum lies: asked of what has a sign, wrapped elsewhere. -/
def pSum : IntKind → Int → Option PR
  | .i64, z => some ⟨.int .i64 z, [-9223372036854775808 ≤ z ∧ z ≤ 9223372036854775807], none⟩
  | .i32, z => some ⟨.int .i32 z, [-2147483648 ≤ z ∧ z ≤ 2147483647], none⟩
  | .u8, z => some (.q (.int .u8 (IntKind.wrap .u8 z)))
  | .u16, z => some (.q (.int .u16 (IntKind.wrap .u16 z)))
  | .u32, z => some (.q (.int .u32 (IntKind.wrap .u32 z)))
  | .u64, z => some (.q (.int .u64 (IntKind.wrap .u64 z)))
  | _, _ => none
def IntKind.uns : IntKind → Bool
  | .u8 => true
  | .u16 => true
  | .u32 => true
  | .u64 => true
  | _ => false
def pInt (op : BinOp) (k : IntKind) (x y : Int) : Option PR :=
  match op with
  | .add => pSum k (x + y)
  | .sub => pSum k (x - y)
  | .mul => pSum k (x * y)
  | .quo => some ⟨.int k (x / y), [0 ≤ x, 0 < y], none⟩
  | .rem => some ⟨.int k (x % y), [0 ≤ x, 0 < y], none⟩
  | .or => some (.q (.int k (k.wrap ((BitVec.ofInt k.bits x ||| BitVec.ofInt k.bits y).toNat))))
  | .and => some (.q (.int k (k.wrap ((BitVec.ofInt k.bits x &&& BitVec.ofInt k.bits y).toNat))))
  | .xor => some (.q (.int k (k.wrap ((BitVec.ofInt k.bits x ^^^ BitVec.ofInt k.bits y).toNat))))
  | op => match pCmp op x y with
    | some b => some (.q (.bool b))
    | none => none
def kEq (k k' : IntKind) : Bool := decide (k = k')
def pBin (tb : Tb) (op : BinOp) (T : TypeId) (a b : PV) : Option PR :=
  match a with
  | .int k x => match b with
    | .int k' y => match op with
      | .shl => some ⟨.int k (k.wrap (x * 2 ^ (min y.toNat k.bits))), [0 ≤ y], none⟩
      | .shr => match IntKind.uns k with
        | true => some ⟨.int k (x.fdiv (2 ^ (min y.toNat k.bits))), [0 ≤ y], none⟩
        | false => none
      | op => match kEq k k' with
        | true => pInt op k x y
        | false => none
    | _ => none
  | .str s => match b with
    | .str t => match op with
      | .add => some ⟨.str (s ++ t), [s.length + t.length ≤ 9223372036854775807], none⟩
      | .eql => some (.q (.bool (decide (s = t))))
      | .neq => some (.q (.bool (!decide (s = t))))
      | .lss => some (.q (.bool (Op.bytesLess s t)))
      | _ => none
    | _ => none
  | .bool p => match b with
    | .bool q => match lkT tb T with
      | some ti => match ti.k with
        | .bool => match op with
          | .eql => some (.q (.bool (p == q)))
          | .neq => some (.q (.bool (!(p == q))))
          | _ => none
        | _ => none
      | none => none
    | _ => none
  | _ => none
theorem y_of {op : Op} {p : PV} {v : Value} (hs : SimT sL H p v) (h : ∀ H' L', Lo P N op ty F H' L' v) : Yl P N sL op ty F H L (.q p) := ⟨v, hs, fun H' L' _ _ => h H' L'⟩
theorem y_sum {k : IntKind} {z : Int} {op : Op} {r : PR} (h : pSum k z = some r) (hp : AllP r.ps) (hw : ∀ H' L', Lo P N op ty F H' L' (.int k (k.wrap z))) : Yl P N sL op ty F H L r := by
  have hr := wrap_r k z
  unfold pSum at h
  split at h <;> first | cases h | skip
  · have e : IntKind.wrap .i64 z = z := wrap_in (k := .i64) hp.1
    rw [e] at hr hw
    exact ⟨_, Sim.int hr.1 hr.2, fun H' L' _ _ => hw H' L'⟩
  · have e : IntKind.wrap .i32 z = z := wrap_in (k := .i32) hp.1
    rw [e] at hr hw
    exact ⟨_, Sim.int hr.1 hr.2, fun H' L' _ _ => hw H' L'⟩
  all_goals exact ⟨_, Sim.int hr.1 hr.2, fun H' L' _ _ => hw H' L'⟩
theorem ediv_in {k : IntKind} {x y : Int} (h0 : 0 ≤ x) (hm : x ≤ k.max) (hy : 0 < y) : k.min ≤ x / y ∧ x / y ≤ k.max := by
  have h1 : 0 ≤ x / y := Int.ediv_nonneg h0 (Int.le_of_lt hy)
  have h2 : x / y ≤ x := Int.ediv_le_self _ h0
  have h3 : k.min ≤ 0 := by cases k <;> decide
  omega
theorem emod_in {k : IntKind} {x y : Int} (h0 : 0 ≤ x) (hm : x ≤ k.max) (hy : 0 < y) : k.min ≤ x % y ∧ x % y ≤ k.max := by
  have h1 : 0 ≤ x % y := Int.emod_nonneg _ (by omega)
  have h2 : x % y ≤ x := by
    have e := Int.mul_ediv_add_emod x y
    have := Int.mul_nonneg (Int.le_of_lt hy) (Int.ediv_nonneg h0 (Int.le_of_lt hy))
    omega
  have h3 : k.min ≤ 0 := by cases k <;> decide
  omega
theorem uns_min {k : IntKind} (h : IntKind.uns k = true) : k.min = 0 := by cases k <;> first | rfl | (simp [IntKind.uns] at h)
theorem fdiv_in {k : IntKind} {x : Int} {m : Nat} (hu : IntKind.uns k = true) (h0 : k.min ≤ x) (hm : x ≤ k.max) : k.min ≤ x.fdiv (2 ^ m) ∧ x.fdiv (2 ^ m) ≤ k.max := by
  rw [uns_min hu] at *
  have hp : (0 : Int) < 2 ^ m := Int.pow_pos (by decide)
  rw [Int.fdiv_eq_ediv_of_nonneg _ (Int.le_of_lt hp)]
  exact ⟨Int.ediv_nonneg h0 (Int.le_of_lt hp), Int.le_trans (Int.ediv_le_self _ h0) hm⟩
theorem y_bin {tb : Tb} {op : BinOp} {T T' : TypeId} {x y : Operand} {r : PR} (ht : tbB P tb = true) (hx : Ok1 sL H G F x) (hy : Ok1 sL H G F y) (h : pBin tb op T (evP G x) (evP G y) = some r) (hp : AllP r.ps) : Yl P N sL (.binOp op T x y T') ty F H L r := by
  unfold Ok1 at hx hy
  generalize evP G x = a at *
  generalize evP G y = b at *
  have hx := hx.sim
  have hy := hy.sim
  unfold pBin at h
  split at h
  · split at h
    · rename_i k z _ k' u
      obtain ⟨ex, x1, x2⟩ := hx.inv_int
      obtain ⟨ey, y1, y2⟩ := hy.inv_int
      split at h
      · cases h; exact ⟨_, Sim.int (wrap_r _ _).1 (wrap_r _ _).2, fun H' L' _ _ => lo_shl ex ey hp.1⟩
      · split at h
        · rename_i hu; cases h; exact ⟨_, Sim.int (fdiv_in hu x1 x2).1 (fdiv_in hu x1 x2).2, fun H' L' _ _ => lo_shr ex ey hp.1⟩
        · cases h
      · split at h
        · rename_i hk
          have hk := of_decide_eq_true hk
          subst hk
          unfold pInt at h
          split at h
          · exact y_sum h hp fun _ _ => lo_add_w ex ey
          · exact y_sum h hp fun _ _ => lo_sub_w ex ey
          · exact y_sum h hp fun _ _ => lo_mul_w ex ey
          · cases h; obtain ⟨h0, h1, _⟩ := hp; exact ⟨_, Sim.int (ediv_in h0 x2 h1).1 (ediv_in h0 x2 h1).2, fun H' L' _ _ => lo_quo ex ey h0 x2 h1⟩
          · cases h; obtain ⟨h0, h1, _⟩ := hp; exact ⟨_, Sim.int (emod_in h0 x2 h1).1 (emod_in h0 x2 h1).2, fun H' L' _ _ => lo_rem ex ey h0 h1⟩
          · cases h; exact y_of (Sim.int (wrap_r _ _).1 (wrap_r _ _).2) fun _ _ => lo_or ex ey
          · cases h; exact y_of (Sim.int (wrap_r _ _).1 (wrap_r _ _).2) fun _ _ => lo_and ex ey
          · cases h; exact y_of (Sim.int (wrap_r _ _).1 (wrap_r _ _).2) fun _ _ => lo_xor ex ey
          · split at h
            · rename_i hb
              cases h
              unfold pCmp at hb
              split at hb <;> first | cases hb | skip
              · exact y_of Sim.bool fun _ _ => lo_eql ex ey
              · exact y_of Sim.bool fun _ _ => lo_neq ex ey
              · exact y_of Sim.bool fun _ _ => lo_lss ex ey
              · exact y_of Sim.bool fun _ _ => lo_leq ex ey
              · exact y_of Sim.bool fun _ _ => lo_gtr ex ey
              · exact y_of Sim.bool fun _ _ => lo_geq ex ey
            · cases h
        · cases h
    · cases h
  · split at h
    · obtain ⟨ex, x1⟩ := hx.inv_str
      obtain ⟨ey, y1⟩ := hy.inv_str
      split at h <;> first | cases h | skip
      · exact ⟨_, Sim.str (by simpa using hp.1), fun _ _ _ _ => lo_cat ex ey hp.1⟩
      · exact y_of Sim.bool fun _ _ => lo_seql ex ey
      · exact y_of Sim.bool fun _ _ => lo_sneq ex ey
      · exact y_of Sim.bool fun _ _ => lo_slss ex ey
    · cases h
  · split at h
    · have ex := hx.inv_bool
      have ey := hy.inv_bool
      split at h
      · rename_i ti hti
        split at h
        · rename_i hk
          have hu := (ti_ok ht hti).bool hk
          split at h <;> first | cases h | skip
          · exact y_of Sim.bool fun _ _ => lo_beql ex ey hu
          · exact y_of Sim.bool fun _ _ => lo_bneq ex ey hu
        · cases h
      · cases h
    · cases h
  · cases h
end Go.SW
namespace Go.SW
variable {P : Program} {n : Nat} {N : Rest} {F : Fr} {H : Hp} {L : Ls} {sL : Nat → Blk} {G : Nat → PV} {ty : TypeId}
def pUn (op : UnOp) (a : PV) : Option PR :=
  match op with
  | .not => match a with
    | .bool p => some (.q (.bool (!p)))
    | _ => none
  | .xor => match a with
    | .int k x => match IntKind.uns k with
      | true => some (.q (.int k (k.wrap ((BitVec.ofInt k.bits k.max ^^^ BitVec.ofInt k.bits x).toNat))))
      | false => none
    | _ => none
  | _ => none
theorem y_un {op : UnOp} {T : TypeId} {x : Operand} {r : PR} (hx : Ok1 sL H G F x) (h : pUn op (evP G x) = some r) : Yl P N sL (.unOp op T x) ty F H L r := by
  unfold Ok1 at hx
  generalize evP G x = a at *
  replace hx := hx.sim
  unfold pUn at h
  split at h
  · split at h
    · cases h; exact y_of Sim.bool fun _ _ => lo_not hx.inv_bool
    · cases h
  · split at h
    · split at h
      · rename_i hu
        cases h
        have hs : ∀ k : IntKind, IntKind.uns k = true → k.signed = false := fun k => by cases k <;> simp [IntKind.uns, IntKind.signed]
        exact y_of (Sim.int (wrap_r _ _).1 (wrap_r _ _).2) fun _ _ => lo_com hx.inv_int.1 (hs _ hu)
      · cases h
    · cases h
  · cases h
/-! Places -/
def fOff (tb : Tb) (T : TypeId) (f : Nat) : Option Nat :=
  match lkT tb T with
  | some ti => match ti.k with
    | .agg fs => match nth fs f with
      | some (o, z) => match z with
        | 0 => none
        | _ + 1 => some o
      | none => none
    | _ => none
  | none => none
theorem fOff_ok {tb : Tb} (ht : tbB P tb = true) {T f o : Nat} (h : fOff tb T f = some o) : Fld P T f o := by
  unfold fOff at h
  split at h
  · rename_i ti hti
    split at h
    · rename_i fs hk
      split at h
      · rename_i o' z hn
        split at h
        · cases h
        · rename_i m
          cases h
          obtain ⟨fields, hu, hm, hi⟩ := (ti_ok ht hti).agg hk
          rw [nth_eq, ← hm, List.getElem?_map] at hn
          cases hf : fields.toList[f]? with
          | none => rw [hf] at hn; cases hn
          | some fd =>
            rw [hf] at hn
            simp only [Option.map_some, Option.some.injEq, Prod.mk.injEq] at hn
            obtain ⟨h1, h2⟩ := hn
            have hmem : fd ∈ fields.toList := List.mem_of_getElem? hf
            obtain ⟨i, hi⟩ := hi fd hmem
            have hfa : fields[f]? = some fd := by simpa using hf
            intro b off w
            have hsz : i.size ≠ 0 := by simp [Program.cellsOf, hi] at h2; omega
            simp [Instr.fieldAt, run_underlying hu, hfa, Instr.sureAddr, fieldPlace, sizeOf, typeInfo, hi, hsz, add_none, h1]
      · cases h
    · cases h
  · cases h
def pFA (tb : Tb) (T : TypeId) (a : PV) (f : Nat) : Option PR :=
  match fOff tb T f with
  | some o => match a with
    | .own i b off => some (.q (.own i b (off + o)))
    | .el row off => some (.q (.el row (off + o)))
    | _ => none
  | none => none
theorem y_fa {tb : Tb} {T f : Nat} {x : Operand} {r : PR} (ht : tbB P tb = true) (hx : Ok1 sL H G F x) (h : pFA tb T (evP G x) f = some r) : Yl P N sL (.fieldAddr T x f) ty F H L r := by
  unfold Ok1 at hx
  generalize evP G x = a at *
  replace hx := hx.sim
  unfold pFA at h
  split at h
  · rename_i o ho
    have hf := fOff_ok ht ho
    split at h
    · cases h; exact y_of Sim.own fun _ _ => lo_fieldAddr hx.inv_own hf
    · cases h
      obtain ⟨u, k, m, cs, e, h1, h2, h3⟩ := hx.inv_el
      refine y_of (Sim.el h1 h3 h2.2) fun H' L' => ?_
      have := lo_fieldAddr (P := P) (N := N) (H := H') (L := L') (ty := ty) e hf
      rw [Nat.add_assoc] at this
      exact this
    · cases h
  · cases h
/-- The cells of a value of the type, of a row of cells. -/
def pCut (ti : TI) (cs : List PV) (off : Nat) : Option PV :=
  match ti.k.isAgg with
  | true => match Nat.ble (off + ti.size) cs.length with
    | true => some (.agg ((cs.drop off).take ti.size))
    | false => none
  | false => nth cs off
def pLoad (tb : Tb) (sL : Nat → Blk) (T : TypeId) (a : PV) : Option PR :=
  match lkT tb T with
  | some ti => match a with
    | .own i b off => match sL i with
      | .box b' _ cs => match pCut ti cs off with
        | some p => some ⟨p, [], some (i, b', b)⟩
        | none => none
      | _ => none
    | .el row off => match pCut ti row off with
      | some p => match p.noOsl with
        | true => some (.q p)
        | false => none
      | none => none
    | _ => none
  | none => none
theorem SimTs.get {ps : List PV} {vs : List Value} (h : SimTs sL H ps vs) {i : Nat} {p : PV} (hp : ps[i]? = some p) : ∃ v, vs[i]? = some v ∧ SimT sL H p v := by
  have hi : i < vs.length := by
    rw [h.1]
    rcases Nat.lt_or_ge i ps.length with q | q
    · exact q
    · rw [List.getElem?_eq_none q] at hp; cases hp
  exact ⟨vs[i], List.getElem?_eq_getElem hi, h.2 i p _ hp (List.getElem?_eq_getElem hi)⟩
theorem y_load {tb : Tb} {T : TypeId} {x : Operand} {r : PR} (ht : tbB P tb = true) (hL : ∀ i, SimB sL H (sL i) (L i)) (hx : Ok1 sL H G F x) (h : pLoad tb sL T (evP G x) = some r) (hp : ∀ x, r.lk = some x → x.2.1 = x.2.2) : Yl P N sL (.load T x) ty F H L r := by
  unfold Ok1 at hx
  generalize evP G x = a at *
  replace hx := hx.sim
  unfold pLoad at h
  split at h
  · rename_i ti hti
    have hok := ti_ok ht hti
    have hag := hok.ag
    split at h
    · rename_i i b off
      split at h
      · rename_i b' T0 cs hb
        split at h
        · rename_i p hc
          cases h
          have e := hp _ rfl
          simp only at e
          subst e
          have hbi := hL i
          rw [hb] at hbi
          obtain ⟨vs, hLi, hs⟩ := hbi
          replace hx := hx.inv_own
          unfold pCut at hc
          split at hc
          · rename_i hA
            rw [hA] at hag
            split at hc
            · rename_i hl
              cases hc
              refine ⟨.agg ((vs.drop off).take ti.size).toArray, Sim.toAgg ((hs.sims.drop off).take ti.size), fun H' L' _ hl' => ?_⟩
              have hlen := Nat.le_of_ble_eq_true hl
              exact lo_loadA (vs := (vs.drop off).take ti.size) hx hag hok.sz ((hl' (i, _, _) rfl).trans hLi) rfl (by simp [hs.1]; omega)
            · cases hc
          · rename_i hA
            rw [hA] at hag
            rw [nth_eq] at hc
            obtain ⟨v, hv, hsv⟩ := hs.get hc
            exact ⟨v, hsv, fun H' L' _ hl' => lo_load1 hx hag ((hl' (i, _, _) rfl).trans hLi) hv⟩
        · cases h
      · cases h
    · rename_i row off
      split at h
      · rename_i p hc
        split at h
        case h_2 => cases h
        rename_i hno
        cases h
        obtain ⟨u, k, m, cs, e, h1, h2, h3⟩ := hx.inv_el
        unfold pCut at hc
        split at hc
        · rename_i hA
          rw [hA] at hag
          split at hc
          · rename_i hl
            cases hc
            have hlen := Nat.le_of_ble_eq_true hl
            refine ⟨.agg ((cs.drop off).take ti.size).toArray, Sim.toAgg ((h2.drop off).take ti.size), fun H' L' hh _ => ?_⟩
            exact lo_loadEfA (k2 := ti.size) (o := off) (off := off) (vs := (cs.drop off).take ti.size) e hag hok.sz (h1.mono hh) rfl (by simp [h2.1]; omega)
          · cases hc
        · rename_i hA
          rw [hA] at hag
          rw [nth_eq] at hc
          obtain ⟨v, hv, hsv⟩ := h2.get hc
          exact ⟨v, hsv.simT hno, fun H' L' hh _ => lo_loadEf e hag (h1.mono hh) rfl hv⟩
      · cases h
    · cases h
  · cases h
/-! Conversions -/
def kWide : IntKind → IntKind → Bool
  | .u8, .i8 => false
  | .u8, _ => true
  | .u16, .u16 => true
  | .u16, .u32 => true
  | .u16, .u64 => true
  | .u16, .i32 => true
  | .u16, .i64 => true
  | .u32, .u32 => true
  | .u32, .u64 => true
  | .u32, .i64 => true
  | .u64, .u64 => true
  | .i8, .i8 => true
  | .i8, .i16 => true
  | .i8, .i32 => true
  | .i8, .i64 => true
  | .i16, .i16 => true
  | .i16, .i32 => true
  | .i16, .i64 => true
  | .i32, .i32 => true
  | .i32, .i64 => true
  | .i64, .i64 => true
  | _, _ => false
theorem kWide_ok {k k' : IntKind} (h : kWide k k' = true) : k'.min ≤ k.min ∧ k.max ≤ k'.max := by
  cases k <;> cases k' <;> first | (simp [kWide] at h; done) | decide
def pConv (tb : Tb) (T T' : TypeId) (a : PV) : Option PR :=
  match lkT tb T with
  | some ts => match lkT tb T' with
    | some td => match a with
      | .int k x => match td.k with
        | .int k' => match kWide k k' with
          | true => some (.q (.int k' x))
          | false => some (.q (.int k' (k'.wrap x)))
        | _ => none
      | .str s => match ts.k with
        | .str => match td.k with
          | .str => some (.q (.str s))
          | _ => none
        | _ => none
      | _ => none
    | none => none
  | none => none
theorem TIOk.isSome {t : TypeId} {ti : TI} (h : TIOk P t ti) : (P.underlying t).isSome = true := by
  cases e : ti.k with
  | int k => rw [h.int e]; rfl
  | str => rw [h.str e]; rfl
  | bool => rw [h.bool e]; rfl
  | slc q => rw [h.slc e]; rfl
  | agg fs => obtain ⟨fields, hu, _⟩ := h.agg e; rw [hu]; rfl
  | arr =>
    have := h.k; rw [e] at this; simp only [kB] at this
    split at this
    · rename_i hu; rw [hu]; rfl
    · cases this
  | oth =>
    have := h.k; rw [e] at this; simp only [kB] at this
    split at this
    · cases this
    · cases this
    · rename_i hu; rw [hu]; rfl
    · cases this
theorem y_conv {tb : Tb} {T T' : TypeId} {x : Operand} {r : PR} (ht : tbB P tb = true) (hx : Ok1 sL H G F x) (h : pConv tb T T' (evP G x) = some r) : Yl P N sL (.convert T T' x) ty F H L r := by
  unfold Ok1 at hx
  generalize evP G x = a at *
  replace hx := hx.sim
  unfold pConv at h
  split at h
  · rename_i ts hts
    split at h
    · rename_i td htd
      have hs := ti_ok ht hts
      have hd := ti_ok ht htd
      split at h
      · obtain ⟨ex, x1, x2⟩ := hx.inv_int
        split at h
        · rename_i k' hk
          split at h
          · rename_i hw
            cases h
            have hin := kWide_ok hw
            have hr : k'.min ≤ _ ∧ _ ≤ k'.max := ⟨Int.le_trans hin.1 x1, Int.le_trans x2 hin.2⟩
            exact y_of (Sim.int hr.1 hr.2) fun _ _ => lo_conv_in ex hs.isSome (hd.int hk) hr
          · cases h
            exact y_of (Sim.int (wrap_r _ _).1 (wrap_r _ _).2) fun _ _ => lo_conv ex hs.isSome (hd.int hk)
        · cases h
      · obtain ⟨ex, x1⟩ := hx.inv_str
        split at h
        · rename_i hk
          split at h
          · rename_i hk'
            cases h
            exact y_of (Sim.str x1) fun _ _ => lo_conv_str ex (hs.str hk) (hd.str hk')
          · cases h
        · cases h
      · cases h
    · cases h
  · cases h
/-! Tuples, functions, lengths -/
def pExt (a : PV) (i : Nat) : Option PR :=
  match a with
  | .tup vs => match nth vs i with
    | some p => match p.noOsl with
      | true => some (.q p)
      | false => none
    | none => none
  | _ => none
theorem y_ext {x : Operand} {i : Nat} {r : PR} (hx : Ok1 sL H G F x) (h : pExt (evP G x) i = some r) : Yl P N sL (.extract x i) ty F H L r := by
  unfold Ok1 at hx
  generalize evP G x = a at *
  replace hx := hx.sim
  unfold pExt at h
  split at h
  · split at h
    · rename_i p hn
      split at h
      · rename_i ho
        cases h
        rw [nth_eq] at hn
        obtain ⟨vs, e, hs⟩ := hx.inv_tup
        obtain ⟨v, hv, hsv⟩ := hs.get hn
        exact y_of (hsv.simT ho) fun _ _ => lo_extract e (by simpa using hv)
      · cases h
    · cases h
  · cases h
def pNil (a : PV) : Option PR :=
  match a with
  | .own i b off => some (.q (.own i b off))
  | .el row o => some (.q (.el row o))
  | .fn f [] cap => some (.q (.fn f [] cap))
  | _ => none
theorem y_nil {x : Operand} {r : PR} (hx : Ok1 sL H G F x) (h : pNil (evP G x) = some r) : Yl P N sL (.nilCheck x) ty F H L r := by
  unfold Ok1 at hx
  generalize evP G x = a at *
  replace hx := hx.sim
  unfold pNil at h
  split at h
  · cases h; exact y_of Sim.own fun _ _ => lo_nilCheck hx.inv_own
  · cases h
    obtain ⟨u, k, m, cs, e, h1, h2, h3⟩ := hx.inv_el
    exact y_of (Sim.el h1 h3 h2.2) fun _ _ => lo_nilCheck e
  · cases h
    obtain ⟨vs, us, e, h1, h2⟩ := hx.inv_fn
    cases h1.inv_nil
    exact y_of (Sim.toFn Sims.nil h2) fun _ _ => lo_nilCheckF e
  · cases h
theorem evPs_sims {G : Nat → PV} {xs : List Operand} (h : ∀ x ∈ xs, Ok1 sL H G F x) : Sims H (evPs G xs) (evs F xs) := (evPs_ok h).sims
theorem y_mkf {f : FuncId} {xs ys : Array Operand} (hx : ∀ x ∈ xs.toList, Ok1 sL H G F x) (hy : ∀ x ∈ ys.toList, Ok1 sL H G F x) : Yl P N sL (.makeFunc (.func f) xs ys) ty F H L (.q (.fn f (evPs G xs.toList) (evPs G ys.toList))) := by
  exact ⟨_, Sim.toFn (evPs_sims hx) (evPs_sims hy), fun H' L' _ _ => by simpa using lo_makeFuncB (P := P) (N := N) (F := F) (H := H') (L := L') (ty := ty) (f := f) (xs := xs.toList) (ys := ys.toList) rfl rfl⟩
def pLen (tb : Tb) (sL : Nat → Blk) (T : TypeId) (a : PV) : Option PR :=
  match lkT tb T with
  | some ti => match a with
    | .str s => match ti.k with
      | .str => some (.q (.int .i64 s.length))
      | _ => none
    | .sl _ xs => match ti.k with
      | .slc _ => some (.q (.int .i64 xs.length))
      | _ => none
    | .osl i => match ti.k with
      | .slc _ => match sL i with
        | .arr _ _ _ _ xs => some (.q (.int .i64 xs.length))
        | _ => none
      | _ => none
    | _ => none
  | none => none
theorem i64_nat {m : Nat} (h : m ≤ 9223372036854775807) : IntKind.min .i64 ≤ (m : Int) ∧ (m : Int) ≤ IntKind.max .i64 := by
  have e1 : IntKind.min .i64 = -9223372036854775808 := rfl
  have e2 : IntKind.max .i64 = 9223372036854775807 := rfl
  omega
theorem y_len {tb : Tb} {T : TypeId} {x : Operand} {r : PR} (ht : tbB P tb = true) (hL : ∀ i, SimB sL H (sL i) (L i)) (hx : Ok1 sL H G F x) (h : pLen tb sL T (evP G x) = some r) : Yl P N sL (.call ⟨.builtin .len, #[x], #[T]⟩) ty F H L r := by
  unfold Ok1 at hx
  generalize evP G x = a at *
  unfold pLen at h
  split at h
  · rename_i ti hti
    have hk := ti_ok ht hti
    split at h
    · split at h
      · rename_i e
        cases h
        obtain ⟨ex, x1⟩ := hx.sim.inv_str
        exact y_of (Sim.int (i64_nat x1).1 (i64_nat x1).2) fun _ _ => lo_len_str ex (hk.str e)
      · cases h
    · split at h
      · rename_i e
        cases h
        obtain ⟨k, hs, hb⟩ := hx.sim.slh
        have hb' : _ ≤ 9223372036854775807 := Nat.le_trans hb (by decide)
        exact ⟨_, Sim.int (i64_nat hb').1 (i64_nat hb').2, fun H' L' hh _ => lo_len_slh rfl (hs.mono hh fun _ _ q => rowE_mono _ _ _ _ hh q) (hk.slc e)⟩
      · cases h
    · rename_i i
      split at h
      · rename_i e
        split at h
        · rename_i hb
          cases h
          have hbi := hL i
          simp only [SimT, hb] at hx
          rw [hb] at hbi
          obtain ⟨cs, ho, hr, hm⟩ := hbi
          have hm' : _ ≤ 9223372036854775807 := Nat.le_trans hm (by decide)
          exact y_of (Sim.int (i64_nat hm').1 (i64_nat hm').2) fun _ _ => lo_len_own hx ho (hk.slc e)
        · cases h
      · cases h
    · cases h
  · cases h
def pMM (mx : Bool) (a b : PV) : Option PR :=
  match a with
  | .int k x => match b with
    | .int k' y => match kEq k k' with
      | true => some (.q (.int k (match mx with | true => max x y | false => min x y)))
      | false => none
    | _ => none
  | _ => none
theorem max_sim {k : IntKind} {x y : Int} (x1 : k.min ≤ x) (x2 : x ≤ k.max) (y1 : k.min ≤ y) (y2 : y ≤ k.max) : Sim H (.int k (max x y)) (.int k (max x y)) := .int (by omega) (by omega)
theorem min_sim {k : IntKind} {x y : Int} (x1 : k.min ≤ x) (x2 : x ≤ k.max) (y1 : k.min ≤ y) (y2 : y ≤ k.max) : Sim H (.int k (min x y)) (.int k (min x y)) := .int (by omega) (by omega)
theorem y_max {x y : Operand} {ats : Array TypeId} {r : PR} (hx : Ok1 sL H G F x) (hy : Ok1 sL H G F y) (h : pMM true (evP G x) (evP G y) = some r) : Yl P N sL (.call ⟨.builtin .max, #[x, y], ats⟩) ty F H L r := by
  unfold Ok1 at hx hy
  generalize evP G x = a at *
  generalize evP G y = b at *
  unfold pMM at h
  split at h
  · split at h
    · split at h
      · rename_i hk
        have hk := of_decide_eq_true hk
        subst hk
        cases h
        obtain ⟨ex, x1, x2⟩ := hx.sim.inv_int
        obtain ⟨ey, y1, y2⟩ := hy.sim.inv_int
        exact y_of (max_sim x1 x2 y1 y2) fun _ _ => lo_max ex ey
      · cases h
    · cases h
  · cases h
theorem y_min {x y : Operand} {ats : Array TypeId} {r : PR} (hx : Ok1 sL H G F x) (hy : Ok1 sL H G F y) (h : pMM false (evP G x) (evP G y) = some r) : Yl P N sL (.call ⟨.builtin .min, #[x, y], ats⟩) ty F H L r := by
  unfold Ok1 at hx hy
  generalize evP G x = a at *
  generalize evP G y = b at *
  unfold pMM at h
  split at h
  · split at h
    · split at h
      · rename_i hk
        have hk := of_decide_eq_true hk
        subst hk
        cases h
        obtain ⟨ex, x1, x2⟩ := hx.sim.inv_int
        obtain ⟨ey, y1, y2⟩ := hy.sim.inv_int
        exact y_of (min_sim x1 x2 y1 y2) fun _ _ => lo_min ex ey
      · cases h
    · cases h
  · cases h
/-! Structs that are built -/
def PV.cellsOf (p : PV) : Option (List PV) :=
  match p with
  | .agg cs => some cs
  | p => match p.one with
    | true => some [p]
    | false => none
theorem cellsOf_ok {p : PV} {v : Value} {cs : List PV} (h : Sim H p v) (hc : p.cellsOf = some cs) : Sims H cs v.cells.toList := by
  unfold PV.cellsOf at hc
  split at hc
  · cases hc
    obtain ⟨vs, e, hs⟩ := h.inv_agg
    subst e
    simpa [Value.cells] using hs
  · split at hc
    · rename_i ho
      cases hc
      have h1 := h.one ho
      have : v.cells = #[v] := by cases v <;> first | rfl | (simp [Value.oneCell'] at h1)
      rw [this]
      exact Sims.nil.cons h
    · cases hc
def fillP (fs : List (Nat × Nat)) : List PV → List (Nat × PV) → Option (List PV)
  | cs, [] => some cs
  | cs, (i, p) :: r => match nth fs i with
    | some (o, z) => match p.cellsOf with
      | some c => match Nat.beq c.length z with
        | true => match Nat.ble (o + z) cs.length with
          | true => fillP fs (cs.take o ++ (c ++ cs.drop (o + z))) r
          | false => none
        | false => none
      | none => none
    | none => none
def evPp (G : Nat → PV) : List (Nat × Operand) → List (Nat × PV)
  | [] => []
  | x :: r => (x.1, evP G x.2) :: evPp G r
def pBuild (tb : Tb) (T : TypeId) (ps : List (Nat × PV)) : Option PR :=
  match lkT tb T with
  | some ti => match ti.k with
    | .agg fs => match fillP fs ti.zero ps with
      | some cs => some (.q (.agg cs))
      | none => none
    | _ => none
  | none => none
theorem fillP_ok (fs : List (Nat × Nat)) (hG : ∀ t, SimT sL H (G t) (F t)) : ∀ (ps : List (Nat × Operand)) (cs : List PV) (c : Array Value) (cs' : List PV), Sims H cs c.toList → fillP fs cs (evPp G ps) = some cs' → ∃ c' : Array Value, Instr.fill (fun i => fs[i]?) c (evp F ps) = some c' ∧ Sims H cs' c'.toList
  | [], cs, c, cs', hs, h => by simp only [evPp, fillP] at h; cases h; exact ⟨c, rfl, hs⟩
  | x :: r, cs, c, cs', hs, h => by
    simp only [evPp, fillP] at h
    split at h
    · rename_i o z hn
      rw [nth_eq] at hn
      split at h
      · rename_i d hd
        split at h
        · rename_i hz
          have hz := Nat.eq_of_beq_eq_true hz
          split at h
          · rename_i hl
            have hl := Nat.le_of_ble_eq_true hl
            have hv := cellsOf_ok (evP_ok hG x.2).sim hd
            have e1 : (ev F x.2).cells.size = z := by rw [← hz, ← hv.1]; simp
            have e2 : c.size = cs.length := by rw [← hs.1]; simp
            have hfo := fill_one [] (ev F x.2).cells.toList 0 o c (by simp; omega)
            obtain ⟨c', h1, h2⟩ := fillP_ok fs hG r _ ((ev F x.2).cells.zipIdx.foldl (fun cs (c, j) => cs.setIfInBounds (o + j) c) c) cs' (by
              have : ((ev F x.2).cells.zipIdx.foldl (fun cs (c, j) => cs.setIfInBounds (o + j) c) c).toList = c.toList.take o ++ ((ev F x.2).cells.toList ++ c.toList.drop (o + z)) := by
                rw [← Array.foldl_toList, Array.toList_zipIdx]
                rw [hfo]
                simp [e1]
              rw [this]
              exact (hs.take o).append (hv.append (hs.drop _))) h
            refine ⟨c', ?_, h2⟩
            simp only [evp, Instr.fill, hn]
            rw [if_neg (by simp [e1]; omega)]
            exact h1
          · cases h
        · cases h
      · cases h
    · cases h
theorem run_size {t : TypeId} {i : TypeInfo} (w : World) (h : P.info? t = some i) : (sizeOf t).run P w = .ok (P.cellsOf t) w := by simp [sizeOf, typeInfo, h, Program.cellsOf]
theorem run_places (w : World) : ∀ (l : List Field), (∀ f ∈ l, ∃ i, P.info? f.type = some i) → (l.mapM (fun f => Prod.mk f.offset <$> sizeOf f.type : Field → Sem (Nat × Nat))).run P w = .ok (l.map (fun f => (f.offset, P.cellsOf f.type))) w
  | [], _ => by simp
  | f :: r, h => by
    obtain ⟨i, hi⟩ := h f List.mem_cons_self
    have ih := run_places w r fun g hg => h g (List.mem_cons_of_mem _ hg)
    simp [List.mapM_cons, run_size w hi, ih]
theorem y_build {tb : Tb} {T : TypeId} {ps : Array (Nat × Operand)} {r : PR} (ht : tbB P tb = true) (hG : ∀ t, SimT sL H (G t) (F t)) (h : pBuild tb T (evPp G ps.toList) = some r) : Yl P N sL (.build T ps) ty F H L r := by
  unfold pBuild at h
  split at h
  · rename_i ti hti
    have hok := ti_ok ht hti
    split at h
    · rename_i fs hk
      split at h
      · rename_i cs hf
        cases h
        obtain ⟨fields, hu, hm, hi⟩ := hok.agg hk
        obtain ⟨zv, hz, hzs⟩ := hok.zero
        obtain ⟨c', h1, h2⟩ := fillP_ok fs hG ps.toList ti.zero zv.cells cs (hzs H) hf
        have hb : ∀ w, (Instr.build T (evp F ps.toList).toArray).run P w = .ok (.agg c') w := fun w => by
          have hp := run_places (P := P) w fields.toList hi
          have e : (fields.mapM (fun f => do pure (f.offset, ← sizeOf f.type) : Field → Sem (Nat × Nat))).run P w = .ok fs.toArray w := by
            rw [Array.mapM_eq_mapM_toList]
            simp [hp, hm]
          have e2 : (fun i : Nat => fs.toArray[i]?) = fun i : Nat => fs[i]? := by funext i; simp
          simp only [Instr.build, Sem.run_bind, hz w, Result.andThen_ok, run_underlying hu, e, e2, h1]
          simp
        have := fun H' L' => lo_build (P := P) (N := N) (F := F) (H := H') (L := L') (ty := ty) (T := T) (ps := ps.toList) (v := .agg c') rfl hb
        refine ⟨.agg c', Sim.toAgg (vs := c'.toList) h2, fun H' L' _ _ => by simpa using this H' L'⟩
      · cases h
    · cases h
  · cases h
end Go.SW
namespace Go.SW
variable {P : Program} {n : Nat} {N : Rest}
/-! All quiet operations -/
def pop (tb : Tb) (sL : Nat → Blk) (G : Nat → PV) (op : Op) : Option PR :=
  match op with
  | .move x => some (.q (evP G x))
  | .assign x => some (.q (evP G x))
  | .pick c a b => pPick (evP G c) (evP G a) (evP G b)
  | .binOp o T x y _ => pBin tb o T (evP G x) (evP G y)
  | .unOp o _ x => pUn o (evP G x)
  | .fieldAddr T x f => pFA tb T (evP G x) f
  | .load T x => pLoad tb sL T (evP G x)
  | .extract x i => pExt (evP G x) i
  | .nilCheck x => pNil (evP G x)
  | .convert T T' x => pConv tb T T' (evP G x)
  | .makeFunc fn xs ys => match fn with
    | .func f => some (.q (.fn f (evPs G xs.toList) (evPs G ys.toList)))
    | _ => none
  | .build T ps => pBuild tb T (evPp G ps.toList)
  | .call ⟨.builtin b, args, ats⟩ => match b with
    | .len => match args.toList with
      | [x] => match ats.toList with
        | [T] => pLen tb sL T (evP G x)
        | _ => none
      | _ => none
    | .max => match args.toList with
      | [x, y] => pMM true (evP G x) (evP G y)
      | _ => none
    | .min => match args.toList with
      | [x, y] => pMM false (evP G x) (evP G y)
      | _ => none
    | _ => none
  | _ => none
theorem arr1 {α : Type _} {a : Array α} {x : α} (h : a.toList = [x]) : a = #[x] := Array.ext' (by simpa using h)
theorem arr2 {α : Type _} {a : Array α} {x y : α} (h : a.toList = [x, y]) : a = #[x, y] := Array.ext' (by simpa using h)
theorem pop_ok {tb : Tb} {sL : Nat → Blk} {G : Nat → PV} {F : Fr} {H : Hp} {L : Ls} {op : Op} {ty : TypeId} {r : PR} (ht : tbB P tb = true) (hG : ∀ t, SimT sL H (G t) (F t)) (hL : ∀ i, SimB sL H (sL i) (L i)) (h : pop tb sL G op = some r) (hp : AllP r.ps) (he : ∀ x, r.lk = some x → x.2.1 = x.2.2) : Yl P N sL op ty F H L r := by
  have ok : ∀ x, Ok1 sL H G F x := fun x => evP_ok hG x
  unfold pop at h
  split at h
  · cases h; exact y_move (ok _)
  · cases h; exact y_assign (ok _)
  · exact y_pick (ok _) (ok _) (ok _) h hp
  · exact y_bin ht (ok _) (ok _) h hp
  · exact y_un (ok _) h
  · exact y_fa ht (ok _) h
  · exact y_load ht hL (ok _) h he
  · exact y_ext (ok _) h
  · exact y_nil (ok _) h
  · exact y_conv ht (ok _) h
  · split at h
    · cases h; exact y_mkf (fun x _ => ok x) (fun x _ => ok x)
    · cases h
  · exact y_build ht hG h
  · split at h
    · split at h
      · rename_i e
        split at h
        · rename_i e'
          rw [arr1 e, arr1 e']
          exact y_len ht hL (ok _) h
        · cases h
      · cases h
    · split at h
      · rename_i e
        rw [arr2 e]
        exact y_max (ok _) (ok _) h
      · cases h
    · split at h
      · rename_i e
        rw [arr2 e]
        exact y_min (ok _) (ok _) h
      · cases h
    · cases h
  · cases h
/-! What is guarded -/
def tmpOf : List Operand → List Nat
  | [] => []
  | .tmp t :: r => t :: tmpOf r
  | _ :: r => tmpOf r
def tsOf (op : Op) : List Nat :=
  match op with
  | .pick c _ _ => tmpOf [c]
  | op => tmpOf op.operands.toList
def strip : PV → PV
  | .gv _ v => v
  | p => p
def strG (ts : List Nat) (G : Nat → PV) : Nat → PV := fun t => bif memB ts t then strip (G t) else G t
def conds (G : Nat → PV) (g : Bool) : List Nat → List Prop → List Prop
  | [], k => k
  | t :: r, k => match G t with
    | .gv c _ => (g = true → c = true) :: conds G g r k
    | _ => conds G g r k
def guardP (g : Bool) : List Prop → List Prop
  | [] => []
  | p :: r => (g = true → p) :: guardP g r
def pG1 (tb : Tb) (sL : Nat → Blk) (G : Nat → PV) (op : Op) (g : Bool) : Option PR :=
  match pop tb sL (strG (tsOf op) G) op with
  | some ⟨v, ps, lk⟩ => match v.noOsl with
    | true => some ⟨.gv g v, conds G g (tsOf op) (guardP g ps), lk⟩
    | false => none
  | none => none
def gOf (b want : Bool) : Bool := match want with
  | true => b
  | false => !b
def gC (p : PV) (want : Bool) : Option Bool :=
  match p with
  | .bool b => some (gOf b want)
  | .gv c q => match q with
    | .bool b => some (c && gOf b want)
    | _ => none
  | _ => none
/-! States that stand for less -/
def StLe (s s' : St) : Prop := ∀ H0 F H L, Abs H0 s F H L → Abs H0 s' F H L
theorem StLe.refl (s : St) : StLe s s := fun _ _ _ _ h => h
theorem StLe.trans {a b c : St} (h : StLe a b) (k : StLe b c) : StLe a c := fun H0 F H L x => k H0 F H L (h H0 F H L x)
/-! Judgements -/
abbrev Qs := Exit → St → Prop
def ql (H0 : Env) (Q : Qs) : Qt := fun e F H L => ∃ s, Abs H0 s F H L ∧ Q e s
def Sw (P : Program) (n : Nat) (N : Rest) (H0 : Env) (c : Code) (Q : Qs) (s : St) : Prop := ∀ F H L, Abs H0 s F H L → Cw P n N c (ql H0 Q) F H L
def So (P : Program) (n : Nat) (N : Rest) (H0 : Env) (all rest : List Oper) (Q : Qs) (s : St) : Prop := ∀ F H L, Abs H0 s F H L → Ow P n N all rest (ql H0 Q) F H L
variable {H0 : Env}
theorem Sw.le {c : Code} {Q : Qs} {s s' : St} (h : StLe s s') (k : Sw P n N H0 c Q s') : Sw P n N H0 c Q s := fun F H L x => k F H L (h _ _ _ _ x)
theorem So.le {all rest : List Oper} {Q : Qs} {s s' : St} (h : StLe s s') (k : So P n N H0 all rest Q s') : So P n N H0 all rest Q s := fun F H L x => k F H L (h _ _ _ _ x)
inductive Kt where
  | seq (y : Code)
  | blk (id : Nat)
  | sc
  | lp (J : St → Prop)
def Kt.den (P : Program) (n : Nat) (N : Rest) (H0 : Env) : List Kt → Qs → Qs
  | [], Q => Q
  | .seq y :: r, Q => fun e s => match e with
    | .normal => Sw P n N H0 y (Kt.den P n N H0 r Q) s
    | e => Kt.den P n N H0 r Q e s
  | .blk id :: r, Q => fun e s => match e with
    | .exit i => bif Nat.beq i id then Kt.den P n N H0 r Q .normal s else Kt.den P n N H0 r Q (.exit i) s
    | e => Kt.den P n N H0 r Q e s
  | .sc :: r, Q => fun e s => match e with
    | .goto _ => False
    | e => Kt.den P n N H0 r Q e s
  | .lp J :: r, Q => fun e s => match e with
    | .normal => J s
    | e => Kt.den P n N H0 r Q e s
theorem sw_seq {x y : Code} {ks : List Kt} {Q : Qs} {s : St} (h : Sw P n N H0 x (Kt.den P n N H0 (.seq y :: ks) Q) s) : Sw P n N H0 (.seq x y) (Kt.den P n N H0 ks Q) s := by
  intro F H L ha
  refine cw_seq (cw_mono ?_ (h F H L ha))
  intro e F' H' L' hq
  obtain ⟨s', ha', hq'⟩ := hq
  cases e with
  | normal => exact hq' F' H' L' ha'
  | _ => exact ⟨s', ha', hq'⟩
theorem sw_block {id : Nat} {c : Code} {ks : List Kt} {Q : Qs} {s : St} (h : Sw P n N H0 c (Kt.den P n N H0 (.blk id :: ks) Q) s) : Sw P n N H0 (.block id c) (Kt.den P n N H0 ks Q) s := by
  intro F H L ha
  refine cw_block (cw_mono ?_ (h F H L ha))
  intro e F' H' L' hq
  obtain ⟨s', ha', hq'⟩ := hq
  cases e with
  | «exit» i =>
    simp only [Kt.den] at hq'
    simp only [blkK]
    cases e : Nat.beq i id with
    | true => rw [e] at hq'; exact ⟨s', ha', hq'⟩
    | false => rw [e] at hq'; exact ⟨s', ha', hq'⟩
  | _ => exact ⟨s', ha', hq'⟩
theorem sw_scope {c : Code} {ks : List Kt} {Q : Qs} {s : St} (h : Sw P n N H0 c (Kt.den P n N H0 (.sc :: ks) Q) s) : Sw P n N H0 (.scope c) (Kt.den P n N H0 ks Q) s := by
  intro F H L ha
  refine cw_scope (cw_mono ?_ (h F H L ha))
  intro e F' H' L' hq
  obtain ⟨s', ha', hq'⟩ := hq
  cases e with
  | goto l => exact hq'.elim
  | _ => exact ⟨s', ha', hq'⟩
theorem sw_skip {Q : Qs} {s : St} (h : Q .normal s) : Sw P n N H0 .skip Q s := fun F H L ha => cw_skip ⟨s, ha, h⟩
theorem sw_label {l : Nat} {Q : Qs} {s : St} (h : Q .normal s) : Sw P n N H0 (.label l) Q s := fun F H L ha => cw_label ⟨s, ha, h⟩
theorem sw_exit {i : Nat} {Q : Qs} {s : St} (h : Q (.exit i) s) : Sw P n N H0 (.exit i) Q s := fun F H L ha => cw_exit ⟨s, ha, h⟩
theorem sw_ret {Q : Qs} {s : St} (h : Q .ret s) : Sw P n N H0 .ret Q s := fun F H L ha => cw_ret ⟨s, ha, h⟩
theorem sw_region {id : Nat} {l : Array Oper} {Q : Qs} {s : St} (h : So P n N H0 l.toList l.toList Q s) : Sw P n N H0 (.region id l false) Q s := fun F H L ha => by
  have := cw_region (id := id) (h F H L ha)
  simpa using this
theorem so_nil {all : List Oper} {Q : Qs} {s : St} (h : Q .normal s) : So P n N H0 all [] Q s := fun F H L ha => ow_nil ⟨s, ha, h⟩
theorem sw_cond {c : Operand} {x y : Code} {Q : Qs} {s : St} {b : Bool} (hc : evP s.F c = .bool b) (ht : b = true → Sw P n N H0 x Q s) (hf : b = false → Sw P n N H0 y Q s) : Sw P n N H0 (.cond c x y) Q s := fun F H L ha => by
  have h1 := evP_ok ha.f c
  unfold Ok1 at h1
  rw [hc] at h1
  exact cw_cond h1.sim.inv_bool (fun e => ht e F H L ha) (fun e => hf e F H L ha)
/-! One quiet operation -/
theorem so_pop {tb : Tb} {all rest : List Oper} {op : Op} {ty d : Nat} {pos : String} {af : Array Edge} {Q : Qs} {s : St} {r : PR} (ht : tbB P tb = true) (hd : Nat.blt d n = true) (h : pop tb s.L s.F op = some r) (hp : AllP r.ps) (he : ∀ x, r.lk = some x → x.2.1 = x.2.2)
    (k : So P n N H0 all rest Q ⟨updp s.F d r.v, s.L⟩) : So P n N H0 all (⟨some d, op, ty, pos, af, none⟩ :: rest) Q s := fun F H L ha => by
  obtain ⟨val, h1, h2⟩ := pop_ok (N := N) (ty := ty) ht ha.f ha.l h hp he
  exact ow1 (op1_l hd (h2 H L (.refl H) (fun _ _ => rfl)) (k _ _ _ (ha.put d h1)))
theorem memB_spec {t : Nat} : ∀ {ts : List Nat}, memB ts t = true → t ∈ ts
  | [], h => by cases h
  | s :: r, h => by
    simp only [memB] at h
    cases e : Nat.beq t s with
    | true => rw [Nat.eq_of_beq_eq_true e]; exact List.mem_cons_self
    | false => rw [e] at h; exact List.mem_cons_of_mem _ (memB_spec h)
theorem conds_ok {G : Nat → PV} {g : Bool} : ∀ {ts : List Nat} {k : List Prop}, AllP (conds G g ts k) → AllP k ∧ ∀ t ∈ ts, ∀ c v, G t = .gv c v → g = true → c = true
  | [], k, h => ⟨h, fun t ht => by cases ht⟩
  | t :: r, k, h => by
    simp only [conds] at h
    split at h
    · rename_i c v e
      obtain ⟨h1, h2⟩ := h
      obtain ⟨h3, h4⟩ := conds_ok h2
      refine ⟨h3, fun t' ht' c' v' e' hg => ?_⟩
      rcases List.mem_cons.1 ht' with rfl | q
      · rw [e] at e'; cases e'; exact h1 hg
      · exact h4 t' q c' v' e' hg
    · rename_i hne
      obtain ⟨h3, h4⟩ := conds_ok h
      refine ⟨h3, fun t' ht' c' v' e' hg => ?_⟩
      rcases List.mem_cons.1 ht' with rfl | q
      · exact absurd e' (hne c' v')
      · exact h4 t' q c' v' e' hg
theorem guardP_ok {g : Bool} (hg : g = true) : ∀ {ps : List Prop}, AllP (guardP g ps) → AllP ps
  | [], h => h
  | _ :: _, h => ⟨h.1 hg, guardP_ok hg h.2⟩
theorem strG_ok {sL : Nat → Blk} {G : Nat → PV} {F : Fr} {H : Hp} {ts : List Nat} (hG : ∀ t, SimT sL H (G t) (F t)) (hc : ∀ t ∈ ts, ∀ c v, G t = .gv c v → c = true) (hn : ∀ t ∈ ts, (strip (G t)).noOsl = true ∨ strip (G t) = G t) (t : Nat) : SimT sL H (strG ts G t) (F t) := by
  unfold strG
  cases e : memB ts t with
  | false => exact hG t
  | true =>
    have hm := memB_spec e
    have h1 := hG t
    show SimT sL H (strip (G t)) (F t)
    rcases hn t hm with q | q
    · refine Sim.simT ?_ q
      have h1 := h1.sim
      generalize he : G t = p at *
      cases p with
      | gv c v =>
        have := hc t hm c v he
        subst this
        rcases h1.inv_gv with ⟨_, h2⟩ | ⟨h2, _⟩
        · exact h2
        · cases h2
      | _ => exact h1
    · rw [q]; exact h1
/-- No list that is owned stands under a guard. -/
def noOslG (G : Nat → PV) : List Nat → Bool
  | [] => true
  | t :: r => (match G t with | .gv _ v => v.noOsl | _ => true) && noOslG G r
theorem noOslG_ok {G : Nat → PV} : ∀ {ts : List Nat}, noOslG G ts = true → ∀ t ∈ ts, (strip (G t)).noOsl = true ∨ strip (G t) = G t
  | [], _, t, ht => by cases ht
  | a :: r, h, t, ht => by
    simp only [noOslG, Bool.and_eq_true] at h
    rcases List.mem_cons.1 ht with rfl | q
    · generalize G t = p at *
      cases p with
      | gv c v => exact .inl h.1
      | _ => exact .inr rfl
    · exact noOslG_ok h.2 t q
end Go.SW
namespace Go.SW
variable {P : Program} {n : Nat} {N : Rest} {H0 : Env}
def frc0 {α : Type _} (v : PV) (c : PV → α) : α :=
  match v with
  | .int k z => c (.int k z)
  | .bool b => c (.bool b)
  | .str s => c (.str s)
  | .agg cs => c (.agg cs)
  | .sl e x => c (.sl e x)
  | .own i b o => c (.own i b o)
  | .osl i => c (.osl i)
  | .el r o => c (.el r o)
  | .fn f a b => c (.fn f a b)
  | .tup vs => c (.tup vs)
  | .gv g v => c (.gv g v)
  | .val v => c (.val v)
  | .junk => c .junk
theorem frc0_eq {α : Type _} (v : PV) (c : PV → α) : frc0 v c = c v := by cases v <;> rfl
def frcL {α : Type _} : List PV → (List PV → α) → α
  | [], c => c []
  | p :: r, c => frc0 p fun p => frcL r fun r => c (p :: r)
theorem frcL_eq {α : Type _} : ∀ (l : List PV) (c : List PV → α), frcL l c = c l
  | [], c => rfl
  | p :: r, c => by simp only [frcL, frc0_eq, frcL_eq r]
def frc {α : Type _} (v : PV) (c : PV → α) : α :=
  match v with
  | .agg cs => frcL cs fun cs => c (.agg cs)
  | .gv g v => match v with
    | .agg cs => frcL cs fun cs => c (.gv g (.agg cs))
    | v => frc0 v fun v => c (.gv g v)
  | v => frc0 v c
theorem frc_eq {α : Type _} (v : PV) (c : PV → α) : frc v c = c v := by
  unfold frc; split <;> first | (simp only [frcL_eq]; done) | (split <;> simp only [frcL_eq, frc0_eq]; done) | simp only [frc0_eq]
def frcP {α : Type _} : List Prop → (List Prop → α) → α
  | [], c => c []
  | p :: r, c => frcP r fun r => c (p :: r)
theorem frcP_eq {α : Type _} : ∀ (l : List Prop) (c : List Prop → α), frcP l c = c l
  | [], c => rfl
  | p :: r, c => by simp only [frcP, frcP_eq r]
def frcN {α : Type _} : List Nat → (List Nat → α) → α
  | [], c => c []
  | p :: r, c => frcN r fun r => c (p :: r)
theorem frcN_eq {α : Type _} : ∀ (l : List Nat) (c : List Nat → α), frcN l c = c l
  | [], c => rfl
  | p :: r, c => by simp only [frcN, frcN_eq r]
inductive Cf where
  | code (c : Code)
  | ops (all rest : List Oper)
  | ex (e : Exit)
def Cf.holds (P : Program) (n : Nat) (N : Rest) (H0 : Env) (Q : Qs) : Cf → St → Prop
  | .code c, s => Sw P n N H0 c Q s
  | .ops all rest, s => So P n N H0 all rest Q s
  | .ex e, s => Q e s
/-- From here on all goes as0 Q says. -/
def Hd (P : Program) (n : Nat) (N : Rest) (H0 : Env) (Q : Qs) (c : Cf) (ks : List Kt) (s : St) : Prop := Cf.holds P n N H0 (Kt.den P n N H0 ks Q) c s
structure RR where
  c : Cf
  ks : List Kt
  F : Nat → PV
  L : Nat → Blk
  ps : List Prop
  as0 : List Nat
  bs : List Nat
def apP : List Prop → List Prop → List Prop
  | [], k => k
  | p :: r, k => p :: apP r k
theorem allP_app : ∀ {ps qs : List Prop}, AllP (apP ps qs) → AllP ps ∧ AllP qs
  | [], _, h => ⟨trivial, h⟩
  | _ :: _, _, h => ⟨⟨h.1, (allP_app h.2).1⟩, (allP_app h.2).2⟩
theorem apP_nil : ∀ (l : List Prop), apP l [] = l
  | [] => rfl
  | p :: r => by simp only [apP, apP_nil r]
def addP {α : Type _} (ps qs : List Prop) (c : List Prop → α) : α :=
  match qs with
  | [] => c ps
  | q :: r => frcP (apP ps (q :: r)) c
theorem addP_eq {α : Type _} (ps qs : List Prop) (c : List Prop → α) : addP ps qs c = c (apP ps qs) := by
  unfold addP; split
  · rw [apP_nil]
  · rw [frcP_eq]
/-- The value of an operation of a region, under its guard. -/
def vOp (tb : Tb) (s : St) (all : List Oper) (o : Oper) : Option PR :=
  match o.guard with
  | none => pop tb s.L s.F o.op
  | some (j, want) => match nth all j with
    | some oj => match oj.dst with
      | some dj => match gC (s.F dj) want with
        | some g => match noOslG s.F (tsOf o.op) with
          | true => pG1 tb s.L s.F o.op g
          | false => none
        | none => none
      | none => none
    | none => none
def run (tb : Tb) (n : Nat) : Nat → Cf → List Kt → (Nat → PV) → (Nat → Blk) → List Prop → List Nat → List Nat → Option RR
  | 0, c, ks, F, L, ps, as0, bs => frcP ps fun ps => frcN as0 fun as0 => frcN bs fun bs => some ⟨c, ks, F, L, ps, as0, bs⟩
  | k + 1, c, ks, F, L, ps, as0, bs =>
    match c with
    | .code c => match c with
      | .seq a b => run tb n k (.code a) (.seq b :: ks) F L ps as0 bs
      | .skip => run tb n k (.ex .normal) ks F L ps as0 bs
      | .label _ => run tb n k (.ex .normal) ks F L ps as0 bs
      | .block id b => run tb n k (.code b) (.blk id :: ks) F L ps as0 bs
      | .scope b => run tb n k (.code b) (.sc :: ks) F L ps as0 bs
      | .exit i => run tb n k (.ex (.exit i)) ks F L ps as0 bs
      | .ret => run tb n k (.ex .ret) ks F L ps as0 bs
      | .region _ ops draw => match draw with
        | false => run tb n k (.ops ops.toList ops.toList) ks F L ps as0 bs
        | true => none
      | .cond c a b => match evP F c with
        | .bool p => match p with
          | true => run tb n k (.code a) ks F L ps as0 bs
          | false => run tb n k (.code b) ks F L ps as0 bs
        | _ => none
      | _ => none
    | .ops all rest => match rest with
      | [] => run tb n k (.ex .normal) ks F L ps as0 bs
      | o :: rest => match o.dst with
        | some d => match Nat.blt d n with
          | true => match vOp tb ⟨F, L⟩ all o with
            | some ⟨v0, ps0, lk0⟩ => match lk0 with
              | none => addP ps ps0 fun ps => frc v0 fun v => run tb n k (.ops all rest) ks (updp F d v) L ps as0 bs
              | some (_, a, b) => addP ps ps0 fun ps => frc v0 fun v => run tb n k (.ops all rest) ks (updp F d v) L ps (a :: as0) (b :: bs)
            | none => none
          | false => none
        | none => none
    | .ex e => match ks with
      | [] => none
      | .seq y :: ks => match e with
        | .normal => run tb n k (.code y) ks F L ps as0 bs
        | e => run tb n k (.ex e) ks F L ps as0 bs
      | .blk id :: ks => match e with
        | .exit i => match Nat.beq i id with
          | true => run tb n k (.ex .normal) ks F L ps as0 bs
          | false => run tb n k (.ex (.exit i)) ks F L ps as0 bs
        | e => run tb n k (.ex e) ks F L ps as0 bs
      | .sc :: ks => match e with
        | .goto _ => none
        | e => run tb n k (.ex e) ks F L ps as0 bs
      | .lp _ :: ks => match e with
        | .normal => none
        | e => run tb n k (.ex e) ks F L ps as0 bs
theorem gv_dec {c b want : Bool} : (c && (b == want)) = (c && gOf b want) := by cases b <;> cases want <;> rfl
theorem gqn {F : Fr} {H : Hp} {L : Ls} {ops rest : List Oper} {op : Op} {ty d j : Nat} {pos : String} {af : Array Edge} {Q : Qt} {want c b : Bool} {v : Value} (hy : yF ops F j = some (gv c (.bool b))) (hd : Nat.blt d n = true) (h : (c && gOf b want) = true → Lo P N op ty F H L v)
    (k : Ow P n N ops rest Q (upd F d (gv (c && gOf b want) v)) H L) : Ow P n N ops (⟨some d, op, ty, pos, af, some (j, want)⟩ :: rest) Q F H L :=
  gq (c := c) (b := b) (v := v) hy hd (fun e => h (gv_dec ▸ e)) (gv_dec (c := c) (b := b) (want := want) ▸ k)
theorem yF_of {ops : List Oper} {F : Fr} {j d : Nat} {o : Oper} (h : nth ops j = some o) (hd : o.dst = some d) : yF ops F j = some (F d) := by
  rw [nth_eq] at h; simp [yF, h, hd]
theorem gC_ok {p : PV} {v : Value} {H : Hp} {want g : Bool} (hg : gC p want = some g) (h : Sim H p v) : ∃ c b, v = gv c (.bool b) ∧ g = (c && gOf b want) := by
  unfold gC at hg
  split at hg
  · cases hg; exact ⟨true, _, h.inv_bool, by simp⟩
  · rename_i c q
    split at hg
    · rename_i b
      cases hg
      rcases h.inv_gv with ⟨rfl, h1⟩ | ⟨rfl, h1⟩
      · exact ⟨true, b, h1.inv_bool, rfl⟩
      · exact ⟨false, b, h1, rfl⟩
    · cases hg
  · cases hg
theorem so_v {tb : Tb} {all rest : List Oper} {o : Oper} {d : Nat} {Q : Qs} {s : St} {r : PR} (ht : tbB P tb = true) (ho : o.dst = some d) (hd : Nat.blt d n = true) (h : vOp tb s all o = some r) (hp : AllP r.ps) (he : ∀ x, r.lk = some x → x.2.1 = x.2.2)
    (k : So P n N H0 all rest Q ⟨updp s.F d r.v, s.L⟩) : So P n N H0 all (o :: rest) Q s := by
  obtain ⟨d', op, ty, pos, af, g⟩ := o
  cases ho
  unfold vOp at h
  split at h
  · rename_i hg
    cases hg
    exact so_pop ht hd h hp he k
  · rename_i j want hg
    cases hg
    split at h
    · rename_i oj hj
      split at h
      · rename_i dj hdj
        split at h
        · rename_i g hgc
          split at h
          · rename_i hno
            unfold pG1 at h
            split at h
            · rename_i v0 ps0 lk0 hr0
              split at h
              · rename_i hnv
                cases h
                intro F H L ha
                obtain ⟨c, b, hv, hge⟩ := gC_ok hgc (ha.f dj).sim
                have hy : yF all F j = some (gv c (.bool b)) := by rw [yF_of hj hdj, hv]
                obtain ⟨hp1, hp2⟩ := conds_ok hp
                cases hgv : (c && gOf b want) with
                | false =>
                  refine gqn (v := undef) hy hd (fun e => by rw [hgv] at e; cases e) (k _ _ _ (ha.put d ?_))
                  rw [hge, hgv]
                  exact Sim.gvf
                | true =>
                  have hgt : g = true := hge.trans hgv
                  obtain ⟨val, h1, h2⟩ := pop_ok (N := N) (ty := ty) ht (strG_ok ha.f (fun t ht c v e => hp2 t ht c v e hgt) (noOslG_ok hno)) ha.l hr0 (guardP_ok hgt hp1) he
                  refine gqn (v := val) hy hd (fun _ => h2 H L (.refl H) (fun _ _ => rfl)) (k _ _ _ (ha.put d ?_))
                  rw [hge, hgv]
                  exact Sim.gvt h1.sim
              · cases h
            · cases h
          · cases h
        · cases h
      · cases h
    · cases h
theorem den_seq {y : Code} {r : List Kt} {Q : Qs} {e : Exit} {s : St} (h : e = .normal → False) (x : Kt.den P n N H0 r Q e s) : Kt.den P n N H0 (.seq y :: r) Q e s := by cases e <;> first | exact x | exact (h rfl).elim
theorem den_lp {J : St → Prop} {r : List Kt} {Q : Qs} {e : Exit} {s : St} (h : e = .normal → False) (x : Kt.den P n N H0 r Q e s) : Kt.den P n N H0 (.lp J :: r) Q e s := by cases e <;> first | exact x | exact (h rfl).elim
theorem den_blk {id : Nat} {r : List Kt} {Q : Qs} {e : Exit} {s : St} (h : ∀ i, e = .exit i → False) (x : Kt.den P n N H0 r Q e s) : Kt.den P n N H0 (.blk id :: r) Q e s := by cases e <;> first | exact x | exact (h _ rfl).elim
theorem den_sc {r : List Kt} {Q : Qs} {e : Exit} {s : St} (h : ∀ i, e = .goto i → False) (x : Kt.den P n N H0 r Q e s) : Kt.den P n N H0 (.sc :: r) Q e s := by cases e <;> first | exact x | exact (h _ rfl).elim
theorem run_ok {tb : Tb} (ht : tbB P tb = true) {Q : Qs} : ∀ (k : Nat) (c : Cf) (ks : List Kt) (F : Nat → PV) (L : Nat → Blk) (ps : List Prop) (as0 bs : List Nat) (r : RR), run tb n k c ks F L ps as0 bs = some r → AllP r.ps → r.as0 = r.bs → AllP ps ∧ as0 = bs ∧ (Hd P n N H0 Q r.c r.ks ⟨r.F, r.L⟩ → Hd P n N H0 Q c ks ⟨F, L⟩)
  | 0, c, ks, F, L, ps, as0, bs, r, h, hp, he => by
    simp only [run, frcP_eq, frcN_eq, Option.some.injEq] at h
    subst h
    exact ⟨hp, he, id⟩
  | k + 1, c, ks, F, L, ps, as0, bs, r, h, hp, he => by
    have ih := run_ok ht (Q := Q) k
    unfold run at h
    split at h
    · split at h
      · obtain ⟨h1, h0, h2⟩ := ih _ _ _ _ _ _ _ _ h hp he; exact ⟨h1, h0, fun x => sw_seq (h2 x)⟩
      · obtain ⟨h1, h0, h2⟩ := ih _ _ _ _ _ _ _ _ h hp he; exact ⟨h1, h0, fun x => sw_skip (h2 x)⟩
      · obtain ⟨h1, h0, h2⟩ := ih _ _ _ _ _ _ _ _ h hp he; exact ⟨h1, h0, fun x => sw_label (h2 x)⟩
      · obtain ⟨h1, h0, h2⟩ := ih _ _ _ _ _ _ _ _ h hp he; exact ⟨h1, h0, fun x => sw_block (h2 x)⟩
      · obtain ⟨h1, h0, h2⟩ := ih _ _ _ _ _ _ _ _ h hp he; exact ⟨h1, h0, fun x => sw_scope (h2 x)⟩
      · obtain ⟨h1, h0, h2⟩ := ih _ _ _ _ _ _ _ _ h hp he; exact ⟨h1, h0, fun x => sw_exit (h2 x)⟩
      · obtain ⟨h1, h0, h2⟩ := ih _ _ _ _ _ _ _ _ h hp he; exact ⟨h1, h0, fun x => sw_ret (h2 x)⟩
      · split at h
        · obtain ⟨h1, h0, h2⟩ := ih _ _ _ _ _ _ _ _ h hp he; exact ⟨h1, h0, fun x => sw_region (h2 x)⟩
        · cases h
      · split at h
        · rename_i hc
          split at h
          · obtain ⟨h1, h0, h2⟩ := ih _ _ _ _ _ _ _ _ h hp he; exact ⟨h1, h0, fun x => sw_cond hc (fun _ => h2 x) (fun e => by cases e)⟩
          · obtain ⟨h1, h0, h2⟩ := ih _ _ _ _ _ _ _ _ h hp he; exact ⟨h1, h0, fun x => sw_cond hc (fun e => by cases e) (fun _ => h2 x)⟩
        · cases h
      · cases h
    · split at h
      · obtain ⟨h1, h0, h2⟩ := ih _ _ _ _ _ _ _ _ h hp he; exact ⟨h1, h0, fun x => so_nil (h2 x)⟩
      · split at h
        · rename_i d hd
          split at h
          · rename_i hb
            split at h
            · rename_i v0 ps0 lk0 hq
              split at h
              · rw [addP_eq, frc_eq] at h
                obtain ⟨h1, h0, h2⟩ := ih _ _ _ _ _ _ _ _ h hp he
                obtain ⟨h3, h4⟩ := allP_app h1
                exact ⟨h3, h0, fun x => so_v ht hd hb hq h4 (fun y hy => by cases hy) (h2 x)⟩
              · rename_i i a b
                rw [addP_eq, frc_eq] at h
                obtain ⟨h1, h0, h2⟩ := ih _ _ _ _ _ _ _ _ h hp he
                obtain ⟨h3, h4⟩ := allP_app h1
                simp only [List.cons.injEq] at h0
                exact ⟨h3, h0.2, fun x => so_v ht hd hb hq h4 (fun y hy => by cases hy; exact h0.1) (h2 x)⟩
            · cases h
          · cases h
        · cases h
    · split at h
      · cases h
      · split at h
        · obtain ⟨h1, h0, h2⟩ := ih _ _ _ _ _ _ _ _ h hp he; exact ⟨h1, h0, fun x => h2 x⟩
        · rename_i e1 hne
          obtain ⟨h1, h0, h2⟩ := ih _ _ _ _ _ _ _ _ h hp he
          exact ⟨h1, h0, fun x => den_seq hne (h2 x)⟩
      · split at h
        · split at h
          · rename_i e
            obtain ⟨h1, h0, h2⟩ := ih _ _ _ _ _ _ _ _ h hp he
            refine ⟨h1, h0, fun x => ?_⟩
            have := h2 x
            simp only [Hd, Cf.holds, Kt.den, e] at this ⊢
            exact this
          · rename_i e
            obtain ⟨h1, h0, h2⟩ := ih _ _ _ _ _ _ _ _ h hp he
            refine ⟨h1, h0, fun x => ?_⟩
            have := h2 x
            simp only [Hd, Cf.holds, Kt.den, e] at this ⊢
            exact this
        · rename_i e1 hne
          obtain ⟨h1, h0, h2⟩ := ih _ _ _ _ _ _ _ _ h hp he
          exact ⟨h1, h0, fun x => den_blk hne (h2 x)⟩
      · split at h
        · cases h
        · rename_i e1 hne
          obtain ⟨h1, h0, h2⟩ := ih _ _ _ _ _ _ _ _ h hp he
          exact ⟨h1, h0, fun x => den_sc hne (h2 x)⟩
      · split at h
        · cases h
        · rename_i e1 hne
          obtain ⟨h1, h0, h2⟩ := ih _ _ _ _ _ _ _ _ h hp he
          exact ⟨h1, h0, fun x => den_lp hne (h2 x)⟩
theorem go {tb : Tb} (ht : tbB P tb = true) (k : Nat) {Q : Qs} {c c' : Cf} {ks ks' : List Kt} {F F' : Nat → PV} {L L' : Nat → Blk} {ps : List Prop} {as0 bs : List Nat} (h : run tb n k c ks F L [] [] [] = some ⟨c', ks', F', L', ps, as0, bs⟩) (he : as0 = bs) (hp : AllP ps) (next : Hd P n N H0 Q c' ks' ⟨F', L'⟩) : Hd P n N H0 Q c ks ⟨F, L⟩ :=
  (run_ok ht k c ks F L [] [] [] _ h hp he).2.2 next
end Go.SW
namespace Go.SW
variable {P : Program} {n : Nat} {N : Rest} {H0 : Env}
/-- What stands for less. -/
def PLe (p q : PV) : Prop := ∀ H v, Sim H p v → Sim H q v
theorem ple {p q : PV} (h : p = q) : PLe p q := fun _ _ x => h ▸ x
theorem ple_nil {α : Type} {enc : α → List PV} : PLe (.val (.slice none 0 0)) (.sl enc []) := fun H v h => by
  rw [h.inv_val]; exact Sim.of_slh (k := 0) slh_nil (by simp)
def PLes (ps qs : List PV) : Prop := ∀ H vs, Sims H ps vs → Sims H qs vs
theorem ples_nil : PLes [] [] := fun _ _ h => h
theorem ples_cons {p q : PV} {ps qs : List PV} (h : PLe p q) (k : PLes ps qs) : PLes (p :: ps) (q :: qs) := fun H vs x => by
  obtain ⟨v, us, rfl, h1, h2⟩ := x.inv_cons
  exact (k H us h2).cons (h H v h1)
theorem ples_rfl {ps : List PV} : PLes ps ps := fun _ _ h => h
theorem ple_tup {ps qs : List PV} (h : PLes ps qs) : PLe (.tup ps) (.tup qs) := fun H v x => by
  obtain ⟨vs, rfl, h1⟩ := x.inv_tup
  exact Sim.toTup (h H vs h1)
theorem PLe.trans {a b c : PV} (h : PLe a b) (k : PLe b c) : PLe a c := fun H v x => k H v (h H v x)
/-- The function, called with what args stand for, hands back what res stands for. -/
structure Fn (P : Program) (G : Gb) (f : FuncId) (args : List PV) (res : PV) : Prop where
  cb : Callable P f
  no : res.noOsl = true
  run : ∀ (N : Rest) (H : Hp) (L : Ls) (w : World) (vs : List Value), G.p H → Sims H args vs → Mem N H L w → Calls P f vs.toArray w fun e w' => ∃ v H', e = .returned v ∧ Sim H' res v ∧ HLe H H' ∧ Mem N H' L w'
theorem Fn.ph {G : Gb} {f : FuncId} {args : List PV} {res : PV} {H : Hp} {vs : List Value} (h : Fn P G f args res) (hg : G.p H) (hs : Sims H args vs) : Ph P f vs.toArray H (fun v H' => Sim H' res v) := fun N L w hm =>
  (h.run N H L w vs hg hs hm).mono fun _ _ ⟨v, H', h1, h2, h3, h4⟩ => ⟨v, H', h1, h2, h3, h4⟩
theorem Fn.pr {G : Gb} {f : FuncId} {args : List PV} {res : PV} {H : Hp} {vs : List Value} (h : Fn P G f args res) (hf : res.flat = true) (hg : G.p H) (hs : Sims H args vs) {v : Value} {H1 : Hp} (hv : Sim H1 res v) : Pr P f vs.toArray H v := fun N L w hm =>
  (h.run N H L w vs hg hs hm).mono fun _ _ ⟨v', H', h1, h2, h3, h4⟩ => ⟨by rw [h1, Sim.uniq hf h2 hv], h4.le h3⟩
theorem Fn.le {G : Gb} {f : FuncId} {args args' : List PV} {res res' : PV} (h : Fn P G f args res) (ha : PLes args' args) (hr : PLe res res') (hn : res'.noOsl = true) : Fn P G f args' res' :=
  ⟨h.cb, hn, fun N H L w vs hg hs hm => (h.run N H L w vs hg (ha H vs hs) hm).mono fun _ _ ⟨v, H', h1, h2, h3, h4⟩ => ⟨v, H', h1, hr H' v h2, h3, h4⟩⟩
/-! What a body hands back -/
def resP1 (tb : Tb) (s : St) : ResultVar → Option PR
  | .tmp t => some (.q (s.F t))
  | .cell a T => pLoad tb s.L T (s.F a)
def resPs (tb : Tb) (s : St) : List ResultVar → Option (List PV × List Nat × List Nat)
  | [] => some ([], [], [])
  | r :: rs => match resP1 tb s r with
    | some x => match resPs tb s rs with
      | some (ps, as0, bs) => frc x.v fun v => match x.lk with
        | none => some (v :: ps, as0, bs)
        | some (_, a, b) => some (v :: ps, a :: as0, b :: bs)
      | none => none
    | none => none
def tupP : List PV → PV
  | [p] => p
  | ps => .tup ps
theorem rv_1 {tb : Tb} {s : St} {F : Fr} {H : Hp} {L : Ls} {r : ResultVar} {x : PR} (ht : tbB P tb = true) (ha : Abs H0 s F H L) (h : resP1 tb s r = some x) (he : ∀ y, x.lk = some y → y.2.1 = y.2.2) : ∃ v, RV P N F H L r v ∧ Sim H x.v v := by
  cases r with
  | tmp t => simp only [resP1, Option.some.injEq] at h; subst h; exact ⟨F t, rv_t rfl, (ha.f t).sim⟩
  | cell a T =>
    simp only [resP1] at h
    obtain ⟨v, h1, h2⟩ := y_load (P := P) (N := N) (ty := 0) (x := .tmp a) ht ha.l (ha.f a) h he
    refine ⟨v, fun w tmps htm hm => ?_, h1.sim⟩
    have h3 := h2 H L (.refl H) (fun _ _ => rfl) none "" #[] none w hm
    simp only [rvS, htm a]
    simp only [execOp, ev, Instr.loadAt] at h3
    revert h3
    cases F a with
    | pointer q =>
      cases q with
      | some q => 
        simp [Instr.sureAddr, asAddr]
        intro h3
        cases hr : (loadVar T q).run P w with
        | ok x w' => rw [hr] at h3; simp [Result.andThen] at h3; simp [h3]
        | halt x w' => rw [hr] at h3; simp [Result.andThen] at h3
      | none => intro h3; simp [Instr.sureAddr] at h3
    | _ => intro h3; simp [Instr.sureAddr] at h3
theorem rvs_run {tb : Tb} {s : St} {F : Fr} {H : Hp} {L : Ls} (ht : tbB P tb = true) (ha : Abs H0 s F H L) : ∀ (rs : List ResultVar) (ps : List PV) (as0 bs : List Nat), resPs tb s rs = some (ps, as0, bs) → as0 = bs →
    ∃ vs : List Value, Sims H ps vs ∧ ∀ (w : World) (tmps : Array Value), (∀ t, tmps.getD t undef = F t) → Mem N H L w → (rs.mapM (rvS tmps)).run P w = .ok vs w
  | [], ps, as0, bs, h, _ => by simp only [resPs, Option.some.injEq, Prod.mk.injEq] at h; obtain ⟨rfl, _⟩ := h; exact ⟨[], Sims.nil, fun w tmps _ _ => by simp⟩
  | r :: rs, ps, as0, bs, h, he => by
    simp only [resPs] at h
    split at h
    · rename_i x hx
      split at h
      · rename_i ps' as' bs' hps
        rw [frc_eq] at h
        split at h
        · rename_i hlk
          simp only [Option.some.injEq, Prod.mk.injEq] at h
          obtain ⟨rfl, rfl, rfl⟩ := h
          obtain ⟨vs, h1, h2⟩ := rvs_run ht ha rs _ _ _ hps he
          obtain ⟨v, h3, h4⟩ := rv_1 (N := N) ht ha hx (fun y hy => by rw [hlk] at hy; cases hy)
          exact ⟨v :: vs, h1.cons h4, fun w tmps htm hm => by simp [List.mapM_cons, h3 w tmps htm hm, h2 w tmps htm hm]⟩
        · rename_i i a b hlk
          simp only [Option.some.injEq, Prod.mk.injEq] at h
          obtain ⟨rfl, rfl, rfl⟩ := h
          simp only [List.cons.injEq] at he
          obtain ⟨vs, h1, h2⟩ := rvs_run ht ha rs _ _ _ hps he.2
          obtain ⟨v, h3, h4⟩ := rv_1 (N := N) ht ha hx (fun y hy => by rw [hlk] at hy; cases hy; exact he.1)
          exact ⟨v :: vs, h1.cons h4, fun w tmps htm hm => by simp [List.mapM_cons, h3 w tmps htm hm, h2 w tmps htm hm]⟩
      · cases h
    · cases h
/-- The post of a body: what is handed back stands for res. -/
def rtK (tb : Tb) (rs : List ResultVar) (res : PV) : Qs := fun e s => (e = .normal ∨ e = .ret) ∧ ∃ ps as0 bs, resPs tb s rs = some (ps, as0, bs) ∧ as0 = bs ∧ PLe (tupP ps) res
theorem rt {tb : Tb} {rs : List ResultVar} {res : PV} {s : St} {ps : List PV} {as0 bs : List Nat} (h : resPs tb s rs = some (ps, as0, bs)) (he : as0 = bs) (hp : PLe (tupP ps) res) : Hd P n N H0 (rtK tb rs res) (.ex .ret) [] s := ⟨.inr rfl, ps, as0, bs, h, he, hp⟩
theorem rtK_res {tb : Tb} {fn : Func} {res : PV} {s : St} {F : Fr} {H : Hp} {L : Ls} {e : Exit} (ht : tbB P tb = true) (ha : Abs H0 s F H L) (h : rtK tb fn.results.toList res e s) : (e = .normal ∨ e = .ret) ∧ ∃ v, Res P N fn F H L v ∧ Sim H res v := by
  obtain ⟨he, ps, as0, bs, h1, h2, h3⟩ := h
  refine ⟨he, ?_⟩
  obtain ⟨vs, h4, h5⟩ := rvs_run (N := N) ht ha _ _ _ _ h1 h2
  have h6 : ∀ (w : World) (tmps : Array Value), (∀ t, tmps.getD t undef = F t) → Mem N H L w → (fn.results.mapM (rvS tmps)).run P w = .ok vs.toArray w := fun w tmps htm hm => by
    rw [Array.mapM_eq_mapM_toList]
    simp [h5 w tmps htm hm]
  match ps, vs, h4, h6, h3 with
  | [p], [v], h4, h6, h3 =>
    refine ⟨v, fun w tmps htm hm => ?_, h3 H v (h4.2 0 p v rfl rfl)⟩
    rw [results_eq, Sem.run_bind, h6 w tmps htm hm]
    simp
  | [], vs, h4, h6, h3 =>
    cases h4.inv_nil
    refine ⟨.tuple #[], fun w tmps htm hm => ?_, h3 H _ (Sim.toTup (vs := []) Sims.nil)⟩
    rw [results_eq, Sem.run_bind, h6 w tmps htm hm]
    simp
  | p :: q :: r, vs, h4, h6, h3 =>
    refine ⟨.tuple vs.toArray, fun w tmps htm hm => ?_, h3 H _ (Sim.toTup h4)⟩
    rw [results_eq, Sem.run_bind, h6 w tmps htm hm]
    have : vs.length ≠ 1 := by rw [h4.1]; simp
    simp [this]
  | [p], [], h4, _, _ => exact absurd h4.1 (by simp)
  | [p], _ :: _ :: _, h4, _, _ => exact absurd h4.1 (by simp)
/-! From a body's walk to a contract -/
def initP (args : List PV) : Nat → PV := fun t => match nth args t with
  | some p => p
  | none => .junk
def noOsls : List PV → Bool
  | [] => true
  | p :: r => p.noOsl && noOsls r
theorem noOsls_get : ∀ {ps : List PV} {i : Nat} {p : PV}, noOsls ps = true → ps[i]? = some p → p.noOsl = true
  | [], i, p, _, h => by simp at h
  | q :: r, 0, p, h, hp => by simp only [noOsls, Bool.and_eq_true] at h; simp at hp; rw [← hp]; exact h.1
  | q :: r, i + 1, p, h, hp => by simp only [noOsls, Bool.and_eq_true] at h; exact noOsls_get h.2 (by simpa using hp)
theorem init_sim {sL : Nat → Blk} {H : Hp} {args : List PV} {vs : List Value} (hs : Sims H args vs) (hn : noOsls args = true) (t : Nat) : SimT sL H (initP args t) (initF vs.toArray t) := by
  unfold initP
  rw [nth_eq]
  cases h : args[t]? with
  | none => exact Sim.junk
  | some p =>
    obtain ⟨v, hv, hp⟩ := hs.get h
    refine Sim.simT ?_ (noOsls_get hn h)
    simpa [initF, List.getD_eq_getElem?_getD, hv] using hp
theorem fn_cw {tb : Tb} {G : Gb} {m : Nat} {f : FuncId} {fn : Func} {c : Code} {args : List PV} {res : PV} (ht : tbB P tb = true) (hf : P.funcs[f]? = some fn) (hb : fn.body = some c) (hn : fn.ntmps = m) (hs : Nat.ble args.length m = true) (hcb : Callable P f) (hno : res.noOsl = true) (hna : noOsls args = true)
    (h : PV.wfs args → ∀ N H, G.p H → Hd P m N ⟨H, G⟩ (rtK tb fn.results.toList res) (.code c) [] ⟨initP args, fun _ => .no⟩) : Fn P G f args res := by
  refine ⟨hcb, hno, fun N H L w vs hg hsim hm => ?_⟩
  subst hn
  have key : Ph P f vs.toArray H (fun v H' => Sim H' res v) := by
    refine ph_of_cw hf hb (by have := Nat.le_of_ble_eq_true hs; simp [hsim.1]; exact this) fun N => ?_
    have h1 := h hsim.wf N H hg (initF vs.toArray) H l0 ⟨.refl H, hg, fun t => init_sim hsim hna t, fun i => trivial⟩
    refine cw_mono (fun e F' H' L' hq => ?_) h1
    obtain ⟨s', ha', hq'⟩ := hq
    obtain ⟨he, v, hr, hv⟩ := rtK_res (N := N) ht ha' hq'
    rcases he with rfl | rfl
    · exact ⟨v, hr, ha'.le, hv⟩
    · exact ⟨v, hr, ha'.le, hv⟩
  exact (key N L w hm).mono fun _ _ ⟨v, H', h1, h2, h3, h4⟩ => ⟨v, H', h1, h2, h3, h4⟩
/-! Calls -/
theorem en_any {F : Fr} {x : Operand} {f : FuncId} {fs cap : List Value} {xs : Array Operand} {ats : Array TypeId} (hx : ev F x = .func (.func f) fs.toArray cap.toArray) (hc : Callable P f) : En P (.call ⟨.value x, xs, ats⟩) F f (fs ++ evs F xs.toList ++ cap).toArray := fun ty d pos af g w => by
  have := hc (fs ++ evs F xs.toList ++ cap).toArray w
  have e3 : xs.map (ev F) = (evs F xs.toList).toArray := by rw [← evs_map]; apply Array.ext'; simp
  simp only [List.append_assoc] at this ⊢
  simp [execOp, resolve, Deferred.ofValue, hx, invoke, e3, this]
/-- The arguments of a call. -/
def argsP (G : Nat → PV) (x : Operand) (xs : List Operand) : Option (FuncId × List PV) :=
  match evP G x with
  | .fn f fs cap => some (f, apL fs (apL (evPs G xs) cap))
  | _ => none
where apL : List PV → List PV → List PV
  | [], k => k
  | p :: r, k => p :: apL r k
theorem apL_eq : ∀ (a b : List PV), argsP.apL a b = a ++ b
  | [], b => rfl
  | p :: r, b => by simp [argsP.apL, apL_eq r b]
theorem args_ok {sL : Nat → Blk} {H : Hp} {F : Fr} {G : Nat → PV} {x : Operand} {xs : Array Operand} {ats : Array TypeId} {f : FuncId} {args : List PV} (hG : ∀ t, SimT sL H (G t) (F t)) (h : argsP G x xs.toList = some (f, args)) (hc : Callable P f) : ∃ vs, Sims H args vs ∧ En P (.call ⟨.value x, xs, ats⟩) F f vs.toArray := by
  unfold argsP at h
  split at h
  · rename_i f' fs cap he
    simp only [Option.some.injEq, Prod.mk.injEq] at h
    obtain ⟨rfl, rfl⟩ := h
    have h1 := (evP_ok hG x).sim
    rw [he] at h1
    obtain ⟨vs, us, e, h2, h3⟩ := h1.inv_fn
    refine ⟨vs ++ evs F xs.toList ++ us, ?_, en_any e hc⟩
    rw [apL_eq, apL_eq, ← List.append_assoc]
    exact (h2.append (evPs_sims fun y _ => evP_ok hG y)).append h3
  · cases h
theorem call {all rest : List Oper} {Q : Qs} {ks : List Kt} {s : St} {f : FuncId} {args : List PV} {res : PV} {x : Operand} {xs : Array Operand} {ats : Array TypeId} {ty d : Nat} {pos : String} {af : Array Edge} (h : Fn P H0.g f args res) (ha : argsP s.F x xs.toList = some (f, args)) (hd : Nat.blt d n = true)
    (k : res.wf → Hd P n N H0 Q (.ops all rest) ks ⟨updp s.F d res, s.L⟩) : Hd P n N H0 Q (.ops all (⟨some d, .call ⟨.value x, xs, ats⟩, ty, pos, af, none⟩ :: rest)) ks s := by
  intro F H L hab
  obtain ⟨vs, h1, h2⟩ := args_ok (ats := ats) hab.f ha h.cb
  refine ow1 (op1_ph (h.ph hab.g h1) h2 hd fun v H' hv hl => ?_)
  exact k hv.wf _ _ _ ((hab.mono hl).put d (hv.simT h.no))
/-- The condition of a guarded operation. -/
def gOp (s : St) (all : List Oper) (j : Nat) (want : Bool) : Option Bool :=
  match nth all j with
  | some oj => match oj.dst with
    | some dj => gC (s.F dj) want
    | none => none
  | none => none
theorem gOp_ok {s : St} {all : List Oper} {j : Nat} {want g : Bool} {F : Fr} {H : Hp} {L : Ls} (ha : Abs H0 s F H L) (h : gOp s all j want = some g) : ∃ c b, yF all F j = some (gv c (.bool b)) ∧ g = (c && gOf b want) := by
  unfold gOp at h
  split at h
  · rename_i oj hj
    split at h
    · rename_i dj hdj
      obtain ⟨c, b, hv, hge⟩ := gC_ok h (ha.f dj).sim
      exact ⟨c, b, by rw [yF_of hj hdj, hv], hge⟩
    · cases h
  · cases h
/-- Any operation under a guard: where the guard is so, it does what it does alone. -/
theorem ow_gd {F : Fr} {H : Hp} {L : Ls} {ops rest : List Oper} {op : Op} {ty j d : Nat} {pos : String} {af : Array Edge} {Q : Qt} {want c b : Bool} (hy : yF ops F j = some (gv c (.bool b))) (hd : Nat.blt d n = true)
    (ht : (c && gOf b want) = true → Op1 P n N ops ⟨some d, op, ty, pos, af, none⟩ (fun F H L => Ow P n N ops rest Q F H L) F H L) (hf : (c && gOf b want) = false → Ow P n N ops rest Q (upd F d undef) H L) : Ow P n N ops (⟨some d, op, ty, pos, af, some (j, want)⟩ :: rest) Q F H L := by
  cases c with
  | false =>
    refine ow1 fun a w ha hm => ?_
    have : yielded ops.toArray a.tmps j = none := yielded_none ha hy
    rw [if_neg (by simp [Region.wanted, this])]
    exact ⟨_, _, _, ha.put (by simpa using hd) undef, hm, hf rfl⟩
  | true =>
    by_cases e : b = want
    · subst e
      exact ow1 (op1_gd hy rfl (ht (by cases b <;> rfl)))
    · refine ow1 (op1_gs hy (b := b) ?_ hd (hf ?_))
      · cases b <;> cases want <;> simp_all
      · cases b <;> cases want <;> simp_all [gOf]
theorem callg {all rest : List Oper} {Q : Qs} {ks : List Kt} {s : St} {f : FuncId} {args : List PV} {res : PV} {x : Operand} {xs : Array Operand} {ats : Array TypeId} {ty d j : Nat} {want g : Bool} {pos : String} {af : Array Edge} (hg : gOp s all j want = some g) (h : g = true → Fn P H0.g f args res) (ha : argsP (strG (tmpOf xs.toList) s.F) x xs.toList = some (f, args)) (hc : AllP (conds s.F g (tmpOf xs.toList) [])) (hno : noOslG s.F (tmpOf xs.toList) = true) (hd : Nat.blt d n = true)
    (k : (g = true → res.wf) → Hd P n N H0 Q (.ops all rest) ks ⟨updp s.F d (.gv g res), s.L⟩) : Hd P n N H0 Q (.ops all (⟨some d, .call ⟨.value x, xs, ats⟩, ty, pos, af, some (j, want)⟩ :: rest)) ks s := by
  intro F H L hab
  obtain ⟨c, b, hy, hge⟩ := gOp_ok hab hg
  refine ow_gd hy hd (fun e => ?_) (fun e => ?_)
  · have hgt := hge.trans e
    have hF := h hgt
    obtain ⟨vs, h1, h2⟩ := args_ok (ats := ats) (strG_ok hab.f (fun t ht c v e => (conds_ok hc).2 t ht c v e hgt) (noOslG_ok hno)) ha hF.cb
    refine op1_ph (hF.ph hab.g h1) h2 hd fun v H' hv hl => ?_
    refine k (fun _ => hv.wf) _ _ _ ((hab.mono hl).put d ?_)
    rw [hgt]
    exact Sim.gvt hv
  · have hgf := hge.trans e
    refine k (fun e => by rw [hgf] at e; cases e) _ _ _ (hab.put d ?_)
    rw [hgf]
    exact Sim.gvf
end Go.SW
namespace Go.SW
variable {P : Program} {n : Nat} {N : Rest} {H0 : Env}
theorem cnd {Q : Qs} {ks : List Kt} {s : St} {c : Operand} {x y : Code} {b : Bool} (hc : evP s.F c = .bool b) (ht : b = true → Hd P n N H0 Q (.code x) ks s) (hf : b = false → Hd P n N H0 Q (.code y) ks s) : Hd P n N H0 Q (.code (.cond c x y)) ks s := sw_cond hc ht hf
/-! Loops -/
def Junk (s s' : St) : Prop := (∀ t, s'.F t = s.F t ∨ s'.F t = .junk) ∧ ∀ i, s'.L i = s.L i ∨ s'.L i = .no
theorem Junk.le {s s' : St} (h : Junk s s') : StLe s s' := fun H0 F H L ha => by
  refine ⟨ha.le, ha.g, fun t => ?_, fun i => ?_⟩
  · rcases h.1 t with e | e
    · rw [e]
      have h1 := ha.f t
      generalize s.F t = p at *
      cases p with
      | osl i =>
        simp only [SimT] at h1 ⊢
        rcases h.2 i with e2 | e2
        · rw [e2]; exact h1
        · rw [e2]; trivial
      | _ => exact h1
    · rw [e]; exact Sim.junk
  · rcases h.2 i with e | e
    · rw [e]
      have h1 := ha.l i
      generalize s.L i = B at *
      cases B with
      | box b T cs =>
        obtain ⟨vs, h2, h3, h4⟩ := h1
        refine ⟨vs, h2, h3, fun j p v hp hv => ?_⟩
        have h5 := h4 j p v hp hv
        cases p with
        | osl q =>
          simp only [SimT] at h5 ⊢
          rcases h.2 q with e2 | e2
          · rw [e2]; exact h5
          · rw [e2]; trivial
        | _ => exact h5
      | no => trivial
      | arr u k e enc xs => exact h1
      | itr b s p => exact h1
    · rw [e]; trivial
def lkF : List (Nat × PV) → Nat → Option PV
  | [], _ => none
  | (a, x) :: r, t => bif Nat.beq t a then some x else lkF r t
/-- The frame at a loop's head: what is told, what is kept, nothing else. -/
def mkF (lv : List (Nat × PV)) (keep : List Nat) (G : Nat → PV) : Nat → PV := fun t => match lkF lv t with
  | some p => p
  | none => bif memB keep t then G t else .junk
def lkL : List (Nat × Blk) → Nat → Option Blk
  | [], _ => none
  | (a, x) :: r, t => bif Nat.beq t a then some x else lkL r t
def mkL (lv : List (Nat × Blk)) (keep : List Nat) (G : Nat → Blk) : Nat → Blk := fun t => match lkL lv t with
  | some p => p
  | none => bif memB keep t then G t else .no
def AllF (F : Nat → PV) : List (Nat × PV) → Prop
  | [] => True
  | (t, p) :: r => F t = p ∧ AllF F r
def AllL (F : Nat → Blk) : List (Nat × Blk) → Prop
  | [] => True
  | (t, p) :: r => F t = p ∧ AllL F r
theorem allF_lk {F : Nat → PV} : ∀ {lv : List (Nat × PV)} {t : Nat} {p : PV}, AllF F lv → lkF lv t = some p → F t = p
  | [], t, p, _, h => by cases h
  | (a, x) :: r, t, p, h, hl => by
    simp only [lkF] at hl
    cases e : Nat.beq t a with
    | true => rw [e] at hl; simp at hl; rw [Nat.eq_of_beq_eq_true e, ← hl]; exact h.1
    | false => rw [e] at hl; exact allF_lk h.2 (by simpa using hl)
theorem allL_lk {F : Nat → Blk} : ∀ {lv : List (Nat × Blk)} {t : Nat} {p : Blk}, AllL F lv → lkL lv t = some p → F t = p
  | [], t, p, _, h => by cases h
  | (a, x) :: r, t, p, h, hl => by
    simp only [lkL] at hl
    cases e : Nat.beq t a with
    | true => rw [e] at hl; simp at hl; rw [Nat.eq_of_beq_eq_true e, ← hl]; exact h.1
    | false => rw [e] at hl; exact allL_lk h.2 (by simpa using hl)
theorem map_mem {α : Type _} {F G : Nat → α} : ∀ {l : List Nat}, l.map F = l.map G → ∀ t ∈ l, F t = G t
  | [], _, t, h => by cases h
  | a :: r, e, t, h => by
    simp only [List.map_cons, List.cons.injEq] at e
    rcases List.mem_cons.1 h with rfl | q
    · exact e.1
    · exact map_mem e.2 t q
theorem mk_le {s : St} {lv : List (Nat × PV)} {keep : List Nat} {G : Nat → PV} {lL : List (Nat × Blk)} {kL : List Nat} {GL : Nat → Blk} (h1 : keep.map s.F = keep.map G) (h2 : kL.map s.L = kL.map GL) (h3 : AllF s.F lv) (h4 : AllL s.L lL) : StLe s ⟨mkF lv keep G, mkL lL kL GL⟩ := by
  refine Junk.le ⟨fun t => ?_, fun i => ?_⟩
  · simp only [mkF]
    cases e : lkF lv t with
    | some p => exact .inl (allF_lk h3 e).symm
    | none =>
      cases e2 : memB keep t with
      | true => exact .inl (map_mem h1 t (memB_spec e2)).symm
      | false => exact .inr rfl
  · simp only [mkL]
    cases e : lkL lL i with
    | some p => exact .inl (allL_lk h4 e).symm
    | none =>
      cases e2 : memB kL i with
      | true => exact .inl (map_mem h2 i (memB_spec e2)).symm
      | false => exact .inr rfl
/-- What holds at a round's end: a head again, of a lower number. -/
def LJ {ι : Type _} (S : ι → St) (Φ : ι → Prop) (μ : ι → Nat) (m : Nat) : St → Prop := fun s => ∃ x, Φ x ∧ μ x < m ∧ StLe s (S x)
theorem sw_loop {ι : Type _} {c : Code} {ks : List Kt} {Q : Qs} {s : St} (S : ι → St) (Φ : ι → Prop) (μ : ι → Nat) (x0 : ι) (h0 : StLe s (S x0)) (hΦ : Φ x0) (body : ∀ x, Φ x → Hd P n N H0 Q (.code c) (.lp (LJ S Φ μ (μ x)) :: ks) (S x)) : Hd P n N H0 Q (.code (.loop c)) ks s := by
  intro F H L ha
  refine cw_loop (fun k F H L => ∃ x, Φ x ∧ μ x = k ∧ Abs H0 (S x) F H L) (μ x0) ⟨x0, hΦ, rfl, h0 _ _ _ _ ha⟩ fun k F H L hI => ?_
  obtain ⟨x, hx, rfl, hax⟩ := hI
  refine cw_mono (fun e F' H' L' hq => ?_) (body x hx F H L hax)
  obtain ⟨s', ha', hq'⟩ := hq
  cases e with
  | normal =>
    obtain ⟨x', h1, h2, h3⟩ := hq'
    exact ⟨μ x', h2, x', h1, rfl, h3 _ _ _ _ ha'⟩
  | _ => exact ⟨s', ha', hq'⟩
theorem loop {ι : Type _} {c : Code} {ks : List Kt} {Q : Qs} {s : St} (keep kL : List Nat) (lv : ι → List (Nat × PV)) (lL : ι → List (Nat × Blk)) (Φ : ι → Prop) (μ : ι → Nat) (x0 : ι) (h1 : AllF s.F (lv x0)) (h2 : AllL s.L (lL x0)) (hΦ : Φ x0) (body : ∀ x, Φ x → Hd P n N H0 Q (.code c) (.lp (LJ (fun x => ⟨mkF (lv x) keep s.F, mkL (lL x) kL s.L⟩) Φ μ (μ x)) :: ks) ⟨mkF (lv x) keep s.F, mkL (lL x) kL s.L⟩) : Hd P n N H0 Q (.code (.loop c)) ks s :=
  sw_loop (fun x => ⟨mkF (lv x) keep s.F, mkL (lL x) kL s.L⟩) Φ μ x0 (mk_le rfl rfl h1 h2) hΦ body
theorem next {ι : Type _} {keep kL : List Nat} {G : Nat → PV} {GL : Nat → Blk} {lv : ι → List (Nat × PV)} {lL : ι → List (Nat × Blk)} {Φ : ι → Prop} {μ : ι → Nat} {m : Nat} {s : St} {ks : List Kt} {Q : Qs} (x' : ι) (h1 : keep.map s.F = keep.map G) (h2 : kL.map s.L = kL.map GL) (h3 : AllF s.F (lv x')) (h4 : AllL s.L (lL x')) (hm : μ x' < m) (hΦ : Φ x') : Hd P n N H0 Q (.ex .normal) (.lp (LJ (fun x => ⟨mkF (lv x) keep G, mkL (lL x) kL GL⟩) Φ μ m) :: ks) s :=
  ⟨x', hΦ, hm, mk_le h1 h2 h3 h4⟩
/-! Blocks that are owned -/
theorem simT_lups {L : Nat → Blk} {H : Hp} {i : Nat} {B : Blk} {p : PV} {v : Value} (h : SimT L H p v) (hi : p ≠ .osl i) : SimT (lups L i B) H p v := by
  cases p with
  | osl j =>
    have : j ≠ i := fun e => hi (by rw [e])
    simp only [SimT, lups_ne _ _ _ _ this] at h ⊢
    exact h
  | _ => exact h
def purge (i : Nat) : PV → PV
  | .osl j => bif Nat.beq j i then .junk else .osl j
  | p => p
theorem purge_ok {L : Nat → Blk} {H : Hp} {i : Nat} {B : Blk} {p : PV} {v : Value} (h : SimT L H p v) : SimT (lups L i B) H (purge i p) v := by
  cases p with
  | osl j =>
    simp only [purge]
    cases e : Nat.beq j i with
    | true => exact Sim.junk
    | false => exact simT_lups h (fun q => by cases q; simp at e)
  | _ => exact h
def purgeB (i : Nat) : Blk → Blk
  | .box b T cs => .box b T (cs.map (purge i))
  | B => B
theorem purges_ok {L : Nat → Blk} {H : Hp} {i : Nat} {B : Blk} {ps : List PV} {vs : List Value} (h : SimTs L H ps vs) : SimTs (lups L i B) H (ps.map (purge i)) vs := by
  refine ⟨by simp [h.1], fun j p v hp hv => ?_⟩
  rw [List.getElem?_map] at hp
  cases e : ps[j]? with
  | none => rw [e] at hp; cases hp
  | some q => rw [e] at hp; cases hp; exact purge_ok (h.2 j q v e hv)
def purgeF (i : Nat) (F : Nat → PV) : Nat → PV := fun t => purge i (F t)
def purgeL (i : Nat) (L : Nat → Blk) : Nat → Blk := fun t => purgeB i (L t)
/-- The owned block i is another one now. -/
theorem Abs.turn {s : St} {F : Fr} {H : Hp} {L : Ls} (ha : Abs H0 s F H L) (i : Nat) {B : Blk} {x : Option (Nat × Obj)} (hx : SimB (lups (purgeL i s.L) i B) H B x) : Abs H0 ⟨purgeF i s.F, lups (purgeL i s.L) i B⟩ F H (lupd L i x) := by
  have hshape : ∀ {q p v}, SimT (lups s.L i q) H p v → SimT (lups (purgeL i s.L) i q) H p v := fun {q p v} h => by
    cases p with
    | osl j =>
      by_cases e : j = i
      · subst e; simp only [SimT, lups_same] at h ⊢; exact h
      · simp only [SimT, lups_ne _ _ _ _ e, purgeL] at h ⊢
        generalize s.L j = C at *
        cases C <;> exact h
    | _ => exact h
  refine ⟨ha.le, ha.g, fun t => hshape (purge_ok (ha.f t)), fun j => ?_⟩
  by_cases e : j = i
  · subst e; simp only [lups_same, lupd_same]; exact hx
  · simp only [lups_ne _ _ _ _ e, lupd_ne _ _ _ _ e, purgeL]
    have h1 := ha.l j
    generalize s.L j = C at *
    cases C with
    | box b T cs =>
      obtain ⟨vs, h2, h3⟩ := h1
      exact ⟨vs, h2, (purges_ok (B := B) h3).1, fun a p v hp hv => hshape ((purges_ok (B := B) h3).2 a p v hp hv)⟩
    | no => trivial
    | arr u k e enc xs => exact h1
    | itr b s p => exact h1
/-- The same, where no owned list was there. -/
theorem Abs.turnB {s : St} {F : Fr} {H : Hp} {L : Ls} (ha : Abs H0 s F H L) (i : Nat) {B : Blk} {x : Option (Nat × Obj)} (hB : match B with | .arr _ _ _ _ _ => False | _ => True) (hx : SimB (lups s.L i B) H B x) : Abs H0 ⟨s.F, lups s.L i B⟩ F H (lupd L i x) := by
  have hshape : ∀ {p v}, SimT s.L H p v → SimT (lups s.L i B) H p v := fun {p v} h => by
    cases p with
    | osl j =>
      by_cases e : j = i
      · subst e; simp only [SimT, lups_same]; cases B <;> first | trivial | exact hB.elim
      · simp only [SimT, lups_ne _ _ _ _ e] at h ⊢; exact h
    | _ => exact h
  refine ⟨ha.le, ha.g, fun t => hshape (ha.f t), fun j => ?_⟩
  by_cases e : j = i
  · subst e; simp only [lups_same, lupd_same]; exact hx
  · simp only [lups_ne _ _ _ _ e, lupd_ne _ _ _ _ e]
    have h1 := ha.l j
    generalize s.L j = C at *
    cases C with
    | box b T cs => obtain ⟨vs, h2, h3, h4⟩ := h1; exact ⟨vs, h2, h3, fun a p v hp hv => hshape (h4 a p v hp hv)⟩
    | no => trivial
    | arr u k e enc xs => exact h1
    | itr b s p => exact h1
variable {all rest : List Oper} {Q : Qs} {ks : List Kt} {s : St} {T ty d : Nat} {pos : String} {af : Array Edge} {x y z : Operand} {K : St → Prop}
/-- What an operation does: of what is owned it turns no block but j; then K. -/
def E1 (P : Program) (n : Nat) (N : Rest) (H0 : Env) (all : List Oper) (o : Oper) (j : Option Nat) (s : St) (K : St → Prop) : Prop :=
  ∀ F H L, Abs H0 s F H L → Op1 P n N all o (fun F' H' L' => HLe H H' ∧ (∀ i, j ≠ some i → L' i = L i) ∧ ∃ s', Abs H0 s' F' H' L' ∧ K s') F H L
theorem Op1.imp {o : Oper} {K K' : Fr → Hp → Ls → Prop} {F : Fr} {H : Hp} {L : Ls} (h : Op1 P n N all o K F H L) (hk : ∀ F H L, K F H L → K' F H L) : Op1 P n N all o K' F H L := fun a w ha hm => by
  have := h a w ha hm
  split
  · rename_i hw
    rw [if_pos hw] at this
    exact upon_monoQ (fun a' w' ⟨F', H', L', x, y, z⟩ => ⟨F', H', L', x, y, hk _ _ _ z⟩) (fun _ _ _ x => x) this
  · rename_i hw
    rw [if_neg hw] at this
    obtain ⟨F', H', L', x, y, z⟩ := this
    exact ⟨F', H', L', x, y, hk _ _ _ z⟩
theorem ef {o : Oper} {j : Option Nat} (h : E1 P n N H0 all o j s (fun s' => Hd P n N H0 Q (.ops all rest) ks s')) : Hd P n N H0 Q (.ops all (o :: rest)) ks s := fun F H L ha =>
  ow1 ((h F H L ha).imp fun F' H' L' ⟨_, _, s', h1, h2⟩ => h2 F' H' L' h1)
theorem only {L : Ls} {j : Nat} {x : Option (Nat × Obj)} : ∀ i, some j ≠ some i → lupd L j x i = L i := fun i h => lupd_ne _ _ _ _ fun e => h (by rw [e])
theorem sims_cells {L : Nat → Blk} {H : Hp} {ps : List PV} {vs : List Value} (h : Sims H ps vs) (hn : noOsls ps = true) : SimTs L H ps vs := ⟨h.1, fun i p v hp hv => (h.2 i p v hp hv).simT (noOsls_get hn hp)⟩
theorem boxA (i : Nat) {cs : List PV} (hx : evP s.F x = .agg cs) (hn : noOsls cs = true) (hd : Nat.blt d n = true) (k : ∀ b, K ⟨updp s.F d (.own i b 0), lups s.L i (.box b T cs)⟩) : E1 P n N H0 all ⟨some d, .box T x, ty, pos, af, none⟩ (some i) s K := by
  intro F H L ha
  have h1 := (evP_ok ha.f x).sim
  rw [hx] at h1
  obtain ⟨vs, e, h2⟩ := h1.inv_agg
  exact op1_box i hd e fun b => ⟨.refl H, only, _, (ha.turnB (B := .box b T cs) i trivial ⟨vs, rfl, sims_cells h2 hn⟩).put (p := .own i b 0) d Sim.own, k b⟩
theorem one_cells {v : Value} (h : v.oneCell' = true) : v.cells = #[v] := by cases v <;> first | rfl | (simp [Value.oneCell'] at h)
def evS (p : PV) : Option PV := frc p some
theorem evS_eq {p q : PV} (h : evS p = some q) : p = q := by simp only [evS, frc_eq, Option.some.injEq] at h; exact h
def evL (l : List PV) : Option (List PV) := frcL l some
theorem evL_eq {l m : List PV} (h : evL l = some m) : l = m := by simp only [evL, frcL_eq, Option.some.injEq] at h; exact h
theorem box1 (i : Nat) {p : PV} (hx : evS (evP s.F x) = some p) (ho : p.one = true) (hd : Nat.blt d n = true) (k : ∀ b, K ⟨updp s.F d (.own i b 0), lups s.L i (.box b T [p])⟩) : E1 P n N H0 all ⟨some d, .box T x, ty, pos, af, none⟩ (some i) s K := by
  intro F H L ha
  have hx := evS_eq hx
  have h1 := (evP_ok ha.f x).sim
  rw [hx] at h1
  have hno : p.noOsl = true := by cases p <;> first | rfl | (simp [PV.one] at ho)
  exact op1_box1 i hd rfl (one_cells (h1.one ho)) fun b => ⟨.refl H, only, _, (ha.turnB (B := .box b T [p]) i trivial ⟨[ev F x], rfl, sims_cells (Sims.nil.cons h1) (by simp [noOsls, hno])⟩).put (p := .own i b 0) d Sim.own, k b⟩
theorem alloc {tb : Tb} {ti : TI} {zs : List PV} (ht : tbB P tb = true) (i : Nat) (hti : lkT tb T = some ti) (hz : evL ti.zero = some zs) (hn : noOsls zs = true) (hd : Nat.blt d n = true) (k : ∀ b, K ⟨updp s.F d (.own i b 0), lups s.L i (.box b T zs)⟩) : E1 P n N H0 all ⟨some d, .alloc T, ty, pos, af, none⟩ (some i) s K := by
  intro F H L ha
  have hz := evL_eq hz
  subst hz
  obtain ⟨zv, hz, hs⟩ := (ti_ok ht hti).zero
  exact op1_alloc i hd (cs := zv.cells.toList) (fun w => ⟨zv, hz w, by simp⟩) fun b => ⟨.refl H, only, _, (ha.turnB (B := .box b T ti.zero) i trivial ⟨_, rfl, sims_cells (hs H) hn⟩).put (p := .own i b 0) d Sim.own, k b⟩
/-- Stores of one cell, of a struct's cells. -/
theorem SimTs.set {L : Nat → Blk} {H : Hp} {ps : List PV} {vs : List Value} (h : SimTs L H ps vs) {p : PV} {v : Value} (m : Nat) (hp : SimT L H p v) : SimTs L H (ps.set m p) (vs.set m v) := by
  refine ⟨by simp [h.1], fun i q u hq hu => ?_⟩
  rw [List.getElem?_set] at hq hu
  split at hq
  · rename_i e
    rw [if_pos e] at hu
    split at hq
    · split at hu
      · cases hq; cases hu; exact hp
      · cases hu
    · cases hq
  · rename_i e; rw [if_neg e] at hu; exact h.2 i q u hq hu
theorem SimTs.append {L : Nat → Blk} {H : Hp} {ps qs : List PV} {vs us : List Value} (h : SimTs L H ps vs) (k : SimTs L H qs us) : SimTs L H (ps ++ qs) (vs ++ us) := by
  refine ⟨by simp [h.1, k.1], fun i p v hp hv => ?_⟩
  rcases Nat.lt_or_ge i ps.length with q | q
  · rw [List.getElem?_append_left q] at hp; rw [List.getElem?_append_left (by rw [h.1]; exact q)] at hv; exact h.2 i p v hp hv
  · rw [List.getElem?_append_right q] at hp; rw [List.getElem?_append_right (by rw [h.1]; exact q), h.1] at hv; exact k.2 _ p v hp hv
theorem SimTs.take {L : Nat → Blk} {H : Hp} {ps : List PV} {vs : List Value} (h : SimTs L H ps vs) (m : Nat) : SimTs L H (ps.take m) (vs.take m) := by
  refine ⟨by simp [h.1], fun i p v hp hv => ?_⟩
  rw [List.getElem?_take] at hp hv
  split at hp
  · rename_i q; rw [if_pos q] at hv; exact h.2 i p v hp hv
  · cases hp
theorem SimTs.drop {L : Nat → Blk} {H : Hp} {ps : List PV} {vs : List Value} (h : SimTs L H ps vs) (m : Nat) : SimTs L H (ps.drop m) (vs.drop m) := by
  refine ⟨by simp [h.1], fun i p v hp hv => ?_⟩
  rw [List.getElem?_drop] at hp hv
  exact h.2 _ p v hp hv
theorem simT_box {L : Nat → Blk} {H : Hp} {i b b' : Nat} {T T' : TypeId} {cs cs' : List PV} (hb : L i = .box b T cs) {p : PV} {v : Value} (h : SimT L H p v) : SimT (lups L i (.box b' T' cs')) H p v := by
  cases p with
  | osl j =>
    by_cases e : j = i
    · subst e; simp only [SimT, lups_same]
    · simp only [SimT, lups_ne _ _ _ _ e] at h ⊢; exact h
  | _ => exact h
theorem store1 {tb : Tb} {ti : TI} {i b b' off T0 : Nat} {cs cs' : List PV} {p : PV} (ht : tbB P tb = true) (hx : evP s.F x = .own i b off) (hb : s.L i = .box b' T0 cs) (hti : lkT tb T = some ti) (hsz : ti.size = 1) (hy : evS (evP s.F y) = some p) (ho : p.one = true) (hl : Nat.blt off cs.length = true) (hbb : b' = b) (hc : evL (cs.set off p) = some cs')
    (k : K ⟨s.F, lups s.L i (.box b T0 cs')⟩) : E1 P n N H0 all ⟨none, .store T x y, ty, pos, af, none⟩ (some i) s K := by
  intro F H L ha
  subst hbb
  have hc := evL_eq hc
  subst hc
  have hy := evS_eq hy
  have h1 := (evP_ok ha.f x).sim
  rw [hx] at h1
  have h2 := evP_ok ha.f y
  unfold Ok1 at h2
  rw [hy] at h2
  have h3 := ha.l i
  rw [hb] at h3
  obtain ⟨vs, hL, hs⟩ := h3
  have hsz' := (ti_ok ht hti).sz
  rw [hsz] at hsz'
  refine op1_store1 h1.inv_own rfl (h2.sim.one ho) hsz' hL (by rw [hs.1]; exact hl) ?_
  refine ⟨.refl H, only, _, ha.turnB (B := .box _ T0 (cs.set off p)) i trivial ⟨_, rfl, ?_⟩, k⟩
  have h4 := hs.set off h2
  exact ⟨h4.1, fun j q v hq hv => simT_box hb (h4.2 j q v hq hv)⟩
def all1 : List PV → Bool
  | [] => true
  | p :: r => p.one && all1 r
theorem all1_ok {H : Hp} : ∀ {ps : List PV} {vs : List Value}, Sims H ps vs → all1 ps = true → vs.all Value.oneCell' = true
  | [], vs, h, _ => by cases h.inv_nil; rfl
  | p :: r, vs, h, ho => by
    obtain ⟨v, us, rfl, h1, h2⟩ := h.inv_cons
    simp only [all1, Bool.and_eq_true] at ho
    simp only [List.all_cons, Bool.and_eq_true]
    exact ⟨h1.one ho.1, all1_ok h2 ho.2⟩
theorem storeA {tb : Tb} {ti : TI} {i b b' off T0 : Nat} {cs ps cs' : List PV} (ht : tbB P tb = true) (hx : evP s.F x = .own i b off) (hb : s.L i = .box b' T0 cs) (hti : lkT tb T = some ti) (hy : evP s.F y = .agg ps) (hn : noOsls ps = true) (ho : all1 ps = true) (hsz : ps.length = ti.size) (hl : Nat.ble (off + ti.size) cs.length = true) (hbb : b' = b) (hc : evL (cs.take off ++ (ps ++ cs.drop (off + ti.size))) = some cs')
    (k : K ⟨s.F, lups s.L i (.box b T0 cs')⟩) : E1 P n N H0 all ⟨none, .store T x y, ty, pos, af, none⟩ (some i) s K := by
  intro F H L ha
  subst hbb
  have hc := evL_eq hc
  subst hc
  have h1 := (evP_ok ha.f x).sim
  rw [hx] at h1
  have h2 := (evP_ok ha.f y).sim
  rw [hy] at h2
  obtain ⟨us, e, h2⟩ := h2.inv_agg
  have h3 := ha.l i
  rw [hb] at h3
  obtain ⟨vs, hL, hs⟩ := h3
  have hl' := Nat.le_of_ble_eq_true hl
  refine op1_storeAp (m := ti.size) (vs.take off ++ (us ++ vs.drop (off + ti.size))) h1.inv_own e (all1_ok h2 ho) (ti_ok ht hti).sz (by rw [h2.1, hsz]) hL (by rw [hs.1]; exact hl) rfl ?_
  refine ⟨.refl H, only, _, ha.turnB (B := .box _ T0 _) i trivial ⟨_, rfl, ?_⟩, k⟩
  have h4 := (hs.take off).append ((sims_cells (L := s.L) h2 hn).append (hs.drop (off + ti.size)))
  exact ⟨h4.1, fun j q v hq hv => simT_box hb (h4.2 j q v hq hv)⟩
/-! Elements of lists -/
end Go.SW
namespace Go.SW
variable {P : Program} {n : Nat} {N : Rest} {H0 : Env} {all rest : List Oper} {Q : Qs} {ks : List Kt} {s : St} {T T2 ty d : Nat} {pos : String} {af : Array Edge} {x y z : Operand} {K : St → Prop}
/-! What an append takes -/
def SrcP (P : Program) (N : Rest) (H0 : Env) (s : St) {α : Type} (enc : α → List PV) (k : Nat) (y : Operand) (ys : List α) : Prop :=
  ∀ F H L, Abs H0 s F H L → ∃ news, Src P N H L k (ev F y) ys.length news ∧ Rl (RowE enc k) H ys news ∧ ∀ u ∈ news, u.oneCell' = true
theorem src_own {F : Fr} {H : Hp} {L : Ls} {k e i : Nat} {v : Value} {len : Nat} {cs : List Value} (h : OwnV k e v (L i) len cs) : Src P N H L k v len cs := by
  obtain ⟨hl, h⟩ := h
  refine ⟨hl, fun w hm => ?_⟩
  rcases h with ⟨rfl, rfl, _⟩ | ⟨b, cap, c, rfl, hL, hc, hle, ht⟩
  · have : cs = [] := List.length_eq_zero_iff.1 (by simpa using hl)
    subst this
    exact ⟨by simp [Builtin.lenOf], by simp [Builtin.firstCells]⟩
  · refine ⟨by simp [Builtin.lenOf], ?_⟩
    have := run_loadCells_list (P := P) w ⟨b, 0, none⟩ cs (fun j v hj => by
      rw [add_none, Nat.zero_add]
      refine hm.cellL hL ?_
      subst ht
      rw [List.getElem?_take] at hj
      split at hj
      · exact hj
      · cases hj)
    rw [hl] at this
    simpa [Builtin.firstCells] using this
theorem src_l {α : Type} {enc : α → List PV} {k : Nat} {ys : List α} (hy : evP s.F y = .sl enc ys) (hk : ∀ a, (enc a).length = k) : SrcP P N H0 s enc k y ys := fun F H L ha => by
  have h1 := (evP_ok ha.f y).sim
  rw [hy] at h1
  obtain ⟨k0, hs, hb⟩ := h1.slh
  cases ys with
  | nil =>
    obtain ⟨⟨a, c, e, hc⟩, _⟩ := hs
    refine ⟨[], ⟨by simp, fun w hm => ?_⟩, rl_nil, fun u hu => by cases hu⟩
    rw [e]
    refine ⟨by simp [Builtin.lenOf], ?_⟩
    cases a with
    | none => simp [Builtin.firstCells]
    | some a =>
      have := run_loadCells_list (P := P) w a [] (fun j v hj => by simp at hj)
      simpa [Builtin.firstCells] using this
  | cons a r =>
    have e : k0 = k := by
      obtain ⟨cs, hE, _⟩ := hs.get (show (a :: r)[0]? = some a from rfl)
      rw [← hE.1, hk]
    subst e
    obtain ⟨news, h2, h3, h4⟩ := src_slE (P := P) rowE_wide hs
    exact ⟨news, h4 N L, h2, h3⟩
theorem src_o {α : Type} {enc : α → List PV} {i e k : Nat} {u : Value} {ys : List α} (hy : evP s.F y = .osl i) (hb : s.L i = .arr u k e enc ys) : SrcP P N H0 s enc k y ys := fun F H L ha => by
  have h1 := evP_ok ha.f y
  unfold Ok1 at h1
  rw [hy] at h1
  simp only [SimT, hb] at h1
  have h2 := ha.l i
  rw [hb] at h2
  obtain ⟨cs, ho, hr, hm⟩ := h2
  rw [h1]
  exact ⟨cs, src_own (F := F) ho, hr, rl_one' rowE_wide hr⟩
def u8c (c : UInt8) : List PV := [.int .u8 c.toNat]
theorem u8_sim {H : Hp} (c : UInt8) : Sim H (.int .u8 c.toNat) (.int .u8 c.toNat) := by
  have := c.toNat_lt
  have e1 : IntKind.min .u8 = 0 := rfl
  have e2 : IntKind.max .u8 = 255 := rfl
  exact .int (by omega) (by omega)
/-- Two kinds of what is read of a type's row. -/
def noIntT (tb : Tb) (T : TypeId) : Bool :=
  match lkT tb T with
  | some ti => match ti.k with
    | .slc _ => true
    | .str => true
    | _ => false
  | none => false
theorem noIntT_ok {tb : Tb} (ht : tbB P tb = true) {T : TypeId} (h : noIntT tb T = true) : ∃ d2, P.underlying T = some d2 ∧ noInt d2 = true := by
  unfold noIntT at h
  split at h
  · rename_i ti hti
    split at h
    · rename_i e hk; exact ⟨_, (ti_ok ht hti).slc hk, rfl⟩
    · rename_i hk; exact ⟨_, (ti_ok ht hti).str hk, rfl⟩
    · cases h
  · cases h
theorem zero_one {tb : Tb} {t : Nat} {ti : TI} (ht : tbB P tb = true) (hti : lkT tb t = some ti) (h1 : ti.zero.length = ti.size) : ∃ zs : List Value, Zr P t zs ∧ zs.length = ti.size := by
  obtain ⟨zv, hz, hs⟩ := (ti_ok ht hti).zero
  exact ⟨zv.cells.toList, fun w => ⟨zv, hz w, by simp⟩, by rw [(hs (fun _ => none)).1, h1]⟩
/-- An append to what is owned. -/
theorem app {α : Type} {tb : Tb} {i e k : Nat} {u : Value} {enc : α → List PV} {xs : List α} {te : TI} (ht : tbB P tb = true) (ys : List α) (hx : evP s.F x = .osl i) (hb : s.L i = .arr u k e enc xs) {ti : TI} (hti : lkT tb T = some ti) (htk : ti.k = .slc e) (hT2 : noIntT tb T2 = true) (hte : lkT tb e = some te) (hz : te.zero.length = te.size) (hby : Nat.blt 0 te.bytes = true) (hk : te.size = k) (hy : SrcP P N H0 s enc k y ys) (hs : (xs.length + ys.length) * te.bytes ≤ 140737488355328) (hd : Nat.blt d n = true)
    (kk : ∀ u', K ⟨updp (purgeF i s.F) d (.osl i), lups (purgeL i s.L) i (.arr u' k e enc (xs ++ ys))⟩) : E1 P n N H0 all ⟨some d, .call ⟨.builtin .append, #[x, y], #[T, T2]⟩, ty, pos, af, none⟩ (some i) s K := by
  intro F H L ha
  have h1 := evP_ok ha.f x
  unfold Ok1 at h1
  rw [hx] at h1
  simp only [SimT, hb] at h1
  have h2 := ha.l i
  rw [hb] at h2
  obtain ⟨cs, ho, hr, hm⟩ := h2
  obtain ⟨news, h3, h4, h5⟩ := hy F H L ha
  obtain ⟨d2, hd2, hn2⟩ := noIntT_ok ht hT2
  obtain ⟨zs, hzr, hzl⟩ := zero_one ht hte hz
  have hok := ti_ok ht hte
  subst hk
  have hby' : 0 < te.bytes := by simpa using hby
  have hlen : xs.length + ys.length ≤ 140737488355328 := Nat.le_trans (Nat.le_mul_of_pos_right _ hby') hs
  refine op1_app i h1 rfl ((ti_ok ht hti).slc htk) hd2 hn2 hok.sz hok.by_ hby' hzr ho h3 h5 hzl hs hd fun v' en' hv' => ?_
  exact ⟨.refl H, only, _, (ha.turn i (B := .arr v' te.size e enc (xs ++ ys)) ⟨_, by simpa using hv', rl_app hr h4, by simpa using hlen⟩).put d (by simp [SimT, lups_same]), kk v'⟩
/-- A list that is built of its elements. -/
def bslP (G : Nat → PV) : List (Nat × Operand) → Nat → Option (List (List PV))
  | [], _ => some []
  | (j, x) :: r, i => match Nat.beq j i with
    | true => match (evP G x).cellsOf with
      | some c => match all1 c with
        | true => match bslP G r (i + 1) with
          | some rows => some (c :: rows)
          | none => none
        | false => none
      | none => none
    | false => none
theorem bslP_ok {sL : Nat → Blk} {H : Hp} {F : Fr} {G : Nat → PV} (hG : ∀ t, SimT sL H (G t) (F t)) {k : Nat} : ∀ (ps : List (Nat × Operand)) (i : Nat) (rows : List (List PV)), bslP G ps i = some rows → (∀ r ∈ rows, r.length = k) →
    inOrder k i (evp F ps) ∧ (evp F ps).length = rows.length ∧ ∀ {α : Type} (enc : α → List PV) (xs : List α), rows = xs.map enc → Rl (RowE enc k) H xs (catCells (evp F ps))
  | [], i, rows, h, _ => by
    simp only [bslP, Option.some.injEq] at h
    subst h
    exact ⟨trivial, rfl, fun enc xs e => by
      have : xs = [] := by simpa using e.symm
      subst this; exact rl_nil⟩
  | (j, x) :: r, i, rows, h, hk => by
    simp only [bslP] at h
    split at h
    · rename_i hj
      split at h
      · rename_i c hc
        split at h
        · rename_i h1
          split at h
          · rename_i rows' hr
            cases h
            obtain ⟨a1, a2, a3⟩ := bslP_ok hG r (i + 1) rows' hr fun q hq => hk q (List.mem_cons_of_mem _ hq)
            have hv := cellsOf_ok (evP_ok hG x).sim hc
            have hck := hk c List.mem_cons_self
            refine ⟨⟨Nat.eq_of_beq_eq_true hj, by rw [← hck, ← hv.1]; simp, a1⟩, by simp [evp, a2], fun enc xs e => ?_⟩
            cases xs with
            | nil => cases e
            | cons a xs =>
              simp only [List.map_cons, List.cons.injEq] at e
              obtain ⟨rfl, e2⟩ := e
              refine ⟨_, _, rfl, ⟨hck, hv, fun u hu => ?_⟩, a3 enc xs e2⟩
              have := all1_ok hv h1
              rw [List.all_eq_true] at this
              exact this u hu
          · cases h
        · cases h
      · cases h
    · cases h
theorem bsl {α : Type} {tb : Tb} (i : Nat) {e len : Nat} {ps : Array (Nat × Operand)} (enc : α → List PV) (xs : List α) {rows : List (List PV)} {ti te : TI} (ht : tbB P tb = true) (hti : lkT tb T = some ti) (htk : ti.k = .slc e) (hte : lkT tb e = some te) (hr : bslP s.F ps.toList 0 = some rows) (hx : rows = xs.map enc) (hk : ∀ a, (enc a).length = te.size) (hl : xs.length = len) (hs : len * te.size ≤ 16777216) (hs2 : len ≤ 140737488355328) (hd : Nat.blt d n = true)
    (kk : ∀ u', K ⟨updp (purgeF i s.F) d (.osl i), lups (purgeL i s.L) i (.arr u' te.size e enc xs)⟩) : E1 P n N H0 all ⟨some d, .buildSlice T len ps, ty, pos, af, none⟩ (some i) s K := by
  obtain ⟨pl, rfl⟩ : ∃ pl : List (Nat × Operand), ps = pl.toArray := ⟨ps.toList, by simp⟩
  simp only [List.toList_toArray] at hr
  intro F H L ha
  have hrow : ∀ r ∈ rows, r.length = te.size := fun r hr => by
    rw [hx] at hr
    obtain ⟨a, _, rfl⟩ := List.mem_map.1 hr
    exact hk a
  obtain ⟨a1, a2, a3⟩ := bslP_ok ha.f pl 0 rows hr hrow
  have hrl := a3 enc xs hx
  obtain ⟨zv, hz, _⟩ := (ti_ok ht hte).zero
  have hlen : (evp F pl).length = len := by rw [a2, hx]; simpa using hl
  refine op1_bslice i hd ((ti_ok ht hti).slc htk) (ti_ok ht hte).sz ⟨zv, hz⟩ rfl a1 hlen rfl hs fun b => ?_
  refine ⟨.refl H, only, _, (ha.turn i (B := .arr (.slice (some ⟨b, 0, none⟩) len len) te.size e enc xs) ⟨_, ?_, hrl, by omega⟩).put d (by simp [SimT, lups_same]), kk _⟩
  rw [← hl]
  exact ownV_bx (rl_len rowE_wide hrl)
/-! What is owned is given to be read, or lent -/
def giveP {α : Type} (i : Nat) (enc : α → List PV) (xs : List α) : PV → PV
  | .osl j => bif Nat.beq j i then .sl enc xs else .osl j
  | p => p
def giveF {α : Type} (i : Nat) (enc : α → List PV) (xs : List α) (F : Nat → PV) : Nat → PV := fun t => giveP i enc xs (F t)
def giveB {α : Type} (i : Nat) (enc : α → List PV) (xs : List α) : Blk → Blk
  | .box b T cs => .box b T (cs.map (giveP i enc xs))
  | B => B
def giveL {α : Type} (i : Nat) (enc : α → List PV) (xs : List α) (L : Nat → Blk) : Nat → Blk := fun t => bif Nat.beq t i then .no else giveB i enc xs (L t)
theorem Abs.give {α : Type} {i e k : Nat} {u : Value} {enc : α → List PV} {xs : List α} {F : Fr} {H H' : Hp} {L : Ls} (ha : Abs H0 s F H L) (hb : s.L i = .arr u k e enc xs) (hl : HLe H H') (hH : ∀ b o, L i = some (b, o) → H' b = some o) : Abs H0 ⟨giveF i enc xs s.F, giveL i enc xs s.L⟩ F H' (lupd L i none) := by
  have hi := ha.l i
  rw [hb] at hi
  obtain ⟨cs, ho, hr, hm⟩ := hi
  have hsl : Sim H' (.sl enc xs) u := Sim.of_slh (slh_ownE rowE_wide ho (hr.mono rowE_mono hl) hH) hm
  have hp : ∀ {p v}, SimT s.L H p v → SimT (giveL i enc xs s.L) H' (giveP i enc xs p) v := fun {p v} h => by
    cases p with
    | osl j =>
      simp only [giveP]
      cases q : Nat.beq j i with
      | true =>
        have := Nat.eq_of_beq_eq_true q
        subst this
        simp only [SimT, hb] at h
        subst h
        exact hsl
      | false =>
        simp only [SimT] at h
        show SimT _ _ (.osl j) v
        simp only [SimT, giveL, q, cond_false]
        generalize s.L j = B at *
        cases B <;> first | exact h | trivial
    | _ => exact Sim.mono hl h
  refine ⟨ha.le.trans hl, H0.g.mono _ _ hl ha.g, fun t => hp (ha.f t), fun j => ?_⟩
  simp only [giveL]
  cases q : Nat.beq j i with
  | true => trivial
  | false =>
    have hne : j ≠ i := fun e => by subst e; simp at q
    rw [lupd_ne _ _ _ _ hne]
    have h1 := ha.l j
    simp only [cond_false]
    generalize s.L j = B at *
    cases B with
    | box b T cs' =>
      obtain ⟨vs, h2, h3, h4⟩ := h1
      refine ⟨vs, h2, by simp [h3], fun a p v hpp hv => ?_⟩
      rw [List.getElem?_map] at hpp
      cases q2 : cs'[a]? with
      | none => rw [q2] at hpp; cases hpp
      | some p0 => rw [q2] at hpp; cases hpp; exact hp (h4 a p0 v q2 hv)
    | no => trivial
    | arr u2 k2 e2 enc2 xs2 => obtain ⟨c2, h2, h3, h4⟩ := h1; exact ⟨c2, h2, h3.mono rowE_mono hl, h4⟩
    | itr b s2 p => exact h1
theorem give {α : Type} {e k : Nat} {u : Value} {enc : α → List PV} {xs : List α} (i : Nat) (hb : s.L i = .arr u k e enc xs) (kk : Hd P n N H0 Q (.ops all rest) ks ⟨giveF i enc xs s.F, giveL i enc xs s.L⟩) : Hd P n N H0 Q (.ops all rest) ks s := by
  intro F H L ha
  exact ow_giveO i rfl fun H' hl hg => kk _ _ _ (ha.give hb hl hg)
theorem givec {α : Type} {e k : Nat} {u : Value} {enc : α → List PV} {xs : List α} {c : Code} (i : Nat) (hb : s.L i = .arr u k e enc xs) (kk : Hd P n N H0 Q (.code c) ks ⟨giveF i enc xs s.F, giveL i enc xs s.L⟩) : Hd P n N H0 Q (.code c) ks s := by
  intro F H L ha
  exact cw_giveO i rfl fun H' hl hg => kk _ _ _ (ha.give hb hl hg)
/-- A call that reads, of a list that is owned and stays so. -/
theorem calll {α : Type} {e k : Nat} {u : Value} {enc : α → List PV} {ls : List α} {f : FuncId} {args : List PV} {res : PV} {xs : Array Operand} {ats : Array TypeId} (i : Nat) (hb : s.L i = .arr u k e enc ls) (h : Fn P H0.g f args res) (hf : res.flat = true) (ha : argsP (giveF i enc ls s.F) x xs.toList = some (f, args)) (hd : Nat.blt d n = true)
    (kk : res.wf → K ⟨updp s.F d res, s.L⟩) : E1 P n N H0 all ⟨some d, .call ⟨.value x, xs, ats⟩, ty, pos, af, none⟩ none s K := by
  intro F H L hab
  refine fun a w hA hm => ?_
  obtain ⟨H1, hl1, hg1, hm1⟩ := hm.giveO (i := i) rfl
  have hab1 := hab.give hb hl1 hg1
  obtain ⟨vs, h1, h2⟩ := args_ok (ats := ats) hab1.f ha h.cb
  rw [if_pos (by simp [Region.wanted])]
  unfold Oper.wp
  rw [hA.eval, h2]
  refine (h.run N H1 _ w vs hab1.g h1 hm1).mono fun e' w' ⟨v, H', he, hv, hl, hm'⟩ => ?_
  subst he
  refine ⟨_, H, L, hA.put (by simpa using hd) v, ?_, .refl H, fun _ _ => rfl, _, hab.put d ?_, kk hv.wf⟩
  · have hm2 := hm'.le hl
    cases hLi : L i with
    | none =>
      have e1 : lupd L i none = L := lupd_eta hLi
      rw [e1] at hm2
      exact hm2.le hl1
    | some bo =>
      obtain ⟨b, o⟩ := bo
      have hle : HLe (hadd H b o) H1 := fun c q hq => by
        by_cases e : c = b
        · subst e; simp [hadd] at hq; subst hq; exact hg1 _ _ hLi
        · simp [hadd, e] at hq; exact hl1 c q hq
      exact hm.take hLi (hm2.le hle)
  · have hno := h.no
    refine Sim.simT ?_ hno
    obtain ⟨v0, hv0⟩ : ∃ v0, v0 = v := ⟨v, rfl⟩
    exact Sim.flat_any hf hv
end Go.SW
namespace Go.SW
variable {P : Program} {n : Nat} {N : Rest} {H0 : Env} {all rest : List Oper} {Q : Qs} {ks : List Kt} {s : St} {T T2 ty d : Nat} {pos : String} {af : Array Edge} {x y z : Operand} {K : St → Prop}
/-- What is looked at: the owned blocks, but those that are turned here; or nothing. -/
def LkR (xs : Option (List Nat)) (Lk L : Ls) : Prop := match xs with
  | some xs => ∀ i, Lk i = bif memB xs i then none else L i
  | none => True
def Hv (P : Program) (n : Nat) (N : Rest) (H0 : Env) (Q : Qs) (xs : Option (List Nat)) (all : List Oper) (fuel : Nat) (listed : Array Bool) (ks : List Kt) (s : St) : Prop :=
  ∀ F H L Lk, Abs H0 s F H L → LkR xs Lk L → Vw P n N all Lk (ql H0 (Kt.den P n N H0 ks Q)) fuel listed F H L
theorem any (xs : List Nat) (m : Nat) {id : Nat} {ops : Array Oper} (hmx : P.follows .mixedOrders = true) (hm : ops.toList.length = m) (h : Hv P n N H0 Q (some xs) ops.toList m (Array.replicate m false) ks s) : Hd P n N H0 Q (.code (.region id ops true)) ks s := by
  intro F H L ha
  subst hm
  have := cw_any (id := id) hmx (fun i => bif memB xs i then none else L i) (h F H L _ ha fun _ => rfl)
  simpa using this
theorem vdone {xs : Option (List Nat)} {fuel : Nat} {listed : Array Bool} (h : Region.ready .any all.toArray listed = []) (k : Hd P n N H0 Q (.ex .normal) ks s) : Hv P n N H0 Q xs all fuel listed ks s := fun F H L Lk ha _ => vw_done h ⟨s, ha, k⟩
def okX (xs : Option (List Nat)) (i : Nat) : Bool := match xs with
  | some xs => !memB xs i
  | none => false
/-- May the operation look at that block here? -/
def okLk (xs : Option (List Nat)) (sL : Nat → Blk) (op : Op) (lk : Option (Nat × Nat × Nat)) : Bool :=
  match lk with
  | none => true
  | some (i, _, _) => match looksB op with
    | true => match okX xs i with
      | true => match sL i with
        | .box _ _ _ => true
        | _ => false
      | false => false
    | false => false
theorem lk_le {xs : Option (List Nat)} {Lk L : Ls} (h : LkR xs Lk L) {op : Op} (ho : looksB op = false ∨ ∃ i, okX xs i = true) : LLe (lkOf op Lk) L := by
  rcases lkOf_cases op Lk with ⟨h1, h2⟩ | h2
  · rcases ho with q | ⟨i, q⟩
    · rw [h1] at q; cases q
    · rw [h2]
      cases xs with
      | none => cases q
      | some xs =>
        intro j o hj
        rw [h j] at hj
        cases e : memB xs j with
        | true => rw [e] at hj; cases hj
        | false => rw [e] at hj; exact hj
  · rw [h2]; exact fun _ _ q => by cases q
theorem okLk_ok {xs : Option (List Nat)} {F : Fr} {H : Hp} {L Lk : Ls} {op : Op} {lk : Option (Nat × Nat × Nat)} (ha : Abs H0 s F H L) (hL : LkR xs Lk L) (h : okLk xs s.L op lk = true) {L' : Ls} (hl : LLe (lkOf op Lk) L') : ∀ x, lk = some x → L' x.1 = L x.1 := by
  intro x hx
  subst hx
  obtain ⟨i, a, b⟩ := x
  simp only [okLk] at h
  split at h
  · rename_i h1
    split at h
    · rename_i h2
      split at h
      · rename_i b' T cs h3
        have h4 := ha.l i
        rw [h3] at h4
        obtain ⟨vs, h5, _⟩ := h4
        rcases lkOf_cases op Lk with ⟨_, e⟩ | e
        · cases xs with
          | none => cases h2
          | some xs =>
            have h6 : Lk i = L i := by
              rw [hL i]
              simp only [okX, Bool.not_eq_true'] at h2
              rw [h2]; rfl
            exact (hl i _ (by rw [e, h6, h5])).trans h5.symm
        · exfalso
          have e2 : lkOf op Lk = Lk ∨ looksB op = false := by cases op <;> first | exact .inl rfl | exact .inr rfl
          rcases e2 with q | q
          · rw [q] at e
            cases xs with
            | none => cases h2
            | some xs =>
              have h6 := hL i
              simp only [okX, Bool.not_eq_true'] at h2
              rw [h2, e] at h6
              simp only [cond_false] at h6
              rw [h5] at h6; cases h6
          · rw [h1] at q; cases q
      · cases h
    · cases h
  · cases h
/-- One quiet operation of such a region. -/
theorem sv_v {tb : Tb} {xs : Option (List Nat)} {fuel i : Nat} {listed : Array Bool} {o : Oper} {r : PR} (ht : tbB P tb = true) (hi : nth all i = some o) (ho : o.dst = some d) (hck : (rdB all listed i && apB n all listed i o && Nat.blt d n && nosB o.op) = true) (h : vOp tb s all o = some r) (hp : AllP r.ps) (he : ∀ x, r.lk = some x → x.2.1 = x.2.2) (hlk : okLk xs s.L o.op r.lk = true) (hx : looksB o.op = false ∨ ∃ i, okX xs i = true)
    (k : Hv P n N H0 Q xs all fuel (listed.setIfInBounds i true) ks ⟨updp s.F d r.v, s.L⟩) : Hv P n N H0 Q xs all (fuel + 1) listed ks s := by
  intro F H L Lk ha hL
  rw [nth_eq] at hi
  obtain ⟨d', op, ty, pos, af, g⟩ := o
  cases ho
  unfold vOp at h
  split at h
  · rename_i hg
    cases hg
    obtain ⟨val, h1, h2⟩ := pop_ok (N := N) (ty := ty) ht ha.f ha.l h hp he
    exact vw_q i hi hck (lk_le hL hx) (fun H' L' hh hl => h2 H' L' hh (okLk_ok ha hL hlk hl)) (k _ _ _ _ (ha.put d h1) hL)
  · rename_i j want hg
    cases hg
    split at h
    · rename_i oj hj
      split at h
      · rename_i dj hdj
        split at h
        · rename_i g hgc
          split at h
          · rename_i hno
            unfold pG1 at h
            split at h
            · rename_i v0 ps0 lk0 hr0
              split at h
              · rename_i hnv
                cases h
                obtain ⟨c, b, hv, hge⟩ := gC_ok hgc (ha.f dj).sim
                have hy : yF all F j = some (gv c (.bool b)) := by rw [yF_of hj hdj, hv]
                obtain ⟨hp1, hp2⟩ := conds_ok hp
                have hge2 : g = (c && (b == want)) := hge.trans gv_dec.symm
                cases hgv : g with
                | false =>
                  refine vgq (c := c) (b := b) (v := undef) i hi hck (lk_le hL hx) (fun _ _ q => by cases q) hy (fun e => by rw [← hge2, hgv] at e; cases e) (k _ _ _ _ (ha.put d ?_) hL)
                  rw [← hge2, hgv]
                  exact Sim.gvf
                | true =>
                  obtain ⟨val, h1, h2⟩ := pop_ok (N := N) (ty := ty) ht (strG_ok ha.f (fun t ht c v e => hp2 t ht c v e hgv) (noOslG_ok hno)) ha.l hr0 (guardP_ok hgv hp1) he
                  refine vgq (c := c) (b := b) (v := val) i hi hck (lk_le hL hx) (fun _ _ q => by cases q) hy (fun _ H' L' hh hl => h2 H' L' hh (okLk_ok ha hL hlk hl)) (k _ _ _ _ (ha.put d ?_) hL)
                  rw [← hge2, hgv]
                  exact Sim.gvt h1.sim
              · cases h
            · cases h
          · cases h
        · cases h
      · cases h
    · cases h
/-! Runs of quiet operations in such a region: the order is told, and looked at as0 a whole -/
structure VV where
  F : Nat → PV
  L : Nat → Blk
  ps : List Prop
  as0 : List Nat
  bs : List Nat
def orB (a b : Bool) : Bool := match a with
  | true => true
  | false => b
def lksOk (xs : Option (List Nat)) (op : Op) : Bool := match looksB op with
  | false => true
  | true => match xs with
    | some xs => !memB xs (xs.foldr max 0 + 1)
    | none => false
theorem lksOk_ok {xs : Option (List Nat)} {op : Op} (h : lksOk xs op = true) : looksB op = false ∨ ∃ i, okX xs i = true := by
  unfold lksOk at h
  split at h
  · exact .inl (by assumption)
  · split at h
    · exact .inr ⟨_, h⟩
    · cases h
def runV (tb : Tb) (xs : Option (List Nat)) (all : List Oper) : List Nat → (Nat → PV) → (Nat → Blk) → List Prop → List Nat → List Nat → Option VV
  | [], F, L, ps, as0, bs => frcP ps fun ps => frcN as0 fun as0 => frcN bs fun bs => some ⟨F, L, ps, as0, bs⟩
  | i :: r, F, L, ps, as0, bs => match nth all i with
    | some o => match o.dst with
      | some d => match vOp tb ⟨F, L⟩ all o with
        | some ⟨v0, ps0, lk0⟩ => match okLk xs L o.op lk0 with
          | true => match lksOk xs o.op with
            | true => match lk0 with
              | none => addP ps ps0 fun ps => frc v0 fun v => runV tb xs all r (updp F d v) L ps as0 bs
              | some (_, a, b) => addP ps ps0 fun ps => frc v0 fun v => runV tb xs all r (updp F d v) L ps (a :: as0) (b :: bs)
            | false => none
          | false => none
        | none => none
      | none => none
    | none => none
def chkV (n : Nat) (all : List Oper) : List Nat → Array Bool → Bool
  | [], _ => true
  | i :: r, listed => (match nth all i with
    | some o => rdB all listed i && apB n all listed i o && dstB n o && nosB o.op
    | none => false) && chkV n all r (listed.setIfInBounds i true)
def lst (listed : Array Bool) : List Nat → Array Bool
  | [] => listed
  | i :: r => lst (listed.setIfInBounds i true) r
theorem runV_ok {tb : Tb} (ht : tbB P tb = true) {xs : Option (List Nat)} : ∀ (order : List Nat) (fuel : Nat) (listed : Array Bool) (F : Nat → PV) (L : Nat → Blk) (ps : List Prop) (as0 bs : List Nat) (r : VV), chkV n all order listed = true → runV tb xs all order F L ps as0 bs = some r → AllP r.ps → r.as0 = r.bs →
    AllP ps ∧ as0 = bs ∧ (Hv P n N H0 Q xs all fuel (lst listed order) ks ⟨r.F, r.L⟩ → Hv P n N H0 Q xs all (fuel + order.length) listed ks ⟨F, L⟩)
  | [], fuel, listed, F, L, ps, as0, bs, r, _, h, hp, he => by
    simp only [runV, frcP_eq, frcN_eq, Option.some.injEq] at h
    subst h
    exact ⟨hp, he, id⟩
  | i :: q, fuel, listed, F, L, ps, as0, bs, r, hc, h, hp, he => by
    simp only [chkV, Bool.and_eq_true] at hc
    obtain ⟨hc1, hc2⟩ := hc
    have ih := runV_ok ht (xs := xs) q fuel (listed.setIfInBounds i true)
    simp only [runV] at h
    split at h
    · rename_i o ho
      rw [ho] at hc1
      split at h
      · rename_i d hd
        split at h
        · rename_i v0 ps0 lk0 hv
          split at h
          · rename_i hlk
            split at h
            · rename_i hlo
              have hck : (rdB all listed i && apB n all listed i o && Nat.blt d n && nosB o.op) = true := by simpa [dstB, hd] using hc1
              split at h
              · rw [addP_eq, frc_eq] at h
                obtain ⟨h1, h2, h3⟩ := ih _ _ _ _ _ r hc2 h hp he
                obtain ⟨h4, h5⟩ := allP_app h1
                exact ⟨h4, h2, fun x => sv_v ht ho hd hck hv h5 (fun y hy => by cases hy) hlk (lksOk_ok hlo) (h3 x)⟩
              · rename_i j a b
                rw [addP_eq, frc_eq] at h
                obtain ⟨h1, h2, h3⟩ := ih _ _ _ _ _ r hc2 h hp he
                obtain ⟨h4, h5⟩ := allP_app h1
                simp only [List.cons.injEq] at h2
                exact ⟨h4, h2.2, fun x => sv_v ht ho hd hck hv h5 (fun y hy => by cases hy; exact h2.1) hlk (lksOk_ok hlo) (h3 x)⟩
            · cases h
          · cases h
        · cases h
      · cases h
    · cases h
theorem gov {tb : Tb} (ht : tbB P tb = true) (order : List Nat) (f : Nat) {xs : Option (List Nat)} {fuel : Nat} {listed : Array Bool} {F F' : Nat → PV} {L L' : Nat → Blk} {ps : List Prop} {as0 bs : List Nat} (hf : fuel = f + order.length) (hc : chkV n all order listed = true) (h : runV tb xs all order F L [] [] [] = some ⟨F', L', ps, as0, bs⟩) (he : as0 = bs) (hp : AllP ps) (next : Hv P n N H0 Q xs all f (lst listed order) ks ⟨F', L'⟩) : Hv P n N H0 Q xs all fuel listed ks ⟨F, L⟩ := by
  subst hf
  exact (runV_ok ht order f listed F L [] [] [] _ hc h hp he).2.2 next
/-! Calls and what turns memory -/
theorem sim_ex {G : Gb} {f : FuncId} {args : List PV} {res : PV} {H : Hp} {vs : List Value} {L : Ls} {w : World} (h : Fn P G f args res) (hg : G.p H) (hs : Sims H args vs) (hm : Mem N H L w) : ∃ v H', Sim H' res v := by
  obtain ⟨_, _, _, ⟨v, H', _, h2, _⟩, _⟩ := h.run N H L w vs hg hs hm []
  exact ⟨v, H', h2⟩
theorem vw_none {Lk : Ls} {Qq : Qt} {fuel i : Nat} {listed : Array Bool} {F : Fr} {H : Hp} {L : Ls} (hr : rdB all listed i = true) (hn : ¬ ∃ w, Mem N H L w) : Vw P n N all Lk Qq (fuel + 1) listed F H L := by
  refine ⟨fun e => ?_, fun j hj a w _ hm => absurd ⟨w, hm⟩ hn⟩
  simp [rdB, e] at hr
/-- A call that reads, in such a region. -/
theorem vcall {xs : Option (List Nat)} {fuel : Nat} {listed : Array Bool} {f : FuncId} {args : List PV} {res : PV} {as0 : Array Operand} {ats : Array TypeId} (i : Nat) (hi : nth all i = some ⟨some d, .call ⟨.value x, as0, ats⟩, ty, pos, af, none⟩) (hck : (rdB all listed i && apB n all listed i ⟨some d, .call ⟨.value x, as0, ats⟩, ty, pos, af, none⟩ && Nat.blt d n && nosB (.call ⟨.value x, as0, ats⟩)) = true) (h : Fn P H0.g f args res) (hf : res.flat = true) (ha : argsP s.F x as0.toList = some (f, args))
    (k : res.wf → Hv P n N H0 Q xs all fuel (listed.setIfInBounds i true) ks ⟨updp s.F d res, s.L⟩) : Hv P n N H0 Q xs all (fuel + 1) listed ks s := by
  intro F H L Lk hab hL
  by_cases hw : ∃ w, Mem N H L w
  · obtain ⟨w, hm⟩ := hw
    rw [nth_eq] at hi
    obtain ⟨vs, h1, h2⟩ := args_ok (ats := ats) hab.f ha h.cb
    obtain ⟨v, H', hv⟩ := sim_ex h hab.g h1 hm
    exact vw_qc i hi hck (fun _ _ q => by cases q) (h.pr hf hab.g h1 hv) h2 (k hv.wf _ _ _ _ (hab.put d ((Sim.flat_any hf hv).simT h.no)) hL)
  · simp only [Bool.and_eq_true] at hck
    exact vw_none hck.1.1.1 hw
theorem vcallg {xs : Option (List Nat)} {fuel : Nat} {listed : Array Bool} {f : FuncId} {args : List PV} {res : PV} {as0 : Array Operand} {ats : Array TypeId} {j : Nat} {want g : Bool} (i : Nat) (hi : nth all i = some ⟨some d, .call ⟨.value x, as0, ats⟩, ty, pos, af, some (j, want)⟩) (hck : (rdB all listed i && apB n all listed i ⟨some d, .call ⟨.value x, as0, ats⟩, ty, pos, af, some (j, want)⟩ && Nat.blt d n && nosB (.call ⟨.value x, as0, ats⟩)) = true) (hg : gOp s all j want = some g) (h : g = true → Fn P H0.g f args res) (hf : res.flat = true) (ha : argsP (strG (tmpOf as0.toList) s.F) x as0.toList = some (f, args)) (hc : AllP (conds s.F g (tmpOf as0.toList) [])) (hno : noOslG s.F (tmpOf as0.toList) = true)
    (k : (g = true → res.wf) → Hv P n N H0 Q xs all fuel (listed.setIfInBounds i true) ks ⟨updp s.F d (.gv g res), s.L⟩) : Hv P n N H0 Q xs all (fuel + 1) listed ks s := by
  intro F H L Lk hab hL
  by_cases hw : ∃ w, Mem N H L w
  · obtain ⟨w, hm⟩ := hw
    rw [nth_eq] at hi
    obtain ⟨c, b, hy, hge⟩ := gOp_ok hab hg
    have hge2 : g = (c && (b == want)) := hge.trans gv_dec.symm
    cases hgv : g with
    | false =>
      have hcf : (c && (b == want)) = false := by rw [← hge2, hgv]
      refine vgp (c := c) (b := b) (v := undef) (f := f) (args := #[]) i hi hck (fun _ _ q => by cases q) hy (fun e => by rw [hcf] at e; cases e) (fun e => by rw [hcf] at e; cases e) (k (fun e => by rw [hgv] at e; cases e) _ _ _ _ (hab.put d ?_) hL)
      rw [← hge2, hgv]
      exact Sim.gvf
    | true =>
      have hF := h hgv
      obtain ⟨vs, h1, h2⟩ := args_ok (ats := ats) (strG_ok hab.f (fun t ht c v e => (conds_ok hc).2 t ht c v e hgv) (noOslG_ok hno)) ha hF.cb
      obtain ⟨v, H', hv⟩ := sim_ex hF hab.g h1 hm
      refine vgp (c := c) (b := b) (v := v) i hi hck (fun _ _ q => by cases q) hy (fun _ => hF.pr hf hab.g h1 hv) (fun _ => h2) (k (fun _ => hv.wf) _ _ _ _ (hab.put d ?_) hL)
      rw [← hge2, hgv]
      exact Sim.gvt (Sim.flat_any hf hv)
  · simp only [Bool.and_eq_true] at hck
    exact vw_none hck.1.1.1 hw
/-- One operation alone is ready. -/
theorem ve {xs : List Nat} {fuel : Nat} {listed : Array Bool} {o : Oper} {j : Option Nat} (i : Nat) (hi : nth all i = some o) (hr : Region.ready .any all.toArray listed = [i]) (hj : (match j with | none => true | some j => memB xs j) = true) (h : E1 P n N H0 all o j s (fun s' => Hv P n N H0 Q (some xs) all fuel (listed.setIfInBounds i true) ks s')) : Hv P n N H0 Q (some xs) all (fuel + 1) listed ks s := by
  intro F H L Lk ha hL
  rw [nth_eq] at hi
  have hle : ∀ L' : Ls, (∀ i, j ≠ some i → L' i = L i) → LkR (some xs) Lk L' := fun L' hL' i => by
    rw [hL i]
    cases e : memB xs i with
    | true => rfl
    | false =>
      refine (hL' i fun q => ?_).symm
      subst q
      simp only at hj
      rw [e] at hj; cases hj
  refine vw_e i hi hr ((h F H L ha).imp fun F' H' L' ⟨h1, h2, s', h3, h4⟩ => ⟨⟨h1, fun i x hx => ?_⟩, h4 F' H' L' Lk h3 (hle L' h2)⟩)
  have := hle L' h2 i
  rw [this] at hx
  cases e : memB xs i with
  | true => rw [e] at hx; cases hx
  | false => rw [e] at hx; exact hx
/-- The same, where it waits for all that was taken: nothing is looked at behind it. -/
theorem vt {xs : Option (List Nat)} {fuel : Nat} {listed : Array Bool} {o : Oper} {j : Option Nat} (i : Nat) (hi : nth all i = some o) (hr : Region.ready .any all.toArray listed = [i]) (ht : tailB all listed i = true) (h : E1 P n N H0 all o j s (fun s' => Hv P n N H0 Q none all fuel (listed.setIfInBounds i true) ks s')) : Hv P n N H0 Q xs all (fuel + 1) listed ks s := by
  intro F H L Lk ha hL
  rw [nth_eq] at hi
  exact vw_t i hi hr ht ((h F H L ha).imp fun F' H' L' ⟨_, _, s', h3, h4⟩ => h4 F' H' L' Lk h3 trivial)
/-- The same, but for what looks at nothing that is owned. -/
theorem vtp {xs : Option (List Nat)} {fuel : Nat} {listed : Array Bool} {o : Oper} {j : Option Nat} (i : Nat) (hi : nth all i = some o) (hr : Region.ready .any all.toArray listed = [i]) (ht : tailP all listed i = true) (h : E1 P n N H0 all o j s (fun s' => Hv P n N H0 Q none all fuel (listed.setIfInBounds i true) ks s')) : Hv P n N H0 Q xs all (fuel + 1) listed ks s := by
  intro F H L Lk ha hL
  rw [nth_eq] at hi
  exact vw_tp i hi hr ht ((h F H L ha).imp fun F' H' L' ⟨h1, _, s', h3, h4⟩ => ⟨h1, h4 F' H' L' Lk h3 trivial⟩)
/-- A call, as0 an operation that may make memory. -/
theorem ecall {f : FuncId} {args : List PV} {res : PV} {as0 : Array Operand} {ats : Array TypeId} (h : Fn P H0.g f args res) (ha : argsP s.F x as0.toList = some (f, args)) (hd : Nat.blt d n = true) (k : res.wf → K ⟨updp s.F d res, s.L⟩) : E1 P n N H0 all ⟨some d, .call ⟨.value x, as0, ats⟩, ty, pos, af, none⟩ none s K := by
  intro F H L hab
  obtain ⟨vs, h1, h2⟩ := args_ok (ats := ats) hab.f ha h.cb
  exact op1_ph (h.ph hab.g h1) h2 hd fun v H' hv hl => ⟨hl, fun _ _ => rfl, _, (hab.mono hl).put d (hv.simT h.no), k hv.wf⟩
end Go.SW
namespace Go.SW
variable {P : Program} {n : Nat} {N : Rest} {H0 : Env} {all rest : List Oper} {Q : Qs} {ks : List Kt} {s : St} {T T' T2 ty d : Nat} {pos : String} {af : Array Edge} {x y z : Operand} {K : St → Prop} {op : Op} {p : PV}
/-- A quiet operation yields what p stands for. -/
def Qy (P : Program) (N : Rest) (H0 : Env) (s : St) (op : Op) (ty : TypeId) (p : PV) : Prop :=
  ∀ F H L, Abs H0 s F H L → ∃ val, SimT s.L H p val ∧ ∀ H' L', HLe H H' → Lo P N op ty F H' L' val
theorem q1 (h : Qy P N H0 s op ty p) (hd : Nat.blt d n = true) (k : p.wf → Hd P n N H0 Q (.ops all rest) ks ⟨updp s.F d p, s.L⟩) : Hd P n N H0 Q (.ops all (⟨some d, op, ty, pos, af, none⟩ :: rest)) ks s := fun F H L ha => by
  obtain ⟨val, h1, h2⟩ := h F H L ha
  exact ow1 (op1_l hd (h2 H L (.refl H)) (k h1.sim.wf _ _ _ (ha.put d h1)))
theorem vq {xs : Option (List Nat)} {fuel : Nat} {listed : Array Bool} (i : Nat) (h : Qy P N H0 s op ty p) (hi : nth all i = some ⟨some d, op, ty, pos, af, none⟩) (hck : (rdB all listed i && apB n all listed i ⟨some d, op, ty, pos, af, none⟩ && Nat.blt d n && nosB op) = true) (hl : looksB op = false) (k : p.wf → Hv P n N H0 Q xs all fuel (listed.setIfInBounds i true) ks ⟨updp s.F d p, s.L⟩) : Hv P n N H0 Q xs all (fuel + 1) listed ks s := by
  intro F H L Lk ha hL
  rw [nth_eq] at hi
  obtain ⟨val, h1, h2⟩ := h F H L ha
  exact vw_q i hi hck (lk_le hL (.inl hl)) (fun H' L' hh _ => h2 H' L' hh) (k h1.sim.wf _ _ _ _ (ha.put d h1) hL)
/-- Under a guard: asked where the guard is so, of what stands there then. -/
def strS (ts : List Nat) (s : St) : St := ⟨strG ts s.F, s.L⟩
theorem abs_str {g : Bool} {ts : List Nat} {F : Fr} {H : Hp} {L : Ls} (ha : Abs H0 s F H L) (hc : AllP (conds s.F g ts [])) (hno : noOslG s.F ts = true) (hg : g = true) : Abs H0 (strS ts s) F H L :=
  ⟨ha.le, ha.g, strG_ok ha.f (fun t ht c v e => (conds_ok hc).2 t ht c v e hg) (noOslG_ok hno), ha.l⟩
theorem q1g {j : Nat} {want g : Bool} (ts : List Nat) (hg : gOp s all j want = some g) (h : g = true → Qy P N H0 (strS ts s) op ty p) (hc : AllP (conds s.F g ts [])) (hno : noOslG s.F ts = true) (hpo : p.noOsl = true) (hd : Nat.blt d n = true) (k : (g = true → p.wf) → Hd P n N H0 Q (.ops all rest) ks ⟨updp s.F d (.gv g p), s.L⟩) : Hd P n N H0 Q (.ops all (⟨some d, op, ty, pos, af, some (j, want)⟩ :: rest)) ks s := fun F H L ha => by
  obtain ⟨c, b, hy, hge⟩ := gOp_ok ha hg
  refine ow_gd hy hd (fun e => ?_) (fun e => ?_)
  · have hgt := hge.trans e
    obtain ⟨val, h1, h2⟩ := h hgt F H L (abs_str ha hc hno hgt)
    refine op1_l hd (h2 H L (.refl H)) (k (fun _ => h1.sim.wf) _ _ _ (ha.put d ?_))
    rw [hgt]; exact Sim.gvt h1.sim
  · have hgf := hge.trans e
    refine k (fun e => by rw [hgf] at e; cases e) _ _ _ (ha.put d ?_)
    rw [hgf]; exact Sim.gvf
theorem vqg {xs : Option (List Nat)} {fuel : Nat} {listed : Array Bool} {j : Nat} {want g : Bool} (i : Nat) (ts : List Nat) (hi : nth all i = some ⟨some d, op, ty, pos, af, some (j, want)⟩) (hck : (rdB all listed i && apB n all listed i ⟨some d, op, ty, pos, af, some (j, want)⟩ && Nat.blt d n && nosB op) = true) (hl : looksB op = false) (hg : gOp s all j want = some g) (h : g = true → Qy P N H0 (strS ts s) op ty p) (hc : AllP (conds s.F g ts [])) (hno : noOslG s.F ts = true)
    (k : (g = true → p.wf) → Hv P n N H0 Q xs all fuel (listed.setIfInBounds i true) ks ⟨updp s.F d (.gv g p), s.L⟩) : Hv P n N H0 Q xs all (fuel + 1) listed ks s := by
  intro F H L Lk ha hL
  rw [nth_eq] at hi
  obtain ⟨c, b, hy, hge⟩ := gOp_ok ha hg
  have hge2 : g = (c && (b == want)) := hge.trans gv_dec.symm
  cases hgv : g with
  | false =>
    have hcf : (c && (b == want)) = false := by rw [← hge2, hgv]
    refine vgq (c := c) (b := b) (v := undef) i hi hck (lk_le hL (.inl hl)) (fun _ _ q => by cases q) hy (fun e => by rw [hcf] at e; cases e) (k (fun e => by rw [hgv] at e; cases e) _ _ _ _ (ha.put d ?_) hL)
    rw [← hge2, hgv]; exact Sim.gvf
  | true =>
    obtain ⟨val, h1, h2⟩ := h hgv F H L (abs_str ha hc hno hgv)
    refine vgq (c := c) (b := b) (v := val) i hi hck (lk_le hL (.inl hl)) (fun _ _ q => by cases q) hy (fun _ H' L' hh _ => h2 H' L' hh) (k (fun _ => h1.sim.wf) _ _ _ _ (ha.put d ?_) hL)
    rw [← hge2, hgv]; exact Sim.gvt h1.sim
/-! Texts -/
theorem Abs.ev {F : Fr} {H : Hp} {L : Ls} (ha : Abs H0 s F H L) {x : Operand} {p : PV} (hx : evP s.F x = p) : SimT s.L H p (ev F x) := by
  have h1 := evP_ok ha.f x
  unfold Ok1 at h1
  rwa [hx] at h1
theorem u8_get {H : Hp} {a : Bs} {m : Nat} : Sim H (.int .u8 ((a.getD m 0).toNat : Int)) (.int .u8 ((a.getD m 0).toNat : Int)) := by
  have := (a.getD m 0).toNat_lt
  have e1 : IntKind.min .u8 = 0 := rfl
  have e2 : IntKind.max .u8 = 255 := rfl
  exact .int (by omega) (by omega)
theorem sidx {tb : Tb} {ti : TI} {a : Bs} {k : IntKind} {i : Int} (ht : tbB P tb = true) (m : Nat) (hx : evP s.F x = .str a) (hy : evP s.F y = .int k i) (hti : lkT tb T = some ti) (htk : ti.k = .str) (hi : i = m) (hm : m < a.length) : Qy P N H0 s (.index T x y) ty (.int .u8 (a.getD m 0).toNat) := fun F H L ha => by
  have h1 := (ha.ev hx).sim
  have h2 := (ha.ev hy).sim
  exact ⟨_, u8_get, fun H' L' _ => lo_index_str m h1.inv_str.1 h2.inv_int.1 ((ti_ok ht hti).str htk) hi hm⟩
theorem sslo {tb : Tb} {ti : TI} {a : Bs} {k : IntKind} {i : Int} (ht : tbB P tb = true) (m : Nat) (hx : evP s.F x = .str a) (hy : evP s.F y = .int k i) (hti : lkT tb T = some ti) (htk : ti.k = .str) (hi : i = m) (hm : m ≤ a.length) : Qy P N H0 s (.slice T x (some y) none none) ty (.str (a.drop m)) := fun F H L ha => by
  have h1 := (ha.ev hx).sim
  have h2 := (ha.ev hy).sim
  exact ⟨_, Sim.str (by have := h1.inv_str.2; simp; omega), fun H' L' _ => lo_slice_str_lo m h1.inv_str.1 h2.inv_int.1 ((ti_ok ht hti).str htk) hi hm⟩
theorem sshi {tb : Tb} {ti : TI} {a : Bs} {k : IntKind} {i : Int} (ht : tbB P tb = true) (m : Nat) (hx : evP s.F x = .str a) (hy : evP s.F y = .int k i) (hti : lkT tb T = some ti) (htk : ti.k = .str) (hi : i = m) (hm : m ≤ a.length) : Qy P N H0 s (.slice T x none (some y) none) ty (.str (a.take m)) := fun F H L ha => by
  have h1 := (ha.ev hx).sim
  have h2 := (ha.ev hy).sim
  exact ⟨_, Sim.str (by have := h1.inv_str.2; simp; omega), fun H' L' _ => lo_slice_str_hi m h1.inv_str.1 h2.inv_int.1 ((ti_ok ht hti).str htk) hi hm⟩
theorem ssl {tb : Tb} {ti : TI} {a : Bs} {k k' : IntKind} {i j : Int} (ht : tbB P tb = true) (m q : Nat) (hx : evP s.F x = .str a) (hy : evP s.F y = .int k i) (hz : evP s.F z = .int k' j) (hti : lkT tb T = some ti) (htk : ti.k = .str) (hi : i = m) (hj : j = q) (hm : m ≤ q) (hq : q ≤ a.length) : Qy P N H0 s (.slice T x (some y) (some z) none) ty (.str ((a.drop m).take (q - m))) := fun F H L ha => by
  have h1 := (ha.ev hx).sim
  have h2 := (ha.ev hy).sim
  have h3 := (ha.ev hz).sim
  exact ⟨_, Sim.str (by have := h1.inv_str.2; simp; omega), fun H' L' _ => lo_slice_str m q h1.inv_str.1 h2.inv_int.1 h3.inv_int.1 ((ti_ok ht hti).str htk) hi hj hm hq⟩
/-! Lists -/
theorem qidx {α : Type} {tb : Tb} {ti te : TI} {e : TypeId} {enc : α → List PV} {xs : List α} {kk : IntKind} {i : Int} (ht : tbB P tb = true) (m : Nat) {a : α} (hx : evP s.F x = .sl enc xs) (hy : evP s.F y = .int kk i) (hm : i = m) (ha : xs[m]? = some a) (hti : lkT tb T = some ti) (hk : ti.k = .slc e) (hte : lkT tb e = some te) (hsz : te.size = (enc a).length) : Qy P N H0 s (.indexAddr T x y) ty (.el (enc a) 0) := fun F H L hab => by
  have h1 := (hab.ev hx).sim
  have h2 := (hab.ev hy).sim
  obtain ⟨k0, hs, hb⟩ := h1.slh
  obtain ⟨cs, hE, hat⟩ := hs.get ha
  have hsize := (ti_ok ht hte).sz
  rw [hsz, hE.1] at hsize
  have hlt : m < xs.length := by
    rcases Nat.lt_or_ge m xs.length with q | q
    · exact q
    · rw [List.getElem?_eq_none q] at ha; cases ha
  refine ⟨_, Sim.simT (p := .el (enc a) 0) ?_ rfl, fun H' L' hh => lo_indexAddr rfl h2.inv_int.1 hs.1 (hat.mono hh) ((ti_ok ht hti).slc hk) hsize hm hlt⟩
  have := Sim.el (row := enc a) (o := 0) hat hE.1 hE.2.1.2
  simpa [sPtr] using this
theorem lslo {α : Type} {tb : Tb} {ti te : TI} {e : TypeId} {enc : α → List PV} {xs : List α} {k : IntKind} {i : Int} (ht : tbB P tb = true) (m : Nat) (hx : evP s.F x = .sl enc xs) (hy : evP s.F y = .int k i) (hti : lkT tb T = some ti) (htk : ti.k = .slc e) (hte : lkT tb e = some te) (hw : ∀ a, (enc a).length = te.size) (hi : i = m) (hm : m ≤ xs.length) : Qy P N H0 s (.slice T x (some y) none none) ty (.sl enc (xs.drop m)) := fun F H L hab => by
  have h1 := (hab.ev hx).sim
  have h2 := (hab.ev hy).sim
  obtain ⟨k0, hs, hb⟩ := h1.slh
  have hsz := (ti_ok ht hte).sz
  obtain ⟨⟨a, c, hv, hc⟩, hall⟩ := hs
  have hs' : SlH (RowE enc te.size) te.size H (.slice a xs.length c) xs := by
    refine ⟨⟨a, c, rfl, hc⟩, fun m hm => ?_⟩
    obtain ⟨cs, hE, hat⟩ := hall m hm
    have e : k0 = te.size := by rw [← hE.1, hw]
    subst e
    rw [hv] at hat
    exact ⟨cs, hE, hat⟩
  exact ⟨_, Sim.simT (Sim.of_slh (slh_drop hs' hm) (by simp; omega)) rfl, fun H' L' _ => lo_slice_slh_lo m hv h2.inv_int.1 ((ti_ok ht hti).slc htk) hsz hi hm⟩
theorem lshi {α : Type} {tb : Tb} {ti te : TI} {e : TypeId} {enc : α → List PV} {xs : List α} {k : IntKind} {i : Int} (ht : tbB P tb = true) (m : Nat) (hx : evP s.F x = .sl enc xs) (hy : evP s.F y = .int k i) (hti : lkT tb T = some ti) (htk : ti.k = .slc e) (hte : lkT tb e = some te) (hw : ∀ a, (enc a).length = te.size) (hi : i = m) (hm : m ≤ xs.length) : Qy P N H0 s (.slice T x none (some y) none) ty (.sl enc (xs.take m)) := fun F H L hab => by
  have h1 := (hab.ev hx).sim
  have h2 := (hab.ev hy).sim
  obtain ⟨k0, hs, hb⟩ := h1.slh
  have hsz := (ti_ok ht hte).sz
  obtain ⟨⟨a, c, hv, hc⟩, hall⟩ := hs
  have hs' : SlH (RowE enc te.size) te.size H (.slice a xs.length c) xs := by
    refine ⟨⟨a, c, rfl, hc⟩, fun m hm => ?_⟩
    obtain ⟨cs, hE, hat⟩ := hall m hm
    have e : k0 = te.size := by rw [← hE.1, hw]
    subst e
    rw [hv] at hat
    exact ⟨cs, hE, hat⟩
  have hr := slh_take hs' hm
  have hlen : m = (xs.take m).length := by simp; omega
  exact ⟨_, Sim.simT (Sim.of_slh hr (by omega)) rfl, fun H' L' _ => lo_slice_slh_hi m hv h2.inv_int.1 ((ti_ok ht hti).slc htk) hsz hi (Nat.le_trans hm hc)⟩
/-- Is a list nothing? It is not said which nothing. -/
theorem lnil {α : Type} {tb : Tb} {ti : TI} {e : TypeId} {enc : α → List PV} {xs : List α} (ht : tbB P tb = true) (hx : evP s.F x = .sl enc xs) (hy : evP s.F y = .val (.slice none 0 0)) (hti : lkT tb T = some ti) (htk : ti.k = .slc e) (hd : Nat.blt d n = true) (k : ∀ b, (b = true → xs = []) → K ⟨updp s.F d (.bool b), s.L⟩) : E1 P n N H0 all ⟨some d, .binOp .eql T x y T', ty, pos, af, none⟩ none s K := fun F H L ha => by
  have h1 := (ha.ev hx).sim
  have h2 := (ha.ev hy).sim
  obtain ⟨k0, hs, hb⟩ := h1.slh
  obtain ⟨⟨a, c, hv, hc⟩, hall⟩ := id hs
  refine op1_l hd (lo_sleq_nil hv h2.inv_val ((ti_ok ht hti).slc htk)) ⟨.refl H, fun _ _ => rfl, _, ha.put (p := .bool a.isNone) d Sim.bool, k _ fun e => ?_⟩
  rw [hv] at hs
  cases a with
  | none => exact slh_none hs
  | some a => cases e
/-! Structs held against each other -/
theorem saeq {ps qs : List PV} {r : Bool} (hx : evP s.F x = .agg ps) (hy : evP s.F y = .agg qs) (hm : P.eqGuardType P.depth T = false) (h : ∀ H vs us, Sims H ps vs → Sims H qs us → EqV P 10000 T (.agg vs.toArray) (.agg us.toArray) r) : Qy P N H0 s (.binOp .eql T x y T') ty (.bool r) := fun F H L ha => by
  obtain ⟨vs, e1, h1⟩ := (ha.ev hx).sim.inv_agg
  obtain ⟨us, e2, h2⟩ := (ha.ev hy).sim.inv_agg
  exact ⟨.bool r, Sim.bool, fun H' L' _ => lo_aeql e1 e2 hm (h H vs us h1 h2)⟩
theorem sane {ps qs : List PV} {r : Bool} (hx : evP s.F x = .agg ps) (hy : evP s.F y = .agg qs) (hm : P.eqGuardType P.depth T = false) (h : ∀ H vs us, Sims H ps vs → Sims H qs us → EqV P 10000 T (.agg vs.toArray) (.agg us.toArray) r) : Qy P N H0 s (.binOp .neq T x y T') ty (.bool (!r)) := fun F H L ha => by
  obtain ⟨vs, e1, h1⟩ := (ha.ev hx).sim.inv_agg
  obtain ⟨us, e2, h2⟩ := (ha.ev hy).sim.inv_agg
  exact ⟨.bool (!r), Sim.bool, fun H' L' _ => lo_aneq e1 e2 hm (h H vs us h1 h2)⟩
/-! Bytes and texts -/
theorem u8_row {H : Hp} {sv : Value} {a : Bs} (h : SlH u8E 1 H sv a) : SlH (RowE u8c 1) 1 H sv a := ⟨h.1, fun m hm => by
  obtain ⟨cs, hE, hat⟩ := h.2 m hm
  have e : cs = [u8v a[m]] := hE
  subst e
  exact ⟨_, ⟨rfl, Sims.nil.cons (u8_sim _), fun u hu => by simp at hu; subst hu; rfl⟩, hat⟩⟩
theorem ss2b {tb : Tb} {ti td te : TI} {e : Nat} {a : Bs} (ht : tbB P tb = true) (hx : evP s.F x = .str a) (hti : lkT tb T = some ti) (htk : ti.k = .str) (htd : lkT tb T' = some td) (hdk : td.k = .slc e) (hte : lkT tb e = some te) (hek : te.k = .int .u8) (hl : a.length ≤ 140737488355328) (hd : Nat.blt d n = true) (k : K ⟨updp s.F d (.sl u8c a), s.L⟩) : E1 P n N H0 all ⟨some d, .convert T T' x, ty, pos, af, none⟩ none s K := fun F H L ha => by
  refine op1_s2b (ha.ev hx).sim.inv_str.1 ((ti_ok ht hti).str htk) ((ti_ok ht htd).slc hdk) ((ti_ok ht hte).int hek) hd fun b cap H' hh hs => ?_
  exact ⟨hh, fun _ _ => rfl, _, (ha.mono hh).put (p := .sl u8c a) d (Sim.of_slh (u8_row hs) hl), k⟩
/-- What a slot stands for may be said otherwise. -/
theorem so_rt {t : Nat} {p' : PV} (h : PLe (s.F t) p') (hn : p'.noOsl = true) (k : Hd P n N H0 Q (.ops all rest) ks ⟨updp s.F t p', s.L⟩) : Hd P n N H0 Q (.ops all rest) ks s := fun F H L ha => by
  refine k F H L ⟨ha.le, ha.g, fun q => ?_, ha.l⟩
  by_cases e : q = t
  · subst e; simp only [updp_same]; exact (h H _ (ha.f q).sim).simT hn
  · simp only [updp_ne _ _ _ _ e]; exact ha.f q
/-- Nothing, as0 a list that is owned. -/
theorem sw_own {α : Type} {t k e : Nat} {c : Code} (i : Nat) (enc : α → List PV) (hF : s.F t = .val (.slice none 0 0)) (hno : s.L i = .no) (kk : Hd P n N H0 Q (.code c) ks ⟨updp (purgeF i s.F) t (.osl i), lups (purgeL i s.L) i (.arr (.slice none 0 0) k e enc [])⟩) : Hd P n N H0 Q (.code c) ks s := fun F H L ha => by
  have hL0 : Abs H0 s F H (lupd L i none) := ⟨ha.le, ha.g, ha.f, fun j => by
    by_cases e : j = i
    · subst e; rw [hno]; trivial
    · rw [lupd_ne _ _ _ _ e]; exact ha.l j⟩
  have h1 := (ha.f t).sim
  rw [hF] at h1
  have h2 := hL0.turn i (B := .arr (.slice none 0 0) k e enc []) (x := none) ⟨[], ownV_nil, rl_nil, by simp⟩
  have e2 : lupd (lupd L i none) i none = lupd L i none := by funext j; simp only [lupd]; cases Nat.beq j i <;> rfl
  rw [e2] at h2
  refine cw_weaken (fun w hm => hm.clear i) (kk F H _ ⟨h2.le, h2.g, fun q => ?_, h2.l⟩)
  by_cases e : q = t
  · subst e; simp only [updp_same, SimT, lups_same]; exact h1.inv_val
  · simp only [updp_ne _ _ _ _ e]; exact h2.f q
end Go.SW
namespace Go.SW
variable {P : Program} {n : Nat} {N : Rest} {H0 : Env} {all rest : List Oper} {Q : Qs} {ks : List Kt} {s : St} {T T' T2 ty d : Nat} {pos : String} {af : Array Edge} {x y z : Operand} {K : St → Prop} {op : Op} {p : PV}
theorem qadd {k : IntKind} {a b : Int} (hx : evP s.F x = .int k a) (hy : evP s.F y = .int k b) (h : k.min ≤ a + b ∧ a + b ≤ k.max) : Qy P N H0 s (.binOp .add T x y T') ty (.int k (a + b)) := fun F H L ha =>
  ⟨_, Sim.int h.1 h.2, fun _ _ _ => lo_add (ha.ev hx).sim.inv_int.1 (ha.ev hy).sim.inv_int.1 h⟩
theorem qsub {k : IntKind} {a b : Int} (hx : evP s.F x = .int k a) (hy : evP s.F y = .int k b) (h : k.min ≤ a - b ∧ a - b ≤ k.max) : Qy P N H0 s (.binOp .sub T x y T') ty (.int k (a - b)) := fun F H L ha =>
  ⟨_, Sim.int h.1 h.2, fun _ _ _ => lo_sub (ha.ev hx).sim.inv_int.1 (ha.ev hy).sim.inv_int.1 h⟩
theorem qconv {tb : Tb} {ti td : TI} {k k' : IntKind} {a : Int} (ht : tbB P tb = true) (hx : evP s.F x = .int k a) (hti : lkT tb T = some ti) (htd : lkT tb T' = some td) (hk : td.k = .int k') (h : k'.min ≤ a ∧ a ≤ k'.max) : Qy P N H0 s (.convert T T' x) ty (.int k' a) := fun F H L ha =>
  ⟨_, Sim.int h.1 h.2, fun _ _ _ => lo_conv_in (ha.ev hx).sim.inv_int.1 (ti_ok ht hti).isSome ((ti_ok ht htd).int hk) h⟩
/-- The function, called with an own block of the cells pre, leaves it with the cells post. -/
structure Fm (P : Program) (G : Gb) (f : FuncId) (args : List PV) (T : TypeId) (pre : List PV) (res : PV) (post : List PV) : Prop where
  cb : Callable P f
  no : res.noOsl = true
  np : noOsls post = true
  run : ∀ (N : Rest) (H : Hp) (L : Ls) (w : World) (b i : Nat) (vs vc : List Value), G.p H → Sims H args vs → L i = some (b, bx T vc) → Sims H pre vc → Mem N H L w →
    Calls P f (Value.pointer (some ⟨b, 0, none⟩) :: vs).toArray w fun e w' => ∃ v H' vc', e = .returned v ∧ Sim H' res v ∧ Sims H' post vc' ∧ HLe H H' ∧ Mem N H' (lupd L i (some (b, bx T vc'))) w'
/-- The post of a body that turns the block 0. -/
def rmK (tb : Tb) (rs : List ResultVar) (res : PV) (b T : Nat) (post : List PV) : Qs := fun e s => rtK tb rs res e s ∧ ∃ q, s.L 0 = .box b T q ∧ noOsls q = true ∧ PLes q post
theorem rm {tb : Tb} {rs : List ResultVar} {res : PV} {b b' T : Nat} {post q ps : List PV} {as0 bs : List Nat} (h : resPs tb s rs = some (ps, as0, bs)) (he : as0 = bs) (hp : PLe (tupP ps) res) (hb : s.L 0 = .box b' T q) (hbb : b' = b) (hn : noOsls q = true) (hq : PLes q post) : Hd P n N H0 (rmK tb rs res b T post) (.ex .ret) [] s := ⟨⟨.inr rfl, ps, as0, bs, h, he, hp⟩, q, by rw [hb, hbb], hn, hq⟩
theorem rmn {tb : Tb} {rs : List ResultVar} {res : PV} {b b' T : Nat} {post q ps : List PV} {as0 bs : List Nat} (h : resPs tb s rs = some (ps, as0, bs)) (he : as0 = bs) (hp : PLe (tupP ps) res) (hb : s.L 0 = .box b' T q) (hbb : b' = b) (hn : noOsls q = true) (hq : PLes q post) : Hd P n N H0 (rmK tb rs res b T post) (.ex .normal) [] s := ⟨⟨.inl rfl, ps, as0, bs, h, he, hp⟩, q, by rw [hb, hbb], hn, hq⟩
theorem fm_cw {tb : Tb} {G : Gb} {m : Nat} {f : FuncId} {fn : Func} {c : Code} {args pre post : List PV} {res : PV} {T : Nat} (ht : tbB P tb = true) (hf : P.funcs[f]? = some fn) (hb : fn.body = some c) (hn : fn.ntmps = m) (hs : Nat.ble (args.length + 1) m = true) (hcb : Callable P f) (hno : res.noOsl = true) (hna : noOsls args = true) (hnp : noOsls pre = true) (hnq : noOsls post = true)
    (h : PV.wfs args → PV.wfs pre → ∀ b N H, G.p H → Hd P m N ⟨H, G⟩ (rmK tb fn.results.toList res b T post) (.code c) [] ⟨initP (.own 0 b 0 :: args), lups (fun _ => .no) 0 (.box b T pre)⟩) : Fm P G f args T pre res post := by
  refine ⟨hcb, hno, hnq, fun N H L w b i vs vc hg hsim hL hpre hm => ?_⟩
  subst hn
  have hs' : Sims H (.own 0 b 0 :: args) (Value.pointer (some ⟨b, 0, none⟩) :: vs) := hsim.cons Sim.own
  have key : Pm P f (Value.pointer (some ⟨b, 0, none⟩) :: vs).toArray H b (bx T vc) (fun v H' o' => ∃ vc', o' = bx T vc' ∧ Sim H' res v ∧ Sims H' post vc') := by
    refine pm_of_cw hf hb (by have := Nat.le_of_ble_eq_true hs; simp [hsim.1]; omega) fun N => ?_
    have h1 := h hsim.wf hpre.wf b N H hg (initF (Value.pointer (some ⟨b, 0, none⟩) :: vs).toArray) H (ofL [(b, bx T vc)]) ⟨.refl H, hg, fun t => init_sim hs' (by simp [noOsls, hna, PV.noOsl]) t, fun j => by
      by_cases e : j = 0
      · subst e; simp only [lups_same]; exact ⟨vc, rfl, sims_cells hpre hnp⟩
      · simp only [lups_ne _ _ _ _ e]; trivial⟩
    refine cw_mono (fun e F' H' L' hq => ?_) h1
    obtain ⟨s', ha', hq', q, hq1, hq2, hq3⟩ := hq
    obtain ⟨he, v, hr, hv⟩ := rtK_res (N := N) ht ha' hq'
    have h3 := ha'.l 0
    rw [hq1] at h3
    obtain ⟨vc', hL', hsv⟩ := h3
    rcases he with rfl | rfl
    · exact ⟨v, hr, ha'.le, _, hL', vc', rfl, hv, hq3 _ _ hsv.sims⟩
    · exact ⟨v, hr, ha'.le, _, hL', vc', rfl, hv, hq3 _ _ hsv.sims⟩
  exact (key N L w i hL hm).mono fun _ _ ⟨v, H', o', h1, ⟨vc', h5, h6, h7⟩, h3, h4⟩ => ⟨v, H', vc', h1, h6, h7, h3, by rw [← h5]; exact h4⟩
/-- A call of such a function. -/
theorem ecallm {f : FuncId} {args pre post : List PV} {res : PV} {as0 : Array Operand} {ats : Array TypeId} {i b b' T0 off : Nat} (h : Fm P H0.g f args T0 pre res post) (ha : argsP s.F x as0.toList = some (f, .own i b off :: args)) (hoff : off = 0) (hb : s.L i = .box b' T0 pre) (hbb : b' = b) (hd : Nat.blt d n = true) (k : res.wf → PV.wfs post → K ⟨updp s.F d res, lups s.L i (.box b T0 post)⟩) : E1 P n N H0 all ⟨some d, .call ⟨.value x, as0, ats⟩, ty, pos, af, none⟩ (some i) s K := by
  intro F H L hab
  subst hoff; subst hbb
  obtain ⟨us, h1, h2⟩ := args_ok (ats := ats) hab.f ha h.cb
  obtain ⟨v0, vs, rfl, h3, h4⟩ := h1.inv_cons
  have h5 := h3.inv_own
  subst h5
  have h6 := hab.l i
  rw [hb] at h6
  obtain ⟨vc, hL, hsv⟩ := h6
  intro a w hA hm
  rw [if_pos (by simp [Region.wanted])]
  unfold Oper.wp
  rw [hA.eval, h2]
  refine (h.run N H L w b' i vs vc hab.g h4 hL hsv.sims hm).mono fun e' w' ⟨v, H', vc', he, hv, hp, hl, hm'⟩ => ?_
  subst he
  refine ⟨_, H', _, hA.put (by simpa using hd) v, hm', hl, only, _, Abs.put (p := res) ((hab.mono hl).turnB (B := .box b' T0 post) i trivial ⟨vc', rfl, sims_cells hp h.np⟩) d (hv.simT h.no), k hv.wf hp.wf⟩
/-- A function that makes a block. -/
structure Fb (P : Program) (G : Gb) (f : FuncId) (args : List PV) (T : TypeId) (post : List PV) : Prop where
  cb : Callable P f
  np : noOsls post = true
  run : ∀ (N : Rest) (H : Hp) (L : Ls) (w : World) (i : Nat) (vs : List Value), G.p H → Sims H args vs → Mem N H L w →
    Calls P f vs.toArray w fun e w' => ∃ b H' vc', e = .returned (.pointer (some ⟨b, 0, none⟩)) ∧ Sims H' post vc' ∧ HLe H H' ∧ Mem N H' (lupd L i (some (b, bx T vc'))) w'
def rbK (tb : Tb) (rs : List ResultVar) (T : Nat) (post : List PV) : Qs := fun e s => (e = .normal ∨ e = .ret) ∧ ∃ j b q, resPs tb s rs = some ([.own j b 0], [], []) ∧ s.L j = .box b T q ∧ noOsls q = true ∧ PLes q post
theorem rb {tb : Tb} {rs : List ResultVar} {b b' j off T : Nat} {post q : List PV} (h : resPs tb s rs = some ([.own j b off], [], [])) (ho : off = 0) (hb : s.L j = .box b' T q) (hbb : b' = b) (hn : noOsls q = true) (hq : PLes q post) : Hd P n N H0 (rbK tb rs T post) (.ex .ret) [] s := ⟨.inr rfl, j, b, q, by rw [h, ho], by rw [hb, hbb], hn, hq⟩
theorem fb_cw {tb : Tb} {G : Gb} {m : Nat} {f : FuncId} {fn : Func} {c : Code} {args post : List PV} {T : Nat} (ht : tbB P tb = true) (hf : P.funcs[f]? = some fn) (hb : fn.body = some c) (hn : fn.ntmps = m) (hs : Nat.ble args.length m = true) (hcb : Callable P f) (hna : noOsls args = true) (hnq : noOsls post = true)
    (h : PV.wfs args → ∀ N H, G.p H → Hd P m N ⟨H, G⟩ (rbK tb fn.results.toList T post) (.code c) [] ⟨initP args, fun _ => .no⟩) : Fb P G f args T post := by
  refine ⟨hcb, hnq, fun N H L w i vs hg hsim hm => ?_⟩
  subst hn
  have key : Pn P f vs.toArray H (fun v H' b o' => v = .pointer (some ⟨b, 0, none⟩) ∧ ∃ vc', o' = bx T vc' ∧ Sims H' post vc') := by
    refine pn_of_cw hf hb (by have := Nat.le_of_ble_eq_true hs; simp [hsim.1]; exact this) fun N => ?_
    have h1 := h hsim.wf N H hg (initF vs.toArray) H l0 ⟨.refl H, hg, fun t => init_sim hsim hna t, fun i => trivial⟩
    refine cw_mono (fun e F' H' L' hq => ?_) h1
    obtain ⟨s', ha', he, j, b, q, hr, hq1, hq2, hq3⟩ := hq
    obtain ⟨_, v, hr', hv⟩ := rtK_res (N := N) (res := .own j b 0) ht ha' (show rtK tb fn.results.toList (.own j b 0) e s' from ⟨he, _, _, _, hr, rfl, ple rfl⟩)
    have h3 := ha'.l j
    rw [hq1] at h3
    obtain ⟨vc', hL', hsv⟩ := h3
    have hv := hv.inv_own
    subst hv
    rcases he with rfl | rfl
    · exact ⟨_, hr', ha'.le, j, b, _, hL', rfl, vc', rfl, hq3 _ _ hsv.sims⟩
    · exact ⟨_, hr', ha'.le, j, b, _, hL', rfl, vc', rfl, hq3 _ _ hsv.sims⟩
  exact (key N L w i hm).mono fun _ _ ⟨v, H', b, o', h1, ⟨h2, vc', h5, h6⟩, h3, h4⟩ => ⟨b, H', vc', by rw [h1, h2], h6, h3, by rw [← h5]; exact h4⟩
theorem ecallb {f : FuncId} {args post : List PV} {as0 : Array Operand} {ats : Array TypeId} {T0 : Nat} (i : Nat) (h : Fb P H0.g f args T0 post) (ha : argsP s.F x as0.toList = some (f, args)) (hd : Nat.blt d n = true) (k : PV.wfs post → ∀ b, K ⟨updp s.F d (.own i b 0), lups s.L i (.box b T0 post)⟩) : E1 P n N H0 all ⟨some d, .call ⟨.value x, as0, ats⟩, ty, pos, af, none⟩ (some i) s K := by
  intro F H L hab
  obtain ⟨us, h1, h2⟩ := args_ok (ats := ats) hab.f ha h.cb
  intro a w hA hm
  rw [if_pos (by simp [Region.wanted])]
  unfold Oper.wp
  rw [hA.eval, h2]
  refine (h.run N H L w i us hab.g h1 hm).mono fun e' w' ⟨b, H', vc', he, hp, hl, hm'⟩ => ?_
  subst he
  refine ⟨_, H', _, hA.put (by simpa using hd) _, hm', hl, only, _, Abs.put (p := .own i b 0) ((hab.mono hl).turnB (B := .box b T0 post) i trivial ⟨vc', rfl, sims_cells hp h.np⟩) d Sim.own, k hp.wf b⟩
end Go.SW
namespace Go.SW
variable {P : Program} {n : Nat} {N : Rest} {H0 : Env} {Q : Qs} {ks : List Kt} {s : St}
theorem cndT {c : Operand} {x y : Code} {b : Bool} (hc : evP s.F c = .bool b) (hb : b = true) (k : Hd P n N H0 Q (.code x) ks s) : Hd P n N H0 Q (.code (.cond c x y)) ks s := cnd hc (fun _ => k) (fun e => by rw [hb] at e; cases e)
theorem cndF {c : Operand} {x y : Code} {b : Bool} (hc : evP s.F c = .bool b) (hb : b = false) (k : Hd P n N H0 Q (.code y) ks s) : Hd P n N H0 Q (.code (.cond c x y)) ks s := cnd hc (fun e => by rw [hb] at e; cases e) (fun _ => k)
variable {tb : Tb} {rs : List ResultVar} {res p q r : PV} {as0 bs : List Nat}
theorem rt1 (h : resPs tb s rs = some ([p], as0, bs)) (he : as0 = bs) (hp : PLe p res) : Hd P n N H0 (rtK tb rs res) (.ex .ret) [] s := rt h he hp
theorem rt2 (h : resPs tb s rs = some ([p, q], as0, bs)) (he : as0 = bs) (hp : PLe (.tup [p, q]) res) : Hd P n N H0 (rtK tb rs res) (.ex .ret) [] s := rt h he hp
theorem rt3 (h : resPs tb s rs = some ([p, q, r], as0, bs)) (he : as0 = bs) (hp : PLe (.tup [p, q, r]) res) : Hd P n N H0 (rtK tb rs res) (.ex .ret) [] s := rt h he hp
theorem ple_nilx {α : Type} {enc : α → List PV} {xs : List α} (h : xs = []) : PLe (.val (.slice none 0 0)) (.sl enc xs) := h ▸ ple_nil
theorem ple_tup2 {p q p' q' : PV} (h : PLe p p') (k : PLe q q') : PLe (.tup [p, q]) (.tup [p', q']) := ple_tup (ples_cons h (ples_cons k ples_nil))
/-- Lists of texts, numbers, lists. -/
def strc (s : Bs) : List PV := [.str s]
def i64c (z : Int) : List PV := [.int .i64 z]
def u64c (z : Int) : List PV := [.int .u64 z]
def slc {α : Type} (enc : α → List PV) (l : List α) : List PV := [.sl enc l]
end Go.SW
namespace Go.SW
variable {P : Program} {n : Nat} {N : Rest} {H0 : Env} {all rest : List Oper} {Q : Qs} {ks : List Kt} {s : St}
theorem Abs.freeze {i t b b' off T0 : Nat} {cs : List PV} {F : Fr} {H H' : Hp} {L : Ls} (ha : Abs H0 s F H L) (hF : s.F t = .own i b off) (hL : s.L i = .box b' T0 cs) (hbb : b' = b) (hn : noOsls cs = true) (hl : HLe H H') (hH : ∀ b o, L i = some (b, o) → H' b = some o) : Abs H0 ⟨updp s.F t (.el cs off), lups s.L i .no⟩ F H' (lupd L i none) := by
  subst hbb
  have h1 := ha.l i
  rw [hL] at h1
  obtain ⟨vs, hLi, hs⟩ := h1
  have h2 := hH _ _ hLi
  have h3 := (ha.f t).sim
  rw [hF] at h3
  have hat : SlAt H' (.slice (some ⟨b', 0, none⟩) 1 1) vs.length 0 vs := ⟨b', 0, 1, 1, vs.toArray, T0, (0, 0), rfl, h2, rfl, fun j _ => by simp⟩
  have hel : Sim H' (.el cs off) (F t) := by
    have := Sim.el (row := cs) (o := off) hat hs.1.symm (fun j p v hp hv => ((hs.sims.mono hl).2 j p v hp hv))
    rw [h3.inv_own]
    simpa [sBlk, sOff] using this
  have hb := (ha.mono hl).turnB (B := .no) i trivial (x := none) trivial
  refine ⟨hb.le, hb.g, fun q => ?_, hb.l⟩
  by_cases e : q = t
  · subst e; simp only [updp_same]; exact hel.simT rfl
  · simp only [updp_ne _ _ _ _ e]; exact hb.f q
theorem freeze {i t b b' off T0 : Nat} {cs : List PV} (hF : s.F t = .own i b off) (hL : s.L i = .box b' T0 cs) (hbb : b' = b) (hn : noOsls cs = true) (k : Hd P n N H0 Q (.ops all rest) ks ⟨updp s.F t (.el cs off), lups s.L i .no⟩) : Hd P n N H0 Q (.ops all rest) ks s := by
  intro F H L ha
  exact ow_giveO i rfl fun H' hl hg => k _ _ _ (ha.freeze hF hL hbb hn hl hg)
theorem qpeq {x y : Operand} {T T' ty i b o : Nat} {e : TypeId} (hT : P.underlying T = some (.pointer e)) (hx : evP s.F x = .own i b o) (hy : evP s.F y = .val (.pointer none)) : Qy P N H0 s (.binOp .eql T x y T') ty (.bool false) := fun F H L ha =>
  ⟨_, Sim.bool, fun _ _ _ => lo_peq_nil (ha.ev hx).sim.inv_own (ha.ev hy).sim.inv_val hT⟩
theorem qpne {x y : Operand} {T T' ty i b o : Nat} {e : TypeId} (hT : P.underlying T = some (.pointer e)) (hx : evP s.F x = .own i b o) (hy : evP s.F y = .val (.pointer none)) : Qy P N H0 s (.binOp .neq T x y T') ty (.bool true) := fun F H L ha =>
  ⟨_, Sim.bool, fun _ _ _ => lo_pne_nil (ha.ev hx).sim.inv_own (ha.ev hy).sim.inv_val hT⟩
/-- A contract out of one of the first kind, where nothing is handed over or back but texts and numbers. -/
theorem fn_of_pr {G : Gb} {f : FuncId} {args : List PV} {res : PV} {vs : List Value} {v : Value} (hcb : Callable P f) (hf : PV.flats args = true) (hn : res.noOsl = true) (ha : PV.wfs args → ∀ H, Sims H args vs) (hr : PV.wfs args → ∀ H, Sim H res v) (h : PV.wfs args → ∀ H, G.p H → Pr P f vs.toArray H v) : Fn P G f args res :=
  ⟨hcb, hn, fun N H L w us hg hs hm => by
    have e := Sims.uniq hf hs (ha hs.wf H)
    subst e
    exact (h hs.wf H hg N L w hm).mono fun _ _ ⟨h1, h2⟩ => ⟨v, H, h1, hr hs.wf H, .refl H, h2⟩⟩
end Go.SW
namespace Go.SW
variable {P : Program} {n : Nat} {N : Rest} {H0 : Env} {s : St} {tb : Tb} {rs : List ResultVar} {res p q0 : PV} {b b' T : Nat} {post q : List PV} {as0 bs : List Nat}
theorem rm1 (h : resPs tb s rs = some ([p], as0, bs)) (he : as0 = bs) (hp : PLe p res) (hb : s.L 0 = .box b' T q) (hbb : b' = b) (hn : noOsls q = true) (hq : PLes q post) : Hd P n N H0 (rmK tb rs res b T post) (.ex .ret) [] s := rm h he hp hb hbb hn hq
theorem rm0n (h : resPs tb s rs = some ([], as0, bs)) (he : as0 = bs) (hp : PLe (.tup []) res) (hb : s.L 0 = .box b' T q) (hbb : b' = b) (hn : noOsls q = true) (hq : PLes q post) : Hd P n N H0 (rmK tb rs res b T post) (.ex .normal) [] s := rmn h he hp hb hbb hn hq
theorem ples {ps qs : List PV} (h : ps = qs) : PLes ps qs := h ▸ ples_rfl
end Go.SW
namespace Go.SW
variable {P : Program} {n : Nat} {N : Rest} {H0 : Env} {all rest : List Oper} {Q : Qs} {ks : List Kt} {s : St}
end Go.SW
namespace Go.SW
theorem rg_i64 {z : Int} (h : -9223372036854775808 ≤ z ∧ z ≤ 9223372036854775807) : IntKind.min .i64 ≤ z ∧ z ≤ IntKind.max .i64 := h
theorem rg_u8 {z : Int} (h : 0 ≤ z ∧ z ≤ 255) : IntKind.min .u8 ≤ z ∧ z ≤ IntKind.max .u8 := h
theorem rg_u64 {z : Int} (h : 0 ≤ z ∧ z ≤ 18446744073709551615) : IntKind.min .u64 ≤ z ∧ z ≤ IntKind.max .u64 := h
theorem wr_u8 (z : Int) : 0 ≤ IntKind.wrap .u8 z ∧ IntKind.wrap .u8 z ≤ 255 := by
  simp only [IntKind.wrap, IntKind.bits, IntKind.signed]
  simp
  omega
theorem wr_u32 (z : Int) : 0 ≤ IntKind.wrap .u32 z ∧ IntKind.wrap .u32 z ≤ 4294967295 := by
  simp only [IntKind.wrap, IntKind.bits, IntKind.signed]
  simp
  omega
theorem wr_u64 (z : Int) : 0 ≤ IntKind.wrap .u64 z ∧ IntKind.wrap .u64 z ≤ 18446744073709551615 := by
  simp only [IntKind.wrap, IntKind.bits, IntKind.signed]
  simp
  omega
theorem beqT {a b : Bool} (h : (a == b) = true) : a = b := by simpa using h
theorem beqF {a b : Bool} (h : (a == b) = false) : ¬ a = b := by simpa using h
def letter (c : Int) : Bool := decide (97 ≤ c) && decide (c ≤ 122) || decide (48 ≤ c) && decide (c ≤ 57) || decide (c = 45) || decide (c = 95)
def plain (s : Bs) : Bool := s.all fun c => letter c.toNat
def nameE (s : Bs) : Int := if s = [] then 15 else if (16 : Int) < s.length then 5 else if plain s then 0 else 4
theorem u8r (c : UInt8) : 0 ≤ (c.toNat : Int) ∧ (c.toNat : Int) ≤ 255 := by have := c.toNat_lt; omega
theorem drop_getD {s : Bs} {k : Nat} (h : k < s.length) : s.drop k = s.getD k 0 :: s.drop (k + 1) := by
  rw [List.drop_eq_getElem_cons h]; simp [List.getD_eq_getElem?_getD, h]
/-! Layer 1 -/
structure Out where
  s : Bs
  err : Int
def Out.cells (o : Out) : List Value := [str o.s, .int .i64 o.err]
structure In where
  s : Bs
  err : Int
def In.cells (i : In) : List Value := [str i.s, .int .i64 i.err]
/-- The lowest k bytes of a number, the highest first. -/
def numB : Nat → Nat → Bs
  | 0, _ => []
  | k + 1, n => UInt8.ofNat (n / 256 ^ k) :: numB k n
def numK (bytes : Int) : Nat := (min (max bytes 0) 8).toNat
def outNum (o : Out) (n bytes : Int) : Out := ⟨o.s ++ numB (numK bytes) n.toNat, o.err⟩
def outRaw (o : Out) (s : Bs) : Out := ⟨o.s ++ s, o.err⟩
def outText (o : Out) (s : Bs) : Out := if (65535 : Int) < s.length then (if o.err = 0 then ⟨o.s, 5⟩ else o) else outRaw (outNum o s.length 2) s
/-- A number of bytes, the highest first. -/
def beN (l : Bs) : Nat := l.foldl (fun n c => n * 256 + c.toNat) 0
def inFail (i : In) (code : Int) : In := if i.err = 0 ∧ code ≠ 0 then ⟨[], code⟩ else i
def inRaw (i : In) (n : Int) : Bs × In :=
  if i.err ≠ 0 ∨ n ≤ 0 then ([], i) else if (i.s.length : Int) < n then ([], ⟨[], 3⟩) else (i.s.take n.toNat, ⟨i.s.drop n.toNat, i.err⟩)
def inNum (i : In) (bytes : Int) : Int × In := (beN (inRaw i (min bytes 8)).1, (inRaw i (min bytes 8)).2)
def inText (i : In) (most : Int) : Bs × In := inRaw (if most < (inNum i 2).1 then inFail (inNum i 2).2 5 else (inNum i 2).2) (inNum i 2).1
def inEnd (i : In) : Int := if i.err = 0 ∧ 0 < i.s.length then 4 else i.err
theorem beN_take {l : Bs} {k : Nat} {c : UInt8} (h : l[k]? = some c) : beN (l.take (k + 1)) = beN (l.take k) * 256 + c.toNat := by
  rw [takeE h]; simp [beN, List.foldl_append]
theorem beN_lt (l : Bs) : beN l < 256 ^ l.length := by
  have key : ∀ (l : Bs) (a : Nat), l.foldl (fun n c => n * 256 + c.toNat) a < (a + 1) * 256 ^ l.length := by
    intro l
    induction l with
    | nil => intro a; simp
    | cons c r ih =>
      intro a
      have := ih (a * 256 + c.toNat)
      have hc := c.toNat_lt
      rw [List.foldl_cons, List.length_cons, Nat.pow_succ]
      refine Nat.lt_of_lt_of_le this ?_
      rw [show (a + 1) * (256 ^ r.length * 256) = ((a + 1) * 256) * 256 ^ r.length by rw [Nat.mul_comm (256 ^ r.length), Nat.mul_assoc]]
      exact Nat.mul_le_mul_right _ (by omega)
  simpa [beN] using key l 0
theorem or_byte {n c : Nat} (hn : n < 2 ^ 56) (hc : c < 256) : IntKind.wrap .u64 ((BitVec.ofInt 64 (IntKind.wrap .u64 ((n : Int) * 256)) ||| BitVec.ofInt 64 (c : Int)).toNat : Int) = ((n * 256 + c : Nat) : Int) := by
  have h1 : IntKind.wrap .u64 ((n : Int) * 256) = ((n * 256 : Nat) : Int) := by
    simp [IntKind.wrap, IntKind.bits, IntKind.signed]; omega
  rw [h1, BitVec.ofInt_natCast, BitVec.ofInt_natCast, BitVec.toNat_or, BitVec.toNat_ofNat, BitVec.toNat_ofNat, Nat.mod_eq_of_lt (by omega), Nat.mod_eq_of_lt (by omega)]
  have h2 : n * 256 ||| c = n * 256 + c := by
    have := Nat.shiftLeft_add_eq_or_of_lt (b := c) (i := 8) (by omega) n
    rw [Nat.shiftLeft_eq] at this
    exact this.symm
  rw [h2]
  simp [IntKind.wrap, IntKind.bits, IntKind.signed]; omega
theorem inRaw_len (i : In) (n : Int) : ((inRaw i n).1.length : Int) ≤ max n 0 := by
  unfold inRaw
  split
  · simp; omega
  · split
    · simp; omega
    · simp; omega
theorem inNum_r (i : In) (b : Int) : 0 ≤ (inNum i b).1 ∧ (inNum i b).1 ≤ 18446744073709551615 ∧ (b ≤ 2 → (inNum i b).1 ≤ 65535) ∧ (b ≤ 1 → (inNum i b).1 ≤ 255) := by
  have hl := inRaw_len i (min b 8)
  have hlt := beN_lt (inRaw i (min b 8)).1
  have key : ∀ m, (inRaw i (min b 8)).1.length ≤ m → beN (inRaw i (min b 8)).1 < 256 ^ m := fun m hm => Nat.lt_of_lt_of_le hlt (Nat.pow_le_pow_right (by omega) hm)
  have h8 := key 8 (by omega)
  simp only [inNum]
  refine ⟨by omega, by omega, fun h => ?_, fun h => ?_⟩
  · have := key 2 (by omega); omega
  · have := key 1 (by omega); omega
theorem wrap8r (z : Int) : 0 ≤ IntKind.wrap .u8 z ∧ IntKind.wrap .u8 z ≤ 255 := by
  simp [IntKind.wrap, IntKind.bits, IntKind.signed]; omega
theorem byte_of {n : Int} {j : Nat} (hn : 0 ≤ n) (hj : 1 ≤ j) (hj8 : j ≤ 8) : UInt8.ofNat (IntKind.wrap .u8 (n.fdiv (2 ^ (min (8 * ((j : Int) - 1)).toNat IntKind.u64.bits)))).toNat = UInt8.ofNat (n.toNat / 256 ^ (j - 1)) := by
  obtain ⟨m, rfl⟩ := Int.eq_ofNat_of_zero_le hn
  obtain ⟨q, rfl⟩ : ∃ q, j = q + 1 := ⟨j - 1, by omega⟩
  have e1 : (8 * (((q + 1 : Nat) : Int) - 1)).toNat = 8 * q := by omega
  have eb : IntKind.u64.bits = 64 := rfl
  have e2 : min (8 * q) IntKind.u64.bits = 8 * q := by rw [eb]; omega
  have e3 : ((2 : Int) ^ (8 * q)) = ((256 ^ q : Nat) : Int) := by
    rw [Int.pow_mul]; simp
  rw [e1, e2, e3, Int.toNat_natCast, Nat.add_sub_cancel]
  have e4 : ((m : Int).fdiv ((256 ^ q : Nat) : Int)) = ((m / 256 ^ q : Nat) : Int) := by
    rw [Int.fdiv_eq_ediv_of_nonneg _ (Int.natCast_nonneg _)]; simp
  rw [e4]
  generalize m / 256 ^ q = z
  apply UInt8.toNat_inj.1
  simp [IntKind.wrap, IntKind.bits, IntKind.signed, UInt8.toNat_ofNat']
  try omega
theorem byte_app {e n : Nat} {v : Value} {en : Option (Nat × Obj)} {bs : Bs} {z : Int} (h : OwnV 1 e v en n (bs.map u8v ++ [.int .u8 z])) (hn : n = bs.length + 1) (hz : 0 ≤ z ∧ z ≤ 255) : OwnV 1 e v en (bs ++ [UInt8.ofNat z.toNat]).length ((bs ++ [UInt8.ofNat z.toNat]).map u8v) :=
  ownV_cast h (by simp [hn]) (by simp [u8v_of hz.1 hz.2])
theorem numB_len : ∀ (k n : Nat), (numB k n).length = k
  | 0, _ => rfl
  | k + 1, n => by simp [numB, numB_len k n]
theorem num_step {l : Bs} {k : Nat} {c : UInt8} (hc : l[k]? = some c) (hk : k < 8) :
    IntKind.u64.wrap ↑(BitVec.ofInt IntKind.u64.bits (IntKind.u64.wrap (↑(beN (l.take k)) * 2 ^ min (Int.toNat 8) IntKind.u64.bits)) ||| BitVec.ofInt IntKind.u64.bits (c.toNat : Int)).toNat = ((beN (l.take (k + 1)) : Nat) : Int) := by
  have hlt := beN_lt (l.take k)
  have hl : (l.take k).length ≤ k := List.length_take_le _ _
  have h2 : 256 ^ (l.take k).length ≤ 256 ^ 7 := Nat.pow_le_pow_right (by omega) (by omega)
  rw [beN_take hc]
  have e : ((2 : Int) ^ min (Int.toNat 8) IntKind.u64.bits) = 256 := by decide
  rw [e]
  exact or_byte (n := beN (l.take k)) (c := c.toNat) (by omega) c.toNat_lt
end Go.SW
namespace Go.SW
/-- The words between dots. -/
def dots : Bs → List Bs
  | [] => [[]]
  | c :: r => if c = 46 then [] :: dots r else match dots r with
    | [] => [[c]]
    | w :: t => (c :: w) :: t
def wordsOf (s : Bs) : List Bs := if s = [] then [] else dots s
theorem splitK_dots : ∀ s : Bs, Lib.splitK [46] 0 (Lib.count s [46]) s = dots s
  | [] => by rw [Lib.count_miss (by simp [Lib.index])]; rfl
  | b :: l => by
    have ih := splitK_dots l
    by_cases hb : b = 46
    · subst hb
      rw [Lib.count_cons_eq, Nat.add_comm]
      have hix : Lib.index (46 :: l) [46] = 0 := by rw [Lib.index]; simp [List.isPrefixOf]
      unfold Lib.splitK dots
      rw [hix]
      simp [ih]
    · rw [Lib.count_cons_ne _ _ _ hb]
      have hp : ([46] : List UInt8).isPrefixOf (b :: l) = false := by simp [List.isPrefixOf, Ne.symm hb]
      have hix : Lib.index (b :: l) [46] = if Lib.index l [46] == -1 then -1 else Lib.index l [46] + 1 := by rw [Lib.index, hp]; simp
      unfold dots
      rw [if_neg hb, ← ih]
      cases hc : Lib.count l [46] with
      | zero => rfl
      | succ k =>
        unfold Lib.splitK
        rw [hix]
        by_cases hm : Lib.index l [46] = -1
        · rw [Lib.count_miss hm] at hc; cases hc
        · have hge := Lib.index_ge l [46]
          obtain ⟨j, hj⟩ : ∃ j : Nat, Lib.index l [46] = j := ⟨(Lib.index l [46]).toNat, by omega⟩
          rw [hj]
          have e1 : ¬ (((j : Nat) : Int) == -1) = true := by simp <;> omega
          have e2 : ¬ (((j : Nat) : Int) + 1 == -1) = true := by simp <;> omega
          rw [if_neg e1, if_neg e1, if_neg e2]
          have e3 : (((j : Nat) : Int) + 1).toNat = j + 1 := by omega
          rw [e3, Int.toNat_natCast]
          simp
theorem splitB_dots (s : Bs) : (Lib.splitB ⟨#[46]⟩ 0 (Lib.countB ⟨s.toArray⟩ ⟨#[46]⟩) ⟨s.toArray⟩).map Value.string = (dots s).map str := by
  have h := Lib.splitB_data ⟨#[46]⟩ 0 (Lib.countB ⟨s.toArray⟩ ⟨#[46]⟩) ⟨s.toArray⟩
  have hc : Lib.countB ⟨s.toArray⟩ ⟨#[46]⟩ = Lib.count s [46] := by simp [Lib.countB]
  rw [hc] at h ⊢
  have e := splitK_dots s
  simp only at h
  rw [e] at h
  rw [← h, List.map_map]
  congr 1
theorem splitB_len (s : Bs) : Lib.countB ⟨s.toArray⟩ ⟨#[46]⟩ + 1 = (dots s).length := by
  have h := congrArg List.length (splitB_dots s)
  rw [List.length_map, List.length_map, Lib.splitB_all ⟨#[46]⟩ (by decide) 0 _ _ rfl] at h
  exact h
theorem dots_le (s : Bs) : (dots s).length ≤ s.length + 1 := by
  rw [← splitB_len]
  have := Lib.countB_le ⟨#[46]⟩ (by decide) s.length ⟨s.toArray⟩ (by simp [ba_size])
  simp [ba_size] at this
  omega
theorem dots_piece : ∀ (s w : Bs), w ∈ dots s → w.length ≤ s.length
  | [], w, h => by simp [dots] at h; simp [h]
  | c :: r, w, h => by
    unfold dots at h
    split at h
    · rcases List.mem_cons.1 h with rfl | h
      · simp
      · have := dots_piece r w h; simp; omega
    · split at h
      · simp at h; subst h; simp
      · rename_i x t e
        have ih := dots_piece r
        rw [e] at ih
        rcases List.mem_cons.1 h with rfl | h
        · have := ih x (by simp); simp; omega
        · have := ih w (by simp [h]); simp; omega
theorem words_le (s : Bs) : (wordsOf s).length ≤ s.length + 1 := by
  unfold wordsOf; split
  · simp
  · exact dots_le s
def isBad (besides : List Bs) (w : Bs) : Bool := !(besides.contains w) && (w == [] || !plain w)
def keyE (besides : List Bs) (s : Bs) : Int := if (64 : Int) < s.length then 5 else if (wordsOf s).any (isBad besides) then 4 else 0
end Go.SW
namespace Go.SW
structure Pair where
  key : Bs
  kind : Int
  num : Int
  text : Bs
deriving DecidableEq
def Pair.cells (p : Pair) : List Value := [str p.key, .int .u8 p.kind, .int .i64 p.num, str p.text]
def Pair.wf (p : Pair) : Prop := (0 ≤ p.kind ∧ p.kind ≤ 255) ∧ (-9223372036854775808 ≤ p.num ∧ p.num ≤ 9223372036854775807) ∧ p.key.length ≤ 9223372036854775807 ∧ p.text.length ≤ 9223372036854775807
def pairE : Hp → Pair → List Value → Prop := FE Pair.cells Pair.wf
def Pair.zero : Pair := ⟨[], 0, 0, []⟩
def findP (h : List Pair) (key : Bs) : Option Pair := h.find? fun p => p.key == key
theorem findP_hit {h r : List Pair} {p : Pair} {key : Bs} {k : Nat} (e : findP h key = findP (h.drop k) key) (hd : h.drop k = p :: r) (hk : p.key = key) : findP h key = some p := by
  rw [e, hd]; simp [findP, hk]
theorem findP_miss {h r : List Pair} {p : Pair} {key : Bs} {k : Nat} (e : findP h key = findP (h.drop k) key) (hd : h.drop k = p :: r) (hk : ¬ p.key = key) : findP h key = findP r key := by
  rw [e, hd]; simp [findP, hk]
def pairErr (p : Pair) (ahead : List Pair) : Int :=
  if nameE p.key ≠ 0 then nameE p.key else if 2 < p.kind then 8 else if p.kind = 1 ∧ (64 : Int) < p.text.length then 5 else if p.kind = 2 ∧ p.num ≠ 0 ∧ p.num ≠ 1 then 7 else if p.kind = 1 ∧ p.num ≠ 0 ∨ p.kind ≠ 1 ∧ p.text ≠ [] then 4 else if (findP ahead p.key).isSome then 9 else 0
def headGo : List Pair → List Pair → Int
  | _, [] => 0
  | ahead, p :: r => if pairErr p ahead ≠ 0 then pairErr p ahead else headGo (ahead ++ [p]) r
def headE (h : List Pair) : Int := if (8 : Int) < h.length then 6 else headGo [] h
theorem nameE_r (s : Bs) : 0 ≤ nameE s ∧ nameE s ≤ 15 := by
  unfold nameE; repeat' split
  all_goals omega
theorem pairErr_r (p : Pair) (l : List Pair) : 0 ≤ pairErr p l ∧ pairErr p l ≤ 15 := by
  have := nameE_r p.key
  unfold pairErr; repeat' split
  all_goals omega
end Go.SW
namespace Go.SW
theorem outNum_len (o : Out) (n k : Int) : (outNum o n k).s.length ≤ o.s.length + 8 := by
  simp only [outNum, List.length_append, numB_len, numK]; omega
theorem outRaw_len (o : Out) (s : Bs) : (outRaw o s).s.length = o.s.length + s.length := by simp [outRaw]
theorem outText_len (o : Out) (s : Bs) : (outText o s).s.length ≤ o.s.length + s.length + 8 := by
  unfold outText
  split
  · split <;> first | omega | (simp; done) | (simp; omega)
  · rw [outRaw_len]; have := outNum_len o s.length 2; omega
/-- A head's pair, written behind. -/
def pairOut (o : Out) (p : Pair) : Out :=
  if p.kind = 0 then outNum (outNum (outText o p.key) p.kind 1) (IntKind.wrap .u64 p.num) 8
  else if p.kind = 1 then outText (outNum (outText o p.key) p.kind 1) p.text
  else if p.kind = 2 then outNum (outNum (outText o p.key) p.kind 1) (IntKind.wrap .u64 p.num) 1
  else outNum (outText o p.key) p.kind 1
def headOut (h : List Pair) : Out := h.foldl pairOut (outNum ⟨[], 0⟩ h.length 1)
def headBytes (h : List Pair) : Bs := if headE h = 0 then (headOut h).s else []
theorem nameE_ok {s : Bs} (h : nameE s = 0) : s.length ≤ 16 := by
  unfold nameE at h
  split at h
  · cases h
  · split at h
    · cases h
    · omega
theorem pairErr_ok {p : Pair} {ahead : List Pair} (h : pairErr p ahead = 0) : p.key.length ≤ 16 ∧ p.kind ≤ 2 ∧ (p.kind = 1 → p.text.length ≤ 64) := by
  unfold pairErr at h
  split at h
  · contradiction
  · rename_i hn
    have hk := nameE_ok (Decidable.not_not.1 hn)
    split at h
    · cases h
    · split at h
      · cases h
      · exact ⟨hk, by omega, fun e => by omega⟩
theorem headGo_ok : ∀ {r ahead : List Pair}, headGo ahead r = 0 → ∀ p ∈ r, p.key.length ≤ 16 ∧ p.kind ≤ 2 ∧ (p.kind = 1 → p.text.length ≤ 64)
  | [], _, _, p, hp => by cases hp
  | q :: r, ahead, h, p, hp => by
    simp only [headGo] at h
    split at h
    · contradiction
    · rename_i hn
      rcases List.mem_cons.1 hp with rfl | hp
      · exact pairErr_ok (Decidable.not_not.1 hn)
      · exact headGo_ok h p hp
theorem headE_ok {h : List Pair} (e : headE h = 0) : h.length ≤ 8 ∧ ∀ p ∈ h, p.key.length ≤ 16 ∧ p.kind ≤ 2 ∧ (p.kind = 1 → p.text.length ≤ 64) := by
  unfold headE at e
  split at e
  · cases e
  · exact ⟨by omega, headGo_ok e⟩
theorem pairOut_len {o : Out} {p : Pair} (h : p.key.length ≤ 16 ∧ p.kind ≤ 2 ∧ (p.kind = 1 → p.text.length ≤ 64)) : (pairOut o p).s.length ≤ o.s.length + 110 := by
  have h1 := outText_len o p.key
  have h2 := outNum_len (outText o p.key) p.kind 1
  unfold pairOut
  split
  · have := outNum_len (outNum (outText o p.key) p.kind 1) (IntKind.wrap .u64 p.num) 8; omega
  · split
    · have := outText_len (outNum (outText o p.key) p.kind 1) p.text; omega
    · split
      · have := outNum_len (outNum (outText o p.key) p.kind 1) (IntKind.wrap .u64 p.num) 1; omega
      · omega
theorem headOut_len {h : List Pair} (e : headE h = 0) : (headOut h).s.length ≤ 1000 := by
  obtain ⟨h1, h2⟩ := headE_ok e
  have key : ∀ (l : List Pair) (o : Out), (∀ p ∈ l, p.key.length ≤ 16 ∧ p.kind ≤ 2 ∧ (p.kind = 1 → p.text.length ≤ 64)) → (l.foldl pairOut o).s.length ≤ o.s.length + 110 * l.length := by
    intro l
    induction l with
    | nil => intro o _; simp
    | cons p r ih =>
      intro o hp
      have a := ih (pairOut o p) (fun q hq => hp q (by simp [hq]))
      have b := pairOut_len (o := o) (hp p (by simp))
      simp only [List.foldl_cons, List.length_cons]; omega
  have a := key h (outNum ⟨[], 0⟩ h.length 1) h2
  have b := outNum_len ⟨[], 0⟩ h.length 1
  simp only [headOut]; simp at b; omega
/-! Layer 12 -/
structure Mail where
  id : Int
  shop : Bs
  key : Bs
  head : List Pair
  body : Bs
  due : Int
  hops : Int
deriving DecidableEq
def Mail.cells (m : Mail) (a : Option Addr) (c : Nat) : List Value := [.int .u64 m.id, str m.shop, str m.key, .slice a m.head.length c, str m.body, .int .u64 m.due, .int .u8 m.hops]
def Mail.wf (m : Mail) : Prop := (0 ≤ m.id ∧ m.id ≤ 18446744073709551615) ∧ (0 ≤ m.due ∧ m.due ≤ 18446744073709551615) ∧ (0 ≤ m.hops ∧ m.hops ≤ 255) ∧ m.shop.length ≤ 9223372036854775807 ∧ m.key.length ≤ 9223372036854775807 ∧ m.body.length ≤ 9223372036854775807 ∧ m.head.length ≤ 9223372036854775807
structure Reply where
  channel : Int
  kind : Int
  n : Int
  m : Int
  yes : Bool
  name : Bs
  mail : Mail
deriving DecidableEq
def Reply.cells (r : Reply) (a : Option Addr) (c : Nat) : List Value := [.int .u8 r.channel, .int .u8 r.kind, .int .u64 r.n, .int .u64 r.m, .bool r.yes, str r.name, .int .u64 r.mail.id, str r.mail.shop, str r.mail.key, .slice a r.mail.head.length c, str r.mail.body, .int .u64 r.mail.due, .int .u8 r.mail.hops]
def Reply.wf (r : Reply) : Prop := (0 ≤ r.channel ∧ r.channel ≤ 255) ∧ (0 ≤ r.kind ∧ r.kind ≤ 255) ∧ (0 ≤ r.n ∧ r.n ≤ 18446744073709551615) ∧ (0 ≤ r.m ∧ r.m ≤ 18446744073709551615) ∧ r.name.length ≤ 9223372036854775807 ∧ r.mail.wf
def blankM (m : Mail) : Bool := decide (m.shop = []) && decide (m.key = []) && decide ((m.head.length : Int) = 0) && decide (m.body = [])
def spareR (r : Reply) : Bool :=
  if r.mail.id ≠ 0 ∨ r.mail.due ≠ 0 ∨ r.mail.hops ≠ 0 then true
  else if (r.name ≠ [] ∧ r.kind ≠ 0) ∨ (r.kind ≠ 3 ∧ (r.yes = true ∨ blankM r.mail = false)) then true
  else if r.kind = 3 ∨ r.kind = 6 then false
  else if r.kind = 2 ∨ r.kind = 5 ∨ r.kind = 7 then decide (r.m ≠ 0)
  else decide (r.n ≠ 0 ∨ r.m ≠ 0)
def mailE (m : Mail) : Int :=
  if nameE m.shop ≠ 0 then nameE m.shop else if keyE [] m.key ≠ 0 then keyE [] m.key else if headE m.head ≠ 0 then headE m.head else if (256 : Int) < m.body.length then 5 else 0
def replyE (r : Reply) : Int := if 7 < r.kind then 8 else if spareR r then 4 else if r.kind = 0 then nameE r.name else if r.kind = 3 then mailE r.mail else 0
end Go.SW
namespace Go.SW
def GTab (H : Hp) (g : Nat) (zs : List Int) : Prop := ∃ T fr, H g = some (.cells (zs.map (Value.int .u32)).toArray T fr)
theorem GTab.mono {H H' : Hp} {g : Nat} {zs : List Int} (h : GTab H g zs) (hl : HLe H H') : GTab H' g zs := by
  obtain ⟨T, fr, e⟩ := h; exact ⟨T, fr, hl _ _ e⟩
def laidT : List Int := [0x00000000, 0x1db71064, 0x3b6e20c8, 0x26d930ac, 0x76dc4190, 0x6b6b51f4, 0x4db26158, 0x5005713c, 0xedb88320, 0xf00f9344, 0xd6d6a3e8, 0xcb61b38c, 0x9b64c2b0, 0x86d3d2d4, 0xa00ae278, 0xbdbdf21c]
abbrev xor32 (a b : Int) : Int := IntKind.wrap .u32 ((BitVec.ofInt (IntKind.bits .u32) a ^^^ BitVec.ofInt (IntKind.bits .u32) b).toNat)
abbrev and32 (a b : Int) : Int := IntKind.wrap .u32 ((BitVec.ofInt (IntKind.bits .u32) a &&& BitVec.ofInt (IntKind.bits .u32) b).toNat)
theorem and15_lt (a : Int) : (and32 a 15).toNat < 16 := by
  have h1 : (BitVec.ofInt (IntKind.bits .u32) a &&& BitVec.ofInt (IntKind.bits .u32) 15).toNat ≤ 15 := by
    rw [BitVec.toNat_and]; exact Nat.le_trans Nat.and_le_right (by decide)
  unfold and32
  generalize (BitVec.ofInt (IntKind.bits .u32) a &&& BitVec.ofInt (IntKind.bits .u32) 15).toNat = z at *
  simp only [IntKind.wrap, IntKind.bits, IntKind.signed]
  simp
  omega
def crc1 (r : Int) : Int := xor32 (Int.fdiv r (2 ^ (min (4 : Int).toNat (IntKind.bits .u32)))) (laidT.getD (and32 r 15).toNat 0)
def crcIt : Nat → Int → Int
  | 0, r => r
  | k + 1, r => crcIt k (crc1 r)
def crcStep (r b : Int) : Int := crcIt 2 (xor32 r b)
theorem crcStep_r (r b : Int) : 0 ≤ crcStep r b ∧ crcStep r b ≤ 4294967295 := wr_u32 _
def crcB (r : Int) (s : Bs) : Int := s.foldl (fun q c => crcStep q c.toNat) r
def crcSum (parts : List Bs) : Int := xor32 (IntKind.max .u32) (parts.foldl crcB 4294967295)
theorem crcSum_r (p : List Bs) : 0 ≤ crcSum p ∧ crcSum p ≤ 4294967295 := wr_u32 _
/-! Layer 7 -/
structure Frame where
  channel : Int
  kind : Int
  body : Bs
deriving DecidableEq
def Frame.cells (f : Frame) : List Value := [.int .u8 f.channel, .int .u8 f.kind, str f.body]
def Frame.wf (f : Frame) : Prop := (0 ≤ f.channel ∧ f.channel ≤ 255) ∧ (0 ≤ f.kind ∧ f.kind ≤ 255) ∧ f.body.length ≤ 9223372036854775807
def frameE : Hp → Frame → List Value → Prop := FE Frame.cells Frame.wf
def Frame.zero : Frame := ⟨0, 0, []⟩
def frameOut (f : Frame) : Out := outText (outNum (outNum ⟨[], 0⟩ f.channel 1) f.kind 1) f.body
def frameBytes (f : Frame) : Bs := if (2048 : Int) < f.body.length then [] else (outNum (outNum (frameOut f) (crcSum [(frameOut f).s]) 4) 206 1).s
def frameErr (f : Frame) : Int := if (2048 : Int) < f.body.length then 5 else 0
theorem headBytes_len (h : List Pair) : (headBytes h).length ≤ 1000 := by
  unfold headBytes
  split
  · exact headOut_len (by assumption)
  · simp
def replyOut1 (r : Reply) : Out :=
  if r.kind = 0 then outText ⟨[], 0⟩ r.name
  else if r.kind = 2 ∨ r.kind = 5 ∨ r.kind = 7 then outNum ⟨[], 0⟩ r.n 8
  else if r.kind = 3 ∨ r.kind = 6 then outNum (outNum ⟨[], 0⟩ r.n 8) r.m 8
  else ⟨[], 0⟩
def replyOut (r : Reply) : Out :=
  if r.kind = 3 then outText (outRaw (outText (outText (outNum (replyOut1 r) (if r.yes = true then 1 else 0) 1) r.mail.shop) r.mail.key) (headBytes r.mail.head)) r.mail.body
  else replyOut1 r
def replyFrame (r : Reply) : Frame := if replyE r = 0 then ⟨r.channel, IntKind.wrap .u8 (64 + r.kind), (replyOut r).s⟩ else Frame.zero
theorem spareR_ok {r : Reply} (h : spareR r = false) : (r.mail.id = 0 ∧ r.mail.due = 0 ∧ r.mail.hops = 0) ∧ (r.kind ≠ 0 → r.name = []) ∧ (r.kind ≠ 3 → r.yes = false ∧ r.mail.shop = [] ∧ r.mail.key = [] ∧ r.mail.head = [] ∧ r.mail.body = [])
    ∧ (¬ (r.kind = 3 ∨ r.kind = 6) → r.m = 0) ∧ (¬ (r.kind = 3 ∨ r.kind = 6) → ¬ (r.kind = 2 ∨ r.kind = 5 ∨ r.kind = 7) → r.n = 0) := by
  unfold spareR at h
  split at h
  · cases h
  · rename_i h1
    split at h
    · cases h
    · rename_i h2
      have a1 : r.mail.id = 0 ∧ r.mail.due = 0 ∧ r.mail.hops = 0 := by omega
      have a2 : r.kind ≠ 0 → r.name = [] := fun q => Decidable.byContradiction fun q2 => h2 (.inl ⟨q2, q⟩)
      have a3 : r.kind ≠ 3 → r.yes = false ∧ r.mail.shop = [] ∧ r.mail.key = [] ∧ r.mail.head = [] ∧ r.mail.body = [] := fun q => by
        have b1 : ¬ r.yes = true := fun q2 => h2 (.inr ⟨q, .inl q2⟩)
        have b2 : ¬ blankM r.mail = false := fun q2 => h2 (.inr ⟨q, .inr q2⟩)
        have b3 : blankM r.mail = true := by simpa using b2
        simp [blankM] at b3
        obtain ⟨⟨⟨c1, c2⟩, c3⟩, c4⟩ := b3
        exact ⟨by simpa using b1, c1, c2, by first | exact c3 | exact List.eq_nil_of_length_eq_zero (by omega), c4⟩
      refine ⟨a1, a2, a3, ?_, ?_⟩
      · intro q
        rw [if_neg q] at h
        split at h
        · simpa using h
        · simp at h; exact h.2
      · intro q q2
        rw [if_neg q, if_neg q2] at h
        simp at h; exact h.1
theorem keyE_ok {b : List Bs} {s : Bs} (h : keyE b s = 0) : s.length ≤ 64 := by
  unfold keyE at h
  split at h
  · cases h
  · omega
theorem mailE_ok {m : Mail} (h : mailE m = 0) : m.shop.length ≤ 16 ∧ m.key.length ≤ 64 ∧ headE m.head = 0 ∧ m.body.length ≤ 256 := by
  unfold mailE at h
  split at h
  · contradiction
  · rename_i h1
    split at h
    · contradiction
    · rename_i h2
      split at h
      · contradiction
      · rename_i h3
        split at h
        · cases h
        · exact ⟨nameE_ok (Decidable.not_not.1 h1), keyE_ok (Decidable.not_not.1 h2), Decidable.not_not.1 h3, by omega⟩
theorem replyE_len (r : Reply) (h : replyE r = 0) : r.name.length ≤ 16 ∧ r.mail.shop.length ≤ 16 ∧ r.mail.key.length ≤ 64 ∧ r.mail.body.length ≤ 256 ∧ r.mail.head.length ≤ 8 := by
  unfold replyE at h
  split at h
  · cases h
  · split at h
    · cases h
    · rename_i hs
      obtain ⟨_, a2, a3, _, _⟩ := spareR_ok (by simpa using hs)
      split at h
      · rename_i k0
        obtain ⟨_, b1, b2, b3, b4⟩ := a3 (by omega)
        have := nameE_ok h
        rw [b1, b2, b3, b4]; simp; omega
      · rename_i k0
        have := a2 k0
        split at h
        · obtain ⟨c1, c2, c3, c4⟩ := mailE_ok h
          have := (headE_ok c3).1
          rw [a2 k0]; simp; omega
        · rename_i k3
          obtain ⟨_, b1, b2, b3, b4⟩ := a3 k3
          rw [a2 k0, b1, b2, b3, b4]; simp
end Go.SW
namespace Go.SW
variable {P : Program} {n : Nat} {N : Rest} {H0 : Env} {s : St} {T ty : TypeId} {y : Operand}
theorem qgtab {kk : IntKind} {i : Int} {g len m : Nat} {e : TypeId} (tab : List Int) (hr : ∀ z ∈ tab, IntKind.u32.min ≤ z ∧ z ≤ IntKind.u32.max) (hG : ∀ H, H0.g.p H → GTab H g tab) (hy : evP s.F y = .int kk i) (hT : P.underlying T = some (.array len e)) (hk : Sz P e 1) (hi : i = (m : Int)) (hm : m < len) (hl : tab.length = len) : Qy P N H0 s (.indexAddr T (.global g) y) ty (.el [.int .u32 (tab.getD m 0)] 0) := fun F H L hab => by
  have h2 := (hab.ev hy).sim
  obtain ⟨T0, fr, hb⟩ := hG H hab.g
  refine ⟨.pointer (some ⟨g, m * 1, none⟩), Sim.simT ?_ rfl, fun H' L' hh => lo_gidx h2.inv_int.1 hT hk hi hm⟩
  have hml : m < tab.length := by omega
  have hg : tab.getD m 0 = tab[m] := by simp [List.getD_eq_getElem?_getD, hml]
  have hat : SlAt H (.slice (some ⟨g, 0, none⟩) 0 0) 1 m [.int .u32 (tab.getD m 0)] := ⟨g, 0, 0, 0, _, T0, fr, rfl, hb, rfl, fun j hj => by
    obtain rfl : j = 0 := by omega
    simp [hml, hg]⟩
  have := Sim.el (row := [.int .u32 (tab.getD m 0)]) (o := 0) hat rfl (fun j p v hp hv => by
    match j with
    | 0 =>
      simp at hp hv
      subst hp; subst hv
      have := hr (tab.getD m 0) (by rw [hg]; exact List.getElem_mem _)
      rw [List.getD_eq_getElem?_getD] at this
      exact Sim.int this.1 this.2
    | j + 1 => simp at hp)
  simpa [sBlk, sOff] using this
theorem qgstr {kk : IntKind} {i : Int} {g len m : Nat} {e : TypeId} (tab : List Bs) (hr : ∀ z ∈ tab, z.length ≤ 9223372036854775807) (hG : ∀ H, H0.g.p H → GStrs H g tab) (hy : evP s.F y = .int kk i) (hT : P.underlying T = some (.array len e)) (hk : Sz P e 1) (hi : i = (m : Int)) (hm : m < len) (hl : tab.length = len) : Qy P N H0 s (.indexAddr T (.global g) y) ty (.el [.str (tab.getD m [])] 0) := fun F H L hab => by
  have h2 := (hab.ev hy).sim
  obtain ⟨T0, fr, hb⟩ := hG H hab.g
  refine ⟨.pointer (some ⟨g, m * 1, none⟩), Sim.simT ?_ rfl, fun H' L' hh => lo_gidx h2.inv_int.1 hT hk hi hm⟩
  have hml : m < tab.length := by omega
  have hg : tab.getD m [] = tab[m] := by simp [List.getD_eq_getElem?_getD, hml]
  have hat : SlAt H (.slice (some ⟨g, 0, none⟩) 0 0) 1 m [str (tab.getD m [])] := ⟨g, 0, 0, 0, _, T0, fr, rfl, hb, rfl, fun j hj => by
    obtain rfl : j = 0 := by omega
    simp [hml, hg]⟩
  have := Sim.el (row := [.str (tab.getD m [])]) (o := 0) hat rfl (fun j p v hp hv => by
    match j with
    | 0 =>
      simp at hp hv
      subst hp; subst hv
      have := hr (tab.getD m []) (by rw [hg]; exact List.getElem_mem _)
      rw [List.getD_eq_getElem?_getD] at this
      exact Sim.str this
    | j + 1 => simp at hp)
  simpa [sBlk, sOff] using this
end Go.SW
namespace Go.SW
variable {P : Program} {n : Nat} {N : Rest} {H0 : Env} {all rest : List Oper} {Q : Qs} {ks : List Kt} {s : St} {T T' T2 ty d : Nat} {pos : String} {af : Array Edge} {x y z : Operand} {K : St → Prop} {op : Op} {p : PV}
structure Fo {α : Type} (P : Program) (G : Gb) (f : FuncId) (args : List PV) (res : Value → PV) (k e : Nat) (enc : α → List PV) (xs : List α) : Prop where
  cb : Callable P f
  no : ∀ u, (res u).noOsl = true
  run : ∀ (N : Rest) (H : Hp) (L : Ls) (w : World) (i : Nat) (vs : List Value), G.p H → Sims H args vs → Mem N H L w →
    Calls P f vs.toArray w fun e' w' => ∃ v H' en u, e' = .returned v ∧ Sim H' (res u) v ∧ SimB (fun _ => .no) H' (.arr u k e enc xs) en ∧ HLe H H' ∧ Mem N H' (lupd L i en) w'
def foK {α : Type} (tb : Tb) (rs : List ResultVar) (res : Value → PV) (k e : Nat) (enc : α → List PV) (xs : List α) : Qs := fun e' s => ∃ u j, rtK tb rs (res u) e' s ∧ s.L j = .arr u k e enc xs
theorem fo_cw {α : Type} {tb : Tb} {G : Gb} {m : Nat} {f : FuncId} {fn : Func} {c : Code} {args : List PV} {res : Value → PV} {k e : Nat} {enc : α → List PV} {xs : List α} (ht : tbB P tb = true) (hf : P.funcs[f]? = some fn) (hb : fn.body = some c) (hn : fn.ntmps = m) (hs : Nat.ble args.length m = true) (hcb : Callable P f) (hno : ∀ u, (res u).noOsl = true) (hna : noOsls args = true)
    (h : PV.wfs args → ∀ N H, G.p H → Hd P m N ⟨H, G⟩ (foK tb fn.results.toList res k e enc xs) (.code c) [] ⟨initP args, fun _ => .no⟩) : Fo P G f args res k e enc xs := by
  refine ⟨hcb, hno, fun N H L w i vs hg hsim hm => ?_⟩
  subst hn
  have key : Po P f vs.toArray H (fun v H' en => ∃ u, Sim H' (res u) v ∧ SimB (fun _ => .no) H' (.arr u k e enc xs) en) := by
    refine po_of_cw hf hb (by have := Nat.le_of_ble_eq_true hs; simp [hsim.1]; exact this) fun N => ?_
    have h1 := h hsim.wf N H hg (initF vs.toArray) H l0 ⟨.refl H, hg, fun t => init_sim hsim hna t, fun i => trivial⟩
    refine cw_mono (fun e' F' H' L' hq => ?_) h1
    obtain ⟨s', ha', u, j, hq', hq1⟩ := hq
    obtain ⟨he, v, hr, hv⟩ := rtK_res (N := N) ht ha' hq'
    have h3 := ha'.l j
    rw [hq1] at h3
    rcases he with rfl | rfl
    · exact ⟨v, hr, ha'.le, j, u, hv, h3⟩
    · exact ⟨v, hr, ha'.le, j, u, hv, h3⟩
  exact (key N L w i hm).mono fun _ _ ⟨v, H', en, h1, ⟨u, h5, h6⟩, h3, h4⟩ => ⟨v, H', en, u, h1, h5, h6, h3, h4⟩
theorem ecallo {α : Type} {f : FuncId} {args : List PV} {res : Value → PV} {k e : Nat} {enc : α → List PV} {xs : List α} {as0 : Array Operand} {ats : Array TypeId} (i : Nat) (h : Fo P H0.g f args res k e enc xs) (ha : argsP s.F x as0.toList = some (f, args)) (hd : Nat.blt d n = true) (kk : ∀ u, (res u).wf → K ⟨updp (purgeF i s.F) d (res u), lups (purgeL i s.L) i (.arr u k e enc xs)⟩) : E1 P n N H0 all ⟨some d, .call ⟨.value x, as0, ats⟩, ty, pos, af, none⟩ (some i) s K := by
  intro F H L hab
  obtain ⟨us, h1, h2⟩ := args_ok (ats := ats) hab.f ha h.cb
  intro a w hA hm
  rw [if_pos (by simp [Region.wanted])]
  unfold Oper.wp
  rw [hA.eval, h2]
  refine (h.run N H L w i us hab.g h1 hm).mono fun e' w' ⟨v, H', en, u, he, hv, hB, hl, hm'⟩ => ?_
  subst he
  exact ⟨_, H', _, hA.put (by simpa using hd) v, hm', hl, only, _, Abs.put (p := res u) ((hab.mono hl).turn i (B := .arr u k e enc xs) (x := en) hB) d (hv.simT (h.no u)), kk u hv.wf⟩
theorem val_osl {α : Type} {t i k e : Nat} {u : Value} {enc : α → List PV} {xs : List α} {F : Fr} {H : Hp} {L : Ls} (ha : Abs H0 s F H L) (hF : s.F t = .val u) (hL : s.L i = .arr u k e enc xs) : Abs H0 ⟨updp s.F t (.osl i), s.L⟩ F H L := by
  refine ⟨ha.le, ha.g, fun q => ?_, ha.l⟩
  by_cases e : q = t
  · subst e
    have h1 := (ha.f q).sim
    rw [hF] at h1
    simp only [updp_same, SimT, hL]
    exact h1.inv_val
  · simp only [updp_ne _ _ _ _ e]; exact ha.f q
theorem osl_val {α : Type} {t i k e : Nat} {u : Value} {enc : α → List PV} {xs : List α} {F : Fr} {H : Hp} {L : Ls} (ha : Abs H0 s F H L) (hF : s.F t = .osl i) (hL : s.L i = .arr u k e enc xs) : Abs H0 ⟨updp s.F t (.val u), s.L⟩ F H L := by
  refine ⟨ha.le, ha.g, fun q => ?_, ha.l⟩
  by_cases e : q = t
  · subst e
    have h1 := ha.f q
    rw [hF] at h1
    simp only [SimT, hL] at h1
    simp only [updp_same]
    rw [h1]
    exact Sim.val
  · simp only [updp_ne _ _ _ _ e]; exact ha.f q
theorem so_osl {α : Type} {t k e : Nat} {u : Value} {enc : α → List PV} {xs : List α} (i : Nat) (hF : s.F t = .val u) (hL : s.L i = .arr u k e enc xs) (kk : Hd P n N H0 Q (.ops all rest) ks ⟨updp s.F t (.osl i), s.L⟩) : Hd P n N H0 Q (.ops all rest) ks s := fun F H L ha => kk F H L (val_osl ha hF hL)
theorem sw_osl {α : Type} {t k e : Nat} {u : Value} {enc : α → List PV} {xs : List α} {c : Code} (i : Nat) (hF : s.F t = .val u) (hL : s.L i = .arr u k e enc xs) (kk : Hd P n N H0 Q (.code c) ks ⟨updp s.F t (.osl i), s.L⟩) : Hd P n N H0 Q (.code c) ks s := fun F H L ha => kk F H L (val_osl ha hF hL)
theorem sw_val {α : Type} {t i k e : Nat} {u : Value} {enc : α → List PV} {xs : List α} {c : Code} (hF : s.F t = .osl i) (hL : s.L i = .arr u k e enc xs) (kk : Hd P n N H0 Q (.code c) ks ⟨updp s.F t (.val u), s.L⟩) : Hd P n N H0 Q (.code c) ks s := fun F H L ha => kk F H L (osl_val ha hF hL)
end Go.SW
namespace Go.SW
variable {P : Program} {n : Nat} {N : Rest} {H0 : Env} {s : St}
theorem ro1 {α : Type} {tb : Tb} {rs : List ResultVar} {u : Value} {k e j : Nat} {enc : α → List PV} {xs xs' : List α} {as0 bs : List Nat} (h : resPs tb s rs = some ([.val u], as0, bs)) (he : as0 = bs) (hL : s.L j = .arr u k e enc xs') (hx : xs' = xs) : Hd P n N H0 (foK tb rs (fun u => .val u) k e enc xs) (.ex .ret) [] s := ⟨u, j, ⟨.inr rfl, _, as0, bs, h, he, ple rfl⟩, by rw [hL, hx]⟩
theorem ro2 {α : Type} {tb : Tb} {rs : List ResultVar} {p p' : PV} {u : Value} {k e j : Nat} {enc : α → List PV} {xs xs' : List α} {as0 bs : List Nat} (h : resPs tb s rs = some ([p, .val u], as0, bs)) (he : as0 = bs) (hL : s.L j = .arr u k e enc xs') (hx : xs' = xs) (hp : PLe p p') : Hd P n N H0 (foK tb rs (fun u => .tup [p', .val u]) k e enc xs) (.ex .ret) [] s := ⟨u, j, ⟨.inr rfl, _, as0, bs, h, he, ple_tup2 hp (ple rfl)⟩, by rw [hL, hx]⟩
end Go.SW
namespace Go.SW
variable {P : Program} {n : Nat} {N : Rest} {H0 : Env} {s : St} {ty : TypeId}
end Go.SW
namespace Go.SW
variable {P : Program} {n : Nat} {N : Rest} {H0 : Env} {all : List Oper} {s : St} {K : St → Prop}
theorem op1_gd3 {F : Fr} {H : Hp} {L : Ls} {op : Op} {ty j d : Nat} {pos : String} {af : Array Edge} {K : Fr → Hp → Ls → Prop} {want c b : Bool} (hy : yF all F j = some (gv c (.bool b))) (hd : Nat.blt d n = true)
    (ht : (c && gOf b want) = true → Op1 P n N all ⟨some d, op, ty, pos, af, none⟩ K F H L) (hf : (c && gOf b want) = false → K (upd F d undef) H L) : Op1 P n N all ⟨some d, op, ty, pos, af, some (j, want)⟩ K F H L := by
  cases c with
  | false =>
    refine fun a w ha hm => ?_
    have : yielded all.toArray a.tmps j = none := yielded_none ha hy
    rw [if_neg (by simp [Region.wanted, this])]
    exact ⟨_, _, _, ha.put (by simpa using hd) undef, hm, hf rfl⟩
  | true =>
    by_cases e : b = want
    · subst e
      exact op1_gd hy rfl (ht (by cases b <;> rfl))
    · refine op1_gs hy (b := b) ?_ hd (hf ?_)
      · cases b <;> cases want <;> simp_all
      · cases b <;> cases want <;> simp_all [gOf]
theorem ecallg {f : FuncId} {args : List PV} {res : PV} {x : Operand} {xs : Array Operand} {ats : Array TypeId} {ty d j : Nat} {want g : Bool} {pos : String} {af : Array Edge} (hg : gOp s all j want = some g) (h : g = true → Fn P H0.g f args res) (ha : argsP (strG (tmpOf xs.toList) s.F) x xs.toList = some (f, args)) (hc : AllP (conds s.F g (tmpOf xs.toList) [])) (hno : noOslG s.F (tmpOf xs.toList) = true) (hd : Nat.blt d n = true)
    (k : (g = true → res.wf) → K ⟨updp s.F d (.gv g res), s.L⟩) : E1 P n N H0 all ⟨some d, .call ⟨.value x, xs, ats⟩, ty, pos, af, some (j, want)⟩ none s K := by
  intro F H L hab
  obtain ⟨c, b, hy, hge⟩ := gOp_ok hab hg
  refine op1_gd3 hy hd (fun e => ?_) (fun e => ?_)
  · have hgt := hge.trans e
    have hF := h hgt
    obtain ⟨vs, h1, h2⟩ := args_ok (ats := ats) (strG_ok hab.f (fun t ht c v e => (conds_ok hc).2 t ht c v e hgt) (noOslG_ok hno)) ha hF.cb
    refine op1_ph (hF.ph hab.g h1) h2 hd fun v H' hv hl => ⟨hl, fun _ _ => rfl, _, (hab.mono hl).put (p := .gv g res) d ?_, k fun _ => hv.wf⟩
    rw [hgt]
    exact Sim.gvt hv
  · have hgf := hge.trans e
    refine ⟨.refl H, fun _ _ => rfl, _, hab.put (p := .gv g res) d ?_, k fun e => by rw [hgf] at e; cases e⟩
    rw [hgf]
    exact Sim.gvf
end Go.SW
namespace Go.SW
variable {P : Program} {n : Nat} {N : Rest} {H0 : Env} {all rest : List Oper} {Q : Qs} {ks : List Kt} {s : St}
theorem ungd {od : Option Nat} {op : Op} {ty j : Nat} {pos : String} {af : Array Edge} {want g : Bool} (hg : gOp s all j want = some g) (ht : g = true) (k : Hd P n N H0 Q (.ops all (⟨od, op, ty, pos, af, none⟩ :: rest)) ks s) : Hd P n N H0 Q (.ops all (⟨od, op, ty, pos, af, some (j, want)⟩ :: rest)) ks s := by
  intro F H L hab
  obtain ⟨c, b, hy, hge⟩ := gOp_ok hab hg
  have hgt : (c && gOf b want) = true := by rw [← hge]; exact ht
  cases c with
  | false => cases hgt
  | true =>
    have hb : b = want := by cases b <;> cases want <;> simp_all [gOf]
    intro a w ha hm
    have q := k F H L hab a w ha hm
    unfold wpList at q ⊢
    have hy' : yF all F j = some (.bool b) := hy
    rw [if_pos (by simp [Region.wanted])] at q
    rw [if_pos (by simp [Region.wanted, yielded_of ha hy', hb])]
    exact q
theorem ungs {op : Op} {ty j d : Nat} {pos : String} {af : Array Edge} {want g : Bool} (hg : gOp s all j want = some g) (ht : g = false) (hd : Nat.blt d n = true) (k : Hd P n N H0 Q (.ops all rest) ks ⟨updp s.F d .junk, s.L⟩) : Hd P n N H0 Q (.ops all (⟨some d, op, ty, pos, af, some (j, want)⟩ :: rest)) ks s := by
  intro F H L hab
  obtain ⟨c, b, hy, hge⟩ := gOp_ok hab hg
  refine ow_gd hy hd (fun e => ?_) (fun e => ?_)
  · rw [← hge, ht] at e; cases e
  · exact k _ _ _ (hab.put d .junk)
end Go.SW
namespace Go.SW
section
variable {α : Type} {P : Program} {n : Nat} {N : Rest} {F : Fr} {H : Hp} {L : Ls} {ops : List Oper} {T T' T2 ty d : TypeId} {x y z : Operand} {pos : String} {af : Array Edge} {K : Fr → Hp → Ls → Prop}
set_option maxHeartbeats 2000000 in
/-- Zeros are appended to nothing: a slice of that many. -/
theorem op1_appz2 {k bytes m : Nat} {e : TypeId} {zs : List Value} {k1 k2 : IntKind} {q : Int} (i : Nat) (hx : ev F x = .slice none 0 0) (hy : ev F y = .int k1 q) (hT : P.underlying T = some (.slice e)) (hT2 : P.underlying T2 = some (.int k2)) (hk : Sz P e k) (hb : By P e bytes) (h0 : 0 < bytes) (hz : Zr P e zs) (hzl : zs.length = k) (hone : ∀ u ∈ zs, u.oneCell' = true)
    (hq : q = (m : Int)) (hm0 : 0 < m) (hbd : m * bytes ≤ 140737488355328) (hd : Nat.blt d n = true)
    (kk : ∀ v' en' cs, OwnV k e v' en' m cs → (∀ u ∈ cs, u.oneCell' = true) → K (upd F d v') H (lupd L i en')) : Op1 P n N ops ⟨some d, .call ⟨.builtin .append, #[x, y], #[T, T2]⟩, ty, pos, af, none⟩ K F H L := by
  intro a w ha hm
  rw [if_pos (by simp [Region.wanted])]
  unfold Oper.wp
  subst hq
  obtain ⟨inf, hinf, hbb⟩ := hb w
  have hsz : m ≤ m * bytes := Nat.le_mul_of_pos_right _ h0
  have hw : IntKind.wrap .i64 (m : Int) = (m : Int) := by
    simp only [IntKind.wrap, IntKind.bits, IntKind.signed]; simp; split <;> omega
  have hfit := growslice_fits (need := 0 + m) (old := 0) (bytes := bytes) (by omega) (by simpa using hbd)
  have hfit' : ¬ (281474976710656 < Builtin.nextslicecap m 0 * inf.bytes) := by rw [hbb]; simp only [Nat.zero_add] at hfit; omega
  have hl : ¬ (281474976710656 < (m : Int) * (inf.bytes : Int)) := by
    rw [hbb]
    have e1 : ((m : Int) * (bytes : Int)) = ((m * bytes : Nat) : Int) := by simp
    rw [e1]; omega
  have h63 : ¬ (9223372036854775807 < (m : Int)) := by omega
  have h1 : ¬ ((m : Int) < 0) := by omega
  have hm00 : ¬ m = 0 := by omega
  have hmk : ¬ m ≤ 0 := by omega
  obtain ⟨nc, hnc⟩ : ∃ nc, nc = (Question.appendCap m 0 e).cut (w.tape w.drawn (Question.appendCap m 0 e)) := ⟨_, rfl⟩
  have hnge : m ≤ nc := by rw [hnc]; simp only [Question.cut]; omega
  obtain ⟨z, hz1, hz2⟩ := hz w.drew
  obtain ⟨inf', hinf', _⟩ := hb w.drew
  have hqf : (Question.appendCap m 0 e).forced = false := rfl
  have hnil : (Builtin.firstCells k 0 (.slice none 0 0)).run P w.drew = .ok #[] w.drew := by simp [Builtin.firstCells]
  have hzc : ∀ q, (Builtin.zeroCells zs.toArray q).size = q * k := fun q => by simp [Builtin.zeroCells, hzl]
  let news : List Value := if m * k = 0 then [] else (Builtin.zeroCells zs.toArray m).toList
  have hnl : news.length = m * k := by
    by_cases h : m * k = 0
    · simp only [news, h, if_true]; rfl
    · simp only [news, h, if_false]; rw [Array.length_toList]; exact hzc m
  have hnews : ∀ u ∈ news, u.oneCell' = true := by
    intro u hu
    by_cases h : m * k = 0
    · simp only [news, h, if_true] at hu; cases hu
    · simp only [news, h, if_false, Builtin.zeroCells, Array.toList_map, Array.toList_range, List.mem_map, List.mem_range] at hu
      obtain ⟨q, hq1, rfl⟩ := hu
      have hk0 : 0 < k := by
        rcases Nat.eq_zero_or_pos k with e | e
        · subst e; simp at h
        · exact e
      have hlt : q % zs.toArray.size < zs.toArray.size := Nat.mod_lt _ (by simp [hzl]; exact hk0)
      have e1 : zs.toArray[q % zs.toArray.size]! = zs.toArray[q % zs.toArray.size] := getElem!_pos zs.toArray _ hlt
      rw [e1]
      exact hone _ (by simp)
  have hr : (Builtin.append_ #[T, T2] ty #[.slice none 0 0, .int k1 (m : Int)]).run P w = .ok (.slice (some ⟨w.heap.size, 0, none⟩) m nc) { w.drew with heap := w.drew.heap.push (bx e (news ++ (Builtin.zeroCells zs.toArray (nc - m)).toList)) } := by
    by_cases h : m * k = 0
    · simp [Builtin.append_, run_underlying hT, run_underlying hT2, hk w, hw, hinf, hl, h63, h1, hm00, hmk, hfit', hqf, hinf', hnil, h, hz1, hz2, newRow, bx, askRoom, ← hnc, news, run_asInt]
      first | done | rfl | (show w.drew.alloc _ = w.drew.alloc _; congr 2; apply Array.ext'; simp; done)
    · simp [Builtin.append_, run_underlying hT, run_underlying hT2, hk w, hw, hinf, hl, h63, h1, hm00, hmk, hfit', hqf, hinf', hnil, h, hz1, hz2, newRow, bx, askRoom, ← hnc, news, run_asInt]
      first | done | rfl | (show w.drew.alloc _ = w.drew.alloc _; congr 2; apply Array.ext'; simp; done)
  have : (execOp a.eval ⟨some d, .call ⟨.builtin .append, #[x, y], #[T, T2]⟩, ty, pos, af, none⟩).run P w = .ok (.value (.slice (some ⟨w.heap.size, 0, none⟩) m nc)) { w.drew with heap := w.drew.heap.push (bx e (news ++ (Builtin.zeroCells zs.toArray (nc - m)).toList)) } := by
    rw [ha.eval]
    refine exec_builtin (args := #[.slice none 0 0, .int k1 (m : Int)]) (by simp [hx, hy]) fun cs => ?_
    simp [builtin, hr]
  rw [this]
  refine ⟨_, H, _, ha.put (by simpa using hd) _, (hm.drew (w.drawn + 1)).push i _, kk _ _ news ⟨hnl, .inr ⟨_, _, _, rfl, rfl, ?_, hnge, ?_⟩⟩ hnews⟩
  · simp only [List.length_append, Array.length_toList, hzc, hnl]
    rw [← Nat.add_mul]; congr 1; omega
  · rw [← hnl]; exact List.take_left
end
variable {P : Program} {n : Nat} {N : Rest} {H0 : Env} {all rest : List Oper} {Q : Qs} {ks : List Kt} {s : St} {T T' T2 ty d : Nat} {pos : String} {af : Array Edge} {x y z : Operand} {K : St → Prop} {op : Op} {p : PV}
theorem qlen0 {tb : Tb} {ti : TI} {e : Nat} (ht : tbB P tb = true) (hx : evP s.F x = .val (.slice none 0 0)) (hti : lkT tb T = some ti) (htk : ti.k = .slc e) : Qy P N H0 s (.call ⟨.builtin .len, #[x], #[T]⟩) ty (.int .i64 0) := fun F H L ha => by
  have h1 := (evP_ok ha.f x).sim
  rw [hx] at h1
  exact ⟨.int .i64 0, Sim.int (by decide) (by decide), fun _ _ _ => lo_len_sl h1.inv_val ((ti_ok ht hti).slc htk)⟩
theorem qcap0 {tb : Tb} {ti : TI} {e : Nat} (ht : tbB P tb = true) (hx : evP s.F x = .val (.slice none 0 0)) (hti : lkT tb T = some ti) (htk : ti.k = .slc e) : Qy P N H0 s (.call ⟨.builtin .cap, #[x], #[T]⟩) ty (.int .i64 0) := fun F H L ha => by
  have h1 := (evP_ok ha.f x).sim
  rw [hx] at h1
  exact ⟨.int .i64 0, Sim.int (by decide) (by decide), fun _ _ _ => lo_cap_sl h1.inv_val ((ti_ok ht hti).slc htk)⟩
theorem qcut0 {tb : Tb} {ti te : TI} {e : Nat} {k : IntKind} {i : Int} (ht : tbB P tb = true) (hx : evP s.F x = .val (.slice none 0 0)) (hy : evP s.F y = .int k i) (hti : lkT tb T = some ti) (htk : ti.k = .slc e) (hte : lkT tb e = some te) (hi : i = 0) : Qy P N H0 s (.slice T x none (some y) none) ty (.val (.slice none 0 0)) := fun F H L ha => by
  have h1 := (evP_ok ha.f x).sim
  rw [hx] at h1
  have h2 := (evP_ok ha.f y).sim
  rw [hy] at h2
  exact ⟨_, Sim.val, fun _ _ _ => lo_slice_cut h1.inv_val h2.inv_int.1 ((ti_ok ht hti).slc htk) (ti_ok ht hte).sz hi⟩
def jrow (k : Nat) : Unit → List PV := fun _ => List.replicate k .junk
theorem sims_junk {H : Hp} : ∀ (vs : List Value), Sims H (List.replicate vs.length .junk) vs
  | [] => Sims.nil
  | v :: r => by
    have := (sims_junk (H := H) r).cons (v := v) Sim.junk
    simpa [List.replicate_succ] using this
theorem rl_junk {H : Hp} {k : Nat} : ∀ (m : Nat) (cs : List Value), cs.length = m * k → (∀ u ∈ cs, u.oneCell' = true) → Rl (RowE (jrow k) k) H (List.replicate m ()) cs
  | 0, cs, h, _ => by simp at h; exact h
  | m + 1, cs, h, ho => by
    rw [Nat.add_mul, Nat.one_mul] at h
    refine ⟨cs.take k, cs.drop k, (List.take_append_drop k cs).symm, ⟨by simp [jrow], ?_, fun u hu => ho u (List.mem_of_mem_take hu)⟩, rl_junk m _ (by simp; omega) fun u hu => ho u (List.mem_of_mem_drop hu)⟩
    have := sims_junk (H := H) (cs.take k)
    simpa [jrow, show min k cs.length = k by omega] using this
/-- Zeros behind nothing: room. -/
theorem appz {tb : Tb} (i : Nat) {e m : Nat} {te ti t2 : TI} {k1 k2 : IntKind} {q : Int} (ht : tbB P tb = true) (hx : evP s.F x = .val (.slice none 0 0)) (hy : evP s.F y = .int k1 q) (hti : lkT tb T = some ti) (htk : ti.k = .slc e) (ht2 : lkT tb T2 = some t2) (ht2k : t2.k = .int k2) (hte : lkT tb e = some te) (hz : te.zero.length = te.size) (hone : all1 te.zero = true) (hby : Nat.blt 0 te.bytes = true) (hq : q = (m : Int)) (hm0 : 0 < m) (hbd : m * te.bytes ≤ 140737488355328) (hd : Nat.blt d n = true) (hno : s.L i = .no)
    (kk : ∀ u', K ⟨updp (purgeF i s.F) d (.osl i), lups (purgeL i s.L) i (.arr u' te.size e (jrow te.size) (List.replicate m ()))⟩) : E1 P n N H0 all ⟨some d, .call ⟨.builtin .append, #[x, y], #[T, T2]⟩, ty, pos, af, none⟩ (some i) s K := by
  intro F H L ha
  have h1 := (evP_ok ha.f x).sim
  rw [hx] at h1
  have h2 := (evP_ok ha.f y).sim
  rw [hy] at h2
  obtain ⟨zv, hzv, hs⟩ := (ti_ok ht hte).zero
  have hok := ti_ok ht hte
  have hby' : 0 < te.bytes := by simpa using hby
  have hall := all1_ok (hs H) hone
  have hlen : m ≤ 140737488355328 := Nat.le_trans (Nat.le_mul_of_pos_right _ hby') hbd
  refine op1_appz2 i h1.inv_val h2.inv_int.1 ((ti_ok ht hti).slc htk) ((ti_ok ht ht2).int ht2k) hok.sz hok.by_ hby' (zs := zv.cells.toList) (fun w => ⟨zv, hzv w, by simp⟩) (by rw [(hs H).1, hz]) (fun u hu => List.all_eq_true.1 hall u hu) hq hm0 hbd hd fun v' en' cs hv' hcs => ?_
  exact ⟨.refl H, only, _, (ha.turn i (B := .arr v' te.size e (jrow te.size) (List.replicate m ())) ⟨cs, by simpa using hv', rl_junk m cs hv'.1 hcs, by simpa using hlen⟩).put d (by simp [SimT, lups_same]), kk v'⟩
/-- A list that is owned, cut to nothing. -/
theorem ocut {α β : Type} {tb : Tb} {i e k : Nat} {u : Value} {enc : α → List PV} {xs : List α} {te ti : TI} {k1 : IntKind} {q : Int} (enc' : β → List PV) (ht : tbB P tb = true) (hx : evP s.F x = .osl i) (hb : s.L i = .arr u k e enc xs) (hy : evP s.F y = .int k1 q) (hti : lkT tb T = some ti) (htk : ti.k = .slc e) (hte : lkT tb e = some te) (hq : q = 0) (hd : Nat.blt d n = true)
    (kk : ∀ u', K ⟨updp (purgeF i s.F) d (.osl i), lups (purgeL i s.L) i (.arr u' k e enc' [])⟩) : E1 P n N H0 all ⟨some d, .slice T x none (some y) none, ty, pos, af, none⟩ (some i) s K := by
  intro F H L ha
  have h1 := evP_ok ha.f x
  unfold Ok1 at h1
  rw [hx] at h1
  simp only [SimT, hb] at h1
  have h2 := (evP_ok ha.f y).sim
  rw [hy] at h2
  have h3 := ha.l i
  rw [hb] at h3
  obtain ⟨cs, ho, hr, hm⟩ := h3
  obtain ⟨a, c, hv, ho'⟩ := ownV_cut ho
  refine op1_l hd (lo_slice_cut (h1.trans hv) h2.inv_int.1 ((ti_ok ht hti).slc htk) (ti_ok ht hte).sz hq) ?_
  have hL : lupd L i (L i) = L := by funext j; by_cases e : j = i; (subst e; exact lupd_same _ _ _); exact lupd_ne _ _ _ _ e
  have := ha.turn i (B := .arr (.slice a 0 c) k e enc' []) (x := L i) ⟨[], by simpa using ho', rfl, by simp⟩
  rw [hL] at this
  exact ⟨.refl H, fun _ _ => rfl, _, this.put d (by simp [SimT, lups_same]), kk _⟩
end Go.SW
namespace Go.SW
variable {P : Program} {n : Nat} {N : Rest} {H0 : Env} {all rest : List Oper} {Q : Qs} {ks : List Kt} {s : St} {T T' T2 ty d : Nat} {pos : String} {af : Array Edge} {x y z : Operand} {K : St → Prop} {op : Op} {p : PV}
structure Fl {α : Type} (P : Program) (G : Gb) (f : FuncId) (args : List PV) (res : Value → PV) (k e : Nat) (enc : α → List PV) (xs ys : List α) : Prop where
  cb : Callable P f
  no : ∀ u, (res u).noOsl = true
  run : ∀ (N : Rest) (H : Hp) (L : Ls) (w : World) (i : Nat) (u : Value) (vs : List Value), G.p H → SimB (fun _ => .no) H (.arr u k e enc xs) (L i) → Sims H args vs → Mem N H L w →
    Calls P f (u :: vs).toArray w fun e' w' => ∃ v H' en u', e' = .returned v ∧ Sim H' (res u') v ∧ SimB (fun _ => .no) H' (.arr u' k e enc ys) en ∧ HLe H H' ∧ Mem N H' (lupd L i en) w'
def Pl (P : Program) (f : FuncId) (args : Array Value) (H : Hp) (en : Option (Nat × Obj)) (R : Value → Hp → Option (Nat × Obj) → Prop) : Prop :=
  ∀ N L w i, L i = en → Mem N H L w → Calls P f args w fun e w' => ∃ v H' en', e = .returned v ∧ R v H' en' ∧ HLe H H' ∧ Mem N H' (lupd L i en') w'
def ofE : Option (Nat × Obj) → Ls
  | none => l0
  | some x => ofL [x]
theorem pl_of_cw {f : FuncId} {fn : Func} {c : Code} {args : Array Value} {H : Hp} {en : Option (Nat × Obj)} {R : Value → Hp → Option (Nat × Obj) → Prop} (hf : P.funcs[f]? = some fn) (hb : fn.body = some c) (hs : args.size ≤ fn.ntmps)
    (h : ∀ N, Cw P fn.ntmps N c (fnK P N fn H (fun v' H' L' => ∃ k, R v' H' (L' k))) (initF args) H (ofE en)) : Pl P f args H en R := fun N L w i hi hm => by
  have hm0 : Mem (N.plus (lupd L i none)) H (ofE en) w := by
    cases en with
    | none => exact (hm.clear i).aside
    | some x => obtain ⟨b, o⟩ := x; exact hm.asideBut hi
  refine calls_of_cw hf hb hs (h (N.plus (lupd L i none))) hm0 fun v' H' L' w' ⟨k, hr⟩ hl hm' => ?_
  cases e : L' k with
  | none => rw [e] at hr; exact ⟨v', H', none, rfl, hr, hl, (hm.clear i).back hm'⟩
  | some p =>
    obtain ⟨b, o⟩ := p
    rw [e] at hr
    exact ⟨v', H', some (b, o), rfl, hr, hl, hm.backWith hm' e⟩
theorem fl_cw {α : Type} {tb : Tb} {G : Gb} {m : Nat} {f : FuncId} {fn : Func} {c : Code} {args : List PV} {res : Value → PV} {k e : Nat} {enc : α → List PV} {xs ys : List α} (ht : tbB P tb = true) (hf : P.funcs[f]? = some fn) (hb : fn.body = some c) (hn : fn.ntmps = m) (hs : Nat.ble (args.length + 1) m = true) (hcb : Callable P f) (hno : ∀ u, (res u).noOsl = true) (hna : noOsls args = true)
    (h : PV.wfs args → xs.length ≤ 140737488355328 → ∀ u N H, G.p H → Hd P m N ⟨H, G⟩ (foK tb fn.results.toList res k e enc ys) (.code c) [] ⟨initP (.osl 0 :: args), lups (fun _ => .no) 0 (.arr u k e enc xs)⟩) : Fl P G f args res k e enc xs ys := by
  refine ⟨hcb, hno, fun N H L w i u vs hg hB hsim hm => ?_⟩
  subst hn
  have key : Pl P f (u :: vs).toArray H (L i) (fun v H' en => ∃ u', Sim H' (res u') v ∧ SimB (fun _ => .no) H' (.arr u' k e enc ys) en) := by
    refine pl_of_cw hf hb (by have := Nat.le_of_ble_eq_true hs; simp [hsim.1]; omega) fun N => ?_
    have hlen : xs.length ≤ 140737488355328 := by obtain ⟨_, _, _, q⟩ := hB; exact q
    have h1 := h hsim.wf hlen u N H hg (initF (u :: vs).toArray) H (ofE (L i)) ⟨.refl H, hg, fun t => ?_, fun j => ?_⟩
    · refine cw_mono (fun e' F' H' L' hq => ?_) h1
      obtain ⟨s', ha', u', j, hq', hq1⟩ := hq
      obtain ⟨he, v, hr, hv⟩ := rtK_res (N := N) ht ha' hq'
      have h3 := ha'.l j
      rw [hq1] at h3
      rcases he with rfl | rfl
      · exact ⟨v, hr, ha'.le, j, u', hv, h3⟩
      · exact ⟨v, hr, ha'.le, j, u', hv, h3⟩
    · cases t with
      | zero => simp [initP, nth, SimT, lups_same, initF]
      | succ t =>
        have := init_sim (sL := lups (fun _ => .no) 0 (.arr u k e enc xs)) hsim hna t
        simpa [initP, nth, initF] using this
    · by_cases e1 : j = 0
      · subst e1
        simp only [lups_same]
        have : ofE (L i) 0 = L i := by cases L i <;> rfl
        rw [this]; exact hB
      · simp only [lups_ne _ _ _ _ e1]; trivial
  exact (key N L w i rfl hm).mono fun _ _ ⟨v, H', en, h1, ⟨u', h5, h6⟩, h3, h4⟩ => ⟨v, H', en, u', h1, h5, h6, h3, h4⟩
theorem ecallw {α : Type} {f : FuncId} {args : List PV} {res : Value → PV} {i k e k2 e2 : Nat} {enc : α → List PV} {xs ys : List α} {u : Value} {as0 : Array Operand} {ats : Array TypeId} (h : Fl P H0.g f args res k e enc xs ys) (hx : evP s.F x = .fn f [] []) (ha : evPs s.F as0.toList = .osl i :: args) (hb : s.L i = .arr u k2 e2 enc xs) (hk : k2 = k) (he2 : e2 = e) (hd : Nat.blt d n = true)
    (kk : ∀ u', (res u').wf → K ⟨updp (purgeF i s.F) d (res u'), lups (purgeL i s.L) i (.arr u' k e enc ys)⟩) : E1 P n N H0 all ⟨some d, .call ⟨.value x, as0, ats⟩, ty, pos, af, none⟩ (some i) s K := by
  intro F H L hab
  subst hk; subst he2
  have h1 := (evP_ok hab.f x).sim
  rw [hx] at h1
  obtain ⟨v1, v2, ex, h2, h3⟩ := h1.inv_fn
  cases h2.inv_nil
  cases h3.inv_nil
  have hsT := evPs_ok (Ls := s.L) (H := H) (F := F) (G := s.F) (xs := as0.toList) fun y _ => evP_ok hab.f y
  rw [ha] at hsT
  have hB := hab.l i
  rw [hb] at hB
  cases hev : evs F as0.toList with
  | nil => have := hsT.1; rw [hev] at this; simp at this
  | cons v0 vs =>
    rw [hev] at hsT
    have h4 := hsT.2 0 _ _ rfl rfl
    simp only [SimT, hb] at h4
    subst h4
    have h5 : Sims H args vs := by
      obtain ⟨q, r, e3, _, q2⟩ := hsT.sims.inv_cons
      cases e3; exact q2
    have hen : En P (.call ⟨.value x, as0, ats⟩) F f (v0 :: vs).toArray := by
      have := en_any (ats := ats) (xs := as0) ex h.cb
      rw [hev] at this
      simpa using this
    intro a w hA hm
    rw [if_pos (by simp [Region.wanted])]
    unfold Oper.wp
    rw [hA.eval, hen]
    refine (h.run N H L w i v0 vs hab.g hB h5 hm).mono fun e' w' ⟨v, H', en, u', he, hv, hB', hl, hm'⟩ => ?_
    subst he
    exact ⟨_, H', _, hA.put (by simpa using hd) v, hm', hl, only, _, Abs.put (p := res u') ((hab.mono hl).turn i (B := .arr u' k2 e2 enc ys) (x := en) hB') d (hv.simT (h.no u')), kk u' hv.wf⟩
end Go.SW
