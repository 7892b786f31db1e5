/-
  A part of the proof of MethodFrames: The walks of this seat, printed by program: stairwelllaw11.awake, stairwelllaw11.MethodFrames, stairwelllaw11.MethodReads. A table of texts that the row lists. Over any program; no condition. Methods by the document: what may be, what is written. Plain laws; each asks what it lists. Methods that are written are read again; what is read is written so. Plain laws; each asks what it lists.
-/
import Derived.Test.YtdkpbleeehmhjabGreatDoorProg
import Derived.Test.YtdkpbleeehmhjabGreatDoorMethodFramesP3
import Derived.KernelRfl
import Derived.Test.YtdkpbleeehmhjabGreatDoorMethodFramesP4
set_option linter.unusedVariables false
set_option linter.unusedSimpArgs false
set_option linter.unusedVariables false
set_option maxRecDepth 100000
set_option maxHeartbeats 4000000
namespace Go.SW.V
open Go.SW Go.Proofs
theorem cb18 : Callable Tryz.prog 18 := callable_of Tryz.func18 (by kernel_rfl) (by kernel_rfl)
theorem cb5 : Callable Tryz.prog 5 := callable_of Tryz.func5 (by kernel_rfl) (by kernel_rfl)
theorem eqg60 : Tryz.prog.eqGuardType Tryz.prog.depth 60 = false := by kernel_rfl
theorem veq60 (p q : Frame) : ∀ (H : Hp) (vs us : List Value), Sims H (Frame.pc p) vs → Sims H (Frame.pc q) us → EqV Tryz.prog 10000 60 (.agg vs.toArray) (.agg us.toArray) (decide (p = q)) := by
  intro H vs us hv hu
  obtain ⟨_, _, rfl, v0, v_0⟩ := hv.inv_cons
  obtain ⟨_, _, rfl, v1, v_1⟩ := v_0.inv_cons
  obtain ⟨_, _, rfl, v2, v_2⟩ := v_1.inv_cons
  cases v_2.inv_nil
  cases v0.inv_int.1; cases v1.inv_int.1; cases v2.inv_str.1
  obtain ⟨_, _, rfl, u0, u_0⟩ := hu.inv_cons
  obtain ⟨_, _, rfl, u1, u_1⟩ := u_0.inv_cons
  obtain ⟨_, _, rfl, u2, u_2⟩ := u_1.inv_cons
  cases u_2.inv_nil
  cases u0.inv_int.1; cases u1.inv_int.1; cases u2.inv_str.1
  exact EqV.to (eqv_agg Tryz.underlying60 (by kernel_rfl) (eqf_1 (by decide) ag5 rfl rfl (eqv_int Tryz.underlying5) (eqf_1 (by decide) ag5 rfl rfl (eqv_int Tryz.underlying5) (eqf_1 (by decide) ag9 rfl rfl (eqv_str Tryz.underlying9) eqf_nil)))) (by obtain ⟨a0, a1, a2⟩ := p; obtain ⟨b0, b1, b2⟩ := q; rw [Bool.eq_iff_iff]; simp)
def tbv67 : Tb := [(5, ⟨.int .u8, 1, 1, [.int .u8 0]⟩),
  (9, ⟨.str, 1, 16, [.str []]⟩),
  (50, ⟨.agg [(0, 1), (1, 1), (2, 1)], 3, 24, [.int .u8 0, .int .u8 0, .str []]⟩),
  (54, ⟨.agg [(0, 1), (1, 1), (2, 1), (3, 1), (4, 1), (5, 1), (6, 1), (7, 1), (8, 1), (9, 1)], 10, 120, [.int .u8 0, .int .u8 0, .str [], .str [], .str [], .sl Pair.pc [], .str [], .int .u64 0, .int .u64 0, .bool false]⟩),
  (57, ⟨.agg [(0, 1), (1, 1), (2, 1), (3, 1), (4, 1), (5, 1), (6, 1), (7, 1), (8, 1), (9, 1)], 10, 120, [.int .u8 0, .int .u8 0, .str [], .str [], .str [], .sl Pair.pc [], .str [], .int .u64 0, .int .u64 0, .bool false]⟩),
  (60, ⟨.agg [(0, 1), (1, 1), (2, 1)], 3, 24, [.int .u8 0, .int .u8 0, .str []]⟩)]
theorem tbv67ok : tbB Tryz.prog tbv67 = true := by kernel_rfl
theorem l11_awake : Fn Tryz.prog gb 18 [] (.bool true) := by
  refine fn_cw tbv67ok Tryz.func18 rfl Tryz.ntmps18 rfl cb18 rfl rfl fun w N H hG => ?_
  refine go tbv67ok 8 rfl rfl trivial ?_
  refine call (method_Method_Frame_ok (⟨1, 1, [], [], [], [], [], 0, 0, false⟩ : Method)) rfl rfl fun w1 => ?_
  refine go tbv67ok 3 rfl rfl trivial ?_
  refine ef (alloc tbv67ok 0 rfl rfl rfl rfl fun b2 => ?_)
  refine ef (storeA tbv67ok rfl rfl rfl rfl rfl rfl rfl rfl rfl rfl ?_)
  refine go tbv67ok 5 rfl rfl trivial ?_
  refine call l07_Awake rfl rfl fun w3 => ?_
  refine go tbv67ok 1 rfl rfl trivial ?_
  refine ungd rfl rfl ?_
  refine call l10_Awake rfl rfl fun w4 => ?_
  refine go tbv67ok 2 rfl rfl trivial ?_
  refine ungd rfl rfl ?_
  refine go tbv67ok 1 rfl rfl trivial ?_
  refine ungd rfl rfl ?_
  refine go tbv67ok 1 rfl rfl trivial ?_
  refine so_rt (t := 14) (p' := .bool true) (ple (congrArg PV.bool (show decide (((method_Method_Frame (⟨1, 1, [], [], [], [], [], 0, 0, false⟩ : Method)).2) = 0) = true by decide +kernel))) rfl ?_
  refine go tbv67ok 2 rfl rfl trivial ?_
  refine ungd rfl rfl ?_
  refine go tbv67ok 1 rfl rfl trivial ?_
  refine ungd rfl rfl ?_
  refine go tbv67ok 1 rfl rfl trivial ?_
  refine ungd rfl rfl ?_
  refine go tbv67ok 1 rfl rfl trivial ?_
  refine so_rt (t := 19) (p' := .bool true) (ple (congrArg PV.bool (show decide ((((method_Method_Frame (⟨1, 1, [], [], [], [], [], 0, 0, false⟩ : Method)).1).kind) = 1) = true by decide +kernel))) rfl ?_
  refine go tbv67ok 2 rfl rfl trivial ?_
  refine ungd rfl rfl ?_
  refine go tbv67ok 1 rfl rfl trivial ?_
  refine ungd rfl rfl ?_
  refine go tbv67ok 1 rfl rfl trivial ?_
  refine ungd rfl rfl ?_
  refine go tbv67ok 1 rfl rfl trivial ?_
  refine so_rt (t := 24) (p' := .bool true) (ple (congrArg PV.bool (show decide ((((method_Method_Frame (⟨1, 1, [], [], [], [], [], 0, 0, false⟩ : Method)).1).channel) = 1) = true by decide +kernel))) rfl ?_
  refine go tbv67ok 2 rfl rfl trivial ?_
  refine ungd rfl rfl ?_
  refine go tbv67ok 1 rfl rfl trivial ?_
  refine ungd rfl rfl ?_
  refine go tbv67ok 1 rfl rfl trivial ?_
  refine ungd rfl rfl ?_
  refine go tbv67ok 1 rfl rfl trivial ?_
  refine so_rt (t := 29) (p' := .bool true) (ple (congrArg PV.bool (show decide ((((method_Method_Frame (⟨1, 1, [], [], [], [], [], 0, 0, false⟩ : Method)).1).body) = []) = true by decide +kernel))) rfl ?_
  refine go tbv67ok 5 rfl rfl trivial ?_
  refine rt1 rfl rfl ?_
  refine ple ?_
  exact congrArg PV.bool (by first | rfl | decide +kernel)
theorem l11_MethodFrames_ok (m : Method) : Fn Tryz.prog gb 5 [.agg (Method.pc m)] (.bool (l11_MethodFrames m)) := by
  refine fn_cw tbv67ok Tryz.func5 rfl Tryz.ntmps5 rfl cb5 rfl rfl fun w N H hG => ?_
  have m_head_l : m.head.length ≤ 140737488355328 := w.1.2.2.2.2.2.1.1
  have e0 := l11_MethodFrames.eq_1 m
  refine go tbv67ok 2 rfl rfl trivial ?_
  refine ef (boxA 0 rfl rfl rfl fun b1 => ?_)
  refine go tbv67ok 6 rfl rfl trivial ?_
  refine call l11_awake rfl rfl fun w2 => ?_
  refine go tbv67ok 3 rfl rfl trivial ?_
  refine cndF rfl rfl ?_
  refine go tbv67ok 6 rfl rfl trivial ?_
  refine call (l11_Light_ok _) rfl rfl fun w3 => ?_
  refine go tbv67ok 3 rfl rfl trivial ?_
  refine cnd rfl (fun h4 => ?_) (fun h4 => ?_)
  · have h5 := not_t h4
    have e6 := e0.trans (condT h4)
    refine go tbv67ok 7 rfl rfl trivial ?_
    exact rt1 rfl rfl (ple_of (fun r : Bool => .bool r) e6 (ple rfl))
  · have h7 := not_f h4
    have hb7 := l11_sm h7
    (try obtain ⟨hb7a, hb7b⟩ := hb7)
    have e9 := e0.trans (condF h4)
    refine go tbv67ok 5 rfl rfl trivial ?_
    refine callv (l11_To m) (fun r : Method => .agg (Method.pc r)) (l11_To_ok _ (by first | omega | (simp; omega) | decide +kernel)) rfl rfl fun r hr10 w11 => ?_
    have e12 := e9.trans (lt_eq hr10)
    refine callv (r11_Check r) (fun r : Int => .int .i64 r) (r11_Check_ok _) rfl rfl fun r1 hr13 w14 => ?_
    have e15 := e12.trans (lt_eq hr13)
    refine go tbv67ok 6 rfl rfl trivial ?_
    refine callv (method_Method_Frame m) (fun r : Frame × Int => .tup [.agg (Frame.pc r.1), .int .i64 r.2]) (method_Method_Frame_ok _) rfl rfl fun r2 hr16 w17 => ?_
    have e18 := e15.trans (lt_eq hr16)
    have hA18 := frame_len m
    (try rw [← hr16] at hA18)
    refine go tbv67ok 3 rfl rfl trivial ?_
    refine ef (alloc tbv67ok 1 rfl rfl rfl rfl fun b20 => ?_)
    refine ef (storeA tbv67ok rfl rfl rfl rfl rfl rfl rfl rfl rfl rfl ?_)
    refine go tbv67ok 7 rfl rfl trivial ?_
    refine callv (method_Method_Check m) (fun r : Int => .int .i64 r) (method_Method_Check_ok _) rfl rfl fun r3 hr21 w22 => ?_
    have e23 := e18.trans (lt_eq hr21)
    have hA23 := check_kind m
    (try rw [← hr21] at hA23)
    refine go tbv67ok 9 rfl rfl ⟨(fun hc => hc), (fun hc => hc), rfl, rfl, trivial⟩ ?_
    refine cnd rfl (fun h25 => ?_) (fun h25 => ?_)
    · have e26 := e23.trans (condT h25)
      refine go tbv67ok 7 rfl rfl trivial ?_
      exact rt1 rfl rfl (ple_of (fun r : Bool => .bool r) e26 (ple rfl))
    · have h27 := orl h25
      have h28 := not_f h27
      have p29 := dt h28
      have h30 := orr h25
      have h31 := not_f h30
      have p32 := dt h31
      have e33 := e23.trans (condF h25)
      refine go tbv67ok 9 rfl rfl trivial ?_
      refine cnd rfl (fun h34 => ?_) (fun h34 => ?_)
      · have h35 := not_t h34
        have p36 := df h35
        have e37 := e33.trans (condT h34)
        refine go tbv67ok 4 rfl rfl trivial ?_
        refine call (frame_Same _ (⟨0, 0, []⟩ : Frame)) rfl rfl fun w38 => ?_
        refine go tbv67ok 5 rfl rfl trivial ?_
        exact rt1 rfl rfl (ple_of (fun r : Bool => .bool r) e37 (ple rfl))
      · have h39 := not_f h34
        have p40 := dt h39
        have e41 := e33.trans (condF h34)
        refine go tbv67ok 5 rfl rfl trivial ?_
        refine callv (method_Of r2.1) (fun r : Method × Int => .tup [.agg (Method.pc r.1), .int .i64 r.2]) (method_Of_ok _) rfl rfl fun r4 hr42 w43 => ?_
        have e44 := e41.trans (lt_eq hr42)
        have hA44 := of_len r2.1
        (try rw [← hr42] at hA44)
        refine go tbv67ok 3 rfl rfl trivial ?_
        refine ef (alloc tbv67ok 2 rfl rfl rfl rfl fun b46 => ?_)
        refine ef (storeA tbv67ok rfl rfl rfl rfl rfl rfl rfl rfl rfl rfl ?_)
        refine go tbv67ok 4 rfl rfl trivial ?_
        refine any [3, 4, 5, 6, 7, 8] 20 mixd rfl ?_
        refine gov tbv67ok [0, 1, 2, 3, 4, 5] 14 rfl (by kernel_rfl) rfl rfl trivial ?_
        refine ve 6 rfl (by kernel_rfl) rfl (ecall (l11_To_ok _ (by first | omega | (simp; omega) | decide +kernel)) rfl rfl ?_)
        generalize hr48 : l11_To m = r5
        intro w47
        have e49 := e44.trans (lt_eq hr48.symm)
        refine vcall 7 rfl (by kernel_rfl) (r11_Bytes_ok _ (by first | assumption | exact to_sm (by assumption) (by assumption) | exact to_sm (Eq.symm (by assumption)) (by assumption))) rfl rfl fun w50 => ?_
        refine gov tbv67ok [8] 11 rfl (by kernel_rfl) rfl rfl trivial ?_
        refine vq 9 (saeq rfl rfl eqg60 (veq60 r2.1 (⟨m.channel, m.kind, (r11_Bytes r5)⟩ : Frame))) rfl (by kernel_rfl) rfl fun w51 => ?_
        refine gov tbv67ok [10, 11, 12, 13, 14, 15, 16] 3 rfl (by kernel_rfl) rfl rfl ⟨(fun hc => hc), rfl, rfl, trivial⟩ ?_
        refine vcallg 17 rfl (by kernel_rfl) rfl (fun hc => (method_Same_ok _ _)) rfl rfl ⟨(fun hc => hc), (fun hc => hc), trivial⟩ rfl fun _ => ?_
        refine gov tbv67ok [18, 19] 0 rfl (by kernel_rfl) rfl rfl ⟨rfl, rfl, trivial⟩ ?_
        refine vdone (by kernel_rfl) ?_
        refine go tbv67ok 2 rfl rfl trivial ?_
        exact rt1 rfl rfl (ple_of (fun r : Bool => .bool r) e49 (ple rfl))
end Go.SW.V
namespace Go.SW
open Go.ChangeShapes Go.WideShapes Go.ChangeAt Go.RowKit
variable {P : Program}
theorem cells_of_strs {Ht : Type} {enc : TypeId × Value → Ht} {w : World} {base : Nat} {sp : Nat → Bool} {held : Bool} {fuel : Nat} {t e : TypeId} {n : Nat} {cs : List Value} {zs : List Bs} {p : List MemPlace}
    (ht : P.underlying t = some (.array n e)) (he : P.underlying e = some .string) (hce : P.cellsOf e = 1) (hct : P.cellsOf t = n)
    (h : DataW.trod enc P w base sp held fuel t cs = some (.agg (zs.map fun z => .lit (.string z)), p)) : cs = zs.map str := by
  cases fuel with
  | zero => simp [DataW.trod] at h
  | succ fuel =>
    simp only [DataW.trod, ht, hce, hct, Nat.mul_one] at h
    split at h
    · rename_i hl
      obtain ⟨xs, hm, hx⟩ := Option.map_eq_some_iff.1 h
      have hxs : xs.map (·.1) = zs.map fun z => (DataW.lit (.string z) : DataW Ht) := by
        have := congrArg Prod.fst hx
        simpa using this
      have hxl : xs.length = n := by simpa using Lib.mapM_length hm
      have hzl : zs.length = n := by
        have := congrArg List.length hxs
        simp at this
        omega
      apply List.ext_getElem?
      intro i
      by_cases hi : i < n
      · obtain ⟨b, hb, hf⟩ := Lib.mapM_at hm i i (by simp [hi])
        obtain ⟨z, hc, rfl, _⟩ := DataW.trod_string he hf
        have h1 : cs[i]? = some (.string z) := by
          have := congrArg (·[0]?) hc
          simpa [List.getElem?_take, List.getElem?_drop] using this
        have h2 : (xs.map (·.1))[i]? = some (DataW.lit (.string z.data.toList) : DataW Ht) := by simp [hb]
        rw [hxs] at h2
        simp only [List.getElem?_map, Option.map_eq_some_iff, DataW.lit.injEq, Lit.string.injEq] at h2
        obtain ⟨z', hz', rfl⟩ := h2
        rw [h1, List.getElem?_map, hz', str_of]
        rfl
      · rw [List.getElem?_eq_none (by omega), List.getElem?_eq_none (by simp; omega)]
    · cases h
theorem gstrs_of {w : World} {g n : Nat} {name : String} {zs : List Bs} {rest : List (String × DataW Unit)} {t e : TypeId} (hg : P.globalNamed name = some g) (hty : (P.globals[g]?).map (·.type) = some t) (ht : P.underlying t = some (.array n e)) (he : P.underlying e = some .string) (hce : P.cellsOf e = 1) (hct : P.cellsOf t = n)
    (h : laidMet P ((name, .agg (zs.map fun z => .lit (.string z))) :: rest) w) : GStrs (hp w) g zs := by
  obtain ⟨ps, ⟨g', t', cs, fuel, p, q, hg', ht', hvar, hd, _, _⟩, _⟩ := h
  obtain rfl := Option.some.inj (hg.symm.trans hg')
  obtain rfl := Option.some.inj (hty.symm.trans ht')
  have hc := cells_of_strs ht he hce hct hd
  obtain rfl : cs = (zs.map str).toArray := by rw [← hc]
  unfold World.var? at hvar
  rw [hg] at hvar
  simp only [Option.bind_some] at hvar
  split at hvar
  · rename_i cs T fr hh
    cases hvar
    exact ⟨T, fr, hh⟩
  · cases hvar
end Go.SW
namespace Go.SW.V
open Go.SW
/-- The kinds: what each tells, and what the document's table says. -/
theorem kinds {k : Int} (h0 : 0 ≤ k) (h : k ≤ 20) :
    (tellsOf k = [110] ∧ r11_Of k = ⟨false, false, false, false, false, false, false, true, false, false⟩) ∨
    (tellsOf k = [] ∧ r11_Of k = ⟨false, false, false, false, false, false, false, false, false, false⟩) ∨
    (tellsOf k = [65, 110, 120] ∧ r11_Of k = ⟨true, true, true, false, false, false, false, true, false, false⟩) ∨
    (tellsOf k = [65] ∧ r11_Of k = ⟨true, false, false, false, false, false, false, false, false, false⟩) ∨
    (tellsOf k = [65, 110, 109, 120] ∧ r11_Of k = ⟨true, true, true, false, false, false, false, true, true, false⟩) ∨
    (tellsOf k = [65, 79, 112, 104, 121] ∧ r11_Of k = ⟨true, true, false, true, true, true, false, false, false, true⟩) ∨
    (tellsOf k = [65, 107, 104, 109, 98] ∧ r11_Of k = ⟨true, false, false, true, false, true, true, false, true, false⟩) ∨
    (tellsOf k = [65, 110] ∧ r11_Of k = ⟨true, false, false, false, false, false, false, true, false, false⟩) ∨
    (tellsOf k = [110, 109, 121] ∧ r11_Of k = ⟨false, false, false, false, false, false, false, true, true, true⟩) := by
  have : k = 0 ∨ k = 1 ∨ k = 2 ∨ k = 3 ∨ k = 4 ∨ k = 5 ∨ k = 6 ∨ k = 7 ∨ k = 8 ∨ k = 9 ∨ k = 10 ∨ k = 11 ∨ k = 12 ∨ k = 13 ∨ k = 14 ∨ k = 15 ∨ k = 16 ∨ k = 17 ∨ k = 18 ∨ k = 19 ∨ k = 20 := by omega
  rcases this with rfl | rfl | rfl | rfl | rfl | rfl | rfl | rfl | rfl | rfl | rfl | rfl | rfl | rfl | rfl | rfl | rfl | rfl | rfl | rfl | rfl <;> decide
theorem bes_t : besidesOf true = patB := rfl
theorem bes_f : besidesOf false = [] := rfl
/-- The document's check is the method's. -/
theorem check_doc {m : Method} (h0 : 0 ≤ m.kind) : r11_Check m = methodE m := by
  unfold r11_Check methodE
  by_cases h : 20 < m.kind
  · simp [h]
  · simp only [lt, lt1, Bool.cond_eq_ite, decide_eq_true_eq, if_neg h]
    rcases kinds h0 (by omega) with ⟨e1, e2⟩ | ⟨e1, e2⟩ | ⟨e1, e2⟩ | ⟨e1, e2⟩ | ⟨e1, e2⟩ | ⟨e1, e2⟩ | ⟨e1, e2⟩ | ⟨e1, e2⟩ | ⟨e1, e2⟩
    all_goals
      simp only [e1, e2, spareMt, hasK, ckGo, oneE, bes_t, bes_f]
      simp [hasAny]
      split
      · rfl
      · rename_i q
        by_cases a1 : nameE m.name = 0
        · by_cases a2 : m.other = []
          · by_cases a4 : keyE patB m.key = 0 <;> by_cases a5 : keyE [] m.key = 0 <;> by_cases a6 : headE m.head = 0 <;> by_cases a7 : nameE m.other = 0 <;> simp_all
          · by_cases a3 : nameE m.other = 0 <;> by_cases a4 : keyE patB m.key = 0 <;> by_cases a5 : keyE [] m.key = 0 <;> by_cases a6 : headE m.head = 0 <;> simp_all
        · simp_all
/-! What is written -/
def wB (m : Method) (c : UInt8) : Bs :=
  if c = 65 then txtB m.name else if c = 120 then txtB m.other else if c = 79 then txtB m.other else if c = 107 then txtB m.key else if c = 112 then txtB m.key
  else if c = 104 then r9B m.head else if c = 98 then txtB m.body else if c = 110 then numB 8 m.n.toNat else if c = 109 then numB 8 m.m.toNat else if c = 121 then numB 1 (bitN m.yes).toNat else []
theorem bdec {α : Type} {p : Prop} [Decidable p] {a b : α} : (bif decide p then a else b) = if p then a else b := by by_cases h : p <;> simp [h]
theorem frame0 {m : Method} (hp : ∀ p ∈ m.head, 0 ≤ p.kind) : ∀ (l : List UInt8) (o : Out), (∀ c ∈ l, oneE m (c.toNat : Int) = 0) → method_Method_Frame_l0 m l o = (⟨m.channel, m.kind, o.s ++ l.flatMap (wB m)⟩, 0)
  | [], o, _ => by simp [method_Method_Frame_l0]
  | c :: l, o, h => by
    have hc := h c (List.mem_cons_self ..)
    obtain ⟨h1, h2, h3, h4⟩ := oneE_len hc
    have ih := fun o => frame0 hp l o (fun x hx => h x (List.mem_cons_of_mem _ hx))
    rw [method_Method_Frame_l0]
    rw [List.flatMap_cons]
    simp only [bdec]
    split
    · rename_i q; have hl := h1 q; obtain rfl := byteEq (n := 65) (by decide) q; rw [outText_s (by omega)]; simp [wB, ih]
    split
    · rename_i q; have hl := h2 (.inl q); obtain rfl := byteEq (n := 120) (by decide) q; rw [outText_s (by omega)]; simp [wB, ih]
    split
    · rename_i q; have hl := h2 (.inr q); obtain rfl := byteEq (n := 79) (by decide) q; rw [outText_s (by omega)]; simp [wB, ih]
    split
    · rename_i q; have hl := h3 (.inl q); obtain rfl := byteEq (n := 107) (by decide) q; rw [outText_s (by omega)]; simp [wB, ih]
    split
    · rename_i q; have hl := h3 (.inr q); obtain rfl := byteEq (n := 112) (by decide) q; rw [outText_s (by omega)]; simp [wB, ih]
    split
    · rename_i q; obtain rfl := byteEq (n := 104) (by decide) q; have he : headE m.head = 0 := by simpa [oneE] using hc
      rw [headBytes_r he hp]; simp [wB, ih, outRaw]
    split
    · rename_i q; have hl := h4 q; obtain rfl := byteEq (n := 98) (by decide) q; rw [outText_s (by omega)]; simp [wB, ih]
    split
    · rename_i q; obtain rfl := byteEq (n := 110) (by decide) q; rw [outNum8]; simp [wB, ih]
    split
    · rename_i q; obtain rfl := byteEq (n := 109) (by decide) q; rw [outNum8]; simp [wB, ih]
    split
    · rename_i q; obtain rfl := byteEq (n := 121) (by decide) q
      cases hy : m.yes <;> simp [wB, ih, outNum1, hy, bitN]
    · rename_i q1 q2 q3 q4 q5 q6 q7 q8 q9 q10
      have w : wB m c = [] := by
        have n1 : ¬ c = 65 := byteNe (n := 65) (by decide) q1
        have n2 : ¬ c = 120 := byteNe (n := 120) (by decide) q2
        have n3 : ¬ c = 79 := byteNe (n := 79) (by decide) q3
        have n4 : ¬ c = 107 := byteNe (n := 107) (by decide) q4
        have n5 : ¬ c = 112 := byteNe (n := 112) (by decide) q5
        have n6 : ¬ c = 104 := byteNe (n := 104) (by decide) q6
        have n7 : ¬ c = 98 := byteNe (n := 98) (by decide) q7
        have n8 : ¬ c = 110 := byteNe (n := 110) (by decide) q8
        have n9 : ¬ c = 109 := byteNe (n := 109) (by decide) q9
        have n10 : ¬ c = 121 := byteNe (n := 121) (by decide) q10
        simp only [wB, n1, n2, n3, n4, n5, n6, n7, n8, n9, n10, if_false]
      simp [w, ih]
theorem ck_all {m : Method} (h : methodE m = 0) : ∀ c ∈ tellsOf m.kind, oneE m (c.toNat : Int) = 0 := fun c hc => by
  obtain ⟨p, hp, rfl⟩ := List.getElem_of_mem hc
  have := methodE_at h hp
  rwa [List.getD_eq_getElem?_getD, List.getElem?_eq_getElem hp] at this
/-- What is written, and why not. -/
theorem frame_eq {m : Method} (hp : ∀ p ∈ m.head, 0 ≤ p.kind) : method_Method_Frame m = if methodE m = 0 then (⟨m.channel, m.kind, (tellsOf m.kind).flatMap (wB m)⟩, 0) else (⟨0, 0, []⟩, methodE m) := by
  simp only [method_Method_Frame, lt, check_eq, Bool.cond_eq_ite]
  by_cases h : methodE m = 0
  · rw [if_pos h, if_neg (by simp [h])]
    exact frame0 hp _ _ (ck_all h)
  · rw [if_neg h, if_pos (by simp [h])]
/-- What the document writes of a method that may be. -/
theorem bytes_eq {m : Method} (h0 : 0 ≤ m.kind) (h : methodE m = 0) : r11_Bytes m = (tellsOf m.kind).flatMap (wB m) := by
  have hk := methodE_kind h
  have k8 : numK 8 = 8 := rfl
  have b1 : numB 1 1 = [1] := by decide
  have b0 : numB 1 0 = [0] := by decide
  simp only [r11_Bytes, lt, lt1]
  rcases kinds h0 hk with ⟨e1, e2⟩ | ⟨e1, e2⟩ | ⟨e1, e2⟩ | ⟨e1, e2⟩ | ⟨e1, e2⟩ | ⟨e1, e2⟩ | ⟨e1, e2⟩ | ⟨e1, e2⟩ | ⟨e1, e2⟩
  all_goals
    simp only [e1, e2, List.flatMap_cons, List.flatMap_nil]
    cases hy : m.yes <;> simp [wB, k8, bitN, hy, b0, b1]
end Go.SW.V
namespace Go.SW.V
open Go.SW
section steps
variable (l : List UInt8) (x : Method) (i : In)
theorem o65 : method_Of_l0 (65 :: l) x i = method_Of_l0 l ⟨x.channel, x.kind, (inText i 16).1, x.other, x.key, x.head, x.body, x.n, x.m, x.yes⟩ (inText i 16).2 := by rw [method_Of_l0]; rfl
theorem o120 : method_Of_l0 (120 :: l) x i = method_Of_l0 l ⟨x.channel, x.kind, x.name, (inText i 16).1, x.key, x.head, x.body, x.n, x.m, x.yes⟩ (inText i 16).2 := by rw [method_Of_l0]; rfl
theorem o79 : method_Of_l0 (79 :: l) x i = method_Of_l0 l ⟨x.channel, x.kind, x.name, (inText i 16).1, x.key, x.head, x.body, x.n, x.m, x.yes⟩ (inText i 16).2 := by rw [method_Of_l0]; rfl
theorem o107 : method_Of_l0 (107 :: l) x i = method_Of_l0 l ⟨x.channel, x.kind, x.name, x.other, (inText i 64).1, x.head, x.body, x.n, x.m, x.yes⟩ (inText i 64).2 := by rw [method_Of_l0]; rfl
theorem o112 : method_Of_l0 (112 :: l) x i = method_Of_l0 l ⟨x.channel, x.kind, x.name, x.other, (inText i 64).1, x.head, x.body, x.n, x.m, x.yes⟩ (inText i 64).2 := by rw [method_Of_l0]; rfl
theorem o104 : method_Of_l0 (104 :: l) x i = method_Of_l0 l ⟨x.channel, x.kind, x.name, x.other, x.key, (headRead i).1, x.body, x.n, x.m, x.yes⟩ (headRead i).2 := by rw [method_Of_l0]; rfl
theorem o98 : method_Of_l0 (98 :: l) x i = method_Of_l0 l ⟨x.channel, x.kind, x.name, x.other, x.key, x.head, (inText i 256).1, x.n, x.m, x.yes⟩ (inText i 256).2 := by rw [method_Of_l0]; rfl
theorem o110 : method_Of_l0 (110 :: l) x i = method_Of_l0 l ⟨x.channel, x.kind, x.name, x.other, x.key, x.head, x.body, (inNum i 8).1, x.m, x.yes⟩ (inNum i 8).2 := by rw [method_Of_l0]; rfl
theorem o109 : method_Of_l0 (109 :: l) x i = method_Of_l0 l ⟨x.channel, x.kind, x.name, x.other, x.key, x.head, x.body, x.n, (inNum i 8).1, x.yes⟩ (inNum i 8).2 := by rw [method_Of_l0]; rfl
def inBit (i : In) : In := if 1 < (inNum i 1).1 then inFail (inNum i 1).2 4 else (inNum i 1).2
theorem o121 : method_Of_l0 (121 :: l) x i = method_Of_l0 l ⟨x.channel, x.kind, x.name, x.other, x.key, x.head, x.body, x.n, x.m, decide ((inNum i 1).1 = 1)⟩ (inBit i) := by
  have e : method_Of_l0 (121 :: l) x i = (bif decide (1 < (inNum i 1).1) then method_Of_l0 l ⟨x.channel, x.kind, x.name, x.other, x.key, x.head, x.body, x.n, x.m, decide ((inNum i 1).1 = 1)⟩ (inFail (inNum i 1).2 4) else method_Of_l0 l ⟨x.channel, x.kind, x.name, x.other, x.key, x.head, x.body, x.n, x.m, decide ((inNum i 1).1 = 1)⟩ (inNum i 1).2) := by rw [method_Of_l0]; rfl
  rw [e, bdec]
  unfold inBit
  split <;> rfl
end steps
theorem o_end {x m : Method} (hx : x = m) (h : methodE m = 0) : method_Of_l0 [] x ⟨[], 0⟩ = (m, 0) := by
  subst hx
  simp [method_Of_l0, lt, check_eq, h, inEnd]
theorem f65 {m : Method} {l : List UInt8} {x : Method} {r : Bs} (h : oneE m ((65 : UInt8).toNat : Int) = 0) : method_Of_l0 (65 :: l) x ⟨wB m 65 ++ r, 0⟩ = method_Of_l0 l ⟨x.channel, x.kind, m.name, x.other, x.key, x.head, x.body, x.n, x.m, x.yes⟩ ⟨r, 0⟩ := by
  have hl := nameE_ok (s := m.name) (by simpa [oneE] using h)
  have e : inText ⟨wB m 65 ++ r, 0⟩ 16 = (m.name, ⟨r, 0⟩) := txt_fwd (by omega) (by omega)
  rw [o65, e]
theorem f120 {m : Method} {l : List UInt8} {x : Method} {r : Bs} (h : oneE m ((120 : UInt8).toNat : Int) = 0) : method_Of_l0 (120 :: l) x ⟨wB m 120 ++ r, 0⟩ = method_Of_l0 l ⟨x.channel, x.kind, x.name, m.other, x.key, x.head, x.body, x.n, x.m, x.yes⟩ ⟨r, 0⟩ := by
  have hl : m.other.length ≤ 16 := by
    simp [oneE] at h
    by_cases e : m.other = []
    · simp [e]
    · exact nameE_ok (h e)
  have e : inText ⟨wB m 120 ++ r, 0⟩ 16 = (m.other, ⟨r, 0⟩) := txt_fwd (by omega) (by omega)
  rw [o120, e]
theorem f79 {m : Method} {l : List UInt8} {x : Method} {r : Bs} (h : oneE m ((79 : UInt8).toNat : Int) = 0) : method_Of_l0 (79 :: l) x ⟨wB m 79 ++ r, 0⟩ = method_Of_l0 l ⟨x.channel, x.kind, x.name, m.other, x.key, x.head, x.body, x.n, x.m, x.yes⟩ ⟨r, 0⟩ := by
  have hl := nameE_ok (s := m.other) (by simpa [oneE] using h)
  have e : inText ⟨wB m 79 ++ r, 0⟩ 16 = (m.other, ⟨r, 0⟩) := txt_fwd (by omega) (by omega)
  rw [o79, e]
theorem f107 {m : Method} {l : List UInt8} {x : Method} {r : Bs} (h : oneE m ((107 : UInt8).toNat : Int) = 0) : method_Of_l0 (107 :: l) x ⟨wB m 107 ++ r, 0⟩ = method_Of_l0 l ⟨x.channel, x.kind, x.name, x.other, m.key, x.head, x.body, x.n, x.m, x.yes⟩ ⟨r, 0⟩ := by
  have hl := keyE_ok (b := []) (s := m.key) (by simpa [oneE] using h)
  have e : inText ⟨wB m 107 ++ r, 0⟩ 64 = (m.key, ⟨r, 0⟩) := txt_fwd (by omega) (by omega)
  rw [o107, e]
theorem f112 {m : Method} {l : List UInt8} {x : Method} {r : Bs} (h : oneE m ((112 : UInt8).toNat : Int) = 0) : method_Of_l0 (112 :: l) x ⟨wB m 112 ++ r, 0⟩ = method_Of_l0 l ⟨x.channel, x.kind, x.name, x.other, m.key, x.head, x.body, x.n, x.m, x.yes⟩ ⟨r, 0⟩ := by
  have hl := keyE_ok (b := patB) (s := m.key) (by simpa [oneE] using h)
  have e : inText ⟨wB m 112 ++ r, 0⟩ 64 = (m.key, ⟨r, 0⟩) := txt_fwd (by omega) (by omega)
  rw [o112, e]
theorem f98 {m : Method} {l : List UInt8} {x : Method} {r : Bs} (h : oneE m ((98 : UInt8).toNat : Int) = 0) : method_Of_l0 (98 :: l) x ⟨wB m 98 ++ r, 0⟩ = method_Of_l0 l ⟨x.channel, x.kind, x.name, x.other, x.key, x.head, m.body, x.n, x.m, x.yes⟩ ⟨r, 0⟩ := by
  have hl : (m.body.length : Int) ≤ 256 := by simp [oneE] at h; omega
  have e : inText ⟨wB m 98 ++ r, 0⟩ 256 = (m.body, ⟨r, 0⟩) := txt_fwd (by omega) (by omega)
  rw [o98, e]
theorem f104 {m : Method} {l : List UInt8} {x : Method} {r : Bs} (hw : ∀ p ∈ m.head, p.wf) (h : oneE m ((104 : UInt8).toNat : Int) = 0) : method_Of_l0 (104 :: l) x ⟨wB m 104 ++ r, 0⟩ = method_Of_l0 l ⟨x.channel, x.kind, x.name, x.other, x.key, m.head, x.body, x.n, x.m, x.yes⟩ ⟨r, 0⟩ := by
  have he : headE m.head = 0 := by simpa [oneE] using h
  have e : headRead ⟨wB m 104 ++ r, 0⟩ = (m.head, ⟨r, 0⟩) := head_fwd he hw
  rw [o104, e]
theorem f110 {m : Method} {l : List UInt8} {x : Method} {r : Bs} (hn : 0 ≤ m.n ∧ m.n ≤ 18446744073709551615) (h : oneE m ((110 : UInt8).toNat : Int) = 0) : method_Of_l0 (110 :: l) x ⟨wB m 110 ++ r, 0⟩ = method_Of_l0 l ⟨x.channel, x.kind, x.name, x.other, x.key, x.head, x.body, m.n, x.m, x.yes⟩ ⟨r, 0⟩ := by
  have e : inNum ⟨wB m 110 ++ r, 0⟩ 8 = (m.n, ⟨r, 0⟩) := inNum_fwd8 hn.1 (by omega)
  rw [o110, e]
theorem f109 {m : Method} {l : List UInt8} {x : Method} {r : Bs} (hn : 0 ≤ m.m ∧ m.m ≤ 18446744073709551615) (h : oneE m ((109 : UInt8).toNat : Int) = 0) : method_Of_l0 (109 :: l) x ⟨wB m 109 ++ r, 0⟩ = method_Of_l0 l ⟨x.channel, x.kind, x.name, x.other, x.key, x.head, x.body, x.n, m.m, x.yes⟩ ⟨r, 0⟩ := by
  have e : inNum ⟨wB m 109 ++ r, 0⟩ 8 = (m.m, ⟨r, 0⟩) := inNum_fwd8 hn.1 (by omega)
  rw [o109, e]
theorem f121 {m : Method} {l : List UInt8} {x : Method} {r : Bs} (h : oneE m ((121 : UInt8).toNat : Int) = 0) : method_Of_l0 (121 :: l) x ⟨wB m 121 ++ r, 0⟩ = method_Of_l0 l ⟨x.channel, x.kind, x.name, x.other, x.key, x.head, x.body, x.n, x.m, m.yes⟩ ⟨r, 0⟩ := by
  have e : inNum ⟨wB m 121 ++ r, 0⟩ 1 = (bitN m.yes, ⟨r, 0⟩) := bit_fwd
  have e2 : inBit ⟨wB m 121 ++ r, 0⟩ = ⟨r, 0⟩ := by
    unfold inBit
    rw [e, if_neg (by have := (bitN_r m.yes).2; simp only []; omega)]
  rw [o121, e, e2]
  simp only [bit_back]
theorem methodE_spare {m : Method} (h : methodE m = 0) : spareMt m = false := by
  unfold methodE at h
  split at h
  · cases h
  · split at h
    · cases h
    · simpa using ‹¬ spareMt m = true›
theorem of_fwd {m : Method} (h0 : 0 ≤ m.kind) (hn : 0 ≤ m.n ∧ m.n ≤ 18446744073709551615) (hm : 0 ≤ m.m ∧ m.m ≤ 18446744073709551615) (hw : ∀ p ∈ m.head, p.wf) (h : methodE m = 0) :
    method_Of ⟨m.channel, m.kind, (tellsOf m.kind).flatMap (wB m)⟩ = (m, 0) := by
  have hk := methodE_kind h
  have ck := ck_all h
  have hs := methodE_spare h
  simp only [method_Of, bdec]
  rw [if_neg (by omega)]
  show method_Of_l0 (tellsOf m.kind) ⟨m.channel, m.kind, [], [], [], [], [], 0, 0, false⟩ ⟨(tellsOf m.kind).flatMap (wB m), 0⟩ = (m, 0)
  rcases kinds h0 hk with ⟨e1, -⟩ | ⟨e1, -⟩ | ⟨e1, -⟩ | ⟨e1, -⟩ | ⟨e1, -⟩ | ⟨e1, -⟩ | ⟨e1, -⟩ | ⟨e1, -⟩ | ⟨e1, -⟩
  all_goals
    rw [e1] at ck ⊢
    simp [spareMt, hasK, e1, hasAny] at hs
    simp only [List.flatMap_cons, List.flatMap_nil]
  · rw [f110 hn (ck 110 (by decide))]; exact o_end (by rw [Method.eq_iff]; simp_all) h
  · exact o_end (by rw [Method.eq_iff]; simp_all) h
  · rw [f65 (ck 65 (by decide)), f110 hn (ck 110 (by decide)), f120 (ck 120 (by decide))]; exact o_end (by rw [Method.eq_iff]; simp_all) h
  · rw [f65 (ck 65 (by decide))]; exact o_end (by rw [Method.eq_iff]; simp_all) h
  · rw [f65 (ck 65 (by decide)), f110 hn (ck 110 (by decide)), f109 hm (ck 109 (by decide)), f120 (ck 120 (by decide))]; exact o_end (by rw [Method.eq_iff]; simp_all) h
  · rw [f65 (ck 65 (by decide)), f79 (ck 79 (by decide)), f112 (ck 112 (by decide)), f104 hw (ck 104 (by decide)), f121 (ck 121 (by decide))]; exact o_end (by rw [Method.eq_iff]; simp_all) h
  · rw [f65 (ck 65 (by decide)), f107 (ck 107 (by decide)), f104 hw (ck 104 (by decide)), f109 hm (ck 109 (by decide)), f98 (ck 98 (by decide))]; exact o_end (by rw [Method.eq_iff]; simp_all) h
  · rw [f65 (ck 65 (by decide)), f110 hn (ck 110 (by decide))]; exact o_end (by rw [Method.eq_iff]; simp_all) h
  · rw [f110 hn (ck 110 (by decide)), f109 hm (ck 109 (by decide)), f121 (ck 121 (by decide))]; exact o_end (by rw [Method.eq_iff]; simp_all) h
/-- The law of frames. -/
theorem l11_frames (m : Method) (hc : 0 ≤ m.kind) (hn : 0 ≤ m.n ∧ m.n ≤ 18446744073709551615) (hm : 0 ≤ m.m ∧ m.m ≤ 18446744073709551615) (hw : ∀ p ∈ m.head, p.wf) : l11_MethodFrames m = true := by
  have hf := frame_eq (m := m) (fun p hp => (hw p hp).1.1)
  simp only [l11_MethodFrames, lt, to_eq, check_doc hc, check_eq, hf, Bool.cond_eq_ite]
  split
  · rfl
  · by_cases h : methodE m = 0
    · simp only [h, if_true, of_fwd hc hn hm hw h, bytes_eq hc h]
      simp [method_Same]
    · simp [h]
end Go.SW.V
