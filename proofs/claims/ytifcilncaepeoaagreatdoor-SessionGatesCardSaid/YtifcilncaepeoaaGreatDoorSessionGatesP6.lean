/-
  A part of the proof of SessionGates: The walks of this seat, printed by program: route.put, route.Book.Make, route.Book.there. The walks of this seat, printed by program: route.Book.Bind, route.Book.Leads. The walks of this seat, printed by program: draft.Draft.Add, draft.Draft.At, stairwellref26.Add, stairwellref26.At, stairwelllaw22.All, stairwelllaw23.Light, stairwellref22.SameAll, chans.Chan.Take, chans.Chan.Leave, chans.Chan.Takers, chans.Chan.Lend, chans.Chan.Unsettled, chans.Chan.Settles, chans.Chan.Gone, stairwellref27.Take, stairwellref27.Leave, stairwellref27.Lend, stairwellref27.Open. The walks of this seat, printed by program: chans.Chan.Hold, chans.Chan.Held, stairwellref27.Settles, stairwellref27.Gone, stairwellref27.Hold, stairwellref27.Held. The walks of this seat, printed by program: stairwelllaw14.awake, stairwelllaw14.Awake, stairwelllaw22.awake, stairwelllaw22.Awake, stairwelllaw26.awake, stairwelllaw26.Awake, stairwelllaw27.awake, stairwelllaw27.Awake. The walks of this seat, printed by program: stairwelllaw27.Light, stairwelllaw27.settled, stairwelllaw27.done. The walks of this seat, printed by program: strings.ContainsAny, method.Method.tells, method.Method.spare, method.Same, stairwellref11.Same, stairwellref11.Of. The walks of this seat, printed by program: method.Method.one, method.Method.Check, stairwelllaw11.To, stairwelllaw11.Light, stairwellref11.Check, stairwellref01.In.Fail. The walks of this seat, printed by program: method.Method.Frame, stairwellref01.In.Raw. The walks of this seat, printed by program: stairwellref01.In.Num, stairwellref01.In.End, method.Of. The walks of this seat, printed by program: stairwellref01.In.Text. The walks of this seat, printed by program: stairwellref09.Read. The walks of this seat, printed by program: stairwellref11.Parse. The walks of this seat, printed by program: stairwelllaw11.awake. The walks of this seat, printed by program: strings.Builder.copyCheck. The walks of this seat, printed by program: stairwelllaw12.All. The walks of this seat, printed by program: stairwelllaw08.awake, stairwelllaw08.Awake, stairwelllaw12.awake, stairwelllaw12.Awake. The walks of this seat, printed by program: session.New, session.answer, session.put, session.back, session.at, session.own, session.Session.Begun, session.Session.Over, session.Session.may, session.Session.with, session.slot.toldPut. The walks of this seat, printed by program: session.admin, session.settles, session.Session.Sent.
-/
import Derived.Test.YtifcilncaepeoaaGreatDoorProg
import Derived.Test.YtifcilncaepeoaaGreatDoorSessionGatesP3
import Derived.KernelRfl
import Derived.Test.YtifcilncaepeoaaGreatDoorSessionGatesP5
import Derived.Test.YtifcilncaepeoaaGreatDoorSessionGatesP4
import Derived.Test.YtifcilncaepeoaaGreatDoorSessionGatesP1
set_option linter.unusedVariables false
set_option linter.unusedSimpArgs false
set_option linter.unusedVariables false
set_option maxRecDepth 100000
set_option maxHeartbeats 4000000
namespace Go.SW.V
open Go.SW Go.Proofs
theorem cb256 : Callable Tryz.prog 256 := callable_of Tryz.func256 (by kernel_rfl) (by kernel_rfl)
theorem cb270 : Callable Tryz.prog 270 := callable_of Tryz.func270 (by kernel_rfl) (by kernel_rfl)
theorem cb273 : Callable Tryz.prog 273 := callable_of Tryz.func273 (by kernel_rfl) (by kernel_rfl)
def tbv45 : Tb := [(9, ⟨.str, 1, 16, [.str []]⟩),
  (44, ⟨.agg [(0, 1), (1, 1), (2, 1)], 3, 40, [.str [], .int .u8 0, .str []]⟩),
  (49, ⟨.agg [(0, 1), (1, 1), (2, 1), (3, 1), (4, 1), (5, 1)], 6, 88, [.str [], .str [], .bool false, .str [], .sl Pair.pc [], .bool false]⟩),
  (200, ⟨.slc 9, 1, 24, [.sl strc []]⟩),
  (339, ⟨.slc 44, 1, 24, [.sl ShopR.pc []]⟩),
  (340, ⟨.slc 49, 1, 24, [.sl BindR.pc []]⟩),
  (342, ⟨.agg [(0, 1), (1, 1)], 2, 48, [.sl ShopR.pc [], .sl BindR.pc []]⟩),
  (371, ⟨.slc 339, 1, 24, [.sl (slc ShopR.pc) []]⟩)]
theorem tv45 : tbB Tryz.prog tbv45 = true := by kernel_rfl
theorem route_put_ok (l : List Bs) (s : Bs) (hl : l.length ≤ 100000) : Fl Tryz.prog gb 273 [.str s] (fun u => .val u) 1 9 strc l (route_put l s) := by
  refine fl_cw tv45 Tryz.func273 rfl Tryz.ntmps273 rfl cb273 (fun _ => rfl) rfl fun w l_l u0 N H hG => ?_
  have s_l : s.length ≤ 9223372036854775807 := w.1
  have e0 := route_put.eq_1 l s
  refine go tv45 10 rfl rfl trivial ?_
  refine ef (calll 0 rfl (contains_Str _ _) rfl rfl rfl fun w1 => ?_)
  refine go tv45 2 rfl rfl trivial ?_
  refine cnd rfl (fun h2 => ?_) (fun h2 => ?_)
  · have p3 := dt h2
    have e4 := e0.trans (condT h2)
    refine go tv45 6 rfl rfl trivial ?_
    refine sw_val (t := 4) (i := 0) rfl rfl ?_
    refine go tv45 2 rfl rfl trivial ?_
    refine ro1 (j := 0) rfl rfl rfl ?_
    exact (congrArg (fun r : (List Bs) => r) e4).symm
  have p5 := df h2
  have e6 := e0.trans (condF h2)
  refine go tv45 6 rfl rfl trivial ?_
  refine ef (bsl 1 strc [s] tv45 rfl rfl rfl rfl rfl (fun _ => rfl) rfl (by decide) (by decide) rfl fun u7 => ?_)
  refine ef (app tv45 [s] rfl rfl rfl rfl rfl rfl rfl rfl rfl (src_o rfl rfl) (by first | omega | (simp; omega)) rfl fun u8 => ?_)
  refine go tv45 3 rfl rfl trivial ?_
  refine sw_val (t := 4) (i := 0) rfl rfl ?_
  refine go tv45 1 rfl rfl trivial ?_
  refine ro1 (j := 0) rfl rfl rfl ?_
  exact (congrArg (fun r : (List Bs) => r) e6).symm
theorem route_Book_Make_ok (b : BookR) (x : ShopR) (hs : b.shops.length ≤ 1000) : Fn Tryz.prog gb 256 [.agg (BookR.pc b), .agg (ShopR.pc x)] (.tup [.agg (BookR.pc ((route_Book_Make b x).1)), .int .i64 ((route_Book_Make b x).2)]) := by
  refine fn_cw tv45 Tryz.func256 rfl Tryz.ntmps256 rfl cb256 rfl rfl fun w N H hG => ?_
  have b_shops_l : b.shops.length ≤ 140737488355328 := w.1.1.1
  have b_binds_l : b.binds.length ≤ 140737488355328 := w.1.2.1.1
  have e0 := route_Book_Make.eq_1 b x
  refine go tv45 2 rfl rfl trivial ?_
  refine ef (boxA 0 rfl rfl rfl fun b1 => ?_)
  refine ef (boxA 1 rfl rfl rfl fun b2 => ?_)
  refine ef (alloc tv45 2 rfl rfl rfl rfl fun b3 => ?_)
  refine go tv45 7 rfl rfl trivial ?_
  refine call (shop_check _) rfl rfl fun w4 => ?_
  have := shopE_r x
  refine go tv45 9 rfl rfl trivial ?_
  refine cnd rfl (fun h5 => ?_) (fun h5 => ?_)
  · have h6 := not_t h5
    have p7 := df h6
    have e8 := e0.trans (condT h5)
    refine go tv45 4 rfl rfl trivial ?_
    refine ef (storeA tv45 rfl rfl rfl rfl rfl rfl rfl rfl rfl rfl ?_)
    refine go tv45 5 rfl rfl trivial ?_
    exact rt2 rfl rfl (ple_of (fun r : BookR × Int => .tup [.agg (BookR.pc r.1), .int .i64 r.2]) e8 (ple rfl))
  have h9 := not_f h5
  have p10 := dt h9
  have e11 := e0.trans (condF h5)
  refine go tv45 7 rfl rfl trivial ?_
  refine call (book_Shop _ _) rfl rfl fun w12 => ?_
  refine go tv45 3 rfl rfl trivial ?_
  refine ef (alloc tv45 3 rfl rfl rfl rfl fun b13 => ?_)
  refine ef (storeA tv45 rfl rfl rfl rfl rfl rfl rfl rfl rfl rfl ?_)
  refine go tv45 11 rfl rfl trivial ?_
  refine q1g [25, 26] rfl (fun hc => saeq rfl rfl eqg44 (veq44 x ((shopOf b.shops x.name).getD ShopR.zero))) ⟨(fun hc => hc), (fun hc => hc), trivial⟩ rfl rfl rfl fun _ => ?_
  refine go tv45 4 rfl rfl ⟨rfl, rfl, trivial⟩ ?_
  refine cnd rfl (fun h14 => ?_) (fun h14 => ?_)
  · have h15 := bl h14
    have h16 := br h14
    have p17 := dt h16
    have e18 := e11.trans (condT h14)
    refine go tv45 3 rfl rfl trivial ?_
    refine ef (storeA tv45 rfl rfl rfl rfl rfl rfl rfl rfl rfl rfl ?_)
    refine go tv45 6 rfl rfl trivial ?_
    exact rt2 rfl rfl (ple_of (fun r : BookR × Int => .tup [.agg (BookR.pc r.1), .int .i64 r.2]) e18 (ple rfl))
  have e19 := e11.trans (condF h14)
  refine go tv45 6 rfl rfl trivial ?_
  refine cnd rfl (fun h20 => ?_) (fun h20 => ?_)
  · have e21 := e19.trans (condT h20)
    refine go tv45 3 rfl rfl trivial ?_
    refine ef (storeA tv45 rfl rfl rfl rfl rfl rfl rfl rfl rfl rfl ?_)
    refine go tv45 6 rfl rfl trivial ?_
    exact rt2 rfl rfl (ple_of (fun r : BookR × Int => .tup [.agg (BookR.pc r.1), .int .i64 r.2]) e21 (ple rfl))
  have e22 := e19.trans (condF h20)
  refine go tv45 9 rfl rfl trivial ?_
  refine cnd rfl (fun h23 => ?_) (fun h23 => ?_)
  · have p24 := dt h23
    have e25 := e22.trans (condT h23)
    refine go tv45 3 rfl rfl trivial ?_
    refine ef (storeA tv45 rfl rfl rfl rfl rfl rfl rfl rfl rfl rfl ?_)
    refine go tv45 6 rfl rfl trivial ?_
    exact rt2 rfl rfl (ple_of (fun r : BookR × Int => .tup [.agg (BookR.pc r.1), .int .i64 r.2]) e25 (ple rfl))
  have p26 := df h23
  have e27 := e22.trans (condF h23)
  refine go tv45 8 rfl rfl trivial ?_
  refine ef (bsl 4 ShopR.pc [x] tv45 rfl rfl rfl rfl rfl (fun _ => rfl) rfl (by decide) (by decide) rfl fun u28 => ?_)
  refine give 4 rfl ?_
  refine ef (bsl 4 (slc ShopR.pc) [b.shops, [x]] tv45 rfl rfl rfl rfl rfl (fun _ => rfl) rfl (by decide) (by decide) rfl fun u29 => ?_)
  refine give 4 rfl ?_
  refine call (concat_Shop _ (by first | omega | (simp; done) | (simp; omega) | (simp only [List.flatten_cons, List.flatten_nil, List.length_append, List.append_nil]; simp; omega))) rfl rfl fun w30 => ?_
  refine go tv45 1 rfl rfl trivial ?_
  refine ef (store1 tv45 rfl rfl rfl rfl rfl rfl rfl rfl rfl ?_)
  refine go tv45 5 rfl rfl trivial ?_
  refine ef (storeA tv45 rfl rfl rfl rfl rfl rfl rfl rfl rfl rfl ?_)
  refine go tv45 4 rfl rfl trivial ?_
  exact rt2 rfl rfl (ple_of (fun r : BookR × Int => .tup [.agg (BookR.pc r.1), .int .i64 r.2]) e27 (ple rfl))
theorem route_Book_there_ok (b : BookR) (x : BindR) : Fn Tryz.prog gb 270 [.agg (BookR.pc b), .agg (BindR.pc x)] (.int .i64 (route_Book_there b x)) := by
  refine fn_cw tv45 Tryz.func270 rfl Tryz.ntmps270 rfl cb270 rfl rfl fun w N H hG => ?_
  have b_shops_l : b.shops.length ≤ 140737488355328 := w.1.1.1
  have b_binds_l : b.binds.length ≤ 140737488355328 := w.1.2.1.1
  have x_want_l : x.want.length ≤ 140737488355328 := w.2.1.2.2.2.2.1.1
  have e0 := route_Book_there.eq_1 b x
  refine go tv45 2 rfl rfl trivial ?_
  refine ef (boxA 0 rfl rfl rfl fun b1 => ?_)
  refine ef (boxA 1 rfl rfl rfl fun b2 => ?_)
  refine go tv45 9 rfl rfl trivial ?_
  refine call (idxF_Bind _ _ _ _ (fun z_3 : BindR => decide (x = z_3)) (fun z_3 => bind_same x z_3)) rfl rfl fun w4 => ?_
  have hix4 := idxP_b (fun z_3 : BindR => decide (x = z_3)) b.binds
  refine go tv45 4 rfl rfl trivial ?_
  exact rt1 rfl rfl (ple_of (fun r : Int => .int .i64 r) e0 (ple rfl))
end Go.SW.V
set_option linter.unusedVariables false
set_option maxRecDepth 100000
set_option maxHeartbeats 4000000
namespace Go.SW.V
open Go.SW Go.Proofs
theorem cb257 : Callable Tryz.prog 257 := callable_of Tryz.func257 (by kernel_rfl) (by kernel_rfl)
theorem cb258 : Callable Tryz.prog 258 := callable_of Tryz.func258 (by kernel_rfl) (by kernel_rfl)
def tbv46 : Tb := [(4, ⟨.bool, 1, 1, [.bool false]⟩),
  (5, ⟨.int .u8, 1, 1, [.int .u8 0]⟩),
  (9, ⟨.str, 1, 16, [.str []]⟩),
  (44, ⟨.agg [(0, 1), (1, 1), (2, 1)], 3, 40, [.str [], .int .u8 0, .str []]⟩),
  (49, ⟨.agg [(0, 1), (1, 1), (2, 1), (3, 1), (4, 1), (5, 1)], 6, 88, [.str [], .str [], .bool false, .str [], .sl Pair.pc [], .bool false]⟩),
  (200, ⟨.slc 9, 1, 24, [.sl strc []]⟩),
  (340, ⟨.slc 49, 1, 24, [.sl BindR.pc []]⟩),
  (342, ⟨.agg [(0, 1), (1, 1)], 2, 48, [.sl ShopR.pc [], .sl BindR.pc []]⟩),
  (375, ⟨.slc 340, 1, 24, [.sl (slc BindR.pc) []]⟩)]
theorem tv46 : tbB Tryz.prog tbv46 = true := by kernel_rfl
theorem route_Book_Bind_ok (b : BookR) (x : BindR) (hb : b.binds.length ≤ 1000) (hw : x.want.length ≤ 1000) : Fn Tryz.prog gb 257 [.agg (BookR.pc b), .agg (BindR.pc x)] (.tup [.agg (BookR.pc ((route_Book_Bind b x).1)), .int .i64 ((route_Book_Bind b x).2)]) := by
  refine fn_cw tv46 Tryz.func257 rfl Tryz.ntmps257 rfl cb257 rfl rfl fun w N H hG => ?_
  have b_shops_l : b.shops.length ≤ 140737488355328 := w.1.1.1
  have b_binds_l : b.binds.length ≤ 140737488355328 := w.1.2.1.1
  have x_want_l : x.want.length ≤ 140737488355328 := w.2.1.2.2.2.2.1.1
  have e0 := route_Book_Bind.eq_1 b x
  refine go tv46 2 rfl rfl trivial ?_
  refine ef (boxA 0 rfl rfl rfl fun b1 => ?_)
  refine ef (boxA 1 rfl rfl rfl fun b2 => ?_)
  refine ef (alloc tv46 2 rfl rfl rfl rfl fun b3 => ?_)
  refine go tv46 8 rfl rfl trivial ?_
  refine call (book_Shop _ _) rfl rfl fun w4 => ?_
  refine go tv46 3 rfl rfl trivial ?_
  refine ef (alloc tv46 3 rfl rfl rfl rfl fun b5 => ?_)
  refine ef (storeA tv46 rfl rfl rfl rfl rfl rfl rfl rfl rfl rfl ?_)
  refine go tv46 12 rfl rfl trivial ?_
  refine cnd rfl (fun h6 => ?_) (fun h6 => ?_)
  · have h7 := not_t h6
    have e8 := e0.trans (condT h6)
    refine go tv46 3 rfl rfl trivial ?_
    refine ef (storeA tv46 rfl rfl rfl rfl rfl rfl rfl rfl rfl rfl ?_)
    refine go tv46 6 rfl rfl trivial ?_
    exact rt2 rfl rfl (ple_of (fun r : BookR × Int => .tup [.agg (BookR.pc r.1), .int .i64 r.2]) e8 (ple rfl))
  have h9 := not_f h6
  have e10 := e0.trans (condF h6)
  refine go tv46 8 rfl rfl trivial ?_
  refine cnd rfl (fun h11 => ?_) (fun h11 => ?_)
  · have p12 := dt h11
    have e13 := e10.trans (condT h11)
    refine go tv46 3 rfl rfl trivial ?_
    refine ef (storeA tv46 rfl rfl rfl rfl rfl rfl rfl rfl rfl rfl ?_)
    refine go tv46 6 rfl rfl trivial ?_
    exact rt2 rfl rfl (ple_of (fun r : BookR × Int => .tup [.agg (BookR.pc r.1), .int .i64 r.2]) e13 (ple rfl))
  have p14 := df h11
  have e15 := e10.trans (condF h11)
  refine go tv46 8 rfl rfl trivial ?_
  refine call (words_Name _) rfl rfl fun w16 => ?_
  refine go tv46 9 rfl rfl trivial ?_
  refine cnd rfl (fun h17 => ?_) (fun h17 => ?_)
  · have h18 := not_t h17
    have p19 := df h18
    have e20 := e15.trans (condT h17)
    refine go tv46 4 rfl rfl trivial ?_
    refine ef (storeA tv46 rfl rfl rfl rfl rfl rfl rfl rfl rfl rfl ?_)
    refine go tv46 5 rfl rfl trivial ?_
    exact rt2 rfl rfl (ple_of (fun r : BookR × Int => .tup [.agg (BookR.pc r.1), .int .i64 r.2]) e20 (ple rfl))
  have h21 := not_f h17
  have p22 := dt h21
  have e23 := e15.trans (condF h17)
  refine go tv46 8 rfl rfl trivial ?_
  refine call (bind_rule _ _) rfl rfl fun w24 => ?_
  refine call (rule_Check _) rfl rfl fun w25 => ?_
  refine go tv46 11 rfl rfl trivial ?_
  refine cnd rfl (fun h26 => ?_) (fun h26 => ?_)
  · have h27 := not_t h26
    have p28 := df h27
    have e29 := e23.trans (condT h26)
    refine go tv46 4 rfl rfl trivial ?_
    refine ef (storeA tv46 rfl rfl rfl rfl rfl rfl rfl rfl rfl rfl ?_)
    refine go tv46 6 rfl rfl trivial ?_
    exact rt2 rfl rfl (ple_of (fun r : BookR × Int => .tup [.agg (BookR.pc r.1), .int .i64 r.2]) e29 (ple rfl))
  have h30 := not_f h26
  have p31 := dt h30
  have e32 := e23.trans (condF h26)
  refine go tv46 4 rfl rfl trivial ?_
  refine callv (route_Book_there b x) (fun r : Int => .int .i64 r) (route_Book_there_ok _ _) rfl rfl fun r hr33 w34 => ?_
  have e35 := e32.trans (lt_eq hr33)
  have hA35 := there_r b x
  (try rw [← hr33] at hA35)
  refine go tv46 4 rfl rfl trivial ?_
  refine cnd rfl (fun h37 => ?_) (fun h37 => ?_)
  · have p38 := dt h37
    have e39 := e35.trans (condT h37)
    refine go tv46 3 rfl rfl trivial ?_
    refine ef (storeA tv46 rfl rfl rfl rfl rfl rfl rfl rfl rfl rfl ?_)
    refine go tv46 6 rfl rfl trivial ?_
    exact rt2 rfl rfl (ple_of (fun r : BookR × Int => .tup [.agg (BookR.pc r.1), .int .i64 r.2]) e39 (ple rfl))
  have p40 := df h37
  have e41 := e35.trans (condF h37)
  refine go tv46 9 rfl rfl trivial ?_
  refine cnd rfl (fun h42 => ?_) (fun h42 => ?_)
  · have p43 := dt h42
    have e44 := e41.trans (condT h42)
    refine go tv46 3 rfl rfl trivial ?_
    refine ef (storeA tv46 rfl rfl rfl rfl rfl rfl rfl rfl rfl rfl ?_)
    refine go tv46 6 rfl rfl trivial ?_
    exact rt2 rfl rfl (ple_of (fun r : BookR × Int => .tup [.agg (BookR.pc r.1), .int .i64 r.2]) e44 (ple rfl))
  have p45 := df h42
  have e46 := e41.trans (condF h42)
  refine go tv46 4 rfl rfl trivial ?_
  refine any [4, 5, 6, 7, 8, 9] 9 mixd rfl ?_
  refine gov tv46 [0, 1, 2] 6 rfl (by kernel_rfl) rfl rfl trivial ?_
  refine ve 3 rfl (by kernel_rfl) rfl (ecall (bind_clone _ (by first | omega | (simp; done) | decide)) rfl rfl fun w47 => ?_)
  refine ve 4 rfl (by kernel_rfl) rfl (bsl 4 BindR.pc [x] tv46 rfl rfl rfl rfl rfl (fun _ => rfl) rfl (by decide) (by decide) rfl fun u48 => ?_)
  refine ve 5 rfl (by kernel_rfl) rfl (egive 4 rfl (bsl 4 (slc BindR.pc) [b.binds, [x]] tv46 rfl rfl rfl rfl rfl (fun _ => rfl) rfl (by decide) (by decide) rfl fun u49 => ?_))
  refine ve 6 rfl (by kernel_rfl) rfl (egive 4 rfl (eweak (ecall (concat_Bind _ (by first | omega | (simp; done) | (simp; omega) | (simp only [List.flatten_cons, List.flatten_nil, List.length_append, List.append_nil]; simp; omega))) rfl rfl fun w50 => ?_)))
  refine gov tv46 [7] 1 rfl (by kernel_rfl) rfl rfl trivial ?_
  refine vt 8 rfl (by kernel_rfl) (by kernel_rfl) (store1 tv46 rfl rfl rfl rfl rfl rfl rfl rfl rfl ?_)
  refine vdone (by kernel_rfl) ?_
  refine go tv46 4 rfl rfl trivial ?_
  refine ef (storeA tv46 rfl rfl rfl rfl rfl rfl rfl rfl rfl rfl ?_)
  refine go tv46 4 rfl rfl trivial ?_
  exact rt2 rfl rfl (ple_of (fun r : BookR × Int => .tup [.agg (BookR.pc r.1), .int .i64 r.2]) e46 (ple rfl))
theorem route_Book_Leads_ok (b : BookR) (shop : Bs) (key : Bs) (h : List Pair) (hb : b.binds.length ≤ 1000) (hk : key.length < 4294967281) (hr : ∀ y ∈ b.binds, y.key.length < 4294967281) : Fn Tryz.prog gb 258 [.agg (BookR.pc b), .str shop, .str key, .sl Pair.pc h] (.tup [.sl strc ((route_Book_Leads b shop key h).1), .sl strc ((route_Book_Leads b shop key h).2.1), .int .i64 ((route_Book_Leads b shop key h).2.2)]) := by
  refine fn_cw tv46 Tryz.func258 rfl Tryz.ntmps258 rfl cb258 rfl rfl fun w N H hG => ?_
  have b_shops_l : b.shops.length ≤ 140737488355328 := w.1.1.1
  have b_binds_l : b.binds.length ≤ 140737488355328 := w.1.2.1.1
  have shop_l : shop.length ≤ 9223372036854775807 := w.2.1
  have key_l : key.length ≤ 9223372036854775807 := w.2.2.1
  have h_l : h.length ≤ 140737488355328 := w.2.2.2.1.1
  have e0 := route_Book_Leads.eq_1 b shop key h
  refine go tv46 2 rfl rfl trivial ?_
  refine ef (boxA 0 rfl rfl rfl fun b1 => ?_)
  refine go tv46 10 rfl rfl trivial ?_
  refine call (book_Shop _ _) rfl rfl fun w2 => ?_
  refine go tv46 3 rfl rfl trivial ?_
  refine ef (alloc tv46 1 rfl rfl rfl rfl fun b3 => ?_)
  refine ef (storeA tv46 rfl rfl rfl rfl rfl rfl rfl rfl rfl rfl ?_)
  refine go tv46 12 rfl rfl trivial ?_
  refine cnd rfl (fun h4 => ?_) (fun h4 => ?_)
  · have h5 := not_t h4
    have e6 := e0.trans (condT h4)
    refine go tv46 11 rfl rfl trivial ?_
    exact rt3 rfl rfl (ple_of (fun r : (List Bs) × (List Bs) × Int => .tup [.sl strc r.1, .sl strc r.2.1, .int .i64 r.2.2]) e6 (ple_tup (ples_cons ple_nil (ples_cons ple_nil (ples_cons (ple rfl) ples_nil)))))
  have h7 := not_f h4
  have e8 := e0.trans (condF h4)
  refine go tv46 8 rfl rfl trivial ?_
  refine cnd rfl (fun h9 => ?_) (fun h9 => ?_)
  · have p10 := dt h9
    have e11 := e8.trans (condT h9)
    refine go tv46 1 rfl rfl trivial ?_
    refine any [2, 3, 4, 5, 6, 7] 6 mixd rfl ?_
    refine gov tv46 [0, 1, 3] 3 rfl (by kernel_rfl) rfl rfl trivial ?_
    refine ve 2 rfl (by kernel_rfl) rfl (bsl 2 strc [((shopOf b.shops shop).getD ShopR.zero).to] tv46 rfl rfl rfl rfl rfl (fun _ => rfl) rfl (by decide) (by decide) rfl fun u12 => ?_)
    refine gov tv46 [4, 5] 0 rfl (by kernel_rfl) rfl rfl trivial ?_
    refine vdone (by kernel_rfl) ?_
    refine go tv46 1 rfl rfl trivial ?_
    refine givec 2 rfl ?_
    refine go tv46 4 rfl rfl trivial ?_
    exact rt3 rfl rfl (ple_of (fun r : (List Bs) × (List Bs) × Int => .tup [.sl strc r.1, .sl strc r.2.1, .int .i64 r.2.2]) e11 (ple_tup (ples_cons ple_nil (ples_cons (ple rfl) (ples_cons (ple rfl) ples_nil)))))
  have p13 := df h9
  have e14 := e8.trans (condF h9)
  refine go tv46 22 rfl rfl trivial ?_
  refine sw_own (t := 13) (k := 1) (e := 9) 2 strc rfl rfl ?_
  refine sw_own (t := 14) (k := 1) (e := 9) 3 strc rfl rfl ?_
  refine loop (ι := Nat × (List Bs) × (List Bs) × Value × Value) [1, 2, 3, 8, 9, 10, 11, 34, 35] [0, 1] (fun ⟨k, queues, places, u_queues, u_places⟩ => [(36, .int .i64 (k : Int)), (13, .osl 2), (14, .osl 3)]) (fun ⟨k, queues, places, u_queues, u_places⟩ => [(2, .arr u_queues 1 9 strc queues), (3, .arr u_places 1 9 strc places)]) (fun ⟨k, queues, places, u_queues, u_places⟩ => k ≤ b.binds.length ∧ route_Book_Leads b shop key h = route_Book_Leads_l0 b shop key h (b.binds.drop k)  queues places ∧ queues.length ≤ k ∧ places.length ≤ k) (fun ⟨k, queues, places, u_queues, u_places⟩ => b.binds.length - k) ⟨0, [], [], (.slice none 0 0), (.slice none 0 0)⟩ ⟨rfl, rfl, rfl, trivial⟩ ⟨rfl, rfl, trivial⟩ ?_ ?_
  · exact ⟨Nat.zero_le _, e14, (by first | omega | (simp; done) | (simp; omega))⟩
  rintro ⟨k, queues, places, u_queues, u_places⟩ ⟨hp15_1, hp15_2, hp15_3⟩
  refine go tv46 6 rfl rfl trivial ?_
  refine cnd rfl (fun h16 => ?_) (fun h16 => ?_)
  · have p17 := dt h16
    have e18 := lstep (f := fun zz => route_Book_Leads_l0 b shop key h zz  queues places) hp15_2 (dropG (by omega)) (route_Book_Leads_l0.eq_2 _ _ _ _ _ _ _ _)
    have hc19 := getG (xs := b.binds) (k := k) (by omega)
    have hr_hc19 := hr (gt b.binds k) (List.mem_of_getElem? hc19)
    refine go tv46 6 rfl rfl trivial ?_
    refine q1 (qidx tv46 k rfl rfl rfl hc19 rfl rfl rfl rfl) rfl fun w20 => ?_
    refine go tv46 1 rfl rfl trivial ?_
    refine ef (alloc tv46 4 rfl rfl rfl rfl fun b21 => ?_)
    refine ef (storeA tv46 rfl rfl rfl rfl rfl rfl rfl rfl rfl rfl ?_)
    refine go tv46 4 rfl rfl trivial ?_
    obtain ⟨o, e_o, q_o⟩ := lt1_split e18
    refine joinc (ι := Bool) [1, 2, 3, 8, 9, 10, 11, 13, 14, 16, 34, 35, 36] [0, 1, 2, 3, 4] (fun v => [(44, .bool v)]) (fun v => []) (fun v => o = v) ?_ ?_
    · refine go tv46 9 rfl rfl trivial ?_
      refine cnd rfl (fun h22 => ?_) (fun h22 => ?_)
      · have h23 := not_t h22
        have p24 := df h23
        have e25 := e_o.trans (condT h22)
        refine go tv46 1 rfl rfl trivial ?_
        refine next (!decide (((gt b.binds k).shop) = shop)) rfl rfl ⟨rfl, trivial⟩ trivial (by decide) ?_
        exact e25
      have h26 := not_f h22
      have p27 := dt h26
      have e28 := e_o.trans (condF h22)
      refine go tv46 4 rfl rfl trivial ?_
      refine call (bind_rule _ _) rfl rfl fun w29 => ?_
      refine go tv46 2 rfl rfl trivial ?_
      refine call (rule_Goes _ _ _ (by simp only [bindRule]; omega) (by first | omega | (simp; done) | decide)) rfl rfl fun w30 => ?_
      refine go tv46 3 rfl rfl trivial ?_
      refine next (!(goesR (bindRule (gt b.binds k) (((shopOf b.shops shop).getD ShopR.zero).sort)) key h)) rfl rfl ⟨rfl, trivial⟩ trivial (by decide) ?_
      exact e28
    rintro v hp31
    have e32 := lt1_fin q_o hp31
    refine go tv46 1 rfl rfl trivial ?_
    refine cnd rfl (fun h33 => ?_) (fun h33 => ?_)
    · have e34 := e32.trans (condT h33)
      refine go tv46 8 rfl rfl ⟨(by omega), trivial⟩ ?_
      refine next ⟨(k + 1), queues, places, (u_queues), (u_places)⟩ rfl rfl ⟨rfl, rfl, rfl, trivial⟩ ⟨rfl, rfl, trivial⟩ ?_ ?_
      · (try simp only []); omega
      exact ⟨by (try simp only []); omega, e34, ⟨by (try simp only []); omega, by (try simp only []); omega⟩⟩
    have e35 := e32.trans (condF h33)
    refine go tv46 7 rfl rfl trivial ?_
    refine cnd rfl (fun h36 => ?_) (fun h36 => ?_)
    · have e37 := e35.trans (condT h36)
      refine go tv46 4 rfl rfl trivial ?_
      refine ef (ecallw (route_put_ok _ _ (by first | omega | (simp; omega) | decide +kernel)) rfl rfl rfl rfl rfl rfl ?_)
      generalize hr40 : route_put places ((gt b.binds k).to) = r
      intro u38 w39
      have e41 := e37.trans (lt_eq hr40.symm)
      have hr40 := hr40.symm
      have hA41 := put_len places ((gt b.binds k).to)
      (try rw [← hr40] at hA41)
      refine go tv46 9 rfl rfl ⟨(by omega), trivial⟩ ?_
      refine lj_osl (t := 14) 3 rfl rfl ?_
      refine next ⟨(k + 1), queues, r, (u_queues), (u38)⟩ rfl rfl ⟨rfl, rfl, rfl, trivial⟩ ⟨rfl, rfl, trivial⟩ ?_ ?_
      · (try simp only []); omega
      exact ⟨by (try simp only []); omega, e41, ⟨by (try simp only []); omega, by (try simp only []); omega⟩⟩
    have e43 := e35.trans (condF h36)
    refine go tv46 4 rfl rfl trivial ?_
    refine ef (ecallw (route_put_ok _ _ (by first | omega | (simp; omega) | decide +kernel)) rfl rfl rfl rfl rfl rfl ?_)
    generalize hr46 : route_put queues ((gt b.binds k).to) = r1
    intro u44 w45
    have e47 := e43.trans (lt_eq hr46.symm)
    have hr46 := hr46.symm
    have hA47 := put_len queues ((gt b.binds k).to)
    (try rw [← hr46] at hA47)
    refine go tv46 9 rfl rfl ⟨(by omega), trivial⟩ ?_
    refine lj_osl (t := 13) 2 rfl rfl ?_
    refine next ⟨(k + 1), r1, places, (u44), (u_places)⟩ rfl rfl ⟨rfl, rfl, rfl, trivial⟩ ⟨rfl, rfl, trivial⟩ ?_ ?_
    · (try simp only []); omega
    exact ⟨by (try simp only []); omega, e47, ⟨by (try simp only []); omega, by (try simp only []); omega⟩⟩
  have p49 := df h16
  have e50 := lstep (f := fun zz => route_Book_Leads_l0 b shop key h zz  queues places) hp15_2 (dropN (by omega)) (route_Book_Leads_l0.eq_1 _ _ _ _ _ _)
  refine go tv46 14 rfl rfl trivial ?_
  refine givec 2 rfl ?_
  refine givec 3 rfl ?_
  refine go tv46 2 rfl rfl trivial ?_
  exact rt3 rfl rfl (ple_of (fun r : (List Bs) × (List Bs) × Int => .tup [.sl strc r.1, .sl strc r.2.1, .int .i64 r.2.2]) e50 (ple rfl))
end Go.SW.V
set_option linter.unusedVariables false
set_option maxRecDepth 100000
set_option maxHeartbeats 4000000
namespace Go.SW.V
open Go.SW Go.Proofs
theorem cb10 : Callable Tryz.prog 10 := callable_of Tryz.func10 (by kernel_rfl) (by kernel_rfl)
theorem cb11 : Callable Tryz.prog 11 := callable_of Tryz.func11 (by kernel_rfl) (by kernel_rfl)
theorem cb12 : Callable Tryz.prog 12 := callable_of Tryz.func12 (by kernel_rfl) (by kernel_rfl)
theorem cb14 : Callable Tryz.prog 14 := callable_of Tryz.func14 (by kernel_rfl) (by kernel_rfl)
theorem cb191 : Callable Tryz.prog 191 := callable_of Tryz.func191 (by kernel_rfl) (by kernel_rfl)
theorem cb44 : Callable Tryz.prog 44 := callable_of Tryz.func44 (by kernel_rfl) (by kernel_rfl)
theorem cb46 : Callable Tryz.prog 46 := callable_of Tryz.func46 (by kernel_rfl) (by kernel_rfl)
theorem cb73 : Callable Tryz.prog 73 := callable_of Tryz.func73 (by kernel_rfl) (by kernel_rfl)
theorem cb99 : Callable Tryz.prog 99 := callable_of Tryz.func99 (by kernel_rfl) (by kernel_rfl)
def tbv42 : Tb := [(4, ⟨.bool, 1, 1, [.bool false]⟩),
  (5, ⟨.int .u8, 1, 1, [.int .u8 0]⟩),
  (9, ⟨.str, 1, 16, [.str []]⟩),
  (25, ⟨.slc 151, 1, 24, [.sl TakerR.pc []]⟩),
  (26, ⟨.slc 39, 1, 24, [.sl LentR.pc []]⟩),
  (27, ⟨.int .u64, 1, 8, [.int .u64 0]⟩),
  (28, ⟨.slc 53, 1, 24, [.sl DeedR.pc []]⟩),
  (30, ⟨.agg [(0, 1)], 1, 24, [.sl DeedR.pc []]⟩),
  (32, ⟨.agg [(0, 1), (1, 1), (2, 1), (3, 1), (4, 1), (5, 1), (6, 1)], 7, 96, [.int .i64 0, .sl TakerR.pc [], .sl LentR.pc [], .bool false, .bool false, .int .u64 0, .sl DeedR.pc []]⟩),
  (39, ⟨.agg [(0, 1), (1, 1)], 2, 24, [.int .u64 0, .str []]⟩),
  (51, ⟨.agg [(0, 1), (1, 1), (2, 1), (3, 1), (4, 1), (5, 1), (6, 1)], 7, 96, [.int .u64 0, .str [], .str [], .sl Pair.pc [], .str [], .int .u64 0, .int .u8 0]⟩),
  (53, ⟨.agg [(0, 1), (1, 1), (2, 3), (5, 4), (9, 6), (15, 1), (16, 1), (17, 1), (18, 1), (19, 1), (20, 1), (21, 7), (28, 1)], 29, 344, [.int .u8 0, .int .u64 0, .str [], .int .u8 0, .str [], .str [], .int .u64 0, .int .u64 0, .str [], .str [], .str [], .bool false, .str [], .sl Pair.pc [], .bool false, .str [], .int .u64 0, .int .u8 0, .int .u8 0, .int .u8 0, .int .u64 0, .int .u64 0, .str [], .str [], .sl Pair.pc [], .str [], .int .u64 0, .int .u8 0, .str []]⟩),
  (55, ⟨.slc 177, 1, 24, [.sl TakerR.pc []]⟩),
  (56, ⟨.slc 126, 1, 24, [.sl LentR.pc []]⟩),
  (57, ⟨.slc 184, 1, 24, [.sl DeedR.pc []]⟩),
  (59, ⟨.agg [(0, 1), (1, 1), (2, 1), (3, 1), (4, 1), (5, 1), (6, 1)], 7, 96, [.int .i64 0, .sl TakerR.pc [], .sl LentR.pc [], .bool false, .bool false, .int .u64 0, .sl DeedR.pc []]⟩),
  (126, ⟨.agg [(0, 1), (1, 1)], 2, 24, [.int .u64 0, .str []]⟩),
  (151, ⟨.agg [(0, 1), (1, 1)], 2, 24, [.int .u64 0, .str []]⟩),
  (177, ⟨.agg [(0, 1), (1, 1)], 2, 24, [.int .u64 0, .str []]⟩),
  (184, ⟨.agg [(0, 1), (1, 1), (2, 3), (5, 4), (9, 6), (15, 1), (16, 1), (17, 1), (18, 1), (19, 1), (20, 1), (21, 7), (28, 1)], 29, 344, [.int .u8 0, .int .u64 0, .str [], .int .u8 0, .str [], .str [], .int .u64 0, .int .u64 0, .str [], .str [], .str [], .bool false, .str [], .sl Pair.pc [], .bool false, .str [], .int .u64 0, .int .u8 0, .int .u8 0, .int .u8 0, .int .u64 0, .int .u64 0, .str [], .str [], .sl Pair.pc [], .str [], .int .u64 0, .int .u8 0, .str []]⟩),
  (187, ⟨.slc 26, 1, 24, [.sl (slc LentR.pc) []]⟩),
  (242, ⟨.slc 25, 1, 24, [.sl (slc TakerR.pc) []]⟩),
  (280, ⟨.slc 28, 1, 24, [.sl (slc DeedR.pc) []]⟩)]
theorem tv42 : tbB Tryz.prog tbv42 = true := by kernel_rfl
theorem draft_Draft_Add_ok (x : DraftR) (l : List DeedR) (hx : x.l.length ≤ 1000) : Fn Tryz.prog gb 99 [.agg (DraftR.pc x), .sl DeedR.pc l] (.tup [.agg (DraftR.pc ((draft_Draft_Add x l).1)), .int .i64 ((draft_Draft_Add x l).2)]) := by
  refine fn_cw tv42 Tryz.func99 rfl Tryz.ntmps99 rfl cb99 rfl rfl fun w N H hG => ?_
  have x_l_l : x.l.length ≤ 140737488355328 := w.1.1.1
  have l_l : l.length ≤ 140737488355328 := w.2.1.1
  have e0 := draft_Draft_Add.eq_1 x l
  refine go tv42 2 rfl rfl trivial ?_
  refine ef (boxA 0 rfl rfl rfl fun b1 => ?_)
  refine ef (alloc tv42 1 rfl rfl rfl rfl fun b2 => ?_)
  refine go tv42 6 rfl rfl trivial ?_
  refine ef (alloc tv42 2 rfl rfl rfl rfl fun b3 => ?_)
  refine ef (storeA tv42 rfl rfl rfl rfl rfl rfl rfl rfl rfl rfl ?_)
  refine go tv42 11 rfl rfl trivial ?_
  refine loop (ι := Nat × DraftR) [2, 4, 6, 11, 12] [0, 1] (fun ⟨k, x1⟩ => [(13, .int .i64 (k : Int))]) (fun ⟨k, x1⟩ => [(2, .box b3 30 [.sl DeedR.pc x1.l])]) (fun ⟨k, x1⟩ => k ≤ l.length ∧ draft_Draft_Add x l = draft_Draft_Add_l0 x (l.drop k)  x1 ∧ x1.l.length ≤ 1000) (fun ⟨k, x1⟩ => l.length - k) ⟨0, x⟩ ⟨rfl, trivial⟩ ⟨rfl, trivial⟩ ?_ ?_
  · exact ⟨Nat.zero_le _, e0, (by first | omega | (simp; done) | (simp; omega))⟩
  rintro ⟨k, x1⟩ ⟨hp4_1, hp4_2, hp4_3⟩
  refine go tv42 6 rfl rfl trivial ?_
  refine cnd rfl (fun h5 => ?_) (fun h5 => ?_)
  · have p6 := dt h5
    have e7 := lstep (f := fun zz => draft_Draft_Add_l0 x zz  x1) hp4_2 (dropG (by omega)) (draft_Draft_Add_l0.eq_2 _ _ _ _)
    have hc8 := getG (xs := l) (k := k) (by omega)
    refine go tv42 6 rfl rfl trivial ?_
    refine q1 (qidx tv42 k rfl rfl rfl hc8 rfl rfl rfl rfl) rfl fun w9 => ?_
    refine go tv42 1 rfl rfl trivial ?_
    refine ef (alloc tv42 3 rfl rfl rfl rfl fun b10 => ?_)
    refine ef (storeA tv42 rfl rfl rfl rfl rfl rfl rfl rfl rfl rfl ?_)
    refine go tv42 7 rfl rfl trivial ?_
    refine callv (draft_Draft_check x1 (gt l k)) (fun r : Int => .int .i64 r) (draft_Draft_check_ok _ _) rfl rfl fun r hr11 w12 => ?_
    have e13 := e7.trans (lt_eq hr11)
    have hA13 := chk_lt x1 (gt l k)
    (try rw [← hr11] at hA13)
    have hA14 := chk_head x1 (gt l k)
    (try rw [← hr11] at hA14)
    refine go tv42 9 rfl rfl trivial ?_
    refine cnd rfl (fun h16 => ?_) (fun h16 => ?_)
    · have h17 := not_t h16
      have p18 := df h17
      have e19 := e13.trans (condT h16)
      refine go tv42 4 rfl rfl trivial ?_
      refine ef (storeA tv42 rfl rfl rfl rfl rfl rfl rfl rfl rfl rfl ?_)
      refine go tv42 10 rfl rfl trivial ?_
      exact rt2 rfl rfl (ple_of (fun r : DraftR × Int => .tup [.agg (DraftR.pc r.1), .int .i64 r.2]) e19 (ple rfl))
    have h20 := not_f h16
    have p21 := dt h20
    have e22 := e13.trans (condF h16)
    refine go tv42 2 rfl rfl trivial ?_
    refine any [4, 5, 6, 7, 8, 9] 9 mixd rfl ?_
    refine gov tv42 [0, 1, 2] 6 rfl (by kernel_rfl) rfl rfl trivial ?_
    refine ve 3 rfl (by kernel_rfl) rfl (ecall (draft_clone_ok _ (by first | omega | (simp; done) | decide)) rfl rfl ?_)
    generalize hr24 : draft_clone (gt l k) = r1
    intro w23
    have e25 := e22.trans (lt_eq hr24.symm)
    refine ve 4 rfl (by kernel_rfl) rfl (bsl 4 DeedR.pc [r1] tv42 rfl rfl rfl rfl rfl (fun _ => rfl) rfl (by decide) (by decide) rfl fun u26 => ?_)
    refine ve 5 rfl (by kernel_rfl) rfl (egive 4 rfl (bsl 4 (slc DeedR.pc) [x1.l, [r1]] tv42 rfl rfl rfl rfl rfl (fun _ => rfl) rfl (by decide) (by decide) rfl fun u27 => ?_))
    refine ve 6 rfl (by kernel_rfl) rfl (egive 4 rfl (eweak (ecall (concat_Deed _ (by first | omega | (simp; done) | (simp; omega) | (simp only [List.flatten_cons, List.flatten_nil, List.length_append, List.append_nil]; simp; omega))) rfl rfl fun w28 => ?_)))
    refine gov tv42 [7] 1 rfl (by kernel_rfl) rfl rfl trivial ?_
    refine vt 8 rfl (by kernel_rfl) (by kernel_rfl) (storeA tv42 rfl rfl rfl rfl rfl rfl rfl rfl rfl rfl ?_)
    refine vdone (by kernel_rfl) ?_
    refine go tv42 6 rfl rfl ⟨(by omega), trivial⟩ ?_
    refine next ⟨(k + 1), (⟨[x1.l, [r1]].flatten⟩ : DraftR)⟩ rfl rfl ⟨rfl, trivial⟩ ⟨rfl, trivial⟩ ?_ ?_
    · (try simp only []); omega
    exact ⟨by (try simp only []); omega, e25, (by (try simp only [List.length_append, List.length_cons, List.length_nil, List.flatten_cons, List.flatten_nil, List.append_nil, List.length_take, List.length_drop]); omega)⟩
  have p29 := df h5
  have e30 := lstep (f := fun zz => draft_Draft_Add_l0 x zz  x1) hp4_2 (dropN (by omega)) (draft_Draft_Add_l0.eq_1 _ _)
  refine go tv42 8 rfl rfl trivial ?_
  refine ef (storeA tv42 rfl rfl rfl rfl rfl rfl rfl rfl rfl rfl ?_)
  refine go tv42 4 rfl rfl trivial ?_
  exact rt2 rfl rfl (ple_of (fun r : DraftR × Int => .tup [.agg (DraftR.pc r.1), .int .i64 r.2]) e30 (ple rfl))
theorem draft_Draft_At_ok (x : DraftR) (tick : Int) (hx : x.l.length ≤ 1000) (hh : ∀ d ∈ x.l, d.mail.head.length ≤ 1000000) : Fo Tryz.prog gb 191 [.agg (DraftR.pc x), .int .u64 tick] (fun u => .val u) 29 53 DeedR.pc (draft_Draft_At x tick) := by
  refine fo_cw tv42 Tryz.func191 rfl Tryz.ntmps191 rfl cb191 (fun _ => rfl) rfl fun w N H hG => ?_
  have x_l_l : x.l.length ≤ 140737488355328 := w.1.1.1
  have tick_r : 0 ≤ tick ∧ tick ≤ 18446744073709551615 := w.2.1
  have e0 := draft_Draft_At.eq_1 x tick
  refine go tv42 2 rfl rfl trivial ?_
  refine ef (boxA 0 rfl rfl rfl fun b1 => ?_)
  refine go tv42 18 rfl rfl trivial ?_
  refine sw_own (t := 5) (k := 29) (e := 53) 1 DeedR.pc rfl rfl ?_
  refine loop (ι := Nat × (List DeedR) × Value) [1, 4, 9, 10] [0] (fun ⟨k, out, u_out⟩ => [(11, .int .i64 (k : Int)), (5, .osl 1)]) (fun ⟨k, out, u_out⟩ => [(1, .arr u_out 29 53 DeedR.pc out)]) (fun ⟨k, out, u_out⟩ => k ≤ x.l.length ∧ draft_Draft_At x tick = draft_Draft_At_l0 tick (x.l.drop k)  out ∧ out.length ≤ k) (fun ⟨k, out, u_out⟩ => x.l.length - k) ⟨0, [], (.slice none 0 0)⟩ ⟨rfl, rfl, trivial⟩ ⟨rfl, trivial⟩ ?_ ?_
  · exact ⟨Nat.zero_le _, e0, (by first | omega | (simp; done) | (simp; omega))⟩
  rintro ⟨k, out, u_out⟩ ⟨hp2_1, hp2_2, hp2_3⟩
  refine go tv42 6 rfl rfl trivial ?_
  refine cnd rfl (fun h3 => ?_) (fun h3 => ?_)
  · have p4 := dt h3
    have e5 := lstep (f := fun zz => draft_Draft_At_l0 tick zz  out) hp2_2 (dropG (by omega)) (draft_Draft_At_l0.eq_2 _ _ _ _)
    have hc6 := getG (xs := x.l) (k := k) (by omega)
    have hh_hc6 := hh (gt x.l k) (List.mem_of_getElem? hc6)
    refine go tv42 6 rfl rfl trivial ?_
    refine q1 (qidx tv42 k rfl rfl rfl hc6 rfl rfl rfl rfl) rfl fun w7 => ?_
    refine go tv42 1 rfl rfl trivial ?_
    refine ef (alloc tv42 2 rfl rfl rfl rfl fun b8 => ?_)
    refine ef (storeA tv42 rfl rfl rfl rfl rfl rfl rfl rfl rfl rfl ?_)
    refine go tv42 5 rfl rfl trivial ?_
    refine callv (draft_clone (gt x.l k)) (fun r : DeedR => .agg (DeedR.pc r)) (draft_clone_ok _ (by first | omega | (simp; done) | decide)) rfl rfl fun r hr9 w10 => ?_
    have e11 := e5.trans (lt_eq hr9)
    refine ef (storeA tv42 rfl rfl rfl rfl rfl rfl rfl rfl rfl rfl ?_)
    refine go tv42 6 rfl rfl trivial ?_
    refine ef (store1 tv42 rfl rfl rfl rfl rfl rfl rfl rfl rfl ?_)
    refine go tv42 10 rfl rfl trivial ?_
    refine cnd rfl (fun h12 => ?_) (fun h12 => ?_)
    · have p13 := dt h12
      have e14 := e11.trans (condT h12)
      refine go tv42 5 rfl rfl trivial ?_
      refine call (draft_Life _ _) rfl rfl fun w15 => ?_
      refine go tv42 2 rfl rfl trivial ?_
      refine ef (store1 tv42 rfl rfl rfl rfl rfl rfl rfl rfl rfl ?_)
      refine go tv42 5 rfl rfl trivial ?_
      refine ef (bsl 3 DeedR.pc [(⟨r.kind, tick, r.shop, r.queue, r.bind, r.name, r.id, r.how, r.frm, r.code, r.number, (⟨r.mail.id, r.mail.shop, r.mail.key, r.mail.head, r.mail.body, lifeN tick r.mail.due, r.mail.hops⟩ : Mail), r.text⟩ : DeedR)] tv42 rfl rfl rfl rfl rfl (fun _ => rfl) rfl (by decide) (by decide) rfl fun u16 => ?_)
      refine ef (app tv42 [(⟨r.kind, tick, r.shop, r.queue, r.bind, r.name, r.id, r.how, r.frm, r.code, r.number, (⟨r.mail.id, r.mail.shop, r.mail.key, r.mail.head, r.mail.body, lifeN tick r.mail.due, r.mail.hops⟩ : Mail), r.text⟩ : DeedR)] rfl rfl rfl rfl rfl rfl rfl rfl rfl (src_o rfl rfl) (by first | omega | (simp; omega)) rfl fun u17 => ?_)
      refine go tv42 8 rfl rfl ⟨(by omega), trivial⟩ ?_
      refine next ⟨(k + 1), (out ++ [(⟨r.kind, tick, r.shop, r.queue, r.bind, r.name, r.id, r.how, r.frm, r.code, r.number, (⟨r.mail.id, r.mail.shop, r.mail.key, r.mail.head, r.mail.body, lifeN tick r.mail.due, r.mail.hops⟩ : Mail), r.text⟩ : DeedR)]), (u17)⟩ rfl rfl ⟨rfl, rfl, trivial⟩ ⟨rfl, trivial⟩ ?_ ?_
      · (try simp only []); omega
      exact ⟨by (try simp only []); omega, e14, (by (try simp only [List.length_append, List.length_cons, List.length_nil, List.flatten_cons, List.flatten_nil, List.append_nil, List.length_take, List.length_drop]); omega)⟩
    have p18 := df h12
    have e19 := e11.trans (condF h12)
    refine go tv42 5 rfl rfl trivial ?_
    refine ef (bsl 3 DeedR.pc [(⟨r.kind, tick, r.shop, r.queue, r.bind, r.name, r.id, r.how, r.frm, r.code, r.number, r.mail, r.text⟩ : DeedR)] tv42 rfl rfl rfl rfl rfl (fun _ => rfl) rfl (by decide) (by decide) rfl fun u20 => ?_)
    refine ef (app tv42 [(⟨r.kind, tick, r.shop, r.queue, r.bind, r.name, r.id, r.how, r.frm, r.code, r.number, r.mail, r.text⟩ : DeedR)] rfl rfl rfl rfl rfl rfl rfl rfl rfl (src_o rfl rfl) (by first | omega | (simp; omega)) rfl fun u21 => ?_)
    refine go tv42 8 rfl rfl ⟨(by omega), trivial⟩ ?_
    refine next ⟨(k + 1), (out ++ [(⟨r.kind, tick, r.shop, r.queue, r.bind, r.name, r.id, r.how, r.frm, r.code, r.number, r.mail, r.text⟩ : DeedR)]), (u21)⟩ rfl rfl ⟨rfl, rfl, trivial⟩ ⟨rfl, trivial⟩ ?_ ?_
    · (try simp only []); omega
    exact ⟨by (try simp only []); omega, e19, (by (try simp only [List.length_append, List.length_cons, List.length_nil, List.flatten_cons, List.flatten_nil, List.append_nil, List.length_take, List.length_drop]); omega)⟩
  have p22 := df h3
  have e23 := lstep (f := fun zz => draft_Draft_At_l0 tick zz  out) hp2_2 (dropN (by omega)) (draft_Draft_At_l0.eq_1 _ _)
  refine go tv42 11 rfl rfl trivial ?_
  refine sw_val (t := 4) (i := 1) rfl rfl ?_
  refine go tv42 1 rfl rfl trivial ?_
  refine ro1 (j := 1) rfl rfl rfl ?_
  exact (congrArg (fun r : (List DeedR) => r) e23).symm
theorem chans_Chan_Take_ok (c : ChanR) (tag : Int) (queue : Bs) (ht : c.takers.length ≤ 1000) : Fn Tryz.prog gb 44 [.agg (ChanR.pc c), .int .u64 tag, .str queue] (.tup [.agg (ChanR.pc ((chans_Chan_Take c tag queue).1)), .int .i64 ((chans_Chan_Take c tag queue).2)]) := by
  refine fn_cw tv42 Tryz.func44 rfl Tryz.ntmps44 rfl cb44 rfl rfl fun w N H hG => ?_
  have c_takers_l : c.takers.length ≤ 140737488355328 := w.1.2.1.1
  have c_lent_l : c.lent.length ≤ 140737488355328 := w.1.2.2.1.1
  have c_held_l_l : c.held.l.length ≤ 140737488355328 := w.1.2.2.2.2.2.2.1.1
  have tag_r : 0 ≤ tag ∧ tag ≤ 18446744073709551615 := w.2.1
  have queue_l : queue.length ≤ 9223372036854775807 := w.2.2.1
  have e0 := chans_Chan_Take.eq_1 c tag queue
  refine go tv42 2 rfl rfl trivial ?_
  refine ef (boxA 0 rfl rfl rfl fun b1 => ?_)
  refine ef (alloc tv42 1 rfl rfl rfl rfl fun b2 => ?_)
  refine go tv42 12 rfl rfl trivial ?_
  refine cnd rfl (fun h3 => ?_) (fun h3 => ?_)
  · have p4 := dt h3
    have e5 := e0.trans (condT h3)
    refine go tv42 3 rfl rfl trivial ?_
    refine ef (storeA tv42 rfl rfl rfl rfl rfl rfl rfl rfl rfl rfl ?_)
    refine go tv42 6 rfl rfl trivial ?_
    exact rt2 rfl rfl (ple_of (fun r : ChanR × Int => .tup [.agg (ChanR.pc r.1), .int .i64 r.2]) e5 (ple rfl))
  have p6 := df h3
  have e7 := e0.trans (condF h3)
  refine go tv42 4 rfl rfl trivial ?_
  refine callv (chans_Chan_of c tag) (fun r : Int => .int .i64 r) (chans_Chan_of_ok _ _) rfl rfl fun r hr8 w9 => ?_
  have e10 := e7.trans (lt_eq hr8)
  have hA10 := chans_of_r c tag
  (try rw [← hr8] at hA10)
  refine go tv42 4 rfl rfl trivial ?_
  refine cnd rfl (fun h12 => ?_) (fun h12 => ?_)
  · have p13 := dt h12
    have e14 := e10.trans (condT h12)
    refine go tv42 3 rfl rfl trivial ?_
    refine ef (storeA tv42 rfl rfl rfl rfl rfl rfl rfl rfl rfl rfl ?_)
    refine go tv42 6 rfl rfl trivial ?_
    exact rt2 rfl rfl (ple_of (fun r : ChanR × Int => .tup [.agg (ChanR.pc r.1), .int .i64 r.2]) e14 (ple rfl))
  have p15 := df h12
  have e16 := e10.trans (condF h12)
  refine go tv42 9 rfl rfl trivial ?_
  refine cnd rfl (fun h17 => ?_) (fun h17 => ?_)
  · have p18 := dt h17
    have e19 := e16.trans (condT h17)
    refine go tv42 3 rfl rfl trivial ?_
    refine ef (storeA tv42 rfl rfl rfl rfl rfl rfl rfl rfl rfl rfl ?_)
    refine go tv42 6 rfl rfl trivial ?_
    exact rt2 rfl rfl (ple_of (fun r : ChanR × Int => .tup [.agg (ChanR.pc r.1), .int .i64 r.2]) e19 (ple rfl))
  have p20 := df h17
  have e21 := e16.trans (condF h17)
  refine go tv42 10 rfl rfl trivial ?_
  refine ef (bsl 2 TakerR.pc [(⟨tag, queue⟩ : TakerR)] tv42 rfl rfl rfl rfl rfl (fun _ => rfl) rfl (by decide) (by decide) rfl fun u22 => ?_)
  refine give 2 rfl ?_
  refine ef (bsl 2 (slc TakerR.pc) [c.takers, [(⟨tag, queue⟩ : TakerR)]] tv42 rfl rfl rfl rfl rfl (fun _ => rfl) rfl (by decide) (by decide) rfl fun u23 => ?_)
  refine give 2 rfl ?_
  refine call (concat_Taker _ (by first | omega | (simp; done) | (simp; omega) | (simp only [List.flatten_cons, List.flatten_nil, List.length_append, List.append_nil]; simp; omega))) rfl rfl fun w24 => ?_
  refine go tv42 1 rfl rfl trivial ?_
  refine ef (store1 tv42 rfl rfl rfl rfl rfl rfl rfl rfl rfl ?_)
  refine go tv42 5 rfl rfl trivial ?_
  refine ef (storeA tv42 rfl rfl rfl rfl rfl rfl rfl rfl rfl rfl ?_)
  refine go tv42 4 rfl rfl trivial ?_
  exact rt2 rfl rfl (ple_of (fun r : ChanR × Int => .tup [.agg (ChanR.pc r.1), .int .i64 r.2]) e21 (ple rfl))
theorem chans_Chan_Leave_ok (c : ChanR) (tag : Int) (ht : c.takers.length ≤ 1000) : Fn Tryz.prog gb 46 [.agg (ChanR.pc c), .int .u64 tag] (.tup [.agg (ChanR.pc ((chans_Chan_Leave c tag).1)), .int .i64 ((chans_Chan_Leave c tag).2)]) := by
  refine fn_cw tv42 Tryz.func46 rfl Tryz.ntmps46 rfl cb46 rfl rfl fun w N H hG => ?_
  have c_takers_l : c.takers.length ≤ 140737488355328 := w.1.2.1.1
  have c_lent_l : c.lent.length ≤ 140737488355328 := w.1.2.2.1.1
  have c_held_l_l : c.held.l.length ≤ 140737488355328 := w.1.2.2.2.2.2.2.1.1
  have tag_r : 0 ≤ tag ∧ tag ≤ 18446744073709551615 := w.2.1
  have e0 := chans_Chan_Leave.eq_1 c tag
  refine go tv42 2 rfl rfl trivial ?_
  refine ef (boxA 0 rfl rfl rfl fun b1 => ?_)
  refine ef (alloc tv42 1 rfl rfl rfl rfl fun b2 => ?_)
  refine go tv42 7 rfl rfl trivial ?_
  refine callv (chans_Chan_of c tag) (fun r : Int => .int .i64 r) (chans_Chan_of_ok _ _) rfl rfl fun r hr3 w4 => ?_
  have e5 := e0.trans (lt_eq hr3)
  have hA5 := chans_of_r c tag
  (try rw [← hr3] at hA5)
  refine go tv42 10 rfl rfl trivial ?_
  refine cnd rfl (fun h7 => ?_) (fun h7 => ?_)
  · have p8 := dt h7
    have e9 := e5.trans (condT h7)
    refine go tv42 3 rfl rfl trivial ?_
    refine ef (storeA tv42 rfl rfl rfl rfl rfl rfl rfl rfl rfl rfl ?_)
    refine go tv42 5 rfl rfl trivial ?_
    exact rt2 rfl rfl (ple_of (fun r : ChanR × Int => .tup [.agg (ChanR.pc r.1), .int .i64 r.2]) e9 (ple rfl))
  have p10 := df h7
  have e11 := e5.trans (condF h7)
  refine go tv42 3 rfl rfl trivial ?_
  refine any [2, 3, 4, 5, 6, 7] 13 mixd rfl ?_
  refine gov tv42 [0, 1, 2] 10 rfl (by kernel_rfl) rfl rfl trivial ?_
  refine vq 3 (lshi tv42 (r).toNat rfl rfl rfl rfl rfl (fun _ => rfl) (by omega) (by omega)) rfl (by kernel_rfl) rfl fun w12 => ?_
  refine gov tv42 [4, 5, 6, 7] 5 rfl (by kernel_rfl) rfl rfl ⟨(by omega), trivial⟩ ?_
  refine vq 8 (lslo tv42 ((r + 1)).toNat rfl rfl rfl rfl rfl (fun _ => rfl) (by omega) (by omega)) rfl (by kernel_rfl) rfl fun w13 => ?_
  refine ve 9 rfl (by kernel_rfl) rfl (bsl 2 (slc TakerR.pc) [(c.takers.take (r).toNat), (c.takers.drop ((r + 1)).toNat)] tv42 rfl rfl rfl rfl rfl (fun _ => rfl) rfl (by decide) (by decide) rfl fun u14 => ?_)
  refine ve 10 rfl (by kernel_rfl) rfl (egive 2 rfl (eweak (ecall (concat_Taker _ (by first | omega | (simp; done) | (simp; omega) | (simp only [List.flatten_cons, List.flatten_nil, List.length_append, List.append_nil]; simp; omega))) rfl rfl fun w15 => ?_)))
  refine gov tv42 [11] 1 rfl (by kernel_rfl) rfl rfl trivial ?_
  refine vt 12 rfl (by kernel_rfl) (by kernel_rfl) (store1 tv42 rfl rfl rfl rfl rfl rfl rfl rfl rfl ?_)
  refine vdone (by kernel_rfl) ?_
  refine go tv42 4 rfl rfl trivial ?_
  refine ef (storeA tv42 rfl rfl rfl rfl rfl rfl rfl rfl rfl rfl ?_)
  refine go tv42 4 rfl rfl trivial ?_
  exact rt2 rfl rfl (ple_of (fun r : ChanR × Int => .tup [.agg (ChanR.pc r.1), .int .i64 r.2]) e11 (ple rfl))
theorem chans_Chan_Takers_ok (c : ChanR) (ht : c.takers.length ≤ 1000) : Fn Tryz.prog gb 73 [.agg (ChanR.pc c)] (.sl TakerR.pc (chans_Chan_Takers c)) := by
  refine fn_cw tv42 Tryz.func73 rfl Tryz.ntmps73 rfl cb73 rfl rfl fun w N H hG => ?_
  have c_takers_l : c.takers.length ≤ 140737488355328 := w.1.2.1.1
  have c_lent_l : c.lent.length ≤ 140737488355328 := w.1.2.2.1.1
  have c_held_l_l : c.held.l.length ≤ 140737488355328 := w.1.2.2.2.2.2.2.1.1
  have e0 := chans_Chan_Takers.eq_1 c
  refine go tv42 2 rfl rfl trivial ?_
  refine ef (boxA 0 rfl rfl rfl fun b1 => ?_)
  refine go tv42 7 rfl rfl trivial ?_
  refine call (clone_Taker _ (by first | omega | (simp; done) | (simp; omega))) rfl rfl fun w2 => ?_
  refine go tv42 4 rfl rfl trivial ?_
  exact rt1 rfl rfl (ple_of (fun r : (List TakerR) => .sl TakerR.pc r) e0 (ple rfl))
theorem chans_Chan_Lend_ok (c : ChanR) (x : LentR) (hn : c.lent.length ≤ 10000000) : Fn Tryz.prog gb 10 [.agg (ChanR.pc c), .agg (LentR.pc x)] (.agg (ChanR.pc (chans_Chan_Lend c x))) := by
  refine fn_cw tv42 Tryz.func10 rfl Tryz.ntmps10 rfl cb10 rfl rfl fun w N H hG => ?_
  have c_takers_l : c.takers.length ≤ 140737488355328 := w.1.2.1.1
  have c_lent_l : c.lent.length ≤ 140737488355328 := w.1.2.2.1.1
  have c_held_l_l : c.held.l.length ≤ 140737488355328 := w.1.2.2.2.2.2.2.1.1
  have e0 := chans_Chan_Lend.eq_1 c x
  refine go tv42 2 rfl rfl trivial ?_
  refine ef (boxA 0 rfl rfl rfl fun b1 => ?_)
  refine ef (boxA 1 rfl rfl rfl fun b2 => ?_)
  refine ef (alloc tv42 2 rfl rfl rfl rfl fun b3 => ?_)
  refine go tv42 7 rfl rfl trivial ?_
  refine ef (bsl 3 LentR.pc [x] tv42 rfl rfl rfl rfl rfl (fun _ => rfl) rfl (by decide) (by decide) rfl fun u4 => ?_)
  refine give 3 rfl ?_
  refine ef (bsl 3 (slc LentR.pc) [c.lent, [x]] tv42 rfl rfl rfl rfl rfl (fun _ => rfl) rfl (by decide) (by decide) rfl fun u5 => ?_)
  refine give 3 rfl ?_
  refine call (concat_Lent _ (by first | omega | (simp; done) | (simp; omega) | (simp only [List.flatten_cons, List.flatten_nil, List.length_append, List.append_nil]; simp; omega))) rfl rfl fun w6 => ?_
  refine go tv42 1 rfl rfl trivial ?_
  refine ef (store1 tv42 rfl rfl rfl rfl rfl rfl rfl rfl rfl ?_)
  refine go tv42 5 rfl rfl trivial ?_
  refine ef (storeA tv42 rfl rfl rfl rfl rfl rfl rfl rfl rfl rfl ?_)
  refine go tv42 3 rfl rfl trivial ?_
  exact rt1 rfl rfl (ple_of (fun r : ChanR => .agg (ChanR.pc r)) e0 (ple rfl))
theorem chans_Chan_Unsettled_ok (c : ChanR) (hn : c.lent.length ≤ 10000000) : Fn Tryz.prog gb 14 [.agg (ChanR.pc c)] (.sl LentR.pc (chans_Chan_Unsettled c)) := by
  refine fn_cw tv42 Tryz.func14 rfl Tryz.ntmps14 rfl cb14 rfl rfl fun w N H hG => ?_
  have c_takers_l : c.takers.length ≤ 140737488355328 := w.1.2.1.1
  have c_lent_l : c.lent.length ≤ 140737488355328 := w.1.2.2.1.1
  have c_held_l_l : c.held.l.length ≤ 140737488355328 := w.1.2.2.2.2.2.2.1.1
  have e0 := chans_Chan_Unsettled.eq_1 c
  refine go tv42 2 rfl rfl trivial ?_
  refine ef (boxA 0 rfl rfl rfl fun b1 => ?_)
  refine go tv42 7 rfl rfl trivial ?_
  refine call (clone_Lent _ (by first | omega | (simp; done) | (simp; omega))) rfl rfl fun w2 => ?_
  refine go tv42 4 rfl rfl trivial ?_
  exact rt1 rfl rfl (ple_of (fun r : (List LentR) => .sl LentR.pc r) e0 (ple rfl))
theorem chans_Chan_Settles_ok (c : ChanR) (id : Int) (how : Int) (upto : Bool) (hn : c.lent.length ≤ 10000000) : Fo Tryz.prog gb 11 [.agg (ChanR.pc c), .int .u64 id, .int .u64 how, .bool upto] (fun u => .tup [.val u, .int .i64 ((chans_Chan_Settles c id how upto).2)]) 29 53 DeedR.pc ((chans_Chan_Settles c id how upto).1) := by
  refine fo_cw tv42 Tryz.func11 rfl Tryz.ntmps11 rfl cb11 (fun _ => rfl) rfl fun w N H hG => ?_
  have c_takers_l : c.takers.length ≤ 140737488355328 := w.1.2.1.1
  have c_lent_l : c.lent.length ≤ 140737488355328 := w.1.2.2.1.1
  have c_held_l_l : c.held.l.length ≤ 140737488355328 := w.1.2.2.2.2.2.2.1.1
  have id_r : 0 ≤ id ∧ id ≤ 18446744073709551615 := w.2.1
  have how_r : 0 ≤ how ∧ how ≤ 18446744073709551615 := w.2.2.1
  have e0 := chans_Chan_Settles.eq_1 c id how upto
  refine go tv42 2 rfl rfl trivial ?_
  refine ef (boxA 0 rfl rfl rfl fun b1 => ?_)
  refine go tv42 11 rfl rfl trivial ?_
  refine cnd rfl (fun h2 => ?_) (fun h2 => ?_)
  · have p3 := dt h2
    have e4 := e0.trans (condT h2)
    refine go tv42 6 rfl rfl trivial ?_
    refine sw_own (t := 8) (k := 29) (e := 53) 1 DeedR.pc rfl rfl ?_
    refine sw_val (t := 8) (i := 1) rfl rfl ?_
    refine go tv42 2 rfl rfl trivial ?_
    refine roN (j := 1) (.slice none 0 0) rfl rfl rfl rfl ?_ ?_
    · exact (congrArg (fun r : (List DeedR) × Int => r.1) e4).symm
    exact ple_of (fun r : (List DeedR) × Int => .tup [.val (.slice none 0 0), .int .i64 r.2]) e4 (ple rfl)
  have p5 := df h2
  have e6 := e0.trans (condF h2)
  refine go tv42 17 rfl rfl trivial ?_
  refine sw_own (t := 10) (k := 29) (e := 53) 1 DeedR.pc rfl rfl ?_
  refine loop (ι := Nat × (List DeedR) × Value) [1, 2, 3, 4, 16, 17] [0] (fun ⟨k, out, u_out⟩ => [(18, .int .i64 (k : Int)), (10, .osl 1)]) (fun ⟨k, out, u_out⟩ => [(1, .arr u_out 29 53 DeedR.pc out)]) (fun ⟨k, out, u_out⟩ => k ≤ c.lent.length ∧ chans_Chan_Settles c id how upto = chans_Chan_Settles_l0 c id how upto (c.lent.drop k)  out ∧ out.length ≤ k) (fun ⟨k, out, u_out⟩ => c.lent.length - k) ⟨0, [], (.slice none 0 0)⟩ ⟨rfl, rfl, trivial⟩ ⟨rfl, trivial⟩ ?_ ?_
  · exact ⟨Nat.zero_le _, e6, (by first | omega | (simp; done) | (simp; omega))⟩
  rintro ⟨k, out, u_out⟩ ⟨hp7_1, hp7_2, hp7_3⟩
  refine go tv42 6 rfl rfl trivial ?_
  refine cnd rfl (fun h8 => ?_) (fun h8 => ?_)
  · have p9 := dt h8
    have e10 := lstep (f := fun zz => chans_Chan_Settles_l0 c id how upto zz  out) hp7_2 (dropG (by omega)) (chans_Chan_Settles_l0.eq_2 _ _ _ _ _ _ _)
    have hc11 := getG (xs := c.lent) (k := k) (by omega)
    refine go tv42 6 rfl rfl trivial ?_
    refine q1 (qidx tv42 k rfl rfl rfl hc11 rfl rfl rfl rfl) rfl fun w12 => ?_
    refine go tv42 1 rfl rfl trivial ?_
    refine ef (alloc tv42 2 rfl rfl rfl rfl fun b13 => ?_)
    refine ef (storeA tv42 rfl rfl rfl rfl rfl rfl rfl rfl rfl rfl ?_)
    refine go tv42 14 rfl rfl ⟨(fun hc => hc), (fun hc => hc), (fun hc => hc), trivial⟩ ?_
    refine callg rfl (fun hc => (draft_Draft_Settles_ok _ _ _)) rfl ⟨(fun hc => hc), (fun hc => hc), (fun hc => hc), trivial⟩ rfl rfl fun _ => ?_
    refine go tv42 13 rfl rfl ⟨rfl, rfl, (fun hc => hc), (fun hc => hc), (fun hc => hc), (fun hc => hc), (fun hc => hc), (fun hc => hc), (fun hc => (by rw [hc]; rfl)), (fun hc => rfl), rfl, rfl, trivial⟩ ?_
    refine cnd rfl (fun h14 => ?_) (fun h14 => ?_)
    · have e15 := e10.trans (condT h14)
      refine go tv42 8 rfl rfl ⟨(by omega), trivial⟩ ?_
      refine next ⟨(k + 1), out, (u_out)⟩ rfl rfl ⟨rfl, rfl, trivial⟩ ⟨rfl, trivial⟩ ?_ ?_
      · (try simp only []); omega
      exact ⟨by (try simp only []); omega, e15, (by (try simp only [List.length_append, List.length_cons, List.length_nil, List.flatten_cons, List.flatten_nil, List.append_nil, List.length_take, List.length_drop]); omega)⟩
    have h16 := orl h14
    have h17 := orr h14
    have e18 := e10.trans (condF h14)
    refine go tv42 12 rfl rfl trivial ?_
    refine ef (bsl 3 DeedR.pc [(⟨8, 0, (⟨[], 0, []⟩ : ShopR), (⟨[], 0, 0, []⟩ : QueueR), (⟨[], [], false, [], [], false⟩ : BindR), (gt c.lent k).queue, (gt c.lent k).id, (IntKind.wrap .u8 how), 0, 0, 0, (⟨0, [], [], [], [], 0, 0⟩ : Mail), []⟩ : DeedR)] tv42 rfl rfl rfl rfl rfl (fun _ => rfl) rfl (by decide) (by decide) rfl fun u19 => ?_)
    refine ef (app tv42 [(⟨8, 0, (⟨[], 0, []⟩ : ShopR), (⟨[], 0, 0, []⟩ : QueueR), (⟨[], [], false, [], [], false⟩ : BindR), (gt c.lent k).queue, (gt c.lent k).id, (IntKind.wrap .u8 how), 0, 0, 0, (⟨0, [], [], [], [], 0, 0⟩ : Mail), []⟩ : DeedR)] rfl rfl rfl rfl rfl rfl rfl rfl rfl (src_o rfl rfl) (by first | omega | (simp; omega)) rfl fun u20 => ?_)
    refine go tv42 11 rfl rfl trivial ?_
    refine cnd rfl (fun h21 => ?_) (fun h21 => ?_)
    · have p22 := dt h21
      have e23 := e18.trans (condT h21)
      refine go tv42 7 rfl rfl trivial ?_
      refine sw_val (t := 8) (i := 1) rfl rfl ?_
      refine go tv42 6 rfl rfl trivial ?_
      refine roN (j := 1) u20 rfl rfl rfl rfl ?_ ?_
      · exact (congrArg (fun r : (List DeedR) × Int => r.1) e23).symm
      exact ple_of (fun r : (List DeedR) × Int => .tup [.val u20, .int .i64 r.2]) e23 (ple rfl)
    have p24 := df h21
    have e25 := e18.trans (condF h21)
    refine go tv42 7 rfl rfl ⟨(by omega), trivial⟩ ?_
    refine next ⟨(k + 1), (out ++ [(⟨8, 0, (⟨[], 0, []⟩ : ShopR), (⟨[], 0, 0, []⟩ : QueueR), (⟨[], [], false, [], [], false⟩ : BindR), (gt c.lent k).queue, (gt c.lent k).id, (IntKind.wrap .u8 how), 0, 0, 0, (⟨0, [], [], [], [], 0, 0⟩ : Mail), []⟩ : DeedR)]), (u20)⟩ rfl rfl ⟨rfl, rfl, trivial⟩ ⟨rfl, trivial⟩ ?_ ?_
    · (try simp only []); omega
    exact ⟨by (try simp only []); omega, e25, (by (try simp only [List.length_append, List.length_cons, List.length_nil, List.flatten_cons, List.flatten_nil, List.append_nil, List.length_take, List.length_drop]); omega)⟩
  have p26 := df h8
  have e27 := lstep (f := fun zz => chans_Chan_Settles_l0 c id how upto zz  out) hp7_2 (dropN (by omega)) (chans_Chan_Settles_l0.eq_1 _ _ _ _ _)
  refine go tv42 11 rfl rfl trivial ?_
  refine sw_own (t := 8) (k := 29) (e := 53) 2 DeedR.pc rfl rfl ?_
  refine sw_val (t := 8) (i := 2) rfl rfl ?_
  refine go tv42 1 rfl rfl trivial ?_
  refine roN (j := 2) (.slice none 0 0) rfl rfl rfl rfl ?_ ?_
  · exact (congrArg (fun r : (List DeedR) × Int => r.1) e27).symm
  exact ple_of (fun r : (List DeedR) × Int => .tup [.val (.slice none 0 0), .int .i64 r.2]) e27 (ple rfl)
theorem chans_Chan_Gone_ok (c : ChanR) (l : List DeedR) (hn : c.lent.length ≤ 10000000) : Fn Tryz.prog gb 12 [.agg (ChanR.pc c), .sl DeedR.pc l] (.agg (ChanR.pc (chans_Chan_Gone c l))) := by
  refine fn_cw tv42 Tryz.func12 rfl Tryz.ntmps12 rfl cb12 rfl rfl fun w N H hG => ?_
  have c_takers_l : c.takers.length ≤ 140737488355328 := w.1.2.1.1
  have c_lent_l : c.lent.length ≤ 140737488355328 := w.1.2.2.1.1
  have c_held_l_l : c.held.l.length ≤ 140737488355328 := w.1.2.2.2.2.2.2.1.1
  have l_l : l.length ≤ 140737488355328 := w.2.1.1
  have e0 := chans_Chan_Gone.eq_1 c l
  refine go tv42 2 rfl rfl trivial ?_
  refine ef (boxA 0 rfl rfl rfl fun b1 => ?_)
  refine ef (alloc tv42 1 rfl rfl rfl rfl fun b2 => ?_)
  refine go tv42 11 rfl rfl trivial ?_
  refine loop (ι := Nat × ChanR) [2, 4, 8, 9] [1] (fun ⟨k, x⟩ => [(10, .int .i64 (k : Int))]) (fun ⟨k, x⟩ => [(0, .box b1 32 [.int .i64 x.credit, .sl TakerR.pc x.takers, .sl LentR.pc x.lent, .bool x.sure, .bool x.drafts, .int .u64 x.puts, .sl DeedR.pc x.held.l])]) (fun ⟨k, x⟩ => k ≤ l.length ∧ chans_Chan_Gone c l = chans_Chan_Gone_l0 (l.drop k)  x ∧ x.lent.length ≤ 10000000) (fun ⟨k, x⟩ => l.length - k) ⟨0, c⟩ ⟨rfl, trivial⟩ ⟨rfl, trivial⟩ ?_ ?_
  · exact ⟨Nat.zero_le _, e0, (by first | omega | (simp; done) | (simp; omega))⟩
  rintro ⟨k, x⟩ ⟨hp3_1, hp3_2, hp3_3⟩
  refine go tv42 6 rfl rfl trivial ?_
  refine cnd rfl (fun h4 => ?_) (fun h4 => ?_)
  · have p5 := dt h4
    have e6 := lstep (f := fun zz => chans_Chan_Gone_l0 zz  x) hp3_2 (dropG (by omega)) (chans_Chan_Gone_l0.eq_2 _ _ _)
    have hc7 := getG (xs := l) (k := k) (by omega)
    refine go tv42 6 rfl rfl trivial ?_
    refine q1 (qidx tv42 k rfl rfl rfl hc7 rfl rfl rfl rfl) rfl fun w8 => ?_
    refine go tv42 1 rfl rfl trivial ?_
    refine ef (alloc tv42 2 rfl rfl rfl rfl fun b9 => ?_)
    refine ef (storeA tv42 rfl rfl rfl rfl rfl rfl rfl rfl rfl rfl ?_)
    refine go tv42 11 rfl rfl trivial ?_
    refine callv (idxP (fun y => decide ((⟨(gt l k).id, (gt l k).name⟩ : LentR) = y)) x.lent) (fun r : Int => .int .i64 r) (index_Lent _ (⟨(gt l k).id, (gt l k).name⟩ : LentR)) rfl rfl fun r hr10 w11 => ?_
    have e12 := e6.trans (lt_eq hr10)
    have hA12 := idxP_b (fun y => decide ((⟨(gt l k).id, (gt l k).name⟩ : LentR) = y)) x.lent
    (try rw [← hr10] at hA12)
    refine go tv42 14 rfl rfl ⟨(fun hc => hc), rfl, rfl, trivial⟩ ?_
    refine cnd rfl (fun h14 => ?_) (fun h14 => ?_)
    · have h15 := bl h14
      have p16 := dt h15
      have h17 := br h14
      have p18 := dt h17
      have e19 := e12.trans (condT h14)
      refine any [3, 4, 5, 6, 7, 8] 13 mixd rfl ?_
      refine gov tv42 [0, 1, 2] 10 rfl (by kernel_rfl) rfl rfl trivial ?_
      refine vq 3 (lshi tv42 (r).toNat rfl rfl rfl rfl rfl (fun _ => rfl) (by omega) (by omega)) rfl (by kernel_rfl) rfl fun w20 => ?_
      refine gov tv42 [4, 5, 6, 7] 5 rfl (by kernel_rfl) rfl rfl ⟨(by omega), trivial⟩ ?_
      refine vq 8 (lslo tv42 ((r + 1)).toNat rfl rfl rfl rfl rfl (fun _ => rfl) (by omega) (by omega)) rfl (by kernel_rfl) rfl fun w21 => ?_
      refine ve 9 rfl (by kernel_rfl) rfl (bsl 3 (slc LentR.pc) [(x.lent.take (r).toNat), (x.lent.drop ((r + 1)).toNat)] tv42 rfl rfl rfl rfl rfl (fun _ => rfl) rfl (by decide) (by decide) rfl fun u22 => ?_)
      refine ve 10 rfl (by kernel_rfl) rfl (egive 3 rfl (eweak (ecall (concat_Lent _ (by first | omega | (simp; done) | (simp; omega) | (simp only [List.flatten_cons, List.flatten_nil, List.length_append, List.append_nil]; simp; omega))) rfl rfl fun w23 => ?_)))
      refine gov tv42 [11] 1 rfl (by kernel_rfl) rfl rfl trivial ?_
      refine vt 12 rfl (by kernel_rfl) (by kernel_rfl) (store1 tv42 rfl rfl rfl rfl rfl rfl rfl rfl rfl ?_)
      refine vdone (by kernel_rfl) ?_
      refine go tv42 6 rfl rfl ⟨(by omega), trivial⟩ ?_
      refine next ⟨(k + 1), (⟨x.credit, x.takers, [(x.lent.take (r).toNat), (x.lent.drop ((r + 1)).toNat)].flatten, x.sure, x.drafts, x.puts, x.held⟩ : ChanR)⟩ rfl rfl ⟨rfl, trivial⟩ ⟨rfl, trivial⟩ ?_ ?_
      · (try simp only []); omega
      exact ⟨by (try simp only []); omega, e19, (by (try simp only [List.length_append, List.length_cons, List.length_nil, List.flatten_cons, List.flatten_nil, List.append_nil, List.length_take, List.length_drop]); omega)⟩
    have e24 := e12.trans (condF h14)
    refine go tv42 7 rfl rfl ⟨(by omega), trivial⟩ ?_
    refine next ⟨(k + 1), x⟩ rfl rfl ⟨rfl, trivial⟩ ⟨rfl, trivial⟩ ?_ ?_
    · (try simp only []); omega
    exact ⟨by (try simp only []); omega, e24, (by (try simp only [List.length_append, List.length_cons, List.length_nil, List.flatten_cons, List.flatten_nil, List.append_nil, List.length_take, List.length_drop]); omega)⟩
  have p25 := df h4
  have e26 := lstep (f := fun zz => chans_Chan_Gone_l0 zz  x) hp3_2 (dropN (by omega)) (chans_Chan_Gone_l0.eq_1 _)
  refine go tv42 8 rfl rfl trivial ?_
  refine ef (storeA tv42 rfl rfl rfl rfl rfl rfl rfl rfl rfl rfl ?_)
  refine go tv42 3 rfl rfl trivial ?_
  exact rt1 rfl rfl (ple_of (fun r : ChanR => .agg (ChanR.pc r)) e26 (ple rfl))
end Go.SW.V
set_option linter.unusedVariables false
set_option maxRecDepth 100000
set_option maxHeartbeats 4000000
namespace Go.SW.V
open Go.SW Go.Proofs
theorem cb151 : Callable Tryz.prog 151 := callable_of Tryz.func151 (by kernel_rfl) (by kernel_rfl)
theorem cb56 : Callable Tryz.prog 56 := callable_of Tryz.func56 (by kernel_rfl) (by kernel_rfl)
def tbv43 : Tb := [(4, ⟨.bool, 1, 1, [.bool false]⟩),
  (5, ⟨.int .u8, 1, 1, [.int .u8 0]⟩),
  (9, ⟨.str, 1, 16, [.str []]⟩),
  (27, ⟨.int .u64, 1, 8, [.int .u64 0]⟩),
  (30, ⟨.agg [(0, 1)], 1, 24, [.sl DeedR.pc []]⟩),
  (32, ⟨.agg [(0, 1), (1, 1), (2, 1), (3, 1), (4, 1), (5, 1), (6, 1)], 7, 96, [.int .i64 0, .sl TakerR.pc [], .sl LentR.pc [], .bool false, .bool false, .int .u64 0, .sl DeedR.pc []]⟩),
  (53, ⟨.agg [(0, 1), (1, 1), (2, 3), (5, 4), (9, 6), (15, 1), (16, 1), (17, 1), (18, 1), (19, 1), (20, 1), (21, 7), (28, 1)], 29, 344, [.int .u8 0, .int .u64 0, .str [], .int .u8 0, .str [], .str [], .int .u64 0, .int .u64 0, .str [], .str [], .str [], .bool false, .str [], .sl Pair.pc [], .bool false, .str [], .int .u64 0, .int .u8 0, .int .u8 0, .int .u8 0, .int .u64 0, .int .u64 0, .str [], .str [], .sl Pair.pc [], .str [], .int .u64 0, .int .u8 0, .str []]⟩),
  (56, ⟨.slc 126, 1, 24, [.sl LentR.pc []]⟩),
  (57, ⟨.slc 184, 1, 24, [.sl DeedR.pc []]⟩),
  (59, ⟨.agg [(0, 1), (1, 1), (2, 1), (3, 1), (4, 1), (5, 1), (6, 1)], 7, 96, [.int .i64 0, .sl TakerR.pc [], .sl LentR.pc [], .bool false, .bool false, .int .u64 0, .sl DeedR.pc []]⟩),
  (126, ⟨.agg [(0, 1), (1, 1)], 2, 24, [.int .u64 0, .str []]⟩),
  (184, ⟨.agg [(0, 1), (1, 1), (2, 3), (5, 4), (9, 6), (15, 1), (16, 1), (17, 1), (18, 1), (19, 1), (20, 1), (21, 7), (28, 1)], 29, 344, [.int .u8 0, .int .u64 0, .str [], .int .u8 0, .str [], .str [], .int .u64 0, .int .u64 0, .str [], .str [], .str [], .bool false, .str [], .sl Pair.pc [], .bool false, .str [], .int .u64 0, .int .u8 0, .int .u8 0, .int .u8 0, .int .u64 0, .int .u64 0, .str [], .str [], .sl Pair.pc [], .str [], .int .u64 0, .int .u8 0, .str []]⟩)]
theorem tv43 : tbB Tryz.prog tbv43 = true := by kernel_rfl
theorem chans_Chan_Hold_ok (c : ChanR) (l : List DeedR) (hx : c.held.l.length ≤ 1000) : Fn Tryz.prog gb 56 [.agg (ChanR.pc c), .sl DeedR.pc l] (.tup [.agg (ChanR.pc ((chans_Chan_Hold c l).1)), .int .i64 ((chans_Chan_Hold c l).2)]) := by
  refine fn_cw tv43 Tryz.func56 rfl Tryz.ntmps56 rfl cb56 rfl rfl fun w N H hG => ?_
  have c_takers_l : c.takers.length ≤ 140737488355328 := w.1.2.1.1
  have c_lent_l : c.lent.length ≤ 140737488355328 := w.1.2.2.1.1
  have c_held_l_l : c.held.l.length ≤ 140737488355328 := w.1.2.2.2.2.2.2.1.1
  have l_l : l.length ≤ 140737488355328 := w.2.1.1
  have e0 := chans_Chan_Hold.eq_1 c l
  refine go tv43 2 rfl rfl trivial ?_
  refine ef (boxA 0 rfl rfl rfl fun b1 => ?_)
  refine ef (alloc tv43 1 rfl rfl rfl rfl fun b2 => ?_)
  refine go tv43 11 rfl rfl trivial ?_
  refine cnd rfl (fun h3 => ?_) (fun h3 => ?_)
  · have h4 := not_t h3
    have e5 := e0.trans (condT h3)
    refine go tv43 3 rfl rfl trivial ?_
    refine ef (storeA tv43 rfl rfl rfl rfl rfl rfl rfl rfl rfl rfl ?_)
    refine go tv43 5 rfl rfl trivial ?_
    exact rt2 rfl rfl (ple_of (fun r : ChanR × Int => .tup [.agg (ChanR.pc r.1), .int .i64 r.2]) e5 (ple rfl))
  have h6 := not_f h3
  have e7 := e0.trans (condF h3)
  refine go tv43 7 rfl rfl trivial ?_
  refine callv (draft_Draft_Add c.held l) (fun r : DraftR × Int => .tup [.agg (DraftR.pc r.1), .int .i64 r.2]) (draft_Draft_Add_ok _ _ (by first | omega | (simp; omega) | decide +kernel)) rfl rfl fun r hr8 w9 => ?_
  have e10 := e7.trans (lt_eq hr8)
  have hA10 := add_dok c.held l
  (try rw [← hr8] at hA10)
  (try have hA10b := hA10 (by first | assumption | omega | exact dok_nil | (simp; done)))
  (try have hA10c := hA10b)
  (try obtain ⟨hA10d0, hA10d1, hA10d2⟩ := hA10c)
  refine go tv43 3 rfl rfl trivial ?_
  refine ef (alloc tv43 2 rfl rfl rfl rfl fun b12 => ?_)
  refine ef (storeA tv43 rfl rfl rfl rfl rfl rfl rfl rfl rfl rfl ?_)
  refine go tv43 7 rfl rfl trivial ?_
  refine ef (storeA tv43 rfl rfl rfl rfl rfl rfl rfl rfl rfl rfl ?_)
  refine go tv43 6 rfl rfl trivial ?_
  refine ef (storeA tv43 rfl rfl rfl rfl rfl rfl rfl rfl rfl rfl ?_)
  refine go tv43 4 rfl rfl trivial ?_
  exact rt2 rfl rfl (ple_of (fun r : ChanR × Int => .tup [.agg (ChanR.pc r.1), .int .i64 r.2]) e10 (ple rfl))
theorem chans_Chan_Held_ok (c : ChanR) (tick : Int) (hx : c.held.l.length ≤ 1000) (hh : ∀ d ∈ c.held.l, d.mail.head.length ≤ 1000000) : Fo Tryz.prog gb 151 [.agg (ChanR.pc c), .int .u64 tick] (fun u => .tup [.val u, .int .i64 ((chans_Chan_Held c tick).2)]) 29 53 DeedR.pc ((chans_Chan_Held c tick).1) := by
  refine fo_cw tv43 Tryz.func151 rfl Tryz.ntmps151 rfl cb151 (fun _ => rfl) rfl fun w N H hG => ?_
  have c_takers_l : c.takers.length ≤ 140737488355328 := w.1.2.1.1
  have c_lent_l : c.lent.length ≤ 140737488355328 := w.1.2.2.1.1
  have c_held_l_l : c.held.l.length ≤ 140737488355328 := w.1.2.2.2.2.2.2.1.1
  have tick_r : 0 ≤ tick ∧ tick ≤ 18446744073709551615 := w.2.1
  have e0 := chans_Chan_Held.eq_1 c tick
  refine go tv43 2 rfl rfl trivial ?_
  refine ef (boxA 0 rfl rfl rfl fun b1 => ?_)
  refine go tv43 12 rfl rfl trivial ?_
  refine cnd rfl (fun h2 => ?_) (fun h2 => ?_)
  · have h3 := not_t h2
    have e4 := e0.trans (condT h2)
    refine go tv43 6 rfl rfl trivial ?_
    refine sw_own (t := 4) (k := 29) (e := 53) 1 DeedR.pc rfl rfl ?_
    refine sw_val (t := 4) (i := 1) rfl rfl ?_
    refine go tv43 2 rfl rfl trivial ?_
    refine roN (j := 1) (.slice none 0 0) rfl rfl rfl rfl ?_ ?_
    · exact (congrArg (fun r : (List DeedR) × Int => r.1) e4).symm
    exact ple_of (fun r : (List DeedR) × Int => .tup [.val (.slice none 0 0), .int .i64 r.2]) e4 (ple rfl)
  have h5 := not_f h2
  have e6 := e0.trans (condF h2)
  refine go tv43 7 rfl rfl trivial ?_
  refine ef (ecallo 1 (draft_Draft_At_ok _ _ (by first | omega | (simp; omega) | decide +kernel) (by assumption)) rfl rfl ?_)
  generalize hr9 : draft_Draft_At c.held tick = r
  intro u8 w7
  have e10 := e6.trans (lt_eq hr9.symm)
  have hr9 := hr9.symm
  have hA10 := at_len c.held tick
  (try rw [← hr9] at hA10)
  refine go tv43 4 rfl rfl trivial ?_
  refine go tv43 1 rfl rfl trivial ?_
  refine roN (j := 1) u8 rfl rfl rfl rfl ?_ ?_
  · exact (congrArg (fun r : (List DeedR) × Int => r.1) e10).symm
  exact ple_of (fun r : (List DeedR) × Int => .tup [.val u8, .int .i64 r.2]) e10 (ple rfl)
end Go.SW.V
set_option linter.unusedVariables false
set_option maxRecDepth 100000
set_option maxHeartbeats 4000000
namespace Go.SW.V
open Go.SW Go.Proofs
theorem cb133 : Callable Tryz.prog 133 := callable_of Tryz.func133 (by kernel_rfl) (by kernel_rfl)
theorem cb174 : Callable Tryz.prog 174 := callable_of Tryz.func174 (by kernel_rfl) (by kernel_rfl)
theorem cb214 : Callable Tryz.prog 214 := callable_of Tryz.func214 (by kernel_rfl) (by kernel_rfl)
theorem cb241 : Callable Tryz.prog 241 := callable_of Tryz.func241 (by kernel_rfl) (by kernel_rfl)
theorem cb37 : Callable Tryz.prog 37 := callable_of Tryz.func37 (by kernel_rfl) (by kernel_rfl)
theorem cb64 : Callable Tryz.prog 64 := callable_of Tryz.func64 (by kernel_rfl) (by kernel_rfl)
theorem cb7 : Callable Tryz.prog 7 := callable_of Tryz.func7 (by kernel_rfl) (by kernel_rfl)
theorem cb91 : Callable Tryz.prog 91 := callable_of Tryz.func91 (by kernel_rfl) (by kernel_rfl)
def tbv47 : Tb := [(9, ⟨.str, 1, 16, [.str []]⟩),
  (32, ⟨.agg [(0, 1), (1, 1), (2, 1), (3, 1), (4, 1), (5, 1), (6, 1)], 7, 96, [.int .i64 0, .sl TakerR.pc [], .sl LentR.pc [], .bool false, .bool false, .int .u64 0, .sl DeedR.pc []]⟩),
  (39, ⟨.agg [(0, 1), (1, 1)], 2, 24, [.int .u64 0, .str []]⟩),
  (44, ⟨.agg [(0, 1), (1, 1), (2, 1)], 3, 40, [.str [], .int .u8 0, .str []]⟩),
  (49, ⟨.agg [(0, 1), (1, 1), (2, 1), (3, 1), (4, 1), (5, 1)], 6, 88, [.str [], .str [], .bool false, .str [], .sl Pair.pc [], .bool false]⟩),
  (53, ⟨.agg [(0, 1), (1, 1), (2, 3), (5, 4), (9, 6), (15, 1), (16, 1), (17, 1), (18, 1), (19, 1), (20, 1), (21, 7), (28, 1)], 29, 344, [.int .u8 0, .int .u64 0, .str [], .int .u8 0, .str [], .str [], .int .u64 0, .int .u64 0, .str [], .str [], .str [], .bool false, .str [], .sl Pair.pc [], .bool false, .str [], .int .u64 0, .int .u8 0, .int .u8 0, .int .u8 0, .int .u64 0, .int .u64 0, .str [], .str [], .sl Pair.pc [], .str [], .int .u64 0, .int .u8 0, .str []]⟩),
  (200, ⟨.slc 9, 1, 24, [.sl strc []]⟩),
  (342, ⟨.agg [(0, 1), (1, 1)], 2, 48, [.sl ShopR.pc [], .sl BindR.pc []]⟩)]
theorem tv47 : tbB Tryz.prog tbv47 = true := by kernel_rfl
theorem l14_awake : Fn Tryz.prog gb 241 [] (.bool true) := by
  refine fn_cw tv47 Tryz.func241 rfl Tryz.ntmps241 rfl cb241 rfl rfl fun w N H hG => ?_
  refine go tv47 9 rfl rfl trivial ?_
  refine call (route_Book_Make_ok (⟨[], []⟩ : BookR) (⟨[97], 1, []⟩ : ShopR) (by first | omega | (simp; omega) | decide +kernel)) rfl rfl fun w1 => ?_
  refine go tv47 3 rfl rfl trivial ?_
  refine ef (alloc tv47 0 rfl rfl rfl rfl fun b2 => ?_)
  refine ef (storeA tv47 rfl rfl rfl rfl rfl rfl rfl rfl rfl rfl ?_)
  refine go tv47 7 rfl rfl trivial ?_
  refine call (route_Book_Bind_ok _ (⟨[97], [113], false, [], [], false⟩ : BindR) (by first | omega | (simp; omega) | decide +kernel) (by first | omega | (simp; omega) | decide +kernel)) rfl rfl fun w3 => ?_
  refine go tv47 3 rfl rfl trivial ?_
  refine ef (storeA tv47 rfl rfl rfl rfl rfl rfl rfl rfl rfl rfl ?_)
  refine go tv47 6 rfl rfl trivial ?_
  refine call (route_Book_Bind_ok _ (⟨[97], [113], false, [120], [], false⟩ : BindR) (by first | omega | (simp; omega) | decide +kernel) (by first | omega | (simp; omega) | decide +kernel)) rfl rfl fun w4 => ?_
  refine go tv47 3 rfl rfl trivial ?_
  refine ef (storeA tv47 rfl rfl rfl rfl rfl rfl rfl rfl rfl rfl ?_)
  refine go tv47 6 rfl rfl trivial ?_
  refine call (Fn.le (route_Book_Leads_ok _ _ _ [] (by first | omega | (simp; omega) | decide +kernel) (by first | omega | (simp; omega) | decide +kernel) (by first | assumption | decide +kernel)) (ples_cons (ple rfl) (ples_cons (ple rfl) (ples_cons (ple rfl) (ples_cons ple_nil ples_nil)))) (ple rfl) rfl) rfl rfl fun w5 => ?_
  refine go tv47 11 rfl rfl trivial ?_
  refine call l04_Awake rfl rfl fun w6 => ?_
  refine go tv47 1 rfl rfl trivial ?_
  refine ungd rfl rfl ?_
  refine call l10_Awake rfl rfl fun w7 => ?_
  refine go tv47 2 rfl rfl trivial ?_
  refine ungd rfl rfl ?_
  refine go tv47 1 rfl rfl trivial ?_
  refine ungd rfl rfl ?_
  refine go tv47 1 rfl rfl trivial ?_
  refine so_rt (t := 37) (p' := .bool true) (ple (congrArg PV.bool (show decide (((route_Book_Bind ((route_Book_Bind ((route_Book_Make (⟨[], []⟩ : BookR) (⟨[97], 1, []⟩ : ShopR)).1) (⟨[97], [113], false, [], [], false⟩ : BindR)).1) (⟨[97], [113], false, [120], [], false⟩ : BindR)).2) = 0) = true by decide +kernel))) rfl ?_
  refine go tv47 2 rfl rfl trivial ?_
  refine ungd rfl rfl ?_
  refine go tv47 1 rfl rfl trivial ?_
  refine ungd rfl rfl ?_
  refine go tv47 1 rfl rfl trivial ?_
  refine so_rt (t := 41) (p' := .bool true) (ple (congrArg PV.bool (show decide (((route_Book_Leads ((route_Book_Bind ((route_Book_Bind ((route_Book_Make (⟨[], []⟩ : BookR) (⟨[97], 1, []⟩ : ShopR)).1) (⟨[97], [113], false, [], [], false⟩ : BindR)).1) (⟨[97], [113], false, [120], [], false⟩ : BindR)).1) [97] [] []).2.2) = 0) = true by decide +kernel))) rfl ?_
  refine go tv47 2 rfl rfl trivial ?_
  refine ungd rfl rfl ?_
  refine go tv47 1 rfl rfl trivial ?_
  refine ungd rfl rfl ?_
  refine ef (bsl 1 strc [[113]] tv47 rfl rfl rfl rfl rfl (fun _ => rfl) rfl (by decide) (by decide) rfl fun u8 => ?_)
  refine ungd rfl rfl ?_
  refine ef (calll 1 rfl (eq_Str _ _) rfl rfl rfl fun w9 => ?_)
  refine so_rt (t := 46) (p' := .bool true) (ple (congrArg PV.bool (show decide (((route_Book_Leads ((route_Book_Bind ((route_Book_Bind ((route_Book_Make (⟨[], []⟩ : BookR) (⟨[97], 1, []⟩ : ShopR)).1) (⟨[97], [113], false, [], [], false⟩ : BindR)).1) (⟨[97], [113], false, [120], [], false⟩ : BindR)).1) [97] [] []).1) = [[113]]) = true by decide +kernel))) rfl ?_
  refine go tv47 2 rfl rfl trivial ?_
  refine ungd rfl rfl ?_
  refine go tv47 1 rfl rfl trivial ?_
  refine ungd rfl rfl ?_
  refine go tv47 1 rfl rfl trivial ?_
  refine ungd rfl rfl ?_
  refine go tv47 1 rfl rfl trivial ?_
  refine so_rt (t := 51) (p' := .bool true) (ple (congrArg PV.bool (show decide ((((route_Book_Leads ((route_Book_Bind ((route_Book_Bind ((route_Book_Make (⟨[], []⟩ : BookR) (⟨[97], 1, []⟩ : ShopR)).1) (⟨[97], [113], false, [], [], false⟩ : BindR)).1) (⟨[97], [113], false, [120], [], false⟩ : BindR)).1) [97] [] []).2.1).length : Int) = 0) = true by decide +kernel))) rfl ?_
  refine go tv47 5 rfl rfl trivial ?_
  refine rt1 rfl rfl ?_
  refine ple ?_
  exact congrArg PV.bool (by first | rfl | decide +kernel)
theorem l14_Awake : Fn Tryz.prog gb 214 [] (.bool true) := by
  refine fn_cw tv47 Tryz.func214 rfl Tryz.ntmps214 rfl cb214 rfl rfl fun w N H hG => ?_
  refine go tv47 7 rfl rfl trivial ?_
  refine call l14_awake rfl rfl fun w1 => ?_
  refine go tv47 4 rfl rfl trivial ?_
  refine rt1 rfl rfl ?_
  refine ple ?_
  rfl
theorem l22_awake : Fn Tryz.prog gb 174 [] (.bool true) := by
  refine fn_cw tv47 Tryz.func174 rfl Tryz.ntmps174 rfl cb174 rfl rfl fun w N H hG => ?_
  refine go tv47 8 rfl rfl trivial ?_
  refine call (deed_Bytes (⟨11, 1, (⟨[], 0, []⟩ : ShopR), (⟨[], 0, 0, []⟩ : QueueR), (⟨[], [], false, [], [], false⟩ : BindR), [], 0, 0, 0, 0, 0, (⟨0, [], [], [], [], 0, 0⟩ : Mail), []⟩ : DeedR)) rfl rfl fun w1 => ?_
  have := deedBytes_len (d := (⟨11, 1, (⟨[], 0, []⟩ : ShopR), (⟨[], 0, 0, []⟩ : QueueR), (⟨[], [], false, [], [], false⟩ : BindR), [], 0, 0, 0, 0, 0, (⟨0, [], [], [], [], 0, 0⟩ : Mail), []⟩ : DeedR)) (by first | omega | decide)
  have := deedE_r (⟨11, 1, (⟨[], 0, []⟩ : ShopR), (⟨[], 0, 0, []⟩ : QueueR), (⟨[], [], false, [], [], false⟩ : BindR), [], 0, 0, 0, 0, 0, (⟨0, [], [], [], [], 0, 0⟩ : Mail), []⟩ : DeedR)
  refine go tv47 9 rfl rfl trivial ?_
  refine call l13_Awake rfl rfl fun w2 => ?_
  refine go tv47 1 rfl rfl trivial ?_
  refine ungd rfl rfl ?_
  refine call l14_Awake rfl rfl fun w3 => ?_
  refine go tv47 2 rfl rfl trivial ?_
  refine ungd rfl rfl ?_
  refine go tv47 1 rfl rfl trivial ?_
  refine ungd rfl rfl ?_
  refine go tv47 1 rfl rfl trivial ?_
  refine so_rt (t := 14) (p' := .bool true) (ple (congrArg PV.bool (show decide ((deedE (⟨11, 1, (⟨[], 0, []⟩ : ShopR), (⟨[], 0, 0, []⟩ : QueueR), (⟨[], [], false, [], [], false⟩ : BindR), [], 0, 0, 0, 0, 0, (⟨0, [], [], [], [], 0, 0⟩ : Mail), []⟩ : DeedR)) = 0) = true by decide +kernel))) rfl ?_
  refine go tv47 2 rfl rfl trivial ?_
  refine ungd rfl rfl ?_
  refine go tv47 1 rfl rfl trivial ?_
  refine ungd rfl rfl ?_
  refine go tv47 1 rfl rfl trivial ?_
  refine ungd rfl rfl ?_
  refine go tv47 1 rfl rfl trivial ?_
  refine so_rt (t := 19) (p' := .bool true) (ple (congrArg PV.bool (show decide (((deedBytes (⟨11, 1, (⟨[], 0, []⟩ : ShopR), (⟨[], 0, 0, []⟩ : QueueR), (⟨[], [], false, [], [], false⟩ : BindR), [], 0, 0, 0, 0, 0, (⟨0, [], [], [], [], 0, 0⟩ : Mail), []⟩ : DeedR)).length : Int) = 9) = true by decide +kernel))) rfl ?_
  refine go tv47 5 rfl rfl trivial ?_
  refine rt1 rfl rfl ?_
  refine ple ?_
  exact congrArg PV.bool (by first | rfl | decide +kernel)
theorem l22_Awake : Fn Tryz.prog gb 133 [] (.bool true) := by
  refine fn_cw tv47 Tryz.func133 rfl Tryz.ntmps133 rfl cb133 rfl rfl fun w N H hG => ?_
  refine go tv47 7 rfl rfl trivial ?_
  refine call l22_awake rfl rfl fun w1 => ?_
  refine go tv47 4 rfl rfl trivial ?_
  refine rt1 rfl rfl ?_
  refine ple ?_
  rfl
theorem l26_awake : Fn Tryz.prog gb 91 [] (.bool true) := by
  refine fn_cw tv47 Tryz.func91 rfl Tryz.ntmps91 rfl cb91 rfl rfl fun w N H hG => ?_
  refine go tv47 7 rfl rfl trivial ?_
  refine call l22_Awake rfl rfl fun w1 => ?_
  refine go tv47 1 rfl rfl trivial ?_
  refine ungd rfl rfl ?_
  refine call (draft_Life _ _) rfl rfl fun w2 => ?_
  refine ungd rfl rfl ?_
  refine go tv47 1 rfl rfl trivial ?_
  refine so_rt (t := 4) (p' := .bool true) (ple (congrArg PV.bool (show decide ((lifeN 3 4) = 7) = true by decide +kernel))) rfl ?_
  refine go tv47 2 rfl rfl trivial ?_
  refine ungd rfl rfl ?_
  refine call (draft_Life _ _) rfl rfl fun w3 => ?_
  refine ungd rfl rfl ?_
  refine go tv47 1 rfl rfl trivial ?_
  refine so_rt (t := 8) (p' := .bool true) (ple (congrArg PV.bool (show decide ((lifeN 18446744073709551615 1) = 0) = true by decide +kernel))) rfl ?_
  refine go tv47 5 rfl rfl trivial ?_
  refine rt1 rfl rfl ?_
  refine ple ?_
  exact congrArg PV.bool (by first | rfl | decide +kernel)
theorem l26_Awake : Fn Tryz.prog gb 37 [] (.bool true) := by
  refine fn_cw tv47 Tryz.func37 rfl Tryz.ntmps37 rfl cb37 rfl rfl fun w N H hG => ?_
  refine go tv47 7 rfl rfl trivial ?_
  refine call l26_awake rfl rfl fun w1 => ?_
  refine go tv47 4 rfl rfl trivial ?_
  refine rt1 rfl rfl ?_
  refine ple ?_
  rfl
theorem l27_awake : Fn Tryz.prog gb 7 [] (.bool true) := by
  refine fn_cw tv47 Tryz.func7 rfl Tryz.ntmps7 rfl cb7 rfl rfl fun w N H hG => ?_
  refine go tv47 7 rfl rfl trivial ?_
  refine call chans_New_ok rfl rfl fun w1 => ?_
  refine call (chans_Chan_Credit_ok _ _) rfl rfl fun w2 => ?_
  refine go tv47 3 rfl rfl trivial ?_
  refine ef (alloc tv47 0 rfl rfl rfl rfl fun b3 => ?_)
  refine ef (storeA tv47 rfl rfl rfl rfl rfl rfl rfl rfl rfl rfl ?_)
  refine go tv47 5 rfl rfl trivial ?_
  refine call l26_Awake rfl rfl fun w4 => ?_
  refine go tv47 1 rfl rfl trivial ?_
  refine ungd rfl rfl ?_
  refine go tv47 1 rfl rfl trivial ?_
  refine ungd rfl rfl ?_
  refine go tv47 1 rfl rfl trivial ?_
  refine so_rt (t := 11) (p' := .bool true) (ple (congrArg PV.bool (show decide (((chans_Chan_Credit (chans_New) 1).2) = 0) = true by decide +kernel))) rfl ?_
  refine go tv47 2 rfl rfl trivial ?_
  refine ungd rfl rfl ?_
  refine go tv47 1 rfl rfl trivial ?_
  refine ungd rfl rfl ?_
  refine call (chans_Chan_Room_ok _ (by first | omega | (simp; omega) | decide +kernel)) rfl rfl fun w5 => ?_
  refine ungd rfl rfl ?_
  refine go tv47 1 rfl rfl trivial ?_
  refine so_rt (t := 16) (p' := .bool true) (ple (congrArg PV.bool (show decide ((chans_Chan_Room ((chans_Chan_Credit (chans_New) 1).1)) = 1) = true by decide +kernel))) rfl ?_
  refine go tv47 2 rfl rfl trivial ?_
  refine ungd rfl rfl ?_
  refine go tv47 1 rfl rfl trivial ?_
  refine ungd rfl rfl ?_
  refine go tv47 1 rfl rfl trivial ?_
  refine ungd rfl rfl ?_
  refine call (chans_Chan_Lend_ok _ (⟨1, [113]⟩ : LentR) (by first | omega | (simp; omega) | decide +kernel)) rfl rfl fun w6 => ?_
  refine ungd rfl rfl ?_
  refine call (chans_Chan_Room_ok _ (by first | omega | (simp; omega) | decide +kernel)) rfl rfl fun w7 => ?_
  refine ungd rfl rfl ?_
  refine go tv47 1 rfl rfl trivial ?_
  refine so_rt (t := 23) (p' := .bool true) (ple (congrArg PV.bool (show decide ((chans_Chan_Room (chans_Chan_Lend ((chans_Chan_Credit (chans_New) 1).1) (⟨1, [113]⟩ : LentR))) = 0) = true by decide +kernel))) rfl ?_
  refine go tv47 5 rfl rfl trivial ?_
  refine rt1 rfl rfl ?_
  refine ple ?_
  exact congrArg PV.bool (by first | rfl | decide +kernel)
theorem l27_Awake : Fn Tryz.prog gb 64 [] (.bool true) := by
  refine fn_cw tv47 Tryz.func64 rfl Tryz.ntmps64 rfl cb64 rfl rfl fun w N H hG => ?_
  refine go tv47 7 rfl rfl trivial ?_
  refine call l27_awake rfl rfl fun w1 => ?_
  refine go tv47 4 rfl rfl trivial ?_
  refine rt1 rfl rfl ?_
  refine ple ?_
  rfl
end Go.SW.V
set_option linter.unusedVariables false
set_option maxRecDepth 100000
set_option maxHeartbeats 4000000
namespace Go.SW.V
open Go.SW Go.Proofs
end Go.SW.V
set_option linter.unusedVariables false
set_option maxRecDepth 100000
set_option maxHeartbeats 4000000
namespace Go.SW.V
open Go.SW Go.Proofs
theorem cb160 : Callable Tryz.prog 160 := callable_of Tryz.func160 (by kernel_rfl) (by kernel_rfl)
theorem cb197 : Callable Tryz.prog 197 := callable_of Tryz.func197 (by kernel_rfl) (by kernel_rfl)
theorem cb231 : Callable Tryz.prog 231 := callable_of Tryz.func231 (by kernel_rfl) (by kernel_rfl)
theorem cb66 : Callable Tryz.prog 66 := callable_of Tryz.func66 (by kernel_rfl) (by kernel_rfl)
theorem sz9 : Sz Tryz.prog 9 1 := fun w => by kernel_rfl
def tbv60 : Tb := [(4, ⟨.bool, 1, 1, [.bool false]⟩),
  (5, ⟨.int .u8, 1, 1, [.int .u8 0]⟩),
  (9, ⟨.str, 1, 16, [.str []]⟩),
  (27, ⟨.int .u64, 1, 8, [.int .u64 0]⟩),
  (47, ⟨.slc 199, 1, 24, [.sl Pair.pc []]⟩),
  (64, ⟨.agg [(0, 1), (1, 1), (2, 1), (3, 1), (4, 1), (5, 1), (6, 1), (7, 1), (8, 1), (9, 1)], 10, 120, [.int .u8 0, .int .u8 0, .str [], .str [], .str [], .sl Pair.pc [], .str [], .int .u64 0, .int .u64 0, .bool false]⟩),
  (67, ⟨.agg [(0, 1), (1, 1), (2, 1), (3, 1), (4, 1), (5, 1), (6, 1), (7, 1), (8, 1), (9, 1)], 10, 120, [.int .u8 0, .int .u8 0, .str [], .str [], .str [], .sl Pair.pc [], .str [], .int .u64 0, .int .u64 0, .bool false]⟩),
  (140, ⟨.agg [(0, 1), (1, 1), (2, 1), (3, 1), (4, 1), (5, 1), (6, 1), (7, 1), (8, 1), (9, 1)], 10, 10, [.bool false, .bool false, .bool false, .bool false, .bool false, .bool false, .bool false, .bool false, .bool false, .bool false]⟩)]
theorem tv60 : tbB Tryz.prog tbv60 = true := by kernel_rfl
theorem strings_ContainsAny (s cs : Bs) (hs : s.length < 4294967281) (hc : cs.length < 4294967281) (ha : ∀ c ∈ s, c.toNat < 128) (hb : ∀ c ∈ cs, c.toNat < 128) : Fn Tryz.prog gb 231 [.str s, .str cs] (.bool (hasAny s cs)) :=
  fn_of_pr (vs := [str s, str cs]) (v := .bool (hasAny s cs)) cb231 rfl rfl
    (fun w H => Sims.cons (Sim.str w.1) (Sims.cons (Sim.str w.2.1) Sims.nil))
    (fun w H => Sim.bool)
    (fun w H hG => SW.strings_ContainsAny H s cs hs hc ha hb)
theorem method_Method_tells_ok (m : Method) (letters : Bs) (hk : m.kind ≤ 20) (hll : letters.length < 4294967281) (hlp : ∀ c ∈ letters, c.toNat < 128) : Fn Tryz.prog gb 197 [.agg (Method.pc m), .str letters] (.bool (method_Method_tells m letters)) := by
  refine fn_cw tv60 Tryz.func197 rfl Tryz.ntmps197 rfl cb197 rfl rfl fun w N H hG => ?_
  have m_channel_r : 0 ≤ m.channel ∧ m.channel ≤ 255 := w.1.1
  have m_kind_r : 0 ≤ m.kind ∧ m.kind ≤ 255 := w.1.2.1
  have m_name_l : m.name.length ≤ 9223372036854775807 := w.1.2.2.1
  have m_other_l : m.other.length ≤ 9223372036854775807 := w.1.2.2.2.1
  have m_key_l : m.key.length ≤ 9223372036854775807 := w.1.2.2.2.2.1
  have m_head_l : m.head.length ≤ 140737488355328 := w.1.2.2.2.2.2.1.1
  have m_body_l : m.body.length ≤ 9223372036854775807 := w.1.2.2.2.2.2.2.1
  have m_n_r : 0 ≤ m.n ∧ m.n ≤ 18446744073709551615 := w.1.2.2.2.2.2.2.2.1
  have m_m_r : 0 ≤ m.m ∧ m.m ≤ 18446744073709551615 := w.1.2.2.2.2.2.2.2.2.1
  have letters_l : letters.length ≤ 9223372036854775807 := w.2.1
  have e0 := method_Method_tells.eq_1 m letters
  refine go tv60 2 rfl rfl trivial ?_
  refine ef (boxA 0 rfl rfl rfl fun b1 => ?_)
  refine go tv60 7 rfl rfl trivial ?_
  refine q1 (qgstr (m := (m.kind).toNat) tellsT (by decide) (fun _ h => gbTells h) rfl Tryz.underlying219 sz9 (by omega) (by omega) rfl) rfl fun w2 => ?_
  refine go tv60 2 rfl rfl trivial ?_
  refine call (strings_ContainsAny _ _ (Nat.lt_of_le_of_lt (tells_len _) (by decide)) (by assumption) (tells_plain _) (by assumption)) rfl rfl fun w3 => ?_
  refine go tv60 4 rfl rfl trivial ?_
  exact rt1 rfl rfl (ple_of (fun r : Bool => .bool r) e0 (ple rfl))
theorem method_Method_spare_ok (m : Method) (hk : m.kind ≤ 20) : Fn Tryz.prog gb 160 [.agg (Method.pc m)] (.bool (method_Method_spare m)) := by
  refine fn_cw tv60 Tryz.func160 rfl Tryz.ntmps160 rfl cb160 rfl rfl fun w N H hG => ?_
  have m_channel_r : 0 ≤ m.channel ∧ m.channel ≤ 255 := w.1.1
  have m_kind_r : 0 ≤ m.kind ∧ m.kind ≤ 255 := w.1.2.1
  have m_name_l : m.name.length ≤ 9223372036854775807 := w.1.2.2.1
  have m_other_l : m.other.length ≤ 9223372036854775807 := w.1.2.2.2.1
  have m_key_l : m.key.length ≤ 9223372036854775807 := w.1.2.2.2.2.1
  have m_head_l : m.head.length ≤ 140737488355328 := w.1.2.2.2.2.2.1.1
  have m_body_l : m.body.length ≤ 9223372036854775807 := w.1.2.2.2.2.2.2.1
  have m_n_r : 0 ≤ m.n ∧ m.n ≤ 18446744073709551615 := w.1.2.2.2.2.2.2.2.1
  have m_m_r : 0 ≤ m.m ∧ m.m ≤ 18446744073709551615 := w.1.2.2.2.2.2.2.2.2.1
  have e0 := method_Method_spare.eq_1 m
  refine go tv60 2 rfl rfl trivial ?_
  refine ef (boxA 0 rfl rfl rfl fun b1 => ?_)
  refine go tv60 19 rfl rfl trivial ?_
  refine callg rfl (fun hc => (method_Method_tells_ok _ _ (by omega) (by decide) (by decide))) rfl ⟨(fun hc => hc), trivial⟩ rfl rfl fun _ => ?_
  refine go tv60 5 rfl rfl ⟨(fun hc => hc), rfl, rfl, trivial⟩ ?_
  refine cnd rfl (fun h2 => ?_) (fun h2 => ?_)
  · have h3 := bl h2
    have h4 := not_t h3
    have p5 := df h4
    have h6 := br h2
    have h7 := not_t h6
    have e8 := e0.trans (condT h2)
    refine go tv60 2 rfl rfl trivial ?_
    refine cndT rfl h2 ?_
    refine go tv60 17 rfl rfl trivial ?_
    exact rt1 rfl rfl (ple_of (fun r : Bool => .bool r) e8 (ple rfl))
  have e9 := e0.trans (condF h2)
  refine go tv60 7 rfl rfl trivial ?_
  refine callg rfl (fun hc => (method_Method_tells_ok _ _ (by omega) (by decide) (by decide))) rfl ⟨(fun hc => hc), trivial⟩ rfl rfl fun _ => ?_
  refine go tv60 5 rfl rfl ⟨(fun hc => hc), rfl, rfl, trivial⟩ ?_
  refine cnd rfl (fun h10 => ?_) (fun h10 => ?_)
  · have h11 := bl h10
    have h12 := not_t h11
    have p13 := df h12
    have h14 := br h10
    have h15 := not_t h14
    have e16 := e9.trans (condT h10)
    refine go tv60 2 rfl rfl trivial ?_
    refine cndT rfl h10 ?_
    refine go tv60 17 rfl rfl trivial ?_
    exact rt1 rfl rfl (ple_of (fun r : Bool => .bool r) e16 (ple rfl))
  have e17 := e9.trans (condF h10)
  refine go tv60 6 rfl rfl trivial ?_
  refine callg rfl (fun hc => (method_Method_tells_ok _ _ (by omega) (by decide) (by decide))) rfl ⟨(fun hc => hc), trivial⟩ rfl rfl fun _ => ?_
  refine go tv60 5 rfl rfl ⟨(fun hc => hc), rfl, rfl, trivial⟩ ?_
  refine cnd rfl (fun h18 => ?_) (fun h18 => ?_)
  · have h19 := bl h18
    have h20 := not_t h19
    have p21 := df h20
    have h22 := br h18
    have h23 := not_t h22
    have e24 := e17.trans (condT h18)
    refine go tv60 17 rfl rfl trivial ?_
    exact rt1 rfl rfl (ple_of (fun r : Bool => .bool r) e24 (ple rfl))
  have e25 := e17.trans (condF h18)
  refine go tv60 12 rfl rfl trivial ?_
  refine callg rfl (fun hc => (method_Method_tells_ok _ _ (by omega) (by decide) (by decide))) rfl ⟨(fun hc => hc), trivial⟩ rfl rfl fun _ => ?_
  refine go tv60 5 rfl rfl ⟨(fun hc => hc), rfl, rfl, trivial⟩ ?_
  refine cnd rfl (fun h26 => ?_) (fun h26 => ?_)
  · have h27 := bl h26
    have p28 := dt h27
    have h29 := br h26
    have h30 := not_t h29
    have e31 := e25.trans (condT h26)
    refine go tv60 2 rfl rfl trivial ?_
    refine cndT rfl h26 ?_
    refine go tv60 17 rfl rfl trivial ?_
    exact rt1 rfl rfl (ple_of (fun r : Bool => .bool r) e31 (ple rfl))
  have e32 := e25.trans (condF h26)
  refine go tv60 6 rfl rfl trivial ?_
  refine callg rfl (fun hc => (method_Method_tells_ok _ _ (by omega) (by decide) (by decide))) rfl ⟨(fun hc => hc), trivial⟩ rfl rfl fun _ => ?_
  refine go tv60 5 rfl rfl ⟨(fun hc => hc), rfl, rfl, trivial⟩ ?_
  refine cnd rfl (fun h33 => ?_) (fun h33 => ?_)
  · have h34 := bl h33
    have h35 := not_t h34
    have p36 := df h35
    have h37 := br h33
    have h38 := not_t h37
    have e39 := e32.trans (condT h33)
    refine go tv60 17 rfl rfl trivial ?_
    exact rt1 rfl rfl (ple_of (fun r : Bool => .bool r) e39 (ple rfl))
  have e40 := e32.trans (condF h33)
  refine go tv60 10 rfl rfl trivial ?_
  refine callg rfl (fun hc => (method_Method_tells_ok _ _ (by omega) (by decide) (by decide))) rfl ⟨(fun hc => hc), trivial⟩ rfl rfl fun _ => ?_
  refine go tv60 5 rfl rfl ⟨(fun hc => hc), rfl, rfl, trivial⟩ ?_
  refine cnd rfl (fun h41 => ?_) (fun h41 => ?_)
  · have h42 := bl h41
    have h43 := not_t h42
    have p44 := df h43
    have h45 := br h41
    have h46 := not_t h45
    have e47 := e40.trans (condT h41)
    refine go tv60 2 rfl rfl trivial ?_
    refine cndT rfl h41 ?_
    refine go tv60 16 rfl rfl trivial ?_
    exact rt1 rfl rfl (ple_of (fun r : Bool => .bool r) e47 (ple rfl))
  have e48 := e40.trans (condF h41)
  refine go tv60 7 rfl rfl trivial ?_
  refine callg rfl (fun hc => (method_Method_tells_ok _ _ (by omega) (by decide) (by decide))) rfl ⟨(fun hc => hc), trivial⟩ rfl rfl fun _ => ?_
  refine go tv60 5 rfl rfl ⟨(fun hc => hc), rfl, rfl, trivial⟩ ?_
  refine cnd rfl (fun h49 => ?_) (fun h49 => ?_)
  · have h50 := bl h49
    have h51 := not_t h50
    have p52 := df h51
    have h53 := br h49
    have h54 := not_t h53
    have e55 := e48.trans (condT h49)
    refine go tv60 2 rfl rfl trivial ?_
    refine cndT rfl h49 ?_
    refine go tv60 16 rfl rfl trivial ?_
    exact rt1 rfl rfl (ple_of (fun r : Bool => .bool r) e55 (ple rfl))
  have e56 := e48.trans (condF h49)
  refine go tv60 5 rfl rfl trivial ?_
  refine callg rfl (fun hc => (method_Method_tells_ok _ _ (by omega) (by decide) (by decide))) rfl ⟨(fun hc => hc), trivial⟩ rfl rfl fun _ => ?_
  refine go tv60 5 rfl rfl ⟨(fun hc => hc), rfl, rfl, trivial⟩ ?_
  refine cnd rfl (fun h57 => ?_) (fun h57 => ?_)
  · have h58 := bl h57
    have h59 := br h57
    have h60 := not_t h59
    have e61 := e56.trans (condT h57)
    refine go tv60 16 rfl rfl trivial ?_
    exact rt1 rfl rfl (ple_of (fun r : Bool => .bool r) e61 (ple rfl))
  have e62 := e56.trans (condF h57)
  refine go tv60 15 rfl rfl trivial ?_
  exact rt1 rfl rfl (ple_of (fun r : Bool => .bool r) e62 (ple rfl))
theorem r11_Of_ok (kind : Int) : Fn Tryz.prog gb 66 [.int .u8 kind] (.agg (HasR.pc (r11_Of kind))) := by
  refine fn_cw tv60 Tryz.func66 rfl Tryz.ntmps66 rfl cb66 rfl rfl fun w N H hG => ?_
  have kind_r : 0 ≤ kind ∧ kind ≤ 255 := w.1
  have e0 := r11_Of.eq_1 kind
  refine go tv60 2 rfl rfl trivial ?_
  refine ef (alloc tv60 0 rfl rfl rfl rfl fun b1 => ?_)
  refine go tv60 17 rfl rfl ⟨(fun hc => hc), rfl, rfl, (fun hc => hc), rfl, rfl, trivial⟩ ?_
  refine cnd rfl (fun h2 => ?_) (fun h2 => ?_)
  · have e3 := e0.trans (condT h2)
    refine go tv60 3 rfl rfl trivial ?_
    refine ef (storeA tv60 rfl rfl rfl rfl rfl rfl rfl rfl rfl rfl ?_)
    refine go tv60 4 rfl rfl trivial ?_
    exact rt1 rfl rfl (ple_of (fun r : HasR => .agg (HasR.pc r)) e3 (ple rfl))
  have h4 := orl h2
  have h5 := orl h4
  have p6 := df h5
  have h7 := orr h4
  have p8 := df h7
  have h9 := orr h2
  have p10 := df h9
  have e11 := e0.trans (condF h2)
  refine go tv60 9 rfl rfl trivial ?_
  refine cnd rfl (fun h12 => ?_) (fun h12 => ?_)
  · have p13 := dt h12
    have e14 := e11.trans (condT h12)
    refine go tv60 3 rfl rfl trivial ?_
    refine ef (storeA tv60 rfl rfl rfl rfl rfl rfl rfl rfl rfl rfl ?_)
    refine go tv60 4 rfl rfl trivial ?_
    exact rt1 rfl rfl (ple_of (fun r : HasR => .agg (HasR.pc r)) e14 (ple rfl))
  have p15 := df h12
  have e16 := e11.trans (condF h12)
  refine go tv60 17 rfl rfl ⟨(fun hc => hc), rfl, rfl, (fun hc => hc), rfl, rfl, trivial⟩ ?_
  refine cnd rfl (fun h17 => ?_) (fun h17 => ?_)
  · have e18 := e16.trans (condT h17)
    refine go tv60 3 rfl rfl trivial ?_
    refine ef (storeA tv60 rfl rfl rfl rfl rfl rfl rfl rfl rfl rfl ?_)
    refine go tv60 4 rfl rfl trivial ?_
    exact rt1 rfl rfl (ple_of (fun r : HasR => .agg (HasR.pc r)) e18 (ple rfl))
  have h19 := orl h17
  have h20 := orl h19
  have p21 := df h20
  have h22 := orr h19
  have p23 := df h22
  have h24 := orr h17
  have p25 := df h24
  have e26 := e16.trans (condF h17)
  refine go tv60 9 rfl rfl trivial ?_
  refine cnd rfl (fun h27 => ?_) (fun h27 => ?_)
  · have p28 := dt h27
    have e29 := e26.trans (condT h27)
    refine go tv60 3 rfl rfl trivial ?_
    refine ef (storeA tv60 rfl rfl rfl rfl rfl rfl rfl rfl rfl rfl ?_)
    refine go tv60 4 rfl rfl trivial ?_
    exact rt1 rfl rfl (ple_of (fun r : HasR => .agg (HasR.pc r)) e29 (ple rfl))
  have p30 := df h27
  have e31 := e26.trans (condF h27)
  refine go tv60 13 rfl rfl ⟨(fun hc => hc), rfl, rfl, trivial⟩ ?_
  refine cnd rfl (fun h32 => ?_) (fun h32 => ?_)
  · have h33 := bl h32
    have p34 := dt h33
    have h35 := br h32
    have p36 := dt h35
    have e37 := e31.trans (condT h32)
    refine go tv60 3 rfl rfl trivial ?_
    refine ef (storeA tv60 rfl rfl rfl rfl rfl rfl rfl rfl rfl rfl ?_)
    refine go tv60 4 rfl rfl trivial ?_
    exact rt1 rfl rfl (ple_of (fun r : HasR => .agg (HasR.pc r)) e37 (ple rfl))
  have e38 := e31.trans (condF h32)
  refine go tv60 9 rfl rfl trivial ?_
  refine cnd rfl (fun h39 => ?_) (fun h39 => ?_)
  · have p40 := dt h39
    have e41 := e38.trans (condT h39)
    refine go tv60 3 rfl rfl trivial ?_
    refine ef (storeA tv60 rfl rfl rfl rfl rfl rfl rfl rfl rfl rfl ?_)
    refine go tv60 4 rfl rfl trivial ?_
    exact rt1 rfl rfl (ple_of (fun r : HasR => .agg (HasR.pc r)) e41 (ple rfl))
  have p42 := df h39
  have e43 := e38.trans (condF h39)
  refine go tv60 9 rfl rfl trivial ?_
  refine cnd rfl (fun h44 => ?_) (fun h44 => ?_)
  · have p45 := dt h44
    have e46 := e43.trans (condT h44)
    refine go tv60 3 rfl rfl trivial ?_
    refine ef (storeA tv60 rfl rfl rfl rfl rfl rfl rfl rfl rfl rfl ?_)
    refine go tv60 4 rfl rfl trivial ?_
    exact rt1 rfl rfl (ple_of (fun r : HasR => .agg (HasR.pc r)) e46 (ple rfl))
  have p47 := df h44
  have e48 := e43.trans (condF h44)
  refine go tv60 9 rfl rfl trivial ?_
  refine cnd rfl (fun h49 => ?_) (fun h49 => ?_)
  · have p50 := dt h49
    have e51 := e48.trans (condT h49)
    refine go tv60 3 rfl rfl trivial ?_
    refine ef (storeA tv60 rfl rfl rfl rfl rfl rfl rfl rfl rfl rfl ?_)
    refine go tv60 4 rfl rfl trivial ?_
    exact rt1 rfl rfl (ple_of (fun r : HasR => .agg (HasR.pc r)) e51 (ple rfl))
  have p52 := df h49
  have e53 := e48.trans (condF h49)
  refine go tv60 5 rfl rfl trivial ?_
  refine ef (storeA tv60 rfl rfl rfl rfl rfl rfl rfl rfl rfl rfl ?_)
  refine go tv60 3 rfl rfl trivial ?_
  exact rt1 rfl rfl (ple_of (fun r : HasR => .agg (HasR.pc r)) e53 (ple rfl))
end Go.SW.V
set_option linter.unusedVariables false
set_option maxRecDepth 100000
set_option maxHeartbeats 4000000
namespace Go.SW.V
open Go.SW Go.Proofs
theorem cb120 : Callable Tryz.prog 120 := callable_of Tryz.func120 (by kernel_rfl) (by kernel_rfl)
theorem cb16 : Callable Tryz.prog 16 := callable_of Tryz.func16 (by kernel_rfl) (by kernel_rfl)
theorem cb161 : Callable Tryz.prog 161 := callable_of Tryz.func161 (by kernel_rfl) (by kernel_rfl)
theorem cb17 : Callable Tryz.prog 17 := callable_of Tryz.func17 (by kernel_rfl) (by kernel_rfl)
theorem cb18 : Callable Tryz.prog 18 := callable_of Tryz.func18 (by kernel_rfl) (by kernel_rfl)
def tbv61 : Tb := [(3, ⟨.int .i64, 1, 8, [.int .i64 0]⟩),
  (4, ⟨.bool, 1, 1, [.bool false]⟩),
  (5, ⟨.int .u8, 1, 1, [.int .u8 0]⟩),
  (9, ⟨.str, 1, 16, [.str []]⟩),
  (27, ⟨.int .u64, 1, 8, [.int .u64 0]⟩),
  (47, ⟨.slc 199, 1, 24, [.sl Pair.pc []]⟩),
  (64, ⟨.agg [(0, 1), (1, 1), (2, 1), (3, 1), (4, 1), (5, 1), (6, 1), (7, 1), (8, 1), (9, 1)], 10, 120, [.int .u8 0, .int .u8 0, .str [], .str [], .str [], .sl Pair.pc [], .str [], .int .u64 0, .int .u64 0, .bool false]⟩),
  (67, ⟨.agg [(0, 1), (1, 1), (2, 1), (3, 1), (4, 1), (5, 1), (6, 1), (7, 1), (8, 1), (9, 1)], 10, 120, [.int .u8 0, .int .u8 0, .str [], .str [], .str [], .sl Pair.pc [], .str [], .int .u64 0, .int .u64 0, .bool false]⟩),
  (140, ⟨.agg [(0, 1), (1, 1), (2, 1), (3, 1), (4, 1), (5, 1), (6, 1), (7, 1), (8, 1), (9, 1)], 10, 10, [.bool false, .bool false, .bool false, .bool false, .bool false, .bool false, .bool false, .bool false, .bool false, .bool false]⟩),
  (199, ⟨.agg [(0, 1), (1, 1), (2, 1), (3, 1)], 4, 48, [.str [], .int .u8 0, .int .i64 0, .str []]⟩),
  (303, ⟨.agg [(0, 1), (1, 1), (2, 1)], 3, 32, [.str [], .int .i64 0, .int .i64 0]⟩)]
theorem tv61 : tbB Tryz.prog tbv61 = true := by kernel_rfl
theorem method_Method_one_ok (m : Method) (letter : Int) : Fn Tryz.prog gb 161 [.agg (Method.pc m), .int .i32 letter] (.int .i64 (method_Method_one m letter)) := by
  refine fn_cw tv61 Tryz.func161 rfl Tryz.ntmps161 rfl cb161 rfl rfl fun w N H hG => ?_
  have m_channel_r : 0 ≤ m.channel ∧ m.channel ≤ 255 := w.1.1
  have m_kind_r : 0 ≤ m.kind ∧ m.kind ≤ 255 := w.1.2.1
  have m_name_l : m.name.length ≤ 9223372036854775807 := w.1.2.2.1
  have m_other_l : m.other.length ≤ 9223372036854775807 := w.1.2.2.2.1
  have m_key_l : m.key.length ≤ 9223372036854775807 := w.1.2.2.2.2.1
  have m_head_l : m.head.length ≤ 140737488355328 := w.1.2.2.2.2.2.1.1
  have m_body_l : m.body.length ≤ 9223372036854775807 := w.1.2.2.2.2.2.2.1
  have m_n_r : 0 ≤ m.n ∧ m.n ≤ 18446744073709551615 := w.1.2.2.2.2.2.2.2.1
  have m_m_r : 0 ≤ m.m ∧ m.m ≤ 18446744073709551615 := w.1.2.2.2.2.2.2.2.2.1
  have letter_r : -2147483648 ≤ letter ∧ letter ≤ 2147483647 := w.2.1
  have e0 := method_Method_one.eq_1 m letter
  refine go tv61 2 rfl rfl trivial ?_
  refine ef (boxA 0 rfl rfl rfl fun b1 => ?_)
  refine go tv61 32 rfl rfl trivial ?_
  refine cnd rfl (fun h2 => ?_) (fun h2 => ?_)
  · have p3 := dt h2
    have e4 := e0.trans (condT h2)
    refine go tv61 10 rfl rfl trivial ?_
    refine call (words_Name _) rfl rfl fun w5 => ?_
    refine go tv61 19 rfl rfl trivial ?_
    exact rt1 rfl rfl (ple_of (fun r : Int => .int .i64 r) e4 (ple rfl))
  have p6 := df h2
  have e7 := e0.trans (condF h2)
  refine go tv61 9 rfl rfl trivial ?_
  refine cnd rfl (fun h8 => ?_) (fun h8 => ?_)
  · have p9 := dt h8
    have e10 := e7.trans (condT h8)
    refine go tv61 14 rfl rfl trivial ?_
    refine cnd rfl (fun h11 => ?_) (fun h11 => ?_)
    · have p12 := dt h11
      have e13 := e10.trans (condT h11)
      refine go tv61 18 rfl rfl trivial ?_
      exact rt1 rfl rfl (ple_of (fun r : Int => .int .i64 r) e13 (ple rfl))
    have p14 := df h11
    have e15 := e10.trans (condF h11)
    refine go tv61 8 rfl rfl trivial ?_
    refine call (words_Name _) rfl rfl fun w16 => ?_
    refine go tv61 15 rfl rfl trivial ?_
    exact rt1 rfl rfl (ple_of (fun r : Int => .int .i64 r) e15 (ple rfl))
  have p17 := df h8
  have e18 := e7.trans (condF h8)
  refine go tv61 9 rfl rfl trivial ?_
  refine cnd rfl (fun h19 => ?_) (fun h19 => ?_)
  · have p20 := dt h19
    have e21 := e18.trans (condT h19)
    refine go tv61 14 rfl rfl trivial ?_
    refine call (words_Name _) rfl rfl fun w22 => ?_
    refine go tv61 15 rfl rfl trivial ?_
    exact rt1 rfl rfl (ple_of (fun r : Int => .int .i64 r) e21 (ple rfl))
  have p23 := df h19
  have e24 := e18.trans (condF h19)
  refine go tv61 9 rfl rfl trivial ?_
  refine cnd rfl (fun h25 => ?_) (fun h25 => ?_)
  · have p26 := dt h25
    have e27 := e24.trans (condT h25)
    refine go tv61 16 rfl rfl trivial ?_
    refine call (words_Key _) rfl rfl fun w28 => ?_
    refine go tv61 13 rfl rfl trivial ?_
    exact rt1 rfl rfl (ple_of (fun r : Int => .int .i64 r) e27 (ple rfl))
  have p29 := df h25
  have e30 := e24.trans (condF h25)
  refine go tv61 9 rfl rfl trivial ?_
  refine cnd rfl (fun h31 => ?_) (fun h31 => ?_)
  · have p32 := dt h31
    have e33 := e30.trans (condT h31)
    refine go tv61 18 rfl rfl trivial ?_
    refine call (words_Pattern _) rfl rfl fun w34 => ?_
    refine go tv61 11 rfl rfl trivial ?_
    exact rt1 rfl rfl (ple_of (fun r : Int => .int .i64 r) e33 (ple rfl))
  have p35 := df h31
  have e36 := e30.trans (condF h31)
  refine go tv61 9 rfl rfl trivial ?_
  refine cnd rfl (fun h37 => ?_) (fun h37 => ?_)
  · have p38 := dt h37
    have e39 := e36.trans (condT h37)
    refine go tv61 20 rfl rfl trivial ?_
    refine call (head_Check _) rfl rfl fun w40 => ?_
    refine go tv61 9 rfl rfl trivial ?_
    exact rt1 rfl rfl (ple_of (fun r : Int => .int .i64 r) e39 (ple rfl))
  have p41 := df h37
  have e42 := e36.trans (condF h37)
  refine go tv61 8 rfl rfl trivial ?_
  refine cnd rfl (fun h43 => ?_) (fun h43 => ?_)
  · have p44 := dt h43
    have e45 := e42.trans (condT h43)
    refine go tv61 25 rfl rfl trivial ?_
    refine cnd rfl (fun h46 => ?_) (fun h46 => ?_)
    · have p47 := dt h46
      have e48 := e45.trans (condT h46)
      refine go tv61 9 rfl rfl trivial ?_
      exact rt1 rfl rfl (ple_of (fun r : Int => .int .i64 r) e48 (ple rfl))
    have p49 := df h46
    have e50 := e45.trans (condF h46)
    refine go tv61 11 rfl rfl trivial ?_
    exact rt1 rfl rfl (ple_of (fun r : Int => .int .i64 r) e50 (ple rfl))
  have p51 := df h43
  have e52 := e42.trans (condF h43)
  refine go tv61 25 rfl rfl trivial ?_
  exact rt1 rfl rfl (ple_of (fun r : Int => .int .i64 r) e52 (ple rfl))
theorem method_Method_Check_ok (m : Method) : Fn Tryz.prog gb 120 [.agg (Method.pc m)] (.int .i64 (method_Method_Check m)) := by
  refine fn_cw tv61 Tryz.func120 rfl Tryz.ntmps120 rfl cb120 rfl rfl fun w N H hG => ?_
  have m_channel_r : 0 ≤ m.channel ∧ m.channel ≤ 255 := w.1.1
  have m_kind_r : 0 ≤ m.kind ∧ m.kind ≤ 255 := w.1.2.1
  have m_name_l : m.name.length ≤ 9223372036854775807 := w.1.2.2.1
  have m_other_l : m.other.length ≤ 9223372036854775807 := w.1.2.2.2.1
  have m_key_l : m.key.length ≤ 9223372036854775807 := w.1.2.2.2.2.1
  have m_head_l : m.head.length ≤ 140737488355328 := w.1.2.2.2.2.2.1.1
  have m_body_l : m.body.length ≤ 9223372036854775807 := w.1.2.2.2.2.2.2.1
  have m_n_r : 0 ≤ m.n ∧ m.n ≤ 18446744073709551615 := w.1.2.2.2.2.2.2.2.1
  have m_m_r : 0 ≤ m.m ∧ m.m ≤ 18446744073709551615 := w.1.2.2.2.2.2.2.2.2.1
  have e0 := method_Method_Check.eq_1 m
  refine go tv61 2 rfl rfl trivial ?_
  refine ef (boxA 0 rfl rfl rfl fun b1 => ?_)
  refine go tv61 13 rfl rfl trivial ?_
  refine cnd rfl (fun h2 => ?_) (fun h2 => ?_)
  · have p3 := dt h2
    have e4 := e0.trans (condT h2)
    refine go tv61 8 rfl rfl trivial ?_
    exact rt1 rfl rfl (ple_of (fun r : Int => .int .i64 r) e4 (ple rfl))
  have p5 := df h2
  have e6 := e0.trans (condF h2)
  refine go tv61 3 rfl rfl trivial ?_
  refine call (method_Method_spare_ok _ (by omega)) rfl rfl fun w7 => ?_
  refine go tv61 3 rfl rfl trivial ?_
  refine cnd rfl (fun h8 => ?_) (fun h8 => ?_)
  · have e9 := e6.trans (condT h8)
    refine go tv61 8 rfl rfl trivial ?_
    exact rt1 rfl rfl (ple_of (fun r : Int => .int .i64 r) e9 (ple rfl))
  have e10 := e6.trans (condF h8)
  refine go tv61 8 rfl rfl trivial ?_
  refine q1 (qgstr (m := (m.kind).toNat) tellsT (by decide) (fun _ h => gbTells h) rfl Tryz.underlying219 sz9 (by omega) (by omega) rfl) rfl fun w11 => ?_
  refine go tv61 1 rfl rfl trivial ?_
  refine ef (erange tv61 1 rfl rfl rfl rfl fun b12 => ?_)
  refine go tv61 3 rfl rfl trivial ?_
  refine loop (ι := Nat) [1, 17] [0] (fun k => []) (fun k => [(1, .itr b12 (tellsT.getD (m.kind).toNat []) k)]) (fun k => k ≤ (tellsT.getD (m.kind).toNat []).length ∧ method_Method_Check m = method_Method_Check_l0 m ((tellsT.getD (m.kind).toNat []).drop k) ) (fun k => (tellsT.getD (m.kind).toNat []).length - k) 0 trivial ⟨rfl, trivial⟩ ?_ ?_
  · exact ⟨Nat.zero_le _, e10⟩
  rintro k ⟨hp13_1, hp13_2⟩
  refine go tv61 2 rfl rfl trivial ?_
  have u8_hn14 := u8r ((tellsT.getD (m.kind).toNat []).getD k 0)
  refine hnext rfl rfl rfl rfl (by have : (tellsT.getD (m.kind).toNat []).length ≤ 5 := tells_len m.kind; omega) (fun hn14 => (tells_at _ _ hn14)) rfl (fun hn14 => ?_) (fun hn14 => ?_)
  · have e15 := lstep (f := fun zz => method_Method_Check_l0 m zz ) hp13_2 (drop_getD hn14) (method_Method_Check_l0.eq_2 _ _ _)
    refine go tv61 18 rfl rfl trivial ?_
    refine callv (method_Method_one m (((tellsT.getD (m.kind).toNat []).getD k 0).toNat : Int)) (fun r : Int => .int .i64 r) (method_Method_one_ok _ _) rfl rfl fun r hr16 w17 => ?_
    have e18 := e15.trans (lt_eq hr16)
    refine go tv61 9 rfl rfl trivial ?_
    refine cnd rfl (fun h19 => ?_) (fun h19 => ?_)
    · have h20 := not_t h19
      have p21 := df h20
      have e22 := e18.trans (condT h19)
      refine go tv61 11 rfl rfl trivial ?_
      exact rt1 rfl rfl (ple_of (fun r : Int => .int .i64 r) e22 (ple rfl))
    have h23 := not_f h19
    have p24 := dt h23
    have e25 := e18.trans (condF h19)
    refine go tv61 2 rfl rfl trivial ?_
    refine next (k + 1) rfl rfl trivial ⟨rfl, trivial⟩ ?_ ?_
    · (try simp only []); omega
    exact ⟨by (try simp only []); omega, e25⟩
  have e26 := lstep (f := fun zz => method_Method_Check_l0 m zz ) hp13_2 (dropN hn14) (method_Method_Check_l0.eq_1 _)
  refine go tv61 16 rfl rfl trivial ?_
  exact rt1 rfl rfl (ple_of (fun r : Int => .int .i64 r) e26 (ple rfl))
theorem l11_To_ok (m : Method) (hl : m.head.length ≤ 1000000) : Fn Tryz.prog gb 18 [.agg (Method.pc m)] (.agg (Method.pc (l11_To m))) := by
  refine fn_cw tv61 Tryz.func18 rfl Tryz.ntmps18 rfl cb18 rfl rfl fun w N H hG => ?_
  have m_head_l : m.head.length ≤ 140737488355328 := w.1.2.2.2.2.2.1.1
  have e0 := l11_To.eq_1 m
  refine go tv61 2 rfl rfl trivial ?_
  refine ef (boxA 0 rfl rfl rfl fun b1 => ?_)
  refine ef (alloc tv61 1 rfl rfl rfl rfl fun b2 => ?_)
  refine go tv61 5 rfl rfl trivial ?_
  refine ef (alloc tv61 2 rfl rfl rfl rfl fun b3 => ?_)
  refine ef (storeA tv61 rfl rfl rfl rfl rfl rfl rfl rfl rfl rfl ?_)
  refine go tv61 4 rfl rfl trivial ?_
  refine ef (bsl 3 Pair.pc [] tv61 rfl rfl rfl rfl rfl (fun _ => rfl) rfl (by decide) (by decide) rfl fun u4 => ?_)
  refine go tv61 2 rfl rfl trivial ?_
  refine ef (app tv61 m.head rfl rfl rfl rfl rfl rfl rfl rfl rfl (src_l rfl (fun _ => rfl)) (by first | omega | (simp; omega)) rfl fun u5 => ?_)
  refine go tv61 1 rfl rfl trivial ?_
  refine give 3 rfl ?_
  refine ef (store1 tv61 rfl rfl rfl rfl rfl rfl rfl rfl rfl ?_)
  refine go tv61 5 rfl rfl trivial ?_
  refine ef (storeA tv61 rfl rfl rfl rfl rfl rfl rfl rfl rfl rfl ?_)
  refine go tv61 3 rfl rfl trivial ?_
  exact rt1 rfl rfl (ple_of (fun r : Method => .agg (Method.pc r)) e0 (ple rfl))
theorem l11_Light_ok (m : Method) : Fn Tryz.prog gb 16 [.agg (Method.pc m)] (.bool (l11_Light m)) := by
  refine fn_cw tv61 Tryz.func16 rfl Tryz.ntmps16 rfl cb16 rfl rfl fun w N H hG => ?_
  have m_head_l : m.head.length ≤ 140737488355328 := w.1.2.2.2.2.2.1.1
  have e0 := l11_Light.eq_1 m
  refine go tv61 2 rfl rfl trivial ?_
  refine ef (boxA 0 rfl rfl rfl fun b1 => ?_)
  refine go tv61 22 rfl rfl ⟨(fun hc => hc), (fun hc => hc), (fun hc => hc), rfl, rfl, (fun hc => hc), trivial⟩ ?_
  refine callg rfl (fun hc => (l09_Light _)) rfl ⟨(fun hc => hc), trivial⟩ rfl rfl fun _ => ?_
  refine go tv61 11 rfl rfl ⟨rfl, rfl, (fun hc => hc), (fun hc => hc), (fun hc => hc), rfl, rfl, trivial⟩ ?_
  exact rt1 rfl rfl (ple_of (fun r : Bool => .bool r) e0 (ple rfl))
theorem r11_Check_ok (m : Method) : Fn Tryz.prog gb 17 [.agg (Method.pc m)] (.int .i64 (r11_Check m)) := by
  refine fn_cw tv61 Tryz.func17 rfl Tryz.ntmps17 rfl cb17 rfl rfl fun w N H hG => ?_
  have m_head_l : m.head.length ≤ 140737488355328 := w.1.2.2.2.2.2.1.1
  have e0 := r11_Check.eq_1 m
  refine go tv61 2 rfl rfl trivial ?_
  refine ef (boxA 0 rfl rfl rfl fun b1 => ?_)
  refine go tv61 11 rfl rfl trivial ?_
  refine cnd rfl (fun h2 => ?_) (fun h2 => ?_)
  · have p3 := dt h2
    have e4 := e0.trans (condT h2)
    refine go tv61 7 rfl rfl trivial ?_
    exact rt1 rfl rfl (ple_of (fun r : Int => .int .i64 r) e4 (ple rfl))
  have p5 := df h2
  have e6 := e0.trans (condF h2)
  refine go tv61 6 rfl rfl trivial ?_
  refine callv (r11_Of m.kind) (fun r : HasR => .agg (HasR.pc r)) (r11_Of_ok _) rfl rfl fun r hr7 w8 => ?_
  have e9 := e6.trans (lt_eq hr7)
  refine ef (alloc tv61 1 rfl rfl rfl rfl fun b10 => ?_)
  refine ef (storeA tv61 rfl rfl rfl rfl rfl rfl rfl rfl rfl rfl ?_)
  refine go tv61 85 rfl rfl ⟨(fun hc => hc), (fun hc => hc), rfl, rfl, (fun hc => hc), (fun hc => hc), (fun hc => hc), (fun hc => hc), (fun hc => hc), (fun hc => hc), (fun hc => (by rw [hc]; rfl)), (fun hc => rfl), rfl, rfl, (fun hc => hc), (fun hc => hc), (fun hc => hc), (fun hc => hc), (fun hc => hc), (fun hc => hc), (fun hc => (by rw [hc]; rfl)), (fun hc => rfl), rfl, rfl, (fun hc => hc), (fun hc => hc), (fun hc => hc), (fun hc => hc), (fun hc => hc), (fun hc => hc), (fun hc => hc), (fun hc => (by rw [hc]; rfl)), (fun hc => rfl), rfl, rfl, (fun hc => hc), (fun hc => hc), (fun hc => hc), (fun hc => hc), (fun hc => hc), (fun hc => hc), (fun hc => (by rw [hc]; rfl)), (fun hc => rfl), rfl, rfl, (fun hc => hc), (fun hc => hc), (fun hc => hc), (fun hc => hc), (fun hc => hc), (fun hc => hc), (fun hc => (by rw [hc]; rfl)), (fun hc => rfl), rfl, rfl, (fun hc => hc), (fun hc => hc), (fun hc => hc), (fun hc => hc), (fun hc => hc), (fun hc => hc), (fun hc => (by rw [hc]; rfl)), (fun hc => rfl), rfl, rfl, (fun hc => hc), (fun hc => hc), (fun hc => hc), (fun hc => hc), (fun hc => hc), (fun hc => (by rw [hc]; rfl)), (fun hc => rfl), rfl, rfl, trivial⟩ ?_
  refine cnd rfl (fun h11 => ?_) (fun h11 => ?_)
  · have e12 := e9.trans (condT h11)
    refine go tv61 7 rfl rfl trivial ?_
    exact rt1 rfl rfl (ple_of (fun r : Int => .int .i64 r) e12 (ple rfl))
  have h13 := orl h11
  have h14 := orl h13
  have h15 := orl h14
  have h16 := orl h15
  have h17 := orl h16
  have h18 := orl h17
  have h19 := orl h18
  have h20 := orr h18
  have h21 := orr h17
  have h22 := orr h16
  have h23 := orr h15
  have h24 := orr h14
  have h25 := orr h13
  have h26 := orr h11
  have e27 := e9.trans (condF h11)
  refine go tv61 8 rfl rfl trivial ?_
  obtain ⟨o, e_o, q_o⟩ := lt1_split e27
  refine joinc (ι := Int) [1, 2, 3] [0, 1] (fun e_1 => [(4, .int .i64 e_1)]) (fun e_1 => []) (fun e_1 => o = e_1) ?_ ?_
  · refine go tv61 6 rfl rfl trivial ?_
    refine cnd rfl (fun h28 => ?_) (fun h28 => ?_)
    · have e29 := e_o.trans (condT h28)
      refine go tv61 3 rfl rfl trivial ?_
      refine call (r4_Name _) rfl rfl fun w30 => ?_
      refine go tv61 2 rfl rfl trivial ?_
      refine next (nameE m.name) rfl rfl ⟨rfl, trivial⟩ trivial (by decide) ?_
      exact e29
    have e31 := e_o.trans (condF h28)
    refine go tv61 1 rfl rfl trivial ?_
    refine next 0 rfl rfl ⟨rfl, trivial⟩ trivial (by decide) ?_
    exact e31
  rintro e_1 hp32
  have e33 := lt1_fin q_o hp32
  refine go tv61 2 rfl rfl trivial ?_
  obtain ⟨o1, e_o1, q_o1⟩ := lt1_split e33
  refine joinc (ι := Int) [1, 2, 3] [0, 1] (fun e_2 => [(4, .int .i64 e_2)]) (fun e_2 => []) (fun e_2 => o1 = e_2) ?_ ?_
  · refine go tv61 20 rfl rfl ⟨(fun hc => hc), rfl, rfl, (fun hc => hc), (fun hc => hc), (fun hc => hc), (fun hc => hc), (fun hc => hc), (fun hc => (by rw [hc]; rfl)), (fun hc => rfl), (fun hc => hc), rfl, rfl, trivial⟩ ?_
    refine cnd rfl (fun h34 => ?_) (fun h34 => ?_)
    · have h35 := bl h34
      have h36 := bl h35
      have p37 := dt h36
      have h38 := br h35
      have h39 := br h34
      have h40 := not_t h39
      have e41 := e_o1.trans (condT h34)
      refine go tv61 3 rfl rfl trivial ?_
      refine call (r4_Name _) rfl rfl fun w42 => ?_
      refine go tv61 2 rfl rfl trivial ?_
      refine next (nameE m.other) rfl rfl ⟨rfl, trivial⟩ trivial (by decide) ?_
      exact e41
    have e43 := e_o1.trans (condF h34)
    refine go tv61 1 rfl rfl trivial ?_
    refine next e_1 rfl rfl ⟨rfl, trivial⟩ trivial (by decide) ?_
    exact e43
  rintro e_2 hp44
  have e45 := lt1_fin q_o1 hp44
  refine go tv61 2 rfl rfl trivial ?_
  obtain ⟨o2, e_o2, q_o2⟩ := lt1_split e45
  refine joinc (ι := Int) [1, 2, 3] [0, 1] (fun e_3 => [(4, .int .i64 e_3)]) (fun e_3 => []) (fun e_3 => o2 = e_3) ?_ ?_
  · refine go tv61 10 rfl rfl ⟨(fun hc => hc), rfl, rfl, trivial⟩ ?_
    refine cnd rfl (fun h46 => ?_) (fun h46 => ?_)
    · have h47 := bl h46
      have p48 := dt h47
      have h49 := br h46
      have e50 := e_o2.trans (condT h46)
      refine go tv61 5 rfl rfl trivial ?_
      refine call (r4_Key _ _) rfl rfl fun w51 => ?_
      refine go tv61 2 rfl rfl trivial ?_
      refine next (keyE (besidesOf r.pattern) m.key) rfl rfl ⟨rfl, trivial⟩ trivial (by decide) ?_
      exact e50
    have e52 := e_o2.trans (condF h46)
    refine go tv61 1 rfl rfl trivial ?_
    refine next e_2 rfl rfl ⟨rfl, trivial⟩ trivial (by decide) ?_
    exact e52
  rintro e_3 hp53
  have e54 := lt1_fin q_o2 hp53
  refine go tv61 2 rfl rfl trivial ?_
  obtain ⟨o3, e_o3, q_o3⟩ := lt1_split e54
  refine joinc (ι := Int) [1, 2] [0, 1] (fun e_4 => [(4, .int .i64 e_4)]) (fun e_4 => []) (fun e_4 => o3 = e_4) ?_ ?_
  · refine go tv61 10 rfl rfl ⟨(fun hc => hc), rfl, rfl, trivial⟩ ?_
    refine cnd rfl (fun h55 => ?_) (fun h55 => ?_)
    · have h56 := bl h55
      have p57 := dt h56
      have h58 := br h55
      have e59 := e_o3.trans (condT h55)
      refine go tv61 3 rfl rfl trivial ?_
      refine call (r9_Check _) rfl rfl fun w60 => ?_
      refine go tv61 2 rfl rfl trivial ?_
      refine next (headE m.head) rfl rfl ⟨rfl, trivial⟩ trivial (by decide) ?_
      exact e59
    have e61 := e_o3.trans (condF h55)
    refine go tv61 1 rfl rfl trivial ?_
    refine next e_3 rfl rfl ⟨rfl, trivial⟩ trivial (by decide) ?_
    exact e61
  rintro e_4 hp62
  have e63 := lt1_fin q_o3 hp62
  refine go tv61 14 rfl rfl ⟨(fun hc => hc), (fun hc => hc), (fun hc => hc), rfl, rfl, trivial⟩ ?_
  refine cnd rfl (fun h64 => ?_) (fun h64 => ?_)
  · have h65 := bl h64
    have p66 := dt h65
    have h67 := br h64
    have p68 := dt h67
    have e69 := e63.trans (condT h64)
    refine go tv61 11 rfl rfl trivial ?_
    exact rt1 rfl rfl (ple_of (fun r : Int => .int .i64 r) e69 (ple rfl))
  have e70 := e63.trans (condF h64)
  refine go tv61 9 rfl rfl trivial ?_
  exact rt1 rfl rfl (ple_of (fun r : Int => .int .i64 r) e70 (ple rfl))
end Go.SW.V
set_option linter.unusedVariables false
set_option maxRecDepth 100000
set_option maxHeartbeats 4000000
namespace Go.SW.V
open Go.SW Go.Proofs
theorem cb147 : Callable Tryz.prog 147 := callable_of Tryz.func147 (by kernel_rfl) (by kernel_rfl)
def tbv62 : Tb := [(3, ⟨.int .i64, 1, 8, [.int .i64 0]⟩),
  (4, ⟨.bool, 1, 1, [.bool false]⟩),
  (5, ⟨.int .u8, 1, 1, [.int .u8 0]⟩),
  (9, ⟨.str, 1, 16, [.str []]⟩),
  (27, ⟨.int .u64, 1, 8, [.int .u64 0]⟩),
  (47, ⟨.slc 199, 1, 24, [.sl Pair.pc []]⟩),
  (64, ⟨.agg [(0, 1), (1, 1), (2, 1), (3, 1), (4, 1), (5, 1), (6, 1), (7, 1), (8, 1), (9, 1)], 10, 120, [.int .u8 0, .int .u8 0, .str [], .str [], .str [], .sl Pair.pc [], .str [], .int .u64 0, .int .u64 0, .bool false]⟩),
  (158, ⟨.agg [(0, 1), (1, 1), (2, 1)], 3, 24, [.int .u8 0, .int .u8 0, .str []]⟩),
  (285, ⟨.agg [(0, 1), (1, 1)], 2, 24, [.str [], .int .i64 0]⟩),
  (303, ⟨.agg [(0, 1), (1, 1), (2, 1)], 3, 32, [.str [], .int .i64 0, .int .i64 0]⟩)]
theorem tv62 : tbB Tryz.prog tbv62 = true := by kernel_rfl
theorem method_Method_Frame_ok (m : Method) : Fn Tryz.prog gb 147 [.agg (Method.pc m)] (.tup [.agg (Frame.pc ((method_Method_Frame m).1)), .int .i64 ((method_Method_Frame m).2)]) := by
  refine fn_cw tv62 Tryz.func147 rfl Tryz.ntmps147 rfl cb147 rfl rfl fun w N H hG => ?_
  have m_channel_r : 0 ≤ m.channel ∧ m.channel ≤ 255 := w.1.1
  have m_kind_r : 0 ≤ m.kind ∧ m.kind ≤ 255 := w.1.2.1
  have m_name_l : m.name.length ≤ 9223372036854775807 := w.1.2.2.1
  have m_other_l : m.other.length ≤ 9223372036854775807 := w.1.2.2.2.1
  have m_key_l : m.key.length ≤ 9223372036854775807 := w.1.2.2.2.2.1
  have m_head_l : m.head.length ≤ 140737488355328 := w.1.2.2.2.2.2.1.1
  have m_body_l : m.body.length ≤ 9223372036854775807 := w.1.2.2.2.2.2.2.1
  have m_n_r : 0 ≤ m.n ∧ m.n ≤ 18446744073709551615 := w.1.2.2.2.2.2.2.2.1
  have m_m_r : 0 ≤ m.m ∧ m.m ≤ 18446744073709551615 := w.1.2.2.2.2.2.2.2.2.1
  have e0 := method_Method_Frame.eq_1 m
  refine go tv62 2 rfl rfl trivial ?_
  refine ef (boxA 0 rfl rfl rfl fun b1 => ?_)
  refine ef (alloc tv62 1 rfl rfl rfl rfl fun b2 => ?_)
  refine go tv62 7 rfl rfl trivial ?_
  refine callv (method_Method_Check m) (fun r : Int => .int .i64 r) (method_Method_Check_ok _) rfl rfl fun r hr3 w4 => ?_
  have e5 := e0.trans (lt_eq hr3)
  have hA5 := check_kind m
  (try rw [← hr3] at hA5)
  refine go tv62 9 rfl rfl trivial ?_
  refine cnd rfl (fun h7 => ?_) (fun h7 => ?_)
  · have h8 := not_t h7
    have p9 := df h8
    have e10 := e5.trans (condT h7)
    refine go tv62 4 rfl rfl trivial ?_
    refine ef (storeA tv62 rfl rfl rfl rfl rfl rfl rfl rfl rfl rfl ?_)
    refine go tv62 5 rfl rfl trivial ?_
    exact rt2 rfl rfl (ple_of (fun r : Frame × Int => .tup [.agg (Frame.pc r.1), .int .i64 r.2]) e10 (ple rfl))
  have h11 := not_f h7
  have p12 := dt h11
  have e13 := e5.trans (condF h7)
  refine go tv62 4 rfl rfl trivial ?_
  refine ef (alloc tv62 2 rfl rfl rfl rfl fun b14 => ?_)
  refine go tv62 7 rfl rfl trivial ?_
  refine q1 (qgstr (m := (m.kind).toNat) tellsT (by decide) (fun _ h => gbTells h) rfl Tryz.underlying219 sz9 (by omega) (by omega) rfl) rfl fun w15 => ?_
  refine go tv62 1 rfl rfl trivial ?_
  refine ef (erange tv62 3 rfl rfl rfl rfl fun b16 => ?_)
  refine go tv62 3 rfl rfl trivial ?_
  refine loop (ι := Nat × Out) [1, 2, 3, 5, 21] [0, 1] (fun ⟨k, x⟩ => []) (fun ⟨k, x⟩ => [(3, .itr b16 (tellsT.getD (m.kind).toNat []) k), (2, .box b14 285 [.str x.s, .int .i64 x.err])]) (fun ⟨k, x⟩ => k ≤ (tellsT.getD (m.kind).toNat []).length ∧ method_Method_Frame m = method_Method_Frame_l0 m ((tellsT.getD (m.kind).toNat []).drop k)  x ∧ x.s.length ≤ 1000 * k) (fun ⟨k, x⟩ => (tellsT.getD (m.kind).toNat []).length - k) ⟨0, (⟨[], 0⟩ : Out)⟩ trivial ⟨rfl, rfl, trivial⟩ ?_ ?_
  · exact ⟨Nat.zero_le _, e13, (by simp)⟩
  rintro ⟨k, x⟩ ⟨hp17_1, hp17_2, hp17_3⟩
  have hE : methodE m = 0 := by rw [← check_eq]; omega
  have htl : (tellsT.getD (m.kind).toNat []).length ≤ 5 := tells_len m.kind
  refine go tv62 2 rfl rfl trivial ?_
  have u8_hn18 := u8r ((tellsT.getD (m.kind).toNat []).getD k 0)
  refine hnext rfl rfl rfl rfl (by have : (tellsT.getD (m.kind).toNat []).length ≤ 5 := tells_len m.kind; omega) (fun hn18 => (tells_at _ _ hn18)) rfl (fun hn18 => ?_) (fun hn18 => ?_)
  · have e19 := lstep (f := fun zz => method_Method_Frame_l0 m zz  x) hp17_2 (drop_getD hn18) (method_Method_Frame_l0.eq_2 _ _ _ _)
    have hone : oneE m ((((tellsT.getD (m.kind).toNat [])).getD k 0).toNat : Int) = 0 := methodE_at hE hn18
    obtain ⟨hol1, hol2, hol3, hol4⟩ := oneE_len hone
    refine go tv62 26 rfl rfl trivial ?_
    refine cnd rfl (fun h20 => ?_) (fun h20 => ?_)
    · have p21 := dt h20
      have e22 := e19.trans (condT h20)
      refine go tv62 4 rfl rfl trivial ?_
      refine call (out_Text _ _ (by first | omega | (have := hrl (by assumption); omega) | (simp [outNum, outRaw, numB_len, numK] <;> omega) | (have := hrl (by assumption); simp [outNum, outRaw, numB_len, numK] <;> omega))) rfl rfl fun w23 => ?_
      have := outText_len x m.name
      refine ef (storeA tv62 rfl rfl rfl rfl rfl rfl rfl rfl rfl rfl ?_)
      refine go tv62 3 rfl rfl trivial ?_
      refine next ⟨(k + 1), (outText x m.name)⟩ rfl rfl trivial ⟨rfl, rfl, trivial⟩ ?_ ?_
      · (try simp only []); omega
      exact ⟨by (try simp only []); omega, e22, (by (try simp only []); omega)⟩
    have p24 := df h20
    have e25 := e19.trans (condF h20)
    refine go tv62 7 rfl rfl trivial ?_
    refine cnd rfl (fun h26 => ?_) (fun h26 => ?_)
    · have p27 := dt h26
      have e28 := e25.trans (condT h26)
      refine go tv62 2 rfl rfl trivial ?_
      refine cndT rfl h26 ?_
      refine go tv62 4 rfl rfl trivial ?_
      refine call (out_Text _ _ (by first | omega | (have := hrl (by assumption); omega) | (simp [outNum, outRaw, numB_len, numK] <;> omega) | (have := hrl (by assumption); simp [outNum, outRaw, numB_len, numK] <;> omega))) rfl rfl fun w29 => ?_
      have := outText_len x m.other
      refine ef (storeA tv62 rfl rfl rfl rfl rfl rfl rfl rfl rfl rfl ?_)
      refine go tv62 3 rfl rfl trivial ?_
      refine next ⟨(k + 1), (outText x m.other)⟩ rfl rfl trivial ⟨rfl, rfl, trivial⟩ ?_ ?_
      · (try simp only []); omega
      exact ⟨by (try simp only []); omega, e28, (by (try simp only []); omega)⟩
    have p30 := df h26
    have e31 := e25.trans (condF h26)
    refine go tv62 5 rfl rfl trivial ?_
    refine cnd rfl (fun h32 => ?_) (fun h32 => ?_)
    · have p33 := dt h32
      have e34 := e31.trans (condT h32)
      refine go tv62 4 rfl rfl trivial ?_
      refine call (out_Text _ _ (by first | omega | (have := hrl (by assumption); omega) | (simp [outNum, outRaw, numB_len, numK] <;> omega) | (have := hrl (by assumption); simp [outNum, outRaw, numB_len, numK] <;> omega))) rfl rfl fun w35 => ?_
      have := outText_len x m.other
      refine ef (storeA tv62 rfl rfl rfl rfl rfl rfl rfl rfl rfl rfl ?_)
      refine go tv62 3 rfl rfl trivial ?_
      refine next ⟨(k + 1), (outText x m.other)⟩ rfl rfl trivial ⟨rfl, rfl, trivial⟩ ?_ ?_
      · (try simp only []); omega
      exact ⟨by (try simp only []); omega, e34, (by (try simp only []); omega)⟩
    have p36 := df h32
    have e37 := e31.trans (condF h32)
    refine go tv62 7 rfl rfl trivial ?_
    refine cnd rfl (fun h38 => ?_) (fun h38 => ?_)
    · have p39 := dt h38
      have e40 := e37.trans (condT h38)
      refine go tv62 2 rfl rfl trivial ?_
      refine cndT rfl h38 ?_
      refine go tv62 4 rfl rfl trivial ?_
      refine call (out_Text _ _ (by first | omega | (have := hrl (by assumption); omega) | (simp [outNum, outRaw, numB_len, numK] <;> omega) | (have := hrl (by assumption); simp [outNum, outRaw, numB_len, numK] <;> omega))) rfl rfl fun w41 => ?_
      have := outText_len x m.key
      refine ef (storeA tv62 rfl rfl rfl rfl rfl rfl rfl rfl rfl rfl ?_)
      refine go tv62 3 rfl rfl trivial ?_
      refine next ⟨(k + 1), (outText x m.key)⟩ rfl rfl trivial ⟨rfl, rfl, trivial⟩ ?_ ?_
      · (try simp only []); omega
      exact ⟨by (try simp only []); omega, e40, (by (try simp only []); omega)⟩
    have p42 := df h38
    have e43 := e37.trans (condF h38)
    refine go tv62 5 rfl rfl trivial ?_
    refine cnd rfl (fun h44 => ?_) (fun h44 => ?_)
    · have p45 := dt h44
      have e46 := e43.trans (condT h44)
      refine go tv62 4 rfl rfl trivial ?_
      refine call (out_Text _ _ (by first | omega | (have := hrl (by assumption); omega) | (simp [outNum, outRaw, numB_len, numK] <;> omega) | (have := hrl (by assumption); simp [outNum, outRaw, numB_len, numK] <;> omega))) rfl rfl fun w47 => ?_
      have := outText_len x m.key
      refine ef (storeA tv62 rfl rfl rfl rfl rfl rfl rfl rfl rfl rfl ?_)
      refine go tv62 3 rfl rfl trivial ?_
      refine next ⟨(k + 1), (outText x m.key)⟩ rfl rfl trivial ⟨rfl, rfl, trivial⟩ ?_ ?_
      · (try simp only []); omega
      exact ⟨by (try simp only []); omega, e46, (by (try simp only []); omega)⟩
    have p48 := df h44
    have e49 := e43.trans (condF h44)
    refine go tv62 6 rfl rfl trivial ?_
    refine cnd rfl (fun h50 => ?_) (fun h50 => ?_)
    · have p51 := dt h50
      have e52 := e49.trans (condT h50)
      refine go tv62 4 rfl rfl trivial ?_
      refine call (head_Bytes _) rfl rfl fun w53 => ?_
      have := headBytes_len m.head
      refine go tv62 10 rfl rfl trivial ?_
      refine call (out_Raw _ _ (by first | omega | (have := hrl (by assumption); omega) | (simp [outNum, outRaw, numB_len, numK] <;> omega) | (have := hrl (by assumption); simp [outNum, outRaw, numB_len, numK] <;> omega))) rfl rfl fun w54 => ?_
      have := outRaw_len x (headBytes m.head)
      refine ef (storeA tv62 rfl rfl rfl rfl rfl rfl rfl rfl rfl rfl ?_)
      refine go tv62 3 rfl rfl trivial ?_
      refine next ⟨(k + 1), (outRaw x (headBytes m.head))⟩ rfl rfl trivial ⟨rfl, rfl, trivial⟩ ?_ ?_
      · (try simp only []); omega
      exact ⟨by (try simp only []); omega, e52, (by (try simp only []); omega)⟩
    have p55 := df h50
    have e56 := e49.trans (condF h50)
    refine go tv62 6 rfl rfl trivial ?_
    refine cnd rfl (fun h57 => ?_) (fun h57 => ?_)
    · have p58 := dt h57
      have e59 := e56.trans (condT h57)
      refine go tv62 4 rfl rfl trivial ?_
      refine call (out_Text _ _ (by first | omega | (have := hrl (by assumption); omega) | (simp [outNum, outRaw, numB_len, numK] <;> omega) | (have := hrl (by assumption); simp [outNum, outRaw, numB_len, numK] <;> omega))) rfl rfl fun w60 => ?_
      have := outText_len x m.body
      refine ef (storeA tv62 rfl rfl rfl rfl rfl rfl rfl rfl rfl rfl ?_)
      refine go tv62 3 rfl rfl trivial ?_
      refine next ⟨(k + 1), (outText x m.body)⟩ rfl rfl trivial ⟨rfl, rfl, trivial⟩ ?_ ?_
      · (try simp only []); omega
      exact ⟨by (try simp only []); omega, e59, (by (try simp only []); omega)⟩
    have p61 := df h57
    have e62 := e56.trans (condF h57)
    refine go tv62 6 rfl rfl trivial ?_
    refine cnd rfl (fun h63 => ?_) (fun h63 => ?_)
    · have p64 := dt h63
      have e65 := e62.trans (condT h63)
      refine go tv62 4 rfl rfl trivial ?_
      refine call (out_Num _ _ _ (by first | omega | (have := hrl (by assumption); omega) | (simp [outNum, outRaw, numB_len, numK] <;> omega) | (have := hrl (by assumption); simp [outNum, outRaw, numB_len, numK] <;> omega))) rfl rfl fun w66 => ?_
      have := outNum_len x m.n 8
      refine ef (storeA tv62 rfl rfl rfl rfl rfl rfl rfl rfl rfl rfl ?_)
      refine go tv62 3 rfl rfl trivial ?_
      refine next ⟨(k + 1), (outNum x m.n 8)⟩ rfl rfl trivial ⟨rfl, rfl, trivial⟩ ?_ ?_
      · (try simp only []); omega
      exact ⟨by (try simp only []); omega, e65, (by (try simp only []); omega)⟩
    have p67 := df h63
    have e68 := e62.trans (condF h63)
    refine go tv62 6 rfl rfl trivial ?_
    refine cnd rfl (fun h69 => ?_) (fun h69 => ?_)
    · have p70 := dt h69
      have e71 := e68.trans (condT h69)
      refine go tv62 4 rfl rfl trivial ?_
      refine call (out_Num _ _ _ (by first | omega | (have := hrl (by assumption); omega) | (simp [outNum, outRaw, numB_len, numK] <;> omega) | (have := hrl (by assumption); simp [outNum, outRaw, numB_len, numK] <;> omega))) rfl rfl fun w72 => ?_
      have := outNum_len x m.m 8
      refine ef (storeA tv62 rfl rfl rfl rfl rfl rfl rfl rfl rfl rfl ?_)
      refine go tv62 3 rfl rfl trivial ?_
      refine next ⟨(k + 1), (outNum x m.m 8)⟩ rfl rfl trivial ⟨rfl, rfl, trivial⟩ ?_ ?_
      · (try simp only []); omega
      exact ⟨by (try simp only []); omega, e71, (by (try simp only []); omega)⟩
    have p73 := df h69
    have e74 := e68.trans (condF h69)
    refine go tv62 6 rfl rfl trivial ?_
    refine cnd rfl (fun h75 => ?_) (fun h75 => ?_)
    · have p76 := dt h75
      have e77 := e74.trans (condT h75)
      refine go tv62 12 rfl rfl trivial ?_
      refine cnd rfl (fun h78 => ?_) (fun h78 => ?_)
      · have e79 := e77.trans (condT h78)
        refine go tv62 7 rfl rfl trivial ?_
        refine call (out_Num _ _ _ (by first | omega | (have := hrl (by assumption); omega) | (simp [outNum, outRaw, numB_len, numK] <;> omega) | (have := hrl (by assumption); simp [outNum, outRaw, numB_len, numK] <;> omega))) rfl rfl fun w80 => ?_
        have := outNum_len x 1 1
        refine ef (storeA tv62 rfl rfl rfl rfl rfl rfl rfl rfl rfl rfl ?_)
        refine go tv62 3 rfl rfl trivial ?_
        refine next ⟨(k + 1), (outNum x 1 1)⟩ rfl rfl trivial ⟨rfl, rfl, trivial⟩ ?_ ?_
        · (try simp only []); omega
        exact ⟨by (try simp only []); omega, e79, (by (try simp only []); omega)⟩
      have e81 := e77.trans (condF h78)
      refine go tv62 5 rfl rfl trivial ?_
      refine call (out_Num _ _ _ (by first | omega | (have := hrl (by assumption); omega) | (simp [outNum, outRaw, numB_len, numK] <;> omega) | (have := hrl (by assumption); simp [outNum, outRaw, numB_len, numK] <;> omega))) rfl rfl fun w82 => ?_
      have := outNum_len x 0 1
      refine ef (storeA tv62 rfl rfl rfl rfl rfl rfl rfl rfl rfl rfl ?_)
      refine go tv62 3 rfl rfl trivial ?_
      refine next ⟨(k + 1), (outNum x 0 1)⟩ rfl rfl trivial ⟨rfl, rfl, trivial⟩ ?_ ?_
      · (try simp only []); omega
      exact ⟨by (try simp only []); omega, e81, (by (try simp only []); omega)⟩
    have p83 := df h75
    have e84 := e74.trans (condF h75)
    refine go tv62 3 rfl rfl trivial ?_
    refine next ⟨(k + 1), x⟩ rfl rfl trivial ⟨rfl, rfl, trivial⟩ ?_ ?_
    · (try simp only []); omega
    exact ⟨by (try simp only []); omega, e84, (by (try simp only []); omega)⟩
  have e85 := lstep (f := fun zz => method_Method_Frame_l0 m zz  x) hp17_2 (dropN hn18) (method_Method_Frame_l0.eq_1 _ _)
  refine go tv62 11 rfl rfl trivial ?_
  refine any [1, 4, 5, 6, 7, 8, 9] 9 mixd rfl ?_
  refine gov tv62 [0, 1, 2, 3, 4] 4 rfl (by kernel_rfl) rfl rfl trivial ?_
  refine vcall 5 rfl (by kernel_rfl) (out_String _) rfl rfl fun w86 => ?_
  refine gov tv62 [6] 2 rfl (by kernel_rfl) rfl rfl trivial ?_
  refine vt 7 rfl (by kernel_rfl) (by kernel_rfl) (storeA tv62 rfl rfl rfl rfl rfl rfl rfl rfl rfl rfl ?_)
  refine gov tv62 [8] 0 rfl (by kernel_rfl) rfl rfl trivial ?_
  refine vdone (by kernel_rfl) ?_
  refine go tv62 2 rfl rfl trivial ?_
  exact rt2 rfl rfl (ple_of (fun r : Frame × Int => .tup [.agg (Frame.pc r.1), .int .i64 r.2]) e85 (ple rfl))
end Go.SW.V
set_option linter.unusedVariables false
set_option maxRecDepth 100000
set_option maxHeartbeats 4000000
namespace Go.SW.V
open Go.SW Go.Proofs
end Go.SW.V
set_option linter.unusedVariables false
set_option maxRecDepth 100000
set_option maxHeartbeats 4000000
namespace Go.SW.V
open Go.SW Go.Proofs
end Go.SW.V
set_option linter.unusedVariables false
set_option maxRecDepth 100000
set_option maxHeartbeats 4000000
namespace Go.SW.V
open Go.SW Go.Proofs
end Go.SW.V
set_option linter.unusedVariables false
set_option maxRecDepth 100000
set_option maxHeartbeats 4000000
namespace Go.SW.V
open Go.SW Go.Proofs
end Go.SW.V
set_option linter.unusedVariables false
set_option maxRecDepth 100000
set_option maxHeartbeats 4000000
namespace Go.SW.V
open Go.SW Go.Proofs
theorem cb102 : Callable Tryz.prog 102 := callable_of Tryz.func102 (by kernel_rfl) (by kernel_rfl)
def tbv67 : Tb := [(5, ⟨.int .u8, 1, 1, [.int .u8 0]⟩),
  (9, ⟨.str, 1, 16, [.str []]⟩),
  (64, ⟨.agg [(0, 1), (1, 1), (2, 1), (3, 1), (4, 1), (5, 1), (6, 1), (7, 1), (8, 1), (9, 1)], 10, 120, [.int .u8 0, .int .u8 0, .str [], .str [], .str [], .sl Pair.pc [], .str [], .int .u64 0, .int .u64 0, .bool false]⟩),
  (158, ⟨.agg [(0, 1), (1, 1), (2, 1)], 3, 24, [.int .u8 0, .int .u8 0, .str []]⟩)]
theorem tv67 : tbB Tryz.prog tbv67 = true := by kernel_rfl
theorem l11_awake : Fn Tryz.prog gb 102 [] (.bool true) := by
  refine fn_cw tv67 Tryz.func102 rfl Tryz.ntmps102 rfl cb102 rfl rfl fun w N H hG => ?_
  refine go tv67 8 rfl rfl trivial ?_
  refine call (method_Method_Frame_ok (⟨1, 1, [], [], [], [], [], 0, 0, false⟩ : Method)) rfl rfl fun w1 => ?_
  refine go tv67 3 rfl rfl trivial ?_
  refine ef (alloc tv67 0 rfl rfl rfl rfl fun b2 => ?_)
  refine ef (storeA tv67 rfl rfl rfl rfl rfl rfl rfl rfl rfl rfl ?_)
  refine go tv67 5 rfl rfl trivial ?_
  refine call l07_Awake rfl rfl fun w3 => ?_
  refine go tv67 1 rfl rfl trivial ?_
  refine ungd rfl rfl ?_
  refine call l10_Awake rfl rfl fun w4 => ?_
  refine go tv67 2 rfl rfl trivial ?_
  refine ungd rfl rfl ?_
  refine go tv67 1 rfl rfl trivial ?_
  refine ungd rfl rfl ?_
  refine go tv67 1 rfl rfl trivial ?_
  refine so_rt (t := 14) (p' := .bool true) (ple (congrArg PV.bool (show decide (((method_Method_Frame (⟨1, 1, [], [], [], [], [], 0, 0, false⟩ : Method)).2) = 0) = true by decide +kernel))) rfl ?_
  refine go tv67 2 rfl rfl trivial ?_
  refine ungd rfl rfl ?_
  refine go tv67 1 rfl rfl trivial ?_
  refine ungd rfl rfl ?_
  refine go tv67 1 rfl rfl trivial ?_
  refine ungd rfl rfl ?_
  refine go tv67 1 rfl rfl trivial ?_
  refine so_rt (t := 19) (p' := .bool true) (ple (congrArg PV.bool (show decide ((((method_Method_Frame (⟨1, 1, [], [], [], [], [], 0, 0, false⟩ : Method)).1).kind) = 1) = true by decide +kernel))) rfl ?_
  refine go tv67 2 rfl rfl trivial ?_
  refine ungd rfl rfl ?_
  refine go tv67 1 rfl rfl trivial ?_
  refine ungd rfl rfl ?_
  refine go tv67 1 rfl rfl trivial ?_
  refine ungd rfl rfl ?_
  refine go tv67 1 rfl rfl trivial ?_
  refine so_rt (t := 24) (p' := .bool true) (ple (congrArg PV.bool (show decide ((((method_Method_Frame (⟨1, 1, [], [], [], [], [], 0, 0, false⟩ : Method)).1).channel) = 1) = true by decide +kernel))) rfl ?_
  refine go tv67 2 rfl rfl trivial ?_
  refine ungd rfl rfl ?_
  refine go tv67 1 rfl rfl trivial ?_
  refine ungd rfl rfl ?_
  refine go tv67 1 rfl rfl trivial ?_
  refine ungd rfl rfl ?_
  refine go tv67 1 rfl rfl trivial ?_
  refine so_rt (t := 29) (p' := .bool true) (ple (congrArg PV.bool (show decide ((((method_Method_Frame (⟨1, 1, [], [], [], [], [], 0, 0, false⟩ : Method)).1).body) = []) = true by decide +kernel))) rfl ?_
  refine go tv67 5 rfl rfl trivial ?_
  refine rt1 rfl rfl ?_
  refine ple ?_
  exact congrArg PV.bool (by first | rfl | decide +kernel)
end Go.SW.V
set_option linter.unusedVariables false
set_option maxRecDepth 100000
set_option maxHeartbeats 4000000
namespace Go.SW.V
open Go.SW Go.Proofs
end Go.SW.V
set_option linter.unusedVariables false
set_option maxRecDepth 100000
set_option maxHeartbeats 4000000
namespace Go.SW.V
open Go.SW Go.Proofs
end Go.SW.V
set_option linter.unusedVariables false
set_option maxRecDepth 100000
set_option maxHeartbeats 4000000
namespace Go.SW.V
open Go.SW Go.Proofs
theorem cb101 : Callable Tryz.prog 101 := callable_of Tryz.func101 (by kernel_rfl) (by kernel_rfl)
theorem cb103 : Callable Tryz.prog 103 := callable_of Tryz.func103 (by kernel_rfl) (by kernel_rfl)
theorem cb61 : Callable Tryz.prog 61 := callable_of Tryz.func61 (by kernel_rfl) (by kernel_rfl)
theorem cb63 : Callable Tryz.prog 63 := callable_of Tryz.func63 (by kernel_rfl) (by kernel_rfl)
def tbv74 : Tb := [(5, ⟨.int .u8, 1, 1, [.int .u8 0]⟩),
  (9, ⟨.str, 1, 16, [.str []]⟩),
  (70, ⟨.agg [(0, 1), (1, 1)], 2, 24, [.str [], .int .i64 0]⟩),
  (137, ⟨.agg [(0, 1), (1, 1), (2, 1), (3, 1), (4, 1), (5, 1), (6, 7)], 13, 144, [.int .u8 0, .int .u8 0, .int .u64 0, .int .u64 0, .bool false, .str [], .int .u64 0, .str [], .str [], .sl Pair.pc [], .str [], .int .u64 0, .int .u8 0]⟩),
  (154, ⟨.slc 158, 1, 24, [.sl Frame.pc []]⟩),
  (158, ⟨.agg [(0, 1), (1, 1), (2, 1)], 3, 24, [.int .u8 0, .int .u8 0, .str []]⟩)]
theorem tv74 : tbB Tryz.prog tbv74 = true := by kernel_rfl
theorem l08_awake_ok : Fn Tryz.prog gb 101 [] (.bool (l08_awake)) := by
  refine fn_cw tv74 Tryz.func101 rfl Tryz.ntmps101 rfl cb101 rfl rfl fun w N H hG => ?_
  have e0 := l08_awake.eq_1
  refine go tv74 8 rfl rfl trivial ?_
  refine call (frame_Bytes (⟨1, 2, [97, 98]⟩ : Frame)) rfl rfl fun w1 => ?_
  refine go tv74 10 rfl rfl trivial ?_
  refine call l07_Awake rfl rfl fun w2 => ?_
  refine go tv74 8 rfl rfl ⟨(fun hc => hc), (fun hc => hc), rfl, rfl, trivial⟩ ?_
  refine cnd rfl (fun h3 => ?_) (fun h3 => ?_)
  · have e4 := e0.trans (condT h3)
    refine go tv74 7 rfl rfl trivial ?_
    exact rt1 rfl rfl (ple_of (fun r : Bool => .bool r) e4 (ple rfl))
  have h5 := orl h3
  have h6 := not_f h5
  have h7 := orr h3
  have h8 := not_f h7
  have p9 := dt h8
  have e10 := e0.trans (condF h3)
  refine go tv74 7 rfl rfl trivial ?_
  refine q1 (sshi tv74 5 rfl rfl rfl rfl rfl (by omega)) rfl fun w11 => ?_
  refine go tv74 1 rfl rfl ⟨(by first | omega | (simp <;> omega)), trivial⟩ ?_
  refine ef (ecallo 0 (feed_Take (⟨[], 0⟩ : Feed) _ (by first | omega | (simp; done) | (simp; omega) | (simp only [List.length_nil, List.length_take, List.length_drop]; omega) | decide +kernel)) rfl rfl fun u13 w12 => ?_)
  have hfd13 := feed_le (⟨[], 0⟩ : Feed) ((frameBytes (⟨1, 2, [97, 98]⟩ : Frame)) ++ ((frameBytes (⟨1, 2, [97, 98]⟩ : Frame)).take 5))
  (try simp only [List.length_nil, List.length_take, List.length_drop] at hfd13)
  refine go tv74 3 rfl rfl trivial ?_
  refine ef (alloc tv74 1 rfl rfl rfl rfl fun b15 => ?_)
  refine ef (storeA tv74 rfl rfl rfl rfl rfl rfl rfl rfl rfl rfl ?_)
  refine go tv74 4 rfl rfl trivial ?_
  refine any [2, 3, 4, 5, 6, 7] 9 mixd rfl ?_
  refine gov tv74 [0, 1] 7 rfl (by kernel_rfl) rfl rfl trivial ?_
  refine vq 2 (sslo tv74 5 rfl rfl rfl rfl rfl (by omega)) rfl (by kernel_rfl) rfl fun w16 => ?_
  refine ve 3 rfl (by kernel_rfl) rfl (ecallo 2 (feed_Take _ _ (by first | omega | (simp; done) | (simp; omega) | (simp only [List.length_nil, List.length_take, List.length_drop]; omega) | decide +kernel)) rfl rfl fun u18 w17 => ?_)
  have hfd18 := feed_le ((feedTake (⟨[], 0⟩ : Feed) ((frameBytes (⟨1, 2, [97, 98]⟩ : Frame)) ++ ((frameBytes (⟨1, 2, [97, 98]⟩ : Frame)).take 5))).1) ((frameBytes (⟨1, 2, [97, 98]⟩ : Frame)).drop 5)
  (try simp only [List.length_nil, List.length_take, List.length_drop] at hfd18)
  refine gov tv74 [4, 5, 6] 2 rfl (by kernel_rfl) rfl rfl trivial ?_
  refine vtp 7 rfl (by kernel_rfl) (by kernel_rfl) (storeA tv74 rfl rfl rfl rfl rfl rfl rfl rfl rfl rfl ?_)
  refine gov tv74 [8] 0 rfl (by kernel_rfl) rfl rfl trivial ?_
  refine vdone (by kernel_rfl) ?_
  refine go tv74 4 rfl rfl trivial ?_
  refine so_osl (t := 34) 0 rfl rfl ?_
  refine go tv74 3 rfl rfl trivial ?_
  refine bcase (decide ((((feedTake (⟨[], 0⟩ : Feed) ((frameBytes (⟨1, 2, [97, 98]⟩ : Frame)) ++ ((frameBytes (⟨1, 2, [97, 98]⟩ : Frame)).take 5))).2).length : Int) = 1)) (fun h20 => ?_) (fun h20 => ?_)
  · have p21 := dt h20
    have e22 := e10.trans (condT h20)
    refine so_rt (t := 36) (p' := .bool true) (ple (congrArg PV.bool h20)) rfl ?_
    refine so_rt (t := 37) (p' := .bool true) (ple (congrArg PV.bool h20)) rfl ?_
    refine ungd rfl rfl ?_
    refine go tv74 1 rfl rfl trivial ?_
    refine ungd rfl rfl ?_
    refine so_osl (t := 38) 2 rfl rfl ?_
    refine go tv74 1 rfl rfl trivial ?_
    refine ungd rfl rfl ?_
    refine go tv74 3 rfl rfl trivial ?_
    refine bcase (decide ((((feedTake ((feedTake (⟨[], 0⟩ : Feed) ((frameBytes (⟨1, 2, [97, 98]⟩ : Frame)) ++ ((frameBytes (⟨1, 2, [97, 98]⟩ : Frame)).take 5))).1) ((frameBytes (⟨1, 2, [97, 98]⟩ : Frame)).drop 5)).2).length : Int) = 1)) (fun h23 => ?_) (fun h23 => ?_)
    · have p24 := dt h23
      have e25 := e22.trans (condT h23)
      refine so_rt (t := 40) (p' := .bool true) (ple (congrArg PV.bool h23)) rfl ?_
      refine so_rt (t := 41) (p' := .bool true) (ple (congrArg PV.bool h23)) rfl ?_
      refine so_rt (t := 42) (p' := .bool true) (ple (congrArg PV.bool h23)) rfl ?_
      refine ungd rfl rfl ?_
      refine go tv74 1 rfl rfl trivial ?_
      refine ungd rfl rfl ?_
      refine so_osl (t := 43) 2 rfl rfl ?_
      refine so_osl (t := 33) 2 rfl rfl ?_
      refine so_osl (t := 5) 2 rfl rfl ?_
      refine give 2 rfl ?_
      have hc26 := getG (xs := (feedTake ((feedTake (⟨[], 0⟩ : Feed) ((frameBytes (⟨1, 2, [97, 98]⟩ : Frame)) ++ ((frameBytes (⟨1, 2, [97, 98]⟩ : Frame)).take 5))).1) ((frameBytes (⟨1, 2, [97, 98]⟩ : Frame)).drop 5)).2) (k := 0) (by omega)
      refine q1 (qidx tv74 0 rfl rfl rfl hc26 rfl rfl rfl rfl) rfl fun w27 => ?_
      refine ungd rfl rfl ?_
      refine go tv74 1 rfl rfl trivial ?_
      refine ungd rfl rfl ?_
      refine go tv74 1 rfl rfl trivial ?_
      refine ungd rfl rfl ?_
      refine go tv74 4 rfl rfl trivial ?_
      refine callg rfl (fun hc => (feed_Rest _)) rfl ⟨(fun hc => hc), trivial⟩ rfl rfl fun _ => ?_
      refine go tv74 4 rfl rfl ⟨(fun hc => hc), rfl, rfl, trivial⟩ ?_
      refine callg rfl (fun hc => (feed_Err _)) rfl ⟨(fun hc => hc), trivial⟩ rfl rfl fun _ => ?_
      refine go tv74 6 rfl rfl ⟨(fun hc => hc), rfl, rfl, trivial⟩ ?_
      exact rt1 rfl rfl (ple_of (fun r : Bool => .bool r) e25 (ple rfl))
    have p28 := df h23
    have e29 := e22.trans (condF h23)
    refine so_rt (t := 40) (p' := .bool false) (ple (congrArg PV.bool h23)) rfl ?_
    refine so_rt (t := 41) (p' := .bool false) (ple (congrArg PV.bool h23)) rfl ?_
    refine so_rt (t := 42) (p' := .bool false) (ple (congrArg PV.bool h23)) rfl ?_
    refine ungs rfl rfl rfl ?_
    refine ungs rfl rfl rfl ?_
    refine ungs rfl rfl rfl ?_
    refine ungs rfl rfl rfl ?_
    refine ungs rfl rfl rfl ?_
    refine go tv74 2 rfl rfl trivial ?_
    refine ungs rfl rfl rfl ?_
    refine ungs rfl rfl rfl ?_
    refine ungs rfl rfl rfl ?_
    refine go tv74 2 rfl rfl trivial ?_
    refine ungs rfl rfl rfl ?_
    refine ungs rfl rfl rfl ?_
    refine ungs rfl rfl rfl ?_
    refine go tv74 5 rfl rfl trivial ?_
    exact rt1 rfl rfl (ple_of (fun r : Bool => .bool r) e29 (ple rfl))
  have p30 := df h20
  have e31 := e10.trans (condF h20)
  refine so_rt (t := 36) (p' := .bool false) (ple (congrArg PV.bool h20)) rfl ?_
  refine so_rt (t := 37) (p' := .bool false) (ple (congrArg PV.bool h20)) rfl ?_
  refine ungs rfl rfl rfl ?_
  refine ungs rfl rfl rfl ?_
  refine ungs rfl rfl rfl ?_
  refine go tv74 2 rfl rfl trivial ?_
  refine ungs rfl rfl rfl ?_
  refine ungs rfl rfl rfl ?_
  refine ungs rfl rfl rfl ?_
  refine ungs rfl rfl rfl ?_
  refine ungs rfl rfl rfl ?_
  refine go tv74 2 rfl rfl trivial ?_
  refine ungs rfl rfl rfl ?_
  refine ungs rfl rfl rfl ?_
  refine ungs rfl rfl rfl ?_
  refine go tv74 2 rfl rfl trivial ?_
  refine ungs rfl rfl rfl ?_
  refine ungs rfl rfl rfl ?_
  refine ungs rfl rfl rfl ?_
  refine go tv74 5 rfl rfl trivial ?_
  exact rt1 rfl rfl (ple_of (fun r : Bool => .bool r) e31 (ple rfl))
theorem l08_Awake_ok : Fn Tryz.prog gb 61 [] (.bool (l08_Awake)) := by
  refine fn_cw tv74 Tryz.func61 rfl Tryz.ntmps61 rfl cb61 rfl rfl fun w N H hG => ?_
  have e0 := l08_Awake.eq_1
  refine go tv74 7 rfl rfl trivial ?_
  refine call l08_awake_ok rfl rfl fun w1 => ?_
  refine go tv74 4 rfl rfl trivial ?_
  exact rt1 rfl rfl (ple_of (fun r : Bool => .bool r) e0 (ple rfl))
theorem l12_awake_ok : Fn Tryz.prog gb 103 [] (.bool (l12_awake)) := by
  refine fn_cw tv74 Tryz.func103 rfl Tryz.ntmps103 rfl cb103 rfl rfl fun w N H hG => ?_
  have e0 := l12_awake.eq_1
  refine go tv74 8 rfl rfl trivial ?_
  refine call (reply_Frame (⟨1, 1, 0, 0, false, [], (⟨0, [], [], [], [], 0, 0⟩ : Mail)⟩ : Reply)) rfl rfl fun w1 => ?_
  refine go tv74 3 rfl rfl trivial ?_
  refine ef (alloc tv74 0 rfl rfl rfl rfl fun b2 => ?_)
  refine ef (storeA tv74 rfl rfl rfl rfl rfl rfl rfl rfl rfl rfl ?_)
  refine go tv74 5 rfl rfl trivial ?_
  refine call l08_Awake_ok rfl rfl fun w3 => ?_
  refine go tv74 1 rfl rfl trivial ?_
  refine callg rfl (fun hc => l09_Awake) rfl trivial rfl rfl fun _ => ?_
  refine go tv74 19 rfl rfl ⟨rfl, rfl, (fun hc => hc), rfl, rfl, (fun hc => hc), (fun hc => hc), rfl, rfl, (fun hc => hc), (fun hc => hc), rfl, rfl, trivial⟩ ?_
  exact rt1 rfl rfl (ple_of (fun r : Bool => .bool r) e0 (ple rfl))
theorem l12_Awake_ok : Fn Tryz.prog gb 63 [] (.bool (l12_Awake)) := by
  refine fn_cw tv74 Tryz.func63 rfl Tryz.ntmps63 rfl cb63 rfl rfl fun w N H hG => ?_
  have e0 := l12_Awake.eq_1
  refine go tv74 7 rfl rfl trivial ?_
  refine call l12_awake_ok rfl rfl fun w1 => ?_
  refine go tv74 4 rfl rfl trivial ?_
  exact rt1 rfl rfl (ple_of (fun r : Bool => .bool r) e0 (ple rfl))
end Go.SW.V
set_option linter.unusedVariables false
set_option maxRecDepth 100000
set_option maxHeartbeats 4000000
namespace Go.SW.V
open Go.SW Go.Proofs
theorem cb107 : Callable Tryz.prog 107 := callable_of Tryz.func107 (by kernel_rfl) (by kernel_rfl)
theorem cb108 : Callable Tryz.prog 108 := callable_of Tryz.func108 (by kernel_rfl) (by kernel_rfl)
theorem cb110 : Callable Tryz.prog 110 := callable_of Tryz.func110 (by kernel_rfl) (by kernel_rfl)
theorem cb113 : Callable Tryz.prog 113 := callable_of Tryz.func113 (by kernel_rfl) (by kernel_rfl)
theorem cb152 : Callable Tryz.prog 152 := callable_of Tryz.func152 (by kernel_rfl) (by kernel_rfl)
theorem cb19 : Callable Tryz.prog 19 := callable_of Tryz.func19 (by kernel_rfl) (by kernel_rfl)
theorem cb21 : Callable Tryz.prog 21 := callable_of Tryz.func21 (by kernel_rfl) (by kernel_rfl)
theorem cb23 : Callable Tryz.prog 23 := callable_of Tryz.func23 (by kernel_rfl) (by kernel_rfl)
theorem cb69 : Callable Tryz.prog 69 := callable_of Tryz.func69 (by kernel_rfl) (by kernel_rfl)
theorem cb70 : Callable Tryz.prog 70 := callable_of Tryz.func70 (by kernel_rfl) (by kernel_rfl)
theorem cb72 : Callable Tryz.prog 72 := callable_of Tryz.func72 (by kernel_rfl) (by kernel_rfl)
theorem fl53_1 : Fld Tryz.prog 53 1 1 := fun b o w => by kernel_rfl
theorem sz72 : Sz Tryz.prog 72 8 := fun w => by kernel_rfl
def tbv80 : Tb := [(4, ⟨.bool, 1, 1, [.bool false]⟩),
  (5, ⟨.int .u8, 1, 1, [.int .u8 0]⟩),
  (9, ⟨.str, 1, 16, [.str []]⟩),
  (26, ⟨.slc 39, 1, 24, [.sl LentR.pc []]⟩),
  (27, ⟨.int .u64, 1, 8, [.int .u64 0]⟩),
  (28, ⟨.slc 53, 1, 24, [.sl DeedR.pc []]⟩),
  (32, ⟨.agg [(0, 1), (1, 1), (2, 1), (3, 1), (4, 1), (5, 1), (6, 1)], 7, 96, [.int .i64 0, .sl TakerR.pc [], .sl LentR.pc [], .bool false, .bool false, .int .u64 0, .sl DeedR.pc []]⟩),
  (39, ⟨.agg [(0, 1), (1, 1)], 2, 24, [.int .u64 0, .str []]⟩),
  (40, ⟨.int .i64, 1, 8, [.int .i64 0]⟩),
  (47, ⟨.slc 199, 1, 24, [.sl Pair.pc []]⟩),
  (51, ⟨.agg [(0, 1), (1, 1), (2, 1), (3, 1), (4, 1), (5, 1), (6, 1)], 7, 96, [.int .u64 0, .str [], .str [], .sl Pair.pc [], .str [], .int .u64 0, .int .u8 0]⟩),
  (53, ⟨.agg [(0, 1), (1, 1), (2, 3), (5, 4), (9, 6), (15, 1), (16, 1), (17, 1), (18, 1), (19, 1), (20, 1), (21, 7), (28, 1)], 29, 344, [.int .u8 0, .int .u64 0, .str [], .int .u8 0, .str [], .str [], .int .u64 0, .int .u64 0, .str [], .str [], .str [], .bool false, .str [], .sl Pair.pc [], .bool false, .str [], .int .u64 0, .int .u8 0, .int .u8 0, .int .u8 0, .int .u64 0, .int .u64 0, .str [], .str [], .sl Pair.pc [], .str [], .int .u64 0, .int .u8 0, .str []]⟩),
  (64, ⟨.agg [(0, 1), (1, 1), (2, 1), (3, 1), (4, 1), (5, 1), (6, 1), (7, 1), (8, 1), (9, 1)], 10, 120, [.int .u8 0, .int .u8 0, .str [], .str [], .str [], .sl Pair.pc [], .str [], .int .u64 0, .int .u64 0, .bool false]⟩),
  (72, ⟨.agg [(0, 7), (7, 1)], 8, 104, [.int .i64 0, .sl TakerR.pc [], .sl LentR.pc [], .bool false, .bool false, .int .u64 0, .sl DeedR.pc [], .bool false]⟩),
  (75, ⟨.agg [(0, 1), (1, 2), (3, 1), (4, 1), (5, 40)], 45, 568, [.str [], .str [], .int .i64 0, .bool false, .bool false, .int .i64 0, .sl TakerR.pc [], .sl LentR.pc [], .bool false, .bool false, .int .u64 0, .sl DeedR.pc [], .bool false, .int .i64 0, .sl TakerR.pc [], .sl LentR.pc [], .bool false, .bool false, .int .u64 0, .sl DeedR.pc [], .bool false, .int .i64 0, .sl TakerR.pc [], .sl LentR.pc [], .bool false, .bool false, .int .u64 0, .sl DeedR.pc [], .bool false, .int .i64 0, .sl TakerR.pc [], .sl LentR.pc [], .bool false, .bool false, .int .u64 0, .sl DeedR.pc [], .bool false, .int .i64 0, .sl TakerR.pc [], .sl LentR.pc [], .bool false, .bool false, .int .u64 0, .sl DeedR.pc [], .bool false]⟩),
  (77, ⟨.slc 137, 1, 24, [.sl Reply.pc []]⟩),
  (137, ⟨.agg [(0, 1), (1, 1), (2, 1), (3, 1), (4, 1), (5, 1), (6, 7)], 13, 144, [.int .u8 0, .int .u8 0, .int .u64 0, .int .u64 0, .bool false, .str [], .int .u64 0, .str [], .str [], .sl Pair.pc [], .str [], .int .u64 0, .int .u8 0]⟩)]
theorem tv80 : tbB Tryz.prog tbv80 = true := by kernel_rfl
theorem session_New_ok (place : Bs) : Fn Tryz.prog gb 19 [.str place] (.agg (SessionR.pc (session_New place))) := by
  refine fn_cw tv80 Tryz.func19 rfl Tryz.ntmps19 rfl cb19 rfl rfl fun w N H hG => ?_
  have place_l : place.length ≤ 9223372036854775807 := w.1
  have e0 := session_New.eq_1 place
  refine go tv80 2 rfl rfl trivial ?_
  refine ef (alloc tv80 0 rfl rfl rfl rfl fun b1 => ?_)
  refine go tv80 6 rfl rfl trivial ?_
  refine ef (storeA tv80 rfl rfl rfl rfl rfl rfl rfl rfl rfl rfl ?_)
  refine go tv80 3 rfl rfl trivial ?_
  exact rt1 rfl rfl (ple_of (fun r : SessionR => .agg (SessionR.pc r)) e0 (ple rfl))
theorem session_answer_ok (m : Method) (e : Int) : Fn Tryz.prog gb 70 [.agg (Method.pc m), .int .i64 e] (.sl Reply.pc (session_answer m e)) := by
  refine fn_cw tv80 Tryz.func70 rfl Tryz.ntmps70 rfl cb70 rfl rfl fun w N H hG => ?_
  have m_head_l : m.head.length ≤ 140737488355328 := w.1.2.2.2.2.2.1.1
  have e_r : -9223372036854775808 ≤ e ∧ e ≤ 9223372036854775807 := w.2.1
  have e0 := session_answer.eq_1 m e
  refine go tv80 2 rfl rfl trivial ?_
  refine ef (boxA 0 rfl rfl rfl fun b1 => ?_)
  refine go tv80 10 rfl rfl trivial ?_
  refine cnd rfl (fun h2 => ?_) (fun h2 => ?_)
  · have p3 := dt h2
    have e4 := e0.trans (condT h2)
    refine go tv80 5 rfl rfl trivial ?_
    refine ef (bsl 1 Reply.pc [(⟨m.channel, 1, 0, 0, false, [], (⟨0, [], [], [], [], 0, 0⟩ : Mail)⟩ : Reply)] tv80 rfl rfl rfl rfl rfl (fun _ => rfl) rfl (by decide) (by decide) rfl fun u5 => ?_)
    refine go tv80 3 rfl rfl trivial ?_
    refine givec 1 rfl ?_
    refine go tv80 2 rfl rfl trivial ?_
    exact rt1 rfl rfl (ple_of (fun r : (List Reply) => .sl Reply.pc r) e4 (ple rfl))
  have p6 := df h2
  have e7 := e0.trans (condF h2)
  refine go tv80 9 rfl rfl trivial ?_
  refine ef (bsl 1 Reply.pc [(⟨m.channel, 2, (IntKind.wrap .u64 e), 0, false, [], (⟨0, [], [], [], [], 0, 0⟩ : Mail)⟩ : Reply)] tv80 rfl rfl rfl rfl rfl (fun _ => rfl) rfl (by decide) (by decide) rfl fun u8 => ?_)
  refine go tv80 3 rfl rfl trivial ?_
  refine givec 1 rfl ?_
  refine go tv80 1 rfl rfl trivial ?_
  exact rt1 rfl rfl (ple_of (fun r : (List Reply) => .sl Reply.pc r) e7 (ple rfl))
theorem session_put_ok (m : Method) (tick : Int) (due : Int) (hh : m.head.length ≤ 1000000) : Fn Tryz.prog gb 110 [.agg (Method.pc m), .int .u64 tick, .int .u64 due] (.agg (DeedR.pc (session_put m tick due))) := by
  refine fn_cw tv80 Tryz.func110 rfl Tryz.ntmps110 rfl cb110 rfl rfl fun w N H hG => ?_
  have m_head_l : m.head.length ≤ 140737488355328 := w.1.2.2.2.2.2.1.1
  have tick_r : 0 ≤ tick ∧ tick ≤ 18446744073709551615 := w.2.1
  have due_r : 0 ≤ due ∧ due ≤ 18446744073709551615 := w.2.2.1
  have e0 := session_put.eq_1 m tick due
  refine go tv80 2 rfl rfl trivial ?_
  refine ef (boxA 0 rfl rfl rfl fun b1 => ?_)
  refine ef (alloc tv80 1 rfl rfl rfl rfl fun b2 => ?_)
  refine go tv80 3 rfl rfl trivial ?_
  refine any [1, 2, 3, 4, 5, 6, 7] 14 mixd rfl ?_
  refine gov tv80 [0, 1, 2, 3, 4, 5, 6, 8, 9, 10] 4 rfl (by kernel_rfl) rfl rfl trivial ?_
  refine ve 7 rfl (by kernel_rfl) rfl (ecall (clone_Pair _ (by first | omega | (simp; done) | (simp; omega))) rfl rfl fun w3 => ?_)
  refine gov tv80 [11, 12] 1 rfl (by kernel_rfl) rfl rfl trivial ?_
  refine vt 13 rfl (by kernel_rfl) (by kernel_rfl) (storeA tv80 rfl rfl rfl rfl rfl rfl rfl rfl rfl rfl ?_)
  refine vdone (by kernel_rfl) ?_
  refine go tv80 2 rfl rfl trivial ?_
  exact rt1 rfl rfl (ple_of (fun r : DeedR => .agg (DeedR.pc r)) e0 (ple rfl))
theorem session_back_ok (c : ChanR) (tick : Int) (hc : COk c 10000000) : Fn Tryz.prog gb 72 [.agg (ChanR.pc c), .int .u64 tick] (.sl DeedR.pc (session_back c tick)) := by
  refine fn_cw tv80 Tryz.func72 rfl Tryz.ntmps72 rfl cb72 rfl rfl fun w N H hG => ?_
  have c_takers_l : c.takers.length ≤ 140737488355328 := w.1.2.1.1
  have c_lent_l : c.lent.length ≤ 140737488355328 := w.1.2.2.1.1
  have c_held_l_l : c.held.l.length ≤ 140737488355328 := w.1.2.2.2.2.2.2.1.1
  have tick_r : 0 ≤ tick ∧ tick ≤ 18446744073709551615 := w.2.1
  obtain ⟨hc1, hc2, hc3, hc4⟩ := id hc
  obtain ⟨hcd1, hcd2, hcd3⟩ := id hc4
  have e0 := session_back.eq_1 c tick
  refine go tv80 2 rfl rfl trivial ?_
  refine ef (boxA 0 rfl rfl rfl fun b1 => ?_)
  refine go tv80 12 rfl rfl trivial ?_
  refine callv (chans_Chan_Unsettled c) (fun r : (List LentR) => .sl LentR.pc r) (chans_Chan_Unsettled_ok _ (by first | omega | (simp; omega) | decide +kernel)) rfl rfl fun r hr2 w3 => ?_
  have e4 := e0.trans (lt_eq hr2)
  have hA4 := uns_len c
  (try rw [← hr2] at hA4)
  refine go tv80 5 rfl rfl trivial ?_
  refine sw_own (t := 5) (k := 29) (e := 53) 1 DeedR.pc rfl rfl ?_
  refine loop (ι := Nat × (List DeedR) × Value) [1, 4, 9, 10] [0] (fun ⟨k, out, u_out⟩ => [(11, .int .i64 (k : Int)), (5, .osl 1)]) (fun ⟨k, out, u_out⟩ => [(1, .arr u_out 29 53 DeedR.pc out)]) (fun ⟨k, out, u_out⟩ => k ≤ r.length ∧ session_back c tick = session_back_l0 tick (r.drop k)  out ∧ out.length ≤ k) (fun ⟨k, out, u_out⟩ => r.length - k) ⟨0, [], (.slice none 0 0)⟩ ⟨rfl, rfl, trivial⟩ ⟨rfl, trivial⟩ ?_ ?_
  · exact ⟨Nat.zero_le _, e4, (by first | omega | (simp; done) | (simp; omega))⟩
  rintro ⟨k, out, u_out⟩ ⟨hp6_1, hp6_2, hp6_3⟩
  refine go tv80 6 rfl rfl trivial ?_
  refine cnd rfl (fun h7 => ?_) (fun h7 => ?_)
  · have p8 := dt h7
    have e9 := lstep (f := fun zz => session_back_l0 tick zz  out) hp6_2 (dropG (by omega)) (session_back_l0.eq_2 _ _ _ _)
    have hc10 := getG (xs := r) (k := k) (by omega)
    refine go tv80 6 rfl rfl trivial ?_
    refine q1 (qidx tv80 k rfl rfl rfl hc10 rfl rfl rfl rfl) rfl fun w11 => ?_
    refine go tv80 1 rfl rfl trivial ?_
    refine ef (alloc tv80 2 rfl rfl rfl rfl fun b12 => ?_)
    refine ef (storeA tv80 rfl rfl rfl rfl rfl rfl rfl rfl rfl rfl ?_)
    refine go tv80 10 rfl rfl trivial ?_
    refine ef (bsl 3 DeedR.pc [(⟨8, tick, (⟨[], 0, []⟩ : ShopR), (⟨[], 0, 0, []⟩ : QueueR), (⟨[], [], false, [], [], false⟩ : BindR), (gt r k).queue, (gt r k).id, 2, 0, 0, 0, (⟨0, [], [], [], [], 0, 0⟩ : Mail), []⟩ : DeedR)] tv80 rfl rfl rfl rfl rfl (fun _ => rfl) rfl (by decide) (by decide) rfl fun u13 => ?_)
    refine ef (app tv80 [(⟨8, tick, (⟨[], 0, []⟩ : ShopR), (⟨[], 0, 0, []⟩ : QueueR), (⟨[], [], false, [], [], false⟩ : BindR), (gt r k).queue, (gt r k).id, 2, 0, 0, 0, (⟨0, [], [], [], [], 0, 0⟩ : Mail), []⟩ : DeedR)] rfl rfl rfl rfl rfl rfl rfl rfl rfl (src_o rfl rfl) (by first | omega | (simp; omega)) rfl fun u14 => ?_)
    refine go tv80 8 rfl rfl ⟨(by omega), trivial⟩ ?_
    refine next ⟨(k + 1), (out ++ [(⟨8, tick, (⟨[], 0, []⟩ : ShopR), (⟨[], 0, 0, []⟩ : QueueR), (⟨[], [], false, [], [], false⟩ : BindR), (gt r k).queue, (gt r k).id, 2, 0, 0, 0, (⟨0, [], [], [], [], 0, 0⟩ : Mail), []⟩ : DeedR)]), (u14)⟩ rfl rfl ⟨rfl, rfl, trivial⟩ ⟨rfl, trivial⟩ ?_ ?_
    · (try simp only []); omega
    exact ⟨by (try simp only []); omega, e9, (by (try simp only [List.length_append, List.length_cons, List.length_nil]); omega)⟩
  have p15 := df h7
  have e16 := lstep (f := fun zz => session_back_l0 tick zz  out) hp6_2 (dropN (by omega)) (session_back_l0.eq_1 _ _)
  refine go tv80 11 rfl rfl trivial ?_
  refine givec 1 rfl ?_
  refine go tv80 1 rfl rfl trivial ?_
  exact rt1 rfl rfl (ple_of (fun r : (List DeedR) => .sl DeedR.pc r) e16 (ple rfl))
theorem session_at_ok (l : List DeedR) (tick : Int) : Fl Tryz.prog gb 113 [.int .u64 tick] (fun u => .val u) 29 53 DeedR.pc l (session_at l tick) := by
  refine fl_cw tv80 Tryz.func113 rfl Tryz.ntmps113 rfl cb113 (fun _ => rfl) rfl fun w l_l u0 N H hG => ?_
  have tick_r : 0 ≤ tick ∧ tick ≤ 18446744073709551615 := w.1
  have e0 := session_at.eq_1 l tick
  refine go tv80 14 rfl rfl trivial ?_
  refine loop (ι := Nat × (List DeedR) × Nat × Value) [1, 4, 7] [] (fun ⟨f, l1, v, u_l1⟩ => [(0, .osl 0), (8, .int .i64 (v : Int))]) (fun ⟨f, l1, v, u_l1⟩ => [(0, .arr u_l1 29 53 DeedR.pc l1)]) (fun ⟨f, l1, v, u_l1⟩ => l.length - v < f ∧ session_at l tick = session_at_l0 l tick f l1 v ∧ l1.length = l.length) (fun ⟨f, l1, v, u_l1⟩ => f) ⟨(l.length - 0 + 1), l, 0, (u0)⟩ ⟨rfl, rfl, trivial⟩ ⟨rfl, trivial⟩ ?_ ?_
  · exact ⟨Nat.lt_succ_self _, e0, rfl⟩
  rintro ⟨f, l1, v, u_l1⟩ ⟨hp1_1, hp1_2, hp1_3⟩
  obtain ⟨f1, rfl⟩ : ∃ q, f = q + 1 := ⟨f - 1, by omega⟩
  have e_f1 := hp1_2.trans (session_at_l0.eq_2 _ _ _ _ _)
  refine go tv80 6 rfl rfl trivial ?_
  refine cnd rfl (fun h2 => ?_) (fun h2 => ?_)
  · have p3 := dt h2
    have e4 := e_f1.trans (condT h2)
    refine go tv80 14 rfl rfl trivial ?_
    refine q1 (eidx v tv80 rfl rfl rfl rfl rfl rfl rfl rfl (by omega)) rfl fun w5 => ?_
    refine q1 (efld rfl fl53_1) rfl fun w6 => ?_
    have hc7 := getG (xs := l1) (k := v) (by omega)
    refine ef (est1 (i := 0) v 1 (⟨(gt l1 v).kind, tick, (gt l1 v).shop, (gt l1 v).queue, (gt l1 v).bind, (gt l1 v).name, (gt l1 v).id, (gt l1 v).how, (gt l1 v).frm, (gt l1 v).code, (gt l1 v).number, (gt l1 v).mail, (gt l1 v).text⟩ : DeedR) tv80 rfl rfl rfl rfl rfl rfl (by omega) rfl (by decide) (fun _ h => by obtain rfl := Option.some.inj (h.symm.trans hc7); rfl) ?_)
    have hset7 : (l1.set v (⟨(gt l1 v).kind, tick, (gt l1 v).shop, (gt l1 v).queue, (gt l1 v).bind, (gt l1 v).name, (gt l1 v).id, (gt l1 v).how, (gt l1 v).frm, (gt l1 v).code, (gt l1 v).number, (gt l1 v).mail, (gt l1 v).text⟩ : DeedR)).length = l1.length := List.length_set ..
    refine go tv80 7 rfl rfl ⟨(by omega), trivial⟩ ?_
    refine next ⟨f1, (l1.set v (⟨(gt l1 v).kind, tick, (gt l1 v).shop, (gt l1 v).queue, (gt l1 v).bind, (gt l1 v).name, (gt l1 v).id, (gt l1 v).how, (gt l1 v).frm, (gt l1 v).code, (gt l1 v).number, (gt l1 v).mail, (gt l1 v).text⟩ : DeedR)), (v + 1), (u_l1)⟩ rfl rfl ⟨rfl, rfl, trivial⟩ ⟨rfl, trivial⟩ ?_ ?_
    · (try simp only []); omega
    exact ⟨by (try simp only []); omega, e4, by (try simp only [List.length_set]); omega⟩
  have p9 := df h2
  have e10 := e_f1.trans (condF h2)
  refine go tv80 11 rfl rfl trivial ?_
  refine sw_val (t := 4) (i := 0) rfl rfl ?_
  refine go tv80 1 rfl rfl trivial ?_
  refine ro1 (j := 0) rfl rfl rfl ?_
  exact (congrArg (fun r : (List DeedR) => r) e10).symm
theorem session_own_ok (c : ChanR) (m : Method) (hc : COk c 10000000) : Fn Tryz.prog gb 107 [.agg (ChanR.pc c), .agg (Method.pc m)] (.tup [.agg (ChanR.pc ((session_own c m).1)), .int .i64 ((session_own c m).2.1), .bool ((session_own c m).2.2)]) := by
  refine fn_cw tv80 Tryz.func107 rfl Tryz.ntmps107 rfl cb107 rfl rfl fun w N H hG => ?_
  have c_takers_l : c.takers.length ≤ 140737488355328 := w.1.2.1.1
  have c_lent_l : c.lent.length ≤ 140737488355328 := w.1.2.2.1.1
  have c_held_l_l : c.held.l.length ≤ 140737488355328 := w.1.2.2.2.2.2.2.1.1
  have m_head_l : m.head.length ≤ 140737488355328 := w.2.1.2.2.2.2.2.1.1
  obtain ⟨hc1, hc2, hc3, hc4⟩ := id hc
  obtain ⟨hcd1, hcd2, hcd3⟩ := id hc4
  have e0 := session_own.eq_1 c m
  refine go tv80 2 rfl rfl trivial ?_
  refine ef (boxA 0 rfl rfl rfl fun b1 => ?_)
  refine ef (boxA 1 rfl rfl rfl fun b2 => ?_)
  refine ef (alloc tv80 2 rfl rfl rfl rfl fun b3 => ?_)
  refine go tv80 23 rfl rfl trivial ?_
  refine cnd rfl (fun h4 => ?_) (fun h4 => ?_)
  · have p5 := dt h4
    have e6 := e0.trans (condT h4)
    refine go tv80 4 rfl rfl trivial ?_
    refine callv (chans_Chan_Credit c m.n) (fun r : ChanR × Int => .tup [.agg (ChanR.pc r.1), .int .i64 r.2]) (chans_Chan_Credit_ok _ _) rfl rfl fun r hr7 w8 => ?_
    have e9 := e6.trans (lt_eq hr7)
    have hA9 := credit_ok c m.n
    (try rw [← hr7] at hA9)
    have hA10 := fun h => cok_Credit (c := c) (n := 0) m.n h
    (try rw [← hr7] at hA10)
    (try have hA10b := hA10 (by first | assumption | omega | exact dok_nil | (simp; done)))
    refine go tv80 3 rfl rfl trivial ?_
    refine ef (storeA tv80 rfl rfl rfl rfl rfl rfl rfl rfl rfl rfl ?_)
    refine go tv80 8 rfl rfl trivial ?_
    refine ef (storeA tv80 rfl rfl rfl rfl rfl rfl rfl rfl rfl rfl ?_)
    refine go tv80 5 rfl rfl trivial ?_
    exact rt3 rfl rfl (ple_of (fun r : ChanR × Int × Bool => .tup [.agg (ChanR.pc r.1), .int .i64 r.2.1, .bool r.2.2]) e9 (ple rfl))
  have p12 := df h4
  have e13 := e0.trans (condF h4)
  refine go tv80 6 rfl rfl trivial ?_
  refine cnd rfl (fun h14 => ?_) (fun h14 => ?_)
  · have p15 := dt h14
    have e16 := e13.trans (condT h14)
    refine go tv80 6 rfl rfl trivial ?_
    refine callv (chans_Chan_Take c m.n m.name) (fun r : ChanR × Int => .tup [.agg (ChanR.pc r.1), .int .i64 r.2]) (chans_Chan_Take_ok _ _ _ (by first | omega | (simp; omega) | decide +kernel)) rfl rfl fun r1 hr17 w18 => ?_
    have e19 := e16.trans (lt_eq hr17)
    refine go tv80 3 rfl rfl trivial ?_
    refine ef (storeA tv80 rfl rfl rfl rfl rfl rfl rfl rfl rfl rfl ?_)
    refine go tv80 8 rfl rfl trivial ?_
    refine ef (storeA tv80 rfl rfl rfl rfl rfl rfl rfl rfl rfl rfl ?_)
    refine go tv80 5 rfl rfl trivial ?_
    exact rt3 rfl rfl (ple_of (fun r : ChanR × Int × Bool => .tup [.agg (ChanR.pc r.1), .int .i64 r.2.1, .bool r.2.2]) e19 (ple rfl))
  have p20 := df h14
  have e21 := e13.trans (condF h14)
  refine go tv80 6 rfl rfl trivial ?_
  refine cnd rfl (fun h22 => ?_) (fun h22 => ?_)
  · have p23 := dt h22
    have e24 := e21.trans (condT h22)
    refine go tv80 4 rfl rfl trivial ?_
    refine callv (chans_Chan_Leave c m.n) (fun r : ChanR × Int => .tup [.agg (ChanR.pc r.1), .int .i64 r.2]) (chans_Chan_Leave_ok _ _ (by first | omega | (simp; omega) | decide +kernel)) rfl rfl fun r2 hr25 w26 => ?_
    have e27 := e24.trans (lt_eq hr25)
    refine go tv80 3 rfl rfl trivial ?_
    refine ef (storeA tv80 rfl rfl rfl rfl rfl rfl rfl rfl rfl rfl ?_)
    refine go tv80 8 rfl rfl trivial ?_
    refine ef (storeA tv80 rfl rfl rfl rfl rfl rfl rfl rfl rfl rfl ?_)
    refine go tv80 5 rfl rfl trivial ?_
    exact rt3 rfl rfl (ple_of (fun r : ChanR × Int × Bool => .tup [.agg (ChanR.pc r.1), .int .i64 r.2.1, .bool r.2.2]) e27 (ple rfl))
  have p28 := df h22
  have e29 := e21.trans (condF h22)
  refine go tv80 6 rfl rfl trivial ?_
  refine cnd rfl (fun h30 => ?_) (fun h30 => ?_)
  · have p31 := dt h30
    have e32 := e29.trans (condT h30)
    refine go tv80 2 rfl rfl trivial ?_
    refine callv (chans_Chan_Sure c) (fun r : ChanR × Int => .tup [.agg (ChanR.pc r.1), .int .i64 r.2]) (chans_Chan_Sure_ok _) rfl rfl fun r3 hr33 w34 => ?_
    have e35 := e32.trans (lt_eq hr33)
    refine go tv80 3 rfl rfl trivial ?_
    refine ef (storeA tv80 rfl rfl rfl rfl rfl rfl rfl rfl rfl rfl ?_)
    refine go tv80 8 rfl rfl trivial ?_
    refine ef (storeA tv80 rfl rfl rfl rfl rfl rfl rfl rfl rfl rfl ?_)
    refine go tv80 5 rfl rfl trivial ?_
    exact rt3 rfl rfl (ple_of (fun r : ChanR × Int × Bool => .tup [.agg (ChanR.pc r.1), .int .i64 r.2.1, .bool r.2.2]) e35 (ple rfl))
  have p36 := df h30
  have e37 := e29.trans (condF h30)
  refine go tv80 6 rfl rfl trivial ?_
  refine cnd rfl (fun h38 => ?_) (fun h38 => ?_)
  · have p39 := dt h38
    have e40 := e37.trans (condT h38)
    refine go tv80 2 rfl rfl trivial ?_
    refine callv (chans_Chan_Draft c) (fun r : ChanR × Int => .tup [.agg (ChanR.pc r.1), .int .i64 r.2]) (chans_Chan_Draft_ok _) rfl rfl fun r4 hr41 w42 => ?_
    have e43 := e40.trans (lt_eq hr41)
    refine go tv80 3 rfl rfl trivial ?_
    refine ef (storeA tv80 rfl rfl rfl rfl rfl rfl rfl rfl rfl rfl ?_)
    refine go tv80 8 rfl rfl trivial ?_
    refine ef (storeA tv80 rfl rfl rfl rfl rfl rfl rfl rfl rfl rfl ?_)
    refine go tv80 5 rfl rfl trivial ?_
    exact rt3 rfl rfl (ple_of (fun r : ChanR × Int × Bool => .tup [.agg (ChanR.pc r.1), .int .i64 r.2.1, .bool r.2.2]) e43 (ple rfl))
  have p44 := df h38
  have e45 := e37.trans (condF h38)
  refine go tv80 6 rfl rfl trivial ?_
  refine cnd rfl (fun h46 => ?_) (fun h46 => ?_)
  · have p47 := dt h46
    have e48 := e45.trans (condT h46)
    refine go tv80 2 rfl rfl trivial ?_
    refine callv (chans_Chan_Undo c) (fun r : ChanR × Int => .tup [.agg (ChanR.pc r.1), .int .i64 r.2]) (chans_Chan_Undo_ok _) rfl rfl fun r5 hr49 w50 => ?_
    have e51 := e48.trans (lt_eq hr49)
    refine go tv80 3 rfl rfl trivial ?_
    refine ef (storeA tv80 rfl rfl rfl rfl rfl rfl rfl rfl rfl rfl ?_)
    refine go tv80 8 rfl rfl trivial ?_
    refine ef (storeA tv80 rfl rfl rfl rfl rfl rfl rfl rfl rfl rfl ?_)
    refine go tv80 5 rfl rfl trivial ?_
    exact rt3 rfl rfl (ple_of (fun r : ChanR × Int × Bool => .tup [.agg (ChanR.pc r.1), .int .i64 r.2.1, .bool r.2.2]) e51 (ple rfl))
  have p52 := df h46
  have e53 := e45.trans (condF h46)
  refine go tv80 4 rfl rfl trivial ?_
  refine ef (storeA tv80 rfl rfl rfl rfl rfl rfl rfl rfl rfl rfl ?_)
  refine go tv80 7 rfl rfl trivial ?_
  exact rt3 rfl rfl (ple_of (fun r : ChanR × Int × Bool => .tup [.agg (ChanR.pc r.1), .int .i64 r.2.1, .bool r.2.2]) e53 (ple rfl))
theorem session_Session_Begun_ok (s : SessionR) : Fn Tryz.prog gb 21 [.agg (SessionR.pc s)] (.bool (session_Session_Begun s)) := by
  refine fn_cw tv80 Tryz.func21 rfl Tryz.ntmps21 rfl cb21 rfl rfl fun w N H hG => ?_
  have e0 := session_Session_Begun.eq_1 s
  refine go tv80 2 rfl rfl trivial ?_
  refine ef (boxA 0 rfl rfl rfl fun b1 => ?_)
  refine go tv80 11 rfl rfl trivial ?_
  exact rt1 rfl rfl (ple_of (fun r : Bool => .bool r) e0 (ple rfl))
theorem session_Session_Over_ok (s : SessionR) : Fn Tryz.prog gb 23 [.agg (SessionR.pc s)] (.bool (session_Session_Over s)) := by
  refine fn_cw tv80 Tryz.func23 rfl Tryz.ntmps23 rfl cb23 rfl rfl fun w N H hG => ?_
  have e0 := session_Session_Over.eq_1 s
  refine go tv80 2 rfl rfl trivial ?_
  refine ef (boxA 0 rfl rfl rfl fun b1 => ?_)
  refine go tv80 11 rfl rfl trivial ?_
  exact rt1 rfl rfl (ple_of (fun r : Bool => .bool r) e0 (ple rfl))
theorem session_Session_may_ok (s : SessionR) (m : Method) : Fn Tryz.prog gb 69 [.agg (SessionR.pc s), .agg (Method.pc m)] (.int .i64 (session_Session_may s m)) := by
  refine fn_cw tv80 Tryz.func69 rfl Tryz.ntmps69 rfl cb69 rfl rfl fun w N H hG => ?_
  have s_place_l : s.place.length ≤ 9223372036854775807 := w.1.1
  have s_feed_rest_l : s.feed.rest.length ≤ 9223372036854775807 := w.1.2.1
  have s_feed_err_r : -9223372036854775808 ≤ s.feed.err ∧ s.feed.err ≤ 9223372036854775807 := w.1.2.2.1
  have s_slots_e0_chan_credit_r : -9223372036854775808 ≤ s.slots.e0.chan.credit ∧ s.slots.e0.chan.credit ≤ 9223372036854775807 := w.1.2.2.2.2.2.1
  have s_slots_e0_chan_puts_r : 0 ≤ s.slots.e0.chan.puts ∧ s.slots.e0.chan.puts ≤ 18446744073709551615 := w.1.2.2.2.2.2.2.2.2.2.2.1
  have s_slots_e1_chan_credit_r : -9223372036854775808 ≤ s.slots.e1.chan.credit ∧ s.slots.e1.chan.credit ≤ 9223372036854775807 := w.1.2.2.2.2.2.2.2.2.2.2.2.2.2.1
  have s_slots_e1_chan_puts_r : 0 ≤ s.slots.e1.chan.puts ∧ s.slots.e1.chan.puts ≤ 18446744073709551615 := w.1.2.2.2.2.2.2.2.2.2.2.2.2.2.2.2.2.2.2.1
  have s_slots_e2_chan_credit_r : -9223372036854775808 ≤ s.slots.e2.chan.credit ∧ s.slots.e2.chan.credit ≤ 9223372036854775807 := w.1.2.2.2.2.2.2.2.2.2.2.2.2.2.2.2.2.2.2.2.2.2.1
  have s_slots_e2_chan_puts_r : 0 ≤ s.slots.e2.chan.puts ∧ s.slots.e2.chan.puts ≤ 18446744073709551615 := w.1.2.2.2.2.2.2.2.2.2.2.2.2.2.2.2.2.2.2.2.2.2.2.2.2.2.2.1
  have s_slots_e3_chan_credit_r : -9223372036854775808 ≤ s.slots.e3.chan.credit ∧ s.slots.e3.chan.credit ≤ 9223372036854775807 := w.1.2.2.2.2.2.2.2.2.2.2.2.2.2.2.2.2.2.2.2.2.2.2.2.2.2.2.2.2.2.1
  have s_slots_e3_chan_puts_r : 0 ≤ s.slots.e3.chan.puts ∧ s.slots.e3.chan.puts ≤ 18446744073709551615 := w.1.2.2.2.2.2.2.2.2.2.2.2.2.2.2.2.2.2.2.2.2.2.2.2.2.2.2.2.2.2.2.2.2.2.2.1
  have s_slots_e4_chan_credit_r : -9223372036854775808 ≤ s.slots.e4.chan.credit ∧ s.slots.e4.chan.credit ≤ 9223372036854775807 := w.1.2.2.2.2.2.2.2.2.2.2.2.2.2.2.2.2.2.2.2.2.2.2.2.2.2.2.2.2.2.2.2.2.2.2.2.2.2.1
  have s_slots_e4_chan_puts_r : 0 ≤ s.slots.e4.chan.puts ∧ s.slots.e4.chan.puts ≤ 18446744073709551615 := w.1.2.2.2.2.2.2.2.2.2.2.2.2.2.2.2.2.2.2.2.2.2.2.2.2.2.2.2.2.2.2.2.2.2.2.2.2.2.2.2.2.2.2.1
  have m_channel_r : 0 ≤ m.channel ∧ m.channel ≤ 255 := w.2.1.1
  have m_kind_r : 0 ≤ m.kind ∧ m.kind ≤ 255 := w.2.1.2.1
  have m_name_l : m.name.length ≤ 9223372036854775807 := w.2.1.2.2.1
  have m_other_l : m.other.length ≤ 9223372036854775807 := w.2.1.2.2.2.1
  have m_key_l : m.key.length ≤ 9223372036854775807 := w.2.1.2.2.2.2.1
  have m_head_l : m.head.length ≤ 140737488355328 := w.2.1.2.2.2.2.2.1.1
  have m_body_l : m.body.length ≤ 9223372036854775807 := w.2.1.2.2.2.2.2.2.1
  have m_n_r : 0 ≤ m.n ∧ m.n ≤ 18446744073709551615 := w.2.1.2.2.2.2.2.2.2.1
  have m_m_r : 0 ≤ m.m ∧ m.m ≤ 18446744073709551615 := w.2.1.2.2.2.2.2.2.2.2.1
  have e0 := session_Session_may.eq_1 s m
  refine go tv80 2 rfl rfl trivial ?_
  refine ef (boxA 0 rfl rfl rfl fun b1 => ?_)
  refine ef (boxA 1 rfl rfl rfl fun b2 => ?_)
  refine go tv80 20 rfl rfl trivial ?_
  refine cnd rfl (fun h3 => ?_) (fun h3 => ?_)
  · have e4 := e0.trans (condT h3)
    refine go tv80 8 rfl rfl trivial ?_
    exact rt1 rfl rfl (ple_of (fun r : Int => .int .i64 r) e4 (ple rfl))
  have e5 := e0.trans (condF h3)
  refine go tv80 17 rfl rfl ⟨(fun hc => hc), (fun hc => hc), (fun hc => hc), (fun hc => hc), (fun hc => hc), (fun hc => (by rw [hc]; rfl)), (fun hc => rfl), rfl, rfl, trivial⟩ ?_
  refine cnd rfl (fun h6 => ?_) (fun h6 => ?_)
  · have h7 := bl h6
    have h8 := not_t h7
    have h9 := br h6
    have e10 := e5.trans (condT h6)
    refine go tv80 8 rfl rfl trivial ?_
    exact rt1 rfl rfl (ple_of (fun r : Int => .int .i64 r) e10 (ple rfl))
  have e11 := e5.trans (condF h6)
  refine go tv80 13 rfl rfl ⟨(fun hc => hc), (fun hc => hc), rfl, rfl, trivial⟩ ?_
  refine cnd rfl (fun h12 => ?_) (fun h12 => ?_)
  · have h13 := bl h12
    have h14 := not_t h13
    have h15 := br h12
    have h16 := not_t h15
    have p17 := df h16
    have e18 := e11.trans (condT h12)
    refine go tv80 8 rfl rfl trivial ?_
    exact rt1 rfl rfl (ple_of (fun r : Int => .int .i64 r) e18 (ple rfl))
  have e19 := e11.trans (condF h12)
  refine go tv80 8 rfl rfl trivial ?_
  refine cnd rfl (fun h20 => ?_) (fun h20 => ?_)
  · have h21 := not_t h20
    have e22 := e19.trans (condT h20)
    refine go tv80 8 rfl rfl trivial ?_
    exact rt1 rfl rfl (ple_of (fun r : Int => .int .i64 r) e22 (ple rfl))
  have h23 := not_f h20
  have e24 := e19.trans (condF h20)
  refine go tv80 11 rfl rfl ⟨(fun hc => hc), (fun hc => hc), rfl, rfl, trivial⟩ ?_
  refine cnd rfl (fun h25 => ?_) (fun h25 => ?_)
  · have e26 := e24.trans (condT h25)
    refine go tv80 8 rfl rfl trivial ?_
    exact rt1 rfl rfl (ple_of (fun r : Int => .int .i64 r) e26 (ple rfl))
  have h27 := orl h25
  have p28 := df h27
  have h29 := orr h25
  have p30 := df h29
  have e31 := e24.trans (condF h25)
  refine go tv80 8 rfl rfl trivial ?_
  refine cnd rfl (fun h32 => ?_) (fun h32 => ?_)
  · have p33 := dt h32
    have e34 := e31.trans (condT h32)
    refine go tv80 8 rfl rfl trivial ?_
    exact rt1 rfl rfl (ple_of (fun r : Int => .int .i64 r) e34 (ple rfl))
  have p35 := df h32
  have e36 := e31.trans (condF h32)
  refine go tv80 1 rfl rfl trivial ?_
  refine any [2, 3, 4, 5, 6, 7] 11 mixd rfl ?_
  refine gov tv80 [0, 1, 2] 8 rfl (by kernel_rfl) rfl rfl trivial ?_
  refine vq 3 (qaia (m.channel).toNat rfl rfl Tryz.underlying73 sz72 (by omega) (by omega)) rfl (by kernel_rfl) rfl fun w37 => ?_
  refine gov tv80 [4, 6, 7, 8] 3 rfl (by kernel_rfl) rfl rfl trivial ?_
  refine ve 5 rfl (by kernel_rfl) rfl (oloadS1 (len := 5) (fun q => .bool ((A5.get s.slots q).isopen)) ((m.channel).toNat) 5 8 7 tv80 rfl rfl rfl rfl rfl rfl (by omega) (bw5 rfl rfl rfl rfl rfl) rfl fun w38 => ?_)
  refine gov tv80 [9, 10] 0 rfl (by kernel_rfl) rfl rfl trivial ?_
  refine vdone (by kernel_rfl) ?_
  refine go tv80 1 rfl rfl trivial ?_
  refine cnd rfl (fun h39 => ?_) (fun h39 => ?_)
  · have p40 := beqT h39
    have e41 := e36.trans (condT h39)
    refine go tv80 8 rfl rfl trivial ?_
    exact rt1 rfl rfl (ple_of (fun r : Int => .int .i64 r) e41 (ple rfl))
  have p42 := beqF h39
  have e43 := e36.trans (condF h39)
  refine go tv80 9 rfl rfl trivial ?_
  exact rt1 rfl rfl (ple_of (fun r : Int => .int .i64 r) e43 (ple rfl))
theorem session_Session_with_ok (s : SessionR) (m : Method) (c : ChanR) (hm : m.channel ≤ 4) : Fn Tryz.prog gb 108 [.agg (SessionR.pc s), .agg (Method.pc m), .agg (ChanR.pc c)] (.agg (SessionR.pc (session_Session_with s m c))) := by
  refine fn_cw tv80 Tryz.func108 rfl Tryz.ntmps108 rfl cb108 rfl rfl fun w N H hG => ?_
  have s_place_l : s.place.length ≤ 9223372036854775807 := w.1.1
  have s_feed_rest_l : s.feed.rest.length ≤ 9223372036854775807 := w.1.2.1
  have s_feed_err_r : -9223372036854775808 ≤ s.feed.err ∧ s.feed.err ≤ 9223372036854775807 := w.1.2.2.1
  have s_slots_e0_chan_credit_r : -9223372036854775808 ≤ s.slots.e0.chan.credit ∧ s.slots.e0.chan.credit ≤ 9223372036854775807 := w.1.2.2.2.2.2.1
  have s_slots_e0_chan_puts_r : 0 ≤ s.slots.e0.chan.puts ∧ s.slots.e0.chan.puts ≤ 18446744073709551615 := w.1.2.2.2.2.2.2.2.2.2.2.1
  have s_slots_e1_chan_credit_r : -9223372036854775808 ≤ s.slots.e1.chan.credit ∧ s.slots.e1.chan.credit ≤ 9223372036854775807 := w.1.2.2.2.2.2.2.2.2.2.2.2.2.2.1
  have s_slots_e1_chan_puts_r : 0 ≤ s.slots.e1.chan.puts ∧ s.slots.e1.chan.puts ≤ 18446744073709551615 := w.1.2.2.2.2.2.2.2.2.2.2.2.2.2.2.2.2.2.2.1
  have s_slots_e2_chan_credit_r : -9223372036854775808 ≤ s.slots.e2.chan.credit ∧ s.slots.e2.chan.credit ≤ 9223372036854775807 := w.1.2.2.2.2.2.2.2.2.2.2.2.2.2.2.2.2.2.2.2.2.2.1
  have s_slots_e2_chan_puts_r : 0 ≤ s.slots.e2.chan.puts ∧ s.slots.e2.chan.puts ≤ 18446744073709551615 := w.1.2.2.2.2.2.2.2.2.2.2.2.2.2.2.2.2.2.2.2.2.2.2.2.2.2.2.1
  have s_slots_e3_chan_credit_r : -9223372036854775808 ≤ s.slots.e3.chan.credit ∧ s.slots.e3.chan.credit ≤ 9223372036854775807 := w.1.2.2.2.2.2.2.2.2.2.2.2.2.2.2.2.2.2.2.2.2.2.2.2.2.2.2.2.2.2.1
  have s_slots_e3_chan_puts_r : 0 ≤ s.slots.e3.chan.puts ∧ s.slots.e3.chan.puts ≤ 18446744073709551615 := w.1.2.2.2.2.2.2.2.2.2.2.2.2.2.2.2.2.2.2.2.2.2.2.2.2.2.2.2.2.2.2.2.2.2.2.1
  have s_slots_e4_chan_credit_r : -9223372036854775808 ≤ s.slots.e4.chan.credit ∧ s.slots.e4.chan.credit ≤ 9223372036854775807 := w.1.2.2.2.2.2.2.2.2.2.2.2.2.2.2.2.2.2.2.2.2.2.2.2.2.2.2.2.2.2.2.2.2.2.2.2.2.2.1
  have s_slots_e4_chan_puts_r : 0 ≤ s.slots.e4.chan.puts ∧ s.slots.e4.chan.puts ≤ 18446744073709551615 := w.1.2.2.2.2.2.2.2.2.2.2.2.2.2.2.2.2.2.2.2.2.2.2.2.2.2.2.2.2.2.2.2.2.2.2.2.2.2.2.2.2.2.2.1
  have m_channel_r : 0 ≤ m.channel ∧ m.channel ≤ 255 := w.2.1.1
  have m_kind_r : 0 ≤ m.kind ∧ m.kind ≤ 255 := w.2.1.2.1
  have m_name_l : m.name.length ≤ 9223372036854775807 := w.2.1.2.2.1
  have m_other_l : m.other.length ≤ 9223372036854775807 := w.2.1.2.2.2.1
  have m_key_l : m.key.length ≤ 9223372036854775807 := w.2.1.2.2.2.2.1
  have m_head_l : m.head.length ≤ 140737488355328 := w.2.1.2.2.2.2.2.1.1
  have m_body_l : m.body.length ≤ 9223372036854775807 := w.2.1.2.2.2.2.2.2.1
  have m_n_r : 0 ≤ m.n ∧ m.n ≤ 18446744073709551615 := w.2.1.2.2.2.2.2.2.2.1
  have m_m_r : 0 ≤ m.m ∧ m.m ≤ 18446744073709551615 := w.2.1.2.2.2.2.2.2.2.2.1
  have c_credit_r : -9223372036854775808 ≤ c.credit ∧ c.credit ≤ 9223372036854775807 := w.2.2.1.1
  have c_takers_l : c.takers.length ≤ 140737488355328 := w.2.2.1.2.1.1
  have c_lent_l : c.lent.length ≤ 140737488355328 := w.2.2.1.2.2.1.1
  have c_puts_r : 0 ≤ c.puts ∧ c.puts ≤ 18446744073709551615 := w.2.2.1.2.2.2.2.2.1
  have c_held_l_l : c.held.l.length ≤ 140737488355328 := w.2.2.1.2.2.2.2.2.2.1.1
  have e0 := session_Session_with.eq_1 s m c
  refine go tv80 2 rfl rfl trivial ?_
  refine ef (boxA 0 rfl rfl rfl fun b1 => ?_)
  refine ef (boxA 1 rfl rfl rfl fun b2 => ?_)
  refine ef (boxA 2 rfl rfl rfl fun b3 => ?_)
  refine ef (alloc tv80 3 rfl rfl rfl rfl fun b4 => ?_)
  refine go tv80 8 rfl rfl trivial ?_
  refine q1 (qaia (m.channel).toNat rfl rfl Tryz.underlying73 sz72 (by omega) (by omega)) rfl fun w5 => ?_
  refine go tv80 1 rfl rfl trivial ?_
  refine ef (ostoreSA (sz := 7) (len := 5) (fun q => SessionR.pc (⟨s.place, s.feed, s.begun, s.over, (A5.set s.slots (⟨c, (A5.get s.slots q).isopen⟩ : SlotR) q)⟩ : SessionR)) ((m.channel).toNat) 5 8 0 tv80 rfl rfl rfl rfl rfl rfl rfl rfl rfl (by omega) (bw5 rfl rfl rfl rfl rfl) rfl (bw5 rfl rfl rfl rfl rfl) rfl ?_)
  refine go tv80 5 rfl rfl trivial ?_
  refine ef (storeA tv80 rfl rfl rfl rfl rfl rfl rfl rfl rfl rfl ?_)
  refine go tv80 3 rfl rfl trivial ?_
  exact rt1 rfl rfl (ple_of (fun r : SessionR => .agg (SessionR.pc r)) e0 (ple rfl))
theorem session_slot_toldPut_ok (c : SlotR) (m : Method) (e : Int) : Fn Tryz.prog gb 152 [.agg (SlotR.pc c), .agg (Method.pc m), .int .i64 e] (.sl Reply.pc (session_slot_toldPut c m e)) := by
  refine fn_cw tv80 Tryz.func152 rfl Tryz.ntmps152 rfl cb152 rfl rfl fun w N H hG => ?_
  have c_chan_takers_l : c.chan.takers.length ≤ 140737488355328 := w.1.2.1.1
  have c_chan_lent_l : c.chan.lent.length ≤ 140737488355328 := w.1.2.2.1.1
  have c_chan_held_l_l : c.chan.held.l.length ≤ 140737488355328 := w.1.2.2.2.2.2.2.1.1
  have m_head_l : m.head.length ≤ 140737488355328 := w.2.1.2.2.2.2.2.1.1
  have e_r : -9223372036854775808 ≤ e ∧ e ≤ 9223372036854775807 := w.2.2.1
  have e0 := session_slot_toldPut.eq_1 c m e
  refine go tv80 2 rfl rfl trivial ?_
  refine ef (boxA 0 rfl rfl rfl fun b1 => ?_)
  refine ef (boxA 1 rfl rfl rfl fun b2 => ?_)
  refine go tv80 7 rfl rfl trivial ?_
  refine callv (chans_Chan_Number c.chan) (fun r : Int => .int .u64 r) (chans_Chan_Number_ok _) rfl rfl fun r hr3 w4 => ?_
  have e5 := e0.trans (lt_eq hr3)
  refine go tv80 16 rfl rfl ⟨(fun hc => hc), rfl, rfl, trivial⟩ ?_
  refine cnd rfl (fun h6 => ?_) (fun h6 => ?_)
  · have h7 := bl h6
    have p8 := dt h7
    have h9 := br h6
    have p10 := dt h9
    have e11 := e5.trans (condT h6)
    refine go tv80 8 rfl rfl trivial ?_
    exact rt1 rfl rfl (ple_of (fun r : (List Reply) => .sl Reply.pc r) e11 ple_nil)
  have e12 := e5.trans (condF h6)
  refine go tv80 7 rfl rfl trivial ?_
  refine cnd rfl (fun h13 => ?_) (fun h13 => ?_)
  · have p14 := dt h13
    have e15 := e12.trans (condT h13)
    refine go tv80 4 rfl rfl trivial ?_
    refine callv (session_answer m e) (fun r : (List Reply) => .sl Reply.pc r) (session_answer_ok _ _) rfl rfl fun r1 hr16 w17 => ?_
    have e18 := e15.trans (lt_eq hr16)
    refine go tv80 6 rfl rfl trivial ?_
    exact rt1 rfl rfl (ple_of (fun r : (List Reply) => .sl Reply.pc r) e18 (ple rfl))
  have p19 := df h13
  have e20 := e12.trans (condF h13)
  refine go tv80 7 rfl rfl trivial ?_
  refine cnd rfl (fun h21 => ?_) (fun h21 => ?_)
  · have p22 := dt h21
    have e23 := e20.trans (condT h21)
    refine go tv80 6 rfl rfl trivial ?_
    refine ef (bsl 2 Reply.pc [(⟨m.channel, 5, r, 0, false, [], (⟨0, [], [], [], [], 0, 0⟩ : Mail)⟩ : Reply)] tv80 rfl rfl rfl rfl rfl (fun _ => rfl) rfl (by decide) (by decide) rfl fun u24 => ?_)
    refine go tv80 3 rfl rfl trivial ?_
    refine givec 2 rfl ?_
    refine go tv80 3 rfl rfl trivial ?_
    exact rt1 rfl rfl (ple_of (fun r : (List Reply) => .sl Reply.pc r) e23 (ple rfl))
  have p25 := df h21
  have e26 := e20.trans (condF h21)
  refine go tv80 11 rfl rfl trivial ?_
  refine ef (bsl 2 Reply.pc [(⟨m.channel, 6, r, (IntKind.wrap .u64 e), false, [], (⟨0, [], [], [], [], 0, 0⟩ : Mail)⟩ : Reply)] tv80 rfl rfl rfl rfl rfl (fun _ => rfl) rfl (by decide) (by decide) rfl fun u27 => ?_)
  refine go tv80 3 rfl rfl trivial ?_
  refine givec 2 rfl ?_
  refine go tv80 1 rfl rfl trivial ?_
  exact rt1 rfl rfl (ple_of (fun r : (List Reply) => .sl Reply.pc r) e26 (ple rfl))
end Go.SW.V
set_option linter.unusedVariables false
set_option maxRecDepth 100000
set_option maxHeartbeats 4000000
namespace Go.SW.V
open Go.SW Go.Proofs
theorem cb106 : Callable Tryz.prog 106 := callable_of Tryz.func106 (by kernel_rfl) (by kernel_rfl)
theorem cb112 : Callable Tryz.prog 112 := callable_of Tryz.func112 (by kernel_rfl) (by kernel_rfl)
theorem cb81 : Callable Tryz.prog 81 := callable_of Tryz.func81 (by kernel_rfl) (by kernel_rfl)
def tbv81 : Tb := [(4, ⟨.bool, 1, 1, [.bool false]⟩),
  (5, ⟨.int .u8, 1, 1, [.int .u8 0]⟩),
  (9, ⟨.str, 1, 16, [.str []]⟩),
  (27, ⟨.int .u64, 1, 8, [.int .u64 0]⟩),
  (28, ⟨.slc 53, 1, 24, [.sl DeedR.pc []]⟩),
  (32, ⟨.agg [(0, 1), (1, 1), (2, 1), (3, 1), (4, 1), (5, 1), (6, 1)], 7, 96, [.int .i64 0, .sl TakerR.pc [], .sl LentR.pc [], .bool false, .bool false, .int .u64 0, .sl DeedR.pc []]⟩),
  (39, ⟨.agg [(0, 1), (1, 1)], 2, 24, [.int .u64 0, .str []]⟩),
  (44, ⟨.agg [(0, 1), (1, 1), (2, 1)], 3, 40, [.str [], .int .u8 0, .str []]⟩),
  (46, ⟨.agg [(0, 1), (1, 1), (2, 1), (3, 1)], 4, 48, [.str [], .int .u64 0, .int .u64 0, .str []]⟩),
  (47, ⟨.slc 199, 1, 24, [.sl Pair.pc []]⟩),
  (49, ⟨.agg [(0, 1), (1, 1), (2, 1), (3, 1), (4, 1), (5, 1)], 6, 88, [.str [], .str [], .bool false, .str [], .sl Pair.pc [], .bool false]⟩),
  (51, ⟨.agg [(0, 1), (1, 1), (2, 1), (3, 1), (4, 1), (5, 1), (6, 1)], 7, 96, [.int .u64 0, .str [], .str [], .sl Pair.pc [], .str [], .int .u64 0, .int .u8 0]⟩),
  (53, ⟨.agg [(0, 1), (1, 1), (2, 3), (5, 4), (9, 6), (15, 1), (16, 1), (17, 1), (18, 1), (19, 1), (20, 1), (21, 7), (28, 1)], 29, 344, [.int .u8 0, .int .u64 0, .str [], .int .u8 0, .str [], .str [], .int .u64 0, .int .u64 0, .str [], .str [], .str [], .bool false, .str [], .sl Pair.pc [], .bool false, .str [], .int .u64 0, .int .u8 0, .int .u8 0, .int .u8 0, .int .u64 0, .int .u64 0, .str [], .str [], .sl Pair.pc [], .str [], .int .u64 0, .int .u8 0, .str []]⟩),
  (64, ⟨.agg [(0, 1), (1, 1), (2, 1), (3, 1), (4, 1), (5, 1), (6, 1), (7, 1), (8, 1), (9, 1)], 10, 120, [.int .u8 0, .int .u8 0, .str [], .str [], .str [], .sl Pair.pc [], .str [], .int .u64 0, .int .u64 0, .bool false]⟩),
  (72, ⟨.agg [(0, 7), (7, 1)], 8, 104, [.int .i64 0, .sl TakerR.pc [], .sl LentR.pc [], .bool false, .bool false, .int .u64 0, .sl DeedR.pc [], .bool false]⟩),
  (75, ⟨.agg [(0, 1), (1, 2), (3, 1), (4, 1), (5, 40)], 45, 568, [.str [], .str [], .int .i64 0, .bool false, .bool false, .int .i64 0, .sl TakerR.pc [], .sl LentR.pc [], .bool false, .bool false, .int .u64 0, .sl DeedR.pc [], .bool false, .int .i64 0, .sl TakerR.pc [], .sl LentR.pc [], .bool false, .bool false, .int .u64 0, .sl DeedR.pc [], .bool false, .int .i64 0, .sl TakerR.pc [], .sl LentR.pc [], .bool false, .bool false, .int .u64 0, .sl DeedR.pc [], .bool false, .int .i64 0, .sl TakerR.pc [], .sl LentR.pc [], .bool false, .bool false, .int .u64 0, .sl DeedR.pc [], .bool false, .int .i64 0, .sl TakerR.pc [], .sl LentR.pc [], .bool false, .bool false, .int .u64 0, .sl DeedR.pc [], .bool false]⟩),
  (99, ⟨.agg [(0, 7), (7, 1), (8, 1)], 9, 104, [.int .u64 0, .str [], .str [], .sl Pair.pc [], .str [], .int .u64 0, .int .u8 0, .bool false, .bool false]⟩),
  (137, ⟨.agg [(0, 1), (1, 1), (2, 1), (3, 1), (4, 1), (5, 1), (6, 7)], 13, 144, [.int .u8 0, .int .u8 0, .int .u64 0, .int .u64 0, .bool false, .str [], .int .u64 0, .str [], .str [], .sl Pair.pc [], .str [], .int .u64 0, .int .u8 0]⟩),
  (153, ⟨.agg [(0, 1), (1, 1), (2, 1)], 3, 32, [.int .u8 0, .int .u64 0, .str []]⟩)]
theorem tv81 : tbB Tryz.prog tbv81 = true := by kernel_rfl
theorem session_admin_ok (m : Method) (tick : Int) (hh : m.head.length ≤ 1000000) : Fn Tryz.prog gb 106 [.agg (Method.pc m), .int .u64 tick] (.tup [.sl DeedR.pc ((session_admin m tick).1), .bool ((session_admin m tick).2)]) := by
  refine fn_cw tv81 Tryz.func106 rfl Tryz.ntmps106 rfl cb106 rfl rfl fun w N H hG => ?_
  have m_channel_r : 0 ≤ m.channel ∧ m.channel ≤ 255 := w.1.1
  have m_kind_r : 0 ≤ m.kind ∧ m.kind ≤ 255 := w.1.2.1
  have m_name_l : m.name.length ≤ 9223372036854775807 := w.1.2.2.1
  have m_other_l : m.other.length ≤ 9223372036854775807 := w.1.2.2.2.1
  have m_key_l : m.key.length ≤ 9223372036854775807 := w.1.2.2.2.2.1
  have m_head_l : m.head.length ≤ 140737488355328 := w.1.2.2.2.2.2.1.1
  have m_body_l : m.body.length ≤ 9223372036854775807 := w.1.2.2.2.2.2.2.1
  have m_n_r : 0 ≤ m.n ∧ m.n ≤ 18446744073709551615 := w.1.2.2.2.2.2.2.2.1
  have m_m_r : 0 ≤ m.m ∧ m.m ≤ 18446744073709551615 := w.1.2.2.2.2.2.2.2.2.1
  have tick_r : 0 ≤ tick ∧ tick ≤ 18446744073709551615 := w.2.1
  have e0 := session_admin.eq_1 m tick
  refine go tv81 2 rfl rfl trivial ?_
  refine ef (boxA 0 rfl rfl rfl fun b1 => ?_)
  refine go tv81 8 rfl rfl trivial ?_
  refine ef (alloc tv81 1 rfl rfl rfl rfl fun b2 => ?_)
  refine ef (storeA tv81 rfl rfl rfl rfl rfl rfl rfl rfl rfl rfl ?_)
  refine go tv81 3 rfl rfl trivial ?_
  refine joinc (ι := Nat) [2, 4, 5, 6] [0, 1] (fun b3 => [(7, .own 2 b3 0)]) (fun b3 => [(2, .box b3 49 [.str m.name, .str m.other, .bool (decide (9 ≤ m.kind)), .str m.key, .sl Pair.pc m.head, .bool m.yes])]) (fun b3 => PV.wf (.sl Pair.pc m.head)) ?_ ?_
  · refine any [2, 3, 4, 5, 6, 7, 8, 9] 17 mixd rfl ?_
    refine gov tv81 [0, 1, 2, 3, 4, 5, 6, 7, 8, 9, 10, 12, 13] 4 rfl (by kernel_rfl) rfl rfl trivial ?_
    refine veL 11 [15] (by kernel_rfl) ⟨⟨_, rfl, ?_⟩, ⟨_, rfl, ?_⟩, trivial⟩
    · refine ej rfl (ecall (clone_Pair _ (by first | omega | (simp; done) | (simp; omega))) rfl rfl fun w4 => ?_)
      refine gov tv81 [14] 2 rfl (by kernel_rfl) rfl rfl trivial ?_
      refine ve 15 rfl (by kernel_rfl) rfl (alloc tv81 2 rfl rfl rfl rfl fun b5 => ?_)
      refine ve 16 rfl (by kernel_rfl) rfl (storeA tv81 rfl rfl rfl rfl rfl rfl rfl rfl rfl rfl ?_)
      refine vdone (by kernel_rfl) ?_
      refine next (b5) rfl rfl ⟨rfl, trivial⟩ ⟨rfl, trivial⟩ (by decide) ?_
      exact w4
    refine ej rfl (alloc tv81 2 rfl rfl rfl rfl fun b6 => ?_)
    refine ve 11 rfl (by kernel_rfl) rfl (ecall (clone_Pair _ (by first | omega | (simp; done) | (simp; omega))) rfl rfl fun w7 => ?_)
    refine gov tv81 [14] 1 rfl (by kernel_rfl) rfl rfl trivial ?_
    refine ve 16 rfl (by kernel_rfl) rfl (storeA tv81 rfl rfl rfl rfl rfl rfl rfl rfl rfl rfl ?_)
    refine vdone (by kernel_rfl) ?_
    refine next (b6) rfl rfl ⟨rfl, trivial⟩ ⟨rfl, trivial⟩ (by decide) ?_
    exact w7
  rintro b3 w8
  refine go tv81 15 rfl rfl trivial ?_
  refine cnd rfl (fun h9 => ?_) (fun h9 => ?_)
  · have p10 := dt h9
    have e11 := e0.trans (condT h9)
    refine any [1, 3, 4, 5, 6, 7, 8] 13 mixd rfl ?_
    refine gov tv81 [0, 1, 2, 3, 4, 5, 6, 7, 8, 9] 3 rfl (by kernel_rfl) rfl rfl trivial ?_
    refine ve 10 rfl (by kernel_rfl) rfl (store1 tv81 rfl rfl rfl rfl rfl rfl rfl rfl rfl ?_)
    refine gov tv81 [11] 1 rfl (by kernel_rfl) rfl rfl trivial ?_
    refine vt 12 rfl (by kernel_rfl) (by kernel_rfl) (storeA tv81 rfl rfl rfl rfl rfl rfl rfl rfl rfl rfl ?_)
    refine vdone (by kernel_rfl) ?_
    refine go tv81 5 rfl rfl trivial ?_
    refine ef (bsl 3 DeedR.pc [(⟨0, tick, (⟨m.name, (IntKind.wrap .u8 (min m.n 255)), m.other⟩ : ShopR), (⟨[], 0, 0, []⟩ : QueueR), (⟨[], [], false, [], [], false⟩ : BindR), [], 0, 0, 0, 0, 0, (⟨0, [], [], [], [], 0, 0⟩ : Mail), []⟩ : DeedR)] tv81 rfl rfl rfl rfl rfl (fun _ => rfl) rfl (by decide) (by decide) rfl fun u12 => ?_)
    refine go tv81 4 rfl rfl trivial ?_
    refine givec 3 rfl ?_
    refine go tv81 1 rfl rfl trivial ?_
    exact rt2 rfl rfl (ple_of (fun r : (List DeedR) × Bool => .tup [.sl DeedR.pc r.1, .bool r.2]) e11 (ple rfl))
  have p13 := df h9
  have e14 := e0.trans (condF h9)
  refine go tv81 6 rfl rfl trivial ?_
  refine cnd rfl (fun h15 => ?_) (fun h15 => ?_)
  · have p16 := dt h15
    have e17 := e14.trans (condT h15)
    refine any [1, 3, 4, 5, 6, 7, 8] 6 mixd rfl ?_
    refine gov tv81 [0, 1, 2] 3 rfl (by kernel_rfl) rfl rfl trivial ?_
    refine ve 3 rfl (by kernel_rfl) rfl (store1 tv81 rfl rfl rfl rfl rfl rfl rfl rfl rfl ?_)
    refine gov tv81 [4] 1 rfl (by kernel_rfl) rfl rfl trivial ?_
    refine vt 5 rfl (by kernel_rfl) (by kernel_rfl) (store1 tv81 rfl rfl rfl rfl rfl rfl rfl rfl rfl ?_)
    refine vdone (by kernel_rfl) ?_
    refine go tv81 5 rfl rfl trivial ?_
    refine ef (bsl 3 DeedR.pc [(⟨1, tick, (⟨[], 0, []⟩ : ShopR), (⟨[], 0, 0, []⟩ : QueueR), (⟨[], [], false, [], [], false⟩ : BindR), m.name, 0, 0, 0, 0, 0, (⟨0, [], [], [], [], 0, 0⟩ : Mail), []⟩ : DeedR)] tv81 rfl rfl rfl rfl rfl (fun _ => rfl) rfl (by decide) (by decide) rfl fun u18 => ?_)
    refine go tv81 4 rfl rfl trivial ?_
    refine givec 3 rfl ?_
    refine go tv81 1 rfl rfl trivial ?_
    exact rt2 rfl rfl (ple_of (fun r : (List DeedR) × Bool => .tup [.sl DeedR.pc r.1, .bool r.2]) e17 (ple rfl))
  have p19 := df h15
  have e20 := e14.trans (condF h15)
  refine go tv81 6 rfl rfl trivial ?_
  refine cnd rfl (fun h21 => ?_) (fun h21 => ?_)
  · have p22 := dt h21
    have e23 := e20.trans (condT h21)
    refine any [1, 3, 4, 5, 6, 7, 8] 13 mixd rfl ?_
    refine gov tv81 [0, 1, 2, 3, 4, 5, 6, 7, 8, 9] 3 rfl (by kernel_rfl) rfl rfl trivial ?_
    refine ve 10 rfl (by kernel_rfl) rfl (store1 tv81 rfl rfl rfl rfl rfl rfl rfl rfl rfl ?_)
    refine gov tv81 [11] 1 rfl (by kernel_rfl) rfl rfl trivial ?_
    refine vt 12 rfl (by kernel_rfl) (by kernel_rfl) (storeA tv81 rfl rfl rfl rfl rfl rfl rfl rfl rfl rfl ?_)
    refine vdone (by kernel_rfl) ?_
    refine go tv81 5 rfl rfl trivial ?_
    refine ef (bsl 3 DeedR.pc [(⟨2, tick, (⟨[], 0, []⟩ : ShopR), (⟨m.name, m.n, m.m, m.other⟩ : QueueR), (⟨[], [], false, [], [], false⟩ : BindR), [], 0, 0, 0, 0, 0, (⟨0, [], [], [], [], 0, 0⟩ : Mail), []⟩ : DeedR)] tv81 rfl rfl rfl rfl rfl (fun _ => rfl) rfl (by decide) (by decide) rfl fun u24 => ?_)
    refine go tv81 4 rfl rfl trivial ?_
    refine givec 3 rfl ?_
    refine go tv81 1 rfl rfl trivial ?_
    exact rt2 rfl rfl (ple_of (fun r : (List DeedR) × Bool => .tup [.sl DeedR.pc r.1, .bool r.2]) e23 (ple rfl))
  have p25 := df h21
  have e26 := e20.trans (condF h21)
  refine go tv81 6 rfl rfl trivial ?_
  refine cnd rfl (fun h27 => ?_) (fun h27 => ?_)
  · have p28 := dt h27
    have e29 := e26.trans (condT h27)
    refine any [1, 3, 4, 5, 6, 7, 8] 6 mixd rfl ?_
    refine gov tv81 [0, 1, 2] 3 rfl (by kernel_rfl) rfl rfl trivial ?_
    refine ve 3 rfl (by kernel_rfl) rfl (store1 tv81 rfl rfl rfl rfl rfl rfl rfl rfl rfl ?_)
    refine gov tv81 [4] 1 rfl (by kernel_rfl) rfl rfl trivial ?_
    refine vt 5 rfl (by kernel_rfl) (by kernel_rfl) (store1 tv81 rfl rfl rfl rfl rfl rfl rfl rfl rfl ?_)
    refine vdone (by kernel_rfl) ?_
    refine go tv81 5 rfl rfl trivial ?_
    refine ef (bsl 3 DeedR.pc [(⟨3, tick, (⟨[], 0, []⟩ : ShopR), (⟨[], 0, 0, []⟩ : QueueR), (⟨[], [], false, [], [], false⟩ : BindR), m.name, 0, 0, 0, 0, 0, (⟨0, [], [], [], [], 0, 0⟩ : Mail), []⟩ : DeedR)] tv81 rfl rfl rfl rfl rfl (fun _ => rfl) rfl (by decide) (by decide) rfl fun u30 => ?_)
    refine go tv81 4 rfl rfl trivial ?_
    refine givec 3 rfl ?_
    refine go tv81 1 rfl rfl trivial ?_
    exact rt2 rfl rfl (ple_of (fun r : (List DeedR) × Bool => .tup [.sl DeedR.pc r.1, .bool r.2]) e29 (ple rfl))
  have p31 := df h27
  have e32 := e26.trans (condF h27)
  refine go tv81 1 rfl rfl trivial ?_
  obtain ⟨o, e_o, q_o⟩ := lt1_split e32
  refine joinc (ι := Bool) [4, 5, 6, 7, 26] [0, 1, 2] (fun v => [(65, .bool v)]) (fun v => []) (fun v => o = v) ?_ ?_
  · refine go tv81 6 rfl rfl trivial ?_
    refine cnd rfl (fun h33 => ?_) (fun h33 => ?_)
    · have p34 := dt h33
      have e35 := e_o.trans (condT h33)
      refine go tv81 1 rfl rfl trivial ?_
      refine next (decide (m.kind = 7)) rfl rfl ⟨rfl, trivial⟩ trivial (by decide) ?_
      exact e35
    have p36 := df h33
    have e37 := e_o.trans (condF h33)
    refine go tv81 4 rfl rfl trivial ?_
    refine next (decide (m.kind = 9)) rfl rfl ⟨rfl, trivial⟩ trivial (by decide) ?_
    exact e37
  rintro v hp38
  have e39 := lt1_fin q_o hp38
  refine go tv81 1 rfl rfl trivial ?_
  refine cnd rfl (fun h40 => ?_) (fun h40 => ?_)
  · have e41 := e39.trans (condT h40)
    refine any [1, 3, 4, 5, 6, 7, 8] 5 mixd rfl ?_
    refine gov tv81 [0, 1] 3 rfl (by kernel_rfl) rfl rfl trivial ?_
    refine ve 2 rfl (by kernel_rfl) rfl (store1 tv81 rfl rfl rfl rfl rfl rfl rfl rfl rfl ?_)
    refine gov tv81 [3] 1 rfl (by kernel_rfl) rfl rfl trivial ?_
    refine vt 4 rfl (by kernel_rfl) (by kernel_rfl) (storeA tv81 rfl rfl rfl rfl rfl rfl rfl rfl rfl rfl ?_)
    refine vdone (by kernel_rfl) ?_
    refine go tv81 5 rfl rfl trivial ?_
    refine ef (bsl 3 DeedR.pc [(⟨4, tick, (⟨[], 0, []⟩ : ShopR), (⟨[], 0, 0, []⟩ : QueueR), (⟨m.name, m.other, decide (9 ≤ m.kind), m.key, m.head, m.yes⟩ : BindR), [], 0, 0, 0, 0, 0, (⟨0, [], [], [], [], 0, 0⟩ : Mail), []⟩ : DeedR)] tv81 rfl rfl rfl rfl rfl (fun _ => rfl) rfl (by decide) (by decide) rfl fun u42 => ?_)
    refine go tv81 4 rfl rfl trivial ?_
    refine givec 3 rfl ?_
    refine go tv81 1 rfl rfl trivial ?_
    exact rt2 rfl rfl (ple_of (fun r : (List DeedR) × Bool => .tup [.sl DeedR.pc r.1, .bool r.2]) e41 (ple rfl))
  have e43 := e39.trans (condF h40)
  refine go tv81 1 rfl rfl trivial ?_
  obtain ⟨o1, e_o1, q_o1⟩ := lt1_split e43
  refine joinc (ι := Bool) [4, 5, 6, 7] [0, 1, 2] (fun v1 => [(71, .bool v1)]) (fun v1 => []) (fun v1 => o1 = v1) ?_ ?_
  · refine go tv81 6 rfl rfl trivial ?_
    refine cnd rfl (fun h44 => ?_) (fun h44 => ?_)
    · have p45 := dt h44
      have e46 := e_o1.trans (condT h44)
      refine go tv81 1 rfl rfl trivial ?_
      refine next (decide (m.kind = 8)) rfl rfl ⟨rfl, trivial⟩ trivial (by decide) ?_
      exact e46
    have p47 := df h44
    have e48 := e_o1.trans (condF h44)
    refine go tv81 4 rfl rfl trivial ?_
    refine next (decide (m.kind = 10)) rfl rfl ⟨rfl, trivial⟩ trivial (by decide) ?_
    exact e48
  rintro v1 hp49
  have e50 := lt1_fin q_o1 hp49
  refine go tv81 1 rfl rfl trivial ?_
  refine cnd rfl (fun h51 => ?_) (fun h51 => ?_)
  · have e52 := e50.trans (condT h51)
    refine any [1, 3, 4, 5, 6, 7, 8] 5 mixd rfl ?_
    refine gov tv81 [0, 1] 3 rfl (by kernel_rfl) rfl rfl trivial ?_
    refine ve 2 rfl (by kernel_rfl) rfl (store1 tv81 rfl rfl rfl rfl rfl rfl rfl rfl rfl ?_)
    refine gov tv81 [3] 1 rfl (by kernel_rfl) rfl rfl trivial ?_
    refine vt 4 rfl (by kernel_rfl) (by kernel_rfl) (storeA tv81 rfl rfl rfl rfl rfl rfl rfl rfl rfl rfl ?_)
    refine vdone (by kernel_rfl) ?_
    refine go tv81 5 rfl rfl trivial ?_
    refine ef (bsl 3 DeedR.pc [(⟨5, tick, (⟨[], 0, []⟩ : ShopR), (⟨[], 0, 0, []⟩ : QueueR), (⟨m.name, m.other, decide (9 ≤ m.kind), m.key, m.head, m.yes⟩ : BindR), [], 0, 0, 0, 0, 0, (⟨0, [], [], [], [], 0, 0⟩ : Mail), []⟩ : DeedR)] tv81 rfl rfl rfl rfl rfl (fun _ => rfl) rfl (by decide) (by decide) rfl fun u53 => ?_)
    refine go tv81 4 rfl rfl trivial ?_
    refine givec 3 rfl ?_
    refine go tv81 1 rfl rfl trivial ?_
    exact rt2 rfl rfl (ple_of (fun r : (List DeedR) × Bool => .tup [.sl DeedR.pc r.1, .bool r.2]) e52 (ple rfl))
  have e54 := e50.trans (condF h51)
  refine go tv81 9 rfl rfl trivial ?_
  exact rt2 rfl rfl (ple_of (fun r : (List DeedR) × Bool => .tup [.sl DeedR.pc r.1, .bool r.2]) e54 (ple_tup (ples_cons ple_nil (ples_cons (ple rfl) ples_nil))))
theorem session_settles_ok (c : ChanR) (m : Method) (tick : Int) (hc : COk c 10000000) : Fo Tryz.prog gb 112 [.agg (ChanR.pc c), .agg (Method.pc m), .int .u64 tick] (fun u => .tup [.val u, .int .i64 ((session_settles c m tick).2)]) 29 53 DeedR.pc ((session_settles c m tick).1) := by
  refine fo_cw tv81 Tryz.func112 rfl Tryz.ntmps112 rfl cb112 (fun _ => rfl) rfl fun w N H hG => ?_
  have c_takers_l : c.takers.length ≤ 140737488355328 := w.1.2.1.1
  have c_lent_l : c.lent.length ≤ 140737488355328 := w.1.2.2.1.1
  have c_held_l_l : c.held.l.length ≤ 140737488355328 := w.1.2.2.2.2.2.2.1.1
  have m_head_l : m.head.length ≤ 140737488355328 := w.2.1.2.2.2.2.2.1.1
  have tick_r : 0 ≤ tick ∧ tick ≤ 18446744073709551615 := w.2.2.1
  obtain ⟨hc1, hc2, hc3, hc4⟩ := id hc
  obtain ⟨hcd1, hcd2, hcd3⟩ := id hc4
  have e0 := session_settles.eq_1 c m tick
  refine go tv81 2 rfl rfl trivial ?_
  refine ef (boxA 0 rfl rfl rfl fun b1 => ?_)
  refine ef (boxA 1 rfl rfl rfl fun b2 => ?_)
  refine go tv81 12 rfl rfl trivial ?_
  refine cnd rfl (fun h3 => ?_) (fun h3 => ?_)
  · have p4 := dt h3
    have e5 := e0.trans (condT h3)
    refine go tv81 4 rfl rfl trivial ?_
    refine ef (ecallo 2 (chans_Chan_Held_ok _ _ (by first | omega | (simp; omega) | decide +kernel) (by assumption)) rfl rfl ?_)
    generalize hr8 : chans_Chan_Held c tick = r
    intro u7 w6
    have e9 := e5.trans (lt_eq hr8.symm)
    have hr8 := hr8.symm
    have hA9 := held_len c tick
    (try rw [← hr8] at hA9)
    refine go tv81 6 rfl rfl trivial ?_
    refine go tv81 2 rfl rfl trivial ?_
    refine roN (j := 2) u7 rfl rfl rfl rfl ?_ ?_
    · exact (congrArg (fun r : (List DeedR) × Int => r.1) e9).symm
    exact ple_of (fun r : (List DeedR) × Int => .tup [.val u7, .int .i64 r.2]) e9 (ple rfl)
  have p11 := df h3
  have e12 := e0.trans (condF h3)
  refine go tv81 11 rfl rfl trivial ?_
  refine ef (ecallo 2 (chans_Chan_Settles_ok _ _ _ _ (by first | omega | (simp; omega) | decide +kernel)) rfl rfl ?_)
  generalize hr15 : chans_Chan_Settles c m.n m.m m.yes = r1
  intro u14 w13
  have e16 := e12.trans (lt_eq hr15.symm)
  have hr15 := hr15.symm
  have hA16 := sets_len c m.n m.m m.yes
  (try rw [← hr15] at hA16)
  refine go tv81 11 rfl rfl trivial ?_
  refine so_osl (t := 29) 2 rfl rfl ?_
  refine ef (ecallw (session_at_ok _ _) rfl rfl rfl rfl rfl rfl ?_)
  generalize hr20 : session_at r1.1 tick = r2
  intro u18 w19
  have e21 := e16.trans (lt_eq hr20.symm)
  have hr20 := hr20.symm
  have hA21 := sat_len r1.1 tick
  (try rw [← hr20] at hA21)
  refine go tv81 5 rfl rfl trivial ?_
  refine go tv81 1 rfl rfl trivial ?_
  refine roN (j := 2) u18 rfl rfl rfl rfl ?_ ?_
  · exact (congrArg (fun r : (List DeedR) × Int => r.1) e21).symm
  exact ple_of (fun r : (List DeedR) × Int => .tup [.val u18, .int .i64 r.2]) e21 (ple rfl)
theorem session_Session_Sent_ok (s : SessionR) (t : TakerS) (x : ItemR) (hs : SOk s 10000000) (hh : x.mail.head.length ≤ 1000000) : Fn Tryz.prog gb 81 [.agg (SessionR.pc s), .agg (TakerS.pc t), .agg (ItemR.pc x)] (.tup [.agg (SessionR.pc ((session_Session_Sent s t x).1)), .agg (Reply.pc ((session_Session_Sent s t x).2))]) := by
  refine fn_cw tv81 Tryz.func81 rfl Tryz.ntmps81 rfl cb81 rfl rfl fun w N H hG => ?_
  have s_place_l : s.place.length ≤ 9223372036854775807 := w.1.1
  have s_feed_rest_l : s.feed.rest.length ≤ 9223372036854775807 := w.1.2.1
  have s_feed_err_r : -9223372036854775808 ≤ s.feed.err ∧ s.feed.err ≤ 9223372036854775807 := w.1.2.2.1
  have s_slots_e0_chan_credit_r : -9223372036854775808 ≤ s.slots.e0.chan.credit ∧ s.slots.e0.chan.credit ≤ 9223372036854775807 := w.1.2.2.2.2.2.1
  have s_slots_e0_chan_puts_r : 0 ≤ s.slots.e0.chan.puts ∧ s.slots.e0.chan.puts ≤ 18446744073709551615 := w.1.2.2.2.2.2.2.2.2.2.2.1
  have s_slots_e1_chan_credit_r : -9223372036854775808 ≤ s.slots.e1.chan.credit ∧ s.slots.e1.chan.credit ≤ 9223372036854775807 := w.1.2.2.2.2.2.2.2.2.2.2.2.2.2.1
  have s_slots_e1_chan_puts_r : 0 ≤ s.slots.e1.chan.puts ∧ s.slots.e1.chan.puts ≤ 18446744073709551615 := w.1.2.2.2.2.2.2.2.2.2.2.2.2.2.2.2.2.2.2.1
  have s_slots_e2_chan_credit_r : -9223372036854775808 ≤ s.slots.e2.chan.credit ∧ s.slots.e2.chan.credit ≤ 9223372036854775807 := w.1.2.2.2.2.2.2.2.2.2.2.2.2.2.2.2.2.2.2.2.2.2.1
  have s_slots_e2_chan_puts_r : 0 ≤ s.slots.e2.chan.puts ∧ s.slots.e2.chan.puts ≤ 18446744073709551615 := w.1.2.2.2.2.2.2.2.2.2.2.2.2.2.2.2.2.2.2.2.2.2.2.2.2.2.2.1
  have s_slots_e3_chan_credit_r : -9223372036854775808 ≤ s.slots.e3.chan.credit ∧ s.slots.e3.chan.credit ≤ 9223372036854775807 := w.1.2.2.2.2.2.2.2.2.2.2.2.2.2.2.2.2.2.2.2.2.2.2.2.2.2.2.2.2.2.1
  have s_slots_e3_chan_puts_r : 0 ≤ s.slots.e3.chan.puts ∧ s.slots.e3.chan.puts ≤ 18446744073709551615 := w.1.2.2.2.2.2.2.2.2.2.2.2.2.2.2.2.2.2.2.2.2.2.2.2.2.2.2.2.2.2.2.2.2.2.2.1
  have s_slots_e4_chan_credit_r : -9223372036854775808 ≤ s.slots.e4.chan.credit ∧ s.slots.e4.chan.credit ≤ 9223372036854775807 := w.1.2.2.2.2.2.2.2.2.2.2.2.2.2.2.2.2.2.2.2.2.2.2.2.2.2.2.2.2.2.2.2.2.2.2.2.2.2.1
  have s_slots_e4_chan_puts_r : 0 ≤ s.slots.e4.chan.puts ∧ s.slots.e4.chan.puts ≤ 18446744073709551615 := w.1.2.2.2.2.2.2.2.2.2.2.2.2.2.2.2.2.2.2.2.2.2.2.2.2.2.2.2.2.2.2.2.2.2.2.2.2.2.2.2.2.2.2.1
  have t_channel_r : 0 ≤ t.channel ∧ t.channel ≤ 255 := w.2.1.1
  have t_tag_r : 0 ≤ t.tag ∧ t.tag ≤ 18446744073709551615 := w.2.1.2.1
  have t_queue_l : t.queue.length ≤ 9223372036854775807 := w.2.1.2.2.1
  have x_mail_id_r : 0 ≤ x.mail.id ∧ x.mail.id ≤ 18446744073709551615 := w.2.2.1.1
  have x_mail_shop_l : x.mail.shop.length ≤ 9223372036854775807 := w.2.2.1.2.1
  have x_mail_key_l : x.mail.key.length ≤ 9223372036854775807 := w.2.2.1.2.2.1
  have x_mail_head_l : x.mail.head.length ≤ 140737488355328 := w.2.2.1.2.2.2.1.1
  have x_mail_body_l : x.mail.body.length ≤ 9223372036854775807 := w.2.2.1.2.2.2.2.1
  have x_mail_due_r : 0 ≤ x.mail.due ∧ x.mail.due ≤ 18446744073709551615 := w.2.2.1.2.2.2.2.2.1
  have x_mail_hops_r : 0 ≤ x.mail.hops ∧ x.mail.hops ≤ 255 := w.2.2.1.2.2.2.2.2.2.1
  have e0 := session_Session_Sent.eq_1 s t x
  refine go tv81 2 rfl rfl trivial ?_
  refine ef (boxA 0 rfl rfl rfl fun b1 => ?_)
  refine ef (boxA 1 rfl rfl rfl fun b2 => ?_)
  refine ef (boxA 2 rfl rfl rfl fun b3 => ?_)
  refine ef (alloc tv81 3 rfl rfl rfl rfl fun b4 => ?_)
  refine ef (alloc tv81 4 rfl rfl rfl rfl fun b5 => ?_)
  refine go tv81 12 rfl rfl ⟨(fun hc => hc), trivial⟩ ?_
  refine q1g [14, 15] rfl (fun hc => qaia (t.channel).toNat rfl rfl Tryz.underlying73 sz72 (by omega) (by first | omega | (simp only [gOf, Bool.and_eq_true, Bool.or_eq_true, Bool.not_eq_true', decide_eq_true_eq, decide_eq_false_iff_not, Bool.not_eq_false', Bool.and_true, Bool.true_and, cond_true, cond_false] at *; omega))) ⟨(fun hc => hc), (fun hc => hc), trivial⟩ rfl rfl rfl fun _ => ?_
  refine go tv81 1 rfl rfl ⟨(fun hc => hc), trivial⟩ ?_
  refine q1gL [17] rfl (fun hc => lyS1 (len := 5) (fun q => .bool ((A5.get s.slots q).isopen)) ((t.channel).toNat) 5 8 7 tv81 rfl rfl rfl rfl rfl rfl (by first | omega | (simp only [gOf, Bool.and_eq_true, Bool.or_eq_true, Bool.not_eq_true', decide_eq_true_eq, decide_eq_false_iff_not, Bool.not_eq_false', Bool.and_true, Bool.true_and, cond_true, cond_false] at *; omega)) (fun _ => rfl) (bw5 rfl rfl rfl rfl rfl)) ⟨(fun hc => hc), trivial⟩ rfl rfl fun _ => ?_
  refine go tv81 4 rfl rfl ⟨(fun hc => hc), rfl, rfl, trivial⟩ ?_
  refine cnd rfl (fun h6 => ?_) (fun h6 => ?_)
  · have e7 := e0.trans (condT h6)
    refine go tv81 4 rfl rfl trivial ?_
    refine ef (storeA tv81 rfl rfl rfl rfl rfl rfl rfl rfl rfl rfl ?_)
    refine ef (storeA tv81 rfl rfl rfl rfl rfl rfl rfl rfl rfl rfl ?_)
    refine go tv81 4 rfl rfl trivial ?_
    exact rt2 rfl rfl (ple_of (fun r : SessionR × Reply => .tup [.agg (SessionR.pc r.1), .agg (Reply.pc r.2)]) e7 (ple rfl))
  have h8 := orl h6
  have p9 := df h8
  have h10 := orr h6
  have h11 := not_f h10
  have e12 := e0.trans (condF h6)
  refine go tv81 6 rfl rfl trivial ?_
  refine ef (alloc tv81 5 rfl rfl rfl rfl fun b13 => ?_)
  refine ef (storeA tv81 rfl rfl rfl rfl rfl rfl rfl rfl rfl rfl ?_)
  refine go tv81 3 rfl rfl trivial ?_
  refine any [6, 7, 8, 9, 10, 11] 18 mixd rfl ?_
  refine gov tv81 [0, 1, 2, 3, 4] 13 rfl (by kernel_rfl) rfl rfl trivial ?_
  refine vq 5 (qaia (t.channel).toNat rfl rfl Tryz.underlying73 sz72 (by omega) (by omega)) rfl (by kernel_rfl) rfl fun w14 => ?_
  refine gov tv81 [6, 8, 9, 10, 11, 12, 14] 5 rfl (by kernel_rfl) rfl rfl trivial ?_
  refine ve 7 rfl (by kernel_rfl) rfl (oloadSA (sz := 7) (len := 5) (fun q => [.int .i64 ((A5.get s.slots q).chan.credit), .sl TakerR.pc ((A5.get s.slots q).chan.takers), .sl LentR.pc ((A5.get s.slots q).chan.lent), .bool ((A5.get s.slots q).chan.sure), .bool ((A5.get s.slots q).chan.drafts), .int .u64 ((A5.get s.slots q).chan.puts), .sl DeedR.pc ((A5.get s.slots q).chan.held.l)]) ((t.channel).toNat) 5 8 0 tv81 rfl rfl rfl rfl rfl rfl rfl (by omega) (bw5 rfl rfl rfl rfl rfl) (bw5 rfl rfl rfl rfl rfl) rfl fun w15 => ?_)
  refine ve 13 rfl (by kernel_rfl) rfl (ecall (chans_Chan_Lend_ok ((A5.get s.slots ((t.channel).toNat)).chan) (⟨x.mail.id, t.queue⟩ : LentR) (by first | omega | exact sok_ln (by assumption) (by omega) (by omega))) rfl rfl ?_)
  generalize hr17 : chans_Chan_Lend ((A5.get s.slots ((t.channel).toNat)).chan) (⟨x.mail.id, t.queue⟩ : LentR) = r
  intro w16
  have e18 := e12.trans (lt_eq hr17.symm)
  have hr17 := hr17.symm
  (try have hA18 := cok_Lend (c := ((A5.get s.slots ((t.channel).toNat)).chan)) (⟨x.mail.id, t.queue⟩ : LentR) (by assumption))
  (try rw [← hr17] at hA18)
  refine vq 15 (qaia (t.channel).toNat rfl rfl Tryz.underlying73 sz72 (by omega) (by omega)) rfl (by kernel_rfl) rfl fun w20 => ?_
  refine gov tv81 [16] 1 rfl (by kernel_rfl) rfl rfl trivial ?_
  refine vtp 17 rfl (by kernel_rfl) (by kernel_rfl) (ostoreSA (sz := 7) (len := 5) (fun q => SessionR.pc (⟨s.place, s.feed, s.begun, s.over, (A5.set s.slots (⟨r, (A5.get s.slots q).isopen⟩ : SlotR) q)⟩ : SessionR)) ((t.channel).toNat) 5 8 0 tv81 rfl rfl rfl rfl rfl rfl rfl rfl rfl (by omega) (bw5 rfl rfl rfl rfl rfl) rfl (bw5 rfl rfl rfl rfl rfl) rfl ?_)
  refine vdone (by kernel_rfl) ?_
  refine go tv81 2 rfl rfl trivial ?_
  refine any [3, 4, 6, 7, 8, 9, 10, 11] 22 mixd rfl ?_
  refine gov tv81 [0, 1, 2, 3, 4, 5, 6, 7, 8, 9, 10, 11, 12, 13, 14, 16, 17] 5 rfl (by kernel_rfl) rfl rfl trivial ?_
  refine ve 15 rfl (by kernel_rfl) rfl (ecall (clone_Pair _ (by first | omega | (simp; done) | (simp; omega))) rfl rfl fun w21 => ?_)
  refine gov tv81 [18, 19] 2 rfl (by kernel_rfl) rfl rfl trivial ?_
  refine ve 20 rfl (by kernel_rfl) rfl (storeA tv81 rfl rfl rfl rfl rfl rfl rfl rfl rfl rfl ?_)
  refine vt 21 rfl (by kernel_rfl) (by kernel_rfl) (storeA tv81 rfl rfl rfl rfl rfl rfl rfl rfl rfl rfl ?_)
  refine vdone (by kernel_rfl) ?_
  refine go tv81 2 rfl rfl trivial ?_
  exact rt2 rfl rfl (ple_of (fun r : SessionR × Reply => .tup [.agg (SessionR.pc r.1), .agg (Reply.pc r.2)]) e18 (ple rfl))
end Go.SW.V
