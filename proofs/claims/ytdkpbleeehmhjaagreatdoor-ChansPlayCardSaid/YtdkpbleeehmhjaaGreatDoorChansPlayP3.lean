/-
  A part of the proof of ChansPlay: The rules again, of a state whose frame and blocks stand apart (printed by program). What the functions of the layers 7 and 8 compute, in plain Lean: frames that are read, feeds. What words.Matches computes, in plain Lean: whether a key's words match a pattern's; the search that goes back to the last hash. What is read and written, in plain Lean: bytes that are read are those that would be written, and the other way round; heads and replies that are read. Replies that are read, in plain Lean; what is read would be written so; what is written is read again. What the document's reader holds is the program's, seen otherwise. Heads: what is read would be written so; what is written is read again. Lists held against each other; records that are the same; what is gone through, in plain Lean. Replies: what is read would be written so; what is written is read again. Frames: what is written is read again, behind whatever; a beginning of a frame is too short; bytes of frames that come in two pieces are those frames. What the document's reader does, told of what it stands for; names, keys, heads by the document. What the document says of keys, pairs, heads and replies, in plain Lean, and that it is what the program does. Heads that are read, more: what is read is a pair, or a head; what reads behind an error. What the functions of the layers 10 and 11 compute, in plain Lean: rules, methods. What the functions of the layers 13 and 26 (lives) compute, in plain Lean. What the small functions of layer 22 compute, in plain Lean. Exchanges, queues, bindings, deeds. What a deed's kind tells. What is wrong with a deed first, in plain Lean. A message's and a deed's bytes, and what is read of bytes, in plain Lean. The bytes of a message and of a deed, both ways, in plain Lean. What is small is gone through: aids for the document's bytes. Which messages and deeds are gone through. Records, printed by program: their cells, and what is read of them. Places in lists; books of exchanges, in plain Lean. Deeds packed; all deeds that are gone through. What is read of bytes is in its ranges. A deed that is read of bytes is in its ranges. Deeds that are written are read again, and no beginning of them is deeds. Deeds unpacked: how many, and that they are gone through. Drafts, in plain Lean. Records, printed by program: their cells, and what is read of them. Records, printed by program: what their cells stand for. Plain lemmas of the second generation: places found in lists. Answers told piece by piece: a call's answer, a part's answer, a branch; the meeting of several ways. Over any program that the table fits; each asks what it lists. Records, printed by program: what their cells stand for. Lists of lists, gone through; places in lists. Plain laws; each asks what it lists. The sum, bit by bit and four bits at a time. What functions answer, printed by program out of their walks: draft.Draft.Settles$1, draft.Draft.Settles, draft.clone, draft.Draft.check, draft.Draft.Len, stairw
-/
import Derived.Test.YtdkpbleeehmhjaaGreatDoorChansPlayP2
import Derived.Test.YtdkpbleeehmhjaaGreatDoorChansPlayP1
import Derived.Lib.IndexAny
import Derived.Shelf.LaysM
import Derived.Shelf.Strings.Split
import Derived.Test.YtdkpbleeehmhjaaGreatDoorProg
import Derived.KernelRfl
set_option linter.unusedVariables false
set_option linter.unusedSimpArgs false
namespace Go.SW.V
open Go.SW
variable {P : Program} {n : Nat} {N : Rest} {H0 : Env} {all rest : List Oper} {Q : Qs} {ks : List Kt} {fF : Nat → PV} {fL : Nat → Blk} {T T' T2 ty d : Nat} {pos : String} {af : Array Edge} {x y z : Operand} {K : St → Prop} {op : Op} {p : PV}
theorem call {all rest : List Oper} {Q : Qs} {ks : List Kt} {f : FuncId} {args : List PV} {res : PV} {x : Operand} {xs : Array Operand} {ats : Array TypeId} {ty d : Nat} {pos : String} {af : Array Edge} (h : Fn P H0.g f args res) (ha : argsP fF x xs.toList = some (f, args)) (hd : Nat.blt d n = true) (k : res.wf → Hd P n N H0 Q (.ops all rest) ks ⟨updp fF d res, fL⟩) : Hd P n N H0 Q (.ops all (⟨some d, .call ⟨.value x, xs, ats⟩, ty, pos, af, none⟩ :: rest)) ks ⟨fF, fL⟩ := SW.call (s := ⟨fF, fL⟩) h ha hd k
theorem callg {all rest : List Oper} {Q : Qs} {ks : List Kt} {f : FuncId} {args : List PV} {res : PV} {x : Operand} {xs : Array Operand} {ats : Array TypeId} {ty d j : Nat} {want g : Bool} {pos : String} {af : Array Edge} (hg : gOp ⟨fF, fL⟩ all j want = some g) (h : g = true → Fn P H0.g f args res) (ha : argsP (strG (tmpOf xs.toList) fF) x xs.toList = some (f, args)) (hc : AllP (conds fF g (tmpOf xs.toList) [])) (hno : noOslG fF (tmpOf xs.toList) = true) (hd : Nat.blt d n = true) (k : (g = true → res.wf) → Hd P n N H0 Q (.ops all rest) ks ⟨updp fF d (.gv g res), fL⟩) : Hd P n N H0 Q (.ops all (⟨some d, .call ⟨.value x, xs, ats⟩, ty, pos, af, some (j, want)⟩ :: rest)) ks ⟨fF, fL⟩ := SW.callg (s := ⟨fF, fL⟩) hg h ha hc hno hd k
theorem cnd {Q : Qs} {ks : List Kt} {c : Operand} {x y : Code} {b : Bool} (hc : evP fF c = .bool b) (ht : b = true → Hd P n N H0 Q (.code x) ks ⟨fF, fL⟩) (hf : b = false → Hd P n N H0 Q (.code y) ks ⟨fF, fL⟩) : Hd P n N H0 Q (.code (.cond c x y)) ks ⟨fF, fL⟩ := SW.cnd (s := ⟨fF, fL⟩) hc ht hf
theorem loop {ι : Type _} {c : Code} {ks : List Kt} {Q : Qs} (keep kL : List Nat) (lv : ι → List (Nat × PV)) (lL : ι → List (Nat × Blk)) (Φ : ι → Prop) (μ : ι → Nat) (x0 : ι) (h1 : AllF fF (lv x0)) (h2 : AllL fL (lL x0)) (hΦ : Φ x0) (body : ∀ x, Φ x → Hd P n N H0 Q (.code c) (.lp (LJ (fun x => ⟨mkF (lv x) keep fF, mkL (lL x) kL fL⟩) Φ μ (μ x)) :: ks) ⟨mkF (lv x) keep fF, mkL (lL x) kL fL⟩) : Hd P n N H0 Q (.code (.loop c)) ks ⟨fF, fL⟩ := SW.loop (s := ⟨fF, fL⟩) keep kL lv lL Φ μ x0 h1 h2 hΦ body
theorem ef {o : Oper} {j : Option Nat} (h : E1 P n N H0 all o j ⟨fF, fL⟩ (fun s' => Hd P n N H0 Q (.ops all rest) ks s')) : Hd P n N H0 Q (.ops all (o :: rest)) ks ⟨fF, fL⟩ := SW.ef (s := ⟨fF, fL⟩) h
theorem boxA (i : Nat) {cs : List PV} (hx : evP fF x = .agg cs) (hn : noOsls cs = true) (hd : Nat.blt d n = true) (k : ∀ b, K ⟨updp fF d (.own i b 0), lups fL i (.box b T cs)⟩) : E1 P n N H0 all ⟨some d, .box T x, ty, pos, af, none⟩ (some i) ⟨fF, fL⟩ K := SW.boxA (s := ⟨fF, fL⟩) i hx hn hd k
theorem box1 (i : Nat) {p : PV} (hx : evS (evP fF x) = some p) (ho : p.one = true) (hd : Nat.blt d n = true) (k : ∀ b, K ⟨updp fF d (.own i b 0), lups fL i (.box b T [p])⟩) : E1 P n N H0 all ⟨some d, .box T x, ty, pos, af, none⟩ (some i) ⟨fF, fL⟩ K := SW.box1 (s := ⟨fF, fL⟩) i hx ho hd k
theorem alloc {tb : Tb} {ti : TI} {zs : List PV} (ht : tbB P tb = true) (i : Nat) (hti : lkT tb T = some ti) (hz : evL ti.zero = some zs) (hn : noOsls zs = true) (hd : Nat.blt d n = true) (k : ∀ b, K ⟨updp fF d (.own i b 0), lups fL i (.box b T zs)⟩) : E1 P n N H0 all ⟨some d, .alloc T, ty, pos, af, none⟩ (some i) ⟨fF, fL⟩ K := SW.alloc (s := ⟨fF, fL⟩) ht i hti hz hn hd k
theorem store1 {tb : Tb} {ti : TI} {i b b' off T0 : Nat} {cs cs' : List PV} {p : PV} (ht : tbB P tb = true) (hx : evP fF x = .own i b off) (hb : fL i = .box b' T0 cs) (hti : lkT tb T = some ti) (hsz : ti.size = 1) (hy : evS (evP fF y) = some p) (ho : p.one = true) (hl : Nat.blt off cs.length = true) (hbb : b' = b) (hc : evL (cs.set off p) = some cs') (k : K ⟨fF, lups fL i (.box b T0 cs')⟩) : E1 P n N H0 all ⟨none, .store T x y, ty, pos, af, none⟩ (some i) ⟨fF, fL⟩ K := SW.store1 (s := ⟨fF, fL⟩) ht hx hb hti hsz hy ho hl hbb hc k
theorem storeA {tb : Tb} {ti : TI} {i b b' off T0 : Nat} {cs ps cs' : List PV} (ht : tbB P tb = true) (hx : evP fF x = .own i b off) (hb : fL i = .box b' T0 cs) (hti : lkT tb T = some ti) (hy : evP fF y = .agg ps) (hn : noOsls ps = true) (ho : all1 ps = true) (hsz : ps.length = ti.size) (hl : Nat.ble (off + ti.size) cs.length = true) (hbb : b' = b) (hc : evL (cs.take off ++ (ps ++ cs.drop (off + ti.size))) = some cs') (k : K ⟨fF, lups fL i (.box b T0 cs')⟩) : E1 P n N H0 all ⟨none, .store T x y, ty, pos, af, none⟩ (some i) ⟨fF, fL⟩ K := SW.storeA (s := ⟨fF, fL⟩) ht hx hb hti hy hn ho hsz hl hbb hc k
theorem src_l {α : Type} {enc : α → List PV} {k : Nat} {ys : List α} (hy : evP fF y = .sl enc ys) (hk : ∀ a, (enc a).length = k) : SrcP P N H0 ⟨fF, fL⟩ enc k y ys := SW.src_l (s := ⟨fF, fL⟩) hy hk
theorem src_o {α : Type} {enc : α → List PV} {i e k : Nat} {u : Value} {ys : List α} (hy : evP fF y = .osl i) (hb : fL i = .arr u k e enc ys) : SrcP P N H0 ⟨fF, fL⟩ enc k y ys := SW.src_o (s := ⟨fF, fL⟩) hy hb
theorem app {α : Type} {tb : Tb} {i e k : Nat} {u : Value} {enc : α → List PV} {xs : List α} {te : TI} (ht : tbB P tb = true) (ys : List α) (hx : evP fF x = .osl i) (hb : fL i = .arr u k e enc xs) {ti : TI} (hti : lkT tb T = some ti) (htk : ti.k = .slc e) (hT2 : noIntT tb T2 = true) (hte : lkT tb e = some te) (hz : te.zero.length = te.size) (hby : Nat.blt 0 te.bytes = true) (hk : te.size = k) (hy : SrcP P N H0 ⟨fF, fL⟩ enc k y ys) (hs : (xs.length + ys.length) * te.bytes ≤ 140737488355328) (hd : Nat.blt d n = true) (kk : ∀ u', K ⟨updp (purgeF i fF) d (.osl i), lups (purgeL i fL) i (.arr u' k e enc (xs ++ ys))⟩) : E1 P n N H0 all ⟨some d, .call ⟨.builtin .append, #[x, y], #[T, T2]⟩, ty, pos, af, none⟩ (some i) ⟨fF, fL⟩ K := SW.app (s := ⟨fF, fL⟩) ht ys hx hb hti htk hT2 hte hz hby hk hy hs hd kk
theorem app0 {α : Type} {tb : Tb} (i : Nat) {e : Nat} {enc : α → List PV} {te : TI} (ht : tbB P tb = true) (ys : List α) (hx : evP fF x = .val (.slice none 0 0)) {ti : TI} (hti : lkT tb T = some ti) (htk : ti.k = .slc e) (hT2 : noIntT tb T2 = true) (hte : lkT tb e = some te) (hz : te.zero.length = te.size) (hby : Nat.blt 0 te.bytes = true) (hy : SrcP P N H0 ⟨fF, fL⟩ enc te.size y ys) (hs : ys.length * te.bytes ≤ 140737488355328) (hd : Nat.blt d n = true) (hno : fL i = .no) (kk : ∀ u', K ⟨updp (purgeF i fF) d (.osl i), lups (purgeL i fL) i (.arr u' te.size e enc ys)⟩) : E1 P n N H0 all ⟨some d, .call ⟨.builtin .append, #[x, y], #[T, T2]⟩, ty, pos, af, none⟩ (some i) ⟨fF, fL⟩ K := SW.app0 (s := ⟨fF, fL⟩) i ht ys hx hti htk hT2 hte hz hby hy hs hd hno kk
theorem bsl {α : Type} {tb : Tb} (i : Nat) {e len : Nat} {ps : Array (Nat × Operand)} (enc : α → List PV) (xs : List α) {rows : List (List PV)} {ti te : TI} (ht : tbB P tb = true) (hti : lkT tb T = some ti) (htk : ti.k = .slc e) (hte : lkT tb e = some te) (hr : bslP fF ps.toList 0 = some rows) (hx : rows = xs.map enc) (hk : ∀ a, (enc a).length = te.size) (hl : xs.length = len) (hs : len * te.size ≤ 16777216) (hs2 : len ≤ 140737488355328) (hd : Nat.blt d n = true) (kk : ∀ u', K ⟨updp (purgeF i fF) d (.osl i), lups (purgeL i fL) i (.arr u' te.size e enc xs)⟩) : E1 P n N H0 all ⟨some d, .buildSlice T len ps, ty, pos, af, none⟩ (some i) ⟨fF, fL⟩ K := SW.bsl (s := ⟨fF, fL⟩) i enc xs ht hti htk hte hr hx hk hl hs hs2 hd kk
theorem give {α : Type} {e k : Nat} {u : Value} {enc : α → List PV} {xs : List α} (i : Nat) (hb : fL i = .arr u k e enc xs) (kk : Hd P n N H0 Q (.ops all rest) ks ⟨giveF i enc xs fF, giveL i enc xs fL⟩) : Hd P n N H0 Q (.ops all rest) ks ⟨fF, fL⟩ := SW.give (s := ⟨fF, fL⟩) i hb kk
theorem givec {α : Type} {e k : Nat} {u : Value} {enc : α → List PV} {xs : List α} {c : Code} (i : Nat) (hb : fL i = .arr u k e enc xs) (kk : Hd P n N H0 Q (.code c) ks ⟨giveF i enc xs fF, giveL i enc xs fL⟩) : Hd P n N H0 Q (.code c) ks ⟨fF, fL⟩ := SW.givec (s := ⟨fF, fL⟩) i hb kk
theorem calll {α : Type} {e k : Nat} {u : Value} {enc : α → List PV} {ls : List α} {f : FuncId} {args : List PV} {res : PV} {xs : Array Operand} {ats : Array TypeId} (i : Nat) (hb : fL i = .arr u k e enc ls) (h : Fn P H0.g f args res) (hf : res.flat = true) (ha : argsP (giveF i enc ls fF) x xs.toList = some (f, args)) (hd : Nat.blt d n = true) (kk : res.wf → K ⟨updp fF d res, fL⟩) : E1 P n N H0 all ⟨some d, .call ⟨.value x, xs, ats⟩, ty, pos, af, none⟩ none ⟨fF, fL⟩ K := SW.calll (s := ⟨fF, fL⟩) i hb h hf ha hd kk
theorem any (xs : List Nat) (m : Nat) {id : Nat} {ops : Array Oper} (hmx : P.follows .mixedOrders = true) (hm : ops.toList.length = m) (h : Hv P n N H0 Q (some xs) ops.toList m (Array.replicate m false) ks ⟨fF, fL⟩) : Hd P n N H0 Q (.code (.region id ops true)) ks ⟨fF, fL⟩ := SW.any (s := ⟨fF, fL⟩) xs m hmx hm h
theorem vdone {xs : Option (List Nat)} {fuel : Nat} {listed : Array Bool} (h : Region.ready .any all.toArray listed = []) (k : Hd P n N H0 Q (.ex .normal) ks ⟨fF, fL⟩) : Hv P n N H0 Q xs all fuel listed ks ⟨fF, fL⟩ := SW.vdone (s := ⟨fF, fL⟩) h k
theorem vcall {xs : Option (List Nat)} {fuel : Nat} {listed : Array Bool} {f : FuncId} {args : List PV} {res : PV} {as0 : Array Operand} {ats : Array TypeId} (i : Nat) (hi : nth all i = some ⟨some d, .call ⟨.value x, as0, ats⟩, ty, pos, af, none⟩) (hck : (rdB all listed i && apB n all listed i ⟨some d, .call ⟨.value x, as0, ats⟩, ty, pos, af, none⟩ && Nat.blt d n && nosB (.call ⟨.value x, as0, ats⟩)) = true) (h : Fn P H0.g f args res) (hf : res.flat = true) (ha : argsP fF x as0.toList = some (f, args)) (k : res.wf → Hv P n N H0 Q xs all fuel (listed.setIfInBounds i true) ks ⟨updp fF d res, fL⟩) : Hv P n N H0 Q xs all (fuel + 1) listed ks ⟨fF, fL⟩ := SW.vcall (s := ⟨fF, fL⟩) i hi hck h hf ha k
theorem vcallg {xs : Option (List Nat)} {fuel : Nat} {listed : Array Bool} {f : FuncId} {args : List PV} {res : PV} {as0 : Array Operand} {ats : Array TypeId} {j : Nat} {want g : Bool} (i : Nat) (hi : nth all i = some ⟨some d, .call ⟨.value x, as0, ats⟩, ty, pos, af, some (j, want)⟩) (hck : (rdB all listed i && apB n all listed i ⟨some d, .call ⟨.value x, as0, ats⟩, ty, pos, af, some (j, want)⟩ && Nat.blt d n && nosB (.call ⟨.value x, as0, ats⟩)) = true) (hg : gOp ⟨fF, fL⟩ all j want = some g) (h : g = true → Fn P H0.g f args res) (hf : res.flat = true) (ha : argsP (strG (tmpOf as0.toList) fF) x as0.toList = some (f, args)) (hc : AllP (conds fF g (tmpOf as0.toList) [])) (hno : noOslG fF (tmpOf as0.toList) = true) (k : (g = true → res.wf) → Hv P n N H0 Q xs all fuel (listed.setIfInBounds i true) ks ⟨updp fF d (.gv g res), fL⟩) : Hv P n N H0 Q xs all (fuel + 1) listed ks ⟨fF, fL⟩ := SW.vcallg (s := ⟨fF, fL⟩) i hi hck hg h hf ha hc hno k
theorem ve {xs : List Nat} {fuel : Nat} {listed : Array Bool} {o : Oper} {j : Option Nat} (i : Nat) (hi : nth all i = some o) (hr : Region.ready .any all.toArray listed = [i]) (hj : (match j with | none => true | some j => memB xs j) = true) (h : E1 P n N H0 all o j ⟨fF, fL⟩ (fun s' => Hv P n N H0 Q (some xs) all fuel (listed.setIfInBounds i true) ks s')) : Hv P n N H0 Q (some xs) all (fuel + 1) listed ks ⟨fF, fL⟩ := SW.ve (s := ⟨fF, fL⟩) i hi hr hj h
theorem vt {xs : Option (List Nat)} {fuel : Nat} {listed : Array Bool} {o : Oper} {j : Option Nat} (i : Nat) (hi : nth all i = some o) (hr : Region.ready .any all.toArray listed = [i]) (ht : tailB all listed i = true) (h : E1 P n N H0 all o j ⟨fF, fL⟩ (fun s' => Hv P n N H0 Q none all fuel (listed.setIfInBounds i true) ks s')) : Hv P n N H0 Q xs all (fuel + 1) listed ks ⟨fF, fL⟩ := SW.vt (s := ⟨fF, fL⟩) i hi hr ht h
theorem vtp {xs : Option (List Nat)} {fuel : Nat} {listed : Array Bool} {o : Oper} {j : Option Nat} (i : Nat) (hi : nth all i = some o) (hr : Region.ready .any all.toArray listed = [i]) (ht : tailP all listed i = true) (h : E1 P n N H0 all o j ⟨fF, fL⟩ (fun s' => Hv P n N H0 Q none all fuel (listed.setIfInBounds i true) ks s')) : Hv P n N H0 Q xs all (fuel + 1) listed ks ⟨fF, fL⟩ := SW.vtp (s := ⟨fF, fL⟩) i hi hr ht h
theorem ecall {f : FuncId} {args : List PV} {res : PV} {as0 : Array Operand} {ats : Array TypeId} (h : Fn P H0.g f args res) (ha : argsP fF x as0.toList = some (f, args)) (hd : Nat.blt d n = true) (k : res.wf → K ⟨updp fF d res, fL⟩) : E1 P n N H0 all ⟨some d, .call ⟨.value x, as0, ats⟩, ty, pos, af, none⟩ none ⟨fF, fL⟩ K := SW.ecall (s := ⟨fF, fL⟩) h ha hd k
theorem eq1 {tb : Tb} {op : Op} {r : PR} (ht : tbB P tb = true) (hd : Nat.blt d n = true) (h : pop tb fL fF op = some r) (hp : AllP r.ps) (he : ∀ x, r.lk = some x → x.2.1 = x.2.2) (k : K ⟨updp fF d r.v, fL⟩) : E1 P n N H0 all ⟨some d, op, ty, pos, af, none⟩ none ⟨fF, fL⟩ K := SW.eq1 (s := ⟨fF, fL⟩) ht hd h hp he k
theorem q1 (h : Qy P N H0 ⟨fF, fL⟩ op ty p) (hd : Nat.blt d n = true) (k : p.wf → Hd P n N H0 Q (.ops all rest) ks ⟨updp fF d p, fL⟩) : Hd P n N H0 Q (.ops all (⟨some d, op, ty, pos, af, none⟩ :: rest)) ks ⟨fF, fL⟩ := SW.q1 (s := ⟨fF, fL⟩) h hd k
theorem vq {xs : Option (List Nat)} {fuel : Nat} {listed : Array Bool} (i : Nat) (h : Qy P N H0 ⟨fF, fL⟩ op ty p) (hi : nth all i = some ⟨some d, op, ty, pos, af, none⟩) (hck : (rdB all listed i && apB n all listed i ⟨some d, op, ty, pos, af, none⟩ && Nat.blt d n && nosB op) = true) (hl : looksB op = false) (k : p.wf → Hv P n N H0 Q xs all fuel (listed.setIfInBounds i true) ks ⟨updp fF d p, fL⟩) : Hv P n N H0 Q xs all (fuel + 1) listed ks ⟨fF, fL⟩ := SW.vq (s := ⟨fF, fL⟩) i h hi hck hl k
theorem q1g {j : Nat} {want g : Bool} (ts : List Nat) (hg : gOp ⟨fF, fL⟩ all j want = some g) (h : g = true → Qy P N H0 (strS ts ⟨fF, fL⟩) op ty p) (hc : AllP (conds fF g ts [])) (hno : noOslG fF ts = true) (hpo : p.noOsl = true) (hd : Nat.blt d n = true) (k : (g = true → p.wf) → Hd P n N H0 Q (.ops all rest) ks ⟨updp fF d (.gv g p), fL⟩) : Hd P n N H0 Q (.ops all (⟨some d, op, ty, pos, af, some (j, want)⟩ :: rest)) ks ⟨fF, fL⟩ := SW.q1g (s := ⟨fF, fL⟩) ts hg h hc hno hpo hd k
theorem vqg {xs : Option (List Nat)} {fuel : Nat} {listed : Array Bool} {j : Nat} {want g : Bool} (i : Nat) (ts : List Nat) (hi : nth all i = some ⟨some d, op, ty, pos, af, some (j, want)⟩) (hck : (rdB all listed i && apB n all listed i ⟨some d, op, ty, pos, af, some (j, want)⟩ && Nat.blt d n && nosB op) = true) (hl : looksB op = false) (hg : gOp ⟨fF, fL⟩ all j want = some g) (h : g = true → Qy P N H0 (strS ts ⟨fF, fL⟩) op ty p) (hc : AllP (conds fF g ts [])) (hno : noOslG fF ts = true) (k : (g = true → p.wf) → Hv P n N H0 Q xs all fuel (listed.setIfInBounds i true) ks ⟨updp fF d (.gv g p), fL⟩) : Hv P n N H0 Q xs all (fuel + 1) listed ks ⟨fF, fL⟩ := SW.vqg (s := ⟨fF, fL⟩) i ts hi hck hl hg h hc hno k
theorem sidx {tb : Tb} {ti : TI} {a : Bs} {k : IntKind} {i : Int} (ht : tbB P tb = true) (m : Nat) (hx : evP fF x = .str a) (hy : evP fF y = .int k i) (hti : lkT tb T = some ti) (htk : ti.k = .str) (hi : i = m) (hm : m < a.length) : Qy P N H0 ⟨fF, fL⟩ (.index T x y) ty (.int .u8 (a.getD m 0).toNat) := SW.sidx (s := ⟨fF, fL⟩) ht m hx hy hti htk hi hm
theorem sslo {tb : Tb} {ti : TI} {a : Bs} {k : IntKind} {i : Int} (ht : tbB P tb = true) (m : Nat) (hx : evP fF x = .str a) (hy : evP fF y = .int k i) (hti : lkT tb T = some ti) (htk : ti.k = .str) (hi : i = m) (hm : m ≤ a.length) : Qy P N H0 ⟨fF, fL⟩ (.slice T x (some y) none none) ty (.str (a.drop m)) := SW.sslo (s := ⟨fF, fL⟩) ht m hx hy hti htk hi hm
theorem sshi {tb : Tb} {ti : TI} {a : Bs} {k : IntKind} {i : Int} (ht : tbB P tb = true) (m : Nat) (hx : evP fF x = .str a) (hy : evP fF y = .int k i) (hti : lkT tb T = some ti) (htk : ti.k = .str) (hi : i = m) (hm : m ≤ a.length) : Qy P N H0 ⟨fF, fL⟩ (.slice T x none (some y) none) ty (.str (a.take m)) := SW.sshi (s := ⟨fF, fL⟩) ht m hx hy hti htk hi hm
theorem ssl {tb : Tb} {ti : TI} {a : Bs} {k k' : IntKind} {i j : Int} (ht : tbB P tb = true) (m q : Nat) (hx : evP fF x = .str a) (hy : evP fF y = .int k i) (hz : evP fF z = .int k' j) (hti : lkT tb T = some ti) (htk : ti.k = .str) (hi : i = m) (hj : j = q) (hm : m ≤ q) (hq : q ≤ a.length) : Qy P N H0 ⟨fF, fL⟩ (.slice T x (some y) (some z) none) ty (.str ((a.drop m).take (q - m))) := SW.ssl (s := ⟨fF, fL⟩) ht m q hx hy hz hti htk hi hj hm hq
theorem qidx {α : Type} {tb : Tb} {ti te : TI} {e : TypeId} {enc : α → List PV} {xs : List α} {kk : IntKind} {i : Int} (ht : tbB P tb = true) (m : Nat) {a : α} (hx : evP fF x = .sl enc xs) (hy : evP fF y = .int kk i) (hm : i = m) (ha : xs[m]? = some a) (hti : lkT tb T = some ti) (hk : ti.k = .slc e) (hte : lkT tb e = some te) (hsz : te.size = (enc a).length) : Qy P N H0 ⟨fF, fL⟩ (.indexAddr T x y) ty (.el (enc a) 0) := SW.qidx (s := ⟨fF, fL⟩) ht m hx hy hm ha hti hk hte hsz
theorem lslo {α : Type} {tb : Tb} {ti te : TI} {e : TypeId} {enc : α → List PV} {xs : List α} {k : IntKind} {i : Int} (ht : tbB P tb = true) (m : Nat) (hx : evP fF x = .sl enc xs) (hy : evP fF y = .int k i) (hti : lkT tb T = some ti) (htk : ti.k = .slc e) (hte : lkT tb e = some te) (hw : ∀ a, (enc a).length = te.size) (hi : i = m) (hm : m ≤ xs.length) : Qy P N H0 ⟨fF, fL⟩ (.slice T x (some y) none none) ty (.sl enc (xs.drop m)) := SW.lslo (s := ⟨fF, fL⟩) ht m hx hy hti htk hte hw hi hm
theorem lshi {α : Type} {tb : Tb} {ti te : TI} {e : TypeId} {enc : α → List PV} {xs : List α} {k : IntKind} {i : Int} (ht : tbB P tb = true) (m : Nat) (hx : evP fF x = .sl enc xs) (hy : evP fF y = .int k i) (hti : lkT tb T = some ti) (htk : ti.k = .slc e) (hte : lkT tb e = some te) (hw : ∀ a, (enc a).length = te.size) (hi : i = m) (hm : m ≤ xs.length) : Qy P N H0 ⟨fF, fL⟩ (.slice T x none (some y) none) ty (.sl enc (xs.take m)) := SW.lshi (s := ⟨fF, fL⟩) ht m hx hy hti htk hte hw hi hm
theorem lnil {α : Type} {tb : Tb} {ti : TI} {e : TypeId} {enc : α → List PV} {xs : List α} (ht : tbB P tb = true) (hx : evP fF x = .sl enc xs) (hy : evP fF y = .val (.slice none 0 0)) (hti : lkT tb T = some ti) (htk : ti.k = .slc e) (hd : Nat.blt d n = true) (k : ∀ b, (b = true → xs = []) → K ⟨updp fF d (.bool b), fL⟩) : E1 P n N H0 all ⟨some d, .binOp .eql T x y T', ty, pos, af, none⟩ none ⟨fF, fL⟩ K := SW.lnil (s := ⟨fF, fL⟩) ht hx hy hti htk hd k
theorem saeq {ps qs : List PV} {r : Bool} (hx : evP fF x = .agg ps) (hy : evP fF y = .agg qs) (hm : P.eqGuardType P.depth T = false) (h : ∀ H vs us, Sims H ps vs → Sims H qs us → EqV P 10000 T (.agg vs.toArray) (.agg us.toArray) r) : Qy P N H0 ⟨fF, fL⟩ (.binOp .eql T x y T') ty (.bool r) := SW.saeq (s := ⟨fF, fL⟩) hx hy hm h
theorem sane {ps qs : List PV} {r : Bool} (hx : evP fF x = .agg ps) (hy : evP fF y = .agg qs) (hm : P.eqGuardType P.depth T = false) (h : ∀ H vs us, Sims H ps vs → Sims H qs us → EqV P 10000 T (.agg vs.toArray) (.agg us.toArray) r) : Qy P N H0 ⟨fF, fL⟩ (.binOp .neq T x y T') ty (.bool (!r)) := SW.sane (s := ⟨fF, fL⟩) hx hy hm h
theorem ss2b {tb : Tb} {ti td te : TI} {e : Nat} {a : Bs} (ht : tbB P tb = true) (hx : evP fF x = .str a) (hti : lkT tb T = some ti) (htk : ti.k = .str) (htd : lkT tb T' = some td) (hdk : td.k = .slc e) (hte : lkT tb e = some te) (hek : te.k = .int .u8) (hl : a.length ≤ 140737488355328) (hd : Nat.blt d n = true) (k : K ⟨updp fF d (.sl u8c a), fL⟩) : E1 P n N H0 all ⟨some d, .convert T T' x, ty, pos, af, none⟩ none ⟨fF, fL⟩ K := SW.ss2b (s := ⟨fF, fL⟩) ht hx hti htk htd hdk hte hek hl hd k
theorem so_rt {t : Nat} {p' : PV} (h : PLe (fF t) p') (hn : p'.noOsl = true) (k : Hd P n N H0 Q (.ops all rest) ks ⟨updp fF t p', fL⟩) : Hd P n N H0 Q (.ops all rest) ks ⟨fF, fL⟩ := SW.so_rt (s := ⟨fF, fL⟩) h hn k
theorem sw_own {α : Type} {t k e : Nat} {c : Code} (i : Nat) (enc : α → List PV) (hF : fF t = .val (.slice none 0 0)) (hno : fL i = .no) (kk : Hd P n N H0 Q (.code c) ks ⟨updp (purgeF i fF) t (.osl i), lups (purgeL i fL) i (.arr (.slice none 0 0) k e enc [])⟩) : Hd P n N H0 Q (.code c) ks ⟨fF, fL⟩ := SW.sw_own (s := ⟨fF, fL⟩) i enc hF hno kk
theorem qadd {k : IntKind} {a b : Int} (hx : evP fF x = .int k a) (hy : evP fF y = .int k b) (h : k.min ≤ a + b ∧ a + b ≤ k.max) : Qy P N H0 ⟨fF, fL⟩ (.binOp .add T x y T') ty (.int k (a + b)) := SW.qadd (s := ⟨fF, fL⟩) hx hy h
theorem qsub {k : IntKind} {a b : Int} (hx : evP fF x = .int k a) (hy : evP fF y = .int k b) (h : k.min ≤ a - b ∧ a - b ≤ k.max) : Qy P N H0 ⟨fF, fL⟩ (.binOp .sub T x y T') ty (.int k (a - b)) := SW.qsub (s := ⟨fF, fL⟩) hx hy h
theorem qconv {tb : Tb} {ti td : TI} {k k' : IntKind} {a : Int} (ht : tbB P tb = true) (hx : evP fF x = .int k a) (hti : lkT tb T = some ti) (htd : lkT tb T' = some td) (hk : td.k = .int k') (h : k'.min ≤ a ∧ a ≤ k'.max) : Qy P N H0 ⟨fF, fL⟩ (.convert T T' x) ty (.int k' a) := SW.qconv (s := ⟨fF, fL⟩) ht hx hti htd hk h
theorem ecallm {f : FuncId} {args pre post : List PV} {res : PV} {as0 : Array Operand} {ats : Array TypeId} {i b b' T0 off : Nat} (h : Fm P H0.g f args T0 pre res post) (ha : argsP fF x as0.toList = some (f, .own i b off :: args)) (hoff : off = 0) (hb : fL i = .box b' T0 pre) (hbb : b' = b) (hd : Nat.blt d n = true) (k : res.wf → PV.wfs post → K ⟨updp fF d res, lups fL i (.box b T0 post)⟩) : E1 P n N H0 all ⟨some d, .call ⟨.value x, as0, ats⟩, ty, pos, af, none⟩ (some i) ⟨fF, fL⟩ K := SW.ecallm (s := ⟨fF, fL⟩) h ha hoff hb hbb hd k
theorem rb {tb : Tb} {rs : List ResultVar} {b b' j off T : Nat} {post q : List PV} (h : resPs tb ⟨fF, fL⟩ rs = some ([.own j b off], [], [])) (ho : off = 0) (hb : fL j = .box b' T q) (hbb : b' = b) (hn : noOsls q = true) (hq : PLes q post) : Hd P n N H0 (rbK tb rs T post) (.ex .ret) [] ⟨fF, fL⟩ := SW.rb (s := ⟨fF, fL⟩) h ho hb hbb hn hq
theorem ecallb {f : FuncId} {args post : List PV} {as0 : Array Operand} {ats : Array TypeId} {T0 : Nat} (i : Nat) (h : Fb P H0.g f args T0 post) (ha : argsP fF x as0.toList = some (f, args)) (hd : Nat.blt d n = true) (k : PV.wfs post → ∀ b, K ⟨updp fF d (.own i b 0), lups fL i (.box b T0 post)⟩) : E1 P n N H0 all ⟨some d, .call ⟨.value x, as0, ats⟩, ty, pos, af, none⟩ (some i) ⟨fF, fL⟩ K := SW.ecallb (s := ⟨fF, fL⟩) i h ha hd k
theorem cndT {c : Operand} {x y : Code} {b : Bool} (hc : evP fF c = .bool b) (hb : b = true) (k : Hd P n N H0 Q (.code x) ks ⟨fF, fL⟩) : Hd P n N H0 Q (.code (.cond c x y)) ks ⟨fF, fL⟩ := SW.cndT (s := ⟨fF, fL⟩) hc hb k
theorem cndF {c : Operand} {x y : Code} {b : Bool} (hc : evP fF c = .bool b) (hb : b = false) (k : Hd P n N H0 Q (.code y) ks ⟨fF, fL⟩) : Hd P n N H0 Q (.code (.cond c x y)) ks ⟨fF, fL⟩ := SW.cndF (s := ⟨fF, fL⟩) hc hb k
theorem rt1 {tb : Tb} {rs : List ResultVar} {res p : PV} {as0 bs : List Nat} (h : resPs tb ⟨fF, fL⟩ rs = some ([p], as0, bs)) (he : as0 = bs) (hp : PLe p res) : Hd P n N H0 (rtK tb rs res) (.ex .ret) [] ⟨fF, fL⟩ := SW.rt1 (s := ⟨fF, fL⟩) h he hp
theorem rt2 {tb : Tb} {rs : List ResultVar} {res p q : PV} {as0 bs : List Nat} (h : resPs tb ⟨fF, fL⟩ rs = some ([p, q], as0, bs)) (he : as0 = bs) (hp : PLe (.tup [p, q]) res) : Hd P n N H0 (rtK tb rs res) (.ex .ret) [] ⟨fF, fL⟩ := SW.rt2 (s := ⟨fF, fL⟩) h he hp
theorem rt3 {tb : Tb} {rs : List ResultVar} {res p q r : PV} {as0 bs : List Nat} (h : resPs tb ⟨fF, fL⟩ rs = some ([p, q, r], as0, bs)) (he : as0 = bs) (hp : PLe (.tup [p, q, r]) res) : Hd P n N H0 (rtK tb rs res) (.ex .ret) [] ⟨fF, fL⟩ := SW.rt3 (s := ⟨fF, fL⟩) h he hp
theorem freeze {i t b b' off T0 : Nat} {cs : List PV} (hF : fF t = .own i b off) (hL : fL i = .box b' T0 cs) (hbb : b' = b) (hn : noOsls cs = true) (k : Hd P n N H0 Q (.ops all rest) ks ⟨updp fF t (.el cs off), lups fL i .no⟩) : Hd P n N H0 Q (.ops all rest) ks ⟨fF, fL⟩ := SW.freeze (s := ⟨fF, fL⟩) hF hL hbb hn k
theorem qpeq {x y : Operand} {T T' ty i b o : Nat} {e : TypeId} (hT : P.underlying T = some (.pointer e)) (hx : evP fF x = .own i b o) (hy : evP fF y = .val (.pointer none)) : Qy P N H0 ⟨fF, fL⟩ (.binOp .eql T x y T') ty (.bool false) := SW.qpeq (s := ⟨fF, fL⟩) hT hx hy
theorem qpne {x y : Operand} {T T' ty i b o : Nat} {e : TypeId} (hT : P.underlying T = some (.pointer e)) (hx : evP fF x = .own i b o) (hy : evP fF y = .val (.pointer none)) : Qy P N H0 ⟨fF, fL⟩ (.binOp .neq T x y T') ty (.bool true) := SW.qpne (s := ⟨fF, fL⟩) hT hx hy
theorem rm1 {tb : Tb} {rs : List ResultVar} {res p : PV} {b b' T : Nat} {post q : List PV} {as0 bs : List Nat} (h : resPs tb ⟨fF, fL⟩ rs = some ([p], as0, bs)) (he : as0 = bs) (hp : PLe p res) (hb : fL 0 = .box b' T q) (hbb : b' = b) (hn : noOsls q = true) (hq : PLes q post) : Hd P n N H0 (rmK tb rs res b T post) (.ex .ret) [] ⟨fF, fL⟩ := SW.rm1 (s := ⟨fF, fL⟩) h he hp hb hbb hn hq
theorem rm0n {tb : Tb} {rs : List ResultVar} {res : PV} {b b' T : Nat} {post q : List PV} {as0 bs : List Nat} (h : resPs tb ⟨fF, fL⟩ rs = some ([], as0, bs)) (he : as0 = bs) (hp : PLe (.tup []) res) (hb : fL 0 = .box b' T q) (hbb : b' = b) (hn : noOsls q = true) (hq : PLes q post) : Hd P n N H0 (rmK tb rs res b T post) (.ex .normal) [] ⟨fF, fL⟩ := SW.rm0n (s := ⟨fF, fL⟩) h he hp hb hbb hn hq
theorem ecallo {α : Type} {f : FuncId} {args : List PV} {res : Value → PV} {k e : Nat} {enc : α → List PV} {xs : List α} {as0 : Array Operand} {ats : Array TypeId} (i : Nat) (h : Fo P H0.g f args res k e enc xs) (ha : argsP fF x as0.toList = some (f, args)) (hd : Nat.blt d n = true) (kk : ∀ u, (res u).wf → K ⟨updp (purgeF i fF) d (res u), lups (purgeL i fL) i (.arr u k e enc xs)⟩) : E1 P n N H0 all ⟨some d, .call ⟨.value x, as0, ats⟩, ty, pos, af, none⟩ (some i) ⟨fF, fL⟩ K := SW.ecallo (s := ⟨fF, fL⟩) i h ha hd kk
theorem sw_osl {α : Type} {t k e : Nat} {u : Value} {enc : α → List PV} {xs : List α} {c : Code} (i : Nat) (hF : fF t = .val u) (hL : fL i = .arr u k e enc xs) (kk : Hd P n N H0 Q (.code c) ks ⟨updp fF t (.osl i), fL⟩) : Hd P n N H0 Q (.code c) ks ⟨fF, fL⟩ := SW.sw_osl (s := ⟨fF, fL⟩) i hF hL kk
theorem sw_val {α : Type} {t i k e : Nat} {u : Value} {enc : α → List PV} {xs : List α} {c : Code} (hF : fF t = .osl i) (hL : fL i = .arr u k e enc xs) (kk : Hd P n N H0 Q (.code c) ks ⟨updp fF t (.val u), fL⟩) : Hd P n N H0 Q (.code c) ks ⟨fF, fL⟩ := SW.sw_val (s := ⟨fF, fL⟩) hF hL kk
theorem ro1 {α : Type} {tb : Tb} {rs : List ResultVar} {u : Value} {k e j : Nat} {enc : α → List PV} {xs xs' : List α} {as0 bs : List Nat} (h : resPs tb ⟨fF, fL⟩ rs = some ([.val u], as0, bs)) (he : as0 = bs) (hL : fL j = .arr u k e enc xs') (hx : xs' = xs) : Hd P n N H0 (foK tb rs (fun u => .val u) k e enc xs) (.ex .ret) [] ⟨fF, fL⟩ := SW.ro1 (s := ⟨fF, fL⟩) h he hL hx
theorem qmaxN {as0 : Array Operand} {k : IntKind} {z r : Int} (zs : List Int) {ats : Array TypeId} (hx : evPs fF as0.toList = (z :: zs).map (PV.int k)) (hr : zs.foldl max z = r) (hq : k.min ≤ r ∧ r ≤ k.max) : Qy P N H0 ⟨fF, fL⟩ (.call ⟨.builtin .max, as0, ats⟩) ty (.int k r) := SW.qmaxN (s := ⟨fF, fL⟩) zs hx hr hq
theorem ecallg {f : FuncId} {args : List PV} {res : PV} {x : Operand} {xs : Array Operand} {ats : Array TypeId} {ty d j : Nat} {want g : Bool} {pos : String} {af : Array Edge} (hg : gOp ⟨fF, fL⟩ all j want = some g) (h : g = true → Fn P H0.g f args res) (ha : argsP (strG (tmpOf xs.toList) fF) x xs.toList = some (f, args)) (hc : AllP (conds fF g (tmpOf xs.toList) [])) (hno : noOslG fF (tmpOf xs.toList) = true) (hd : Nat.blt d n = true) (k : (g = true → res.wf) → K ⟨updp fF d (.gv g res), fL⟩) : E1 P n N H0 all ⟨some d, .call ⟨.value x, xs, ats⟩, ty, pos, af, some (j, want)⟩ none ⟨fF, fL⟩ K := SW.ecallg (s := ⟨fF, fL⟩) hg h ha hc hno hd k
theorem ungd {od : Option Nat} {op : Op} {ty j : Nat} {pos : String} {af : Array Edge} {want g : Bool} (hg : gOp ⟨fF, fL⟩ all j want = some g) (ht : g = true) (k : Hd P n N H0 Q (.ops all (⟨od, op, ty, pos, af, none⟩ :: rest)) ks ⟨fF, fL⟩) : Hd P n N H0 Q (.ops all (⟨od, op, ty, pos, af, some (j, want)⟩ :: rest)) ks ⟨fF, fL⟩ := SW.ungd (s := ⟨fF, fL⟩) hg ht k
theorem ungs {op : Op} {ty j d : Nat} {pos : String} {af : Array Edge} {want g : Bool} (hg : gOp ⟨fF, fL⟩ all j want = some g) (ht : g = false) (hd : Nat.blt d n = true) (k : Hd P n N H0 Q (.ops all rest) ks ⟨updp fF d .junk, fL⟩) : Hd P n N H0 Q (.ops all (⟨some d, op, ty, pos, af, some (j, want)⟩ :: rest)) ks ⟨fF, fL⟩ := SW.ungs (s := ⟨fF, fL⟩) hg ht hd k
theorem qlen0 {tb : Tb} {ti : TI} {e : Nat} (ht : tbB P tb = true) (hx : evP fF x = .val (.slice none 0 0)) (hti : lkT tb T = some ti) (htk : ti.k = .slc e) : Qy P N H0 ⟨fF, fL⟩ (.call ⟨.builtin .len, #[x], #[T]⟩) ty (.int .i64 0) := SW.qlen0 (s := ⟨fF, fL⟩) ht hx hti htk
theorem qcap0 {tb : Tb} {ti : TI} {e : Nat} (ht : tbB P tb = true) (hx : evP fF x = .val (.slice none 0 0)) (hti : lkT tb T = some ti) (htk : ti.k = .slc e) : Qy P N H0 ⟨fF, fL⟩ (.call ⟨.builtin .cap, #[x], #[T]⟩) ty (.int .i64 0) := SW.qcap0 (s := ⟨fF, fL⟩) ht hx hti htk
theorem qcut0 {tb : Tb} {ti te : TI} {e : Nat} {k : IntKind} {i : Int} (ht : tbB P tb = true) (hx : evP fF x = .val (.slice none 0 0)) (hy : evP fF y = .int k i) (hti : lkT tb T = some ti) (htk : ti.k = .slc e) (hte : lkT tb e = some te) (hi : i = 0) : Qy P N H0 ⟨fF, fL⟩ (.slice T x none (some y) none) ty (.val (.slice none 0 0)) := SW.qcut0 (s := ⟨fF, fL⟩) ht hx hy hti htk hte hi
theorem appz {tb : Tb} (i : Nat) {e m : Nat} {te ti t2 : TI} {k1 k2 : IntKind} {q : Int} (ht : tbB P tb = true) (hx : evP fF x = .val (.slice none 0 0)) (hy : evP fF y = .int k1 q) (hti : lkT tb T = some ti) (htk : ti.k = .slc e) (ht2 : lkT tb T2 = some t2) (ht2k : t2.k = .int k2) (hte : lkT tb e = some te) (hz : te.zero.length = te.size) (hone : all1 te.zero = true) (hby : Nat.blt 0 te.bytes = true) (hq : q = (m : Int)) (hm0 : 0 < m) (hbd : m * te.bytes ≤ 140737488355328) (hd : Nat.blt d n = true) (hno : fL i = .no) (kk : ∀ u', K ⟨updp (purgeF i fF) d (.osl i), lups (purgeL i fL) i (.arr u' te.size e (jrow te.size) (List.replicate m ()))⟩) : E1 P n N H0 all ⟨some d, .call ⟨.builtin .append, #[x, y], #[T, T2]⟩, ty, pos, af, none⟩ (some i) ⟨fF, fL⟩ K := SW.appz (s := ⟨fF, fL⟩) i ht hx hy hti htk ht2 ht2k hte hz hone hby hq hm0 hbd hd hno kk
theorem ocut {α β : Type} {tb : Tb} {i e k : Nat} {u : Value} {enc : α → List PV} {xs : List α} {te ti : TI} {k1 : IntKind} {q : Int} (enc' : β → List PV) (ht : tbB P tb = true) (hx : evP fF x = .osl i) (hb : fL i = .arr u k e enc xs) (hy : evP fF y = .int k1 q) (hti : lkT tb T = some ti) (htk : ti.k = .slc e) (hte : lkT tb e = some te) (hq : q = 0) (hd : Nat.blt d n = true) (kk : ∀ u', K ⟨updp (purgeF i fF) d (.osl i), lups (purgeL i fL) i (.arr u' k e enc' [])⟩) : E1 P n N H0 all ⟨some d, .slice T x none (some y) none, ty, pos, af, none⟩ (some i) ⟨fF, fL⟩ K := SW.ocut (s := ⟨fF, fL⟩) enc' ht hx hb hy hti htk hte hq hd kk
theorem ecallw {α : Type} {f : FuncId} {args : List PV} {res : Value → PV} {i k e k2 e2 : Nat} {enc : α → List PV} {xs ys : List α} {u : Value} {as0 : Array Operand} {ats : Array TypeId} (h : Fl P H0.g f args res k e enc xs ys) (hx : evP fF x = .fn f [] []) (ha : evPs fF as0.toList = .osl i :: args) (hb : fL i = .arr u k2 e2 enc xs) (hk : k2 = k) (he2 : e2 = e) (hd : Nat.blt d n = true) (kk : ∀ u', (res u').wf → K ⟨updp (purgeF i fF) d (res u'), lups (purgeL i fL) i (.arr u' k e enc ys)⟩) : E1 P n N H0 all ⟨some d, .call ⟨.value x, as0, ats⟩, ty, pos, af, none⟩ (some i) ⟨fF, fL⟩ K := SW.ecallw (s := ⟨fF, fL⟩) h hx ha hb hk he2 hd kk
theorem next {ι : Type _} {keep kL : List Nat} {G : Nat → PV} {GL : Nat → Blk} {lv : ι → List (Nat × PV)} {lL : ι → List (Nat × Blk)} {Φ : ι → Prop} {μ : ι → Nat} {m : Nat} {ks : List Kt} {Q : Qs} (x' : ι) (h1 : keep.map fF = keep.map G) (h2 : kL.map fL = kL.map GL) (h3 : AllF fF (lv x')) (h4 : AllL fL (lL x')) (hm : μ x' < m) (hΦ : Φ x') : Hd P n N H0 Q (.ex .normal) (.lp (LJ (fun x => ⟨mkF (lv x) keep G, mkL (lL x) kL GL⟩) Φ μ m) :: ks) ⟨fF, fL⟩ := SW.next (s := ⟨fF, fL⟩) x' h1 h2 h3 h4 hm hΦ
theorem go {tb : Tb} (ht : tbB P tb = true) (k : Nat) {c c' : Cf} {ks' : List Kt} {F' : Nat → PV} {L' : Nat → Blk} {ps : List Prop} {as0 bs : List Nat} (h : run tb n k c ks fF fL [] [] [] = some ⟨c', ks', F', L', ps, as0, bs⟩) (he : as0 = bs) (hp : AllP ps) (next : Hd P n N H0 Q c' ks' ⟨F', L'⟩) : Hd P n N H0 Q c ks ⟨fF, fL⟩ := SW.go ht k h he hp next
theorem gov {tb : Tb} (ht : tbB P tb = true) (order : List Nat) (f : Nat) {xs : Option (List Nat)} {fuel : Nat} {listed : Array Bool} {F' : Nat → PV} {L' : Nat → Blk} {ps : List Prop} {as0 bs : List Nat} (hf : fuel = f + order.length) (hc : chkV n all order listed = true) (h : runV tb xs all order fF fL [] [] [] = some ⟨F', L', ps, as0, bs⟩) (he : as0 = bs) (hp : AllP ps) (next : Hv P n N H0 Q xs all f (lst listed order) ks ⟨F', L'⟩) : Hv P n N H0 Q xs all fuel listed ks ⟨fF, fL⟩ := SW.gov ht order f hf hc h he hp next
end Go.SW.V
namespace Go.SW
/-- The frame that bytes begin with, how many bytes it has, and what is wrong. -/
def parseF (s : Bs) : Frame × Int × Int :=
  let a := inNum ⟨s, 0⟩ 1
  let b := inNum a.2 1
  let c := inText b.2 2048
  let d := inNum c.2 4
  let e := inNum d.2 1
  if e.2.err ≠ 0 then (Frame.zero, 0, e.2.err)
  else if e.1 ≠ 206 then (Frame.zero, 0, 4)
  else if crcSum [s.take (4 + c.1.length)] ≠ d.1 then (Frame.zero, 0, 14)
  else (⟨a.1, b.1, c.1⟩, 4 + c.1.length + 5, 0)
/-! Layer 8 -/
structure Feed where
  rest : Bs
  err : Int
def Feed.cells (f : Feed) : List Value := [str f.rest, .int .i64 f.err]
def feedGo : Nat → Bs → List Frame → Feed × List Frame
  | 0, r, out => (⟨r, 0⟩, out)
  | k + 1, r, out =>
    if (parseF r).2.2 = 0 then feedGo k (r.drop (parseF r).2.1.toNat) (out ++ [(parseF r).1])
    else if (parseF r).2.2 = 3 then (⟨r, 0⟩, out)
    else (⟨[], (parseF r).2.2⟩, out)
def feedTake (f : Feed) (chunk : Bs) : Feed × List Frame :=
  if f.err ≠ 0 then (f, []) else feedGo ((f.rest ++ chunk).length + 1) (f.rest ++ chunk) []
end Go.SW
namespace Go.SW
def mt : List Bs → List Bs → Bool
  | [], k => k.isEmpty
  | w :: p, k => if w = [35] then (List.range (k.length + 1)).any (fun f => mt p (k.drop f)) else match k with
    | [] => false
    | x :: r => (decide (w = [42]) || decide (w = x)) && mt p r
theorem mt_hash {p k : List Bs} : mt ([35] :: p) k = true ↔ ∃ f, mt p (k.drop f) = true := by
  simp only [mt, if_true, List.any_eq_true, List.mem_range]
  constructor
  · rintro ⟨f, _, h⟩; exact ⟨f, h⟩
  · rintro ⟨f, h⟩
    by_cases hf : f < k.length + 1
    · exact ⟨f, hf, h⟩
    · refine ⟨k.length, by omega, ?_⟩
      rw [List.drop_of_length_le (by omega)] at h
      rw [List.drop_of_length_le (by omega)]; exact h
theorem mt_cons {w : Bs} {p k : List Bs} (hw : w ≠ [35]) : mt (w :: p) k = true ↔ ∃ x r, k = x :: r ∧ (w = [42] ∨ w = x) ∧ mt p r = true := by
  simp only [mt, if_neg hw]
  cases k with
  | nil => simp
  | cons x r =>
    constructor
    · intro h; simp at h; exact ⟨x, r, rfl, h.1, h.2⟩
    · rintro ⟨x', r', e, h1, h2⟩; cases e; simp [h1, h2]
structure MI (p k : List Bs) (i j : Nat) (b : Int) (f : Nat) : Prop where
  hi : i ≤ p.length
  hj : j ≤ k.length
  hf : f ≤ j
  hb : -1 ≤ b
  hbi : b ≤ i
  no : b < 0 → (mt p k = true ↔ mt (p.drop i) (k.drop j) = true)
  seg : 0 ≤ b → j = f + (i - b.toNat)
  go : 0 ≤ b → (mt p k = true ↔ ∃ g, f ≤ g ∧ mt (p.drop b.toNat) (k.drop g) = true)
  fw : 0 ≤ b → ∀ g, mt (p.drop b.toNat) (k.drop g) = true → mt (p.drop i) (k.drop (g + (i - b.toNat))) = true
  bw : 0 ≤ b → mt (p.drop i) (k.drop j) = true → mt (p.drop b.toNat) (k.drop f) = true
theorem MI.start (p k : List Bs) : MI p k 0 0 (-1) 0 :=
  ⟨Nat.zero_le _, Nat.zero_le _, Nat.zero_le _, by omega, by omega, fun _ => by simp, fun h => absurd h (by decide), fun h => absurd h (by decide), fun h => absurd h (by decide), fun h => absurd h (by decide)⟩
theorem MI.hash {p k : List Bs} {i j f : Nat} {b : Int} (h : MI p k i j b f) (hp : p[i]? = some [35]) : MI p k (i + 1) j ((i : Int) + 1) j := by
  have hi : i < p.length := (List.getElem?_eq_some_iff.1 hp).1
  have hd := dropE hp
  have e1 : ((i : Int) + 1).toNat = i + 1 := by omega
  refine ⟨hi, h.hj, Nat.le_refl _, by omega, by omega, fun q => absurd q (by omega), fun _ => by omega, fun _ => ?_, fun _ g hg => ?_, fun _ hg => ?_⟩
  · rw [e1]
    by_cases hb : b < 0
    · rw [h.no hb, hd, mt_hash]
      constructor
      · rintro ⟨g, hg⟩; rw [List.drop_drop] at hg; exact ⟨j + g, by omega, hg⟩
      · rintro ⟨g, hle, hg⟩; refine ⟨g - j, ?_⟩; rw [List.drop_drop, show j + (g - j) = g by omega]; exact hg
    · have hs := h.seg (by omega)
      rw [h.go (by omega)]
      constructor
      · rintro ⟨g, hle, hg⟩
        have := h.fw (by omega) g hg
        rw [hd, mt_hash] at this
        obtain ⟨f', hf'⟩ := this
        rw [List.drop_drop] at hf'
        exact ⟨_, by omega, hf'⟩
      · rintro ⟨g, hle, hg⟩
        refine ⟨f, Nat.le_refl _, h.bw (by omega) ?_⟩
        rw [hd, mt_hash]
        refine ⟨g - j, ?_⟩
        rw [List.drop_drop, show j + (g - j) = g by omega]; exact hg
  · rw [e1] at hg ⊢; rw [Nat.sub_self]; exact hg
  · rw [e1]; exact hg
theorem MI.step {p k : List Bs} {i j f : Nat} {b : Int} {w x : Bs} (h : MI p k i j b f) (hp : p[i]? = some w) (hk : k[j]? = some x) (hw : w ≠ [35]) (hm : w = [42] ∨ w = x) : MI p k (i + 1) (j + 1) b f := by
  have hi : i < p.length := (List.getElem?_eq_some_iff.1 hp).1
  have hj : j < k.length := (List.getElem?_eq_some_iff.1 hk).1
  have hd := dropE hp
  have hkd := dropE hk
  have hbi := h.hbi
  have one : mt (p.drop i) (k.drop j) = true ↔ mt (p.drop (i + 1)) (k.drop (j + 1)) = true := by
    rw [hd, hkd, mt_cons hw]
    constructor
    · rintro ⟨x', r, e, _, hr⟩; cases e; exact hr
    · intro hr; exact ⟨_, _, rfl, hm, hr⟩
  refine ⟨hi, hj, by have := h.hf; omega, h.hb, by omega, fun q => (h.no q).trans one, fun q => by have := h.seg q; omega, h.go, fun q g hg => ?_, fun q hg => h.bw q (one.2 hg)⟩
  have := h.fw q g hg
  rw [hd, mt_cons hw] at this
  obtain ⟨x', r, e, _, hr⟩ := this
  have e2 : k.drop (g + (i + 1 - b.toNat)) = r := by
    rw [show g + (i + 1 - b.toNat) = (g + (i - b.toNat)) + 1 by omega, ← List.drop_drop, e]; rfl
  rw [e2]; exact hr
theorem MI.bad {p k : List Bs} {i j f : Nat} {b : Int} {x : Bs} (_ : MI p k i j b f) (hk : k[j]? = some x) (hm : ∀ w, p[i]? = some w → w ≠ [35] ∧ w ≠ [42] ∧ w ≠ x) : mt (p.drop i) (k.drop j) = false := by
  rw [dropE hk]
  cases hp : p[i]? with
  | none =>
    have : p.length ≤ i := List.getElem?_eq_none_iff.1 hp
    rw [List.drop_of_length_le this]; rfl
  | some w =>
    obtain ⟨h1, h2, h3⟩ := hm w hp
    rw [dropE hp]
    cases q : mt (w :: p.drop (i + 1)) (x :: k.drop (j + 1)) with
    | false => rfl
    | true =>
      obtain ⟨x', r, e, hh, _⟩ := (mt_cons h1).1 q
      cases e
      rcases hh with hh | hh
      · exact absurd hh h2
      · exact absurd hh h3
theorem MI.back {p k : List Bs} {i j f : Nat} {b : Int} {x : Bs} (h : MI p k i j b f) (hk : k[j]? = some x) (hb : 0 ≤ b) (hm : ∀ w, p[i]? = some w → w ≠ [35] ∧ w ≠ [42] ∧ w ≠ x) : MI p k b.toNat (f + 1) b (f + 1) := by
  have hj : j < k.length := (List.getElem?_eq_some_iff.1 hk).1
  have hbad := h.bad hk hm
  have h1 := h.hf
  have h2 := h.hi
  have h3 := h.hbi
  refine ⟨by omega, by omega, Nat.le_refl _, h.hb, by omega, fun q => absurd q (by omega), fun _ => by omega, fun _ => ?_, fun _ g hg => ?_, fun _ hg => hg⟩
  · rw [h.go hb]
    constructor
    · rintro ⟨g, hle, hg⟩
      by_cases e : g = f
      · subst e
        have := h.fw hb g hg
        rw [← h.seg hb, hbad] at this; cases this
      · exact ⟨g, by omega, hg⟩
    · rintro ⟨g, hle, hg⟩; exact ⟨g, by omega, hg⟩
  · rw [Nat.sub_self]; exact hg
theorem MI.none {p k : List Bs} {i j f : Nat} {b : Int} {x : Bs} (h : MI p k i j b f) (hk : k[j]? = some x) (hb : b < 0) (hm : ∀ w, p[i]? = some w → w ≠ [35] ∧ w ≠ [42] ∧ w ≠ x) : mt p k = false := by
  have hbad := h.bad hk hm
  cases q : mt p k with
  | false => rfl
  | true => rw [(h.no hb).1 q] at hbad; cases hbad
theorem MI.fin {p k : List Bs} {i j f : Nat} {b : Int} (h : MI p k i j b f) (hj : k.length ≤ j) : mt p k = mt (p.drop i) [] := by
  rw [Bool.eq_iff_iff]
  have e : k.drop j = [] := List.drop_of_length_le hj
  by_cases hb : b < 0
  · rw [h.no hb, e]
  · have hs := h.seg (by omega)
    rw [h.go (by omega)]
    constructor
    · rintro ⟨g, hle, hg⟩
      have := h.fw (by omega) g hg
      have e2 : k.drop (g + (i - b.toNat)) = [] := List.drop_of_length_le (by omega)
      rw [e2] at this; exact this
    · intro hg; exact ⟨f, Nat.le_refl _, h.bw (by omega) (by rw [e]; exact hg)⟩
theorem mt_end {p : List Bs} {i : Nat} {m : Bool} (h : m = mt (p.drop i) []) (hp : p[i]? = some [35]) : m = mt (p.drop (i + 1)) [] := by
  rw [h, dropE hp, Bool.eq_iff_iff, mt_hash]; simp
theorem mt_endN {p : List Bs} {i : Nat} {w : Bs} (hp : p[i]? = some w) (hw : w ≠ [35]) : mt (p.drop i) [] = false := by
  rw [dropE hp]; simp only [mt, if_neg hw]
def mmu (p k : List Bs) (j : Nat) (b : Int) (f : Nat) : Nat := (p.length + 1 - (b + 1).toNat) * ((k.length + 1) * (k.length + 1)) + (k.length - f) * (k.length + 1) + (k.length - j)
theorem mmu_hash {p k : List Bs} {i j f : Nat} {b : Int} (h : MI p k i j b f) (hi : i < p.length) : mmu p k j ((i : Int) + 1) j < mmu p k j b f := by
  have h1 := h.hbi
  have h2 := h.hb
  unfold mmu
  have e : p.length + 1 - (b + 1).toNat = (p.length + 1 - ((i : Int) + 1 + 1).toNat) + 1 + (p.length + 1 - (b + 1).toNat - ((p.length + 1 - ((i : Int) + 1 + 1).toNat) + 1)) := by omega
  have h3 : (k.length - j) * (k.length + 1) ≤ k.length * (k.length + 1) := Nat.mul_le_mul_right _ (Nat.sub_le _ _)
  have h4 : (k.length + 1) * (k.length + 1) = k.length * (k.length + 1) + (k.length + 1) := by rw [Nat.succ_mul]
  generalize (k.length + 1) * (k.length + 1) = q at *
  rw [e, Nat.add_mul, Nat.add_mul, Nat.one_mul]
  omega
theorem mmu_step {p k : List Bs} {j f : Nat} {b : Int} (hj : j < k.length) : mmu p k (j + 1) b f < mmu p k j b f := by
  unfold mmu; omega
theorem mmu_back {p k : List Bs} {j f : Nat} {b : Int} (hf : f ≤ j) (hj : j < k.length) : mmu p k (f + 1) b (f + 1) < mmu p k j b f := by
  unfold mmu
  have e : (k.length - f) * (k.length + 1) = (k.length - (f + 1)) * (k.length + 1) + (k.length + 1) := by
    rw [show k.length - f = (k.length - (f + 1)) + 1 by omega, Nat.succ_mul]
  rw [e]; omega
end Go.SW
namespace Go.SW
/-! Heads that are read -/
def readOne (i : In) : Pair × In :=
  let a := inText i 16
  let b := inNum a.2 1
  if b.1 = 0 then (⟨a.1, 0, IntKind.wrap .i64 (inNum b.2 8).1, []⟩, (inNum b.2 8).2)
  else if b.1 = 1 then (⟨a.1, 1, 0, (inText b.2 64).1⟩, (inText b.2 64).2)
  else if b.1 = 2 then (⟨a.1, 2, IntKind.wrap .i64 (inNum b.2 1).1, []⟩, (inNum b.2 1).2)
  else (⟨a.1, b.1, 0, []⟩, inFail b.2 8)
def readGo : Nat → In → List Pair → List Pair × In
  | 0, i, h => (h, i)
  | k + 1, i, h =>
    let p := readOne i
    let j := if p.2.err = 0 then inFail p.2 (pairErr p.1 h) else p.2
    if j.err ≠ 0 then ([], j) else readGo k j (h ++ [p.1])
def headRead (i : In) : List Pair × In := readGo (inNum i 1).1.toNat (if 8 < (inNum i 1).1 then inFail (inNum i 1).2 6 else (inNum i 1).2) []
end Go.SW
namespace Go.SW
def Mail.zero : Mail := ⟨0, [], [], [], [], 0, 0⟩
def Reply.zero : Reply := ⟨0, 0, 0, 0, false, [], Mail.zero⟩
/-- What a message that is sent tells. -/
def sentRead (i : In) : (Bool × Mail) × In :=
  let y := inNum i 1
  let shop := inText (if 1 < y.1 then inFail y.2 4 else y.2) 16
  let key := inText shop.2 64
  let head := headRead key.2
  let body := inText head.2 256
  ((decide (y.1 = 1), ⟨0, shop.1, key.1, head.1, body.1, 0, 0⟩), body.2)
def replyRead (c k : Int) (i : In) : Reply × In :=
  if k = 0 then (⟨c, k, 0, 0, false, (inText i 16).1, Mail.zero⟩, (inText i 16).2)
  else if k = 2 ∨ k = 5 ∨ k = 7 then (⟨c, k, (inNum i 8).1, 0, false, [], Mail.zero⟩, (inNum i 8).2)
  else if k = 6 then (⟨c, k, (inNum i 8).1, (inNum (inNum i 8).2 8).1, false, [], Mail.zero⟩, (inNum (inNum i 8).2 8).2)
  else if k = 3 then (⟨c, k, (inNum i 8).1, (inNum (inNum i 8).2 8).1, (sentRead (inNum (inNum i 8).2 8).2).1.1, [], (sentRead (inNum (inNum i 8).2 8).2).1.2⟩, (sentRead (inNum (inNum i 8).2 8).2).2)
  else (⟨c, k, 0, 0, false, [], Mail.zero⟩, i)
def replyOf (f : Frame) : Reply × Int :=
  if f.kind < 64 ∨ 71 < f.kind then (Reply.zero, 8)
  else
    let r := replyRead f.channel (f.kind - 64) ⟨f.body, 0⟩
    let e := if inEnd r.2 = 0 then replyE r.1 else inEnd r.2
    if e ≠ 0 then (Reply.zero, e) else (r.1, 0)
/-! What the document's reader holds -/
structure RIn where
  s : Bs
  pos : Int
  code : Int
def RIn.cells (i : RIn) : List Value := [str i.s, .int .i64 i.pos, .int .i64 i.code]
structure RSt (i : RIn) (I : In) : Prop where
  lo : 0 ≤ i.pos
  hi : i.pos ≤ i.s.length
  len : i.s.length ≤ 9223372036854775807
  err : I.err = i.code
  ok : i.code = 0 → I.s = i.s.drop i.pos.toNat
  bad : i.code ≠ 0 → I.s = []
def rFail (i : RIn) (c : Int) : RIn := if i.code = 0 then ⟨i.s, i.pos, c⟩ else i
end Go.SW
namespace Go.SW
def txtB (s : Bs) : Bs := numB 2 s.length ++ s
def pairB (p : Pair) : Bs := txtB p.key ++ (numB 1 p.kind.toNat ++ (if p.kind = 0 then numB 8 (IntKind.wrap .u64 p.num).toNat else if p.kind = 1 then txtB p.text else numB 1 (IntKind.wrap .u64 p.num).toNat))
theorem outText_s {o : Out} {s : Bs} (h : (s.length : Int) ≤ 65535) : outText o s = ⟨o.s ++ txtB s, o.err⟩ := by
  unfold outText
  rw [if_neg (by omega)]
  have e : numK 2 = 2 := by decide
  simp [outRaw, outNum, e, txtB]
theorem outNum_s {o : Out} {n : Int} {k : Nat} (h : k ≤ 8) : outNum o n k = ⟨o.s ++ numB k n.toNat, o.err⟩ := by
  simp only [outNum, numK]
  rw [show (min (max (k : Int) 0) 8).toNat = k by omega]
theorem outNum1 {o : Out} {n : Int} : outNum o n 1 = ⟨o.s ++ numB 1 n.toNat, o.err⟩ := outNum_s (k := 1) (by omega)
theorem outNum8 {o : Out} {n : Int} : outNum o n 8 = ⟨o.s ++ numB 8 n.toNat, o.err⟩ := outNum_s (k := 8) (by omega)
theorem pairErr_fwd {p : Pair} {ahead : List Pair} (h : pairErr p ahead = 0) : (p.kind = 2 → p.num = 0 ∨ p.num = 1) ∧ (p.kind = 1 → p.num = 0) ∧ (p.kind ≠ 1 → p.text = []) := by
  unfold pairErr at h
  split at h
  · contradiction
  · split at h
    · cases h
    · split at h
      · cases h
      · split at h
        · cases h
        · rename_i h2
          split at h
          · cases h
          · rename_i h3
            refine ⟨fun e => ?_, fun e => ?_, fun e => ?_⟩
            · by_cases q : p.num = 0
              · exact .inl q
              · exact .inr (Decidable.byContradiction fun q2 => h2 ⟨e, q, q2⟩)
            · exact Decidable.byContradiction fun q => h3 (.inl ⟨e, q⟩)
            · exact Decidable.byContradiction fun q => h3 (.inr ⟨e, q⟩)
end Go.SW
namespace Go.SW
section
variable {α : Type} [DecidableEq α] {a b ra rb : List α} {x y : α} {k : Nat}
theorem eqL_len (h : ¬ (a.length : Int) = b.length) : decide (a = b) = false := by
  rw [decide_eq_false_iff_not]; rintro rfl; exact h rfl
theorem eqL_step (h : decide (a = b) = decide (a.drop k = b.drop k)) (ha : a.drop k = x :: ra) (hb : b.drop k = y :: rb) (e : x = y) : decide (a = b) = decide (ra = rb) := by
  rw [h, ha, hb, Bool.eq_iff_iff]; simp [e]
theorem eqL_miss (h : decide (a = b) = decide (a.drop k = b.drop k)) (ha : a.drop k = x :: ra) (hb : b.drop k = y :: rb) (e : ¬ x = y) : decide (a = b) = false := by
  rw [h, ha, hb, Bool.eq_iff_iff]; simp [e]
theorem eqL_end (h : decide (a = b) = decide (a.drop k = b.drop k)) (ha : a.length ≤ k) (hb : b.length ≤ k) : decide (a = b) = true := by
  rw [h, List.drop_of_length_le ha, List.drop_of_length_le hb]; simp
end
section
variable {α : Type} {p : α → Bool} {a r : List α} {x : α} {k : Nat}
theorem all_step (h : a.all p = (a.drop k).all p) (ha : a.drop k = x :: r) (e : p x = true) : a.all p = r.all p := by rw [h, ha]; simp [e]
theorem all_miss (h : a.all p = (a.drop k).all p) (ha : a.drop k = x :: r) (e : p x = false) : a.all p = false := by rw [h, ha]; simp [e]
theorem all_end (h : a.all p = (a.drop k).all p) (ha : a.length ≤ k) : a.all p = true := by rw [h, List.drop_of_length_le ha]; rfl
end
theorem Mail.eq_iff {a b : Mail} : a = b ↔ a.id = b.id ∧ a.shop = b.shop ∧ a.key = b.key ∧ a.head = b.head ∧ a.body = b.body ∧ a.due = b.due ∧ a.hops = b.hops := by
  cases a; cases b; simp
theorem Reply.eq_iff {a b : Reply} : a = b ↔ a.channel = b.channel ∧ a.kind = b.kind ∧ a.n = b.n ∧ a.m = b.m ∧ a.yes = b.yes ∧ a.name = b.name ∧ a.mail = b.mail := by
  cases a; cases b; simp
/-! Light -/
def lightP (p : Pair) : Bool := decide (p.key.length ≤ 40) && decide (p.text.length ≤ 100)
def lightH (h : List Pair) : Bool := decide (h.length ≤ 12) && h.all lightP
def lightR (r : Reply) : Bool := decide (max (r.name.length : Int) (r.mail.shop.length : Int) ≤ 40) && decide ((r.mail.key.length : Int) ≤ 100) && lightH r.mail.head && decide ((r.mail.body.length : Int) ≤ 300)
end Go.SW
namespace Go.SW
def sentB (yes : Bool) (m : Mail) : Bs := numB 1 (if yes = true then (1 : Int) else 0).toNat ++ (txtB m.shop ++ (txtB m.key ++ (headBytes m.head ++ txtB m.body)))
end Go.SW
namespace Go.SW
def fSum (f : Frame) : Int := crcSum [numB 1 f.channel.toNat ++ (numB 1 f.kind.toNat ++ txtB f.body)]
def frB (f : Frame) : Bs := numB 1 f.channel.toNat ++ (numB 1 f.kind.toNat ++ (txtB f.body ++ (numB 4 (fSum f).toNat ++ numB 1 206)))
/-! Feeds: the bytes of frames, in two pieces -/
def catB (fs : List Frame) : Bs := fs.flatMap frB
def okF (f : Frame) : Prop := f.wf ∧ f.body.length ≤ 2048
end Go.SW
namespace Go.SW
/-! Words by the document -/
theorem dots_none : ∀ {t : Bs}, (∀ c ∈ t, ¬ c = 46) → dots t = [t]
  | [], _ => rfl
  | c :: r, h => by
    have ih := dots_none (t := r) (fun x hx => h x (by simp [hx]))
    unfold dots
    rw [if_neg (h c (by simp)), ih]
theorem dots_at : ∀ {m : Nat} {t : Bs}, (∀ c ∈ t.take m, ¬ c = 46) → t[m]? = some 46 → dots t = t.take m :: dots (t.drop (m + 1))
  | 0, [], _, h => by simp at h
  | 0, c :: r, _, h => by
    have : c = 46 := by simpa using h
    subst this
    rfl
  | m + 1, [], _, h => by simp at h
  | m + 1, c :: r, hn, h => by
    have ih := dots_at (m := m) (t := r) (fun x hx => hn x (by simp [hx])) (by simpa using h)
    rw [dots, if_neg (hn c (by simp)), ih]
    rfl
/-- No dot from f on up to k. -/
def noDot (s : Bs) (f k : Nat) : Prop := ∀ j, f ≤ j → j < k → ¬ s.getD j 0 = 46
theorem noDot_mem {s : Bs} {f k : Nat} (h : noDot s f k) : ∀ c ∈ (s.drop f).take (k - f), ¬ c = 46 := fun c hc => by
  obtain ⟨j, hj, rfl⟩ := List.getElem_of_mem hc
  rw [List.length_take, List.length_drop] at hj
  have := h (f + j) (by omega) (by omega)
  rw [List.getElem_take, List.getElem_drop]
  rw [List.getD_eq_getElem?_getD, List.getElem?_eq_getElem (by omega)] at this
  exact this
theorem split_hit {s : Bs} {f k : Nat} {out : List Bs} (h : dots s = out ++ dots (s.drop f)) (hn : noDot s f k) (hf : f ≤ k) (hk : k < s.length) (hc : s.getD k 0 = 46) : dots s = (out ++ [(s.drop f).take (k - f)]) ++ dots (s.drop (k + 1)) := by
  rw [h]
  have hg : (s.drop f)[k - f]? = some 46 := by
    rw [List.getElem?_drop, show f + (k - f) = k by omega, List.getElem?_eq_getElem hk]
    rw [List.getD_eq_getElem?_getD, List.getElem?_eq_getElem hk] at hc
    exact congrArg some hc
  rw [dots_at (noDot_mem hn) hg, List.drop_drop, show f + (k - f + 1) = k + 1 by omega]
  simp
theorem split_end {s : Bs} {f k : Nat} {out : List Bs} (h : dots s = out ++ dots (s.drop f)) (hn : noDot s f k) (hk : s.length ≤ k) : dots s = out ++ [s.drop f] := by
  rw [h]
  have := noDot_mem hn
  rw [List.take_of_length_le (by rw [List.length_drop]; omega)] at this
  rw [dots_none this]
theorem noDot_step {s : Bs} {f k : Nat} (h : noDot s f k) (hc : ¬ s.getD k 0 = 46) : noDot s f (k + 1) := fun j h1 h2 => by
  by_cases e : j = k
  · subst e; exact hc
  · exact h j h1 (by omega)
theorem noDot_nil {s : Bs} {f : Nat} : noDot s f f := fun j h1 h2 => by omega
theorem byteEq {c : UInt8} {n : Nat} (hn : n < 256) (h : (c.toNat : Int) = n) : c = UInt8.ofNat n := by
  apply UInt8.toNat_inj.1
  rw [UInt8.toNat_ofNat']
  have : (2 : Nat) ^ 8 = 256 := rfl
  omega
theorem byteNe {c : UInt8} {n : Nat} (hn : n < 256) (h : ¬ (c.toNat : Int) = n) : ¬ c = UInt8.ofNat n := by
  rintro rfl
  rw [UInt8.toNat_ofNat'] at h
  have : (2 : Nat) ^ 8 = 256 := rfl
  omega
def besidesOf (pattern : Bool) : List Bs := if pattern = true then [[42], [35]] else []
theorem letter_all {s : Bs} {k : Nat} (hk : k < s.length) : (s.drop k).all (fun c => letter c.toNat) = (letter (s.getD k 0).toNat && (s.drop (k + 1)).all (fun c => letter c.toNat)) := by
  rw [drop_getD hk, List.all_cons]
end Go.SW
namespace Go.SW
theorem isBad_doc {p b : Bool} {w : Bs} (h : (decide ((w.length : Int) = 0) || !plain w) = b) : isBad (besidesOf p) w = (b && !(p && (decide (w = [42]) || decide (w = [35])))) := by
  subst h
  have e : (w == []) = decide ((w.length : Int) = 0) := by
    cases w with
    | nil => rfl
    | cons c r => simp; omega
  unfold isBad besidesOf
  rw [e]
  cases p
  · simp
  · simp [Bool.and_comm]
theorem txtB_len (s : Bs) : (txtB s).length = s.length + 2 := by simp [txtB, numB_len]; omega
def smallH (h : List Pair) : Prop := h.length ≤ 1000 ∧ ∀ p ∈ h, p.key.length ≤ 1000 ∧ p.text.length ≤ 1000
def r9B (h : List Pair) : Bs := numB 1 h.length ++ h.flatMap pairB
theorem pairErr_doc (p : Pair) (ahead : List Pair) : pairErr p ahead = if nameE p.key ≠ 0 then nameE p.key else if 2 < p.kind then 8 else if p.kind = 1 ∧ (64 : Int) < p.text.length then 5 else if p.kind = 2 ∧ (p.num < 0 ∨ 1 < p.num) then 7 else if p.kind = 1 ∧ p.num ≠ 0 ∨ p.kind ≠ 1 ∧ p.text ≠ [] then 4 else if (findP ahead p.key).isSome then 9 else 0 := by
  unfold pairErr
  have e : (p.kind = 2 ∧ p.num ≠ 0 ∧ p.num ≠ 1) ↔ (p.kind = 2 ∧ (p.num < 0 ∨ 1 < p.num)) := by omega
  simp only [e]
end Go.SW
namespace Go.SW
end Go.SW
namespace Go.SW
/-! What is told, by kind -/
def tellsT : List Bs := [[110], [], [], [65, 110, 120], [65], [65, 110, 109, 120], [65], [65, 79, 112, 104, 121], [65, 79, 112, 104, 121], [65, 79, 112, 104, 121], [65, 79, 112, 104, 121], [65, 107, 104, 109, 98], [110], [65, 110], [110], [65], [110, 109, 121], [], [], [], []]
abbrev tellsOf (k : Int) : Bs := tellsT.getD k.toNat []
def hasAny (s cs : Bs) : Bool := s.any cs.contains
/-! Layer 10 -/
structure Rule where
  sort : Int
  key : Bs
  want : List Pair
  all : Bool
deriving DecidableEq
def Rule.cells (r : Rule) (a : Option Addr) (c : Nat) : List Value := [.int .u8 r.sort, str r.key, .slice a r.want.length c, .bool r.all]
def Rule.wf (r : Rule) : Prop := (0 ≤ r.sort ∧ r.sort ≤ 255) ∧ r.key.length ≤ 9223372036854775807 ∧ r.want.length ≤ 9223372036854775807
theorem Rule.eq_iff {a b : Rule} : a = b ↔ a.sort = b.sort ∧ a.key = b.key ∧ a.want = b.want ∧ a.all = b.all := by
  cases a; cases b; simp
def patB : List Bs := [[42], [35]]
def ruleE (r : Rule) : Int :=
  if 3 < r.sort then 8
  else if r.sort = 0 then (if keyE [] r.key ≠ 0 then keyE [] r.key else headE r.want)
  else if keyE patB r.key ≠ 0 then keyE patB r.key else headE r.want
def hasP (h : List Pair) (p : Pair) : Bool := (findP h p.key).isSome && decide ((findP h p.key).getD Pair.zero = p)
def headsGo (all : Bool) (h : List Pair) : List Pair → Bool
  | [] => all
  | p :: l => if hasP h p then (if all then headsGo all h l else true) else if all then false else headsGo all h l
def goesR (r : Rule) (key : Bs) (h : List Pair) : Bool :=
  if r.sort = 0 then decide (key = r.key) else if r.sort = 2 then mt (wordsOf r.key) (wordsOf key) else if r.sort = 3 then headsGo r.all h r.want else true
/-! Layer 11 -/
structure Method where
  channel : Int
  kind : Int
  name : Bs
  other : Bs
  key : Bs
  head : List Pair
  body : Bs
  n : Int
  m : Int
  yes : Bool
deriving DecidableEq
def Method.cells (m : Method) (a : Option Addr) (c : Nat) : List Value := [.int .u8 m.channel, .int .u8 m.kind, str m.name, str m.other, str m.key, .slice a m.head.length c, str m.body, .int .u64 m.n, .int .u64 m.m, .bool m.yes]
def Method.wf (m : Method) : Prop := (0 ≤ m.channel ∧ m.channel ≤ 255) ∧ (0 ≤ m.kind ∧ m.kind ≤ 255) ∧ (0 ≤ m.n ∧ m.n ≤ 18446744073709551615) ∧ (0 ≤ m.m ∧ m.m ≤ 18446744073709551615) ∧ m.name.length ≤ 9223372036854775807 ∧ m.other.length ≤ 9223372036854775807 ∧ m.key.length ≤ 9223372036854775807 ∧ m.head.length ≤ 9223372036854775807 ∧ m.body.length ≤ 9223372036854775807
theorem Method.eq_iff {a b : Method} : a = b ↔ a.channel = b.channel ∧ a.kind = b.kind ∧ a.name = b.name ∧ a.other = b.other ∧ a.key = b.key ∧ a.head = b.head ∧ a.body = b.body ∧ a.n = b.n ∧ a.m = b.m ∧ a.yes = b.yes := by
  cases a; cases b; simp
def hasK (m : Method) (cs : Bs) : Bool := hasAny (tellsOf m.kind) cs
def spareMt (m : Method) : Bool :=
  !decide (m.name = []) && !hasK m [65] || !decide (m.other = []) && !hasK m [79, 120] || !decide (m.key = []) && !hasK m [107, 112] ||
  decide ((0 : Int) < m.head.length) && !hasK m [104] || !decide (m.body = []) && !hasK m [98] ||
  !decide (m.n = 0) && !hasK m [110] || !decide (m.m = 0) && !hasK m [109] || m.yes && !hasK m [121]
def oneE (m : Method) (c : Int) : Int :=
  if c = 65 then nameE m.name
  else if c = 120 then (if m.other = [] then 0 else nameE m.other)
  else if c = 79 then nameE m.other
  else if c = 107 then keyE [] m.key
  else if c = 112 then keyE patB m.key
  else if c = 104 then headE m.head
  else if c = 98 then (if (256 : Int) < m.body.length then 5 else 0)
  else 0
def ckGo (m : Method) : Bs → Int
  | [] => 0
  | c :: l => if oneE m (c.toNat : Int) ≠ 0 then oneE m (c.toNat : Int) else ckGo m l
def methodE (m : Method) : Int := if 20 < m.kind then 8 else if spareMt m then 4 else ckGo m (tellsOf m.kind)
theorem headGo_r : ∀ (l a : List Pair), 0 ≤ headGo a l ∧ headGo a l ≤ 15
  | [], a => by simp [headGo]
  | p :: l, a => by
    have h1 := pairErr_r p a
    have h2 := headGo_r l (a ++ [p])
    simp only [headGo]
    split <;> omega
theorem headE_r (h : List Pair) : 0 ≤ headE h ∧ headE h ≤ 15 := by
  have := headGo_r h []
  unfold headE
  split <;> omega
def mOut1 (m : Method) (o : Out) (c : Int) : Out :=
  if c = 65 then outText o m.name
  else if c = 120 ∨ c = 79 then outText o m.other
  else if c = 107 ∨ c = 112 then outText o m.key
  else if c = 104 then outRaw o (headBytes m.head)
  else if c = 98 then outText o m.body
  else if c = 110 then outNum o m.n 8
  else if c = 109 then outNum o m.m 8
  else if c = 121 then outNum o (if m.yes = true then 1 else 0) 1
  else o
def mOutGo (m : Method) (o : Out) (l : Bs) : Out := l.foldl (fun o c => mOut1 m o (c.toNat : Int)) o
def methodFrame (m : Method) : Frame := if methodE m = 0 then ⟨m.channel, m.kind, (mOutGo m ⟨[], 0⟩ (tellsOf m.kind)).s⟩ else Frame.zero
def lightMt (m : Method) : Bool := decide (max (m.name.length : Int) (m.other.length : Int) ≤ 40) && decide ((m.key.length : Int) ≤ 100) && lightH m.head && decide ((m.body.length : Int) ≤ 300)
end Go.SW
namespace Go.SW
/-! Layer 13 -/
def mailC (m : Mail) : Int :=
  if nameE m.shop ≠ 0 then nameE m.shop else if keyE [] m.key ≠ 0 then keyE [] m.key else if headE m.head ≠ 0 then headE m.head else if (256 : Int) < m.body.length then 5 else if 4 < m.hops then 7 else 0
theorem keyE_r (b : List Bs) (s : Bs) : 0 ≤ keyE b s ∧ keyE b s ≤ 15 := by
  unfold keyE
  repeat' split
  all_goals omega
theorem mailC_r (m : Mail) : 0 ≤ mailC m ∧ mailC m ≤ 15 := by
  have h1 := nameE_r m.shop
  have h2 := keyE_r [] m.key
  have h3 := headE_r m.head
  unfold mailC
  repeat' split
  all_goals omega
theorem mailC_ok {m : Mail} (h : mailC m = 0) : m.shop.length ≤ 16 ∧ m.key.length ≤ 64 ∧ headE m.head = 0 ∧ m.body.length ≤ 256 ∧ m.hops ≤ 4 := by
  unfold mailC at h
  have h1 : nameE m.shop = 0 := by
    by_cases e : nameE m.shop = 0
    · exact e
    · rw [if_pos e] at h; exact absurd h e
  rw [if_neg (by omega)] at h
  have h2 : keyE [] m.key = 0 := by
    by_cases e : keyE [] m.key = 0
    · exact e
    · rw [if_pos e] at h; exact absurd h e
  rw [if_neg (by omega)] at h
  have h3 : headE m.head = 0 := by
    by_cases e : headE m.head = 0
    · exact e
    · rw [if_pos e] at h; exact absurd h e
  rw [if_neg (by omega)] at h
  have a := nameE_ok h1
  have b := keyE_ok h2
  split at h
  · cases h
  · split at h
    · cases h
    · exact ⟨a, b, h3, by omega, by omega⟩
def mailOut (m : Mail) : Out := outNum (outNum (outText (outRaw (outText (outText (outNum ⟨[], 0⟩ m.id 8) m.shop) m.key) (headBytes m.head)) m.body) m.due 8) m.hops 1
def mailBytes (m : Mail) : Bs := if mailC m = 0 then (mailOut m).s else []
/-! Layer 26 -/
def lifeN (t l : Int) : Int := if l = 0 ∨ 18446744073709551615 - t < l then 0 else t + l
theorem life_wrap {t l : Int} (h0 : 0 ≤ t) (h1 : t ≤ 18446744073709551615) (h2 : 0 ≤ l) (h3 : l ≤ 18446744073709551615) : IntKind.wrap .u64 (t + l) = if 18446744073709551615 - t < l then t + l - 18446744073709551616 else t + l := by
  simp only [IntKind.wrap, IntKind.bits, IntKind.signed]
  simp
  split <;> omega
end Go.SW
namespace Go.SW
def maybeE (s : Bs) : Int := if s = [] then 0 else nameE s
theorem maybeE_r (s : Bs) : 0 ≤ maybeE s ∧ maybeE s ≤ 15 := by
  have := nameE_r s
  unfold maybeE
  split <;> omega
def boundE (b : Bool) (e : Int) : Int := if b = true then e else 0
def bitN (b : Bool) : Int := if b = true then 1 else 0
end Go.SW
namespace Go.SW
structure ShopR where
  name : Bs
  sort : Int
  to : Bs
deriving DecidableEq
def ShopR.cells (x : ShopR) : List Value := [str x.name, .int .u8 x.sort, str x.to]
def ShopR.wf (x : ShopR) : Prop := x.name.length ≤ 9223372036854775807 ∧ (0 ≤ x.sort ∧ x.sort ≤ 255) ∧ x.to.length ≤ 9223372036854775807
structure QueueR where
  name : Bs
  most : Int
  life : Int
  dead : Bs
deriving DecidableEq
def QueueR.cells (x : QueueR) : List Value := [str x.name, .int .u64 x.most, .int .u64 x.life, str x.dead]
def QueueR.wf (x : QueueR) : Prop := x.name.length ≤ 9223372036854775807 ∧ (0 ≤ x.most ∧ x.most ≤ 18446744073709551615) ∧ (0 ≤ x.life ∧ x.life ≤ 18446744073709551615) ∧ x.dead.length ≤ 9223372036854775807
structure BindR where
  shop : Bs
  to : Bs
  up : Bool
  key : Bs
  want : List Pair
  all : Bool
deriving DecidableEq
def BindR.cells (x : BindR) (a : Option Addr) (c : Nat) : List Value := [str x.shop, str x.to, .bool x.up, str x.key, .slice a x.want.length c, .bool x.all]
def BindR.wf (x : BindR) : Prop := x.shop.length ≤ 9223372036854775807 ∧ x.to.length ≤ 9223372036854775807 ∧ x.key.length ≤ 9223372036854775807 ∧ x.want.length ≤ 9223372036854775807
theorem BindR.eq_iff {a b : BindR} : a = b ↔ a.shop = b.shop ∧ a.to = b.to ∧ a.up = b.up ∧ a.key = b.key ∧ a.want = b.want ∧ a.all = b.all := by
  cases a; cases b; simp
structure DeedR where
  kind : Int
  tick : Int
  shop : ShopR
  queue : QueueR
  bind : BindR
  name : Bs
  id : Int
  how : Int
  frm : Int
  code : Int
  number : Int
  mail : Mail
  text : Bs
deriving DecidableEq
def DeedR.cells (d : DeedR) (a : Option Addr) (c : Nat) (a' : Option Addr) (c' : Nat) : List Value :=
  [.int .u8 d.kind, .int .u64 d.tick, str d.shop.name, .int .u8 d.shop.sort, str d.shop.to, str d.queue.name, .int .u64 d.queue.most, .int .u64 d.queue.life, str d.queue.dead,
   str d.bind.shop, str d.bind.to, .bool d.bind.up, str d.bind.key, .slice a d.bind.want.length c, .bool d.bind.all, str d.name, .int .u64 d.id, .int .u8 d.how, .int .u8 d.frm, .int .u8 d.code, .int .u64 d.number,
   .int .u64 d.mail.id, str d.mail.shop, str d.mail.key, .slice a' d.mail.head.length c', str d.mail.body, .int .u64 d.mail.due, .int .u8 d.mail.hops, str d.text]
def DeedR.wf (d : DeedR) : Prop := (0 ≤ d.kind ∧ d.kind ≤ 255) ∧ (0 ≤ d.tick ∧ d.tick ≤ 18446744073709551615) ∧ d.shop.wf ∧ d.queue.wf ∧ d.bind.wf ∧ d.name.length ≤ 9223372036854775807 ∧ (0 ≤ d.id ∧ d.id ≤ 18446744073709551615) ∧ (0 ≤ d.how ∧ d.how ≤ 255) ∧ (0 ≤ d.frm ∧ d.frm ≤ 255) ∧ (0 ≤ d.code ∧ d.code ≤ 255) ∧ (0 ≤ d.number ∧ d.number ≤ 18446744073709551615) ∧ d.mail.wf ∧ d.text.length ≤ 9223372036854775807
theorem DeedR.eq_iff {a b : DeedR} : a = b ↔ a.kind = b.kind ∧ a.tick = b.tick ∧ a.shop = b.shop ∧ a.queue = b.queue ∧ a.bind = b.bind ∧ a.name = b.name ∧ a.id = b.id ∧ a.how = b.how ∧ a.frm = b.frm ∧ a.code = b.code ∧ a.number = b.number ∧ a.mail = b.mail ∧ a.text = b.text := by
  cases a; cases b; simp
end Go.SW
namespace Go.SW
def ShopR.zero : ShopR := ⟨[], 0, []⟩
def QueueR.zero : QueueR := ⟨[], 0, 0, []⟩
def BindR.zero : BindR := ⟨[], [], false, [], [], false⟩
def toldD (d : DeedR) : DeedR :=
  ⟨d.kind, d.tick, if d.kind = 0 then d.shop else .zero, if d.kind = 2 then d.queue else .zero, if d.kind = 4 ∨ d.kind = 5 then d.bind else .zero,
   if d.kind = 1 ∨ d.kind = 3 ∨ d.kind = 7 ∨ d.kind = 8 then d.name else [], if d.kind = 8 then d.id else 0, if d.kind = 8 then d.how else 0, if d.kind = 10 then d.frm else 0, if d.kind = 12 then d.code else 0, if d.kind = 10 then d.number else 0,
   if d.kind = 6 ∨ d.kind = 10 then d.mail else .zero, if d.kind = 12 then d.text else []⟩
end Go.SW
namespace Go.SW
def firstE : List Int → Int
  | [] => 0
  | a :: l => if a ≠ 0 then a else firstE l
theorem firstE_r : ∀ (l : List Int), (∀ a ∈ l, 0 ≤ a ∧ a ≤ 15) → 0 ≤ firstE l ∧ firstE l ≤ 15
  | [], _ => ⟨Int.le_refl _, by simp [firstE]⟩
  | a :: l, h => by
    unfold firstE
    split
    · exact h a (List.mem_cons_self ..)
    · exact firstE_r l fun b hb => h b (List.mem_cons_of_mem _ hb)
def deedE (d : DeedR) : Int :=
  if 12 < d.kind then 8 else if d ≠ toldD d then 4
  else if d.kind = 0 then firstE [nameE d.shop.name, boundE (decide (4 < d.shop.sort)) 8, maybeE d.shop.to]
  else if d.kind = 2 then firstE [nameE d.queue.name, maybeE d.queue.dead]
  else if d.kind = 4 ∨ d.kind = 5 then firstE [nameE d.bind.shop, nameE d.bind.to, boundE (decide ((64 : Int) < d.bind.key.length)) 5, headE d.bind.want]
  else if d.kind = 6 ∨ d.kind = 10 then mailC d.mail
  else if d.kind = 9 ∨ d.kind = 11 then 0
  else if d.kind = 12 then boundE (decide ((64 : Int) < d.text.length)) 5
  else firstE [nameE d.name, boundE (decide (2 < d.how)) 7]
theorem boundE_0 {b : Bool} {e : Int} (he : e ≠ 0) (h : boundE b e = 0) : b = false := by
  cases b with
  | false => rfl
  | true => exact absurd h he
theorem firstE_cons {a : Int} {l : List Int} (h : firstE (a :: l) = 0) : a = 0 ∧ firstE l = 0 := by
  unfold firstE at h
  split at h
  · rename_i q; exact absurd h q
  · rename_i q; exact ⟨by omega, h⟩
theorem maybeE_ok {s : Bs} (h : maybeE s = 0) : s.length ≤ 16 := by
  unfold maybeE at h
  split at h
  · rename_i q; subst q; simp
  · exact nameE_ok h
theorem boundE_r {b : Bool} {e : Int} (h : 0 ≤ e ∧ e ≤ 15) : 0 ≤ boundE b e ∧ boundE b e ≤ 15 := by
  unfold boundE; split <;> omega
theorem deedE_r (d : DeedR) : 0 ≤ deedE d ∧ deedE d ≤ 15 := by
  have hb : ∀ b, 0 ≤ boundE b 8 ∧ boundE b 8 ≤ 15 := fun b => boundE_r (by omega)
  have hb5 : ∀ b, 0 ≤ boundE b 5 ∧ boundE b 5 ≤ 15 := fun b => boundE_r (by omega)
  have hb7 : ∀ b, 0 ≤ boundE b 7 ∧ boundE b 7 ≤ 15 := fun b => boundE_r (by omega)
  unfold deedE
  repeat' split
  all_goals first
    | omega
    | exact mailC_r _
    | exact hb5 _
    | (refine firstE_r _ fun a ha => ?_
       simp only [List.mem_cons, List.not_mem_nil, or_false] at ha
       first
         | (rcases ha with rfl | rfl | rfl | rfl <;> first | exact nameE_r _ | exact maybeE_r _ | exact headE_r _ | exact hb _ | exact hb5 _ | exact hb7 _)
         | (rcases ha with rfl | rfl | rfl <;> first | exact nameE_r _ | exact maybeE_r _ | exact headE_r _ | exact hb _ | exact hb5 _ | exact hb7 _)
         | (rcases ha with rfl | rfl <;> first | exact nameE_r _ | exact maybeE_r _ | exact headE_r _ | exact hb _ | exact hb5 _ | exact hb7 _))
theorem told_iff {d : DeedR} : d = toldD d ↔ (d.kind ≠ 0 → d.shop = ⟨[], 0, []⟩) ∧ (d.kind ≠ 2 → d.queue = ⟨[], 0, 0, []⟩) ∧ (d.kind ≠ 4 → d.kind ≠ 5 → d.bind = ⟨[], [], false, [], [], false⟩) ∧ (d.kind ≠ 1 → d.kind ≠ 3 → d.kind ≠ 7 → d.kind ≠ 8 → d.name = []) ∧ (d.kind ≠ 8 → d.id = 0) ∧ (d.kind ≠ 8 → d.how = 0) ∧ (d.kind ≠ 10 → d.frm = 0) ∧ (d.kind ≠ 10 → d.number = 0) ∧ (d.kind ≠ 12 → d.code = 0) ∧ (d.kind ≠ 12 → d.text = []) ∧ (d.kind ≠ 6 → d.kind ≠ 10 → d.mail = ⟨0, [], [], [], [], 0, 0⟩) := by
  rw [DeedR.eq_iff]
  simp only [toldD, ShopR.zero, QueueR.zero, BindR.zero, Mail.zero]
  constructor
  · rintro ⟨_, _, h1, h2, h3, h4, h5, h6, h7, h8, h9, h10, h11⟩
    refine ⟨fun k => ?_, fun k => ?_, fun k k' => ?_, fun k k' q q' => ?_, fun k => ?_, fun k => ?_, fun k => ?_, fun k => ?_, fun k => ?_, fun k => ?_, fun k k' => ?_⟩
    · rw [if_neg k] at h1; exact h1
    · rw [if_neg k] at h2; exact h2
    · rw [if_neg (by omega)] at h3; exact h3
    · rw [if_neg (by omega)] at h4; exact h4
    · rw [if_neg k] at h5; exact h5
    · rw [if_neg k] at h6; exact h6
    · rw [if_neg k] at h7; exact h7
    · rw [if_neg k] at h9; exact h9
    · rw [if_neg k] at h8; exact h8
    · rw [if_neg k] at h11; exact h11
    · rw [if_neg (by omega)] at h10; exact h10
  · rintro ⟨h1, h2, h3, h4, h5, h6, h7, h8, h9, h10, h11⟩
    refine ⟨trivial, trivial, ?_, ?_, ?_, ?_, ?_, ?_, ?_, ?_, ?_, ?_, ?_⟩ <;> split <;> first | rfl | (apply_assumption <;> omega)
theorem spare_t {p : Prop} [Decidable p] (h : ¬ p) : true = !decide p := by simp [h]
/-- What may be is small. -/
structure DeedOk (d : DeedR) : Prop where
  told : d = toldD d
  kind : d.kind ≤ 12
  sname : d.shop.name.length ≤ 16
  sto : d.shop.to.length ≤ 16
  ssort : d.shop.sort ≤ 4
  qname : d.queue.name.length ≤ 16
  qdead : d.queue.dead.length ≤ 16
  bshop : d.bind.shop.length ≤ 16
  bto : d.bind.to.length ≤ 16
  bkey : d.bind.key.length ≤ 64
  bwant : headE d.bind.want = 0
  name : d.name.length ≤ 16
  how : d.how ≤ 2
  mshop : d.mail.shop.length ≤ 16
  mkey : d.mail.key.length ≤ 64
  mhead : headE d.mail.head = 0
  mbody : d.mail.body.length ≤ 256
  mhops : d.mail.hops ≤ 4
  text : d.text.length ≤ 64
theorem deedE_ok {d : DeedR} (hk : 0 ≤ d.kind) (h : deedE d = 0) : DeedOk d := by
  unfold deedE at h
  by_cases k : 12 < d.kind
  · rw [if_pos k] at h; exact absurd h (by decide)
  rw [if_neg k] at h
  by_cases t : d = toldD d
  case neg => rw [if_pos t] at h; exact absurd h (by decide)
  rw [if_neg (by simpa using t)] at h
  have hc : d.kind = 0 ∨ d.kind = 1 ∨ d.kind = 2 ∨ d.kind = 3 ∨ d.kind = 4 ∨ d.kind = 5 ∨ d.kind = 6 ∨ d.kind = 7 ∨ d.kind = 8 ∨ d.kind = 9 ∨ d.kind = 10 ∨ d.kind = 11 ∨ d.kind = 12 := by omega
  have e1 : d.shop = (toldD d).shop := congrArg DeedR.shop t
  have e2 : d.queue = (toldD d).queue := congrArg DeedR.queue t
  have e3 : d.bind = (toldD d).bind := congrArg DeedR.bind t
  have e4 : d.name = (toldD d).name := congrArg DeedR.name t
  have e5 : d.how = (toldD d).how := congrArg DeedR.how t
  have e6 : d.mail = (toldD d).mail := congrArg DeedR.mail t
  have e7 : d.text = (toldD d).text := congrArg DeedR.text t
  simp only [toldD] at e1 e2 e3 e4 e5 e6 e7
  have zs : ∀ {s : ShopR}, s = .zero → s.name.length ≤ 16 ∧ s.to.length ≤ 16 ∧ s.sort ≤ 4 := fun e => by subst e; decide
  have zq : ∀ {s : QueueR}, s = .zero → s.name.length ≤ 16 ∧ s.dead.length ≤ 16 := fun e => by subst e; decide
  have zb : ∀ {s : BindR}, s = .zero → s.shop.length ≤ 16 ∧ s.to.length ≤ 16 ∧ s.key.length ≤ 64 ∧ headE s.want = 0 := fun e => by subst e; decide
  have zm : ∀ {s : Mail}, s = .zero → s.shop.length ≤ 16 ∧ s.key.length ≤ 64 ∧ headE s.head = 0 ∧ s.body.length ≤ 256 ∧ s.hops ≤ 4 := fun e => by subst e; decide
  have zn : ∀ {s : Bs}, s = [] → s.length ≤ 16 := fun e => by subst e; decide
  have zt : ∀ {s : Bs}, s = [] → s.length ≤ 64 := fun e => by subst e; decide
  have zh : ∀ {s : Int}, s = 0 → s ≤ 2 := fun e => by subst e; decide
  have mk : (d.shop.name.length ≤ 16 ∧ d.shop.to.length ≤ 16 ∧ d.shop.sort ≤ 4) → (d.queue.name.length ≤ 16 ∧ d.queue.dead.length ≤ 16) → (d.bind.shop.length ≤ 16 ∧ d.bind.to.length ≤ 16 ∧ d.bind.key.length ≤ 64 ∧ headE d.bind.want = 0) → d.name.length ≤ 16 → d.how ≤ 2 →
      (d.mail.shop.length ≤ 16 ∧ d.mail.key.length ≤ 64 ∧ headE d.mail.head = 0 ∧ d.mail.body.length ≤ 256 ∧ d.mail.hops ≤ 4) → d.text.length ≤ 64 → DeedOk d :=
    fun a b c e f g i => ⟨t, by omega, a.1, a.2.1, a.2.2, b.1, b.2, c.1, c.2.1, c.2.2.1, c.2.2.2, e, f, g.1, g.2.1, g.2.2.1, g.2.2.2.1, g.2.2.2.2, i⟩
  rcases hc with q | q | q | q | q | q | q | q | q | q | q | q | q <;> simp only [q] at e1 e2 e3 e4 e5 e6 e7 h <;> simp (config := { failIfUnchanged := false }) at e1 e2 e3 e4 e5 e6 e7 h
  · obtain ⟨h1, h⟩ := firstE_cons h
    obtain ⟨h2, h⟩ := firstE_cons h
    obtain ⟨h3, h⟩ := firstE_cons h
    have := boundE_0 (by decide) h2
    exact mk ⟨nameE_ok h1, maybeE_ok h3, by have := of_decide_eq_false this; omega⟩ (zq e2) (zb e3) (zn e4) (zh e5) (zm e6) (zt e7)
  · exact mk (zs e1) (zq e2) (zb e3) (nameE_ok (firstE_cons h).1) (zh e5) (zm e6) (zt e7)
  · obtain ⟨h1, h⟩ := firstE_cons h
    exact mk (zs e1) ⟨nameE_ok h1, maybeE_ok (firstE_cons h).1⟩ (zb e3) (zn e4) (zh e5) (zm e6) (zt e7)
  · exact mk (zs e1) (zq e2) (zb e3) (nameE_ok (firstE_cons h).1) (zh e5) (zm e6) (zt e7)
  · obtain ⟨h1, h⟩ := firstE_cons h
    obtain ⟨h2, h⟩ := firstE_cons h
    obtain ⟨h3, h⟩ := firstE_cons h
    have := of_decide_eq_false (boundE_0 (by decide) h3)
    exact mk (zs e1) (zq e2) ⟨nameE_ok h1, nameE_ok h2, by omega, (firstE_cons h).1⟩ (zn e4) (zh e5) (zm e6) (zt e7)
  · obtain ⟨h1, h⟩ := firstE_cons h
    obtain ⟨h2, h⟩ := firstE_cons h
    obtain ⟨h3, h⟩ := firstE_cons h
    have := of_decide_eq_false (boundE_0 (by decide) h3)
    exact mk (zs e1) (zq e2) ⟨nameE_ok h1, nameE_ok h2, by omega, (firstE_cons h).1⟩ (zn e4) (zh e5) (zm e6) (zt e7)
  · exact mk (zs e1) (zq e2) (zb e3) (zn e4) (zh e5) (mailC_ok h) (zt e7)
  · exact mk (zs e1) (zq e2) (zb e3) (nameE_ok (firstE_cons h).1) (zh e5) (zm e6) (zt e7)
  · obtain ⟨h1, h⟩ := firstE_cons h
    have := of_decide_eq_false (boundE_0 (by decide) (firstE_cons h).1)
    exact mk (zs e1) (zq e2) (zb e3) (nameE_ok h1) (by omega) (zm e6) (zt e7)
  · exact mk (zs e1) (zq e2) (zb e3) (zn e4) (zh e5) (zm e6) (zt e7)
  · exact mk (zs e1) (zq e2) (zb e3) (zn e4) (zh e5) (mailC_ok h) (zt e7)
  · exact mk (zs e1) (zq e2) (zb e3) (zn e4) (zh e5) (zm e6) (zt e7)
  · have := of_decide_eq_false (boundE_0 (by decide) h)
    exact mk (zs e1) (zq e2) (zb e3) (zn e4) (zh e5) (zm e6) (by omega)
end Go.SW
namespace Go.SW
def deedOut (d : DeedR) : Out :=
  if d.kind = 0 then outText (outNum (outText (outNum (outNum ⟨[], 0⟩ d.kind 1) d.tick 8) d.shop.name) d.shop.sort 1) d.shop.to
  else if d.kind = 2 then outText (outNum (outNum (outText (outNum (outNum ⟨[], 0⟩ d.kind 1) d.tick 8) d.queue.name) d.queue.most 8) d.queue.life 8) d.queue.dead
  else if d.kind = 4 ∨ d.kind = 5 then outNum (outRaw (outText (outNum (outText (outText (outNum (outNum ⟨[], 0⟩ d.kind 1) d.tick 8) d.bind.shop) d.bind.to) (bitN d.bind.up) 1) d.bind.key) (headBytes d.bind.want)) (bitN d.bind.all) 1
  else if d.kind = 6 then outRaw (outNum (outNum ⟨[], 0⟩ d.kind 1) d.tick 8) (mailBytes d.mail)
  else if d.kind = 1 ∨ d.kind = 3 ∨ d.kind = 7 then outText (outNum (outNum ⟨[], 0⟩ d.kind 1) d.tick 8) d.name
  else if d.kind = 8 then outNum (outNum (outText (outNum (outNum ⟨[], 0⟩ d.kind 1) d.tick 8) d.name) d.id 8) d.how 1
  else if d.kind = 10 then outRaw (outNum (outNum (outNum (outNum ⟨[], 0⟩ d.kind 1) d.tick 8) d.frm 1) d.number 8) (mailBytes d.mail)
  else if d.kind = 12 then outText (outNum (outNum (outNum ⟨[], 0⟩ d.kind 1) d.tick 8) d.code 1) d.text
  else outNum (outNum ⟨[], 0⟩ d.kind 1) d.tick 8
def deedBytes (d : DeedR) : Bs := if deedE d = 0 then (deedOut d).s else []
def mailB (m : Mail) : Bs := numB 8 m.id.toNat ++ (txtB m.shop ++ (txtB m.key ++ (r9B m.head ++ (txtB m.body ++ (numB 8 m.due.toNat ++ numB 1 m.hops.toNat)))))
def deedB (d : DeedR) : Bs :=
  numB 1 d.kind.toNat ++ (numB 8 d.tick.toNat ++ (
  if d.kind = 0 then txtB d.shop.name ++ (numB 1 d.shop.sort.toNat ++ txtB d.shop.to)
  else if d.kind = 2 then txtB d.queue.name ++ (numB 8 d.queue.most.toNat ++ (numB 8 d.queue.life.toNat ++ txtB d.queue.dead))
  else if d.kind = 4 ∨ d.kind = 5 then txtB d.bind.shop ++ (txtB d.bind.to ++ (numB 1 (bitN d.bind.up).toNat ++ (txtB d.bind.key ++ (r9B d.bind.want ++ numB 1 (bitN d.bind.all).toNat))))
  else if d.kind = 6 then mailB d.mail
  else if d.kind = 8 then txtB d.name ++ (numB 8 d.id.toNat ++ numB 1 d.how.toNat)
  else if d.kind = 9 ∨ d.kind = 11 then []
  else if d.kind = 10 then numB 1 d.frm.toNat ++ (numB 8 d.number.toNat ++ mailB d.mail)
  else if d.kind = 12 then numB 1 d.code.toNat ++ txtB d.text
  else txtB d.name))
def mailRead (i : In) : Mail × In :=
  let a := inNum i 8
  let b := inText a.2 16
  let c := inText b.2 64
  let h := headRead c.2
  let e := inText h.2 256
  let f := inNum e.2 8
  let g := inNum f.2 1
  let m : Mail := ⟨a.1, b.1, c.1, h.1, e.1, f.1, g.1⟩
  let j := if g.2.err = 0 then inFail g.2 (mailC m) else g.2
  if j.err = 0 then (m, j) else (Mail.zero, j)
def DeedR.blank (k t : Int) : DeedR := ⟨k, t, .zero, .zero, .zero, [], 0, 0, 0, 0, 0, .zero, []⟩
def bindRead (i : In) : BindR × In :=
  let a := inText i 16
  let b := inText a.2 16
  let u := inNum b.2 1
  let k := inText u.2 64
  let h := headRead k.2
  let l := inNum h.2 1
  (⟨a.1, b.1, decide (u.1 = 1), k.1, h.1, decide (l.1 = 1)⟩, l.2)
def readK (k t : Int) (j : In) : DeedR × In :=
  let z := DeedR.blank k t
  if k = 0 then
    let a := inText j 16
    let b := inNum a.2 1
    let c := inText b.2 16
    ({ z with shop := ⟨a.1, b.1, c.1⟩ }, c.2)
  else if k = 2 then
    let a := inText j 16
    let b := inNum a.2 8
    let c := inNum b.2 8
    let e := inText c.2 16
    ({ z with queue := ⟨a.1, b.1, c.1, e.1⟩ }, e.2)
  else if k = 4 ∨ k = 5 then ({ z with bind := (bindRead j).1 }, (bindRead j).2)
  else if k = 6 then ({ z with mail := (mailRead j).1 }, (mailRead j).2)
  else if k = 1 ∨ k = 3 ∨ k = 7 then ({ z with name := (inText j 16).1 }, (inText j 16).2)
  else if k = 8 then
    let a := inText j 16
    let b := inNum a.2 8
    let c := inNum b.2 1
    ({ z with name := a.1, id := b.1, how := c.1 }, c.2)
  else if k = 10 then
    let a := inNum j 1
    let b := inNum a.2 8
    ({ z with frm := a.1, number := b.1, mail := (mailRead b.2).1 }, (mailRead b.2).2)
  else if k = 12 then
    let a := inNum j 1
    let b := inText a.2 64
    ({ z with code := a.1, text := b.1 }, b.2)
  else (z, j)
def readD (i : In) : DeedR × In := readK (inNum i 1).1 (inNum (inNum i 1).2 8).1 (inNum (inNum i 1).2 8).2
/-! Many -/
def packGo : List DeedR → Bs → Bs × Int
  | [], s => (s, 0)
  | d :: l, s => if deedE d ≠ 0 then ([], deedE d) else packGo l (s ++ deedB d)
def packD (l : List DeedR) : Bs × Int := if (255 : Int) < l.length then ([], 6) else packGo l (numB 1 l.length)
def unpackGo : Nat → In → List DeedR → List DeedR × In
  | 0, i, l => (l, i)
  | k + 1, i, l => if i.err = 0 then unpackGo k (readD i).2 (l ++ [(readD i).1]) else (l, i)
def unpackD (s : Bs) : List DeedR × Int :=
  let r := unpackGo (inNum ⟨s, 0⟩ 1).1.toNat (inNum ⟨s, 0⟩ 1).2 []
  if inEnd r.2 = 0 ∧ (packD r.1).2 = 0 ∧ (packD r.1).1 = s then (r.1, 0) else ([], 4)
end Go.SW
namespace Go.SW
theorem mailBytes_len (m : Mail) : (mailBytes m).length ≤ 3000 := by
  unfold mailBytes
  split
  · rename_i h
    obtain ⟨h1, h2, h3, h4, _⟩ := mailC_ok h
    have := headBytes_len m.head
    have a1 := outNum_len ⟨[], 0⟩ m.id 8
    have a2 := outText_len (outNum ⟨[], 0⟩ m.id 8) m.shop
    have a3 := outText_len (outText (outNum ⟨[], 0⟩ m.id 8) m.shop) m.key
    have a4 := outRaw_len (outText (outText (outNum ⟨[], 0⟩ m.id 8) m.shop) m.key) (headBytes m.head)
    have a5 := outText_len (outRaw (outText (outText (outNum ⟨[], 0⟩ m.id 8) m.shop) m.key) (headBytes m.head)) m.body
    have a6 := outNum_len (outText (outRaw (outText (outText (outNum ⟨[], 0⟩ m.id 8) m.shop) m.key) (headBytes m.head)) m.body) m.due 8
    have a7 := outNum_len (outNum (outText (outRaw (outText (outText (outNum ⟨[], 0⟩ m.id 8) m.shop) m.key) (headBytes m.head)) m.body) m.due 8) m.hops 1
    simp only [mailOut, List.length_nil] at *
    omega
  · simp
theorem deedBytes_len {d : DeedR} (hk : 0 ≤ d.kind) : (deedBytes d).length ≤ 5000 := by
  by_cases h : deedE d = 0
  · have ok := deedE_ok hk h
    obtain ⟨k1, k2, k3, k4, k5, k6, k7, k8, k9, k10, k11, k12, k13, k14, k15, k16, k17, k18, k19⟩ := ok
    have e1 : ∀ o, outText o d.shop.name = ⟨o.s ++ txtB d.shop.name, o.err⟩ := fun o => outText_s (by omega)
    have e2 : ∀ o, outText o d.shop.to = ⟨o.s ++ txtB d.shop.to, o.err⟩ := fun o => outText_s (by omega)
    have e3 : ∀ o, outText o d.queue.name = ⟨o.s ++ txtB d.queue.name, o.err⟩ := fun o => outText_s (by omega)
    have e4 : ∀ o, outText o d.queue.dead = ⟨o.s ++ txtB d.queue.dead, o.err⟩ := fun o => outText_s (by omega)
    have e5 : ∀ o, outText o d.bind.shop = ⟨o.s ++ txtB d.bind.shop, o.err⟩ := fun o => outText_s (by omega)
    have e6 : ∀ o, outText o d.bind.to = ⟨o.s ++ txtB d.bind.to, o.err⟩ := fun o => outText_s (by omega)
    have e7 : ∀ o, outText o d.bind.key = ⟨o.s ++ txtB d.bind.key, o.err⟩ := fun o => outText_s (by omega)
    have e8 : ∀ o, outText o d.name = ⟨o.s ++ txtB d.name, o.err⟩ := fun o => outText_s (by omega)
    have e9 : ∀ o, outText o d.text = ⟨o.s ++ txtB d.text, o.err⟩ := fun o => outText_s (by omega)
    have := headBytes_len d.bind.want
    have := mailBytes_len d.mail
    unfold deedBytes
    rw [if_pos h]
    unfold deedOut
    repeat' split
    all_goals
      simp only [e1, e2, e3, e4, e5, e6, e7, e8, e9, outRaw, outNum1, outNum8, List.length_append, numB_len, txtB_len, List.length_nil]
      omega
  · unfold deedBytes; rw [if_neg h]; simp
end Go.SW
namespace Go.SW
theorem headGo_each : ∀ {l a : List Pair}, headGo a l = 0 → ∀ p ∈ l, ∃ ah, pairErr p ah = 0
  | [], _, _, _, hp => by cases hp
  | q :: r, a, h, p, hp => by
    unfold headGo at h
    split at h
    · contradiction
    · rename_i e
      rcases List.mem_cons.1 hp with rfl | hp
      · exact ⟨a, by omega⟩
      · exact headGo_each h p hp
theorem headE_each {h : List Pair} (e : headE h = 0) : ∀ p ∈ h, ∃ ah, pairErr p ah = 0 := by
  unfold headE at e
  split at e
  · cases e
  · exact headGo_each e
theorem smallH_ok {h : List Pair} (e : headE h = 0) : smallH h := by
  obtain ⟨h1, h2⟩ := headE_ok e
  refine ⟨by omega, fun p hp => ?_⟩
  obtain ⟨a, b, c⟩ := h2 p hp
  obtain ⟨ah, q⟩ := headE_each e p hp
  obtain ⟨_, _, q3⟩ := pairErr_fwd q
  refine ⟨by omega, ?_⟩
  by_cases k : p.kind = 1
  · have := c k; omega
  · rw [q3 k]; simp
theorem bindE_r (b : BindR) : 0 ≤ firstE [nameE b.shop, nameE b.to, boundE (decide ((64 : Int) < b.key.length)) 5, headE b.want] ∧ firstE [nameE b.shop, nameE b.to, boundE (decide ((64 : Int) < b.key.length)) 5, headE b.want] ≤ 15 := by
  refine firstE_r _ fun a ha => ?_
  simp only [List.mem_cons, List.not_mem_nil, or_false] at ha
  rcases ha with rfl | rfl | rfl | rfl
  · exact nameE_r _
  · exact nameE_r _
  · exact boundE_r (by omega)
  · exact headE_r _
end Go.SW
namespace Go.SW
def lightMl (m : Mail) : Bool := decide ((m.shop.length : Int) ≤ 40) && decide ((m.key.length : Int) ≤ 100) && lightH m.head && decide ((m.body.length : Int) ≤ 300)
theorem lightH_le {h : List Pair} (e : lightH h = true) : h.length ≤ 12 := by
  simp only [lightH, Bool.and_eq_true, decide_eq_true_eq] at e
  omega
theorem lightMl_len (m : Mail) (e : lightMl m = true) : m.shop.length ≤ 40 ∧ m.key.length ≤ 100 ∧ m.head.length ≤ 12 ∧ m.body.length ≤ 300 ∧ lightH m.head = true := by
  simp only [lightMl, Bool.and_eq_true, decide_eq_true_eq] at e
  have := lightH_le e.1.2
  exact ⟨by omega, by omega, this, by omega, e.1.2⟩
def lightD (d : DeedR) : Bool :=
  decide ((max (max (max (max (max (max (d.shop.name.length : Int) (d.shop.to.length : Int)) (d.queue.name.length : Int)) (d.queue.dead.length : Int)) (d.bind.shop.length : Int)) (d.bind.to.length : Int)) (d.name.length : Int)) ≤ 40) && decide ((max (d.bind.key.length : Int) (d.text.length : Int)) ≤ 100) && lightH d.bind.want && lightMl d.mail
theorem lightD_len (d : DeedR) (e : lightD d = true) : d.bind.want.length ≤ 12 ∧ d.mail.head.length ≤ 12 ∧ d.name.length ≤ 40 ∧ lightMl d.mail = true := by
  simp only [lightD, Bool.and_eq_true, decide_eq_true_eq] at e
  have h1 := lightH_le e.1.2
  have h2 := lightMl_len _ e.2
  exact ⟨h1, h2.2.2.1, by omega, e.2⟩
end Go.SW
namespace Go.SW
def shopRE : Hp → ShopR → List Value → Prop := FE ShopR.cells ShopR.wf
def queueRE : Hp → QueueR → List Value → Prop := FE QueueR.cells QueueR.wf
def bindRE : Hp → BindR → List Value → Prop := fun H x cs => ∃ (a1 : Option Addr) (c1 : Nat), cs = BindR.cells x a1 c1 ∧ SlH pairE 4 H (.slice a1 x.want.length c1) x.want ∧ x.wf
def deedRE : Hp → DeedR → List Value → Prop := fun H x cs => ∃ (a1 : Option Addr) (c1 : Nat) (a2 : Option Addr) (c2 : Nat), cs = DeedR.cells x a1 c1 a2 c2 ∧ SlH pairE 4 H (.slice a1 x.bind.want.length c1) x.bind.want ∧ SlH pairE 4 H (.slice a2 x.mail.head.length c2) x.mail.head ∧ x.wf
structure BookR where
  shops : List ShopR
  binds : List BindR
deriving DecidableEq
def BookR.cells (x : BookR) (a1 : Option Addr) (c1 : Nat) (a2 : Option Addr) (c2 : Nat) : List Value := [.slice a1 x.shops.length c1, .slice a2 x.binds.length c2]
def BookR.wf (x : BookR) : Prop := x.shops.length ≤ 9223372036854775807 ∧ x.binds.length ≤ 9223372036854775807
def BookR.zero : BookR := ⟨[], []⟩
theorem BookR.eq_iff {a b : BookR} : a = b ↔ a.shops = b.shops ∧ a.binds = b.binds := by
  cases a; cases b; simp
def bookRE : Hp → BookR → List Value → Prop := fun H x cs => ∃ (a1 : Option Addr) (c1 : Nat) (a2 : Option Addr) (c2 : Nat), cs = BookR.cells x a1 c1 a2 c2 ∧ SlH shopRE 3 H (.slice a1 x.shops.length c1) x.shops ∧ SlH bindRE 6 H (.slice a2 x.binds.length c2) x.binds ∧ x.wf
end Go.SW
namespace Go.SW
def idxF {α : Type} (p : α → Bool) : Nat → List α → Int
  | _, [] => -1
  | k, x :: r => if p x then k else idxF p (k + 1) r
def idxP {α : Type} (p : α → Bool) (l : List α) : Int := idxF p 0 l
theorem idx_miss {α : Type} {p : α → Bool} {l r : List α} {c : α} {k : Nat} (h : idxP p l = idxF p k (l.drop k)) (e : l.drop k = c :: r) (hc : p c = false) : idxP p l = idxF p (k + 1) r := by
  rw [h, e, idxF, hc]; rfl
theorem idx_hit {α : Type} {p : α → Bool} {l r : List α} {c : α} {k : Nat} (h : idxP p l = idxF p k (l.drop k)) (e : l.drop k = c :: r) (hc : p c = true) : idxP p l = k := by
  rw [h, e, idxF, hc]; rfl
theorem idx_end {α : Type} {p : α → Bool} {l : List α} {k : Nat} (h : idxP p l = idxF p k (l.drop k)) (hk : l.length ≤ k) : idxP p l = -1 := by
  rw [h, List.drop_of_length_le hk]; rfl
theorem idxF_r {α : Type} (p : α → Bool) : ∀ (l : List α) (k : Nat), idxF p k l = -1 ∨ (k : Int) ≤ idxF p k l ∧ idxF p k l < k + l.length
  | [], k => .inl rfl
  | x :: r, k => by
    unfold idxF
    split
    · right; simp; omega
    · rcases idxF_r p r (k + 1) with h | h
      · exact .inl h
      · right; simp only [List.length_cons]; omega
theorem idxP_r {α : Type} (p : α → Bool) (l : List α) : -1 ≤ idxP p l ∧ idxP p l < (l.length : Int) ∨ idxP p l = -1 := by
  have := idxF_r p l 0
  unfold idxP
  omega
theorem idxF_any {α : Type} (p : α → Bool) : ∀ (l : List α) (k : Nat), (0 ≤ idxF p k l) = (l.any p = true)
  | [], k => by simp [idxF]
  | x :: r, k => by
    unfold idxF
    cases h : p x with
    | true => simp [h]
    | false => simp only [Bool.false_eq_true, if_false, List.any_cons, h, Bool.false_or]; exact idxF_any p r (k + 1)
theorem idxP_any {α : Type} (p : α → Bool) (l : List α) : (0 ≤ idxP p l) = (l.any p = true) := idxF_any p l 0
/-! Books -/
def shopOf (l : List ShopR) (n : Bs) : Option ShopR := l.find? fun s => decide (s.name = n)
theorem shopOf_hit {l r : List ShopR} {c : ShopR} {n : Bs} {k : Nat} (h : shopOf l n = shopOf (l.drop k) n) (e : l.drop k = c :: r) (hc : c.name = n) : shopOf l n = some c := by
  rw [h, e]; simp [shopOf, hc]
theorem shopOf_miss {l r : List ShopR} {c : ShopR} {n : Bs} {k : Nat} (h : shopOf l n = shopOf (l.drop k) n) (e : l.drop k = c :: r) (hc : ¬ c.name = n) : shopOf l n = shopOf r n := by
  rw [h, e]; simp [shopOf, hc]
def shopE (x : ShopR) : Int := if nameE x.name ≠ 0 then nameE x.name else if 4 < x.sort then 8 else if x.sort = 4 then nameE x.to else if x.to ≠ [] then 4 else 0
theorem shopE_r (x : ShopR) : 0 ≤ shopE x ∧ shopE x ≤ 15 := by
  have := nameE_r x.name
  have := nameE_r x.to
  unfold shopE
  repeat' split
  all_goals omega
def makeS (b : BookR) (x : ShopR) : BookR × Int :=
  if shopE x ≠ 0 then (b, shopE x)
  else if (shopOf b.shops x.name).isSome = true ∧ x = (shopOf b.shops x.name).getD ShopR.zero then (b, 0)
  else if (shopOf b.shops x.name).isSome = true then (b, 9)
  else if 8 ≤ b.shops.length then (b, 12)
  else (⟨b.shops ++ [x], b.binds⟩, 0)
def bindRule (x : BindR) (sort : Int) : Rule := ⟨sort, x.key, x.want, x.all⟩
def bindS (b : BookR) (x : BindR) : BookR × Int :=
  if (shopOf b.shops x.shop).isSome = false then (b, 10)
  else if ((shopOf b.shops x.shop).getD ShopR.zero).sort = 4 then (b, 8)
  else if nameE x.to ≠ 0 then (b, nameE x.to)
  else if ruleE (bindRule x ((shopOf b.shops x.shop).getD ShopR.zero).sort) ≠ 0 then (b, ruleE (bindRule x ((shopOf b.shops x.shop).getD ShopR.zero).sort))
  else if 0 ≤ idxP (fun y => decide (x = y)) b.binds then (b, 0)
  else if 32 ≤ b.binds.length then (b, 12)
  else (⟨b.shops, b.binds ++ [x]⟩, 0)
def putS (l : List Bs) (s : Bs) : List Bs := if s ∈ l then l else l ++ [s]
def leadGo (sort : Int) (shop key : Bs) (h : List Pair) : List BindR → List Bs → List Bs → List Bs × List Bs
  | [], q, p => (q, p)
  | y :: r, q, p => if y.shop ≠ shop ∨ goesR (bindRule y sort) key h = false then leadGo sort shop key h r q p else if y.up = true then leadGo sort shop key h r q (putS p y.to) else leadGo sort shop key h r (putS q y.to) p
def leadS (b : BookR) (shop key : Bs) (h : List Pair) : List Bs × List Bs × Int :=
  if (shopOf b.shops shop).isSome = false then ([], [], 10)
  else if ((shopOf b.shops shop).getD ShopR.zero).sort = 4 then ([], [((shopOf b.shops shop).getD ShopR.zero).to], 0)
  else ((leadGo ((shopOf b.shops shop).getD ShopR.zero).sort shop key h b.binds [] []).1, (leadGo ((shopOf b.shops shop).getD ShopR.zero).sort shop key h b.binds [] []).2, 0)
end Go.SW
namespace Go.SW
def allD (l : List DeedR) : List DeedR × Bool := if l.all lightD = true then (l, true) else ([], false)
end Go.SW
namespace Go.SW
end Go.SW
namespace Go.SW
end Go.SW
namespace Go.SW
structure DWf (d : DeedR) : Prop where
  w : d.wf
  want : ∀ p ∈ d.bind.want, p.wf
  head : ∀ p ∈ d.mail.head, p.wf
/-! What is read -/
end Go.SW
namespace Go.SW
end Go.SW
namespace Go.SW
def settlesB (l : List DeedR) (n : Bs) (i : Int) : Bool := l.any fun x => decide (x.kind = 8) && decide (x.name = n) && decide (x.id = i)
def draftE (l : List DeedR) (d : DeedR) : Int :=
  if d.kind ≠ 6 ∧ d.kind ≠ 8 then 8
  else if deedE d ≠ 0 then deedE d
  else if d.kind = 8 ∧ settlesB l d.name d.id = true then 9
  else if 16 ≤ l.length then 12
  else 0
def addGo (x : List DeedR) : List DeedR → List DeedR → List DeedR × Int
  | n, [] => (n, 0)
  | n, d :: l => if draftE n d ≠ 0 then (x, draftE n d) else addGo x (n ++ [d]) l
def addD (x l : List DeedR) : List DeedR × Int := addGo x x l
def atD (t : Int) (d : DeedR) : DeedR := { d with tick := t, mail := if d.kind = 6 then { d.mail with due := lifeN t d.mail.due } else d.mail }
/-- What is held may be. -/
def Held (l : List DeedR) : Prop := ∀ d ∈ l, deedE d = 0
end Go.SW
namespace Go.SW
structure DraftR where
  l : List DeedR
deriving DecidableEq
def DraftR.cells (x : DraftR) (a1 : Option Addr) (c1 : Nat) : List Value := [.slice a1 x.l.length c1]
def DraftR.wf (x : DraftR) : Prop := x.l.length ≤ 9223372036854775807
def DraftR.zero : DraftR := ⟨[]⟩
theorem DraftR.eq_iff {a b : DraftR} : a = b ↔ a.l = b.l := by
  cases a; cases b; simp
def draftRE : Hp → DraftR → List Value → Prop := fun H x cs => ∃ (a1 : Option Addr) (c1 : Nat), cs = DraftR.cells x a1 c1 ∧ SlH deedRE 29 H (.slice a1 x.l.length c1) x.l ∧ x.wf
end Go.SW
namespace Go.SW
def Feed.pc (x : Feed) : List PV := [.str x.rest, .int .i64 x.err]
instance : Inhabited Feed := ⟨⟨[], 0⟩⟩
def Out.pc (x : Out) : List PV := [.str x.s, .int .i64 x.err]
instance : Inhabited Out := ⟨⟨[], 0⟩⟩
def In.pc (x : In) : List PV := [.str x.s, .int .i64 x.err]
instance : Inhabited In := ⟨⟨[], 0⟩⟩
def RIn.pc (x : RIn) : List PV := [.str x.s, .int .i64 x.pos, .int .i64 x.code]
instance : Inhabited RIn := ⟨⟨[], 0, 0⟩⟩
def Pair.pc (x : Pair) : List PV := [.str x.key, .int .u8 x.kind, .int .i64 x.num, .str x.text]
instance : Inhabited Pair := ⟨⟨[], 0, 0, []⟩⟩
theorem Pair.pwf {x : Pair} (h : PV.wfs (Pair.pc x)) : Pair.wf x := by
  simp only [Pair.pc, PV.wfs, PV.wf] at h
  simp only [Pair.wf]
  omega
def Frame.pc (x : Frame) : List PV := [.int .u8 x.channel, .int .u8 x.kind, .str x.body]
instance : Inhabited Frame := ⟨⟨0, 0, []⟩⟩
theorem Frame.pwf {x : Frame} (h : PV.wfs (Frame.pc x)) : Frame.wf x := by
  simp only [Frame.pc, PV.wfs, PV.wf] at h
  simp only [Frame.wf]
  omega
def ShopR.pc (x : ShopR) : List PV := [.str x.name, .int .u8 x.sort, .str x.to]
instance : Inhabited ShopR := ⟨⟨[], 0, []⟩⟩
theorem ShopR.pwf {x : ShopR} (h : PV.wfs (ShopR.pc x)) : ShopR.wf x := by
  simp only [ShopR.pc, PV.wfs, PV.wf] at h
  simp only [ShopR.wf]
  omega
def QueueR.pc (x : QueueR) : List PV := [.str x.name, .int .u64 x.most, .int .u64 x.life, .str x.dead]
instance : Inhabited QueueR := ⟨⟨[], 0, 0, []⟩⟩
theorem QueueR.pwf {x : QueueR} (h : PV.wfs (QueueR.pc x)) : QueueR.wf x := by
  simp only [QueueR.pc, PV.wfs, PV.wf] at h
  simp only [QueueR.wf]
  omega
def BindR.pc (x : BindR) : List PV := [.str x.shop, .str x.to, .bool x.up, .str x.key, .sl Pair.pc x.want, .bool x.all]
instance : Inhabited BindR := ⟨⟨[], [], false, [], [], false⟩⟩
theorem BindR.pwf {x : BindR} (h : PV.wfs (BindR.pc x)) : BindR.wf x := by
  simp only [BindR.pc, PV.wfs, PV.wf] at h
  simp only [BindR.wf]
  omega
def Rule.pc (x : Rule) : List PV := [.int .u8 x.sort, .str x.key, .sl Pair.pc x.want, .bool x.all]
instance : Inhabited Rule := ⟨⟨0, [], [], false⟩⟩
theorem Rule.pwf {x : Rule} (h : PV.wfs (Rule.pc x)) : Rule.wf x := by
  simp only [Rule.pc, PV.wfs, PV.wf] at h
  simp only [Rule.wf]
  omega
theorem Rule.kd2 {x : Rule} (h : PV.wfs (Rule.pc x)) : ∀ p ∈ x.want, 0 ≤ p.kind := fun p hp => by
  have q := Pair.pwf (h.2.2.1.2 p hp)
  simp only [Pair.wf] at q
  omega
def Mail.pc (x : Mail) : List PV := [.int .u64 x.id, .str x.shop, .str x.key, .sl Pair.pc x.head, .str x.body, .int .u64 x.due, .int .u8 x.hops]
instance : Inhabited Mail := ⟨⟨0, [], [], [], [], 0, 0⟩⟩
theorem Mail.pwf {x : Mail} (h : PV.wfs (Mail.pc x)) : Mail.wf x := by
  simp only [Mail.pc, PV.wfs, PV.wf] at h
  simp only [Mail.wf]
  omega
theorem Mail.kd3 {x : Mail} (h : PV.wfs (Mail.pc x)) : ∀ p ∈ x.head, 0 ≤ p.kind := fun p hp => by
  have q := Pair.pwf (h.2.2.2.1.2 p hp)
  simp only [Pair.wf] at q
  omega
def Reply.pc (x : Reply) : List PV := [.int .u8 x.channel, .int .u8 x.kind, .int .u64 x.n, .int .u64 x.m, .bool x.yes, .str x.name, .int .u64 x.mail.id, .str x.mail.shop, .str x.mail.key, .sl Pair.pc x.mail.head, .str x.mail.body, .int .u64 x.mail.due, .int .u8 x.mail.hops]
instance : Inhabited Reply := ⟨⟨0, 0, 0, 0, false, [], ⟨0, [], [], [], [], 0, 0⟩⟩⟩
theorem Reply.pwf {x : Reply} (h : PV.wfs (Reply.pc x)) : Reply.wf x := by
  simp only [Reply.pc, PV.wfs, PV.wf] at h
  simp only [Reply.wf, Mail.wf]
  omega
def Method.pc (x : Method) : List PV := [.int .u8 x.channel, .int .u8 x.kind, .str x.name, .str x.other, .str x.key, .sl Pair.pc x.head, .str x.body, .int .u64 x.n, .int .u64 x.m, .bool x.yes]
instance : Inhabited Method := ⟨⟨0, 0, [], [], [], [], [], 0, 0, false⟩⟩
theorem Method.pwf {x : Method} (h : PV.wfs (Method.pc x)) : Method.wf x := by
  simp only [Method.pc, PV.wfs, PV.wf] at h
  simp only [Method.wf]
  omega
def DeedR.pc (x : DeedR) : List PV := [.int .u8 x.kind, .int .u64 x.tick, .str x.shop.name, .int .u8 x.shop.sort, .str x.shop.to, .str x.queue.name, .int .u64 x.queue.most, .int .u64 x.queue.life, .str x.queue.dead, .str x.bind.shop, .str x.bind.to, .bool x.bind.up, .str x.bind.key, .sl Pair.pc x.bind.want, .bool x.bind.all, .str x.name, .int .u64 x.id, .int .u8 x.how, .int .u8 x.frm, .int .u8 x.code, .int .u64 x.number, .int .u64 x.mail.id, .str x.mail.shop, .str x.mail.key, .sl Pair.pc x.mail.head, .str x.mail.body, .int .u64 x.mail.due, .int .u8 x.mail.hops, .str x.text]
instance : Inhabited DeedR := ⟨⟨0, 0, ⟨[], 0, []⟩, ⟨[], 0, 0, []⟩, ⟨[], [], false, [], [], false⟩, [], 0, 0, 0, 0, 0, ⟨0, [], [], [], [], 0, 0⟩, []⟩⟩
theorem DeedR.pwf {x : DeedR} (h : PV.wfs (DeedR.pc x)) : DeedR.wf x := by
  simp only [DeedR.pc, PV.wfs, PV.wf] at h
  simp only [DeedR.wf, ShopR.wf, QueueR.wf, BindR.wf, Mail.wf]
  omega
theorem DeedR.kd13 {x : DeedR} (h : PV.wfs (DeedR.pc x)) : ∀ p ∈ x.bind.want, 0 ≤ p.kind := fun p hp => by
  have q := Pair.pwf (h.2.2.2.2.2.2.2.2.2.2.2.2.2.1.2 p hp)
  simp only [Pair.wf] at q
  omega
theorem DeedR.kd24 {x : DeedR} (h : PV.wfs (DeedR.pc x)) : ∀ p ∈ x.mail.head, 0 ≤ p.kind := fun p hp => by
  have q := Pair.pwf (h.2.2.2.2.2.2.2.2.2.2.2.2.2.2.2.2.2.2.2.2.2.2.2.2.1.2 p hp)
  simp only [Pair.wf] at q
  omega
def BookR.pc (x : BookR) : List PV := [.sl ShopR.pc x.shops, .sl BindR.pc x.binds]
instance : Inhabited BookR := ⟨⟨[], []⟩⟩
theorem BookR.pwf {x : BookR} (h : PV.wfs (BookR.pc x)) : BookR.wf x := by
  simp only [BookR.pc, PV.wfs, PV.wf] at h
  simp only [BookR.wf]
  omega
def DraftR.pc (x : DraftR) : List PV := [.sl DeedR.pc x.l]
instance : Inhabited DraftR := ⟨⟨[]⟩⟩
theorem DraftR.pwf {x : DraftR} (h : PV.wfs (DraftR.pc x)) : DraftR.wf x := by
  simp only [DraftR.pc, PV.wfs, PV.wf] at h
  simp only [DraftR.wf]
  omega
end Go.SW
namespace Go.SW
theorem idxF_b {α : Type} (p : α → Bool) : ∀ (l : List α) (k : Nat), idxF p k l = -1 ∨ ((k : Int) ≤ idxF p k l ∧ idxF p k l < k + l.length)
  | [], k => .inl (by simp [idxF])
  | a :: r, k => by
    simp only [idxF]
    split
    · right; simp only [List.length_cons]; omega
    · rcases idxF_b p r (k + 1) with h | h
      · exact .inl h
      · right; simp only [List.length_cons]; omega
theorem idxP_b {α : Type} (p : α → Bool) (l : List α) : -1 ≤ idxP p l ∧ idxP p l < l.length := by
  rcases idxF_b p l 0 with h | h <;> simp only [idxP] <;> omega
theorem idxF_find {α : Type} (p : α → Bool) : ∀ (l : List α) (k : Nat), (idxF p k l < 0 → l.find? p = none) ∧ (0 ≤ idxF p k l → ∀ c, l[(idxF p k l).toNat - k]? = some c → p c = true ∧ l.find? p = some c)
  | [], k => ⟨fun _ => rfl, fun h => by simp [idxF] at h⟩
  | a :: r, k => by
    obtain ⟨h1, h2⟩ := idxF_find p r (k + 1)
    have hr := idxF_b p r (k + 1)
    simp only [idxF]
    by_cases ha : p a = true
    · simp only [ha, if_true]
      refine ⟨fun h => by omega, fun _ c hc => ?_⟩
      have : ((k : Int)).toNat - k = 0 := by omega
      rw [this] at hc
      simp at hc
      subst hc
      exact ⟨ha, by simp [ha]⟩
    · have hf : p a = false := by simpa using ha
      simp only [hf, if_false, Bool.false_eq_true, List.find?_cons]
      refine ⟨h1, fun h0 c hc => ?_⟩
      refine h2 h0 c ?_
      have e : (idxF p (k + 1) r).toNat - k = ((idxF p (k + 1) r).toNat - (k + 1)) + 1 := by omega
      rw [e] at hc
      simpa using hc
theorem idxP_neg {α : Type} {p : α → Bool} {l : List α} (h : idxP p l < 0) : l.find? p = none := (idxF_find p l 0).1 h
theorem idxP_get {α : Type} {p : α → Bool} {l : List α} {c : α} (h0 : ¬ idxP p l < 0) (h : l[(idxP p l).toNat]? = some c) : p c = true ∧ l.find? p = some c := (idxF_find p l 0).2 (by simp only [idxP] at h0; omega) c (by simpa [idxP] using h)
theorem getJ {α : Type} [Inhabited α] (xs : List α) (m : Nat) : ∃ c, (m < xs.length → xs[m]? = some c) := by
  by_cases h : m < xs.length
  · exact ⟨xs[m], fun _ => List.getElem?_eq_getElem h⟩
  · exact ⟨default, fun q => absurd q h⟩
end Go.SW
namespace Go.SW.V
open Go.SW
/-- An answer, and what is made of it. -/
def lt {α β : Type} (a : α) (f : α → β) : β := f a
theorem lt_eq {α β : Type} {a r : α} {f : α → β} (h : r = a) : lt a f = f r := by subst h; rfl
theorem condT {α : Type} {c : Bool} {a b : α} (h : c = true) : (bif c then a else b) = a := by rw [h]; rfl
theorem condF {α : Type} {c : Bool} {a b : α} (h : c = false) : (bif c then a else b) = b := by rw [h]; rfl
/-- A part of a function goes on, or the function's answer is there. -/
inductive Lo (σ ρ : Type) where
  | fin (s : σ)
  | ret (r : ρ)
def lp0 {ρ β : Type} (o : Lo Unit ρ) (f : β) (g : ρ → β) : β := match o with
  | .fin _ => f
  | .ret r => g r
theorem lp0_fin {ρ β : Type} {l : β} {o : Lo Unit ρ} {f : β} {g : ρ → β} (h : l = lp0 o f g) (k : o = .fin ()) : l = f := by subst k; exact h
theorem lp0_ret {ρ β : Type} {l : β} {o : Lo Unit ρ} {f : β} {g : ρ → β} {r : ρ} (h : l = lp0 o f g) (k : o = .ret r) : l = g r := by subst k; exact h
theorem lp0_split {ρ β : Type} {l : β} {X : Lo Unit ρ} {f : β} {g : ρ → β} (h : l = lp0 X f g) : ∃ o, o = X ∧ l = lp0 o f g := ⟨_, rfl, h⟩
def lt0 {β : Type} (_ : Unit) (f : β) : β := f
def lp1 {σ1 ρ β : Type} (o : Lo (σ1) ρ) (f : σ1 → β) (g : ρ → β) : β := match o with
  | .fin s => f s
  | .ret r => g r
def lt1 {σ1 β : Type} (s : σ1) (f : σ1 → β) : β := f s
theorem lt1_fin {σ1 β : Type} {l : β} {o : σ1} {f : σ1 → β} {a1 : σ1} (h : l = lt1 o f) (k : o = a1) : l = f a1 := by subst k; exact h
theorem lt1_split {σ1 β : Type} {l : β} {X : σ1} {f : σ1 → β} (h : l = lt1 X f) : ∃ o, o = X ∧ l = lt1 o f := ⟨_, rfl, h⟩
def lp2 {σ1 σ2 ρ β : Type} (o : Lo (σ1 × σ2) ρ) (f : σ1 → σ2 → β) (g : ρ → β) : β := match o with
  | .fin s => f s.1 s.2
  | .ret r => g r
def lt2 {σ1 σ2 β : Type} (s : σ1 × σ2) (f : σ1 → σ2 → β) : β := f s.1 s.2
def lp3 {σ1 σ2 σ3 ρ β : Type} (o : Lo (σ1 × σ2 × σ3) ρ) (f : σ1 → σ2 → σ3 → β) (g : ρ → β) : β := match o with
  | .fin s => f s.1 s.2.1 s.2.2
  | .ret r => g r
def lt3 {σ1 σ2 σ3 β : Type} (s : σ1 × σ2 × σ3) (f : σ1 → σ2 → σ3 → β) : β := f s.1 s.2.1 s.2.2
def lp4 {σ1 σ2 σ3 σ4 ρ β : Type} (o : Lo (σ1 × σ2 × σ3 × σ4) ρ) (f : σ1 → σ2 → σ3 → σ4 → β) (g : ρ → β) : β := match o with
  | .fin s => f s.1 s.2.1 s.2.2.1 s.2.2.2
  | .ret r => g r
def lt4 {σ1 σ2 σ3 σ4 β : Type} (s : σ1 × σ2 × σ3 × σ4) (f : σ1 → σ2 → σ3 → σ4 → β) : β := f s.1 s.2.1 s.2.2.1 s.2.2.2
def lp5 {σ1 σ2 σ3 σ4 σ5 ρ β : Type} (o : Lo (σ1 × σ2 × σ3 × σ4 × σ5) ρ) (f : σ1 → σ2 → σ3 → σ4 → σ5 → β) (g : ρ → β) : β := match o with
  | .fin s => f s.1 s.2.1 s.2.2.1 s.2.2.2.1 s.2.2.2.2
  | .ret r => g r
def lt5 {σ1 σ2 σ3 σ4 σ5 β : Type} (s : σ1 × σ2 × σ3 × σ4 × σ5) (f : σ1 → σ2 → σ3 → σ4 → σ5 → β) : β := f s.1 s.2.1 s.2.2.1 s.2.2.2.1 s.2.2.2.2
def lp6 {σ1 σ2 σ3 σ4 σ5 σ6 ρ β : Type} (o : Lo (σ1 × σ2 × σ3 × σ4 × σ5 × σ6) ρ) (f : σ1 → σ2 → σ3 → σ4 → σ5 → σ6 → β) (g : ρ → β) : β := match o with
  | .fin s => f s.1 s.2.1 s.2.2.1 s.2.2.2.1 s.2.2.2.2.1 s.2.2.2.2.2
  | .ret r => g r
def lt6 {σ1 σ2 σ3 σ4 σ5 σ6 β : Type} (s : σ1 × σ2 × σ3 × σ4 × σ5 × σ6) (f : σ1 → σ2 → σ3 → σ4 → σ5 → σ6 → β) : β := f s.1 s.2.1 s.2.2.1 s.2.2.2.1 s.2.2.2.2.1 s.2.2.2.2.2
def lp7 {σ1 σ2 σ3 σ4 σ5 σ6 σ7 ρ β : Type} (o : Lo (σ1 × σ2 × σ3 × σ4 × σ5 × σ6 × σ7) ρ) (f : σ1 → σ2 → σ3 → σ4 → σ5 → σ6 → σ7 → β) (g : ρ → β) : β := match o with
  | .fin s => f s.1 s.2.1 s.2.2.1 s.2.2.2.1 s.2.2.2.2.1 s.2.2.2.2.2.1 s.2.2.2.2.2.2
  | .ret r => g r
def lt7 {σ1 σ2 σ3 σ4 σ5 σ6 σ7 β : Type} (s : σ1 × σ2 × σ3 × σ4 × σ5 × σ6 × σ7) (f : σ1 → σ2 → σ3 → σ4 → σ5 → σ6 → σ7 → β) : β := f s.1 s.2.1 s.2.2.1 s.2.2.2.1 s.2.2.2.2.1 s.2.2.2.2.2.1 s.2.2.2.2.2.2
def lp8 {σ1 σ2 σ3 σ4 σ5 σ6 σ7 σ8 ρ β : Type} (o : Lo (σ1 × σ2 × σ3 × σ4 × σ5 × σ6 × σ7 × σ8) ρ) (f : σ1 → σ2 → σ3 → σ4 → σ5 → σ6 → σ7 → σ8 → β) (g : ρ → β) : β := match o with
  | .fin s => f s.1 s.2.1 s.2.2.1 s.2.2.2.1 s.2.2.2.2.1 s.2.2.2.2.2.1 s.2.2.2.2.2.2.1 s.2.2.2.2.2.2.2
  | .ret r => g r
def lt8 {σ1 σ2 σ3 σ4 σ5 σ6 σ7 σ8 β : Type} (s : σ1 × σ2 × σ3 × σ4 × σ5 × σ6 × σ7 × σ8) (f : σ1 → σ2 → σ3 → σ4 → σ5 → σ6 → σ7 → σ8 → β) : β := f s.1 s.2.1 s.2.2.1 s.2.2.2.1 s.2.2.2.2.1 s.2.2.2.2.2.1 s.2.2.2.2.2.2.1 s.2.2.2.2.2.2.2
def lp9 {σ1 σ2 σ3 σ4 σ5 σ6 σ7 σ8 σ9 ρ β : Type} (o : Lo (σ1 × σ2 × σ3 × σ4 × σ5 × σ6 × σ7 × σ8 × σ9) ρ) (f : σ1 → σ2 → σ3 → σ4 → σ5 → σ6 → σ7 → σ8 → σ9 → β) (g : ρ → β) : β := match o with
  | .fin s => f s.1 s.2.1 s.2.2.1 s.2.2.2.1 s.2.2.2.2.1 s.2.2.2.2.2.1 s.2.2.2.2.2.2.1 s.2.2.2.2.2.2.2.1 s.2.2.2.2.2.2.2.2
  | .ret r => g r
def lt9 {σ1 σ2 σ3 σ4 σ5 σ6 σ7 σ8 σ9 β : Type} (s : σ1 × σ2 × σ3 × σ4 × σ5 × σ6 × σ7 × σ8 × σ9) (f : σ1 → σ2 → σ3 → σ4 → σ5 → σ6 → σ7 → σ8 → σ9 → β) : β := f s.1 s.2.1 s.2.2.1 s.2.2.2.1 s.2.2.2.2.1 s.2.2.2.2.2.1 s.2.2.2.2.2.2.1 s.2.2.2.2.2.2.2.1 s.2.2.2.2.2.2.2.2
def lp10 {σ1 σ2 σ3 σ4 σ5 σ6 σ7 σ8 σ9 σ10 ρ β : Type} (o : Lo (σ1 × σ2 × σ3 × σ4 × σ5 × σ6 × σ7 × σ8 × σ9 × σ10) ρ) (f : σ1 → σ2 → σ3 → σ4 → σ5 → σ6 → σ7 → σ8 → σ9 → σ10 → β) (g : ρ → β) : β := match o with
  | .fin s => f s.1 s.2.1 s.2.2.1 s.2.2.2.1 s.2.2.2.2.1 s.2.2.2.2.2.1 s.2.2.2.2.2.2.1 s.2.2.2.2.2.2.2.1 s.2.2.2.2.2.2.2.2.1 s.2.2.2.2.2.2.2.2.2
  | .ret r => g r
def lt10 {σ1 σ2 σ3 σ4 σ5 σ6 σ7 σ8 σ9 σ10 β : Type} (s : σ1 × σ2 × σ3 × σ4 × σ5 × σ6 × σ7 × σ8 × σ9 × σ10) (f : σ1 → σ2 → σ3 → σ4 → σ5 → σ6 → σ7 → σ8 → σ9 → σ10 → β) : β := f s.1 s.2.1 s.2.2.1 s.2.2.2.1 s.2.2.2.2.1 s.2.2.2.2.2.1 s.2.2.2.2.2.2.1 s.2.2.2.2.2.2.2.1 s.2.2.2.2.2.2.2.2.1 s.2.2.2.2.2.2.2.2.2
/-! Elements -/
def gt {α : Type} [Inhabited α] (xs : List α) (k : Nat) : α := xs.getD k default
theorem getG {α : Type} [Inhabited α] {xs : List α} {k : Nat} (h : k < xs.length) : xs[k]? = some (gt xs k) := by
  rw [gt, List.getD_eq_getElem?_getD, List.getElem?_eq_getElem h]; rfl
theorem dropG {α : Type} [Inhabited α] {xs : List α} {k : Nat} (h : k < xs.length) : xs.drop k = gt xs k :: xs.drop (k + 1) := dropE (getG h)
theorem dropN {α : Type} {xs : List α} {k : Nat} (h : ¬ k < xs.length) : xs.drop k = [] := List.drop_of_length_le (by omega)
theorem lstep {α τ : Type} {l : τ} {xs ys : List α} {f : List α → τ} {v : τ} (e : l = f xs) (h : xs = ys) (k : f ys = v) : l = v := by subst h; exact e.trans k
theorem ple_of {α : Type} {p : PV} {a v : α} (f : α → PV) (e : a = v) (h : PLe p (f v)) : PLe p (f a) := by subst e; exact h
variable {P : Program} {n : Nat} {N : Rest} {H0 : Env} {all rest : List Oper} {Q : Qs} {ks : List Kt} {fF : Nat → PV} {fL : Nat → Blk} {T T' T2 ty d : Nat} {pos : String} {af : Array Edge} {x y z : Operand} {K : St → Prop} {op : Op} {p : PV}
/-- Several ways through a part meet behind it. -/
theorem joinc {ι : Type} {X : Code} (keep kL : List Nat) (lv : ι → List (Nat × PV)) (lL : ι → List (Nat × Blk)) (Φ : ι → Prop) (h : Hd P n N H0 Q (.code X) (.lp (LJ (fun x => ⟨mkF (lv x) keep fF, mkL (lL x) kL fL⟩) Φ (fun _ => 0) 1) :: ks) ⟨fF, fL⟩) (k : ∀ x, Φ x → Hd P n N H0 Q (.ex .normal) ks ⟨mkF (lv x) keep fF, mkL (lL x) kL fL⟩) : Hd P n N H0 Q (.code X) ks ⟨fF, fL⟩ := by
  intro F H L ha
  refine cw_mono (fun e F' H' L' hq => ?_) (h F H L ha)
  obtain ⟨s', ha', hq'⟩ := hq
  cases e with
  | normal => obtain ⟨x, h1, _, h3⟩ := hq'; exact ⟨_, h3 _ _ _ _ ha', k x h1⟩
  | _ => exact ⟨s', ha', hq'⟩
/-- A call whose answer gets a name. -/
theorem callv {α : Type} (g : α) (res : α → PV) {f : FuncId} {args : List PV} {xs : Array Operand} {ats : Array TypeId} (h : Fn P H0.g f args (res g)) (ha : argsP fF x xs.toList = some (f, args)) (hd : Nat.blt d n = true) (k : ∀ r, r = g → (res r).wf → Hd P n N H0 Q (.ops all rest) ks ⟨updp fF d (res r), fL⟩) : Hd P n N H0 Q (.ops all (⟨some d, .call ⟨.value x, xs, ats⟩, ty, pos, af, none⟩ :: rest)) ks ⟨fF, fL⟩ := call h ha hd (k g rfl)
/-- At a round's end or where ways meet, what is there may be said otherwise. -/
theorem lj_le {ι : Type} {S : ι → St} {Φ : ι → Prop} {μ : ι → Nat} {m : Nat} {s s' : St} (h : StLe s s') (k : Hd P n N H0 Q (.ex .normal) (.lp (LJ S Φ μ m) :: ks) s') : Hd P n N H0 Q (.ex .normal) (.lp (LJ S Φ μ m) :: ks) s := by
  obtain ⟨x, h1, h2, h3⟩ := k
  exact ⟨x, h1, h2, h.trans h3⟩
/-- A cell that holds a list of nothing. -/
theorem box_nil {α : Type} {i off b T0 : Nat} {cs cs' : List PV} {enc : α → List PV} (hb : fL i = .box b T0 cs) (hc : nth cs off = some (.val (.slice none 0 0))) (hs : evL (cs.set off (.sl enc [])) = some cs') (k : Hd P n N H0 Q (.ops all rest) ks ⟨fF, lups fL i (.box b T0 cs')⟩) : Hd P n N H0 Q (.ops all rest) ks ⟨fF, fL⟩ := by
  intro F H L ha
  have hs := evL_eq hs
  subst hs
  have hshape : ∀ {p v}, SimT fL H p v → SimT (lups fL i (.box b T0 (cs.set off (.sl enc [])))) H p v := fun {p v} h => by
    cases p with
    | osl j =>
      by_cases e : j = i
      · subst e; simp only [SimT, lups_same]
      · simp only [SimT, lups_ne _ _ _ _ e] at h ⊢; exact h
    | _ => exact h
  refine k F H L ⟨ha.le, ha.g, fun t => hshape (ha.f t), fun j => ?_⟩
  by_cases e : j = i
  · subst e
    have h1 := ha.l j
    simp only [hb] at h1
    obtain ⟨vs, h2, h3⟩ := h1
    simp only [lups_same]
    refine ⟨vs, h2, by simp [h3.1], fun q p v hp hv => ?_⟩
    rw [List.getElem?_set] at hp
    rw [nth_eq] at hc
    split at hp
    · rename_i e2
      subst e2
      split at hp
      · cases hp
        have h4 := h3.2 _ _ _ hc hv
        exact ple_nil H v h4
      · cases hp
    · exact hshape (h3.2 q p v hp hv)
  · simp only [lups_ne _ _ _ _ e]
    have h1 := ha.l j
    simp only at h1
    generalize fL j = C at *
    cases C with
    | box b T cs => obtain ⟨vs, h2, h3, h4⟩ := h1; exact ⟨vs, h2, h3, fun a p v hp hv => hshape (h4 a p v hp hv)⟩
    | no => trivial
    | arr u k e enc xs => exact h1
    | itr b s p => exact h1
theorem lj_osl {α : Type} {ι : Type} {S : ι → St} {Φ : ι → Prop} {μ : ι → Nat} {m t k e : Nat} {u : Value} {enc : α → List PV} {xs : List α} (i : Nat) (hF : fF t = .val u) (hL : fL i = .arr u k e enc xs) (kk : Hd P n N H0 Q (.ex .normal) (.lp (LJ S Φ μ m) :: ks) ⟨updp fF t (.osl i), fL⟩) : Hd P n N H0 Q (.ex .normal) (.lp (LJ S Φ μ m) :: ks) ⟨fF, fL⟩ := lj_le (fun _ _ _ _ ha => val_osl ha hF hL) kk
theorem bcase {p : Prop} (b : Bool) (ht : b = true → p) (hf : b = false → p) : p := by cases b; exact hf rfl; exact ht rfl
theorem eweak {o : Oper} {i : Nat} (h : E1 P n N H0 all o none ⟨fF, fL⟩ K) : E1 P n N H0 all o (some i) ⟨fF, fL⟩ K := fun F H L ha => (h F H L ha).imp fun F' H' L' ⟨x, y, z⟩ => ⟨x, fun q _ => y q (by simp), z⟩
/-- A list that is owned is given to be read, and the operation carried out. -/
theorem egive {α : Type} {e k : Nat} {u : Value} {enc : α → List PV} {xs : List α} {o : Oper} (i : Nat) (hb : fL i = .arr u k e enc xs) (h : E1 P n N H0 all o (some i) ⟨giveF i enc xs fF, giveL i enc xs fL⟩ K) : E1 P n N H0 all o (some i) ⟨fF, fL⟩ K := by
  intro F H L ha a w hA hm
  obtain ⟨H1, hl1, hg1, hm1⟩ := hm.giveO (i := i) rfl
  have ha1 := ha.give hb hl1 hg1
  exact (h F H1 (lupd L i none) ha1).imp (fun F' H' L' ⟨x, y, z⟩ => ⟨hl1.trans x, fun q hq => (y q hq).trans (lupd_ne _ _ _ _ fun e => hq (by rw [e])), z⟩) a w hA hm1
end Go.SW.V
namespace Go.SW
structure TakerR where
  tag : Int
  queue : Bs
deriving DecidableEq, Inhabited
def TakerR.pc (x : TakerR) : List PV := [.int .u64 x.tag, .str x.queue]
structure LentR where
  id : Int
  queue : Bs
deriving DecidableEq, Inhabited
def LentR.pc (x : LentR) : List PV := [.int .u64 x.id, .str x.queue]
structure ChanR where
  credit : Int
  takers : List TakerR
  lent : List LentR
  sure : Bool
  drafts : Bool
  puts : Int
  held : DraftR
deriving DecidableEq, Inhabited
def ChanR.pc (x : ChanR) : List PV := [.int .i64 x.credit, .sl TakerR.pc x.takers, .sl LentR.pc x.lent, .bool x.sure, .bool x.drafts, .int .u64 x.puts, .sl DeedR.pc x.held.l]
end Go.SW
namespace Go.SW.V
open Go.SW
theorem flat_step {α : Type} {xs : List (List α)} {k : Nat} {c : List α} (h : xs[k]? = some c) : (xs.take (k + 1)).flatten = (xs.take k).flatten ++ c := by
  rw [takeE h, List.flatten_append]; simp
theorem flat_le {α : Type} (xs : List (List α)) (k : Nat) : (xs.take k).flatten.length ≤ xs.flatten.length := by
  have := congrArg (fun l : List (List α) => l.flatten.length) (List.take_append_drop k xs)
  simp only [List.flatten_append, List.length_append] at this
  omega
theorem flat_full {α : Type} {xs : List (List α)} {k : Nat} (h : xs.length ≤ k) : (xs.take k).flatten = xs.flatten := by rw [List.take_of_length_le h]
end Go.SW.V
namespace Go.SW
def bv1 (x : BitVec 32) : BitVec 32 := if x.getLsbD 0 then (x >>> 1) ^^^ 0xEDB88320#32 else x >>> 1
def tbv (x : BitVec 32) : BitVec 32 := bv1 (bv1 (bv1 (bv1 x)))
/-! On whole numbers -/
def bit1 (q : Int) : Int := if q % 2 = 1 then xor32 (q / 2) 3988292384 else q / 2
def bitIt : Nat → Int → Int
  | 0, q => q
  | n + 1, q => bitIt n (bit1 q)
end Go.SW
set_option linter.unusedVariables false
set_option maxRecDepth 100000
namespace Go.SW.V
open Go.SW
def draft_Settles1 (d : DeedR) (x1 : Bs) (x2 : Int) : Bool :=
 (((decide (d.kind = 8)) && (decide (d.name = x1))) && (decide (d.id = x2)))
def draft_Draft_Settles (x : DraftR) (name : Bs) (id : Int) : Bool :=
 (decide (0 ≤ idxP (fun z_4 : DeedR => (draft_Settles1 z_4 name id)) x.l))
def draft_clone (d : DeedR) : DeedR :=
 d
def draft_Draft_check (x : DraftR) (d : DeedR) : Int :=
 (lp0 ((bif decide (d.kind = 6) then
 .fin ()
 else (bif decide (d.kind = 8) then
 .fin ()
 else .ret 8))) (
 (bif !decide ((deedE d) = 0) then
 (deedE d)
 else (bif ((decide (d.kind = 8)) && (draft_Draft_Settles x d.name d.id)) then
 9
 else (bif decide (16 ≤ (x.l.length : Int)) then
 12
 else 0)))) (fun r => r))
def r26_Settles_l0 (name : Bs) (id : Int) : List DeedR → Bool
  | [] => false
  | x1 :: t => (bif (((decide ((x1.kind) = 8)) && (decide ((x1.name) = name))) && (decide ((x1.id) = id))) then
 true
 else r26_Settles_l0 name id t )
def r26_Settles (x : List DeedR) (name : Bs) (id : Int) : Bool :=
 r26_Settles_l0 name id x 
def chans_New : ChanR :=
 (⟨16, [], [], false, false, 0, (⟨[]⟩ : DraftR)⟩ : ChanR)
def chans_Chan_Credit (c : ChanR) (n : Int) : ChanR × Int :=
 (bif ((decide (n < 1)) || (decide (16 < n))) then
 (c, 7)
 else ((⟨(IntKind.wrap .i64 n), c.takers, c.lent, c.sure, c.drafts, c.puts, c.held⟩ : ChanR), 0))
def chans_Chan_Room (c : ChanR) : Int :=
 (max 0 (c.credit - (c.lent.length : Int)))
def chans_of1 (t : TakerR) (x1 : Int) : Bool :=
 (decide (t.tag = x1))
def chans_Chan_of (c : ChanR) (tag : Int) : Int :=
 (idxP (fun z_3 : TakerR => (chans_of1 z_3 tag)) c.takers)
def chans_Chan_Sure (c : ChanR) : ChanR × Int :=
 (bif c.drafts then
 (c, 13)
 else ((⟨c.credit, c.takers, c.lent, true, c.drafts, c.puts, c.held⟩ : ChanR), 0))
def chans_Chan_Put (c : ChanR) : ChanR × Int :=
 (bif !c.sure then
 (c, 0)
 else ((⟨c.credit, c.takers, c.lent, c.sure, c.drafts, (IntKind.wrap .u64 (c.puts + 1)), c.held⟩ : ChanR), (IntKind.wrap .u64 (c.puts + 1))))
def chans_Chan_Number (c : ChanR) : Int :=
 c.puts
def chans_Chan_Draft (c : ChanR) : ChanR × Int :=
 (bif (c.sure || c.drafts) then
 (c, 13)
 else ((⟨c.credit, c.takers, c.lent, c.sure, true, c.puts, c.held⟩ : ChanR), 0))
def chans_Chan_Drafts (c : ChanR) : Bool :=
 c.drafts
def chans_Chan_Undo (c : ChanR) : ChanR × Int :=
 (bif !c.drafts then
 (c, 13)
 else ((⟨c.credit, c.takers, c.lent, c.sure, c.drafts, c.puts, (⟨[]⟩ : DraftR)⟩ : ChanR), 0))
def r27_New : ChanR :=
 (⟨16, [], [], false, false, 0, (⟨[]⟩ : DraftR)⟩ : ChanR)
def r27_Credit (c : ChanR) (n : Int) : ChanR × Int :=
 (bif ((decide (n = 0)) || (decide (16 < n))) then
 (c, 7)
 else ((⟨(IntKind.wrap .i64 n), c.takers, c.lent, c.sure, c.drafts, c.puts, c.held⟩ : ChanR), 0))
def r27_Room (c : ChanR) : Int :=
 (bif decide (c.credit < (c.lent.length : Int)) then
 0
 else (c.credit - (c.lent.length : Int)))
def r27_Sure (c : ChanR) : ChanR × Int :=
 (bif c.drafts then
 (c, 13)
 else ((⟨c.credit, c.takers, c.lent, true, c.drafts, c.puts, c.held⟩ : ChanR), 0))
def r27_Put (c : ChanR) : ChanR × Int :=
 (bif c.sure then
 ((⟨c.credit, c.takers, c.lent, c.sure, c.drafts, (IntKind.wrap .u64 (c.puts + 1)), c.held⟩ : ChanR), (IntKind.wrap .u64 (c.puts + 1)))
 else (c, c.puts))
def r27_Draft (c : ChanR) : ChanR × Int :=
 (bif (c.sure || c.drafts) then
 (c, 13)
 else ((⟨c.credit, c.takers, c.lent, c.sure, true, c.puts, c.held⟩ : ChanR), 0))
def r27_Undo (c : ChanR) : ChanR × Int :=
 (bif !c.drafts then
 (c, 13)
 else ((⟨c.credit, c.takers, c.lent, c.sure, c.drafts, c.puts, (⟨[]⟩ : DraftR)⟩ : ChanR), 0))
def r27_SameTakers_l0 (b : List TakerR) : List TakerR → Nat → Bool
  | [], k => true
  | x :: t, k => (bif !decide (x = (gt b k)) then
 false
 else r27_SameTakers_l0 b t (k + 1))
def r27_SameTakers (a : List TakerR) (b : List TakerR) : Bool :=
 (bif !decide ((a.length : Int) = (b.length : Int)) then
 false
 else r27_SameTakers_l0 b a 0)
def r27_SameLent_l0 (b : List LentR) : List LentR → Nat → Bool
  | [], k => true
  | x :: t, k => (bif !decide (x = (gt b k)) then
 false
 else r27_SameLent_l0 b t (k + 1))
def r27_SameLent (a : List LentR) (b : List LentR) : Bool :=
 (bif !decide ((a.length : Int) = (b.length : Int)) then
 false
 else r27_SameLent_l0 b a 0)
end Go.SW.V
namespace Go.SW.V
open Go.SW
theorem chk_lt (x : DraftR) (d : DeedR) : draft_Draft_check x d = 0 → (x.l.length : Int) < 16 := by
  unfold draft_Draft_check
  cases h1 : decide (d.kind = 6) <;> cases h2 : decide (d.kind = 8) <;> cases h3 : decide (deedE d = 0) <;> cases h4 : decide (16 ≤ (x.l.length : Int)) <;> simp [lp0] <;> grind
theorem chk_deed (x : DraftR) (d : DeedR) : draft_Draft_check x d = 0 → deedE d = 0 ∧ (d.kind = 6 ∨ d.kind = 8) := by
  unfold draft_Draft_check
  cases h1 : decide (d.kind = 6) <;> cases h2 : decide (d.kind = 8) <;> cases h3 : decide (deedE d = 0) <;> simp [lp0] <;> grind
theorem chk_head (x : DraftR) (d : DeedR) : draft_Draft_check x d = 0 → d.mail.head.length ≤ 1000000 := by
  intro h
  obtain ⟨h1, h2⟩ := chk_deed x d h
  have := (smallH_ok (deedE_ok (d := d) (by omega) h1).mhead).1
  omega
theorem chans_of_r (c : ChanR) (tag : Int) : -1 ≤ chans_Chan_of c tag ∧ chans_Chan_of c tag < c.takers.length := idxP_b _ _
end Go.SW.V
set_option linter.unusedVariables false
set_option maxRecDepth 100000
namespace Go.SW.V
open Go.SW
def route_put (l : List Bs) (s : Bs) : (List Bs) :=
 (bif decide (s ∈ l) then
 l
 else (l ++ [s]))
def route_Book_Make (b : BookR) (x : ShopR) : BookR × Int :=
 (bif !decide ((shopE x) = 0) then
 (b, shopE x)
 else (bif (((shopOf b.shops x.name).isSome) && (decide (x = ((shopOf b.shops x.name).getD ShopR.zero)))) then
 (b, 0)
 else (bif (shopOf b.shops x.name).isSome then
 (b, 9)
 else (bif decide (8 ≤ (b.shops.length : Int)) then
 (b, 12)
 else ((⟨[b.shops, [x]].flatten, b.binds⟩ : BookR), 0)))))
def route_Book_there (b : BookR) (x : BindR) : Int :=
 (idxP (fun z_3 : BindR => decide (x = z_3)) b.binds)
end Go.SW.V
namespace Go.SW.V
open Go.SW
theorem put_len (l : List Bs) (s : Bs) : (route_put l s).length ≤ l.length + 1 := by
  unfold route_put
  cases decide (s ∈ l) <;> simp
theorem there_r (b : BookR) (x : BindR) : -1 ≤ route_Book_there b x ∧ route_Book_there b x < b.binds.length := idxP_b _ _
end Go.SW.V
set_option linter.unusedVariables false
set_option maxRecDepth 100000
namespace Go.SW.V
open Go.SW
def route_Book_Bind (b : BookR) (x : BindR) : BookR × Int :=
 (bif !((shopOf b.shops x.shop).isSome) then
 (b, 10)
 else (bif decide ((((shopOf b.shops x.shop).getD ShopR.zero).sort) = 4) then
 (b, 8)
 else (bif !decide ((nameE x.to) = 0) then
 (b, nameE x.to)
 else (bif !decide ((ruleE (bindRule x (((shopOf b.shops x.shop).getD ShopR.zero).sort))) = 0) then
 (b, ruleE (bindRule x (((shopOf b.shops x.shop).getD ShopR.zero).sort)))
 else lt (route_Book_there b x) fun r =>
 (bif decide (0 ≤ r) then
 (b, 0)
 else (bif decide (32 ≤ (b.binds.length : Int)) then
 (b, 12)
 else ((⟨b.shops, [b.binds, [x]].flatten⟩ : BookR), 0)))))))
def route_Book_Leads_l0 (b : BookR) (shop : Bs) (key : Bs) (h : List Pair) : List BindR → List Bs → List Bs → (List Bs) × (List Bs) × Int
  | [], queues, places => (queues, places, 0)
  | x :: t, queues, places => (lt1 ((bif !decide ((x.shop) = shop) then
 (!decide ((x.shop) = shop))
 else (!(goesR (bindRule x (((shopOf b.shops shop).getD ShopR.zero).sort)) key h)))) (fun v =>
 (bif v then
 route_Book_Leads_l0 b shop key h t  queues places
 else (bif x.up then
 lt (route_put places (x.to)) fun r =>
 route_Book_Leads_l0 b shop key h t  queues r
 else lt (route_put queues (x.to)) fun r1 =>
 route_Book_Leads_l0 b shop key h t  r1 places))))
def route_Book_Leads (b : BookR) (shop : Bs) (key : Bs) (h : List Pair) : (List Bs) × (List Bs) × Int :=
 (bif !((shopOf b.shops shop).isSome) then
 ([], [], 10)
 else (bif decide ((((shopOf b.shops shop).getD ShopR.zero).sort) = 4) then
 ([], [((shopOf b.shops shop).getD ShopR.zero).to], 0)
 else route_Book_Leads_l0 b shop key h b.binds  [] []))
end Go.SW.V
set_option linter.unusedVariables false
set_option maxRecDepth 100000
namespace Go.SW.V
open Go.SW
def draft_Draft_Add_l0 (x : DraftR) : List DeedR → DraftR → DraftR × Int
  | [], x1 => (x1, 0)
  | x2 :: t, x1 => lt (draft_Draft_check x1 x2) fun r =>
 (bif !decide (r = 0) then
 (x, r)
 else lt (draft_clone x2) fun r1 =>
 draft_Draft_Add_l0 x t  (⟨[x1.l, [r1]].flatten⟩ : DraftR))
def draft_Draft_Add (x : DraftR) (l : List DeedR) : DraftR × Int :=
 draft_Draft_Add_l0 x l  x
def draft_Draft_At_l0 (tick : Int) : List DeedR → List DeedR → (List DeedR)
  | [], out => out
  | x1 :: t, out => lt (draft_clone x1) fun r =>
 (bif decide (r.kind = 6) then
 draft_Draft_At_l0 tick t  (out ++ [(⟨r.kind, tick, r.shop, r.queue, r.bind, r.name, r.id, r.how, r.frm, r.code, r.number, (⟨r.mail.id, r.mail.shop, r.mail.key, r.mail.head, r.mail.body, lifeN tick r.mail.due, r.mail.hops⟩ : Mail), r.text⟩ : DeedR)])
 else draft_Draft_At_l0 tick t  (out ++ [(⟨r.kind, tick, r.shop, r.queue, r.bind, r.name, r.id, r.how, r.frm, r.code, r.number, r.mail, r.text⟩ : DeedR)]))
def draft_Draft_At (x : DraftR) (tick : Int) : (List DeedR) :=
 draft_Draft_At_l0 tick x.l  []
def r26_Add_l0 (x : List DeedR) : List DeedR → List DeedR → (List DeedR) × Int
  | [], out => (out, 0)
  | x1 :: t, out => (bif ((!decide ((x1.kind) = 6)) && (!decide ((x1.kind) = 8))) then
 (x, 8)
 else (bif !decide ((deedE x1) = 0) then
 (x, deedE x1)
 else (bif decide ((x1.kind) = 8) then
 (bif (r26_Settles out (x1.name) (x1.id)) then
 (x, 9)
 else (bif decide (16 ≤ (out.length : Int)) then
 (x, 12)
 else r26_Add_l0 x t  (out ++ [x1])))
 else (bif decide (16 ≤ (out.length : Int)) then
 (x, 12)
 else r26_Add_l0 x t  (out ++ [x1])))))
def r26_Add (x : List DeedR) (l : List DeedR) : (List DeedR) × Int :=
 r26_Add_l0 x l  x
def r26_At_l0 (tick : Int) : List DeedR → List DeedR → (List DeedR)
  | [], out => out
  | x1 :: t, out => (bif decide ((x1.kind) = 6) then
 r26_At_l0 tick t  (out ++ [(⟨x1.kind, tick, x1.shop, x1.queue, x1.bind, x1.name, x1.id, x1.how, x1.frm, x1.code, x1.number, (⟨x1.mail.id, x1.mail.shop, x1.mail.key, x1.mail.head, x1.mail.body, lifeN tick (x1.mail.due), x1.mail.hops⟩ : Mail), x1.text⟩ : DeedR)])
 else r26_At_l0 tick t  (out ++ [(⟨x1.kind, tick, x1.shop, x1.queue, x1.bind, x1.name, x1.id, x1.how, x1.frm, x1.code, x1.number, x1.mail, x1.text⟩ : DeedR)]))
def r26_At (x : List DeedR) (tick : Int) : (List DeedR) :=
 r26_At_l0 tick x  []
def l22_All_l0 : List DeedR → List DeedR → (List DeedR) × Bool
  | [], out => (out, true)
  | x :: t, out => (bif !(lightD x) then
 ([], false)
 else l22_All_l0 t  (out ++ [x]))
def l22_All (l : List DeedR) : (List DeedR) × Bool :=
 l22_All_l0 l  []
def l23_Light_l0 (l : List DeedR) : List DeedR → Bool
  | [] => (decide ((l.length : Int) ≤ 40))
  | x :: t => (bif !(lightD x) then
 false
 else l23_Light_l0 l t )
def l23_Light (l : List DeedR) : Bool :=
 l23_Light_l0 l l 
def r22_SameAll_l0 (b : List DeedR) : List DeedR → Nat → Bool
  | [], k => true
  | x :: t, k => (bif !(decide (x = (gt b k))) then
 false
 else r22_SameAll_l0 b t (k + 1))
def r22_SameAll (a : List DeedR) (b : List DeedR) : Bool :=
 (bif !decide ((a.length : Int) = (b.length : Int)) then
 false
 else r22_SameAll_l0 b a 0)
def chans_Chan_Take (c : ChanR) (tag : Int) (queue : Bs) : ChanR × Int :=
 (bif decide (255 < tag) then
 (c, 7)
 else lt (chans_Chan_of c tag) fun r =>
 (bif decide (0 ≤ r) then
 (c, 9)
 else (bif decide (4 ≤ (c.takers.length : Int)) then
 (c, 12)
 else ((⟨c.credit, [c.takers, [(⟨tag, queue⟩ : TakerR)]].flatten, c.lent, c.sure, c.drafts, c.puts, c.held⟩ : ChanR), 0))))
def chans_Chan_Leave (c : ChanR) (tag : Int) : ChanR × Int :=
 lt (chans_Chan_of c tag) fun r =>
 (bif decide (r < 0) then
 (c, 10)
 else ((⟨c.credit, [(c.takers.take (r).toNat), (c.takers.drop ((r + 1)).toNat)].flatten, c.lent, c.sure, c.drafts, c.puts, c.held⟩ : ChanR), 0))
def chans_Chan_Takers (c : ChanR) : (List TakerR) :=
 c.takers
def chans_Chan_Lend (c : ChanR) (x : LentR) : ChanR :=
 (⟨c.credit, c.takers, [c.lent, [x]].flatten, c.sure, c.drafts, c.puts, c.held⟩ : ChanR)
def chans_Chan_Unsettled (c : ChanR) : (List LentR) :=
 c.lent
def chans_Chan_Settles_l0 (c : ChanR) (id : Int) (how : Int) (upto : Bool) : List LentR → List DeedR → (List DeedR) × Int
  | [], out => ([], 10)
  | x :: t, out => (bif ((c.drafts && (draft_Draft_Settles c.held (x.queue) (x.id))) || ((!decide ((x.id) = id)) && (!upto))) then
 chans_Chan_Settles_l0 c id how upto t  out
 else (bif decide ((x.id) = id) then
 ((out ++ [(⟨8, 0, (⟨[], 0, []⟩ : ShopR), (⟨[], 0, 0, []⟩ : QueueR), (⟨[], [], false, [], [], false⟩ : BindR), x.queue, x.id, (IntKind.wrap .u8 how), 0, 0, 0, (⟨0, [], [], [], [], 0, 0⟩ : Mail), []⟩ : DeedR)]), 0)
 else chans_Chan_Settles_l0 c id how upto t  (out ++ [(⟨8, 0, (⟨[], 0, []⟩ : ShopR), (⟨[], 0, 0, []⟩ : QueueR), (⟨[], [], false, [], [], false⟩ : BindR), x.queue, x.id, (IntKind.wrap .u8 how), 0, 0, 0, (⟨0, [], [], [], [], 0, 0⟩ : Mail), []⟩ : DeedR)])))
def chans_Chan_Settles (c : ChanR) (id : Int) (how : Int) (upto : Bool) : (List DeedR) × Int :=
 (bif decide (2 < how) then
 ([], 7)
 else chans_Chan_Settles_l0 c id how upto c.lent  [])
def chans_Chan_Gone_l0 : List DeedR → ChanR → ChanR
  | [], x => x
  | x1 :: t, x => lt (idxP (fun y => decide ((⟨x1.id, x1.name⟩ : LentR) = y)) x.lent) fun r =>
 (bif ((decide ((x1.kind) = 8)) && (decide (0 ≤ r))) then
 chans_Chan_Gone_l0 t  (⟨x.credit, x.takers, [(x.lent.take (r).toNat), (x.lent.drop ((r + 1)).toNat)].flatten, x.sure, x.drafts, x.puts, x.held⟩ : ChanR)
 else chans_Chan_Gone_l0 t  x)
def chans_Chan_Gone (c : ChanR) (l : List DeedR) : ChanR :=
 chans_Chan_Gone_l0 l  c
def r27_Take_l0 (c : ChanR) (tag : Int) (queue : Bs) : List TakerR → ChanR × Int
  | [] => (bif decide (4 ≤ (c.takers.length : Int)) then
 (c, 12)
 else ((⟨c.credit, (c.takers ++ [(⟨tag, queue⟩ : TakerR)]), c.lent, c.sure, c.drafts, c.puts, c.held⟩ : ChanR), 0))
  | x :: t => (bif decide ((x.tag) = tag) then
 (c, 9)
 else r27_Take_l0 c tag queue t )
def r27_Take (c : ChanR) (tag : Int) (queue : Bs) : ChanR × Int :=
 (bif decide (255 < tag) then
 (c, 7)
 else r27_Take_l0 c tag queue c.takers )
def r27_Leave_l0 (c : ChanR) (tag : Int) : List TakerR → List TakerR → ChanR × Int
  | [], l => (bif decide ((l.length : Int) = (c.takers.length : Int)) then
 (c, 10)
 else ((⟨c.credit, l, c.lent, c.sure, c.drafts, c.puts, c.held⟩ : ChanR), 0))
  | x :: t, l => (bif !decide ((x.tag) = tag) then
 r27_Leave_l0 c tag t  (l ++ [x])
 else r27_Leave_l0 c tag t  l)
def r27_Leave (c : ChanR) (tag : Int) : ChanR × Int :=
 r27_Leave_l0 c tag c.takers  []
def r27_Lend (c : ChanR) (x : LentR) : ChanR :=
 (⟨c.credit, c.takers, (c.lent ++ [x]), c.sure, c.drafts, c.puts, c.held⟩ : ChanR)
def r27_Open_l0 (c : ChanR) : List LentR → List LentR → (List LentR)
  | [], out => out
  | x :: t, out => (bif !(r26_Settles c.held.l (x.queue) (x.id)) then
 r27_Open_l0 c t  (out ++ [x])
 else r27_Open_l0 c t  out)
def r27_Open (c : ChanR) : (List LentR) :=
 r27_Open_l0 c c.lent  []
end Go.SW.V
namespace Go.SW.V
open Go.SW
theorem open_len0 (c : ChanR) : ∀ (l : List LentR) (out : List LentR), (r27_Open_l0 c l out).length ≤ out.length + l.length
  | [], out => by simp [r27_Open_l0]
  | x :: l, out => by
    have h1 := open_len0 c l (out ++ [x])
    have h2 := open_len0 c l out
    unfold r27_Open_l0
    cases e : r26_Settles c.held.l x.queue x.id <;> simp at * <;> omega
theorem open_len (c : ChanR) : (r27_Open c).length ≤ c.lent.length := by
  have := open_len0 c c.lent []
  simpa [r27_Open] using this
end Go.SW.V
namespace Go.SW.V
open Go.SW
structure DOk (x : DraftR) : Prop where
  len : x.l.length ≤ 16
  ok : ∀ d ∈ x.l, deedE d = 0 ∧ (d.kind = 6 ∨ d.kind = 8)
  hd : ∀ d ∈ x.l, d.mail.head.length ≤ 1000000
theorem dok_nil : DOk ⟨[]⟩ := ⟨by simp, fun _ h => by simp at h, fun _ h => by simp at h⟩
theorem l23_mem0 (l0 : List DeedR) : ∀ {l : List DeedR} {d : DeedR}, l23_Light_l0 l0 l = true → d ∈ l → lightD d = true
  | [], d, _, hd => by simp at hd
  | x :: l, d, h, hd => by
    simp only [l23_Light_l0] at h
    cases e : lightD x with
    | false => rw [e] at h; cases h
    | true =>
      rw [e] at h
      rcases List.mem_cons.1 hd with rfl | q
      · exact e
      · exact l23_mem0 l0 h q
theorem l23_mem {l : List DeedR} {d : DeedR} (h : l23_Light l = true) (hd : d ∈ l) : lightD d = true := l23_mem0 l h hd
theorem l23_len0 (l0 : List DeedR) : ∀ {l : List DeedR}, l23_Light_l0 l0 l = true → l0.length ≤ 40
  | [], h => by simp [l23_Light_l0] at h; omega
  | x :: l, h => by
    simp only [l23_Light_l0] at h
    cases e : lightD x with
    | false => rw [e] at h; cases h
    | true => rw [e] at h; exact l23_len0 l0 h
theorem l23_len {l : List DeedR} (h : l23_Light l = true) : l.length ≤ 40 := l23_len0 l h
theorem l23_ok {l : List DeedR} (h : l23_Light l = true) : (∀ d ∈ l, lightD d = true) ∧ l.length ≤ 40 := ⟨fun _ hd => l23_mem h hd, l23_len h⟩
theorem add_dok0 (x : DraftR) (hx : DOk x) : ∀ (l : List DeedR) (y : DraftR), DOk y → DOk (draft_Draft_Add_l0 x l y).1
  | [], y, h => h
  | d :: l, y, h => by
    simp only [draft_Draft_Add_l0, lt]
    by_cases e : draft_Draft_check y d = 0
    · simp only [e, decide_true, Bool.not_true, cond_false]
      have h1 := chk_lt y d e
      have h2 := chk_deed y d e
      have h3 := chk_head y d e
      refine add_dok0 x hx l _ ⟨by simp; omega, fun q hq => ?_, fun q hq => ?_⟩
      · simp only [List.flatten_cons, List.flatten_nil, List.append_nil, List.mem_append, List.mem_singleton] at hq
        rcases hq with hq | rfl
        · exact h.ok q hq
        · exact h2
      · simp only [List.flatten_cons, List.flatten_nil, List.append_nil, List.mem_append, List.mem_singleton] at hq
        rcases hq with hq | rfl
        · exact h.hd q hq
        · exact h3
    · simp only [e, decide_false, Bool.not_false, cond_true]
      exact hx
theorem add_dok (x : DraftR) (l : List DeedR) : DOk x → DOk (draft_Draft_Add x l).1 := fun h => add_dok0 x h l x h
theorem radd_len0 (x : List DeedR) (hx : x.length ≤ 16) : ∀ (l out : List DeedR), out.length ≤ 16 → (r26_Add_l0 x l out).1.length ≤ 16
  | [], out, h => h
  | d :: l, out, h => by
    simp only [r26_Add_l0, Bool.cond_eq_ite]
    repeat' split
    all_goals first
      | exact hx
      | (rename_i e; simp only [decide_eq_true_eq] at e; exact radd_len0 x hx l _ (by simp; omega))
theorem radd_len (x l : List DeedR) : x.length ≤ 16 → (r26_Add x l).1.length ≤ 16 := fun h => radd_len0 x h l x h
theorem all_len0 : ∀ (l out : List DeedR), (l22_All_l0 l out).1.length ≤ out.length + l.length
  | [], out => by simp [l22_All_l0]
  | d :: l, out => by
    simp only [l22_All_l0]
    cases lightD d
    · simp
    · have := all_len0 l (out ++ [d])
      simp at this ⊢
      omega
theorem all_len (l : List DeedR) : (l22_All l).1.length ≤ l.length := by
  have := all_len0 l []
  simpa [l22_All] using this
theorem at_len0 (tick : Int) : ∀ (l out : List DeedR), (draft_Draft_At_l0 tick l out).length = out.length + l.length
  | [], out => by simp [draft_Draft_At_l0]
  | d :: l, out => by
    simp only [draft_Draft_At_l0, lt, Bool.cond_eq_ite]
    split <;> (rw [at_len0 tick l]; simp; omega)
theorem at_len (x : DraftR) (tick : Int) : (draft_Draft_At x tick).length = x.l.length := by
  rw [draft_Draft_At, at_len0]; simp
end Go.SW.V
set_option linter.unusedVariables false
set_option maxRecDepth 100000
namespace Go.SW.V
open Go.SW
def chans_Chan_Hold (c : ChanR) (l : List DeedR) : ChanR × Int :=
 (bif !c.drafts then
 (c, 13)
 else lt (draft_Draft_Add c.held l) fun r =>
 ((⟨c.credit, c.takers, c.lent, c.sure, c.drafts, c.puts, r.1⟩ : ChanR), r.2))
def chans_Chan_Held (c : ChanR) (tick : Int) : (List DeedR) × Int :=
 (bif !c.drafts then
 ([], 13)
 else lt (draft_Draft_At c.held tick) fun r =>
 (r, 0))
def r27_Settles_l0 (id : Int) (how : Int) (upto : Bool) : List LentR → List DeedR → (List DeedR) × Int
  | [], out => ([], 10)
  | x :: t, out => (bif decide ((x.id) = id) then
 ((out ++ [(⟨8, 0, (⟨[], 0, []⟩ : ShopR), (⟨[], 0, 0, []⟩ : QueueR), (⟨[], [], false, [], [], false⟩ : BindR), x.queue, x.id, (IntKind.wrap .u8 how), 0, 0, 0, (⟨0, [], [], [], [], 0, 0⟩ : Mail), []⟩ : DeedR)]), 0)
 else (bif upto then
 r27_Settles_l0 id how upto t  (out ++ [(⟨8, 0, (⟨[], 0, []⟩ : ShopR), (⟨[], 0, 0, []⟩ : QueueR), (⟨[], [], false, [], [], false⟩ : BindR), x.queue, x.id, (IntKind.wrap .u8 how), 0, 0, 0, (⟨0, [], [], [], [], 0, 0⟩ : Mail), []⟩ : DeedR)])
 else r27_Settles_l0 id how upto t  out))
def r27_Settles (c : ChanR) (id : Int) (how : Int) (upto : Bool) : (List DeedR) × Int :=
 (bif decide (2 < how) then
 ([], 7)
 else lt (r27_Open c) fun r =>
 r27_Settles_l0 id how upto r  [])
def r27_Gone_l1 (x : ChanR) (y : DeedR) : List LentR → List LentR → Bool → ChanR
  | [], left, done => (⟨x.credit, x.takers, left, x.sure, x.drafts, x.puts, x.held⟩ : ChanR)
  | x2 :: t, left, done => (bif (((!done) && (decide ((x2.id) = (y.id)))) && (decide ((x2.queue) = (y.name)))) then
 r27_Gone_l1 x y t  left true
 else r27_Gone_l1 x y t  (left ++ [x2]) done)
def r27_Gone_l0 : List DeedR → ChanR → ChanR
  | [], x => x
  | x3 :: t1, x => (lt1 ((bif !decide ((x3.kind) = 8) then
 x
 else r27_Gone_l1 x x3 x.lent  [] false)) (fun x1 =>
 r27_Gone_l0 t1  x1))
def r27_Gone (c : ChanR) (l : List DeedR) : ChanR :=
 r27_Gone_l0 l  c
def r27_Hold (c : ChanR) (l : List DeedR) : ChanR × Int :=
 (bif !c.drafts then
 (c, 13)
 else lt (r26_Add c.held.l l) fun r =>
 ((⟨c.credit, c.takers, c.lent, c.sure, c.drafts, c.puts, (⟨r.1⟩ : DraftR)⟩ : ChanR), r.2))
def r27_Held (c : ChanR) (tick : Int) : (List DeedR) × Int :=
 (bif !c.drafts then
 ([], 13)
 else lt (r26_At c.held.l tick) fun r =>
 (r, 0))
end Go.SW.V
namespace Go.SW.V
open Go.SW
structure COk (c : ChanR) (n : Nat) : Prop where
  cr : 0 ≤ c.credit ∧ c.credit ≤ 1000
  tk : c.takers.length ≤ 4
  ln : c.lent.length ≤ n
  hd : DOk c.held
theorem cok_le {c : ChanR} {n m : Nat} (h : COk c n) (k : n ≤ m) : COk c m := ⟨h.cr, h.tk, Nat.le_trans h.ln k, h.hd⟩
theorem cok_new (n : Nat) : COk chans_New n := ⟨by simp [chans_New], by simp [chans_New], by simp [chans_New], dok_nil⟩
theorem cok_new' (n : Nat) : COk r27_New n := ⟨by simp [r27_New], by simp [r27_New], by simp [r27_New], dok_nil⟩
theorem wrap16 {m : Int} (h : 1 ≤ m) (k : m ≤ 16) : IntKind.wrap .i64 m = m := by
  simp only [IntKind.wrap, IntKind.bits, IntKind.signed]; simp; omega
theorem cok_Credit {c : ChanR} {n : Nat} (m : Int) (h : COk c n) : COk (chans_Chan_Credit c m).1 n := by
  simp only [chans_Chan_Credit, Bool.cond_eq_ite]
  split
  · exact h
  · rename_i e
    simp only [Bool.or_eq_true, decide_eq_true_eq, not_or] at e
    refine ⟨?_, h.tk, h.ln, h.hd⟩
    simp only [wrap16 (by omega : 1 ≤ m) (by omega)]; omega
theorem cok_Credit' {c : ChanR} {n : Nat} {m : Int} (hm : 0 ≤ m) (h : COk c n) : COk (r27_Credit c m).1 n := by
  simp only [r27_Credit, Bool.cond_eq_ite]
  split
  · exact h
  · rename_i e
    simp only [Bool.or_eq_true, decide_eq_true_eq, not_or] at e
    refine ⟨?_, h.tk, h.ln, h.hd⟩
    simp only [wrap16 (by omega : 1 ≤ m) (by omega)]; omega
theorem cok_Take {c : ChanR} {n : Nat} (t : Int) (q : Bs) (h : COk c n) : COk (chans_Chan_Take c t q).1 n := by
  simp only [chans_Chan_Take, lt, Bool.cond_eq_ite]
  repeat' split
  all_goals first | exact h | skip
  rename_i e
  simp only [decide_eq_true_eq] at e
  exact ⟨h.cr, by simp; omega, h.ln, h.hd⟩
theorem cok_Take0 {c : ChanR} {n : Nat} (t : Int) (q : Bs) (h : COk c n) : ∀ l, COk (r27_Take_l0 c t q l).1 n
  | [] => by
    simp only [r27_Take_l0, Bool.cond_eq_ite]
    split
    · exact h
    · rename_i e
      simp only [decide_eq_true_eq] at e
      exact ⟨h.cr, by simp; omega, h.ln, h.hd⟩
  | x :: l => by
    simp only [r27_Take_l0, Bool.cond_eq_ite]
    split
    · exact h
    · exact cok_Take0 t q h l
theorem cok_Take' {c : ChanR} {n : Nat} (t : Int) (q : Bs) (h : COk c n) : COk (r27_Take c t q).1 n := by
  simp only [r27_Take, Bool.cond_eq_ite]
  split
  · exact h
  · exact cok_Take0 t q h _
theorem cok_Leave {c : ChanR} {n : Nat} (t : Int) (h : COk c n) : COk (chans_Chan_Leave c t).1 n := by
  simp only [chans_Chan_Leave, lt, Bool.cond_eq_ite]
  split
  · exact h
  · have := h.tk
    exact ⟨h.cr, by simp; omega, h.ln, h.hd⟩
theorem cok_Leave0 {c : ChanR} {n : Nat} (t : Int) (h : COk c n) : ∀ (l out : List TakerR), out.length + l.length ≤ 4 → COk (r27_Leave_l0 c t l out).1 n
  | [], out, hl => by
    simp only [r27_Leave_l0, Bool.cond_eq_ite]
    split
    · exact h
    · exact ⟨h.cr, by simpa using hl, h.ln, h.hd⟩
  | x :: l, out, hl => by
    simp only [List.length_cons] at hl
    simp only [r27_Leave_l0, Bool.cond_eq_ite]
    split
    · exact cok_Leave0 t h l _ (by simp; omega)
    · exact cok_Leave0 t h l _ (by omega)
theorem cok_Leave' {c : ChanR} {n : Nat} (t : Int) (h : COk c n) : COk (r27_Leave c t).1 n := cok_Leave0 t h _ _ (by have := h.tk; simpa using this)
theorem cok_Lend {c : ChanR} {n : Nat} (x : LentR) (h : COk c n) : COk (chans_Chan_Lend c x) (n + 1) := ⟨h.cr, h.tk, by have := h.ln; simp [chans_Chan_Lend]; omega, h.hd⟩
theorem cok_Lend' {c : ChanR} {n : Nat} (x : LentR) (h : COk c n) : COk (r27_Lend c x) (n + 1) := ⟨h.cr, h.tk, by have := h.ln; simp [r27_Lend]; omega, h.hd⟩
theorem cok_Gone0 {n : Nat} : ∀ (l : List DeedR) (c : ChanR), COk c n → COk (chans_Chan_Gone_l0 l c) n
  | [], c, h => h
  | d :: l, c, h => by
    simp only [chans_Chan_Gone_l0, lt, Bool.cond_eq_ite]
    split
    · refine cok_Gone0 l _ ⟨h.cr, h.tk, ?_, h.hd⟩
      have := h.ln
      simp; omega
    · exact cok_Gone0 l c h
theorem cok_Gone {c : ChanR} {n : Nat} (l : List DeedR) (h : COk c n) : COk (chans_Chan_Gone c l) n := cok_Gone0 l c h
theorem gone1_len {c : ChanR} {d : DeedR} : ∀ (l out : List LentR) (b : Bool), (r27_Gone_l1 c d l out b).lent.length ≤ out.length + l.length ∧ (r27_Gone_l1 c d l out b).takers = c.takers ∧ (r27_Gone_l1 c d l out b).credit = c.credit ∧ (r27_Gone_l1 c d l out b).held = c.held
  | [], out, b => by simp [r27_Gone_l1]
  | x :: l, out, b => by
    simp only [r27_Gone_l1, Bool.cond_eq_ite, List.length_cons]
    split
    · have := gone1_len (c := c) (d := d) l out true; exact ⟨by omega, this.2⟩
    · have := gone1_len (c := c) (d := d) l (out ++ [x]) b; simp only [List.length_append, List.length_cons, List.length_nil] at this; exact ⟨by omega, this.2⟩
theorem cok_Gone0' {n : Nat} : ∀ (l : List DeedR) (c : ChanR), COk c n → COk (r27_Gone_l0 l c) n
  | [], c, h => h
  | d :: l, c, h => by
    simp only [r27_Gone_l0, lt1, Bool.cond_eq_ite]
    refine cok_Gone0' l _ ?_
    split
    · exact h
    · obtain ⟨h1, h2, h3, h4⟩ := gone1_len (c := c) (d := d) c.lent [] false
      have := h.ln
      exact ⟨by rw [h3]; exact h.cr, by rw [h2]; exact h.tk, by simp at h1; omega, by rw [h4]; exact h.hd⟩
theorem cok_Gone' {c : ChanR} {n : Nat} (l : List DeedR) (h : COk c n) : COk (r27_Gone c l) n := cok_Gone0' l c h
theorem cok_Hold {c : ChanR} {n : Nat} (l : List DeedR) (h : COk c n) : COk (chans_Chan_Hold c l).1 n := by
  simp only [chans_Chan_Hold, lt, Bool.cond_eq_ite]
  split
  · exact h
  · exact ⟨h.cr, h.tk, h.ln, add_dok _ _ h.hd⟩
theorem cok_Undo {c : ChanR} {n : Nat} (h : COk c n) : COk (chans_Chan_Undo c).1 n := by
  simp only [chans_Chan_Undo, Bool.cond_eq_ite]
  split
  · exact h
  · exact ⟨h.cr, h.tk, h.ln, dok_nil⟩
theorem cok_same {c d : ChanR} {n : Nat} (h : COk c n) (h1 : d.credit = c.credit) (h2 : d.takers = c.takers) (h3 : d.lent = c.lent) (h4 : d.held = c.held) : COk d n := ⟨by rw [h1]; exact h.cr, by rw [h2]; exact h.tk, by rw [h3]; exact h.ln, by rw [h4]; exact h.hd⟩
theorem cok_Sure {c : ChanR} {n : Nat} (h : COk c n) : COk (chans_Chan_Sure c).1 n := by
  simp only [chans_Chan_Sure, Bool.cond_eq_ite]; split <;> exact cok_same h rfl rfl rfl rfl
theorem cok_Put {c : ChanR} {n : Nat} (h : COk c n) : COk (chans_Chan_Put c).1 n := by
  simp only [chans_Chan_Put, Bool.cond_eq_ite]; split <;> exact cok_same h rfl rfl rfl rfl
theorem cok_Put' {c : ChanR} {n : Nat} (h : COk c n) : COk (r27_Put c).1 n := by
  simp only [r27_Put, Bool.cond_eq_ite]; split <;> exact cok_same h rfl rfl rfl rfl
theorem cok_Draft {c : ChanR} {n : Nat} (h : COk c n) : COk (chans_Chan_Draft c).1 n := by
  simp only [chans_Chan_Draft, Bool.cond_eq_ite]; split <;> exact cok_same h rfl rfl rfl rfl
theorem sets_len0 (c : ChanR) (i w : Int) (u : Bool) : ∀ (l : List LentR) (out : List DeedR), (chans_Chan_Settles_l0 c i w u l out).1.length ≤ out.length + l.length
  | [], out => by simp [chans_Chan_Settles_l0]
  | x :: l, out => by
    simp only [chans_Chan_Settles_l0, Bool.cond_eq_ite, List.length_cons]
    repeat' split
    all_goals first
      | (have := sets_len0 c i w u l out; omega)
      | (simp; done)
      | (simp; omega)
      | (refine Nat.le_trans (sets_len0 c i w u l _) ?_; simp; omega)
theorem sets_len (c : ChanR) (i w : Int) (u : Bool) : (chans_Chan_Settles c i w u).1.length ≤ c.lent.length := by
  simp only [chans_Chan_Settles, Bool.cond_eq_ite]
  split
  · simp
  · have := sets_len0 c i w u c.lent []; simpa using this
theorem held_len (c : ChanR) (t : Int) : (chans_Chan_Held c t).1.length ≤ c.held.l.length := by
  simp only [chans_Chan_Held, lt, Bool.cond_eq_ite]
  split
  · simp
  · rw [at_len]; exact Nat.le_refl _
theorem tks_len (c : ChanR) : (chans_Chan_Takers c).length = c.takers.length := rfl
theorem uns_len (c : ChanR) : (chans_Chan_Unsettled c).length = c.lent.length := rfl
theorem credit_ok (c : ChanR) (n : Int) : (chans_Chan_Credit c n).2 = 0 → 0 ≤ IntKind.wrap .i64 n ∧ IntKind.wrap .i64 n ≤ 16 ∧ 1 ≤ n ∧ n ≤ 16 := by
  simp only [chans_Chan_Credit, Bool.cond_eq_ite]
  split
  · intro h; exact absurd (show (7 : Int) = 0 from h) (by decide)
  · rename_i e
    simp only [Bool.or_eq_true, decide_eq_true_eq, not_or] at e
    intro _
    rw [wrap16 (by omega) (by omega)]
    omega
end Go.SW.V
namespace Go.SW.V
open Go.SW
theorem dset (l : List DeedR) (n : Bs) (i : Int) : draft_Draft_Settles ⟨l⟩ n i = r26_Settles l n i := by
  unfold draft_Draft_Settles r26_Settles
  rw [Bool.eq_iff_iff, decide_eq_true_eq, idxP_any]
  induction l with
  | nil => simp [r26_Settles_l0]
  | cons d l ih =>
    simp only [List.any_cons, r26_Settles_l0, Bool.cond_eq_ite, draft_Settles1] at *
    split
    · rename_i h; simp [h]
    · rename_i h; simp only [Bool.eq_false_iff.2 h, Bool.false_or]; exact ih
theorem dchk (x : List DeedR) (d : DeedR) : draft_Draft_check ⟨x⟩ d = (bif ((!decide (d.kind = 6)) && (!decide (d.kind = 8))) then 8 else (bif !decide (deedE d = 0) then deedE d else (bif ((decide (d.kind = 8)) && (r26_Settles x d.name d.id)) then 9 else (bif decide (16 ≤ (x.length : Int)) then 12 else 0)))) := by
  unfold draft_Draft_check
  rw [← dset]
  cases h1 : decide (d.kind = 6) <;> cases h2 : decide (d.kind = 8) <;> simp [lp0]
theorem dadd0 (x : List DeedR) : ∀ (l y : List DeedR), draft_Draft_Add_l0 ⟨x⟩ l ⟨y⟩ = (⟨(r26_Add_l0 x l y).1⟩, (r26_Add_l0 x l y).2)
  | [], y => rfl
  | d :: l, y => by
    simp only [draft_Draft_Add_l0, r26_Add_l0, lt, dchk, Bool.cond_eq_ite]
    have hk : ([y, [draft_clone d]].flatten) = y ++ [d] := by simp [draft_clone]
    rw [hk, dadd0 x l (y ++ [d])]
    repeat' split
    all_goals first | rfl | (exfalso; simp_all; done) | (simp_all; done)
theorem dadd (x l : List DeedR) : draft_Draft_Add ⟨x⟩ l = (⟨(r26_Add x l).1⟩, (r26_Add x l).2) := dadd0 x l x
theorem dat0 (t : Int) : ∀ (l out : List DeedR), draft_Draft_At_l0 t l out = r26_At_l0 t l out
  | [], out => rfl
  | d :: l, out => by
    simp only [draft_Draft_At_l0, r26_At_l0, lt, draft_clone, dat0 t l]
    rfl
theorem dat (x : List DeedR) (t : Int) : draft_Draft_At ⟨x⟩ t = r26_At x t := dat0 t x []
end Go.SW.V
namespace Go.SW
structure ActR where
  dow : Int
  n : Int
  how : Int
  queue : Bs
  upto : Bool
  l : List DeedR
deriving DecidableEq, Inhabited
def ActR.pc (x : ActR) : List PV := [.int .u8 x.dow, .int .u64 x.n, .int .u64 x.how, .str x.queue, .bool x.upto, .sl DeedR.pc x.l]
end Go.SW
set_option linter.unusedVariables false
set_option maxRecDepth 100000
namespace Go.SW.V
open Go.SW
end Go.SW.V
set_option linter.unusedVariables false
set_option maxRecDepth 100000
namespace Go.SW.V
open Go.SW
def l27_Light_l0 : List ActR → Nat → Int → Bool
  | [], k, n => true
  | x :: t, k, n => (bif ((((decide (60 ≤ (k : Int))) || (decide (100 < (n + ((x.l).length : Int))))) || (decide (40 < ((x.queue).length : Int)))) || (!(l23_Light (x.l)))) then
 false
 else l27_Light_l0 t (k + 1) (n + ((x.l).length : Int)))
def l27_Light (l : List ActR) : Bool :=
 l27_Light_l0 l 0 0
def l27_settled (c : ChanR) (q : ChanR) (a : ActR) : ChanR × ChanR × Bool :=
 lt (chans_Chan_Settles c a.n a.how a.upto) fun r =>
 lt (r27_Settles q a.n a.how a.upto) fun r1 =>
 lt (l22_All r.1) fun r2 =>
 (bif ((!decide (r.2 = r1.2)) || (!(r22_SameAll r2.1 r1.1))) then
 (c, q, false)
 else (bif decide ((a.dow % 11) = 4) then
 lt (chans_Chan_Gone c r.1) fun r3 =>
 lt (r27_Gone q r1.1) fun r4 =>
 (r3, r4, true)
 else lt (chans_Chan_Hold c r.1) fun r5 =>
 lt (r27_Hold q r1.1) fun r6 =>
 (r5.1, r6.1, decide (r5.2 = r6.2))))
def l27_done (c : ChanR) (q : ChanR) (a : ActR) : ChanR × ChanR × Bool :=
 (bif decide ((a.dow % 11) = 0) then
 lt (chans_Chan_Credit c a.n) fun r =>
 lt (r27_Credit q a.n) fun r1 =>
 (r.1, r1.1, decide (r.2 = r1.2))
 else (bif decide ((a.dow % 11) = 1) then
 lt (chans_Chan_Take c a.n a.queue) fun r2 =>
 lt (r27_Take q a.n a.queue) fun r3 =>
 (r2.1, r3.1, decide (r2.2 = r3.2))
 else (bif decide ((a.dow % 11) = 2) then
 lt (chans_Chan_Leave c a.n) fun r4 =>
 lt (r27_Leave q a.n) fun r5 =>
 (r4.1, r5.1, decide (r4.2 = r5.2))
 else (bif decide ((a.dow % 11) = 3) then
 lt (chans_Chan_Lend c (⟨a.n, a.queue⟩ : LentR)) fun r6 =>
 lt (r27_Lend q (⟨a.n, a.queue⟩ : LentR)) fun r7 =>
 (r6, r7, decide (0 = 0))
 else (lt1 ((bif decide ((a.dow % 11) = 4) then
 (decide ((a.dow % 11) = 4))
 else (decide ((a.dow % 11) = 8)))) (fun v =>
 (bif v then
 lt (l27_settled c q a) fun r8 =>
 (r8.1, r8.2.1, r8.2.2)
 else (bif decide ((a.dow % 11) = 5) then
 lt (chans_Chan_Sure c) fun r9 =>
 lt (r27_Sure q) fun r10 =>
 (r9.1, r10.1, decide (r9.2 = r10.2))
 else (bif decide ((a.dow % 11) = 6) then
 lt (chans_Chan_Put c) fun r11 =>
 lt (r27_Put q) fun r12 =>
 (r11.1, r12.1, decide (r11.2 = r12.2))
 else (bif decide ((a.dow % 11) = 7) then
 lt (chans_Chan_Draft c) fun r13 =>
 lt (r27_Draft q) fun r14 =>
 (r13.1, r14.1, decide (r13.2 = r14.2))
 else (bif decide ((a.dow % 11) = 9) then
 lt (l22_All a.l) fun r15 =>
 lt (chans_Chan_Hold c a.l) fun r16 =>
 lt (r27_Hold q r15.1) fun r17 =>
 (r16.1, r17.1, decide (r16.2 = r17.2))
 else lt (chans_Chan_Undo c) fun r18 =>
 lt (r27_Undo q) fun r19 =>
 (r18.1, r19.1, decide (r18.2 = r19.2)))))))))))))
def l27_told_l1 (c : ChanR) (q : ChanR) (r : (List DeedR) × Int) (r1 : (List DeedR) × Int) (r2 : (List DeedR) × Bool) (takers : List TakerR) : List LentR → List LentR → Bool
  | [], lent => (((((((decide (r.2 = r1.2)) && (r22_SameAll r2.1 r1.1)) && (r27_SameTakers takers q.takers)) && (r27_SameLent lent q.lent)) && (decide ((chans_Chan_Room c) = (r27_Room q)))) && ((chans_Chan_Drafts c) == q.drafts)) && (decide ((chans_Chan_Number c) = q.puts)))
  | x :: t, lent => l27_told_l1 c q r r1 r2 takers t  (lent ++ [x])
def l27_told_l0 (c : ChanR) (q : ChanR) (r : (List DeedR) × Int) (r1 : (List DeedR) × Int) (r2 : (List DeedR) × Bool) : List TakerR → List TakerR → Bool
  | [], takers => lt (chans_Chan_Unsettled c) fun r4 =>
 l27_told_l1 c q r r1 r2 takers r4  []
  | x1 :: t1, takers => l27_told_l0 c q r r1 r2 t1  (takers ++ [x1])
def l27_told (c : ChanR) (q : ChanR) (tick : Int) : Bool :=
 lt (chans_Chan_Held c tick) fun r =>
 lt (r27_Held q tick) fun r1 =>
 lt (l22_All r.1) fun r2 =>
 lt (chans_Chan_Takers c) fun r3 =>
 l27_told_l0 c q r r1 r2 r3  []
end Go.SW.V
namespace Go.SW.V
open Go.SW
theorem l27_ok0 : ∀ (l : List ActR) (k : Nat) (n : Int), 0 ≤ n → n ≤ 100 → l27_Light_l0 l k n = true → (l = [] ∨ k + l.length ≤ 60) ∧ ∀ a ∈ l, l23_Light a.l = true ∧ a.queue.length ≤ 40
  | [], k, n, _, _, _ => ⟨.inl rfl, fun _ h => by simp at h⟩
  | x :: l, k, n, h0, h1, h => by
    simp only [l27_Light_l0, Bool.cond_eq_ite] at h
    split at h
    · cases h
    · rename_i e
      simp only [Bool.or_eq_true, decide_eq_true_eq, not_or, Bool.not_eq_true', Bool.not_eq_false] at e
      obtain ⟨⟨⟨e1, e2⟩, e3⟩, e4⟩ := e
      obtain ⟨i1, i2⟩ := l27_ok0 l (k + 1) _ (by omega) (by omega) h
      refine ⟨.inr ?_, fun a ha => ?_⟩
      · rcases i1 with rfl | i1
        · simp; omega
        · simp; omega
      · rcases List.mem_cons.1 ha with rfl | q
        · exact ⟨e4, by omega⟩
        · exact i2 a q
theorem l27_ok {l : List ActR} (h : l27_Light l = true) : l.length ≤ 60 ∧ ∀ a ∈ l, l23_Light a.l = true ∧ a.queue.length ≤ 40 := by
  obtain ⟨h1, h2⟩ := l27_ok0 l 0 0 (by omega) (by omega) h
  refine ⟨?_, h2⟩
  rcases h1 with rfl | h1
  · simp
  · omega
theorem l27_mem {l : List ActR} {a : ActR} (h : l27_Light l = true) (ha : a ∈ l) : a.l.length ≤ 40 := l23_len ((l27_ok h).2 a ha).1
theorem set_ok {c q : ChanR} {a : ActR} {n : Nat} (hc : COk c n) (hq : COk q n) : COk (l27_settled c q a).1 n ∧ COk (l27_settled c q a).2.1 n := by
  simp only [l27_settled, lt, Bool.cond_eq_ite]
  split
  · exact ⟨hc, hq⟩
  · split
    · exact ⟨cok_Gone _ hc, cok_Gone' _ hq⟩
    · refine ⟨cok_Hold _ hc, ?_⟩
      rw [show r27_Hold q (r27_Settles q a.n a.how a.upto).1 = chans_Chan_Hold q (r27_Settles q a.n a.how a.upto).1 from ?_]
      · exact cok_Hold _ hq
      · simp only [r27_Hold, chans_Chan_Hold, lt]
        rw [show draft_Draft_Add q.held (r27_Settles q a.n a.how a.upto).1 = _ from dadd q.held.l _]
theorem hold_eq (q : ChanR) (l : List DeedR) : r27_Hold q l = chans_Chan_Hold q l := by
  simp only [r27_Hold, chans_Chan_Hold, lt]
  rw [show draft_Draft_Add q.held l = _ from dadd q.held.l l]
theorem done_ok {c q : ChanR} {a : ActR} {n : Nat} (hc : COk c n) (hq : COk q n) (ha : 0 ≤ a.n) : COk (l27_done c q a).1 (n + 1) ∧ COk (l27_done c q a).2.1 (n + 1) := by
  have up : ∀ {d : ChanR}, COk d n → COk d (n + 1) := fun h => cok_le h (by omega)
  simp only [l27_done, lt, lt1, Bool.cond_eq_ite]
  repeat' split
  all_goals first
    | exact ⟨up (cok_Credit _ hc), up (cok_Credit' ha hq)⟩
    | exact ⟨up (cok_Take _ _ hc), up (cok_Take' _ _ hq)⟩
    | exact ⟨up (cok_Leave _ hc), up (cok_Leave' _ hq)⟩
    | exact ⟨cok_Lend _ hc, cok_Lend' _ hq⟩
    | exact ⟨up (set_ok hc hq).1, up (set_ok hc hq).2⟩
    | exact ⟨up (cok_Sure hc), up (cok_Sure hq)⟩
    | exact ⟨up (cok_Put hc), up (cok_Put' hq)⟩
    | exact ⟨up (cok_Draft hc), up (cok_Draft hq)⟩
    | exact ⟨up (cok_Undo hc), up (cok_Undo hq)⟩
    | (rw [hold_eq]; exact ⟨up (cok_Hold _ hc), up (cok_Hold _ hq)⟩)
end Go.SW.V
set_option linter.unusedVariables false
set_option maxRecDepth 100000
namespace Go.SW.V
open Go.SW
def l27_ChansPlay_l0 (tick : Int) : List ActR → ChanR → ChanR → Bool
  | [], x, x1 => true
  | x2 :: t, x, x1 => lt (l27_done x x1 x2) fun r2 =>
 (bif (((!r2.2.2) || (!(l27_told r2.1 r2.2.1 tick))) || (!(l27_told x x1 tick))) then
 false
 else l27_ChansPlay_l0 tick t  r2.1 r2.2.1)
def l27_ChansPlay (l : List ActR) (tick : Int) : Bool :=
 (bif !(l27_Light l) then
 true
 else lt (chans_New) fun r =>
 lt (r27_New) fun r1 =>
 l27_ChansPlay_l0 tick l  r r1)
end Go.SW.V
namespace Go.Proofs
open Go.Shelf
def Tryz.lays146_ren : Go.Shelf.Ren := ⟨fun | 146 => 170 | 221 => 174 | 268 => 177 | 138 => 178 | 143 => 179 | 195 => 181 | 197 => 182 | 218 => 183 | 219 => 184 | 260 => 186 | 217 => 187 | 225 => 188 | 224 => 189 | 267 => 190 | 266 => 191 | 314 => 192 | n => n, fun | 9 => 9 | 31 => 146 | 3 => 3 | 4 => 4 | 0 => 0 | 105 => 237 | 21 => 21 | 5 => 5 | 46 => 236 | 119 => 242 | 139 => 245 | 138 => 244 | 146 => 247 | 51 => 246 | n => n, fun | 1 => 0 | 3 => 1 | 4 => 2 | n => n⟩
theorem Tryz.lays146 : Go.Proofs.Lays.n146 Tryz.prog Tryz.lays146_ren := {
  mixed := by kernel_rfl
  f138 := Tryz.func178.trans (congrArg some (by kernel_rfl))
  f143 := Tryz.func179.trans (congrArg some (by kernel_rfl))
  f146 := Tryz.func170.trans (congrArg some (by kernel_rfl))
  f195 := Tryz.func181.trans (congrArg some (by kernel_rfl))
  f197 := Tryz.func182.trans (congrArg some (by kernel_rfl))
  f217 := Tryz.func187.trans (congrArg some (by kernel_rfl))
  f218 := Tryz.func183.trans (congrArg some (by kernel_rfl))
  f219 := Tryz.func184.trans (congrArg some (by kernel_rfl))
  f221 := Tryz.func174.trans (congrArg some (by kernel_rfl))
  f224 := Tryz.func189.trans (congrArg some (by kernel_rfl))
  f225 := Tryz.func188.trans (congrArg some (by kernel_rfl))
  f260 := Tryz.func186.trans (congrArg some (by kernel_rfl))
  f266 := Tryz.func191.trans (congrArg some (by kernel_rfl))
  f267 := Tryz.func190.trans (congrArg some (by kernel_rfl))
  f268 := Tryz.func177.trans (congrArg some (by kernel_rfl))
  f314 := Tryz.func192.trans (congrArg some (by kernel_rfl))
  t0 := Tryz.underlying0
  a0 := Tryz.isAgg0
  z0 := Tryz.sizeOf0
  v0 := Tryz.zeroValue0
  t3 := Tryz.underlying3
  a3 := Tryz.isAgg3
  z3 := Tryz.sizeOf3
  v3 := Tryz.zeroValue3
  t4 := Tryz.underlying4
  a4 := Tryz.isAgg4
  z4 := Tryz.sizeOf4
  v4 := Tryz.zeroValue4
  t5 := Tryz.underlying5
  a5 := Tryz.isAgg5
  z5 := Tryz.sizeOf5
  v5 := Tryz.zeroValue5
  t9 := Tryz.underlying9
  a9 := Tryz.isAgg9
  z9 := Tryz.sizeOf9
  v9 := Tryz.zeroValue9
  t21 := Tryz.underlying21
  a21 := Tryz.isAgg21
  z21 := Tryz.sizeOf21
  v21 := Tryz.zeroValue21
  t31 := Tryz.underlying146
  a31 := Tryz.isAgg146
  z31 := Tryz.sizeOf146
  v31 := Tryz.zeroValue146
  t46 := Tryz.underlying236
  a46 := Tryz.isAgg236
  z46 := Tryz.sizeOf236
  v46 := Tryz.zeroValue236
  t51 := Tryz.underlying246
  a51 := Tryz.isAgg246
  z51 := Tryz.sizeOf246
  v51 := Tryz.zeroValue246
  t105 := Tryz.underlying237
  a105 := Tryz.isAgg237
  z105 := Tryz.sizeOf237
  v105 := Tryz.zeroValue237
  t119 := Tryz.underlying242
  a119 := Tryz.isAgg242
  z119 := Tryz.sizeOf242
  t138 := Tryz.underlying244
  a138 := Tryz.isAgg244
  z138 := Tryz.sizeOf244
  v138 := Tryz.zeroValue244
  t139 := Tryz.underlying245
  a139 := Tryz.isAgg245
  z139 := Tryz.sizeOf245
  v139 := Tryz.zeroValue245
  t146 := Tryz.underlying247
  a146 := Tryz.isAgg247
  z146 := Tryz.sizeOf247
  v146 := Tryz.zeroValue247
  g1 := by kernel_rfl
  g3 := by kernel_rfl
  g4 := by kernel_rfl }
open Go.RowKit Go.Lib in
theorem Tryz.strings_Split (s sep : ByteArray) (m : Int) (w : World) (hs : s.size < 4294967281) (hm : w.cell? ⟨0, 0, none⟩ = some (.int .i64 m)) (h1 : 1 ≤ sep.size) :
    Calls Tryz.prog 170 #[.string s, .string sep] w fun e w' =>
      e = .returned (.slice (some ⟨w.heap.size, 0, none⟩) (Lib.countB s sep + 1) (Lib.countB s sep + 1)) ∧ w' = w.alloc (.cells ((Lib.splitB sep 0 (Lib.countB s sep) s).map Value.string).toArray 9) := Any.strings_Split Tryz.lays146 (by kernel_rfl) s sep m w hs hm h1
end Go.Proofs
namespace Go.SW
open Go.Proofs
theorem strings_Split (H : Hp) (s p : Bs) (hp : p = [46]) (hML : GInt H 0) (hs : s.length < 4294967281) : Ph Tryz.prog 170 #[str s, str p] H (fun v H' => ∃ (a : Option Addr) (c : Nat), v = .slice a (dots s).length c ∧ SlH strE 1 H' (.slice a (dots s).length c) (dots s)) := by
  subst hp
  refine ph_strs (T := 9) (fun w hw => by have := dots_piece s w hw; omega) fun N L w hm => ?_
  obtain ⟨m, hc⟩ := hML.cell hm
  refine (Tryz.strings_Split ⟨s.toArray⟩ ⟨#[46]⟩ m w (by simpa [ba_size] using hs) hc (by decide)).mono fun e w' ⟨he, hw⟩ => ⟨?_, ?_⟩
  · rw [he, splitB_len]
  · rw [hw, splitB_dots]
end Go.SW
set_option linter.unusedVariables false
set_option maxRecDepth 100000
set_option maxHeartbeats 4000000
namespace Go.SW
open Go.Proofs
theorem ag181 : Ag Tryz.prog 181 false := fun w => by kernel_rfl
theorem ag31 : Ag Tryz.prog 31 false := fun w => by kernel_rfl
theorem ag9 : Ag Tryz.prog 9 false := fun w => by kernel_rfl
theorem bd234_0s (a1 : Bs) (w : World) : (Instr.build 234 #[(0, str a1)]).run Tryz.prog w = .ok (.agg #[str a1, .int .i64 0]) w := by kernel_rfl
theorem cb142 : Callable Tryz.prog 142 := callable_of Tryz.func142 (by kernel_rfl) (by kernel_rfl)
theorem cb185 : Callable Tryz.prog 185 := callable_of Tryz.func185 (by kernel_rfl) (by kernel_rfl)
theorem fl184_0 : Fld Tryz.prog 184 0 0 := fun b o w => by kernel_rfl
theorem fl234_0 : Fld Tryz.prog 234 0 0 := fun b o w => by kernel_rfl
theorem fl234_1 : Fld Tryz.prog 234 1 1 := fun b o w => by kernel_rfl
theorem la184_184 : liesAt Tryz.prog Tryz.prog.depth 184 (2 / Tryz.prog.cellsOf 184) 0 184 1 = true := by kernel_rfl
theorem ne160 : NoEsc Tryz.prog 160 := noEsc_of Tryz.func160 (by kernel_rfl) (by kernel_rfl) (by kernel_rfl) (by kernel_rfl)
theorem sz181 : Sz Tryz.prog 181 1 := fun w => by kernel_rfl
theorem sz31 : Sz Tryz.prog 31 1 := fun w => by kernel_rfl
theorem sz9 : Sz Tryz.prog 9 1 := fun w => by kernel_rfl
theorem ti184 : ∃ j, Tryz.prog.info? 184 = some j := Option.isSome_iff_exists.1 (by kernel_rfl)
theorem tz184 : ∃ j, Tryz.prog.info? 184 = some j ∧ j.size ≠ 0 := exInfo (by kernel_rfl)
theorem r4_letter (H : Hp) (c : Int) (c_r : 0 ≤ c ∧ c ≤ 255) : Pr Tryz.prog 92 #[.int .u8 c] H (.bool (letter c)) := by
  refine pr_cw Tryz.func92 rfl Tryz.ntmps92 rfl (fun N => ?_)
  refine cw_seq (cw_region (oab rfl rfl (ow_nil (seqK_n (cw_seq ?_)))))
  refine cw_region (omi rfl rfl (ol rfl (lo_geq rfl rfl) (omb rfl rfl (ow_sp (j := 2) rfl (fun h1 => ?_) (fun h1 => ?_)))))
  · have p2 := dt h1
    refine ow1 (op1_g rfl h1 rfl (lo_move (v := .int _ _) rfl) ?_)
    refine ow1 (op1_g rfl h1 rfl (lo_leq rfl rfl) ?_)
    refine ol rfl (lo_pick_t (v := .bool _) rfl h1 rfl) (omb rfl rfl (ow_sp (j := 6) rfl (fun h3 => ?_) (fun h3 => ?_)))
    · have p4 := dt h3
      refine og rfl h3 rfl (og rfl h3 rfl (og rfl h3 rfl ?_))
      refine ow1 (op1_gx (j := 9) rfl rfl ?_)
      refine ow1 (op1_gx (j := 9) rfl rfl ?_)
      refine og rfl h3 rfl (ol rfl (lo_pick_t (v := .bool _) rfl h3 rfl) (omb rfl rfl (og rfl rfl rfl (og rfl rfl rfl (ol rfl (lo_pick_t (v := .bool _) rfl rfl rfl) ?_)))))
      refine omb rfl rfl (og rfl rfl rfl (og rfl rfl rfl (ol rfl (lo_pick_t (v := .bool _) rfl rfl rfl) (oab rfl rfl (ow_nil ?_)))))
      refine seqK_n (cw_ret (fnK_r (res1 rfl (rv_t (v := .bool _) rfl)) (.refl _) ?_))
      simp [letter, *]
    have p5 := df h3
    refine ow1 (op1_g rfl h3 rfl (lo_move (v := .int _ _) rfl) ?_)
    refine ow1 (op1_g rfl h3 rfl (lo_geq rfl rfl) ?_)
    refine ow1 (op1_g rfl h3 rfl (lo_move (v := .bool _) rfl) ?_)
    refine ow_sp (j := 9) rfl (fun h6 => ?_) (fun h6 => ?_)
    · have p7 := dt h6
      refine ow1 (op1_g rfl h6 rfl (lo_move (v := .int _ _) rfl) ?_)
      refine ow1 (op1_g rfl h6 rfl (lo_leq rfl rfl) ?_)
      refine ow1 (op1_g rfl h3 rfl (lo_pick_t (v := .bool _) rfl h6 rfl) ?_)
      refine ol rfl (lo_pick_f (v := .bool _) rfl h3 rfl) (omb rfl rfl (ow_sp (j := 14) rfl (fun h8 => ?_) (fun h8 => ?_)))
      · have p9 := dt h8
        refine og rfl h8 rfl (og rfl h8 rfl (ol rfl (lo_pick_t (v := .bool _) rfl h8 rfl) (omb rfl rfl (og rfl rfl rfl (og rfl rfl rfl ?_)))))
        refine ol rfl (lo_pick_t (v := .bool _) rfl rfl rfl) (oab rfl rfl (ow_nil (seqK_n (cw_ret (fnK_r (res1 rfl (rv_t (v := .bool _) rfl)) (.refl _) ?_)))))
        simp [letter, *]
      have p10 := df h8
      refine ow1 (op1_g rfl h8 rfl (lo_move (v := .int _ _) rfl) ?_)
      refine ow1 (op1_g rfl h8 rfl (lo_eql rfl rfl) ?_)
      refine ol rfl (lo_pick_f (v := .bool _) rfl h8 rfl) (omb rfl rfl (ow_sp (j := 18) rfl (fun h11 => ?_) (fun h11 => ?_)))
      · have p12 := dt h11
        refine og rfl h11 rfl (og rfl h11 rfl (ol rfl (lo_pick_t (v := .bool _) rfl h11 rfl) (oab rfl rfl (ow_nil (seqK_n ?_)))))
        refine cw_ret (fnK_r (res1 rfl (rv_t (v := .bool _) rfl)) (.refl _) ?_)
        simp [letter, *]
      have p13 := df h11
      refine ow1 (op1_g rfl h11 rfl (lo_move (v := .int _ _) rfl) ?_)
      refine ow1 (op1_g rfl h11 rfl (lo_eql rfl rfl) ?_)
      refine ol rfl (lo_pick_f (v := .bool _) rfl h11 rfl) (oab rfl rfl (ow_nil (seqK_n (cw_ret (fnK_r (res1 rfl (rv_t (v := .bool _) rfl)) (.refl _) ?_)))))
      simp [letter, *]
    have p14 := df h6
    refine og rfl h6 rfl (og rfl h6 rfl ?_)
    refine ow1 (op1_g rfl h3 rfl (lo_pick_f (v := .bool _) rfl h6 rfl) ?_)
    refine ol rfl (lo_pick_f (v := .bool _) rfl h3 rfl) (omb rfl rfl ?_)
    refine ow1 (op1_g rfl rfl rfl (lo_move (v := .int _ _) rfl) ?_)
    refine ow1 (op1_g rfl rfl rfl (lo_eql rfl rfl) ?_)
    refine ol rfl (lo_pick_f (v := .bool _) rfl rfl rfl) (omb rfl rfl (ow_sp (j := 18) rfl (fun h15 => ?_) (fun h15 => ?_)))
    · have p16 := dt h15
      refine og rfl h15 rfl (og rfl h15 rfl (ol rfl (lo_pick_t (v := .bool _) rfl h15 rfl) (oab rfl rfl (ow_nil (seqK_n ?_)))))
      refine cw_ret (fnK_r (res1 rfl (rv_t (v := .bool _) rfl)) (.refl _) ?_)
      simp [letter, *]
    have p17 := df h15
    refine ow1 (op1_g rfl h15 rfl (lo_move (v := .int _ _) rfl) ?_)
    refine ow1 (op1_g rfl h15 rfl (lo_eql rfl rfl) ?_)
    refine ol rfl (lo_pick_f (v := .bool _) rfl h15 rfl) (oab rfl rfl (ow_nil (seqK_n (cw_ret (fnK_r (res1 rfl (rv_t (v := .bool _) rfl)) (.refl _) ?_)))))
    simp [letter, *]
  have p18 := df h1
  refine og rfl h1 rfl (og rfl h1 rfl (ol rfl (lo_pick_f (v := .bool _) rfl h1 rfl) (omb rfl rfl ?_)))
  refine ow1 (op1_g rfl rfl rfl (lo_move (v := .int _ _) rfl) ?_)
  refine ow1 (op1_g rfl rfl rfl (lo_geq rfl rfl) ?_)
  refine ow1 (op1_g rfl rfl rfl (lo_move (v := .bool _) rfl) ?_)
  refine ow_sp (j := 9) rfl (fun h19 => ?_) (fun h19 => ?_)
  · have p20 := dt h19
    refine ow1 (op1_g rfl h19 rfl (lo_move (v := .int _ _) rfl) ?_)
    refine ow1 (op1_g rfl h19 rfl (lo_leq rfl rfl) ?_)
    refine ow1 (op1_g rfl rfl rfl (lo_pick_t (v := .bool _) rfl h19 rfl) ?_)
    refine ol rfl (lo_pick_f (v := .bool _) rfl rfl rfl) (omb rfl rfl (ow_sp (j := 14) rfl (fun h21 => ?_) (fun h21 => ?_)))
    · have p22 := dt h21
      refine og rfl h21 rfl (og rfl h21 rfl (ol rfl (lo_pick_t (v := .bool _) rfl h21 rfl) (omb rfl rfl (og rfl rfl rfl (og rfl rfl rfl ?_)))))
      refine ol rfl (lo_pick_t (v := .bool _) rfl rfl rfl) (oab rfl rfl (ow_nil (seqK_n (cw_ret (fnK_r (res1 rfl (rv_t (v := .bool _) rfl)) (.refl _) ?_)))))
      simp [letter, *]
    have p23 := df h21
    refine ow1 (op1_g rfl h21 rfl (lo_move (v := .int _ _) rfl) ?_)
    refine ow1 (op1_g rfl h21 rfl (lo_eql rfl rfl) ?_)
    refine ol rfl (lo_pick_f (v := .bool _) rfl h21 rfl) (omb rfl rfl (ow_sp (j := 18) rfl (fun h24 => ?_) (fun h24 => ?_)))
    · have p25 := dt h24
      refine og rfl h24 rfl (og rfl h24 rfl (ol rfl (lo_pick_t (v := .bool _) rfl h24 rfl) (oab rfl rfl (ow_nil (seqK_n ?_)))))
      refine cw_ret (fnK_r (res1 rfl (rv_t (v := .bool _) rfl)) (.refl _) ?_)
      simp [letter, *]
    have p26 := df h24
    refine ow1 (op1_g rfl h24 rfl (lo_move (v := .int _ _) rfl) ?_)
    refine ow1 (op1_g rfl h24 rfl (lo_eql rfl rfl) ?_)
    refine ol rfl (lo_pick_f (v := .bool _) rfl h24 rfl) (oab rfl rfl (ow_nil (seqK_n (cw_ret (fnK_r (res1 rfl (rv_t (v := .bool _) rfl)) (.refl _) ?_)))))
    simp [letter, *]
  have p27 := df h19
  refine og rfl h19 rfl (og rfl h19 rfl ?_)
  refine ow1 (op1_g rfl rfl rfl (lo_pick_f (v := .bool _) rfl h19 rfl) ?_)
  refine ol rfl (lo_pick_f (v := .bool _) rfl rfl rfl) (omb rfl rfl ?_)
  refine ow1 (op1_g rfl rfl rfl (lo_move (v := .int _ _) rfl) ?_)
  refine ow1 (op1_g rfl rfl rfl (lo_eql rfl rfl) ?_)
  refine ol rfl (lo_pick_f (v := .bool _) rfl rfl rfl) (omb rfl rfl (ow_sp (j := 18) rfl (fun h28 => ?_) (fun h28 => ?_)))
  · have p29 := dt h28
    refine og rfl h28 rfl (og rfl h28 rfl (ol rfl (lo_pick_t (v := .bool _) rfl h28 rfl) (oab rfl rfl (ow_nil (seqK_n ?_)))))
    refine cw_ret (fnK_r (res1 rfl (rv_t (v := .bool _) rfl)) (.refl _) ?_)
    simp [letter, *]
  have p30 := df h28
  refine ow1 (op1_g rfl h28 rfl (lo_move (v := .int _ _) rfl) ?_)
  refine ow1 (op1_g rfl h28 rfl (lo_eql rfl rfl) ?_)
  refine ol rfl (lo_pick_f (v := .bool _) rfl h28 rfl) (oab rfl rfl (ow_nil (seqK_n (cw_ret (fnK_r (res1 rfl (rv_t (v := .bool _) rfl)) (.refl _) ?_)))))
  simp [letter, *]
theorem words_plain (H : Hp) (s : Bs) (hs : s.length ≤ 9223372036854775807) : Pr Tryz.prog 127 #[str s] H (.bool (plain s)) := by
  refine pr_cw Tryz.func127 rfl Tryz.ntmps127 rfl (fun N => ?_)
  refine cw_seq (cw_region (oab rfl rfl (ow_nil (seqK_n (cw_seq ?_)))))
  refine cw_seq (cw_region (ol rfl (lo_move (v := str _) rfl) (ol rfl (lo_len_str rfl Tryz.underlying9) (omi rfl rfl (ow_nil ?_)))))
  refine seqK_n (cw_block (cw_loop1 [2, 3, 4, 7, 8, 9, 10, 11, 12, 13, 14, 15, 16, 17, 18, 19, 20, 21, 22, 23, 24, 25, 26, 27, 28, 29, 30] [] (fun (k : Nat) G => upd (G) 7 (.int .i64 (k : Int))) (fun (k : Nat) G => G) (fun (k : Nat) H' => k ≤ s.length ∧ (s.drop k).all (fun c => letter c.toNat) = plain s) (fun (k : Nat) => s.length - k) 0 (upd_intro (mask_intro (by first | exact off_refl | (repeat (first | exact off_mask | refine off_upd rfl ?_ | refine off_mask2 rfl ?_)))) rfl) (lmask_intro offl_refl) ?_ ?_))
  · exact ⟨by omega, rfl⟩
  intro k J2 JL2 H2 hp1 hl2
  obtain ⟨hk1, hk2⟩ := hp1
  refine cw_seq (cw_region (ol rfl (lo_lss rfl rfl) (ow_nil (seqK_n (cw_seq ?_)))))
  refine cw_cond rfl (fun h3 => ?_) (fun h3 => ?_)
  · have p4 := dt h3
    refine cw_skip (seqK_n (cw_seq (cw_block (cw_seq (cw_region ?_)))))
    refine omi rfl rfl (oai rfl rfl (ow_nil (seqK_n (cw_seq (cw_region ?_)))))
    refine ol rfl (lo_move (v := str _) rfl) (omi rfl rfl ?_)
    have := u8r (s.getD k 0)
    refine ol rfl (lo_index_str k rfl rfl Tryz.underlying9 (by omega) (by omega)) (oai rfl rfl (ow_nil (seqK_n (cw_block (cw_seq ?_)))))
    refine cw_seq (cw_region (omi rfl rfl (ol rfl (lo_geq rfl rfl) (omb rfl rfl (ow_sp (j := 2) rfl (fun h5 => ?_) (fun h5 => ?_))))))
    · have p6 := dt h5
      refine ow1 (op1_g rfl h5 rfl (lo_move (v := .int _ _) rfl) ?_)
      refine ow1 (op1_g rfl h5 rfl (lo_leq rfl rfl) ?_)
      refine ol rfl (lo_pick_t (v := .bool _) rfl h5 rfl) (oab rfl rfl (ow_nil (seqK_n (cw_cond rfl (fun h7 => ?_) (fun h7 => ?_)))))
      · have p8 := dt h7
        refine cw_skip (seqK_n (cw_cond_t rfl h7 (cw_skip (blkK_n (blkK_n ?_)))))
        refine seqK_n (cw_region (ol rfl (lo_add rfl rfl (rg_i64 (by omega))) (omi rfl rfl (ow_nil ?_))))
        refine next1 (k + 1) (upd_intro (mask_intro (by first | exact off_refl | (repeat (first | exact off_mask | refine off_upd rfl ?_ | refine off_mask2 rfl ?_)))) rfl) (lmask_intro (by first | exact offl_refl | (repeat (first | exact offl_mask | refine offl_upd rfl ?_ | refine offl_mask2 rfl ?_)))) hl2 ?_ ?_
        · exact ⟨by omega, by rw [← hk2, drop_getD (k := k) (by omega), List.all_cons]; generalize ((s.getD k 0).toNat : Int) = z at *; simp [letter, *]⟩
        omega
      have p9 := df h7
      refine cw_seq (cw_region (omi rfl rfl (ol rfl (lo_geq rfl rfl) (omb rfl rfl (ow_sp (j := 2) rfl (fun h10 => ?_) (fun h10 => ?_))))))
      · have p11 := dt h10
        refine ow1 (op1_g rfl h10 rfl (lo_move (v := .int _ _) rfl) ?_)
        refine ow1 (op1_g rfl h10 rfl (lo_leq rfl rfl) ?_)
        refine ol rfl (lo_pick_t (v := .bool _) rfl h10 rfl) (oab rfl rfl (ow_nil (seqK_n (cw_cond rfl (fun h12 => ?_) (fun h12 => ?_)))))
        · have p13 := dt h12
          refine cw_skip (seqK_n (cw_cond_t rfl h12 (cw_skip (blkK_n (blkK_n ?_)))))
          refine seqK_n (cw_region (ol rfl (lo_add rfl rfl (rg_i64 (by omega))) (omi rfl rfl (ow_nil ?_))))
          refine next1 (k + 1) (upd_intro (mask_intro (by first | exact off_refl | (repeat (first | exact off_mask | refine off_upd rfl ?_ | refine off_mask2 rfl ?_)))) rfl) (lmask_intro (by first | exact offl_refl | (repeat (first | exact offl_mask | refine offl_upd rfl ?_ | refine offl_mask2 rfl ?_)))) hl2 ?_ ?_
          · exact ⟨by omega, by rw [← hk2, drop_getD (k := k) (by omega), List.all_cons]; generalize ((s.getD k 0).toNat : Int) = z at *; simp [letter, *]⟩
          omega
        have p14 := df h12
        refine cw_seq (cw_region (omi rfl rfl (ol rfl (lo_eql rfl rfl) (oab rfl rfl (ow_nil ?_)))))
        refine seqK_n (cw_cond rfl (fun h15 => ?_) (fun h15 => ?_))
        · have p16 := dt h15
          refine cw_skip (seqK_n (cw_cond_t rfl h15 (cw_skip (blkK_n (blkK_n ?_)))))
          refine seqK_n (cw_region (ol rfl (lo_add rfl rfl (rg_i64 (by omega))) (omi rfl rfl (ow_nil ?_))))
          refine next1 (k + 1) (upd_intro (mask_intro (by first | exact off_refl | (repeat (first | exact off_mask | refine off_upd rfl ?_ | refine off_mask2 rfl ?_)))) rfl) (lmask_intro (by first | exact offl_refl | (repeat (first | exact offl_mask | refine offl_upd rfl ?_ | refine offl_mask2 rfl ?_)))) hl2 ?_ ?_
          · exact ⟨by omega, by rw [← hk2, drop_getD (k := k) (by omega), List.all_cons]; generalize ((s.getD k 0).toNat : Int) = z at *; simp [letter, *]⟩
          omega
        have p17 := df h15
        refine cw_region (omi rfl rfl (ol rfl (lo_eql rfl rfl) (oab rfl rfl (ow_nil (seqK_n ?_)))))
        refine cw_cond rfl (fun h18 => ?_) (fun h18 => ?_)
        · have p19 := dt h18
          refine cw_skip (blkK_n (blkK_n (seqK_n (cw_region (ol rfl (lo_add rfl rfl (rg_i64 (by omega))) ?_)))))
          refine omi rfl rfl (ow_nil ?_)
          refine next1 (k + 1) (upd_intro (mask_intro (by first | exact off_refl | (repeat (first | exact off_mask | refine off_upd rfl ?_ | refine off_mask2 rfl ?_)))) rfl) (lmask_intro (by first | exact offl_refl | (repeat (first | exact offl_mask | refine offl_upd rfl ?_ | refine offl_mask2 rfl ?_)))) hl2 ?_ ?_
          · exact ⟨by omega, by rw [← hk2, drop_getD (k := k) (by omega), List.all_cons]; generalize ((s.getD k 0).toNat : Int) = z at *; simp [letter, *]⟩
          omega
        have p20 := df h18
        refine cw_seq (cw_region (oab rfl rfl (ow_nil (seqK_n (cw_ret ?_)))))
        refine blkK_r (blkK_r (seqK_r (loopK_r (blkK_r (seqK_r ?_)))))
        refine fnK_r (res1 rfl (rv_t (v := .bool _) rfl)) ((HLe.refl _).trans hl2) ?_
        first | (rw [← hk2, drop_getD (k := k) (by omega), List.all_cons]; generalize ((s.getD k 0).toNat : Int) = z at *; simp [letter, *]; done) | (rw [← hk2, List.drop_of_length_le (by omega)]; rfl)
      have p21 := df h10
      refine og rfl h10 rfl (og rfl h10 rfl (ol rfl (lo_pick_f (v := .bool _) rfl h10 rfl) (oab rfl rfl (ow_nil (seqK_n ?_)))))
      refine cw_cond_f rfl rfl (cw_seq (cw_region (omi rfl rfl (ol rfl (lo_eql rfl rfl) (oab rfl rfl ?_)))))
      refine ow_nil (seqK_n (cw_cond rfl (fun h22 => ?_) (fun h22 => ?_)))
      · have p23 := dt h22
        refine cw_skip (seqK_n (cw_cond_t rfl h22 (cw_skip (blkK_n (blkK_n ?_)))))
        refine seqK_n (cw_region (ol rfl (lo_add rfl rfl (rg_i64 (by omega))) (omi rfl rfl (ow_nil ?_))))
        refine next1 (k + 1) (upd_intro (mask_intro (by first | exact off_refl | (repeat (first | exact off_mask | refine off_upd rfl ?_ | refine off_mask2 rfl ?_)))) rfl) (lmask_intro (by first | exact offl_refl | (repeat (first | exact offl_mask | refine offl_upd rfl ?_ | refine offl_mask2 rfl ?_)))) hl2 ?_ ?_
        · exact ⟨by omega, by rw [← hk2, drop_getD (k := k) (by omega), List.all_cons]; generalize ((s.getD k 0).toNat : Int) = z at *; simp [letter, *]⟩
        omega
      have p24 := df h22
      refine cw_region (omi rfl rfl (ol rfl (lo_eql rfl rfl) (oab rfl rfl (ow_nil (seqK_n ?_)))))
      refine cw_cond rfl (fun h25 => ?_) (fun h25 => ?_)
      · have p26 := dt h25
        refine cw_skip (blkK_n (blkK_n (seqK_n (cw_region (ol rfl (lo_add rfl rfl (rg_i64 (by omega))) ?_)))))
        refine omi rfl rfl (ow_nil ?_)
        refine next1 (k + 1) (upd_intro (mask_intro (by first | exact off_refl | (repeat (first | exact off_mask | refine off_upd rfl ?_ | refine off_mask2 rfl ?_)))) rfl) (lmask_intro (by first | exact offl_refl | (repeat (first | exact offl_mask | refine offl_upd rfl ?_ | refine offl_mask2 rfl ?_)))) hl2 ?_ ?_
        · exact ⟨by omega, by rw [← hk2, drop_getD (k := k) (by omega), List.all_cons]; generalize ((s.getD k 0).toNat : Int) = z at *; simp [letter, *]⟩
        omega
      have p27 := df h25
      refine cw_seq (cw_region (oab rfl rfl (ow_nil (seqK_n (cw_ret ?_)))))
      refine blkK_r (blkK_r (seqK_r (loopK_r (blkK_r (seqK_r ?_)))))
      refine fnK_r (res1 rfl (rv_t (v := .bool _) rfl)) ((HLe.refl _).trans hl2) ?_
      first | (rw [← hk2, drop_getD (k := k) (by omega), List.all_cons]; generalize ((s.getD k 0).toNat : Int) = z at *; simp [letter, *]; done) | (rw [← hk2, List.drop_of_length_le (by omega)]; rfl)
    have p28 := df h5
    refine og rfl h5 rfl (og rfl h5 rfl (ol rfl (lo_pick_f (v := .bool _) rfl h5 rfl) (oab rfl rfl (ow_nil (seqK_n ?_)))))
    refine cw_cond_f rfl rfl (cw_seq (cw_region (omi rfl rfl (ol rfl (lo_geq rfl rfl) (omb rfl rfl ?_)))))
    refine ow_sp (j := 2) rfl (fun h29 => ?_) (fun h29 => ?_)
    · have p30 := dt h29
      refine ow1 (op1_g rfl h29 rfl (lo_move (v := .int _ _) rfl) ?_)
      refine ow1 (op1_g rfl h29 rfl (lo_leq rfl rfl) ?_)
      refine ol rfl (lo_pick_t (v := .bool _) rfl h29 rfl) (oab rfl rfl (ow_nil (seqK_n (cw_cond rfl (fun h31 => ?_) (fun h31 => ?_)))))
      · have p32 := dt h31
        refine cw_skip (seqK_n (cw_cond_t rfl h31 (cw_skip (blkK_n (blkK_n ?_)))))
        refine seqK_n (cw_region (ol rfl (lo_add rfl rfl (rg_i64 (by omega))) (omi rfl rfl (ow_nil ?_))))
        refine next1 (k + 1) (upd_intro (mask_intro (by first | exact off_refl | (repeat (first | exact off_mask | refine off_upd rfl ?_ | refine off_mask2 rfl ?_)))) rfl) (lmask_intro (by first | exact offl_refl | (repeat (first | exact offl_mask | refine offl_upd rfl ?_ | refine offl_mask2 rfl ?_)))) hl2 ?_ ?_
        · exact ⟨by omega, by rw [← hk2, drop_getD (k := k) (by omega), List.all_cons]; generalize ((s.getD k 0).toNat : Int) = z at *; simp [letter, *]⟩
        omega
      have p33 := df h31
      refine cw_seq (cw_region (omi rfl rfl (ol rfl (lo_eql rfl rfl) (oab rfl rfl (ow_nil ?_)))))
      refine seqK_n (cw_cond rfl (fun h34 => ?_) (fun h34 => ?_))
      · have p35 := dt h34
        refine cw_skip (seqK_n (cw_cond_t rfl h34 (cw_skip (blkK_n (blkK_n ?_)))))
        refine seqK_n (cw_region (ol rfl (lo_add rfl rfl (rg_i64 (by omega))) (omi rfl rfl (ow_nil ?_))))
        refine next1 (k + 1) (upd_intro (mask_intro (by first | exact off_refl | (repeat (first | exact off_mask | refine off_upd rfl ?_ | refine off_mask2 rfl ?_)))) rfl) (lmask_intro (by first | exact offl_refl | (repeat (first | exact offl_mask | refine offl_upd rfl ?_ | refine offl_mask2 rfl ?_)))) hl2 ?_ ?_
        · exact ⟨by omega, by rw [← hk2, drop_getD (k := k) (by omega), List.all_cons]; generalize ((s.getD k 0).toNat : Int) = z at *; simp [letter, *]⟩
        omega
      have p36 := df h34
      refine cw_region (omi rfl rfl (ol rfl (lo_eql rfl rfl) (oab rfl rfl (ow_nil (seqK_n ?_)))))
      refine cw_cond rfl (fun h37 => ?_) (fun h37 => ?_)
      · have p38 := dt h37
        refine cw_skip (blkK_n (blkK_n (seqK_n (cw_region (ol rfl (lo_add rfl rfl (rg_i64 (by omega))) ?_)))))
        refine omi rfl rfl (ow_nil ?_)
        refine next1 (k + 1) (upd_intro (mask_intro (by first | exact off_refl | (repeat (first | exact off_mask | refine off_upd rfl ?_ | refine off_mask2 rfl ?_)))) rfl) (lmask_intro (by first | exact offl_refl | (repeat (first | exact offl_mask | refine offl_upd rfl ?_ | refine offl_mask2 rfl ?_)))) hl2 ?_ ?_
        · exact ⟨by omega, by rw [← hk2, drop_getD (k := k) (by omega), List.all_cons]; generalize ((s.getD k 0).toNat : Int) = z at *; simp [letter, *]⟩
        omega
      have p39 := df h37
      refine cw_seq (cw_region (oab rfl rfl (ow_nil (seqK_n (cw_ret ?_)))))
      refine blkK_r (blkK_r (seqK_r (loopK_r (blkK_r (seqK_r ?_)))))
      refine fnK_r (res1 rfl (rv_t (v := .bool _) rfl)) ((HLe.refl _).trans hl2) ?_
      first | (rw [← hk2, drop_getD (k := k) (by omega), List.all_cons]; generalize ((s.getD k 0).toNat : Int) = z at *; simp [letter, *]; done) | (rw [← hk2, List.drop_of_length_le (by omega)]; rfl)
    have p40 := df h29
    refine og rfl h29 rfl (og rfl h29 rfl (ol rfl (lo_pick_f (v := .bool _) rfl h29 rfl) (oab rfl rfl (ow_nil (seqK_n ?_)))))
    refine cw_cond_f rfl rfl (cw_seq (cw_region (omi rfl rfl (ol rfl (lo_eql rfl rfl) (oab rfl rfl ?_)))))
    refine ow_nil (seqK_n (cw_cond rfl (fun h41 => ?_) (fun h41 => ?_)))
    · have p42 := dt h41
      refine cw_skip (seqK_n (cw_cond_t rfl h41 (cw_skip (blkK_n (blkK_n ?_)))))
      refine seqK_n (cw_region (ol rfl (lo_add rfl rfl (rg_i64 (by omega))) (omi rfl rfl (ow_nil ?_))))
      refine next1 (k + 1) (upd_intro (mask_intro (by first | exact off_refl | (repeat (first | exact off_mask | refine off_upd rfl ?_ | refine off_mask2 rfl ?_)))) rfl) (lmask_intro (by first | exact offl_refl | (repeat (first | exact offl_mask | refine offl_upd rfl ?_ | refine offl_mask2 rfl ?_)))) hl2 ?_ ?_
      · exact ⟨by omega, by rw [← hk2, drop_getD (k := k) (by omega), List.all_cons]; generalize ((s.getD k 0).toNat : Int) = z at *; simp [letter, *]⟩
      omega
    have p43 := df h41
    refine cw_region (omi rfl rfl (ol rfl (lo_eql rfl rfl) (oab rfl rfl (ow_nil (seqK_n ?_)))))
    refine cw_cond rfl (fun h44 => ?_) (fun h44 => ?_)
    · have p45 := dt h44
      refine cw_skip (blkK_n (blkK_n (seqK_n (cw_region (ol rfl (lo_add rfl rfl (rg_i64 (by omega))) ?_)))))
      refine omi rfl rfl (ow_nil ?_)
      refine next1 (k + 1) (upd_intro (mask_intro (by first | exact off_refl | (repeat (first | exact off_mask | refine off_upd rfl ?_ | refine off_mask2 rfl ?_)))) rfl) (lmask_intro (by first | exact offl_refl | (repeat (first | exact offl_mask | refine offl_upd rfl ?_ | refine offl_mask2 rfl ?_)))) hl2 ?_ ?_
      · exact ⟨by omega, by rw [← hk2, drop_getD (k := k) (by omega), List.all_cons]; generalize ((s.getD k 0).toNat : Int) = z at *; simp [letter, *]⟩
      omega
    have p46 := df h44
    refine cw_seq (cw_region (oab rfl rfl (ow_nil (seqK_n (cw_ret ?_)))))
    refine blkK_r (blkK_r (seqK_r (loopK_r (blkK_r (seqK_r ?_)))))
    refine fnK_r (res1 rfl (rv_t (v := .bool _) rfl)) ((HLe.refl _).trans hl2) ?_
    first | (rw [← hk2, drop_getD (k := k) (by omega), List.all_cons]; generalize ((s.getD k 0).toNat : Int) = z at *; simp [letter, *]; done) | (rw [← hk2, List.drop_of_length_le (by omega)]; rfl)
  have p47 := df h3
  refine cw_exit (seqK_e (loopK_e (blkK_hit (seqK_n (cw_seq ?_)))))
  refine cw_region (oab rfl rfl (ow_nil (seqK_n (cw_ret (fnK_r (res1 rfl (rv_t (v := .bool _) rfl)) ((HLe.refl _).trans hl2) ?_)))))
  first | (rw [← hk2, drop_getD (k := k) (by omega), List.all_cons]; generalize ((s.getD k 0).toNat : Int) = z at *; simp [letter, *]; done) | (rw [← hk2, List.drop_of_length_le (by omega)]; rfl)
set_option maxRecDepth 100000 in
theorem copyCheck {n : Nat} {N : Rest} {F : Fr} {H : Hp} {L : Ls} {ops : List Oper} {ty d : Nat} {pos : String} {af : Array Edge} {K : Fr → Hp → Ls → Prop} {x : Operand} {ats : Array TypeId} {b : Nat} {p v : Value} (i : Nat) (hx : ev F x = .pointer (some ⟨b, 0, none⟩)) (hi : L i = some (b, bx 184 [p, v]))
    (hp : p = .pointer none ∨ p = .pointer (some ⟨b, 0, none⟩)) (hd : Nat.blt d n = true) (k : K (upd F d (.tuple #[])) H (lupd L i (some (b, bx 184 [.pointer (some ⟨b, 0, none⟩), v])))) : Op1 Tryz.prog n N ops ⟨some d, .call ⟨.value (.func 142), #[x], ats⟩, ty, pos, af, none⟩ K F H L := by
  refine op1_in (en_f (vs := [.pointer (some ⟨b, 0, none⟩)]) cb142 (by simp [evs, hx])) Tryz.func142 rfl Tryz.ntmps142 rfl hd (cw_seq (cw_region (ol rfl (lo_move (v := .pointer (some ⟨_, _, none⟩)) rfl) (ol rfl (lo_nilCheck rfl) (ol rfl (lo_fieldAddr rfl fl184_0) ?_)))))
  refine ol rfl (lo_load1 (i := i) (v := p) rfl ag181 hi rfl) ?_
  rcases hp with rfl | rfl
  · refine ol rfl (lo_pnil rfl rfl Tryz.underlying181) (ow_nil (seqK_n (cw_cond_t rfl rfl (cw_region (ol rfl (lo_move (v := .pointer (some ⟨_, _, none⟩)) rfl) ?_)))))
    refine ol rfl (lo_move (v := .pointer (some ⟨_, _, none⟩)) rfl) (ol rfl (lo_toUnsafe (i := i) rfl hi rfl Tryz.underlying181 Tryz.underlying215 (tz184).choose_spec.1 (tz184).choose_spec.2) (ol rfl (lo_noEsc (v := .pointer (some ⟨_, _, none⟩)) ne160 rfl) (ol rfl (lo_fromUnsafe (i := i) rfl hi Tryz.underlying215 Tryz.underlying181 (ti184).choose_spec la184_184) (ol rfl (lo_nilCheck rfl) (ol rfl (lo_fieldAddr rfl fl184_0) ?_)))))
    refine ow1 (op1_store1 (i := i) (v := .pointer (some ⟨_, _, none⟩)) rfl rfl rfl sz181 hi rfl ?_)
    refine ow_nil ?_
    exact fnK_n (res0 rfl) (.refl _) k
  · refine ol rfl (lo_peq_nil rfl rfl Tryz.underlying181) (ow_nil (seqK_n (cw_cond_f rfl rfl (cw_seq (cw_region ?_)))))
    refine ol rfl (lo_move (v := .pointer (some ⟨_, _, none⟩)) rfl) (ol rfl (lo_nilCheck rfl) (ol rfl (lo_fieldAddr rfl fl184_0) (ol rfl (lo_load1 (i := i) (v := .pointer (some ⟨b, 0, none⟩)) rfl ag181 hi rfl) (ol rfl (lo_move (v := .pointer (some ⟨_, _, none⟩)) rfl) (ol rfl (lo_pne_self rfl rfl Tryz.underlying181 (ti184).choose_spec) ?_)))))
    refine ow_nil (seqK_n (cw_cond_f rfl rfl (cw_skip (fnK_n (res0 rfl) (.refl _) ?_))))
    rwa [lupd_eta hi] at k
theorem octet_New (H : Hp) (s : Bs) : Pn Tryz.prog 175 #[str s] H (fun v H' b o' => v = .pointer (some ⟨b, 0, none⟩) ∧ H = H' ∧ o' = bx 234 (In.cells (⟨s, 0⟩))) := by
  refine pn_cw Tryz.func175 rfl Tryz.ntmps175 rfl (fun N => ?_)
  refine cw_seq (cw_region (ol rfl (lo_assign rfl) (ow_nil (seqK_n (cw_seq ?_)))))
  refine cw_region (ol rfl (lo_move (v := str _) rfl) (ol rfl (lo_build (v := .agg #[_, _]) rfl (bd234_0s _)) (ow1 (op1_box (cs := [_, _]) 0 rfl rfl (fun b1 => ?_)))))
  refine ol rfl (lo_assign (v := .pointer (some ⟨_, _, none⟩)) rfl) (ow_nil (seqK_n (cw_ret (fnK_r (res1 rfl (rv_t (v := .pointer (some ⟨_, _, none⟩)) rfl)) (.refl _) ?_))))
  exact ⟨0, _, _, rfl, rfl, rfl, rfl⟩
theorem in_Fail (H : Hp) (i_b : Nat) (i : In) (code : Int) (code_r : -9223372036854775808 ≤ code ∧ code ≤ 9223372036854775807) : Pm Tryz.prog 185 #[.pointer (some ⟨i_b, 0, none⟩), .int .i64 code] H i_b (bx 234 (In.cells i)) (fun v H' o' => v = .tuple #[] ∧ H = H' ∧ o' = bx 234 (In.cells (inFail i code))) := by
  refine pm_cw Tryz.func185 rfl Tryz.ntmps185 rfl (fun N => ?_)
  refine cw_seq (cw_region (ol rfl (lo_move (v := .pointer (some ⟨_, _, none⟩)) rfl) (ol rfl (lo_pne_nil rfl rfl Tryz.underlying229) (omb rfl rfl ?_))))
  refine ow1 (op1_g rfl rfl rfl (lo_move (v := .pointer (some ⟨_, _, none⟩)) rfl) ?_)
  refine ow1 (op1_g rfl rfl rfl (lo_nilCheck rfl) ?_)
  refine ow1 (op1_g rfl rfl rfl (lo_fieldAddr rfl fl234_1) ?_)
  refine ow1 (op1_g rfl rfl rfl (lo_load1 (i := 0) (v := .int _ _) rfl ag31 rfl rfl) ?_)
  refine ow1 (op1_g rfl rfl rfl (lo_eql rfl rfl) ?_)
  refine ol rfl (lo_pick_t (v := .bool _) rfl rfl rfl) (omb rfl rfl (ow_sp (j := 9) rfl (fun h1 => ?_) (fun h1 => ?_)))
  · have p2 := dt h1
    refine ow1 (op1_g rfl h1 rfl (lo_move (v := .int _ _) rfl) ?_)
    refine ow1 (op1_g rfl h1 rfl (lo_neq rfl rfl) ?_)
    refine ol rfl (lo_pick_t (v := .bool _) rfl h1 rfl) (ow_nil (seqK_n (cw_cond rfl (fun h3 => ?_) (fun h3 => ?_))))
    · have h4 := not_t h3
      have p5 := df h4
      refine cw_region (ol rfl (lo_move (v := .pointer (some ⟨_, _, none⟩)) rfl) (ol rfl (lo_move (v := .pointer (some ⟨_, _, none⟩)) rfl) (omi rfl rfl (ol rfl (lo_nilCheck rfl) (ol rfl (lo_fieldAddr rfl fl234_0) ?_)))))
      refine ow1 (op1_store1 (i := 0) (v := str _) rfl rfl rfl sz9 rfl rfl ?_)
      refine ol rfl (lo_nilCheck rfl) (ol rfl (lo_fieldAddr rfl fl234_1) ?_)
      refine ow1 (op1_store1 (i := 0) (v := .int _ _) rfl rfl rfl sz31 rfl rfl ?_)
      refine ow_nil (fnK_n (res0 rfl) (.refl _) ?_)
      refine ⟨_, rfl, ?_⟩
      refine ⟨?_, rfl, ?_⟩ <;> simp [inRaw, inFail, In.cells, *]
    have h6 := not_f h3
    have p7 := dt h6
    refine cw_skip (fnK_n (res0 rfl) (.refl _) ?_)
    refine ⟨_, rfl, ?_⟩
    refine ⟨?_, rfl, ?_⟩ <;> simp [inRaw, inFail, In.cells, *]
  have p8 := df h1
  refine og rfl h1 rfl (og rfl h1 rfl (ol rfl (lo_pick_f (v := .bool _) rfl h1 rfl) (ow_nil (seqK_n (cw_cond_f rfl rfl ?_)))))
  refine cw_skip (fnK_n (res0 rfl) (.refl _) ?_)
  refine ⟨_, rfl, ?_⟩
  refine ⟨?_, rfl, ?_⟩ <;> simp [inRaw, inFail, In.cells, *]
theorem in_Raw (H : Hp) (i_b : Nat) (i : In) (n : Int) (n_r : -9223372036854775808 ≤ n ∧ n ≤ 9223372036854775807) : Pm Tryz.prog 180 #[.pointer (some ⟨i_b, 0, none⟩), .int .i64 n] H i_b (bx 234 (In.cells i)) (fun v H' o' => v = str ((inRaw i n).1) ∧ H = H' ∧ o' = bx 234 (In.cells ((inRaw i n).2))) := by
  refine pm_cw Tryz.func180 rfl Tryz.ntmps180 rfl (fun N => ?_)
  refine cw_seq (cw_region (ol rfl (lo_assign (v := str _) rfl) (ow_nil (seqK_n (cw_seq ?_)))))
  refine cw_block (cw_seq (cw_seq (cw_region (ol rfl (lo_move (v := .pointer (some ⟨_, _, none⟩)) rfl) (ol rfl (lo_peq_nil rfl rfl Tryz.underlying229) ?_)))))
  refine oab rfl rfl (ow_nil (seqK_n (cw_cond_f rfl rfl (cw_seq (cw_region ?_)))))
  refine ol rfl (lo_move (v := .pointer (some ⟨_, _, none⟩)) rfl) (ol rfl (lo_nilCheck rfl) (ol rfl (lo_fieldAddr rfl fl234_1) (ol rfl (lo_load1 (i := 0) (v := .int _ _) rfl ag31 rfl rfl) (ol rfl (lo_neq rfl rfl) (oab rfl rfl ?_)))))
  refine ow_nil (seqK_n (cw_cond rfl (fun h1 => ?_) (fun h1 => ?_)))
  · have h2 := not_t h1
    have p3 := df h2
    refine cw_skip (seqK_n (cw_cond_t rfl h1 (cw_seq (cw_region (ol rfl (lo_assign (v := str _) rfl) ?_)))))
    refine ow_nil (seqK_n (cw_ret (blkK_r (seqK_r (fnK_r (res1 rfl (rv_t (v := str _) rfl)) (.refl _) ?_)))))
    refine ⟨_, rfl, ?_⟩
    refine ⟨?_, rfl, ?_⟩ <;> simp [inRaw, inFail, In.cells, *]
  have h4 := not_f h1
  have p5 := dt h4
  refine cw_region (omi rfl rfl (ol rfl (lo_leq rfl rfl) (oab rfl rfl (ow_nil (seqK_n ?_)))))
  refine cw_cond rfl (fun h6 => ?_) (fun h6 => ?_)
  · have p7 := dt h6
    refine cw_seq (cw_region (ol rfl (lo_assign (v := str _) rfl) (ow_nil (seqK_n (cw_ret ?_)))))
    refine blkK_r (seqK_r (fnK_r (res1 rfl (rv_t (v := str _) rfl)) (.refl _) ?_))
    refine ⟨_, rfl, ?_⟩
    refine ⟨?_, rfl, ?_⟩ <;> simp [inRaw, inFail, In.cells, *]
  have p8 := df h6
  refine cw_seq (cw_region (omi rfl rfl (ol rfl (lo_move (v := .pointer (some ⟨_, _, none⟩)) rfl) (ol rfl (lo_nilCheck rfl) (ol rfl (lo_fieldAddr rfl fl234_0) ?_)))))
  refine ol rfl (lo_load1 (i := 0) (v := str _) rfl ag9 rfl rfl) (ol rfl (lo_len_str rfl Tryz.underlying9) (ol rfl (lo_gtr rfl rfl) (oab rfl rfl (ow_nil (seqK_n ?_)))))
  refine cw_cond rfl (fun h9 => ?_) (fun h9 => ?_)
  · have p10 := dt h9
    refine cw_seq (cw_region (ol rfl (lo_move (v := .pointer (some ⟨_, _, none⟩)) rfl) ?_))
    refine ow1 (op1_pm 0 rfl (in_Fail _ i_b i 3 (by omega)) (en_f cb185 rfl) rfl ?_)
    rintro _ _ _ ⟨rfl, rfl, rfl⟩ _
    refine ow_nil (seqK_n (cw_seq (cw_region (ol rfl (lo_assign (v := str _) rfl) (ow_nil ?_)))))
    refine seqK_n (cw_ret (blkK_r (seqK_r (fnK_r (res1 rfl (rv_t (v := str _) rfl)) (.refl _) ?_))))
    refine ⟨_, rfl, ?_⟩
    refine ⟨?_, rfl, ?_⟩ <;> simp [inRaw, inFail, In.cells, *]
  have p13 := df h9
  refine cw_skip (blkK_n (seqK_n (cw_seq (cw_region (ol rfl (lo_move (v := .pointer (some ⟨_, _, none⟩)) rfl) ?_)))))
  refine ol rfl (lo_nilCheck rfl) (ol rfl (lo_fieldAddr rfl fl234_0) (ol rfl (lo_load1 (i := 0) (v := str _) rfl ag9 rfl rfl) (omi rfl rfl (ol rfl (lo_slice_str_hi (n).toNat rfl rfl Tryz.underlying9 (by omega) (by omega)) (ol rfl (lo_assign (v := str _) rfl) ?_)))))
  refine ow_nil (seqK_n (cw_seq (cw_region (ol rfl (lo_move (v := .pointer (some ⟨_, _, none⟩)) rfl) (ol rfl (lo_move (v := .pointer (some ⟨_, _, none⟩)) rfl) ?_)))))
  refine ol rfl (lo_nilCheck rfl) (ol rfl (lo_fieldAddr rfl fl234_0) (ol rfl (lo_load1 (i := 0) (v := str _) rfl ag9 rfl rfl) (omi rfl rfl (ol rfl (lo_slice_str_lo (n).toNat rfl rfl Tryz.underlying9 (by omega) (by omega)) (ol rfl (lo_nilCheck rfl) ?_)))))
  refine ol rfl (lo_fieldAddr rfl fl234_0) ?_
  refine ow1 (op1_store1 (i := 0) (v := str _) rfl rfl rfl sz9 rfl rfl ?_)
  refine ow_nil (seqK_n (cw_seq (cw_region (ol rfl (lo_move (v := str _) rfl) (ol rfl (lo_assign (v := str _) rfl) ?_)))))
  refine ow_nil (seqK_n (cw_ret (fnK_r (res1 rfl (rv_t (v := str _) rfl)) (.refl _) ?_)))
  refine ⟨_, rfl, ?_⟩
  refine ⟨?_, rfl, ?_⟩ <;> simp [inRaw, inFail, In.cells, *]
end Go.SW
set_option linter.unusedVariables false
set_option maxRecDepth 100000
set_option maxHeartbeats 4000000
namespace Go.SW
open Go.Proofs
theorem ag5 : Ag Tryz.prog 5 false := fun w => by kernel_rfl
theorem cb180 : Callable Tryz.prog 180 := callable_of Tryz.func180 (by kernel_rfl) (by kernel_rfl)
theorem sz5 : Sz Tryz.prog 5 1 := fun w => by kernel_rfl
theorem in_Num (H : Hp) (i_b : Nat) (i : In) (bytes : Int) (bytes_r : -9223372036854775808 ≤ bytes ∧ bytes ≤ 9223372036854775807) : Pm Tryz.prog 176 #[.pointer (some ⟨i_b, 0, none⟩), .int .i64 bytes] H i_b (bx 234 (In.cells i)) (fun v H' o' => v = .int .u64 ((inNum i bytes).1) ∧ H = H' ∧ o' = bx 234 (In.cells ((inNum i bytes).2))) := by
  refine pm_cw Tryz.func176 rfl Tryz.ntmps176 rfl (fun N => ?_)
  refine cw_seq (cw_region (oai rfl rfl (ow_nil (seqK_n (cw_seq ?_)))))
  refine cw_region (oai rfl rfl (ow_nil (seqK_n (cw_seq (cw_seq ?_)))))
  refine cw_region (ol rfl (lo_move (v := .pointer (some ⟨_, _, none⟩)) rfl) (omi rfl rfl (ol rfl (lo_min rfl rfl) ?_)))
  refine ow1 (op1_pm 0 rfl (in_Raw _ i_b i (min bytes 8) (by omega)) (en_f cb180 rfl) rfl ?_)
  rintro _ _ _ ⟨rfl, rfl, rfl⟩ _
  refine ow1 (op1_s2b rfl Tryz.underlying9 Tryz.underlying182 Tryz.underlying5 rfl (fun b3 cap4 H5 hl6 hs7 => ?_))
  refine ol rfl (lo_len_slh rfl hs7 Tryz.underlying182) (omi rfl rfl (ow_nil (seqK_n (cw_block (cw_loop1 [5, 7, 14, 15, 16, 17, 18, 19, 20, 21, 22, 23] [] (fun (k : Nat) G => upd (upd (G) 14 (.int .i64 (k : Int))) 5 (.int .u64 (beN ((inRaw i (min bytes 8)).1.take k) : Int))) (fun (k : Nat) G => G) (fun (k : Nat) H' => k ≤ (inRaw i (min bytes 8)).1.length) (fun (k : Nat) => (inRaw i (min bytes 8)).1.length - k) 0 (upd_intro (upd_intro (mask_intro (by first | exact off_refl | (repeat (first | exact off_mask | refine off_upd rfl ?_ | refine off_mask2 rfl ?_)))) rfl) rfl) (lmask_intro offl_refl) ?_ ?_)))))
  · exact Nat.zero_le _
  intro k J9 JL9 H9 hp8 hl9
  have hb := inRaw_len i (min bytes 8)
  refine cw_seq (cw_region (ol rfl (lo_lss rfl rfl) (ow_nil (seqK_n (cw_seq ?_)))))
  refine cw_cond rfl (fun h10 => ?_) (fun h10 => ?_)
  · have p11 := dt h10
    refine cw_skip (seqK_n (cw_seq (cw_block (cw_seq (cw_region ?_)))))
    obtain ⟨c12, hc13⟩ := getE (xs := (inRaw i (min bytes 8)).1) (m := k) (by omega)
    obtain ⟨cs14, hE15, at16⟩ := (hs7.mono ((HLe.refl _).trans hl9) (fun _ _ h => h)).get hc13
    subst hE15
    have c12_r := u8r c12
    refine ol rfl (lo_indexAddr rfl rfl (hs7.mono ((HLe.refl _).trans hl9) (fun _ _ h => h)).1 at16 Tryz.underlying182 sz5 (by omega) (by omega)) (ol rfl (lo_loadE1 rfl ag5 at16) (oai rfl rfl (ow_nil (seqK_n (cw_region ?_)))))
    refine omi rfl rfl (ol rfl (lo_shl rfl rfl (by omega)) (omi rfl rfl (ol rfl (lo_conv_in rfl (by rw [Tryz.underlying5]; rfl) Tryz.underlying22 (rg_u64 (by omega))) ?_)))
    have := wr_u64 ((BitVec.ofInt (IntKind.bits .u64) (IntKind.wrap .u64 ((beN ((inRaw i (min bytes 8)).1.take k) : Int) * 2 ^ (min (8 : Int).toNat (IntKind.bits .u64)))) ||| BitVec.ofInt (IntKind.bits .u64) (c12.toNat : Int)).toNat)
    refine ol rfl (lo_or rfl rfl) (oai rfl rfl (ow_nil (blkK_n (seqK_n (cw_region ?_)))))
    refine ol rfl (lo_add rfl rfl (rg_i64 (by omega))) (omi rfl rfl (ow_nil ?_))
    refine next1 (k + 1) (upd_intro (upd_intro (mask_intro (by first | exact off_refl | (repeat (first | exact off_mask | refine off_upd rfl ?_ | refine off_mask2 rfl ?_)))) rfl) (congrArg (Value.int .u64) (num_step hc13 (by omega)))) (lmask_intro (by first | exact offl_refl | (repeat (first | exact offl_mask | refine offl_upd rfl ?_ | refine offl_mask2 rfl ?_)))) hl9 ?_ ?_
    · omega
    omega
  have p17 := df h10
  refine cw_exit (seqK_e (loopK_e (blkK_hit (seqK_n (cw_seq ?_)))))
  refine cw_region (omi rfl rfl (oai rfl rfl (ow_nil (seqK_n (cw_down (((HLe.refl _).trans hl6).trans hl9) ?_)))))
  refine cw_ret (fnK_r (res1 rfl (rv_t (v := .int _ _) rfl)) (.refl _) ?_)
  refine ⟨_, rfl, ?_⟩
  refine ⟨?_, rfl, rfl⟩
  simp only [inNum]
  rw [List.take_of_length_le (by omega)]
end Go.SW
set_option linter.unusedVariables false
set_option maxRecDepth 100000
set_option maxHeartbeats 4000000
namespace Go.SW
open Go.Proofs
theorem ag170 : Ag Tryz.prog 170 true := fun w => by kernel_rfl
theorem ag182 : Ag Tryz.prog 182 false := fun w => by kernel_rfl
theorem by5 : By Tryz.prog 5 1 := by_of (by kernel_rfl)
theorem cb130 : Callable Tryz.prog 130 := callable_of Tryz.func130 (by kernel_rfl) (by kernel_rfl)
theorem cb131 : Callable Tryz.prog 131 := callable_of Tryz.func131 (by kernel_rfl) (by kernel_rfl)
theorem co5 : Tryz.prog.cellsOf 5 = 1 := by kernel_rfl
theorem fl170_0 : Fld Tryz.prog 170 0 0 := fun b o w => by kernel_rfl
theorem fl184_1 : Fld Tryz.prog 184 1 1 := fun b o w => by kernel_rfl
theorem mixd : Tryz.prog.follows .mixedOrders = true := by kernel_rfl
theorem sz170 : Sz Tryz.prog 170 2 := fun w => by kernel_rfl
theorem sz182 : Sz Tryz.prog 182 1 := fun w => by kernel_rfl
theorem zr170 : Zr Tryz.prog 170 [str [], .int .i64 0] := fun w => ⟨.agg #[str [], .int .i64 0], by kernel_rfl, rfl⟩
theorem zr184 : Zr Tryz.prog 184 [.pointer none, .slice none 0 0] := fun w => ⟨.agg #[.pointer none, .slice none 0 0], by kernel_rfl, rfl⟩
theorem zr5 : Zr Tryz.prog 5 [.int .u8 0] := fun w => ⟨.int .u8 0, by kernel_rfl, rfl⟩
theorem zx5 : ∃ z, ∀ w, (zeroValue 5).run Tryz.prog w = .ok z w := ⟨.int .u8 0, fun w => by kernel_rfl⟩
theorem out_Num (H : Hp) (o : Out) (n : Int) (n_r : 0 ≤ n ∧ n ≤ 18446744073709551615) (bytes : Int) (bytes_r : -9223372036854775808 ≤ bytes ∧ bytes ≤ 9223372036854775807) (hlen : o.s.length ≤ 4611686018427387904) : Pr Tryz.prog 116 #[.agg (Out.cells o).toArray, .int .u64 n, .int .i64 bytes] H (.agg (Out.cells (outNum o n bytes)).toArray) := by
  refine pr_cw Tryz.func116 rfl Tryz.ntmps116 rfl (fun N => ?_)
  refine cw_seq (cw_region (ow1 (op1_box (cs := [_, _]) 0 rfl rfl (fun b1 => ?_))))
  refine ow1 (op1_alloc 1 rfl zr170 (fun b2 => ?_))
  refine ow_nil (seqK_n (cw_seq (cw_region (ow1 (op1_alloc 2 rfl zr184 (fun b3 => ?_))))))
  refine ow_nil (seqK_n (cw_seq (cw_seq (cw_region (omi rfl rfl ?_)))))
  refine ol rfl (lo_max rfl rfl) (ol rfl (lo_min rfl rfl) (ol rfl (lo_sub rfl rfl (rg_i64 (by omega))) (oai rfl rfl (ow_nil (seqK_n ?_)))))
  refine cw_block ?_
  refine cw_loop5 [8, 13, 14, 15, 16, 17, 18, 19, 20, 21, 22] [2, 3, 4] (fun (j : Nat) (bs : Bs) (p : Value) (v : Value) (en : Option (Nat × Obj)) G => upd (G) 8 (.int .i64 ((j : Int) - 1))) (fun (j : Nat) (bs : Bs) (p : Value) (v : Value) (en : Option (Nat × Obj)) G => lupd (lupd (G) 2 (some (b3, bx 184 [p, v]))) 3 (en)) (fun (j : Nat) (bs : Bs) (p : Value) (v : Value) (en : Option (Nat × Obj)) H' => bs ++ numB j n.toNat = numB (numK bytes) n.toNat ∧ bs.length + j = numK bytes ∧ OwnV 1 5 v en bs.length (bs.map u8v) ∧ (bs.length = 0 → v = .slice none 0 0) ∧ (p = .pointer none ∨ p = .pointer (some ⟨b3, 0, none⟩))) (fun (j : Nat) (bs : Bs) (p : Value) (v : Value) (en : Option (Nat × Obj)) => j) (numK bytes) [] (.pointer none) (.slice none 0 0) none (upd_intro (mask_intro (by first | exact off_refl | (repeat (first | exact off_mask | refine off_upd rfl ?_ | refine off_mask2 rfl ?_)))) (congrArg (Value.int .i64) (show min (max bytes 0) 8 - 1 = ((numK bytes : Nat) : Int) - 1 by unfold numK; omega))) (lupd_intro (lupd_intro (lmask_intro offl_refl) rfl) rfl) ?_ ?_
  · exact ⟨rfl, by simp, ownV_nil, fun _ => rfl, .inl rfl⟩
  intro j bs p v en J5 JL5 H5 hp4 hl5
  obtain ⟨hk1, hk2, ho, hz, hpp⟩ := hp4
  have hk8 : numK bytes ≤ 8 := by unfold numK; omega
  refine cw_seq (cw_seq (cw_region (omi rfl rfl (ol rfl (lo_geq rfl rfl) (ow_nil ?_)))))
  refine seqK_n (cw_cond rfl (fun h6 => ?_) (fun h6 => ?_))
  · have p7 := dt h6
    refine cw_skip (seqK_n (cw_seq (cw_block (cw_region (omi rfl rfl ?_)))))
    refine omi rfl rfl (ol rfl (lo_mul rfl rfl (rg_i64 (by omega))) (ol rfl (lo_shr rfl rfl (by omega)) ?_))
    have := wr_u8 (Int.fdiv n (2 ^ (min ((8 * ((j : Int) - 1)) : Int).toNat (IntKind.bits .u64))))
    refine ol rfl (lo_conv rfl (by rw [Tryz.underlying22]; rfl) Tryz.underlying5) ?_
    refine ow1 (op1_in (en_f cb130 rfl) Tryz.func130 rfl Tryz.ntmps130 rfl rfl ?_)
    refine cw_seq (cw_region (ol rfl (lo_assign rfl) (ow_nil (seqK_n (cw_seq ?_)))))
    refine cw_region (ol rfl (lo_move (v := .pointer (some ⟨_, _, none⟩)) rfl) ?_)
    refine ow1 (copyCheck 2 rfl rfl hpp rfl ?_)
    refine ow_nil (seqK_n (cw_seq (cw_region (ol rfl (lo_move (v := .pointer (some ⟨_, _, none⟩)) rfl) (ol rfl (lo_move (v := .pointer (some ⟨_, _, none⟩)) rfl) ?_)))))
    refine ol rfl (lo_nilCheck rfl) (ol rfl (lo_fieldAddr rfl fl184_1) (ol rfl (lo_load1 (i := 2) rfl ag182 rfl rfl) (omi rfl rfl ?_)))
    refine ow1 (op1_bslice (cs := [_]) 4 rfl Tryz.underlying182 sz5 zx5 rfl ⟨rfl, rfl, trivial⟩ rfl rfl (by decide) (fun b8 => ?_))
    refine ow1 (op1_app 3 rfl rfl Tryz.underlying182 Tryz.underlying182 rfl sz5 by5 (by decide) zr5 ho (src_bx (i := 4) rfl rfl) (List.all_eq_true.1 rfl) rfl (by omega) rfl (fun v9 en10 ho11 => ?_))
    have ho12 := byte_app (bs := bs) ho11 (by first | rfl | simp) (wrap8r _)
    refine ol rfl (lo_nilCheck rfl) (ol rfl (lo_fieldAddr rfl fl184_1) ?_)
    refine ow1 (op1_store1 (i := 2) rfl rfl (ownV_one ho12) sz182 rfl rfl ?_)
    refine ow_nil (seqK_n (cw_seq (cw_region (ol rfl (lo_assign rfl) (ow_nil ?_)))))
    refine seqK_n (cw_ret (fnK_r (res1 rfl (rv_t rfl)) (.refl _) (ow_nil (blkK_n (seqK_n ?_)))))
    refine cw_region (omi rfl rfl (ol rfl (lo_sub rfl rfl (rg_i64 (by omega))) (oai rfl rfl (ow_nil ?_))))
    refine next5 (j - 1) (bs ++ [UInt8.ofNat ((IntKind.wrap .u8 (Int.fdiv n (2 ^ (min ((8 * ((j : Int) - 1)) : Int).toNat (IntKind.bits .u64)))))).toNat]) (.pointer (some ⟨b3, 0, none⟩)) v9 en10 (upd_intro (mask_intro (by first | exact off_refl | (repeat (first | exact off_mask | refine off_upd rfl ?_ | refine off_mask2 rfl ?_)))) (congrArg (Value.int .i64) (show ((j : Int) - 1) - 1 = ((j - 1 : Nat) : Int) - 1 by omega))) (lupd_intro (lupd_intro (lmask_intro (by first | exact offl_refl | (repeat (first | exact offl_mask | refine offl_upd rfl ?_ | refine offl_mask2 rfl ?_)))) rfl) rfl) hl5 ?_ ?_
    · refine ⟨?_, ?_, ho12, (nz_of ho12 (by simp)), .inr rfl⟩
      · rw [byte_of n_r.1 (by omega) (by omega), List.append_assoc, ← hk1]
        obtain ⟨q, rfl⟩ : ∃ q, j = q + 1 := ⟨j - 1, by omega⟩
        simp [numB]
      simp; omega
    omega
  have p13 := df h6
  refine cw_exit (seqK_e (loopK_e (blkK_hit (seqK_n (cw_seq ?_)))))
  refine cw_anyX 3 mixd (vw_q 0 rfl (by kernel_rfl) (by repeat (first | exact lle_l0 | exact LLe.refl _ | exact lle_none | refine lle_up ?_ rfl)) (fun _ _ hh hl => lo_fieldAddr rfl fl170_0) ?_)
  refine vw_q 1 rfl (by kernel_rfl) (by repeat (first | exact lle_l0 | exact LLe.refl _ | exact lle_none | refine lle_up ?_ rfl)) (fun _ _ hh hl => lo_load1 (i := 0) (v := str _) rfl ag9 (hl _ _ rfl) rfl) ?_
  refine vw_e 2 rfl (by kernel_rfl) (op1_in (en_f cb131 rfl) Tryz.func131 rfl Tryz.ntmps131 rfl rfl ?_)
  refine cw_seq (cw_region (ol rfl (lo_assign (v := str _) rfl) (ow_nil (seqK_n (cw_seq ?_)))))
  refine cw_anyX 3 mixd ?_
  refine vw_q 0 rfl (by kernel_rfl) (by repeat (first | exact lle_l0 | exact LLe.refl _ | exact lle_none | refine lle_up ?_ rfl)) (fun _ _ hh hl => lo_move (v := .pointer (some ⟨_, _, none⟩)) rfl) ?_
  refine vw_q 1 rfl (by kernel_rfl) (by repeat (first | exact lle_l0 | exact LLe.refl _ | exact lle_none | refine lle_up ?_ rfl)) (fun _ _ hh hl => lo_nilCheck rfl) ?_
  refine vw_q 2 rfl (by kernel_rfl) (by repeat (first | exact lle_l0 | exact LLe.refl _ | exact lle_none | refine lle_up ?_ rfl)) (fun _ _ hh hl => lo_fieldAddr rfl fl184_1) ?_
  refine vw_q 3 rfl (by kernel_rfl) (by repeat (first | exact lle_l0 | exact LLe.refl _ | exact lle_none | refine lle_up ?_ rfl)) (fun _ _ hh hl => lo_load1 (i := 2) rfl ag182 (hl _ _ rfl) rfl) ?_
  refine vw_q 4 rfl (by kernel_rfl) (by repeat (first | exact lle_l0 | exact LLe.refl _ | exact lle_none | refine lle_up ?_ rfl)) (fun _ _ hh hl => lo_usd rfl ho hz) ?_
  refine vw_q 5 rfl (by kernel_rfl) (by repeat (first | exact lle_l0 | exact LLe.refl _ | exact lle_none | refine lle_up ?_ rfl)) (fun _ _ hh hl => lo_move (v := .pointer (some ⟨_, _, none⟩)) rfl) ?_
  refine vw_q 6 rfl (by kernel_rfl) (by repeat (first | exact lle_l0 | exact LLe.refl _ | exact lle_none | refine lle_up ?_ rfl)) (fun _ _ hh hl => lo_nilCheck rfl) ?_
  refine vw_q 7 rfl (by kernel_rfl) (by repeat (first | exact lle_l0 | exact LLe.refl _ | exact lle_none | refine lle_up ?_ rfl)) (fun _ _ hh hl => lo_fieldAddr rfl fl184_1) ?_
  refine vw_q 8 rfl (by kernel_rfl) (by repeat (first | exact lle_l0 | exact LLe.refl _ | exact lle_none | refine lle_up ?_ rfl)) (fun _ _ hh hl => lo_load1 (i := 2) rfl ag182 (hl _ _ rfl) rfl) ?_
  refine vw_q 9 rfl (by kernel_rfl) (by repeat (first | exact lle_l0 | exact LLe.refl _ | exact lle_none | refine lle_up ?_ rfl)) (fun _ _ hh hl => lo_len_own rfl ho Tryz.underlying182) ?_
  refine vw_e 10 rfl (by kernel_rfl) (op1_ustr (l := bs) 3 rfl rfl Tryz.underlying201 co5 ho hz (by have hq := numB_len (numK bytes) n.toNat; simp [numK] at *; omega) rfl ?_)
  refine ⟨⟨(.refl _), (by repeat (first | exact lle_l0 | exact LLe.refl _ | exact lle_none | refine lle_up ?_ rfl))⟩, ?_⟩
  refine vw_q 11 rfl (by kernel_rfl) (by repeat (first | exact lle_l0 | exact LLe.refl _ | exact lle_none | refine lle_up ?_ rfl)) (fun _ _ hh hl => lo_assign (v := str _) rfl) ?_
  refine vw_done (by kernel_rfl) (seqK_n (cw_ret (fnK_r (res1 rfl (rv_t (v := str _) rfl)) (.refl _) ?_)))
  refine ⟨⟨(.refl _), (by repeat (first | exact lle_l0 | exact LLe.refl _ | exact lle_none | refine lle_up ?_ rfl))⟩, ?_⟩
  refine vw_q 3 rfl (by kernel_rfl) (by repeat (first | exact lle_l0 | exact LLe.refl _ | exact lle_none | refine lle_up ?_ rfl)) (fun _ _ hh hl => lo_cat rfl rfl (by have hq := numB_len (numK bytes) n.toNat; simp [numK] at *; omega)) ?_
  refine vw_q 4 rfl (by kernel_rfl) (by repeat (first | exact lle_l0 | exact LLe.refl _ | exact lle_none | refine lle_up ?_ rfl)) (fun _ _ hh hl => lo_fieldAddr rfl fl170_0) ?_
  refine vw_t 5 rfl (by kernel_rfl) (by kernel_rfl) (op1_store1 (i := 0) (v := str _) rfl rfl rfl sz9 rfl rfl ?_)
  refine vw_done (by kernel_rfl) (seqK_n (cw_seq (cw_region (ol rfl (lo_loadA (i := 0) (vs := [_, _]) rfl ag170 sz170 rfl rfl rfl) ?_))))
  refine ow1 (op1_storeA (i := 1) (vs := [_, _]) rfl rfl rfl sz170 rfl rfl rfl ?_)
  refine ow_nil (seqK_n (cw_ret (fnK_r (res1 rfl (rv_c (i := 1) (vs := [_, _]) rfl ag170 sz170 rfl rfl rfl)) ((HLe.refl _).trans hl5) ?_)))
  obtain rfl : j = 0 := by omega
  simp only [numB, List.append_nil] at hk1
  subst hk1
  rfl
end Go.SW
set_option linter.unusedVariables false
set_option maxRecDepth 100000
set_option maxHeartbeats 4000000
namespace Go.SW.V
open Go.SW Go.Proofs
def gb : Gb := ⟨fun H => GInt H 0, fun H H' hl h => h.mono hl⟩
theorem gbML {H : Hp} (h : gb.p H) : GInt H 0 := h
theorem cb106 : Callable Tryz.prog 106 := callable_of Tryz.func106 (by kernel_rfl) (by kernel_rfl)
theorem cb127 : Callable Tryz.prog 127 := callable_of Tryz.func127 (by kernel_rfl) (by kernel_rfl)
theorem cb92 : Callable Tryz.prog 92 := callable_of Tryz.func92 (by kernel_rfl) (by kernel_rfl)
def tbv1 : Tb := [(9, ⟨.str, 1, 16, [.str []]⟩)]
theorem tbv1ok : tbB Tryz.prog tbv1 = true := by kernel_rfl
theorem r4_letter (c : Int) : Fn Tryz.prog gb 92 [.int .u8 c] (.bool (letter c)) := by
  refine fn_cw tbv1ok Tryz.func92 rfl Tryz.ntmps92 rfl cb92 rfl rfl fun w N H hG => ?_
  have c_r : 0 ≤ c ∧ c ≤ 255 := w.1
  refine go tbv1ok 33 rfl rfl ⟨(fun hc => hc), rfl, rfl, (fun hc => hc), (fun hc => hc), (fun hc => hc), (fun hc => hc), (fun hc => (by rw [hc]; rfl)), (fun hc => rfl), rfl, rfl, (fun hc => hc), rfl, rfl, (fun hc => hc), rfl, rfl, trivial⟩ ?_
  refine rt1 rfl rfl ?_
  refine ple ?_
  simp [letter, *]
theorem words_plain (s : Bs) : Fn Tryz.prog gb 127 [.str s] (.bool (plain s)) := by
  refine fn_cw tbv1ok Tryz.func127 rfl Tryz.ntmps127 rfl cb127 rfl rfl fun w N H hG => ?_
  have s_l : s.length ≤ 9223372036854775807 := w.1
  refine go tbv1ok 14 rfl rfl trivial ?_
  refine loop (ι := Nat) [0, 5, 6] [] (fun k => [(7, .int .i64 (k : Int))]) (fun k => []) (fun k => k ≤ s.length ∧ (s.drop k).all (fun c => letter c.toNat) = plain s) (fun k => s.length - k) 0 ⟨rfl, trivial⟩ trivial ?_ ?_
  · exact ⟨by omega, rfl⟩
  · rintro k hp1
    obtain ⟨hk1, hk2⟩ := hp1
    refine go tbv1ok 6 rfl rfl trivial ?_
    refine cnd rfl (fun h2 => ?_) (fun h2 => ?_)
    · have p3 := dt h2
      have := u8r (s.getD k 0)
      refine go tbv1ok 14 rfl rfl trivial ?_
      refine q1 (sidx tbv1ok k rfl rfl rfl rfl rfl (by omega)) rfl fun w4 => ?_
      refine go tbv1ok 16 rfl rfl ⟨(fun hc => hc), rfl, rfl, trivial⟩ ?_
      refine cnd rfl (fun h5 => ?_) (fun h5 => ?_)
      · have h6 := bl h5
        have p7 := dt h6
        have h8 := br h5
        have p9 := dt h8
        refine go tbv1ok 2 rfl rfl trivial ?_
        refine cndT rfl h5 ?_
        refine go tbv1ok 8 rfl rfl ⟨(by omega), trivial⟩ ?_
        refine next (k + 1) rfl rfl ⟨rfl, trivial⟩ trivial ?_ ?_
        · omega
        · exact ⟨by omega, by rw [← hk2, drop_getD (k := k) (by omega), List.all_cons]; generalize ((s.getD k 0).toNat : Int) = z at *; simp [letter, *]⟩
      · refine go tbv1ok 11 rfl rfl ⟨(fun hc => hc), rfl, rfl, trivial⟩ ?_
        refine cnd rfl (fun h10 => ?_) (fun h10 => ?_)
        · have h11 := bl h10
          have p12 := dt h11
          have h13 := br h10
          have p14 := dt h13
          refine go tbv1ok 2 rfl rfl trivial ?_
          refine cndT rfl h10 ?_
          refine go tbv1ok 8 rfl rfl ⟨(by omega), trivial⟩ ?_
          refine next (k + 1) rfl rfl ⟨rfl, trivial⟩ trivial ?_ ?_
          · omega
          · exact ⟨by omega, by rw [← hk2, drop_getD (k := k) (by omega), List.all_cons]; generalize ((s.getD k 0).toNat : Int) = z at *; simp [letter, *]⟩
        · refine go tbv1ok 7 rfl rfl trivial ?_
          refine cnd rfl (fun h15 => ?_) (fun h15 => ?_)
          · have p16 := dt h15
            refine go tbv1ok 2 rfl rfl trivial ?_
            refine cndT rfl h15 ?_
            refine go tbv1ok 8 rfl rfl ⟨(by omega), trivial⟩ ?_
            refine next (k + 1) rfl rfl ⟨rfl, trivial⟩ trivial ?_ ?_
            · omega
            · exact ⟨by omega, by rw [← hk2, drop_getD (k := k) (by omega), List.all_cons]; generalize ((s.getD k 0).toNat : Int) = z at *; simp [letter, *]⟩
          · have p17 := df h15
            refine go tbv1ok 6 rfl rfl trivial ?_
            refine cnd rfl (fun h18 => ?_) (fun h18 => ?_)
            · have p19 := dt h18
              refine go tbv1ok 8 rfl rfl ⟨(by omega), trivial⟩ ?_
              refine next (k + 1) rfl rfl ⟨rfl, trivial⟩ trivial ?_ ?_
              · omega
              · exact ⟨by omega, by rw [← hk2, drop_getD (k := k) (by omega), List.all_cons]; generalize ((s.getD k 0).toNat : Int) = z at *; simp [letter, *]⟩
            · have p20 := df h18
              refine go tbv1ok 12 rfl rfl trivial ?_
              refine rt1 rfl rfl ?_
              refine ple ?_
              refine congrArg PV.bool ?_; first | (rw [← hk2, drop_getD (k := k) (by omega), List.all_cons]; generalize ((s.getD k 0).toNat : Int) = z at *; simp [letter, *]; done) | (rw [← hk2, List.drop_of_length_le (by omega)]; rfl)
    · have p21 := df h2
      refine go tbv1ok 11 rfl rfl trivial ?_
      refine rt1 rfl rfl ?_
      refine ple ?_
      refine congrArg PV.bool ?_; first | (rw [← hk2, drop_getD (k := k) (by omega), List.all_cons]; generalize ((s.getD k 0).toNat : Int) = z at *; simp [letter, *]; done) | (rw [← hk2, List.drop_of_length_le (by omega)]; rfl)
theorem words_Name (s : Bs) : Fn Tryz.prog gb 106 [.str s] (.int .i64 (nameE s)) := by
  refine fn_cw tbv1ok Tryz.func106 rfl Tryz.ntmps106 rfl cb106 rfl rfl fun w N H hG => ?_
  have s_l : s.length ≤ 9223372036854775807 := w.1
  refine go tbv1ok 14 rfl rfl trivial ?_
  refine cnd rfl (fun h1 => ?_) (fun h1 => ?_)
  · have p2 := dt h1
    refine go tbv1ok 8 rfl rfl trivial ?_
    refine rt1 rfl rfl ?_
    refine ple ?_
    simp [nameE, *] <;> omega
  · have p3 := df h1
    refine go tbv1ok 8 rfl rfl trivial ?_
    refine cnd rfl (fun h4 => ?_) (fun h4 => ?_)
    · have p5 := dt h4
      refine go tbv1ok 8 rfl rfl trivial ?_
      refine rt1 rfl rfl ?_
      refine ple ?_
      simp [nameE, *] <;> omega
    · have p6 := df h4
      refine go tbv1ok 3 rfl rfl trivial ?_
      refine call (words_plain _) rfl rfl fun w7 => ?_
      refine go tbv1ok 4 rfl rfl trivial ?_
      refine cnd rfl (fun h8 => ?_) (fun h8 => ?_)
      · have h9 := not_t h8
        refine go tbv1ok 8 rfl rfl trivial ?_
        refine rt1 rfl rfl ?_
        refine ple ?_
        simp [nameE, *] <;> omega
      · have h10 := not_f h8
        refine go tbv1ok 9 rfl rfl trivial ?_
        refine rt1 rfl rfl ?_
        refine ple ?_
        simp [nameE, *] <;> omega
end Go.SW.V
