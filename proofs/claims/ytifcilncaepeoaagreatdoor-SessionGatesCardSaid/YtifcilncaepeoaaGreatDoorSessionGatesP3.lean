/-
  A part of the proof of SessionGates: The rules again, of a state whose frame and blocks stand apart (printed by program). What the functions of the layers 7 and 8 compute, in plain Lean: frames that are read, feeds. What words.Matches computes, in plain Lean: whether a key's words match a pattern's; the search that goes back to the last hash. What is read and written, in plain Lean: bytes that are read are those that would be written, and the other way round; heads and replies that are read. Replies that are read, in plain Lean; what is read would be written so; what is written is read again. What the document's reader holds is the program's, seen otherwise. Heads: what is read would be written so; what is written is read again. Lists held against each other; records that are the same; what is gone through, in plain Lean. Replies: what is read would be written so; what is written is read again. Frames: what is written is read again, behind whatever; a beginning of a frame is too short; bytes of frames that come in two pieces are those frames. What the document's reader does, told of what it stands for; names, keys, heads by the document. What the document says of keys, pairs, heads and replies, in plain Lean, and that it is what the program does. Heads that are read, more: what is read is a pair, or a head; what reads behind an error. What the functions of the layers 10 and 11 compute, in plain Lean: rules, methods. What the functions of the layers 13 and 26 (lives) compute, in plain Lean. What the small functions of layer 22 compute, in plain Lean. Exchanges, queues, bindings, deeds. What a deed's kind tells. What is wrong with a deed first, in plain Lean. A message's and a deed's bytes, and what is read of bytes, in plain Lean. The bytes of a message and of a deed, both ways, in plain Lean. What is small is gone through: aids for the document's bytes. Which messages and deeds are gone through. Records, printed by program: their cells, and what is read of them. Places in lists; books of exchanges, in plain Lean. Deeds packed; all deeds that are gone through. What is read of bytes is in its ranges. A deed that is read of bytes is in its ranges. Deeds that are written are read again, and no beginning of them is deeds. Deeds unpacked: how many, and that they are gone through. Drafts, in plain Lean. Records, printed by program: their cells, and what is read of them. Records, printed by program: what their cells stand for. Plain lemmas of the second generation: places found in lists. Answers told piece by piece: a call's answer, a part's answer, a branch; the meeting of several ways. Over any program that the table fits; each asks what it lists. Records, printed by program: what their cells stand for. Lists of lists, gone through; places in lists. Plain laws; each asks what it lists. The sum, bit by bit and four bits at a time. From the data that a row's arguments read as to the ground of the walks, and back: a world seen as one that is read alone; integers, texts, bools, structs, slice
-/
import Derived.Test.YtifcilncaepeoaaGreatDoorSessionGatesP2
import Derived.Test.YtifcilncaepeoaaGreatDoorSessionGatesP1
import Derived.Lib.IndexAny
import Derived.ProofKit
import Derived.OpenShut
import Derived.Deep.Slices
import Derived.Carry
import Derived.Lib.LaidTab
import Derived.SizedLaws
set_option linter.unusedVariables false
set_option linter.unusedSimpArgs false
namespace Go.SW.V
open Go.SW
variable {P : Program} {n : Nat} {N : Rest} {H0 : Env} {all rest : List Oper} {Q : Qs} {ks : List Kt} {fF : Nat → PV} {fL : Nat → Blk} {T T' T2 ty d : Nat} {pos : String} {af : Array Edge} {x y z : Operand} {K : St → Prop} {op : Op} {p : PV}
theorem rt {tb : Tb} {rs : List ResultVar} {res : PV} {ps : List PV} {as0 bs : List Nat} (h : resPs tb ⟨fF, fL⟩ rs = some (ps, as0, bs)) (he : as0 = bs) (hp : PLe (tupP ps) res) : Hd P n N H0 (rtK tb rs res) (.ex .ret) [] ⟨fF, fL⟩ := SW.rt (s := ⟨fF, fL⟩) h he hp
theorem call {all rest : List Oper} {Q : Qs} {ks : List Kt} {f : FuncId} {args : List PV} {res : PV} {x : Operand} {xs : Array Operand} {ats : Array TypeId} {ty d : Nat} {pos : String} {af : Array Edge} (h : Fn P H0.g f args res) (ha : argsP fF x xs.toList = some (f, args)) (hd : Nat.blt d n = true) (k : res.wf → Hd P n N H0 Q (.ops all rest) ks ⟨updp fF d res, fL⟩) : Hd P n N H0 Q (.ops all (⟨some d, .call ⟨.value x, xs, ats⟩, ty, pos, af, none⟩ :: rest)) ks ⟨fF, fL⟩ := SW.call (s := ⟨fF, fL⟩) h ha hd k
theorem callg {all rest : List Oper} {Q : Qs} {ks : List Kt} {f : FuncId} {args : List PV} {res : PV} {x : Operand} {xs : Array Operand} {ats : Array TypeId} {ty d j : Nat} {want g : Bool} {pos : String} {af : Array Edge} (hg : gOp ⟨fF, fL⟩ all j want = some g) (h : g = true → Fn P H0.g f args res) (ha : argsP (strG (tmpOf xs.toList) fF) x xs.toList = some (f, args)) (hc : AllP (conds fF g (tmpOf xs.toList) [])) (hno : noOslG fF (tmpOf xs.toList) = true) (hd : Nat.blt d n = true) (k : (g = true → res.wf) → Hd P n N H0 Q (.ops all rest) ks ⟨updp fF d (.gv g res), fL⟩) : Hd P n N H0 Q (.ops all (⟨some d, .call ⟨.value x, xs, ats⟩, ty, pos, af, some (j, want)⟩ :: rest)) ks ⟨fF, fL⟩ := SW.callg (s := ⟨fF, fL⟩) hg h ha hc hno hd k
theorem cnd {Q : Qs} {ks : List Kt} {c : Operand} {x y : Code} {b : Bool} (hc : evP fF c = .bool b) (ht : b = true → Hd P n N H0 Q (.code x) ks ⟨fF, fL⟩) (hf : b = false → Hd P n N H0 Q (.code y) ks ⟨fF, fL⟩) : Hd P n N H0 Q (.code (.cond c x y)) ks ⟨fF, fL⟩ := SW.cnd (s := ⟨fF, fL⟩) hc ht hf
theorem loop {ι : Type _} {c : Code} {ks : List Kt} {Q : Qs} (keep kL : List Nat) (lv : ι → List (Nat × PV)) (lL : ι → List (Nat × Blk)) (Φ : ι → Prop) (μ : ι → Nat) (x0 : ι) (h1 : AllF fF (lv x0)) (h2 : AllL fL (lL x0)) (hΦ : Φ x0) (body : ∀ x, Φ x → Hd P n N H0 Q (.code c) (.lp (LJ (fun x => ⟨mkF (lv x) keep fF, mkL (lL x) kL fL⟩) Φ μ (μ x)) :: ks) ⟨mkF (lv x) keep fF, mkL (lL x) kL fL⟩) : Hd P n N H0 Q (.code (.loop c)) ks ⟨fF, fL⟩ := SW.loop (s := ⟨fF, fL⟩) keep kL lv lL Φ μ x0 h1 h2 hΦ body
theorem ef {o : Oper} {j : Option Nat} (h : E1 P n N H0 all o j ⟨fF, fL⟩ (fun s' => Hd P n N H0 Q (.ops all rest) ks s')) : Hd P n N H0 Q (.ops all (o :: rest)) ks ⟨fF, fL⟩ := SW.ef (s := ⟨fF, fL⟩) h
theorem boxA (i : Nat) {cs : List PV} (hx : evP fF x = .agg cs) (hn : noOsls cs = true) (hd : Nat.blt d n = true) (k : ∀ b, K ⟨updp fF d (.own i b 0), lups fL i (.box b T cs)⟩) : E1 P n N H0 all ⟨some d, .box T x, ty, pos, af, none⟩ (some i) ⟨fF, fL⟩ K := SW.boxA (s := ⟨fF, fL⟩) i hx hn hd k
theorem box1 (i : Nat) {p : PV} (hx : evS (evP fF x) = some p) (ho : p.one = true) (hd : Nat.blt d n = true) (k : ∀ b, K ⟨updp fF d (.own i b 0), lups fL i (.box b T [p])⟩) : E1 P n N H0 all ⟨some d, .box T x, ty, pos, af, none⟩ (some i) ⟨fF, fL⟩ K := SW.box1 (s := ⟨fF, fL⟩) i hx ho hd k
theorem alloc {tb : Tb} {ti : TI} {zs : List PV} (ht : tbB P tb = true) (i : Nat) (hti : lkT tb T = some ti) (hz : evL ti.zero = some zs) (hn : noOsls zs = true) (hd : Nat.blt d n = true) (k : ∀ b, K ⟨updp fF d (.own i b 0), lups fL i (.box b T zs)⟩) : E1 P n N H0 all ⟨some d, .alloc T, ty, pos, af, none⟩ (some i) ⟨fF, fL⟩ K := SW.alloc (s := ⟨fF, fL⟩) ht i hti hz hn hd k
theorem store1 {tb : Tb} {ti : TI} {i b b' off T0 : Nat} {cs cs' : List PV} {p : PV} (ht : tbB P tb = true) (hx : evP fF x = .own i b off) (hb : fL i = .box b' T0 cs) (hti : lkT tb T = some ti) (hsz : ti.size = 1) (hy : evS (evP fF y) = some p) (ho : p.one = true) (hl : Nat.blt off cs.length = true) (hbb : b' = b) (hc : evL (cs.set off p) = some cs') (k : K ⟨fF, lups fL i (.box b T0 cs')⟩) : E1 P n N H0 all ⟨none, .store T x y, ty, pos, af, none⟩ (some i) ⟨fF, fL⟩ K := SW.store1 (s := ⟨fF, fL⟩) ht hx hb hti hsz hy ho hl hbb hc k
theorem storeA {tb : Tb} {ti : TI} {i b b' off T0 : Nat} {cs ps cs' : List PV} (ht : tbB P tb = true) (hx : evP fF x = .own i b off) (hb : fL i = .box b' T0 cs) (hti : lkT tb T = some ti) (hy : evP fF y = .agg ps) (hn : noOsls ps = true) (ho : all1 ps = true) (hsz : ps.length = ti.size) (hl : Nat.ble (off + ti.size) cs.length = true) (hbb : b' = b) (hc : evL (cs.take off ++ (ps ++ cs.drop (off + ti.size))) = some cs') (k : K ⟨fF, lups fL i (.box b T0 cs')⟩) : E1 P n N H0 all ⟨none, .store T x y, ty, pos, af, none⟩ (some i) ⟨fF, fL⟩ K := SW.storeA (s := ⟨fF, fL⟩) ht hx hb hti hy hn ho hsz hl hbb hc k
theorem src_l {α : Type} {enc : α → List PV} {k : Nat} {ys : List α} (hy : evP fF y = .sl enc ys) (hk : ∀ a, (enc a).length = k) : SrcP P N H0 ⟨fF, fL⟩ enc k y ys := SW.src_l (s := ⟨fF, fL⟩) hy hk
theorem src_o {α : Type} {enc : α → List PV} {i e k : Nat} {u : Value} {ys : List α} (hy : evP fF y = .osl i) (hb : fL i = .arr u k e enc ys) : SrcP P N H0 ⟨fF, fL⟩ enc k y ys := SW.src_o (s := ⟨fF, fL⟩) hy hb
theorem app {α : Type} {tb : Tb} {i e k : Nat} {u : Value} {enc : α → List PV} {xs : List α} {te : TI} (ht : tbB P tb = true) (ys : List α) (hx : evP fF x = .osl i) (hb : fL i = .arr u k e enc xs) {ti : TI} (hti : lkT tb T = some ti) (htk : ti.k = .slc e) (hT2 : noIntT tb T2 = true) (hte : lkT tb e = some te) (hz : te.zero.length = te.size) (hby : Nat.blt 0 te.bytes = true) (hk : te.size = k) (hy : SrcP P N H0 ⟨fF, fL⟩ enc k y ys) (hs : (xs.length + ys.length) * te.bytes ≤ 140737488355328) (hd : Nat.blt d n = true) (kk : ∀ u', K ⟨updp (purgeF i fF) d (.osl i), lups (purgeL i fL) i (.arr u' k e enc (xs ++ ys))⟩) : E1 P n N H0 all ⟨some d, .call ⟨.builtin .append, #[x, y], #[T, T2]⟩, ty, pos, af, none⟩ (some i) ⟨fF, fL⟩ K := SW.app (s := ⟨fF, fL⟩) ht ys hx hb hti htk hT2 hte hz hby hk hy hs hd kk
theorem bsl {α : Type} {tb : Tb} (i : Nat) {e len : Nat} {ps : Array (Nat × Operand)} (enc : α → List PV) (xs : List α) {rows : List (List PV)} {ti te : TI} (ht : tbB P tb = true) (hti : lkT tb T = some ti) (htk : ti.k = .slc e) (hte : lkT tb e = some te) (hr : bslP fF ps.toList 0 = some rows) (hx : rows = xs.map enc) (hk : ∀ a, (enc a).length = te.size) (hl : xs.length = len) (hs : len * te.size ≤ 16777216) (hs2 : len ≤ 140737488355328) (hd : Nat.blt d n = true) (kk : ∀ u', K ⟨updp (purgeF i fF) d (.osl i), lups (purgeL i fL) i (.arr u' te.size e enc xs)⟩) : E1 P n N H0 all ⟨some d, .buildSlice T len ps, ty, pos, af, none⟩ (some i) ⟨fF, fL⟩ K := SW.bsl (s := ⟨fF, fL⟩) i enc xs ht hti htk hte hr hx hk hl hs hs2 hd kk
theorem give {α : Type} {e k : Nat} {u : Value} {enc : α → List PV} {xs : List α} (i : Nat) (hb : fL i = .arr u k e enc xs) (kk : Hd P n N H0 Q (.ops all rest) ks ⟨giveF i enc xs fF, giveL i enc xs fL⟩) : Hd P n N H0 Q (.ops all rest) ks ⟨fF, fL⟩ := SW.give (s := ⟨fF, fL⟩) i hb kk
theorem givec {α : Type} {e k : Nat} {u : Value} {enc : α → List PV} {xs : List α} {c : Code} (i : Nat) (hb : fL i = .arr u k e enc xs) (kk : Hd P n N H0 Q (.code c) ks ⟨giveF i enc xs fF, giveL i enc xs fL⟩) : Hd P n N H0 Q (.code c) ks ⟨fF, fL⟩ := SW.givec (s := ⟨fF, fL⟩) i hb kk
theorem calll {α : Type} {e k : Nat} {u : Value} {enc : α → List PV} {ls : List α} {f : FuncId} {args : List PV} {res : PV} {xs : Array Operand} {ats : Array TypeId} (i : Nat) (hb : fL i = .arr u k e enc ls) (h : Fn P H0.g f args res) (hf : res.flat = true) (ha : argsP (giveF i enc ls fF) x xs.toList = some (f, args)) (hd : Nat.blt d n = true) (kk : res.wf → K ⟨updp fF d res, fL⟩) : E1 P n N H0 all ⟨some d, .call ⟨.value x, xs, ats⟩, ty, pos, af, none⟩ none ⟨fF, fL⟩ K := SW.calll (s := ⟨fF, fL⟩) i hb h hf ha hd kk
theorem any (xs : List Nat) (m : Nat) {id : Nat} {ops : Array Oper} (hmx : P.follows .mixedOrders = true) (hm : ops.toList.length = m) (h : Hv P n N H0 Q (some xs) ops.toList m (Array.replicate m false) ks ⟨fF, fL⟩) : Hd P n N H0 Q (.code (.region id ops true)) ks ⟨fF, fL⟩ := SW.any (s := ⟨fF, fL⟩) xs m hmx hm h
theorem vdone {xs : Option (List Nat)} {fuel : Nat} {listed : Array Bool} (h : Region.ready .any all.toArray listed = []) (k : Hd P n N H0 Q (.ex .normal) ks ⟨fF, fL⟩) : Hv P n N H0 Q xs all fuel listed ks ⟨fF, fL⟩ := SW.vdone (s := ⟨fF, fL⟩) h k
theorem vcall {xs : Option (List Nat)} {fuel : Nat} {listed : Array Bool} {f : FuncId} {args : List PV} {res : PV} {as0 : Array Operand} {ats : Array TypeId} (i : Nat) (hi : nth all i = some ⟨some d, .call ⟨.value x, as0, ats⟩, ty, pos, af, none⟩) (hck : (rdB all listed i && apB n all listed i ⟨some d, .call ⟨.value x, as0, ats⟩, ty, pos, af, none⟩ && Nat.blt d n && nosB (.call ⟨.value x, as0, ats⟩)) = true) (h : Fn P H0.g f args res) (hf : res.flat = true) (ha : argsP fF x as0.toList = some (f, args)) (k : res.wf → Hv P n N H0 Q xs all fuel (listed.setIfInBounds i true) ks ⟨updp fF d res, fL⟩) : Hv P n N H0 Q xs all (fuel + 1) listed ks ⟨fF, fL⟩ := SW.vcall (s := ⟨fF, fL⟩) i hi hck h hf ha k
theorem vcallg {xs : Option (List Nat)} {fuel : Nat} {listed : Array Bool} {f : FuncId} {args : List PV} {res : PV} {as0 : Array Operand} {ats : Array TypeId} {j : Nat} {want g : Bool} (i : Nat) (hi : nth all i = some ⟨some d, .call ⟨.value x, as0, ats⟩, ty, pos, af, some (j, want)⟩) (hck : (rdB all listed i && apB n all listed i ⟨some d, .call ⟨.value x, as0, ats⟩, ty, pos, af, some (j, want)⟩ && Nat.blt d n && nosB (.call ⟨.value x, as0, ats⟩)) = true) (hg : gOp ⟨fF, fL⟩ all j want = some g) (h : g = true → Fn P H0.g f args res) (hf : res.flat = true) (ha : argsP (strG (tmpOf as0.toList) fF) x as0.toList = some (f, args)) (hc : AllP (conds fF g (tmpOf as0.toList) [])) (hno : noOslG fF (tmpOf as0.toList) = true) (k : (g = true → res.wf) → Hv P n N H0 Q xs all fuel (listed.setIfInBounds i true) ks ⟨updp fF d (.gv g res), fL⟩) : Hv P n N H0 Q xs all (fuel + 1) listed ks ⟨fF, fL⟩ := SW.vcallg (s := ⟨fF, fL⟩) i hi hck hg h hf ha hc hno k
theorem ve {xs : List Nat} {fuel : Nat} {listed : Array Bool} {o : Oper} {j : Option Nat} (i : Nat) (hi : nth all i = some o) (hr : Region.ready .any all.toArray listed = [i]) (hj : (match j with | none => true | some j => memB xs j) = true) (h : E1 P n N H0 all o j ⟨fF, fL⟩ (fun s' => Hv P n N H0 Q (some xs) all fuel (listed.setIfInBounds i true) ks s')) : Hv P n N H0 Q (some xs) all (fuel + 1) listed ks ⟨fF, fL⟩ := SW.ve (s := ⟨fF, fL⟩) i hi hr hj h
theorem vt {xs : Option (List Nat)} {fuel : Nat} {listed : Array Bool} {o : Oper} {j : Option Nat} (i : Nat) (hi : nth all i = some o) (hr : Region.ready .any all.toArray listed = [i]) (ht : tailB all listed i = true) (h : E1 P n N H0 all o j ⟨fF, fL⟩ (fun s' => Hv P n N H0 Q none all fuel (listed.setIfInBounds i true) ks s')) : Hv P n N H0 Q xs all (fuel + 1) listed ks ⟨fF, fL⟩ := SW.vt (s := ⟨fF, fL⟩) i hi hr ht h
theorem vtp {xs : Option (List Nat)} {fuel : Nat} {listed : Array Bool} {o : Oper} {j : Option Nat} (i : Nat) (hi : nth all i = some o) (hr : Region.ready .any all.toArray listed = [i]) (ht : tailP all listed i = true) (h : E1 P n N H0 all o j ⟨fF, fL⟩ (fun s' => Hv P n N H0 Q none all fuel (listed.setIfInBounds i true) ks s')) : Hv P n N H0 Q xs all (fuel + 1) listed ks ⟨fF, fL⟩ := SW.vtp (s := ⟨fF, fL⟩) i hi hr ht h
theorem ecall {f : FuncId} {args : List PV} {res : PV} {as0 : Array Operand} {ats : Array TypeId} (h : Fn P H0.g f args res) (ha : argsP fF x as0.toList = some (f, args)) (hd : Nat.blt d n = true) (k : res.wf → K ⟨updp fF d res, fL⟩) : E1 P n N H0 all ⟨some d, .call ⟨.value x, as0, ats⟩, ty, pos, af, none⟩ none ⟨fF, fL⟩ K := SW.ecall (s := ⟨fF, fL⟩) h ha hd k
theorem q1 (h : Qy P N H0 ⟨fF, fL⟩ op ty p) (hd : Nat.blt d n = true) (k : p.wf → Hd P n N H0 Q (.ops all rest) ks ⟨updp fF d p, fL⟩) : Hd P n N H0 Q (.ops all (⟨some d, op, ty, pos, af, none⟩ :: rest)) ks ⟨fF, fL⟩ := SW.q1 (s := ⟨fF, fL⟩) h hd k
theorem vq {xs : Option (List Nat)} {fuel : Nat} {listed : Array Bool} (i : Nat) (h : Qy P N H0 ⟨fF, fL⟩ op ty p) (hi : nth all i = some ⟨some d, op, ty, pos, af, none⟩) (hck : (rdB all listed i && apB n all listed i ⟨some d, op, ty, pos, af, none⟩ && Nat.blt d n && nosB op) = true) (hl : looksB op = false) (k : p.wf → Hv P n N H0 Q xs all fuel (listed.setIfInBounds i true) ks ⟨updp fF d p, fL⟩) : Hv P n N H0 Q xs all (fuel + 1) listed ks ⟨fF, fL⟩ := SW.vq (s := ⟨fF, fL⟩) i h hi hck hl k
theorem q1g {j : Nat} {want g : Bool} (ts : List Nat) (hg : gOp ⟨fF, fL⟩ all j want = some g) (h : g = true → Qy P N H0 (strS ts ⟨fF, fL⟩) op ty p) (hc : AllP (conds fF g ts [])) (hno : noOslG fF ts = true) (hpo : p.noOsl = true) (hd : Nat.blt d n = true) (k : (g = true → p.wf) → Hd P n N H0 Q (.ops all rest) ks ⟨updp fF d (.gv g p), fL⟩) : Hd P n N H0 Q (.ops all (⟨some d, op, ty, pos, af, some (j, want)⟩ :: rest)) ks ⟨fF, fL⟩ := SW.q1g (s := ⟨fF, fL⟩) ts hg h hc hno hpo hd k
theorem vqg {xs : Option (List Nat)} {fuel : Nat} {listed : Array Bool} {j : Nat} {want g : Bool} (i : Nat) (ts : List Nat) (hi : nth all i = some ⟨some d, op, ty, pos, af, some (j, want)⟩) (hck : (rdB all listed i && apB n all listed i ⟨some d, op, ty, pos, af, some (j, want)⟩ && Nat.blt d n && nosB op) = true) (hl : looksB op = false) (hg : gOp ⟨fF, fL⟩ all j want = some g) (h : g = true → Qy P N H0 (strS ts ⟨fF, fL⟩) op ty p) (hc : AllP (conds fF g ts [])) (hno : noOslG fF ts = true) (k : (g = true → p.wf) → Hv P n N H0 Q xs all fuel (listed.setIfInBounds i true) ks ⟨updp fF d (.gv g p), fL⟩) : Hv P n N H0 Q xs all (fuel + 1) listed ks ⟨fF, fL⟩ := SW.vqg (s := ⟨fF, fL⟩) i ts hi hck hl hg h hc hno k
theorem sidx {tb : Tb} {ti : TI} {a : Bs} {k : IntKind} {i : Int} (ht : tbB P tb = true) (m : Nat) (hx : evP fF x = .str a) (hy : evP fF y = .int k i) (hti : lkT tb T = some ti) (htk : ti.k = .str) (hi : i = m) (hm : m < a.length) : Qy P N H0 ⟨fF, fL⟩ (.index T x y) ty (.int .u8 (a.getD m 0).toNat) := SW.sidx (s := ⟨fF, fL⟩) ht m hx hy hti htk hi hm
theorem sslo {tb : Tb} {ti : TI} {a : Bs} {k : IntKind} {i : Int} (ht : tbB P tb = true) (m : Nat) (hx : evP fF x = .str a) (hy : evP fF y = .int k i) (hti : lkT tb T = some ti) (htk : ti.k = .str) (hi : i = m) (hm : m ≤ a.length) : Qy P N H0 ⟨fF, fL⟩ (.slice T x (some y) none none) ty (.str (a.drop m)) := SW.sslo (s := ⟨fF, fL⟩) ht m hx hy hti htk hi hm
theorem sshi {tb : Tb} {ti : TI} {a : Bs} {k : IntKind} {i : Int} (ht : tbB P tb = true) (m : Nat) (hx : evP fF x = .str a) (hy : evP fF y = .int k i) (hti : lkT tb T = some ti) (htk : ti.k = .str) (hi : i = m) (hm : m ≤ a.length) : Qy P N H0 ⟨fF, fL⟩ (.slice T x none (some y) none) ty (.str (a.take m)) := SW.sshi (s := ⟨fF, fL⟩) ht m hx hy hti htk hi hm
theorem ssl {tb : Tb} {ti : TI} {a : Bs} {k k' : IntKind} {i j : Int} (ht : tbB P tb = true) (m q : Nat) (hx : evP fF x = .str a) (hy : evP fF y = .int k i) (hz : evP fF z = .int k' j) (hti : lkT tb T = some ti) (htk : ti.k = .str) (hi : i = m) (hj : j = q) (hm : m ≤ q) (hq : q ≤ a.length) : Qy P N H0 ⟨fF, fL⟩ (.slice T x (some y) (some z) none) ty (.str ((a.drop m).take (q - m))) := SW.ssl (s := ⟨fF, fL⟩) ht m q hx hy hz hti htk hi hj hm hq
theorem qidx {α : Type} {tb : Tb} {ti te : TI} {e : TypeId} {enc : α → List PV} {xs : List α} {kk : IntKind} {i : Int} (ht : tbB P tb = true) (m : Nat) {a : α} (hx : evP fF x = .sl enc xs) (hy : evP fF y = .int kk i) (hm : i = m) (ha : xs[m]? = some a) (hti : lkT tb T = some ti) (hk : ti.k = .slc e) (hte : lkT tb e = some te) (hsz : te.size = (enc a).length) : Qy P N H0 ⟨fF, fL⟩ (.indexAddr T x y) ty (.el (enc a) 0) := SW.qidx (s := ⟨fF, fL⟩) ht m hx hy hm ha hti hk hte hsz
theorem lslo {α : Type} {tb : Tb} {ti te : TI} {e : TypeId} {enc : α → List PV} {xs : List α} {k : IntKind} {i : Int} (ht : tbB P tb = true) (m : Nat) (hx : evP fF x = .sl enc xs) (hy : evP fF y = .int k i) (hti : lkT tb T = some ti) (htk : ti.k = .slc e) (hte : lkT tb e = some te) (hw : ∀ a, (enc a).length = te.size) (hi : i = m) (hm : m ≤ xs.length) : Qy P N H0 ⟨fF, fL⟩ (.slice T x (some y) none none) ty (.sl enc (xs.drop m)) := SW.lslo (s := ⟨fF, fL⟩) ht m hx hy hti htk hte hw hi hm
theorem lshi {α : Type} {tb : Tb} {ti te : TI} {e : TypeId} {enc : α → List PV} {xs : List α} {k : IntKind} {i : Int} (ht : tbB P tb = true) (m : Nat) (hx : evP fF x = .sl enc xs) (hy : evP fF y = .int k i) (hti : lkT tb T = some ti) (htk : ti.k = .slc e) (hte : lkT tb e = some te) (hw : ∀ a, (enc a).length = te.size) (hi : i = m) (hm : m ≤ xs.length) : Qy P N H0 ⟨fF, fL⟩ (.slice T x none (some y) none) ty (.sl enc (xs.take m)) := SW.lshi (s := ⟨fF, fL⟩) ht m hx hy hti htk hte hw hi hm
theorem lnil {α : Type} {tb : Tb} {ti : TI} {e : TypeId} {enc : α → List PV} {xs : List α} (ht : tbB P tb = true) (hx : evP fF x = .sl enc xs) (hy : evP fF y = .val (.slice none 0 0)) (hti : lkT tb T = some ti) (htk : ti.k = .slc e) (hd : Nat.blt d n = true) (k : ∀ b, (b = true → xs = []) → K ⟨updp fF d (.bool b), fL⟩) : E1 P n N H0 all ⟨some d, .binOp .eql T x y T', ty, pos, af, none⟩ none ⟨fF, fL⟩ K := SW.lnil (s := ⟨fF, fL⟩) ht hx hy hti htk hd k
theorem saeq {ps qs : List PV} {r : Bool} (hx : evP fF x = .agg ps) (hy : evP fF y = .agg qs) (hm : P.eqGuardType P.depth T = false) (h : ∀ H vs us, Sims H ps vs → Sims H qs us → EqV P 10000 T (.agg vs.toArray) (.agg us.toArray) r) : Qy P N H0 ⟨fF, fL⟩ (.binOp .eql T x y T') ty (.bool r) := SW.saeq (s := ⟨fF, fL⟩) hx hy hm h
theorem sane {ps qs : List PV} {r : Bool} (hx : evP fF x = .agg ps) (hy : evP fF y = .agg qs) (hm : P.eqGuardType P.depth T = false) (h : ∀ H vs us, Sims H ps vs → Sims H qs us → EqV P 10000 T (.agg vs.toArray) (.agg us.toArray) r) : Qy P N H0 ⟨fF, fL⟩ (.binOp .neq T x y T') ty (.bool (!r)) := SW.sane (s := ⟨fF, fL⟩) hx hy hm h
theorem ss2b {tb : Tb} {ti td te : TI} {e : Nat} {a : Bs} (ht : tbB P tb = true) (hx : evP fF x = .str a) (hti : lkT tb T = some ti) (htk : ti.k = .str) (htd : lkT tb T' = some td) (hdk : td.k = .slc e) (hte : lkT tb e = some te) (hek : te.k = .int .u8) (hl : a.length ≤ 140737488355328) (hd : Nat.blt d n = true) (k : K ⟨updp fF d (.sl u8c a), fL⟩) : E1 P n N H0 all ⟨some d, .convert T T' x, ty, pos, af, none⟩ none ⟨fF, fL⟩ K := SW.ss2b (s := ⟨fF, fL⟩) ht hx hti htk htd hdk hte hek hl hd k
theorem so_rt {t : Nat} {p' : PV} (h : PLe (fF t) p') (hn : p'.noOsl = true) (k : Hd P n N H0 Q (.ops all rest) ks ⟨updp fF t p', fL⟩) : Hd P n N H0 Q (.ops all rest) ks ⟨fF, fL⟩ := SW.so_rt (s := ⟨fF, fL⟩) h hn k
theorem sw_own {α : Type} {t k e : Nat} {c : Code} (i : Nat) (enc : α → List PV) (hF : fF t = .val (.slice none 0 0)) (hno : fL i = .no) (kk : Hd P n N H0 Q (.code c) ks ⟨updp (purgeF i fF) t (.osl i), lups (purgeL i fL) i (.arr (.slice none 0 0) k e enc [])⟩) : Hd P n N H0 Q (.code c) ks ⟨fF, fL⟩ := SW.sw_own (s := ⟨fF, fL⟩) i enc hF hno kk
theorem qadd {k : IntKind} {a b : Int} (hx : evP fF x = .int k a) (hy : evP fF y = .int k b) (h : k.min ≤ a + b ∧ a + b ≤ k.max) : Qy P N H0 ⟨fF, fL⟩ (.binOp .add T x y T') ty (.int k (a + b)) := SW.qadd (s := ⟨fF, fL⟩) hx hy h
theorem qsub {k : IntKind} {a b : Int} (hx : evP fF x = .int k a) (hy : evP fF y = .int k b) (h : k.min ≤ a - b ∧ a - b ≤ k.max) : Qy P N H0 ⟨fF, fL⟩ (.binOp .sub T x y T') ty (.int k (a - b)) := SW.qsub (s := ⟨fF, fL⟩) hx hy h
theorem qconv {tb : Tb} {ti td : TI} {k k' : IntKind} {a : Int} (ht : tbB P tb = true) (hx : evP fF x = .int k a) (hti : lkT tb T = some ti) (htd : lkT tb T' = some td) (hk : td.k = .int k') (h : k'.min ≤ a ∧ a ≤ k'.max) : Qy P N H0 ⟨fF, fL⟩ (.convert T T' x) ty (.int k' a) := SW.qconv (s := ⟨fF, fL⟩) ht hx hti htd hk h
theorem ecallm {f : FuncId} {args pre post : List PV} {res : PV} {as0 : Array Operand} {ats : Array TypeId} {i b b' T0 off : Nat} (h : Fm P H0.g f args T0 pre res post) (ha : argsP fF x as0.toList = some (f, .own i b off :: args)) (hoff : off = 0) (hb : fL i = .box b' T0 pre) (hbb : b' = b) (hd : Nat.blt d n = true) (k : res.wf → PV.wfs post → K ⟨updp fF d res, lups fL i (.box b T0 post)⟩) : E1 P n N H0 all ⟨some d, .call ⟨.value x, as0, ats⟩, ty, pos, af, none⟩ (some i) ⟨fF, fL⟩ K := SW.ecallm (s := ⟨fF, fL⟩) h ha hoff hb hbb hd k
theorem rb {tb : Tb} {rs : List ResultVar} {b b' j off T : Nat} {post q : List PV} (h : resPs tb ⟨fF, fL⟩ rs = some ([.own j b off], [], [])) (ho : off = 0) (hb : fL j = .box b' T q) (hbb : b' = b) (hn : noOsls q = true) (hq : PLes q post) : Hd P n N H0 (rbK tb rs T post) (.ex .ret) [] ⟨fF, fL⟩ := SW.rb (s := ⟨fF, fL⟩) h ho hb hbb hn hq
theorem ecallb {f : FuncId} {args post : List PV} {as0 : Array Operand} {ats : Array TypeId} {T0 : Nat} (i : Nat) (h : Fb P H0.g f args T0 post) (ha : argsP fF x as0.toList = some (f, args)) (hd : Nat.blt d n = true) (k : PV.wfs post → ∀ b, K ⟨updp fF d (.own i b 0), lups fL i (.box b T0 post)⟩) : E1 P n N H0 all ⟨some d, .call ⟨.value x, as0, ats⟩, ty, pos, af, none⟩ (some i) ⟨fF, fL⟩ K := SW.ecallb (s := ⟨fF, fL⟩) i h ha hd k
theorem cndT {c : Operand} {x y : Code} {b : Bool} (hc : evP fF c = .bool b) (hb : b = true) (k : Hd P n N H0 Q (.code x) ks ⟨fF, fL⟩) : Hd P n N H0 Q (.code (.cond c x y)) ks ⟨fF, fL⟩ := SW.cndT (s := ⟨fF, fL⟩) hc hb k
theorem cndF {c : Operand} {x y : Code} {b : Bool} (hc : evP fF c = .bool b) (hb : b = false) (k : Hd P n N H0 Q (.code y) ks ⟨fF, fL⟩) : Hd P n N H0 Q (.code (.cond c x y)) ks ⟨fF, fL⟩ := SW.cndF (s := ⟨fF, fL⟩) hc hb k
theorem rt1 {tb : Tb} {rs : List ResultVar} {res p : PV} {as0 bs : List Nat} (h : resPs tb ⟨fF, fL⟩ rs = some ([p], as0, bs)) (he : as0 = bs) (hp : PLe p res) : Hd P n N H0 (rtK tb rs res) (.ex .ret) [] ⟨fF, fL⟩ := SW.rt1 (s := ⟨fF, fL⟩) h he hp
theorem rt2 {tb : Tb} {rs : List ResultVar} {res p q : PV} {as0 bs : List Nat} (h : resPs tb ⟨fF, fL⟩ rs = some ([p, q], as0, bs)) (he : as0 = bs) (hp : PLe (.tup [p, q]) res) : Hd P n N H0 (rtK tb rs res) (.ex .ret) [] ⟨fF, fL⟩ := SW.rt2 (s := ⟨fF, fL⟩) h he hp
theorem rt3 {tb : Tb} {rs : List ResultVar} {res p q r : PV} {as0 bs : List Nat} (h : resPs tb ⟨fF, fL⟩ rs = some ([p, q, r], as0, bs)) (he : as0 = bs) (hp : PLe (.tup [p, q, r]) res) : Hd P n N H0 (rtK tb rs res) (.ex .ret) [] ⟨fF, fL⟩ := SW.rt3 (s := ⟨fF, fL⟩) h he hp
theorem freeze {i t b b' off T0 : Nat} {cs : List PV} (hF : fF t = .own i b off) (hL : fL i = .box b' T0 cs) (hbb : b' = b) (hn : noOsls cs = true) (k : Hd P n N H0 Q (.ops all rest) ks ⟨updp fF t (.el cs off), lups fL i .no⟩) : Hd P n N H0 Q (.ops all rest) ks ⟨fF, fL⟩ := SW.freeze (s := ⟨fF, fL⟩) hF hL hbb hn k
theorem qpeq {x y : Operand} {T T' ty i b o : Nat} {e : TypeId} (hT : P.underlying T = some (.pointer e)) (hx : evP fF x = .own i b o) (hy : evP fF y = .val (.pointer none)) : Qy P N H0 ⟨fF, fL⟩ (.binOp .eql T x y T') ty (.bool false) := SW.qpeq (s := ⟨fF, fL⟩) hT hx hy
theorem qpne {x y : Operand} {T T' ty i b o : Nat} {e : TypeId} (hT : P.underlying T = some (.pointer e)) (hx : evP fF x = .own i b o) (hy : evP fF y = .val (.pointer none)) : Qy P N H0 ⟨fF, fL⟩ (.binOp .neq T x y T') ty (.bool true) := SW.qpne (s := ⟨fF, fL⟩) hT hx hy
theorem rm1 {tb : Tb} {rs : List ResultVar} {res p : PV} {b b' T : Nat} {post q : List PV} {as0 bs : List Nat} (h : resPs tb ⟨fF, fL⟩ rs = some ([p], as0, bs)) (he : as0 = bs) (hp : PLe p res) (hb : fL 0 = .box b' T q) (hbb : b' = b) (hn : noOsls q = true) (hq : PLes q post) : Hd P n N H0 (rmK tb rs res b T post) (.ex .ret) [] ⟨fF, fL⟩ := SW.rm1 (s := ⟨fF, fL⟩) h he hp hb hbb hn hq
theorem rm0n {tb : Tb} {rs : List ResultVar} {res : PV} {b b' T : Nat} {post q : List PV} {as0 bs : List Nat} (h : resPs tb ⟨fF, fL⟩ rs = some ([], as0, bs)) (he : as0 = bs) (hp : PLe (.tup []) res) (hb : fL 0 = .box b' T q) (hbb : b' = b) (hn : noOsls q = true) (hq : PLes q post) : Hd P n N H0 (rmK tb rs res b T post) (.ex .normal) [] ⟨fF, fL⟩ := SW.rm0n (s := ⟨fF, fL⟩) h he hp hb hbb hn hq
theorem qgtab {kk : IntKind} {i : Int} {g len m : Nat} {e : TypeId} (tab : List Int) (hr : ∀ z ∈ tab, IntKind.u32.min ≤ z ∧ z ≤ IntKind.u32.max) (hG : ∀ H, H0.g.p H → GTab H g tab) (hy : evP fF y = .int kk i) (hT : P.underlying T = some (.array len e)) (hk : Sz P e 1) (hi : i = (m : Int)) (hm : m < len) (hl : tab.length = len) : Qy P N H0 ⟨fF, fL⟩ (.indexAddr T (.global g) y) ty (.el [.int .u32 (tab.getD m 0)] 0) := SW.qgtab (s := ⟨fF, fL⟩) tab hr hG hy hT hk hi hm hl
theorem qgstr {kk : IntKind} {i : Int} {g len m : Nat} {e : TypeId} (tab : List Bs) (hr : ∀ z ∈ tab, z.length ≤ 9223372036854775807) (hG : ∀ H, H0.g.p H → GStrs H g tab) (hy : evP fF y = .int kk i) (hT : P.underlying T = some (.array len e)) (hk : Sz P e 1) (hi : i = (m : Int)) (hm : m < len) (hl : tab.length = len) : Qy P N H0 ⟨fF, fL⟩ (.indexAddr T (.global g) y) ty (.el [.str (tab.getD m [])] 0) := SW.qgstr (s := ⟨fF, fL⟩) tab hr hG hy hT hk hi hm hl
theorem ecallo {α : Type} {f : FuncId} {args : List PV} {res : Value → PV} {k e : Nat} {enc : α → List PV} {xs : List α} {as0 : Array Operand} {ats : Array TypeId} (i : Nat) (h : Fo P H0.g f args res k e enc xs) (ha : argsP fF x as0.toList = some (f, args)) (hd : Nat.blt d n = true) (kk : ∀ u, (res u).wf → K ⟨updp (purgeF i fF) d (res u), lups (purgeL i fL) i (.arr u k e enc xs)⟩) : E1 P n N H0 all ⟨some d, .call ⟨.value x, as0, ats⟩, ty, pos, af, none⟩ (some i) ⟨fF, fL⟩ K := SW.ecallo (s := ⟨fF, fL⟩) i h ha hd kk
theorem so_osl {α : Type} {t k e : Nat} {u : Value} {enc : α → List PV} {xs : List α} (i : Nat) (hF : fF t = .val u) (hL : fL i = .arr u k e enc xs) (kk : Hd P n N H0 Q (.ops all rest) ks ⟨updp fF t (.osl i), fL⟩) : Hd P n N H0 Q (.ops all rest) ks ⟨fF, fL⟩ := SW.so_osl (s := ⟨fF, fL⟩) i hF hL kk
theorem sw_osl {α : Type} {t k e : Nat} {u : Value} {enc : α → List PV} {xs : List α} {c : Code} (i : Nat) (hF : fF t = .val u) (hL : fL i = .arr u k e enc xs) (kk : Hd P n N H0 Q (.code c) ks ⟨updp fF t (.osl i), fL⟩) : Hd P n N H0 Q (.code c) ks ⟨fF, fL⟩ := SW.sw_osl (s := ⟨fF, fL⟩) i hF hL kk
theorem sw_val {α : Type} {t i k e : Nat} {u : Value} {enc : α → List PV} {xs : List α} {c : Code} (hF : fF t = .osl i) (hL : fL i = .arr u k e enc xs) (kk : Hd P n N H0 Q (.code c) ks ⟨updp fF t (.val u), fL⟩) : Hd P n N H0 Q (.code c) ks ⟨fF, fL⟩ := SW.sw_val (s := ⟨fF, fL⟩) hF hL kk
theorem ro1 {α : Type} {tb : Tb} {rs : List ResultVar} {u : Value} {k e j : Nat} {enc : α → List PV} {xs xs' : List α} {as0 bs : List Nat} (h : resPs tb ⟨fF, fL⟩ rs = some ([.val u], as0, bs)) (he : as0 = bs) (hL : fL j = .arr u k e enc xs') (hx : xs' = xs) : Hd P n N H0 (foK tb rs (fun u => .val u) k e enc xs) (.ex .ret) [] ⟨fF, fL⟩ := SW.ro1 (s := ⟨fF, fL⟩) h he hL hx
theorem ro2 {α : Type} {tb : Tb} {rs : List ResultVar} {p p' : PV} {u : Value} {k e j : Nat} {enc : α → List PV} {xs xs' : List α} {as0 bs : List Nat} (h : resPs tb ⟨fF, fL⟩ rs = some ([p, .val u], as0, bs)) (he : as0 = bs) (hL : fL j = .arr u k e enc xs') (hx : xs' = xs) (hp : PLe p p') : Hd P n N H0 (foK tb rs (fun u => .tup [p', .val u]) k e enc xs) (.ex .ret) [] ⟨fF, fL⟩ := SW.ro2 (s := ⟨fF, fL⟩) h he hL hx hp
theorem ecallg {f : FuncId} {args : List PV} {res : PV} {x : Operand} {xs : Array Operand} {ats : Array TypeId} {ty d j : Nat} {want g : Bool} {pos : String} {af : Array Edge} (hg : gOp ⟨fF, fL⟩ all j want = some g) (h : g = true → Fn P H0.g f args res) (ha : argsP (strG (tmpOf xs.toList) fF) x xs.toList = some (f, args)) (hc : AllP (conds fF g (tmpOf xs.toList) [])) (hno : noOslG fF (tmpOf xs.toList) = true) (hd : Nat.blt d n = true) (k : (g = true → res.wf) → K ⟨updp fF d (.gv g res), fL⟩) : E1 P n N H0 all ⟨some d, .call ⟨.value x, xs, ats⟩, ty, pos, af, some (j, want)⟩ none ⟨fF, fL⟩ K := SW.ecallg (s := ⟨fF, fL⟩) hg h ha hc hno hd k
theorem ungd {od : Option Nat} {op : Op} {ty j : Nat} {pos : String} {af : Array Edge} {want g : Bool} (hg : gOp ⟨fF, fL⟩ all j want = some g) (ht : g = true) (k : Hd P n N H0 Q (.ops all (⟨od, op, ty, pos, af, none⟩ :: rest)) ks ⟨fF, fL⟩) : Hd P n N H0 Q (.ops all (⟨od, op, ty, pos, af, some (j, want)⟩ :: rest)) ks ⟨fF, fL⟩ := SW.ungd (s := ⟨fF, fL⟩) hg ht k
theorem ungs {op : Op} {ty j d : Nat} {pos : String} {af : Array Edge} {want g : Bool} (hg : gOp ⟨fF, fL⟩ all j want = some g) (ht : g = false) (hd : Nat.blt d n = true) (k : Hd P n N H0 Q (.ops all rest) ks ⟨updp fF d .junk, fL⟩) : Hd P n N H0 Q (.ops all (⟨some d, op, ty, pos, af, some (j, want)⟩ :: rest)) ks ⟨fF, fL⟩ := SW.ungs (s := ⟨fF, fL⟩) hg ht hd k
theorem qlen0 {tb : Tb} {ti : TI} {e : Nat} (ht : tbB P tb = true) (hx : evP fF x = .val (.slice none 0 0)) (hti : lkT tb T = some ti) (htk : ti.k = .slc e) : Qy P N H0 ⟨fF, fL⟩ (.call ⟨.builtin .len, #[x], #[T]⟩) ty (.int .i64 0) := SW.qlen0 (s := ⟨fF, fL⟩) ht hx hti htk
theorem qcap0 {tb : Tb} {ti : TI} {e : Nat} (ht : tbB P tb = true) (hx : evP fF x = .val (.slice none 0 0)) (hti : lkT tb T = some ti) (htk : ti.k = .slc e) : Qy P N H0 ⟨fF, fL⟩ (.call ⟨.builtin .cap, #[x], #[T]⟩) ty (.int .i64 0) := SW.qcap0 (s := ⟨fF, fL⟩) ht hx hti htk
theorem qcut0 {tb : Tb} {ti te : TI} {e : Nat} {k : IntKind} {i : Int} (ht : tbB P tb = true) (hx : evP fF x = .val (.slice none 0 0)) (hy : evP fF y = .int k i) (hti : lkT tb T = some ti) (htk : ti.k = .slc e) (hte : lkT tb e = some te) (hi : i = 0) : Qy P N H0 ⟨fF, fL⟩ (.slice T x none (some y) none) ty (.val (.slice none 0 0)) := SW.qcut0 (s := ⟨fF, fL⟩) ht hx hy hti htk hte hi
theorem appz {tb : Tb} (i : Nat) {e m : Nat} {te ti t2 : TI} {k1 k2 : IntKind} {q : Int} (ht : tbB P tb = true) (hx : evP fF x = .val (.slice none 0 0)) (hy : evP fF y = .int k1 q) (hti : lkT tb T = some ti) (htk : ti.k = .slc e) (ht2 : lkT tb T2 = some t2) (ht2k : t2.k = .int k2) (hte : lkT tb e = some te) (hz : te.zero.length = te.size) (hone : all1 te.zero = true) (hby : Nat.blt 0 te.bytes = true) (hq : q = (m : Int)) (hm0 : 0 < m) (hbd : m * te.bytes ≤ 140737488355328) (hd : Nat.blt d n = true) (hno : fL i = .no) (kk : ∀ u', K ⟨updp (purgeF i fF) d (.osl i), lups (purgeL i fL) i (.arr u' te.size e (jrow te.size) (List.replicate m ()))⟩) : E1 P n N H0 all ⟨some d, .call ⟨.builtin .append, #[x, y], #[T, T2]⟩, ty, pos, af, none⟩ (some i) ⟨fF, fL⟩ K := SW.appz (s := ⟨fF, fL⟩) i ht hx hy hti htk ht2 ht2k hte hz hone hby hq hm0 hbd hd hno kk
theorem ocut {α β : Type} {tb : Tb} {i e k : Nat} {u : Value} {enc : α → List PV} {xs : List α} {te ti : TI} {k1 : IntKind} {q : Int} (enc' : β → List PV) (ht : tbB P tb = true) (hx : evP fF x = .osl i) (hb : fL i = .arr u k e enc xs) (hy : evP fF y = .int k1 q) (hti : lkT tb T = some ti) (htk : ti.k = .slc e) (hte : lkT tb e = some te) (hq : q = 0) (hd : Nat.blt d n = true) (kk : ∀ u', K ⟨updp (purgeF i fF) d (.osl i), lups (purgeL i fL) i (.arr u' k e enc' [])⟩) : E1 P n N H0 all ⟨some d, .slice T x none (some y) none, ty, pos, af, none⟩ (some i) ⟨fF, fL⟩ K := SW.ocut (s := ⟨fF, fL⟩) enc' ht hx hb hy hti htk hte hq hd kk
theorem ecallw {α : Type} {f : FuncId} {args : List PV} {res : Value → PV} {i k e k2 e2 : Nat} {enc : α → List PV} {xs ys : List α} {u : Value} {as0 : Array Operand} {ats : Array TypeId} (h : Fl P H0.g f args res k e enc xs ys) (hx : evP fF x = .fn f [] []) (ha : evPs fF as0.toList = .osl i :: args) (hb : fL i = .arr u k2 e2 enc xs) (hk : k2 = k) (he2 : e2 = e) (hd : Nat.blt d n = true) (kk : ∀ u', (res u').wf → K ⟨updp (purgeF i fF) d (res u'), lups (purgeL i fL) i (.arr u' k e enc ys)⟩) : E1 P n N H0 all ⟨some d, .call ⟨.value x, as0, ats⟩, ty, pos, af, none⟩ (some i) ⟨fF, fL⟩ K := SW.ecallw (s := ⟨fF, fL⟩) h hx ha hb hk he2 hd kk
theorem next {ι : Type _} {keep kL : List Nat} {G : Nat → PV} {GL : Nat → Blk} {lv : ι → List (Nat × PV)} {lL : ι → List (Nat × Blk)} {Φ : ι → Prop} {μ : ι → Nat} {m : Nat} {ks : List Kt} {Q : Qs} (x' : ι) (h1 : keep.map fF = keep.map G) (h2 : kL.map fL = kL.map GL) (h3 : AllF fF (lv x')) (h4 : AllL fL (lL x')) (hm : μ x' < m) (hΦ : Φ x') : Hd P n N H0 Q (.ex .normal) (.lp (LJ (fun x => ⟨mkF (lv x) keep G, mkL (lL x) kL GL⟩) Φ μ m) :: ks) ⟨fF, fL⟩ := SW.next (s := ⟨fF, fL⟩) x' h1 h2 h3 h4 hm hΦ
theorem go {tb : Tb} (ht : tbB P tb = true) (k : Nat) {c c' : Cf} {ks' : List Kt} {F' : Nat → PV} {L' : Nat → Blk} {ps : List Prop} {as0 bs : List Nat} (h : run tb n k c ks fF fL [] [] [] = some ⟨c', ks', F', L', ps, as0, bs⟩) (he : as0 = bs) (hp : AllP ps) (next : Hd P n N H0 Q c' ks' ⟨F', L'⟩) : Hd P n N H0 Q c ks ⟨fF, fL⟩ := SW.go ht k h he hp next
theorem gov {tb : Tb} (ht : tbB P tb = true) (order : List Nat) (f : Nat) {xs : Option (List Nat)} {fuel : Nat} {listed : Array Bool} {F' : Nat → PV} {L' : Nat → Blk} {ps : List Prop} {as0 bs : List Nat} (hf : fuel = f + order.length) (hc : chkV n all order listed = true) (h : runV tb xs all order fF fL [] [] [] = some ⟨F', L', ps, as0, bs⟩) (he : as0 = bs) (hp : AllP ps) (next : Hv P n N H0 Q xs all f (lst listed order) ks ⟨F', L'⟩) : Hv P n N H0 Q xs all fuel listed ks ⟨fF, fL⟩ := SW.gov ht order f hf hc h he hp next
end Go.SW.V
namespace Go.SW
theorem inRaw_ok {i : In} {n : Int} (h : (inRaw i n).2.err = 0) : i.err = 0 ∧ ((inRaw i n).1.length : Int) = max n 0 ∧ i.s = (inRaw i n).1 ++ (inRaw i n).2.s := by
  unfold inRaw at *
  split at h
  · rename_i hc
    rw [if_pos hc]
    have h' : i.err = 0 := h
    refine ⟨h', ?_, by simp⟩
    simp; omega
  · rename_i hc
    rw [if_neg hc]
    split at h
    · cases h
    · rename_i hl
      rw [if_neg hl]
      have h' : i.err = 0 := h
      refine ⟨h', ?_, by simp⟩
      simp; omega
theorem inNum_ok {i : In} {b : Int} (h : (inNum i b).2.err = 0) : i.err = 0 ∧ (i.s.length : Int) = max (min b 8) 0 + (inNum i b).2.s.length := by
  obtain ⟨h1, h2, h3⟩ := inRaw_ok (i := i) (n := min b 8) h
  refine ⟨h1, ?_⟩
  have := congrArg List.length h3
  rw [List.length_append] at this
  simp only [inNum]; omega
theorem inFail_ok {i : In} {c : Int} (hc : c ≠ 0) (h : (inFail i c).err = 0) : False := by
  unfold inFail at h
  split at h
  · exact hc h
  · rename_i hn; exact hn ⟨h, hc⟩
theorem inText_ok {i : In} {m : Int} (h : (inText i m).2.err = 0) : i.err = 0 ∧ (i.s.length : Int) = 2 + (inText i m).1.length + (inText i m).2.s.length ∧ ((inText i m).1.length : Int) ≤ max m 0 := by
  unfold inText at *
  obtain ⟨h1, h2, h3⟩ := inRaw_ok h
  split at h1
  · exact (inFail_ok (by decide) h1).elim
  · rename_i hm
    rw [if_neg hm] at h2 h3 ⊢
    obtain ⟨k1, k2⟩ := inNum_ok h1
    have hr := inNum_r i 2
    have := congrArg List.length h3
    rw [List.length_append] at this
    refine ⟨k1, by omega, by omega⟩
theorem inText_len (i : In) (m : Int) : ((inText i m).1.length : Int) ≤ 65535 := by
  have h := inRaw_len (if m < (inNum i 2).1 then inFail (inNum i 2).2 5 else (inNum i 2).2) (inNum i 2).1
  have hr := inNum_r i 2
  unfold inText; omega
/-- The frame that bytes begin with, how many bytes it has, and what is wrong. -/
def parseF (s : Bs) : Frame × Int × Int :=
  let a := inNum ⟨s, 0⟩ 1
  let b := inNum a.2 1
  let c := inText b.2 2048
  let d := inNum c.2 4
  let e := inNum d.2 1
  if e.2.err ≠ 0 then (Frame.zero, 0, e.2.err)
  else if e.1 ≠ 206 then (Frame.zero, 0, 4)
  else if crcSum [s.take (4 + c.1.length)] ≠ d.1 then (Frame.zero, 0, 14)
  else (⟨a.1, b.1, c.1⟩, 4 + c.1.length + 5, 0)
theorem parse_len {s : Bs} (h : (inNum (inNum (inText (inNum (inNum ⟨s, 0⟩ 1).2 1).2 2048).2 4).2 1).2.err = 0) : (s.length : Int) ≥ 4 + (inText (inNum (inNum ⟨s, 0⟩ 1).2 1).2 2048).1.length + 5 := by
  obtain ⟨h1, k1⟩ := inNum_ok h
  obtain ⟨h2, k2⟩ := inNum_ok h1
  obtain ⟨h3, k3, _⟩ := inText_ok h2
  obtain ⟨h4, k4⟩ := inNum_ok h3
  obtain ⟨h5, k5⟩ := inNum_ok h4
  simp only at k5
  omega
theorem parseF_ok (s : Bs) (h : (parseF s).2.2 = 0) : 9 ≤ (parseF s).2.1 ∧ (parseF s).2.1 ≤ s.length := by
  unfold parseF at *
  simp only at *
  split at h
  · contradiction
  · rename_i h1
    split at h
    · cases h
    · split at h
      · cases h
      · rename_i h2 h3
        rw [if_neg h1, if_neg h2, if_neg h3]
        have := parse_len (s := s) (Decidable.not_not.1 h1)
        simp only
        omega
/-! Layer 8 -/
structure Feed where
  rest : Bs
  err : Int
def Feed.cells (f : Feed) : List Value := [str f.rest, .int .i64 f.err]
def feedGo : Nat → Bs → List Frame → Feed × List Frame
  | 0, r, out => (⟨r, 0⟩, out)
  | k + 1, r, out =>
    if (parseF r).2.2 = 0 then feedGo k (r.drop (parseF r).2.1.toNat) (out ++ [(parseF r).1])
    else if (parseF r).2.2 = 3 then (⟨r, 0⟩, out)
    else (⟨[], (parseF r).2.2⟩, out)
def feedTake (f : Feed) (chunk : Bs) : Feed × List Frame :=
  if f.err ≠ 0 then (f, []) else feedGo ((f.rest ++ chunk).length + 1) (f.rest ++ chunk) []
end Go.SW
namespace Go.SW
def mt : List Bs → List Bs → Bool
  | [], k => k.isEmpty
  | w :: p, k => if w = [35] then (List.range (k.length + 1)).any (fun f => mt p (k.drop f)) else match k with
    | [] => false
    | x :: r => (decide (w = [42]) || decide (w = x)) && mt p r
theorem mt_hash {p k : List Bs} : mt ([35] :: p) k = true ↔ ∃ f, mt p (k.drop f) = true := by
  simp only [mt, if_true, List.any_eq_true, List.mem_range]
  constructor
  · rintro ⟨f, _, h⟩; exact ⟨f, h⟩
  · rintro ⟨f, h⟩
    by_cases hf : f < k.length + 1
    · exact ⟨f, hf, h⟩
    · refine ⟨k.length, by omega, ?_⟩
      rw [List.drop_of_length_le (by omega)] at h
      rw [List.drop_of_length_le (by omega)]; exact h
theorem mt_cons {w : Bs} {p k : List Bs} (hw : w ≠ [35]) : mt (w :: p) k = true ↔ ∃ x r, k = x :: r ∧ (w = [42] ∨ w = x) ∧ mt p r = true := by
  simp only [mt, if_neg hw]
  cases k with
  | nil => simp
  | cons x r =>
    constructor
    · intro h; simp at h; exact ⟨x, r, rfl, h.1, h.2⟩
    · rintro ⟨x', r', e, h1, h2⟩; cases e; simp [h1, h2]
structure MI (p k : List Bs) (i j : Nat) (b : Int) (f : Nat) : Prop where
  hi : i ≤ p.length
  hj : j ≤ k.length
  hf : f ≤ j
  hb : -1 ≤ b
  hbi : b ≤ i
  no : b < 0 → (mt p k = true ↔ mt (p.drop i) (k.drop j) = true)
  seg : 0 ≤ b → j = f + (i - b.toNat)
  go : 0 ≤ b → (mt p k = true ↔ ∃ g, f ≤ g ∧ mt (p.drop b.toNat) (k.drop g) = true)
  fw : 0 ≤ b → ∀ g, mt (p.drop b.toNat) (k.drop g) = true → mt (p.drop i) (k.drop (g + (i - b.toNat))) = true
  bw : 0 ≤ b → mt (p.drop i) (k.drop j) = true → mt (p.drop b.toNat) (k.drop f) = true
theorem MI.start (p k : List Bs) : MI p k 0 0 (-1) 0 :=
  ⟨Nat.zero_le _, Nat.zero_le _, Nat.zero_le _, by omega, by omega, fun _ => by simp, fun h => absurd h (by decide), fun h => absurd h (by decide), fun h => absurd h (by decide), fun h => absurd h (by decide)⟩
theorem MI.hash {p k : List Bs} {i j f : Nat} {b : Int} (h : MI p k i j b f) (hp : p[i]? = some [35]) : MI p k (i + 1) j ((i : Int) + 1) j := by
  have hi : i < p.length := (List.getElem?_eq_some_iff.1 hp).1
  have hd := dropE hp
  have e1 : ((i : Int) + 1).toNat = i + 1 := by omega
  refine ⟨hi, h.hj, Nat.le_refl _, by omega, by omega, fun q => absurd q (by omega), fun _ => by omega, fun _ => ?_, fun _ g hg => ?_, fun _ hg => ?_⟩
  · rw [e1]
    by_cases hb : b < 0
    · rw [h.no hb, hd, mt_hash]
      constructor
      · rintro ⟨g, hg⟩; rw [List.drop_drop] at hg; exact ⟨j + g, by omega, hg⟩
      · rintro ⟨g, hle, hg⟩; refine ⟨g - j, ?_⟩; rw [List.drop_drop, show j + (g - j) = g by omega]; exact hg
    · have hs := h.seg (by omega)
      rw [h.go (by omega)]
      constructor
      · rintro ⟨g, hle, hg⟩
        have := h.fw (by omega) g hg
        rw [hd, mt_hash] at this
        obtain ⟨f', hf'⟩ := this
        rw [List.drop_drop] at hf'
        exact ⟨_, by omega, hf'⟩
      · rintro ⟨g, hle, hg⟩
        refine ⟨f, Nat.le_refl _, h.bw (by omega) ?_⟩
        rw [hd, mt_hash]
        refine ⟨g - j, ?_⟩
        rw [List.drop_drop, show j + (g - j) = g by omega]; exact hg
  · rw [e1] at hg ⊢; rw [Nat.sub_self]; exact hg
  · rw [e1]; exact hg
theorem MI.step {p k : List Bs} {i j f : Nat} {b : Int} {w x : Bs} (h : MI p k i j b f) (hp : p[i]? = some w) (hk : k[j]? = some x) (hw : w ≠ [35]) (hm : w = [42] ∨ w = x) : MI p k (i + 1) (j + 1) b f := by
  have hi : i < p.length := (List.getElem?_eq_some_iff.1 hp).1
  have hj : j < k.length := (List.getElem?_eq_some_iff.1 hk).1
  have hd := dropE hp
  have hkd := dropE hk
  have hbi := h.hbi
  have one : mt (p.drop i) (k.drop j) = true ↔ mt (p.drop (i + 1)) (k.drop (j + 1)) = true := by
    rw [hd, hkd, mt_cons hw]
    constructor
    · rintro ⟨x', r, e, _, hr⟩; cases e; exact hr
    · intro hr; exact ⟨_, _, rfl, hm, hr⟩
  refine ⟨hi, hj, by have := h.hf; omega, h.hb, by omega, fun q => (h.no q).trans one, fun q => by have := h.seg q; omega, h.go, fun q g hg => ?_, fun q hg => h.bw q (one.2 hg)⟩
  have := h.fw q g hg
  rw [hd, mt_cons hw] at this
  obtain ⟨x', r, e, _, hr⟩ := this
  have e2 : k.drop (g + (i + 1 - b.toNat)) = r := by
    rw [show g + (i + 1 - b.toNat) = (g + (i - b.toNat)) + 1 by omega, ← List.drop_drop, e]; rfl
  rw [e2]; exact hr
theorem MI.bad {p k : List Bs} {i j f : Nat} {b : Int} {x : Bs} (_ : MI p k i j b f) (hk : k[j]? = some x) (hm : ∀ w, p[i]? = some w → w ≠ [35] ∧ w ≠ [42] ∧ w ≠ x) : mt (p.drop i) (k.drop j) = false := by
  rw [dropE hk]
  cases hp : p[i]? with
  | none =>
    have : p.length ≤ i := List.getElem?_eq_none_iff.1 hp
    rw [List.drop_of_length_le this]; rfl
  | some w =>
    obtain ⟨h1, h2, h3⟩ := hm w hp
    rw [dropE hp]
    cases q : mt (w :: p.drop (i + 1)) (x :: k.drop (j + 1)) with
    | false => rfl
    | true =>
      obtain ⟨x', r, e, hh, _⟩ := (mt_cons h1).1 q
      cases e
      rcases hh with hh | hh
      · exact absurd hh h2
      · exact absurd hh h3
theorem MI.back {p k : List Bs} {i j f : Nat} {b : Int} {x : Bs} (h : MI p k i j b f) (hk : k[j]? = some x) (hb : 0 ≤ b) (hm : ∀ w, p[i]? = some w → w ≠ [35] ∧ w ≠ [42] ∧ w ≠ x) : MI p k b.toNat (f + 1) b (f + 1) := by
  have hj : j < k.length := (List.getElem?_eq_some_iff.1 hk).1
  have hbad := h.bad hk hm
  have h1 := h.hf
  have h2 := h.hi
  have h3 := h.hbi
  refine ⟨by omega, by omega, Nat.le_refl _, h.hb, by omega, fun q => absurd q (by omega), fun _ => by omega, fun _ => ?_, fun _ g hg => ?_, fun _ hg => hg⟩
  · rw [h.go hb]
    constructor
    · rintro ⟨g, hle, hg⟩
      by_cases e : g = f
      · subst e
        have := h.fw hb g hg
        rw [← h.seg hb, hbad] at this; cases this
      · exact ⟨g, by omega, hg⟩
    · rintro ⟨g, hle, hg⟩; exact ⟨g, by omega, hg⟩
  · rw [Nat.sub_self]; exact hg
theorem MI.none {p k : List Bs} {i j f : Nat} {b : Int} {x : Bs} (h : MI p k i j b f) (hk : k[j]? = some x) (hb : b < 0) (hm : ∀ w, p[i]? = some w → w ≠ [35] ∧ w ≠ [42] ∧ w ≠ x) : mt p k = false := by
  have hbad := h.bad hk hm
  cases q : mt p k with
  | false => rfl
  | true => rw [(h.no hb).1 q] at hbad; cases hbad
theorem MI.fin {p k : List Bs} {i j f : Nat} {b : Int} (h : MI p k i j b f) (hj : k.length ≤ j) : mt p k = mt (p.drop i) [] := by
  rw [Bool.eq_iff_iff]
  have e : k.drop j = [] := List.drop_of_length_le hj
  by_cases hb : b < 0
  · rw [h.no hb, e]
  · have hs := h.seg (by omega)
    rw [h.go (by omega)]
    constructor
    · rintro ⟨g, hle, hg⟩
      have := h.fw (by omega) g hg
      have e2 : k.drop (g + (i - b.toNat)) = [] := List.drop_of_length_le (by omega)
      rw [e2] at this; exact this
    · intro hg; exact ⟨f, Nat.le_refl _, h.bw (by omega) (by rw [e]; exact hg)⟩
theorem mt_end {p : List Bs} {i : Nat} {m : Bool} (h : m = mt (p.drop i) []) (hp : p[i]? = some [35]) : m = mt (p.drop (i + 1)) [] := by
  rw [h, dropE hp, Bool.eq_iff_iff, mt_hash]; simp
theorem mt_endN {p : List Bs} {i : Nat} {w : Bs} (hp : p[i]? = some w) (hw : w ≠ [35]) : mt (p.drop i) [] = false := by
  rw [dropE hp]; simp only [mt, if_neg hw]
def mmu (p k : List Bs) (j : Nat) (b : Int) (f : Nat) : Nat := (p.length + 1 - (b + 1).toNat) * ((k.length + 1) * (k.length + 1)) + (k.length - f) * (k.length + 1) + (k.length - j)
theorem mmu_hash {p k : List Bs} {i j f : Nat} {b : Int} (h : MI p k i j b f) (hi : i < p.length) : mmu p k j ((i : Int) + 1) j < mmu p k j b f := by
  have h1 := h.hbi
  have h2 := h.hb
  unfold mmu
  have e : p.length + 1 - (b + 1).toNat = (p.length + 1 - ((i : Int) + 1 + 1).toNat) + 1 + (p.length + 1 - (b + 1).toNat - ((p.length + 1 - ((i : Int) + 1 + 1).toNat) + 1)) := by omega
  have h3 : (k.length - j) * (k.length + 1) ≤ k.length * (k.length + 1) := Nat.mul_le_mul_right _ (Nat.sub_le _ _)
  have h4 : (k.length + 1) * (k.length + 1) = k.length * (k.length + 1) + (k.length + 1) := by rw [Nat.succ_mul]
  generalize (k.length + 1) * (k.length + 1) = q at *
  rw [e, Nat.add_mul, Nat.add_mul, Nat.one_mul]
  omega
theorem mmu_step {p k : List Bs} {j f : Nat} {b : Int} (hj : j < k.length) : mmu p k (j + 1) b f < mmu p k j b f := by
  unfold mmu; omega
theorem mmu_back {p k : List Bs} {j f : Nat} {b : Int} (hf : f ≤ j) (hj : j < k.length) : mmu p k (f + 1) b (f + 1) < mmu p k j b f := by
  unfold mmu
  have e : (k.length - f) * (k.length + 1) = (k.length - (f + 1)) * (k.length + 1) + (k.length + 1) := by
    rw [show k.length - f = (k.length - (f + 1)) + 1 by omega, Nat.succ_mul]
  rw [e]; omega
end Go.SW
namespace Go.SW
/-! Heads that are read -/
def readOne (i : In) : Pair × In :=
  let a := inText i 16
  let b := inNum a.2 1
  if b.1 = 0 then (⟨a.1, 0, IntKind.wrap .i64 (inNum b.2 8).1, []⟩, (inNum b.2 8).2)
  else if b.1 = 1 then (⟨a.1, 1, 0, (inText b.2 64).1⟩, (inText b.2 64).2)
  else if b.1 = 2 then (⟨a.1, 2, IntKind.wrap .i64 (inNum b.2 1).1, []⟩, (inNum b.2 1).2)
  else (⟨a.1, b.1, 0, []⟩, inFail b.2 8)
def readGo : Nat → In → List Pair → List Pair × In
  | 0, i, h => (h, i)
  | k + 1, i, h =>
    let p := readOne i
    let j := if p.2.err = 0 then inFail p.2 (pairErr p.1 h) else p.2
    if j.err ≠ 0 then ([], j) else readGo k j (h ++ [p.1])
def headRead (i : In) : List Pair × In := readGo (inNum i 1).1.toNat (if 8 < (inNum i 1).1 then inFail (inNum i 1).2 6 else (inNum i 1).2) []
end Go.SW
namespace Go.SW
def Mail.zero : Mail := ⟨0, [], [], [], [], 0, 0⟩
def Reply.zero : Reply := ⟨0, 0, 0, 0, false, [], Mail.zero⟩
/-- What a message that is sent tells. -/
def sentRead (i : In) : (Bool × Mail) × In :=
  let y := inNum i 1
  let shop := inText (if 1 < y.1 then inFail y.2 4 else y.2) 16
  let key := inText shop.2 64
  let head := headRead key.2
  let body := inText head.2 256
  ((decide (y.1 = 1), ⟨0, shop.1, key.1, head.1, body.1, 0, 0⟩), body.2)
def replyRead (c k : Int) (i : In) : Reply × In :=
  if k = 0 then (⟨c, k, 0, 0, false, (inText i 16).1, Mail.zero⟩, (inText i 16).2)
  else if k = 2 ∨ k = 5 ∨ k = 7 then (⟨c, k, (inNum i 8).1, 0, false, [], Mail.zero⟩, (inNum i 8).2)
  else if k = 6 then (⟨c, k, (inNum i 8).1, (inNum (inNum i 8).2 8).1, false, [], Mail.zero⟩, (inNum (inNum i 8).2 8).2)
  else if k = 3 then (⟨c, k, (inNum i 8).1, (inNum (inNum i 8).2 8).1, (sentRead (inNum (inNum i 8).2 8).2).1.1, [], (sentRead (inNum (inNum i 8).2 8).2).1.2⟩, (sentRead (inNum (inNum i 8).2 8).2).2)
  else (⟨c, k, 0, 0, false, [], Mail.zero⟩, i)
def replyOf (f : Frame) : Reply × Int :=
  if f.kind < 64 ∨ 71 < f.kind then (Reply.zero, 8)
  else
    let r := replyRead f.channel (f.kind - 64) ⟨f.body, 0⟩
    let e := if inEnd r.2 = 0 then replyE r.1 else inEnd r.2
    if e ≠ 0 then (Reply.zero, e) else (r.1, 0)
/-! What the document's reader holds -/
structure RIn where
  s : Bs
  pos : Int
  code : Int
def RIn.cells (i : RIn) : List Value := [str i.s, .int .i64 i.pos, .int .i64 i.code]
structure RSt (i : RIn) (I : In) : Prop where
  lo : 0 ≤ i.pos
  hi : i.pos ≤ i.s.length
  len : i.s.length ≤ 9223372036854775807
  err : I.err = i.code
  ok : i.code = 0 → I.s = i.s.drop i.pos.toNat
  bad : i.code ≠ 0 → I.s = []
def rFail (i : RIn) (c : Int) : RIn := if i.code = 0 then ⟨i.s, i.pos, c⟩ else i
end Go.SW
namespace Go.SW
def txtB (s : Bs) : Bs := numB 2 s.length ++ s
def pairB (p : Pair) : Bs := txtB p.key ++ (numB 1 p.kind.toNat ++ (if p.kind = 0 then numB 8 (IntKind.wrap .u64 p.num).toNat else if p.kind = 1 then txtB p.text else numB 1 (IntKind.wrap .u64 p.num).toNat))
theorem outText_s {o : Out} {s : Bs} (h : (s.length : Int) ≤ 65535) : outText o s = ⟨o.s ++ txtB s, o.err⟩ := by
  unfold outText
  rw [if_neg (by omega)]
  have e : numK 2 = 2 := by decide
  simp [outRaw, outNum, e, txtB]
theorem outNum_s {o : Out} {n : Int} {k : Nat} (h : k ≤ 8) : outNum o n k = ⟨o.s ++ numB k n.toNat, o.err⟩ := by
  simp only [outNum, numK]
  rw [show (min (max (k : Int) 0) 8).toNat = k by omega]
theorem outNum1 {o : Out} {n : Int} : outNum o n 1 = ⟨o.s ++ numB 1 n.toNat, o.err⟩ := outNum_s (k := 1) (by omega)
theorem outNum8 {o : Out} {n : Int} : outNum o n 8 = ⟨o.s ++ numB 8 n.toNat, o.err⟩ := outNum_s (k := 8) (by omega)
theorem pairErr_fwd {p : Pair} {ahead : List Pair} (h : pairErr p ahead = 0) : (p.kind = 2 → p.num = 0 ∨ p.num = 1) ∧ (p.kind = 1 → p.num = 0) ∧ (p.kind ≠ 1 → p.text = []) := by
  unfold pairErr at h
  split at h
  · contradiction
  · split at h
    · cases h
    · split at h
      · cases h
      · split at h
        · cases h
        · rename_i h2
          split at h
          · cases h
          · rename_i h3
            refine ⟨fun e => ?_, fun e => ?_, fun e => ?_⟩
            · by_cases q : p.num = 0
              · exact .inl q
              · exact .inr (Decidable.byContradiction fun q2 => h2 ⟨e, q, q2⟩)
            · exact Decidable.byContradiction fun q => h3 (.inl ⟨e, q⟩)
            · exact Decidable.byContradiction fun q => h3 (.inr ⟨e, q⟩)
end Go.SW
namespace Go.SW
section
variable {α : Type} [DecidableEq α] {a b ra rb : List α} {x y : α} {k : Nat}
theorem eqL_len (h : ¬ (a.length : Int) = b.length) : decide (a = b) = false := by
  rw [decide_eq_false_iff_not]; rintro rfl; exact h rfl
theorem eqL_step (h : decide (a = b) = decide (a.drop k = b.drop k)) (ha : a.drop k = x :: ra) (hb : b.drop k = y :: rb) (e : x = y) : decide (a = b) = decide (ra = rb) := by
  rw [h, ha, hb, Bool.eq_iff_iff]; simp [e]
theorem eqL_miss (h : decide (a = b) = decide (a.drop k = b.drop k)) (ha : a.drop k = x :: ra) (hb : b.drop k = y :: rb) (e : ¬ x = y) : decide (a = b) = false := by
  rw [h, ha, hb, Bool.eq_iff_iff]; simp [e]
theorem eqL_end (h : decide (a = b) = decide (a.drop k = b.drop k)) (ha : a.length ≤ k) (hb : b.length ≤ k) : decide (a = b) = true := by
  rw [h, List.drop_of_length_le ha, List.drop_of_length_le hb]; simp
end
section
variable {α : Type} {p : α → Bool} {a r : List α} {x : α} {k : Nat}
theorem all_step (h : a.all p = (a.drop k).all p) (ha : a.drop k = x :: r) (e : p x = true) : a.all p = r.all p := by rw [h, ha]; simp [e]
theorem all_miss (h : a.all p = (a.drop k).all p) (ha : a.drop k = x :: r) (e : p x = false) : a.all p = false := by rw [h, ha]; simp [e]
theorem all_end (h : a.all p = (a.drop k).all p) (ha : a.length ≤ k) : a.all p = true := by rw [h, List.drop_of_length_le ha]; rfl
end
theorem Mail.eq_iff {a b : Mail} : a = b ↔ a.id = b.id ∧ a.shop = b.shop ∧ a.key = b.key ∧ a.head = b.head ∧ a.body = b.body ∧ a.due = b.due ∧ a.hops = b.hops := by
  cases a; cases b; simp
theorem Reply.eq_iff {a b : Reply} : a = b ↔ a.channel = b.channel ∧ a.kind = b.kind ∧ a.n = b.n ∧ a.m = b.m ∧ a.yes = b.yes ∧ a.name = b.name ∧ a.mail = b.mail := by
  cases a; cases b; simp
/-! Light -/
def lightP (p : Pair) : Bool := decide (p.key.length ≤ 40) && decide (p.text.length ≤ 100)
def lightH (h : List Pair) : Bool := decide (h.length ≤ 12) && h.all lightP
def lightR (r : Reply) : Bool := decide (max (r.name.length : Int) (r.mail.shop.length : Int) ≤ 40) && decide ((r.mail.key.length : Int) ≤ 100) && lightH r.mail.head && decide ((r.mail.body.length : Int) ≤ 300)
theorem lightH_len (h : List Pair) (e : lightH h = true) : h.length ≤ 12 := by
  simp [lightH] at e; exact e.1
end Go.SW
namespace Go.SW
def sentB (yes : Bool) (m : Mail) : Bs := numB 1 (if yes = true then (1 : Int) else 0).toNat ++ (txtB m.shop ++ (txtB m.key ++ (headBytes m.head ++ txtB m.body)))
end Go.SW
namespace Go.SW
def fSum (f : Frame) : Int := crcSum [numB 1 f.channel.toNat ++ (numB 1 f.kind.toNat ++ txtB f.body)]
def frB (f : Frame) : Bs := numB 1 f.channel.toNat ++ (numB 1 f.kind.toNat ++ (txtB f.body ++ (numB 4 (fSum f).toNat ++ numB 1 206)))
/-! Feeds: the bytes of frames, in two pieces -/
def catB (fs : List Frame) : Bs := fs.flatMap frB
def okF (f : Frame) : Prop := f.wf ∧ f.body.length ≤ 2048
end Go.SW
namespace Go.SW
/-! Words by the document -/
theorem dots_none : ∀ {t : Bs}, (∀ c ∈ t, ¬ c = 46) → dots t = [t]
  | [], _ => rfl
  | c :: r, h => by
    have ih := dots_none (t := r) (fun x hx => h x (by simp [hx]))
    unfold dots
    rw [if_neg (h c (by simp)), ih]
theorem dots_at : ∀ {m : Nat} {t : Bs}, (∀ c ∈ t.take m, ¬ c = 46) → t[m]? = some 46 → dots t = t.take m :: dots (t.drop (m + 1))
  | 0, [], _, h => by simp at h
  | 0, c :: r, _, h => by
    have : c = 46 := by simpa using h
    subst this
    rfl
  | m + 1, [], _, h => by simp at h
  | m + 1, c :: r, hn, h => by
    have ih := dots_at (m := m) (t := r) (fun x hx => hn x (by simp [hx])) (by simpa using h)
    rw [dots, if_neg (hn c (by simp)), ih]
    rfl
/-- No dot from f on up to k. -/
def noDot (s : Bs) (f k : Nat) : Prop := ∀ j, f ≤ j → j < k → ¬ s.getD j 0 = 46
theorem noDot_mem {s : Bs} {f k : Nat} (h : noDot s f k) : ∀ c ∈ (s.drop f).take (k - f), ¬ c = 46 := fun c hc => by
  obtain ⟨j, hj, rfl⟩ := List.getElem_of_mem hc
  rw [List.length_take, List.length_drop] at hj
  have := h (f + j) (by omega) (by omega)
  rw [List.getElem_take, List.getElem_drop]
  rw [List.getD_eq_getElem?_getD, List.getElem?_eq_getElem (by omega)] at this
  exact this
theorem split_hit {s : Bs} {f k : Nat} {out : List Bs} (h : dots s = out ++ dots (s.drop f)) (hn : noDot s f k) (hf : f ≤ k) (hk : k < s.length) (hc : s.getD k 0 = 46) : dots s = (out ++ [(s.drop f).take (k - f)]) ++ dots (s.drop (k + 1)) := by
  rw [h]
  have hg : (s.drop f)[k - f]? = some 46 := by
    rw [List.getElem?_drop, show f + (k - f) = k by omega, List.getElem?_eq_getElem hk]
    rw [List.getD_eq_getElem?_getD, List.getElem?_eq_getElem hk] at hc
    exact congrArg some hc
  rw [dots_at (noDot_mem hn) hg, List.drop_drop, show f + (k - f + 1) = k + 1 by omega]
  simp
theorem split_end {s : Bs} {f k : Nat} {out : List Bs} (h : dots s = out ++ dots (s.drop f)) (hn : noDot s f k) (hk : s.length ≤ k) : dots s = out ++ [s.drop f] := by
  rw [h]
  have := noDot_mem hn
  rw [List.take_of_length_le (by rw [List.length_drop]; omega)] at this
  rw [dots_none this]
theorem noDot_step {s : Bs} {f k : Nat} (h : noDot s f k) (hc : ¬ s.getD k 0 = 46) : noDot s f (k + 1) := fun j h1 h2 => by
  by_cases e : j = k
  · subst e; exact hc
  · exact h j h1 (by omega)
theorem noDot_nil {s : Bs} {f : Nat} : noDot s f f := fun j h1 h2 => by omega
theorem byteEq {c : UInt8} {n : Nat} (hn : n < 256) (h : (c.toNat : Int) = n) : c = UInt8.ofNat n := by
  apply UInt8.toNat_inj.1
  rw [UInt8.toNat_ofNat']
  have : (2 : Nat) ^ 8 = 256 := rfl
  omega
theorem byteNe {c : UInt8} {n : Nat} (hn : n < 256) (h : ¬ (c.toNat : Int) = n) : ¬ c = UInt8.ofNat n := by
  rintro rfl
  rw [UInt8.toNat_ofNat'] at h
  have : (2 : Nat) ^ 8 = 256 := rfl
  omega
def besidesOf (pattern : Bool) : List Bs := if pattern = true then [[42], [35]] else []
theorem letter_all {s : Bs} {k : Nat} (hk : k < s.length) : (s.drop k).all (fun c => letter c.toNat) = (letter (s.getD k 0).toNat && (s.drop (k + 1)).all (fun c => letter c.toNat)) := by
  rw [drop_getD hk, List.all_cons]
end Go.SW
namespace Go.SW
theorem isBad_doc {p b : Bool} {w : Bs} (h : (decide ((w.length : Int) = 0) || !plain w) = b) : isBad (besidesOf p) w = (b && !(p && (decide (w = [42]) || decide (w = [35])))) := by
  subst h
  have e : (w == []) = decide ((w.length : Int) = 0) := by
    cases w with
    | nil => rfl
    | cons c r => simp; omega
  unfold isBad besidesOf
  rw [e]
  cases p
  · simp
  · simp [Bool.and_comm]
theorem txtB_len (s : Bs) : (txtB s).length = s.length + 2 := by simp [txtB, numB_len]; omega
def smallH (h : List Pair) : Prop := h.length ≤ 1000 ∧ ∀ p ∈ h, p.key.length ≤ 1000 ∧ p.text.length ≤ 1000
theorem smallH_light {h : List Pair} (e : lightH h = true) : smallH h := by
  simp only [lightH, Bool.and_eq_true, decide_eq_true_eq, List.all_eq_true, lightP] at e
  exact ⟨by omega, fun p hp => by have := e.2 p hp; omega⟩
def r9B (h : List Pair) : Bs := numB 1 h.length ++ h.flatMap pairB
theorem pairErr_doc (p : Pair) (ahead : List Pair) : pairErr p ahead = if nameE p.key ≠ 0 then nameE p.key else if 2 < p.kind then 8 else if p.kind = 1 ∧ (64 : Int) < p.text.length then 5 else if p.kind = 2 ∧ (p.num < 0 ∨ 1 < p.num) then 7 else if p.kind = 1 ∧ p.num ≠ 0 ∨ p.kind ≠ 1 ∧ p.text ≠ [] then 4 else if (findP ahead p.key).isSome then 9 else 0 := by
  unfold pairErr
  have e : (p.kind = 2 ∧ p.num ≠ 0 ∧ p.num ≠ 1) ↔ (p.kind = 2 ∧ (p.num < 0 ∨ 1 < p.num)) := by omega
  simp only [e]
end Go.SW
namespace Go.SW
end Go.SW
namespace Go.SW
/-! What is told, by kind -/
def tellsT : List Bs := [[110], [], [], [65, 110, 120], [65], [65, 110, 109, 120], [65], [65, 79, 112, 104, 121], [65, 79, 112, 104, 121], [65, 79, 112, 104, 121], [65, 79, 112, 104, 121], [65, 107, 104, 109, 98], [110], [65, 110], [110], [65], [110, 109, 121], [], [], [], []]
abbrev tellsOf (k : Int) : Bs := tellsT.getD k.toNat []
theorem tells_mem (k : Int) : tellsOf k = [] ∨ tellsOf k ∈ tellsT := by
  unfold tellsOf
  rw [List.getD_eq_getElem?_getD]
  rcases h : tellsT[k.toNat]? with _ | s
  · exact .inl rfl
  · exact .inr (List.mem_of_getElem? h)
theorem tells_plain (k : Int) : ∀ c ∈ tellsOf k, c.toNat < 128 := by
  rcases tells_mem k with h | h
  · rw [h]; intro c hc; cases hc
  · exact (by decide : ∀ s ∈ tellsT, ∀ c ∈ s, c.toNat < 128) _ h
theorem tells_len (k : Int) : (tellsOf k).length ≤ 5 := by
  rcases tells_mem k with h | h
  · rw [h]; decide
  · exact (by decide : ∀ s ∈ tellsT, s.length ≤ 5) _ h
theorem tells_at (k : Int) (p : Nat) (h : p < (tellsOf k).length) : ((tellsOf k).getD p 0).toNat < 128 := by
  rw [List.getD_eq_getElem?_getD, List.getElem?_eq_getElem h]
  exact tells_plain k _ (List.getElem_mem h)
def hasAny (s cs : Bs) : Bool := s.any cs.contains
theorem containsAny_eq (s cs : Bs) : Lib.containsAny s cs = hasAny s cs := by
  unfold Lib.containsAny hasAny
  induction s with
  | nil => rfl
  | cons b l ih =>
    rw [List.any_cons, ← ih]
    have hg := Lib.indexAny_ge cs l
    have e0 : Lib.indexAny (b :: l) cs = if cs.contains b then 0 else if Lib.indexAny l cs == -1 then -1 else Lib.indexAny l cs + 1 := rfl
    rw [e0]
    by_cases h : cs.contains b = true
    · rw [if_pos h, h, Bool.true_or]; rfl
    · have h' : cs.contains b = false := by simpa using h
      rw [if_neg h, h', Bool.false_or]
      by_cases e : Lib.indexAny l cs = -1
      · rw [e]; rfl
      · have e' : (Lib.indexAny l cs == -1) = false := by simpa using e
        rw [e']
        simp only [Bool.false_eq_true, if_false]
        have a : (0 : Int) ≤ Lib.indexAny l cs + 1 := by omega
        have b : (0 : Int) ≤ Lib.indexAny l cs := by omega
        rw [decide_eq_true a, decide_eq_true b]
/-! Layer 10 -/
structure Rule where
  sort : Int
  key : Bs
  want : List Pair
  all : Bool
deriving DecidableEq
def Rule.cells (r : Rule) (a : Option Addr) (c : Nat) : List Value := [.int .u8 r.sort, str r.key, .slice a r.want.length c, .bool r.all]
def Rule.wf (r : Rule) : Prop := (0 ≤ r.sort ∧ r.sort ≤ 255) ∧ r.key.length ≤ 9223372036854775807 ∧ r.want.length ≤ 9223372036854775807
theorem Rule.eq_iff {a b : Rule} : a = b ↔ a.sort = b.sort ∧ a.key = b.key ∧ a.want = b.want ∧ a.all = b.all := by
  cases a; cases b; simp
def patB : List Bs := [[42], [35]]
def ruleE (r : Rule) : Int :=
  if 3 < r.sort then 8
  else if r.sort = 0 then (if keyE [] r.key ≠ 0 then keyE [] r.key else headE r.want)
  else if keyE patB r.key ≠ 0 then keyE patB r.key else headE r.want
def hasP (h : List Pair) (p : Pair) : Bool := (findP h p.key).isSome && decide ((findP h p.key).getD Pair.zero = p)
def headsGo (all : Bool) (h : List Pair) : List Pair → Bool
  | [] => all
  | p :: l => if hasP h p then (if all then headsGo all h l else true) else if all then false else headsGo all h l
def goesR (r : Rule) (key : Bs) (h : List Pair) : Bool :=
  if r.sort = 0 then decide (key = r.key) else if r.sort = 2 then mt (wordsOf r.key) (wordsOf key) else if r.sort = 3 then headsGo r.all h r.want else true
/-! Layer 11 -/
structure Method where
  channel : Int
  kind : Int
  name : Bs
  other : Bs
  key : Bs
  head : List Pair
  body : Bs
  n : Int
  m : Int
  yes : Bool
deriving DecidableEq
def Method.cells (m : Method) (a : Option Addr) (c : Nat) : List Value := [.int .u8 m.channel, .int .u8 m.kind, str m.name, str m.other, str m.key, .slice a m.head.length c, str m.body, .int .u64 m.n, .int .u64 m.m, .bool m.yes]
def Method.wf (m : Method) : Prop := (0 ≤ m.channel ∧ m.channel ≤ 255) ∧ (0 ≤ m.kind ∧ m.kind ≤ 255) ∧ (0 ≤ m.n ∧ m.n ≤ 18446744073709551615) ∧ (0 ≤ m.m ∧ m.m ≤ 18446744073709551615) ∧ m.name.length ≤ 9223372036854775807 ∧ m.other.length ≤ 9223372036854775807 ∧ m.key.length ≤ 9223372036854775807 ∧ m.head.length ≤ 9223372036854775807 ∧ m.body.length ≤ 9223372036854775807
theorem Method.eq_iff {a b : Method} : a = b ↔ a.channel = b.channel ∧ a.kind = b.kind ∧ a.name = b.name ∧ a.other = b.other ∧ a.key = b.key ∧ a.head = b.head ∧ a.body = b.body ∧ a.n = b.n ∧ a.m = b.m ∧ a.yes = b.yes := by
  cases a; cases b; simp
def hasK (m : Method) (cs : Bs) : Bool := hasAny (tellsOf m.kind) cs
def spareMt (m : Method) : Bool :=
  !decide (m.name = []) && !hasK m [65] || !decide (m.other = []) && !hasK m [79, 120] || !decide (m.key = []) && !hasK m [107, 112] ||
  decide ((0 : Int) < m.head.length) && !hasK m [104] || !decide (m.body = []) && !hasK m [98] ||
  !decide (m.n = 0) && !hasK m [110] || !decide (m.m = 0) && !hasK m [109] || m.yes && !hasK m [121]
def oneE (m : Method) (c : Int) : Int :=
  if c = 65 then nameE m.name
  else if c = 120 then (if m.other = [] then 0 else nameE m.other)
  else if c = 79 then nameE m.other
  else if c = 107 then keyE [] m.key
  else if c = 112 then keyE patB m.key
  else if c = 104 then headE m.head
  else if c = 98 then (if (256 : Int) < m.body.length then 5 else 0)
  else 0
def ckGo (m : Method) : Bs → Int
  | [] => 0
  | c :: l => if oneE m (c.toNat : Int) ≠ 0 then oneE m (c.toNat : Int) else ckGo m l
def methodE (m : Method) : Int := if 20 < m.kind then 8 else if spareMt m then 4 else ckGo m (tellsOf m.kind)
theorem headGo_r : ∀ (l a : List Pair), 0 ≤ headGo a l ∧ headGo a l ≤ 15
  | [], a => by simp [headGo]
  | p :: l, a => by
    have h1 := pairErr_r p a
    have h2 := headGo_r l (a ++ [p])
    simp only [headGo]
    split <;> omega
theorem headE_r (h : List Pair) : 0 ≤ headE h ∧ headE h ≤ 15 := by
  have := headGo_r h []
  unfold headE
  split <;> omega
theorem methodE_kind {m : Method} (h : methodE m = 0) : m.kind ≤ 20 := by
  unfold methodE at h
  split at h
  · cases h
  · omega
theorem ckGo_all {m : Method} : ∀ {l : Bs}, ckGo m l = 0 → ∀ c ∈ l, oneE m (c.toNat : Int) = 0
  | [], _, _, hc => by cases hc
  | d :: l, h, c, hc => by
    simp only [ckGo] at h
    split at h
    · omega
    · rcases List.mem_cons.1 hc with rfl | hc
      · omega
      · exact ckGo_all h c hc
theorem methodE_at {m : Method} (h : methodE m = 0) {p : Nat} (hp : p < (tellsOf m.kind).length) : oneE m (((tellsOf m.kind).getD p 0).toNat : Int) = 0 := by
  have hc : ckGo m (tellsOf m.kind) = 0 := by
    unfold methodE at h
    split at h
    · cases h
    · split at h
      · cases h
      · exact h
  rw [List.getD_eq_getElem?_getD, List.getElem?_eq_getElem hp]
  exact ckGo_all hc _ (List.getElem_mem hp)
theorem oneE_len {m : Method} {c : Int} (h : oneE m c = 0) : (c = 65 → m.name.length ≤ 256) ∧ (c = 120 ∨ c = 79 → m.other.length ≤ 256) ∧ (c = 107 ∨ c = 112 → m.key.length ≤ 256) ∧ (c = 98 → m.body.length ≤ 256) := by
  refine ⟨fun e => ?_, fun e => ?_, fun e => ?_, fun e => ?_⟩
  · subst e
    have := nameE_ok (s := m.name) (by simpa [oneE] using h)
    omega
  · rcases e with rfl | rfl
    · simp [oneE] at h
      by_cases e : m.other = []
      · rw [e]; simp
      · have := nameE_ok (s := m.other) (h e); omega
    · have := nameE_ok (s := m.other) (by simpa [oneE] using h); omega
  · rcases e with rfl | rfl
    · have := keyE_ok (b := []) (s := m.key) (by simpa [oneE] using h); omega
    · have := keyE_ok (b := patB) (s := m.key) (by simpa [oneE] using h); omega
  · subst e
    simp [oneE] at h
    omega
def mOut1 (m : Method) (o : Out) (c : Int) : Out :=
  if c = 65 then outText o m.name
  else if c = 120 ∨ c = 79 then outText o m.other
  else if c = 107 ∨ c = 112 then outText o m.key
  else if c = 104 then outRaw o (headBytes m.head)
  else if c = 98 then outText o m.body
  else if c = 110 then outNum o m.n 8
  else if c = 109 then outNum o m.m 8
  else if c = 121 then outNum o (if m.yes = true then 1 else 0) 1
  else o
def mOutGo (m : Method) (o : Out) (l : Bs) : Out := l.foldl (fun o c => mOut1 m o (c.toNat : Int)) o
def methodFrame (m : Method) : Frame := if methodE m = 0 then ⟨m.channel, m.kind, (mOutGo m ⟨[], 0⟩ (tellsOf m.kind)).s⟩ else Frame.zero
def lightMt (m : Method) : Bool := decide (max (m.name.length : Int) (m.other.length : Int) ≤ 40) && decide ((m.key.length : Int) ≤ 100) && lightH m.head && decide ((m.body.length : Int) ≤ 300)
theorem lightMt_len (m : Method) (e : lightMt m = true) : m.name.length ≤ 40 ∧ m.other.length ≤ 40 ∧ m.key.length ≤ 100 ∧ m.head.length ≤ 12 ∧ m.body.length ≤ 300 := by
  simp only [lightMt, Bool.and_eq_true, decide_eq_true_eq] at e
  obtain ⟨⟨⟨h1, h3⟩, h4⟩, h5⟩ := e
  have := lightH_len _ h4
  omega
end Go.SW
namespace Go.SW
/-! Layer 13 -/
def mailC (m : Mail) : Int :=
  if nameE m.shop ≠ 0 then nameE m.shop else if keyE [] m.key ≠ 0 then keyE [] m.key else if headE m.head ≠ 0 then headE m.head else if (256 : Int) < m.body.length then 5 else if 4 < m.hops then 7 else 0
theorem keyE_r (b : List Bs) (s : Bs) : 0 ≤ keyE b s ∧ keyE b s ≤ 15 := by
  unfold keyE
  repeat' split
  all_goals omega
theorem mailC_r (m : Mail) : 0 ≤ mailC m ∧ mailC m ≤ 15 := by
  have h1 := nameE_r m.shop
  have h2 := keyE_r [] m.key
  have h3 := headE_r m.head
  unfold mailC
  repeat' split
  all_goals omega
theorem mailC_ok {m : Mail} (h : mailC m = 0) : m.shop.length ≤ 16 ∧ m.key.length ≤ 64 ∧ headE m.head = 0 ∧ m.body.length ≤ 256 ∧ m.hops ≤ 4 := by
  unfold mailC at h
  have h1 : nameE m.shop = 0 := by
    by_cases e : nameE m.shop = 0
    · exact e
    · rw [if_pos e] at h; exact absurd h e
  rw [if_neg (by omega)] at h
  have h2 : keyE [] m.key = 0 := by
    by_cases e : keyE [] m.key = 0
    · exact e
    · rw [if_pos e] at h; exact absurd h e
  rw [if_neg (by omega)] at h
  have h3 : headE m.head = 0 := by
    by_cases e : headE m.head = 0
    · exact e
    · rw [if_pos e] at h; exact absurd h e
  rw [if_neg (by omega)] at h
  have a := nameE_ok h1
  have b := keyE_ok h2
  split at h
  · cases h
  · split at h
    · cases h
    · exact ⟨a, b, h3, by omega, by omega⟩
def mailOut (m : Mail) : Out := outNum (outNum (outText (outRaw (outText (outText (outNum ⟨[], 0⟩ m.id 8) m.shop) m.key) (headBytes m.head)) m.body) m.due 8) m.hops 1
def mailBytes (m : Mail) : Bs := if mailC m = 0 then (mailOut m).s else []
/-! Layer 26 -/
def lifeN (t l : Int) : Int := if l = 0 ∨ 18446744073709551615 - t < l then 0 else t + l
end Go.SW
namespace Go.SW
def maybeE (s : Bs) : Int := if s = [] then 0 else nameE s
theorem maybeE_r (s : Bs) : 0 ≤ maybeE s ∧ maybeE s ≤ 15 := by
  have := nameE_r s
  unfold maybeE
  split <;> omega
def boundE (b : Bool) (e : Int) : Int := if b = true then e else 0
def bitN (b : Bool) : Int := if b = true then 1 else 0
end Go.SW
namespace Go.SW
structure ShopR where
  name : Bs
  sort : Int
  to : Bs
deriving DecidableEq
def ShopR.cells (x : ShopR) : List Value := [str x.name, .int .u8 x.sort, str x.to]
def ShopR.wf (x : ShopR) : Prop := x.name.length ≤ 9223372036854775807 ∧ (0 ≤ x.sort ∧ x.sort ≤ 255) ∧ x.to.length ≤ 9223372036854775807
structure QueueR where
  name : Bs
  most : Int
  life : Int
  dead : Bs
deriving DecidableEq
def QueueR.cells (x : QueueR) : List Value := [str x.name, .int .u64 x.most, .int .u64 x.life, str x.dead]
def QueueR.wf (x : QueueR) : Prop := x.name.length ≤ 9223372036854775807 ∧ (0 ≤ x.most ∧ x.most ≤ 18446744073709551615) ∧ (0 ≤ x.life ∧ x.life ≤ 18446744073709551615) ∧ x.dead.length ≤ 9223372036854775807
structure BindR where
  shop : Bs
  to : Bs
  up : Bool
  key : Bs
  want : List Pair
  all : Bool
deriving DecidableEq
def BindR.cells (x : BindR) (a : Option Addr) (c : Nat) : List Value := [str x.shop, str x.to, .bool x.up, str x.key, .slice a x.want.length c, .bool x.all]
def BindR.wf (x : BindR) : Prop := x.shop.length ≤ 9223372036854775807 ∧ x.to.length ≤ 9223372036854775807 ∧ x.key.length ≤ 9223372036854775807 ∧ x.want.length ≤ 9223372036854775807
theorem BindR.eq_iff {a b : BindR} : a = b ↔ a.shop = b.shop ∧ a.to = b.to ∧ a.up = b.up ∧ a.key = b.key ∧ a.want = b.want ∧ a.all = b.all := by
  cases a; cases b; simp
structure DeedR where
  kind : Int
  tick : Int
  shop : ShopR
  queue : QueueR
  bind : BindR
  name : Bs
  id : Int
  how : Int
  frm : Int
  code : Int
  number : Int
  mail : Mail
  text : Bs
deriving DecidableEq
def DeedR.cells (d : DeedR) (a : Option Addr) (c : Nat) (a' : Option Addr) (c' : Nat) : List Value :=
  [.int .u8 d.kind, .int .u64 d.tick, str d.shop.name, .int .u8 d.shop.sort, str d.shop.to, str d.queue.name, .int .u64 d.queue.most, .int .u64 d.queue.life, str d.queue.dead,
   str d.bind.shop, str d.bind.to, .bool d.bind.up, str d.bind.key, .slice a d.bind.want.length c, .bool d.bind.all, str d.name, .int .u64 d.id, .int .u8 d.how, .int .u8 d.frm, .int .u8 d.code, .int .u64 d.number,
   .int .u64 d.mail.id, str d.mail.shop, str d.mail.key, .slice a' d.mail.head.length c', str d.mail.body, .int .u64 d.mail.due, .int .u8 d.mail.hops, str d.text]
def DeedR.wf (d : DeedR) : Prop := (0 ≤ d.kind ∧ d.kind ≤ 255) ∧ (0 ≤ d.tick ∧ d.tick ≤ 18446744073709551615) ∧ d.shop.wf ∧ d.queue.wf ∧ d.bind.wf ∧ d.name.length ≤ 9223372036854775807 ∧ (0 ≤ d.id ∧ d.id ≤ 18446744073709551615) ∧ (0 ≤ d.how ∧ d.how ≤ 255) ∧ (0 ≤ d.frm ∧ d.frm ≤ 255) ∧ (0 ≤ d.code ∧ d.code ≤ 255) ∧ (0 ≤ d.number ∧ d.number ≤ 18446744073709551615) ∧ d.mail.wf ∧ d.text.length ≤ 9223372036854775807
theorem DeedR.eq_iff {a b : DeedR} : a = b ↔ a.kind = b.kind ∧ a.tick = b.tick ∧ a.shop = b.shop ∧ a.queue = b.queue ∧ a.bind = b.bind ∧ a.name = b.name ∧ a.id = b.id ∧ a.how = b.how ∧ a.frm = b.frm ∧ a.code = b.code ∧ a.number = b.number ∧ a.mail = b.mail ∧ a.text = b.text := by
  cases a; cases b; simp
end Go.SW
namespace Go.SW
def ShopR.zero : ShopR := ⟨[], 0, []⟩
def QueueR.zero : QueueR := ⟨[], 0, 0, []⟩
def BindR.zero : BindR := ⟨[], [], false, [], [], false⟩
def toldD (d : DeedR) : DeedR :=
  ⟨d.kind, d.tick, if d.kind = 0 then d.shop else .zero, if d.kind = 2 then d.queue else .zero, if d.kind = 4 ∨ d.kind = 5 then d.bind else .zero,
   if d.kind = 1 ∨ d.kind = 3 ∨ d.kind = 7 ∨ d.kind = 8 then d.name else [], if d.kind = 8 then d.id else 0, if d.kind = 8 then d.how else 0, if d.kind = 10 then d.frm else 0, if d.kind = 12 then d.code else 0, if d.kind = 10 then d.number else 0,
   if d.kind = 6 ∨ d.kind = 10 then d.mail else .zero, if d.kind = 12 then d.text else []⟩
end Go.SW
namespace Go.SW
def firstE : List Int → Int
  | [] => 0
  | a :: l => if a ≠ 0 then a else firstE l
theorem firstE_r : ∀ (l : List Int), (∀ a ∈ l, 0 ≤ a ∧ a ≤ 15) → 0 ≤ firstE l ∧ firstE l ≤ 15
  | [], _ => ⟨Int.le_refl _, by simp [firstE]⟩
  | a :: l, h => by
    unfold firstE
    split
    · exact h a (List.mem_cons_self ..)
    · exact firstE_r l fun b hb => h b (List.mem_cons_of_mem _ hb)
def deedE (d : DeedR) : Int :=
  if 12 < d.kind then 8 else if d ≠ toldD d then 4
  else if d.kind = 0 then firstE [nameE d.shop.name, boundE (decide (4 < d.shop.sort)) 8, maybeE d.shop.to]
  else if d.kind = 2 then firstE [nameE d.queue.name, maybeE d.queue.dead]
  else if d.kind = 4 ∨ d.kind = 5 then firstE [nameE d.bind.shop, nameE d.bind.to, boundE (decide ((64 : Int) < d.bind.key.length)) 5, headE d.bind.want]
  else if d.kind = 6 ∨ d.kind = 10 then mailC d.mail
  else if d.kind = 9 ∨ d.kind = 11 then 0
  else if d.kind = 12 then boundE (decide ((64 : Int) < d.text.length)) 5
  else firstE [nameE d.name, boundE (decide (2 < d.how)) 7]
theorem boundE_0 {b : Bool} {e : Int} (he : e ≠ 0) (h : boundE b e = 0) : b = false := by
  cases b with
  | false => rfl
  | true => exact absurd h he
theorem firstE_cons {a : Int} {l : List Int} (h : firstE (a :: l) = 0) : a = 0 ∧ firstE l = 0 := by
  unfold firstE at h
  split at h
  · rename_i q; exact absurd h q
  · rename_i q; exact ⟨by omega, h⟩
theorem maybeE_ok {s : Bs} (h : maybeE s = 0) : s.length ≤ 16 := by
  unfold maybeE at h
  split at h
  · rename_i q; subst q; simp
  · exact nameE_ok h
theorem boundE_r {b : Bool} {e : Int} (h : 0 ≤ e ∧ e ≤ 15) : 0 ≤ boundE b e ∧ boundE b e ≤ 15 := by
  unfold boundE; split <;> omega
theorem deedE_r (d : DeedR) : 0 ≤ deedE d ∧ deedE d ≤ 15 := by
  have hb : ∀ b, 0 ≤ boundE b 8 ∧ boundE b 8 ≤ 15 := fun b => boundE_r (by omega)
  have hb5 : ∀ b, 0 ≤ boundE b 5 ∧ boundE b 5 ≤ 15 := fun b => boundE_r (by omega)
  have hb7 : ∀ b, 0 ≤ boundE b 7 ∧ boundE b 7 ≤ 15 := fun b => boundE_r (by omega)
  unfold deedE
  repeat' split
  all_goals first
    | omega
    | exact mailC_r _
    | exact hb5 _
    | (refine firstE_r _ fun a ha => ?_
       simp only [List.mem_cons, List.not_mem_nil, or_false] at ha
       first
         | (rcases ha with rfl | rfl | rfl | rfl <;> first | exact nameE_r _ | exact maybeE_r _ | exact headE_r _ | exact hb _ | exact hb5 _ | exact hb7 _)
         | (rcases ha with rfl | rfl | rfl <;> first | exact nameE_r _ | exact maybeE_r _ | exact headE_r _ | exact hb _ | exact hb5 _ | exact hb7 _)
         | (rcases ha with rfl | rfl <;> first | exact nameE_r _ | exact maybeE_r _ | exact headE_r _ | exact hb _ | exact hb5 _ | exact hb7 _))
/-- What may be is small. -/
structure DeedOk (d : DeedR) : Prop where
  told : d = toldD d
  kind : d.kind ≤ 12
  sname : d.shop.name.length ≤ 16
  sto : d.shop.to.length ≤ 16
  ssort : d.shop.sort ≤ 4
  qname : d.queue.name.length ≤ 16
  qdead : d.queue.dead.length ≤ 16
  bshop : d.bind.shop.length ≤ 16
  bto : d.bind.to.length ≤ 16
  bkey : d.bind.key.length ≤ 64
  bwant : headE d.bind.want = 0
  name : d.name.length ≤ 16
  how : d.how ≤ 2
  mshop : d.mail.shop.length ≤ 16
  mkey : d.mail.key.length ≤ 64
  mhead : headE d.mail.head = 0
  mbody : d.mail.body.length ≤ 256
  mhops : d.mail.hops ≤ 4
  text : d.text.length ≤ 64
theorem deedE_ok {d : DeedR} (hk : 0 ≤ d.kind) (h : deedE d = 0) : DeedOk d := by
  unfold deedE at h
  by_cases k : 12 < d.kind
  · rw [if_pos k] at h; exact absurd h (by decide)
  rw [if_neg k] at h
  by_cases t : d = toldD d
  case neg => rw [if_pos t] at h; exact absurd h (by decide)
  rw [if_neg (by simpa using t)] at h
  have hc : d.kind = 0 ∨ d.kind = 1 ∨ d.kind = 2 ∨ d.kind = 3 ∨ d.kind = 4 ∨ d.kind = 5 ∨ d.kind = 6 ∨ d.kind = 7 ∨ d.kind = 8 ∨ d.kind = 9 ∨ d.kind = 10 ∨ d.kind = 11 ∨ d.kind = 12 := by omega
  have e1 : d.shop = (toldD d).shop := congrArg DeedR.shop t
  have e2 : d.queue = (toldD d).queue := congrArg DeedR.queue t
  have e3 : d.bind = (toldD d).bind := congrArg DeedR.bind t
  have e4 : d.name = (toldD d).name := congrArg DeedR.name t
  have e5 : d.how = (toldD d).how := congrArg DeedR.how t
  have e6 : d.mail = (toldD d).mail := congrArg DeedR.mail t
  have e7 : d.text = (toldD d).text := congrArg DeedR.text t
  simp only [toldD] at e1 e2 e3 e4 e5 e6 e7
  have zs : ∀ {s : ShopR}, s = .zero → s.name.length ≤ 16 ∧ s.to.length ≤ 16 ∧ s.sort ≤ 4 := fun e => by subst e; decide
  have zq : ∀ {s : QueueR}, s = .zero → s.name.length ≤ 16 ∧ s.dead.length ≤ 16 := fun e => by subst e; decide
  have zb : ∀ {s : BindR}, s = .zero → s.shop.length ≤ 16 ∧ s.to.length ≤ 16 ∧ s.key.length ≤ 64 ∧ headE s.want = 0 := fun e => by subst e; decide
  have zm : ∀ {s : Mail}, s = .zero → s.shop.length ≤ 16 ∧ s.key.length ≤ 64 ∧ headE s.head = 0 ∧ s.body.length ≤ 256 ∧ s.hops ≤ 4 := fun e => by subst e; decide
  have zn : ∀ {s : Bs}, s = [] → s.length ≤ 16 := fun e => by subst e; decide
  have zt : ∀ {s : Bs}, s = [] → s.length ≤ 64 := fun e => by subst e; decide
  have zh : ∀ {s : Int}, s = 0 → s ≤ 2 := fun e => by subst e; decide
  have mk : (d.shop.name.length ≤ 16 ∧ d.shop.to.length ≤ 16 ∧ d.shop.sort ≤ 4) → (d.queue.name.length ≤ 16 ∧ d.queue.dead.length ≤ 16) → (d.bind.shop.length ≤ 16 ∧ d.bind.to.length ≤ 16 ∧ d.bind.key.length ≤ 64 ∧ headE d.bind.want = 0) → d.name.length ≤ 16 → d.how ≤ 2 →
      (d.mail.shop.length ≤ 16 ∧ d.mail.key.length ≤ 64 ∧ headE d.mail.head = 0 ∧ d.mail.body.length ≤ 256 ∧ d.mail.hops ≤ 4) → d.text.length ≤ 64 → DeedOk d :=
    fun a b c e f g i => ⟨t, by omega, a.1, a.2.1, a.2.2, b.1, b.2, c.1, c.2.1, c.2.2.1, c.2.2.2, e, f, g.1, g.2.1, g.2.2.1, g.2.2.2.1, g.2.2.2.2, i⟩
  rcases hc with q | q | q | q | q | q | q | q | q | q | q | q | q <;> simp only [q] at e1 e2 e3 e4 e5 e6 e7 h <;> simp (config := { failIfUnchanged := false }) at e1 e2 e3 e4 e5 e6 e7 h
  · obtain ⟨h1, h⟩ := firstE_cons h
    obtain ⟨h2, h⟩ := firstE_cons h
    obtain ⟨h3, h⟩ := firstE_cons h
    have := boundE_0 (by decide) h2
    exact mk ⟨nameE_ok h1, maybeE_ok h3, by have := of_decide_eq_false this; omega⟩ (zq e2) (zb e3) (zn e4) (zh e5) (zm e6) (zt e7)
  · exact mk (zs e1) (zq e2) (zb e3) (nameE_ok (firstE_cons h).1) (zh e5) (zm e6) (zt e7)
  · obtain ⟨h1, h⟩ := firstE_cons h
    exact mk (zs e1) ⟨nameE_ok h1, maybeE_ok (firstE_cons h).1⟩ (zb e3) (zn e4) (zh e5) (zm e6) (zt e7)
  · exact mk (zs e1) (zq e2) (zb e3) (nameE_ok (firstE_cons h).1) (zh e5) (zm e6) (zt e7)
  · obtain ⟨h1, h⟩ := firstE_cons h
    obtain ⟨h2, h⟩ := firstE_cons h
    obtain ⟨h3, h⟩ := firstE_cons h
    have := of_decide_eq_false (boundE_0 (by decide) h3)
    exact mk (zs e1) (zq e2) ⟨nameE_ok h1, nameE_ok h2, by omega, (firstE_cons h).1⟩ (zn e4) (zh e5) (zm e6) (zt e7)
  · obtain ⟨h1, h⟩ := firstE_cons h
    obtain ⟨h2, h⟩ := firstE_cons h
    obtain ⟨h3, h⟩ := firstE_cons h
    have := of_decide_eq_false (boundE_0 (by decide) h3)
    exact mk (zs e1) (zq e2) ⟨nameE_ok h1, nameE_ok h2, by omega, (firstE_cons h).1⟩ (zn e4) (zh e5) (zm e6) (zt e7)
  · exact mk (zs e1) (zq e2) (zb e3) (zn e4) (zh e5) (mailC_ok h) (zt e7)
  · exact mk (zs e1) (zq e2) (zb e3) (nameE_ok (firstE_cons h).1) (zh e5) (zm e6) (zt e7)
  · obtain ⟨h1, h⟩ := firstE_cons h
    have := of_decide_eq_false (boundE_0 (by decide) (firstE_cons h).1)
    exact mk (zs e1) (zq e2) (zb e3) (nameE_ok h1) (by omega) (zm e6) (zt e7)
  · exact mk (zs e1) (zq e2) (zb e3) (zn e4) (zh e5) (zm e6) (zt e7)
  · exact mk (zs e1) (zq e2) (zb e3) (zn e4) (zh e5) (mailC_ok h) (zt e7)
  · exact mk (zs e1) (zq e2) (zb e3) (zn e4) (zh e5) (zm e6) (zt e7)
  · have := of_decide_eq_false (boundE_0 (by decide) h)
    exact mk (zs e1) (zq e2) (zb e3) (zn e4) (zh e5) (zm e6) (by omega)
end Go.SW
namespace Go.SW
def deedOut (d : DeedR) : Out :=
  if d.kind = 0 then outText (outNum (outText (outNum (outNum ⟨[], 0⟩ d.kind 1) d.tick 8) d.shop.name) d.shop.sort 1) d.shop.to
  else if d.kind = 2 then outText (outNum (outNum (outText (outNum (outNum ⟨[], 0⟩ d.kind 1) d.tick 8) d.queue.name) d.queue.most 8) d.queue.life 8) d.queue.dead
  else if d.kind = 4 ∨ d.kind = 5 then outNum (outRaw (outText (outNum (outText (outText (outNum (outNum ⟨[], 0⟩ d.kind 1) d.tick 8) d.bind.shop) d.bind.to) (bitN d.bind.up) 1) d.bind.key) (headBytes d.bind.want)) (bitN d.bind.all) 1
  else if d.kind = 6 then outRaw (outNum (outNum ⟨[], 0⟩ d.kind 1) d.tick 8) (mailBytes d.mail)
  else if d.kind = 1 ∨ d.kind = 3 ∨ d.kind = 7 then outText (outNum (outNum ⟨[], 0⟩ d.kind 1) d.tick 8) d.name
  else if d.kind = 8 then outNum (outNum (outText (outNum (outNum ⟨[], 0⟩ d.kind 1) d.tick 8) d.name) d.id 8) d.how 1
  else if d.kind = 10 then outRaw (outNum (outNum (outNum (outNum ⟨[], 0⟩ d.kind 1) d.tick 8) d.frm 1) d.number 8) (mailBytes d.mail)
  else if d.kind = 12 then outText (outNum (outNum (outNum ⟨[], 0⟩ d.kind 1) d.tick 8) d.code 1) d.text
  else outNum (outNum ⟨[], 0⟩ d.kind 1) d.tick 8
def deedBytes (d : DeedR) : Bs := if deedE d = 0 then (deedOut d).s else []
def mailB (m : Mail) : Bs := numB 8 m.id.toNat ++ (txtB m.shop ++ (txtB m.key ++ (r9B m.head ++ (txtB m.body ++ (numB 8 m.due.toNat ++ numB 1 m.hops.toNat)))))
def deedB (d : DeedR) : Bs :=
  numB 1 d.kind.toNat ++ (numB 8 d.tick.toNat ++ (
  if d.kind = 0 then txtB d.shop.name ++ (numB 1 d.shop.sort.toNat ++ txtB d.shop.to)
  else if d.kind = 2 then txtB d.queue.name ++ (numB 8 d.queue.most.toNat ++ (numB 8 d.queue.life.toNat ++ txtB d.queue.dead))
  else if d.kind = 4 ∨ d.kind = 5 then txtB d.bind.shop ++ (txtB d.bind.to ++ (numB 1 (bitN d.bind.up).toNat ++ (txtB d.bind.key ++ (r9B d.bind.want ++ numB 1 (bitN d.bind.all).toNat))))
  else if d.kind = 6 then mailB d.mail
  else if d.kind = 8 then txtB d.name ++ (numB 8 d.id.toNat ++ numB 1 d.how.toNat)
  else if d.kind = 9 ∨ d.kind = 11 then []
  else if d.kind = 10 then numB 1 d.frm.toNat ++ (numB 8 d.number.toNat ++ mailB d.mail)
  else if d.kind = 12 then numB 1 d.code.toNat ++ txtB d.text
  else txtB d.name))
def mailRead (i : In) : Mail × In :=
  let a := inNum i 8
  let b := inText a.2 16
  let c := inText b.2 64
  let h := headRead c.2
  let e := inText h.2 256
  let f := inNum e.2 8
  let g := inNum f.2 1
  let m : Mail := ⟨a.1, b.1, c.1, h.1, e.1, f.1, g.1⟩
  let j := if g.2.err = 0 then inFail g.2 (mailC m) else g.2
  if j.err = 0 then (m, j) else (Mail.zero, j)
def DeedR.blank (k t : Int) : DeedR := ⟨k, t, .zero, .zero, .zero, [], 0, 0, 0, 0, 0, .zero, []⟩
def bindRead (i : In) : BindR × In :=
  let a := inText i 16
  let b := inText a.2 16
  let u := inNum b.2 1
  let k := inText u.2 64
  let h := headRead k.2
  let l := inNum h.2 1
  (⟨a.1, b.1, decide (u.1 = 1), k.1, h.1, decide (l.1 = 1)⟩, l.2)
def readK (k t : Int) (j : In) : DeedR × In :=
  let z := DeedR.blank k t
  if k = 0 then
    let a := inText j 16
    let b := inNum a.2 1
    let c := inText b.2 16
    ({ z with shop := ⟨a.1, b.1, c.1⟩ }, c.2)
  else if k = 2 then
    let a := inText j 16
    let b := inNum a.2 8
    let c := inNum b.2 8
    let e := inText c.2 16
    ({ z with queue := ⟨a.1, b.1, c.1, e.1⟩ }, e.2)
  else if k = 4 ∨ k = 5 then ({ z with bind := (bindRead j).1 }, (bindRead j).2)
  else if k = 6 then ({ z with mail := (mailRead j).1 }, (mailRead j).2)
  else if k = 1 ∨ k = 3 ∨ k = 7 then ({ z with name := (inText j 16).1 }, (inText j 16).2)
  else if k = 8 then
    let a := inText j 16
    let b := inNum a.2 8
    let c := inNum b.2 1
    ({ z with name := a.1, id := b.1, how := c.1 }, c.2)
  else if k = 10 then
    let a := inNum j 1
    let b := inNum a.2 8
    ({ z with frm := a.1, number := b.1, mail := (mailRead b.2).1 }, (mailRead b.2).2)
  else if k = 12 then
    let a := inNum j 1
    let b := inText a.2 64
    ({ z with code := a.1, text := b.1 }, b.2)
  else (z, j)
def readD (i : In) : DeedR × In := readK (inNum i 1).1 (inNum (inNum i 1).2 8).1 (inNum (inNum i 1).2 8).2
/-! Many -/
def packGo : List DeedR → Bs → Bs × Int
  | [], s => (s, 0)
  | d :: l, s => if deedE d ≠ 0 then ([], deedE d) else packGo l (s ++ deedB d)
def packD (l : List DeedR) : Bs × Int := if (255 : Int) < l.length then ([], 6) else packGo l (numB 1 l.length)
def unpackGo : Nat → In → List DeedR → List DeedR × In
  | 0, i, l => (l, i)
  | k + 1, i, l => if i.err = 0 then unpackGo k (readD i).2 (l ++ [(readD i).1]) else (l, i)
def unpackD (s : Bs) : List DeedR × Int :=
  let r := unpackGo (inNum ⟨s, 0⟩ 1).1.toNat (inNum ⟨s, 0⟩ 1).2 []
  if inEnd r.2 = 0 ∧ (packD r.1).2 = 0 ∧ (packD r.1).1 = s then (r.1, 0) else ([], 4)
end Go.SW
namespace Go.SW
theorem mailBytes_len (m : Mail) : (mailBytes m).length ≤ 3000 := by
  unfold mailBytes
  split
  · rename_i h
    obtain ⟨h1, h2, h3, h4, _⟩ := mailC_ok h
    have := headBytes_len m.head
    have a1 := outNum_len ⟨[], 0⟩ m.id 8
    have a2 := outText_len (outNum ⟨[], 0⟩ m.id 8) m.shop
    have a3 := outText_len (outText (outNum ⟨[], 0⟩ m.id 8) m.shop) m.key
    have a4 := outRaw_len (outText (outText (outNum ⟨[], 0⟩ m.id 8) m.shop) m.key) (headBytes m.head)
    have a5 := outText_len (outRaw (outText (outText (outNum ⟨[], 0⟩ m.id 8) m.shop) m.key) (headBytes m.head)) m.body
    have a6 := outNum_len (outText (outRaw (outText (outText (outNum ⟨[], 0⟩ m.id 8) m.shop) m.key) (headBytes m.head)) m.body) m.due 8
    have a7 := outNum_len (outNum (outText (outRaw (outText (outText (outNum ⟨[], 0⟩ m.id 8) m.shop) m.key) (headBytes m.head)) m.body) m.due 8) m.hops 1
    simp only [mailOut, List.length_nil] at *
    omega
  · simp
theorem deedBytes_len {d : DeedR} (hk : 0 ≤ d.kind) : (deedBytes d).length ≤ 5000 := by
  by_cases h : deedE d = 0
  · have ok := deedE_ok hk h
    obtain ⟨k1, k2, k3, k4, k5, k6, k7, k8, k9, k10, k11, k12, k13, k14, k15, k16, k17, k18, k19⟩ := ok
    have e1 : ∀ o, outText o d.shop.name = ⟨o.s ++ txtB d.shop.name, o.err⟩ := fun o => outText_s (by omega)
    have e2 : ∀ o, outText o d.shop.to = ⟨o.s ++ txtB d.shop.to, o.err⟩ := fun o => outText_s (by omega)
    have e3 : ∀ o, outText o d.queue.name = ⟨o.s ++ txtB d.queue.name, o.err⟩ := fun o => outText_s (by omega)
    have e4 : ∀ o, outText o d.queue.dead = ⟨o.s ++ txtB d.queue.dead, o.err⟩ := fun o => outText_s (by omega)
    have e5 : ∀ o, outText o d.bind.shop = ⟨o.s ++ txtB d.bind.shop, o.err⟩ := fun o => outText_s (by omega)
    have e6 : ∀ o, outText o d.bind.to = ⟨o.s ++ txtB d.bind.to, o.err⟩ := fun o => outText_s (by omega)
    have e7 : ∀ o, outText o d.bind.key = ⟨o.s ++ txtB d.bind.key, o.err⟩ := fun o => outText_s (by omega)
    have e8 : ∀ o, outText o d.name = ⟨o.s ++ txtB d.name, o.err⟩ := fun o => outText_s (by omega)
    have e9 : ∀ o, outText o d.text = ⟨o.s ++ txtB d.text, o.err⟩ := fun o => outText_s (by omega)
    have := headBytes_len d.bind.want
    have := mailBytes_len d.mail
    unfold deedBytes
    rw [if_pos h]
    unfold deedOut
    repeat' split
    all_goals
      simp only [e1, e2, e3, e4, e5, e6, e7, e8, e9, outRaw, outNum1, outNum8, List.length_append, numB_len, txtB_len, List.length_nil]
      omega
  · unfold deedBytes; rw [if_neg h]; simp
end Go.SW
namespace Go.SW
theorem headGo_each : ∀ {l a : List Pair}, headGo a l = 0 → ∀ p ∈ l, ∃ ah, pairErr p ah = 0
  | [], _, _, _, hp => by cases hp
  | q :: r, a, h, p, hp => by
    unfold headGo at h
    split at h
    · contradiction
    · rename_i e
      rcases List.mem_cons.1 hp with rfl | hp
      · exact ⟨a, by omega⟩
      · exact headGo_each h p hp
theorem headE_each {h : List Pair} (e : headE h = 0) : ∀ p ∈ h, ∃ ah, pairErr p ah = 0 := by
  unfold headE at e
  split at e
  · cases e
  · exact headGo_each e
theorem smallH_ok {h : List Pair} (e : headE h = 0) : smallH h := by
  obtain ⟨h1, h2⟩ := headE_ok e
  refine ⟨by omega, fun p hp => ?_⟩
  obtain ⟨a, b, c⟩ := h2 p hp
  obtain ⟨ah, q⟩ := headE_each e p hp
  obtain ⟨_, _, q3⟩ := pairErr_fwd q
  refine ⟨by omega, ?_⟩
  by_cases k : p.kind = 1
  · have := c k; omega
  · rw [q3 k]; simp
end Go.SW
namespace Go.SW
def lightMl (m : Mail) : Bool := decide ((m.shop.length : Int) ≤ 40) && decide ((m.key.length : Int) ≤ 100) && lightH m.head && decide ((m.body.length : Int) ≤ 300)
def lightD (d : DeedR) : Bool :=
  decide ((max (max (max (max (max (max (d.shop.name.length : Int) (d.shop.to.length : Int)) (d.queue.name.length : Int)) (d.queue.dead.length : Int)) (d.bind.shop.length : Int)) (d.bind.to.length : Int)) (d.name.length : Int)) ≤ 40) && decide ((max (d.bind.key.length : Int) (d.text.length : Int)) ≤ 100) && lightH d.bind.want && lightMl d.mail
end Go.SW
namespace Go.SW
def shopRE : Hp → ShopR → List Value → Prop := FE ShopR.cells ShopR.wf
def queueRE : Hp → QueueR → List Value → Prop := FE QueueR.cells QueueR.wf
def bindRE : Hp → BindR → List Value → Prop := fun H x cs => ∃ (a1 : Option Addr) (c1 : Nat), cs = BindR.cells x a1 c1 ∧ SlH pairE 4 H (.slice a1 x.want.length c1) x.want ∧ x.wf
def deedRE : Hp → DeedR → List Value → Prop := fun H x cs => ∃ (a1 : Option Addr) (c1 : Nat) (a2 : Option Addr) (c2 : Nat), cs = DeedR.cells x a1 c1 a2 c2 ∧ SlH pairE 4 H (.slice a1 x.bind.want.length c1) x.bind.want ∧ SlH pairE 4 H (.slice a2 x.mail.head.length c2) x.mail.head ∧ x.wf
structure BookR where
  shops : List ShopR
  binds : List BindR
deriving DecidableEq
def BookR.cells (x : BookR) (a1 : Option Addr) (c1 : Nat) (a2 : Option Addr) (c2 : Nat) : List Value := [.slice a1 x.shops.length c1, .slice a2 x.binds.length c2]
def BookR.wf (x : BookR) : Prop := x.shops.length ≤ 9223372036854775807 ∧ x.binds.length ≤ 9223372036854775807
def BookR.zero : BookR := ⟨[], []⟩
theorem BookR.eq_iff {a b : BookR} : a = b ↔ a.shops = b.shops ∧ a.binds = b.binds := by
  cases a; cases b; simp
def bookRE : Hp → BookR → List Value → Prop := fun H x cs => ∃ (a1 : Option Addr) (c1 : Nat) (a2 : Option Addr) (c2 : Nat), cs = BookR.cells x a1 c1 a2 c2 ∧ SlH shopRE 3 H (.slice a1 x.shops.length c1) x.shops ∧ SlH bindRE 6 H (.slice a2 x.binds.length c2) x.binds ∧ x.wf
end Go.SW
namespace Go.SW
def idxF {α : Type} (p : α → Bool) : Nat → List α → Int
  | _, [] => -1
  | k, x :: r => if p x then k else idxF p (k + 1) r
def idxP {α : Type} (p : α → Bool) (l : List α) : Int := idxF p 0 l
theorem idx_miss {α : Type} {p : α → Bool} {l r : List α} {c : α} {k : Nat} (h : idxP p l = idxF p k (l.drop k)) (e : l.drop k = c :: r) (hc : p c = false) : idxP p l = idxF p (k + 1) r := by
  rw [h, e, idxF, hc]; rfl
theorem idx_hit {α : Type} {p : α → Bool} {l r : List α} {c : α} {k : Nat} (h : idxP p l = idxF p k (l.drop k)) (e : l.drop k = c :: r) (hc : p c = true) : idxP p l = k := by
  rw [h, e, idxF, hc]; rfl
theorem idx_end {α : Type} {p : α → Bool} {l : List α} {k : Nat} (h : idxP p l = idxF p k (l.drop k)) (hk : l.length ≤ k) : idxP p l = -1 := by
  rw [h, List.drop_of_length_le hk]; rfl
theorem idxF_r {α : Type} (p : α → Bool) : ∀ (l : List α) (k : Nat), idxF p k l = -1 ∨ (k : Int) ≤ idxF p k l ∧ idxF p k l < k + l.length
  | [], k => .inl rfl
  | x :: r, k => by
    unfold idxF
    split
    · right; simp; omega
    · rcases idxF_r p r (k + 1) with h | h
      · exact .inl h
      · right; simp only [List.length_cons]; omega
theorem idxP_r {α : Type} (p : α → Bool) (l : List α) : -1 ≤ idxP p l ∧ idxP p l < (l.length : Int) ∨ idxP p l = -1 := by
  have := idxF_r p l 0
  unfold idxP
  omega
theorem idxF_any {α : Type} (p : α → Bool) : ∀ (l : List α) (k : Nat), (0 ≤ idxF p k l) = (l.any p = true)
  | [], k => by simp [idxF]
  | x :: r, k => by
    unfold idxF
    cases h : p x with
    | true => simp [h]
    | false => simp only [Bool.false_eq_true, if_false, List.any_cons, h, Bool.false_or]; exact idxF_any p r (k + 1)
theorem idxP_any {α : Type} (p : α → Bool) (l : List α) : (0 ≤ idxP p l) = (l.any p = true) := idxF_any p l 0
/-! Books -/
def shopOf (l : List ShopR) (n : Bs) : Option ShopR := l.find? fun s => decide (s.name = n)
theorem shopOf_hit {l r : List ShopR} {c : ShopR} {n : Bs} {k : Nat} (h : shopOf l n = shopOf (l.drop k) n) (e : l.drop k = c :: r) (hc : c.name = n) : shopOf l n = some c := by
  rw [h, e]; simp [shopOf, hc]
theorem shopOf_miss {l r : List ShopR} {c : ShopR} {n : Bs} {k : Nat} (h : shopOf l n = shopOf (l.drop k) n) (e : l.drop k = c :: r) (hc : ¬ c.name = n) : shopOf l n = shopOf r n := by
  rw [h, e]; simp [shopOf, hc]
def shopE (x : ShopR) : Int := if nameE x.name ≠ 0 then nameE x.name else if 4 < x.sort then 8 else if x.sort = 4 then nameE x.to else if x.to ≠ [] then 4 else 0
theorem shopE_r (x : ShopR) : 0 ≤ shopE x ∧ shopE x ≤ 15 := by
  have := nameE_r x.name
  have := nameE_r x.to
  unfold shopE
  repeat' split
  all_goals omega
def makeS (b : BookR) (x : ShopR) : BookR × Int :=
  if shopE x ≠ 0 then (b, shopE x)
  else if (shopOf b.shops x.name).isSome = true ∧ x = (shopOf b.shops x.name).getD ShopR.zero then (b, 0)
  else if (shopOf b.shops x.name).isSome = true then (b, 9)
  else if 8 ≤ b.shops.length then (b, 12)
  else (⟨b.shops ++ [x], b.binds⟩, 0)
def bindRule (x : BindR) (sort : Int) : Rule := ⟨sort, x.key, x.want, x.all⟩
def bindS (b : BookR) (x : BindR) : BookR × Int :=
  if (shopOf b.shops x.shop).isSome = false then (b, 10)
  else if ((shopOf b.shops x.shop).getD ShopR.zero).sort = 4 then (b, 8)
  else if nameE x.to ≠ 0 then (b, nameE x.to)
  else if ruleE (bindRule x ((shopOf b.shops x.shop).getD ShopR.zero).sort) ≠ 0 then (b, ruleE (bindRule x ((shopOf b.shops x.shop).getD ShopR.zero).sort))
  else if 0 ≤ idxP (fun y => decide (x = y)) b.binds then (b, 0)
  else if 32 ≤ b.binds.length then (b, 12)
  else (⟨b.shops, b.binds ++ [x]⟩, 0)
def putS (l : List Bs) (s : Bs) : List Bs := if s ∈ l then l else l ++ [s]
def leadGo (sort : Int) (shop key : Bs) (h : List Pair) : List BindR → List Bs → List Bs → List Bs × List Bs
  | [], q, p => (q, p)
  | y :: r, q, p => if y.shop ≠ shop ∨ goesR (bindRule y sort) key h = false then leadGo sort shop key h r q p else if y.up = true then leadGo sort shop key h r q (putS p y.to) else leadGo sort shop key h r (putS q y.to) p
def leadS (b : BookR) (shop key : Bs) (h : List Pair) : List Bs × List Bs × Int :=
  if (shopOf b.shops shop).isSome = false then ([], [], 10)
  else if ((shopOf b.shops shop).getD ShopR.zero).sort = 4 then ([], [((shopOf b.shops shop).getD ShopR.zero).to], 0)
  else ((leadGo ((shopOf b.shops shop).getD ShopR.zero).sort shop key h b.binds [] []).1, (leadGo ((shopOf b.shops shop).getD ShopR.zero).sort shop key h b.binds [] []).2, 0)
end Go.SW
namespace Go.SW
def allD (l : List DeedR) : List DeedR × Bool := if l.all lightD = true then (l, true) else ([], false)
end Go.SW
namespace Go.SW
end Go.SW
namespace Go.SW
end Go.SW
namespace Go.SW
structure DWf (d : DeedR) : Prop where
  w : d.wf
  want : ∀ p ∈ d.bind.want, p.wf
  head : ∀ p ∈ d.mail.head, p.wf
/-! What is read -/
end Go.SW
namespace Go.SW
end Go.SW
namespace Go.SW
def settlesB (l : List DeedR) (n : Bs) (i : Int) : Bool := l.any fun x => decide (x.kind = 8) && decide (x.name = n) && decide (x.id = i)
def draftE (l : List DeedR) (d : DeedR) : Int :=
  if d.kind ≠ 6 ∧ d.kind ≠ 8 then 8
  else if deedE d ≠ 0 then deedE d
  else if d.kind = 8 ∧ settlesB l d.name d.id = true then 9
  else if 16 ≤ l.length then 12
  else 0
def addGo (x : List DeedR) : List DeedR → List DeedR → List DeedR × Int
  | n, [] => (n, 0)
  | n, d :: l => if draftE n d ≠ 0 then (x, draftE n d) else addGo x (n ++ [d]) l
def addD (x l : List DeedR) : List DeedR × Int := addGo x x l
def atD (t : Int) (d : DeedR) : DeedR := { d with tick := t, mail := if d.kind = 6 then { d.mail with due := lifeN t d.mail.due } else d.mail }
/-- What is held may be. -/
def Held (l : List DeedR) : Prop := ∀ d ∈ l, deedE d = 0
end Go.SW
namespace Go.SW
structure DraftR where
  l : List DeedR
deriving DecidableEq
def DraftR.cells (x : DraftR) (a1 : Option Addr) (c1 : Nat) : List Value := [.slice a1 x.l.length c1]
def DraftR.wf (x : DraftR) : Prop := x.l.length ≤ 9223372036854775807
def DraftR.zero : DraftR := ⟨[]⟩
theorem DraftR.eq_iff {a b : DraftR} : a = b ↔ a.l = b.l := by
  cases a; cases b; simp
def draftRE : Hp → DraftR → List Value → Prop := fun H x cs => ∃ (a1 : Option Addr) (c1 : Nat), cs = DraftR.cells x a1 c1 ∧ SlH deedRE 29 H (.slice a1 x.l.length c1) x.l ∧ x.wf
end Go.SW
namespace Go.SW
def Feed.pc (x : Feed) : List PV := [.str x.rest, .int .i64 x.err]
instance : Inhabited Feed := ⟨⟨[], 0⟩⟩
def Out.pc (x : Out) : List PV := [.str x.s, .int .i64 x.err]
instance : Inhabited Out := ⟨⟨[], 0⟩⟩
def In.pc (x : In) : List PV := [.str x.s, .int .i64 x.err]
instance : Inhabited In := ⟨⟨[], 0⟩⟩
def RIn.pc (x : RIn) : List PV := [.str x.s, .int .i64 x.pos, .int .i64 x.code]
instance : Inhabited RIn := ⟨⟨[], 0, 0⟩⟩
def Pair.pc (x : Pair) : List PV := [.str x.key, .int .u8 x.kind, .int .i64 x.num, .str x.text]
instance : Inhabited Pair := ⟨⟨[], 0, 0, []⟩⟩
theorem Pair.pwf {x : Pair} (h : PV.wfs (Pair.pc x)) : Pair.wf x := by
  simp only [Pair.pc, PV.wfs, PV.wf] at h
  simp only [Pair.wf]
  omega
def Frame.pc (x : Frame) : List PV := [.int .u8 x.channel, .int .u8 x.kind, .str x.body]
instance : Inhabited Frame := ⟨⟨0, 0, []⟩⟩
theorem Frame.pwf {x : Frame} (h : PV.wfs (Frame.pc x)) : Frame.wf x := by
  simp only [Frame.pc, PV.wfs, PV.wf] at h
  simp only [Frame.wf]
  omega
def ShopR.pc (x : ShopR) : List PV := [.str x.name, .int .u8 x.sort, .str x.to]
instance : Inhabited ShopR := ⟨⟨[], 0, []⟩⟩
theorem ShopR.pwf {x : ShopR} (h : PV.wfs (ShopR.pc x)) : ShopR.wf x := by
  simp only [ShopR.pc, PV.wfs, PV.wf] at h
  simp only [ShopR.wf]
  omega
def QueueR.pc (x : QueueR) : List PV := [.str x.name, .int .u64 x.most, .int .u64 x.life, .str x.dead]
instance : Inhabited QueueR := ⟨⟨[], 0, 0, []⟩⟩
theorem QueueR.pwf {x : QueueR} (h : PV.wfs (QueueR.pc x)) : QueueR.wf x := by
  simp only [QueueR.pc, PV.wfs, PV.wf] at h
  simp only [QueueR.wf]
  omega
def BindR.pc (x : BindR) : List PV := [.str x.shop, .str x.to, .bool x.up, .str x.key, .sl Pair.pc x.want, .bool x.all]
instance : Inhabited BindR := ⟨⟨[], [], false, [], [], false⟩⟩
theorem BindR.pwf {x : BindR} (h : PV.wfs (BindR.pc x)) : BindR.wf x := by
  simp only [BindR.pc, PV.wfs, PV.wf] at h
  simp only [BindR.wf]
  omega
def Rule.pc (x : Rule) : List PV := [.int .u8 x.sort, .str x.key, .sl Pair.pc x.want, .bool x.all]
instance : Inhabited Rule := ⟨⟨0, [], [], false⟩⟩
theorem Rule.pwf {x : Rule} (h : PV.wfs (Rule.pc x)) : Rule.wf x := by
  simp only [Rule.pc, PV.wfs, PV.wf] at h
  simp only [Rule.wf]
  omega
theorem Rule.kd2 {x : Rule} (h : PV.wfs (Rule.pc x)) : ∀ p ∈ x.want, 0 ≤ p.kind := fun p hp => by
  have q := Pair.pwf (h.2.2.1.2 p hp)
  simp only [Pair.wf] at q
  omega
def Mail.pc (x : Mail) : List PV := [.int .u64 x.id, .str x.shop, .str x.key, .sl Pair.pc x.head, .str x.body, .int .u64 x.due, .int .u8 x.hops]
instance : Inhabited Mail := ⟨⟨0, [], [], [], [], 0, 0⟩⟩
theorem Mail.pwf {x : Mail} (h : PV.wfs (Mail.pc x)) : Mail.wf x := by
  simp only [Mail.pc, PV.wfs, PV.wf] at h
  simp only [Mail.wf]
  omega
theorem Mail.kd3 {x : Mail} (h : PV.wfs (Mail.pc x)) : ∀ p ∈ x.head, 0 ≤ p.kind := fun p hp => by
  have q := Pair.pwf (h.2.2.2.1.2 p hp)
  simp only [Pair.wf] at q
  omega
def Reply.pc (x : Reply) : List PV := [.int .u8 x.channel, .int .u8 x.kind, .int .u64 x.n, .int .u64 x.m, .bool x.yes, .str x.name, .int .u64 x.mail.id, .str x.mail.shop, .str x.mail.key, .sl Pair.pc x.mail.head, .str x.mail.body, .int .u64 x.mail.due, .int .u8 x.mail.hops]
instance : Inhabited Reply := ⟨⟨0, 0, 0, 0, false, [], ⟨0, [], [], [], [], 0, 0⟩⟩⟩
theorem Reply.pwf {x : Reply} (h : PV.wfs (Reply.pc x)) : Reply.wf x := by
  simp only [Reply.pc, PV.wfs, PV.wf] at h
  simp only [Reply.wf, Mail.wf]
  omega
theorem Reply.kd9 {x : Reply} (h : PV.wfs (Reply.pc x)) : ∀ p ∈ x.mail.head, 0 ≤ p.kind := fun p hp => by
  have q := Pair.pwf (h.2.2.2.2.2.2.2.2.2.1.2 p hp)
  simp only [Pair.wf] at q
  omega
def Method.pc (x : Method) : List PV := [.int .u8 x.channel, .int .u8 x.kind, .str x.name, .str x.other, .str x.key, .sl Pair.pc x.head, .str x.body, .int .u64 x.n, .int .u64 x.m, .bool x.yes]
instance : Inhabited Method := ⟨⟨0, 0, [], [], [], [], [], 0, 0, false⟩⟩
theorem Method.pwf {x : Method} (h : PV.wfs (Method.pc x)) : Method.wf x := by
  simp only [Method.pc, PV.wfs, PV.wf] at h
  simp only [Method.wf]
  omega
def DeedR.pc (x : DeedR) : List PV := [.int .u8 x.kind, .int .u64 x.tick, .str x.shop.name, .int .u8 x.shop.sort, .str x.shop.to, .str x.queue.name, .int .u64 x.queue.most, .int .u64 x.queue.life, .str x.queue.dead, .str x.bind.shop, .str x.bind.to, .bool x.bind.up, .str x.bind.key, .sl Pair.pc x.bind.want, .bool x.bind.all, .str x.name, .int .u64 x.id, .int .u8 x.how, .int .u8 x.frm, .int .u8 x.code, .int .u64 x.number, .int .u64 x.mail.id, .str x.mail.shop, .str x.mail.key, .sl Pair.pc x.mail.head, .str x.mail.body, .int .u64 x.mail.due, .int .u8 x.mail.hops, .str x.text]
instance : Inhabited DeedR := ⟨⟨0, 0, ⟨[], 0, []⟩, ⟨[], 0, 0, []⟩, ⟨[], [], false, [], [], false⟩, [], 0, 0, 0, 0, 0, ⟨0, [], [], [], [], 0, 0⟩, []⟩⟩
theorem DeedR.pwf {x : DeedR} (h : PV.wfs (DeedR.pc x)) : DeedR.wf x := by
  simp only [DeedR.pc, PV.wfs, PV.wf] at h
  simp only [DeedR.wf, ShopR.wf, QueueR.wf, BindR.wf, Mail.wf]
  omega
theorem DeedR.kd13 {x : DeedR} (h : PV.wfs (DeedR.pc x)) : ∀ p ∈ x.bind.want, 0 ≤ p.kind := fun p hp => by
  have q := Pair.pwf (h.2.2.2.2.2.2.2.2.2.2.2.2.2.1.2 p hp)
  simp only [Pair.wf] at q
  omega
theorem DeedR.kd24 {x : DeedR} (h : PV.wfs (DeedR.pc x)) : ∀ p ∈ x.mail.head, 0 ≤ p.kind := fun p hp => by
  have q := Pair.pwf (h.2.2.2.2.2.2.2.2.2.2.2.2.2.2.2.2.2.2.2.2.2.2.2.2.1.2 p hp)
  simp only [Pair.wf] at q
  omega
def BookR.pc (x : BookR) : List PV := [.sl ShopR.pc x.shops, .sl BindR.pc x.binds]
instance : Inhabited BookR := ⟨⟨[], []⟩⟩
theorem BookR.pwf {x : BookR} (h : PV.wfs (BookR.pc x)) : BookR.wf x := by
  simp only [BookR.pc, PV.wfs, PV.wf] at h
  simp only [BookR.wf]
  omega
def DraftR.pc (x : DraftR) : List PV := [.sl DeedR.pc x.l]
instance : Inhabited DraftR := ⟨⟨[]⟩⟩
theorem DraftR.pwf {x : DraftR} (h : PV.wfs (DraftR.pc x)) : DraftR.wf x := by
  simp only [DraftR.pc, PV.wfs, PV.wf] at h
  simp only [DraftR.wf]
  omega
end Go.SW
namespace Go.SW
theorem idxF_b {α : Type} (p : α → Bool) : ∀ (l : List α) (k : Nat), idxF p k l = -1 ∨ ((k : Int) ≤ idxF p k l ∧ idxF p k l < k + l.length)
  | [], k => .inl (by simp [idxF])
  | a :: r, k => by
    simp only [idxF]
    split
    · right; simp only [List.length_cons]; omega
    · rcases idxF_b p r (k + 1) with h | h
      · exact .inl h
      · right; simp only [List.length_cons]; omega
theorem idxP_b {α : Type} (p : α → Bool) (l : List α) : -1 ≤ idxP p l ∧ idxP p l < l.length := by
  rcases idxF_b p l 0 with h | h <;> simp only [idxP] <;> omega
theorem idxF_find {α : Type} (p : α → Bool) : ∀ (l : List α) (k : Nat), (idxF p k l < 0 → l.find? p = none) ∧ (0 ≤ idxF p k l → ∀ c, l[(idxF p k l).toNat - k]? = some c → p c = true ∧ l.find? p = some c)
  | [], k => ⟨fun _ => rfl, fun h => by simp [idxF] at h⟩
  | a :: r, k => by
    obtain ⟨h1, h2⟩ := idxF_find p r (k + 1)
    have hr := idxF_b p r (k + 1)
    simp only [idxF]
    by_cases ha : p a = true
    · simp only [ha, if_true]
      refine ⟨fun h => by omega, fun _ c hc => ?_⟩
      have : ((k : Int)).toNat - k = 0 := by omega
      rw [this] at hc
      simp at hc
      subst hc
      exact ⟨ha, by simp [ha]⟩
    · have hf : p a = false := by simpa using ha
      simp only [hf, if_false, Bool.false_eq_true, List.find?_cons]
      refine ⟨h1, fun h0 c hc => ?_⟩
      refine h2 h0 c ?_
      have e : (idxF p (k + 1) r).toNat - k = ((idxF p (k + 1) r).toNat - (k + 1)) + 1 := by omega
      rw [e] at hc
      simpa using hc
theorem idxP_neg {α : Type} {p : α → Bool} {l : List α} (h : idxP p l < 0) : l.find? p = none := (idxF_find p l 0).1 h
theorem idxP_get {α : Type} {p : α → Bool} {l : List α} {c : α} (h0 : ¬ idxP p l < 0) (h : l[(idxP p l).toNat]? = some c) : p c = true ∧ l.find? p = some c := (idxF_find p l 0).2 (by simp only [idxP] at h0; omega) c (by simpa [idxP] using h)
theorem getJ {α : Type} [Inhabited α] (xs : List α) (m : Nat) : ∃ c, (m < xs.length → xs[m]? = some c) := by
  by_cases h : m < xs.length
  · exact ⟨xs[m], fun _ => List.getElem?_eq_getElem h⟩
  · exact ⟨default, fun q => absurd q h⟩
end Go.SW
namespace Go.SW.V
open Go.SW
/-- An answer, and what is made of it. -/
def lt {α β : Type} (a : α) (f : α → β) : β := f a
theorem lt_eq {α β : Type} {a r : α} {f : α → β} (h : r = a) : lt a f = f r := by subst h; rfl
theorem condT {α : Type} {c : Bool} {a b : α} (h : c = true) : (bif c then a else b) = a := by rw [h]; rfl
theorem condF {α : Type} {c : Bool} {a b : α} (h : c = false) : (bif c then a else b) = b := by rw [h]; rfl
/-- A part of a function goes on, or the function's answer is there. -/
inductive Lo (σ ρ : Type) where
  | fin (s : σ)
  | ret (r : ρ)
def lp0 {ρ β : Type} (o : Lo Unit ρ) (f : β) (g : ρ → β) : β := match o with
  | .fin _ => f
  | .ret r => g r
theorem lp0_fin {ρ β : Type} {l : β} {o : Lo Unit ρ} {f : β} {g : ρ → β} (h : l = lp0 o f g) (k : o = .fin ()) : l = f := by subst k; exact h
theorem lp0_ret {ρ β : Type} {l : β} {o : Lo Unit ρ} {f : β} {g : ρ → β} {r : ρ} (h : l = lp0 o f g) (k : o = .ret r) : l = g r := by subst k; exact h
theorem lp0_split {ρ β : Type} {l : β} {X : Lo Unit ρ} {f : β} {g : ρ → β} (h : l = lp0 X f g) : ∃ o, o = X ∧ l = lp0 o f g := ⟨_, rfl, h⟩
def lt0 {β : Type} (_ : Unit) (f : β) : β := f
def lp1 {σ1 ρ β : Type} (o : Lo (σ1) ρ) (f : σ1 → β) (g : ρ → β) : β := match o with
  | .fin s => f s
  | .ret r => g r
def lt1 {σ1 β : Type} (s : σ1) (f : σ1 → β) : β := f s
theorem lt1_fin {σ1 β : Type} {l : β} {o : σ1} {f : σ1 → β} {a1 : σ1} (h : l = lt1 o f) (k : o = a1) : l = f a1 := by subst k; exact h
theorem lt1_split {σ1 β : Type} {l : β} {X : σ1} {f : σ1 → β} (h : l = lt1 X f) : ∃ o, o = X ∧ l = lt1 o f := ⟨_, rfl, h⟩
def lp2 {σ1 σ2 ρ β : Type} (o : Lo (σ1 × σ2) ρ) (f : σ1 → σ2 → β) (g : ρ → β) : β := match o with
  | .fin s => f s.1 s.2
  | .ret r => g r
theorem lp2_fin {σ1 σ2 ρ β : Type} {l : β} {o : Lo (σ1 × σ2) ρ} {f : σ1 → σ2 → β} {g : ρ → β} {a1 : σ1} {a2 : σ2} (h : l = lp2 o f g) (k : o = .fin (a1, a2)) : l = f a1 a2 := by subst k; exact h
theorem lp2_ret {σ1 σ2 ρ β : Type} {l : β} {o : Lo (σ1 × σ2) ρ} {f : σ1 → σ2 → β} {g : ρ → β} {r : ρ} (h : l = lp2 o f g) (k : o = .ret r) : l = g r := by subst k; exact h
theorem lp2_split {σ1 σ2 ρ β : Type} {l : β} {X : Lo (σ1 × σ2) ρ} {f : σ1 → σ2 → β} {g : ρ → β} (h : l = lp2 X f g) : ∃ o, o = X ∧ l = lp2 o f g := ⟨_, rfl, h⟩
def lt2 {σ1 σ2 β : Type} (s : σ1 × σ2) (f : σ1 → σ2 → β) : β := f s.1 s.2
def lp3 {σ1 σ2 σ3 ρ β : Type} (o : Lo (σ1 × σ2 × σ3) ρ) (f : σ1 → σ2 → σ3 → β) (g : ρ → β) : β := match o with
  | .fin s => f s.1 s.2.1 s.2.2
  | .ret r => g r
def lt3 {σ1 σ2 σ3 β : Type} (s : σ1 × σ2 × σ3) (f : σ1 → σ2 → σ3 → β) : β := f s.1 s.2.1 s.2.2
def lp4 {σ1 σ2 σ3 σ4 ρ β : Type} (o : Lo (σ1 × σ2 × σ3 × σ4) ρ) (f : σ1 → σ2 → σ3 → σ4 → β) (g : ρ → β) : β := match o with
  | .fin s => f s.1 s.2.1 s.2.2.1 s.2.2.2
  | .ret r => g r
def lt4 {σ1 σ2 σ3 σ4 β : Type} (s : σ1 × σ2 × σ3 × σ4) (f : σ1 → σ2 → σ3 → σ4 → β) : β := f s.1 s.2.1 s.2.2.1 s.2.2.2
def lp5 {σ1 σ2 σ3 σ4 σ5 ρ β : Type} (o : Lo (σ1 × σ2 × σ3 × σ4 × σ5) ρ) (f : σ1 → σ2 → σ3 → σ4 → σ5 → β) (g : ρ → β) : β := match o with
  | .fin s => f s.1 s.2.1 s.2.2.1 s.2.2.2.1 s.2.2.2.2
  | .ret r => g r
def lt5 {σ1 σ2 σ3 σ4 σ5 β : Type} (s : σ1 × σ2 × σ3 × σ4 × σ5) (f : σ1 → σ2 → σ3 → σ4 → σ5 → β) : β := f s.1 s.2.1 s.2.2.1 s.2.2.2.1 s.2.2.2.2
def lp6 {σ1 σ2 σ3 σ4 σ5 σ6 ρ β : Type} (o : Lo (σ1 × σ2 × σ3 × σ4 × σ5 × σ6) ρ) (f : σ1 → σ2 → σ3 → σ4 → σ5 → σ6 → β) (g : ρ → β) : β := match o with
  | .fin s => f s.1 s.2.1 s.2.2.1 s.2.2.2.1 s.2.2.2.2.1 s.2.2.2.2.2
  | .ret r => g r
def lt6 {σ1 σ2 σ3 σ4 σ5 σ6 β : Type} (s : σ1 × σ2 × σ3 × σ4 × σ5 × σ6) (f : σ1 → σ2 → σ3 → σ4 → σ5 → σ6 → β) : β := f s.1 s.2.1 s.2.2.1 s.2.2.2.1 s.2.2.2.2.1 s.2.2.2.2.2
def lp7 {σ1 σ2 σ3 σ4 σ5 σ6 σ7 ρ β : Type} (o : Lo (σ1 × σ2 × σ3 × σ4 × σ5 × σ6 × σ7) ρ) (f : σ1 → σ2 → σ3 → σ4 → σ5 → σ6 → σ7 → β) (g : ρ → β) : β := match o with
  | .fin s => f s.1 s.2.1 s.2.2.1 s.2.2.2.1 s.2.2.2.2.1 s.2.2.2.2.2.1 s.2.2.2.2.2.2
  | .ret r => g r
def lt7 {σ1 σ2 σ3 σ4 σ5 σ6 σ7 β : Type} (s : σ1 × σ2 × σ3 × σ4 × σ5 × σ6 × σ7) (f : σ1 → σ2 → σ3 → σ4 → σ5 → σ6 → σ7 → β) : β := f s.1 s.2.1 s.2.2.1 s.2.2.2.1 s.2.2.2.2.1 s.2.2.2.2.2.1 s.2.2.2.2.2.2
def lp8 {σ1 σ2 σ3 σ4 σ5 σ6 σ7 σ8 ρ β : Type} (o : Lo (σ1 × σ2 × σ3 × σ4 × σ5 × σ6 × σ7 × σ8) ρ) (f : σ1 → σ2 → σ3 → σ4 → σ5 → σ6 → σ7 → σ8 → β) (g : ρ → β) : β := match o with
  | .fin s => f s.1 s.2.1 s.2.2.1 s.2.2.2.1 s.2.2.2.2.1 s.2.2.2.2.2.1 s.2.2.2.2.2.2.1 s.2.2.2.2.2.2.2
  | .ret r => g r
def lt8 {σ1 σ2 σ3 σ4 σ5 σ6 σ7 σ8 β : Type} (s : σ1 × σ2 × σ3 × σ4 × σ5 × σ6 × σ7 × σ8) (f : σ1 → σ2 → σ3 → σ4 → σ5 → σ6 → σ7 → σ8 → β) : β := f s.1 s.2.1 s.2.2.1 s.2.2.2.1 s.2.2.2.2.1 s.2.2.2.2.2.1 s.2.2.2.2.2.2.1 s.2.2.2.2.2.2.2
def lp9 {σ1 σ2 σ3 σ4 σ5 σ6 σ7 σ8 σ9 ρ β : Type} (o : Lo (σ1 × σ2 × σ3 × σ4 × σ5 × σ6 × σ7 × σ8 × σ9) ρ) (f : σ1 → σ2 → σ3 → σ4 → σ5 → σ6 → σ7 → σ8 → σ9 → β) (g : ρ → β) : β := match o with
  | .fin s => f s.1 s.2.1 s.2.2.1 s.2.2.2.1 s.2.2.2.2.1 s.2.2.2.2.2.1 s.2.2.2.2.2.2.1 s.2.2.2.2.2.2.2.1 s.2.2.2.2.2.2.2.2
  | .ret r => g r
def lt9 {σ1 σ2 σ3 σ4 σ5 σ6 σ7 σ8 σ9 β : Type} (s : σ1 × σ2 × σ3 × σ4 × σ5 × σ6 × σ7 × σ8 × σ9) (f : σ1 → σ2 → σ3 → σ4 → σ5 → σ6 → σ7 → σ8 → σ9 → β) : β := f s.1 s.2.1 s.2.2.1 s.2.2.2.1 s.2.2.2.2.1 s.2.2.2.2.2.1 s.2.2.2.2.2.2.1 s.2.2.2.2.2.2.2.1 s.2.2.2.2.2.2.2.2
def lp10 {σ1 σ2 σ3 σ4 σ5 σ6 σ7 σ8 σ9 σ10 ρ β : Type} (o : Lo (σ1 × σ2 × σ3 × σ4 × σ5 × σ6 × σ7 × σ8 × σ9 × σ10) ρ) (f : σ1 → σ2 → σ3 → σ4 → σ5 → σ6 → σ7 → σ8 → σ9 → σ10 → β) (g : ρ → β) : β := match o with
  | .fin s => f s.1 s.2.1 s.2.2.1 s.2.2.2.1 s.2.2.2.2.1 s.2.2.2.2.2.1 s.2.2.2.2.2.2.1 s.2.2.2.2.2.2.2.1 s.2.2.2.2.2.2.2.2.1 s.2.2.2.2.2.2.2.2.2
  | .ret r => g r
def lt10 {σ1 σ2 σ3 σ4 σ5 σ6 σ7 σ8 σ9 σ10 β : Type} (s : σ1 × σ2 × σ3 × σ4 × σ5 × σ6 × σ7 × σ8 × σ9 × σ10) (f : σ1 → σ2 → σ3 → σ4 → σ5 → σ6 → σ7 → σ8 → σ9 → σ10 → β) : β := f s.1 s.2.1 s.2.2.1 s.2.2.2.1 s.2.2.2.2.1 s.2.2.2.2.2.1 s.2.2.2.2.2.2.1 s.2.2.2.2.2.2.2.1 s.2.2.2.2.2.2.2.2.1 s.2.2.2.2.2.2.2.2.2
/-! Elements -/
def gt {α : Type} [Inhabited α] (xs : List α) (k : Nat) : α := xs.getD k default
theorem getG {α : Type} [Inhabited α] {xs : List α} {k : Nat} (h : k < xs.length) : xs[k]? = some (gt xs k) := by
  rw [gt, List.getD_eq_getElem?_getD, List.getElem?_eq_getElem h]; rfl
theorem dropG {α : Type} [Inhabited α] {xs : List α} {k : Nat} (h : k < xs.length) : xs.drop k = gt xs k :: xs.drop (k + 1) := dropE (getG h)
theorem gt_mem {α : Type} [Inhabited α] {xs : List α} {k : Nat} (h : k < xs.length) : gt xs k ∈ xs := List.mem_of_getElem? (getG h)
theorem dropN {α : Type} {xs : List α} {k : Nat} (h : ¬ k < xs.length) : xs.drop k = [] := List.drop_of_length_le (by omega)
theorem lstep {α τ : Type} {l : τ} {xs ys : List α} {f : List α → τ} {v : τ} (e : l = f xs) (h : xs = ys) (k : f ys = v) : l = v := by subst h; exact e.trans k
theorem ple_of {α : Type} {p : PV} {a v : α} (f : α → PV) (e : a = v) (h : PLe p (f v)) : PLe p (f a) := by subst e; exact h
variable {P : Program} {n : Nat} {N : Rest} {H0 : Env} {all rest : List Oper} {Q : Qs} {ks : List Kt} {fF : Nat → PV} {fL : Nat → Blk} {T T' T2 ty d : Nat} {pos : String} {af : Array Edge} {x y z : Operand} {K : St → Prop} {op : Op} {p : PV}
/-- Several ways through a part meet behind it. -/
theorem joinc {ι : Type} {X : Code} (keep kL : List Nat) (lv : ι → List (Nat × PV)) (lL : ι → List (Nat × Blk)) (Φ : ι → Prop) (h : Hd P n N H0 Q (.code X) (.lp (LJ (fun x => ⟨mkF (lv x) keep fF, mkL (lL x) kL fL⟩) Φ (fun _ => 0) 1) :: ks) ⟨fF, fL⟩) (k : ∀ x, Φ x → Hd P n N H0 Q (.ex .normal) ks ⟨mkF (lv x) keep fF, mkL (lL x) kL fL⟩) : Hd P n N H0 Q (.code X) ks ⟨fF, fL⟩ := by
  intro F H L ha
  refine cw_mono (fun e F' H' L' hq => ?_) (h F H L ha)
  obtain ⟨s', ha', hq'⟩ := hq
  cases e with
  | normal => obtain ⟨x, h1, _, h3⟩ := hq'; exact ⟨_, h3 _ _ _ _ ha', k x h1⟩
  | _ => exact ⟨s', ha', hq'⟩
/-- A call whose answer gets a name. -/
theorem callv {α : Type} (g : α) (res : α → PV) {f : FuncId} {args : List PV} {xs : Array Operand} {ats : Array TypeId} (h : Fn P H0.g f args (res g)) (ha : argsP fF x xs.toList = some (f, args)) (hd : Nat.blt d n = true) (k : ∀ r, r = g → (res r).wf → Hd P n N H0 Q (.ops all rest) ks ⟨updp fF d (res r), fL⟩) : Hd P n N H0 Q (.ops all (⟨some d, .call ⟨.value x, xs, ats⟩, ty, pos, af, none⟩ :: rest)) ks ⟨fF, fL⟩ := call h ha hd (k g rfl)
/-- At a round's end or where ways meet, what is there may be said otherwise. -/
theorem lj_le {ι : Type} {S : ι → St} {Φ : ι → Prop} {μ : ι → Nat} {m : Nat} {s s' : St} (h : StLe s s') (k : Hd P n N H0 Q (.ex .normal) (.lp (LJ S Φ μ m) :: ks) s') : Hd P n N H0 Q (.ex .normal) (.lp (LJ S Φ μ m) :: ks) s := by
  obtain ⟨x, h1, h2, h3⟩ := k
  exact ⟨x, h1, h2, h.trans h3⟩
theorem lj_osl {α : Type} {ι : Type} {S : ι → St} {Φ : ι → Prop} {μ : ι → Nat} {m t k e : Nat} {u : Value} {enc : α → List PV} {xs : List α} (i : Nat) (hF : fF t = .val u) (hL : fL i = .arr u k e enc xs) (kk : Hd P n N H0 Q (.ex .normal) (.lp (LJ S Φ μ m) :: ks) ⟨updp fF t (.osl i), fL⟩) : Hd P n N H0 Q (.ex .normal) (.lp (LJ S Φ μ m) :: ks) ⟨fF, fL⟩ := lj_le (fun _ _ _ _ ha => val_osl ha hF hL) kk
theorem bcase {p : Prop} (b : Bool) (ht : b = true → p) (hf : b = false → p) : p := by cases b; exact hf rfl; exact ht rfl
theorem eweak {o : Oper} {i : Nat} (h : E1 P n N H0 all o none ⟨fF, fL⟩ K) : E1 P n N H0 all o (some i) ⟨fF, fL⟩ K := fun F H L ha => (h F H L ha).imp fun F' H' L' ⟨x, y, z⟩ => ⟨x, fun q _ => y q (by simp), z⟩
/-- A list that is owned is given to be read, and the operation carried out. -/
theorem egive {α : Type} {e k : Nat} {u : Value} {enc : α → List PV} {xs : List α} {o : Oper} (i : Nat) (hb : fL i = .arr u k e enc xs) (h : E1 P n N H0 all o (some i) ⟨giveF i enc xs fF, giveL i enc xs fL⟩ K) : E1 P n N H0 all o (some i) ⟨fF, fL⟩ K := by
  intro F H L ha a w hA hm
  obtain ⟨H1, hl1, hg1, hm1⟩ := hm.giveO (i := i) rfl
  have ha1 := ha.give hb hl1 hg1
  exact (h F H1 (lupd L i none) ha1).imp (fun F' H' L' ⟨x, y, z⟩ => ⟨hl1.trans x, fun q hq => (y q hq).trans (lupd_ne _ _ _ _ fun e => hq (by rw [e])), z⟩) a w hA hm1
end Go.SW.V
namespace Go.SW
structure TakerR where
  tag : Int
  queue : Bs
deriving DecidableEq, Inhabited
def TakerR.pc (x : TakerR) : List PV := [.int .u64 x.tag, .str x.queue]
structure LentR where
  id : Int
  queue : Bs
deriving DecidableEq, Inhabited
def LentR.pc (x : LentR) : List PV := [.int .u64 x.id, .str x.queue]
structure ChanR where
  credit : Int
  takers : List TakerR
  lent : List LentR
  sure : Bool
  drafts : Bool
  puts : Int
  held : DraftR
deriving DecidableEq, Inhabited
def ChanR.pc (x : ChanR) : List PV := [.int .i64 x.credit, .sl TakerR.pc x.takers, .sl LentR.pc x.lent, .bool x.sure, .bool x.drafts, .int .u64 x.puts, .sl DeedR.pc x.held.l]
end Go.SW
namespace Go.SW.V
open Go.SW
theorem flat_step {α : Type} {xs : List (List α)} {k : Nat} {c : List α} (h : xs[k]? = some c) : (xs.take (k + 1)).flatten = (xs.take k).flatten ++ c := by
  rw [takeE h, List.flatten_append]; simp
theorem flat_le {α : Type} (xs : List (List α)) (k : Nat) : (xs.take k).flatten.length ≤ xs.flatten.length := by
  have := congrArg (fun l : List (List α) => l.flatten.length) (List.take_append_drop k xs)
  simp only [List.flatten_append, List.length_append] at this
  omega
theorem flat_full {α : Type} {xs : List (List α)} {k : Nat} (h : xs.length ≤ k) : (xs.take k).flatten = xs.flatten := by rw [List.take_of_length_le h]
end Go.SW.V
namespace Go.SW
def bv1 (x : BitVec 32) : BitVec 32 := if x.getLsbD 0 then (x >>> 1) ^^^ 0xEDB88320#32 else x >>> 1
def tbv (x : BitVec 32) : BitVec 32 := bv1 (bv1 (bv1 (bv1 x)))
/-! On whole numbers -/
def bit1 (q : Int) : Int := if q % 2 = 1 then xor32 (q / 2) 3988292384 else q / 2
def bitIt : Nat → Int → Int
  | 0, q => q
  | n + 1, q => bitIt n (bit1 q)
end Go.SW
namespace Go.SW
open Go.ChangeShapes Go.WideShapes Go.ChangeAt Go.RowKit
def hp (w : World) : Hp := fun b => w.heap[b]?
def rest0 (w : World) : Rest := ⟨fun _ => none, w.os, w.tape, w.output⟩
theorem mem0 (w : World) : Mem (rest0 w) (hp w) l0 w :=
  { os := rfl, tape := rfl, output := rfl, n := fun _ _ h => (by cases h), h := fun _ _ h => h, l := fun _ _ _ h => (by cases h), nh := fun _ _ h => (by cases h), nl := fun _ _ _ h => (by cases h), ll := fun _ _ _ _ _ h => (by cases h) }
theorem mem0_below {w w' : World} {L : Ls} (h : Mem (rest0 w) (hp w) L w') : Below w.heap.size w w' := by
  have hb : ∀ k, k < w.heap.size → w'.heap[k]? = w.heap[k]? := fun k hk => by
    have e : w.heap[k]? = some w.heap[k] := Array.getElem?_eq_getElem hk
    rw [e]; exact h.h k _ e
  refine ⟨h.os, h.tape, h.output, ?_, hb⟩
  by_cases z : w.heap.size = 0
  · omega
  · have := hb (w.heap.size - 1) (by omega)
    rw [Array.getElem?_eq_getElem (show w.heap.size - 1 < w.heap.size by omega)] at this
    have := (Array.getElem?_eq_some_iff.1 this).1
    omega
section
variable {Ht : Type} {enc : TypeId × Value → Ht} {P : Program} {w : World} {base fuel : Nat} {spare : Nat → Bool} {held : Bool} {cs : List Value} {x : DataW Ht × List MemPlace} {t : TypeId}
theorem rd_int {k : IntKind} (ht : P.underlying t = some (.int k)) (h : DataW.trod enc P w base spare held fuel t cs = some x) : ∃ z : Int, cs = [.int k z] ∧ k.min ≤ z ∧ z ≤ k.max := by
  obtain ⟨z, h1, _, h2⟩ := DataW.trod_int ht h
  refine ⟨z, h1, ?_⟩
  simp only [Lit.wf, Bool.and_eq_true, decide_eq_true_eq] at h2; exact h2
theorem rd_bool (ht : P.underlying t = some .bool) (h : DataW.trod enc P w base spare held fuel t cs = some x) : ∃ z : Bool, cs = [.bool z] := by
  obtain ⟨z, h1, _⟩ := DataW.trod_bool ht h
  exact ⟨z, h1⟩
theorem rd_str (ht : P.underlying t = some .string) (h : DataW.trod enc P w base spare held fuel t cs = some x) : ∃ s : Bs, cs = [str s] ∧ s.length ≤ 9223372036854775807 := by
  obtain ⟨s, h1, _, h2⟩ := DataW.trod_string ht h
  refine ⟨s.data.toList, by rw [h1, str_of], ?_⟩
  have : s.data.toList.length = s.size := Array.length_toList
  rw [this]; exact h2
theorem list_of {α : Type} {Q : Nat → α → Prop} : ∀ n, (∀ i, i < n → ∃ r, Q i r) → ∃ rs : List α, rs.length = n ∧ ∀ i (h : i < rs.length), Q i rs[i]
  | 0, _ => ⟨[], rfl, fun i h => by cases h⟩
  | n + 1, hq => by
    obtain ⟨rs, hl, hr⟩ := list_of n (fun i hi => hq i (by omega))
    obtain ⟨r, hr0⟩ := hq n (by omega)
    refine ⟨rs ++ [r], by simp [hl], fun i hi => ?_⟩
    by_cases e : i < rs.length
    · rw [List.getElem_append_left e]; exact hr i e
    · have : i = rs.length := by simp at hi; omega
      subst this
      rw [List.getElem_append_right (Nat.le_refl _)]
      simp only [Nat.sub_self, List.getElem_cons_zero]
      rw [hl]; exact hr0
/-- A struct's field. -/
theorem rd_fld {fs : Array Field} {xs : List (DataW Ht × List MemPlace)} {n i o k : Nat} {f : Field} {ft : TypeId} (hf : ∀ (i : Nat) (f : Field), fs[i]? = some f → DataW.trod enc P w base spare held n f.type ((cs.drop f.offset).take (P.cellsOf f.type)) = xs[i]?) (hl : xs.length = fs.size)
    (hi : fs[i]? = some f) (ho : f.offset = o) (ht : f.type = ft) (hk : P.cellsOf ft = k) : ∃ y, DataW.trod enc P w base spare held n ft ((cs.drop o).take k) = some y := by
  have h := hf i f hi
  have hlt : i < fs.size := (Array.getElem?_eq_some_iff.1 hi).1
  rw [ho, ht, hk, List.getElem?_eq_getElem (by omega)] at h
  exact ⟨_, h⟩
end
/-- A struct that is handed over. -/
theorem rd_agg {Ht : Type} {enc : TypeId × Value → Ht} {P : Program} {w : World} {r : Reach} {b0 base : Nat} {spare : Nat → Bool} {held : Bool} {t : TypeId} {fs : Array Field} {v : Value} {d : DataW Ht} {p : List MemPlace} (hs : P.underlying t = some (.struct fs)) (hv : Value.okWide P w r b0 t v)
    (h : DataW.Trod enc P w base spare held t v d p) : ∃ (l : List Value) (fuel : Nat), v = .agg l.toArray ∧ DataW.trod enc P w base spare held fuel t l = some (d, p) := by
  obtain ⟨cs, rfl, _⟩ := okWide_struct hs hv
  obtain ⟨fuel, hf⟩ := h
  exact ⟨cs.toList, fuel, rfl, hf⟩
theorem params_ok {P : Program} {ts : Array TypeId} (h : (ts.toList.all fun t => P.readableRec t && decide (t < P.types.size)) = true) : ∀ t ∈ ts.toList, P.readableRec t = true ∧ t < P.types.size := fun t ht => by
  have := List.all_eq_true.1 h t ht
  simpa using this
theorem rd_one_int {Ht : Type} {enc : TypeId × Value → Ht} {P : Program} {w : World} {r : Reach} {b0 base : Nat} {spare : Nat → Bool} {held : Bool} {t : TypeId} {k : IntKind} {v : Value} {d : DataW Ht} {p : List MemPlace} (hs : P.underlying t = some (.int k)) (hv : Value.okWide P w r b0 t v)
    (h : DataW.Trod enc P w base spare held t v d p) : ∃ z : Int, v = .int k z ∧ k.min ≤ z ∧ z ≤ k.max := by
  obtain ⟨z, rfl, _, _, hw⟩ := open_int hs hv h
  refine ⟨z, rfl, ?_⟩
  simp only [Lit.wf, Bool.and_eq_true, decide_eq_true_eq] at hw; exact hw
/-- The cells of a datum. -/
def flatD : Nat → DataW Unit → List Value
  | _, .lit (.int k n) => [.int k n]
  | _, .lit (.string s) => [.string ⟨s.toArray⟩]
  | _, .lit (.bool b) => [.bool b]
  | n + 1, .agg l => l.flatMap (flatD n)
  | _, _ => []
/-- The settled world, with data laid in its variables. -/
def layD (d : DataW Unit) : Obj → Obj
  | .cells _ t frozen => .cells (flatD 5 d).toArray t frozen
  | o => o
noncomputable def laidW (P : Program) (os : Os) (l : List (Nat × DataW Unit)) : World :=
  let w0 := World.holding P os ⟨#[], #[], []⟩
  { w0 with heap := List.foldl (fun h x => h.modify x.1 (layD x.2)) w0.heap l }
/-- Each argument reads as it did, where below the heap's old size nothing has turned. -/
theorem trodAll_stays {Ht : Type} {enc : TypeId × Value → Ht} {P : Program} (hl : laidOutB P = true) {W W' : World} (hb : Below W.heap.size W W') {sp : Nat → Bool} : ∀ {ts : List TypeId} {vs : List Value} {ds : List (DataW Ht)} {ps : List MemPlace}, (∀ t ∈ ts, P.readableRec t = true ∧ t < P.types.size) →
    DataW.TrodAll enc P W 0 (fun _ => true) true ts vs ds ps → (∀ x ∈ ps, x.block < W.heap.size) → (∀ x ∈ ps, sp x.block = true) → DataW.TrodAll enc P W' 0 sp true ts vs ds ps := by
  intro ts
  induction ts with
  | nil => intro vs ds ps _ h _ _; cases vs <;> cases ds <;> first | exact h | exact h.elim
  | cons t ts ih =>
    intro vs ds ps hr h hlt hsp
    obtain ⟨v, vs', d, ds', p, q, rfl, rfl, rfl, h1, h2⟩ := trodAll_cons h
    exact trodAll_cons_mk (WideElems.Trod_stays hl (hr t (by simp)).1 (hr t (by simp)).2 h1 (fun x hx => hb.same (hlt x (by simp [hx]))) (fun x hx => hsp x (by simp [hx]))) (ih (fun u hu => hr u (by simp [hu])) h2 (fun x hx => hlt x (by simp [hx])) (fun x hx => hsp x (by simp [hx])))
section
variable {Ht : Type} {enc : TypeId × Value → Ht} {P : Program}
/-- A row's last step where below the heap's old size nothing has turned: it hands back true, and the arguments read as they did. -/
theorem law_post {f : Func} {s : ChangeSpec} {apart fresh again : Bool} {W W' : World} {args : Array Value} {ds : List (DataW Ht)} {before : List MemPlace} {tb : TypeId} (hvars : s.vars = [])
    (hW : DataW.Whole enc P f.params.toList s.vars apart W args.toList ds [] before) (hb : Below W.heap.size W W') (hl : laidOutB P = true) (hr : ∀ t ∈ f.params.toList, P.readableRec t = true ∧ t < P.types.size)
    (hres : f.resultTypes = #[tb]) (hu : P.underlying tb = some .bool) (hfn : s.fn Ht (ds ++ []) = { results := [.lit (.bool true)], args := ds }) : s.post enc P f apart fresh false again W args (.bool true) W' := by
  have hlt : ∀ p ∈ before, p.block < W.heap.size := fun p hp => hW.lt p hp
  have hold : ∀ p ∈ before, (fun b => decide (b < W.heap.size)) p.block = true := fun p hp => by simpa using hlt p hp
  have hW0 := hW
  obtain ⟨p, q, hA, hV, rfl, hz, hn⟩ := hW0
  have hq : q = [] := by
    rw [hvars] at hV
    exact (trodVars_none hV).2
  subst hq
  rw [List.append_nil] at hlt hold hz hn hW
  have hA0 : DataW.TrodAll enc P W 0 (fun _ => true) true f.params.toList args.toList ds p := hA
  have hargs : ∀ sp : Nat → Bool, (∀ x ∈ p, sp x.block = true) → DataW.TrodAll enc P W' 0 sp true f.params.toList args.toList ds p := fun sp hs => trodAll_stays hl hb hr hA0 hlt hs
  have hvs : ∀ sp : Nat → Bool, DataW.TrodVars enc P W' sp s.vars ([] : List (DataW Ht)) [] := fun sp => by rw [hvars]; rfl
  have hR : ∀ (b : Nat) (sp : Nat → Bool) (hd : Bool), DataW.TrodAll enc P W' b sp hd f.resultTypes.toList ((Value.bool true).resultList f.resultTypes.size) [.lit (.bool true)] [] := fun b sp hd => by
    rw [hres]
    exact trodAll_mk1 (shut_bool hu true)
  have hok : ∀ (j : Nat) (t : TypeId) (r : Value), f.resultTypes[j]? = some t → ((Value.bool true).resultList f.resultTypes.size)[j]? = some r → Value.okWide P W' .any 0 t r := ok_one hres rfl (okWide_bool_mk hu true)
  refine ⟨ds, [], p, [], p, [], hW, ?_, ?_, ?_, World.keptBut_mono (fun x hx => ⟨hx, Or.inr (by simpa using hx)⟩) (hb.frame (· ∈ p)), fun _ => ?_⟩
  · rw [hfn]; exact hR _ _ _
  · rw [hfn]; exact hargs _ hold
  · rw [hfn]; exact hvs _
  · refine ⟨hok, _, _, ([] ++ p) ++ [], ⟨[] ++ p, [], trodAll_append (hargs _ (fun _ _ => rfl)) (hR _ _ _), hvs _, rfl, ?_, ?_⟩, ?_⟩
    · intro b off hp
      have hin : MemPlace.cell b off ∈ p := by simpa using hp
      rw [hb.frozen (hlt _ hin)]
      exact hz b off hin
    · intro ha
      have := hn ha
      simpa using this
    · intro x hx _
      simpa using hx
/-- A variable of type int holds an int. -/
theorem gint_of_shape {w : World} {g : Nat} {t : TypeId} {zero : Array Value} (h : w.ShapedOpen P) (hg : g < P.globals.size)
    (h0 : ((begin P (fun _ _ => 0) default).world.heap[g]?).bind Obj.row? = some (zero, t)) (hz : zero.size = 1)
    (hb : P.buildable t = true) (hc : P.cellTypes P.depth t = some [t]) (hu : P.underlying t = some (.int .i64)) : GInt (hp w) g := by
  obtain ⟨cs, hh, hs, hr⟩ := h.1 g zero t hg h0
  obtain ⟨ts, hts, _, hall⟩ := hr hb
  rw [hc] at hts
  cases hts
  have h1 : 0 < cs.size := by omega
  obtain ⟨u, hu', hok⟩ := hall 0 cs[0] (by simp [h1])
  have : u = t := by simpa using hu'.symm
  subst this
  unfold Cell.ok at hok
  rw [hu] at hok
  have hv : ∃ m, cs[0] = .int .i64 m := by
    cases hv : cs[0] <;> rw [hv] at hok <;> first | exact ⟨_, by rw [hok.1]⟩ | simp at hok
  obtain ⟨m, hm⟩ := hv
  refine ⟨m, u, (0, 0), ?_⟩
  show w.heap[g]? = _
  rw [hh]
  have e : cs = #[.int .i64 m] := by
    apply Array.ext
    · simp; omega
    · intro i hi1 hi2
      have : i = 0 := by simp at hi2; omega
      subst this
      simpa using hm
  rw [e]
/-- A table of integers that the row lists. -/
theorem gtab_of {w : World} {g n : Nat} {name : String} {k : IntKind} {zs : List Int} {rest : List (String × DataW Unit)} {t e : TypeId} (hg : P.globalNamed name = some g) (hty : (P.globals[g]?).map (·.type) = some t) (ht : P.underlying t = some (.array n e)) (he : P.underlying e = some (.int k)) (hce : P.cellsOf e = 1) (hct : P.cellsOf t = n)
    (h : laidMet P ((name, Lib.tabData k zs) :: rest) w) : ∃ T fr, hp w g = some (.cells (zs.map (Value.int k)).toArray T fr) := by
  have hT := Lib.tabIs_of_head hg hty ht he hce hct h
  unfold Lib.TabIs World.var? at hT
  rw [hg] at hT
  simp only [Option.bind_some] at hT
  split at hT
  · rename_i cs T fr hh
    cases hT
    exact ⟨T, fr, hh⟩
  · cases hT
end
end Go.SW
namespace Go.SW
open Go.ChangeShapes Go.WideShapes Go.ChangeAt Go.RowKit
variable {P : Program}
theorem dat_slice {Ht : Type} {enc : TypeId × Value → Ht} {w : World} {base fuel : Nat} {spare : Nat → Bool} {held : Bool} {a : Option Addr} {l c : Nat} {x : DataW Ht × List MemPlace} {t e : TypeId} (ht : P.underlying t = some (.slice e))
    (h : DataW.trod enc P w base spare held fuel t [.slice a l c] = some x) : x.1 = .nil ∧ l = 0 ∨ ∃ el sp, x.1 = .slice el sp ∧ el.length = l := by
  rcases Go.Deep.open_slice ht h with ⟨h1, h2⟩ | ⟨a', len, cap, m, nf, D, Pl, h1, _, hl, hm, hmm, hx, _⟩
  · cases h1; subst h2; exact .inl ⟨rfl, rfl⟩
  · cases h1; subst hx; exact .inr ⟨_, _, rfl, by simp⟩
end Go.SW
namespace Go.SW
open Go.ChangeShapes Go.WideShapes Go.ChangeAt Go.RowKit
variable {P : Program}
/-- What is read at a type stands for something. -/
def Rdv {α : Type} (P : Program) (t : TypeId) (en : α → List PV) (k : Nat) : Prop :=
  ∀ (Ht : Type) (enc : TypeId × Value → Ht) (w : World) (base : Nat) (spare : Nat → Bool) (held : Bool) (fuel : Nat) (cs : List Value) (x : DataW Ht × List MemPlace),
    DataW.trod enc P w base spare held fuel t cs = some x → (∀ n ∈ x.1.weights P t, n ≤ reachBytes) → ∃ r : α, RowE en k (hp w) r cs
theorem rowE1 {α : Type} {en : α → List PV} {H : Hp} {r : α} {p : PV} {v : Value} (he : en r = [p]) (h : Sim H p v) (ho : v.oneCell' = true) : RowE en 1 H r [v] :=
  ⟨by rw [he]; rfl, by rw [he]; exact Sims.nil.cons h, fun u hu => by rw [List.mem_singleton.1 hu]; exact ho⟩
theorem rdv_int {k : IntKind} {t : TypeId} (ht : P.underlying t = some (.int k)) : Rdv P t (fun z : Int => [.int k z]) 1 := fun _ _ _ _ _ _ _ _ _ h _ => by
  obtain ⟨z, rfl, h1, h2⟩ := rd_int ht h
  exact ⟨z, rowE1 rfl (.int h1 h2) rfl⟩
theorem rdv_bool {t : TypeId} (ht : P.underlying t = some .bool) : Rdv P t (fun z : Bool => [.bool z]) 1 := fun _ _ _ _ _ _ _ _ _ h _ => by
  obtain ⟨z, rfl⟩ := rd_bool ht h
  exact ⟨z, rowE1 rfl .bool rfl⟩
theorem rdv_str {t : TypeId} (ht : P.underlying t = some .string) : Rdv P t (fun s : Bs => [.str s]) 1 := fun _ _ _ _ _ _ _ _ _ h _ => by
  obtain ⟨s, rfl, h1⟩ := rd_str ht h
  exact ⟨s, rowE1 rfl (.str h1) rfl⟩
theorem weightsAll_mem {H : Type} {e : TypeId} : ∀ {ds : List (DataW H)} {d : DataW H} {n : Nat}, d ∈ ds → n ∈ d.weights P e → n ∈ DataW.weightsAll P e ds
  | [], _, _, h, _ => by cases h
  | d0 :: r, d, n, h, hn => by
    simp only [DataW.weightsAll, List.mem_append]
    rcases List.mem_cons.1 h with rfl | q
    · exact .inl hn
    · exact .inr (weightsAll_mem q hn)
theorem rdv_slice {α : Type} {en : α → List PV} {k : Nat} {t e : TypeId} (ht : P.underlying t = some (.slice e)) (hk : P.cellsOf e = k) (h0 : 0 < k) (hb : 0 < P.bytesOf e) (he : Rdv P e en k) : Rdv P t (fun xs : List α => [.sl en xs]) 1 := fun Ht enc w base spare held fuel cs x h hw => by
  have hlen : ∀ {a : Option Addr} {l c : Nat}, cs = [.slice a l c] → l ≤ 140737488355328 := fun {a l c} hcs => by
    subst hcs
    rcases dat_slice ht h with ⟨_, rfl⟩ | ⟨el, sp, hx, rfl⟩
    · exact Nat.zero_le _
    · have := hw ((el.length + sp.length) * P.bytesOf e) (by rw [hx]; simp [DataW.weights, ht])
      have h1 : el.length ≤ (el.length + sp.length) * P.bytesOf e := Nat.le_trans (Nat.le_add_right _ _) (Nat.le_mul_of_pos_right _ hb)
      have h2 : reachBytes = 140737488351232 := by decide
      omega
  rcases Go.Deep.open_slice ht h with ⟨h1, _⟩ | ⟨a, len, cap, m, nf, D, Pl, h1, _, hl, hm, hmm, hx, hi⟩
  · subst h1
    exact ⟨[], rowE1 rfl (Sim.of_slh (k := 0) slh_nil (by simp)) rfl⟩
  · have hs0 : 0 < len → a = ⟨a.block, a.off, none⟩ := by
      intro hl0
      obtain ⟨cs', hc, hT⟩ := hi 0 (by rw [hmm]; split <;> omega)
      rw [hk, Nat.zero_mul] at hc
      obtain ⟨_, hcl, hat⟩ := World.cells?_some hc
      have ha0 := hat 0 h0
      rw [List.getElem?_eq_getElem (by omega)] at ha0
      obtain ⟨ab, ao, asp⟩ := a
      cases asp with
      | none => rfl
      | some z =>
        exfalso
        unfold World.cell? at ha0
        simp only [Addr.add] at ha0
        split at ha0 <;> simp at ha0
    have hwD : ∀ i, i < len → ∀ n ∈ (D i).weights P e, n ≤ reachBytes := fun i hil n hn => by
      refine hw n ?_
      rw [hx]
      simp only [DataW.weights, ht, List.mem_cons, List.mem_append]
      exact .inr (.inl (weightsAll_mem (List.mem_map.2 ⟨i, List.mem_range.2 hil, rfl⟩) hn))
    have key : ∀ i, i < len → ∃ r : α, ∃ cs', RowE en k (hp w) r cs' ∧ SlAt (hp w) (.slice (some a) len cap) k i cs' := by
      intro i hil
      have ha := hs0 (by omega)
      obtain ⟨cs', hc, hT⟩ := hi i (by rw [hmm]; split <;> omega)
      obtain ⟨r, hr⟩ := he _ _ _ _ _ _ _ _ _ hT (hwD i hil)
      rw [hk] at hc
      obtain ⟨_, hcl, hat⟩ := World.cells?_some hc
      refine ⟨r, cs', hr, ?_⟩
      generalize a.block = ab at ha
      generalize a.off = ao at ha
      subst ha
      simp only [add_none] at hat
      have ha0 := hat 0 h0
      rw [List.getElem?_eq_getElem (by omega)] at ha0
      unfold World.cell? at ha0
      simp only at ha0
      split at ha0
      · rename_i c T fr hb
        refine ⟨ab, ao, len, cap, c, T, fr, rfl, hb, hcl, fun j hj => ?_⟩
        have := hat j hj
        unfold World.cell? at this
        simp only at this
        rw [hb] at this
        simpa using this
      · cases ha0
    obtain ⟨rs, hlen', hr⟩ := list_of (Q := fun i (r : α) => ∃ cs', RowE en k (hp w) r cs' ∧ SlAt (hp w) (.slice (some a) len cap) k i cs') len key
    have hs : SlH (RowE en k) k (hp w) (.slice (some a) rs.length cap) rs := ⟨⟨some a, cap, rfl, by omega⟩, fun i hi => by rw [hlen']; exact hr i hi⟩
    subst h1
    have hle := hlen (rfl : [Value.slice (some a) len cap] = _)
    refine ⟨rs, rowE1 rfl (v := .slice (some a) len cap) (by rw [← hlen']; exact Sim.of_slh hs (by omega)) rfl⟩
/-- The fields of a struct, one after the other. -/
theorem rows_app {ps qs : List PV} {H : Hp} {cs ds : List Value} {m n : Nat} (h : ps.length = m ∧ Sims H ps cs ∧ ∀ u ∈ cs, u.oneCell' = true) (k : qs.length = n ∧ Sims H qs ds ∧ ∀ u ∈ ds, u.oneCell' = true) : (ps ++ qs).length = m + n ∧ Sims H (ps ++ qs) (cs ++ ds) ∧ ∀ u ∈ cs ++ ds, u.oneCell' = true :=
  ⟨by simp [h.1, k.1], h.2.1.append k.2.1, fun u hu => by rcases List.mem_append.1 hu with q | q; exact h.2.2 u q; exact k.2.2 u q⟩
theorem rdv_fld {Ht : Type} {enc : TypeId × Value → Ht} {w : World} {base : Nat} {spare : Nat → Bool} {held : Bool} {cs : List Value} {t : TypeId} {fs : Array Field} {xs : List (DataW Ht × List MemPlace)} {n i o k : Nat} {f : Field} {ft : TypeId} {α : Type} {en : α → List PV} (ht : P.underlying t = some (.struct fs))
    (hf : ∀ (i : Nat) (f : Field), fs[i]? = some f → DataW.trod enc P w base spare held n f.type ((cs.drop f.offset).take (P.cellsOf f.type)) = xs[i]?) (hl : xs.length = fs.size) (hw : ∀ q ∈ (DataW.agg (xs.map (·.1)) : DataW Ht).weights P t, q ≤ reachBytes)
    (hi : fs[i]? = some f) (ho : f.offset = o) (hft : f.type = ft) (hk : P.cellsOf ft = k) (hr : Rdv P ft en k) : ∃ r, RowE en k (hp w) r ((cs.drop o).take k) := by
  obtain ⟨y, hy⟩ := rd_fld hf hl hi ho hft hk
  refine hr _ _ _ _ _ _ _ _ _ hy fun q hq => hw q ?_
  have h := hf i f hi
  rw [ho, hft, hk, hy] at h
  simp only [DataW.weights, ht]
  refine DataW.weights_mem_each (j := i) (t := ft) (d := y.1) ?_ ?_ q hq
  · rw [List.getElem?_map, Array.getElem?_toList, hi]; simp [hft]
  · rw [List.getElem?_map, ← h]; rfl
theorem row_cut {en : List PV} {H : Hp} {cs : List Value} {o k : Nat} {q : Nat} (h : en.length = k ∧ Sims H en ((cs.drop o).take k) ∧ ∀ u ∈ (cs.drop o).take k, u.oneCell' = true) {es : List PV} (hr : es.length = q ∧ Sims H es (cs.drop (o + k)) ∧ ∀ u ∈ cs.drop (o + k), u.oneCell' = true) : (en ++ es).length = k + q ∧ Sims H (en ++ es) (cs.drop o) ∧ ∀ u ∈ cs.drop o, u.oneCell' = true := by
  have := rows_app h hr
  rw [← List.drop_drop, List.take_append_drop] at this
  exact this
theorem row_last {en : List PV} {H : Hp} {cs : List Value} {o k : Nat} (hl : cs.length = o + k) (h : en.length = k ∧ Sims H en ((cs.drop o).take k) ∧ ∀ u ∈ (cs.drop o).take k, u.oneCell' = true) : en.length = k ∧ Sims H en (cs.drop o) ∧ ∀ u ∈ cs.drop o, u.oneCell' = true := by
  rw [List.take_of_length_le (by simp; omega)] at h
  exact h
/-! Arguments -/
section
variable {Ht : Type} {enc : TypeId × Value → Ht} {w : World} {r : Reach} {b0 base : Nat} {spare : Nat → Bool} {held : Bool} {t : TypeId} {v : Value} {d : DataW Ht} {p : List MemPlace}
theorem arg_int {k : IntKind} (hs : P.underlying t = some (.int k)) (hv : Value.okWide P w r b0 t v) (h : DataW.Trod enc P w base spare held t v d p) : ∃ z : Int, Sim (hp w) (.int k z) v := by
  obtain ⟨z, rfl, h1, h2⟩ := rd_one_int hs hv h
  exact ⟨z, .int h1 h2⟩
theorem arg_rec {α : Type} {en : α → List PV} {k : Nat} {fs : Array Field} (hs : P.underlying t = some (.struct fs)) (hv : Value.okWide P w r b0 t v) (h : DataW.Trod enc P w base spare held t v d p) (hw : ∀ q ∈ d.weights P t, q ≤ reachBytes) (hr : Rdv P t en k) : ∃ z : α, Sim (hp w) (.agg (en z)) v := by
  obtain ⟨l, fuel, rfl, h1⟩ := rd_agg hs hv h
  obtain ⟨z, h2⟩ := hr _ _ _ _ _ _ _ _ _ h1 hw
  exact ⟨z, Sim.toAgg h2.2.1⟩
theorem wt_arg {ts : List TypeId} {ds : List (DataW Ht)} {j : Nat} (hw : (DataW.weightsEach P ts ds).all (· ≤ reachBytes) = true) (ht : ts[j]? = some t) (hd : ds[j]? = some d) : ∀ q ∈ d.weights P t, q ≤ reachBytes := fun q hq => by
  have := List.all_eq_true.1 hw q (DataW.weights_mem_each ht hd q hq)
  simpa using this
end
/-- A law's call, closed. -/
theorem law_run {G : Gb} {f : FuncId} {args : List PV} {b : Bool} {vs : List Value} {W : World} (h : Fn P G f args (.bool b)) (hg : G.p (hp W)) (hs : Sims (hp W) args vs) (hb : b = true) : Calls P f vs.toArray W fun e W' => e = .returned (.bool true) ∧ Mem (rest0 W) (hp W) l0 W' :=
  (h.run (rest0 W) (hp W) l0 W vs hg hs (mem0 W)).mono fun _ _ ⟨v, H', h1, h2, h3, h4⟩ => ⟨by rw [h1, h2.inv_bool, hb], h4.le h3⟩
end Go.SW
namespace Go.SW.V
open Go.SW
variable {P : Program} {n m : Nat} {N : Rest} {H0 : Env} {all rest : List Oper} {Q : Qs} {ks : List Kt} {fF gF : Nat → PV} {fL gL : Nat → Blk} {T ty d : Nat} {pos : String} {af : Array Edge} {x y z : Operand}
/-- The caller's slots behind such a call: of lists that are owned those in ts alone. -/
def deF (ts : List Nat) (G : Nat → PV) : Nat → PV := fun t => bif memB ts t then G t else (match G t with
  | .osl _ => .junk
  | p => p)
def keptO (G : Nat → PV) (L L' : Nat → Blk) : List Nat → Prop
  | [] => True
  | t :: r => (match G t with
    | .osl q => L' q = L q
    | _ => True) ∧ keptO G L L' r
def inlK (P : Program) (n : Nat) (N : Rest) (H0 : Env) (tb : Tb) (rs : List ResultVar) (ts : List Nat) (fF : Nat → PV) (fL : Nat → Blk) (Q : Qs) (all rest : List Oper) (ks : List Kt) (d : Nat) : Qs := fun e s => (e = .normal ∨ e = .ret) ∧
  ∃ ps as0 bs, resPs tb s rs = some (ps, as0, bs) ∧ as0 = bs ∧ (tupP ps).noOsl = true ∧ keptO fF fL s.L ts ∧ Hd P n N H0 Q (.ops all rest) ks ⟨updp (deF ts fF) d (tupP ps), s.L⟩
end Go.SW.V
namespace Go.SW.V
open Go.SW
variable {P : Program} {n : Nat} {N : Rest} {H0 : Env} {all rest : List Oper} {Q : Qs} {ks : List Kt} {fF : Nat → PV} {fL : Nat → Blk} {T ty d : Nat} {pos : String} {af : Array Edge} {x y z : Operand} {K : St → Prop}
theorem erange {tb : Tb} {ti : TI} {s : Bs} (ht : tbB P tb = true) (i : Nat) (hx : evP fF x = .str s) (hti : lkT tb T = some ti) (htk : ti.k = .str) (hd : Nat.blt d n = true) (k : ∀ b, K ⟨updp fF d (.own i b 0), lups fL i (.itr b s 0)⟩) : E1 P n N H0 all ⟨some d, .range T x, ty, pos, af, none⟩ (some i) ⟨fF, fL⟩ K := by
  intro F H L ha
  have h1 := (evP_ok ha.f x).sim
  simp only at h1
  rw [hx] at h1
  exact op1_range i hd h1.inv_str.1 ((ti_ok ht hti).str htk) fun b => ⟨.refl H, only, _, (ha.turnB (B := .itr b s 0) i trivial rfl).put (p := .own i b 0) d Sim.own, k b⟩
theorem hnext {s : Bs} {i b b' off p : Nat} (hx : evP fF x = .own i b off) (hoff : off = 0) (hb : fL i = .itr b' s p) (hbb : b' = b) (hs : s.length ≤ 9223372036854775807) (ha : p < s.length → (s.getD p 0).toNat < 128) (hd : Nat.blt d n = true)
    (k1 : p < s.length → Hd P n N H0 Q (.ops all rest) ks ⟨updp fF d (.tup [.bool true, .int .i64 p, .int .i32 ((s.getD p 0).toNat : Int)]), lups fL i (.itr b s (p + 1))⟩)
    (k2 : ¬ p < s.length → Hd P n N H0 Q (.ops all rest) ks ⟨updp fF d (.tup [.bool false]), fL⟩) : Hd P n N H0 Q (.ops all (⟨some d, .next x true, ty, pos, af, none⟩ :: rest)) ks ⟨fF, fL⟩ := by
  intro F H L hab
  subst hoff; subst hbb
  have h1 := (evP_ok hab.f x).sim
  simp only at h1
  rw [hx] at h1
  have h2 := h1.inv_own
  have h3 := hab.l i
  simp only [hb] at h3
  by_cases e : p < s.length
  · refine ow1 (op1_next_more i hd h2 h3 e (ha e) ?_)
    have hr : IntKind.min .i64 ≤ (p : Int) ∧ (p : Int) ≤ IntKind.max .i64 := by
      exact i64_nat (by omega)
    have hc : IntKind.min .i32 ≤ ((s.getD p 0).toNat : Int) ∧ ((s.getD p 0).toNat : Int) ≤ IntKind.max .i32 := by
      have e1 : IntKind.min .i32 = -2147483648 := rfl
      have e2 : IntKind.max .i32 = 2147483647 := rfl
      have := ha e
      omega
    exact k1 e _ _ _ (Abs.put (p := .tup [.bool true, .int .i64 p, .int .i32 ((s.getD p 0).toNat : Int)]) (s := ⟨fF, lups fL i (.itr b' s (p + 1))⟩) (hab.turnB (B := .itr b' s (p + 1)) i trivial rfl) d (Sim.simT (Sim.toTup (vs := [_, _, _]) (((Sims.nil.cons (Sim.int hc.1 hc.2)).cons (Sim.int hr.1 hr.2)).cons Sim.bool)) rfl))
  · exact ow1 (op1_next_end i hd h2 h3 (by omega) (k2 e _ _ _ (Abs.put (p := .tup [.bool false]) (s := ⟨fF, fL⟩) hab d (Sim.simT (Sim.toTup (vs := [_]) (Sims.nil.cons Sim.bool)) rfl))))
end Go.SW.V
namespace Go.SW.V
open Go.SW
variable {P : Program} {n : Nat} {N : Rest} {H0 : Env} {all rest : List Oper} {Q : Qs} {ks : List Kt} {fF : Nat → PV} {fL : Nat → Blk} {T ty d : Nat} {pos : String} {af : Array Edge} {x y z : Operand} {K : St → Prop}
theorem lo_aidx {F : Fr} {H : Hp} {L : Ls} {kk : IntKind} {b off len k m : Nat} {i : Int} {e : TypeId} (hx : ev F x = .pointer (some ⟨b, off, none⟩)) (hy : ev F y = .int kk i) (hT : P.underlying T = some (.array len e)) (hk : Sz P e k) (hi : i = (m : Int)) (hm : m < len) : SW.Lo P N (.indexAddr T x y) ty F H L (.pointer (some ⟨b, off + m * k, none⟩)) := fun d pos af gg w _ => by
  subst hi
  simp [execOp, hy, hx, Instr.indexAt, asIntOf, run_underlying hT, Instr.sureAddr, hk w, hm, Addr.add]
theorem qaia {kk : IntKind} {i b off len k : Nat} {z : Int} {e : TypeId} (m : Nat) (hx : evP fF x = .own i b off) (hy : evP fF y = .int kk z) (hT : P.underlying T = some (.array len e)) (hk : Sz P e k) (hi : z = (m : Int)) (hm : m < len) : Qy P N H0 ⟨fF, fL⟩ (.indexAddr T x y) ty (.own i b (off + m * k)) := fun F H L ha => by
  have h1 := (evP_ok ha.f x).sim
  have h2 := (evP_ok ha.f y).sim
  simp only at h1 h2
  rw [hx] at h1
  rw [hy] at h2
  exact ⟨_, Sim.own, fun _ _ _ => lo_aidx h1.inv_own h2.inv_int.1 hT hk hi hm⟩
theorem oload1 {tb : Tb} {ti : TI} {i b b' off T0 : Nat} {cs : List PV} (p : PV) (ht : tbB P tb = true) (hx : evP fF x = .own i b off) (hb : fL i = .box b' T0 cs) (hbb : b' = b) (hti : lkT tb T = some ti) (hag : ti.k.isAgg = false) (hc : cs[off]? = some p) (hd : Nat.blt d n = true) (k : p.wf → K ⟨updp fF d p, fL⟩) : E1 P n N H0 all ⟨some d, .load T x, ty, pos, af, none⟩ none ⟨fF, fL⟩ K := by
  intro F H L ha
  subst hbb
  have h1 := (evP_ok ha.f x).sim
  simp only at h1
  rw [hx] at h1
  have h3 := ha.l i
  simp only [hb] at h3
  obtain ⟨vs, hL, hs⟩ := h3
  obtain ⟨v, hv, hsv⟩ := hs.get hc
  have hg := (ti_ok ht hti).ag
  rw [hag] at hg
  exact op1_l hd (lo_load1 h1.inv_own hg hL hv) ⟨.refl H, fun _ _ => rfl, _, ha.put d hsv, k hsv.sim.wf⟩
theorem oloadA {tb : Tb} {ti : TI} {i b b' off T0 : Nat} {cs : List PV} (ps : List PV) (ht : tbB P tb = true) (hx : evP fF x = .own i b off) (hb : fL i = .box b' T0 cs) (hbb : b' = b) (hti : lkT tb T = some ti) (hag : ti.k.isAgg = true) (hc : (cs.drop off).take ti.size = ps) (hl : off + ti.size ≤ cs.length) (hd : Nat.blt d n = true) (k : PV.wfs ps → K ⟨updp fF d (.agg ps), fL⟩) : E1 P n N H0 all ⟨some d, .load T x, ty, pos, af, none⟩ none ⟨fF, fL⟩ K := by
  intro F H L ha
  subst hbb
  have h1 := (evP_ok ha.f x).sim
  simp only at h1
  rw [hx] at h1
  have h3 := ha.l i
  simp only [hb] at h3
  obtain ⟨vs, hL, hs⟩ := h3
  have hg := (ti_ok ht hti).ag
  rw [hag] at hg
  have hsv : Sims H ps ((vs.drop off).take ti.size) := by rw [← hc]; exact (hs.sims.drop off).take ti.size
  exact op1_l hd (lo_loadA (vs := (vs.drop off).take ti.size) h1.inv_own hg (ti_ok ht hti).sz hL rfl (by simp [hs.1]; omega)) ⟨.refl H, fun _ _ => rfl, _, ha.put (p := .agg ps) d (Sim.toAgg hsv), k hsv.wf⟩
theorem ostoreA {tb : Tb} {ti : TI} {i b b' off T0 : Nat} {cs ps : List PV} (cs' : List PV) (ht : tbB P tb = true) (hx : evP fF x = .own i b off) (hb : fL i = .box b' T0 cs) (hti : lkT tb T = some ti) (hy : evP fF y = .agg ps) (hn : noOsls ps = true) (ho : all1 ps = true) (hsz : ps.length = ti.size) (hl : off + ti.size ≤ cs.length) (hbb : b' = b) (hc : cs.take off ++ (ps ++ cs.drop (off + ti.size)) = cs')
    (k : K ⟨fF, lups fL i (.box b T0 cs')⟩) : E1 P n N H0 all ⟨none, .store T x y, ty, pos, af, none⟩ (some i) ⟨fF, fL⟩ K :=
  SW.storeA (s := ⟨fF, fL⟩) ht hx hb hti hy hn ho hsz (by simpa using hl) hbb (by rw [hc]; simp only [evL, frcL_eq]) k
/-- The same at a place told by a number. -/
theorem oloadS1 {tb : Tb} {ti : TI} {i b b' off T0 len : Nat} {cs : List PV} (row : Nat → PV) (m base w o : Nat) (ht : tbB P tb = true) (hx : evP fF x = .own i b off) (hb : fL i = .box b' T0 cs) (hbb : b' = b) (hti : lkT tb T = some ti) (hag : ti.k.isAgg = false) (hoff : off = base + m * w + o) (hm : m < len) (hc : ∀ q, q < len → cs[base + q * w + o]? = some (row q)) (hd : Nat.blt d n = true) (k : (row m).wf → K ⟨updp fF d (row m), fL⟩) : E1 P n N H0 all ⟨some d, .load T x, ty, pos, af, none⟩ none ⟨fF, fL⟩ K :=
  oload1 (row m) ht hx hb hbb hti hag (by rw [hoff]; exact hc m hm) hd k
theorem oloadSA {tb : Tb} {ti : TI} {i b b' off T0 len sz : Nat} {cs : List PV} (row : Nat → List PV) (m base w o : Nat) (ht : tbB P tb = true) (hx : evP fF x = .own i b off) (hb : fL i = .box b' T0 cs) (hbb : b' = b) (hti : lkT tb T = some ti) (hag : ti.k.isAgg = true) (hsz : ti.size = sz) (hoff : off = base + m * w + o) (hm : m < len) (hc : ∀ q, q < len → (cs.drop (base + q * w + o)).take sz = row q) (hl : ∀ q, q < len → Nat.ble (base + q * w + o + sz) cs.length = true) (hd : Nat.blt d n = true) (k : PV.wfs (row m) → K ⟨updp fF d (.agg (row m)), fL⟩) : E1 P n N H0 all ⟨some d, .load T x, ty, pos, af, none⟩ none ⟨fF, fL⟩ K :=
  oloadA (row m) ht hx hb hbb hti hag (by rw [hoff, hsz]; exact hc m hm) (by rw [hoff, hsz]; simpa using hl m hm) hd k
theorem ostoreSA {tb : Tb} {ti : TI} {i b b' off T0 len sz : Nat} {cs ps cs2 : List PV} (cs' : Nat → List PV) (m base w o : Nat) (ht : tbB P tb = true) (hx : evP fF x = .own i b off) (hb : fL i = .box b' T0 cs) (hti : lkT tb T = some ti) (hsz : ti.size = sz) (hy : evP fF y = .agg ps) (hn : noOsls ps = true) (ho : all1 ps = true) (hps : ps.length = sz) (hoff : off = base + m * w + o) (hm : m < len) (hl : ∀ q, q < len → Nat.ble (base + q * w + o + sz) cs.length = true) (hbb : b' = b) (hc : ∀ q, q < len → cs.take (base + q * w + o) ++ (ps ++ cs.drop (base + q * w + o + sz)) = cs' q) (he : evL (cs' m) = some cs2)
    (k : K ⟨fF, lups fL i (.box b T0 cs2)⟩) : E1 P n N H0 all ⟨none, .store T x y, ty, pos, af, none⟩ (some i) ⟨fF, fL⟩ K :=
  ostoreA cs2 ht hx hb hti hy hn ho (by rw [hps, hsz]) (by rw [hoff, hsz]; simpa using hl m hm) hbb (by rw [hoff, hsz, hc m hm, ← evL_eq he]) k
theorem bw5 {p : Nat → Prop} (h0 : p 0) (h1 : p 1) (h2 : p 2) (h3 : p 3) (h4 : p 4) : ∀ m, m < 5 → p m
  | 0, _ => h0 | 1, _ => h1 | 2, _ => h2 | 3, _ => h3 | 4, _ => h4
  | m + 5, h => absurd h (by omega)
theorem bw8 {p : Nat → Prop} (h0 : p 0) (h1 : p 1) (h2 : p 2) (h3 : p 3) (h4 : p 4) (h5 : p 5) (h6 : p 6) (h7 : p 7) : ∀ m, m < 8 → p m
  | 0, _ => h0 | 1, _ => h1 | 2, _ => h2 | 3, _ => h3 | 4, _ => h4 | 5, _ => h5 | 6, _ => h6 | 7, _ => h7
  | m + 8, h => absurd h (by omega)
theorem bw16 {p : Nat → Prop} (h0 : p 0) (h1 : p 1) (h2 : p 2) (h3 : p 3) (h4 : p 4) (h5 : p 5) (h6 : p 6) (h7 : p 7) (h8 : p 8) (h9 : p 9) (h10 : p 10) (h11 : p 11) (h12 : p 12) (h13 : p 13) (h14 : p 14) (h15 : p 15) : ∀ m, m < 16 → p m
  | 0, _ => h0 | 1, _ => h1 | 2, _ => h2 | 3, _ => h3 | 4, _ => h4 | 5, _ => h5 | 6, _ => h6 | 7, _ => h7 | 8, _ => h8 | 9, _ => h9 | 10, _ => h10 | 11, _ => h11 | 12, _ => h12 | 13, _ => h13 | 14, _ => h14 | 15, _ => h15
  | m + 16, h => absurd h (by omega)
structure A5 (α : Type) where
  (e0 e1 e2 e3 e4 : α)
deriving DecidableEq, Inhabited
structure A8 (α : Type) where
  (e0 e1 e2 e3 e4 e5 e6 e7 : α)
deriving DecidableEq, Inhabited
structure A16 (α : Type) where
  (e0 e1 e2 e3 e4 e5 e6 e7 e8 e9 e10 e11 e12 e13 e14 e15 : α)
deriving DecidableEq, Inhabited
def A5.get {α : Type} (a : A5 α) : Nat → α
  | 0 => a.e0 | 1 => a.e1 | 2 => a.e2 | 3 => a.e3 | _ => a.e4
def A8.get {α : Type} (a : A8 α) : Nat → α
  | 0 => a.e0 | 1 => a.e1 | 2 => a.e2 | 3 => a.e3 | 4 => a.e4 | 5 => a.e5 | 6 => a.e6 | _ => a.e7
def A16.get {α : Type} (a : A16 α) : Nat → α
  | 0 => a.e0 | 1 => a.e1 | 2 => a.e2 | 3 => a.e3 | 4 => a.e4 | 5 => a.e5 | 6 => a.e6 | 7 => a.e7 | 8 => a.e8 | 9 => a.e9 | 10 => a.e10 | 11 => a.e11 | 12 => a.e12 | 13 => a.e13 | 14 => a.e14 | _ => a.e15
def A5.set {α : Type} (a : A5 α) (v : α) : Nat → A5 α
  | 0 => { a with e0 := v } | 1 => { a with e1 := v } | 2 => { a with e2 := v } | 3 => { a with e3 := v } | _ => { a with e4 := v }
def A8.set {α : Type} (a : A8 α) (v : α) : Nat → A8 α
  | 0 => { a with e0 := v } | 1 => { a with e1 := v } | 2 => { a with e2 := v } | 3 => { a with e3 := v } | 4 => { a with e4 := v } | 5 => { a with e5 := v } | 6 => { a with e6 := v } | _ => { a with e7 := v }
def A16.set {α : Type} (a : A16 α) (v : α) : Nat → A16 α
  | 0 => { a with e0 := v } | 1 => { a with e1 := v } | 2 => { a with e2 := v } | 3 => { a with e3 := v } | 4 => { a with e4 := v } | 5 => { a with e5 := v } | 6 => { a with e6 := v } | 7 => { a with e7 := v } | 8 => { a with e8 := v } | 9 => { a with e9 := v } | 10 => { a with e10 := v } | 11 => { a with e11 := v } | 12 => { a with e12 := v } | 13 => { a with e13 := v } | 14 => { a with e14 := v } | _ => { a with e15 := v }
theorem A16.get_set {α : Type} (a : A16 α) (v : α) (m q : Nat) (hm : m < 16) (hq : q < 16) : (a.set v m).get q = if q = m then v else a.get q := by
  revert q
  refine bw16 (p := fun m => ∀ q, q < 16 → (a.set v m).get q = if q = m then v else a.get q) ?_ ?_ ?_ ?_ ?_ ?_ ?_ ?_ ?_ ?_ ?_ ?_ ?_ ?_ ?_ ?_ m hm <;> exact bw16 rfl rfl rfl rfl rfl rfl rfl rfl rfl rfl rfl rfl rfl rfl rfl rfl
theorem A8.get_set {α : Type} (a : A8 α) (v : α) (m q : Nat) (hm : m < 8) (hq : q < 8) : (a.set v m).get q = if q = m then v else a.get q := by
  revert q
  refine bw8 (p := fun m => ∀ q, q < 8 → (a.set v m).get q = if q = m then v else a.get q) ?_ ?_ ?_ ?_ ?_ ?_ ?_ ?_ m hm <;> exact bw8 rfl rfl rfl rfl rfl rfl rfl rfl
theorem A5.get_set {α : Type} (a : A5 α) (v : α) (m q : Nat) (hm : m < 5) (hq : q < 5) : (a.set v m).get q = if q = m then v else a.get q := by
  revert q
  refine bw5 (p := fun m => ∀ q, q < 5 → (a.set v m).get q = if q = m then v else a.get q) ?_ ?_ ?_ ?_ ?_ m hm <;> exact bw5 rfl rfl rfl rfl rfl
end Go.SW.V
namespace Go.SW
theorem rl_set1 {α : Type} {enc : α → List PV} {k : Nat} {H : Hp} {p : PV} {v : Value} {o : Nat} {y : α} (ho : o < k) (hp : Sim H p v) (h1 : v.oneCell' = true) : ∀ {xs : List α} {cs : List Value} {m : Nat}, Rl (RowE enc k) H xs cs → m < xs.length → (∀ a, xs[m]? = some a → enc y = (enc a).set o p) → Rl (RowE enc k) H (xs.set m y) (cs.set (m * k + o) v)
  | [], _, _, _, hm, _ => by cases hm
  | x :: xs, _, 0, ⟨c1, c2, e, r1, r2⟩, _, he => by
    have ex := he x rfl
    obtain ⟨q1, q2, q3⟩ := r1
    have hl : c1.length = k := by rw [q2.1, q1]
    refine ⟨c1.set o v, c2, ?_, ⟨by rw [ex, List.length_set, q1], ?_, ?_⟩, r2⟩
    · rw [e, Nat.zero_mul, Nat.zero_add, List.set_append_left _ _ (by omega)]
    · rw [ex]
      refine ⟨by simp [q2.1], fun i q w hq hw => ?_⟩
      rw [List.getElem?_set] at hq hw
      by_cases z : o = i
      · subst z
        rw [if_pos rfl, if_pos (by omega)] at hq
        rw [if_pos rfl, if_pos (by omega)] at hw
        cases hq; cases hw; exact hp
      · rw [if_neg z] at hq hw
        exact q2.2 i q w hq hw
    · intro w hw
      rcases List.mem_or_eq_of_mem_set hw with z | z
      · exact q3 w z
      · rw [z]; exact h1
  | x :: xs, _, m + 1, ⟨c1, c2, e, r1, r2⟩, hm, he => by
    have hl : c1.length = k := by rw [r1.2.1.1, r1.1]
    refine ⟨c1, c2.set (m * k + o) v, ?_, r1, rl_set1 ho hp h1 r2 (by simpa using hm) (fun a ha => he a (by simpa using ha))⟩
    rw [e, List.set_append_right _ _ (by rw [hl, Nat.add_mul]; omega), hl, show (m + 1) * k + o - k = m * k + o by rw [Nat.add_mul]; omega]
theorem Abs.turnU {P : Program} {n : Nat} {N : Rest} {H0 : Env} {s : St} {F : Fr} {H : Hp} {L : Ls} {α : Type} {u : Value} {k e : Nat} {enc : α → List PV} {xs xs' : List α} (ha : Abs H0 s F H L) (i : Nat) (hb : s.L i = .arr u k e enc xs) {x : Option (Nat × Obj)} (hx : SimB s.L H (.arr u k e enc xs') x) : Abs H0 ⟨s.F, lups s.L i (.arr u k e enc xs')⟩ F H (lupd L i x) := by
  have hshape : ∀ {p v}, SimT s.L H p v → SimT (lups s.L i (.arr u k e enc xs')) H p v := fun {p v} h => by
    cases p with
    | osl j =>
      by_cases e : j = i
      · subst e; simp only [SimT, lups_same, hb] at h ⊢; exact h
      · simp only [SimT, lups_ne _ _ _ _ e] at h ⊢; exact h
    | _ => exact h
  refine ⟨ha.le, ha.g, fun t => hshape (ha.f t), fun j => ?_⟩
  by_cases e : j = i
  · subst e; simp only [lups_same, lupd_same]; exact hx
  · simp only [lups_ne _ _ _ _ e, lupd_ne _ _ _ _ e]
    have h1 := ha.l j
    generalize s.L j = C at *
    cases C with
    | box b T cs => obtain ⟨vs, h2, h3, h4⟩ := h1; exact ⟨vs, h2, h3, fun a p v hp hv => hshape (h4 a p v hp hv)⟩
    | no => trivial
    | arr u k e enc xs => exact h1
    | itr b s p => exact h1
end Go.SW
namespace Go.SW.V
open Go.SW
variable {P : Program} {n : Nat} {N : Rest} {H0 : Env} {all rest : List Oper} {Q : Qs} {ks : List Kt} {fF : Nat → PV} {fL : Nat → Blk} {T ty d : Nat} {pos : String} {af : Array Edge} {x y z : Operand} {K : St → Prop}
theorem lo_sidx {F : Fr} {H : Hp} {L : Ls} {kk : IntKind} {k m b len cap : Nat} {i : Int} {e : TypeId} (hx : ev F x = .slice (some ⟨b, 0, none⟩) len cap) (hy : ev F y = .int kk i) (hT : P.underlying T = some (.slice e)) (hk : Sz P e k) (hi : i = m) (hm : m < len) : SW.Lo P N (.indexAddr T x y) ty F H L (.pointer (some ⟨b, m * k, none⟩)) := fun d pos af g w _ => by
  subst hi
  simp [execOp, hx, hy, Instr.indexAt, asIntOf, run_underlying hT, hk w, hm, add_none]
/-- What an owned list that isn't empty lies in. -/
theorem arr_at {α : Type} {s : St} {F : Fr} {H : Hp} {L : Ls} {i k e : Nat} {u : Value} {enc : α → List PV} {xs : List α} (ha : Abs H0 s F H L) (hb : s.L i = .arr u k e enc xs) (h0 : 0 < xs.length) :
    ∃ b cap c, u = .slice (some ⟨b, 0, none⟩) xs.length cap ∧ L i = some (b, bx e c) ∧ c.length = cap * k ∧ xs.length ≤ cap ∧ Rl (RowE enc k) H xs (c.take (xs.length * k)) ∧ xs.length ≤ 140737488355328 := by
  have h3 := ha.l i
  rw [hb] at h3
  obtain ⟨cs, ⟨hl, ⟨_, h0', _⟩ | ⟨b, cap, c, rfl, hL, hcl, hle, htk⟩⟩, hr, hm⟩ := h3
  · omega
  · exact ⟨b, cap, c, rfl, hL, hcl, hle, by rw [htk]; exact hr, hm⟩
theorem eidx {α : Type} {tb : Tb} {ti te : TI} {kk : IntKind} {i e k : Nat} {z : Int} {u : Value} {enc : α → List PV} {xs : List α} (m : Nat) (ht : tbB P tb = true) (hx : evP fF x = .osl i) (hb : fL i = .arr u k e enc xs) (hy : evP fF y = .int kk z) (hti : lkT tb T = some ti) (htk : ti.k = .slc e) (hte : lkT tb e = some te) (hk : te.size = k) (hi : z = (m : Int)) (hm : m < xs.length) :
    Qy P N H0 ⟨fF, fL⟩ (.indexAddr T x y) ty (.val (.pointer (some ⟨sBlk u, m * k, none⟩))) := fun F H L ha => by
  have h1 := evP_ok ha.f x
  unfold Ok1 at h1
  simp only at h1
  rw [hx] at h1
  simp only [SimT, hb] at h1
  have h2 := (evP_ok ha.f y).sim
  simp only at h2
  rw [hy] at h2
  obtain ⟨b, cap, c, rfl, hL, _⟩ := arr_at ha (i := i) hb (by omega)
  have hsz := (ti_ok ht hte).sz
  rw [hk] at hsz
  exact ⟨_, Sim.val, fun _ _ _ => lo_sidx h1 h2.inv_int.1 ((ti_ok ht hti).slc htk) hsz hi hm⟩
theorem efld {b off f o : Nat} (hx : evP fF x = .val (.pointer (some ⟨b, off, none⟩))) (hf : Fld P T f o) : Qy P N H0 ⟨fF, fL⟩ (.fieldAddr T x f) ty (.val (.pointer (some ⟨b, off + o, none⟩))) := fun F H L ha => by
  have h1 := (evP_ok ha.f x).sim
  simp only at h1
  rw [hx] at h1
  exact ⟨_, Sim.val, fun _ _ _ => lo_fieldAddr h1.inv_val hf⟩
theorem est1 {α : Type} {tb : Tb} {ti : TI} {i e k off : Nat} {u : Value} {enc : α → List PV} {xs : List α} {p : PV} (m o : Nat) (a' : α) (ht : tbB P tb = true) (hx : evP fF x = .val (.pointer (some ⟨sBlk u, off, none⟩))) (hb : fL i = .arr u k e enc xs) (hti : lkT tb T = some ti) (hsz : ti.size = 1) (hy : evS (evP fF y) = some p) (ho : p.one = true) (hm : m < xs.length) (hoff : off = m * k + o) (hok : o < k) (he : ∀ a, xs[m]? = some a → enc a' = (enc a).set o p)
    (kk : K ⟨fF, lups fL i (.arr u k e enc (xs.set m a'))⟩) : E1 P n N H0 all ⟨none, .store T x y, ty, pos, af, none⟩ (some i) ⟨fF, fL⟩ K := by
  intro F H L ha
  have hy := evS_eq hy
  have h1 := (evP_ok ha.f x).sim
  simp only at h1
  rw [hx] at h1
  have h2 := (evP_ok ha.f y).sim
  simp only at h2
  rw [hy] at h2
  obtain ⟨b, cap, c, rfl, hL, hcl, hle, hr, hbb⟩ := arr_at ha (i := i) hb (by omega)
  have hsz' := (ti_ok ht hti).sz
  rw [hsz] at hsz'
  have hlt : m * k + o < xs.length * k := by
    have : (m + 1) * k ≤ xs.length * k := Nat.mul_le_mul_right k (by omega)
    rw [Nat.add_mul] at this; omega
  have hlc : xs.length * k ≤ c.length := by rw [hcl]; exact Nat.mul_le_mul_right k hle
  subst hoff
  refine op1_store1 h1.inv_val rfl (h2.one ho) hsz' hL (by simp [Nat.blt_eq]; omega) ?_
  refine ⟨.refl H, only, _, ha.turnU (n := n) (N := N) (P := P) i hb ⟨(c.set (m * k + o) (ev F y)).take (xs.length * k), ⟨by simp; omega, .inr ⟨b, cap, c.set (m * k + o) (ev F y), by simp, rfl, by simpa using hcl, by simpa using hle, by simp⟩⟩, ?_, by simpa using hbb⟩, kk⟩
  rw [List.take_set]
  exact rl_set1 hok h2 (h2.one ho) hr hm he
end Go.SW.V
namespace Go.SW
variable {P : Program} {n : Nat} {N : Rest} {H0 : Env} {Q : Qs} {ks : List Kt} {s : St}
end Go.SW
namespace Go.SW
variable {P : Program} {n : Nat} {N : Rest} {H0 : Env} {all : List Oper} {Q : Qs} {ks : List Kt} {s : St}
end Go.SW
namespace Go.SW.V
open Go.SW
variable {P : Program} {n : Nat} {N : Rest} {H0 : Env} {all : List Oper} {Q : Qs} {ks : List Kt} {fF : Nat → PV} {fL : Nat → Blk}
end Go.SW.V
namespace Go.SW
variable {P : Program} {n : Nat} {N : Rest} {H0 : Env} {all : List Oper} {Q : Qs} {ks : List Kt} {s : St}
theorem vw_l {ops : List Oper} {Lk : Ls} {Q : Qt} {fuel : Nat} {listed : Array Bool} {F : Fr} {H : Hp} {L : Ls} (i0 : Nat) (r : List Nat) (hr : Region.ready .any ops.toArray listed = i0 :: r)
    (h : ∀ i ∈ i0 :: r, ∃ o, ops[i]? = some o ∧ Op1 P n N ops o (fun F' H' L' => (HLe H H' ∧ LLe Lk L') ∧ Vw P n N ops Lk Q fuel (listed.setIfInBounds i true) F' H' L') F H L) : Vw P n N ops Lk Q (fuel + 1) listed F H L := by
  refine ⟨fun q => (by rw [hr] at q; cases q), fun j hj a w ha hm => ?_⟩
  rw [hr] at hj
  obtain ⟨o, ho, h1⟩ := h j hj
  exact wpOp_mono (fun a' w' ⟨F', H', L', x, y, z1, z2⟩ => ⟨F', H', L', x, y, .inl ⟨z1.1, .inl z1.2⟩, z2⟩) (op1_wpOp ho h1 a w ha hm)
/-- What an operation does, where it turns none but the blocks xs. -/
def Ej (P : Program) (n : Nat) (N : Rest) (H0 : Env) (all : List Oper) (o : Oper) (xs : List Nat) (s : St) (K : St → Prop) : Prop := ∃ j : Option Nat, (match j with | none => true | some j => memB xs j) = true ∧ E1 P n N H0 all o j s K
theorem ej {o : Oper} {xs : List Nat} {K : St → Prop} {j : Option Nat} (hj : (match j with | none => true | some j => memB xs j) = true) (h : E1 P n N H0 all o j s K) : Ej P n N H0 all o xs s K := ⟨j, hj, h⟩
def AllE (P : Program) (n : Nat) (N : Rest) (H0 : Env) (all : List Oper) (Q : Qs) (xs : List Nat) (fuel : Nat) (listed : Array Bool) (ks : List Kt) (s : St) : List Nat → Prop
  | [] => True
  | i :: r => (∃ o, nth all i = some o ∧ Ej P n N H0 all o xs s (fun s' => Hv P n N H0 Q (some xs) all fuel (listed.setIfInBounds i true) ks s')) ∧ AllE P n N H0 all Q xs fuel listed ks s r
theorem allE_mem {xs : List Nat} {fuel : Nat} {listed : Array Bool} : ∀ {r : List Nat} {i : Nat}, AllE P n N H0 all Q xs fuel listed ks s r → i ∈ r → ∃ o, nth all i = some o ∧ Ej P n N H0 all o xs s (fun s' => Hv P n N H0 Q (some xs) all fuel (listed.setIfInBounds i true) ks s')
  | [], i, _, h => by cases h
  | a :: r, i, h, hm => by
    rcases List.mem_cons.1 hm with e | q
    · subst e; exact h.1
    · exact allE_mem h.2 q
theorem veL {xs : List Nat} {fuel : Nat} {listed : Array Bool} (i0 : Nat) (r : List Nat) (hr : Region.ready .any all.toArray listed = i0 :: r) (h : AllE P n N H0 all Q xs fuel listed ks s (i0 :: r)) : Hv P n N H0 Q (some xs) all (fuel + 1) listed ks s := by
  intro F H L Lk ha hL
  refine vw_l i0 r hr fun i hi => ?_
  obtain ⟨o, ho, j, hj, he⟩ := allE_mem h hi
  rw [nth_eq] at ho
  have hle : ∀ L' : Ls, (∀ i, j ≠ some i → L' i = L i) → LkR (some xs) Lk L' := fun L' hL' i => by
    rw [hL i]
    cases e : memB xs i with
    | true => rfl
    | false =>
      refine (hL' i fun z => ?_).symm
      subst z
      simp only at hj
      rw [e] at hj; cases hj
  have hlle : ∀ L' : Ls, (∀ i, j ≠ some i → L' i = L i) → LLe Lk L' := fun L' hL' i x hx => by
    have := hle L' hL' i
    rw [this] at hx
    cases e : memB xs i with
    | true => rw [e] at hx; cases hx
    | false => rw [e] at hx; exact hx
  exact ⟨o, ho, (he F H L ha).imp fun F' H' L' ⟨h1, h2, s', h3, h4⟩ => ⟨⟨h1, hlle L' h2⟩, h4 F' H' L' Lk h3 (hle L' h2)⟩⟩
end Go.SW
namespace Go.SW.V
open Go.SW
variable {P : Program} {n : Nat} {N : Rest} {H0 : Env} {all : List Oper} {Q : Qs} {ks : List Kt} {fF : Nat → PV} {fL : Nat → Blk}
theorem roN {α : Type} {tb : Tb} {rs : List ResultVar} {ps : List PV} {res : Value → PV} {k e j : Nat} {enc : α → List PV} {xs xs' : List α} {as0 bs : List Nat} {u0 : Value} (u : Value) (h : resPs tb ⟨fF, fL⟩ rs = some (ps, as0, bs)) (he : as0 = bs) (hL : fL j = .arr u0 k e enc xs') (hu : u0 = u) (hx : xs' = xs) (hp : PLe (tupP ps) (res u)) : Hd P n N H0 (foK tb rs res k e enc xs) (.ex .ret) [] ⟨fF, fL⟩ :=
  ⟨u, j, ⟨.inr rfl, _, as0, bs, h, he, hp⟩, by show fL j = _; rw [hL, hx, hu]⟩
end Go.SW.V
set_option linter.unusedVariables false
set_option maxRecDepth 100000
namespace Go.SW.V
open Go.SW
def draft_Settles1 (d : DeedR) (x1 : Bs) (x2 : Int) : Bool :=
 (((decide (d.kind = 8)) && (decide (d.name = x1))) && (decide (d.id = x2)))
def draft_Draft_Settles (x : DraftR) (name : Bs) (id : Int) : Bool :=
 (decide (0 ≤ idxP (fun z_4 : DeedR => (draft_Settles1 z_4 name id)) x.l))
def draft_clone (d : DeedR) : DeedR :=
 d
def draft_Draft_check (x : DraftR) (d : DeedR) : Int :=
 (lp0 ((bif decide (d.kind = 6) then
 .fin ()
 else (bif decide (d.kind = 8) then
 .fin ()
 else .ret 8))) (
 (bif !decide ((deedE d) = 0) then
 (deedE d)
 else (bif ((decide (d.kind = 8)) && (draft_Draft_Settles x d.name d.id)) then
 9
 else (bif decide (16 ≤ (x.l.length : Int)) then
 12
 else 0)))) (fun r => r))
def chans_New : ChanR :=
 (⟨16, [], [], false, false, 0, (⟨[]⟩ : DraftR)⟩ : ChanR)
def chans_Chan_Credit (c : ChanR) (n : Int) : ChanR × Int :=
 (bif ((decide (n < 1)) || (decide (16 < n))) then
 (c, 7)
 else ((⟨(IntKind.wrap .i64 n), c.takers, c.lent, c.sure, c.drafts, c.puts, c.held⟩ : ChanR), 0))
def chans_Chan_Room (c : ChanR) : Int :=
 (max 0 (c.credit - (c.lent.length : Int)))
def chans_of1 (t : TakerR) (x1 : Int) : Bool :=
 (decide (t.tag = x1))
def chans_Chan_of (c : ChanR) (tag : Int) : Int :=
 (idxP (fun z_3 : TakerR => (chans_of1 z_3 tag)) c.takers)
def chans_Chan_Sure (c : ChanR) : ChanR × Int :=
 (bif c.drafts then
 (c, 13)
 else ((⟨c.credit, c.takers, c.lent, true, c.drafts, c.puts, c.held⟩ : ChanR), 0))
def chans_Chan_Put (c : ChanR) : ChanR × Int :=
 (bif !c.sure then
 (c, 0)
 else ((⟨c.credit, c.takers, c.lent, c.sure, c.drafts, (IntKind.wrap .u64 (c.puts + 1)), c.held⟩ : ChanR), (IntKind.wrap .u64 (c.puts + 1))))
def chans_Chan_Number (c : ChanR) : Int :=
 c.puts
def chans_Chan_Draft (c : ChanR) : ChanR × Int :=
 (bif (c.sure || c.drafts) then
 (c, 13)
 else ((⟨c.credit, c.takers, c.lent, c.sure, true, c.puts, c.held⟩ : ChanR), 0))
def chans_Chan_Drafts (c : ChanR) : Bool :=
 c.drafts
def chans_Chan_Undo (c : ChanR) : ChanR × Int :=
 (bif !c.drafts then
 (c, 13)
 else ((⟨c.credit, c.takers, c.lent, c.sure, c.drafts, c.puts, (⟨[]⟩ : DraftR)⟩ : ChanR), 0))
end Go.SW.V
namespace Go.SW.V
open Go.SW
theorem chk_lt (x : DraftR) (d : DeedR) : draft_Draft_check x d = 0 → (x.l.length : Int) < 16 := by
  unfold draft_Draft_check
  cases h1 : decide (d.kind = 6) <;> cases h2 : decide (d.kind = 8) <;> cases h3 : decide (deedE d = 0) <;> cases h4 : decide (16 ≤ (x.l.length : Int)) <;> simp [lp0] <;> grind
theorem chk_deed (x : DraftR) (d : DeedR) : draft_Draft_check x d = 0 → deedE d = 0 ∧ (d.kind = 6 ∨ d.kind = 8) := by
  unfold draft_Draft_check
  cases h1 : decide (d.kind = 6) <;> cases h2 : decide (d.kind = 8) <;> cases h3 : decide (deedE d = 0) <;> simp [lp0] <;> grind
theorem chk_head (x : DraftR) (d : DeedR) : draft_Draft_check x d = 0 → d.mail.head.length ≤ 1000000 := by
  intro h
  obtain ⟨h1, h2⟩ := chk_deed x d h
  have := (smallH_ok (deedE_ok (d := d) (by omega) h1).mhead).1
  omega
theorem chans_of_r (c : ChanR) (tag : Int) : -1 ≤ chans_Chan_of c tag ∧ chans_Chan_of c tag < c.takers.length := idxP_b _ _
end Go.SW.V
set_option linter.unusedVariables false
set_option maxRecDepth 100000
namespace Go.SW.V
open Go.SW
def route_put (l : List Bs) (s : Bs) : (List Bs) :=
 (bif decide (s ∈ l) then
 l
 else (l ++ [s]))
def route_Book_Make (b : BookR) (x : ShopR) : BookR × Int :=
 (bif !decide ((shopE x) = 0) then
 (b, shopE x)
 else (bif (((shopOf b.shops x.name).isSome) && (decide (x = ((shopOf b.shops x.name).getD ShopR.zero)))) then
 (b, 0)
 else (bif (shopOf b.shops x.name).isSome then
 (b, 9)
 else (bif decide (8 ≤ (b.shops.length : Int)) then
 (b, 12)
 else ((⟨[b.shops, [x]].flatten, b.binds⟩ : BookR), 0)))))
def route_Book_there (b : BookR) (x : BindR) : Int :=
 (idxP (fun z_3 : BindR => decide (x = z_3)) b.binds)
end Go.SW.V
namespace Go.SW.V
open Go.SW
theorem put_len (l : List Bs) (s : Bs) : (route_put l s).length ≤ l.length + 1 := by
  unfold route_put
  cases decide (s ∈ l) <;> simp
theorem there_r (b : BookR) (x : BindR) : -1 ≤ route_Book_there b x ∧ route_Book_there b x < b.binds.length := idxP_b _ _
end Go.SW.V
set_option linter.unusedVariables false
set_option maxRecDepth 100000
namespace Go.SW.V
open Go.SW
def route_Book_Bind (b : BookR) (x : BindR) : BookR × Int :=
 (bif !((shopOf b.shops x.shop).isSome) then
 (b, 10)
 else (bif decide ((((shopOf b.shops x.shop).getD ShopR.zero).sort) = 4) then
 (b, 8)
 else (bif !decide ((nameE x.to) = 0) then
 (b, nameE x.to)
 else (bif !decide ((ruleE (bindRule x (((shopOf b.shops x.shop).getD ShopR.zero).sort))) = 0) then
 (b, ruleE (bindRule x (((shopOf b.shops x.shop).getD ShopR.zero).sort)))
 else lt (route_Book_there b x) fun r =>
 (bif decide (0 ≤ r) then
 (b, 0)
 else (bif decide (32 ≤ (b.binds.length : Int)) then
 (b, 12)
 else ((⟨b.shops, [b.binds, [x]].flatten⟩ : BookR), 0)))))))
def route_Book_Leads_l0 (b : BookR) (shop : Bs) (key : Bs) (h : List Pair) : List BindR → List Bs → List Bs → (List Bs) × (List Bs) × Int
  | [], queues, places => (queues, places, 0)
  | x :: t, queues, places => (lt1 ((bif !decide ((x.shop) = shop) then
 (!decide ((x.shop) = shop))
 else (!(goesR (bindRule x (((shopOf b.shops shop).getD ShopR.zero).sort)) key h)))) (fun v =>
 (bif v then
 route_Book_Leads_l0 b shop key h t  queues places
 else (bif x.up then
 lt (route_put places (x.to)) fun r =>
 route_Book_Leads_l0 b shop key h t  queues r
 else lt (route_put queues (x.to)) fun r1 =>
 route_Book_Leads_l0 b shop key h t  r1 places))))
def route_Book_Leads (b : BookR) (shop : Bs) (key : Bs) (h : List Pair) : (List Bs) × (List Bs) × Int :=
 (bif !((shopOf b.shops shop).isSome) then
 ([], [], 10)
 else (bif decide ((((shopOf b.shops shop).getD ShopR.zero).sort) = 4) then
 ([], [((shopOf b.shops shop).getD ShopR.zero).to], 0)
 else route_Book_Leads_l0 b shop key h b.binds  [] []))
end Go.SW.V
set_option linter.unusedVariables false
set_option maxRecDepth 100000
namespace Go.SW.V
open Go.SW
def draft_Draft_Add_l0 (x : DraftR) : List DeedR → DraftR → DraftR × Int
  | [], x1 => (x1, 0)
  | x2 :: t, x1 => lt (draft_Draft_check x1 x2) fun r =>
 (bif !decide (r = 0) then
 (x, r)
 else lt (draft_clone x2) fun r1 =>
 draft_Draft_Add_l0 x t  (⟨[x1.l, [r1]].flatten⟩ : DraftR))
def draft_Draft_Add (x : DraftR) (l : List DeedR) : DraftR × Int :=
 draft_Draft_Add_l0 x l  x
def draft_Draft_At_l0 (tick : Int) : List DeedR → List DeedR → (List DeedR)
  | [], out => out
  | x1 :: t, out => lt (draft_clone x1) fun r =>
 (bif decide (r.kind = 6) then
 draft_Draft_At_l0 tick t  (out ++ [(⟨r.kind, tick, r.shop, r.queue, r.bind, r.name, r.id, r.how, r.frm, r.code, r.number, (⟨r.mail.id, r.mail.shop, r.mail.key, r.mail.head, r.mail.body, lifeN tick r.mail.due, r.mail.hops⟩ : Mail), r.text⟩ : DeedR)])
 else draft_Draft_At_l0 tick t  (out ++ [(⟨r.kind, tick, r.shop, r.queue, r.bind, r.name, r.id, r.how, r.frm, r.code, r.number, r.mail, r.text⟩ : DeedR)]))
def draft_Draft_At (x : DraftR) (tick : Int) : (List DeedR) :=
 draft_Draft_At_l0 tick x.l  []
def chans_Chan_Take (c : ChanR) (tag : Int) (queue : Bs) : ChanR × Int :=
 (bif decide (255 < tag) then
 (c, 7)
 else lt (chans_Chan_of c tag) fun r =>
 (bif decide (0 ≤ r) then
 (c, 9)
 else (bif decide (4 ≤ (c.takers.length : Int)) then
 (c, 12)
 else ((⟨c.credit, [c.takers, [(⟨tag, queue⟩ : TakerR)]].flatten, c.lent, c.sure, c.drafts, c.puts, c.held⟩ : ChanR), 0))))
def chans_Chan_Leave (c : ChanR) (tag : Int) : ChanR × Int :=
 lt (chans_Chan_of c tag) fun r =>
 (bif decide (r < 0) then
 (c, 10)
 else ((⟨c.credit, [(c.takers.take (r).toNat), (c.takers.drop ((r + 1)).toNat)].flatten, c.lent, c.sure, c.drafts, c.puts, c.held⟩ : ChanR), 0))
def chans_Chan_Takers (c : ChanR) : (List TakerR) :=
 c.takers
def chans_Chan_Lend (c : ChanR) (x : LentR) : ChanR :=
 (⟨c.credit, c.takers, [c.lent, [x]].flatten, c.sure, c.drafts, c.puts, c.held⟩ : ChanR)
def chans_Chan_Unsettled (c : ChanR) : (List LentR) :=
 c.lent
def chans_Chan_Settles_l0 (c : ChanR) (id : Int) (how : Int) (upto : Bool) : List LentR → List DeedR → (List DeedR) × Int
  | [], out => ([], 10)
  | x :: t, out => (bif ((c.drafts && (draft_Draft_Settles c.held (x.queue) (x.id))) || ((!decide ((x.id) = id)) && (!upto))) then
 chans_Chan_Settles_l0 c id how upto t  out
 else (bif decide ((x.id) = id) then
 ((out ++ [(⟨8, 0, (⟨[], 0, []⟩ : ShopR), (⟨[], 0, 0, []⟩ : QueueR), (⟨[], [], false, [], [], false⟩ : BindR), x.queue, x.id, (IntKind.wrap .u8 how), 0, 0, 0, (⟨0, [], [], [], [], 0, 0⟩ : Mail), []⟩ : DeedR)]), 0)
 else chans_Chan_Settles_l0 c id how upto t  (out ++ [(⟨8, 0, (⟨[], 0, []⟩ : ShopR), (⟨[], 0, 0, []⟩ : QueueR), (⟨[], [], false, [], [], false⟩ : BindR), x.queue, x.id, (IntKind.wrap .u8 how), 0, 0, 0, (⟨0, [], [], [], [], 0, 0⟩ : Mail), []⟩ : DeedR)])))
def chans_Chan_Settles (c : ChanR) (id : Int) (how : Int) (upto : Bool) : (List DeedR) × Int :=
 (bif decide (2 < how) then
 ([], 7)
 else chans_Chan_Settles_l0 c id how upto c.lent  [])
def chans_Chan_Gone_l0 : List DeedR → ChanR → ChanR
  | [], x => x
  | x1 :: t, x => lt (idxP (fun y => decide ((⟨x1.id, x1.name⟩ : LentR) = y)) x.lent) fun r =>
 (bif ((decide ((x1.kind) = 8)) && (decide (0 ≤ r))) then
 chans_Chan_Gone_l0 t  (⟨x.credit, x.takers, [(x.lent.take (r).toNat), (x.lent.drop ((r + 1)).toNat)].flatten, x.sure, x.drafts, x.puts, x.held⟩ : ChanR)
 else chans_Chan_Gone_l0 t  x)
def chans_Chan_Gone (c : ChanR) (l : List DeedR) : ChanR :=
 chans_Chan_Gone_l0 l  c
end Go.SW.V
namespace Go.SW.V
open Go.SW
end Go.SW.V
namespace Go.SW.V
open Go.SW
structure DOk (x : DraftR) : Prop where
  len : x.l.length ≤ 16
  ok : ∀ d ∈ x.l, deedE d = 0 ∧ (d.kind = 6 ∨ d.kind = 8)
  hd : ∀ d ∈ x.l, d.mail.head.length ≤ 1000000
theorem dok_nil : DOk ⟨[]⟩ := ⟨by simp, fun _ h => by simp at h, fun _ h => by simp at h⟩
theorem add_dok0 (x : DraftR) (hx : DOk x) : ∀ (l : List DeedR) (y : DraftR), DOk y → DOk (draft_Draft_Add_l0 x l y).1
  | [], y, h => h
  | d :: l, y, h => by
    simp only [draft_Draft_Add_l0, lt]
    by_cases e : draft_Draft_check y d = 0
    · simp only [e, decide_true, Bool.not_true, cond_false]
      have h1 := chk_lt y d e
      have h2 := chk_deed y d e
      have h3 := chk_head y d e
      refine add_dok0 x hx l _ ⟨by simp; omega, fun q hq => ?_, fun q hq => ?_⟩
      · simp only [List.flatten_cons, List.flatten_nil, List.append_nil, List.mem_append, List.mem_singleton] at hq
        rcases hq with hq | rfl
        · exact h.ok q hq
        · exact h2
      · simp only [List.flatten_cons, List.flatten_nil, List.append_nil, List.mem_append, List.mem_singleton] at hq
        rcases hq with hq | rfl
        · exact h.hd q hq
        · exact h3
    · simp only [e, decide_false, Bool.not_false, cond_true]
      exact hx
theorem add_dok (x : DraftR) (l : List DeedR) : DOk x → DOk (draft_Draft_Add x l).1 := fun h => add_dok0 x h l x h
theorem at_len0 (tick : Int) : ∀ (l out : List DeedR), (draft_Draft_At_l0 tick l out).length = out.length + l.length
  | [], out => by simp [draft_Draft_At_l0]
  | d :: l, out => by
    simp only [draft_Draft_At_l0, lt, Bool.cond_eq_ite]
    split <;> (rw [at_len0 tick l]; simp; omega)
theorem at_len (x : DraftR) (tick : Int) : (draft_Draft_At x tick).length = x.l.length := by
  rw [draft_Draft_At, at_len0]; simp
end Go.SW.V
set_option linter.unusedVariables false
set_option maxRecDepth 100000
namespace Go.SW.V
open Go.SW
def chans_Chan_Hold (c : ChanR) (l : List DeedR) : ChanR × Int :=
 (bif !c.drafts then
 (c, 13)
 else lt (draft_Draft_Add c.held l) fun r =>
 ((⟨c.credit, c.takers, c.lent, c.sure, c.drafts, c.puts, r.1⟩ : ChanR), r.2))
def chans_Chan_Held (c : ChanR) (tick : Int) : (List DeedR) × Int :=
 (bif !c.drafts then
 ([], 13)
 else lt (draft_Draft_At c.held tick) fun r =>
 (r, 0))
end Go.SW.V
namespace Go.SW.V
open Go.SW
structure COk (c : ChanR) (n : Nat) : Prop where
  cr : 0 ≤ c.credit ∧ c.credit ≤ 1000
  tk : c.takers.length ≤ 4
  ln : c.lent.length ≤ n
  hd : DOk c.held
theorem cok_le {c : ChanR} {n m : Nat} (h : COk c n) (k : n ≤ m) : COk c m := ⟨h.cr, h.tk, Nat.le_trans h.ln k, h.hd⟩
theorem cok_new (n : Nat) : COk chans_New n := ⟨by simp [chans_New], by simp [chans_New], by simp [chans_New], dok_nil⟩
theorem wrap16 {m : Int} (h : 1 ≤ m) (k : m ≤ 16) : IntKind.wrap .i64 m = m := by
  simp only [IntKind.wrap, IntKind.bits, IntKind.signed]; simp; omega
theorem cok_Credit {c : ChanR} {n : Nat} (m : Int) (h : COk c n) : COk (chans_Chan_Credit c m).1 n := by
  simp only [chans_Chan_Credit, Bool.cond_eq_ite]
  split
  · exact h
  · rename_i e
    simp only [Bool.or_eq_true, decide_eq_true_eq, not_or] at e
    refine ⟨?_, h.tk, h.ln, h.hd⟩
    simp only [wrap16 (by omega : 1 ≤ m) (by omega)]; omega
theorem cok_Take {c : ChanR} {n : Nat} (t : Int) (q : Bs) (h : COk c n) : COk (chans_Chan_Take c t q).1 n := by
  simp only [chans_Chan_Take, lt, Bool.cond_eq_ite]
  repeat' split
  all_goals first | exact h | skip
  rename_i e
  simp only [decide_eq_true_eq] at e
  exact ⟨h.cr, by simp; omega, h.ln, h.hd⟩
theorem cok_Leave {c : ChanR} {n : Nat} (t : Int) (h : COk c n) : COk (chans_Chan_Leave c t).1 n := by
  simp only [chans_Chan_Leave, lt, Bool.cond_eq_ite]
  split
  · exact h
  · have := h.tk
    exact ⟨h.cr, by simp; omega, h.ln, h.hd⟩
theorem cok_Lend {c : ChanR} {n : Nat} (x : LentR) (h : COk c n) : COk (chans_Chan_Lend c x) (n + 1) := ⟨h.cr, h.tk, by have := h.ln; simp [chans_Chan_Lend]; omega, h.hd⟩
theorem cok_Gone0 {n : Nat} : ∀ (l : List DeedR) (c : ChanR), COk c n → COk (chans_Chan_Gone_l0 l c) n
  | [], c, h => h
  | d :: l, c, h => by
    simp only [chans_Chan_Gone_l0, lt, Bool.cond_eq_ite]
    split
    · refine cok_Gone0 l _ ⟨h.cr, h.tk, ?_, h.hd⟩
      have := h.ln
      simp; omega
    · exact cok_Gone0 l c h
theorem cok_Gone {c : ChanR} {n : Nat} (l : List DeedR) (h : COk c n) : COk (chans_Chan_Gone c l) n := cok_Gone0 l c h
theorem cok_Hold {c : ChanR} {n : Nat} (l : List DeedR) (h : COk c n) : COk (chans_Chan_Hold c l).1 n := by
  simp only [chans_Chan_Hold, lt, Bool.cond_eq_ite]
  split
  · exact h
  · exact ⟨h.cr, h.tk, h.ln, add_dok _ _ h.hd⟩
theorem cok_Undo {c : ChanR} {n : Nat} (h : COk c n) : COk (chans_Chan_Undo c).1 n := by
  simp only [chans_Chan_Undo, Bool.cond_eq_ite]
  split
  · exact h
  · exact ⟨h.cr, h.tk, h.ln, dok_nil⟩
theorem cok_same {c d : ChanR} {n : Nat} (h : COk c n) (h1 : d.credit = c.credit) (h2 : d.takers = c.takers) (h3 : d.lent = c.lent) (h4 : d.held = c.held) : COk d n := ⟨by rw [h1]; exact h.cr, by rw [h2]; exact h.tk, by rw [h3]; exact h.ln, by rw [h4]; exact h.hd⟩
theorem cok_Sure {c : ChanR} {n : Nat} (h : COk c n) : COk (chans_Chan_Sure c).1 n := by
  simp only [chans_Chan_Sure, Bool.cond_eq_ite]; split <;> exact cok_same h rfl rfl rfl rfl
theorem cok_Put {c : ChanR} {n : Nat} (h : COk c n) : COk (chans_Chan_Put c).1 n := by
  simp only [chans_Chan_Put, Bool.cond_eq_ite]; split <;> exact cok_same h rfl rfl rfl rfl
theorem cok_Draft {c : ChanR} {n : Nat} (h : COk c n) : COk (chans_Chan_Draft c).1 n := by
  simp only [chans_Chan_Draft, Bool.cond_eq_ite]; split <;> exact cok_same h rfl rfl rfl rfl
theorem sets_len0 (c : ChanR) (i w : Int) (u : Bool) : ∀ (l : List LentR) (out : List DeedR), (chans_Chan_Settles_l0 c i w u l out).1.length ≤ out.length + l.length
  | [], out => by simp [chans_Chan_Settles_l0]
  | x :: l, out => by
    simp only [chans_Chan_Settles_l0, Bool.cond_eq_ite, List.length_cons]
    repeat' split
    all_goals first
      | (have := sets_len0 c i w u l out; omega)
      | (simp; done)
      | (simp; omega)
      | (refine Nat.le_trans (sets_len0 c i w u l _) ?_; simp; omega)
theorem sets_len (c : ChanR) (i w : Int) (u : Bool) : (chans_Chan_Settles c i w u).1.length ≤ c.lent.length := by
  simp only [chans_Chan_Settles, Bool.cond_eq_ite]
  split
  · simp
  · have := sets_len0 c i w u c.lent []; simpa using this
theorem held_len (c : ChanR) (t : Int) : (chans_Chan_Held c t).1.length ≤ c.held.l.length := by
  simp only [chans_Chan_Held, lt, Bool.cond_eq_ite]
  split
  · simp
  · rw [at_len]; exact Nat.le_refl _
theorem tks_len (c : ChanR) : (chans_Chan_Takers c).length = c.takers.length := rfl
theorem uns_len (c : ChanR) : (chans_Chan_Unsettled c).length = c.lent.length := rfl
theorem credit_ok (c : ChanR) (n : Int) : (chans_Chan_Credit c n).2 = 0 → 0 ≤ IntKind.wrap .i64 n ∧ IntKind.wrap .i64 n ≤ 16 ∧ 1 ≤ n ∧ n ≤ 16 := by
  simp only [chans_Chan_Credit, Bool.cond_eq_ite]
  split
  · intro h; exact absurd (show (7 : Int) = 0 from h) (by decide)
  · rename_i e
    simp only [Bool.or_eq_true, decide_eq_true_eq, not_or] at e
    intro _
    rw [wrap16 (by omega) (by omega)]
    omega
end Go.SW.V
namespace Go.SW.V
open Go.SW
end Go.SW.V
namespace Go.SW
structure ActR where
  dow : Int
  n : Int
  how : Int
  queue : Bs
  upto : Bool
  l : List DeedR
deriving DecidableEq, Inhabited
def ActR.pc (x : ActR) : List PV := [.int .u8 x.dow, .int .u64 x.n, .int .u64 x.how, .str x.queue, .bool x.upto, .sl DeedR.pc x.l]
end Go.SW
set_option linter.unusedVariables false
set_option maxRecDepth 100000
namespace Go.SW.V
open Go.SW
end Go.SW.V
namespace Go.SW.V
open Go.SW
end Go.SW.V
namespace Go.SW.V
open Go.SW
theorem feedGo_le : ∀ (k : Nat) (r : Bs) (out : List Frame), (feedGo k r out).1.rest.length + (feedGo k r out).2.length ≤ r.length + out.length
  | 0, r, out => Nat.le_refl _
  | k + 1, r, out => by
    simp only [feedGo]
    split
    · rename_i h
      have h1 := parseF_ok r h
      have h2 := feedGo_le k (r.drop (parseF r).2.1.toNat) (out ++ [(parseF r).1])
      simp only [List.length_append, List.length_drop, List.length_cons, List.length_nil] at h2
      omega
    · split
      · exact Nat.le_refl _
      · simp
theorem feed_le (f : Feed) (s : Bs) : (feedTake f s).1.rest.length + (feedTake f s).2.length ≤ f.rest.length + s.length := by
  unfold feedTake
  split
  · simp
  · have := feedGo_le ((f.rest ++ s).length + 1) (f.rest ++ s) []
    simpa using this
def SRt (r : Reply) : Prop := r.name.length ≤ 1000 ∧ r.mail.shop.length ≤ 1000 ∧ r.mail.key.length ≤ 1000 ∧ r.mail.body.length ≤ 1000 ∧ smallH r.mail.head
end Go.SW.V
namespace Go.SW
structure SlotR where
  chan : ChanR
  isopen : Bool
deriving DecidableEq, Inhabited
def SlotR.pc (x : SlotR) : List PV := [.int .i64 x.chan.credit, .sl TakerR.pc x.chan.takers, .sl LentR.pc x.chan.lent, .bool x.chan.sure, .bool x.chan.drafts, .int .u64 x.chan.puts, .sl DeedR.pc x.chan.held.l, .bool x.isopen]
abbrev A5_SlotR := V.A5 SlotR
def A5_SlotR.pc (x : A5_SlotR) : List PV := [.int .i64 x.e0.chan.credit, .sl TakerR.pc x.e0.chan.takers, .sl LentR.pc x.e0.chan.lent, .bool x.e0.chan.sure, .bool x.e0.chan.drafts, .int .u64 x.e0.chan.puts, .sl DeedR.pc x.e0.chan.held.l, .bool x.e0.isopen, .int .i64 x.e1.chan.credit, .sl TakerR.pc x.e1.chan.takers, .sl LentR.pc x.e1.chan.lent, .bool x.e1.chan.sure, .bool x.e1.chan.drafts, .int .u64 x.e1.chan.puts, .sl DeedR.pc x.e1.chan.held.l, .bool x.e1.isopen, .int .i64 x.e2.chan.credit, .sl TakerR.pc x.e2.chan.takers, .sl LentR.pc x.e2.chan.lent, .bool x.e2.chan.sure, .bool x.e2.chan.drafts, .int .u64 x.e2.chan.puts, .sl DeedR.pc x.e2.chan.held.l, .bool x.e2.isopen, .int .i64 x.e3.chan.credit, .sl TakerR.pc x.e3.chan.takers, .sl LentR.pc x.e3.chan.lent, .bool x.e3.chan.sure, .bool x.e3.chan.drafts, .int .u64 x.e3.chan.puts, .sl DeedR.pc x.e3.chan.held.l, .bool x.e3.isopen, .int .i64 x.e4.chan.credit, .sl TakerR.pc x.e4.chan.takers, .sl LentR.pc x.e4.chan.lent, .bool x.e4.chan.sure, .bool x.e4.chan.drafts, .int .u64 x.e4.chan.puts, .sl DeedR.pc x.e4.chan.held.l, .bool x.e4.isopen]
structure SessionR where
  place : Bs
  feed : Feed
  begun : Bool
  over : Bool
  slots : A5_SlotR
deriving Inhabited
def SessionR.pc (x : SessionR) : List PV := [.str x.place, .str x.feed.rest, .int .i64 x.feed.err, .bool x.begun, .bool x.over, .int .i64 x.slots.e0.chan.credit, .sl TakerR.pc x.slots.e0.chan.takers, .sl LentR.pc x.slots.e0.chan.lent, .bool x.slots.e0.chan.sure, .bool x.slots.e0.chan.drafts, .int .u64 x.slots.e0.chan.puts, .sl DeedR.pc x.slots.e0.chan.held.l, .bool x.slots.e0.isopen, .int .i64 x.slots.e1.chan.credit, .sl TakerR.pc x.slots.e1.chan.takers, .sl LentR.pc x.slots.e1.chan.lent, .bool x.slots.e1.chan.sure, .bool x.slots.e1.chan.drafts, .int .u64 x.slots.e1.chan.puts, .sl DeedR.pc x.slots.e1.chan.held.l, .bool x.slots.e1.isopen, .int .i64 x.slots.e2.chan.credit, .sl TakerR.pc x.slots.e2.chan.takers, .sl LentR.pc x.slots.e2.chan.lent, .bool x.slots.e2.chan.sure, .bool x.slots.e2.chan.drafts, .int .u64 x.slots.e2.chan.puts, .sl DeedR.pc x.slots.e2.chan.held.l, .bool x.slots.e2.isopen, .int .i64 x.slots.e3.chan.credit, .sl TakerR.pc x.slots.e3.chan.takers, .sl LentR.pc x.slots.e3.chan.lent, .bool x.slots.e3.chan.sure, .bool x.slots.e3.chan.drafts, .int .u64 x.slots.e3.chan.puts, .sl DeedR.pc x.slots.e3.chan.held.l, .bool x.slots.e3.isopen, .int .i64 x.slots.e4.chan.credit, .sl TakerR.pc x.slots.e4.chan.takers, .sl LentR.pc x.slots.e4.chan.lent, .bool x.slots.e4.chan.sure, .bool x.slots.e4.chan.drafts, .int .u64 x.slots.e4.chan.puts, .sl DeedR.pc x.slots.e4.chan.held.l, .bool x.slots.e4.isopen]
structure TakerS where
  channel : Int
  tag : Int
  queue : Bs
deriving DecidableEq, Inhabited
def TakerS.pc (x : TakerS) : List PV := [.int .u8 x.channel, .int .u64 x.tag, .str x.queue]
structure ItemR where
  mail : Mail
  lent : Bool
  again : Bool
deriving DecidableEq, Inhabited
def ItemR.pc (x : ItemR) : List PV := [.int .u64 x.mail.id, .str x.mail.shop, .str x.mail.key, .sl Pair.pc x.mail.head, .str x.mail.body, .int .u64 x.mail.due, .int .u8 x.mail.hops, .bool x.lent, .bool x.again]
structure ResultR where
  item : ItemR
  count : Int
  lost : Int
deriving DecidableEq, Inhabited
def ResultR.pc (x : ResultR) : List PV := [.int .u64 x.item.mail.id, .str x.item.mail.shop, .str x.item.mail.key, .sl Pair.pc x.item.mail.head, .str x.item.mail.body, .int .u64 x.item.mail.due, .int .u8 x.item.mail.hops, .bool x.item.lent, .bool x.item.again, .int .i64 x.count, .int .i64 x.lost]
abbrev A5_bool := V.A5 Bool
def A5_bool.pc (x : A5_bool) : List PV := [.bool x.e0, .bool x.e1, .bool x.e2, .bool x.e3, .bool x.e4]
abbrev A5_ChanR := V.A5 ChanR
def A5_ChanR.pc (x : A5_ChanR) : List PV := [.int .i64 x.e0.credit, .sl TakerR.pc x.e0.takers, .sl LentR.pc x.e0.lent, .bool x.e0.sure, .bool x.e0.drafts, .int .u64 x.e0.puts, .sl DeedR.pc x.e0.held.l, .int .i64 x.e1.credit, .sl TakerR.pc x.e1.takers, .sl LentR.pc x.e1.lent, .bool x.e1.sure, .bool x.e1.drafts, .int .u64 x.e1.puts, .sl DeedR.pc x.e1.held.l, .int .i64 x.e2.credit, .sl TakerR.pc x.e2.takers, .sl LentR.pc x.e2.lent, .bool x.e2.sure, .bool x.e2.drafts, .int .u64 x.e2.puts, .sl DeedR.pc x.e2.held.l, .int .i64 x.e3.credit, .sl TakerR.pc x.e3.takers, .sl LentR.pc x.e3.lent, .bool x.e3.sure, .bool x.e3.drafts, .int .u64 x.e3.puts, .sl DeedR.pc x.e3.held.l, .int .i64 x.e4.credit, .sl TakerR.pc x.e4.takers, .sl LentR.pc x.e4.lent, .bool x.e4.sure, .bool x.e4.drafts, .int .u64 x.e4.puts, .sl DeedR.pc x.e4.held.l]
structure SessR where
  place : Bs
  rest : Bs
  bad : Int
  begun : Bool
  over : Bool
  opens : A5_bool
  chans : A5_ChanR
deriving DecidableEq, Inhabited
def SessR.pc (x : SessR) : List PV := [.str x.place, .str x.rest, .int .i64 x.bad, .bool x.begun, .bool x.over, .bool x.opens.e0, .bool x.opens.e1, .bool x.opens.e2, .bool x.opens.e3, .bool x.opens.e4, .int .i64 x.chans.e0.credit, .sl TakerR.pc x.chans.e0.takers, .sl LentR.pc x.chans.e0.lent, .bool x.chans.e0.sure, .bool x.chans.e0.drafts, .int .u64 x.chans.e0.puts, .sl DeedR.pc x.chans.e0.held.l, .int .i64 x.chans.e1.credit, .sl TakerR.pc x.chans.e1.takers, .sl LentR.pc x.chans.e1.lent, .bool x.chans.e1.sure, .bool x.chans.e1.drafts, .int .u64 x.chans.e1.puts, .sl DeedR.pc x.chans.e1.held.l, .int .i64 x.chans.e2.credit, .sl TakerR.pc x.chans.e2.takers, .sl LentR.pc x.chans.e2.lent, .bool x.chans.e2.sure, .bool x.chans.e2.drafts, .int .u64 x.chans.e2.puts, .sl DeedR.pc x.chans.e2.held.l, .int .i64 x.chans.e3.credit, .sl TakerR.pc x.chans.e3.takers, .sl LentR.pc x.chans.e3.lent, .bool x.chans.e3.sure, .bool x.chans.e3.drafts, .int .u64 x.chans.e3.puts, .sl DeedR.pc x.chans.e3.held.l, .int .i64 x.chans.e4.credit, .sl TakerR.pc x.chans.e4.takers, .sl LentR.pc x.chans.e4.lent, .bool x.chans.e4.sure, .bool x.chans.e4.drafts, .int .u64 x.chans.e4.puts, .sl DeedR.pc x.chans.e4.held.l]
structure Act28R where
  dow : Int
  m : Method
  chunk : Bs
  tick : Int
  err : Int
  item : ItemR
  at_ : Int
deriving DecidableEq, Inhabited
def Act28R.pc (x : Act28R) : List PV := [.int .u8 x.dow, .int .u8 x.m.channel, .int .u8 x.m.kind, .str x.m.name, .str x.m.other, .str x.m.key, .sl Pair.pc x.m.head, .str x.m.body, .int .u64 x.m.n, .int .u64 x.m.m, .bool x.m.yes, .str x.chunk, .int .u64 x.tick, .int .u8 x.err, .int .u64 x.item.mail.id, .str x.item.mail.shop, .str x.item.mail.key, .sl Pair.pc x.item.mail.head, .str x.item.mail.body, .int .u64 x.item.mail.due, .int .u8 x.item.mail.hops, .bool x.item.lent, .bool x.item.again, .int .u8 x.at_]
end Go.SW
namespace Go.SW.V
open Go.SW
def SOk (s : SessionR) (n : Nat) : Prop := ∀ k, k < 5 → COk (A5.get s.slots k).chan n
theorem sok_le {s : SessionR} {n m : Nat} (h : SOk s n) (k : n ≤ m) : SOk s m := fun q hq => cok_le (h q hq) k
theorem cok_zero (n : Nat) : COk ⟨0, [], [], false, false, 0, ⟨[]⟩⟩ n := ⟨by simp, by simp, by simp, dok_nil⟩
theorem sok_set {s : SessionR} {n k : Nat} {x : SlotR} (h : SOk s n) (hk : k < 5) (hx : COk x.chan n) {p : Bs} {f : Feed} {b o : Bool} : SOk ⟨p, f, b, o, A5.set s.slots x k⟩ n := fun q hq => by
  simp only [A5.get_set _ _ _ _ hk hq]
  split
  · exact hx
  · exact h q hq
theorem sok_same {s t : SessionR} {n : Nat} (h : SOk s n) (e : t.slots = s.slots) : SOk t n := fun q hq => by rw [e]; exact h q hq
def QOk (s : SessR) (n : Nat) : Prop := ∀ k, k < 5 → COk (A5.get s.chans k) n
theorem sok_at {s : SessionR} {n k m : Nat} (h : SOk s n) (hk : k < 5) (hm : n ≤ m) : COk (A5.get s.slots k).chan m := cok_le (h k hk) hm
theorem qok_at {s : SessR} {n k m : Nat} (h : QOk s n) (hk : k < 5) (hm : n ≤ m) : COk (A5.get s.chans k) m := cok_le (h k hk) hm
theorem cok_ln {c : ChanR} {n : Nat} (h : COk c n) : c.lent.length ≤ n := h.ln
theorem sok_ln {s : SessionR} {n k m : Nat} (h : SOk s n) (hk : k < 5) (hm : n ≤ m) : (A5.get s.slots k).chan.lent.length ≤ m := Nat.le_trans (h k hk).ln hm
theorem sok_tk {s : SessionR} {n k m : Nat} (h : SOk s n) (hk : k < 5) (hm : 4 ≤ m) : (A5.get s.slots k).chan.takers.length ≤ m := Nat.le_trans (h k hk).tk hm
theorem sok_cr {s : SessionR} {n k : Nat} (h : SOk s n) (hk : k < 5) : 0 ≤ (A5.get s.slots k).chan.credit ∧ (A5.get s.slots k).chan.credit ≤ 1000 := (h k hk).cr
theorem sok_hd {s : SessionR} {n k m : Nat} (h : SOk s n) (hk : k < 5) (hm : 16 ≤ m) : (A5.get s.slots k).chan.held.l.length ≤ m := Nat.le_trans (h k hk).hd.len hm
end Go.SW.V
namespace Go.SW
structure HasR where
  name : Bool
  other : Bool
  lack : Bool
  key : Bool
  pattern : Bool
  head : Bool
  body : Bool
  n : Bool
  m : Bool
  yes : Bool
deriving DecidableEq, Inhabited
def HasR.pc (x : HasR) : List PV := [.bool x.name, .bool x.other, .bool x.lack, .bool x.key, .bool x.pattern, .bool x.head, .bool x.body, .bool x.n, .bool x.m, .bool x.yes]
end Go.SW
set_option linter.unusedVariables false
set_option maxRecDepth 100000
namespace Go.SW.V
open Go.SW
def method_Method_tells (m : Method) (letters : Bs) : Bool :=
 (hasAny (tellsT.getD (m.kind).toNat []) letters)
def method_Method_spare (m : Method) : Bool :=
 (bif ((!decide (m.name = [])) && (!(method_Method_tells m [65]))) then
 true
 else (bif ((!decide (m.other = [])) && (!(method_Method_tells m [79, 120]))) then
 true
 else (bif ((!decide (m.key = [])) && (!(method_Method_tells m [107, 112]))) then
 true
 else (bif ((decide (0 < (m.head.length : Int))) && (!(method_Method_tells m [104]))) then
 true
 else (bif ((!decide (m.body = [])) && (!(method_Method_tells m [98]))) then
 true
 else (bif ((!decide (m.n = 0)) && (!(method_Method_tells m [110]))) then
 true
 else (bif ((!decide (m.m = 0)) && (!(method_Method_tells m [109]))) then
 true
 else (bif (m.yes && (!(method_Method_tells m [121]))) then
 true
 else false))))))))
def r11_Of (kind : Int) : HasR :=
 (bif (((decide (kind = 0)) || (decide (kind = 12))) || (decide (kind = 14))) then
 (⟨false, false, false, false, false, false, false, true, false, false⟩ : HasR)
 else (bif decide (kind = 3) then
 (⟨true, true, true, false, false, false, false, true, false, false⟩ : HasR)
 else (bif (((decide (kind = 4)) || (decide (kind = 6))) || (decide (kind = 15))) then
 (⟨true, false, false, false, false, false, false, false, false, false⟩ : HasR)
 else (bif decide (kind = 5) then
 (⟨true, true, true, false, false, false, false, true, true, false⟩ : HasR)
 else (bif ((decide (7 ≤ kind)) && (decide (kind ≤ 10))) then
 (⟨true, true, false, true, true, true, false, false, false, true⟩ : HasR)
 else (bif decide (kind = 11) then
 (⟨true, false, false, true, false, true, true, false, true, false⟩ : HasR)
 else (bif decide (kind = 13) then
 (⟨true, false, false, false, false, false, false, true, false, false⟩ : HasR)
 else (bif decide (kind = 16) then
 (⟨false, false, false, false, false, false, false, true, true, true⟩ : HasR)
 else (⟨false, false, false, false, false, false, false, false, false, false⟩ : HasR)))))))))
end Go.SW.V
set_option linter.unusedVariables false
set_option maxRecDepth 100000
namespace Go.SW.V
open Go.SW
def method_Method_one (m : Method) (letter : Int) : Int :=
 (bif decide (letter = 65) then
 (nameE m.name)
 else (bif decide (letter = 120) then
 (bif decide (m.other = []) then
 0
 else (nameE m.other))
 else (bif decide (letter = 79) then
 (nameE m.other)
 else (bif decide (letter = 107) then
 (keyE [] m.key)
 else (bif decide (letter = 112) then
 (keyE patB m.key)
 else (bif decide (letter = 104) then
 (headE m.head)
 else (bif decide (letter = 98) then
 (bif decide (256 < (m.body.length : Int)) then
 5
 else 0)
 else 0)))))))
def method_Method_Check_l0 (m : Method) : List UInt8 → Int
  | [] => 0
  | x :: t => lt (method_Method_one m (x.toNat : Int)) fun r =>
 (bif !decide (r = 0) then
 r
 else method_Method_Check_l0 m t )
def method_Method_Check (m : Method) : Int :=
 (bif decide (20 < m.kind) then
 8
 else (bif (method_Method_spare m) then
 4
 else method_Method_Check_l0 m (tellsT.getD (m.kind).toNat []) ))
def l11_To (m : Method) : Method :=
 (⟨m.channel, m.kind, m.name, m.other, m.key, ([] ++ m.head), m.body, m.n, m.m, m.yes⟩ : Method)
def l11_Light (m : Method) : Bool :=
 ((((decide ((max (m.name.length : Int) (m.other.length : Int)) ≤ 40)) && (decide ((m.key.length : Int) ≤ 100))) && (lightH m.head)) && (decide ((m.body.length : Int) ≤ 300)))
def r11_Check (m : Method) : Int :=
 (bif decide (20 < m.kind) then
 8
 else lt (r11_Of m.kind) fun r =>
 (bif (((((((((!decide (m.name = [])) && (!r.name)) || ((!decide (m.other = [])) && (!r.other))) || ((!decide (m.key = [])) && (!r.key))) || ((decide (0 < (m.head.length : Int))) && (!r.head))) || ((!decide (m.body = [])) && (!r.body))) || ((!decide (m.n = 0)) && (!r.n))) || ((!decide (m.m = 0)) && (!r.m))) || (m.yes && (!r.yes))) then
 4
 else (lt1 ((bif r.name then
 (nameE m.name)
 else 0)) (fun e_1 =>
 (lt1 ((bif (((decide (e_1 = 0)) && r.other) && (!(r.lack && (decide (m.other = []))))) then
 (nameE m.other)
 else e_1)) (fun e_2 =>
 (lt1 ((bif ((decide (e_2 = 0)) && r.key) then
 (keyE (besidesOf r.pattern) m.key)
 else e_2)) (fun e_3 =>
 (lt1 ((bif ((decide (e_3 = 0)) && r.head) then
 (headE m.head)
 else e_3)) (fun e_4 =>
 (bif ((decide (e_4 = 0)) && (decide (256 < (m.body.length : Int)))) then
 5
 else e_4)))))))))))
end Go.SW.V
namespace Go.SW.V
open Go.SW
theorem spare_eq (m : Method) : method_Method_spare m = spareMt m := by
  simp only [method_Method_spare, method_Method_tells, spareMt, hasK, tellsOf, Bool.cond_eq_ite]
  repeat' split
  all_goals simp_all
theorem one_eq (m : Method) (c : Int) : method_Method_one m c = oneE m c := by
  simp only [method_Method_one, oneE, Bool.cond_eq_ite, decide_eq_true_eq]
theorem ck0_eq (m : Method) : ∀ l : List UInt8, method_Method_Check_l0 m l = ckGo m l
  | [] => rfl
  | c :: l => by
    have ih := ck0_eq m l
    simp only [method_Method_Check_l0, ckGo, lt, Bool.cond_eq_ite, one_eq, ih]
    split <;> split <;> simp_all
theorem check_eq (m : Method) : method_Method_Check m = methodE m := by
  simp only [method_Method_Check, methodE, Bool.cond_eq_ite, decide_eq_true_eq, spare_eq, ck0_eq, tellsOf]
def RW (r : RIn) : Prop := 0 ≤ r.pos ∧ r.pos ≤ (r.s.length : Int)
theorem check_kind (m : Method) : method_Method_Check m = 0 → m.kind ≤ 20 := fun h => methodE_kind (by rw [← check_eq]; exact h)
def SMt (m : Method) : Prop := m.name.length ≤ 1000 ∧ m.other.length ≤ 1000 ∧ m.key.length ≤ 1000 ∧ m.body.length ≤ 1000 ∧ smallH m.head
theorem l11_sm {m : Method} (h : l11_Light m = true) : SMt m ∧ m.head.length ≤ 1000 := by
  have e : lightMt m = true := h
  obtain ⟨h1, h2, h3, h4, h5⟩ := lightMt_len m e
  have hs : smallH m.head := by
    simp only [lightMt, Bool.and_eq_true] at e
    exact smallH_light e.1.2
  exact ⟨⟨by omega, by omega, by omega, by omega, hs⟩, by omega⟩
end Go.SW.V
set_option linter.unusedVariables false
set_option maxRecDepth 100000
namespace Go.SW.V
open Go.SW
def method_Method_Frame_l0 (m : Method) : List UInt8 → Out → Frame × Int
  | [], x => ((⟨m.channel, m.kind, x.s⟩ : Frame), 0)
  | x1 :: t, x => (bif decide ((x1.toNat : Int) = 65) then
 method_Method_Frame_l0 m t  (outText x m.name)
 else (bif decide ((x1.toNat : Int) = 120) then
 method_Method_Frame_l0 m t  (outText x m.other)
 else (bif decide ((x1.toNat : Int) = 79) then
 method_Method_Frame_l0 m t  (outText x m.other)
 else (bif decide ((x1.toNat : Int) = 107) then
 method_Method_Frame_l0 m t  (outText x m.key)
 else (bif decide ((x1.toNat : Int) = 112) then
 method_Method_Frame_l0 m t  (outText x m.key)
 else (bif decide ((x1.toNat : Int) = 104) then
 method_Method_Frame_l0 m t  (outRaw x (headBytes m.head))
 else (bif decide ((x1.toNat : Int) = 98) then
 method_Method_Frame_l0 m t  (outText x m.body)
 else (bif decide ((x1.toNat : Int) = 110) then
 method_Method_Frame_l0 m t  (outNum x m.n 8)
 else (bif decide ((x1.toNat : Int) = 109) then
 method_Method_Frame_l0 m t  (outNum x m.m 8)
 else (bif decide ((x1.toNat : Int) = 121) then
 (bif m.yes then
 method_Method_Frame_l0 m t  (outNum x 1 1)
 else method_Method_Frame_l0 m t  (outNum x 0 1))
 else method_Method_Frame_l0 m t  x))))))))))
def method_Method_Frame (m : Method) : Frame × Int :=
 lt (method_Method_Check m) fun r =>
 (bif !decide (r = 0) then
 ((⟨0, 0, []⟩ : Frame), r)
 else method_Method_Frame_l0 m (tellsT.getD (m.kind).toNat [])  (⟨[], 0⟩ : Out))
end Go.SW.V
namespace Go.SW.V
open Go.SW
end Go.SW.V
set_option linter.unusedVariables false
set_option maxRecDepth 100000
namespace Go.SW.V
open Go.SW
def r01_In_End (i : RIn) : Int × RIn :=
 (bif ((decide (i.code = 0)) && (decide (i.pos < (i.s.length : Int)))) then
 (4, i)
 else (i.code, i))
def method_Of_l0 : List UInt8 → Method → In → Method × Int
  | [], x, x1 => (bif !decide ((inEnd x1) = 0) then
 ((⟨0, 0, [], [], [], [], [], 0, 0, false⟩ : Method), inEnd x1)
 else lt (method_Method_Check x) fun r10 =>
 (bif !decide (r10 = 0) then
 ((⟨0, 0, [], [], [], [], [], 0, 0, false⟩ : Method), r10)
 else (x, 0)))
  | x2 :: t, x, x1 => (bif decide ((x2.toNat : Int) = 65) then
 lt (inText x1 16) fun r =>
 method_Of_l0 t  (⟨x.channel, x.kind, r.1, x.other, x.key, x.head, x.body, x.n, x.m, x.yes⟩ : Method) r.2
 else (bif decide ((x2.toNat : Int) = 120) then
 lt (inText x1 16) fun r1 =>
 method_Of_l0 t  (⟨x.channel, x.kind, x.name, r1.1, x.key, x.head, x.body, x.n, x.m, x.yes⟩ : Method) r1.2
 else (bif decide ((x2.toNat : Int) = 79) then
 lt (inText x1 16) fun r2 =>
 method_Of_l0 t  (⟨x.channel, x.kind, x.name, r2.1, x.key, x.head, x.body, x.n, x.m, x.yes⟩ : Method) r2.2
 else (bif decide ((x2.toNat : Int) = 107) then
 lt (inText x1 64) fun r3 =>
 method_Of_l0 t  (⟨x.channel, x.kind, x.name, x.other, r3.1, x.head, x.body, x.n, x.m, x.yes⟩ : Method) r3.2
 else (bif decide ((x2.toNat : Int) = 112) then
 lt (inText x1 64) fun r4 =>
 method_Of_l0 t  (⟨x.channel, x.kind, x.name, x.other, r4.1, x.head, x.body, x.n, x.m, x.yes⟩ : Method) r4.2
 else (bif decide ((x2.toNat : Int) = 104) then
 lt (headRead x1) fun r5 =>
 method_Of_l0 t  (⟨x.channel, x.kind, x.name, x.other, x.key, r5.1, x.body, x.n, x.m, x.yes⟩ : Method) r5.2
 else (bif decide ((x2.toNat : Int) = 98) then
 lt (inText x1 256) fun r6 =>
 method_Of_l0 t  (⟨x.channel, x.kind, x.name, x.other, x.key, x.head, r6.1, x.n, x.m, x.yes⟩ : Method) r6.2
 else (bif decide ((x2.toNat : Int) = 110) then
 lt (inNum x1 8) fun r7 =>
 method_Of_l0 t  (⟨x.channel, x.kind, x.name, x.other, x.key, x.head, x.body, r7.1, x.m, x.yes⟩ : Method) r7.2
 else (bif decide ((x2.toNat : Int) = 109) then
 lt (inNum x1 8) fun r8 =>
 method_Of_l0 t  (⟨x.channel, x.kind, x.name, x.other, x.key, x.head, x.body, x.n, r8.1, x.yes⟩ : Method) r8.2
 else (bif decide ((x2.toNat : Int) = 121) then
 lt (inNum x1 1) fun r9 =>
 (bif decide (1 < r9.1) then
 method_Of_l0 t  (⟨x.channel, x.kind, x.name, x.other, x.key, x.head, x.body, x.n, x.m, decide (r9.1 = 1)⟩ : Method) (inFail r9.2 4)
 else method_Of_l0 t  (⟨x.channel, x.kind, x.name, x.other, x.key, x.head, x.body, x.n, x.m, decide (r9.1 = 1)⟩ : Method) r9.2)
 else method_Of_l0 t  x x1))))))))))
def method_Of (f : Frame) : Method × Int :=
 (bif decide (20 < f.kind) then
 ((⟨0, 0, [], [], [], [], [], 0, 0, false⟩ : Method), 8)
 else method_Of_l0 (tellsT.getD (f.kind).toNat [])  (⟨f.channel, f.kind, [], [], [], [], [], 0, 0, false⟩ : Method) (⟨f.body, 0⟩))
end Go.SW.V
namespace Go.SW.V
open Go.SW
end Go.SW.V
set_option linter.unusedVariables false
set_option maxRecDepth 100000
namespace Go.SW.V
open Go.SW
end Go.SW.V
namespace Go.SW.V
open Go.SW
end Go.SW.V
set_option linter.unusedVariables false
set_option maxRecDepth 100000
namespace Go.SW.V
open Go.SW
end Go.SW.V
namespace Go.SW.V
open Go.SW
end Go.SW.V
set_option linter.unusedVariables false
set_option maxRecDepth 100000
namespace Go.SW.V
open Go.SW
end Go.SW.V
namespace Go.SW.V
open Go.SW
end Go.SW.V
set_option linter.unusedVariables false
set_option maxRecDepth 100000
namespace Go.SW.V
open Go.SW
end Go.SW.V
namespace Go.SW.V
open Go.SW
end Go.SW.V
set_option linter.unusedVariables false
set_option maxRecDepth 100000
namespace Go.SW.V
open Go.SW
end Go.SW.V
namespace Go.SW.V
open Go.SW
end Go.SW.V
namespace Go.SW.V
open Go.SW
variable {P : Program} {n : Nat} {N : Rest} {H0 : Env} {all : List Oper} {Q : Qs} {ks : List Kt} {fF : Nat → PV} {fL : Nat → Blk} {T ty : Nat} {x y : Operand}
theorem lo_aidxA {F : Fr} {H : Hp} {L : Ls} {kk : IntKind} {len k m : Nat} {i : Int} {e : TypeId} {cs vs : List Value} (hx : ev F x = .agg cs.toArray) (hy : ev F y = .int kk i) (hT : P.underlying T = some (.array len e)) (hg : Ag P e true) (hk : Sz P e k) (hi : i = (m : Int)) (hm : m < len) (hv : sub cs (m * k) k = vs) : SW.Lo P N (.index T x y) ty F H L (.agg vs.toArray) := fun d pos af gg w _ => by
  subst hi
  simp [execOp, hy, hx, Instr.index, asIntOf, run_underlying hT, hk w, hm, part_A hg hk hv]
theorem qaivA {tb : Tb} {te : TI} {kk : IntKind} {len k : Nat} {e : TypeId} {z : Int} {cs : List PV} (row : Nat → List PV) (m : Nat) (ht : tbB P tb = true) (hx : evP fF x = .agg cs) (hy : evP fF y = .int kk z) (hT : P.underlying T = some (.array len e)) (hte : lkT tb e = some te) (hag : te.k.isAgg = true) (hsz : te.size = k) (hi : z = (m : Int)) (hm : m < len) (hc : ∀ q, q < len → (cs.drop (q * k)).take k = row q) : Qy P N H0 ⟨fF, fL⟩ (.index T x y) ty (.agg (row m)) := fun F H L ha => by
  have h1 := (evP_ok ha.f x).sim
  have h2 := (evP_ok ha.f y).sim
  simp only at h1 h2
  rw [hx] at h1
  rw [hy] at h2
  obtain ⟨vs, e1, h3⟩ := h1.inv_agg
  have hg := (ti_ok ht hte).ag
  rw [hag] at hg
  have hk := (ti_ok ht hte).sz
  rw [hsz] at hk
  exact ⟨_, Sim.toAgg (by rw [← hc m hm]; exact (h3.drop _).take _), fun _ _ _ => lo_aidxA e1 h2.inv_int.1 hT hg hk hi hm rfl⟩
end Go.SW.V
namespace Go.SW
variable {P : Program} {n : Nat} {N : Rest} {H0 : Env} {all rest : List Oper} {Q : Qs} {ks : List Kt} {s : St} {T ty d : Nat} {pos : String} {af : Array Edge} {x y : Operand} {K : St → Prop} {op : Op} {p : PV}
/-- What an operation yields of what is there now. -/
def Ly (P : Program) (N : Rest) (H0 : Env) (s : St) (op : Op) (ty : TypeId) (p : PV) : Prop := ∀ F H L, Abs H0 s F H L → ∃ val, SimT s.L H p val ∧ Lo P N op ty F H L val
theorem lyS1 {tb : Tb} {ti : TI} {i b b' off T0 len : Nat} {cs : List PV} (row : Nat → PV) (m base w o : Nat) (ht : tbB P tb = true) (hx : evP s.F x = .own i b off) (hb : s.L i = .box b' T0 cs) (hbb : b' = b) (hti : lkT tb T = some ti) (hag : ti.k.isAgg = false) (hoff : off = base + m * w + o) (hm : m < len) (hno : ∀ q, (row q).noOsl = true) (hc : ∀ q, q < len → cs[base + q * w + o]? = some (row q)) : Ly P N H0 s (.load T x) ty (row m) := fun F H L ha => by
  subst hbb
  have h1 := (evP_ok ha.f x).sim
  rw [hx] at h1
  have h3 := ha.l i
  rw [hb] at h3
  obtain ⟨vs, hL, hs⟩ := h3
  have hc' := hc m hm
  rw [← hoff] at hc'
  obtain ⟨v, hv, hsv⟩ := hs.get hc'
  have hg := (ti_ok ht hti).ag
  rw [hag] at hg
  exact ⟨v, hsv.sim.simT (hno m), lo_load1 h1.inv_own hg hL hv⟩
theorem q1gL {j : Nat} {want g : Bool} (ts : List Nat) (hg : gOp s all j want = some g) (h : g = true → Ly P N H0 (strS ts s) op ty p) (hc : AllP (conds s.F g ts [])) (hno : noOslG s.F ts = true) (hd : Nat.blt d n = true) (k : (g = true → p.wf) → Hd P n N H0 Q (.ops all rest) ks ⟨updp s.F d (.gv g p), s.L⟩) : Hd P n N H0 Q (.ops all (⟨some d, op, ty, pos, af, some (j, want)⟩ :: rest)) ks s := fun F H L ha => by
  obtain ⟨c, b, hy, hge⟩ := gOp_ok ha hg
  refine ow_gd hy hd (fun e => ?_) (fun e => ?_)
  · have hgt := hge.trans e
    obtain ⟨val, h1, h2⟩ := h hgt F H L (abs_str ha hc hno hgt)
    refine op1_l hd h2 (k (fun _ => h1.sim.wf) _ _ _ (ha.put d ?_))
    rw [hgt]; exact Sim.gvt h1.sim
  · have hgf := hge.trans e
    refine k (fun e => by rw [hgf] at e; cases e) _ _ _ (ha.put d ?_)
    rw [hgf]; exact Sim.gvf
end Go.SW
namespace Go.SW.V
open Go.SW
variable {P : Program} {n : Nat} {N : Rest} {H0 : Env} {ks : List Kt} {fF : Nat → PV} {fL : Nat → Blk} {tb : Tb} {rs : List ResultVar} {res p q r t u : PV} {as0 bs : List Nat}
theorem rt4 (h : resPs tb ⟨fF, fL⟩ rs = some ([p, q, r, t], as0, bs)) (he : as0 = bs) (hp : PLe (.tup [p, q, r, t]) res) : Hd P n N H0 (rtK tb rs res) (.ex .ret) [] ⟨fF, fL⟩ := rt h he hp
theorem sv_osl {α : Type} {Q : Qs} {all : List Oper} {xs : Option (List Nat)} {fuel : Nat} {listed : Array Bool} {t k e : Nat} {u : Value} {enc : α → List PV} {ys : List α} (i : Nat) (hF : fF t = .val u) (hL : fL i = .arr u k e enc ys) (kk : Hv P n N H0 Q xs all fuel listed ks ⟨updp fF t (.osl i), fL⟩) : Hv P n N H0 Q xs all fuel listed ks ⟨fF, fL⟩ := fun F H L Lk ha hl => kk F H L Lk (val_osl (s := ⟨fF, fL⟩) ha hF hL) hl
end Go.SW.V
set_option linter.unusedVariables false
set_option maxRecDepth 100000
namespace Go.SW.V
open Go.SW
def l08_awake : Bool :=
 (bif ((!true) || (!decide (((frameBytes (⟨1, 2, [97, 98]⟩ : Frame)).length : Int) = 11))) then
 false
 else (bif decide ((((feedTake (⟨[], 0⟩ : Feed) ((frameBytes (⟨1, 2, [97, 98]⟩ : Frame)) ++ ((frameBytes (⟨1, 2, [97, 98]⟩ : Frame)).take 5))).2).length : Int) = 1) then
 (bif decide ((((feedTake ((feedTake (⟨[], 0⟩ : Feed) ((frameBytes (⟨1, 2, [97, 98]⟩ : Frame)) ++ ((frameBytes (⟨1, 2, [97, 98]⟩ : Frame)).take 5))).1) ((frameBytes (⟨1, 2, [97, 98]⟩ : Frame)).drop 5)).2).length : Int) = 1) then
 (((decide (((gt ((feedTake ((feedTake (⟨[], 0⟩ : Feed) ((frameBytes (⟨1, 2, [97, 98]⟩ : Frame)) ++ ((frameBytes (⟨1, 2, [97, 98]⟩ : Frame)).take 5))).1) ((frameBytes (⟨1, 2, [97, 98]⟩ : Frame)).drop 5)).2) 0).body) = [97, 98])) && (decide ((((feedTake ((feedTake (⟨[], 0⟩ : Feed) ((frameBytes (⟨1, 2, [97, 98]⟩ : Frame)) ++ ((frameBytes (⟨1, 2, [97, 98]⟩ : Frame)).take 5))).1) ((frameBytes (⟨1, 2, [97, 98]⟩ : Frame)).drop 5)).1).rest) = []))) && (decide ((((feedTake ((feedTake (⟨[], 0⟩ : Feed) ((frameBytes (⟨1, 2, [97, 98]⟩ : Frame)) ++ ((frameBytes (⟨1, 2, [97, 98]⟩ : Frame)).take 5))).1) ((frameBytes (⟨1, 2, [97, 98]⟩ : Frame)).drop 5)).1).err) = 0)))
 else false)
 else false))
def l08_Awake : Bool :=
 (l08_awake)
def l12_awake : Bool :=
 (((((l08_Awake) && true) && (decide ((replyE (⟨1, 1, 0, 0, false, [], (⟨0, [], [], [], [], 0, 0⟩ : Mail)⟩ : Reply)) = 0))) && (decide (((replyFrame (⟨1, 1, 0, 0, false, [], (⟨0, [], [], [], [], 0, 0⟩ : Mail)⟩ : Reply)).kind) = 65))) && (decide (((replyFrame (⟨1, 1, 0, 0, false, [], (⟨0, [], [], [], [], 0, 0⟩ : Mail)⟩ : Reply)).body) = [])))
def l12_Awake : Bool :=
 (l12_awake)
end Go.SW.V
