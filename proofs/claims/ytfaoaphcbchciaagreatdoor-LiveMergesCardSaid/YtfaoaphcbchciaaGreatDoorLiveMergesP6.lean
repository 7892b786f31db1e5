/-
  A part of the proof of LiveMerges: 
-/
import Derived.RangeFuncNested
import Derived.RangeFuncBound
import Derived.RangeFuncCalls
import Derived.RangeFuncLeaves
import Derived.Shelf.Abstract
import Derived.Shelf.RegionOpen
import Derived.WalkKit
import Derived.OwnWalkIn
import Derived.TacticsInMore
import Derived.LoopNIn
import Derived.LoopIn
import Derived.Test.YtfaoaphcbchciaaGreatDoorLiveMergesP2
set_option linter.unusedVariables false
set_option linter.unusedSimpArgs false
set_option maxRecDepth 100000
set_option maxHeartbeats 4000000
open Go.Proofs.Tryz
namespace Go.SW.V
open Go.SW Go.Proofs
abbrev ty3zn:TI:=⟨.int .i64,1,8,[.int .i64 0]⟩
abbrev ty28zn:TI:=⟨.int .u64,1,8,[.int .u64 0]⟩
abbrev ty36zn:TI:=⟨.slc 3,1,24,[.sl i64c []]⟩
abbrev ty39zn:TI:=⟨.agg [(0,1),(1,1),(2,1),(3,1),(4,1)],5,88,[.int .i64 0, .int .i64 0, .sl Hz_.pc [], .sl i64c [], .sl Hy_.pc []]⟩
def tbzn:Tb:=[(3,ty3zn),(28,ty28zn),(36,ty36zn),(39,ty39zn)]
theorem Dh_:tbB prog tbzn=true:=by kernel_rfl
def gb0:Gb:=⟨λ_=>True,λ_ _ _ _=>trivial⟩
theorem At_v (wk gv:Int) (v1 v2:Value) (zs:List Int) (tick:Int) (hs:0<zs.length) (hl:zs.length<=1000):Fn prog gb0 145 [.agg [.int .i64 wk, .int .i64 gv, .usl v1, .sl i64c zs, .usl v2], .int .u64 tick] (.int .i64 (gt zs ((tick%(zs.length:Int))).toNat)):=by
 refine fC func145 Dh_ ntmps145 λw N H hG=>?_;have tick_r:0<=tick/\tick<=18446744073709551615:=w.2.1;have hem:=Int.emod_lt_of_pos tick (show (0:Int)<zs.length by omega);have hen:=Int.emod_nonneg tick (show (zs.length:Int)≠0 by omega);refine gm Dh_ 7 [0] λB0=>?_;refine aN [1,2,3,4,5,6] 11 (show prog.follows .mixedOrders=true by kernel_rfl) ?_;refine gX Dh_ [0,1,2,3,4,5] 5 ?_;refine vE 6 Y (eqy (qconv Dh_ Y Y Y Y (rg_u64 yY)) Y λw0=>?_);refine gXy Dh_ [7] 3 ?_;have hc0:=getG (xs:=zs) (k:=((tick%(zs.length:Int))).toNat) yY;refine vq 8 (qidx Dh_ ((tick%(zs.length:Int))).toNat Y Y yY hc0 Y Y Y Y) Y yZ Y λw1=>?_;refine gX Dh_ [9,10] 0 ?_;refine vD ?_;refine gx Dh_ 2 ?_;exact rt1 Y Y (ple Y)
end Go.SW.V
namespace Go.Proofs
open Go.RowKit Go.Shelf Go.SW
theorem At_w (w:World) (wk gv:Int) (rk:-9223372036854775808<=wk/\wk<=9223372036854775807) (rg:-9223372036854775808<=gv/\gv<=9223372036854775807) (v1 v2:Value) (o1:v1.oneCell'=true) (o2:v2.oneCell'=true) (b off cap:Nat) (zs:List Int) (hz:∀ z∈zs,-9223372036854775808<=z/\z<=9223372036854775807)
   (h0:0<zs.length) (hl:zs.length<=1000) (hcap:zs.length<=cap) (c:Array Value) (T:TypeId) (fr:Nat×Nat) (hb:w.heap[b]? = some (.cells c T fr)) (hc:∀ j,j<zs.length->c[off+j]? = some (.int .i64 (V.gt zs j))) (t:Nat) (ht:t<=18446744073709551615) :
   Calls prog 145 #[.agg #[.int .i64 wk, .int .i64 gv,v1, .slice (some ⟨b,off,none⟩) zs.length cap,v2], .int .u64 t] w λe w'=>e = .returned (.int .i64 (V.gt zs (t%zs.length)))/\Below w.heap.size w w':=by
 have hs:Sim (hp w) (.sl i64c zs) (.slice (some ⟨b,off,none⟩) zs.length cap):=by
   refine Sim.sl 1 (λi=>[.int .i64 (V.gt zs i)]) hcap yY (λi x hx=>?_) (λi x j p v hx hp hv=>?_)
   . have hi:i<zs.length:=by
       rcases Nat.lt_or_ge i zs.length with q|q
       . exact q
       . rw[List.getElem?_eq_none q] at hx;cases hx
     refine⟨rfl,⟨b,off,_,_,c,T,fr,rfl,hb,rfl,λj hj=>?_⟩,λu hu=>by rw[List.mem_singleton.1 hu];rfl⟩
     obtain rfl :j=0:=by omega
     rw[show off+i*1+0=off+i by omega,hc i hi];rfl
   . have hi:i<zs.length:=by
       rcases Nat.lt_or_ge i zs.length with q|q
       . exact q
       . rw[List.getElem?_eq_none q] at hx;cases hx
     rw[V.getG hi] at hx;cases hx
     cases j with
     |zero=>cases hp;cases hv;have :=hz _ (V.gt_mem hi);exact Sim.int this.1 this.2
     |succ j=>cases hp
 have ht':IntKind.min .u64<=(t:Int)/\(t:Int)<=IntKind.max .u64:=by
   show (0:Int)<=t/\(t:Int)<=18446744073709551615
   omega
 have h:=(V.At_v wk gv v1 v2 zs t h0 hl).run (L9_ w) (hp w) l0 w [.agg #[.int .i64 wk, .int .i64 gv,v1, .slice (some ⟨b,off,none⟩) zs.length cap,v2], .int .u64 t] Z
   (Sims.cons (Sim.toAgg (vs:=[.int .i64 wk, .int .i64 gv,v1, .slice (some ⟨b,off,none⟩) zs.length cap,v2]) (Sims.cons (Sim.int rk.1 rk.2) (Sims.cons (Sim.int rg.1 rg.2) (Sims.cons (Sim.usl o1) (Sims.cons hs (Sims.cons (Sim.usl o2) Sims.nil)))))) (Sims.cons (Sim.int ht'.1 ht'.2) Sims.nil)) (mem0 w)
 refine h.mono λe w' ⟨v,H',e1,e2,e3,e4⟩=>?_;have hb':Below w.heap.size w w':=by
   have hk:∀ k,k<w.heap.size->w'.heap[k]? = w.heap[k]? :=λk hk=>by
     have e:w.heap[k]? = some w.heap[k]:=Array.getElem?_eq_getElem hk
     rw[e];exact e4.h k _ (e3 k _ e)
   refine⟨e4.os,e4.tape,e4.output,?_,hk⟩
   by_cases z:w.heap.size=0
   . omega
   . have :=hk (w.heap.size-1) yY
     exact zZ
 refine⟨?_,hb'⟩;rw[e1]
 cases e2
 rw[show ((t:Int)%(zs.length:Int)).toNat=t%zs.length by rw[<- Int.natCast_emod];rfl]
end Go.Proofs
namespace Go.Proofs
open Go.RowKit Go.Shelf
attribute [local go_sem] Oper.semAt_some
def upF {α:Type} (f:Nat->α) (k:Nat):List α:=(List.range k).map f
theorem Dr_ {α:Type} (f:Nat->α) (k:Nat):upF f (k+1)=upF f k++[f k]:=by simp[upF,List.range_succ]
theorem Cd_ {α:Type} (f:Nat->α) (k:Nat):(upF f k).length=k:=by simp[upF]
def fN (zs:List Int) (t0:Nat) (j:Nat):Int×Int:=((t0:Int)+(j:Int),Go.SW.V.gt zs ((t0+j)%zs.length))
/-- What a round keeps: two blocks. -/
structure KpS (b Bp:Nat) (W W':World):Prop where
 size:W.heap.size<=W'.heap.size
 kb:W'.heap[b]? = W.heap[b]?
 kp:W'.heap[Bp]? = W.heap[Bp]?
theorem KpS.refl {b Bp:Nat} (W:World):KpS b Bp W W:=⟨Nat.le_refl _,rfl,rfl⟩
theorem KpS.trans {b Bp:Nat} {A B C:World} (h:KpS b Bp A B) (k:KpS b Bp B C):KpS b Bp A C:=⟨Nat.le_trans h.size k.size,k.kb.trans h.kb,k.kp.trans h.kp⟩
theorem All1_in (n:Nat) (hn:1<=n) (l Bt Bp b off cap:Nat) (wk gv:Int) (rk:-9223372036854775808<=wk/\wk<=9223372036854775807) (rg:-9223372036854775808<=gv/\gv<=9223372036854775807) (v1 v2:Value) (o1:v1.oneCell'=true) (o2:v2.oneCell'=true) (zs:List Int) (hz:∀ z∈zs,-9223372036854775808<=z/\z<=9223372036854775807)
   (h0:0<zs.length) (hl:zs.length<=1000) (hcap:zs.length<=cap) (c:Array Value) (T:TypeId) (fr:Nat×Nat) (hcc:∀ j,j<zs.length->c[off+j]? = some (.int .i64 (Go.SW.V.gt zs j))) (t0:Nat) (ht:t0<=18446744073709551615)
   (J Jx:List (Int×Int)->World->Prop)
   (hY:∀ pre x W,J pre W->pre.length<18446744073709551616->YieldAt Fence.wide (n-1) prog l #[.int .u64 x.1, .int .i64 x.2] W λe W'=>
     (e = .returned (.bool true)/\J (pre++[x]) W'/\KpS b Bp W W')\/(e = .returned (.bool false)/\Jx (pre++[x]) W'))
   (W:World) (hb:W.heap[b]? = some (.cells c T fr)) (hBt:W.cell? ⟨Bt,0,none⟩=some (.int .u64 t0)) (hBp:W.heap[Bp]? = some (.cells #[.int .i64 wk, .int .i64 gv,v1, .slice (some ⟨b,off,none⟩) zs.length cap,v2] 39)) (hJa:AbidesFrom W.heap.size J) (hJ:J [] W) :
   CallsIn Fence.wide n prog 313 #[.func (.yield l) #[] #[], .pointer (some ⟨Bt,0,none⟩), .pointer (some ⟨Bp,0,none⟩)] W λe W'=>(∃ v,e = .returned v) /\
     ((∃ ys,(∃ k,t0+k=18446744073709551616/\ys=upF (fN zs t0) k)/\J ys W')\/(∃ pre,(∃ k,t0+k<=18446744073709551616/\pre=upF (fN zs t0) k)/\Jx pre W')):=by
 refine callsIn_of_wp func313 Y Z ?_ Y
 simp only[ntmps313,List.size_toArray,List.length_cons,List.length_nil,Nat.reduceAdd,Nat.reduceSub,Array.replicate_succ,Array.replicate_zero,List.push_toArray,List.append_toArray,List.nil_append,List.cons_append]
 gi_wp2
 gi_loopw [4] (λi wr=>∃ k:Nat,t0+k<=18446744073709551615/\i = .int .u64 ((t0:Int)+(k:Int))/\J (upF (fN zs t0) k) wr/\KpS b Bp W wr)
   (λi _=>18446744073709551615-(intOf i).toNat)
 case atStart=>exact⟨0,by omega,rfl,hJ,KpS.refl _⟩
 case round=>
   obtain⟨k,hk,rfl,hJs,hnx⟩:=hrel
   have hbr:wr.heap[b]? = some (.cells c T fr):=hnx.kb.trans hb
   have hpr:wr.heap[Bp]? = some (.cells #[.int .i64 wk, .int .i64 gv,v1, .slice (some ⟨b,off,none⟩) zs.length cap,v2] 39):=hnx.kp.trans hBp
   have p0:wr.cell? ⟨Bp,0,none⟩=some (.int .i64 wk):=by simp[World.cell?,hpr]
   have p1:wr.cell? ⟨Bp,1,none⟩=some (.int .i64 gv):=by simp[World.cell?,hpr]
   have p2:wr.cell? ⟨Bp,2,none⟩=some v1:=by simp[World.cell?,hpr]
   have p3:wr.cell? ⟨Bp,3,none⟩=some (.slice (some ⟨b,off,none⟩) zs.length cap):=by simp[World.cell?,hpr]
   have p4:wr.cell? ⟨Bp,4,none⟩=some v2:=by simp[World.cell?,hpr]
   gi_wp2
   rw[show (t0:Int)+(k:Int)=((t0+k:Nat):Int) by omega]
   refine⟨trivial,(callsIn_wide.2 (At_w wr wk gv rk rg v1 v2 o1 o2 b off cap zs hz h0 hl hcap c T fr hbr hcc (t0+k) hk)).mono ?_⟩
   rintro e W2 ⟨rfl,hB2⟩
   have hJ2:=hJa _ wr W2 none hJs ⟨hB2.os,hB2.tape,hB2.output,hB2.size,λj hj _=>hB2.block j hj⟩ (λr e=>by cases e)
   have hn2:KpS b Bp W W2:=hnx.trans ⟨hB2.size,hB2.block _ (Array.getElem?_eq_some_iff.1 hbr).1,hB2.block _ (Array.getElem?_eq_some_iff.1 hpr).1⟩
   obtain⟨fn,tmps,assign,body,hy,hR⟩:=hY _ (fN zs t0 k) W2 hJ2 (by rw[Cd_];omega)
   dsimp only[fN] at hy
   gi_wp2
   refine hR.mono ?_
   rintro e W3 (⟨rfl,hJ3,hk3⟩|⟨rfl,hJx3⟩)
   . by_cases hmax:t0+k=18446744073709551615
     . gi_wp2
       refine bodyPost_ret (results_none Y _ _ _) Y ?_
       exact⟨⟨_,rfl⟩, .inl ⟨_,⟨k+1,by omega,(Dr_ _ _).symm⟩,hJ3⟩⟩
     . gi_wp2
       refine⟨⟨k+1,by omega,by rw[show ((k+1:Nat):Int)=(k:Int)+1 by omega,Int.add_assoc],by rw[Dr_];exact hJ3,hn2.trans hk3⟩,?_⟩
       simp only[intOf];omega
   . gi_wp2
     go_end0
     exact⟨⟨_,rfl⟩, .inr ⟨_,⟨k+1,by omega,(Dr_ _ _).symm⟩,hJx3⟩⟩
theorem I7_ (n:Nat) (hn:1<=n) (Bt Bp b off cap:Nat) (wk gv:Int) (rk:-9223372036854775808<=wk/\wk<=9223372036854775807) (rg:-9223372036854775808<=gv/\gv<=9223372036854775807) (v1 v2:Value) (o1:v1.oneCell'=true) (o2:v2.oneCell'=true) (zs:List Int) (hz:∀ z∈zs,-9223372036854775808<=z/\z<=9223372036854775807)
   (h0:0<zs.length) (hl:zs.length<=1000) (hcap:zs.length<=cap) (c:Array Value) (T:TypeId) (fr:Nat×Nat) (hcc:∀ j,j<zs.length->c[off+j]? = some (.int .i64 (Go.SW.V.gt zs j))) (t0:Nat) (ht:t0<=18446744073709551615)
   (w:World) (hb:w.heap[b]? = some (.cells c T fr)) (hBt:w.heap[Bt]? = some (.cells #[.int .u64 t0] 28)) (hBp:w.heap[Bp]? = some (.cells #[.int .i64 wk, .int .i64 gv,v1, .slice (some ⟨b,off,none⟩) zs.length cap,v2] 39)) :
   SeqStopsK Fence.wide n prog 313 #[.pointer (some ⟨Bt,0,none⟩), .pointer (some ⟨Bp,0,none⟩)] (λx:Int×Int=>#[Value.int .u64 x.1, .int .i64 x.2]) (KpS b Bp) (λys=>∃ k,t0+k=18446744073709551616/\ys=upF (fN zs t0) k) (λpre=>∃ k,t0+k<=18446744073709551616/\pre=upF (fN zs t0) k) 18446744073709551616 w:=λl J Jx W hW hJa _ hY hJ=>by
 have hlt:∀ {k:Nat} {o:Obj},w.heap[k]? = some o->W.heap[k]? = some o:=λ{k o} h=>(hW.block k (Array.getElem?_eq_some_iff.1 h).1).trans h
 exact All1_in n hn l Bt Bp b off cap wk gv rk rg v1 v2 o1 o2 zs hz h0 hl hcap c T fr hcc t0 ht J Jx hY W (hlt hb) (by simp[World.cell?,hlt hBt]) (hlt hBp) hJa hJ
attribute [local go_sem] Oper.semAt_some
theorem All_in (n:Nat) (w:World) (wk gv:Int) (v1 v2 v3:Value) (o1:v1.oneCell'=true) (o2:v2.oneCell'=true) (o3:v3.oneCell'=true) (t0:Nat) :
   CallsIn Fence.wide n prog 225 #[.agg #[.int .i64 wk, .int .i64 gv,v1,v3,v2], .int .u64 t0] w λe w'=>e = .returned (.func (.func 313) #[] #[.pointer (some ⟨w.heap.size+1,0,none⟩), .pointer (some ⟨w.heap.size,0,none⟩)])/\w'=(w.alloc (.cells #[.int .i64 wk, .int .i64 gv,v1,v3,v2] 39)).alloc (.cells #[.int .u64 t0] 28):=by
 refine callsIn_of_wp func225 Y Z ?_ Y;simp only[ntmps225,List.size_toArray,List.length_cons,List.length_nil,Nat.reduceAdd,Nat.reduceSub,Array.replicate_succ,Array.replicate_zero,List.push_toArray,List.append_toArray,List.nil_append,List.cons_append]
 gi_wp2
 go_ret
 exact⟨rfl,rfl⟩
theorem cO {W:World} {a b:Addr} {v u:Value} (h:a.block≠b.block) (k:W.cell? b=some u):(W.setCell a v).cell? b=some u:=by
 rw[World.cell?_setCell_other _ _ _ _ (by rintro rfl;exact h Y)];exact k
theorem hN {w:World} {k:Nat} {o:Obj} (h:k=w.heap.size):(w.alloc o).heap[k]? = some o:=by rw[h];exact World.alloc_heap_new w o
theorem hO {w:World} {k:Nat} {o x:Obj} (h:w.heap[k]? = some x):(w.alloc o).heap[k]? = some x:=(Below.heap_alloc _ _ _ (Array.getElem?_eq_some_iff.1 h).1).trans h
theorem hC {w:World} {k j:Nat} {cs:Array Value} {T:TypeId} {fr:Nat×Nat} {v:Value} (h:w.heap[k]? = some (.cells cs T fr)) (e:cs[j]? = some v):w.cell? ⟨k,j,none⟩=some v:=by simp[World.cell?,h,e]
theorem hF {w:World} {k j:Nat} {cs:Array Value} {T:TypeId} {fr:Nat×Nat} (h:w.heap[k]? = some (.cells cs T fr)) (e:fr=(0,0)):w.frozen? ⟨k,j,none⟩=false:=by subst e;simp[World.frozen?,h]
theorem cS {W:World} {a:Addr} {v u:Value} (k:W.cell? a=some u):(W.setCell a v).cell? a=some v:=World.cell?_setCell_same _ _ _ k
theorem fO {W:World} {a b:Addr} {v:Value} {c:Bool} (k:W.frozen? b=c):(W.setCell a v).frozen? b=c:=by
 rw[World.frozen?_setCell];exact k
theorem snN {pre:List (Int×Int)} {x:Int×Int} {place:Int} (h:∀ y∈pre,y.2≠place) (hx:x.2≠place):∀ y∈pre++[x],y.2≠place:=λy hy=>by
 rcases List.mem_append.1 hy with q|q
 . exact h y q
 . rw[List.mem_singleton.1 q];exact hx
theorem Next_in (n:Nat) (hn:2<=n) (w:World) (wk gv:Int) (rk:-9223372036854775808<=wk/\wk<=9223372036854775807) (rg:-9223372036854775808<=gv/\gv<=9223372036854775807) (v1 v2:Value) (o1:v1.oneCell'=true) (o2:v2.oneCell'=true) (b off cap:Nat) (zs:List Int) (hz:∀ z∈zs,-9223372036854775808<=z/\z<=9223372036854775807)
   (h0:0<zs.length) (hl:zs.length<=1000) (hcap:zs.length<=cap) (c:Array Value) (T:TypeId) (fr:Nat×Nat) (hb:w.heap[b]? = some (.cells c T fr)) (hcc:∀ j,j<zs.length->c[off+j]? = some (.int .i64 (Go.SW.V.gt zs j))) (place:Int) (t0:Nat) (ht:t0+zs.length<=18446744073709551615) :
   CallsIn Fence.wide n prog 162 #[.agg #[.int .i64 wk, .int .i64 gv,v1, .slice (some ⟨b,off,none⟩) zs.length cap,v2], .int .i64 place, .int .u64 t0] w λe w'=>
     ((∃ k,k<zs.length/\(∀ j,j<k->(fN zs t0 j).2≠place)/\(fN zs t0 k).2=place/\e = .returned (.tuple #[.int .u64 (fN zs t0 k).1, .bool true]))\/((∀ j,j<zs.length->(fN zs t0 j).2≠place)/\e = .returned (.tuple #[.int .u64 0, .bool false])))/\Below w.heap.size w w':=by
 have h1:1<=n:=by omega
 refine callsIn_of_wp_marks func162 Y Z ?_ Y;simp only[ntmps162,List.size_toArray,List.length_cons,List.length_nil,Nat.reduceAdd,Nat.reduceSub,Array.replicate_succ,Array.replicate_zero,List.push_toArray,List.append_toArray,List.nil_append,List.cons_append]
 gi_wp2
 refine⟨trivial,(All_in (n-1) _ wk gv v1 v2 _ o1 o2 Y t0).mono ?_⟩;rintro e W1 ⟨rfl,rfl⟩
 gi_wp2
 refine wpIn_rangeFunc_ownF Y h1 (gf:=313) Y Z (enters_of func313 yZ Y)
   (I7_ (n-1) yY (w.heap.size+1+1+1+1+1+1) (w.heap.size+1+1+1+1+1) b off cap wk gv rk rg v1 v2 o1 o2 zs hz h0 hl hcap c T fr hcc t0 yY _ ?hb ?hBt ?hBp)
   (λh k=>h.trans k) ?hKb (Below.refl _ _) (λ_=>rfl)
   (λpre W=>(W.cell? ⟨w.heap.size,3,none⟩=some (.slice (some ⟨b,off,none⟩) zs.length cap)/\W.cell? ⟨w.heap.size+1,0,none⟩=some (.int .i64 place)/\(W.cell? ⟨w.heap.size+1+1,0,none⟩=some (.int .u64 0)/\W.frozen? ⟨w.heap.size+1+1,0,none⟩=false)/\(W.cell? ⟨w.heap.size+1+1+1,0,none⟩=some (.bool false)/\W.frozen? ⟨w.heap.size+1+1+1,0,none⟩=false)/\W.cell? ⟨w.heap.size+1+1+1+1,0,none⟩=some (.int .i64 pre.length)/\W.frozen? ⟨w.heap.size+1+1+1+1,0,none⟩=false)/\((∀ y∈pre,y.2≠place)/\pre.length<zs.length)/\Below w.heap.size w W)
   (λc pre W=>((c = .ret/\∃ p0 x,pre=p0++[x]/\(∀ y∈p0,y.2≠place)/\x.2=place/\p0.length<zs.length/\W.cell? ⟨w.heap.size+1+1,0,none⟩=some (.int .u64 x.1)/\W.cell? ⟨w.heap.size+1+1+1,0,none⟩=some (.bool true))\/(c = .exit 0/\(∀ y∈pre,y.2≠place)/\pre.length=zs.length/\(W.cell? ⟨w.heap.size+1+1,0,none⟩=some (.int .u64 0)/\W.frozen? ⟨w.heap.size+1+1,0,none⟩=false)/\(W.cell? ⟨w.heap.size+1+1+1,0,none⟩=some (.bool false)/\W.frozen? ⟨w.heap.size+1+1+1,0,none⟩=false)))/\Below w.heap.size w W)
   ?hI ?hIx ?hI0
   (λx=>{tmps:=#[.agg #[Value.int .i64 wk, .int .i64 gv,v1, .slice (some ⟨b,off,none⟩) zs.length cap,v2], .int .i64 place, .int .u64 t0, .pointer (some ⟨w.heap.size,0,none⟩), .pointer (some ⟨w.heap.size+1,0,none⟩),undef, .pointer (some ⟨w.heap.size+1+1,0,none⟩), .pointer (some ⟨w.heap.size+1+1+1,0,none⟩), .pointer (some ⟨w.heap.size+1+1+1+1,0,none⟩), .int .u64 x.1, .int .i64 x.2, .agg #[Value.int .i64 wk, .int .i64 gv,v1, .slice (some ⟨b,off,none⟩) zs.length cap,v2], .int .u64 t0, .func (.func 313) #[] #[.pointer (some ⟨w.heap.size+1+1+1+1+1+1,0,none⟩), .pointer (some ⟨w.heap.size+1+1+1+1+1,0,none⟩)], .int .u64 x.1, .int .i64 x.2,undef,undef,undef,undef,undef,undef,undef,undef,undef,undef,undef],defers:=[]}) ?assign ?body ?done ?stop
 case assign=>
   intro l x W K hK
   gi_wp2
   exact hK
 case hb=>
   exact (Below.block ((((((((Below.refl _ w).alloc xA _).alloc xA _).alloc xD _).alloc xD _).alloc xD _).alloc xD _).alloc xD _) b (Array.getElem?_eq_some_iff.1 hb).1).trans hb
 case hBt=>exact hN xA
 case hBp=>exact hO (hN xA)
 case hKb=>
   intro W l o o' hl _ _ _
   simp only[World.size_alloc] at hl
   have hbl:=(Array.getElem?_eq_some_iff.1 hb).1
   exact⟨by simp[World.putObj],World.putObj_heap_other yY,World.putObj_heap_other yY⟩
 case hI=>
   intro s A B row hs hg hr
   have hr':=λr e=>(hr r e).2
   obtain⟨⟨c0,cp,⟨ca,fa⟩,⟨cb,fb⟩,ci,fi⟩,hne,hB⟩:=hs
   exact⟨⟨cell_kept c0 hg hr',cell_kept cp hg hr',⟨cell_kept ca hg hr',(frozen_kept ca hg hr').trans fa⟩,⟨cell_kept cb hg hr',(frozen_kept cb hg hr').trans fb⟩,cell_kept ci hg hr',(frozen_kept ci hg hr').trans fi⟩,hne,hB.grown hg hB.size (λk e=>by have :=(hr k e).1;simp only[World.size_alloc] at this;omega)⟩
 case hIx=>
   intro c s A B row hs hg hr
   have hr':=λr e=>(hr r e).2
   obtain⟨hs,hB⟩:=hs
   refine⟨?_,hB.grown hg hB.size (λk e=>by have :=(hr k e).1;simp only[World.size_alloc] at this;omega)⟩
   rcases hs with ⟨rfl,p0,x,e1,e2,e3,e4,e5,e6⟩|⟨rfl,e2,e3,⟨ca,fa⟩,⟨cb,fb⟩⟩
   . exact .inl ⟨rfl,p0,x,e1,e2,e3,e4,cell_kept e5 hg hr',cell_kept e6 hg hr'⟩
   . exact .inr ⟨rfl,e2,e3,⟨cell_kept ca hg hr',(frozen_kept ca hg hr').trans fa⟩,⟨cell_kept cb hg hr',(frozen_kept cb hg hr').trans fb⟩⟩
 case hI0=>
   refine⟨?_,⟨by simp,by simpa using h0⟩,?_⟩
   . exact⟨hC (hO (hO (hO (hO (hO (hO (hN xA))))))) rfl,hC (hO (hO (hO (hO (hO (hN xA)))))) rfl,⟨hC (hO (hO (hO (hO (hN xA))))) rfl,hF (hO (hO (hO (hO (hN xA))))) rfl⟩,⟨hC (hO (hO (hO (hN xA)))) rfl,hF (hO (hO (hO (hN xA)))) rfl⟩,hC (hO (hO (hN xA))) rfl,hF (hO (hO (hN xA))) rfl⟩
   . exact (((((((Below.refl _ w).alloc xA _).alloc xA _).alloc xD _).alloc xD _).alloc xD _).alloc xD _).alloc xD _
 case done=>
   rintro D xs W _ ⟨k,hk,rfl⟩ ⟨_,⟨_,h9⟩,_⟩ hK
   rw[Cd_] at h9
   omega
 case body=>
   rintro l pre x W ⟨⟨c0,cp,⟨ca,fa⟩,⟨cb,fb⟩,ci,fi⟩,⟨hne,hlt⟩,hB⟩ _
   have hbl:=(Array.getElem?_eq_some_iff.1 hb).1
   gi_wp2
   . rename_i hx
     exact⟨(KeepsOthers.setCell _ _ _).trans (KeepsOthers.setCell _ _ _), .inl ⟨rfl,pre,x,rfl,hne,by simpa using hx,hlt,cO xJ (cS ca),cS (cO xJ cb)⟩,(hB.setCell xD _).setCell xD _⟩
   . rename_i hx hy
     exact⟨KeepsOthers.setCell _ _ _, .inr ⟨rfl,snN hne (by simpa using hx),by simp;omega,⟨cO xJ ca,fO fa⟩,cO xJ cb,fO fb⟩,hB.setCell xD _⟩
   . rename_i hx hy
     exact⟨KeepsOthers.setCell _ _ _,⟨by simp[World.setCell],Below.heap_setCell _ _ _ _ xD,Below.heap_setCell _ _ _ _ xA⟩,⟨cO xJ c0,cO xJ cp,⟨cO xJ ca,fO fa⟩,⟨cO xJ cb,fO fb⟩,by rw[List.length_append];exact cS ci,fO fi⟩,⟨snN hne (by simpa using hx),by simp;omega⟩,hB.setCell xD _⟩
 case stop=>
   rintro D c pre W hD ⟨k,_,rfl⟩ ⟨hs,hB⟩ hK
   simp only[World.size_alloc] at hD
   rcases hs with ⟨rfl,p0,x,e1,e2,e3,e4,e5,e6⟩|⟨rfl,e2,e3,⟨ca,fa⟩,⟨cb,fb⟩⟩
   . gi_wp2
     refine⟨by simp, .inl ⟨_,_,rfl,run_takeDeferred hK,?_⟩⟩
     have h5:=cell_kept e5 (grownBy_putObj' _ D (.deferred none)) (λr e=>by cases e;exact⟨_,hK,rfl⟩)
     have h6:=cell_kept e6 (grownBy_putObj' _ D (.deferred none)) (λr e=>by cases e;exact⟨_,hK,rfl⟩)
     have hk:k=p0.length+1:=by have :=congrArg List.length e1;simpa [Cd_] using this
     rw[hk,Dr_] at e1
     obtain⟨q1,q2⟩:=List.append_inj' e1 Y
     have q3:x=fN zs t0 p0.length:=(List.cons.inj q2).1.symm
     refine⟨.tuple #[.int .u64 x.1, .bool true],?_, .inl ⟨p0.length,e4,λj hj=>e2 _ (by rw[<- q1];simp only[upF,List.mem_map,List.mem_range];exact⟨j,hj,rfl⟩),by rw[<- q3];exact e3,by rw[<- q3]⟩,hB.grown (grownBy_putObj' W D _) hB.size (λr e=>by cases e;omega)⟩
     simp[results,Tryz.f162,go_sem,h5,h6]
   . gi_wp2
     have hK':=((KeepsOthers.setCell W ⟨w.heap.size+1+1,0,none⟩ (.int .u64 0)).trans (KeepsOthers.setCell _ ⟨w.heap.size+1+1+1,0,none⟩ (.bool false))).same D _ hK Y
     refine⟨by simp, .inl ⟨_,_,rfl,run_takeDeferred hK',?_⟩⟩
     have h5:=cell_kept (cO (b:=⟨w.heap.size+1+1,0,none⟩) (a:=⟨w.heap.size+1+1+1,0,none⟩) (v:= .bool false) xA (cS (v:= .int .u64 0) ca)) (grownBy_putObj' _ D (.deferred none)) (λr e=>by cases e;exact⟨_,hK',rfl⟩)
     have h6:=cell_kept (cS (v:= .bool false) (cO (b:=⟨w.heap.size+1+1+1,0,none⟩) (a:=⟨w.heap.size+1+1,0,none⟩) (v:= .int .u64 0) xA cb)) (grownBy_putObj' _ D (.deferred none)) (λr e=>by cases e;exact⟨_,hK',rfl⟩)
     rw[Cd_] at e3
     refine⟨.tuple #[.int .u64 0, .bool false],?_, .inr ⟨λj hj=>e2 _ (by simp only[upF,List.mem_map,List.mem_range];exact⟨j,by omega,rfl⟩),rfl⟩,((hB.setCell xD _).setCell xD _).grown (grownBy_putObj' _ D _) ((hB.setCell xD _).setCell xD _).size (λr e=>by cases e;omega)⟩
     simp[results,Tryz.f162,go_sem,h5,h6]
end Go.Proofs
