/-
  A part of the proof of ScriptTells: Records, printed by program: what their cells stand for.
-/
import Derived.Test.YtlemlalknchmcaaGreatDoorScriptTellsP2
import Derived.Test.YtlemlalknchmcaaGreatDoorProg
import Derived.KernelRfl
import Derived.RangeFuncNested
import Derived.RangeFuncBound
import Derived.RangeFuncCalls
import Derived.RangeFuncLeaves
import Derived.Shelf.Abstract
import Derived.Shelf.RegionOpen
import Derived.WalkKit
import Derived.OwnWalkIn
import Derived.TacticsInMore
import Derived.LoopNIn
import Derived.LoopIn
set_option linter.unusedVariables false
set_option linter.unusedSimpArgs false
set_option maxRecDepth 100000
set_option maxHeartbeats 4000000
open Array renaming replicate_succ->CW,replicate_zero->CX
open Bool renaming false_and->GD,not_true->EH,or_false->GI,true_and->EU
open Go.KeepsOthers renaming setCell->C0
open Go.Value renaming int->BM
open Go.World renaming cell?->B2,putObj_heap_other->EI,size_alloc->CJ
open List renaming all_nil->GT,any_cons->GJ,append_toArray->D8,cons_append->C6,drop_of_length_le->BY,eq_nil_of_length_eq_zero->C8,getElem?_eq_none->BQ,length_cons->AE,length_nil->BT,mem_map->GU,mem_range->GE,nil_append->CB,push_toArray->DQ,size_toArray->DP
open Nat renaming lt_or_ge->DB,reduceAdd->EO,reduceSub->EP,zero_le->CR
open Go.Proofs.Tryz
namespace Go.SW
structure K4_ where
 level:Int
 set_:Int
deriving DecidableEq,Inhabited
def K4_.pc(x:K4_):List PV:=[.int .u8 x.level, .int .u32 x.set_]
structure K5_ where
 name:Bs
 label:K4_
 bytes:Int
 base:Int
deriving DecidableEq,Inhabited
def K5_.pc(x:K5_):List PV:=[.str x.name, .int .u8 x.label.level, .int .u32 x.label.set_, .int .i64 x.bytes, .int .u64 x.base]
structure K3_ where
 frm:Int
 to':Int
 budget:Int
deriving DecidableEq,Inhabited
def K3_.pc(x:K3_):List PV:=[.int .i64 x.frm, .int .i64 x.to', .int .i64 x.budget]
end Go.SW
namespace Go.SW.V
open Go.SW
end Go.SW.V
namespace Go.SW.V
open Go.SW Go.Proofs
theorem Is_(s:Bs):Fn prog gb 38 [.str s] (.int .i64 (C2_ s)):=by
 refine kG func38 ntmps38 λw N H hG=>?_;refine kN 13 (λp0=>?_) λp1=>?_;refine kR 7 ?_;have :s=[]:=C8 xN;subst this;rfl;refine kN 10 (λp2=>?_) λp3=>?_;refine kR 7 ?_;have hne:¬s=[]:=λq=>by subst q;simp at *
 unfold C2_;rw[if_neg hne,if_pos xN];refine kA 9 ?_;refine loop (ι:=Nat) [0,4,5,6,7,8,9] [] (λk=>[(3, .int .i64 (k:Int))]) (λk=>[]) (λk=>k<=s.length/\(s.drop k).all (λc=>letter c.toNat)=plain s) (λk=>s.length-k) 0 ⟨Y,Z⟩ Z ?_ ?_;exact⟨by omega,rfl⟩;rintro k hp0;obtain⟨hk1,hk2⟩:=hp0;refine kN 9 (λp4=>?_) λp5=>?_;have :=u8r (s.getD k 0);refine jA 8 Y<|q1 (sidx X_ k Y Y Y Y Y xN) Y λw0=>call (Hv_ _) Y Y λw1=>kM 3 (λh0=>?_) (λh0=>?_);have h1:=Mv_ h0;refine kR 11 ?_;have hne:¬s=[]:=λq=>by subst q;simp at *
 unfold C2_;rw[if_neg hne,if_neg xN,<- hk2,Dp_ (k:=k) xN];simp only[*,GD,Bool.false_eq_true,if_false];have h1:=D8_ h0;refine kC 8 ?_;refine next (k+1) Y Y ⟨Y,Z⟩ Z ?_ ?_;omega;refine⟨by omega,?_⟩;rw[<- hk2,Dp_ (k:=k) xN];simp only[*,EU];refine kR 11 ?_;have hne:¬s=[]:=λq=>by subst q;simp at *
 unfold C2_;rw[if_neg hne,if_neg xN,<- hk2,BY xN];rfl
theorem Pq_(s:Bs)(hs:s.length<=1000000:=by first|omega|(simp;done)|decide):Fn prog gb 63 [.str s] (.sl strc (A8_ s)):=by
 refine kG func63 ntmps63 λw N H hG=>?_;refine kN 13 (λp0=>?_) λp1=>?_;refine kA 7 ?_;refine rt1 Y Y ?_;refine Po_ ?_;unfold A8_;rw[if_pos (C8 xN)];refine kA 19 ?_;refine sw_own (t:=3) (k:=1) (e:=9) 0 strc Y Y ?_;refine loop (ι:=Nat×Nat×(List Bs)×Value) [0,2,6,7,8] [] (λ⟨f,k,out,u_out⟩=>[(3, .osl 0),(4, .int .i64 (f:Int)),(5, .int .i64 (k:Int))]) (λ⟨f,k,out,u_out⟩=>[(0, .arr u_out 1 9 strc out)]) (λ⟨f,k,out,u_out⟩=>f<=k/\k<=s.length/\dots s=out++dots (s.drop f)/\Ij_ s f k/\out.length<=k) (λ⟨f,k,out,u_out⟩=>s.length-k) ⟨0,0,[],(.slice none 0 0)⟩ ⟨Y,Y,Y,Z⟩ ⟨Y,Z⟩ ?_ ?_;exact⟨Nat.le_refl _,CR _,rfl,Hq_,CR _⟩;rintro⟨f,k,out,u_out⟩ hp0;obtain⟨hk1,hk2,hk3,hk4,hk5⟩:=hp0;refine kN 9 (λp2=>?_) λp3=>?_;have :=u8r (s.getD k 0);refine jA 8 Y<|q1 (sidx X_ k Y Y Y Y Y xN) Y λw0=>kN 3 (λp4=>?_) λp5=>?_;refine jA 6 Y<|q1 (ssl X_ f k Y Y Y Y Y Y Y xN xN) Y λw1=>ef (bsl 1 strc [((s.drop f).take (k-f))] X_ Y Y Y Y Y (λ_=>rfl) Y xQ xQ Y λu0=>?_);refine ef (app X_ [((s.drop f).take (k-f))] Y Y Y Y Y Y Y Y Y (src_o Y Y) wB Y λu1=>?_);refine kC 15 ?_;refine next ⟨(k+1),(k+1),(out++[((s.drop f).take (k-f))]),(u1)⟩ Y Y ⟨Y,Y,Y,Z⟩ ⟨Y,Z⟩ ?_ ?_
 (try simp only[]);omega
 (try simp only[])
 refine⟨by omega,by omega,N4_ hk3 hk4 xN xN (byteEq (n:=46) xN xN),Hq_,by simp;omega⟩;refine kC 8 ?_;refine next ⟨f,(k+1),out,(u_out)⟩ Y Y ⟨Y,Y,Y,Z⟩ ⟨Y,Z⟩ ?_ ?_
 (try simp only[]);omega
 exact⟨by omega,by omega,hk3,Kp_ hk4 (byteNe (n:=46) xN xN),by omega⟩;refine jA 10 Y<|q1 (sslo X_ f Y Y Y Y Y xN) Y λw0=>ef (bsl 1 strc [(s.drop f)] X_ Y Y Y Y Y (λ_=>rfl) Y xQ xQ Y λu0=>?_);refine ef (app X_ [(s.drop f)] Y Y Y Y Y Y Y Y Y (src_o Y Y) wB Y λu1=>?_);refine kA 3 ?_;refine givec 0 Y<|kR 1 ?_;have hne:¬s=[]:=λq=>by subst q;simp at *
 have e:A8_ s=(out++[(s.drop f)]):=by unfold A8_;rw[if_neg hne];exact N3_ hk3 hk4 xN
 first|(rw[e];done)|(rw[e];rfl)
theorem r4_Key(s:Bs)(pattern:Bool):Fn prog gb 39 [.str s, .bool pattern] (.int .i64 (keyE (V_ pattern) s)):=by
 refine kG func39 ntmps39 λw N H hG=>?_;refine kM 13 (λh0=>?_) (λh0=>?_);have p0:=dt h0;refine kR 7 ?_;unfold keyE;rw[if_pos xN];have p0:=df h0;refine kL 6 (Pq_ _) Y Y Y λw0=>kA 5 ?_;refine loop (ι:=Nat) [0,1,9,10,11,12,13,14] [] (λk=>[(15, .int .i64 (k:Int))]) (λk=>[]) (λk=>k<=(A8_ s).length/\(A8_ s).any (If_ (V_ pattern))=((A8_ s).drop k).any (If_ (V_ pattern))) (λk=>(A8_ s).length-k) 0 ⟨Y,Z⟩ Z ?_ ?_;exact⟨Nat.zero_le _,by simp⟩;rintro k hp0;obtain⟨hk1,hk2⟩:=hp0;have hwl:=P9_ s;refine kM 6 (λh1=>?_) (λh1=>?_)
 . have p1:=dt h1;obtain⟨c8,hc0⟩:=getE (xs:=A8_ s) (m:=k) xN;have c8_l:c8.length<=9223372036854775807:=(w0.2 c8 (List.mem_of_getElem? hc0)).1;refine jA 6 Y<|kI k hc0 λw1=>?_;refine kA 19 ?_;refine loop (ι:=Nat×Bool) [0,1,6,9,10,11,12,13,14,15,16,17,18,19,20,21] [] (λ⟨j,b⟩=>[(7, .bool b),(8, .int .i64 (j:Int))]) (λ⟨j,b⟩=>[]) (λ⟨j,b⟩=>j<=c8.length/\(decide ((c8.length:Int)=0)||!plain c8)=(b||!((c8.drop j).all (λc=>letter c.toNat)))) (λ⟨j,b⟩=>c8.length-j) ⟨0,(decide ((c8.length:Int)=0))⟩ ⟨Y,Y,Z⟩ Z ?_ ?_
   exact zG
   rintro⟨j,b⟩ hp1;obtain⟨hj1,hj2⟩:=hp1;refine kM 9 (λh2=>?_) (λh2=>?_)
   have p2:=dt h2;have :=u8r (c8.getD j 0);refine kA 9 ?_;refine q1g [30,31] Y (λhc=>sidx X_ j Y Y Y Y Y (by first|omega|(simp only[gOf,bl2] at *;omega))) ⟨(λhc=>hc),(λhc=>hc),trivial⟩ Y Y Y λ_=>?_;refine callg Y (λhc=>(Hv_ _)) Y ⟨(λhc=>hc),trivial⟩ Y Y λ_=>kC 11 ?_;refine next ⟨(j+1),(b||(!(letter ((c8.getD j 0).toNat:Int))))⟩ Y Y ⟨Y,Y,Z⟩ Z ?_ ?_
   (try simp only[]);omega
   refine⟨by omega,?_⟩
   rw[hj2,Dp_ (k:=j) xN]
   simp only[*,Bool.true_or,Bool.false_or,Bool.not_and,EH,Bool.not_false,GD,EU,Bool.or_assoc]
   have p2:=df h2;refine kC 22 ?_;refine cnd Y (λh3=>?_) (λh3=>?_)
   . have h4:=bl h3;have h5:=br h3;have h6:=Mv_ h5;refine kR 11 ?_
     rw[BY xN] at hj2
     have hX:=hj2
     simp only[GT,EH,GI] at hX
     have hb:If_ (V_ pattern) c8=true:=by rw[Hh_ hX];first|(simp[*];done)|(simp_all;done)|(cases pattern<;>simp_all;done)|grind
     unfold keyE
     rw[if_neg xN,hk2,Fj_ hc0,GJ,hb]
     rfl
   refine kC 7 ?_;refine next (k+1) Y Y ⟨Y,Z⟩ Z ?_ ?_
   omega
   refine⟨by omega,?_⟩
   rw[BY xN] at hj2
   have hX:=hj2
   simp only[GT,EH,GI] at hX
   have hb:If_ (V_ pattern) c8=false:=by rw[Hh_ hX];first|(simp[*];done)|(simp_all;done)|(cases pattern<;>simp_all;done)|grind
   rw[hk2,Fj_ hc0,GJ,hb]
   simp
 have p1:=df h1;refine kR 11 ?_;unfold keyE;exact yQ
theorem mixd:prog.follows .mixedOrders=true:=by kernel_rfl
abbrev ty3zn:TI:=⟨.int .i64,1,8,[.int .i64 0]⟩
abbrev ty28zn:TI:=⟨.int .u64,1,8,[.int .u64 0]⟩
abbrev ty36zn:TI:=⟨.slc 3,1,24,[.sl i64c []]⟩
abbrev ty39zn:TI:=⟨.agg [(0,1),(1,1),(2,1),(3,1),(4,1)],5,88,[.int .i64 0, .int .i64 0, .sl K5_.pc [], .sl i64c [], .sl K3_.pc []]⟩
def tbzn:Tb:=[(3,ty3zn),(28,ty28zn),(36,ty36zn),(39,ty39zn)]
theorem D4_:tbB prog tbzn=true:=by kernel_rfl
def gb0:Gb:=⟨λ_=>True,λ_ _ _ _=>trivial⟩
theorem At_v(wk gv:Int)(v1 v2:Value)(zs:List Int)(tick:Int)(hs:0<zs.length)(hl:zs.length<=1000):Fn prog gb0 145 [.agg [.int .i64 wk, .int .i64 gv, .usl v1, .sl i64c zs, .usl v2], .int .u64 tick] (.int .i64 (gt zs ((tick%(zs.length:Int))).toNat)):=by
 refine fC func145 D4_ ntmps145 λw N H hG=>?_;have tick_r:0<=tick/\tick<=18446744073709551615:=w.2.1;have hem:=Int.emod_lt_of_pos tick (show (0:Int)<zs.length by omega);have hen:=Int.emod_nonneg tick (show (zs.length:Int)≠0 by omega);refine gm D4_ 7 [0] λB0=>?_;refine aN [1,2,3,4,5,6] 11 (show prog.follows .mixedOrders=true by kernel_rfl) ?_;refine gX D4_ [0,1,2,3,4,5] 5 ?_;refine vE 6 Y (eqy (qconv D4_ Y Y Y Y (rg_u64 xN)) Y λw0=>?_);refine gXy D4_ [7] 3 ?_;have hc0:=getG (xs:=zs) (k:=((tick%(zs.length:Int))).toNat) xN;refine vq 8 (qidx D4_ ((tick%(zs.length:Int))).toNat Y Y xN hc0 Y Y Y Y) Y xO Y λw1=>?_;refine gX D4_ [9,10] 0 ?_;refine vD ?_;refine gx D4_ 2 ?_;exact rt1 Y Y (ple Y)
end Go.SW.V
namespace Go.Proofs
open Go.RowKit Go.Shelf Go.SW
theorem At_w(w:World)(wk gv:Int)(rk:-9223372036854775808<=wk/\wk<=9223372036854775807)(rg:-9223372036854775808<=gv/\gv<=9223372036854775807)(v1 v2:Value)(o1:v1.oneCell'=true)(o2:v2.oneCell'=true)(b off cap:Nat)(zs:List Int)(hz:∀ z∈zs,-9223372036854775808<=z/\z<=9223372036854775807)
   (h0:0<zs.length) (hl:zs.length<=1000) (hcap:zs.length<=cap) (c:Array Value) (T:TypeId) (fr:Nat×Nat) (hb:w.heap[b]? = some (.cells c T fr)) (hc:∀ j,j<zs.length->c[off+j]? = some (.int .i64 (V.gt zs j))) (t:Nat) (ht:t<=18446744073709551615) :
   Calls prog 145 #[.agg #[.int .i64 wk, .int .i64 gv,v1, .slice (some ⟨b,off,none⟩) zs.length cap,v2], .int .u64 t] w λe w'=>e = .returned (.int .i64 (V.gt zs (t%zs.length)))/\Below w.heap.size w w':=by
 have hs:Sim (hp w) (.sl i64c zs) (.slice (some ⟨b,off,none⟩) zs.length cap):=by
   refine Sim.sl 1 (λi=>[.int .i64 (V.gt zs i)]) hcap xN (λi x hx=>?_) (λi x j p v hx hp hv=>?_)
   . have hi:i<zs.length:=by
       rcases DB i zs.length with q|q
       . exact q
       . rw[BQ q] at hx;cases hx
     refine⟨rfl,⟨b,off,_,_,c,T,fr,rfl,hb,rfl,λj hj=>?_⟩,λu hu=>by rw[List.mem_singleton.1 hu];rfl⟩
     obtain rfl :j=0:=by omega
     rw[show off+i*1+0=off+i by omega,hc i hi];rfl
   . have hi:i<zs.length:=by
       rcases DB i zs.length with q|q
       . exact q
       . rw[BQ q] at hx;cases hx
     rw[V.getG hi] at hx;cases hx
     cases j with
     |zero=>cases hp;cases hv;have :=hz _ (V.gt_mem hi);exact Sim.int this.1 this.2
     |succ j=>cases hp
 have ht':IntKind.min .u64<=(t:Int)/\(t:Int)<=IntKind.max .u64:=by
   show (0:Int)<=t/\(t:Int)<=18446744073709551615
   omega
 have h:=(V.At_v wk gv v1 v2 zs t h0 hl).run (Nr_ w) (hp w) l0 w [.agg #[.int .i64 wk, .int .i64 gv,v1, .slice (some ⟨b,off,none⟩) zs.length cap,v2], .int .u64 t] Z
   (Sims.cons (Sim.toAgg (vs:=[.int .i64 wk, .int .i64 gv,v1, .slice (some ⟨b,off,none⟩) zs.length cap,v2]) (Sims.cons (Sim.int rk.1 rk.2) (Sims.cons (Sim.int rg.1 rg.2) (Sims.cons (Sim.usl o1) (Sims.cons hs (Sims.cons (Sim.usl o2) Sims.nil)))))) (Sims.cons (Sim.int ht'.1 ht'.2) Sims.nil)) (mem0 w)
 refine h.mono λe w' ⟨v,H',e1,e2,e3,e4⟩=>?_;have hb':Below w.heap.size w w':=by
   have hk:∀ k,k<w.heap.size->w'.heap[k]? = w.heap[k]? :=λk hk=>by
     have e:w.heap[k]? = some w.heap[k]:=Array.getElem?_eq_getElem hk
     rw[e];exact e4.h k _ (e3 k _ e)
   refine⟨e4.os,e4.tape,e4.output,?_,hk⟩
   by_cases z:w.heap.size=0
   . omega
   . have :=hk (w.heap.size-1) xN
     exact yJ
 refine⟨?_,hb'⟩;rw[e1]
 cases e2
 rw[show ((t:Int)%(zs.length:Int)).toNat=t%zs.length by rw[<- Int.natCast_emod];rfl]
end Go.Proofs
namespace Go.Proofs
open Go.RowKit Go.Shelf
attribute [local go_sem] Oper.semAt_some
def upF{α:Type}(f:Nat->α)(k:Nat):List α:=(List.range k).map f
theorem Ef_{α:Type}(f:Nat->α)(k:Nat):upF f (k+1)=upF f k++[f k]:=by simp[upF,List.range_succ]
theorem Cr_{α:Type}(f:Nat->α)(k:Nat):(upF f k).length=k:=by simp[upF]
def fN(zs:List Int)(t0:Nat)(j:Nat):Int×Int:=((t0:Int)+(j:Int),Go.SW.V.gt zs ((t0+j)%zs.length))
/-- What a round keeps: two blocks. -/
structure KpS(b Bp:Nat)(W W':World):Prop where
 size:W.heap.size<=W'.heap.size
 kb:W'.heap[b]? = W.heap[b]?
 kp:W'.heap[Bp]? = W.heap[Bp]?
theorem KpS.refl{b Bp:Nat}(W:World):KpS b Bp W W:=⟨Nat.le_refl _,rfl,rfl⟩
theorem KpS.trans{b Bp:Nat}{A B C:World}(h:KpS b Bp A B)(k:KpS b Bp B C):KpS b Bp A C:=⟨Nat.le_trans h.size k.size,k.kb.trans h.kb,k.kp.trans h.kp⟩
theorem All1_in(n:Nat)(hn:1<=n)(l Bt Bp b off cap:Nat)(wk gv:Int)(rk:-9223372036854775808<=wk/\wk<=9223372036854775807)(rg:-9223372036854775808<=gv/\gv<=9223372036854775807)(v1 v2:Value)(o1:v1.oneCell'=true)(o2:v2.oneCell'=true)(zs:List Int)(hz:∀ z∈zs,-9223372036854775808<=z/\z<=9223372036854775807)
   (h0:0<zs.length) (hl:zs.length<=1000) (hcap:zs.length<=cap) (c:Array Value) (T:TypeId) (fr:Nat×Nat) (hcc:∀ j,j<zs.length->c[off+j]? = some (.int .i64 (Go.SW.V.gt zs j))) (t0:Nat) (ht:t0<=18446744073709551615)
   (J Jx:List (Int×Int)->World->Prop)
   (hY:∀ pre x W,J pre W->pre.length<18446744073709551616->YieldAt Fence.wide (n-1) prog l #[.int .u64 x.1, .int .i64 x.2] W λe W'=>
     (e = .returned (.bool true)/\J (pre++[x]) W'/\KpS b Bp W W')\/(e = .returned (.bool false)/\Jx (pre++[x]) W'))
   (W:World) (hb:W.heap[b]? = some (.cells c T fr)) (hBt:W.cell? ⟨Bt,0,none⟩=some (.int .u64 t0)) (hBp:W.heap[Bp]? = some (.cells #[.int .i64 wk, .int .i64 gv,v1, .slice (some ⟨b,off,none⟩) zs.length cap,v2] 39)) (hJa:AbidesFrom W.heap.size J) (hJ:J [] W) :
   CallsIn Fence.wide n prog 313 #[.func (.yield l) #[] #[], .pointer (some ⟨Bt,0,none⟩), .pointer (some ⟨Bp,0,none⟩)] W λe W'=>(∃ v,e = .returned v) /\
     ((∃ ys,(∃ k,t0+k=18446744073709551616/\ys=upF (fN zs t0) k)/\J ys W')\/(∃ pre,(∃ k,t0+k<=18446744073709551616/\pre=upF (fN zs t0) k)/\Jx pre W')):=by
 refine callsIn_of_wp func313 Y Z ?_ Y
 simp only[ntmps313,DP,AE,BT,EO,EP,CW,CX,DQ,D8,CB,C6]
 gi_wp2
 gi_loopw [4] (λi wr=>∃ k:Nat,t0+k<=18446744073709551615/\i = .int .u64 ((t0:Int)+(k:Int))/\J (upF (fN zs t0) k) wr/\KpS b Bp W wr)
   (λi _=>18446744073709551615-(intOf i).toNat)
 case atStart=>exact⟨0,by omega,rfl,hJ,KpS.refl _⟩
 case round=>
   obtain⟨k,hk,rfl,hJs,hnx⟩:=hrel
   have hbr:wr.heap[b]? = some (.cells c T fr):=hnx.kb.trans hb
   have hpr:wr.heap[Bp]? = some (.cells #[.int .i64 wk, .int .i64 gv,v1, .slice (some ⟨b,off,none⟩) zs.length cap,v2] 39):=hnx.kp.trans hBp
   have p0:wr.cell? ⟨Bp,0,none⟩=some (.int .i64 wk):=by simp[B2,hpr]
   have p1:wr.cell? ⟨Bp,1,none⟩=some (.int .i64 gv):=by simp[B2,hpr]
   have p2:wr.cell? ⟨Bp,2,none⟩=some v1:=by simp[B2,hpr]
   have p3:wr.cell? ⟨Bp,3,none⟩=some (.slice (some ⟨b,off,none⟩) zs.length cap):=by simp[B2,hpr]
   have p4:wr.cell? ⟨Bp,4,none⟩=some v2:=by simp[B2,hpr]
   gi_wp2
   rw[show (t0:Int)+(k:Int)=((t0+k:Nat):Int) by omega]
   refine⟨trivial,(callsIn_wide.2 (At_w wr wk gv rk rg v1 v2 o1 o2 b off cap zs hz h0 hl hcap c T fr hbr hcc (t0+k) hk)).mono ?_⟩
   rintro e W2 ⟨rfl,hB2⟩
   have hJ2:=hJa _ wr W2 none hJs ⟨hB2.os,hB2.tape,hB2.output,hB2.size,λj hj _=>hB2.block j hj⟩ (λr e=>by cases e)
   have hn2:KpS b Bp W W2:=hnx.trans ⟨hB2.size,hB2.block _ (Array.getElem?_eq_some_iff.1 hbr).1,hB2.block _ (Array.getElem?_eq_some_iff.1 hpr).1⟩
   obtain⟨fn,tmps,assign,body,hy,hR⟩:=hY _ (fN zs t0 k) W2 hJ2 (by rw[Cr_];omega)
   dsimp only[fN] at hy
   gi_wp2
   refine hR.mono ?_
   rintro e W3 (⟨rfl,hJ3,hk3⟩|⟨rfl,hJx3⟩)
   . by_cases hmax:t0+k=18446744073709551615
     . gi_wp2
       refine bodyPost_ret (results_none Y _ _ _) Y ?_
       exact⟨⟨_,rfl⟩, .inl ⟨_,⟨k+1,by omega,(Ef_ _ _).symm⟩,hJ3⟩⟩
     . gi_wp2
       refine⟨⟨k+1,by omega,by rw[show ((k+1:Nat):Int)=(k:Int)+1 by omega,Int.add_assoc],by rw[Ef_];exact hJ3,hn2.trans hk3⟩,?_⟩
       simp only[intOf];omega
   . gi_wp2
     go_end0
     exact⟨⟨_,rfl⟩, .inr ⟨_,⟨k+1,by omega,(Ef_ _ _).symm⟩,hJx3⟩⟩
theorem Kf_(n:Nat)(hn:1<=n)(Bt Bp b off cap:Nat)(wk gv:Int)(rk:-9223372036854775808<=wk/\wk<=9223372036854775807)(rg:-9223372036854775808<=gv/\gv<=9223372036854775807)(v1 v2:Value)(o1:v1.oneCell'=true)(o2:v2.oneCell'=true)(zs:List Int)(hz:∀ z∈zs,-9223372036854775808<=z/\z<=9223372036854775807)
   (h0:0<zs.length) (hl:zs.length<=1000) (hcap:zs.length<=cap) (c:Array Value) (T:TypeId) (fr:Nat×Nat) (hcc:∀ j,j<zs.length->c[off+j]? = some (.int .i64 (Go.SW.V.gt zs j))) (t0:Nat) (ht:t0<=18446744073709551615)
   (w:World) (hb:w.heap[b]? = some (.cells c T fr)) (hBt:w.heap[Bt]? = some (.cells #[.int .u64 t0] 28)) (hBp:w.heap[Bp]? = some (.cells #[.int .i64 wk, .int .i64 gv,v1, .slice (some ⟨b,off,none⟩) zs.length cap,v2] 39)) :
   SeqStopsK Fence.wide n prog 313 #[.pointer (some ⟨Bt,0,none⟩), .pointer (some ⟨Bp,0,none⟩)] (λx:Int×Int=>#[Value.int .u64 x.1, .int .i64 x.2]) (KpS b Bp) (λys=>∃ k,t0+k=18446744073709551616/\ys=upF (fN zs t0) k) (λpre=>∃ k,t0+k<=18446744073709551616/\pre=upF (fN zs t0) k) 18446744073709551616 w:=λl J Jx W hW hJa _ hY hJ=>by
 have hlt:∀ {k:Nat} {o:Obj},w.heap[k]? = some o->W.heap[k]? = some o:=λ{k o} h=>(hW.block k (Array.getElem?_eq_some_iff.1 h).1).trans h
 exact All1_in n hn l Bt Bp b off cap wk gv rk rg v1 v2 o1 o2 zs hz h0 hl hcap c T fr hcc t0 ht J Jx hY W (hlt hb) (by simp[B2,hlt hBt]) (hlt hBp) hJa hJ
attribute [local go_sem] Oper.semAt_some
theorem All_in(n:Nat)(w:World)(wk gv:Int)(v1 v2 v3:Value)(o1:v1.oneCell'=true)(o2:v2.oneCell'=true)(o3:v3.oneCell'=true)(t0:Nat) :
   CallsIn Fence.wide n prog 225 #[.agg #[.int .i64 wk, .int .i64 gv,v1,v3,v2], .int .u64 t0] w λe w'=>e = .returned (.func (.func 313) #[] #[.pointer (some ⟨w.heap.size+1,0,none⟩), .pointer (some ⟨w.heap.size,0,none⟩)])/\w'=(w.alloc (.cells #[.int .i64 wk, .int .i64 gv,v1,v3,v2] 39)).alloc (.cells #[.int .u64 t0] 28):=by
 refine callsIn_of_wp func225 Y Z ?_ Y;simp only[ntmps225,DP,AE,BT,EO,EP,CW,CX,DQ,D8,CB,C6]
 gi_wp2
 go_ret
 exact⟨rfl,rfl⟩
theorem cO{W:World}{a b:Addr}{v u:Value}(h:a.block≠b.block)(k:W.cell? b=some u):(W.setCell a v).cell? b=some u:=by
 rw[World.cell?_setCell_other _ _ _ _ (by rintro rfl;exact h Y)];exact k
theorem hN{w:World}{k:Nat}{o:Obj}(h:k=w.heap.size):(w.alloc o).heap[k]? = some o:=by rw[h];exact World.alloc_heap_new w o
theorem hO{w:World}{k:Nat}{o x:Obj}(h:w.heap[k]? = some x):(w.alloc o).heap[k]? = some x:=(Below.heap_alloc _ _ _ (Array.getElem?_eq_some_iff.1 h).1).trans h
theorem hC{w:World}{k j:Nat}{cs:Array Value}{T:TypeId}{fr:Nat×Nat}{v:Value}(h:w.heap[k]? = some (.cells cs T fr))(e:cs[j]? = some v):w.cell? ⟨k,j,none⟩=some v:=by simp[B2,h,e]
theorem hF{w:World}{k j:Nat}{cs:Array Value}{T:TypeId}{fr:Nat×Nat}(h:w.heap[k]? = some (.cells cs T fr))(e:fr=(0,0)):w.frozen? ⟨k,j,none⟩=false:=by subst e;simp[World.frozen?,h]
theorem cS{W:World}{a:Addr}{v u:Value}(k:W.cell? a=some u):(W.setCell a v).cell? a=some v:=World.cell?_setCell_same _ _ _ k
theorem fO{W:World}{a b:Addr}{v:Value}{c:Bool}(k:W.frozen? b=c):(W.setCell a v).frozen? b=c:=by
 rw[World.frozen?_setCell];exact k
theorem snN{pre:List (Int×Int)}{x:Int×Int}{place:Int}(h:∀ y∈pre,y.2≠place)(hx:x.2≠place):∀ y∈pre++[x],y.2≠place:=λy hy=>by
 rcases List.mem_append.1 hy with q|q
 . exact h y q
 . rw[List.mem_singleton.1 q];exact hx
theorem Next_in(n:Nat)(hn:2<=n)(w:World)(wk gv:Int)(rk:-9223372036854775808<=wk/\wk<=9223372036854775807)(rg:-9223372036854775808<=gv/\gv<=9223372036854775807)(v1 v2:Value)(o1:v1.oneCell'=true)(o2:v2.oneCell'=true)(b off cap:Nat)(zs:List Int)(hz:∀ z∈zs,-9223372036854775808<=z/\z<=9223372036854775807)
   (h0:0<zs.length) (hl:zs.length<=1000) (hcap:zs.length<=cap) (c:Array Value) (T:TypeId) (fr:Nat×Nat) (hb:w.heap[b]? = some (.cells c T fr)) (hcc:∀ j,j<zs.length->c[off+j]? = some (.int .i64 (Go.SW.V.gt zs j))) (place:Int) (t0:Nat) (ht:t0+zs.length<=18446744073709551615) :
   CallsIn Fence.wide n prog 162 #[.agg #[.int .i64 wk, .int .i64 gv,v1, .slice (some ⟨b,off,none⟩) zs.length cap,v2], .int .i64 place, .int .u64 t0] w λe w'=>
     ((∃ k,k<zs.length/\(∀ j,j<k->(fN zs t0 j).2≠place)/\(fN zs t0 k).2=place/\e = .returned (.tuple #[.int .u64 (fN zs t0 k).1, .bool true]))\/((∀ j,j<zs.length->(fN zs t0 j).2≠place)/\e = .returned (.tuple #[.int .u64 0, .bool false])))/\Below w.heap.size w w':=by
 have h1:1<=n:=by omega
 refine callsIn_of_wp_marks func162 Y Z ?_ Y;simp only[ntmps162,DP,AE,BT,EO,EP,CW,CX,DQ,D8,CB,C6]
 gi_wp2
 refine⟨trivial,(All_in (n-1) _ wk gv v1 v2 _ o1 o2 Y t0).mono ?_⟩;rintro e W1 ⟨rfl,rfl⟩
 gi_wp2
 refine wpIn_rangeFunc_ownF Y h1 (gf:=313) Y Z (enters_of func313 xO Y)
   (Kf_ (n-1) xN (w.heap.size+1+1+1+1+1+1) (w.heap.size+1+1+1+1+1) b off cap wk gv rk rg v1 v2 o1 o2 zs hz h0 hl hcap c T fr hcc t0 xN _ ?hb ?hBt ?hBp)
   (λh k=>h.trans k) ?hKb (Below.refl _ _) (λ_=>rfl)
   (λpre W=>(W.cell? ⟨w.heap.size,3,none⟩=some (.slice (some ⟨b,off,none⟩) zs.length cap)/\W.cell? ⟨w.heap.size+1,0,none⟩=some (.int .i64 place)/\(W.cell? ⟨w.heap.size+1+1,0,none⟩=some (.int .u64 0)/\W.frozen? ⟨w.heap.size+1+1,0,none⟩=false)/\(W.cell? ⟨w.heap.size+1+1+1,0,none⟩=some (.bool false)/\W.frozen? ⟨w.heap.size+1+1+1,0,none⟩=false)/\W.cell? ⟨w.heap.size+1+1+1+1,0,none⟩=some (.int .i64 pre.length)/\W.frozen? ⟨w.heap.size+1+1+1+1,0,none⟩=false)/\((∀ y∈pre,y.2≠place)/\pre.length<zs.length)/\Below w.heap.size w W)
   (λc pre W=>((c = .ret/\∃ p0 x,pre=p0++[x]/\(∀ y∈p0,y.2≠place)/\x.2=place/\p0.length<zs.length/\W.cell? ⟨w.heap.size+1+1,0,none⟩=some (.int .u64 x.1)/\W.cell? ⟨w.heap.size+1+1+1,0,none⟩=some (.bool true))\/(c = .exit 0/\(∀ y∈pre,y.2≠place)/\pre.length=zs.length/\(W.cell? ⟨w.heap.size+1+1,0,none⟩=some (.int .u64 0)/\W.frozen? ⟨w.heap.size+1+1,0,none⟩=false)/\(W.cell? ⟨w.heap.size+1+1+1,0,none⟩=some (.bool false)/\W.frozen? ⟨w.heap.size+1+1+1,0,none⟩=false)))/\Below w.heap.size w W)
   ?hI ?hIx ?hI0
   (λx=>{tmps:=#[.agg #[BM .i64 wk, .int .i64 gv,v1, .slice (some ⟨b,off,none⟩) zs.length cap,v2], .int .i64 place, .int .u64 t0, .pointer (some ⟨w.heap.size,0,none⟩), .pointer (some ⟨w.heap.size+1,0,none⟩),undef, .pointer (some ⟨w.heap.size+1+1,0,none⟩), .pointer (some ⟨w.heap.size+1+1+1,0,none⟩), .pointer (some ⟨w.heap.size+1+1+1+1,0,none⟩), .int .u64 x.1, .int .i64 x.2, .agg #[BM .i64 wk, .int .i64 gv,v1, .slice (some ⟨b,off,none⟩) zs.length cap,v2], .int .u64 t0, .func (.func 313) #[] #[.pointer (some ⟨w.heap.size+1+1+1+1+1+1,0,none⟩), .pointer (some ⟨w.heap.size+1+1+1+1+1,0,none⟩)], .int .u64 x.1, .int .i64 x.2,undef,undef,undef,undef,undef,undef,undef,undef,undef,undef,undef],defers:=[]}) ?assign ?body ?done ?stop
 case assign=>
   intro l x W K hK
   gi_wp2
   exact hK
 case hb=>
   exact (Below.block ((((((((Below.refl _ w).alloc xP _).alloc xP _).alloc xS _).alloc xS _).alloc xS _).alloc xS _).alloc xS _) b (Array.getElem?_eq_some_iff.1 hb).1).trans hb
 case hBt=>exact hN xP
 case hBp=>exact hO (hN xP)
 case hKb=>
   intro W l o o' hl _ _ _
   simp only[CJ] at hl
   have hbl:=(Array.getElem?_eq_some_iff.1 hb).1
   exact⟨by simp[World.putObj],EI xN,EI xN⟩
 case hI=>
   intro s A B row hs hg hr
   have hr':=λr e=>(hr r e).2
   obtain⟨⟨c0,cp,⟨ca,fa⟩,⟨cb,fb⟩,ci,fi⟩,hne,hB⟩:=hs
   exact⟨⟨cell_kept c0 hg hr',cell_kept cp hg hr',⟨cell_kept ca hg hr',(frozen_kept ca hg hr').trans fa⟩,⟨cell_kept cb hg hr',(frozen_kept cb hg hr').trans fb⟩,cell_kept ci hg hr',(frozen_kept ci hg hr').trans fi⟩,hne,hB.grown hg hB.size (λk e=>by have :=(hr k e).1;simp only[CJ] at this;omega)⟩
 case hIx=>
   intro c s A B row hs hg hr
   have hr':=λr e=>(hr r e).2
   obtain⟨hs,hB⟩:=hs
   refine⟨?_,hB.grown hg hB.size (λk e=>by have :=(hr k e).1;simp only[CJ] at this;omega)⟩
   rcases hs with ⟨rfl,p0,x,e1,e2,e3,e4,e5,e6⟩|⟨rfl,e2,e3,⟨ca,fa⟩,⟨cb,fb⟩⟩
   . exact .inl ⟨rfl,p0,x,e1,e2,e3,e4,cell_kept e5 hg hr',cell_kept e6 hg hr'⟩
   . exact .inr ⟨rfl,e2,e3,⟨cell_kept ca hg hr',(frozen_kept ca hg hr').trans fa⟩,⟨cell_kept cb hg hr',(frozen_kept cb hg hr').trans fb⟩⟩
 case hI0=>
   refine⟨?_,⟨by simp,by simpa using h0⟩,?_⟩
   . exact⟨hC (hO (hO (hO (hO (hO (hO (hN xP))))))) rfl,hC (hO (hO (hO (hO (hO (hN xP)))))) rfl,⟨hC (hO (hO (hO (hO (hN xP))))) rfl,hF (hO (hO (hO (hO (hN xP))))) rfl⟩,⟨hC (hO (hO (hO (hN xP)))) rfl,hF (hO (hO (hO (hN xP)))) rfl⟩,hC (hO (hO (hN xP))) rfl,hF (hO (hO (hN xP))) rfl⟩
   . exact (((((((Below.refl _ w).alloc xP _).alloc xP _).alloc xS _).alloc xS _).alloc xS _).alloc xS _).alloc xS _
 case done=>
   rintro D xs W _ ⟨k,hk,rfl⟩ ⟨_,⟨_,h9⟩,_⟩ hK
   rw[Cr_] at h9
   omega
 case body=>
   rintro l pre x W ⟨⟨c0,cp,⟨ca,fa⟩,⟨cb,fb⟩,ci,fi⟩,⟨hne,hlt⟩,hB⟩ _
   have hbl:=(Array.getElem?_eq_some_iff.1 hb).1
   gi_wp2
   . rename_i hx
     exact⟨(C0 _ _ _).trans (C0 _ _ _), .inl ⟨rfl,pre,x,rfl,hne,by simpa using hx,hlt,cO xZ (cS ca),cS (cO xZ cb)⟩,(hB.setCell xS _).setCell xS _⟩
   . rename_i hx hy
     exact⟨KeepsOthers.setCell _ _ _, .inr ⟨rfl,snN hne (by simpa using hx),by simp;omega,⟨cO xZ ca,fO fa⟩,cO xZ cb,fO fb⟩,hB.setCell xS _⟩
   . rename_i hx hy
     exact⟨KeepsOthers.setCell _ _ _,⟨by simp[World.setCell],Below.heap_setCell _ _ _ _ xS,Below.heap_setCell _ _ _ _ xP⟩,⟨cO xZ c0,cO xZ cp,⟨cO xZ ca,fO fa⟩,⟨cO xZ cb,fO fb⟩,by rw[List.length_append];exact cS ci,fO fi⟩,⟨snN hne (by simpa using hx),by simp;omega⟩,hB.setCell xS _⟩
 case stop=>
   rintro D c pre W hD ⟨k,_,rfl⟩ ⟨hs,hB⟩ hK
   simp only[CJ] at hD
   rcases hs with ⟨rfl,p0,x,e1,e2,e3,e4,e5,e6⟩|⟨rfl,e2,e3,⟨ca,fa⟩,⟨cb,fb⟩⟩
   . gi_wp2
     refine⟨by simp, .inl ⟨_,_,rfl,run_takeDeferred hK,?_⟩⟩
     have h5:=cell_kept e5 (grownBy_putObj' _ D (.deferred none)) (λr e=>by cases e;exact⟨_,hK,rfl⟩)
     have h6:=cell_kept e6 (grownBy_putObj' _ D (.deferred none)) (λr e=>by cases e;exact⟨_,hK,rfl⟩)
     have hk:k=p0.length+1:=by have :=congrArg List.length e1;simpa [Cr_] using this
     rw[hk,Ef_] at e1
     obtain⟨q1,q2⟩:=List.append_inj' e1 Y
     have q3:x=fN zs t0 p0.length:=(List.cons.inj q2).1.symm
     refine⟨.tuple #[.int .u64 x.1, .bool true],?_, .inl ⟨p0.length,e4,λj hj=>e2 _ (by rw[<- q1];simp only[upF,GU,GE];exact⟨j,hj,rfl⟩),by rw[<- q3];exact e3,by rw[<- q3]⟩,hB.grown (grownBy_putObj' W D _) hB.size (λr e=>by cases e;omega)⟩
     simp[results,Tryz.f162,go_sem,h5,h6]
   . gi_wp2
     have hK':=((C0 W ⟨w.heap.size+1+1,0,none⟩ (.int .u64 0)).trans (C0 _ ⟨w.heap.size+1+1+1,0,none⟩ (.bool false))).same D _ hK Y
     refine⟨by simp, .inl ⟨_,_,rfl,run_takeDeferred hK',?_⟩⟩
     have h5:=cell_kept (cO (b:=⟨w.heap.size+1+1,0,none⟩) (a:=⟨w.heap.size+1+1+1,0,none⟩) (v:= .bool false) xP (cS (v:= .int .u64 0) ca)) (grownBy_putObj' _ D (.deferred none)) (λr e=>by cases e;exact⟨_,hK',rfl⟩)
     have h6:=cell_kept (cS (v:= .bool false) (cO (b:=⟨w.heap.size+1+1+1,0,none⟩) (a:=⟨w.heap.size+1+1,0,none⟩) (v:= .int .u64 0) xP cb)) (grownBy_putObj' _ D (.deferred none)) (λr e=>by cases e;exact⟨_,hK',rfl⟩)
     rw[Cr_] at e3
     refine⟨.tuple #[.int .u64 0, .bool false],?_, .inr ⟨λj hj=>e2 _ (by simp only[upF,GU,GE];exact⟨j,by omega,rfl⟩),rfl⟩,((hB.setCell xS _).setCell xS _).grown (grownBy_putObj' _ D _) ((hB.setCell xS _).setCell xS _).size (λr e=>by cases e;omega)⟩
     simp[results,Tryz.f162,go_sem,h5,h6]
end Go.Proofs
